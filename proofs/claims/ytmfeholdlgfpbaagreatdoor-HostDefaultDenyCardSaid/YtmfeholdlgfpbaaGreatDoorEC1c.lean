/-
 The closure, some steps of it. Conditions: none.
-/
import Derived.Test.YtmfeholdlgfpbaaGreatDoorEC0
namespace Go.Proofs.YtmfeholdlgfpbaaGreatDoor
open Go Go.Proofs
set_option maxRecDepth 100000
theorem cs10 (m:Nat):Tryz.prog.closureVia (m+100) td10 sn10=Tryz.prog.closureVia m td11 sn11:=by kernel_rfl
theorem cs11 (m:Nat):Tryz.prog.closureVia (m+100) td11 sn11=Tryz.prog.closureVia m td12 sn12:=by kernel_rfl
theorem cs12 (m:Nat):Tryz.prog.closureVia (m+100) td12 sn12=Tryz.prog.closureVia m td13 sn13:=by kernel_rfl
theorem cs13 (m:Nat):Tryz.prog.closureVia (m+100) td13 sn13=Tryz.prog.closureVia m td14 sn14:=by kernel_rfl
theorem cs14 (m:Nat):Tryz.prog.closureVia (m+4) td14 sn14=Tryz.prog.closureVia m td15 sn15:=by kernel_rfl
end Go.Proofs.YtmfeholdlgfpbaaGreatDoor
