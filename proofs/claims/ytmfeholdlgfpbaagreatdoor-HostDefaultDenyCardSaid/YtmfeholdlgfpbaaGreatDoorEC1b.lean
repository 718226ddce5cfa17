/-
 The closure, some steps of it. Conditions: none.
-/
import Derived.Test.YtmfeholdlgfpbaaGreatDoorEC0
namespace Go.Proofs.YtmfeholdlgfpbaaGreatDoor
open Go Go.Proofs
set_option maxRecDepth 100000
theorem cs5 (m:Nat):Tryz.prog.closureVia (m+100) td5 sn5=Tryz.prog.closureVia m td6 sn6:=by kernel_rfl
theorem cs6 (m:Nat):Tryz.prog.closureVia (m+100) td6 sn6=Tryz.prog.closureVia m td7 sn7:=by kernel_rfl
theorem cs7 (m:Nat):Tryz.prog.closureVia (m+100) td7 sn7=Tryz.prog.closureVia m td8 sn8:=by kernel_rfl
theorem cs8 (m:Nat):Tryz.prog.closureVia (m+100) td8 sn8=Tryz.prog.closureVia m td9 sn9:=by kernel_rfl
theorem cs9 (m:Nat):Tryz.prog.closureVia (m+100) td9 sn9=Tryz.prog.closureVia m td10 sn10:=by kernel_rfl
end Go.Proofs.YtmfeholdlgfpbaaGreatDoor
