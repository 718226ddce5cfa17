/-
 The closure, some steps of it. Conditions: none.
-/
import Derived.Test.YtmfeholdlgfpbaaGreatDoorEC0
namespace Go.Proofs.YtmfeholdlgfpbaaGreatDoor
open Go Go.Proofs
set_option maxRecDepth 100000
theorem cs0 (m:Nat):Tryz.prog.closureVia (m+100) td0 sn0=Tryz.prog.closureVia m td1 sn1:=by kernel_rfl
theorem cs1 (m:Nat):Tryz.prog.closureVia (m+100) td1 sn1=Tryz.prog.closureVia m td2 sn2:=by kernel_rfl
theorem cs2 (m:Nat):Tryz.prog.closureVia (m+100) td2 sn2=Tryz.prog.closureVia m td3 sn3:=by kernel_rfl
theorem cs3 (m:Nat):Tryz.prog.closureVia (m+100) td3 sn3=Tryz.prog.closureVia m td4 sn4:=by kernel_rfl
theorem cs4 (m:Nat):Tryz.prog.closureVia (m+100) td4 sn4=Tryz.prog.closureVia m td5 sn5:=by kernel_rfl
end Go.Proofs.YtmfeholdlgfpbaaGreatDoor
