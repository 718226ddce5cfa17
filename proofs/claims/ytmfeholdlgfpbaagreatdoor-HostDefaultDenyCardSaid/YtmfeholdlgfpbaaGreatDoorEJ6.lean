/-
 The row's closed facts, as the form asks them. Conditions: none.
-/
import Derived.Test.YtmfeholdlgfpbaaGreatDoorEJ2
import Derived.Test.YtmfeholdlgfpbaaGreatDoorEJ3
import Derived.Test.YtmfeholdlgfpbaaGreatDoorEJ4
import Derived.Test.YtmfeholdlgfpbaaGreatDoorEC5
namespace Go.Proofs.YtmfeholdlgfpbaaGreatDoor
open Go Go.Proofs
set_option maxRecDepth 100000
theorem joined:joinedFacts Tryz.prog 3 Tryz.f3 Rows.hostDefaultDenySpec Rows.hostDefaultDenyRow=true:=by unfold joinedFacts;rw [j_wf,Qwv,Zhe,Z2d,j_tie,Z6x,Z2b,Z71,Z2c,Qm1,Qgp,Qk7,named_ok,Z2e,Z2h,Qyl,Z6z,Zhc,Zhd,j_res,Z73,Qwy,Qud,Z6y,Z74,Z75,Z2g,Zhf,Z2a,Qwx];rfl
theorem Z76:false=Rows.hostDefaultDenyRow.goesBy Tryz.prog:=by have h:Rows.hostDefaultDenyRow.goesBy Tryz.prog=(((Tryz.prog.funcNamed "stagepost/stagepostlaw25.HostDefaultDeny").any Tryz.prog.goes)||false):=rfl;rw [h,Qym];rw [Option.any_some,goes_eq];rfl
end Go.Proofs.YtmfeholdlgfpbaaGreatDoor
