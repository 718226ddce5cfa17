/-
 The row's closed facts, as the form asks them. Conditions: none.
-/
import Derived.Test.YtmjjaldodkokbaaGreatDoorHJ2
import Derived.Test.YtmjjaldodkokbaaGreatDoorHJ3
import Derived.Test.YtmjjaldodkokbaaGreatDoorHJ4
import Derived.Test.YtmjjaldodkokbaaGreatDoorHC5
namespace Go.Proofs.YtmjjaldodkokbaaGreatDoor
open Go Go.Proofs
set_option maxRecDepth 100000
theorem joined : joinedFacts Tryz.prog 4 Tryz.f4 Rows.hostHalfCloseSpec Rows.hostHalfCloseRow = true := by
 unfold joinedFacts
 rw [j_wf, Qs3, Z3i, Qve, j_tie, Qym, Qvc, Qyq, Qvd, Qkh, Qfe, Qit, named_ok, Qvf, Qvi, Qtv, Qyo, Z3g, Z3h, j_res, Qys, Qss, Qrw, Qyn, Qyt, Qyu, Qvh, Z3j, Qvb, Qsr]
 rfl
theorem Qyz : false = Rows.hostHalfCloseRow.goesBy Tryz.prog := by
 have h : Rows.hostHalfCloseRow.goesBy Tryz.prog = (((Tryz.prog.funcNamed "stagepost/stagepostlaw25.HostHalfClose").any Tryz.prog.goes) || false) := rfl
 rw [h, Qtw]
 rw [Option.any_some, goes_eq]
 rfl
end Go.Proofs.YtmjjaldodkokbaaGreatDoor
