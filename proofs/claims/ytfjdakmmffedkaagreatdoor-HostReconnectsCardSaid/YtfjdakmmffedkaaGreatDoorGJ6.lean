/-
 The row's closed facts, as the form asks them. Conditions: none.
-/
import Derived.Test.YtfjdakmmffedkaaGreatDoorGJ2
import Derived.Test.YtfjdakmmffedkaaGreatDoorGJ3
import Derived.Test.YtfjdakmmffedkaaGreatDoorGJ4
import Derived.Test.YtfjdakmmffedkaaGreatDoorGC5
namespace Go.Proofs.YtfjdakmmffedkaaGreatDoor
open Go Go.Proofs
set_option maxRecDepth 100000
theorem joined : joinedFacts Tryz.prog 4 Tryz.f4 Rows.hostReconnectsSpec Rows.hostReconnectsRow = true := by
 unfold joinedFacts
 rw [j_wf, Qqf, Z5e, Qvi, j_tie, Qyg, Qvg, Qyk, Qvh, Qjo, Qel, Qi1, named_ok, Qvj, Qvm, Qt4, Qyi, Z5c, Z5d, j_res, Qym, Qrm, Qqa, Qyh, Qyn, Qyo, Qvl, Z5f, Qvf, Qrl]
 rfl
theorem Qyp : false = Rows.hostReconnectsRow.goesBy Tryz.prog := by
 have h : Rows.hostReconnectsRow.goesBy Tryz.prog = (((Tryz.prog.funcNamed "stagepost/stagepostlaw25.HostReconnects").any Tryz.prog.goes) || false) := rfl
 rw [h, Qt5]
 rw [Option.any_some, goes_eq]
 rfl
end Go.Proofs.YtfjdakmmffedkaaGreatDoor
