/-
  The row's closed facts, as the form asks them. Conditions: none.
-/
import Derived.Test.YtfjdakmmffedkaaGreatDoorDJ2
import Derived.Test.YtfjdakmmffedkaaGreatDoorDJ3
import Derived.Test.YtfjdakmmffedkaaGreatDoorDJ4
import Derived.Test.YtfjdakmmffedkaaGreatDoorDC5
namespace Go.Proofs.YtfjdakmmffedkaaGreatDoor
open Go Go.Proofs
set_option maxRecDepth 100000
theorem joined : joinedFacts Tryz.prog 3 Tryz.f3 Rows.hostConcurrentStreamsSpec Rows.hostConcurrentStreamsRow = true := by
  unfold joinedFacts
  rw [j_wf, laid_out, j_maps, j_params, j_tie, j_stops, j_pstops, j_knobs, j_pknobs, inPlace_ok, unfollowed_ok, recurses_ok, named_ok, j_mapsIn, j_ifaces, j_mapsOut, j_loops, j_wide, j_vars, j_res, j_ifOut, j_loopsOut, j_plainKeys, j_short, j_heard, j_enter, j_lifted, j_make, j_veiled, j_veilFits]
  rfl
theorem goes_ok : false = Rows.hostConcurrentStreamsRow.goesBy Tryz.prog := by
  have h : Rows.hostConcurrentStreamsRow.goesBy Tryz.prog = (((Tryz.prog.funcNamed "stagepost/stagepostlaw25.HostConcurrentStreams").any Tryz.prog.goes) || false) := rfl
  rw [h, j_func]
  rw [Option.any_some, goes_eq]
  rfl
end Go.Proofs.YtfjdakmmffedkaaGreatDoor
