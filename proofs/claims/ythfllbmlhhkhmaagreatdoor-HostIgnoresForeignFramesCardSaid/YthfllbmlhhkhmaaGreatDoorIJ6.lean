/-
  The row's closed facts, as the form asks them. Conditions: none.
-/
import Derived.Test.YthfllbmlhhkhmaaGreatDoorIJ2
import Derived.Test.YthfllbmlhhkhmaaGreatDoorIJ3
import Derived.Test.YthfllbmlhhkhmaaGreatDoorIJ4
import Derived.Test.YthfllbmlhhkhmaaGreatDoorIC5
namespace Go.Proofs.YthfllbmlhhkhmaaGreatDoor
open Go Go.Proofs
set_option maxRecDepth 100000
theorem joined : joinedFacts Tryz.prog 4 Tryz.f4 Rows.hostIgnoresForeignFramesSpec Rows.hostIgnoresForeignFramesRow = true := by
  unfold joinedFacts
  rw [j_wf, laid_out, j_maps, j_params, j_tie, j_stops, j_pstops, j_knobs, j_pknobs, inPlace_ok, unfollowed_ok, recurses_ok, named_ok, j_mapsIn, j_ifaces, j_mapsOut, j_loops, j_wide, j_vars, j_res, j_ifOut, j_loopsOut, j_plainKeys, j_short, j_heard, j_enter, j_lifted, j_make, j_veiled, j_veilFits]
  rfl
theorem goes_ok : false = Rows.hostIgnoresForeignFramesRow.goesBy Tryz.prog := by
  have h : Rows.hostIgnoresForeignFramesRow.goesBy Tryz.prog = (((Tryz.prog.funcNamed "stagepost/stagepostlaw25.HostIgnoresForeignFrames").any Tryz.prog.goes) || false) := rfl
  rw [h, j_func]
  rw [Option.any_some, goes_eq]
  rfl
end Go.Proofs.YthfllbmlhhkhmaaGreatDoor
