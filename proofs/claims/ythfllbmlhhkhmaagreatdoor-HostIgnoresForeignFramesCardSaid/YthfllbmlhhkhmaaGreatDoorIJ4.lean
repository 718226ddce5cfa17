/-
  The law's number; the program may be entered. Conditions: none.
-/
import Derived.Test.YthfllbmlhhkhmaaGreatDoorProg
import Derived.JoinedCond
import Derived.SevenTiedAt
import Derived.KernelRfl
import Derived.Test.YthfllbmlhhkhmaaGreatDoorRows
namespace Go.Proofs.YthfllbmlhhkhmaaGreatDoor
open Go Go.Proofs
set_option maxRecDepth 100000
theorem j_func : Tryz.prog.funcNamed "stagepost/stagepostlaw25.HostIgnoresForeignFrames" = some 4 := by kernel_rfl
theorem j_enter : Tryz.prog.mayEnter = true := by kernel_rfl
end Go.Proofs.YthfllbmlhhkhmaaGreatDoor
namespace Go.Proofs.YthfllbmlhhkhmaaGreatDoor
open Go Go.Proofs
set_option maxRecDepth 100000
theorem j_wf : Rows.hostIgnoresForeignFramesRow.wf (OpenSpec.ofChange Rows.hostIgnoresForeignFramesSpec) = true := by kernel_rfl
theorem j_params : Tryz.f4.params.all (Tryz.prog.readableRec ·) = true := by kernel_rfl
theorem j_tie : namedTie Tryz.prog Rows.hostIgnoresForeignFramesRow.named Rows.hostIgnoresForeignFramesSpec.vars = true := by kernel_rfl
theorem j_stops : (Rows.hostIgnoresForeignFramesRow.stops == []) = true := by kernel_rfl
theorem j_pstops : (Tryz.prog.stops == []) = true := by kernel_rfl
theorem j_knobs : (Rows.hostIgnoresForeignFramesRow.knobs == []) = true := by kernel_rfl
theorem j_pknobs : (Tryz.prog.stopKnobs == []) = true := by kernel_rfl
theorem j_mapsIn : (Rows.hostIgnoresForeignFramesRow.maps == (Tryz.f4.params.toList ++ Rows.hostIgnoresForeignFramesSpec.plain.varTypes Tryz.prog).any (Tryz.prog.mapsRec ·)) = true := by kernel_rfl
theorem j_ifaces : (Rows.hostIgnoresForeignFramesRow.ifaces == (Tryz.f4.params.toList ++ Rows.hostIgnoresForeignFramesSpec.plain.varTypes Tryz.prog).any (Tryz.prog.ifacesRec ·)) = true := by kernel_rfl
theorem j_mapsOut : (Rows.hostIgnoresForeignFramesRow.mapsOut == Tryz.prog.mapsAmong Tryz.f4.resultTypes.toList) = true := by kernel_rfl
theorem j_loops : (Rows.hostIgnoresForeignFramesRow.loops == (Tryz.f4.params.toList ++ Rows.hostIgnoresForeignFramesSpec.plain.varTypes Tryz.prog).any (Tryz.prog.loopsFrom ·)) = true := by kernel_rfl
theorem j_wide : (Rows.hostIgnoresForeignFramesRow.wideKeys == (Tryz.f4.params.toList ++ Rows.hostIgnoresForeignFramesSpec.plain.varTypes Tryz.prog ++ Tryz.f4.resultTypes.toList).any (Tryz.prog.wideKeysFrom ·)) = true := by kernel_rfl
theorem j_vars : Rows.hostIgnoresForeignFramesSpec.vars.all (Tryz.prog.varReadable ·) = true := by kernel_rfl
theorem j_res : Tryz.f4.resultTypes.all (fun t => Tryz.prog.readableRec t && decide (t < Tryz.prog.types.size)) = true := by kernel_rfl
theorem j_ifOut : (Rows.hostIgnoresForeignFramesRow.ifacesOut == Tryz.f4.resultTypes.toList.any (Tryz.prog.ifacesRec ·)) = true := by kernel_rfl
theorem j_loopsOut : (Rows.hostIgnoresForeignFramesRow.loopsOut == Tryz.f4.resultTypes.toList.any (Tryz.prog.loopsFrom ·)) = true := by kernel_rfl
theorem j_plainKeys : (Rows.hostIgnoresForeignFramesRow.plainKeys == Tryz.prog.plainKeys) = true := by kernel_rfl
theorem j_short : Rows.hostIgnoresForeignFramesRow.shortTexts.isNone = true := by kernel_rfl
theorem j_lifted : (Rows.hostIgnoresForeignFramesRow.lifted == Tryz.prog.liftsFinal) = true := by kernel_rfl
theorem j_make : (Tryz.prog.make == some Rows.hostIgnoresForeignFramesRow.make) = true := by kernel_rfl
theorem j_veiled : (Rows.hostIgnoresForeignFramesRow.veiled == (Tryz.f4.params.toList ++ Rows.hostIgnoresForeignFramesSpec.plain.varTypes Tryz.prog ++ Tryz.f4.resultTypes.toList).any (Tryz.prog.veiledRec ·)) = true := by kernel_rfl
theorem j_veilFits : Rows.hostIgnoresForeignFramesRow.veiledFits Tryz.prog Tryz.f4.params.toList (Tryz.f4.params.toList ++ Rows.hostIgnoresForeignFramesSpec.plain.varTypes Tryz.prog ++ Tryz.f4.resultTypes.toList) = true := by kernel_rfl
theorem j_looks : true = Tryz.prog.looks [] := by kernel_rfl
theorem j_wfText : Rows.hostIgnoresForeignFramesRow.wfByText (OpenSpec.ofChange Rows.hostIgnoresForeignFramesSpec) = true := by kernel_rfl
theorem j_inits : Tryz.prog.inits.idxOf? 4 = none := by kernel_rfl
theorem j_mainIs : Tryz.prog.mainIs = some (true, "6832757f5ce453ab94d2ad11df43e2eb43a8166cb02cc9dfcb5f22e38b766e22".toList) := by kernel_rfl
end Go.Proofs.YthfllbmlhhkhmaaGreatDoor
