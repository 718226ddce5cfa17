/-
  The law's number; the program may be entered. Conditions: none.
-/
import Derived.Test.YtfomgahphoobdaaGreatDoorProg
import Derived.JoinedCond
import Derived.SevenTiedAt
import Derived.KernelRfl
import Derived.Test.YtfomgahphoobdaaGreatDoorRows
namespace Go.Proofs.YtfomgahphoobdaaGreatDoor
open Go Go.Proofs
set_option maxRecDepth 100000
theorem j_func : Tryz.prog.funcNamed "stagepost/stagepostlaw26.SimNetLinkIsolation" = some 7 := by kernel_rfl
theorem j_enter : Tryz.prog.mayEnter = true := by kernel_rfl
end Go.Proofs.YtfomgahphoobdaaGreatDoor

/-! The row's small facts. Conditions: none. -/
namespace Go.Proofs.YtfomgahphoobdaaGreatDoor
open Go Go.Proofs
set_option maxRecDepth 100000
theorem j_wf : Rows.simNetLinkIsolationRow.wf (OpenSpec.ofChange Rows.simNetLinkIsolationSpec) = true := by kernel_rfl
theorem j_params : Tryz.f7.params.all (Tryz.prog.readableRec ·) = true := by kernel_rfl
theorem j_tie : namedTie Tryz.prog Rows.simNetLinkIsolationRow.named Rows.simNetLinkIsolationSpec.vars = true := by kernel_rfl
theorem j_stops : (Rows.simNetLinkIsolationRow.stops == []) = true := by kernel_rfl
theorem j_pstops : (Tryz.prog.stops == []) = true := by kernel_rfl
theorem j_knobs : (Rows.simNetLinkIsolationRow.knobs == []) = true := by kernel_rfl
theorem j_pknobs : (Tryz.prog.stopKnobs == []) = true := by kernel_rfl
theorem j_mapsIn : (Rows.simNetLinkIsolationRow.maps == (Tryz.f7.params.toList ++ Rows.simNetLinkIsolationSpec.plain.varTypes Tryz.prog).any (Tryz.prog.mapsRec ·)) = true := by kernel_rfl
theorem j_ifaces : (Rows.simNetLinkIsolationRow.ifaces == (Tryz.f7.params.toList ++ Rows.simNetLinkIsolationSpec.plain.varTypes Tryz.prog).any (Tryz.prog.ifacesRec ·)) = true := by kernel_rfl
theorem j_mapsOut : (Rows.simNetLinkIsolationRow.mapsOut == Tryz.prog.mapsAmong Tryz.f7.resultTypes.toList) = true := by kernel_rfl
theorem j_loops : (Rows.simNetLinkIsolationRow.loops == (Tryz.f7.params.toList ++ Rows.simNetLinkIsolationSpec.plain.varTypes Tryz.prog).any (Tryz.prog.loopsFrom ·)) = true := by kernel_rfl
theorem j_wide : (Rows.simNetLinkIsolationRow.wideKeys == (Tryz.f7.params.toList ++ Rows.simNetLinkIsolationSpec.plain.varTypes Tryz.prog ++ Tryz.f7.resultTypes.toList).any (Tryz.prog.wideKeysFrom ·)) = true := by kernel_rfl
theorem j_vars : Rows.simNetLinkIsolationSpec.vars.all (Tryz.prog.varReadable ·) = true := by kernel_rfl
theorem j_res : Tryz.f7.resultTypes.all (fun t => Tryz.prog.readableRec t && decide (t < Tryz.prog.types.size)) = true := by kernel_rfl
theorem j_ifOut : (Rows.simNetLinkIsolationRow.ifacesOut == Tryz.f7.resultTypes.toList.any (Tryz.prog.ifacesRec ·)) = true := by kernel_rfl
theorem j_loopsOut : (Rows.simNetLinkIsolationRow.loopsOut == Tryz.f7.resultTypes.toList.any (Tryz.prog.loopsFrom ·)) = true := by kernel_rfl
theorem j_plainKeys : (Rows.simNetLinkIsolationRow.plainKeys == Tryz.prog.plainKeys) = true := by kernel_rfl
theorem j_short : Rows.simNetLinkIsolationRow.shortTexts.isNone = true := by kernel_rfl
theorem j_lifted : (Rows.simNetLinkIsolationRow.lifted == Tryz.prog.liftsFinal) = true := by kernel_rfl
theorem j_make : (Tryz.prog.make == some Rows.simNetLinkIsolationRow.make) = true := by kernel_rfl
theorem j_veiled : (Rows.simNetLinkIsolationRow.veiled == (Tryz.f7.params.toList ++ Rows.simNetLinkIsolationSpec.plain.varTypes Tryz.prog ++ Tryz.f7.resultTypes.toList).any (Tryz.prog.veiledRec ·)) = true := by kernel_rfl
theorem j_veilFits : Rows.simNetLinkIsolationRow.veiledFits Tryz.prog Tryz.f7.params.toList (Tryz.f7.params.toList ++ Rows.simNetLinkIsolationSpec.plain.varTypes Tryz.prog ++ Tryz.f7.resultTypes.toList) = true := by kernel_rfl
theorem j_looks : true = Tryz.prog.looks [] := by kernel_rfl
theorem j_wfText : Rows.simNetLinkIsolationRow.wfByText (OpenSpec.ofChange Rows.simNetLinkIsolationSpec) = true := by kernel_rfl
theorem j_inits : Tryz.prog.inits.idxOf? 7 = none := by kernel_rfl
theorem j_mainIs : Tryz.prog.mainIs = some (true, "f11b9eed2dbcb675690c0d766e5ca62e48c9598af56c502a875dce4c730d175e".toList) := by kernel_rfl
end Go.Proofs.YtfomgahphoobdaaGreatDoor
