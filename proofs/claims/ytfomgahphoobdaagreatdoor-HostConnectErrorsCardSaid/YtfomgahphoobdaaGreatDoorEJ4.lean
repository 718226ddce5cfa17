/-
  The law's number; the program may be entered. Conditions: none.
-/
import Derived.Test.YtfomgahphoobdaaGreatDoorProg
import Derived.JoinedCond
import Derived.SevenTiedAt
import Derived.KernelRfl
import Derived.Test.YtfomgahphoobdaaGreatDoorRows
namespace Go.Proofs.YtfomgahphoobdaaGreatDoor
open Go Go.Proofs
set_option maxRecDepth 100000
theorem j_func : Tryz.prog.funcNamed "stagepost/stagepostlaw25.HostConnectErrors" = some 3 := by kernel_rfl
theorem j_enter : Tryz.prog.mayEnter = true := by kernel_rfl
end Go.Proofs.YtfomgahphoobdaaGreatDoor
namespace Go.Proofs.YtfomgahphoobdaaGreatDoor
open Go Go.Proofs
set_option maxRecDepth 100000
theorem j_wf : Rows.hostConnectErrorsRow.wf (OpenSpec.ofChange Rows.hostConnectErrorsSpec) = true := by kernel_rfl
theorem j_params : Tryz.f3.params.all (Tryz.prog.readableRec ·) = true := by kernel_rfl
theorem j_tie : namedTie Tryz.prog Rows.hostConnectErrorsRow.named Rows.hostConnectErrorsSpec.vars = true := by kernel_rfl
theorem j_stops : (Rows.hostConnectErrorsRow.stops == []) = true := by kernel_rfl
theorem j_pstops : (Tryz.prog.stops == []) = true := by kernel_rfl
theorem j_knobs : (Rows.hostConnectErrorsRow.knobs == []) = true := by kernel_rfl
theorem j_pknobs : (Tryz.prog.stopKnobs == []) = true := by kernel_rfl
theorem j_mapsIn : (Rows.hostConnectErrorsRow.maps == (Tryz.f3.params.toList ++ Rows.hostConnectErrorsSpec.plain.varTypes Tryz.prog).any (Tryz.prog.mapsRec ·)) = true := by kernel_rfl
theorem j_ifaces : (Rows.hostConnectErrorsRow.ifaces == (Tryz.f3.params.toList ++ Rows.hostConnectErrorsSpec.plain.varTypes Tryz.prog).any (Tryz.prog.ifacesRec ·)) = true := by kernel_rfl
theorem j_mapsOut : (Rows.hostConnectErrorsRow.mapsOut == Tryz.prog.mapsAmong Tryz.f3.resultTypes.toList) = true := by kernel_rfl
theorem j_loops : (Rows.hostConnectErrorsRow.loops == (Tryz.f3.params.toList ++ Rows.hostConnectErrorsSpec.plain.varTypes Tryz.prog).any (Tryz.prog.loopsFrom ·)) = true := by kernel_rfl
theorem j_wide : (Rows.hostConnectErrorsRow.wideKeys == (Tryz.f3.params.toList ++ Rows.hostConnectErrorsSpec.plain.varTypes Tryz.prog ++ Tryz.f3.resultTypes.toList).any (Tryz.prog.wideKeysFrom ·)) = true := by kernel_rfl
theorem j_vars : Rows.hostConnectErrorsSpec.vars.all (Tryz.prog.varReadable ·) = true := by kernel_rfl
theorem j_res : Tryz.f3.resultTypes.all (fun t => Tryz.prog.readableRec t && decide (t < Tryz.prog.types.size)) = true := by kernel_rfl
theorem j_ifOut : (Rows.hostConnectErrorsRow.ifacesOut == Tryz.f3.resultTypes.toList.any (Tryz.prog.ifacesRec ·)) = true := by kernel_rfl
theorem j_loopsOut : (Rows.hostConnectErrorsRow.loopsOut == Tryz.f3.resultTypes.toList.any (Tryz.prog.loopsFrom ·)) = true := by kernel_rfl
theorem j_plainKeys : (Rows.hostConnectErrorsRow.plainKeys == Tryz.prog.plainKeys) = true := by kernel_rfl
theorem j_short : Rows.hostConnectErrorsRow.shortTexts.isNone = true := by kernel_rfl
theorem j_lifted : (Rows.hostConnectErrorsRow.lifted == Tryz.prog.liftsFinal) = true := by kernel_rfl
theorem j_make : (Tryz.prog.make == some Rows.hostConnectErrorsRow.make) = true := by kernel_rfl
theorem j_veiled : (Rows.hostConnectErrorsRow.veiled == (Tryz.f3.params.toList ++ Rows.hostConnectErrorsSpec.plain.varTypes Tryz.prog ++ Tryz.f3.resultTypes.toList).any (Tryz.prog.veiledRec ·)) = true := by kernel_rfl
theorem j_veilFits : Rows.hostConnectErrorsRow.veiledFits Tryz.prog Tryz.f3.params.toList (Tryz.f3.params.toList ++ Rows.hostConnectErrorsSpec.plain.varTypes Tryz.prog ++ Tryz.f3.resultTypes.toList) = true := by kernel_rfl
theorem j_looks : true = Tryz.prog.looks [] := by kernel_rfl
theorem j_wfText : Rows.hostConnectErrorsRow.wfByText (OpenSpec.ofChange Rows.hostConnectErrorsSpec) = true := by kernel_rfl
theorem j_inits : Tryz.prog.inits.idxOf? 3 = none := by kernel_rfl
theorem j_mainIs : Tryz.prog.mainIs = some (true, "f11b9eed2dbcb675690c0d766e5ca62e48c9598af56c502a875dce4c730d175e".toList) := by kernel_rfl
end Go.Proofs.YtfomgahphoobdaaGreatDoor
