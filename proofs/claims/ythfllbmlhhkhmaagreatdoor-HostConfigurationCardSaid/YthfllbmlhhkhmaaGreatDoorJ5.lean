/-
  The row's small facts. Conditions: none.
-/
import Derived.Test.YthfllbmlhhkhmaaGreatDoorRows
import Derived.JoinedCond
import Derived.SevenTiedAt
import Derived.KernelRfl
namespace Go.Proofs.YthfllbmlhhkhmaaGreatDoor
open Go Go.Proofs
set_option maxRecDepth 100000
theorem j_wf : Rows.hostConfigurationRow.wf (OpenSpec.ofChange Rows.hostConfigurationSpec) = true := by kernel_rfl
theorem j_params : Tryz.f3.params.all (Tryz.prog.readableRec ·) = true := by kernel_rfl
theorem j_tie : namedTie Tryz.prog Rows.hostConfigurationRow.named Rows.hostConfigurationSpec.vars = true := by kernel_rfl
theorem j_stops : (Rows.hostConfigurationRow.stops == []) = true := by kernel_rfl
theorem j_pstops : (Tryz.prog.stops == []) = true := by kernel_rfl
theorem j_knobs : (Rows.hostConfigurationRow.knobs == []) = true := by kernel_rfl
theorem j_pknobs : (Tryz.prog.stopKnobs == []) = true := by kernel_rfl
theorem j_mapsIn : (Rows.hostConfigurationRow.maps == (Tryz.f3.params.toList ++ Rows.hostConfigurationSpec.plain.varTypes Tryz.prog).any (Tryz.prog.mapsRec ·)) = true := by kernel_rfl
theorem j_ifaces : (Rows.hostConfigurationRow.ifaces == (Tryz.f3.params.toList ++ Rows.hostConfigurationSpec.plain.varTypes Tryz.prog).any (Tryz.prog.ifacesRec ·)) = true := by kernel_rfl
theorem j_mapsOut : (Rows.hostConfigurationRow.mapsOut == Tryz.prog.mapsAmong Tryz.f3.resultTypes.toList) = true := by kernel_rfl
theorem j_loops : (Rows.hostConfigurationRow.loops == (Tryz.f3.params.toList ++ Rows.hostConfigurationSpec.plain.varTypes Tryz.prog).any (Tryz.prog.loopsFrom ·)) = true := by kernel_rfl
theorem j_wide : (Rows.hostConfigurationRow.wideKeys == (Tryz.f3.params.toList ++ Rows.hostConfigurationSpec.plain.varTypes Tryz.prog ++ Tryz.f3.resultTypes.toList).any (Tryz.prog.wideKeysFrom ·)) = true := by kernel_rfl
theorem j_vars : Rows.hostConfigurationSpec.vars.all (Tryz.prog.varReadable ·) = true := by kernel_rfl
theorem j_res : Tryz.f3.resultTypes.all (fun t => Tryz.prog.readableRec t && decide (t < Tryz.prog.types.size)) = true := by kernel_rfl
theorem j_ifOut : (Rows.hostConfigurationRow.ifacesOut == Tryz.f3.resultTypes.toList.any (Tryz.prog.ifacesRec ·)) = true := by kernel_rfl
theorem j_loopsOut : (Rows.hostConfigurationRow.loopsOut == Tryz.f3.resultTypes.toList.any (Tryz.prog.loopsFrom ·)) = true := by kernel_rfl
theorem j_plainKeys : (Rows.hostConfigurationRow.plainKeys == Tryz.prog.plainKeys) = true := by kernel_rfl
theorem j_short : Rows.hostConfigurationRow.shortTexts.isNone = true := by kernel_rfl
theorem j_lifted : (Rows.hostConfigurationRow.lifted == Tryz.prog.liftsFinal) = true := by kernel_rfl
theorem j_make : (Tryz.prog.make == some Rows.hostConfigurationRow.make) = true := by kernel_rfl
theorem j_veiled : (Rows.hostConfigurationRow.veiled == (Tryz.f3.params.toList ++ Rows.hostConfigurationSpec.plain.varTypes Tryz.prog ++ Tryz.f3.resultTypes.toList).any (Tryz.prog.veiledRec ·)) = true := by kernel_rfl
theorem j_veilFits : Rows.hostConfigurationRow.veiledFits Tryz.prog Tryz.f3.params.toList (Tryz.f3.params.toList ++ Rows.hostConfigurationSpec.plain.varTypes Tryz.prog ++ Tryz.f3.resultTypes.toList) = true := by kernel_rfl
theorem j_looks : true = Tryz.prog.looks [] := by kernel_rfl
theorem j_wfText : Rows.hostConfigurationRow.wfByText (OpenSpec.ofChange Rows.hostConfigurationSpec) = true := by kernel_rfl
theorem j_inits : Tryz.prog.inits.idxOf? 3 = none := by kernel_rfl
theorem j_mainIs : Tryz.prog.mainIs = some (true, "6832757f5ce453ab94d2ad11df43e2eb43a8166cb02cc9dfcb5f22e38b766e22".toList) := by kernel_rfl
end Go.Proofs.YthfllbmlhhkhmaaGreatDoor
