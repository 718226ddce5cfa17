/-
  The row's small facts. Conditions: none.
-/
import Derived.Test.YtbpkijkinoligaaGreatDoorRows
import Derived.JoinedCond
import Derived.SevenTiedAt
import Derived.KernelRfl
namespace Go.Proofs.YtbpkijkinoligaaGreatDoor
open Go Go.Proofs
set_option maxRecDepth 100000
theorem j_wf : Rows.hostPingRow.wf (OpenSpec.ofChange Rows.hostPingSpec) = true := by kernel_rfl
theorem j_params : Tryz.f3.params.all (Tryz.prog.readableRec ·) = true := by kernel_rfl
theorem j_tie : namedTie Tryz.prog Rows.hostPingRow.named Rows.hostPingSpec.vars = true := by kernel_rfl
theorem j_stops : (Rows.hostPingRow.stops == []) = true := by kernel_rfl
theorem j_pstops : (Tryz.prog.stops == []) = true := by kernel_rfl
theorem j_knobs : (Rows.hostPingRow.knobs == []) = true := by kernel_rfl
theorem j_pknobs : (Tryz.prog.stopKnobs == []) = true := by kernel_rfl
theorem j_mapsIn : (Rows.hostPingRow.maps == (Tryz.f3.params.toList ++ Rows.hostPingSpec.plain.varTypes Tryz.prog).any (Tryz.prog.mapsRec ·)) = true := by kernel_rfl
theorem j_ifaces : (Rows.hostPingRow.ifaces == (Tryz.f3.params.toList ++ Rows.hostPingSpec.plain.varTypes Tryz.prog).any (Tryz.prog.ifacesRec ·)) = true := by kernel_rfl
theorem j_mapsOut : (Rows.hostPingRow.mapsOut == Tryz.prog.mapsAmong Tryz.f3.resultTypes.toList) = true := by kernel_rfl
theorem j_loops : (Rows.hostPingRow.loops == (Tryz.f3.params.toList ++ Rows.hostPingSpec.plain.varTypes Tryz.prog).any (Tryz.prog.loopsFrom ·)) = true := by kernel_rfl
theorem j_wide : (Rows.hostPingRow.wideKeys == (Tryz.f3.params.toList ++ Rows.hostPingSpec.plain.varTypes Tryz.prog ++ Tryz.f3.resultTypes.toList).any (Tryz.prog.wideKeysFrom ·)) = true := by kernel_rfl
theorem j_vars : Rows.hostPingSpec.vars.all (Tryz.prog.varReadable ·) = true := by kernel_rfl
theorem j_res : Tryz.f3.resultTypes.all (fun t => Tryz.prog.readableRec t && decide (t < Tryz.prog.types.size)) = true := by kernel_rfl
theorem j_ifOut : (Rows.hostPingRow.ifacesOut == Tryz.f3.resultTypes.toList.any (Tryz.prog.ifacesRec ·)) = true := by kernel_rfl
theorem j_loopsOut : (Rows.hostPingRow.loopsOut == Tryz.f3.resultTypes.toList.any (Tryz.prog.loopsFrom ·)) = true := by kernel_rfl
theorem j_plainKeys : (Rows.hostPingRow.plainKeys == Tryz.prog.plainKeys) = true := by kernel_rfl
theorem j_short : Rows.hostPingRow.shortTexts.isNone = true := by kernel_rfl
theorem j_lifted : (Rows.hostPingRow.lifted == Tryz.prog.liftsFinal) = true := by kernel_rfl
theorem j_make : (Tryz.prog.make == some Rows.hostPingRow.make) = true := by kernel_rfl
theorem j_veiled : (Rows.hostPingRow.veiled == (Tryz.f3.params.toList ++ Rows.hostPingSpec.plain.varTypes Tryz.prog ++ Tryz.f3.resultTypes.toList).any (Tryz.prog.veiledRec ·)) = true := by kernel_rfl
theorem j_veilFits : Rows.hostPingRow.veiledFits Tryz.prog Tryz.f3.params.toList (Tryz.f3.params.toList ++ Rows.hostPingSpec.plain.varTypes Tryz.prog ++ Tryz.f3.resultTypes.toList) = true := by kernel_rfl
theorem j_looks : true = Tryz.prog.looks [] := by kernel_rfl
theorem j_wfText : Rows.hostPingRow.wfByText (OpenSpec.ofChange Rows.hostPingSpec) = true := by kernel_rfl
theorem j_inits : Tryz.prog.inits.idxOf? 3 = none := by kernel_rfl
theorem j_mainIs : Tryz.prog.mainIs = some (true, "9ef7f835ccdf629c42152c6050f3f5203aa58b2e08fc278dd95a654a1adae60e".toList) := by kernel_rfl
end Go.Proofs.YtbpkijkinoligaaGreatDoor
