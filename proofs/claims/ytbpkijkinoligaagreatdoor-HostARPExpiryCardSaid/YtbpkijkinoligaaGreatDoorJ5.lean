/-
  The row's small facts. Conditions: none.
-/
import Derived.Test.YtbpkijkinoligaaGreatDoorRows
import Derived.JoinedCond
import Derived.SevenTiedAt
import Derived.KernelRfl
namespace Go.Proofs.YtbpkijkinoligaaGreatDoor
open Go Go.Proofs
set_option maxRecDepth 100000
theorem j_wf : Rows.hostARPExpiryRow.wf (OpenSpec.ofChange Rows.hostARPExpirySpec) = true := by kernel_rfl
theorem j_params : Tryz.f4.params.all (Tryz.prog.readableRec ·) = true := by kernel_rfl
theorem j_tie : namedTie Tryz.prog Rows.hostARPExpiryRow.named Rows.hostARPExpirySpec.vars = true := by kernel_rfl
theorem j_stops : (Rows.hostARPExpiryRow.stops == []) = true := by kernel_rfl
theorem j_pstops : (Tryz.prog.stops == []) = true := by kernel_rfl
theorem j_knobs : (Rows.hostARPExpiryRow.knobs == []) = true := by kernel_rfl
theorem j_pknobs : (Tryz.prog.stopKnobs == []) = true := by kernel_rfl
theorem j_mapsIn : (Rows.hostARPExpiryRow.maps == (Tryz.f4.params.toList ++ Rows.hostARPExpirySpec.plain.varTypes Tryz.prog).any (Tryz.prog.mapsRec ·)) = true := by kernel_rfl
theorem j_ifaces : (Rows.hostARPExpiryRow.ifaces == (Tryz.f4.params.toList ++ Rows.hostARPExpirySpec.plain.varTypes Tryz.prog).any (Tryz.prog.ifacesRec ·)) = true := by kernel_rfl
theorem j_mapsOut : (Rows.hostARPExpiryRow.mapsOut == Tryz.prog.mapsAmong Tryz.f4.resultTypes.toList) = true := by kernel_rfl
theorem j_loops : (Rows.hostARPExpiryRow.loops == (Tryz.f4.params.toList ++ Rows.hostARPExpirySpec.plain.varTypes Tryz.prog).any (Tryz.prog.loopsFrom ·)) = true := by kernel_rfl
theorem j_wide : (Rows.hostARPExpiryRow.wideKeys == (Tryz.f4.params.toList ++ Rows.hostARPExpirySpec.plain.varTypes Tryz.prog ++ Tryz.f4.resultTypes.toList).any (Tryz.prog.wideKeysFrom ·)) = true := by kernel_rfl
theorem j_vars : Rows.hostARPExpirySpec.vars.all (Tryz.prog.varReadable ·) = true := by kernel_rfl
theorem j_res : Tryz.f4.resultTypes.all (fun t => Tryz.prog.readableRec t && decide (t < Tryz.prog.types.size)) = true := by kernel_rfl
theorem j_ifOut : (Rows.hostARPExpiryRow.ifacesOut == Tryz.f4.resultTypes.toList.any (Tryz.prog.ifacesRec ·)) = true := by kernel_rfl
theorem j_loopsOut : (Rows.hostARPExpiryRow.loopsOut == Tryz.f4.resultTypes.toList.any (Tryz.prog.loopsFrom ·)) = true := by kernel_rfl
theorem j_plainKeys : (Rows.hostARPExpiryRow.plainKeys == Tryz.prog.plainKeys) = true := by kernel_rfl
theorem j_short : Rows.hostARPExpiryRow.shortTexts.isNone = true := by kernel_rfl
theorem j_lifted : (Rows.hostARPExpiryRow.lifted == Tryz.prog.liftsFinal) = true := by kernel_rfl
theorem j_make : (Tryz.prog.make == some Rows.hostARPExpiryRow.make) = true := by kernel_rfl
theorem j_veiled : (Rows.hostARPExpiryRow.veiled == (Tryz.f4.params.toList ++ Rows.hostARPExpirySpec.plain.varTypes Tryz.prog ++ Tryz.f4.resultTypes.toList).any (Tryz.prog.veiledRec ·)) = true := by kernel_rfl
theorem j_veilFits : Rows.hostARPExpiryRow.veiledFits Tryz.prog Tryz.f4.params.toList (Tryz.f4.params.toList ++ Rows.hostARPExpirySpec.plain.varTypes Tryz.prog ++ Tryz.f4.resultTypes.toList) = true := by kernel_rfl
theorem j_looks : true = Tryz.prog.looks [] := by kernel_rfl
theorem j_wfText : Rows.hostARPExpiryRow.wfByText (OpenSpec.ofChange Rows.hostARPExpirySpec) = true := by kernel_rfl
theorem j_inits : Tryz.prog.inits.idxOf? 4 = none := by kernel_rfl
theorem j_mainIs : Tryz.prog.mainIs = some (true, "9ef7f835ccdf629c42152c6050f3f5203aa58b2e08fc278dd95a654a1adae60e".toList) := by kernel_rfl
end Go.Proofs.YtbpkijkinoligaaGreatDoor
