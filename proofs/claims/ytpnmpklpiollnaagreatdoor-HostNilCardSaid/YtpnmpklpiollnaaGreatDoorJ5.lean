/-
  The row's small facts. Conditions: none.
-/
import Derived.Test.YtpnmpklpiollnaaGreatDoorRows
import Derived.JoinedCond
import Derived.SevenTiedAt
import Derived.KernelRfl
namespace Go.Proofs.YtpnmpklpiollnaaGreatDoor
open Go Go.Proofs
set_option maxRecDepth 100000
theorem j_wf : Rows.hostNilRow.wf (OpenSpec.ofChange Rows.hostNilSpec) = true := by kernel_rfl
theorem j_params : Tryz.f3.params.all (Tryz.prog.readableRec ·) = true := by kernel_rfl
theorem j_tie : namedTie Tryz.prog Rows.hostNilRow.named Rows.hostNilSpec.vars = true := by kernel_rfl
theorem j_stops : (Rows.hostNilRow.stops == []) = true := by kernel_rfl
theorem j_pstops : (Tryz.prog.stops == []) = true := by kernel_rfl
theorem j_knobs : (Rows.hostNilRow.knobs == []) = true := by kernel_rfl
theorem j_pknobs : (Tryz.prog.stopKnobs == []) = true := by kernel_rfl
theorem j_mapsIn : (Rows.hostNilRow.maps == (Tryz.f3.params.toList ++ Rows.hostNilSpec.plain.varTypes Tryz.prog).any (Tryz.prog.mapsRec ·)) = true := by kernel_rfl
theorem j_ifaces : (Rows.hostNilRow.ifaces == (Tryz.f3.params.toList ++ Rows.hostNilSpec.plain.varTypes Tryz.prog).any (Tryz.prog.ifacesRec ·)) = true := by kernel_rfl
theorem j_mapsOut : (Rows.hostNilRow.mapsOut == Tryz.prog.mapsAmong Tryz.f3.resultTypes.toList) = true := by kernel_rfl
theorem j_loops : (Rows.hostNilRow.loops == (Tryz.f3.params.toList ++ Rows.hostNilSpec.plain.varTypes Tryz.prog).any (Tryz.prog.loopsFrom ·)) = true := by kernel_rfl
theorem j_wide : (Rows.hostNilRow.wideKeys == (Tryz.f3.params.toList ++ Rows.hostNilSpec.plain.varTypes Tryz.prog ++ Tryz.f3.resultTypes.toList).any (Tryz.prog.wideKeysFrom ·)) = true := by kernel_rfl
theorem j_vars : Rows.hostNilSpec.vars.all (Tryz.prog.varReadable ·) = true := by kernel_rfl
theorem j_res : Tryz.f3.resultTypes.all (fun t => Tryz.prog.readableRec t && decide (t < Tryz.prog.types.size)) = true := by kernel_rfl
theorem j_ifOut : (Rows.hostNilRow.ifacesOut == Tryz.f3.resultTypes.toList.any (Tryz.prog.ifacesRec ·)) = true := by kernel_rfl
theorem j_loopsOut : (Rows.hostNilRow.loopsOut == Tryz.f3.resultTypes.toList.any (Tryz.prog.loopsFrom ·)) = true := by kernel_rfl
theorem j_plainKeys : (Rows.hostNilRow.plainKeys == Tryz.prog.plainKeys) = true := by kernel_rfl
theorem j_short : Rows.hostNilRow.shortTexts.isNone = true := by kernel_rfl
theorem j_lifted : (Rows.hostNilRow.lifted == Tryz.prog.liftsFinal) = true := by kernel_rfl
theorem j_make : (Tryz.prog.make == some Rows.hostNilRow.make) = true := by kernel_rfl
theorem j_veiled : (Rows.hostNilRow.veiled == (Tryz.f3.params.toList ++ Rows.hostNilSpec.plain.varTypes Tryz.prog ++ Tryz.f3.resultTypes.toList).any (Tryz.prog.veiledRec ·)) = true := by kernel_rfl
theorem j_veilFits : Rows.hostNilRow.veiledFits Tryz.prog Tryz.f3.params.toList (Tryz.f3.params.toList ++ Rows.hostNilSpec.plain.varTypes Tryz.prog ++ Tryz.f3.resultTypes.toList) = true := by kernel_rfl
theorem j_looks : true = Tryz.prog.looks [] := by kernel_rfl
theorem j_wfText : Rows.hostNilRow.wfByText (OpenSpec.ofChange Rows.hostNilSpec) = true := by kernel_rfl
theorem j_inits : Tryz.prog.inits.idxOf? 3 = none := by kernel_rfl
theorem j_mainIs : Tryz.prog.mainIs = some (true, "cc82897aa7593126caa3a56c72dc2e144b2486b46fb1eb7c4ab03419774ba053".toList) := by kernel_rfl
end Go.Proofs.YtpnmpklpiollnaaGreatDoor
