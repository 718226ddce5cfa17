/-
  The law's number; the program may be entered. Conditions: none.
-/
import Derived.Test.YtcbodlnadocbiaaGreatDoorProg
import Derived.JoinedCond
import Derived.SevenTiedAt
import Derived.KernelRfl
import Derived.Test.YtcbodlnadocbiaaGreatDoorRows
namespace Go.Proofs.YtcbodlnadocbiaaGreatDoor
open Go Go.Proofs
set_option maxRecDepth 100000
theorem j_func : Tryz.prog.funcNamed "stagepost/stagepostlaw25.HostTTLExpires" = some 3 := by kernel_rfl
theorem j_enter : Tryz.prog.mayEnter = true := by kernel_rfl
end Go.Proofs.YtcbodlnadocbiaaGreatDoor

/-! The row's small facts. Conditions: none. -/
namespace Go.Proofs.YtcbodlnadocbiaaGreatDoor
open Go Go.Proofs
set_option maxRecDepth 100000
theorem j_wf : Rows.hostTTLExpiresRow.wf (OpenSpec.ofChange Rows.hostTTLExpiresSpec) = true := by kernel_rfl
theorem j_params : Tryz.f3.params.all (Tryz.prog.readableRec ·) = true := by kernel_rfl
theorem j_tie : namedTie Tryz.prog Rows.hostTTLExpiresRow.named Rows.hostTTLExpiresSpec.vars = true := by kernel_rfl
theorem j_stops : (Rows.hostTTLExpiresRow.stops == []) = true := by kernel_rfl
theorem j_pstops : (Tryz.prog.stops == []) = true := by kernel_rfl
theorem j_knobs : (Rows.hostTTLExpiresRow.knobs == []) = true := by kernel_rfl
theorem j_pknobs : (Tryz.prog.stopKnobs == []) = true := by kernel_rfl
theorem j_mapsIn : (Rows.hostTTLExpiresRow.maps == (Tryz.f3.params.toList ++ Rows.hostTTLExpiresSpec.plain.varTypes Tryz.prog).any (Tryz.prog.mapsRec ·)) = true := by kernel_rfl
theorem j_ifaces : (Rows.hostTTLExpiresRow.ifaces == (Tryz.f3.params.toList ++ Rows.hostTTLExpiresSpec.plain.varTypes Tryz.prog).any (Tryz.prog.ifacesRec ·)) = true := by kernel_rfl
theorem j_mapsOut : (Rows.hostTTLExpiresRow.mapsOut == Tryz.prog.mapsAmong Tryz.f3.resultTypes.toList) = true := by kernel_rfl
theorem j_loops : (Rows.hostTTLExpiresRow.loops == (Tryz.f3.params.toList ++ Rows.hostTTLExpiresSpec.plain.varTypes Tryz.prog).any (Tryz.prog.loopsFrom ·)) = true := by kernel_rfl
theorem j_wide : (Rows.hostTTLExpiresRow.wideKeys == (Tryz.f3.params.toList ++ Rows.hostTTLExpiresSpec.plain.varTypes Tryz.prog ++ Tryz.f3.resultTypes.toList).any (Tryz.prog.wideKeysFrom ·)) = true := by kernel_rfl
theorem j_vars : Rows.hostTTLExpiresSpec.vars.all (Tryz.prog.varReadable ·) = true := by kernel_rfl
theorem j_res : Tryz.f3.resultTypes.all (fun t => Tryz.prog.readableRec t && decide (t < Tryz.prog.types.size)) = true := by kernel_rfl
theorem j_ifOut : (Rows.hostTTLExpiresRow.ifacesOut == Tryz.f3.resultTypes.toList.any (Tryz.prog.ifacesRec ·)) = true := by kernel_rfl
theorem j_loopsOut : (Rows.hostTTLExpiresRow.loopsOut == Tryz.f3.resultTypes.toList.any (Tryz.prog.loopsFrom ·)) = true := by kernel_rfl
theorem j_plainKeys : (Rows.hostTTLExpiresRow.plainKeys == Tryz.prog.plainKeys) = true := by kernel_rfl
theorem j_short : Rows.hostTTLExpiresRow.shortTexts.isNone = true := by kernel_rfl
theorem j_lifted : (Rows.hostTTLExpiresRow.lifted == Tryz.prog.liftsFinal) = true := by kernel_rfl
theorem j_make : (Tryz.prog.make == some Rows.hostTTLExpiresRow.make) = true := by kernel_rfl
theorem j_veiled : (Rows.hostTTLExpiresRow.veiled == (Tryz.f3.params.toList ++ Rows.hostTTLExpiresSpec.plain.varTypes Tryz.prog ++ Tryz.f3.resultTypes.toList).any (Tryz.prog.veiledRec ·)) = true := by kernel_rfl
theorem j_veilFits : Rows.hostTTLExpiresRow.veiledFits Tryz.prog Tryz.f3.params.toList (Tryz.f3.params.toList ++ Rows.hostTTLExpiresSpec.plain.varTypes Tryz.prog ++ Tryz.f3.resultTypes.toList) = true := by kernel_rfl
theorem j_looks : true = Tryz.prog.looks [] := by kernel_rfl
theorem j_wfText : Rows.hostTTLExpiresRow.wfByText (OpenSpec.ofChange Rows.hostTTLExpiresSpec) = true := by kernel_rfl
theorem j_inits : Tryz.prog.inits.idxOf? 3 = none := by kernel_rfl
theorem j_mainIs : Tryz.prog.mainIs = some (true, "e309e66729917d7d566c8daf3ee84132e0429b2c1ca36ede658b95decc455e07".toList) := by kernel_rfl
end Go.Proofs.YtcbodlnadocbiaaGreatDoor
