/-
  The law's number; the program may be entered. Conditions: none.
-/
import Derived.Test.YtcbodlnadocbiaaGreatDoorProg
import Derived.JoinedCond
import Derived.SevenTiedAt
import Derived.KernelRfl
import Derived.Test.YtcbodlnadocbiaaGreatDoorRows
namespace Go.Proofs.YtcbodlnadocbiaaGreatDoor
open Go Go.Proofs
set_option maxRecDepth 100000
theorem j_func : Tryz.prog.funcNamed "stagepost/stagepostlaw25.HostNameCache" = some 4 := by kernel_rfl
theorem j_enter : Tryz.prog.mayEnter = true := by kernel_rfl
end Go.Proofs.YtcbodlnadocbiaaGreatDoor

/-! The row's small facts. Conditions: none. -/
namespace Go.Proofs.YtcbodlnadocbiaaGreatDoor
open Go Go.Proofs
set_option maxRecDepth 100000
theorem j_wf : Rows.hostNameCacheRow.wf (OpenSpec.ofChange Rows.hostNameCacheSpec) = true := by kernel_rfl
theorem j_params : Tryz.f4.params.all (Tryz.prog.readableRec ·) = true := by kernel_rfl
theorem j_tie : namedTie Tryz.prog Rows.hostNameCacheRow.named Rows.hostNameCacheSpec.vars = true := by kernel_rfl
theorem j_stops : (Rows.hostNameCacheRow.stops == []) = true := by kernel_rfl
theorem j_pstops : (Tryz.prog.stops == []) = true := by kernel_rfl
theorem j_knobs : (Rows.hostNameCacheRow.knobs == []) = true := by kernel_rfl
theorem j_pknobs : (Tryz.prog.stopKnobs == []) = true := by kernel_rfl
theorem j_mapsIn : (Rows.hostNameCacheRow.maps == (Tryz.f4.params.toList ++ Rows.hostNameCacheSpec.plain.varTypes Tryz.prog).any (Tryz.prog.mapsRec ·)) = true := by kernel_rfl
theorem j_ifaces : (Rows.hostNameCacheRow.ifaces == (Tryz.f4.params.toList ++ Rows.hostNameCacheSpec.plain.varTypes Tryz.prog).any (Tryz.prog.ifacesRec ·)) = true := by kernel_rfl
theorem j_mapsOut : (Rows.hostNameCacheRow.mapsOut == Tryz.prog.mapsAmong Tryz.f4.resultTypes.toList) = true := by kernel_rfl
theorem j_loops : (Rows.hostNameCacheRow.loops == (Tryz.f4.params.toList ++ Rows.hostNameCacheSpec.plain.varTypes Tryz.prog).any (Tryz.prog.loopsFrom ·)) = true := by kernel_rfl
theorem j_wide : (Rows.hostNameCacheRow.wideKeys == (Tryz.f4.params.toList ++ Rows.hostNameCacheSpec.plain.varTypes Tryz.prog ++ Tryz.f4.resultTypes.toList).any (Tryz.prog.wideKeysFrom ·)) = true := by kernel_rfl
theorem j_vars : Rows.hostNameCacheSpec.vars.all (Tryz.prog.varReadable ·) = true := by kernel_rfl
theorem j_res : Tryz.f4.resultTypes.all (fun t => Tryz.prog.readableRec t && decide (t < Tryz.prog.types.size)) = true := by kernel_rfl
theorem j_ifOut : (Rows.hostNameCacheRow.ifacesOut == Tryz.f4.resultTypes.toList.any (Tryz.prog.ifacesRec ·)) = true := by kernel_rfl
theorem j_loopsOut : (Rows.hostNameCacheRow.loopsOut == Tryz.f4.resultTypes.toList.any (Tryz.prog.loopsFrom ·)) = true := by kernel_rfl
theorem j_plainKeys : (Rows.hostNameCacheRow.plainKeys == Tryz.prog.plainKeys) = true := by kernel_rfl
theorem j_short : Rows.hostNameCacheRow.shortTexts.isNone = true := by kernel_rfl
theorem j_lifted : (Rows.hostNameCacheRow.lifted == Tryz.prog.liftsFinal) = true := by kernel_rfl
theorem j_make : (Tryz.prog.make == some Rows.hostNameCacheRow.make) = true := by kernel_rfl
theorem j_veiled : (Rows.hostNameCacheRow.veiled == (Tryz.f4.params.toList ++ Rows.hostNameCacheSpec.plain.varTypes Tryz.prog ++ Tryz.f4.resultTypes.toList).any (Tryz.prog.veiledRec ·)) = true := by kernel_rfl
theorem j_veilFits : Rows.hostNameCacheRow.veiledFits Tryz.prog Tryz.f4.params.toList (Tryz.f4.params.toList ++ Rows.hostNameCacheSpec.plain.varTypes Tryz.prog ++ Tryz.f4.resultTypes.toList) = true := by kernel_rfl
theorem j_looks : true = Tryz.prog.looks [] := by kernel_rfl
theorem j_wfText : Rows.hostNameCacheRow.wfByText (OpenSpec.ofChange Rows.hostNameCacheSpec) = true := by kernel_rfl
theorem j_inits : Tryz.prog.inits.idxOf? 4 = none := by kernel_rfl
theorem j_mainIs : Tryz.prog.mainIs = some (true, "e309e66729917d7d566c8daf3ee84132e0429b2c1ca36ede658b95decc455e07".toList) := by kernel_rfl
end Go.Proofs.YtcbodlnadocbiaaGreatDoor
