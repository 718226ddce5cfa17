/-
  The law's number; the program may be entered. Conditions: none.
-/
import Derived.Test.YtfomgahphoobdaaGreatDoorProg
import Derived.JoinedCond
import Derived.SevenTiedAt
import Derived.KernelRfl
import Derived.Test.YtfomgahphoobdaaGreatDoorRows
namespace Go.Proofs.YtfomgahphoobdaaGreatDoor
open Go Go.Proofs
set_option maxRecDepth 100000
theorem j_func : Tryz.prog.funcNamed "stagepost/stagepostlaw25.HostWakeOrder" = some 4 := by kernel_rfl
theorem j_enter : Tryz.prog.mayEnter = true := by kernel_rfl
end Go.Proofs.YtfomgahphoobdaaGreatDoor

/-! The row's small facts. Conditions: none. -/
namespace Go.Proofs.YtfomgahphoobdaaGreatDoor
open Go Go.Proofs
set_option maxRecDepth 100000
theorem j_wf : Rows.hostWakeOrderRow.wf (OpenSpec.ofChange Rows.hostWakeOrderSpec) = true := by kernel_rfl
theorem j_params : Tryz.f4.params.all (Tryz.prog.readableRec ·) = true := by kernel_rfl
theorem j_tie : namedTie Tryz.prog Rows.hostWakeOrderRow.named Rows.hostWakeOrderSpec.vars = true := by kernel_rfl
theorem j_stops : (Rows.hostWakeOrderRow.stops == []) = true := by kernel_rfl
theorem j_pstops : (Tryz.prog.stops == []) = true := by kernel_rfl
theorem j_knobs : (Rows.hostWakeOrderRow.knobs == []) = true := by kernel_rfl
theorem j_pknobs : (Tryz.prog.stopKnobs == []) = true := by kernel_rfl
theorem j_mapsIn : (Rows.hostWakeOrderRow.maps == (Tryz.f4.params.toList ++ Rows.hostWakeOrderSpec.plain.varTypes Tryz.prog).any (Tryz.prog.mapsRec ·)) = true := by kernel_rfl
theorem j_ifaces : (Rows.hostWakeOrderRow.ifaces == (Tryz.f4.params.toList ++ Rows.hostWakeOrderSpec.plain.varTypes Tryz.prog).any (Tryz.prog.ifacesRec ·)) = true := by kernel_rfl
theorem j_mapsOut : (Rows.hostWakeOrderRow.mapsOut == Tryz.prog.mapsAmong Tryz.f4.resultTypes.toList) = true := by kernel_rfl
theorem j_loops : (Rows.hostWakeOrderRow.loops == (Tryz.f4.params.toList ++ Rows.hostWakeOrderSpec.plain.varTypes Tryz.prog).any (Tryz.prog.loopsFrom ·)) = true := by kernel_rfl
theorem j_wide : (Rows.hostWakeOrderRow.wideKeys == (Tryz.f4.params.toList ++ Rows.hostWakeOrderSpec.plain.varTypes Tryz.prog ++ Tryz.f4.resultTypes.toList).any (Tryz.prog.wideKeysFrom ·)) = true := by kernel_rfl
theorem j_vars : Rows.hostWakeOrderSpec.vars.all (Tryz.prog.varReadable ·) = true := by kernel_rfl
theorem j_res : Tryz.f4.resultTypes.all (fun t => Tryz.prog.readableRec t && decide (t < Tryz.prog.types.size)) = true := by kernel_rfl
theorem j_ifOut : (Rows.hostWakeOrderRow.ifacesOut == Tryz.f4.resultTypes.toList.any (Tryz.prog.ifacesRec ·)) = true := by kernel_rfl
theorem j_loopsOut : (Rows.hostWakeOrderRow.loopsOut == Tryz.f4.resultTypes.toList.any (Tryz.prog.loopsFrom ·)) = true := by kernel_rfl
theorem j_plainKeys : (Rows.hostWakeOrderRow.plainKeys == Tryz.prog.plainKeys) = true := by kernel_rfl
theorem j_short : Rows.hostWakeOrderRow.shortTexts.isNone = true := by kernel_rfl
theorem j_lifted : (Rows.hostWakeOrderRow.lifted == Tryz.prog.liftsFinal) = true := by kernel_rfl
theorem j_make : (Tryz.prog.make == some Rows.hostWakeOrderRow.make) = true := by kernel_rfl
theorem j_veiled : (Rows.hostWakeOrderRow.veiled == (Tryz.f4.params.toList ++ Rows.hostWakeOrderSpec.plain.varTypes Tryz.prog ++ Tryz.f4.resultTypes.toList).any (Tryz.prog.veiledRec ·)) = true := by kernel_rfl
theorem j_veilFits : Rows.hostWakeOrderRow.veiledFits Tryz.prog Tryz.f4.params.toList (Tryz.f4.params.toList ++ Rows.hostWakeOrderSpec.plain.varTypes Tryz.prog ++ Tryz.f4.resultTypes.toList) = true := by kernel_rfl
theorem j_looks : true = Tryz.prog.looks [] := by kernel_rfl
theorem j_wfText : Rows.hostWakeOrderRow.wfByText (OpenSpec.ofChange Rows.hostWakeOrderSpec) = true := by kernel_rfl
theorem j_inits : Tryz.prog.inits.idxOf? 4 = none := by kernel_rfl
theorem j_mainIs : Tryz.prog.mainIs = some (true, "f11b9eed2dbcb675690c0d766e5ca62e48c9598af56c502a875dce4c730d175e".toList) := by kernel_rfl
end Go.Proofs.YtfomgahphoobdaaGreatDoor
