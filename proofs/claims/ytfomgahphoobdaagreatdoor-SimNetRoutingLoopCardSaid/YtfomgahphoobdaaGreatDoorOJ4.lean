/-
  The law's number; the program may be entered. Conditions: none.
-/
import Derived.Test.YtfomgahphoobdaaGreatDoorProg
import Derived.JoinedCond
import Derived.SevenTiedAt
import Derived.KernelRfl
import Derived.Test.YtfomgahphoobdaaGreatDoorRows
namespace Go.Proofs.YtfomgahphoobdaaGreatDoor
open Go Go.Proofs
set_option maxRecDepth 100000
theorem j_func : Tryz.prog.funcNamed "stagepost/stagepostlaw26.SimNetRoutingLoop" = some 6 := by kernel_rfl
theorem j_enter : Tryz.prog.mayEnter = true := by kernel_rfl
end Go.Proofs.YtfomgahphoobdaaGreatDoor

/-! The row's small facts. Conditions: none. -/
namespace Go.Proofs.YtfomgahphoobdaaGreatDoor
open Go Go.Proofs
set_option maxRecDepth 100000
theorem j_wf : Rows.simNetRoutingLoopRow.wf (OpenSpec.ofChange Rows.simNetRoutingLoopSpec) = true := by kernel_rfl
theorem j_params : Tryz.f6.params.all (Tryz.prog.readableRec ·) = true := by kernel_rfl
theorem j_tie : namedTie Tryz.prog Rows.simNetRoutingLoopRow.named Rows.simNetRoutingLoopSpec.vars = true := by kernel_rfl
theorem j_stops : (Rows.simNetRoutingLoopRow.stops == []) = true := by kernel_rfl
theorem j_pstops : (Tryz.prog.stops == []) = true := by kernel_rfl
theorem j_knobs : (Rows.simNetRoutingLoopRow.knobs == []) = true := by kernel_rfl
theorem j_pknobs : (Tryz.prog.stopKnobs == []) = true := by kernel_rfl
theorem j_mapsIn : (Rows.simNetRoutingLoopRow.maps == (Tryz.f6.params.toList ++ Rows.simNetRoutingLoopSpec.plain.varTypes Tryz.prog).any (Tryz.prog.mapsRec ·)) = true := by kernel_rfl
theorem j_ifaces : (Rows.simNetRoutingLoopRow.ifaces == (Tryz.f6.params.toList ++ Rows.simNetRoutingLoopSpec.plain.varTypes Tryz.prog).any (Tryz.prog.ifacesRec ·)) = true := by kernel_rfl
theorem j_mapsOut : (Rows.simNetRoutingLoopRow.mapsOut == Tryz.prog.mapsAmong Tryz.f6.resultTypes.toList) = true := by kernel_rfl
theorem j_loops : (Rows.simNetRoutingLoopRow.loops == (Tryz.f6.params.toList ++ Rows.simNetRoutingLoopSpec.plain.varTypes Tryz.prog).any (Tryz.prog.loopsFrom ·)) = true := by kernel_rfl
theorem j_wide : (Rows.simNetRoutingLoopRow.wideKeys == (Tryz.f6.params.toList ++ Rows.simNetRoutingLoopSpec.plain.varTypes Tryz.prog ++ Tryz.f6.resultTypes.toList).any (Tryz.prog.wideKeysFrom ·)) = true := by kernel_rfl
theorem j_vars : Rows.simNetRoutingLoopSpec.vars.all (Tryz.prog.varReadable ·) = true := by kernel_rfl
theorem j_res : Tryz.f6.resultTypes.all (fun t => Tryz.prog.readableRec t && decide (t < Tryz.prog.types.size)) = true := by kernel_rfl
theorem j_ifOut : (Rows.simNetRoutingLoopRow.ifacesOut == Tryz.f6.resultTypes.toList.any (Tryz.prog.ifacesRec ·)) = true := by kernel_rfl
theorem j_loopsOut : (Rows.simNetRoutingLoopRow.loopsOut == Tryz.f6.resultTypes.toList.any (Tryz.prog.loopsFrom ·)) = true := by kernel_rfl
theorem j_plainKeys : (Rows.simNetRoutingLoopRow.plainKeys == Tryz.prog.plainKeys) = true := by kernel_rfl
theorem j_short : Rows.simNetRoutingLoopRow.shortTexts.isNone = true := by kernel_rfl
theorem j_lifted : (Rows.simNetRoutingLoopRow.lifted == Tryz.prog.liftsFinal) = true := by kernel_rfl
theorem j_make : (Tryz.prog.make == some Rows.simNetRoutingLoopRow.make) = true := by kernel_rfl
theorem j_veiled : (Rows.simNetRoutingLoopRow.veiled == (Tryz.f6.params.toList ++ Rows.simNetRoutingLoopSpec.plain.varTypes Tryz.prog ++ Tryz.f6.resultTypes.toList).any (Tryz.prog.veiledRec ·)) = true := by kernel_rfl
theorem j_veilFits : Rows.simNetRoutingLoopRow.veiledFits Tryz.prog Tryz.f6.params.toList (Tryz.f6.params.toList ++ Rows.simNetRoutingLoopSpec.plain.varTypes Tryz.prog ++ Tryz.f6.resultTypes.toList) = true := by kernel_rfl
theorem j_looks : true = Tryz.prog.looks [] := by kernel_rfl
theorem j_wfText : Rows.simNetRoutingLoopRow.wfByText (OpenSpec.ofChange Rows.simNetRoutingLoopSpec) = true := by kernel_rfl
theorem j_inits : Tryz.prog.inits.idxOf? 6 = none := by kernel_rfl
theorem j_mainIs : Tryz.prog.mainIs = some (true, "f11b9eed2dbcb675690c0d766e5ca62e48c9598af56c502a875dce4c730d175e".toList) := by kernel_rfl
end Go.Proofs.YtfomgahphoobdaaGreatDoor
