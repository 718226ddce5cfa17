/-
  The law's number; the program may be entered. Conditions: none.
-/
import Derived.Test.YtfjdakmmffedkaaGreatDoorProg
import Derived.JoinedCond
import Derived.SevenTiedAt
import Derived.KernelRfl
import Derived.Test.YtfjdakmmffedkaaGreatDoorRows
namespace Go.Proofs.YtfjdakmmffedkaaGreatDoor
open Go Go.Proofs
set_option maxRecDepth 100000
theorem j_func : Tryz.prog.funcNamed "stagepost/stagepostlaw25.HostConcurrentStreams" = some 3 := by kernel_rfl
theorem j_enter : Tryz.prog.mayEnter = true := by kernel_rfl
end Go.Proofs.YtfjdakmmffedkaaGreatDoor
namespace Go.Proofs.YtfjdakmmffedkaaGreatDoor
open Go Go.Proofs
set_option maxRecDepth 100000
theorem j_wf : Rows.hostConcurrentStreamsRow.wf (OpenSpec.ofChange Rows.hostConcurrentStreamsSpec) = true := by kernel_rfl
theorem j_params : Tryz.f3.params.all (Tryz.prog.readableRec ·) = true := by kernel_rfl
theorem j_tie : namedTie Tryz.prog Rows.hostConcurrentStreamsRow.named Rows.hostConcurrentStreamsSpec.vars = true := by kernel_rfl
theorem j_stops : (Rows.hostConcurrentStreamsRow.stops == []) = true := by kernel_rfl
theorem j_pstops : (Tryz.prog.stops == []) = true := by kernel_rfl
theorem j_knobs : (Rows.hostConcurrentStreamsRow.knobs == []) = true := by kernel_rfl
theorem j_pknobs : (Tryz.prog.stopKnobs == []) = true := by kernel_rfl
theorem j_mapsIn : (Rows.hostConcurrentStreamsRow.maps == (Tryz.f3.params.toList ++ Rows.hostConcurrentStreamsSpec.plain.varTypes Tryz.prog).any (Tryz.prog.mapsRec ·)) = true := by kernel_rfl
theorem j_ifaces : (Rows.hostConcurrentStreamsRow.ifaces == (Tryz.f3.params.toList ++ Rows.hostConcurrentStreamsSpec.plain.varTypes Tryz.prog).any (Tryz.prog.ifacesRec ·)) = true := by kernel_rfl
theorem j_mapsOut : (Rows.hostConcurrentStreamsRow.mapsOut == Tryz.prog.mapsAmong Tryz.f3.resultTypes.toList) = true := by kernel_rfl
theorem j_loops : (Rows.hostConcurrentStreamsRow.loops == (Tryz.f3.params.toList ++ Rows.hostConcurrentStreamsSpec.plain.varTypes Tryz.prog).any (Tryz.prog.loopsFrom ·)) = true := by kernel_rfl
theorem j_wide : (Rows.hostConcurrentStreamsRow.wideKeys == (Tryz.f3.params.toList ++ Rows.hostConcurrentStreamsSpec.plain.varTypes Tryz.prog ++ Tryz.f3.resultTypes.toList).any (Tryz.prog.wideKeysFrom ·)) = true := by kernel_rfl
theorem j_vars : Rows.hostConcurrentStreamsSpec.vars.all (Tryz.prog.varReadable ·) = true := by kernel_rfl
theorem j_res : Tryz.f3.resultTypes.all (fun t => Tryz.prog.readableRec t && decide (t < Tryz.prog.types.size)) = true := by kernel_rfl
theorem j_ifOut : (Rows.hostConcurrentStreamsRow.ifacesOut == Tryz.f3.resultTypes.toList.any (Tryz.prog.ifacesRec ·)) = true := by kernel_rfl
theorem j_loopsOut : (Rows.hostConcurrentStreamsRow.loopsOut == Tryz.f3.resultTypes.toList.any (Tryz.prog.loopsFrom ·)) = true := by kernel_rfl
theorem j_plainKeys : (Rows.hostConcurrentStreamsRow.plainKeys == Tryz.prog.plainKeys) = true := by kernel_rfl
theorem j_short : Rows.hostConcurrentStreamsRow.shortTexts.isNone = true := by kernel_rfl
theorem j_lifted : (Rows.hostConcurrentStreamsRow.lifted == Tryz.prog.liftsFinal) = true := by kernel_rfl
theorem j_make : (Tryz.prog.make == some Rows.hostConcurrentStreamsRow.make) = true := by kernel_rfl
theorem j_veiled : (Rows.hostConcurrentStreamsRow.veiled == (Tryz.f3.params.toList ++ Rows.hostConcurrentStreamsSpec.plain.varTypes Tryz.prog ++ Tryz.f3.resultTypes.toList).any (Tryz.prog.veiledRec ·)) = true := by kernel_rfl
theorem j_veilFits : Rows.hostConcurrentStreamsRow.veiledFits Tryz.prog Tryz.f3.params.toList (Tryz.f3.params.toList ++ Rows.hostConcurrentStreamsSpec.plain.varTypes Tryz.prog ++ Tryz.f3.resultTypes.toList) = true := by kernel_rfl
theorem j_looks : true = Tryz.prog.looks [] := by kernel_rfl
theorem j_wfText : Rows.hostConcurrentStreamsRow.wfByText (OpenSpec.ofChange Rows.hostConcurrentStreamsSpec) = true := by kernel_rfl
theorem j_inits : Tryz.prog.inits.idxOf? 3 = none := by kernel_rfl
theorem j_mainIs : Tryz.prog.mainIs = some (true, "a31284f22c658a8b0e10256a27d66e818a072582d0e356fd446490c2363f3198".toList) := by kernel_rfl
end Go.Proofs.YtfjdakmmffedkaaGreatDoor
