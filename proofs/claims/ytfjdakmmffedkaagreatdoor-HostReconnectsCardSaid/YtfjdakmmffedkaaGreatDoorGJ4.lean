/-
 The law's number; the program may be entered. Conditions: none.
-/
import Derived.Test.YtfjdakmmffedkaaGreatDoorProg
import Derived.JoinedCond
import Derived.SevenTiedAt
import Derived.KernelRfl
import Derived.Test.YtfjdakmmffedkaaGreatDoorRows
namespace Go.Proofs.YtfjdakmmffedkaaGreatDoor
open Go Go.Proofs
set_option maxRecDepth 100000
theorem Qt5 : Tryz.prog.funcNamed "stagepost/stagepostlaw25.HostReconnects" = some 4 := by kernel_rfl
theorem Qyo : Tryz.prog.mayEnter = true := by kernel_rfl
end Go.Proofs.YtfjdakmmffedkaaGreatDoor
namespace Go.Proofs.YtfjdakmmffedkaaGreatDoor
open Go Go.Proofs
set_option maxRecDepth 100000
theorem j_wf : Rows.hostReconnectsRow.wf (OpenSpec.ofChange Rows.hostReconnectsSpec) = true := by kernel_rfl
theorem Qvi : Tryz.f4.params.all (Tryz.prog.readableRec ·) = true := by kernel_rfl
theorem j_tie : namedTie Tryz.prog Rows.hostReconnectsRow.named Rows.hostReconnectsSpec.vars = true := by kernel_rfl
theorem Qyg : (Rows.hostReconnectsRow.stops == []) = true := by kernel_rfl
theorem Qvg : (Tryz.prog.stops == []) = true := by kernel_rfl
theorem Qyk : (Rows.hostReconnectsRow.knobs == []) = true := by kernel_rfl
theorem Qvh : (Tryz.prog.stopKnobs == []) = true := by kernel_rfl
theorem Qvj : (Rows.hostReconnectsRow.maps == (Tryz.f4.params.toList ++ Rows.hostReconnectsSpec.plain.varTypes Tryz.prog).any (Tryz.prog.mapsRec ·)) = true := by kernel_rfl
theorem Qvm : (Rows.hostReconnectsRow.ifaces == (Tryz.f4.params.toList ++ Rows.hostReconnectsSpec.plain.varTypes Tryz.prog).any (Tryz.prog.ifacesRec ·)) = true := by kernel_rfl
theorem Qt4 : (Rows.hostReconnectsRow.mapsOut == Tryz.prog.mapsAmong Tryz.f4.resultTypes.toList) = true := by kernel_rfl
theorem Qyi : (Rows.hostReconnectsRow.loops == (Tryz.f4.params.toList ++ Rows.hostReconnectsSpec.plain.varTypes Tryz.prog).any (Tryz.prog.loopsFrom ·)) = true := by kernel_rfl
theorem Z5c : (Rows.hostReconnectsRow.wideKeys == (Tryz.f4.params.toList ++ Rows.hostReconnectsSpec.plain.varTypes Tryz.prog ++ Tryz.f4.resultTypes.toList).any (Tryz.prog.wideKeysFrom ·)) = true := by kernel_rfl
theorem Z5d : Rows.hostReconnectsSpec.vars.all (Tryz.prog.varReadable ·) = true := by kernel_rfl
theorem j_res : Tryz.f4.resultTypes.all (λ t => Tryz.prog.readableRec t && decide (t < Tryz.prog.types.size)) = true := by kernel_rfl
theorem Qym : (Rows.hostReconnectsRow.ifacesOut == Tryz.f4.resultTypes.toList.any (Tryz.prog.ifacesRec ·)) = true := by kernel_rfl
theorem Qrm : (Rows.hostReconnectsRow.loopsOut == Tryz.f4.resultTypes.toList.any (Tryz.prog.loopsFrom ·)) = true := by kernel_rfl
theorem Qqa : (Rows.hostReconnectsRow.plainKeys == Tryz.prog.plainKeys) = true := by kernel_rfl
theorem Qyh : Rows.hostReconnectsRow.shortTexts.isNone = true := by kernel_rfl
theorem Qvl : (Rows.hostReconnectsRow.lifted == Tryz.prog.liftsFinal) = true := by kernel_rfl
theorem Z5f : (Tryz.prog.make == some Rows.hostReconnectsRow.make) = true := by kernel_rfl
theorem Qvf : (Rows.hostReconnectsRow.veiled == (Tryz.f4.params.toList ++ Rows.hostReconnectsSpec.plain.varTypes Tryz.prog ++ Tryz.f4.resultTypes.toList).any (Tryz.prog.veiledRec ·)) = true := by kernel_rfl
theorem Qrl : Rows.hostReconnectsRow.veiledFits Tryz.prog Tryz.f4.params.toList (Tryz.f4.params.toList ++ Rows.hostReconnectsSpec.plain.varTypes Tryz.prog ++ Tryz.f4.resultTypes.toList) = true := by kernel_rfl
theorem Qyj : true = Tryz.prog.looks [] := by kernel_rfl
theorem Qve : Rows.hostReconnectsRow.wfByText (OpenSpec.ofChange Rows.hostReconnectsSpec) = true := by kernel_rfl
theorem Qyl : Tryz.prog.inits.idxOf? 4 = none := by kernel_rfl
theorem Qvk : Tryz.prog.mainIs = some (true, "a31284f22c658a8b0e10256a27d66e818a072582d0e356fd446490c2363f3198".toList) := by kernel_rfl
end Go.Proofs.YtfjdakmmffedkaaGreatDoor
