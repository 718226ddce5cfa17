/-
 The law's number; the program may be entered. Conditions: none.
-/
import Derived.Test.YtmjjaldodkokbaaGreatDoorProg
import Derived.JoinedCond
import Derived.SevenTiedAt
import Derived.KernelRfl
import Derived.Test.YtmjjaldodkokbaaGreatDoorRows
namespace Go.Proofs.YtmjjaldodkokbaaGreatDoor
open Go Go.Proofs
set_option maxRecDepth 100000
theorem Qtw : Tryz.prog.funcNamed "stagepost/stagepostlaw25.HostHalfClose" = some 4 := by kernel_rfl
theorem Qyu : Tryz.prog.mayEnter = true := by kernel_rfl
end Go.Proofs.YtmjjaldodkokbaaGreatDoor
namespace Go.Proofs.YtmjjaldodkokbaaGreatDoor
open Go Go.Proofs
set_option maxRecDepth 100000
theorem j_wf : Rows.hostHalfCloseRow.wf (OpenSpec.ofChange Rows.hostHalfCloseSpec) = true := by kernel_rfl
theorem Qve : Tryz.f4.params.all (Tryz.prog.readableRec ·) = true := by kernel_rfl
theorem j_tie : namedTie Tryz.prog Rows.hostHalfCloseRow.named Rows.hostHalfCloseSpec.vars = true := by kernel_rfl
theorem Qym : (Rows.hostHalfCloseRow.stops == []) = true := by kernel_rfl
theorem Qvc : (Tryz.prog.stops == []) = true := by kernel_rfl
theorem Qyq : (Rows.hostHalfCloseRow.knobs == []) = true := by kernel_rfl
theorem Qvd : (Tryz.prog.stopKnobs == []) = true := by kernel_rfl
theorem Qvf : (Rows.hostHalfCloseRow.maps == (Tryz.f4.params.toList ++ Rows.hostHalfCloseSpec.plain.varTypes Tryz.prog).any (Tryz.prog.mapsRec ·)) = true := by kernel_rfl
theorem Qvi : (Rows.hostHalfCloseRow.ifaces == (Tryz.f4.params.toList ++ Rows.hostHalfCloseSpec.plain.varTypes Tryz.prog).any (Tryz.prog.ifacesRec ·)) = true := by kernel_rfl
theorem Qtv : (Rows.hostHalfCloseRow.mapsOut == Tryz.prog.mapsAmong Tryz.f4.resultTypes.toList) = true := by kernel_rfl
theorem Qyo : (Rows.hostHalfCloseRow.loops == (Tryz.f4.params.toList ++ Rows.hostHalfCloseSpec.plain.varTypes Tryz.prog).any (Tryz.prog.loopsFrom ·)) = true := by kernel_rfl
theorem Z3g : (Rows.hostHalfCloseRow.wideKeys == (Tryz.f4.params.toList ++ Rows.hostHalfCloseSpec.plain.varTypes Tryz.prog ++ Tryz.f4.resultTypes.toList).any (Tryz.prog.wideKeysFrom ·)) = true := by kernel_rfl
theorem Z3h : Rows.hostHalfCloseSpec.vars.all (Tryz.prog.varReadable ·) = true := by kernel_rfl
theorem j_res : Tryz.f4.resultTypes.all (λ t => Tryz.prog.readableRec t && decide (t < Tryz.prog.types.size)) = true := by kernel_rfl
theorem Qys : (Rows.hostHalfCloseRow.ifacesOut == Tryz.f4.resultTypes.toList.any (Tryz.prog.ifacesRec ·)) = true := by kernel_rfl
theorem Qss : (Rows.hostHalfCloseRow.loopsOut == Tryz.f4.resultTypes.toList.any (Tryz.prog.loopsFrom ·)) = true := by kernel_rfl
theorem Qrw : (Rows.hostHalfCloseRow.plainKeys == Tryz.prog.plainKeys) = true := by kernel_rfl
theorem Qyn : Rows.hostHalfCloseRow.shortTexts.isNone = true := by kernel_rfl
theorem Qvh : (Rows.hostHalfCloseRow.lifted == Tryz.prog.liftsFinal) = true := by kernel_rfl
theorem Z3j : (Tryz.prog.make == some Rows.hostHalfCloseRow.make) = true := by kernel_rfl
theorem Qvb : (Rows.hostHalfCloseRow.veiled == (Tryz.f4.params.toList ++ Rows.hostHalfCloseSpec.plain.varTypes Tryz.prog ++ Tryz.f4.resultTypes.toList).any (Tryz.prog.veiledRec ·)) = true := by kernel_rfl
theorem Qsr : Rows.hostHalfCloseRow.veiledFits Tryz.prog Tryz.f4.params.toList (Tryz.f4.params.toList ++ Rows.hostHalfCloseSpec.plain.varTypes Tryz.prog ++ Tryz.f4.resultTypes.toList) = true := by kernel_rfl
theorem Qyp : true = Tryz.prog.looks [] := by kernel_rfl
theorem Qva : Rows.hostHalfCloseRow.wfByText (OpenSpec.ofChange Rows.hostHalfCloseSpec) = true := by kernel_rfl
theorem Qyr : Tryz.prog.inits.idxOf? 4 = none := by kernel_rfl
theorem Qvg : Tryz.prog.mainIs = some (true, "b923887cddee06da9ed4e01899d9e0d41d8718df68685233f6d365521e4e6ff2".toList) := by kernel_rfl
end Go.Proofs.YtmjjaldodkokbaaGreatDoor
