/-
 One direction closed: hops, part 9. Conditions: none.
-/
import Derived.Test.YtmjjaldodkokbaaGreatDoorHUs
namespace Go.Proofs.YtmjjaldodkokbaaGreatDoor
open Go Go.Ax Go.RowKit Go.Proofs
theorem Z42 : Hq 0 (wf sB (Z2y ++ sB.fs)) [1] Qq4 := by unfold Hq Qc8; kernel_rfl
theorem Z41 : Hq 2 (Qq4.am 8000) [5, 4, 1] Qvu := by unfold Hq Qc8; kernel_rfl
theorem Z40 : Hq 2 (Qvu.am 8000) [6, 3, 2] Qvt := by unfold Hq Qc8; kernel_rfl
theorem Z3z : Hq 2 (Qvt.am 8000) [6, 3, 1] Qvs := by unfold Hq Qc8; kernel_rfl
theorem hZ13w : Hq 2 (Qvs.am 8000) [4, 3, 2, 0] Qzp := by unfold Hq Qc8; kernel_rfl
theorem Qyy : Hq 0 (wf sB (Qww ++ sB.fs)) [1] Qp5 := by unfold Hq Qc8; kernel_rfl
theorem Z3n : Hq 2 (Qp5.am 8000) [5, 4, 1] Qvk := by unfold Hq Qc8; kernel_rfl
theorem Qyx : Hq 0 (wf sB (Qwv ++ sB.fs)) [1] Qqd := by unfold Hq Qc8; kernel_rfl
theorem Qyw : Hq 2 (Qqd.am 8000) [5, 4, 1] Qsx := by unfold Hq Qc8; kernel_rfl
theorem Z3m : Hq 2 (Qsx.am 8000) [0] Qvj := by unfold Hq Qc8; kernel_rfl
theorem Z3y : Hq 0 (wf sB (Z2x ++ sB.fs)) [1] Qsw := by unfold Hq Qc8; kernel_rfl
theorem hZ21w : Hq 2 (Qsw.am 8000) [5, 4, 1] Qzo := by unfold Hq Qc8; kernel_rfl
theorem Z3x : Hq 0 (wf sB (Z2w ++ sB.fs)) [1] Qq3 := by unfold Hq Qc8; kernel_rfl
end Go.Proofs.YtmjjaldodkokbaaGreatDoor
