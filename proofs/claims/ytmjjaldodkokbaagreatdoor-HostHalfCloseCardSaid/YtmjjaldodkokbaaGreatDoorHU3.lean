/-
 One direction closed: hops, part 4. Conditions: none.
-/
import Derived.Test.YtmjjaldodkokbaaGreatDoorHUs
namespace Go.Proofs.YtmjjaldodkokbaaGreatDoor
open Go Go.Ax Go.RowKit Go.Proofs
theorem Z5d : Hq 2 (Qq7.am 8000) [5, 4, 1] Qwp := by unfold Hq Qc8; kernel_rfl
theorem Z5c : Hq 2 (Qwp.am 8000) [6, 3, 2] Qwo := by unfold Hq Qc8; kernel_rfl
theorem Z5b : Hq 2 (Qwo.am 8000) [6, 3, 1] Qwn := by unfold Hq Qc8; kernel_rfl
theorem hZ03w : Hq 2 (Qwn.am 8000) [4, 3, 2, 0] Qzx := by unfold Hq Qc8; kernel_rfl
theorem Z5a : Hq 0 (wf sB (Z38 ++ sB.fs)) [1] Qot := by unfold Hq Qc8; kernel_rfl
theorem Z59 : Hq 2 (Qot.am 8000) [5, 4, 1] Qwm := by unfold Hq Qc8; kernel_rfl
theorem Z58 : Hq 2 (Qwm.am 8000) [6, 5, 4, 3, 1] Qq6 := by unfold Hq Qc8; kernel_rfl
theorem Z57 : Hq 2 (Qq6.am 8000) [4, 3, 2] Qwl := by unfold Hq Qc8; kernel_rfl
theorem Z56 : Hq 2 (Qwl.am 8000) [4, 3, 2, 0] Qwk := by unfold Hq Qc8; kernel_rfl
theorem Z55 : Hq 2 (Qwk.am 8000) [4, 3, 2, 0] Qt1 := by unfold Hq Qc8; kernel_rfl
theorem hZ04p : Hq 0 (Qt1.am 8000) [0] Qwz := by unfold Hq Qc8; kernel_rfl
end Go.Proofs.YtmjjaldodkokbaaGreatDoor
