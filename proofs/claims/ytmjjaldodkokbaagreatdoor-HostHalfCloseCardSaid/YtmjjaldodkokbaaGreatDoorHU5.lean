/-
 One direction closed: hops, part 6. Conditions: none.
-/
import Derived.Test.YtmjjaldodkokbaaGreatDoorHUs
namespace Go.Proofs.YtmjjaldodkokbaaGreatDoor
open Go Go.Ax Go.RowKit Go.Proofs
theorem Z4u : Hq 2 (Qwc.am 8000) [3, 2, 1, 0] Qt0 := by unfold Hq Qc8; kernel_rfl
theorem Z4t : Hq 2 (Qt0.am 8000) [5, 3, 1, 0] Qry := by unfold Hq Qc8; kernel_rfl
theorem Z4s : Hq 2 (Qry.am 8000) [0] Qsz := by unfold Hq Qc8; kernel_rfl
theorem hZ05p : Hq 2 (Qsz.am 8000) [0] Qwy := by unfold Hq Qc8; kernel_rfl
theorem Z4r : Hq 0 (wf sB (Z35 ++ sB.fs)) [1] Qoz := by unfold Hq Qc8; kernel_rfl
theorem Z4q : Hq 2 (Qoz.am 8000) [5, 4, 1] Qwb := by unfold Hq Qc8; kernel_rfl
theorem Z4p : Hq 2 (Qwb.am 8000) [6, 5, 4, 3, 1] Qwa := by unfold Hq Qc8; kernel_rfl
theorem Z4o : Hq 2 (Qwa.am 8000) [4, 3, 2] Qw9 := by unfold Hq Qc8; kernel_rfl
theorem Z4n : Hq 2 (Qw9.am 8000) [3, 2, 1, 0] Qw8 := by unfold Hq Qc8; kernel_rfl
theorem Z4m : Hq 2 (Qw8.am 8000) [5, 3, 1, 0] Qw7 := by unfold Hq Qc8; kernel_rfl
theorem Z4l : Hq 2 (Qw7.am 8000) [0] Qw6 := by unfold Hq Qc8; kernel_rfl
theorem hZ05w : Hq 2 (Qw6.am 8000) [0] Qzv := by unfold Hq Qc8; kernel_rfl
end Go.Proofs.YtmjjaldodkokbaaGreatDoor
