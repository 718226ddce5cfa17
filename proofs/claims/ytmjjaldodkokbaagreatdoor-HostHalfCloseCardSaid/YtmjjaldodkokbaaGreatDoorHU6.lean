/-
 One direction closed: hops, part 7. Conditions: none.
-/
import Derived.Test.YtmjjaldodkokbaaGreatDoorHUs
namespace Go.Proofs.YtmjjaldodkokbaaGreatDoor
open Go Go.Ax Go.RowKit Go.Proofs
theorem Z4k : Hq 0 (wf sB (Z34 ++ sB.fs)) [1] Qoy := by unfold Hq Qc8; kernel_rfl
theorem Z4j : Hq 2 (Qoy.am 8000) [5, 4, 1] Qw5 := by unfold Hq Qc8; kernel_rfl
theorem Z4i : Hq 2 (Qw5.am 8000) [6, 5, 4, 3, 1] Qw4 := by unfold Hq Qc8; kernel_rfl
theorem Z4h : Hq 2 (Qw4.am 8000) [4, 3, 2] Qw3 := by unfold Hq Qc8; kernel_rfl
theorem Z4g : Hq 2 (Qw3.am 8000) [0] Qw2 := by unfold Hq Qc8; kernel_rfl
theorem Z4f : Hq 2 (Qw2.am 8000) [5, 4, 3, 0] Qw1 := by unfold Hq Qc8; kernel_rfl
theorem Z4e : Hq 2 (Qw1.am 8000) [1] Qw0 := by unfold Hq Qc8; kernel_rfl
theorem hZ06p : Hq 2 (Qw0.am 8000) [0] Qzu := by unfold Hq Qc8; kernel_rfl
theorem Z4d : Hq 0 (wf sB (Z33 ++ sB.fs)) [1] Qqw := by unfold Hq Qc8; kernel_rfl
theorem hZ11p : Hq 2 (Qqw.am 8000) [5, 4, 1] Qzt := by unfold Hq Qc8; kernel_rfl
theorem Z4c : Hq 0 (wf sB (Z32 ++ sB.fs)) [1] Qsy := by unfold Hq Qc8; kernel_rfl
end Go.Proofs.YtmjjaldodkokbaaGreatDoor
