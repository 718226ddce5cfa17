/-
 One direction closed: hops, part 3. Conditions: none.
-/
import Derived.Test.YtmjjaldodkokbaaGreatDoorHUs
namespace Go.Proofs.YtmjjaldodkokbaaGreatDoor
open Go Go.Ax Go.RowKit Go.Proofs
theorem Z5n : Hq 0 (wf sB (Z3c ++ sB.fs)) [1] Qq8 := by unfold Hq Qc8; kernel_rfl
theorem Z5m : Hq 2 (Qq8.am 8000) [5, 4, 1] Qs0 := by unfold Hq Qc8; kernel_rfl
theorem hZ02p : Hq 2 (Qs0.am 8000) [0] Qra := by unfold Hq Qc8; kernel_rfl
theorem Z5l : Hq 0 (wf sB (Z3b ++ sB.fs)) [0] Qpf := by unfold Hq Qc8; kernel_rfl
theorem Z5k : Hq 0 (Qpf.am 8000) [0] Qwq := by unfold Hq Qc8; kernel_rfl
theorem Z5j : Hq 2 (Qwq.am 8000) [5, 4, 1] Qrz := by unfold Hq Qc8; kernel_rfl
theorem hZ02w : Hq 2 (Qrz.am 8000) [0] Qu1 := by unfold Hq Qc8; kernel_rfl
theorem Z5i : Hq 0 (wf sB (Z3a ++ sB.fs)) [1] Qpe := by unfold Hq Qc8; kernel_rfl
theorem Z5h : Hq 2 (Qpe.am 8000) [5, 4, 1] Qom := by unfold Hq Qc8; kernel_rfl
theorem Z5g : Hq 2 (Qom.am 8000) [6, 3, 2] Qpk := by unfold Hq Qc8; kernel_rfl
theorem Z5f : Hq 2 (Qpk.am 8000) [6, 3, 1] Qpd := by unfold Hq Qc8; kernel_rfl
theorem hZ03p : Hq 2 (Qpd.am 8000) [4, 3, 2, 0] Qsv := by unfold Hq Qc8; kernel_rfl
theorem Z5e : Hq 0 (wf sB (Z39 ++ sB.fs)) [1] Qq7 := by unfold Hq Qc8; kernel_rfl
end Go.Proofs.YtmjjaldodkokbaaGreatDoor
