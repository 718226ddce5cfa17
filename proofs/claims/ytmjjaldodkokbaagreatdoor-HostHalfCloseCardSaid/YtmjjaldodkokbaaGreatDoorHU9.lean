/-
 One direction closed: hops, part 10. Conditions: none.
-/
import Derived.Test.YtmjjaldodkokbaaGreatDoorHUs
namespace Go.Proofs.YtmjjaldodkokbaaGreatDoor
open Go Go.Ax Go.RowKit Go.Proofs
theorem Z3w : Hq 2 (Qq3.am 8000) [5, 4, 1] Qvr := by unfold Hq Qc8; kernel_rfl
theorem hZ22p : Hq 2 (Qvr.am 8000) [3, 2, 1, 0] Qzn := by unfold Hq Qc8; kernel_rfl
theorem Z3v : Hq 0 (wf sB (Z2v ++ sB.fs)) [0] Qqu := by unfold Hq Qc8; kernel_rfl
theorem Z3u : Hq 2 (Qqu.am 8000) [6, 3, 2, 1] Qvq := by unfold Hq Qc8; kernel_rfl
theorem Z3t : Hq 2 (Qvq.am 8000) [0] Qvp := by unfold Hq Qc8; kernel_rfl
theorem hZ22w : Hq 2 (Qvp.am 8000) [0] Qzm := by unfold Hq Qc8; kernel_rfl
theorem Z3s : Hq 0 (wf sB (Z2u ++ sB.fs)) [0] Qpi := by unfold Hq Qc8; kernel_rfl
theorem Z3r : Hq 2 (Qpi.am 8000) [6, 3, 2, 1] Qvo := by unfold Hq Qc8; kernel_rfl
theorem Z3q : Hq 2 (Qvo.am 8000) [0] Qvn := by unfold Hq Qc8; kernel_rfl
theorem Z3p : Hq 2 (Qvn.am 8000) [7, 5, 2, 1, 0] Qvm := by unfold Hq Qc8; kernel_rfl
theorem Z3o : Hq 2 (Qvm.am 8000) [4, 3, 2] Qvl := by unfold Hq Qc8; kernel_rfl
theorem hZ23p : Hq 2 (Qvl.am 8000) [4, 3, 2, 0] Qzl := by unfold Hq Qc8; kernel_rfl
theorem hM_0 : HopR 0 jX GF 200 17 (sQ04.am 8000) [0] [(4473, (.bin .add .i64 (.var 126) (eL 260))), (4475, (.bin .add .i64 (.var 126) (eL 260)))] (qkq [126, 127, 13, 14, 15] sM) [] sM := by unfold HopR; kernel_rfl
end Go.Proofs.YtmjjaldodkokbaaGreatDoor
