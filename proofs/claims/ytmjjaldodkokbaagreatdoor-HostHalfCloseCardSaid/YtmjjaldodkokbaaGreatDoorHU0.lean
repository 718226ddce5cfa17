/-
 One direction closed: hops, part 1. Conditions: none.
-/
import Derived.Test.YtmjjaldodkokbaaGreatDoorHUs
namespace Go.Proofs.YtmjjaldodkokbaaGreatDoor
open Go Go.Ax Go.RowKit Go.Proofs
theorem hP : Qc8 0 jX GF 200 17 hc00 [2, 1] [(126, .pk 700 (.var 13)), (127, .pk 700 (.bin .quo .i64 (.var 13) (.lit 7)))] (qkq [13, 14, 15] sP) sP := by unfold Qc8; kernel_rfl
theorem hP0 : Hq 2 (sP.am 8000) [7, 3, 2] sP0 := by unfold Hq Qc8; kernel_rfl
theorem hQ : Hq 2 (sP0.am 8000) [6, 3] sQ := by unfold Hq Qc8; kernel_rfl
theorem hQ00 : Hq 2 (wf sQ (⟨.lss, (.bin .sub .i64 (.var 126) (.var 127)), (eL 0), true⟩ :: sP.fs)) [3, 2, 1, 0] Qs5 := by unfold Hq Qc8; kernel_rfl
theorem hQ01 : Hq 2 (Qs5.am 8000) [6, 4, 1] Qu2 := by unfold Hq Qc8; kernel_rfl
theorem hQ02 : Hq 2 (Qu2.am 8000) [4, 2] Qz1 := by unfold Hq Qc8; kernel_rfl
theorem hQ03 : Hq 2 (Qz1.am 8000) [5, 4] Qx1 := by unfold Hq Qc8; kernel_rfl
theorem hQ04 : Hq 2 (Qx1.am 8000) [6, 5, 4, 2, 1] sQ04 := by unfold Hq Qc8; kernel_rfl
theorem hQ10 : Hq 2 (wf sQ (⟨.eql, (.bin .sub .i64 (.var 126) (.var 127)), (eL 0), true⟩ :: sP.fs)) [3, 2, 1, 0] Qx0 := by unfold Hq Qc8; kernel_rfl
theorem hQ11 : Hq 2 (Qx0.am 8000) [6, 4, 1] sQ11 := by unfold Hq Qc8; kernel_rfl
theorem hQ12 : Hq 2 (sQ11.am 8000) [4, 2] sQ12 := by unfold Hq Qc8; kernel_rfl
theorem hQ13 : Hq 2 (sQ12.am 8000) [5, 4] Qzz := by unfold Hq Qc8; kernel_rfl
theorem hQ14 : Hq 2 (Qzz.am 8000) [6, 5, 4, 2, 1] sQ14 := by unfold Hq Qc8; kernel_rfl
theorem hQ20 : Hq 2 (wf sQ (⟨.gtr, (.bin .sub .i64 (.var 126) (.var 127)), (eL 0), true⟩ :: sP.fs)) [3, 2, 1, 0] Qz0 := by unfold Hq Qc8; kernel_rfl
end Go.Proofs.YtmjjaldodkokbaaGreatDoor
