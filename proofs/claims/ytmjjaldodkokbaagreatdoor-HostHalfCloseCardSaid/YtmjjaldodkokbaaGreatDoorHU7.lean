/-
 One direction closed: hops, part 8. Conditions: none.
-/
import Derived.Test.YtmjjaldodkokbaaGreatDoorHUs
namespace Go.Proofs.YtmjjaldodkokbaaGreatDoor
open Go Go.Ax Go.RowKit Go.Proofs
theorem hZ11w : Hq 2 (Qsy.am 8000) [5, 4, 1] Qzs := by unfold Hq Qc8; kernel_rfl
theorem Z4b : Hq 0 (wf sB (Z31 ++ sB.fs)) [1] Qq5 := by unfold Hq Qc8; kernel_rfl
theorem Z4a : Hq 2 (Qq5.am 8000) [5, 4, 1] Qvz := by unfold Hq Qc8; kernel_rfl
theorem hZ12p : Hq 2 (Qvz.am 8000) [0] Qzr := by unfold Hq Qc8; kernel_rfl
theorem Z49 : Hq 0 (wf sB (Z30 ++ sB.fs)) [0] Qqv := by unfold Hq Qc8; kernel_rfl
theorem Z48 : Hq 0 (Qqv.am 8000) [0] Qvy := by unfold Hq Qc8; kernel_rfl
theorem Z47 : Hq 2 (Qvy.am 8000) [5, 4, 1] Qvx := by unfold Hq Qc8; kernel_rfl
theorem hZ12w : Hq 2 (Qvx.am 8000) [0] Qzq := by unfold Hq Qc8; kernel_rfl
theorem Z46 : Hq 0 (wf sB (Z2z ++ sB.fs)) [1] Qpj := by unfold Hq Qc8; kernel_rfl
theorem Z45 : Hq 2 (Qpj.am 8000) [5, 4, 1] Qvw := by unfold Hq Qc8; kernel_rfl
theorem Z44 : Hq 2 (Qvw.am 8000) [6, 3, 2] Qvv := by unfold Hq Qc8; kernel_rfl
theorem Z43 : Hq 2 (Qvv.am 8000) [6, 3, 1] Qrx := by unfold Hq Qc8; kernel_rfl
theorem hZ13p : Hq 2 (Qrx.am 8000) [4, 3, 2, 0] Qu0 := by unfold Hq Qc8; kernel_rfl
end Go.Proofs.YtmjjaldodkokbaaGreatDoor
