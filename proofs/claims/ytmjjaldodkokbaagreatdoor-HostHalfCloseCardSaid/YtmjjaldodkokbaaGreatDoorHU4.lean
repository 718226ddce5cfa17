/-
 One direction closed: hops, part 5. Conditions: none.
-/
import Derived.Test.YtmjjaldodkokbaaGreatDoorHUs
namespace Go.Proofs.YtmjjaldodkokbaaGreatDoor
open Go Go.Ax Go.RowKit Go.Proofs
theorem Z54 : Hq 0 (wf sB (Z37 ++ sB.fs)) [1] Qpc := by unfold Hq Qc8; kernel_rfl
theorem Z53 : Hq 2 (Qpc.am 8000) [5, 4, 1] Qwj := by unfold Hq Qc8; kernel_rfl
theorem Z52 : Hq 2 (Qwj.am 8000) [6, 5, 4, 3, 1] Qwi := by unfold Hq Qc8; kernel_rfl
theorem Z51 : Hq 2 (Qwi.am 8000) [4, 3, 2] Qwh := by unfold Hq Qc8; kernel_rfl
theorem Z50 : Hq 2 (Qwh.am 8000) [4, 3, 2, 0] Qwg := by unfold Hq Qc8; kernel_rfl
theorem Z4z : Hq 2 (Qwg.am 8000) [4, 3, 2, 0] Qwf := by unfold Hq Qc8; kernel_rfl
theorem hZ04w : Hq 0 (Qwf.am 8000) [0] Qzw := by unfold Hq Qc8; kernel_rfl
theorem Z4y : Hq 0 (wf sB (Z36 ++ sB.fs)) [1] Qol := by unfold Hq Qc8; kernel_rfl
theorem Z4x : Hq 2 (Qol.am 8000) [5, 4, 1] Qwe := by unfold Hq Qc8; kernel_rfl
theorem Z4w : Hq 2 (Qwe.am 8000) [6, 5, 4, 3, 1] Qwd := by unfold Hq Qc8; kernel_rfl
theorem Z4v : Hq 2 (Qwd.am 8000) [4, 3, 2] Qwc := by unfold Hq Qc8; kernel_rfl
end Go.Proofs.YtmjjaldodkokbaaGreatDoor
