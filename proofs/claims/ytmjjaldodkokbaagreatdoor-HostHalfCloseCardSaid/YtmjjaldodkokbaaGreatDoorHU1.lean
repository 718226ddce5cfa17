/-
 One direction closed: hops, part 2. Conditions: none.
-/
import Derived.Test.YtmjjaldodkokbaaGreatDoorHUs
namespace Go.Proofs.YtmjjaldodkokbaaGreatDoor
open Go Go.Ax Go.RowKit Go.Proofs
theorem hQ21 : Hq 2 (Qz0.am 8000) [6, 4, 1] sQ21 := by unfold Hq Qc8; kernel_rfl
theorem hQ22 : Hq 2 (sQ21.am 8000) [4, 2] sQ22 := by unfold Hq Qc8; kernel_rfl
theorem hQ23 : Hq 2 (sQ22.am 8000) [5, 4] sQ23 := by unfold Hq Qc8; kernel_rfl
theorem hQ24 : Hq 2 (sQ23.am 8000) [6, 5, 4, 2, 1] sQ24 := by unfold Hq Qc8; kernel_rfl
theorem hM0 : Hq 0 (sM.am 8000) [0] sM0 := by unfold Hq Qc8; kernel_rfl
theorem hM1 : Hq 0 (sM0.am 8000) [0] sM1 := by unfold Hq Qc8; kernel_rfl
theorem hM2 : Hq 0 (sM1.am 8000) [1, 0] sM2 := by unfold Hq Qc8; kernel_rfl
theorem hB : Hq 0 (sM2.am 8000) [3] sB := by unfold Hq Qc8; kernel_rfl
theorem Z5p : Hq 0 (wf sB (Z3e ++ sB.fs)) [1] Qnh := by unfold Hq Qc8; kernel_rfl
theorem hZ01p : Hq 2 (Qnh.am 8000) [5, 4, 1] Qqt := by unfold Hq Qc8; kernel_rfl
theorem Z5o : Hq 0 (wf sB (Z3d ++ sB.fs)) [1] Qt2 := by unfold Hq Qc8; kernel_rfl
theorem hZ01w : Hq 2 (Qt2.am 8000) [5, 4, 1] Qzy := by unfold Hq Qc8; kernel_rfl
end Go.Proofs.YtmjjaldodkokbaaGreatDoor
