/-
 Successive connections: hops, part 4. Conditions: none.
-/
import Derived.Test.YtfjdakmmffedkaaGreatDoorGRs
namespace Go.Proofs.YtfjdakmmffedkaaGreatDoor
open Go Go.Ax Go.RowKit Go.Proofs
theorem hT03 : Hc 0 (sT02.am 8000) [3, 0] sT03 := by unfold Hc Qju; kernel_rfl
theorem hT04 : Hc 0 (sT03.am 8000) [3, 0] sT04 := by unfold Hc Qju; kernel_rfl
theorem hT05 : Hc 0 (sT04.am 8000) [3, 0] sT05 := by unfold Hc Qju; kernel_rfl
theorem hT06 : Hc 0 (sT05.am 8000) [3] Qvn := by unfold Hc Qju; kernel_rfl
theorem hE0 : Hc 0 (Qvn.am 8000) [3, 1] sE0 := by unfold Hc Qju; kernel_rfl
theorem hH10 : Hc 0 (wr sE0 2 (⟨.lss, .var 14, .lit (.ofNat 2), false⟩ :: Qvn.fs)) [2, 1, 0] Qn6 := by unfold Hc Qju; kernel_rfl
theorem hH11 : Hc 0 (Qn6.am 8000) [0] sH11 := by unfold Hc Qju; kernel_rfl
theorem hH12 : Hc 0 (sH11.am 8000) [0] sH12 := by unfold Hc Qju; kernel_rfl
theorem hH13 : Hc 0 (sH12.am 8000) [1] sH13 := by unfold Hc Qju; kernel_rfl
end Go.Proofs.YtfjdakmmffedkaaGreatDoor
