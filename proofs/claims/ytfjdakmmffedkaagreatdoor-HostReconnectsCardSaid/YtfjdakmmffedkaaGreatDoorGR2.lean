/-
 Successive connections: hops, part 3. Conditions: none.
-/
import Derived.Test.YtfjdakmmffedkaaGreatDoorGRs
namespace Go.Proofs.YtfjdakmmffedkaaGreatDoor
open Go Go.Ax Go.RowKit Go.Proofs
theorem hC025 : Hc 0 (Z02.am 8000) [0] Z01 := by unfold Hc Qju; kernel_rfl
theorem hC030 : Hc 0 (wf sB0 (⟨.lss, .len 244, .lit (.ofNat 461), false⟩ :: ⟨.lss, .len 244, .lit (.ofNat 460), false⟩ :: ⟨.lss, .len 244, .lit (.ofNat 1), false⟩ :: Qmj.fs)) [1] Qne := by unfold Hc Qju; kernel_rfl
theorem hC031 : Hc 2 (Qne.am 8000) [5, 4, 1] Z00 := by unfold Hc Qju; kernel_rfl
theorem hC032 : Hc 0 (Z00.am 8000) [0] Qzz := by unfold Hc Qju; kernel_rfl
theorem hC033 : Hc 0 (Qzz.am 8000) [0] Qtf := by unfold Hc Qju; kernel_rfl
theorem hC034 : Hc 2 (Qtf.am 8000) [7, 6, 4, 0] Qzy := by unfold Hc Qju; kernel_rfl
theorem hC035 : Hc 0 (Qzy.am 8000) [0] Qzx := by unfold Hc Qju; kernel_rfl
theorem hT00 : Hc 0 (sM0.am 8000) [3, 0] sT00 := by unfold Hc Qju; kernel_rfl
theorem hT01 : Hc 0 (sT00.am 8000) [3, 0] sT01 := by unfold Hc Qju; kernel_rfl
theorem hT02 : Hc 0 (sT01.am 8000) [3, 0] sT02 := by unfold Hc Qju; kernel_rfl
end Go.Proofs.YtfjdakmmffedkaaGreatDoor
