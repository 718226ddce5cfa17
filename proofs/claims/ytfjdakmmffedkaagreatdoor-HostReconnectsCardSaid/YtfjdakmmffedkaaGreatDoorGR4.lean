/-
 Successive connections: hops, part 5. Conditions: none.
-/
import Derived.Test.YtfjdakmmffedkaaGreatDoorGRs
namespace Go.Proofs.YtfjdakmmffedkaaGreatDoor
open Go Go.Ax Go.RowKit Go.Proofs
theorem hH14 : Hc 0 (sH13.am 8000) [2, 0] sH14 := by unfold Hc Qju; kernel_rfl
theorem hB1 : Hc 0 (sH14.am 8000) [2, 1, 0] sB1 := by unfold Hc Qju; kernel_rfl
theorem hC110 : Hc 0 (wf sB1 (⟨.lss, .len 13755, .lit (.ofNat 460), true⟩ :: ⟨.lss, .len 13755, .lit (.ofNat 1), false⟩ :: Qn6.fs)) [1] Qnb := by unfold Hc Qju; kernel_rfl
theorem hC111 : Hc 2 (Qnb.am 8000) [5, 4, 1] Qrs := by unfold Hc Qju; kernel_rfl
theorem hC112 : Hc 0 (Qrs.am 8000) [0] Qmh := by unfold Hc Qju; kernel_rfl
theorem hC113 : Hc 2 (Qmh.am 8000) [7, 4, 1] Qte := by unfold Hc Qju; kernel_rfl
theorem hC114 : Hc 0 (Qte.am 8000) [0] Qns := by unfold Hc Qju; kernel_rfl
theorem hC100 : Hc 0 (wf sB1 (⟨.lss, .len 13755, .lit (.ofNat 1), true⟩ :: Qn6.fs)) [1] Qvv := by unfold Hc Qju; kernel_rfl
theorem hC101 : Hc 0 (Qvv.am 8000) [0] Qoj := by unfold Hc Qju; kernel_rfl
theorem hC102 : Hc 2 (Qoj.am 8000) [7, 4, 1] Qvu := by unfold Hc Qju; kernel_rfl
end Go.Proofs.YtfjdakmmffedkaaGreatDoor
