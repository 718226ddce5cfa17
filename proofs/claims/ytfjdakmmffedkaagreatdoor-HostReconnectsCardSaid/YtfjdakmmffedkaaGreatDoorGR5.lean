/-
 Successive connections: hops, part 6. Conditions: none.
-/
import Derived.Test.YtfjdakmmffedkaaGreatDoorGRs
namespace Go.Proofs.YtfjdakmmffedkaaGreatDoor
open Go Go.Ax Go.RowKit Go.Proofs
theorem hC103 : Hc 0 (Qvu.am 8000) [0] Qzw := by unfold Hc Qju; kernel_rfl
theorem hC120 : Hc 0 (wf sB1 (⟨.lss, .len 13755, .lit (.ofNat 461), true⟩ :: ⟨.lss, .len 13755, .lit (.ofNat 460), false⟩ :: ⟨.lss, .len 13755, .lit (.ofNat 1), false⟩ :: Qn6.fs)) [1] Qtd := by unfold Hc Qju; kernel_rfl
theorem hC121 : Hc 2 (Qtd.am 8000) [5, 4, 1] Qzv := by unfold Hc Qju; kernel_rfl
theorem hC122 : Hc 0 (Qzv.am 8000) [0] Qoi := by unfold Hc Qju; kernel_rfl
theorem hC123 : Hc 0 (Qoi.am 8000) [0] Qzu := by unfold Hc Qju; kernel_rfl
theorem hC124 : Hc 2 (Qzu.am 8000) [7, 6, 4, 0] Qvt := by unfold Hc Qju; kernel_rfl
theorem hC125 : Hc 0 (Qvt.am 8000) [0] Qzt := by unfold Hc Qju; kernel_rfl
theorem hC130 : Hc 0 (wf sB1 (⟨.lss, .len 13755, .lit (.ofNat 461), false⟩ :: ⟨.lss, .len 13755, .lit (.ofNat 460), false⟩ :: ⟨.lss, .len 13755, .lit (.ofNat 1), false⟩ :: Qn6.fs)) [1] Qtc := by unfold Hc Qju; kernel_rfl
theorem hC131 : Hc 2 (Qtc.am 8000) [5, 4, 1] Qzs := by unfold Hc Qju; kernel_rfl
theorem hC132 : Hc 0 (Qzs.am 8000) [0] Qnr := by unfold Hc Qju; kernel_rfl
end Go.Proofs.YtfjdakmmffedkaaGreatDoor
