/-
 Successive connections: hops, part 10. Conditions: none.
-/
import Derived.Test.YtfjdakmmffedkaaGreatDoorGRs
namespace Go.Proofs.YtfjdakmmffedkaaGreatDoor
open Go Go.Ax Go.RowKit Go.Proofs
theorem hC222 : Hc 0 (Qzj.am 8000) [0] Qoh := by unfold Hc Qju; kernel_rfl
theorem hC223 : Hc 0 (Qoh.am 8000) [0] Qvr := by unfold Hc Qju; kernel_rfl
theorem hC224 : Hc 2 (Qvr.am 8000) [7, 6, 4, 0] Qzi := by unfold Hc Qju; kernel_rfl
theorem hC225 : Hc 0 (Qzi.am 8000) [0] Qzh := by unfold Hc Qju; kernel_rfl
theorem hC230 : Hc 0 (wf sB2 (⟨.lss, .len 27487, .lit (.ofNat 461), false⟩ :: ⟨.lss, .len 27487, .lit (.ofNat 460), false⟩ :: ⟨.lss, .len 27487, .lit (.ofNat 1), false⟩ :: sB2.fs)) [1] Qvq := by unfold Hc Qju; kernel_rfl
theorem hC231 : Hc 2 (Qvq.am 8000) [5, 4, 1] Qzg := by unfold Hc Qju; kernel_rfl
theorem hC232 : Hc 0 (Qzg.am 8000) [0] Qqi := by unfold Hc Qju; kernel_rfl
theorem hC233 : Hc 0 (Qqi.am 8000) [0] Qta := by unfold Hc Qju; kernel_rfl
theorem hC234 : Hc 2 (Qta.am 8000) [7, 6, 4, 0] Qzf := by unfold Hc Qju; kernel_rfl
theorem hC235 : Hc 0 (Qzf.am 8000) [0] Qze := by unfold Hc Qju; kernel_rfl
end Go.Proofs.YtfjdakmmffedkaaGreatDoor
