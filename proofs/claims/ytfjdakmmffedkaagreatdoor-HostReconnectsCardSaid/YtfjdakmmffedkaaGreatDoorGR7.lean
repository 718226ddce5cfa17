/-
 Successive connections: hops, part 8. Conditions: none.
-/
import Derived.Test.YtfjdakmmffedkaaGreatDoorGRs
namespace Go.Proofs.YtfjdakmmffedkaaGreatDoor
open Go Go.Ax Go.RowKit Go.Proofs
theorem hT16 : Hc 0 (sT15.am 8000) [3] Qrq := by unfold Hc Qju; kernel_rfl
theorem hE1 : Hc 0 (Qrq.am 8000) [3, 1] sE1 := by unfold Hc Qju; kernel_rfl
theorem hH20 : Hc 0 (wr sE1 3 (⟨.lss, .var 14, .lit (.ofNat 3), false⟩ :: Qrq.fs)) [2, 1, 0] Qnq := by unfold Hc Qju; kernel_rfl
theorem hH21 : Hc 0 (Qnq.am 8000) [0] sH21 := by unfold Hc Qju; kernel_rfl
theorem hH22 : Hc 0 (sH21.am 8000) [0] sH22 := by unfold Hc Qju; kernel_rfl
theorem hH23 : Hc 0 (sH22.am 8000) [1] sH23 := by unfold Hc Qju; kernel_rfl
theorem hH24 : Hc 0 (sH23.am 8000) [2, 0] sH24 := by unfold Hc Qju; kernel_rfl
theorem hB2 : Hc 0 (sH24.am 8000) [2, 1, 0] sB2 := by unfold Hc Qju; kernel_rfl
theorem hC210 : Hc 0 (wf sB2 (⟨.lss, .len 27487, .lit (.ofNat 460), true⟩ :: ⟨.lss, .len 27487, .lit (.ofNat 1), false⟩ :: sB2.fs)) [1] Qmf := by unfold Hc Qju; kernel_rfl
end Go.Proofs.YtfjdakmmffedkaaGreatDoor
