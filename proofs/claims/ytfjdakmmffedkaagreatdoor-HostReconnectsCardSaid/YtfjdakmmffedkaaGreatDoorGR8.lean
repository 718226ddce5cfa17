/-
 Successive connections: hops, part 9. Conditions: none.
-/
import Derived.Test.YtfjdakmmffedkaaGreatDoorGRs
namespace Go.Proofs.YtfjdakmmffedkaaGreatDoor
open Go Go.Ax Go.RowKit Go.Proofs
theorem hC211 : Hc 2 (Qmf.am 8000) [5, 4, 1] Qvs := by unfold Hc Qju; kernel_rfl
theorem hC212 : Hc 0 (Qvs.am 8000) [0] Qmn := by unfold Hc Qju; kernel_rfl
theorem hC213 : Hc 2 (Qmn.am 8000) [7, 4, 1] Qzl := by unfold Hc Qju; kernel_rfl
theorem hC214 : Hc 0 (Qzl.am 8000) [0] Qzk := by unfold Hc Qju; kernel_rfl
theorem hC200 : Hc 0 (wf sB2 (⟨.lss, .len 27487, .lit (.ofNat 1), true⟩ :: sB2.fs)) [1] Qzo := by unfold Hc Qju; kernel_rfl
theorem hC201 : Hc 0 (Qzo.am 8000) [0] Qtb := by unfold Hc Qju; kernel_rfl
theorem hC202 : Hc 2 (Qtb.am 8000) [7, 4, 1] Qzn := by unfold Hc Qju; kernel_rfl
theorem hC203 : Hc 0 (Qzn.am 8000) [0] Qzm := by unfold Hc Qju; kernel_rfl
theorem hC220 : Hc 0 (wf sB2 (⟨.lss, .len 27487, .lit (.ofNat 461), true⟩ :: ⟨.lss, .len 27487, .lit (.ofNat 460), false⟩ :: ⟨.lss, .len 27487, .lit (.ofNat 1), false⟩ :: sB2.fs)) [1] Qrr := by unfold Hc Qju; kernel_rfl
theorem hC221 : Hc 2 (Qrr.am 8000) [5, 4, 1] Qzj := by unfold Hc Qju; kernel_rfl
end Go.Proofs.YtfjdakmmffedkaaGreatDoor
