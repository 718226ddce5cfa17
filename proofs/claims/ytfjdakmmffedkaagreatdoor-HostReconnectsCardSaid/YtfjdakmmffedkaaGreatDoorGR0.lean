/-
 Successive connections: hops, part 1. Conditions: none.
-/
import Derived.Test.YtfjdakmmffedkaaGreatDoorGRs
namespace Go.Proofs.YtfjdakmmffedkaaGreatDoor
open Go Go.Ax Go.RowKit Go.Proofs
theorem hQ : Hc 0 rc00 [2, 1] sQ := by unfold Hc Qju; kernel_rfl
theorem hH00 : Hc 0 (wr sQ 1 (⟨.lss, .var 14, .lit (.ofNat 1), false⟩ :: sQ.fs)) [3, 0] Qmj := by unfold Hc Qju; kernel_rfl
theorem hH01 : Hc 0 (Qmj.am 8000) [1] sH01 := by unfold Hc Qju; kernel_rfl
theorem hH02 : Hc 0 (sH01.am 8000) [1] sH02 := by unfold Hc Qju; kernel_rfl
theorem hH03 : Hc 0 (sH02.am 8000) [0] sH03 := by unfold Hc Qju; kernel_rfl
theorem hH04 : Hc 0 (sH03.am 8000) [2] sH04 := by unfold Hc Qju; kernel_rfl
theorem hB0 : Hc 0 (sH04.am 8000) [2, 0] sB0 := by unfold Hc Qju; kernel_rfl
theorem hC010 : Hc 0 (wf sB0 (⟨.lss, .len 244, .lit (.ofNat 460), true⟩ :: ⟨.lss, .len 244, .lit (.ofNat 1), false⟩ :: Qmj.fs)) [1] Qn2 := by unfold Hc Qju; kernel_rfl
theorem hC011 : Hc 2 (Qn2.am 8000) [5, 4, 1] Qnl := by unfold Hc Qju; kernel_rfl
theorem hC012 : Hc 0 (Qnl.am 8000) [0] Qrt := by unfold Hc Qju; kernel_rfl
theorem hC013 : Hc 2 (Qrt.am 8000) [7, 4, 1] Z06 := by unfold Hc Qju; kernel_rfl
end Go.Proofs.YtfjdakmmffedkaaGreatDoor
