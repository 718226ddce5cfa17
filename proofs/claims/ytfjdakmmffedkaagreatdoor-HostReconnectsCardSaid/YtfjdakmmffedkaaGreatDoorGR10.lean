/-
 Successive connections: hops, part 11. Conditions: none.
-/
import Derived.Test.YtfjdakmmffedkaaGreatDoorGRs
namespace Go.Proofs.YtfjdakmmffedkaaGreatDoor
open Go Go.Ax Go.RowKit Go.Proofs
theorem hT20 : Hc 0 (sM2.am 8000) [3, 0] sT20 := by unfold Hc Qju; kernel_rfl
theorem hT21 : Hc 0 (sT20.am 8000) [3, 0] sT21 := by unfold Hc Qju; kernel_rfl
theorem hT22 : Hc 0 (sT21.am 8000) [3, 0] sT22 := by unfold Hc Qju; kernel_rfl
theorem hT23 : Hc 0 (sT22.am 8000) [3, 0] sT23 := by unfold Hc Qju; kernel_rfl
theorem hT24 : Hc 0 (sT23.am 8000) [3, 0] sT24 := by unfold Hc Qju; kernel_rfl
theorem hT25 : Hc 0 (sT24.am 8000) [3, 0] sT25 := by unfold Hc Qju; kernel_rfl
theorem hT26 : Hc 0 (sT25.am 8000) [3] Qzd := by unfold Hc Qju; kernel_rfl
theorem hE2 : Hc 0 (Qzd.am 8000) [3, 1] sE2 := by unfold Hc Qju; kernel_rfl
end Go.Proofs.YtfjdakmmffedkaaGreatDoor
