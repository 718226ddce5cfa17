/-
 Successive connections: hops, part 7. Conditions: none.
-/
import Derived.Test.YtfjdakmmffedkaaGreatDoorGRs
namespace Go.Proofs.YtfjdakmmffedkaaGreatDoor
open Go Go.Ax Go.RowKit Go.Proofs
theorem hC133 : Hc 0 (Qnr.am 8000) [0] Qzr := by unfold Hc Qju; kernel_rfl
theorem hC134 : Hc 2 (Qzr.am 8000) [7, 6, 4, 0] Qzq := by unfold Hc Qju; kernel_rfl
theorem hC135 : Hc 0 (Qzq.am 8000) [0] Qzp := by unfold Hc Qju; kernel_rfl
theorem hT10 : Hc 0 (sM1.am 8000) [3, 0] sT10 := by unfold Hc Qju; kernel_rfl
theorem hT11 : Hc 0 (sT10.am 8000) [3, 0] sT11 := by unfold Hc Qju; kernel_rfl
theorem hT12 : Hc 0 (sT11.am 8000) [3, 0] sT12 := by unfold Hc Qju; kernel_rfl
theorem hT13 : Hc 0 (sT12.am 8000) [3, 0] sT13 := by unfold Hc Qju; kernel_rfl
theorem hT14 : Hc 0 (sT13.am 8000) [3, 0] sT14 := by unfold Hc Qju; kernel_rfl
theorem hT15 : Hc 0 (sT14.am 8000) [3, 0] sT15 := by unfold Hc Qju; kernel_rfl
end Go.Proofs.YtfjdakmmffedkaaGreatDoor
