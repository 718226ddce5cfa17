/-
  Two streams at once: hops, part 1. Conditions: none.
-/
import Derived.Test.YtfjdakmmffedkaaGreatDoorDVs
namespace Go.Proofs.YtfjdakmmffedkaaGreatDoor
open Go Go.Ax Go.RowKit Go.Proofs
theorem hP0 : HopC 0 specF GF 200 17 cs00 [4, 1] [] (cskp sP0) sP0 := by unfold HopC; kernel_rfl
theorem hP : HopC 0 specF GF 200 17 (sP0.am 8000) [1, 0] [] (cskp sP) sP := by unfold HopC; kernel_rfl
theorem hF : HopF 0 specF GF 200 17 8 2 (sP.am 8000) [] [] (cskp sF) sF := by unfold HopF; kernel_rfl
theorem hF0 : HopC 0 specF GF 200 17 (sF.am 8000) [1] [] (cskp sF0) sF0 := by unfold HopC; kernel_rfl
theorem hF1 : HopC 2 specF GF 200 17 (sF0.am 8000) [5, 4, 2, 1] [] (cskp sF1) sF1 := by unfold HopC; kernel_rfl
theorem hF2 : HopC 0 specF GF 200 17 (sF1.am 8000) [0] [] (cskp sF2) sF2 := by unfold HopC; kernel_rfl
theorem hF3 : HopC 2 specF GF 200 17 (sF2.am 8000) [7, 5, 3, 2, 0] [] (cskp sF3) sF3 := by unfold HopC; kernel_rfl
end Go.Proofs.YtfjdakmmffedkaaGreatDoor
