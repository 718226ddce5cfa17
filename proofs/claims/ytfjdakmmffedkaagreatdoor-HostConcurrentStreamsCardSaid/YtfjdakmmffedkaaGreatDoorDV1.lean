/-
  Two streams at once: hops, part 2. Conditions: none.
-/
import Derived.Test.YtfjdakmmffedkaaGreatDoorDVs
namespace Go.Proofs.YtfjdakmmffedkaaGreatDoor
open Go Go.Ax Go.RowKit Go.Proofs
theorem hF4 : HopC 0 specF GF 200 17 (sF3.am 8000) [1] [] (cskp sF4) sF4 := by unfold HopC; kernel_rfl
theorem hF5 : HopC 0 specF GF 200 17 (sF4.am 8000) [1, 0] [] (cskp sF5) sF5 := by unfold HopC; kernel_rfl
theorem hB : HopC 0 specF GF 200 17 (sF5.am 8000) [2] [] (cskp sB) sB := by unfold HopC; kernel_rfl
theorem hD0 : HopC 0 specF GF 200 17 (wf sB (⟨.lss, .len 337, .lit (.ofNat 460), true⟩ :: sP0.fs)) [1] [] (cskp sD0) sD0 := by unfold HopC; kernel_rfl
theorem hC000 : HopC 0 specF GF 200 17 (wf sD0 (⟨.lss, .len 338, .lit (.ofNat 460), true⟩ :: sD0.fs)) [6, 4, 3, 1, 0] [] (cskp sC000) sC000 := by unfold HopC; kernel_rfl
theorem hC001 : HopC 2 specF GF 200 17 (sC000.am 8000) [5, 4, 3, 2, 1] [] (cskp sC001) sC001 := by unfold HopC; kernel_rfl
theorem hC002 : HopC 2 specF GF 200 17 (sC001.am 8000) [1] [] (cskp sC002) sC002 := by unfold HopC; kernel_rfl
end Go.Proofs.YtfjdakmmffedkaaGreatDoor
