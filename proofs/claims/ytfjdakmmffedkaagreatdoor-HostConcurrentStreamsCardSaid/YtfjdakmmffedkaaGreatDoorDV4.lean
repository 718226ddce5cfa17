/-
  Two streams at once: hops, part 5. Conditions: none.
-/
import Derived.Test.YtfjdakmmffedkaaGreatDoorDVs
namespace Go.Proofs.YtfjdakmmffedkaaGreatDoor
open Go Go.Ax Go.RowKit Go.Proofs
theorem hC102 : HopC 2 specF GF 200 17 (sC101.am 8000) [1] [] (cskp sC102) sC102 := by unfold HopC; kernel_rfl
theorem hC103 : HopC 2 specF GF 200 17 (sC102.am 8000) [0] [] (cskp sC103) sC103 := by unfold HopC; kernel_rfl
theorem hZ10 : HopC 0 specF GF 200 17 (sC103.am 8000) [3, 0] [] (cskp sZ10) sZ10 := by unfold HopC; kernel_rfl
theorem z10 : exploreP specF GF 200 3 (fun c v => (Sp.lit true).chk c v) 17 3 [] (sZ10.am 8000) = true := by kernel_rfl
theorem hC110 : HopC 0 specF GF 200 17 (wf sD1 (⟨.lss, .len 338, .lit (.ofNat 461), true⟩ :: ⟨.lss, .len 338, .lit (.ofNat 460), false⟩ :: sD1.fs)) [1] [] (cskp sC110) sC110 := by unfold HopC; kernel_rfl
theorem hC111 : HopC 2 specF GF 200 17 (sC110.am 8000) [7, 6, 2, 1, 0] [] (cskp sC111) sC111 := by unfold HopC; kernel_rfl
theorem hC112 : HopC 2 specF GF 200 17 (sC111.am 8000) [1] [] (cskp sC112) sC112 := by unfold HopC; kernel_rfl
theorem hC113 : HopC 2 specF GF 200 17 (sC112.am 8000) [0] [] (cskp sC113) sC113 := by unfold HopC; kernel_rfl
theorem hZ11 : HopC 0 specF GF 200 17 (sC113.am 8000) [3, 0] [] (cskp sZ11) sZ11 := by unfold HopC; kernel_rfl
end Go.Proofs.YtfjdakmmffedkaaGreatDoor
