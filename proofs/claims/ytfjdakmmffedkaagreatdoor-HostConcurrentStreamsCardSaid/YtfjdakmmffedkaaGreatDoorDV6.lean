/-
  Two streams at once: hops, part 7. Conditions: none.
-/
import Derived.Test.YtfjdakmmffedkaaGreatDoorDVs
namespace Go.Proofs.YtfjdakmmffedkaaGreatDoor
open Go Go.Ax Go.RowKit Go.Proofs
theorem hC201 : HopC 2 specF GF 200 17 (sC200.am 8000) [7, 6, 2, 1, 0] [] (cskp sC201) sC201 := by unfold HopC; kernel_rfl
theorem hC202 : HopC 2 specF GF 200 17 (sC201.am 8000) [0] [] (cskp sC202) sC202 := by unfold HopC; kernel_rfl
theorem hC203 : HopC 2 specF GF 200 17 (sC202.am 8000) [1] [] (cskp sC203) sC203 := by unfold HopC; kernel_rfl
theorem hZ20 : HopC 0 specF GF 200 17 (sC203.am 8000) [3, 0] [] (cskp sZ20) sZ20 := by unfold HopC; kernel_rfl
theorem z20 : exploreP specF GF 200 3 (fun c v => (Sp.lit true).chk c v) 17 3 [] (sZ20.am 8000) = true := by kernel_rfl
theorem hC210 : HopC 0 specF GF 200 17 (wf sD2 (⟨.lss, .len 338, .lit (.ofNat 461), true⟩ :: ⟨.lss, .len 338, .lit (.ofNat 460), false⟩ :: sD2.fs)) [1] [] (cskp sC210) sC210 := by unfold HopC; kernel_rfl
theorem hC211 : HopC 2 specF GF 200 17 (sC210.am 8000) [7, 6, 2, 1, 0] [] (cskp sC211) sC211 := by unfold HopC; kernel_rfl
theorem hC212 : HopC 2 specF GF 200 17 (sC211.am 8000) [0] [] (cskp sC212) sC212 := by unfold HopC; kernel_rfl
end Go.Proofs.YtfjdakmmffedkaaGreatDoor
