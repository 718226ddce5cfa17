/-
  Two streams at once: hops, part 6. Conditions: none.
-/
import Derived.Test.YtfjdakmmffedkaaGreatDoorDVs
namespace Go.Proofs.YtfjdakmmffedkaaGreatDoor
open Go Go.Ax Go.RowKit Go.Proofs
theorem z11 : exploreP specF GF 200 3 (fun c v => (Sp.lit true).chk c v) 17 3 [] (sZ11.am 8000) = true := by kernel_rfl
theorem hC120 : HopC 0 specF GF 200 17 (wf sD1 (⟨.lss, .len 338, .lit (.ofNat 461), false⟩ :: ⟨.lss, .len 338, .lit (.ofNat 460), false⟩ :: sD1.fs)) [5, 3, 2, 1, 0] [] (cskp sC120) sC120 := by unfold HopC; kernel_rfl
theorem hC121 : HopC 2 specF GF 200 17 (sC120.am 8000) [6, 5, 3, 2] [] (cskp sC121) sC121 := by unfold HopC; kernel_rfl
theorem hC122 : HopC 2 specF GF 200 17 (sC121.am 8000) [1] [] (cskp sC122) sC122 := by unfold HopC; kernel_rfl
theorem hC123 : HopC 2 specF GF 200 17 (sC122.am 8000) [0] [] (cskp sC123) sC123 := by unfold HopC; kernel_rfl
theorem hZ12 : HopC 0 specF GF 200 17 (sC123.am 8000) [3, 0] [] (cskp sZ12) sZ12 := by unfold HopC; kernel_rfl
theorem z12t : exploreP specF GF 200 3 (fun c v => (Sp.lit true).chk c v) 17 3 [] (wf sZ12 (⟨.eql, .len 338, .lit (.ofNat 500), true⟩ :: sC120.fs)) = true := by kernel_rfl
theorem z12f : exploreP specF GF 200 3 (fun c v => (Sp.lit true).chk c v) 17 3 [] (wf sZ12 (⟨.eql, .len 338, .lit (.ofNat 500), false⟩ :: sC120.fs)) = true := by kernel_rfl
theorem hD2 : HopC 0 specF GF 200 17 (wf sB (⟨.lss, .len 337, .lit (.ofNat 461), false⟩ :: ⟨.lss, .len 337, .lit (.ofNat 460), false⟩ :: sP0.fs)) [1] [] (cskp sD2) sD2 := by unfold HopC; kernel_rfl
theorem hC200 : HopC 0 specF GF 200 17 (wf sD2 (⟨.lss, .len 338, .lit (.ofNat 460), true⟩ :: sD2.fs)) [1] [] (cskp sC200) sC200 := by unfold HopC; kernel_rfl
end Go.Proofs.YtfjdakmmffedkaaGreatDoor
