/-
  Two streams at once: hops, part 4. Conditions: none.
-/
import Derived.Test.YtfjdakmmffedkaaGreatDoorDVs
namespace Go.Proofs.YtfjdakmmffedkaaGreatDoor
open Go Go.Ax Go.RowKit Go.Proofs
theorem hC021 : HopC 2 specF GF 200 17 (sC020.am 8000) [6, 5, 3, 2] [] (cskp sC021) sC021 := by unfold HopC; kernel_rfl
theorem hC022 : HopC 2 specF GF 200 17 (sC021.am 8000) [1] [] (cskp sC022) sC022 := by unfold HopC; kernel_rfl
theorem hC023 : HopC 2 specF GF 200 17 (sC022.am 8000) [0] [] (cskp sC023) sC023 := by unfold HopC; kernel_rfl
theorem hZ02 : HopC 0 specF GF 200 17 (sC023.am 8000) [3, 0] [] (cskp sZ02) sZ02 := by unfold HopC; kernel_rfl
theorem z02t : exploreP specF GF 200 3 (fun c v => (Sp.lit true).chk c v) 17 3 [] (wf sZ02 (⟨.eql, .len 338, .lit (.ofNat 500), true⟩ :: sC020.fs)) = true := by kernel_rfl
theorem z02f : exploreP specF GF 200 3 (fun c v => (Sp.lit true).chk c v) 17 3 [] (wf sZ02 (⟨.eql, .len 338, .lit (.ofNat 500), false⟩ :: sC020.fs)) = true := by kernel_rfl
theorem hD1 : HopC 0 specF GF 200 17 (wf sB (⟨.lss, .len 337, .lit (.ofNat 461), true⟩ :: ⟨.lss, .len 337, .lit (.ofNat 460), false⟩ :: sP0.fs)) [1] [] (cskp sD1) sD1 := by unfold HopC; kernel_rfl
theorem hC100 : HopC 0 specF GF 200 17 (wf sD1 (⟨.lss, .len 338, .lit (.ofNat 460), true⟩ :: sD1.fs)) [1] [] (cskp sC100) sC100 := by unfold HopC; kernel_rfl
theorem hC101 : HopC 2 specF GF 200 17 (sC100.am 8000) [7, 6, 2, 1, 0] [] (cskp sC101) sC101 := by unfold HopC; kernel_rfl
end Go.Proofs.YtfjdakmmffedkaaGreatDoor
