/-
  Two streams at once: hops, part 8. Conditions: none.
-/
import Derived.Test.YtfjdakmmffedkaaGreatDoorDVs
namespace Go.Proofs.YtfjdakmmffedkaaGreatDoor
open Go Go.Ax Go.RowKit Go.Proofs
theorem hC213 : HopC 2 specF GF 200 17 (sC212.am 8000) [1] [] (cskp sC213) sC213 := by unfold HopC; kernel_rfl
theorem hZ21 : HopC 0 specF GF 200 17 (sC213.am 8000) [3, 0] [] (cskp sZ21) sZ21 := by unfold HopC; kernel_rfl
theorem z21 : exploreP specF GF 200 3 (fun c v => (Sp.lit true).chk c v) 17 3 [] (sZ21.am 8000) = true := by kernel_rfl
theorem hC220 : HopC 0 specF GF 200 17 (wf sD2 (⟨.lss, .len 338, .lit (.ofNat 461), false⟩ :: ⟨.lss, .len 338, .lit (.ofNat 460), false⟩ :: sD2.fs)) [5, 3, 2, 1, 0] [] (cskp sC220) sC220 := by unfold HopC; kernel_rfl
theorem hC221 : HopC 2 specF GF 200 17 (sC220.am 8000) [6, 5, 3, 2] [] (cskp sC221) sC221 := by unfold HopC; kernel_rfl
theorem hC222 : HopC 2 specF GF 200 17 (sC221.am 8000) [0] [] (cskp sC222) sC222 := by unfold HopC; kernel_rfl
theorem hC223 : HopC 2 specF GF 200 17 (sC222.am 8000) [0] [] (cskp sC223) sC223 := by unfold HopC; kernel_rfl
theorem hC224 : HopC 2 specF GF 200 17 (sC223.am 8000) [0] [] (cskp sC224) sC224 := by unfold HopC; kernel_rfl
theorem hZ22 : HopC 0 specF GF 200 17 (sC224.am 8000) [3, 0] [] (cskp sZ22) sZ22 := by unfold HopC; kernel_rfl
theorem z22t : exploreP specF GF 200 3 (fun c v => (Sp.lit true).chk c v) 17 3 [] (wf sZ22 (⟨.eql, .len 338, .lit (.ofNat 500), true⟩ :: sC220.fs)) = true := by kernel_rfl
theorem z22f : exploreP specF GF 200 3 (fun c v => (Sp.lit true).chk c v) 17 3 [] (wf sZ22 (⟨.eql, .len 338, .lit (.ofNat 500), false⟩ :: sC220.fs)) = true := by kernel_rfl
end Go.Proofs.YtfjdakmmffedkaaGreatDoor
