/-
  Two streams at once: hops, part 3. Conditions: none.
-/
import Derived.Test.YtfjdakmmffedkaaGreatDoorDVs
namespace Go.Proofs.YtfjdakmmffedkaaGreatDoor
open Go Go.Ax Go.RowKit Go.Proofs
theorem hC003 : HopC 2 specF GF 200 17 (sC002.am 8000) [0] [] (cskp sC003) sC003 := by unfold HopC; kernel_rfl
theorem hZ00 : HopC 0 specF GF 200 17 (sC003.am 8000) [3, 0] [] (cskp sZ00) sZ00 := by unfold HopC; kernel_rfl
theorem z00 : exploreP specF GF 200 3 (fun c v => (Sp.lit true).chk c v) 17 3 [] (sZ00.am 8000) = true := by kernel_rfl
theorem hC010 : HopC 0 specF GF 200 17 (wf sD0 (⟨.lss, .len 338, .lit (.ofNat 461), true⟩ :: ⟨.lss, .len 338, .lit (.ofNat 460), false⟩ :: sD0.fs)) [6, 4, 3, 1, 0] [] (cskp sC010) sC010 := by unfold HopC; kernel_rfl
theorem hC011 : HopC 2 specF GF 200 17 (sC010.am 8000) [5, 4, 3, 2, 1] [] (cskp sC011) sC011 := by unfold HopC; kernel_rfl
theorem hC012 : HopC 2 specF GF 200 17 (sC011.am 8000) [1] [] (cskp sC012) sC012 := by unfold HopC; kernel_rfl
theorem hC013 : HopC 2 specF GF 200 17 (sC012.am 8000) [0] [] (cskp sC013) sC013 := by unfold HopC; kernel_rfl
theorem hZ01 : HopC 0 specF GF 200 17 (sC013.am 8000) [3, 0] [] (cskp sZ01) sZ01 := by unfold HopC; kernel_rfl
theorem z01 : exploreP specF GF 200 3 (fun c v => (Sp.lit true).chk c v) 17 3 [] (sZ01.am 8000) = true := by kernel_rfl
theorem hC020 : HopC 0 specF GF 200 17 (wf sD0 (⟨.lss, .len 338, .lit (.ofNat 461), false⟩ :: ⟨.lss, .len 338, .lit (.ofNat 460), false⟩ :: sD0.fs)) [5, 3, 2, 1, 0] [] (cskp sC020) sC020 := by unfold HopC; kernel_rfl
end Go.Proofs.YtfjdakmmffedkaaGreatDoor
