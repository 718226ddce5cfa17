/-
 Successive connections: hops, part 2. Conditions: none.
-/
import Derived.Test.YtfjdakmmffedkaaGreatDoorGRs
namespace Go.Proofs.YtfjdakmmffedkaaGreatDoor
open Go Go.Ax Go.RowKit Go.Proofs
theorem hC014 : Hc 0 (Z06.am 8000) [0] Qtg := by unfold Hc Qju; kernel_rfl
theorem hC000 : Hc 0 (wf sB0 (⟨.lss, .len 244, .lit (.ofNat 1), true⟩ :: Qmj.fs)) [1] Qol := by unfold Hc Qju; kernel_rfl
theorem hC001 : Hc 0 (Qol.am 8000) [0] Z08 := by unfold Hc Qju; kernel_rfl
theorem hC002 : Hc 2 (Z08.am 8000) [7, 4, 1] Z07 := by unfold Hc Qju; kernel_rfl
theorem hC003 : Hc 0 (Z07.am 8000) [0] Qvw := by unfold Hc Qju; kernel_rfl
theorem hC020 : Hc 0 (wf sB0 (⟨.lss, .len 244, .lit (.ofNat 461), true⟩ :: ⟨.lss, .len 244, .lit (.ofNat 460), false⟩ :: ⟨.lss, .len 244, .lit (.ofNat 1), false⟩ :: Qmj.fs)) [1] Qok := by unfold Hc Qju; kernel_rfl
theorem hC021 : Hc 2 (Qok.am 8000) [5, 4, 1] Z05 := by unfold Hc Qju; kernel_rfl
theorem hC022 : Hc 0 (Z05.am 8000) [0] Z04 := by unfold Hc Qju; kernel_rfl
theorem hC023 : Hc 0 (Z04.am 8000) [0] Z03 := by unfold Hc Qju; kernel_rfl
theorem hC024 : Hc 2 (Z03.am 8000) [7, 6, 4, 0] Z02 := by unfold Hc Qju; kernel_rfl
end Go.Proofs.YtfjdakmmffedkaaGreatDoor
