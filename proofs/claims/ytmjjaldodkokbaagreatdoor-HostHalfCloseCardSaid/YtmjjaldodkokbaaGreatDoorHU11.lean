/-
 One direction closed: hops, part 12. Conditions: none.
-/
import Derived.Test.YtmjjaldodkokbaaGreatDoorHUs
namespace Go.Proofs.YtmjjaldodkokbaaGreatDoor
open Go Go.Ax Go.RowKit Go.Proofs
theorem z11w : Eq_ 6 (Qzs.am 8000) := by unfold Eq_; kernel_rfl
theorem z12p : Eq_ 6 (Qzr.am 8000) := by unfold Eq_; kernel_rfl
theorem z12w : Eq_ 6 (Qzq.am 8000) := by unfold Eq_; kernel_rfl
theorem z13p : Eq_ 6 (Qu0.am 8000) := by unfold Eq_; kernel_rfl
theorem z13w : Eq_ 6 (Qzp.am 8000) := by unfold Eq_; kernel_rfl
theorem z21pa : Eq_ 6 (Qvk.am 8000) := by unfold Eq_; kernel_rfl
theorem z21pb : Eq_ 6 (Qvj.am 8000) := by unfold Eq_; kernel_rfl
theorem z21w : Eq_ 6 (Qzo.am 8000) := by unfold Eq_; kernel_rfl
theorem z22p : Eq_ 6 (Qzn.am 8000) := by unfold Eq_; kernel_rfl
theorem z22w : Eq_ 6 (Qzm.am 8000) := by unfold Eq_; kernel_rfl
theorem z23p : Eq_ 6 (Qzl.am 8000) := by unfold Eq_; kernel_rfl
end Go.Proofs.YtmjjaldodkokbaaGreatDoor
