/-
 One direction closed: hops, part 11. Conditions: none.
-/
import Derived.Test.YtmjjaldodkokbaaGreatDoorHUs
namespace Go.Proofs.YtmjjaldodkokbaaGreatDoor
open Go Go.Ax Go.RowKit Go.Proofs
theorem hM_1 : HopR 0 jX GF 200 17 (sQ14.am 8000) [0] [(4473, (.bin .add .i64 (.var 127) (eL 260))), (4475, (.bin .add .i64 (.var 126) (eL 260)))] (qkq [126, 127, 13, 14, 15] sM) [] sM := by unfold HopR; kernel_rfl
theorem hM_2 : HopR 0 jX GF 200 17 (sQ24.am 8000) [0] [(4473, (.bin .add .i64 (.var 127) (eL 260))), (4475, (.bin .add .i64 (.var 127) (eL 260)))] (qkq [126, 127, 13, 14, 15] sM) [] sM := by unfold HopR; kernel_rfl
theorem z01p : Eq_ 6 (Qqt.am 8000) := by unfold Eq_; kernel_rfl
theorem z01w : Eq_ 6 (Qzy.am 8000) := by unfold Eq_; kernel_rfl
theorem z02p : Eq_ 6 (Qra.am 8000) := by unfold Eq_; kernel_rfl
theorem z02w : Eq_ 6 (Qu1.am 8000) := by unfold Eq_; kernel_rfl
theorem z03p : Eq_ 6 (Qsv.am 8000) := by unfold Eq_; kernel_rfl
theorem z03w : Eq_ 6 (Qzx.am 8000) := by unfold Eq_; kernel_rfl
theorem z04p : Eq_ 6 (Qwz.am 8000) := by unfold Eq_; kernel_rfl
theorem z04w : Eq_ 6 (Qzw.am 8000) := by unfold Eq_; kernel_rfl
theorem z05p : Eq_ 6 (Qwy.am 8000) := by unfold Eq_; kernel_rfl
theorem z05w : Eq_ 6 (Qzv.am 8000) := by unfold Eq_; kernel_rfl
theorem z06p : Eq_ 6 (Qzu.am 8000) := by unfold Eq_; kernel_rfl
theorem z11p : Eq_ 6 (Qzt.am 8000) := by unfold Eq_; kernel_rfl
end Go.Proofs.YtmjjaldodkokbaaGreatDoor
