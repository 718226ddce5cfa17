/-
  The walks of the functions on addresses and prefixes that only compute: Valid, pick, size, NetOf, host, ValidPrefix, Contains, Last (of the program and of the reference). Each contract says what the call returns and that what was there before it is unchanged. Conditions: integers are 64-bit.
-/
import Derived.Test.YtgajoiijebbagaaGreatDoorPlainB
import Derived.Test.YtgajoiijebbagaaGreatDoorProg
import Derived.Test.YtgajoiijebbagaaGreatDoorKit
namespace Go.Proofs.YtgajoiijebbagaaGreatDoor
open Go.RowKit

theorem ret_bool {a b : Bool} (h : a = b) : Ending.returned (.bool a) = .returned (.bool b) := by rw [h]
theorem ret_int {k : IntKind} {a b : Int} (h : a = b) : Ending.returned (.int k a) = .returned (.int k b) := by rw [h]

set_option maxHeartbeats 400000 in
theorem valid_any (a : Int) (w : World) : Calls Tryz.prog 23 #[.int .i64 a] w fun e w' => e = .returned (.bool (Pa.validB a)) ∧ w = w' := by
  by_cases h0 : 0 ≤ a
  · have hd : decide (0 ≤ a) = true := by simpa using h0
    go_enter Tryz.func23, Tryz.ntmps23
    go_wp2
    go_ret
    exact ⟨ret_bool (by simp [Pa.validB, h0]), rfl⟩
  · have hn : Pa.validB a = false := by rw [Pa.validB_false]; omega
    have HN := Lib.hid hn; clear hn
    have hd : decide (0 ≤ a) = false := by simpa using h0
    go_enter Tryz.func23, Tryz.ntmps23
    go_wp2
    go_ret
    exact ⟨ret_bool HN.out.symm, rfl⟩

set_option maxHeartbeats 400000 in
theorem refValid_any (a : Int) (w : World) : Calls Tryz.prog 54 #[.int .i64 a] w fun e w' => e = .returned (.bool (Pa.validB a)) ∧ w = w' := by
  by_cases h0 : 0 ≤ a
  · have hd : decide (0 ≤ a) = true := by simpa using h0
    go_enter Tryz.func54, Tryz.ntmps54
    go_wp2
    go_ret
    exact ⟨ret_bool (by simp [Pa.validB, h0]), rfl⟩
  · have hn : Pa.validB a = false := by rw [Pa.validB_false]; omega
    have HN := Lib.hid hn; clear hn
    have hd : decide (0 ≤ a) = false := by simpa using h0
    go_enter Tryz.func54, Tryz.ntmps54
    go_wp2
    go_ret
    exact ⟨ret_bool HN.out.symm, rfl⟩

end Go.Proofs.YtgajoiijebbagaaGreatDoor
