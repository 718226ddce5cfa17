/-
  The walks of the functions on addresses and prefixes that only compute: Valid, pick, size, NetOf, host, ValidPrefix, Contains, Last (of the program and of the reference). Each contract says what the call returns and that what was there before it is unchanged. Conditions: integers are 64-bit.
-/
import Derived.Test.YtcjemhjgpgnkiaaDoorPlainB
import Derived.Test.YtcjemhjgpgnkiaaDoorProg
import Derived.Test.YtcjemhjgpgnkiaaDoorKit
namespace Go.Proofs.YtcjemhjgpgnkiaaDoor
open Go.RowKit

theorem Pa.open_eq (b : Int) (b0 : 0 ≤ b) (b1 : b ≤ 32) : wrap64 (wrap64 (2 ^ (32 - b).toNat) - 1) = (Pa.pw b : Int) - 1 := by
  have h := Pa.pw_le b b0 b1
  have h' := Pa.pw_pos b
  have e : (2 : Int) ^ (32 - b).toNat = (Pa.pw b : Int) := by unfold Pa.pw; simp
  generalize Pa.pw b = p at *
  rw [e, IntWalk.wrap64_in (p : Int) ⟨by omega, by omega⟩, IntWalk.wrap64_in _ ⟨by omega, by omega⟩]

theorem ret_bool {a b : Bool} (h : a = b) : Ending.returned (.bool a) = .returned (.bool b) := by rw [h]
theorem ret_int {k : IntKind} {a b : Int} (h : a = b) : Ending.returned (.int k a) = .returned (.int k b) := by rw [h]

set_option maxHeartbeats 400000 in
theorem valid_any (a : Int) (w : World) : Calls Tryd.prog 27 #[.int .i64 a] w fun e w' => e = .returned (.bool (Pa.validB a)) ∧ w = w' := by
  by_cases h0 : 0 ≤ a
  · have hd : decide (0 ≤ a) = true := by simpa using h0
    go_enter Tryd.func27, Tryd.ntmps27
    go_wp2
    go_ret
    exact ⟨ret_bool (by simp [Pa.validB, h0]), rfl⟩
  · have hn : Pa.validB a = false := by rw [Pa.validB_false]; omega
    have HN := Lib.hid hn; clear hn
    have hd : decide (0 ≤ a) = false := by simpa using h0
    go_enter Tryd.func27, Tryd.ntmps27
    go_wp2
    go_ret
    exact ⟨ret_bool HN.out.symm, rfl⟩

set_option maxHeartbeats 400000 in
theorem refValid_any (a : Int) (w : World) : Calls Tryd.prog 28 #[.int .i64 a] w fun e w' => e = .returned (.bool (Pa.validB a)) ∧ w = w' := by
  by_cases h0 : 0 ≤ a
  · have hd : decide (0 ≤ a) = true := by simpa using h0
    go_enter Tryd.func28, Tryd.ntmps28
    go_wp2
    go_ret
    exact ⟨ret_bool (by simp [Pa.validB, h0]), rfl⟩
  · have hn : Pa.validB a = false := by rw [Pa.validB_false]; omega
    have HN := Lib.hid hn; clear hn
    have hd : decide (0 ≤ a) = false := by simpa using h0
    go_enter Tryd.func28, Tryd.ntmps28
    go_wp2
    go_ret
    exact ⟨ret_bool HN.out.symm, rfl⟩

set_option maxHeartbeats 400000 in
theorem pick_any (c n : Int) (w : World) (c0 : -9223372036854775808 ≤ c) (c1 : c ≤ 9223372036854775807) (n0 : 1 ≤ n) (n1 : n ≤ 9223372036854775807) :
    Calls Tryd.prog 11 #[.int .i64 c, .int .i64 n] w fun e w' => e = .returned (.int .i64 (Pa.pickI c n)) ∧ w = w' := by
  by_cases h : c < 0
  · go_enter Tryd.func11, Tryd.ntmps11
    go_wp2
    go_ret
    exact ⟨ret_int (by rw [Pa.pickI, if_pos h, ← Int.neg_tmod, Int.tmod_eq_emod_of_nonneg (by omega)]), rfl⟩
  · go_enter Tryd.func11, Tryd.ntmps11
    go_wp2
    go_ret
    exact ⟨ret_int (by rw [Pa.pickI, if_neg (by omega)]), rfl⟩

set_option maxHeartbeats 400000 in
theorem size_any (b : Int) (w : World) (b0 : 0 ≤ b) (b1 : b ≤ 32) :
    Calls Tryd.prog 40 #[.int .i64 b] w fun e w' => e = .returned (.int .i64 (Pa.pw b : Int)) ∧ w = w' := by
  obtain ⟨m, rfl⟩ := Int.eq_ofNat_of_zero_le b0
  go_enter Tryd.func40, Tryd.ntmps40
  go_wp2
  go_loop [3, 4] (fun n i => ∃ k : Nat, m ≤ k ∧ k ≤ 32 ∧ i = .int .i64 k ∧ n = .int .i64 ((Pa.pwr (k - m) : Nat) : Int)) (fun _ i => 32 - (intOf i).toNat)
  case atStart => exact ⟨m, Nat.le_refl _, by omega, rfl, by rw [Nat.sub_self]; rfl⟩
  case round =>
    obtain ⟨k, hk0, hk, rfl, rfl⟩ := hrel
    have hb := Pa.pwr_le (k - m) (by omega)
    by_cases hlt : k < 32
    · have hs := Pa.pwr_succ (k - m)
      have HS := Lib.hid hs; clear hs
      go_wp2
      go_round
      case rel => exact ⟨k + 1, by omega, by omega, by go_num, by rw [show k + 1 - m = k - m + 1 by omega, HS.out]; go_num⟩
      case measure => simp [intOf]; omega
    · go_wp2
      go_ret
      exact ⟨ret_int (by rw [show k = 32 by omega]; exact congrArg Nat.cast (Pa.pwr_pw m (by omega))), rfl⟩

end Go.Proofs.YtcjemhjgpgnkiaaDoor
