/-
  Functions told by what is said of their arguments and result: pick, the document's Checksum and CRC32. Conditions: none.
-/
import Derived.Test.YthfllbmlhhkhmaaGreatDoorProg
import Derived.Test.YthfllbmlhhkhmaaGreatDoorAxE
import Derived.WalkKit
import Derived.WalkSpells
import Derived.WalkMore
import Derived.WalkLawsBesides
import Derived.Deep.QuietTactic
import Derived.BigQuiet
import Derived.Lib.Hide
import Derived.Laws.BitsLemmas
namespace Go.Proofs.YthfllbmlhhkhmaaGreatDoor
open Go.RowKit Go.Proofs

theorem pick25_any (c : Int) (n : Nat) (w : World) (c0 : -9223372036854775808 ≤ c) (c1 : c ≤ 9223372036854775807) (n0 : 1 ≤ n) (n1 : n ≤ 9223372036854775807) :
    Calls Tryz.prog 7 #[.int .i64 c, .int .i64 n] w fun e w' => e = .returned (.int .i64 (Ax.pickZ n c)) ∧ w' = w := by
  by_cases h : c < 0
  · go_enter Tryz.func7, Tryz.ntmps7
    go_wp2
    go_ret
    exact ⟨by rw [Ax.pickZ, if_pos h, Int.neg_tmod]; rfl, rfl⟩
  · go_enter Tryz.func7, Tryz.ntmps7
    go_wp2
    go_ret
    exact ⟨by rw [Ax.pickZ, if_neg (by omega), Int.tmod_eq_emod_of_nonneg (by omega)]; rfl, rfl⟩

theorem pick05_any (c : Int) (n : Nat) (w : World) (c0 : -9223372036854775808 ≤ c) (c1 : c ≤ 9223372036854775807) (n0 : 1 ≤ n) (n1 : n ≤ 9223372036854775807) :
    Calls Tryz.prog 112 #[.int .i64 c, .int .i64 n] w fun e w' => e = .returned (.int .i64 (Ax.pickZ n c)) ∧ w' = w := by
  by_cases h : c < 0
  · go_enter Tryz.func112, Tryz.ntmps112
    go_wp2
    go_ret
    exact ⟨by rw [Ax.pickZ, if_pos h, Int.neg_tmod]; rfl, rfl⟩
  · go_enter Tryz.func112, Tryz.ntmps112
    go_wp2
    go_ret
    exact ⟨by rw [Ax.pickZ, if_neg (by omega), Int.tmod_eq_emod_of_nonneg (by omega)]; rfl, rfl⟩

theorem sum_loop (n : Int) (h0 : 65535 < n) (h1 : n ≤ 9223372036854775807) : 0 ≤ n.tmod 65536 + n.tdiv 65536 ∧ n.tmod 65536 + n.tdiv 65536 < n := by
  rw [Int.tmod_eq_emod_of_nonneg (by omega), Int.tdiv_eq_ediv_of_nonneg (by omega)]
  omega

set_option maxRecDepth 100000 in
set_option maxHeartbeats 1000000 in
theorem refChecksum_any (s : ByteArray) (w : World) (hs : s.size ≤ 1099511627776) :
    Calls Tryz.prog 46 #[.string s] w fun e w' => ∃ n : Int, e = .returned (.int .i64 n) ∧ 0 ≤ n ∧ n ≤ 65535 ∧ w = w' := by
  go_enter Tryz.func46, Tryz.ntmps46
  go_wp2
  go_loopw [3, 4] (fun v i wr => ∃ (k : Nat) (n : Int), k ≤ s.size ∧ i = .int .i64 k ∧ v = .int .i64 n ∧ 0 ≤ n ∧ n ≤ 65280 * k ∧ w = wr) (fun _ i _ => s.size - (intOf i).toNat)
  case atStart => exact ⟨0, 0, Nat.zero_le _, rfl, rfl, by omega, by omega, rfl⟩
  case round =>
    obtain ⟨k, n, hk, rfl, rfl, hn0, hn1, rfl⟩ := hrel
    by_cases hlt : k < s.size
    · have hb := s[k].toNat_lt
      by_cases hpar : (k : Int) % 2 = 0
      · go_wp2
        go_roundw
        case rel => exact ⟨k + 1, _, by omega, by go_num, rfl, by omega, by omega, trivial⟩
        case measure => simp [intOf]; omega
      · go_wp2
        go_roundw
        case rel => exact ⟨k + 1, _, by omega, by go_num, rfl, by omega, by omega, trivial⟩
        case measure => simp [intOf]; omega
    · have hn2 : n ≤ 80000000000000000 := by omega
      clear hn1
      go_wp2
      go_loopw [3] (fun v wr => ∃ n : Int, v = .int .i64 n ∧ 0 ≤ n ∧ n ≤ 80000000000000000 ∧ w = wr) (fun v _ => (intOf v).toNat)
      case atStart => exact ⟨n, rfl, hn0, hn2, rfl⟩
      case round =>
        obtain ⟨m, rfl, hm0, hm1, rfl⟩ := hrel
        by_cases hbig : 65535 < m
        · go_wp2
          go_roundw
          case rel => exact ⟨_, rfl, by omega, by omega, trivial⟩
          case measure => simp [intOf]; omega
        · go_wp2
          go_ret
          exact ⟨_, rfl, by omega, by omega, rfl⟩

theorem xor32 {a b : Int} (ha0 : 0 ≤ a) (ha1 : a ≤ 4294967295) (hb0 : 0 ≤ b) (hb1 : b ≤ 4294967295) : 0 ≤ bits .xor .i64 a b ∧ bits .xor .i64 a b ≤ 4294967295 := by
  obtain ⟨x, rfl⟩ : ∃ x : Nat, a = x := ⟨a.toNat, by omega⟩
  obtain ⟨y, rfl⟩ : ∃ y : Nat, b = y := ⟨b.toNat, by omega⟩
  have hx : x ^^^ y < 2 ^ 32 := Nat.xor_lt_two_pow (by omega) (by omega)
  have e : bits .xor .i64 (x : Int) (y : Int) = ((x ^^^ y : Nat) : Int) := by
    have ha' : x % 2 ^ IntKind.i64.bits = x := Nat.mod_eq_of_lt (by simp only [IntKind.bits]; omega)
    have hb' : y % 2 ^ IntKind.i64.bits = y := Nat.mod_eq_of_lt (by simp only [IntKind.bits]; omega)
    simp only [bits, BitVec.ofInt_natCast, BitVec.toNat_xor, BitVec.toNat_ofNat, ha', hb']
    exact IntWalk.i64_in _ (by omega)
  rw [e]
  omega

set_option maxRecDepth 100000 in
set_option maxHeartbeats 1000000 in
theorem refCRC32_any (s : ByteArray) (w : World) (hs : s.size ≤ 1099511627776) :
    Calls Tryz.prog 49 #[.string s] w fun e w' => ∃ n : Int, e = .returned (.int .i64 n) ∧ 0 ≤ n ∧ n ≤ 4294967295 ∧ w = w' := by
  go_enter Tryz.func49, Tryz.ntmps49
  go_wp2
  go_loopw [3, 4] (fun v i wr => ∃ (k : Nat) (n : Int), k ≤ s.size ∧ i = .int .i64 k ∧ v = .int .i64 n ∧ 0 ≤ n ∧ n ≤ 4294967295 ∧ w = wr) (fun _ i _ => s.size - (intOf i).toNat)
  case atStart => exact ⟨0, 4294967295, Nat.zero_le _, rfl, rfl, by omega, by omega, rfl⟩
  case round =>
    obtain ⟨k, n, hk, rfl, rfl, hn0, hn1, rfl⟩ := hrel
    by_cases hlt : k < s.size
    · have hb := s[k].toNat_lt
      have hx := xor32 hn0 hn1 (b := (s[k].toNat : Int)) (by omega) (by omega)
      go_wp2
      go_loopw [3, 5] (fun v i wr => ∃ (j : Nat) (m : Int), j ≤ 8 ∧ i = .int .i64 j ∧ v = .int .i64 m ∧ 0 ≤ m ∧ m ≤ 4294967295 ∧ w = wr) (fun _ i _ => 8 - (intOf i).toNat)
      case atStart => exact ⟨0, _, by omega, rfl, rfl, hx.1, hx.2, rfl⟩
      case round =>
        obtain ⟨j, m, hj, rfl, rfl, hm0, hm1, rfl⟩ := hrel
        clear hx
        by_cases hj8 : j < 8
        · have hq := xor32 (a := m / 2) (b := 3988292384) (by omega) (by omega) (by omega) (by omega)
          by_cases hodd : m % 2 = 1
          · go_wp2
            go_roundw
            case rel => exact ⟨j + 1, _, by omega, by go_num, rfl, hq.1, hq.2, trivial⟩
            case measure => simp [intOf]; omega
          · go_wp2
            go_roundw
            case rel => exact ⟨j + 1, _, by omega, by go_num, rfl, by omega, by omega, trivial⟩
            case measure => simp [intOf]; omega
        · go_wp2
          go_roundw
          case rel => exact ⟨k + 1, _, by omega, by go_num, rfl, hm0, hm1, trivial⟩
          case measure => simp [intOf]; omega
    · have hx := xor32 hn0 hn1 (b := 4294967295) (by omega) (by omega)
      go_wp2
      go_ret
      exact ⟨_, rfl, hx.1, hx.2, rfl⟩

end Go.Proofs.YthfllbmlhhkhmaaGreatDoor
