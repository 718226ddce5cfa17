/-
  What the generators of the host laws need: a choice, the document's sum of a text and its remainder, told by what is said of their arguments and results. Conditions: none.
-/
import Derived.Test.YthfllbmlhhkhmaaGreatDoorIWA
import Derived.Test.YthfllbmlhhkhmaaGreatDoorIRa
import Derived.Test.YthfllbmlhhkhmaaGreatDoorITabsOK
import Derived.Test.YthfllbmlhhkhmaaGreatDoorIGa
import Derived.Test.YthfllbmlhhkhmaaGreatDoorIAxE
import Derived.WalkKit
import Derived.WalkSpells
import Derived.WalkMore
import Derived.WalkLawsBesides
import Derived.Deep.QuietTactic
import Derived.BigQuiet
import Derived.Lib.Hide
import Derived.Laws.BitsLemmas
namespace Go.Proofs.YthfllbmlhhkhmaaGreatDoor
open Go.RowKit Go.Proofs
theorem pick05_any (c : Int) (n : Nat) (w : World) (c0 : -9223372036854775808 ≤ c) (c1 : c ≤ 9223372036854775807) (n0 : 1 ≤ n) (n1 : n ≤ 9223372036854775807) :
    Calls Tryz.prog 112 #[.int .i64 c, .int .i64 n] w fun e w' => e = .returned (.int .i64 (Ax.pickZ n c)) ∧ w' = w := by
  by_cases h : c < 0
  · go_enter Tryz.func112, Tryz.ntmps112
    go_wp2
    go_ret
    exact ⟨by rw [Ax.pickZ, if_pos h, Int.neg_tmod]; rfl, rfl⟩
  · go_enter Tryz.func112, Tryz.ntmps112
    go_wp2
    go_ret
    exact ⟨by rw [Ax.pickZ, if_neg (by omega), Int.tmod_eq_emod_of_nonneg (by omega)]; rfl, rfl⟩
set_option maxRecDepth 100000 in
set_option maxHeartbeats 1000000 in
theorem refChecksum_any (s : ByteArray) (w : World) (hs : s.size ≤ 1099511627776) :
    Calls Tryz.prog 46 #[.string s] w fun e w' => ∃ n : Int, e = .returned (.int .i64 n) ∧ 0 ≤ n ∧ n ≤ 65535 ∧ w = w' := by
  go_enter Tryz.func46, Tryz.ntmps46
  go_wp2
  go_loopw [3, 4] (fun v i wr => ∃ (k : Nat) (n : Int), k ≤ s.size ∧ i = .int .i64 k ∧ v = .int .i64 n ∧ 0 ≤ n ∧ n ≤ 65280 * k ∧ w = wr) (fun _ i _ => s.size - (intOf i).toNat)
  case atStart => exact ⟨0, 0, Nat.zero_le _, rfl, rfl, by omega, by omega, rfl⟩
  case round =>
    obtain ⟨k, n, hk, rfl, rfl, hn0, hn1, rfl⟩ := hrel
    by_cases hlt : k < s.size
    · have hb := s[k].toNat_lt
      by_cases hpar : (k : Int) % 2 = 0
      · go_wp2
        go_roundw
        case rel => exact ⟨k + 1, _, by omega, by go_num, rfl, by omega, by omega, trivial⟩
        case measure => simp [intOf]; omega
      · go_wp2
        go_roundw
        case rel => exact ⟨k + 1, _, by omega, by go_num, rfl, by omega, by omega, trivial⟩
        case measure => simp [intOf]; omega
    · have hn2 : n ≤ 80000000000000000 := by omega
      clear hn1
      go_wp2
      go_loopw [3] (fun v wr => ∃ n : Int, v = .int .i64 n ∧ 0 ≤ n ∧ n ≤ 80000000000000000 ∧ w = wr) (fun v _ => (intOf v).toNat)
      case atStart => exact ⟨n, rfl, hn0, hn2, rfl⟩
      case round =>
        obtain ⟨m, rfl, hm0, hm1, rfl⟩ := hrel
        by_cases hbig : 65535 < m
        · go_wp2
          go_roundw
          case rel => exact ⟨_, rfl, by omega, by omega, trivial⟩
          case measure => simp [intOf]; omega
        · go_wp2
          go_ret
          exact ⟨_, rfl, by omega, by omega, rfl⟩
end Go.Proofs.YthfllbmlhhkhmaaGreatDoor
