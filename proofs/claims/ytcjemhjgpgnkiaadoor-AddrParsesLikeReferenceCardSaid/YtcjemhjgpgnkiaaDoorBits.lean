/-
  Bit operations on 64-bit integers that are not negative, as arithmetic: masks of low bits. Conditions: as each says.
-/
import Derived.Test.YtcjemhjgpgnkiaaDoorPlainB
import Derived.Laws.BitsLemmas
import Derived.Laws.BitsAllLaws
import Derived.Lib.QuoteBits
namespace Go.Proofs.YtcjemhjgpgnkiaaDoor.Pa
open Go

theorem wraps_i64 (n : Int) (h₀ : 0 ≤ n) (h₁ : n < 2 ^ 62) : IntKind.i64.wrap n = n := by rw [IntKind.wrap_i64]; omega
theorem and_mask (x : Int) (i : Nat) (hi : i ≤ 62) (h0 : 0 ≤ x) (h1 : x < 2 ^ 62) : bits .and .i64 x (2 ^ i - 1) = x % 2 ^ i :=
  bits_mask .i64 62 (by decide) wraps_i64 i hi x h0 h1
theorem or_join (x y : Int) (i : Nat) (hx₀ : 0 ≤ x) (hx : x % 2 ^ i = 0) (hx₁ : x < 2 ^ 62) (hy₀ : 0 ≤ y) (hy : y < 2 ^ i) (hy₁ : y < 2 ^ 62) : bits .or .i64 x y = x + y :=
  bits_join .i64 62 (by decide) wraps_i64 i x y hx₀ hx hx₁ hy₀ hy hy₁
theorem andNot_mask (x : Int) (i : Nat) (hi : i ≤ 62) (h0 : 0 ≤ x) (h1 : x < 2 ^ 62) : bits .andNot .i64 x (2 ^ i - 1) = x - x % 2 ^ i := by
  obtain ⟨n, rfl⟩ := Int.eq_ofNat_of_zero_le h0
  have hn : n < 2 ^ 62 := by exact_mod_cast h1
  have hpos : 0 < 2 ^ i := Nat.two_pow_pos i
  have hp : 2 ^ i ≤ 2 ^ 62 := Nat.pow_le_pow_right (by decide) hi
  have hc : ((2 : Int) ^ i - 1) = ((2 ^ i - 1 : Nat) : Int) := by rw [Int.natCast_sub hpos]; simp
  rw [hc]
  show IntKind.i64.wrap ((BitVec.ofInt 64 (n : Int) &&& ~~~BitVec.ofInt 64 ((2 ^ i - 1 : Nat) : Int)).toNat : Int) = _
  rw [BitVec.toNat_and, BitVec.toNat_not, ofInt_u64 n (by omega), ofInt_u64 (2 ^ i - 1) (by omega)]
  have e : 2 ^ 64 - 1 - (2 ^ i - 1) = 2 ^ 64 - 2 ^ i := by omega
  rw [e, nat_midmask 64 i n (by omega), Nat.mod_eq_of_lt (show n < 2 ^ 64 by omega)]
  have hd := Nat.div_add_mod n (2 ^ i)
  have hm : n / 2 ^ i * 2 ^ i = n - n % 2 ^ i := by rw [Nat.mul_comm]; omega
  rw [hm, Lib.wrap_i64_small _ (by omega)]
  have : n % 2 ^ i ≤ n := Nat.mod_le _ _
  rw [Int.natCast_sub this]
  simp

theorem pw_int (b : Int) : (pw b : Int) = 2 ^ (32 - b).toNat := by unfold pw; simp
theorem pwBound (x : Int) (h : x ≤ 4294967296) : x < 2 ^ 62 := by omega

theorem and_pw (a b : Int) (h : 0 ≤ a ∧ a ≤ 4294967295) (_b0 : 0 ≤ b) (_b1 : b ≤ 32) : bits .and .i64 a ((pw b : Int) - 1) = a % (pw b : Int) := by
  rw [pw_int]; exact and_mask a _ (by omega) h.1 (by omega)
theorem andNot_pw (a b : Int) (h : 0 ≤ a ∧ a ≤ 4294967295) (_b0 : 0 ≤ b) (_b1 : b ≤ 32) : bits .andNot .i64 a ((pw b : Int) - 1) = a - a % (pw b : Int) := by
  rw [pw_int]; exact andNot_mask a _ (by omega) h.1 (by omega)
theorem or_pw (a b : Int) (h : 0 ≤ a ∧ a ≤ 4294967295) (hz : a % (pw b : Int) = 0) (b0 : 0 ≤ b) (b1 : b ≤ 32) : bits .or .i64 a ((pw b : Int) - 1) = a + ((pw b : Int) - 1) := by
  have hp := pw_le b b0 b1
  have h1 := pw_pos b
  rw [pw_int] at hz
  refine or_join a _ (32 - b).toNat h.1 hz (by omega) (by omega) ?_ (by omega)
  rw [← pw_int]; omega

theorem validP_eq (a b : Int) (hv : validB a = true) (b0 : 0 ≤ b) (b1 : b ≤ 32) : (bits .and .i64 a ((pw b : Int) - 1) == 0) = validP a b := by
  have h := validB_true.1 hv
  rw [and_pw a b h b0 b1, Bool.eq_iff_iff, beq_iff_eq, validP_true]
  exact ⟨fun e => ⟨h, ⟨b0, b1⟩, e⟩, fun e => e.2.2⟩
theorem containsP_eq (a b x : Int) (hp : validP a b = true) (hv : validB x = true) : (bits .andNot .i64 x ((pw b : Int) - 1) == a) = containsP a b x := by
  have hx := validB_true.1 hv
  obtain ⟨ha, hb, hz⟩ := validP_true.1 hp
  have h1 : (1 : Int) ≤ (pw b : Int) := by have := pw_pos b; omega
  rw [andNot_pw x b hx hb.1 hb.2, Bool.eq_iff_iff, beq_iff_eq]
  simp only [containsP, hp, hv, Bool.true_and, decide_eq_true_eq]
  have d1 := Int.mul_ediv_add_emod x (pw b : Int)
  have d2 := Int.mul_ediv_add_emod a (pw b : Int)
  generalize (pw b : Int) = p at *
  constructor
  · intro e
    have : p * (x / p) = p * (a / p) := by omega
    exact Int.eq_of_mul_eq_mul_left (by omega) this
  · intro e
    rw [e] at d1; omega
theorem lastP_eq (a b : Int) (hp : validP a b = true) : bits .or .i64 a ((pw b : Int) - 1) = lastP a b := by
  obtain ⟨ha, hb, hz⟩ := validP_true.1 hp
  rw [or_pw a b ha hz hb.1 hb.2]; unfold lastP; rw [if_pos hp]; omega

theorem refValidP_eq (a b : Int) (hv : validB a = true) (b0 : 0 ≤ b) (b1 : b ≤ 32) : (a % (pw b : Int) == 0) = validP a b := by
  have h := validB_true.1 hv
  rw [Bool.eq_iff_iff, beq_iff_eq, validP_true]
  exact ⟨fun e => ⟨h, ⟨b0, b1⟩, e⟩, fun e => e.2.2⟩
theorem refContainsP_eq (a b x : Int) (hp : validP a b = true) (hv : validB x = true) : (x / (pw b : Int) == a / (pw b : Int)) = containsP a b x := by
  rw [Bool.eq_iff_iff, beq_iff_eq]
  simp [containsP, hp, hv]

end Go.Proofs.YtcjemhjgpgnkiaaDoor.Pa
