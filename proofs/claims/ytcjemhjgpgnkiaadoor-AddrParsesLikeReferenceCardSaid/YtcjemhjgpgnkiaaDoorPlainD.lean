/-
  PLAIN MATHEMATICS OF PREFIXES, LAST PART: the generated prefixes are valid; a prefix is an interval; two prefixes nest or are disjoint; a prefix is its two halves. No program in sight. Conditions: none.
-/
import Derived.Test.YtcjemhjgpgnkiaaDoorPlainC
namespace Go.Proofs.YtcjemhjgpgnkiaaDoor.Pa

theorem pwI_pos (b : Int) : (1 : Int) ≤ (pw b : Int) := by have := pw_pos b; omega

theorem sub_emod (x p : Int) : (x - x % p) % p = 0 := by
  have h := Int.mul_ediv_add_emod x p
  rw [show x - x % p = p * (x / p) by omega]
  exact Int.mul_emod_right _ _
theorem net_valid (a b : Int) : validP (netA a b) (netB b) = true := by
  have h0 := pickI_lo a 4294967296 (by omega)
  have h1 := pickI_hi a 4294967296 (by omega)
  have hb0 := pickI_lo b 33 (by omega)
  have hb1 := pickI_hi b 33 (by omega)
  have hp := pwI_pos (netB b)
  have hm := Int.emod_nonneg (pickI a 4294967296) (show (pw (netB b) : Int) ≠ 0 by omega)
  have hq : pickI a 4294967296 % (pw (netB b) : Int) ≤ pickI a 4294967296 := by
    have := Int.mul_ediv_add_emod (pickI a 4294967296) (pw (netB b) : Int)
    have h := Int.mul_nonneg (show (0 : Int) ≤ (pw (netB b) : Int) by omega) (Int.ediv_nonneg h0 (show (0 : Int) ≤ (pw (netB b) : Int) by omega))
    omega
  refine validP_true.2 ⟨⟨?_, ?_⟩, ⟨?_, ?_⟩, sub_emod _ _⟩
  · unfold netA; omega
  · unfold netA; omega
  · unfold netB; omega
  · unfold netB; omega

/-- The last address of a valid prefix is an address. -/
theorem last_le {a b : Int} (h : validP a b = true) : lastP a b = a + (pw b : Int) - 1 ∧ a + (pw b : Int) ≤ 4294967296 := by
  obtain ⟨⟨a0, a1⟩, ⟨b0, b1⟩, hz⟩ := validP_true.1 h
  refine ⟨by unfold lastP; rw [if_pos h], ?_⟩
  have hp := pwI_pos b
  have d1 := Int.mul_ediv_add_emod a (pw b : Int)
  have d2 := Int.mul_ediv_add_emod 4294967296 (pw b : Int)
  rw [pw_dvd b b0 b1] at d2
  generalize (pw b : Int) = p at *
  have hlt : p * (a / p) < p * (4294967296 / p) := by omega
  have := Int.lt_of_mul_lt_mul_left hlt (by omega)
  have h2 : p * (a / p + 1) ≤ p * (4294967296 / p) := Int.mul_le_mul_of_nonneg_left (by omega) (by omega)
  rw [Int.mul_add, Int.mul_one] at h2
  omega

theorem ediv_eq_iff {a x p : Int} (hp : 1 ≤ p) (hz : a % p = 0) : x / p = a / p ↔ a ≤ x ∧ x ≤ a + p - 1 := by
  have d1 := Int.mul_ediv_add_emod a p
  have d2 := Int.mul_ediv_add_emod x p
  have m0 := Int.emod_nonneg x (show p ≠ 0 by omega)
  have m1 := Int.emod_lt_of_pos x (show 0 < p by omega)
  constructor
  · intro e; rw [e] at d2; omega
  · rintro ⟨h1, h2⟩
    have e1 : ¬ x / p < a / p := fun hlt => by
      have : p * (x / p + 1) ≤ p * (a / p) := Int.mul_le_mul_of_nonneg_left (by omega) (by omega)
      rw [Int.mul_add, Int.mul_one] at this
      omega
    have e2 : ¬ a / p < x / p := fun hlt => by
      have : p * (a / p + 1) ≤ p * (x / p) := Int.mul_le_mul_of_nonneg_left (by omega) (by omega)
      rw [Int.mul_add, Int.mul_one] at this
      omega
    omega

/-- A prefix is the interval from its address to its last. -/
theorem contains_iff {a b : Int} (h : validP a b = true) (x : Int) : containsP a b x = true ↔ a ≤ x ∧ x ≤ lastP a b := by
  obtain ⟨⟨a0, a1⟩, ⟨b0, b1⟩, hz⟩ := validP_true.1 h
  obtain ⟨hl, hle⟩ := last_le h
  have hp := pwI_pos b
  unfold containsP
  rw [h, Bool.true_and, Bool.and_eq_true, validB_true, decide_eq_true_eq, ediv_eq_iff hp hz, hl]
  constructor
  · exact fun e => e.2
  · exact fun e => ⟨⟨by omega, by omega⟩, e⟩
theorem contains_yes {a b x : Int} (h : validP a b = true) (h1 : a ≤ x) (h2 : x ≤ lastP a b) : containsP a b x = true := (contains_iff h x).2 ⟨h1, h2⟩
theorem contains_no {a b x : Int} (h : validP a b = true) (h1 : ¬ (a ≤ x ∧ x ≤ lastP a b)) : containsP a b x = false := by
  rw [Bool.eq_false_iff]; exact fun e => h1 ((contains_iff h x).1 e)

/-- A greater power is a multiple of a smaller one. -/
theorem pw_mul (b c : Int) (b0 : 0 ≤ b) (h : b ≤ c) (c1 : c ≤ 32) : ∃ k : Int, 1 ≤ k ∧ (pw b : Int) = (pw c : Int) * k := by
  refine ⟨((2 ^ (c - b).toNat : Nat) : Int), ?_, ?_⟩
  · have : 1 ≤ 2 ^ (c - b).toNat := Nat.one_le_two_pow
    omega
  · unfold pw
    rw [← Int.natCast_mul, ← Nat.pow_add]
    congr 2; omega

/-- Of two valid prefixes the longer lies within the shorter, or outside of it. -/
theorem nest {a b c d : Int} (h : validP a b = true) (k : validP c d = true) (hbd : b ≤ d) : (a ≤ c ∧ lastP c d ≤ lastP a b) ∨ (lastP c d < a ∨ lastP a b < c) := by
  obtain ⟨⟨a0, a1⟩, ⟨b0, b1⟩, hz⟩ := validP_true.1 h
  obtain ⟨⟨c0, c1⟩, ⟨d0, d1⟩, kz⟩ := validP_true.1 k
  obtain ⟨hl, _⟩ := last_le h
  obtain ⟨kl, _⟩ := last_le k
  obtain ⟨n, hn, e⟩ := pw_mul b d b0 hbd d1
  have hp := pwI_pos d
  have da := Int.mul_ediv_add_emod a (pw b : Int)
  have dc := Int.mul_ediv_add_emod c (pw d : Int)
  rw [hl, kl]
  rw [e] at da hz ⊢
  generalize (pw d : Int) = p at *
  have ea : a = p * (n * (a / (p * n))) := by rw [← Int.mul_assoc]; omega
  have ec : c = p * (c / p) := by omega
  generalize n * (a / (p * n)) = u at *
  generalize c / p = v at *
  by_cases h1 : v < u
  · have : p * (v + 1) ≤ p * u := Int.mul_le_mul_of_nonneg_left (by omega) (by omega)
    rw [Int.mul_add, Int.mul_one] at this
    omega
  · by_cases h2 : v < u + n
    · left
      have e1 : p * u ≤ p * v := Int.mul_le_mul_of_nonneg_left (by omega) (by omega)
      have e2 : p * (v + 1) ≤ p * (u + n) := Int.mul_le_mul_of_nonneg_left (by omega) (by omega)
      rw [Int.mul_add, Int.mul_one, Int.mul_add] at e2
      omega
    · have : p * (u + n) ≤ p * v := Int.mul_le_mul_of_nonneg_left (by omega) (by omega)
      rw [Int.mul_add] at this
      omega

/-- The two halves. -/
theorem halves {a b : Int} (h : validP a b = true) (hb : b < 32) :
    validP a (b + 1) = true ∧ validP (a + (lastP a b - a + 1) / 2) (b + 1) = true ∧ lastP a (b + 1) = a + (lastP a b - a + 1) / 2 - 1 ∧ lastP (a + (lastP a b - a + 1) / 2) (b + 1) = lastP a b ∧ a ≤ a + (lastP a b - a + 1) / 2 ∧ a + (lastP a b - a + 1) / 2 ≤ lastP a b := by
  obtain ⟨⟨a0, a1⟩, ⟨b0, b1⟩, hz⟩ := validP_true.1 h
  obtain ⟨hl, hle⟩ := last_le h
  have hs := pw_succ b b0 hb
  have hp := pwI_pos (b + 1)
  have e : (pw b : Int) = 2 * (pw (b + 1) : Int) := by rw [hs]; simp
  have hmid : a + (lastP a b - a + 1) / 2 = a + (pw (b + 1) : Int) := by rw [hl, e]; omega
  have d1 := Int.mul_ediv_add_emod a (pw b : Int)
  have hz1 : a % (pw (b + 1) : Int) = 0 := by
    rw [hz, e] at d1
    rw [show a = (pw (b + 1) : Int) * (2 * (a / (2 * (pw (b + 1) : Int)))) by rw [← Int.mul_assoc, Int.mul_comm _ 2]; omega]
    exact Int.mul_emod_right _ _
  have v1 : validP a (b + 1) = true := validP_true.2 ⟨⟨a0, a1⟩, ⟨by omega, by omega⟩, hz1⟩
  have v2 : validP (a + (pw (b + 1) : Int)) (b + 1) = true := validP_true.2 ⟨⟨by omega, by omega⟩, ⟨by omega, by omega⟩, by rw [Int.add_emod, hz1]; simp⟩
  rw [hmid]
  refine ⟨v1, v2, ?_, ?_, by omega, by omega⟩
  · rw [(last_le v1).1]
  · rw [(last_le v2).1, hl]; omega

end Go.Proofs.YtcjemhjgpgnkiaaDoor.Pa
