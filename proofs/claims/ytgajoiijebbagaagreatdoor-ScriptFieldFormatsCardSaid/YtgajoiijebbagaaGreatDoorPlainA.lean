/-
  PLAIN MATHEMATICS OF ADDRESSES AND PREFIXES: what chapter 3's functions compute, as Lean functions on integers and lists of bytes, and the laws on them. No program in sight. Conditions: none.
-/
import Derived.Lib.ItoaNum
import Derived.Lib.Split
import Derived.Lib.SplitLaws
import Derived.Lib.Join
namespace Go.Proofs.YtgajoiijebbagaaGreatDoor.Pa

abbrev Bs := List UInt8

def validB (a : Int) : Bool := decide (0 ≤ a ∧ a ≤ 4294967295)
theorem validB_true {a : Int} : validB a = true ↔ 0 ≤ a ∧ a ≤ 4294967295 := by simp [validB]
theorem validB_false {a : Int} : validB a = false ↔ ¬ (0 ≤ a ∧ a ≤ 4294967295) := by simp [validB]
def dig (n : Nat) : Bs := Lib.decDigits n
def errB (b : Bool) : Int := if b then 0 else 30
def oct (a : Int) (i : Nat) : Nat := a.toNat / 256 ^ (3 - i) % 256
def fmtL (a : Int) : Bs := dig (oct a 0) ++ 46 :: (dig (oct a 1) ++ 46 :: (dig (oct a 2) ++ 46 :: dig (oct a 3)))
def fmtS (a : Int) : Bs := if validB a then fmtL a else []

theorem oct_lt (a : Int) (i : Nat) : oct a i < 256 := Nat.mod_lt _ (by omega)

/-! ## decimal numerals -/
def isD (c : UInt8) : Bool := decide (48 ≤ c.toNat ∧ c.toNat ≤ 57)
def val (l : Bs) : Nat := l.foldl (fun n c => 10 * n + (c.toNat - 48)) 0
theorem val_nil : val [] = 0 := rfl
theorem val_snoc (l : Bs) (c : UInt8) : val (l ++ [c]) = 10 * val l + (c.toNat - 48) := by simp [val, List.foldl_append]


theorem snocRec {motive : Bs → Prop} (r : Bs) (h0 : motive []) (h1 : ∀ r c, motive r → motive (r ++ [c])) : motive r := by
  rw [← List.reverse_reverse r]
  induction r.reverse with
  | nil => exact h0
  | cons c t ih => rw [List.reverse_cons]; exact h1 _ _ ih

theorem val_le_append (l : Bs) (r : Bs) : val l ≤ val (l ++ r) := by
  refine snocRec (motive := fun r => val l ≤ val (l ++ r)) r (by simp) ?_
  intro r c ih
  rw [← List.append_assoc, val_snoc]
  show val l ≤ 10 * val (l ++ r) + _
  omega

theorem val_take_le (l : Bs) (k : Nat) : val (l.take k) ≤ val l := by
  have := val_le_append (l.take k) (l.drop k)
  rwa [List.take_append_drop] at this

theorem isD_iff (c : UInt8) : isD c = true ↔ 48 ≤ c.toNat ∧ c.toNat ≤ 57 := by simp [isD]

theorem dig_small {n : Nat} (h : n < 10) : dig n = [UInt8.ofNat (48 + n)] := by unfold dig; rw [Lib.decDigits, dif_pos h]
theorem dig_big {n : Nat} (h : ¬ n < 10) : dig n = dig (n / 10) ++ [UInt8.ofNat (48 + n % 10)] := by unfold dig; rw [Lib.decDigits, dif_neg h]

theorem ofNat_toNat {n : Nat} (h : n < 10) : (UInt8.ofNat (48 + n)).toNat = 48 + n := by
  simp; omega

theorem ofNat_digit (c : UInt8) (h : isD c = true) : UInt8.ofNat (48 + (c.toNat - 48)) = c := by
  have := (isD_iff c).1 h
  apply UInt8.toNat_inj.1
  rw [ofNat_toNat (by omega)]; omega

/-- A numeral is made of digits, reads back as its number, is not empty, and has no leading zero unless it is one digit. -/
theorem dig_spec : ∀ n : Nat, (dig n).all isD = true ∧ val (dig n) = n ∧ dig n ≠ [] ∧ (1 ≤ n → ∃ c t, dig n = c :: t ∧ c ≠ 48) := by
  intro n
  induction n using Nat.strongRecOn with
  | _ n ih =>
    by_cases h : n < 10
    · rw [dig_small h]
      refine ⟨?_, ?_, by simp, fun h1 => ⟨_, [], rfl, ?_⟩⟩
      · simp only [List.all_cons, List.all_nil, Bool.and_true]; rw [isD_iff, ofNat_toNat h]; omega
      · show val ([] ++ [_]) = n
        rw [val_snoc, ofNat_toNat h, val_nil]; omega
      · intro e
        have := congrArg UInt8.toNat e
        rw [ofNat_toNat h] at this
        simp at this; omega
    · obtain ⟨h1, h2, h3, h4⟩ := ih (n / 10) (by omega)
      rw [dig_big h]
      refine ⟨?_, ?_, by simp, fun _ => ?_⟩
      · rw [List.all_append, h1, Bool.true_and]
        simp only [List.all_cons, List.all_nil, Bool.and_true]; rw [isD_iff, ofNat_toNat (by omega)]; omega
      · rw [val_snoc, h2, ofNat_toNat (by omega)]; omega
      · obtain ⟨c, t, e, hc⟩ := h4 (by omega)
        exact ⟨c, t ++ [_], by rw [e]; rfl, hc⟩

theorem val_dig (n : Nat) : val (dig n) = n := (dig_spec n).2.1
theorem dig_inj {m n : Nat} (h : dig m = dig n) : m = n := by rw [← val_dig m, h, val_dig]

/-- Digits without a leading zero are the numeral of their value. -/
theorem dig_val (l : Bs) : l.all isD = true → l ≠ [] → (∀ t, l = 48 :: t → t = []) → dig (val l) = l ∧ ((∀ t, l ≠ 48 :: t) → 1 ≤ val l) := by
  refine snocRec (motive := fun l => l.all isD = true → l ≠ [] → (∀ t, l = 48 :: t → t = []) → dig (val l) = l ∧ ((∀ t, l ≠ 48 :: t) → 1 ≤ val l)) l (by simp) ?_
  intro r c ih ha _ hz
  rw [List.all_append] at ha
  simp only [List.all_cons, List.all_nil, Bool.and_true, Bool.and_eq_true] at ha
  obtain ⟨har, hc⟩ := ha
  have hcc := (isD_iff c).1 hc
  rw [val_snoc]
  cases r with
  | nil =>
    rw [val_nil, List.nil_append, dig_small (by omega)]
    refine ⟨by rw [show 48 + (10 * 0 + (c.toNat - 48)) = 48 + (c.toNat - 48) by omega, ofNat_digit c hc], fun hn => ?_⟩
    have : c.toNat ≠ 48 := fun e => hn [] (by rw [show c = 48 from UInt8.toNat_inj.1 (by simpa using e)])
    omega
  | cons d t =>
    have hd : d ≠ 48 := fun e => by
      have := hz (t ++ [c]) (by rw [e]; rfl)
      simp at this
    obtain ⟨i1, i2⟩ := ih har (by simp) (fun t' e => by cases e; exact absurd rfl hd)
    have hv : 1 ≤ val (d :: t) := i2 (fun t' e => by cases e; exact hd rfl)
    refine ⟨?_, fun _ => by omega⟩
    rw [dig_big (by omega), show (10 * val (d :: t) + (c.toNat - 48)) / 10 = val (d :: t) by omega, show (10 * val (d :: t) + (c.toNat - 48)) % 10 = c.toNat - 48 by omega, i1, ofNat_digit c hc]

/-- The number at most 'most' whose numeral is l. -/
def numL (l : Bs) (most : Nat) : Option Nat := if l.all isD = true ∧ val l ≤ most ∧ dig (val l) = l then some (val l) else none

theorem numL_some {l : Bs} {most n : Nat} : numL l most = some n ↔ n ≤ most ∧ dig n = l := by
  unfold numL
  constructor
  · intro h
    split at h
    · rename_i hc; cases h; exact ⟨hc.2.1, hc.2.2⟩
    · cases h
  · rintro ⟨h, rfl⟩
    obtain ⟨h1, h2, _, _⟩ := dig_spec n
    rw [if_pos ⟨h1, by omega, by rw [h2]⟩, h2]

theorem numL_dig {n most : Nat} (h : n ≤ most) : numL (dig n) most = some n := numL_some.2 ⟨h, rfl⟩

theorem numL_le {l : Bs} {most n : Nat} (h : numL l most = some n) : n ≤ most := (numL_some.1 h).1

theorem numL_nil (most : Nat) : numL [] most = none := by
  cases h : numL [] most with
  | none => rfl
  | some n => exact absurd (numL_some.1 h).2 (dig_spec n).2.2.1

theorem numL_bad {l : Bs} {most : Nat} (h : l.all isD = false) : numL l most = none := by
  unfold numL; rw [if_neg]; rw [h]; simp

theorem numL_big {l : Bs} {most : Nat} (h : most < val l) : numL l most = none := by
  unfold numL; rw [if_neg]; intro hc; omega

theorem numL_other {l : Bs} {most : Nat} (h : dig (val l) ≠ l) : numL l most = none := by
  unfold numL; rw [if_neg]; intro hc; exact h hc.2.2

theorem numL_zero {t : Bs} {most : Nat} (h : t ≠ []) : numL (48 :: t) most = none := by
  cases hn : numL (48 :: t) most with
  | none => rfl
  | some n =>
    obtain ⟨_, hd⟩ := numL_some.1 hn
    by_cases h1 : 1 ≤ n
    · obtain ⟨c, t', e, hc⟩ := (dig_spec n).2.2.2 h1
      rw [hd] at e; cases e; exact absurd rfl hc
    · have : n = 0 := by omega
      subst this
      rw [dig_small (by omega)] at hd
      cases hd; exact absurd rfl h

theorem dig_length {n : Nat} (h : n < 1000) : (dig n).length ≤ 3 := by
  by_cases h1 : n < 10
  · rw [dig_small h1]; simp
  · rw [dig_big h1]
    by_cases h2 : n / 10 < 10
    · rw [dig_small h2]; simp
    · rw [dig_big h2, dig_small (by omega)]; simp

theorem numL_long {l : Bs} {most : Nat} (hm : most < 1000) (h : 3 < l.length) : numL l most = none := by
  cases hn : numL l most with
  | none => rfl
  | some n =>
    obtain ⟨h1, hd⟩ := numL_some.1 hn
    have := dig_length (n := n) (by omega)
    rw [hd] at this; omega

theorem numL_good {l : Bs} {most : Nat} (ha : l.all isD = true) (h0 : l ≠ []) (hz : ∀ t, l = 48 :: t → t = []) (hm : val l ≤ most) : numL l most = some (val l) :=
  numL_some.2 ⟨hm, (dig_val l ha h0 hz).1⟩

theorem val_lt (l : Bs) : l.all isD = true → val l < 10 ^ l.length := by
  refine snocRec (motive := fun l => l.all isD = true → val l < 10 ^ l.length) l (by simp [val]) ?_
  intro r c ih ha
  rw [List.all_append] at ha
  simp only [List.all_cons, List.all_nil, Bool.and_true, Bool.and_eq_true] at ha
  have := ih ha.1
  have := (isD_iff c).1 ha.2
  rw [val_snoc, List.length_append, List.length_cons, List.length_nil, Nat.zero_add, Nat.pow_succ]
  omega

end Go.Proofs.YtgajoiijebbagaaGreatDoor.Pa
