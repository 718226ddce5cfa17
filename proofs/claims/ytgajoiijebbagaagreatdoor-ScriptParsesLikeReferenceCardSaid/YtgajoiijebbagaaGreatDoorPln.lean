/-
  PLAIN FACTS, with no program in sight: addresses, decimal and hexadecimal numerals, lines, actions, scripts, the examples. Conditions: none.
-/
import Derived.Lib.ItoaNum
import Derived.Lib.Split
import Derived.Lib.SplitLaws
import Derived.Lib.Join
import Derived.Lib.AtoiTie
import Derived.Lib.JoinLaws
/-! PLAIN MATHEMATICS OF ADDRESSES AND PREFIXES: what chapter 3's functions compute, as Lean functions on integers and lists of bytes, and the laws on them. No program in sight. Conditions: none. -/
namespace Go.Proofs.YtgajoiijebbagaaGreatDoor.Pa

abbrev Bs := List UInt8

def validB (a : Int) : Bool := decide (0 ≤ a ∧ a ≤ 4294967295)
theorem validB_true {a : Int} : validB a = true ↔ 0 ≤ a ∧ a ≤ 4294967295 := by simp [validB]
theorem validB_false {a : Int} : validB a = false ↔ ¬ (0 ≤ a ∧ a ≤ 4294967295) := by simp [validB]
def dig (n : Nat) : Bs := Lib.decDigits n
def errB (b : Bool) : Int := if b then 0 else 30
def oct (a : Int) (i : Nat) : Nat := a.toNat / 256 ^ (3 - i) % 256
def fmtL (a : Int) : Bs := dig (oct a 0) ++ 46 :: (dig (oct a 1) ++ 46 :: (dig (oct a 2) ++ 46 :: dig (oct a 3)))
def fmtS (a : Int) : Bs := if validB a then fmtL a else []

theorem oct_lt (a : Int) (i : Nat) : oct a i < 256 := Nat.mod_lt _ (by omega)

/-! ## decimal numerals -/
def isD (c : UInt8) : Bool := decide (48 ≤ c.toNat ∧ c.toNat ≤ 57)
def val (l : Bs) : Nat := l.foldl (fun n c => 10 * n + (c.toNat - 48)) 0
theorem val_nil : val [] = 0 := rfl
theorem val_snoc (l : Bs) (c : UInt8) : val (l ++ [c]) = 10 * val l + (c.toNat - 48) := by simp [val, List.foldl_append]


theorem snocRec {motive : Bs → Prop} (r : Bs) (h0 : motive []) (h1 : ∀ r c, motive r → motive (r ++ [c])) : motive r := by
  rw [← List.reverse_reverse r]
  induction r.reverse with
  | nil => exact h0
  | cons c t ih => rw [List.reverse_cons]; exact h1 _ _ ih

theorem val_le_append (l : Bs) (r : Bs) : val l ≤ val (l ++ r) := by
  refine snocRec (motive := fun r => val l ≤ val (l ++ r)) r (by simp) ?_
  intro r c ih
  rw [← List.append_assoc, val_snoc]
  show val l ≤ 10 * val (l ++ r) + _
  omega

theorem val_take_le (l : Bs) (k : Nat) : val (l.take k) ≤ val l := by
  have := val_le_append (l.take k) (l.drop k)
  rwa [List.take_append_drop] at this

theorem isD_iff (c : UInt8) : isD c = true ↔ 48 ≤ c.toNat ∧ c.toNat ≤ 57 := by simp [isD]

theorem dig_small {n : Nat} (h : n < 10) : dig n = [UInt8.ofNat (48 + n)] := by unfold dig; rw [Lib.decDigits, dif_pos h]
theorem dig_big {n : Nat} (h : ¬ n < 10) : dig n = dig (n / 10) ++ [UInt8.ofNat (48 + n % 10)] := by unfold dig; rw [Lib.decDigits, dif_neg h]

theorem ofNat_toNat {n : Nat} (h : n < 10) : (UInt8.ofNat (48 + n)).toNat = 48 + n := by
  simp; omega

theorem ofNat_digit (c : UInt8) (h : isD c = true) : UInt8.ofNat (48 + (c.toNat - 48)) = c := by
  have := (isD_iff c).1 h
  apply UInt8.toNat_inj.1
  rw [ofNat_toNat (by omega)]; omega

/-- A numeral is made of digits, reads back as its number, is not empty, and has no leading zero unless it is one digit. -/
theorem dig_spec : ∀ n : Nat, (dig n).all isD = true ∧ val (dig n) = n ∧ dig n ≠ [] ∧ (1 ≤ n → ∃ c t, dig n = c :: t ∧ c ≠ 48) := by
  intro n
  induction n using Nat.strongRecOn with
  | _ n ih =>
    by_cases h : n < 10
    · rw [dig_small h]
      refine ⟨?_, ?_, by simp, fun h1 => ⟨_, [], rfl, ?_⟩⟩
      · simp only [List.all_cons, List.all_nil, Bool.and_true]; rw [isD_iff, ofNat_toNat h]; omega
      · show val ([] ++ [_]) = n
        rw [val_snoc, ofNat_toNat h, val_nil]; omega
      · intro e
        have := congrArg UInt8.toNat e
        rw [ofNat_toNat h] at this
        simp at this; omega
    · obtain ⟨h1, h2, h3, h4⟩ := ih (n / 10) (by omega)
      rw [dig_big h]
      refine ⟨?_, ?_, by simp, fun _ => ?_⟩
      · rw [List.all_append, h1, Bool.true_and]
        simp only [List.all_cons, List.all_nil, Bool.and_true]; rw [isD_iff, ofNat_toNat (by omega)]; omega
      · rw [val_snoc, h2, ofNat_toNat (by omega)]; omega
      · obtain ⟨c, t, e, hc⟩ := h4 (by omega)
        exact ⟨c, t ++ [_], by rw [e]; rfl, hc⟩

theorem val_dig (n : Nat) : val (dig n) = n := (dig_spec n).2.1
theorem dig_inj {m n : Nat} (h : dig m = dig n) : m = n := by rw [← val_dig m, h, val_dig]

/-- Digits without a leading zero are the numeral of their value. -/
theorem dig_val (l : Bs) : l.all isD = true → l ≠ [] → (∀ t, l = 48 :: t → t = []) → dig (val l) = l ∧ ((∀ t, l ≠ 48 :: t) → 1 ≤ val l) := by
  refine snocRec (motive := fun l => l.all isD = true → l ≠ [] → (∀ t, l = 48 :: t → t = []) → dig (val l) = l ∧ ((∀ t, l ≠ 48 :: t) → 1 ≤ val l)) l (by simp) ?_
  intro r c ih ha _ hz
  rw [List.all_append] at ha
  simp only [List.all_cons, List.all_nil, Bool.and_true, Bool.and_eq_true] at ha
  obtain ⟨har, hc⟩ := ha
  have hcc := (isD_iff c).1 hc
  rw [val_snoc]
  cases r with
  | nil =>
    rw [val_nil, List.nil_append, dig_small (by omega)]
    refine ⟨by rw [show 48 + (10 * 0 + (c.toNat - 48)) = 48 + (c.toNat - 48) by omega, ofNat_digit c hc], fun hn => ?_⟩
    have : c.toNat ≠ 48 := fun e => hn [] (by rw [show c = 48 from UInt8.toNat_inj.1 (by simpa using e)])
    omega
  | cons d t =>
    have hd : d ≠ 48 := fun e => by
      have := hz (t ++ [c]) (by rw [e]; rfl)
      simp at this
    obtain ⟨i1, i2⟩ := ih har (by simp) (fun t' e => by cases e; exact absurd rfl hd)
    have hv : 1 ≤ val (d :: t) := i2 (fun t' e => by cases e; exact hd rfl)
    refine ⟨?_, fun _ => by omega⟩
    rw [dig_big (by omega), show (10 * val (d :: t) + (c.toNat - 48)) / 10 = val (d :: t) by omega, show (10 * val (d :: t) + (c.toNat - 48)) % 10 = c.toNat - 48 by omega, i1, ofNat_digit c hc]

/-- The number at most 'most' whose numeral is l. -/
def numL (l : Bs) (most : Nat) : Option Nat := if l.all isD = true ∧ val l ≤ most ∧ dig (val l) = l then some (val l) else none

theorem numL_some {l : Bs} {most n : Nat} : numL l most = some n ↔ n ≤ most ∧ dig n = l := by
  unfold numL
  constructor
  · intro h
    split at h
    · rename_i hc; cases h; exact ⟨hc.2.1, hc.2.2⟩
    · cases h
  · rintro ⟨h, rfl⟩
    obtain ⟨h1, h2, _, _⟩ := dig_spec n
    rw [if_pos ⟨h1, by omega, by rw [h2]⟩, h2]

theorem numL_dig {n most : Nat} (h : n ≤ most) : numL (dig n) most = some n := numL_some.2 ⟨h, rfl⟩

theorem numL_le {l : Bs} {most n : Nat} (h : numL l most = some n) : n ≤ most := (numL_some.1 h).1

theorem numL_nil (most : Nat) : numL [] most = none := by
  cases h : numL [] most with
  | none => rfl
  | some n => exact absurd (numL_some.1 h).2 (dig_spec n).2.2.1

theorem numL_bad {l : Bs} {most : Nat} (h : l.all isD = false) : numL l most = none := by
  unfold numL; rw [if_neg]; rw [h]; simp

theorem numL_big {l : Bs} {most : Nat} (h : most < val l) : numL l most = none := by
  unfold numL; rw [if_neg]; intro hc; omega

theorem numL_other {l : Bs} {most : Nat} (h : dig (val l) ≠ l) : numL l most = none := by
  unfold numL; rw [if_neg]; intro hc; exact h hc.2.2

theorem numL_zero {t : Bs} {most : Nat} (h : t ≠ []) : numL (48 :: t) most = none := by
  cases hn : numL (48 :: t) most with
  | none => rfl
  | some n =>
    obtain ⟨_, hd⟩ := numL_some.1 hn
    by_cases h1 : 1 ≤ n
    · obtain ⟨c, t', e, hc⟩ := (dig_spec n).2.2.2 h1
      rw [hd] at e; cases e; exact absurd rfl hc
    · have : n = 0 := by omega
      subst this
      rw [dig_small (by omega)] at hd
      cases hd; exact absurd rfl h

theorem dig_length {n : Nat} (h : n < 1000) : (dig n).length ≤ 3 := by
  by_cases h1 : n < 10
  · rw [dig_small h1]; simp
  · rw [dig_big h1]
    by_cases h2 : n / 10 < 10
    · rw [dig_small h2]; simp
    · rw [dig_big h2, dig_small (by omega)]; simp

theorem numL_long {l : Bs} {most : Nat} (hm : most < 1000) (h : 3 < l.length) : numL l most = none := by
  cases hn : numL l most with
  | none => rfl
  | some n =>
    obtain ⟨h1, hd⟩ := numL_some.1 hn
    have := dig_length (n := n) (by omega)
    rw [hd] at this; omega

theorem numL_good {l : Bs} {most : Nat} (ha : l.all isD = true) (h0 : l ≠ []) (hz : ∀ t, l = 48 :: t → t = []) (hm : val l ≤ most) : numL l most = some (val l) :=
  numL_some.2 ⟨hm, (dig_val l ha h0 hz).1⟩

theorem val_lt (l : Bs) : l.all isD = true → val l < 10 ^ l.length := by
  refine snocRec (motive := fun l => l.all isD = true → val l < 10 ^ l.length) l (by simp [val]) ?_
  intro r c ih ha
  rw [List.all_append] at ha
  simp only [List.all_cons, List.all_nil, Bool.and_true, Bool.and_eq_true] at ha
  have := ih ha.1
  have := (isD_iff c).1 ha.2
  rw [val_snoc, List.length_append, List.length_cons, List.length_nil, Nat.zero_add, Nat.pow_succ]
  omega

end Go.Proofs.YtgajoiijebbagaaGreatDoor.Pa

/-! PLAIN MATHEMATICS OF ADDRESSES AND PREFIXES, SECOND PART: splitting at dots, reading the dotted form, prefixes as intervals. No program in sight. Conditions: none. -/
namespace Go.Proofs.YtgajoiijebbagaaGreatDoor.Pa

/-! ## splitting at dots -/
def glue (cur : Bs) : List Bs → List Bs
  | [] => [cur]
  | x :: xs => (cur ++ x) :: xs
def splitD : Bs → List Bs
  | [] => [[]]
  | c :: r => if c = 46 then [] :: splitD r else glue [c] (splitD r)

theorem glue_nil (l : List Bs) (h : l ≠ []) : glue [] l = l := by cases l with | nil => exact absurd rfl h | cons x xs => rfl
theorem glue_glue (a b : Bs) (l : List Bs) : glue a (glue b l) = glue (a ++ b) l := by cases l <;> simp [glue]
theorem glue_ne (a : Bs) (l : List Bs) : glue a l ≠ [] := by cases l <;> simp [glue]
theorem splitD_ne : ∀ l : Bs, splitD l ≠ []
  | [] => by simp [splitD]
  | c :: r => by unfold splitD; split; simp; exact glue_ne _ _
theorem glue_length (a : Bs) (l : List Bs) (h : l ≠ []) : (glue a l).length = l.length := by cases l with | nil => exact absurd rfl h | cons x xs => rfl
theorem splitD_length_le : ∀ l : Bs, (splitD l).length ≤ l.length + 1
  | [] => by simp [splitD]
  | c :: r => by
    have := splitD_length_le r
    unfold splitD; split
    · simp; omega
    · rw [glue_length _ _ (splitD_ne r)]; simp; omega
theorem splitD_dot (r : Bs) (cur : Bs) : glue cur (splitD (46 :: r)) = cur :: splitD r := by simp [splitD, glue]
theorem splitD_other (c : UInt8) (r : Bs) (cur : Bs) (h : c ≠ 46) : glue cur (splitD (c :: r)) = glue (cur ++ [c]) (splitD r) := by
  rw [splitD, if_neg h, glue_glue]
theorem splitD_nil (cur : Bs) : glue cur (splitD []) = [cur] := by simp [splitD, glue]

theorem splitD_none : ∀ l : Bs, (∀ c ∈ l, c ≠ 46) → splitD l = [l]
  | [], _ => rfl
  | c :: r, h => by
    rw [splitD, if_neg (h c (by simp)), splitD_none r (fun x hx => h x (by simp [hx]))]; rfl
theorem splitD_append : ∀ (l r : Bs), (∀ c ∈ l, c ≠ 46) → splitD (l ++ 46 :: r) = l :: splitD r
  | [], r, _ => by simp [splitD]
  | c :: t, r, h => by
    rw [List.cons_append, splitD, if_neg (h c (by simp)), splitD_append t r (fun x hx => h x (by simp [hx]))]; rfl

theorem occAt_one (l : Bs) (c : UInt8) (i : Nat) : Lib.occAt l [c] i = (l[i]? == some c) := by
  unfold Lib.occAt
  rw [← List.head?_drop]
  cases h : l.drop i with
  | nil => simp
  | cons x xs =>
    have e : ([c].isPrefixOf (x :: xs)) = (c == x) := by simp [List.isPrefixOf]
    rw [e]
    show (c == x) = (some x == some c)
    rw [Bool.eq_iff_iff, beq_iff_eq, beq_iff_eq]
    exact ⟨fun h => by rw [h], fun h => (Option.some.inj h).symm⟩

theorem index_cases (l : Bs) (c : UInt8) : (Lib.index l [c] = -1 ∧ ∀ x ∈ l, x ≠ c) ∨ ∃ i : Nat, Lib.index l [c] = i ∧ i < l.length ∧ l[i]? = some c ∧ ∀ x ∈ l.take i, x ≠ c := by
  rcases Lib.index_spec l [c] with ⟨h, hn⟩ | ⟨i, h, hi, ho, hn⟩
  · refine Or.inl ⟨h, fun x hx e => ?_⟩
    subst e
    obtain ⟨j, hj, rfl⟩ := List.getElem_of_mem hx
    have := hn j (by omega)
    rw [occAt_one] at this
    simp at this
  · rw [occAt_one] at ho
    have ho' : l[i]? = some c := by simpa using ho
    have hl : i < l.length := by
      rcases Nat.lt_or_ge i l.length with h | h
      · exact h
      · rw [List.getElem?_eq_none h] at ho'; cases ho'
    refine Or.inr ⟨i, h, hl, ho', fun x hx e => ?_⟩
    subst e
    obtain ⟨j, hj, he⟩ := List.getElem_of_mem hx
    rw [List.length_take] at hj
    have := hn j (by omega)
    rw [occAt_one] at this
    rw [List.getElem_take] at he
    rw [List.getElem?_eq_getElem (by omega), he] at this
    simp at this

theorem split_at (l : Bs) (c : UInt8) (i : Nat) (h : l[i]? = some c) : l = l.take i ++ c :: l.drop (i + 1) := by
  have hl : i < l.length := by
    rcases Nat.lt_or_ge i l.length with h' | h'
    · exact h'
    · rw [List.getElem?_eq_none h'] at h; cases h
  rw [List.getElem?_eq_getElem hl] at h
  have h' := Option.some.inj h
  conv => lhs; rw [← List.take_append_drop i l, List.drop_eq_getElem_cons hl, h']

theorem splitK_eq : ∀ (k : Nat) (l : Bs), ((splitD l).length ≤ k + 1 → Lib.splitK [46] 0 k l = splitD l) ∧ (k + 1 < (splitD l).length → (Lib.splitK [46] 0 k l).length = k + 1)
  | 0, l => by
    rcases index_cases l 46 with ⟨_, hn⟩ | ⟨i, _, _, hc, hn⟩
    · rw [splitD_none l hn]; simp [Lib.splitK]
    · refine ⟨fun h => ?_, fun _ => by simp [Lib.splitK]⟩
      have e : splitD l = l.take i :: splitD (l.drop (i + 1)) := by
        conv => lhs; rw [split_at l 46 i hc, splitD_append _ _ hn]
      have := splitD_ne (l.drop (i + 1))
      have : 0 < (splitD (l.drop (i + 1))).length := List.length_pos_iff.2 this
      rw [e, List.length_cons] at h; omega
  | k + 1, l => by
    rcases index_cases l 46 with ⟨hi, hn⟩ | ⟨i, hi, _, hc, hn⟩
    · rw [splitD_none l hn, Lib.splitK, hi]; simp
    · have e : splitD l = l.take i :: splitD (l.drop (i + 1)) := by
        conv => lhs; rw [split_at l 46 i hc, splitD_append _ _ hn]
      have hne : ¬ (Lib.index l [46] == -1) = true := by rw [hi]; simp
      obtain ⟨h1, h2⟩ := splitK_eq k (l.drop (i + 1))
      rw [e, Lib.splitK, if_neg hne, hi]
      simp only [List.length_cons, List.length_nil, Int.toNat_natCast, Nat.add_zero, Nat.zero_add]
      exact ⟨fun h => by rw [h1 (by omega)], fun h => by rw [h2 (by omega)]⟩

/-- What SplitN at most five gives, as far as four pieces go. -/
theorem splitN_five (l : Bs) : (Lib.splitK [46] 0 (min 5 (l.length + 1) - 1) l = splitD l) ∨ ((Lib.splitK [46] 0 (min 5 (l.length + 1) - 1) l).length ≠ 4 ∧ (splitD l).length ≠ 4) := by
  have hl := splitD_length_le l
  obtain ⟨h1, h2⟩ := splitK_eq (min 5 (l.length + 1) - 1) l
  by_cases h : (splitD l).length ≤ (min 5 (l.length + 1) - 1) + 1
  · exact Or.inl (h1 h)
  · refine Or.inr ⟨?_, by omega⟩
    rw [h2 (by omega)]; omega

/-! ## reading -/
def parseD : List Bs → Nat → Option Nat
  | [], a => some a
  | x :: xs, a => match numL x 255 with
    | none => none
    | some n => parseD xs (256 * a + n)
def parseL (l : Bs) : Option Nat := if (splitD l).length = 4 then parseD (splitD l) 0 else none

theorem parseD_append : ∀ (xs ys : List Bs) (a : Nat), parseD (xs ++ ys) a = (parseD xs a).bind (parseD ys)
  | [], _, _ => rfl
  | x :: xs, ys, a => by
    simp only [List.cons_append, parseD]
    cases numL x 255 with
    | none => rfl
    | some n => exact parseD_append xs ys _

theorem parseD_bad {xs : List Bs} {x : Bs} (hx : x ∈ xs) (h : numL x 255 = none) : ∀ a, parseD xs a = none := by
  intro a
  obtain ⟨s, t, rfl⟩ := List.append_of_mem hx
  rw [parseD_append]
  cases parseD s a with
  | none => rfl
  | some n => simp [parseD, h]

theorem parseL_bad {l : Bs} {x : Bs} (hx : x ∈ splitD l) (h : numL x 255 = none) : parseL l = none := by
  unfold parseL; split
  · exact parseD_bad hx h 0
  · rfl
theorem parseL_many {l : Bs} (h : (splitD l).length ≠ 4) : parseL l = none := by unfold parseL; rw [if_neg h]

theorem parseD_lt : ∀ (xs : List Bs) (a b : Nat), parseD xs a = some b → b < (a + 1) * 256 ^ xs.length ∧ a * 256 ^ xs.length ≤ b
  | [], a, b, h => by cases h; simp
  | x :: xs, a, b, h => by
    simp only [parseD] at h
    cases hn : numL x 255 with
    | none => rw [hn] at h; cases h
    | some n =>
      rw [hn] at h
      have := parseD_lt xs _ _ h
      have hle := numL_le hn
      rw [List.length_cons, Nat.pow_succ]
      generalize 256 ^ xs.length = p at *
      have e1 : (256 * a + n + 1) * p ≤ (a + 1) * (p * 256) := by
        calc (256 * a + n + 1) * p ≤ (256 * a + 256) * p := Nat.mul_le_mul_right _ (by omega)
          _ = (a + 1) * (p * 256) := by rw [Nat.mul_comm p 256, ← Nat.mul_assoc]; congr 1; omega
      have e2 : a * (p * 256) ≤ (256 * a + n) * p := by
        calc a * (p * 256) = 256 * a * p := by rw [Nat.mul_comm p 256, ← Nat.mul_assoc, Nat.mul_comm a 256]
          _ ≤ (256 * a + n) * p := Nat.mul_le_mul_right _ (by omega)
      omega

theorem parseL_lt {l : Bs} {n : Nat} (h : parseL l = some n) : n ≤ 4294967295 := by
  unfold parseL at h
  split at h
  · rename_i h4
    have := (parseD_lt _ _ _ h).1
    rw [h4] at this
    omega
  · cases h

theorem isD_ne46 {c : UInt8} (h : isD c = true) : c ≠ 46 := fun e => by subst e; simp [isD] at h
theorem isD_ne47 {c : UInt8} (h : isD c = true) : c ≠ 47 := fun e => by subst e; simp [isD] at h
theorem dig_mem (n : Nat) : ∀ c ∈ dig n, isD c = true := fun c hc => List.all_eq_true.1 (dig_spec n).1 c hc
theorem dig_no46 (n : Nat) : ∀ c ∈ dig n, c ≠ 46 := fun c hc => isD_ne46 (dig_mem n c hc)
theorem dig_no47 (n : Nat) : ∀ c ∈ dig n, c ≠ 47 := fun c hc => isD_ne47 (dig_mem n c hc)

def dotted (a b c d : Nat) : Bs := dig a ++ 46 :: (dig b ++ 46 :: (dig c ++ 46 :: dig d))
theorem splitD_dotted (a b c d : Nat) : splitD (dotted a b c d) = [dig a, dig b, dig c, dig d] := by
  unfold dotted
  rw [splitD_append _ _ (dig_no46 a), splitD_append _ _ (dig_no46 b), splitD_append _ _ (dig_no46 c), splitD_none _ (dig_no46 d)]
theorem parseL_dotted {a b c d : Nat} (ha : a ≤ 255) (hb : b ≤ 255) (hc : c ≤ 255) (hd : d ≤ 255) : parseL (dotted a b c d) = some (256 * (256 * (256 * a + b) + c) + d) := by
  unfold parseL
  rw [splitD_dotted, if_pos (by simp)]
  simp [parseD, numL_dig ha, numL_dig hb, numL_dig hc, numL_dig hd]

theorem fmtL_dotted (a : Int) : fmtL a = dotted (oct a 0) (oct a 1) (oct a 2) (oct a 3) := rfl

theorem oct_join (n : Nat) (h : n ≤ 4294967295) : 256 * (256 * (256 * (oct n 0) + oct n 1) + oct n 2) + oct n 3 = n := by
  unfold oct
  simp only [Int.toNat_natCast, Nat.reduceSub, Nat.reducePow, Nat.div_one]
  omega

theorem parse_fmt {a : Int} (h : validB a = true) : parseL (fmtL a) = some a.toNat := by
  obtain ⟨h0, h1⟩ := validB_true.1 h
  obtain ⟨n, rfl⟩ := Int.eq_ofNat_of_zero_le h0
  rw [fmtL_dotted, parseL_dotted (by have := oct_lt n 0; omega) (by have := oct_lt n 1; omega) (by have := oct_lt n 2; omega) (by have := oct_lt n 3; omega), oct_join n (by omega)]
  simp

theorem fmtL_inj {a b : Int} (ha : validB a = true) (hb : validB b = true) (h : fmtL a = fmtL b) : a = b := by
  have h1 := parse_fmt ha
  rw [h, parse_fmt hb] at h1
  have := Option.some.inj h1
  have := validB_true.1 ha; have := validB_true.1 hb
  omega

theorem fmtL_no47 (a : Int) : ∀ c ∈ fmtL a, c ≠ 47 := by
  intro c hc
  simp only [fmtL, List.mem_append, List.mem_cons] at hc
  rcases hc with h | rfl | h | rfl | h | rfl | h
  all_goals first | exact dig_no47 _ _ h | decide

theorem fmtL_length (a : Int) : (fmtL a).length ≤ 15 := by
  have := dig_length (n := oct a 0) (by have := oct_lt a 0; omega)
  have := dig_length (n := oct a 1) (by have := oct_lt a 1; omega)
  have := dig_length (n := oct a 2) (by have := oct_lt a 2; omega)
  have := dig_length (n := oct a 3) (by have := oct_lt a 3; omega)
  simp [fmtL]; omega

/-! ## prefixes -/
def pw (b : Int) : Nat := 2 ^ (32 - b).toNat
theorem pw_pos (b : Int) : 1 ≤ pw b := Nat.one_le_two_pow
def validP (a b : Int) : Bool := validB a && decide (0 ≤ b ∧ b ≤ 32) && decide (a % (pw b : Int) = 0)
def containsP (a b x : Int) : Bool := validP a b && validB x && decide (x / (pw b : Int) = a / (pw b : Int))
def lastP (a b : Int) : Int := if validP a b then a + (pw b : Int) - 1 else 0
def fmtP (a b : Int) : Bs := if validP a b then fmtL a ++ 47 :: dig b.toNat else []
def parseP (l : Bs) : Option (Nat × Nat) :=
  if (Lib.cut l [47]).2.2 then
    match parseL (Lib.cut l [47]).1, numL (Lib.cut l [47]).2.1 32 with
    | some a, some b => if validP a b then some (a, b) else none
    | _, _ => none
  else none

theorem validP_true {a b : Int} : validP a b = true ↔ (0 ≤ a ∧ a ≤ 4294967295) ∧ (0 ≤ b ∧ b ≤ 32) ∧ a % (pw b : Int) = 0 := by
  simp [validP, validB, and_assoc]

theorem cut_at (l r : Bs) (c : UInt8) (h : ∀ x ∈ l, x ≠ c) : Lib.cut (l ++ c :: r) [c] = (l, r, true) := by
  have hi : Lib.index (l ++ c :: r) [c] = l.length := by
    apply Lib.index_first (by simp)
    · rw [occAt_one]; simp
    · intro j hj
      rw [occAt_one, List.getElem?_append_left hj, List.getElem?_eq_getElem hj]
      have := h _ (List.getElem_mem hj)
      simpa using this
  unfold Lib.cut
  rw [if_pos (by rw [hi]; omega), hi]
  simp
theorem cut_none (l : Bs) (c : UInt8) (h : ∀ x ∈ l, x ≠ c) : Lib.cut l [c] = (l, [], false) := by
  unfold Lib.cut
  rcases index_cases l c with ⟨hi, _⟩ | ⟨i, _, hl, hc, _⟩
  · rw [if_neg (by rw [hi]; omega)]
  · exact absurd rfl (h c (List.mem_of_getElem? hc))

theorem parse_fmtP {a b : Int} (h : validP a b = true) : parseP (fmtP a b) = some (a.toNat, b.toNat) := by
  obtain ⟨h1, h2, h3⟩ := validP_true.1 h
  have hv : validB a = true := validB_true.2 h1
  unfold fmtP parseP
  rw [if_pos h, cut_at _ _ 47 (fmtL_no47 a)]
  simp only [if_true, parse_fmt hv, numL_dig (show b.toNat ≤ 32 by omega)]
  rw [if_pos]
  rw [Int.toNat_of_nonneg h1.1, Int.toNat_of_nonneg h2.1]; exact h

theorem fmtP_inj {a b c d : Int} (h : validP a b = true) (h' : validP c d = true) (e : fmtP a b = fmtP c d) : a = c ∧ b = d := by
  have h1 := parse_fmtP h
  rw [e, parse_fmtP h'] at h1
  have := Option.some.inj h1
  have := validP_true.1 h; have := validP_true.1 h'
  simp only [Prod.mk.injEq] at *
  omega

/-! ## the law's own small functions -/
def pickI (c n : Int) : Int := (if c < 0 then -(c + 1) else c) % n
theorem pickI_lo (c n : Int) (h : 1 ≤ n) : 0 ≤ pickI c n := by unfold pickI; split <;> exact Int.emod_nonneg _ (by omega)
theorem pickI_hi (c n : Int) (h : 1 ≤ n) : pickI c n < n := by unfold pickI; split <;> exact Int.emod_lt_of_pos _ (by omega)
def netB (b : Int) : Int := pickI b 33
def netA (a b : Int) : Int := pickI a 4294967296 - pickI a 4294967296 % (pw (netB b) : Int)

def pwr (k : Nat) : Nat := 2 ^ k
theorem pwr_succ (k : Nat) : pwr (k + 1) = 2 * pwr k := by unfold pwr; rw [Nat.pow_succ, Nat.mul_comm]
theorem pwr_le (k : Nat) (h : k ≤ 32) : pwr k ≤ 4294967296 := Nat.pow_le_pow_right (by omega : 0 < 2) h
theorem pwr_pw (m : Nat) (h : m ≤ 32) : pwr (32 - m) = pw (m : Int) := by unfold pwr pw; congr 1; omega

/-! ## the last bits -/
theorem pw_dvd (b : Int) (h0 : 0 ≤ b) (h1 : b ≤ 32) : (4294967296 : Int) % (pw b : Int) = 0 := by
  obtain ⟨n, rfl⟩ := Int.eq_ofNat_of_zero_le h0
  have : ∀ n : Nat, n ≤ 32 → (4294967296 : Int) % (pw n : Int) = 0 := by decide
  exact this n (by omega)
theorem pw_le (b : Int) (h0 : 0 ≤ b) (h1 : b ≤ 32) : pw b ≤ 4294967296 := by
  obtain ⟨n, rfl⟩ := Int.eq_ofNat_of_zero_le h0
  have : ∀ n : Nat, n ≤ 32 → pw n ≤ 4294967296 := by decide
  exact this n (by omega)
theorem pw_succ (b : Int) (h0 : 0 ≤ b) (h1 : b < 32) : pw b = 2 * pw (b + 1) := by
  unfold pw
  rw [show (32 - b).toNat = (32 - (b + 1)).toNat + 1 by omega, Nat.pow_succ, Nat.mul_comm]

end Go.Proofs.YtgajoiijebbagaaGreatDoor.Pa

/-! PLAIN MATHEMATICS OF ADDRESSES, THIRD PART: the state of a reader that goes through a dotted form byte by byte. No program in sight. Conditions: none. -/
namespace Go.Proofs.YtgajoiijebbagaaGreatDoor.Pa

def parV (l : Bs) : Int := match parseL l with | some n => n | none => 0
def parOk (l : Bs) : Bool := (parseL l).isSome
theorem par_none {l : Bs} (h : parseL l = none) : parV l = 0 ∧ errB (parOk l) = 30 := by simp [parV, parOk, h, errB]
theorem par_some {l : Bs} {n : Nat} (h : parseL l = some n) : parV l = n ∧ errB (parOk l) = 0 := by simp [parV, parOk, h, errB]

def PRel (l : Bs) (k m f A : Nat) : Prop :=
  ∃ done : List Bs, done.length = m ∧ parseD done 0 = some A ∧ f ≤ k ∧ ((k ≤ l.length ∧ splitD l = done ++ glue ((l.drop f).take (k - f)) (splitD (l.drop k))) ∨ (k = l.length + 1 ∧ splitD l = done))

theorem PRel.start (l : Bs) : PRel l 0 0 0 0 :=
  ⟨[], rfl, rfl, Nat.le_refl _, Or.inl ⟨Nat.zero_le _, by simp [glue_nil _ (splitD_ne l)]⟩⟩

theorem PRel.other {l : Bs} {k m f A : Nat} (h : PRel l k m f A) (hk : k < l.length) (hc : l[k] ≠ 46) : PRel l (k + 1) m f A := by
  obtain ⟨done, h1, h2, h3, h4⟩ := h
  refine ⟨done, h1, h2, by omega, Or.inl ⟨by omega, ?_⟩⟩
  rcases h4 with ⟨_, h4⟩ | ⟨h4, _⟩
  · rw [h4, List.drop_eq_getElem_cons hk, splitD_other _ _ _ hc]
    congr 2
    rw [show k + 1 - f = (k - f) + 1 by omega, List.take_succ_eq_append_getElem (by rw [List.length_drop]; omega), List.getElem_drop]
    simp only [show f + (k - f) = k by omega]
  · omega

/-- The piece that ends at k. -/
def piece (l : Bs) (f k : Nat) : Bs := (l.drop f).take (k - f)

theorem PRel.cut {l : Bs} {k m f A : Nat} (h : PRel l k m f A) (hk : k ≤ l.length) (hc : ∀ h : k < l.length, l[k] = 46) :
    ∃ done rest : List Bs, done.length = m ∧ parseD done 0 = some A ∧ f ≤ k ∧ splitD l = done ++ piece l f k :: rest ∧ ((k < l.length ∧ rest = splitD (l.drop (k + 1))) ∨ (k = l.length ∧ rest = [])) := by
  obtain ⟨done, h1, h2, h3, h4⟩ := h
  rcases h4 with ⟨_, h4⟩ | ⟨h4, _⟩
  · by_cases hlt : k < l.length
    · refine ⟨done, splitD (l.drop (k + 1)), h1, h2, h3, ?_, Or.inl ⟨hlt, rfl⟩⟩
      rw [h4, List.drop_eq_getElem_cons hlt, hc hlt, splitD_dot]; rfl
    · obtain rfl : k = l.length := by omega
      refine ⟨done, [], h1, h2, h3, ?_, Or.inr ⟨rfl, rfl⟩⟩
      rw [h4, List.drop_length, splitD_nil]; rfl
  · omega

theorem PRel.bad {l : Bs} {k m f A : Nat} (h : PRel l k m f A) (hk : k ≤ l.length) (hc : ∀ h : k < l.length, l[k] = 46) (hn : numL (piece l f k) 255 = none) : parseL l = none := by
  obtain ⟨done, rest, _, _, _, e, _⟩ := h.cut hk hc
  exact parseL_bad (x := piece l f k) (by rw [e]; simp) hn
theorem PRel.four {l : Bs} {k m f A : Nat} (h : PRel l k m f A) (hk : k ≤ l.length) (hc : ∀ h : k < l.length, l[k] = 46) (hm : m = 4) : parseL l = none := by
  obtain ⟨done, rest, h1, _, _, e, _⟩ := h.cut hk hc
  refine parseL_many ?_
  rw [e]; simp; omega
theorem PRel.next {l : Bs} {k m f A n : Nat} (h : PRel l k m f A) (hk : k ≤ l.length) (hc : ∀ h : k < l.length, l[k] = 46) (hn : numL (piece l f k) 255 = some n) : PRel l (k + 1) (m + 1) (k + 1) (256 * A + n) := by
  obtain ⟨done, rest, h1, h2, h3, e, hr⟩ := h.cut hk hc
  refine ⟨done ++ [piece l f k], by simp [h1], ?_, Nat.le_refl _, ?_⟩
  · rw [parseD_append, h2]; simp [parseD, hn]
  · rcases hr with ⟨hlt, hr⟩ | ⟨hlt, hr⟩
    · refine Or.inl ⟨by omega, ?_⟩
      rw [e, hr]
      simp [glue_nil _ (splitD_ne _)]
    · refine Or.inr ⟨by omega, ?_⟩
      rw [e, hr]
theorem PRel.done {l : Bs} {m f A : Nat} (h : PRel l (l.length + 1) m f A) : parseL l = if m = 4 then some A else none := by
  obtain ⟨done, h1, h2, h3, h4⟩ := h
  rcases h4 with ⟨h4, _⟩ | ⟨_, h4⟩
  · omega
  · unfold parseL; rw [h4, h1, h2]
theorem PRel.bound {l : Bs} {k m f A : Nat} (h : PRel l k m f A) (hm : m ≤ 4) : A < 4294967296 := by
  obtain ⟨done, h1, h2, _⟩ := h
  have := (parseD_lt _ _ _ h2).1
  have hp : 256 ^ done.length ≤ 256 ^ 4 := Nat.pow_le_pow_right (by omega) (by omega)
  omega
theorem PRel.from_le {l : Bs} {k m f A : Nat} (h : PRel l k m f A) : f ≤ k := by
  obtain ⟨_, _, _, h3, _⟩ := h; exact h3

/-- Four pieces, as a loop over them goes. -/
theorem parseD_take (xs : List Bs) (k : Nat) (hk : k < xs.length) : parseD (xs.take (k + 1)) 0 = (parseD (xs.take k) 0).bind fun a => (numL xs[k] 255).map fun n => 256 * a + n := by
  rw [List.take_succ_eq_append_getElem hk, parseD_append]
  cases parseD (xs.take k) 0 with
  | none => rfl
  | some a => simp only [Option.bind_some, parseD]; cases numL xs[k] 255 <;> rfl

def ppA (l : Bs) : Int := match parseP l with | some x => x.1 | none => 0
def ppB (l : Bs) : Int := match parseP l with | some x => x.2 | none => 0
def ppOk (l : Bs) : Bool := (parseP l).isSome
theorem pp_none {l : Bs} (h : parseP l = none) : ppA l = 0 ∧ ppB l = 0 ∧ errB (ppOk l) = 30 := by simp [ppA, ppB, ppOk, h, errB]
theorem pp_some {l : Bs} {a b : Nat} (h : parseP l = some (a, b)) : ppA l = a ∧ ppB l = b ∧ errB (ppOk l) = 0 := by simp [ppA, ppB, ppOk, h, errB]

end Go.Proofs.YtgajoiijebbagaaGreatDoor.Pa

/-! PLAIN MATHEMATICS OF SCRIPTS: what chapter 27's functions compute, as Lean functions on lists of bytes, and the laws on them. No program in sight. Conditions: none. -/
namespace Go.Proofs.YtgajoiijebbagaaGreatDoor.Pa

/-! ## splitting at a byte -/
def splitC (c : UInt8) : Bs → List Bs
  | [] => [[]]
  | x :: r => if x = c then [] :: splitC c r else glue [x] (splitC c r)

theorem splitC_ne (c : UInt8) : ∀ l : Bs, splitC c l ≠ []
  | [] => by simp [splitC]
  | x :: r => by unfold splitC; split; · simp
                 · exact glue_ne _ _

theorem splitC_none (c : UInt8) : ∀ l : Bs, (∀ x ∈ l, x ≠ c) → splitC c l = [l]
  | [], _ => rfl
  | x :: r, h => by
    rw [splitC, if_neg (h x (by simp)), splitC_none c r (fun y hy => h y (by simp [hy]))]; rfl

theorem splitC_append (c : UInt8) : ∀ (l r : Bs), (∀ x ∈ l, x ≠ c) → splitC c (l ++ c :: r) = l :: splitC c r
  | [], r, _ => by simp [splitC]
  | x :: l, r, h => by
    rw [List.cons_append, splitC, if_neg (h x (by simp)), splitC_append c l r (fun y hy => h y (by simp [hy]))]; rfl

theorem join_cons2 (x y : Bs) (r : List Bs) (c : UInt8) : Lib.join (x :: y :: r) [c] = x ++ c :: Lib.join (y :: r) [c] := by
  rw [Lib.join_cons, Lib.join_cons]; simp [Lib.joinTail]

theorem splitC_join (c : UInt8) : ∀ (ws : List Bs), ws ≠ [] → (∀ w ∈ ws, ∀ x ∈ w, x ≠ c) → splitC c (Lib.join ws [c]) = ws
  | [], h, _ => absurd rfl h
  | [w], _, h => by rw [Lib.join_one]; exact splitC_none c w (h w (by simp))
  | w :: v :: r, _, h => by
    rw [join_cons2, splitC_append c w _ (h w (by simp)), splitC_join c (v :: r) (by simp) (fun u hu => h u (by simp only [List.mem_cons] at hu ⊢; exact Or.inr hu))]

theorem splitD_eq : ∀ l : Bs, splitD l = splitC 46 l
  | [] => rfl
  | x :: r => by
    by_cases h : x = 46
    · subst h; have := splitD_dot r []; rw [glue_nil _ (splitD_ne _)] at this; rw [this, splitD_eq r]; simp [splitC]
    · have := splitD_other x r [] h; rw [glue_nil _ (splitD_ne _)] at this; rw [this, splitD_eq r, splitC, if_neg h]; rfl

/-! ## hexadecimal -/
def hexd (n : Nat) : UInt8 := if n < 10 then UInt8.ofNat (48 + n) else UInt8.ofNat (87 + n)
def hex2 (c : UInt8) : Bs := [hexd (c.toNat / 16), hexd (c.toNat % 16)]
def hexs (l : Bs) : Bs := l.flatMap hex2
def hexL (l : Bs) : Bs := if l = [] then [45] else hexs l

theorem hexs_length (l : Bs) : (hexs l).length = 2 * l.length := by
  induction l with
  | nil => rfl
  | cons c r ih =>
    show (hex2 c ++ hexs r).length = _
    rw [List.length_append, ih]; simp [hex2]; omega

def unhexd (c : UInt8) : Option Nat := if 48 ≤ c.toNat ∧ c.toNat ≤ 57 then some (c.toNat - 48) else if 97 ≤ c.toNat ∧ c.toNat ≤ 102 then some (c.toNat - 87) else none
def unhexs : Bs → Option Bs
  | a :: b :: r => match unhexd a, unhexd b, unhexs r with
    | some x, some y, some t => some (UInt8.ofNat (16 * x + y) :: t)
    | _, _, _ => none
  | [] => some []
  | [_] => none
def unhexL (l : Bs) : Option Bs := if l = [45] then some [] else if l = [] then none else unhexs l

theorem unhexd_hexd {n : Nat} (h : n < 16) : unhexd (hexd n) = some n := by
  have : ∀ m : Fin 16, unhexd (hexd m.val) = some m.val := by decide
  exact this ⟨n, h⟩
theorem hexd_ne {n : Nat} (h : n < 16) : hexd n ≠ 45 ∧ hexd n ≠ 32 ∧ hexd n ≠ 10 := by
  have : ∀ m : Fin 16, hexd m.val ≠ 45 ∧ hexd m.val ≠ 32 ∧ hexd m.val ≠ 10 := by decide
  exact this ⟨n, h⟩

theorem unhexs_hexs : ∀ l : Bs, unhexs (hexs l) = some l
  | [] => rfl
  | c :: r => by
    show unhexs (hexd (c.toNat / 16) :: hexd (c.toNat % 16) :: hexs r) = _
    have hc := c.toNat_lt
    rw [unhexs, unhexd_hexd (by omega), unhexd_hexd (by omega), unhexs_hexs r]
    show some (UInt8.ofNat (16 * (c.toNat / 16) + c.toNat % 16) :: r) = _
    rw [show 16 * (c.toNat / 16) + c.toNat % 16 = c.toNat by omega, UInt8.ofNat_toNat]

theorem hexs_mem (l : Bs) : ∀ x ∈ hexs l, x ≠ 45 ∧ x ≠ 32 ∧ x ≠ 10 := by
  intro x hx
  obtain ⟨c, _, hc⟩ := List.mem_flatMap.1 hx
  have := c.toNat_lt
  simp only [hex2, List.mem_cons, List.not_mem_nil, or_false] at hc
  rcases hc with rfl | rfl
  · exact hexd_ne (by omega)
  · exact hexd_ne (by omega)

theorem hexs_nil {l : Bs} (h : hexs l = []) : l = [] := by
  have := hexs_length l; rw [h] at this
  exact List.length_eq_zero_iff.1 (by simp at this; omega)

theorem unhexL_hexL (l : Bs) : unhexL (hexL l) = some l := by
  unfold hexL
  by_cases h : l = []
  · subst h; rfl
  · rw [if_neg h, unhexL, if_neg, if_neg (fun e => h (hexs_nil e)), unhexs_hexs]
    intro e
    have := hexs_mem l 45 (by rw [e]; simp)
    exact this.1 rfl

theorem hexL_mem (l : Bs) : ∀ x ∈ hexL l, x ≠ 32 ∧ x ≠ 10 := by
  intro x hx
  unfold hexL at hx
  split at hx
  · simp at hx; subst hx; decide
  · exact (hexs_mem l x hx).2

theorem hexL_length (l : Bs) : (hexL l).length ≤ 2 * l.length + 1 := by
  unfold hexL; split
  · simp
  · rw [hexs_length]; omega

/-! ## names -/
def inLab (c : UInt8) : Bool := decide (97 ≤ c.toNat ∧ c.toNat ≤ 122) || decide (48 ≤ c.toNat ∧ c.toNat ≤ 57) || decide (c = 45)
def labOk (l : Bs) : Bool := decide (1 ≤ l.length ∧ l.length ≤ 20) && decide (l.head? ≠ some 45) && decide (l.getLast? ≠ some 45) && l.all inLab
def nameOk (s : Bs) : Bool := decide (s.length ≤ 60) && (splitC 46 s).all labOk

theorem mem_splitC (c : UInt8) : ∀ (l : Bs) (x : UInt8), x ∈ l → x ≠ c → ∃ w ∈ splitC c l, x ∈ w
  | [], x, h, _ => by simp at h
  | y :: r, x, h, hx => by
    rw [splitC]
    by_cases hy : y = c
    · rw [if_pos hy]
      have : x ∈ r := by
        rcases List.mem_cons.1 h with rfl | h
        · exact absurd hy hx
        · exact h
      obtain ⟨w, h1, h2⟩ := mem_splitC c r x this hx
      exact ⟨w, by simp [h1], h2⟩
    · rw [if_neg hy]
      cases hs : splitC c r with
      | nil => exact absurd hs (splitC_ne c r)
      | cons v vs =>
        rcases List.mem_cons.1 h with rfl | h
        · exact ⟨x :: v, by simp [glue], by simp⟩
        · obtain ⟨w, h1, h2⟩ := mem_splitC c r x h hx
          rw [hs] at h1
          rcases List.mem_cons.1 h1 with rfl | h1
          · exact ⟨y :: w, by simp [glue], by simp [h2]⟩
          · exact ⟨w, by simp [glue, h1], h2⟩

theorem name_mem {s : Bs} (h : nameOk s = true) : ∀ x ∈ s, x ≠ 32 ∧ x ≠ 10 := by
  intro x hx
  by_cases h46 : x = 46
  · subst h46; decide
  · obtain ⟨w, h1, h2⟩ := mem_splitC 46 s x hx h46
    simp only [nameOk, Bool.and_eq_true, List.all_eq_true] at h
    have := h.2 w h1
    simp only [labOk, Bool.and_eq_true, List.all_eq_true] at this
    have := this.2 x h2
    constructor <;> (rintro rfl; simp [inLab] at this)

/-! ## calls and actions -/
structure Cl where
  kind : Int
  sock : Int
  addr : Int
  port : Int
  n : Int
  s : ByteArray
  here : Int
  mss : Int
  deriving DecidableEq

structure Ac where
  kind : Int
  host : Int
  call : Cl
  n : Int
  fates : List Int
  s : ByteArray
  deriving DecidableEq

def c0 : Cl := ⟨0, 0, 0, 0, 0, ⟨#[]⟩, 0, 0⟩
def a0 : Ac := ⟨0, 0, c0, 0, [], ⟨#[]⟩⟩

def inR (n lo hi : Int) : Bool := decide (lo ≤ n ∧ n ≤ hi)
theorem inR_true {n lo hi : Int} : inR n lo hi = true ↔ lo ≤ n ∧ n ≤ hi := by simp [inR]
theorem inR_false {n lo hi : Int} : inR n lo hi = false ↔ ¬ (lo ≤ n ∧ n ≤ hi) := by simp [inR]

/-- c with the fields alone that its kind uses. -/
def needC (c : Cl) : Cl :=
  if c.kind = 1 then { c0 with kind := c.kind, n := c.n }
  else if c.kind = 2 then { c0 with kind := c.kind, sock := c.sock, port := c.port }
  else if c.kind = 3 ∨ c.kind = 7 then { c0 with kind := c.kind, sock := c.sock, n := c.n }
  else if c.kind = 4 then { c0 with kind := c.kind, sock := c.sock, addr := c.addr, port := c.port }
  else if c.kind = 6 then { c0 with kind := c.kind, sock := c.sock, s := c.s }
  else if c.kind = 10 then { c0 with kind := c.kind, sock := c.sock, addr := c.addr, port := c.port, s := c.s }
  else if c.kind = 12 then { c0 with kind := c.kind, s := c.s }
  else if c.kind = 13 then { c0 with kind := c.kind, addr := c.addr }
  else { c0 with kind := c.kind, sock := c.sock }

def okC (c : Cl) : Bool :=
  inR c.kind 1 13 && decide (c = needC c) && inR c.sock 0 1000000 && inR c.n 0 1000000 && inR c.port 0 65535 && validB c.addr &&
  (if c.kind = 1 then decide (c.n = 6 ∨ c.n = 17) else if c.kind = 12 then nameOk c.s.data.toList else decide (c.s.size ≤ 2100))

def okF (l : List Int) : Bool := decide (l.length ≤ 64) && l.all fun f => inR f 0 24

/-- The fields alone that its kind uses. -/
def needA (a : Ac) : Ac :=
  if a.kind = 1 then { a0 with kind := a.kind, host := a.host, call := a.call }
  else if a.kind = 2 then { a0 with kind := a.kind, n := a.n }
  else if a.kind = 3 then { a0 with kind := a.kind, fates := a.fates }
  else { a0 with kind := a.kind, n := a.n, s := a.s }

def okA (a : Ac) : Bool :=
  inR a.kind 1 4 && decide (a = needA a) &&
  (if a.kind = 1 then inR a.host 0 7 && okC a.call else if a.kind = 2 then inR a.n 1 500 else if a.kind = 3 then okF a.fates else inR a.n 0 7 && decide (a.s.size ≤ 1100))

def num (n : Int) : Bs := dig n.toNat
abbrev w_call : Bs := [99, 97, 108, 108]
abbrev w_tick : Bs := [116, 105, 99, 107]
abbrev w_fates : Bs := [102, 97, 116, 101, 115]
abbrev w_frame : Bs := [102, 114, 97, 109, 101]
abbrev w_socket : Bs := [115, 111, 99, 107, 101, 116]
abbrev w_bind : Bs := [98, 105, 110, 100]
abbrev w_listen : Bs := [108, 105, 115, 116, 101, 110]
abbrev w_connect : Bs := [99, 111, 110, 110, 101, 99, 116]
abbrev w_accept : Bs := [97, 99, 99, 101, 112, 116]
abbrev w_send : Bs := [115, 101, 110, 100]
abbrev w_recv : Bs := [114, 101, 99, 118]
abbrev w_shut : Bs := [115, 104, 117, 116]
abbrev w_close : Bs := [99, 108, 111, 115, 101]
abbrev w_sendto : Bs := [115, 101, 110, 100, 116, 111]
abbrev w_recvfrom : Bs := [114, 101, 99, 118, 102, 114, 111, 109]
abbrev w_name : Bs := [110, 97, 109, 101]
abbrev w_ping : Bs := [112, 105, 110, 103]
abbrev w_tcp : Bs := [116, 99, 112]
abbrev w_udp : Bs := [117, 100, 112]

def callW (c : Cl) : List Bs :=
  if c.kind = 1 then [w_socket, if c.n = 6 then w_tcp else w_udp]
  else if c.kind = 2 then [w_bind, num c.sock, num c.port]
  else if c.kind = 3 then [w_listen, num c.sock, num c.n]
  else if c.kind = 4 then [w_connect, num c.sock, fmtS c.addr, num c.port]
  else if c.kind = 5 then [w_accept, num c.sock]
  else if c.kind = 6 then [w_send, num c.sock, hexL c.s.data.toList]
  else if c.kind = 7 then [w_recv, num c.sock, num c.n]
  else if c.kind = 8 then [w_shut, num c.sock]
  else if c.kind = 9 then [w_close, num c.sock]
  else if c.kind = 10 then [w_sendto, num c.sock, fmtS c.addr, num c.port, hexL c.s.data.toList]
  else if c.kind = 11 then [w_recvfrom, num c.sock]
  else if c.kind = 12 then [w_name, c.s.data.toList]
  else [w_ping, fmtS c.addr]

def lineW (a : Ac) : List Bs :=
  if a.kind = 1 then w_call :: num a.host :: callW a.call
  else if a.kind = 2 then [w_tick, num a.n]
  else if a.kind = 3 then w_fates :: a.fates.map num
  else [w_frame, num a.n, hexL a.s.data.toList]

def lineA (a : Ac) : Bs := Lib.join (lineW a) [32]
def textA (l : List Ac) : Bs := l.flatMap fun a => lineA a ++ [10]
def printA (l : List Ac) : Option Bs := if l.length ≤ 100 ∧ l.all okA = true then some (textA l) else none

end Go.Proofs.YtgajoiijebbagaaGreatDoor.Pa

/-! PLAIN MATHEMATICS OF SCRIPTS, READING: the readers of a line (the program's and the document's), and that each gives back every valid action from its line. Conditions: none. -/
namespace Go.Proofs.YtgajoiijebbagaaGreatDoor.Pa

/-! ## the program's reader -/
abbrev Rd (α : Type) := Option (α × List Bs)
def rdWord : List Bs → Rd Bs
  | [] => none
  | w :: r => some (w, r)
def rdNum (ws : List Bs) : Rd Int := (rdWord ws).bind fun (w, r) => match Lib.atoiAll w with
  | .ok v => some (v, r)
  | _ => none
def rdBytes (ws : List Bs) : Rd Bs := (rdWord ws).bind fun (w, r) => (unhexL w).map fun b => (b, r)
def rdAddr (ws : List Bs) : Rd Int := (rdWord ws).bind fun (w, r) => (parseL w).map fun b => ((b : Int), r)

def rdProto (c : Cl) (ws : List Bs) : Rd Cl := (rdWord ws).map fun (w, r) => ({ c with n := if w = w_tcp then 6 else if w = w_udp then 17 else c.n }, r)
def rdSock (c : Cl) (ws : List Bs) : Rd Cl := (rdNum ws).map fun (n, r) => ({ c with sock := n }, r)
def rdBind (c : Cl) (ws : List Bs) : Rd Cl := (rdNum ws).bind fun (n, r) => (rdNum r).map fun (m, r) => ({ c with sock := n, port := m }, r)
def rdCount (c : Cl) (ws : List Bs) : Rd Cl := (rdNum ws).bind fun (n, r) => (rdNum r).map fun (m, r) => ({ c with sock := n, n := m }, r)
def rdData (c : Cl) (ws : List Bs) : Rd Cl := (rdNum ws).bind fun (n, r) => (rdBytes r).map fun (m, r) => ({ c with sock := n, s := ⟨m.toArray⟩ }, r)
def rdName (c : Cl) (ws : List Bs) : Rd Cl := (rdWord ws).map fun (w, r) => ({ c with s := ⟨w.toArray⟩ }, r)
def rdAddress (c : Cl) (ws : List Bs) : Rd Cl := (rdAddr ws).map fun (n, r) => ({ c with addr := n }, r)
def rdPeer (c : Cl) (ws : List Bs) : Rd Cl := (rdSock c ws).bind fun (c, r) => (rdAddress c r).bind fun (c, r) => (rdNum r).map fun (n, r) => ({ c with port := n }, r)
def rdGram (c : Cl) (ws : List Bs) : Rd Cl := (rdPeer c ws).bind fun (c, r) => (rdBytes r).map fun (m, r) => ({ c with s := ⟨m.toArray⟩ }, r)

/-- What a verb stands for: its kind and its reader. -/
def verbs : List (Bs × Int × (Cl → List Bs → Rd Cl)) :=
  [(w_socket, 1, rdProto), (w_bind, 2, rdBind), (w_listen, 3, rdCount), (w_connect, 4, rdPeer), (w_accept, 5, rdSock), (w_shut, 8, rdSock), (w_close, 9, rdSock),
   (w_recvfrom, 11, rdSock), (w_send, 6, rdData), (w_recv, 7, rdCount), (w_sendto, 10, rdGram), (w_name, 12, rdName), (w_ping, 13, rdAddress)]

def rdCall (ws : List Bs) : Rd Cl := (rdWord ws).bind fun (w, r) => match verbs.find? (fun v => v.1 == w) with
  | some (_, k, f) => f { c0 with kind := k } r
  | none => none

def rdFates : List Bs → Option (List Int)
  | [] => some []
  | w :: r => match Lib.atoiAll w with
    | .ok v => (rdFates r).map fun l => v :: l
    | _ => none

def rawP (t : Bs) : Option Ac :=
  if 8000 < t.length then none
  else (rdWord (splitC 32 t)).bind fun (w, r) =>
    if w = w_call then (rdNum r).bind fun (h, r) => (rdCall r).map fun (c, _) => { a0 with kind := 1, host := h, call := c }
    else if w = w_tick then (rdNum r).map fun (n, _) => { a0 with kind := 2, n := n }
    else if w = w_fates then (rdFates r).map fun l => { a0 with kind := 3, fates := l }
    else if w = w_frame then (rdNum r).bind fun (n, r) => (rdBytes r).map fun (s, _) => { a0 with kind := 4, n := n, s := ⟨s.toArray⟩ }
    else some a0

def parseLine (t : Bs) : Option Ac := (rawP t).filter fun a => okA a && decide (lineA a = t)

/-! ## what a valid action's words are -/
theorem decFrom_val : ∀ (l : Bs) (a : Nat), l.all isD = true → Lib.decFrom a l = some (l.foldl (fun n c => 10 * n + (c.toNat - 48)) a)
  | [], a, _ => rfl
  | c :: r, a, h => by
    simp only [List.all_cons, Bool.and_eq_true] at h
    have hc := (isD_iff c).1 h.1
    rw [Lib.decFrom, Lib.digitVal, if_pos hc]
    show Lib.decFrom (a * 10 + (c.toNat - 48)) r = _
    rw [decFrom_val r _ h.2, List.foldl_cons, Nat.mul_comm]

theorem nDigits_le : ∀ (k u : Nat), 1 ≤ k → u < 10 ^ k → Lib.nDigits u ≤ k
  | 0, _, h, _ => by omega
  | k + 1, u, _, h => by
    by_cases hu : u < 10
    · rw [Lib.nDigits_small hu]; omega
    · rw [Lib.nDigits_big hu]
      have hk : 1 ≤ k := by
        rcases Nat.eq_zero_or_pos k with rfl | h'
        · simp at h; omega
        · exact h'
      have := nDigits_le k (u / 10) hk (by rw [Nat.pow_succ] at h; omega)
      omega

theorem dig_len7 {n : Nat} (h : n ≤ 1000000) : (dig n).length ≤ 7 := by
  unfold dig; rw [Lib.decDigits_length]; exact nDigits_le 7 n (by omega) (by omega)

theorem atoi_dig {n : Nat} (h : n ≤ 1000000) : Lib.atoiAll (dig n) = .ok (n : Int) := by
  rw [Lib.atoiAll_short _ (by have := dig_len7 h; omega)]
  obtain ⟨h1, h2, h3, _⟩ := dig_spec n
  have hf := decFrom_val (dig n) 0 h1
  rw [show (dig n).foldl (fun n c => 10 * n + (c.toNat - 48)) 0 = n from h2] at hf
  cases hd : dig n with
  | nil => exact absurd hd h3
  | cons c r =>
    rw [hd] at hf h1
    simp only [List.all_cons, Bool.and_eq_true] at h1
    have hc := (isD_iff c).1 h1.1
    have h45 : (c == 45) = false := by rw [beq_eq_false_iff_ne]; rintro rfl; simp at hc
    have h43 : (c == 43) = false := by rw [beq_eq_false_iff_ne]; rintro rfl; simp at hc
    simp [Lib.atoi, h45, h43, Lib.decNat, hf, Lib.NumEnd.ofOption]

theorem num_ok {n : Int} (h0 : 0 ≤ n) (h1 : n ≤ 1000000) (r : List Bs) : rdNum (num n :: r) = some (n, r) := by
  show (match Lib.atoiAll (dig n.toNat) with | .ok v => some (v, r) | _ => none) = _
  rw [atoi_dig (by omega)]
  show some ((n.toNat : Int), r) = _
  rw [Int.toNat_of_nonneg h0]

theorem bytes_ok (l : Bs) (r : List Bs) : rdBytes (hexL l :: r) = some (l, r) := by
  show (unhexL (hexL l)).map _ = _
  rw [unhexL_hexL]; rfl

theorem fmtS_ok {a : Int} (h : validB a = true) : fmtS a = fmtL a := by unfold fmtS; rw [if_pos h]

theorem addr_ok {a : Int} (h : validB a = true) (r : List Bs) : rdAddr (fmtS a :: r) = some (a, r) := by
  simp only [rdAddr, rdWord, Option.bind_some]
  rw [fmtS_ok h, parse_fmt h]
  show some ((a.toNat : Int), r) = _
  rw [Int.toNat_of_nonneg (validB_true.1 h).1]

theorem str_back (s : ByteArray) : (⟨s.data.toList.toArray⟩ : ByteArray) = s := by cases s; simp

theorem dig_no {n : Nat} {c : UInt8} (h : isD c = false) : ∀ x ∈ dig n, x ≠ c := fun x hx e => by
  have := dig_mem n x hx; rw [e, h] at this; cases this

theorem fmtL_mem (a : Int) : ∀ x ∈ fmtL a, x ≠ 32 ∧ x ≠ 10 := by
  intro x hx
  have hd : ∀ n, x ∈ dig n → x ≠ 32 ∧ x ≠ 10 := fun n h => ⟨dig_no (by decide) x h, dig_no (by decide) x h⟩
  simp only [fmtL, List.mem_append, List.mem_cons] at hx
  rcases hx with h | rfl | h | rfl | h | rfl | h
  · exact hd _ h
  · decide
  · exact hd _ h
  · decide
  · exact hd _ h
  · decide
  · exact hd _ h

theorem okC_parts {c : Cl} (h : okC c = true) : (1 ≤ c.kind ∧ c.kind ≤ 13) ∧ c = needC c ∧ (0 ≤ c.sock ∧ c.sock ≤ 1000000) ∧ (0 ≤ c.n ∧ c.n ≤ 1000000) ∧ (0 ≤ c.port ∧ c.port ≤ 65535) ∧ validB c.addr = true ∧
    (if c.kind = 1 then decide (c.n = 6 ∨ c.n = 17) else if c.kind = 12 then nameOk c.s.data.toList else decide (c.s.size ≤ 2100)) = true := by
  simp only [okC, Bool.and_eq_true, inR_true, decide_eq_true_eq] at h
  obtain ⟨⟨⟨⟨⟨⟨h1, h2⟩, h3⟩, h4⟩, h5⟩, h6⟩, h7⟩ := h
  exact ⟨h1, h2, h3, h4, h5, h6, h7⟩

theorem kind_cases {k : Int} (h : 1 ≤ k ∧ k ≤ 13) : k = 1 ∨ k = 2 ∨ k = 3 ∨ k = 4 ∨ k = 5 ∨ k = 6 ∨ k = 7 ∨ k = 8 ∨ k = 9 ∨ k = 10 ∨ k = 11 ∨ k = 12 ∨ k = 13 := by omega

theorem callW_mem {c : Cl} (h : okC c = true) : ∀ w ∈ callW c, ∀ x ∈ w, x ≠ 32 ∧ x ≠ 10 := by
  obtain ⟨hk, -, -, -, -, ha, hs⟩ := okC_parts h
  have hd : ∀ n, ∀ x ∈ num n, x ≠ 32 ∧ x ≠ 10 := fun n x h => ⟨dig_no (by decide) x h, dig_no (by decide) x h⟩
  have hf : ∀ x ∈ fmtS c.addr, x ≠ 32 ∧ x ≠ 10 := by rw [fmtS_ok ha]; exact fmtL_mem _
  have hh := hexL_mem c.s.data.toList
  obtain ⟨k, so, ad, po, n, s, he, ms⟩ := c
  simp only at hk hs hf hh ha
  rcases kind_cases hk with rfl | rfl | rfl | rfl | rfl | rfl | rfl | rfl | rfl | rfl | rfl | rfl | rfl
  case inr.inr.inr.inr.inr.inr.inr.inr.inr.inr.inr.inl =>
    have hn := name_mem (s := s.data.toList) (by simpa using hs)
    intro w hw
    simp [callW] at hw
    rcases hw with rfl | rfl
    · decide
    · exact hn
  all_goals
    intro w hw
    simp [callW] at hw
    try split at hw
    all_goals
      rcases hw with rfl | rfl | rfl | rfl | rfl | rfl <;> first | decide | exact hd _ | exact hf | exact hh

theorem lineW_mem {a : Ac} (h : okA a = true) : ∀ w ∈ lineW a, ∀ x ∈ w, x ≠ 32 ∧ x ≠ 10 := by
  have hd : ∀ n, ∀ x ∈ num n, x ≠ 32 ∧ x ≠ 10 := fun n x h => ⟨dig_no (by decide) x h, dig_no (by decide) x h⟩
  simp only [okA, Bool.and_eq_true, inR_true, decide_eq_true_eq] at h
  obtain ⟨⟨hk, _⟩, hs⟩ := h
  intro w hw
  unfold lineW at hw
  by_cases h1 : a.kind = 1
  · rw [if_pos h1] at hw hs
    simp only [Bool.and_eq_true] at hs
    rcases List.mem_cons.1 hw with rfl | hw
    · decide
    rcases List.mem_cons.1 hw with rfl | hw
    · exact hd _
    · exact callW_mem hs.2 w hw
  rw [if_neg h1] at hw
  by_cases h2 : a.kind = 2
  · rw [if_pos h2] at hw
    simp only [List.mem_cons, List.not_mem_nil, or_false] at hw
    rcases hw with rfl | rfl
    · decide
    · exact hd _
  rw [if_neg h2] at hw
  by_cases h3 : a.kind = 3
  · rw [if_pos h3] at hw
    rcases List.mem_cons.1 hw with rfl | hw
    · decide
    obtain ⟨n, _, rfl⟩ := List.mem_map.1 hw
    exact hd _
  rw [if_neg h3] at hw
  simp only [List.mem_cons, List.not_mem_nil, or_false] at hw
  rcases hw with rfl | rfl | rfl
  · decide
  · exact hd _
  · exact hexL_mem _

theorem lineW_ne (a : Ac) : lineW a ≠ [] := by
  unfold lineW
  repeat' split
  all_goals simp

theorem line_split {a : Ac} (h : okA a = true) : splitC 32 (lineA a) = lineW a := splitC_join 32 _ (lineW_ne a) fun w hw x hx => (lineW_mem h w hw x hx).1

/-! ## lengths -/
theorem num_len {n : Int} (h : n ≤ 1000000) : (num n).length ≤ 7 := dig_len7 (by omega)
theorem fmtS_len (a : Int) : (fmtS a).length ≤ 15 := by unfold fmtS; split
                                                        · exact fmtL_length a
                                                        · simp
def wl (ws : List Bs) : Nat := (ws.map fun w => w.length + 1).sum
theorem join_len_le : ∀ ws : List Bs, (Lib.join ws [32]).length ≤ wl ws
  | [] => by simp [Lib.join_nil, wl]
  | [w] => by rw [Lib.join_one]; simp [wl]
  | w :: v :: r => by
    rw [join_cons2, List.length_append, List.length_cons]
    have := join_len_le (v :: r)
    simp only [wl, List.map_cons, List.sum_cons] at this ⊢
    omega

theorem callW_len {c : Cl} (h : okC c = true) : wl (callW c) ≤ 4300 := by
  obtain ⟨hk, hn, h3, h4, h5, ha, hs⟩ := okC_parts h
  have n1 := num_len h3.2
  have n2 := num_len h4.2
  have n3 := num_len (n := c.port) (by omega)
  have n4 := fmtS_len c.addr
  have n5 := hexL_length c.s.data.toList
  have hz : c.s.data.toList.length ≤ 2100 := by
    show c.s.size ≤ 2100
    by_cases k1 : c.kind = 1
    · rw [hn]; simp only [needC, k1, c0, if_true]; decide
    · rw [if_neg k1] at hs
      by_cases k2 : c.kind = 12
      · rw [if_pos k2] at hs
        simp only [nameOk, Bool.and_eq_true, decide_eq_true_eq] at hs
        have : c.s.size ≤ 60 := hs.1
        omega
      · rw [if_neg k2] at hs; simpa using hs
  obtain ⟨k, so, ad, po, n, s, he, ms⟩ := c
  simp only [Array.length_toList] at hk n1 n2 n3 n4 n5 hz
  have hz' : s.size ≤ 2100 := hz
  rcases kind_cases hk with rfl | rfl | rfl | rfl | rfl | rfl | rfl | rfl | rfl | rfl | rfl | rfl | rfl
  · by_cases h6 : n = 6
    · simp [callW, wl, h6]
    · simp [callW, wl, h6]
  all_goals
    simp [callW, wl]
    omega

theorem fates_len : ∀ l : List Int, (∀ f ∈ l, f ≤ 24) → wl (l.map num) ≤ 8 * l.length
  | [], _ => by simp [wl]
  | f :: r, h => by
    have h1 := num_len (n := f) (by have := h f (by simp); omega)
    have h2 := fates_len r (fun g hg => h g (by simp [hg]))
    simp only [wl, List.map_cons, List.sum_cons, List.length_cons] at h2 ⊢
    omega

theorem line_len {a : Ac} (h : okA a = true) : (lineA a).length ≤ 8000 := by
  refine Nat.le_trans (join_len_le _) ?_
  simp only [okA, Bool.and_eq_true, inR_true, decide_eq_true_eq] at h
  obtain ⟨⟨hk, _⟩, hs⟩ := h
  unfold lineW
  by_cases h1 : a.kind = 1
  · rw [if_pos h1] at hs ⊢
    simp only [Bool.and_eq_true, inR_true] at hs
    have h1 := callW_len hs.2
    have h2 := num_len (n := a.host) (by omega)
    simp only [wl, List.map_cons, List.sum_cons, List.length_cons, List.length_nil] at h1 ⊢
    omega
  rw [if_neg h1] at hs ⊢
  by_cases h2 : a.kind = 2
  · rw [if_pos h2] at hs ⊢
    simp only [inR_true] at hs
    have h2 := num_len (n := a.n) (by omega)
    simp only [wl, List.map_cons, List.map_nil, List.sum_cons, List.sum_nil, List.length_cons, List.length_nil] at h1 ⊢
    omega
  rw [if_neg h2] at hs ⊢
  by_cases h3 : a.kind = 3
  · rw [if_pos h3] at hs ⊢
    simp only [okF, Bool.and_eq_true, decide_eq_true_eq, List.all_eq_true, inR_true] at hs
    have := fates_len a.fates (fun f hf => (hs.2 f hf).2)
    simp only [wl, List.map_cons, List.sum_cons, List.length_cons, List.length_nil] at this ⊢
    omega
  rw [if_neg h3] at hs ⊢
  simp only [Bool.and_eq_true, inR_true, decide_eq_true_eq] at hs
  have h2 := num_len (n := a.n) (by omega)
  have h3 := hexL_length a.s.data.toList
  have h4 : a.s.data.toList.length ≤ 1100 := hs.2
  simp only [wl, List.map_cons, List.map_nil, List.sum_cons, List.sum_nil, List.length_cons, List.length_nil] at h1 ⊢
  omega

end Go.Proofs.YtgajoiijebbagaaGreatDoor.Pa

/-! PLAIN MATHEMATICS OF SCRIPTS, READING BACK: each reader gives back every valid action from its line; so both read the same, and the text of a script determines it. Conditions: none. -/
namespace Go.Proofs.YtgajoiijebbagaaGreatDoor.Pa

theorem needC_eq {k so ad po n he ms : Int} {s : ByteArray} (h : (⟨k, so, ad, po, n, s, he, ms⟩ : Cl) = needC ⟨k, so, ad, po, n, s, he, ms⟩) : he = 0 ∧ ms = 0 ∧
    (k ∈ [1, 12, 13] → so = 0) ∧ (k ∉ [4, 10, 13] → ad = 0) ∧ (k ∉ [2, 4, 10] → po = 0) ∧ (k ∉ [1, 3, 7] → n = 0) ∧ (k ∉ [6, 10, 12] → s = ⟨#[]⟩) := by
  by_cases k1 : k = 1
  · subst k1; simp [needC, c0] at h ⊢; simp [h]
  by_cases k2 : k = 2
  · subst k2; simp [needC, c0] at h ⊢; simp [h]
  by_cases k3 : k = 3
  · subst k3; simp [needC, c0] at h ⊢; simp [h]
  by_cases k4 : k = 4
  · subst k4; simp [needC, c0] at h ⊢; simp [h]
  by_cases k6 : k = 6
  · subst k6; simp [needC, c0] at h ⊢; simp [h]
  by_cases k7 : k = 7
  · subst k7; simp [needC, c0] at h ⊢; simp [h]
  by_cases k10 : k = 10
  · subst k10; simp [needC, c0] at h ⊢; simp [h]
  by_cases k12 : k = 12
  · subst k12; simp [needC, c0] at h ⊢; simp [h]
  by_cases k13 : k = 13
  · subst k13; simp [needC, c0] at h ⊢; simp [h]
  simp [needC, c0, k1, k2, k3, k4, k6, k7, k10, k12, k13] at h ⊢; simp [h]

theorem rdCall_ok {c : Cl} (h : okC c = true) : rdCall (callW c) = some (c, []) := by
  obtain ⟨hk, hn, hs, hnn, hp, ha, ho⟩ := okC_parts h
  obtain ⟨k, so, ad, po, n, s, he, ms⟩ := c
  simp only at hk hs hnn hp ha ho
  obtain ⟨rfl, rfl, f1, f2, f3, f4, f5⟩ := needC_eq hn
  have e1 := fun r => num_ok hs.1 hs.2 r
  have e2 := fun r => num_ok hnn.1 hnn.2 r
  have e3 := fun r => num_ok hp.1 (by omega : po ≤ 1000000) r
  have e4 := fun r => addr_ok ha r
  have e5 := fun r => bytes_ok s.data.toList r
  rcases kind_cases hk with rfl | rfl | rfl | rfl | rfl | rfl | rfl | rfl | rfl | rfl | rfl | rfl | rfl
  · have hc : callW ⟨1, so, ad, po, n, s, 0, 0⟩ = [w_socket, if n = 6 then w_tcp else w_udp] := by simp [callW]
    have f1 := f1 (by decide)
    have f2 := f2 (by decide)
    have f3 := f3 (by decide)
    have f5 := f5 (by decide)
    subst f1 f2 f3 f5
    rw [hc]
    simp at ho
    rcases ho with rfl | rfl <;> rfl
  · have hc : callW ⟨2, so, ad, po, n, s, 0, 0⟩ = [w_bind, num so, num po] := by simp [callW]
    have f2 := f2 (by decide)
    have f4 := f4 (by decide)
    have f5 := f5 (by decide)
    subst f2 f4 f5
    rw [hc]
    show rdBind { c0 with kind := 2 } _ = _
    simp only [rdBind, e1, e3, Option.bind_some, Option.map_some]; rfl
  · have hc : callW ⟨3, so, ad, po, n, s, 0, 0⟩ = [w_listen, num so, num n] := by simp [callW]
    have f2 := f2 (by decide)
    have f3 := f3 (by decide)
    have f5 := f5 (by decide)
    subst f2 f3 f5
    rw [hc]
    show rdCount { c0 with kind := 3 } _ = _
    simp only [rdCount, e1, e2, Option.bind_some, Option.map_some]; rfl
  · have hc : callW ⟨4, so, ad, po, n, s, 0, 0⟩ = [w_connect, num so, fmtS ad, num po] := by simp [callW]
    have f4 := f4 (by decide)
    have f5 := f5 (by decide)
    subst f4 f5
    rw [hc]
    show rdPeer { c0 with kind := 4 } _ = _
    simp only [rdPeer, rdSock, rdAddress, e1, e3, e4, Option.bind_some, Option.map_some]; rfl
  · have hc : callW ⟨5, so, ad, po, n, s, 0, 0⟩ = [w_accept, num so] := by simp [callW]
    have f2 := f2 (by decide)
    have f3 := f3 (by decide)
    have f4 := f4 (by decide)
    have f5 := f5 (by decide)
    subst f2 f3 f4 f5
    rw [hc]
    show rdSock { c0 with kind := 5 } _ = _
    simp only [rdSock, e1, Option.map_some]; rfl
  · have hc : callW ⟨6, so, ad, po, n, s, 0, 0⟩ = [w_send, num so, hexL s.data.toList] := by simp [callW]
    have f2 := f2 (by decide)
    have f3 := f3 (by decide)
    have f4 := f4 (by decide)
    subst f2 f3 f4
    rw [hc]
    show rdData { c0 with kind := 6 } _ = _
    simp only [rdData, e1, e5, Option.bind_some, Option.map_some, str_back]; rfl
  · have hc : callW ⟨7, so, ad, po, n, s, 0, 0⟩ = [w_recv, num so, num n] := by simp [callW]
    have f2 := f2 (by decide)
    have f3 := f3 (by decide)
    have f5 := f5 (by decide)
    subst f2 f3 f5
    rw [hc]
    show rdCount { c0 with kind := 7 } _ = _
    simp only [rdCount, e1, e2, Option.bind_some, Option.map_some]; rfl
  · have hc : callW ⟨8, so, ad, po, n, s, 0, 0⟩ = [w_shut, num so] := by simp [callW]
    have f2 := f2 (by decide)
    have f3 := f3 (by decide)
    have f4 := f4 (by decide)
    have f5 := f5 (by decide)
    subst f2 f3 f4 f5
    rw [hc]
    show rdSock { c0 with kind := 8 } _ = _
    simp only [rdSock, e1, Option.map_some]; rfl
  · have hc : callW ⟨9, so, ad, po, n, s, 0, 0⟩ = [w_close, num so] := by simp [callW]
    have f2 := f2 (by decide)
    have f3 := f3 (by decide)
    have f4 := f4 (by decide)
    have f5 := f5 (by decide)
    subst f2 f3 f4 f5
    rw [hc]
    show rdSock { c0 with kind := 9 } _ = _
    simp only [rdSock, e1, Option.map_some]; rfl
  · have hc : callW ⟨10, so, ad, po, n, s, 0, 0⟩ = [w_sendto, num so, fmtS ad, num po, hexL s.data.toList] := by simp [callW]
    have f4 := f4 (by decide)
    subst f4
    rw [hc]
    show rdGram { c0 with kind := 10 } _ = _
    simp only [rdGram, rdPeer, rdSock, rdAddress, e1, e3, e4, e5, Option.bind_some, Option.map_some, str_back]; rfl
  · have hc : callW ⟨11, so, ad, po, n, s, 0, 0⟩ = [w_recvfrom, num so] := by simp [callW]
    have f2 := f2 (by decide)
    have f3 := f3 (by decide)
    have f4 := f4 (by decide)
    have f5 := f5 (by decide)
    subst f2 f3 f4 f5
    rw [hc]
    show rdSock { c0 with kind := 11 } _ = _
    simp only [rdSock, e1, Option.map_some]; rfl
  · have hc : callW ⟨12, so, ad, po, n, s, 0, 0⟩ = [w_name, s.data.toList] := by simp [callW]
    have f1 := f1 (by decide)
    have f2 := f2 (by decide)
    have f3 := f3 (by decide)
    have f4 := f4 (by decide)
    subst f1 f2 f3 f4
    rw [hc]
    show rdName { c0 with kind := 12 } [s.data.toList] = _
    simp only [rdName, rdWord, Option.map_some, str_back]; rfl
  · have hc : callW ⟨13, so, ad, po, n, s, 0, 0⟩ = [w_ping, fmtS ad] := by simp [callW]
    have f1 := f1 (by decide)
    have f3 := f3 (by decide)
    have f4 := f4 (by decide)
    have f5 := f5 (by decide)
    subst f1 f3 f4 f5
    rw [hc]
    show rdAddress { c0 with kind := 13 } _ = _
    simp only [rdAddress, e4, Option.map_some]; rfl

theorem rdFates_ok : ∀ l : List Int, (∀ f ∈ l, 0 ≤ f ∧ f ≤ 24) → rdFates (l.map num) = some l
  | [], _ => rfl
  | f :: r, h => by
    have hf := h f (by simp)
    rw [List.map_cons, rdFates, show num f = dig f.toNat from rfl, atoi_dig (by omega)]
    simp only [rdFates_ok r (fun g hg => h g (by simp [hg])), Option.map_some, Int.toNat_of_nonneg hf.1]

theorem okA_parts {a : Ac} (h : okA a = true) : (1 ≤ a.kind ∧ a.kind ≤ 4) ∧ a = needA a ∧
    (if a.kind = 1 then inR a.host 0 7 && okC a.call else if a.kind = 2 then inR a.n 1 500 else if a.kind = 3 then okF a.fates else inR a.n 0 7 && decide (a.s.size ≤ 1100)) = true := by
  simp only [okA, Bool.and_eq_true, inR_true, decide_eq_true_eq] at h
  exact ⟨h.1.1, h.1.2, h.2⟩

theorem rawP_ok {a : Ac} (h : okA a = true) : rawP (lineA a) = some a := by
  have hl := line_len h
  have hs := line_split h
  obtain ⟨hk, hn, ho⟩ := okA_parts h
  unfold rawP
  rw [if_neg (by omega), hs]
  obtain ⟨k, hh, c, n, fs, s⟩ := a
  simp only at hk ho
  rcases (by omega : k = 1 ∨ k = 2 ∨ k = 3 ∨ k = 4) with rfl | rfl | rfl | rfl
  · simp [needA, a0] at hn
    obtain ⟨rfl, rfl, rfl⟩ := hn
    simp [inR_true] at ho
    have hw : lineW ⟨1, hh, c, 0, [], ⟨#[]⟩⟩ = w_call :: num hh :: callW c := by simp [lineW]
    rw [hw]
    simp only [rdWord, Option.bind_some, if_true, num_ok ho.1.1 (by omega : hh ≤ 1000000), rdCall_ok ho.2, Option.map_some]; rfl
  · simp [needA, a0] at hn
    obtain ⟨rfl, rfl, rfl, rfl⟩ := hn
    simp [inR_true] at ho
    have hw : lineW ⟨2, 0, c0, n, [], ⟨#[]⟩⟩ = [w_tick, num n] := by simp [lineW]
    rw [hw]
    simp only [rdWord, Option.bind_some, if_true, num_ok (by omega : 0 ≤ n) (by omega : n ≤ 1000000), Option.map_some]; rfl
  · simp [needA, a0] at hn
    obtain ⟨rfl, rfl, rfl, rfl⟩ := hn
    simp [okF, inR_true] at ho
    have hw : lineW ⟨3, 0, c0, 0, fs, ⟨#[]⟩⟩ = w_fates :: fs.map num := by simp [lineW]
    rw [hw]
    simp only [rdWord, Option.bind_some, if_true, rdFates_ok fs ho.2, Option.map_some]; rfl
  · simp [needA, a0] at hn
    obtain ⟨rfl, rfl, rfl⟩ := hn
    simp [inR_true] at ho
    have hw : lineW ⟨4, 0, c0, n, [], s⟩ = [w_frame, num n, hexL s.data.toList] := by simp [lineW]
    rw [hw]
    simp only [rdWord, Option.bind_some, if_true, num_ok ho.1.1 (by omega : n ≤ 1000000), bytes_ok, Option.map_some, str_back]; rfl

theorem parseLine_some {t : Bs} {a : Ac} : parseLine t = some a ↔ okA a = true ∧ lineA a = t := by
  unfold parseLine
  constructor
  · intro h
    rw [Option.filter_eq_some_iff] at h
    simpa using h.2
  · rintro ⟨h, rfl⟩
    rw [rawP_ok h]
    simp [h]

theorem lineA_inj {a b : Ac} (ha : okA a = true) (hb : okA b = true) (h : lineA a = lineA b) : a = b := by
  have := rawP_ok ha; rw [h, rawP_ok hb] at this; exact (Option.some.inj this).symm

end Go.Proofs.YtgajoiijebbagaaGreatDoor.Pa

/-! PLAIN MATHEMATICS OF SCRIPTS, THE WHOLE TEXT: reading a text line by line, that it gives back every printed script, that it accepts printed scripts alone, and where it stops at a malformed line. Conditions: none. -/
namespace Go.Proofs.YtgajoiijebbagaaGreatDoor.Pa

/-- The lines' reader: what has been read, and the pieces that are left (the last one stands behind the last line feed). -/
def parseK : List Ac → List Bs → Nat ⊕ List Ac
  | acc, [] => .inr acc
  | acc, [t] => if t = [] then .inr acc else .inl acc.length
  | acc, t :: u :: r => match parseLine t with
    | some a => if acc.length = 100 then .inl acc.length else parseK (acc ++ [a]) (u :: r)
    | none => .inl acc.length
def parseT (s : Bs) : Nat ⊕ List Ac := parseK [] (splitC 10 s)

theorem parseK_end (acc : List Ac) : parseK acc (splitC 10 []) = .inr acc := by simp [splitC, parseK]
theorem parseK_open (acc : List Ac) {t : Bs} (h0 : t ≠ []) (h : ∀ x ∈ t, x ≠ 10) : parseK acc (splitC 10 t) = .inl acc.length := by
  rw [splitC_none 10 t h, parseK, if_neg h0]
theorem parseK_line (acc : List Ac) (t r : Bs) (h : ∀ x ∈ t, x ≠ 10) : parseK acc (splitC 10 (t ++ 10 :: r)) =
    match parseLine t with | some a => if acc.length = 100 then .inl acc.length else parseK (acc ++ [a]) (splitC 10 r) | none => .inl acc.length := by
  rw [splitC_append 10 t r h]
  cases hs : splitC 10 r with
  | nil => exact absurd hs (splitC_ne 10 r)
  | cons u v => rw [parseK]
theorem parseK_bad (acc : List Ac) {t : Bs} (r : Bs) (h : ∀ x ∈ t, x ≠ 10) (hn : parseLine t = none) : parseK acc (splitC 10 (t ++ 10 :: r)) = .inl acc.length := by
  rw [parseK_line acc t r h, hn]
theorem parseK_full (acc : List Ac) {t : Bs} (r : Bs) (h : ∀ x ∈ t, x ≠ 10) (hn : acc.length = 100) : parseK acc (splitC 10 (t ++ 10 :: r)) = .inl acc.length := by
  rw [parseK_line acc t r h]; cases parseLine t <;> simp [hn]
theorem parseK_go (acc : List Ac) {t : Bs} {a : Ac} (r : Bs) (h : ∀ x ∈ t, x ≠ 10) (ha : parseLine t = some a) (hn : acc.length ≠ 100) : parseK acc (splitC 10 (t ++ 10 :: r)) = parseK (acc ++ [a]) (splitC 10 r) := by
  rw [parseK_line acc t r h, ha]; simp [hn]

theorem lineA_mem {a : Ac} (h : okA a = true) : ∀ x ∈ lineA a, x ≠ 10 := by
  have hw := lineW_mem h
  unfold lineA
  generalize lineW a = ws at hw
  induction ws with
  | nil => simp [Lib.join_nil]
  | cons w r ih =>
    cases r with
    | nil => rw [Lib.join_one]; exact fun x hx => (hw w (by simp) x hx).2
    | cons v r =>
      rw [join_cons2]
      intro x hx
      rcases List.mem_append.1 hx with hx | hx
      · exact (hw w (by simp) x hx).2
      rcases List.mem_cons.1 hx with rfl | hx
      · decide
      · exact ih (fun u hu => hw u (by simp only [List.mem_cons] at hu ⊢; exact Or.inr hu)) x hx

theorem textA_cons (a : Ac) (l : List Ac) : textA (a :: l) = lineA a ++ 10 :: textA l := by simp [textA]
theorem textA_append (l m : List Ac) : textA (l ++ m) = textA l ++ textA m := by simp [textA]
theorem textA_snoc (l : List Ac) (a : Ac) : textA (l ++ [a]) = textA l ++ lineA a ++ [10] := by simp [textA]

/-- Valid lines ahead are read one by one. -/
theorem parseK_text : ∀ (l acc : List Ac) (r : Bs), (∀ a ∈ l, okA a = true) → acc.length + l.length ≤ 100 → parseK acc (splitC 10 (textA l ++ r)) = parseK (acc ++ l) (splitC 10 r)
  | [], acc, r, _, _ => by simp [textA]
  | a :: l, acc, r, h, hn => by
    have ha := h a (by simp)
    rw [textA_cons, List.append_assoc, List.cons_append, parseK_go acc (textA l ++ r) (lineA_mem ha) (parseLine_some.2 ⟨ha, rfl⟩) (by simp at hn; omega),
      parseK_text l (acc ++ [a]) r (fun b hb => h b (by simp [hb])) (by simp at hn ⊢; omega)]
    simp

theorem parseT_text {l : List Ac} (h : ∀ a ∈ l, okA a = true) (hn : l.length ≤ 100) : parseT (textA l) = .inr l := by
  have := parseK_text l [] [] h (by simpa using hn)
  rw [List.append_nil, List.nil_append, parseK_end] at this
  exact this

/-- A malformed line is reported by its index, whatever follows. -/
theorem parseT_bad {l : List Ac} {t : Bs} (r : Bs) (h : ∀ a ∈ l, okA a = true) (hn : l.length ≤ 100) (ht : ∀ x ∈ t, x ≠ 10) (hb : parseLine t = none) : parseT (textA l ++ (t ++ 10 :: r)) = .inl l.length := by
  have := parseK_text l [] (t ++ 10 :: r) h (by simpa using hn)
  rw [List.nil_append, parseK_bad l r ht hb] at this
  exact this

theorem parseT_open {l : List Ac} {t : Bs} (h : ∀ a ∈ l, okA a = true) (hn : l.length ≤ 100) (h0 : t ≠ []) (ht : ∀ x ∈ t, x ≠ 10) : parseT (textA l ++ t) = .inl l.length := by
  have := parseK_text l [] t h (by simpa using hn)
  rw [List.nil_append, parseK_open l h0 ht] at this
  exact this

/-! ## what is accepted is printed -/
def unl : List Bs → Bs
  | [] => []
  | [t] => t
  | t :: u :: r => t ++ 10 :: unl (u :: r)
theorem unl_glue (x : Bs) : ∀ l : List Bs, l ≠ [] → unl (glue x l) = x ++ unl l
  | [], h => absurd rfl h
  | [t], _ => by simp [glue, unl]
  | t :: u :: r, _ => by simp [glue, unl]
theorem unl_split : ∀ s : Bs, unl (splitC 10 s) = s
  | [] => rfl
  | x :: r => by
    rw [splitC]
    split
    · rename_i h; subst h
      cases hs : splitC 10 r with
      | nil => exact absurd hs (splitC_ne 10 r)
      | cons u v => have := unl_split r; rw [hs] at this; simp [unl, this]
    · rw [unl_glue _ _ (splitC_ne 10 r), unl_split r]; rfl

theorem parseK_inr : ∀ (ps : List Bs) (acc l : List Ac), ps ≠ [] → (∀ a ∈ acc, okA a = true) → acc.length ≤ 100 → parseK acc ps = .inr l → (∀ a ∈ l, okA a = true) ∧ l.length ≤ 100 ∧ textA l = textA acc ++ unl ps
  | [], _, _, h, _, _, _ => absurd rfl h
  | [t], acc, l, _, ha, hn, h => by
    rw [parseK] at h
    split at h
    · rename_i h0; subst h0; cases h; exact ⟨ha, hn, by simp [unl]⟩
    · cases h
  | t :: u :: r, acc, l, _, ha, hn, h => by
    rw [parseK] at h
    split at h
    · rename_i a hp
      split at h
      · cases h
      · rename_i h100
        obtain ⟨h1, h2⟩ := parseLine_some.1 hp
        have := parseK_inr (u :: r) (acc ++ [a]) l (by simp) (fun b hb => by rcases List.mem_append.1 hb with hb | hb; · exact ha b hb
                                                                             · simp at hb; subst hb; exact h1) (by simp; omega) h
        refine ⟨this.1, this.2.1, this.2.2.trans ?_⟩
        rw [textA_snoc, h2]; simp [unl]
    · cases h

theorem parseT_inr {s : Bs} {l : List Ac} (h : parseT s = .inr l) : (∀ a ∈ l, okA a = true) ∧ l.length ≤ 100 ∧ textA l = s := by
  have := parseK_inr (splitC 10 s) [] l (splitC_ne 10 s) (by simp) (by simp) h
  rw [unl_split] at this
  simpa [textA] using this

theorem printA_some {l : List Ac} (h : ∀ a ∈ l, okA a = true) (hn : l.length ≤ 100) : printA l = some (textA l) := by
  unfold printA; rw [if_pos ⟨hn, List.all_eq_true.2 h⟩]

theorem textA_inj : ∀ (l m : List Ac), (∀ a ∈ l, okA a = true) → (∀ a ∈ m, okA a = true) → l.length ≤ 100 → m.length ≤ 100 → textA l = textA m → l = m := by
  intro l m hl hm h1 h2 h
  have := parseT_text hl h1; rw [h, parseT_text hm h2] at this
  exact (Sum.inr.inj this).symm

end Go.Proofs.YtgajoiijebbagaaGreatDoor.Pa

/-! PLAIN FACTS ON THE CHAPTER's EXAMPLES: what the five actions print, and where two texts stop. Conditions: none. -/
namespace Go.Proofs.YtgajoiijebbagaaGreatDoor.Pa

def exL : List Ac := [⟨1, 1, ⟨4, 2, 167772161, 80, 0, ⟨#[]⟩, 0, 0⟩, 0, [], ⟨#[]⟩⟩, ⟨3, 0, ⟨0, 0, 0, 0, 0, ⟨#[]⟩, 0, 0⟩, 0, [0, 1, 5], ⟨#[]⟩⟩, ⟨4, 0, ⟨0, 0, 0, 0, 0, ⟨#[]⟩, 0, 0⟩, 0, [], ⟨#[0, 255]⟩⟩, ⟨1, 0, ⟨6, 1, 0, 0, 0, ⟨#[]⟩, 0, 0⟩, 0, [], ⟨#[]⟩⟩, ⟨2, 0, ⟨0, 0, 0, 0, 0, ⟨#[]⟩, 0, 0⟩, 500, [], ⟨#[]⟩⟩]
def exT : Bs := [99, 97, 108, 108, 32, 49, 32, 99, 111, 110, 110, 101, 99, 116, 32, 50, 32, 49, 48, 46, 48, 46, 48, 46, 49, 32, 56, 48, 10, 102, 97, 116, 101, 115, 32, 48, 32, 49, 32, 53, 10, 102, 114, 97, 109, 101, 32, 48, 32, 48, 48, 102, 102, 10, 99, 97, 108, 108, 32, 48, 32, 115, 101, 110, 100, 32, 49, 32, 45, 10, 116, 105, 99, 107, 32, 53, 48, 48, 10]

theorem d0 : dig 0 = [48] := by rw [dig_small (by decide)]; rfl
theorem d1 : dig 1 = [49] := by rw [dig_small (by decide)]; rfl
theorem d2 : dig 2 = [50] := by rw [dig_small (by decide)]; rfl
theorem d5 : dig 5 = [53] := by rw [dig_small (by decide)]; rfl
theorem d10 : dig 10 = [49, 48] := by rw [dig_big (by decide), show 10 / 10 = 1 from rfl, d1]; rfl
theorem d80 : dig 80 = [56, 48] := by rw [dig_big (by decide), dig_small (by decide)]; rfl
theorem d500 : dig 500 = [53, 48, 48] := by rw [dig_big (by decide), dig_big (by decide), dig_small (by decide)]; rfl

theorem ex_ok : ∀ a ∈ exL, okA a = true := by decide
theorem ex_text : textA exL = exT := by
  have o0 : oct 167772161 0 = 10 := by decide
  have o1 : oct 167772161 1 = 0 := by decide
  have o2 : oct 167772161 2 = 0 := by decide
  have o3 : oct 167772161 3 = 1 := by decide
  have hv : validB 167772161 = true := by decide
  simp [textA, exL, lineA, lineW, callW, num, fmtS, hv, fmtL, o0, o1, o2, o3, d0, d1, d2, d5, d10, d80, d500, hexL, hexs, hex2, hexd, Lib.join_cons, Lib.joinTail, exT]

theorem ex_print : printA exL = some exT := by rw [printA_some ex_ok (by decide), ex_text]
theorem ex_parse : parseT exT = .inr exL := by rw [← ex_text]; exact parseT_text ex_ok (by decide)
theorem ex_a0 : okA a0 = false := by decide
theorem ex_none : printA [a0] = none := by
  unfold printA; rw [if_neg]; rintro ⟨_, h⟩; simp [ex_a0] at h

theorem tick1 : okA ⟨2, 0, ⟨0, 0, 0, 0, 0, ⟨#[]⟩, 0, 0⟩, 1, [], ⟨#[]⟩⟩ = true ∧ lineA ⟨2, 0, ⟨0, 0, 0, 0, 0, ⟨#[]⟩, 0, 0⟩, 1, [], ⟨#[]⟩⟩ = [116, 105, 99, 107, 32, 49] := by
  refine ⟨by decide, ?_⟩
  simp [lineA, lineW, num, d1, Lib.join_cons, Lib.joinTail]
theorem tick01 : parseLine [116, 105, 99, 107, 32, 48, 49] = none := by
  cases h : parseLine [116, 105, 99, 107, 32, 48, 49] with
  | none => rfl
  | some a =>
    obtain ⟨h1, h2⟩ := parseLine_some.1 h
    have hr := rawP_ok h1
    rw [h2] at hr
    have he : rawP [116, 105, 99, 107, 32, 48, 49] = some ⟨2, 0, ⟨0, 0, 0, 0, 0, ⟨#[]⟩, 0, 0⟩, 1, [], ⟨#[]⟩⟩ := by decide +kernel
    rw [he] at hr
    cases hr
    rw [tick1.2] at h2
    exact absurd h2 (by decide)
theorem ex_at : parseT [116, 105, 99, 107, 32, 49, 10, 116, 105, 99, 107, 32, 48, 49, 10] = .inl 1 := by
  have h := parseT_bad (l := [⟨2, 0, ⟨0, 0, 0, 0, 0, ⟨#[]⟩, 0, 0⟩, 1, [], ⟨#[]⟩⟩]) [] (by simpa using tick1.1) (by decide) (t := [116, 105, 99, 107, 32, 48, 49]) (by decide) tick01
  simpa [textA, tick1.2] using h
theorem ex_open : parseT [116, 105, 99, 107, 32, 49] = .inl 0 := parseK_open [] (by simp) (by decide)

end Go.Proofs.YtgajoiijebbagaaGreatDoor.Pa

/-! PLAIN FACTS FOR THE STATEMENT ScriptFieldFormats: the three actions, when they are valid, and their lines. Conditions: the host's number is from 0 to 7. -/
namespace Go.Proofs.YtgajoiijebbagaaGreatDoor.Pa

def pingA (h a : Int) : Ac := ⟨1, h, ⟨13, 0, a, 0, 0, ⟨#[]⟩, 0, 0⟩, 0, [], ⟨#[]⟩⟩
def askA (h : Int) (s : ByteArray) : Ac := ⟨1, h, ⟨12, 0, 0, 0, 0, s, 0, 0⟩, 0, [], ⟨#[]⟩⟩
def sendA (h : Int) (s : ByteArray) : Ac := ⟨1, h, ⟨6, 3, 0, 0, 0, s, 0, 0⟩, 0, [], ⟨#[]⟩⟩

theorem inR_in {n lo hi : Int} (h : lo ≤ n ∧ n ≤ hi) : inR n lo hi = true := inR_true.2 h
theorem ok_ping {h a : Int} (hh : 0 ≤ h ∧ h ≤ 7) : okA (pingA h a) = validB a := by
  have e : inR h 0 7 = true := inR_in hh
  have e1 : okC ⟨13, 0, a, 0, 0, ⟨#[]⟩, 0, 0⟩ = validB a := by simp [okC, needC, c0, inR, ByteArray.size]
  show (true && decide (pingA h a = needA (pingA h a)) && (inR h 0 7 && okC ⟨13, 0, a, 0, 0, ⟨#[]⟩, 0, 0⟩)) = _
  rw [e, e1]; simp [pingA, needA, a0]
theorem ok_ask {h : Int} {s : ByteArray} (hh : 0 ≤ h ∧ h ≤ 7) : okA (askA h s) = nameOk s.data.toList := by
  have e : inR h 0 7 = true := inR_in hh
  have h2 : validB 0 = true := by decide
  have e1 : okC ⟨12, 0, 0, 0, 0, s, 0, 0⟩ = nameOk s.data.toList := by simp [okC, needC, c0, inR, h2]
  show (true && decide (askA h s = needA (askA h s)) && (inR h 0 7 && okC ⟨12, 0, 0, 0, 0, s, 0, 0⟩)) = _
  rw [e, e1]; simp [askA, needA, a0]
theorem ok_send {h : Int} {s : ByteArray} (hh : 0 ≤ h ∧ h ≤ 7) (hs : s.size ≤ 200) : okA (sendA h s) = true := by
  have e : inR h 0 7 = true := inR_in hh
  have h2 : validB 0 = true := by decide
  have h4 : s.size ≤ 2100 := by omega
  have e1 : okC ⟨6, 3, 0, 0, 0, s, 0, 0⟩ = true := by simp [okC, needC, c0, inR, h2, h4]
  show (true && decide (sendA h s = needA (sendA h s)) && (inR h 0 7 && okC ⟨6, 3, 0, 0, 0, s, 0, 0⟩)) = _
  rw [e, e1]; simp [sendA, needA, a0]

theorem dig1c {h : Int} (hh : 0 ≤ h ∧ h ≤ 7) : dig h.toNat = [UInt8.ofNat (48 + h.toNat)] := dig_small (by omega)
theorem line_ping {h a : Int} (hh : 0 ≤ h ∧ h ≤ 7) : lineA (pingA h a) = [99, 97, 108, 108, 32] ++ [UInt8.ofNat (48 + h.toNat)] ++ [32, 112, 105, 110, 103, 32] ++ fmtS a := by
  simp [lineA, lineW, pingA, callW, num, dig1c hh, Lib.join_cons, Lib.joinTail]
theorem line_ask {h : Int} {s : ByteArray} (hh : 0 ≤ h ∧ h ≤ 7) : lineA (askA h s) = [99, 97, 108, 108, 32] ++ [UInt8.ofNat (48 + h.toNat)] ++ [32, 110, 97, 109, 101, 32] ++ s.data.toList := by
  simp [lineA, lineW, askA, callW, num, dig1c hh, Lib.join_cons, Lib.joinTail]
theorem line_send {h : Int} {s : ByteArray} (hh : 0 ≤ h ∧ h ≤ 7) : lineA (sendA h s) = [99, 97, 108, 108, 32] ++ [UInt8.ofNat (48 + h.toNat)] ++ [32, 115, 101, 110, 100, 32, 51, 32] ++ hexL s.data.toList := by
  have d3 : dig 3 = [51] := by rw [dig_small (by decide)]; rfl
  simp [lineA, lineW, sendA, callW, num, dig1c hh, d3, Lib.join_cons, Lib.joinTail]

theorem print_one {x : Ac} (h : okA x = true) : printA [x] = some (lineA x ++ [10]) := by
  rw [printA_some (by simpa using h) (by simp)]; simp [textA]
theorem print_bad {x : Ac} (h : okA x = false) : printA [x] = none := by
  unfold printA; rw [if_neg]; rintro ⟨_, h'⟩; simp [h] at h'

end Go.Proofs.YtgajoiijebbagaaGreatDoor.Pa
