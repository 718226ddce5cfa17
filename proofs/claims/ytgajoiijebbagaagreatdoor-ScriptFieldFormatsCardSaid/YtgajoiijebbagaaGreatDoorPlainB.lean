/-
  PLAIN MATHEMATICS OF ADDRESSES AND PREFIXES, SECOND PART: splitting at dots, reading the dotted form, prefixes as intervals. No program in sight. Conditions: none.
-/
import Derived.Test.YtgajoiijebbagaaGreatDoorPlainA
namespace Go.Proofs.YtgajoiijebbagaaGreatDoor.Pa

/-! ## splitting at dots -/
def glue (cur : Bs) : List Bs → List Bs
  | [] => [cur]
  | x :: xs => (cur ++ x) :: xs
def splitD : Bs → List Bs
  | [] => [[]]
  | c :: r => if c = 46 then [] :: splitD r else glue [c] (splitD r)

theorem glue_nil (l : List Bs) (h : l ≠ []) : glue [] l = l := by cases l with | nil => exact absurd rfl h | cons x xs => rfl
theorem glue_glue (a b : Bs) (l : List Bs) : glue a (glue b l) = glue (a ++ b) l := by cases l <;> simp [glue]
theorem glue_ne (a : Bs) (l : List Bs) : glue a l ≠ [] := by cases l <;> simp [glue]
theorem splitD_ne : ∀ l : Bs, splitD l ≠ []
  | [] => by simp [splitD]
  | c :: r => by unfold splitD; split; simp; exact glue_ne _ _
theorem glue_length (a : Bs) (l : List Bs) (h : l ≠ []) : (glue a l).length = l.length := by cases l with | nil => exact absurd rfl h | cons x xs => rfl
theorem splitD_length_le : ∀ l : Bs, (splitD l).length ≤ l.length + 1
  | [] => by simp [splitD]
  | c :: r => by
    have := splitD_length_le r
    unfold splitD; split
    · simp; omega
    · rw [glue_length _ _ (splitD_ne r)]; simp; omega
theorem splitD_dot (r : Bs) (cur : Bs) : glue cur (splitD (46 :: r)) = cur :: splitD r := by simp [splitD, glue]
theorem splitD_other (c : UInt8) (r : Bs) (cur : Bs) (h : c ≠ 46) : glue cur (splitD (c :: r)) = glue (cur ++ [c]) (splitD r) := by
  rw [splitD, if_neg h, glue_glue]
theorem splitD_nil (cur : Bs) : glue cur (splitD []) = [cur] := by simp [splitD, glue]

theorem splitD_none : ∀ l : Bs, (∀ c ∈ l, c ≠ 46) → splitD l = [l]
  | [], _ => rfl
  | c :: r, h => by
    rw [splitD, if_neg (h c (by simp)), splitD_none r (fun x hx => h x (by simp [hx]))]; rfl
theorem splitD_append : ∀ (l r : Bs), (∀ c ∈ l, c ≠ 46) → splitD (l ++ 46 :: r) = l :: splitD r
  | [], r, _ => by simp [splitD]
  | c :: t, r, h => by
    rw [List.cons_append, splitD, if_neg (h c (by simp)), splitD_append t r (fun x hx => h x (by simp [hx]))]; rfl

theorem occAt_one (l : Bs) (c : UInt8) (i : Nat) : Lib.occAt l [c] i = (l[i]? == some c) := by
  unfold Lib.occAt
  rw [← List.head?_drop]
  cases h : l.drop i with
  | nil => simp
  | cons x xs =>
    have e : ([c].isPrefixOf (x :: xs)) = (c == x) := by simp [List.isPrefixOf]
    rw [e]
    show (c == x) = (some x == some c)
    rw [Bool.eq_iff_iff, beq_iff_eq, beq_iff_eq]
    exact ⟨fun h => by rw [h], fun h => (Option.some.inj h).symm⟩

theorem index_cases (l : Bs) (c : UInt8) : (Lib.index l [c] = -1 ∧ ∀ x ∈ l, x ≠ c) ∨ ∃ i : Nat, Lib.index l [c] = i ∧ i < l.length ∧ l[i]? = some c ∧ ∀ x ∈ l.take i, x ≠ c := by
  rcases Lib.index_spec l [c] with ⟨h, hn⟩ | ⟨i, h, hi, ho, hn⟩
  · refine Or.inl ⟨h, fun x hx e => ?_⟩
    subst e
    obtain ⟨j, hj, rfl⟩ := List.getElem_of_mem hx
    have := hn j (by omega)
    rw [occAt_one] at this
    simp at this
  · rw [occAt_one] at ho
    have ho' : l[i]? = some c := by simpa using ho
    have hl : i < l.length := by
      rcases Nat.lt_or_ge i l.length with h | h
      · exact h
      · rw [List.getElem?_eq_none h] at ho'; cases ho'
    refine Or.inr ⟨i, h, hl, ho', fun x hx e => ?_⟩
    subst e
    obtain ⟨j, hj, he⟩ := List.getElem_of_mem hx
    rw [List.length_take] at hj
    have := hn j (by omega)
    rw [occAt_one] at this
    rw [List.getElem_take] at he
    rw [List.getElem?_eq_getElem (by omega), he] at this
    simp at this

theorem split_at (l : Bs) (c : UInt8) (i : Nat) (h : l[i]? = some c) : l = l.take i ++ c :: l.drop (i + 1) := by
  have hl : i < l.length := by
    rcases Nat.lt_or_ge i l.length with h' | h'
    · exact h'
    · rw [List.getElem?_eq_none h'] at h; cases h
  rw [List.getElem?_eq_getElem hl] at h
  have h' := Option.some.inj h
  conv => lhs; rw [← List.take_append_drop i l, List.drop_eq_getElem_cons hl, h']

theorem splitK_eq : ∀ (k : Nat) (l : Bs), ((splitD l).length ≤ k + 1 → Lib.splitK [46] 0 k l = splitD l) ∧ (k + 1 < (splitD l).length → (Lib.splitK [46] 0 k l).length = k + 1)
  | 0, l => by
    rcases index_cases l 46 with ⟨_, hn⟩ | ⟨i, _, _, hc, hn⟩
    · rw [splitD_none l hn]; simp [Lib.splitK]
    · refine ⟨fun h => ?_, fun _ => by simp [Lib.splitK]⟩
      have e : splitD l = l.take i :: splitD (l.drop (i + 1)) := by
        conv => lhs; rw [split_at l 46 i hc, splitD_append _ _ hn]
      have := splitD_ne (l.drop (i + 1))
      have : 0 < (splitD (l.drop (i + 1))).length := List.length_pos_iff.2 this
      rw [e, List.length_cons] at h; omega
  | k + 1, l => by
    rcases index_cases l 46 with ⟨hi, hn⟩ | ⟨i, hi, _, hc, hn⟩
    · rw [splitD_none l hn, Lib.splitK, hi]; simp
    · have e : splitD l = l.take i :: splitD (l.drop (i + 1)) := by
        conv => lhs; rw [split_at l 46 i hc, splitD_append _ _ hn]
      have hne : ¬ (Lib.index l [46] == -1) = true := by rw [hi]; simp
      obtain ⟨h1, h2⟩ := splitK_eq k (l.drop (i + 1))
      rw [e, Lib.splitK, if_neg hne, hi]
      simp only [List.length_cons, List.length_nil, Int.toNat_natCast, Nat.add_zero, Nat.zero_add]
      exact ⟨fun h => by rw [h1 (by omega)], fun h => by rw [h2 (by omega)]⟩

/-- What SplitN at most five gives, as far as four pieces go. -/
theorem splitN_five (l : Bs) : (Lib.splitK [46] 0 (min 5 (l.length + 1) - 1) l = splitD l) ∨ ((Lib.splitK [46] 0 (min 5 (l.length + 1) - 1) l).length ≠ 4 ∧ (splitD l).length ≠ 4) := by
  have hl := splitD_length_le l
  obtain ⟨h1, h2⟩ := splitK_eq (min 5 (l.length + 1) - 1) l
  by_cases h : (splitD l).length ≤ (min 5 (l.length + 1) - 1) + 1
  · exact Or.inl (h1 h)
  · refine Or.inr ⟨?_, by omega⟩
    rw [h2 (by omega)]; omega

/-! ## reading -/
def parseD : List Bs → Nat → Option Nat
  | [], a => some a
  | x :: xs, a => match numL x 255 with
    | none => none
    | some n => parseD xs (256 * a + n)
def parseL (l : Bs) : Option Nat := if (splitD l).length = 4 then parseD (splitD l) 0 else none

theorem parseD_append : ∀ (xs ys : List Bs) (a : Nat), parseD (xs ++ ys) a = (parseD xs a).bind (parseD ys)
  | [], _, _ => rfl
  | x :: xs, ys, a => by
    simp only [List.cons_append, parseD]
    cases numL x 255 with
    | none => rfl
    | some n => exact parseD_append xs ys _

theorem parseD_bad {xs : List Bs} {x : Bs} (hx : x ∈ xs) (h : numL x 255 = none) : ∀ a, parseD xs a = none := by
  intro a
  obtain ⟨s, t, rfl⟩ := List.append_of_mem hx
  rw [parseD_append]
  cases parseD s a with
  | none => rfl
  | some n => simp [parseD, h]

theorem parseL_bad {l : Bs} {x : Bs} (hx : x ∈ splitD l) (h : numL x 255 = none) : parseL l = none := by
  unfold parseL; split
  · exact parseD_bad hx h 0
  · rfl
theorem parseL_many {l : Bs} (h : (splitD l).length ≠ 4) : parseL l = none := by unfold parseL; rw [if_neg h]

theorem parseD_lt : ∀ (xs : List Bs) (a b : Nat), parseD xs a = some b → b < (a + 1) * 256 ^ xs.length ∧ a * 256 ^ xs.length ≤ b
  | [], a, b, h => by cases h; simp
  | x :: xs, a, b, h => by
    simp only [parseD] at h
    cases hn : numL x 255 with
    | none => rw [hn] at h; cases h
    | some n =>
      rw [hn] at h
      have := parseD_lt xs _ _ h
      have hle := numL_le hn
      rw [List.length_cons, Nat.pow_succ]
      generalize 256 ^ xs.length = p at *
      have e1 : (256 * a + n + 1) * p ≤ (a + 1) * (p * 256) := by
        calc (256 * a + n + 1) * p ≤ (256 * a + 256) * p := Nat.mul_le_mul_right _ (by omega)
          _ = (a + 1) * (p * 256) := by rw [Nat.mul_comm p 256, ← Nat.mul_assoc]; congr 1; omega
      have e2 : a * (p * 256) ≤ (256 * a + n) * p := by
        calc a * (p * 256) = 256 * a * p := by rw [Nat.mul_comm p 256, ← Nat.mul_assoc, Nat.mul_comm a 256]
          _ ≤ (256 * a + n) * p := Nat.mul_le_mul_right _ (by omega)
      omega

theorem parseL_lt {l : Bs} {n : Nat} (h : parseL l = some n) : n ≤ 4294967295 := by
  unfold parseL at h
  split at h
  · rename_i h4
    have := (parseD_lt _ _ _ h).1
    rw [h4] at this
    omega
  · cases h

theorem isD_ne46 {c : UInt8} (h : isD c = true) : c ≠ 46 := fun e => by subst e; simp [isD] at h
theorem isD_ne47 {c : UInt8} (h : isD c = true) : c ≠ 47 := fun e => by subst e; simp [isD] at h
theorem dig_mem (n : Nat) : ∀ c ∈ dig n, isD c = true := fun c hc => List.all_eq_true.1 (dig_spec n).1 c hc
theorem dig_no46 (n : Nat) : ∀ c ∈ dig n, c ≠ 46 := fun c hc => isD_ne46 (dig_mem n c hc)
theorem dig_no47 (n : Nat) : ∀ c ∈ dig n, c ≠ 47 := fun c hc => isD_ne47 (dig_mem n c hc)

def dotted (a b c d : Nat) : Bs := dig a ++ 46 :: (dig b ++ 46 :: (dig c ++ 46 :: dig d))
theorem splitD_dotted (a b c d : Nat) : splitD (dotted a b c d) = [dig a, dig b, dig c, dig d] := by
  unfold dotted
  rw [splitD_append _ _ (dig_no46 a), splitD_append _ _ (dig_no46 b), splitD_append _ _ (dig_no46 c), splitD_none _ (dig_no46 d)]
theorem parseL_dotted {a b c d : Nat} (ha : a ≤ 255) (hb : b ≤ 255) (hc : c ≤ 255) (hd : d ≤ 255) : parseL (dotted a b c d) = some (256 * (256 * (256 * a + b) + c) + d) := by
  unfold parseL
  rw [splitD_dotted, if_pos (by simp)]
  simp [parseD, numL_dig ha, numL_dig hb, numL_dig hc, numL_dig hd]

theorem fmtL_dotted (a : Int) : fmtL a = dotted (oct a 0) (oct a 1) (oct a 2) (oct a 3) := rfl

theorem oct_join (n : Nat) (h : n ≤ 4294967295) : 256 * (256 * (256 * (oct n 0) + oct n 1) + oct n 2) + oct n 3 = n := by
  unfold oct
  simp only [Int.toNat_natCast, Nat.reduceSub, Nat.reducePow, Nat.div_one]
  omega

theorem parse_fmt {a : Int} (h : validB a = true) : parseL (fmtL a) = some a.toNat := by
  obtain ⟨h0, h1⟩ := validB_true.1 h
  obtain ⟨n, rfl⟩ := Int.eq_ofNat_of_zero_le h0
  rw [fmtL_dotted, parseL_dotted (by have := oct_lt n 0; omega) (by have := oct_lt n 1; omega) (by have := oct_lt n 2; omega) (by have := oct_lt n 3; omega), oct_join n (by omega)]
  simp

theorem fmtL_inj {a b : Int} (ha : validB a = true) (hb : validB b = true) (h : fmtL a = fmtL b) : a = b := by
  have h1 := parse_fmt ha
  rw [h, parse_fmt hb] at h1
  have := Option.some.inj h1
  have := validB_true.1 ha; have := validB_true.1 hb
  omega

theorem fmtL_no47 (a : Int) : ∀ c ∈ fmtL a, c ≠ 47 := by
  intro c hc
  simp only [fmtL, List.mem_append, List.mem_cons] at hc
  rcases hc with h | rfl | h | rfl | h | rfl | h
  all_goals first | exact dig_no47 _ _ h | decide

theorem fmtL_length (a : Int) : (fmtL a).length ≤ 15 := by
  have := dig_length (n := oct a 0) (by have := oct_lt a 0; omega)
  have := dig_length (n := oct a 1) (by have := oct_lt a 1; omega)
  have := dig_length (n := oct a 2) (by have := oct_lt a 2; omega)
  have := dig_length (n := oct a 3) (by have := oct_lt a 3; omega)
  simp [fmtL]; omega

/-! ## prefixes -/
def pw (b : Int) : Nat := 2 ^ (32 - b).toNat
theorem pw_pos (b : Int) : 1 ≤ pw b := Nat.one_le_two_pow
def validP (a b : Int) : Bool := validB a && decide (0 ≤ b ∧ b ≤ 32) && decide (a % (pw b : Int) = 0)
def containsP (a b x : Int) : Bool := validP a b && validB x && decide (x / (pw b : Int) = a / (pw b : Int))
def lastP (a b : Int) : Int := if validP a b then a + (pw b : Int) - 1 else 0
def fmtP (a b : Int) : Bs := if validP a b then fmtL a ++ 47 :: dig b.toNat else []
def parseP (l : Bs) : Option (Nat × Nat) :=
  if (Lib.cut l [47]).2.2 then
    match parseL (Lib.cut l [47]).1, numL (Lib.cut l [47]).2.1 32 with
    | some a, some b => if validP a b then some (a, b) else none
    | _, _ => none
  else none

theorem validP_true {a b : Int} : validP a b = true ↔ (0 ≤ a ∧ a ≤ 4294967295) ∧ (0 ≤ b ∧ b ≤ 32) ∧ a % (pw b : Int) = 0 := by
  simp [validP, validB, and_assoc]

theorem cut_at (l r : Bs) (c : UInt8) (h : ∀ x ∈ l, x ≠ c) : Lib.cut (l ++ c :: r) [c] = (l, r, true) := by
  have hi : Lib.index (l ++ c :: r) [c] = l.length := by
    apply Lib.index_first (by simp)
    · rw [occAt_one]; simp
    · intro j hj
      rw [occAt_one, List.getElem?_append_left hj, List.getElem?_eq_getElem hj]
      have := h _ (List.getElem_mem hj)
      simpa using this
  unfold Lib.cut
  rw [if_pos (by rw [hi]; omega), hi]
  simp
theorem cut_none (l : Bs) (c : UInt8) (h : ∀ x ∈ l, x ≠ c) : Lib.cut l [c] = (l, [], false) := by
  unfold Lib.cut
  rcases index_cases l c with ⟨hi, _⟩ | ⟨i, _, hl, hc, _⟩
  · rw [if_neg (by rw [hi]; omega)]
  · exact absurd rfl (h c (List.mem_of_getElem? hc))

theorem parse_fmtP {a b : Int} (h : validP a b = true) : parseP (fmtP a b) = some (a.toNat, b.toNat) := by
  obtain ⟨h1, h2, h3⟩ := validP_true.1 h
  have hv : validB a = true := validB_true.2 h1
  unfold fmtP parseP
  rw [if_pos h, cut_at _ _ 47 (fmtL_no47 a)]
  simp only [if_true, parse_fmt hv, numL_dig (show b.toNat ≤ 32 by omega)]
  rw [if_pos]
  rw [Int.toNat_of_nonneg h1.1, Int.toNat_of_nonneg h2.1]; exact h

theorem fmtP_inj {a b c d : Int} (h : validP a b = true) (h' : validP c d = true) (e : fmtP a b = fmtP c d) : a = c ∧ b = d := by
  have h1 := parse_fmtP h
  rw [e, parse_fmtP h'] at h1
  have := Option.some.inj h1
  have := validP_true.1 h; have := validP_true.1 h'
  simp only [Prod.mk.injEq] at *
  omega

/-! ## the law's own small functions -/
def pickI (c n : Int) : Int := (if c < 0 then -(c + 1) else c) % n
theorem pickI_lo (c n : Int) (h : 1 ≤ n) : 0 ≤ pickI c n := by unfold pickI; split <;> exact Int.emod_nonneg _ (by omega)
theorem pickI_hi (c n : Int) (h : 1 ≤ n) : pickI c n < n := by unfold pickI; split <;> exact Int.emod_lt_of_pos _ (by omega)
def netB (b : Int) : Int := pickI b 33
def netA (a b : Int) : Int := pickI a 4294967296 - pickI a 4294967296 % (pw (netB b) : Int)

def pwr (k : Nat) : Nat := 2 ^ k
theorem pwr_succ (k : Nat) : pwr (k + 1) = 2 * pwr k := by unfold pwr; rw [Nat.pow_succ, Nat.mul_comm]
theorem pwr_le (k : Nat) (h : k ≤ 32) : pwr k ≤ 4294967296 := Nat.pow_le_pow_right (by omega : 0 < 2) h
theorem pwr_pw (m : Nat) (h : m ≤ 32) : pwr (32 - m) = pw (m : Int) := by unfold pwr pw; congr 1; omega

/-! ## the last bits -/
theorem pw_dvd (b : Int) (h0 : 0 ≤ b) (h1 : b ≤ 32) : (4294967296 : Int) % (pw b : Int) = 0 := by
  obtain ⟨n, rfl⟩ := Int.eq_ofNat_of_zero_le h0
  have : ∀ n : Nat, n ≤ 32 → (4294967296 : Int) % (pw n : Int) = 0 := by decide
  exact this n (by omega)
theorem pw_le (b : Int) (h0 : 0 ≤ b) (h1 : b ≤ 32) : pw b ≤ 4294967296 := by
  obtain ⟨n, rfl⟩ := Int.eq_ofNat_of_zero_le h0
  have : ∀ n : Nat, n ≤ 32 → pw n ≤ 4294967296 := by decide
  exact this n (by omega)
theorem pw_succ (b : Int) (h0 : 0 ≤ b) (h1 : b < 32) : pw b = 2 * pw (b + 1) := by
  unfold pw
  rw [show (32 - b).toNat = (32 - (b + 1)).toNat + 1 by omega, Nat.pow_succ, Nat.mul_comm]

end Go.Proofs.YtgajoiijebbagaaGreatDoor.Pa
