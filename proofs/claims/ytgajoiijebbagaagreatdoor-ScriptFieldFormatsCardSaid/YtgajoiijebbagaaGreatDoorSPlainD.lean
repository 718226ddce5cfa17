/-
  PLAIN MATHEMATICS OF SCRIPTS, THE WHOLE TEXT: reading a text line by line, that it gives back every printed script, that it accepts printed scripts alone, and where it stops at a malformed line. Conditions: none.
-/
import Derived.Test.YtgajoiijebbagaaGreatDoorSPlainC
namespace Go.Proofs.YtgajoiijebbagaaGreatDoor.Pa

/-- The lines' reader: what has been read, and the pieces that are left (the last one stands behind the last line feed). -/
def parseK : List Ac → List Bs → Nat ⊕ List Ac
  | acc, [] => .inr acc
  | acc, [t] => if t = [] then .inr acc else .inl acc.length
  | acc, t :: u :: r => match parseLine t with
    | some a => if acc.length = 100 then .inl acc.length else parseK (acc ++ [a]) (u :: r)
    | none => .inl acc.length
def parseT (s : Bs) : Nat ⊕ List Ac := parseK [] (splitC 10 s)

theorem parseK_end (acc : List Ac) : parseK acc (splitC 10 []) = .inr acc := by simp [splitC, parseK]
theorem parseK_open (acc : List Ac) {t : Bs} (h0 : t ≠ []) (h : ∀ x ∈ t, x ≠ 10) : parseK acc (splitC 10 t) = .inl acc.length := by
  rw [splitC_none 10 t h, parseK, if_neg h0]
theorem parseK_line (acc : List Ac) (t r : Bs) (h : ∀ x ∈ t, x ≠ 10) : parseK acc (splitC 10 (t ++ 10 :: r)) =
    match parseLine t with | some a => if acc.length = 100 then .inl acc.length else parseK (acc ++ [a]) (splitC 10 r) | none => .inl acc.length := by
  rw [splitC_append 10 t r h]
  cases hs : splitC 10 r with
  | nil => exact absurd hs (splitC_ne 10 r)
  | cons u v => rw [parseK]
theorem parseK_bad (acc : List Ac) {t : Bs} (r : Bs) (h : ∀ x ∈ t, x ≠ 10) (hn : parseLine t = none) : parseK acc (splitC 10 (t ++ 10 :: r)) = .inl acc.length := by
  rw [parseK_line acc t r h, hn]
theorem parseK_full (acc : List Ac) {t : Bs} (r : Bs) (h : ∀ x ∈ t, x ≠ 10) (hn : acc.length = 100) : parseK acc (splitC 10 (t ++ 10 :: r)) = .inl acc.length := by
  rw [parseK_line acc t r h]; cases parseLine t <;> simp [hn]
theorem parseK_go (acc : List Ac) {t : Bs} {a : Ac} (r : Bs) (h : ∀ x ∈ t, x ≠ 10) (ha : parseLine t = some a) (hn : acc.length ≠ 100) : parseK acc (splitC 10 (t ++ 10 :: r)) = parseK (acc ++ [a]) (splitC 10 r) := by
  rw [parseK_line acc t r h, ha]; simp [hn]

theorem lineA_mem {a : Ac} (h : okA a = true) : ∀ x ∈ lineA a, x ≠ 10 := by
  have hw := lineW_mem h
  unfold lineA
  generalize lineW a = ws at hw
  induction ws with
  | nil => simp [Lib.join_nil]
  | cons w r ih =>
    cases r with
    | nil => rw [Lib.join_one]; exact fun x hx => (hw w (by simp) x hx).2
    | cons v r =>
      rw [join_cons2]
      intro x hx
      rcases List.mem_append.1 hx with hx | hx
      · exact (hw w (by simp) x hx).2
      rcases List.mem_cons.1 hx with rfl | hx
      · decide
      · exact ih (fun u hu => hw u (by simp only [List.mem_cons] at hu ⊢; exact Or.inr hu)) x hx

theorem textA_cons (a : Ac) (l : List Ac) : textA (a :: l) = lineA a ++ 10 :: textA l := by simp [textA]
theorem textA_append (l m : List Ac) : textA (l ++ m) = textA l ++ textA m := by simp [textA]
theorem textA_snoc (l : List Ac) (a : Ac) : textA (l ++ [a]) = textA l ++ lineA a ++ [10] := by simp [textA]

/-- Valid lines ahead are read one by one. -/
theorem parseK_text : ∀ (l acc : List Ac) (r : Bs), (∀ a ∈ l, okA a = true) → acc.length + l.length ≤ 100 → parseK acc (splitC 10 (textA l ++ r)) = parseK (acc ++ l) (splitC 10 r)
  | [], acc, r, _, _ => by simp [textA]
  | a :: l, acc, r, h, hn => by
    have ha := h a (by simp)
    rw [textA_cons, List.append_assoc, List.cons_append, parseK_go acc (textA l ++ r) (lineA_mem ha) (parseLine_some.2 ⟨ha, rfl⟩) (by simp at hn; omega),
      parseK_text l (acc ++ [a]) r (fun b hb => h b (by simp [hb])) (by simp at hn ⊢; omega)]
    simp

theorem parseT_text {l : List Ac} (h : ∀ a ∈ l, okA a = true) (hn : l.length ≤ 100) : parseT (textA l) = .inr l := by
  have := parseK_text l [] [] h (by simpa using hn)
  rw [List.append_nil, List.nil_append, parseK_end] at this
  exact this

/-- A malformed line is reported by its index, whatever follows. -/
theorem parseT_bad {l : List Ac} {t : Bs} (r : Bs) (h : ∀ a ∈ l, okA a = true) (hn : l.length ≤ 100) (ht : ∀ x ∈ t, x ≠ 10) (hb : parseLine t = none) : parseT (textA l ++ (t ++ 10 :: r)) = .inl l.length := by
  have := parseK_text l [] (t ++ 10 :: r) h (by simpa using hn)
  rw [List.nil_append, parseK_bad l r ht hb] at this
  exact this

theorem parseT_open {l : List Ac} {t : Bs} (h : ∀ a ∈ l, okA a = true) (hn : l.length ≤ 100) (h0 : t ≠ []) (ht : ∀ x ∈ t, x ≠ 10) : parseT (textA l ++ t) = .inl l.length := by
  have := parseK_text l [] t h (by simpa using hn)
  rw [List.nil_append, parseK_open l h0 ht] at this
  exact this

/-! ## what is accepted is printed -/
def unl : List Bs → Bs
  | [] => []
  | [t] => t
  | t :: u :: r => t ++ 10 :: unl (u :: r)
theorem unl_glue (x : Bs) : ∀ l : List Bs, l ≠ [] → unl (glue x l) = x ++ unl l
  | [], h => absurd rfl h
  | [t], _ => by simp [glue, unl]
  | t :: u :: r, _ => by simp [glue, unl]
theorem unl_split : ∀ s : Bs, unl (splitC 10 s) = s
  | [] => rfl
  | x :: r => by
    rw [splitC]
    split
    · rename_i h; subst h
      cases hs : splitC 10 r with
      | nil => exact absurd hs (splitC_ne 10 r)
      | cons u v => have := unl_split r; rw [hs] at this; simp [unl, this]
    · rw [unl_glue _ _ (splitC_ne 10 r), unl_split r]; rfl

theorem parseK_inr : ∀ (ps : List Bs) (acc l : List Ac), ps ≠ [] → (∀ a ∈ acc, okA a = true) → acc.length ≤ 100 → parseK acc ps = .inr l → (∀ a ∈ l, okA a = true) ∧ l.length ≤ 100 ∧ textA l = textA acc ++ unl ps
  | [], _, _, h, _, _, _ => absurd rfl h
  | [t], acc, l, _, ha, hn, h => by
    rw [parseK] at h
    split at h
    · rename_i h0; subst h0; cases h; exact ⟨ha, hn, by simp [unl]⟩
    · cases h
  | t :: u :: r, acc, l, _, ha, hn, h => by
    rw [parseK] at h
    split at h
    · rename_i a hp
      split at h
      · cases h
      · rename_i h100
        obtain ⟨h1, h2⟩ := parseLine_some.1 hp
        have := parseK_inr (u :: r) (acc ++ [a]) l (by simp) (fun b hb => by rcases List.mem_append.1 hb with hb | hb; · exact ha b hb
                                                                             · simp at hb; subst hb; exact h1) (by simp; omega) h
        refine ⟨this.1, this.2.1, this.2.2.trans ?_⟩
        rw [textA_snoc, h2]; simp [unl]
    · cases h

theorem parseT_inr {s : Bs} {l : List Ac} (h : parseT s = .inr l) : (∀ a ∈ l, okA a = true) ∧ l.length ≤ 100 ∧ textA l = s := by
  have := parseK_inr (splitC 10 s) [] l (splitC_ne 10 s) (by simp) (by simp) h
  rw [unl_split] at this
  simpa [textA] using this

theorem printA_some {l : List Ac} (h : ∀ a ∈ l, okA a = true) (hn : l.length ≤ 100) : printA l = some (textA l) := by
  unfold printA; rw [if_pos ⟨hn, List.all_eq_true.2 h⟩]

theorem textA_inj : ∀ (l m : List Ac), (∀ a ∈ l, okA a = true) → (∀ a ∈ m, okA a = true) → l.length ≤ 100 → m.length ≤ 100 → textA l = textA m → l = m := by
  intro l m hl hm h1 h2 h
  have := parseT_text hl h1; rw [h, parseT_text hm h2] at this
  exact (Sum.inr.inj this).symm

end Go.Proofs.YtgajoiijebbagaaGreatDoor.Pa
