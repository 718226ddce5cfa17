/-
  PLAIN MATHEMATICS OF ADDRESSES, THIRD PART: the state of a reader that goes through a dotted form byte by byte. No program in sight. Conditions: none.
-/
import Derived.Test.YtgajoiijebbagaaGreatDoorPlainB
namespace Go.Proofs.YtgajoiijebbagaaGreatDoor.Pa

def parV (l : Bs) : Int := match parseL l with | some n => n | none => 0
def parOk (l : Bs) : Bool := (parseL l).isSome
theorem par_none {l : Bs} (h : parseL l = none) : parV l = 0 ∧ errB (parOk l) = 30 := by simp [parV, parOk, h, errB]
theorem par_some {l : Bs} {n : Nat} (h : parseL l = some n) : parV l = n ∧ errB (parOk l) = 0 := by simp [parV, parOk, h, errB]

def PRel (l : Bs) (k m f A : Nat) : Prop :=
  ∃ done : List Bs, done.length = m ∧ parseD done 0 = some A ∧ f ≤ k ∧ ((k ≤ l.length ∧ splitD l = done ++ glue ((l.drop f).take (k - f)) (splitD (l.drop k))) ∨ (k = l.length + 1 ∧ splitD l = done))

theorem PRel.start (l : Bs) : PRel l 0 0 0 0 :=
  ⟨[], rfl, rfl, Nat.le_refl _, Or.inl ⟨Nat.zero_le _, by simp [glue_nil _ (splitD_ne l)]⟩⟩

theorem PRel.other {l : Bs} {k m f A : Nat} (h : PRel l k m f A) (hk : k < l.length) (hc : l[k] ≠ 46) : PRel l (k + 1) m f A := by
  obtain ⟨done, h1, h2, h3, h4⟩ := h
  refine ⟨done, h1, h2, by omega, Or.inl ⟨by omega, ?_⟩⟩
  rcases h4 with ⟨_, h4⟩ | ⟨h4, _⟩
  · rw [h4, List.drop_eq_getElem_cons hk, splitD_other _ _ _ hc]
    congr 2
    rw [show k + 1 - f = (k - f) + 1 by omega, List.take_succ_eq_append_getElem (by rw [List.length_drop]; omega), List.getElem_drop]
    simp only [show f + (k - f) = k by omega]
  · omega

/-- The piece that ends at k. -/
def piece (l : Bs) (f k : Nat) : Bs := (l.drop f).take (k - f)

theorem PRel.cut {l : Bs} {k m f A : Nat} (h : PRel l k m f A) (hk : k ≤ l.length) (hc : ∀ h : k < l.length, l[k] = 46) :
    ∃ done rest : List Bs, done.length = m ∧ parseD done 0 = some A ∧ f ≤ k ∧ splitD l = done ++ piece l f k :: rest ∧ ((k < l.length ∧ rest = splitD (l.drop (k + 1))) ∨ (k = l.length ∧ rest = [])) := by
  obtain ⟨done, h1, h2, h3, h4⟩ := h
  rcases h4 with ⟨_, h4⟩ | ⟨h4, _⟩
  · by_cases hlt : k < l.length
    · refine ⟨done, splitD (l.drop (k + 1)), h1, h2, h3, ?_, Or.inl ⟨hlt, rfl⟩⟩
      rw [h4, List.drop_eq_getElem_cons hlt, hc hlt, splitD_dot]; rfl
    · obtain rfl : k = l.length := by omega
      refine ⟨done, [], h1, h2, h3, ?_, Or.inr ⟨rfl, rfl⟩⟩
      rw [h4, List.drop_length, splitD_nil]; rfl
  · omega

theorem PRel.bad {l : Bs} {k m f A : Nat} (h : PRel l k m f A) (hk : k ≤ l.length) (hc : ∀ h : k < l.length, l[k] = 46) (hn : numL (piece l f k) 255 = none) : parseL l = none := by
  obtain ⟨done, rest, _, _, _, e, _⟩ := h.cut hk hc
  exact parseL_bad (x := piece l f k) (by rw [e]; simp) hn
theorem PRel.four {l : Bs} {k m f A : Nat} (h : PRel l k m f A) (hk : k ≤ l.length) (hc : ∀ h : k < l.length, l[k] = 46) (hm : m = 4) : parseL l = none := by
  obtain ⟨done, rest, h1, _, _, e, _⟩ := h.cut hk hc
  refine parseL_many ?_
  rw [e]; simp; omega
theorem PRel.next {l : Bs} {k m f A n : Nat} (h : PRel l k m f A) (hk : k ≤ l.length) (hc : ∀ h : k < l.length, l[k] = 46) (hn : numL (piece l f k) 255 = some n) : PRel l (k + 1) (m + 1) (k + 1) (256 * A + n) := by
  obtain ⟨done, rest, h1, h2, h3, e, hr⟩ := h.cut hk hc
  refine ⟨done ++ [piece l f k], by simp [h1], ?_, Nat.le_refl _, ?_⟩
  · rw [parseD_append, h2]; simp [parseD, hn]
  · rcases hr with ⟨hlt, hr⟩ | ⟨hlt, hr⟩
    · refine Or.inl ⟨by omega, ?_⟩
      rw [e, hr]
      simp [glue_nil _ (splitD_ne _)]
    · refine Or.inr ⟨by omega, ?_⟩
      rw [e, hr]
theorem PRel.done {l : Bs} {m f A : Nat} (h : PRel l (l.length + 1) m f A) : parseL l = if m = 4 then some A else none := by
  obtain ⟨done, h1, h2, h3, h4⟩ := h
  rcases h4 with ⟨h4, _⟩ | ⟨_, h4⟩
  · omega
  · unfold parseL; rw [h4, h1, h2]
theorem PRel.bound {l : Bs} {k m f A : Nat} (h : PRel l k m f A) (hm : m ≤ 4) : A < 4294967296 := by
  obtain ⟨done, h1, h2, _⟩ := h
  have := (parseD_lt _ _ _ h2).1
  have hp : 256 ^ done.length ≤ 256 ^ 4 := Nat.pow_le_pow_right (by omega) (by omega)
  omega
theorem PRel.from_le {l : Bs} {k m f A : Nat} (h : PRel l k m f A) : f ≤ k := by
  obtain ⟨_, _, _, h3, _⟩ := h; exact h3

/-- Four pieces, as a loop over them goes. -/
theorem parseD_take (xs : List Bs) (k : Nat) (hk : k < xs.length) : parseD (xs.take (k + 1)) 0 = (parseD (xs.take k) 0).bind fun a => (numL xs[k] 255).map fun n => 256 * a + n := by
  rw [List.take_succ_eq_append_getElem hk, parseD_append]
  cases parseD (xs.take k) 0 with
  | none => rfl
  | some a => simp only [Option.bind_some, parseD]; cases numL xs[k] 255 <;> rfl

def ppA (l : Bs) : Int := match parseP l with | some x => x.1 | none => 0
def ppB (l : Bs) : Int := match parseP l with | some x => x.2 | none => 0
def ppOk (l : Bs) : Bool := (parseP l).isSome
theorem pp_none {l : Bs} (h : parseP l = none) : ppA l = 0 ∧ ppB l = 0 ∧ errB (ppOk l) = 30 := by simp [ppA, ppB, ppOk, h, errB]
theorem pp_some {l : Bs} {a b : Nat} (h : parseP l = some (a, b)) : ppA l = a ∧ ppB l = b ∧ errB (ppOk l) = 0 := by simp [ppA, ppB, ppOk, h, errB]

end Go.Proofs.YtgajoiijebbagaaGreatDoor.Pa
