/-
  Lists of actions joined by append: what the new slice holds, whether or not something is appended. Conditions: none.
-/
import Derived.Test.YtgajoiijebbagaaGreatDoorGe5
import Derived.Deep.Upon
namespace Go.Proofs.YtgajoiijebbagaaGreatDoor
open Go.RowKit Go.Proofs

/-- A slice value that holds these actions, with the values of their fates. -/
def ActP (w : World) (v : Value) (l : List (Pa.Ac × Value)) : Prop := ∃ (a : Option Addr) (c : Nat), v = .slice a l.length c ∧ l.length ≤ c ∧ (∀ p ∈ l, Fs w p.2 p.1.fates ∧ p.1.fates.length ≤ 9223372036854775807) ∧
  (l ≠ [] → ∃ b o, a = some ⟨b, o, none⟩ ∧ b < w.heap.size ∧ ∀ (j : Nat) u, (rowCells l)[j]? = some u → w.cell? ⟨b, o + j, none⟩ = some u)
theorem ActP.below {w w' : World} {v : Value} {l : List (Pa.Ac × Value)} (h : ActP w v l) (hb : Below w.heap.size w w') : ActP w' v l := by
  obtain ⟨a, c, h1, h2, h3, h4⟩ := h
  refine ⟨a, c, h1, h2, fun p hp => ⟨(h3 p hp).1.below hb, (h3 p hp).2⟩, fun h0 => ?_⟩
  obtain ⟨b, o, h5, h6, h7⟩ := h4 h0
  exact ⟨b, o, h5, Nat.lt_of_lt_of_le h6 hb.size, fun j u hu => cell_below hb h6 (h7 j u hu)⟩
theorem Acts.pairs {w : World} {v : Value} {l : List Pa.Ac} (h : Acts w v l) : ∃ lp, lp.map Prod.fst = l ∧ ActP w v lp := by
  obtain ⟨a, c, fv, h1, h2, h3, h4⟩ := h
  have hlen : (l.mapIdx fun j x => (x, fv j)).length = l.length := by simp
  refine ⟨l.mapIdx fun j x => (x, fv j), by apply List.ext_getElem <;> simp, a, c, by rw [hlen]; exact h1, by rw [hlen]; exact h2, fun p hp => ?_, fun h0 => ?_⟩
  · obtain ⟨j, hj, rfl⟩ := List.mem_iff_getElem.1 hp
    rw [hlen] at hj
    simp only [List.getElem_mapIdx]
    exact h3 j hj
  · obtain ⟨b, o, h5, h6, h7⟩ := h4 (fun e => by subst e; simp at h0)
    refine ⟨b, o, h5, h6, fun j u hu => ?_⟩
    have hjl : j < (rowCells (l.mapIdx fun j x => (x, fv j))).length := (List.getElem?_eq_some_iff.1 hu).1
    rw [rowCells_len, hlen] at hjl
    have hq : j / 13 < l.length := by omega
    have hr := rowCells_at (l.mapIdx fun j x => (x, fv j)) (j / 13) (by rw [hlen]; exact hq) (j % 13) (by omega)
    rw [show j / 13 * 13 + j % 13 = j by omega, hu] at hr
    simp only [List.getElem_mapIdx] at hr
    have := h7 (j / 13) hq (j % 13) u hr.symm
    rw [show o + j / 13 * 13 + j % 13 = o + j by omega] at this
    exact this
theorem ActP.acts {w : World} {v : Value} {l : List (Pa.Ac × Value)} (h : ActP w v l) : Acts w v (l.map Prod.fst) := by
  obtain ⟨a, c, h1, h2, h3, h4⟩ := h
  refine ⟨a, c, fun j => ((l[j]?).map (·.2)).getD .nilIface, by simpa using h1, by simpa using h2, fun j hj => ?_, fun h0 => ?_⟩
  · have hj' : j < l.length := by simpa using hj
    simp only [List.getElem_map, List.getElem?_eq_getElem hj', Option.map_some, Option.getD_some]
    exact h3 _ (List.getElem_mem hj')
  · obtain ⟨b, o, h5, h6, h7⟩ := h4 (fun e => by subst e; simp at h0)
    refine ⟨b, o, h5, h6, fun j hj i u hu => ?_⟩
    have hj' : j < l.length := by simpa using hj
    simp only [List.getElem_map, List.getElem?_eq_getElem hj', Option.map_some, Option.getD_some] at hu
    have hi : i < 13 := by
      have := (List.getElem?_eq_some_iff.1 hu).1
      simpa [acCells] using this
    have hr := rowCells_at l j hj' i hi
    have := h7 (j * 13 + i) u (hr.trans hu)
    rw [← Nat.add_assoc] at this
    exact this

theorem OwnA.more {base : Nat} {w w6 : World} {v : Value} {l m : List (Pa.Ac × Value)} {g1 cap1 : Nat} (hO : OwnA base w v l) (hm : ∀ p ∈ m, Fs w p.2 p.1.fates ∧ p.1.fates.length ≤ 9223372036854775807) (hap : ∀ p ∈ m, p.1.fates ≠ [] → ∀ b, p.2.ownBlock = some b → v.ownBlock ≠ some b)
    (hown : w6.ownsRow base 27 13 (.slice (some ⟨g1, 0, none⟩) (l.length + m.length) cap1) (l.length + m.length) (rowCells l ++ rowCells m)) (hg : w.grownBy w6 v.ownBlock) (hat : v.ownBlock = some g1 ∨ g1 = w.heap.size) :
    OwnA base w6 (.slice (some ⟨g1, 0, none⟩) (l.length + m.length) cap1) (l ++ m) := by
  have kg := Kp.of_grown hg
  refine ⟨by rw [show rowCells (l ++ m) = rowCells l ++ rowCells m by simp [rowCells], List.length_append]; exact hown, fun p hp => ?_⟩
  have key : Fs w p.2 p.1.fates ∧ p.1.fates.length ≤ 9223372036854775807 ∧ (p.1.fates ≠ [] → ∀ b, p.2.ownBlock = some b → v.ownBlock ≠ some b) := by
    rcases List.mem_append.1 hp with hp | hp
    · exact hO.2 p hp
    · exact ⟨(hm p hp).1, (hm p hp).2, hap p hp⟩
  obtain ⟨h1, h2, h3⟩ := key
  refine ⟨h1.kp kg (fun h0 b hb e => h3 h0 b hb e), h2, fun h0 b hb e => ?_⟩
  cases e
  rcases hat with h | h
  · exact h3 h0 _ hb h
  · have : g1 < w.heap.size := h1.lt h0 hb
    omega

theorem addr_plus (b o j : Nat) : (⟨b, o, none⟩ : Addr).add j = ⟨b, o + j, none⟩ := by unfold Addr.add; split <;> simp_all
theorem owns_cap {w : World} {base : Nat} {e : TypeId} {size n : Nat} {p : Option Addr} {k c : Nat} {xs : List Value} (h : w.ownsRow base e size (.slice p k c) n xs) : k ≤ c := by
  rcases h.2 with ⟨h1, _⟩ | ⟨g, cap, cur, h1, _, _, h4, _⟩
  · cases h1; exact Nat.le_refl _
  · cases h1; exact h4
theorem OwnA.nil (base : Nat) (w : World) : OwnA base w (.slice none 0 0) [] := ⟨World.ownsRow_nil _ _ _ _, by simp⟩
theorem rowCells_one (l : List (Pa.Ac × Value)) (h : ∀ p ∈ l, ∃ a n c, p.2 = .slice a n c) : ∀ u ∈ rowCells l, u.oneCell' = true := by
  intro u hu
  obtain ⟨p, hp, hu⟩ := List.mem_flatMap.1 hu
  obtain ⟨a, n, c, e⟩ := h p hp
  simp only [acCells, List.mem_cons, List.not_mem_nil, or_false] at hu
  rcases hu with rfl | rfl | rfl | rfl | rfl | rfl | rfl | rfl | rfl | rfl | rfl | rfl | rfl
  all_goals first | rfl | (rw [e]; rfl)

set_option maxRecDepth 100000 in
/-- THE LAW: a list of actions appended, possibly empty. -/
theorem wpList_append_acts {ops : Array Oper} {rest : List Oper} {o : Oper} {a : Act} {Q : Exit → Act → World → Prop} {w : World} (hgd : o.guard = none) (s x : Operand)
    (ho : o.op = .call { callee := .builtin .append, args := #[s, x], argTypes := #[29, 29] }) (base : Nat) (hbase : base ≤ w.heap.size) (v : Value) (l : List (Pa.Ac × Value)) (hs : a.eval s = v) (hO : OwnA base w v l)
    (u : Value) (m : List (Pa.Ac × Value)) (hx : a.eval x = u) (hu : ActP w u m) (hap : ∀ p ∈ m, p.1.fates ≠ [] → ∀ b, p.2.ownBlock = some b → v.ownBlock ≠ some b) (hlen : l.length + m.length ≤ 100000)
    (h : ∀ p c w', OwnA base w' (.slice p (l.length + m.length) c) (l ++ m) → Kp (fun k => v.ownBlock = some k) w w' → wpList Tryz.prog ops Q rest (a.put o.dst (.slice p (l.length + m.length) c)) w') : wpList Tryz.prog ops Q (o :: rest) a w := by
  obtain ⟨i0, hi0, hz0, hz1, hz2⟩ := infoAct
  obtain ⟨ua, uc, rfl, huc, hf, hc⟩ := hu
  by_cases h0 : m = []
  · subst h0
    obtain ⟨p, c, rfl⟩ := owns_slice hO.1
    refine wpList_plain hgd fun K hK => ?_
    have hr : ∀ w : World, (Builtin.append_ #[29, 29] o.type #[.slice p l.length c, .slice ua 0 uc]).run Tryz.prog w = .ok (.slice p l.length c) w := fun w => by
      have hle : l.length ≤ c := owns_cap hO.1
      refine Go.run_append_nothing w _ _ _ 27 i0 Tryz.underlying29 hi0 p l.length c hle _ ?_
      cases ua with
      | none => exact Go.Src.ofNil _ Tryz.underlying29 _
      | some ad => exact Go.Src.ofSlice _ Tryz.underlying29 ad 0 uc [] (by simp) (by simp) (by simp)
    have hh := h p c w (by simpa using hO) (Kp.refl _ _)
    simp only [List.length_nil, Nat.add_zero] at hh hx
    unfold Oper.wp execOp
    simp only [ho, resolve, invoke, builtin, Sem.run_bind, Sem.run_pure, Result.andThen_ok, List.map_toArray, List.map_cons, List.map_nil, hs, hx, hr]
    exact hK _ _ hh
  · obtain ⟨b, off, rfl, hbl, hcell⟩ := hc h0
    refine wpList_append_lies w hgd s x 29 ho base 27 i0 _ 13 136 Tryz.underlying29 hi0 hz0 hz1 hz2 rfl (by decide) v l.length (rowCells l) hs hO.1 ⟨b, off, none⟩ m.length uc (rowCells m) hx (rowCells_len m) (fun j u hu => by rw [addr_plus]; exact hcell j u hu) (rowCells_one m fun p hp => by obtain ⟨a, c, e, _⟩ := (hf p hp).1; exact ⟨_, _, _, e⟩) (List.length_pos_iff.2 h0) (by unfold maxLen; omega) (by omega) hbase w.heap.size rfl ?_
    intro g1 cap1 w6 hown6 hgrow hat hlt6
    exact h _ _ _ (hO.more hf hap hown6 hgrow hat) (Kp.of_grown hgrow)

end Go.Proofs.YtgajoiijebbagaaGreatDoor
