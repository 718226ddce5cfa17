/-
  Laws for lists of actions joined by append inside a statement whose order is open, and parts of such lists. Conditions: none.
-/
import Derived.Test.YtgajoiijebbagaaGreatDoorCu2
namespace Go.Proofs.YtgajoiijebbagaaGreatDoor
open Go.RowKit Go.Proofs

set_option maxRecDepth 100000 in
/-- A list of actions appended, possibly empty: one operation. -/
theorem wp_append_acts {o : Oper} {a : Act} {K : Act → World → Prop} {Q : Exit → Act → World → Prop} {w : World} (s x : Operand)
    (ho : o.op = .call { callee := .builtin .append, args := #[s, x], argTypes := #[29, 29] }) (base : Nat) (hbase : base ≤ w.heap.size) (v : Value) (l : List (Pa.Ac × Value)) (hs : a.eval s = v) (hO : OwnA base w v l)
    (u : Value) (m : List (Pa.Ac × Value)) (hx : a.eval x = u) (hu : ActP w u m) (hap : ∀ p ∈ m, p.1.fates ≠ [] → ∀ b, p.2.ownBlock = some b → v.ownBlock ≠ some b) (hlen : l.length + m.length ≤ 100000)
    (h : ∀ p c w', OwnA base w' (.slice p (l.length + m.length) c) (l ++ m) → Kp (fun k => v.ownBlock = some k) w w' → K (a.put o.dst (.slice p (l.length + m.length) c)) w') : Oper.wp Tryz.prog o a w K Q := by
  obtain ⟨i0, hi0, hz0, hz1, hz2⟩ := infoAct
  obtain ⟨ua, uc, rfl, huc, hf, hc⟩ := hu
  by_cases h0 : m = []
  · subst h0
    obtain ⟨p, c, rfl⟩ := owns_slice hO.1
    have hr : ∀ w : World, (Builtin.append_ #[29, 29] o.type #[.slice p l.length c, .slice ua 0 uc]).run Tryz.prog w = .ok (.slice p l.length c) w := fun w => by
      have hle : l.length ≤ c := owns_cap hO.1
      refine Go.run_append_nothing w _ _ _ 27 i0 Tryz.underlying29 hi0 p l.length c hle _ ?_
      cases ua with
      | none => exact Go.Src.ofNil _ Tryz.underlying29 _
      | some ad => exact Go.Src.ofSlice _ Tryz.underlying29 ad 0 uc [] (by simp) (by simp) (by simp)
    have hh := h p c w (by simpa using hO) (Kp.refl _ _)
    simp only [List.length_nil, Nat.add_zero] at hh hx
    unfold Oper.wp execOp
    simp only [ho, resolve, invoke, builtin, Sem.run_bind, Sem.run_pure, Result.andThen_ok, List.map_toArray, List.map_cons, List.map_nil, hs, hx, hr]
    exact hh
  · obtain ⟨b, off, rfl, hbl, hcell⟩ := hc h0
    refine wp_append_lies w s x 29 ho base 27 i0 _ 13 136 Tryz.underlying29 hi0 hz0 hz1 hz2 rfl (by decide) v l.length (rowCells l) hs hO.1 ⟨b, off, none⟩ m.length uc (rowCells m) hx (rowCells_len m) (fun j u hu => by rw [addr_plus]; exact hcell j u hu) (rowCells_one m fun p hp => by obtain ⟨a, c, e, _⟩ := (hf p hp).1; exact ⟨_, _, _, e⟩) (List.length_pos_iff.2 h0) (by unfold maxLen; omega) (by omega) hbase w.heap.size rfl ?_
    intro g1 cap1 w6 hown6 hgrow hat hlt6
    exact h _ _ _ (hO.more hf hap hown6 hgrow hat) (Kp.of_grown hgrow)

theorem step_append_acts {ops : Array Oper} {o : Oper} {a : Act} {K : Act → World → Prop} {Q : Exit → Act → World → Prop} {E : Prop} {w : World} (hgd : o.guard = none) (s x : Operand)
    (ho : o.op = .call { callee := .builtin .append, args := #[s, x], argTypes := #[29, 29] }) (base : Nat) (hbase : base ≤ w.heap.size) (v : Value) (l : List (Pa.Ac × Value)) (hs : a.eval s = v) (hO : OwnA base w v l)
    (u : Value) (m : List (Pa.Ac × Value)) (hx : a.eval x = u) (hu : ActP w u m) (hap : ∀ p ∈ m, p.1.fates ≠ [] → ∀ b, p.2.ownBlock = some b → v.ownBlock ≠ some b) (hlen : l.length + m.length ≤ 100000)
    (h : ∀ p c w', OwnA base w' (.slice p (l.length + m.length) c) (l ++ m) → Kp (fun k => v.ownBlock = some k) w w' → K (a.put o.dst (.slice p (l.length + m.length) c)) w') :
    if Region.wanted o (yielded ops a.tmps) = true then Oper.wp Tryz.prog o a w K Q else E := by
  rw [if_pos (by simp [Region.wanted, hgd])]
  exact wp_append_acts s x ho base hbase v l hs hO u m hx hu hap hlen h

theorem rowCells_drop : ∀ (k : Nat) (l : List (Pa.Ac × Value)), k ≤ l.length → (rowCells l).drop (k * 13) = rowCells (l.drop k)
  | 0, l, _ => by simp
  | k + 1, [], h => by simp at h
  | k + 1, p :: l, h => by
    have e : rowCells (p :: l) = acCells p.1 p.2 ++ rowCells l := by simp [rowCells]
    rw [e, List.drop_append, show (k + 1) * 13 - (acCells p.1 p.2).length = k * 13 by simp [acCells]; omega, rowCells_drop k l (by simpa using h)]
    rw [List.drop_of_length_le (by simp [acCells]; omega)]; simp
theorem ActP.take {w : World} {v : Value} {l : List (Pa.Ac × Value)} (h : ActP w v l) (k : Nat) (hk : k ≤ l.length) : ∃ a c, v = .slice a l.length c ∧ l.length ≤ c ∧ ActP w (.slice a k c) (l.take k) := by
  obtain ⟨a, c, h1, h2, h3, h4⟩ := h
  have hl : (l.take k).length = k := by simp; omega
  refine ⟨a, c, h1, h2, a, c, by rw [hl], by omega, fun p hp => h3 p (List.mem_of_mem_take hp), fun h0 => ?_⟩
  obtain ⟨b, o, h5, h6, h7⟩ := h4 (fun e => h0 (by rw [e]; simp))
  refine ⟨b, o, h5, h6, fun j u hu => h7 j u ?_⟩
  have e : rowCells l = rowCells (l.take k) ++ rowCells (l.drop k) := by rw [rowCells, rowCells, rowCells, ← List.flatMap_append, List.take_append_drop]
  rw [e, List.getElem?_append_left (List.getElem?_eq_some_iff.1 hu).1]; exact hu
/-- The tail of a slice of actions, wherever its address is kept. -/
theorem ActP.drop {w : World} {a : Option Addr} {c : Nat} {l : List (Pa.Ac × Value)} (h : ActP w (.slice a l.length c) l) (k : Nat) (hk : k ≤ l.length) (a' : Option Addr) (c' : Nat) (hc : l.length - k ≤ c') (ha : k < l.length → a' = a.map (·.add (k * 13))) : ActP w (.slice a' (l.length - k) c') (l.drop k) := by
  obtain ⟨a0, c0, h1, h2, h3, h4⟩ := h
  cases h1
  refine ⟨a', c', by simp, by simpa using hc, fun p hp => h3 p (List.mem_of_mem_drop hp), fun h0 => ?_⟩
  have hlt : k < l.length := by
    rcases Nat.lt_or_ge k l.length with h | h
    · exact h
    · exact absurd (List.drop_of_length_le h) h0
  obtain ⟨b, o, rfl, h6, h7⟩ := h4 (fun e => by simp [e] at hlt)
  refine ⟨b, o + k * 13, by rw [ha hlt]; simp [addr_plus], h6, fun j u hu => ?_⟩
  rw [← rowCells_drop k l hk, List.getElem?_drop] at hu
  have := h7 _ u hu
  rw [← Nat.add_assoc] at this; exact this
/-- One action in a new block. -/
theorem ActP.one (u : World) (x : Pa.Ac) (fv : Value) (hf : Fs u fv x.fates) (hl : x.fates.length ≤ 9223372036854775807) : ActP (u.alloc (.cells (acCells x fv).toArray 27)) (.slice (some ⟨u.heap.size, 0, none⟩) 1 1) [(x, fv)] := by
  refine ⟨_, 1, rfl, Nat.le_refl _, fun p hp => ?_, fun _ => ⟨u.heap.size, 0, rfl, by simp, fun j v hv => ?_⟩⟩
  · rw [List.mem_singleton.1 hp]; exact ⟨hf.below ((Below.refl _ _).alloc (Nat.le_refl _) _), hl⟩
  · rw [Nat.zero_add, World.cell?_alloc_at _ _ _ _ rfl]
    have e : rowCells [(x, fv)] = acCells x fv := by simp [rowCells]
    rw [e] at hv; simpa using hv

end Go.Proofs.YtgajoiijebbagaaGreatDoor
