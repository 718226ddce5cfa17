/-
  The walk of the generator cut, and a law for lists of actions joined by append inside a statement whose order is open. Conditions: as each says.
-/
import Derived.Test.YtgajoiijebbagaaGreatDoorAp
namespace Go.Proofs.YtgajoiijebbagaaGreatDoor
open Go.RowKit Go.Proofs

def Pa.cutA (a : Pa.Ac) : Pa.Ac := { a with s := Pa.cutS a.s 1110, call := { a.call with s := Pa.cutS a.call.s 2110 }, fates := a.fates.take 70 }

theorem infoI2 : (Tryz.prog.info? 3).map (fun i => (i.zero, i.size, i.bytes)) = some (some (.int .i64 0), 1, 8) := by kernel_rfl

/-- A list of integers copied by append behind an empty list. -/
theorem wpList_append_ints {ops : Array Oper} {rest : List Oper} {o : Oper} {a : Act} {Q : Exit → Act → World → Prop} {w : World} (hgd : o.guard = none) (s x : Operand)
    (ho : o.op = .call { callee := .builtin .append, args := #[s, x], argTypes := #[25, 25] }) (hs : a.eval s = .slice none 0 0) (u : Value) (m : List Int) (hx : a.eval x = u) (hu : Fs w u m) (hlen : m.length ≤ 100000)
    (h : ∀ v w', Fs w' v m → (∀ b, v.ownBlock = some b → w.heap.size ≤ b) → Below w.heap.size w w' → wpList Tryz.prog ops Q rest (a.put o.dst v) w') : wpList Tryz.prog ops Q (o :: rest) a w := by
  obtain ⟨i0, hi0, hz0, hz1, hz2⟩ := info_parts infoI2
  obtain ⟨ua, uc, rfl, hc⟩ := hu
  by_cases h0 : m = []
  · subst h0
    refine wpList_plain hgd fun K hK => ?_
    have hr : ∀ w : World, (Builtin.append_ #[25, 25] o.type #[.slice none 0 0, .slice ua 0 uc]).run Tryz.prog w = .ok (.slice none 0 0) w := fun w => by
      refine Go.run_append_nothing w _ _ _ 3 i0 Tryz.underlying25 hi0 none 0 0 (Nat.le_refl _) _ ?_
      cases ua with
      | none => exact Go.Src.ofNil _ Tryz.underlying25 _
      | some ad => exact Go.Src.ofSlice _ Tryz.underlying25 ad 0 uc [] (by simp) (by simp) (by simp)
    have hh := h (.slice none 0 0) w (Fs.nil _) (fun b hb => by cases hb) (Below.refl _ _)
    simp only [List.length_nil] at hx
    unfold Oper.wp execOp
    simp only [ho, resolve, invoke, builtin, Sem.run_bind, Sem.run_pure, Result.andThen_ok, List.map_toArray, List.map_cons, List.map_nil, hs, hx, hr]
    exact hK _ _ hh
  · obtain ⟨b, off, rfl, hbl, hcell⟩ := hc h0
    refine wpList_append_lies w hgd s x 25 ho w.heap.size 3 i0 _ 1 8 Tryz.underlying25 hi0 hz0 hz1 hz2 rfl (by decide) (.slice none 0 0) 0 [] hs (World.ownsRow_nil _ _ _ _) ⟨b, off, none⟩ m.length uc (m.map (Value.int .i64)) hx (by simp) (fun j u hu => by
      rw [List.getElem?_map] at hu
      obtain ⟨y, hy, rfl⟩ := Option.map_eq_some_iff.1 hu
      obtain ⟨hj, rfl⟩ := List.getElem?_eq_some_iff.1 hy
      rw [addr_plus]; exact hcell j hj) (fun u hu => by obtain ⟨y, _, rfl⟩ := List.mem_map.1 hu; rfl) (List.length_pos_iff.2 h0) (by unfold maxLen; omega) (by omega) (Nat.le_refl _) w.heap.size rfl ?_
    intro g1 cap1 w6 hown6 hgrow hat hlt6
    refine h _ _ ⟨some ⟨g1, 0, none⟩, cap1, by rw [Nat.zero_add], fun _ => ⟨g1, 0, rfl, hlt6, fun j hj => ?_⟩⟩ (fun b hb => by cases hb; exact owns_base hown6 rfl) ((Below.refl _ _).grown hgrow (Nat.le_refl _) (fun k hk => by cases hk))
    have := hown6.cells (g := g1) rfl j (.int .i64 m[j]) (by simp [hj])
    rw [addr_add] at this
    rw [Nat.zero_add]; exact this

theorem Fs.take {w : World} {v : Value} {xs : List Int} (h : Fs w v xs) (k : Nat) (hk : k ≤ xs.length) : ∃ a c, v = .slice a xs.length c ∧ Fs w (.slice a k c) (xs.take k) := by
  obtain ⟨a, c, rfl, h2⟩ := h
  have hl : (xs.take k).length = k := by simp; omega
  refine ⟨a, c, rfl, a, c, by rw [hl], fun h0 => ?_⟩
  obtain ⟨b, o, rfl, h3, h4⟩ := h2 (fun e => h0 (by rw [e]; simp))
  exact ⟨b, o, rfl, h3, fun j hj => by rw [List.getElem_take]; exact h4 j (by omega)⟩

end Go.Proofs.YtgajoiijebbagaaGreatDoor
