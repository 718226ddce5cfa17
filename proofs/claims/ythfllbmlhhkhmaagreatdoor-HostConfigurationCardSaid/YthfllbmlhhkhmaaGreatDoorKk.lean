/-
  The configuration's law, explored: for every input it comes to true. Conditions: none.
-/
import Derived.Test.YthfllbmlhhkhmaaGreatDoorKb
import Derived.Test.YthfllbmlhhkhmaaGreatDoorKc
import Derived.Test.YthfllbmlhhkhmaaGreatDoorKd
import Derived.Test.YthfllbmlhhkhmaaGreatDoorKe
import Derived.Test.YthfllbmlhhkhmaaGreatDoorKf
import Derived.Test.YthfllbmlhhkhmaaGreatDoorKg
import Derived.Test.YthfllbmlhhkhmaaGreatDoorKh
import Derived.Test.YthfllbmlhhkhmaaGreatDoorKi
import Derived.Test.YthfllbmlhhkhmaaGreatDoorKj
namespace Go.Proofs.YthfllbmlhhkhmaaGreatDoor
open Go Go.Ax Go.RowKit Go.Proofs

theorem cfg_nil (a b : Bool) : firstX GC errs 3 (cfgS a b) mkNil (.lit true) 1000 200 14 120 [] = true := by
  cases a <;> cases b
  · exact cfg_nil_ff
  · exact cfg_nil_ft
  · exact cfg_nil_tf
  · exact cfg_nil_tt
theorem cfg_zero (a b : Bool) : firstX GC errs 3 (cfgS a b) mkZero (.lit true) 1000 200 14 120 [] = true := by
  cases a <;> cases b
  · exact cfg_zero_ff
  · exact cfg_zero_ft
  · exact cfg_zero_tf
  · exact cfg_zero_tt
theorem cfg_len (a b : Bool) (m : Nat) (h1 : 1 ≤ m) (h6 : m ≤ 6) : firstX GC errs 3 (cfgS a b ++ List.replicate m spI) (mkLen m) (.lit true) 1000 200 14 120 [] = true := by
  have : m = 1 ∨ m = 2 ∨ m = 3 ∨ m = 4 ∨ m = 5 ∨ m = 6 := by omega
  rcases this with rfl | rfl | rfl | rfl | rfl | rfl <;> cases a <;> cases b
  · exact cfg_len1_ff
  · exact cfg_len1_ft
  · exact cfg_len1_tf
  · exact cfg_len1_tt
  · exact cfg_len2_ff
  · exact cfg_len2_ft
  · exact cfg_len2_tf
  · exact cfg_len2_tt
  · exact cfg_len3_ff
  · exact cfg_len3_ft
  · exact cfg_len3_tf
  · exact cfg_len3_tt
  · exact cfg_len4_ff
  · exact cfg_len4_ft
  · exact cfg_len4_tf
  · exact cfg_len4_tt
  · exact cfg_len5_ff
  · exact cfg_len5_ft
  · exact cfg_len5_tf
  · exact cfg_len5_tt
  · exact cfg_len6_ff
  · exact cfg_len6_ft
  · exact cfg_len6_tf
  · exact cfg_len6_tt
theorem cfg_many (a b : Bool) : firstX GC errs 3 (cfgS a b ++ manyS :: List.replicate 6 spI) mkMany (.lit true) 1000 200 14 120 [] = true := by
  cases a <;> cases b
  · exact cfg_many_ff
  · exact cfg_many_ft
  · exact cfg_many_tf
  · exact cfg_many_tt

theorem hasL_app : ∀ {l1 l2 : List Sp} {v1 v2 : List Value}, Sp.hasL l1 v1 → Sp.hasL l2 v2 → Sp.hasL (l1 ++ l2) (v1 ++ v2)
  | [], l2, v1, v2, h1, h2 => by
    simp only [Sp.hasL] at h1
    subst h1
    exact h2
  | s :: l1, l2, v1, v2, h1, h2 => by
    simp only [Sp.hasL] at h1
    obtain ⟨v, vs, rfl, h3, h4⟩ := h1
    simp only [List.cons_append, Sp.hasL]
    exact ⟨v, _, rfl, h3, hasL_app h4 h2⟩
theorem hasL_ints : ∀ {zs : List Int}, (∀ z ∈ zs, -9223372036854775808 ≤ z ∧ z ≤ 9223372036854775807) → Sp.hasL (List.replicate zs.length spI) (zs.map (Value.int .i64))
  | [], _ => by simp only [List.length_nil, List.replicate_zero, List.map_nil, Sp.hasL]
  | z :: zs, h => by
    simp only [List.length_cons, List.replicate_succ, List.map_cons, Sp.hasL]
    exact ⟨_, _, rfl, by simp only [spI, Sp.has]; exact ⟨z, rfl, (h z (by simp)).1, (h z (by simp)).2⟩, hasL_ints fun y hy => h y (by simp [hy])⟩

/-- A slice of integers that an argument is. -/
inductive Servers (W : World) : Value → Prop where
  | none : Servers W (.slice none 0 0)
  | some (blk off len cap : Nat) (zs : List Int) (hb : blk < W.heap.size) (hl : len ≤ cap) (hz : zs.length = cap) (hm : (cap : Int) ≤ 9223372036854775807)
      (hc : ∀ i, i < cap → W.cell? ⟨blk, off + i, Option.none⟩ = Option.some (.int .i64 (zs.getD i 0))) (hr : ∀ z ∈ zs, -9223372036854775808 ≤ z ∧ z ≤ 9223372036854775807) : Servers W (.slice (Option.some ⟨blk, off, Option.none⟩) len cap)

/-- The errors' blocks hold no number. -/
theorem errs_noint {W : World} {A : Nat → Addr} (hl : Laid errs A (fun _ => 1) W) : ∀ e ∈ errs.l, ∀ i z, W.cell? ⟨e.1, i, none⟩ ≠ some (.int .i64 z) := by
  intro e he i z h
  obtain ⟨_, _, _, _, _, c, fr, el, a5, a6, a7⟩ := hl.at_ e he
  unfold World.cell? at h
  simp only [a5] at h
  cases i with
  | zero =>
    have : c[0]? = some (.int .i64 z) := by simpa using h
    rw [a7] at this
    cases this
  | succ i =>
    have h' : c[i + 1]? = some (.int .i64 z) := by simpa using h
    have := (Array.getElem?_eq_some_iff.1 h').1
    omega

section
variable {W : World} {A : Nat → Addr} {v0 v1 v2 v3 v4 v5 : Value} {a b : Bool}

theorem five (h0 : ifaceS.has v0) (h1 : routeS.has v1) (h3 : (ruleS a b).has v3) (h4 : spI.has v4) (h5 : spI.has v5) : Sp.hasL (cfgS a b) [v0, v1, v3, v4, v5] := by
  simp only [cfgS, Sp.hasL]
  exact ⟨v0, _, rfl, h0, v1, _, rfl, h1, v3, _, rfl, h3, v4, _, rfl, h4, v5, _, rfl, h5, rfl⟩

theorem cfg_any (hl : Laid errs A (fun _ => 1) W) (h0 : ifaceS.has v0) (h1 : routeS.has v1) (h3 : (ruleS a b).has v3) (h4 : spI.has v4) (h5 : spI.has v5) (h2 : Servers W v2) :
    Calls Tryz.prog 3 #[v0, v1, v2, v3, v4, v5] W (fun e w' => ∃ u, e = .returned u ∧ (Sp.lit true).has u ∧ Below W.heap.size W w') := by
  have h00 : 0 < W.heap.size := Nat.lt_of_lt_of_le errs_pos hl.sz
  cases h2 with
  | none =>
    refine told_of_firstX (G := GC) tab_right ifs_right (sumsL_ok sumsC_ok) errs_ng errs_pos (cfg_nil a b) hl (five h0 h1 h3 h4 h5) (pl := ⟨0, 0, 0⟩) h00 ?_ ?_
    · intro l args o hq hlive
      unfold mkNil at hq
      split at hq
      · cases hq; cases hlive
      · cases hq
    · intro Y l args o hr hmu hq
      unfold mkNil at hq
      split at hq
      · cases hq
        simp only [rels_cons_cons, rels_nil, and_true] at hr ⊢
        obtain ⟨r0, r1, r2, r3, r4⟩ := hr
        exact ⟨⟨r0, r1, by simp only [AV.rel], r2, r3, r4⟩, trivial⟩
      · cases hq
  | some blk off len cap zs hb hle hz hm hc hr =>
    by_cases hl0 : len = 0
    · subst hl0
      refine told_of_firstX (G := GC) tab_right ifs_right (sumsL_ok sumsC_ok) errs_ng errs_pos (cfg_zero a b) hl (five h0 h1 h3 h4 h5) (pl := ⟨blk, 0, off + cap⟩) hb ?_ ?_
      · intro l args o hq hlive
        unfold mkZero at hq
        split at hq
        · cases hq; cases hlive
        · cases hq
      · intro Y l args o hr hmu hq
        unfold mkZero at hq
        split at hq
        · cases hq
          simp only [rels_cons_cons, rels_nil, and_true] at hr ⊢
          obtain ⟨r0, r1, r2, r3, r4⟩ := hr
          refine ⟨⟨r0, r1, ?_, r2, r3, r4⟩, trivial⟩
          simp only [AV.rel]
          exact ⟨_, off, cap, hmu, rfl, Nat.le_refl _, Nat.zero_le _, by simp, fun h => (by rcases h with h | h <;> first | omega | cases h), fun h => by cases h⟩
        · cases hq
    · -- the block
      have hcell0 := hc 0 (by omega)
      obtain ⟨cc, el, fr, hheap⟩ : ∃ cc el fr, W.heap[blk]? = some (.cells cc el fr) := by
        unfold World.cell? at hcell0
        split at hcell0
        · rename_i c e f hh; exact ⟨c, e, f, hh⟩
        · cases hcell0
      have hcc : ∀ i, i < cap → cc[off + i]? = some (.int .i64 (zs.getD i 0)) := fun i hi => by
        have := hc i hi
        unfold World.cell? at this
        simp only [hheap] at this
        simpa using this
      have hN : off + cap ≤ cc.size := by
        have := (Array.getElem?_eq_some_iff.1 (hcc (cap - 1) (by omega))).1
        omega
      have hne : ∀ e ∈ errs.l, blk ≠ e.1 := fun e he h => by
        subst h
        exact errs_noint hl e he _ _ hcell0
      -- the object
      have hobj : ∀ (Y : Ext) (m : Nat) (els : List AV), m ≤ cap → AV.rels Y els ((zs.take m).map (Value.int .i64)) → ORel Y (.cells els 3 false false true) ⟨blk, off, cc.size⟩ W.heap[blk]? := by
        intro Y m els hmc hr
        have hlen : els.length = m := by rw [rels_length hr]; simp; omega
        refine ⟨cc, fr, ⟨el, hheap, .inl rfl⟩, rfl, by simp only [hlen]; omega, fun h => (by cases h), fun i x hx => ?_, .inl rfl, fun h => (by cases h)⟩
        obtain ⟨v, hv, hrel⟩ := rels_get hr hx
        have hi : i < m := by rw [← hlen]; exact (List.getElem?_eq_some_iff.1 hx).1
        refine ⟨v, ?_, hrel⟩
        rw [hcc i (by omega), ← hv, List.getElem?_map, List.getElem?_take, if_pos hi, List.getD_eq_getElem?_getD, List.getElem?_eq_getElem (by omega)]
        rfl
      have htake : ∀ m, m ≤ cap → (zs.take m).length = m := fun m hm => by simp; omega
      have hint : ∀ m, m ≤ cap → Sp.hasL (List.replicate m spI) ((zs.take m).map (Value.int .i64)) := fun m hm => by
        have := hasL_ints (zs := zs.take m) fun z hz => hr z (List.mem_of_mem_take hz)
        rw [htake m hm] at this
        exact this
      by_cases hl6 : len ≤ 6
      · refine told_of_firstX (G := GC) tab_right ifs_right (sumsL_ok sumsC_ok) errs_ng errs_pos (cfg_len a b len (by omega) hl6) hl (hasL_app (five h0 h1 h3 h4 h5) (hint len hle)) (pl := ⟨blk, off, cc.size⟩) hb ?_ ?_
        · intro l args o hq hlive
          exact hne
        · intro Y l args o hr hmu hq
          unfold mkLen at hq
          split at hq
          · cases hq
            simp only [List.cons_append, List.nil_append, rels_cons_cons] at hr
            obtain ⟨r0, r1, r2, r3, r4, r5⟩ := hr
            refine ⟨?_, hobj Y len _ hle r5⟩
            simp only [rels_cons_cons, rels_nil, and_true]
            refine ⟨r0, r1, ?_, r2, r3, r4⟩
            simp only [AV.rel]
            exact ⟨_, off, cap, hmu, rfl, Nat.le_refl _, hle, by simpa using hN, fun _ => rfl, fun h => by cases h⟩
          · cases hq
      · have h7 : 6 ≤ cap := by omega
        refine told_of_firstX (G := GC) tab_right ifs_right (sumsL_ok sumsC_ok) errs_ng errs_pos (cfg_many a b) hl (vals := [v0, v1, v3, v4, v5] ++ (.int .i64 len :: (zs.take 6).map (Value.int .i64))) (hasL_app (five h0 h1 h3 h4 h5) ?_) (pl := ⟨blk, off, cc.size⟩) hb ?_ ?_
        · simp only [Sp.hasL]
          exact ⟨_, _, rfl, by simp only [manyS, Sp.has]; exact ⟨_, rfl, by omega, by omega⟩, hint 6 h7⟩
        · intro l args o hq hlive
          exact hne
        · intro Y l args o hr hmu hq
          unfold mkMany at hq
          split at hq
          · cases hq
            simp only [List.cons_append, List.nil_append, rels_cons_cons] at hr
            obtain ⟨r0, r1, r2, r3, r4, r5, r6⟩ := hr
            refine ⟨?_, hobj Y 6 _ h7 (by simpa only [rels_cons_cons] using r6)⟩
            simp only [rels_cons_cons, rels_nil, and_true]
            refine ⟨r0, r1, ?_, r2, r3, r4⟩
            simp only [AV.rel] at r5 ⊢
            obtain ⟨d5, e5⟩ := r5
            refine ⟨_, len, cap, hmu, rfl, by omega, hle, by simpa using hN, d5, ?_⟩
            simp only [Value.int.injEq, true_and] at e5
            exact e5.symm
          · cases hq
end
end Go.Proofs.YthfllbmlhhkhmaaGreatDoor
