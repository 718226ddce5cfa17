/-
  The walk of the reader's call. Conditions: the reader's block holds the words.
-/
import Derived.Test.YtgajoiijebbagaaGreatDoorRd
import Derived.Laws.EntriesVeiled
/-! The walk of script's reader: call, verb by verb. It says which call it reads, or that it panics, and that outside the reader's own variable nothing that was there has changed. Conditions: the words lie in memory. -/
namespace Go.Proofs.YtgajoiijebbagaaGreatDoor
open Go.RowKit Go.Proofs

theorem run_lookup_yes (w : World) (B : Nat) (es : Array MapEntry) (clock : Nat) (k : ByteArray) (i : Nat) (v : Value) (hb : w.heap[B]? = some (.map es clock)) (hn : Instr.findNow .string (.string k) es.toList 0 = some (some (i, v))) :
    (Instr.lookup 111 (.map (some B)) (.string k) true).run Tryz.prog w = .ok (.tuple #[v, .bool true]) w := by
  have hck := MapKept.run_checkKey (P := Tryz.prog) (w := w) Tryz.underlying9 (k := .string k) ⟨⟩ es.isEmpty 9999
  have hfk : (Instr.findKey 9 (.string k) es.toList).run Tryz.prog w = .ok (some (i, v)) w := by
    simp [Instr.findKey, run_underlying Tryz.underlying9, hn]
  simp [Instr.lookup, run_underlying Tryz.underlying111, MapKept.run_getObj_map hb, hck, hfk, Result.andThen]
theorem run_lookup_no (w : World) (B : Nat) (es : Array MapEntry) (clock : Nat) (k : ByteArray) (hb : w.heap[B]? = some (.map es clock)) (hn : Instr.findNow .string (.string k) es.toList 0 = some none) :
    (Instr.lookup 111 (.map (some B)) (.string k) true).run Tryz.prog w = .ok (.tuple #[.agg #[.int .i64 0, .nilFunc], .bool false]) w := by
  have hck := MapKept.run_checkKey (P := Tryz.prog) (w := w) Tryz.underlying9 (k := .string k) ⟨⟩ es.isEmpty 9999
  have hfk : (Instr.findKey 9 (.string k) es.toList).run Tryz.prog w = .ok none w := by
    simp [Instr.findKey, run_underlying Tryz.underlying9, hn]
  have hz := Tryz.zeroValue109 w
  simp [Instr.lookup, run_underlying Tryz.underlying111, MapKept.run_getObj_map hb, hck, hfk, hz, Result.andThen]

/-- What the reader of a call ends in. -/
def COut2 (rb wb : Nat) (r : Pa.Rd Pa.Cl) (w : World) (e : Ending) (w' : World) : Prop :=
  match r with
  | some (c, ws) => e = .returned (clV c) ∧ StR rb wb ws w' ∧ Kp (· = rb) w w'
  | none => e = .panicked badP ∧ Kp (· = rb) w w'
theorem COut2.yes {rb wb : Nat} {r : Pa.Rd Pa.Cl} {c : Pa.Cl} {ws : List Pa.Bs} {w : World} {e : Ending} {w' : World} (hr : r = some (c, ws)) (h : e = .returned (clV c) ∧ StR rb wb ws w' ∧ Kp (· = rb) w w') : COut2 rb wb r w e w' := by
  unfold COut2; rw [hr]; exact h
theorem COut2.no {rb wb : Nat} {r : Pa.Rd Pa.Cl} {w : World} {e : Ending} {w' : World} (hr : r = none) (h : e = .panicked badP ∧ Kp (· = rb) w w') : COut2 rb wb r w e w' := by
  unfold COut2; rw [hr]; exact h

theorem Kp.wn {S : Nat → Prop} {a w : World} (h : Kp S a w) {b : Nat} (hb : a.heap.size ≤ b) (j : Nat) (v : Value) : Kp S a (w.setCell ⟨b, j, none⟩ v) := h.setCell (p := ⟨b, j, none⟩) (.inr hb) v

theorem call_none (rb wb : Nat) (w : World) (h : StR rb wb [] w) : Calls Tryz.prog 61 #[.pointer (some ⟨rb, 0, none⟩)] w (COut2 rb wb (Pa.rdCall []) w) := by
  go_enter Tryz.func61, Tryz.ntmps61
  go_wp2_with fail
  refine (verbs_any rb _).mono ?_
  rintro e w1 ⟨rfl, rfl⟩
  go_wp2_with fail
  refine (word_none rb wb _ ((h.below ((Below.refl _ _).alloc (Nat.le_refl _) _)).below ((Below.refl _ _).alloc (Nat.le_refl _) _))).mono ?_
  rintro e w2 ⟨rfl, k2⟩
  go_wp2
  exact ⟨rfl, COut2.no rfl ⟨rfl, (((Kp.refl _ _).alloc _).alloc _).trans k2⟩⟩


set_option maxHeartbeats 1000000 in
theorem call_socket (rb wb : Nat) (r : List Pa.Bs) (w : World) (ok : Ok w) (h : StR rb wb (Pa.w_socket :: r) w) : Calls Tryz.prog 61 #[.pointer (some ⟨rb, 0, none⟩)] w (COut2 rb wb (Pa.rdCall (Pa.w_socket :: r)) w) := by
  have hrl := h.rbl
  have hwl := h.wbl
  have hr4 := h.rb4
  have hrd : Pa.rdCall (Pa.w_socket :: r) = Pa.rdProto { Pa.c0 with kind := 1 } r := rfl
  rw [hrd]; clear hrd
  have H0 := rproto
  cases hq : Pa.rdProto { Pa.c0 with kind := 1 } r with
  | none =>
    go_enter Tryz.func61, Tryz.ntmps61
    go_wp2_with fail
    refine (verbs_any rb _).mono ?_
    rintro e w1 ⟨rfl, rfl⟩
    go_wp2_with fail
    refine (word_some rb wb _ r _ ((h.below ((Below.refl _ _).alloc (Nat.le_refl _) _)).below ((Below.refl _ _).alloc (Nat.le_refl _) _))).mono ?_
    rintro e w2 ⟨rfl, s2, k2⟩
    have hz2 := k2.size
    simp only [World.size_alloc] at hz2
    have kw2 : Kp (· = rb) w w2 := (((Kp.refl _ _).alloc _).alloc _).trans k2
    have hb2 : w2.heap[w.heap.size + 1]? = some (.map (vE rb 13) 13) := by
      rw [k2.block _ (by simp) (by show ¬ _ = rb; omega), ← World.size_alloc w]; exact heap_alloc_new _ _
    have hl2 := run_lookup_yes w2 (w.heap.size + 1) (vE rb 13) 13 ⟨#[115, 111, 99, 107, 101, 116]⟩ _ _ hb2 rfl
    unfold vVal at hl2
    have hr2 : RowAt w.heap.size (clCells Pa.c0) w2 := ((RowAt.new w #[.int .i64 0, .int .i64 0, .int .i64 0, .int .i64 0, .int .i64 0, .string ⟨#[]⟩, .int .i64 0, .int .i64 0] 24).below ((Below.refl _ _).alloc (Nat.le_refl _) _)).kp k2 (by show ¬ _ = rb; omega)
    clear hb2
    go_wp2_with fail
    have hrow : RowAt (w2.heap.size + 1) (clCells { Pa.c0 with kind := 1 }) ((w2.alloc (.cells #[.int .i64 1, .func (.func 97) #[.pointer (some ⟨rb, 0, none⟩)] #[]] 109)).alloc (.cells #[.int .i64 1, .int .i64 0, .int .i64 0, .int .i64 0, .int .i64 0, .string ⟨#[]⟩, .int .i64 0, .int .i64 0] 24)) := by
      have := RowAt.new (w2.alloc (.cells #[.int .i64 1, .func (.func 97) #[.pointer (some ⟨rb, 0, none⟩)] #[]] 109)) #[.int .i64 1, .int .i64 0, .int .i64 0, .int .i64 0, .int .i64 0, .string ⟨#[]⟩, .int .i64 0, .int .i64 0] 24
      rw [World.size_alloc] at this; exact this
    have Hc := H0 rb wb (w2.heap.size + 1) _ r _ ((ok.kp kw2 (by intro k hk; show ¬ k = rb; omega)).below (((Below.refl _ _).alloc (Nat.le_refl _) _).alloc (by simp) _)) (s2.below (((Below.refl _ _).alloc (Nat.le_refl _) _).alloc (by simp) _)) hrow (by omega) (by have := s2.wbl; omega) (by omega)
    rw [hq] at Hc
    clear hl2
    refine Hc.mono ?_
    rintro e w3 ⟨rfl, k3⟩
    go_wp2
    exact ⟨rfl, COut2.no rfl ⟨rfl, kw2.trans (Kp.mono ((((Kp.refl _ _).alloc _).alloc _).trans k3) (by intro k hk h; omega))⟩⟩
  | some p =>
    obtain ⟨c, r'⟩ := p
    go_enter Tryz.func61, Tryz.ntmps61
    go_wp2_with fail
    refine (verbs_any rb _).mono ?_
    rintro e w1 ⟨rfl, rfl⟩
    go_wp2_with fail
    refine (word_some rb wb _ r _ ((h.below ((Below.refl _ _).alloc (Nat.le_refl _) _)).below ((Below.refl _ _).alloc (Nat.le_refl _) _))).mono ?_
    rintro e w2 ⟨rfl, s2, k2⟩
    have hz2 := k2.size
    simp only [World.size_alloc] at hz2
    have kw2 : Kp (· = rb) w w2 := (((Kp.refl _ _).alloc _).alloc _).trans k2
    have hb2 : w2.heap[w.heap.size + 1]? = some (.map (vE rb 13) 13) := by
      rw [k2.block _ (by simp) (by show ¬ _ = rb; omega), ← World.size_alloc w]; exact heap_alloc_new _ _
    have hl2 := run_lookup_yes w2 (w.heap.size + 1) (vE rb 13) 13 ⟨#[115, 111, 99, 107, 101, 116]⟩ _ _ hb2 rfl
    unfold vVal at hl2
    have hr2 : RowAt w.heap.size (clCells Pa.c0) w2 := ((RowAt.new w #[.int .i64 0, .int .i64 0, .int .i64 0, .int .i64 0, .int .i64 0, .string ⟨#[]⟩, .int .i64 0, .int .i64 0] 24).below ((Below.refl _ _).alloc (Nat.le_refl _) _)).kp k2 (by show ¬ _ = rb; omega)
    clear hb2
    go_wp2_with fail
    have hrow : RowAt (w2.heap.size + 1) (clCells { Pa.c0 with kind := 1 }) ((w2.alloc (.cells #[.int .i64 1, .func (.func 97) #[.pointer (some ⟨rb, 0, none⟩)] #[]] 109)).alloc (.cells #[.int .i64 1, .int .i64 0, .int .i64 0, .int .i64 0, .int .i64 0, .string ⟨#[]⟩, .int .i64 0, .int .i64 0] 24)) := by
      have := RowAt.new (w2.alloc (.cells #[.int .i64 1, .func (.func 97) #[.pointer (some ⟨rb, 0, none⟩)] #[]] 109)) #[.int .i64 1, .int .i64 0, .int .i64 0, .int .i64 0, .int .i64 0, .string ⟨#[]⟩, .int .i64 0, .int .i64 0] 24
      rw [World.size_alloc] at this; exact this
    have Hc := H0 rb wb (w2.heap.size + 1) _ r _ ((ok.kp kw2 (by intro k hk; show ¬ k = rb; omega)).below (((Below.refl _ _).alloc (Nat.le_refl _) _).alloc (by simp) _)) (s2.below (((Below.refl _ _).alloc (Nat.le_refl _) _).alloc (by simp) _)) hrow (by omega) (by have := s2.wbl; omega) (by omega)
    rw [hq] at Hc
    clear hl2
    refine Hc.mono ?_
    rintro e w3 ⟨rfl, s3, c3, k3⟩
    have hr3 : RowAt w.heap.size (clCells Pa.c0) w3 := (hr2.below (((Below.refl _ _).alloc (Nat.le_refl _) _).alloc (by simp) _)).kp k3 (by omega)
    have hz3 := k3.size
    simp only [World.size_alloc] at hz3
    have kw3 : Kp (· = rb) w w3 := kw2.trans (Kp.mono ((((Kp.refl _ _).alloc _).alloc _).trans k3) (by intro k hk h; omega))
    obtain ⟨x0, x1, x2, x3, x4, x5, x6, x7⟩ := c
    have d0 := (c3.2 0 _ rfl).1
    have d1 := (c3.2 1 _ rfl).1
    have d2 := (c3.2 2 _ rfl).1
    have d3 := (c3.2 3 _ rfl).1
    have d4 := (c3.2 4 _ rfl).1
    have d5 := (c3.2 5 _ rfl).1
    have d6 := (c3.2 6 _ rfl).1
    have d7 := (c3.2 7 _ rfl).1
    have ⟨e0, f0⟩ := hr3.2 0 _ rfl
    have ⟨e1, f1⟩ := hr3.2 1 _ rfl
    have ⟨e2, f2⟩ := hr3.2 2 _ rfl
    have ⟨e3, f3⟩ := hr3.2 3 _ rfl
    have ⟨e4, f4⟩ := hr3.2 4 _ rfl
    have ⟨e5, f5⟩ := hr3.2 5 _ rfl
    have ⟨e6, f6⟩ := hr3.2 6 _ rfl
    have ⟨e7, f7⟩ := hr3.2 7 _ rfl
    have hA : w.heap.size ≠ rb := by omega
    have hB : w.heap.size ≠ wb := by omega
    go_wp2
    refine bodyPost_ret (v := clV ⟨x0, x1, x2, x3, x4, x5, x6, x7⟩) (by simp [results, Tryz.results61, go_sem, clV, e0, e1, e2, e3, e4, e5, e6, e7]) rfl (COut2.yes rfl ⟨rfl, ?_, ?_⟩)
    · exact (((((((s3.wr hA hB _ _).wr hA hB _ _).wr hA hB _ _).wr hA hB _ _).wr hA hB _ _).wr hA hB _ _).wr hA hB _ _).wr hA hB _ _
    · exact (((((((kw3.wn (Nat.le_refl _) _ _).wn (Nat.le_refl _) _ _).wn (Nat.le_refl _) _ _).wn (Nat.le_refl _) _ _).wn (Nat.le_refl _) _ _).wn (Nat.le_refl _) _ _).wn (Nat.le_refl _) _ _).wn (Nat.le_refl _) _ _


set_option maxHeartbeats 1000000 in
theorem call_bind (rb wb : Nat) (r : List Pa.Bs) (w : World) (ok : Ok w) (h : StR rb wb (Pa.w_bind :: r) w) : Calls Tryz.prog 61 #[.pointer (some ⟨rb, 0, none⟩)] w (COut2 rb wb (Pa.rdCall (Pa.w_bind :: r)) w) := by
  have hrl := h.rbl
  have hwl := h.wbl
  have hr4 := h.rb4
  have hrd : Pa.rdCall (Pa.w_bind :: r) = Pa.rdBind { Pa.c0 with kind := 2 } r := rfl
  rw [hrd]; clear hrd
  have H0 := rbinding
  cases hq : Pa.rdBind { Pa.c0 with kind := 2 } r with
  | none =>
    go_enter Tryz.func61, Tryz.ntmps61
    go_wp2_with fail
    refine (verbs_any rb _).mono ?_
    rintro e w1 ⟨rfl, rfl⟩
    go_wp2_with fail
    refine (word_some rb wb _ r _ ((h.below ((Below.refl _ _).alloc (Nat.le_refl _) _)).below ((Below.refl _ _).alloc (Nat.le_refl _) _))).mono ?_
    rintro e w2 ⟨rfl, s2, k2⟩
    have hz2 := k2.size
    simp only [World.size_alloc] at hz2
    have kw2 : Kp (· = rb) w w2 := (((Kp.refl _ _).alloc _).alloc _).trans k2
    have hb2 : w2.heap[w.heap.size + 1]? = some (.map (vE rb 13) 13) := by
      rw [k2.block _ (by simp) (by show ¬ _ = rb; omega), ← World.size_alloc w]; exact heap_alloc_new _ _
    have hl2 := run_lookup_yes w2 (w.heap.size + 1) (vE rb 13) 13 ⟨#[98, 105, 110, 100]⟩ _ _ hb2 rfl
    unfold vVal at hl2
    have hr2 : RowAt w.heap.size (clCells Pa.c0) w2 := ((RowAt.new w #[.int .i64 0, .int .i64 0, .int .i64 0, .int .i64 0, .int .i64 0, .string ⟨#[]⟩, .int .i64 0, .int .i64 0] 24).below ((Below.refl _ _).alloc (Nat.le_refl _) _)).kp k2 (by show ¬ _ = rb; omega)
    clear hb2
    go_wp2_with fail
    have hrow : RowAt (w2.heap.size + 1) (clCells { Pa.c0 with kind := 2 }) ((w2.alloc (.cells #[.int .i64 2, .func (.func 98) #[.pointer (some ⟨rb, 0, none⟩)] #[]] 109)).alloc (.cells #[.int .i64 2, .int .i64 0, .int .i64 0, .int .i64 0, .int .i64 0, .string ⟨#[]⟩, .int .i64 0, .int .i64 0] 24)) := by
      have := RowAt.new (w2.alloc (.cells #[.int .i64 2, .func (.func 98) #[.pointer (some ⟨rb, 0, none⟩)] #[]] 109)) #[.int .i64 2, .int .i64 0, .int .i64 0, .int .i64 0, .int .i64 0, .string ⟨#[]⟩, .int .i64 0, .int .i64 0] 24
      rw [World.size_alloc] at this; exact this
    have Hc := H0 rb wb (w2.heap.size + 1) _ r _ ((ok.kp kw2 (by intro k hk; show ¬ k = rb; omega)).below (((Below.refl _ _).alloc (Nat.le_refl _) _).alloc (by simp) _)) (s2.below (((Below.refl _ _).alloc (Nat.le_refl _) _).alloc (by simp) _)) hrow (by omega) (by have := s2.wbl; omega) (by omega)
    rw [hq] at Hc
    clear hl2
    refine Hc.mono ?_
    rintro e w3 ⟨rfl, k3⟩
    go_wp2
    exact ⟨rfl, COut2.no rfl ⟨rfl, kw2.trans (Kp.mono ((((Kp.refl _ _).alloc _).alloc _).trans k3) (by intro k hk h; omega))⟩⟩
  | some p =>
    obtain ⟨c, r'⟩ := p
    go_enter Tryz.func61, Tryz.ntmps61
    go_wp2_with fail
    refine (verbs_any rb _).mono ?_
    rintro e w1 ⟨rfl, rfl⟩
    go_wp2_with fail
    refine (word_some rb wb _ r _ ((h.below ((Below.refl _ _).alloc (Nat.le_refl _) _)).below ((Below.refl _ _).alloc (Nat.le_refl _) _))).mono ?_
    rintro e w2 ⟨rfl, s2, k2⟩
    have hz2 := k2.size
    simp only [World.size_alloc] at hz2
    have kw2 : Kp (· = rb) w w2 := (((Kp.refl _ _).alloc _).alloc _).trans k2
    have hb2 : w2.heap[w.heap.size + 1]? = some (.map (vE rb 13) 13) := by
      rw [k2.block _ (by simp) (by show ¬ _ = rb; omega), ← World.size_alloc w]; exact heap_alloc_new _ _
    have hl2 := run_lookup_yes w2 (w.heap.size + 1) (vE rb 13) 13 ⟨#[98, 105, 110, 100]⟩ _ _ hb2 rfl
    unfold vVal at hl2
    have hr2 : RowAt w.heap.size (clCells Pa.c0) w2 := ((RowAt.new w #[.int .i64 0, .int .i64 0, .int .i64 0, .int .i64 0, .int .i64 0, .string ⟨#[]⟩, .int .i64 0, .int .i64 0] 24).below ((Below.refl _ _).alloc (Nat.le_refl _) _)).kp k2 (by show ¬ _ = rb; omega)
    clear hb2
    go_wp2_with fail
    have hrow : RowAt (w2.heap.size + 1) (clCells { Pa.c0 with kind := 2 }) ((w2.alloc (.cells #[.int .i64 2, .func (.func 98) #[.pointer (some ⟨rb, 0, none⟩)] #[]] 109)).alloc (.cells #[.int .i64 2, .int .i64 0, .int .i64 0, .int .i64 0, .int .i64 0, .string ⟨#[]⟩, .int .i64 0, .int .i64 0] 24)) := by
      have := RowAt.new (w2.alloc (.cells #[.int .i64 2, .func (.func 98) #[.pointer (some ⟨rb, 0, none⟩)] #[]] 109)) #[.int .i64 2, .int .i64 0, .int .i64 0, .int .i64 0, .int .i64 0, .string ⟨#[]⟩, .int .i64 0, .int .i64 0] 24
      rw [World.size_alloc] at this; exact this
    have Hc := H0 rb wb (w2.heap.size + 1) _ r _ ((ok.kp kw2 (by intro k hk; show ¬ k = rb; omega)).below (((Below.refl _ _).alloc (Nat.le_refl _) _).alloc (by simp) _)) (s2.below (((Below.refl _ _).alloc (Nat.le_refl _) _).alloc (by simp) _)) hrow (by omega) (by have := s2.wbl; omega) (by omega)
    rw [hq] at Hc
    clear hl2
    refine Hc.mono ?_
    rintro e w3 ⟨rfl, s3, c3, k3⟩
    have hr3 : RowAt w.heap.size (clCells Pa.c0) w3 := (hr2.below (((Below.refl _ _).alloc (Nat.le_refl _) _).alloc (by simp) _)).kp k3 (by omega)
    have hz3 := k3.size
    simp only [World.size_alloc] at hz3
    have kw3 : Kp (· = rb) w w3 := kw2.trans (Kp.mono ((((Kp.refl _ _).alloc _).alloc _).trans k3) (by intro k hk h; omega))
    obtain ⟨x0, x1, x2, x3, x4, x5, x6, x7⟩ := c
    have d0 := (c3.2 0 _ rfl).1
    have d1 := (c3.2 1 _ rfl).1
    have d2 := (c3.2 2 _ rfl).1
    have d3 := (c3.2 3 _ rfl).1
    have d4 := (c3.2 4 _ rfl).1
    have d5 := (c3.2 5 _ rfl).1
    have d6 := (c3.2 6 _ rfl).1
    have d7 := (c3.2 7 _ rfl).1
    have ⟨e0, f0⟩ := hr3.2 0 _ rfl
    have ⟨e1, f1⟩ := hr3.2 1 _ rfl
    have ⟨e2, f2⟩ := hr3.2 2 _ rfl
    have ⟨e3, f3⟩ := hr3.2 3 _ rfl
    have ⟨e4, f4⟩ := hr3.2 4 _ rfl
    have ⟨e5, f5⟩ := hr3.2 5 _ rfl
    have ⟨e6, f6⟩ := hr3.2 6 _ rfl
    have ⟨e7, f7⟩ := hr3.2 7 _ rfl
    have hA : w.heap.size ≠ rb := by omega
    have hB : w.heap.size ≠ wb := by omega
    go_wp2
    refine bodyPost_ret (v := clV ⟨x0, x1, x2, x3, x4, x5, x6, x7⟩) (by simp [results, Tryz.results61, go_sem, clV, e0, e1, e2, e3, e4, e5, e6, e7]) rfl (COut2.yes rfl ⟨rfl, ?_, ?_⟩)
    · exact (((((((s3.wr hA hB _ _).wr hA hB _ _).wr hA hB _ _).wr hA hB _ _).wr hA hB _ _).wr hA hB _ _).wr hA hB _ _).wr hA hB _ _
    · exact (((((((kw3.wn (Nat.le_refl _) _ _).wn (Nat.le_refl _) _ _).wn (Nat.le_refl _) _ _).wn (Nat.le_refl _) _ _).wn (Nat.le_refl _) _ _).wn (Nat.le_refl _) _ _).wn (Nat.le_refl _) _ _).wn (Nat.le_refl _) _ _


set_option maxHeartbeats 1000000 in
theorem call_listen (rb wb : Nat) (r : List Pa.Bs) (w : World) (ok : Ok w) (h : StR rb wb (Pa.w_listen :: r) w) : Calls Tryz.prog 61 #[.pointer (some ⟨rb, 0, none⟩)] w (COut2 rb wb (Pa.rdCall (Pa.w_listen :: r)) w) := by
  have hrl := h.rbl
  have hwl := h.wbl
  have hr4 := h.rb4
  have hrd : Pa.rdCall (Pa.w_listen :: r) = Pa.rdCount { Pa.c0 with kind := 3 } r := rfl
  rw [hrd]; clear hrd
  have H0 := rcount
  cases hq : Pa.rdCount { Pa.c0 with kind := 3 } r with
  | none =>
    go_enter Tryz.func61, Tryz.ntmps61
    go_wp2_with fail
    refine (verbs_any rb _).mono ?_
    rintro e w1 ⟨rfl, rfl⟩
    go_wp2_with fail
    refine (word_some rb wb _ r _ ((h.below ((Below.refl _ _).alloc (Nat.le_refl _) _)).below ((Below.refl _ _).alloc (Nat.le_refl _) _))).mono ?_
    rintro e w2 ⟨rfl, s2, k2⟩
    have hz2 := k2.size
    simp only [World.size_alloc] at hz2
    have kw2 : Kp (· = rb) w w2 := (((Kp.refl _ _).alloc _).alloc _).trans k2
    have hb2 : w2.heap[w.heap.size + 1]? = some (.map (vE rb 13) 13) := by
      rw [k2.block _ (by simp) (by show ¬ _ = rb; omega), ← World.size_alloc w]; exact heap_alloc_new _ _
    have hl2 := run_lookup_yes w2 (w.heap.size + 1) (vE rb 13) 13 ⟨#[108, 105, 115, 116, 101, 110]⟩ _ _ hb2 rfl
    unfold vVal at hl2
    have hr2 : RowAt w.heap.size (clCells Pa.c0) w2 := ((RowAt.new w #[.int .i64 0, .int .i64 0, .int .i64 0, .int .i64 0, .int .i64 0, .string ⟨#[]⟩, .int .i64 0, .int .i64 0] 24).below ((Below.refl _ _).alloc (Nat.le_refl _) _)).kp k2 (by show ¬ _ = rb; omega)
    clear hb2
    go_wp2_with fail
    have hrow : RowAt (w2.heap.size + 1) (clCells { Pa.c0 with kind := 3 }) ((w2.alloc (.cells #[.int .i64 3, .func (.func 99) #[.pointer (some ⟨rb, 0, none⟩)] #[]] 109)).alloc (.cells #[.int .i64 3, .int .i64 0, .int .i64 0, .int .i64 0, .int .i64 0, .string ⟨#[]⟩, .int .i64 0, .int .i64 0] 24)) := by
      have := RowAt.new (w2.alloc (.cells #[.int .i64 3, .func (.func 99) #[.pointer (some ⟨rb, 0, none⟩)] #[]] 109)) #[.int .i64 3, .int .i64 0, .int .i64 0, .int .i64 0, .int .i64 0, .string ⟨#[]⟩, .int .i64 0, .int .i64 0] 24
      rw [World.size_alloc] at this; exact this
    have Hc := H0 rb wb (w2.heap.size + 1) _ r _ ((ok.kp kw2 (by intro k hk; show ¬ k = rb; omega)).below (((Below.refl _ _).alloc (Nat.le_refl _) _).alloc (by simp) _)) (s2.below (((Below.refl _ _).alloc (Nat.le_refl _) _).alloc (by simp) _)) hrow (by omega) (by have := s2.wbl; omega) (by omega)
    rw [hq] at Hc
    clear hl2
    refine Hc.mono ?_
    rintro e w3 ⟨rfl, k3⟩
    go_wp2
    exact ⟨rfl, COut2.no rfl ⟨rfl, kw2.trans (Kp.mono ((((Kp.refl _ _).alloc _).alloc _).trans k3) (by intro k hk h; omega))⟩⟩
  | some p =>
    obtain ⟨c, r'⟩ := p
    go_enter Tryz.func61, Tryz.ntmps61
    go_wp2_with fail
    refine (verbs_any rb _).mono ?_
    rintro e w1 ⟨rfl, rfl⟩
    go_wp2_with fail
    refine (word_some rb wb _ r _ ((h.below ((Below.refl _ _).alloc (Nat.le_refl _) _)).below ((Below.refl _ _).alloc (Nat.le_refl _) _))).mono ?_
    rintro e w2 ⟨rfl, s2, k2⟩
    have hz2 := k2.size
    simp only [World.size_alloc] at hz2
    have kw2 : Kp (· = rb) w w2 := (((Kp.refl _ _).alloc _).alloc _).trans k2
    have hb2 : w2.heap[w.heap.size + 1]? = some (.map (vE rb 13) 13) := by
      rw [k2.block _ (by simp) (by show ¬ _ = rb; omega), ← World.size_alloc w]; exact heap_alloc_new _ _
    have hl2 := run_lookup_yes w2 (w.heap.size + 1) (vE rb 13) 13 ⟨#[108, 105, 115, 116, 101, 110]⟩ _ _ hb2 rfl
    unfold vVal at hl2
    have hr2 : RowAt w.heap.size (clCells Pa.c0) w2 := ((RowAt.new w #[.int .i64 0, .int .i64 0, .int .i64 0, .int .i64 0, .int .i64 0, .string ⟨#[]⟩, .int .i64 0, .int .i64 0] 24).below ((Below.refl _ _).alloc (Nat.le_refl _) _)).kp k2 (by show ¬ _ = rb; omega)
    clear hb2
    go_wp2_with fail
    have hrow : RowAt (w2.heap.size + 1) (clCells { Pa.c0 with kind := 3 }) ((w2.alloc (.cells #[.int .i64 3, .func (.func 99) #[.pointer (some ⟨rb, 0, none⟩)] #[]] 109)).alloc (.cells #[.int .i64 3, .int .i64 0, .int .i64 0, .int .i64 0, .int .i64 0, .string ⟨#[]⟩, .int .i64 0, .int .i64 0] 24)) := by
      have := RowAt.new (w2.alloc (.cells #[.int .i64 3, .func (.func 99) #[.pointer (some ⟨rb, 0, none⟩)] #[]] 109)) #[.int .i64 3, .int .i64 0, .int .i64 0, .int .i64 0, .int .i64 0, .string ⟨#[]⟩, .int .i64 0, .int .i64 0] 24
      rw [World.size_alloc] at this; exact this
    have Hc := H0 rb wb (w2.heap.size + 1) _ r _ ((ok.kp kw2 (by intro k hk; show ¬ k = rb; omega)).below (((Below.refl _ _).alloc (Nat.le_refl _) _).alloc (by simp) _)) (s2.below (((Below.refl _ _).alloc (Nat.le_refl _) _).alloc (by simp) _)) hrow (by omega) (by have := s2.wbl; omega) (by omega)
    rw [hq] at Hc
    clear hl2
    refine Hc.mono ?_
    rintro e w3 ⟨rfl, s3, c3, k3⟩
    have hr3 : RowAt w.heap.size (clCells Pa.c0) w3 := (hr2.below (((Below.refl _ _).alloc (Nat.le_refl _) _).alloc (by simp) _)).kp k3 (by omega)
    have hz3 := k3.size
    simp only [World.size_alloc] at hz3
    have kw3 : Kp (· = rb) w w3 := kw2.trans (Kp.mono ((((Kp.refl _ _).alloc _).alloc _).trans k3) (by intro k hk h; omega))
    obtain ⟨x0, x1, x2, x3, x4, x5, x6, x7⟩ := c
    have d0 := (c3.2 0 _ rfl).1
    have d1 := (c3.2 1 _ rfl).1
    have d2 := (c3.2 2 _ rfl).1
    have d3 := (c3.2 3 _ rfl).1
    have d4 := (c3.2 4 _ rfl).1
    have d5 := (c3.2 5 _ rfl).1
    have d6 := (c3.2 6 _ rfl).1
    have d7 := (c3.2 7 _ rfl).1
    have ⟨e0, f0⟩ := hr3.2 0 _ rfl
    have ⟨e1, f1⟩ := hr3.2 1 _ rfl
    have ⟨e2, f2⟩ := hr3.2 2 _ rfl
    have ⟨e3, f3⟩ := hr3.2 3 _ rfl
    have ⟨e4, f4⟩ := hr3.2 4 _ rfl
    have ⟨e5, f5⟩ := hr3.2 5 _ rfl
    have ⟨e6, f6⟩ := hr3.2 6 _ rfl
    have ⟨e7, f7⟩ := hr3.2 7 _ rfl
    have hA : w.heap.size ≠ rb := by omega
    have hB : w.heap.size ≠ wb := by omega
    go_wp2
    refine bodyPost_ret (v := clV ⟨x0, x1, x2, x3, x4, x5, x6, x7⟩) (by simp [results, Tryz.results61, go_sem, clV, e0, e1, e2, e3, e4, e5, e6, e7]) rfl (COut2.yes rfl ⟨rfl, ?_, ?_⟩)
    · exact (((((((s3.wr hA hB _ _).wr hA hB _ _).wr hA hB _ _).wr hA hB _ _).wr hA hB _ _).wr hA hB _ _).wr hA hB _ _).wr hA hB _ _
    · exact (((((((kw3.wn (Nat.le_refl _) _ _).wn (Nat.le_refl _) _ _).wn (Nat.le_refl _) _ _).wn (Nat.le_refl _) _ _).wn (Nat.le_refl _) _ _).wn (Nat.le_refl _) _ _).wn (Nat.le_refl _) _ _).wn (Nat.le_refl _) _ _


set_option maxHeartbeats 1000000 in
theorem call_connect (rb wb : Nat) (r : List Pa.Bs) (w : World) (ok : Ok w) (h : StR rb wb (Pa.w_connect :: r) w) : Calls Tryz.prog 61 #[.pointer (some ⟨rb, 0, none⟩)] w (COut2 rb wb (Pa.rdCall (Pa.w_connect :: r)) w) := by
  have hrl := h.rbl
  have hwl := h.wbl
  have hr4 := h.rb4
  have hrd : Pa.rdCall (Pa.w_connect :: r) = Pa.rdPeer { Pa.c0 with kind := 4 } r := rfl
  rw [hrd]; clear hrd
  have H0 := rpeer
  cases hq : Pa.rdPeer { Pa.c0 with kind := 4 } r with
  | none =>
    go_enter Tryz.func61, Tryz.ntmps61
    go_wp2_with fail
    refine (verbs_any rb _).mono ?_
    rintro e w1 ⟨rfl, rfl⟩
    go_wp2_with fail
    refine (word_some rb wb _ r _ ((h.below ((Below.refl _ _).alloc (Nat.le_refl _) _)).below ((Below.refl _ _).alloc (Nat.le_refl _) _))).mono ?_
    rintro e w2 ⟨rfl, s2, k2⟩
    have hz2 := k2.size
    simp only [World.size_alloc] at hz2
    have kw2 : Kp (· = rb) w w2 := (((Kp.refl _ _).alloc _).alloc _).trans k2
    have hb2 : w2.heap[w.heap.size + 1]? = some (.map (vE rb 13) 13) := by
      rw [k2.block _ (by simp) (by show ¬ _ = rb; omega), ← World.size_alloc w]; exact heap_alloc_new _ _
    have hl2 := run_lookup_yes w2 (w.heap.size + 1) (vE rb 13) 13 ⟨#[99, 111, 110, 110, 101, 99, 116]⟩ _ _ hb2 rfl
    unfold vVal at hl2
    have hr2 : RowAt w.heap.size (clCells Pa.c0) w2 := ((RowAt.new w #[.int .i64 0, .int .i64 0, .int .i64 0, .int .i64 0, .int .i64 0, .string ⟨#[]⟩, .int .i64 0, .int .i64 0] 24).below ((Below.refl _ _).alloc (Nat.le_refl _) _)).kp k2 (by show ¬ _ = rb; omega)
    clear hb2
    go_wp2_with fail
    have hrow : RowAt (w2.heap.size + 1) (clCells { Pa.c0 with kind := 4 }) ((w2.alloc (.cells #[.int .i64 4, .func (.func 100) #[.pointer (some ⟨rb, 0, none⟩)] #[]] 109)).alloc (.cells #[.int .i64 4, .int .i64 0, .int .i64 0, .int .i64 0, .int .i64 0, .string ⟨#[]⟩, .int .i64 0, .int .i64 0] 24)) := by
      have := RowAt.new (w2.alloc (.cells #[.int .i64 4, .func (.func 100) #[.pointer (some ⟨rb, 0, none⟩)] #[]] 109)) #[.int .i64 4, .int .i64 0, .int .i64 0, .int .i64 0, .int .i64 0, .string ⟨#[]⟩, .int .i64 0, .int .i64 0] 24
      rw [World.size_alloc] at this; exact this
    have Hc := H0 rb wb (w2.heap.size + 1) _ r _ ((ok.kp kw2 (by intro k hk; show ¬ k = rb; omega)).below (((Below.refl _ _).alloc (Nat.le_refl _) _).alloc (by simp) _)) (s2.below (((Below.refl _ _).alloc (Nat.le_refl _) _).alloc (by simp) _)) hrow (by omega) (by have := s2.wbl; omega) (by omega)
    rw [hq] at Hc
    clear hl2
    refine Hc.mono ?_
    rintro e w3 ⟨rfl, k3⟩
    go_wp2
    exact ⟨rfl, COut2.no rfl ⟨rfl, kw2.trans (Kp.mono ((((Kp.refl _ _).alloc _).alloc _).trans k3) (by intro k hk h; omega))⟩⟩
  | some p =>
    obtain ⟨c, r'⟩ := p
    go_enter Tryz.func61, Tryz.ntmps61
    go_wp2_with fail
    refine (verbs_any rb _).mono ?_
    rintro e w1 ⟨rfl, rfl⟩
    go_wp2_with fail
    refine (word_some rb wb _ r _ ((h.below ((Below.refl _ _).alloc (Nat.le_refl _) _)).below ((Below.refl _ _).alloc (Nat.le_refl _) _))).mono ?_
    rintro e w2 ⟨rfl, s2, k2⟩
    have hz2 := k2.size
    simp only [World.size_alloc] at hz2
    have kw2 : Kp (· = rb) w w2 := (((Kp.refl _ _).alloc _).alloc _).trans k2
    have hb2 : w2.heap[w.heap.size + 1]? = some (.map (vE rb 13) 13) := by
      rw [k2.block _ (by simp) (by show ¬ _ = rb; omega), ← World.size_alloc w]; exact heap_alloc_new _ _
    have hl2 := run_lookup_yes w2 (w.heap.size + 1) (vE rb 13) 13 ⟨#[99, 111, 110, 110, 101, 99, 116]⟩ _ _ hb2 rfl
    unfold vVal at hl2
    have hr2 : RowAt w.heap.size (clCells Pa.c0) w2 := ((RowAt.new w #[.int .i64 0, .int .i64 0, .int .i64 0, .int .i64 0, .int .i64 0, .string ⟨#[]⟩, .int .i64 0, .int .i64 0] 24).below ((Below.refl _ _).alloc (Nat.le_refl _) _)).kp k2 (by show ¬ _ = rb; omega)
    clear hb2
    go_wp2_with fail
    have hrow : RowAt (w2.heap.size + 1) (clCells { Pa.c0 with kind := 4 }) ((w2.alloc (.cells #[.int .i64 4, .func (.func 100) #[.pointer (some ⟨rb, 0, none⟩)] #[]] 109)).alloc (.cells #[.int .i64 4, .int .i64 0, .int .i64 0, .int .i64 0, .int .i64 0, .string ⟨#[]⟩, .int .i64 0, .int .i64 0] 24)) := by
      have := RowAt.new (w2.alloc (.cells #[.int .i64 4, .func (.func 100) #[.pointer (some ⟨rb, 0, none⟩)] #[]] 109)) #[.int .i64 4, .int .i64 0, .int .i64 0, .int .i64 0, .int .i64 0, .string ⟨#[]⟩, .int .i64 0, .int .i64 0] 24
      rw [World.size_alloc] at this; exact this
    have Hc := H0 rb wb (w2.heap.size + 1) _ r _ ((ok.kp kw2 (by intro k hk; show ¬ k = rb; omega)).below (((Below.refl _ _).alloc (Nat.le_refl _) _).alloc (by simp) _)) (s2.below (((Below.refl _ _).alloc (Nat.le_refl _) _).alloc (by simp) _)) hrow (by omega) (by have := s2.wbl; omega) (by omega)
    rw [hq] at Hc
    clear hl2
    refine Hc.mono ?_
    rintro e w3 ⟨rfl, s3, c3, k3⟩
    have hr3 : RowAt w.heap.size (clCells Pa.c0) w3 := (hr2.below (((Below.refl _ _).alloc (Nat.le_refl _) _).alloc (by simp) _)).kp k3 (by omega)
    have hz3 := k3.size
    simp only [World.size_alloc] at hz3
    have kw3 : Kp (· = rb) w w3 := kw2.trans (Kp.mono ((((Kp.refl _ _).alloc _).alloc _).trans k3) (by intro k hk h; omega))
    obtain ⟨x0, x1, x2, x3, x4, x5, x6, x7⟩ := c
    have d0 := (c3.2 0 _ rfl).1
    have d1 := (c3.2 1 _ rfl).1
    have d2 := (c3.2 2 _ rfl).1
    have d3 := (c3.2 3 _ rfl).1
    have d4 := (c3.2 4 _ rfl).1
    have d5 := (c3.2 5 _ rfl).1
    have d6 := (c3.2 6 _ rfl).1
    have d7 := (c3.2 7 _ rfl).1
    have ⟨e0, f0⟩ := hr3.2 0 _ rfl
    have ⟨e1, f1⟩ := hr3.2 1 _ rfl
    have ⟨e2, f2⟩ := hr3.2 2 _ rfl
    have ⟨e3, f3⟩ := hr3.2 3 _ rfl
    have ⟨e4, f4⟩ := hr3.2 4 _ rfl
    have ⟨e5, f5⟩ := hr3.2 5 _ rfl
    have ⟨e6, f6⟩ := hr3.2 6 _ rfl
    have ⟨e7, f7⟩ := hr3.2 7 _ rfl
    have hA : w.heap.size ≠ rb := by omega
    have hB : w.heap.size ≠ wb := by omega
    go_wp2
    refine bodyPost_ret (v := clV ⟨x0, x1, x2, x3, x4, x5, x6, x7⟩) (by simp [results, Tryz.results61, go_sem, clV, e0, e1, e2, e3, e4, e5, e6, e7]) rfl (COut2.yes rfl ⟨rfl, ?_, ?_⟩)
    · exact (((((((s3.wr hA hB _ _).wr hA hB _ _).wr hA hB _ _).wr hA hB _ _).wr hA hB _ _).wr hA hB _ _).wr hA hB _ _).wr hA hB _ _
    · exact (((((((kw3.wn (Nat.le_refl _) _ _).wn (Nat.le_refl _) _ _).wn (Nat.le_refl _) _ _).wn (Nat.le_refl _) _ _).wn (Nat.le_refl _) _ _).wn (Nat.le_refl _) _ _).wn (Nat.le_refl _) _ _).wn (Nat.le_refl _) _ _


set_option maxHeartbeats 1000000 in
theorem call_accept (rb wb : Nat) (r : List Pa.Bs) (w : World) (ok : Ok w) (h : StR rb wb (Pa.w_accept :: r) w) : Calls Tryz.prog 61 #[.pointer (some ⟨rb, 0, none⟩)] w (COut2 rb wb (Pa.rdCall (Pa.w_accept :: r)) w) := by
  have hrl := h.rbl
  have hwl := h.wbl
  have hr4 := h.rb4
  have hrd : Pa.rdCall (Pa.w_accept :: r) = Pa.rdSock { Pa.c0 with kind := 5 } r := rfl
  rw [hrd]; clear hrd
  have H0 := rsock
  cases hq : Pa.rdSock { Pa.c0 with kind := 5 } r with
  | none =>
    go_enter Tryz.func61, Tryz.ntmps61
    go_wp2_with fail
    refine (verbs_any rb _).mono ?_
    rintro e w1 ⟨rfl, rfl⟩
    go_wp2_with fail
    refine (word_some rb wb _ r _ ((h.below ((Below.refl _ _).alloc (Nat.le_refl _) _)).below ((Below.refl _ _).alloc (Nat.le_refl _) _))).mono ?_
    rintro e w2 ⟨rfl, s2, k2⟩
    have hz2 := k2.size
    simp only [World.size_alloc] at hz2
    have kw2 : Kp (· = rb) w w2 := (((Kp.refl _ _).alloc _).alloc _).trans k2
    have hb2 : w2.heap[w.heap.size + 1]? = some (.map (vE rb 13) 13) := by
      rw [k2.block _ (by simp) (by show ¬ _ = rb; omega), ← World.size_alloc w]; exact heap_alloc_new _ _
    have hl2 := run_lookup_yes w2 (w.heap.size + 1) (vE rb 13) 13 ⟨#[97, 99, 99, 101, 112, 116]⟩ _ _ hb2 rfl
    unfold vVal at hl2
    have hr2 : RowAt w.heap.size (clCells Pa.c0) w2 := ((RowAt.new w #[.int .i64 0, .int .i64 0, .int .i64 0, .int .i64 0, .int .i64 0, .string ⟨#[]⟩, .int .i64 0, .int .i64 0] 24).below ((Below.refl _ _).alloc (Nat.le_refl _) _)).kp k2 (by show ¬ _ = rb; omega)
    clear hb2
    go_wp2_with fail
    have hrow : RowAt (w2.heap.size + 1) (clCells { Pa.c0 with kind := 5 }) ((w2.alloc (.cells #[.int .i64 5, .func (.func 101) #[.pointer (some ⟨rb, 0, none⟩)] #[]] 109)).alloc (.cells #[.int .i64 5, .int .i64 0, .int .i64 0, .int .i64 0, .int .i64 0, .string ⟨#[]⟩, .int .i64 0, .int .i64 0] 24)) := by
      have := RowAt.new (w2.alloc (.cells #[.int .i64 5, .func (.func 101) #[.pointer (some ⟨rb, 0, none⟩)] #[]] 109)) #[.int .i64 5, .int .i64 0, .int .i64 0, .int .i64 0, .int .i64 0, .string ⟨#[]⟩, .int .i64 0, .int .i64 0] 24
      rw [World.size_alloc] at this; exact this
    have Hc := H0 rb wb (w2.heap.size + 1) _ r _ ((ok.kp kw2 (by intro k hk; show ¬ k = rb; omega)).below (((Below.refl _ _).alloc (Nat.le_refl _) _).alloc (by simp) _)) (s2.below (((Below.refl _ _).alloc (Nat.le_refl _) _).alloc (by simp) _)) hrow (by omega) (by have := s2.wbl; omega) (by omega)
    rw [hq] at Hc
    clear hl2
    refine Hc.mono ?_
    rintro e w3 ⟨rfl, k3⟩
    go_wp2
    exact ⟨rfl, COut2.no rfl ⟨rfl, kw2.trans (Kp.mono ((((Kp.refl _ _).alloc _).alloc _).trans k3) (by intro k hk h; omega))⟩⟩
  | some p =>
    obtain ⟨c, r'⟩ := p
    go_enter Tryz.func61, Tryz.ntmps61
    go_wp2_with fail
    refine (verbs_any rb _).mono ?_
    rintro e w1 ⟨rfl, rfl⟩
    go_wp2_with fail
    refine (word_some rb wb _ r _ ((h.below ((Below.refl _ _).alloc (Nat.le_refl _) _)).below ((Below.refl _ _).alloc (Nat.le_refl _) _))).mono ?_
    rintro e w2 ⟨rfl, s2, k2⟩
    have hz2 := k2.size
    simp only [World.size_alloc] at hz2
    have kw2 : Kp (· = rb) w w2 := (((Kp.refl _ _).alloc _).alloc _).trans k2
    have hb2 : w2.heap[w.heap.size + 1]? = some (.map (vE rb 13) 13) := by
      rw [k2.block _ (by simp) (by show ¬ _ = rb; omega), ← World.size_alloc w]; exact heap_alloc_new _ _
    have hl2 := run_lookup_yes w2 (w.heap.size + 1) (vE rb 13) 13 ⟨#[97, 99, 99, 101, 112, 116]⟩ _ _ hb2 rfl
    unfold vVal at hl2
    have hr2 : RowAt w.heap.size (clCells Pa.c0) w2 := ((RowAt.new w #[.int .i64 0, .int .i64 0, .int .i64 0, .int .i64 0, .int .i64 0, .string ⟨#[]⟩, .int .i64 0, .int .i64 0] 24).below ((Below.refl _ _).alloc (Nat.le_refl _) _)).kp k2 (by show ¬ _ = rb; omega)
    clear hb2
    go_wp2_with fail
    have hrow : RowAt (w2.heap.size + 1) (clCells { Pa.c0 with kind := 5 }) ((w2.alloc (.cells #[.int .i64 5, .func (.func 101) #[.pointer (some ⟨rb, 0, none⟩)] #[]] 109)).alloc (.cells #[.int .i64 5, .int .i64 0, .int .i64 0, .int .i64 0, .int .i64 0, .string ⟨#[]⟩, .int .i64 0, .int .i64 0] 24)) := by
      have := RowAt.new (w2.alloc (.cells #[.int .i64 5, .func (.func 101) #[.pointer (some ⟨rb, 0, none⟩)] #[]] 109)) #[.int .i64 5, .int .i64 0, .int .i64 0, .int .i64 0, .int .i64 0, .string ⟨#[]⟩, .int .i64 0, .int .i64 0] 24
      rw [World.size_alloc] at this; exact this
    have Hc := H0 rb wb (w2.heap.size + 1) _ r _ ((ok.kp kw2 (by intro k hk; show ¬ k = rb; omega)).below (((Below.refl _ _).alloc (Nat.le_refl _) _).alloc (by simp) _)) (s2.below (((Below.refl _ _).alloc (Nat.le_refl _) _).alloc (by simp) _)) hrow (by omega) (by have := s2.wbl; omega) (by omega)
    rw [hq] at Hc
    clear hl2
    refine Hc.mono ?_
    rintro e w3 ⟨rfl, s3, c3, k3⟩
    have hr3 : RowAt w.heap.size (clCells Pa.c0) w3 := (hr2.below (((Below.refl _ _).alloc (Nat.le_refl _) _).alloc (by simp) _)).kp k3 (by omega)
    have hz3 := k3.size
    simp only [World.size_alloc] at hz3
    have kw3 : Kp (· = rb) w w3 := kw2.trans (Kp.mono ((((Kp.refl _ _).alloc _).alloc _).trans k3) (by intro k hk h; omega))
    obtain ⟨x0, x1, x2, x3, x4, x5, x6, x7⟩ := c
    have d0 := (c3.2 0 _ rfl).1
    have d1 := (c3.2 1 _ rfl).1
    have d2 := (c3.2 2 _ rfl).1
    have d3 := (c3.2 3 _ rfl).1
    have d4 := (c3.2 4 _ rfl).1
    have d5 := (c3.2 5 _ rfl).1
    have d6 := (c3.2 6 _ rfl).1
    have d7 := (c3.2 7 _ rfl).1
    have ⟨e0, f0⟩ := hr3.2 0 _ rfl
    have ⟨e1, f1⟩ := hr3.2 1 _ rfl
    have ⟨e2, f2⟩ := hr3.2 2 _ rfl
    have ⟨e3, f3⟩ := hr3.2 3 _ rfl
    have ⟨e4, f4⟩ := hr3.2 4 _ rfl
    have ⟨e5, f5⟩ := hr3.2 5 _ rfl
    have ⟨e6, f6⟩ := hr3.2 6 _ rfl
    have ⟨e7, f7⟩ := hr3.2 7 _ rfl
    have hA : w.heap.size ≠ rb := by omega
    have hB : w.heap.size ≠ wb := by omega
    go_wp2
    refine bodyPost_ret (v := clV ⟨x0, x1, x2, x3, x4, x5, x6, x7⟩) (by simp [results, Tryz.results61, go_sem, clV, e0, e1, e2, e3, e4, e5, e6, e7]) rfl (COut2.yes rfl ⟨rfl, ?_, ?_⟩)
    · exact (((((((s3.wr hA hB _ _).wr hA hB _ _).wr hA hB _ _).wr hA hB _ _).wr hA hB _ _).wr hA hB _ _).wr hA hB _ _).wr hA hB _ _
    · exact (((((((kw3.wn (Nat.le_refl _) _ _).wn (Nat.le_refl _) _ _).wn (Nat.le_refl _) _ _).wn (Nat.le_refl _) _ _).wn (Nat.le_refl _) _ _).wn (Nat.le_refl _) _ _).wn (Nat.le_refl _) _ _).wn (Nat.le_refl _) _ _


set_option maxHeartbeats 1000000 in
theorem call_shut (rb wb : Nat) (r : List Pa.Bs) (w : World) (ok : Ok w) (h : StR rb wb (Pa.w_shut :: r) w) : Calls Tryz.prog 61 #[.pointer (some ⟨rb, 0, none⟩)] w (COut2 rb wb (Pa.rdCall (Pa.w_shut :: r)) w) := by
  have hrl := h.rbl
  have hwl := h.wbl
  have hr4 := h.rb4
  have hrd : Pa.rdCall (Pa.w_shut :: r) = Pa.rdSock { Pa.c0 with kind := 8 } r := rfl
  rw [hrd]; clear hrd
  have H0 := rsock
  cases hq : Pa.rdSock { Pa.c0 with kind := 8 } r with
  | none =>
    go_enter Tryz.func61, Tryz.ntmps61
    go_wp2_with fail
    refine (verbs_any rb _).mono ?_
    rintro e w1 ⟨rfl, rfl⟩
    go_wp2_with fail
    refine (word_some rb wb _ r _ ((h.below ((Below.refl _ _).alloc (Nat.le_refl _) _)).below ((Below.refl _ _).alloc (Nat.le_refl _) _))).mono ?_
    rintro e w2 ⟨rfl, s2, k2⟩
    have hz2 := k2.size
    simp only [World.size_alloc] at hz2
    have kw2 : Kp (· = rb) w w2 := (((Kp.refl _ _).alloc _).alloc _).trans k2
    have hb2 : w2.heap[w.heap.size + 1]? = some (.map (vE rb 13) 13) := by
      rw [k2.block _ (by simp) (by show ¬ _ = rb; omega), ← World.size_alloc w]; exact heap_alloc_new _ _
    have hl2 := run_lookup_yes w2 (w.heap.size + 1) (vE rb 13) 13 ⟨#[115, 104, 117, 116]⟩ _ _ hb2 rfl
    unfold vVal at hl2
    have hr2 : RowAt w.heap.size (clCells Pa.c0) w2 := ((RowAt.new w #[.int .i64 0, .int .i64 0, .int .i64 0, .int .i64 0, .int .i64 0, .string ⟨#[]⟩, .int .i64 0, .int .i64 0] 24).below ((Below.refl _ _).alloc (Nat.le_refl _) _)).kp k2 (by show ¬ _ = rb; omega)
    clear hb2
    go_wp2_with fail
    have hrow : RowAt (w2.heap.size + 1) (clCells { Pa.c0 with kind := 8 }) ((w2.alloc (.cells #[.int .i64 8, .func (.func 101) #[.pointer (some ⟨rb, 0, none⟩)] #[]] 109)).alloc (.cells #[.int .i64 8, .int .i64 0, .int .i64 0, .int .i64 0, .int .i64 0, .string ⟨#[]⟩, .int .i64 0, .int .i64 0] 24)) := by
      have := RowAt.new (w2.alloc (.cells #[.int .i64 8, .func (.func 101) #[.pointer (some ⟨rb, 0, none⟩)] #[]] 109)) #[.int .i64 8, .int .i64 0, .int .i64 0, .int .i64 0, .int .i64 0, .string ⟨#[]⟩, .int .i64 0, .int .i64 0] 24
      rw [World.size_alloc] at this; exact this
    have Hc := H0 rb wb (w2.heap.size + 1) _ r _ ((ok.kp kw2 (by intro k hk; show ¬ k = rb; omega)).below (((Below.refl _ _).alloc (Nat.le_refl _) _).alloc (by simp) _)) (s2.below (((Below.refl _ _).alloc (Nat.le_refl _) _).alloc (by simp) _)) hrow (by omega) (by have := s2.wbl; omega) (by omega)
    rw [hq] at Hc
    clear hl2
    refine Hc.mono ?_
    rintro e w3 ⟨rfl, k3⟩
    go_wp2
    exact ⟨rfl, COut2.no rfl ⟨rfl, kw2.trans (Kp.mono ((((Kp.refl _ _).alloc _).alloc _).trans k3) (by intro k hk h; omega))⟩⟩
  | some p =>
    obtain ⟨c, r'⟩ := p
    go_enter Tryz.func61, Tryz.ntmps61
    go_wp2_with fail
    refine (verbs_any rb _).mono ?_
    rintro e w1 ⟨rfl, rfl⟩
    go_wp2_with fail
    refine (word_some rb wb _ r _ ((h.below ((Below.refl _ _).alloc (Nat.le_refl _) _)).below ((Below.refl _ _).alloc (Nat.le_refl _) _))).mono ?_
    rintro e w2 ⟨rfl, s2, k2⟩
    have hz2 := k2.size
    simp only [World.size_alloc] at hz2
    have kw2 : Kp (· = rb) w w2 := (((Kp.refl _ _).alloc _).alloc _).trans k2
    have hb2 : w2.heap[w.heap.size + 1]? = some (.map (vE rb 13) 13) := by
      rw [k2.block _ (by simp) (by show ¬ _ = rb; omega), ← World.size_alloc w]; exact heap_alloc_new _ _
    have hl2 := run_lookup_yes w2 (w.heap.size + 1) (vE rb 13) 13 ⟨#[115, 104, 117, 116]⟩ _ _ hb2 rfl
    unfold vVal at hl2
    have hr2 : RowAt w.heap.size (clCells Pa.c0) w2 := ((RowAt.new w #[.int .i64 0, .int .i64 0, .int .i64 0, .int .i64 0, .int .i64 0, .string ⟨#[]⟩, .int .i64 0, .int .i64 0] 24).below ((Below.refl _ _).alloc (Nat.le_refl _) _)).kp k2 (by show ¬ _ = rb; omega)
    clear hb2
    go_wp2_with fail
    have hrow : RowAt (w2.heap.size + 1) (clCells { Pa.c0 with kind := 8 }) ((w2.alloc (.cells #[.int .i64 8, .func (.func 101) #[.pointer (some ⟨rb, 0, none⟩)] #[]] 109)).alloc (.cells #[.int .i64 8, .int .i64 0, .int .i64 0, .int .i64 0, .int .i64 0, .string ⟨#[]⟩, .int .i64 0, .int .i64 0] 24)) := by
      have := RowAt.new (w2.alloc (.cells #[.int .i64 8, .func (.func 101) #[.pointer (some ⟨rb, 0, none⟩)] #[]] 109)) #[.int .i64 8, .int .i64 0, .int .i64 0, .int .i64 0, .int .i64 0, .string ⟨#[]⟩, .int .i64 0, .int .i64 0] 24
      rw [World.size_alloc] at this; exact this
    have Hc := H0 rb wb (w2.heap.size + 1) _ r _ ((ok.kp kw2 (by intro k hk; show ¬ k = rb; omega)).below (((Below.refl _ _).alloc (Nat.le_refl _) _).alloc (by simp) _)) (s2.below (((Below.refl _ _).alloc (Nat.le_refl _) _).alloc (by simp) _)) hrow (by omega) (by have := s2.wbl; omega) (by omega)
    rw [hq] at Hc
    clear hl2
    refine Hc.mono ?_
    rintro e w3 ⟨rfl, s3, c3, k3⟩
    have hr3 : RowAt w.heap.size (clCells Pa.c0) w3 := (hr2.below (((Below.refl _ _).alloc (Nat.le_refl _) _).alloc (by simp) _)).kp k3 (by omega)
    have hz3 := k3.size
    simp only [World.size_alloc] at hz3
    have kw3 : Kp (· = rb) w w3 := kw2.trans (Kp.mono ((((Kp.refl _ _).alloc _).alloc _).trans k3) (by intro k hk h; omega))
    obtain ⟨x0, x1, x2, x3, x4, x5, x6, x7⟩ := c
    have d0 := (c3.2 0 _ rfl).1
    have d1 := (c3.2 1 _ rfl).1
    have d2 := (c3.2 2 _ rfl).1
    have d3 := (c3.2 3 _ rfl).1
    have d4 := (c3.2 4 _ rfl).1
    have d5 := (c3.2 5 _ rfl).1
    have d6 := (c3.2 6 _ rfl).1
    have d7 := (c3.2 7 _ rfl).1
    have ⟨e0, f0⟩ := hr3.2 0 _ rfl
    have ⟨e1, f1⟩ := hr3.2 1 _ rfl
    have ⟨e2, f2⟩ := hr3.2 2 _ rfl
    have ⟨e3, f3⟩ := hr3.2 3 _ rfl
    have ⟨e4, f4⟩ := hr3.2 4 _ rfl
    have ⟨e5, f5⟩ := hr3.2 5 _ rfl
    have ⟨e6, f6⟩ := hr3.2 6 _ rfl
    have ⟨e7, f7⟩ := hr3.2 7 _ rfl
    have hA : w.heap.size ≠ rb := by omega
    have hB : w.heap.size ≠ wb := by omega
    go_wp2
    refine bodyPost_ret (v := clV ⟨x0, x1, x2, x3, x4, x5, x6, x7⟩) (by simp [results, Tryz.results61, go_sem, clV, e0, e1, e2, e3, e4, e5, e6, e7]) rfl (COut2.yes rfl ⟨rfl, ?_, ?_⟩)
    · exact (((((((s3.wr hA hB _ _).wr hA hB _ _).wr hA hB _ _).wr hA hB _ _).wr hA hB _ _).wr hA hB _ _).wr hA hB _ _).wr hA hB _ _
    · exact (((((((kw3.wn (Nat.le_refl _) _ _).wn (Nat.le_refl _) _ _).wn (Nat.le_refl _) _ _).wn (Nat.le_refl _) _ _).wn (Nat.le_refl _) _ _).wn (Nat.le_refl _) _ _).wn (Nat.le_refl _) _ _).wn (Nat.le_refl _) _ _


set_option maxHeartbeats 1000000 in
theorem call_close (rb wb : Nat) (r : List Pa.Bs) (w : World) (ok : Ok w) (h : StR rb wb (Pa.w_close :: r) w) : Calls Tryz.prog 61 #[.pointer (some ⟨rb, 0, none⟩)] w (COut2 rb wb (Pa.rdCall (Pa.w_close :: r)) w) := by
  have hrl := h.rbl
  have hwl := h.wbl
  have hr4 := h.rb4
  have hrd : Pa.rdCall (Pa.w_close :: r) = Pa.rdSock { Pa.c0 with kind := 9 } r := rfl
  rw [hrd]; clear hrd
  have H0 := rsock
  cases hq : Pa.rdSock { Pa.c0 with kind := 9 } r with
  | none =>
    go_enter Tryz.func61, Tryz.ntmps61
    go_wp2_with fail
    refine (verbs_any rb _).mono ?_
    rintro e w1 ⟨rfl, rfl⟩
    go_wp2_with fail
    refine (word_some rb wb _ r _ ((h.below ((Below.refl _ _).alloc (Nat.le_refl _) _)).below ((Below.refl _ _).alloc (Nat.le_refl _) _))).mono ?_
    rintro e w2 ⟨rfl, s2, k2⟩
    have hz2 := k2.size
    simp only [World.size_alloc] at hz2
    have kw2 : Kp (· = rb) w w2 := (((Kp.refl _ _).alloc _).alloc _).trans k2
    have hb2 : w2.heap[w.heap.size + 1]? = some (.map (vE rb 13) 13) := by
      rw [k2.block _ (by simp) (by show ¬ _ = rb; omega), ← World.size_alloc w]; exact heap_alloc_new _ _
    have hl2 := run_lookup_yes w2 (w.heap.size + 1) (vE rb 13) 13 ⟨#[99, 108, 111, 115, 101]⟩ _ _ hb2 rfl
    unfold vVal at hl2
    have hr2 : RowAt w.heap.size (clCells Pa.c0) w2 := ((RowAt.new w #[.int .i64 0, .int .i64 0, .int .i64 0, .int .i64 0, .int .i64 0, .string ⟨#[]⟩, .int .i64 0, .int .i64 0] 24).below ((Below.refl _ _).alloc (Nat.le_refl _) _)).kp k2 (by show ¬ _ = rb; omega)
    clear hb2
    go_wp2_with fail
    have hrow : RowAt (w2.heap.size + 1) (clCells { Pa.c0 with kind := 9 }) ((w2.alloc (.cells #[.int .i64 9, .func (.func 101) #[.pointer (some ⟨rb, 0, none⟩)] #[]] 109)).alloc (.cells #[.int .i64 9, .int .i64 0, .int .i64 0, .int .i64 0, .int .i64 0, .string ⟨#[]⟩, .int .i64 0, .int .i64 0] 24)) := by
      have := RowAt.new (w2.alloc (.cells #[.int .i64 9, .func (.func 101) #[.pointer (some ⟨rb, 0, none⟩)] #[]] 109)) #[.int .i64 9, .int .i64 0, .int .i64 0, .int .i64 0, .int .i64 0, .string ⟨#[]⟩, .int .i64 0, .int .i64 0] 24
      rw [World.size_alloc] at this; exact this
    have Hc := H0 rb wb (w2.heap.size + 1) _ r _ ((ok.kp kw2 (by intro k hk; show ¬ k = rb; omega)).below (((Below.refl _ _).alloc (Nat.le_refl _) _).alloc (by simp) _)) (s2.below (((Below.refl _ _).alloc (Nat.le_refl _) _).alloc (by simp) _)) hrow (by omega) (by have := s2.wbl; omega) (by omega)
    rw [hq] at Hc
    clear hl2
    refine Hc.mono ?_
    rintro e w3 ⟨rfl, k3⟩
    go_wp2
    exact ⟨rfl, COut2.no rfl ⟨rfl, kw2.trans (Kp.mono ((((Kp.refl _ _).alloc _).alloc _).trans k3) (by intro k hk h; omega))⟩⟩
  | some p =>
    obtain ⟨c, r'⟩ := p
    go_enter Tryz.func61, Tryz.ntmps61
    go_wp2_with fail
    refine (verbs_any rb _).mono ?_
    rintro e w1 ⟨rfl, rfl⟩
    go_wp2_with fail
    refine (word_some rb wb _ r _ ((h.below ((Below.refl _ _).alloc (Nat.le_refl _) _)).below ((Below.refl _ _).alloc (Nat.le_refl _) _))).mono ?_
    rintro e w2 ⟨rfl, s2, k2⟩
    have hz2 := k2.size
    simp only [World.size_alloc] at hz2
    have kw2 : Kp (· = rb) w w2 := (((Kp.refl _ _).alloc _).alloc _).trans k2
    have hb2 : w2.heap[w.heap.size + 1]? = some (.map (vE rb 13) 13) := by
      rw [k2.block _ (by simp) (by show ¬ _ = rb; omega), ← World.size_alloc w]; exact heap_alloc_new _ _
    have hl2 := run_lookup_yes w2 (w.heap.size + 1) (vE rb 13) 13 ⟨#[99, 108, 111, 115, 101]⟩ _ _ hb2 rfl
    unfold vVal at hl2
    have hr2 : RowAt w.heap.size (clCells Pa.c0) w2 := ((RowAt.new w #[.int .i64 0, .int .i64 0, .int .i64 0, .int .i64 0, .int .i64 0, .string ⟨#[]⟩, .int .i64 0, .int .i64 0] 24).below ((Below.refl _ _).alloc (Nat.le_refl _) _)).kp k2 (by show ¬ _ = rb; omega)
    clear hb2
    go_wp2_with fail
    have hrow : RowAt (w2.heap.size + 1) (clCells { Pa.c0 with kind := 9 }) ((w2.alloc (.cells #[.int .i64 9, .func (.func 101) #[.pointer (some ⟨rb, 0, none⟩)] #[]] 109)).alloc (.cells #[.int .i64 9, .int .i64 0, .int .i64 0, .int .i64 0, .int .i64 0, .string ⟨#[]⟩, .int .i64 0, .int .i64 0] 24)) := by
      have := RowAt.new (w2.alloc (.cells #[.int .i64 9, .func (.func 101) #[.pointer (some ⟨rb, 0, none⟩)] #[]] 109)) #[.int .i64 9, .int .i64 0, .int .i64 0, .int .i64 0, .int .i64 0, .string ⟨#[]⟩, .int .i64 0, .int .i64 0] 24
      rw [World.size_alloc] at this; exact this
    have Hc := H0 rb wb (w2.heap.size + 1) _ r _ ((ok.kp kw2 (by intro k hk; show ¬ k = rb; omega)).below (((Below.refl _ _).alloc (Nat.le_refl _) _).alloc (by simp) _)) (s2.below (((Below.refl _ _).alloc (Nat.le_refl _) _).alloc (by simp) _)) hrow (by omega) (by have := s2.wbl; omega) (by omega)
    rw [hq] at Hc
    clear hl2
    refine Hc.mono ?_
    rintro e w3 ⟨rfl, s3, c3, k3⟩
    have hr3 : RowAt w.heap.size (clCells Pa.c0) w3 := (hr2.below (((Below.refl _ _).alloc (Nat.le_refl _) _).alloc (by simp) _)).kp k3 (by omega)
    have hz3 := k3.size
    simp only [World.size_alloc] at hz3
    have kw3 : Kp (· = rb) w w3 := kw2.trans (Kp.mono ((((Kp.refl _ _).alloc _).alloc _).trans k3) (by intro k hk h; omega))
    obtain ⟨x0, x1, x2, x3, x4, x5, x6, x7⟩ := c
    have d0 := (c3.2 0 _ rfl).1
    have d1 := (c3.2 1 _ rfl).1
    have d2 := (c3.2 2 _ rfl).1
    have d3 := (c3.2 3 _ rfl).1
    have d4 := (c3.2 4 _ rfl).1
    have d5 := (c3.2 5 _ rfl).1
    have d6 := (c3.2 6 _ rfl).1
    have d7 := (c3.2 7 _ rfl).1
    have ⟨e0, f0⟩ := hr3.2 0 _ rfl
    have ⟨e1, f1⟩ := hr3.2 1 _ rfl
    have ⟨e2, f2⟩ := hr3.2 2 _ rfl
    have ⟨e3, f3⟩ := hr3.2 3 _ rfl
    have ⟨e4, f4⟩ := hr3.2 4 _ rfl
    have ⟨e5, f5⟩ := hr3.2 5 _ rfl
    have ⟨e6, f6⟩ := hr3.2 6 _ rfl
    have ⟨e7, f7⟩ := hr3.2 7 _ rfl
    have hA : w.heap.size ≠ rb := by omega
    have hB : w.heap.size ≠ wb := by omega
    go_wp2
    refine bodyPost_ret (v := clV ⟨x0, x1, x2, x3, x4, x5, x6, x7⟩) (by simp [results, Tryz.results61, go_sem, clV, e0, e1, e2, e3, e4, e5, e6, e7]) rfl (COut2.yes rfl ⟨rfl, ?_, ?_⟩)
    · exact (((((((s3.wr hA hB _ _).wr hA hB _ _).wr hA hB _ _).wr hA hB _ _).wr hA hB _ _).wr hA hB _ _).wr hA hB _ _).wr hA hB _ _
    · exact (((((((kw3.wn (Nat.le_refl _) _ _).wn (Nat.le_refl _) _ _).wn (Nat.le_refl _) _ _).wn (Nat.le_refl _) _ _).wn (Nat.le_refl _) _ _).wn (Nat.le_refl _) _ _).wn (Nat.le_refl _) _ _).wn (Nat.le_refl _) _ _


set_option maxHeartbeats 1000000 in
theorem call_recvfrom (rb wb : Nat) (r : List Pa.Bs) (w : World) (ok : Ok w) (h : StR rb wb (Pa.w_recvfrom :: r) w) : Calls Tryz.prog 61 #[.pointer (some ⟨rb, 0, none⟩)] w (COut2 rb wb (Pa.rdCall (Pa.w_recvfrom :: r)) w) := by
  have hrl := h.rbl
  have hwl := h.wbl
  have hr4 := h.rb4
  have hrd : Pa.rdCall (Pa.w_recvfrom :: r) = Pa.rdSock { Pa.c0 with kind := 11 } r := rfl
  rw [hrd]; clear hrd
  have H0 := rsock
  cases hq : Pa.rdSock { Pa.c0 with kind := 11 } r with
  | none =>
    go_enter Tryz.func61, Tryz.ntmps61
    go_wp2_with fail
    refine (verbs_any rb _).mono ?_
    rintro e w1 ⟨rfl, rfl⟩
    go_wp2_with fail
    refine (word_some rb wb _ r _ ((h.below ((Below.refl _ _).alloc (Nat.le_refl _) _)).below ((Below.refl _ _).alloc (Nat.le_refl _) _))).mono ?_
    rintro e w2 ⟨rfl, s2, k2⟩
    have hz2 := k2.size
    simp only [World.size_alloc] at hz2
    have kw2 : Kp (· = rb) w w2 := (((Kp.refl _ _).alloc _).alloc _).trans k2
    have hb2 : w2.heap[w.heap.size + 1]? = some (.map (vE rb 13) 13) := by
      rw [k2.block _ (by simp) (by show ¬ _ = rb; omega), ← World.size_alloc w]; exact heap_alloc_new _ _
    have hl2 := run_lookup_yes w2 (w.heap.size + 1) (vE rb 13) 13 ⟨#[114, 101, 99, 118, 102, 114, 111, 109]⟩ _ _ hb2 rfl
    unfold vVal at hl2
    have hr2 : RowAt w.heap.size (clCells Pa.c0) w2 := ((RowAt.new w #[.int .i64 0, .int .i64 0, .int .i64 0, .int .i64 0, .int .i64 0, .string ⟨#[]⟩, .int .i64 0, .int .i64 0] 24).below ((Below.refl _ _).alloc (Nat.le_refl _) _)).kp k2 (by show ¬ _ = rb; omega)
    clear hb2
    go_wp2_with fail
    have hrow : RowAt (w2.heap.size + 1) (clCells { Pa.c0 with kind := 11 }) ((w2.alloc (.cells #[.int .i64 11, .func (.func 101) #[.pointer (some ⟨rb, 0, none⟩)] #[]] 109)).alloc (.cells #[.int .i64 11, .int .i64 0, .int .i64 0, .int .i64 0, .int .i64 0, .string ⟨#[]⟩, .int .i64 0, .int .i64 0] 24)) := by
      have := RowAt.new (w2.alloc (.cells #[.int .i64 11, .func (.func 101) #[.pointer (some ⟨rb, 0, none⟩)] #[]] 109)) #[.int .i64 11, .int .i64 0, .int .i64 0, .int .i64 0, .int .i64 0, .string ⟨#[]⟩, .int .i64 0, .int .i64 0] 24
      rw [World.size_alloc] at this; exact this
    have Hc := H0 rb wb (w2.heap.size + 1) _ r _ ((ok.kp kw2 (by intro k hk; show ¬ k = rb; omega)).below (((Below.refl _ _).alloc (Nat.le_refl _) _).alloc (by simp) _)) (s2.below (((Below.refl _ _).alloc (Nat.le_refl _) _).alloc (by simp) _)) hrow (by omega) (by have := s2.wbl; omega) (by omega)
    rw [hq] at Hc
    clear hl2
    refine Hc.mono ?_
    rintro e w3 ⟨rfl, k3⟩
    go_wp2
    exact ⟨rfl, COut2.no rfl ⟨rfl, kw2.trans (Kp.mono ((((Kp.refl _ _).alloc _).alloc _).trans k3) (by intro k hk h; omega))⟩⟩
  | some p =>
    obtain ⟨c, r'⟩ := p
    go_enter Tryz.func61, Tryz.ntmps61
    go_wp2_with fail
    refine (verbs_any rb _).mono ?_
    rintro e w1 ⟨rfl, rfl⟩
    go_wp2_with fail
    refine (word_some rb wb _ r _ ((h.below ((Below.refl _ _).alloc (Nat.le_refl _) _)).below ((Below.refl _ _).alloc (Nat.le_refl _) _))).mono ?_
    rintro e w2 ⟨rfl, s2, k2⟩
    have hz2 := k2.size
    simp only [World.size_alloc] at hz2
    have kw2 : Kp (· = rb) w w2 := (((Kp.refl _ _).alloc _).alloc _).trans k2
    have hb2 : w2.heap[w.heap.size + 1]? = some (.map (vE rb 13) 13) := by
      rw [k2.block _ (by simp) (by show ¬ _ = rb; omega), ← World.size_alloc w]; exact heap_alloc_new _ _
    have hl2 := run_lookup_yes w2 (w.heap.size + 1) (vE rb 13) 13 ⟨#[114, 101, 99, 118, 102, 114, 111, 109]⟩ _ _ hb2 rfl
    unfold vVal at hl2
    have hr2 : RowAt w.heap.size (clCells Pa.c0) w2 := ((RowAt.new w #[.int .i64 0, .int .i64 0, .int .i64 0, .int .i64 0, .int .i64 0, .string ⟨#[]⟩, .int .i64 0, .int .i64 0] 24).below ((Below.refl _ _).alloc (Nat.le_refl _) _)).kp k2 (by show ¬ _ = rb; omega)
    clear hb2
    go_wp2_with fail
    have hrow : RowAt (w2.heap.size + 1) (clCells { Pa.c0 with kind := 11 }) ((w2.alloc (.cells #[.int .i64 11, .func (.func 101) #[.pointer (some ⟨rb, 0, none⟩)] #[]] 109)).alloc (.cells #[.int .i64 11, .int .i64 0, .int .i64 0, .int .i64 0, .int .i64 0, .string ⟨#[]⟩, .int .i64 0, .int .i64 0] 24)) := by
      have := RowAt.new (w2.alloc (.cells #[.int .i64 11, .func (.func 101) #[.pointer (some ⟨rb, 0, none⟩)] #[]] 109)) #[.int .i64 11, .int .i64 0, .int .i64 0, .int .i64 0, .int .i64 0, .string ⟨#[]⟩, .int .i64 0, .int .i64 0] 24
      rw [World.size_alloc] at this; exact this
    have Hc := H0 rb wb (w2.heap.size + 1) _ r _ ((ok.kp kw2 (by intro k hk; show ¬ k = rb; omega)).below (((Below.refl _ _).alloc (Nat.le_refl _) _).alloc (by simp) _)) (s2.below (((Below.refl _ _).alloc (Nat.le_refl _) _).alloc (by simp) _)) hrow (by omega) (by have := s2.wbl; omega) (by omega)
    rw [hq] at Hc
    clear hl2
    refine Hc.mono ?_
    rintro e w3 ⟨rfl, s3, c3, k3⟩
    have hr3 : RowAt w.heap.size (clCells Pa.c0) w3 := (hr2.below (((Below.refl _ _).alloc (Nat.le_refl _) _).alloc (by simp) _)).kp k3 (by omega)
    have hz3 := k3.size
    simp only [World.size_alloc] at hz3
    have kw3 : Kp (· = rb) w w3 := kw2.trans (Kp.mono ((((Kp.refl _ _).alloc _).alloc _).trans k3) (by intro k hk h; omega))
    obtain ⟨x0, x1, x2, x3, x4, x5, x6, x7⟩ := c
    have d0 := (c3.2 0 _ rfl).1
    have d1 := (c3.2 1 _ rfl).1
    have d2 := (c3.2 2 _ rfl).1
    have d3 := (c3.2 3 _ rfl).1
    have d4 := (c3.2 4 _ rfl).1
    have d5 := (c3.2 5 _ rfl).1
    have d6 := (c3.2 6 _ rfl).1
    have d7 := (c3.2 7 _ rfl).1
    have ⟨e0, f0⟩ := hr3.2 0 _ rfl
    have ⟨e1, f1⟩ := hr3.2 1 _ rfl
    have ⟨e2, f2⟩ := hr3.2 2 _ rfl
    have ⟨e3, f3⟩ := hr3.2 3 _ rfl
    have ⟨e4, f4⟩ := hr3.2 4 _ rfl
    have ⟨e5, f5⟩ := hr3.2 5 _ rfl
    have ⟨e6, f6⟩ := hr3.2 6 _ rfl
    have ⟨e7, f7⟩ := hr3.2 7 _ rfl
    have hA : w.heap.size ≠ rb := by omega
    have hB : w.heap.size ≠ wb := by omega
    go_wp2
    refine bodyPost_ret (v := clV ⟨x0, x1, x2, x3, x4, x5, x6, x7⟩) (by simp [results, Tryz.results61, go_sem, clV, e0, e1, e2, e3, e4, e5, e6, e7]) rfl (COut2.yes rfl ⟨rfl, ?_, ?_⟩)
    · exact (((((((s3.wr hA hB _ _).wr hA hB _ _).wr hA hB _ _).wr hA hB _ _).wr hA hB _ _).wr hA hB _ _).wr hA hB _ _).wr hA hB _ _
    · exact (((((((kw3.wn (Nat.le_refl _) _ _).wn (Nat.le_refl _) _ _).wn (Nat.le_refl _) _ _).wn (Nat.le_refl _) _ _).wn (Nat.le_refl _) _ _).wn (Nat.le_refl _) _ _).wn (Nat.le_refl _) _ _).wn (Nat.le_refl _) _ _


set_option maxHeartbeats 1000000 in
theorem call_send (rb wb : Nat) (r : List Pa.Bs) (w : World) (ok : Ok w) (h : StR rb wb (Pa.w_send :: r) w) : Calls Tryz.prog 61 #[.pointer (some ⟨rb, 0, none⟩)] w (COut2 rb wb (Pa.rdCall (Pa.w_send :: r)) w) := by
  have hrl := h.rbl
  have hwl := h.wbl
  have hr4 := h.rb4
  have hrd : Pa.rdCall (Pa.w_send :: r) = Pa.rdData { Pa.c0 with kind := 6 } r := rfl
  rw [hrd]; clear hrd
  have H0 := rdata
  cases hq : Pa.rdData { Pa.c0 with kind := 6 } r with
  | none =>
    go_enter Tryz.func61, Tryz.ntmps61
    go_wp2_with fail
    refine (verbs_any rb _).mono ?_
    rintro e w1 ⟨rfl, rfl⟩
    go_wp2_with fail
    refine (word_some rb wb _ r _ ((h.below ((Below.refl _ _).alloc (Nat.le_refl _) _)).below ((Below.refl _ _).alloc (Nat.le_refl _) _))).mono ?_
    rintro e w2 ⟨rfl, s2, k2⟩
    have hz2 := k2.size
    simp only [World.size_alloc] at hz2
    have kw2 : Kp (· = rb) w w2 := (((Kp.refl _ _).alloc _).alloc _).trans k2
    have hb2 : w2.heap[w.heap.size + 1]? = some (.map (vE rb 13) 13) := by
      rw [k2.block _ (by simp) (by show ¬ _ = rb; omega), ← World.size_alloc w]; exact heap_alloc_new _ _
    have hl2 := run_lookup_yes w2 (w.heap.size + 1) (vE rb 13) 13 ⟨#[115, 101, 110, 100]⟩ _ _ hb2 rfl
    unfold vVal at hl2
    have hr2 : RowAt w.heap.size (clCells Pa.c0) w2 := ((RowAt.new w #[.int .i64 0, .int .i64 0, .int .i64 0, .int .i64 0, .int .i64 0, .string ⟨#[]⟩, .int .i64 0, .int .i64 0] 24).below ((Below.refl _ _).alloc (Nat.le_refl _) _)).kp k2 (by show ¬ _ = rb; omega)
    clear hb2
    go_wp2_with fail
    have hrow : RowAt (w2.heap.size + 1) (clCells { Pa.c0 with kind := 6 }) ((w2.alloc (.cells #[.int .i64 6, .func (.func 102) #[.pointer (some ⟨rb, 0, none⟩)] #[]] 109)).alloc (.cells #[.int .i64 6, .int .i64 0, .int .i64 0, .int .i64 0, .int .i64 0, .string ⟨#[]⟩, .int .i64 0, .int .i64 0] 24)) := by
      have := RowAt.new (w2.alloc (.cells #[.int .i64 6, .func (.func 102) #[.pointer (some ⟨rb, 0, none⟩)] #[]] 109)) #[.int .i64 6, .int .i64 0, .int .i64 0, .int .i64 0, .int .i64 0, .string ⟨#[]⟩, .int .i64 0, .int .i64 0] 24
      rw [World.size_alloc] at this; exact this
    have Hc := H0 rb wb (w2.heap.size + 1) _ r _ ((ok.kp kw2 (by intro k hk; show ¬ k = rb; omega)).below (((Below.refl _ _).alloc (Nat.le_refl _) _).alloc (by simp) _)) (s2.below (((Below.refl _ _).alloc (Nat.le_refl _) _).alloc (by simp) _)) hrow (by omega) (by have := s2.wbl; omega) (by omega)
    rw [hq] at Hc
    clear hl2
    refine Hc.mono ?_
    rintro e w3 ⟨rfl, k3⟩
    go_wp2
    exact ⟨rfl, COut2.no rfl ⟨rfl, kw2.trans (Kp.mono ((((Kp.refl _ _).alloc _).alloc _).trans k3) (by intro k hk h; omega))⟩⟩
  | some p =>
    obtain ⟨c, r'⟩ := p
    go_enter Tryz.func61, Tryz.ntmps61
    go_wp2_with fail
    refine (verbs_any rb _).mono ?_
    rintro e w1 ⟨rfl, rfl⟩
    go_wp2_with fail
    refine (word_some rb wb _ r _ ((h.below ((Below.refl _ _).alloc (Nat.le_refl _) _)).below ((Below.refl _ _).alloc (Nat.le_refl _) _))).mono ?_
    rintro e w2 ⟨rfl, s2, k2⟩
    have hz2 := k2.size
    simp only [World.size_alloc] at hz2
    have kw2 : Kp (· = rb) w w2 := (((Kp.refl _ _).alloc _).alloc _).trans k2
    have hb2 : w2.heap[w.heap.size + 1]? = some (.map (vE rb 13) 13) := by
      rw [k2.block _ (by simp) (by show ¬ _ = rb; omega), ← World.size_alloc w]; exact heap_alloc_new _ _
    have hl2 := run_lookup_yes w2 (w.heap.size + 1) (vE rb 13) 13 ⟨#[115, 101, 110, 100]⟩ _ _ hb2 rfl
    unfold vVal at hl2
    have hr2 : RowAt w.heap.size (clCells Pa.c0) w2 := ((RowAt.new w #[.int .i64 0, .int .i64 0, .int .i64 0, .int .i64 0, .int .i64 0, .string ⟨#[]⟩, .int .i64 0, .int .i64 0] 24).below ((Below.refl _ _).alloc (Nat.le_refl _) _)).kp k2 (by show ¬ _ = rb; omega)
    clear hb2
    go_wp2_with fail
    have hrow : RowAt (w2.heap.size + 1) (clCells { Pa.c0 with kind := 6 }) ((w2.alloc (.cells #[.int .i64 6, .func (.func 102) #[.pointer (some ⟨rb, 0, none⟩)] #[]] 109)).alloc (.cells #[.int .i64 6, .int .i64 0, .int .i64 0, .int .i64 0, .int .i64 0, .string ⟨#[]⟩, .int .i64 0, .int .i64 0] 24)) := by
      have := RowAt.new (w2.alloc (.cells #[.int .i64 6, .func (.func 102) #[.pointer (some ⟨rb, 0, none⟩)] #[]] 109)) #[.int .i64 6, .int .i64 0, .int .i64 0, .int .i64 0, .int .i64 0, .string ⟨#[]⟩, .int .i64 0, .int .i64 0] 24
      rw [World.size_alloc] at this; exact this
    have Hc := H0 rb wb (w2.heap.size + 1) _ r _ ((ok.kp kw2 (by intro k hk; show ¬ k = rb; omega)).below (((Below.refl _ _).alloc (Nat.le_refl _) _).alloc (by simp) _)) (s2.below (((Below.refl _ _).alloc (Nat.le_refl _) _).alloc (by simp) _)) hrow (by omega) (by have := s2.wbl; omega) (by omega)
    rw [hq] at Hc
    clear hl2
    refine Hc.mono ?_
    rintro e w3 ⟨rfl, s3, c3, k3⟩
    have hr3 : RowAt w.heap.size (clCells Pa.c0) w3 := (hr2.below (((Below.refl _ _).alloc (Nat.le_refl _) _).alloc (by simp) _)).kp k3 (by omega)
    have hz3 := k3.size
    simp only [World.size_alloc] at hz3
    have kw3 : Kp (· = rb) w w3 := kw2.trans (Kp.mono ((((Kp.refl _ _).alloc _).alloc _).trans k3) (by intro k hk h; omega))
    obtain ⟨x0, x1, x2, x3, x4, x5, x6, x7⟩ := c
    have d0 := (c3.2 0 _ rfl).1
    have d1 := (c3.2 1 _ rfl).1
    have d2 := (c3.2 2 _ rfl).1
    have d3 := (c3.2 3 _ rfl).1
    have d4 := (c3.2 4 _ rfl).1
    have d5 := (c3.2 5 _ rfl).1
    have d6 := (c3.2 6 _ rfl).1
    have d7 := (c3.2 7 _ rfl).1
    have ⟨e0, f0⟩ := hr3.2 0 _ rfl
    have ⟨e1, f1⟩ := hr3.2 1 _ rfl
    have ⟨e2, f2⟩ := hr3.2 2 _ rfl
    have ⟨e3, f3⟩ := hr3.2 3 _ rfl
    have ⟨e4, f4⟩ := hr3.2 4 _ rfl
    have ⟨e5, f5⟩ := hr3.2 5 _ rfl
    have ⟨e6, f6⟩ := hr3.2 6 _ rfl
    have ⟨e7, f7⟩ := hr3.2 7 _ rfl
    have hA : w.heap.size ≠ rb := by omega
    have hB : w.heap.size ≠ wb := by omega
    go_wp2
    refine bodyPost_ret (v := clV ⟨x0, x1, x2, x3, x4, x5, x6, x7⟩) (by simp [results, Tryz.results61, go_sem, clV, e0, e1, e2, e3, e4, e5, e6, e7]) rfl (COut2.yes rfl ⟨rfl, ?_, ?_⟩)
    · exact (((((((s3.wr hA hB _ _).wr hA hB _ _).wr hA hB _ _).wr hA hB _ _).wr hA hB _ _).wr hA hB _ _).wr hA hB _ _).wr hA hB _ _
    · exact (((((((kw3.wn (Nat.le_refl _) _ _).wn (Nat.le_refl _) _ _).wn (Nat.le_refl _) _ _).wn (Nat.le_refl _) _ _).wn (Nat.le_refl _) _ _).wn (Nat.le_refl _) _ _).wn (Nat.le_refl _) _ _).wn (Nat.le_refl _) _ _


set_option maxHeartbeats 1000000 in
theorem call_recv (rb wb : Nat) (r : List Pa.Bs) (w : World) (ok : Ok w) (h : StR rb wb (Pa.w_recv :: r) w) : Calls Tryz.prog 61 #[.pointer (some ⟨rb, 0, none⟩)] w (COut2 rb wb (Pa.rdCall (Pa.w_recv :: r)) w) := by
  have hrl := h.rbl
  have hwl := h.wbl
  have hr4 := h.rb4
  have hrd : Pa.rdCall (Pa.w_recv :: r) = Pa.rdCount { Pa.c0 with kind := 7 } r := rfl
  rw [hrd]; clear hrd
  have H0 := rcount
  cases hq : Pa.rdCount { Pa.c0 with kind := 7 } r with
  | none =>
    go_enter Tryz.func61, Tryz.ntmps61
    go_wp2_with fail
    refine (verbs_any rb _).mono ?_
    rintro e w1 ⟨rfl, rfl⟩
    go_wp2_with fail
    refine (word_some rb wb _ r _ ((h.below ((Below.refl _ _).alloc (Nat.le_refl _) _)).below ((Below.refl _ _).alloc (Nat.le_refl _) _))).mono ?_
    rintro e w2 ⟨rfl, s2, k2⟩
    have hz2 := k2.size
    simp only [World.size_alloc] at hz2
    have kw2 : Kp (· = rb) w w2 := (((Kp.refl _ _).alloc _).alloc _).trans k2
    have hb2 : w2.heap[w.heap.size + 1]? = some (.map (vE rb 13) 13) := by
      rw [k2.block _ (by simp) (by show ¬ _ = rb; omega), ← World.size_alloc w]; exact heap_alloc_new _ _
    have hl2 := run_lookup_yes w2 (w.heap.size + 1) (vE rb 13) 13 ⟨#[114, 101, 99, 118]⟩ _ _ hb2 rfl
    unfold vVal at hl2
    have hr2 : RowAt w.heap.size (clCells Pa.c0) w2 := ((RowAt.new w #[.int .i64 0, .int .i64 0, .int .i64 0, .int .i64 0, .int .i64 0, .string ⟨#[]⟩, .int .i64 0, .int .i64 0] 24).below ((Below.refl _ _).alloc (Nat.le_refl _) _)).kp k2 (by show ¬ _ = rb; omega)
    clear hb2
    go_wp2_with fail
    have hrow : RowAt (w2.heap.size + 1) (clCells { Pa.c0 with kind := 7 }) ((w2.alloc (.cells #[.int .i64 7, .func (.func 99) #[.pointer (some ⟨rb, 0, none⟩)] #[]] 109)).alloc (.cells #[.int .i64 7, .int .i64 0, .int .i64 0, .int .i64 0, .int .i64 0, .string ⟨#[]⟩, .int .i64 0, .int .i64 0] 24)) := by
      have := RowAt.new (w2.alloc (.cells #[.int .i64 7, .func (.func 99) #[.pointer (some ⟨rb, 0, none⟩)] #[]] 109)) #[.int .i64 7, .int .i64 0, .int .i64 0, .int .i64 0, .int .i64 0, .string ⟨#[]⟩, .int .i64 0, .int .i64 0] 24
      rw [World.size_alloc] at this; exact this
    have Hc := H0 rb wb (w2.heap.size + 1) _ r _ ((ok.kp kw2 (by intro k hk; show ¬ k = rb; omega)).below (((Below.refl _ _).alloc (Nat.le_refl _) _).alloc (by simp) _)) (s2.below (((Below.refl _ _).alloc (Nat.le_refl _) _).alloc (by simp) _)) hrow (by omega) (by have := s2.wbl; omega) (by omega)
    rw [hq] at Hc
    clear hl2
    refine Hc.mono ?_
    rintro e w3 ⟨rfl, k3⟩
    go_wp2
    exact ⟨rfl, COut2.no rfl ⟨rfl, kw2.trans (Kp.mono ((((Kp.refl _ _).alloc _).alloc _).trans k3) (by intro k hk h; omega))⟩⟩
  | some p =>
    obtain ⟨c, r'⟩ := p
    go_enter Tryz.func61, Tryz.ntmps61
    go_wp2_with fail
    refine (verbs_any rb _).mono ?_
    rintro e w1 ⟨rfl, rfl⟩
    go_wp2_with fail
    refine (word_some rb wb _ r _ ((h.below ((Below.refl _ _).alloc (Nat.le_refl _) _)).below ((Below.refl _ _).alloc (Nat.le_refl _) _))).mono ?_
    rintro e w2 ⟨rfl, s2, k2⟩
    have hz2 := k2.size
    simp only [World.size_alloc] at hz2
    have kw2 : Kp (· = rb) w w2 := (((Kp.refl _ _).alloc _).alloc _).trans k2
    have hb2 : w2.heap[w.heap.size + 1]? = some (.map (vE rb 13) 13) := by
      rw [k2.block _ (by simp) (by show ¬ _ = rb; omega), ← World.size_alloc w]; exact heap_alloc_new _ _
    have hl2 := run_lookup_yes w2 (w.heap.size + 1) (vE rb 13) 13 ⟨#[114, 101, 99, 118]⟩ _ _ hb2 rfl
    unfold vVal at hl2
    have hr2 : RowAt w.heap.size (clCells Pa.c0) w2 := ((RowAt.new w #[.int .i64 0, .int .i64 0, .int .i64 0, .int .i64 0, .int .i64 0, .string ⟨#[]⟩, .int .i64 0, .int .i64 0] 24).below ((Below.refl _ _).alloc (Nat.le_refl _) _)).kp k2 (by show ¬ _ = rb; omega)
    clear hb2
    go_wp2_with fail
    have hrow : RowAt (w2.heap.size + 1) (clCells { Pa.c0 with kind := 7 }) ((w2.alloc (.cells #[.int .i64 7, .func (.func 99) #[.pointer (some ⟨rb, 0, none⟩)] #[]] 109)).alloc (.cells #[.int .i64 7, .int .i64 0, .int .i64 0, .int .i64 0, .int .i64 0, .string ⟨#[]⟩, .int .i64 0, .int .i64 0] 24)) := by
      have := RowAt.new (w2.alloc (.cells #[.int .i64 7, .func (.func 99) #[.pointer (some ⟨rb, 0, none⟩)] #[]] 109)) #[.int .i64 7, .int .i64 0, .int .i64 0, .int .i64 0, .int .i64 0, .string ⟨#[]⟩, .int .i64 0, .int .i64 0] 24
      rw [World.size_alloc] at this; exact this
    have Hc := H0 rb wb (w2.heap.size + 1) _ r _ ((ok.kp kw2 (by intro k hk; show ¬ k = rb; omega)).below (((Below.refl _ _).alloc (Nat.le_refl _) _).alloc (by simp) _)) (s2.below (((Below.refl _ _).alloc (Nat.le_refl _) _).alloc (by simp) _)) hrow (by omega) (by have := s2.wbl; omega) (by omega)
    rw [hq] at Hc
    clear hl2
    refine Hc.mono ?_
    rintro e w3 ⟨rfl, s3, c3, k3⟩
    have hr3 : RowAt w.heap.size (clCells Pa.c0) w3 := (hr2.below (((Below.refl _ _).alloc (Nat.le_refl _) _).alloc (by simp) _)).kp k3 (by omega)
    have hz3 := k3.size
    simp only [World.size_alloc] at hz3
    have kw3 : Kp (· = rb) w w3 := kw2.trans (Kp.mono ((((Kp.refl _ _).alloc _).alloc _).trans k3) (by intro k hk h; omega))
    obtain ⟨x0, x1, x2, x3, x4, x5, x6, x7⟩ := c
    have d0 := (c3.2 0 _ rfl).1
    have d1 := (c3.2 1 _ rfl).1
    have d2 := (c3.2 2 _ rfl).1
    have d3 := (c3.2 3 _ rfl).1
    have d4 := (c3.2 4 _ rfl).1
    have d5 := (c3.2 5 _ rfl).1
    have d6 := (c3.2 6 _ rfl).1
    have d7 := (c3.2 7 _ rfl).1
    have ⟨e0, f0⟩ := hr3.2 0 _ rfl
    have ⟨e1, f1⟩ := hr3.2 1 _ rfl
    have ⟨e2, f2⟩ := hr3.2 2 _ rfl
    have ⟨e3, f3⟩ := hr3.2 3 _ rfl
    have ⟨e4, f4⟩ := hr3.2 4 _ rfl
    have ⟨e5, f5⟩ := hr3.2 5 _ rfl
    have ⟨e6, f6⟩ := hr3.2 6 _ rfl
    have ⟨e7, f7⟩ := hr3.2 7 _ rfl
    have hA : w.heap.size ≠ rb := by omega
    have hB : w.heap.size ≠ wb := by omega
    go_wp2
    refine bodyPost_ret (v := clV ⟨x0, x1, x2, x3, x4, x5, x6, x7⟩) (by simp [results, Tryz.results61, go_sem, clV, e0, e1, e2, e3, e4, e5, e6, e7]) rfl (COut2.yes rfl ⟨rfl, ?_, ?_⟩)
    · exact (((((((s3.wr hA hB _ _).wr hA hB _ _).wr hA hB _ _).wr hA hB _ _).wr hA hB _ _).wr hA hB _ _).wr hA hB _ _).wr hA hB _ _
    · exact (((((((kw3.wn (Nat.le_refl _) _ _).wn (Nat.le_refl _) _ _).wn (Nat.le_refl _) _ _).wn (Nat.le_refl _) _ _).wn (Nat.le_refl _) _ _).wn (Nat.le_refl _) _ _).wn (Nat.le_refl _) _ _).wn (Nat.le_refl _) _ _


set_option maxHeartbeats 1000000 in
theorem call_sendto (rb wb : Nat) (r : List Pa.Bs) (w : World) (ok : Ok w) (h : StR rb wb (Pa.w_sendto :: r) w) : Calls Tryz.prog 61 #[.pointer (some ⟨rb, 0, none⟩)] w (COut2 rb wb (Pa.rdCall (Pa.w_sendto :: r)) w) := by
  have hrl := h.rbl
  have hwl := h.wbl
  have hr4 := h.rb4
  have hrd : Pa.rdCall (Pa.w_sendto :: r) = Pa.rdGram { Pa.c0 with kind := 10 } r := rfl
  rw [hrd]; clear hrd
  have H0 := rgram
  cases hq : Pa.rdGram { Pa.c0 with kind := 10 } r with
  | none =>
    go_enter Tryz.func61, Tryz.ntmps61
    go_wp2_with fail
    refine (verbs_any rb _).mono ?_
    rintro e w1 ⟨rfl, rfl⟩
    go_wp2_with fail
    refine (word_some rb wb _ r _ ((h.below ((Below.refl _ _).alloc (Nat.le_refl _) _)).below ((Below.refl _ _).alloc (Nat.le_refl _) _))).mono ?_
    rintro e w2 ⟨rfl, s2, k2⟩
    have hz2 := k2.size
    simp only [World.size_alloc] at hz2
    have kw2 : Kp (· = rb) w w2 := (((Kp.refl _ _).alloc _).alloc _).trans k2
    have hb2 : w2.heap[w.heap.size + 1]? = some (.map (vE rb 13) 13) := by
      rw [k2.block _ (by simp) (by show ¬ _ = rb; omega), ← World.size_alloc w]; exact heap_alloc_new _ _
    have hl2 := run_lookup_yes w2 (w.heap.size + 1) (vE rb 13) 13 ⟨#[115, 101, 110, 100, 116, 111]⟩ _ _ hb2 rfl
    unfold vVal at hl2
    have hr2 : RowAt w.heap.size (clCells Pa.c0) w2 := ((RowAt.new w #[.int .i64 0, .int .i64 0, .int .i64 0, .int .i64 0, .int .i64 0, .string ⟨#[]⟩, .int .i64 0, .int .i64 0] 24).below ((Below.refl _ _).alloc (Nat.le_refl _) _)).kp k2 (by show ¬ _ = rb; omega)
    clear hb2
    go_wp2_with fail
    have hrow : RowAt (w2.heap.size + 1) (clCells { Pa.c0 with kind := 10 }) ((w2.alloc (.cells #[.int .i64 10, .func (.func 103) #[.pointer (some ⟨rb, 0, none⟩)] #[]] 109)).alloc (.cells #[.int .i64 10, .int .i64 0, .int .i64 0, .int .i64 0, .int .i64 0, .string ⟨#[]⟩, .int .i64 0, .int .i64 0] 24)) := by
      have := RowAt.new (w2.alloc (.cells #[.int .i64 10, .func (.func 103) #[.pointer (some ⟨rb, 0, none⟩)] #[]] 109)) #[.int .i64 10, .int .i64 0, .int .i64 0, .int .i64 0, .int .i64 0, .string ⟨#[]⟩, .int .i64 0, .int .i64 0] 24
      rw [World.size_alloc] at this; exact this
    have Hc := H0 rb wb (w2.heap.size + 1) _ r _ ((ok.kp kw2 (by intro k hk; show ¬ k = rb; omega)).below (((Below.refl _ _).alloc (Nat.le_refl _) _).alloc (by simp) _)) (s2.below (((Below.refl _ _).alloc (Nat.le_refl _) _).alloc (by simp) _)) hrow (by omega) (by have := s2.wbl; omega) (by omega)
    rw [hq] at Hc
    clear hl2
    refine Hc.mono ?_
    rintro e w3 ⟨rfl, k3⟩
    go_wp2
    exact ⟨rfl, COut2.no rfl ⟨rfl, kw2.trans (Kp.mono ((((Kp.refl _ _).alloc _).alloc _).trans k3) (by intro k hk h; omega))⟩⟩
  | some p =>
    obtain ⟨c, r'⟩ := p
    go_enter Tryz.func61, Tryz.ntmps61
    go_wp2_with fail
    refine (verbs_any rb _).mono ?_
    rintro e w1 ⟨rfl, rfl⟩
    go_wp2_with fail
    refine (word_some rb wb _ r _ ((h.below ((Below.refl _ _).alloc (Nat.le_refl _) _)).below ((Below.refl _ _).alloc (Nat.le_refl _) _))).mono ?_
    rintro e w2 ⟨rfl, s2, k2⟩
    have hz2 := k2.size
    simp only [World.size_alloc] at hz2
    have kw2 : Kp (· = rb) w w2 := (((Kp.refl _ _).alloc _).alloc _).trans k2
    have hb2 : w2.heap[w.heap.size + 1]? = some (.map (vE rb 13) 13) := by
      rw [k2.block _ (by simp) (by show ¬ _ = rb; omega), ← World.size_alloc w]; exact heap_alloc_new _ _
    have hl2 := run_lookup_yes w2 (w.heap.size + 1) (vE rb 13) 13 ⟨#[115, 101, 110, 100, 116, 111]⟩ _ _ hb2 rfl
    unfold vVal at hl2
    have hr2 : RowAt w.heap.size (clCells Pa.c0) w2 := ((RowAt.new w #[.int .i64 0, .int .i64 0, .int .i64 0, .int .i64 0, .int .i64 0, .string ⟨#[]⟩, .int .i64 0, .int .i64 0] 24).below ((Below.refl _ _).alloc (Nat.le_refl _) _)).kp k2 (by show ¬ _ = rb; omega)
    clear hb2
    go_wp2_with fail
    have hrow : RowAt (w2.heap.size + 1) (clCells { Pa.c0 with kind := 10 }) ((w2.alloc (.cells #[.int .i64 10, .func (.func 103) #[.pointer (some ⟨rb, 0, none⟩)] #[]] 109)).alloc (.cells #[.int .i64 10, .int .i64 0, .int .i64 0, .int .i64 0, .int .i64 0, .string ⟨#[]⟩, .int .i64 0, .int .i64 0] 24)) := by
      have := RowAt.new (w2.alloc (.cells #[.int .i64 10, .func (.func 103) #[.pointer (some ⟨rb, 0, none⟩)] #[]] 109)) #[.int .i64 10, .int .i64 0, .int .i64 0, .int .i64 0, .int .i64 0, .string ⟨#[]⟩, .int .i64 0, .int .i64 0] 24
      rw [World.size_alloc] at this; exact this
    have Hc := H0 rb wb (w2.heap.size + 1) _ r _ ((ok.kp kw2 (by intro k hk; show ¬ k = rb; omega)).below (((Below.refl _ _).alloc (Nat.le_refl _) _).alloc (by simp) _)) (s2.below (((Below.refl _ _).alloc (Nat.le_refl _) _).alloc (by simp) _)) hrow (by omega) (by have := s2.wbl; omega) (by omega)
    rw [hq] at Hc
    clear hl2
    refine Hc.mono ?_
    rintro e w3 ⟨rfl, s3, c3, k3⟩
    have hr3 : RowAt w.heap.size (clCells Pa.c0) w3 := (hr2.below (((Below.refl _ _).alloc (Nat.le_refl _) _).alloc (by simp) _)).kp k3 (by omega)
    have hz3 := k3.size
    simp only [World.size_alloc] at hz3
    have kw3 : Kp (· = rb) w w3 := kw2.trans (Kp.mono ((((Kp.refl _ _).alloc _).alloc _).trans k3) (by intro k hk h; omega))
    obtain ⟨x0, x1, x2, x3, x4, x5, x6, x7⟩ := c
    have d0 := (c3.2 0 _ rfl).1
    have d1 := (c3.2 1 _ rfl).1
    have d2 := (c3.2 2 _ rfl).1
    have d3 := (c3.2 3 _ rfl).1
    have d4 := (c3.2 4 _ rfl).1
    have d5 := (c3.2 5 _ rfl).1
    have d6 := (c3.2 6 _ rfl).1
    have d7 := (c3.2 7 _ rfl).1
    have ⟨e0, f0⟩ := hr3.2 0 _ rfl
    have ⟨e1, f1⟩ := hr3.2 1 _ rfl
    have ⟨e2, f2⟩ := hr3.2 2 _ rfl
    have ⟨e3, f3⟩ := hr3.2 3 _ rfl
    have ⟨e4, f4⟩ := hr3.2 4 _ rfl
    have ⟨e5, f5⟩ := hr3.2 5 _ rfl
    have ⟨e6, f6⟩ := hr3.2 6 _ rfl
    have ⟨e7, f7⟩ := hr3.2 7 _ rfl
    have hA : w.heap.size ≠ rb := by omega
    have hB : w.heap.size ≠ wb := by omega
    go_wp2
    refine bodyPost_ret (v := clV ⟨x0, x1, x2, x3, x4, x5, x6, x7⟩) (by simp [results, Tryz.results61, go_sem, clV, e0, e1, e2, e3, e4, e5, e6, e7]) rfl (COut2.yes rfl ⟨rfl, ?_, ?_⟩)
    · exact (((((((s3.wr hA hB _ _).wr hA hB _ _).wr hA hB _ _).wr hA hB _ _).wr hA hB _ _).wr hA hB _ _).wr hA hB _ _).wr hA hB _ _
    · exact (((((((kw3.wn (Nat.le_refl _) _ _).wn (Nat.le_refl _) _ _).wn (Nat.le_refl _) _ _).wn (Nat.le_refl _) _ _).wn (Nat.le_refl _) _ _).wn (Nat.le_refl _) _ _).wn (Nat.le_refl _) _ _).wn (Nat.le_refl _) _ _


set_option maxHeartbeats 1000000 in
theorem call_name (rb wb : Nat) (r : List Pa.Bs) (w : World) (ok : Ok w) (h : StR rb wb (Pa.w_name :: r) w) : Calls Tryz.prog 61 #[.pointer (some ⟨rb, 0, none⟩)] w (COut2 rb wb (Pa.rdCall (Pa.w_name :: r)) w) := by
  have hrl := h.rbl
  have hwl := h.wbl
  have hr4 := h.rb4
  have hrd : Pa.rdCall (Pa.w_name :: r) = Pa.rdName { Pa.c0 with kind := 12 } r := rfl
  rw [hrd]; clear hrd
  have H0 := rname
  cases hq : Pa.rdName { Pa.c0 with kind := 12 } r with
  | none =>
    go_enter Tryz.func61, Tryz.ntmps61
    go_wp2_with fail
    refine (verbs_any rb _).mono ?_
    rintro e w1 ⟨rfl, rfl⟩
    go_wp2_with fail
    refine (word_some rb wb _ r _ ((h.below ((Below.refl _ _).alloc (Nat.le_refl _) _)).below ((Below.refl _ _).alloc (Nat.le_refl _) _))).mono ?_
    rintro e w2 ⟨rfl, s2, k2⟩
    have hz2 := k2.size
    simp only [World.size_alloc] at hz2
    have kw2 : Kp (· = rb) w w2 := (((Kp.refl _ _).alloc _).alloc _).trans k2
    have hb2 : w2.heap[w.heap.size + 1]? = some (.map (vE rb 13) 13) := by
      rw [k2.block _ (by simp) (by show ¬ _ = rb; omega), ← World.size_alloc w]; exact heap_alloc_new _ _
    have hl2 := run_lookup_yes w2 (w.heap.size + 1) (vE rb 13) 13 ⟨#[110, 97, 109, 101]⟩ _ _ hb2 rfl
    unfold vVal at hl2
    have hr2 : RowAt w.heap.size (clCells Pa.c0) w2 := ((RowAt.new w #[.int .i64 0, .int .i64 0, .int .i64 0, .int .i64 0, .int .i64 0, .string ⟨#[]⟩, .int .i64 0, .int .i64 0] 24).below ((Below.refl _ _).alloc (Nat.le_refl _) _)).kp k2 (by show ¬ _ = rb; omega)
    clear hb2
    go_wp2_with fail
    have hrow : RowAt (w2.heap.size + 1) (clCells { Pa.c0 with kind := 12 }) ((w2.alloc (.cells #[.int .i64 12, .func (.func 104) #[.pointer (some ⟨rb, 0, none⟩)] #[]] 109)).alloc (.cells #[.int .i64 12, .int .i64 0, .int .i64 0, .int .i64 0, .int .i64 0, .string ⟨#[]⟩, .int .i64 0, .int .i64 0] 24)) := by
      have := RowAt.new (w2.alloc (.cells #[.int .i64 12, .func (.func 104) #[.pointer (some ⟨rb, 0, none⟩)] #[]] 109)) #[.int .i64 12, .int .i64 0, .int .i64 0, .int .i64 0, .int .i64 0, .string ⟨#[]⟩, .int .i64 0, .int .i64 0] 24
      rw [World.size_alloc] at this; exact this
    have Hc := H0 rb wb (w2.heap.size + 1) _ r _ ((ok.kp kw2 (by intro k hk; show ¬ k = rb; omega)).below (((Below.refl _ _).alloc (Nat.le_refl _) _).alloc (by simp) _)) (s2.below (((Below.refl _ _).alloc (Nat.le_refl _) _).alloc (by simp) _)) hrow (by omega) (by have := s2.wbl; omega) (by omega)
    rw [hq] at Hc
    clear hl2
    refine Hc.mono ?_
    rintro e w3 ⟨rfl, k3⟩
    go_wp2
    exact ⟨rfl, COut2.no rfl ⟨rfl, kw2.trans (Kp.mono ((((Kp.refl _ _).alloc _).alloc _).trans k3) (by intro k hk h; omega))⟩⟩
  | some p =>
    obtain ⟨c, r'⟩ := p
    go_enter Tryz.func61, Tryz.ntmps61
    go_wp2_with fail
    refine (verbs_any rb _).mono ?_
    rintro e w1 ⟨rfl, rfl⟩
    go_wp2_with fail
    refine (word_some rb wb _ r _ ((h.below ((Below.refl _ _).alloc (Nat.le_refl _) _)).below ((Below.refl _ _).alloc (Nat.le_refl _) _))).mono ?_
    rintro e w2 ⟨rfl, s2, k2⟩
    have hz2 := k2.size
    simp only [World.size_alloc] at hz2
    have kw2 : Kp (· = rb) w w2 := (((Kp.refl _ _).alloc _).alloc _).trans k2
    have hb2 : w2.heap[w.heap.size + 1]? = some (.map (vE rb 13) 13) := by
      rw [k2.block _ (by simp) (by show ¬ _ = rb; omega), ← World.size_alloc w]; exact heap_alloc_new _ _
    have hl2 := run_lookup_yes w2 (w.heap.size + 1) (vE rb 13) 13 ⟨#[110, 97, 109, 101]⟩ _ _ hb2 rfl
    unfold vVal at hl2
    have hr2 : RowAt w.heap.size (clCells Pa.c0) w2 := ((RowAt.new w #[.int .i64 0, .int .i64 0, .int .i64 0, .int .i64 0, .int .i64 0, .string ⟨#[]⟩, .int .i64 0, .int .i64 0] 24).below ((Below.refl _ _).alloc (Nat.le_refl _) _)).kp k2 (by show ¬ _ = rb; omega)
    clear hb2
    go_wp2_with fail
    have hrow : RowAt (w2.heap.size + 1) (clCells { Pa.c0 with kind := 12 }) ((w2.alloc (.cells #[.int .i64 12, .func (.func 104) #[.pointer (some ⟨rb, 0, none⟩)] #[]] 109)).alloc (.cells #[.int .i64 12, .int .i64 0, .int .i64 0, .int .i64 0, .int .i64 0, .string ⟨#[]⟩, .int .i64 0, .int .i64 0] 24)) := by
      have := RowAt.new (w2.alloc (.cells #[.int .i64 12, .func (.func 104) #[.pointer (some ⟨rb, 0, none⟩)] #[]] 109)) #[.int .i64 12, .int .i64 0, .int .i64 0, .int .i64 0, .int .i64 0, .string ⟨#[]⟩, .int .i64 0, .int .i64 0] 24
      rw [World.size_alloc] at this; exact this
    have Hc := H0 rb wb (w2.heap.size + 1) _ r _ ((ok.kp kw2 (by intro k hk; show ¬ k = rb; omega)).below (((Below.refl _ _).alloc (Nat.le_refl _) _).alloc (by simp) _)) (s2.below (((Below.refl _ _).alloc (Nat.le_refl _) _).alloc (by simp) _)) hrow (by omega) (by have := s2.wbl; omega) (by omega)
    rw [hq] at Hc
    clear hl2
    refine Hc.mono ?_
    rintro e w3 ⟨rfl, s3, c3, k3⟩
    have hr3 : RowAt w.heap.size (clCells Pa.c0) w3 := (hr2.below (((Below.refl _ _).alloc (Nat.le_refl _) _).alloc (by simp) _)).kp k3 (by omega)
    have hz3 := k3.size
    simp only [World.size_alloc] at hz3
    have kw3 : Kp (· = rb) w w3 := kw2.trans (Kp.mono ((((Kp.refl _ _).alloc _).alloc _).trans k3) (by intro k hk h; omega))
    obtain ⟨x0, x1, x2, x3, x4, x5, x6, x7⟩ := c
    have d0 := (c3.2 0 _ rfl).1
    have d1 := (c3.2 1 _ rfl).1
    have d2 := (c3.2 2 _ rfl).1
    have d3 := (c3.2 3 _ rfl).1
    have d4 := (c3.2 4 _ rfl).1
    have d5 := (c3.2 5 _ rfl).1
    have d6 := (c3.2 6 _ rfl).1
    have d7 := (c3.2 7 _ rfl).1
    have ⟨e0, f0⟩ := hr3.2 0 _ rfl
    have ⟨e1, f1⟩ := hr3.2 1 _ rfl
    have ⟨e2, f2⟩ := hr3.2 2 _ rfl
    have ⟨e3, f3⟩ := hr3.2 3 _ rfl
    have ⟨e4, f4⟩ := hr3.2 4 _ rfl
    have ⟨e5, f5⟩ := hr3.2 5 _ rfl
    have ⟨e6, f6⟩ := hr3.2 6 _ rfl
    have ⟨e7, f7⟩ := hr3.2 7 _ rfl
    have hA : w.heap.size ≠ rb := by omega
    have hB : w.heap.size ≠ wb := by omega
    go_wp2
    refine bodyPost_ret (v := clV ⟨x0, x1, x2, x3, x4, x5, x6, x7⟩) (by simp [results, Tryz.results61, go_sem, clV, e0, e1, e2, e3, e4, e5, e6, e7]) rfl (COut2.yes rfl ⟨rfl, ?_, ?_⟩)
    · exact (((((((s3.wr hA hB _ _).wr hA hB _ _).wr hA hB _ _).wr hA hB _ _).wr hA hB _ _).wr hA hB _ _).wr hA hB _ _).wr hA hB _ _
    · exact (((((((kw3.wn (Nat.le_refl _) _ _).wn (Nat.le_refl _) _ _).wn (Nat.le_refl _) _ _).wn (Nat.le_refl _) _ _).wn (Nat.le_refl _) _ _).wn (Nat.le_refl _) _ _).wn (Nat.le_refl _) _ _).wn (Nat.le_refl _) _ _


set_option maxHeartbeats 1000000 in
theorem call_ping (rb wb : Nat) (r : List Pa.Bs) (w : World) (ok : Ok w) (h : StR rb wb (Pa.w_ping :: r) w) : Calls Tryz.prog 61 #[.pointer (some ⟨rb, 0, none⟩)] w (COut2 rb wb (Pa.rdCall (Pa.w_ping :: r)) w) := by
  have hrl := h.rbl
  have hwl := h.wbl
  have hr4 := h.rb4
  have hrd : Pa.rdCall (Pa.w_ping :: r) = Pa.rdAddress { Pa.c0 with kind := 13 } r := rfl
  rw [hrd]; clear hrd
  have H0 := raddress
  cases hq : Pa.rdAddress { Pa.c0 with kind := 13 } r with
  | none =>
    go_enter Tryz.func61, Tryz.ntmps61
    go_wp2_with fail
    refine (verbs_any rb _).mono ?_
    rintro e w1 ⟨rfl, rfl⟩
    go_wp2_with fail
    refine (word_some rb wb _ r _ ((h.below ((Below.refl _ _).alloc (Nat.le_refl _) _)).below ((Below.refl _ _).alloc (Nat.le_refl _) _))).mono ?_
    rintro e w2 ⟨rfl, s2, k2⟩
    have hz2 := k2.size
    simp only [World.size_alloc] at hz2
    have kw2 : Kp (· = rb) w w2 := (((Kp.refl _ _).alloc _).alloc _).trans k2
    have hb2 : w2.heap[w.heap.size + 1]? = some (.map (vE rb 13) 13) := by
      rw [k2.block _ (by simp) (by show ¬ _ = rb; omega), ← World.size_alloc w]; exact heap_alloc_new _ _
    have hl2 := run_lookup_yes w2 (w.heap.size + 1) (vE rb 13) 13 ⟨#[112, 105, 110, 103]⟩ _ _ hb2 rfl
    unfold vVal at hl2
    have hr2 : RowAt w.heap.size (clCells Pa.c0) w2 := ((RowAt.new w #[.int .i64 0, .int .i64 0, .int .i64 0, .int .i64 0, .int .i64 0, .string ⟨#[]⟩, .int .i64 0, .int .i64 0] 24).below ((Below.refl _ _).alloc (Nat.le_refl _) _)).kp k2 (by show ¬ _ = rb; omega)
    clear hb2
    go_wp2_with fail
    have hrow : RowAt (w2.heap.size + 1) (clCells { Pa.c0 with kind := 13 }) ((w2.alloc (.cells #[.int .i64 13, .func (.func 105) #[.pointer (some ⟨rb, 0, none⟩)] #[]] 109)).alloc (.cells #[.int .i64 13, .int .i64 0, .int .i64 0, .int .i64 0, .int .i64 0, .string ⟨#[]⟩, .int .i64 0, .int .i64 0] 24)) := by
      have := RowAt.new (w2.alloc (.cells #[.int .i64 13, .func (.func 105) #[.pointer (some ⟨rb, 0, none⟩)] #[]] 109)) #[.int .i64 13, .int .i64 0, .int .i64 0, .int .i64 0, .int .i64 0, .string ⟨#[]⟩, .int .i64 0, .int .i64 0] 24
      rw [World.size_alloc] at this; exact this
    have Hc := H0 rb wb (w2.heap.size + 1) _ r _ ((ok.kp kw2 (by intro k hk; show ¬ k = rb; omega)).below (((Below.refl _ _).alloc (Nat.le_refl _) _).alloc (by simp) _)) (s2.below (((Below.refl _ _).alloc (Nat.le_refl _) _).alloc (by simp) _)) hrow (by omega) (by have := s2.wbl; omega) (by omega)
    rw [hq] at Hc
    clear hl2
    refine Hc.mono ?_
    rintro e w3 ⟨rfl, k3⟩
    go_wp2
    exact ⟨rfl, COut2.no rfl ⟨rfl, kw2.trans (Kp.mono ((((Kp.refl _ _).alloc _).alloc _).trans k3) (by intro k hk h; omega))⟩⟩
  | some p =>
    obtain ⟨c, r'⟩ := p
    go_enter Tryz.func61, Tryz.ntmps61
    go_wp2_with fail
    refine (verbs_any rb _).mono ?_
    rintro e w1 ⟨rfl, rfl⟩
    go_wp2_with fail
    refine (word_some rb wb _ r _ ((h.below ((Below.refl _ _).alloc (Nat.le_refl _) _)).below ((Below.refl _ _).alloc (Nat.le_refl _) _))).mono ?_
    rintro e w2 ⟨rfl, s2, k2⟩
    have hz2 := k2.size
    simp only [World.size_alloc] at hz2
    have kw2 : Kp (· = rb) w w2 := (((Kp.refl _ _).alloc _).alloc _).trans k2
    have hb2 : w2.heap[w.heap.size + 1]? = some (.map (vE rb 13) 13) := by
      rw [k2.block _ (by simp) (by show ¬ _ = rb; omega), ← World.size_alloc w]; exact heap_alloc_new _ _
    have hl2 := run_lookup_yes w2 (w.heap.size + 1) (vE rb 13) 13 ⟨#[112, 105, 110, 103]⟩ _ _ hb2 rfl
    unfold vVal at hl2
    have hr2 : RowAt w.heap.size (clCells Pa.c0) w2 := ((RowAt.new w #[.int .i64 0, .int .i64 0, .int .i64 0, .int .i64 0, .int .i64 0, .string ⟨#[]⟩, .int .i64 0, .int .i64 0] 24).below ((Below.refl _ _).alloc (Nat.le_refl _) _)).kp k2 (by show ¬ _ = rb; omega)
    clear hb2
    go_wp2_with fail
    have hrow : RowAt (w2.heap.size + 1) (clCells { Pa.c0 with kind := 13 }) ((w2.alloc (.cells #[.int .i64 13, .func (.func 105) #[.pointer (some ⟨rb, 0, none⟩)] #[]] 109)).alloc (.cells #[.int .i64 13, .int .i64 0, .int .i64 0, .int .i64 0, .int .i64 0, .string ⟨#[]⟩, .int .i64 0, .int .i64 0] 24)) := by
      have := RowAt.new (w2.alloc (.cells #[.int .i64 13, .func (.func 105) #[.pointer (some ⟨rb, 0, none⟩)] #[]] 109)) #[.int .i64 13, .int .i64 0, .int .i64 0, .int .i64 0, .int .i64 0, .string ⟨#[]⟩, .int .i64 0, .int .i64 0] 24
      rw [World.size_alloc] at this; exact this
    have Hc := H0 rb wb (w2.heap.size + 1) _ r _ ((ok.kp kw2 (by intro k hk; show ¬ k = rb; omega)).below (((Below.refl _ _).alloc (Nat.le_refl _) _).alloc (by simp) _)) (s2.below (((Below.refl _ _).alloc (Nat.le_refl _) _).alloc (by simp) _)) hrow (by omega) (by have := s2.wbl; omega) (by omega)
    rw [hq] at Hc
    clear hl2
    refine Hc.mono ?_
    rintro e w3 ⟨rfl, s3, c3, k3⟩
    have hr3 : RowAt w.heap.size (clCells Pa.c0) w3 := (hr2.below (((Below.refl _ _).alloc (Nat.le_refl _) _).alloc (by simp) _)).kp k3 (by omega)
    have hz3 := k3.size
    simp only [World.size_alloc] at hz3
    have kw3 : Kp (· = rb) w w3 := kw2.trans (Kp.mono ((((Kp.refl _ _).alloc _).alloc _).trans k3) (by intro k hk h; omega))
    obtain ⟨x0, x1, x2, x3, x4, x5, x6, x7⟩ := c
    have d0 := (c3.2 0 _ rfl).1
    have d1 := (c3.2 1 _ rfl).1
    have d2 := (c3.2 2 _ rfl).1
    have d3 := (c3.2 3 _ rfl).1
    have d4 := (c3.2 4 _ rfl).1
    have d5 := (c3.2 5 _ rfl).1
    have d6 := (c3.2 6 _ rfl).1
    have d7 := (c3.2 7 _ rfl).1
    have ⟨e0, f0⟩ := hr3.2 0 _ rfl
    have ⟨e1, f1⟩ := hr3.2 1 _ rfl
    have ⟨e2, f2⟩ := hr3.2 2 _ rfl
    have ⟨e3, f3⟩ := hr3.2 3 _ rfl
    have ⟨e4, f4⟩ := hr3.2 4 _ rfl
    have ⟨e5, f5⟩ := hr3.2 5 _ rfl
    have ⟨e6, f6⟩ := hr3.2 6 _ rfl
    have ⟨e7, f7⟩ := hr3.2 7 _ rfl
    have hA : w.heap.size ≠ rb := by omega
    have hB : w.heap.size ≠ wb := by omega
    go_wp2
    refine bodyPost_ret (v := clV ⟨x0, x1, x2, x3, x4, x5, x6, x7⟩) (by simp [results, Tryz.results61, go_sem, clV, e0, e1, e2, e3, e4, e5, e6, e7]) rfl (COut2.yes rfl ⟨rfl, ?_, ?_⟩)
    · exact (((((((s3.wr hA hB _ _).wr hA hB _ _).wr hA hB _ _).wr hA hB _ _).wr hA hB _ _).wr hA hB _ _).wr hA hB _ _).wr hA hB _ _
    · exact (((((((kw3.wn (Nat.le_refl _) _ _).wn (Nat.le_refl _) _ _).wn (Nat.le_refl _) _ _).wn (Nat.le_refl _) _ _).wn (Nat.le_refl _) _ _).wn (Nat.le_refl _) _ _).wn (Nat.le_refl _) _ _).wn (Nat.le_refl _) _ _

end Go.Proofs.YtgajoiijebbagaaGreatDoor

/-! The walk of script's reader: call, whatever the words. Conditions: the words lie in memory. -/
namespace Go.Proofs.YtgajoiijebbagaaGreatDoor
open Go.RowKit Go.Proofs

theorem bne_word {x y : Pa.Bs} (h : x ≠ y) : ((⟨x.toArray⟩ : ByteArray) == ⟨y.toArray⟩) = false := by
  show (x.toArray == y.toArray) = false
  rw [beq_eq_false_iff_ne]; intro e; exact h (by simpa using e)
set_option maxHeartbeats 1000000 in
theorem call_other (rb wb : Nat) (x : Pa.Bs) (r : List Pa.Bs) (w : World) (h : StR rb wb (x :: r) w) (n0 : x ≠ Pa.w_socket) (n1 : x ≠ Pa.w_bind) (n2 : x ≠ Pa.w_listen) (n3 : x ≠ Pa.w_connect) (n4 : x ≠ Pa.w_accept) (n5 : x ≠ Pa.w_shut) (n6 : x ≠ Pa.w_close) (n7 : x ≠ Pa.w_recvfrom) (n8 : x ≠ Pa.w_send) (n9 : x ≠ Pa.w_recv) (n10 : x ≠ Pa.w_sendto) (n11 : x ≠ Pa.w_name) (n12 : x ≠ Pa.w_ping) :
    Calls Tryz.prog 61 #[.pointer (some ⟨rb, 0, none⟩)] w (COut2 rb wb (Pa.rdCall (x :: r)) w) := by
  have hrl := h.rbl
  have HO : Hid (Pa.rdCall (x :: r) = none) := by
    simp [Hid, Pa.rdCall, Pa.rdWord, Pa.verbs, (Ne.symm n0), (Ne.symm n1), (Ne.symm n2), (Ne.symm n3), (Ne.symm n4), (Ne.symm n5), (Ne.symm n6), (Ne.symm n7), (Ne.symm n8), (Ne.symm n9), (Ne.symm n10), (Ne.symm n11), (Ne.symm n12)]
  have hfn : Instr.findNow .string (.string ⟨x.toArray⟩) (vE rb 13).toList 0 = some none := by
    simp [vE, vList, Instr.findNow, Instr.sameNow, bne_word n0, bne_word n1, bne_word n2, bne_word n3, bne_word n4, bne_word n5, bne_word n6, bne_word n7, bne_word n8, bne_word n9, bne_word n10, bne_word n11, bne_word n12]
  clear n0 n1 n2 n3 n4 n5 n6 n7 n8 n9 n10 n11 n12
  obtain ⟨s, hs⟩ : ∃ s : ByteArray, s = ⟨x.toArray⟩ := ⟨_, rfl⟩
  rw [← hs] at hfn
  have hword := fun (w : World) (h : StR rb wb (x :: r) w) => word_some rb wb x r w h
  rw [← hs] at hword
  clear hs
  go_enter Tryz.func61, Tryz.ntmps61
  go_wp2_with fail
  refine (verbs_any rb _).mono ?_
  rintro e w1 ⟨rfl, rfl⟩
  go_wp2_with fail
  refine (hword _ ((h.below ((Below.refl _ _).alloc (Nat.le_refl _) _)).below ((Below.refl _ _).alloc (Nat.le_refl _) _))).mono ?_
  rintro e w2 ⟨rfl, s2, k2⟩
  have kw2 : Kp (· = rb) w w2 := (((Kp.refl _ _).alloc _).alloc _).trans k2
  have hb2 : w2.heap[w.heap.size + 1]? = some (.map (vE rb 13) 13) := by
    rw [k2.block _ (by simp) (by show ¬ _ = rb; omega), ← World.size_alloc w]; exact heap_alloc_new _ _
  have hl2 := run_lookup_no w2 (w.heap.size + 1) (vE rb 13) 13 s hb2 hfn
  clear hb2 hfn
  go_wp2
  exact ⟨rfl, COut2.no HO.out ⟨rfl, kw2.alloc _⟩⟩

/-- The reader reads a call. -/
theorem call_any (rb wb : Nat) (ws : List Pa.Bs) (w : World) (ok : Ok w) (h : StR rb wb ws w) : Calls Tryz.prog 61 #[.pointer (some ⟨rb, 0, none⟩)] w (COut2 rb wb (Pa.rdCall ws) w) := by
  cases ws with
  | nil => exact call_none rb wb w h
  | cons x r =>
    by_cases n0 : x = Pa.w_socket
    · subst n0; exact call_socket rb wb r w ok h
    by_cases n1 : x = Pa.w_bind
    · subst n1; exact call_bind rb wb r w ok h
    by_cases n2 : x = Pa.w_listen
    · subst n2; exact call_listen rb wb r w ok h
    by_cases n3 : x = Pa.w_connect
    · subst n3; exact call_connect rb wb r w ok h
    by_cases n4 : x = Pa.w_accept
    · subst n4; exact call_accept rb wb r w ok h
    by_cases n5 : x = Pa.w_shut
    · subst n5; exact call_shut rb wb r w ok h
    by_cases n6 : x = Pa.w_close
    · subst n6; exact call_close rb wb r w ok h
    by_cases n7 : x = Pa.w_recvfrom
    · subst n7; exact call_recvfrom rb wb r w ok h
    by_cases n8 : x = Pa.w_send
    · subst n8; exact call_send rb wb r w ok h
    by_cases n9 : x = Pa.w_recv
    · subst n9; exact call_recv rb wb r w ok h
    by_cases n10 : x = Pa.w_sendto
    · subst n10; exact call_sendto rb wb r w ok h
    by_cases n11 : x = Pa.w_name
    · subst n11; exact call_name rb wb r w ok h
    by_cases n12 : x = Pa.w_ping
    · subst n12; exact call_ping rb wb r w ok h
    exact call_other rb wb x r w h n0 n1 n2 n3 n4 n5 n6 n7 n8 n9 n10 n11 n12

end Go.Proofs.YtgajoiijebbagaaGreatDoor
