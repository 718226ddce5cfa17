/-
  The walk of script.line at a call, and at every valid action. Conditions: the action is valid, its fates lie in memory.
-/
import Derived.Test.YtgajoiijebbagaaGreatDoorSLine2
namespace Go.Proofs.YtgajoiijebbagaaGreatDoor
open Go.RowKit Go.Proofs

theorem Pa.callW_pos {c : Pa.Cl} (h : Pa.okC c = true) : 0 < (Pa.callW c).length := by
  have := Pa.rdCall_ok h
  cases hc : Pa.callW c with
  | nil => rw [hc] at this; cases this
  | cons x r => simp
theorem strs_news {w : World} {b : Nat} {ws : List Pa.Bs} (h : ∀ (j : Nat) (h : j < ws.length), w.cell? ⟨b, j, none⟩ = some (.string ⟨ws[j].toArray⟩)) : ∀ j u, (ws.map strV)[j]? = some u → w.cell? ((⟨b, 0, none⟩ : Addr).add j) = some u := by
  intro j u hu
  rw [List.getElem?_map] at hu
  obtain ⟨x, hx, rfl⟩ := Option.map_eq_some_iff.1 hu
  obtain ⟨hj, rfl⟩ := List.getElem?_eq_some_iff.1 hx
  rw [addr_add]; exact h j hj
theorem strs_one (ws : List Pa.Bs) : ∀ u ∈ ws.map strV, u.oneCell' = true := by
  intro u hu
  obtain ⟨x, _, rfl⟩ := List.mem_map.1 hu
  simp [strV, Value.oneCell']

set_option maxRecDepth 100000 in
set_option maxHeartbeats 4000000 in
theorem line_1 (a : Pa.Ac) (fv : Value) (w : World) (ok : Ok w) (h : Pa.okA a = true) (hk : a.kind = 1) :
    Calls Tryz.prog 26 #[acV a fv] w fun e w' => e = .returned (.string ⟨(Pa.lineA a).toArray⟩) ∧ Below w.heap.size w w' := by
  have hw := Pa.wl_small h
  have hn := (Pa.okA_parts h).2.2
  have hl : Pa.lineW a = Pa.w_call :: Pa.num a.host :: Pa.callW a.call := by simp [Pa.lineW, hk]
  obtain ⟨k, hh, c, n, fs, s⟩ := a
  simp only at hk
  subst hk
  simp [Pa.inR_true] at hn
  unfold Pa.lineA
  rw [hl] at hw ⊢
  clear hl h
  obtain ⟨hh1, hoc⟩ := hn
  have HC := Lib.hid hoc; clear hoc
  simp only at hw
  obtain ⟨ws, hws⟩ : ∃ ws, ws = Pa.callW c := ⟨_, rfl⟩
  have hcw := fun (w : World) (ok : Ok w) => callWords_any c w ok HC.out
  rw [← hws] at hw hcw
  show Calls _ _ _ _ fun e w' => e = .returned (.string ⟨(Lib.join (Pa.w_call :: Pa.num hh :: Pa.callW c) [32]).toArray⟩) ∧ Below w.heap.size w w'
  rw [← hws]
  have hw0 : 0 < ws.length := by rw [hws]; exact Pa.callW_pos HC.out
  obtain ⟨x1, x2, x3, x4, x5, x6, x7, x8⟩ := c
  clear HC hws
  unfold clV at hcw
  unfold acV
  simp only
  obtain ⟨i0, hi, hz0, hz1, hz2⟩ := info_parts infoS
  have hwl : ws.length ≤ 1000000 := by have := hw.1; simp at this; omega
  obtain ⟨B, hB⟩ : ∃ B, B = w.heap.size := ⟨_, rfl⟩
  go_enter Tryz.func26, Tryz.ntmps26
  go_wp2_with fail
  rw [← hB]
  obtain ⟨W, hW⟩ : ∃ W : World, W = w.alloc (.cells #[.int .i64 1, .int .i64 hh, .int .i64 x1, .int .i64 x2, .int .i64 x3, .int .i64 x4, .int .i64 x5, .string x6, .int .i64 x7, .int .i64 x8, .int .i64 n, fv, .string s] 27) := ⟨_, rfl⟩
  rw [← hW]
  have hBW : Below B w W := by rw [hB, hW]; exact (Below.refl _ _).alloc (Nat.le_refl _) _
  have hlB : B < W.heap.size := by rw [hB, hW]; simp
  have okW : Ok W := ok.below (by rw [← hB]; exact hBW)
  have c1 : W.cell? ⟨B, 1, none⟩ = some (.int .i64 hh) := by rw [hB, hW]; simp
  have c2 : W.cell? ⟨B, 2, none⟩ = some (.int .i64 x1) := by rw [hB, hW]; simp
  have c3 : W.cell? ⟨B, 3, none⟩ = some (.int .i64 x2) := by rw [hB, hW]; simp
  have c4 : W.cell? ⟨B, 4, none⟩ = some (.int .i64 x3) := by rw [hB, hW]; simp
  have c5 : W.cell? ⟨B, 5, none⟩ = some (.int .i64 x4) := by rw [hB, hW]; simp
  have c6 : W.cell? ⟨B, 6, none⟩ = some (.int .i64 x5) := by rw [hB, hW]; simp
  have c7 : W.cell? ⟨B, 7, none⟩ = some (.string x6) := by rw [hB, hW]; simp
  have c8 : W.cell? ⟨B, 8, none⟩ = some (.int .i64 x7) := by rw [hB, hW]; simp
  have c9 : W.cell? ⟨B, 9, none⟩ = some (.int .i64 x8) := by rw [hB, hW]; simp
  have HW := Lib.hid hW; have HB := Lib.hid hB; clear hW hB
  have KS : Hid (∀ w' : World, Below W.heap.size W w' → Below W.heap.size W w' ∧ w'.cell? ⟨B, 1, none⟩ = some (.int .i64 hh) ∧ w'.cell? ⟨B, 2, none⟩ = some (.int .i64 x1) ∧ w'.cell? ⟨B, 3, none⟩ = some (.int .i64 x2) ∧ w'.cell? ⟨B, 4, none⟩ = some (.int .i64 x3) ∧ w'.cell? ⟨B, 5, none⟩ = some (.int .i64 x4) ∧ w'.cell? ⟨B, 6, none⟩ = some (.int .i64 x5) ∧ w'.cell? ⟨B, 7, none⟩ = some (.string x6) ∧ w'.cell? ⟨B, 8, none⟩ = some (.int .i64 x7) ∧ w'.cell? ⟨B, 9, none⟩ = some (.int .i64 x8)) :=
    fun u h => ⟨h, cell_below h hlB c1, cell_below h hlB c2, cell_below h hlB c3, cell_below h hlB c4, cell_below h hlB c5, cell_below h hlB c6, cell_below h hlB c7, cell_below h hlB c8, cell_below h hlB c9⟩
  clear c1 c2 c3 c4 c5 c6 c7 c8 c9
  go_region_held3 (fun w' => Below W.heap.size W w' ∧ w'.cell? ⟨B, 1, none⟩ = some (.int .i64 hh) ∧ w'.cell? ⟨B, 2, none⟩ = some (.int .i64 x1) ∧ w'.cell? ⟨B, 3, none⟩ = some (.int .i64 x2) ∧ w'.cell? ⟨B, 4, none⟩ = some (.int .i64 x3) ∧ w'.cell? ⟨B, 5, none⟩ = some (.int .i64 x4) ∧ w'.cell? ⟨B, 6, none⟩ = some (.int .i64 x5) ∧ w'.cell? ⟨B, 7, none⟩ = some (.string x6) ∧ w'.cell? ⟨B, 8, none⟩ = some (.int .i64 x7) ∧ w'.cell? ⟨B, 9, none⟩ = some (.int .i64 x8))
    ((refine KS.out _ ?_; first | exact (Below.refl _ _).drew | exact below_on (‹Below W.heap.size W _ ∧ _›).1 (by assumption) | exact Below.alloc (‹Below W.heap.size W _ ∧ _›).1 (‹Below W.heap.size W _ ∧ _›).1.size _ | exact Below.grown (‹Below W.heap.size W _ ∧ _›).1 hgrow (‹Below W.heap.size W _ ∧ _›).1.size (fun k hk => by cases hk; first | exact hB1 | exact Nat.le_trans hB1 hb2.size)))
    (first
      | (go_at_call 41; refine (itoa_any hh _ (by omega) (by omega) (okW.below (‹Below W.heap.size W _ ∧ _›).1)).mono ?_; rintro e u1 ⟨rfl, hb1⟩; have hB1 : W.heap.size ≤ u1.heap.size := Nat.le_trans (‹Below W.heap.size W _ ∧ _›).1.size hb1.size)
      | (go_at_call 47; refine (hcw _ (okW.below (‹Below W.heap.size W _ ∧ _›).1)).mono ?_; rintro e u2 ⟨v, rfl, ⟨b, c, rfl, hs1, hs2, hs3⟩, hb2⟩)
      | (refine step_append_lies _ (by rfl) (.tmp 13) (.tmp 16) 41 (by rfl) W.heap.size 9 i0 (.string ⟨#[]⟩) 1 16 Tryz.underlying41 hi hz0 hz1 hz2 rfl (by decide) _ 2 [strV Pa.w_call, strV (Pa.num hh)] (by rfl) (owns_same (owns_new u1 W.heap.size 9 #[strV Pa.w_call, strV (Pa.num hh)] hB1 (by simp [maxLen])) (fun g hg => by cases hg; exact hb2.block _ (by simp))) ⟨b, 0, none⟩ ws.length c (ws.map strV) (by rfl) (by simp) (strs_news hs3) (strs_one ws) hw0 (by unfold maxLen; omega) (by omega) (Nat.le_trans hB1 (Nat.le_trans (by simp) hb2.size)) _ rfl ?_; intro g1 cap1 w2 hown2 hgrow hat hlt2)
      | (refine step_append_lies _ (by rfl) (.tmp 13) (.tmp 16) 41 (by rfl) W.heap.size 9 i0 (.string ⟨#[]⟩) 1 16 Tryz.underlying41 hi hz0 hz1 hz2 rfl (by decide) _ 2 [strV Pa.w_call, strV (Pa.num hh)] (by rfl) (owns_new u2 W.heap.size 9 #[strV Pa.w_call, strV (Pa.num hh)] (Nat.le_trans hB1 hb2.size) (by simp [maxLen])) ⟨b, 0, none⟩ ws.length c (ws.map strV) (by rfl) (by simp) (strs_news (fun j hj => cell_old _ hs2 (hs3 j hj))) (strs_one ws) hw0 (by unfold maxLen; omega) (by omega) (Nat.le_trans (Nat.le_trans hB1 hb2.size) (by simp)) _ rfl ?_; intro g1 cap1 w2 hown2 hgrow hat hlt2))
  all_goals
    have hst : StrsAt w2 (.slice (some ⟨g1, 0, none⟩) (2 + ws.length) cap1) (Pa.w_call :: Pa.num hh :: ws) := strsAt_own (base := W.heap.size) (by simp; omega) (by simpa using hown2)
    have hb3 : Below w.heap.size w w2 := by
      rw [← HB.out]; exact hBW.trans ((‹Below W.heap.size W w2 ∧ _›).1.mono (Nat.le_of_lt hlB))
    clear hown2 hgrow hat hcw hs3 KS
    go_wp2_with (go_at_call 42; refine (join_any _ _ _ hst hw.1 hw.2).mono ?_; rintro e u3 ⟨rfl, hb4⟩)
    go_ret
    exact ⟨rfl, below_on hb3 hb4⟩

/-- The line of every valid action. -/
theorem line_any (a : Pa.Ac) (fv : Value) (w : World) (ok : Ok w) (h : Pa.okA a = true) (hf : Fs w fv a.fates) :
    Calls Tryz.prog 26 #[acV a fv] w fun e w' => e = .returned (.string ⟨(Pa.lineA a).toArray⟩) ∧ Below w.heap.size w w' := by
  have hk := (Pa.okA_parts h).1
  rcases (by omega : a.kind = 1 ∨ a.kind = 2 ∨ a.kind = 3 ∨ a.kind = 4) with h1 | h1 | h1 | h1
  · exact line_1 a fv w ok h h1
  · exact line_2 a fv w ok h h1
  · exact line_3 a fv w ok h h1 hf
  · exact line_4 a fv w ok h h1

end Go.Proofs.YtgajoiijebbagaaGreatDoor
