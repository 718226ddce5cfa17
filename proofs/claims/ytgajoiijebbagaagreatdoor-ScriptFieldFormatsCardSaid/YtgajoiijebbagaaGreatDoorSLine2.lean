/-
  The walk of script.line. It says which line it gives for a valid action, and that what was there is unchanged. Conditions: the action is valid, its fates lie in memory.
-/
import Derived.Test.YtgajoiijebbagaaGreatDoorSLine
import Derived.Test.YtgajoiijebbagaaGreatDoorSRead2
import Derived.Deep.RegionHeld3
import Derived.Deep.AppendSrc
namespace Go.Proofs.YtgajoiijebbagaaGreatDoor
open Go.RowKit Go.Proofs

theorem join_any (v : Value) (ws : List Pa.Bs) (w : World) (h : StrsAt w v ws) (hN : ws.length ≤ 1000000) (hl : (Lib.join ws [32]).length ≤ 1000000) :
    Calls Tryz.prog 42 #[v, .string ⟨#[32]⟩] w fun e w' => e = .returned (.string ⟨(Lib.join ws [32]).toArray⟩) ∧ Below w.heap.size w w' := by
  obtain ⟨b, c, rfl, h2, h3, h4⟩ := h
  have hm : (ws.map fun x => (⟨x.toArray⟩ : ByteArray)).map (·.data.toList) = ws := by
    rw [List.map_map]; conv => rhs; rw [← List.map_id ws]
    apply List.map_congr_left; intro x _; simp
  have := Tryz.strings_Join b 0 c (ws.map fun x => ⟨x.toArray⟩) ⟨#[32]⟩ w (fun j x hx => by
    rw [List.getElem?_map] at hx
    obtain ⟨y, hy, rfl⟩ := Option.map_eq_some_iff.1 hx
    obtain ⟨hj, rfl⟩ := List.getElem?_eq_some_iff.1 hy
    rw [Nat.zero_add]; exact h4 j hj) h3 (by simp; omega) (by simpa using h2) (by rw [hm]; exact Nat.le_trans hl (by omega))
  rw [hm, List.length_map] at this
  exact this

theorem Pa.len_wl : ∀ ws : List Pa.Bs, ws.length ≤ Pa.wl ws
  | [] => by simp
  | w :: r => by have := Pa.len_wl r; simp only [Pa.wl, List.map_cons, List.sum_cons, List.length_cons] at this ⊢; omega
theorem Pa.wl_small {a : Pa.Ac} (h : Pa.okA a = true) : (Pa.lineW a).length ≤ 1000000 ∧ (Lib.join (Pa.lineW a) [32]).length ≤ 1000000 := by
  refine ⟨?_, Nat.le_trans (Pa.line_len h) (by omega)⟩
  obtain ⟨hk, hn, ho⟩ := Pa.okA_parts h
  unfold Pa.lineW
  by_cases h1 : a.kind = 1
  · rw [if_pos h1]
    rw [if_pos h1] at ho
    simp only [Bool.and_eq_true] at ho
    have h5 := Pa.callW_len ho.2
    have h6 := Pa.len_wl (Pa.callW a.call)
    simp only [List.length_cons]; omega
  rw [if_neg h1]
  by_cases h2 : a.kind = 2
  · rw [if_pos h2]; simp
  rw [if_neg h2]
  by_cases h3 : a.kind = 3
  · rw [if_pos h3]
    rw [if_neg h1, if_neg h2, if_pos h3] at ho
    simp only [Pa.okF, Bool.and_eq_true, decide_eq_true_eq] at ho
    simp; omega
  · rw [if_neg h3]; simp

theorem line_2 (a : Pa.Ac) (fv : Value) (w : World) (ok : Ok w) (h : Pa.okA a = true) (hk : a.kind = 2) :
    Calls Tryz.prog 26 #[acV a fv] w fun e w' => e = .returned (.string ⟨(Pa.lineA a).toArray⟩) ∧ Below w.heap.size w w' := by
  have hw := Pa.wl_small h
  have hn := (Pa.okA_parts h).2.2
  have hl : Pa.lineW a = [Pa.w_tick, Pa.num a.n] := by simp [Pa.lineW, hk]
  obtain ⟨k, hh, ⟨x1, x2, x3, x4, x5, x6, x7, x8⟩, n, fs, s⟩ := a
  simp only at hk
  subst hk
  simp [Pa.inR_true] at hn
  unfold Pa.lineA
  rw [hl] at hw ⊢
  clear hl h
  unfold acV
  go_enter Tryz.func26, Tryz.ntmps26
  go_wp2_with (first | (go_at_call 41; refine (itoa_any n _ (by omega) (by omega) (ok.below ((Below.refl _ _).alloc (Nat.le_refl _) _))).mono ?_; rintro e u ⟨rfl, hb⟩) | (go_at_call 42; refine (join_any _ _ _ (StrsAt.new u _ _ [Pa.w_tick, Pa.num n] _ rfl rfl) hw.1 hw.2).mono ?_; rintro e u2 ⟨rfl, hb2⟩))
  go_ret
  have hb0 := below_on ((Below.refl w.heap.size w).alloc (Nat.le_refl _) _) hb
  exact ⟨rfl, below_on (hb0.alloc hb0.size _) hb2⟩

set_option maxHeartbeats 1000000 in
theorem line_4 (a : Pa.Ac) (fv : Value) (w : World) (ok : Ok w) (h : Pa.okA a = true) (hk : a.kind = 4) :
    Calls Tryz.prog 26 #[acV a fv] w fun e w' => e = .returned (.string ⟨(Pa.lineA a).toArray⟩) ∧ Below w.heap.size w w' := by
  have hw := Pa.wl_small h
  have hn := (Pa.okA_parts h).2.2
  have hl : Pa.lineW a = [Pa.w_frame, Pa.num a.n, Pa.hexL a.s.data.toList] := by simp [Pa.lineW, hk]
  obtain ⟨k, hh, ⟨x1, x2, x3, x4, x5, x6, x7, x8⟩, n, fs, s⟩ := a
  simp only at hk
  subst hk
  simp [Pa.inR_true] at hn
  unfold Pa.lineA
  rw [hl] at hw ⊢
  clear hl h
  unfold acV
  go_enter Tryz.func26, Tryz.ntmps26
  go_wp2_with fail
  refine wp_region_below_tail 6 (by kernel_rfl) (by kernel_rfl) ?_
  intro W hW
  simp only [List.take_succ_cons, List.take_zero, List.drop_succ_cons, List.drop_zero]
  have c1 : ∀ x : Lat (Below W.heap.size W), x.u.cell? ⟨w.heap.size, 10, none⟩ = some (.int .i64 n) := fun x => x.cell (by rw [hW]; simp) (by rw [hW]; simp)
  have c2 : ∀ x : Lat (Below W.heap.size W), x.u.cell? ⟨w.heap.size, 12, none⟩ = some (.string s) := fun x => x.cell (by rw [hW]; simp) (by rw [hW]; simp)
  have okW : Ok W := by rw [hW]; exact ok.below ((Below.refl _ _).alloc (Nat.le_refl _) _)
  have HW := Lib.hid hW; clear hW
  repeat (go_big_quiet_step (first | (go_at_call 41; exact Calls.below (itoa_any _ _ (by omega) (by omega) (okW.below (Lat.h _)))) | (go_at_call 48; exact Calls.below (hex_any s _ (by omega)))))
  refine wpQuiet_nil ?_
  rintro u ⟨x, hx⟩
  have hu : Below W.heap.size W u := by rw [hx]; exact x.h
  have hb0 : Below w.heap.size w u := below_on (by rw [HW.out]; exact (Below.refl _ _).alloc (Nat.le_refl _) _) hu
  clear hx x c1 c2 okW HW hu
  go_wp2_with (go_at_call 42; refine (join_any _ _ _ (StrsAt.new u _ _ [Pa.w_frame, Pa.num n, Pa.hexL s.data.toList] _ rfl rfl) hw.1 hw.2).mono ?_; rintro e u2 ⟨rfl, hb2⟩)
  go_ret
  exact ⟨rfl, below_on (hb0.alloc hb0.size _) hb2⟩

theorem infoS : (Tryz.prog.info? 9).map (fun i => (i.zero, i.size, i.bytes)) = some (some (.string ⟨#[]⟩), 1, 16) := by kernel_rfl
def strV (x : Pa.Bs) : Value := .string ⟨x.toArray⟩
theorem owns_new (w : World) (base : Nat) (t : TypeId) (cs : Array Value) (hb : base ≤ w.heap.size) (hm : cs.size ≤ maxLen) : (w.alloc (.cells cs t)).ownsRow base t 1 (.slice (some ⟨w.heap.size, 0, none⟩) cs.size cs.size) cs.size cs.toList :=
  ⟨by simp, Or.inr ⟨w.heap.size, cs.size, cs, rfl, hb, heap_alloc_new _ _, Nat.le_refl _, hm, by simp, by rw [Nat.mul_one]; exact List.take_of_length_le (by simp)⟩⟩
theorem addr_add (g j : Nat) : (⟨g, 0, none⟩ : Addr).add j = ⟨g, j, none⟩ := by unfold Addr.add; split <;> simp_all
theorem strsAt_own {w : World} {base g cap : Nat} {ws : List Pa.Bs} {n : Nat} (hn : n = ws.length) (h : w.ownsRow base 9 1 (.slice (some ⟨g, 0, none⟩) n cap) n (ws.map strV)) : StrsAt w (.slice (some ⟨g, 0, none⟩) n cap) ws := by
  subst hn
  have hg := owns_lt h rfl
  rcases h.2 with ⟨h0, _⟩ | ⟨g', cap', cur, hv, _, _, h5, _⟩
  · cases h0
  · cases hv
    refine ⟨g, cap, rfl, h5, hg, fun j hj => ?_⟩
    have := h.cells (g := g) rfl j (strV ws[j]) (by simp [hj])
    rw [addr_add] at this
    exact this

theorem fates_own {w2 : World} {base : Nat} {v : Value} {k : Nat} {fs : List Int} (hlt : k < fs.length) (h : w2.ownsRow base 9 1 v (k + 1 + 1) ((Pa.w_fates :: (fs.take k).map Pa.num).map strV ++ [strV (Pa.num fs[k])])) :
    w2.ownsRow base 9 1 v (k + 1 + 1) ((Pa.w_fates :: (fs.take (k + 1)).map Pa.num).map strV) := by
  rw [List.take_succ_eq_append_getElem hlt]
  simp only [List.map_cons, List.map_append, List.map_nil, List.cons_append] at h ⊢
  exact h

set_option maxHeartbeats 1000000 in
theorem line_3 (a : Pa.Ac) (fv : Value) (w : World) (ok : Ok w) (h : Pa.okA a = true) (hk : a.kind = 3) (hf : Fs w fv a.fates) :
    Calls Tryz.prog 26 #[acV a fv] w fun e w' => e = .returned (.string ⟨(Pa.lineA a).toArray⟩) ∧ Below w.heap.size w w' := by
  have hw := Pa.wl_small h
  have hn := (Pa.okA_parts h).2.2
  have hl : Pa.lineW a = Pa.w_fates :: a.fates.map Pa.num := by simp [Pa.lineW, hk]
  obtain ⟨k, hh, ⟨x1, x2, x3, x4, x5, x6, x7, x8⟩, n, fs, s⟩ := a
  simp only at hk hf
  subst hk
  simp [Pa.okF, Pa.inR_true] at hn
  unfold Pa.lineA
  rw [hl] at hw ⊢
  clear hl h
  obtain ⟨hlen, hall⟩ := hn
  have HALL := Lib.hid hall; clear hall
  have HF := Lib.hid hf
  obtain ⟨va, ca, rfl, -⟩ := hf
  obtain ⟨i0, hi, hz0, hz1, hz2⟩ := info_parts infoS
  unfold acV
  go_enter Tryz.func26, Tryz.ntmps26
  go_wp2_with fail
  go_loopw [3, 30] (fun v i wr => ∃ k g cap : Nat, k ≤ fs.length ∧ i = .int .i64 k ∧ v = .slice (some ⟨g, 0, none⟩) (k + 1) cap ∧ wr.ownsRow w.heap.size 9 1 (.slice (some ⟨g, 0, none⟩) (k + 1) cap) (k + 1) ((Pa.w_fates :: (fs.take k).map Pa.num).map strV) ∧ Below w.heap.size w wr) (fun _ i _ => fs.length - (intOf i).toNat)
  case atStart =>
    refine ⟨0, w.heap.size + 1, 1, Nat.zero_le _, rfl, rfl, ?_, ((Below.refl _ _).alloc (Nat.le_refl _) _).alloc (by simp) _⟩
    have := owns_new (w.alloc (.cells #[.int .i64 3, .int .i64 hh, .int .i64 x1, .int .i64 x2, .int .i64 x3, .int .i64 x4, .int .i64 x5, .string x6, .int .i64 x7, .int .i64 x8, .int .i64 n, .slice va fs.length ca, .string s] 27)) w.heap.size 9 #[strV Pa.w_fates] (by simp) (by simp [maxLen])
    rw [World.size_alloc] at this
    exact this
  case round =>
    obtain ⟨k, g, cap, hk, rfl, rfl, hown, hB⟩ := hrel
    by_cases hlt : k < fs.length
    · obtain ⟨va', ca', hv, hcs⟩ := HF.out
      cases hv
      obtain ⟨b, o, rfl, hbl, hcell⟩ := hcs (fun e => by simp [e] at hlt)
      have hck := cell_below hB hbl (hcell k hlt)
      have hin := HALL.out fs[k] (List.getElem_mem hlt)
      clear hcell hcs
      have hws := hB.size
      go_wp2_with (first | (go_at_call 41; refine (itoa_any fs[k] _ (by omega) (by omega) (ok.below hB)).mono ?_; rintro e u ⟨rfl, hb⟩; have hus := hb.size; have hownu := owns_same (u' := u) hown (fun g' hg => hb.block g' (owns_lt hown hg))) | (at_builtin; refine wpList_append_lies _ rfl (.tmp 34) (.tmp 37) 41 rfl w.heap.size 9 i0 (.string ⟨#[]⟩) 1 16 Tryz.underlying41 hi hz0 hz1 hz2 rfl (by decide) _ (k + 1) _ rfl (owns_same hownu (fun g hg => Below.heap_alloc _ _ g (owns_lt hownu hg))) ⟨u.heap.size, 0, none⟩ 1 1 [strV (Pa.num fs[k])] rfl rfl (World.news_of_block (heap_alloc_new _ _)) (by simp [Value.oneCell', strV]) (by omega) (by unfold maxLen; omega) (by omega) (by simp; omega) (u.heap.size + 1) (by simp) ?_; intro g1 cap1 w2 hown2 hgrow hat hlt2))
      have hBn : Below w.heap.size w w2 := ((below_on hB hb).alloc (by omega) _).grown hgrow (by simp; omega) (fun j hj => owns_base hown hj)
      have HO := Lib.hid (fates_own hlt hown2)
      clear hgrow hat hown hown2 hownu
      go_roundw
      case rel => exact ⟨k + 1, g1, cap1, by omega, by go_num, rfl, HO.out, hBn⟩
      case measure => simp [intOf]; omega
    · have hke : fs.take k = fs := List.take_of_length_le (by omega)
      rw [hke] at hown
      have hst := strsAt_own (by simp; omega) hown
      go_wp2_with (go_at_call 42; refine (join_any _ _ _ hst hw.1 hw.2).mono ?_; rintro e u2 ⟨rfl, hb2⟩)
      go_ret
      exact ⟨rfl, below_on hB hb2⟩

end Go.Proofs.YtgajoiijebbagaaGreatDoor
