/-
  The walks of the line's words, the line, and dns.ValidName. Conditions: the library's variables read as laid.
-/
import Derived.Test.YtgajoiijebbagaaGreatDoorWc
import Derived.Test.YtgajoiijebbagaaGreatDoorWb
import Derived.Test.YtgajoiijebbagaaGreatDoorPln
import Derived.Test.YtgajoiijebbagaaGreatDoorRd
import Derived.Deep.RegionHeld3
import Derived.Deep.AppendSrc
import Derived.RangeFuncNested
import Derived.RangeFuncBound
import Derived.RangeFuncCalls
import Derived.RangeFuncLeaves
import Derived.RangeFuncFrom
import Derived.Shelf.Abstract
import Derived.Shelf.RegionOpen
import Derived.WalkKit
import Derived.OwnWalkIn
import Derived.TacticsInMore
import Derived.LoopNIn
import Derived.LoopIn
import Derived.Test.YtgajoiijebbagaaGreatDoorWv
import Derived.WalkMore
/-! The walks of script.callWords and script.line. Each says which words (which line) it gives for a valid call (action), and that what was there is unchanged. Conditions: the call (the action) is valid. -/
namespace Go.Proofs.YtgajoiijebbagaaGreatDoor
open Go.RowKit Go.Proofs

/-- A slice value that holds these strings. -/
def StrsAt (w : World) (v : Value) (ws : List Pa.Bs) : Prop := ∃ b c, v = .slice (some ⟨b, 0, none⟩) ws.length c ∧ ws.length ≤ c ∧ b < w.heap.size ∧ ∀ (j : Nat) (h : j < ws.length), w.cell? ⟨b, j, none⟩ = some (.string ⟨ws[j].toArray⟩)
theorem StrsAt.below {w w' : World} {v : Value} {ws : List Pa.Bs} (h : StrsAt w v ws) (hb : Below w.heap.size w w') : StrsAt w' v ws := by
  obtain ⟨b, c, h1, h2, h3, h4⟩ := h
  exact ⟨b, c, h1, h2, Nat.lt_of_lt_of_le h3 hb.size, fun j hj => cell_below hb h3 (h4 j hj)⟩
theorem StrsAt.new (w : World) (cs : Array Value) (t : TypeId) (ws : List Pa.Bs) (n : Nat) (hn : n = ws.length) (h : cs.toList = ws.map fun x => .string ⟨x.toArray⟩) : StrsAt (w.alloc (.cells cs t)) (.slice (some ⟨w.heap.size, 0, none⟩) n n) ws := by
  subst hn
  refine ⟨w.heap.size, ws.length, rfl, Nat.le_refl _, by simp, fun j hj => ?_⟩
  rw [World.cell?_alloc_at _ _ _ _ rfl]
  have : cs[j]? = cs.toList[j]? := by simp
  rw [this, h]; simp [hj]

theorem Pa.okC_size {c : Pa.Cl} (h : Pa.okC c = true) : c.s.size ≤ 2100 := by
  obtain ⟨hk, hn, h3, h4, h5, ha, hs⟩ := Pa.okC_parts h
  by_cases k1 : c.kind = 1
  · rw [hn]; simp only [Pa.needC, k1, Pa.c0, if_true]; decide
  · rw [if_neg k1] at hs
    by_cases k2 : c.kind = 12
    · rw [if_pos k2] at hs
      simp only [Pa.nameOk, Bool.and_eq_true, decide_eq_true_eq] at hs
      have : c.s.size ≤ 60 := hs.1
      omega
    · rw [if_neg k2] at hs; simpa using hs

set_option maxRecDepth 10000 in
set_option maxHeartbeats 4000000 in
theorem callWords_any (c : Pa.Cl) (w : World) (ok : Ok w) (h : Pa.okC c = true) :
    Calls Tryz.prog 47 #[clV c] w fun e w' => ∃ v, e = .returned v ∧ StrsAt w' v (Pa.callW c) ∧ Below w.heap.size w w' := by
  obtain ⟨hk, -, hs, hn, hp, ha, -⟩ := Pa.okC_parts h
  have hsz := Pa.okC_size h
  clear h
  obtain ⟨k, so, ad, po, n, s, he, ms⟩ := c
  simp only at hk hs hn hp ha hsz
  unfold clV
  go_enter Tryz.func47, Tryz.ntmps47
  go_wp2_with fail
  refine wp_region_below (by kernel_rfl) (by kernel_rfl) ?_
  intro W hW
  have c1 : ∀ x : Lat (Below W.heap.size W), x.u.cell? ⟨w.heap.size, 1, none⟩ = some (.int .i64 so) := fun x => x.cell (by rw [hW]; simp) (by rw [hW]; simp)
  have c3 : ∀ x : Lat (Below W.heap.size W), x.u.cell? ⟨w.heap.size, 3, none⟩ = some (.int .i64 po) := fun x => x.cell (by rw [hW]; simp) (by rw [hW]; simp)
  have c4 : ∀ x : Lat (Below W.heap.size W), x.u.cell? ⟨w.heap.size, 4, none⟩ = some (.int .i64 n) := fun x => x.cell (by rw [hW]; simp) (by rw [hW]; simp)
  have okW : Ok W := by rw [hW]; exact ok.below ((Below.refl _ _).alloc (Nat.le_refl _) _)
  have HW := Lib.hid hW; clear hW
  repeat (go_big_quiet_step ((go_at_call 41; exact Calls.below (itoa_any _ _ (by omega) (by omega) (okW.below (Lat.h _))))))
  refine wpQuiet_nil ?_
  rintro u ⟨x, hx⟩
  have hu : Below W.heap.size W u := by rw [hx]; exact x.h
  clear hx x
  have hbu : Below w.heap.size w u := below_on (by rw [HW.out]; exact (Below.refl _ _).alloc (Nat.le_refl _) _) hu
  have hlu : w.heap.size < u.heap.size := by have := hu.size; rw [HW.out] at this; simp at this; omega
  have d0 : u.cell? ⟨w.heap.size, 0, none⟩ = some (.int .i64 k) := cell_below hu (by rw [HW.out]; simp) (by rw [HW.out]; simp)
  have d2 : u.cell? ⟨w.heap.size, 2, none⟩ = some (.int .i64 ad) := cell_below hu (by rw [HW.out]; simp) (by rw [HW.out]; simp)
  have d4 : u.cell? ⟨w.heap.size, 4, none⟩ = some (.int .i64 n) := cell_below hu (by rw [HW.out]; simp) (by rw [HW.out]; simp)
  have d5 : u.cell? ⟨w.heap.size, 5, none⟩ = some (.string s) := cell_below hu (by rw [HW.out]; simp) (by rw [HW.out]; simp)
  clear c1 c3 c4 hu HW okW
  go_wp2_with (first | (go_at_call 21; refine (format_any ad _ (ok.below hbu)).mono ?_; rintro e u1 ⟨rfl, hb1⟩; have g0 := cell_below hb1 hlu d0; have g4 := cell_below hb1 hlu d4; have g5 := cell_below hb1 hlu d5; clear d0 d2 d4 d5) | (go_at_call 48; refine (hex_any s _ (by omega)).mono ?_; rintro e u2 ⟨rfl, hb2⟩))
  all_goals first
    | (exfalso; simp_all; omega)
    | (go_ret; refine ⟨_, rfl, StrsAt.new _ _ _ _ _ ?_ ?_, ?_⟩
       · simp_all [Pa.callW]
       · simp_all [Pa.callW, Pa.num]
       · exact (below_on (below_on hbu hb1) hb2).alloc (by have := hbu.size; have := hb1.size; have := hb2.size; omega) _)
    | (go_ret; refine ⟨_, rfl, StrsAt.new _ _ _ _ _ ?_ ?_, ?_⟩
       · simp_all [Pa.callW]
       · simp_all [Pa.callW, Pa.num]
       · exact (below_on hbu hb1).alloc (by have := hbu.size; have := hb1.size; omega) _)

end Go.Proofs.YtgajoiijebbagaaGreatDoor

/-! The walk of script.line. It says which line it gives for a valid action, and that what was there is unchanged. Conditions: the action is valid, its fates lie in memory. -/
namespace Go.Proofs.YtgajoiijebbagaaGreatDoor
open Go.RowKit Go.Proofs

theorem join_any (v : Value) (ws : List Pa.Bs) (w : World) (h : StrsAt w v ws) (hN : ws.length ≤ 1000000) (hl : (Lib.join ws [32]).length ≤ 1000000) :
    Calls Tryz.prog 42 #[v, .string ⟨#[32]⟩] w fun e w' => e = .returned (.string ⟨(Lib.join ws [32]).toArray⟩) ∧ Below w.heap.size w w' := by
  obtain ⟨b, c, rfl, h2, h3, h4⟩ := h
  have hm : (ws.map fun x => (⟨x.toArray⟩ : ByteArray)).map (·.data.toList) = ws := by
    rw [List.map_map]; conv => rhs; rw [← List.map_id ws]
    apply List.map_congr_left; intro x _; simp
  have := Tryz.strings_Join b 0 c (ws.map fun x => ⟨x.toArray⟩) ⟨#[32]⟩ w (fun j x hx => by
    rw [List.getElem?_map] at hx
    obtain ⟨y, hy, rfl⟩ := Option.map_eq_some_iff.1 hx
    obtain ⟨hj, rfl⟩ := List.getElem?_eq_some_iff.1 hy
    rw [Nat.zero_add]; exact h4 j hj) h3 (by simp; omega) (by simpa using h2) (by rw [hm]; exact Nat.le_trans hl (by omega))
  rw [hm, List.length_map] at this
  exact this

theorem Pa.len_wl : ∀ ws : List Pa.Bs, ws.length ≤ Pa.wl ws
  | [] => by simp
  | w :: r => by have := Pa.len_wl r; simp only [Pa.wl, List.map_cons, List.sum_cons, List.length_cons] at this ⊢; omega
theorem Pa.wl_small {a : Pa.Ac} (h : Pa.okA a = true) : (Pa.lineW a).length ≤ 1000000 ∧ (Lib.join (Pa.lineW a) [32]).length ≤ 1000000 := by
  refine ⟨?_, Nat.le_trans (Pa.line_len h) (by omega)⟩
  obtain ⟨hk, hn, ho⟩ := Pa.okA_parts h
  unfold Pa.lineW
  by_cases h1 : a.kind = 1
  · rw [if_pos h1]
    rw [if_pos h1] at ho
    simp only [Bool.and_eq_true] at ho
    have h5 := Pa.callW_len ho.2
    have h6 := Pa.len_wl (Pa.callW a.call)
    simp only [List.length_cons]; omega
  rw [if_neg h1]
  by_cases h2 : a.kind = 2
  · rw [if_pos h2]; simp
  rw [if_neg h2]
  by_cases h3 : a.kind = 3
  · rw [if_pos h3]
    rw [if_neg h1, if_neg h2, if_pos h3] at ho
    simp only [Pa.okF, Bool.and_eq_true, decide_eq_true_eq] at ho
    simp; omega
  · rw [if_neg h3]; simp

theorem line_2 (a : Pa.Ac) (fv : Value) (w : World) (ok : Ok w) (h : Pa.okA a = true) (hk : a.kind = 2) :
    Calls Tryz.prog 26 #[acV a fv] w fun e w' => e = .returned (.string ⟨(Pa.lineA a).toArray⟩) ∧ Below w.heap.size w w' := by
  have hw := Pa.wl_small h
  have hn := (Pa.okA_parts h).2.2
  have hl : Pa.lineW a = [Pa.w_tick, Pa.num a.n] := by simp [Pa.lineW, hk]
  obtain ⟨k, hh, ⟨x1, x2, x3, x4, x5, x6, x7, x8⟩, n, fs, s⟩ := a
  simp only at hk
  subst hk
  simp [Pa.inR_true] at hn
  unfold Pa.lineA
  rw [hl] at hw ⊢
  clear hl h
  unfold acV
  go_enter Tryz.func26, Tryz.ntmps26
  go_wp2_with (first | (go_at_call 41; refine (itoa_any n _ (by omega) (by omega) (ok.below ((Below.refl _ _).alloc (Nat.le_refl _) _))).mono ?_; rintro e u ⟨rfl, hb⟩) | (go_at_call 42; refine (join_any _ _ _ (StrsAt.new u _ _ [Pa.w_tick, Pa.num n] _ rfl rfl) hw.1 hw.2).mono ?_; rintro e u2 ⟨rfl, hb2⟩))
  go_ret
  have hb0 := below_on ((Below.refl w.heap.size w).alloc (Nat.le_refl _) _) hb
  exact ⟨rfl, below_on (hb0.alloc hb0.size _) hb2⟩

set_option maxHeartbeats 1000000 in
theorem line_4 (a : Pa.Ac) (fv : Value) (w : World) (ok : Ok w) (h : Pa.okA a = true) (hk : a.kind = 4) :
    Calls Tryz.prog 26 #[acV a fv] w fun e w' => e = .returned (.string ⟨(Pa.lineA a).toArray⟩) ∧ Below w.heap.size w w' := by
  have hw := Pa.wl_small h
  have hn := (Pa.okA_parts h).2.2
  have hl : Pa.lineW a = [Pa.w_frame, Pa.num a.n, Pa.hexL a.s.data.toList] := by simp [Pa.lineW, hk]
  obtain ⟨k, hh, ⟨x1, x2, x3, x4, x5, x6, x7, x8⟩, n, fs, s⟩ := a
  simp only at hk
  subst hk
  simp [Pa.inR_true] at hn
  unfold Pa.lineA
  rw [hl] at hw ⊢
  clear hl h
  unfold acV
  go_enter Tryz.func26, Tryz.ntmps26
  go_wp2_with fail
  refine wp_region_below_tail 6 (by kernel_rfl) (by kernel_rfl) ?_
  intro W hW
  simp only [List.take_succ_cons, List.take_zero, List.drop_succ_cons, List.drop_zero]
  have c1 : ∀ x : Lat (Below W.heap.size W), x.u.cell? ⟨w.heap.size, 10, none⟩ = some (.int .i64 n) := fun x => x.cell (by rw [hW]; simp) (by rw [hW]; simp)
  have c2 : ∀ x : Lat (Below W.heap.size W), x.u.cell? ⟨w.heap.size, 12, none⟩ = some (.string s) := fun x => x.cell (by rw [hW]; simp) (by rw [hW]; simp)
  have okW : Ok W := by rw [hW]; exact ok.below ((Below.refl _ _).alloc (Nat.le_refl _) _)
  have HW := Lib.hid hW; clear hW
  repeat (go_big_quiet_step (first | (go_at_call 41; exact Calls.below (itoa_any _ _ (by omega) (by omega) (okW.below (Lat.h _)))) | (go_at_call 48; exact Calls.below (hex_any s _ (by omega)))))
  refine wpQuiet_nil ?_
  rintro u ⟨x, hx⟩
  have hu : Below W.heap.size W u := by rw [hx]; exact x.h
  have hb0 : Below w.heap.size w u := below_on (by rw [HW.out]; exact (Below.refl _ _).alloc (Nat.le_refl _) _) hu
  clear hx x c1 c2 okW HW hu
  go_wp2_with (go_at_call 42; refine (join_any _ _ _ (StrsAt.new u _ _ [Pa.w_frame, Pa.num n, Pa.hexL s.data.toList] _ rfl rfl) hw.1 hw.2).mono ?_; rintro e u2 ⟨rfl, hb2⟩)
  go_ret
  exact ⟨rfl, below_on (hb0.alloc hb0.size _) hb2⟩

theorem infoS : (Tryz.prog.info? 9).map (fun i => (i.zero, i.size, i.bytes)) = some (some (.string ⟨#[]⟩), 1, 16) := by kernel_rfl
def strV (x : Pa.Bs) : Value := .string ⟨x.toArray⟩
theorem owns_new (w : World) (base : Nat) (t : TypeId) (cs : Array Value) (hb : base ≤ w.heap.size) (hm : cs.size ≤ maxLen) : (w.alloc (.cells cs t)).ownsRow base t 1 (.slice (some ⟨w.heap.size, 0, none⟩) cs.size cs.size) cs.size cs.toList :=
  ⟨by simp, Or.inr ⟨w.heap.size, cs.size, cs, rfl, hb, heap_alloc_new _ _, Nat.le_refl _, hm, by simp, by rw [Nat.mul_one]; exact List.take_of_length_le (by simp)⟩⟩
theorem addr_add (g j : Nat) : (⟨g, 0, none⟩ : Addr).add j = ⟨g, j, none⟩ := by unfold Addr.add; split <;> simp_all
theorem strsAt_own {w : World} {base g cap : Nat} {ws : List Pa.Bs} {n : Nat} (hn : n = ws.length) (h : w.ownsRow base 9 1 (.slice (some ⟨g, 0, none⟩) n cap) n (ws.map strV)) : StrsAt w (.slice (some ⟨g, 0, none⟩) n cap) ws := by
  subst hn
  have hg := owns_lt h rfl
  rcases h.2 with ⟨h0, _⟩ | ⟨g', cap', cur, hv, _, _, h5, _⟩
  · cases h0
  · cases hv
    refine ⟨g, cap, rfl, h5, hg, fun j hj => ?_⟩
    have := h.cells (g := g) rfl j (strV ws[j]) (by simp [hj])
    rw [addr_add] at this
    exact this

theorem fates_own {w2 : World} {base : Nat} {v : Value} {k : Nat} {fs : List Int} (hlt : k < fs.length) (h : w2.ownsRow base 9 1 v (k + 1 + 1) ((Pa.w_fates :: (fs.take k).map Pa.num).map strV ++ [strV (Pa.num fs[k])])) :
    w2.ownsRow base 9 1 v (k + 1 + 1) ((Pa.w_fates :: (fs.take (k + 1)).map Pa.num).map strV) := by
  rw [List.take_succ_eq_append_getElem hlt]
  simp only [List.map_cons, List.map_append, List.map_nil, List.cons_append] at h ⊢
  exact h

set_option maxHeartbeats 1000000 in
theorem line_3 (a : Pa.Ac) (fv : Value) (w : World) (ok : Ok w) (h : Pa.okA a = true) (hk : a.kind = 3) (hf : Fs w fv a.fates) :
    Calls Tryz.prog 26 #[acV a fv] w fun e w' => e = .returned (.string ⟨(Pa.lineA a).toArray⟩) ∧ Below w.heap.size w w' := by
  have hw := Pa.wl_small h
  have hn := (Pa.okA_parts h).2.2
  have hl : Pa.lineW a = Pa.w_fates :: a.fates.map Pa.num := by simp [Pa.lineW, hk]
  obtain ⟨k, hh, ⟨x1, x2, x3, x4, x5, x6, x7, x8⟩, n, fs, s⟩ := a
  simp only at hk hf
  subst hk
  simp [Pa.okF, Pa.inR_true] at hn
  unfold Pa.lineA
  rw [hl] at hw ⊢
  clear hl h
  obtain ⟨hlen, hall⟩ := hn
  have HALL := Lib.hid hall; clear hall
  have HF := Lib.hid hf
  obtain ⟨va, ca, rfl, -⟩ := hf
  obtain ⟨i0, hi, hz0, hz1, hz2⟩ := info_parts infoS
  unfold acV
  go_enter Tryz.func26, Tryz.ntmps26
  go_wp2_with fail
  go_loopw [3, 30] (fun v i wr => ∃ k g cap : Nat, k ≤ fs.length ∧ i = .int .i64 k ∧ v = .slice (some ⟨g, 0, none⟩) (k + 1) cap ∧ wr.ownsRow w.heap.size 9 1 (.slice (some ⟨g, 0, none⟩) (k + 1) cap) (k + 1) ((Pa.w_fates :: (fs.take k).map Pa.num).map strV) ∧ Below w.heap.size w wr) (fun _ i _ => fs.length - (intOf i).toNat)
  case atStart =>
    refine ⟨0, w.heap.size + 1, 1, Nat.zero_le _, rfl, rfl, ?_, ((Below.refl _ _).alloc (Nat.le_refl _) _).alloc (by simp) _⟩
    have := owns_new (w.alloc (.cells #[.int .i64 3, .int .i64 hh, .int .i64 x1, .int .i64 x2, .int .i64 x3, .int .i64 x4, .int .i64 x5, .string x6, .int .i64 x7, .int .i64 x8, .int .i64 n, .slice va fs.length ca, .string s] 27)) w.heap.size 9 #[strV Pa.w_fates] (by simp) (by simp [maxLen])
    rw [World.size_alloc] at this
    exact this
  case round =>
    obtain ⟨k, g, cap, hk, rfl, rfl, hown, hB⟩ := hrel
    by_cases hlt : k < fs.length
    · obtain ⟨va', ca', hv, hcs⟩ := HF.out
      cases hv
      obtain ⟨b, o, rfl, hbl, hcell⟩ := hcs (fun e => by simp [e] at hlt)
      have hck := cell_below hB hbl (hcell k hlt)
      have hin := HALL.out fs[k] (List.getElem_mem hlt)
      clear hcell hcs
      have hws := hB.size
      go_wp2_with (first | (go_at_call 41; refine (itoa_any fs[k] _ (by omega) (by omega) (ok.below hB)).mono ?_; rintro e u ⟨rfl, hb⟩; have hus := hb.size; have hownu := owns_same (u' := u) hown (fun g' hg => hb.block g' (owns_lt hown hg))) | (at_builtin; refine wpList_append_lies _ rfl (.tmp 34) (.tmp 37) 41 rfl w.heap.size 9 i0 (.string ⟨#[]⟩) 1 16 Tryz.underlying41 hi hz0 hz1 hz2 rfl (by decide) _ (k + 1) _ rfl (owns_same hownu (fun g hg => Below.heap_alloc _ _ g (owns_lt hownu hg))) ⟨u.heap.size, 0, none⟩ 1 1 [strV (Pa.num fs[k])] rfl rfl (World.news_of_block (heap_alloc_new _ _)) (by simp [Value.oneCell', strV]) (by omega) (by unfold maxLen; omega) (by omega) (by simp; omega) (u.heap.size + 1) (by simp) ?_; intro g1 cap1 w2 hown2 hgrow hat hlt2))
      have hBn : Below w.heap.size w w2 := ((below_on hB hb).alloc (by omega) _).grown hgrow (by simp; omega) (fun j hj => owns_base hown hj)
      have HO := Lib.hid (fates_own hlt hown2)
      clear hgrow hat hown hown2 hownu
      go_roundw
      case rel => exact ⟨k + 1, g1, cap1, by omega, by go_num, rfl, HO.out, hBn⟩
      case measure => simp [intOf]; omega
    · have hke : fs.take k = fs := List.take_of_length_le (by omega)
      rw [hke] at hown
      have hst := strsAt_own (by simp; omega) hown
      go_wp2_with (go_at_call 42; refine (join_any _ _ _ hst hw.1 hw.2).mono ?_; rintro e u2 ⟨rfl, hb2⟩)
      go_ret
      exact ⟨rfl, below_on hB hb2⟩

end Go.Proofs.YtgajoiijebbagaaGreatDoor

/-! The walk of script.line at a call, and at every valid action. Conditions: the action is valid, its fates lie in memory. -/
namespace Go.Proofs.YtgajoiijebbagaaGreatDoor
open Go.RowKit Go.Proofs

theorem Pa.callW_pos {c : Pa.Cl} (h : Pa.okC c = true) : 0 < (Pa.callW c).length := by
  have := Pa.rdCall_ok h
  cases hc : Pa.callW c with
  | nil => rw [hc] at this; cases this
  | cons x r => simp
theorem strs_news {w : World} {b : Nat} {ws : List Pa.Bs} (h : ∀ (j : Nat) (h : j < ws.length), w.cell? ⟨b, j, none⟩ = some (.string ⟨ws[j].toArray⟩)) : ∀ j u, (ws.map strV)[j]? = some u → w.cell? ((⟨b, 0, none⟩ : Addr).add j) = some u := by
  intro j u hu
  rw [List.getElem?_map] at hu
  obtain ⟨x, hx, rfl⟩ := Option.map_eq_some_iff.1 hu
  obtain ⟨hj, rfl⟩ := List.getElem?_eq_some_iff.1 hx
  rw [addr_add]; exact h j hj
theorem strs_one (ws : List Pa.Bs) : ∀ u ∈ ws.map strV, u.oneCell' = true := by
  intro u hu
  obtain ⟨x, _, rfl⟩ := List.mem_map.1 hu
  simp [strV, Value.oneCell']

set_option maxRecDepth 100000 in
set_option maxHeartbeats 4000000 in
theorem line_1 (a : Pa.Ac) (fv : Value) (w : World) (ok : Ok w) (h : Pa.okA a = true) (hk : a.kind = 1) :
    Calls Tryz.prog 26 #[acV a fv] w fun e w' => e = .returned (.string ⟨(Pa.lineA a).toArray⟩) ∧ Below w.heap.size w w' := by
  have hw := Pa.wl_small h
  have hn := (Pa.okA_parts h).2.2
  have hl : Pa.lineW a = Pa.w_call :: Pa.num a.host :: Pa.callW a.call := by simp [Pa.lineW, hk]
  obtain ⟨k, hh, c, n, fs, s⟩ := a
  simp only at hk
  subst hk
  simp [Pa.inR_true] at hn
  unfold Pa.lineA
  rw [hl] at hw ⊢
  clear hl h
  obtain ⟨hh1, hoc⟩ := hn
  have HC := Lib.hid hoc; clear hoc
  simp only at hw
  obtain ⟨ws, hws⟩ : ∃ ws, ws = Pa.callW c := ⟨_, rfl⟩
  have hcw := fun (w : World) (ok : Ok w) => callWords_any c w ok HC.out
  rw [← hws] at hw hcw
  show Calls _ _ _ _ fun e w' => e = .returned (.string ⟨(Lib.join (Pa.w_call :: Pa.num hh :: Pa.callW c) [32]).toArray⟩) ∧ Below w.heap.size w w'
  rw [← hws]
  have hw0 : 0 < ws.length := by rw [hws]; exact Pa.callW_pos HC.out
  obtain ⟨x1, x2, x3, x4, x5, x6, x7, x8⟩ := c
  clear HC hws
  unfold clV at hcw
  unfold acV
  simp only
  obtain ⟨i0, hi, hz0, hz1, hz2⟩ := info_parts infoS
  have hwl : ws.length ≤ 1000000 := by have := hw.1; simp at this; omega
  obtain ⟨B, hB⟩ : ∃ B, B = w.heap.size := ⟨_, rfl⟩
  go_enter Tryz.func26, Tryz.ntmps26
  go_wp2_with fail
  rw [← hB]
  obtain ⟨W, hW⟩ : ∃ W : World, W = w.alloc (.cells #[.int .i64 1, .int .i64 hh, .int .i64 x1, .int .i64 x2, .int .i64 x3, .int .i64 x4, .int .i64 x5, .string x6, .int .i64 x7, .int .i64 x8, .int .i64 n, fv, .string s] 27) := ⟨_, rfl⟩
  rw [← hW]
  have hBW : Below B w W := by rw [hB, hW]; exact (Below.refl _ _).alloc (Nat.le_refl _) _
  have hlB : B < W.heap.size := by rw [hB, hW]; simp
  have okW : Ok W := ok.below (by rw [← hB]; exact hBW)
  have c1 : W.cell? ⟨B, 1, none⟩ = some (.int .i64 hh) := by rw [hB, hW]; simp
  have c2 : W.cell? ⟨B, 2, none⟩ = some (.int .i64 x1) := by rw [hB, hW]; simp
  have c3 : W.cell? ⟨B, 3, none⟩ = some (.int .i64 x2) := by rw [hB, hW]; simp
  have c4 : W.cell? ⟨B, 4, none⟩ = some (.int .i64 x3) := by rw [hB, hW]; simp
  have c5 : W.cell? ⟨B, 5, none⟩ = some (.int .i64 x4) := by rw [hB, hW]; simp
  have c6 : W.cell? ⟨B, 6, none⟩ = some (.int .i64 x5) := by rw [hB, hW]; simp
  have c7 : W.cell? ⟨B, 7, none⟩ = some (.string x6) := by rw [hB, hW]; simp
  have c8 : W.cell? ⟨B, 8, none⟩ = some (.int .i64 x7) := by rw [hB, hW]; simp
  have c9 : W.cell? ⟨B, 9, none⟩ = some (.int .i64 x8) := by rw [hB, hW]; simp
  have HW := Lib.hid hW; have HB := Lib.hid hB; clear hW hB
  have KS : Hid (∀ w' : World, Below W.heap.size W w' → Below W.heap.size W w' ∧ w'.cell? ⟨B, 1, none⟩ = some (.int .i64 hh) ∧ w'.cell? ⟨B, 2, none⟩ = some (.int .i64 x1) ∧ w'.cell? ⟨B, 3, none⟩ = some (.int .i64 x2) ∧ w'.cell? ⟨B, 4, none⟩ = some (.int .i64 x3) ∧ w'.cell? ⟨B, 5, none⟩ = some (.int .i64 x4) ∧ w'.cell? ⟨B, 6, none⟩ = some (.int .i64 x5) ∧ w'.cell? ⟨B, 7, none⟩ = some (.string x6) ∧ w'.cell? ⟨B, 8, none⟩ = some (.int .i64 x7) ∧ w'.cell? ⟨B, 9, none⟩ = some (.int .i64 x8)) :=
    fun u h => ⟨h, cell_below h hlB c1, cell_below h hlB c2, cell_below h hlB c3, cell_below h hlB c4, cell_below h hlB c5, cell_below h hlB c6, cell_below h hlB c7, cell_below h hlB c8, cell_below h hlB c9⟩
  clear c1 c2 c3 c4 c5 c6 c7 c8 c9
  go_region_held3 (fun w' => Below W.heap.size W w' ∧ w'.cell? ⟨B, 1, none⟩ = some (.int .i64 hh) ∧ w'.cell? ⟨B, 2, none⟩ = some (.int .i64 x1) ∧ w'.cell? ⟨B, 3, none⟩ = some (.int .i64 x2) ∧ w'.cell? ⟨B, 4, none⟩ = some (.int .i64 x3) ∧ w'.cell? ⟨B, 5, none⟩ = some (.int .i64 x4) ∧ w'.cell? ⟨B, 6, none⟩ = some (.int .i64 x5) ∧ w'.cell? ⟨B, 7, none⟩ = some (.string x6) ∧ w'.cell? ⟨B, 8, none⟩ = some (.int .i64 x7) ∧ w'.cell? ⟨B, 9, none⟩ = some (.int .i64 x8))
    ((refine KS.out _ ?_; first | exact (Below.refl _ _).drew | exact below_on (‹Below W.heap.size W _ ∧ _›).1 (by assumption) | exact Below.alloc (‹Below W.heap.size W _ ∧ _›).1 (‹Below W.heap.size W _ ∧ _›).1.size _ | exact Below.grown (‹Below W.heap.size W _ ∧ _›).1 hgrow (‹Below W.heap.size W _ ∧ _›).1.size (fun k hk => by cases hk; first | exact hB1 | exact Nat.le_trans hB1 hb2.size)))
    (first
      | (go_at_call 41; refine (itoa_any hh _ (by omega) (by omega) (okW.below (‹Below W.heap.size W _ ∧ _›).1)).mono ?_; rintro e u1 ⟨rfl, hb1⟩; have hB1 : W.heap.size ≤ u1.heap.size := Nat.le_trans (‹Below W.heap.size W _ ∧ _›).1.size hb1.size)
      | (go_at_call 47; refine (hcw _ (okW.below (‹Below W.heap.size W _ ∧ _›).1)).mono ?_; rintro e u2 ⟨v, rfl, ⟨b, c, rfl, hs1, hs2, hs3⟩, hb2⟩)
      | (refine step_append_lies _ (by rfl) (.tmp 13) (.tmp 16) 41 (by rfl) W.heap.size 9 i0 (.string ⟨#[]⟩) 1 16 Tryz.underlying41 hi hz0 hz1 hz2 rfl (by decide) _ 2 [strV Pa.w_call, strV (Pa.num hh)] (by rfl) (owns_same (owns_new u1 W.heap.size 9 #[strV Pa.w_call, strV (Pa.num hh)] hB1 (by simp [maxLen])) (fun g hg => by cases hg; exact hb2.block _ (by simp))) ⟨b, 0, none⟩ ws.length c (ws.map strV) (by rfl) (by simp) (strs_news hs3) (strs_one ws) hw0 (by unfold maxLen; omega) (by omega) (Nat.le_trans hB1 (Nat.le_trans (by simp) hb2.size)) _ rfl ?_; intro g1 cap1 w2 hown2 hgrow hat hlt2)
      | (refine step_append_lies _ (by rfl) (.tmp 13) (.tmp 16) 41 (by rfl) W.heap.size 9 i0 (.string ⟨#[]⟩) 1 16 Tryz.underlying41 hi hz0 hz1 hz2 rfl (by decide) _ 2 [strV Pa.w_call, strV (Pa.num hh)] (by rfl) (owns_new u2 W.heap.size 9 #[strV Pa.w_call, strV (Pa.num hh)] (Nat.le_trans hB1 hb2.size) (by simp [maxLen])) ⟨b, 0, none⟩ ws.length c (ws.map strV) (by rfl) (by simp) (strs_news (fun j hj => cell_old _ hs2 (hs3 j hj))) (strs_one ws) hw0 (by unfold maxLen; omega) (by omega) (Nat.le_trans (Nat.le_trans hB1 hb2.size) (by simp)) _ rfl ?_; intro g1 cap1 w2 hown2 hgrow hat hlt2))
  all_goals
    have hst : StrsAt w2 (.slice (some ⟨g1, 0, none⟩) (2 + ws.length) cap1) (Pa.w_call :: Pa.num hh :: ws) := strsAt_own (base := W.heap.size) (by simp; omega) (by simpa using hown2)
    have hb3 : Below w.heap.size w w2 := by
      rw [← HB.out]; exact hBW.trans ((‹Below W.heap.size W w2 ∧ _›).1.mono (Nat.le_of_lt hlB))
    clear hown2 hgrow hat hcw hs3 KS
    go_wp2_with (go_at_call 42; refine (join_any _ _ _ hst hw.1 hw.2).mono ?_; rintro e u3 ⟨rfl, hb4⟩)
    go_ret
    exact ⟨rfl, below_on hb3 hb4⟩

/-- The line of every valid action. -/
theorem line_any (a : Pa.Ac) (fv : Value) (w : World) (ok : Ok w) (h : Pa.okA a = true) (hf : Fs w fv a.fates) :
    Calls Tryz.prog 26 #[acV a fv] w fun e w' => e = .returned (.string ⟨(Pa.lineA a).toArray⟩) ∧ Below w.heap.size w w' := by
  have hk := (Pa.okA_parts h).1
  rcases (by omega : a.kind = 1 ∨ a.kind = 2 ∨ a.kind = 3 ∨ a.kind = 4) with h1 | h1 | h1 | h1
  · exact line_1 a fv w ok h h1
  · exact line_2 a fv w ok h h1
  · exact line_3 a fv w ok h h1 hf
  · exact line_4 a fv w ok h h1

end Go.Proofs.YtgajoiijebbagaaGreatDoor

/-! The walks of dns.inLabel, dns.labels and its iterator: the parts of a name between its dots, in their order. Conditions: the string is at most a million bytes long. -/
namespace Go.Proofs.YtgajoiijebbagaaGreatDoor
open Go.RowKit Go.Proofs Go.Shelf
attribute [local go_sem] Oper.semAt_some

theorem inLabel_any (c : UInt8) (w : World) : Calls Tryz.prog 44 #[.int .u8 (c.toNat : Int)] w fun e w' => e = .returned (.bool (Pa.inLab c)) ∧ w = w' := by
  have hi : Pa.inLab c = (decide (97 ≤ (c.toNat : Int) ∧ (c.toNat : Int) ≤ 122) || decide (48 ≤ (c.toNat : Int) ∧ (c.toNat : Int) ≤ 57) || decide ((c.toNat : Int) = 45)) := by
    unfold Pa.inLab
    have : (c = 45) ↔ ((c.toNat : Int) = 45) := ⟨fun h => by rw [h]; rfl, fun h => UInt8.toNat_inj.1 (by show c.toNat = 45; omega)⟩
    congr 1
    · congr 1 <;> (congr 1; simp only [eq_iff_iff]; omega)
    · simp only [this]
  rw [hi]
  have HI := Lib.hid hi; clear hi
  generalize (c.toNat : Int) = n
  go_enter Tryz.func44, Tryz.ntmps44
  go_wp2
  all_goals
    go_ret
    exact ⟨ret_bool (by first | rfl | (rw [Bool.eq_iff_iff]; simp; done) | (rw [Bool.eq_iff_iff]; simp; omega)), rfl⟩

theorem labels_any (s : ByteArray) (w : World) : Calls Tryz.prog 43 #[.string s] w fun e w' => e = .returned (.func (.func 69) #[] #[.pointer (some ⟨w.heap.size, 0, none⟩)]) ∧ w' = w.alloc (.cells #[.string s] 9) := by
  have hmf : ∀ (fn : Fn) (first cap : Array Value) (w : World), (Instr.makeFunc fn first cap).run Tryz.prog w = .ok (.func fn first cap) w := fun _ _ _ _ => rfl
  go_enter Tryz.func43, Tryz.ntmps43
  go_wp2
  go_ret
  exact ⟨rfl, rfl⟩

def strSize : Value → Nat | .string s => s.size | _ => 0

theorem cutDot (s : Pa.Bs) (w : World) (ok : Ok w) (hs : s.length ≤ 1000000) :
    Calls Tryz.prog 38 #[.string ⟨s.toArray⟩, .string ⟨#[46]⟩] w fun e w' => e = .returned (.tuple #[.string ⟨(Lib.cut s [46]).1.toArray⟩, .string ⟨(Lib.cut s [46]).2.1.toArray⟩, .bool (Lib.cut s [46]).2.2]) ∧ ∃ n, w' = w.drewN n := by
  obtain ⟨_, ⟨m, hm⟩, _⟩ := ok
  have := Tryz.strings_Cut ⟨s.toArray⟩ ⟨#[46]⟩ m w (by simp [ByteArray.size]; omega) hm
  simpa using this

theorem grown_drewN (w : World) (n : Nat) : w.grownBy (w.drewN n) none := ⟨rfl, rfl, rfl, Nat.le_refl _, fun _ _ _ => rfl⟩

set_option maxRecDepth 100000 in
set_option maxHeartbeats 2000000 in
/-- The iterator: the parts of s, in their order. -/
theorem labels_stops (n : Nat) (hn : 1 ≤ n) (Bn n0 : Nat) (s : Pa.Bs) (hs : s.length ≤ 1000000) (w : World) (ok : Ok w) (h4 : 4 ≤ n0) (hBw : Bn < w.heap.size) (hn0 : n0 ≤ w.heap.size) (hc : w.cell? ⟨Bn, 0, none⟩ = some (.string ⟨s.toArray⟩)) :
    SeqStopsK Fence.wide n Tryz.prog 69 #[.pointer (some ⟨Bn, 0, none⟩)] (fun x : Pa.Bs => #[.string ⟨x.toArray⟩]) (Below n0) (fun xs => xs = Pa.splitC 46 s) (fun pre => pre <+: Pa.splitC 46 s) ((Pa.splitC 46 s).length) w := by
  intro l J Jx W hW hJ hJx hY h0
  have hcW : W.cell? ⟨Bn, 0, none⟩ = some (.string ⟨s.toArray⟩) := cell_below hW hBw hc
  refine callsIn_of_wp Tryz.func69 rfl trivial ?_ rfl
  simp only [Tryz.ntmps69, List.size_toArray, List.length_cons, List.length_nil, Nat.reduceAdd, Nat.reduceSub, Array.replicate_succ, Array.replicate_zero, List.push_toArray, List.append_toArray, List.nil_append, List.cons_append]
  gi_wp2
  gi_loopw [3] (fun v wr => ∃ pre rest : _, v = .string ⟨rest.toArray⟩ ∧ Hid (Pa.splitC 46 s = pre ++ Pa.splitC 46 rest) ∧ rest.length ≤ s.length ∧ J pre wr ∧ Below n0 W wr ∧ Ok wr)
    (fun v _ => strSize v)
  case atStart => exact ⟨[], s, rfl, rfl, Nat.le_refl _, h0, Below.refl _ _, ok.below hW⟩
  case round =>
    obtain ⟨pre, rest, rfl, HS, hl, hJs, hB, okr⟩ := hrel
    have hlr : rest.length ≤ 1000000 := by omega
    have hpl : pre.length < (Pa.splitC 46 s).length := by
      rw [HS.out, List.length_append]
      have := List.length_pos_iff.2 (Pa.splitC_ne 46 rest)
      omega
    have hcut := cutDot rest wr okr hlr
    rcases Pa.index_cases rest 46 with ⟨-, hno⟩ | ⟨i, -, hi, hat, hno⟩
    · rw [Pa.cut_none rest 46 hno] at hcut
      have HN : Hid (Pa.splitC 46 s = pre ++ [rest]) := by rw [Hid, HS.out, Pa.splitC_none 46 rest hno]
      clear hno
      gi_wp2_with (refine ⟨trivial, ?_⟩; gi_at_call 38; refine (callsIn_wide.2 hcut).mono ?_; rintro e w' ⟨rfl, q, rfl⟩; obtain ⟨fn, tmps, assign, body, hy, hR⟩ := hY pre rest (wr.drewN q) (hJ pre wr _ none hJs (grown_drewN wr q) (fun r e => by cases e)) hpl)
      refine hR.mono ?_
      rintro e W3 (⟨rfl, hJ3, hk3⟩ | ⟨rfl, hJx3⟩)
      · gi_wp2
        refine bodyPost_ret (results_none rfl _ _ _) rfl ?_
        exact ⟨⟨_, rfl⟩, .inl ⟨pre ++ [rest], HN.out.symm, hJ3⟩⟩
      · gi_wp2
        refine bodyPost_ret (results_none rfl _ _ _) rfl ?_
        exact ⟨⟨_, rfl⟩, .inr ⟨pre ++ [rest], by rw [HN.out]; exact List.prefix_refl _, hJx3⟩⟩
    · obtain ⟨x, hx⟩ : ∃ x, x = rest.take i := ⟨_, rfl⟩
      obtain ⟨r, hr⟩ : ∃ r, r = rest.drop (i + 1) := ⟨_, rfl⟩
      have hsp := Pa.split_at rest 46 i hat
      rw [← hx] at hno
      rw [← hx, ← hr] at hsp
      have hrl : r.length < rest.length := by rw [hsp]; simp; omega
      have hce := Pa.cut_at x r 46 hno
      rw [← hsp] at hce
      rw [hce] at hcut
      have HN : Hid (Pa.splitC 46 s = pre ++ [x] ++ Pa.splitC 46 r) := by
        rw [Hid, HS.out, hsp, Pa.splitC_append 46 x r hno]; simp
      clear hno hx hr hsp hce hat hi
      gi_wp2_with (refine ⟨trivial, ?_⟩; gi_at_call 38; refine (callsIn_wide.2 hcut).mono ?_; rintro e w' ⟨rfl, q, rfl⟩; obtain ⟨fn, tmps, assign, body, hy, hR⟩ := hY pre x (wr.drewN q) (hJ pre wr _ none hJs (grown_drewN wr q) (fun r e => by cases e)) hpl)
      refine hR.mono ?_
      rintro e W3 (⟨rfl, hJ3, hk3⟩ | ⟨rfl, hJx3⟩)
      · gi_wp2
        go_roundw
        case rel => exact ⟨pre ++ [x], r, rfl, HN.out, by omega, hJ3, (hB.trans ((drewN_below wr q).mono (Nat.le_trans (Nat.le_trans hn0 hW.size) hB.size))).trans hk3, okr.kept ((((drewN_below wr q).mono okr.1)).trans (hk3.mono h4))⟩
        case measure => simp [strSize, ByteArray.size]; omega
      · gi_wp2
        refine bodyPost_ret (results_none rfl _ _ _) rfl ?_
        exact ⟨⟨_, rfl⟩, .inr ⟨pre ++ [x], by rw [HN.out]; exact List.prefix_append _ _, hJx3⟩⟩

end Go.Proofs.YtgajoiijebbagaaGreatDoor

/-! The walk of dns.ValidName: for every string it says whether it is a valid name. Conditions: the library's variables read as laid. -/
namespace Go.Proofs.YtgajoiijebbagaaGreatDoor
open Go.RowKit Go.Proofs Go.Shelf
attribute [local go_sem] Oper.semAt_some

theorem wpIn_scope_wide {P : Program} {n : Nat} {c : Code} {Q : Exit → Act → World → Prop} {a : Act} {w : World} (h : c.wpIn Fence.wide n P (Exit.noGoto Q) a w) : (Code.scope c).wpIn Fence.wide n P Q a w := wpIn_wide.2 (wp_scope_straight (wpIn_wide.1 h))
theorem cell_new_q (w : World) (v : Value) (t : TypeId) : (w.alloc (.cells #[v] t)).cell? ⟨w.heap.size, 0, none⟩ = some v ∧ (w.alloc (.cells #[v] t)).frozen? ⟨w.heap.size, 0, none⟩ = false := ⟨by simp, by simp⟩
theorem Pa.labOk_iff (x : Pa.Bs) : Pa.labOk x = true ↔ (1 ≤ x.length ∧ x.length ≤ 20) ∧ x.head? ≠ some 45 ∧ x.getLast? ≠ some 45 ∧ ∀ c ∈ x, Pa.inLab c = true := by
  simp [Pa.labOk, and_assoc]

set_option maxRecDepth 100000 in
set_option maxHeartbeats 4000000 in
theorem name_small (s : ByteArray) (w : World) (ok : Ok w) (hs : s.size ≤ 60) :
    Calls Tryz.prog 22 #[.string s] w fun e w' => e = .returned (.bool (Pa.nameOk s.data.toList)) ∧ Below w.heap.size w w' := by
  have h60 : ¬ 60 < (s.size : Int) := by omega
  refine (callsIn_wide (n := 6)).1 ?_
  refine callsIn_of_wp_marks Tryz.func22 rfl trivial ?_ rfl
  simp only [Tryz.ntmps22, List.size_toArray, List.length_cons, List.length_nil, Nat.reduceAdd, Nat.reduceSub, Array.replicate_succ, Array.replicate_zero, List.push_toArray, List.append_toArray, List.nil_append, List.cons_append]
  gi_wp2
  refine wpIn_scope_wide ?_
  gi_wp2
  refine wpIn_label ?_
  gi_wp2_with (refine ⟨trivial, ?_⟩; gi_at_call 43; refine (callsIn_wide.2 (labels_any s _)).mono ?_; rintro e w' ⟨rfl, rfl⟩)
  have hs0 := cell_new_q w (.bool true) 4
  have hb0 := cell_new_q (w.alloc (.cells #[.bool true] 4)) (.string s) 9
  rw [World.size_alloc] at hb0
  have hB0 : Below w.heap.size w ((w.alloc (.cells #[.bool true] 4)).alloc (.cells #[.string s] 9)) := ((Below.refl _ w).alloc (Nat.le_refl _) _).alloc (by simp) _
  refine wpIn_rangeFunc_ownF rfl (by decide) (gf := 69) (lb := #[.pointer (some ⟨w.heap.size + 1, 0, none⟩)]) rfl trivial (enters_of Tryz.func69 (by kernel_rfl) rfl)
    (labels_stops 5 (by decide) (w.heap.size + 1) w.heap.size s.data.toList (by rw [size_len]; omega) _ (ok.below hB0) ok.1 (by simp) (by simp; omega) hb0.1) belowK_t (belowK_b (by simp; omega)) (Below.refl _ _) (fun _ => rfl)
    (fun pre W => ((∀ x ∈ pre, Pa.labOk x = true) ∧ W.cell? ⟨w.heap.size, 0, none⟩ = some (.bool true) ∧ W.frozen? ⟨w.heap.size, 0, none⟩ = false) ∧ Below w.heap.size w W)
    (fun c pre W => (c = .exit 0 ∧ (∃ x ∈ pre, Pa.labOk x = false) ∧ W.cell? ⟨w.heap.size, 0, none⟩ = some (.bool false)) ∧ Below w.heap.size w W)
    (OwnFrom.and (Own.from (fun s A B row hs hg hr => ⟨hs.1, cell_kept hs.2.1 hg hr, (frozen_kept hs.2.1 hg hr).trans hs.2.2⟩) _) (ownFrom_below (Nat.le_refl _) (by simp; omega)))
    (fun c => OwnFrom.and (Own.from (fun s A B row hs hg hr => ⟨hs.1, hs.2.1, cell_kept hs.2.2 hg hr⟩) _) (ownFrom_below (Nat.le_refl _) (by simp; omega)))
    ⟨⟨by simp, cell_old _ (by simp) hs0.1, frozen_old _ (by simp) hs0.2⟩, hB0⟩
    (fun x => { tmps := #[.string s, undef, .bool false, .pointer (some ⟨w.heap.size, 0, none⟩), .string ⟨x.toArray⟩, undef, undef, .string s, .int .i64 s.size, .bool (decide (60 < (s.size : Int))), .string s, .func (.func 69) #[] #[.pointer (some ⟨w.heap.size + 1, 0, none⟩)], .string ⟨x.toArray⟩, undef, undef, undef, undef, undef, undef, undef, undef, undef, undef, undef, undef, undef, undef, undef, undef, undef, undef, undef, undef, undef, undef, undef, undef, undef, undef, undef, undef, undef, undef, undef], defers := [] }) ?assign ?body ?done ?stop
  case assign =>
    intro l x W K hK
    gi_wp2
    exact hK
  case body =>
    rintro l pre x W ⟨⟨hp, hcr, hfr⟩, hB⟩ _
    obtain ⟨t, ht⟩ : ∃ t : ByteArray, t = ⟨x.toArray⟩ := ⟨_, rfl⟩
    have htl : t.data.toList = x := by rw [ht]
    rw [← ht]
    clear ht
    have hset : ∀ b, KeepsOthers W (W.setCell ⟨w.heap.size, 0, none⟩ (.bool b)) := fun b => KeepsOthers.setCell _ _ _
    have hbad : Hid (Pa.labOk x = false → (∃ y ∈ pre ++ [x], Pa.labOk y = false) ∧ (W.setCell ⟨w.heap.size, 0, none⟩ (.bool false)).cell? ⟨w.heap.size, 0, none⟩ = some (.bool false) ∧ Below w.heap.size w (W.setCell ⟨w.heap.size, 0, none⟩ (.bool false))) := fun h =>
      ⟨⟨x, by simp, h⟩, World.cell?_setCell_same' _ _ _ (by rw [hcr]; rfl), hB.setCell (p := ⟨w.heap.size, 0, none⟩) (Nat.le_refl _) _⟩
    have HSET := Lib.hid hset; clear hset
    subst htl
    by_cases hlen : 1 ≤ t.size ∧ t.size ≤ 20
    · obtain ⟨hl1, hl20⟩ := hlen
      have g1 : ¬ (t.size : Int) < 1 := by omega
      have g2 : ¬ 20 < (t.size : Int) := by omega
      have hh0 : t.data.toList.head? = some t[0] := by
        rw [List.head?_eq_getElem?, List.getElem?_eq_getElem (by rw [size_len]; omega)]; rfl
      have hhl : t.data.toList.getLast? = some t[t.size - 1] := by
        rw [List.getLast?_eq_getElem?, size_len, List.getElem?_eq_getElem (by rw [size_len]; omega)]; rfl
      have q0 : (0 : Int) < (t.size : Int) := by omega
      have q1 : (0 : Int) ≤ (t.size : Int) - 1 := by omega
      have q2 : (t.size : Int) - 1 < (t.size : Int) := by omega
      have q3 : ((t.size : Int) - 1).toNat = t.size - 1 := by omega
      by_cases e0 : t[0] = 45
      · have HF : Hid (Pa.labOk t.data.toList = false) := by
          rw [Hid, Bool.eq_false_iff]; intro h
          exact ((Pa.labOk_iff _).1 h).2.1 (by rw [hh0, e0])
        have e0' : ((t[0].toNat : Int) == 45) = true := by rw [e0]; rfl
        clear hh0 hhl e0 q3
        gi_wp2
        have hbd := hbad.out HF.out; exact ⟨HSET.out _, ⟨rfl, hbd.1, hbd.2.1⟩, hbd.2.2⟩
      have e0' : ((t[0].toNat : Int) == 45) = false := by
        rw [beq_eq_false_iff_ne]; intro h; exact e0 (UInt8.toNat_inj.1 (by show t[0].toNat = 45; omega))
      by_cases e1 : t[t.size - 1] = 45
      · have HF : Hid (Pa.labOk t.data.toList = false) := by
          rw [Hid, Bool.eq_false_iff]; intro h
          exact ((Pa.labOk_iff _).1 h).2.2.1 (by rw [hhl, e1])
        have e1' : ((t[t.size - 1].toNat : Int) == 45) = true := by rw [e1]; rfl
        clear hh0 hhl e0 e1
        gi_wp2
        have hbd := hbad.out HF.out; exact ⟨HSET.out _, ⟨rfl, hbd.1, hbd.2.1⟩, hbd.2.2⟩
      have e1' : ((t[t.size - 1].toNat : Int) == 45) = false := by
        rw [beq_eq_false_iff_ne]; intro h; exact e1 (UInt8.toNat_inj.1 (by show t[t.size - 1].toNat = 45; omega))
      have HL : Hid ((∀ c ∈ t.data.toList, Pa.inLab c = true) → Pa.labOk t.data.toList = true) := fun h =>
        (Pa.labOk_iff _).2 ⟨by rw [size_len]; exact ⟨hl1, hl20⟩, by rw [hh0]; intro h; exact e0 (Option.some.inj h), by rw [hhl]; intro h; exact e1 (Option.some.inj h), h⟩
      clear hh0 hhl e0 e1
      gi_wp2
      gi_loop [34] (fun i => ∃ k : Nat, k ≤ t.size ∧ i = .int .i64 k ∧ Hid (∀ c ∈ t.data.toList.take k, Pa.inLab c = true)) (fun i => t.size - (intOf i).toNat)
      case atStart => exact ⟨0, Nat.zero_le _, rfl, fun c hc => by simp at hc⟩
      case round =>
        obtain ⟨k, hk, rfl, HK⟩ := hrel
        by_cases hlt : k < t.size
        · have b1 : (0 : Int) ≤ (k : Int) := by omega
          have b2 : (k : Int) < (t.size : Int) := by omega
          have hmem : t[k] ∈ t.data.toList := by
            have := List.getElem_mem (l := t.data.toList) (n := k) (by rw [size_len]; exact hlt)
            exact this
          by_cases hin : Pa.inLab t[k] = true
          · have hne : (!Pa.inLab t[k]) = false := by rw [hin]; rfl
            have HK2 : Hid (∀ c ∈ t.data.toList.take (k + 1), Pa.inLab c = true) := by
              rw [Hid, List.take_succ_eq_append_getElem (by rw [size_len]; exact hlt)]
              intro c hc
              rcases List.mem_append.1 hc with hc | hc
              · exact HK.out c hc
              · simp at hc; subst hc; exact hin
            clear hin HK hmem
            gi_wp2_with (refine ⟨trivial, ?_⟩; gi_at_call 44; refine (CallsIn.inRound l (callsIn_wide.2 (inLabel_any t[k] _))).mono ?_; rintro e w' ⟨rfl, rfl⟩)
            go_round
            case rel => exact ⟨k + 1, by omega, by go_num, HK2.out⟩
            case measure => simp [intOf]; omega
          · have hne : (!Pa.inLab t[k]) = true := by simpa using hin
            have HF : Hid (Pa.labOk t.data.toList = false) := by
              rw [Hid, Bool.eq_false_iff]; intro h
              exact hin (((Pa.labOk_iff _).1 h).2.2.2 _ hmem)
            clear hin HK hmem
            gi_wp2_with (refine ⟨trivial, ?_⟩; gi_at_call 44; refine (CallsIn.inRound l (callsIn_wide.2 (inLabel_any t[k] _))).mono ?_; rintro e w' ⟨rfl, rfl⟩)
            have hbd := hbad.out HF.out; exact ⟨HSET.out _, ⟨rfl, hbd.1, hbd.2.1⟩, hbd.2.2⟩
        · have hke : t.data.toList.take k = t.data.toList := List.take_of_length_le (by rw [size_len]; omega)
          rw [hke] at HK
          have HLT := Lib.hid (HL.out HK.out)
          clear hke
          gi_wp2
          refine ⟨KeepsOthers.refl _, Below.refl _ _, ⟨fun y hy => ?_, hcr, hfr⟩, hB⟩
          rcases List.mem_append.1 hy with hy | hy
          · exact hp y hy
          · simp at hy; subst hy; exact HLT.out
    · have hf : Pa.labOk t.data.toList = false := by
        rw [Bool.eq_false_iff]; intro h
        exact hlen (by have := ((Pa.labOk_iff _).1 h).1; rwa [size_len] at this)
      have HF := Lib.hid hf; clear hf
      by_cases h1 : (t.size : Int) < 1
      · gi_wp2
        have hbd := hbad.out HF.out; exact ⟨HSET.out _, ⟨rfl, hbd.1, hbd.2.1⟩, hbd.2.2⟩
      · have h20 : 20 < (t.size : Int) := by omega
        clear hlen
        gi_wp2
        have hbd := hbad.out HF.out; exact ⟨HSET.out _, ⟨rfl, hbd.1, hbd.2.1⟩, hbd.2.2⟩
  case done =>
    rintro D ys W hD rfl ⟨⟨hall, hcr, hfr⟩, hB⟩ hK
    have HN : Hid (Pa.nameOk s.data.toList = true) := by
      simp only [Hid, Pa.nameOk, Bool.and_eq_true, decide_eq_true_eq, List.all_eq_true]
      exact ⟨by rw [size_len]; exact hs, hall⟩
    clear hall
    gi_wp2
    refine ⟨by simp, .inl ⟨_, _, rfl, run_takeDeferred hK, ?_⟩⟩
    exact ⟨_, results_tmp rfl _ _ _, by rw [HN.out]; rfl, hB.trans (belowK_b (w := w) (Nat.le_refl _) W D _ _ (by simp at hD; omega) hK rfl rfl)⟩
  case stop =>
    rintro D c pre W hD hpre ⟨⟨rfl, hbad, hcr⟩, hB⟩ hK
    have HN : Hid (Pa.nameOk s.data.toList = false) := by
      obtain ⟨x, hx, hf⟩ := hbad
      rw [Hid, Bool.eq_false_iff]; intro h
      simp only [Pa.nameOk, Bool.and_eq_true, List.all_eq_true] at h
      rw [h.2 x (hpre.subset hx)] at hf; cases hf
    clear hbad hpre
    gi_wp2
    refine ⟨by simp, .inl ⟨_, _, rfl, run_takeDeferred hK, ?_⟩⟩
    exact ⟨_, results_tmp rfl _ _ _, by rw [HN.out]; rfl, hB.trans (belowK_b (w := w) (Nat.le_refl _) W D _ _ (by simp at hD; omega) hK rfl rfl)⟩

/-- dns.ValidName, at every string. -/
theorem name_any : NameC := by
  intro s w ok
  by_cases hs : s.size ≤ 60
  · exact name_small s w ok hs
  · have h60 : 60 < (s.size : Int) := by omega
    have HN : Hid (Pa.nameOk s.data.toList = false) := by
      rw [Hid, Bool.eq_false_iff]; intro h
      simp only [Pa.nameOk, Bool.and_eq_true, decide_eq_true_eq] at h
      exact hs h.1
    go_enter Tryz.func22, Tryz.ntmps22
    go_wp2
    go_step3
    go_wp2
    rw [Exit.noGoto_ret]
    go_ret
    exact ⟨by rw [HN.out]; rfl, Below.refl _ _⟩

end Go.Proofs.YtgajoiijebbagaaGreatDoor
