/-
  The walk of the document's parsed: it says which action it makes of a line, and whether the line is the action's own. Conditions: the line is at most a million bytes long.
-/
import Derived.Test.YtgajoiijebbagaaGreatDoorRh
import Derived.Test.YtgajoiijebbagaaGreatDoorRe4
import Derived.Test.YtgajoiijebbagaaGreatDoorCu2
import Derived.Test.YtgajoiijebbagaaGreatDoorGo2
import Derived.Deep.DeepCutAuto
import Derived.Deep.CutBlock
namespace Go.Proofs.YtgajoiijebbagaaGreatDoor
open Go.RowKit Go.Proofs

theorem Pa.split_mem_len (c : UInt8) : ∀ (l : Pa.Bs), ∀ x ∈ Pa.splitC c l, x.length ≤ l.length
  | [], x, hx => by simp [Pa.splitC] at hx; simp [hx]
  | y :: r, x, hx => by
    have ih := Pa.split_mem_len c r
    unfold Pa.splitC at hx
    split at hx
    · simp only [List.mem_cons] at hx
      rcases hx with rfl | hx
      · simp
      · have := ih x hx; simp; omega
    · cases hs : Pa.splitC c r with
      | nil => exact absurd hs (Pa.splitC_ne c r)
      | cons z zs =>
        rw [hs] at hx ih
        simp only [Pa.glue, List.mem_cons] at hx
        rcases hx with rfl | hx
        · have := ih z (by simp); simp; omega
        · have := ih x (by simp [hx]); simp; omega

/-- What the switch leaves: the action in its block, and whether its bytes were well formed. -/
def CutP (t : Pa.Bs) (A0 : Nat) (W : World) (s6 : Value) (wx : World) : Prop := ∃ fv : Value, s6 = .bool (Pa.rawR t).2 ∧ RowAt A0 (acCells (Pa.rawR t).1 fv) wx ∧ Fs wx fv (Pa.rawR t).1.fates ∧ (Pa.rawR t).1.fates.length ≤ 1000001 ∧ (∀ b, fv.ownBlock = some b → W.heap.size ≤ b) ∧ Kp (fun k => k = A0) W wx
theorem CutP.mk {t : Pa.Bs} {A0 : Nat} {W : World} {x : Pa.Ac} {ok : Bool} {wx : World} (hr : Pa.rawR t = (x, ok)) (fv : Value) (h1 : RowAt A0 (acCells x fv) wx) (h2 : Fs wx fv x.fates) (h3 : x.fates.length ≤ 1000001) (h4 : ∀ b, fv.ownBlock = some b → W.heap.size ≤ b) (h5 : Kp (fun k => k = A0) W wx) : CutP t A0 W (.bool ok) wx := by
  unfold CutP; rw [hr]; exact ⟨fv, rfl, h1, h2, h3, h4, h5⟩

theorem RowAt.put13 {b : Nat} {w : World} {a0 a1 a2 a3 a4 a5 a6 a7 a8 a9 a10 a11 a12 : Value} (h : RowAt b [a0, a1, a2, a3, a4, a5, a6, a7, a8, a9, a10, a11, a12] w) (v0 v1 v2 v3 v4 v5 v6 v7 v8 v9 v10 v11 v12 : Value) :
    RowAt b [v0, v1, v2, v3, v4, v5, v6, v7, v8, v9, v10, v11, v12] (((((((((((((w.setCell ⟨b, 0, none⟩ v0).setCell ⟨b, 1, none⟩ v1).setCell ⟨b, 2, none⟩ v2).setCell ⟨b, 3, none⟩ v3).setCell ⟨b, 4, none⟩ v4).setCell ⟨b, 5, none⟩ v5).setCell ⟨b, 6, none⟩ v6).setCell ⟨b, 7, none⟩ v7).setCell ⟨b, 8, none⟩ v8).setCell ⟨b, 9, none⟩ v9).setCell ⟨b, 10, none⟩ v10).setCell ⟨b, 11, none⟩ v11).setCell ⟨b, 12, none⟩ v12) :=
  ((((((((((((h.set 0 (by simp) v0).set 1 (by simp) v1).set 2 (by simp) v2).set 3 (by simp) v3).set 4 (by simp) v4).set 5 (by simp) v5).set 6 (by simp) v6).set 7 (by simp) v7).set 8 (by simp) v8).set 9 (by simp) v9).set 10 (by simp) v10).set 11 (by simp) v11).set 12 (by simp) v12

theorem Kp.thenT {S T : Nat → Prop} {a b c : World} (h : Kp S a b) (g : Kp T b c) (ht : ∀ k, k < a.heap.size → ¬ T k) : Kp S a c :=
  ⟨g.os.trans h.os, g.tape.trans h.tape, g.output.trans h.output, Nat.le_trans h.size g.size, fun k hk hs => (g.block k (Nat.lt_of_lt_of_le hk h.size) (ht k hk)).trans (h.block k hk hs)⟩

set_option linter.unusedSimpArgs false in
set_option maxRecDepth 100000 in
set_option maxHeartbeats 8000000 in
theorem refParsed_any (s : ByteArray) (w : World) (hs : s.size ≤ 1000000) :
    Calls Tryz.prog 40 #[.string s] w fun e w' => ∃ fv, e = .returned (.tuple #[acV (Pa.rawR s.data.toList).1 fv, .bool (Pa.okR s.data.toList)]) ∧ Fs w' fv (Pa.rawR s.data.toList).1.fates ∧ (∀ b, fv.ownBlock = some b → w.heap.size ≤ b) ∧ Below w.heap.size w w' := by
  have hsp := refSplit_any s
  obtain ⟨t, ht⟩ : ∃ t, t = s.data.toList := ⟨_, rfl⟩
  have htl : t.length ≤ 1000000 := by rw [ht]; exact hs
  have HTS : Hid (s = ⟨t.toArray⟩) := by rw [Hid, ht]
  rw [← ht] at hsp ⊢
  clear ht
  go_enter Tryz.func40, Tryz.ntmps40
  go_wp2_with fail
  obtain ⟨W0, hW0⟩ : ∃ W0 : World, W0 = w.alloc (.cells #[.int .i64 0, .int .i64 0, .int .i64 0, .int .i64 0, .int .i64 0, .int .i64 0, .int .i64 0, .string ⟨#[]⟩, .int .i64 0, .int .i64 0, .int .i64 0, .slice none 0 0, .string ⟨#[]⟩] 27) := ⟨_, rfl⟩
  rw [← hW0]
  have hb0 : Below w.heap.size w W0 := by rw [hW0]; exact (Below.refl _ _).alloc (Nat.le_refl _) _
  have rR0 : RowAt w.heap.size (acCells Pa.a0 (.slice none 0 0)) W0 := by rw [hW0]; exact RowAt.new w _ _
  clear hW0
  refine (hsp W0 (by omega)).mono ?_
  rintro e w1 ⟨v, rfl, ⟨b, c, rfl, hlc, hbl, hcell⟩, hb1⟩
  have hne := Pa.splitC_ne 32 t
  have hsl := Pa.splitC_length_le 32 t
  have hmem : ∀ x ∈ Pa.splitC 32 t, x.length ≤ 1000000 := fun x hx => Nat.le_trans (Pa.split_mem_len 32 t x hx) htl
  obtain ⟨P, hP⟩ : ∃ P, P = Pa.splitC 32 t := ⟨_, rfl⟩
  rw [← hP] at hne hsl hlc hcell hmem ⊢
  obtain ⟨x0, r, rfl⟩ : ∃ x0 r, P = x0 :: r := by
    cases P with
    | nil => exact absurd rfl hne
    | cons x0 r => exact ⟨x0, r, rfl⟩
  have hlen : (x0 :: r).length = r.length + 1 := rfl
  rw [hlen] at hlc hsl ⊢
  have HRAW : Hid (Pa.rawR t = if x0 = Pa.w_call ∧ 2 ≤ r.length then ({ Pa.a0 with kind := 1, host := Pa.numR (r.headD []) 1000000, call := Pa.calledR (r.drop 1) }, true)
    else if x0 = Pa.w_tick ∧ r.length = 1 then ({ Pa.a0 with kind := 2, n := Pa.numR (r.headD []) 1000000 }, true)
    else if x0 = Pa.w_frame ∧ r.length = 2 then ({ Pa.a0 with kind := 4, n := Pa.numR (r.headD []) 1000000, s := ⟨(Pa.bytesS ((r.drop 1).headD [])).toArray⟩ }, Pa.bytesB ((r.drop 1).headD []))
    else if x0 = Pa.w_fates then ({ Pa.a0 with kind := 3, fates := r.map fun x => Pa.numR x 1000000 }, true)
    else (Pa.a0, true)) := by rw [Hid, Pa.rawR, ← hP]
  obtain ⟨W, hW⟩ : ∃ W : World, W = w1.alloc (.cells #[.int .i64 0, .int .i64 0, .int .i64 0, .int .i64 0, .int .i64 0, .int .i64 0, .int .i64 0, .string ⟨#[]⟩, .int .i64 0, .int .i64 0, .int .i64 0, .slice none 0 0, .string ⟨#[]⟩] 27) := ⟨_, rfl⟩
  have hbW : Below w1.heap.size w1 W := by rw [hW]; exact (Below.refl _ _).alloc (Nat.le_refl _) _
  have hB : Below w.heap.size w W := below_on (below_on hb0 hb1) hbW
  have rR : RowAt w.heap.size (acCells Pa.a0 (.slice none 0 0)) W := (rR0.below hb1).below hbW
  obtain ⟨A0, hA0⟩ : ∃ A0, A0 = w1.heap.size := ⟨_, rfl⟩
  have rA : RowAt A0 (acCells Pa.a0 (.slice none 0 0)) W := by rw [hW, hA0]; exact RowAt.new w1 _ _
  have hbA : ¬ b = A0 := by omega
  have hwA : ¬ w.heap.size = A0 := by have := rR0.1; have := hb1.size; omega
  have hlA : w.heap.size ≤ A0 := by have := rR0.1; have := hb1.size; omega
  have hblW : b < W.heap.size := Nat.lt_of_lt_of_le hbl hbW.size
  have HC : Hid (∀ (j : Nat) (h : j < r.length), W.cell? ⟨b, j + 1, none⟩ = some (.string ⟨r[j].toArray⟩)) := fun j h => cell_below hbW hbl (hcell (j + 1) (by simp; omega))
  obtain ⟨X0, hX0⟩ : ∃ X0 : ByteArray, X0 = ⟨x0.toArray⟩ := ⟨_, rfl⟩
  have hc0 : W.cell? ⟨b, 0, none⟩ = some (.string X0) := by rw [hX0]; exact cell_below hbW hbl (hcell 0 (by simp))
  have HX0 : Hid (X0.toList = x0) := by rw [Hid, hX0, ByteArray.toList_eq]
  have HME : Hid (∀ x ∈ r, x.length ≤ 1000000) := fun x hx => hmem x (by simp [hx])
  clear hsp hcell hP hne rR0 hX0 hmem hlen hb0 hb1
  go_upto_block 0 with fail
  rw [← hW, ← hA0]
  clear hW hA0 hbW hbl
  go_cut [6] (fun s6 wx => CutP t A0 W s6 wx)
  case first =>
    obtain ⟨⟨m0, m1, m2, m3, m4, m5, m6, m7, m8, m9, m10, m11, m12⟩, ⟨n0, n1, n2, n3, n4, n5, n6, n7, n8, n9, n10, n11, n12⟩⟩ := rA.all13
    have z0 : (0 : Int) < (r.length : Int) + 1 := by omega
    by_cases n_call : x0 = Pa.w_call
    · have hx := n_call
      by_cases h2 : 2 ≤ r.length
      · have l1 : (2 : Int) < (r.length : Int) + 1 := by omega
        have e_call : (X0.toList == [99, 97, 108, 108]) = true := by rw [HX0.out, hx]; rfl
        have hr0 : 0 < r.length := by omega
        have hr1 : 1 < r.length := by omega
        have hh : r.headD [] = r[0] := by cases r with | nil => simp at hr0 | cons a l => rfl
        have hd : r.drop 1 = r[1] :: r.drop 2 := List.drop_eq_getElem_cons hr1
        obtain ⟨cl, hcl⟩ : ∃ cl, cl = Pa.calledR (r[1] :: r.drop 2) := ⟨_, rfl⟩
        have HV : Hid (Pa.rawR t = (⟨1, Pa.numR r[0] 1000000, cl, 0, [], ⟨#[]⟩⟩, true)) := by
          rw [Hid, HRAW.out, hh, hd, hcl]; simp [hx, h2, Pa.a0]
        have hy := HC.out 0 hr0
        have hyl := HME.out r[0] (List.getElem_mem hr0)
        obtain ⟨Y, hY⟩ : ∃ Y : ByteArray, Y = ⟨r[0].toArray⟩ := ⟨_, rfl⟩
        have hYs : Y.size ≤ 1000000 := by rw [hY, mk_size]; exact hyl
        have cN := fun u => refNumber27_any Y u (by omega)
        rw [show Y.data.toList = r[0] by rw [hY]] at cN
        rw [← hY] at hy
        simp only [Nat.zero_add] at hy
        have hlt2 : (r[1] :: r.drop 2).length = r.length - 1 := by rw [List.length_cons, List.length_drop]; omega
        have hrl : r.length ≤ 1000000 := by omega
        have cC : ∀ u, Below W.heap.size W u → Calls Tryz.prog 65 #[.slice (some ⟨b, 2, none⟩) (r.length - 1) (c - 2)] u fun e w' => e = .returned (clV cl) ∧ Below u.heap.size u w' := fun u hu => by
          rw [hcl]
          refine refCalled_any r[1] (r.drop 2) _ u ⟨b, 2, c - 2, by rw [hlt2], Nat.lt_of_lt_of_le hblW hu.size, fun j hj => cell_below hu hblW ?_⟩ (by rw [List.length_drop]; omega) (fun x hx => HME.out x (List.mem_of_mem_drop hx))
          have hj' : j + 1 < r.length := by simp at hj; omega
          have h3 := HC.out (j + 1) hj'
          rw [show j + 1 + 1 = 2 + j by omega] at h3
          rw [h3]
          have h4 : (r[1] :: r.drop 2)[j] = r[j + 1] := by
            have : (r.drop 1)[j]'(by rw [List.length_drop]; omega) = r[j + 1] := by rw [List.getElem_drop]; congr 1; omega
            rw [← this]; congr 1; exact hd.symm
          rw [h4]
        have HCC := Lib.hid cC
        have z1 : (1 : Int) < (r.length : Int) + 1 := by omega
        have z2 : (2 : Int) ≤ (r.length : Int) + 1 := by omega
        have z3 : ¬ c = 2 := by omega
        have H2 := Lib.hid h2
        clear hx n_call hh hY hd hcl h2 cC hlt2
        go_upto_region 5 with fail
        refine wp_region_G (fun w' => Below W.heap.size W w') 8 (by kernel_rfl) ?_
        have hSw : Below W.heap.size W W.drew := (Below.refl _ _).drew
        generalize W.drew = u at *
        refine anyG_take (i := 0) (oi := ⟨some 21, _, _, _, _, _⟩) (v := ?_) rfl (by kernel_rfl) (fun _ _ _ h => h) (Or.inl ⟨by rfl, ?yld⟩) hSw ?_
        case yld => intro w' hSw; go_simp; try (with_reducible rfl)
        try simp only [Act.put, List.setIfInBounds_toArray, List.set_cons_zero, List.set_cons_succ]
        refine anyG_take (i := 1) (oi := ⟨some 22, _, _, _, _, _⟩) (v := ?_) rfl (by kernel_rfl) (fun _ _ _ h => h) (Or.inl ⟨by rfl, ?yld⟩) hSw ?_
        case yld => intro w' hSw; go_simp; try (with_reducible rfl)
        try simp only [Act.put, List.setIfInBounds_toArray, List.set_cons_zero, List.set_cons_succ]
        refine anyG_take (i := 2) (oi := ⟨some 23, _, _, _, _, _⟩) (v := ?_) rfl (by kernel_rfl) (fun _ _ _ h => h) (Or.inl ⟨by rfl, ?yld⟩) hSw ?_
        case yld => intro w' hSw; have q0 := cell_below hSw hblW hy; go_simp; try (with_reducible rfl)
        try simp only [Act.put, List.setIfInBounds_toArray, List.set_cons_zero, List.set_cons_succ]
        refine anyG_take (i := 4) (oi := ⟨some 25, _, _, _, _, _⟩) (v := ?_) rfl (by kernel_rfl) (fun _ _ _ h => h) (Or.inl ⟨by rfl, ?yld⟩) hSw ?_
        case yld => intro w' hSw; go_simp; try (with_reducible rfl)
        try simp only [Act.put, List.setIfInBounds_toArray, List.set_cons_zero, List.set_cons_succ]
        refine anyG_take (i := 5) (oi := ⟨some 26, _, _, _, _, _⟩) (v := ?_) rfl (by kernel_rfl) (fun _ _ _ h => h) (Or.inl ⟨by rfl, ?yld⟩) hSw ?_
        case yld => intro w' hSw; go_simp; try (with_reducible rfl)
        try simp only [Act.put, List.setIfInBounds_toArray, List.set_cons_zero, List.set_cons_succ]
        refine anyG_one (i := 3) (o := ⟨some 24, _, _, _, _, _⟩) (by kernel_rfl) (by rfl) (by rfl) ?_
        go_simp
        refine (cN _).mono ?_
        rintro e u1 ⟨rfl, hbu⟩
        have hS1 := below_on hSw hbu
        refine behG_mk (fun _ => hS1) ?_
        try simp only [Act.put, List.setIfInBounds_toArray, List.set_cons_zero, List.set_cons_succ]
        refine anyG_one (i := 6) (o := ⟨some 27, _, _, _, _, _⟩) (by kernel_rfl) (by rfl) (by rfl) ?_
        go_simp
        refine (HCC.out _ hS1).mono ?_
        rintro e u2 ⟨rfl, hbu2⟩
        have hS2 := below_on hS1 hbu2
        refine behG_mk (fun _ => hS2) ?_
        obtain ⟨k0, k1, k2, k3, k4, k5, k6, k7⟩ := cl
        unfold clV
        try simp only [Act.put, List.setIfInBounds_toArray, List.set_cons_zero, List.set_cons_succ]
        refine anyG_one (i := 7) (o := ⟨some 28, _, _, _, _, _⟩) (by kernel_rfl) (by rfl) (by rfl) ?_
        go_simp
        refine behG_mk (fun _ => hS2) ?_
        try simp only [Act.put, List.setIfInBounds_toArray, List.set_cons_zero, List.set_cons_succ]
        clear m0 n0 m1 n1 m2 n2 m3 n3 m4 n4 m5 n5 m6 n6 m7 n7 m8 n8 m9 n9 m10 n10 m11 n11 m12 n12
        obtain ⟨⟨mm0, mm1, mm2, mm3, mm4, mm5, mm6, mm7, mm8, mm9, mm10, mm11, mm12⟩, ⟨nn0, nn1, nn2, nn3, nn4, nn5, nn6, nn7, nn8, nn9, nn10, nn11, nn12⟩⟩ := (rA.below hS2).all13
        refine anyG_one (i := 8) (o := ⟨none, _, _, _, _, _⟩) (by kernel_rfl) (by rfl) (by rfl) ?_
        go_simp
        refine behG_mk (fun h => absurd h (by decide)) (anyG_done (by kernel_rfl) ?_)
        go_wp2_with fail
        go_meet
        refine CutP.mk HV.out (.slice none 0 0) ((rA.below hS2).put13 _ _ _ _ _ _ _ _ _ _ _ _ _) (Fs.nil _) (by simp) (fun b hb => by cases hb) ?_
        repeat (with_reducible refine Kp.setCell ?_ (.inl (by simp)) _)
        exact (Kp.refl _ _).on hS2
      · have l1 : ¬ (2 : Int) < (r.length : Int) + 1 := by omega
        have e_call : (X0.toList == [99, 97, 108, 108]) = true := by rw [HX0.out, hx]; rfl
        have e_tick : (X0.toList == [116, 105, 99, 107]) = false := by rw [HX0.out, hx]; rfl
        have f_tick : ¬ X0.toList = [116, 105, 99, 107] := by rw [HX0.out, hx]; decide
        have e_frame : (X0.toList == [102, 114, 97, 109, 101]) = false := by rw [HX0.out, hx]; rfl
        have f_frame : ¬ X0.toList = [102, 114, 97, 109, 101] := by rw [HX0.out, hx]; decide
        have e_fates : (X0.toList == [102, 97, 116, 101, 115]) = false := by rw [HX0.out, hx]; rfl
        have f_fates : ¬ X0.toList = [102, 97, 116, 101, 115] := by rw [HX0.out, hx]; decide
        have HV : Hid (Pa.rawR t = (Pa.a0, true)) := by
          rw [Hid, HRAW.out]; simp [hx, h2]
        clear hx n_call
        go_wp2_with fail
        go_meet
        exact CutP.mk HV.out (.slice none 0 0) rA (Fs.nil _) (by simp [Pa.a0]) (fun b hb => by cases hb) (Kp.refl _ _)
    by_cases n_tick : x0 = Pa.w_tick
    · have hx := n_tick
      by_cases h2 : r.length = 1
      · have l1 : ((r.length : Int) + 1 == 2) = true := by rw [h2]; rfl
        have e_call : (X0.toList == [99, 97, 108, 108]) = false := by rw [HX0.out, hx]; rfl
        have f_call : ¬ X0.toList = [99, 97, 108, 108] := by rw [HX0.out, hx]; decide
        have e_tick : (X0.toList == [116, 105, 99, 107]) = true := by rw [HX0.out, hx]; rfl
        have hr0 : 0 < r.length := by omega
        have hh : r.headD [] = r[0] := by cases r with | nil => simp at hr0 | cons a l => rfl
        have HV : Hid (Pa.rawR t = (⟨2, 0, ⟨0, 0, 0, 0, 0, ⟨#[]⟩, 0, 0⟩, Pa.numR r[0] 1000000, [], ⟨#[]⟩⟩, true)) := by
          rw [Hid, HRAW.out, hh]; simp [hx, h2, Pa.a0, Pa.c0]
        have hy := HC.out 0 hr0
        have hyl := HME.out r[0] (List.getElem_mem hr0)
        obtain ⟨Y, hY⟩ : ∃ Y : ByteArray, Y = ⟨r[0].toArray⟩ := ⟨_, rfl⟩
        have hYs : Y.size ≤ 1000000 := by rw [hY, mk_size]; exact hyl
        have cN := fun u => refNumber27_any Y u (by omega)
        rw [show Y.data.toList = r[0] by rw [hY]] at cN
        rw [← hY] at hy
        simp only [Nat.zero_add] at hy
        have z1 : (1 : Int) < (r.length : Int) + 1 := by omega
        have H2 := Lib.hid h2
        clear hx n_tick n_call hh hY h2
        go_wp2_with (go_at_call 64; refine (cN _).mono ?_; rintro e u1 ⟨rfl, hbu⟩; obtain ⟨⟨mm0, mm1, mm2, mm3, mm4, mm5, mm6, mm7, mm8, mm9, mm10, mm11, mm12⟩, ⟨nn0, nn1, nn2, nn3, nn4, nn5, nn6, nn7, nn8, nn9, nn10, nn11, nn12⟩⟩ := (rA.below hbu).all13)
        go_meet
        refine CutP.mk HV.out (.slice none 0 0) ((rA.below hbu).put13 _ _ _ _ _ _ _ _ _ _ _ _ _) (Fs.nil _) (by simp) (fun b hb => by cases hb) ?_
        repeat (with_reducible refine Kp.setCell ?_ (.inl (by simp)) _)
        exact (Kp.refl _ _).on hbu
      · have l1 : ((r.length : Int) + 1 == 2) = false := by rw [beq_eq_false_iff_ne]; omega
        have e_call : (X0.toList == [99, 97, 108, 108]) = false := by rw [HX0.out, hx]; rfl
        have f_call : ¬ X0.toList = [99, 97, 108, 108] := by rw [HX0.out, hx]; decide
        have e_tick : (X0.toList == [116, 105, 99, 107]) = true := by rw [HX0.out, hx]; rfl
        have e_frame : (X0.toList == [102, 114, 97, 109, 101]) = false := by rw [HX0.out, hx]; rfl
        have f_frame : ¬ X0.toList = [102, 114, 97, 109, 101] := by rw [HX0.out, hx]; decide
        have e_fates : (X0.toList == [102, 97, 116, 101, 115]) = false := by rw [HX0.out, hx]; rfl
        have f_fates : ¬ X0.toList = [102, 97, 116, 101, 115] := by rw [HX0.out, hx]; decide
        have HV : Hid (Pa.rawR t = (Pa.a0, true)) := by
          rw [Hid, HRAW.out]; simp [hx, h2]
        clear hx n_tick n_call
        go_wp2_with fail
        go_meet
        exact CutP.mk HV.out (.slice none 0 0) rA (Fs.nil _) (by simp [Pa.a0]) (fun b hb => by cases hb) (Kp.refl _ _)
    by_cases n_frame : x0 = Pa.w_frame
    · have hx := n_frame
      by_cases h2 : r.length = 2
      · have l1 : ((r.length : Int) + 1 == 3) = true := by rw [h2]; rfl
        have e_call : (X0.toList == [99, 97, 108, 108]) = false := by rw [HX0.out, hx]; rfl
        have f_call : ¬ X0.toList = [99, 97, 108, 108] := by rw [HX0.out, hx]; decide
        have e_tick : (X0.toList == [116, 105, 99, 107]) = false := by rw [HX0.out, hx]; rfl
        have f_tick : ¬ X0.toList = [116, 105, 99, 107] := by rw [HX0.out, hx]; decide
        have e_frame : (X0.toList == [102, 114, 97, 109, 101]) = true := by rw [HX0.out, hx]; rfl
        have hr0 : 0 < r.length := by omega
        have hr1 : 1 < r.length := by omega
        have hh : r.headD [] = r[0] := by cases r with | nil => simp at hr0 | cons a l => rfl
        have hh2 : (r.drop 1).headD [] = r[1] := by
          cases r with
          | nil => simp at hr0
          | cons a l => cases l with
            | nil => simp at hr1
            | cons a' l' => rfl
        have HV : Hid (Pa.rawR t = (⟨4, 0, ⟨0, 0, 0, 0, 0, ⟨#[]⟩, 0, 0⟩, Pa.numR r[0] 1000000, [], ⟨(Pa.bytesS r[1]).toArray⟩⟩, Pa.bytesB r[1])) := by
          rw [Hid, HRAW.out, hh, hh2]; simp [hx, h2, Pa.a0, Pa.c0]
        have hy := HC.out 0 hr0
        have hyl := HME.out r[0] (List.getElem_mem hr0)
        have hy2 := HC.out 1 hr1
        have hyl2 := HME.out r[1] (List.getElem_mem hr1)
        obtain ⟨Y, hY⟩ : ∃ Y : ByteArray, Y = ⟨r[0].toArray⟩ := ⟨_, rfl⟩
        obtain ⟨Y2, hY2⟩ : ∃ Y2 : ByteArray, Y2 = ⟨r[1].toArray⟩ := ⟨_, rfl⟩
        have hYs : Y.size ≤ 1000000 := by rw [hY, mk_size]; exact hyl
        have hYs2 : Y2.size ≤ 1000000 := by rw [hY2, mk_size]; exact hyl2
        have cN := fun u => refNumber27_any Y u (by omega)
        have cB := fun u => refBytes_any Y2 u hYs2
        rw [show Y.data.toList = r[0] by rw [hY]] at cN
        rw [show Y2.data.toList = r[1] by rw [hY2]] at cB
        rw [← hY] at hy
        rw [← hY2] at hy2
        simp only [Nat.zero_add, Nat.reduceAdd] at hy hy2
        have HY2 := Lib.hid hy2
        have z1 : (1 : Int) < (r.length : Int) + 1 := by omega
        have z2 : (2 : Int) < (r.length : Int) + 1 := by omega
        have H2 := Lib.hid h2
        clear hx n_frame n_tick n_call hh hh2 hY hY2 h2 hy2
        go_upto_region 10 with (go_at_call 64; refine (cN _).mono ?_; rintro e u1 ⟨rfl, hbu⟩; obtain ⟨⟨mm0, mm1, mm2, mm3, mm4, mm5, mm6, mm7, mm8, mm9, mm10, mm11, mm12⟩, ⟨nn0, nn1, nn2, nn3, nn4, nn5, nn6, nn7, nn8, nn9, nn10, nn11, nn12⟩⟩ := (rA.below hbu).all13)
        have rB := (rA.below hbu).put13 (.int .i64 4) (.int .i64 0) (.int .i64 0) (.int .i64 0) (.int .i64 0) (.int .i64 0) (.int .i64 0) (.string ⟨#[]⟩) (.int .i64 0) (.int .i64 0) (.int .i64 (Pa.numR r[0] 1000000)) (.slice none 0 0) (.string ⟨#[]⟩)
        have kB : Kp (fun k => k = A0) W (((((((((((((u1.setCell ⟨A0, 0, none⟩ (.int .i64 4)).setCell ⟨A0, 1, none⟩ (.int .i64 0)).setCell ⟨A0, 2, none⟩ (.int .i64 0)).setCell ⟨A0, 3, none⟩ (.int .i64 0)).setCell ⟨A0, 4, none⟩ (.int .i64 0)).setCell ⟨A0, 5, none⟩ (.int .i64 0)).setCell ⟨A0, 6, none⟩ (.int .i64 0)).setCell ⟨A0, 7, none⟩ (.string ⟨#[]⟩)).setCell ⟨A0, 8, none⟩ (.int .i64 0)).setCell ⟨A0, 9, none⟩ (.int .i64 0)).setCell ⟨A0, 10, none⟩ (.int .i64 (Pa.numR r[0] 1000000))).setCell ⟨A0, 11, none⟩ (.slice none 0 0)).setCell ⟨A0, 12, none⟩ (.string ⟨#[]⟩)) := by
          repeat (with_reducible refine Kp.setCell ?_ (.inl (by simp)) _)
          exact (Kp.refl _ _).on hbu
        have hyB := (kB.cell hblW hbA).trans HY2.out
        obtain ⟨U, hU⟩ : ∃ U : World, U = (((((((((((((u1.setCell ⟨A0, 0, none⟩ (.int .i64 4)).setCell ⟨A0, 1, none⟩ (.int .i64 0)).setCell ⟨A0, 2, none⟩ (.int .i64 0)).setCell ⟨A0, 3, none⟩ (.int .i64 0)).setCell ⟨A0, 4, none⟩ (.int .i64 0)).setCell ⟨A0, 5, none⟩ (.int .i64 0)).setCell ⟨A0, 6, none⟩ (.int .i64 0)).setCell ⟨A0, 7, none⟩ (.string ⟨#[]⟩)).setCell ⟨A0, 8, none⟩ (.int .i64 0)).setCell ⟨A0, 9, none⟩ (.int .i64 0)).setCell ⟨A0, 10, none⟩ (.int .i64 (Pa.numR r[0] 1000000))).setCell ⟨A0, 11, none⟩ (.slice none 0 0)).setCell ⟨A0, 12, none⟩ (.string ⟨#[]⟩)) := ⟨_, rfl⟩
        rw [← hU] at rB kB hyB ⊢
        clear hU hbu cN mm0 mm1 mm2 mm3 mm4 mm5 mm6 mm7 mm8 mm9 mm10 mm11 mm12 nn0 nn1 nn2 nn3 nn4 nn5 nn6 nn7 nn8 nn9 nn10 nn11 nn12
        go_wp2_with (go_at_call 66; refine (cB _).mono ?_; rintro e u2 ⟨rfl, hbu⟩; obtain ⟨⟨mm0, mm1, mm2, mm3, mm4, mm5, mm6, mm7, mm8, mm9, mm10, mm11, mm12⟩, ⟨nn0, nn1, nn2, nn3, nn4, nn5, nn6, nn7, nn8, nn9, nn10, nn11, nn12⟩⟩ := (rB.below hbu).all13)
        go_meet
        refine CutP.mk HV.out (.slice none 0 0) ((rB.below hbu).set 12 (by simp) _) (Fs.nil _) (by simp) (fun b hb => by cases hb) ?_
        repeat (with_reducible refine Kp.setCell ?_ (.inl (by simp)) _)
        exact kB.on hbu
      · have l1 : ((r.length : Int) + 1 == 3) = false := by rw [beq_eq_false_iff_ne]; omega
        have e_call : (X0.toList == [99, 97, 108, 108]) = false := by rw [HX0.out, hx]; rfl
        have f_call : ¬ X0.toList = [99, 97, 108, 108] := by rw [HX0.out, hx]; decide
        have e_tick : (X0.toList == [116, 105, 99, 107]) = false := by rw [HX0.out, hx]; rfl
        have f_tick : ¬ X0.toList = [116, 105, 99, 107] := by rw [HX0.out, hx]; decide
        have e_frame : (X0.toList == [102, 114, 97, 109, 101]) = true := by rw [HX0.out, hx]; rfl
        have e_fates : (X0.toList == [102, 97, 116, 101, 115]) = false := by rw [HX0.out, hx]; rfl
        have f_fates : ¬ X0.toList = [102, 97, 116, 101, 115] := by rw [HX0.out, hx]; decide
        have HV : Hid (Pa.rawR t = (Pa.a0, true)) := by
          rw [Hid, HRAW.out]; simp [hx, h2]
        clear hx n_frame n_tick n_call
        go_wp2_with fail
        go_meet
        exact CutP.mk HV.out (.slice none 0 0) rA (Fs.nil _) (by simp [Pa.a0]) (fun b hb => by cases hb) (Kp.refl _ _)
    by_cases n_fates : x0 = Pa.w_fates
    · have hx := n_fates
      have e_call : (X0.toList == [99, 97, 108, 108]) = false := by rw [HX0.out, hx]; rfl
      have f_call : ¬ X0.toList = [99, 97, 108, 108] := by rw [HX0.out, hx]; decide
      have e_tick : (X0.toList == [116, 105, 99, 107]) = false := by rw [HX0.out, hx]; rfl
      have f_tick : ¬ X0.toList = [116, 105, 99, 107] := by rw [HX0.out, hx]; decide
      have e_frame : (X0.toList == [102, 114, 97, 109, 101]) = false := by rw [HX0.out, hx]; rfl
      have f_frame : ¬ X0.toList = [102, 114, 97, 109, 101] := by rw [HX0.out, hx]; decide
      have e_fates : (X0.toList == [102, 97, 116, 101, 115]) = true := by rw [HX0.out, hx]; rfl
      have HV : Hid (Pa.rawR t = (⟨3, 0, ⟨0, 0, 0, 0, 0, ⟨#[]⟩, 0, 0⟩, 0, r.map (fun x => Pa.numR x 1000000), ⟨#[]⟩⟩, true)) := by
        rw [Hid, HRAW.out]; simp [hx, Pa.w_call, Pa.w_tick, Pa.w_frame, Pa.w_fates, Pa.a0, Pa.c0]
      clear hx n_frame n_tick n_call n_fates
      have rB := rA.set 0 (by simp [acCells]) (.int .i64 3)
      have kB := Kp.set W A0 0 (.int .i64 3)
      obtain ⟨i0, hi0, hz0, hz1, hz2⟩ := info_parts infoI
      go_upto_region 13 with fail
      obtain ⟨U, hU⟩ : ∃ U : World, U = W.setCell ⟨A0, 0, none⟩ (.int .i64 3) := ⟨_, rfl⟩
      rw [← hU] at rB kB ⊢
      clear hU m0 n0 m1 n1 m2 n2 m3 n3 m4 n4 m5 n5 m6 n6 m7 n7 m8 n8 m9 n9 m10 n10 m11 n11 m12 n12
      go_wp2_with fail
      go_loopw [7] (fun i wr => ∃ (k : Nat) (gv : Value), k ≤ r.length ∧ i = .int .i64 (k + 1) ∧ RowAt A0 (acCells ⟨3, 0, ⟨0, 0, 0, 0, 0, ⟨#[]⟩, 0, 0⟩, 0, [], ⟨#[]⟩⟩ gv) wr ∧ wr.ownsRow W.heap.size 3 1 gv k (((r.take k).map fun x => Pa.numR x 1000000).map (Value.int .i64)) ∧ Kp (fun k => k = A0) W wr) (fun i _ => r.length + 1 - (intOf i).toNat)
      case atStart => exact ⟨0, .slice none 0 0, Nat.zero_le _, rfl, rB, World.ownsRow_nil _ _ _ _, kB⟩
      case round =>
        obtain ⟨k, gv, hk1, rfl, hP, hO, hK⟩ := hrel
        clear rB kB
        obtain ⟨gp, gc, rfl⟩ := owns_slice hO
        by_cases hlt : k < r.length
        · have f1 : (k : Int) + 1 < (r.length : Int) + 1 := by omega
          have hyl := HME.out r[k] (List.getElem_mem hlt)
          have hy := (hK.cell hblW hbA).trans (HC.out k hlt)
          obtain ⟨Y, hY⟩ : ∃ Y : ByteArray, Y = ⟨r[k].toArray⟩ := ⟨_, rfl⟩
          have hYs : Y.size ≤ 1000000 := by rw [hY, mk_size]; exact hyl
          have cN := fun u => refNumber27_any Y u (by omega)
          rw [show Y.data.toList = r[k] by rw [hY]] at cN
          rw [← hY] at hy
          clear hY
          have hb1 : (0 : Int) ≤ (k : Int) + 1 := by omega
          go_upto_region 16 with fail
          have hS : (fun w' : World => w'.cell? ⟨A0, 11, none⟩ = some (.slice gp k gc) ∧ w'.cell? ⟨b, k + 1, none⟩ = some (.string Y)) wr.drew := ⟨(hP.2 11 _ rfl).1, hy⟩
          have hOd := owns_below hO (Below.refl _ _).drew
          have hPd := hP.below (Below.refl _ _).drew
          have hKd := hK.drew
          clear hO hP hK hy
          refine wp_region_G (fun w' => w'.cell? ⟨A0, 11, none⟩ = some (.slice gp k gc) ∧ w'.cell? ⟨b, k + 1, none⟩ = some (.string Y)) 9 (by kernel_rfl) ?_
          have hbW : b < wr.drew.heap.size := Nat.lt_of_lt_of_le hblW hKd.size
          generalize wr.drew = W0 at *
          refine anyG_take (i := 0) (oi := ⟨some 79, _, _, _, _, _⟩) (v := ?_) rfl (by kernel_rfl) (fun _ _ _ h => h) (Or.inl ⟨by rfl, ?yld⟩) hS ?_
          case yld => intro w' hSw; obtain ⟨s1, s2⟩ := hSw; go_simp; try (with_reducible rfl)
          try simp only [Act.put, List.setIfInBounds_toArray, List.set_cons_zero, List.set_cons_succ]
          refine anyG_take (i := 1) (oi := ⟨some 80, _, _, _, _, _⟩) (v := ?_) rfl (by kernel_rfl) (fun _ _ _ h => h) (Or.inl ⟨by rfl, ?yld⟩) hS ?_
          case yld => intro w' hSw; obtain ⟨s1, s2⟩ := hSw; go_simp; try (with_reducible rfl)
          try simp only [Act.put, List.setIfInBounds_toArray, List.set_cons_zero, List.set_cons_succ]
          refine anyG_take (i := 2) (oi := ⟨some 81, _, _, _, _, _⟩) (v := ?_) rfl (by kernel_rfl) (fun _ _ _ h => h) (Or.inl ⟨by rfl, ?yld⟩) hS ?_
          case yld => intro w' hSw; obtain ⟨s1, s2⟩ := hSw; go_simp; try (with_reducible rfl)
          try simp only [Act.put, List.setIfInBounds_toArray, List.set_cons_zero, List.set_cons_succ]
          refine anyG_take (i := 3) (oi := ⟨some 82, _, _, _, _, _⟩) (v := ?_) rfl (by kernel_rfl) (fun _ _ _ h => h) (Or.inl ⟨by rfl, ?yld⟩) hS ?_
          case yld => intro w' hSw; obtain ⟨s1, s2⟩ := hSw; go_simp; try (with_reducible rfl)
          try simp only [Act.put, List.setIfInBounds_toArray, List.set_cons_zero, List.set_cons_succ]
          refine anyG_take (i := 4) (oi := ⟨some 83, _, _, _, _, _⟩) (v := ?_) rfl (by kernel_rfl) (fun _ _ _ h => h) (Or.inl ⟨by rfl, ?yld⟩) hS ?_
          case yld => intro w' hSw; obtain ⟨s1, s2⟩ := hSw; go_simp; try (with_reducible rfl)
          try simp only [Act.put, List.setIfInBounds_toArray, List.set_cons_zero, List.set_cons_succ]
          refine anyG_take (i := 5) (oi := ⟨some 84, _, _, _, _, _⟩) (v := ?_) rfl (by kernel_rfl) (fun _ _ _ h => h) (Or.inl ⟨by rfl, ?yld⟩) hS ?_
          case yld => intro w' hSw; obtain ⟨s1, s2⟩ := hSw; go_simp; try (with_reducible rfl)
          try simp only [Act.put, List.setIfInBounds_toArray, List.set_cons_zero, List.set_cons_succ]
          refine anyG_one (i := 6) (by kernel_rfl) (by rfl) (by rfl) ?_
          go_simp
          refine (cN _).mono ?_
          rintro e u1 ⟨rfl, hbu⟩
          have hSu : (fun w' : World => w'.cell? ⟨A0, 11, none⟩ = some (.slice gp k gc) ∧ w'.cell? ⟨b, k + 1, none⟩ = some (.string Y)) u1 := ⟨cell_below hbu hPd.1 hS.1, cell_below hbu hbW hS.2⟩
          refine behG_mk (fun _ => hSu) ?_
          try simp only [Act.put, List.setIfInBounds_toArray, List.set_cons_zero, List.set_cons_succ]
          have hOu := owns_below hOd hbu
          have hPu := hPd.below hbu
          have hKu := hKd.on hbu
          have hbU : b < u1.heap.size := Nat.lt_of_lt_of_le hbW hbu.size
          clear hS hOd hPd hKd hbW hbu
          refine anyG_one (i := 7) (by kernel_rfl) (by rfl) (by rfl) ?_
          go_simp
          refine behG_mk (fun _ => ⟨cell_old _ hPu.1 hSu.1, cell_old _ hbU hSu.2⟩) ?_
          try simp only [Act.put, List.setIfInBounds_toArray, List.set_cons_zero, List.set_cons_succ]
          have hWu := hKu.size
          refine anyG_one (i := 8) (by kernel_rfl) (by rfl) (by rfl) ?_
          refine wp_append_lies _ (.tmp 80) (.tmp 86) 25 (by rfl) W.heap.size 3 i0 (.int .i64 0) 1 8 Tryz.underlying25 hi0 hz0 hz1 hz2 rfl (by decide) _ k _ (by rfl) (owns_below hOu ((Below.refl _ _).alloc (Nat.le_refl _) _)) ⟨u1.heap.size, 0, none⟩ 1 1 [.int .i64 (Pa.numR r[k] 1000000)] (by rfl) (by simp) (World.news_of_block (heap_alloc_new _ _)) (by simp [Value.oneCell']) (by omega) (by unfold maxLen; omega) (by omega) (by simp; omega) (u1.heap.size + 1) (by simp) ?_
          intro g1 cap1 w6 hown6 hgrow hat hlt6
          have kg := Kp.of_grown hgrow
          have hgb : ∀ g, (Value.slice gp k gc).ownBlock = some g → W.heap.size ≤ g := fun g e => owns_base hOu e
          have hAW : A0 < W.heap.size := rA.1
          have hP6 := (hPu.below ((Below.refl _ _).alloc (Nat.le_refl _) _)).kp kg (fun e => by have := hgb _ e; omega)
          have hK6 := (hKu.alloc _).thenT kg (fun k hk e => by have := hgb _ e; omega)
          refine behG_mk (fun _ => ⟨?_, ?_⟩) ?_
          · exact (hP6.2 11 _ rfl).1
          · exact (kg.cell (Nat.lt_of_lt_of_le hbU (by simp)) (fun e => by have := hgb _ e; omega)).trans (cell_old _ hbU hSu.2)
          try simp only [Act.put, List.setIfInBounds_toArray, List.set_cons_zero, List.set_cons_succ]
          refine anyG_one (i := 9) (by kernel_rfl) (by rfl) (by rfl) ?_
          go_simp
          refine behG_mk (fun h => absurd h (by decide)) ?_
          try simp only [Act.put, List.setIfInBounds_toArray, List.set_cons_zero, List.set_cons_succ]
          have ⟨q11, qf11⟩ := hP6.2 11 _ rfl
          refine anyG_one (i := 10) (by kernel_rfl) (by rfl) (by rfl) ?_
          go_simp
          refine behG_mk (fun h => absurd h (by decide)) (anyG_done (by kernel_rfl) ?_)
          have J1 := Lib.hid (hP6.set 11 (by simp [acCells]) (.slice (some ⟨g1, 0, none⟩) (k + 1) cap1))
          have ks := Kp.set w6 A0 11 (.slice (some ⟨g1, 0, none⟩) (k + 1) cap1)
          have J2 : Hid ((w6.setCell ⟨A0, 11, none⟩ (.slice (some ⟨g1, 0, none⟩) (k + 1) cap1)).ownsRow W.heap.size 3 1 (.slice (some ⟨g1, 0, none⟩) (k + 1) cap1) (k + 1) (((r.take (k + 1)).map fun x => Pa.numR x 1000000).map (Value.int .i64))) := by
            rw [Hid, List.take_succ_eq_append_getElem hlt, List.map_append, List.map_append]
            exact owns_kp hown6 ks (by intro g hg; show ¬ g = _; omega)
          have J3 := Lib.hid (hK6.trans ks)
          clear hown6 hgrow kg hP6 hK6 q11 qf11 hSu hOu hPu hKu hat ks
          generalize w6.setCell ⟨A0, 11, none⟩ (.slice (some ⟨g1, 0, none⟩) (k + 1) cap1) = w7 at *
          go_wp2
          go_roundw
          case rel => exact ⟨k + 1, _, by omega, by go_num, J1.out, J2.out, J3.out⟩
          case measure => simp [intOf]; omega
        · have f1 : ¬ (k : Int) + 1 < (r.length : Int) + 1 := by omega
          go_wp2_with fail
          go_meet
          have hkr : k = r.length := by omega
          rw [List.take_of_length_le (by omega)] at hO
          refine CutP.mk HV.out (.slice gp k gc) hP ?_ (by simp; omega) (fun b hb => owns_base hO hb) hK
          exact fs_own (base := W.heap.size) (by rw [List.length_map, ← hkr]; exact hO)
    · skip
      have e_call : (X0.toList == [99, 97, 108, 108]) = false := by rw [HX0.out, beq_eq_false_iff_ne]; exact n_call
      have f_call : ¬ X0.toList = [99, 97, 108, 108] := by rw [HX0.out]; exact n_call
      have e_tick : (X0.toList == [116, 105, 99, 107]) = false := by rw [HX0.out, beq_eq_false_iff_ne]; exact n_tick
      have f_tick : ¬ X0.toList = [116, 105, 99, 107] := by rw [HX0.out]; exact n_tick
      have e_frame : (X0.toList == [102, 114, 97, 109, 101]) = false := by rw [HX0.out, beq_eq_false_iff_ne]; exact n_frame
      have f_frame : ¬ X0.toList = [102, 114, 97, 109, 101] := by rw [HX0.out]; exact n_frame
      have e_fates : (X0.toList == [102, 97, 116, 101, 115]) = false := by rw [HX0.out, beq_eq_false_iff_ne]; exact n_fates
      have f_fates : ¬ X0.toList = [102, 97, 116, 101, 115] := by rw [HX0.out]; exact n_fates
      have HV : Hid (Pa.rawR t = (Pa.a0, true)) := by
        rw [Hid, HRAW.out]; simp [n_call, n_tick, n_frame, n_fates]
      clear n_frame n_tick n_call n_fates
      go_wp2_with fail
      go_meet
      exact CutP.mk HV.out (.slice none 0 0) rA (Fs.nil _) (by simp [Pa.a0]) (fun b hb => by cases hb) (Kp.refl _ _)
  case rest =>
  obtain ⟨Wx, rfl⟩ : ∃ Wx, Wx = wc := ⟨wc, rfl⟩
  obtain ⟨fv, hs6, hrow, hfs, hfl, hfr, hkp⟩ := hcut
  have hBx : Below w.heap.size w Wx := Kp.up hB hkp hB.size (fun k hk e => by omega)
  have rRx := rR.kp hkp (by omega)
  have HOK : Hid (Pa.okR t = ((Pa.rawR t).2 && Pa.okA (Pa.rawR t).1 && decide (Pa.lineA (Pa.rawR t).1 = t))) := rfl
  obtain ⟨⟨x, ok⟩, hx⟩ : ∃ x, x = Pa.rawR t := ⟨_, rfl⟩
  rw [← hx] at hs6 hrow hfs hfl HOK
  simp only at hs6 hrow hfs hfl
  have HX := Lib.hid hx
  subst hs6
  have HFS := Lib.hid hfs
  obtain ⟨fa, fc, rfl, -⟩ := hfs
  have cV := fun u (hb : Below Wx.heap.size Wx u) => refAct_any x _ u (HFS.out.below hb) (by omega)
  have cL := fun u (hb : Below Wx.heap.size Wx u) (h : Pa.okA x = true) => refLine_any x _ u h (HFS.out.below hb)
  have hrow' := hrow
  have HFR := Lib.hid hfr
  have hAl := hrow.1
  have C0 : Hid (∀ u : World, Below Wx.heap.size Wx u → u.cell? ⟨A0, 0, none⟩ = some (.int .i64 x.kind)) := fun u hb => cell_below hb hAl (hrow.2 0 _ rfl).1
  have C1 : Hid (∀ u : World, Below Wx.heap.size Wx u → u.cell? ⟨A0, 1, none⟩ = some (.int .i64 x.host)) := fun u hb => cell_below hb hAl (hrow.2 1 _ rfl).1
  have C2 : Hid (∀ u : World, Below Wx.heap.size Wx u → u.cell? ⟨A0, 2, none⟩ = some (.int .i64 x.call.kind)) := fun u hb => cell_below hb hAl (hrow.2 2 _ rfl).1
  have C3 : Hid (∀ u : World, Below Wx.heap.size Wx u → u.cell? ⟨A0, 3, none⟩ = some (.int .i64 x.call.sock)) := fun u hb => cell_below hb hAl (hrow.2 3 _ rfl).1
  have C4 : Hid (∀ u : World, Below Wx.heap.size Wx u → u.cell? ⟨A0, 4, none⟩ = some (.int .i64 x.call.addr)) := fun u hb => cell_below hb hAl (hrow.2 4 _ rfl).1
  have C5 : Hid (∀ u : World, Below Wx.heap.size Wx u → u.cell? ⟨A0, 5, none⟩ = some (.int .i64 x.call.port)) := fun u hb => cell_below hb hAl (hrow.2 5 _ rfl).1
  have C6 : Hid (∀ u : World, Below Wx.heap.size Wx u → u.cell? ⟨A0, 6, none⟩ = some (.int .i64 x.call.n)) := fun u hb => cell_below hb hAl (hrow.2 6 _ rfl).1
  have C7 : Hid (∀ u : World, Below Wx.heap.size Wx u → u.cell? ⟨A0, 7, none⟩ = some (.string x.call.s)) := fun u hb => cell_below hb hAl (hrow.2 7 _ rfl).1
  have C8 : Hid (∀ u : World, Below Wx.heap.size Wx u → u.cell? ⟨A0, 8, none⟩ = some (.int .i64 x.call.here)) := fun u hb => cell_below hb hAl (hrow.2 8 _ rfl).1
  have C9 : Hid (∀ u : World, Below Wx.heap.size Wx u → u.cell? ⟨A0, 9, none⟩ = some (.int .i64 x.call.mss)) := fun u hb => cell_below hb hAl (hrow.2 9 _ rfl).1
  have C10 : Hid (∀ u : World, Below Wx.heap.size Wx u → u.cell? ⟨A0, 10, none⟩ = some (.int .i64 x.n)) := fun u hb => cell_below hb hAl (hrow.2 10 _ rfl).1
  have C11 : Hid (∀ u : World, Below Wx.heap.size Wx u → u.cell? ⟨A0, 11, none⟩ = some (.slice fa x.fates.length fc)) := fun u hb => cell_below hb hAl (hrow.2 11 _ rfl).1
  have C12 : Hid (∀ u : World, Below Wx.heap.size Wx u → u.cell? ⟨A0, 12, none⟩ = some (.string x.s)) := fun u hb => cell_below hb hAl (hrow.2 12 _ rfl).1
  clear hfr hrow' hkp hrow hx
  cases ok with
  | false =>
    have HR : Hid (Pa.okR t = false) := by rw [Hid, HOK.out]; rfl
    clear cV cL
    go_upto_region 17 with fail
    refine wp_region_G (fun w' => Below Wx.heap.size Wx w') 12 (by kernel_rfl) ?_
    have hSw : Below Wx.heap.size Wx Wx.drew := (Below.refl _ _).drew
    generalize Wx.drew = u at *
    refine anyG_take (i := 0) (oi := ⟨some 89, _, _, _, _, _⟩) (v := ?_) rfl (by kernel_rfl) (fun _ _ _ h => h) (Or.inl ⟨by rfl, ?yld⟩) hSw ?_
    case yld => intro w' hSw; have q0 := C0.out _ hSw; have q1 := C1.out _ hSw; have q2 := C2.out _ hSw; have q3 := C3.out _ hSw; have q4 := C4.out _ hSw; have q5 := C5.out _ hSw; have q6 := C6.out _ hSw; have q7 := C7.out _ hSw; have q8 := C8.out _ hSw; have q9 := C9.out _ hSw; have q10 := C10.out _ hSw; have q11 := C11.out _ hSw; have q12 := C12.out _ hSw; go_simp; try (with_reducible rfl)
    try simp only [Act.put, List.setIfInBounds_toArray, List.set_cons_zero, List.set_cons_succ]
    refine anyG_pure (i := 1) (oi := ⟨some 90, _, _, _, _, _⟩) (v := ?_) rfl (by kernel_rfl) (fun _ _ _ h => h) (Or.inl ⟨by rfl, ?yld⟩) (fun _ => hSw) ?_
    case yld => intro w' _; go_simp; try (with_reducible rfl)
    try simp only [Act.put, List.setIfInBounds_toArray, List.set_cons_zero, List.set_cons_succ]
    refine anyG_pure (i := 2) (oi := ⟨some 91, _, _, _, _, _⟩) (v := ?_) rfl (by kernel_rfl) (fun _ _ _ h => h) (Or.inl ⟨by rfl, ?yld⟩) (fun _ => hSw) ?_
    case yld => intro w' _; go_simp; try (with_reducible rfl)
    try simp only [Act.put, List.setIfInBounds_toArray, List.set_cons_zero, List.set_cons_succ]
    refine anyG_pure (i := 3) (oi := ⟨some 92, _, _, _, _, _⟩) (v := undef) rfl (by kernel_rfl) (fun _ _ _ h => h) (Or.inr ⟨by rfl, rfl⟩) (fun _ => hSw) ?_
    try simp only [Act.put, List.setIfInBounds_toArray, List.set_cons_zero, List.set_cons_succ]
    refine anyG_pure (i := 4) (oi := ⟨some 93, _, _, _, _, _⟩) (v := undef) rfl (by kernel_rfl) (fun _ _ _ h => h) (Or.inr ⟨by rfl, rfl⟩) (fun _ => hSw) ?_
    try simp only [Act.put, List.setIfInBounds_toArray, List.set_cons_zero, List.set_cons_succ]
    refine anyG_pure (i := 5) (oi := ⟨some 94, _, _, _, _, _⟩) (v := ?_) rfl (by kernel_rfl) (fun _ _ _ h => h) (Or.inl ⟨by rfl, ?yld⟩) (fun _ => hSw) ?_
    case yld => intro w' _; go_simp; try (with_reducible rfl)
    try simp only [Act.put, List.setIfInBounds_toArray, List.set_cons_zero, List.set_cons_succ]
    refine anyG_pure (i := 6) (oi := ⟨some 95, _, _, _, _, _⟩) (v := ?_) rfl (by kernel_rfl) (fun _ _ _ h => h) (Or.inl ⟨by rfl, ?yld⟩) (fun _ => hSw) ?_
    case yld => intro w' _; go_simp; try (with_reducible rfl)
    try simp only [Act.put, List.setIfInBounds_toArray, List.set_cons_zero, List.set_cons_succ]
    refine anyG_pure (i := 9) (oi := ⟨some 98, _, _, _, _, _⟩) (v := undef) rfl (by kernel_rfl) (fun _ _ _ h => h) (Or.inr ⟨by rfl, rfl⟩) (fun _ => hSw) ?_
    try simp only [Act.put, List.setIfInBounds_toArray, List.set_cons_zero, List.set_cons_succ]
    refine anyG_pure (i := 7) (oi := ⟨some 96, _, _, _, _, _⟩) (v := undef) rfl (by kernel_rfl) (fun _ _ _ h => h) (Or.inr ⟨by rfl, rfl⟩) (fun _ => hSw) ?_
    try simp only [Act.put, List.setIfInBounds_toArray, List.set_cons_zero, List.set_cons_succ]
    refine anyG_pure (i := 8) (oi := ⟨some 97, _, _, _, _, _⟩) (v := undef) rfl (by kernel_rfl) (fun _ _ _ h => h) (Or.inr ⟨by rfl, rfl⟩) (fun _ => hSw) ?_
    try simp only [Act.put, List.setIfInBounds_toArray, List.set_cons_zero, List.set_cons_succ]
    refine anyG_pure (i := 10) (oi := ⟨some 99, _, _, _, _, _⟩) (v := undef) rfl (by kernel_rfl) (fun _ _ _ h => h) (Or.inr ⟨by rfl, rfl⟩) (fun _ => hSw) ?_
    try simp only [Act.put, List.setIfInBounds_toArray, List.set_cons_zero, List.set_cons_succ]
    refine anyG_pure (i := 11) (oi := ⟨some 100, _, _, _, _, _⟩) (v := ?_) rfl (by kernel_rfl) (fun _ _ _ h => h) (Or.inl ⟨by rfl, ?yld⟩) (fun _ => hSw) ?_
    case yld => intro w' _; go_simp; try (with_reducible rfl)
    try simp only [Act.put, List.setIfInBounds_toArray, List.set_cons_zero, List.set_cons_succ]
    have hu := hSw
    obtain ⟨⟨d0, d1, d2, d3, d4, d5, d6, d7, d8, d9, d10, d11, d12⟩, ⟨g0, g1, g2, g3, g4, g5, g6, g7, g8, g9, g10, g11, g12⟩⟩ := (rRx.below hu).all13
    have HFU := Lib.hid (HFS.out.below hu)
    refine anyG_one_on (i := 12) (o := ⟨none, _, _, _, _, _⟩) (by kernel_rfl) (by rfl) (by rfl) ?_
    go_simp
    refine behG_mk (fun h => by cases h) ?_
    try simp only [Act.put, List.setIfInBounds_toArray, List.set_cons_zero, List.set_cons_succ]
    refine anyG_one_on (i := 13) (o := ⟨some 3, _, _, _, _, _⟩) (by kernel_rfl) (by rfl) (by rfl) ?_
    go_simp
    refine behG_mk (fun h => by cases h) ?_
    try simp only [Act.put, List.setIfInBounds_toArray, List.set_cons_zero, List.set_cons_succ]
    refine anyG_done (by kernel_rfl) ?_
    go_wp2
    refine bodyPost_ret (v := .tuple #[acV x (.slice fa x.fates.length fc), .bool false]) (by simp [results, Tryz.results40, go_sem, acV, d0, d1, d2, d3, d4, d5, d6, d7, d8, d9, d10, d11, d12]) rfl ⟨.slice fa x.fates.length fc, ?_, ?_, fun b hb => ?_, ?_⟩
    · rw [← HX.out, HR.out]
    · rw [← HX.out]
      refine Fs.kp (S := fun k => k = w.heap.size) HFU.out ?_ (fun _ b hb e => by have := HFR.out b hb; have := hB.size; have := rR.1; omega)
      repeat (with_reducible refine Kp.setCell ?_ (.inl (by simp)) _)
      exact Kp.refl _ _
    · have := HFR.out b hb; have := hB.size; omega
    · have hBu := below_on hBx hu
      repeat (with_reducible refine Below.setCell ?_ (by simp) _)
      exact hBu
  | true =>
    cases hok : Pa.okA x with
    | false =>
      have HR : Hid (Pa.okR t = false) := by rw [Hid, HOK.out, hok]; rfl
      have kV := fun (y : Lat (Below Wx.heap.size Wx)) => cV y.u y.h
      rw [hok] at kV
      unfold acV at kV
      clear hok cV cL
      go_upto_region 17 with fail
      refine wp_region_G (fun w' => Below Wx.heap.size Wx w') 12 (by kernel_rfl) ?_
      have hSw : Below Wx.heap.size Wx Wx.drew := (Below.refl _ _).drew
      generalize Wx.drew = u at *
      refine anyG_take (i := 0) (oi := ⟨some 89, _, _, _, _, _⟩) (v := ?_) rfl (by kernel_rfl) (fun _ _ _ h => h) (Or.inl ⟨by rfl, ?yld⟩) hSw ?_
      case yld => intro w' hSw; have q0 := C0.out _ hSw; have q1 := C1.out _ hSw; have q2 := C2.out _ hSw; have q3 := C3.out _ hSw; have q4 := C4.out _ hSw; have q5 := C5.out _ hSw; have q6 := C6.out _ hSw; have q7 := C7.out _ hSw; have q8 := C8.out _ hSw; have q9 := C9.out _ hSw; have q10 := C10.out _ hSw; have q11 := C11.out _ hSw; have q12 := C12.out _ hSw; go_simp; try (with_reducible rfl)
      try simp only [Act.put, List.setIfInBounds_toArray, List.set_cons_zero, List.set_cons_succ]
      refine anyG_pure (i := 1) (oi := ⟨some 90, _, _, _, _, _⟩) (v := ?_) rfl (by kernel_rfl) (fun _ _ _ h => h) (Or.inl ⟨by rfl, ?yld⟩) (fun _ => hSw) ?_
      case yld => intro w' _; go_simp; try (with_reducible rfl)
      try simp only [Act.put, List.setIfInBounds_toArray, List.set_cons_zero, List.set_cons_succ]
      refine anyG_pure (i := 2) (oi := ⟨some 91, _, _, _, _, _⟩) (v := ?_) rfl (by kernel_rfl) (fun _ _ _ h => h) (Or.inl ⟨by rfl, ?yld⟩) (fun _ => hSw) ?_
      case yld => intro w' _; go_simp; try (with_reducible rfl)
      try simp only [Act.put, List.setIfInBounds_toArray, List.set_cons_zero, List.set_cons_succ]
      refine anyG_one_on (i := 3) (o := ⟨some 92, _, _, _, _, _⟩) (by kernel_rfl) (by rfl) (by rfl) ?_
      have q0 := C0.out _ hSw
      have q1 := C1.out _ hSw
      have q2 := C2.out _ hSw
      have q3 := C3.out _ hSw
      have q4 := C4.out _ hSw
      have q5 := C5.out _ hSw
      have q6 := C6.out _ hSw
      have q7 := C7.out _ hSw
      have q8 := C8.out _ hSw
      have q9 := C9.out _ hSw
      have q10 := C10.out _ hSw
      have q11 := C11.out _ hSw
      have q12 := C12.out _ hSw
      go_simp
      refine behG_mk (fun _ => hSw) ?_
      clear q0 q1 q2 q3 q4 q5 q6 q7 q8 q9 q10 q11 q12
      try simp only [Act.put, List.setIfInBounds_toArray, List.set_cons_zero, List.set_cons_succ]
      refine anyG_one_on (i := 4) (o := ⟨some 93, _, _, _, _, _⟩) (by kernel_rfl) (by rfl) (by rfl) ?_
      go_simp
      refine (kV ⟨_, hSw⟩).mono ?_
      rintro e u4 ⟨rfl, hbu4⟩
      have hSw := below_on hSw hbu4
      refine behG_mk (fun _ => hSw) ?_
      try simp only [Act.put, List.setIfInBounds_toArray, List.set_cons_zero, List.set_cons_succ]
      refine anyG_pure (i := 5) (oi := ⟨some 94, _, _, _, _, _⟩) (v := ?_) rfl (by kernel_rfl) (fun _ _ _ h => h) (Or.inl ⟨by rfl, ?yld⟩) (fun _ => hSw) ?_
      case yld => intro w' _; go_simp; try (with_reducible rfl)
      try simp only [Act.put, List.setIfInBounds_toArray, List.set_cons_zero, List.set_cons_succ]
      refine anyG_pure (i := 6) (oi := ⟨some 95, _, _, _, _, _⟩) (v := ?_) rfl (by kernel_rfl) (fun _ _ _ h => h) (Or.inl ⟨by rfl, ?yld⟩) (fun _ => hSw) ?_
      case yld => intro w' _; go_simp; try (with_reducible rfl)
      try simp only [Act.put, List.setIfInBounds_toArray, List.set_cons_zero, List.set_cons_succ]
      refine anyG_pure (i := 9) (oi := ⟨some 98, _, _, _, _, _⟩) (v := undef) rfl (by kernel_rfl) (fun _ _ _ h => h) (Or.inr ⟨by rfl, rfl⟩) (fun _ => hSw) ?_
      try simp only [Act.put, List.setIfInBounds_toArray, List.set_cons_zero, List.set_cons_succ]
      refine anyG_pure (i := 7) (oi := ⟨some 96, _, _, _, _, _⟩) (v := undef) rfl (by kernel_rfl) (fun _ _ _ h => h) (Or.inr ⟨by rfl, rfl⟩) (fun _ => hSw) ?_
      try simp only [Act.put, List.setIfInBounds_toArray, List.set_cons_zero, List.set_cons_succ]
      refine anyG_pure (i := 8) (oi := ⟨some 97, _, _, _, _, _⟩) (v := undef) rfl (by kernel_rfl) (fun _ _ _ h => h) (Or.inr ⟨by rfl, rfl⟩) (fun _ => hSw) ?_
      try simp only [Act.put, List.setIfInBounds_toArray, List.set_cons_zero, List.set_cons_succ]
      refine anyG_pure (i := 10) (oi := ⟨some 99, _, _, _, _, _⟩) (v := undef) rfl (by kernel_rfl) (fun _ _ _ h => h) (Or.inr ⟨by rfl, rfl⟩) (fun _ => hSw) ?_
      try simp only [Act.put, List.setIfInBounds_toArray, List.set_cons_zero, List.set_cons_succ]
      refine anyG_pure (i := 11) (oi := ⟨some 100, _, _, _, _, _⟩) (v := ?_) rfl (by kernel_rfl) (fun _ _ _ h => h) (Or.inl ⟨by rfl, ?yld⟩) (fun _ => hSw) ?_
      case yld => intro w' _; go_simp; try (with_reducible rfl)
      try simp only [Act.put, List.setIfInBounds_toArray, List.set_cons_zero, List.set_cons_succ]
      have hu := hSw
      obtain ⟨⟨d0, d1, d2, d3, d4, d5, d6, d7, d8, d9, d10, d11, d12⟩, ⟨g0, g1, g2, g3, g4, g5, g6, g7, g8, g9, g10, g11, g12⟩⟩ := (rRx.below hu).all13
      have HFU := Lib.hid (HFS.out.below hu)
      refine anyG_one_on (i := 12) (o := ⟨none, _, _, _, _, _⟩) (by kernel_rfl) (by rfl) (by rfl) ?_
      go_simp
      refine behG_mk (fun h => by cases h) ?_
      try simp only [Act.put, List.setIfInBounds_toArray, List.set_cons_zero, List.set_cons_succ]
      refine anyG_one_on (i := 13) (o := ⟨some 3, _, _, _, _, _⟩) (by kernel_rfl) (by rfl) (by rfl) ?_
      go_simp
      refine behG_mk (fun h => by cases h) ?_
      try simp only [Act.put, List.setIfInBounds_toArray, List.set_cons_zero, List.set_cons_succ]
      refine anyG_done (by kernel_rfl) ?_
      go_wp2
      refine bodyPost_ret (v := .tuple #[acV x (.slice fa x.fates.length fc), .bool false]) (by simp [results, Tryz.results40, go_sem, acV, d0, d1, d2, d3, d4, d5, d6, d7, d8, d9, d10, d11, d12]) rfl ⟨.slice fa x.fates.length fc, ?_, ?_, fun b hb => ?_, ?_⟩
      · rw [← HX.out, HR.out]
      · rw [← HX.out]
        refine Fs.kp (S := fun k => k = w.heap.size) HFU.out ?_ (fun _ b hb e => by have := HFR.out b hb; have := hB.size; have := rR.1; omega)
        repeat (with_reducible refine Kp.setCell ?_ (.inl (by simp)) _)
        exact Kp.refl _ _
      · have := HFR.out b hb; have := hB.size; omega
      · have hBu := below_on hBx hu
        repeat (with_reducible refine Below.setCell ?_ (by simp) _)
        exact hBu
    | true =>
      have kV := fun (y : Lat (Below Wx.heap.size Wx)) => cV y.u y.h
      have kL := fun (y : Lat (Below Wx.heap.size Wx)) => cL y.u y.h hok
      rw [hok] at kV
      obtain ⟨N, hN⟩ : ∃ N : ByteArray, N = ⟨(Pa.lineA x).toArray⟩ := ⟨_, rfl⟩
      rw [← hN] at kL
      have heq : (N.toList == s.toList) = decide (Pa.lineA x = t) := by rw [hN, HTS.out]; exact str_eq_mk _ _
      have HRR : Hid (Pa.okR t = decide (Pa.lineA x = t)) := by rw [Hid, HOK.out, hok]; rfl
      unfold acV at kV kL
      clear hok cV cL hN
      by_cases hli : Pa.lineA x = t
      · rw [decide_eq_true hli] at heq
        have HR : Hid (Pa.okR t = true) := by rw [Hid, HRR.out, decide_eq_true hli]
        clear hli
        go_upto_region 17 with fail
        refine wp_region_G (fun w' => Below Wx.heap.size Wx w') 12 (by kernel_rfl) ?_
        have hSw : Below Wx.heap.size Wx Wx.drew := (Below.refl _ _).drew
        generalize Wx.drew = u at *
        refine anyG_take (i := 0) (oi := ⟨some 89, _, _, _, _, _⟩) (v := ?_) rfl (by kernel_rfl) (fun _ _ _ h => h) (Or.inl ⟨by rfl, ?yld⟩) hSw ?_
        case yld => intro w' hSw; have q0 := C0.out _ hSw; have q1 := C1.out _ hSw; have q2 := C2.out _ hSw; have q3 := C3.out _ hSw; have q4 := C4.out _ hSw; have q5 := C5.out _ hSw; have q6 := C6.out _ hSw; have q7 := C7.out _ hSw; have q8 := C8.out _ hSw; have q9 := C9.out _ hSw; have q10 := C10.out _ hSw; have q11 := C11.out _ hSw; have q12 := C12.out _ hSw; go_simp; try (with_reducible rfl)
        try simp only [Act.put, List.setIfInBounds_toArray, List.set_cons_zero, List.set_cons_succ]
        refine anyG_pure (i := 1) (oi := ⟨some 90, _, _, _, _, _⟩) (v := ?_) rfl (by kernel_rfl) (fun _ _ _ h => h) (Or.inl ⟨by rfl, ?yld⟩) (fun _ => hSw) ?_
        case yld => intro w' _; go_simp; try (with_reducible rfl)
        try simp only [Act.put, List.setIfInBounds_toArray, List.set_cons_zero, List.set_cons_succ]
        refine anyG_pure (i := 2) (oi := ⟨some 91, _, _, _, _, _⟩) (v := ?_) rfl (by kernel_rfl) (fun _ _ _ h => h) (Or.inl ⟨by rfl, ?yld⟩) (fun _ => hSw) ?_
        case yld => intro w' _; go_simp; try (with_reducible rfl)
        try simp only [Act.put, List.setIfInBounds_toArray, List.set_cons_zero, List.set_cons_succ]
        refine anyG_one_on (i := 3) (o := ⟨some 92, _, _, _, _, _⟩) (by kernel_rfl) (by rfl) (by rfl) ?_
        have q0 := C0.out _ hSw
        have q1 := C1.out _ hSw
        have q2 := C2.out _ hSw
        have q3 := C3.out _ hSw
        have q4 := C4.out _ hSw
        have q5 := C5.out _ hSw
        have q6 := C6.out _ hSw
        have q7 := C7.out _ hSw
        have q8 := C8.out _ hSw
        have q9 := C9.out _ hSw
        have q10 := C10.out _ hSw
        have q11 := C11.out _ hSw
        have q12 := C12.out _ hSw
        go_simp
        refine behG_mk (fun _ => hSw) ?_
        clear q0 q1 q2 q3 q4 q5 q6 q7 q8 q9 q10 q11 q12
        try simp only [Act.put, List.setIfInBounds_toArray, List.set_cons_zero, List.set_cons_succ]
        refine anyG_one_on (i := 4) (o := ⟨some 93, _, _, _, _, _⟩) (by kernel_rfl) (by rfl) (by rfl) ?_
        go_simp
        refine (kV ⟨_, hSw⟩).mono ?_
        rintro e u4 ⟨rfl, hbu4⟩
        have hSw := below_on hSw hbu4
        refine behG_mk (fun _ => hSw) ?_
        try simp only [Act.put, List.setIfInBounds_toArray, List.set_cons_zero, List.set_cons_succ]
        refine anyG_pure (i := 5) (oi := ⟨some 94, _, _, _, _, _⟩) (v := ?_) rfl (by kernel_rfl) (fun _ _ _ h => h) (Or.inl ⟨by rfl, ?yld⟩) (fun _ => hSw) ?_
        case yld => intro w' _; go_simp; try (with_reducible rfl)
        try simp only [Act.put, List.setIfInBounds_toArray, List.set_cons_zero, List.set_cons_succ]
        refine anyG_pure (i := 6) (oi := ⟨some 95, _, _, _, _, _⟩) (v := ?_) rfl (by kernel_rfl) (fun _ _ _ h => h) (Or.inl ⟨by rfl, ?yld⟩) (fun _ => hSw) ?_
        case yld => intro w' _; go_simp; try (with_reducible rfl)
        try simp only [Act.put, List.setIfInBounds_toArray, List.set_cons_zero, List.set_cons_succ]
        refine anyG_pure (i := 9) (oi := ⟨some 98, _, _, _, _, _⟩) (v := ?_) rfl (by kernel_rfl) (fun _ _ _ h => h) (Or.inl ⟨by rfl, ?yld⟩) (fun _ => hSw) ?_
        case yld => intro w' _; go_simp; try (with_reducible rfl)
        try simp only [Act.put, List.setIfInBounds_toArray, List.set_cons_zero, List.set_cons_succ]
        refine anyG_one_on (i := 7) (o := ⟨some 96, _, _, _, _, _⟩) (by kernel_rfl) (by rfl) (by rfl) ?_
        have q0 := C0.out _ hSw
        have q1 := C1.out _ hSw
        have q2 := C2.out _ hSw
        have q3 := C3.out _ hSw
        have q4 := C4.out _ hSw
        have q5 := C5.out _ hSw
        have q6 := C6.out _ hSw
        have q7 := C7.out _ hSw
        have q8 := C8.out _ hSw
        have q9 := C9.out _ hSw
        have q10 := C10.out _ hSw
        have q11 := C11.out _ hSw
        have q12 := C12.out _ hSw
        go_simp
        refine behG_mk (fun _ => hSw) ?_
        clear q0 q1 q2 q3 q4 q5 q6 q7 q8 q9 q10 q11 q12
        try simp only [Act.put, List.setIfInBounds_toArray, List.set_cons_zero, List.set_cons_succ]
        refine anyG_one_on (i := 8) (o := ⟨some 97, _, _, _, _, _⟩) (by kernel_rfl) (by rfl) (by rfl) ?_
        go_simp
        refine (kL ⟨_, hSw⟩).mono ?_
        rintro e u8 ⟨rfl, hbu8⟩
        have hSw := below_on hSw hbu8
        refine behG_mk (fun _ => hSw) ?_
        try simp only [Act.put, List.setIfInBounds_toArray, List.set_cons_zero, List.set_cons_succ]
        refine anyG_pure (i := 10) (oi := ⟨some 99, _, _, _, _, _⟩) (v := ?_) rfl (by kernel_rfl) (fun _ _ _ h => h) (Or.inl ⟨by rfl, ?yld⟩) (fun _ => hSw) ?_
        case yld => intro w' _; go_simp; try (with_reducible rfl)
        try simp only [Act.put, List.setIfInBounds_toArray, List.set_cons_zero, List.set_cons_succ]
        refine anyG_pure (i := 11) (oi := ⟨some 100, _, _, _, _, _⟩) (v := ?_) rfl (by kernel_rfl) (fun _ _ _ h => h) (Or.inl ⟨by rfl, ?yld⟩) (fun _ => hSw) ?_
        case yld => intro w' _; go_simp; try (with_reducible rfl)
        try simp only [Act.put, List.setIfInBounds_toArray, List.set_cons_zero, List.set_cons_succ]
        have hu := hSw
        obtain ⟨⟨d0, d1, d2, d3, d4, d5, d6, d7, d8, d9, d10, d11, d12⟩, ⟨g0, g1, g2, g3, g4, g5, g6, g7, g8, g9, g10, g11, g12⟩⟩ := (rRx.below hu).all13
        have HFU := Lib.hid (HFS.out.below hu)
        refine anyG_one_on (i := 12) (o := ⟨none, _, _, _, _, _⟩) (by kernel_rfl) (by rfl) (by rfl) ?_
        go_simp
        refine behG_mk (fun h => by cases h) ?_
        try simp only [Act.put, List.setIfInBounds_toArray, List.set_cons_zero, List.set_cons_succ]
        refine anyG_one_on (i := 13) (o := ⟨some 3, _, _, _, _, _⟩) (by kernel_rfl) (by rfl) (by rfl) ?_
        go_simp
        refine behG_mk (fun h => by cases h) ?_
        try simp only [Act.put, List.setIfInBounds_toArray, List.set_cons_zero, List.set_cons_succ]
        refine anyG_done (by kernel_rfl) ?_
        go_wp2
        refine bodyPost_ret (v := .tuple #[acV x (.slice fa x.fates.length fc), .bool true]) (by simp [results, Tryz.results40, go_sem, acV, d0, d1, d2, d3, d4, d5, d6, d7, d8, d9, d10, d11, d12]) rfl ⟨.slice fa x.fates.length fc, ?_, ?_, fun b hb => ?_, ?_⟩
        · rw [← HX.out, HR.out]
        · rw [← HX.out]
          refine Fs.kp (S := fun k => k = w.heap.size) HFU.out ?_ (fun _ b hb e => by have := HFR.out b hb; have := hB.size; have := rR.1; omega)
          repeat (with_reducible refine Kp.setCell ?_ (.inl (by simp)) _)
          exact Kp.refl _ _
        · have := HFR.out b hb; have := hB.size; omega
        · have hBu := below_on hBx hu
          repeat (with_reducible refine Below.setCell ?_ (by simp) _)
          exact hBu
      · rw [decide_eq_false hli] at heq
        have HR : Hid (Pa.okR t = false) := by rw [Hid, HRR.out, decide_eq_false hli]
        clear hli
        go_upto_region 17 with fail
        refine wp_region_G (fun w' => Below Wx.heap.size Wx w') 12 (by kernel_rfl) ?_
        have hSw : Below Wx.heap.size Wx Wx.drew := (Below.refl _ _).drew
        generalize Wx.drew = u at *
        refine anyG_take (i := 0) (oi := ⟨some 89, _, _, _, _, _⟩) (v := ?_) rfl (by kernel_rfl) (fun _ _ _ h => h) (Or.inl ⟨by rfl, ?yld⟩) hSw ?_
        case yld => intro w' hSw; have q0 := C0.out _ hSw; have q1 := C1.out _ hSw; have q2 := C2.out _ hSw; have q3 := C3.out _ hSw; have q4 := C4.out _ hSw; have q5 := C5.out _ hSw; have q6 := C6.out _ hSw; have q7 := C7.out _ hSw; have q8 := C8.out _ hSw; have q9 := C9.out _ hSw; have q10 := C10.out _ hSw; have q11 := C11.out _ hSw; have q12 := C12.out _ hSw; go_simp; try (with_reducible rfl)
        try simp only [Act.put, List.setIfInBounds_toArray, List.set_cons_zero, List.set_cons_succ]
        refine anyG_pure (i := 1) (oi := ⟨some 90, _, _, _, _, _⟩) (v := ?_) rfl (by kernel_rfl) (fun _ _ _ h => h) (Or.inl ⟨by rfl, ?yld⟩) (fun _ => hSw) ?_
        case yld => intro w' _; go_simp; try (with_reducible rfl)
        try simp only [Act.put, List.setIfInBounds_toArray, List.set_cons_zero, List.set_cons_succ]
        refine anyG_pure (i := 2) (oi := ⟨some 91, _, _, _, _, _⟩) (v := ?_) rfl (by kernel_rfl) (fun _ _ _ h => h) (Or.inl ⟨by rfl, ?yld⟩) (fun _ => hSw) ?_
        case yld => intro w' _; go_simp; try (with_reducible rfl)
        try simp only [Act.put, List.setIfInBounds_toArray, List.set_cons_zero, List.set_cons_succ]
        refine anyG_one_on (i := 3) (o := ⟨some 92, _, _, _, _, _⟩) (by kernel_rfl) (by rfl) (by rfl) ?_
        have q0 := C0.out _ hSw
        have q1 := C1.out _ hSw
        have q2 := C2.out _ hSw
        have q3 := C3.out _ hSw
        have q4 := C4.out _ hSw
        have q5 := C5.out _ hSw
        have q6 := C6.out _ hSw
        have q7 := C7.out _ hSw
        have q8 := C8.out _ hSw
        have q9 := C9.out _ hSw
        have q10 := C10.out _ hSw
        have q11 := C11.out _ hSw
        have q12 := C12.out _ hSw
        go_simp
        refine behG_mk (fun _ => hSw) ?_
        clear q0 q1 q2 q3 q4 q5 q6 q7 q8 q9 q10 q11 q12
        try simp only [Act.put, List.setIfInBounds_toArray, List.set_cons_zero, List.set_cons_succ]
        refine anyG_one_on (i := 4) (o := ⟨some 93, _, _, _, _, _⟩) (by kernel_rfl) (by rfl) (by rfl) ?_
        go_simp
        refine (kV ⟨_, hSw⟩).mono ?_
        rintro e u4 ⟨rfl, hbu4⟩
        have hSw := below_on hSw hbu4
        refine behG_mk (fun _ => hSw) ?_
        try simp only [Act.put, List.setIfInBounds_toArray, List.set_cons_zero, List.set_cons_succ]
        refine anyG_pure (i := 5) (oi := ⟨some 94, _, _, _, _, _⟩) (v := ?_) rfl (by kernel_rfl) (fun _ _ _ h => h) (Or.inl ⟨by rfl, ?yld⟩) (fun _ => hSw) ?_
        case yld => intro w' _; go_simp; try (with_reducible rfl)
        try simp only [Act.put, List.setIfInBounds_toArray, List.set_cons_zero, List.set_cons_succ]
        refine anyG_pure (i := 6) (oi := ⟨some 95, _, _, _, _, _⟩) (v := ?_) rfl (by kernel_rfl) (fun _ _ _ h => h) (Or.inl ⟨by rfl, ?yld⟩) (fun _ => hSw) ?_
        case yld => intro w' _; go_simp; try (with_reducible rfl)
        try simp only [Act.put, List.setIfInBounds_toArray, List.set_cons_zero, List.set_cons_succ]
        refine anyG_pure (i := 9) (oi := ⟨some 98, _, _, _, _, _⟩) (v := ?_) rfl (by kernel_rfl) (fun _ _ _ h => h) (Or.inl ⟨by rfl, ?yld⟩) (fun _ => hSw) ?_
        case yld => intro w' _; go_simp; try (with_reducible rfl)
        try simp only [Act.put, List.setIfInBounds_toArray, List.set_cons_zero, List.set_cons_succ]
        refine anyG_one_on (i := 7) (o := ⟨some 96, _, _, _, _, _⟩) (by kernel_rfl) (by rfl) (by rfl) ?_
        have q0 := C0.out _ hSw
        have q1 := C1.out _ hSw
        have q2 := C2.out _ hSw
        have q3 := C3.out _ hSw
        have q4 := C4.out _ hSw
        have q5 := C5.out _ hSw
        have q6 := C6.out _ hSw
        have q7 := C7.out _ hSw
        have q8 := C8.out _ hSw
        have q9 := C9.out _ hSw
        have q10 := C10.out _ hSw
        have q11 := C11.out _ hSw
        have q12 := C12.out _ hSw
        go_simp
        refine behG_mk (fun _ => hSw) ?_
        clear q0 q1 q2 q3 q4 q5 q6 q7 q8 q9 q10 q11 q12
        try simp only [Act.put, List.setIfInBounds_toArray, List.set_cons_zero, List.set_cons_succ]
        refine anyG_one_on (i := 8) (o := ⟨some 97, _, _, _, _, _⟩) (by kernel_rfl) (by rfl) (by rfl) ?_
        go_simp
        refine (kL ⟨_, hSw⟩).mono ?_
        rintro e u8 ⟨rfl, hbu8⟩
        have hSw := below_on hSw hbu8
        refine behG_mk (fun _ => hSw) ?_
        try simp only [Act.put, List.setIfInBounds_toArray, List.set_cons_zero, List.set_cons_succ]
        refine anyG_pure (i := 10) (oi := ⟨some 99, _, _, _, _, _⟩) (v := ?_) rfl (by kernel_rfl) (fun _ _ _ h => h) (Or.inl ⟨by rfl, ?yld⟩) (fun _ => hSw) ?_
        case yld => intro w' _; go_simp; try (with_reducible rfl)
        try simp only [Act.put, List.setIfInBounds_toArray, List.set_cons_zero, List.set_cons_succ]
        refine anyG_pure (i := 11) (oi := ⟨some 100, _, _, _, _, _⟩) (v := ?_) rfl (by kernel_rfl) (fun _ _ _ h => h) (Or.inl ⟨by rfl, ?yld⟩) (fun _ => hSw) ?_
        case yld => intro w' _; go_simp; try (with_reducible rfl)
        try simp only [Act.put, List.setIfInBounds_toArray, List.set_cons_zero, List.set_cons_succ]
        have hu := hSw
        obtain ⟨⟨d0, d1, d2, d3, d4, d5, d6, d7, d8, d9, d10, d11, d12⟩, ⟨g0, g1, g2, g3, g4, g5, g6, g7, g8, g9, g10, g11, g12⟩⟩ := (rRx.below hu).all13
        have HFU := Lib.hid (HFS.out.below hu)
        refine anyG_one_on (i := 12) (o := ⟨none, _, _, _, _, _⟩) (by kernel_rfl) (by rfl) (by rfl) ?_
        go_simp
        refine behG_mk (fun h => by cases h) ?_
        try simp only [Act.put, List.setIfInBounds_toArray, List.set_cons_zero, List.set_cons_succ]
        refine anyG_one_on (i := 13) (o := ⟨some 3, _, _, _, _, _⟩) (by kernel_rfl) (by rfl) (by rfl) ?_
        go_simp
        refine behG_mk (fun h => by cases h) ?_
        try simp only [Act.put, List.setIfInBounds_toArray, List.set_cons_zero, List.set_cons_succ]
        refine anyG_done (by kernel_rfl) ?_
        go_wp2
        refine bodyPost_ret (v := .tuple #[acV x (.slice fa x.fates.length fc), .bool false]) (by simp [results, Tryz.results40, go_sem, acV, d0, d1, d2, d3, d4, d5, d6, d7, d8, d9, d10, d11, d12]) rfl ⟨.slice fa x.fates.length fc, ?_, ?_, fun b hb => ?_, ?_⟩
        · rw [← HX.out, HR.out]
        · rw [← HX.out]
          refine Fs.kp (S := fun k => k = w.heap.size) HFU.out ?_ (fun _ b hb e => by have := HFR.out b hb; have := hB.size; have := rR.1; omega)
          repeat (with_reducible refine Kp.setCell ?_ (.inl (by simp)) _)
          exact Kp.refl _ _
        · have := HFR.out b hb; have := hB.size; omega
        · have hBu := below_on hBx hu
          repeat (with_reducible refine Below.setCell ?_ (by simp) _)
          exact hBu

end Go.Proofs.YtgajoiijebbagaaGreatDoor
