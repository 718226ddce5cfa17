/-
  The walk of the generator ActOf where it makes fates. Conditions: the raw numbers are numbers of 64 bits, the raw fates lie in memory.
-/
import Derived.Test.YtgajoiijebbagaaGreatDoorGe3
import Derived.Test.YtgajoiijebbagaaGreatDoorGo
namespace Go.Proofs.YtgajoiijebbagaaGreatDoor
open Go.RowKit Go.Proofs

theorem fate_rows (w : World) (kd cl ho so ad po n : Int) (va : Option Addr) (ca : Nat) (fs : List Int) (s : ByteArray) : RowAt w.heap.size #[.int .i64 kd, .int .i64 cl, .int .i64 ho, .int .i64 so, .int .i64 ad, .int .i64 po, .int .i64 n, (.slice va fs.length ca), .string s].toList (((w.alloc (.cells #[.int .i64 kd, .int .i64 cl, .int .i64 ho, .int .i64 so, .int .i64 ad, .int .i64 po, .int .i64 n, (.slice va fs.length ca), .string s] 54)).alloc (.cells #[.int .i64 0, .int .i64 0, .int .i64 0, .int .i64 0, .int .i64 0, .int .i64 0, .int .i64 0, .string ⟨#[]⟩, .int .i64 0, .int .i64 0, .int .i64 0, .slice none 0 0, .string ⟨#[]⟩] 27)).alloc (.cells #[.int .i64 3, .int .i64 0, .int .i64 0, .int .i64 0, .int .i64 0, .int .i64 0, .int .i64 0, .string ⟨#[]⟩, .int .i64 0, .int .i64 0, .int .i64 0, .slice none 0 0, .string ⟨#[]⟩] 27)) ∧ RowAt (w.heap.size + 1) (acCells Pa.a0 (.slice none 0 0)) (((w.alloc (.cells #[.int .i64 kd, .int .i64 cl, .int .i64 ho, .int .i64 so, .int .i64 ad, .int .i64 po, .int .i64 n, (.slice va fs.length ca), .string s] 54)).alloc (.cells #[.int .i64 0, .int .i64 0, .int .i64 0, .int .i64 0, .int .i64 0, .int .i64 0, .int .i64 0, .string ⟨#[]⟩, .int .i64 0, .int .i64 0, .int .i64 0, .slice none 0 0, .string ⟨#[]⟩] 27)).alloc (.cells #[.int .i64 3, .int .i64 0, .int .i64 0, .int .i64 0, .int .i64 0, .int .i64 0, .int .i64 0, .string ⟨#[]⟩, .int .i64 0, .int .i64 0, .int .i64 0, .slice none 0 0, .string ⟨#[]⟩] 27)) ∧ RowAt (w.heap.size + 1 + 1) (acCells ⟨3, 0, ⟨0, 0, 0, 0, 0, ⟨#[]⟩, 0, 0⟩, 0, [], ⟨#[]⟩⟩ (.slice none 0 0)) (((w.alloc (.cells #[.int .i64 kd, .int .i64 cl, .int .i64 ho, .int .i64 so, .int .i64 ad, .int .i64 po, .int .i64 n, (.slice va fs.length ca), .string s] 54)).alloc (.cells #[.int .i64 0, .int .i64 0, .int .i64 0, .int .i64 0, .int .i64 0, .int .i64 0, .int .i64 0, .string ⟨#[]⟩, .int .i64 0, .int .i64 0, .int .i64 0, .slice none 0 0, .string ⟨#[]⟩] 27)).alloc (.cells #[.int .i64 3, .int .i64 0, .int .i64 0, .int .i64 0, .int .i64 0, .int .i64 0, .int .i64 0, .string ⟨#[]⟩, .int .i64 0, .int .i64 0, .int .i64 0, .slice none 0 0, .string ⟨#[]⟩] 27)) ∧ Below w.heap.size w (((w.alloc (.cells #[.int .i64 kd, .int .i64 cl, .int .i64 ho, .int .i64 so, .int .i64 ad, .int .i64 po, .int .i64 n, (.slice va fs.length ca), .string s] 54)).alloc (.cells #[.int .i64 0, .int .i64 0, .int .i64 0, .int .i64 0, .int .i64 0, .int .i64 0, .int .i64 0, .string ⟨#[]⟩, .int .i64 0, .int .i64 0, .int .i64 0, .slice none 0 0, .string ⟨#[]⟩] 27)).alloc (.cells #[.int .i64 3, .int .i64 0, .int .i64 0, .int .i64 0, .int .i64 0, .int .i64 0, .int .i64 0, .string ⟨#[]⟩, .int .i64 0, .int .i64 0, .int .i64 0, .slice none 0 0, .string ⟨#[]⟩] 27)) := by
  obtain ⟨h1, h2, h3⟩ := rw_rows w kd cl ho so ad po n (.slice va fs.length ca) s
  refine ⟨h1.below ((Below.refl _ _).alloc (Nat.le_refl _) _), h2.below ((Below.refl _ _).alloc (Nat.le_refl _) _), ?_, h3.alloc (by simp; omega) _⟩
  have := RowAt.new ((w.alloc (.cells #[.int .i64 kd, .int .i64 cl, .int .i64 ho, .int .i64 so, .int .i64 ad, .int .i64 po, .int .i64 n, (.slice va fs.length ca), .string s] 54)).alloc (.cells #[.int .i64 0, .int .i64 0, .int .i64 0, .int .i64 0, .int .i64 0, .int .i64 0, .int .i64 0, .string ⟨#[]⟩, .int .i64 0, .int .i64 0, .int .i64 0, .slice none 0 0, .string ⟨#[]⟩] 27)) #[.int .i64 3, .int .i64 0, .int .i64 0, .int .i64 0, .int .i64 0, .int .i64 0, .int .i64 0, .string ⟨#[]⟩, .int .i64 0, .int .i64 0, .int .i64 0, .slice none 0 0, .string ⟨#[]⟩] 27
  rw [World.size_alloc, World.size_alloc] at this
  exact this

/-- What one round leaves. -/
theorem gen_step {w w5 w6 : World} {xs cs : List Value} {k : Nat} {l : List Int} {n : Int} {gv : Value} {o : Obj} {g1 cap1 : Nat} (hX : RowAt w.heap.size xs w5) (hZ : RowAt (w.heap.size + 1) cs w5) (hP : RowAt (w.heap.size + 1 + 1) (acCells ⟨3, 0, ⟨0, 0, 0, 0, 0, ⟨#[]⟩, 0, 0⟩, 0, [], ⟨#[]⟩⟩ gv) w5) (hB : Below w.heap.size w w5)
    (hO : w5.ownsRow (w.heap.size + 3) 3 1 gv k (l.map (Value.int .i64))) (hown : w6.ownsRow (w.heap.size + 3) 3 1 (.slice (some ⟨g1, 0, none⟩) (k + 1) cap1) (k + 1) (l.map (Value.int .i64) ++ [.int .i64 n])) (hg : (w5.alloc o).grownBy w6 gv.ownBlock) :
    RowAt w.heap.size xs (w6.setCell ⟨w.heap.size + 1 + 1, 11, none⟩ (.slice (some ⟨g1, 0, none⟩) (k + 1) cap1)) ∧
    RowAt (w.heap.size + 1) cs (w6.setCell ⟨w.heap.size + 1 + 1, 11, none⟩ (.slice (some ⟨g1, 0, none⟩) (k + 1) cap1)) ∧
    RowAt (w.heap.size + 1 + 1) (acCells ⟨3, 0, ⟨0, 0, 0, 0, 0, ⟨#[]⟩, 0, 0⟩, 0, [], ⟨#[]⟩⟩ (.slice (some ⟨g1, 0, none⟩) (k + 1) cap1)) (w6.setCell ⟨w.heap.size + 1 + 1, 11, none⟩ (.slice (some ⟨g1, 0, none⟩) (k + 1) cap1)) ∧
    (w6.setCell ⟨w.heap.size + 1 + 1, 11, none⟩ (.slice (some ⟨g1, 0, none⟩) (k + 1) cap1)).ownsRow (w.heap.size + 3) 3 1 (.slice (some ⟨g1, 0, none⟩) (k + 1) cap1) (k + 1) ((l ++ [n]).map (Value.int .i64)) ∧
    Below w.heap.size w (w6.setCell ⟨w.heap.size + 1 + 1, 11, none⟩ (.slice (some ⟨g1, 0, none⟩) (k + 1) cap1)) := by
  have hb := (Below.refl w5.heap.size w5).alloc (Nat.le_refl _) o
  have kg := Kp.of_grown hg
  have nb : ∀ k, k < w.heap.size + 3 → ¬ gv.ownBlock = some k := fun k hk e => by have := owns_base hO e; omega
  have ks := Kp.set w6 (w.heap.size + 1 + 1) 11 (.slice (some ⟨g1, 0, none⟩) (k + 1) cap1)
  refine ⟨((hX.below hb).kp kg (nb _ (by omega))).kp ks (by show ¬ _ = _; omega), ((hZ.below hb).kp kg (nb _ (by omega))).kp ks (by show ¬ _ = _; omega), ((hP.below hb).kp kg (nb _ (by omega))).set 11 (by simp [acCells]) _, ?_, ?_⟩
  · rw [List.map_append]
    exact owns_kp hown ks (by intro g hg; show ¬ g = _; omega)
  · exact (hB.trans ((hb.mono hB.size).trans (kg.below (Nat.le_trans hB.size hb.size) (fun k hk => nb k (by omega))))).setCell (p := ⟨w.heap.size + 1 + 1, 11, none⟩) (by show _ ≤ w.heap.size + 1 + 1; omega) _

set_option linter.unusedSimpArgs false in
set_option maxRecDepth 100000 in
set_option maxHeartbeats 800000 in
theorem actOf_1 (x : Pa.Rw) (fv : Value) (w : World) (hx : RwOk x) (hf : Fs w fv x.fates) (hk : Pa.pickI x.kind 5 = 1) :
    Calls Tryz.prog 24 #[rwV x fv] w (GOut (Pa.actOf x) w) := by
  obtain ⟨kd, cl, ho, so, ad, po, n, fs, s⟩ := x
  have HX := Lib.hid hx
  obtain ⟨⟨a0, a1⟩, ⟨b0, b1⟩, ⟨c0, c1⟩, ⟨d0, d1⟩, ⟨e0, e1⟩, ⟨f0, f1⟩, ⟨g0, g1⟩, hs, hff⟩ := hx
  simp only at a0 a1 b0 b1 c0 c1 d0 d1 e0 e1 f0 f1 g0 g1 hs hff hk hf
  unfold rwV
  have hc := pick27_any kd 5
  rw [hk] at hc
  have hA : Pa.actOf ⟨kd, cl, ho, so, ad, po, n, fs, s⟩ = ⟨3, 0, ⟨0, 0, 0, 0, 0, ⟨#[]⟩, 0, 0⟩, 0, (fs.take 64).map fun f => Pa.pickI f 25, ⟨#[]⟩⟩ := by simp [Pa.actOf, hk, Pa.a0, Pa.c0]
  obtain ⟨L, hL⟩ : ∃ L, L = (fs.take 64).map fun f => Pa.pickI f 25 := ⟨_, rfl⟩
  rw [hA, ← hL]
  have HL := Lib.hid hL
  clear hA hL
  have HF := Lib.hid hf
  obtain ⟨va, ca, rfl, -⟩ := hf
  obtain ⟨i0, hi0, hz0, hz1, hz2⟩ := info_parts infoI
  obtain ⟨r0, r1, r2, hB⟩ := fate_rows w kd cl ho so ad po n va ca fs s
  go_enter Tryz.func24, Tryz.ntmps24
  go_wp2_with (go_at_call 11; with_reducible (refine (hc _ a0 a1 (by decide) (by decide)).mono ?_); rintro e w' ⟨rfl, rfl⟩)
  go_loopw [4] (fun i wr => ∃ (k : Nat) (gv : Value), k ≤ fs.length ∧ k ≤ 64 ∧ i = .int .i64 k ∧ RowAt w.heap.size #[.int .i64 kd, .int .i64 cl, .int .i64 ho, .int .i64 so, .int .i64 ad, .int .i64 po, .int .i64 n, (.slice va fs.length ca), .string s].toList wr ∧ RowAt (w.heap.size + 1) (acCells Pa.a0 (.slice none 0 0)) wr ∧ RowAt (w.heap.size + 1 + 1) (acCells ⟨3, 0, ⟨0, 0, 0, 0, 0, ⟨#[]⟩, 0, 0⟩, 0, [], ⟨#[]⟩⟩ gv) wr ∧ wr.ownsRow (w.heap.size + 3) 3 1 gv k (((fs.take k).map fun f => Pa.pickI f 25).map (Value.int .i64)) ∧ Below w.heap.size w wr) (fun i _ => 64 - (intOf i).toNat)
  case atStart => exact ⟨0, .slice none 0 0, Nat.zero_le _, Nat.zero_le _, rfl, r0, r1, r2, World.ownsRow_nil _ _ _ _, hB⟩
  case round =>
    obtain ⟨k, gv, hk1, hk2, rfl, hX, hZ, hP, hO, hBr⟩ := hrel
    have HB := Lib.hid hB
    clear r0 r1 r2 hB
    obtain ⟨gp, gc, rfl⟩ := owns_slice hO
    have ⟨x0, xf0⟩ := hX.2 0 _ rfl
    have ⟨x1, xf1⟩ := hX.2 1 _ rfl
    have ⟨x2, xf2⟩ := hX.2 2 _ rfl
    have ⟨x3, xf3⟩ := hX.2 3 _ rfl
    have ⟨x4, xf4⟩ := hX.2 4 _ rfl
    have ⟨x5, xf5⟩ := hX.2 5 _ rfl
    have ⟨x6, xf6⟩ := hX.2 6 _ rfl
    have ⟨x7, xf7⟩ := hX.2 7 _ rfl
    have ⟨x8, xf8⟩ := hX.2 8 _ rfl
    have ⟨p0, pf0⟩ := hP.2 0 _ rfl
    have ⟨p1, pf1⟩ := hP.2 1 _ rfl
    have ⟨p2, pf2⟩ := hP.2 2 _ rfl
    have ⟨p3, pf3⟩ := hP.2 3 _ rfl
    have ⟨p4, pf4⟩ := hP.2 4 _ rfl
    have ⟨p5, pf5⟩ := hP.2 5 _ rfl
    have ⟨p6, pf6⟩ := hP.2 6 _ rfl
    have ⟨p7, pf7⟩ := hP.2 7 _ rfl
    have ⟨p8, pf8⟩ := hP.2 8 _ rfl
    have ⟨p9, pf9⟩ := hP.2 9 _ rfl
    have ⟨p10, pf10⟩ := hP.2 10 _ rfl
    have ⟨p11, pf11⟩ := hP.2 11 _ rfl
    have ⟨p12, pf12⟩ := hP.2 12 _ rfl
    by_cases hlt : k < fs.length
    · by_cases h64 : k < 64
      · have hpk := pick27_any fs[k] 25
        have hin := hff.2 fs[k] (List.getElem_mem hlt)
        obtain ⟨va', ca', hv, hcs⟩ := HF.out
        cases hv
        obtain ⟨b, o, rfl, hbl, hcell⟩ := hcs (fun e => by simp [e] at hlt)
        have hck := cell_below hBr hbl (hcell k hlt)
        clear hcell hcs
        go_wp2_with fail
        have hb1 : (0 : Int) ≤ (k : Int) := by omega
        have hb2 : (k : Int) < (fs.length : Int) := by omega
        have hS : (fun w' : World => w'.cell? ⟨w.heap.size, 7, none⟩ = some (.slice (some ⟨b, o, none⟩) fs.length ca) ∧ w'.cell? ⟨w.heap.size + 1 + 1, 11, none⟩ = some (.slice gp k gc) ∧ w'.cell? ⟨b, o + k, none⟩ = some (.int .i64 fs[k])) wr.drew := ⟨x7, p11, hck⟩
        have hOd := owns_below hO (Below.refl _ _).drew
        have hXd := hX.below (Below.refl _ _).drew
        have hZd := hZ.below (Below.refl _ _).drew
        have hPd := hP.below (Below.refl _ _).drew
        have hBd := hBr.drew
        clear x0 xf0 x1 xf1 x2 xf2 x3 xf3 x4 xf4 x5 xf5 x6 xf6 x7 xf7 x8 xf8 p0 pf0 p1 pf1 p2 pf2 p3 pf3 p4 pf4 p5 pf5 p6 pf6 p7 pf7 p8 pf8 p9 pf9 p10 pf10 p11 pf11 p12 pf12 hO hX hZ hP hBr hck
        refine wp_region_G (fun w' => w'.cell? ⟨w.heap.size, 7, none⟩ = some (.slice (some ⟨b, o, none⟩) fs.length ca) ∧ w'.cell? ⟨w.heap.size + 1 + 1, 11, none⟩ = some (.slice gp k gc) ∧ w'.cell? ⟨b, o + k, none⟩ = some (.int .i64 fs[k])) 10 (by kernel_rfl) ?_
        have hbW : b < wr.drew.heap.size := Nat.lt_of_lt_of_le hbl hBd.size
        generalize wr.drew = W0 at *
        refine anyG_take (i := 0) (v := ?_) rfl (by kernel_rfl) (fun _ _ _ h => h) (Or.inl ⟨by rfl, ?yld⟩) hS ?_
        case yld => intro w hSw; obtain ⟨s1, s2, s3⟩ := hSw; go_simp; try (with_reducible rfl)
        try simp only [Act.put, List.setIfInBounds_toArray, List.set_cons_zero, List.set_cons_succ]
        refine anyG_take (i := 1) (v := ?_) rfl (by kernel_rfl) (fun _ _ _ h => h) (Or.inl ⟨by rfl, ?yld⟩) hS ?_
        case yld => intro w hSw; obtain ⟨s1, s2, s3⟩ := hSw; go_simp; try (with_reducible rfl)
        try simp only [Act.put, List.setIfInBounds_toArray, List.set_cons_zero, List.set_cons_succ]
        refine anyG_take (i := 2) (v := ?_) rfl (by kernel_rfl) (fun _ _ _ h => h) (Or.inl ⟨by rfl, ?yld⟩) hS ?_
        case yld => intro w hSw; obtain ⟨s1, s2, s3⟩ := hSw; go_simp; try (with_reducible rfl)
        try simp only [Act.put, List.setIfInBounds_toArray, List.set_cons_zero, List.set_cons_succ]
        refine anyG_take (i := 3) (v := ?_) rfl (by kernel_rfl) (fun _ _ _ h => h) (Or.inl ⟨by rfl, ?yld⟩) hS ?_
        case yld => intro w hSw; obtain ⟨s1, s2, s3⟩ := hSw; go_simp; try (with_reducible rfl)
        try simp only [Act.put, List.setIfInBounds_toArray, List.set_cons_zero, List.set_cons_succ]
        refine anyG_take (i := 4) (v := ?_) rfl (by kernel_rfl) (fun _ _ _ h => h) (Or.inl ⟨by rfl, ?yld⟩) hS ?_
        case yld => intro w hSw; obtain ⟨s1, s2, s3⟩ := hSw; go_simp; try (with_reducible rfl)
        try simp only [Act.put, List.setIfInBounds_toArray, List.set_cons_zero, List.set_cons_succ]
        refine anyG_take (i := 5) (v := ?_) rfl (by kernel_rfl) (fun _ _ _ h => h) (Or.inl ⟨by rfl, ?yld⟩) hS ?_
        case yld => intro w hSw; obtain ⟨s1, s2, s3⟩ := hSw; go_simp; try (with_reducible rfl)
        try simp only [Act.put, List.setIfInBounds_toArray, List.set_cons_zero, List.set_cons_succ]
        refine anyG_take (i := 6) (v := ?_) rfl (by kernel_rfl) (fun _ _ _ h => h) (Or.inl ⟨by rfl, ?yld⟩) hS ?_
        case yld => intro w hSw; obtain ⟨s1, s2, s3⟩ := hSw; go_simp; try (with_reducible rfl)
        try simp only [Act.put, List.setIfInBounds_toArray, List.set_cons_zero, List.set_cons_succ]
        refine anyG_one (i := 7) (by kernel_rfl) (by rfl) (by rfl) ?_
        go_simp
        refine (hpk _ hin.1 hin.2 (by decide) (by decide)).mono ?_
        rintro e u1 ⟨rfl, rfl⟩
        refine behG_mk (fun _ => hS) ?_
        try simp only [Act.put, List.setIfInBounds_toArray, List.set_cons_zero, List.set_cons_succ]
        refine anyG_one (i := 8) (by kernel_rfl) (by rfl) (by rfl) ?_
        go_simp
        refine behG_mk (fun _ => ⟨cell_old _ hXd.1 hS.1, cell_old _ hPd.1 hS.2.1, cell_old _ hbW hS.2.2⟩) ?_
        try simp only [Act.put, List.setIfInBounds_toArray, List.set_cons_zero, List.set_cons_succ]
        refine anyG_one (i := 9) (by kernel_rfl) (by rfl) (by rfl) ?_
        refine wp_append_lies _ (.tmp 30) (.tmp 37) 25 (by rfl) (w.heap.size + 3) 3 i0 (.int .i64 0) 1 8 Tryz.underlying25 hi0 hz0 hz1 hz2 rfl (by decide) _ k _ (by rfl) (owns_below hOd ((Below.refl _ _).alloc (Nat.le_refl _) _)) ⟨W0.heap.size, 0, none⟩ 1 1 [.int .i64 (Pa.pickI fs[k] 25)] (by rfl) (by simp) (World.news_of_block (heap_alloc_new _ _)) (by simp [Value.oneCell']) (by omega) (by unfold maxLen; omega) (by omega) (by have := hPd.1; simp; omega) (W0.heap.size + 1) (by simp) ?_
        intro g1 cap1 w6 hown6 hgrow hat hlt6
        have hst := gen_step hXd hZd hPd hBd hOd hown6 hgrow
        have kg := Kp.of_grown hgrow
        have hgb : ∀ g, (Value.slice gp k gc).ownBlock = some g → w.heap.size + 3 ≤ g := fun g e => owns_base hOd e
        have hP6 := (hPd.below ((Below.refl _ _).alloc (Nat.le_refl _) _)).kp kg (fun e => by have := hgb _ e; omega)
        refine behG_mk (fun _ => ⟨?_, ?_, ?_⟩) ?_
        · exact (kg.cell (Nat.lt_of_lt_of_le hXd.1 (by simp)) (fun e => by have := hgb _ e; omega)).trans (cell_old _ hXd.1 hS.1)
        · exact (hP6.2 11 _ rfl).1
        · exact (kg.cell (Nat.lt_of_lt_of_le hbW (by simp)) (fun e => by have := hgb _ e; omega)).trans (cell_old _ hbW hS.2.2)
        try simp only [Act.put, List.setIfInBounds_toArray, List.set_cons_zero, List.set_cons_succ]
        refine anyG_one (i := 10) (by kernel_rfl) (by rfl) (by rfl) ?_
        go_simp
        refine behG_mk (fun h => absurd h (by decide)) ?_
        try simp only [Act.put, List.setIfInBounds_toArray, List.set_cons_zero, List.set_cons_succ]
        have ⟨q11, qf11⟩ := hP6.2 11 _ rfl
        refine anyG_one (i := 11) (by kernel_rfl) (by rfl) (by rfl) ?_
        go_simp
        refine behG_mk (fun h => absurd h (by decide)) (anyG_done (by kernel_rfl) ?_)
        have hw7s := hP6.1
        obtain ⟨j1, j2, j3, j4, j5⟩ := hst
        have JO : Hid ((w6.setCell ⟨w.heap.size + 1 + 1, 11, none⟩ (.slice (some ⟨g1, 0, none⟩) (k + 1) cap1)).ownsRow (w.heap.size + 3) 3 1 (.slice (some ⟨g1, 0, none⟩) (k + 1) cap1) (k + 1) (((fs.take (k + 1)).map fun f => Pa.pickI f 25).map (Value.int .i64))) := by
          rw [Hid, List.take_succ_eq_append_getElem hlt, List.map_append]; exact j4
        have J1 := Lib.hid j1
        have J2 := Lib.hid j2
        have J3 := Lib.hid j3
        have J5 := Lib.hid j5
        clear j1 j2 j3 j4 j5 hown6 hgrow kg hP6 q11 qf11 hS hOd hXd hZd hPd hBd hat
        generalize w6.setCell ⟨w.heap.size + 1 + 1, 11, none⟩ (.slice (some ⟨g1, 0, none⟩) (k + 1) cap1) = w7 at *
        go_wp2
        go_roundw
        case rel => exact ⟨k + 1, _, by omega, by omega, by go_num, J1.out, J2.out, J3.out, JO.out, J5.out⟩
        case measure => simp [intOf]; omega
      · have hf1 : (k : Int) < (fs.length : Int) := by omega
        have hf2 : ¬ (k : Int) < 64 := by omega
        have ⟨z0, zf0⟩ := hZ.2 0 _ rfl
        have ⟨z1, zf1⟩ := hZ.2 1 _ rfl
        have ⟨z2, zf2⟩ := hZ.2 2 _ rfl
        have ⟨z3, zf3⟩ := hZ.2 3 _ rfl
        have ⟨z4, zf4⟩ := hZ.2 4 _ rfl
        have ⟨z5, zf5⟩ := hZ.2 5 _ rfl
        have ⟨z6, zf6⟩ := hZ.2 6 _ rfl
        have ⟨z7, zf7⟩ := hZ.2 7 _ rfl
        have ⟨z8, zf8⟩ := hZ.2 8 _ rfl
        have ⟨z9, zf9⟩ := hZ.2 9 _ rfl
        have ⟨z10, zf10⟩ := hZ.2 10 _ rfl
        have ⟨z11, zf11⟩ := hZ.2 11 _ rfl
        have ⟨z12, zf12⟩ := hZ.2 12 _ rfl
        go_wp2
        show bodyPost _ _ _ _ _ (stA (w.heap.size + 1) ⟨3, 0, ⟨0, 0, 0, 0, 0, ⟨#[]⟩, 0, 0⟩, 0, L, ⟨#[]⟩⟩ (.slice gp k gc) wr)
        have hOs := owns_kp hO (stA_kp (w.heap.size + 1) ⟨3, 0, ⟨0, 0, 0, 0, 0, ⟨#[]⟩, 0, 0⟩, 0, L, ⟨#[]⟩⟩ (.slice gp k gc) wr) (by intro g hg; show ¬ g = _; omega)
        have hke : fs.take k = fs.take 64 := (by rw [(by omega : k = 64)])
        rw [hke, ← HL.out] at hOs
        have hkl : k = L.length := by rw [HL.out, List.length_map, ← hke]; simp; omega
        refine act_ret (B := w.heap.size + 1) rfl (RowAt.stA hZ) ⟨_, rfl, fs_own (base := w.heap.size + 3) (by rw [← hkl]; exact hOs), fun b h => by have := owns_base hOs h; omega, hBr.trans ((stA_kp _ _ _ _).below hBr.size (by intro k hk; show ¬ _ = _; omega))⟩
    · have hf1 : ¬ (k : Int) < (fs.length : Int) := by omega
      have ⟨z0, zf0⟩ := hZ.2 0 _ rfl
      have ⟨z1, zf1⟩ := hZ.2 1 _ rfl
      have ⟨z2, zf2⟩ := hZ.2 2 _ rfl
      have ⟨z3, zf3⟩ := hZ.2 3 _ rfl
      have ⟨z4, zf4⟩ := hZ.2 4 _ rfl
      have ⟨z5, zf5⟩ := hZ.2 5 _ rfl
      have ⟨z6, zf6⟩ := hZ.2 6 _ rfl
      have ⟨z7, zf7⟩ := hZ.2 7 _ rfl
      have ⟨z8, zf8⟩ := hZ.2 8 _ rfl
      have ⟨z9, zf9⟩ := hZ.2 9 _ rfl
      have ⟨z10, zf10⟩ := hZ.2 10 _ rfl
      have ⟨z11, zf11⟩ := hZ.2 11 _ rfl
      have ⟨z12, zf12⟩ := hZ.2 12 _ rfl
      go_wp2
      show bodyPost _ _ _ _ _ (stA (w.heap.size + 1) ⟨3, 0, ⟨0, 0, 0, 0, 0, ⟨#[]⟩, 0, 0⟩, 0, L, ⟨#[]⟩⟩ (.slice gp k gc) wr)
      have hOs := owns_kp hO (stA_kp (w.heap.size + 1) ⟨3, 0, ⟨0, 0, 0, 0, 0, ⟨#[]⟩, 0, 0⟩, 0, L, ⟨#[]⟩⟩ (.slice gp k gc) wr) (by intro g hg; show ¬ g = _; omega)
      have hke : fs.take k = fs.take 64 := (by rw [List.take_of_length_le (by omega), List.take_of_length_le (by omega)])
      rw [hke, ← HL.out] at hOs
      have hkl : k = L.length := by rw [HL.out, List.length_map, ← hke]; simp; omega
      refine act_ret (B := w.heap.size + 1) rfl (RowAt.stA hZ) ⟨_, rfl, fs_own (base := w.heap.size + 3) (by rw [← hkl]; exact hOs), fun b h => by have := owns_base hOs h; omega, hBr.trans ((stA_kp _ _ _ _).below hBr.size (by intro k hk; show ¬ _ = _; omega))⟩

theorem actOf_any (x : Pa.Rw) (fv : Value) (w : World) (hx : RwOk x) (hf : Fs w fv x.fates) :
    Calls Tryz.prog 24 #[rwV x fv] w (GOut (Pa.actOf x) w) := by
  have hp := Pa.pick_in x.kind (n := 5) (by decide)
  rcases (by omega : Pa.pickI x.kind 5 = 0 ∨ Pa.pickI x.kind 5 = 1 ∨ Pa.pickI x.kind 5 = 2 ∨ Pa.pickI x.kind 5 = 3 ∨ Pa.pickI x.kind 5 = 4) with h | h | h | h | h
  · exact actOf_0 x fv w hx hf h
  · exact actOf_1 x fv w hx hf h
  · exact actOf_2 x fv w hx hf h
  · exact actOf_3 x fv w hx hf (Or.inl h)
  · exact actOf_3 x fv w hx hf (Or.inr h)

end Go.Proofs.YtgajoiijebbagaaGreatDoor
