/-
  The walk of the generator ActOf: it returns the generated action, its fates in new memory, and what was there before it is unchanged. Conditions: the raw numbers are numbers of 64 bits, the raw fates lie in memory.
-/
import Derived.Test.YtgajoiijebbagaaGreatDoorGe2
import Derived.Test.YtgajoiijebbagaaGreatDoorPs
namespace Go.Proofs.YtgajoiijebbagaaGreatDoor
open Go.RowKit Go.Proofs

/-- An action's cells written over. -/
def stA (B : Nat) (a : Pa.Ac) (fv : Value) (w : World) : World := (((((((((((((w.setCell ⟨B, 0, none⟩ (.int .i64 a.kind)).setCell ⟨B, 1, none⟩ (.int .i64 a.host)).setCell ⟨B, 2, none⟩ (.int .i64 a.call.kind)).setCell ⟨B, 3, none⟩ (.int .i64 a.call.sock)).setCell ⟨B, 4, none⟩ (.int .i64 a.call.addr)).setCell ⟨B, 5, none⟩ (.int .i64 a.call.port)).setCell ⟨B, 6, none⟩ (.int .i64 a.call.n)).setCell ⟨B, 7, none⟩ (.string a.call.s)).setCell ⟨B, 8, none⟩ (.int .i64 a.call.here)).setCell ⟨B, 9, none⟩ (.int .i64 a.call.mss)).setCell ⟨B, 10, none⟩ (.int .i64 a.n)).setCell ⟨B, 11, none⟩ fv).setCell ⟨B, 12, none⟩ (.string a.s))
theorem stA_kp (B : Nat) (a : Pa.Ac) (fv : Value) (w : World) : Kp (· = B) w (stA B a fv w) := by
  unfold stA
  iterate 13 refine Kp.setCell ?_ (by simp) _
  exact Kp.refl _ _
theorem RowAt.stA {B : Nat} {b a : Pa.Ac} {gv fv : Value} {w : World} (hc : RowAt B (acCells b gv) w) : RowAt B (acCells a fv) (stA B a fv w) :=
  (((((((((((((hc.set 0 (by simp [acCells]) (.int .i64 a.kind)).set 1 (by simp [acCells]) (.int .i64 a.host)).set 2 (by simp [acCells]) (.int .i64 a.call.kind)).set 3 (by simp [acCells]) (.int .i64 a.call.sock)).set 4 (by simp [acCells]) (.int .i64 a.call.addr)).set 5 (by simp [acCells]) (.int .i64 a.call.port)).set 6 (by simp [acCells]) (.int .i64 a.call.n)).set 7 (by simp [acCells]) (.string a.call.s)).set 8 (by simp [acCells]) (.int .i64 a.call.here)).set 9 (by simp [acCells]) (.int .i64 a.call.mss)).set 10 (by simp [acCells]) (.int .i64 a.n)).set 11 (by simp [acCells]) (fv)).set 12 (by simp [acCells]) (.string a.s))

/-- What ActOf ends in. -/
def GOut (a : Pa.Ac) (w : World) (e : Ending) (w' : World) : Prop := ∃ gv, e = .returned (acV a gv) ∧ Fs w' gv a.fates ∧ (∀ b, gv.ownBlock = some b → w.heap.size ≤ b) ∧ Below w.heap.size w w'

theorem act_ret {R : Ending → World → Prop} {tmps : Array Value} {W : World} {B : Nat} {a : Pa.Ac} {gv : Value} (h2 : tmps[2]? = some (.pointer (some ⟨B, 0, none⟩))) (q : RowAt B (acCells a gv) W) (hR : R (.returned (acV a gv)) W) :
    bodyPost Tryz.prog Tryz.f24 R .ret { tmps := tmps, defers := [] } W := by
  have e0 := (q.2 0 _ rfl).1
  have e1 := (q.2 1 _ rfl).1
  have e2 := (q.2 2 _ rfl).1
  have e3 := (q.2 3 _ rfl).1
  have e4 := (q.2 4 _ rfl).1
  have e5 := (q.2 5 _ rfl).1
  have e6 := (q.2 6 _ rfl).1
  have e7 := (q.2 7 _ rfl).1
  have e8 := (q.2 8 _ rfl).1
  have e9 := (q.2 9 _ rfl).1
  have e10 := (q.2 10 _ rfl).1
  have e11 := (q.2 11 _ rfl).1
  have e12 := (q.2 12 _ rfl).1
  refine bodyPost_ret (v := acV a gv) (by simp [results, Tryz.results24, go_sem, h2, acV, e0, e1, e2, e3, e4, e5, e6, e7, e8, e9, e10, e11, e12]) rfl hR

theorem rw_rows (w : World) (kd cl ho so ad po n : Int) (fv : Value) (s : ByteArray) : RowAt w.heap.size #[.int .i64 kd, .int .i64 cl, .int .i64 ho, .int .i64 so, .int .i64 ad, .int .i64 po, .int .i64 n, fv, .string s].toList ((w.alloc (.cells #[.int .i64 kd, .int .i64 cl, .int .i64 ho, .int .i64 so, .int .i64 ad, .int .i64 po, .int .i64 n, fv, .string s] 54)).alloc (.cells #[.int .i64 0, .int .i64 0, .int .i64 0, .int .i64 0, .int .i64 0, .int .i64 0, .int .i64 0, .string ⟨#[]⟩, .int .i64 0, .int .i64 0, .int .i64 0, .slice none 0 0, .string ⟨#[]⟩] 27)) ∧ RowAt (w.heap.size + 1) (acCells Pa.a0 (.slice none 0 0)) ((w.alloc (.cells #[.int .i64 kd, .int .i64 cl, .int .i64 ho, .int .i64 so, .int .i64 ad, .int .i64 po, .int .i64 n, fv, .string s] 54)).alloc (.cells #[.int .i64 0, .int .i64 0, .int .i64 0, .int .i64 0, .int .i64 0, .int .i64 0, .int .i64 0, .string ⟨#[]⟩, .int .i64 0, .int .i64 0, .int .i64 0, .slice none 0 0, .string ⟨#[]⟩] 27)) ∧ Below w.heap.size w ((w.alloc (.cells #[.int .i64 kd, .int .i64 cl, .int .i64 ho, .int .i64 so, .int .i64 ad, .int .i64 po, .int .i64 n, fv, .string s] 54)).alloc (.cells #[.int .i64 0, .int .i64 0, .int .i64 0, .int .i64 0, .int .i64 0, .int .i64 0, .int .i64 0, .string ⟨#[]⟩, .int .i64 0, .int .i64 0, .int .i64 0, .slice none 0 0, .string ⟨#[]⟩] 27)) := by
  refine ⟨(RowAt.new w #[.int .i64 kd, .int .i64 cl, .int .i64 ho, .int .i64 so, .int .i64 ad, .int .i64 po, .int .i64 n, fv, .string s] 54).below ((Below.refl _ _).alloc (Nat.le_refl _) _), ?_, ((Below.refl _ _).alloc (Nat.le_refl _) _).alloc (by simp) _⟩
  have := RowAt.new (w.alloc (.cells #[.int .i64 kd, .int .i64 cl, .int .i64 ho, .int .i64 so, .int .i64 ad, .int .i64 po, .int .i64 n, fv, .string s] 54)) #[.int .i64 0, .int .i64 0, .int .i64 0, .int .i64 0, .int .i64 0, .int .i64 0, .int .i64 0, .string ⟨#[]⟩, .int .i64 0, .int .i64 0, .int .i64 0, .slice none 0 0, .string ⟨#[]⟩] 27
  rw [World.size_alloc] at this
  exact this

set_option maxRecDepth 100000 in
set_option maxHeartbeats 800000 in
theorem actOf_0 (x : Pa.Rw) (fv : Value) (w : World) (hx : RwOk x) (hf : Fs w fv x.fates) (hk : Pa.pickI x.kind 5 = 0) :
    Calls Tryz.prog 24 #[rwV x fv] w (GOut (Pa.actOf x) w) := by
  obtain ⟨kd, cl, ho, so, ad, po, n, fs, s⟩ := x
  have HX := Lib.hid hx
  obtain ⟨⟨a0, a1⟩, ⟨b0, b1⟩, ⟨c0, c1⟩, ⟨d0, d1⟩, ⟨e0, e1⟩, ⟨f0, f1⟩, ⟨g0, g1⟩, hs, hff⟩ := hx
  simp only at a0 a1 b0 b1 c0 c1 d0 d1 e0 e1 f0 f1 g0 g1 hs hff hk hf
  unfold rwV
  have hc := pick27_any kd 5
  rw [hk] at hc
  go_enter Tryz.func24, Tryz.ntmps24
  go_wp2_with (go_at_call 11; (first | with_reducible (refine (hc _ a0 a1 (by decide) (by decide)).mono ?_) | (refine (pick27_any _ _ _ (by assumption) (by assumption) (by decide) (by decide)).mono ?_)); rintro e w' ⟨rfl, rfl⟩)
  have hwr : wrap64 (1 + Pa.pickI n 500) = 1 + Pa.pickI n 500 := by have := Pa.pick_in n (n := 500) (by decide); unfold wrap64; omega
  refine bodyPost_ret (v := acV (Pa.actOf ⟨kd, cl, ho, so, ad, po, n, fs, s⟩) (.slice none 0 0)) (by simp [results, Tryz.results24, go_sem, Pa.actOf, hk, acV, Pa.a0, Pa.c0, hwr]) rfl ⟨_, rfl, by simp only [Pa.actOf, hk]; exact Fs.nil _, by simp [Value.ownBlock], ((Below.refl _ _).alloc (Nat.le_refl _) _).alloc (by simp) _⟩

set_option maxRecDepth 100000 in
set_option maxHeartbeats 800000 in
theorem actOf_2 (x : Pa.Rw) (fv : Value) (w : World) (hx : RwOk x) (hf : Fs w fv x.fates) (hk : Pa.pickI x.kind 5 = 2) :
    Calls Tryz.prog 24 #[rwV x fv] w (GOut (Pa.actOf x) w) := by
  obtain ⟨kd, cl, ho, so, ad, po, n, fs, s⟩ := x
  have HX := Lib.hid hx
  obtain ⟨⟨a0, a1⟩, ⟨b0, b1⟩, ⟨c0, c1⟩, ⟨d0, d1⟩, ⟨e0, e1⟩, ⟨f0, f1⟩, ⟨g0, g1⟩, hs, hff⟩ := hx
  simp only at a0 a1 b0 b1 c0 c1 d0 d1 e0 e1 f0 f1 g0 g1 hs hff hk hf
  unfold rwV
  have hc := pick27_any kd 5
  rw [hk] at hc
  have hcc := pick27_any n 8
  have hA : Pa.actOf ⟨kd, cl, ho, so, ad, po, n, fs, s⟩ = ⟨4, 0, ⟨0, 0, 0, 0, 0, ⟨#[]⟩, 0, 0⟩, Pa.pickI n 8, [], s.extract 0 (min (s.size : Int) 1100).toNat⟩ := by simp [Pa.actOf, hk, Pa.a0, Pa.c0, Pa.cutS]
  rw [hA]
  obtain ⟨r0, r1, hB⟩ := rw_rows w kd cl ho so ad po n fv s
  go_enter Tryz.func24, Tryz.ntmps24
  go_wp2_with (go_at_call 11; with_reducible (refine (hc _ a0 a1 (by decide) (by decide)).mono ?_); rintro e w' ⟨rfl, rfl⟩)
  refine wp_region_below_tail 11 (by kernel_rfl) (by kernel_rfl) ?_
  intro W hW
  simp only [List.take_succ_cons, List.take_zero, List.drop_succ_cons, List.drop_zero]
  have m6 : ∀ x : Lat (Below W.heap.size W), x.u.cell? ⟨w.heap.size, 6, none⟩ = some (.int .i64 n) := fun x => x.cell (by rw [hW]; simp; omega) (by rw [hW]; simp)
  have m8 : ∀ x : Lat (Below W.heap.size W), x.u.cell? ⟨w.heap.size, 8, none⟩ = some (.string s) := fun x => x.cell (by rw [hW]; simp; omega) (by rw [hW]; simp)
  have HW := Lib.hid hW; clear hW
  repeat (go_big_quiet_step ((go_at_call 11; exact Calls.same (hcc _ g0 g1 (by decide) (by decide)))))
  refine wpQuiet_nil ?_
  rintro u ⟨x, hx⟩
  have hu : Below W.heap.size W u := by rw [hx]; exact x.h
  rw [HW.out] at hu
  clear hx x
  have q1 := r1.below hu
  have ⟨k0, kf0⟩ := q1.2 0 _ rfl
  have ⟨k1, kf1⟩ := q1.2 1 _ rfl
  have ⟨k2, kf2⟩ := q1.2 2 _ rfl
  have ⟨k3, kf3⟩ := q1.2 3 _ rfl
  have ⟨k4, kf4⟩ := q1.2 4 _ rfl
  have ⟨k5, kf5⟩ := q1.2 5 _ rfl
  have ⟨k6, kf6⟩ := q1.2 6 _ rfl
  have ⟨k7, kf7⟩ := q1.2 7 _ rfl
  have ⟨k8, kf8⟩ := q1.2 8 _ rfl
  have ⟨k9, kf9⟩ := q1.2 9 _ rfl
  have ⟨k10, kf10⟩ := q1.2 10 _ rfl
  have ⟨k11, kf11⟩ := q1.2 11 _ rfl
  have ⟨k12, kf12⟩ := q1.2 12 _ rfl
  go_wp2
  show bodyPost _ _ _ _ _ (stA (w.heap.size + 1) ⟨4, 0, ⟨0, 0, 0, 0, 0, ⟨#[]⟩, 0, 0⟩, Pa.pickI n 8, [], s.extract 0 (min (s.size : Int) 1100).toNat⟩ (.slice none 0 0) u)
  exact act_ret (B := w.heap.size + 1) rfl (RowAt.stA q1) ⟨_, rfl, Fs.nil _, by simp [Value.ownBlock], (below_on hB hu).trans ((stA_kp _ _ _ _).below (below_on hB hu).size (by intro k hk; show ¬ _ = _; omega))⟩

set_option maxRecDepth 100000 in
set_option maxHeartbeats 800000 in
theorem actOf_3 (x : Pa.Rw) (fv : Value) (w : World) (hx : RwOk x) (hf : Fs w fv x.fates) (hk : Pa.pickI x.kind 5 = 3 ∨ Pa.pickI x.kind 5 = 4) :
    Calls Tryz.prog 24 #[rwV x fv] w (GOut (Pa.actOf x) w) := by
  obtain ⟨kd, cl, ho, so, ad, po, n, fs, s⟩ := x
  have HX := Lib.hid hx
  obtain ⟨⟨a0, a1⟩, ⟨b0, b1⟩, ⟨c0, c1⟩, ⟨d0, d1⟩, ⟨e0, e1⟩, ⟨f0, f1⟩, ⟨g0, g1⟩, hs, hff⟩ := hx
  simp only at a0 a1 b0 b1 c0 c1 d0 d1 e0 e1 f0 f1 g0 g1 hs hff hk hf
  unfold rwV
  have hc := pick27_any kd 5
  have hcc := pick27_any ho 8
  have hcl := callOf_any ⟨kd, cl, ho, so, ad, po, n, fs, s⟩ fv
  unfold rwV at hcl
  obtain ⟨c, hcE⟩ : ∃ c, Pa.callOf ⟨kd, cl, ho, so, ad, po, n, fs, s⟩ = c := ⟨_, rfl⟩
  rw [hcE] at hcl
  have hA : Pa.actOf ⟨kd, cl, ho, so, ad, po, n, fs, s⟩ = ⟨1, Pa.pickI ho 8, c, 0, [], ⟨#[]⟩⟩ := by rcases hk with hk | hk <;> simp [Pa.actOf, hk, Pa.a0, hcE]
  rw [hA]
  clear hA hcE
  obtain ⟨z1, z2, z3, z4, z5, z6, z7, z8⟩ := c
  unfold clV at hcl
  obtain ⟨r0, r1, hB⟩ := rw_rows w kd cl ho so ad po n fv s
  go_enter Tryz.func24, Tryz.ntmps24
  rcases hk with hk | hk <;> rw [hk] at hc
  all_goals
    go_wp2_with (go_at_call 11; with_reducible (refine (hc _ a0 a1 (by decide) (by decide)).mono ?_); rintro e w' ⟨rfl, rfl⟩)
    refine wp_region_below_tail 6 (by kernel_rfl) (by kernel_rfl) ?_
    intro W hW
    simp only [List.take_succ_cons, List.take_zero, List.drop_succ_cons, List.drop_zero]
    have m0 : ∀ x : Lat (Below W.heap.size W), x.u.cell? ⟨w.heap.size, 0, none⟩ = some (.int .i64 kd) := fun x => x.cell (by rw [hW]; simp; omega) (by rw [hW]; simp)
    have m1 : ∀ x : Lat (Below W.heap.size W), x.u.cell? ⟨w.heap.size, 1, none⟩ = some (.int .i64 cl) := fun x => x.cell (by rw [hW]; simp; omega) (by rw [hW]; simp)
    have m2 : ∀ x : Lat (Below W.heap.size W), x.u.cell? ⟨w.heap.size, 2, none⟩ = some (.int .i64 ho) := fun x => x.cell (by rw [hW]; simp; omega) (by rw [hW]; simp)
    have m3 : ∀ x : Lat (Below W.heap.size W), x.u.cell? ⟨w.heap.size, 3, none⟩ = some (.int .i64 so) := fun x => x.cell (by rw [hW]; simp; omega) (by rw [hW]; simp)
    have m4 : ∀ x : Lat (Below W.heap.size W), x.u.cell? ⟨w.heap.size, 4, none⟩ = some (.int .i64 ad) := fun x => x.cell (by rw [hW]; simp; omega) (by rw [hW]; simp)
    have m5 : ∀ x : Lat (Below W.heap.size W), x.u.cell? ⟨w.heap.size, 5, none⟩ = some (.int .i64 po) := fun x => x.cell (by rw [hW]; simp; omega) (by rw [hW]; simp)
    have m6 : ∀ x : Lat (Below W.heap.size W), x.u.cell? ⟨w.heap.size, 6, none⟩ = some (.int .i64 n) := fun x => x.cell (by rw [hW]; simp; omega) (by rw [hW]; simp)
    have m7 : ∀ x : Lat (Below W.heap.size W), x.u.cell? ⟨w.heap.size, 7, none⟩ = some (fv) := fun x => x.cell (by rw [hW]; simp; omega) (by rw [hW]; simp)
    have m8 : ∀ x : Lat (Below W.heap.size W), x.u.cell? ⟨w.heap.size, 8, none⟩ = some (.string s) := fun x => x.cell (by rw [hW]; simp; omega) (by rw [hW]; simp)
    have HW := Lib.hid hW; clear hW
    repeat (go_big_quiet_step ((first | (go_at_call 11; exact Calls.same (hcc _ c0 c1 (by decide) (by decide))) | (go_at_call 45; exact Calls.below (hcl _ HX.out)))))
    refine wpQuiet_nil ?_
    rintro u ⟨x, hx⟩
    have hu : Below W.heap.size W u := by rw [hx]; exact x.h
    rw [HW.out] at hu
    clear hx x
    have q1 := r1.below hu
    have ⟨k0, kf0⟩ := q1.2 0 _ rfl
    have ⟨k1, kf1⟩ := q1.2 1 _ rfl
    have ⟨k2, kf2⟩ := q1.2 2 _ rfl
    have ⟨k3, kf3⟩ := q1.2 3 _ rfl
    have ⟨k4, kf4⟩ := q1.2 4 _ rfl
    have ⟨k5, kf5⟩ := q1.2 5 _ rfl
    have ⟨k6, kf6⟩ := q1.2 6 _ rfl
    have ⟨k7, kf7⟩ := q1.2 7 _ rfl
    have ⟨k8, kf8⟩ := q1.2 8 _ rfl
    have ⟨k9, kf9⟩ := q1.2 9 _ rfl
    have ⟨k10, kf10⟩ := q1.2 10 _ rfl
    have ⟨k11, kf11⟩ := q1.2 11 _ rfl
    have ⟨k12, kf12⟩ := q1.2 12 _ rfl
    go_wp2
    show bodyPost _ _ _ _ _ (stA (w.heap.size + 1) ⟨1, Pa.pickI ho 8, ⟨z1, z2, z3, z4, z5, z6, z7, z8⟩, 0, [], ⟨#[]⟩⟩ (.slice none 0 0) u)
    exact act_ret (B := w.heap.size + 1) rfl (RowAt.stA q1) ⟨_, rfl, Fs.nil _, by simp [Value.ownBlock], (below_on hB hu).trans ((stA_kp _ _ _ _).below (below_on hB hu).size (by intro k hk; show ¬ _ = _; omega))⟩

end Go.Proofs.YtgajoiijebbagaaGreatDoor
