/-
  The walk of script.validCall, kind by kind. Conditions: as each says; of dns.ValidName its contract is asked.
-/
import Derived.Test.YtgajoiijebbagaaGreatDoorSWalkB
namespace Go.Proofs.YtgajoiijebbagaaGreatDoor
open Go.RowKit Go.Proofs

/-- What dns.ValidName answers. -/
def NameC : Prop := ∀ (s : ByteArray) (w : World), Ok w → Calls Tryz.prog 22 #[.string s] w fun e w' => e = .returned (.bool (Pa.nameOk s.data.toList)) ∧ Below w.heap.size w w'

theorem Pa.i0 : Pa.inR 0 0 1000000 = true := by decide
theorem Pa.i1 : Pa.inR 0 0 65535 = true := by decide
theorem Pa.v0 : Pa.validB 0 = true := by decide
theorem Pa.e0 : ByteArray.size ⟨#[]⟩ = 0 := rfl

set_option linter.unusedSimpArgs false in
set_option maxHeartbeats 2000000 in
set_option maxRecDepth 10000 in
theorem validCall_1 (so ad po n he ms : Int) (s : ByteArray) (w : World) :
    Calls Tryz.prog 31 #[clV ⟨1, so, ad, po, n, s, he, ms⟩] w fun e w' => e = .returned (.bool (Pa.okC ⟨1, so, ad, po, n, s, he, ms⟩)) ∧ Below w.heap.size w w' := by
  have hq := eqCall
  have hk : Pa.inR 1 1 13 = true := by decide
  unfold clV
  go_enter Tryz.func31, Tryz.ntmps31
  go_wp2_with (first | (go_at_call 30; refine (within_any _ _ _ _).mono ?_; rintro e w' ⟨rfl, rfl⟩) | (go_at_call 23; refine (valid_any _ _).mono ?_; rintro e w' ⟨rfl, rfl⟩))
  go_region
  all_goals go_wp2_with (first | (go_at_call 30; refine (within_any _ _ _ _).mono ?_; rintro e w' ⟨rfl, rfl⟩) | (go_at_call 23; refine (valid_any _ _).mono ?_; rintro e w' ⟨rfl, rfl⟩))
  all_goals
    go_ret
    refine ⟨ret_bool ?_, ?_⟩
    · simp_all [Pa.okC, Pa.needC, Pa.c0, Pa.i0, Pa.i1, Pa.v0, Pa.e0]
      all_goals omega
    · repeat (first | exact Below.refl _ _ | refine Below.setCell ?_ (by simp) _ | refine Below.alloc ?_ (by simp) _ | apply Below.drew)

set_option linter.unusedSimpArgs false in
set_option maxHeartbeats 2000000 in
set_option maxRecDepth 10000 in
theorem validCall_2 (so ad po n he ms : Int) (s : ByteArray) (w : World) :
    Calls Tryz.prog 31 #[clV ⟨2, so, ad, po, n, s, he, ms⟩] w fun e w' => e = .returned (.bool (Pa.okC ⟨2, so, ad, po, n, s, he, ms⟩)) ∧ Below w.heap.size w w' := by
  have hq := eqCall
  have hk : Pa.inR 2 1 13 = true := by decide
  unfold clV
  go_enter Tryz.func31, Tryz.ntmps31
  go_wp2_with (first | (go_at_call 30; refine (within_any _ _ _ _).mono ?_; rintro e w' ⟨rfl, rfl⟩) | (go_at_call 23; refine (valid_any _ _).mono ?_; rintro e w' ⟨rfl, rfl⟩))
  all_goals
    go_ret
    refine ⟨ret_bool ?_, ?_⟩
    · simp_all [Pa.okC, Pa.needC, Pa.c0, Pa.i0, Pa.i1, Pa.v0, Pa.e0]
      all_goals omega
    · repeat (first | exact Below.refl _ _ | refine Below.setCell ?_ (by simp) _ | refine Below.alloc ?_ (by simp) _ | apply Below.drew)

set_option linter.unusedSimpArgs false in
set_option maxHeartbeats 2000000 in
set_option maxRecDepth 10000 in
theorem validCall_3 (so ad po n he ms : Int) (s : ByteArray) (w : World) :
    Calls Tryz.prog 31 #[clV ⟨3, so, ad, po, n, s, he, ms⟩] w fun e w' => e = .returned (.bool (Pa.okC ⟨3, so, ad, po, n, s, he, ms⟩)) ∧ Below w.heap.size w w' := by
  have hq := eqCall
  have hk : Pa.inR 3 1 13 = true := by decide
  unfold clV
  go_enter Tryz.func31, Tryz.ntmps31
  go_wp2_with (first | (go_at_call 30; refine (within_any _ _ _ _).mono ?_; rintro e w' ⟨rfl, rfl⟩) | (go_at_call 23; refine (valid_any _ _).mono ?_; rintro e w' ⟨rfl, rfl⟩))
  all_goals
    go_ret
    refine ⟨ret_bool ?_, ?_⟩
    · simp_all [Pa.okC, Pa.needC, Pa.c0, Pa.i0, Pa.i1, Pa.v0, Pa.e0]
      all_goals omega
    · repeat (first | exact Below.refl _ _ | refine Below.setCell ?_ (by simp) _ | refine Below.alloc ?_ (by simp) _ | apply Below.drew)

set_option linter.unusedSimpArgs false in
set_option maxHeartbeats 2000000 in
set_option maxRecDepth 10000 in
theorem validCall_4 (so ad po n he ms : Int) (s : ByteArray) (w : World) :
    Calls Tryz.prog 31 #[clV ⟨4, so, ad, po, n, s, he, ms⟩] w fun e w' => e = .returned (.bool (Pa.okC ⟨4, so, ad, po, n, s, he, ms⟩)) ∧ Below w.heap.size w w' := by
  have hq := eqCall
  have hk : Pa.inR 4 1 13 = true := by decide
  unfold clV
  go_enter Tryz.func31, Tryz.ntmps31
  go_wp2_with (first | (go_at_call 30; refine (within_any _ _ _ _).mono ?_; rintro e w' ⟨rfl, rfl⟩) | (go_at_call 23; refine (valid_any _ _).mono ?_; rintro e w' ⟨rfl, rfl⟩))
  go_region
  all_goals go_wp2_with (first | (go_at_call 30; refine (within_any _ _ _ _).mono ?_; rintro e w' ⟨rfl, rfl⟩) | (go_at_call 23; refine (valid_any _ _).mono ?_; rintro e w' ⟨rfl, rfl⟩))
  all_goals
    go_ret
    refine ⟨ret_bool ?_, ?_⟩
    · simp_all [Pa.okC, Pa.needC, Pa.c0, Pa.i0, Pa.i1, Pa.v0, Pa.e0]
      all_goals omega
    · repeat (first | exact Below.refl _ _ | refine Below.setCell ?_ (by simp) _ | refine Below.alloc ?_ (by simp) _ | apply Below.drew)

set_option linter.unusedSimpArgs false in
set_option maxHeartbeats 2000000 in
set_option maxRecDepth 10000 in
theorem validCall_5 (so ad po n he ms : Int) (s : ByteArray) (w : World) :
    Calls Tryz.prog 31 #[clV ⟨5, so, ad, po, n, s, he, ms⟩] w fun e w' => e = .returned (.bool (Pa.okC ⟨5, so, ad, po, n, s, he, ms⟩)) ∧ Below w.heap.size w w' := by
  have hq := eqCall
  have hk : Pa.inR 5 1 13 = true := by decide
  unfold clV
  go_enter Tryz.func31, Tryz.ntmps31
  go_wp2_with (first | (go_at_call 30; refine (within_any _ _ _ _).mono ?_; rintro e w' ⟨rfl, rfl⟩) | (go_at_call 23; refine (valid_any _ _).mono ?_; rintro e w' ⟨rfl, rfl⟩))
  all_goals
    go_ret
    refine ⟨ret_bool ?_, ?_⟩
    · simp_all [Pa.okC, Pa.needC, Pa.c0, Pa.i0, Pa.i1, Pa.v0, Pa.e0]
      all_goals omega
    · repeat (first | exact Below.refl _ _ | refine Below.setCell ?_ (by simp) _ | refine Below.alloc ?_ (by simp) _ | apply Below.drew)

set_option linter.unusedSimpArgs false in
set_option maxHeartbeats 2000000 in
set_option maxRecDepth 10000 in
theorem validCall_6 (so ad po n he ms : Int) (s : ByteArray) (w : World) :
    Calls Tryz.prog 31 #[clV ⟨6, so, ad, po, n, s, he, ms⟩] w fun e w' => e = .returned (.bool (Pa.okC ⟨6, so, ad, po, n, s, he, ms⟩)) ∧ Below w.heap.size w w' := by
  have hq := eqCall
  have hk : Pa.inR 6 1 13 = true := by decide
  unfold clV
  go_enter Tryz.func31, Tryz.ntmps31
  go_wp2_with (first | (go_at_call 30; refine (within_any _ _ _ _).mono ?_; rintro e w' ⟨rfl, rfl⟩) | (go_at_call 23; refine (valid_any _ _).mono ?_; rintro e w' ⟨rfl, rfl⟩))
  all_goals
    go_ret
    refine ⟨ret_bool ?_, ?_⟩
    · simp_all [Pa.okC, Pa.needC, Pa.c0, Pa.i0, Pa.i1, Pa.v0, Pa.e0]
      all_goals omega
    · repeat (first | exact Below.refl _ _ | refine Below.setCell ?_ (by simp) _ | refine Below.alloc ?_ (by simp) _ | apply Below.drew)

set_option linter.unusedSimpArgs false in
set_option maxHeartbeats 2000000 in
set_option maxRecDepth 10000 in
theorem validCall_7 (so ad po n he ms : Int) (s : ByteArray) (w : World) :
    Calls Tryz.prog 31 #[clV ⟨7, so, ad, po, n, s, he, ms⟩] w fun e w' => e = .returned (.bool (Pa.okC ⟨7, so, ad, po, n, s, he, ms⟩)) ∧ Below w.heap.size w w' := by
  have hq := eqCall
  have hk : Pa.inR 7 1 13 = true := by decide
  unfold clV
  go_enter Tryz.func31, Tryz.ntmps31
  go_wp2_with (first | (go_at_call 30; refine (within_any _ _ _ _).mono ?_; rintro e w' ⟨rfl, rfl⟩) | (go_at_call 23; refine (valid_any _ _).mono ?_; rintro e w' ⟨rfl, rfl⟩))
  all_goals
    go_ret
    refine ⟨ret_bool ?_, ?_⟩
    · simp_all [Pa.okC, Pa.needC, Pa.c0, Pa.i0, Pa.i1, Pa.v0, Pa.e0]
      all_goals omega
    · repeat (first | exact Below.refl _ _ | refine Below.setCell ?_ (by simp) _ | refine Below.alloc ?_ (by simp) _ | apply Below.drew)

set_option linter.unusedSimpArgs false in
set_option maxHeartbeats 2000000 in
set_option maxRecDepth 10000 in
theorem validCall_8 (so ad po n he ms : Int) (s : ByteArray) (w : World) :
    Calls Tryz.prog 31 #[clV ⟨8, so, ad, po, n, s, he, ms⟩] w fun e w' => e = .returned (.bool (Pa.okC ⟨8, so, ad, po, n, s, he, ms⟩)) ∧ Below w.heap.size w w' := by
  have hq := eqCall
  have hk : Pa.inR 8 1 13 = true := by decide
  unfold clV
  go_enter Tryz.func31, Tryz.ntmps31
  go_wp2_with (first | (go_at_call 30; refine (within_any _ _ _ _).mono ?_; rintro e w' ⟨rfl, rfl⟩) | (go_at_call 23; refine (valid_any _ _).mono ?_; rintro e w' ⟨rfl, rfl⟩))
  all_goals
    go_ret
    refine ⟨ret_bool ?_, ?_⟩
    · simp_all [Pa.okC, Pa.needC, Pa.c0, Pa.i0, Pa.i1, Pa.v0, Pa.e0]
      all_goals omega
    · repeat (first | exact Below.refl _ _ | refine Below.setCell ?_ (by simp) _ | refine Below.alloc ?_ (by simp) _ | apply Below.drew)

set_option linter.unusedSimpArgs false in
set_option maxHeartbeats 2000000 in
set_option maxRecDepth 10000 in
theorem validCall_9 (so ad po n he ms : Int) (s : ByteArray) (w : World) :
    Calls Tryz.prog 31 #[clV ⟨9, so, ad, po, n, s, he, ms⟩] w fun e w' => e = .returned (.bool (Pa.okC ⟨9, so, ad, po, n, s, he, ms⟩)) ∧ Below w.heap.size w w' := by
  have hq := eqCall
  have hk : Pa.inR 9 1 13 = true := by decide
  unfold clV
  go_enter Tryz.func31, Tryz.ntmps31
  go_wp2_with (first | (go_at_call 30; refine (within_any _ _ _ _).mono ?_; rintro e w' ⟨rfl, rfl⟩) | (go_at_call 23; refine (valid_any _ _).mono ?_; rintro e w' ⟨rfl, rfl⟩))
  all_goals
    go_ret
    refine ⟨ret_bool ?_, ?_⟩
    · simp_all [Pa.okC, Pa.needC, Pa.c0, Pa.i0, Pa.i1, Pa.v0, Pa.e0]
      all_goals omega
    · repeat (first | exact Below.refl _ _ | refine Below.setCell ?_ (by simp) _ | refine Below.alloc ?_ (by simp) _ | apply Below.drew)

set_option linter.unusedSimpArgs false in
set_option maxHeartbeats 2000000 in
set_option maxRecDepth 10000 in
theorem validCall_10 (so ad po n he ms : Int) (s : ByteArray) (w : World) :
    Calls Tryz.prog 31 #[clV ⟨10, so, ad, po, n, s, he, ms⟩] w fun e w' => e = .returned (.bool (Pa.okC ⟨10, so, ad, po, n, s, he, ms⟩)) ∧ Below w.heap.size w w' := by
  have hq := eqCall
  have hk : Pa.inR 10 1 13 = true := by decide
  unfold clV
  go_enter Tryz.func31, Tryz.ntmps31
  go_wp2_with (first | (go_at_call 30; refine (within_any _ _ _ _).mono ?_; rintro e w' ⟨rfl, rfl⟩) | (go_at_call 23; refine (valid_any _ _).mono ?_; rintro e w' ⟨rfl, rfl⟩))
  go_region
  all_goals go_wp2_with (first | (go_at_call 30; refine (within_any _ _ _ _).mono ?_; rintro e w' ⟨rfl, rfl⟩) | (go_at_call 23; refine (valid_any _ _).mono ?_; rintro e w' ⟨rfl, rfl⟩))
  all_goals
    go_ret
    refine ⟨ret_bool ?_, ?_⟩
    · simp_all [Pa.okC, Pa.needC, Pa.c0, Pa.i0, Pa.i1, Pa.v0, Pa.e0]
      all_goals omega
    · repeat (first | exact Below.refl _ _ | refine Below.setCell ?_ (by simp) _ | refine Below.alloc ?_ (by simp) _ | apply Below.drew)

set_option linter.unusedSimpArgs false in
set_option maxHeartbeats 2000000 in
set_option maxRecDepth 10000 in
theorem validCall_11 (so ad po n he ms : Int) (s : ByteArray) (w : World) :
    Calls Tryz.prog 31 #[clV ⟨11, so, ad, po, n, s, he, ms⟩] w fun e w' => e = .returned (.bool (Pa.okC ⟨11, so, ad, po, n, s, he, ms⟩)) ∧ Below w.heap.size w w' := by
  have hq := eqCall
  have hk : Pa.inR 11 1 13 = true := by decide
  unfold clV
  go_enter Tryz.func31, Tryz.ntmps31
  go_wp2_with (first | (go_at_call 30; refine (within_any _ _ _ _).mono ?_; rintro e w' ⟨rfl, rfl⟩) | (go_at_call 23; refine (valid_any _ _).mono ?_; rintro e w' ⟨rfl, rfl⟩))
  all_goals
    go_ret
    refine ⟨ret_bool ?_, ?_⟩
    · simp_all [Pa.okC, Pa.needC, Pa.c0, Pa.i0, Pa.i1, Pa.v0, Pa.e0]
      all_goals omega
    · repeat (first | exact Below.refl _ _ | refine Below.setCell ?_ (by simp) _ | refine Below.alloc ?_ (by simp) _ | apply Below.drew)

set_option linter.unusedSimpArgs false in
set_option maxHeartbeats 2000000 in
set_option maxRecDepth 10000 in
theorem validCall_12 (so ad po n he ms : Int) (s : ByteArray) (w : World) (ok : Ok w) (hN : NameC) :
    Calls Tryz.prog 31 #[clV ⟨12, so, ad, po, n, s, he, ms⟩] w fun e w' => e = .returned (.bool (Pa.okC ⟨12, so, ad, po, n, s, he, ms⟩)) ∧ Below w.heap.size w w' := by
  have hq := eqCall
  have hk : Pa.inR 12 1 13 = true := by decide
  have HZ := Lib.hid (show Pa.nameOk s.data.toList = true → (s.size : Int) ≤ 2100 from fun h => by simp only [Pa.nameOk, Bool.and_eq_true, decide_eq_true_eq] at h; have : s.size ≤ 60 := h.1; omega)
  unfold clV
  go_enter Tryz.func31, Tryz.ntmps31
  go_wp2_with (first | (go_at_call 30; refine (within_any _ _ _ _).mono ?_; rintro e w' ⟨rfl, rfl⟩) | (go_at_call 23; refine (valid_any _ _).mono ?_; rintro e w' ⟨rfl, rfl⟩) | (go_at_call 22; refine (hN s _ (ok.below ?_)).mono ?_; rotate_left 1; (rintro e w4 ⟨rfl, hb4⟩; have g0 : w4.cell? ⟨w.heap.size, 0, none⟩ = some (.int .i64 12) := cell_below hb4 (by simp; omega) (by simp); have r0 : w4.cell? ⟨w.heap.size + 1, 0, none⟩ = some (.int .i64 12) := cell_below hb4 (by simp) (by simp); have g1 : w4.cell? ⟨w.heap.size, 1, none⟩ = some (.int .i64 so) := cell_below hb4 (by simp; omega) (by simp); have r1 : w4.cell? ⟨w.heap.size + 1, 1, none⟩ = some (.int .i64 0) := cell_below hb4 (by simp) (by simp); have g2 : w4.cell? ⟨w.heap.size, 2, none⟩ = some (.int .i64 ad) := cell_below hb4 (by simp; omega) (by simp); have r2 : w4.cell? ⟨w.heap.size + 1, 2, none⟩ = some (.int .i64 0) := cell_below hb4 (by simp) (by simp); have g3 : w4.cell? ⟨w.heap.size, 3, none⟩ = some (.int .i64 po) := cell_below hb4 (by simp; omega) (by simp); have r3 : w4.cell? ⟨w.heap.size + 1, 3, none⟩ = some (.int .i64 0) := cell_below hb4 (by simp) (by simp); have g4 : w4.cell? ⟨w.heap.size, 4, none⟩ = some (.int .i64 n) := cell_below hb4 (by simp; omega) (by simp); have r4 : w4.cell? ⟨w.heap.size + 1, 4, none⟩ = some (.int .i64 0) := cell_below hb4 (by simp) (by simp); have g5 : w4.cell? ⟨w.heap.size, 5, none⟩ = some (.string s) := cell_below hb4 (by simp; omega) (by simp); have r5 : w4.cell? ⟨w.heap.size + 1, 5, none⟩ = some (.string s) := cell_below hb4 (by simp) (by simp); have g6 : w4.cell? ⟨w.heap.size, 6, none⟩ = some (.int .i64 he) := cell_below hb4 (by simp; omega) (by simp); have r6 : w4.cell? ⟨w.heap.size + 1, 6, none⟩ = some (.int .i64 0) := cell_below hb4 (by simp) (by simp); have g7 : w4.cell? ⟨w.heap.size, 7, none⟩ = some (.int .i64 ms) := cell_below hb4 (by simp; omega) (by simp); have r7 : w4.cell? ⟨w.heap.size + 1, 7, none⟩ = some (.int .i64 0) := cell_below hb4 (by simp) (by simp))))
  go_region
  all_goals go_wp2_with (first | (go_at_call 30; refine (within_any _ _ _ _).mono ?_; rintro e w' ⟨rfl, rfl⟩) | (go_at_call 23; refine (valid_any _ _).mono ?_; rintro e w' ⟨rfl, rfl⟩) | (go_at_call 22; refine (hN s _ (ok.below ?_)).mono ?_; rotate_left 1; (rintro e w4 ⟨rfl, hb4⟩; have g0 : w4.cell? ⟨w.heap.size, 0, none⟩ = some (.int .i64 12) := cell_below hb4 (by simp; omega) (by simp); have r0 : w4.cell? ⟨w.heap.size + 1, 0, none⟩ = some (.int .i64 12) := cell_below hb4 (by simp) (by simp); have g1 : w4.cell? ⟨w.heap.size, 1, none⟩ = some (.int .i64 so) := cell_below hb4 (by simp; omega) (by simp); have r1 : w4.cell? ⟨w.heap.size + 1, 1, none⟩ = some (.int .i64 0) := cell_below hb4 (by simp) (by simp); have g2 : w4.cell? ⟨w.heap.size, 2, none⟩ = some (.int .i64 ad) := cell_below hb4 (by simp; omega) (by simp); have r2 : w4.cell? ⟨w.heap.size + 1, 2, none⟩ = some (.int .i64 0) := cell_below hb4 (by simp) (by simp); have g3 : w4.cell? ⟨w.heap.size, 3, none⟩ = some (.int .i64 po) := cell_below hb4 (by simp; omega) (by simp); have r3 : w4.cell? ⟨w.heap.size + 1, 3, none⟩ = some (.int .i64 0) := cell_below hb4 (by simp) (by simp); have g4 : w4.cell? ⟨w.heap.size, 4, none⟩ = some (.int .i64 n) := cell_below hb4 (by simp; omega) (by simp); have r4 : w4.cell? ⟨w.heap.size + 1, 4, none⟩ = some (.int .i64 0) := cell_below hb4 (by simp) (by simp); have g5 : w4.cell? ⟨w.heap.size, 5, none⟩ = some (.string s) := cell_below hb4 (by simp; omega) (by simp); have r5 : w4.cell? ⟨w.heap.size + 1, 5, none⟩ = some (.string s) := cell_below hb4 (by simp) (by simp); have g6 : w4.cell? ⟨w.heap.size, 6, none⟩ = some (.int .i64 he) := cell_below hb4 (by simp; omega) (by simp); have r6 : w4.cell? ⟨w.heap.size + 1, 6, none⟩ = some (.int .i64 0) := cell_below hb4 (by simp) (by simp); have g7 : w4.cell? ⟨w.heap.size, 7, none⟩ = some (.int .i64 ms) := cell_below hb4 (by simp; omega) (by simp); have r7 : w4.cell? ⟨w.heap.size + 1, 7, none⟩ = some (.int .i64 0) := cell_below hb4 (by simp) (by simp))))
  all_goals first
    | ((repeat (first | exact Below.refl _ _ | refine Below.setCell ?_ (by simp) _ | refine Below.alloc ?_ (by simp) _ | apply Below.drew)); done)
    | (go_ret
       refine ⟨ret_bool ?_, ?_⟩
       · have hz := HZ.out
         simp_all [Pa.okC, Pa.needC, Pa.c0, Pa.i0, Pa.i1, Pa.v0]
       · refine below_on ?_ hb4
         repeat (first | exact Below.refl _ _ | refine Below.setCell ?_ (by simp) _ | refine Below.alloc ?_ (by simp) _ | apply Below.drew))

set_option linter.unusedSimpArgs false in
set_option maxHeartbeats 2000000 in
set_option maxRecDepth 10000 in
theorem validCall_13 (so ad po n he ms : Int) (s : ByteArray) (w : World) :
    Calls Tryz.prog 31 #[clV ⟨13, so, ad, po, n, s, he, ms⟩] w fun e w' => e = .returned (.bool (Pa.okC ⟨13, so, ad, po, n, s, he, ms⟩)) ∧ Below w.heap.size w w' := by
  have hq := eqCall
  have hk : Pa.inR 13 1 13 = true := by decide
  unfold clV
  go_enter Tryz.func31, Tryz.ntmps31
  go_wp2_with (first | (go_at_call 30; refine (within_any _ _ _ _).mono ?_; rintro e w' ⟨rfl, rfl⟩) | (go_at_call 23; refine (valid_any _ _).mono ?_; rintro e w' ⟨rfl, rfl⟩))
  go_region
  all_goals go_wp2_with (first | (go_at_call 30; refine (within_any _ _ _ _).mono ?_; rintro e w' ⟨rfl, rfl⟩) | (go_at_call 23; refine (valid_any _ _).mono ?_; rintro e w' ⟨rfl, rfl⟩))
  all_goals
    go_ret
    refine ⟨ret_bool ?_, ?_⟩
    · simp_all [Pa.okC, Pa.needC, Pa.c0, Pa.i0, Pa.i1, Pa.v0, Pa.e0]
      all_goals omega
    · repeat (first | exact Below.refl _ _ | refine Below.setCell ?_ (by simp) _ | refine Below.alloc ?_ (by simp) _ | apply Below.drew)

set_option linter.unusedSimpArgs false in
set_option maxHeartbeats 2000000 in
set_option maxRecDepth 10000 in
theorem validCall_x (k : Int) (hk : ¬ (1 ≤ k ∧ k ≤ 13)) (so ad po n he ms : Int) (s : ByteArray) (w : World) :
    Calls Tryz.prog 31 #[clV ⟨k, so, ad, po, n, s, he, ms⟩] w fun e w' => e = .returned (.bool (Pa.okC ⟨k, so, ad, po, n, s, he, ms⟩)) ∧ Below w.heap.size w w' := by
  have hq := eqCall
  have hf : Pa.inR k 1 13 = false := by rw [Pa.inR_false]; exact hk
  have k1 : (k == 1) = false := by rw [beq_eq_false_iff_ne]; omega
  have k2 : (k == 2) = false := by rw [beq_eq_false_iff_ne]; omega
  have k3 : (k == 3) = false := by rw [beq_eq_false_iff_ne]; omega
  have k4 : (k == 4) = false := by rw [beq_eq_false_iff_ne]; omega
  have k5 : (k == 5) = false := by rw [beq_eq_false_iff_ne]; omega
  have k6 : (k == 6) = false := by rw [beq_eq_false_iff_ne]; omega
  have k7 : (k == 7) = false := by rw [beq_eq_false_iff_ne]; omega
  have k8 : (k == 8) = false := by rw [beq_eq_false_iff_ne]; omega
  have k9 : (k == 9) = false := by rw [beq_eq_false_iff_ne]; omega
  have k10 : (k == 10) = false := by rw [beq_eq_false_iff_ne]; omega
  have k11 : (k == 11) = false := by rw [beq_eq_false_iff_ne]; omega
  have k12 : (k == 12) = false := by rw [beq_eq_false_iff_ne]; omega
  have k13 : (k == 13) = false := by rw [beq_eq_false_iff_ne]; omega
  clear hk
  unfold clV
  go_enter Tryz.func31, Tryz.ntmps31
  go_wp2_with (first | (go_at_call 30; refine (within_any _ _ _ _).mono ?_; rintro e w' ⟨rfl, rfl⟩) | (go_at_call 23; refine (valid_any _ _).mono ?_; rintro e w' ⟨rfl, rfl⟩))
  all_goals
    go_ret
    refine ⟨ret_bool ?_, ?_⟩
    · simp_all [Pa.okC, Pa.needC, Pa.c0, Pa.i0, Pa.i1, Pa.v0, Pa.e0]
      all_goals omega
    · repeat (first | exact Below.refl _ _ | refine Below.setCell ?_ (by simp) _ | refine Below.alloc ?_ (by simp) _ | apply Below.drew)

theorem validCall_any (c : Pa.Cl) (w : World) (ok : Ok w) (hN : NameC) :
    Calls Tryz.prog 31 #[clV c] w fun e w' => e = .returned (.bool (Pa.okC c)) ∧ Below w.heap.size w w' := by
  obtain ⟨k, so, ad, po, n, s, he, ms⟩ := c
  by_cases hk : 1 ≤ k ∧ k ≤ 13
  · rcases Pa.kind_cases hk with rfl | rfl | rfl | rfl | rfl | rfl | rfl | rfl | rfl | rfl | rfl | rfl | rfl
    · exact validCall_1 so ad po n he ms s w
    · exact validCall_2 so ad po n he ms s w
    · exact validCall_3 so ad po n he ms s w
    · exact validCall_4 so ad po n he ms s w
    · exact validCall_5 so ad po n he ms s w
    · exact validCall_6 so ad po n he ms s w
    · exact validCall_7 so ad po n he ms s w
    · exact validCall_8 so ad po n he ms s w
    · exact validCall_9 so ad po n he ms s w
    · exact validCall_10 so ad po n he ms s w
    · exact validCall_11 so ad po n he ms s w
    · exact validCall_12 so ad po n he ms s w ok hN
    · exact validCall_13 so ad po n he ms s w
  · exact validCall_x k hk so ad po n he ms s w

end Go.Proofs.YtgajoiijebbagaaGreatDoor
