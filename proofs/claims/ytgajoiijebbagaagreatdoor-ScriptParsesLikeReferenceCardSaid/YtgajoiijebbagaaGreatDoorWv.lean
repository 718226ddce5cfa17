/-
  The walks of the validity of calls and of actions. Conditions: the library's variables read as laid.
-/
import Derived.Test.YtgajoiijebbagaaGreatDoorWc
/-! The walk of script.validCall, kind by kind. Conditions: as each says; of dns.ValidName its contract is asked. -/
namespace Go.Proofs.YtgajoiijebbagaaGreatDoor
open Go.RowKit Go.Proofs

/-- What dns.ValidName answers. -/
def NameC : Prop := ∀ (s : ByteArray) (w : World), Ok w → Calls Tryz.prog 22 #[.string s] w fun e w' => e = .returned (.bool (Pa.nameOk s.data.toList)) ∧ Below w.heap.size w w'

theorem Pa.i0 : Pa.inR 0 0 1000000 = true := by decide
theorem Pa.i1 : Pa.inR 0 0 65535 = true := by decide
theorem Pa.v0 : Pa.validB 0 = true := by decide
theorem Pa.e0 : ByteArray.size ⟨#[]⟩ = 0 := rfl

set_option linter.unusedSimpArgs false in
set_option maxHeartbeats 2000000 in
set_option maxRecDepth 10000 in
theorem validCall_1 (so ad po n he ms : Int) (s : ByteArray) (w : World) :
    Calls Tryz.prog 31 #[clV ⟨1, so, ad, po, n, s, he, ms⟩] w fun e w' => e = .returned (.bool (Pa.okC ⟨1, so, ad, po, n, s, he, ms⟩)) ∧ Below w.heap.size w w' := by
  have hq := eqCall
  have hk : Pa.inR 1 1 13 = true := by decide
  unfold clV
  go_enter Tryz.func31, Tryz.ntmps31
  go_wp2_with (first | (go_at_call 30; refine (within_any _ _ _ _).mono ?_; rintro e w' ⟨rfl, rfl⟩) | (go_at_call 23; refine (valid_any _ _).mono ?_; rintro e w' ⟨rfl, rfl⟩))
  go_region
  all_goals go_wp2_with (first | (go_at_call 30; refine (within_any _ _ _ _).mono ?_; rintro e w' ⟨rfl, rfl⟩) | (go_at_call 23; refine (valid_any _ _).mono ?_; rintro e w' ⟨rfl, rfl⟩))
  all_goals
    go_ret
    refine ⟨ret_bool ?_, ?_⟩
    · simp_all [Pa.okC, Pa.needC, Pa.c0, Pa.i0, Pa.i1, Pa.v0, Pa.e0]
      all_goals omega
    · repeat (first | exact Below.refl _ _ | refine Below.setCell ?_ (by simp) _ | refine Below.alloc ?_ (by simp) _ | apply Below.drew)

set_option linter.unusedSimpArgs false in
set_option maxHeartbeats 2000000 in
set_option maxRecDepth 10000 in
theorem validCall_2 (so ad po n he ms : Int) (s : ByteArray) (w : World) :
    Calls Tryz.prog 31 #[clV ⟨2, so, ad, po, n, s, he, ms⟩] w fun e w' => e = .returned (.bool (Pa.okC ⟨2, so, ad, po, n, s, he, ms⟩)) ∧ Below w.heap.size w w' := by
  have hq := eqCall
  have hk : Pa.inR 2 1 13 = true := by decide
  unfold clV
  go_enter Tryz.func31, Tryz.ntmps31
  go_wp2_with (first | (go_at_call 30; refine (within_any _ _ _ _).mono ?_; rintro e w' ⟨rfl, rfl⟩) | (go_at_call 23; refine (valid_any _ _).mono ?_; rintro e w' ⟨rfl, rfl⟩))
  all_goals
    go_ret
    refine ⟨ret_bool ?_, ?_⟩
    · simp_all [Pa.okC, Pa.needC, Pa.c0, Pa.i0, Pa.i1, Pa.v0, Pa.e0]
      all_goals omega
    · repeat (first | exact Below.refl _ _ | refine Below.setCell ?_ (by simp) _ | refine Below.alloc ?_ (by simp) _ | apply Below.drew)

set_option linter.unusedSimpArgs false in
set_option maxHeartbeats 2000000 in
set_option maxRecDepth 10000 in
theorem validCall_3 (so ad po n he ms : Int) (s : ByteArray) (w : World) :
    Calls Tryz.prog 31 #[clV ⟨3, so, ad, po, n, s, he, ms⟩] w fun e w' => e = .returned (.bool (Pa.okC ⟨3, so, ad, po, n, s, he, ms⟩)) ∧ Below w.heap.size w w' := by
  have hq := eqCall
  have hk : Pa.inR 3 1 13 = true := by decide
  unfold clV
  go_enter Tryz.func31, Tryz.ntmps31
  go_wp2_with (first | (go_at_call 30; refine (within_any _ _ _ _).mono ?_; rintro e w' ⟨rfl, rfl⟩) | (go_at_call 23; refine (valid_any _ _).mono ?_; rintro e w' ⟨rfl, rfl⟩))
  all_goals
    go_ret
    refine ⟨ret_bool ?_, ?_⟩
    · simp_all [Pa.okC, Pa.needC, Pa.c0, Pa.i0, Pa.i1, Pa.v0, Pa.e0]
      all_goals omega
    · repeat (first | exact Below.refl _ _ | refine Below.setCell ?_ (by simp) _ | refine Below.alloc ?_ (by simp) _ | apply Below.drew)

set_option linter.unusedSimpArgs false in
set_option maxHeartbeats 2000000 in
set_option maxRecDepth 10000 in
theorem validCall_4 (so ad po n he ms : Int) (s : ByteArray) (w : World) :
    Calls Tryz.prog 31 #[clV ⟨4, so, ad, po, n, s, he, ms⟩] w fun e w' => e = .returned (.bool (Pa.okC ⟨4, so, ad, po, n, s, he, ms⟩)) ∧ Below w.heap.size w w' := by
  have hq := eqCall
  have hk : Pa.inR 4 1 13 = true := by decide
  unfold clV
  go_enter Tryz.func31, Tryz.ntmps31
  go_wp2_with (first | (go_at_call 30; refine (within_any _ _ _ _).mono ?_; rintro e w' ⟨rfl, rfl⟩) | (go_at_call 23; refine (valid_any _ _).mono ?_; rintro e w' ⟨rfl, rfl⟩))
  go_region
  all_goals go_wp2_with (first | (go_at_call 30; refine (within_any _ _ _ _).mono ?_; rintro e w' ⟨rfl, rfl⟩) | (go_at_call 23; refine (valid_any _ _).mono ?_; rintro e w' ⟨rfl, rfl⟩))
  all_goals
    go_ret
    refine ⟨ret_bool ?_, ?_⟩
    · simp_all [Pa.okC, Pa.needC, Pa.c0, Pa.i0, Pa.i1, Pa.v0, Pa.e0]
      all_goals omega
    · repeat (first | exact Below.refl _ _ | refine Below.setCell ?_ (by simp) _ | refine Below.alloc ?_ (by simp) _ | apply Below.drew)

set_option linter.unusedSimpArgs false in
set_option maxHeartbeats 2000000 in
set_option maxRecDepth 10000 in
theorem validCall_5 (so ad po n he ms : Int) (s : ByteArray) (w : World) :
    Calls Tryz.prog 31 #[clV ⟨5, so, ad, po, n, s, he, ms⟩] w fun e w' => e = .returned (.bool (Pa.okC ⟨5, so, ad, po, n, s, he, ms⟩)) ∧ Below w.heap.size w w' := by
  have hq := eqCall
  have hk : Pa.inR 5 1 13 = true := by decide
  unfold clV
  go_enter Tryz.func31, Tryz.ntmps31
  go_wp2_with (first | (go_at_call 30; refine (within_any _ _ _ _).mono ?_; rintro e w' ⟨rfl, rfl⟩) | (go_at_call 23; refine (valid_any _ _).mono ?_; rintro e w' ⟨rfl, rfl⟩))
  all_goals
    go_ret
    refine ⟨ret_bool ?_, ?_⟩
    · simp_all [Pa.okC, Pa.needC, Pa.c0, Pa.i0, Pa.i1, Pa.v0, Pa.e0]
      all_goals omega
    · repeat (first | exact Below.refl _ _ | refine Below.setCell ?_ (by simp) _ | refine Below.alloc ?_ (by simp) _ | apply Below.drew)

set_option linter.unusedSimpArgs false in
set_option maxHeartbeats 2000000 in
set_option maxRecDepth 10000 in
theorem validCall_6 (so ad po n he ms : Int) (s : ByteArray) (w : World) :
    Calls Tryz.prog 31 #[clV ⟨6, so, ad, po, n, s, he, ms⟩] w fun e w' => e = .returned (.bool (Pa.okC ⟨6, so, ad, po, n, s, he, ms⟩)) ∧ Below w.heap.size w w' := by
  have hq := eqCall
  have hk : Pa.inR 6 1 13 = true := by decide
  unfold clV
  go_enter Tryz.func31, Tryz.ntmps31
  go_wp2_with (first | (go_at_call 30; refine (within_any _ _ _ _).mono ?_; rintro e w' ⟨rfl, rfl⟩) | (go_at_call 23; refine (valid_any _ _).mono ?_; rintro e w' ⟨rfl, rfl⟩))
  all_goals
    go_ret
    refine ⟨ret_bool ?_, ?_⟩
    · simp_all [Pa.okC, Pa.needC, Pa.c0, Pa.i0, Pa.i1, Pa.v0, Pa.e0]
      all_goals omega
    · repeat (first | exact Below.refl _ _ | refine Below.setCell ?_ (by simp) _ | refine Below.alloc ?_ (by simp) _ | apply Below.drew)

set_option linter.unusedSimpArgs false in
set_option maxHeartbeats 2000000 in
set_option maxRecDepth 10000 in
theorem validCall_7 (so ad po n he ms : Int) (s : ByteArray) (w : World) :
    Calls Tryz.prog 31 #[clV ⟨7, so, ad, po, n, s, he, ms⟩] w fun e w' => e = .returned (.bool (Pa.okC ⟨7, so, ad, po, n, s, he, ms⟩)) ∧ Below w.heap.size w w' := by
  have hq := eqCall
  have hk : Pa.inR 7 1 13 = true := by decide
  unfold clV
  go_enter Tryz.func31, Tryz.ntmps31
  go_wp2_with (first | (go_at_call 30; refine (within_any _ _ _ _).mono ?_; rintro e w' ⟨rfl, rfl⟩) | (go_at_call 23; refine (valid_any _ _).mono ?_; rintro e w' ⟨rfl, rfl⟩))
  all_goals
    go_ret
    refine ⟨ret_bool ?_, ?_⟩
    · simp_all [Pa.okC, Pa.needC, Pa.c0, Pa.i0, Pa.i1, Pa.v0, Pa.e0]
      all_goals omega
    · repeat (first | exact Below.refl _ _ | refine Below.setCell ?_ (by simp) _ | refine Below.alloc ?_ (by simp) _ | apply Below.drew)

set_option linter.unusedSimpArgs false in
set_option maxHeartbeats 2000000 in
set_option maxRecDepth 10000 in
theorem validCall_8 (so ad po n he ms : Int) (s : ByteArray) (w : World) :
    Calls Tryz.prog 31 #[clV ⟨8, so, ad, po, n, s, he, ms⟩] w fun e w' => e = .returned (.bool (Pa.okC ⟨8, so, ad, po, n, s, he, ms⟩)) ∧ Below w.heap.size w w' := by
  have hq := eqCall
  have hk : Pa.inR 8 1 13 = true := by decide
  unfold clV
  go_enter Tryz.func31, Tryz.ntmps31
  go_wp2_with (first | (go_at_call 30; refine (within_any _ _ _ _).mono ?_; rintro e w' ⟨rfl, rfl⟩) | (go_at_call 23; refine (valid_any _ _).mono ?_; rintro e w' ⟨rfl, rfl⟩))
  all_goals
    go_ret
    refine ⟨ret_bool ?_, ?_⟩
    · simp_all [Pa.okC, Pa.needC, Pa.c0, Pa.i0, Pa.i1, Pa.v0, Pa.e0]
      all_goals omega
    · repeat (first | exact Below.refl _ _ | refine Below.setCell ?_ (by simp) _ | refine Below.alloc ?_ (by simp) _ | apply Below.drew)

set_option linter.unusedSimpArgs false in
set_option maxHeartbeats 2000000 in
set_option maxRecDepth 10000 in
theorem validCall_9 (so ad po n he ms : Int) (s : ByteArray) (w : World) :
    Calls Tryz.prog 31 #[clV ⟨9, so, ad, po, n, s, he, ms⟩] w fun e w' => e = .returned (.bool (Pa.okC ⟨9, so, ad, po, n, s, he, ms⟩)) ∧ Below w.heap.size w w' := by
  have hq := eqCall
  have hk : Pa.inR 9 1 13 = true := by decide
  unfold clV
  go_enter Tryz.func31, Tryz.ntmps31
  go_wp2_with (first | (go_at_call 30; refine (within_any _ _ _ _).mono ?_; rintro e w' ⟨rfl, rfl⟩) | (go_at_call 23; refine (valid_any _ _).mono ?_; rintro e w' ⟨rfl, rfl⟩))
  all_goals
    go_ret
    refine ⟨ret_bool ?_, ?_⟩
    · simp_all [Pa.okC, Pa.needC, Pa.c0, Pa.i0, Pa.i1, Pa.v0, Pa.e0]
      all_goals omega
    · repeat (first | exact Below.refl _ _ | refine Below.setCell ?_ (by simp) _ | refine Below.alloc ?_ (by simp) _ | apply Below.drew)

set_option linter.unusedSimpArgs false in
set_option maxHeartbeats 2000000 in
set_option maxRecDepth 10000 in
theorem validCall_10 (so ad po n he ms : Int) (s : ByteArray) (w : World) :
    Calls Tryz.prog 31 #[clV ⟨10, so, ad, po, n, s, he, ms⟩] w fun e w' => e = .returned (.bool (Pa.okC ⟨10, so, ad, po, n, s, he, ms⟩)) ∧ Below w.heap.size w w' := by
  have hq := eqCall
  have hk : Pa.inR 10 1 13 = true := by decide
  unfold clV
  go_enter Tryz.func31, Tryz.ntmps31
  go_wp2_with (first | (go_at_call 30; refine (within_any _ _ _ _).mono ?_; rintro e w' ⟨rfl, rfl⟩) | (go_at_call 23; refine (valid_any _ _).mono ?_; rintro e w' ⟨rfl, rfl⟩))
  go_region
  all_goals go_wp2_with (first | (go_at_call 30; refine (within_any _ _ _ _).mono ?_; rintro e w' ⟨rfl, rfl⟩) | (go_at_call 23; refine (valid_any _ _).mono ?_; rintro e w' ⟨rfl, rfl⟩))
  all_goals
    go_ret
    refine ⟨ret_bool ?_, ?_⟩
    · simp_all [Pa.okC, Pa.needC, Pa.c0, Pa.i0, Pa.i1, Pa.v0, Pa.e0]
      all_goals omega
    · repeat (first | exact Below.refl _ _ | refine Below.setCell ?_ (by simp) _ | refine Below.alloc ?_ (by simp) _ | apply Below.drew)

set_option linter.unusedSimpArgs false in
set_option maxHeartbeats 2000000 in
set_option maxRecDepth 10000 in
theorem validCall_11 (so ad po n he ms : Int) (s : ByteArray) (w : World) :
    Calls Tryz.prog 31 #[clV ⟨11, so, ad, po, n, s, he, ms⟩] w fun e w' => e = .returned (.bool (Pa.okC ⟨11, so, ad, po, n, s, he, ms⟩)) ∧ Below w.heap.size w w' := by
  have hq := eqCall
  have hk : Pa.inR 11 1 13 = true := by decide
  unfold clV
  go_enter Tryz.func31, Tryz.ntmps31
  go_wp2_with (first | (go_at_call 30; refine (within_any _ _ _ _).mono ?_; rintro e w' ⟨rfl, rfl⟩) | (go_at_call 23; refine (valid_any _ _).mono ?_; rintro e w' ⟨rfl, rfl⟩))
  all_goals
    go_ret
    refine ⟨ret_bool ?_, ?_⟩
    · simp_all [Pa.okC, Pa.needC, Pa.c0, Pa.i0, Pa.i1, Pa.v0, Pa.e0]
      all_goals omega
    · repeat (first | exact Below.refl _ _ | refine Below.setCell ?_ (by simp) _ | refine Below.alloc ?_ (by simp) _ | apply Below.drew)

set_option linter.unusedSimpArgs false in
set_option maxHeartbeats 2000000 in
set_option maxRecDepth 10000 in
theorem validCall_12 (so ad po n he ms : Int) (s : ByteArray) (w : World) (ok : Ok w) (hN : NameC) :
    Calls Tryz.prog 31 #[clV ⟨12, so, ad, po, n, s, he, ms⟩] w fun e w' => e = .returned (.bool (Pa.okC ⟨12, so, ad, po, n, s, he, ms⟩)) ∧ Below w.heap.size w w' := by
  have hq := eqCall
  have hk : Pa.inR 12 1 13 = true := by decide
  have HZ := Lib.hid (show Pa.nameOk s.data.toList = true → (s.size : Int) ≤ 2100 from fun h => by simp only [Pa.nameOk, Bool.and_eq_true, decide_eq_true_eq] at h; have : s.size ≤ 60 := h.1; omega)
  unfold clV
  go_enter Tryz.func31, Tryz.ntmps31
  go_wp2_with (first | (go_at_call 30; refine (within_any _ _ _ _).mono ?_; rintro e w' ⟨rfl, rfl⟩) | (go_at_call 23; refine (valid_any _ _).mono ?_; rintro e w' ⟨rfl, rfl⟩) | (go_at_call 22; refine (hN s _ (ok.below ?_)).mono ?_; rotate_left 1; (rintro e w4 ⟨rfl, hb4⟩; have g0 : w4.cell? ⟨w.heap.size, 0, none⟩ = some (.int .i64 12) := cell_below hb4 (by simp; omega) (by simp); have r0 : w4.cell? ⟨w.heap.size + 1, 0, none⟩ = some (.int .i64 12) := cell_below hb4 (by simp) (by simp); have g1 : w4.cell? ⟨w.heap.size, 1, none⟩ = some (.int .i64 so) := cell_below hb4 (by simp; omega) (by simp); have r1 : w4.cell? ⟨w.heap.size + 1, 1, none⟩ = some (.int .i64 0) := cell_below hb4 (by simp) (by simp); have g2 : w4.cell? ⟨w.heap.size, 2, none⟩ = some (.int .i64 ad) := cell_below hb4 (by simp; omega) (by simp); have r2 : w4.cell? ⟨w.heap.size + 1, 2, none⟩ = some (.int .i64 0) := cell_below hb4 (by simp) (by simp); have g3 : w4.cell? ⟨w.heap.size, 3, none⟩ = some (.int .i64 po) := cell_below hb4 (by simp; omega) (by simp); have r3 : w4.cell? ⟨w.heap.size + 1, 3, none⟩ = some (.int .i64 0) := cell_below hb4 (by simp) (by simp); have g4 : w4.cell? ⟨w.heap.size, 4, none⟩ = some (.int .i64 n) := cell_below hb4 (by simp; omega) (by simp); have r4 : w4.cell? ⟨w.heap.size + 1, 4, none⟩ = some (.int .i64 0) := cell_below hb4 (by simp) (by simp); have g5 : w4.cell? ⟨w.heap.size, 5, none⟩ = some (.string s) := cell_below hb4 (by simp; omega) (by simp); have r5 : w4.cell? ⟨w.heap.size + 1, 5, none⟩ = some (.string s) := cell_below hb4 (by simp) (by simp); have g6 : w4.cell? ⟨w.heap.size, 6, none⟩ = some (.int .i64 he) := cell_below hb4 (by simp; omega) (by simp); have r6 : w4.cell? ⟨w.heap.size + 1, 6, none⟩ = some (.int .i64 0) := cell_below hb4 (by simp) (by simp); have g7 : w4.cell? ⟨w.heap.size, 7, none⟩ = some (.int .i64 ms) := cell_below hb4 (by simp; omega) (by simp); have r7 : w4.cell? ⟨w.heap.size + 1, 7, none⟩ = some (.int .i64 0) := cell_below hb4 (by simp) (by simp))))
  go_region
  all_goals go_wp2_with (first | (go_at_call 30; refine (within_any _ _ _ _).mono ?_; rintro e w' ⟨rfl, rfl⟩) | (go_at_call 23; refine (valid_any _ _).mono ?_; rintro e w' ⟨rfl, rfl⟩) | (go_at_call 22; refine (hN s _ (ok.below ?_)).mono ?_; rotate_left 1; (rintro e w4 ⟨rfl, hb4⟩; have g0 : w4.cell? ⟨w.heap.size, 0, none⟩ = some (.int .i64 12) := cell_below hb4 (by simp; omega) (by simp); have r0 : w4.cell? ⟨w.heap.size + 1, 0, none⟩ = some (.int .i64 12) := cell_below hb4 (by simp) (by simp); have g1 : w4.cell? ⟨w.heap.size, 1, none⟩ = some (.int .i64 so) := cell_below hb4 (by simp; omega) (by simp); have r1 : w4.cell? ⟨w.heap.size + 1, 1, none⟩ = some (.int .i64 0) := cell_below hb4 (by simp) (by simp); have g2 : w4.cell? ⟨w.heap.size, 2, none⟩ = some (.int .i64 ad) := cell_below hb4 (by simp; omega) (by simp); have r2 : w4.cell? ⟨w.heap.size + 1, 2, none⟩ = some (.int .i64 0) := cell_below hb4 (by simp) (by simp); have g3 : w4.cell? ⟨w.heap.size, 3, none⟩ = some (.int .i64 po) := cell_below hb4 (by simp; omega) (by simp); have r3 : w4.cell? ⟨w.heap.size + 1, 3, none⟩ = some (.int .i64 0) := cell_below hb4 (by simp) (by simp); have g4 : w4.cell? ⟨w.heap.size, 4, none⟩ = some (.int .i64 n) := cell_below hb4 (by simp; omega) (by simp); have r4 : w4.cell? ⟨w.heap.size + 1, 4, none⟩ = some (.int .i64 0) := cell_below hb4 (by simp) (by simp); have g5 : w4.cell? ⟨w.heap.size, 5, none⟩ = some (.string s) := cell_below hb4 (by simp; omega) (by simp); have r5 : w4.cell? ⟨w.heap.size + 1, 5, none⟩ = some (.string s) := cell_below hb4 (by simp) (by simp); have g6 : w4.cell? ⟨w.heap.size, 6, none⟩ = some (.int .i64 he) := cell_below hb4 (by simp; omega) (by simp); have r6 : w4.cell? ⟨w.heap.size + 1, 6, none⟩ = some (.int .i64 0) := cell_below hb4 (by simp) (by simp); have g7 : w4.cell? ⟨w.heap.size, 7, none⟩ = some (.int .i64 ms) := cell_below hb4 (by simp; omega) (by simp); have r7 : w4.cell? ⟨w.heap.size + 1, 7, none⟩ = some (.int .i64 0) := cell_below hb4 (by simp) (by simp))))
  all_goals first
    | ((repeat (first | exact Below.refl _ _ | refine Below.setCell ?_ (by simp) _ | refine Below.alloc ?_ (by simp) _ | apply Below.drew)); done)
    | (go_ret
       refine ⟨ret_bool ?_, ?_⟩
       · have hz := HZ.out
         simp_all [Pa.okC, Pa.needC, Pa.c0, Pa.i0, Pa.i1, Pa.v0]
       · refine below_on ?_ hb4
         repeat (first | exact Below.refl _ _ | refine Below.setCell ?_ (by simp) _ | refine Below.alloc ?_ (by simp) _ | apply Below.drew))

set_option linter.unusedSimpArgs false in
set_option maxHeartbeats 2000000 in
set_option maxRecDepth 10000 in
theorem validCall_13 (so ad po n he ms : Int) (s : ByteArray) (w : World) :
    Calls Tryz.prog 31 #[clV ⟨13, so, ad, po, n, s, he, ms⟩] w fun e w' => e = .returned (.bool (Pa.okC ⟨13, so, ad, po, n, s, he, ms⟩)) ∧ Below w.heap.size w w' := by
  have hq := eqCall
  have hk : Pa.inR 13 1 13 = true := by decide
  unfold clV
  go_enter Tryz.func31, Tryz.ntmps31
  go_wp2_with (first | (go_at_call 30; refine (within_any _ _ _ _).mono ?_; rintro e w' ⟨rfl, rfl⟩) | (go_at_call 23; refine (valid_any _ _).mono ?_; rintro e w' ⟨rfl, rfl⟩))
  go_region
  all_goals go_wp2_with (first | (go_at_call 30; refine (within_any _ _ _ _).mono ?_; rintro e w' ⟨rfl, rfl⟩) | (go_at_call 23; refine (valid_any _ _).mono ?_; rintro e w' ⟨rfl, rfl⟩))
  all_goals
    go_ret
    refine ⟨ret_bool ?_, ?_⟩
    · simp_all [Pa.okC, Pa.needC, Pa.c0, Pa.i0, Pa.i1, Pa.v0, Pa.e0]
      all_goals omega
    · repeat (first | exact Below.refl _ _ | refine Below.setCell ?_ (by simp) _ | refine Below.alloc ?_ (by simp) _ | apply Below.drew)

set_option linter.unusedSimpArgs false in
set_option maxHeartbeats 2000000 in
set_option maxRecDepth 10000 in
theorem validCall_x (k : Int) (hk : ¬ (1 ≤ k ∧ k ≤ 13)) (so ad po n he ms : Int) (s : ByteArray) (w : World) :
    Calls Tryz.prog 31 #[clV ⟨k, so, ad, po, n, s, he, ms⟩] w fun e w' => e = .returned (.bool (Pa.okC ⟨k, so, ad, po, n, s, he, ms⟩)) ∧ Below w.heap.size w w' := by
  have hq := eqCall
  have hf : Pa.inR k 1 13 = false := by rw [Pa.inR_false]; exact hk
  have k1 : (k == 1) = false := by rw [beq_eq_false_iff_ne]; omega
  have k2 : (k == 2) = false := by rw [beq_eq_false_iff_ne]; omega
  have k3 : (k == 3) = false := by rw [beq_eq_false_iff_ne]; omega
  have k4 : (k == 4) = false := by rw [beq_eq_false_iff_ne]; omega
  have k5 : (k == 5) = false := by rw [beq_eq_false_iff_ne]; omega
  have k6 : (k == 6) = false := by rw [beq_eq_false_iff_ne]; omega
  have k7 : (k == 7) = false := by rw [beq_eq_false_iff_ne]; omega
  have k8 : (k == 8) = false := by rw [beq_eq_false_iff_ne]; omega
  have k9 : (k == 9) = false := by rw [beq_eq_false_iff_ne]; omega
  have k10 : (k == 10) = false := by rw [beq_eq_false_iff_ne]; omega
  have k11 : (k == 11) = false := by rw [beq_eq_false_iff_ne]; omega
  have k12 : (k == 12) = false := by rw [beq_eq_false_iff_ne]; omega
  have k13 : (k == 13) = false := by rw [beq_eq_false_iff_ne]; omega
  clear hk
  unfold clV
  go_enter Tryz.func31, Tryz.ntmps31
  go_wp2_with (first | (go_at_call 30; refine (within_any _ _ _ _).mono ?_; rintro e w' ⟨rfl, rfl⟩) | (go_at_call 23; refine (valid_any _ _).mono ?_; rintro e w' ⟨rfl, rfl⟩))
  all_goals
    go_ret
    refine ⟨ret_bool ?_, ?_⟩
    · simp_all [Pa.okC, Pa.needC, Pa.c0, Pa.i0, Pa.i1, Pa.v0, Pa.e0]
      all_goals omega
    · repeat (first | exact Below.refl _ _ | refine Below.setCell ?_ (by simp) _ | refine Below.alloc ?_ (by simp) _ | apply Below.drew)

theorem validCall_any (c : Pa.Cl) (w : World) (ok : Ok w) (hN : NameC) :
    Calls Tryz.prog 31 #[clV c] w fun e w' => e = .returned (.bool (Pa.okC c)) ∧ Below w.heap.size w w' := by
  obtain ⟨k, so, ad, po, n, s, he, ms⟩ := c
  by_cases hk : 1 ≤ k ∧ k ≤ 13
  · rcases Pa.kind_cases hk with rfl | rfl | rfl | rfl | rfl | rfl | rfl | rfl | rfl | rfl | rfl | rfl | rfl
    · exact validCall_1 so ad po n he ms s w
    · exact validCall_2 so ad po n he ms s w
    · exact validCall_3 so ad po n he ms s w
    · exact validCall_4 so ad po n he ms s w
    · exact validCall_5 so ad po n he ms s w
    · exact validCall_6 so ad po n he ms s w
    · exact validCall_7 so ad po n he ms s w
    · exact validCall_8 so ad po n he ms s w
    · exact validCall_9 so ad po n he ms s w
    · exact validCall_10 so ad po n he ms s w
    · exact validCall_11 so ad po n he ms s w
    · exact validCall_12 so ad po n he ms s w ok hN
    · exact validCall_13 so ad po n he ms s w
  · exact validCall_x k hk so ad po n he ms s w

end Go.Proofs.YtgajoiijebbagaaGreatDoor

/-! The walk of script.Valid, kind by kind. Conditions: the fates lie in memory; of dns.ValidName its contract is asked. -/
namespace Go.Proofs.YtgajoiijebbagaaGreatDoor
open Go.RowKit Go.Proofs

theorem Fs.nil (w : World) : Fs w (.slice none 0 0) [] := ⟨none, 0, rfl, fun h => absurd rfl h⟩

set_option linter.unusedSimpArgs false in
set_option maxHeartbeats 2000000 in
set_option maxRecDepth 10000 in
theorem valid_1 (hh x1 x2 x3 x4 x5 x7 x8 n : Int) (x6 s : ByteArray) (fs : List Int) (fv : Value) (w : World) (ok : Ok w) (hN : NameC) (hf : Fs w fv fs) (hl : fs.length ≤ 9223372036854775807) :
    Calls Tryz.prog 14 #[acV ⟨1, hh, ⟨x1, x2, x3, x4, x5, x6, x7, x8⟩, n, fs, s⟩ fv] w fun e w' => e = .returned (.bool (Pa.okA ⟨1, hh, ⟨x1, x2, x3, x4, x5, x6, x7, x8⟩, n, fs, s⟩)) ∧ Below w.heap.size w w' := by
  have HF := Lib.hid hf
  obtain ⟨va, ca, rfl, -⟩ := hf
  have hk : Pa.inR 1 1 4 = true := by decide
  unfold acV
  go_enter Tryz.func14, Tryz.ntmps14
  go_wp2_with (first | (go_at_call 30; refine (within_any _ _ _ _).mono ?_; rintro e w' ⟨rfl, rfl⟩) | (go_at_call 31; refine (validCall_any ⟨x1, x2, x3, x4, x5, x6, x7, x8⟩ _ (ok.below ?_) hN).mono ?_; rotate_left 1; (rintro e w4 ⟨rfl, hb4⟩; have g0 : w4.cell? ⟨w.heap.size, 0, none⟩ = some (.int .i64 1) := cell_below hb4 (by simp; omega) (by simp); have r0 : w4.cell? ⟨w.heap.size + 1, 0, none⟩ = some (.int .i64 1) := cell_below hb4 (by simp) (by simp); have g1 : w4.cell? ⟨w.heap.size, 1, none⟩ = some (.int .i64 hh) := cell_below hb4 (by simp; omega) (by simp); have r1 : w4.cell? ⟨w.heap.size + 1, 1, none⟩ = some (.int .i64 hh) := cell_below hb4 (by simp) (by simp); have g2 : w4.cell? ⟨w.heap.size, 2, none⟩ = some (.int .i64 x1) := cell_below hb4 (by simp; omega) (by simp); have r2 : w4.cell? ⟨w.heap.size + 1, 2, none⟩ = some (.int .i64 x1) := cell_below hb4 (by simp) (by simp); have g3 : w4.cell? ⟨w.heap.size, 3, none⟩ = some (.int .i64 x2) := cell_below hb4 (by simp; omega) (by simp); have r3 : w4.cell? ⟨w.heap.size + 1, 3, none⟩ = some (.int .i64 x2) := cell_below hb4 (by simp) (by simp); have g4 : w4.cell? ⟨w.heap.size, 4, none⟩ = some (.int .i64 x3) := cell_below hb4 (by simp; omega) (by simp); have r4 : w4.cell? ⟨w.heap.size + 1, 4, none⟩ = some (.int .i64 x3) := cell_below hb4 (by simp) (by simp); have g5 : w4.cell? ⟨w.heap.size, 5, none⟩ = some (.int .i64 x4) := cell_below hb4 (by simp; omega) (by simp); have r5 : w4.cell? ⟨w.heap.size + 1, 5, none⟩ = some (.int .i64 x4) := cell_below hb4 (by simp) (by simp); have g6 : w4.cell? ⟨w.heap.size, 6, none⟩ = some (.int .i64 x5) := cell_below hb4 (by simp; omega) (by simp); have r6 : w4.cell? ⟨w.heap.size + 1, 6, none⟩ = some (.int .i64 x5) := cell_below hb4 (by simp) (by simp); have g7 : w4.cell? ⟨w.heap.size, 7, none⟩ = some (.string x6) := cell_below hb4 (by simp; omega) (by simp); have r7 : w4.cell? ⟨w.heap.size + 1, 7, none⟩ = some (.string x6) := cell_below hb4 (by simp) (by simp); have g8 : w4.cell? ⟨w.heap.size, 8, none⟩ = some (.int .i64 x7) := cell_below hb4 (by simp; omega) (by simp); have r8 : w4.cell? ⟨w.heap.size + 1, 8, none⟩ = some (.int .i64 x7) := cell_below hb4 (by simp) (by simp); have g9 : w4.cell? ⟨w.heap.size, 9, none⟩ = some (.int .i64 x8) := cell_below hb4 (by simp; omega) (by simp); have r9 : w4.cell? ⟨w.heap.size + 1, 9, none⟩ = some (.int .i64 x8) := cell_below hb4 (by simp) (by simp); have g10 : w4.cell? ⟨w.heap.size, 10, none⟩ = some (.int .i64 n) := cell_below hb4 (by simp; omega) (by simp); have r10 : w4.cell? ⟨w.heap.size + 1, 10, none⟩ = some (.int .i64 0) := cell_below hb4 (by simp) (by simp); have g11 : w4.cell? ⟨w.heap.size, 11, none⟩ = some (.slice va fs.length ca) := cell_below hb4 (by simp; omega) (by simp); have r11 : w4.cell? ⟨w.heap.size + 1, 11, none⟩ = some (.slice none 0 0) := cell_below hb4 (by simp) (by simp); have g12 : w4.cell? ⟨w.heap.size, 12, none⟩ = some (.string s) := cell_below hb4 (by simp; omega) (by simp); have r12 : w4.cell? ⟨w.heap.size + 1, 12, none⟩ = some (.string ⟨#[]⟩) := cell_below hb4 (by simp) (by simp))) | (go_at_call 16; refine (same_any ⟨1, hh, ⟨x1, x2, x3, x4, x5, x6, x7, x8⟩, n, fs, s⟩ ⟨1, hh, ⟨x1, x2, x3, x4, x5, x6, x7, x8⟩, 0, [], ⟨#[]⟩⟩ _ _ _ (HF.out.below ?_) (Fs.nil _) hl (by simp)).mono ?_; rotate_left 1; rintro e w5 ⟨rfl, hb5⟩))
  go_region
  all_goals go_wp2_with (first | (go_at_call 30; refine (within_any _ _ _ _).mono ?_; rintro e w' ⟨rfl, rfl⟩) | (go_at_call 31; refine (validCall_any ⟨x1, x2, x3, x4, x5, x6, x7, x8⟩ _ (ok.below ?_) hN).mono ?_; rotate_left 1; (rintro e w4 ⟨rfl, hb4⟩; have g0 : w4.cell? ⟨w.heap.size, 0, none⟩ = some (.int .i64 1) := cell_below hb4 (by simp; omega) (by simp); have r0 : w4.cell? ⟨w.heap.size + 1, 0, none⟩ = some (.int .i64 1) := cell_below hb4 (by simp) (by simp); have g1 : w4.cell? ⟨w.heap.size, 1, none⟩ = some (.int .i64 hh) := cell_below hb4 (by simp; omega) (by simp); have r1 : w4.cell? ⟨w.heap.size + 1, 1, none⟩ = some (.int .i64 hh) := cell_below hb4 (by simp) (by simp); have g2 : w4.cell? ⟨w.heap.size, 2, none⟩ = some (.int .i64 x1) := cell_below hb4 (by simp; omega) (by simp); have r2 : w4.cell? ⟨w.heap.size + 1, 2, none⟩ = some (.int .i64 x1) := cell_below hb4 (by simp) (by simp); have g3 : w4.cell? ⟨w.heap.size, 3, none⟩ = some (.int .i64 x2) := cell_below hb4 (by simp; omega) (by simp); have r3 : w4.cell? ⟨w.heap.size + 1, 3, none⟩ = some (.int .i64 x2) := cell_below hb4 (by simp) (by simp); have g4 : w4.cell? ⟨w.heap.size, 4, none⟩ = some (.int .i64 x3) := cell_below hb4 (by simp; omega) (by simp); have r4 : w4.cell? ⟨w.heap.size + 1, 4, none⟩ = some (.int .i64 x3) := cell_below hb4 (by simp) (by simp); have g5 : w4.cell? ⟨w.heap.size, 5, none⟩ = some (.int .i64 x4) := cell_below hb4 (by simp; omega) (by simp); have r5 : w4.cell? ⟨w.heap.size + 1, 5, none⟩ = some (.int .i64 x4) := cell_below hb4 (by simp) (by simp); have g6 : w4.cell? ⟨w.heap.size, 6, none⟩ = some (.int .i64 x5) := cell_below hb4 (by simp; omega) (by simp); have r6 : w4.cell? ⟨w.heap.size + 1, 6, none⟩ = some (.int .i64 x5) := cell_below hb4 (by simp) (by simp); have g7 : w4.cell? ⟨w.heap.size, 7, none⟩ = some (.string x6) := cell_below hb4 (by simp; omega) (by simp); have r7 : w4.cell? ⟨w.heap.size + 1, 7, none⟩ = some (.string x6) := cell_below hb4 (by simp) (by simp); have g8 : w4.cell? ⟨w.heap.size, 8, none⟩ = some (.int .i64 x7) := cell_below hb4 (by simp; omega) (by simp); have r8 : w4.cell? ⟨w.heap.size + 1, 8, none⟩ = some (.int .i64 x7) := cell_below hb4 (by simp) (by simp); have g9 : w4.cell? ⟨w.heap.size, 9, none⟩ = some (.int .i64 x8) := cell_below hb4 (by simp; omega) (by simp); have r9 : w4.cell? ⟨w.heap.size + 1, 9, none⟩ = some (.int .i64 x8) := cell_below hb4 (by simp) (by simp); have g10 : w4.cell? ⟨w.heap.size, 10, none⟩ = some (.int .i64 n) := cell_below hb4 (by simp; omega) (by simp); have r10 : w4.cell? ⟨w.heap.size + 1, 10, none⟩ = some (.int .i64 0) := cell_below hb4 (by simp) (by simp); have g11 : w4.cell? ⟨w.heap.size, 11, none⟩ = some (.slice va fs.length ca) := cell_below hb4 (by simp; omega) (by simp); have r11 : w4.cell? ⟨w.heap.size + 1, 11, none⟩ = some (.slice none 0 0) := cell_below hb4 (by simp) (by simp); have g12 : w4.cell? ⟨w.heap.size, 12, none⟩ = some (.string s) := cell_below hb4 (by simp; omega) (by simp); have r12 : w4.cell? ⟨w.heap.size + 1, 12, none⟩ = some (.string ⟨#[]⟩) := cell_below hb4 (by simp) (by simp))) | (go_at_call 16; refine (same_any ⟨1, hh, ⟨x1, x2, x3, x4, x5, x6, x7, x8⟩, n, fs, s⟩ ⟨1, hh, ⟨x1, x2, x3, x4, x5, x6, x7, x8⟩, 0, [], ⟨#[]⟩⟩ _ _ _ (HF.out.below ?_) (Fs.nil _) hl (by simp)).mono ?_; rotate_left 1; rintro e w5 ⟨rfl, hb5⟩))
  all_goals first
    | ((repeat (first | exact Below.refl _ _ | refine Below.setCell ?_ (by simp) _ | refine Below.alloc ?_ (by simp) _ | apply Below.drew)); done)
    | (refine below_on ?_ hb4; (repeat (first | exact Below.refl _ _ | refine Below.setCell ?_ (by simp) _ | refine Below.alloc ?_ (by simp) _ | apply Below.drew)); done)
    | (go_ret
       refine ⟨ret_bool ?_, ?_⟩
       · simp_all [Pa.okA, Pa.okF, Pa.allF, Pa.needA, Pa.a0]
         all_goals omega
       · first
           | ((repeat (first | exact Below.refl _ _ | refine Below.setCell ?_ (by simp) _ | refine Below.alloc ?_ (by simp) _ | apply Below.drew)); done)
           | (refine below_on ?_ hb5; (repeat (first | exact Below.refl _ _ | refine Below.setCell ?_ (by simp) _ | refine Below.alloc ?_ (by simp) _ | apply Below.drew)); done)
           | (refine below_on ?_ hb4; (repeat (first | exact Below.refl _ _ | refine Below.setCell ?_ (by simp) _ | refine Below.alloc ?_ (by simp) _ | apply Below.drew)); done)
           | (refine below_on (below_on ?_ hb4) hb5; (repeat (first | exact Below.refl _ _ | refine Below.setCell ?_ (by simp) _ | refine Below.alloc ?_ (by simp) _ | apply Below.drew)); done))

set_option linter.unusedSimpArgs false in
set_option maxHeartbeats 2000000 in
set_option maxRecDepth 10000 in
theorem valid_2 (hh x1 x2 x3 x4 x5 x7 x8 n : Int) (x6 s : ByteArray) (fs : List Int) (fv : Value) (w : World) (hf : Fs w fv fs) (hl : fs.length ≤ 9223372036854775807) :
    Calls Tryz.prog 14 #[acV ⟨2, hh, ⟨x1, x2, x3, x4, x5, x6, x7, x8⟩, n, fs, s⟩ fv] w fun e w' => e = .returned (.bool (Pa.okA ⟨2, hh, ⟨x1, x2, x3, x4, x5, x6, x7, x8⟩, n, fs, s⟩)) ∧ Below w.heap.size w w' := by
  have HF := Lib.hid hf
  obtain ⟨va, ca, rfl, -⟩ := hf
  have hk : Pa.inR 2 1 4 = true := by decide
  unfold acV
  go_enter Tryz.func14, Tryz.ntmps14
  go_wp2_with (first | (go_at_call 30; refine (within_any _ _ _ _).mono ?_; rintro e w' ⟨rfl, rfl⟩) | (go_at_call 16; refine (same_any ⟨2, hh, ⟨x1, x2, x3, x4, x5, x6, x7, x8⟩, n, fs, s⟩ ⟨2, 0, Pa.c0, n, [], ⟨#[]⟩⟩ _ _ _ (HF.out.below ?_) (Fs.nil _) hl (by simp)).mono ?_; rotate_left 1; rintro e w5 ⟨rfl, hb5⟩))
  all_goals first
    | ((repeat (first | exact Below.refl _ _ | refine Below.setCell ?_ (by simp) _ | refine Below.alloc ?_ (by simp) _ | apply Below.drew)); done)
    | (refine below_on ?_ hb4; (repeat (first | exact Below.refl _ _ | refine Below.setCell ?_ (by simp) _ | refine Below.alloc ?_ (by simp) _ | apply Below.drew)); done)
    | (go_ret
       refine ⟨ret_bool ?_, ?_⟩
       · simp_all [Pa.okA, Pa.okF, Pa.allF, Pa.needA, Pa.a0]
         all_goals omega
       · first
           | ((repeat (first | exact Below.refl _ _ | refine Below.setCell ?_ (by simp) _ | refine Below.alloc ?_ (by simp) _ | apply Below.drew)); done)
           | (refine below_on ?_ hb5; (repeat (first | exact Below.refl _ _ | refine Below.setCell ?_ (by simp) _ | refine Below.alloc ?_ (by simp) _ | apply Below.drew)); done)
           | (refine below_on ?_ hb4; (repeat (first | exact Below.refl _ _ | refine Below.setCell ?_ (by simp) _ | refine Below.alloc ?_ (by simp) _ | apply Below.drew)); done)
           | (refine below_on (below_on ?_ hb4) hb5; (repeat (first | exact Below.refl _ _ | refine Below.setCell ?_ (by simp) _ | refine Below.alloc ?_ (by simp) _ | apply Below.drew)); done))

set_option linter.unusedSimpArgs false in
set_option maxHeartbeats 2000000 in
set_option maxRecDepth 10000 in
theorem valid_3 (hh x1 x2 x3 x4 x5 x7 x8 n : Int) (x6 s : ByteArray) (fs : List Int) (fv : Value) (w : World) (hf : Fs w fv fs) (hl : fs.length ≤ 9223372036854775807) :
    Calls Tryz.prog 14 #[acV ⟨3, hh, ⟨x1, x2, x3, x4, x5, x6, x7, x8⟩, n, fs, s⟩ fv] w fun e w' => e = .returned (.bool (Pa.okA ⟨3, hh, ⟨x1, x2, x3, x4, x5, x6, x7, x8⟩, n, fs, s⟩)) ∧ Below w.heap.size w w' := by
  have HF := Lib.hid hf
  obtain ⟨va, ca, rfl, -⟩ := hf
  have hk : Pa.inR 3 1 4 = true := by decide
  unfold acV
  go_enter Tryz.func14, Tryz.ntmps14
  go_wp2_with (first | (go_at_call 30; refine (within_any _ _ _ _).mono ?_; rintro e w' ⟨rfl, rfl⟩) | (go_at_call 32; refine (containsFunc_any _ fs _ (HF.out.below ?_) hl).mono ?_; rotate_left 1; rintro e w' ⟨rfl, rfl⟩) | (go_at_call 16; refine (same_any ⟨3, hh, ⟨x1, x2, x3, x4, x5, x6, x7, x8⟩, n, fs, s⟩ ⟨3, 0, Pa.c0, 0, fs, ⟨#[]⟩⟩ _ _ _ (HF.out.below ?_) (HF.out.below ?_) hl hl).mono ?_; rotate_left 2; rintro e w5 ⟨rfl, hb5⟩))
  all_goals first
    | ((repeat (first | exact Below.refl _ _ | refine Below.setCell ?_ (by simp) _ | refine Below.alloc ?_ (by simp) _ | apply Below.drew)); done)
    | (refine below_on ?_ hb4; (repeat (first | exact Below.refl _ _ | refine Below.setCell ?_ (by simp) _ | refine Below.alloc ?_ (by simp) _ | apply Below.drew)); done)
    | (go_ret
       refine ⟨ret_bool ?_, ?_⟩
       · simp_all [Pa.okA, Pa.okF, Pa.allF, Pa.needA, Pa.a0]
         all_goals omega
       · first
           | ((repeat (first | exact Below.refl _ _ | refine Below.setCell ?_ (by simp) _ | refine Below.alloc ?_ (by simp) _ | apply Below.drew)); done)
           | (refine below_on ?_ hb5; (repeat (first | exact Below.refl _ _ | refine Below.setCell ?_ (by simp) _ | refine Below.alloc ?_ (by simp) _ | apply Below.drew)); done)
           | (refine below_on ?_ hb4; (repeat (first | exact Below.refl _ _ | refine Below.setCell ?_ (by simp) _ | refine Below.alloc ?_ (by simp) _ | apply Below.drew)); done)
           | (refine below_on (below_on ?_ hb4) hb5; (repeat (first | exact Below.refl _ _ | refine Below.setCell ?_ (by simp) _ | refine Below.alloc ?_ (by simp) _ | apply Below.drew)); done))

set_option linter.unusedSimpArgs false in
set_option maxHeartbeats 2000000 in
set_option maxRecDepth 10000 in
theorem valid_4 (hh x1 x2 x3 x4 x5 x7 x8 n : Int) (x6 s : ByteArray) (fs : List Int) (fv : Value) (w : World) (hf : Fs w fv fs) (hl : fs.length ≤ 9223372036854775807) :
    Calls Tryz.prog 14 #[acV ⟨4, hh, ⟨x1, x2, x3, x4, x5, x6, x7, x8⟩, n, fs, s⟩ fv] w fun e w' => e = .returned (.bool (Pa.okA ⟨4, hh, ⟨x1, x2, x3, x4, x5, x6, x7, x8⟩, n, fs, s⟩)) ∧ Below w.heap.size w w' := by
  have HF := Lib.hid hf
  obtain ⟨va, ca, rfl, -⟩ := hf
  have hk : Pa.inR 4 1 4 = true := by decide
  unfold acV
  go_enter Tryz.func14, Tryz.ntmps14
  go_wp2_with (first | (go_at_call 30; refine (within_any _ _ _ _).mono ?_; rintro e w' ⟨rfl, rfl⟩) | (go_at_call 16; refine (same_any ⟨4, hh, ⟨x1, x2, x3, x4, x5, x6, x7, x8⟩, n, fs, s⟩ ⟨4, 0, Pa.c0, n, [], s⟩ _ _ _ (HF.out.below ?_) (Fs.nil _) hl (by simp)).mono ?_; rotate_left 1; rintro e w5 ⟨rfl, hb5⟩))
  go_region
  all_goals go_wp2_with (first | (go_at_call 30; refine (within_any _ _ _ _).mono ?_; rintro e w' ⟨rfl, rfl⟩) | (go_at_call 16; refine (same_any ⟨4, hh, ⟨x1, x2, x3, x4, x5, x6, x7, x8⟩, n, fs, s⟩ ⟨4, 0, Pa.c0, n, [], s⟩ _ _ _ (HF.out.below ?_) (Fs.nil _) hl (by simp)).mono ?_; rotate_left 1; rintro e w5 ⟨rfl, hb5⟩))
  all_goals first
    | ((repeat (first | exact Below.refl _ _ | refine Below.setCell ?_ (by simp) _ | refine Below.alloc ?_ (by simp) _ | apply Below.drew)); done)
    | (refine below_on ?_ hb4; (repeat (first | exact Below.refl _ _ | refine Below.setCell ?_ (by simp) _ | refine Below.alloc ?_ (by simp) _ | apply Below.drew)); done)
    | (go_ret
       refine ⟨ret_bool ?_, ?_⟩
       · simp_all [Pa.okA, Pa.okF, Pa.allF, Pa.needA, Pa.a0]
         all_goals omega
       · first
           | ((repeat (first | exact Below.refl _ _ | refine Below.setCell ?_ (by simp) _ | refine Below.alloc ?_ (by simp) _ | apply Below.drew)); done)
           | (refine below_on ?_ hb5; (repeat (first | exact Below.refl _ _ | refine Below.setCell ?_ (by simp) _ | refine Below.alloc ?_ (by simp) _ | apply Below.drew)); done)
           | (refine below_on ?_ hb4; (repeat (first | exact Below.refl _ _ | refine Below.setCell ?_ (by simp) _ | refine Below.alloc ?_ (by simp) _ | apply Below.drew)); done)
           | (refine below_on (below_on ?_ hb4) hb5; (repeat (first | exact Below.refl _ _ | refine Below.setCell ?_ (by simp) _ | refine Below.alloc ?_ (by simp) _ | apply Below.drew)); done))

set_option linter.unusedSimpArgs false in
set_option maxHeartbeats 2000000 in
set_option maxRecDepth 10000 in
theorem valid_x (k : Int) (hk : ¬ (1 ≤ k ∧ k ≤ 4)) (hh x1 x2 x3 x4 x5 x7 x8 n : Int) (x6 s : ByteArray) (fs : List Int) (fv : Value) (w : World) (hf : Fs w fv fs) :
    Calls Tryz.prog 14 #[acV ⟨k, hh, ⟨x1, x2, x3, x4, x5, x6, x7, x8⟩, n, fs, s⟩ fv] w fun e w' => e = .returned (.bool (Pa.okA ⟨k, hh, ⟨x1, x2, x3, x4, x5, x6, x7, x8⟩, n, fs, s⟩)) ∧ Below w.heap.size w w' := by
  obtain ⟨va, ca, rfl, -⟩ := hf
  have hg : Pa.inR k 1 4 = false := by rw [Pa.inR_false]; exact hk
  have k1 : (k == 1) = false := by rw [beq_eq_false_iff_ne]; omega
  have k2 : (k == 2) = false := by rw [beq_eq_false_iff_ne]; omega
  have k3 : (k == 3) = false := by rw [beq_eq_false_iff_ne]; omega
  have k4 : (k == 4) = false := by rw [beq_eq_false_iff_ne]; omega
  clear hk
  unfold acV
  go_enter Tryz.func14, Tryz.ntmps14
  go_wp2_with (first | (go_at_call 30; refine (within_any _ _ _ _).mono ?_; rintro e w' ⟨rfl, rfl⟩))
  all_goals first
    | ((repeat (first | exact Below.refl _ _ | refine Below.setCell ?_ (by simp) _ | refine Below.alloc ?_ (by simp) _ | apply Below.drew)); done)
    | (refine below_on ?_ hb4; (repeat (first | exact Below.refl _ _ | refine Below.setCell ?_ (by simp) _ | refine Below.alloc ?_ (by simp) _ | apply Below.drew)); done)
    | (go_ret
       refine ⟨ret_bool ?_, ?_⟩
       · simp_all [Pa.okA, Pa.okF, Pa.allF, Pa.needA, Pa.a0]
         all_goals omega
       · first
           | ((repeat (first | exact Below.refl _ _ | refine Below.setCell ?_ (by simp) _ | refine Below.alloc ?_ (by simp) _ | apply Below.drew)); done)
           | (refine below_on ?_ hb5; (repeat (first | exact Below.refl _ _ | refine Below.setCell ?_ (by simp) _ | refine Below.alloc ?_ (by simp) _ | apply Below.drew)); done)
           | (refine below_on ?_ hb4; (repeat (first | exact Below.refl _ _ | refine Below.setCell ?_ (by simp) _ | refine Below.alloc ?_ (by simp) _ | apply Below.drew)); done)
           | (refine below_on (below_on ?_ hb4) hb5; (repeat (first | exact Below.refl _ _ | refine Below.setCell ?_ (by simp) _ | refine Below.alloc ?_ (by simp) _ | apply Below.drew)); done))

theorem validAct_any (a : Pa.Ac) (fv : Value) (w : World) (ok : Ok w) (hN : NameC) (hf : Fs w fv a.fates) (hl : a.fates.length ≤ 9223372036854775807) :
    Calls Tryz.prog 14 #[acV a fv] w fun e w' => e = .returned (.bool (Pa.okA a)) ∧ Below w.heap.size w w' := by
  obtain ⟨k, hh, ⟨x1, x2, x3, x4, x5, x6, x7, x8⟩, n, fs, s⟩ := a
  by_cases hk : 1 ≤ k ∧ k ≤ 4
  · rcases (by omega : k = 1 ∨ k = 2 ∨ k = 3 ∨ k = 4) with rfl | rfl | rfl | rfl
    · exact valid_1 hh x1 x2 x3 x4 x5 x7 x8 n x6 s fs fv w ok hN hf hl
    · exact valid_2 hh x1 x2 x3 x4 x5 x7 x8 n x6 s fs fv w hf hl
    · exact valid_3 hh x1 x2 x3 x4 x5 x7 x8 n x6 s fs fv w hf hl
    · exact valid_4 hh x1 x2 x3 x4 x5 x7 x8 n x6 s fs fv w hf hl
  · exact valid_x k hk hh x1 x2 x3 x4 x5 x7 x8 n x6 s fs fv w hf

end Go.Proofs.YtgajoiijebbagaaGreatDoor
