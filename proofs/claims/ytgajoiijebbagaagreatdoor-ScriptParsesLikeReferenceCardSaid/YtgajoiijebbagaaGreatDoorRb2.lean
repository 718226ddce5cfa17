/-
  The walk of the document's Valid, kind by kind: it says what the call returns and that what was there is unchanged. Conditions: the fates lie in memory.
-/
import Derived.Test.YtgajoiijebbagaaGreatDoorRb
namespace Go.Proofs.YtgajoiijebbagaaGreatDoor
open Go.RowKit Go.Proofs

set_option linter.unusedSimpArgs false in
set_option maxHeartbeats 2000000 in
set_option maxRecDepth 100000 in
theorem refAct_1 (hh x1 x2 x3 x4 x5 x7 x8 n : Int) (x6 s : ByteArray) (fs : List Int) (fv : Value) (w : World) (hf : Fs w fv fs) (hl : fs.length ≤ 9223372036854775807) :
    Calls Tryz.prog 15 #[acV ⟨1, hh, ⟨x1, x2, x3, x4, x5, x6, x7, x8⟩, n, fs, s⟩ fv] w fun e w' => e = .returned (.bool (Pa.okA ⟨1, hh, ⟨x1, x2, x3, x4, x5, x6, x7, x8⟩, n, fs, s⟩)) ∧ Below w.heap.size w w' := by
  have HF := Lib.hid hf
  obtain ⟨va, ca, rfl, -⟩ := hf
  have HK := Lib.hid (Pa.okA_1 hh n ⟨x1, x2, x3, x4, x5, x6, x7, x8⟩ fs s)
  unfold acV
  go_enter Tryz.func15, Tryz.ntmps15
  cases hd : decide ((⟨1, hh, ⟨x1, x2, x3, x4, x5, x6, x7, x8⟩, n, fs, s⟩ : Pa.Ac) = ⟨1, hh, ⟨x1, x2, x3, x4, x5, x6, x7, x8⟩, 0, [], ⟨#[]⟩⟩) with
  | false =>
    have HD := Lib.hid hd
    go_wp2_with (first | (go_at_call 34; refine (refWithin_any _ _ _ _).mono ?_; rintro e w' ⟨rfl, rfl⟩) | (go_at_call 17; refine (refSame_any ⟨1, hh, ⟨x1, x2, x3, x4, x5, x6, x7, x8⟩, n, fs, s⟩ ⟨1, hh, ⟨x1, x2, x3, x4, x5, x6, x7, x8⟩, 0, [], ⟨#[]⟩⟩ _ _ _ (HF.out.below ?_) (Fs.nil _) hl (by simp)).mono ?_; rotate_left 1; rw [hd]; (rintro e w4 ⟨rfl, hb4⟩; have g0 : w4.cell? ⟨w.heap.size, 0, none⟩ = some (.int .i64 1) := cell_below hb4 (by simp; omega) (by simp); have g1 : w4.cell? ⟨w.heap.size, 1, none⟩ = some (.int .i64 hh) := cell_below hb4 (by simp; omega) (by simp); have g2 : w4.cell? ⟨w.heap.size, 2, none⟩ = some (.int .i64 x1) := cell_below hb4 (by simp; omega) (by simp); have g3 : w4.cell? ⟨w.heap.size, 3, none⟩ = some (.int .i64 x2) := cell_below hb4 (by simp; omega) (by simp); have g4 : w4.cell? ⟨w.heap.size, 4, none⟩ = some (.int .i64 x3) := cell_below hb4 (by simp; omega) (by simp); have g5 : w4.cell? ⟨w.heap.size, 5, none⟩ = some (.int .i64 x4) := cell_below hb4 (by simp; omega) (by simp); have g6 : w4.cell? ⟨w.heap.size, 6, none⟩ = some (.int .i64 x5) := cell_below hb4 (by simp; omega) (by simp); have g7 : w4.cell? ⟨w.heap.size, 7, none⟩ = some (.string x6) := cell_below hb4 (by simp; omega) (by simp); have g8 : w4.cell? ⟨w.heap.size, 8, none⟩ = some (.int .i64 x7) := cell_below hb4 (by simp; omega) (by simp); have g9 : w4.cell? ⟨w.heap.size, 9, none⟩ = some (.int .i64 x8) := cell_below hb4 (by simp; omega) (by simp); have g10 : w4.cell? ⟨w.heap.size, 10, none⟩ = some (.int .i64 n) := cell_below hb4 (by simp; omega) (by simp); have g11 : w4.cell? ⟨w.heap.size, 11, none⟩ = some (.slice va fs.length ca) := cell_below hb4 (by simp; omega) (by simp); have g12 : w4.cell? ⟨w.heap.size, 12, none⟩ = some (.string s) := cell_below hb4 (by simp; omega) (by simp))))
    all_goals first
      | ((repeat (first | exact Below.refl _ _ | refine Below.setCell ?_ (by simp) _ | refine Below.alloc ?_ (by simp) _ | apply Below.drew)); done)
      | (go_ret
         refine ⟨ret_bool (by rw [HK.out, HD.out]; rfl), ?_⟩
         refine below_on ?_ hb4
         repeat (first | exact Below.refl _ _ | refine Below.setCell ?_ (by simp) _ | refine Below.alloc ?_ (by simp) _ | apply Below.drew))
  | true =>
    have HD := Lib.hid hd
    go_wp2_with (first | (go_at_call 34; refine (refWithin_any _ _ _ _).mono ?_; rintro e w' ⟨rfl, rfl⟩) | (go_at_call 17; refine (refSame_any ⟨1, hh, ⟨x1, x2, x3, x4, x5, x6, x7, x8⟩, n, fs, s⟩ ⟨1, hh, ⟨x1, x2, x3, x4, x5, x6, x7, x8⟩, 0, [], ⟨#[]⟩⟩ _ _ _ (HF.out.below ?_) (Fs.nil _) hl (by simp)).mono ?_; rotate_left 1; rw [hd]; (rintro e w4 ⟨rfl, hb4⟩; have g0 : w4.cell? ⟨w.heap.size, 0, none⟩ = some (.int .i64 1) := cell_below hb4 (by simp; omega) (by simp); have g1 : w4.cell? ⟨w.heap.size, 1, none⟩ = some (.int .i64 hh) := cell_below hb4 (by simp; omega) (by simp); have g2 : w4.cell? ⟨w.heap.size, 2, none⟩ = some (.int .i64 x1) := cell_below hb4 (by simp; omega) (by simp); have g3 : w4.cell? ⟨w.heap.size, 3, none⟩ = some (.int .i64 x2) := cell_below hb4 (by simp; omega) (by simp); have g4 : w4.cell? ⟨w.heap.size, 4, none⟩ = some (.int .i64 x3) := cell_below hb4 (by simp; omega) (by simp); have g5 : w4.cell? ⟨w.heap.size, 5, none⟩ = some (.int .i64 x4) := cell_below hb4 (by simp; omega) (by simp); have g6 : w4.cell? ⟨w.heap.size, 6, none⟩ = some (.int .i64 x5) := cell_below hb4 (by simp; omega) (by simp); have g7 : w4.cell? ⟨w.heap.size, 7, none⟩ = some (.string x6) := cell_below hb4 (by simp; omega) (by simp); have g8 : w4.cell? ⟨w.heap.size, 8, none⟩ = some (.int .i64 x7) := cell_below hb4 (by simp; omega) (by simp); have g9 : w4.cell? ⟨w.heap.size, 9, none⟩ = some (.int .i64 x8) := cell_below hb4 (by simp; omega) (by simp); have g10 : w4.cell? ⟨w.heap.size, 10, none⟩ = some (.int .i64 n) := cell_below hb4 (by simp; omega) (by simp); have g11 : w4.cell? ⟨w.heap.size, 11, none⟩ = some (.slice va fs.length ca) := cell_below hb4 (by simp; omega) (by simp); have g12 : w4.cell? ⟨w.heap.size, 12, none⟩ = some (.string s) := cell_below hb4 (by simp; omega) (by simp))) | (go_at_call 35; refine (refCall_any ⟨x1, x2, x3, x4, x5, x6, x7, x8⟩ _).mono ?_; rintro e w5 ⟨rfl, hb5⟩))
    all_goals first
      | ((repeat (first | exact Below.refl _ _ | refine Below.setCell ?_ (by simp) _ | refine Below.alloc ?_ (by simp) _ | apply Below.drew)); done)
      | (go_ret
         refine ⟨ret_bool (by rw [HK.out, HD.out]; simp_all; try omega), ?_⟩
         first
           | (refine below_on ?_ hb4; (repeat (first | exact Below.refl _ _ | refine Below.setCell ?_ (by simp) _ | refine Below.alloc ?_ (by simp) _ | apply Below.drew)); done)
           | (refine below_on (below_on ?_ hb4) hb5; (repeat (first | exact Below.refl _ _ | refine Below.setCell ?_ (by simp) _ | refine Below.alloc ?_ (by simp) _ | apply Below.drew)); done))

set_option linter.unusedSimpArgs false in
set_option maxHeartbeats 2000000 in
set_option maxRecDepth 100000 in
theorem refAct_2 (hh x1 x2 x3 x4 x5 x7 x8 n : Int) (x6 s : ByteArray) (fs : List Int) (fv : Value) (w : World) (hf : Fs w fv fs) (hl : fs.length ≤ 9223372036854775807) :
    Calls Tryz.prog 15 #[acV ⟨2, hh, ⟨x1, x2, x3, x4, x5, x6, x7, x8⟩, n, fs, s⟩ fv] w fun e w' => e = .returned (.bool (Pa.okA ⟨2, hh, ⟨x1, x2, x3, x4, x5, x6, x7, x8⟩, n, fs, s⟩)) ∧ Below w.heap.size w w' := by
  have HF := Lib.hid hf
  obtain ⟨va, ca, rfl, -⟩ := hf
  have HK := Lib.hid (Pa.okA_2 hh n ⟨x1, x2, x3, x4, x5, x6, x7, x8⟩ fs s)
  unfold acV
  go_enter Tryz.func15, Tryz.ntmps15
  cases hd : decide ((⟨2, hh, ⟨x1, x2, x3, x4, x5, x6, x7, x8⟩, n, fs, s⟩ : Pa.Ac) = ⟨2, 0, Pa.c0, n, [], ⟨#[]⟩⟩) with
  | false =>
    have HD := Lib.hid hd
    go_wp2_with (first | (go_at_call 34; refine (refWithin_any _ _ _ _).mono ?_; rintro e w' ⟨rfl, rfl⟩) | (go_at_call 17; refine (refSame_any ⟨2, hh, ⟨x1, x2, x3, x4, x5, x6, x7, x8⟩, n, fs, s⟩ ⟨2, 0, Pa.c0, n, [], ⟨#[]⟩⟩ _ _ _ (HF.out.below ?_) (Fs.nil _) hl (by simp)).mono ?_; rotate_left 1; rw [hd]; (rintro e w4 ⟨rfl, hb4⟩; have g0 : w4.cell? ⟨w.heap.size, 0, none⟩ = some (.int .i64 2) := cell_below hb4 (by simp; omega) (by simp); have g1 : w4.cell? ⟨w.heap.size, 1, none⟩ = some (.int .i64 hh) := cell_below hb4 (by simp; omega) (by simp); have g2 : w4.cell? ⟨w.heap.size, 2, none⟩ = some (.int .i64 x1) := cell_below hb4 (by simp; omega) (by simp); have g3 : w4.cell? ⟨w.heap.size, 3, none⟩ = some (.int .i64 x2) := cell_below hb4 (by simp; omega) (by simp); have g4 : w4.cell? ⟨w.heap.size, 4, none⟩ = some (.int .i64 x3) := cell_below hb4 (by simp; omega) (by simp); have g5 : w4.cell? ⟨w.heap.size, 5, none⟩ = some (.int .i64 x4) := cell_below hb4 (by simp; omega) (by simp); have g6 : w4.cell? ⟨w.heap.size, 6, none⟩ = some (.int .i64 x5) := cell_below hb4 (by simp; omega) (by simp); have g7 : w4.cell? ⟨w.heap.size, 7, none⟩ = some (.string x6) := cell_below hb4 (by simp; omega) (by simp); have g8 : w4.cell? ⟨w.heap.size, 8, none⟩ = some (.int .i64 x7) := cell_below hb4 (by simp; omega) (by simp); have g9 : w4.cell? ⟨w.heap.size, 9, none⟩ = some (.int .i64 x8) := cell_below hb4 (by simp; omega) (by simp); have g10 : w4.cell? ⟨w.heap.size, 10, none⟩ = some (.int .i64 n) := cell_below hb4 (by simp; omega) (by simp); have g11 : w4.cell? ⟨w.heap.size, 11, none⟩ = some (.slice va fs.length ca) := cell_below hb4 (by simp; omega) (by simp); have g12 : w4.cell? ⟨w.heap.size, 12, none⟩ = some (.string s) := cell_below hb4 (by simp; omega) (by simp))))
    all_goals first
      | ((repeat (first | exact Below.refl _ _ | refine Below.setCell ?_ (by simp) _ | refine Below.alloc ?_ (by simp) _ | apply Below.drew)); done)
      | (go_ret
         refine ⟨ret_bool (by rw [HK.out, HD.out]; rfl), ?_⟩
         refine below_on ?_ hb4
         repeat (first | exact Below.refl _ _ | refine Below.setCell ?_ (by simp) _ | refine Below.alloc ?_ (by simp) _ | apply Below.drew))
  | true =>
    have HD := Lib.hid hd
    go_wp2_with (first | (go_at_call 34; refine (refWithin_any _ _ _ _).mono ?_; rintro e w' ⟨rfl, rfl⟩) | (go_at_call 17; refine (refSame_any ⟨2, hh, ⟨x1, x2, x3, x4, x5, x6, x7, x8⟩, n, fs, s⟩ ⟨2, 0, Pa.c0, n, [], ⟨#[]⟩⟩ _ _ _ (HF.out.below ?_) (Fs.nil _) hl (by simp)).mono ?_; rotate_left 1; rw [hd]; (rintro e w4 ⟨rfl, hb4⟩; have g0 : w4.cell? ⟨w.heap.size, 0, none⟩ = some (.int .i64 2) := cell_below hb4 (by simp; omega) (by simp); have g1 : w4.cell? ⟨w.heap.size, 1, none⟩ = some (.int .i64 hh) := cell_below hb4 (by simp; omega) (by simp); have g2 : w4.cell? ⟨w.heap.size, 2, none⟩ = some (.int .i64 x1) := cell_below hb4 (by simp; omega) (by simp); have g3 : w4.cell? ⟨w.heap.size, 3, none⟩ = some (.int .i64 x2) := cell_below hb4 (by simp; omega) (by simp); have g4 : w4.cell? ⟨w.heap.size, 4, none⟩ = some (.int .i64 x3) := cell_below hb4 (by simp; omega) (by simp); have g5 : w4.cell? ⟨w.heap.size, 5, none⟩ = some (.int .i64 x4) := cell_below hb4 (by simp; omega) (by simp); have g6 : w4.cell? ⟨w.heap.size, 6, none⟩ = some (.int .i64 x5) := cell_below hb4 (by simp; omega) (by simp); have g7 : w4.cell? ⟨w.heap.size, 7, none⟩ = some (.string x6) := cell_below hb4 (by simp; omega) (by simp); have g8 : w4.cell? ⟨w.heap.size, 8, none⟩ = some (.int .i64 x7) := cell_below hb4 (by simp; omega) (by simp); have g9 : w4.cell? ⟨w.heap.size, 9, none⟩ = some (.int .i64 x8) := cell_below hb4 (by simp; omega) (by simp); have g10 : w4.cell? ⟨w.heap.size, 10, none⟩ = some (.int .i64 n) := cell_below hb4 (by simp; omega) (by simp); have g11 : w4.cell? ⟨w.heap.size, 11, none⟩ = some (.slice va fs.length ca) := cell_below hb4 (by simp; omega) (by simp); have g12 : w4.cell? ⟨w.heap.size, 12, none⟩ = some (.string s) := cell_below hb4 (by simp; omega) (by simp))))
    all_goals first
      | ((repeat (first | exact Below.refl _ _ | refine Below.setCell ?_ (by simp) _ | refine Below.alloc ?_ (by simp) _ | apply Below.drew)); done)
      | (go_ret
         refine ⟨ret_bool (by rw [HK.out, HD.out]; simp_all; try omega), ?_⟩
         first
           | (refine below_on ?_ hb4; (repeat (first | exact Below.refl _ _ | refine Below.setCell ?_ (by simp) _ | refine Below.alloc ?_ (by simp) _ | apply Below.drew)); done)
           | (refine below_on (below_on ?_ hb4) hb5; (repeat (first | exact Below.refl _ _ | refine Below.setCell ?_ (by simp) _ | refine Below.alloc ?_ (by simp) _ | apply Below.drew)); done))

set_option linter.unusedSimpArgs false in
set_option maxHeartbeats 2000000 in
set_option maxRecDepth 100000 in
theorem refAct_3 (hh x1 x2 x3 x4 x5 x7 x8 n : Int) (x6 s : ByteArray) (fs : List Int) (fv : Value) (w : World) (hf : Fs w fv fs) (hl : fs.length ≤ 9223372036854775807) :
    Calls Tryz.prog 15 #[acV ⟨3, hh, ⟨x1, x2, x3, x4, x5, x6, x7, x8⟩, n, fs, s⟩ fv] w fun e w' => e = .returned (.bool (Pa.okA ⟨3, hh, ⟨x1, x2, x3, x4, x5, x6, x7, x8⟩, n, fs, s⟩)) ∧ Below w.heap.size w w' := by
  have HF := Lib.hid hf
  obtain ⟨va, ca, rfl, -⟩ := hf
  have HK := Lib.hid (Pa.okA_3 hh n ⟨x1, x2, x3, x4, x5, x6, x7, x8⟩ fs s)
  unfold acV
  go_enter Tryz.func15, Tryz.ntmps15
  cases hd : decide ((⟨3, hh, ⟨x1, x2, x3, x4, x5, x6, x7, x8⟩, n, [], s⟩ : Pa.Ac) = ⟨3, 0, Pa.c0, 0, [], ⟨#[]⟩⟩) with
  | false =>
    have HD := Lib.hid hd
    go_wp2_with (first | (go_at_call 34; refine (refWithin_any _ _ _ _).mono ?_; rintro e w' ⟨rfl, rfl⟩) | (go_at_call 17; refine (refSame_any ⟨3, hh, ⟨x1, x2, x3, x4, x5, x6, x7, x8⟩, n, [], s⟩ ⟨3, 0, Pa.c0, 0, [], ⟨#[]⟩⟩ (.slice none 0 0) (.slice none 0 0) _ (Fs.nil _) (Fs.nil _) (by simp) (by simp)).mono ?_; rw [hd]; (rintro e w4 ⟨rfl, hb4⟩; have g0 : w4.cell? ⟨w.heap.size, 0, none⟩ = some (.int .i64 3) := cell_below hb4 (by simp; omega) (by simp); have g1 : w4.cell? ⟨w.heap.size, 1, none⟩ = some (.int .i64 hh) := cell_below hb4 (by simp; omega) (by simp); have g2 : w4.cell? ⟨w.heap.size, 2, none⟩ = some (.int .i64 x1) := cell_below hb4 (by simp; omega) (by simp); have g3 : w4.cell? ⟨w.heap.size, 3, none⟩ = some (.int .i64 x2) := cell_below hb4 (by simp; omega) (by simp); have g4 : w4.cell? ⟨w.heap.size, 4, none⟩ = some (.int .i64 x3) := cell_below hb4 (by simp; omega) (by simp); have g5 : w4.cell? ⟨w.heap.size, 5, none⟩ = some (.int .i64 x4) := cell_below hb4 (by simp; omega) (by simp); have g6 : w4.cell? ⟨w.heap.size, 6, none⟩ = some (.int .i64 x5) := cell_below hb4 (by simp; omega) (by simp); have g7 : w4.cell? ⟨w.heap.size, 7, none⟩ = some (.string x6) := cell_below hb4 (by simp; omega) (by simp); have g8 : w4.cell? ⟨w.heap.size, 8, none⟩ = some (.int .i64 x7) := cell_below hb4 (by simp; omega) (by simp); have g9 : w4.cell? ⟨w.heap.size, 9, none⟩ = some (.int .i64 x8) := cell_below hb4 (by simp; omega) (by simp); have g10 : w4.cell? ⟨w.heap.size, 10, none⟩ = some (.int .i64 n) := cell_below hb4 (by simp; omega) (by simp); have g11 : w4.cell? ⟨w.heap.size, 11, none⟩ = some (.slice va fs.length ca) := cell_below hb4 (by simp; omega) (by simp); have g12 : w4.cell? ⟨w.heap.size, 12, none⟩ = some (.string s) := cell_below hb4 (by simp; omega) (by simp))))
    all_goals first
      | ((repeat (first | exact Below.refl _ _ | refine Below.setCell ?_ (by simp) _ | refine Below.alloc ?_ (by simp) _ | apply Below.drew)); done)
      | (go_ret
         refine ⟨ret_bool (by rw [HK.out, HD.out]; rfl), ?_⟩
         refine below_on ?_ hb4
         repeat (first | exact Below.refl _ _ | refine Below.setCell ?_ (by simp) _ | refine Below.alloc ?_ (by simp) _ | apply Below.drew))
  | true =>
    have HD := Lib.hid hd
    go_wp2_with (first | (go_at_call 34; refine (refWithin_any _ _ _ _).mono ?_; rintro e w' ⟨rfl, rfl⟩) | (go_at_call 17; refine (refSame_any ⟨3, hh, ⟨x1, x2, x3, x4, x5, x6, x7, x8⟩, n, [], s⟩ ⟨3, 0, Pa.c0, 0, [], ⟨#[]⟩⟩ (.slice none 0 0) (.slice none 0 0) _ (Fs.nil _) (Fs.nil _) (by simp) (by simp)).mono ?_; rw [hd]; (rintro e w4 ⟨rfl, hb4⟩; have g0 : w4.cell? ⟨w.heap.size, 0, none⟩ = some (.int .i64 3) := cell_below hb4 (by simp; omega) (by simp); have g1 : w4.cell? ⟨w.heap.size, 1, none⟩ = some (.int .i64 hh) := cell_below hb4 (by simp; omega) (by simp); have g2 : w4.cell? ⟨w.heap.size, 2, none⟩ = some (.int .i64 x1) := cell_below hb4 (by simp; omega) (by simp); have g3 : w4.cell? ⟨w.heap.size, 3, none⟩ = some (.int .i64 x2) := cell_below hb4 (by simp; omega) (by simp); have g4 : w4.cell? ⟨w.heap.size, 4, none⟩ = some (.int .i64 x3) := cell_below hb4 (by simp; omega) (by simp); have g5 : w4.cell? ⟨w.heap.size, 5, none⟩ = some (.int .i64 x4) := cell_below hb4 (by simp; omega) (by simp); have g6 : w4.cell? ⟨w.heap.size, 6, none⟩ = some (.int .i64 x5) := cell_below hb4 (by simp; omega) (by simp); have g7 : w4.cell? ⟨w.heap.size, 7, none⟩ = some (.string x6) := cell_below hb4 (by simp; omega) (by simp); have g8 : w4.cell? ⟨w.heap.size, 8, none⟩ = some (.int .i64 x7) := cell_below hb4 (by simp; omega) (by simp); have g9 : w4.cell? ⟨w.heap.size, 9, none⟩ = some (.int .i64 x8) := cell_below hb4 (by simp; omega) (by simp); have g10 : w4.cell? ⟨w.heap.size, 10, none⟩ = some (.int .i64 n) := cell_below hb4 (by simp; omega) (by simp); have g11 : w4.cell? ⟨w.heap.size, 11, none⟩ = some (.slice va fs.length ca) := cell_below hb4 (by simp; omega) (by simp); have g12 : w4.cell? ⟨w.heap.size, 12, none⟩ = some (.string s) := cell_below hb4 (by simp; omega) (by simp))) | (go_at_call 36; refine (refFates_any _ fs _ (HF.out.below (below_on ?_ hb4)) hl).mono ?_; rotate_left 1; rintro e w' ⟨rfl, rfl⟩))
    all_goals first
      | ((repeat (first | exact Below.refl _ _ | refine Below.setCell ?_ (by simp) _ | refine Below.alloc ?_ (by simp) _ | apply Below.drew)); done)
      | (go_ret
         refine ⟨ret_bool (by rw [HK.out, HD.out]; simp_all; try omega), ?_⟩
         first
           | (refine below_on ?_ hb4; (repeat (first | exact Below.refl _ _ | refine Below.setCell ?_ (by simp) _ | refine Below.alloc ?_ (by simp) _ | apply Below.drew)); done)
           | (refine below_on (below_on ?_ hb4) hb5; (repeat (first | exact Below.refl _ _ | refine Below.setCell ?_ (by simp) _ | refine Below.alloc ?_ (by simp) _ | apply Below.drew)); done))

set_option linter.unusedSimpArgs false in
set_option maxHeartbeats 2000000 in
set_option maxRecDepth 100000 in
theorem refAct_4 (hh x1 x2 x3 x4 x5 x7 x8 n : Int) (x6 s : ByteArray) (fs : List Int) (fv : Value) (w : World) (hf : Fs w fv fs) (hl : fs.length ≤ 9223372036854775807) :
    Calls Tryz.prog 15 #[acV ⟨4, hh, ⟨x1, x2, x3, x4, x5, x6, x7, x8⟩, n, fs, s⟩ fv] w fun e w' => e = .returned (.bool (Pa.okA ⟨4, hh, ⟨x1, x2, x3, x4, x5, x6, x7, x8⟩, n, fs, s⟩)) ∧ Below w.heap.size w w' := by
  have HF := Lib.hid hf
  obtain ⟨va, ca, rfl, -⟩ := hf
  have HK := Lib.hid (Pa.okA_4 hh n ⟨x1, x2, x3, x4, x5, x6, x7, x8⟩ fs s)
  unfold acV
  go_enter Tryz.func15, Tryz.ntmps15
  cases hd : decide ((⟨4, hh, ⟨x1, x2, x3, x4, x5, x6, x7, x8⟩, n, fs, s⟩ : Pa.Ac) = ⟨4, 0, Pa.c0, n, [], s⟩) with
  | false =>
    have HD := Lib.hid hd
    go_wp2_with (first | (go_at_call 34; refine (refWithin_any _ _ _ _).mono ?_; rintro e w' ⟨rfl, rfl⟩) | (go_at_call 17; refine (refSame_any ⟨4, hh, ⟨x1, x2, x3, x4, x5, x6, x7, x8⟩, n, fs, s⟩ ⟨4, 0, Pa.c0, n, [], s⟩ _ _ _ (HF.out.below ?_) (Fs.nil _) hl (by simp)).mono ?_; rotate_left 1; rw [hd]; (rintro e w4 ⟨rfl, hb4⟩; have g0 : w4.cell? ⟨w.heap.size, 0, none⟩ = some (.int .i64 4) := cell_below hb4 (by simp; omega) (by simp); have g1 : w4.cell? ⟨w.heap.size, 1, none⟩ = some (.int .i64 hh) := cell_below hb4 (by simp; omega) (by simp); have g2 : w4.cell? ⟨w.heap.size, 2, none⟩ = some (.int .i64 x1) := cell_below hb4 (by simp; omega) (by simp); have g3 : w4.cell? ⟨w.heap.size, 3, none⟩ = some (.int .i64 x2) := cell_below hb4 (by simp; omega) (by simp); have g4 : w4.cell? ⟨w.heap.size, 4, none⟩ = some (.int .i64 x3) := cell_below hb4 (by simp; omega) (by simp); have g5 : w4.cell? ⟨w.heap.size, 5, none⟩ = some (.int .i64 x4) := cell_below hb4 (by simp; omega) (by simp); have g6 : w4.cell? ⟨w.heap.size, 6, none⟩ = some (.int .i64 x5) := cell_below hb4 (by simp; omega) (by simp); have g7 : w4.cell? ⟨w.heap.size, 7, none⟩ = some (.string x6) := cell_below hb4 (by simp; omega) (by simp); have g8 : w4.cell? ⟨w.heap.size, 8, none⟩ = some (.int .i64 x7) := cell_below hb4 (by simp; omega) (by simp); have g9 : w4.cell? ⟨w.heap.size, 9, none⟩ = some (.int .i64 x8) := cell_below hb4 (by simp; omega) (by simp); have g10 : w4.cell? ⟨w.heap.size, 10, none⟩ = some (.int .i64 n) := cell_below hb4 (by simp; omega) (by simp); have g11 : w4.cell? ⟨w.heap.size, 11, none⟩ = some (.slice va fs.length ca) := cell_below hb4 (by simp; omega) (by simp); have g12 : w4.cell? ⟨w.heap.size, 12, none⟩ = some (.string s) := cell_below hb4 (by simp; omega) (by simp))))
    all_goals first
      | ((repeat (first | exact Below.refl _ _ | refine Below.setCell ?_ (by simp) _ | refine Below.alloc ?_ (by simp) _ | apply Below.drew)); done)
      | (go_ret
         refine ⟨ret_bool (by rw [HK.out, HD.out]; rfl), ?_⟩
         refine below_on ?_ hb4
         repeat (first | exact Below.refl _ _ | refine Below.setCell ?_ (by simp) _ | refine Below.alloc ?_ (by simp) _ | apply Below.drew))
  | true =>
    have HD := Lib.hid hd
    go_wp2_with (first | (go_at_call 34; refine (refWithin_any _ _ _ _).mono ?_; rintro e w' ⟨rfl, rfl⟩) | (go_at_call 17; refine (refSame_any ⟨4, hh, ⟨x1, x2, x3, x4, x5, x6, x7, x8⟩, n, fs, s⟩ ⟨4, 0, Pa.c0, n, [], s⟩ _ _ _ (HF.out.below ?_) (Fs.nil _) hl (by simp)).mono ?_; rotate_left 1; rw [hd]; (rintro e w4 ⟨rfl, hb4⟩; have g0 : w4.cell? ⟨w.heap.size, 0, none⟩ = some (.int .i64 4) := cell_below hb4 (by simp; omega) (by simp); have g1 : w4.cell? ⟨w.heap.size, 1, none⟩ = some (.int .i64 hh) := cell_below hb4 (by simp; omega) (by simp); have g2 : w4.cell? ⟨w.heap.size, 2, none⟩ = some (.int .i64 x1) := cell_below hb4 (by simp; omega) (by simp); have g3 : w4.cell? ⟨w.heap.size, 3, none⟩ = some (.int .i64 x2) := cell_below hb4 (by simp; omega) (by simp); have g4 : w4.cell? ⟨w.heap.size, 4, none⟩ = some (.int .i64 x3) := cell_below hb4 (by simp; omega) (by simp); have g5 : w4.cell? ⟨w.heap.size, 5, none⟩ = some (.int .i64 x4) := cell_below hb4 (by simp; omega) (by simp); have g6 : w4.cell? ⟨w.heap.size, 6, none⟩ = some (.int .i64 x5) := cell_below hb4 (by simp; omega) (by simp); have g7 : w4.cell? ⟨w.heap.size, 7, none⟩ = some (.string x6) := cell_below hb4 (by simp; omega) (by simp); have g8 : w4.cell? ⟨w.heap.size, 8, none⟩ = some (.int .i64 x7) := cell_below hb4 (by simp; omega) (by simp); have g9 : w4.cell? ⟨w.heap.size, 9, none⟩ = some (.int .i64 x8) := cell_below hb4 (by simp; omega) (by simp); have g10 : w4.cell? ⟨w.heap.size, 10, none⟩ = some (.int .i64 n) := cell_below hb4 (by simp; omega) (by simp); have g11 : w4.cell? ⟨w.heap.size, 11, none⟩ = some (.slice va fs.length ca) := cell_below hb4 (by simp; omega) (by simp); have g12 : w4.cell? ⟨w.heap.size, 12, none⟩ = some (.string s) := cell_below hb4 (by simp; omega) (by simp))))
    all_goals first
      | ((repeat (first | exact Below.refl _ _ | refine Below.setCell ?_ (by simp) _ | refine Below.alloc ?_ (by simp) _ | apply Below.drew)); done)
      | (go_ret
         refine ⟨ret_bool (by rw [HK.out, HD.out]; simp_all; try omega), ?_⟩
         first
           | (refine below_on ?_ hb4; (repeat (first | exact Below.refl _ _ | refine Below.setCell ?_ (by simp) _ | refine Below.alloc ?_ (by simp) _ | apply Below.drew)); done)
           | (refine below_on (below_on ?_ hb4) hb5; (repeat (first | exact Below.refl _ _ | refine Below.setCell ?_ (by simp) _ | refine Below.alloc ?_ (by simp) _ | apply Below.drew)); done))

set_option maxHeartbeats 2000000 in
set_option maxRecDepth 100000 in
theorem refAct_x (k : Int) (hk : ¬ (1 ≤ k ∧ k ≤ 4)) (hh x1 x2 x3 x4 x5 x7 x8 n : Int) (x6 s : ByteArray) (fs : List Int) (fv : Value) (w : World) (hf : Fs w fv fs) :
    Calls Tryz.prog 15 #[acV ⟨k, hh, ⟨x1, x2, x3, x4, x5, x6, x7, x8⟩, n, fs, s⟩ fv] w fun e w' => e = .returned (.bool (Pa.okA ⟨k, hh, ⟨x1, x2, x3, x4, x5, x6, x7, x8⟩, n, fs, s⟩)) ∧ Below w.heap.size w w' := by
  obtain ⟨va, ca, rfl, -⟩ := hf
  have HR : Hid (Pa.okA ⟨k, hh, ⟨x1, x2, x3, x4, x5, x6, x7, x8⟩, n, fs, s⟩ = false) := by
    have hg : Pa.inR k 1 4 = false := by rw [Pa.inR_false]; exact hk
    rw [Hid]; simp [Pa.okA, hg]
  have k1 : (k == 1) = false := by rw [beq_eq_false_iff_ne]; omega
  have k2 : (k == 2) = false := by rw [beq_eq_false_iff_ne]; omega
  have k3 : (k == 3) = false := by rw [beq_eq_false_iff_ne]; omega
  have k4 : (k == 4) = false := by rw [beq_eq_false_iff_ne]; omega
  clear hk
  unfold acV
  go_enter Tryz.func15, Tryz.ntmps15
  go_wp2
  go_ret
  refine ⟨ret_bool HR.out.symm, ?_⟩
  repeat (first | exact Below.refl _ _ | refine Below.setCell ?_ (by simp) _ | refine Below.alloc ?_ (by simp) _ | apply Below.drew)

theorem refAct_any (a : Pa.Ac) (fv : Value) (w : World) (hf : Fs w fv a.fates) (hl : a.fates.length ≤ 9223372036854775807) :
    Calls Tryz.prog 15 #[acV a fv] w fun e w' => e = .returned (.bool (Pa.okA a)) ∧ Below w.heap.size w w' := by
  obtain ⟨k, hh, ⟨x1, x2, x3, x4, x5, x6, x7, x8⟩, n, fs, s⟩ := a
  by_cases hk : 1 ≤ k ∧ k ≤ 4
  · rcases (by omega : k = 1 ∨ k = 2 ∨ k = 3 ∨ k = 4) with rfl | rfl | rfl | rfl
    · exact refAct_1 hh x1 x2 x3 x4 x5 x7 x8 n x6 s fs fv w hf hl
    · exact refAct_2 hh x1 x2 x3 x4 x5 x7 x8 n x6 s fs fv w hf hl
    · exact refAct_3 hh x1 x2 x3 x4 x5 x7 x8 n x6 s fs fv w hf hl
    · exact refAct_4 hh x1 x2 x3 x4 x5 x7 x8 n x6 s fs fv w hf hl
  · exact refAct_x k hk hh x1 x2 x3 x4 x5 x7 x8 n x6 s fs fv w hf

end Go.Proofs.YtgajoiijebbagaaGreatDoor
