/-
  The walks of the reference's Format and FormatPrefix. Each contract says what the call returns and that what was there before it is unchanged. Conditions: integers are 64-bit.
-/
import Derived.Test.YtcjemhjgpgnkiaaDoorWalkE
namespace Go.Proofs.YtcjemhjgpgnkiaaDoor
open Go.RowKit

theorem ret_strE {s t : ByteArray} {n m : Int} (h : s = t) (h' : n = m) : Ending.returned (.tuple #[.string s, .int .i64 n]) = .returned (.tuple #[.string t, .int .i64 m]) := by rw [h, h']
theorem app (a b : List UInt8) : ((⟨a.toArray⟩ : ByteArray) ++ (⟨b.toArray⟩ : ByteArray)) = ⟨(a ++ b).toArray⟩ := by
  apply ByteArray.ext
  rw [ByteArray.data_append]
  simp

set_option maxHeartbeats 400000 in
theorem refFormat_any (a : Int) (w : World) :
    Calls Tryd.prog 14 #[.int .i64 a] w fun e w' => e = .returned (.tuple #[.string ⟨(Pa.fmtS a).toArray⟩, .int .i64 (Pa.errB (Pa.validB a))]) ∧ Below w.heap.size w w' := by
  cases hv : Pa.validB a with
  | false =>
    have hf : Pa.fmtS a = [] := by unfold Pa.fmtS; rw [hv]; rfl
    have HF := Lib.hid hf; clear hf
    go_enter Tryd.func14, Tryd.ntmps14
    go_wp2_with (go_at_call 28; refine (refValid_any _ _).mono ?_; rintro e w' ⟨rfl, rfl⟩)
    go_ret2
    refine ⟨?_, Below.refl _ _⟩
    rw [HF.out]; rfl
  | true =>
    obtain ⟨h0, h1⟩ := Pa.validB_true.1 hv
    have hf : Pa.fmtS a = Pa.fmtL a := by unfold Pa.fmtS; rw [hv]; rfl
    have HF := Lib.hid hf; clear hf
    have o0 : Pa.oct a 0 = (a / 16777216).toNat := by unfold Pa.oct; simp only [Nat.reduceSub, Nat.reducePow]; omega
    have o1 : Pa.oct a 1 = (a / 65536 % 256).toNat := by unfold Pa.oct; simp only [Nat.reduceSub, Nat.reducePow]; omega
    have o2 : Pa.oct a 2 = (a / 256 % 256).toNat := by unfold Pa.oct; simp only [Nat.reduceSub, Nat.reducePow]; omega
    have o3 : Pa.oct a 3 = (a % 256).toNat := by unfold Pa.oct; simp only [Nat.reduceSub, Nat.reducePow]; omega
    have O0 := Lib.hid o0; have O1 := Lib.hid o1; have O2 := Lib.hid o2; have O3 := Lib.hid o3; clear o0 o1 o2 o3
    have l0 := Pa.dig_length (n := (a / 16777216).toNat) (by omega)
    have l1 := Pa.dig_length (n := (a / 65536 % 256).toNat) (by omega)
    have l2 := Pa.dig_length (n := (a / 256 % 256).toNat) (by omega)
    have l3 := Pa.dig_length (n := (a % 256).toNat) (by omega)
    go_enter Tryd.func14, Tryd.ntmps14
    go_wp2_with (go_at_call 28; refine (refValid_any _ _).mono ?_; rintro e w' ⟨rfl, rfl⟩)
    refine (digits _ _ (by omega) (by omega)).mono ?_
    rintro e w1 ⟨rfl, hb1⟩
    have B1 := Lib.hid hb1; clear hb1
    go_wp2_with fail
    refine (digits _ _ (by omega) (by omega)).mono ?_
    rintro e w2 ⟨rfl, hb2⟩
    have B2 := Lib.hid hb2; clear hb2
    go_wp2_with fail
    refine (digits _ _ (by omega) (by omega)).mono ?_
    rintro e w3 ⟨rfl, hb3⟩
    have B3 := Lib.hid hb3; clear hb3
    go_wp2_with fail
    refine (digits _ _ (by omega) (by omega)).mono ?_
    rintro e w4 ⟨rfl, hb4⟩
    have B4 := Lib.hid hb4; clear hb4
    go_wp2_with fail
    go_ret2
    refine ⟨?_, below_on (below_on (below_on B1.out B2.out) B3.out) B4.out⟩
    refine ret_strE ?_ rfl
    rw [HF.out]
    unfold Pa.fmtL
    rw [O0.out, O1.out, O2.out, O3.out, app _ [46], app, app _ [46], app, app _ [46], app]
    simp

set_option maxHeartbeats 400000 in
theorem refFormatPrefix_any (a b : Int) (w : World) :
    Calls Tryd.prog 15 #[.agg #[.int .i64 a, .int .i64 b]] w fun e w' => e = .returned (.tuple #[.string ⟨(Pa.fmtP a b).toArray⟩, .int .i64 (Pa.errB (Pa.validP a b))]) ∧ Below w.heap.size w w' := by
  cases hv : Pa.validP a b with
  | false =>
    have hf : Pa.fmtP a b = [] := by unfold Pa.fmtP; rw [hv]; rfl
    have HF := Lib.hid hf; clear hf
    go_enter Tryd.func15, Tryd.ntmps15
    go_wp2_with (go_at_call 29; refine (refValidPrefix_any _ _ _).mono ?_; rintro e w' ⟨rfl, hb⟩)
    go_ret2
    refine ⟨?_, below_on ((Below.refl _ _).alloc (Nat.le_refl _) _) hb⟩
    rw [HF.out]; rfl
  | true =>
    obtain ⟨⟨h0, h1⟩, ⟨b0, b1⟩, _⟩ := Pa.validP_true.1 hv
    have hf : Pa.fmtP a b = Pa.fmtL a ++ 47 :: Pa.dig b.toNat := by unfold Pa.fmtP; rw [hv]; rfl
    have hs : Pa.fmtS a = Pa.fmtL a := by unfold Pa.fmtS; rw [Pa.validB_true.2 ⟨h0, h1⟩]; rfl
    have HF := Lib.hid hf; have HS := Lib.hid hs; clear hf hs
    have l0 : (Pa.fmtS a).length ≤ 15 := by rw [HS.out]; exact Pa.fmtL_length a
    have l1 := Pa.dig_length (n := b.toNat) (by omega)
    go_enter Tryd.func15, Tryd.ntmps15
    go_wp2_with fail
    refine (refValidPrefix_any _ _ _).mono ?_
    rintro e w1 ⟨rfl, hb⟩
    have hz := hb.size
    simp only [World.size_alloc] at hz
    have d0 : w1.cell? ⟨w.heap.size, 0, none⟩ = some (.int .i64 a) := cell_below hb (by simp) (by simp)
    have d1 : w1.cell? ⟨w.heap.size, 1, none⟩ = some (.int .i64 b) := cell_below hb (by simp) (by simp)
    have HB := Lib.hid hb; clear hb
    go_wp2_with fail
    refine (refFormat_any _ _).mono ?_
    rintro e w2 ⟨rfl, hb2⟩
    have hz2 := hb2.size
    have d2 : w2.cell? ⟨w.heap.size, 1, none⟩ = some (.int .i64 b) := cell_below hb2 (by omega) d1
    have HB2 := Lib.hid hb2; clear hb2 d0 d1
    go_wp2_with fail
    refine (digits _ _ b0 (by omega)).mono ?_
    rintro e w3 ⟨rfl, hb3⟩
    have HB3 := Lib.hid hb3; clear hb3 d2
    go_wp2_with fail
    go_ret2
    refine ⟨?_, below_on (below_on (below_on ((Below.refl _ _).alloc (Nat.le_refl _) _) HB.out) HB2.out) HB3.out⟩
    refine ret_strE ?_ rfl
    rw [HF.out, HS.out, app _ [47], app]
    simp

end Go.Proofs.YtcjemhjgpgnkiaaDoor
