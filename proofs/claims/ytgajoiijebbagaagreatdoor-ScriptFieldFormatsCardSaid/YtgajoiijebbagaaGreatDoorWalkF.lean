/-
  The walks of the reference's Format and FormatPrefix. Each contract says what the call returns and that what was there before it is unchanged. Conditions: integers are 64-bit.
-/
import Derived.Test.YtgajoiijebbagaaGreatDoorWalkE
namespace Go.Proofs.YtgajoiijebbagaaGreatDoor
open Go.RowKit

theorem ret_strE {s t : ByteArray} {n m : Int} (h : s = t) (h' : n = m) : Ending.returned (.tuple #[.string s, .int .i64 n]) = .returned (.tuple #[.string t, .int .i64 m]) := by rw [h, h']
theorem app (a b : List UInt8) : ((⟨a.toArray⟩ : ByteArray) ++ (⟨b.toArray⟩ : ByteArray)) = ⟨(a ++ b).toArray⟩ := by
  apply ByteArray.ext
  rw [ByteArray.data_append]
  simp

set_option maxHeartbeats 400000 in
theorem refFormat_any (a : Int) (w : World) :
    Calls Tryz.prog 87 #[.int .i64 a] w fun e w' => e = .returned (.tuple #[.string ⟨(Pa.fmtS a).toArray⟩, .int .i64 (Pa.errB (Pa.validB a))]) ∧ Below w.heap.size w w' := by
  cases hv : Pa.validB a with
  | false =>
    have hf : Pa.fmtS a = [] := by unfold Pa.fmtS; rw [hv]; rfl
    have HF := Lib.hid hf; clear hf
    go_enter Tryz.func87, Tryz.ntmps87
    go_wp2_with (go_at_call 54; refine (refValid_any _ _).mono ?_; rintro e w' ⟨rfl, rfl⟩)
    go_ret2
    refine ⟨?_, Below.refl _ _⟩
    rw [HF.out]; rfl
  | true =>
    obtain ⟨h0, h1⟩ := Pa.validB_true.1 hv
    have hf : Pa.fmtS a = Pa.fmtL a := by unfold Pa.fmtS; rw [hv]; rfl
    have HF := Lib.hid hf; clear hf
    have o0 : Pa.oct a 0 = (a / 16777216).toNat := by unfold Pa.oct; simp only [Nat.reduceSub, Nat.reducePow]; omega
    have o1 : Pa.oct a 1 = (a / 65536 % 256).toNat := by unfold Pa.oct; simp only [Nat.reduceSub, Nat.reducePow]; omega
    have o2 : Pa.oct a 2 = (a / 256 % 256).toNat := by unfold Pa.oct; simp only [Nat.reduceSub, Nat.reducePow]; omega
    have o3 : Pa.oct a 3 = (a % 256).toNat := by unfold Pa.oct; simp only [Nat.reduceSub, Nat.reducePow]; omega
    have O0 := Lib.hid o0; have O1 := Lib.hid o1; have O2 := Lib.hid o2; have O3 := Lib.hid o3; clear o0 o1 o2 o3
    have l0 := Pa.dig_length (n := (a / 16777216).toNat) (by omega)
    have l1 := Pa.dig_length (n := (a / 65536 % 256).toNat) (by omega)
    have l2 := Pa.dig_length (n := (a / 256 % 256).toNat) (by omega)
    have l3 := Pa.dig_length (n := (a % 256).toNat) (by omega)
    go_enter Tryz.func87, Tryz.ntmps87
    go_wp2_with (go_at_call 54; refine (refValid_any _ _).mono ?_; rintro e w' ⟨rfl, rfl⟩)
    refine (digits _ _ (by omega) (by omega)).mono ?_
    rintro e w1 ⟨rfl, hb1⟩
    have B1 := Lib.hid hb1; clear hb1
    go_wp2_with fail
    refine (digits _ _ (by omega) (by omega)).mono ?_
    rintro e w2 ⟨rfl, hb2⟩
    have B2 := Lib.hid hb2; clear hb2
    go_wp2_with fail
    refine (digits _ _ (by omega) (by omega)).mono ?_
    rintro e w3 ⟨rfl, hb3⟩
    have B3 := Lib.hid hb3; clear hb3
    go_wp2_with fail
    refine (digits _ _ (by omega) (by omega)).mono ?_
    rintro e w4 ⟨rfl, hb4⟩
    have B4 := Lib.hid hb4; clear hb4
    go_wp2_with fail
    go_ret2
    refine ⟨?_, below_on (below_on (below_on B1.out B2.out) B3.out) B4.out⟩
    refine ret_strE ?_ rfl
    rw [HF.out]
    unfold Pa.fmtL
    rw [O0.out, O1.out, O2.out, O3.out, app _ [46], app, app _ [46], app, app _ [46], app]
    simp

end Go.Proofs.YtgajoiijebbagaaGreatDoor
