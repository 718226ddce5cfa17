/-
  The walk of the law AddrParsesLikeReference: it returns true. Conditions: integers are 64-bit; the library's variables read as its text lays them.
-/
import Derived.Test.YtcjemhjgpgnkiaaDoorWalkM
import Derived.Test.YtcjemhjgpgnkiaaDoorPlainD
import Derived.Test.YtcjemhjgpgnkiaaDoorTail
namespace Go.Proofs.YtcjemhjgpgnkiaaDoor
open Go.RowKit

/-- Block B holds nine short strings. -/
def Nine (B : Nat) (w : World) : Prop := ∀ j, j < 9 → ∃ x : ByteArray, x.size ≤ 1000000 ∧ w.cell? ⟨B, j, none⟩ = some (.string x)
theorem Nine.below {B : Nat} {w w' : World} (h : Nine B w) (hB : B < w.heap.size) (hb : Below w.heap.size w w') : Nine B w' := fun j hj =>
  let ⟨x, h1, h2⟩ := h j hj
  ⟨x, h1, cell_below hb hB h2⟩

set_option maxHeartbeats 2000000 in
set_option maxRecDepth 100000 in
theorem law2 (s : ByteArray) (b c a y : Int) (w : World) (ok : Ok w) (hs : s.size ≤ maxLen) (b0 : -9223372036854775808 ≤ b) (b1 : b ≤ 9223372036854775807) (c0 : -9223372036854775808 ≤ c) (c1 : c ≤ 9223372036854775807) (a0 : -9223372036854775808 ≤ a) (a1 : a ≤ 9223372036854775807) (_y0 : 0 ≤ y) (_y1 : y ≤ 255) :
    Calls Tryd.prog 4 #[.string s, .agg #[.int .i64 b, .int .i64 c], .int .i64 a, .int .u8 y] w fun e w' => e = .returned (.bool true) ∧ Below w.heap.size w w' := by
  unfold maxLen at hs
  have K0 := Lib.hid ok; clear ok
  have A0 := Lib.hid (K0.out.below (((Below.refl _ _).alloc (Nat.le_refl _) (.cells #[.int .i64 b, .int .i64 c] 23))))
  have hcv1 := conv1
  go_enter Tryd.func4, Tryd.ntmps4
  go_wp2_with fail
  refine (examples_any _ A0.out).mono ?_
  rintro e w1 ⟨rfl, hb⟩
  have z1 := hb.size
  simp only [World.size_alloc] at z1
  have p0 : w1.cell? ⟨w.heap.size, 0, none⟩ = some (.int .i64 b) := cell_below hb (by simp) (by simp)
  have p1 : w1.cell? ⟨w.heap.size, 1, none⟩ = some (.int .i64 c) := cell_below hb (by simp) (by simp)
  have B1 := Lib.hid (below_on ((Below.refl _ _).alloc (Nat.le_refl _) _) hb)
  clear hb
  go_wp2_with fail
  refine (netOf_any b c _ b0 b1 c0 c1).mono ?_
  rintro e w2 ⟨rfl, hb⟩
  have z2 := hb.size
  have B2 := Lib.hid (below_on B1.out hb)
  clear hb p0 p1
  have hv := Pa.net_valid b c
  generalize hY : Pa.netA b c = Y at *
  generalize hZ : Pa.netB c = Z at *
  clear hY hZ b0 b1 c0 c1
  go_wp2_with fail
  refine (refFormat_any Y _).mono ?_
  rintro e w3 ⟨rfl, hb⟩
  have z3 := hb.size
  simp only [World.size_alloc] at z3
  have q0 : w3.cell? ⟨w2.heap.size, 0, none⟩ = some (.int .i64 Y) := cell_below hb (by simp) (by simp)
  have q1 : w3.cell? ⟨w2.heap.size, 1, none⟩ = some (.int .i64 Z) := cell_below hb (by simp) (by simp)
  have B3 := Lib.hid (below_on (B2.out.alloc (by omega) _) hb)
  clear hb
  go_wp2_with fail
  refine (refFormatPrefix_any Y Z _).mono ?_
  rintro e w4 ⟨rfl, hb⟩
  have B4 := Lib.hid (below_on B3.out hb)
  clear hb q0 q1 z1 z2 z3
  have hvy : Pa.validB Y = true := Pa.validB_true.2 (Pa.validP_true.1 hv).1
  have hZ32 := (Pa.validP_true.1 hv).2.1
  have eT : Pa.fmtS Y = Pa.fmtL Y := by unfold Pa.fmtS; rw [hvy]; rfl
  have eU : Pa.fmtP Y Z = Pa.fmtL Y ++ 47 :: Pa.dig Z.toNat := by unfold Pa.fmtP; rw [hv]; rfl
  rw [eT, eU]
  have lT := Pa.fmtL_length Y
  have lD := Pa.dig_length (n := Z.toNat) (by omega)
  have lD1 : 1 ≤ (Pa.dig Z.toNat).length := List.length_pos_iff.2 (Pa.dig_spec Z.toNat).2.2.1
  generalize hT : (⟨(Pa.fmtL Y).toArray⟩ : ByteArray) = T
  generalize hU : (⟨(Pa.fmtL Y ++ 47 :: Pa.dig Z.toNat).toArray⟩ : ByteArray) = U
  have sT : T.size ≤ 15 := by rw [← hT]; simpa [ByteArray.size] using lT
  have sU : T.size + 2 ≤ U.size := by rw [← hT, ← hU]; simp [ByteArray.size]; omega
  have sU2 : U.size ≤ 100 := by rw [← hU]; simp [ByteArray.size]; omega
  clear hT hU eT eU lT lD lD1 hvy hZ32 hv
  go_wp2_with fail
  refine (pick_any a ((T.size : Int) + 1) _ a0 a1 (by omega) (by omega)).mono ?_
  rintro e w' ⟨rfl, rfl⟩
  have k0 := Pa.pickI_lo a ((T.size : Int) + 1) (by omega)
  have k1 := Pa.pickI_hi a ((T.size : Int) + 1) (by omega)
  obtain ⟨k, hk⟩ := Int.eq_ofNat_of_zero_le k0
  rw [hk] at k1 ⊢
  have hkT : k ≤ T.size := by omega
  clear hk k0 k1 a0 a1
  go_wp2_with fail
  have B5 := Lib.hid (B4.out.alloc B4.out.size (.cells #[.int .u8 y] 5))
  generalize (w4.alloc (.cells #[.int .u8 y] 5)) = w5 at *
  generalize hC : (⟨#[UInt8.ofNat y.toNat]⟩ : ByteArray) = C
  have sC : C.size = 1 := by rw [← hC]; rfl
  have sC1 : C.size ≤ 1 := by omega
  clear hC sC hcv1
  obtain ⟨M, hM⟩ : ∃ M : Nat, min (s.size : Int) 100 = (M : Int) := ⟨min s.size 100, by omega⟩
  have M1 : M ≤ s.size := by omega
  have M2 : M ≤ 100 := by omega
  obtain ⟨J, hJ⟩ : ∃ J : Nat, min ((k : Int) + 1) (T.size : Int) = (J : Int) := ⟨min (k + 1) T.size, by omega⟩
  have J1 : J ≤ T.size := by omega
  have hkU : k + 1 ≤ U.size := by omega
  have hw1 : IntKind.i64.wrap ((k : Int) + 1) = (k : Int) + 1 := IntWalk.i64_in _ ⟨by omega, by omega⟩
  have hJ2 : (J : Int) ≤ (T.size : Int) := by omega
  have hkI : (k : Int) ≤ (T.size : Int) := by omega
  have hkI2 : (k : Int) + 1 ≤ (U.size : Int) := by omega
  have hkI3 : (k : Int) ≤ (U.size : Int) := by omega
  have hMI : (M : Int) ≤ (s.size : Int) := by omega
  have htn : ((k : Int) + 1).toNat = k + 1 := by omega
  go_region
  have hnine : Nine w5.heap.size (w5.alloc (.cells #[.string (s.extract 0 M), .string T, .string U, .string (T.extract 0 k ++ C ++ T.extract k T.size), .string (T.extract 0 k ++ C ++ T.extract J T.size), .string (T.extract 0 k ++ T.extract J T.size), .string (U.extract 0 k ++ C ++ U.extract k U.size), .string (U.extract 0 k ++ U.extract (k + 1) U.size), .string (U ++ C)] 9)) := by
    intro j hj
    have hsz : ∀ x : ByteArray, x.size ≤ 1000 → ∃ y : ByteArray, y.size ≤ 1000000 ∧ some (Value.string x) = some (.string y) := fun x hx => ⟨x, by omega, rfl⟩
    match j, hj with
    | 0, _ => simpa using hsz (s.extract 0 M) (by simp; omega)
    | 1, _ => simpa using hsz T (by omega)
    | 2, _ => simpa using hsz U (by omega)
    | 3, _ => simpa using hsz (T.extract 0 k ++ C ++ T.extract k T.size) (by simp; omega)
    | 4, _ => simpa using hsz (T.extract 0 k ++ C ++ T.extract J T.size) (by simp; omega)
    | 5, _ => simpa using hsz (T.extract 0 k ++ T.extract J T.size) (by simp; omega)
    | 6, _ => simpa using hsz (U.extract 0 k ++ C ++ U.extract k U.size) (by simp; omega)
    | 7, _ => simpa using hsz (U.extract 0 k ++ U.extract (k + 1) U.size) (by simp; omega)
    | 8, _ => simpa using hsz (U ++ C) (by simp; omega)
  have HN := Lib.hid hnine
  clear hnine hw1 htn hJ hM
  go_wp2_with fail
  go_loopw [116] (fun i wr => ∃ n : Nat, n ≤ 9 ∧ i = .int .i64 n ∧ Hid (Nine w5.heap.size wr) ∧ Below w.heap.size w wr ∧ w5.heap.size < wr.heap.size) (fun i _ => 9 - (intOf i).toNat)
  case atStart => exact ⟨0, by omega, rfl, HN, (B5.out.alloc B5.out.size _).drew, by simp⟩
  case round =>
    obtain ⟨n, hn, rfl, HN', hb, hz⟩ := hrel
    have HB := Lib.hid hb
    have K5 := Lib.hid (K0.out.below hb)
    clear hb
    by_cases hlt : n < 9
    · obtain ⟨x, hx, hc⟩ := HN'.out n hlt
      go_wp2_with fail
      refine (parse_any x _ hx K5.out).mono ?_
      rintro e' w6 ⟨rfl, hb⟩
      have B6 := Lib.hid (below_on HB.out hb)
      have N6 := Lib.hid (HN'.out.below hz hb)
      have z6 : w5.heap.size < w6.heap.size := Nat.lt_of_lt_of_le hz hb.size
      clear hb hc
      go_wp2_with fail
      refine (refParse_any x _ hx).mono ?_
      rintro e' w7 ⟨rfl, hb⟩
      have B7 := Lib.hid (below_on B6.out hb)
      have N7 := Lib.hid (N6.out.below z6 hb)
      have z7 : w5.heap.size < w7.heap.size := Nat.lt_of_lt_of_le z6 hb.size
      have K7 := Lib.hid (K0.out.below B7.out)
      clear hb z6
      go_wp2_with fail
      refine (parsePrefix_any x _ hx K7.out).mono ?_
      rintro e' w8 ⟨rfl, hb⟩
      have B8 := Lib.hid (below_on B7.out hb)
      have N8 := Lib.hid (N7.out.below z7 hb)
      have z8 : w5.heap.size < w8.heap.size := Nat.lt_of_lt_of_le z7 hb.size
      clear hb z7
      go_wp2_with fail
      refine (refParsePrefix_any x _ hx).mono ?_
      rintro e' w9 ⟨rfl, hb⟩
      have z9 := hb.size
      simp only [World.size_alloc] at z9
      generalize Pa.ppA x.data.toList = X1 at *
      generalize Pa.ppB x.data.toList = X2 at *
      generalize Pa.errB (Pa.ppOk x.data.toList) = X3 at *
      generalize Pa.parV x.data.toList = X4 at *
      generalize Pa.errB (Pa.parOk x.data.toList) = X5 at *
      have d0 : w9.cell? ⟨w8.heap.size, 0, none⟩ = some (.int .i64 X1) := cell_below hb (by simp) (by simp)
      have d1 : w9.cell? ⟨w8.heap.size, 1, none⟩ = some (.int .i64 X2) := cell_below hb (by simp) (by simp)
      have h89 : w8.heap.size < w9.heap.size := by omega
      have hb8 := (Below.refl w8.heap.size w8).alloc (Nat.le_refl _) (.cells #[.int .i64 X1, .int .i64 X2] 23)
      have B9 := Lib.hid (below_on (below_on B8.out hb8) hb)
      have N9 := Lib.hid ((N8.out.below z8 hb8).below (by simp; omega) hb)
      clear hb hb8
      go_wp2_with fail
      go_roundw
      case rel => exact ⟨n + 1, by omega, by go_num, N9.out.below (by omega) ((Below.refl _ _).alloc (Nat.le_refl _) _), B9.out.alloc B9.out.size _, by simp; omega⟩
      case measure => simp [intOf]; omega
    · obtain rfl : n = 9 := by omega
      go_wp2_with fail
      go_ret
      exact ⟨rfl, HB.out⟩

end Go.Proofs.YtcjemhjgpgnkiaaDoor
