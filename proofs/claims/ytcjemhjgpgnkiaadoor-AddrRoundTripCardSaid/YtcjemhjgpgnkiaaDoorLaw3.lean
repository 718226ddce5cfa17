/-
  The walk of the law AddrRoundTrip: it returns true. Conditions: integers are 64-bit; the library's variables read as its text lays them.
-/
import Derived.Test.YtcjemhjgpgnkiaaDoorWalkM
import Derived.Test.YtcjemhjgpgnkiaaDoorPlainD
namespace Go.Proofs.YtcjemhjgpgnkiaaDoor
open Go.RowKit

theorem Pa.fmt_beq {x y : Int} (hx : Pa.validB x = true) (hy : Pa.validB y = true) : (Pa.fmtS x == Pa.fmtS y) = (x == y) := by
  have e1 : Pa.fmtS x = Pa.fmtL x := by unfold Pa.fmtS; rw [hx]; rfl
  have e2 : Pa.fmtS y = Pa.fmtL y := by unfold Pa.fmtS; rw [hy]; rfl
  rw [Bool.eq_iff_iff, beq_iff_eq, beq_iff_eq, e1, e2]
  exact ⟨Pa.fmtL_inj hx hy, fun h => by rw [h]⟩
theorem Pa.fmtP_beq {a b c d : Int} (h : Pa.validP a b = true) (k : Pa.validP c d = true) : (Pa.fmtP a b == Pa.fmtP c d) = (a == c && b == d) := by
  rw [Bool.eq_iff_iff, beq_iff_eq, Bool.and_eq_true, beq_iff_eq, beq_iff_eq]
  exact ⟨Pa.fmtP_inj h k, fun h => by rw [h.1, h.2]⟩

set_option maxHeartbeats 1000000 in
set_option maxRecDepth 100000 in
theorem law3 (a b c d e f : Int) (w : World) (ok : Ok w) (a0 : -9223372036854775808 ≤ a) (a1 : a ≤ 9223372036854775807) (b0 : -9223372036854775808 ≤ b) (b1 : b ≤ 9223372036854775807) (c0 : -9223372036854775808 ≤ c) (c1 : c ≤ 9223372036854775807) (d0 : -9223372036854775808 ≤ d) (d1 : d ≤ 9223372036854775807) (e0 : -9223372036854775808 ≤ e) (e1 : e ≤ 9223372036854775807) (f0 : -9223372036854775808 ≤ f) (f1 : f ≤ 9223372036854775807) :
    Calls Tryd.prog 5 #[.int .i64 a, .int .i64 b, .agg #[.int .i64 c, .int .i64 d], .agg #[.int .i64 e, .int .i64 f]] w fun e w' => e = .returned (.bool true) ∧ Below w.heap.size w w' := by
  have K0 := Lib.hid ok; clear ok
  have hA0 := ((Below.refl w.heap.size w).alloc (Nat.le_refl _) (.cells #[.int .i64 c, .int .i64 d] 23)).alloc (by simp) (.cells #[.int .i64 e, .int .i64 f] 23)
  have A0 := Lib.hid (K0.out.below hA0)
  have AB0 := Lib.hid hA0; clear hA0
  go_enter Tryd.func5, Tryd.ntmps5
  go_wp2_with fail
  refine (examples_any _ A0.out).mono ?_
  rintro e' w1 ⟨rfl, hb⟩
  have z1 := hb.size
  simp only [World.size_alloc] at z1
  have m0 : w1.cell? ⟨w.heap.size, 0, none⟩ = some (.int .i64 c) := cell_below hb (by simp; omega) (by simp)
  have m1 : w1.cell? ⟨w.heap.size, 1, none⟩ = some (.int .i64 d) := cell_below hb (by simp; omega) (by simp)
  have m2 : w1.cell? ⟨w.heap.size + 1, 0, none⟩ = some (.int .i64 e) := cell_below hb (by simp) (by simp)
  have m3 : w1.cell? ⟨w.heap.size + 1, 1, none⟩ = some (.int .i64 f) := cell_below hb (by simp) (by simp)
  have B1 := Lib.hid (below_on AB0.out hb)
  clear hb
  go_wp2_with fail
  refine (pick_any a 4294967296 _ a0 a1 (by omega) (by omega)).mono ?_
  rintro e' w' ⟨rfl, rfl⟩
  go_wp2_with fail
  refine (pick_any b 4294967296 _ b0 b1 (by omega) (by omega)).mono ?_
  rintro e' w' ⟨rfl, rfl⟩
  have x0 := Pa.pickI_lo a 4294967296 (by omega)
  have x1 := Pa.pickI_hi a 4294967296 (by omega)
  have y0 := Pa.pickI_lo b 4294967296 (by omega)
  have y1 := Pa.pickI_hi b 4294967296 (by omega)
  generalize hX : Pa.pickI a 4294967296 = X at *
  generalize hY : Pa.pickI b 4294967296 = Y at *
  clear hX hY a0 a1 b0 b1
  go_wp2_with fail
  refine (netOf_any c d _ c0 c1 d0 d1).mono ?_
  rintro e' w2 ⟨rfl, hb⟩
  have z2 := hb.size
  have n2 := cell_below hb (by omega) m2
  have n3 := cell_below hb (by omega) m3
  have B2 := Lib.hid (below_on B1.out hb)
  clear hb m0 m1 m2 m3
  have hv1 := Pa.net_valid c d
  generalize hP : Pa.netA c d = P at *
  generalize hQ : Pa.netB d = Q at *
  clear hP hQ c0 c1 d0 d1
  have hlw : w.heap.size + 1 < w2.heap.size := by omega
  go_wp2_with fail
  refine (netOf_any e f _ e0 e1 f0 f1).mono ?_
  rintro e' w3 ⟨rfl, hb⟩
  have z3 := hb.size
  simp only [World.size_alloc] at z3
  have p0 : w3.cell? ⟨w2.heap.size, 0, none⟩ = some (.int .i64 P) := cell_below hb (by simp) (by simp)
  have p1 : w3.cell? ⟨w2.heap.size, 1, none⟩ = some (.int .i64 Q) := cell_below hb (by simp) (by simp)
  have B3 := Lib.hid (below_on (B2.out.alloc (by omega) _) hb)
  clear hb n2 n3
  have hv2 := Pa.net_valid e f
  generalize hR : Pa.netA e f = R at *
  generalize hS : Pa.netB f = S at *
  clear hR hS e0 e1 f0 f1
  have hvx : Pa.validB X = true := Pa.validB_true.2 ⟨by omega, by omega⟩
  have hvy : Pa.validB Y = true := Pa.validB_true.2 ⟨by omega, by omega⟩
  have lx : (Pa.fmtS X).length ≤ 15 := by unfold Pa.fmtS; rw [hvx]; exact Pa.fmtL_length X
  have lp : (Pa.fmtP P Q).length ≤ 100 := by
    unfold Pa.fmtP; rw [hv1]
    have := Pa.fmtL_length P
    have := Pa.dig_length (n := Q.toNat) (by have := (Pa.validP_true.1 hv1).2.1; omega)
    simp; omega
  have g1 : Pa.errB (Pa.validB X) = 0 := by rw [hvx]; rfl
  have g2 : Pa.errB (Pa.validB Y) = 0 := by rw [hvy]; rfl
  have g3 : Pa.parV (Pa.fmtS X) = X ∧ Pa.errB (Pa.parOk (Pa.fmtS X)) = 0 := by
    have h := Pa.parse_fmt hvx
    rw [← show Pa.fmtS X = Pa.fmtL X by unfold Pa.fmtS; rw [hvx]; rfl] at h
    have := Pa.par_some h
    exact ⟨by rw [this.1]; omega, this.2⟩
  have g5 : Pa.errB (Pa.validP P Q) = 0 := by rw [hv1]; rfl
  have g6 : Pa.errB (Pa.validP R S) = 0 := by rw [hv2]; rfl
  have g7 : Pa.ppA (Pa.fmtP P Q) = P ∧ Pa.ppB (Pa.fmtP P Q) = Q ∧ Pa.errB (Pa.ppOk (Pa.fmtP P Q)) = 0 := by
    have h := Pa.pp_some (Pa.parse_fmtP hv1)
    have := Pa.validP_true.1 hv1
    exact ⟨by rw [h.1]; omega, by rw [h.2.1]; omega, h.2.2⟩
  have g8 := Pa.fmt_beq hvx hvy
  have g9 := Pa.fmtP_beq hv1 hv2
  have G1 := Lib.hid g1; have G2 := Lib.hid g2; have G3 := Lib.hid g3; have G5 := Lib.hid g5; have G6 := Lib.hid g6; have G7 := Lib.hid g7; have G8 := Lib.hid g8; have G9 := Lib.hid g9
  clear g1 g2 g3 g5 g6 g7 g8 g9 hvx hvy hv1 hv2
  have K3 := Lib.hid (K0.out.below (B3.out.alloc (by omega) (.cells #[.int .i64 R, .int .i64 S] 23)))
  have hlw3 : w2.heap.size < w3.heap.size := by omega
  go_wp2_with fail
  refine (format_any X _ K3.out).mono ?_
  rintro e' w4 ⟨rfl, hb⟩
  rw [G1.out]
  have z4 := hb.size
  simp only [World.size_alloc] at z4
  have q0 := cell_below hb (by simp; omega) (cell_old _ (by omega) p0)
  have q1 := cell_below hb (by simp; omega) (cell_old _ (by omega) p1)
  have r0 : w4.cell? ⟨w3.heap.size, 0, none⟩ = some (.int .i64 R) := cell_below hb (by simp) (by simp)
  have r1 : w4.cell? ⟨w3.heap.size, 1, none⟩ = some (.int .i64 S) := cell_below hb (by simp) (by simp)
  have B4 := Lib.hid (below_on (B3.out.alloc (by omega) _) hb)
  have K4 := Lib.hid (K0.out.below B4.out)
  clear hb p0 p1
  go_wp2_with fail
  refine (format_any Y _ K4.out).mono ?_
  rintro e' w5 ⟨rfl, hb⟩
  rw [G2.out]
  have z5 := hb.size
  have s0 := cell_below hb (by omega) q0
  have s1 := cell_below hb (by omega) q1
  have s2 := cell_below hb (by omega) r0
  have s3 := cell_below hb (by omega) r1
  clear q0 q1 r0 r1
  have q0 := s0; have q1 := s1; have r0 := s2; have r1 := s3
  clear s0 s1 s2 s3
  have B5 := Lib.hid (below_on B4.out hb)
  have K5 := Lib.hid (K0.out.below B5.out)
  clear hb
  go_wp2_with fail
  refine (parse_any _ _ (by simp [ByteArray.size]; omega) K5.out).mono ?_
  rintro e' w6 ⟨rfl, hb⟩
  rw [G3.out.1, G3.out.2]
  have z6 := hb.size
  have s0 := cell_below hb (by omega) q0
  have s1 := cell_below hb (by omega) q1
  have s2 := cell_below hb (by omega) r0
  have s3 := cell_below hb (by omega) r1
  clear q0 q1 r0 r1
  have q0 := s0; have q1 := s1; have r0 := s2; have r1 := s3
  clear s0 s1 s2 s3
  have B6 := Lib.hid (below_on B5.out hb)
  have K6 := Lib.hid (K0.out.below B6.out)
  clear hb
  go_wp2_with fail
  refine (formatPrefix_any P Q _ K6.out).mono ?_
  rintro e' w7 ⟨rfl, hb⟩
  rw [G5.out]
  have z7 := hb.size
  have s0 := cell_below hb (by omega) q0
  have s1 := cell_below hb (by omega) q1
  have s2 := cell_below hb (by omega) r0
  have s3 := cell_below hb (by omega) r1
  clear q0 q1 r0 r1
  have q0 := s0; have q1 := s1; have r0 := s2; have r1 := s3
  clear s0 s1 s2 s3
  have B7 := Lib.hid (below_on B6.out hb)
  have K7 := Lib.hid (K0.out.below B7.out)
  clear hb
  go_wp2_with fail
  refine (formatPrefix_any R S _ K7.out).mono ?_
  rintro e' w8 ⟨rfl, hb⟩
  rw [G6.out]
  have z8 := hb.size
  have s0 := cell_below hb (by omega) q0
  have s1 := cell_below hb (by omega) q1
  have s2 := cell_below hb (by omega) r0
  have s3 := cell_below hb (by omega) r1
  clear q0 q1 r0 r1
  have q0 := s0; have q1 := s1; have r0 := s2; have r1 := s3
  clear s0 s1 s2 s3
  have B8 := Lib.hid (below_on B7.out hb)
  have K8 := Lib.hid (K0.out.below B8.out)
  clear hb
  go_wp2_with fail
  refine (parsePrefix_any _ _ (by simp [ByteArray.size]; omega) K8.out).mono ?_
  rintro e' w9 ⟨rfl, hb⟩
  rw [G7.out.1, G7.out.2.1, G7.out.2.2]
  have z9 := hb.size
  have s0 := cell_below hb (by omega) q0
  have s1 := cell_below hb (by omega) q1
  have s2 := cell_below hb (by omega) r0
  have s3 := cell_below hb (by omega) r1
  clear q0 q1 r0 r1
  have q0 := s0; have q1 := s1; have r0 := s2; have r1 := s3
  clear s0 s1 s2 s3
  have B9 := Lib.hid (below_on B8.out hb)
  have K9 := Lib.hid (K0.out.below B9.out)
  clear hb
  have hlw9 : w2.heap.size < w9.heap.size := by omega
  have hlw9' : w3.heap.size < w9.heap.size := by omega
  have g8 : (Pa.fmtS X == Pa.fmtS Y) = (X == Y) := G8.out
  have g9 : (Pa.fmtP P Q == Pa.fmtP R S) = (P == R && Q == S) := G9.out
  clear G8 G9
  by_cases hPR : P = R
  · subst hPR
    by_cases hQS : Q = S
    · subst hQS
      clear g9
      go_wp2_with fail
      go_ret
      exact ⟨rfl, B9.out.alloc (by omega) _⟩
    · have gq : (Q == S) = false := by rw [beq_eq_false_iff_ne]; exact hQS
      have g10 : (Pa.fmtP P Q == Pa.fmtP P S) = false := by rw [g9, gq]; simp
      clear g9 hQS
      go_wp2_with fail
      go_ret
      exact ⟨rfl, B9.out.alloc (by omega) _⟩
  · have gq : (P == R) = false := by rw [beq_eq_false_iff_ne]; exact hPR
    have g10 : (Pa.fmtP P Q == Pa.fmtP R S) = false := by rw [g9, gq]; simp
    clear g9 hPR
    go_wp2_with fail
    go_ret
    exact ⟨rfl, B9.out.alloc (by omega) _⟩

end Go.Proofs.YtcjemhjgpgnkiaaDoor
