/-
  The walk of the law AddrPrefixesNestOrDisjoint: it returns true. Conditions: integers are 64-bit; the library's variables read as its text lays them.
-/
import Derived.Test.YtcjemhjgpgnkiaaDoorWalkM
import Derived.Test.YtcjemhjgpgnkiaaDoorPlainD
import Derived.Test.YtcjemhjgpgnkiaaDoorTail
namespace Go.Proofs.YtcjemhjgpgnkiaaDoor
open Go.RowKit

/-- The law's last line, in the four answers. -/
theorem Pa.nest_answers {P Q R S : Int} (h : Pa.validP P Q = true) (k : Pa.validP R S = true) :
    (Q ≤ S → Pa.containsP P Q R = Pa.containsP P Q (Pa.lastP R S) ∧ (Pa.containsP P Q R = true ∨ Pa.containsP P Q R = false ∧ Pa.containsP R S P = false ∧ Pa.containsP R S (Pa.lastP P Q) = false)) ∧
    (S < Q → Pa.containsP R S P = Pa.containsP R S (Pa.lastP P Q) ∧ (Pa.containsP R S P = true ∨ Pa.containsP R S P = false ∧ Pa.containsP P Q R = false ∧ Pa.containsP P Q (Pa.lastP R S) = false)) := by
  have lh := Pa.last_le h
  have lk := Pa.last_le k
  have p1 := Pa.pwI_pos Q
  have p2 := Pa.pwI_pos S
  refine ⟨fun hQS => ?_, fun hQS => ?_⟩
  · rcases Pa.nest h k hQS with ⟨h1, h2⟩ | h1
    · rw [Pa.contains_yes h h1 (by omega), Pa.contains_yes h (by omega) h2]
      exact ⟨rfl, Or.inl rfl⟩
    · rw [Pa.contains_no h (by omega), Pa.contains_no h (by omega), Pa.contains_no k (by omega), Pa.contains_no k (by omega)]
      exact ⟨rfl, Or.inr ⟨rfl, rfl, rfl⟩⟩
  · rcases Pa.nest k h (by omega) with ⟨h1, h2⟩ | h1
    · rw [Pa.contains_yes k h1 (by omega), Pa.contains_yes k (by omega) h2]
      exact ⟨rfl, Or.inl rfl⟩
    · rw [Pa.contains_no k (by omega), Pa.contains_no k (by omega), Pa.contains_no h (by omega), Pa.contains_no h (by omega)]
      exact ⟨rfl, Or.inr ⟨rfl, rfl, rfl⟩⟩

set_option maxHeartbeats 1000000 in
set_option maxRecDepth 100000 in
theorem law5 (a b c d : Int) (near : Bool) (w : World) (ok : Ok w) (a0 : -9223372036854775808 ≤ a) (a1 : a ≤ 9223372036854775807) (b0 : -9223372036854775808 ≤ b) (b1 : b ≤ 9223372036854775807) (c0 : -9223372036854775808 ≤ c) (c1 : c ≤ 9223372036854775807) (d0 : -9223372036854775808 ≤ d) (d1 : d ≤ 9223372036854775807) :
    Calls Tryd.prog 7 #[.agg #[.int .i64 a, .int .i64 b], .agg #[.int .i64 c, .int .i64 d], .bool near] w fun e w' => e = .returned (.bool true) ∧ Below w.heap.size w w' := by
  have K0 := Lib.hid ok; clear ok
  have hA0 := ((Below.refl w.heap.size w).alloc (Nat.le_refl _) (.cells #[.int .i64 a, .int .i64 b] 23)).alloc (by simp) (.cells #[.int .i64 c, .int .i64 d] 23)
  have A0 := Lib.hid (K0.out.below hA0)
  have AB0 := Lib.hid hA0; clear hA0
  go_enter Tryd.func7, Tryd.ntmps7
  go_wp2_with fail
  refine (examples_any _ A0.out).mono ?_
  rintro e' w1 ⟨rfl, hb⟩
  have z1 := hb.size
  simp only [World.size_alloc] at z1
  have m0 : w1.cell? ⟨w.heap.size, 0, none⟩ = some (.int .i64 a) := cell_below hb (by simp; omega) (by simp)
  have m1 : w1.cell? ⟨w.heap.size, 1, none⟩ = some (.int .i64 b) := cell_below hb (by simp; omega) (by simp)
  have m2 : w1.cell? ⟨w.heap.size + 1, 0, none⟩ = some (.int .i64 c) := cell_below hb (by simp) (by simp)
  have m3 : w1.cell? ⟨w.heap.size + 1, 1, none⟩ = some (.int .i64 d) := cell_below hb (by simp) (by simp)
  have B1 := Lib.hid (below_on AB0.out hb)
  clear hb
  go_wp2_with fail
  refine (netOf_any a b _ a0 a1 b0 b1).mono ?_
  rintro e' w2 ⟨rfl, hb⟩
  have z2 := hb.size
  have n2 := cell_below hb (by omega) m2
  have n3 := cell_below hb (by omega) m3
  have B2 := Lib.hid (below_on B1.out hb)
  clear hb m0 m1 m2 m3
  have HV1 := Lib.hid (Pa.net_valid a b)
  generalize hP : Pa.netA a b = P at *
  generalize hQ : Pa.netB b = Q at *
  clear hP hQ a0 a1 b0 b1
  have hlw : w.heap.size + 1 < w2.heap.size := by omega
  go_wp2_with fail
  refine (netOf_any c d _ c0 c1 d0 d1).mono ?_
  rintro e' w3 ⟨rfl, hb⟩
  have z3 := hb.size
  simp only [World.size_alloc] at z3
  have p0 : w3.cell? ⟨w2.heap.size, 0, none⟩ = some (.int .i64 P) := cell_below hb (by simp) (by simp)
  have p1 : w3.cell? ⟨w2.heap.size, 1, none⟩ = some (.int .i64 Q) := cell_below hb (by simp) (by simp)
  have o2 := cell_below hb (by simp; omega) (cell_old _ (by omega) n2)
  have o3 := cell_below hb (by simp; omega) (cell_old _ (by omega) n3)
  have B3 := Lib.hid (below_on (B2.out.alloc (by omega) _) hb)
  clear hb n2 n3
  have HV2 := Lib.hid (Pa.net_valid c d)
  generalize hR : Pa.netA c d = R at *
  generalize hS : Pa.netB d = S at *
  clear hR hS
  have hlw3 : w2.heap.size < w3.heap.size := by omega
  have hP := (Pa.validP_true.1 HV1.out).1
  have P0 : 0 ≤ P := hP.1
  have P1 : P ≤ 4294967295 := hP.2
  clear hP
  cases near with
  | false =>
    clear o2 o3 c0 c1 d0 d1
    go_wp2_with fail
    have r0 := cell_old (.cells #[.int .i64 R, .int .i64 S] 23) (by omega) p0
    have r1 := cell_old (.cells #[.int .i64 R, .int .i64 S] 23) (by omega) p1
    have r2 : (w3.alloc (.cells #[.int .i64 R, .int .i64 S] 23)).cell? ⟨w3.heap.size, 0, none⟩ = some (.int .i64 R) := by simp
    have r3 : (w3.alloc (.cells #[.int .i64 R, .int .i64 S] 23)).cell? ⟨w3.heap.size, 1, none⟩ = some (.int .i64 S) := by simp
    have B4 := Lib.hid (B3.out.alloc (by omega) (.cells #[.int .i64 R, .int .i64 S] 23))
    have hz4 : w3.heap.size < (w3.alloc (.cells #[.int .i64 R, .int .i64 S] 23)).heap.size := by simp
    clear p0 p1
    generalize (w3.alloc (.cells #[.int .i64 R, .int .i64 S] 23)) = w4 at *
    have hans := Pa.nest_answers HV1.out HV2.out
    have HANS := Lib.hid hans; clear hans
    refine (contains_any P Q R _).mono ?_
    rintro e' w5 ⟨rfl, hb⟩
    have z5 := hb.size
    have s0 := cell_below hb (by omega) r0
    have s1 := cell_below hb (by omega) r1
    have s2 := cell_below hb (by omega) r2
    have s3 := cell_below hb (by omega) r3
    have B5 := Lib.hid (below_on B4.out hb)
    clear hb r0 r1 r2 r3
    go_wp2_with fail
    refine wp_region_below (by kernel_rfl) (by kernel_rfl) ?_
    intro W hW
    have e0 : ∀ x : Lat (Below W.heap.size W), x.u.cell? ⟨w2.heap.size, 0, none⟩ = some (.int .i64 P) := fun x => x.cell (by rw [hW]; omega) (by rw [hW]; exact s0)
    have e1 : ∀ x : Lat (Below W.heap.size W), x.u.cell? ⟨w2.heap.size, 1, none⟩ = some (.int .i64 Q) := fun x => x.cell (by rw [hW]; omega) (by rw [hW]; exact s1)
    have e2 : ∀ x : Lat (Below W.heap.size W), x.u.cell? ⟨w3.heap.size, 0, none⟩ = some (.int .i64 R) := fun x => x.cell (by rw [hW]; omega) (by rw [hW]; exact s2)
    have e3 : ∀ x : Lat (Below W.heap.size W), x.u.cell? ⟨w3.heap.size, 1, none⟩ = some (.int .i64 S) := fun x => x.cell (by rw [hW]; omega) (by rw [hW]; exact s3)
    have HW := Lib.hid hW; clear hW
    repeat (go_big_quiet_step (first
      | (go_at_call 22; exact Calls.below (last_any _ _ _))
      | (go_at_call 24; exact Calls.below (contains_any _ _ _ _))))
    refine wpQuiet_nil ?_
    rintro w6 ⟨x, hx⟩
    have hb : Below w5.heap.size w5 w6 := by have := x.h; rw [← hx] at this; rw [HW.out] at this; exact this
    clear hx x e0 e1 e2 e3 HW W
    have z6 := hb.size
    have r0 := cell_below hb (by omega) s0
    have r1 := cell_below hb (by omega) s1
    have r2 := cell_below hb (by omega) s2
    have r3 := cell_below hb (by omega) s3
    have B6 := Lib.hid (below_on B5.out hb)
    clear hb s0 s1 s2 s3
    go_wp2_with fail
    refine (contains_any R S P _).mono ?_
    rintro e' w7 ⟨rfl, hb⟩
    have z7 := hb.size
    have s0 := cell_below hb (by omega) r0
    have s1 := cell_below hb (by omega) r1
    have s2 := cell_below hb (by omega) r2
    have s3 := cell_below hb (by omega) r3
    have B7 := Lib.hid (below_on B6.out hb)
    clear hb r0 r1 r2 r3
    go_wp2_with fail
    refine wp_region_below (by kernel_rfl) (by kernel_rfl) ?_
    intro W hW
    have e0 : ∀ x : Lat (Below W.heap.size W), x.u.cell? ⟨w2.heap.size, 0, none⟩ = some (.int .i64 P) := fun x => x.cell (by rw [hW]; omega) (by rw [hW]; exact s0)
    have e1 : ∀ x : Lat (Below W.heap.size W), x.u.cell? ⟨w2.heap.size, 1, none⟩ = some (.int .i64 Q) := fun x => x.cell (by rw [hW]; omega) (by rw [hW]; exact s1)
    have e2 : ∀ x : Lat (Below W.heap.size W), x.u.cell? ⟨w3.heap.size, 0, none⟩ = some (.int .i64 R) := fun x => x.cell (by rw [hW]; omega) (by rw [hW]; exact s2)
    have e3 : ∀ x : Lat (Below W.heap.size W), x.u.cell? ⟨w3.heap.size, 1, none⟩ = some (.int .i64 S) := fun x => x.cell (by rw [hW]; omega) (by rw [hW]; exact s3)
    have HW := Lib.hid hW; clear hW
    repeat (go_big_quiet_step (first
      | (go_at_call 22; exact Calls.below (last_any _ _ _))
      | (go_at_call 24; exact Calls.below (contains_any _ _ _ _))))
    refine wpQuiet_nil ?_
    rintro w8 ⟨x, hx⟩
    have hb : Below w7.heap.size w7 w8 := by have := x.h; rw [← hx] at this; rw [HW.out] at this; exact this
    clear hx x e0 e1 e2 e3 HW W
    have z8 := hb.size
    have r0 := cell_below hb (by omega) s0
    have r1 := cell_below hb (by omega) s1
    have r2 := cell_below hb (by omega) s2
    have r3 := cell_below hb (by omega) s3
    have B8 := Lib.hid (below_on B7.out hb)
    clear hb s0 s1 s2 s3
    generalize Pa.containsP P Q (Pa.lastP R S) = t2 at *
    generalize Pa.containsP R S (Pa.lastP P Q) = t4 at *
    generalize Pa.containsP P Q R = t1 at *
    generalize Pa.containsP R S P = t3 at *
    clear P0 P1
    by_cases hQS : Q ≤ S
    · have hd : decide (Q ≤ S) = true := by simpa using hQS
      obtain ⟨rfl, hc⟩ := HANS.out.1 hQS
      clear HANS
      rcases hc with rfl | ⟨rfl, rfl, rfl⟩
      · go_wp2
        go_ret
        exact ⟨rfl, B8.out⟩
      · go_wp2
        go_ret
        exact ⟨rfl, B8.out⟩
    · have hd : decide (Q ≤ S) = false := by simpa using hQS
      obtain ⟨rfl, hc⟩ := HANS.out.2 (by omega)
      clear HANS
      rcases hc with rfl | ⟨rfl, rfl, rfl⟩
      · go_wp2
        go_ret
        exact ⟨rfl, B8.out⟩
      · go_wp2
        go_ret
        exact ⟨rfl, B8.out⟩
  | true =>
    have kk0 := Pa.pickI_lo c 300 (by omega)
    have kk1 := Pa.pickI_hi c 300 (by omega)
    have hw1 : IntKind.i64.wrap (P + Pa.pickI c 300) = P + Pa.pickI c 300 := IntWalk.i64_in _ ⟨by omega, by omega⟩
    go_wp2_with fail
    refine wp_region_below_tail 9 (by kernel_rfl) (by kernel_rfl) ?_
    intro W hW
    have e0 : ∀ x : Lat (Below W.heap.size W), x.u.cell? ⟨w2.heap.size, 0, none⟩ = some (.int .i64 P) := fun x => x.cell (by rw [hW]; simp; omega) (by rw [hW]; exact cell_old _ (by omega) p0)
    have e2 : ∀ x : Lat (Below W.heap.size W), x.u.cell? ⟨w.heap.size + 1, 0, none⟩ = some (.int .i64 c) := fun x => x.cell (by rw [hW]; simp; omega) (by rw [hW]; exact cell_old _ (by omega) o2)
    have e3 : ∀ x : Lat (Below W.heap.size W), x.u.cell? ⟨w.heap.size + 1, 1, none⟩ = some (.int .i64 d) := fun x => x.cell (by rw [hW]; simp; omega) (by rw [hW]; exact cell_old _ (by omega) o3)
    have q0 : W.cell? ⟨w2.heap.size, 0, none⟩ = some (.int .i64 P) := by rw [hW]; exact cell_old _ (by omega) p0
    have q1 : W.cell? ⟨w2.heap.size, 1, none⟩ = some (.int .i64 Q) := by rw [hW]; exact cell_old _ (by omega) p1
    have q2 : W.cell? ⟨w3.heap.size, 0, none⟩ = some (.int .i64 R) := by rw [hW]; simp
    have q3 : W.cell? ⟨w3.heap.size, 1, none⟩ = some (.int .i64 S) := by rw [hW]; simp
    have f2 : W.frozen? ⟨w3.heap.size, 0, none⟩ = false := by rw [hW]; simp
    have f3 : W.frozen? ⟨w3.heap.size, 1, none⟩ = false := by rw [hW]; simp
    have B3' : Below w.heap.size w W := by rw [hW]; exact B3.out.alloc (by omega) _
    have hszW : w3.heap.size + 1 = W.heap.size := by rw [hW]; simp
    have HSZ : w3.heap.size + 1 ≤ W.heap.size := by omega
    have HB3 := Lib.hid B3'
    clear hW B3' p0 p1 o2 o3 hszW
    simp only [List.take_succ_cons, List.take_zero, List.drop_succ_cons, List.drop_zero]
    repeat (go_big_quiet_step (first
      | (go_at_call 11; exact Calls.same (pick_any _ _ _ c0 c1 (by omega) (by omega)))
      | (go_at_call 12; exact Calls.below (netOf_any _ _ _ (by omega) (by omega) d0 d1))))
    refine wpQuiet_nil ?_
    rintro w4 ⟨x, hx⟩
    have hb : Below W.heap.size W w4 := by rw [hx]; exact x.h
    clear hx x e0 e2 e3 hw1 HV2
    have z4 := hb.size
    have r0 := cell_below hb (by omega) q0
    have r1 := cell_below hb (by omega) q1
    have r2 := cell_below hb (by omega) q2
    have r3 := cell_below hb (by omega) q3
    have g2 := frozen_below hb (by omega) f2
    have g3 := frozen_below hb (by omega) f3
    have B4' := Lib.hid (below_on HB3.out hb)
    clear hb q0 q1 q2 q3 f2 f3
    have HV2 := Lib.hid (Pa.net_valid (P + Pa.pickI c 300) d)
    generalize hR' : Pa.netA (P + Pa.pickI c 300) d = R' at *
    generalize hS' : Pa.netB d = S' at *
    clear hR' hS' kk0 kk1 c0 c1 d0 d1
    go_wp2_with fail
    have hne : w3.heap.size ≠ w2.heap.size := by omega
    have t0 : ((w4.setCell ⟨w3.heap.size, 0, none⟩ (.int .i64 R')).setCell ⟨w3.heap.size, 1, none⟩ (.int .i64 S')).cell? ⟨w2.heap.size, 0, none⟩ = some (.int .i64 P) := by
      rw [World.cell?_setCell_other _ _ _ _ (by simp), World.cell?_setCell_other _ _ _ _ (by simp), r0]
    have t1 : ((w4.setCell ⟨w3.heap.size, 0, none⟩ (.int .i64 R')).setCell ⟨w3.heap.size, 1, none⟩ (.int .i64 S')).cell? ⟨w2.heap.size, 1, none⟩ = some (.int .i64 Q) := by
      rw [World.cell?_setCell_other _ _ _ _ (by simp), World.cell?_setCell_other _ _ _ _ (by simp), r1]
    have t2 : ((w4.setCell ⟨w3.heap.size, 0, none⟩ (.int .i64 R')).setCell ⟨w3.heap.size, 1, none⟩ (.int .i64 S')).cell? ⟨w3.heap.size, 0, none⟩ = some (.int .i64 R') := by
      rw [World.cell?_setCell_other _ _ _ _ (by simp), World.cell?_setCell_same _ _ _ r2]
    have t3 : ((w4.setCell ⟨w3.heap.size, 0, none⟩ (.int .i64 R')).setCell ⟨w3.heap.size, 1, none⟩ (.int .i64 S')).cell? ⟨w3.heap.size, 1, none⟩ = some (.int .i64 S') :=
      World.cell?_setCell_same _ _ _ (u := .int .i64 S) (by rw [World.cell?_setCell_other _ _ _ _ (by simp), r3])
    have B4 := Lib.hid ((B4'.out.setCell (p := ⟨w3.heap.size, 0, none⟩) (by simp; omega) (.int .i64 R')).setCell (p := ⟨w3.heap.size, 1, none⟩) (by simp; omega) (.int .i64 S'))
    have hz4 : w3.heap.size < ((w4.setCell ⟨w3.heap.size, 0, none⟩ (.int .i64 R')).setCell ⟨w3.heap.size, 1, none⟩ (.int .i64 S')).heap.size := by simp; omega
    clear r0 r1 r2 r3 g2 g3 B4' hne
    generalize ((w4.setCell ⟨w3.heap.size, 0, none⟩ (.int .i64 R')).setCell ⟨w3.heap.size, 1, none⟩ (.int .i64 S')) = w4s at *
    have r0 := t0; have r1 := t1; have r2 := t2; have r3 := t3
    clear t0 t1 t2 t3 z4
    have hans := Pa.nest_answers HV1.out HV2.out
    have HANS := Lib.hid hans; clear hans
    refine (contains_any P Q R' _).mono ?_
    rintro e' w5 ⟨rfl, hb⟩
    have z5 := hb.size
    have s0 := cell_below hb (by omega) r0
    have s1 := cell_below hb (by omega) r1
    have s2 := cell_below hb (by omega) r2
    have s3 := cell_below hb (by omega) r3
    have B5 := Lib.hid (below_on B4.out hb)
    clear hb r0 r1 r2 r3
    go_wp2_with fail
    refine wp_region_below (by kernel_rfl) (by kernel_rfl) ?_
    intro W hW
    have e0 : ∀ x : Lat (Below W.heap.size W), x.u.cell? ⟨w2.heap.size, 0, none⟩ = some (.int .i64 P) := fun x => x.cell (by rw [hW]; omega) (by rw [hW]; exact s0)
    have e1 : ∀ x : Lat (Below W.heap.size W), x.u.cell? ⟨w2.heap.size, 1, none⟩ = some (.int .i64 Q) := fun x => x.cell (by rw [hW]; omega) (by rw [hW]; exact s1)
    have e2 : ∀ x : Lat (Below W.heap.size W), x.u.cell? ⟨w3.heap.size, 0, none⟩ = some (.int .i64 R') := fun x => x.cell (by rw [hW]; omega) (by rw [hW]; exact s2)
    have e3 : ∀ x : Lat (Below W.heap.size W), x.u.cell? ⟨w3.heap.size, 1, none⟩ = some (.int .i64 S') := fun x => x.cell (by rw [hW]; omega) (by rw [hW]; exact s3)
    have HW := Lib.hid hW; clear hW
    repeat (go_big_quiet_step (first
      | (go_at_call 22; exact Calls.below (last_any _ _ _))
      | (go_at_call 24; exact Calls.below (contains_any _ _ _ _))))
    refine wpQuiet_nil ?_
    rintro w6 ⟨x, hx⟩
    have hb : Below w5.heap.size w5 w6 := by have := x.h; rw [← hx] at this; rw [HW.out] at this; exact this
    clear hx x e0 e1 e2 e3 HW W
    have z6 := hb.size
    have r0 := cell_below hb (by omega) s0
    have r1 := cell_below hb (by omega) s1
    have r2 := cell_below hb (by omega) s2
    have r3 := cell_below hb (by omega) s3
    have B6 := Lib.hid (below_on B5.out hb)
    clear hb s0 s1 s2 s3
    go_wp2_with fail
    refine (contains_any R' S' P _).mono ?_
    rintro e' w7 ⟨rfl, hb⟩
    have z7 := hb.size
    have s0 := cell_below hb (by omega) r0
    have s1 := cell_below hb (by omega) r1
    have s2 := cell_below hb (by omega) r2
    have s3 := cell_below hb (by omega) r3
    have B7 := Lib.hid (below_on B6.out hb)
    clear hb r0 r1 r2 r3
    go_wp2_with fail
    refine wp_region_below (by kernel_rfl) (by kernel_rfl) ?_
    intro W hW
    have e0 : ∀ x : Lat (Below W.heap.size W), x.u.cell? ⟨w2.heap.size, 0, none⟩ = some (.int .i64 P) := fun x => x.cell (by rw [hW]; omega) (by rw [hW]; exact s0)
    have e1 : ∀ x : Lat (Below W.heap.size W), x.u.cell? ⟨w2.heap.size, 1, none⟩ = some (.int .i64 Q) := fun x => x.cell (by rw [hW]; omega) (by rw [hW]; exact s1)
    have e2 : ∀ x : Lat (Below W.heap.size W), x.u.cell? ⟨w3.heap.size, 0, none⟩ = some (.int .i64 R') := fun x => x.cell (by rw [hW]; omega) (by rw [hW]; exact s2)
    have e3 : ∀ x : Lat (Below W.heap.size W), x.u.cell? ⟨w3.heap.size, 1, none⟩ = some (.int .i64 S') := fun x => x.cell (by rw [hW]; omega) (by rw [hW]; exact s3)
    have HW := Lib.hid hW; clear hW
    repeat (go_big_quiet_step (first
      | (go_at_call 22; exact Calls.below (last_any _ _ _))
      | (go_at_call 24; exact Calls.below (contains_any _ _ _ _))))
    refine wpQuiet_nil ?_
    rintro w8 ⟨x, hx⟩
    have hb : Below w7.heap.size w7 w8 := by have := x.h; rw [← hx] at this; rw [HW.out] at this; exact this
    clear hx x e0 e1 e2 e3 HW W
    have z8 := hb.size
    have r0 := cell_below hb (by omega) s0
    have r1 := cell_below hb (by omega) s1
    have r2 := cell_below hb (by omega) s2
    have r3 := cell_below hb (by omega) s3
    have B8 := Lib.hid (below_on B7.out hb)
    clear hb s0 s1 s2 s3
    generalize Pa.containsP P Q (Pa.lastP R' S') = t2 at *
    generalize Pa.containsP R' S' (Pa.lastP P Q) = t4 at *
    generalize Pa.containsP P Q R' = t1 at *
    generalize Pa.containsP R' S' P = t3 at *
    clear P0 P1
    by_cases hQS : Q ≤ S'
    · have hd : decide (Q ≤ S') = true := by simpa using hQS
      obtain ⟨rfl, hc⟩ := HANS.out.1 hQS
      clear HANS
      rcases hc with rfl | ⟨rfl, rfl, rfl⟩
      · go_wp2
        go_ret
        exact ⟨rfl, B8.out⟩
      · go_wp2
        go_ret
        exact ⟨rfl, B8.out⟩
    · have hd : decide (Q ≤ S') = false := by simpa using hQS
      obtain ⟨rfl, hc⟩ := HANS.out.2 (by omega)
      clear HANS
      rcases hc with rfl | ⟨rfl, rfl, rfl⟩
      · go_wp2
        go_ret
        exact ⟨rfl, B8.out⟩
      · go_wp2
        go_ret
        exact ⟨rfl, B8.out⟩

end Go.Proofs.YtcjemhjgpgnkiaaDoor
