/-
  The walk of the law AddrMatchesReference: it returns true. Conditions: integers are 64-bit; the library's variables read as its text lays them.
-/
import Derived.Test.YtcjemhjgpgnkiaaDoorWalkN
namespace Go.Proofs.YtcjemhjgpgnkiaaDoor
open Go.RowKit

set_option maxHeartbeats 1000000 in
set_option maxRecDepth 100000 in
theorem law1 (a b c : Int) (w : World) (ok : Ok w) (a0 : -9223372036854775808 ≤ a) (a1 : a ≤ 9223372036854775807) (b0 : -9223372036854775808 ≤ b) (b1 : b ≤ 9223372036854775807) (c0 : -9223372036854775808 ≤ c) (c1 : c ≤ 9223372036854775807) :
    Calls Tryd.prog 3 #[.int .i64 a, .agg #[.int .i64 b, .int .i64 c]] w fun e w' => e = .returned (.bool true) ∧ Below w.heap.size w w' := by
  have K0 := Lib.hid ok; clear ok
  have A0 := Lib.hid (K0.out.below (((Below.refl _ _).alloc (Nat.le_refl _) (.cells #[.int .i64 b, .int .i64 c] 23))))
  go_enter Tryd.func3, Tryd.ntmps3
  go_wp2_with fail
  refine (examples_any _ A0.out).mono ?_
  rintro e w1 ⟨rfl, hb⟩
  have z1 := hb.size
  simp only [World.size_alloc] at z1
  have p0 : w1.cell? ⟨w.heap.size, 0, none⟩ = some (.int .i64 b) := cell_below hb (by simp) (by simp)
  have p1 : w1.cell? ⟨w.heap.size, 1, none⟩ = some (.int .i64 c) := cell_below hb (by simp) (by simp)
  have B1 := Lib.hid (below_on ((Below.refl _ _).alloc (Nat.le_refl _) _) hb)
  clear hb
  go_wp2_with fail
  refine (pick_any a 4294967296 _ a0 a1 (by omega) (by omega)).mono ?_
  rintro e w' ⟨rfl, rfl⟩
  go_wp2_with fail
  refine (netOf_any b c _ b0 b1 c0 c1).mono ?_
  rintro e w2 ⟨rfl, hb⟩
  have z2 := hb.size
  have d0 := cell_below hb (by omega) p0
  have d1 := cell_below hb (by omega) p1
  have B2 := Lib.hid (below_on B1.out hb)
  have hlw : w.heap.size < w2.heap.size := by omega
  clear hb p0 p1 a0 a1 b0 b1 c0 c1
  generalize hX : Pa.pickI a 4294967296 = X
  generalize hY : Pa.netA b c = Y
  generalize hZ : Pa.netB c = Z
  clear hX hY hZ
  have K2 := Lib.hid (K0.out.below (B2.out.alloc (by omega) (.cells #[.int .i64 Y, .int .i64 Z] 23)))
  go_wp2_with fail
  refine (told_any _ _ _ _ K2.out).mono ?_
  rintro e w3 ⟨rfl, hb⟩
  have z3 := hb.size
  simp only [World.size_alloc] at z3
  have p0 := cell_below hb (by simp; omega) (cell_old _ (by omega) d0)
  have p1 := cell_below hb (by simp; omega) (cell_old _ (by omega) d1)
  have q0 : w3.cell? ⟨w2.heap.size, 0, none⟩ = some (.int .i64 Y) := cell_below hb (by simp) (by simp)
  have q1 : w3.cell? ⟨w2.heap.size, 1, none⟩ = some (.int .i64 Z) := cell_below hb (by simp) (by simp)
  have B3 := Lib.hid (below_on (B2.out.alloc (by omega) _) hb)
  have K3 := Lib.hid (K0.out.below B3.out)
  clear hb d0 d1
  go_wp2_with fail
  refine (told_any _ _ _ _ K3.out).mono ?_
  rintro e w4 ⟨rfl, hb⟩
  have z4 := hb.size
  have r0 := cell_below hb (by omega) p0
  have r1 := cell_below hb (by omega) p1
  have s0 := cell_below hb (by omega) q0
  have s1 := cell_below hb (by omega) q1
  clear p0 p1 q0 q1
  have p0 := r0; have p1 := r1; have q0 := s0; have q1 := s1
  clear r0 r1 s0 s1
  have B4 := Lib.hid (below_on B3.out hb)
  have K4 := Lib.hid (K0.out.below B4.out)
  clear hb
  go_wp2_with fail
  refine (told_any _ _ _ _ K4.out).mono ?_
  rintro e w5 ⟨rfl, hb⟩
  have z5 := hb.size
  have r0 := cell_below hb (by omega) p0
  have r1 := cell_below hb (by omega) p1
  have s0 := cell_below hb (by omega) q0
  have s1 := cell_below hb (by omega) q1
  clear p0 p1 q0 q1
  have p0 := r0; have p1 := r1; have q0 := s0; have q1 := s1
  clear r0 r1 s0 s1
  have B5 := Lib.hid (below_on B4.out hb)
  have K5 := Lib.hid (K0.out.below B5.out)
  clear hb
  go_wp2_with fail
  refine (told_any _ _ _ _ K5.out).mono ?_
  rintro e w6 ⟨rfl, hb⟩
  have z6 := hb.size
  have r0 := cell_below hb (by omega) p0
  have r1 := cell_below hb (by omega) p1
  have s0 := cell_below hb (by omega) q0
  have s1 := cell_below hb (by omega) q1
  clear p0 p1 q0 q1
  have p0 := r0; have p1 := r1; have q0 := s0; have q1 := s1
  clear r0 r1 s0 s1
  have B6 := Lib.hid (below_on B5.out hb)
  have K6 := Lib.hid (K0.out.below B6.out)
  clear hb
  go_wp2_with fail
  refine (told_any _ _ _ _ K6.out).mono ?_
  rintro e w7 ⟨rfl, hb⟩
  have z7 := hb.size
  have r0 := cell_below hb (by omega) p0
  have r1 := cell_below hb (by omega) p1
  have s0 := cell_below hb (by omega) q0
  have s1 := cell_below hb (by omega) q1
  clear p0 p1 q0 q1
  have p0 := r0; have p1 := r1; have q0 := s0; have q1 := s1
  clear r0 r1 s0 s1
  have B7 := Lib.hid (below_on B6.out hb)
  have K7 := Lib.hid (K0.out.below B7.out)
  clear hb
  go_wp2_with fail
  refine (told_any _ _ _ _ K7.out).mono ?_
  rintro e w8 ⟨rfl, hb⟩
  have z8 := hb.size
  have r0 := cell_below hb (by omega) p0
  have r1 := cell_below hb (by omega) p1
  have s0 := cell_below hb (by omega) q0
  have s1 := cell_below hb (by omega) q1
  clear p0 p1 q0 q1
  have p0 := r0; have p1 := r1; have q0 := s0; have q1 := s1
  clear r0 r1 s0 s1
  have B8 := Lib.hid (below_on B7.out hb)
  have K8 := Lib.hid (K0.out.below B8.out)
  clear hb
  go_wp2_with fail
  refine (told_any _ _ _ _ K8.out).mono ?_
  rintro e w9 ⟨rfl, hb⟩
  have z9 := hb.size
  have r0 := cell_below hb (by omega) p0
  have r1 := cell_below hb (by omega) p1
  have s0 := cell_below hb (by omega) q0
  have s1 := cell_below hb (by omega) q1
  clear p0 p1 q0 q1
  have p0 := r0; have p1 := r1; have q0 := s0; have q1 := s1
  clear r0 r1 s0 s1
  have B9 := Lib.hid (below_on B8.out hb)
  have K9 := Lib.hid (K0.out.below B9.out)
  clear hb
  go_wp2_with fail
  go_ret
  exact ⟨rfl, B9.out⟩

end Go.Proofs.YtcjemhjgpgnkiaaDoor
