/-
  The walk of the law AddrPrefixHalves: it returns true. Conditions: integers are 64-bit; the library's variables read as its text lays them.
-/
import Derived.Test.YtcjemhjgpgnkiaaDoorWalkM
import Derived.Test.YtcjemhjgpgnkiaaDoorPlainD
namespace Go.Proofs.YtcjemhjgpgnkiaaDoor
open Go.RowKit

set_option maxHeartbeats 1000000 in
set_option maxRecDepth 100000 in
theorem law6 (b c a : Int) (w : World) (ok : Ok w) (b0 : -9223372036854775808 ≤ b) (b1 : b ≤ 9223372036854775807) (c0 : -9223372036854775808 ≤ c) (c1 : c ≤ 9223372036854775807) (a0 : -9223372036854775808 ≤ a) (a1 : a ≤ 9223372036854775807) :
    Calls Tryd.prog 8 #[.agg #[.int .i64 b, .int .i64 c], .int .i64 a] w fun e w' => e = .returned (.bool true) ∧ Below w.heap.size w w' := by
  have K0 := Lib.hid ok; clear ok
  have A0 := Lib.hid (K0.out.below (((Below.refl _ _).alloc (Nat.le_refl _) (.cells #[.int .i64 b, .int .i64 c] 23))))
  go_enter Tryd.func8, Tryd.ntmps8
  go_wp2_with fail
  refine (examples_any _ A0.out).mono ?_
  rintro e w1 ⟨rfl, hb⟩
  have z1 := hb.size
  simp only [World.size_alloc] at z1
  have p0 : w1.cell? ⟨w.heap.size, 0, none⟩ = some (.int .i64 b) := cell_below hb (by simp) (by simp)
  have p1 : w1.cell? ⟨w.heap.size, 1, none⟩ = some (.int .i64 c) := cell_below hb (by simp) (by simp)
  have B1 := Lib.hid (below_on ((Below.refl _ _).alloc (Nat.le_refl _) _) hb)
  clear hb
  go_wp2_with fail
  refine (netOf_any b c _ b0 b1 c0 c1).mono ?_
  rintro e w2 ⟨rfl, hb⟩
  have z2 := hb.size
  have B2 := Lib.hid (below_on B1.out hb)
  clear hb p0 p1
  have hv := Pa.net_valid b c
  generalize hY : Pa.netA b c = Y at *
  generalize hZ : Pa.netB c = Z at *
  clear hY hZ b0 b1 c0 c1
  go_wp2_with fail
  refine (last_any Y Z _).mono ?_
  rintro e w3 ⟨rfl, hb⟩
  have z3 := hb.size
  simp only [World.size_alloc] at z3
  have q0 : w3.cell? ⟨w2.heap.size, 0, none⟩ = some (.int .i64 Y) := cell_below hb (by simp) (by simp)
  have q1 : w3.cell? ⟨w2.heap.size, 1, none⟩ = some (.int .i64 Z) := cell_below hb (by simp) (by simp)
  have B3 := Lib.hid (below_on (B2.out.alloc (by omega) _) hb)
  clear hb
  have HV := Lib.hid hv
  obtain ⟨hl, hle⟩ := Pa.last_le hv
  have hp := Pa.pwI_pos Z
  obtain ⟨⟨y0, y1⟩, ⟨zb0, zb1⟩, _⟩ := Pa.validP_true.1 hv
  have l0 : Y ≤ Pa.lastP Y Z := by omega
  have l1 : Pa.lastP Y Z ≤ 4294967295 := by omega
  have hlp : Pa.lastP Y Z = Y + (Pa.pw Z : Int) - 1 := hl
  have HLP := Lib.hid hlp
  have hhalf : Z < 32 → _ := Pa.halves hv
  have HH := Lib.hid hhalf
  clear hv hl hle hp hlp hhalf
  generalize hL : Pa.lastP Y Z = L at *
  have HL := Lib.hid hL; clear hL
  by_cases h32 : Z = 32
  · subst h32
    have hL32 : (L == Y) = true := by
      have h : L = Y := by have := HLP.out; rw [show Pa.pw 32 = 1 from rfl] at this; omega
      rw [h]; simp
    go_wp2_with fail
    go_ret
    exact ⟨rfl, B3.out⟩
  · have h32' : (Z == 32) = false := by rw [beq_eq_false_iff_ne]; exact h32
    obtain ⟨v1, v2, t1, t2, t3, t4⟩ := HH.out (by omega)
    generalize hM : (L - Y + 1) / 2 = M at *
    have n0 := Pa.pickI_lo a (L - Y + 1) (by omega)
    have n1 := Pa.pickI_hi a (L - Y + 1) (by omega)
    have V1 := Lib.hid v1; have V2 := Lib.hid v2; have T1 := Lib.hid t1; have T2 := Lib.hid t2
    clear v1 v2 t1 t2 h32 HH HLP
    have hlw : w2.heap.size < w3.heap.size := by omega
    go_wp2_with fail
    rw [hM]
    clear hM
    have B3' := (B3.out.alloc (by omega) (.cells #[.int .i64 Y, .int .i64 (Z + 1)] 23)).alloc (by simp; omega) (.cells #[.int .i64 (Y + M), .int .i64 (Z + 1)] 23)
    have q0' := cell_old (.cells #[.int .i64 (Y + M), .int .i64 (Z + 1)] 23) (by simp; omega) (cell_old (.cells #[.int .i64 Y, .int .i64 (Z + 1)] 23) hlw q0)
    have q1' := cell_old (.cells #[.int .i64 (Y + M), .int .i64 (Z + 1)] 23) (by simp; omega) (cell_old (.cells #[.int .i64 Y, .int .i64 (Z + 1)] 23) hlw q1)
    have HB3 := Lib.hid B3'; have Q0 := Lib.hid q0'; have Q1 := Lib.hid q1'
    clear B3' q0' q1'
    refine wp_region_below (by kernel_rfl) (by kernel_rfl) ?_
    intro W hW
    rw [← hW] at HB3 Q0 Q1
    have c0 : W.cell? ⟨w3.heap.size, 0, none⟩ = some (.int .i64 Y) := by rw [hW]; simp
    have c1 : W.cell? ⟨w3.heap.size, 1, none⟩ = some (.int .i64 (Z + 1)) := by rw [hW]; simp
    have c2 : W.cell? ⟨w3.heap.size + 1, 0, none⟩ = some (.int .i64 (Y + M)) := by rw [hW]; simp
    have c3 : W.cell? ⟨w3.heap.size + 1, 1, none⟩ = some (.int .i64 (Z + 1)) := by rw [hW]; simp
    have hsz : w3.heap.size + 2 = W.heap.size := by rw [hW]; simp
    have HSZ : w3.heap.size + 2 ≤ W.heap.size := by omega
    clear hW hsz
    have d0 : ∀ x : Lat (Below W.heap.size W), x.u.cell? ⟨w2.heap.size, 0, none⟩ = some (.int .i64 Y) := fun x => x.cell (by omega) Q0.out
    have hw1 : IntKind.i64.wrap (L - Y) = L - Y := IntWalk.i64_in _ ⟨by omega, by omega⟩
    have hw2 : IntKind.i64.wrap (L - Y + 1) = L - Y + 1 := IntWalk.i64_in _ ⟨by omega, by omega⟩
    have hmx : max (L - Y) 0 = L - Y := by omega
    have hw3 : IntKind.i64.wrap (Y + Pa.pickI a (L - Y + 1)) = Y + Pa.pickI a (L - Y + 1) := IntWalk.i64_in _ ⟨by omega, by omega⟩
    repeat (go_big_quiet_step ((go_at_call 11; exact Calls.same (pick_any _ _ _ a0 a1 (by omega) (by omega)))))
    refine wpQuiet_nil ?_
    rintro w4 ⟨x, hx4⟩
    have hx : Below W.heap.size W w4 := by rw [hx4]; exact x.h
    clear hx4 x d0
    have e0 := cell_below hx (by omega) Q0.out
    have e1 := cell_below hx (by omega) Q1.out
    have e2 := cell_below hx (by omega) c0
    have e3 := cell_below hx (by omega) c1
    have e4 := cell_below hx (by omega) c2
    have e5 := cell_below hx (by omega) c3
    have hz4 : w3.heap.size + 1 < w4.heap.size := by have := hx.size; omega
    have HB4 := Lib.hid (below_on HB3.out hx)
    have N0 : Y ≤ Y + Pa.pickI a (L - Y + 1) := by omega
    have N1 : Y + Pa.pickI a (L - Y + 1) ≤ L := by omega
    clear q0 q1 c0 c1 c2 c3 hw1 hw2 hw3 hmx n0 n1 hx
    generalize Y + Pa.pickI a (L - Y + 1) = N at *
    have k1 : Pa.validP Y (Z + 1) = true := V1.out
    have k2 : Pa.validP (Y + M) (Z + 1) = true := V2.out
    have k3 : Pa.lastP Y (Z + 1) = Y + M - 1 := T1.out
    have k4 : Pa.lastP (Y + M) (Z + 1) = L := T2.out
    have k5 : Pa.containsP Y Z N = true := Pa.contains_yes HV.out N0 (by rw [HL.out]; exact N1)
    have hcx : (Pa.containsP Y (Z + 1) N = true ∧ Pa.containsP (Y + M) (Z + 1) N = false) ∨ (Pa.containsP Y (Z + 1) N = false ∧ Pa.containsP (Y + M) (Z + 1) N = true) := by
      by_cases h : N < Y + M
      · exact Or.inl ⟨Pa.contains_yes k1 N0 (by rw [k3]; omega), Pa.contains_no k2 (by omega)⟩
      · exact Or.inr ⟨Pa.contains_no k1 (by rw [k3]; omega), Pa.contains_yes k2 (by omega) (by rw [k4]; exact N1)⟩
    have hw1 : IntKind.i64.wrap (Y + M - 1) = Y + M - 1 := IntWalk.i64_in _ ⟨by omega, by omega⟩
    clear a0 a1 z1 z2 z3
    rcases hcx with ⟨g1, g2⟩ | ⟨g1, g2⟩
    all_goals
      go_wp2_with fail
      refine wp_region_below (by kernel_rfl) (by kernel_rfl) ?_
      intro W' hW
      have d0 : ∀ x : Lat (Below W'.heap.size W'), x.u.cell? ⟨w2.heap.size, 0, none⟩ = some (.int .i64 Y) := fun x => x.cell (by rw [hW]; omega) (by rw [hW]; exact e0)
      have d1 : ∀ x : Lat (Below W'.heap.size W'), x.u.cell? ⟨w2.heap.size, 1, none⟩ = some (.int .i64 Z) := fun x => x.cell (by rw [hW]; omega) (by rw [hW]; exact e1)
      have d2 : ∀ x : Lat (Below W'.heap.size W'), x.u.cell? ⟨w3.heap.size, 0, none⟩ = some (.int .i64 Y) := fun x => x.cell (by rw [hW]; omega) (by rw [hW]; exact e2)
      have d3 : ∀ x : Lat (Below W'.heap.size W'), x.u.cell? ⟨w3.heap.size, 1, none⟩ = some (.int .i64 (Z + 1)) := fun x => x.cell (by rw [hW]; omega) (by rw [hW]; exact e3)
      have d4 : ∀ x : Lat (Below W'.heap.size W'), x.u.cell? ⟨w3.heap.size + 1, 0, none⟩ = some (.int .i64 (Y + M)) := fun x => x.cell (by rw [hW]; omega) (by rw [hW]; exact e4)
      have d5 : ∀ x : Lat (Below W'.heap.size W'), x.u.cell? ⟨w3.heap.size + 1, 1, none⟩ = some (.int .i64 (Z + 1)) := fun x => x.cell (by rw [hW]; omega) (by rw [hW]; exact e5)
      have HW := Lib.hid hW; clear hW
      repeat (go_big_quiet_step (first
        | (go_at_call 23; exact Calls.below (validPrefix_any _ _ _))
        | (go_at_call 22; exact Calls.below (last_any _ _ _))
        | (go_at_call 24; exact Calls.below (contains_any _ _ _ _))))
      refine wpQuiet_nil ?_
      rintro _ ⟨x, rfl⟩
      go_wp2
      go_ret
      have hbW : Below w.heap.size w W' := by rw [HW.out]; exact HB4.out
      exact ⟨rfl, below_on hbW x.h⟩

end Go.Proofs.YtcjemhjgpgnkiaaDoor
