/-
  The walk of the law AddrPrefixIsInterval: it returns true. Conditions: integers are 64-bit; the library's variables read as its text lays them.
-/
import Derived.Test.YtcjemhjgpgnkiaaDoorWalkM
import Derived.Test.YtcjemhjgpgnkiaaDoorPlainD
namespace Go.Proofs.YtcjemhjgpgnkiaaDoor
open Go.RowKit

set_option maxHeartbeats 1000000 in
set_option maxRecDepth 100000 in
theorem law4 (b c a : Int) (w : World) (ok : Ok w) (b0 : -9223372036854775808 ≤ b) (b1 : b ≤ 9223372036854775807) (c0 : -9223372036854775808 ≤ c) (c1 : c ≤ 9223372036854775807) (a0 : -9223372036854775808 ≤ a) (a1 : a ≤ 9223372036854775807) :
    Calls Tryd.prog 6 #[.agg #[.int .i64 b, .int .i64 c], .int .i64 a] w fun e w' => e = .returned (.bool true) ∧ Below w.heap.size w w' := by
  have K0 := Lib.hid ok; clear ok
  have A0 := Lib.hid (K0.out.below (((Below.refl _ _).alloc (Nat.le_refl _) (.cells #[.int .i64 b, .int .i64 c] 23))))
  go_enter Tryd.func6, Tryd.ntmps6
  go_wp2_with fail
  refine (examples_any _ A0.out).mono ?_
  rintro e w1 ⟨rfl, hb⟩
  have z1 := hb.size
  simp only [World.size_alloc] at z1
  have p0 : w1.cell? ⟨w.heap.size, 0, none⟩ = some (.int .i64 b) := cell_below hb (by simp) (by simp)
  have p1 : w1.cell? ⟨w.heap.size, 1, none⟩ = some (.int .i64 c) := cell_below hb (by simp) (by simp)
  have B1 := Lib.hid (below_on ((Below.refl _ _).alloc (Nat.le_refl _) _) hb)
  clear hb
  go_wp2_with fail
  refine (netOf_any b c _ b0 b1 c0 c1).mono ?_
  rintro e w2 ⟨rfl, hb⟩
  have z2 := hb.size
  have B2 := Lib.hid (below_on B1.out hb)
  clear hb p0 p1
  have hv := Pa.net_valid b c
  generalize hY : Pa.netA b c = Y at *
  generalize hZ : Pa.netB c = Z at *
  clear hY hZ b0 b1 c0 c1
  go_wp2_with fail
  refine (pick_any a 4294967296 _ a0 a1 (by omega) (by omega)).mono ?_
  rintro e w' ⟨rfl, rfl⟩
  have x0 := Pa.pickI_lo a 4294967296 (by omega)
  have x1 := Pa.pickI_hi a 4294967296 (by omega)
  generalize hX : Pa.pickI a 4294967296 = X at *
  clear hX
  go_wp2_with fail
  refine (last_any Y Z _).mono ?_
  rintro e w3 ⟨rfl, hb⟩
  have z3 := hb.size
  simp only [World.size_alloc] at z3
  have q0 : w3.cell? ⟨w2.heap.size, 0, none⟩ = some (.int .i64 Y) := cell_below hb (by simp) (by simp)
  have q1 : w3.cell? ⟨w2.heap.size, 1, none⟩ = some (.int .i64 Z) := cell_below hb (by simp) (by simp)
  have B3 := Lib.hid (below_on (B2.out.alloc (by omega) _) hb)
  clear hb
  have HV := Lib.hid hv
  obtain ⟨hl, hle⟩ := Pa.last_le hv
  have hp := Pa.pwI_pos Z
  obtain ⟨⟨y0, y1⟩, _, _⟩ := Pa.validP_true.1 hv
  have l0 : Y ≤ Pa.lastP Y Z := by omega
  have l1 : Pa.lastP Y Z ≤ 4294967295 := by omega
  clear hv hl hle hp
  generalize hL : Pa.lastP Y Z = L at *
  have HL := Lib.hid hL; clear hL
  have n0 := Pa.pickI_lo a (L - Y + 1) (by omega)
  have n1 := Pa.pickI_hi a (L - Y + 1) (by omega)
  have hw1 : IntKind.i64.wrap (L - Y) = L - Y := IntWalk.i64_in _ ⟨by omega, by omega⟩
  have hw2 : IntKind.i64.wrap (L - Y + 1) = L - Y + 1 := IntWalk.i64_in _ ⟨by omega, by omega⟩
  have hmx : max (L - Y) 0 = L - Y := by omega
  have hw3 : IntKind.i64.wrap (Y + Pa.pickI a (L - Y + 1)) = Y + Pa.pickI a (L - Y + 1) := IntWalk.i64_in _ ⟨by omega, by omega⟩
  go_wp2_with fail
  refine wp_region_below (by kernel_rfl) (by kernel_rfl) ?_
  intro W hW
  have d0 : ∀ x : Lat (Below W.heap.size W), x.u.cell? ⟨w2.heap.size, 0, none⟩ = some (.int .i64 Y) := fun x => x.cell (by rw [hW]; omega) (by rw [hW]; exact q0)
  have HW := Lib.hid hW; clear hW
  repeat (go_big_quiet_step ((go_at_call 11; exact Calls.same (pick_any _ _ _ a0 a1 (by omega) (by omega)))))
  refine wpQuiet_nil ?_
  rintro w4 ⟨x, hx4⟩
  have hx : Below W.heap.size W w4 := by rw [hx4]; exact x.h
  clear hx4 x
  have hW3 : W = w3 := HW.out
  subst hW3
  have e0 := cell_below hx (by omega) q0
  have e1 := cell_below hx (by omega) q1
  have hz4 : w2.heap.size < w4.heap.size := by have := hx.size; omega
  have B4 := below_on B3.out hx
  have N0 : Y ≤ Y + Pa.pickI a (L - Y + 1) := by omega
  have N1 : Y + Pa.pickI a (L - Y + 1) ≤ L := by omega
  clear d0 q0 q1 hw1 hw2 hw3 hmx HW n0 n1 hx
  generalize Y + Pa.pickI a (L - Y + 1) = N at *
  have k1 : decide (Y ≤ L) = true := by simp; omega
  have k2 : Pa.containsP Y Z N = true := Pa.contains_yes HV.out N0 (by rw [HL.out]; exact N1)
  have k3 : Pa.containsP Y Z Y = true := Pa.contains_yes HV.out (Int.le_refl _) (by rw [HL.out]; exact l0)
  have k4 : Pa.containsP Y Z L = true := Pa.contains_yes HV.out l0 (by rw [HL.out]; exact Int.le_refl _)
  have k5 : Pa.containsP Y Z (L + 1) = false := Pa.contains_no HV.out (by rw [HL.out]; omega)
  have k6 : Pa.containsP Y Z (Y - 1) = false := Pa.contains_no HV.out (by omega)
  have hv : Pa.validP Y Z = true := HV.out
  have HB4 := Lib.hid B4; clear B4 a0 a1 z1 z2 z3
  have hcx : (Pa.containsP Y Z X = true ∧ decide (Y ≤ X) = true ∧ decide (X ≤ L) = true) ∨ (Pa.containsP Y Z X = false ∧ decide (Y ≤ X) = false) ∨ (Pa.containsP Y Z X = false ∧ decide (Y ≤ X) = true ∧ decide (X ≤ L) = false) := by
    by_cases h1 : Y ≤ X
    · by_cases h2 : X ≤ L
      · exact Or.inl ⟨Pa.contains_yes HV.out h1 (by rw [HL.out]; exact h2), by simpa using h1, by simpa using h2⟩
      · exact Or.inr (Or.inr ⟨Pa.contains_no HV.out (by rw [HL.out]; omega), by simpa using h1, by simpa using h2⟩)
    · exact Or.inr (Or.inl ⟨Pa.contains_no HV.out (by omega), by simpa using h1⟩)
  have hw1 : IntKind.i64.wrap (L + 1) = L + 1 := IntWalk.i64_in _ ⟨by omega, by omega⟩
  have hw2 : IntKind.i64.wrap (Y - 1) = Y - 1 := IntWalk.i64_in _ ⟨by omega, by omega⟩
  rcases hcx with ⟨g1, g2, g3⟩ | ⟨g1, g2⟩ | ⟨g1, g2, g3⟩
  all_goals
    go_wp2_with fail
    refine wp_region_below (by kernel_rfl) (by kernel_rfl) ?_
    intro W hW
    have d0 : ∀ x : Lat (Below W.heap.size W), x.u.cell? ⟨w2.heap.size, 0, none⟩ = some (.int .i64 Y) := fun x => x.cell (by rw [hW]; exact hz4) (by rw [hW]; exact e0)
    have d1 : ∀ x : Lat (Below W.heap.size W), x.u.cell? ⟨w2.heap.size, 1, none⟩ = some (.int .i64 Z) := fun x => x.cell (by rw [hW]; exact hz4) (by rw [hW]; exact e1)
    have HW := Lib.hid hW; clear hW
    repeat (go_big_quiet_step (first
      | (go_at_call 23; exact Calls.below (validPrefix_any _ _ _))
      | (go_at_call 24; exact Calls.below (contains_any _ _ _ _))))
    refine wpQuiet_nil ?_
    rintro _ ⟨x, rfl⟩
    go_wp2
    go_ret
    have hbW : Below w.heap.size w W := by rw [HW.out]; exact HB4.out
    exact ⟨rfl, below_on hbW x.h⟩

end Go.Proofs.YtcjemhjgpgnkiaaDoor
