/-
  The walks of Last and NetOf, and of the reference's Contains and Last. Each contract says what the call returns and that what was there before it is unchanged. Conditions: integers are 64-bit.
-/
import Derived.Test.YtcjemhjgpgnkiaaDoorWalkC
namespace Go.Proofs.YtcjemhjgpgnkiaaDoor
open Go.RowKit

theorem Pa.emod_le_self {x p : Int} (hx : 0 ≤ x) (hp : 0 ≤ p) : x % p ≤ x := by
  have := Int.mul_ediv_add_emod x p
  have h := Int.mul_nonneg hp (Int.ediv_nonneg hx hp)
  omega

set_option maxHeartbeats 400000 in
theorem last_any (a b : Int) (w : World) :
    Calls Tryd.prog 22 #[.agg #[.int .i64 a, .int .i64 b]] w fun e w' => e = .returned (.int .i64 (Pa.lastP a b)) ∧ Below w.heap.size w w' := by
  cases hv : Pa.validP a b with
  | false =>
    have hf : Pa.lastP a b = 0 := by unfold Pa.lastP; rw [hv]; rfl
    have HF := Lib.hid hf; clear hf
    go_enter Tryd.func22, Tryd.ntmps22
    go_wp2_with (go_at_call 23; refine (validPrefix_any _ _ _).mono ?_; rintro e w' ⟨rfl, hb⟩)
    go_ret
    exact ⟨ret_int HF.out.symm, below_on ((Below.refl _ _).alloc (Nat.le_refl _) _) hb⟩
  | true =>
    obtain ⟨_, ⟨b0, b1⟩, _⟩ := Pa.validP_true.1 hv
    go_enter Tryd.func22, Tryd.ntmps22
    go_wp2_with fail
    refine (validPrefix_any _ _ _).mono ?_
    rintro e w1 ⟨rfl, hb⟩
    have hz := hb.size
    simp only [World.size_alloc] at hz
    have d0 : w1.cell? ⟨w.heap.size, 0, none⟩ = some (.int .i64 a) := cell_below hb (by simp) (by simp)
    have d1 : w1.cell? ⟨w.heap.size, 1, none⟩ = some (.int .i64 b) := cell_below hb (by simp) (by simp)
    have HB := Lib.hid hb; clear hb
    go_wp2_with (go_at_call 39; refine (host_any _ _ _).mono ?_; rintro e w' ⟨rfl, rfl⟩)
    have HV := Lib.hid hv; clear hv
    refine wp_region_below (by kernel_rfl) (by kernel_rfl) ?_
    intro W hW
    have c0 : ∀ x : Lat (Below W.heap.size W), x.u.cell? ⟨w.heap.size, 0, none⟩ = some (.int .i64 a) := fun x => x.cell (by rw [hW]; simp <;> omega) (by rw [hW]; exact cell_old _ (by omega) d0)
    have c1 : ∀ x : Lat (Below W.heap.size W), x.u.cell? ⟨w1.heap.size, 1, none⟩ = some (.int .i64 b) := fun x => x.cell (by rw [hW]; simp <;> omega) (by rw [hW]; simp)
    have HW := Lib.hid hW; clear hW
    repeat (go_big_quiet_step ((go_at_call 47; exact Calls.same (open_any b _ _ b0 b1 (c1 _)))))
    refine wpQuiet_nil ?_
    rintro _ ⟨x, rfl⟩
    go_wp2
    go_ret
    have hbW : Below w.heap.size w W := by rw [HW.out]; exact (below_on ((Below.refl _ _).alloc (Nat.le_refl _) _) HB.out).alloc (by omega) _
    exact ⟨ret_int (Pa.lastP_eq a b HV.out), below_on hbW x.h⟩

set_option maxHeartbeats 400000 in
theorem netOf_any (a b : Int) (w : World) (a0 : -9223372036854775808 ≤ a) (a1 : a ≤ 9223372036854775807) (b0 : -9223372036854775808 ≤ b) (b1 : b ≤ 9223372036854775807) :
    Calls Tryd.prog 12 #[.int .i64 a, .int .i64 b] w fun e w' => e = .returned (.agg #[.int .i64 (Pa.netA a b), .int .i64 (Pa.netB b)]) ∧ Below w.heap.size w w' := by
  have hB0 : 0 ≤ Pa.netB b := Pa.pickI_lo b 33 (by omega)
  have hB1 : Pa.netB b ≤ 32 := by have := Pa.pickI_hi b 33 (by omega); unfold Pa.netB; omega
  have hA0 := Pa.pickI_lo a 4294967296 (by omega)
  have hA1 := Pa.pickI_hi a 4294967296 (by omega)
  have hA2 : Pa.netA a b = Pa.pickI a 4294967296 - Pa.pickI a 4294967296 % (Pa.pw (Pa.netB b) : Int) := rfl
  have HA := Lib.hid hA2; clear hA2
  go_enter Tryd.func12, Tryd.ntmps12
  go_wp2_with (go_at_call 11; refine (pick_any _ 33 _ b0 b1 (by omega) (by omega)).mono ?_; rintro e w' ⟨rfl, rfl⟩)
  have e33 : Pa.pickI b 33 = Pa.netB b := rfl
  rw [e33]
  obtain ⟨m, hm⟩ := Int.eq_ofNat_of_zero_le hB0
  rw [hm] at hB0 hB1 HA ⊢
  have HM := Lib.hid hm
  clear e33 hm
  go_loop [6, 7] (fun n i => ∃ k : Nat, m ≤ k ∧ k ≤ 32 ∧ i = .int .i64 k ∧ n = .int .i64 ((Pa.pwr (k - m) : Nat) : Int)) (fun _ i => 32 - (intOf i).toNat)
  case atStart => exact ⟨m, Nat.le_refl _, by omega, rfl, by rw [Nat.sub_self]; rfl⟩
  case round =>
    obtain ⟨k, hk0, hk, rfl, rfl⟩ := hrel
    have hb := Pa.pwr_le (k - m) (by omega)
    by_cases hlt : k < 32
    · have hs := Pa.pwr_succ (k - m)
      have HS := Lib.hid hs; clear hs
      go_wp2
      go_round
      case rel => exact ⟨k + 1, by omega, by omega, by go_num, by rw [show k + 1 - m = k - m + 1 by omega, HS.out]; go_num⟩
      case measure => simp [intOf]; omega
    · have hp : Pa.pwr (k - m) = Pa.pw (m : Int) := by rw [show k = 32 by omega]; exact Pa.pwr_pw m (by omega)
      have hp1 : 1 ≤ Pa.pwr (k - m) := by rw [hp]; exact Pa.pw_pos _
      rw [← hp] at HA
      clear hp
      have hq0 : 0 ≤ Pa.pickI a 4294967296 % (Pa.pwr (k - m) : Int) := Int.emod_nonneg _ (by omega)
      have hq1 : Pa.pickI a 4294967296 % (Pa.pwr (k - m) : Int) ≤ Pa.pickI a 4294967296 := Pa.emod_le_self hA0 (by omega)
      go_wp2_with (go_at_call 11; refine (pick_any _ 4294967296 _ a0 a1 (by omega) (by omega)).mono ?_; rintro e w' ⟨rfl, rfl⟩)
      refine bodyPost_ret (v := .agg #[.int .i64 (Pa.netA a b), .int .i64 (m : Int)]) (by rw [HA.out]; simp [results, Tryd.results12, go_sem]) rfl ⟨by rw [HM.out], ?_⟩
      exact (Below.refl _ _).alloc (Nat.le_refl _) _

set_option maxHeartbeats 400000 in
theorem refContains_n1 (a b c : Int) (w : World) (hp : Pa.validP a b = false) :
    Calls Tryd.prog 30 #[.agg #[.int .i64 a, .int .i64 b], .int .i64 c] w fun e w' => e = .returned (.bool (Pa.containsP a b c)) ∧ Below w.heap.size w w' := by
  have HP := Lib.hid hp; clear hp
  go_enter Tryd.func30, Tryd.ntmps30
  go_wp2
  refine wp_region_below (by kernel_rfl) (by kernel_rfl) ?_
  intro W hW
  have c0 : ∀ x : Lat (Below W.heap.size W), x.u.cell? ⟨w.heap.size, 0, none⟩ = some (.int .i64 a) := fun x => x.cell (by rw [hW]; simp <;> omega) (by rw [hW]; simp)
  have c1 : ∀ x : Lat (Below W.heap.size W), x.u.cell? ⟨w.heap.size, 1, none⟩ = some (.int .i64 b) := fun x => x.cell (by rw [hW]; simp <;> omega) (by rw [hW]; simp)
  have HW := Lib.hid hW; clear hW
  repeat (go_big_quiet_step (first
    | (go_at_call 29; exact Calls.below (Calls.eqv (congrArg Value.bool HP.out) (refValidPrefix_any a b _)))))
  refine wpQuiet_nil ?_
  rintro _ ⟨x, rfl⟩
  go_wp2
  go_ret
  have hbW : Below w.heap.size w W := by rw [HW.out]; exact (Below.refl _ _).alloc (Nat.le_refl _) _
  exact ⟨ret_bool (by rw [Pa.containsP, HP.out]; rfl), below_on hbW x.h⟩

set_option maxHeartbeats 400000 in
theorem refContains_n2 (a b c : Int) (w : World) (hp : Pa.validP a b = true) (hc : Pa.validB c = false) :
    Calls Tryd.prog 30 #[.agg #[.int .i64 a, .int .i64 b], .int .i64 c] w fun e w' => e = .returned (.bool (Pa.containsP a b c)) ∧ Below w.heap.size w w' := by
  have HP := Lib.hid hp; clear hp
  have HC := Lib.hid hc; clear hc
  go_enter Tryd.func30, Tryd.ntmps30
  go_wp2
  refine wp_region_below (by kernel_rfl) (by kernel_rfl) ?_
  intro W hW
  have c0 : ∀ x : Lat (Below W.heap.size W), x.u.cell? ⟨w.heap.size, 0, none⟩ = some (.int .i64 a) := fun x => x.cell (by rw [hW]; simp <;> omega) (by rw [hW]; simp)
  have c1 : ∀ x : Lat (Below W.heap.size W), x.u.cell? ⟨w.heap.size, 1, none⟩ = some (.int .i64 b) := fun x => x.cell (by rw [hW]; simp <;> omega) (by rw [hW]; simp)
  have HW := Lib.hid hW; clear hW
  repeat (go_big_quiet_step (first
    | (go_at_call 29; exact Calls.below (Calls.eqv (congrArg Value.bool HP.out) (refValidPrefix_any a b _)))
    | (go_at_call 28; exact Calls.same (Calls.eqv (congrArg Value.bool HC.out) (refValid_any c _)))))
  refine wpQuiet_nil ?_
  rintro _ ⟨x, rfl⟩
  go_wp2
  go_ret
  have hbW : Below w.heap.size w W := by rw [HW.out]; exact (Below.refl _ _).alloc (Nat.le_refl _) _
  exact ⟨ret_bool (by rw [Pa.containsP, HP.out, HC.out]; rfl), below_on hbW x.h⟩

set_option maxHeartbeats 400000 in
theorem refContains_yes (a b c : Int) (w : World) (hp : Pa.validP a b = true) (hc : Pa.validB c = true) :
    Calls Tryd.prog 30 #[.agg #[.int .i64 a, .int .i64 b], .int .i64 c] w fun e w' => e = .returned (.bool (Pa.containsP a b c)) ∧ Below w.heap.size w w' := by
  obtain ⟨⟨ha0, ha1⟩, ⟨b0, b1⟩, _⟩ := Pa.validP_true.1 hp
  have hp1 := Pa.pw_pos b
  have hp2 := Pa.pw_le b b0 b1
  have hc0 : 0 ≤ c := (Pa.validB_true.1 hc).1
  have hc1 : c ≤ 4294967295 := (Pa.validB_true.1 hc).2
  have HP := Lib.hid hp; clear hp
  have HC := Lib.hid hc; clear hc
  go_enter Tryd.func30, Tryd.ntmps30
  go_wp2
  refine wp_region_below (by kernel_rfl) (by kernel_rfl) ?_
  intro W hW
  have c0 : ∀ x : Lat (Below W.heap.size W), x.u.cell? ⟨w.heap.size, 0, none⟩ = some (.int .i64 a) := fun x => x.cell (by rw [hW]; simp <;> omega) (by rw [hW]; simp)
  have c1 : ∀ x : Lat (Below W.heap.size W), x.u.cell? ⟨w.heap.size, 1, none⟩ = some (.int .i64 b) := fun x => x.cell (by rw [hW]; simp <;> omega) (by rw [hW]; simp)
  have HW := Lib.hid hW; clear hW
  repeat (go_big_quiet_step (first
    | (go_at_call 29; exact Calls.below (Calls.eqv (congrArg Value.bool HP.out) (refValidPrefix_any a b _)))
    | (go_at_call 28; exact Calls.same (Calls.eqv (congrArg Value.bool HC.out) (refValid_any c _)))
    | (go_at_call 40; exact Calls.same (size_any b _ b0 b1))))
  refine wpQuiet_nil ?_
  rintro _ ⟨x, rfl⟩
  go_wp2
  go_ret
  have hbW : Below w.heap.size w W := by rw [HW.out]; exact (Below.refl _ _).alloc (Nat.le_refl _) _
  exact ⟨ret_bool (Pa.refContainsP_eq a b c HP.out HC.out), below_on hbW x.h⟩

theorem refContains_any (a b c : Int) (w : World) :
    Calls Tryd.prog 30 #[.agg #[.int .i64 a, .int .i64 b], .int .i64 c] w fun e w' => e = .returned (.bool (Pa.containsP a b c)) ∧ Below w.heap.size w w' := by
  cases hp : Pa.validP a b with
  | false => exact refContains_n1 a b c w hp
  | true =>
    cases hc : Pa.validB c with
    | false => exact refContains_n2 a b c w hp hc
    | true => exact refContains_yes a b c w hp hc

set_option maxHeartbeats 400000 in
theorem refLast_any (a b : Int) (w : World) :
    Calls Tryd.prog 31 #[.agg #[.int .i64 a, .int .i64 b]] w fun e w' => e = .returned (.int .i64 (Pa.lastP a b)) ∧ Below w.heap.size w w' := by
  cases hv : Pa.validP a b with
  | false =>
    have hf : Pa.lastP a b = 0 := by unfold Pa.lastP; rw [hv]; rfl
    have HF := Lib.hid hf; clear hf
    go_enter Tryd.func31, Tryd.ntmps31
    go_wp2_with (go_at_call 29; refine (refValidPrefix_any _ _ _).mono ?_; rintro e w' ⟨rfl, hb⟩)
    go_ret
    exact ⟨ret_int HF.out.symm, below_on ((Below.refl _ _).alloc (Nat.le_refl _) _) hb⟩
  | true =>
    obtain ⟨⟨ha0, ha1⟩, ⟨b0, b1⟩, _⟩ := Pa.validP_true.1 hv
    have hf : a + (Pa.pw b : Int) - 1 = Pa.lastP a b := by unfold Pa.lastP; rw [hv]; rfl
    have HF := Lib.hid hf; clear hf
    have hp1 := Pa.pw_pos b
    have hp2 := Pa.pw_le b b0 b1
    have hq1 : IntKind.i64.wrap (a + (Pa.pw b : Int)) = a + (Pa.pw b : Int) := IntWalk.i64_in _ ⟨by omega, by omega⟩
    have hq2 : IntKind.i64.wrap (a + (Pa.pw b : Int) - 1) = a + (Pa.pw b : Int) - 1 := IntWalk.i64_in _ ⟨by omega, by omega⟩
    go_enter Tryd.func31, Tryd.ntmps31
    go_wp2_with fail
    refine (refValidPrefix_any _ _ _).mono ?_
    rintro e w1 ⟨rfl, hb⟩
    have hz := hb.size
    simp only [World.size_alloc] at hz
    have d0 : w1.cell? ⟨w.heap.size, 0, none⟩ = some (.int .i64 a) := cell_below hb (by simp) (by simp)
    have d1 : w1.cell? ⟨w.heap.size, 1, none⟩ = some (.int .i64 b) := cell_below hb (by simp) (by simp)
    have HB := Lib.hid hb; clear hb
    go_wp2_with fail
    have HV := Lib.hid hv; clear hv
    refine wp_region_below (by kernel_rfl) (by kernel_rfl) ?_
    intro W hW
    have c0 : ∀ x : Lat (Below W.heap.size W), x.u.cell? ⟨w.heap.size, 0, none⟩ = some (.int .i64 a) := fun x => x.cell (by rw [hW]; omega) (by rw [hW]; exact d0)
    have c1 : ∀ x : Lat (Below W.heap.size W), x.u.cell? ⟨w.heap.size, 1, none⟩ = some (.int .i64 b) := fun x => x.cell (by rw [hW]; omega) (by rw [hW]; exact d1)
    have HW := Lib.hid hW; clear hW
    repeat (go_big_quiet_step ((go_at_call 40; exact Calls.same (size_any b _ b0 b1))))
    refine wpQuiet_nil ?_
    rintro _ ⟨x, rfl⟩
    go_wp2
    go_ret
    have hbW : Below w.heap.size w W := by rw [HW.out]; exact below_on ((Below.refl _ _).alloc (Nat.le_refl _) _) HB.out
    exact ⟨ret_int HF.out, below_on hbW x.h⟩

end Go.Proofs.YtcjemhjgpgnkiaaDoor
