/-
  The walks of NetOf, host, ValidPrefix, Contains, Last (of the program). Each contract says what the call returns and that what was there before it is unchanged. Conditions: integers are 64-bit.
-/
import Derived.Test.YtcjemhjgpgnkiaaDoorWalkA
import Derived.Test.YtcjemhjgpgnkiaaDoorBits
namespace Go.Proofs.YtcjemhjgpgnkiaaDoor
open Go.RowKit

set_option maxHeartbeats 400000 in
theorem open_any (b : Int) (blk : Nat) (w : World) (b0 : 0 ≤ b) (b1 : b ≤ 32) (h1 : w.cell? ⟨blk, 1, none⟩ = some (.int .i64 b)) :
    Calls Tryd.prog 47 #[.pointer (some ⟨blk, 0, none⟩)] w fun e w' => e = .returned (.int .i64 ((Pa.pw b : Int) - 1)) ∧ w = w' := by
  go_enter Tryd.func47, Tryd.ntmps47
  go_wp2
  go_ret
  exact ⟨ret_int (Pa.open_eq b b0 b1), rfl⟩

set_option maxHeartbeats 400000 in
theorem host_any (a b : Int) (w : World) :
    Calls Tryd.prog 39 #[.agg #[.int .i64 a, .int .i64 b]] w fun e w' => e = .returned (.func (.func 47) #[] #[.pointer (some ⟨w.heap.size, 0, none⟩)]) ∧ w.alloc (.cells #[.int .i64 a, .int .i64 b] 23) = w' := by
  go_enter Tryd.func39, Tryd.ntmps39
  go_wp2
  go_ret
  exact ⟨rfl, rfl⟩

set_option maxHeartbeats 400000 in
theorem validPrefix_bad (a b : Int) (w : World) (h : ¬ (Pa.validB a = true ∧ 0 ≤ b ∧ b ≤ 32)) :
    Calls Tryd.prog 23 #[.agg #[.int .i64 a, .int .i64 b]] w fun e w' => e = .returned (.bool (Pa.validP a b)) ∧ Below w.heap.size w w' := by
  have hf : Pa.validP a b = false := by
    rw [Bool.eq_false_iff]; intro hv; apply h
    have := Pa.validP_true.1 hv
    exact ⟨Pa.validB_true.2 this.1, this.2.1.1, this.2.1.2⟩
  have HF := Lib.hid hf; clear hf
  cases hv : Pa.validB a with
  | false =>
    go_enter Tryd.func23, Tryd.ntmps23
    go_wp2_with (go_at_call 27; refine (valid_any _ _).mono ?_; rintro e w' ⟨rfl, rfl⟩)
    go_ret
    exact ⟨ret_bool HF.out.symm, (Below.refl _ _).alloc (Nat.le_refl _) _⟩
  | true =>
    have hb : ¬ (0 ≤ b ∧ b ≤ 32) := fun hb => h ⟨hv, hb⟩
    clear h
    by_cases hb0 : b < 0
    · have hd : decide (b < 0) = true := by simpa using hb0
      go_enter Tryd.func23, Tryd.ntmps23
      go_wp2_with (go_at_call 27; refine (valid_any _ _).mono ?_; rintro e w' ⟨rfl, rfl⟩)
      go_ret
      exact ⟨ret_bool HF.out.symm, (Below.refl _ _).alloc (Nat.le_refl _) _⟩
    · have hd : decide (b < 0) = false := by simpa using hb0
      have hb2 : 32 < b := by omega
      have hd2 : decide (32 < b) = true := by simpa using hb2
      clear hb
      go_enter Tryd.func23, Tryd.ntmps23
      go_wp2_with (go_at_call 27; refine (valid_any _ _).mono ?_; rintro e w' ⟨rfl, rfl⟩)
      go_ret
      exact ⟨ret_bool HF.out.symm, (Below.refl _ _).alloc (Nat.le_refl _) _⟩

set_option maxHeartbeats 400000 in
theorem validPrefix_good (a b : Int) (w : World) (hv : Pa.validB a = true) (b0 : 0 ≤ b) (b1 : b ≤ 32) :
    Calls Tryd.prog 23 #[.agg #[.int .i64 a, .int .i64 b]] w fun e w' => e = .returned (.bool (Pa.validP a b)) ∧ Below w.heap.size w w' := by
  have hd : decide (b < 0) = false := by simp; omega
  have hd2 : decide (32 < b) = false := by simp; omega
  go_enter Tryd.func23, Tryd.ntmps23
  go_wp2_with (first
    | (go_at_call 27; refine (valid_any _ _).mono ?_; rintro e w' ⟨rfl, rfl⟩)
    | (go_at_call 39; refine (host_any _ _ _).mono ?_; rintro e w' ⟨rfl, rfl⟩))
  have HV := Lib.hid hv; clear hv hd hd2
  refine wp_region_below (by kernel_rfl) (by kernel_rfl) ?_
  intro W hW
  have c0 : ∀ x : Lat (Below W.heap.size W), x.u.cell? ⟨w.heap.size, 0, none⟩ = some (.int .i64 a) := fun x => x.cell (by rw [hW]; simp <;> omega) (by rw [hW]; simp)
  have c1 : ∀ x : Lat (Below W.heap.size W), x.u.cell? ⟨w.heap.size + 1, 1, none⟩ = some (.int .i64 b) := fun x => x.cell (by rw [hW]; simp <;> omega) (by rw [hW]; simp)
  have HW := Lib.hid hW; clear hW
  repeat (go_big_quiet_step ((go_at_call 47; exact Calls.same (open_any b _ _ b0 b1 (c1 _)))))
  refine wpQuiet_nil ?_
  rintro _ ⟨x, rfl⟩
  go_wp2
  go_ret
  have hbW : Below w.heap.size w W := by rw [HW.out]; exact ((Below.refl _ _).alloc (Nat.le_refl _) _).alloc (by simp) _
  exact ⟨ret_bool (Pa.validP_eq a b HV.out b0 b1), below_on hbW x.h⟩

theorem validPrefix_any (a b : Int) (w : World) :
    Calls Tryd.prog 23 #[.agg #[.int .i64 a, .int .i64 b]] w fun e w' => e = .returned (.bool (Pa.validP a b)) ∧ Below w.heap.size w w' := by
  by_cases h : Pa.validB a = true ∧ 0 ≤ b ∧ b ≤ 32
  · exact validPrefix_good a b w h.1 h.2.1 h.2.2
  · exact validPrefix_bad a b w h

set_option maxHeartbeats 400000 in
theorem contains_bad (a b c : Int) (w : World) (h : ¬ (Pa.validP a b = true ∧ Pa.validB c = true)) :
    Calls Tryd.prog 24 #[.agg #[.int .i64 a, .int .i64 b], .int .i64 c] w fun e w' => e = .returned (.bool (Pa.containsP a b c)) ∧ Below w.heap.size w w' := by
  have hf : Pa.containsP a b c = false := by
    unfold Pa.containsP
    cases h1 : Pa.validP a b <;> cases h2 : Pa.validB c <;> simp_all
  have HF := Lib.hid hf; clear hf
  cases hv : Pa.validP a b with
  | false =>
    clear h
    go_enter Tryd.func24, Tryd.ntmps24
    go_wp2_with (go_at_call 23; refine (validPrefix_any _ _ _).mono ?_; rintro e w' ⟨rfl, hb⟩)
    go_ret
    exact ⟨ret_bool HF.out.symm, below_on ((Below.refl _ _).alloc (Nat.le_refl _) _) hb⟩
  | true =>
    have hc : Pa.validB c = false := by cases h2 : Pa.validB c <;> simp_all
    clear h
    go_enter Tryd.func24, Tryd.ntmps24
    go_wp2_with (first | (go_at_call 23; refine (validPrefix_any _ _ _).mono ?_; rintro e w' ⟨rfl, hb⟩) | (go_at_call 27; refine (valid_any _ _).mono ?_; rintro e w' ⟨rfl, rfl⟩))
    go_ret
    exact ⟨ret_bool HF.out.symm, below_on ((Below.refl _ _).alloc (Nat.le_refl _) _) hb⟩

set_option maxHeartbeats 400000 in
theorem contains_good (a b c : Int) (w : World) (hv : Pa.validP a b = true) (hc : Pa.validB c = true) :
    Calls Tryd.prog 24 #[.agg #[.int .i64 a, .int .i64 b], .int .i64 c] w fun e w' => e = .returned (.bool (Pa.containsP a b c)) ∧ Below w.heap.size w w' := by
  obtain ⟨_, ⟨b0, b1⟩, _⟩ := Pa.validP_true.1 hv
  go_enter Tryd.func24, Tryd.ntmps24
  go_wp2_with fail
  refine (validPrefix_any _ _ _).mono ?_
  rintro e w1 ⟨rfl, hb⟩
  have hz := hb.size
  simp only [World.size_alloc] at hz
  have d0 : w1.cell? ⟨w.heap.size, 0, none⟩ = some (.int .i64 a) := cell_below hb (by simp) (by simp)
  have d1 : w1.cell? ⟨w.heap.size, 1, none⟩ = some (.int .i64 b) := cell_below hb (by simp) (by simp)
  have HB := Lib.hid hb; clear hb
  go_wp2_with (first | (go_at_call 27; refine (valid_any _ _).mono ?_; rintro e w' ⟨rfl, rfl⟩) | (go_at_call 39; refine (host_any _ _ _).mono ?_; rintro e w' ⟨rfl, rfl⟩))
  have HV := Lib.hid hv; have HC := Lib.hid hc; clear hv hc
  refine wp_region_below (by kernel_rfl) (by kernel_rfl) ?_
  intro W hW
  have c0 : ∀ x : Lat (Below W.heap.size W), x.u.cell? ⟨w.heap.size, 0, none⟩ = some (.int .i64 a) := fun x => x.cell (by rw [hW]; simp <;> omega) (by rw [hW]; exact cell_old _ (by omega) d0)
  have c1 : ∀ x : Lat (Below W.heap.size W), x.u.cell? ⟨w1.heap.size, 1, none⟩ = some (.int .i64 b) := fun x => x.cell (by rw [hW]; simp <;> omega) (by rw [hW]; simp)
  have HW := Lib.hid hW; clear hW
  repeat (go_big_quiet_step ((go_at_call 47; exact Calls.same (open_any b _ _ b0 b1 (c1 _)))))
  refine wpQuiet_nil ?_
  rintro _ ⟨x, rfl⟩
  go_wp2
  go_ret
  have hbW : Below w.heap.size w W := by rw [HW.out]; exact (below_on ((Below.refl _ _).alloc (Nat.le_refl _) _) HB.out).alloc (by omega) _
  exact ⟨ret_bool (Pa.containsP_eq a b c HV.out HC.out), below_on hbW x.h⟩

theorem contains_any (a b c : Int) (w : World) :
    Calls Tryd.prog 24 #[.agg #[.int .i64 a, .int .i64 b], .int .i64 c] w fun e w' => e = .returned (.bool (Pa.containsP a b c)) ∧ Below w.heap.size w w' := by
  by_cases h : Pa.validP a b = true ∧ Pa.validB c = true
  · exact contains_good a b c w h.1 h.2
  · exact contains_bad a b c w h

end Go.Proofs.YtcjemhjgpgnkiaaDoor
