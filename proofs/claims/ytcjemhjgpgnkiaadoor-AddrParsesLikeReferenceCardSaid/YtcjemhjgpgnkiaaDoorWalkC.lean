/-
  The walks of Last and NetOf, and of the reference's ValidPrefix, Contains and Last. Each contract says what the call returns and that what was there before it is unchanged. Conditions: integers are 64-bit.
-/
import Derived.Test.YtcjemhjgpgnkiaaDoorWalkB
namespace Go.Proofs.YtcjemhjgpgnkiaaDoor
open Go.RowKit

set_option maxHeartbeats 400000 in
theorem refValidPrefix_n1 (a b : Int) (w : World) (hv : Pa.validB a = false) :
    Calls Tryd.prog 29 #[.agg #[.int .i64 a, .int .i64 b]] w fun e w' => e = .returned (.bool (Pa.validP a b)) ∧ Below w.heap.size w w' := by
  have HV := Lib.hid hv; clear hv
  go_enter Tryd.func29, Tryd.ntmps29
  go_wp2
  refine wp_region_below (by kernel_rfl) (by kernel_rfl) ?_
  intro W hW
  have c0 : ∀ x : Lat (Below W.heap.size W), x.u.cell? ⟨w.heap.size, 0, none⟩ = some (.int .i64 a) := fun x => x.cell (by rw [hW]; simp <;> omega) (by rw [hW]; simp)
  have c1 : ∀ x : Lat (Below W.heap.size W), x.u.cell? ⟨w.heap.size, 1, none⟩ = some (.int .i64 b) := fun x => x.cell (by rw [hW]; simp <;> omega) (by rw [hW]; simp)
  have HW := Lib.hid hW; clear hW
  repeat (go_big_quiet_step ((go_at_call 28; exact Calls.same (Calls.eqv (congrArg Value.bool HV.out) (refValid_any a _)))))
  refine wpQuiet_nil ?_
  rintro _ ⟨x, rfl⟩
  go_wp2
  go_ret
  have hbW : Below w.heap.size w W := by rw [HW.out]; exact (Below.refl _ _).alloc (Nat.le_refl _) _
  exact ⟨ret_bool (by rw [Pa.validP, HV.out]; rfl), below_on hbW x.h⟩

set_option maxHeartbeats 400000 in
theorem refValidPrefix_n2 (a b : Int) (w : World) (hv : Pa.validB a = true) (b0 : b < 0) :
    Calls Tryd.prog 29 #[.agg #[.int .i64 a, .int .i64 b]] w fun e w' => e = .returned (.bool (Pa.validP a b)) ∧ Below w.heap.size w w' := by
  have hd : decide (0 ≤ b) = false := by simp; omega
  have hf : Pa.validP a b = false := by rw [Bool.eq_false_iff]; intro h; have := Pa.validP_true.1 h; omega
  have HF := Lib.hid hf; clear hf
  have HV := Lib.hid hv; clear hv
  go_enter Tryd.func29, Tryd.ntmps29
  go_wp2
  refine wp_region_below (by kernel_rfl) (by kernel_rfl) ?_
  intro W hW
  have c0 : ∀ x : Lat (Below W.heap.size W), x.u.cell? ⟨w.heap.size, 0, none⟩ = some (.int .i64 a) := fun x => x.cell (by rw [hW]; simp <;> omega) (by rw [hW]; simp)
  have c1 : ∀ x : Lat (Below W.heap.size W), x.u.cell? ⟨w.heap.size, 1, none⟩ = some (.int .i64 b) := fun x => x.cell (by rw [hW]; simp <;> omega) (by rw [hW]; simp)
  have HW := Lib.hid hW; clear hW
  repeat (go_big_quiet_step ((go_at_call 28; exact Calls.same (Calls.eqv (congrArg Value.bool HV.out) (refValid_any a _)))))
  refine wpQuiet_nil ?_
  rintro _ ⟨x, rfl⟩
  go_wp2
  go_ret
  have hbW : Below w.heap.size w W := by rw [HW.out]; exact (Below.refl _ _).alloc (Nat.le_refl _) _
  exact ⟨ret_bool HF.out.symm, below_on hbW x.h⟩

set_option maxHeartbeats 400000 in
theorem refValidPrefix_n3 (a b : Int) (w : World) (hv : Pa.validB a = true) (b0 : 0 ≤ b) (b1 : 32 < b) :
    Calls Tryd.prog 29 #[.agg #[.int .i64 a, .int .i64 b]] w fun e w' => e = .returned (.bool (Pa.validP a b)) ∧ Below w.heap.size w w' := by
  have hd : decide (0 ≤ b) = true := by simp; omega
  have hd2 : decide (b ≤ 32) = false := by simp; omega
  have hf : Pa.validP a b = false := by rw [Bool.eq_false_iff]; intro h; have := Pa.validP_true.1 h; omega
  have HF := Lib.hid hf; clear hf
  have HV := Lib.hid hv; clear hv
  go_enter Tryd.func29, Tryd.ntmps29
  go_wp2
  refine wp_region_below (by kernel_rfl) (by kernel_rfl) ?_
  intro W hW
  have c0 : ∀ x : Lat (Below W.heap.size W), x.u.cell? ⟨w.heap.size, 0, none⟩ = some (.int .i64 a) := fun x => x.cell (by rw [hW]; simp <;> omega) (by rw [hW]; simp)
  have c1 : ∀ x : Lat (Below W.heap.size W), x.u.cell? ⟨w.heap.size, 1, none⟩ = some (.int .i64 b) := fun x => x.cell (by rw [hW]; simp <;> omega) (by rw [hW]; simp)
  have HW := Lib.hid hW; clear hW
  repeat (go_big_quiet_step ((go_at_call 28; exact Calls.same (Calls.eqv (congrArg Value.bool HV.out) (refValid_any a _)))))
  refine wpQuiet_nil ?_
  rintro _ ⟨x, rfl⟩
  go_wp2
  go_ret
  have hbW : Below w.heap.size w W := by rw [HW.out]; exact (Below.refl _ _).alloc (Nat.le_refl _) _
  exact ⟨ret_bool HF.out.symm, below_on hbW x.h⟩

set_option maxHeartbeats 400000 in
theorem refValidPrefix_yes (a b : Int) (w : World) (hv : Pa.validB a = true) (b0 : 0 ≤ b) (b1 : b ≤ 32) :
    Calls Tryd.prog 29 #[.agg #[.int .i64 a, .int .i64 b]] w fun e w' => e = .returned (.bool (Pa.validP a b)) ∧ Below w.heap.size w w' := by
  have hd : decide (0 ≤ b) = true := by simp; omega
  have hd2 : decide (b ≤ 32) = true := by simp; omega
  have hp1 := Pa.pw_pos b
  have hp2 := Pa.pw_le b b0 b1
  have ha0 : 0 ≤ a := (Pa.validB_true.1 hv).1
  have ha1 : a ≤ 4294967295 := (Pa.validB_true.1 hv).2
  have HV := Lib.hid hv; clear hv
  go_enter Tryd.func29, Tryd.ntmps29
  go_wp2
  refine wp_region_below (by kernel_rfl) (by kernel_rfl) ?_
  intro W hW
  have c0 : ∀ x : Lat (Below W.heap.size W), x.u.cell? ⟨w.heap.size, 0, none⟩ = some (.int .i64 a) := fun x => x.cell (by rw [hW]; simp <;> omega) (by rw [hW]; simp)
  have c1 : ∀ x : Lat (Below W.heap.size W), x.u.cell? ⟨w.heap.size, 1, none⟩ = some (.int .i64 b) := fun x => x.cell (by rw [hW]; simp <;> omega) (by rw [hW]; simp)
  have HW := Lib.hid hW; clear hW
  repeat (go_big_quiet_step (first
    | (go_at_call 28; exact Calls.same (Calls.eqv (congrArg Value.bool HV.out) (refValid_any a _)))
    | (go_at_call 40; exact Calls.same (size_any b _ b0 b1))))
  refine wpQuiet_nil ?_
  rintro _ ⟨x, rfl⟩
  go_wp2
  go_ret
  have hbW : Below w.heap.size w W := by rw [HW.out]; exact (Below.refl _ _).alloc (Nat.le_refl _) _
  exact ⟨ret_bool (Pa.refValidP_eq a b HV.out b0 b1), below_on hbW x.h⟩

theorem refValidPrefix_any (a b : Int) (w : World) :
    Calls Tryd.prog 29 #[.agg #[.int .i64 a, .int .i64 b]] w fun e w' => e = .returned (.bool (Pa.validP a b)) ∧ Below w.heap.size w w' := by
  cases hv : Pa.validB a with
  | false => exact refValidPrefix_n1 a b w hv
  | true =>
    by_cases h0 : b < 0
    · exact refValidPrefix_n2 a b w hv h0
    · by_cases h1 : 32 < b
      · exact refValidPrefix_n3 a b w hv (by omega) h1
      · exact refValidPrefix_yes a b w hv (by omega) (by omega)

end Go.Proofs.YtcjemhjgpgnkiaaDoor
