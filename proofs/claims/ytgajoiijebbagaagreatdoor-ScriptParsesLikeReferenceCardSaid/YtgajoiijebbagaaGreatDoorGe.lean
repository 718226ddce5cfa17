/-
  The walks of the generators: pick, NameOf, CallOf, ActOf, Script. Each says what the call returns and that what was there before it is unchanged. Conditions: the raw numbers are numbers of 64 bits; the raw actions lie in memory.
-/
import Derived.Test.YtgajoiijebbagaaGreatDoorGeP
import Derived.Test.YtgajoiijebbagaaGreatDoorWc
namespace Go.Proofs.YtgajoiijebbagaaGreatDoor
open Go.RowKit Go.Proofs

theorem pick27_any (c n : Int) (w : World) (c0 : -9223372036854775808 ≤ c) (c1 : c ≤ 9223372036854775807) (n0 : 1 ≤ n) (n1 : n ≤ 9223372036854775807) :
    Calls Tryz.prog 11 #[.int .i64 c, .int .i64 n] w fun e w' => e = .returned (.int .i64 (Pa.pickI c n)) ∧ w = w' := by
  by_cases h : c < 0
  · go_enter Tryz.func11, Tryz.ntmps11
    go_wp2
    go_ret
    exact ⟨ret_int (by rw [Pa.pickI, if_pos h, ← Int.neg_tmod, Int.tmod_eq_emod_of_nonneg (by omega)]), rfl⟩
  · go_enter Tryz.func11, Tryz.ntmps11
    go_wp2
    go_ret
    exact ⟨ret_int (by rw [Pa.pickI, if_neg (by omega)]), rfl⟩

theorem pick19_any (c n : Int) (w : World) (c0 : -9223372036854775808 ≤ c) (c1 : c ≤ 9223372036854775807) (n0 : 1 ≤ n) (n1 : n ≤ 9223372036854775807) :
    Calls Tryz.prog 86 #[.int .i64 c, .int .i64 n] w fun e w' => e = .returned (.int .i64 (Pa.pickI c n)) ∧ w = w' := by
  by_cases h : c < 0
  · go_enter Tryz.func86, Tryz.ntmps86
    go_wp2
    go_ret
    exact ⟨ret_int (by rw [Pa.pickI, if_pos h, ← Int.neg_tmod, Int.tmod_eq_emod_of_nonneg (by omega)]), rfl⟩
  · go_enter Tryz.func86, Tryz.ntmps86
    go_wp2
    go_ret
    exact ⟨ret_int (by rw [Pa.pickI, if_neg (by omega)]), rfl⟩

set_option maxRecDepth 100000 in
set_option maxHeartbeats 4000000 in
theorem nameOf_any (n : Int) (w : World) (c0 : -9223372036854775808 ≤ n) (c1 : n ≤ 9223372036854775807) :
    Calls Tryz.prog 70 #[.int .i64 n] w fun e w' => e = .returned (.string ⟨(Pa.nameOf n).toArray⟩) ∧ ∃ cs, w' = w.alloc (.cells cs 9) := by
  have hp := Pa.pick_in n (n := 10) (by decide)
  have hk : Pa.pickI n 10 = 0 ∨ Pa.pickI n 10 = 1 ∨ Pa.pickI n 10 = 2 ∨ Pa.pickI n 10 = 3 ∨ Pa.pickI n 10 = 4 ∨ Pa.pickI n 10 = 5 ∨ Pa.pickI n 10 = 6 ∨ Pa.pickI n 10 = 7 ∨ Pa.pickI n 10 = 8 ∨ Pa.pickI n 10 = 9 := by omega
  have hc := pick19_any n 10
  go_enter Tryz.func70, Tryz.ntmps70
  rcases hk with hk | hk | hk | hk | hk | hk | hk | hk | hk | hk <;> rw [hk] at hc
  all_goals
    go_wp2_with (go_at_call 86; refine (hc _ c0 c1 (by decide) (by decide)).mono ?_; rintro e w' ⟨rfl, rfl⟩)
    go_ret
    exact ⟨by rw [Pa.nameOf, hk]; rfl, _, rfl⟩

end Go.Proofs.YtgajoiijebbagaaGreatDoor
