/-
  The walks of told and of the law AddrMatchesReference: they return true. Conditions: integers are 64-bit; the library's variables read as its text lays them.
-/
import Derived.Test.YtcjemhjgpgnkiaaDoorWalkM
namespace Go.Proofs.YtcjemhjgpgnkiaaDoor
open Go.RowKit

set_option maxHeartbeats 1000000 in
theorem told_any (a b c : Int) (w : World) (ok : Ok w) :
    Calls Tryd.prog 13 #[.int .i64 a, .agg #[.int .i64 b, .int .i64 c]] w fun e w' => e = .returned (.bool true) ∧ Below w.heap.size w w' := by
  have K0 := Lib.hid ok; clear ok
  have A0 := Lib.hid (K0.out.below (((Below.refl _ _).alloc (Nat.le_refl _) (.cells #[.int .i64 b, .int .i64 c] 23))))
  go_enter Tryd.func13, Tryd.ntmps13
  go_wp2_with fail
  refine (format_any a _ A0.out).mono ?_
  rintro e w1 ⟨rfl, hb⟩
  have z1 := hb.size
  simp only [World.size_alloc] at z1
  have c0 : w1.cell? ⟨w.heap.size, 0, none⟩ = some (.int .i64 b) := cell_below hb (by simp) (by simp)
  have c1 : w1.cell? ⟨w.heap.size, 1, none⟩ = some (.int .i64 c) := cell_below hb (by simp) (by simp)
  have B1 := Lib.hid (below_on ((Below.refl _ _).alloc (Nat.le_refl _) _) hb)
  clear hb
  go_wp2_with fail
  refine (refFormat_any a _).mono ?_
  rintro e w2 ⟨rfl, hb⟩
  have z2 := hb.size
  have d0 := cell_below hb (by omega) c0
  have d1 := cell_below hb (by omega) c1
  have B2 := Lib.hid (below_on B1.out hb)
  clear hb c0 c1
  go_wp2_with fail
  refine (formatPrefix_any b c _ (K0.out.below B2.out)).mono ?_
  rintro e w3 ⟨rfl, hb⟩
  have z3 := hb.size
  have c0 := cell_below hb (by omega) d0
  have c1 := cell_below hb (by omega) d1
  have B3 := Lib.hid (below_on B2.out hb)
  clear hb d0 d1
  go_wp2_with fail
  refine (refFormatPrefix_any b c _).mono ?_
  rintro e w4 ⟨rfl, hb⟩
  have z4 := hb.size
  have d0 := cell_below hb (by omega) c0
  have d1 := cell_below hb (by omega) c1
  have B4 := Lib.hid (below_on B3.out hb)
  clear hb c0 c1
  go_wp2_with fail
  refine wp_region_below (by kernel_rfl) (by kernel_rfl) ?_
  intro W hW
  have c0 : ∀ x : Lat (Below W.heap.size W), x.u.cell? ⟨w.heap.size, 0, none⟩ = some (.int .i64 b) := fun x => x.cell (by rw [hW]; omega) (by rw [hW]; exact d0)
  have c1 : ∀ x : Lat (Below W.heap.size W), x.u.cell? ⟨w.heap.size, 1, none⟩ = some (.int .i64 c) := fun x => x.cell (by rw [hW]; omega) (by rw [hW]; exact d1)
  have HW := Lib.hid hW; clear hW d0 d1
  repeat (go_big_quiet_step (first
    | (go_at_call 27; exact Calls.same (valid_any a _))
    | (go_at_call 28; exact Calls.same (refValid_any a _))
    | (go_at_call 23; exact Calls.below (validPrefix_any b c _))
    | (go_at_call 29; exact Calls.below (refValidPrefix_any b c _))
    | (go_at_call 24; exact Calls.below (contains_any b c a _))
    | (go_at_call 30; exact Calls.below (refContains_any b c a _))
    | (go_at_call 22; exact Calls.below (last_any b c _))
    | (go_at_call 31; exact Calls.below (refLast_any b c _))))
  refine wpQuiet_nil ?_
  rintro _ ⟨x, rfl⟩
  go_wp2
  go_ret
  have hbW : Below w.heap.size w W := by rw [HW.out]; exact B4.out
  exact ⟨rfl, below_on hbW x.h⟩

end Go.Proofs.YtcjemhjgpgnkiaaDoor
