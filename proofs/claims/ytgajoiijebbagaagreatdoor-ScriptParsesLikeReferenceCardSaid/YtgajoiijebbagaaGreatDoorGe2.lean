/-
  The walk of the generator CallOf: it returns the generated call, and what was there before it is unchanged. Conditions: the raw numbers are numbers of 64 bits.
-/
import Derived.Test.YtgajoiijebbagaaGreatDoorGe
namespace Go.Proofs.YtgajoiijebbagaaGreatDoor
open Go.RowKit Go.Proofs

/-- The raw numbers are numbers of 64 bits. -/
structure RwOk (x : Pa.Rw) : Prop where
  kind : -9223372036854775808 ≤ x.kind ∧ x.kind ≤ 9223372036854775807
  call : -9223372036854775808 ≤ x.call ∧ x.call ≤ 9223372036854775807
  host : -9223372036854775808 ≤ x.host ∧ x.host ≤ 9223372036854775807
  sock : -9223372036854775808 ≤ x.sock ∧ x.sock ≤ 9223372036854775807
  addr : -9223372036854775808 ≤ x.addr ∧ x.addr ≤ 9223372036854775807
  port : -9223372036854775808 ≤ x.port ∧ x.port ≤ 9223372036854775807
  n : -9223372036854775808 ≤ x.n ∧ x.n ≤ 9223372036854775807
  s : x.s.size ≤ 9223372036854775807
  fates : x.fates.length ≤ 9223372036854775807 ∧ ∀ f ∈ x.fates, -9223372036854775808 ≤ f ∧ f ≤ 9223372036854775807
def rwV (x : Pa.Rw) (fv : Value) : Value := .agg #[.int .i64 x.kind, .int .i64 x.call, .int .i64 x.host, .int .i64 x.sock, .int .i64 x.addr, .int .i64 x.port, .int .i64 x.n, fv, .string x.s]

set_option maxRecDepth 100000 in
set_option maxHeartbeats 8000000 in
theorem callOf_any (x : Pa.Rw) (fv : Value) (w : World) (hx : RwOk x) :
    Calls Tryz.prog 45 #[rwV x fv] w fun e w' => e = .returned (clV (Pa.callOf x)) ∧ Below w.heap.size w w' := by
  obtain ⟨kd, cl, ho, so, ad, po, n, fs, s⟩ := x
  obtain ⟨⟨a0, a1⟩, ⟨b0, b1⟩, ⟨c0, c1⟩, ⟨d0, d1⟩, ⟨e0, e1⟩, ⟨f0, f1⟩, ⟨g0, g1⟩, hs, -⟩ := hx
  simp only at a0 a1 b0 b1 c0 c1 d0 d1 e0 e1 f0 f1 g0 g1 hs
  unfold rwV
  have hp := Pa.pick_in cl (n := 13) (by decide)
  have hp2 := Pa.pick_in n (n := 2) (by decide)
  have hk2 : Pa.pickI n 2 = 0 ∨ Pa.pickI n 2 = 1 := by omega
  have hk : Pa.pickI cl 13 = 0 ∨ Pa.pickI cl 13 = 1 ∨ Pa.pickI cl 13 = 2 ∨ Pa.pickI cl 13 = 3 ∨ Pa.pickI cl 13 = 4 ∨ Pa.pickI cl 13 = 5 ∨ Pa.pickI cl 13 = 6 ∨ Pa.pickI cl 13 = 7 ∨ Pa.pickI cl 13 = 8 ∨ Pa.pickI cl 13 = 9 ∨ Pa.pickI cl 13 = 10 ∨ Pa.pickI cl 13 = 11 ∨ Pa.pickI cl 13 = 12 := by omega
  have hc := pick27_any cl 13
  have hc2 := pick27_any n 2
  go_enter Tryz.func45, Tryz.ntmps45
  rcases hk with hk | hk | hk | hk | hk | hk | hk | hk | hk | hk | hk | hk | hk <;> rw [hk] at hc
  case inl =>
    rcases hk2 with hk2 | hk2 <;> rw [hk2] at hc2
    all_goals
      go_wp2_with (go_at_call 11; (first | with_reducible (refine (hc _ b0 b1 (by decide) (by decide)).mono ?_) | with_reducible (refine (hc2 _ g0 g1 (by decide) (by decide)).mono ?_) | (refine (pick27_any _ _ _ (by assumption) (by assumption) (by decide) (by decide)).mono ?_)); rintro e w' ⟨rfl, rfl⟩)
    all_goals
      refine bodyPost_ret (v := clV (Pa.callOf ⟨kd, cl, ho, so, ad, po, n, fs, s⟩)) (by simp [results, Tryz.results45, go_sem, Pa.callOf, hk, hk2, clV, Pa.c0]) rfl ⟨rfl, ((((Below.refl _ _).alloc (Nat.le_refl _) _).alloc (by simp) _).alloc (by simp; omega) _).alloc (by simp; omega) _⟩
  case inr.inr.inr.inr.inr.inr.inr.inr.inr.inr.inr.inl =>
    go_wp2_with (first | (go_at_call 11; (first | with_reducible (refine (hc _ b0 b1 (by decide) (by decide)).mono ?_) | (refine (pick27_any _ _ _ (by assumption) (by assumption) (by decide) (by decide)).mono ?_)); rintro e w' ⟨rfl, rfl⟩) | (go_at_call 70; refine (nameOf_any _ _ (by assumption) (by assumption)).mono ?_; rintro e w' ⟨rfl, cs, rfl⟩))
    refine bodyPost_ret (v := clV (Pa.callOf ⟨kd, cl, ho, so, ad, po, n, fs, s⟩)) (by simp [results, Tryz.results45, go_sem, Pa.callOf, hk, clV, Pa.c0]) rfl ⟨rfl, ((((Below.refl _ _).alloc (Nat.le_refl _) _).alloc (by simp) _).alloc (by simp; omega) _).alloc (by simp; omega) _⟩
  all_goals
    go_wp2_with (go_at_call 11; (first | with_reducible (refine (hc _ b0 b1 (by decide) (by decide)).mono ?_) | (refine (pick27_any _ _ _ (by assumption) (by assumption) (by decide) (by decide)).mono ?_)); rintro e w' ⟨rfl, rfl⟩)
    refine bodyPost_ret (v := clV (Pa.callOf ⟨kd, cl, ho, so, ad, po, n, fs, s⟩)) (by simp [results, Tryz.results45, go_sem, Pa.callOf, hk, clV, Pa.c0, Pa.cutS]) rfl ⟨rfl, (((Below.refl _ _).alloc (Nat.le_refl _) _).alloc (by simp) _).alloc (by simp; omega) _⟩

end Go.Proofs.YtgajoiijebbagaaGreatDoor
