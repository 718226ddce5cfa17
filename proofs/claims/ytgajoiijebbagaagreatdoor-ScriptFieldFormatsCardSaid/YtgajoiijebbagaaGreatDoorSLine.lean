/-
  The walks of script.callWords and script.line. Each says which words (which line) it gives for a valid call (action), and that what was there is unchanged. Conditions: the call (the action) is valid.
-/
import Derived.Test.YtgajoiijebbagaaGreatDoorSWalkB
import Derived.Test.YtgajoiijebbagaaGreatDoorSHex
import Derived.Test.YtgajoiijebbagaaGreatDoorSPlainD
namespace Go.Proofs.YtgajoiijebbagaaGreatDoor
open Go.RowKit Go.Proofs

/-- A slice value that holds these strings. -/
def StrsAt (w : World) (v : Value) (ws : List Pa.Bs) : Prop := ∃ b c, v = .slice (some ⟨b, 0, none⟩) ws.length c ∧ ws.length ≤ c ∧ b < w.heap.size ∧ ∀ (j : Nat) (h : j < ws.length), w.cell? ⟨b, j, none⟩ = some (.string ⟨ws[j].toArray⟩)
theorem StrsAt.below {w w' : World} {v : Value} {ws : List Pa.Bs} (h : StrsAt w v ws) (hb : Below w.heap.size w w') : StrsAt w' v ws := by
  obtain ⟨b, c, h1, h2, h3, h4⟩ := h
  exact ⟨b, c, h1, h2, Nat.lt_of_lt_of_le h3 hb.size, fun j hj => cell_below hb h3 (h4 j hj)⟩
theorem StrsAt.new (w : World) (cs : Array Value) (t : TypeId) (ws : List Pa.Bs) (n : Nat) (hn : n = ws.length) (h : cs.toList = ws.map fun x => .string ⟨x.toArray⟩) : StrsAt (w.alloc (.cells cs t)) (.slice (some ⟨w.heap.size, 0, none⟩) n n) ws := by
  subst hn
  refine ⟨w.heap.size, ws.length, rfl, Nat.le_refl _, by simp, fun j hj => ?_⟩
  rw [World.cell?_alloc_at _ _ _ _ rfl]
  have : cs[j]? = cs.toList[j]? := by simp
  rw [this, h]; simp [hj]

theorem Pa.okC_size {c : Pa.Cl} (h : Pa.okC c = true) : c.s.size ≤ 2100 := by
  obtain ⟨hk, hn, h3, h4, h5, ha, hs⟩ := Pa.okC_parts h
  by_cases k1 : c.kind = 1
  · rw [hn]; simp only [Pa.needC, k1, Pa.c0, if_true]; decide
  · rw [if_neg k1] at hs
    by_cases k2 : c.kind = 12
    · rw [if_pos k2] at hs
      simp only [Pa.nameOk, Bool.and_eq_true, decide_eq_true_eq] at hs
      have : c.s.size ≤ 60 := hs.1
      omega
    · rw [if_neg k2] at hs; simpa using hs

set_option maxRecDepth 10000 in
set_option maxHeartbeats 4000000 in
theorem callWords_any (c : Pa.Cl) (w : World) (ok : Ok w) (h : Pa.okC c = true) :
    Calls Tryz.prog 47 #[clV c] w fun e w' => ∃ v, e = .returned v ∧ StrsAt w' v (Pa.callW c) ∧ Below w.heap.size w w' := by
  obtain ⟨hk, -, hs, hn, hp, ha, -⟩ := Pa.okC_parts h
  have hsz := Pa.okC_size h
  clear h
  obtain ⟨k, so, ad, po, n, s, he, ms⟩ := c
  simp only at hk hs hn hp ha hsz
  unfold clV
  go_enter Tryz.func47, Tryz.ntmps47
  go_wp2_with fail
  refine wp_region_below (by kernel_rfl) (by kernel_rfl) ?_
  intro W hW
  have c1 : ∀ x : Lat (Below W.heap.size W), x.u.cell? ⟨w.heap.size, 1, none⟩ = some (.int .i64 so) := fun x => x.cell (by rw [hW]; simp) (by rw [hW]; simp)
  have c3 : ∀ x : Lat (Below W.heap.size W), x.u.cell? ⟨w.heap.size, 3, none⟩ = some (.int .i64 po) := fun x => x.cell (by rw [hW]; simp) (by rw [hW]; simp)
  have c4 : ∀ x : Lat (Below W.heap.size W), x.u.cell? ⟨w.heap.size, 4, none⟩ = some (.int .i64 n) := fun x => x.cell (by rw [hW]; simp) (by rw [hW]; simp)
  have okW : Ok W := by rw [hW]; exact ok.below ((Below.refl _ _).alloc (Nat.le_refl _) _)
  have HW := Lib.hid hW; clear hW
  repeat (go_big_quiet_step ((go_at_call 41; exact Calls.below (itoa_any _ _ (by omega) (by omega) (okW.below (Lat.h _))))))
  refine wpQuiet_nil ?_
  rintro u ⟨x, hx⟩
  have hu : Below W.heap.size W u := by rw [hx]; exact x.h
  clear hx x
  have hbu : Below w.heap.size w u := below_on (by rw [HW.out]; exact (Below.refl _ _).alloc (Nat.le_refl _) _) hu
  have hlu : w.heap.size < u.heap.size := by have := hu.size; rw [HW.out] at this; simp at this; omega
  have d0 : u.cell? ⟨w.heap.size, 0, none⟩ = some (.int .i64 k) := cell_below hu (by rw [HW.out]; simp) (by rw [HW.out]; simp)
  have d2 : u.cell? ⟨w.heap.size, 2, none⟩ = some (.int .i64 ad) := cell_below hu (by rw [HW.out]; simp) (by rw [HW.out]; simp)
  have d4 : u.cell? ⟨w.heap.size, 4, none⟩ = some (.int .i64 n) := cell_below hu (by rw [HW.out]; simp) (by rw [HW.out]; simp)
  have d5 : u.cell? ⟨w.heap.size, 5, none⟩ = some (.string s) := cell_below hu (by rw [HW.out]; simp) (by rw [HW.out]; simp)
  clear c1 c3 c4 hu HW okW
  go_wp2_with (first | (go_at_call 21; refine (format_any ad _ (ok.below hbu)).mono ?_; rintro e u1 ⟨rfl, hb1⟩; have g0 := cell_below hb1 hlu d0; have g4 := cell_below hb1 hlu d4; have g5 := cell_below hb1 hlu d5; clear d0 d2 d4 d5) | (go_at_call 48; refine (hex_any s _ (by omega)).mono ?_; rintro e u2 ⟨rfl, hb2⟩))
  all_goals first
    | (exfalso; simp_all; omega)
    | (go_ret; refine ⟨_, rfl, StrsAt.new _ _ _ _ _ ?_ ?_, ?_⟩
       · simp_all [Pa.callW]
       · simp_all [Pa.callW, Pa.num]
       · exact (below_on (below_on hbu hb1) hb2).alloc (by have := hbu.size; have := hb1.size; have := hb2.size; omega) _)
    | (go_ret; refine ⟨_, rfl, StrsAt.new _ _ _ _ _ ?_ ?_, ?_⟩
       · simp_all [Pa.callW]
       · simp_all [Pa.callW, Pa.num]
       · exact (below_on hbu hb1).alloc (by have := hbu.size; have := hb1.size; omega) _)

end Go.Proofs.YtgajoiijebbagaaGreatDoor
