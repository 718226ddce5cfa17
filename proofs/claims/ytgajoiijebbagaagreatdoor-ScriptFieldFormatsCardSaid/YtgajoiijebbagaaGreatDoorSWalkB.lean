/-
  The walk of script.Same and the document's Same. Conditions: the fates lie in memory.
-/
import Derived.Test.YtgajoiijebbagaaGreatDoorSWalkA
import Derived.Test.YtgajoiijebbagaaGreatDoorTail
namespace Go.Proofs.YtgajoiijebbagaaGreatDoor
open Go.RowKit Go.Proofs

def clV (c : Pa.Cl) : Value := .agg #[.int .i64 c.kind, .int .i64 c.sock, .int .i64 c.addr, .int .i64 c.port, .int .i64 c.n, .string c.s, .int .i64 c.here, .int .i64 c.mss]
def acV (a : Pa.Ac) (fv : Value) : Value := .agg #[.int .i64 a.kind, .int .i64 a.host, .int .i64 a.call.kind, .int .i64 a.call.sock, .int .i64 a.call.addr, .int .i64 a.call.port, .int .i64 a.call.n, .string a.call.s, .int .i64 a.call.here, .int .i64 a.call.mss, .int .i64 a.n, fv, .string a.s]

theorem eqCall (k1 k2 a1 a2 b1 b2 c1 c2 d1 d2 g1 g2 h1 h2 : Int) (s1 s2 : ByteArray) (w : World) : (binOp .eql 24 (.agg #[.int .i64 k1, .int .i64 a1, .int .i64 b1, .int .i64 c1, .int .i64 d1, .string s1, .int .i64 g1, .int .i64 h1])
    (.agg #[.int .i64 k2, .int .i64 a2, .int .i64 b2, .int .i64 c2, .int .i64 d2, .string s2, .int .i64 g2, .int .i64 h2])).run Tryz.prog w = .ok (.bool (decide ((⟨k1, a1, b1, c1, d1, s1, g1, h1⟩ : Pa.Cl) = ⟨k2, a2, b2, c2, d2, s2, g2, h2⟩))) w := by
  rw [run_eql_struct, run_equalIn_struct w 9999 _ _ _ (by kernel_rfl) (by kernel_rfl)]
  simp only [Program.fieldsOf, Tryz.underlying24]
  simp [go_sem, Op.eqFields, part]
  have hs : s1.toList = s2.toList ↔ s1 = s2 := by
    rw [ByteArray.toList_eq, ByteArray.toList_eq]
    exact ⟨fun h => ByteArray.ext (Array.toList_inj.1 h), fun h => by rw [h]⟩
  simp only [hs]
  repeat' split
  all_goals simp_all

theorem bytes_iff (s t : ByteArray) : s.toList = t.toList ↔ s = t := by
  rw [ByteArray.toList_eq, ByteArray.toList_eq]
  exact ⟨fun h => ByteArray.ext (Array.toList_inj.1 h), fun h => by rw [h]⟩

theorem bytes_beq (s t : ByteArray) : (s.toList == t.toList) = decide (s = t) := by
  by_cases h : s = t
  · simp [h]
  · have : s.toList ≠ t.toList := fun e => h ((bytes_iff s t).1 e)
    simp [h, this]

theorem drewN_below (w : World) (q : Nat) : Below w.heap.size w (w.drewN q) := by
  induction q with
  | zero => exact Below.refl _ _
  | succ n ih => exact ih.drew

theorem equalFs (fa fb : Value) (xs ys : List Int) (w : World) (ha : Fs w fa xs) (hb : Fs w fb ys) (hl : xs.length ≤ 9223372036854775807) (hl' : ys.length ≤ 9223372036854775807) :
    Calls Tryz.prog 37 #[fa, fb] w fun e w' => e = .returned (.bool (decide (xs = ys))) ∧ Below w.heap.size w w' := by
  obtain ⟨va, ca, rfl, hca⟩ := ha
  obtain ⟨vb, cb, rfl, hcb⟩ := hb
  by_cases hn : xs.length = ys.length
  · by_cases h0 : xs = []
    · subst h0
      refine (Tryz.slices_Equal_int_empty va vb ca ys.length cb w hl').mono ?_
      rintro e w' ⟨rfl, rfl⟩
      refine ⟨ret_bool ?_, Below.refl _ _⟩
      have : ys.length = 0 := by simpa using hn.symm
      rw [this, List.length_eq_zero_iff.1 this]; rfl
    · have h0' : ys ≠ [] := fun e => h0 (List.length_eq_zero_iff.1 (by rw [hn, e]; rfl))
      obtain ⟨b1, o1, rfl, _, hc1⟩ := hca h0
      obtain ⟨b2, o2, rfl, _, hc2⟩ := hcb h0'
      refine (Tryz.slices_Equal_int b1 o1 xs.length ca b2 o2 ys.length cb xs ys w (Nat.le_refl _) (Nat.le_refl _) hl hl' (fun j hj => by rw [hc1 j hj]; simp [hj]) (fun j hj => by rw [hc2 j hj]; simp [hj])).mono ?_
      rintro e w' ⟨rfl, q, rfl⟩
      refine ⟨ret_bool ?_, drewN_below w q⟩
      rw [List.take_length, List.take_length]
      by_cases h : xs = ys <;> simp [h]
  · refine (Tryz.slices_Equal_int_lens va vb xs.length ca ys.length cb w hn).mono ?_
    rintro e w' ⟨rfl, rfl⟩
    refine ⟨ret_bool ?_, Below.refl _ _⟩
    have : xs ≠ ys := fun e => hn (by rw [e])
    simp [this]

set_option maxHeartbeats 400000 in
theorem same_any (a b : Pa.Ac) (fa fb : Value) (w : World) (ha : Fs w fa a.fates) (hb : Fs w fb b.fates) (hl : a.fates.length ≤ 9223372036854775807) (hl' : b.fates.length ≤ 9223372036854775807) :
    Calls Tryz.prog 16 #[acV a fa, acV b fb] w fun e w' => e = .returned (.bool (decide (a = b))) ∧ Below w.heap.size w w' := by
  have hq := eqCall
  have HA := Lib.hid ha; have HB := Lib.hid hb
  unfold acV
  obtain ⟨va, ca, rfl, -⟩ := ha
  obtain ⟨vb, cb, rfl, -⟩ := hb
  obtain ⟨k1, h1, ⟨x1, x2, x3, x4, x5, x6, x7, x8⟩, n1, f1, s1⟩ := a
  obtain ⟨k2, h2, ⟨y1, y2, y3, y4, y5, y6, y7, y8⟩, n2, f2, s2⟩ := b
  go_enter Tryz.func16, Tryz.ntmps16
  go_wp2_with (go_at_call 37; refine (equalFs _ _ f1 f2 _ (HA.out.below ?_) (HB.out.below ?_) hl hl').mono ?_; rotate_left 2; (rintro e w4 ⟨rfl, hb4⟩; have g1 : w4.cell? ⟨w.heap.size, 12, none⟩ = some (.string s1) := cell_below hb4 (by simp; omega) (by simp); have g2 : w4.cell? ⟨w.heap.size + 1, 12, none⟩ = some (.string s2) := cell_below hb4 (by simp) (by simp)))
  all_goals first
    | exact ((Below.refl _ _).alloc (Nat.le_refl _) _).alloc (by simp) _
    | (go_ret; exact ⟨rfl, ((Below.refl _ _).alloc (Nat.le_refl _) _).alloc (by simp) _⟩)
    | (go_ret; refine ⟨ret_bool ?_, below_on (((Below.refl _ _).alloc (Nat.le_refl _) _).alloc (by simp) _) hb4⟩; simp_all; done)
    | (go_ret; refine ⟨ret_bool ?_, below_on (((Below.refl _ _).alloc (Nat.le_refl _) _).alloc (by simp) _) hb4⟩; simp_all; exact bytes_beq _ _)

end Go.Proofs.YtgajoiijebbagaaGreatDoor
