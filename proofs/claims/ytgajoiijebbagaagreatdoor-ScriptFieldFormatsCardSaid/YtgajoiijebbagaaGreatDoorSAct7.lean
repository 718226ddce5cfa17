/-
  The walk of script.action, way 'other'. Conditions: the text is at most 8000 bytes long; the library's variables read as laid.
-/
import Derived.Test.YtgajoiijebbagaaGreatDoorSAct3
namespace Go.Proofs.YtgajoiijebbagaaGreatDoor
open Go.RowKit Go.Proofs

set_option maxRecDepth 100000 in
set_option maxHeartbeats 4000000 in
theorem act_other (x : Pa.Bs) (v : Pa.Bs) (n1 : v ≠ Pa.w_call) (n2 : v ≠ Pa.w_tick) (n3 : v ≠ Pa.w_fates) (n4 : v ≠ Pa.w_frame) (r : List Pa.Bs) (w : World) (ok : Ok w) (hx : x.length ≤ 8000) (hs : Pa.splitC 32 x = v :: r) : Calls Tryz.prog 39 #[.string ⟨x.toArray⟩] w (AOut x w) := by
  have hraw := Pa.rawP_at hx hs
  rw [if_neg n1, if_neg n2, if_neg n3, if_neg n4] at hraw
  have hsp := fun u ok => split_any x u ok (by omega)
  have hst := StR.start x ((w.alloc (.cells #[.int .i64 0, .int .i64 0, .int .i64 0, .int .i64 0, .int .i64 0, .int .i64 0, .int .i64 0, .string ⟨#[]⟩, .int .i64 0, .int .i64 0, .int .i64 0, .slice none 0 0, .string ⟨#[]⟩] 27)).alloc (.cells #[.bool false] 4)) hx (by have := ok.1; simp; omega)
  rw [hs] at hsp hst
  clear hs
  simp only [World.size_alloc, List.map_cons, List.length_cons] at hst
  obtain ⟨t, ht⟩ : ∃ t : ByteArray, t = ⟨x.toArray⟩ := ⟨_, rfl⟩
  have hsz : ¬ 8000 < (t.size : Int) := by rw [ht]; simp [ByteArray.size]; omega
  rw [← ht] at hsp ⊢
  have HT := Lib.hid ht; clear ht
  have h4 := ok.1
  have hmf : ∀ (fn : Fn) (first cap : Array Value) (w : World), (Instr.makeFunc fn first cap).run Tryz.prog w = .ok (.func fn first cap) w := fun _ _ _ _ => rfl
  have hB0 : Below w.heap.size w ((w.alloc (.cells #[.int .i64 0, .int .i64 0, .int .i64 0, .int .i64 0, .int .i64 0, .int .i64 0, .int .i64 0, .string ⟨#[]⟩, .int .i64 0, .int .i64 0, .int .i64 0, .slice none 0 0, .string ⟨#[]⟩] 27)).alloc (.cells #[.bool false] 4)) := ((Below.refl _ _).alloc (Nat.le_refl _) _).alloc (by simp) _
  have q1 : RowAt w.heap.size (acCells ⟨0, 0, ⟨0, 0, 0, 0, 0, ⟨#[]⟩, 0, 0⟩, 0, [], ⟨#[]⟩⟩ (.slice none 0 0)) _ := (act_alloc w).1
  have q2 := (act_alloc w).2
  have HR := Lib.hid (Pa.parse_not hraw (by intro h; exact absurd h.1 (by decide)))
  clear hraw
  obtain ⟨s, hse⟩ : ∃ s : ByteArray, s = ⟨v.toArray⟩ := ⟨_, rfl⟩
  have hsl : s.toList = v := by rw [hse, ByteArray.toList_eq]
  have hword := word_some _ _ _ r _ hst
  rw [← hse] at hword
  have m0 : ¬ s.toList = [99, 97, 108, 108] := by rw [hsl]; exact n1
  have o0 : (s.toList == [99, 97, 108, 108]) = false := by rw [beq_eq_false_iff_ne]; exact m0
  have m1 : ¬ s.toList = [116, 105, 99, 107] := by rw [hsl]; exact n2
  have o1 : (s.toList == [116, 105, 99, 107]) = false := by rw [beq_eq_false_iff_ne]; exact m1
  have m2 : ¬ s.toList = [102, 97, 116, 101, 115] := by rw [hsl]; exact n3
  have o2 : (s.toList == [102, 97, 116, 101, 115]) = false := by rw [beq_eq_false_iff_ne]; exact m2
  have m3 : ¬ s.toList = [102, 114, 97, 109, 101] := by rw [hsl]; exact n4
  have o3 : (s.toList == [102, 114, 97, 109, 101]) = false := by rw [beq_eq_false_iff_ne]; exact m3
  clear hse hsl n1 n2 n3 n4
  go_enter_defers Tryz.func39, Tryz.ntmps39
  go_wp2_with fail
  refine (hsp _ (ok.below hB0)).mono ?_
  rintro e u ⟨rfl, rfl⟩
  go_wp2_with fail
  refine hword.mono ?_
  rintro e w2 ⟨rfl, s2, k2⟩
  have hB2 : Below w.heap.size w w2 := Kp.up (below_on hB0 (((Below.refl _ _).alloc (Nat.le_refl _) _).alloc (by simp) _)) k2 (by simp; omega) (by intro k hk; show ¬ k = _; omega)
  have ok2 := ok.below hB2
  have p1 := (q1.below (((Below.refl _ _).alloc (Nat.le_refl _) _).alloc (by simp) _)).kp k2 (by show ¬ _ = _; omega)
  have p2 := (q2.below (((Below.refl _ _).alloc (Nat.le_refl _) _).alloc (by simp) _)).kp k2 (by show ¬ _ = _; omega)
  clear k2 q1 q2 hst hsp hword
  have ⟨c0, cf0⟩ := p1.2 0 _ rfl
  have ⟨c1, cf1⟩ := p1.2 1 _ rfl
  have ⟨c2, cf2⟩ := p1.2 2 _ rfl
  have ⟨c3, cf3⟩ := p1.2 3 _ rfl
  have ⟨c4, cf4⟩ := p1.2 4 _ rfl
  have ⟨c5, cf5⟩ := p1.2 5 _ rfl
  have ⟨c6, cf6⟩ := p1.2 6 _ rfl
  have ⟨c7, cf7⟩ := p1.2 7 _ rfl
  have ⟨c8, cf8⟩ := p1.2 8 _ rfl
  have ⟨c9, cf9⟩ := p1.2 9 _ rfl
  have ⟨c10, cf10⟩ := p1.2 10 _ rfl
  have ⟨c11, cf11⟩ := p1.2 11 _ rfl
  have ⟨c12, cf12⟩ := p1.2 12 _ rfl
  go_wp2_with fail
  refine (validAct_any ⟨0, 0, ⟨0, 0, 0, 0, 0, ⟨#[]⟩, 0, 0⟩, 0, [], ⟨#[]⟩⟩ (.slice none 0 0) _ ok2 name_any (Fs.nil _) (by simp)).mono ?_
  rintro e w8 ⟨rfl, hb8⟩
  have hok : Pa.okA ⟨0, 0, ⟨0, 0, 0, 0, 0, ⟨#[]⟩, 0, 0⟩, 0, [], ⟨#[]⟩⟩ = false := by decide
  rw [hok]
  clear hok
  go_wp2
  exact door_bad HR.out rfl rfl rfl (p1.below hb8) (p2.below hb8) (below_on hB2 hb8)

end Go.Proofs.YtgajoiijebbagaaGreatDoor
