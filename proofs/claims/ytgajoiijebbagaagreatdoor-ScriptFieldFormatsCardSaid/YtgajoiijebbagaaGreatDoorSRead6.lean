/-
  The walk of script's reader: call, whatever the words. Conditions: the words lie in memory.
-/
import Derived.Test.YtgajoiijebbagaaGreatDoorSRead5
namespace Go.Proofs.YtgajoiijebbagaaGreatDoor
open Go.RowKit Go.Proofs

theorem bne_word {x y : Pa.Bs} (h : x ≠ y) : ((⟨x.toArray⟩ : ByteArray) == ⟨y.toArray⟩) = false := by
  show (x.toArray == y.toArray) = false
  rw [beq_eq_false_iff_ne]; intro e; exact h (by simpa using e)
set_option maxHeartbeats 1000000 in
theorem call_other (rb wb : Nat) (x : Pa.Bs) (r : List Pa.Bs) (w : World) (h : StR rb wb (x :: r) w) (n0 : x ≠ Pa.w_socket) (n1 : x ≠ Pa.w_bind) (n2 : x ≠ Pa.w_listen) (n3 : x ≠ Pa.w_connect) (n4 : x ≠ Pa.w_accept) (n5 : x ≠ Pa.w_shut) (n6 : x ≠ Pa.w_close) (n7 : x ≠ Pa.w_recvfrom) (n8 : x ≠ Pa.w_send) (n9 : x ≠ Pa.w_recv) (n10 : x ≠ Pa.w_sendto) (n11 : x ≠ Pa.w_name) (n12 : x ≠ Pa.w_ping) :
    Calls Tryz.prog 61 #[.pointer (some ⟨rb, 0, none⟩)] w (COut2 rb wb (Pa.rdCall (x :: r)) w) := by
  have hrl := h.rbl
  have HO : Hid (Pa.rdCall (x :: r) = none) := by
    simp [Hid, Pa.rdCall, Pa.rdWord, Pa.verbs, (Ne.symm n0), (Ne.symm n1), (Ne.symm n2), (Ne.symm n3), (Ne.symm n4), (Ne.symm n5), (Ne.symm n6), (Ne.symm n7), (Ne.symm n8), (Ne.symm n9), (Ne.symm n10), (Ne.symm n11), (Ne.symm n12)]
  have hfn : Instr.findNow .string (.string ⟨x.toArray⟩) (vE rb 13).toList 0 = some none := by
    simp [vE, vList, Instr.findNow, Instr.sameNow, bne_word n0, bne_word n1, bne_word n2, bne_word n3, bne_word n4, bne_word n5, bne_word n6, bne_word n7, bne_word n8, bne_word n9, bne_word n10, bne_word n11, bne_word n12]
  clear n0 n1 n2 n3 n4 n5 n6 n7 n8 n9 n10 n11 n12
  obtain ⟨s, hs⟩ : ∃ s : ByteArray, s = ⟨x.toArray⟩ := ⟨_, rfl⟩
  rw [← hs] at hfn
  have hword := fun (w : World) (h : StR rb wb (x :: r) w) => word_some rb wb x r w h
  rw [← hs] at hword
  clear hs
  go_enter Tryz.func61, Tryz.ntmps61
  go_wp2_with fail
  refine (verbs_any rb _).mono ?_
  rintro e w1 ⟨rfl, rfl⟩
  go_wp2_with fail
  refine (hword _ ((h.below ((Below.refl _ _).alloc (Nat.le_refl _) _)).below ((Below.refl _ _).alloc (Nat.le_refl _) _))).mono ?_
  rintro e w2 ⟨rfl, s2, k2⟩
  have kw2 : Kp (· = rb) w w2 := (((Kp.refl _ _).alloc _).alloc _).trans k2
  have hb2 : w2.heap[w.heap.size + 1]? = some (.map (vE rb 13) 13) := by
    rw [k2.block _ (by simp) (by show ¬ _ = rb; omega), ← World.size_alloc w]; exact heap_alloc_new _ _
  have hl2 := run_lookup_no w2 (w.heap.size + 1) (vE rb 13) 13 s hb2 hfn
  clear hb2 hfn
  go_wp2
  exact ⟨rfl, COut2.no HO.out ⟨rfl, kw2.alloc _⟩⟩

/-- The reader reads a call. -/
theorem call_any (rb wb : Nat) (ws : List Pa.Bs) (w : World) (ok : Ok w) (h : StR rb wb ws w) : Calls Tryz.prog 61 #[.pointer (some ⟨rb, 0, none⟩)] w (COut2 rb wb (Pa.rdCall ws) w) := by
  cases ws with
  | nil => exact call_none rb wb w h
  | cons x r =>
    by_cases n0 : x = Pa.w_socket
    · subst n0; exact call_socket rb wb r w ok h
    by_cases n1 : x = Pa.w_bind
    · subst n1; exact call_bind rb wb r w ok h
    by_cases n2 : x = Pa.w_listen
    · subst n2; exact call_listen rb wb r w ok h
    by_cases n3 : x = Pa.w_connect
    · subst n3; exact call_connect rb wb r w ok h
    by_cases n4 : x = Pa.w_accept
    · subst n4; exact call_accept rb wb r w ok h
    by_cases n5 : x = Pa.w_shut
    · subst n5; exact call_shut rb wb r w ok h
    by_cases n6 : x = Pa.w_close
    · subst n6; exact call_close rb wb r w ok h
    by_cases n7 : x = Pa.w_recvfrom
    · subst n7; exact call_recvfrom rb wb r w ok h
    by_cases n8 : x = Pa.w_send
    · subst n8; exact call_send rb wb r w ok h
    by_cases n9 : x = Pa.w_recv
    · subst n9; exact call_recv rb wb r w ok h
    by_cases n10 : x = Pa.w_sendto
    · subst n10; exact call_sendto rb wb r w ok h
    by_cases n11 : x = Pa.w_name
    · subst n11; exact call_name rb wb r w ok h
    by_cases n12 : x = Pa.w_ping
    · subst n12; exact call_ping rb wb r w ok h
    exact call_other rb wb x r w h n0 n1 n2 n3 n4 n5 n6 n7 n8 n9 n10 n11 n12

end Go.Proofs.YtgajoiijebbagaaGreatDoor
