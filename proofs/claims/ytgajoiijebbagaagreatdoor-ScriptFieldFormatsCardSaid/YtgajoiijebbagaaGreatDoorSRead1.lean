/-
  The walks of script's reader: word, number. Each says what it reads, or that it panics, and that outside the reader's own variable nothing that was there has changed. Conditions: the words lie in memory.
-/
import Derived.Test.YtgajoiijebbagaaGreatDoorSKeep
namespace Go.Proofs.YtgajoiijebbagaaGreatDoor
open Go.RowKit Go.Proofs

/-- The panic of a reader. -/
abbrev badP : List PanicEntry := [{ v := .iface 89 (.agg #[]), recovered := false }]

/-- The reader at block rb holds these words, which lie in block wb. -/
def StR (rb wb : Nat) (ws : List Pa.Bs) (w : World) : Prop :=
  wb ≠ rb ∧ rb < w.heap.size ∧ wb < w.heap.size ∧ 4 ≤ rb ∧ w.frozen? ⟨rb, 0, none⟩ = false ∧
  ∃ o c, w.cell? ⟨rb, 0, none⟩ = some (.slice (some ⟨wb, o, none⟩) ws.length c) ∧ ws.length ≤ c ∧ (ws.length ≤ 1000000 ∧ ∀ x ∈ ws, x.length ≤ 1000000) ∧ ∀ (j : Nat) (h : j < ws.length), w.cell? ⟨wb, o + j, none⟩ = some (.string ⟨ws[j].toArray⟩)

theorem StR.kept {rb wb : Nat} {ws : List Pa.Bs} {w w' : World} {S : Nat → Prop} (h : StR rb wb ws w) (hk : Kp S w w') (h1 : ¬ S rb) (h2 : ¬ S wb) : StR rb wb ws w' := by
  obtain ⟨a1, a2, a3, a4, a5, o, c, a6, a7, a8, a9⟩ := h
  exact ⟨a1, Nat.lt_of_lt_of_le a2 hk.size, Nat.lt_of_lt_of_le a3 hk.size, a4, by rw [hk.frozen a2 h1, a5], o, c, by rw [hk.cell a2 h1, a6], a7, a8, fun j hj => by rw [hk.cell a3 h2, a9 j hj]⟩
theorem StR.below {rb wb : Nat} {ws : List Pa.Bs} {w w' : World} (h : StR rb wb ws w) (hk : Below w.heap.size w w') : StR rb wb ws w' := h.kept (S := fun _ => False) (.of_below hk) id id

theorem Kp.set (w : World) (b o : Nat) (v : Value) : Kp (· = b) w (w.setCell ⟨b, o, none⟩ v) := Kp.setCell (S := (· = b)) (Kp.refl _ _) (p := ⟨b, o, none⟩) (Or.inl (show b = b from rfl)) v

theorem StR.set {rb wb : Nat} {x : Pa.Bs} {ws : List Pa.Bs} {w : World} (o' c' : Nat) (h : StR rb wb (x :: ws) w) (hl : ws.length ≤ c') (hc : ∀ (j : Nat) (h : j < ws.length), w.cell? ⟨wb, o' + j, none⟩ = some (.string ⟨ws[j].toArray⟩)) :
    StR rb wb ws (w.setCell ⟨rb, 0, none⟩ (.slice (some ⟨wb, o', none⟩) ws.length c')) := by
  obtain ⟨a1, a2, a3, a4, a5, o, c, a6, a7, a8, a9⟩ := h
  have hk := Kp.set w rb 0 (.slice (some ⟨wb, o', none⟩) ws.length c')
  exact ⟨a1, by simpa [World.setCell] using a2, by simpa [World.setCell] using a3, a4, by rw [World.frozen?_setCell]; exact a5, o', c', World.cell?_setCell_same' _ _ _ (by rw [a6]; rfl), hl, ⟨by have := a8.1; simp at this; omega, fun y hy => a8.2 y (by simp [hy])⟩, fun j hj => by rw [hk.cell a3 a1]; exact hc j hj⟩

/-- The reader reads a word. -/
theorem word_some (rb wb : Nat) (x : Pa.Bs) (ws : List Pa.Bs) (w : World) (h : StR rb wb (x :: ws) w) :
    Calls Tryz.prog 59 #[.pointer (some ⟨rb, 0, none⟩)] w fun e w' => e = .returned (.string ⟨x.toArray⟩) ∧ StR rb wb ws w' ∧ Kp (· = rb) w w' := by
  have H := Lib.hid h
  obtain ⟨a1, a2, a3, a4, a5, o, c, a6, a7, ⟨a8, -⟩, a9⟩ := h
  have c0 : w.cell? ⟨wb, o, none⟩ = some (.string ⟨x.toArray⟩) := a9 0 (by simp)
  have HA := Lib.hid a9; clear a9
  simp only [List.length_cons] at a6 a7 a8
  have h0 : ((ws.length : Int) + 1 == 0) = false := by rw [beq_eq_false_iff_ne]; omega
  by_cases h1 : c = 1
  · subst h1
    obtain rfl : ws = [] := List.length_eq_zero_iff.1 (by omega)
    go_enter Tryz.func59, Tryz.ntmps59
    go_wp2
    go_ret
    exact ⟨rfl, H.out.set o 0 (by simp) (fun j hj => by simp at hj), Kp.set w rb 0 _⟩
  · go_enter Tryz.func59, Tryz.ntmps59
    go_wp2
    go_ret
    exact ⟨rfl, H.out.set (o + 1) (c - 1) (by omega) (fun j hj => by rw [Nat.add_assoc, Nat.add_comm 1 j]; exact HA.out (j + 1) (by simp; omega)), Kp.set w rb 0 _⟩

theorem word_none (rb wb : Nat) (w : World) (h : StR rb wb [] w) :
    Calls Tryz.prog 59 #[.pointer (some ⟨rb, 0, none⟩)] w fun e w' => e = .panicked badP ∧ Kp (· = rb) w w' := by
  obtain ⟨a1, a2, a3, a4, a5, o, c, a6, a7, ⟨a8, -⟩, a9⟩ := h
  clear a9
  go_enter Tryz.func59, Tryz.ntmps59
  go_wp2
  exact ⟨rfl, rfl, Kp.refl _ _⟩

theorem atoi_below {w w' : World} (h : w' = w ∨ ∃ t, w' = Lib.bytesWorld w 5 t) : Below w.heap.size w w' := by
  rcases h with rfl | ⟨t, rfl⟩
  · exact Below.refl _ _
  · exact Lib.bytesWorld_below _ _ _

/-- strconv.Atoi. -/
theorem atoi_ok (x : Pa.Bs) (n : Int) (w : World) (hx : x.length ≤ 1000000) (h : Lib.atoiAll x = .ok n) :
    Calls Tryz.prog 78 #[.string ⟨x.toArray⟩] w fun e w' => e = .returned (.tuple #[.int .i64 n, .nilIface]) ∧ Below w.heap.size w w' :=
  (Tryz.strconv_Atoi_ok ⟨x.toArray⟩ (by show x.toArray.size ≤ _; simp; omega) n (by simpa using h) w).mono fun _ _ ⟨h1, h2⟩ => ⟨h1, atoi_below h2⟩
theorem atoi_bad (x : Pa.Bs) (w : World) (ok : Ok w) (hx : x.length ≤ 1000000) (h : ∀ n, Lib.atoiAll x ≠ .ok n) :
    Calls Tryz.prog 78 #[.string ⟨x.toArray⟩] w fun e w' => (∃ n N, e = .returned (.tuple #[.int .i64 n, .iface 138 (.pointer (some ⟨N, 0, none⟩))])) ∧ Below w.heap.size w w' := by
  have hs : (⟨x.toArray⟩ : ByteArray).size ≤ 281474976710656 := by show x.toArray.size ≤ _; simp; omega
  obtain ⟨_, _, _, ⟨t4, p4, h4⟩, t5, p5, h5⟩ := ok
  cases ha : Lib.atoiAll x with
  | ok n => exact absurd ha (h n)
  | «syntax» => exact (Tryz.strconv_Atoi_syntax ⟨x.toArray⟩ hs (by simpa using ha) _ w h4 (.inr ⟨_, _, rfl⟩)).mono fun _ _ ⟨N, h1, _, _, h2⟩ => ⟨⟨_, N, h1⟩, h2⟩
  | range => exact (Tryz.strconv_Atoi_range ⟨x.toArray⟩ hs (by simpa using ha) _ w h5 (.inr ⟨_, _, rfl⟩)).mono fun _ _ ⟨N, h1, _, _, h2⟩ => ⟨⟨_, N, h1⟩, h2⟩

theorem StR.len {rb wb : Nat} {x : Pa.Bs} {ws : List Pa.Bs} {w : World} (h : StR rb wb (x :: ws) w) : x.length ≤ 1000000 := by
  obtain ⟨_, _, _, _, _, _, _, _, _, ⟨_, h⟩, _⟩ := h
  exact h x (by simp)
theorem StR.rb4 {rb wb : Nat} {ws : List Pa.Bs} {w : World} (h : StR rb wb ws w) : 4 ≤ rb := h.2.2.2.1
theorem StR.rbl {rb wb : Nat} {ws : List Pa.Bs} {w : World} (h : StR rb wb ws w) : rb < w.heap.size := h.2.1
theorem StR.wbl {rb wb : Nat} {ws : List Pa.Bs} {w : World} (h : StR rb wb ws w) : wb < w.heap.size := h.2.2.1
theorem StR.ne {rb wb : Nat} {ws : List Pa.Bs} {w : World} (h : StR rb wb ws w) : wb ≠ rb := h.1
theorem Ok.kp {S : Nat → Prop} {w w' : World} (ok : Ok w) (h : Kp S w w') (hs : ∀ k, k < 4 → ¬ S k) : Ok w' := ok.kept (h.below ok.1 hs)

theorem rnum_some (rb wb : Nat) (x : Pa.Bs) (n : Int) (ws : List Pa.Bs) (w : World) (h : StR rb wb (x :: ws) w) (ha : Lib.atoiAll x = .ok n) :
    Calls Tryz.prog 60 #[.pointer (some ⟨rb, 0, none⟩)] w fun e w' => e = .returned (.int .i64 n) ∧ StR rb wb ws w' ∧ Kp (· = rb) w w' := by
  have HA := Lib.hid ha; clear ha
  go_enter Tryz.func60, Tryz.ntmps60
  go_wp2_with (first | (go_at_call 59; refine (word_some rb wb x ws _ h).mono ?_; rintro e w1 ⟨rfl, h1, k1⟩) | (go_at_call 78; refine (atoi_ok x n _ h.len HA.out).mono ?_; rintro e w2 ⟨rfl, k2⟩))
  go_ret
  exact ⟨rfl, h1.below k2, k1.on k2⟩

theorem rnum_bad (rb wb : Nat) (x : Pa.Bs) (ws : List Pa.Bs) (w : World) (ok : Ok w) (h : StR rb wb (x :: ws) w) (ha : ∀ n, Lib.atoiAll x ≠ .ok n) :
    Calls Tryz.prog 60 #[.pointer (some ⟨rb, 0, none⟩)] w fun e w' => e = .panicked badP ∧ Kp (· = rb) w w' := by
  have HA := Lib.hid ha; clear ha
  have hr4 := h.rb4
  go_enter Tryz.func60, Tryz.ntmps60
  go_wp2_with (first | (go_at_call 59; refine (word_some rb wb x ws _ h).mono ?_; rintro e w1 ⟨rfl, h1, k1⟩) | (go_at_call 78; refine (atoi_bad x _ (ok.kp k1 (by intro k hk; show ¬ k = rb; omega)) h.len HA.out).mono ?_; rintro e w2 ⟨⟨n, N, rfl⟩, k2⟩))
  exact ⟨rfl, rfl, k1.on k2⟩

theorem rnum_none (rb wb : Nat) (w : World) (h : StR rb wb [] w) :
    Calls Tryz.prog 60 #[.pointer (some ⟨rb, 0, none⟩)] w fun e w' => e = .panicked badP ∧ Kp (· = rb) w w' := by
  go_enter Tryz.func60, Tryz.ntmps60
  go_wp2_with (go_at_call 59; refine (word_none rb wb _ h).mono ?_; rintro e w1 ⟨rfl, k1⟩)
  exact ⟨rfl, rfl, k1⟩

theorem Pa.rdNum_some {ws : List Pa.Bs} {n : Int} {r : List Pa.Bs} (h : Pa.rdNum ws = some (n, r)) : ∃ x, ws = x :: r ∧ Lib.atoiAll x = .ok n := by
  cases ws with
  | nil => simp [Pa.rdNum, Pa.rdWord] at h
  | cons x t =>
    simp only [Pa.rdNum, Pa.rdWord, Option.bind_some] at h
    split at h
    · rename_i v hv; cases h; exact ⟨x, rfl, hv⟩
    · cases h
theorem Pa.rdNum_none {x : Pa.Bs} {r : List Pa.Bs} (h : Pa.rdNum (x :: r) = none) : ∀ n, Lib.atoiAll x ≠ .ok n := by
  intro n hn
  simp [Pa.rdNum, Pa.rdWord, hn] at h

/-- The reader reads a number. -/
theorem rnum_yes (rb wb : Nat) (ws : List Pa.Bs) (n : Int) (r : List Pa.Bs) (w : World) (h : StR rb wb ws w) (hr : Pa.rdNum ws = some (n, r)) :
    Calls Tryz.prog 60 #[.pointer (some ⟨rb, 0, none⟩)] w fun e w' => e = .returned (.int .i64 n) ∧ StR rb wb r w' ∧ Kp (· = rb) w w' := by
  obtain ⟨x, rfl, ha⟩ := Pa.rdNum_some hr
  exact rnum_some rb wb x n r w h ha
theorem rnum_no (rb wb : Nat) (ws : List Pa.Bs) (w : World) (ok : Ok w) (h : StR rb wb ws w) (hr : Pa.rdNum ws = none) :
    Calls Tryz.prog 60 #[.pointer (some ⟨rb, 0, none⟩)] w fun e w' => e = .panicked badP ∧ Kp (· = rb) w w' := by
  cases ws with
  | nil => exact rnum_none rb wb w h
  | cons x t => exact rnum_bad rb wb x t w ok h (Pa.rdNum_none hr)

end Go.Proofs.YtgajoiijebbagaaGreatDoor
