/-
  The walks of the script reader's methods. Conditions: the reader's block holds the words.
-/
import Derived.Test.YtgajoiijebbagaaGreatDoorWc
import Derived.Test.YtgajoiijebbagaaGreatDoorWb
import Derived.IntWalk
import Derived.Carry
/-! The walks of script's reader: word, number. Each says what it reads, or that it panics, and that outside the reader's own variable nothing that was there has changed. Conditions: the words lie in memory. -/
namespace Go.Proofs.YtgajoiijebbagaaGreatDoor
open Go.RowKit Go.Proofs

/-- The panic of a reader. -/
abbrev badP : List PanicEntry := [{ v := .iface 89 (.agg #[]), recovered := false }]

/-- The reader at block rb holds these words, which lie in block wb. -/
def StR (rb wb : Nat) (ws : List Pa.Bs) (w : World) : Prop :=
  wb ≠ rb ∧ rb < w.heap.size ∧ wb < w.heap.size ∧ 4 ≤ rb ∧ w.frozen? ⟨rb, 0, none⟩ = false ∧
  ∃ o c, w.cell? ⟨rb, 0, none⟩ = some (.slice (some ⟨wb, o, none⟩) ws.length c) ∧ ws.length ≤ c ∧ (ws.length ≤ 1000000 ∧ ∀ x ∈ ws, x.length ≤ 1000000) ∧ ∀ (j : Nat) (h : j < ws.length), w.cell? ⟨wb, o + j, none⟩ = some (.string ⟨ws[j].toArray⟩)

theorem StR.kept {rb wb : Nat} {ws : List Pa.Bs} {w w' : World} {S : Nat → Prop} (h : StR rb wb ws w) (hk : Kp S w w') (h1 : ¬ S rb) (h2 : ¬ S wb) : StR rb wb ws w' := by
  obtain ⟨a1, a2, a3, a4, a5, o, c, a6, a7, a8, a9⟩ := h
  exact ⟨a1, Nat.lt_of_lt_of_le a2 hk.size, Nat.lt_of_lt_of_le a3 hk.size, a4, by rw [hk.frozen a2 h1, a5], o, c, by rw [hk.cell a2 h1, a6], a7, a8, fun j hj => by rw [hk.cell a3 h2, a9 j hj]⟩
theorem StR.below {rb wb : Nat} {ws : List Pa.Bs} {w w' : World} (h : StR rb wb ws w) (hk : Below w.heap.size w w') : StR rb wb ws w' := h.kept (S := fun _ => False) (.of_below hk) id id

theorem Kp.set (w : World) (b o : Nat) (v : Value) : Kp (· = b) w (w.setCell ⟨b, o, none⟩ v) := Kp.setCell (S := (· = b)) (Kp.refl _ _) (p := ⟨b, o, none⟩) (Or.inl (show b = b from rfl)) v

theorem StR.set {rb wb : Nat} {x : Pa.Bs} {ws : List Pa.Bs} {w : World} (o' c' : Nat) (h : StR rb wb (x :: ws) w) (hl : ws.length ≤ c') (hc : ∀ (j : Nat) (h : j < ws.length), w.cell? ⟨wb, o' + j, none⟩ = some (.string ⟨ws[j].toArray⟩)) :
    StR rb wb ws (w.setCell ⟨rb, 0, none⟩ (.slice (some ⟨wb, o', none⟩) ws.length c')) := by
  obtain ⟨a1, a2, a3, a4, a5, o, c, a6, a7, a8, a9⟩ := h
  have hk := Kp.set w rb 0 (.slice (some ⟨wb, o', none⟩) ws.length c')
  exact ⟨a1, by simpa [World.setCell] using a2, by simpa [World.setCell] using a3, a4, by rw [World.frozen?_setCell]; exact a5, o', c', World.cell?_setCell_same' _ _ _ (by rw [a6]; rfl), hl, ⟨by have := a8.1; simp at this; omega, fun y hy => a8.2 y (by simp [hy])⟩, fun j hj => by rw [hk.cell a3 a1]; exact hc j hj⟩

/-- The reader reads a word. -/
theorem word_some (rb wb : Nat) (x : Pa.Bs) (ws : List Pa.Bs) (w : World) (h : StR rb wb (x :: ws) w) :
    Calls Tryz.prog 59 #[.pointer (some ⟨rb, 0, none⟩)] w fun e w' => e = .returned (.string ⟨x.toArray⟩) ∧ StR rb wb ws w' ∧ Kp (· = rb) w w' := by
  have H := Lib.hid h
  obtain ⟨a1, a2, a3, a4, a5, o, c, a6, a7, ⟨a8, -⟩, a9⟩ := h
  have c0 : w.cell? ⟨wb, o, none⟩ = some (.string ⟨x.toArray⟩) := a9 0 (by simp)
  have HA := Lib.hid a9; clear a9
  simp only [List.length_cons] at a6 a7 a8
  have h0 : ((ws.length : Int) + 1 == 0) = false := by rw [beq_eq_false_iff_ne]; omega
  by_cases h1 : c = 1
  · subst h1
    obtain rfl : ws = [] := List.length_eq_zero_iff.1 (by omega)
    go_enter Tryz.func59, Tryz.ntmps59
    go_wp2
    go_ret
    exact ⟨rfl, H.out.set o 0 (by simp) (fun j hj => by simp at hj), Kp.set w rb 0 _⟩
  · go_enter Tryz.func59, Tryz.ntmps59
    go_wp2
    go_ret
    exact ⟨rfl, H.out.set (o + 1) (c - 1) (by omega) (fun j hj => by rw [Nat.add_assoc, Nat.add_comm 1 j]; exact HA.out (j + 1) (by simp; omega)), Kp.set w rb 0 _⟩

theorem word_none (rb wb : Nat) (w : World) (h : StR rb wb [] w) :
    Calls Tryz.prog 59 #[.pointer (some ⟨rb, 0, none⟩)] w fun e w' => e = .panicked badP ∧ Kp (· = rb) w w' := by
  obtain ⟨a1, a2, a3, a4, a5, o, c, a6, a7, ⟨a8, -⟩, a9⟩ := h
  clear a9
  go_enter Tryz.func59, Tryz.ntmps59
  go_wp2
  exact ⟨rfl, rfl, Kp.refl _ _⟩

theorem atoi_below {w w' : World} (h : w' = w ∨ ∃ t, w' = Lib.bytesWorld w 5 t) : Below w.heap.size w w' := by
  rcases h with rfl | ⟨t, rfl⟩
  · exact Below.refl _ _
  · exact Lib.bytesWorld_below _ _ _

/-- strconv.Atoi. -/
theorem atoi_ok (x : Pa.Bs) (n : Int) (w : World) (hx : x.length ≤ 1000000) (h : Lib.atoiAll x = .ok n) :
    Calls Tryz.prog 78 #[.string ⟨x.toArray⟩] w fun e w' => e = .returned (.tuple #[.int .i64 n, .nilIface]) ∧ Below w.heap.size w w' :=
  (Tryz.strconv_Atoi_ok ⟨x.toArray⟩ (by show x.toArray.size ≤ _; simp; omega) n (by simpa using h) w).mono fun _ _ ⟨h1, h2⟩ => ⟨h1, atoi_below h2⟩
theorem atoi_bad (x : Pa.Bs) (w : World) (ok : Ok w) (hx : x.length ≤ 1000000) (h : ∀ n, Lib.atoiAll x ≠ .ok n) :
    Calls Tryz.prog 78 #[.string ⟨x.toArray⟩] w fun e w' => (∃ n N, e = .returned (.tuple #[.int .i64 n, .iface 138 (.pointer (some ⟨N, 0, none⟩))])) ∧ Below w.heap.size w w' := by
  have hs : (⟨x.toArray⟩ : ByteArray).size ≤ 281474976710656 := by show x.toArray.size ≤ _; simp; omega
  obtain ⟨_, _, _, ⟨t4, p4, h4⟩, t5, p5, h5⟩ := ok
  rcases ha : Lib.atoiAll x with n | _ | _
  · exact absurd ha (h n)
  · exact (Tryz.strconv_Atoi_syntax ⟨x.toArray⟩ hs (show Lib.atoiAll x = Lib.atoiAll [] from ha) _ w h4 (.inr ⟨_, _, rfl⟩)).mono fun _ _ ⟨N, h1, _, _, h2⟩ => ⟨⟨_, N, h1⟩, h2⟩
  · exact (Tryz.strconv_Atoi_range ⟨x.toArray⟩ hs (by simpa using ha) _ w h5 (.inr ⟨_, _, rfl⟩)).mono fun _ _ ⟨N, h1, _, _, h2⟩ => ⟨⟨_, N, h1⟩, h2⟩

theorem StR.len {rb wb : Nat} {x : Pa.Bs} {ws : List Pa.Bs} {w : World} (h : StR rb wb (x :: ws) w) : x.length ≤ 1000000 := by
  obtain ⟨_, _, _, _, _, _, _, _, _, ⟨_, h⟩, _⟩ := h
  exact h x (by simp)
theorem StR.rb4 {rb wb : Nat} {ws : List Pa.Bs} {w : World} (h : StR rb wb ws w) : 4 ≤ rb := h.2.2.2.1
theorem StR.rbl {rb wb : Nat} {ws : List Pa.Bs} {w : World} (h : StR rb wb ws w) : rb < w.heap.size := h.2.1
theorem StR.wbl {rb wb : Nat} {ws : List Pa.Bs} {w : World} (h : StR rb wb ws w) : wb < w.heap.size := h.2.2.1
theorem StR.ne {rb wb : Nat} {ws : List Pa.Bs} {w : World} (h : StR rb wb ws w) : wb ≠ rb := h.1
theorem Ok.kp {S : Nat → Prop} {w w' : World} (ok : Ok w) (h : Kp S w w') (hs : ∀ k, k < 4 → ¬ S k) : Ok w' := ok.kept (h.below ok.1 hs)

theorem rnum_some (rb wb : Nat) (x : Pa.Bs) (n : Int) (ws : List Pa.Bs) (w : World) (h : StR rb wb (x :: ws) w) (ha : Lib.atoiAll x = .ok n) :
    Calls Tryz.prog 60 #[.pointer (some ⟨rb, 0, none⟩)] w fun e w' => e = .returned (.int .i64 n) ∧ StR rb wb ws w' ∧ Kp (· = rb) w w' := by
  have HA := Lib.hid ha; clear ha
  go_enter Tryz.func60, Tryz.ntmps60
  go_wp2_with (first | (go_at_call 59; refine (word_some rb wb x ws _ h).mono ?_; rintro e w1 ⟨rfl, h1, k1⟩) | (go_at_call 78; refine (atoi_ok x n _ h.len HA.out).mono ?_; rintro e w2 ⟨rfl, k2⟩))
  go_ret
  exact ⟨rfl, h1.below k2, k1.on k2⟩

theorem rnum_bad (rb wb : Nat) (x : Pa.Bs) (ws : List Pa.Bs) (w : World) (ok : Ok w) (h : StR rb wb (x :: ws) w) (ha : ∀ n, Lib.atoiAll x ≠ .ok n) :
    Calls Tryz.prog 60 #[.pointer (some ⟨rb, 0, none⟩)] w fun e w' => e = .panicked badP ∧ Kp (· = rb) w w' := by
  have HA := Lib.hid ha; clear ha
  have hr4 := h.rb4
  go_enter Tryz.func60, Tryz.ntmps60
  go_wp2_with (first | (go_at_call 59; refine (word_some rb wb x ws _ h).mono ?_; rintro e w1 ⟨rfl, h1, k1⟩) | (go_at_call 78; refine (atoi_bad x _ (ok.kp k1 (by intro k hk; show ¬ k = rb; omega)) h.len HA.out).mono ?_; rintro e w2 ⟨⟨n, N, rfl⟩, k2⟩))
  exact ⟨rfl, rfl, k1.on k2⟩

theorem rnum_none (rb wb : Nat) (w : World) (h : StR rb wb [] w) :
    Calls Tryz.prog 60 #[.pointer (some ⟨rb, 0, none⟩)] w fun e w' => e = .panicked badP ∧ Kp (· = rb) w w' := by
  go_enter Tryz.func60, Tryz.ntmps60
  go_wp2_with (go_at_call 59; refine (word_none rb wb _ h).mono ?_; rintro e w1 ⟨rfl, k1⟩)
  exact ⟨rfl, rfl, k1⟩

theorem Pa.rdNum_some {ws : List Pa.Bs} {n : Int} {r : List Pa.Bs} (h : Pa.rdNum ws = some (n, r)) : ∃ x, ws = x :: r ∧ Lib.atoiAll x = .ok n := by
  cases ws with
  | nil => simp [Pa.rdNum, Pa.rdWord] at h
  | cons x t =>
    simp only [Pa.rdNum, Pa.rdWord, Option.bind_some] at h
    split at h
    · rename_i v hv; cases h; exact ⟨x, rfl, hv⟩
    · cases h
theorem Pa.rdNum_none {x : Pa.Bs} {r : List Pa.Bs} (h : Pa.rdNum (x :: r) = none) : ∀ n, Lib.atoiAll x ≠ .ok n := by
  intro n hn
  simp [Pa.rdNum, Pa.rdWord, hn] at h

/-- The reader reads a number. -/
theorem rnum_yes (rb wb : Nat) (ws : List Pa.Bs) (n : Int) (r : List Pa.Bs) (w : World) (h : StR rb wb ws w) (hr : Pa.rdNum ws = some (n, r)) :
    Calls Tryz.prog 60 #[.pointer (some ⟨rb, 0, none⟩)] w fun e w' => e = .returned (.int .i64 n) ∧ StR rb wb r w' ∧ Kp (· = rb) w w' := by
  obtain ⟨x, rfl, ha⟩ := Pa.rdNum_some hr
  exact rnum_some rb wb x n r w h ha
theorem rnum_no (rb wb : Nat) (ws : List Pa.Bs) (w : World) (ok : Ok w) (h : StR rb wb ws w) (hr : Pa.rdNum ws = none) :
    Calls Tryz.prog 60 #[.pointer (some ⟨rb, 0, none⟩)] w fun e w' => e = .panicked badP ∧ Kp (· = rb) w w' := by
  cases ws with
  | nil => exact rnum_none rb wb w h
  | cons x t => exact rnum_bad rb wb x t w ok h (Pa.rdNum_none hr)

end Go.Proofs.YtgajoiijebbagaaGreatDoor

/-! The walk of script's reader: bytes. Conditions: the words lie in memory. -/
namespace Go.Proofs.YtgajoiijebbagaaGreatDoor
open Go.RowKit Go.Proofs

def Pa.hexI (c : UInt8) : Int := match Pa.unhexd c with | some n => n | none => -1
theorem hexI_eq (c : UInt8) : Lib.indexByte hexD.data.toList (c.toNat : Int).toNat.toUInt8 = Pa.hexI c := by
  have h : ∀ n : Fin 256, Lib.indexByte hexD.data.toList ((n.val : Int).toNat.toUInt8) = Pa.hexI (UInt8.ofNat n.val) := by decide +kernel
  have := h ⟨c.toNat, c.toNat_lt⟩
  simpa using this
theorem indexByte_hex (c : UInt8) (w : World) : Calls Tryz.prog 80 #[.string hexD, .int .u8 (c.toNat : Int)] w fun e w' => e = .returned (.int .i64 (Pa.hexI c)) ∧ w' = w := by
  have := Tryz.strings_IndexByte hexD (c.toNat : Int) w
  rw [hexI_eq] at this
  exact this
theorem hexI_some {c : UInt8} {n : Nat} (h : Pa.unhexd c = some n) : Pa.hexI c = n := by unfold Pa.hexI; rw [h]
theorem hexI_none {c : UInt8} (h : Pa.unhexd c = none) : Pa.hexI c = -1 := by unfold Pa.hexI; rw [h]
theorem unhexd_lt {c : UInt8} {n : Nat} (h : Pa.unhexd c = some n) : n < 16 := by
  unfold Pa.unhexd at h
  split at h
  · cases h; omega
  · split at h
    · cases h; omega
    · cases h
theorem orB (x y : Nat) (hx : x < 16) (hy : y < 16) : bits .or .i64 ((x : Int) * 16) (y : Int) % 256 = ((UInt8.ofNat (16 * x + y)).toNat : Int) := by
  have h : ∀ a b : Fin 16, bits .or .i64 ((a.val : Int) * 16) (b.val : Int) % 256 = ((UInt8.ofNat (16 * a.val + b.val)).toNat : Int) := by decide +kernel
  exact h ⟨x, hx⟩ ⟨y, hy⟩

theorem Pa.unhexs_two {a b : UInt8} {r : Pa.Bs} {x y : Nat} (ha : Pa.unhexd a = some x) (hb : Pa.unhexd b = some y) : Pa.unhexs (a :: b :: r) = (Pa.unhexs r).map fun t => UInt8.ofNat (16 * x + y) :: t := by
  rw [Pa.unhexs, ha, hb]; cases Pa.unhexs r <;> rfl
theorem Pa.unhexs_bad {a b : UInt8} {r : Pa.Bs} (h : Pa.unhexd a = none ∨ Pa.unhexd b = none) : Pa.unhexs (a :: b :: r) = none := by
  rw [Pa.unhexs]
  rcases h with h | h <;> rw [h]
  cases Pa.unhexd a <;> rfl
theorem Pa.drop_two {x : Pa.Bs} {k : Nat} (h : 2 * k + 1 < x.length) : x.drop (2 * k) = x[2 * k] :: x[2 * k + 1] :: x.drop (2 * (k + 1)) := by
  rw [List.drop_eq_getElem_cons (by omega), List.drop_eq_getElem_cons h]; rfl
theorem Pa.unhexs_odd : ∀ x : Pa.Bs, x.length % 2 ≠ 0 → Pa.unhexs x = none
  | [], h => by simp at h
  | [_], _ => by simp [Pa.unhexs]
  | a :: b :: r, h => by
    rw [Pa.unhexs, Pa.unhexs_odd r (by simp at h; omega)]
    cases Pa.unhexd a <;> cases Pa.unhexd b <;> rfl

/-- What the loop has behind k rounds. -/
def BRel (x : Pa.Bs) (k : Nat) (pre : Pa.Bs) : Prop := pre.length = k ∧ Pa.unhexs x = (Pa.unhexs (x.drop (2 * k))).map fun t => pre ++ t
theorem BRel.next {x : Pa.Bs} {k : Nat} {pre : Pa.Bs} (h : BRel x k pre) (hk : 2 * k + 1 < x.length) {m n : Nat} (ha : Pa.unhexd x[2 * k] = some m) (hb : Pa.unhexd x[2 * k + 1] = some n) : BRel x (k + 1) (pre ++ [UInt8.ofNat (16 * m + n)]) := by
  refine ⟨by simp [h.1], ?_⟩
  rw [h.2, Pa.drop_two hk, Pa.unhexs_two ha hb]
  cases Pa.unhexs (x.drop (2 * (k + 1))) <;> simp
theorem BRel.bad {x : Pa.Bs} {k : Nat} {pre : Pa.Bs} (h : BRel x k pre) (hk : 2 * k + 1 < x.length) (hb : Pa.unhexd x[2 * k] = none ∨ Pa.unhexd x[2 * k + 1] = none) : Pa.unhexs x = none := by
  rw [h.2, Pa.drop_two hk, Pa.unhexs_bad hb]; rfl
theorem BRel.done {x : Pa.Bs} {k : Nat} {pre : Pa.Bs} (h : BRel x k pre) (hk : x.length ≤ 2 * k) : Pa.unhexs x = some pre := by
  rw [h.2, List.drop_of_length_le hk]; simp [Pa.unhexs]

/-- The bytes of a word. -/
def BytesOut (rb wb : Nat) (x : Pa.Bs) (ws : List Pa.Bs) (w : World) (e : Ending) (w' : World) : Prop :=
  match Pa.unhexL x with
  | some b => e = .returned (.string ⟨b.toArray⟩) ∧ StR rb wb ws w' ∧ Kp (· = rb) w w'
  | none => e = .panicked badP ∧ Kp (· = rb) w w'
theorem BytesOut.yes {rb wb : Nat} {x b : Pa.Bs} {ws : List Pa.Bs} {w : World} {e : Ending} {w' : World} (h : Pa.unhexL x = some b) (h' : e = .returned (.string ⟨b.toArray⟩) ∧ StR rb wb ws w' ∧ Kp (· = rb) w w') : BytesOut rb wb x ws w e w' := by
  unfold BytesOut; rw [h]; exact h'
theorem BytesOut.no {rb wb : Nat} {x : Pa.Bs} {ws : List Pa.Bs} {w : World} {e : Ending} {w' : World} (h : Pa.unhexL x = none) (h' : e = .panicked badP ∧ Kp (· = rb) w w') : BytesOut rb wb x ws w e w' := by
  unfold BytesOut; rw [h]; exact h'

theorem str_eq_mk (x y : Pa.Bs) : ((⟨x.toArray⟩ : ByteArray).toList == (⟨y.toArray⟩ : ByteArray).toList) = decide (x = y) := by
  rw [bytes_beq]; by_cases h : x = y <;> simp [h]

theorem owns_lt {u : World} {base : Nat} {e : TypeId} {size n : Nat} {v : Value} {xs : List Value} (h : u.ownsRow base e size v n xs) {g : Nat} (hg : v.ownBlock = some g) : g < u.heap.size := by
  rcases h.2 with ⟨rfl, _⟩ | ⟨g', cap, cur, rfl, _, h2, _⟩
  · cases hg
  · cases hg; exact (Array.getElem?_eq_some_iff.1 h2).1
theorem owns_base {u : World} {base : Nat} {e : TypeId} {size n : Nat} {v : Value} {xs : List Value} (h : u.ownsRow base e size v n xs) {g : Nat} (hg : v.ownBlock = some g) : base ≤ g := by
  rcases h.2 with ⟨rfl, _⟩ | ⟨g', cap, cur, rfl, h1, _⟩
  · cases hg
  · cases hg; exact h1
theorem bytes_own {w2 : World} {base : Nat} {v : Value} {k : Nat} {pre : Pa.Bs} {c : UInt8} (h : w2.ownsRow base 5 1 v (k + 1) (Lib.byteCells pre ++ [.int .u8 (c.toNat : Int)])) : w2.ownsRow base 5 1 v (k + 1) (Lib.byteCells (pre ++ [c])) := by
  simpa [Lib.byteCells] using h

set_option maxRecDepth 100000 in
set_option maxHeartbeats 1000000 in
theorem rbytes_word (rb wb : Nat) (x : Pa.Bs) (ws : List Pa.Bs) (w : World) (h : StR rb wb (x :: ws) w) :
    Calls Tryz.prog 62 #[.pointer (some ⟨rb, 0, none⟩)] w (BytesOut rb wb x ws w) := by
  have hl := h.len
  by_cases h45 : x = [45]
  · subst h45
    go_enter Tryz.func62, Tryz.ntmps62
    go_wp2_with (go_at_call 59; refine (word_some rb wb _ ws _ h).mono ?_; rintro e w1 ⟨rfl, h1, k1⟩)
    go_ret
    exact BytesOut.yes (b := []) rfl ⟨rfl, h1, k1⟩
  by_cases h0 : x = []
  · subst h0
    go_enter Tryz.func62, Tryz.ntmps62
    go_wp2_with (go_at_call 59; refine (word_some rb wb _ ws _ h).mono ?_; rintro e w1 ⟨rfl, h1, k1⟩)
    exact ⟨rfl, BytesOut.no rfl ⟨rfl, k1⟩⟩
  have hu : Pa.unhexL x = Pa.unhexs x := by unfold Pa.unhexL; rw [if_neg h45, if_neg h0]
  obtain ⟨s, hs⟩ : ∃ s : ByteArray, s = ⟨x.toArray⟩ := ⟨_, rfl⟩
  have hsl : s.toList = x := by rw [hs, ByteArray.toList_eq]
  have hsz : s.size = x.length := by rw [hs]; simp [ByteArray.size]
  have e1 : (s.toList == [45]) = false := by rw [hsl, beq_eq_false_iff_ne]; exact h45
  have e1' : ¬ s.toList = [45] := by rw [hsl]; exact h45
  have e2 : ¬ s.toList = [] := by rw [hsl]; exact h0
  have e3 : s.toList.isEmpty = false := by rw [hsl]; cases x with | nil => exact absurd rfl h0 | cons _ _ => rfl
  have hword := fun (w : World) (h : StR rb wb (x :: ws) w) => word_some rb wb x ws w h
  rw [← hs] at hword
  have HS := Lib.hid hs; clear hs
  have HSL := Lib.hid hsl; clear hsl
  have HU := Lib.hid hu; clear hu h45 h0
  by_cases hev : x.length % 2 = 0
  · have he : ((s.size : Int) % 2 != 0) = false := by rw [bne_eq_false_iff_eq]; omega
    have hl2 : s.size ≤ 1000000 := by omega
    have hbyte : ∀ (j : Nat) (h : j < s.size) (h' : j < x.length), x[j]'h' = s[j] := by
      have := HS.out; subst this; intro j h h'; rfl
    have HB := Lib.hid hbyte; clear hbyte
    obtain ⟨i0, hi, hz0, hz1, hz2⟩ := info_parts infoB
    have HZ := Lib.hid hsz; clear hsz
    have HE := Lib.hid hev; clear hev
    go_enter Tryz.func62, Tryz.ntmps62
    go_wp2_with (go_at_call 59; refine (hword _ h).mono ?_; rintro e w1 ⟨rfl, h1, k1⟩)
    go_loopw [4, 5] (fun v i wr => ∃ (k : Nat) (pre : Pa.Bs), 2 * k ≤ s.size ∧ i = .int .i64 (2 * (k : Int)) ∧ Hid (BRel x k pre) ∧ wr.ownsRow w1.heap.size 5 1 v k (Lib.byteCells pre) ∧ Below w1.heap.size w1 wr) (fun _ i _ => s.size - (intOf i).toNat)
    case atStart => exact ⟨0, [], by omega, rfl, ⟨rfl, by simp⟩, World.ownsRow_nil _ _ _ _, Below.refl _ _⟩
    case round =>
      obtain ⟨k, pre, hk, rfl, HR, hown, hB⟩ := hrel
      by_cases hlt : 2 * k < s.size
      · have hlt1 : 2 * k + 1 < s.size := by have := HE.out; have := HZ.out; omega
        have b1 : (0 : Int) ≤ 2 * (k : Int) := by omega
        have b2 : 2 * (k : Int) < (s.size : Int) := by omega
        have b3 : (0 : Int) ≤ 2 * (k : Int) + 1 := by omega
        have b4 : 2 * (k : Int) + 1 < (s.size : Int) := by omega
        have t1 : (2 * (k : Int)).toNat = 2 * k := by omega
        have t2 : (2 * (k : Int) + 1).toNat = 2 * k + 1 := by omega
        have wr1 : IntKind.i64.wrap (2 * (k : Int) + 1) = 2 * (k : Int) + 1 := IntWalk.i64_in _ (by omega)
        go_wp2
        go_quiet ((go_at_call 80; exact Calls.quiet_of_same (indexByte_hex _ _)))
        have e1x := HB.out (2 * k) hlt (by have := HZ.out; omega)
        have e2x := HB.out (2 * k + 1) hlt1 (by have := HZ.out; omega)
        have hkx : 2 * k + 1 < x.length := by have := HZ.out; omega
        clear wr1
        cases ha : Pa.unhexd s[2 * k] with
        | none =>
          have hx := hexI_none ha
          have HN := Lib.hid (BRel.bad HR.out hkx (.inl (by rw [e1x]; exact ha)))
          clear e1x e2x ha
          go_wp2
          exact ⟨rfl, BytesOut.no (HU.out.trans HN.out) ⟨rfl, k1.on (below_on hB (drewN_below _ _))⟩⟩
        | some m =>
          have hx := hexI_some ha
          have hm := unhexd_lt ha
          cases hb : Pa.unhexd s[2 * k + 1] with
          | none =>
            have hy := hexI_none hb
            have HN := Lib.hid (BRel.bad HR.out hkx (.inr (by rw [e2x]; exact hb)))
            clear e1x e2x ha hb
            go_wp2
            exact ⟨rfl, BytesOut.no (HU.out.trans HN.out) ⟨rfl, k1.on (below_on hB (drewN_below _ _))⟩⟩
          | some n =>
            have hy := hexI_some hb
            have hn := unhexd_lt hb
            have HN := Lib.hid (BRel.next HR.out hkx (by rw [e1x]; exact ha) (by rw [e2x]; exact hb))
            obtain ⟨c, hor, hc⟩ : ∃ c : UInt8, bits .or .i64 ((m : Int) * 16) (n : Int) % 256 = (c.toNat : Int) ∧ c = UInt8.ofNat (16 * m + n) := ⟨_, orB m n hm hn, rfl⟩
            rw [← hc] at HN
            clear e1x e2x ha hb hc HR
            have hkl : k + 1 ≤ 1000000 := by omega
            have hws := hB.size
            go_wp2_with (at_builtin; refine wpList_append_lies _ rfl (.tmp 45) (.tmp 51) 40 rfl w1.heap.size 5 i0 (.int .u8 0) 1 1 Tryz.underlying40 hi hz0 hz1 hz2 rfl (by decide) _ k _ rfl (owns_same hown (fun g hg => Below.heap_alloc _ _ g (owns_lt hown hg))) ⟨wr.heap.size, 0, none⟩ 1 1 [.int .u8 (c.toNat : Int)] rfl rfl (World.news_of_block (heap_alloc_new _ _)) (by simp [Value.oneCell']) (by omega) (by unfold maxLen; omega) (by omega) (by simp; omega) (wr.heap.size + 1) (by simp) ?_; intro g cap w2 hown2 hgrow hat hlt2)
            have hBn : Below w1.heap.size w1 w2 := (Below.alloc (w := wr.drewN nq) (hB.trans ((drewN_below wr nq).mono hws)) hws _).grown hgrow (by simp; omega) (fun j hj => owns_base hown hj)
            have HO := Lib.hid (bytes_own hown2)
            clear hgrow hat hown hown2
            go_roundw
            case rel => exact ⟨k + 1, pre ++ [c], by omega, by go_num, HN.out, HO.out, hBn⟩
            case measure => simp [intOf]; omega
      · have hd := BRel.done HR.out (by have := HZ.out; omega)
        have HD := Lib.hid (HU.out.trans hd); clear hd
        have hk0 : 0 < k := by
          rcases Nat.eq_zero_or_pos k with rfl | h'
          · exact absurd (HSL.out.symm ▸ List.length_eq_zero_iff.1 (by have := HZ.out; omega)) e2
          · exact h'
        obtain ⟨g, cap, rfl, _, _⟩ := hown.form hk0
        have hpl : pre.length = k := HR.out.1
        have hb := run_convert_bytes_back (P := Tryz.prog) wr 40 9 5 ⟨g, 0, none⟩ cap pre Tryz.underlying40 Tryz.underlying5 Tryz.underlying9 (fun j hj => hown.cells (g := g) rfl j _ (by simp [Lib.byteCells, hj]))
        rw [hpl] at hb
        clear hpl
        go_wp2
        go_ret
        exact BytesOut.yes HD.out ⟨rfl, h1.below hB, k1.on hB⟩
  · have he : ((s.size : Int) % 2 != 0) = true := by rw [bne_iff_ne]; omega
    have HE := Lib.hid hev; clear hev
    go_enter Tryz.func62, Tryz.ntmps62
    go_wp2_with (go_at_call 59; refine (hword _ h).mono ?_; rintro e w1 ⟨rfl, h1, k1⟩)
    exact ⟨rfl, BytesOut.no (HU.out.trans (Pa.unhexs_odd x HE.out)) ⟨rfl, k1⟩⟩

theorem Pa.rdBytes_some {ws : List Pa.Bs} {b : Pa.Bs} {r : List Pa.Bs} (h : Pa.rdBytes ws = some (b, r)) : ∃ x, ws = x :: r ∧ Pa.unhexL x = some b := by
  cases ws with
  | nil => simp [Pa.rdBytes, Pa.rdWord] at h
  | cons x t =>
    simp only [Pa.rdBytes, Pa.rdWord, Option.bind_some, Option.map_eq_some_iff] at h
    obtain ⟨b', h1, h2⟩ := h
    cases h2; exact ⟨x, rfl, h1⟩
theorem Pa.rdBytes_none {x : Pa.Bs} {r : List Pa.Bs} (h : Pa.rdBytes (x :: r) = none) : Pa.unhexL x = none := by
  simpa [Pa.rdBytes, Pa.rdWord] using h

theorem rbytes_none (rb wb : Nat) (w : World) (h : StR rb wb [] w) :
    Calls Tryz.prog 62 #[.pointer (some ⟨rb, 0, none⟩)] w fun e w' => e = .panicked badP ∧ Kp (· = rb) w w' := by
  go_enter Tryz.func62, Tryz.ntmps62
  go_wp2_with (go_at_call 59; refine (word_none rb wb _ h).mono ?_; rintro e w1 ⟨rfl, k1⟩)
  exact ⟨rfl, rfl, k1⟩

/-- The reader reads bytes. -/
theorem rbytes_yes (rb wb : Nat) (ws : List Pa.Bs) (b : Pa.Bs) (r : List Pa.Bs) (w : World) (h : StR rb wb ws w) (hr : Pa.rdBytes ws = some (b, r)) :
    Calls Tryz.prog 62 #[.pointer (some ⟨rb, 0, none⟩)] w fun e w' => e = .returned (.string ⟨b.toArray⟩) ∧ StR rb wb r w' ∧ Kp (· = rb) w w' := by
  obtain ⟨x, rfl, ha⟩ := Pa.rdBytes_some hr
  refine (rbytes_word rb wb x r w h).mono fun e w' ho => ?_
  unfold BytesOut at ho; rw [ha] at ho; exact ho
theorem rbytes_no (rb wb : Nat) (ws : List Pa.Bs) (w : World) (h : StR rb wb ws w) (hr : Pa.rdBytes ws = none) :
    Calls Tryz.prog 62 #[.pointer (some ⟨rb, 0, none⟩)] w fun e w' => e = .panicked badP ∧ Kp (· = rb) w w' := by
  cases ws with
  | nil => exact rbytes_none rb wb w h
  | cons x t =>
    refine (rbytes_word rb wb x t w h).mono fun e w' ho => ?_
    unfold BytesOut at ho; rw [Pa.rdBytes_none hr] at ho; exact ho

end Go.Proofs.YtgajoiijebbagaaGreatDoor

/-! The walks of script's readers of calls: proto, sock, binding, count, data, name, address, peer, datagram. Each says what it reads into the call, or that it panics, and that outside the reader's and the call's own variables nothing that was there has changed. Conditions: the words and the call lie in memory. -/
namespace Go.Proofs.YtgajoiijebbagaaGreatDoor
open Go.RowKit Go.Proofs

/-- Block b begins with these cells, which may be written. -/
def RowAt (b : Nat) (cs : List Value) (w : World) : Prop := b < w.heap.size ∧ ∀ (j : Nat) u, cs[j]? = some u → w.cell? ⟨b, j, none⟩ = some u ∧ w.frozen? ⟨b, j, none⟩ = false
theorem RowAt.kp {b : Nat} {cs : List Value} {w w' : World} {S : Nat → Prop} (h : RowAt b cs w) (k : Kp S w w') (hs : ¬ S b) : RowAt b cs w' :=
  ⟨Nat.lt_of_lt_of_le h.1 k.size, fun j u hu => ⟨by rw [k.cell h.1 hs]; exact (h.2 j u hu).1, by rw [k.frozen h.1 hs]; exact (h.2 j u hu).2⟩⟩
theorem RowAt.below {b : Nat} {cs : List Value} {w w' : World} (h : RowAt b cs w) (k : Below w.heap.size w w') : RowAt b cs w' := h.kp (S := fun _ => False) (.of_below k) id
theorem RowAt.set {b : Nat} {cs : List Value} {w : World} (h : RowAt b cs w) (j : Nat) (hj : j < cs.length) (v : Value) : RowAt b (cs.set j v) (w.setCell ⟨b, j, none⟩ v) := by
  refine ⟨by simpa [World.setCell] using h.1, fun i u hu => ⟨?_, ?_⟩⟩
  · rw [List.getElem?_set] at hu
    by_cases hij : j = i
    · subst hij
      simp [hj] at hu
      subst hu
      exact World.cell?_setCell_same' _ _ _ (by rw [(h.2 j _ (List.getElem?_eq_getElem hj)).1]; rfl)
    · rw [if_neg hij] at hu
      rw [World.cell?_setCell_other _ _ _ _ (by intro e; cases e; exact hij rfl)]
      exact (h.2 i u hu).1
  · rw [World.frozen?_setCell]
    rw [List.getElem?_set] at hu
    by_cases hij : j = i
    · subst hij; exact (h.2 j _ (List.getElem?_eq_getElem hj)).2
    · rw [if_neg hij] at hu; exact (h.2 i u hu).2
theorem RowAt.new (w : World) (cs : Array Value) (t : TypeId) : RowAt w.heap.size cs.toList (w.alloc (.cells cs t)) :=
  ⟨by simp, fun j u hu => ⟨by rw [World.cell?_alloc_at _ _ _ _ rfl]; simpa using hu, by simp⟩⟩

def clCells (c : Pa.Cl) : List Value := [.int .i64 c.kind, .int .i64 c.sock, .int .i64 c.addr, .int .i64 c.port, .int .i64 c.n, .string c.s, .int .i64 c.here, .int .i64 c.mss]

/-- What a reader of a call ends in. -/
def COut (rb wb cb : Nat) (r : Pa.Rd Pa.Cl) (w : World) (e : Ending) (w' : World) : Prop :=
  match r with
  | some (c, ws) => e = .returned (.tuple #[]) ∧ StR rb wb ws w' ∧ RowAt cb (clCells c) w' ∧ Kp (fun k => k = rb ∨ k = cb) w w'
  | none => e = .panicked badP ∧ Kp (fun k => k = rb ∨ k = cb) w w'
theorem COut.yes {rb wb cb : Nat} {r : Pa.Rd Pa.Cl} {c : Pa.Cl} {ws : List Pa.Bs} {w : World} {e : Ending} {w' : World} (hr : r = some (c, ws))
    (h : e = .returned (.tuple #[]) ∧ StR rb wb ws w' ∧ RowAt cb (clCells c) w' ∧ Kp (fun k => k = rb ∨ k = cb) w w') : COut rb wb cb r w e w' := by
  unfold COut; rw [hr]; exact h
theorem COut.no {rb wb cb : Nat} {r : Pa.Rd Pa.Cl} {w : World} {e : Ending} {w' : World} (hr : r = none) (h : e = .panicked badP ∧ Kp (fun k => k = rb ∨ k = cb) w w') : COut rb wb cb r w e w' := by
  unfold COut; rw [hr]; exact h

/-- The reader f computes rd. -/
def Reads (f : FuncId) (rd : Pa.Cl → List Pa.Bs → Pa.Rd Pa.Cl) : Prop := ∀ (rb wb cb : Nat) (c : Pa.Cl) (ws : List Pa.Bs) (w : World), Ok w → StR rb wb ws w → RowAt cb (clCells c) w → cb ≠ rb → cb ≠ wb → 4 ≤ cb →
  Calls Tryz.prog f #[.pointer (some ⟨rb, 0, none⟩), .pointer (some ⟨cb, 0, none⟩)] w (COut rb wb cb (rd c ws) w)

theorem Kp.two {rb cb : Nat} {w w' : World} (h : Kp (· = rb) w w') : Kp (fun k => k = rb ∨ k = cb) w w' := h.mono fun _ _ h => .inl h
theorem Kp.wr {rb cb : Nat} {w w' : World} (h : Kp (fun k => k = rb ∨ k = cb) w w') (j : Nat) (v : Value) : Kp (fun k => k = rb ∨ k = cb) w (w'.setCell ⟨cb, j, none⟩ v) := Kp.setCell (S := fun k => k = rb ∨ k = cb) h (p := ⟨cb, j, none⟩) (.inl (.inr rfl)) v
theorem StR.wr {rb wb cb : Nat} {ws : List Pa.Bs} {w : World} (h : StR rb wb ws w) (h1 : cb ≠ rb) (h2 : cb ≠ wb) (j : Nat) (v : Value) : StR rb wb ws (w.setCell ⟨cb, j, none⟩ v) := h.kept (Kp.set w cb j v) (fun e => h1 e.symm) (fun e => h2 e.symm)

theorem rsock : Reads 101 Pa.rdSock := by
  intro rb wb cb c ws w ok h hc h1 h2 h4
  cases hr : Pa.rdNum ws with
  | none =>
    have HR := Lib.hid hr; clear hr
    go_enter Tryz.func101, Tryz.ntmps101
    go_wp2_with (go_at_call 60; refine (rnum_no rb wb ws _ ok h HR.out).mono ?_; rintro e w1 ⟨rfl, k1⟩)
    exact ⟨rfl, COut.no (by simp [Pa.rdSock, HR.out]) ⟨rfl, k1.two⟩⟩
  | some p =>
    obtain ⟨n, r⟩ := p
    have HR := Lib.hid hr; clear hr
    go_enter Tryz.func101, Tryz.ntmps101
    go_wp2_with (go_at_call 60; refine (rnum_yes rb wb ws n r _ h HR.out).mono ?_; rintro e w1 ⟨rfl, s1, k1⟩; have hc1 := hc.kp k1 h1; have ⟨q1, q2⟩ := hc1.2 1 _ rfl)
    go_end0
    exact COut.yes (c := { c with sock := n }) (ws := r) (by simp [Pa.rdSock, HR.out]) ⟨rfl, s1.wr h1 h2 _ _, hc1.set 1 (by simp [clCells]) _, k1.two.wr _ _⟩

theorem rname : Reads 104 Pa.rdName := by
  intro rb wb cb c ws w ok h hc h1 h2 h4
  cases ws with
  | nil =>
    go_enter Tryz.func104, Tryz.ntmps104
    go_wp2_with (go_at_call 59; refine (word_none rb wb _ h).mono ?_; rintro e w1 ⟨rfl, k1⟩)
    exact ⟨rfl, COut.no rfl ⟨rfl, k1.two⟩⟩
  | cons x r =>
    go_enter Tryz.func104, Tryz.ntmps104
    go_wp2_with (go_at_call 59; refine (word_some rb wb x r _ h).mono ?_; rintro e w1 ⟨rfl, s1, k1⟩; have hc1 := hc.kp k1 h1; have ⟨q1, q2⟩ := hc1.2 5 _ rfl)
    go_end0
    exact COut.yes (c := { c with s := ⟨x.toArray⟩ }) (ws := r) rfl ⟨rfl, s1.wr h1 h2 _ _, hc1.set 5 (by simp [clCells]) _, k1.two.wr _ _⟩

theorem rproto : Reads 97 Pa.rdProto := by
  intro rb wb cb c ws w ok h hc h1 h2 h4
  cases ws with
  | nil =>
    go_enter Tryz.func97, Tryz.ntmps97
    go_wp2_with (go_at_call 59; refine (word_none rb wb _ h).mono ?_; rintro e w1 ⟨rfl, k1⟩)
    exact ⟨rfl, COut.no rfl ⟨rfl, k1.two⟩⟩
  | cons x r =>
    by_cases ht : x = Pa.w_tcp
    · subst ht
      go_enter Tryz.func97, Tryz.ntmps97
      go_wp2_with (go_at_call 59; refine (word_some rb wb _ r _ h).mono ?_; rintro e w1 ⟨rfl, s1, k1⟩; have hc1 := hc.kp k1 h1; have ⟨q1, q2⟩ := hc1.2 4 _ rfl)
      go_end0
      exact COut.yes (c := { c with n := 6 }) (ws := r) rfl ⟨rfl, s1.wr h1 h2 _ _, hc1.set 4 (by simp [clCells]) _, k1.two.wr _ _⟩
    by_cases hu : x = Pa.w_udp
    · subst hu
      go_enter Tryz.func97, Tryz.ntmps97
      go_wp2_with (go_at_call 59; refine (word_some rb wb _ r _ h).mono ?_; rintro e w1 ⟨rfl, s1, k1⟩; have hc1 := hc.kp k1 h1; have ⟨q1, q2⟩ := hc1.2 4 _ rfl)
      go_end0
      exact COut.yes (c := { c with n := 17 }) (ws := r) rfl ⟨rfl, s1.wr h1 h2 _ _, hc1.set 4 (by simp [clCells]) _, k1.two.wr _ _⟩
    · obtain ⟨s, hs⟩ : ∃ s : ByteArray, s = ⟨x.toArray⟩ := ⟨_, rfl⟩
      have hsl : s.toList = x := by rw [hs, ByteArray.toList_eq]
      have e1 : (s.toList == [116, 99, 112]) = false := by rw [hsl, beq_eq_false_iff_ne]; exact ht
      have e2 : (s.toList == [117, 100, 112]) = false := by rw [hsl, beq_eq_false_iff_ne]; exact hu
      have e1' : ¬ s.toList = [116, 99, 112] := by rw [hsl]; exact ht
      have e2' : ¬ s.toList = [117, 100, 112] := by rw [hsl]; exact hu
      have hword := word_some rb wb x r w h
      rw [← hs] at hword
      have HO : Hid (Pa.rdProto c (x :: r) = some (c, r)) := by simp [Hid, Pa.rdProto, Pa.rdWord, ht, hu]
      clear hs hsl ht hu
      go_enter Tryz.func97, Tryz.ntmps97
      go_wp2_with (go_at_call 59; refine hword.mono ?_; rintro e w1 ⟨rfl, s1, k1⟩)
      go_end0
      exact COut.yes HO.out ⟨rfl, s1, hc.kp k1 h1, k1.two⟩

theorem rbinding : Reads 98 Pa.rdBind := by
  intro rb wb cb c ws w ok h hc h1 h2 h4
  have hr4 := h.rb4
  cases hr : Pa.rdNum ws with
  | none =>
    have HR := Lib.hid hr; clear hr
    go_enter Tryz.func98, Tryz.ntmps98
    go_wp2_with (go_at_call 60; refine (rnum_no rb wb ws _ ok h HR.out).mono ?_; rintro e w1 ⟨rfl, k1⟩)
    exact ⟨rfl, COut.no (by simp [Pa.rdBind, HR.out]) ⟨rfl, k1.two⟩⟩
  | some p =>
    obtain ⟨n, r⟩ := p
    have HR := Lib.hid hr; clear hr
    cases hq : Pa.rdNum r with
    | none =>
      have HQ := Lib.hid hq; clear hq
      go_enter Tryz.func98, Tryz.ntmps98
      go_wp2_with fail
      refine (rnum_yes rb wb ws n r _ h HR.out).mono ?_
      rintro e w1 ⟨rfl, s1, k1⟩
      go_wp2_with fail
      refine (rnum_no rb wb r _ (ok.kp k1 (by intro k hk; show ¬ k = rb; omega)) s1 HQ.out).mono ?_
      rintro e w2 ⟨rfl, k2⟩
      go_wp2
      exact ⟨rfl, COut.no (by simp [Pa.rdBind, HR.out, HQ.out]) ⟨rfl, (k1.trans k2).two⟩⟩
    | some p =>
      obtain ⟨m, r2⟩ := p
      have HQ := Lib.hid hq; clear hq
      go_enter Tryz.func98, Tryz.ntmps98
      go_wp2_with fail
      refine (rnum_yes rb wb ws n r _ h HR.out).mono ?_
      rintro e w1 ⟨rfl, s1, k1⟩
      go_wp2_with fail
      refine (rnum_yes rb wb r m r2 _ s1 HQ.out).mono ?_
      rintro e w2 ⟨rfl, s2, k2⟩
      have hc2 := hc.kp (k1.trans k2) h1
      have ⟨q1, q2⟩ := hc2.2 1 _ rfl
      have ⟨q3, q4⟩ := hc2.2 3 _ rfl
      go_wp2
      go_end0
      exact COut.yes (c := { c with sock := n, port := m }) (ws := r2) (by simp [Pa.rdBind, HR.out, HQ.out]) ⟨rfl, (s2.wr h1 h2 _ _).wr h1 h2 _ _, (hc2.set 1 (by simp [clCells]) _).set 3 (by simp [clCells]) _, ((k1.trans k2).two.wr _ _).wr _ _⟩

theorem rcount : Reads 99 Pa.rdCount := by
  intro rb wb cb c ws w ok h hc h1 h2 h4
  have hr4 := h.rb4
  cases hr : Pa.rdNum ws with
  | none =>
    have HR := Lib.hid hr; clear hr
    go_enter Tryz.func99, Tryz.ntmps99
    go_wp2_with (go_at_call 60; refine (rnum_no rb wb ws _ ok h HR.out).mono ?_; rintro e w1 ⟨rfl, k1⟩)
    exact ⟨rfl, COut.no (by simp [Pa.rdCount, HR.out]) ⟨rfl, k1.two⟩⟩
  | some p =>
    obtain ⟨n, r⟩ := p
    have HR := Lib.hid hr; clear hr
    cases hq : Pa.rdNum r with
    | none =>
      have HQ := Lib.hid hq; clear hq
      go_enter Tryz.func99, Tryz.ntmps99
      go_wp2_with fail
      refine (rnum_yes rb wb ws n r _ h HR.out).mono ?_
      rintro e w1 ⟨rfl, s1, k1⟩
      go_wp2_with fail
      refine (rnum_no rb wb r _ (ok.kp k1 (by intro k hk; show ¬ k = rb; omega)) s1 HQ.out).mono ?_
      rintro e w2 ⟨rfl, k2⟩
      go_wp2
      exact ⟨rfl, COut.no (by simp [Pa.rdCount, HR.out, HQ.out]) ⟨rfl, (k1.trans k2).two⟩⟩
    | some p =>
      obtain ⟨m, r2⟩ := p
      have HQ := Lib.hid hq; clear hq
      go_enter Tryz.func99, Tryz.ntmps99
      go_wp2_with fail
      refine (rnum_yes rb wb ws n r _ h HR.out).mono ?_
      rintro e w1 ⟨rfl, s1, k1⟩
      go_wp2_with fail
      refine (rnum_yes rb wb r m r2 _ s1 HQ.out).mono ?_
      rintro e w2 ⟨rfl, s2, k2⟩
      have hc2 := hc.kp (k1.trans k2) h1
      have ⟨q1, q2⟩ := hc2.2 1 _ rfl
      have ⟨q3, q4⟩ := hc2.2 4 _ rfl
      go_wp2
      go_end0
      exact COut.yes (c := { c with sock := n, n := m }) (ws := r2) (by simp [Pa.rdCount, HR.out, HQ.out]) ⟨rfl, (s2.wr h1 h2 _ _).wr h1 h2 _ _, (hc2.set 1 (by simp [clCells]) _).set 4 (by simp [clCells]) _, ((k1.trans k2).two.wr _ _).wr _ _⟩

theorem rdata : Reads 102 Pa.rdData := by
  intro rb wb cb c ws w ok h hc h1 h2 h4
  cases hr : Pa.rdNum ws with
  | none =>
    have HR := Lib.hid hr; clear hr
    go_enter Tryz.func102, Tryz.ntmps102
    go_wp2_with (go_at_call 60; refine (rnum_no rb wb ws _ ok h HR.out).mono ?_; rintro e w1 ⟨rfl, k1⟩)
    exact ⟨rfl, COut.no (by simp [Pa.rdData, HR.out]) ⟨rfl, k1.two⟩⟩
  | some p =>
    obtain ⟨n, r⟩ := p
    have HR := Lib.hid hr; clear hr
    cases hq : Pa.rdBytes r with
    | none =>
      have HQ := Lib.hid hq; clear hq
      go_enter Tryz.func102, Tryz.ntmps102
      go_wp2_with fail
      refine (rnum_yes rb wb ws n r _ h HR.out).mono ?_
      rintro e w1 ⟨rfl, s1, k1⟩
      go_wp2_with fail
      refine (rbytes_no rb wb r _ s1 HQ.out).mono ?_
      rintro e w2 ⟨rfl, k2⟩
      go_wp2
      exact ⟨rfl, COut.no (by simp [Pa.rdData, HR.out, HQ.out]) ⟨rfl, (k1.trans k2).two⟩⟩
    | some p =>
      obtain ⟨m, r2⟩ := p
      have HQ := Lib.hid hq; clear hq
      go_enter Tryz.func102, Tryz.ntmps102
      go_wp2_with fail
      refine (rnum_yes rb wb ws n r _ h HR.out).mono ?_
      rintro e w1 ⟨rfl, s1, k1⟩
      go_wp2_with fail
      refine (rbytes_yes rb wb r m r2 _ s1 HQ.out).mono ?_
      rintro e w2 ⟨rfl, s2, k2⟩
      have hc2 := hc.kp (k1.trans k2) h1
      have ⟨q1, q2⟩ := hc2.2 1 _ rfl
      have ⟨q3, q4⟩ := hc2.2 5 _ rfl
      go_wp2
      go_end0
      exact COut.yes (c := { c with sock := n, s := ⟨m.toArray⟩ }) (ws := r2) (by simp [Pa.rdData, HR.out, HQ.out]) ⟨rfl, (s2.wr h1 h2 _ _).wr h1 h2 _ _, (hc2.set 1 (by simp [clCells]) _).set 5 (by simp [clCells]) _, ((k1.trans k2).two.wr _ _).wr _ _⟩

theorem raddress : Reads 105 Pa.rdAddress := by
  intro rb wb cb c ws w ok h hc h1 h2 h4
  have hr4 := h.rb4
  cases ws with
  | nil =>
    go_enter Tryz.func105, Tryz.ntmps105
    go_wp2_with (go_at_call 59; refine (word_none rb wb _ h).mono ?_; rintro e w1 ⟨rfl, k1⟩)
    exact ⟨rfl, COut.no rfl ⟨rfl, k1.two⟩⟩
  | cons x r =>
    have hx := h.len
    have hp := fun (w : World) (ok : Ok w) => parse_any ⟨x.toArray⟩ w (by simpa [ByteArray.size] using hx) ok
    cases hr : Pa.parseL x with
    | none =>
      have he := Pa.par_none hr
      simp only [he.1, he.2] at hp
      have HR : Hid (Pa.rdAddress c (x :: r) = none) := by simp [Hid, Pa.rdAddress, Pa.rdAddr, Pa.rdWord, hr]
      clear hr he
      go_enter Tryz.func105, Tryz.ntmps105
      go_wp2_with (first | (go_at_call 59; refine (word_some rb wb x r _ h).mono ?_; rintro e w1 ⟨rfl, s1, k1⟩) | (go_at_call 121; refine (hp _ (ok.kp k1 (by intro k hk; show ¬ k = rb; omega))).mono ?_; rintro e w2 ⟨rfl, k2⟩))
      exact ⟨rfl, COut.no HR.out ⟨rfl, (k1.on k2).two⟩⟩
    | some n =>
      have he := Pa.par_some hr
      simp only [he.1, he.2] at hp
      have HR : Hid (Pa.rdAddress c (x :: r) = some ({ c with addr := (n : Int) }, r)) := by simp [Hid, Pa.rdAddress, Pa.rdAddr, Pa.rdWord, hr]
      clear hr he
      go_enter Tryz.func105, Tryz.ntmps105
      go_wp2_with (first | (go_at_call 59; refine (word_some rb wb x r _ h).mono ?_; rintro e w1 ⟨rfl, s1, k1⟩) | (go_at_call 121; refine (hp _ (ok.kp k1 (by intro k hk; show ¬ k = rb; omega))).mono ?_; rintro e w2 ⟨rfl, k2⟩; have hc2 := hc.kp (k1.on k2) h1; have ⟨q1, q2⟩ := hc2.2 2 _ rfl))
      go_end0
      exact COut.yes HR.out ⟨rfl, (s1.below k2).wr h1 h2 _ _, hc2.set 2 (by simp [clCells]) _, (k1.on k2).two.wr _ _⟩

theorem ok_two {rb cb : Nat} {w w' : World} (ok : Ok w) (k : Kp (fun k => k = rb ∨ k = cb) w w') (h1 : 4 ≤ rb) (h2 : 4 ≤ cb) : Ok w' := ok.kp k (by intro k hk; omega)

theorem rpeer : Reads 100 Pa.rdPeer := by
  intro rb wb cb c ws w ok h hc h1 h2 h4
  have hr4 := h.rb4
  have H1 := rsock rb wb cb c ws w ok h hc h1 h2 h4
  cases hr : Pa.rdSock c ws with
  | none =>
    have HR := Lib.hid hr
    rw [hr] at H1; clear hr
    go_enter Tryz.func100, Tryz.ntmps100
    go_wp2_with (go_at_call 101; refine H1.mono ?_; rintro e w1 ⟨rfl, k1⟩)
    exact ⟨rfl, COut.no (by simp [Pa.rdPeer, HR.out]) ⟨rfl, k1⟩⟩
  | some p =>
    obtain ⟨c1, r⟩ := p
    have HR := Lib.hid hr
    rw [hr] at H1; clear hr
    cases hq : Pa.rdAddress c1 r with
    | none =>
      have HQ := Lib.hid hq; clear hq
      go_enter Tryz.func100, Tryz.ntmps100
      go_wp2_with fail
      refine H1.mono ?_
      rintro e w1 ⟨rfl, s1, c1', k1⟩
      go_wp2_with fail
      refine (raddress rb wb cb c1 r w1 (ok_two ok k1 hr4 h4) s1 c1' h1 h2 h4).mono ?_
      intro e w2 hw2
      rw [HQ.out] at hw2
      obtain ⟨rfl, k2⟩ := hw2
      go_wp2
      exact ⟨rfl, COut.no (by simp [Pa.rdPeer, HR.out, HQ.out]) ⟨rfl, k1.trans k2⟩⟩
    | some p =>
      obtain ⟨c2, r2⟩ := p
      have HQ := Lib.hid hq; clear hq
      cases hn : Pa.rdNum r2 with
      | none =>
        have HN := Lib.hid hn; clear hn
        go_enter Tryz.func100, Tryz.ntmps100
        go_wp2_with fail
        refine H1.mono ?_
        rintro e w1 ⟨rfl, s1, c1', k1⟩
        go_wp2_with fail
        refine (raddress rb wb cb c1 r w1 (ok_two ok k1 hr4 h4) s1 c1' h1 h2 h4).mono ?_
        intro e w2 hw2
        rw [HQ.out] at hw2
        obtain ⟨rfl, s2, c2', k2⟩ := hw2
        go_wp2_with fail
        refine (rnum_no rb wb r2 _ (ok_two ok (k1.trans k2) hr4 h4) s2 HN.out).mono ?_
        rintro e w3 ⟨rfl, k3⟩
        go_wp2
        exact ⟨rfl, COut.no (by simp [Pa.rdPeer, HR.out, HQ.out, HN.out]) ⟨rfl, (k1.trans k2).trans k3.two⟩⟩
      | some p =>
        obtain ⟨m, r3⟩ := p
        have HN := Lib.hid hn; clear hn
        go_enter Tryz.func100, Tryz.ntmps100
        go_wp2_with fail
        refine H1.mono ?_
        rintro e w1 ⟨rfl, s1, c1', k1⟩
        go_wp2_with fail
        refine (raddress rb wb cb c1 r w1 (ok_two ok k1 hr4 h4) s1 c1' h1 h2 h4).mono ?_
        intro e w2 hw2
        rw [HQ.out] at hw2
        obtain ⟨rfl, s2, c2', k2⟩ := hw2
        go_wp2_with fail
        refine (rnum_yes rb wb r2 m r3 _ s2 HN.out).mono ?_
        rintro e w3 ⟨rfl, s3, k3⟩
        have hc3 := c2'.kp k3 h1
        have ⟨q1, q2⟩ := hc3.2 3 _ rfl
        go_wp2
        go_end0
        exact COut.yes (c := { c2 with port := m }) (ws := r3) (by simp [Pa.rdPeer, HR.out, HQ.out, HN.out]) ⟨rfl, s3.wr h1 h2 _ _, hc3.set 3 (by simp [clCells]) _, ((k1.trans k2).trans k3.two).wr _ _⟩

theorem rgram : Reads 103 Pa.rdGram := by
  intro rb wb cb c ws w ok h hc h1 h2 h4
  have hr4 := h.rb4
  have H1 := rpeer rb wb cb c ws w ok h hc h1 h2 h4
  cases hr : Pa.rdPeer c ws with
  | none =>
    have HR := Lib.hid hr
    rw [hr] at H1; clear hr
    go_enter Tryz.func103, Tryz.ntmps103
    go_wp2_with (go_at_call 100; refine H1.mono ?_; rintro e w1 ⟨rfl, k1⟩)
    exact ⟨rfl, COut.no (by simp [Pa.rdGram, HR.out]) ⟨rfl, k1⟩⟩
  | some p =>
    obtain ⟨c1, r⟩ := p
    have HR := Lib.hid hr
    rw [hr] at H1; clear hr
    cases hq : Pa.rdBytes r with
    | none =>
      have HQ := Lib.hid hq; clear hq
      go_enter Tryz.func103, Tryz.ntmps103
      go_wp2_with fail
      refine H1.mono ?_
      rintro e w1 ⟨rfl, s1, c1', k1⟩
      go_wp2_with fail
      refine (rbytes_no rb wb r _ s1 HQ.out).mono ?_
      rintro e w2 ⟨rfl, k2⟩
      go_wp2
      exact ⟨rfl, COut.no (by simp [Pa.rdGram, HR.out, HQ.out]) ⟨rfl, k1.trans k2.two⟩⟩
    | some p =>
      obtain ⟨m, r2⟩ := p
      have HQ := Lib.hid hq; clear hq
      go_enter Tryz.func103, Tryz.ntmps103
      go_wp2_with fail
      refine H1.mono ?_
      rintro e w1 ⟨rfl, s1, c1', k1⟩
      go_wp2_with fail
      refine (rbytes_yes rb wb r m r2 _ s1 HQ.out).mono ?_
      rintro e w2 ⟨rfl, s2, k2⟩
      have hc2 := c1'.kp k2 h1
      have ⟨q1, q2⟩ := hc2.2 5 _ rfl
      go_wp2
      go_end0
      exact COut.yes (c := { c1 with s := ⟨m.toArray⟩ }) (ws := r2) (by simp [Pa.rdGram, HR.out, HQ.out]) ⟨rfl, s2.wr h1 h2 _ _, hc2.set 5 (by simp [clCells]) _, (k1.trans k2.two).wr _ _⟩

end Go.Proofs.YtgajoiijebbagaaGreatDoor

/-! The walk of script's reader: verbs, the table of thirteen readers. It says what the table holds, and that what was there is unchanged. Conditions: none. -/
namespace Go.Proofs.YtgajoiijebbagaaGreatDoor
open Go.RowKit Go.Proofs

def vVal (rb : Nat) (k : Int) (f : FuncId) : Value := .agg #[.int .i64 k, .func (.func f) #[.pointer (some ⟨rb, 0, none⟩)] #[]]
/-- The table's entries, in the order of the text. -/
def vList (rb : Nat) : List MapEntry := [
  ⟨.string ⟨#[115, 111, 99, 107, 101, 116]⟩, vVal rb 1 97, 0⟩,
  ⟨.string ⟨#[98, 105, 110, 100]⟩, vVal rb 2 98, 1⟩,
  ⟨.string ⟨#[108, 105, 115, 116, 101, 110]⟩, vVal rb 3 99, 2⟩,
  ⟨.string ⟨#[99, 111, 110, 110, 101, 99, 116]⟩, vVal rb 4 100, 3⟩,
  ⟨.string ⟨#[97, 99, 99, 101, 112, 116]⟩, vVal rb 5 101, 4⟩,
  ⟨.string ⟨#[115, 104, 117, 116]⟩, vVal rb 8 101, 5⟩,
  ⟨.string ⟨#[99, 108, 111, 115, 101]⟩, vVal rb 9 101, 6⟩,
  ⟨.string ⟨#[114, 101, 99, 118, 102, 114, 111, 109]⟩, vVal rb 11 101, 7⟩,
  ⟨.string ⟨#[115, 101, 110, 100]⟩, vVal rb 6 102, 8⟩,
  ⟨.string ⟨#[114, 101, 99, 118]⟩, vVal rb 7 99, 9⟩,
  ⟨.string ⟨#[115, 101, 110, 100, 116, 111]⟩, vVal rb 10 103, 10⟩,
  ⟨.string ⟨#[110, 97, 109, 101]⟩, vVal rb 12 104, 11⟩,
  ⟨.string ⟨#[112, 105, 110, 103]⟩, vVal rb 13 105, 12⟩]
def vE (rb : Nat) (i : Nat) : Array MapEntry := ((vList rb).take i).toArray

theorem run_insert_new (w : World) (es : Array MapEntry) (clock : Nat) (k : ByteArray) (v : Value) (hn : Instr.findNow .string (.string k) es.toList 0 = some none) :
    (Instr.mapUpdate 111 (.map (some w.heap.size)) (.string k) v).run Tryz.prog (w.alloc (.map es clock)) = .ok () (w.alloc (.map (es.push ⟨.string k, v, clock⟩) (clock + 1))) := by
  have hb : (w.alloc (.map es clock)).heap[w.heap.size]? = some (.map es clock) := heap_alloc_new _ _
  have hck := MapKept.run_checkKey (P := Tryz.prog) (w := w.alloc (.map es clock)) Tryz.underlying9 (k := .string k) ⟨⟩ false 9999
  have hfk : (Instr.findKey 9 (.string k) es.toList).run Tryz.prog (w.alloc (.map es clock)) = .ok none (w.alloc (.map es clock)) := by
    simp [Instr.findKey, run_underlying Tryz.underlying9, hn]
  have hp : ∀ a b : Obj, (w.heap.push a).setIfInBounds w.heap.size b = w.heap.push b := fun a b => by
    apply Array.ext_getElem?
    intro i
    rw [Array.getElem?_setIfInBounds, Array.getElem?_push, Array.getElem?_push]
    by_cases h : w.heap.size = i
    · subst h; simp
    · rw [if_neg h, if_neg (fun e => h e.symm), if_neg (fun e => h e.symm)]
  simp [Instr.mapUpdate, run_underlying Tryz.underlying111, MapKept.run_getObj_map hb, hck, hfk, MapKept.run_setObj_map _ hb, Result.andThen]
  exact congrArg (fun h => ({ w with heap := h } : World)) (hp _ _)

set_option maxHeartbeats 1000000 in
theorem verbs_any (rb : Nat) (w : World) : Calls Tryz.prog 79 #[.pointer (some ⟨rb, 0, none⟩)] w fun e w' => e = .returned (.map (some w.heap.size)) ∧ w' = w.alloc (.map (vE rb 13) 13) := by
  have hmm : ∀ w : World, (Instr.makeMap 111 none).run Tryz.prog w = .ok (.map (some w.heap.size)) (w.alloc (.map (vE rb 0) 0)) := fun _ => rfl
  have hmf : ∀ (fn : Fn) (first cap : Array Value) (w : World), (Instr.makeFunc fn first cap).run Tryz.prog w = .ok (.func fn first cap) w := fun _ _ _ _ => rfl
  have i0 : ∀ w : World, (Instr.mapUpdate 111 (.map (some w.heap.size)) (.string ⟨#[115, 111, 99, 107, 101, 116]⟩) (.agg #[.int .i64 1, .func (.func 97) #[.pointer (some ⟨rb, 0, none⟩)] #[]])).run Tryz.prog (w.alloc (.map (vE rb 0) 0)) = .ok () (w.alloc (.map (vE rb 1) 1)) := fun w => run_insert_new w (vE rb 0) 0 _ _ rfl
  have i1 : ∀ w : World, (Instr.mapUpdate 111 (.map (some w.heap.size)) (.string ⟨#[98, 105, 110, 100]⟩) (.agg #[.int .i64 2, .func (.func 98) #[.pointer (some ⟨rb, 0, none⟩)] #[]])).run Tryz.prog (w.alloc (.map (vE rb 1) 1)) = .ok () (w.alloc (.map (vE rb 2) 2)) := fun w => run_insert_new w (vE rb 1) 1 _ _ rfl
  have i2 : ∀ w : World, (Instr.mapUpdate 111 (.map (some w.heap.size)) (.string ⟨#[108, 105, 115, 116, 101, 110]⟩) (.agg #[.int .i64 3, .func (.func 99) #[.pointer (some ⟨rb, 0, none⟩)] #[]])).run Tryz.prog (w.alloc (.map (vE rb 2) 2)) = .ok () (w.alloc (.map (vE rb 3) 3)) := fun w => run_insert_new w (vE rb 2) 2 _ _ rfl
  have i3 : ∀ w : World, (Instr.mapUpdate 111 (.map (some w.heap.size)) (.string ⟨#[99, 111, 110, 110, 101, 99, 116]⟩) (.agg #[.int .i64 4, .func (.func 100) #[.pointer (some ⟨rb, 0, none⟩)] #[]])).run Tryz.prog (w.alloc (.map (vE rb 3) 3)) = .ok () (w.alloc (.map (vE rb 4) 4)) := fun w => run_insert_new w (vE rb 3) 3 _ _ rfl
  have i4 : ∀ w : World, (Instr.mapUpdate 111 (.map (some w.heap.size)) (.string ⟨#[97, 99, 99, 101, 112, 116]⟩) (.agg #[.int .i64 5, .func (.func 101) #[.pointer (some ⟨rb, 0, none⟩)] #[]])).run Tryz.prog (w.alloc (.map (vE rb 4) 4)) = .ok () (w.alloc (.map (vE rb 5) 5)) := fun w => run_insert_new w (vE rb 4) 4 _ _ rfl
  have i5 : ∀ w : World, (Instr.mapUpdate 111 (.map (some w.heap.size)) (.string ⟨#[115, 104, 117, 116]⟩) (.agg #[.int .i64 8, .func (.func 101) #[.pointer (some ⟨rb, 0, none⟩)] #[]])).run Tryz.prog (w.alloc (.map (vE rb 5) 5)) = .ok () (w.alloc (.map (vE rb 6) 6)) := fun w => run_insert_new w (vE rb 5) 5 _ _ rfl
  have i6 : ∀ w : World, (Instr.mapUpdate 111 (.map (some w.heap.size)) (.string ⟨#[99, 108, 111, 115, 101]⟩) (.agg #[.int .i64 9, .func (.func 101) #[.pointer (some ⟨rb, 0, none⟩)] #[]])).run Tryz.prog (w.alloc (.map (vE rb 6) 6)) = .ok () (w.alloc (.map (vE rb 7) 7)) := fun w => run_insert_new w (vE rb 6) 6 _ _ rfl
  have i7 : ∀ w : World, (Instr.mapUpdate 111 (.map (some w.heap.size)) (.string ⟨#[114, 101, 99, 118, 102, 114, 111, 109]⟩) (.agg #[.int .i64 11, .func (.func 101) #[.pointer (some ⟨rb, 0, none⟩)] #[]])).run Tryz.prog (w.alloc (.map (vE rb 7) 7)) = .ok () (w.alloc (.map (vE rb 8) 8)) := fun w => run_insert_new w (vE rb 7) 7 _ _ rfl
  have i8 : ∀ w : World, (Instr.mapUpdate 111 (.map (some w.heap.size)) (.string ⟨#[115, 101, 110, 100]⟩) (.agg #[.int .i64 6, .func (.func 102) #[.pointer (some ⟨rb, 0, none⟩)] #[]])).run Tryz.prog (w.alloc (.map (vE rb 8) 8)) = .ok () (w.alloc (.map (vE rb 9) 9)) := fun w => run_insert_new w (vE rb 8) 8 _ _ rfl
  have i9 : ∀ w : World, (Instr.mapUpdate 111 (.map (some w.heap.size)) (.string ⟨#[114, 101, 99, 118]⟩) (.agg #[.int .i64 7, .func (.func 99) #[.pointer (some ⟨rb, 0, none⟩)] #[]])).run Tryz.prog (w.alloc (.map (vE rb 9) 9)) = .ok () (w.alloc (.map (vE rb 10) 10)) := fun w => run_insert_new w (vE rb 9) 9 _ _ rfl
  have i10 : ∀ w : World, (Instr.mapUpdate 111 (.map (some w.heap.size)) (.string ⟨#[115, 101, 110, 100, 116, 111]⟩) (.agg #[.int .i64 10, .func (.func 103) #[.pointer (some ⟨rb, 0, none⟩)] #[]])).run Tryz.prog (w.alloc (.map (vE rb 10) 10)) = .ok () (w.alloc (.map (vE rb 11) 11)) := fun w => run_insert_new w (vE rb 10) 10 _ _ rfl
  have i11 : ∀ w : World, (Instr.mapUpdate 111 (.map (some w.heap.size)) (.string ⟨#[110, 97, 109, 101]⟩) (.agg #[.int .i64 12, .func (.func 104) #[.pointer (some ⟨rb, 0, none⟩)] #[]])).run Tryz.prog (w.alloc (.map (vE rb 11) 11)) = .ok () (w.alloc (.map (vE rb 12) 12)) := fun w => run_insert_new w (vE rb 11) 11 _ _ rfl
  have i12 : ∀ w : World, (Instr.mapUpdate 111 (.map (some w.heap.size)) (.string ⟨#[112, 105, 110, 103]⟩) (.agg #[.int .i64 13, .func (.func 105) #[.pointer (some ⟨rb, 0, none⟩)] #[]])).run Tryz.prog (w.alloc (.map (vE rb 12) 12)) = .ok () (w.alloc (.map (vE rb 13) 13)) := fun w => run_insert_new w (vE rb 12) 12 _ _ rfl
  go_enter Tryz.func79, Tryz.ntmps79
  go_wp2
  go_ret
  exact ⟨rfl, rfl⟩

end Go.Proofs.YtgajoiijebbagaaGreatDoor
