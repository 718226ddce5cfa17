/-
  The walk of script's reader: bytes. Conditions: the words lie in memory.
-/
import Derived.Test.YtgajoiijebbagaaGreatDoorSRead1
import Derived.Test.YtgajoiijebbagaaGreatDoorSHex
import Derived.IntWalk
namespace Go.Proofs.YtgajoiijebbagaaGreatDoor
open Go.RowKit Go.Proofs

def Pa.hexI (c : UInt8) : Int := match Pa.unhexd c with | some n => n | none => -1
theorem hexI_eq (c : UInt8) : Lib.indexByte hexD.data.toList (c.toNat : Int).toNat.toUInt8 = Pa.hexI c := by
  have h : ∀ n : Fin 256, Lib.indexByte hexD.data.toList ((n.val : Int).toNat.toUInt8) = Pa.hexI (UInt8.ofNat n.val) := by decide +kernel
  have := h ⟨c.toNat, c.toNat_lt⟩
  simpa using this
theorem indexByte_hex (c : UInt8) (w : World) : Calls Tryz.prog 80 #[.string hexD, .int .u8 (c.toNat : Int)] w fun e w' => e = .returned (.int .i64 (Pa.hexI c)) ∧ w' = w := by
  have := Tryz.strings_IndexByte hexD (c.toNat : Int) w
  rw [hexI_eq] at this
  exact this
theorem hexI_some {c : UInt8} {n : Nat} (h : Pa.unhexd c = some n) : Pa.hexI c = n := by unfold Pa.hexI; rw [h]
theorem hexI_none {c : UInt8} (h : Pa.unhexd c = none) : Pa.hexI c = -1 := by unfold Pa.hexI; rw [h]
theorem unhexd_lt {c : UInt8} {n : Nat} (h : Pa.unhexd c = some n) : n < 16 := by
  unfold Pa.unhexd at h
  split at h
  · cases h; omega
  · split at h
    · cases h; omega
    · cases h
theorem orB (x y : Nat) (hx : x < 16) (hy : y < 16) : bits .or .i64 ((x : Int) * 16) (y : Int) % 256 = ((UInt8.ofNat (16 * x + y)).toNat : Int) := by
  have h : ∀ a b : Fin 16, bits .or .i64 ((a.val : Int) * 16) (b.val : Int) % 256 = ((UInt8.ofNat (16 * a.val + b.val)).toNat : Int) := by decide +kernel
  exact h ⟨x, hx⟩ ⟨y, hy⟩

theorem Pa.unhexs_two {a b : UInt8} {r : Pa.Bs} {x y : Nat} (ha : Pa.unhexd a = some x) (hb : Pa.unhexd b = some y) : Pa.unhexs (a :: b :: r) = (Pa.unhexs r).map fun t => UInt8.ofNat (16 * x + y) :: t := by
  rw [Pa.unhexs, ha, hb]; cases Pa.unhexs r <;> rfl
theorem Pa.unhexs_bad {a b : UInt8} {r : Pa.Bs} (h : Pa.unhexd a = none ∨ Pa.unhexd b = none) : Pa.unhexs (a :: b :: r) = none := by
  rw [Pa.unhexs]
  rcases h with h | h <;> rw [h]
  cases Pa.unhexd a <;> rfl
theorem Pa.drop_two {x : Pa.Bs} {k : Nat} (h : 2 * k + 1 < x.length) : x.drop (2 * k) = x[2 * k] :: x[2 * k + 1] :: x.drop (2 * (k + 1)) := by
  rw [List.drop_eq_getElem_cons (by omega), List.drop_eq_getElem_cons h]; rfl
theorem Pa.unhexs_odd : ∀ x : Pa.Bs, x.length % 2 ≠ 0 → Pa.unhexs x = none
  | [], h => by simp at h
  | [_], _ => by simp [Pa.unhexs]
  | a :: b :: r, h => by
    rw [Pa.unhexs, Pa.unhexs_odd r (by simp at h; omega)]
    cases Pa.unhexd a <;> cases Pa.unhexd b <;> rfl

/-- What the loop has behind k rounds. -/
def BRel (x : Pa.Bs) (k : Nat) (pre : Pa.Bs) : Prop := pre.length = k ∧ Pa.unhexs x = (Pa.unhexs (x.drop (2 * k))).map fun t => pre ++ t
theorem BRel.next {x : Pa.Bs} {k : Nat} {pre : Pa.Bs} (h : BRel x k pre) (hk : 2 * k + 1 < x.length) {m n : Nat} (ha : Pa.unhexd x[2 * k] = some m) (hb : Pa.unhexd x[2 * k + 1] = some n) : BRel x (k + 1) (pre ++ [UInt8.ofNat (16 * m + n)]) := by
  refine ⟨by simp [h.1], ?_⟩
  rw [h.2, Pa.drop_two hk, Pa.unhexs_two ha hb]
  cases Pa.unhexs (x.drop (2 * (k + 1))) <;> simp
theorem BRel.bad {x : Pa.Bs} {k : Nat} {pre : Pa.Bs} (h : BRel x k pre) (hk : 2 * k + 1 < x.length) (hb : Pa.unhexd x[2 * k] = none ∨ Pa.unhexd x[2 * k + 1] = none) : Pa.unhexs x = none := by
  rw [h.2, Pa.drop_two hk, Pa.unhexs_bad hb]; rfl
theorem BRel.done {x : Pa.Bs} {k : Nat} {pre : Pa.Bs} (h : BRel x k pre) (hk : x.length ≤ 2 * k) : Pa.unhexs x = some pre := by
  rw [h.2, List.drop_of_length_le hk]; simp [Pa.unhexs]

/-- The bytes of a word. -/
def BytesOut (rb wb : Nat) (x : Pa.Bs) (ws : List Pa.Bs) (w : World) (e : Ending) (w' : World) : Prop :=
  match Pa.unhexL x with
  | some b => e = .returned (.string ⟨b.toArray⟩) ∧ StR rb wb ws w' ∧ Kp (· = rb) w w'
  | none => e = .panicked badP ∧ Kp (· = rb) w w'
theorem BytesOut.yes {rb wb : Nat} {x b : Pa.Bs} {ws : List Pa.Bs} {w : World} {e : Ending} {w' : World} (h : Pa.unhexL x = some b) (h' : e = .returned (.string ⟨b.toArray⟩) ∧ StR rb wb ws w' ∧ Kp (· = rb) w w') : BytesOut rb wb x ws w e w' := by
  unfold BytesOut; rw [h]; exact h'
theorem BytesOut.no {rb wb : Nat} {x : Pa.Bs} {ws : List Pa.Bs} {w : World} {e : Ending} {w' : World} (h : Pa.unhexL x = none) (h' : e = .panicked badP ∧ Kp (· = rb) w w') : BytesOut rb wb x ws w e w' := by
  unfold BytesOut; rw [h]; exact h'

theorem str_eq_mk (x y : Pa.Bs) : ((⟨x.toArray⟩ : ByteArray).toList == (⟨y.toArray⟩ : ByteArray).toList) = decide (x = y) := by
  rw [bytes_beq]; by_cases h : x = y <;> simp [h]

theorem owns_lt {u : World} {base : Nat} {e : TypeId} {size n : Nat} {v : Value} {xs : List Value} (h : u.ownsRow base e size v n xs) {g : Nat} (hg : v.ownBlock = some g) : g < u.heap.size := by
  rcases h.2 with ⟨rfl, _⟩ | ⟨g', cap, cur, rfl, _, h2, _⟩
  · cases hg
  · cases hg; exact (Array.getElem?_eq_some_iff.1 h2).1
theorem owns_base {u : World} {base : Nat} {e : TypeId} {size n : Nat} {v : Value} {xs : List Value} (h : u.ownsRow base e size v n xs) {g : Nat} (hg : v.ownBlock = some g) : base ≤ g := by
  rcases h.2 with ⟨rfl, _⟩ | ⟨g', cap, cur, rfl, h1, _⟩
  · cases hg
  · cases hg; exact h1
theorem bytes_own {w2 : World} {base : Nat} {v : Value} {k : Nat} {pre : Pa.Bs} {c : UInt8} (h : w2.ownsRow base 5 1 v (k + 1) (Lib.byteCells pre ++ [.int .u8 (c.toNat : Int)])) : w2.ownsRow base 5 1 v (k + 1) (Lib.byteCells (pre ++ [c])) := by
  simpa [Lib.byteCells] using h

set_option maxRecDepth 100000 in
set_option maxHeartbeats 1000000 in
theorem rbytes_word (rb wb : Nat) (x : Pa.Bs) (ws : List Pa.Bs) (w : World) (h : StR rb wb (x :: ws) w) :
    Calls Tryz.prog 62 #[.pointer (some ⟨rb, 0, none⟩)] w (BytesOut rb wb x ws w) := by
  have hl := h.len
  by_cases h45 : x = [45]
  · subst h45
    go_enter Tryz.func62, Tryz.ntmps62
    go_wp2_with (go_at_call 59; refine (word_some rb wb _ ws _ h).mono ?_; rintro e w1 ⟨rfl, h1, k1⟩)
    go_ret
    exact BytesOut.yes (b := []) rfl ⟨rfl, h1, k1⟩
  by_cases h0 : x = []
  · subst h0
    go_enter Tryz.func62, Tryz.ntmps62
    go_wp2_with (go_at_call 59; refine (word_some rb wb _ ws _ h).mono ?_; rintro e w1 ⟨rfl, h1, k1⟩)
    exact ⟨rfl, BytesOut.no rfl ⟨rfl, k1⟩⟩
  have hu : Pa.unhexL x = Pa.unhexs x := by unfold Pa.unhexL; rw [if_neg h45, if_neg h0]
  obtain ⟨s, hs⟩ : ∃ s : ByteArray, s = ⟨x.toArray⟩ := ⟨_, rfl⟩
  have hsl : s.toList = x := by rw [hs, ByteArray.toList_eq]
  have hsz : s.size = x.length := by rw [hs]; simp [ByteArray.size]
  have e1 : (s.toList == [45]) = false := by rw [hsl, beq_eq_false_iff_ne]; exact h45
  have e1' : ¬ s.toList = [45] := by rw [hsl]; exact h45
  have e2 : ¬ s.toList = [] := by rw [hsl]; exact h0
  have e3 : s.toList.isEmpty = false := by rw [hsl]; cases x with | nil => exact absurd rfl h0 | cons _ _ => rfl
  have hword := fun (w : World) (h : StR rb wb (x :: ws) w) => word_some rb wb x ws w h
  rw [← hs] at hword
  have HS := Lib.hid hs; clear hs
  have HSL := Lib.hid hsl; clear hsl
  have HU := Lib.hid hu; clear hu h45 h0
  by_cases hev : x.length % 2 = 0
  · have he : ((s.size : Int) % 2 != 0) = false := by rw [bne_eq_false_iff_eq]; omega
    have hl2 : s.size ≤ 1000000 := by omega
    have hbyte : ∀ (j : Nat) (h : j < s.size) (h' : j < x.length), x[j]'h' = s[j] := by
      have := HS.out; subst this; intro j h h'; rfl
    have HB := Lib.hid hbyte; clear hbyte
    obtain ⟨i0, hi, hz0, hz1, hz2⟩ := info_parts infoB
    have HZ := Lib.hid hsz; clear hsz
    have HE := Lib.hid hev; clear hev
    go_enter Tryz.func62, Tryz.ntmps62
    go_wp2_with (go_at_call 59; refine (hword _ h).mono ?_; rintro e w1 ⟨rfl, h1, k1⟩)
    go_loopw [4, 5] (fun v i wr => ∃ (k : Nat) (pre : Pa.Bs), 2 * k ≤ s.size ∧ i = .int .i64 (2 * (k : Int)) ∧ Hid (BRel x k pre) ∧ wr.ownsRow w1.heap.size 5 1 v k (Lib.byteCells pre) ∧ Below w1.heap.size w1 wr) (fun _ i _ => s.size - (intOf i).toNat)
    case atStart => exact ⟨0, [], by omega, rfl, ⟨rfl, by simp⟩, World.ownsRow_nil _ _ _ _, Below.refl _ _⟩
    case round =>
      obtain ⟨k, pre, hk, rfl, HR, hown, hB⟩ := hrel
      by_cases hlt : 2 * k < s.size
      · have hlt1 : 2 * k + 1 < s.size := by have := HE.out; have := HZ.out; omega
        have b1 : (0 : Int) ≤ 2 * (k : Int) := by omega
        have b2 : 2 * (k : Int) < (s.size : Int) := by omega
        have b3 : (0 : Int) ≤ 2 * (k : Int) + 1 := by omega
        have b4 : 2 * (k : Int) + 1 < (s.size : Int) := by omega
        have t1 : (2 * (k : Int)).toNat = 2 * k := by omega
        have t2 : (2 * (k : Int) + 1).toNat = 2 * k + 1 := by omega
        have wr1 : IntKind.i64.wrap (2 * (k : Int) + 1) = 2 * (k : Int) + 1 := IntWalk.i64_in _ (by omega)
        go_wp2
        go_quiet ((go_at_call 80; exact Calls.quiet_of_same (indexByte_hex _ _)))
        have e1x := HB.out (2 * k) hlt (by have := HZ.out; omega)
        have e2x := HB.out (2 * k + 1) hlt1 (by have := HZ.out; omega)
        have hkx : 2 * k + 1 < x.length := by have := HZ.out; omega
        clear wr1
        cases ha : Pa.unhexd s[2 * k] with
        | none =>
          have hx := hexI_none ha
          have HN := Lib.hid (BRel.bad HR.out hkx (.inl (by rw [e1x]; exact ha)))
          clear e1x e2x ha
          go_wp2
          exact ⟨rfl, BytesOut.no (HU.out.trans HN.out) ⟨rfl, k1.on (below_on hB (drewN_below _ _))⟩⟩
        | some m =>
          have hx := hexI_some ha
          have hm := unhexd_lt ha
          cases hb : Pa.unhexd s[2 * k + 1] with
          | none =>
            have hy := hexI_none hb
            have HN := Lib.hid (BRel.bad HR.out hkx (.inr (by rw [e2x]; exact hb)))
            clear e1x e2x ha hb
            go_wp2
            exact ⟨rfl, BytesOut.no (HU.out.trans HN.out) ⟨rfl, k1.on (below_on hB (drewN_below _ _))⟩⟩
          | some n =>
            have hy := hexI_some hb
            have hn := unhexd_lt hb
            have HN := Lib.hid (BRel.next HR.out hkx (by rw [e1x]; exact ha) (by rw [e2x]; exact hb))
            obtain ⟨c, hor, hc⟩ : ∃ c : UInt8, bits .or .i64 ((m : Int) * 16) (n : Int) % 256 = (c.toNat : Int) ∧ c = UInt8.ofNat (16 * m + n) := ⟨_, orB m n hm hn, rfl⟩
            rw [← hc] at HN
            clear e1x e2x ha hb hc HR
            have hkl : k + 1 ≤ 1000000 := by omega
            have hws := hB.size
            go_wp2_with (at_builtin; refine wpList_append_lies _ rfl (.tmp 45) (.tmp 51) 40 rfl w1.heap.size 5 i0 (.int .u8 0) 1 1 Tryz.underlying40 hi hz0 hz1 hz2 rfl (by decide) _ k _ rfl (owns_same hown (fun g hg => Below.heap_alloc _ _ g (owns_lt hown hg))) ⟨wr.heap.size, 0, none⟩ 1 1 [.int .u8 (c.toNat : Int)] rfl rfl (World.news_of_block (heap_alloc_new _ _)) (by simp [Value.oneCell']) (by omega) (by unfold maxLen; omega) (by omega) (by simp; omega) (wr.heap.size + 1) (by simp) ?_; intro g cap w2 hown2 hgrow hat hlt2)
            have hBn : Below w1.heap.size w1 w2 := (Below.alloc (w := wr.drewN nq) (hB.trans ((drewN_below wr nq).mono hws)) hws _).grown hgrow (by simp; omega) (fun j hj => owns_base hown hj)
            have HO := Lib.hid (bytes_own hown2)
            clear hgrow hat hown hown2
            go_roundw
            case rel => exact ⟨k + 1, pre ++ [c], by omega, by go_num, HN.out, HO.out, hBn⟩
            case measure => simp [intOf]; omega
      · have hd := BRel.done HR.out (by have := HZ.out; omega)
        have HD := Lib.hid (HU.out.trans hd); clear hd
        have hk0 : 0 < k := by
          rcases Nat.eq_zero_or_pos k with rfl | h'
          · exact absurd (HSL.out.symm ▸ List.length_eq_zero_iff.1 (by have := HZ.out; omega)) e2
          · exact h'
        obtain ⟨g, cap, rfl, _, _⟩ := hown.form hk0
        have hpl : pre.length = k := HR.out.1
        have hb := run_convert_bytes_back (P := Tryz.prog) wr 40 9 5 ⟨g, 0, none⟩ cap pre Tryz.underlying40 Tryz.underlying5 Tryz.underlying9 (fun j hj => hown.cells (g := g) rfl j _ (by simp [Lib.byteCells, hj]))
        rw [hpl] at hb
        clear hpl
        go_wp2
        go_ret
        exact BytesOut.yes HD.out ⟨rfl, h1.below hB, k1.on hB⟩
  · have he : ((s.size : Int) % 2 != 0) = true := by rw [bne_iff_ne]; omega
    have HE := Lib.hid hev; clear hev
    go_enter Tryz.func62, Tryz.ntmps62
    go_wp2_with (go_at_call 59; refine (hword _ h).mono ?_; rintro e w1 ⟨rfl, h1, k1⟩)
    exact ⟨rfl, BytesOut.no (HU.out.trans (Pa.unhexs_odd x HE.out)) ⟨rfl, k1⟩⟩

theorem Pa.rdBytes_some {ws : List Pa.Bs} {b : Pa.Bs} {r : List Pa.Bs} (h : Pa.rdBytes ws = some (b, r)) : ∃ x, ws = x :: r ∧ Pa.unhexL x = some b := by
  cases ws with
  | nil => simp [Pa.rdBytes, Pa.rdWord] at h
  | cons x t =>
    simp only [Pa.rdBytes, Pa.rdWord, Option.bind_some, Option.map_eq_some_iff] at h
    obtain ⟨b', h1, h2⟩ := h
    cases h2; exact ⟨x, rfl, h1⟩
theorem Pa.rdBytes_none {x : Pa.Bs} {r : List Pa.Bs} (h : Pa.rdBytes (x :: r) = none) : Pa.unhexL x = none := by
  simpa [Pa.rdBytes, Pa.rdWord] using h

theorem rbytes_none (rb wb : Nat) (w : World) (h : StR rb wb [] w) :
    Calls Tryz.prog 62 #[.pointer (some ⟨rb, 0, none⟩)] w fun e w' => e = .panicked badP ∧ Kp (· = rb) w w' := by
  go_enter Tryz.func62, Tryz.ntmps62
  go_wp2_with (go_at_call 59; refine (word_none rb wb _ h).mono ?_; rintro e w1 ⟨rfl, k1⟩)
  exact ⟨rfl, rfl, k1⟩

/-- The reader reads bytes. -/
theorem rbytes_yes (rb wb : Nat) (ws : List Pa.Bs) (b : Pa.Bs) (r : List Pa.Bs) (w : World) (h : StR rb wb ws w) (hr : Pa.rdBytes ws = some (b, r)) :
    Calls Tryz.prog 62 #[.pointer (some ⟨rb, 0, none⟩)] w fun e w' => e = .returned (.string ⟨b.toArray⟩) ∧ StR rb wb r w' ∧ Kp (· = rb) w w' := by
  obtain ⟨x, rfl, ha⟩ := Pa.rdBytes_some hr
  refine (rbytes_word rb wb x r w h).mono fun e w' ho => ?_
  unfold BytesOut at ho; rw [ha] at ho; exact ho
theorem rbytes_no (rb wb : Nat) (ws : List Pa.Bs) (w : World) (h : StR rb wb ws w) (hr : Pa.rdBytes ws = none) :
    Calls Tryz.prog 62 #[.pointer (some ⟨rb, 0, none⟩)] w fun e w' => e = .panicked badP ∧ Kp (· = rb) w w' := by
  cases ws with
  | nil => exact rbytes_none rb wb w h
  | cons x t =>
    refine (rbytes_word rb wb x t w h).mono fun e w' ho => ?_
    unfold BytesOut at ho; rw [Pa.rdBytes_none hr] at ho; exact ho

end Go.Proofs.YtgajoiijebbagaaGreatDoor
