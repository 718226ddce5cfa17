/-
  The walks of addr.Format and addr.FormatPrefix. Each contract says what the call returns and that what was there before it is unchanged. Conditions: the library's table of powers of ten reads as its text lays it.
-/
import Derived.Test.YtgajoiijebbagaaGreatDoorWalkJ
import Derived.Test.YtgajoiijebbagaaGreatDoorShelf
namespace Go.Proofs.YtgajoiijebbagaaGreatDoor
open Go.RowKit Go.Proofs

theorem gPow : Tryz.prog.globalNamed "internal/strconv.uint64pow10" = some 1 := by kernel_rfl

/-- What the library's functions want of the world: that its variables read as laid. -/
def Ok (w : World) : Prop := 4 ≤ w.heap.size ∧ (∃ m, w.cell? ⟨0, 0, none⟩ = some (.int .i64 m)) ∧ Lib.TabIs Tryz.prog w "internal/strconv.uint64pow10" .u64 Lib.pow10Tab ∧
  (∃ te pe, w.cell? ⟨2, 0, none⟩ = some (.iface te pe)) ∧ (∃ te pe, w.cell? ⟨3, 0, none⟩ = some (.iface te pe))
theorem Ok.kept {w w' : World} (h : Ok w) (hb : Below 4 w w') : Ok w' := by
  obtain ⟨h1, ⟨m, h2⟩, h3, ⟨t4, p4, h4⟩, t5, p5, h5⟩ := h
  exact ⟨Nat.le_trans h1 hb.size, ⟨m, by rw [hb.cell (by decide)]; exact h2⟩, var?_below hb gPow (by decide) h3, ⟨t4, p4, by rw [hb.cell (by decide)]; exact h4⟩, t5, p5, by rw [hb.cell (by decide)]; exact h5⟩
theorem Ok.below {w w' : World} (h : Ok w) (hb : Below w.heap.size w w') : Ok w' := h.kept (hb.mono h.1)
theorem below_grow {w : World} (k : Nat) (os : Array Obj) : Below w.heap.size w (Sort.grow (w.drewN k) os) :=
  ⟨rfl, rfl, rfl, by simp [Sort.grow], fun j hj => by
    show (w.heap ++ os)[j]? = w.heap[j]?
    rw [Array.getElem?_append_left hj]⟩

theorem itoa_any (n : Int) (w : World) (h0 : 0 ≤ n) (h1 : n ≤ 9223372036854775807) (ok : Ok w) :
    Calls Tryz.prog 41 #[.int .i64 n] w fun e w' => e = .returned (.string ⟨(Pa.dig n.toNat).toArray⟩) ∧ Below w.heap.size w w' :=
  (Tryz.strconv_Itoa n (by omega) h1 w ok.2.2.1).mono fun e w' ⟨he, k, os, hw⟩ => by
    refine ⟨?_, hw ▸ below_grow k os⟩
    rw [he]; unfold Lib.itoa; rw [if_neg (by omega)]; rfl

/-- The block of the four parts behind k rounds. -/
def Parts (B : Nat) (a : Int) (k : Nat) (w : World) : Prop := ∀ j, j < 4 → w.cell? ⟨B, j, none⟩ = some (.string (if j < k then ⟨(Pa.dig (Pa.oct a j)).toArray⟩ else ByteArray.empty)) ∧ w.frozen? ⟨B, j, none⟩ = false
theorem Parts.below {B : Nat} {a : Int} {k : Nat} {w w' : World} (h : Parts B a k w) (hB : B < w.heap.size) (hb : Below w.heap.size w w') : Parts B a k w' :=
  fun j hj => ⟨cell_below hb hB (h j hj).1, frozen_below hb hB (h j hj).2⟩
theorem Parts.store {B : Nat} {a : Int} {k : Nat} {w : World} (h : Parts B a k w) (hk : k < 4) : Parts B a (k + 1) (w.setCell ⟨B, k, none⟩ (.string ⟨(Pa.dig (Pa.oct a k)).toArray⟩)) := by
  intro j hj
  refine ⟨?_, by rw [World.frozen?_setCell]; exact (h j hj).2⟩
  by_cases e : k = j
  · subst e
    rw [World.cell?_setCell_same _ _ _ (h k hk).1, if_pos (by omega)]
  · rw [World.cell?_setCell_other _ _ _ _ (by simp), (h j hj).1]
    by_cases hjk : j < k
    · rw [if_pos hjk, if_pos (by omega)]
    · rw [if_neg hjk, if_neg (by omega)]

theorem Parts.start (a : Int) (w : World) : Parts w.heap.size a 0 (w.alloc (.cells #[.string ⟨#[]⟩, .string ⟨#[]⟩, .string ⟨#[]⟩, .string ⟨#[]⟩] 74)) := by
  intro j hj
  refine ⟨?_, by simp⟩
  match j, hj with
  | 0, _ => simp; rfl
  | 1, _ => simp; rfl
  | 2, _ => simp; rfl
  | 3, _ => simp; rfl

theorem Pa.shr_oct (a : Int) (k : Nat) (h : Pa.validB a = true) (hk : k < 4) : bits .and .i64 (a / 2 ^ (24 - 8 * k)) 255 = (Pa.oct a k : Int) := by
  obtain ⟨h0, h1⟩ := Pa.validB_true.1 h
  obtain ⟨n, rfl⟩ := Int.eq_ofNat_of_zero_le h0
  have e : ∀ m : Nat, m ≤ 4294967295 → bits .and .i64 (m : Int) 255 = ((m % 256 : Nat) : Int) := fun m hm => by
    have := Pa.and_mask (m : Int) 8 (by omega) (by omega) (by omega)
    simpa using this
  unfold Pa.oct
  rw [Int.toNat_natCast]
  match k, hk with
  | 0, _ => simpa using e (n / 16777216) (by omega)
  | 1, _ => simpa using e (n / 65536) (by omega)
  | 2, _ => simpa using e (n / 256) (by omega)
  | 3, _ => simpa using e n (by omega)

set_option maxHeartbeats 400000 in
theorem format_any (a : Int) (w : World) (ok : Ok w) :
    Calls Tryz.prog 21 #[.int .i64 a] w fun e w' => e = .returned (.tuple #[.string ⟨(Pa.fmtS a).toArray⟩, .int .i64 (Pa.errB (Pa.validB a))]) ∧ Below w.heap.size w w' := by
  have OK := Lib.hid ok; clear ok
  cases hv : Pa.validB a with
  | false =>
    have hf : Pa.fmtS a = [] := by unfold Pa.fmtS; rw [hv]; rfl
    have HF := Lib.hid hf; clear hf
    go_enter Tryz.func21, Tryz.ntmps21
    go_wp2_with (go_at_call 23; refine (valid_any _ _).mono ?_; rintro e w' ⟨rfl, rfl⟩)
    go_ret2
    refine ⟨?_, Below.refl _ _⟩
    rw [HF.out]; rfl
  | true =>
    obtain ⟨h0, h1⟩ := Pa.validB_true.1 hv
    have hf : Pa.fmtS a = Pa.fmtL a := by unfold Pa.fmtS; rw [hv]; rfl
    have HF := Lib.hid hf; clear hf
    have HV := Lib.hid hv
    go_enter Tryz.func21, Tryz.ntmps21
    go_wp2_with (go_at_call 23; refine (valid_any _ _).mono ?_; rintro e w' ⟨rfl, rfl⟩)
    clear hv
    go_loopw [10] (fun i wr => ∃ k : Nat, k ≤ 4 ∧ i = .int .i64 k ∧ Hid (Parts w.heap.size a k wr) ∧ Below w.heap.size w wr ∧ w.heap.size < wr.heap.size) (fun i _ => 4 - (intOf i).toNat)
    case atStart => exact ⟨0, by omega, rfl, Parts.start _ _, (Below.refl _ _).alloc (Nat.le_refl _) _, by simp⟩
    case round =>
      obtain ⟨k, hk, rfl, HP, hb, hz⟩ := hrel
      have HB := Lib.hid hb; clear hb
      by_cases hlt : k < 4
      · go_wp2_with fail
        rw [Pa.shr_oct a k HV.out hlt]
        have ho := Pa.oct_lt a k
        refine (itoa_any _ _ (by omega) (by omega) (OK.out.below HB.out)).mono ?_
        rintro e w1 ⟨rfl, hb1⟩
        rw [Int.toNat_natCast]
        have hP1 := HP.out.below hz hb1
        have c1 := (hP1 k hlt).1
        have f1 := (hP1 k hlt).2
        rw [if_neg (Nat.lt_irrefl k)] at c1
        have hz1 : w.heap.size < w1.heap.size := Nat.lt_of_lt_of_le hz hb1.size
        have HP2 := Lib.hid (hP1.store hlt)
        have HB2 := Lib.hid (below_on HB.out hb1)
        clear hP1 hb1 ho
        go_wp2_with fail
        go_roundw
        case rel => exact ⟨k + 1, by omega, by go_num, HP2, HB2.out.setCell (Nat.le_refl _) _, by simpa using hz1⟩
        case measure => simp [intOf]; omega
      · obtain rfl : k = 4 := by omega
        have hl0 := Pa.fmtL_length a
        have hj : Lib.join [Pa.dig (Pa.oct a 0), Pa.dig (Pa.oct a 1), Pa.dig (Pa.oct a 2), Pa.dig (Pa.oct a 3)] [46] = Pa.fmtL a := by
          simp [Lib.join, List.intercalate, Pa.fmtL]
        have HJ := Lib.hid hj; clear hj
        go_wp2_with fail
        refine (Tryz.strings_Join w.heap.size 0 4 [⟨(Pa.dig (Pa.oct a 0)).toArray⟩, ⟨(Pa.dig (Pa.oct a 1)).toArray⟩, ⟨(Pa.dig (Pa.oct a 2)).toArray⟩, ⟨(Pa.dig (Pa.oct a 3)).toArray⟩] ⟨#[46]⟩ wr ?_ hz (by simp) (by simp) ?_).mono ?_
        · intro j x hx
          have := (HP.out j)
          match j with
          | 0 => simp at hx; subst hx; simpa using (HP.out 0 (by omega)).1
          | 1 => simp at hx; subst hx; simpa using (HP.out 1 (by omega)).1
          | 2 => simp at hx; subst hx; simpa using (HP.out 2 (by omega)).1
          | 3 => simp at hx; subst hx; simpa using (HP.out 3 (by omega)).1
          | j + 4 => simp at hx
        · show (Lib.join [Pa.dig (Pa.oct a 0), Pa.dig (Pa.oct a 1), Pa.dig (Pa.oct a 2), Pa.dig (Pa.oct a 3)] [46]).length ≤ _
          rw [HJ.out]; omega
        · rintro e w1 ⟨rfl, hb1⟩
          have HB1 := Lib.hid (below_on HB.out hb1); clear hb1
          go_wp2_with fail
          go_ret2
          refine ⟨ret_strE ?_ rfl, HB1.out⟩
          show (⟨(Lib.join [Pa.dig (Pa.oct a 0), Pa.dig (Pa.oct a 1), Pa.dig (Pa.oct a 2), Pa.dig (Pa.oct a 3)] [46]).toArray⟩ : ByteArray) = _
          rw [HJ.out, HF.out]

end Go.Proofs.YtgajoiijebbagaaGreatDoor
