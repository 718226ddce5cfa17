/-
  The walks of addr.Format, the builder's and the reader's tools, equality of calls and actions. Conditions: the library's variables read as laid.
-/
import Derived.Test.YtgajoiijebbagaaGreatDoorShelf
import Derived.Test.YtgajoiijebbagaaGreatDoorWb
import Derived.Test.YtgajoiijebbagaaGreatDoorPln
import Derived.Test.YtgajoiijebbagaaGreatDoorWa
/-! The contracts of (*strings.Builder).WriteString and WriteByte at this translation, out of the kit's own contracts (the kit's tool leaves them out: a branch that the loader refuses takes a type's number out of the closure). Conditions: as each says. -/
namespace Go.Proofs.YtgajoiijebbagaaGreatDoor
open Go.RowKit Go.Proofs

def renB : Go.Shelf.Ren := ⟨fun | 167 => 27 | 240 => 46 | 276 => 71 | n => n, fun | 0 => 0 | 4 => 4 | 5 => 5 | 9 => 9 | 20 => 20 | 37 => 40 | 70 => 55 | 72 => 57 | 75 => 59 | 164 => 102 | 80 => 64 | n => n, fun | n => n⟩
theorem laysB : Go.Proofs.Lays.n167 Tryz.prog renB := {
  mixed := by kernel_rfl
  f167 := Tryz.func27.trans (congrArg some (by kernel_rfl))
  f240 := Tryz.func46.trans (congrArg some (by kernel_rfl))
  f276 := Tryz.func71.trans (congrArg some (by kernel_rfl))
  t0 := Tryz.underlying0
  a0 := Tryz.isAgg0
  z0 := Tryz.sizeOf0
  v0 := Tryz.zeroValue0
  t4 := Tryz.underlying4
  a4 := Tryz.isAgg4
  z4 := Tryz.sizeOf4
  v4 := Tryz.zeroValue4
  t5 := Tryz.underlying5
  a5 := Tryz.isAgg5
  z5 := Tryz.sizeOf5
  v5 := Tryz.zeroValue5
  t9 := Tryz.underlying9
  a9 := Tryz.isAgg9
  z9 := Tryz.sizeOf9
  v9 := Tryz.zeroValue9
  t20 := Tryz.underlying20
  a20 := Tryz.isAgg20
  z20 := Tryz.sizeOf20
  v20 := Tryz.zeroValue20
  t37 := Tryz.underlying40
  a37 := Tryz.isAgg40
  z37 := Tryz.sizeOf40
  v37 := Tryz.zeroValue40
  t70 := Tryz.underlying55
  a70 := Tryz.isAgg55
  z70 := Tryz.sizeOf55
  v70 := Tryz.zeroValue55
  t72 := Tryz.underlying57
  a72 := Tryz.isAgg57
  z72 := Tryz.sizeOf57
  v72 := Tryz.zeroValue57
  t75 := Tryz.underlying59
  a75 := Tryz.isAgg59
  z75 := Tryz.sizeOf59
  v75 := Tryz.zeroValue59
  t164 := Tryz.underlying102
  a164 := Tryz.isAgg102
  z164 := Tryz.sizeOf102
  v164 := Tryz.zeroValue102 }
theorem extraB : Builder.Extra Tryz.prog renB := {
  sizeBuilder := by kernel_rfl
  liesBuilder := by kernel_rfl
  t5 := Tryz.underlying5
  a5 := Tryz.isAgg5
  z5 := Tryz.sizeOf5
  v5 := Tryz.zeroValue5
  infoByte := by kernel_rfl
  cellsByte := by kernel_rfl
  sizeByte := by kernel_rfl
  neB5 := by decide }

abbrev IsB (B b : Nat) (bs : List Value) (w : World) : Prop := Lib.IsBuilder 57 5 B b bs w

theorem b_str (B b : Nat) (bs : List Value) (s : ByteArray) (w : World) (h : IsB B b bs w) (hlen : bs.length + s.size ≤ 140737488355328) (hBw : B ≤ w.heap.size) :
    Calls Tryz.prog 25 #[.pointer (some ⟨b, 0, none⟩), .string s] w fun e w' => e = .returned (.tuple #[.int .i64 s.size, .nilIface]) ∧ (IsB B b (bs ++ Lib.strCells s) w' ∧ Below B w w') :=
  (Any.Builder_WriteString (ρ := Tryz.lays156_ren) { Tryz.lays156 with } Tryz.Builder_Extra_156 B b bs s w h hlen hBw).mono fun _ _ ⟨h1, h2, h3⟩ => ⟨h1, Or.inr h2, h3⟩

theorem b_byte (B b : Nat) (bs : List Value) (c : Int) (w : World) (h : IsB B b bs w) (hlen : bs.length + 1 ≤ 140737488355328) (hBw : B ≤ w.heap.size) :
    Calls Tryz.prog 27 #[.pointer (some ⟨b, 0, none⟩), .int .u8 c] w fun e w' => e = .returned .nilIface ∧ (IsB B b (bs ++ [.int .u8 c]) w' ∧ Below B w w') :=
  (Any.Builder_WriteByte (ρ := renB) laysB extraB B b bs c w h hlen hBw).mono fun _ _ ⟨h1, h2, h3⟩ => ⟨h1, Or.inr h2, h3⟩

theorem b_done (B b : Nat) (l : List UInt8) (w : World) (h : IsB B b (Lib.byteCells l) w) (hBw : B ≤ w.heap.size) :
    Calls Tryz.prog 28 #[.pointer (some ⟨b, 0, none⟩)] w fun e w' => e = .returned (.string ⟨l.toArray⟩) ∧ Below B w w' :=
  Tryz.Builder_String_any B b l w h hBw

end Go.Proofs.YtgajoiijebbagaaGreatDoor

/-! The walks of addr.Format and addr.FormatPrefix. Each contract says what the call returns and that what was there before it is unchanged. Conditions: the library's table of powers of ten reads as its text lays it. -/
namespace Go.Proofs.YtgajoiijebbagaaGreatDoor
open Go.RowKit Go.Proofs

theorem gPow : Tryz.prog.globalNamed "internal/strconv.uint64pow10" = some 1 := by kernel_rfl

/-- What the library's functions want of the world: that its variables read as laid. -/
def Ok (w : World) : Prop := 4 ≤ w.heap.size ∧ (∃ m, w.cell? ⟨0, 0, none⟩ = some (.int .i64 m)) ∧ Lib.TabIs Tryz.prog w "internal/strconv.uint64pow10" .u64 Lib.pow10Tab ∧
  (∃ te pe, w.cell? ⟨2, 0, none⟩ = some (.iface te pe)) ∧ (∃ te pe, w.cell? ⟨3, 0, none⟩ = some (.iface te pe))
theorem Ok.kept {w w' : World} (h : Ok w) (hb : Below 4 w w') : Ok w' := by
  obtain ⟨h1, ⟨m, h2⟩, h3, ⟨t4, p4, h4⟩, t5, p5, h5⟩ := h
  exact ⟨Nat.le_trans h1 hb.size, ⟨m, by rw [hb.cell (by decide)]; exact h2⟩, var?_below hb gPow (by decide) h3, ⟨t4, p4, by rw [hb.cell (by decide)]; exact h4⟩, t5, p5, by rw [hb.cell (by decide)]; exact h5⟩
theorem Ok.below {w w' : World} (h : Ok w) (hb : Below w.heap.size w w') : Ok w' := h.kept (hb.mono h.1)
theorem below_grow {w : World} (k : Nat) (os : Array Obj) : Below w.heap.size w (Sort.grow (w.drewN k) os) :=
  ⟨rfl, rfl, rfl, by simp [Sort.grow], fun j hj => by
    show (w.heap ++ os)[j]? = w.heap[j]?
    rw [Array.getElem?_append_left hj]⟩

theorem itoa_any (n : Int) (w : World) (h0 : 0 ≤ n) (h1 : n ≤ 9223372036854775807) (ok : Ok w) :
    Calls Tryz.prog 41 #[.int .i64 n] w fun e w' => e = .returned (.string ⟨(Pa.dig n.toNat).toArray⟩) ∧ Below w.heap.size w w' :=
  (Tryz.strconv_Itoa n (by omega) h1 w ok.2.2.1).mono fun e w' ⟨he, k, os, hw⟩ => by
    refine ⟨?_, hw ▸ below_grow k os⟩
    rw [he]; unfold Lib.itoa; rw [if_neg (by omega)]; rfl

/-- The block of the four parts behind k rounds. -/
def Parts (B : Nat) (a : Int) (k : Nat) (w : World) : Prop := ∀ j, j < 4 → w.cell? ⟨B, j, none⟩ = some (.string (if j < k then ⟨(Pa.dig (Pa.oct a j)).toArray⟩ else ByteArray.empty)) ∧ w.frozen? ⟨B, j, none⟩ = false
theorem Parts.below {B : Nat} {a : Int} {k : Nat} {w w' : World} (h : Parts B a k w) (hB : B < w.heap.size) (hb : Below w.heap.size w w') : Parts B a k w' :=
  fun j hj => ⟨cell_below hb hB (h j hj).1, frozen_below hb hB (h j hj).2⟩
theorem Parts.store {B : Nat} {a : Int} {k : Nat} {w : World} (h : Parts B a k w) (hk : k < 4) : Parts B a (k + 1) (w.setCell ⟨B, k, none⟩ (.string ⟨(Pa.dig (Pa.oct a k)).toArray⟩)) := by
  intro j hj
  refine ⟨?_, by rw [World.frozen?_setCell]; exact (h j hj).2⟩
  by_cases e : k = j
  · subst e
    rw [World.cell?_setCell_same _ _ _ (h k hk).1, if_pos (by omega)]
  · rw [World.cell?_setCell_other _ _ _ _ (by simp), (h j hj).1]
    by_cases hjk : j < k
    · rw [if_pos hjk, if_pos (by omega)]
    · rw [if_neg hjk, if_neg (by omega)]

theorem Parts.start (a : Int) (w : World) : Parts w.heap.size a 0 (w.alloc (.cells #[.string ⟨#[]⟩, .string ⟨#[]⟩, .string ⟨#[]⟩, .string ⟨#[]⟩] 74)) := by
  intro j hj
  refine ⟨?_, by simp⟩
  match j, hj with
  | 0, _ => simp; rfl
  | 1, _ => simp; rfl
  | 2, _ => simp; rfl
  | 3, _ => simp; rfl

theorem Pa.shr_oct (a : Int) (k : Nat) (h : Pa.validB a = true) (hk : k < 4) : bits .and .i64 (a / 2 ^ (24 - 8 * k)) 255 = (Pa.oct a k : Int) := by
  obtain ⟨h0, h1⟩ := Pa.validB_true.1 h
  obtain ⟨n, rfl⟩ := Int.eq_ofNat_of_zero_le h0
  have e : ∀ m : Nat, m ≤ 4294967295 → bits .and .i64 (m : Int) 255 = ((m % 256 : Nat) : Int) := fun m hm => by
    have := Pa.and_mask (m : Int) 8 (by omega) (by omega) (by omega)
    simpa using this
  unfold Pa.oct
  rw [Int.toNat_natCast]
  match k, hk with
  | 0, _ => simpa using e (n / 16777216) (by omega)
  | 1, _ => simpa using e (n / 65536) (by omega)
  | 2, _ => simpa using e (n / 256) (by omega)
  | 3, _ => simpa using e n (by omega)

set_option maxHeartbeats 400000 in
theorem format_any (a : Int) (w : World) (ok : Ok w) :
    Calls Tryz.prog 21 #[.int .i64 a] w fun e w' => e = .returned (.tuple #[.string ⟨(Pa.fmtS a).toArray⟩, .int .i64 (Pa.errB (Pa.validB a))]) ∧ Below w.heap.size w w' := by
  have OK := Lib.hid ok; clear ok
  cases hv : Pa.validB a with
  | false =>
    have hf : Pa.fmtS a = [] := by unfold Pa.fmtS; rw [hv]; rfl
    have HF := Lib.hid hf; clear hf
    go_enter Tryz.func21, Tryz.ntmps21
    go_wp2_with (go_at_call 23; refine (valid_any _ _).mono ?_; rintro e w' ⟨rfl, rfl⟩)
    go_ret2
    refine ⟨?_, Below.refl _ _⟩
    rw [HF.out]; rfl
  | true =>
    obtain ⟨h0, h1⟩ := Pa.validB_true.1 hv
    have hf : Pa.fmtS a = Pa.fmtL a := by unfold Pa.fmtS; rw [hv]; rfl
    have HF := Lib.hid hf; clear hf
    have HV := Lib.hid hv
    go_enter Tryz.func21, Tryz.ntmps21
    go_wp2_with (go_at_call 23; refine (valid_any _ _).mono ?_; rintro e w' ⟨rfl, rfl⟩)
    clear hv
    go_loopw [10] (fun i wr => ∃ k : Nat, k ≤ 4 ∧ i = .int .i64 k ∧ Hid (Parts w.heap.size a k wr) ∧ Below w.heap.size w wr ∧ w.heap.size < wr.heap.size) (fun i _ => 4 - (intOf i).toNat)
    case atStart => exact ⟨0, by omega, rfl, Parts.start _ _, (Below.refl _ _).alloc (Nat.le_refl _) _, by simp⟩
    case round =>
      obtain ⟨k, hk, rfl, HP, hb, hz⟩ := hrel
      have HB := Lib.hid hb; clear hb
      by_cases hlt : k < 4
      · go_wp2_with fail
        rw [Pa.shr_oct a k HV.out hlt]
        have ho := Pa.oct_lt a k
        refine (itoa_any _ _ (by omega) (by omega) (OK.out.below HB.out)).mono ?_
        rintro e w1 ⟨rfl, hb1⟩
        rw [Int.toNat_natCast]
        have hP1 := HP.out.below hz hb1
        have c1 := (hP1 k hlt).1
        have f1 := (hP1 k hlt).2
        rw [if_neg (Nat.lt_irrefl k)] at c1
        have hz1 : w.heap.size < w1.heap.size := Nat.lt_of_lt_of_le hz hb1.size
        have HP2 := Lib.hid (hP1.store hlt)
        have HB2 := Lib.hid (below_on HB.out hb1)
        clear hP1 hb1 ho
        go_wp2_with fail
        go_roundw
        case rel => exact ⟨k + 1, by omega, by go_num, HP2, HB2.out.setCell (Nat.le_refl _) _, by simpa using hz1⟩
        case measure => simp [intOf]; omega
      · obtain rfl : k = 4 := by omega
        have hl0 := Pa.fmtL_length a
        have hj : Lib.join [Pa.dig (Pa.oct a 0), Pa.dig (Pa.oct a 1), Pa.dig (Pa.oct a 2), Pa.dig (Pa.oct a 3)] [46] = Pa.fmtL a := by
          simp [Lib.join, List.intercalate, Pa.fmtL]
        have HJ := Lib.hid hj; clear hj
        go_wp2_with fail
        refine (Tryz.strings_Join w.heap.size 0 4 [⟨(Pa.dig (Pa.oct a 0)).toArray⟩, ⟨(Pa.dig (Pa.oct a 1)).toArray⟩, ⟨(Pa.dig (Pa.oct a 2)).toArray⟩, ⟨(Pa.dig (Pa.oct a 3)).toArray⟩] ⟨#[46]⟩ wr ?_ hz (by simp) (by simp) ?_).mono ?_
        · intro j x hx
          have := (HP.out j)
          match j with
          | 0 => simp at hx; subst hx; simpa using (HP.out 0 (by omega)).1
          | 1 => simp at hx; subst hx; simpa using (HP.out 1 (by omega)).1
          | 2 => simp at hx; subst hx; simpa using (HP.out 2 (by omega)).1
          | 3 => simp at hx; subst hx; simpa using (HP.out 3 (by omega)).1
          | j + 4 => simp at hx
        · show (Lib.join [Pa.dig (Pa.oct a 0), Pa.dig (Pa.oct a 1), Pa.dig (Pa.oct a 2), Pa.dig (Pa.oct a 3)] [46]).length ≤ _
          rw [HJ.out]; omega
        · rintro e w1 ⟨rfl, hb1⟩
          have HB1 := Lib.hid (below_on HB.out hb1); clear hb1
          go_wp2_with fail
          go_ret2
          refine ⟨ret_strE ?_ rfl, HB1.out⟩
          show (⟨(Lib.join [Pa.dig (Pa.oct a 0), Pa.dig (Pa.oct a 1), Pa.dig (Pa.oct a 2), Pa.dig (Pa.oct a 3)] [46]).toArray⟩ : ByteArray) = _
          rw [HJ.out, HF.out]

end Go.Proofs.YtgajoiijebbagaaGreatDoor

/-! The walks of addr.Parse and addr.ParsePrefix. Each contract says what the call returns and that what was there before it is unchanged. Conditions: the string is at most 1000000 bytes long; the library's variables read as its text lays them. -/
namespace Go.Proofs.YtgajoiijebbagaaGreatDoor
open Go.RowKit

theorem arr_index (x0 x1 x2 x3 : ByteArray) (k : Nat) (hk : k < 4) (w : World) :
    (Instr.index 74 (.agg #[.string x0, .string x1, .string x2, .string x3]) (.int .i64 k)).run Tryz.prog w = .ok (.string ([x0, x1, x2, x3].getD k x0)) w :=
  match k, hk with
  | 0, _ => by kernel_rfl
  | 1, _ => by kernel_rfl
  | 2, _ => by kernel_rfl
  | 3, _ => by kernel_rfl

theorem list_four {α : Type} (l : List α) (h : l.length = 4) : ∃ a b c d, l = [a, b, c, d] := by
  match l, h with
  | [a, b, c, d], _ => exact ⟨a, b, c, d, rfl⟩

set_option maxHeartbeats 400000 in
theorem parse_any (s : ByteArray) (w : World) (hs : s.size ≤ 1000000) (ok : Ok w) :
    Calls Tryz.prog 121 #[.string s] w fun e w' => e = .returned (.tuple #[.int .i64 (Pa.parV s.data.toList), .int .i64 (Pa.errB (Pa.parOk s.data.toList))]) ∧ Below w.heap.size w w' := by
  obtain ⟨_, ⟨m, hm⟩, _⟩ := ok
  have hdat : (Lib.splitB ⟨#[46]⟩ 0 (min 5 (s.size + 1) - 1) s).map (·.data.toList) = Lib.splitK [46] 0 (min 5 (s.data.toList.length + 1) - 1) s.data.toList := by
    rw [Lib.splitB_data, size_len]
  have hlen : (Lib.splitB ⟨#[46]⟩ 0 (min 5 (s.size + 1) - 1) s).length = (Lib.splitK [46] 0 (min 5 (s.data.toList.length + 1) - 1) s.data.toList).length := by
    rw [← hdat, List.length_map]
  have hfive := Pa.splitN_five s.data.toList
  have hcap := Lib.splitB_length_le ⟨#[46]⟩ 0 (min 5 (s.size + 1) - 1) s
  generalize hL : Lib.splitB ⟨#[46]⟩ 0 (min 5 (s.size + 1) - 1) s = L at *
  by_cases h4 : L.length = 4
  · obtain ⟨x0, x1, x2, x3, rfl⟩ := list_four L h4
    have hsp : Pa.splitD s.data.toList = [x0.data.toList, x1.data.toList, x2.data.toList, x3.data.toList] := by
      rcases hfive with h | ⟨h, _⟩
      · rw [← h, ← hdat]; rfl
      · exact absurd (by rw [← hlen]; rfl) h
    have HSP := Lib.hid hsp
    have HL := Lib.hid hL
    have HM := Lib.hid hm
    have hi := arr_index x0 x1 x2 x3
    have hat : ∀ (w : World) (a : Option Addr) (c : Nat), (Instr.arrayAt 74 (.slice a 4 c)).run Tryz.prog w = .ok (.pointer a) w := fun w a c => run_arrayAt w 74 _ 4 a 4 c Tryz.underlying74 (Nat.le_refl _)
    clear hsp hL hm hdat hlen hfive h4
    go_enter Tryz.func121, Tryz.ntmps121
    go_wp2_with fail
    refine (Tryz.strings_SplitN s ⟨#[46]⟩ 5 m w (by omega) HM.out (by decide) (by omega) (by omega)).mono ?_
    rintro e w1 ⟨rfl, hw1⟩
    rw [HL.out] at hw1 ⊢
    have hb1 : Below w.heap.size w w1 := by rw [hw1]; exact (Below.refl _ _).alloc (Nat.le_refl _) _
    have c0 : w1.cell? ⟨w.heap.size, 0, none⟩ = some (.string x0) := by rw [hw1]; simp [Lib.cellsOf]
    have c1 : w1.cell? ⟨w.heap.size, 1, none⟩ = some (.string x1) := by rw [hw1]; simp [Lib.cellsOf]
    have c2 : w1.cell? ⟨w.heap.size, 2, none⟩ = some (.string x2) := by rw [hw1]; simp [Lib.cellsOf]
    have c3 : w1.cell? ⟨w.heap.size, 3, none⟩ = some (.string x3) := by rw [hw1]; simp [Lib.cellsOf]
    have HB1 := Lib.hid hb1; clear hw1 hb1
    simp only [List.length_cons, List.length_nil, Nat.zero_add, Nat.reduceAdd]
    go_wp2_with fail
    clear c0 c1 c2 c3 hat hcap
    go_loop [5, 18] (fun a i => ∃ k A : Nat, k ≤ 4 ∧ A < 256 ^ k ∧ i = .int .i64 k ∧ a = .int .i64 A ∧ Hid (Pa.parseD ((Pa.splitD s.data.toList).take k) 0 = some A)) (fun _ i => 4 - (intOf i).toNat)
    case atStart => exact ⟨0, 0, by omega, by omega, rfl, rfl, rfl⟩
    case round =>
      obtain ⟨k, A, hk, hA, rfl, rfl, HA⟩ := hrel
      have hA4 : A < 4294967296 := Nat.lt_of_lt_of_le hA (Nat.pow_le_pow_right (by omega) hk)
      by_cases hlt : k < 4
      · have hxk : ([x0, x1, x2, x3].getD k x0).data.toList = (Pa.splitD s.data.toList).getD k [] := by
          rw [HSP.out]
          match k, hlt with
          | 0, _ => rfl
          | 1, _ => rfl
          | 2, _ => rfl
          | 3, _ => rfl
        have hik := hi k hlt
        generalize [x0, x1, x2, x3].getD k x0 = xk at *
        have HXK := Lib.hid hxk; clear hxk hi
        have hmem : xk.data.toList ∈ Pa.splitD s.data.toList := by
          rw [HXK.out, List.getD_eq_getElem?_getD, List.getElem?_eq_getElem (by rw [HSP.out]; exact hlt)]
          exact List.getElem_mem _
        have HMEM := Lib.hid hmem; clear hmem
        cases hn : Pa.numL xk.data.toList 255 with
        | none =>
          have HN := Lib.hid (Pa.num_none hn)
          have HP := Lib.hid (Pa.par_none (Pa.parseL_bad HMEM.out hn))
          clear hn
          go_wp2_with fail
          refine (number_any _ 255 _ (by omega)).mono ?_
          rintro e w' ⟨rfl, rfl⟩
          rw [HN.out.1, HN.out.2]
          go_wp2_with fail
          go_ret2
          exact ⟨ret_intE HP.out.1.symm HP.out.2.symm, HB1.out⟩
        | some n =>
          have HN := Lib.hid (Pa.num_some hn)
          have hn255 := Pa.numL_le hn
          have hnext : Pa.parseD ((Pa.splitD s.data.toList).take (k + 1)) 0 = some (256 * A + n) := by
            have hl4 : k < (Pa.splitD s.data.toList).length := by rw [HSP.out]; exact hlt
            rw [Pa.parseD_take _ k hl4, HA.out]
            have : (Pa.splitD s.data.toList)[k] = xk.data.toList := by
              rw [HXK.out, List.getD_eq_getElem?_getD, List.getElem?_eq_getElem hl4]; rfl
            rw [this, hn]; rfl
          have HX := Lib.hid hnext
          clear hn hnext
          go_wp2_with fail
          refine (number_any _ 255 _ (by omega)).mono ?_
          rintro e w' ⟨rfl, rfl⟩
          rw [HN.out.1, HN.out.2]
          go_wp2_with fail
          go_round
          case rel =>
            refine ⟨k + 1, 256 * A + n, by omega, ?_, by go_num, ?_, HX⟩
            · rw [Nat.pow_succ]; omega
            · rw [Pa.or_join (A * 256) n 8 (by omega) (by omega) (by omega) (by omega) (by omega) (by omega)]
              go_num
          case measure => simp [intOf]; omega
      · obtain rfl : k = 4 := by omega
        have hp : Pa.parseL s.data.toList = some A := by
          have h := HA.out
          rw [List.take_of_length_le (by rw [HSP.out]; simp)] at h
          unfold Pa.parseL
          rw [if_pos (by rw [HSP.out]; rfl), h]
        have HP := Lib.hid (Pa.par_some hp)
        clear hp
        go_wp2_with fail
        go_ret2
        exact ⟨ret_intE HP.out.1.symm HP.out.2.symm, HB1.out⟩
  · have hp : Pa.parseL s.data.toList = none := by
      refine Pa.parseL_many ?_
      rcases hfive with h | ⟨_, h⟩
      · rw [← h, ← hlen]; exact h4
      · exact h
    have HP := Lib.hid (Pa.par_none hp)
    have hne : ((L.length : Int) != 4) = true := by rw [bne_iff_ne]; omega
    have HL := Lib.hid hL
    have HM := Lib.hid hm
    clear hp hL hm hdat hlen hfive h4
    go_enter Tryz.func121, Tryz.ntmps121
    go_wp2_with fail
    refine (Tryz.strings_SplitN s ⟨#[46]⟩ 5 m w (by omega) HM.out (by decide) (by omega) (by omega)).mono ?_
    rintro e w1 ⟨rfl, hw1⟩
    rw [HL.out] at hw1 ⊢
    have hb1 : Below w.heap.size w w1 := by rw [hw1]; exact (Below.refl _ _).alloc (Nat.le_refl _) _
    have HB1 := Lib.hid hb1; clear hw1 hb1
    go_wp2_with fail
    go_ret2
    exact ⟨ret_intE HP.out.1.symm HP.out.2.symm, HB1.out⟩

end Go.Proofs.YtgajoiijebbagaaGreatDoor

/-! The walks of script.within, the document's within, the predicate of script.Valid on fates, slices.IndexFunc and slices.ContainsFunc at it. Conditions: as each says. -/
namespace Go.Proofs.YtgajoiijebbagaaGreatDoor
open Go.RowKit Go.Proofs

set_option maxHeartbeats 400000 in
theorem within_any (n lo hi : Int) (w : World) : Calls Tryz.prog 30 #[.int .i64 n, .int .i64 lo, .int .i64 hi] w fun e w' => e = .returned (.bool (Pa.inR n lo hi)) ∧ w = w' := by
  by_cases h0 : lo ≤ n
  · go_enter Tryz.func30, Tryz.ntmps30
    go_wp2
    go_ret
    exact ⟨ret_bool (by simp [Pa.inR, h0]), rfl⟩
  · have hn : Pa.inR n lo hi = false := by rw [Pa.inR_false]; omega
    have HN := Lib.hid hn; clear hn
    go_enter Tryz.func30, Tryz.ntmps30
    go_wp2
    go_ret
    exact ⟨ret_bool HN.out.symm, rfl⟩

set_option maxHeartbeats 400000 in
theorem refWithin_any (n lo hi : Int) (w : World) : Calls Tryz.prog 34 #[.int .i64 n, .int .i64 lo, .int .i64 hi] w fun e w' => e = .returned (.bool (Pa.inR n lo hi)) ∧ w = w' := by
  by_cases h0 : lo ≤ n
  · go_enter Tryz.func34, Tryz.ntmps34
    go_wp2
    go_ret
    exact ⟨ret_bool (by simp [Pa.inR, h0]), rfl⟩
  · have hn : Pa.inR n lo hi = false := by rw [Pa.inR_false]; omega
    have HN := Lib.hid hn; clear hn
    go_enter Tryz.func34, Tryz.ntmps34
    go_wp2
    go_ret
    exact ⟨ret_bool HN.out.symm, rfl⟩

theorem fate_any (n : Int) (w : World) : Calls Tryz.prog 33 #[.int .i64 n] w fun e w' => e = .returned (.bool (!Pa.inR n 0 24)) ∧ w = w' := by
  go_enter Tryz.func33, Tryz.ntmps33
  go_wp2_with (go_at_call 30; refine (within_any _ _ _ _).mono ?_; rintro e w' ⟨rfl, rfl⟩)
  go_ret
  exact ⟨rfl, rfl⟩

def Pa.allF (xs : List Int) : Bool := xs.all fun f => Pa.inR f 0 24
theorem Pa.allF_snoc (xs : List Int) (k : Nat) (h : k < xs.length) : Pa.allF (xs.take (k + 1)) = (Pa.allF (xs.take k) && Pa.inR xs[k] 0 24) := by
  unfold Pa.allF; rw [List.take_add_one, List.all_append, List.getElem?_eq_getElem h]; simp
/-- A slice value that holds these integers. -/
def Fs (w : World) (v : Value) (xs : List Int) : Prop := ∃ (a : Option Addr) (c : Nat), v = .slice a xs.length c ∧ (xs ≠ [] → ∃ b o, a = some ⟨b, o, none⟩ ∧ b < w.heap.size ∧ ∀ (j : Nat) (h : j < xs.length), w.cell? ⟨b, o + j, none⟩ = some (.int .i64 xs[j]))
theorem Fs.below {w w' : World} {v : Value} {xs : List Int} (h : Fs w v xs) (hb : Below w.heap.size w w') : Fs w' v xs := by
  obtain ⟨a, c, h1, h2⟩ := h
  refine ⟨a, c, h1, fun h0 => ?_⟩
  obtain ⟨b, o, h3, h4, h5⟩ := h2 h0
  exact ⟨b, o, h3, Nat.lt_of_lt_of_le h4 hb.size, fun j hj => cell_below hb h4 (h5 j hj)⟩

set_option maxHeartbeats 400000 in
theorem indexFunc_any (v : Value) (xs : List Int) (w : World) (hv : Fs w v xs) (hl : xs.length ≤ 9223372036854775807) :
    Calls Tryz.prog 52 #[v, .func (.func 33) #[] #[]] w fun e w' => (∃ i : Int, e = .returned (.int .i64 i) ∧ (0 ≤ i ↔ Pa.allF xs = false)) ∧ w = w' := by
  obtain ⟨a, c, rfl, hc⟩ := hv
  go_enter Tryz.func52, Tryz.ntmps52
  go_wp2
  go_loop [8] (fun i => ∃ k : Nat, k ≤ xs.length ∧ i = .int .i64 k ∧ Pa.allF (xs.take k) = true) (fun i => xs.length - (intOf i).toNat)
  case atStart => exact ⟨0, Nat.zero_le _, rfl, rfl⟩
  case round =>
    obtain ⟨k, hk, rfl, hall⟩ := hrel
    have HALL := Lib.hid hall; clear hall
    by_cases hlt : k < xs.length
    · obtain ⟨b, o, rfl, hb, hcell⟩ := hc (fun e => by simp [e] at hlt)
      have hck := hcell k hlt
      by_cases hx : Pa.inR xs[k] 0 24 = true
      · have hne : (!Pa.inR xs[k] 0 24) = false := by rw [hx]; rfl
        have HX := Lib.hid hx; clear hx
        go_wp2_with (go_at_call 33; refine (fate_any _ _).mono ?_; rintro e w' ⟨rfl, rfl⟩)
        go_round
        case rel =>
          refine ⟨k + 1, by omega, by go_num, ?_⟩
          rw [Pa.allF_snoc _ _ hlt, HALL.out, HX.out]; rfl
        case measure => simp [intOf]; omega
      · have hf : Pa.allF xs = false := by
          rw [Bool.eq_false_iff]; intro h; exact hx (List.all_eq_true.1 h _ (List.getElem_mem hlt))
        have hne : (!Pa.inR xs[k] 0 24) = true := by simpa using hx
        have HF := Lib.hid hf; clear hf hx
        go_wp2_with (go_at_call 33; refine (fate_any _ _).mono ?_; rintro e w' ⟨rfl, rfl⟩)
        go_ret
        exact ⟨⟨_, rfl, by rw [HF.out]; simp⟩, rfl⟩
    · have hke : xs.take k = xs := List.take_of_length_le (by omega)
      rw [hke] at HALL
      go_wp2
      go_ret
      exact ⟨⟨_, rfl, by rw [HALL.out]; simp⟩, rfl⟩

set_option maxHeartbeats 400000 in
theorem containsFunc_any (v : Value) (xs : List Int) (w : World) (hv : Fs w v xs) (hl : xs.length ≤ 9223372036854775807) :
    Calls Tryz.prog 32 #[v, .func (.func 33) #[] #[]] w fun e w' => e = .returned (.bool (!Pa.allF xs)) ∧ w = w' := by
  go_enter Tryz.func32, Tryz.ntmps32
  go_wp2_with (go_at_call 52; refine (indexFunc_any _ xs _ hv hl).mono ?_; rintro e w' ⟨⟨i, rfl, hi⟩, rfl⟩)
  go_ret
  refine ⟨ret_bool ?_, rfl⟩
  cases h : Pa.allF xs <;> simp_all

end Go.Proofs.YtgajoiijebbagaaGreatDoor

/-! The walk of script.Same and the document's Same. Conditions: the fates lie in memory. -/
namespace Go.Proofs.YtgajoiijebbagaaGreatDoor
open Go.RowKit Go.Proofs

def clV (c : Pa.Cl) : Value := .agg #[.int .i64 c.kind, .int .i64 c.sock, .int .i64 c.addr, .int .i64 c.port, .int .i64 c.n, .string c.s, .int .i64 c.here, .int .i64 c.mss]
def acV (a : Pa.Ac) (fv : Value) : Value := .agg #[.int .i64 a.kind, .int .i64 a.host, .int .i64 a.call.kind, .int .i64 a.call.sock, .int .i64 a.call.addr, .int .i64 a.call.port, .int .i64 a.call.n, .string a.call.s, .int .i64 a.call.here, .int .i64 a.call.mss, .int .i64 a.n, fv, .string a.s]

theorem eqCall (k1 k2 a1 a2 b1 b2 c1 c2 d1 d2 g1 g2 h1 h2 : Int) (s1 s2 : ByteArray) (w : World) : (binOp .eql 24 (.agg #[.int .i64 k1, .int .i64 a1, .int .i64 b1, .int .i64 c1, .int .i64 d1, .string s1, .int .i64 g1, .int .i64 h1])
    (.agg #[.int .i64 k2, .int .i64 a2, .int .i64 b2, .int .i64 c2, .int .i64 d2, .string s2, .int .i64 g2, .int .i64 h2])).run Tryz.prog w = .ok (.bool (decide ((⟨k1, a1, b1, c1, d1, s1, g1, h1⟩ : Pa.Cl) = ⟨k2, a2, b2, c2, d2, s2, g2, h2⟩))) w := by
  rw [run_eql_struct, run_equalIn_struct w 9999 _ _ _ (by kernel_rfl) (by kernel_rfl)]
  simp only [Program.fieldsOf, Tryz.underlying24]
  simp [go_sem, Op.eqFields, part]
  have hs : s1.toList = s2.toList ↔ s1 = s2 := by
    rw [ByteArray.toList_eq, ByteArray.toList_eq]
    exact ⟨fun h => ByteArray.ext (Array.toList_inj.1 h), fun h => by rw [h]⟩
  simp only [hs]
  repeat' split
  all_goals simp_all

theorem bytes_iff (s t : ByteArray) : s.toList = t.toList ↔ s = t := by
  rw [ByteArray.toList_eq, ByteArray.toList_eq]
  exact ⟨fun h => ByteArray.ext (Array.toList_inj.1 h), fun h => by rw [h]⟩

theorem bytes_beq (s t : ByteArray) : (s.toList == t.toList) = decide (s = t) := by
  by_cases h : s = t
  · simp [h]
  · have : s.toList ≠ t.toList := fun e => h ((bytes_iff s t).1 e)
    simp [h, this]

theorem drewN_below (w : World) (q : Nat) : Below w.heap.size w (w.drewN q) := by
  induction q with
  | zero => exact Below.refl _ _
  | succ n ih => exact ih.drew

theorem equalFs (fa fb : Value) (xs ys : List Int) (w : World) (ha : Fs w fa xs) (hb : Fs w fb ys) (hl : xs.length ≤ 9223372036854775807) (hl' : ys.length ≤ 9223372036854775807) :
    Calls Tryz.prog 37 #[fa, fb] w fun e w' => e = .returned (.bool (decide (xs = ys))) ∧ Below w.heap.size w w' := by
  obtain ⟨va, ca, rfl, hca⟩ := ha
  obtain ⟨vb, cb, rfl, hcb⟩ := hb
  by_cases hn : xs.length = ys.length
  · by_cases h0 : xs = []
    · subst h0
      refine (Tryz.slices_Equal_int_empty va vb ca ys.length cb w hl').mono ?_
      rintro e w' ⟨rfl, rfl⟩
      refine ⟨ret_bool ?_, Below.refl _ _⟩
      have : ys.length = 0 := by simpa using hn.symm
      rw [this, List.length_eq_zero_iff.1 this]; rfl
    · have h0' : ys ≠ [] := fun e => h0 (List.length_eq_zero_iff.1 (by rw [hn, e]; rfl))
      obtain ⟨b1, o1, rfl, _, hc1⟩ := hca h0
      obtain ⟨b2, o2, rfl, _, hc2⟩ := hcb h0'
      refine (Tryz.slices_Equal_int b1 o1 xs.length ca b2 o2 ys.length cb xs ys w (Nat.le_refl _) (Nat.le_refl _) hl hl' (fun j hj => by rw [hc1 j hj]; simp [hj]) (fun j hj => by rw [hc2 j hj]; simp [hj])).mono ?_
      rintro e w' ⟨rfl, q, rfl⟩
      refine ⟨ret_bool ?_, drewN_below w q⟩
      rw [List.take_length, List.take_length]
      by_cases h : xs = ys <;> simp [h]
  · refine (Tryz.slices_Equal_int_lens va vb xs.length ca ys.length cb w hn).mono ?_
    rintro e w' ⟨rfl, rfl⟩
    refine ⟨ret_bool ?_, Below.refl _ _⟩
    have : xs ≠ ys := fun e => hn (by rw [e])
    simp [this]

set_option maxHeartbeats 400000 in
theorem same_any (a b : Pa.Ac) (fa fb : Value) (w : World) (ha : Fs w fa a.fates) (hb : Fs w fb b.fates) (hl : a.fates.length ≤ 9223372036854775807) (hl' : b.fates.length ≤ 9223372036854775807) :
    Calls Tryz.prog 16 #[acV a fa, acV b fb] w fun e w' => e = .returned (.bool (decide (a = b))) ∧ Below w.heap.size w w' := by
  have hq := eqCall
  have HA := Lib.hid ha; have HB := Lib.hid hb
  unfold acV
  obtain ⟨va, ca, rfl, -⟩ := ha
  obtain ⟨vb, cb, rfl, -⟩ := hb
  obtain ⟨k1, h1, ⟨x1, x2, x3, x4, x5, x6, x7, x8⟩, n1, f1, s1⟩ := a
  obtain ⟨k2, h2, ⟨y1, y2, y3, y4, y5, y6, y7, y8⟩, n2, f2, s2⟩ := b
  go_enter Tryz.func16, Tryz.ntmps16
  go_wp2_with (go_at_call 37; refine (equalFs _ _ f1 f2 _ (HA.out.below ?_) (HB.out.below ?_) hl hl').mono ?_; rotate_left 2; (rintro e w4 ⟨rfl, hb4⟩; have g1 : w4.cell? ⟨w.heap.size, 12, none⟩ = some (.string s1) := cell_below hb4 (by simp; omega) (by simp); have g2 : w4.cell? ⟨w.heap.size + 1, 12, none⟩ = some (.string s2) := cell_below hb4 (by simp) (by simp)))
  all_goals first
    | exact ((Below.refl _ _).alloc (Nat.le_refl _) _).alloc (by simp) _
    | (go_ret; exact ⟨rfl, ((Below.refl _ _).alloc (Nat.le_refl _) _).alloc (by simp) _⟩)
    | (go_ret; refine ⟨ret_bool ?_, below_on (((Below.refl _ _).alloc (Nat.le_refl _) _).alloc (by simp) _) hb4⟩; simp_all; done)
    | (go_ret; refine ⟨ret_bool ?_, below_on (((Below.refl _ _).alloc (Nat.le_refl _) _).alloc (by simp) _) hb4⟩; simp_all; exact bytes_beq _ _)

end Go.Proofs.YtgajoiijebbagaaGreatDoor

/-! A FRAME FOR CALLS THAT WRITE INTO SOME OLD BLOCKS: 'Kp S w w'': outside the blocks S nothing that was there has changed. And the state of script's reader: a slice of words behind a pointer. Conditions: none. -/
namespace Go.Proofs.YtgajoiijebbagaaGreatDoor
open Go.RowKit Go.Proofs

structure Kp (S : Nat → Prop) (w w' : World) : Prop where
  os : w'.os = w.os
  tape : w'.tape = w.tape
  output : w'.output = w.output
  size : w.heap.size ≤ w'.heap.size
  block : ∀ k, k < w.heap.size → ¬ S k → w'.heap[k]? = w.heap[k]?

theorem Kp.refl (S : Nat → Prop) (w : World) : Kp S w w := ⟨rfl, rfl, rfl, Nat.le_refl _, fun _ _ _ => rfl⟩
theorem Kp.trans {S : Nat → Prop} {a b c : World} (h : Kp S a b) (k : Kp S b c) : Kp S a c :=
  ⟨k.os.trans h.os, k.tape.trans h.tape, k.output.trans h.output, Nat.le_trans h.size k.size, fun i hi hs => (k.block i (Nat.lt_of_lt_of_le hi h.size) hs).trans (h.block i hi hs)⟩
theorem Kp.mono {S T : Nat → Prop} {a b : World} (h : Kp S a b) (hs : ∀ k, k < a.heap.size → S k → T k) : Kp T a b := ⟨h.os, h.tape, h.output, h.size, fun k hk ht => h.block k hk fun hS => ht (hs k hk hS)⟩
theorem Kp.drew {S : Nat → Prop} {a w : World} (h : Kp S a w) : Kp S a w.drew := ⟨h.os, h.tape, h.output, h.size, h.block⟩
theorem Kp.of_below {S : Nat → Prop} {a b : World} (h : Below a.heap.size a b) : Kp S a b := ⟨h.os, h.tape, h.output, h.size, fun k hk _ => h.block k hk⟩
theorem Kp.on {S : Nat → Prop} {a b c : World} (h : Kp S a b) (k : Below b.heap.size b c) : Kp S a c := h.trans (.of_below k)
theorem Kp.alloc {S : Nat → Prop} {a w : World} (h : Kp S a w) (o : Obj) : Kp S a (w.alloc o) := h.on ((Below.refl _ _).alloc (Nat.le_refl _) o)
theorem Kp.setCell {S : Nat → Prop} {a w : World} (h : Kp S a w) {p : Addr} (hp : S p.block ∨ a.heap.size ≤ p.block) (u : Value) : Kp S a (w.setCell p u) := by
  refine ⟨h.os, h.tape, h.output, by simpa [World.setCell] using h.size, fun k hk hs => (Below.heap_setCell _ _ _ _ ?_).trans (h.block k hk hs)⟩
  rintro rfl
  rcases hp with hp | hp
  · exact hs hp
  · omega
theorem Kp.below {S : Nat → Prop} {w w' : World} {B : Nat} (h : Kp S w w') (hB : B ≤ w.heap.size) (hs : ∀ k, k < B → ¬ S k) : Below B w w' :=
  ⟨h.os, h.tape, h.output, h.size, fun k hk => h.block k (Nat.lt_of_lt_of_le hk hB) (hs k hk)⟩
theorem Kp.cell {S : Nat → Prop} {w w' : World} (h : Kp S w w') {b o : Nat} (hb : b < w.heap.size) (hs : ¬ S b) : w'.cell? ⟨b, o, none⟩ = w.cell? ⟨b, o, none⟩ := World.cell?_of_block (w := w) (h.block b hb hs)
theorem Kp.frozen {S : Nat → Prop} {w w' : World} (h : Kp S w w') {b o : Nat} (hb : b < w.heap.size) (hs : ¬ S b) : w'.frozen? ⟨b, o, none⟩ = w.frozen? ⟨b, o, none⟩ := World.frozen?_of_block (w := w) (h.block b hb hs)
/-- What is written behind B alone leaves below B all as it was. -/
theorem Kp.up {S : Nat → Prop} {a w w' : World} {B : Nat} (h : Below B a w) (k : Kp S w w') (hB : B ≤ w.heap.size) (hs : ∀ k, k < B → ¬ S k) : Below B a w' := h.trans (k.below hB hs)

end Go.Proofs.YtgajoiijebbagaaGreatDoor
