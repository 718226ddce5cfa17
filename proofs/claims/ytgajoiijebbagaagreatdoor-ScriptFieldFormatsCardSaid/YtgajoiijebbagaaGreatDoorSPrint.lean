/-
  The walk of script.Print. It says which text it gives for every script in memory, and that what was there is unchanged. Conditions: the library's variables read as laid.
-/
import Derived.Test.YtgajoiijebbagaaGreatDoorSAct1
namespace Go.Proofs.YtgajoiijebbagaaGreatDoor
open Go.RowKit Go.Proofs

theorem isB_below {B b : Nat} {bs : List Value} {w w' : World} (h : IsB B b bs w) (hb : Below w.heap.size w w') : IsB B b bs w' := by
  rcases h with ⟨h1, v, h2, h3, h4⟩ | ⟨h1, v, h2, h3, h4⟩
  · exact Or.inl ⟨h1, v, (hb.block b (Array.getElem?_eq_some_iff.1 h2).1).trans h2, owns_same h3 (fun g hg => hb.block g (owns_lt h3 hg)), h4⟩
  · exact Or.inr ⟨h1, v, (hb.block b (Array.getElem?_eq_some_iff.1 h2).1).trans h2, owns_same h3 (fun g hg => hb.block g (owns_lt h3 hg)), h4⟩

/-- A slice value that holds these actions. -/
def Acts (w : World) (v : Value) (l : List Pa.Ac) : Prop := ∃ (a : Option Addr) (c : Nat) (fv : Nat → Value), v = .slice a l.length c ∧ l.length ≤ c ∧
  (∀ (j : Nat) (h : j < l.length), Fs w (fv j) l[j].fates ∧ l[j].fates.length ≤ 9223372036854775807) ∧
  (l ≠ [] → ∃ b o, a = some ⟨b, o, none⟩ ∧ b < w.heap.size ∧ ∀ (j : Nat) (h : j < l.length) (i : Nat) u, (acCells l[j] (fv j))[i]? = some u → w.cell? ⟨b, o + j * 13 + i, none⟩ = some u)
theorem Acts.below {w w' : World} {v : Value} {l : List Pa.Ac} (h : Acts w v l) (hb : Below w.heap.size w w') : Acts w' v l := by
  obtain ⟨a, c, fv, h1, h2, h3, h4⟩ := h
  refine ⟨a, c, fv, h1, h2, fun j hj => ⟨(h3 j hj).1.below hb, (h3 j hj).2⟩, fun h0 => ?_⟩
  obtain ⟨b, o, h5, h6, h7⟩ := h4 h0
  exact ⟨b, o, h5, Nat.lt_of_lt_of_le h6 hb.size, fun j hj i u hu => cell_below hb h6 (h7 j hj i u hu)⟩

def Pa.prS (l : List Pa.Ac) : Pa.Bs := (Pa.printA l).getD []
def Pa.prE (l : List Pa.Ac) : Int := if (Pa.printA l).isSome then 0 else 270
theorem Pa.pr_none {l : List Pa.Ac} (h : Pa.printA l = none) : Pa.prS l = [] ∧ Pa.prE l = 270 := by simp [Pa.prS, Pa.prE, h]
theorem Pa.pr_some {l : List Pa.Ac} {t : Pa.Bs} (h : Pa.printA l = some t) : Pa.prS l = t ∧ Pa.prE l = 0 := by simp [Pa.prS, Pa.prE, h]

/-- What Print ends in. -/
def POut (l : List Pa.Ac) (w : World) (e : Ending) (w' : World) : Prop := e = .returned (.tuple #[.string ⟨(Pa.prS l).toArray⟩, .int .i64 (Pa.prE l)]) ∧ Below w.heap.size w w'
theorem POut.no {l : List Pa.Ac} {w : World} {e : Ending} {w' : World} (h : Pa.printA l = none) (h' : e = .returned (.tuple #[.string ⟨#[]⟩, .int .i64 270]) ∧ Below w.heap.size w w') : POut l w e w' := by
  unfold POut; rw [(Pa.pr_none h).1, (Pa.pr_none h).2]; exact h'
theorem POut.yes {l : List Pa.Ac} {t : Pa.Bs} {w : World} {e : Ending} {w' : World} (h : Pa.printA l = some t) (h' : e = .returned (.tuple #[.string ⟨t.toArray⟩, .int .i64 0]) ∧ Below w.heap.size w w') : POut l w e w' := by
  unfold POut; rw [(Pa.pr_some h).1, (Pa.pr_some h).2]; exact h'

theorem Pa.text_len : ∀ l : List Pa.Ac, (∀ a ∈ l, Pa.okA a = true) → (Pa.textA l).length ≤ 8001 * l.length
  | [], _ => by simp [Pa.textA]
  | a :: l, h => by
    have h1 := Pa.line_len (h a (by simp))
    have h2 := Pa.text_len l (fun b hb => h b (by simp [hb]))
    rw [Pa.textA_cons]; simp; omega

set_option maxRecDepth 100000 in
set_option maxHeartbeats 4000000 in
theorem print_any (l : List Pa.Ac) (v : Value) (w : World) (ok : Ok w) (hv : Acts w v l) (hmax : l.length ≤ 9223372036854775807) : Calls Tryz.prog 12 #[v] w (POut l w) := by
  have HV := Lib.hid hv
  obtain ⟨a, c, fv, rfl, hlc, hfs, hcs⟩ := hv
  by_cases h100 : 100 < (l.length : Int)
  · have HN : Hid (Pa.printA l = none) := by
      rw [Hid, Pa.printA, if_neg (by intro h; omega)]
    clear hfs hcs
    go_enter Tryz.func12, Tryz.ntmps12
    go_wp2
    go_ret2
    exact POut.no HN.out ⟨rfl, Below.refl _ _⟩
  · go_enter Tryz.func12, Tryz.ntmps12
    go_wp2_with fail
    go_loopw [12] (fun i wr => ∃ k : Nat, k ≤ l.length ∧ i = .int .i64 k ∧ Hid (∀ y ∈ l.take k, Pa.okA y = true) ∧ IsB w.heap.size w.heap.size (Lib.byteCells (Pa.textA (l.take k))) wr ∧ Below w.heap.size w wr) (fun i _ => l.length - (intOf i).toNat)
    case atStart => exact ⟨0, Nat.zero_le _, rfl, fun y hy => by simp at hy, Lib.fresh_isBuilder _ _ w, (Below.refl _ _).alloc (Nat.le_refl _) _⟩
    case round =>
      obtain ⟨k, hk, rfl, HK, hIB, hB⟩ := hrel
      by_cases hlt : k < l.length
      · obtain ⟨b, o, rfl, hbl, hcell⟩ := hcs (fun e => by simp [e] at hlt)
        have x0 := cell_below hB hbl (hcell k hlt 0 _ rfl)
        have x1 := cell_below hB hbl (hcell k hlt 1 _ rfl)
        have x2 := cell_below hB hbl (hcell k hlt 2 _ rfl)
        have x3 := cell_below hB hbl (hcell k hlt 3 _ rfl)
        have x4 := cell_below hB hbl (hcell k hlt 4 _ rfl)
        have x5 := cell_below hB hbl (hcell k hlt 5 _ rfl)
        have x6 := cell_below hB hbl (hcell k hlt 6 _ rfl)
        have x7 := cell_below hB hbl (hcell k hlt 7 _ rfl)
        have x8 := cell_below hB hbl (hcell k hlt 8 _ rfl)
        have x9 := cell_below hB hbl (hcell k hlt 9 _ rfl)
        have x10 := cell_below hB hbl (hcell k hlt 10 _ rfl)
        have x11 := cell_below hB hbl (hcell k hlt 11 _ rfl)
        have x12 := cell_below hB hbl (hcell k hlt 12 _ rfl)
        clear hcell hcs
        rw [Nat.add_zero] at x0
        obtain ⟨hfk, hlk⟩ := hfs k hlt
        have hmem : l[k] ∈ l := List.getElem_mem hlt
        have htk : l.take (k + 1) = l.take k ++ [l[k]] := List.take_succ_eq_append_getElem hlt
        obtain ⟨y, hy⟩ : ∃ y, y = l[k] := ⟨_, rfl⟩
        rw [← hy] at x0 x1 x2 x3 x4 x5 x6 x7 x8 x9 x10 x12 hfk hlk hmem htk
        clear hy hfs
        obtain ⟨f, hf⟩ : ∃ f, f = fv k := ⟨_, rfl⟩
        rw [← hf] at x11 hfk
        clear hf HV
        have HFK := Lib.hid hfk
        obtain ⟨va, ca, rfl, -⟩ := hfk
        have HM := Lib.hid hmem; have HTK := Lib.hid htk; clear hmem htk
        have hBa : Below wr.heap.size wr (wr.alloc (.cells #[.int .i64 y.kind, .int .i64 y.host, .int .i64 y.call.kind, .int .i64 y.call.sock, .int .i64 y.call.addr, .int .i64 y.call.port, .int .i64 y.call.n, .string y.call.s, .int .i64 y.call.here, .int .i64 y.call.mss, .int .i64 y.n, (.slice va y.fates.length ca), .string y.s] 27)) := (Below.refl _ _).alloc (Nat.le_refl _) _
        have hval := validAct_any y ((.slice va y.fates.length ca)) _ ((ok.below hB).below hBa) name_any ((HFK.out.below hB).below hBa) hlk
        have hsl : wr.heap.size < (wr.alloc (.cells #[.int .i64 y.kind, .int .i64 y.host, .int .i64 y.call.kind, .int .i64 y.call.sock, .int .i64 y.call.addr, .int .i64 y.call.port, .int .i64 y.call.n, .string y.call.s, .int .i64 y.call.here, .int .i64 y.call.mss, .int .i64 y.n, (.slice va y.fates.length ca), .string y.s] 27)).heap.size := by simp
        unfold acV at hval
        go_wp2_with fail
        refine hval.mono ?_
        rintro e w4 ⟨rfl, hb4⟩
        have hB4 := below_on (below_on hB hBa) hb4
        clear hval x0 x1 x2 x3 x4 x5 x6 x7 x8 x9 x10 x11 x12
        cases hok : Pa.okA y with
        | false =>
          have HN : Hid (Pa.printA l = none) := by
            rw [Hid, Pa.printA, if_neg]
            rintro ⟨_, h⟩
            rw [List.all_eq_true] at h
            rw [h y HM.out] at hok; cases hok
          clear hok
          go_wp2
          go_ret2
          exact POut.no HN.out ⟨rfl, hB4⟩
        | true =>
          have HOK := Lib.hid hok
          have hIB4 := isB_below (isB_below hIB hBa) hb4
          have z0 := cell_below hb4 hsl ((RowAt.new wr #[.int .i64 y.kind, .int .i64 y.host, .int .i64 y.call.kind, .int .i64 y.call.sock, .int .i64 y.call.addr, .int .i64 y.call.port, .int .i64 y.call.n, .string y.call.s, .int .i64 y.call.here, .int .i64 y.call.mss, .int .i64 y.n, (.slice va y.fates.length ca), .string y.s] 27).2 0 _ rfl).1
          have z1 := cell_below hb4 hsl ((RowAt.new wr #[.int .i64 y.kind, .int .i64 y.host, .int .i64 y.call.kind, .int .i64 y.call.sock, .int .i64 y.call.addr, .int .i64 y.call.port, .int .i64 y.call.n, .string y.call.s, .int .i64 y.call.here, .int .i64 y.call.mss, .int .i64 y.n, (.slice va y.fates.length ca), .string y.s] 27).2 1 _ rfl).1
          have z2 := cell_below hb4 hsl ((RowAt.new wr #[.int .i64 y.kind, .int .i64 y.host, .int .i64 y.call.kind, .int .i64 y.call.sock, .int .i64 y.call.addr, .int .i64 y.call.port, .int .i64 y.call.n, .string y.call.s, .int .i64 y.call.here, .int .i64 y.call.mss, .int .i64 y.n, (.slice va y.fates.length ca), .string y.s] 27).2 2 _ rfl).1
          have z3 := cell_below hb4 hsl ((RowAt.new wr #[.int .i64 y.kind, .int .i64 y.host, .int .i64 y.call.kind, .int .i64 y.call.sock, .int .i64 y.call.addr, .int .i64 y.call.port, .int .i64 y.call.n, .string y.call.s, .int .i64 y.call.here, .int .i64 y.call.mss, .int .i64 y.n, (.slice va y.fates.length ca), .string y.s] 27).2 3 _ rfl).1
          have z4 := cell_below hb4 hsl ((RowAt.new wr #[.int .i64 y.kind, .int .i64 y.host, .int .i64 y.call.kind, .int .i64 y.call.sock, .int .i64 y.call.addr, .int .i64 y.call.port, .int .i64 y.call.n, .string y.call.s, .int .i64 y.call.here, .int .i64 y.call.mss, .int .i64 y.n, (.slice va y.fates.length ca), .string y.s] 27).2 4 _ rfl).1
          have z5 := cell_below hb4 hsl ((RowAt.new wr #[.int .i64 y.kind, .int .i64 y.host, .int .i64 y.call.kind, .int .i64 y.call.sock, .int .i64 y.call.addr, .int .i64 y.call.port, .int .i64 y.call.n, .string y.call.s, .int .i64 y.call.here, .int .i64 y.call.mss, .int .i64 y.n, (.slice va y.fates.length ca), .string y.s] 27).2 5 _ rfl).1
          have z6 := cell_below hb4 hsl ((RowAt.new wr #[.int .i64 y.kind, .int .i64 y.host, .int .i64 y.call.kind, .int .i64 y.call.sock, .int .i64 y.call.addr, .int .i64 y.call.port, .int .i64 y.call.n, .string y.call.s, .int .i64 y.call.here, .int .i64 y.call.mss, .int .i64 y.n, (.slice va y.fates.length ca), .string y.s] 27).2 6 _ rfl).1
          have z7 := cell_below hb4 hsl ((RowAt.new wr #[.int .i64 y.kind, .int .i64 y.host, .int .i64 y.call.kind, .int .i64 y.call.sock, .int .i64 y.call.addr, .int .i64 y.call.port, .int .i64 y.call.n, .string y.call.s, .int .i64 y.call.here, .int .i64 y.call.mss, .int .i64 y.n, (.slice va y.fates.length ca), .string y.s] 27).2 7 _ rfl).1
          have z8 := cell_below hb4 hsl ((RowAt.new wr #[.int .i64 y.kind, .int .i64 y.host, .int .i64 y.call.kind, .int .i64 y.call.sock, .int .i64 y.call.addr, .int .i64 y.call.port, .int .i64 y.call.n, .string y.call.s, .int .i64 y.call.here, .int .i64 y.call.mss, .int .i64 y.n, (.slice va y.fates.length ca), .string y.s] 27).2 8 _ rfl).1
          have z9 := cell_below hb4 hsl ((RowAt.new wr #[.int .i64 y.kind, .int .i64 y.host, .int .i64 y.call.kind, .int .i64 y.call.sock, .int .i64 y.call.addr, .int .i64 y.call.port, .int .i64 y.call.n, .string y.call.s, .int .i64 y.call.here, .int .i64 y.call.mss, .int .i64 y.n, (.slice va y.fates.length ca), .string y.s] 27).2 9 _ rfl).1
          have z10 := cell_below hb4 hsl ((RowAt.new wr #[.int .i64 y.kind, .int .i64 y.host, .int .i64 y.call.kind, .int .i64 y.call.sock, .int .i64 y.call.addr, .int .i64 y.call.port, .int .i64 y.call.n, .string y.call.s, .int .i64 y.call.here, .int .i64 y.call.mss, .int .i64 y.n, (.slice va y.fates.length ca), .string y.s] 27).2 10 _ rfl).1
          have z11 := cell_below hb4 hsl ((RowAt.new wr #[.int .i64 y.kind, .int .i64 y.host, .int .i64 y.call.kind, .int .i64 y.call.sock, .int .i64 y.call.addr, .int .i64 y.call.port, .int .i64 y.call.n, .string y.call.s, .int .i64 y.call.here, .int .i64 y.call.mss, .int .i64 y.n, (.slice va y.fates.length ca), .string y.s] 27).2 11 _ rfl).1
          have z12 := cell_below hb4 hsl ((RowAt.new wr #[.int .i64 y.kind, .int .i64 y.host, .int .i64 y.call.kind, .int .i64 y.call.sock, .int .i64 y.call.addr, .int .i64 y.call.port, .int .i64 y.call.n, .string y.call.s, .int .i64 y.call.here, .int .i64 y.call.mss, .int .i64 y.n, (.slice va y.fates.length ca), .string y.s] 27).2 12 _ rfl).1
          have hln := line_any y ((.slice va y.fates.length ca)) w4 (ok.below hB4) hok (((HFK.out.below hB).below hBa).below hb4)
          unfold acV at hln
          clear hok hBa hb4 hIB hB
          have hmaxT := Pa.text_len (l.take k) HK.out
          have hlk2 : (l.take k).length ≤ 100 := by have := List.length_take_le k l; omega
          have hll := Pa.line_len HOK.out
          go_wp2_with fail
          refine hln.mono ?_
          rintro e w5 ⟨rfl, hb5⟩
          have hB5 := below_on hB4 hb5
          have hIB5 := isB_below hIB4 hb5
          clear hln hIB4
          go_wp2_with fail
          refine (b_str w.heap.size w.heap.size _ ⟨(Pa.lineA y).toArray⟩ w5 hIB5 (by simp [Lib.byteCells, ByteArray.size]; omega) hB5.size).mono ?_
          rintro e w6 ⟨rfl, hIB6, hb6⟩
          have hB6 := hB5.trans hb6
          go_wp2_with fail
          refine (b_byte w.heap.size w.heap.size _ 10 w6 hIB6 (by simp [Lib.byteCells, Lib.strCells]; omega) hB6.size).mono ?_
          rintro e w7 ⟨rfl, hIB7, hb7⟩
          have hB7 := hB6.trans hb7
          have HI : Hid (IsB w.heap.size w.heap.size (Lib.byteCells (Pa.textA (l.take (k + 1)))) w7) := by
            rw [Hid, HTK.out, Pa.textA_snoc]
            simpa [Lib.byteCells, Lib.strCells] using hIB7
          have HK2 : Hid (∀ z ∈ l.take (k + 1), Pa.okA z = true) := by
            rw [Hid, HTK.out]
            intro z hz
            rcases List.mem_append.1 hz with hz | hz
            · exact HK.out z hz
            · simp at hz; subst hz; exact HOK.out
          clear hIB5 hIB6 hIB7 hmaxT hll
          go_wp2
          go_roundw
          case rel => exact ⟨k + 1, by omega, by go_num, HK2.out, HI.out, hB7⟩
          case measure => simp [intOf]; omega
      · have hke : l.take k = l := List.take_of_length_le (by omega)
        rw [hke] at HK hIB
        have HP : Hid (Pa.printA l = some (Pa.textA l)) := Pa.printA_some HK.out (by omega)
        clear hfs hcs hke
        go_wp2_with fail
        refine (b_done w.heap.size w.heap.size (Pa.textA l) wr hIB hB.size).mono ?_
        rintro e w9 ⟨rfl, hb9⟩
        go_wp2
        go_ret2
        exact POut.yes HP.out ⟨rfl, hB.trans hb9⟩

end Go.Proofs.YtgajoiijebbagaaGreatDoor
