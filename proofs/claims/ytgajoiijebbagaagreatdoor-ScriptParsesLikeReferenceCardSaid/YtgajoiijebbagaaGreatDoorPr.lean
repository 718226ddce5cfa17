/-
  The walks of script.Print and of the document's Same and SameActs. Conditions: the actions lie in memory.
-/
import Derived.Test.YtgajoiijebbagaaGreatDoorAa
/-! The walk of script.Print. It says which text it gives for every script in memory, and that what was there is unchanged. Conditions: the library's variables read as laid. -/
namespace Go.Proofs.YtgajoiijebbagaaGreatDoor
open Go.RowKit Go.Proofs

theorem isB_below {B b : Nat} {bs : List Value} {w w' : World} (h : IsB B b bs w) (hb : Below w.heap.size w w') : IsB B b bs w' := by
  rcases h with ⟨h1, v, h2, h3, h4⟩ | ⟨h1, v, h2, h3, h4⟩
  · exact Or.inl ⟨h1, v, (hb.block b (Array.getElem?_eq_some_iff.1 h2).1).trans h2, owns_same h3 (fun g hg => hb.block g (owns_lt h3 hg)), h4⟩
  · exact Or.inr ⟨h1, v, (hb.block b (Array.getElem?_eq_some_iff.1 h2).1).trans h2, owns_same h3 (fun g hg => hb.block g (owns_lt h3 hg)), h4⟩

/-- A slice value that holds these actions. -/
def Acts (w : World) (v : Value) (l : List Pa.Ac) : Prop := ∃ (a : Option Addr) (c : Nat) (fv : Nat → Value), v = .slice a l.length c ∧ l.length ≤ c ∧
  (∀ (j : Nat) (h : j < l.length), Fs w (fv j) l[j].fates ∧ l[j].fates.length ≤ 9223372036854775807) ∧
  (l ≠ [] → ∃ b o, a = some ⟨b, o, none⟩ ∧ b < w.heap.size ∧ ∀ (j : Nat) (h : j < l.length) (i : Nat) u, (acCells l[j] (fv j))[i]? = some u → w.cell? ⟨b, o + j * 13 + i, none⟩ = some u)
theorem Acts.below {w w' : World} {v : Value} {l : List Pa.Ac} (h : Acts w v l) (hb : Below w.heap.size w w') : Acts w' v l := by
  obtain ⟨a, c, fv, h1, h2, h3, h4⟩ := h
  refine ⟨a, c, fv, h1, h2, fun j hj => ⟨(h3 j hj).1.below hb, (h3 j hj).2⟩, fun h0 => ?_⟩
  obtain ⟨b, o, h5, h6, h7⟩ := h4 h0
  exact ⟨b, o, h5, Nat.lt_of_lt_of_le h6 hb.size, fun j hj i u hu => cell_below hb h6 (h7 j hj i u hu)⟩

def Pa.prS (l : List Pa.Ac) : Pa.Bs := (Pa.printA l).getD []
def Pa.prE (l : List Pa.Ac) : Int := if (Pa.printA l).isSome then 0 else 270
theorem Pa.pr_none {l : List Pa.Ac} (h : Pa.printA l = none) : Pa.prS l = [] ∧ Pa.prE l = 270 := by simp [Pa.prS, Pa.prE, h]
theorem Pa.pr_some {l : List Pa.Ac} {t : Pa.Bs} (h : Pa.printA l = some t) : Pa.prS l = t ∧ Pa.prE l = 0 := by simp [Pa.prS, Pa.prE, h]

/-- What Print ends in. -/
def POut (l : List Pa.Ac) (w : World) (e : Ending) (w' : World) : Prop := e = .returned (.tuple #[.string ⟨(Pa.prS l).toArray⟩, .int .i64 (Pa.prE l)]) ∧ Below w.heap.size w w'
theorem POut.no {l : List Pa.Ac} {w : World} {e : Ending} {w' : World} (h : Pa.printA l = none) (h' : e = .returned (.tuple #[.string ⟨#[]⟩, .int .i64 270]) ∧ Below w.heap.size w w') : POut l w e w' := by
  unfold POut; rw [(Pa.pr_none h).1, (Pa.pr_none h).2]; exact h'
theorem POut.yes {l : List Pa.Ac} {t : Pa.Bs} {w : World} {e : Ending} {w' : World} (h : Pa.printA l = some t) (h' : e = .returned (.tuple #[.string ⟨t.toArray⟩, .int .i64 0]) ∧ Below w.heap.size w w') : POut l w e w' := by
  unfold POut; rw [(Pa.pr_some h).1, (Pa.pr_some h).2]; exact h'

theorem Pa.text_len : ∀ l : List Pa.Ac, (∀ a ∈ l, Pa.okA a = true) → (Pa.textA l).length ≤ 8001 * l.length
  | [], _ => by simp [Pa.textA]
  | a :: l, h => by
    have h1 := Pa.line_len (h a (by simp))
    have h2 := Pa.text_len l (fun b hb => h b (by simp [hb]))
    rw [Pa.textA_cons]; simp; omega

set_option maxRecDepth 100000 in
set_option maxHeartbeats 4000000 in
theorem print_any (l : List Pa.Ac) (v : Value) (w : World) (ok : Ok w) (hv : Acts w v l) (hmax : l.length ≤ 9223372036854775807) : Calls Tryz.prog 12 #[v] w (POut l w) := by
  have HV := Lib.hid hv
  obtain ⟨a, c, fv, rfl, hlc, hfs, hcs⟩ := hv
  by_cases h100 : 100 < (l.length : Int)
  · have HN : Hid (Pa.printA l = none) := by
      rw [Hid, Pa.printA, if_neg (by intro h; omega)]
    clear hfs hcs
    go_enter Tryz.func12, Tryz.ntmps12
    go_wp2
    go_ret2
    exact POut.no HN.out ⟨rfl, Below.refl _ _⟩
  · go_enter Tryz.func12, Tryz.ntmps12
    go_wp2_with fail
    go_loopw [12] (fun i wr => ∃ k : Nat, k ≤ l.length ∧ i = .int .i64 k ∧ Hid (∀ y ∈ l.take k, Pa.okA y = true) ∧ IsB w.heap.size w.heap.size (Lib.byteCells (Pa.textA (l.take k))) wr ∧ Below w.heap.size w wr) (fun i _ => l.length - (intOf i).toNat)
    case atStart => exact ⟨0, Nat.zero_le _, rfl, fun y hy => by simp at hy, Lib.fresh_isBuilder _ _ w, (Below.refl _ _).alloc (Nat.le_refl _) _⟩
    case round =>
      obtain ⟨k, hk, rfl, HK, hIB, hB⟩ := hrel
      by_cases hlt : k < l.length
      · obtain ⟨b, o, rfl, hbl, hcell⟩ := hcs (fun e => by simp [e] at hlt)
        have x0 := cell_below hB hbl (hcell k hlt 0 _ rfl)
        have x1 := cell_below hB hbl (hcell k hlt 1 _ rfl)
        have x2 := cell_below hB hbl (hcell k hlt 2 _ rfl)
        have x3 := cell_below hB hbl (hcell k hlt 3 _ rfl)
        have x4 := cell_below hB hbl (hcell k hlt 4 _ rfl)
        have x5 := cell_below hB hbl (hcell k hlt 5 _ rfl)
        have x6 := cell_below hB hbl (hcell k hlt 6 _ rfl)
        have x7 := cell_below hB hbl (hcell k hlt 7 _ rfl)
        have x8 := cell_below hB hbl (hcell k hlt 8 _ rfl)
        have x9 := cell_below hB hbl (hcell k hlt 9 _ rfl)
        have x10 := cell_below hB hbl (hcell k hlt 10 _ rfl)
        have x11 := cell_below hB hbl (hcell k hlt 11 _ rfl)
        have x12 := cell_below hB hbl (hcell k hlt 12 _ rfl)
        clear hcell hcs
        rw [Nat.add_zero] at x0
        obtain ⟨hfk, hlk⟩ := hfs k hlt
        have hmem : l[k] ∈ l := List.getElem_mem hlt
        have htk : l.take (k + 1) = l.take k ++ [l[k]] := List.take_succ_eq_append_getElem hlt
        obtain ⟨y, hy⟩ : ∃ y, y = l[k] := ⟨_, rfl⟩
        rw [← hy] at x0 x1 x2 x3 x4 x5 x6 x7 x8 x9 x10 x12 hfk hlk hmem htk
        clear hy hfs
        obtain ⟨f, hf⟩ : ∃ f, f = fv k := ⟨_, rfl⟩
        rw [← hf] at x11 hfk
        clear hf HV
        have HFK := Lib.hid hfk
        obtain ⟨va, ca, rfl, -⟩ := hfk
        have HM := Lib.hid hmem; have HTK := Lib.hid htk; clear hmem htk
        have hBa : Below wr.heap.size wr (wr.alloc (.cells #[.int .i64 y.kind, .int .i64 y.host, .int .i64 y.call.kind, .int .i64 y.call.sock, .int .i64 y.call.addr, .int .i64 y.call.port, .int .i64 y.call.n, .string y.call.s, .int .i64 y.call.here, .int .i64 y.call.mss, .int .i64 y.n, (.slice va y.fates.length ca), .string y.s] 27)) := (Below.refl _ _).alloc (Nat.le_refl _) _
        have hval := validAct_any y ((.slice va y.fates.length ca)) _ ((ok.below hB).below hBa) name_any ((HFK.out.below hB).below hBa) hlk
        have hsl : wr.heap.size < (wr.alloc (.cells #[.int .i64 y.kind, .int .i64 y.host, .int .i64 y.call.kind, .int .i64 y.call.sock, .int .i64 y.call.addr, .int .i64 y.call.port, .int .i64 y.call.n, .string y.call.s, .int .i64 y.call.here, .int .i64 y.call.mss, .int .i64 y.n, (.slice va y.fates.length ca), .string y.s] 27)).heap.size := by simp
        unfold acV at hval
        go_wp2_with fail
        refine hval.mono ?_
        rintro e w4 ⟨rfl, hb4⟩
        have hB4 := below_on (below_on hB hBa) hb4
        clear hval x0 x1 x2 x3 x4 x5 x6 x7 x8 x9 x10 x11 x12
        cases hok : Pa.okA y with
        | false =>
          have HN : Hid (Pa.printA l = none) := by
            rw [Hid, Pa.printA, if_neg]
            rintro ⟨_, h⟩
            rw [List.all_eq_true] at h
            rw [h y HM.out] at hok; cases hok
          clear hok
          go_wp2
          go_ret2
          exact POut.no HN.out ⟨rfl, hB4⟩
        | true =>
          have HOK := Lib.hid hok
          have hIB4 := isB_below (isB_below hIB hBa) hb4
          have z0 := cell_below hb4 hsl ((RowAt.new wr #[.int .i64 y.kind, .int .i64 y.host, .int .i64 y.call.kind, .int .i64 y.call.sock, .int .i64 y.call.addr, .int .i64 y.call.port, .int .i64 y.call.n, .string y.call.s, .int .i64 y.call.here, .int .i64 y.call.mss, .int .i64 y.n, (.slice va y.fates.length ca), .string y.s] 27).2 0 _ rfl).1
          have z1 := cell_below hb4 hsl ((RowAt.new wr #[.int .i64 y.kind, .int .i64 y.host, .int .i64 y.call.kind, .int .i64 y.call.sock, .int .i64 y.call.addr, .int .i64 y.call.port, .int .i64 y.call.n, .string y.call.s, .int .i64 y.call.here, .int .i64 y.call.mss, .int .i64 y.n, (.slice va y.fates.length ca), .string y.s] 27).2 1 _ rfl).1
          have z2 := cell_below hb4 hsl ((RowAt.new wr #[.int .i64 y.kind, .int .i64 y.host, .int .i64 y.call.kind, .int .i64 y.call.sock, .int .i64 y.call.addr, .int .i64 y.call.port, .int .i64 y.call.n, .string y.call.s, .int .i64 y.call.here, .int .i64 y.call.mss, .int .i64 y.n, (.slice va y.fates.length ca), .string y.s] 27).2 2 _ rfl).1
          have z3 := cell_below hb4 hsl ((RowAt.new wr #[.int .i64 y.kind, .int .i64 y.host, .int .i64 y.call.kind, .int .i64 y.call.sock, .int .i64 y.call.addr, .int .i64 y.call.port, .int .i64 y.call.n, .string y.call.s, .int .i64 y.call.here, .int .i64 y.call.mss, .int .i64 y.n, (.slice va y.fates.length ca), .string y.s] 27).2 3 _ rfl).1
          have z4 := cell_below hb4 hsl ((RowAt.new wr #[.int .i64 y.kind, .int .i64 y.host, .int .i64 y.call.kind, .int .i64 y.call.sock, .int .i64 y.call.addr, .int .i64 y.call.port, .int .i64 y.call.n, .string y.call.s, .int .i64 y.call.here, .int .i64 y.call.mss, .int .i64 y.n, (.slice va y.fates.length ca), .string y.s] 27).2 4 _ rfl).1
          have z5 := cell_below hb4 hsl ((RowAt.new wr #[.int .i64 y.kind, .int .i64 y.host, .int .i64 y.call.kind, .int .i64 y.call.sock, .int .i64 y.call.addr, .int .i64 y.call.port, .int .i64 y.call.n, .string y.call.s, .int .i64 y.call.here, .int .i64 y.call.mss, .int .i64 y.n, (.slice va y.fates.length ca), .string y.s] 27).2 5 _ rfl).1
          have z6 := cell_below hb4 hsl ((RowAt.new wr #[.int .i64 y.kind, .int .i64 y.host, .int .i64 y.call.kind, .int .i64 y.call.sock, .int .i64 y.call.addr, .int .i64 y.call.port, .int .i64 y.call.n, .string y.call.s, .int .i64 y.call.here, .int .i64 y.call.mss, .int .i64 y.n, (.slice va y.fates.length ca), .string y.s] 27).2 6 _ rfl).1
          have z7 := cell_below hb4 hsl ((RowAt.new wr #[.int .i64 y.kind, .int .i64 y.host, .int .i64 y.call.kind, .int .i64 y.call.sock, .int .i64 y.call.addr, .int .i64 y.call.port, .int .i64 y.call.n, .string y.call.s, .int .i64 y.call.here, .int .i64 y.call.mss, .int .i64 y.n, (.slice va y.fates.length ca), .string y.s] 27).2 7 _ rfl).1
          have z8 := cell_below hb4 hsl ((RowAt.new wr #[.int .i64 y.kind, .int .i64 y.host, .int .i64 y.call.kind, .int .i64 y.call.sock, .int .i64 y.call.addr, .int .i64 y.call.port, .int .i64 y.call.n, .string y.call.s, .int .i64 y.call.here, .int .i64 y.call.mss, .int .i64 y.n, (.slice va y.fates.length ca), .string y.s] 27).2 8 _ rfl).1
          have z9 := cell_below hb4 hsl ((RowAt.new wr #[.int .i64 y.kind, .int .i64 y.host, .int .i64 y.call.kind, .int .i64 y.call.sock, .int .i64 y.call.addr, .int .i64 y.call.port, .int .i64 y.call.n, .string y.call.s, .int .i64 y.call.here, .int .i64 y.call.mss, .int .i64 y.n, (.slice va y.fates.length ca), .string y.s] 27).2 9 _ rfl).1
          have z10 := cell_below hb4 hsl ((RowAt.new wr #[.int .i64 y.kind, .int .i64 y.host, .int .i64 y.call.kind, .int .i64 y.call.sock, .int .i64 y.call.addr, .int .i64 y.call.port, .int .i64 y.call.n, .string y.call.s, .int .i64 y.call.here, .int .i64 y.call.mss, .int .i64 y.n, (.slice va y.fates.length ca), .string y.s] 27).2 10 _ rfl).1
          have z11 := cell_below hb4 hsl ((RowAt.new wr #[.int .i64 y.kind, .int .i64 y.host, .int .i64 y.call.kind, .int .i64 y.call.sock, .int .i64 y.call.addr, .int .i64 y.call.port, .int .i64 y.call.n, .string y.call.s, .int .i64 y.call.here, .int .i64 y.call.mss, .int .i64 y.n, (.slice va y.fates.length ca), .string y.s] 27).2 11 _ rfl).1
          have z12 := cell_below hb4 hsl ((RowAt.new wr #[.int .i64 y.kind, .int .i64 y.host, .int .i64 y.call.kind, .int .i64 y.call.sock, .int .i64 y.call.addr, .int .i64 y.call.port, .int .i64 y.call.n, .string y.call.s, .int .i64 y.call.here, .int .i64 y.call.mss, .int .i64 y.n, (.slice va y.fates.length ca), .string y.s] 27).2 12 _ rfl).1
          have hln := line_any y ((.slice va y.fates.length ca)) w4 (ok.below hB4) hok (((HFK.out.below hB).below hBa).below hb4)
          unfold acV at hln
          clear hok hBa hb4 hIB hB
          have hmaxT := Pa.text_len (l.take k) HK.out
          have hlk2 : (l.take k).length ≤ 100 := by have := List.length_take_le k l; omega
          have hll := Pa.line_len HOK.out
          go_wp2_with fail
          refine hln.mono ?_
          rintro e w5 ⟨rfl, hb5⟩
          have hB5 := below_on hB4 hb5
          have hIB5 := isB_below hIB4 hb5
          clear hln hIB4
          go_wp2_with fail
          refine (b_str w.heap.size w.heap.size _ ⟨(Pa.lineA y).toArray⟩ w5 hIB5 (by simp [Lib.byteCells, ByteArray.size]; omega) hB5.size).mono ?_
          rintro e w6 ⟨rfl, hIB6, hb6⟩
          have hB6 := hB5.trans hb6
          go_wp2_with fail
          refine (b_byte w.heap.size w.heap.size _ 10 w6 hIB6 (by simp [Lib.byteCells, Lib.strCells]; omega) hB6.size).mono ?_
          rintro e w7 ⟨rfl, hIB7, hb7⟩
          have hB7 := hB6.trans hb7
          have HI : Hid (IsB w.heap.size w.heap.size (Lib.byteCells (Pa.textA (l.take (k + 1)))) w7) := by
            rw [Hid, HTK.out, Pa.textA_snoc]
            simpa [Lib.byteCells, Lib.strCells] using hIB7
          have HK2 : Hid (∀ z ∈ l.take (k + 1), Pa.okA z = true) := by
            rw [Hid, HTK.out]
            intro z hz
            rcases List.mem_append.1 hz with hz | hz
            · exact HK.out z hz
            · simp at hz; subst hz; exact HOK.out
          clear hIB5 hIB6 hIB7 hmaxT hll
          go_wp2
          go_roundw
          case rel => exact ⟨k + 1, by omega, by go_num, HK2.out, HI.out, hB7⟩
          case measure => simp [intOf]; omega
      · have hke : l.take k = l := List.take_of_length_le (by omega)
        rw [hke] at HK hIB
        have HP : Hid (Pa.printA l = some (Pa.textA l)) := Pa.printA_some HK.out (by omega)
        clear hfs hcs hke
        go_wp2_with fail
        refine (b_done w.heap.size w.heap.size (Pa.textA l) wr hIB hB.size).mono ?_
        rintro e w9 ⟨rfl, hb9⟩
        go_wp2
        go_ret2
        exact POut.yes HP.out ⟨rfl, hB.trans hb9⟩

end Go.Proofs.YtgajoiijebbagaaGreatDoor

/-! The walks of the document's Same and SameActs. Conditions: the fates and the actions lie in memory. -/
namespace Go.Proofs.YtgajoiijebbagaaGreatDoor
open Go.RowKit Go.Proofs

theorem take_next {xs ys : List Int} {k : Nat} (h : xs.take k = ys.take k) (h1 : k < xs.length) (h2 : k < ys.length) (he : xs[k] = ys[k]) : xs.take (k + 1) = ys.take (k + 1) := by
  rw [List.take_succ_eq_append_getElem h1, List.take_succ_eq_append_getElem h2, h, he]

set_option maxRecDepth 100000 in
set_option maxHeartbeats 2000000 in
theorem refSame_any (a b : Pa.Ac) (fa fb : Value) (w : World) (ha : Fs w fa a.fates) (hb : Fs w fb b.fates) (hl : a.fates.length ≤ 9223372036854775807) (hl' : b.fates.length ≤ 9223372036854775807) :
    Calls Tryz.prog 17 #[acV a fa, acV b fb] w fun e w' => e = .returned (.bool (decide (a = b))) ∧ Below w.heap.size w w' := by
  have hq := eqCall
  have HA := Lib.hid ha; have HB := Lib.hid hb
  unfold acV
  obtain ⟨va, ca, rfl, -⟩ := ha
  obtain ⟨vb, cb, rfl, -⟩ := hb
  obtain ⟨k1, h1, ⟨x1, x2, x3, x4, x5, x6, x7, x8⟩, n1, f1, s1⟩ := a
  obtain ⟨k2, h2, ⟨y1, y2, y3, y4, y5, y6, y7, y8⟩, n2, f2, s2⟩ := b
  simp only at HA HB hl hl'
  by_cases hlen : f1.length = f2.length
  · have hn1 : ((f1.length : Int) != (f2.length : Int)) = false := by rw [hlen]; simp
    have HLEN := Lib.hid hlen; clear hlen
    go_enter Tryz.func17, Tryz.ntmps17
    go_wp2_with fail
    have r1 : RowAt w.heap.size #[.int .i64 k1, .int .i64 h1, .int .i64 x1, .int .i64 x2, .int .i64 x3, .int .i64 x4, .int .i64 x5, .string x6, .int .i64 x7, .int .i64 x8, .int .i64 n1, .slice va f1.length ca, .string s1].toList ((w.alloc (.cells #[.int .i64 k1, .int .i64 h1, .int .i64 x1, .int .i64 x2, .int .i64 x3, .int .i64 x4, .int .i64 x5, .string x6, .int .i64 x7, .int .i64 x8, .int .i64 n1, .slice va f1.length ca, .string s1] 27)).alloc (.cells #[.int .i64 k2, .int .i64 h2, .int .i64 y1, .int .i64 y2, .int .i64 y3, .int .i64 y4, .int .i64 y5, .string y6, .int .i64 y7, .int .i64 y8, .int .i64 n2, .slice vb f2.length cb, .string s2] 27)) := (RowAt.new w #[.int .i64 k1, .int .i64 h1, .int .i64 x1, .int .i64 x2, .int .i64 x3, .int .i64 x4, .int .i64 x5, .string x6, .int .i64 x7, .int .i64 x8, .int .i64 n1, .slice va f1.length ca, .string s1] 27).below ((Below.refl _ _).alloc (Nat.le_refl _) _)
    have r2 : RowAt (w.heap.size + 1) #[.int .i64 k2, .int .i64 h2, .int .i64 y1, .int .i64 y2, .int .i64 y3, .int .i64 y4, .int .i64 y5, .string y6, .int .i64 y7, .int .i64 y8, .int .i64 n2, .slice vb f2.length cb, .string s2].toList ((w.alloc (.cells #[.int .i64 k1, .int .i64 h1, .int .i64 x1, .int .i64 x2, .int .i64 x3, .int .i64 x4, .int .i64 x5, .string x6, .int .i64 x7, .int .i64 x8, .int .i64 n1, .slice va f1.length ca, .string s1] 27)).alloc (.cells #[.int .i64 k2, .int .i64 h2, .int .i64 y1, .int .i64 y2, .int .i64 y3, .int .i64 y4, .int .i64 y5, .string y6, .int .i64 y7, .int .i64 y8, .int .i64 n2, .slice vb f2.length cb, .string s2] 27)) := by
      have := RowAt.new (w.alloc (.cells #[.int .i64 k1, .int .i64 h1, .int .i64 x1, .int .i64 x2, .int .i64 x3, .int .i64 x4, .int .i64 x5, .string x6, .int .i64 x7, .int .i64 x8, .int .i64 n1, .slice va f1.length ca, .string s1] 27)) #[.int .i64 k2, .int .i64 h2, .int .i64 y1, .int .i64 y2, .int .i64 y3, .int .i64 y4, .int .i64 y5, .string y6, .int .i64 y7, .int .i64 y8, .int .i64 n2, .slice vb f2.length cb, .string s2] 27
      rw [World.size_alloc] at this; exact this
    have hB0 : Below w.heap.size w ((w.alloc (.cells #[.int .i64 k1, .int .i64 h1, .int .i64 x1, .int .i64 x2, .int .i64 x3, .int .i64 x4, .int .i64 x5, .string x6, .int .i64 x7, .int .i64 x8, .int .i64 n1, .slice va f1.length ca, .string s1] 27)).alloc (.cells #[.int .i64 k2, .int .i64 h2, .int .i64 y1, .int .i64 y2, .int .i64 y3, .int .i64 y4, .int .i64 y5, .string y6, .int .i64 y7, .int .i64 y8, .int .i64 n2, .slice vb f2.length cb, .string s2] 27)) := ((Below.refl _ _).alloc (Nat.le_refl _) _).alloc (by simp) _
    obtain ⟨W, hW⟩ : ∃ W : World, W = ((w.alloc (.cells #[.int .i64 k1, .int .i64 h1, .int .i64 x1, .int .i64 x2, .int .i64 x3, .int .i64 x4, .int .i64 x5, .string x6, .int .i64 x7, .int .i64 x8, .int .i64 n1, .slice va f1.length ca, .string s1] 27)).alloc (.cells #[.int .i64 k2, .int .i64 h2, .int .i64 y1, .int .i64 y2, .int .i64 y3, .int .i64 y4, .int .i64 y5, .string y6, .int .i64 y7, .int .i64 y8, .int .i64 n2, .slice vb f2.length cb, .string s2] 27)) := ⟨_, rfl⟩
    rw [← hW] at r1 r2 hB0 ⊢
    clear hW
    have hFA := HA.out.below hB0
    have hFB := HB.out.below hB0
    have HFA := Lib.hid hFA; have HFB := Lib.hid hFB; clear hFA hFB HA HB
    go_loopw [5] (fun i wr => ∃ k : Nat, k ≤ f1.length ∧ i = .int .i64 k ∧ Hid (f1.take k = f2.take k) ∧ Below W.heap.size W wr) (fun i _ => f1.length - (intOf i).toNat)
    case atStart => exact ⟨0, Nat.zero_le _, rfl, rfl, Below.refl _ _⟩
    case round =>
      obtain ⟨k, hk, rfl, HT, hB⟩ := hrel
      have q1 := r1.below hB
      have q2 := r2.below hB
      have c11 := (q1.2 11 _ rfl).1
      have d11 := (q2.2 11 _ rfl).1
      have hBw := hB0.trans (hB.mono hB0.size)
      by_cases hlt : k < f1.length
      · have hlt2 : k < f2.length := by have := HLEN.out; omega
        obtain ⟨va', ca', hv, hcs⟩ := HFA.out.below hB
        cases hv
        obtain ⟨b1, o1, rfl, hbl1, hcell1⟩ := hcs (fun e => by simp [e] at hlt)
        obtain ⟨vb', cb', hv, hcs2⟩ := HFB.out.below hB
        cases hv
        obtain ⟨b2, o2, rfl, hbl2, hcell2⟩ := hcs2 (fun e => by simp [e] at hlt2)
        have e1 := hcell1 k hlt
        have e2 := hcell2 k hlt2
        clear hcell1 hcell2 hcs hcs2
        have b1 : (0 : Int) ≤ (k : Int) := by omega
        have b2 : (k : Int) < (f1.length : Int) := by omega
        have b3 : (k : Int) < (f2.length : Int) := by omega
        go_wp2
        go_quiet (fail)
        by_cases heq : f1[k] = f2[k]
        · have hne : (f1[k] != f2[k]) = false := by rw [heq]; simp
          have HX := Lib.hid (take_next HT.out hlt hlt2 heq)
          clear heq
          go_wp2
          go_roundw
          case rel => exact ⟨k + 1, by omega, by go_num, HX.out, below_on hB (drewN_below _ _)⟩
          case measure => simp [intOf]; omega
        · have hne : (f1[k] != f2[k]) = true := by rw [bne_iff_ne]; exact heq
          have HX := Lib.hid heq; clear heq
          go_wp2
          go_ret
          refine ⟨ret_bool ?_, below_on hBw (drewN_below _ _)⟩
          symm
          rw [decide_eq_false_iff_not]
          intro h
          cases h
          exact HX.out rfl
      · have HE : Hid (f1 = f2) := by
          have := HT.out
          rw [List.take_of_length_le (by omega), List.take_of_length_le (by have := HLEN.out; omega)] at this
          exact this
        have c0 := (q1.2 0 _ rfl).1
        have c1 := (q1.2 1 _ rfl).1
        have c2 := (q1.2 2 _ rfl).1
        have c3 := (q1.2 3 _ rfl).1
        have c4 := (q1.2 4 _ rfl).1
        have c5 := (q1.2 5 _ rfl).1
        have c6 := (q1.2 6 _ rfl).1
        have c7 := (q1.2 7 _ rfl).1
        have c8 := (q1.2 8 _ rfl).1
        have c9 := (q1.2 9 _ rfl).1
        have c10 := (q1.2 10 _ rfl).1
        have c12 := (q1.2 12 _ rfl).1
        have d0 := (q2.2 0 _ rfl).1
        have d1 := (q2.2 1 _ rfl).1
        have d2 := (q2.2 2 _ rfl).1
        have d3 := (q2.2 3 _ rfl).1
        have d4 := (q2.2 4 _ rfl).1
        have d5 := (q2.2 5 _ rfl).1
        have d6 := (q2.2 6 _ rfl).1
        have d7 := (q2.2 7 _ rfl).1
        have d8 := (q2.2 8 _ rfl).1
        have d9 := (q2.2 9 _ rfl).1
        have d10 := (q2.2 10 _ rfl).1
        have d12 := (q2.2 12 _ rfl).1
        go_wp2
        all_goals first
          | (go_ret; exact ⟨rfl, hBw⟩)
          | (go_ret; refine ⟨ret_bool ?_, hBw⟩; rw [HE.out, bytes_beq]; simp)
  · have hn1 : ((f1.length : Int) != (f2.length : Int)) = true := by rw [bne_iff_ne]; omega
    have HLEN := Lib.hid hlen; clear hlen
    go_enter Tryz.func17, Tryz.ntmps17
    go_wp2
    go_ret
    refine ⟨ret_bool ?_, ((Below.refl _ _).alloc (Nat.le_refl _) _).alloc (by simp) _⟩
    symm
    rw [decide_eq_false_iff_not]
    intro h
    exact HLEN.out (by cases h; rfl)

theorem acts_take {l m : List Pa.Ac} {k : Nat} (h : l.take k = m.take k) (h1 : k < l.length) (h2 : k < m.length) (he : l[k] = m[k]) : l.take (k + 1) = m.take (k + 1) := by
  rw [List.take_succ_eq_append_getElem h1, List.take_succ_eq_append_getElem h2, h, he]

set_option maxRecDepth 100000 in
set_option maxHeartbeats 2000000 in
/-- The document's SameActs: whether two scripts are equal. -/
theorem sameActs_any (l m : List Pa.Ac) (v u : Value) (w : World) (hv : Acts w v l) (hu : Acts w u m) (hl : l.length ≤ 1000000) (hm : m.length ≤ 1000000) :
    Calls Tryz.prog 20 #[v, u] w fun e w' => e = .returned (.bool (decide (l = m))) ∧ Below w.heap.size w w' := by
  have HV := Lib.hid hv; have HU := Lib.hid hu
  obtain ⟨a1, c1, fv1, rfl, hlc1, -⟩ := hv
  obtain ⟨a2, c2, fv2, rfl, hlc2, -⟩ := hu
  by_cases hlen : l.length = m.length
  · have hn1 : ((l.length : Int) != (m.length : Int)) = false := by rw [hlen]; simp
    have HLEN := Lib.hid hlen; clear hlen
    go_enter Tryz.func20, Tryz.ntmps20
    go_wp2_with fail
    go_loopw [5] (fun i wr => ∃ k : Nat, k ≤ l.length ∧ i = .int .i64 k ∧ Hid (l.take k = m.take k) ∧ Below w.heap.size w wr) (fun i _ => l.length - (intOf i).toNat)
    case atStart => exact ⟨0, Nat.zero_le _, rfl, rfl, Below.refl _ _⟩
    case round =>
      obtain ⟨k, hk, rfl, HT, hB⟩ := hrel
      by_cases hlt : k < l.length
      · have hlt2 : k < m.length := by have := HLEN.out; omega
        obtain ⟨a1', c1', fv1, hv, _, hfs1, hcs1⟩ := HV.out.below hB
        cases hv
        obtain ⟨a2', c2', fv2, hv, _, hfs2, hcs2⟩ := HU.out.below hB
        cases hv
        obtain ⟨b1, o1, rfl, hbl1, hcell1⟩ := hcs1 (fun e => by simp [e] at hlt)
        obtain ⟨b2, o2, rfl, hbl2, hcell2⟩ := hcs2 (fun e => by simp [e] at hlt2)
        have hs := fun (x : Lat (Below wr.heap.size wr)) => refSame_any l[k] m[k] (fv1 k) (fv2 k) x.u ((hfs1 k hlt).1.below x.h) ((hfs2 k hlt2).1.below x.h) (hfs1 k hlt).2 (hfs2 k hlt2).2
        have g1 : ∀ (j : Nat) (u : Value), (acCells l[k] (fv1 k))[j]? = some u → ∀ x : Lat (Below wr.heap.size wr), x.u.cell? ⟨b1, o1 + k * 13 + j, none⟩ = some u := fun j u hu x => x.cell hbl1 (hcell1 k hlt j u hu)
        have g2 : ∀ (j : Nat) (u : Value), (acCells m[k] (fv2 k))[j]? = some u → ∀ x : Lat (Below wr.heap.size wr), x.u.cell? ⟨b2, o2 + k * 13 + j, none⟩ = some u := fun j u hu x => x.cell hbl2 (hcell2 k hlt2 j u hu)
        have p0 := g1 0 _ rfl
        have q0 := g2 0 _ rfl
        have p1 := g1 1 _ rfl
        have q1 := g2 1 _ rfl
        have p2 := g1 2 _ rfl
        have q2 := g2 2 _ rfl
        have p3 := g1 3 _ rfl
        have q3 := g2 3 _ rfl
        have p4 := g1 4 _ rfl
        have q4 := g2 4 _ rfl
        have p5 := g1 5 _ rfl
        have q5 := g2 5 _ rfl
        have p6 := g1 6 _ rfl
        have q6 := g2 6 _ rfl
        have p7 := g1 7 _ rfl
        have q7 := g2 7 _ rfl
        have p8 := g1 8 _ rfl
        have q8 := g2 8 _ rfl
        have p9 := g1 9 _ rfl
        have q9 := g2 9 _ rfl
        have p10 := g1 10 _ rfl
        have q10 := g2 10 _ rfl
        have p11 := g1 11 _ rfl
        have q11 := g2 11 _ rfl
        have p12 := g1 12 _ rfl
        have q12 := g2 12 _ rfl
        simp only [Nat.add_zero] at p0 q0
        clear g1 g2 hcell1 hcell2 hcs1 hcs2 hfs1 hfs2
        have b1' : (0 : Int) ≤ (k : Int) := by omega
        have b2' : (k : Int) < (l.length : Int) := by omega
        have b3' : (k : Int) < (m.length : Int) := by omega
        by_cases heq : l[k] = m[k]
        · have HN := Lib.hid (acts_take HT.out hlt hlt2 heq)
          have hd : decide (l[k] = m[k]) = true := by simpa using heq
          simp only [hd] at hs
          have HX := Lib.hid heq
          clear hd heq
          unfold acV at hs
          go_wp2
          refine wp_region_below (by kernel_rfl) (by kernel_rfl) ?_
          intro W hW
          subst hW
          repeat (go_big_quiet_step ((go_at_call 17; exact Calls.below (hs _))))
          refine wpQuiet_nil ?_
          rintro u ⟨x, hx⟩
          have hu : Below W.heap.size W u := by rw [hx]; exact x.h
          clear hx x hs p0 q0 p1 q1 p2 q2 p3 q3 p4 q4 p5 q5 p6 q6 p7 q7 p8 q8 p9 q9 p10 q10 p11 q11 p12 q12
          go_wp2
          go_roundw
          case rel => exact ⟨k + 1, by omega, by go_num, HN.out, below_on hB hu⟩
          case measure => simp [intOf]; omega
        · skip
          have hd : decide (l[k] = m[k]) = false := by simpa using heq
          simp only [hd] at hs
          have HX := Lib.hid heq
          clear hd heq
          unfold acV at hs
          go_wp2
          refine wp_region_below (by kernel_rfl) (by kernel_rfl) ?_
          intro W hW
          subst hW
          repeat (go_big_quiet_step ((go_at_call 17; exact Calls.below (hs _))))
          refine wpQuiet_nil ?_
          rintro u ⟨x, hx⟩
          have hu : Below W.heap.size W u := by rw [hx]; exact x.h
          clear hx x hs p0 q0 p1 q1 p2 q2 p3 q3 p4 q4 p5 q5 p6 q6 p7 q7 p8 q8 p9 q9 p10 q10 p11 q11 p12 q12
          go_wp2
          go_ret
          refine ⟨ret_bool ?_, below_on hB hu⟩
          symm
          rw [decide_eq_false_iff_not]
          intro h
          subst h
          exact HX.out rfl
      · have HE : Hid (l = m) := by
          have := HT.out
          rw [List.take_of_length_le (by omega), List.take_of_length_le (by have := HLEN.out; omega)] at this
          exact this
        go_wp2
        go_ret
        exact ⟨ret_bool (by rw [HE.out]; simp), hB⟩
  · have hn1 : ((l.length : Int) != (m.length : Int)) = true := by rw [bne_iff_ne]; omega
    have HLEN := Lib.hid hlen; clear hlen
    go_enter Tryz.func20, Tryz.ntmps20
    go_wp2
    go_ret
    refine ⟨ret_bool ?_, Below.refl _ _⟩
    symm
    rw [decide_eq_false_iff_not]
    intro h
    exact HLEN.out (by rw [h])

end Go.Proofs.YtgajoiijebbagaaGreatDoor
