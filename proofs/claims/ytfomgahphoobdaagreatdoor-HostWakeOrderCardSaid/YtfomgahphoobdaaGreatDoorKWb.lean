/-
  The law on the order of waking: it holds over a memory in which the packages' errors are laid. Conditions: none.
-/
import Derived.Test.YtfomgahphoobdaaGreatDoorKPA
import Derived.Test.YtfomgahphoobdaaGreatDoorKP1
import Derived.Test.YtfomgahphoobdaaGreatDoorKP2
import Derived.Test.YtfomgahphoobdaaGreatDoorKP3
import Derived.Test.YtfomgahphoobdaaGreatDoorKP4
import Derived.Test.YtfomgahphoobdaaGreatDoorKP5
import Derived.Test.YtfomgahphoobdaaGreatDoorKP6
import Derived.Test.YtfomgahphoobdaaGreatDoorKQA
import Derived.Test.YtfomgahphoobdaaGreatDoorKQ1
import Derived.Test.YtfomgahphoobdaaGreatDoorKQ2
import Derived.Test.YtfomgahphoobdaaGreatDoorKQ3
import Derived.Test.YtfomgahphoobdaaGreatDoorKQ4
import Derived.Test.YtfomgahphoobdaaGreatDoorKQ5
import Derived.Test.YtfomgahphoobdaaGreatDoorKQ6
namespace Go.Proofs.YtfomgahphoobdaaGreatDoor
open Go Go.Ax Go.RowKit Go.Proofs
abbrev wkaA : List AV := .int .i64 (.var 14) :: .int .i64 (.var 15) :: wkts
abbrev wkaN : List AV := .int .i64 (.var 22) :: .int .i64 (.var 14) :: wkts
theorem wk_at : errs.ng + errs.m = 13 := by kernel_rfl
theorem wk_inst (β : Bool) : (instX wkS (wkmk β) 13).1.v = wkaA := by cases β <;> kernel_rfl
theorem wk_instn (β : Bool) : (instX wkS (wkmn β) 13).1.v = wkaA := by cases β <;> kernel_rfl
structure WkIn (n0 : Nat) (w0 : World) (pl : Ax.Place) (len : Nat) (T : List Value) : Prop where
  lt : pl.blk < n0
  big : 1 ≤ len → 8 ≤ pl.blk ∧ ∃ c el fr, w0.heap[pl.blk]? = some (.cells c el fr) ∧ c.size = pl.n
  cell : ∀ i v, T[i]? = some v → i < len → w0.cell? ⟨pl.blk, pl.base + i, none⟩ = some v
  fit : pl.base + len ≤ pl.n
section
variable {n0 : Nat} {w0 : World} {cs0 : List Frame} {pl : Ax.Place} {len : Nat} {T vals : List Value} {avs bvs : List AV}
def WkG (n0 : Nat) (w0 : World) (cs0 : List Frame) (pl : Ax.Place) (avs : List AV) (vals : List Value) (s : AM) : Prop :=
  ∀ X m, Kept 13 pl avs vals X → Sim Tryz.prog GF n0 w0 cs0 X s m → EndsTrue Tryz.prog n0 w0 cs0 4 m
theorem wkhop {s : AM} {j : List Nat} {σ : Sb} {keep : List Nat} {t : StC} (hh : HopC 0 specF GF 200 17 s j σ keep t) (hk : keepK GF.T.ng keep 13 = true) (hc : chkL σ t.vs (keepK GF.T.ng keep) avs bvs = true)
    (he : WkG n0 w0 cs0 pl bvs vals (t.am 8000)) : WkG n0 w0 cs0 pl avs vals s :=
  fun _ _ hX h => HopC.endsV tab_right ifs_right fsums_all errs_pos hk hc hh he hX h
theorem wkend {s : AM} {d : Nat} (hz : exploreP specF GF 200 4 (fun c v => (Sp.lit true).chk c v) 17 d [] s = true) : WkG n0 w0 cs0 pl avs vals s :=
  fun _ _ _ h => EndsTrue.of_explore tab_right ifs_right fsums_all specF_ok hz h
theorem wkpart {t : StC} {l : List Fact} {op : BinOp} {a b : E} (ha : a.okB t.vs = true) (hb : b.okB t.vs = true) (h1 : WkG n0 w0 cs0 pl avs vals (wf t (⟨op, a, b, true⟩ :: l))) (h2 : WkG n0 w0 cs0 pl avs vals (wf t (⟨op, a, b, false⟩ :: l))) :
    WkG n0 w0 cs0 pl avs vals (wf t l) :=
  fun X m hX h => (Sim.partC (t := { t with fs := l }) h op a b ha hb).elim (h1 X m hX) (h2 X m hX)
theorem wkrev {N k k0 : Nat} {t : StC} {l : List Fact} (hI : WkIn n0 w0 pl len T) (hN : N ≤ len) (h1 : 1 ≤ k) (hcur : noDraw t.fr.cur = true) (hcs : t.cs = []) (hro : roB GF.T.ng 13 t.l = true) (hd : (t.am 8000).fr.tm.get 0 = some (.wslice 13 0 k0 1 14))
    (hf : (⟨.lss, .var 22, .lit (.ofNat k), false⟩ : Fact) ∈ l) (he : WkG n0 w0 cs0 pl wkaN (.int .i64 N :: .int .i64 len :: T) (wr t k l)) : WkG n0 w0 cs0 pl wkaN (.int .i64 N :: .int .i64 len :: T) (wf t l) := fun X m hX h => by
  have hr := hX.r
  simp only [wkaN, rels_cons_cons, AV.rel, E.den, Value.int.injEq, true_and] at hr
  obtain ⟨⟨-, e1⟩, ⟨-, e2⟩, hts⟩ := hr
  have hv := (h.ctx.2 _ hf).1
  have hk : k ≤ N := by
    simp only [Fact.ok, cmpZ, E.den, ← e1, decide_eq_false_iff_not] at hv
    have : ((Int.ofNat k : Int)) = (k : Int) := rfl
    omega
  obtain ⟨hb, hblk⟩ := hI.big (by omega)
  exact he X m hX (Sim.revealW (t := { t with fs := l }) h hcur hcs hro hX.μ hI.lt hb hblk hts hI.cell (by omega) hI.fit hd e2.symm)
theorem wkvt {t0 t : StC} {l : List Fact} {j keep : List Nat} {c : Value} (hh : HopC 0 specF GF 200 17 (wf t0 (⟨.lss, .lit (.ofNat 6), .var 14, true⟩ :: l)) j [(22, .lit (.ofNat 6))] keep t) (hk : keepK GF.T.ng keep 13 = true)
    (hc : chkL [(22, .lit (.ofNat 6))] t.vs (keepK GF.T.ng keep) (.int .i64 (.lit (.ofNat 6)) :: .int .i64 (.var 14) :: wkts) wkaN = true)
    (he : 6 ≤ len → WkG n0 w0 cs0 pl wkaN (.int .i64 (6 : Nat) :: .int .i64 len :: T) (t.am 8000)) : WkG n0 w0 cs0 pl wkaA (.int .i64 len :: c :: T) (wf t0 (⟨.lss, .lit (.ofNat 6), .var 14, true⟩ :: l)) := fun X m hX h => by
  have hr := hX.r
  simp only [wkaA, rels_cons_cons, AV.rel, E.den, Value.int.injEq, true_and] at hr
  obtain ⟨⟨o1, e1⟩, -, hts⟩ := hr
  have hv := (h.ctx.2 _ (List.mem_cons_self ..)).1
  have hl : 6 ≤ len := by
    simp only [Fact.ok, cmpZ, E.den, ← e1, decide_eq_true_eq] at hv
    have : ((Int.ofNat 6 : Int)) = 6 := rfl
    omega
  refine HopC.endsV tab_right ifs_right fsums_all errs_pos hk hc hh (he hl) ⟨hX.μ, ?_⟩ h
  simp only [rels_cons_cons, AV.rel, E.den, Value.int.injEq, true_and]
  exact ⟨⟨trivial, rfl⟩, ⟨o1, e1⟩, hts⟩
theorem wkvf {t0 t : StC} {l : List Fact} {j keep : List Nat} {c : Value} (hh : HopC 0 specF GF 200 17 (wf t0 (⟨.lss, .lit (.ofNat 6), .var 14, false⟩ :: l)) j [(22, .var 14)] keep t) (hk : keepK GF.T.ng keep 13 = true)
    (hc : chkL [(22, .var 14)] t.vs (keepK GF.T.ng keep) (.int .i64 (.var 14) :: .int .i64 (.var 14) :: wkts) wkaN = true)
    (he : WkG n0 w0 cs0 pl wkaN (.int .i64 len :: .int .i64 len :: T) (t.am 8000)) : WkG n0 w0 cs0 pl wkaA (.int .i64 len :: c :: T) (wf t0 (⟨.lss, .lit (.ofNat 6), .var 14, false⟩ :: l)) := fun X m hX h => by
  have hr := hX.r
  simp only [wkaA, rels_cons_cons] at hr
  refine HopC.endsV tab_right ifs_right fsums_all errs_pos hk hc hh he ⟨hX.μ, ?_⟩ h
  simp only [rels_cons_cons]
  exact ⟨hr.1, hr.1, hr.2.2⟩
theorem wkl1T {N : Nat} (hI : WkIn n0 w0 pl len T) (hN : N ≤ len) : WkG n0 w0 cs0 pl wkaN (.int .i64 N :: .int .i64 len :: T) (wkL1.am 8000) :=
  wkpart (t := wkL1) (l := wkup 4 (wkX wkA1)) (op := .lss) (a := .var 22) (b := .lit (.ofNat 5)) (by rfl) (by rfl) (wkrev (k := 4) (k0 := 4) hI hN (by omega) rfl rfl (by kernel_rfl) (by kernel_rfl) (.tail _ (.head _)) (wkend wkz1T4))
    (wkpart (t := wkL1) (l := wkup 5 (wkX wkA1)) (op := .lss) (a := .var 22) (b := .lit (.ofNat 6)) (by rfl) (by rfl) (wkrev (k := 5) (k0 := 4) hI hN (by omega) rfl rfl (by kernel_rfl) (by kernel_rfl) (.tail _ (.head _)) (wkend wkz1T5))
    (wkrev (k := 6) (k0 := 4) hI hN (by omega) rfl rfl (by kernel_rfl) (by kernel_rfl) (.head _) (wkend wkz1T6)))
theorem wkk1T {N : Nat} (hI : WkIn n0 w0 pl len T) (hN : N ≤ len) : WkG n0 w0 cs0 pl wkaN (.int .i64 N :: .int .i64 len :: T) (wkK1.am 8000) :=
  wkpart (t := wkK1) (l := wkup 2 (wkX wkA1)) (op := .lss) (a := .var 22) (b := .lit (.ofNat 3)) (by rfl) (by rfl) (wkrev (k := 2) (k0 := 2) hI hN (by omega) rfl rfl (by kernel_rfl) (by kernel_rfl) (.tail _ (.head _)) (wkend wkz1T2))
    (wkpart (t := wkK1) (l := wkup 3 (wkX wkA1)) (op := .lss) (a := .var 22) (b := .lit (.ofNat 4)) (by rfl) (by rfl) (wkrev (k := 3) (k0 := 2) hI hN (by omega) rfl rfl (by kernel_rfl) (by kernel_rfl) (.tail _ (.head _)) (wkend wkz1T3))
    (wkrev (k := 4) (k0 := 2) hI hN (by omega) rfl rfl (by kernel_rfl) (by kernel_rfl) (.head _) (wkhop wkh1T4 (by kernel_rfl) (by kernel_rfl) (wkl1T hI hN))))
theorem wkg1T {N : Nat} (hI : WkIn n0 w0 pl len T) (hN : N ≤ len) : WkG n0 w0 cs0 pl wkaN (.int .i64 N :: .int .i64 len :: T) ((wkN1 true wkw).am 8000) :=
  wkpart (t := (wkN1 true wkw)) (l := wkup 1 (wkX wkA1)) (op := .lss) (a := .var 22) (b := .lit (.ofNat 2)) (by rfl) (by rfl) (wkrev (k := 1) (k0 := 0) hI hN (by omega) rfl rfl (by kernel_rfl) (by kernel_rfl) (.tail _ (.tail _ (.head _))) (wkend wkz1T1))
    (wkrev (k := 2) (k0 := 0) hI hN (by omega) rfl rfl (by kernel_rfl) (by kernel_rfl) (.head _) (wkhop wkh1T2 (by kernel_rfl) (by kernel_rfl) (wkk1T hI hN)))
theorem wkl2T {N : Nat} (hI : WkIn n0 w0 pl len T) (hN : N ≤ len) : WkG n0 w0 cs0 pl wkaN (.int .i64 N :: .int .i64 len :: T) (wkL2.am 8000) :=
  wkpart (t := wkL2) (l := wkup 4 (wkX wkA2)) (op := .lss) (a := .var 22) (b := .lit (.ofNat 5)) (by rfl) (by rfl) (wkrev (k := 4) (k0 := 4) hI hN (by omega) rfl rfl (by kernel_rfl) (by kernel_rfl) (.tail _ (.head _)) (wkend wkz2T4))
    (wkpart (t := wkL2) (l := wkup 5 (wkX wkA2)) (op := .lss) (a := .var 22) (b := .lit (.ofNat 6)) (by rfl) (by rfl) (wkrev (k := 5) (k0 := 4) hI hN (by omega) rfl rfl (by kernel_rfl) (by kernel_rfl) (.tail _ (.head _)) (wkend wkz2T5))
    (wkrev (k := 6) (k0 := 4) hI hN (by omega) rfl rfl (by kernel_rfl) (by kernel_rfl) (.head _) (wkend wkz2T6)))
theorem wkk2T {N : Nat} (hI : WkIn n0 w0 pl len T) (hN : N ≤ len) : WkG n0 w0 cs0 pl wkaN (.int .i64 N :: .int .i64 len :: T) (wkK2.am 8000) :=
  wkpart (t := wkK2) (l := wkup 2 (wkX wkA2)) (op := .lss) (a := .var 22) (b := .lit (.ofNat 3)) (by rfl) (by rfl) (wkrev (k := 2) (k0 := 2) hI hN (by omega) rfl rfl (by kernel_rfl) (by kernel_rfl) (.tail _ (.head _)) (wkend wkz2T2))
    (wkpart (t := wkK2) (l := wkup 3 (wkX wkA2)) (op := .lss) (a := .var 22) (b := .lit (.ofNat 4)) (by rfl) (by rfl) (wkrev (k := 3) (k0 := 2) hI hN (by omega) rfl rfl (by kernel_rfl) (by kernel_rfl) (.tail _ (.head _)) (wkend wkz2T3))
    (wkrev (k := 4) (k0 := 2) hI hN (by omega) rfl rfl (by kernel_rfl) (by kernel_rfl) (.head _) (wkhop wkh2T4 (by kernel_rfl) (by kernel_rfl) (wkl2T hI hN))))
theorem wkg2T {N : Nat} (hI : WkIn n0 w0 pl len T) (hN : N ≤ len) : WkG n0 w0 cs0 pl wkaN (.int .i64 N :: .int .i64 len :: T) ((wkN2 true wkw).am 8000) :=
  wkpart (t := (wkN2 true wkw)) (l := wkup 1 (wkX wkA2)) (op := .lss) (a := .var 22) (b := .lit (.ofNat 2)) (by rfl) (by rfl) (wkrev (k := 1) (k0 := 0) hI hN (by omega) rfl rfl (by kernel_rfl) (by kernel_rfl) (.tail _ (.tail _ (.head _))) (wkend wkz2T1))
    (wkrev (k := 2) (k0 := 0) hI hN (by omega) rfl rfl (by kernel_rfl) (by kernel_rfl) (.head _) (wkhop wkh2T2 (by kernel_rfl) (by kernel_rfl) (wkk2T hI hN)))
theorem wkl3T {N : Nat} (hI : WkIn n0 w0 pl len T) (hN : N ≤ len) : WkG n0 w0 cs0 pl wkaN (.int .i64 N :: .int .i64 len :: T) (wkL3.am 8000) :=
  wkpart (t := wkL3) (l := wkup 4 (wkX wkA3)) (op := .lss) (a := .var 22) (b := .lit (.ofNat 5)) (by rfl) (by rfl) (wkrev (k := 4) (k0 := 4) hI hN (by omega) rfl rfl (by kernel_rfl) (by kernel_rfl) (.tail _ (.head _)) (wkend wkz3T4))
    (wkpart (t := wkL3) (l := wkup 5 (wkX wkA3)) (op := .lss) (a := .var 22) (b := .lit (.ofNat 6)) (by rfl) (by rfl) (wkrev (k := 5) (k0 := 4) hI hN (by omega) rfl rfl (by kernel_rfl) (by kernel_rfl) (.tail _ (.head _)) (wkend wkz3T5))
    (wkrev (k := 6) (k0 := 4) hI hN (by omega) rfl rfl (by kernel_rfl) (by kernel_rfl) (.head _) (wkend wkz3T6)))
theorem wkk3T {N : Nat} (hI : WkIn n0 w0 pl len T) (hN : N ≤ len) : WkG n0 w0 cs0 pl wkaN (.int .i64 N :: .int .i64 len :: T) (wkK3.am 8000) :=
  wkpart (t := wkK3) (l := wkup 2 (wkX wkA3)) (op := .lss) (a := .var 22) (b := .lit (.ofNat 3)) (by rfl) (by rfl) (wkrev (k := 2) (k0 := 2) hI hN (by omega) rfl rfl (by kernel_rfl) (by kernel_rfl) (.tail _ (.head _)) (wkend wkz3T2))
    (wkpart (t := wkK3) (l := wkup 3 (wkX wkA3)) (op := .lss) (a := .var 22) (b := .lit (.ofNat 4)) (by rfl) (by rfl) (wkrev (k := 3) (k0 := 2) hI hN (by omega) rfl rfl (by kernel_rfl) (by kernel_rfl) (.tail _ (.head _)) (wkend wkz3T3))
    (wkrev (k := 4) (k0 := 2) hI hN (by omega) rfl rfl (by kernel_rfl) (by kernel_rfl) (.head _) (wkhop wkh3T4 (by kernel_rfl) (by kernel_rfl) (wkl3T hI hN))))
theorem wkg3T {N : Nat} (hI : WkIn n0 w0 pl len T) (hN : N ≤ len) : WkG n0 w0 cs0 pl wkaN (.int .i64 N :: .int .i64 len :: T) ((wkN3 true wkw).am 8000) :=
  wkpart (t := (wkN3 true wkw)) (l := wkup 1 (wkX wkA3)) (op := .lss) (a := .var 22) (b := .lit (.ofNat 2)) (by rfl) (by rfl) (wkrev (k := 1) (k0 := 0) hI hN (by omega) rfl rfl (by kernel_rfl) (by kernel_rfl) (.tail _ (.tail _ (.head _))) (wkend wkz3T1))
    (wkrev (k := 2) (k0 := 0) hI hN (by omega) rfl rfl (by kernel_rfl) (by kernel_rfl) (.head _) (wkhop wkh3T2 (by kernel_rfl) (by kernel_rfl) (wkk3T hI hN)))
theorem wkl4T {N : Nat} (hI : WkIn n0 w0 pl len T) (hN : N ≤ len) : WkG n0 w0 cs0 pl wkaN (.int .i64 N :: .int .i64 len :: T) (wkL4.am 8000) :=
  wkpart (t := wkL4) (l := wkup 4 (wkX wkA4)) (op := .lss) (a := .var 22) (b := .lit (.ofNat 5)) (by rfl) (by rfl) (wkrev (k := 4) (k0 := 4) hI hN (by omega) rfl rfl (by kernel_rfl) (by kernel_rfl) (.tail _ (.head _)) (wkend wkz4T4))
    (wkpart (t := wkL4) (l := wkup 5 (wkX wkA4)) (op := .lss) (a := .var 22) (b := .lit (.ofNat 6)) (by rfl) (by rfl) (wkrev (k := 5) (k0 := 4) hI hN (by omega) rfl rfl (by kernel_rfl) (by kernel_rfl) (.tail _ (.head _)) (wkend wkz4T5))
    (wkrev (k := 6) (k0 := 4) hI hN (by omega) rfl rfl (by kernel_rfl) (by kernel_rfl) (.head _) (wkend wkz4T6)))
theorem wkk4T {N : Nat} (hI : WkIn n0 w0 pl len T) (hN : N ≤ len) : WkG n0 w0 cs0 pl wkaN (.int .i64 N :: .int .i64 len :: T) (wkK4.am 8000) :=
  wkpart (t := wkK4) (l := wkup 2 (wkX wkA4)) (op := .lss) (a := .var 22) (b := .lit (.ofNat 3)) (by rfl) (by rfl) (wkrev (k := 2) (k0 := 2) hI hN (by omega) rfl rfl (by kernel_rfl) (by kernel_rfl) (.tail _ (.head _)) (wkend wkz4T2))
    (wkpart (t := wkK4) (l := wkup 3 (wkX wkA4)) (op := .lss) (a := .var 22) (b := .lit (.ofNat 4)) (by rfl) (by rfl) (wkrev (k := 3) (k0 := 2) hI hN (by omega) rfl rfl (by kernel_rfl) (by kernel_rfl) (.tail _ (.head _)) (wkend wkz4T3))
    (wkrev (k := 4) (k0 := 2) hI hN (by omega) rfl rfl (by kernel_rfl) (by kernel_rfl) (.head _) (wkhop wkh4T4 (by kernel_rfl) (by kernel_rfl) (wkl4T hI hN))))
theorem wkg4T {N : Nat} (hI : WkIn n0 w0 pl len T) (hN : N ≤ len) : WkG n0 w0 cs0 pl wkaN (.int .i64 N :: .int .i64 len :: T) ((wkN4 true wkw).am 8000) :=
  wkpart (t := (wkN4 true wkw)) (l := wkup 1 (wkX wkA4)) (op := .lss) (a := .var 22) (b := .lit (.ofNat 2)) (by rfl) (by rfl) (wkrev (k := 1) (k0 := 0) hI hN (by omega) rfl rfl (by kernel_rfl) (by kernel_rfl) (.tail _ (.tail _ (.head _))) (wkend wkz4T1))
    (wkrev (k := 2) (k0 := 0) hI hN (by omega) rfl rfl (by kernel_rfl) (by kernel_rfl) (.head _) (wkhop wkh4T2 (by kernel_rfl) (by kernel_rfl) (wkk4T hI hN)))
theorem wkl5T {N : Nat} (hI : WkIn n0 w0 pl len T) (hN : N ≤ len) : WkG n0 w0 cs0 pl wkaN (.int .i64 N :: .int .i64 len :: T) (wkL5.am 8000) :=
  wkpart (t := wkL5) (l := wkup 4 (wkX wkA5)) (op := .lss) (a := .var 22) (b := .lit (.ofNat 5)) (by rfl) (by rfl) (wkrev (k := 4) (k0 := 4) hI hN (by omega) rfl rfl (by kernel_rfl) (by kernel_rfl) (.tail _ (.head _)) (wkend wkz5T4))
    (wkpart (t := wkL5) (l := wkup 5 (wkX wkA5)) (op := .lss) (a := .var 22) (b := .lit (.ofNat 6)) (by rfl) (by rfl) (wkrev (k := 5) (k0 := 4) hI hN (by omega) rfl rfl (by kernel_rfl) (by kernel_rfl) (.tail _ (.head _)) (wkend wkz5T5))
    (wkrev (k := 6) (k0 := 4) hI hN (by omega) rfl rfl (by kernel_rfl) (by kernel_rfl) (.head _) (wkend wkz5T6)))
theorem wkk5T {N : Nat} (hI : WkIn n0 w0 pl len T) (hN : N ≤ len) : WkG n0 w0 cs0 pl wkaN (.int .i64 N :: .int .i64 len :: T) (wkK5.am 8000) :=
  wkpart (t := wkK5) (l := wkup 2 (wkX wkA5)) (op := .lss) (a := .var 22) (b := .lit (.ofNat 3)) (by rfl) (by rfl) (wkrev (k := 2) (k0 := 2) hI hN (by omega) rfl rfl (by kernel_rfl) (by kernel_rfl) (.tail _ (.head _)) (wkend wkz5T2))
    (wkpart (t := wkK5) (l := wkup 3 (wkX wkA5)) (op := .lss) (a := .var 22) (b := .lit (.ofNat 4)) (by rfl) (by rfl) (wkrev (k := 3) (k0 := 2) hI hN (by omega) rfl rfl (by kernel_rfl) (by kernel_rfl) (.tail _ (.head _)) (wkend wkz5T3))
    (wkrev (k := 4) (k0 := 2) hI hN (by omega) rfl rfl (by kernel_rfl) (by kernel_rfl) (.head _) (wkhop wkh5T4 (by kernel_rfl) (by kernel_rfl) (wkl5T hI hN))))
theorem wkg5T {N : Nat} (hI : WkIn n0 w0 pl len T) (hN : N ≤ len) : WkG n0 w0 cs0 pl wkaN (.int .i64 N :: .int .i64 len :: T) ((wkN5 true wkw).am 8000) :=
  wkpart (t := (wkN5 true wkw)) (l := wkup 1 (wkX wkA5)) (op := .lss) (a := .var 22) (b := .lit (.ofNat 2)) (by rfl) (by rfl) (wkrev (k := 1) (k0 := 0) hI hN (by omega) rfl rfl (by kernel_rfl) (by kernel_rfl) (.tail _ (.tail _ (.head _))) (wkend wkz5T1))
    (wkrev (k := 2) (k0 := 0) hI hN (by omega) rfl rfl (by kernel_rfl) (by kernel_rfl) (.head _) (wkhop wkh5T2 (by kernel_rfl) (by kernel_rfl) (wkk5T hI hN)))
theorem wkl6T {N : Nat} (hI : WkIn n0 w0 pl len T) (hN : N ≤ len) : WkG n0 w0 cs0 pl wkaN (.int .i64 N :: .int .i64 len :: T) (wkL6.am 8000) :=
  wkpart (t := wkL6) (l := wkup 4 (wkX wkA6)) (op := .lss) (a := .var 22) (b := .lit (.ofNat 5)) (by rfl) (by rfl) (wkrev (k := 4) (k0 := 4) hI hN (by omega) rfl rfl (by kernel_rfl) (by kernel_rfl) (.tail _ (.head _)) (wkend wkz6T4))
    (wkpart (t := wkL6) (l := wkup 5 (wkX wkA6)) (op := .lss) (a := .var 22) (b := .lit (.ofNat 6)) (by rfl) (by rfl) (wkrev (k := 5) (k0 := 4) hI hN (by omega) rfl rfl (by kernel_rfl) (by kernel_rfl) (.tail _ (.head _)) (wkend wkz6T5))
    (wkrev (k := 6) (k0 := 4) hI hN (by omega) rfl rfl (by kernel_rfl) (by kernel_rfl) (.head _) (wkend wkz6T6)))
theorem wkk6T {N : Nat} (hI : WkIn n0 w0 pl len T) (hN : N ≤ len) : WkG n0 w0 cs0 pl wkaN (.int .i64 N :: .int .i64 len :: T) (wkK6.am 8000) :=
  wkpart (t := wkK6) (l := wkup 2 (wkX wkA6)) (op := .lss) (a := .var 22) (b := .lit (.ofNat 3)) (by rfl) (by rfl) (wkrev (k := 2) (k0 := 2) hI hN (by omega) rfl rfl (by kernel_rfl) (by kernel_rfl) (.tail _ (.head _)) (wkend wkz6T2))
    (wkpart (t := wkK6) (l := wkup 3 (wkX wkA6)) (op := .lss) (a := .var 22) (b := .lit (.ofNat 4)) (by rfl) (by rfl) (wkrev (k := 3) (k0 := 2) hI hN (by omega) rfl rfl (by kernel_rfl) (by kernel_rfl) (.tail _ (.head _)) (wkend wkz6T3))
    (wkrev (k := 4) (k0 := 2) hI hN (by omega) rfl rfl (by kernel_rfl) (by kernel_rfl) (.head _) (wkhop wkh6T4 (by kernel_rfl) (by kernel_rfl) (wkl6T hI hN))))
theorem wkg6T {N : Nat} (hI : WkIn n0 w0 pl len T) (hN : N ≤ len) : WkG n0 w0 cs0 pl wkaN (.int .i64 N :: .int .i64 len :: T) ((wkN6 true wkw).am 8000) :=
  wkpart (t := (wkN6 true wkw)) (l := wkup 1 (wkX wkA6)) (op := .lss) (a := .var 22) (b := .lit (.ofNat 2)) (by rfl) (by rfl) (wkrev (k := 1) (k0 := 0) hI hN (by omega) rfl rfl (by kernel_rfl) (by kernel_rfl) (.tail _ (.tail _ (.head _))) (wkend wkz6T1))
    (wkrev (k := 2) (k0 := 0) hI hN (by omega) rfl rfl (by kernel_rfl) (by kernel_rfl) (.head _) (wkhop wkh6T2 (by kernel_rfl) (by kernel_rfl) (wkk6T hI hN)))
theorem wkmT {v : Value} (hI : WkIn n0 w0 pl len T) : WkG n0 w0 cs0 pl wkaA (.int .i64 len :: v :: T) ((wkM true wkw).am 8000) :=
  wkpart (t := (wkM true wkw)) (l := wkB1) (op := .lss) (a := .lit (.ofNat 1)) (b := wkq) (by rfl) (by rfl)
    (wkpart (t := (wkM true wkw)) (l := wkB2) (op := .lss) (a := .lit (.ofNat 2)) (b := wkq) (by rfl) (by rfl)
    (wkpart (t := (wkM true wkw)) (l := wkB3) (op := .lss) (a := .lit (.ofNat 3)) (b := wkq) (by rfl) (by rfl)
    (wkpart (t := (wkM true wkw)) (l := wkB4) (op := .lss) (a := .lit (.ofNat 4)) (b := wkq) (by rfl) (by rfl)
    (wkpart (t := (wkM true wkw)) (l := wkB5) (op := .lss) (a := .lit (.ofNat 5)) (b := wkq) (by rfl) (by rfl)
    (wkpart (t := (wkM true wkw)) (l := wkA6) (op := .lss) (a := .var 14) (b := .lit (.ofNat 1)) (by rfl) (by rfl) (wkend wke6T)
      (wkpart (t := (wkM true wkw)) (op := .lss) (a := .lit (.ofNat 6)) (b := .var 14) (by rfl) (by rfl) (wkvt wkv6Tt (by kernel_rfl) (by kernel_rfl) (fun h => wkg6T hI h)) (wkvf wkv6Tf (by kernel_rfl) (by kernel_rfl) (wkg6T hI (Nat.le_refl _)))))
    (wkpart (t := (wkM true wkw)) (l := wkA5) (op := .lss) (a := .var 14) (b := .lit (.ofNat 1)) (by rfl) (by rfl) (wkend wke5T)
      (wkpart (t := (wkM true wkw)) (op := .lss) (a := .lit (.ofNat 6)) (b := .var 14) (by rfl) (by rfl) (wkvt wkv5Tt (by kernel_rfl) (by kernel_rfl) (fun h => wkg5T hI h)) (wkvf wkv5Tf (by kernel_rfl) (by kernel_rfl) (wkg5T hI (Nat.le_refl _))))))
    (wkpart (t := (wkM true wkw)) (l := wkA4) (op := .lss) (a := .var 14) (b := .lit (.ofNat 1)) (by rfl) (by rfl) (wkend wke4T)
      (wkpart (t := (wkM true wkw)) (op := .lss) (a := .lit (.ofNat 6)) (b := .var 14) (by rfl) (by rfl) (wkvt wkv4Tt (by kernel_rfl) (by kernel_rfl) (fun h => wkg4T hI h)) (wkvf wkv4Tf (by kernel_rfl) (by kernel_rfl) (wkg4T hI (Nat.le_refl _))))))
    (wkpart (t := (wkM true wkw)) (l := wkA3) (op := .lss) (a := .var 14) (b := .lit (.ofNat 1)) (by rfl) (by rfl) (wkend wke3T)
      (wkpart (t := (wkM true wkw)) (op := .lss) (a := .lit (.ofNat 6)) (b := .var 14) (by rfl) (by rfl) (wkvt wkv3Tt (by kernel_rfl) (by kernel_rfl) (fun h => wkg3T hI h)) (wkvf wkv3Tf (by kernel_rfl) (by kernel_rfl) (wkg3T hI (Nat.le_refl _))))))
    (wkpart (t := (wkM true wkw)) (l := wkA2) (op := .lss) (a := .var 14) (b := .lit (.ofNat 1)) (by rfl) (by rfl) (wkend wke2T)
      (wkpart (t := (wkM true wkw)) (op := .lss) (a := .lit (.ofNat 6)) (b := .var 14) (by rfl) (by rfl) (wkvt wkv2Tt (by kernel_rfl) (by kernel_rfl) (fun h => wkg2T hI h)) (wkvf wkv2Tf (by kernel_rfl) (by kernel_rfl) (wkg2T hI (Nat.le_refl _))))))
    (wkpart (t := (wkM true wkw)) (l := wkA1) (op := .lss) (a := .var 14) (b := .lit (.ofNat 1)) (by rfl) (by rfl) (wkend wke1T)
      (wkpart (t := (wkM true wkw)) (op := .lss) (a := .lit (.ofNat 6)) (b := .var 14) (by rfl) (by rfl) (wkvt wkv1Tt (by kernel_rfl) (by kernel_rfl) (fun h => wkg1T hI h)) (wkvf wkv1Tf (by kernel_rfl) (by kernel_rfl) (wkg1T hI (Nat.le_refl _)))))
theorem wksT {v : Value} (hI : WkIn n0 w0 pl len T) : WkG n0 w0 cs0 pl wkaA (.int .i64 len :: v :: T) (wk00 true) := wkhop (bvs := wkaA) wkhAT (by kernel_rfl) (by kernel_rfl) (wkhop wkhBT (by kernel_rfl) (by kernel_rfl) (wkmT hI))
theorem wknT : WkG n0 w0 cs0 pl wkaA vals (wkn0 true) := wkhop (bvs := wkaA) wkhNT (by kernel_rfl) (by kernel_rfl) (wkhop (bvs := wkaA) wkhOT (by kernel_rfl) (by kernel_rfl) (wkend wkzNT))
theorem wkl1F {N : Nat} (hI : WkIn n0 w0 pl len T) (hN : N ≤ len) : WkG n0 w0 cs0 pl wkaN (.int .i64 N :: .int .i64 len :: T) (wkR1.am 8000) :=
  wkpart (t := wkR1) (l := wkup 4 (wkX wkA1)) (op := .lss) (a := .var 22) (b := .lit (.ofNat 5)) (by rfl) (by rfl) (wkrev (k := 4) (k0 := 4) hI hN (by omega) rfl rfl (by kernel_rfl) (by kernel_rfl) (.tail _ (.head _)) (wkend wkz1F4))
    (wkpart (t := wkR1) (l := wkup 5 (wkX wkA1)) (op := .lss) (a := .var 22) (b := .lit (.ofNat 6)) (by rfl) (by rfl) (wkrev (k := 5) (k0 := 4) hI hN (by omega) rfl rfl (by kernel_rfl) (by kernel_rfl) (.tail _ (.head _)) (wkend wkz1F5))
    (wkrev (k := 6) (k0 := 4) hI hN (by omega) rfl rfl (by kernel_rfl) (by kernel_rfl) (.head _) (wkend wkz1F6)))
theorem wkk1F {N : Nat} (hI : WkIn n0 w0 pl len T) (hN : N ≤ len) : WkG n0 w0 cs0 pl wkaN (.int .i64 N :: .int .i64 len :: T) (wkP1.am 8000) :=
  wkpart (t := wkP1) (l := wkup 2 (wkX wkA1)) (op := .lss) (a := .var 22) (b := .lit (.ofNat 3)) (by rfl) (by rfl) (wkrev (k := 2) (k0 := 2) hI hN (by omega) rfl rfl (by kernel_rfl) (by kernel_rfl) (.tail _ (.head _)) (wkend wkz1F2))
    (wkpart (t := wkP1) (l := wkup 3 (wkX wkA1)) (op := .lss) (a := .var 22) (b := .lit (.ofNat 4)) (by rfl) (by rfl) (wkrev (k := 3) (k0 := 2) hI hN (by omega) rfl rfl (by kernel_rfl) (by kernel_rfl) (.tail _ (.head _)) (wkend wkz1F3))
    (wkrev (k := 4) (k0 := 2) hI hN (by omega) rfl rfl (by kernel_rfl) (by kernel_rfl) (.head _) (wkhop wkh1F4 (by kernel_rfl) (by kernel_rfl) (wkl1F hI hN))))
theorem wkg1F {N : Nat} (hI : WkIn n0 w0 pl len T) (hN : N ≤ len) : WkG n0 w0 cs0 pl wkaN (.int .i64 N :: .int .i64 len :: T) ((wkN1 false wkw).am 8000) :=
  wkpart (t := (wkN1 false wkw)) (l := wkup 1 (wkX wkA1)) (op := .lss) (a := .var 22) (b := .lit (.ofNat 2)) (by rfl) (by rfl) (wkrev (k := 1) (k0 := 0) hI hN (by omega) rfl rfl (by kernel_rfl) (by kernel_rfl) (.tail _ (.tail _ (.head _))) (wkend wkz1F1))
    (wkrev (k := 2) (k0 := 0) hI hN (by omega) rfl rfl (by kernel_rfl) (by kernel_rfl) (.head _) (wkhop wkh1F2 (by kernel_rfl) (by kernel_rfl) (wkk1F hI hN)))
theorem wkl2F {N : Nat} (hI : WkIn n0 w0 pl len T) (hN : N ≤ len) : WkG n0 w0 cs0 pl wkaN (.int .i64 N :: .int .i64 len :: T) (wkR2.am 8000) :=
  wkpart (t := wkR2) (l := wkup 4 (wkX wkA2)) (op := .lss) (a := .var 22) (b := .lit (.ofNat 5)) (by rfl) (by rfl) (wkrev (k := 4) (k0 := 4) hI hN (by omega) rfl rfl (by kernel_rfl) (by kernel_rfl) (.tail _ (.head _)) (wkend wkz2F4))
    (wkpart (t := wkR2) (l := wkup 5 (wkX wkA2)) (op := .lss) (a := .var 22) (b := .lit (.ofNat 6)) (by rfl) (by rfl) (wkrev (k := 5) (k0 := 4) hI hN (by omega) rfl rfl (by kernel_rfl) (by kernel_rfl) (.tail _ (.head _)) (wkend wkz2F5))
    (wkrev (k := 6) (k0 := 4) hI hN (by omega) rfl rfl (by kernel_rfl) (by kernel_rfl) (.head _) (wkend wkz2F6)))
theorem wkk2F {N : Nat} (hI : WkIn n0 w0 pl len T) (hN : N ≤ len) : WkG n0 w0 cs0 pl wkaN (.int .i64 N :: .int .i64 len :: T) (wkP2.am 8000) :=
  wkpart (t := wkP2) (l := wkup 2 (wkX wkA2)) (op := .lss) (a := .var 22) (b := .lit (.ofNat 3)) (by rfl) (by rfl) (wkrev (k := 2) (k0 := 2) hI hN (by omega) rfl rfl (by kernel_rfl) (by kernel_rfl) (.tail _ (.head _)) (wkend wkz2F2))
    (wkpart (t := wkP2) (l := wkup 3 (wkX wkA2)) (op := .lss) (a := .var 22) (b := .lit (.ofNat 4)) (by rfl) (by rfl) (wkrev (k := 3) (k0 := 2) hI hN (by omega) rfl rfl (by kernel_rfl) (by kernel_rfl) (.tail _ (.head _)) (wkend wkz2F3))
    (wkrev (k := 4) (k0 := 2) hI hN (by omega) rfl rfl (by kernel_rfl) (by kernel_rfl) (.head _) (wkhop wkh2F4 (by kernel_rfl) (by kernel_rfl) (wkl2F hI hN))))
theorem wkg2F {N : Nat} (hI : WkIn n0 w0 pl len T) (hN : N ≤ len) : WkG n0 w0 cs0 pl wkaN (.int .i64 N :: .int .i64 len :: T) ((wkN2 false wkw).am 8000) :=
  wkpart (t := (wkN2 false wkw)) (l := wkup 1 (wkX wkA2)) (op := .lss) (a := .var 22) (b := .lit (.ofNat 2)) (by rfl) (by rfl) (wkrev (k := 1) (k0 := 0) hI hN (by omega) rfl rfl (by kernel_rfl) (by kernel_rfl) (.tail _ (.tail _ (.head _))) (wkend wkz2F1))
    (wkrev (k := 2) (k0 := 0) hI hN (by omega) rfl rfl (by kernel_rfl) (by kernel_rfl) (.head _) (wkhop wkh2F2 (by kernel_rfl) (by kernel_rfl) (wkk2F hI hN)))
theorem wkl3F {N : Nat} (hI : WkIn n0 w0 pl len T) (hN : N ≤ len) : WkG n0 w0 cs0 pl wkaN (.int .i64 N :: .int .i64 len :: T) (wkR3.am 8000) :=
  wkpart (t := wkR3) (l := wkup 4 (wkX wkA3)) (op := .lss) (a := .var 22) (b := .lit (.ofNat 5)) (by rfl) (by rfl) (wkrev (k := 4) (k0 := 4) hI hN (by omega) rfl rfl (by kernel_rfl) (by kernel_rfl) (.tail _ (.head _)) (wkend wkz3F4))
    (wkpart (t := wkR3) (l := wkup 5 (wkX wkA3)) (op := .lss) (a := .var 22) (b := .lit (.ofNat 6)) (by rfl) (by rfl) (wkrev (k := 5) (k0 := 4) hI hN (by omega) rfl rfl (by kernel_rfl) (by kernel_rfl) (.tail _ (.head _)) (wkend wkz3F5))
    (wkrev (k := 6) (k0 := 4) hI hN (by omega) rfl rfl (by kernel_rfl) (by kernel_rfl) (.head _) (wkend wkz3F6)))
theorem wkk3F {N : Nat} (hI : WkIn n0 w0 pl len T) (hN : N ≤ len) : WkG n0 w0 cs0 pl wkaN (.int .i64 N :: .int .i64 len :: T) (wkP3.am 8000) :=
  wkpart (t := wkP3) (l := wkup 2 (wkX wkA3)) (op := .lss) (a := .var 22) (b := .lit (.ofNat 3)) (by rfl) (by rfl) (wkrev (k := 2) (k0 := 2) hI hN (by omega) rfl rfl (by kernel_rfl) (by kernel_rfl) (.tail _ (.head _)) (wkend wkz3F2))
    (wkpart (t := wkP3) (l := wkup 3 (wkX wkA3)) (op := .lss) (a := .var 22) (b := .lit (.ofNat 4)) (by rfl) (by rfl) (wkrev (k := 3) (k0 := 2) hI hN (by omega) rfl rfl (by kernel_rfl) (by kernel_rfl) (.tail _ (.head _)) (wkend wkz3F3))
    (wkrev (k := 4) (k0 := 2) hI hN (by omega) rfl rfl (by kernel_rfl) (by kernel_rfl) (.head _) (wkhop wkh3F4 (by kernel_rfl) (by kernel_rfl) (wkl3F hI hN))))
theorem wkg3F {N : Nat} (hI : WkIn n0 w0 pl len T) (hN : N ≤ len) : WkG n0 w0 cs0 pl wkaN (.int .i64 N :: .int .i64 len :: T) ((wkN3 false wkw).am 8000) :=
  wkpart (t := (wkN3 false wkw)) (l := wkup 1 (wkX wkA3)) (op := .lss) (a := .var 22) (b := .lit (.ofNat 2)) (by rfl) (by rfl) (wkrev (k := 1) (k0 := 0) hI hN (by omega) rfl rfl (by kernel_rfl) (by kernel_rfl) (.tail _ (.tail _ (.head _))) (wkend wkz3F1))
    (wkrev (k := 2) (k0 := 0) hI hN (by omega) rfl rfl (by kernel_rfl) (by kernel_rfl) (.head _) (wkhop wkh3F2 (by kernel_rfl) (by kernel_rfl) (wkk3F hI hN)))
theorem wkl4F {N : Nat} (hI : WkIn n0 w0 pl len T) (hN : N ≤ len) : WkG n0 w0 cs0 pl wkaN (.int .i64 N :: .int .i64 len :: T) (wkR4.am 8000) :=
  wkpart (t := wkR4) (l := wkup 4 (wkX wkA4)) (op := .lss) (a := .var 22) (b := .lit (.ofNat 5)) (by rfl) (by rfl) (wkrev (k := 4) (k0 := 4) hI hN (by omega) rfl rfl (by kernel_rfl) (by kernel_rfl) (.tail _ (.head _)) (wkend wkz4F4))
    (wkpart (t := wkR4) (l := wkup 5 (wkX wkA4)) (op := .lss) (a := .var 22) (b := .lit (.ofNat 6)) (by rfl) (by rfl) (wkrev (k := 5) (k0 := 4) hI hN (by omega) rfl rfl (by kernel_rfl) (by kernel_rfl) (.tail _ (.head _)) (wkend wkz4F5))
    (wkrev (k := 6) (k0 := 4) hI hN (by omega) rfl rfl (by kernel_rfl) (by kernel_rfl) (.head _) (wkend wkz4F6)))
theorem wkk4F {N : Nat} (hI : WkIn n0 w0 pl len T) (hN : N ≤ len) : WkG n0 w0 cs0 pl wkaN (.int .i64 N :: .int .i64 len :: T) (wkP4.am 8000) :=
  wkpart (t := wkP4) (l := wkup 2 (wkX wkA4)) (op := .lss) (a := .var 22) (b := .lit (.ofNat 3)) (by rfl) (by rfl) (wkrev (k := 2) (k0 := 2) hI hN (by omega) rfl rfl (by kernel_rfl) (by kernel_rfl) (.tail _ (.head _)) (wkend wkz4F2))
    (wkpart (t := wkP4) (l := wkup 3 (wkX wkA4)) (op := .lss) (a := .var 22) (b := .lit (.ofNat 4)) (by rfl) (by rfl) (wkrev (k := 3) (k0 := 2) hI hN (by omega) rfl rfl (by kernel_rfl) (by kernel_rfl) (.tail _ (.head _)) (wkend wkz4F3))
    (wkrev (k := 4) (k0 := 2) hI hN (by omega) rfl rfl (by kernel_rfl) (by kernel_rfl) (.head _) (wkhop wkh4F4 (by kernel_rfl) (by kernel_rfl) (wkl4F hI hN))))
theorem wkg4F {N : Nat} (hI : WkIn n0 w0 pl len T) (hN : N ≤ len) : WkG n0 w0 cs0 pl wkaN (.int .i64 N :: .int .i64 len :: T) ((wkN4 false wkw).am 8000) :=
  wkpart (t := (wkN4 false wkw)) (l := wkup 1 (wkX wkA4)) (op := .lss) (a := .var 22) (b := .lit (.ofNat 2)) (by rfl) (by rfl) (wkrev (k := 1) (k0 := 0) hI hN (by omega) rfl rfl (by kernel_rfl) (by kernel_rfl) (.tail _ (.tail _ (.head _))) (wkend wkz4F1))
    (wkrev (k := 2) (k0 := 0) hI hN (by omega) rfl rfl (by kernel_rfl) (by kernel_rfl) (.head _) (wkhop wkh4F2 (by kernel_rfl) (by kernel_rfl) (wkk4F hI hN)))
theorem wkl5F {N : Nat} (hI : WkIn n0 w0 pl len T) (hN : N ≤ len) : WkG n0 w0 cs0 pl wkaN (.int .i64 N :: .int .i64 len :: T) (wkR5.am 8000) :=
  wkpart (t := wkR5) (l := wkup 4 (wkX wkA5)) (op := .lss) (a := .var 22) (b := .lit (.ofNat 5)) (by rfl) (by rfl) (wkrev (k := 4) (k0 := 4) hI hN (by omega) rfl rfl (by kernel_rfl) (by kernel_rfl) (.tail _ (.head _)) (wkend wkz5F4))
    (wkpart (t := wkR5) (l := wkup 5 (wkX wkA5)) (op := .lss) (a := .var 22) (b := .lit (.ofNat 6)) (by rfl) (by rfl) (wkrev (k := 5) (k0 := 4) hI hN (by omega) rfl rfl (by kernel_rfl) (by kernel_rfl) (.tail _ (.head _)) (wkend wkz5F5))
    (wkrev (k := 6) (k0 := 4) hI hN (by omega) rfl rfl (by kernel_rfl) (by kernel_rfl) (.head _) (wkend wkz5F6)))
theorem wkk5F {N : Nat} (hI : WkIn n0 w0 pl len T) (hN : N ≤ len) : WkG n0 w0 cs0 pl wkaN (.int .i64 N :: .int .i64 len :: T) (wkP5.am 8000) :=
  wkpart (t := wkP5) (l := wkup 2 (wkX wkA5)) (op := .lss) (a := .var 22) (b := .lit (.ofNat 3)) (by rfl) (by rfl) (wkrev (k := 2) (k0 := 2) hI hN (by omega) rfl rfl (by kernel_rfl) (by kernel_rfl) (.tail _ (.head _)) (wkend wkz5F2))
    (wkpart (t := wkP5) (l := wkup 3 (wkX wkA5)) (op := .lss) (a := .var 22) (b := .lit (.ofNat 4)) (by rfl) (by rfl) (wkrev (k := 3) (k0 := 2) hI hN (by omega) rfl rfl (by kernel_rfl) (by kernel_rfl) (.tail _ (.head _)) (wkend wkz5F3))
    (wkrev (k := 4) (k0 := 2) hI hN (by omega) rfl rfl (by kernel_rfl) (by kernel_rfl) (.head _) (wkhop wkh5F4 (by kernel_rfl) (by kernel_rfl) (wkl5F hI hN))))
theorem wkg5F {N : Nat} (hI : WkIn n0 w0 pl len T) (hN : N ≤ len) : WkG n0 w0 cs0 pl wkaN (.int .i64 N :: .int .i64 len :: T) ((wkN5 false wkw).am 8000) :=
  wkpart (t := (wkN5 false wkw)) (l := wkup 1 (wkX wkA5)) (op := .lss) (a := .var 22) (b := .lit (.ofNat 2)) (by rfl) (by rfl) (wkrev (k := 1) (k0 := 0) hI hN (by omega) rfl rfl (by kernel_rfl) (by kernel_rfl) (.tail _ (.tail _ (.head _))) (wkend wkz5F1))
    (wkrev (k := 2) (k0 := 0) hI hN (by omega) rfl rfl (by kernel_rfl) (by kernel_rfl) (.head _) (wkhop wkh5F2 (by kernel_rfl) (by kernel_rfl) (wkk5F hI hN)))
theorem wkl6F {N : Nat} (hI : WkIn n0 w0 pl len T) (hN : N ≤ len) : WkG n0 w0 cs0 pl wkaN (.int .i64 N :: .int .i64 len :: T) (wkR6.am 8000) :=
  wkpart (t := wkR6) (l := wkup 4 (wkX wkA6)) (op := .lss) (a := .var 22) (b := .lit (.ofNat 5)) (by rfl) (by rfl) (wkrev (k := 4) (k0 := 4) hI hN (by omega) rfl rfl (by kernel_rfl) (by kernel_rfl) (.tail _ (.head _)) (wkend wkz6F4))
    (wkpart (t := wkR6) (l := wkup 5 (wkX wkA6)) (op := .lss) (a := .var 22) (b := .lit (.ofNat 6)) (by rfl) (by rfl) (wkrev (k := 5) (k0 := 4) hI hN (by omega) rfl rfl (by kernel_rfl) (by kernel_rfl) (.tail _ (.head _)) (wkend wkz6F5))
    (wkrev (k := 6) (k0 := 4) hI hN (by omega) rfl rfl (by kernel_rfl) (by kernel_rfl) (.head _) (wkend wkz6F6)))
theorem wkk6F {N : Nat} (hI : WkIn n0 w0 pl len T) (hN : N ≤ len) : WkG n0 w0 cs0 pl wkaN (.int .i64 N :: .int .i64 len :: T) (wkP6.am 8000) :=
  wkpart (t := wkP6) (l := wkup 2 (wkX wkA6)) (op := .lss) (a := .var 22) (b := .lit (.ofNat 3)) (by rfl) (by rfl) (wkrev (k := 2) (k0 := 2) hI hN (by omega) rfl rfl (by kernel_rfl) (by kernel_rfl) (.tail _ (.head _)) (wkend wkz6F2))
    (wkpart (t := wkP6) (l := wkup 3 (wkX wkA6)) (op := .lss) (a := .var 22) (b := .lit (.ofNat 4)) (by rfl) (by rfl) (wkrev (k := 3) (k0 := 2) hI hN (by omega) rfl rfl (by kernel_rfl) (by kernel_rfl) (.tail _ (.head _)) (wkend wkz6F3))
    (wkrev (k := 4) (k0 := 2) hI hN (by omega) rfl rfl (by kernel_rfl) (by kernel_rfl) (.head _) (wkhop wkh6F4 (by kernel_rfl) (by kernel_rfl) (wkl6F hI hN))))
theorem wkg6F {N : Nat} (hI : WkIn n0 w0 pl len T) (hN : N ≤ len) : WkG n0 w0 cs0 pl wkaN (.int .i64 N :: .int .i64 len :: T) ((wkN6 false wkw).am 8000) :=
  wkpart (t := (wkN6 false wkw)) (l := wkup 1 (wkX wkA6)) (op := .lss) (a := .var 22) (b := .lit (.ofNat 2)) (by rfl) (by rfl) (wkrev (k := 1) (k0 := 0) hI hN (by omega) rfl rfl (by kernel_rfl) (by kernel_rfl) (.tail _ (.tail _ (.head _))) (wkend wkz6F1))
    (wkrev (k := 2) (k0 := 0) hI hN (by omega) rfl rfl (by kernel_rfl) (by kernel_rfl) (.head _) (wkhop wkh6F2 (by kernel_rfl) (by kernel_rfl) (wkk6F hI hN)))
theorem wkmF {v : Value} (hI : WkIn n0 w0 pl len T) : WkG n0 w0 cs0 pl wkaA (.int .i64 len :: v :: T) ((wkM false wkw).am 8000) :=
  wkpart (t := (wkM false wkw)) (l := wkB1) (op := .lss) (a := .lit (.ofNat 1)) (b := wkq) (by rfl) (by rfl)
    (wkpart (t := (wkM false wkw)) (l := wkB2) (op := .lss) (a := .lit (.ofNat 2)) (b := wkq) (by rfl) (by rfl)
    (wkpart (t := (wkM false wkw)) (l := wkB3) (op := .lss) (a := .lit (.ofNat 3)) (b := wkq) (by rfl) (by rfl)
    (wkpart (t := (wkM false wkw)) (l := wkB4) (op := .lss) (a := .lit (.ofNat 4)) (b := wkq) (by rfl) (by rfl)
    (wkpart (t := (wkM false wkw)) (l := wkB5) (op := .lss) (a := .lit (.ofNat 5)) (b := wkq) (by rfl) (by rfl)
    (wkpart (t := (wkM false wkw)) (l := wkA6) (op := .lss) (a := .var 14) (b := .lit (.ofNat 1)) (by rfl) (by rfl) (wkend wke6F)
      (wkpart (t := (wkM false wkw)) (op := .lss) (a := .lit (.ofNat 6)) (b := .var 14) (by rfl) (by rfl) (wkvt wkv6Ft (by kernel_rfl) (by kernel_rfl) (fun h => wkg6F hI h)) (wkvf wkv6Ff (by kernel_rfl) (by kernel_rfl) (wkg6F hI (Nat.le_refl _)))))
    (wkpart (t := (wkM false wkw)) (l := wkA5) (op := .lss) (a := .var 14) (b := .lit (.ofNat 1)) (by rfl) (by rfl) (wkend wke5F)
      (wkpart (t := (wkM false wkw)) (op := .lss) (a := .lit (.ofNat 6)) (b := .var 14) (by rfl) (by rfl) (wkvt wkv5Ft (by kernel_rfl) (by kernel_rfl) (fun h => wkg5F hI h)) (wkvf wkv5Ff (by kernel_rfl) (by kernel_rfl) (wkg5F hI (Nat.le_refl _))))))
    (wkpart (t := (wkM false wkw)) (l := wkA4) (op := .lss) (a := .var 14) (b := .lit (.ofNat 1)) (by rfl) (by rfl) (wkend wke4F)
      (wkpart (t := (wkM false wkw)) (op := .lss) (a := .lit (.ofNat 6)) (b := .var 14) (by rfl) (by rfl) (wkvt wkv4Ft (by kernel_rfl) (by kernel_rfl) (fun h => wkg4F hI h)) (wkvf wkv4Ff (by kernel_rfl) (by kernel_rfl) (wkg4F hI (Nat.le_refl _))))))
    (wkpart (t := (wkM false wkw)) (l := wkA3) (op := .lss) (a := .var 14) (b := .lit (.ofNat 1)) (by rfl) (by rfl) (wkend wke3F)
      (wkpart (t := (wkM false wkw)) (op := .lss) (a := .lit (.ofNat 6)) (b := .var 14) (by rfl) (by rfl) (wkvt wkv3Ft (by kernel_rfl) (by kernel_rfl) (fun h => wkg3F hI h)) (wkvf wkv3Ff (by kernel_rfl) (by kernel_rfl) (wkg3F hI (Nat.le_refl _))))))
    (wkpart (t := (wkM false wkw)) (l := wkA2) (op := .lss) (a := .var 14) (b := .lit (.ofNat 1)) (by rfl) (by rfl) (wkend wke2F)
      (wkpart (t := (wkM false wkw)) (op := .lss) (a := .lit (.ofNat 6)) (b := .var 14) (by rfl) (by rfl) (wkvt wkv2Ft (by kernel_rfl) (by kernel_rfl) (fun h => wkg2F hI h)) (wkvf wkv2Ff (by kernel_rfl) (by kernel_rfl) (wkg2F hI (Nat.le_refl _))))))
    (wkpart (t := (wkM false wkw)) (l := wkA1) (op := .lss) (a := .var 14) (b := .lit (.ofNat 1)) (by rfl) (by rfl) (wkend wke1F)
      (wkpart (t := (wkM false wkw)) (op := .lss) (a := .lit (.ofNat 6)) (b := .var 14) (by rfl) (by rfl) (wkvt wkv1Ft (by kernel_rfl) (by kernel_rfl) (fun h => wkg1F hI h)) (wkvf wkv1Ff (by kernel_rfl) (by kernel_rfl) (wkg1F hI (Nat.le_refl _)))))
theorem wksF {v : Value} (hI : WkIn n0 w0 pl len T) : WkG n0 w0 cs0 pl wkaA (.int .i64 len :: v :: T) (wk00 false) := wkhop (bvs := wkaA) wkhAF (by kernel_rfl) (by kernel_rfl) (wkhop wkhBF (by kernel_rfl) (by kernel_rfl) (wkmF hI))
theorem wknF : WkG n0 w0 cs0 pl wkaA vals (wkn0 false) := wkhop (bvs := wkaA) wkhNF (by kernel_rfl) (by kernel_rfl) (wkhop (bvs := wkaA) wkhOF (by kernel_rfl) (by kernel_rfl) (wkend wkzNF))
end
inductive WkTexts (W : World) : Value → Prop
  | none : WkTexts W (.slice none 0 0)
  | some (blk off len cap n : Nat) (S : Nat → ByteArray) (hb : blk < W.heap.size) (hl : len ≤ cap) (hm : (cap : Int) ≤ 9223372036854775807) (hs : ∀ i, (S i).size ≤ 9223372036854775807) (hn : off + cap ≤ n)
      (hc : ∀ i, i < len → W.cell? ⟨blk, off + i, Option.none⟩ = Option.some (.string (S i))) (hg : 1 ≤ len → 8 ≤ blk ∧ ∃ c el fr, W.heap[blk]? = Option.some (.cells c el fr) ∧ c.size = n) : WkTexts W (.slice (Option.some ⟨blk, off, Option.none⟩) len cap)
theorem wk_texts {S : Nat → ByteArray} (hs : ∀ i, (S i).size ≤ 9223372036854775807) {l v1 : Value} (hl : (Sp.int .i64 0 wkM63).has l) (h1 : spI.has v1) :
    Sp.hasL wkS [l, v1, .string (S 0), .string (S 1), .string (S 2), .string (S 3), .string (S 4), .string (S 5)] := by
  simp only [wkS, Sp.hasL]
  exact ⟨_, _, rfl, hl, _, _, rfl, h1, _, _, rfl, ⟨_, rfl, hs 0⟩, _, _, rfl, ⟨_, rfl, hs 1⟩, _, _, rfl, ⟨_, rfl, hs 2⟩, _, _, rfl, ⟨_, rfl, hs 3⟩, _, _, rfl, ⟨_, rfl, hs 4⟩, _, _, rfl, ⟨_, rfl, hs 5⟩, rfl⟩
theorem wk_any {W : World} {A : Nat → Addr} {N0 : Nat → Nat} {v0 v1 : Value} (β : Bool) (hl : Laid errs A N0 W) (h0 : WkTexts W v0) (h1 : spI.has v1) :
    Calls Tryz.prog 4 #[v0, v1, .bool β] W (fun e w' => ∃ u, e = .returned u ∧ (Sp.lit true).has u ∧ Below W.heap.size W w') := by
  have h00 : 0 < W.heap.size := Nat.lt_of_lt_of_le errs_pos hl.sz
  cases h0 with
  | none =>
    refine told_of_simV (G := GF) tab_right errs_ng errs_pos (wkn0_ok β) hl (wk_texts (S := fun _ => ByteArray.empty) (fun _ => Nat.zero_le _) (l := .int .i64 0) (by simp [Sp.has]) h1) (pl := ⟨0, 0, 0⟩) h00 ?_ ?_ ?_
    · intro l args o hq hlive
      unfold wkmn at hq
      split at hq
      · cases hq; cases hlive
      · cases hq
    · intro Y l args o hr hmu hq
      unfold wkmn at hq
      split at hq
      · cases hq
        simp only [rels_cons_cons] at hr ⊢
        obtain ⟨r0, r1, -⟩ := hr
        exact ⟨⟨by simp only [AV.rel], r1, by simp only [AV.rel], rfl⟩, trivial⟩
      · cases hq
    · intro cs0 X m hX h
      rw [wk_at, wk_instn] at hX
      cases β
      · exact wknF X m hX h
      · exact wknT X m hX h
  | some blk off len cap n S hb hle hm hs hn hc hg =>
    refine told_of_simV (G := GF) tab_right errs_ng errs_pos (wk00_ok β) hl (wk_texts hs (l := .int .i64 len) (by simp only [Sp.has]; exact ⟨len, rfl, by omega, by show (len : Int) ≤ 9223372036854775807; omega⟩) h1) (pl := ⟨blk, off, n⟩) hb ?_ ?_ ?_
    · intro l args o hq hlive
      unfold wkmk at hq
      split at hq
      · cases hq; cases hlive
      · cases hq
    · intro Y l args o hr hmu hq
      unfold wkmk at hq
      split at hq
      · cases hq
        simp only [rels_cons_cons] at hr ⊢
        obtain ⟨r0, r1, -⟩ := hr
        simp only [AV.rel] at r0
        obtain ⟨k1, k2⟩ := r0
        simp only [E.den, Value.int.injEq, true_and] at k2
        refine ⟨⟨?_, r1, by simp only [AV.rel], rfl⟩, trivial⟩
        simp only [AV.rel]
        exact ⟨_, len, cap, hmu, rfl, by omega, hle, by simp only; omega, k1, k2.symm⟩
      · cases hq
    · intro cs0 X m hX h
      rw [wk_at, wk_inst] at hX
      have hI : WkIn W.heap.size W ⟨blk, off, n⟩ len [.string (S 0), .string (S 1), .string (S 2), .string (S 3), .string (S 4), .string (S 5)] := by
        refine ⟨hb, hg, fun i v hv hi => ?_, by simp only; omega⟩
        have := hc i hi
        match i, hv with
        | 0, hv | 1, hv | 2, hv | 3, hv | 4, hv | 5, hv => cases hv; exact this
        | i + 6, hv => simp at hv
      cases β
      · exact wksF hI X m hX h
      · exact wksT hI X m hX h
end Go.Proofs.YtfomgahphoobdaaGreatDoor
