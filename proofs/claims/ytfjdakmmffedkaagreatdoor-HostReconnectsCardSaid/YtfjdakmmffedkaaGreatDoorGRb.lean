/-
 Successive connections: the law holds over a memory in which the packages' errors are laid. Conditions: none.
-/
import Derived.Test.YtfjdakmmffedkaaGreatDoorGR0
import Derived.Test.YtfjdakmmffedkaaGreatDoorGR1
import Derived.Test.YtfjdakmmffedkaaGreatDoorGR2
import Derived.Test.YtfjdakmmffedkaaGreatDoorGR3
import Derived.Test.YtfjdakmmffedkaaGreatDoorGR4
import Derived.Test.YtfjdakmmffedkaaGreatDoorGR5
import Derived.Test.YtfjdakmmffedkaaGreatDoorGR6
import Derived.Test.YtfjdakmmffedkaaGreatDoorGR7
import Derived.Test.YtfjdakmmffedkaaGreatDoorGR8
import Derived.Test.YtfjdakmmffedkaaGreatDoorGR9
import Derived.Test.YtfjdakmmffedkaaGreatDoorGR10
import Derived.Test.YtfjdakmmffedkaaGreatDoorGR11
namespace Go.Proofs.YtfjdakmmffedkaaGreatDoor
open Go Go.Ax Go.RowKit Go.Proofs
abbrev rcA : List AV := [.int .i64 (.var 14), .int .i64 (.var 15), .int .i64 (.var 16), .int .i64 (.var 17), .int .i64 (.var 18)]
theorem Z58 : errs.ng + errs.m = 13 := by kernel_rfl
theorem Qyb : (instX rcS Z57 13).1.v = rcA := by kernel_rfl
theorem Qvb : (instX rcS Z56 13).1.v = rcA := by kernel_rfl
structure Qrp (n0 : Nat) (w0 : World) (pl : Ax.Place) (len : Nat) (T : List Value) : Prop where
 lt : pl.blk < n0
 big : 1 <= len -> ∃ c el fr, w0.heap[pl.blk]? = some (.cells c el fr) /\ c.size = pl.n
 cell : ∀ i v, T[i]? = some v -> i < len -> w0.cell? ⟨pl.blk, pl.base + i, none⟩ = some v
 fit : pl.base + len <= pl.n
section
variable {n0 : Nat} {w0 : World} {cs0 : List Frame} {pl : Ax.Place} {len : Nat} {T vals : List Value} {v : Value}
def RcG (n0 : Nat) (w0 : World) (cs0 : List Frame) (pl : Ax.Place) (vals : List Value) (s : AM) : Prop :=
 ∀ X m, Kept 13 pl rcA vals X -> Sim Tryz.prog GF n0 w0 cs0 X s m -> ZF Tryz.prog n0 w0 cs0 4 m
theorem Qm7 {L : Nat} {s : AM} {j : List Nat} {t : StC} (hh : Hc L s j t) (he : RcG n0 w0 cs0 pl vals (t.am 8000)) (hk : Z5 GF.T.ng (rckp t) 13 = true := by kernel_rfl) (hc : zL [] t.vs (Z5 GF.T.ng (rckp t)) rcA rcA = true := by kernel_rfl) : RcG n0 w0 cs0 pl vals s :=
 λ _ _ hX h => Qju.endsV Qmm Qn7 Ql8 Q3q hk hc hh he hX h
theorem Qnk {s : AM} {j : List Nat} {U : Sb} {keep : List Nat} {π : List (Nat × Nat)} {t : StC} (hh : HopR 0 Q4x GF 200 17 s j U keep π t) (hk : Z5 GF.T.ng keep 13 = true) (hπ : Q8z π 13 = 13) (ht : t.cs = []) (hc : rkL U t.vs (Z5 GF.T.ng keep) (Q8z π) rcA rcA = true)
 (he : RcG n0 w0 cs0 pl vals (t.am 8000)) : RcG n0 w0 cs0 pl vals s :=
 λ _ _ hX h => HopR.endsV Qmm Qn7 Ql8 Q3q hk hπ ht hc hh he hX h
theorem Qsz {s : AM} {d : Nat} (hz : Yl Q4x GF 200 4 (λ c v => (Sp.lit true).chk c v) 17 d [] s = true) : RcG n0 w0 cs0 pl vals s :=
 λ _ _ _ h => ZF.Qjm Qmm Qn7 Ql8 Q31 hz h
theorem Qmq {t : StC} {l : List Fact} {op : BinOp} {a b : E} (ha : a.okB t.vs = true) (hb : b.okB t.vs = true) (h1 : RcG n0 w0 cs0 pl vals (wf t (⟨op, a, b, true⟩ :: l))) (h2 : RcG n0 w0 cs0 pl vals (wf t (⟨op, a, b, false⟩ :: l))) :
 RcG n0 w0 cs0 pl vals (wf t l) :=
 λ X m hX h => (Sim.partC (t := { t with fs := l }) h op a b ha hb).elim (h1 X m hX) (h2 X m hX)
theorem Qy9 {k k0 : Nat} {t : StC} {l : List Fact} (hI : Qrp n0 w0 pl len T) (h1 : 1 <= k) (hcur : Q01 t.fr.cur = true) (hcs : t.cs = []) (hro : roB 13 t.l = true) (hd : (t.am 8000).fr.tm.get 1 = some (.wslice 13 0 k0 1 14))
 (hf : (⟨.lss, .var 14, .lit (.ofNat k), false⟩ : Fact) ∈ l) (he : RcG n0 w0 cs0 pl (.int .i64 len :: v :: T) (wr t k l)) : RcG n0 w0 cs0 pl (.int .i64 len :: v :: T) (wf t l) := λ X m hX h => by
 have hr := hX.r
 simp only [rcA] at hr
 rw [rels_cons_cons, rels_cons_cons] at hr
 obtain ⟨e2, -, hts⟩ := hr
 simp only [AV.rel, E.den, Value.int.injEq, true_and] at e2
 have hv := (h.ctx.2 _ hf).1
 have hk : k <= len := by
  simp only [Fact.ok, Yc, E.den, <- e2.2, decide_eq_false_iff_not] at hv
  have : ((Int.ofNat k : Int)) = (k : Int) := rfl
  omega
 have hblk := hI.big (by omega)
 exact he X m hX (Sim.revealW (t := { t with fs := l }) h hcur hcs hro hX.V hI.lt hblk (ts := rcts) hts hI.cell hk hI.fit hd e2.2.symm)
theorem rcE2 (_ : Qrp n0 w0 pl len T) : RcG n0 w0 cs0 pl (.int .i64 len :: v :: T) (sE2.am 8000) := Qsz z3
theorem rcM2 (hI : Qrp n0 w0 pl len T) : RcG n0 w0 cs0 pl (.int .i64 len :: v :: T) (sM2.am 8000) := Qm7 hT20 <| Qm7 hT21 <| Qm7 hT22 <| Qm7 hT23 <| Qm7 hT24 <| Qm7 hT25 <| Qm7 hT26 <| Qm7 hE2 <| rcE2 hI
theorem rcB2 (hI : Qrp n0 w0 pl len T) : RcG n0 w0 cs0 pl (.int .i64 len :: v :: T) (sB2.am 8000) :=
 show RcG n0 w0 cs0 pl (.int .i64 len :: v :: T) (wf sB2 sB2.fs) from
 Qmq (t := sB2) (op := .lss) (a := .len 27487) (b := .lit (.ofNat 1)) (by rfl) (by rfl)
  (Qm7 hC200 <| Qm7 hC201 <| Qm7 hC202 <| Qm7 hC203 <| Qnk hM2_0 (by kernel_rfl) (by kernel_rfl) rfl (by kernel_rfl) (rcM2 hI))
  (Qmq (t := sB2) (op := .lss) (a := .len 27487) (b := .lit (.ofNat 460)) (by rfl) (by rfl)
  (Qm7 hC210 <| Qm7 hC211 <| Qm7 hC212 <| Qm7 hC213 <| Qm7 hC214 <| Qnk hM2_1 (by kernel_rfl) (by kernel_rfl) rfl (by kernel_rfl) (rcM2 hI))
  (Qmq (t := sB2) (op := .lss) (a := .len 27487) (b := .lit (.ofNat 461)) (by rfl) (by rfl)
  (Qm7 hC220 <| Qm7 hC221 <| Qm7 hC222 <| Qm7 hC223 <| Qm7 hC224 <| Qm7 hC225 <| Qnk hM2_2 (by kernel_rfl) (by kernel_rfl) rfl (by kernel_rfl) (rcM2 hI))
  (Qm7 hC230 <| Qm7 hC231 <| Qm7 hC232 <| Qm7 hC233 <| Qm7 hC234 <| Qm7 hC235 <| Qnk hM2_3 (by kernel_rfl) (by kernel_rfl) rfl (by kernel_rfl) (rcM2 hI))))
theorem rcE1 (hI : Qrp n0 w0 pl len T) : RcG n0 w0 cs0 pl (.int .i64 len :: v :: T) (sE1.am 8000) :=
 Qmq (t := sE1) (l := Qrq.fs) (op := .lss) (a := .var 14) (b := .lit (.ofNat 3)) (by rfl) (by rfl) (Qsz z2)
  (Qy9 (k := 3) (k0 := 2) hI (by omega) rfl rfl (by kernel_rfl) (by kernel_rfl) (.head _) (Qm7 hH20 <| Qm7 hH21 <| Qm7 hH22 <| Qm7 hH23 <| Qm7 hH24 <| Qm7 hB2 <| rcB2 hI))
theorem rcM1 (hI : Qrp n0 w0 pl len T) : RcG n0 w0 cs0 pl (.int .i64 len :: v :: T) (sM1.am 8000) := Qm7 hT10 <| Qm7 hT11 <| Qm7 hT12 <| Qm7 hT13 <| Qm7 hT14 <| Qm7 hT15 <| Qm7 hT16 <| Qm7 hE1 <| rcE1 hI
theorem rcB1 (hI : Qrp n0 w0 pl len T) : RcG n0 w0 cs0 pl (.int .i64 len :: v :: T) (sB1.am 8000) :=
 show RcG n0 w0 cs0 pl (.int .i64 len :: v :: T) (wf sB1 Qn6.fs) from
 Qmq (t := sB1) (op := .lss) (a := .len 13755) (b := .lit (.ofNat 1)) (by rfl) (by rfl)
  (Qm7 hC100 <| Qm7 hC101 <| Qm7 hC102 <| Qm7 hC103 <| Qnk hM1_0 (by kernel_rfl) (by kernel_rfl) rfl (by kernel_rfl) (rcM1 hI))
  (Qmq (t := sB1) (op := .lss) (a := .len 13755) (b := .lit (.ofNat 460)) (by rfl) (by rfl)
  (Qm7 hC110 <| Qm7 hC111 <| Qm7 hC112 <| Qm7 hC113 <| Qm7 hC114 <| Qnk hM1_1 (by kernel_rfl) (by kernel_rfl) rfl (by kernel_rfl) (rcM1 hI))
  (Qmq (t := sB1) (op := .lss) (a := .len 13755) (b := .lit (.ofNat 461)) (by rfl) (by rfl)
  (Qm7 hC120 <| Qm7 hC121 <| Qm7 hC122 <| Qm7 hC123 <| Qm7 hC124 <| Qm7 hC125 <| Qnk hM1_2 (by kernel_rfl) (by kernel_rfl) rfl (by kernel_rfl) (rcM1 hI))
  (Qm7 hC130 <| Qm7 hC131 <| Qm7 hC132 <| Qm7 hC133 <| Qm7 hC134 <| Qm7 hC135 <| Qnk hM1_3 (by kernel_rfl) (by kernel_rfl) rfl (by kernel_rfl) (rcM1 hI))))
theorem rcE0 (hI : Qrp n0 w0 pl len T) : RcG n0 w0 cs0 pl (.int .i64 len :: v :: T) (sE0.am 8000) :=
 Qmq (t := sE0) (l := Qvn.fs) (op := .lss) (a := .var 14) (b := .lit (.ofNat 2)) (by rfl) (by rfl) (Qsz z1)
  (Qy9 (k := 2) (k0 := 1) hI (by omega) rfl rfl (by kernel_rfl) (by kernel_rfl) (.head _) (Qm7 hH10 <| Qm7 hH11 <| Qm7 hH12 <| Qm7 hH13 <| Qm7 hH14 <| Qm7 hB1 <| rcB1 hI))
theorem rcM0 (hI : Qrp n0 w0 pl len T) : RcG n0 w0 cs0 pl (.int .i64 len :: v :: T) (sM0.am 8000) := Qm7 hT00 <| Qm7 hT01 <| Qm7 hT02 <| Qm7 hT03 <| Qm7 hT04 <| Qm7 hT05 <| Qm7 hT06 <| Qm7 hE0 <| rcE0 hI
theorem rcB0 (hI : Qrp n0 w0 pl len T) : RcG n0 w0 cs0 pl (.int .i64 len :: v :: T) (sB0.am 8000) :=
 show RcG n0 w0 cs0 pl (.int .i64 len :: v :: T) (wf sB0 Qmj.fs) from
 Qmq (t := sB0) (op := .lss) (a := .len 244) (b := .lit (.ofNat 1)) (by rfl) (by rfl)
  (Qm7 hC000 <| Qm7 hC001 <| Qm7 hC002 <| Qm7 hC003 <| Qnk hM0_0 (by kernel_rfl) (by kernel_rfl) rfl (by kernel_rfl) (rcM0 hI))
  (Qmq (t := sB0) (op := .lss) (a := .len 244) (b := .lit (.ofNat 460)) (by rfl) (by rfl)
  (Qm7 hC010 <| Qm7 hC011 <| Qm7 hC012 <| Qm7 hC013 <| Qm7 hC014 <| Qnk hM0_1 (by kernel_rfl) (by kernel_rfl) rfl (by kernel_rfl) (rcM0 hI))
  (Qmq (t := sB0) (op := .lss) (a := .len 244) (b := .lit (.ofNat 461)) (by rfl) (by rfl)
  (Qm7 hC020 <| Qm7 hC021 <| Qm7 hC022 <| Qm7 hC023 <| Qm7 hC024 <| Qm7 hC025 <| Qnk hM0_2 (by kernel_rfl) (by kernel_rfl) rfl (by kernel_rfl) (rcM0 hI))
  (Qm7 hC030 <| Qm7 hC031 <| Qm7 hC032 <| Qm7 hC033 <| Qm7 hC034 <| Qm7 hC035 <| Qnk hM0_3 (by kernel_rfl) (by kernel_rfl) rfl (by kernel_rfl) (rcM0 hI))))
theorem rcQ (hI : Qrp n0 w0 pl len T) : RcG n0 w0 cs0 pl (.int .i64 len :: v :: T) rc00 :=
 Qm7 hQ <|
 show RcG n0 w0 cs0 pl (.int .i64 len :: v :: T) (wf sQ sQ.fs) from
 Qmq (t := sQ) (l := sQ.fs) (op := .lss) (a := .var 14) (b := .lit (.ofNat 1)) (by rfl) (by rfl) (Qsz z0)
  (Qy9 (k := 1) (k0 := 0) hI (by omega) rfl rfl (by kernel_rfl) (by kernel_rfl) (.head _) (Qm7 hH00 <| Qm7 hH01 <| Qm7 hH02 <| Qm7 hH03 <| Qm7 hH04 <| Qm7 hB0 <| rcB0 hI))
end
inductive Qqg (W : World) : Value -> Prop
 | none : Qqg W (.slice none 0 0)
 | some (blk off len cap n : Nat) (S : Nat -> Int) (hb : blk < W.heap.size) (hl : len <= cap) (hm : (cap : Int) <= 9223372036854775807) (hs : ∀ i, -9223372036854775808 <= S i /\ S i <= 9223372036854775807) (hn : off + cap <= n)
  (hc : ∀ i, i < len -> W.cell? ⟨blk, off + i, Option.none⟩ = Option.some (.int .i64 (S i))) (hg : 1 <= len -> ∃ c el fr, W.heap[blk]? = Option.some (.cells c el fr) /\ c.size = n) : Qqg W (.slice (Option.some ⟨blk, off, Option.none⟩) len cap)
theorem Qt2 {z : Int} (h : -9223372036854775808 <= z /\ z <= 9223372036854775807) : spI.has (.int .i64 z) := ⟨z, rfl, h.1, h.2⟩
theorem Qt1 {S : Nat -> Int} (hs : ∀ i, -9223372036854775808 <= S i /\ S i <= 9223372036854775807) {l v0 : Value} (hl : (Sp.int .i64 0 Z5a).has l) (h0 : spI.has v0) : Sp.Qbl rcS [l, v0, .int .i64 (S 0), .int .i64 (S 1), .int .i64 (S 2)] := by
 simp only [rcS, Sp.Qbl]
 exact ⟨_, _, rfl, hl, _, _, rfl, h0, _, _, rfl, Qt2 (hs 0), _, _, rfl, Qt2 (hs 1), _, _, rfl, Qt2 (hs 2), rfl⟩
theorem Z59 {W : World} {A : Nat -> Addr} {N0 : Nat -> Nat} {v0 v1 : Value} (hl : Laid errs A N0 W) (h0 : spI.has v0) (h1 : Qqg W v1) :
 Calls Tryz.prog 4 #[v0, v1] W (λ e w' => ∃ u, e = .returned u /\ (Sp.lit true).has u /\ Below W.heap.size W w') := by
 have h00 : 0 < W.heap.size := Nat.lt_of_lt_of_le Q3q hl.sz
 cases h1 with
 | none =>
  refine Qgw (G := GF) Qmm Q80 Q3q Qya hl (Qt1 (S := λ _ => 0) (λ _ => by decide) (l := .int .i64 0) (by simp [Sp.has]) h0) (pl := ⟨0, 0, 0⟩) h00 ?_ ?_ ?_
  . intro l args o hq hlive
    unfold Z56 at hq
    split at hq
    . cases hq; cases hlive
    . cases hq
  . intro Y l args o hr hmu hq
    unfold Z56 at hq
    split at hq
    . cases hq
      simp only [rels_cons_cons] at hr ⊢
      obtain ⟨r0, r1, -⟩ := hr
      exact ⟨⟨r1, by simp only [AV.rel], rfl⟩, trivial⟩
    . cases hq
  . intro cs0 X m hX h
    rw [Z58, Qvb] at hX
    exact Qsz zn X m hX h
 | some blk off len cap n S hb hle hm hs hn hc hg =>
  refine Qgw (G := GF) Qmm Q80 Q3q Qyc hl (Qt1 hs (l := .int .i64 len) (by simp only [Sp.has]; exact ⟨len, rfl, by omega, by show (len : Int) <= 9223372036854775807; omega⟩) h0) (pl := ⟨blk, off, n⟩) hb ?_ ?_ ?_
  . intro l args o hq hlive
    unfold Z57 at hq
    split at hq
    . cases hq; cases hlive
    . cases hq
  . intro Y l args o hr hmu hq
    unfold Z57 at hq
    split at hq
    . cases hq
      simp only [rels_cons_cons] at hr ⊢
      obtain ⟨r0, r1, -⟩ := hr
      simp only [AV.rel] at r0
      obtain ⟨k1, k2⟩ := r0
      simp only [E.den, Value.int.injEq, true_and] at k2
      refine ⟨⟨r1, ?_, rfl⟩, trivial⟩
      simp only [AV.rel]
      exact ⟨_, len, cap, hmu, rfl, by omega, hle, by simp only; omega, k1, k2.symm⟩
    . cases hq
  . intro cs0 X m hX h
    rw [Z58, Qyb] at hX
    have hI : Qrp W.heap.size W ⟨blk, off, n⟩ len [.int .i64 (S 0), .int .i64 (S 1), .int .i64 (S 2)] := by
     refine ⟨hb, hg, λ i v hv hi => ?_, by simp only; omega⟩
     have := hc i hi
     match i, hv with
     | 0, hv | 1, hv | 2, hv => cases hv; exact this
     | i + 3, hv => simp at hv
    exact rcQ hI X m hX h
end Go.Proofs.YtfjdakmmffedkaaGreatDoor
