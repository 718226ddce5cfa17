/-
 One direction closed: the law holds over a memory in which the packages' errors are laid. Conditions: none.
-/
import Derived.Test.YtmjjaldodkokbaaGreatDoorHU0
import Derived.Test.YtmjjaldodkokbaaGreatDoorHU1
import Derived.Test.YtmjjaldodkokbaaGreatDoorHU2
import Derived.Test.YtmjjaldodkokbaaGreatDoorHU3
import Derived.Test.YtmjjaldodkokbaaGreatDoorHU4
import Derived.Test.YtmjjaldodkokbaaGreatDoorHU5
import Derived.Test.YtmjjaldodkokbaaGreatDoorHU6
import Derived.Test.YtmjjaldodkokbaaGreatDoorHU7
import Derived.Test.YtmjjaldodkokbaaGreatDoorHU8
import Derived.Test.YtmjjaldodkokbaaGreatDoorHU9
import Derived.Test.YtmjjaldodkokbaaGreatDoorHU10
import Derived.Test.YtmjjaldodkokbaaGreatDoorHU11
namespace Go.Proofs.YtmjjaldodkokbaaGreatDoor
open Go Go.Ax Go.RowKit Go.Proofs
section
variable {n0 : Nat} {w0 : World} {cs0 : List Frame}
def QG (n0 : Nat) (w0 : World) (cs0 : List Frame) (s : AM) : Prop := ∀ X m, Sim Tryz.prog GF n0 w0 cs0 X s m -> Z5 Tryz.prog n0 w0 cs0 4 m
theorem Z2s {L : Nat} {s : AM} {j : List Nat} {U : Sb} {keep : List Nat} {t : StC} (hh : Qc8 L jX GF 200 17 s j U keep t) (he : QG n0 w0 cs0 (t.am 8000)) : QG n0 w0 cs0 s :=
 λ _ _ h => Qc8.ends Qok Qp1 Qm3 Q47 hh he h
theorem Qnd {L : Nat} {s : AM} {j : List Nat} {t : StC} (hh : Hq L s j t) (he : QG n0 w0 cs0 (t.am 8000)) : QG n0 w0 cs0 s := Z2s hh he
theorem qren {s : AM} {j : List Nat} {U : Sb} {keep : List Nat} {π : List (Nat × Nat)} {t : StC} (hh : HopR 0 jX GF 200 17 s j U keep π t) (hk : Qy GF.T.ng keep 0 = true) (hπ : Q9i π 0 = 0) (ht : t.cs = [])
 (he : QG n0 w0 cs0 (t.am 8000)) : QG n0 w0 cs0 s := λ X m h => by
 obtain ⟨n, hn⟩ := h.Ql 0 Q47
 exact HopR.endsV (b := 0) (pl := ⟨0, 0, n⟩) (avs := []) (avs' := []) (vals := []) Qok Qp1 Qm3 Q47 hk hπ ht (by simp only [rkL]) hh (λ X m _ h => he X m h) ⟨hn, by rw [rels_nil]⟩ h
theorem Qps {s : AM} {d : Nat} (hz : Eq_ d s) : QG n0 w0 cs0 s :=
 λ _ _ h => Z5.Qkf Qok Qp1 Qm3 zf hz h
theorem Qo4 {t : StC} {l : List Fact} {op : BinOp} {a b : E} (ha : a.okB t.vs = true) (hb : b.okB t.vs = true) (h1 : QG n0 w0 cs0 (wf t (⟨op, a, b, true⟩ :: l))) (h2 : QG n0 w0 cs0 (wf t (⟨op, a, b, false⟩ :: l))) :
 QG n0 w0 cs0 (wf t l) :=
 λ X m h => (Sim.partC (t := { t with fs := l }) h op a b ha hb).elim (h1 X m) (h2 X m)
theorem Qqc {t : StC} {l : List Fact} {op : BinOp} {a b : E} (v : Bool) (hc : E.cmp ⟨l, t.vs⟩ op a b = some v) (hop : Q3y op = true) (ha : a.okB t.vs = true) (hb : b.okB t.vs = true) (he : QG n0 w0 cs0 (wf t (⟨op, a, b, v⟩ :: l))) : QG n0 w0 cs0 (wf t l) :=
 λ X m h => he X m (Sim.derC hop hc ha hb h)
theorem Qo3 {t : StC} {l l' : List Fact} (ps : List Nat) (hp : ps.map (λ i => l[i]?) = l'.map some) (he : QG n0 w0 cs0 (wf t l')) : QG n0 w0 cs0 (wf t l) :=
 λ X m h => he X m (Sim.pickC ps hp h)
theorem Qo8 {t : StC} {l : List Fact} (u v : Nat) (hv : t.vs.any (Nat.beq v) = true) (hq : (⟨.eql, .var v, .var u, true⟩ : Fact) ∈ l) (he : QG n0 w0 cs0 (wf t (l.map (Fact.rn u v) ++ l))) : QG n0 w0 cs0 (wf t l) :=
 λ X m h => he X m (Sim.twinC hv hq h)
theorem q01p : QG n0 w0 cs0 (wf sB (Z3e ++ sB.fs)) := Qnd Z5p <| Qnd hZ01p <| (Qps z01p)
theorem q01w : QG n0 w0 cs0 (wf sB (Z3d ++ sB.fs)) := Qnd Z5o <| Qnd hZ01w <| (Qps z01w)
theorem q02p : QG n0 w0 cs0 (wf sB (Z3c ++ sB.fs)) := Qnd Z5n <| Qnd Z5m <| Qnd hZ02p <| (Qps z02p)
theorem q02w : QG n0 w0 cs0 (wf sB (Z3b ++ sB.fs)) := Qnd Z5l <| Qnd Z5k <| Qnd Z5j <| Qnd hZ02w <| (Qps z02w)
theorem q03p : QG n0 w0 cs0 (wf sB (Z3a ++ sB.fs)) := Qnd Z5i <| Qnd Z5h <| Qnd Z5g <| Qnd Z5f <| Qnd hZ03p <| (Qps z03p)
theorem q03w : QG n0 w0 cs0 (wf sB (Z39 ++ sB.fs)) := Qnd Z5e <| Qnd Z5d <| Qnd Z5c <| Qnd Z5b <| Qnd hZ03w <| (Qps z03w)
theorem q04p : QG n0 w0 cs0 (wf sB (Z38 ++ sB.fs)) := Qnd Z5a <| Qnd Z59 <| Qnd Z58 <| Qnd Z57 <| Qnd Z56 <| Qnd Z55 <| Qnd hZ04p <| (Qps z04p)
theorem q04w : QG n0 w0 cs0 (wf sB (Z37 ++ sB.fs)) := Qnd Z54 <| Qnd Z53 <| Qnd Z52 <| Qnd Z51 <| Qnd Z50 <| Qnd Z4z <| Qnd hZ04w <| (Qps z04w)
theorem q05p : QG n0 w0 cs0 (wf sB (Z36 ++ sB.fs)) := Qnd Z4y <| Qnd Z4x <| Qnd Z4w <| Qnd Z4v <| Qnd Z4u <| Qnd Z4t <| Qnd Z4s <| Qnd hZ05p <| (Qps z05p)
theorem q05w : QG n0 w0 cs0 (wf sB (Z35 ++ sB.fs)) := Qnd Z4r <| Qnd Z4q <| Qnd Z4p <| Qnd Z4o <| Qnd Z4n <| Qnd Z4m <| Qnd Z4l <| Qnd hZ05w <| (Qps z05w)
theorem q06p : QG n0 w0 cs0 (wf sB (Z34 ++ sB.fs)) := Qnd Z4k <| Qnd Z4j <| Qnd Z4i <| Qnd Z4h <| Qnd Z4g <| Qnd Z4f <| Qnd Z4e <| Qnd hZ06p <| (Qps z06p)
theorem q11p : QG n0 w0 cs0 (wf sB (Z33 ++ sB.fs)) := Qnd Z4d <| Qnd hZ11p <| (Qps z11p)
theorem q11w : QG n0 w0 cs0 (wf sB (Z32 ++ sB.fs)) := Qnd Z4c <| Qnd hZ11w <| (Qps z11w)
theorem q12p : QG n0 w0 cs0 (wf sB (Z31 ++ sB.fs)) := Qnd Z4b <| Qnd Z4a <| Qnd hZ12p <| (Qps z12p)
theorem q12w : QG n0 w0 cs0 (wf sB (Z30 ++ sB.fs)) := Qnd Z49 <| Qnd Z48 <| Qnd Z47 <| Qnd hZ12w <| (Qps z12w)
theorem q13p : QG n0 w0 cs0 (wf sB (Z2z ++ sB.fs)) := Qnd Z46 <| Qnd Z45 <| Qnd Z44 <| Qnd Z43 <| Qnd hZ13p <| (Qps z13p)
theorem q13w : QG n0 w0 cs0 (wf sB (Z2y ++ sB.fs)) := Qnd Z42 <| Qnd Z41 <| Qnd Z40 <| Qnd Z3z <| Qnd hZ13w <| (Qps z13w)
theorem q21pa : QG n0 w0 cs0 (wf sB (Qww ++ sB.fs)) := Qnd Qyy <| Qnd Z3n <| (Qps z21pa)
theorem q21pb : QG n0 w0 cs0 (wf sB (Qwv ++ sB.fs)) := Qnd Qyx <| Qnd Qyw <| Qnd Z3m <| (Qps z21pb)
theorem q21w : QG n0 w0 cs0 (wf sB (Z2x ++ sB.fs)) := Qnd Z3y <| Qnd hZ21w <| (Qps z21w)
theorem q22p : QG n0 w0 cs0 (wf sB (Z2w ++ sB.fs)) := Qnd Z3x <| Qnd Z3w <| Qnd hZ22p <| (Qps z22p)
theorem q22w : QG n0 w0 cs0 (wf sB (Z2v ++ sB.fs)) := Qnd Z3v <| Qnd Z3u <| Qnd Z3t <| Qnd hZ22w <| (Qps z22w)
theorem q23p : QG n0 w0 cs0 (wf sB (Z2u ++ sB.fs)) := Qnd Z3s <| Qnd Z3r <| Qnd Z3q <| Qnd Z3p <| Qnd Z3o <| Qnd hZ23p <| (Qps z23p)
theorem q0k6 : QG n0 w0 cs0 (wf sB ([⟨.lss, (.bin .sub .i64 (.bin .add .i64 (eL 0) (.bin .mul .i64 (.var 4473) (eL 5))) (.len 6814)), (eL 0), true⟩,⟨.gtr, (.bin .sub .i64 (.bin .add .i64 (eL 0) (.bin .mul .i64 (.var 4473) (eL 5))) (.len 6814)), (eL 0), false⟩,⟨.lss, (.bin .sub .i64 (.bin .add .i64 (eL 0) (.bin .mul .i64 (.var 4473) (eL 4))) (.len 6814)), (eL 0), true⟩,⟨.gtr, (.bin .sub .i64 (.bin .add .i64 (eL 0) (.bin .mul .i64 (.var 4473) (eL 4))) (.len 6814)), (eL 0), false⟩,⟨.lss, (.bin .sub .i64 (.bin .add .i64 (eL 0) (.bin .mul .i64 (.var 4473) (eL 3))) (.len 6814)), (eL 0), true⟩,⟨.gtr, (.bin .sub .i64 (.bin .add .i64 (eL 0) (.bin .mul .i64 (.var 4473) (eL 3))) (.len 6814)), (eL 0), false⟩,⟨.lss, (.bin .sub .i64 (.bin .add .i64 (eL 0) (.bin .mul .i64 (.var 4473) (eL 2))) (.len 6814)), (eL 0), true⟩,⟨.gtr, (.bin .sub .i64 (.bin .add .i64 (eL 0) (.bin .mul .i64 (.var 4473) (eL 2))) (.len 6814)), (eL 0), false⟩,⟨.lss, (.bin .sub .i64 (.var 4473) (.len 6814)), (eL 0), true⟩,⟨.gtr, (.bin .sub .i64 (.var 4473) (.len 6814)), (eL 0), false⟩,⟨.lss, (.var 4473), (eL 500), true⟩] ++ sB.fs)) :=
 Qqc (op := .gtr) (a := (.bin .sub .i64 (.bin .add .i64 (eL 0) (.bin .mul .i64 (.var 4473) (eL 6))) (.len 6814))) (b := (eL 0)) true (by kernel_rfl) rfl (by rfl) (by rfl) <| Qo8 4473 4475 (by kernel_rfl) (.tail _ (.tail _ (.tail _ (.tail _ (.tail _ (.tail _ (.tail _ (.tail _ (.tail _ (.tail _ (.tail _ (.tail _ (.tail _ (.tail _ (.tail _ (.tail _ (.tail _ (.tail _ (.head _))))))))))))))))))) <| Qo3 [0, 33, 1, 34, 3, 36, 5, 38, 7, 40, 9, 42, 44, 11, 45, 46, 47, 48, 49, 50, 51, 52, 53, 54, 55, 56, 57, 58, 59, 60, 61, 62, 63, 64, 65] (by kernel_rfl) q06p
theorem q0k5 : QG n0 w0 cs0 (wf sB ([⟨.lss, (.bin .sub .i64 (.bin .add .i64 (eL 0) (.bin .mul .i64 (.var 4473) (eL 4))) (.len 6814)), (eL 0), true⟩,⟨.gtr, (.bin .sub .i64 (.bin .add .i64 (eL 0) (.bin .mul .i64 (.var 4473) (eL 4))) (.len 6814)), (eL 0), false⟩,⟨.lss, (.bin .sub .i64 (.bin .add .i64 (eL 0) (.bin .mul .i64 (.var 4473) (eL 3))) (.len 6814)), (eL 0), true⟩,⟨.gtr, (.bin .sub .i64 (.bin .add .i64 (eL 0) (.bin .mul .i64 (.var 4473) (eL 3))) (.len 6814)), (eL 0), false⟩,⟨.lss, (.bin .sub .i64 (.bin .add .i64 (eL 0) (.bin .mul .i64 (.var 4473) (eL 2))) (.len 6814)), (eL 0), true⟩,⟨.gtr, (.bin .sub .i64 (.bin .add .i64 (eL 0) (.bin .mul .i64 (.var 4473) (eL 2))) (.len 6814)), (eL 0), false⟩,⟨.lss, (.bin .sub .i64 (.var 4473) (.len 6814)), (eL 0), true⟩,⟨.gtr, (.bin .sub .i64 (.var 4473) (.len 6814)), (eL 0), false⟩,⟨.lss, (.var 4473), (eL 500), true⟩] ++ sB.fs)) :=
 Qo4 (op := .gtr) (a := (.bin .sub .i64 (.bin .add .i64 (eL 0) (.bin .mul .i64 (.var 4473) (eL 5))) (.len 6814))) (b := (eL 0)) (by rfl) (by rfl)
 (Qo8 4473 4475 (by kernel_rfl) (.tail _ (.tail _ (.tail _ (.tail _ (.tail _ (.tail _ (.tail _ (.tail _ (.tail _ (.tail _ (.tail _ (.tail _ (.tail _ (.tail _ (.tail _ (.tail _ (.head _))))))))))))))))) <| Qo3 [0, 31, 1, 32, 3, 34, 5, 36, 7, 38, 40, 9, 41, 42, 43, 44, 45, 46, 47, 48, 49, 50, 51, 52, 53, 54, 55, 56, 57, 58, 59, 60, 61] (by kernel_rfl) q05p)
 (Qo4 (op := .lss) (a := (.bin .sub .i64 (.bin .add .i64 (eL 0) (.bin .mul .i64 (.var 4473) (eL 5))) (.len 6814))) (b := (eL 0)) (by rfl) (by rfl)
 q0k6
 (Qqc (op := .eql) (a := (.bin .sub .i64 (.bin .add .i64 (eL 0) (.bin .mul .i64 (.var 4473) (eL 5))) (.len 6814))) (b := (eL 0)) true (by kernel_rfl) rfl (by rfl) (by rfl) <| Qo8 4473 4475 (by kernel_rfl) (.tail _ (.tail _ (.tail _ (.tail _ (.tail _ (.tail _ (.tail _ (.tail _ (.tail _ (.tail _ (.tail _ (.tail _ (.tail _ (.tail _ (.tail _ (.tail _ (.tail _ (.tail _ (.head _))))))))))))))))))) <| Qo3 [0, 33, 3, 36, 5, 38, 7, 40, 9, 42, 44, 11, 45, 46, 47, 48, 49, 50, 51, 52, 53, 54, 55, 56, 57, 58, 59, 60, 61, 62, 63, 64, 65] (by kernel_rfl) q05w))
theorem q0k4 : QG n0 w0 cs0 (wf sB ([⟨.lss, (.bin .sub .i64 (.bin .add .i64 (eL 0) (.bin .mul .i64 (.var 4473) (eL 3))) (.len 6814)), (eL 0), true⟩,⟨.gtr, (.bin .sub .i64 (.bin .add .i64 (eL 0) (.bin .mul .i64 (.var 4473) (eL 3))) (.len 6814)), (eL 0), false⟩,⟨.lss, (.bin .sub .i64 (.bin .add .i64 (eL 0) (.bin .mul .i64 (.var 4473) (eL 2))) (.len 6814)), (eL 0), true⟩,⟨.gtr, (.bin .sub .i64 (.bin .add .i64 (eL 0) (.bin .mul .i64 (.var 4473) (eL 2))) (.len 6814)), (eL 0), false⟩,⟨.lss, (.bin .sub .i64 (.var 4473) (.len 6814)), (eL 0), true⟩,⟨.gtr, (.bin .sub .i64 (.var 4473) (.len 6814)), (eL 0), false⟩,⟨.lss, (.var 4473), (eL 500), true⟩] ++ sB.fs)) :=
 Qo4 (op := .gtr) (a := (.bin .sub .i64 (.bin .add .i64 (eL 0) (.bin .mul .i64 (.var 4473) (eL 4))) (.len 6814))) (b := (eL 0)) (by rfl) (by rfl)
 (Qo8 4473 4475 (by kernel_rfl) (.tail _ (.tail _ (.tail _ (.tail _ (.tail _ (.tail _ (.tail _ (.tail _ (.tail _ (.tail _ (.tail _ (.tail _ (.tail _ (.tail _ (.head _))))))))))))))) <| Qo3 [0, 29, 1, 30, 3, 32, 5, 34, 36, 7, 37, 38, 39, 40, 41, 42, 43, 44, 45, 46, 47, 48, 49, 50, 51, 52, 53, 54, 55, 56, 57] (by kernel_rfl) q04p)
 (Qo4 (op := .lss) (a := (.bin .sub .i64 (.bin .add .i64 (eL 0) (.bin .mul .i64 (.var 4473) (eL 4))) (.len 6814))) (b := (eL 0)) (by rfl) (by rfl)
 q0k5
 (Qqc (op := .eql) (a := (.bin .sub .i64 (.bin .add .i64 (eL 0) (.bin .mul .i64 (.var 4473) (eL 4))) (.len 6814))) (b := (eL 0)) true (by kernel_rfl) rfl (by rfl) (by rfl) <| Qo8 4473 4475 (by kernel_rfl) (.tail _ (.tail _ (.tail _ (.tail _ (.tail _ (.tail _ (.tail _ (.tail _ (.tail _ (.tail _ (.tail _ (.tail _ (.tail _ (.tail _ (.tail _ (.tail _ (.head _))))))))))))))))) <| Qo3 [0, 31, 3, 34, 5, 36, 7, 38, 40, 9, 41, 42, 43, 44, 45, 46, 47, 48, 49, 50, 51, 52, 53, 54, 55, 56, 57, 58, 59, 60, 61] (by kernel_rfl) q04w))
theorem q0k3 : QG n0 w0 cs0 (wf sB ([⟨.lss, (.bin .sub .i64 (.bin .add .i64 (eL 0) (.bin .mul .i64 (.var 4473) (eL 2))) (.len 6814)), (eL 0), true⟩,⟨.gtr, (.bin .sub .i64 (.bin .add .i64 (eL 0) (.bin .mul .i64 (.var 4473) (eL 2))) (.len 6814)), (eL 0), false⟩,⟨.lss, (.bin .sub .i64 (.var 4473) (.len 6814)), (eL 0), true⟩,⟨.gtr, (.bin .sub .i64 (.var 4473) (.len 6814)), (eL 0), false⟩,⟨.lss, (.var 4473), (eL 500), true⟩] ++ sB.fs)) :=
 Qo4 (op := .gtr) (a := (.bin .sub .i64 (.bin .add .i64 (eL 0) (.bin .mul .i64 (.var 4473) (eL 3))) (.len 6814))) (b := (eL 0)) (by rfl) (by rfl)
 (Qo8 4473 4475 (by kernel_rfl) (.tail _ (.tail _ (.tail _ (.tail _ (.tail _ (.tail _ (.tail _ (.tail _ (.tail _ (.tail _ (.tail _ (.tail _ (.head _))))))))))))) <| Qo3 [0, 27, 1, 28, 3, 30, 32, 5, 33, 34, 35, 36, 37, 38, 39, 40, 41, 42, 43, 44, 45, 46, 47, 48, 49, 50, 51, 52, 53] (by kernel_rfl) q03p)
 (Qo4 (op := .lss) (a := (.bin .sub .i64 (.bin .add .i64 (eL 0) (.bin .mul .i64 (.var 4473) (eL 3))) (.len 6814))) (b := (eL 0)) (by rfl) (by rfl)
 q0k4
 (Qqc (op := .eql) (a := (.bin .sub .i64 (.bin .add .i64 (eL 0) (.bin .mul .i64 (.var 4473) (eL 3))) (.len 6814))) (b := (eL 0)) true (by kernel_rfl) rfl (by rfl) (by rfl) <| Qo8 4473 4475 (by kernel_rfl) (.tail _ (.tail _ (.tail _ (.tail _ (.tail _ (.tail _ (.tail _ (.tail _ (.tail _ (.tail _ (.tail _ (.tail _ (.tail _ (.tail _ (.head _))))))))))))))) <| Qo3 [0, 29, 3, 32, 5, 34, 36, 7, 37, 38, 39, 40, 41, 42, 43, 44, 45, 46, 47, 48, 49, 50, 51, 52, 53, 54, 55, 56, 57] (by kernel_rfl) q03w))
theorem q0k2 : QG n0 w0 cs0 (wf sB ([⟨.lss, (.bin .sub .i64 (.var 4473) (.len 6814)), (eL 0), true⟩,⟨.gtr, (.bin .sub .i64 (.var 4473) (.len 6814)), (eL 0), false⟩,⟨.lss, (.var 4473), (eL 500), true⟩] ++ sB.fs)) :=
 Qo4 (op := .gtr) (a := (.bin .sub .i64 (.bin .add .i64 (eL 0) (.bin .mul .i64 (.var 4473) (eL 2))) (.len 6814))) (b := (eL 0)) (by rfl) (by rfl)
 (Qqc (op := .leq) (a := (.bin .add .i64 (.bin .sub .i64 (eL 0) (.var 4473)) (.len 6814))) (b := (eL 958)) true (by kernel_rfl) rfl (by rfl) (by rfl) <| Qqc (op := .geq) (a := (.bin .add .i64 (.bin .sub .i64 (eL 0) (.var 4473)) (.len 6814))) (b := (eL 0)) true (by kernel_rfl) rfl (by rfl) (by rfl) <| Qo8 4473 4475 (by kernel_rfl) (.tail _ (.tail _ (.tail _ (.tail _ (.tail _ (.tail _ (.tail _ (.tail _ (.tail _ (.tail _ (.tail _ (.tail _ (.head _))))))))))))) <| Qo3 [0, 1, 27, 28, 2, 29, 3, 30, 32, 5, 33, 34, 35, 36, 37, 38, 39, 40, 41, 42, 43, 44, 45, 46, 47, 48, 49, 50, 51, 52, 53] (by kernel_rfl) q02p)
 (Qo4 (op := .lss) (a := (.bin .sub .i64 (.bin .add .i64 (eL 0) (.bin .mul .i64 (.var 4473) (eL 2))) (.len 6814))) (b := (eL 0)) (by rfl) (by rfl)
 q0k3
 (Qqc (op := .eql) (a := (.bin .sub .i64 (.bin .add .i64 (eL 0) (.bin .mul .i64 (.var 4473) (eL 2))) (.len 6814))) (b := (eL 0)) true (by kernel_rfl) rfl (by rfl) (by rfl) <| Qo8 4473 4475 (by kernel_rfl) (.tail _ (.tail _ (.tail _ (.tail _ (.tail _ (.tail _ (.tail _ (.tail _ (.tail _ (.tail _ (.tail _ (.tail _ (.head _))))))))))))) <| Qo3 [0, 27, 3, 30, 32, 5, 33, 34, 35, 36, 37, 38, 39, 40, 41, 42, 43, 44, 45, 46, 47, 48, 49, 50, 51, 52, 53] (by kernel_rfl) q02w))
theorem q0k1 : QG n0 w0 cs0 (wf sB ([⟨.lss, (.var 4473), (eL 500), true⟩] ++ sB.fs)) :=
 Qo4 (op := .gtr) (a := (.bin .sub .i64 (.var 4473) (.len 6814))) (b := (eL 0)) (by rfl) (by rfl)
 (Qo8 4473 4475 (by kernel_rfl) (.tail _ (.tail _ (.tail _ (.tail _ (.tail _ (.tail _ (.tail _ (.tail _ (.head _))))))))) <| Qo3 [0, 23, 24, 1, 25, 26, 27, 28, 29, 30, 31, 32, 33, 34, 35, 36, 37, 38, 39, 40, 41, 42, 43, 44, 45] (by kernel_rfl) q01p)
 (Qo4 (op := .lss) (a := (.bin .sub .i64 (.var 4473) (.len 6814))) (b := (eL 0)) (by rfl) (by rfl)
 q0k2
 (Qqc (op := .eql) (a := (.bin .sub .i64 (.var 4473) (.len 6814))) (b := (eL 0)) true (by kernel_rfl) rfl (by rfl) (by rfl) <| Qo8 4473 4475 (by kernel_rfl) (.tail _ (.tail _ (.tail _ (.tail _ (.tail _ (.tail _ (.tail _ (.tail _ (.tail _ (.tail _ (.head _))))))))))) <| Qo3 [0, 25, 28, 3, 29, 30, 31, 32, 33, 34, 35, 36, 37, 38, 39, 40, 41, 42, 43, 44, 45, 46, 47, 48, 49] (by kernel_rfl) q01w))
theorem q1k3 : QG n0 w0 cs0 (wf sB ([⟨.lss, (.bin .sub .i64 (.bin .add .i64 (eL 0) (.bin .mul .i64 (.var 4473) (eL 2))) (.len 6814)), (eL 0), true⟩,⟨.gtr, (.bin .sub .i64 (.bin .add .i64 (eL 0) (.bin .mul .i64 (.var 4473) (eL 2))) (.len 6814)), (eL 0), false⟩,⟨.lss, (.bin .sub .i64 (.var 4473) (.len 6814)), (eL 0), true⟩,⟨.gtr, (.bin .sub .i64 (.var 4473) (.len 6814)), (eL 0), false⟩,⟨.eql, (.var 4473), (eL 500), true⟩,⟨.gtr, (.var 4473), (eL 500), false⟩,⟨.lss, (.var 4473), (eL 500), false⟩] ++ sB.fs)) :=
 Qo4 (op := .gtr) (a := (.bin .sub .i64 (.bin .add .i64 (eL 0) (.bin .mul .i64 (.var 4473) (eL 3))) (.len 6814))) (b := (eL 0)) (by rfl) (by rfl) (Qo8 4473 4475 (by kernel_rfl) (.tail _ (.tail _ (.tail _ (.tail _ (.tail _ (.tail _ (.tail _ (.tail _ (.tail _ (.tail _ (.tail _ (.tail _ (.tail _ (.tail _ (.head _))))))))))))))) <| Qo3 [0, 29, 1, 30, 3, 32, 34, 5, 37, 38, 39, 40, 41, 42, 43, 44, 45, 46, 47, 48, 49, 50, 51, 52, 53, 54, 55, 56, 57] (by kernel_rfl) q13p) (Qqc (op := .eql) (a := (.bin .sub .i64 (.bin .add .i64 (eL 0) (.bin .mul .i64 (.var 4473) (eL 3))) (.len 6814))) (b := (eL 0)) true (by kernel_rfl) rfl (by rfl) (by rfl) <| Qo8 4473 4475 (by kernel_rfl) (.tail _ (.tail _ (.tail _ (.tail _ (.tail _ (.tail _ (.tail _ (.tail _ (.tail _ (.tail _ (.tail _ (.tail _ (.tail _ (.tail _ (.tail _ (.head _)))))))))))))))) <| Qo3 [0, 30, 2, 32, 4, 34, 36, 6, 39, 40, 41, 42, 43, 44, 45, 46, 47, 48, 49, 50, 51, 52, 53, 54, 55, 56, 57, 58, 59] (by kernel_rfl) q13w)
theorem q1k2 : QG n0 w0 cs0 (wf sB ([⟨.lss, (.bin .sub .i64 (.var 4473) (.len 6814)), (eL 0), true⟩,⟨.gtr, (.bin .sub .i64 (.var 4473) (.len 6814)), (eL 0), false⟩,⟨.eql, (.var 4473), (eL 500), true⟩,⟨.gtr, (.var 4473), (eL 500), false⟩,⟨.lss, (.var 4473), (eL 500), false⟩] ++ sB.fs)) :=
 Qo4 (op := .gtr) (a := (.bin .sub .i64 (.bin .add .i64 (eL 0) (.bin .mul .i64 (.var 4473) (eL 2))) (.len 6814))) (b := (eL 0)) (by rfl) (by rfl)
 (Qqc (op := .leq) (a := (.bin .add .i64 (.bin .sub .i64 (eL 0) (.var 4473)) (.len 6814))) (b := (eL 958)) true (by kernel_rfl) rfl (by rfl) (by rfl) <| Qqc (op := .geq) (a := (.bin .add .i64 (.bin .sub .i64 (eL 0) (.var 4473)) (.len 6814))) (b := (eL 0)) true (by kernel_rfl) rfl (by rfl) (by rfl) <| Qo8 4473 4475 (by kernel_rfl) (.tail _ (.tail _ (.tail _ (.tail _ (.tail _ (.tail _ (.tail _ (.tail _ (.tail _ (.tail _ (.tail _ (.tail _ (.tail _ (.tail _ (.head _))))))))))))))) <| Qo3 [0, 1, 29, 30, 2, 31, 3, 32, 34, 5, 37, 38, 39, 40, 41, 42, 43, 44, 45, 46, 47, 48, 49, 50, 51, 52, 53, 54, 55, 56, 57] (by kernel_rfl) q12p)
 (Qo4 (op := .lss) (a := (.bin .sub .i64 (.bin .add .i64 (eL 0) (.bin .mul .i64 (.var 4473) (eL 2))) (.len 6814))) (b := (eL 0)) (by rfl) (by rfl)
 q1k3
 (Qqc (op := .eql) (a := (.bin .sub .i64 (.bin .add .i64 (eL 0) (.bin .mul .i64 (.var 4473) (eL 2))) (.len 6814))) (b := (eL 0)) true (by kernel_rfl) rfl (by rfl) (by rfl) <| Qo8 4473 4475 (by kernel_rfl) (.tail _ (.tail _ (.tail _ (.tail _ (.tail _ (.tail _ (.tail _ (.tail _ (.tail _ (.tail _ (.tail _ (.tail _ (.tail _ (.tail _ (.head _))))))))))))))) <| Qo3 [0, 29, 3, 32, 34, 5, 37, 38, 39, 40, 41, 42, 43, 44, 45, 46, 47, 48, 49, 50, 51, 52, 53, 54, 55, 56, 57] (by kernel_rfl) q12w))
theorem q1k1 : QG n0 w0 cs0 (wf sB ([⟨.eql, (.var 4473), (eL 500), true⟩,⟨.gtr, (.var 4473), (eL 500), false⟩,⟨.lss, (.var 4473), (eL 500), false⟩] ++ sB.fs)) :=
 Qo4 (op := .gtr) (a := (.bin .sub .i64 (.var 4473) (.len 6814))) (b := (eL 0)) (by rfl) (by rfl)
 (Qo8 4473 4475 (by kernel_rfl) (.tail _ (.tail _ (.tail _ (.tail _ (.tail _ (.tail _ (.tail _ (.tail _ (.tail _ (.tail _ (.head _))))))))))) <| Qo3 [0, 25, 26, 1, 29, 30, 31, 32, 33, 34, 35, 36, 37, 38, 39, 40, 41, 42, 43, 44, 45, 46, 47, 48, 49] (by kernel_rfl) q11p)
 (Qo4 (op := .lss) (a := (.bin .sub .i64 (.var 4473) (.len 6814))) (b := (eL 0)) (by rfl) (by rfl)
 q1k2
 (Qqc (op := .eql) (a := (.bin .sub .i64 (.var 4473) (.len 6814))) (b := (eL 0)) true (by kernel_rfl) rfl (by rfl) (by rfl) <| Qo8 4473 4475 (by kernel_rfl) (.tail _ (.tail _ (.tail _ (.tail _ (.tail _ (.tail _ (.tail _ (.tail _ (.tail _ (.tail _ (.tail _ (.tail _ (.head _))))))))))))) <| Qo3 [0, 27, 30, 3, 33, 34, 35, 36, 37, 38, 39, 40, 41, 42, 43, 44, 45, 46, 47, 48, 49, 50, 51, 52, 53] (by kernel_rfl) q11w))
theorem q2k3 : QG n0 w0 cs0 (wf sB ([⟨.lss, (.bin .sub .i64 (.bin .add .i64 (eL 0) (.bin .mul .i64 (.var 4473) (eL 2))) (.len 6814)), (eL 0), true⟩,⟨.gtr, (.bin .sub .i64 (.bin .add .i64 (eL 0) (.bin .mul .i64 (.var 4473) (eL 2))) (.len 6814)), (eL 0), false⟩,⟨.lss, (.bin .sub .i64 (.var 4473) (.len 6814)), (eL 0), true⟩,⟨.gtr, (.bin .sub .i64 (.var 4473) (.len 6814)), (eL 0), false⟩,⟨.gtr, (.var 4473), (eL 500), true⟩,⟨.lss, (.var 4473), (eL 500), false⟩] ++ sB.fs)) :=
 Qqc (op := .gtr) (a := (.bin .sub .i64 (.bin .add .i64 (eL 0) (.bin .mul .i64 (.var 4473) (eL 3))) (.len 6814))) (b := (eL 0)) true (by kernel_rfl) rfl (by rfl) (by rfl) <| Qo8 4473 4475 (by kernel_rfl) (.tail _ (.tail _ (.tail _ (.tail _ (.tail _ (.tail _ (.tail _ (.tail _ (.tail _ (.tail _ (.tail _ (.tail _ (.tail _ (.head _)))))))))))))) <| Qo3 [0, 28, 1, 29, 3, 31, 33, 5, 35, 36, 37, 38, 39, 40, 41, 42, 43, 44, 45, 46, 47, 48, 49, 50, 51, 52, 53, 54, 55] (by kernel_rfl) q23p
theorem q2k2 : QG n0 w0 cs0 (wf sB ([⟨.lss, (.bin .sub .i64 (.var 4473) (.len 6814)), (eL 0), true⟩,⟨.gtr, (.bin .sub .i64 (.var 4473) (.len 6814)), (eL 0), false⟩,⟨.gtr, (.var 4473), (eL 500), true⟩,⟨.lss, (.var 4473), (eL 500), false⟩] ++ sB.fs)) :=
 Qo4 (op := .gtr) (a := (.bin .sub .i64 (.bin .add .i64 (eL 0) (.bin .mul .i64 (.var 4473) (eL 2))) (.len 6814))) (b := (eL 0)) (by rfl) (by rfl)
 (Qqc (op := .leq) (a := (.bin .add .i64 (.bin .sub .i64 (eL 0) (.var 4473)) (.len 6814))) (b := (eL 958)) true (by kernel_rfl) rfl (by rfl) (by rfl) <| Qqc (op := .geq) (a := (.bin .add .i64 (.bin .sub .i64 (eL 0) (.var 4473)) (.len 6814))) (b := (eL 0)) true (by kernel_rfl) rfl (by rfl) (by rfl) <| Qo8 4473 4475 (by kernel_rfl) (.tail _ (.tail _ (.tail _ (.tail _ (.tail _ (.tail _ (.tail _ (.tail _ (.tail _ (.tail _ (.tail _ (.tail _ (.tail _ (.head _)))))))))))))) <| Qo3 [0, 1, 28, 29, 2, 30, 3, 31, 33, 5, 35, 36, 37, 38, 39, 40, 41, 42, 43, 44, 45, 46, 47, 48, 49, 50, 51, 52, 53, 54, 55] (by kernel_rfl) q22p)
 (Qo4 (op := .lss) (a := (.bin .sub .i64 (.bin .add .i64 (eL 0) (.bin .mul .i64 (.var 4473) (eL 2))) (.len 6814))) (b := (eL 0)) (by rfl) (by rfl)
 q2k3
 (Qqc (op := .eql) (a := (.bin .sub .i64 (.bin .add .i64 (eL 0) (.bin .mul .i64 (.var 4473) (eL 2))) (.len 6814))) (b := (eL 0)) true (by kernel_rfl) rfl (by rfl) (by rfl) <| Qo8 4473 4475 (by kernel_rfl) (.tail _ (.tail _ (.tail _ (.tail _ (.tail _ (.tail _ (.tail _ (.tail _ (.tail _ (.tail _ (.tail _ (.tail _ (.tail _ (.head _)))))))))))))) <| Qo3 [0, 28, 3, 31, 33, 5, 35, 36, 37, 38, 39, 40, 41, 42, 43, 44, 45, 46, 47, 48, 49, 50, 51, 52, 53, 54, 55] (by kernel_rfl) q22w))
theorem q2k1 : QG n0 w0 cs0 (wf sB ([⟨.gtr, (.var 4473), (eL 500), true⟩,⟨.lss, (.var 4473), (eL 500), false⟩] ++ sB.fs)) :=
 Qo4 (op := .gtr) (a := (.bin .sub .i64 (.var 4473) (.len 6814))) (b := (eL 0)) (by rfl) (by rfl)
 (Qo4 (op := .lss) (a := .len 6814) (b := (eL 500)) (by rfl) (by rfl) (Qo8 4473 4475 (by kernel_rfl) (.tail _ (.tail _ (.tail _ (.tail _ (.tail _ (.tail _ (.tail _ (.tail _ (.tail _ (.tail _ (.head _))))))))))) <| Qo3 [0, 1, 26, 27, 2, 29, 30, 31, 32, 33, 34, 35, 36, 37, 38, 39, 40, 41, 42, 43, 44, 45, 46, 47, 48, 49] (by kernel_rfl) q21pa) (Qo8 4473 4475 (by kernel_rfl) (.tail _ (.tail _ (.tail _ (.tail _ (.tail _ (.tail _ (.tail _ (.tail _ (.tail _ (.tail _ (.head _))))))))))) <| Qo3 [0, 1, 26, 27, 2, 29, 30, 31, 32, 33, 34, 35, 36, 37, 38, 39, 40, 41, 42, 43, 44, 45, 46, 47, 48, 49] (by kernel_rfl) q21pb))
 (Qo4 (op := .lss) (a := (.bin .sub .i64 (.var 4473) (.len 6814))) (b := (eL 0)) (by rfl) (by rfl)
 q2k2
 (Qqc (op := .eql) (a := (.bin .sub .i64 (.var 4473) (.len 6814))) (b := (eL 0)) true (by kernel_rfl) rfl (by rfl) (by rfl) <| Qo8 4473 4475 (by kernel_rfl) (.tail _ (.tail _ (.tail _ (.tail _ (.tail _ (.tail _ (.tail _ (.tail _ (.tail _ (.tail _ (.tail _ (.head _)))))))))))) <| Qo3 [0, 26, 29, 3, 31, 32, 33, 34, 35, 36, 37, 38, 39, 40, 41, 42, 43, 44, 45, 46, 47, 48, 49, 50, 51] (by kernel_rfl) q21w))
theorem qB : QG n0 w0 cs0 (sB.am 8000) :=
 show QG n0 w0 cs0 (wf sB sB.fs) from
 Qo4 (op := .lss) (a := (.var 4473)) (b := (eL 500)) (by rfl) (by rfl) q0k1 (Qo4 (op := .gtr) (a := (.var 4473)) (b := (eL 500)) (by rfl) (by rfl) q2k1
 (Qqc (op := .eql) (a := (.var 4473)) (b := (eL 500)) true (by kernel_rfl) rfl (by rfl) (by rfl) q1k1))
theorem qM : QG n0 w0 cs0 (sM.am 8000) := Qnd hM0 <| Qnd hM1 <| Qnd hM2 <| Qnd hB <| qB
theorem qQ0 : QG n0 w0 cs0 (wf sQ (⟨.lss, (.bin .sub .i64 (.var 126) (.var 127)), (eL 0), true⟩ :: sP.fs)) := Qnd hQ00 <| Qnd hQ01 <| Qnd hQ02 <| Qnd hQ03 <| Qnd hQ04 <| qren hM_0 (by kernel_rfl) (by kernel_rfl) rfl qM
theorem qQ1 : QG n0 w0 cs0 (wf sQ (⟨.eql, (.bin .sub .i64 (.var 126) (.var 127)), (eL 0), true⟩ :: sP.fs)) := Qnd hQ10 <| Qnd hQ11 <| Qnd hQ12 <| Qnd hQ13 <| Qnd hQ14 <| qren hM_1 (by kernel_rfl) (by kernel_rfl) rfl qM
theorem qQ2 : QG n0 w0 cs0 (wf sQ (⟨.gtr, (.bin .sub .i64 (.var 126) (.var 127)), (eL 0), true⟩ :: sP.fs)) := Qnd hQ20 <| Qnd hQ21 <| Qnd hQ22 <| Qnd hQ23 <| Qnd hQ24 <| qren hM_2 (by kernel_rfl) (by kernel_rfl) rfl qM
theorem qQ : QG n0 w0 cs0 (sQ.am 8000) :=
 show QG n0 w0 cs0 (wf sQ sP.fs) from
 Qo4 (op := .lss) (a := (.bin .sub .i64 (.var 126) (.var 127))) (b := (eL 0)) (by rfl) (by rfl) qQ0
 (Qo4 (op := .gtr) (a := (.bin .sub .i64 (.var 126) (.var 127))) (b := (eL 0)) (by rfl) (by rfl) (Qo3 [0, 2, 3, 4, 5, 6, 7, 8, 9, 10, 11] (by kernel_rfl) qQ2)
 (Qqc (op := .eql) (a := (.bin .sub .i64 (.var 126) (.var 127))) (b := (eL 0)) true (by kernel_rfl) rfl (by rfl) (by rfl) (Qo3 [0, 3, 4, 5, 6, 7, 8, 9, 10, 11, 12] (by kernel_rfl) qQ1)))
theorem qgood : QG n0 w0 cs0 hc00 := Z2s hP <| Qnd hP0 <| Qnd hQ <| qQ
end
theorem Qtx : Qhi Tryz.prog errs 4 hcS (.lit true) :=
 Qho Qok Q8i Q47 Qyv λ h => qgood _ _ h
end Go.Proofs.YtmjjaldodkokbaaGreatDoor
