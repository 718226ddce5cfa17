/-
 The law on limits: it holds over a memory in which the packages' errors are laid. Conditions: none.
-/
import Derived.Test.YtmbajnmaeikceaaGreatDoorNLt5
import Derived.Test.YtmbajnmaeikceaaGreatDoorNLt0
import Derived.Test.YtmbajnmaeikceaaGreatDoorNLt1
import Derived.Test.YtmbajnmaeikceaaGreatDoorNLt2
import Derived.Test.YtmbajnmaeikceaaGreatDoorNLt3
import Derived.Test.YtmbajnmaeikceaaGreatDoorNLt4
import Derived.Test.YtmbajnmaeikceaaGreatDoorNLf0
import Derived.Test.YtmbajnmaeikceaaGreatDoorNLf1
import Derived.Test.YtmbajnmaeikceaaGreatDoorNLf2
import Derived.Test.YtmbajnmaeikceaaGreatDoorNLf3
import Derived.Test.YtmbajnmaeikceaaGreatDoorNLf4
import Derived.Test.YtmbajnmaeikceaaGreatDoorNLf5
import Derived.Test.YtmbajnmaeikceaaGreatDoorNH0
import Derived.Test.YtmbajnmaeikceaaGreatDoorNKl
import Derived.Test.YtmbajnmaeikceaaGreatDoorRows
import Derived.Stop.LaidErr
import Derived.LaidSub
import Derived.Shelf.Vars
import Derived.ProofKit
import Derived.Lib.LaidU8
import Derived.LaidLaws
import Derived.LaidHandle
import Derived.Lib.LaidTab
import Derived.Test.YtmbajnmaeikceaaGreatDoorNT1
import Derived.Test.YtmbajnmaeikceaaGreatDoorNT2
import Derived.Test.YtmbajnmaeikceaaGreatDoorNT3
import Derived.Test.YtmbajnmaeikceaaGreatDoorNT4
import Derived.Test.YtmbajnmaeikceaaGreatDoorNT5
import Derived.Test.YtmbajnmaeikceaaGreatDoorNT6
import Derived.LaidByTextLater
import Derived.SevenTiedAt
import Derived.Test.YtmbajnmaeikceaaGreatDoorNAxE
import Derived.Test.YtmbajnmaeikceaaGreatDoorCards
import Derived.Test.YtmbajnmaeikceaaGreatDoorNJ6
import Derived.Lib.SmallJoins
import Derived.OpenShut
import Derived.Deep.DeepHandedRow
import Derived.ChangeSame
import Derived.WideKeyArgs
import Derived.Carry
namespace Go.Proofs.YtmbajnmaeikceaaGreatDoor
open Go Go.Ax Go.RowKit Go.Proofs
section
variable {n0 : Nat} {w0 : World} {cs0 : List Frame}
theorem lhop {s : AM} {j : List Nat} {room : Nat} {U : Sb} {keep : List Nat} {π : List (Nat × Nat)} {t : StG} (hh : Qm3 5 zx GL 200 17 s j U keep π t) (he : ∀ X m, Sim Tryz.prog GL n0 w0 cs0 X (t.am room) m -> Qt Tryz.prog n0 w0 cs0 3 m) : ∀ X m, Sim Tryz.prog GL n0 w0 cs0 X s m -> Qt Tryz.prog n0 w0 cs0 3 m :=
 λ _ _ h => Qm3.ends Qoq Qos Qou Qhu hh he h
theorem lpart {t : StG} {room : Nat} {op : BinOp} {a b : E} (ha : a.okB t.vs = true) (hb : b.okB t.vs = true)
 (h1 : ∀ X m, Sim Tryz.prog GL n0 w0 cs0 X ({ t with fs := ⟨op, a, b, true⟩ :: t.fs }.am room) m -> Qt Tryz.prog n0 w0 cs0 3 m) (h2 : ∀ X m, Sim Tryz.prog GL n0 w0 cs0 X ({ t with fs := ⟨op, a, b, false⟩ :: t.fs }.am room) m -> Qt Tryz.prog n0 w0 cs0 3 m) : ∀ X m, Sim Tryz.prog GL n0 w0 cs0 X (t.am room) m -> Qt Tryz.prog n0 w0 cs0 3 m :=
 λ X m h => (Sim.Qe7 h op a b ha hb).elim (h1 X m) (h2 X m)
theorem lg_Lta_0 : ∀ X m, Sim Tryz.prog GL n0 w0 cs0 X (Qpz.am 8000) m -> Qt Tryz.prog n0 w0 cs0 3 m :=
 λ _ _ h => Qt.Qls Qoq Qos Qou J6 Qsh h
theorem lg_Ttal : ∀ X m, Sim Tryz.prog GL n0 w0 cs0 X (Z7r.am 8000) m -> Qt Tryz.prog n0 w0 cs0 3 m :=
 lhop (π := []) Quk lg_Lta_0
theorem lg_Tta : ∀ X m, Sim Tryz.prog GL n0 w0 cs0 X (Qs0.am 8000) m -> Qt Tryz.prog n0 w0 cs0 3 m :=
 Qm8 Qoq Qos Qou Qhu (M := 498) (N := 499) (a := pkL) (i := 280) rfl (by omega) rfl (by kernel_rfl) (by kernel_rfl) (by simp [Qs0]) (λ _ => Qpm _) (by kernel_rfl) (by simp [Qs0]) (by simp [Qs0]) (by kernel_rfl) Quj lg_Ttal
theorem lg_Rtat : ∀ X m, Sim Tryz.prog GL n0 w0 cs0 X (Z7u.am 8000) m -> Qt Tryz.prog n0 w0 cs0 3 m :=
 lhop (π := []) Qup lg_Tta
theorem lg_Rtaf : ∀ X m, Sim Tryz.prog GL n0 w0 cs0 X (Z7v.am 8000) m -> Qt Tryz.prog n0 w0 cs0 3 m :=
 λ _ _ h => Qt.Qls Qoq Qos Qou J6 Qud h
theorem lg_Rta : ∀ X m, Sim Tryz.prog GL n0 w0 cs0 X (Qoy.am 8000) m -> Qt Tryz.prog n0 w0 cs0 3 m :=
 lpart (t := Qoy) (op := .geq) (a := pkL) (b := eL 15) (by kernel_rfl) (by rfl) lg_Rtat lg_Rtaf
theorem lg_Nt0 : ∀ X m, Sim Tryz.prog GL n0 w0 cs0 X ((lNt 0).am 8000) m -> Qt Tryz.prog n0 w0 cs0 3 m :=
 lhop (π := [(299, 1600)]) Z6k lg_Rta
theorem lg_Mt0 : ∀ X m, Sim Tryz.prog GL n0 w0 cs0 X ((lMt 0).am 8000) m -> Qt Tryz.prog n0 w0 cs0 3 m :=
 lhop (π := []) Z74 lg_Nt0
theorem lg_Btc0 : ∀ X m, Sim Tryz.prog GL n0 w0 cs0 X ((clF pkL lBt 0).am 8000) m -> Qt Tryz.prog n0 w0 cs0 3 m :=
 lhop (π := []) Qvo lg_Mt0
theorem lg_Nt1 : ∀ X m, Sim Tryz.prog GL n0 w0 cs0 X ((lNt 1).am 8000) m -> Qt Tryz.prog n0 w0 cs0 3 m :=
 lhop (π := [(299, 1617)]) Z6j lg_Rta
theorem lg_Mt1 : ∀ X m, Sim Tryz.prog GL n0 w0 cs0 X ((lMt 1).am 8000) m -> Qt Tryz.prog n0 w0 cs0 3 m :=
 lhop (π := []) Z73 lg_Nt1
theorem lg_Btc1 : ∀ X m, Sim Tryz.prog GL n0 w0 cs0 X ((clF pkL lBt 1).am 8000) m -> Qt Tryz.prog n0 w0 cs0 3 m :=
 lhop (π := []) Qvn lg_Mt1
theorem lg_Nt2 : ∀ X m, Sim Tryz.prog GL n0 w0 cs0 X ((lNt 2).am 8000) m -> Qt Tryz.prog n0 w0 cs0 3 m :=
 lhop (π := [(299, 1634)]) Z6i lg_Rta
theorem lg_Mt2 : ∀ X m, Sim Tryz.prog GL n0 w0 cs0 X ((lMt 2).am 8000) m -> Qt Tryz.prog n0 w0 cs0 3 m :=
 lhop (π := []) Z72 lg_Nt2
theorem lg_Btc2 : ∀ X m, Sim Tryz.prog GL n0 w0 cs0 X ((clF pkL lBt 2).am 8000) m -> Qt Tryz.prog n0 w0 cs0 3 m :=
 lhop (π := []) Qvm lg_Mt2
theorem lg_Nt3 : ∀ X m, Sim Tryz.prog GL n0 w0 cs0 X ((lNt 3).am 8000) m -> Qt Tryz.prog n0 w0 cs0 3 m :=
 lhop (π := [(299, 1651)]) Z6h lg_Rta
theorem lg_Mt3 : ∀ X m, Sim Tryz.prog GL n0 w0 cs0 X ((lMt 3).am 8000) m -> Qt Tryz.prog n0 w0 cs0 3 m :=
 lhop (π := []) Z71 lg_Nt3
theorem lg_Btc3 : ∀ X m, Sim Tryz.prog GL n0 w0 cs0 X ((clF pkL lBt 3).am 8000) m -> Qt Tryz.prog n0 w0 cs0 3 m :=
 lhop (π := []) Qvl lg_Mt3
theorem lg_Nt4 : ∀ X m, Sim Tryz.prog GL n0 w0 cs0 X ((lNt 4).am 8000) m -> Qt Tryz.prog n0 w0 cs0 3 m :=
 lhop (π := [(299, 1668)]) Z6g lg_Rta
theorem lg_Mt4 : ∀ X m, Sim Tryz.prog GL n0 w0 cs0 X ((lMt 4).am 8000) m -> Qt Tryz.prog n0 w0 cs0 3 m :=
 lhop (π := []) Z70 lg_Nt4
theorem lg_Btc4 : ∀ X m, Sim Tryz.prog GL n0 w0 cs0 X ((clF pkL lBt 4).am 8000) m -> Qt Tryz.prog n0 w0 cs0 3 m :=
 lhop (π := []) Qvk lg_Mt4
theorem lg_Nt5 : ∀ X m, Sim Tryz.prog GL n0 w0 cs0 X ((lNt 5).am 8000) m -> Qt Tryz.prog n0 w0 cs0 3 m :=
 lhop (π := [(299, 1685)]) Z6f lg_Rta
theorem lg_Mt5 : ∀ X m, Sim Tryz.prog GL n0 w0 cs0 X ((lMt 5).am 8000) m -> Qt Tryz.prog n0 w0 cs0 3 m :=
 lhop (π := []) Z6z lg_Nt5
theorem lg_Btc5 : ∀ X m, Sim Tryz.prog GL n0 w0 cs0 X ((clF pkL lBt 5).am 8000) m -> Qt Tryz.prog n0 w0 cs0 3 m :=
 lhop (π := []) Qvj lg_Mt5
theorem lg_Nt6 : ∀ X m, Sim Tryz.prog GL n0 w0 cs0 X ((lNt 6).am 8000) m -> Qt Tryz.prog n0 w0 cs0 3 m :=
 lhop (π := [(299, 1702)]) Z6e lg_Rta
theorem lg_Mt6 : ∀ X m, Sim Tryz.prog GL n0 w0 cs0 X ((lMt 6).am 8000) m -> Qt Tryz.prog n0 w0 cs0 3 m :=
 lhop (π := []) Z6y lg_Nt6
theorem lg_Btc6 : ∀ X m, Sim Tryz.prog GL n0 w0 cs0 X ((clF pkL lBt 6).am 8000) m -> Qt Tryz.prog n0 w0 cs0 3 m :=
 lhop (π := []) Qvi lg_Mt6
theorem lg_Nt7 : ∀ X m, Sim Tryz.prog GL n0 w0 cs0 X ((lNt 7).am 8000) m -> Qt Tryz.prog n0 w0 cs0 3 m :=
 lhop (π := [(299, 1719)]) Z6d lg_Rta
theorem lg_Mt7 : ∀ X m, Sim Tryz.prog GL n0 w0 cs0 X ((lMt 7).am 8000) m -> Qt Tryz.prog n0 w0 cs0 3 m :=
 lhop (π := []) Z6x lg_Nt7
theorem lg_Btc7 : ∀ X m, Sim Tryz.prog GL n0 w0 cs0 X ((clF pkL lBt 7).am 8000) m -> Qt Tryz.prog n0 w0 cs0 3 m :=
 lhop (π := []) Qvh lg_Mt7
theorem lg_Nt8 : ∀ X m, Sim Tryz.prog GL n0 w0 cs0 X ((lNt 8).am 8000) m -> Qt Tryz.prog n0 w0 cs0 3 m :=
 lhop (π := [(299, 1736)]) Z6c lg_Rta
theorem lg_Mt8 : ∀ X m, Sim Tryz.prog GL n0 w0 cs0 X ((lMt 8).am 8000) m -> Qt Tryz.prog n0 w0 cs0 3 m :=
 lhop (π := []) Z6w lg_Nt8
theorem lg_Btc8 : ∀ X m, Sim Tryz.prog GL n0 w0 cs0 X ((clF pkL lBt 8).am 8000) m -> Qt Tryz.prog n0 w0 cs0 3 m :=
 lhop (π := []) Qvg lg_Mt8
theorem lg_Nt9 : ∀ X m, Sim Tryz.prog GL n0 w0 cs0 X ((lNt 9).am 8000) m -> Qt Tryz.prog n0 w0 cs0 3 m :=
 lhop (π := [(299, 1753)]) Z6b lg_Rta
theorem lg_Mt9 : ∀ X m, Sim Tryz.prog GL n0 w0 cs0 X ((lMt 9).am 8000) m -> Qt Tryz.prog n0 w0 cs0 3 m :=
 lhop (π := []) Z6v lg_Nt9
theorem lg_Btc9 : ∀ X m, Sim Tryz.prog GL n0 w0 cs0 X ((clF pkL lBt 9).am 8000) m -> Qt Tryz.prog n0 w0 cs0 3 m :=
 lhop (π := []) Qvf lg_Mt9
theorem lg_Nt10 : ∀ X m, Sim Tryz.prog GL n0 w0 cs0 X ((lNt 10).am 8000) m -> Qt Tryz.prog n0 w0 cs0 3 m :=
 lhop (π := [(299, 1770)]) Quw lg_Rta
theorem lg_Mt10 : ∀ X m, Sim Tryz.prog GL n0 w0 cs0 X ((lMt 10).am 8000) m -> Qt Tryz.prog n0 w0 cs0 3 m :=
 lhop (π := []) Qv8 lg_Nt10
theorem lg_Btc10 : ∀ X m, Sim Tryz.prog GL n0 w0 cs0 X ((clF pkL lBt 10).am 8000) m -> Qt Tryz.prog n0 w0 cs0 3 m :=
 lhop (π := []) Qtc lg_Mt10
theorem lg_Nt11 : ∀ X m, Sim Tryz.prog GL n0 w0 cs0 X ((lNt 11).am 8000) m -> Qt Tryz.prog n0 w0 cs0 3 m :=
 lhop (π := [(299, 1787)]) Quv lg_Rta
theorem lg_Mt11 : ∀ X m, Sim Tryz.prog GL n0 w0 cs0 X ((lMt 11).am 8000) m -> Qt Tryz.prog n0 w0 cs0 3 m :=
 lhop (π := []) Qv7 lg_Nt11
theorem lg_Btc11 : ∀ X m, Sim Tryz.prog GL n0 w0 cs0 X ((clF pkL lBt 11).am 8000) m -> Qt Tryz.prog n0 w0 cs0 3 m :=
 lhop (π := []) Qtb lg_Mt11
theorem lg_Nt12 : ∀ X m, Sim Tryz.prog GL n0 w0 cs0 X ((lNt 12).am 8000) m -> Qt Tryz.prog n0 w0 cs0 3 m :=
 lhop (π := [(299, 1804)]) Quu lg_Rta
theorem lg_Mt12 : ∀ X m, Sim Tryz.prog GL n0 w0 cs0 X ((lMt 12).am 8000) m -> Qt Tryz.prog n0 w0 cs0 3 m :=
 lhop (π := []) Qv6 lg_Nt12
theorem lg_Btc12 : ∀ X m, Sim Tryz.prog GL n0 w0 cs0 X ((clF pkL lBt 12).am 8000) m -> Qt Tryz.prog n0 w0 cs0 3 m :=
 lhop (π := []) Qta lg_Mt12
theorem lg_Nt13 : ∀ X m, Sim Tryz.prog GL n0 w0 cs0 X ((lNt 13).am 8000) m -> Qt Tryz.prog n0 w0 cs0 3 m :=
 lhop (π := [(299, 1821)]) Qut lg_Rta
theorem lg_Mt13 : ∀ X m, Sim Tryz.prog GL n0 w0 cs0 X ((lMt 13).am 8000) m -> Qt Tryz.prog n0 w0 cs0 3 m :=
 lhop (π := []) Qv5 lg_Nt13
theorem lg_Btc13 : ∀ X m, Sim Tryz.prog GL n0 w0 cs0 X ((clF pkL lBt 13).am 8000) m -> Qt Tryz.prog n0 w0 cs0 3 m :=
 lhop (π := []) Qt9 lg_Mt13
theorem lg_Nt14 : ∀ X m, Sim Tryz.prog GL n0 w0 cs0 X ((lNt 14).am 8000) m -> Qt Tryz.prog n0 w0 cs0 3 m :=
 lhop (π := [(299, 1838)]) Qus lg_Rta
theorem lg_Mt14 : ∀ X m, Sim Tryz.prog GL n0 w0 cs0 X ((lMt 14).am 8000) m -> Qt Tryz.prog n0 w0 cs0 3 m :=
 lhop (π := []) Qv4 lg_Nt14
theorem lg_Btc14 : ∀ X m, Sim Tryz.prog GL n0 w0 cs0 X ((clF pkL lBt 14).am 8000) m -> Qt Tryz.prog n0 w0 cs0 3 m :=
 lhop (π := []) Qt8 lg_Mt14
theorem lg_Nt15 : ∀ X m, Sim Tryz.prog GL n0 w0 cs0 X ((lNt 15).am 8000) m -> Qt Tryz.prog n0 w0 cs0 3 m :=
 lhop (π := [(299, 1855)]) Qur lg_Rta
theorem lg_Mt15 : ∀ X m, Sim Tryz.prog GL n0 w0 cs0 X ((lMt 15).am 8000) m -> Qt Tryz.prog n0 w0 cs0 3 m :=
 lhop (π := []) Qv3 lg_Nt15
theorem lg_Btc15 : ∀ X m, Sim Tryz.prog GL n0 w0 cs0 X ((clF pkL lBt 15).am 8000) m -> Qt Tryz.prog n0 w0 cs0 3 m :=
 lhop (π := []) Qt7 lg_Mt15
theorem lg_Ltb_0 : ∀ X m, Sim Tryz.prog GL n0 w0 cs0 X (Qpy.am 8000) m -> Qt Tryz.prog n0 w0 cs0 3 m :=
 λ _ _ h => Qt.Qls Qoq Qos Qou J6 Qsg h
theorem lg_Ttbl : ∀ X m, Sim Tryz.prog GL n0 w0 cs0 X (Z7q.am 8000) m -> Qt Tryz.prog n0 w0 cs0 3 m :=
 lhop (π := []) Qui lg_Ltb_0
theorem lg_Ttb : ∀ X m, Sim Tryz.prog GL n0 w0 cs0 X (Qrz.am 8000) m -> Qt Tryz.prog n0 w0 cs0 3 m :=
 Qm8 Qoq Qos Qou Qhu (M := 498) (N := 499) (a := pkL) (i := 280) rfl (by omega) rfl (by kernel_rfl) (by kernel_rfl) (by simp [Qrz]) (λ _ => Qpm _) (by kernel_rfl) (by simp [Qrz]) (by simp [Qrz]) (by kernel_rfl) Quh lg_Ttbl
theorem lg_Rtb : ∀ X m, Sim Tryz.prog GL n0 w0 cs0 X (Qp2.am 8000) m -> Qt Tryz.prog n0 w0 cs0 3 m :=
 lhop (π := []) Z69 lg_Ttb
theorem lg_Btc16 : ∀ X m, Sim Tryz.prog GL n0 w0 cs0 X ((clF pkL lBt 16).am 8000) m -> Qt Tryz.prog n0 w0 cs0 3 m :=
 lhop (π := [(299, 250)]) Qt6 lg_Rtb
theorem lg_Btc17 : ∀ X m, Sim Tryz.prog GL n0 w0 cs0 X ((clF pkL lBt 17).am 8000) m -> Qt Tryz.prog n0 w0 cs0 3 m :=
 lhop (π := [(299, 252)]) Qt5 lg_Rtb
theorem lg_Btc18 : ∀ X m, Sim Tryz.prog GL n0 w0 cs0 X ((clF pkL lBt 18).am 8000) m -> Qt Tryz.prog n0 w0 cs0 3 m :=
 lhop (π := [(299, 254)]) Qt4 lg_Rtb
theorem lg_Btc19 : ∀ X m, Sim Tryz.prog GL n0 w0 cs0 X ((clF pkL lBt 19).am 8000) m -> Qt Tryz.prog n0 w0 cs0 3 m :=
 lhop (π := [(299, 256)]) Qt3 lg_Rtb
theorem lg_Btc20 : ∀ X m, Sim Tryz.prog GL n0 w0 cs0 X ((clF pkL lBt 20).am 8000) m -> Qt Tryz.prog n0 w0 cs0 3 m :=
 lhop (π := [(299, 258)]) Qt2 lg_Rtb
theorem lg_Btc21 : ∀ X m, Sim Tryz.prog GL n0 w0 cs0 X ((clF pkL lBt 21).am 8000) m -> Qt Tryz.prog n0 w0 cs0 3 m :=
 lhop (π := [(299, 260)]) Qt1 lg_Rtb
theorem lg_Btc22 : ∀ X m, Sim Tryz.prog GL n0 w0 cs0 X ((clF pkL lBt 22).am 8000) m -> Qt Tryz.prog n0 w0 cs0 3 m :=
 lhop (π := [(299, 262)]) Qt0 lg_Rtb
theorem lg_Btc23 : ∀ X m, Sim Tryz.prog GL n0 w0 cs0 X ((clF pkL lBt 23).am 8000) m -> Qt Tryz.prog n0 w0 cs0 3 m :=
 lhop (π := [(299, 264)]) Qsz lg_Rtb
theorem lg_Btc24 : ∀ X m, Sim Tryz.prog GL n0 w0 cs0 X ((clF pkL lBt 24).am 8000) m -> Qt Tryz.prog n0 w0 cs0 3 m :=
 lhop (π := [(299, 266)]) Qsy lg_Rtb
theorem lg_Btc25 : ∀ X m, Sim Tryz.prog GL n0 w0 cs0 X ((clF pkL lBt 25).am 8000) m -> Qt Tryz.prog n0 w0 cs0 3 m :=
 lhop (π := [(299, 268)]) Qsx lg_Rtb
theorem lg_Btc26 : ∀ X m, Sim Tryz.prog GL n0 w0 cs0 X ((clF pkL lBt 26).am 8000) m -> Qt Tryz.prog n0 w0 cs0 3 m :=
 lhop (π := [(299, 270)]) Qsw lg_Rtb
theorem lg_Btc27 : ∀ X m, Sim Tryz.prog GL n0 w0 cs0 X ((clF pkL lBt 27).am 8000) m -> Qt Tryz.prog n0 w0 cs0 3 m :=
 lhop (π := [(299, 272)]) Qsv lg_Rtb
theorem lg_Btc28 : ∀ X m, Sim Tryz.prog GL n0 w0 cs0 X ((clF pkL lBt 28).am 8000) m -> Qt Tryz.prog n0 w0 cs0 3 m :=
 lhop (π := [(299, 274)]) Qsu lg_Rtb
theorem lg_Btc29 : ∀ X m, Sim Tryz.prog GL n0 w0 cs0 X ((clT pkL lBt 29).am 8000) m -> Qt Tryz.prog n0 w0 cs0 3 m :=
 lhop (π := [(299, 276)]) Qst lg_Rtb
theorem lg_Bt : ∀ X m, Sim Tryz.prog GL n0 w0 cs0 X (lBt.am 8000) m -> Qt Tryz.prog n0 w0 cs0 3 m :=
 Qla (a := pkL) (C := 29) (by kernel_rfl) (λ c hc => match c, hc with
  | 0, _ => lg_Btc0
  | 1, _ => lg_Btc1
  | 2, _ => lg_Btc2
  | 3, _ => lg_Btc3
  | 4, _ => lg_Btc4
  | 5, _ => lg_Btc5
  | 6, _ => lg_Btc6
  | 7, _ => lg_Btc7
  | 8, _ => lg_Btc8
  | 9, _ => lg_Btc9
  | 10, _ => lg_Btc10
  | 11, _ => lg_Btc11
  | 12, _ => lg_Btc12
  | 13, _ => lg_Btc13
  | 14, _ => lg_Btc14
  | 15, _ => lg_Btc15
  | 16, _ => lg_Btc16
  | 17, _ => lg_Btc17
  | 18, _ => lg_Btc18
  | 19, _ => lg_Btc19
  | 20, _ => lg_Btc20
  | 21, _ => lg_Btc21
  | 22, _ => lg_Btc22
  | 23, _ => lg_Btc23
  | 24, _ => lg_Btc24
  | 25, _ => lg_Btc25
  | 26, _ => lg_Btc26
  | 27, _ => lg_Btc27
  | 28, _ => lg_Btc28
  | c + 29, h => absurd h (by omega)) lg_Btc29
theorem lg_Lfa_1 : ∀ X m, Sim Tryz.prog GL n0 w0 cs0 X (Qq2.am 8000) m -> Qt Tryz.prog n0 w0 cs0 3 m :=
 λ _ _ h => Qt.Qls Qoq Qos Qou J6 Qsj h
theorem lg_Lfa_0 : ∀ X m, Sim Tryz.prog GL n0 w0 cs0 X (Qq3.am 8000) m -> Qt Tryz.prog n0 w0 cs0 3 m :=
 lhop (π := []) Qss lg_Lfa_1
theorem lg_Tfal : ∀ X m, Sim Tryz.prog GL n0 w0 cs0 X (Z7t.am 8000) m -> Qt Tryz.prog n0 w0 cs0 3 m :=
 lhop (π := []) Quo lg_Lfa_0
theorem lg_Tfa : ∀ X m, Sim Tryz.prog GL n0 w0 cs0 X (Qs2.am 8000) m -> Qt Tryz.prog n0 w0 cs0 3 m :=
 Qm8 Qoq Qos Qou Qhu (M := 498) (N := 499) (a := pkL) (i := 280) rfl (by omega) rfl (by kernel_rfl) (by kernel_rfl) (by simp [Qs2]) (λ _ => Qpm _) (by kernel_rfl) (by simp [Qs2]) (by simp [Qs2]) (by kernel_rfl) Qun lg_Tfal
theorem lg_Rfat : ∀ X m, Sim Tryz.prog GL n0 w0 cs0 X (Z7w.am 8000) m -> Qt Tryz.prog n0 w0 cs0 3 m :=
 lhop (π := []) Quq lg_Tfa
theorem lg_Rfaf : ∀ X m, Sim Tryz.prog GL n0 w0 cs0 X (Z7x.am 8000) m -> Qt Tryz.prog n0 w0 cs0 3 m :=
 λ _ _ h => Qt.Qls Qoq Qos Qou J6 Que h
theorem lg_Rfa : ∀ X m, Sim Tryz.prog GL n0 w0 cs0 X (Qoz.am 8000) m -> Qt Tryz.prog n0 w0 cs0 3 m :=
 lpart (t := Qoz) (op := .geq) (a := pkL) (b := eL 15) (by kernel_rfl) (by rfl) lg_Rfat lg_Rfaf
theorem lg_Nf0 : ∀ X m, Sim Tryz.prog GL n0 w0 cs0 X ((lNf 0).am 8000) m -> Qt Tryz.prog n0 w0 cs0 3 m :=
 lhop (π := [(299, 1679)]) Z6u lg_Rfa
theorem lg_Mf0 : ∀ X m, Sim Tryz.prog GL n0 w0 cs0 X ((lMf 0).am 8000) m -> Qt Tryz.prog n0 w0 cs0 3 m :=
 lhop (π := []) Z7e lg_Nf0
theorem lg_Bfc0 : ∀ X m, Sim Tryz.prog GL n0 w0 cs0 X ((clF pkL lBf 0).am 8000) m -> Qt Tryz.prog n0 w0 cs0 3 m :=
 lhop (π := []) Qvy lg_Mf0
theorem lg_Nf1 : ∀ X m, Sim Tryz.prog GL n0 w0 cs0 X ((lNf 1).am 8000) m -> Qt Tryz.prog n0 w0 cs0 3 m :=
 lhop (π := [(299, 1696)]) Z6t lg_Rfa
theorem lg_Mf1 : ∀ X m, Sim Tryz.prog GL n0 w0 cs0 X ((lMf 1).am 8000) m -> Qt Tryz.prog n0 w0 cs0 3 m :=
 lhop (π := []) Z7d lg_Nf1
theorem lg_Bfc1 : ∀ X m, Sim Tryz.prog GL n0 w0 cs0 X ((clF pkL lBf 1).am 8000) m -> Qt Tryz.prog n0 w0 cs0 3 m :=
 lhop (π := []) Qvx lg_Mf1
theorem lg_Nf2 : ∀ X m, Sim Tryz.prog GL n0 w0 cs0 X ((lNf 2).am 8000) m -> Qt Tryz.prog n0 w0 cs0 3 m :=
 lhop (π := [(299, 1713)]) Z6s lg_Rfa
theorem lg_Mf2 : ∀ X m, Sim Tryz.prog GL n0 w0 cs0 X ((lMf 2).am 8000) m -> Qt Tryz.prog n0 w0 cs0 3 m :=
 lhop (π := []) Z7c lg_Nf2
theorem lg_Bfc2 : ∀ X m, Sim Tryz.prog GL n0 w0 cs0 X ((clF pkL lBf 2).am 8000) m -> Qt Tryz.prog n0 w0 cs0 3 m :=
 lhop (π := []) Qvw lg_Mf2
theorem lg_Nf3 : ∀ X m, Sim Tryz.prog GL n0 w0 cs0 X ((lNf 3).am 8000) m -> Qt Tryz.prog n0 w0 cs0 3 m :=
 lhop (π := [(299, 1730)]) Z6r lg_Rfa
theorem lg_Mf3 : ∀ X m, Sim Tryz.prog GL n0 w0 cs0 X ((lMf 3).am 8000) m -> Qt Tryz.prog n0 w0 cs0 3 m :=
 lhop (π := []) Z7b lg_Nf3
theorem lg_Bfc3 : ∀ X m, Sim Tryz.prog GL n0 w0 cs0 X ((clF pkL lBf 3).am 8000) m -> Qt Tryz.prog n0 w0 cs0 3 m :=
 lhop (π := []) Qvv lg_Mf3
theorem lg_Nf4 : ∀ X m, Sim Tryz.prog GL n0 w0 cs0 X ((lNf 4).am 8000) m -> Qt Tryz.prog n0 w0 cs0 3 m :=
 lhop (π := [(299, 1747)]) Z6q lg_Rfa
theorem lg_Mf4 : ∀ X m, Sim Tryz.prog GL n0 w0 cs0 X ((lMf 4).am 8000) m -> Qt Tryz.prog n0 w0 cs0 3 m :=
 lhop (π := []) Z7a lg_Nf4
theorem lg_Bfc4 : ∀ X m, Sim Tryz.prog GL n0 w0 cs0 X ((clF pkL lBf 4).am 8000) m -> Qt Tryz.prog n0 w0 cs0 3 m :=
 lhop (π := []) Qvu lg_Mf4
theorem lg_Nf5 : ∀ X m, Sim Tryz.prog GL n0 w0 cs0 X ((lNf 5).am 8000) m -> Qt Tryz.prog n0 w0 cs0 3 m :=
 lhop (π := [(299, 1764)]) Z6p lg_Rfa
theorem lg_Mf5 : ∀ X m, Sim Tryz.prog GL n0 w0 cs0 X ((lMf 5).am 8000) m -> Qt Tryz.prog n0 w0 cs0 3 m :=
 lhop (π := []) Z79 lg_Nf5
theorem lg_Bfc5 : ∀ X m, Sim Tryz.prog GL n0 w0 cs0 X ((clF pkL lBf 5).am 8000) m -> Qt Tryz.prog n0 w0 cs0 3 m :=
 lhop (π := []) Qvt lg_Mf5
theorem lg_Nf6 : ∀ X m, Sim Tryz.prog GL n0 w0 cs0 X ((lNf 6).am 8000) m -> Qt Tryz.prog n0 w0 cs0 3 m :=
 lhop (π := [(299, 1781)]) Z6o lg_Rfa
theorem lg_Mf6 : ∀ X m, Sim Tryz.prog GL n0 w0 cs0 X ((lMf 6).am 8000) m -> Qt Tryz.prog n0 w0 cs0 3 m :=
 lhop (π := []) Z78 lg_Nf6
theorem lg_Bfc6 : ∀ X m, Sim Tryz.prog GL n0 w0 cs0 X ((clF pkL lBf 6).am 8000) m -> Qt Tryz.prog n0 w0 cs0 3 m :=
 lhop (π := []) Qvs lg_Mf6
theorem lg_Nf7 : ∀ X m, Sim Tryz.prog GL n0 w0 cs0 X ((lNf 7).am 8000) m -> Qt Tryz.prog n0 w0 cs0 3 m :=
 lhop (π := [(299, 1798)]) Z6n lg_Rfa
theorem lg_Mf7 : ∀ X m, Sim Tryz.prog GL n0 w0 cs0 X ((lMf 7).am 8000) m -> Qt Tryz.prog n0 w0 cs0 3 m :=
 lhop (π := []) Z77 lg_Nf7
theorem lg_Bfc7 : ∀ X m, Sim Tryz.prog GL n0 w0 cs0 X ((clF pkL lBf 7).am 8000) m -> Qt Tryz.prog n0 w0 cs0 3 m :=
 lhop (π := []) Qvr lg_Mf7
theorem lg_Nf8 : ∀ X m, Sim Tryz.prog GL n0 w0 cs0 X ((lNf 8).am 8000) m -> Qt Tryz.prog n0 w0 cs0 3 m :=
 lhop (π := [(299, 1815)]) Z6m lg_Rfa
theorem lg_Mf8 : ∀ X m, Sim Tryz.prog GL n0 w0 cs0 X ((lMf 8).am 8000) m -> Qt Tryz.prog n0 w0 cs0 3 m :=
 lhop (π := []) Z76 lg_Nf8
theorem lg_Bfc8 : ∀ X m, Sim Tryz.prog GL n0 w0 cs0 X ((clF pkL lBf 8).am 8000) m -> Qt Tryz.prog n0 w0 cs0 3 m :=
 lhop (π := []) Qvq lg_Mf8
theorem lg_Nf9 : ∀ X m, Sim Tryz.prog GL n0 w0 cs0 X ((lNf 9).am 8000) m -> Qt Tryz.prog n0 w0 cs0 3 m :=
 lhop (π := [(299, 1832)]) Z6l lg_Rfa
theorem lg_Mf9 : ∀ X m, Sim Tryz.prog GL n0 w0 cs0 X ((lMf 9).am 8000) m -> Qt Tryz.prog n0 w0 cs0 3 m :=
 lhop (π := []) Z75 lg_Nf9
theorem lg_Bfc9 : ∀ X m, Sim Tryz.prog GL n0 w0 cs0 X ((clF pkL lBf 9).am 8000) m -> Qt Tryz.prog n0 w0 cs0 3 m :=
 lhop (π := []) Qvp lg_Mf9
theorem lg_Nf10 : ∀ X m, Sim Tryz.prog GL n0 w0 cs0 X ((lNf 10).am 8000) m -> Qt Tryz.prog n0 w0 cs0 3 m :=
 lhop (π := [(299, 1849)]) Qv2 lg_Rfa
theorem lg_Mf10 : ∀ X m, Sim Tryz.prog GL n0 w0 cs0 X ((lMf 10).am 8000) m -> Qt Tryz.prog n0 w0 cs0 3 m :=
 lhop (π := []) Qve lg_Nf10
theorem lg_Bfc10 : ∀ X m, Sim Tryz.prog GL n0 w0 cs0 X ((clF pkL lBf 10).am 8000) m -> Qt Tryz.prog n0 w0 cs0 3 m :=
 lhop (π := []) Qtw lg_Mf10
theorem lg_Nf11 : ∀ X m, Sim Tryz.prog GL n0 w0 cs0 X ((lNf 11).am 8000) m -> Qt Tryz.prog n0 w0 cs0 3 m :=
 lhop (π := [(299, 1866)]) Qv1 lg_Rfa
theorem lg_Mf11 : ∀ X m, Sim Tryz.prog GL n0 w0 cs0 X ((lMf 11).am 8000) m -> Qt Tryz.prog n0 w0 cs0 3 m :=
 lhop (π := []) Qvd lg_Nf11
theorem lg_Bfc11 : ∀ X m, Sim Tryz.prog GL n0 w0 cs0 X ((clF pkL lBf 11).am 8000) m -> Qt Tryz.prog n0 w0 cs0 3 m :=
 lhop (π := []) Qtv lg_Mf11
theorem lg_Nf12 : ∀ X m, Sim Tryz.prog GL n0 w0 cs0 X ((lNf 12).am 8000) m -> Qt Tryz.prog n0 w0 cs0 3 m :=
 lhop (π := [(299, 1883)]) Qv0 lg_Rfa
theorem lg_Mf12 : ∀ X m, Sim Tryz.prog GL n0 w0 cs0 X ((lMf 12).am 8000) m -> Qt Tryz.prog n0 w0 cs0 3 m :=
 lhop (π := []) Qvc lg_Nf12
theorem lg_Bfc12 : ∀ X m, Sim Tryz.prog GL n0 w0 cs0 X ((clF pkL lBf 12).am 8000) m -> Qt Tryz.prog n0 w0 cs0 3 m :=
 lhop (π := []) Qtu lg_Mf12
theorem lg_Nf13 : ∀ X m, Sim Tryz.prog GL n0 w0 cs0 X ((lNf 13).am 8000) m -> Qt Tryz.prog n0 w0 cs0 3 m :=
 lhop (π := [(299, 1900)]) Quz lg_Rfa
theorem lg_Mf13 : ∀ X m, Sim Tryz.prog GL n0 w0 cs0 X ((lMf 13).am 8000) m -> Qt Tryz.prog n0 w0 cs0 3 m :=
 lhop (π := []) Qvb lg_Nf13
theorem lg_Bfc13 : ∀ X m, Sim Tryz.prog GL n0 w0 cs0 X ((clF pkL lBf 13).am 8000) m -> Qt Tryz.prog n0 w0 cs0 3 m :=
 lhop (π := []) Qtt lg_Mf13
theorem lg_Nf14 : ∀ X m, Sim Tryz.prog GL n0 w0 cs0 X ((lNf 14).am 8000) m -> Qt Tryz.prog n0 w0 cs0 3 m :=
 lhop (π := [(299, 1917)]) Quy lg_Rfa
theorem lg_Mf14 : ∀ X m, Sim Tryz.prog GL n0 w0 cs0 X ((lMf 14).am 8000) m -> Qt Tryz.prog n0 w0 cs0 3 m :=
 lhop (π := []) Qva lg_Nf14
theorem lg_Bfc14 : ∀ X m, Sim Tryz.prog GL n0 w0 cs0 X ((clF pkL lBf 14).am 8000) m -> Qt Tryz.prog n0 w0 cs0 3 m :=
 lhop (π := []) Qts lg_Mf14
theorem lg_Nf15 : ∀ X m, Sim Tryz.prog GL n0 w0 cs0 X ((lNf 15).am 8000) m -> Qt Tryz.prog n0 w0 cs0 3 m :=
 lhop (π := [(299, 1934)]) Qux lg_Rfa
theorem lg_Mf15 : ∀ X m, Sim Tryz.prog GL n0 w0 cs0 X ((lMf 15).am 8000) m -> Qt Tryz.prog n0 w0 cs0 3 m :=
 lhop (π := []) Qv9 lg_Nf15
theorem lg_Bfc15 : ∀ X m, Sim Tryz.prog GL n0 w0 cs0 X ((clF pkL lBf 15).am 8000) m -> Qt Tryz.prog n0 w0 cs0 3 m :=
 lhop (π := []) Qtr lg_Mf15
theorem lg_Lfb_1 : ∀ X m, Sim Tryz.prog GL n0 w0 cs0 X (Qq0.am 8000) m -> Qt Tryz.prog n0 w0 cs0 3 m :=
 λ _ _ h => Qt.Qls Qoq Qos Qou J6 Qsi h
theorem lg_Lfb_0 : ∀ X m, Sim Tryz.prog GL n0 w0 cs0 X (Qq1.am 8000) m -> Qt Tryz.prog n0 w0 cs0 3 m :=
 lhop (π := []) Qsr lg_Lfb_1
theorem lg_Tfbl : ∀ X m, Sim Tryz.prog GL n0 w0 cs0 X (Z7s.am 8000) m -> Qt Tryz.prog n0 w0 cs0 3 m :=
 lhop (π := []) Qum lg_Lfb_0
theorem lg_Tfb : ∀ X m, Sim Tryz.prog GL n0 w0 cs0 X (Qs1.am 8000) m -> Qt Tryz.prog n0 w0 cs0 3 m :=
 Qm8 Qoq Qos Qou Qhu (M := 498) (N := 499) (a := pkL) (i := 280) rfl (by omega) rfl (by kernel_rfl) (by kernel_rfl) (by simp [Qs1]) (λ _ => Qpm _) (by kernel_rfl) (by simp [Qs1]) (by simp [Qs1]) (by kernel_rfl) Qul lg_Tfbl
theorem lg_Rfb : ∀ X m, Sim Tryz.prog GL n0 w0 cs0 X (Qp3.am 8000) m -> Qt Tryz.prog n0 w0 cs0 3 m :=
 lhop (π := []) Z6a lg_Tfb
theorem lg_Bfc16 : ∀ X m, Sim Tryz.prog GL n0 w0 cs0 X ((clF pkL lBf 16).am 8000) m -> Qt Tryz.prog n0 w0 cs0 3 m :=
 lhop (π := [(299, 256)]) Qtq lg_Rfb
theorem lg_Bfc17 : ∀ X m, Sim Tryz.prog GL n0 w0 cs0 X ((clF pkL lBf 17).am 8000) m -> Qt Tryz.prog n0 w0 cs0 3 m :=
 lhop (π := [(299, 258)]) Qtp lg_Rfb
theorem lg_Bfc18 : ∀ X m, Sim Tryz.prog GL n0 w0 cs0 X ((clF pkL lBf 18).am 8000) m -> Qt Tryz.prog n0 w0 cs0 3 m :=
 lhop (π := [(299, 260)]) Qto lg_Rfb
theorem lg_Bfc19 : ∀ X m, Sim Tryz.prog GL n0 w0 cs0 X ((clF pkL lBf 19).am 8000) m -> Qt Tryz.prog n0 w0 cs0 3 m :=
 lhop (π := [(299, 262)]) Qtn lg_Rfb
theorem lg_Bfc20 : ∀ X m, Sim Tryz.prog GL n0 w0 cs0 X ((clF pkL lBf 20).am 8000) m -> Qt Tryz.prog n0 w0 cs0 3 m :=
 lhop (π := [(299, 264)]) Qtm lg_Rfb
theorem lg_Bfc21 : ∀ X m, Sim Tryz.prog GL n0 w0 cs0 X ((clF pkL lBf 21).am 8000) m -> Qt Tryz.prog n0 w0 cs0 3 m :=
 lhop (π := [(299, 266)]) Qtl lg_Rfb
theorem lg_Bfc22 : ∀ X m, Sim Tryz.prog GL n0 w0 cs0 X ((clF pkL lBf 22).am 8000) m -> Qt Tryz.prog n0 w0 cs0 3 m :=
 lhop (π := [(299, 268)]) Qtk lg_Rfb
theorem lg_Bfc23 : ∀ X m, Sim Tryz.prog GL n0 w0 cs0 X ((clF pkL lBf 23).am 8000) m -> Qt Tryz.prog n0 w0 cs0 3 m :=
 lhop (π := [(299, 270)]) Qtj lg_Rfb
theorem lg_Bfc24 : ∀ X m, Sim Tryz.prog GL n0 w0 cs0 X ((clF pkL lBf 24).am 8000) m -> Qt Tryz.prog n0 w0 cs0 3 m :=
 lhop (π := [(299, 272)]) Qti lg_Rfb
theorem lg_Bfc25 : ∀ X m, Sim Tryz.prog GL n0 w0 cs0 X ((clF pkL lBf 25).am 8000) m -> Qt Tryz.prog n0 w0 cs0 3 m :=
 lhop (π := [(299, 274)]) Qth lg_Rfb
theorem lg_Bfc26 : ∀ X m, Sim Tryz.prog GL n0 w0 cs0 X ((clF pkL lBf 26).am 8000) m -> Qt Tryz.prog n0 w0 cs0 3 m :=
 lhop (π := [(299, 276)]) Qtg lg_Rfb
theorem lg_Bfc27 : ∀ X m, Sim Tryz.prog GL n0 w0 cs0 X ((clF pkL lBf 27).am 8000) m -> Qt Tryz.prog n0 w0 cs0 3 m :=
 lhop (π := [(299, 278)]) Qtf lg_Rfb
theorem lg_Bfc28 : ∀ X m, Sim Tryz.prog GL n0 w0 cs0 X ((clF pkL lBf 28).am 8000) m -> Qt Tryz.prog n0 w0 cs0 3 m :=
 lhop (π := [(299, 280)]) Qte lg_Rfb
theorem lg_Bfc29 : ∀ X m, Sim Tryz.prog GL n0 w0 cs0 X ((clT pkL lBf 29).am 8000) m -> Qt Tryz.prog n0 w0 cs0 3 m :=
 lhop (π := [(299, 282)]) Qtd lg_Rfb
theorem lg_Bf : ∀ X m, Sim Tryz.prog GL n0 w0 cs0 X (lBf.am 8000) m -> Qt Tryz.prog n0 w0 cs0 3 m :=
 Qla (a := pkL) (C := 29) (by kernel_rfl) (λ c hc => match c, hc with
  | 0, _ => lg_Bfc0
  | 1, _ => lg_Bfc1
  | 2, _ => lg_Bfc2
  | 3, _ => lg_Bfc3
  | 4, _ => lg_Bfc4
  | 5, _ => lg_Bfc5
  | 6, _ => lg_Bfc6
  | 7, _ => lg_Bfc7
  | 8, _ => lg_Bfc8
  | 9, _ => lg_Bfc9
  | 10, _ => lg_Bfc10
  | 11, _ => lg_Bfc11
  | 12, _ => lg_Bfc12
  | 13, _ => lg_Bfc13
  | 14, _ => lg_Bfc14
  | 15, _ => lg_Bfc15
  | 16, _ => lg_Bfc16
  | 17, _ => lg_Bfc17
  | 18, _ => lg_Bfc18
  | 19, _ => lg_Bfc19
  | 20, _ => lg_Bfc20
  | 21, _ => lg_Bfc21
  | 22, _ => lg_Bfc22
  | 23, _ => lg_Bfc23
  | 24, _ => lg_Bfc24
  | 25, _ => lg_Bfc25
  | 26, _ => lg_Bfc26
  | 27, _ => lg_Bfc27
  | 28, _ => lg_Bfc28
  | c + 29, h => absurd h (by omega)) lg_Bfc29
theorem lg_s00t : ∀ X m, Sim Tryz.prog GL n0 w0 cs0 X l00t m -> Qt Tryz.prog n0 w0 cs0 3 m :=
 lhop Quf lg_Bt
theorem lg_s00f : ∀ X m, Sim Tryz.prog GL n0 w0 cs0 X l00f m -> Qt Tryz.prog n0 w0 cs0 3 m :=
 lhop Qug lg_Bf
theorem lg_s00 : ∀ X m, Sim Tryz.prog GL n0 w0 cs0 X l00 m -> Qt Tryz.prog n0 w0 cs0 3 m := λ X m h =>
 (Sim.Qe7 h .eql (.pk 2 (.var 21)) (eL 0) (by kernel_rfl) rfl).elim (lg_s00t X m) (lg_s00f X m)
end
theorem limits_told : Qok Tryz.prog errs 3 [rawS, spI] (.lit true) :=
 Qis Qoq errs_ng Qhu Z7y λ h => lg_s00 _ _ h
end Go.Proofs.YtmbajnmaeikceaaGreatDoor
namespace Go.Proofs.YtmbajnmaeikceaaGreatDoor
open Go Go.Proofs
theorem star : "*" ++ "errors.errorString" = "*errors.errorString" := by decide
set_option maxRecDepth 100000 in
theorem rowE (u : TypeId) (h : Tryz.prog.typeName? 3 u = some "*errors.errorString") : u = 665 :=
 typeName_ptr_named (nm := "errors.errorString") (List.all_eq_true.2 λ u hu => row_all u (by rw [List.mem_range, types_n] at hu; exact hu)) (List.all_eq_true.2 λ u hu => name_all u (by rw [List.mem_range, types_n] at hu; exact hu)) (by decide) u (by rw [star]; exact h)
end Go.Proofs.YtmbajnmaeikceaaGreatDoor
namespace Go.Proofs.YtmbajnmaeikceaaGreatDoor
open Go Go.RowKit Go.Proofs
abbrev laidSix : List (String × DataW Unit) := [("stagepost/congestion.errSize", Rows.laid_stagepost_congestion_errSize), ("stagepost/tcpstate.triples", Rows.laid_stagepost_tcpstate_triples), ("stagepost/link.errBroken", Rows.laid_stagepost_link_errBroken), ("stagepost/icmp.errShort", Rows.laid_stagepost_icmp_errShort), ("stagepost/icmp.errKind", Rows.laid_stagepost_icmp_errKind), ("stagepost/dnscache.errInvalid", Rows.laid_stagepost_dnscache_errInvalid), ("internal/strconv.uint64pow10", Rows.laid_internal_strconv_uint64pow10), ("math/bits.deBruijn32tab", Rows.laid_math_bits_deBruijn32tab), ("math/bits.deBruijn64tab", Rows.laid_math_bits_deBruijn64tab), ("unicode/utf8.first", Rows.laid_unicode_utf8_first), ("unicode/utf8.acceptRanges", Rows.laid_unicode_utf8_acceptRanges), ("strconv.ErrSyntax", Rows.laid_strconv_ErrSyntax), ("strconv.ErrRange", Rows.laid_strconv_ErrRange)]
theorem laid_six : (Rows.monitorLimitsRow.laid.filter λ x => x.2.handleName?.isNone) = laidSix := by kernel_rfl
theorem laid_handle : (Rows.monitorLimitsRow.laid.filter λ x => x.2.handleName?.isSome) = [("errors.errorType", Rows.laid_errors_errorType)] := by kernel_rfl
theorem gE0 : Tryz.prog.globalNamed "stagepost/link.errBroken" = some 2 := by kernel_rfl
theorem gE1 : Tryz.prog.globalNamed "stagepost/icmp.errShort" = some 10 := by kernel_rfl
theorem gE2 : Tryz.prog.globalNamed "stagepost/icmp.errKind" = some 11 := by kernel_rfl
theorem gE3 : Tryz.prog.globalNamed "stagepost/congestion.errSize" = some 12 := by kernel_rfl
theorem gE4 : Tryz.prog.globalNamed "stagepost/dnscache.errInvalid" = some 14 := by kernel_rfl
theorem gT0 : (Tryz.prog.globals[2]?).map (·.type) = some 113 := by kernel_rfl
theorem gT1 : (Tryz.prog.globals[10]?).map (·.type) = some 113 := by kernel_rfl
theorem gT2 : (Tryz.prog.globals[11]?).map (·.type) = some 113 := by kernel_rfl
theorem gT3 : (Tryz.prog.globals[12]?).map (·.type) = some 113 := by kernel_rfl
theorem gT4 : (Tryz.prog.globals[14]?).map (·.type) = some 113 := by kernel_rfl
theorem cellsES : Tryz.prog.cellsOf 667 = 1 := by kernel_rfl
theorem cellsStr : Tryz.prog.cellsOf 9 = 1 := by kernel_rfl
theorem spot_of {W : World} {a : Addr} {v : Value} (h : W.cell? a = some v) : a.spot = none /\ a.block < W.heap.size := by
 obtain ⟨b, o, s⟩ := a
 unfold World.cell? at h
 split at h
 . rename_i hb
   cases s with
   | none => exact ⟨rfl, (Array.getElem?_eq_some_iff.1 hb).1⟩
   | some x => simp at h
 . cases h
theorem block_of {W : World} {n : String} {g : Nat} {v : Value} (hs : W.ShapedOpen Tryz.prog) (hg : g < Tryz.prog.globals.size) (h0 : ((begin Tryz.prog (λ _ _ => 0) default).world.heap[g]?).bind Obj.row? = some (#[.nilIface], 113)) (hn : Tryz.prog.globalNamed n = some g) (hv : W.var? Tryz.prog n = some #[v]) :
 ∃ c fr el, W.heap[g]? = some (.cells c el fr) /\ c.size = 1 /\ c[0]? = some v := by
 obtain ⟨cs, h1, h2, -⟩ := hs.1 g #[.nilIface] 113 hg h0
 have h3 : W.cell? ⟨g, 0, none⟩ = some v := by have := World.var?_cell hn hv 0; simpa using this
 refine ⟨cs, (0, 0), _, h1, by simpa using h2, ?_⟩
 unfold World.cell? at h3
 simp only [h1] at h3
 simpa using h3
abbrev triN : List Nat := [0, 1, 1, 0, 2, 2, 1, 3, 3, 1, 2, 2, 1, 5, 0, 2, 4, 3, 2, 5, 4, 2, 6, 6, 3, 5, 4, 3, 6, 6, 4, 7, 5, 4, 6, 7, 5, 6, 9, 6, 5, 8, 7, 7, 9, 8, 7, 0]
abbrev triRows : List (List Int) := [[0, 1, 1], [0, 2, 2], [1, 3, 3], [1, 2, 2], [1, 5, 0], [2, 4, 3], [2, 5, 4], [2, 6, 6], [3, 5, 4], [3, 6, 6], [4, 7, 5], [4, 6, 7], [5, 6, 9], [6, 5, 8], [7, 7, 9], [8, 7, 0]]
theorem triN_at (i n : Nat) (h : triN[i]? = some n) : ∃ r j, i = r * 3 + j /\ r < 16 /\ j < 3 /\ ∃ l, triRows[r]? = some l /\ l[j]? = some (n : Int) := by
 have hall : ∀ i, i < 48 -> ∃ l, triRows[i / 3]? = some l /\ l[i % 3]? = (triN[i]?).map Int.ofNat := by decide
 have hi : i < 48 := by
  rcases Nat.lt_or_ge i 48 with h' | h'
  . exact h'
  . rw [List.getElem?_eq_none (by simpa using h')] at h; cases h
 obtain ⟨l, h1, h2⟩ := hall i hi
 rw [h] at h2
 exact ⟨i / 3, i % 3, by omega, by omega, by omega, l, h1, h2⟩
theorem triples_of {W : World} (h : Lib.VarReads Tryz.prog W "stagepost/tcpstate.triples" Rows.laid_stagepost_tcpstate_triples) :
 ∃ c fr el, W.heap[13]? = some (.cells c el fr) /\ triN.length <= c.size /\ ∀ (i n : Nat), triN[i]? = some n -> c[i]? = some (.int .i64 (n : Int)) := by
 obtain ⟨g, t, cs, fuel, p, hg, hty, hvar, hd⟩ := h
 obtain rfl := Option.some.inj ((show Tryz.prog.globalNamed "stagepost/tcpstate.triples" = some 13 by kernel_rfl).symm.trans hg)
 obtain rfl := Option.some.inj ((show (Tryz.prog.globals[13]?).map (·.type) = some 841 by kernel_rfl).symm.trans hty)
 have c3 : Tryz.prog.cellsOf 840 = 3 := by kernel_rfl
 have c1 : Tryz.prog.cellsOf 3 = 1 := by kernel_rfl
 have hat : ∀ (i n : Nat), triN[i]? = some n -> cs[i]? = some (Value.int .i64 (n : Int)) := λ i n hn => by
  obtain ⟨r, j, rfl, hr, hj, l, hl, hlj⟩ := triN_at i n hn
  have e0 : (Rows.laid_stagepost_tcpstate_triples : DataW Unit) = .agg (triRows.map (Lib.tabData .i64)) := rfl
  rw [e0] at hd
  obtain ⟨fuel', d, q, hdi, he⟩ := Lib.array_elem Tryz.underlying841 hd r hr
  rw [List.getElem?_map, hl] at hdi
  simp only [Option.map_some, Option.some.injEq] at hdi
  subst hdi
  rw [c3] at he
  have hcs := Lib.cells_of_tab Tryz.underlying840 Tryz.underlying3 c1 c3 he
  have e1 := congrArg (·[j]?) hcs
  simp only [List.getElem?_take, List.getElem?_drop, if_pos hj, List.getElem?_map, hlj, Option.map_some] at e1
  rw [<- Array.getElem?_toList]
  exact e1
 have hsz : 48 <= cs.size := by
  have := hat 47 0 rfl
  obtain ⟨h', -⟩ := Array.getElem?_eq_some_iff.1 this
  omega
 unfold World.var? at hvar
 rw [hg] at hvar
 simp only [Option.bind_some] at hvar
 split at hvar
 . rename_i c el fr hh
   cases hvar
   exact ⟨_, _, _, hh, hsz, hat⟩
 . cases hvar
theorem pow_of {W : World} (h : Lib.VarReads Tryz.prog W "internal/strconv.uint64pow10" Rows.laid_internal_strconv_uint64pow10) :
 ∃ c fr el, W.heap[1]? = some (.cells c el fr) /\ Ax.powN.length <= c.size /\ ∀ (i n : Nat), Ax.powN[i]? = some n -> c[i]? = some (.int .u64 (n : Int)) := by
 obtain ⟨g, t, cs, fuel, p, hg, hty, hvar, hd⟩ := h
 obtain rfl := Option.some.inj ((show Tryz.prog.globalNamed "internal/strconv.uint64pow10" = some 1 by kernel_rfl).symm.trans hg)
 obtain rfl := Option.some.inj ((show (Tryz.prog.globals[1]?).map (·.type) = some 430 by kernel_rfl).symm.trans hty)
 have c1 : Tryz.prog.cellsOf 308 = 1 := by kernel_rfl
 have c20 : Tryz.prog.cellsOf 430 = 20 := by kernel_rfl
 have e0 : (Rows.laid_internal_strconv_uint64pow10 : DataW Unit) = Lib.tabData .u64 (Ax.powN.map Int.ofNat) := rfl
 rw [e0] at hd
 have hcs := Lib.cells_of_tab Tryz.underlying430 Tryz.underlying308 c1 c20 hd
 have hat : ∀ (i n : Nat), Ax.powN[i]? = some n -> cs[i]? = some (Value.int .u64 (n : Int)) := λ i n hn => by
  rw [<- Array.getElem?_toList, hcs, List.getElem?_map, List.getElem?_map, hn]
  rfl
 have hsz : Ax.powN.length <= cs.size := by
  have := congrArg List.length hcs
  simp only [Array.length_toList, List.length_map] at this
  omega
 unfold World.var? at hvar
 rw [hg] at hvar
 simp only [Option.bind_some] at hvar
 split at hvar
 . rename_i c el fr hh
   cases hvar
   exact ⟨_, _, _, hh, hsz, hat⟩
 . cases hvar
theorem laid_first {W : World} (h : laidMetH Tryz.prog Rows.monitorLimitsRow.laid W) (hs : W.ShapedOpen Tryz.prog) : ∃ A N, Ax.Laid errs A N W := by
 have h0 := (laidMetH_iff.1 h).1
 rw [laid_six] at h0
 have h1 := h0.tail
 have h2 := h1.tail
 have h3 := h2.tail
 have h4 := h3.tail
 have h5 := h4.tail
 obtain ⟨a0, s0, v0, c0, -, -⟩ := laid_sentinel h2 gE0 gT0 Tryz.underlying113 rowE Tryz.underlying665 Tryz.underlying667 rfl rfl Tryz.underlying9 cellsES cellsStr
 obtain ⟨a1, s1, v1, c1, -, -⟩ := laid_sentinel h3 gE1 gT1 Tryz.underlying113 rowE Tryz.underlying665 Tryz.underlying667 rfl rfl Tryz.underlying9 cellsES cellsStr
 obtain ⟨a2, s2, v2, c2, -, -⟩ := laid_sentinel h4 gE2 gT2 Tryz.underlying113 rowE Tryz.underlying665 Tryz.underlying667 rfl rfl Tryz.underlying9 cellsES cellsStr
 obtain ⟨a3, s3, v3, c3, -, -⟩ := laid_sentinel h0 gE3 gT3 Tryz.underlying113 rowE Tryz.underlying665 Tryz.underlying667 rfl rfl Tryz.underlying9 cellsES cellsStr
 obtain ⟨a4, s4, v4, c4, -, -⟩ := laid_sentinel h5 gE4 gT4 Tryz.underlying113 rowE Tryz.underlying665 Tryz.underlying667 rfl rfl Tryz.underlying9 cellsES cellsStr
 obtain ⟨cp, frp, elp, u1, u2, u3⟩ := pow_of (Lib.laidMet.reads h0 (n := "internal/strconv.uint64pow10") (d := Rows.laid_internal_strconv_uint64pow10) (by simp))
 obtain ⟨ct, frt, elt, t1, t2, t3⟩ := triples_of (Lib.laidMet.reads h0 (n := "stagepost/tcpstate.triples") (d := Rows.laid_stagepost_tcpstate_triples) (by simp))
 obtain ⟨p0, q0⟩ := spot_of c0
 obtain ⟨p1, q1⟩ := spot_of c1
 obtain ⟨p2, q2⟩ := spot_of c2
 obtain ⟨p3, q3⟩ := spot_of c3
 obtain ⟨p4, q4⟩ := spot_of c4
 obtain ⟨o8, -, h8, -, -⟩ := hs.2 15 (of_decide_eq_true (by kernel_rfl)) (of_decide_eq_true (by kernel_rfl))
 have hsz : 16 <= W.heap.size := (Array.getElem?_eq_some_iff.1 h8).1
 refine ⟨λ b => match b with | 16 => a0 | 17 => a1 | 18 => a2 | 19 => a3 | _ => a4, λ b => if b = 13 then ct.size else if b = 1 then cp.size else 1, ⟨λ e he => ?_, λ b h1 h2 => ?_, hsz, λ q hq => ?_⟩⟩
 . simp only [errs, List.mem_cons, List.not_mem_nil, or_false] at he
   rcases he with rfl | rfl | rfl | rfl | rfl
   . exact ⟨by decide, by decide, by decide, Nat.one_pos, p0, block_of hs (of_decide_eq_true (by kernel_rfl)) (by kernel_rfl) gE0 v0⟩
   . exact ⟨by decide, by decide, by decide, Nat.one_pos, p1, block_of hs (of_decide_eq_true (by kernel_rfl)) (by kernel_rfl) gE1 v1⟩
   . exact ⟨by decide, by decide, by decide, Nat.one_pos, p2, block_of hs (of_decide_eq_true (by kernel_rfl)) (by kernel_rfl) gE2 v2⟩
   . exact ⟨by decide, by decide, by decide, Nat.one_pos, p3, block_of hs (of_decide_eq_true (by kernel_rfl)) (by kernel_rfl) gE3 v3⟩
   . exact ⟨by decide, by decide, by decide, Nat.one_pos, p4, block_of hs (of_decide_eq_true (by kernel_rfl)) (by kernel_rfl) gE4 v4⟩
 . have h1' : 16 <= b := h1
   have h2' : b < 21 := h2
   have : b = 16 \/ b = 17 \/ b = 18 \/ b = 19 \/ b = 20 := by omega
   rcases this with rfl | rfl | rfl | rfl | rfl
   . exact q0
   . exact q1
   . exact q2
   . exact q3
   . exact q4
 . simp only [errs, List.mem_cons, List.not_mem_nil, or_false] at hq
   rcases hq with rfl | rfl
   . exact ⟨by decide, cp, frp, elp, u1, rfl, u2, u3⟩
   . exact ⟨by decide, ct, frt, elt, t1, rfl, t2, t3⟩
end Go.Proofs.YtmbajnmaeikceaaGreatDoor
namespace Go.Proofs.YtmbajnmaeikceaaGreatDoor
open Go Go.RowKit Go.Proofs
def lay (g : Nat) (cs : Array Value) (h : Array Obj) : Array Obj := h.modify g λ
 | .cells _ t fr => .cells cs t fr
 | o => o
def numsOf {H : Type} : DataW H -> List Value
 | .agg l => l.map λ | .lit (.int k n) => Value.int k n | _ => undef
 | _ => []
def pairsOf {H : Type} : DataW H -> List Value
 | .agg l => (l.map numsOf).flatten
 | _ => []
def textOf {H : Type} : DataW H -> ByteArray
 | .iface _ (.ptr (.agg [.lit (.string bs)])) => ⟨bs.toArray⟩
 | _ => ⟨#[]⟩
noncomputable def low : Nat := (World.holding Tryz.prog default ⟨#[], #[], []⟩).heap.size
noncomputable def laidHeap (h : Array Obj) : Array Obj :=
 lay 2 #[.iface 665 (.pointer (some ⟨low, 0, none⟩))]
 (lay 10 #[.iface 665 (.pointer (some ⟨low + 1, 0, none⟩))]
 (lay 11 #[.iface 665 (.pointer (some ⟨low + 2, 0, none⟩))]
 (lay 12 #[.iface 665 (.pointer (some ⟨low + 3, 0, none⟩))]
 (lay 14 #[.iface 665 (.pointer (some ⟨low + 4, 0, none⟩))]
 (lay 13 (pairsOf (H := Unit) Rows.laid_stagepost_tcpstate_triples).toArray
 (lay 1 (numsOf (H := Unit) Rows.laid_internal_strconv_uint64pow10).toArray
 (lay 6 (numsOf (H := Unit) Rows.laid_math_bits_deBruijn32tab).toArray
 (lay 7 (numsOf (H := Unit) Rows.laid_math_bits_deBruijn64tab).toArray
 (lay 8 (numsOf Rows.laid_unicode_utf8_first).toArray
 (lay 9 (pairsOf (H := Unit) Rows.laid_unicode_utf8_acceptRanges).toArray
 (lay 3 #[.iface 665 (.pointer (some ⟨low + 5, 0, none⟩))]
 (lay 4 #[.iface 665 (.pointer (some ⟨low + 6, 0, none⟩))]
 (lay 5 #[.iface 674 (.agg #[typeHandle Tryz.prog 113])] h)))))))))))))
noncomputable def laidWorld (os : Os) : World :=
 let w0 := World.holding Tryz.prog os ⟨#[.cells #[.string (textOf (H := Unit) Rows.laid_stagepost_link_errBroken)] 667, .cells #[.string (textOf (H := Unit) Rows.laid_stagepost_icmp_errShort)] 667, .cells #[.string (textOf (H := Unit) Rows.laid_stagepost_icmp_errKind)] 667, .cells #[.string (textOf (H := Unit) Rows.laid_stagepost_congestion_errSize)] 667, .cells #[.string (textOf (H := Unit) Rows.laid_stagepost_dnscache_errInvalid)] 667, .cells #[.string (textOf (H := Unit) Rows.laid_strconv_ErrSyntax)] 667, .cells #[.string (textOf (H := Unit) Rows.laid_strconv_ErrRange)] 667], #[], []⟩
 { w0 with heap := laidHeap w0.heap }
set_option maxRecDepth 100000 in
theorem lay_handle (os : Os) (args : Array Value) : ([("errors.errorType", Rows.laid_errors_errorType)] : List (String × DataW Unit)).all (handleAtB Tryz.prog ((laidWorld os).forCall (λ _ _ => 0) ⟨#[], args, []⟩).memory) = true := by kernel_rfl
set_option maxRecDepth 100000 in
theorem lay_six (os : Os) (args : Array Value) : laidMet Tryz.prog laidSix ((laidWorld os).forCall (λ _ _ => 0) ⟨#[], args, []⟩).memory :=
 laidMet_of_run' 8 (by kernel_rfl) (by kernel_rfl)
theorem laid_met (os : Os) (args : Array Value) : laidMetH Tryz.prog Rows.monitorLimitsRow.laid ((laidWorld os).forCall (λ _ _ => 0) ⟨#[], args, []⟩).memory := by
 refine laidMetH_iff.2 ⟨?_, ?_⟩
 . rw [laid_six]
   exact lay_six os args
 . rw [laid_handle]
   exact handlesMet_of_B (lay_handle os args)
end Go.Proofs.YtmbajnmaeikceaaGreatDoor
namespace Go.Proofs.YtmbajnmaeikceaaGreatDoor
open Go
theorem tie' : Tryz.prog.laidByTextLater laidAll Qp4 true :=
 Program.laidByTextLater_by_run_h 400 8 Qwp Qwo Qwn Qwm Qwl Qwk Qwg Qwj Qwi Qwh
abbrev laidEvery : List (String × DataW Unit) := [("errors.errorType", Rows.laid_errors_errorType), ("stagepost/congestion.errSize", Rows.laid_stagepost_congestion_errSize), ("stagepost/tcpstate.triples", Rows.laid_stagepost_tcpstate_triples), ("stagepost/link.errBroken", Rows.laid_stagepost_link_errBroken), ("stagepost/icmp.errShort", Rows.laid_stagepost_icmp_errShort), ("stagepost/icmp.errKind", Rows.laid_stagepost_icmp_errKind), ("stagepost/dnscache.errInvalid", Rows.laid_stagepost_dnscache_errInvalid), ("internal/strconv.uint64pow10", Rows.laid_internal_strconv_uint64pow10), ("math/bits.deBruijn32tab", Rows.laid_math_bits_deBruijn32tab), ("math/bits.deBruijn64tab", Rows.laid_math_bits_deBruijn64tab), ("unicode/utf8.first", Rows.laid_unicode_utf8_first), ("unicode/utf8.acceptRanges", Rows.laid_unicode_utf8_acceptRanges), ("strconv.ErrSyntax", Rows.laid_strconv_ErrSyntax), ("strconv.ErrRange", Rows.laid_strconv_ErrRange)]
abbrev laidKindsEvery : List LaidKind := [.handle, .sentinel, .data, .sentinel, .sentinel, .sentinel, .sentinel, .data, .data, .data, .pinned, .data, .sentinel, .sentinel]
theorem pin_first : Tryz.pinned.checked.prog.pinnedFits "unicode/utf8.first" = true := by kernel_rfl
theorem fits_all : Tryz.pinned.checked.prog.listedFits laidEvery = true := by
 unfold Program.listedFits
 rw [show Tryz.pinned.checked.prog.headLifts.contains "ownunsafe" = false from Qpp]
 kernel_rfl
theorem row_tie' : Rows.monitorLimitsRow.laidByTextAt .later Tryz.pinned laidKindsEvery true :=
 OpenClaim.laidByTextAt_pinned rfl rfl tie' rfl rfl rfl rfl (λ y hy _e => by
  simp only [Rows.monitorLimitsRow, List.zip_cons_cons, List.zip_nil_right, List.mem_cons, List.mem_nil_iff, or_false] at hy
  rcases hy with rfl | rfl | rfl | rfl | rfl | rfl | rfl | rfl | rfl | rfl | rfl | rfl | rfl | rfl
  . cases _e
  . cases _e
  . cases _e
  . cases _e
  . cases _e
  . cases _e
  . cases _e
  . cases _e
  . cases _e
  . cases _e
  . exact ⟨pin_first, by kernel_rfl⟩
  . cases _e
  . cases _e
  . cases _e) fits_all
end Go.Proofs.YtmbajnmaeikceaaGreatDoor
namespace Go.Proofs.YtmbajnmaeikceaaGreatDoor
open Go.ChangeShapes Go.WideShapes Go.ChangeAt Go.RowKit Go.Joins
theorem own : ownKnob Tryz.prog.godebug = none := by kernel_rfl
section
variable {H : Type} {enc : TypeId × Value -> H} {P : Program}
theorem post_of_below {f : Func} {s : ChangeSpec} {apart fresh handsOn again : Bool} {W W' : World} {args : Array Value} {v : Value} {ds gs : List (DataW H)} {before pa pv : List MemPlace}
 (hW : DataW.Whole enc P f.params.toList s.vars apart W args.toList ds gs before)
 (hres : ∀ (b : Nat) (sp : Nat -> Bool) (hd : Bool), DataW.TrodAll enc P W' b sp hd f.resultTypes.toList (v.resultList f.resultTypes.size) (s.fn H (ds ++ gs)).results [])
 (hargs : ∀ sp : Nat -> Bool, (∀ p ∈ before, sp p.block = true) -> DataW.TrodAll enc P W' 0 sp true f.params.toList args.toList (s.fn H (ds ++ gs)).args pa)
 (hvars : ∀ sp : Nat -> Bool, (∀ p ∈ before, sp p.block = true) -> DataW.TrodVars enc P W' sp s.vars (s.fn H (ds ++ gs)).vars pv)
 (hps : before = pa ++ pv) (hb : Below W.heap.size W W')
 (hok : ∀ (j : Nat) (t : TypeId) (r : Value), f.resultTypes[j]? = some t -> (v.resultList f.resultTypes.size)[j]? = some r -> Value.okWide P W' .any 0 t r) :
 s.post enc P f apart fresh handsOn again W args v W' := by
 have hlt : ∀ p ∈ before, p.block < W.heap.size := λ p hp => hW.lt p hp
 have hold : ∀ p ∈ before, (λ b => decide (b < W.heap.size)) p.block = true := λ p hp => by simpa using hlt p hp
 refine ⟨ds, gs, before, [], pa, pv, hW, hres _ _ _, hargs _ hold, hvars _ hold, World.keptBut_mono (λ p hp => ⟨hp, ?_⟩) (hb.frame (. ∈ before)), λ _ => ?_⟩
 . rw [hps, List.mem_append] at hp
   exact Or.inr hp
 . obtain ⟨_, _, _, _, _, hz, hn⟩ := hW
   refine ⟨hok, _, _, ([] ++ pa) ++ pv, ⟨[] ++ pa, pv, trodAll_append (hargs _ (λ _ _ => rfl)) (hres _ _ _), hvars _ (λ _ _ => rfl), rfl, ?_, ?_⟩, ?_⟩
   . intro b off hp
     have hin : MemPlace.cell b off ∈ before := by rw [hps]; simpa using hp
     rw [hb.frozen (hlt _ hin)]
     exact hz b off hin
   . intro ha
     have := hn ha
     rw [hps] at this
     simpa using this
   . intro p hp _
     rw [hps]
     simpa using hp
end
section
variable {H : Type} {enc : TypeId × Value -> H} {W : World}
theorem stays {t : TypeId} {W' : World} {sp' : Nat -> Bool} {v : Value} {d : DataW H} {ps before : List MemPlace} (hr : Tryz.prog.readableRec t = true) (hrow : t < Tryz.prog.types.size) (h : DataW.Trod enc Tryz.prog W 0 (λ _ => true) true t v d ps) (hb : Below W.heap.size W W') (hlt : ∀ x ∈ ps, x.block < W.heap.size) (hin : ∀ x ∈ ps, x ∈ before) (hs : ∀ p ∈ before, sp' p.block = true) : DataW.Trod enc Tryz.prog W' 0 sp' true t v d ps :=
 WideElems.Trod_stays Qpx hr hrow h (λ x hx => hb.same (hlt x hx)) (λ x hx => hs x (hin x hx))
end
theorem raw_cells : Tryz.prog.cellTypes Tryz.prog.depth 23 = some [3, 3, 3, 3, 3] := by kernel_rfl
theorem raw_size : Tryz.prog.cellsOf 23 = 5 := by kernel_rfl
section
variable {v : Value} {base : Nat} {W : World}
set_option maxRecDepth 100000 in
theorem raw_has (h : Value.okWide Tryz.prog W .any base 23 v) : rawS.has v :=
 Ax.Qks h Tryz.underlying23 raw_cells raw_size (by kernel_rfl)
set_option maxRecDepth 100000 in
theorem int_has (h : Value.okWide Tryz.prog W .any base 3 v) : Ax.spI.has v := by
 have h' : Cell.okWide Tryz.prog W .any base 3 v := by
  unfold Value.okWide at h
  rw [Tryz.underlying3] at h
  exact h
 exact Ax.Q8x h' (show Ax.spTy Tryz.prog 3 = some Ax.spI by kernel_rfl)
end
namespace monitorLimits
open Go.ChangeMaps (open_string shut_string)
set_option maxRecDepth 100000 in
set_option maxHeartbeats 1000000 in
theorem contract (H : Type) (enc : TypeId × Value -> H) (W : World) (base : Nat) (args : Array Value) (ds gs : List (DataW H)) (before : List MemPlace)
 (hval : ∀ (j : Nat) t v, Tryz.f3.params[j]? = some t -> args[j]? = some v -> Value.okWide Tryz.prog W .any base t v)
 (hW : DataW.Whole enc Tryz.prog Tryz.f3.params.toList Rows.monitorLimitsSpec.vars false W args.toList ds gs before) (hL : laidMetH Tryz.prog Rows.monitorLimitsRow.laid W) (hS : W.ShapedOpen Tryz.prog) :
 Calls Tryz.prog 3 args W λ e W' => ∃ v, e = .returned v /\ Rows.monitorLimitsSpec.post enc Tryz.prog Tryz.f3 false true false false W args v W' := by
 obtain ⟨A, N0, hok⟩ := laid_first hL hS
 have hW' := hW
 obtain ⟨p, q, hA0, hV, rfl, hfz, hnd⟩ := hW
 have hA : DataW.TrodAll enc Tryz.prog W 0 (λ _ => true) true Tryz.f3.params.toList args.toList ds p := hA0
 rw [Tryz.params3] at hA hval
 obtain ⟨v0, vs0, d0, ds0, p0, q0, hargs, rfl, rfl, h0, r0⟩ := trodAll_cons hA
 obtain ⟨v1, vs1, d1, ds1, p1, q1, rfl, rfl, rfl, h1, r1⟩ := trodAll_cons r0
 obtain ⟨rfl, rfl, rfl⟩ := trodAll_nil r1
 obtain rfl : args = #[v0, v1] := by cases args; simp_all
 obtain ⟨rfl, rfl⟩ := trodVars_none hV
 have hlt := hW'.lt
 have g0 := raw_has (hval 0 23 v0 rfl rfl)
 have g1 := int_has (hval 1 3 v1 rfl rfl)
 clear hA0
 refine (limits_told W A _ #[v0, v1] hok (by simp only [Ax.Sp.Q80]; exact ⟨v0, [v1], rfl, g0, v1, [], rfl, g1, rfl⟩)).mono λ e W' ⟨u, he, hu, hb⟩ => ?_
 simp only [Ax.Sp.has] at hu
 subst hu
 subst he
 exact ⟨_, rfl, post_of_below (pa := (p0 ++ (p1 ++ []))) (pv := []) hW' (λ _ _ _ => trodAll_cons_mk (shut_bool Tryz.underlying4 _) trodAll_mk0) (λ _ hsp => (trodAll_cons_mk (stays (before := _) (by kernel_rfl) (of_decide_eq_true (by kernel_rfl)) h0 hb (λ x hx => hlt x (by simp [hx])) (λ x hx => by simp [hx]) hsp) (trodAll_cons_mk (stays (before := _) (by kernel_rfl) (of_decide_eq_true (by kernel_rfl)) h1 hb (λ x hx => hlt x (by simp [hx])) (λ x hx => by simp [hx]) hsp) trodAll_mk0))) (λ _ _ => rfl) (by simp) hb (ok_one (by kernel_rfl) rfl (okWide_bool_mk Tryz.underlying4 _))⟩
abbrev zeroArgs : Array Value := #[.agg #[.int .i64 0, .int .i64 0, .int .i64 0, .int .i64 0, .int .i64 0], .int .i64 0]
abbrev zeroData {H : Type} : List (DataW H) := [.agg [.lit (.int .i64 0), .lit (.int .i64 0), .lit (.int .i64 0), .lit (.int .i64 0), .lit (.int .i64 0)], .lit (.int .i64 0)]
set_option maxRecDepth 100000 in
theorem reads (os : Os) {H : Type} (enc : TypeId × Value -> H) : ∃ places, DataW.whole enc Tryz.prog ((laidWorld os).forCall (λ _ _ => 0) ⟨#[], zeroArgs, []⟩).memory Tryz.f3.params.toList Rows.monitorLimitsSpec.vars false zeroArgs.toList 8 = some (zeroData, [], places) :=
 ⟨[], by kernel_rfl⟩
set_option maxRecDepth 100000 in
theorem lifted (os : Os) (started : os.Started) (H : Type) (enc : TypeId × Value -> H) (F : Stop.Interp) :
 ReturnsInHanded {} Tryz.checked os 3 .any ((OpenSpec.ofChange Rows.monitorLimitsSpec).preRow enc Tryz.prog Tryz.f3 Rows.monitorLimitsRow.domain false Rows.monitorLimitsRow.laid) (((OpenSpec.ofChange Rows.monitorLimitsSpec).at F).post enc Tryz.prog Tryz.f3 false true false false) := by
 obtain ⟨places, hx⟩ := reads os enc
 refine returnsInHanded_of_row (C := Tryz.checked) (s := OpenSpec.ofChange Rows.monitorLimitsSpec) own started Qw6 Tryz.func3
  (witness_row_at (enc := enc) (C := Tryz.checked) false (laidWorld os) zeroArgs rfl (by kernel_rfl) (by kernel_rfl) (by kernel_rfl)
   (OpenSpec.preRow_of_cond 8 hx (by kernel_rfl) (λ k hk => by cases hk) (by kernel_rfl) (laid_met os _))) ?_
 intro W base args ds gs before hval hW _ _ _ hL hS _
 exact contract H enc W base args ds gs before hval hW hL hS
set_option maxRecDepth 100000 in
theorem said : Rows.MonitorLimitsSaid :=
 OpenClaim.holds_of_cond 3 Tryz.f3 rfl rfl rfl rfl rfl rfl rfl ⟨rfl, rfl, rfl, rfl, rfl⟩ rfl rfl rfl rfl rfl Qs9 Tryz.func3 joined
  (of_decide_eq_true (by kernel_rfl)) (by unfold Func.isWrapper; first | (rw [if_pos (by decide +kernel)]; kernel_rfl) | (rw [if_neg (by decide +kernel)]; exact ⟨rfl, rfl⟩))
  (λ os started H enc _ F => by rw [OpenClaim.pre_eq_preRow]; exact lifted os started H enc F)
set_option maxRecDepth 100000 in
theorem plain (f : FuncId) (fn : Func) (hf : Tryz.pinned.checked.prog.funcNamed "stagepost/stagepostlaw28.MonitorLimits" = some f) (hfn : Tryz.pinned.checked.prog.funcs[f]? = some fn) :
 true = Tryz.pinned.checked.prog.looks [] /\ ∀ (j : Nat) t, fn.params[j]? = some t -> Tryz.pinned.checked.prog.wantsStandIn t = false := by
 obtain rfl : f = 3 := Option.some.inj (Qs9.symm.trans hf) |>.symm
 obtain rfl : fn = Tryz.f3 := (Option.some.inj (Tryz.func3.symm.trans hfn)).symm
 refine ⟨Qw4, λ j t ht => ?_⟩
 rw [Tryz.params3] at ht
 have hm := Array.mem_of_getElem? ht
 simp only [List.mem_toArray, List.mem_cons, List.not_mem_nil, or_false] at hm
 rcases hm with rfl | rfl
 . exact (show Tryz.prog.wantsStandIn 23 = false by kernel_rfl)
 . exact (show Tryz.prog.wantsStandIn 3 = false by kernel_rfl)
set_option maxRecDepth 100000 in
theorem card : Rows.MonitorLimitsCardSaid :=
 Claim7.holds_tied_plain_at .later [] _ _ _ _ said (λ _ h => by cases h) Qty (λ _ h => by cases h) row_tie' rfl ⟨rfl, rfl⟩ Qu4 rfl plain Qwa
end monitorLimits
end Go.Proofs.YtmbajnmaeikceaaGreatDoor
