/-
 The laws' fixed scenario, explored at the first memory: it comes to true. Conditions: none.
-/
import Derived.Test.YtfjdakmmffedkaaGreatDoorGGa
import Derived.Test.YtfjdakmmffedkaaGreatDoorGRg
import Derived.Test.YtfjdakmmffedkaaGreatDoorGAxG
namespace Go.Proofs.YtfjdakmmffedkaaGreatDoor
open Go Go.Ax Go.RowKit Go.Proofs
theorem Qex : Qde GB errs 5 [] (.lit true) 1000 200 17 3 [] = true := by kernel_rfl
theorem Qca : Qjf Tryz.prog errs 5 [] (.lit true) :=
 yB (G := GB) Qmm Qn7 (Q8p Q8q) Q80 Q3q Qex
end Go.Proofs.YtfjdakmmffedkaaGreatDoor
namespace Go.Proofs.YtfjdakmmffedkaaGreatDoor
open Go Go.Ax Go.RowKit Go.Proofs
theorem Qhh : Qhc Tryz.prog 323 :=
 ⟨λ bx br n rd nx m a w c t l h0 h1 h2 hf hr hc hm hmx hnx hrd hn hl hcell hbx hnb ha => by
  rcases ha with rfl | ⟨hgt, hav⟩
  . exact Qen bx br n rd nx m w c t l h0 h1 h2 hf hr hc hm hmx hnx hrd hn hl hcell hbx hnb
  . exact Qbr bx br n rd nx m a w c t l h0 h1 h2 hf hr hc hm hmx hnx hrd hn hl hcell hbx hnb hgt hav,
  λ bx rd nx a w h1 h2 hle hnb hmin => take_zero bx rd nx a w h1 h2 hle hnb hmin⟩
noncomputable def Qjy : List (Nat × Sum) := (5, sumE errs [] (.lit true)) :: (630, Q7x) :: (323, Q76) :: (9, Q77) :: Qhj
theorem Qeo : Qeh Tryz.prog tab Qjy :=
 .cons (λ _ _ h => Qhl (Q80.trans (congrArg Tab.ng h.symm)) Q3q Qiw Qca) Tryz.call5 <|
 .cons (λ _ _ _ => Qb3 λ bx br n off s w c t a b d e f g => Qfx bx br n off s w c t a b d e f g) Tryz.call630 <|
 .cons (λ _ _ _ => Qa7 Qhh) Tryz.call323 <|
 .cons (λ _ _ h => Qa9 (by rw [h]; exact Nat.lt_of_lt_of_eq Q3q Q80) λ z n w hn => Qaa z n w hn) Tryz.call9 Q8q
noncomputable def GF : Env := ⟨tab, ifs, Qbt Qjy⟩
theorem Ql8 {n0 : Nat} : Yq Tryz.prog GF n0 := Q8p Qeo n0
end Go.Proofs.YtfjdakmmffedkaaGreatDoor
