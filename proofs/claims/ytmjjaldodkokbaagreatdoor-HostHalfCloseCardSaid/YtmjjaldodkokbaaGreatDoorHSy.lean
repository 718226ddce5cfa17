/-
 The laws' fixed scenario, explored at the first memory: it comes to true. Conditions: none.
-/
import Derived.Test.YtmjjaldodkokbaaGreatDoorHGa
import Derived.Test.YtmjjaldodkokbaaGreatDoorHRg
import Derived.Test.YtmjjaldodkokbaaGreatDoorHAxG
namespace Go.Proofs.YtmjjaldodkokbaaGreatDoor
open Go Go.Ax Go.RowKit Go.Proofs
theorem Qfp : Qe8 GB errs 5 [] (.lit true) 1000 200 17 3 [] = true := by kernel_rfl
theorem Qcy : Qhi Tryz.prog errs 5 [] (.lit true) :=
 yT (G := GB) Qok Qp1 (Q97 Q98) Q8i Q47 Qfp
end Go.Proofs.YtmjjaldodkokbaaGreatDoor
namespace Go.Proofs.YtmjjaldodkokbaaGreatDoor
open Go Go.Ax Go.RowKit Go.Proofs
theorem Qia : Qi5 Tryz.prog 339 :=
 ⟨λ bx br n rd nx m a w c t l h0 h1 h2 hf hr hc hm hmx hnx hrd hn hl hcell hbx hnb ha => by
  rcases ha with rfl | ⟨hgt, hav⟩
  . exact Qfg bx br n rd nx m w c t l h0 h1 h2 hf hr hc hm hmx hnx hrd hn hl hcell hbx hnb
  . exact Qce bx br n rd nx m a w c t l h0 h1 h2 hf hr hc hm hmx hnx hrd hn hl hcell hbx hnb hgt hav,
  λ bx rd nx a w h1 h2 hle hnb hmin => take_zero bx rd nx a w h1 h2 hle hnb hmin⟩
noncomputable def Qkr : List (Nat × Sum) := (5, sumE errs [] (.lit true)) :: (646, Q8f) :: (339, Q7n) :: (27, Q7o) :: Qic
theorem Qfh : Qf9 Tryz.prog tab Qkr :=
 .cons (λ _ _ h => Qie (Q8i.trans (congrArg Tab.ng h.symm)) Q47 Qjq Qcy) Tryz.call5 <|
 .cons (λ _ _ _ => Qbp λ bx br n off s w c t a b d e f g => Qgo bx br n off s w c t a b d e f g) Tryz.call646 <|
 .cons (λ _ _ _ => Qar Qia) Tryz.call339 <|
 .cons (λ _ _ h => Qau (by rw [h]; exact Nat.lt_of_lt_of_eq Q47 Q8i) λ z n w hn => Qav z n w hn) Tryz.call27 Q98
noncomputable def GF : Env := ⟨tab, ifs, Qcg Qkr⟩
theorem Qm3 {n0 : Nat} : ZC Tryz.prog GF n0 := Q97 Qfh n0
end Go.Proofs.YtmjjaldodkokbaaGreatDoor
