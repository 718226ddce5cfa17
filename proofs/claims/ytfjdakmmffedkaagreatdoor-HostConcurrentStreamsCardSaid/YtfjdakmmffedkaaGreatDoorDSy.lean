/-
  The laws' fixed scenario, explored at the first memory: it comes to true. Conditions: none.
-/
import Derived.Test.YtfjdakmmffedkaaGreatDoorDGa
import Derived.Test.YtfjdakmmffedkaaGreatDoorDRg
import Derived.Test.YtfjdakmmffedkaaGreatDoorDAxG
namespace Go.Proofs.YtfjdakmmffedkaaGreatDoor
open Go Go.Ax Go.RowKit Go.Proofs
theorem sane_run : firstP GB errs 5 [] (.lit true) 1000 200 17 3 [] = true := by kernel_rfl
theorem sane_told : ToldE Tryz.prog errs 5 [] (.lit true) :=
  toldE_of_firstP (G := GB) tab_right ifs_right (sumsL_ok sumsB_ok) errs_ng errs_pos sane_run
end Go.Proofs.YtfjdakmmffedkaaGreatDoor
namespace Go.Proofs.YtfjdakmmffedkaaGreatDoor
open Go Go.Ax Go.RowKit Go.Proofs
theorem take_ok : TakeOK Tryz.prog 323 :=
  ⟨fun bx br n rd nx m a w c t l h0 h1 h2 hf hr hc hm hmx hnx hrd hn hl hcell hbx hnb ha => by
    rcases ha with rfl | ⟨hgt, hav⟩
    · exact take_any bx br n rd nx m w c t l h0 h1 h2 hf hr hc hm hmx hnx hrd hn hl hcell hbx hnb
    · exact take_more bx br n rd nx m a w c t l h0 h1 h2 hf hr hc hm hmx hnx hrd hn hl hcell hbx hnb hgt hav,
   fun bx rd nx a w h1 h2 hle hnb hmin => take_zero bx rd nx a w h1 h2 hle hnb hmin⟩
noncomputable def sumsF : List (Nat × Sum) := (5, sumE errs [] (.lit true)) :: (630, fillSum) :: (323, takeSum) :: (9, strmSum) :: sumsB
theorem sumsF_ok : AllS Tryz.prog tab sumsF :=
  .cons (fun _ _ h => sumE_ok (errs_ng.trans (congrArg Tab.ng h.symm)) errs_pos errs_in sane_told) Tryz.call5 <|
  .cons (fun _ _ _ => fillSum_ok fun bx br n off s w c t a b d e f g => fill_any bx br n off s w c t a b d e f g) Tryz.call630 <|
  .cons (fun _ _ _ => takeSum_ok take_ok) Tryz.call323 <|
  .cons (fun _ _ h => strmSum_ok (by rw [h]; exact Nat.lt_of_lt_of_eq errs_pos errs_ng) fun z n w hn => stream_any z n w hn) Tryz.call9 sumsB_ok
noncomputable def GF : Env := ⟨tab, ifs, sumsL sumsF⟩
theorem fsums_all {n0 : Nat} : SumsOK Tryz.prog GF n0 := sumsL_ok sumsF_ok n0
end Go.Proofs.YtfjdakmmffedkaaGreatDoor
