/-
  The laws' fixed scenario, explored at the first memory: it comes to true. Conditions: none.
-/
import Derived.Test.YtfomgahphoobdaaGreatDoorEGa
namespace Go.Proofs.YtfomgahphoobdaaGreatDoor
open Go Go.Ax Go.RowKit Go.Proofs
theorem sane_run : firstP GB errs 8 [] (.lit true) 1000 200 17 3 [] = true := by kernel_rfl
theorem sane_told : ToldE Tryz.prog errs 8 [] (.lit true) :=
  toldE_of_firstP (G := GB) tab_right ifs_right (sumsL_ok sumsB_ok) errs_ng errs_pos sane_run
end Go.Proofs.YtfomgahphoobdaaGreatDoor
namespace Go.Proofs.YtfomgahphoobdaaGreatDoor
open Go Go.Ax Go.RowKit Go.Proofs
noncomputable def sumsF : List (Nat × Sum) := (8, sumE errs [] (.lit true)) :: sumsB
theorem sumsF_ok : AllS Tryz.prog tab sumsF :=
  .cons (fun _ _ h => sumE_ok (errs_ng.trans (congrArg Tab.ng h.symm)) errs_pos errs_in sane_told) Tryz.call8 sumsB_ok
noncomputable def GF : Env := ⟨tab, ifs, sumsL sumsF⟩
theorem fsums_all {n0 : Nat} : SumsOK Tryz.prog GF n0 := sumsL_ok sumsF_ok n0
end Go.Proofs.YtfomgahphoobdaaGreatDoor
