/-
  The laws' fixed scenario, explored at a memory in which the packages' errors are laid: it comes to true. Conditions: none.
-/
import Derived.Test.YtcbodlnadocbiaaGreatDoorZSC
import Derived.Test.YtcbodlnadocbiaaGreatDoorZAxE
import Derived.Test.YtcbodlnadocbiaaGreatDoorZTabsOK
namespace Go.Proofs.YtcbodlnadocbiaaGreatDoor
open Go Go.Ax Go.RowKit Go.Proofs

noncomputable def errs : Errs := ⟨8, 5, 754, 200, [(0, 8), (1, 9), (2, 10), (4, 11), (5, 12)]⟩
theorem errs_ng : errs.ng = tab.ng := rfl
theorem errs_pos : 0 < errs.ng := by show 0 < 8; decide
theorem errs_in : errs.inB = true := by kernel_rfl

noncomputable def sumsS : List (Nat × Sum) := [(277, copySum 356), (285, rulesSum)]
theorem sumsS_ok : AllS Tryz.prog tab sumsS :=
  .cons (fun G n0 _ => copyCheckSum_ok G n0) Tryz.call277 <|
  .cons (fun G n0 _ => rulesSum_ok G n0) Tryz.call285 .nil
noncomputable def GS : Env := ⟨tab, ifs, sumsL sumsS⟩
theorem sane_run : firstP GS errs 5 [] (.lit true) 1000 200 17 3 [] = true := by kernel_rfl
theorem sane_told : ToldE Tryz.prog errs 5 [] (.lit true) :=
  toldE_of_firstP (G := GS) tab_right ifs_right (sumsL_ok sumsS_ok) errs_ng errs_pos sane_run
end Go.Proofs.YtcbodlnadocbiaaGreatDoor
