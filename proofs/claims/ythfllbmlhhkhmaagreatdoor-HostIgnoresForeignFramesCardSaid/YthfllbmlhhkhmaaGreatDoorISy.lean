/-
  The laws' fixed scenario, explored at the first memory: it comes to true. Conditions: none.
-/
import Derived.Test.YthfllbmlhhkhmaaGreatDoorIGa
namespace Go.Proofs.YthfllbmlhhkhmaaGreatDoor
open Go Go.Ax Go.RowKit Go.Proofs
theorem sane_run : firstP GB errs 5 [] (.lit true) 1000 200 17 3 [] = true := by kernel_rfl
theorem sane_told : ToldE Tryz.prog errs 5 [] (.lit true) :=
  toldE_of_firstP (G := GB) tab_right ifs_right (sumsL_ok sumsB_ok) errs_ng errs_pos sane_run
end Go.Proofs.YthfllbmlhhkhmaaGreatDoor
