/-
  The configuration's law, explored: an empty list of servers. Conditions: none.
-/
import Derived.Test.YthfllbmlhhkhmaaGreatDoorKa
namespace Go.Proofs.YthfllbmlhhkhmaaGreatDoor
open Go Go.Ax Go.RowKit Go.Proofs
theorem cfg_zero_tt : firstX GC errs 3 (cfgS true true) mkZero (.lit true) 1000 200 14 120 [] = true := by kernel_rfl
theorem cfg_zero_tf : firstX GC errs 3 (cfgS true false) mkZero (.lit true) 1000 200 14 120 [] = true := by kernel_rfl
theorem cfg_zero_ft : firstX GC errs 3 (cfgS false true) mkZero (.lit true) 1000 200 14 120 [] = true := by kernel_rfl
theorem cfg_zero_ff : firstX GC errs 3 (cfgS false false) mkZero (.lit true) 1000 200 14 120 [] = true := by kernel_rfl
end Go.Proofs.YthfllbmlhhkhmaaGreatDoor
