/-
  The configuration's law, explored: no servers. Conditions: none.
-/
import Derived.Test.YthfllbmlhhkhmaaGreatDoorKa
namespace Go.Proofs.YthfllbmlhhkhmaaGreatDoor
open Go Go.Ax Go.RowKit Go.Proofs
theorem cfg_nil_tt : firstX GC errs 3 (cfgS true true) mkNil (.lit true) 1000 200 14 120 [] = true := by kernel_rfl
theorem cfg_nil_tf : firstX GC errs 3 (cfgS true false) mkNil (.lit true) 1000 200 14 120 [] = true := by kernel_rfl
theorem cfg_nil_ft : firstX GC errs 3 (cfgS false true) mkNil (.lit true) 1000 200 14 120 [] = true := by kernel_rfl
theorem cfg_nil_ff : firstX GC errs 3 (cfgS false false) mkNil (.lit true) 1000 200 14 120 [] = true := by kernel_rfl
end Go.Proofs.YthfllbmlhhkhmaaGreatDoor
