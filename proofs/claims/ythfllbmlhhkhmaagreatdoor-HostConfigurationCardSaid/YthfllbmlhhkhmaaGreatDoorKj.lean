/-
  The configuration's law, explored: more than six servers. Conditions: none.
-/
import Derived.Test.YthfllbmlhhkhmaaGreatDoorKa
namespace Go.Proofs.YthfllbmlhhkhmaaGreatDoor
open Go Go.Ax Go.RowKit Go.Proofs
theorem cfg_many_tt : firstX GC errs 3 (cfgS true true ++ [manyS, spI, spI, spI, spI, spI, spI]) mkMany (.lit true) 1000 200 14 120 [] = true := by kernel_rfl
theorem cfg_many_tf : firstX GC errs 3 (cfgS true false ++ [manyS, spI, spI, spI, spI, spI, spI]) mkMany (.lit true) 1000 200 14 120 [] = true := by kernel_rfl
theorem cfg_many_ft : firstX GC errs 3 (cfgS false true ++ [manyS, spI, spI, spI, spI, spI, spI]) mkMany (.lit true) 1000 200 14 120 [] = true := by kernel_rfl
theorem cfg_many_ff : firstX GC errs 3 (cfgS false false ++ [manyS, spI, spI, spI, spI, spI, spI]) mkMany (.lit true) 1000 200 14 120 [] = true := by kernel_rfl
end Go.Proofs.YthfllbmlhhkhmaaGreatDoor
