/-
  The configuration's law, explored: 2 servers. Conditions: none.
-/
import Derived.Test.YthfllbmlhhkhmaaGreatDoorKa
namespace Go.Proofs.YthfllbmlhhkhmaaGreatDoor
open Go Go.Ax Go.RowKit Go.Proofs
theorem cfg_len2_tt : firstX GC errs 3 (cfgS true true ++ [spI, spI]) (mkLen 2) (.lit true) 1000 200 14 120 [] = true := by kernel_rfl
theorem cfg_len2_tf : firstX GC errs 3 (cfgS true false ++ [spI, spI]) (mkLen 2) (.lit true) 1000 200 14 120 [] = true := by kernel_rfl
theorem cfg_len2_ft : firstX GC errs 3 (cfgS false true ++ [spI, spI]) (mkLen 2) (.lit true) 1000 200 14 120 [] = true := by kernel_rfl
theorem cfg_len2_ff : firstX GC errs 3 (cfgS false false ++ [spI, spI]) (mkLen 2) (.lit true) 1000 200 14 120 [] = true := by kernel_rfl
end Go.Proofs.YthfllbmlhhkhmaaGreatDoor
