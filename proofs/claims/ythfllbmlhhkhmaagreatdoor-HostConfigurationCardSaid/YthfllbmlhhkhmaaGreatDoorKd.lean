/-
  The configuration's law, explored: 1 servers. Conditions: none.
-/
import Derived.Test.YthfllbmlhhkhmaaGreatDoorKa
namespace Go.Proofs.YthfllbmlhhkhmaaGreatDoor
open Go Go.Ax Go.RowKit Go.Proofs
theorem cfg_len1_tt : firstX GC errs 3 (cfgS true true ++ [spI]) (mkLen 1) (.lit true) 1000 200 14 120 [] = true := by kernel_rfl
theorem cfg_len1_tf : firstX GC errs 3 (cfgS true false ++ [spI]) (mkLen 1) (.lit true) 1000 200 14 120 [] = true := by kernel_rfl
theorem cfg_len1_ft : firstX GC errs 3 (cfgS false true ++ [spI]) (mkLen 1) (.lit true) 1000 200 14 120 [] = true := by kernel_rfl
theorem cfg_len1_ff : firstX GC errs 3 (cfgS false false ++ [spI]) (mkLen 1) (.lit true) 1000 200 14 120 [] = true := by kernel_rfl
end Go.Proofs.YthfllbmlhhkhmaaGreatDoor
