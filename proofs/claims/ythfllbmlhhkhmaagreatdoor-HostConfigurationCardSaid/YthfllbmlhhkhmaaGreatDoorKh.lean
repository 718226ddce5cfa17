/-
  The configuration's law, explored: 5 servers. Conditions: none.
-/
import Derived.Test.YthfllbmlhhkhmaaGreatDoorKa
namespace Go.Proofs.YthfllbmlhhkhmaaGreatDoor
open Go Go.Ax Go.RowKit Go.Proofs
theorem cfg_len5_tt : firstX GC errs 3 (cfgS true true ++ [spI, spI, spI, spI, spI]) (mkLen 5) (.lit true) 1000 200 14 120 [] = true := by kernel_rfl
theorem cfg_len5_tf : firstX GC errs 3 (cfgS true false ++ [spI, spI, spI, spI, spI]) (mkLen 5) (.lit true) 1000 200 14 120 [] = true := by kernel_rfl
theorem cfg_len5_ft : firstX GC errs 3 (cfgS false true ++ [spI, spI, spI, spI, spI]) (mkLen 5) (.lit true) 1000 200 14 120 [] = true := by kernel_rfl
theorem cfg_len5_ff : firstX GC errs 3 (cfgS false false ++ [spI, spI, spI, spI, spI]) (mkLen 5) (.lit true) 1000 200 14 120 [] = true := by kernel_rfl
end Go.Proofs.YthfllbmlhhkhmaaGreatDoor
