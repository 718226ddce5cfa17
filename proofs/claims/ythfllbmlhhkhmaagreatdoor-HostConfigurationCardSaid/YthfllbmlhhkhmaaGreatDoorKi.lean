/-
  The configuration's law, explored: 6 servers. Conditions: none.
-/
import Derived.Test.YthfllbmlhhkhmaaGreatDoorKa
namespace Go.Proofs.YthfllbmlhhkhmaaGreatDoor
open Go Go.Ax Go.RowKit Go.Proofs
theorem cfg_len6_tt : firstX GC errs 3 (cfgS true true ++ [spI, spI, spI, spI, spI, spI]) (mkLen 6) (.lit true) 1000 200 14 120 [] = true := by kernel_rfl
theorem cfg_len6_tf : firstX GC errs 3 (cfgS true false ++ [spI, spI, spI, spI, spI, spI]) (mkLen 6) (.lit true) 1000 200 14 120 [] = true := by kernel_rfl
theorem cfg_len6_ft : firstX GC errs 3 (cfgS false true ++ [spI, spI, spI, spI, spI, spI]) (mkLen 6) (.lit true) 1000 200 14 120 [] = true := by kernel_rfl
theorem cfg_len6_ff : firstX GC errs 3 (cfgS false false ++ [spI, spI, spI, spI, spI, spI]) (mkLen 6) (.lit true) 1000 200 14 120 [] = true := by kernel_rfl
end Go.Proofs.YthfllbmlhhkhmaaGreatDoor
