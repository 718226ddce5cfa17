/-
  The room that the closure is given. Conditions: none.
-/
import Derived.Test.YthfllbmlhhkhmaaGreatDoorC0
namespace Go.Proofs.YthfllbmlhhkhmaaGreatDoor
open Go Go.Proofs
set_option maxRecDepth 100000
theorem fuel_eq : 1 + (Tryz.prog.funcs.toList.map fun g => (Tryz.prog.leadsTo g).length + 1).sum = 2190 := by kernel_rfl
end Go.Proofs.YthfllbmlhhkhmaaGreatDoor
