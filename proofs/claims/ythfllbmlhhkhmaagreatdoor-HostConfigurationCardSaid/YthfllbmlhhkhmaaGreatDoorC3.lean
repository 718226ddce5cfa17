/-
  The closure of the law, as a list. Conditions: none.
-/
import Derived.Test.YthfllbmlhhkhmaaGreatDoorC1a
import Derived.Test.YthfllbmlhhkhmaaGreatDoorC1b
import Derived.Test.YthfllbmlhhkhmaaGreatDoorC1c
import Derived.Test.YthfllbmlhhkhmaaGreatDoorC2
namespace Go.Proofs.YthfllbmlhhkhmaaGreatDoor
open Go Go.Proofs
set_option maxRecDepth 100000
theorem cl_rev : sn13.reverse = cl := by decide +kernel
theorem closure_eq : Tryz.prog.closure 3 = cl := by
  unfold Program.closure
  rw [fuel_eq]
  show Tryz.prog.closureVia 2190 td0 sn0 = cl
  rw [show 2190 = 2090 + 100 from rfl, cs0]
  rw [show 2090 = 1990 + 100 from rfl, cs1]
  rw [show 1990 = 1890 + 100 from rfl, cs2]
  rw [show 1890 = 1790 + 100 from rfl, cs3]
  rw [show 1790 = 1690 + 100 from rfl, cs4]
  rw [show 1690 = 1590 + 100 from rfl, cs5]
  rw [show 1590 = 1490 + 100 from rfl, cs6]
  rw [show 1490 = 1390 + 100 from rfl, cs7]
  rw [show 1390 = 1290 + 100 from rfl, cs8]
  rw [show 1290 = 1190 + 100 from rfl, cs9]
  rw [show 1190 = 1090 + 100 from rfl, cs10]
  rw [show 1090 = 990 + 100 from rfl, cs11]
  rw [show 990 = 910 + 80 from rfl, cs12]
  show Tryz.prog.closureVia (909 + 1) [] sn13 = cl
  rw [← cl_rev]
  rfl
end Go.Proofs.YthfllbmlhhkhmaaGreatDoor
