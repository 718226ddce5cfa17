/-
  The room that the closure is given. Conditions: none.
-/
import Derived.Test.YthfllbmlhhkhmaaGreatDoorIC0
import Derived.Test.YthfllbmlhhkhmaaGreatDoorIC1a
import Derived.Test.YthfllbmlhhkhmaaGreatDoorIC1b
import Derived.Test.YthfllbmlhhkhmaaGreatDoorIC1c
namespace Go.Proofs.YthfllbmlhhkhmaaGreatDoor
open Go Go.Proofs
set_option maxRecDepth 100000
theorem fuel_eq : 1 + (Tryz.prog.funcs.toList.map fun g => (Tryz.prog.leadsTo g).length + 1).sum = 2190 := by kernel_rfl
end Go.Proofs.YthfllbmlhhkhmaaGreatDoor
namespace Go.Proofs.YthfllbmlhhkhmaaGreatDoor
open Go Go.Proofs
set_option maxRecDepth 100000
theorem cl_rev : sn15.reverse = cl := by decide +kernel
theorem closure_eq : Tryz.prog.closure 4 = cl := by
  unfold Program.closure
  rw [fuel_eq]
  show Tryz.prog.closureVia 2190 td0 sn0 = cl
  rw [show 2190 = 2090 + 100 from rfl, cs0]
  rw [show 2090 = 1990 + 100 from rfl, cs1]
  rw [show 1990 = 1890 + 100 from rfl, cs2]
  rw [show 1890 = 1790 + 100 from rfl, cs3]
  rw [show 1790 = 1690 + 100 from rfl, cs4]
  rw [show 1690 = 1590 + 100 from rfl, cs5]
  rw [show 1590 = 1490 + 100 from rfl, cs6]
  rw [show 1490 = 1390 + 100 from rfl, cs7]
  rw [show 1390 = 1290 + 100 from rfl, cs8]
  rw [show 1290 = 1190 + 100 from rfl, cs9]
  rw [show 1190 = 1090 + 100 from rfl, cs10]
  rw [show 1090 = 990 + 100 from rfl, cs11]
  rw [show 990 = 890 + 100 from rfl, cs12]
  rw [show 890 = 790 + 100 from rfl, cs13]
  rw [show 790 = 784 + 6 from rfl, cs14]
  show Tryz.prog.closureVia (783 + 1) [] sn15 = cl
  rw [← cl_rev]
  rfl
end Go.Proofs.YthfllbmlhhkhmaaGreatDoor
