/-
  The closure of the law, as a list. Conditions: none.
-/
import Derived.Test.YtbpkijkinoligaaGreatDoorZC1a
import Derived.Test.YtbpkijkinoligaaGreatDoorZC1b
import Derived.Test.YtbpkijkinoligaaGreatDoorZC1c
import Derived.Test.YtbpkijkinoligaaGreatDoorZC2
namespace Go.Proofs.YtbpkijkinoligaaGreatDoor
open Go Go.Proofs
set_option maxRecDepth 100000
theorem cl_rev : sn13.reverse = cl := by decide +kernel
theorem closure_eq : Tryz.prog.closure 3 = cl := by
  unfold Program.closure
  rw [fuel_eq]
  show Tryz.prog.closureVia 1981 td0 sn0 = cl
  rw [show 1981 = 1881 + 100 from rfl, cs0]
  rw [show 1881 = 1781 + 100 from rfl, cs1]
  rw [show 1781 = 1681 + 100 from rfl, cs2]
  rw [show 1681 = 1581 + 100 from rfl, cs3]
  rw [show 1581 = 1481 + 100 from rfl, cs4]
  rw [show 1481 = 1381 + 100 from rfl, cs5]
  rw [show 1381 = 1281 + 100 from rfl, cs6]
  rw [show 1281 = 1181 + 100 from rfl, cs7]
  rw [show 1181 = 1081 + 100 from rfl, cs8]
  rw [show 1081 = 981 + 100 from rfl, cs9]
  rw [show 981 = 881 + 100 from rfl, cs10]
  rw [show 881 = 781 + 100 from rfl, cs11]
  rw [show 781 = 709 + 72 from rfl, cs12]
  show Tryz.prog.closureVia (708 + 1) [] sn13 = cl
  rw [← cl_rev]
  rfl
end Go.Proofs.YtbpkijkinoligaaGreatDoor
