/-
  The room that the closure is given. Conditions: none.
-/
import Derived.Test.YtfomgahphoobdaaGreatDoorEC0
import Derived.Test.YtfomgahphoobdaaGreatDoorEC1a
import Derived.Test.YtfomgahphoobdaaGreatDoorEC1b
import Derived.Test.YtfomgahphoobdaaGreatDoorEC1c
namespace Go.Proofs.YtfomgahphoobdaaGreatDoor
open Go Go.Proofs
set_option maxRecDepth 100000
theorem fuel_eq : 1 + (Tryz.prog.funcs.toList.map fun g => (Tryz.prog.leadsTo g).length + 1).sum = 2213 := by kernel_rfl
end Go.Proofs.YtfomgahphoobdaaGreatDoor
namespace Go.Proofs.YtfomgahphoobdaaGreatDoor
open Go Go.Proofs
set_option maxRecDepth 100000
theorem cl_rev : sn13.reverse = cl := by decide +kernel
theorem closure_eq : Tryz.prog.closure 3 = cl := by
  unfold Program.closure
  rw [fuel_eq]
  show Tryz.prog.closureVia 2213 td0 sn0 = cl
  rw [show 2213 = 2113 + 100 from rfl, cs0]
  rw [show 2113 = 2013 + 100 from rfl, cs1]
  rw [show 2013 = 1913 + 100 from rfl, cs2]
  rw [show 1913 = 1813 + 100 from rfl, cs3]
  rw [show 1813 = 1713 + 100 from rfl, cs4]
  rw [show 1713 = 1613 + 100 from rfl, cs5]
  rw [show 1613 = 1513 + 100 from rfl, cs6]
  rw [show 1513 = 1413 + 100 from rfl, cs7]
  rw [show 1413 = 1313 + 100 from rfl, cs8]
  rw [show 1313 = 1213 + 100 from rfl, cs9]
  rw [show 1213 = 1113 + 100 from rfl, cs10]
  rw [show 1113 = 1013 + 100 from rfl, cs11]
  rw [show 1013 = 923 + 90 from rfl, cs12]
  show Tryz.prog.closureVia (922 + 1) [] sn13 = cl
  rw [← cl_rev]
  rfl
end Go.Proofs.YtfomgahphoobdaaGreatDoor
