/-
  The room that the closure is given. Conditions: none.
-/
import Derived.Test.YtcbodlnadocbiaaGreatDoorZC0
import Derived.Test.YtcbodlnadocbiaaGreatDoorZC1a
import Derived.Test.YtcbodlnadocbiaaGreatDoorZC1b
import Derived.Test.YtcbodlnadocbiaaGreatDoorZC1c
namespace Go.Proofs.YtcbodlnadocbiaaGreatDoor
open Go Go.Proofs
set_option maxRecDepth 100000
theorem fuel_eq : 1 + (Tryz.prog.funcs.toList.map fun g => (Tryz.prog.leadsTo g).length + 1).sum = 2011 := by kernel_rfl
end Go.Proofs.YtcbodlnadocbiaaGreatDoor

/-! The closure of the law, as a list. Conditions: none. -/
namespace Go.Proofs.YtcbodlnadocbiaaGreatDoor
open Go Go.Proofs
set_option maxRecDepth 100000
theorem cl_rev : sn13.reverse = cl := by decide +kernel
theorem closure_eq : Tryz.prog.closure 3 = cl := by
  unfold Program.closure
  rw [fuel_eq]
  show Tryz.prog.closureVia 2011 td0 sn0 = cl
  rw [show 2011 = 1911 + 100 from rfl, cs0]
  rw [show 1911 = 1811 + 100 from rfl, cs1]
  rw [show 1811 = 1711 + 100 from rfl, cs2]
  rw [show 1711 = 1611 + 100 from rfl, cs3]
  rw [show 1611 = 1511 + 100 from rfl, cs4]
  rw [show 1511 = 1411 + 100 from rfl, cs5]
  rw [show 1411 = 1311 + 100 from rfl, cs6]
  rw [show 1311 = 1211 + 100 from rfl, cs7]
  rw [show 1211 = 1111 + 100 from rfl, cs8]
  rw [show 1111 = 1011 + 100 from rfl, cs9]
  rw [show 1011 = 911 + 100 from rfl, cs10]
  rw [show 911 = 811 + 100 from rfl, cs11]
  rw [show 811 = 740 + 71 from rfl, cs12]
  show Tryz.prog.closureVia (739 + 1) [] sn13 = cl
  rw [← cl_rev]
  rfl
end Go.Proofs.YtcbodlnadocbiaaGreatDoor
