/-
  The closure of the law, as a list. Conditions: none.
-/
import Derived.Test.YtpnmpklpiollnaaGreatDoorC1a
import Derived.Test.YtpnmpklpiollnaaGreatDoorC1b
import Derived.Test.YtpnmpklpiollnaaGreatDoorC1c
import Derived.Test.YtpnmpklpiollnaaGreatDoorC2
namespace Go.Proofs.YtpnmpklpiollnaaGreatDoor
open Go Go.Proofs
set_option maxRecDepth 100000
theorem cl_rev : sn15.reverse = cl := by decide +kernel
theorem closure_eq : Tryz.prog.closure 3 = cl := by
  unfold Program.closure
  rw [fuel_eq]
  show Tryz.prog.closureVia 2115 td0 sn0 = cl
  rw [show 2115 = 2015 + 100 from rfl, cs0]
  rw [show 2015 = 1915 + 100 from rfl, cs1]
  rw [show 1915 = 1815 + 100 from rfl, cs2]
  rw [show 1815 = 1715 + 100 from rfl, cs3]
  rw [show 1715 = 1615 + 100 from rfl, cs4]
  rw [show 1615 = 1515 + 100 from rfl, cs5]
  rw [show 1515 = 1415 + 100 from rfl, cs6]
  rw [show 1415 = 1315 + 100 from rfl, cs7]
  rw [show 1315 = 1215 + 100 from rfl, cs8]
  rw [show 1215 = 1115 + 100 from rfl, cs9]
  rw [show 1115 = 1015 + 100 from rfl, cs10]
  rw [show 1015 = 915 + 100 from rfl, cs11]
  rw [show 915 = 815 + 100 from rfl, cs12]
  rw [show 815 = 715 + 100 from rfl, cs13]
  rw [show 715 = 714 + 1 from rfl, cs14]
  show Tryz.prog.closureVia (713 + 1) [] sn15 = cl
  rw [← cl_rev]
  rfl
end Go.Proofs.YtpnmpklpiollnaaGreatDoor
