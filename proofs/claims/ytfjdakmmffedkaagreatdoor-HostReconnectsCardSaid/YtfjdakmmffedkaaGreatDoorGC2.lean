/-
 The room that the closure is given. Conditions: none.
-/
import Derived.Test.YtfjdakmmffedkaaGreatDoorGC0
import Derived.Test.YtfjdakmmffedkaaGreatDoorGC1a
import Derived.Test.YtfjdakmmffedkaaGreatDoorGC1b
import Derived.Test.YtfjdakmmffedkaaGreatDoorGC1c
namespace Go.Proofs.YtfjdakmmffedkaaGreatDoor
open Go Go.Proofs
set_option maxRecDepth 100000
theorem Qis : 1 + (Tryz.prog.funcs.toList.map λ g => (Tryz.prog.leadsTo g).length + 1).sum = 2014 := by kernel_rfl
end Go.Proofs.YtfjdakmmffedkaaGreatDoor
namespace Go.Proofs.YtfjdakmmffedkaaGreatDoor
open Go Go.Proofs
set_option maxRecDepth 100000
theorem Qlr : sn13.reverse = cl := by decide +kernel
theorem JK : Tryz.prog.closure 4 = cl := by
 unfold Program.closure
 rw [Qis]
 show Tryz.prog.closureVia 2014 td0 sn0 = cl
 rw [show 2014 = 1914 + 100 from rfl, cs0]
 rw [show 1914 = 1814 + 100 from rfl, cs1]
 rw [show 1814 = 1714 + 100 from rfl, cs2]
 rw [show 1714 = 1614 + 100 from rfl, cs3]
 rw [show 1614 = 1514 + 100 from rfl, cs4]
 rw [show 1514 = 1414 + 100 from rfl, cs5]
 rw [show 1414 = 1314 + 100 from rfl, cs6]
 rw [show 1314 = 1214 + 100 from rfl, cs7]
 rw [show 1214 = 1114 + 100 from rfl, cs8]
 rw [show 1114 = 1014 + 100 from rfl, cs9]
 rw [show 1014 = 914 + 100 from rfl, cs10]
 rw [show 914 = 814 + 100 from rfl, cs11]
 rw [show 814 = 719 + 95 from rfl, cs12]
 show Tryz.prog.closureVia (718 + 1) [] sn13 = cl
 rw [<- Qlr]
 rfl
end Go.Proofs.YtfjdakmmffedkaaGreatDoor
