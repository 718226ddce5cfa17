/-
  The room that the closure is given. Conditions: none.
-/
import Derived.Test.YtbpkijkinoligaaGreatDoorZC0
namespace Go.Proofs.YtbpkijkinoligaaGreatDoor
open Go Go.Proofs
set_option maxRecDepth 100000
theorem fuel_eq : 1 + (Tryz.prog.funcs.toList.map fun g => (Tryz.prog.leadsTo g).length + 1).sum = 1981 := by kernel_rfl
end Go.Proofs.YtbpkijkinoligaaGreatDoor
