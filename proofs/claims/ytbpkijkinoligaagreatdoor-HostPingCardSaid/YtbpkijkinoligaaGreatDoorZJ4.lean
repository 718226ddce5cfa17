/-
  The law's number; the program may be entered. Conditions: none.
-/
import Derived.Test.YtbpkijkinoligaaGreatDoorProg
import Derived.JoinedCond
import Derived.SevenTiedAt
import Derived.KernelRfl
namespace Go.Proofs.YtbpkijkinoligaaGreatDoor
open Go Go.Proofs
set_option maxRecDepth 100000
theorem j_func : Tryz.prog.funcNamed "stagepost/stagepostlaw25.HostPing" = some 3 := by kernel_rfl
theorem j_enter : Tryz.prog.mayEnter = true := by kernel_rfl
end Go.Proofs.YtbpkijkinoligaaGreatDoor
