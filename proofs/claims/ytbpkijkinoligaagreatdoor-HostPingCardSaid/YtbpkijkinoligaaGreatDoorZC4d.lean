/-
  What stands in the bodies of the closure, in parts. Conditions: none.
-/
import Derived.Test.YtbpkijkinoligaaGreatDoorZC0
namespace Go.Proofs.YtbpkijkinoligaaGreatDoor
open Go Go.Proofs
set_option maxRecDepth 100000
theorem ip6 : (cl6.filterMap fun g => (Tryz.prog.funcs[g]?).bind fun fn => if fn.ours || fn.body.isNone || fn.name == "runtime.NumGoroutine" then some fn.name else none) = [] := by kernel_rfl
theorem vn6 : (cl6.flatMap fun g => ((Tryz.prog.funcs[g]?).bind (·.body)).elim [] Code.globalsNamed) = [] := by kernel_rfl
theorem er6 : (cl6.filterMap fun g => (Tryz.prog.funcs[g]?).bind fun fn => if fn.body.isNone then entryReads.lookup fn.name else none) = [] := by kernel_rfl
theorem gs6 : (cl6.any fun g => (Tryz.prog.funcs[g]?).any Func.goes) = false := by kernel_rfl
end Go.Proofs.YtbpkijkinoligaaGreatDoor
