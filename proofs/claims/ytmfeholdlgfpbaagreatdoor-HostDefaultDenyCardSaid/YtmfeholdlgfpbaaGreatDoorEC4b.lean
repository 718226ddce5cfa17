/-
 What stands in the bodies of the closure, in parts. Conditions: none.
-/
import Derived.Test.YtmfeholdlgfpbaaGreatDoorEC0
namespace Go.Proofs.YtmfeholdlgfpbaaGreatDoor
open Go Go.Proofs
set_option maxRecDepth 100000
theorem ip2:(cl2.filterMap λg=>(Tryz.prog.funcs[g]?).bind λfn=>if fn.ours||fn.body.isNone||fn.name== "runtime.NumGoroutine" then some fn.name else none)=[]:=by kernel_rfl
theorem vn2:(cl2.flatMap λg=>((Tryz.prog.funcs[g]?).bind (·.body)).elim [] Code.globalsNamed)=[6]:=by kernel_rfl
theorem er2:(cl2.filterMap λg=>(Tryz.prog.funcs[g]?).bind λfn=>if fn.body.isNone then entryReads.lookup fn.name else none)=[]:=by kernel_rfl
theorem gs2:(cl2.any λg=>(Tryz.prog.funcs[g]?).any Func.goes)=false:=by kernel_rfl
theorem ip3:(cl3.filterMap λg=>(Tryz.prog.funcs[g]?).bind λfn=>if fn.ours||fn.body.isNone||fn.name== "runtime.NumGoroutine" then some fn.name else none)=["internal/bytealg.MakeNoZero"]:=by kernel_rfl
theorem vn3:(cl3.flatMap λg=>((Tryz.prog.funcs[g]?).bind (·.body)).elim [] Code.globalsNamed)=[7,7,7]:=by kernel_rfl
theorem er3:(cl3.filterMap λg=>(Tryz.prog.funcs[g]?).bind λfn=>if fn.body.isNone then entryReads.lookup fn.name else none)=[]:=by kernel_rfl
theorem gs3:(cl3.any λg=>(Tryz.prog.funcs[g]?).any Func.goes)=false:=by kernel_rfl
end Go.Proofs.YtmfeholdlgfpbaaGreatDoor
