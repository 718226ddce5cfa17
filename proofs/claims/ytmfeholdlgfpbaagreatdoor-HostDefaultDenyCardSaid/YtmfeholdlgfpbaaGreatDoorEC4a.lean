/-
 What stands in the bodies of the closure, in parts. Conditions: none.
-/
import Derived.Test.YtmfeholdlgfpbaaGreatDoorEC0
namespace Go.Proofs.YtmfeholdlgfpbaaGreatDoor
open Go Go.Proofs
set_option maxRecDepth 100000
theorem ip0:(cl0.filterMap λg=>(Tryz.prog.funcs[g]?).bind λfn=>if fn.ours||fn.body.isNone||fn.name== "runtime.NumGoroutine" then some fn.name else none)=["internal/reflectlite.TypeOf", "internal/abi.NoEscape"]:=by kernel_rfl
theorem vn0:(cl0.flatMap λg=>((Tryz.prog.funcs[g]?).bind (·.body)).elim [] Code.globalsNamed)=[0,0,0,0,0,0]:=by kernel_rfl
theorem er0:(cl0.filterMap λg=>(Tryz.prog.funcs[g]?).bind λfn=>if fn.body.isNone then entryReads.lookup fn.name else none)=[]:=by kernel_rfl
theorem gs0:(cl0.any λg=>(Tryz.prog.funcs[g]?).any Func.goes)=false:=by kernel_rfl
theorem ip1:(cl1.filterMap λg=>(Tryz.prog.funcs[g]?).bind λfn=>if fn.ours||fn.body.isNone||fn.name== "runtime.NumGoroutine" then some fn.name else none)=[]:=by kernel_rfl
theorem vn1:(cl1.flatMap λg=>((Tryz.prog.funcs[g]?).bind (·.body)).elim [] Code.globalsNamed)=[2,3,3,2,4,4]:=by kernel_rfl
theorem er1:(cl1.filterMap λg=>(Tryz.prog.funcs[g]?).bind λfn=>if fn.body.isNone then entryReads.lookup fn.name else none)=[]:=by kernel_rfl
theorem gs1:(cl1.any λg=>(Tryz.prog.funcs[g]?).any Func.goes)=false:=by kernel_rfl
end Go.Proofs.YtmfeholdlgfpbaaGreatDoor
