/-
 What stands in the bodies of the closure, in parts. Conditions: none.
-/
import Derived.Test.YtmfeholdlgfpbaaGreatDoorEC0
namespace Go.Proofs.YtmfeholdlgfpbaaGreatDoor
open Go Go.Proofs
set_option maxRecDepth 100000
theorem ip4:(cl4.filterMap λg=>(Tryz.prog.funcs[g]?).bind λfn=>if fn.ours||fn.body.isNone||fn.name== "runtime.NumGoroutine" then some fn.name else none)=["internal/bytealg.IndexByteString", "internal/bytealg.IndexString", "internal/reflectlite.ValueOf", "(internal/reflectlite.Value).Type", "(internal/reflectlite.Value).IsNil", "(internal/reflectlite.Value).Elem", "(internal/reflectlite.Value).Set"]:=by kernel_rfl
theorem vn4:(cl4.flatMap λg=>((Tryz.prog.funcs[g]?).bind (·.body)).elim [] Code.globalsNamed)=[5,5,1,5,5,4]:=by kernel_rfl
theorem er4:(cl4.filterMap λg=>(Tryz.prog.funcs[g]?).bind λfn=>if fn.body.isNone then entryReads.lookup fn.name else none)=["internal/bytealg.MaxLen"]:=by kernel_rfl
theorem gs4:(cl4.any λg=>(Tryz.prog.funcs[g]?).any Func.goes)=false:=by kernel_rfl
theorem ip5:(cl5.filterMap λg=>(Tryz.prog.funcs[g]?).bind λfn=>if fn.ours||fn.body.isNone||fn.name== "runtime.NumGoroutine" then some fn.name else none)=[]:=by kernel_rfl
theorem vn5:(cl5.flatMap λg=>((Tryz.prog.funcs[g]?).bind (·.body)).elim [] Code.globalsNamed)=[]:=by kernel_rfl
theorem er5:(cl5.filterMap λg=>(Tryz.prog.funcs[g]?).bind λfn=>if fn.body.isNone then entryReads.lookup fn.name else none)=[]:=by kernel_rfl
theorem gs5:(cl5.any λg=>(Tryz.prog.funcs[g]?).any Func.goes)=false:=by kernel_rfl
end Go.Proofs.YtmfeholdlgfpbaaGreatDoor
namespace Go.Proofs.YtmfeholdlgfpbaaGreatDoor
open Go Go.Proofs
set_option maxRecDepth 100000
theorem ip6:(cl6.filterMap λg=>(Tryz.prog.funcs[g]?).bind λfn=>if fn.ours||fn.body.isNone||fn.name== "runtime.NumGoroutine" then some fn.name else none)=[]:=by kernel_rfl
theorem vn6:(cl6.flatMap λg=>((Tryz.prog.funcs[g]?).bind (·.body)).elim [] Code.globalsNamed)=[]:=by kernel_rfl
theorem er6:(cl6.filterMap λg=>(Tryz.prog.funcs[g]?).bind λfn=>if fn.body.isNone then entryReads.lookup fn.name else none)=[]:=by kernel_rfl
theorem gs6:(cl6.any λg=>(Tryz.prog.funcs[g]?).any Func.goes)=false:=by kernel_rfl
end Go.Proofs.YtmfeholdlgfpbaaGreatDoor
