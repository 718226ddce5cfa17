/-
  No function of the program starts a goroutine. Conditions: none.
-/
import Derived.Test.YtbpkijkinoligaaGreatDoorZC0
namespace Go.Proofs.YtbpkijkinoligaaGreatDoor
open Go Go.Proofs
set_option maxRecDepth 100000
theorem gg0 : ((List.range' 0 100).all fun g => !(Tryz.prog.funcs[g]?).any Func.goes) = true := by kernel_rfl
theorem gg1 : ((List.range' 100 100).all fun g => !(Tryz.prog.funcs[g]?).any Func.goes) = true := by kernel_rfl
theorem gg2 : ((List.range' 200 100).all fun g => !(Tryz.prog.funcs[g]?).any Func.goes) = true := by kernel_rfl
theorem gg3 : ((List.range' 300 100).all fun g => !(Tryz.prog.funcs[g]?).any Func.goes) = true := by kernel_rfl
theorem gg4 : ((List.range' 400 100).all fun g => !(Tryz.prog.funcs[g]?).any Func.goes) = true := by kernel_rfl
theorem gg5 : ((List.range' 500 100).all fun g => !(Tryz.prog.funcs[g]?).any Func.goes) = true := by kernel_rfl
theorem gg6 : ((List.range' 600 78).all fun g => !(Tryz.prog.funcs[g]?).any Func.goes) = true := by kernel_rfl
theorem nfuncs : Tryz.prog.funcs.size = 678 := by kernel_rfl
end Go.Proofs.YtbpkijkinoligaaGreatDoor
