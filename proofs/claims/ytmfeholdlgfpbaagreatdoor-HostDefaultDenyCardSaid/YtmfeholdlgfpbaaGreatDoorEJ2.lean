/-
 The functions' parameters have rows; maps have rows; shown in parts. Conditions: none.
-/
import Derived.Test.YtmfeholdlgfpbaaGreatDoorProg
import Derived.JoinedCond
import Derived.SevenTiedAt
import Derived.KernelRfl
import Derived.Test.YtmfeholdlgfpbaaGreatDoorEJ1
import Derived.Test.YtmfeholdlgfpbaaGreatDoorEC5
namespace Go.Proofs.YtmfeholdlgfpbaaGreatDoor
open Go Go.Proofs
set_option maxRecDepth 100000
theorem fp0:((List.range' 0 100).all λu=>(Tryz.prog.funcs[u]?).all λf=>f.params.all λt=>decide (t<782))=true:=by kernel_rfl
theorem fp1:((List.range' 100 100).all λu=>(Tryz.prog.funcs[u]?).all λf=>f.params.all λt=>decide (t<782))=true:=by kernel_rfl
theorem fp2:((List.range' 200 100).all λu=>(Tryz.prog.funcs[u]?).all λf=>f.params.all λt=>decide (t<782))=true:=by kernel_rfl
theorem fp3:((List.range' 300 100).all λu=>(Tryz.prog.funcs[u]?).all λf=>f.params.all λt=>decide (t<782))=true:=by kernel_rfl
theorem fp4:((List.range' 400 100).all λu=>(Tryz.prog.funcs[u]?).all λf=>f.params.all λt=>decide (t<782))=true:=by kernel_rfl
theorem fp5:((List.range' 500 100).all λu=>(Tryz.prog.funcs[u]?).all λf=>f.params.all λt=>decide (t<782))=true:=by kernel_rfl
theorem fp6:((List.range' 600 100).all λu=>(Tryz.prog.funcs[u]?).all λf=>f.params.all λt=>decide (t<782))=true:=by kernel_rfl
theorem fp7:((List.range' 700 6).all λu=>(Tryz.prog.funcs[u]?).all λf=>f.params.all λt=>decide (t<782))=true:=by kernel_rfl
theorem Zhi (u:Nat) (h:u<706):((Tryz.prog.funcs[u]?).all λf=>f.params.all λt=>decide (t<782))=true:=by by_cases h0:u<100;exact List.all_eq_true.1 fp0 u (by rw [List.mem_range'_1];omega);by_cases h1:u<200;exact List.all_eq_true.1 fp1 u (by rw [List.mem_range'_1];omega);by_cases h2:u<300;exact List.all_eq_true.1 fp2 u (by rw [List.mem_range'_1];omega);by_cases h3:u<400;exact List.all_eq_true.1 fp3 u (by rw [List.mem_range'_1];omega);by_cases h4:u<500;exact List.all_eq_true.1 fp4 u (by rw [List.mem_range'_1];omega);by_cases h5:u<600;exact List.all_eq_true.1 fp5 u (by rw [List.mem_range'_1];omega);by_cases h6:u<700;exact List.all_eq_true.1 fp6 u (by rw [List.mem_range'_1];omega);by_cases h7:u<706;exact List.all_eq_true.1 fp7 u (by rw [List.mem_range'_1];omega);omega
theorem Zhg:(Tryz.prog.funcs.all (λf=>f.params.all λt=>decide (t<Tryz.prog.types.size)))=true:=by rw [Qn2,Array.all_eq_true];intro i hi;have:=Zhi i (by rw [nfuncs] at hi;exact hi);simpa [Array.getElem?_eq_getElem hi] using this
theorem Qwv:laidOutB Tryz.prog=true:=by unfold laidOutB;rw [j_lay1,j_lay2,Zhg];rfl
end Go.Proofs.YtmfeholdlgfpbaaGreatDoor
