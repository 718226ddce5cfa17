/-
 One type alone is called as the errors' type is: shown in parts, since the kernel compares names at some cost. Conditions: none.
-/
import Derived.Test.YtmfeholdlgfpbaaGreatDoorProg
import Derived.KernelRfl
import Derived.LaidLaws
namespace Go.Proofs.YtmfeholdlgfpbaaGreatDoor
open Go Go.Proofs
noncomputable def rowP (u:Nat):Bool:=Tryz.prog.typeName? 3 u != some ("*" ++ "errors.errorString")||u==752
noncomputable def nameP (e:Nat):Bool:=Tryz.prog.typeName? 2 e != some "errors.errorString" ||(match (Tryz.prog.info? e).map (·.desc) with|some (TypeDesc.named _ _)=>true|_=>false)
theorem row_0:(List.range' 0 100).all rowP=true:=by kernel_rfl
theorem row_1:(List.range' 100 100).all rowP=true:=by kernel_rfl
theorem row_2:(List.range' 200 100).all rowP=true:=by kernel_rfl
theorem row_3:(List.range' 300 100).all rowP=true:=by kernel_rfl
theorem row_4:(List.range' 400 100).all rowP=true:=by kernel_rfl
theorem row_5:(List.range' 500 100).all rowP=true:=by kernel_rfl
theorem row_6:(List.range' 600 100).all rowP=true:=by kernel_rfl
theorem row_7:(List.range' 700 82).all rowP=true:=by kernel_rfl
theorem Qnc:(List.range' 0 100).all nameP=true:=by kernel_rfl
theorem Qnb:(List.range' 100 100).all nameP=true:=by kernel_rfl
theorem Qna:(List.range' 200 100).all nameP=true:=by kernel_rfl
theorem Qn9:(List.range' 300 100).all nameP=true:=by kernel_rfl
theorem Qn8:(List.range' 400 100).all nameP=true:=by kernel_rfl
theorem Qn7:(List.range' 500 100).all nameP=true:=by kernel_rfl
theorem Qn6:(List.range' 600 100).all nameP=true:=by kernel_rfl
theorem Qn5:(List.range' 700 82).all nameP=true:=by kernel_rfl
theorem types_n:Tryz.prog.types.size=782:=by kernel_rfl
theorem row_all (u:Nat) (h:u<782):rowP u=true:=by by_cases h0:u<100;exact List.all_eq_true.1 row_0 u (by rw [List.mem_range'_1];omega);by_cases h1:u<200;exact List.all_eq_true.1 row_1 u (by rw [List.mem_range'_1];omega);by_cases h2:u<300;exact List.all_eq_true.1 row_2 u (by rw [List.mem_range'_1];omega);by_cases h3:u<400;exact List.all_eq_true.1 row_3 u (by rw [List.mem_range'_1];omega);by_cases h4:u<500;exact List.all_eq_true.1 row_4 u (by rw [List.mem_range'_1];omega);by_cases h5:u<600;exact List.all_eq_true.1 row_5 u (by rw [List.mem_range'_1];omega);by_cases h6:u<700;exact List.all_eq_true.1 row_6 u (by rw [List.mem_range'_1];omega);by_cases h7:u<782;exact List.all_eq_true.1 row_7 u (by rw [List.mem_range'_1];omega);omega
theorem name_all (u:Nat) (h:u<782):nameP u=true:=by by_cases h0:u<100;exact List.all_eq_true.1 Qnc u (by rw [List.mem_range'_1];omega);by_cases h1:u<200;exact List.all_eq_true.1 Qnb u (by rw [List.mem_range'_1];omega);by_cases h2:u<300;exact List.all_eq_true.1 Qna u (by rw [List.mem_range'_1];omega);by_cases h3:u<400;exact List.all_eq_true.1 Qn9 u (by rw [List.mem_range'_1];omega);by_cases h4:u<500;exact List.all_eq_true.1 Qn8 u (by rw [List.mem_range'_1];omega);by_cases h5:u<600;exact List.all_eq_true.1 Qn7 u (by rw [List.mem_range'_1];omega);by_cases h6:u<700;exact List.all_eq_true.1 Qn6 u (by rw [List.mem_range'_1];omega);by_cases h7:u<782;exact List.all_eq_true.1 Qn5 u (by rw [List.mem_range'_1];omega);omega
end Go.Proofs.YtmfeholdlgfpbaaGreatDoor
