/-
 The types' rows are sound, shown in parts. Conditions: none.
-/
import Derived.Test.YtmfeholdlgfpbaaGreatDoorProg
import Derived.JoinedCond
import Derived.SevenTiedAt
import Derived.KernelRfl
namespace Go.Proofs.YtmfeholdlgfpbaaGreatDoor
open Go Go.Proofs
set_option maxRecDepth 100000
theorem Qn2:Tryz.prog.types.size=782:=by kernel_rfl
theorem rf0:((List.range' 0 100).all λu=>rowFine Tryz.prog u)=true:=by kernel_rfl
theorem rf1:((List.range' 100 100).all λu=>rowFine Tryz.prog u)=true:=by kernel_rfl
theorem rf2:((List.range' 200 100).all λu=>rowFine Tryz.prog u)=true:=by kernel_rfl
theorem rf3:((List.range' 300 100).all λu=>rowFine Tryz.prog u)=true:=by kernel_rfl
theorem rf4:((List.range' 400 100).all λu=>rowFine Tryz.prog u)=true:=by kernel_rfl
theorem rf5:((List.range' 500 100).all λu=>rowFine Tryz.prog u)=true:=by kernel_rfl
theorem rf6:((List.range' 600 100).all λu=>rowFine Tryz.prog u)=true:=by kernel_rfl
theorem rf7:((List.range' 700 82).all λu=>rowFine Tryz.prog u)=true:=by kernel_rfl
theorem Qms (u:Nat) (h:u<782):(rowFine Tryz.prog u)=true:=by by_cases h0:u<100;exact List.all_eq_true.1 rf0 u (by rw [List.mem_range'_1];omega);by_cases h1:u<200;exact List.all_eq_true.1 rf1 u (by rw [List.mem_range'_1];omega);by_cases h2:u<300;exact List.all_eq_true.1 rf2 u (by rw [List.mem_range'_1];omega);by_cases h3:u<400;exact List.all_eq_true.1 rf3 u (by rw [List.mem_range'_1];omega);by_cases h4:u<500;exact List.all_eq_true.1 rf4 u (by rw [List.mem_range'_1];omega);by_cases h5:u<600;exact List.all_eq_true.1 rf5 u (by rw [List.mem_range'_1];omega);by_cases h6:u<700;exact List.all_eq_true.1 rf6 u (by rw [List.mem_range'_1];omega);by_cases h7:u<782;exact List.all_eq_true.1 rf7 u (by rw [List.mem_range'_1];omega);omega
theorem j_lay1:(List.range Tryz.prog.types.size).all (rowFine Tryz.prog)=true:=List.all_eq_true.2 λu hu=>Qms u (by rw [List.mem_range,Qn2] at hu;exact hu)
theorem j_lay2:(Tryz.prog.globals.all (λg=>decide (g.type<Tryz.prog.types.size)))=true:=by kernel_rfl
end Go.Proofs.YtmfeholdlgfpbaaGreatDoor
