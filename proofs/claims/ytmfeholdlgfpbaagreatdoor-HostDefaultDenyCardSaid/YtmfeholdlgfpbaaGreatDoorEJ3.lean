/-
 Maps have rows, no function bears a stop; shown in parts. Conditions: none.
-/
import Derived.Test.YtmfeholdlgfpbaaGreatDoorProg
import Derived.JoinedCond
import Derived.SevenTiedAt
import Derived.KernelRfl
import Derived.Test.YtmfeholdlgfpbaaGreatDoorEJ1
import Derived.Test.YtmfeholdlgfpbaaGreatDoorEC5
namespace Go.Proofs.YtmfeholdlgfpbaaGreatDoor
open Go Go.Proofs
set_option maxRecDepth 100000
theorem mr0:((List.range' 0 100).all λu=>match Tryz.prog.underlying u with|some (.map _ e)=>decide (e<782)|_=>true)=true:=by kernel_rfl
theorem mr1:((List.range' 100 100).all λu=>match Tryz.prog.underlying u with|some (.map _ e)=>decide (e<782)|_=>true)=true:=by kernel_rfl
theorem mr2:((List.range' 200 100).all λu=>match Tryz.prog.underlying u with|some (.map _ e)=>decide (e<782)|_=>true)=true:=by kernel_rfl
theorem mr3:((List.range' 300 100).all λu=>match Tryz.prog.underlying u with|some (.map _ e)=>decide (e<782)|_=>true)=true:=by kernel_rfl
theorem mr4:((List.range' 400 100).all λu=>match Tryz.prog.underlying u with|some (.map _ e)=>decide (e<782)|_=>true)=true:=by kernel_rfl
theorem mr5:((List.range' 500 100).all λu=>match Tryz.prog.underlying u with|some (.map _ e)=>decide (e<782)|_=>true)=true:=by kernel_rfl
theorem mr6:((List.range' 600 100).all λu=>match Tryz.prog.underlying u with|some (.map _ e)=>decide (e<782)|_=>true)=true:=by kernel_rfl
theorem mr7:((List.range' 700 82).all λu=>match Tryz.prog.underlying u with|some (.map _ e)=>decide (e<782)|_=>true)=true:=by kernel_rfl
theorem Zhb (u:Nat) (h:u<782):(match Tryz.prog.underlying u with|some (.map _ e)=>decide (e<782)|_=>true)=true:=by by_cases h0:u<100;exact List.all_eq_true.1 mr0 u (by rw [List.mem_range'_1];omega);by_cases h1:u<200;exact List.all_eq_true.1 mr1 u (by rw [List.mem_range'_1];omega);by_cases h2:u<300;exact List.all_eq_true.1 mr2 u (by rw [List.mem_range'_1];omega);by_cases h3:u<400;exact List.all_eq_true.1 mr3 u (by rw [List.mem_range'_1];omega);by_cases h4:u<500;exact List.all_eq_true.1 mr4 u (by rw [List.mem_range'_1];omega);by_cases h5:u<600;exact List.all_eq_true.1 mr5 u (by rw [List.mem_range'_1];omega);by_cases h6:u<700;exact List.all_eq_true.1 mr6 u (by rw [List.mem_range'_1];omega);by_cases h7:u<782;exact List.all_eq_true.1 mr7 u (by rw [List.mem_range'_1];omega);omega
theorem Zhe:mapsRowed Tryz.prog=true:=by unfold mapsRowed;rw [Qn2];exact List.all_eq_true.2 λu hu=>Zhb u (by rw [List.mem_range] at hu;exact hu)
theorem sh0:((List.range' 0 100).all λu=>(Tryz.prog.funcs[u]?).all λfn=>(Stop.rowOf fn).isNone||!fn.norace)=true:=by kernel_rfl
theorem sh1:((List.range' 100 100).all λu=>(Tryz.prog.funcs[u]?).all λfn=>(Stop.rowOf fn).isNone||!fn.norace)=true:=by kernel_rfl
theorem sh2:((List.range' 200 100).all λu=>(Tryz.prog.funcs[u]?).all λfn=>(Stop.rowOf fn).isNone||!fn.norace)=true:=by kernel_rfl
theorem sh3:((List.range' 300 100).all λu=>(Tryz.prog.funcs[u]?).all λfn=>(Stop.rowOf fn).isNone||!fn.norace)=true:=by kernel_rfl
theorem sh4:((List.range' 400 100).all λu=>(Tryz.prog.funcs[u]?).all λfn=>(Stop.rowOf fn).isNone||!fn.norace)=true:=by kernel_rfl
theorem sh5:((List.range' 500 100).all λu=>(Tryz.prog.funcs[u]?).all λfn=>(Stop.rowOf fn).isNone||!fn.norace)=true:=by kernel_rfl
theorem sh6:((List.range' 600 100).all λu=>(Tryz.prog.funcs[u]?).all λfn=>(Stop.rowOf fn).isNone||!fn.norace)=true:=by kernel_rfl
theorem sh7:((List.range' 700 6).all λu=>(Tryz.prog.funcs[u]?).all λfn=>(Stop.rowOf fn).isNone||!fn.norace)=true:=by kernel_rfl
theorem Zha (u:Nat) (h:u<706):((Tryz.prog.funcs[u]?).all λfn=>(Stop.rowOf fn).isNone||!fn.norace)=true:=by by_cases h0:u<100;exact List.all_eq_true.1 sh0 u (by rw [List.mem_range'_1];omega);by_cases h1:u<200;exact List.all_eq_true.1 sh1 u (by rw [List.mem_range'_1];omega);by_cases h2:u<300;exact List.all_eq_true.1 sh2 u (by rw [List.mem_range'_1];omega);by_cases h3:u<400;exact List.all_eq_true.1 sh3 u (by rw [List.mem_range'_1];omega);by_cases h4:u<500;exact List.all_eq_true.1 sh4 u (by rw [List.mem_range'_1];omega);by_cases h5:u<600;exact List.all_eq_true.1 sh5 u (by rw [List.mem_range'_1];omega);by_cases h6:u<700;exact List.all_eq_true.1 sh6 u (by rw [List.mem_range'_1];omega);by_cases h7:u<706;exact List.all_eq_true.1 sh7 u (by rw [List.mem_range'_1];omega);omega
theorem Z74:Tryz.prog.stopsHeard=true:=by unfold Program.stopsHeard;rw [Array.all_eq_true];intro i hi;have:=Zha i (by rw [nfuncs] at hi;exact hi);simpa [Array.getElem?_eq_getElem hi] using this
end Go.Proofs.YtmfeholdlgfpbaaGreatDoor
