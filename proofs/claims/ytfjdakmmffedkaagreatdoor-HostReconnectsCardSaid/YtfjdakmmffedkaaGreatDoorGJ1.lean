/-
 The types' rows are sound, shown in parts. Conditions: none.
-/
import Derived.Test.YtfjdakmmffedkaaGreatDoorProg
import Derived.JoinedCond
import Derived.SevenTiedAt
import Derived.KernelRfl
namespace Go.Proofs.YtfjdakmmffedkaaGreatDoor
open Go Go.Proofs
set_option maxRecDepth 100000
theorem Qkm : Tryz.prog.types.size = 794 := by kernel_rfl
theorem rv0 : ((List.range' 0 100).all λ u => rowFine Tryz.prog u) = true := by kernel_rfl
theorem rv1 : ((List.range' 100 100).all λ u => rowFine Tryz.prog u) = true := by kernel_rfl
theorem rv2 : ((List.range' 200 100).all λ u => rowFine Tryz.prog u) = true := by kernel_rfl
theorem rv3 : ((List.range' 300 100).all λ u => rowFine Tryz.prog u) = true := by kernel_rfl
theorem rv4 : ((List.range' 400 100).all λ u => rowFine Tryz.prog u) = true := by kernel_rfl
theorem rv5 : ((List.range' 500 100).all λ u => rowFine Tryz.prog u) = true := by kernel_rfl
theorem rv6 : ((List.range' 600 100).all λ u => rowFine Tryz.prog u) = true := by kernel_rfl
theorem rv7 : ((List.range' 700 94).all λ u => rowFine Tryz.prog u) = true := by kernel_rfl
theorem Qkc (u : Nat) (h : u < 794) : (rowFine Tryz.prog u) = true := by
 by_cases h0 : u < 100
 . exact List.all_eq_true.1 rv0 u (by rw [List.mem_range'_1]; omega)
 by_cases h1 : u < 200
 . exact List.all_eq_true.1 rv1 u (by rw [List.mem_range'_1]; omega)
 by_cases h2 : u < 300
 . exact List.all_eq_true.1 rv2 u (by rw [List.mem_range'_1]; omega)
 by_cases h3 : u < 400
 . exact List.all_eq_true.1 rv3 u (by rw [List.mem_range'_1]; omega)
 by_cases h4 : u < 500
 . exact List.all_eq_true.1 rv4 u (by rw [List.mem_range'_1]; omega)
 by_cases h5 : u < 600
 . exact List.all_eq_true.1 rv5 u (by rw [List.mem_range'_1]; omega)
 by_cases h6 : u < 700
 . exact List.all_eq_true.1 rv6 u (by rw [List.mem_range'_1]; omega)
 by_cases h7 : u < 794
 . exact List.all_eq_true.1 rv7 u (by rw [List.mem_range'_1]; omega)
 omega
theorem j_lay1 : (List.range Tryz.prog.types.size).all (rowFine Tryz.prog) = true := List.all_eq_true.2 λ u hu => Qkc u (by rw [List.mem_range, Qkm] at hu; exact hu)
theorem j_lay2 : (Tryz.prog.globals.all (λ g => decide (g.type < Tryz.prog.types.size))) = true := by kernel_rfl
end Go.Proofs.YtfjdakmmffedkaaGreatDoor
