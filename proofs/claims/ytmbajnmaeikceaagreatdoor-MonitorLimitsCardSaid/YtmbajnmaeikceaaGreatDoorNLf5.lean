/-
 The law on limits: hops. Conditions: none.
-/
import Derived.Test.YtmbajnmaeikceaaGreatDoorNLs
namespace Go.Proofs.YtmbajnmaeikceaaGreatDoor
open Go Go.Ax Go.RowKit Go.Proofs
theorem Qtq : Qm3 5 zx GL 200 17 ((clF pkL lBf 16).am 8000) [3, 1] [] (kpL Qp3) [(299, 256)] Qp3 := by unfold Qm3; kernel_rfl
theorem Qtp : Qm3 5 zx GL 200 17 ((clF pkL lBf 17).am 8000) [3, 1] [] (kpL Qp3) [(299, 258)] Qp3 := by unfold Qm3; kernel_rfl
theorem Qto : Qm3 5 zx GL 200 17 ((clF pkL lBf 18).am 8000) [3, 1, 0] [] (kpL Qp3) [(299, 260)] Qp3 := by unfold Qm3; kernel_rfl
theorem Qtn : Qm3 5 zx GL 200 17 ((clF pkL lBf 19).am 8000) [3, 1, 0] [] (kpL Qp3) [(299, 262)] Qp3 := by unfold Qm3; kernel_rfl
theorem Qtm : Qm3 5 zx GL 200 17 ((clF pkL lBf 20).am 8000) [3, 1, 0] [] (kpL Qp3) [(299, 264)] Qp3 := by unfold Qm3; kernel_rfl
theorem Qtl : Qm3 5 zx GL 200 17 ((clF pkL lBf 21).am 8000) [3, 1, 0] [] (kpL Qp3) [(299, 266)] Qp3 := by unfold Qm3; kernel_rfl
theorem Qtk : Qm3 5 zx GL 200 17 ((clF pkL lBf 22).am 8000) [3, 1, 0] [] (kpL Qp3) [(299, 268)] Qp3 := by unfold Qm3; kernel_rfl
theorem Qtj : Qm3 5 zx GL 200 17 ((clF pkL lBf 23).am 8000) [3, 1, 0] [] (kpL Qp3) [(299, 270)] Qp3 := by unfold Qm3; kernel_rfl
theorem Qti : Qm3 5 zx GL 200 17 ((clF pkL lBf 24).am 8000) [3, 1, 0] [] (kpL Qp3) [(299, 272)] Qp3 := by unfold Qm3; kernel_rfl
theorem Qth : Qm3 5 zx GL 200 17 ((clF pkL lBf 25).am 8000) [3, 1, 0] [] (kpL Qp3) [(299, 274)] Qp3 := by unfold Qm3; kernel_rfl
theorem Qtg : Qm3 5 zx GL 200 17 ((clF pkL lBf 26).am 8000) [3, 1, 0] [] (kpL Qp3) [(299, 276)] Qp3 := by unfold Qm3; kernel_rfl
theorem Qtf : Qm3 5 zx GL 200 17 ((clF pkL lBf 27).am 8000) [3, 1, 0] [] (kpL Qp3) [(299, 278)] Qp3 := by unfold Qm3; kernel_rfl
theorem Qte : Qm3 5 zx GL 200 17 ((clF pkL lBf 28).am 8000) [3, 1, 0] [] (kpL Qp3) [(299, 280)] Qp3 := by unfold Qm3; kernel_rfl
theorem Qtd : Qm3 5 zx GL 200 17 ((clT pkL lBf 29).am 8000) [3, 1, 0] [] (kpL Qp3) [(299, 282)] Qp3 := by unfold Qm3; kernel_rfl
end Go.Proofs.YtmbajnmaeikceaaGreatDoor
namespace Go.Proofs.YtmbajnmaeikceaaGreatDoor
open Go Go.Ax Go.RowKit Go.Proofs
theorem Qun : Qm3 5 zx GL 200 17 (lTfan.am 8000) [7, 6, 5, 2] (jl 280) (kpT Qs2) [] Qs2 := by unfold Qm3; kernel_rfl
end Go.Proofs.YtmbajnmaeikceaaGreatDoor
namespace Go.Proofs.YtmbajnmaeikceaaGreatDoor
open Go Go.Ax Go.RowKit Go.Proofs
theorem Quo : Qm3 5 zx GL 200 17 (Z7t.am 8000) [10, 8, 7, 4, 3, 2, 1, 0] [] (kpL Qq3) [] Qq3 := by unfold Qm3; kernel_rfl
end Go.Proofs.YtmbajnmaeikceaaGreatDoor
namespace Go.Proofs.YtmbajnmaeikceaaGreatDoor
open Go Go.Ax Go.RowKit Go.Proofs
theorem Qss : Qm3 5 zx GL 200 17 (Qq3.am 8000) [10, 8, 7, 3, 2, 0] [] (kpL Qq2) [] Qq2 := by unfold Qm3; kernel_rfl
end Go.Proofs.YtmbajnmaeikceaaGreatDoor
namespace Go.Proofs.YtmbajnmaeikceaaGreatDoor
open Go Go.Ax Go.RowKit Go.Proofs
theorem Qul : Qm3 5 zx GL 200 17 (lTfbn.am 8000) [7, 6, 5, 2] (jl 280) (kpT Qs1) [] Qs1 := by unfold Qm3; kernel_rfl
end Go.Proofs.YtmbajnmaeikceaaGreatDoor
namespace Go.Proofs.YtmbajnmaeikceaaGreatDoor
open Go Go.Ax Go.RowKit Go.Proofs
theorem Qum : Qm3 5 zx GL 200 17 (Z7s.am 8000) [10, 8, 7, 4, 3, 2, 1, 0] [] (kpL Qq1) [] Qq1 := by unfold Qm3; kernel_rfl
end Go.Proofs.YtmbajnmaeikceaaGreatDoor
namespace Go.Proofs.YtmbajnmaeikceaaGreatDoor
open Go Go.Ax Go.RowKit Go.Proofs
theorem Qsr : Qm3 5 zx GL 200 17 (Qq1.am 8000) [10, 8, 7, 3, 2, 0] [] (kpL Qq0) [] Qq0 := by unfold Qm3; kernel_rfl
end Go.Proofs.YtmbajnmaeikceaaGreatDoor
namespace Go.Proofs.YtmbajnmaeikceaaGreatDoor
open Go Go.Ax Go.RowKit Go.Proofs
theorem Que : Ji zx GL 200 3 (λ c v => (Sp.lit true).chk c v) 17 3 [] (Z7x.am 8000) = true := by kernel_rfl
end Go.Proofs.YtmbajnmaeikceaaGreatDoor
namespace Go.Proofs.YtmbajnmaeikceaaGreatDoor
open Go Go.Ax Go.RowKit Go.Proofs
theorem Qsj : Ji zx GL 200 3 (λ c v => (Sp.lit true).chk c v) 17 3 [] (Qq2.am 8000) = true := by kernel_rfl
end Go.Proofs.YtmbajnmaeikceaaGreatDoor
namespace Go.Proofs.YtmbajnmaeikceaaGreatDoor
open Go Go.Ax Go.RowKit Go.Proofs
theorem Qsi : Ji zx GL 200 3 (λ c v => (Sp.lit true).chk c v) 17 3 [] (Qq0.am 8000) = true := by kernel_rfl
end Go.Proofs.YtmbajnmaeikceaaGreatDoor
