/-
 The law on limits: hops. Conditions: none.
-/
import Derived.Test.YtmbajnmaeikceaaGreatDoorNLs
namespace Go.Proofs.YtmbajnmaeikceaaGreatDoor
open Go Go.Ax Go.RowKit Go.Proofs
theorem Quf : Qm3 5 zx GL 200 17 l00t [5, 4, 0] [] (kpL lBt) [] lBt := by unfold Qm3; kernel_rfl
theorem Qup : Qm3 5 zx GL 200 17 (Z7u.am 8000) [8, 7, 1] [(280, eL 1)] (kpT Qs0) [] Qs0 := by unfold Qm3; kernel_rfl
theorem Z69 : Qm3 5 zx GL 200 17 (Qp2.am 8000) [8, 7, 1] [(280, eL 1)] (kpT Qrz) [] Qrz := by unfold Qm3; kernel_rfl
theorem Qug : Qm3 5 zx GL 200 17 l00f [5, 4, 0] [] (kpL lBf) [] lBf := by unfold Qm3; kernel_rfl
theorem Quq : Qm3 5 zx GL 200 17 (Z7w.am 8000) [9, 6, 1] [(280, eL 1)] (kpT Qs2) [] Qs2 := by unfold Qm3; kernel_rfl
theorem Z6a : Qm3 5 zx GL 200 17 (Qp3.am 8000) [9, 6, 1] [(280, eL 1)] (kpT Qs1) [] Qs1 := by unfold Qm3; kernel_rfl
end Go.Proofs.YtmbajnmaeikceaaGreatDoor
namespace Go.Proofs.YtmbajnmaeikceaaGreatDoor
open Go Go.Ax Go.RowKit Go.Proofs
theorem Qt6 : Qm3 5 zx GL 200 17 ((clF pkL lBt 16).am 8000) [3, 1] [] (kpL Qp2) [(299, 250)] Qp2 := by unfold Qm3; kernel_rfl
theorem Qt5 : Qm3 5 zx GL 200 17 ((clF pkL lBt 17).am 8000) [3, 1] [] (kpL Qp2) [(299, 252)] Qp2 := by unfold Qm3; kernel_rfl
theorem Qt4 : Qm3 5 zx GL 200 17 ((clF pkL lBt 18).am 8000) [3, 1, 0] [] (kpL Qp2) [(299, 254)] Qp2 := by unfold Qm3; kernel_rfl
theorem Qt3 : Qm3 5 zx GL 200 17 ((clF pkL lBt 19).am 8000) [3, 1, 0] [] (kpL Qp2) [(299, 256)] Qp2 := by unfold Qm3; kernel_rfl
theorem Qt2 : Qm3 5 zx GL 200 17 ((clF pkL lBt 20).am 8000) [3, 1, 0] [] (kpL Qp2) [(299, 258)] Qp2 := by unfold Qm3; kernel_rfl
theorem Qt1 : Qm3 5 zx GL 200 17 ((clF pkL lBt 21).am 8000) [3, 1, 0] [] (kpL Qp2) [(299, 260)] Qp2 := by unfold Qm3; kernel_rfl
theorem Qt0 : Qm3 5 zx GL 200 17 ((clF pkL lBt 22).am 8000) [3, 1, 0] [] (kpL Qp2) [(299, 262)] Qp2 := by unfold Qm3; kernel_rfl
theorem Qsz : Qm3 5 zx GL 200 17 ((clF pkL lBt 23).am 8000) [3, 1, 0] [] (kpL Qp2) [(299, 264)] Qp2 := by unfold Qm3; kernel_rfl
theorem Qsy : Qm3 5 zx GL 200 17 ((clF pkL lBt 24).am 8000) [3, 1, 0] [] (kpL Qp2) [(299, 266)] Qp2 := by unfold Qm3; kernel_rfl
theorem Qsx : Qm3 5 zx GL 200 17 ((clF pkL lBt 25).am 8000) [3, 1, 0] [] (kpL Qp2) [(299, 268)] Qp2 := by unfold Qm3; kernel_rfl
theorem Qsw : Qm3 5 zx GL 200 17 ((clF pkL lBt 26).am 8000) [3, 1, 0] [] (kpL Qp2) [(299, 270)] Qp2 := by unfold Qm3; kernel_rfl
theorem Qsv : Qm3 5 zx GL 200 17 ((clF pkL lBt 27).am 8000) [3, 1, 0] [] (kpL Qp2) [(299, 272)] Qp2 := by unfold Qm3; kernel_rfl
theorem Qsu : Qm3 5 zx GL 200 17 ((clF pkL lBt 28).am 8000) [3, 1, 0] [] (kpL Qp2) [(299, 274)] Qp2 := by unfold Qm3; kernel_rfl
theorem Qst : Qm3 5 zx GL 200 17 ((clT pkL lBt 29).am 8000) [3, 1, 0] [] (kpL Qp2) [(299, 276)] Qp2 := by unfold Qm3; kernel_rfl
end Go.Proofs.YtmbajnmaeikceaaGreatDoor
namespace Go.Proofs.YtmbajnmaeikceaaGreatDoor
open Go Go.Ax Go.RowKit Go.Proofs
theorem Quj : Qm3 5 zx GL 200 17 (lTtan.am 8000) [7, 5, 2, 0] (jl 280) (kpT Qs0) [] Qs0 := by unfold Qm3; kernel_rfl
end Go.Proofs.YtmbajnmaeikceaaGreatDoor
namespace Go.Proofs.YtmbajnmaeikceaaGreatDoor
open Go Go.Ax Go.RowKit Go.Proofs
theorem Quk : Qm3 5 zx GL 200 17 (Z7r.am 8000) [10, 8, 7, 6, 5, 2, 1, 0] [] (kpL Qpz) [] Qpz := by unfold Qm3; kernel_rfl
end Go.Proofs.YtmbajnmaeikceaaGreatDoor
namespace Go.Proofs.YtmbajnmaeikceaaGreatDoor
open Go Go.Ax Go.RowKit Go.Proofs
theorem Quh : Qm3 5 zx GL 200 17 (lTtbn.am 8000) [7, 5, 2, 0] (jl 280) (kpT Qrz) [] Qrz := by unfold Qm3; kernel_rfl
end Go.Proofs.YtmbajnmaeikceaaGreatDoor
namespace Go.Proofs.YtmbajnmaeikceaaGreatDoor
open Go Go.Ax Go.RowKit Go.Proofs
theorem Qui : Qm3 5 zx GL 200 17 (Z7q.am 8000) [10, 8, 7, 6, 5, 2, 1, 0] [] (kpL Qpy) [] Qpy := by unfold Qm3; kernel_rfl
end Go.Proofs.YtmbajnmaeikceaaGreatDoor
namespace Go.Proofs.YtmbajnmaeikceaaGreatDoor
open Go Go.Ax Go.RowKit Go.Proofs
theorem Qud : Ji zx GL 200 3 (λ c v => (Sp.lit true).chk c v) 17 3 [] (Z7v.am 8000) = true := by kernel_rfl
end Go.Proofs.YtmbajnmaeikceaaGreatDoor
namespace Go.Proofs.YtmbajnmaeikceaaGreatDoor
open Go Go.Ax Go.RowKit Go.Proofs
theorem Qsh : Ji zx GL 200 3 (λ c v => (Sp.lit true).chk c v) 17 3 [] (Qpz.am 8000) = true := by kernel_rfl
end Go.Proofs.YtmbajnmaeikceaaGreatDoor
namespace Go.Proofs.YtmbajnmaeikceaaGreatDoor
open Go Go.Ax Go.RowKit Go.Proofs
theorem Qsg : Ji zx GL 200 3 (λ c v => (Sp.lit true).chk c v) 17 3 [] (Qpy.am 8000) = true := by kernel_rfl
end Go.Proofs.YtmbajnmaeikceaaGreatDoor
