/-
 The law on limits: hops. Conditions: none.
-/
import Derived.Test.YtmbajnmaeikceaaGreatDoorNLs
namespace Go.Proofs.YtmbajnmaeikceaaGreatDoor
open Go Go.Ax Go.RowKit Go.Proofs
theorem Qvl : Qm3 5 zx GL 200 17 ((clF pkL lBt 3).am 8000) [10, 7, 2, 0] [] (kpL (lMt 3)) [] (lMt 3) := by unfold Qm3; kernel_rfl
end Go.Proofs.YtmbajnmaeikceaaGreatDoor
namespace Go.Proofs.YtmbajnmaeikceaaGreatDoor
open Go Go.Ax Go.RowKit Go.Proofs
theorem Z71 : Qm3 5 zx GL 200 17 ((lMt 3).am 8000) [12] [] (kpL (lNt 3)) [] (lNt 3) := by unfold Qm3; kernel_rfl
end Go.Proofs.YtmbajnmaeikceaaGreatDoor
namespace Go.Proofs.YtmbajnmaeikceaaGreatDoor
open Go Go.Ax Go.RowKit Go.Proofs
theorem Z6h : Qm3 5 zx GL 200 17 ((lNt 3).am 8000) [11, 10, 8, 7, 6, 5, 4, 1] [] (kpL Qoy) [(299, 1651)] Qoy := by unfold Qm3; kernel_rfl
end Go.Proofs.YtmbajnmaeikceaaGreatDoor
namespace Go.Proofs.YtmbajnmaeikceaaGreatDoor
open Go Go.Ax Go.RowKit Go.Proofs
theorem Qvk : Qm3 5 zx GL 200 17 ((clF pkL lBt 4).am 8000) [10, 7, 4] [] (kpL (lMt 4)) [] (lMt 4) := by unfold Qm3; kernel_rfl
end Go.Proofs.YtmbajnmaeikceaaGreatDoor
namespace Go.Proofs.YtmbajnmaeikceaaGreatDoor
open Go Go.Ax Go.RowKit Go.Proofs
theorem Z70 : Qm3 5 zx GL 200 17 ((lMt 4).am 8000) [12] [] (kpL (lNt 4)) [] (lNt 4) := by unfold Qm3; kernel_rfl
end Go.Proofs.YtmbajnmaeikceaaGreatDoor
namespace Go.Proofs.YtmbajnmaeikceaaGreatDoor
open Go Go.Ax Go.RowKit Go.Proofs
theorem Z6g : Qm3 5 zx GL 200 17 ((lNt 4).am 8000) [11, 10, 9, 6, 3, 0] [] (kpL Qoy) [(299, 1668)] Qoy := by unfold Qm3; kernel_rfl
end Go.Proofs.YtmbajnmaeikceaaGreatDoor
namespace Go.Proofs.YtmbajnmaeikceaaGreatDoor
open Go Go.Ax Go.RowKit Go.Proofs
theorem Qvj : Qm3 5 zx GL 200 17 ((clF pkL lBt 5).am 8000) [10, 7, 4, 3, 1, 0] [] (kpL (lMt 5)) [] (lMt 5) := by unfold Qm3; kernel_rfl
end Go.Proofs.YtmbajnmaeikceaaGreatDoor
namespace Go.Proofs.YtmbajnmaeikceaaGreatDoor
open Go Go.Ax Go.RowKit Go.Proofs
theorem Z6z : Qm3 5 zx GL 200 17 ((lMt 5).am 8000) [12] [] (kpL (lNt 5)) [] (lNt 5) := by unfold Qm3; kernel_rfl
end Go.Proofs.YtmbajnmaeikceaaGreatDoor
namespace Go.Proofs.YtmbajnmaeikceaaGreatDoor
open Go Go.Ax Go.RowKit Go.Proofs
theorem Z6f : Qm3 5 zx GL 200 17 ((lNt 5).am 8000) [11, 10, 9, 7, 5] [] (kpL Qoy) [(299, 1685)] Qoy := by unfold Qm3; kernel_rfl
end Go.Proofs.YtmbajnmaeikceaaGreatDoor
