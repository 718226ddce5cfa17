/-
 The law on limits: hops. Conditions: none.
-/
import Derived.Test.YtmbajnmaeikceaaGreatDoorNLs
namespace Go.Proofs.YtmbajnmaeikceaaGreatDoor
open Go Go.Ax Go.RowKit Go.Proofs
theorem Qvo : Qm3 5 zx GL 200 17 ((clF pkL lBt 0).am 8000) [10, 6, 5, 2] [] (kpL (lMt 0)) [] (lMt 0) := by unfold Qm3; kernel_rfl
end Go.Proofs.YtmbajnmaeikceaaGreatDoor
namespace Go.Proofs.YtmbajnmaeikceaaGreatDoor
open Go Go.Ax Go.RowKit Go.Proofs
theorem Z74 : Qm3 5 zx GL 200 17 ((lMt 0).am 8000) [12] [] (kpL (lNt 0)) [] (lNt 0) := by unfold Qm3; kernel_rfl
end Go.Proofs.YtmbajnmaeikceaaGreatDoor
namespace Go.Proofs.YtmbajnmaeikceaaGreatDoor
open Go Go.Ax Go.RowKit Go.Proofs
theorem Z6k : Qm3 5 zx GL 200 17 ((lNt 0).am 8000) [11, 10, 7, 6, 5, 3, 2, 0] [] (kpL Qoy) [(299, 1600)] Qoy := by unfold Qm3; kernel_rfl
end Go.Proofs.YtmbajnmaeikceaaGreatDoor
namespace Go.Proofs.YtmbajnmaeikceaaGreatDoor
open Go Go.Ax Go.RowKit Go.Proofs
theorem Qvn : Qm3 5 zx GL 200 17 ((clF pkL lBt 1).am 8000) [10, 6, 5, 3, 2, 1, 0] [] (kpL (lMt 1)) [] (lMt 1) := by unfold Qm3; kernel_rfl
end Go.Proofs.YtmbajnmaeikceaaGreatDoor
namespace Go.Proofs.YtmbajnmaeikceaaGreatDoor
open Go Go.Ax Go.RowKit Go.Proofs
theorem Z73 : Qm3 5 zx GL 200 17 ((lMt 1).am 8000) [12] [] (kpL (lNt 1)) [] (lNt 1) := by unfold Qm3; kernel_rfl
end Go.Proofs.YtmbajnmaeikceaaGreatDoor
namespace Go.Proofs.YtmbajnmaeikceaaGreatDoor
open Go Go.Ax Go.RowKit Go.Proofs
theorem Z6j : Qm3 5 zx GL 200 17 ((lNt 1).am 8000) [11, 10, 8, 6, 2] [] (kpL Qoy) [(299, 1617)] Qoy := by unfold Qm3; kernel_rfl
end Go.Proofs.YtmbajnmaeikceaaGreatDoor
namespace Go.Proofs.YtmbajnmaeikceaaGreatDoor
open Go Go.Ax Go.RowKit Go.Proofs
theorem Qvm : Qm3 5 zx GL 200 17 ((clF pkL lBt 2).am 8000) [10, 6, 5, 4, 3, 1] [] (kpL (lMt 2)) [] (lMt 2) := by unfold Qm3; kernel_rfl
end Go.Proofs.YtmbajnmaeikceaaGreatDoor
namespace Go.Proofs.YtmbajnmaeikceaaGreatDoor
open Go Go.Ax Go.RowKit Go.Proofs
theorem Z72 : Qm3 5 zx GL 200 17 ((lMt 2).am 8000) [12] [] (kpL (lNt 2)) [] (lNt 2) := by unfold Qm3; kernel_rfl
end Go.Proofs.YtmbajnmaeikceaaGreatDoor
namespace Go.Proofs.YtmbajnmaeikceaaGreatDoor
open Go Go.Ax Go.RowKit Go.Proofs
theorem Z6i : Qm3 5 zx GL 200 17 ((lNt 2).am 8000) [11, 10, 8, 7, 4, 3, 1, 0] [] (kpL Qoy) [(299, 1634)] Qoy := by unfold Qm3; kernel_rfl
end Go.Proofs.YtmbajnmaeikceaaGreatDoor
