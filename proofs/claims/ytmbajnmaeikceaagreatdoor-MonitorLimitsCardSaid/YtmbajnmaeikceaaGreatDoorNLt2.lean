/-
 The law on limits: hops. Conditions: none.
-/
import Derived.Test.YtmbajnmaeikceaaGreatDoorNLs
namespace Go.Proofs.YtmbajnmaeikceaaGreatDoor
open Go Go.Ax Go.RowKit Go.Proofs
theorem Qvi : Qm3 5 zx GL 200 17 ((clF pkL lBt 6).am 8000) [10, 7, 5, 2, 1] [] (kpL (lMt 6)) [] (lMt 6) := by unfold Qm3; kernel_rfl
end Go.Proofs.YtmbajnmaeikceaaGreatDoor
namespace Go.Proofs.YtmbajnmaeikceaaGreatDoor
open Go Go.Ax Go.RowKit Go.Proofs
theorem Z6y : Qm3 5 zx GL 200 17 ((lMt 6).am 8000) [12] [] (kpL (lNt 6)) [] (lNt 6) := by unfold Qm3; kernel_rfl
end Go.Proofs.YtmbajnmaeikceaaGreatDoor
namespace Go.Proofs.YtmbajnmaeikceaaGreatDoor
open Go Go.Ax Go.RowKit Go.Proofs
theorem Z6e : Qm3 5 zx GL 200 17 ((lNt 6).am 8000) [11, 10, 9, 7, 6, 5, 4, 2, 1, 0] [] (kpL Qoy) [(299, 1702)] Qoy := by unfold Qm3; kernel_rfl
end Go.Proofs.YtmbajnmaeikceaaGreatDoor
namespace Go.Proofs.YtmbajnmaeikceaaGreatDoor
open Go Go.Ax Go.RowKit Go.Proofs
theorem Qvh : Qm3 5 zx GL 200 17 ((clF pkL lBt 7).am 8000) [10, 7, 5, 4, 0] [] (kpL (lMt 7)) [] (lMt 7) := by unfold Qm3; kernel_rfl
end Go.Proofs.YtmbajnmaeikceaaGreatDoor
namespace Go.Proofs.YtmbajnmaeikceaaGreatDoor
open Go Go.Ax Go.RowKit Go.Proofs
theorem Z6x : Qm3 5 zx GL 200 17 ((lMt 7).am 8000) [12] [] (kpL (lNt 7)) [] (lNt 7) := by unfold Qm3; kernel_rfl
end Go.Proofs.YtmbajnmaeikceaaGreatDoor
namespace Go.Proofs.YtmbajnmaeikceaaGreatDoor
open Go Go.Ax Go.RowKit Go.Proofs
theorem Z6d : Qm3 5 zx GL 200 17 ((lNt 7).am 8000) [11, 10, 9, 8, 6, 3, 2, 1] [] (kpL Qoy) [(299, 1719)] Qoy := by unfold Qm3; kernel_rfl
end Go.Proofs.YtmbajnmaeikceaaGreatDoor
namespace Go.Proofs.YtmbajnmaeikceaaGreatDoor
open Go Go.Ax Go.RowKit Go.Proofs
theorem Qvg : Qm3 5 zx GL 200 17 ((clF pkL lBt 8).am 8000) [10, 7, 5, 4, 3, 2] [] (kpL (lMt 8)) [] (lMt 8) := by unfold Qm3; kernel_rfl
end Go.Proofs.YtmbajnmaeikceaaGreatDoor
namespace Go.Proofs.YtmbajnmaeikceaaGreatDoor
open Go Go.Ax Go.RowKit Go.Proofs
theorem Z6w : Qm3 5 zx GL 200 17 ((lMt 8).am 8000) [12] [] (kpL (lNt 8)) [] (lNt 8) := by unfold Qm3; kernel_rfl
end Go.Proofs.YtmbajnmaeikceaaGreatDoor
namespace Go.Proofs.YtmbajnmaeikceaaGreatDoor
open Go Go.Ax Go.RowKit Go.Proofs
theorem Z6c : Qm3 5 zx GL 200 17 ((lNt 8).am 8000) [11, 10, 9, 8, 7, 5, 2, 0] [] (kpL Qoy) [(299, 1736)] Qoy := by unfold Qm3; kernel_rfl
end Go.Proofs.YtmbajnmaeikceaaGreatDoor
