/-
 The law on limits: hops. Conditions: none.
-/
import Derived.Test.YtmbajnmaeikceaaGreatDoorNLs
namespace Go.Proofs.YtmbajnmaeikceaaGreatDoor
open Go Go.Ax Go.RowKit Go.Proofs
theorem Qvf : Qm3 5 zx GL 200 17 ((clF pkL lBt 9).am 8000) [10, 7, 6, 2, 1, 0] [] (kpL (lMt 9)) [] (lMt 9) := by unfold Qm3; kernel_rfl
end Go.Proofs.YtmbajnmaeikceaaGreatDoor
namespace Go.Proofs.YtmbajnmaeikceaaGreatDoor
open Go Go.Ax Go.RowKit Go.Proofs
theorem Z6v : Qm3 5 zx GL 200 17 ((lMt 9).am 8000) [12] [] (kpL (lNt 9)) [] (lNt 9) := by unfold Qm3; kernel_rfl
end Go.Proofs.YtmbajnmaeikceaaGreatDoor
namespace Go.Proofs.YtmbajnmaeikceaaGreatDoor
open Go Go.Ax Go.RowKit Go.Proofs
theorem Z6b : Qm3 5 zx GL 200 17 ((lNt 9).am 8000) [11, 10, 9, 8, 7, 6, 5, 4, 3, 2] [] (kpL Qoy) [(299, 1753)] Qoy := by unfold Qm3; kernel_rfl
end Go.Proofs.YtmbajnmaeikceaaGreatDoor
namespace Go.Proofs.YtmbajnmaeikceaaGreatDoor
open Go Go.Ax Go.RowKit Go.Proofs
theorem Qtc : Qm3 5 zx GL 200 17 ((clF pkL lBt 10).am 8000) [10, 7, 6, 4, 1] [] (kpL (lMt 10)) [] (lMt 10) := by unfold Qm3; kernel_rfl
end Go.Proofs.YtmbajnmaeikceaaGreatDoor
namespace Go.Proofs.YtmbajnmaeikceaaGreatDoor
open Go Go.Ax Go.RowKit Go.Proofs
theorem Qv8 : Qm3 5 zx GL 200 17 ((lMt 10).am 8000) [12] [] (kpL (lNt 10)) [] (lNt 10) := by unfold Qm3; kernel_rfl
end Go.Proofs.YtmbajnmaeikceaaGreatDoor
namespace Go.Proofs.YtmbajnmaeikceaaGreatDoor
open Go Go.Ax Go.RowKit Go.Proofs
theorem Quw : Qm3 5 zx GL 200 17 ((lNt 10).am 8000) [12, 6, 4, 1, 0] [] (kpL Qoy) [(299, 1770)] Qoy := by unfold Qm3; kernel_rfl
end Go.Proofs.YtmbajnmaeikceaaGreatDoor
namespace Go.Proofs.YtmbajnmaeikceaaGreatDoor
open Go Go.Ax Go.RowKit Go.Proofs
theorem Qtb : Qm3 5 zx GL 200 17 ((clF pkL lBt 11).am 8000) [10, 7, 6, 4, 3, 2, 0] [] (kpL (lMt 11)) [] (lMt 11) := by unfold Qm3; kernel_rfl
end Go.Proofs.YtmbajnmaeikceaaGreatDoor
namespace Go.Proofs.YtmbajnmaeikceaaGreatDoor
open Go Go.Ax Go.RowKit Go.Proofs
theorem Qv7 : Qm3 5 zx GL 200 17 ((lMt 11).am 8000) [12] [] (kpL (lNt 11)) [] (lNt 11) := by unfold Qm3; kernel_rfl
end Go.Proofs.YtmbajnmaeikceaaGreatDoor
namespace Go.Proofs.YtmbajnmaeikceaaGreatDoor
open Go Go.Ax Go.RowKit Go.Proofs
theorem Quv : Qm3 5 zx GL 200 17 ((lNt 11).am 8000) [12, 7, 5, 3, 1] [] (kpL Qoy) [(299, 1787)] Qoy := by unfold Qm3; kernel_rfl
end Go.Proofs.YtmbajnmaeikceaaGreatDoor
