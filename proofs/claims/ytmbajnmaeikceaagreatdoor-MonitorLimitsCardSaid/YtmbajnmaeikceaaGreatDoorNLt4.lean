/-
 The law on limits: hops. Conditions: none.
-/
import Derived.Test.YtmbajnmaeikceaaGreatDoorNLs
namespace Go.Proofs.YtmbajnmaeikceaaGreatDoor
open Go Go.Ax Go.RowKit Go.Proofs
theorem Qta : Qm3 5 zx GL 200 17 ((clF pkL lBt 12).am 8000) [10, 7, 6, 5, 3] [] (kpL (lMt 12)) [] (lMt 12) := by unfold Qm3; kernel_rfl
end Go.Proofs.YtmbajnmaeikceaaGreatDoor
namespace Go.Proofs.YtmbajnmaeikceaaGreatDoor
open Go Go.Ax Go.RowKit Go.Proofs
theorem Qv6 : Qm3 5 zx GL 200 17 ((lMt 12).am 8000) [12] [] (kpL (lNt 12)) [] (lNt 12) := by unfold Qm3; kernel_rfl
end Go.Proofs.YtmbajnmaeikceaaGreatDoor
namespace Go.Proofs.YtmbajnmaeikceaaGreatDoor
open Go Go.Ax Go.RowKit Go.Proofs
theorem Quu : Qm3 5 zx GL 200 17 ((lNt 12).am 8000) [12, 8, 0] [] (kpL Qoy) [(299, 1804)] Qoy := by unfold Qm3; kernel_rfl
end Go.Proofs.YtmbajnmaeikceaaGreatDoor
namespace Go.Proofs.YtmbajnmaeikceaaGreatDoor
open Go Go.Ax Go.RowKit Go.Proofs
theorem Qt9 : Qm3 5 zx GL 200 17 ((clF pkL lBt 13).am 8000) [10, 7, 6, 5, 4, 1, 0] [] (kpL (lMt 13)) [] (lMt 13) := by unfold Qm3; kernel_rfl
end Go.Proofs.YtmbajnmaeikceaaGreatDoor
namespace Go.Proofs.YtmbajnmaeikceaaGreatDoor
open Go Go.Ax Go.RowKit Go.Proofs
theorem Qv5 : Qm3 5 zx GL 200 17 ((lMt 13).am 8000) [12] [] (kpL (lNt 13)) [] (lNt 13) := by unfold Qm3; kernel_rfl
end Go.Proofs.YtmbajnmaeikceaaGreatDoor
namespace Go.Proofs.YtmbajnmaeikceaaGreatDoor
open Go Go.Ax Go.RowKit Go.Proofs
theorem Qut : Qm3 5 zx GL 200 17 ((lNt 13).am 8000) [12, 8, 6, 4, 3] [] (kpL Qoy) [(299, 1821)] Qoy := by unfold Qm3; kernel_rfl
end Go.Proofs.YtmbajnmaeikceaaGreatDoor
namespace Go.Proofs.YtmbajnmaeikceaaGreatDoor
open Go Go.Ax Go.RowKit Go.Proofs
theorem Qt8 : Qm3 5 zx GL 200 17 ((clF pkL lBt 14).am 8000) [10, 7, 6, 5, 4, 3, 2, 1] [] (kpL (lMt 14)) [] (lMt 14) := by unfold Qm3; kernel_rfl
end Go.Proofs.YtmbajnmaeikceaaGreatDoor
namespace Go.Proofs.YtmbajnmaeikceaaGreatDoor
open Go Go.Ax Go.RowKit Go.Proofs
theorem Qv4 : Qm3 5 zx GL 200 17 ((lMt 14).am 8000) [12] [] (kpL (lNt 14)) [] (lNt 14) := by unfold Qm3; kernel_rfl
end Go.Proofs.YtmbajnmaeikceaaGreatDoor
namespace Go.Proofs.YtmbajnmaeikceaaGreatDoor
open Go Go.Ax Go.RowKit Go.Proofs
theorem Qus : Qm3 5 zx GL 200 17 ((lNt 14).am 8000) [12, 8, 7, 5, 3, 2, 1, 0] [] (kpL Qoy) [(299, 1838)] Qoy := by unfold Qm3; kernel_rfl
end Go.Proofs.YtmbajnmaeikceaaGreatDoor
namespace Go.Proofs.YtmbajnmaeikceaaGreatDoor
open Go Go.Ax Go.RowKit Go.Proofs
theorem Qt7 : Qm3 5 zx GL 200 17 ((clF pkL lBt 15).am 8000) [10, 8, 3, 0] [] (kpL (lMt 15)) [] (lMt 15) := by unfold Qm3; kernel_rfl
end Go.Proofs.YtmbajnmaeikceaaGreatDoor
namespace Go.Proofs.YtmbajnmaeikceaaGreatDoor
open Go Go.Ax Go.RowKit Go.Proofs
theorem Qv3 : Qm3 5 zx GL 200 17 ((lMt 15).am 8000) [12] [] (kpL (lNt 15)) [] (lNt 15) := by unfold Qm3; kernel_rfl
end Go.Proofs.YtmbajnmaeikceaaGreatDoor
namespace Go.Proofs.YtmbajnmaeikceaaGreatDoor
open Go Go.Ax Go.RowKit Go.Proofs
theorem Qur : Qm3 5 zx GL 200 17 ((lNt 15).am 8000) [12, 9, 2, 1] [] (kpL Qoy) [(299, 1855)] Qoy := by unfold Qm3; kernel_rfl
end Go.Proofs.YtmbajnmaeikceaaGreatDoor
