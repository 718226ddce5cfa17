/-
 The law on limits: hops. Conditions: none.
-/
import Derived.Test.YtmbajnmaeikceaaGreatDoorNLs
namespace Go.Proofs.YtmbajnmaeikceaaGreatDoor
open Go Go.Ax Go.RowKit Go.Proofs
theorem Qvv : Qm3 5 zx GL 200 17 ((clF pkL lBf 3).am 8000) [10, 8, 2, 1] [] (kpL (lMf 3)) [] (lMf 3) := by unfold Qm3; kernel_rfl
end Go.Proofs.YtmbajnmaeikceaaGreatDoor
namespace Go.Proofs.YtmbajnmaeikceaaGreatDoor
open Go Go.Ax Go.RowKit Go.Proofs
theorem Z7b : Qm3 5 zx GL 200 17 ((lMf 3).am 8000) [12, 8, 7, 5, 2, 1, 0] [] (kpL (lNf 3)) [] (lNf 3) := by unfold Qm3; kernel_rfl
end Go.Proofs.YtmbajnmaeikceaaGreatDoor
namespace Go.Proofs.YtmbajnmaeikceaaGreatDoor
open Go Go.Ax Go.RowKit Go.Proofs
theorem Z6r : Qm3 5 zx GL 200 17 ((lNf 3).am 8000) [11, 10, 9, 8, 6, 5, 1, 0] [] (kpL Qoz) [(299, 1730)] Qoz := by unfold Qm3; kernel_rfl
end Go.Proofs.YtmbajnmaeikceaaGreatDoor
namespace Go.Proofs.YtmbajnmaeikceaaGreatDoor
open Go Go.Ax Go.RowKit Go.Proofs
theorem Qvu : Qm3 5 zx GL 200 17 ((clF pkL lBf 4).am 8000) [10, 8, 4, 0] [] (kpL (lMf 4)) [] (lMf 4) := by unfold Qm3; kernel_rfl
end Go.Proofs.YtmbajnmaeikceaaGreatDoor
namespace Go.Proofs.YtmbajnmaeikceaaGreatDoor
open Go Go.Ax Go.RowKit Go.Proofs
theorem Z7a : Qm3 5 zx GL 200 17 ((lMf 4).am 8000) [12, 8, 7, 5, 2, 1, 0] [] (kpL (lNf 4)) [] (lNf 4) := by unfold Qm3; kernel_rfl
end Go.Proofs.YtmbajnmaeikceaaGreatDoor
namespace Go.Proofs.YtmbajnmaeikceaaGreatDoor
open Go Go.Ax Go.RowKit Go.Proofs
theorem Z6q : Qm3 5 zx GL 200 17 ((lNf 4).am 8000) [11, 10, 9, 8, 7, 6, 1, 0] [] (kpL Qoz) [(299, 1747)] Qoz := by unfold Qm3; kernel_rfl
end Go.Proofs.YtmbajnmaeikceaaGreatDoor
namespace Go.Proofs.YtmbajnmaeikceaaGreatDoor
open Go Go.Ax Go.RowKit Go.Proofs
theorem Qvt : Qm3 5 zx GL 200 17 ((clF pkL lBf 5).am 8000) [10, 8, 4, 3, 2] [] (kpL (lMf 5)) [] (lMf 5) := by unfold Qm3; kernel_rfl
end Go.Proofs.YtmbajnmaeikceaaGreatDoor
namespace Go.Proofs.YtmbajnmaeikceaaGreatDoor
open Go Go.Ax Go.RowKit Go.Proofs
theorem Z79 : Qm3 5 zx GL 200 17 ((lMf 5).am 8000) [12, 8, 7, 5, 2, 1, 0] [] (kpL (lNf 5)) [] (lNf 5) := by unfold Qm3; kernel_rfl
end Go.Proofs.YtmbajnmaeikceaaGreatDoor
namespace Go.Proofs.YtmbajnmaeikceaaGreatDoor
open Go Go.Ax Go.RowKit Go.Proofs
theorem Z6p : Qm3 5 zx GL 200 17 ((lNf 5).am 8000) [12, 5, 1, 0] [] (kpL Qoz) [(299, 1764)] Qoz := by unfold Qm3; kernel_rfl
end Go.Proofs.YtmbajnmaeikceaaGreatDoor
