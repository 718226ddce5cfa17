/-
 The law on limits: hops. Conditions: none.
-/
import Derived.Test.YtmbajnmaeikceaaGreatDoorNLs
namespace Go.Proofs.YtmbajnmaeikceaaGreatDoor
open Go Go.Ax Go.RowKit Go.Proofs
theorem Qvy : Qm3 5 zx GL 200 17 ((clF pkL lBf 0).am 8000) [10, 7, 6, 5, 2, 0] [] (kpL (lMf 0)) [] (lMf 0) := by unfold Qm3; kernel_rfl
end Go.Proofs.YtmbajnmaeikceaaGreatDoor
namespace Go.Proofs.YtmbajnmaeikceaaGreatDoor
open Go Go.Ax Go.RowKit Go.Proofs
theorem Z7e : Qm3 5 zx GL 200 17 ((lMf 0).am 8000) [12, 8, 7, 5, 2, 1, 0] [] (kpL (lNf 0)) [] (lNf 0) := by unfold Qm3; kernel_rfl
end Go.Proofs.YtmbajnmaeikceaaGreatDoor
namespace Go.Proofs.YtmbajnmaeikceaaGreatDoor
open Go Go.Ax Go.RowKit Go.Proofs
theorem Z6u : Qm3 5 zx GL 200 17 ((lNf 0).am 8000) [11, 10, 9, 6, 1, 0] [] (kpL Qoz) [(299, 1679)] Qoz := by unfold Qm3; kernel_rfl
end Go.Proofs.YtmbajnmaeikceaaGreatDoor
namespace Go.Proofs.YtmbajnmaeikceaaGreatDoor
open Go Go.Ax Go.RowKit Go.Proofs
theorem Qvx : Qm3 5 zx GL 200 17 ((clF pkL lBf 1).am 8000) [10, 7, 6, 5, 4] [] (kpL (lMf 1)) [] (lMf 1) := by unfold Qm3; kernel_rfl
end Go.Proofs.YtmbajnmaeikceaaGreatDoor
namespace Go.Proofs.YtmbajnmaeikceaaGreatDoor
open Go Go.Ax Go.RowKit Go.Proofs
theorem Z7d : Qm3 5 zx GL 200 17 ((lMf 1).am 8000) [12, 8, 7, 5, 2, 1, 0] [] (kpL (lNf 1)) [] (lNf 1) := by unfold Qm3; kernel_rfl
end Go.Proofs.YtmbajnmaeikceaaGreatDoor
namespace Go.Proofs.YtmbajnmaeikceaaGreatDoor
open Go Go.Ax Go.RowKit Go.Proofs
theorem Z6t : Qm3 5 zx GL 200 17 ((lNf 1).am 8000) [11, 10, 9, 7, 5, 1, 0] [] (kpL Qoz) [(299, 1696)] Qoz := by unfold Qm3; kernel_rfl
end Go.Proofs.YtmbajnmaeikceaaGreatDoor
namespace Go.Proofs.YtmbajnmaeikceaaGreatDoor
open Go Go.Ax Go.RowKit Go.Proofs
theorem Qvw : Qm3 5 zx GL 200 17 ((clF pkL lBf 2).am 8000) [10, 7, 6, 5, 4, 3, 1, 0] [] (kpL (lMf 2)) [] (lMf 2) := by unfold Qm3; kernel_rfl
end Go.Proofs.YtmbajnmaeikceaaGreatDoor
namespace Go.Proofs.YtmbajnmaeikceaaGreatDoor
open Go Go.Ax Go.RowKit Go.Proofs
theorem Z7c : Qm3 5 zx GL 200 17 ((lMf 2).am 8000) [12, 8, 7, 5, 2, 1, 0] [] (kpL (lNf 2)) [] (lNf 2) := by unfold Qm3; kernel_rfl
end Go.Proofs.YtmbajnmaeikceaaGreatDoor
namespace Go.Proofs.YtmbajnmaeikceaaGreatDoor
open Go Go.Ax Go.RowKit Go.Proofs
theorem Z6s : Qm3 5 zx GL 200 17 ((lNf 2).am 8000) [11, 10, 9, 8, 1, 0] [] (kpL Qoz) [(299, 1713)] Qoz := by unfold Qm3; kernel_rfl
end Go.Proofs.YtmbajnmaeikceaaGreatDoor
