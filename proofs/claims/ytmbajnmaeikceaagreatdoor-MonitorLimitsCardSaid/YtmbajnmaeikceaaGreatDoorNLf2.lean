/-
 The law on limits: hops. Conditions: none.
-/
import Derived.Test.YtmbajnmaeikceaaGreatDoorNLs
namespace Go.Proofs.YtmbajnmaeikceaaGreatDoor
open Go Go.Ax Go.RowKit Go.Proofs
theorem Qvs : Qm3 5 zx GL 200 17 ((clF pkL lBf 6).am 8000) [10, 8, 5, 2, 1, 0] [] (kpL (lMf 6)) [] (lMf 6) := by unfold Qm3; kernel_rfl
end Go.Proofs.YtmbajnmaeikceaaGreatDoor
namespace Go.Proofs.YtmbajnmaeikceaaGreatDoor
open Go Go.Ax Go.RowKit Go.Proofs
theorem Z78 : Qm3 5 zx GL 200 17 ((lMf 6).am 8000) [12, 8, 7, 5, 2, 1, 0] [] (kpL (lNf 6)) [] (lNf 6) := by unfold Qm3; kernel_rfl
end Go.Proofs.YtmbajnmaeikceaaGreatDoor
namespace Go.Proofs.YtmbajnmaeikceaaGreatDoor
open Go Go.Ax Go.RowKit Go.Proofs
theorem Z6o : Qm3 5 zx GL 200 17 ((lNf 6).am 8000) [12, 7, 1, 0] [] (kpL Qoz) [(299, 1781)] Qoz := by unfold Qm3; kernel_rfl
end Go.Proofs.YtmbajnmaeikceaaGreatDoor
namespace Go.Proofs.YtmbajnmaeikceaaGreatDoor
open Go Go.Ax Go.RowKit Go.Proofs
theorem Qvr : Qm3 5 zx GL 200 17 ((clF pkL lBf 7).am 8000) [10, 8, 5, 4, 1] [] (kpL (lMf 7)) [] (lMf 7) := by unfold Qm3; kernel_rfl
end Go.Proofs.YtmbajnmaeikceaaGreatDoor
namespace Go.Proofs.YtmbajnmaeikceaaGreatDoor
open Go Go.Ax Go.RowKit Go.Proofs
theorem Z77 : Qm3 5 zx GL 200 17 ((lMf 7).am 8000) [12, 8, 7, 5, 2, 1, 0] [] (kpL (lNf 7)) [] (lNf 7) := by unfold Qm3; kernel_rfl
end Go.Proofs.YtmbajnmaeikceaaGreatDoor
namespace Go.Proofs.YtmbajnmaeikceaaGreatDoor
open Go Go.Ax Go.RowKit Go.Proofs
theorem Z6n : Qm3 5 zx GL 200 17 ((lNf 7).am 8000) [12, 7, 6, 5, 1, 0] [] (kpL Qoz) [(299, 1798)] Qoz := by unfold Qm3; kernel_rfl
end Go.Proofs.YtmbajnmaeikceaaGreatDoor
namespace Go.Proofs.YtmbajnmaeikceaaGreatDoor
open Go Go.Ax Go.RowKit Go.Proofs
theorem Qvq : Qm3 5 zx GL 200 17 ((clF pkL lBf 8).am 8000) [10, 8, 5, 4, 3, 2, 0] [] (kpL (lMf 8)) [] (lMf 8) := by unfold Qm3; kernel_rfl
end Go.Proofs.YtmbajnmaeikceaaGreatDoor
namespace Go.Proofs.YtmbajnmaeikceaaGreatDoor
open Go Go.Ax Go.RowKit Go.Proofs
theorem Z76 : Qm3 5 zx GL 200 17 ((lMf 8).am 8000) [12, 8, 7, 5, 2, 1, 0] [] (kpL (lNf 8)) [] (lNf 8) := by unfold Qm3; kernel_rfl
end Go.Proofs.YtmbajnmaeikceaaGreatDoor
namespace Go.Proofs.YtmbajnmaeikceaaGreatDoor
open Go Go.Ax Go.RowKit Go.Proofs
theorem Z6m : Qm3 5 zx GL 200 17 ((lNf 8).am 8000) [12, 8, 6, 1, 0] [] (kpL Qoz) [(299, 1815)] Qoz := by unfold Qm3; kernel_rfl
end Go.Proofs.YtmbajnmaeikceaaGreatDoor
