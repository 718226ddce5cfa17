/-
 The law on limits: hops. Conditions: none.
-/
import Derived.Test.YtmbajnmaeikceaaGreatDoorNLs
namespace Go.Proofs.YtmbajnmaeikceaaGreatDoor
open Go Go.Ax Go.RowKit Go.Proofs
theorem Qvp : Qm3 5 zx GL 200 17 ((clF pkL lBf 9).am 8000) [10, 8, 6, 3] [] (kpL (lMf 9)) [] (lMf 9) := by unfold Qm3; kernel_rfl
end Go.Proofs.YtmbajnmaeikceaaGreatDoor
namespace Go.Proofs.YtmbajnmaeikceaaGreatDoor
open Go Go.Ax Go.RowKit Go.Proofs
theorem Z75 : Qm3 5 zx GL 200 17 ((lMf 9).am 8000) [12, 8, 7, 5, 2, 1, 0] [] (kpL (lNf 9)) [] (lNf 9) := by unfold Qm3; kernel_rfl
end Go.Proofs.YtmbajnmaeikceaaGreatDoor
namespace Go.Proofs.YtmbajnmaeikceaaGreatDoor
open Go Go.Ax Go.RowKit Go.Proofs
theorem Z6l : Qm3 5 zx GL 200 17 ((lNf 9).am 8000) [12, 8, 7, 5, 1, 0] [] (kpL Qoz) [(299, 1832)] Qoz := by unfold Qm3; kernel_rfl
end Go.Proofs.YtmbajnmaeikceaaGreatDoor
namespace Go.Proofs.YtmbajnmaeikceaaGreatDoor
open Go Go.Ax Go.RowKit Go.Proofs
theorem Qtw : Qm3 5 zx GL 200 17 ((clF pkL lBf 10).am 8000) [10, 8, 6, 4, 1, 0] [] (kpL (lMf 10)) [] (lMf 10) := by unfold Qm3; kernel_rfl
end Go.Proofs.YtmbajnmaeikceaaGreatDoor
namespace Go.Proofs.YtmbajnmaeikceaaGreatDoor
open Go Go.Ax Go.RowKit Go.Proofs
theorem Qve : Qm3 5 zx GL 200 17 ((lMf 10).am 8000) [12, 8, 7, 5, 2, 1, 0] [] (kpL (lNf 10)) [] (lNf 10) := by unfold Qm3; kernel_rfl
end Go.Proofs.YtmbajnmaeikceaaGreatDoor
namespace Go.Proofs.YtmbajnmaeikceaaGreatDoor
open Go Go.Ax Go.RowKit Go.Proofs
theorem Qv2 : Qm3 5 zx GL 200 17 ((lNf 10).am 8000) [12, 9, 1, 0] [] (kpL Qoz) [(299, 1849)] Qoz := by unfold Qm3; kernel_rfl
end Go.Proofs.YtmbajnmaeikceaaGreatDoor
namespace Go.Proofs.YtmbajnmaeikceaaGreatDoor
open Go Go.Ax Go.RowKit Go.Proofs
theorem Qtv : Qm3 5 zx GL 200 17 ((clF pkL lBf 11).am 8000) [10, 8, 6, 4, 3, 2, 1] [] (kpL (lMf 11)) [] (lMf 11) := by unfold Qm3; kernel_rfl
end Go.Proofs.YtmbajnmaeikceaaGreatDoor
namespace Go.Proofs.YtmbajnmaeikceaaGreatDoor
open Go Go.Ax Go.RowKit Go.Proofs
theorem Qvd : Qm3 5 zx GL 200 17 ((lMf 11).am 8000) [12, 8, 7, 5, 2, 1, 0] [] (kpL (lNf 11)) [] (lNf 11) := by unfold Qm3; kernel_rfl
end Go.Proofs.YtmbajnmaeikceaaGreatDoor
namespace Go.Proofs.YtmbajnmaeikceaaGreatDoor
open Go Go.Ax Go.RowKit Go.Proofs
theorem Qv1 : Qm3 5 zx GL 200 17 ((lNf 11).am 8000) [12, 9, 6, 5, 1, 0] [] (kpL Qoz) [(299, 1866)] Qoz := by unfold Qm3; kernel_rfl
end Go.Proofs.YtmbajnmaeikceaaGreatDoor
