/-
 The law on limits: hops. Conditions: none.
-/
import Derived.Test.YtmbajnmaeikceaaGreatDoorNLs
namespace Go.Proofs.YtmbajnmaeikceaaGreatDoor
open Go Go.Ax Go.RowKit Go.Proofs
theorem Qtu : Qm3 5 zx GL 200 17 ((clF pkL lBf 12).am 8000) [10, 8, 6, 5, 3, 0] [] (kpL (lMf 12)) [] (lMf 12) := by unfold Qm3; kernel_rfl
end Go.Proofs.YtmbajnmaeikceaaGreatDoor
namespace Go.Proofs.YtmbajnmaeikceaaGreatDoor
open Go Go.Ax Go.RowKit Go.Proofs
theorem Qvc : Qm3 5 zx GL 200 17 ((lMf 12).am 8000) [12, 8, 7, 5, 2, 1, 0] [] (kpL (lNf 12)) [] (lNf 12) := by unfold Qm3; kernel_rfl
end Go.Proofs.YtmbajnmaeikceaaGreatDoor
namespace Go.Proofs.YtmbajnmaeikceaaGreatDoor
open Go Go.Ax Go.RowKit Go.Proofs
theorem Qv0 : Qm3 5 zx GL 200 17 ((lNf 12).am 8000) [12, 9, 7, 6, 1, 0] [] (kpL Qoz) [(299, 1883)] Qoz := by unfold Qm3; kernel_rfl
end Go.Proofs.YtmbajnmaeikceaaGreatDoor
namespace Go.Proofs.YtmbajnmaeikceaaGreatDoor
open Go Go.Ax Go.RowKit Go.Proofs
theorem Qtt : Qm3 5 zx GL 200 17 ((clF pkL lBf 13).am 8000) [10, 8, 6, 5, 4, 2] [] (kpL (lMf 13)) [] (lMf 13) := by unfold Qm3; kernel_rfl
end Go.Proofs.YtmbajnmaeikceaaGreatDoor
namespace Go.Proofs.YtmbajnmaeikceaaGreatDoor
open Go Go.Ax Go.RowKit Go.Proofs
theorem Qvb : Qm3 5 zx GL 200 17 ((lMf 13).am 8000) [12, 8, 7, 5, 2, 1, 0] [] (kpL (lNf 13)) [] (lNf 13) := by unfold Qm3; kernel_rfl
end Go.Proofs.YtmbajnmaeikceaaGreatDoor
namespace Go.Proofs.YtmbajnmaeikceaaGreatDoor
open Go Go.Ax Go.RowKit Go.Proofs
theorem Quz : Qm3 5 zx GL 200 17 ((lNf 13).am 8000) [12, 9, 8, 5, 1, 0] [] (kpL Qoz) [(299, 1900)] Qoz := by unfold Qm3; kernel_rfl
end Go.Proofs.YtmbajnmaeikceaaGreatDoor
namespace Go.Proofs.YtmbajnmaeikceaaGreatDoor
open Go Go.Ax Go.RowKit Go.Proofs
theorem Qts : Qm3 5 zx GL 200 17 ((clF pkL lBf 14).am 8000) [10, 8, 6, 5, 4, 3, 2, 1, 0] [] (kpL (lMf 14)) [] (lMf 14) := by unfold Qm3; kernel_rfl
end Go.Proofs.YtmbajnmaeikceaaGreatDoor
namespace Go.Proofs.YtmbajnmaeikceaaGreatDoor
open Go Go.Ax Go.RowKit Go.Proofs
theorem Qva : Qm3 5 zx GL 200 17 ((lMf 14).am 8000) [12, 8, 7, 5, 2, 1, 0] [] (kpL (lNf 14)) [] (lNf 14) := by unfold Qm3; kernel_rfl
end Go.Proofs.YtmbajnmaeikceaaGreatDoor
namespace Go.Proofs.YtmbajnmaeikceaaGreatDoor
open Go Go.Ax Go.RowKit Go.Proofs
theorem Quy : Qm3 5 zx GL 200 17 ((lNf 14).am 8000) [12, 9, 8, 7, 1, 0] [] (kpL Qoz) [(299, 1917)] Qoz := by unfold Qm3; kernel_rfl
end Go.Proofs.YtmbajnmaeikceaaGreatDoor
namespace Go.Proofs.YtmbajnmaeikceaaGreatDoor
open Go Go.Ax Go.RowKit Go.Proofs
theorem Qtr : Qm3 5 zx GL 200 17 ((clF pkL lBf 15).am 8000) [10, 8, 7, 3, 1] [] (kpL (lMf 15)) [] (lMf 15) := by unfold Qm3; kernel_rfl
end Go.Proofs.YtmbajnmaeikceaaGreatDoor
namespace Go.Proofs.YtmbajnmaeikceaaGreatDoor
open Go Go.Ax Go.RowKit Go.Proofs
theorem Qv9 : Qm3 5 zx GL 200 17 ((lMf 15).am 8000) [12, 8, 7, 5, 2, 1, 0] [] (kpL (lNf 15)) [] (lNf 15) := by unfold Qm3; kernel_rfl
end Go.Proofs.YtmbajnmaeikceaaGreatDoor
namespace Go.Proofs.YtmbajnmaeikceaaGreatDoor
open Go Go.Ax Go.RowKit Go.Proofs
theorem Qux : Qm3 5 zx GL 200 17 ((lNf 15).am 8000) [12, 9, 8, 7, 6, 5, 1, 0] [] (kpL Qoz) [(299, 1934)] Qoz := by unfold Qm3; kernel_rfl
end Go.Proofs.YtmbajnmaeikceaaGreatDoor
