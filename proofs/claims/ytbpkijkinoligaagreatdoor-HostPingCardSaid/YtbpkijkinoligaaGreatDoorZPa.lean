/-
  The law on pings: the steps between its states (Zf). Conditions: none.
-/
import Derived.Test.YtbpkijkinoligaaGreatDoorZQs
namespace Go.Proofs.YtbpkijkinoligaaGreatDoor
open Go Go.Ax Go.RowKit Go.Proofs

abbrev sgZf : Sb := []
theorem hZf : Hop specF GP 200 17 ((gZ false).am 8000) 15 sgZf [8, 9, 10, 11, 12, 13, 14, 118, 116, 62, 55, 57, 59, 66, 64, 298, 495, 61, 60, 51, 50, 49, 48, 225, 54, 52, 53, 169, 111, 104, 106, 108, 115, 113, 846, 1135, 110, 109, 100, 99, 98, 97, 724, 103, 101, 102, 117, 122] eA1 := by unfold Hop; kernel_rfl
end Go.Proofs.YtbpkijkinoligaaGreatDoor

/-! The law on pings: the steps between its states (Zt). Conditions: none. -/
namespace Go.Proofs.YtbpkijkinoligaaGreatDoor
open Go Go.Ax Go.RowKit Go.Proofs

abbrev sgZt : Sb := []
theorem hZt : Hop specF GP 200 17 ((gZ true).am 8000) 15 sgZt [8, 9, 10, 11, 12, 13, 14, 118, 116, 62, 55, 57, 59, 66, 64, 845, 1134, 61, 60, 51, 50, 49, 48, 723, 54, 52, 53, 111, 104, 106, 108, 115, 113, 298, 496, 110, 109, 100, 99, 98, 97, 225, 103, 101, 102, 169, 117, 122] eB1 := by unfold Hop; kernel_rfl
end Go.Proofs.YtbpkijkinoligaaGreatDoor
