/-
  The law on pings: the steps between its states (A1f). Conditions: none.
-/
import Derived.Test.YtbpkijkinoligaaGreatDoorZQs
namespace Go.Proofs.YtbpkijkinoligaaGreatDoor
open Go Go.Ax Go.RowKit Go.Proofs

abbrev sgA1f : Sb := [(20, (.lit (.ofNat 2))), (21, (.lit (.ofNat 8))), (22, (.lit (.ofNat 8)))]
theorem hA1f : Hop specF GP 200 17 ((gA1 false).am 8000) 15 sgA1f [8, 9, 10, 11, 12, 13, 14, 118, 116, 62, 55, 57, 59, 66, 64, 298, 495, 61, 60, 51, 50, 49, 48, 225, 54, 52, 53, 169, 111, 104, 106, 108, 115, 113, 846, 1135, 110, 109, 100, 99, 98, 97, 724, 103, 101, 102, 117, 122] eA := by unfold Hop; kernel_rfl
end Go.Proofs.YtbpkijkinoligaaGreatDoor

/-! The law on pings: the steps between its states (A1t). Conditions: none. -/
namespace Go.Proofs.YtbpkijkinoligaaGreatDoor
open Go Go.Ax Go.RowKit Go.Proofs

abbrev sgA1t : Sb := [(20, (.lit (.ofNat 2))), (21, (.lit (.ofNat 8))), (22, (.lit (.ofNat 8))), (23, (.lit (.ofNat 1))), (24, (.lit (.ofNat 1)))]
theorem hA1t : Hop specF GP 200 17 ((gA1 true).am 8000) 15 sgA1t [8, 9, 10, 11, 12, 13, 14, 118, 116, 62, 55, 57, 59, 66, 64, 298, 495, 61, 60, 51, 50, 49, 48, 225, 54, 52, 53, 169, 111, 104, 106, 108, 115, 113, 846, 1135, 110, 109, 100, 99, 98, 97, 724, 103, 101, 102, 1746, 117, 122] eC1 := by unfold Hop; kernel_rfl
end Go.Proofs.YtbpkijkinoligaaGreatDoor
