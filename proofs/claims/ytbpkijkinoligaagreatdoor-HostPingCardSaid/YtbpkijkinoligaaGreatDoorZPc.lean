/-
  The law on pings: the steps between its states (B1f). Conditions: none.
-/
import Derived.Test.YtbpkijkinoligaaGreatDoorZQs
namespace Go.Proofs.YtbpkijkinoligaaGreatDoor
open Go Go.Ax Go.RowKit Go.Proofs

abbrev sgB1f : Sb := [(20, (.lit (.ofNat 2))), (21, (.lit (.ofNat 8))), (22, (.lit (.ofNat 8))), (23, (.lit (.ofNat 1))), (24, (.lit (.ofNat 1)))]
theorem hB1f : Hop specF GP 200 17 ((gB1 false).am 8000) 15 sgB1f [8, 9, 10, 11, 12, 13, 14, 118, 116, 62, 55, 57, 59, 66, 64, 845, 1134, 61, 60, 51, 50, 49, 48, 723, 54, 52, 53, 1746, 111, 104, 106, 108, 115, 113, 298, 496, 110, 109, 100, 99, 98, 97, 225, 103, 101, 102, 169, 117, 122] eD0 := by unfold Hop; kernel_rfl
end Go.Proofs.YtbpkijkinoligaaGreatDoor

/-! The law on pings: the steps between its states (B1t). Conditions: none. -/
namespace Go.Proofs.YtbpkijkinoligaaGreatDoor
open Go Go.Ax Go.RowKit Go.Proofs

abbrev sgB1t : Sb := [(20, (.lit (.ofNat 2))), (21, (.lit (.ofNat 8))), (22, (.lit (.ofNat 8)))]
theorem hB1t : Hop specF GP 200 17 ((gB1 true).am 8000) 15 sgB1t [8, 9, 10, 11, 12, 13, 14, 118, 116, 62, 55, 57, 59, 66, 64, 845, 1134, 61, 60, 51, 50, 49, 48, 723, 54, 52, 53, 111, 104, 106, 108, 115, 113, 298, 496, 110, 109, 100, 99, 98, 97, 225, 103, 101, 102, 169, 117, 122] eB := by unfold Hop; kernel_rfl
end Go.Proofs.YtbpkijkinoligaaGreatDoor
