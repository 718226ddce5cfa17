/-
  The law on pings: the steps between its states (Af). Conditions: none.
-/
import Derived.Test.YtbpkijkinoligaaGreatDoorZQs
namespace Go.Proofs.YtbpkijkinoligaaGreatDoor
open Go Go.Ax Go.RowKit Go.Proofs

abbrev sgAf : Sb := [(20, (.bin .add .i64 (.var 20) (.lit (.ofNat 1)))), (21, (.bin .add .i64 (.var 21) (.lit (.ofNat 8)))), (22, (.bin .add .i64 (.var 22) (.lit (.ofNat 2))))]
theorem hAf : Hop specF GP 200 17 ((gA false).am 8000) 15 sgAf [8, 9, 10, 11, 12, 13, 14, 118, 116, 62, 55, 57, 59, 66, 64, 298, 495, 61, 60, 51, 50, 49, 48, 225, 54, 52, 53, 169, 111, 104, 106, 108, 115, 113, 846, 1135, 110, 109, 100, 99, 98, 97, 724, 103, 101, 102, 117, 122] eA := by unfold Hop; kernel_rfl
end Go.Proofs.YtbpkijkinoligaaGreatDoor

/-! The law on pings: the steps between its states (At). Conditions: none. -/
namespace Go.Proofs.YtbpkijkinoligaaGreatDoor
open Go Go.Ax Go.RowKit Go.Proofs

abbrev sgAt : Sb := [(20, (.bin .add .i64 (.var 20) (.lit (.ofNat 1)))), (21, (.bin .add .i64 (.var 21) (.lit (.ofNat 8)))), (22, (.bin .add .i64 (.var 22) (.lit (.ofNat 2)))), (23, (.var 20)), (24, (.lit (.ofNat 1)))]
theorem hAt : Hop specF GP 200 17 ((gA true).am 8000) 15 sgAt [8, 9, 10, 11, 12, 13, 14, 118, 116, 62, 55, 57, 59, 66, 64, 298, 495, 61, 60, 51, 50, 49, 48, 225, 54, 52, 53, 169, 111, 104, 106, 108, 115, 113, 846, 1135, 110, 109, 100, 99, 98, 97, 724, 103, 101, 102, 1746, 117, 122] eC1 := by unfold Hop; kernel_rfl
end Go.Proofs.YtbpkijkinoligaaGreatDoor
