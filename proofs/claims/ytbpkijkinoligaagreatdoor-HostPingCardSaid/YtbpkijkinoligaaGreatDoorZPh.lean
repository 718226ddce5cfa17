/-
  The law on pings: the steps between its states (D0f). Conditions: none.
-/
import Derived.Test.YtbpkijkinoligaaGreatDoorZQs
namespace Go.Proofs.YtbpkijkinoligaaGreatDoor
open Go Go.Ax Go.RowKit Go.Proofs

abbrev sgD0f : Sb := [(20, (.bin .add .i64 (.var 20) (.lit (.ofNat 1)))), (21, (.bin .add .i64 (.var 21) (.lit (.ofNat 8)))), (22, (.bin .add .i64 (.var 22) (.lit (.ofNat 2)))), (23, (.bin .add .i64 (.var 23) (.lit (.ofNat 1)))), (24, (.var 24))]
theorem hD0f : Hop specF GP 200 17 ((gD0 false).am 8000) 15 sgD0f [8, 9, 10, 11, 12, 13, 14, 118, 116, 62, 55, 57, 59, 66, 64, 845, 1134, 61, 60, 51, 50, 49, 48, 723, 54, 52, 53, 1746, 111, 104, 106, 108, 115, 113, 298, 496, 110, 109, 100, 99, 98, 97, 225, 103, 101, 102, 169, 117, 122] eD0 := by unfold Hop; kernel_rfl
end Go.Proofs.YtbpkijkinoligaaGreatDoor

/-! The law on pings: the steps between its states (D0t). Conditions: none. -/
namespace Go.Proofs.YtbpkijkinoligaaGreatDoor
open Go Go.Ax Go.RowKit Go.Proofs

abbrev sgD0t : Sb := [(20, (.bin .add .i64 (.var 20) (.lit (.ofNat 1)))), (21, (.bin .add .i64 (.var 21) (.lit (.ofNat 8)))), (22, (.bin .add .i64 (.var 22) (.lit (.ofNat 2)))), (23, (.var 23)), (24, (.bin .add .i64 (.var 24) (.lit (.ofNat 1))))]
theorem hD0t : Hop specF GP 200 17 ((gD0 true).am 8000) 15 sgD0t [8, 9, 10, 11, 12, 13, 14, 118, 116, 62, 55, 57, 59, 66, 64, 845, 1134, 61, 60, 51, 50, 49, 48, 723, 54, 52, 53, 1746, 111, 104, 106, 108, 115, 113, 298, 496, 110, 109, 100, 99, 98, 97, 225, 103, 101, 102, 169, 117, 122] eD1 := by unfold Hop; kernel_rfl
end Go.Proofs.YtbpkijkinoligaaGreatDoor
