/-
  The law on remembered names: hop 0. Conditions: none.
-/
import Derived.Test.YtcbodlnadocbiaaGreatDoorNNs
namespace Go.Proofs.YtcbodlnadocbiaaGreatDoor
open Go Go.Ax Go.RowKit Go.Proofs

theorem h0 : Hop specF GN 200 17 s00 16 [] [8, 9, 10, 11, 12, 13, 14, 15, 63, 56, 58, 60, 67, 65, 431, 612, 62, 61, 52, 50, 51, 254, 252, 251, 48, 47, 358, 55, 53, 54, 285, 112, 105, 107, 109, 116, 114, 111, 110, 101, 100, 99, 98, 777, 104, 102, 178, 179, 181, 103, 136, 803, 156, 831, 119, 117, 118, 123, 16, 19, 20, 21, 70, 71, 72] s0 := by unfold Hop; kernel_rfl
end Go.Proofs.YtcbodlnadocbiaaGreatDoor
