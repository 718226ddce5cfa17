/-
  The law on routing loops: the hop to state 2. Conditions: none.
-/
import Derived.Test.YtfomgahphoobdaaGreatDoorOUs
namespace Go.Proofs.YtfomgahphoobdaaGreatDoor
open Go Go.Ax Go.RowKit Go.Proofs

theorem uh2 : HopC 0 specF GL 200 17 (us1.am 8000) [3, 0] [] [8, 9, 10, 11, 12, 224, 13, 14, 15, 16, 19, 17, 18, 22, 20, 21, 25, 23, 24, 31, 162, 64, 57, 59, 61, 68, 66, 407, 650, 63, 62, 53, 52, 51, 336, 56, 54, 286, 287, 289, 55, 198, 218, 113, 106, 108, 110, 121, 115, 119, 912, 1252, 112, 111, 102, 101, 100, 105, 103, 104, 156, 149, 151, 153, 160, 158, 1500, 1843, 155, 154, 145, 144, 143, 148, 146, 147, 184, 178, 182, 3385, 26, 27, 28, 29] us2 := by unfold HopC; kernel_rfl
end Go.Proofs.YtfomgahphoobdaaGreatDoor

/-! The law on routing loops: the hop to state 3. Conditions: none. -/
namespace Go.Proofs.YtfomgahphoobdaaGreatDoor
open Go Go.Ax Go.RowKit Go.Proofs

theorem uh3 : HopC 0 specF GL 200 17 (us2.am 8000) [3, 1] [] [8, 9, 10, 11, 12, 224, 13, 14, 15, 16, 19, 17, 18, 22, 20, 21, 25, 23, 24, 31, 162, 64, 57, 59, 61, 68, 66, 407, 650, 63, 62, 53, 52, 51, 336, 56, 54, 286, 287, 289, 55, 198, 218, 113, 106, 108, 110, 121, 115, 119, 912, 1252, 112, 111, 102, 101, 100, 105, 103, 104, 156, 149, 151, 153, 160, 158, 1500, 1843, 155, 154, 145, 144, 143, 148, 146, 147, 184, 178, 182, 4655, 26, 27, 28, 29] us3 := by unfold HopC; kernel_rfl
end Go.Proofs.YtfomgahphoobdaaGreatDoor
