/-
  The law on isolated links: hop 0. Conditions: none.
-/
import Derived.Test.YtfomgahphoobdaaGreatDoorLKs
namespace Go.Proofs.YtfomgahphoobdaaGreatDoor
open Go Go.Ax Go.RowKit Go.Proofs

theorem kh0 : HopC 0 specF GL 200 17 k00 [4, 3, 1] [] [8, 9, 10, 11, 12, 33, 29, 13, 14, 15, 16, 17, 18, 19, 44, 193, 93, 86, 88, 90, 97, 95, 446, 448, 447, 92, 91, 82, 80, 81, 78, 77, 373, 85, 83, 317, 318, 320, 84, 229, 249, 483, 146, 139, 141, 143, 150, 148, 145, 144, 135, 134, 133, 132, 138, 136, 137, 183, 178, 180, 191, 185, 189, 182, 181, 174, 173, 172, 177, 175, 176, 215, 209, 213, 39, 24, 34, 28, 26, 35, 36, 32, 37, 42, 40, 41] ks0 := by unfold HopC; kernel_rfl
end Go.Proofs.YtfomgahphoobdaaGreatDoor

/-! The law on isolated links: hop 1. Conditions: none. -/
namespace Go.Proofs.YtfomgahphoobdaaGreatDoor
open Go Go.Ax Go.RowKit Go.Proofs

theorem kh1 : HopC 0 specF GL 200 17 (ks0.am 8000) [4, 3, 2, 1, 0] [] [8, 9, 10, 11, 12, 33, 29, 13, 14, 15, 16, 17, 18, 19, 44, 193, 93, 86, 88, 90, 97, 95, 446, 448, 447, 92, 91, 82, 80, 81, 78, 77, 373, 85, 83, 317, 318, 320, 84, 229, 249, 483, 146, 139, 141, 143, 150, 148, 145, 144, 135, 134, 133, 132, 138, 136, 137, 183, 178, 180, 191, 185, 189, 182, 181, 174, 173, 172, 177, 175, 176, 215, 209, 213, 39, 24, 34, 28, 26, 35, 36, 32, 37, 42, 40, 41] ks1 := by unfold HopC; kernel_rfl
end Go.Proofs.YtfomgahphoobdaaGreatDoor
