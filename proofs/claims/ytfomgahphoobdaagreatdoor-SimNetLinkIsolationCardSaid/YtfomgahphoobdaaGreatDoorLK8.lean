/-
  The law on isolated links: hop 8. Conditions: none.
-/
import Derived.Test.YtfomgahphoobdaaGreatDoorLKs
namespace Go.Proofs.YtfomgahphoobdaaGreatDoor
open Go Go.Ax Go.RowKit Go.Proofs

theorem kh8 : HopC 0 specF GL 200 17 (ks7.am 8000) [4, 3, 1, 0] [] [8, 9, 10, 11, 12, 33, 29, 13, 14, 15, 16, 17, 18, 19, 44, 193, 93, 86, 88, 90, 97, 95, 446, 7177, 92, 91, 82, 80, 81, 78, 77, 373, 85, 83, 317, 318, 320, 84, 229, 6816, 249, 146, 139, 141, 143, 150, 148, 8144, 8489, 145, 144, 135, 134, 133, 132, 8027, 138, 136, 137, 183, 178, 180, 191, 185, 8741, 9084, 189, 7425, 7768, 182, 181, 174, 173, 172, 177, 175, 176, 215, 209, 213, 39, 24, 34, 28, 26, 35, 36, 32, 37, 42, 40, 41, 9337] ks8 := by unfold HopC; kernel_rfl
end Go.Proofs.YtfomgahphoobdaaGreatDoor

/-! The law on isolated links: hop 9. Conditions: none. -/
namespace Go.Proofs.YtfomgahphoobdaaGreatDoor
open Go Go.Ax Go.RowKit Go.Proofs

theorem kh9 : HopC 0 specF GL 200 17 (ks8.am 8000) [2, 0] [] [8, 9, 10, 11, 12, 33, 29, 13, 14, 15, 16, 17, 18, 19, 44, 193, 93, 86, 88, 90, 97, 95, 446, 7177, 92, 91, 82, 80, 81, 78, 77, 373, 85, 83, 317, 318, 320, 84, 229, 6816, 249, 146, 139, 141, 143, 150, 148, 8144, 8489, 145, 144, 135, 134, 133, 132, 8027, 138, 136, 137, 183, 178, 180, 191, 185, 8741, 9084, 189, 7425, 7768, 182, 181, 174, 173, 172, 177, 175, 176, 215, 209, 213, 39, 24, 34, 28, 26, 35, 36, 32, 37, 42, 40, 41, 9337] ks9 := by unfold HopC; kernel_rfl
end Go.Proofs.YtfomgahphoobdaaGreatDoor

/-! The law on isolated links: hop 10. Conditions: none. -/
namespace Go.Proofs.YtfomgahphoobdaaGreatDoor
open Go Go.Ax Go.RowKit Go.Proofs

theorem kh10 : HopC 0 specF GL 200 17 (ks9f.am 8000) [4, 3, 2, 1, 0] [] [8, 9, 10, 11, 12, 33, 29, 13, 14, 15, 16, 17, 18, 19, 44, 193, 93, 86, 88, 90, 97, 95, 446, 7177, 92, 91, 82, 80, 81, 78, 77, 373, 85, 83, 317, 318, 320, 84, 229, 6816, 249, 146, 139, 141, 143, 150, 148, 8144, 8489, 145, 144, 135, 134, 133, 132, 8027, 138, 136, 137, 183, 178, 180, 191, 185, 8741, 9084, 189, 7425, 7768, 182, 181, 174, 173, 172, 177, 175, 176, 215, 209, 213, 39, 24, 34, 28, 26, 35, 36, 32, 37, 42, 40, 41, 9337] ks10 := by unfold HopC; kernel_rfl
end Go.Proofs.YtfomgahphoobdaaGreatDoor
