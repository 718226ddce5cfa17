/-
  The law on failed connections: hop 6. Conditions: none.
-/
import Derived.Test.YtfomgahphoobdaaGreatDoorEYs
namespace Go.Proofs.YtfomgahphoobdaaGreatDoor
open Go Go.Ax Go.RowKit Go.Proofs
theorem yh6 : HopC 0 specF GF 200 17 (ys5.am 8000) [3, 2, 0] [] [8, 9, 10, 11, 12, 13, 14, 15, 16, 117, 115, 61, 54, 56, 58, 65, 63, 558, 1439, 60, 59, 50, 49, 48, 47, 485, 53, 51, 308, 309, 314, 315, 318, 52, 134, 326, 327, 328, 325, 324, 323, 172, 666, 667, 668, 665, 664, 663, 213, 982, 154, 5182, 110, 103, 105, 107, 114, 112, 1880, 2187, 109, 108, 99, 98, 97, 96, 1630, 102, 100, 101, 116, 121, 1145, 1140, 1142, 1149, 1147, 1144, 1143, 1136, 1135, 1134, 1133, 1139, 1137, 1138, 1188, 1208, 1213, 1113, 1114, 1115, 1116] ys6 := by unfold HopC; kernel_rfl
end Go.Proofs.YtfomgahphoobdaaGreatDoor
namespace Go.Proofs.YtfomgahphoobdaaGreatDoor
open Go Go.Ax Go.RowKit Go.Proofs
theorem yh7 : HopC 0 specF GF 200 17 (ys6.am 8000) [4, 0] [] [8, 9, 10, 11, 12, 13, 14, 15, 16, 117, 115, 61, 54, 56, 58, 65, 63, 558, 1439, 60, 59, 50, 49, 48, 47, 485, 53, 51, 308, 309, 314, 315, 318, 52, 134, 326, 327, 328, 325, 324, 323, 172, 666, 667, 668, 665, 664, 663, 213, 982, 154, 110, 103, 105, 107, 114, 112, 1880, 2187, 109, 108, 99, 98, 97, 96, 1630, 102, 100, 101, 116, 121, 1145, 1140, 1142, 1149, 1147, 1144, 1143, 1136, 1135, 1134, 1133, 1139, 1137, 1138, 1188, 1208, 1213, 5182, 6771, 6773, 6775, 1113, 1114, 1115, 1116] ys7 := by unfold HopC; kernel_rfl
end Go.Proofs.YtfomgahphoobdaaGreatDoor
