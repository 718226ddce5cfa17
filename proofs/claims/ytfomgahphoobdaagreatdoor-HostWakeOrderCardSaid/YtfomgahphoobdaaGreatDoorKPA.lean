/-
  The law on the order of waking: the first hops. Conditions: none.
-/
import Derived.Test.YtfomgahphoobdaaGreatDoorKSy
namespace Go.Proofs.YtfomgahphoobdaaGreatDoor
open Go Go.Ax Go.RowKit Go.Proofs
theorem wkhAT : HopC 0 specF GF 200 17 (wk00 true) [3, 1, 0] [] [8, 9, 10, 11, 12, 13, 14, 15, 16, 17, 18, 19, 20, 21, 122, 120, 66, 59, 61, 63, 70, 68, 422, 604, 65, 64, 55, 54, 53, 52, 349, 58, 56, 57, 221, 293, 241, 246, 115, 108, 110, 112, 119, 117, 937, 939, 938, 114, 113, 104, 103, 102, 101, 818, 107, 105, 181, 182, 184, 106, 139, 159, 208, 121, 126, 1045] (wkQ true wkw) := by unfold HopC; kernel_rfl
theorem wkhBT : HopC 0 specF GF 200 17 ((wkQ true wkw).am 8000) [3] [] [8, 9, 10, 11, 12, 13, 14, 15, 16, 17, 18, 19, 20, 21, 122, 120, 66, 59, 61, 63, 70, 68, 422, 604, 65, 64, 55, 54, 53, 52, 349, 58, 56, 57, 221, 293, 241, 1404, 115, 108, 110, 112, 119, 117, 937, 1194, 114, 113, 104, 103, 102, 101, 818, 107, 105, 181, 182, 184, 106, 139, 1650, 159, 121, 126, 208] (wkM true wkw) := by unfold HopC; kernel_rfl
end Go.Proofs.YtfomgahphoobdaaGreatDoor

/-! The law on the order of waking: no texts at all. Conditions: none. -/
namespace Go.Proofs.YtfomgahphoobdaaGreatDoor
open Go Go.Ax Go.RowKit Go.Proofs
theorem wkhNT : HopC 0 specF GF 200 17 (wkn0 true) [3, 1, 0] [] [8, 9, 10, 11, 12, 13, 14, 15, 16, 17, 18, 19, 20, 21, 122, 120, 66, 59, 61, 63, 70, 68, 422, 604, 65, 64, 55, 54, 53, 52, 349, 58, 56, 57, 221, 293, 241, 246, 115, 108, 110, 112, 119, 117, 937, 939, 938, 114, 113, 104, 103, 102, 101, 818, 107, 105, 181, 182, 184, 106, 139, 159, 208, 121, 126, 1045] (wkQ true .nilslice) := by unfold HopC; kernel_rfl
theorem wkhOT : HopC 0 specF GF 200 17 ((wkQ true .nilslice).am 8000) [3] [] [8, 9, 10, 11, 12, 13, 14, 15, 16, 17, 18, 19, 20, 21, 122, 120, 66, 59, 61, 63, 70, 68, 422, 604, 65, 64, 55, 54, 53, 52, 349, 58, 56, 57, 221, 293, 241, 1404, 115, 108, 110, 112, 119, 117, 937, 1194, 114, 113, 104, 103, 102, 101, 818, 107, 105, 181, 182, 184, 106, 139, 1650, 159, 121, 126, 208] (wkM true .nilslice) := by unfold HopC; kernel_rfl
theorem wkzNT : exploreP specF GF 200 4 (fun c v => (Sp.lit true).chk c v) 17 8 [] ((wkM true .nilslice).am 8000) = true := by kernel_rfl
end Go.Proofs.YtfomgahphoobdaaGreatDoor
