/-
  The law on the order of waking: the first hops. Conditions: none.
-/
import Derived.Test.YtfomgahphoobdaaGreatDoorKSy
namespace Go.Proofs.YtfomgahphoobdaaGreatDoor
open Go Go.Ax Go.RowKit Go.Proofs
theorem wkhAF : HopC 0 specF GF 200 17 (wk00 false) [3, 1, 0] [] [8, 9, 10, 11, 12, 13, 14, 15, 16, 17, 18, 19, 20, 21, 122, 120, 66, 59, 61, 63, 70, 68, 422, 604, 65, 64, 55, 54, 53, 52, 349, 58, 56, 57, 221, 293, 241, 246, 115, 108, 110, 112, 119, 117, 937, 939, 938, 114, 113, 104, 103, 102, 101, 818, 107, 105, 181, 182, 184, 106, 139, 159, 208, 121, 126, 1045] (wkQ false wkw) := by unfold HopC; kernel_rfl
theorem wkhBF : HopC 0 specF GF 200 17 ((wkQ false wkw).am 8000) [3] [] [8, 9, 10, 11, 12, 13, 14, 15, 16, 17, 18, 19, 20, 21, 122, 120, 66, 59, 61, 63, 70, 68, 422, 604, 65, 64, 55, 54, 53, 52, 349, 58, 56, 57, 221, 293, 241, 1404, 115, 108, 110, 112, 119, 117, 937, 1194, 114, 113, 104, 103, 102, 101, 818, 107, 105, 181, 182, 184, 106, 139, 1650, 159, 121, 126, 208] (wkM false wkw) := by unfold HopC; kernel_rfl
end Go.Proofs.YtfomgahphoobdaaGreatDoor

/-! The law on the order of waking: no texts at all. Conditions: none. -/
namespace Go.Proofs.YtfomgahphoobdaaGreatDoor
open Go Go.Ax Go.RowKit Go.Proofs
theorem wkhNF : HopC 0 specF GF 200 17 (wkn0 false) [3, 1, 0] [] [8, 9, 10, 11, 12, 13, 14, 15, 16, 17, 18, 19, 20, 21, 122, 120, 66, 59, 61, 63, 70, 68, 422, 604, 65, 64, 55, 54, 53, 52, 349, 58, 56, 57, 221, 293, 241, 246, 115, 108, 110, 112, 119, 117, 937, 939, 938, 114, 113, 104, 103, 102, 101, 818, 107, 105, 181, 182, 184, 106, 139, 159, 208, 121, 126, 1045] (wkQ false .nilslice) := by unfold HopC; kernel_rfl
theorem wkhOF : HopC 0 specF GF 200 17 ((wkQ false .nilslice).am 8000) [3] [] [8, 9, 10, 11, 12, 13, 14, 15, 16, 17, 18, 19, 20, 21, 122, 120, 66, 59, 61, 63, 70, 68, 422, 604, 65, 64, 55, 54, 53, 52, 349, 58, 56, 57, 221, 293, 241, 1404, 115, 108, 110, 112, 119, 117, 937, 1194, 114, 113, 104, 103, 102, 101, 818, 107, 105, 181, 182, 184, 106, 139, 1650, 159, 121, 126, 208] (wkM false .nilslice) := by unfold HopC; kernel_rfl
theorem wkzNF : exploreP specF GF 200 4 (fun c v => (Sp.lit true).chk c v) 17 8 [] ((wkM false .nilslice).am 8000) = true := by kernel_rfl
end Go.Proofs.YtfomgahphoobdaaGreatDoor
