/-
  The law on filters: the hop to state 5. Conditions: none.
-/
import Derived.Test.YtfomgahphoobdaaGreatDoorFSy
namespace Go.Proofs.YtfomgahphoobdaaGreatDoor
open Go Go.Ax Go.RowKit Go.Proofs

theorem qh5 : HopC 0 specF GF 200 17 (qs1ff.am 8000) [2, 1] [] [8, 9, 10, 11, 12, 13, 14, 15, 21, 18, 19, 53, 46, 48, 50, 57, 55, 901, 1166, 52, 51, 42, 41, 40, 828, 45, 43, 219, 220, 222, 305, 44, 177, 259, 3238, 197, 938, 102, 95, 97, 99, 106, 104, 101, 100, 91, 90, 89, 88, 1403, 94, 92, 388, 389, 391, 474, 93, 346, 1425, 428, 366, 502, 151, 144, 146, 148, 155, 153, 2429, 2708, 150, 149, 140, 139, 138, 137, 2356, 143, 141, 557, 558, 560, 643, 142, 515, 597, 535, 2466, 158, 156, 157, 164, 20, 60, 61, 62, 109, 110, 111] qs5 := by unfold HopC; kernel_rfl
end Go.Proofs.YtfomgahphoobdaaGreatDoor

/-! The law on filters: the end from state 5. Conditions: none. -/
namespace Go.Proofs.YtfomgahphoobdaaGreatDoor
open Go Go.Ax Go.RowKit Go.Proofs

theorem qz5 : exploreP specF GF 200 5 (fun c v => (Sp.lit true).chk c v) 17 3 [] (qs5.am 8000) = true := by kernel_rfl
end Go.Proofs.YtfomgahphoobdaaGreatDoor
