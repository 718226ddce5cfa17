/-
  The law on expiring entries: hop A0. Conditions: none.
-/
import Derived.Test.YtbpkijkinoligaaGreatDoorHs1
namespace Go.Proofs.YtbpkijkinoligaaGreatDoor
open Go Go.Ax Go.RowKit Go.Proofs

theorem hA0 : Hop specF GA 200 17 s00 7 [] [8, 9, 10, 11, 12, 13, 14, 115, 113, 59, 52, 54, 56, 63, 61, 339, 341, 340, 58, 57, 48, 47, 46, 45, 242, 51, 49, 50, 166, 392, 108, 101, 103, 105, 112, 110, 107, 106, 97, 96, 95, 94, 100, 98, 99, 114, 119] sA0 := by unfold Hop; kernel_rfl
end Go.Proofs.YtbpkijkinoligaaGreatDoor

/-! The law on expiring entries: hop A1. Conditions: none. -/
namespace Go.Proofs.YtbpkijkinoligaaGreatDoor
open Go Go.Ax Go.RowKit Go.Proofs

theorem hA1 : Hop specF GA 200 17 (sA0.am 8000) 1 [] [8, 9, 10, 11, 12, 13, 14, 115, 113, 59, 52, 54, 56, 63, 61, 339, 341, 340, 58, 57, 48, 47, 46, 45, 242, 51, 49, 50, 166, 108, 101, 103, 105, 112, 110, 107, 106, 97, 96, 95, 94, 100, 98, 99, 114, 119, 568] sA1 := by unfold Hop; kernel_rfl
end Go.Proofs.YtbpkijkinoligaaGreatDoor

/-! The law on expiring entries: hop A2. Conditions: none. -/
namespace Go.Proofs.YtbpkijkinoligaaGreatDoor
open Go Go.Ax Go.RowKit Go.Proofs

theorem hA2 : Hop specF GA 200 17 (sA1.am 8000) 1 [] [8, 9, 10, 11, 12, 13, 14, 115, 113, 59, 52, 54, 56, 63, 61, 339, 600, 58, 57, 48, 47, 46, 45, 242, 51, 49, 50, 166, 108, 101, 103, 105, 112, 110, 107, 106, 97, 96, 95, 94, 100, 98, 99, 114, 119, 719] sA2 := by unfold Hop; kernel_rfl
end Go.Proofs.YtbpkijkinoligaaGreatDoor

/-! The law on expiring entries: hop A3. Conditions: none. -/
namespace Go.Proofs.YtbpkijkinoligaaGreatDoor
open Go Go.Ax Go.RowKit Go.Proofs

theorem hA3 : Hop specF GA 200 17 (sA2.am 8000) 1 [] [8, 9, 10, 11, 12, 13, 14, 115, 113, 59, 52, 54, 56, 63, 61, 339, 600, 58, 57, 48, 47, 46, 45, 242, 51, 49, 50, 166, 108, 101, 103, 105, 112, 110, 1070, 1072, 1071, 107, 106, 97, 96, 95, 94, 904, 100, 98, 99, 114, 119, 1215] sA3 := by unfold Hop; kernel_rfl
end Go.Proofs.YtbpkijkinoligaaGreatDoor
