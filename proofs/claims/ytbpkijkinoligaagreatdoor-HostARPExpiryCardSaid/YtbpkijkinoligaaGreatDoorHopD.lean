/-
  The law on expiring entries: hop C0. Conditions: none.
-/
import Derived.Test.YtbpkijkinoligaaGreatDoorHs2
import Derived.Test.YtbpkijkinoligaaGreatDoorHs3
namespace Go.Proofs.YtbpkijkinoligaaGreatDoor
open Go Go.Ax Go.RowKit Go.Proofs

theorem hC0 : Hop specF GA 200 17 (sG.am 8000) 33 [] [8, 9, 10, 11, 12, 13, 14, 115, 113, 59, 52, 54, 56, 63, 61, 339, 3874, 3873, 58, 57, 48, 47, 46, 45, 242, 51, 49, 50, 166, 3925, 108, 101, 103, 105, 112, 110, 1070, 107, 106, 97, 96, 95, 94, 904, 100, 98, 99, 114, 119, 1727] sC0 := by unfold Hop; kernel_rfl
end Go.Proofs.YtbpkijkinoligaaGreatDoor

/-! The law on expiring entries: hop C1. Conditions: none. -/
namespace Go.Proofs.YtbpkijkinoligaaGreatDoor
open Go Go.Ax Go.RowKit Go.Proofs

theorem hC1 : Hop specF GA 200 17 (sC0.am 8000) 1 [] [8, 9, 10, 11, 12, 13, 14, 115, 113, 59, 52, 54, 56, 63, 61, 339, 3874, 3873, 58, 57, 48, 47, 46, 45, 242, 51, 49, 50, 166, 108, 101, 103, 105, 112, 110, 1070, 107, 106, 97, 96, 95, 94, 904, 100, 98, 99, 114, 119, 4101, 1727] sC1 := by unfold Hop; kernel_rfl
end Go.Proofs.YtbpkijkinoligaaGreatDoor

/-! The law on expiring entries: hop C2. Conditions: none. -/
namespace Go.Proofs.YtbpkijkinoligaaGreatDoor
open Go Go.Ax Go.RowKit Go.Proofs

theorem hC2 : Hop specF GA 200 17 (sC1.am 8000) 1 [] [8, 9, 10, 11, 12, 13, 14, 115, 113, 59, 52, 54, 56, 63, 61, 339, 4133, 58, 57, 48, 47, 46, 45, 242, 51, 49, 50, 166, 108, 101, 103, 105, 112, 110, 1070, 107, 106, 97, 96, 95, 94, 904, 100, 98, 99, 114, 119, 4252, 1727] sC2 := by unfold Hop; kernel_rfl
end Go.Proofs.YtbpkijkinoligaaGreatDoor

/-! The law on expiring entries: hop C3. Conditions: none. -/
namespace Go.Proofs.YtbpkijkinoligaaGreatDoor
open Go Go.Ax Go.RowKit Go.Proofs

theorem hC3 : Hop specF GA 200 17 (sC2.am 8000) 1 [] [8, 9, 10, 11, 12, 13, 14, 115, 113, 59, 52, 54, 56, 63, 61, 339, 4133, 58, 57, 48, 47, 46, 45, 242, 51, 49, 50, 166, 108, 101, 103, 105, 112, 110, 1070, 4605, 4604, 107, 106, 97, 96, 95, 94, 904, 100, 98, 99, 114, 119, 4748, 1727] sC3 := by unfold Hop; kernel_rfl
end Go.Proofs.YtbpkijkinoligaaGreatDoor
