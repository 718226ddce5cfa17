/-
  The law on expiring entries: hop C4. Conditions: none.
-/
import Derived.Test.YtbpkijkinoligaaGreatDoorHs3
namespace Go.Proofs.YtbpkijkinoligaaGreatDoor
open Go Go.Ax Go.RowKit Go.Proofs

theorem hC4 : Hop specF GA 200 17 (sC3.am 8000) 1 [] [8, 9, 10, 11, 12, 13, 14, 115, 113, 59, 52, 54, 56, 63, 61, 339, 4133, 58, 57, 48, 47, 46, 45, 242, 51, 49, 50, 166, 108, 101, 103, 105, 112, 110, 1070, 4605, 4604, 107, 106, 97, 96, 95, 94, 904, 100, 98, 99, 114, 119, 4923, 1727] sC4 := by unfold Hop; kernel_rfl
end Go.Proofs.YtbpkijkinoligaaGreatDoor

/-! The law on expiring entries: hop C5. Conditions: none. -/
namespace Go.Proofs.YtbpkijkinoligaaGreatDoor
open Go Go.Ax Go.RowKit Go.Proofs

theorem hC5 : Hop specF GA 200 17 (sC4.am 8000) 1 [] [8, 9, 10, 11, 12, 13, 14, 115, 113, 59, 52, 54, 56, 63, 61, 339, 4133, 58, 57, 48, 47, 46, 45, 242, 51, 49, 50, 166, 108, 101, 103, 105, 112, 110, 1070, 4956, 107, 106, 97, 96, 95, 94, 904, 100, 98, 99, 114, 119, 5076, 1727] sC5 := by unfold Hop; kernel_rfl
end Go.Proofs.YtbpkijkinoligaaGreatDoor

/-! The law on expiring entries: hop C6. Conditions: none. -/
namespace Go.Proofs.YtbpkijkinoligaaGreatDoor
open Go Go.Ax Go.RowKit Go.Proofs

theorem hC6 : Hop specF GA 200 17 (sC5.am 8000) 1 [] [8, 9, 10, 11, 12, 13, 14, 115, 113, 59, 52, 54, 56, 63, 61, 339, 4133, 58, 57, 48, 47, 46, 45, 242, 51, 49, 50, 166, 5260, 108, 101, 103, 105, 112, 110, 1070, 4956, 107, 106, 97, 96, 95, 94, 904, 100, 98, 99, 114, 119, 1727] sC6 := by unfold Hop; kernel_rfl
end Go.Proofs.YtbpkijkinoligaaGreatDoor

/-! The law on expiring entries: hop Z. Conditions: none. -/
namespace Go.Proofs.YtbpkijkinoligaaGreatDoor
open Go Go.Ax Go.RowKit Go.Proofs

theorem hZ : exploreP specF GA 200 4 (fun c v => (Sp.lit true).chk c v) 17 3 [] (sC6.am 8000) = true := by kernel_rfl
end Go.Proofs.YtbpkijkinoligaaGreatDoor
