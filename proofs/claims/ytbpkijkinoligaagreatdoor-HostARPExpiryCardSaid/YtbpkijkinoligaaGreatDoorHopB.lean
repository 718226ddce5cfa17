/-
  The law on expiring entries: hop A4. Conditions: none.
-/
import Derived.Test.YtbpkijkinoligaaGreatDoorHs1
import Derived.Test.YtbpkijkinoligaaGreatDoorHs2
namespace Go.Proofs.YtbpkijkinoligaaGreatDoor
open Go Go.Ax Go.RowKit Go.Proofs

theorem hA4 : Hop specF GA 200 17 (sA3.am 8000) 1 [] [8, 9, 10, 11, 12, 13, 14, 115, 113, 59, 52, 54, 56, 63, 61, 339, 600, 58, 57, 48, 47, 46, 45, 242, 51, 49, 50, 166, 108, 101, 103, 105, 112, 110, 1070, 1072, 1071, 107, 106, 97, 96, 95, 94, 904, 100, 98, 99, 114, 119, 1390] sA4 := by unfold Hop; kernel_rfl
end Go.Proofs.YtbpkijkinoligaaGreatDoor

/-! The law on expiring entries: hop A5. Conditions: none. -/
namespace Go.Proofs.YtbpkijkinoligaaGreatDoor
open Go Go.Ax Go.RowKit Go.Proofs

theorem hA5 : Hop specF GA 200 17 (sA4.am 8000) 1 [] [8, 9, 10, 11, 12, 13, 14, 115, 113, 59, 52, 54, 56, 63, 61, 339, 600, 58, 57, 48, 47, 46, 45, 242, 51, 49, 50, 166, 108, 101, 103, 105, 112, 110, 1070, 1423, 107, 106, 97, 96, 95, 94, 904, 100, 98, 99, 114, 119, 1543] sA5 := by unfold Hop; kernel_rfl
end Go.Proofs.YtbpkijkinoligaaGreatDoor

/-! The law on expiring entries: hop A6. Conditions: none. -/
namespace Go.Proofs.YtbpkijkinoligaaGreatDoor
open Go Go.Ax Go.RowKit Go.Proofs

theorem hA6 : Hop specF GA 200 17 (sA5.am 8000) 1 [] [8, 9, 10, 11, 12, 13, 14, 115, 113, 59, 52, 54, 56, 63, 61, 339, 600, 58, 57, 48, 47, 46, 45, 242, 51, 49, 50, 166, 1727, 108, 101, 103, 105, 112, 110, 1070, 1423, 107, 106, 97, 96, 95, 94, 904, 100, 98, 99, 114, 119] sA6 := by unfold Hop; kernel_rfl
end Go.Proofs.YtbpkijkinoligaaGreatDoor

/-! The law on expiring entries: hop T0. Conditions: none. -/
namespace Go.Proofs.YtbpkijkinoligaaGreatDoor
open Go Go.Ax Go.RowKit Go.Proofs

theorem hT0 : Hop specF GA 200 17 (sA6.am 8000) 1 [(1905, (.lit (.ofNat 7))), (1906, (.lit (.ofNat 6)))] [8, 9, 10, 11, 12, 13, 14, 115, 113, 59, 52, 54, 56, 63, 61, 339, 600, 58, 57, 48, 47, 46, 45, 242, 51, 49, 50, 166, 1727, 108, 101, 103, 105, 112, 110, 1070, 1423, 107, 106, 97, 96, 95, 94, 904, 100, 98, 99, 114, 119] sT := by unfold Hop; kernel_rfl
end Go.Proofs.YtbpkijkinoligaaGreatDoor

/-! The law on expiring entries: hop T1. Conditions: none. -/
namespace Go.Proofs.YtbpkijkinoligaaGreatDoor
open Go Go.Ax Go.RowKit Go.Proofs

theorem hT1 : HopV specF GA 200 17 (sT.am 8000) 1 true 1 [(1905, (.bin .add .i64 (.var 1905) (.lit (.ofNat 1)))), (1906, (.var 1905))] [8, 9, 10, 11, 12, 13, 14, 115, 113, 59, 52, 54, 56, 63, 61, 339, 600, 58, 57, 48, 47, 46, 45, 242, 51, 49, 50, 166, 1727, 108, 101, 103, 105, 112, 110, 1070, 1423, 107, 106, 97, 96, 95, 94, 904, 100, 98, 99, 114, 119] sT := by unfold HopV; kernel_rfl
end Go.Proofs.YtbpkijkinoligaaGreatDoor

/-! The law on expiring entries: hop T2. Conditions: none. -/
namespace Go.Proofs.YtbpkijkinoligaaGreatDoor
open Go Go.Ax Go.RowKit Go.Proofs

theorem hT2 : HopV specF GA 200 17 (sT.am 8000) 1 false 1 [(1907, (.bin .add .i64 (.var 1905) (.lit (.ofNat 1)))), (1906, (.var 1905))] [8, 9, 10, 11, 12, 13, 14, 115, 113, 59, 52, 54, 56, 63, 61, 339, 600, 58, 57, 48, 47, 46, 45, 242, 51, 49, 50, 166, 1727, 108, 101, 103, 105, 112, 110, 1070, 1423, 107, 106, 97, 96, 95, 94, 904, 100, 98, 99, 114, 119] sE := by unfold HopV; kernel_rfl
end Go.Proofs.YtbpkijkinoligaaGreatDoor
