/-
  The law on expiring entries: hop B0. Conditions: none.
-/
import Derived.Test.YtbpkijkinoligaaGreatDoorHs2
namespace Go.Proofs.YtbpkijkinoligaaGreatDoor
open Go Go.Ax Go.RowKit Go.Proofs

theorem hB0 : Hop specF GA 200 17 (sE.am 8000) 40 [] [8, 9, 10, 11, 12, 13, 14, 115, 113, 59, 52, 54, 56, 63, 61, 339, 600, 58, 57, 48, 47, 46, 45, 242, 51, 49, 50, 166, 1727, 108, 101, 103, 105, 112, 110, 1070, 1423, 107, 106, 97, 96, 95, 94, 904, 100, 98, 99, 114, 119] sB0 := by unfold Hop; kernel_rfl
end Go.Proofs.YtbpkijkinoligaaGreatDoor

/-! The law on expiring entries: hop B1. Conditions: none. -/
namespace Go.Proofs.YtbpkijkinoligaaGreatDoor
open Go Go.Ax Go.RowKit Go.Proofs

theorem hB1 : Hop specF GA 200 17 (sB0.am 8000) 10 [] [8, 9, 10, 11, 12, 13, 14, 115, 113, 59, 52, 54, 56, 63, 61, 339, 600, 58, 57, 48, 47, 46, 45, 242, 51, 49, 50, 166, 1727, 108, 101, 103, 105, 112, 110, 1070, 1423, 107, 106, 97, 96, 95, 94, 904, 100, 98, 99, 114, 119] sB1 := by unfold Hop; kernel_rfl
end Go.Proofs.YtbpkijkinoligaaGreatDoor

/-! The law on expiring entries: hop B2. Conditions: none. -/
namespace Go.Proofs.YtbpkijkinoligaaGreatDoor
open Go Go.Ax Go.RowKit Go.Proofs

theorem hB2 : Hop specF GA 200 17 (sB1.am 8000) 10 [] [8, 9, 10, 11, 12, 13, 14, 115, 113, 59, 52, 54, 56, 63, 61, 339, 58, 57, 48, 47, 46, 45, 242, 51, 49, 50, 166, 1727, 108, 101, 103, 105, 112, 110, 1070, 107, 106, 97, 96, 95, 94, 904, 100, 98, 99, 114, 119] sB2 := by unfold Hop; kernel_rfl
end Go.Proofs.YtbpkijkinoligaaGreatDoor

/-! The law on expiring entries: hop P0. Conditions: none. -/
namespace Go.Proofs.YtbpkijkinoligaaGreatDoor
open Go Go.Ax Go.RowKit Go.Proofs

theorem hP0 : Hop specF GA 200 17 (sB2.am 8000) 10 [(1909, (.lit (.ofNat 20))), (1910, (.lit (.ofNat 19))), (1908, (.bin .add .i64 (.var 1907) (.lit (.negSucc 579))))] [8, 9, 10, 11, 12, 13, 14, 115, 113, 59, 52, 54, 56, 63, 61, 339, 58, 57, 48, 47, 46, 45, 242, 51, 49, 50, 166, 1727, 108, 101, 103, 105, 112, 110, 1070, 107, 106, 97, 96, 95, 94, 904, 100, 98, 99, 114, 119] sP := by unfold Hop; kernel_rfl
end Go.Proofs.YtbpkijkinoligaaGreatDoor

/-! The law on expiring entries: hop P1. Conditions: none. -/
namespace Go.Proofs.YtbpkijkinoligaaGreatDoor
open Go Go.Ax Go.RowKit Go.Proofs

theorem hP1 : HopV specF GA 200 17 (sP.am 8000) 1 true 2 [(1909, (.bin .add .i64 (.var 1909) (.lit (.ofNat 1)))), (1910, (.var 1909)), (1908, (.bin .add .i64 (.var 1908) (.lit (.ofNat 1))))] [8, 9, 10, 11, 12, 13, 14, 115, 113, 59, 52, 54, 56, 63, 61, 339, 58, 57, 48, 47, 46, 45, 242, 51, 49, 50, 166, 1727, 108, 101, 103, 105, 112, 110, 1070, 107, 106, 97, 96, 95, 94, 904, 100, 98, 99, 114, 119] sP := by unfold HopV; kernel_rfl
end Go.Proofs.YtbpkijkinoligaaGreatDoor

/-! The law on expiring entries: hop P2. Conditions: none. -/
namespace Go.Proofs.YtbpkijkinoligaaGreatDoor
open Go Go.Ax Go.RowKit Go.Proofs

theorem hP2 : HopV specF GA 200 17 (sP.am 8000) 1 false 1 [] [8, 9, 10, 11, 12, 13, 14, 115, 113, 59, 52, 54, 56, 63, 61, 339, 58, 57, 48, 47, 46, 45, 242, 51, 49, 50, 166, 1727, 108, 101, 103, 105, 112, 110, 1070, 107, 106, 97, 96, 95, 94, 904, 100, 98, 99, 114, 119] sF := by unfold HopV; kernel_rfl
end Go.Proofs.YtbpkijkinoligaaGreatDoor
