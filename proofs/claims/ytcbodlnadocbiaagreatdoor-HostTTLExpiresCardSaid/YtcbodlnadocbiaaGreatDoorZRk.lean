/-
  The law on expiring packets: hop 9. Conditions: none.
-/
import Derived.Test.YtcbodlnadocbiaaGreatDoorZRs
namespace Go.Proofs.YtcbodlnadocbiaaGreatDoor
open Go Go.Ax Go.RowKit Go.Proofs

theorem h9 : Hop specF GR 200 17 (s8.am 8000) 3 [] [8, 9, 10, 11, 12, 13, 14, 20, 17, 18, 19, 26, 23, 24, 25, 32, 29, 30, 31, 72, 65, 67, 69, 76, 74, 345, 554, 71, 70, 61, 60, 59, 58, 274, 64, 62, 63, 218, 116, 109, 111, 113, 120, 118, 779, 1094, 115, 114, 105, 104, 103, 102, 108, 106, 107, 160, 153, 155, 157, 164, 162, 1320, 1626, 8743, 159, 158, 149, 148, 147, 146, 8365, 152, 150, 151, 167, 165, 166, 173, 8845] s9 := by unfold Hop; kernel_rfl
end Go.Proofs.YtcbodlnadocbiaaGreatDoor
