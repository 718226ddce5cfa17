/-
  Parts of the exploration of FrameOf. Conditions: none.
-/
import Derived.Test.YthfllbmlhhkhmaaGreatDoorIQB
namespace Go.Proofs.YthfllbmlhhkhmaaGreatDoor
open Go Go.Ax Go.RowKit Go.Proofs
theorem fr_fffffttffft : partP G3 15 [frameRawS] (.str 1000) 400 200 14 80 [false, false, false, false, false, true, true, false, false, false, true] = true := by kernel_rfl
theorem fr_fffffttffff : partP G3 15 [frameRawS] (.str 1000) 400 200 14 80 [false, false, false, false, false, true, true, false, false, false, false] = true := by kernel_rfl
theorem fr_ffffftft : partP G3 15 [frameRawS] (.str 1000) 400 200 14 80 [false, false, false, false, false, true, false, true] = true := by kernel_rfl
theorem fr_ffffftfft : partP G3 15 [frameRawS] (.str 1000) 400 200 14 80 [false, false, false, false, false, true, false, false, true] = true := by kernel_rfl
theorem fr_ffffftffft : partP G3 15 [frameRawS] (.str 1000) 400 200 14 80 [false, false, false, false, false, true, false, false, false, true] = true := by kernel_rfl
theorem fr_ffffftfffft : partP G3 15 [frameRawS] (.str 1000) 400 200 14 80 [false, false, false, false, false, true, false, false, false, false, true] = true := by kernel_rfl
theorem fr_ffffftfffff : partP G3 15 [frameRawS] (.str 1000) 400 200 14 80 [false, false, false, false, false, true, false, false, false, false, false] = true := by kernel_rfl
theorem fr_ffffff : partP G3 15 [frameRawS] (.str 1000) 400 200 14 80 [false, false, false, false, false, false] = true := by kernel_rfl
end Go.Proofs.YthfllbmlhhkhmaaGreatDoor
