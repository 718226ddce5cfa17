/-
  Parts of the exploration of FrameOf. Conditions: none.
-/
import Derived.Test.YthfllbmlhhkhmaaGreatDoorIQB
namespace Go.Proofs.YthfllbmlhhkhmaaGreatDoor
open Go Go.Ax Go.RowKit Go.Proofs
theorem fr_t : partP G3 15 [frameRawS] (.str 1000) 400 200 14 80 [true] = true := by kernel_rfl
theorem fr_ft : partP G3 15 [frameRawS] (.str 1000) 400 200 14 80 [false, true] = true := by kernel_rfl
theorem fr_fft : partP G3 15 [frameRawS] (.str 1000) 400 200 14 80 [false, false, true] = true := by kernel_rfl
theorem fr_ffft : partP G3 15 [frameRawS] (.str 1000) 400 200 14 80 [false, false, false, true] = true := by kernel_rfl
theorem fr_fffft : partP G3 15 [frameRawS] (.str 1000) 400 200 14 80 [false, false, false, false, true] = true := by kernel_rfl
theorem fr_fffffttt : partP G3 15 [frameRawS] (.str 1000) 400 200 14 80 [false, false, false, false, false, true, true, true] = true := by kernel_rfl
theorem fr_fffffttft : partP G3 15 [frameRawS] (.str 1000) 400 200 14 80 [false, false, false, false, false, true, true, false, true] = true := by kernel_rfl
theorem fr_fffffttfft : partP G3 15 [frameRawS] (.str 1000) 400 200 14 80 [false, false, false, false, false, true, true, false, false, true] = true := by kernel_rfl
end Go.Proofs.YthfllbmlhhkhmaaGreatDoor
