/-
  Parts of the exploration of FrameOf. Conditions: none.
-/
import Derived.Test.YtpnmpklpiollnaaGreatDoorSB
namespace Go.Proofs.YtpnmpklpiollnaaGreatDoor
open Go Go.Ax Go.RowKit
theorem fr_ft : partP G3 6 [frameRawS] (.str 5000) 400 200 14 80 [false, true] = true := by kernel_rfl
theorem fr_tt : partP G3 6 [frameRawS] (.str 5000) 400 200 14 80 [true, true] = true := by kernel_rfl
theorem fr_tft : partP G3 6 [frameRawS] (.str 5000) 400 200 14 80 [true, false, true] = true := by kernel_rfl
theorem fr_tfft : partP G3 6 [frameRawS] (.str 5000) 400 200 14 80 [true, false, false, true] = true := by kernel_rfl
theorem fr_tffft : partP G3 6 [frameRawS] (.str 5000) 400 200 14 80 [true, false, false, false, true] = true := by kernel_rfl
theorem fr_tfffft : partP G3 6 [frameRawS] (.str 5000) 400 200 14 80 [true, false, false, false, false, true] = true := by kernel_rfl
end Go.Proofs.YtpnmpklpiollnaaGreatDoor
