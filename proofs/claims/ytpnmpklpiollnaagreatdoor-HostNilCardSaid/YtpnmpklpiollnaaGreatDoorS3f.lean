/-
  Parts of the exploration of FrameOf. Conditions: none.
-/
import Derived.Test.YtpnmpklpiollnaaGreatDoorSB
namespace Go.Proofs.YtpnmpklpiollnaaGreatDoor
open Go Go.Ax Go.RowKit
theorem fr_tffffff : partP G3 6 [frameRawS] (.str 5000) 400 200 14 80 [true, false, false, false, false, false, false] = true := by kernel_rfl
theorem fr_fft : partP G3 6 [frameRawS] (.str 5000) 400 200 14 80 [false, false, true] = true := by kernel_rfl
theorem fr_fffft : partP G3 6 [frameRawS] (.str 5000) 400 200 14 80 [false, false, false, false, true] = true := by kernel_rfl
theorem fr_ffft : partP G3 6 [frameRawS] (.str 5000) 400 200 14 80 [false, false, false, true] = true := by kernel_rfl
theorem fr_ffffft : partP G3 6 [frameRawS] (.str 5000) 400 200 14 80 [false, false, false, false, false, true] = true := by kernel_rfl
theorem fr_fffffff : partP G3 6 [frameRawS] (.str 5000) 400 200 14 80 [false, false, false, false, false, false, false] = true := by kernel_rfl
end Go.Proofs.YtpnmpklpiollnaaGreatDoor
