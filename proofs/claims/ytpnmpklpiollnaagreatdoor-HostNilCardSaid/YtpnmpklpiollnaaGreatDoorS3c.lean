/-
  Parts of the exploration of FrameOf. Conditions: none.
-/
import Derived.Test.YtpnmpklpiollnaaGreatDoorSB
namespace Go.Proofs.YtpnmpklpiollnaaGreatDoor
open Go Go.Ax Go.RowKit
theorem fr_fffffftf : partP G3 6 [frameRawS] (.str 5000) 400 200 14 80 [false, false, false, false, false, false, true, false] = true := by kernel_rfl
end Go.Proofs.YtpnmpklpiollnaaGreatDoor
