/-
 The tie of the listed variables to the program's text, one closed fact a text (the given Tie text makes all in one declaration, which takes more memory than there is here). Conditions: none.
-/
import Derived.Test.YtmfeholdlgfpbaaGreatDoorET0
import Derived.LaidByTextLater
import Derived.SevenTiedAt
namespace Go.Proofs.YtmfeholdlgfpbaaGreatDoor
open Go
theorem Zb0:varsNamedLaterB Tryz.prog (varsId Tryz.prog) laidAll=true:=by kernel_rfl
end Go.Proofs.YtmfeholdlgfpbaaGreatDoor
