/-
 The tie of the listed variables to the program's text, one closed fact a text (the given Tie text makes all in one declaration, which takes more memory than there is here). Conditions: none.
-/
import Derived.Test.YtmfeholdlgfpbaaGreatDoorET0
import Derived.LaidByTextLater
import Derived.SevenTiedAt
namespace Go.Proofs.YtmfeholdlgfpbaaGreatDoor
open Go
theorem Zaz:∀os tape,(DataW.laidRun Tryz.prog (varsWorld Tryz.prog 400 (varsId Tryz.prog) os tape).memory 8 ((laidAll.filter λx=>x.2.handleName?.isNone).map (·.1))).map (·.1)=some (laidAll.filter λx=>x.2.handleName?.isNone):=λ_ _=>by kernel_rfl
end Go.Proofs.YtmfeholdlgfpbaaGreatDoor
