/-
 The tie of the listed variables to the program's text, one closed fact a text (the given Tie text makes all in one declaration, which takes more memory than there is here). Conditions: none.
-/
import Derived.Test.YtmfeholdlgfpbaaGreatDoorET0
import Derived.LaidByTextLater
import Derived.SevenTiedAt
namespace Go.Proofs.YtmfeholdlgfpbaaGreatDoor
open Go
theorem Zb5:Tryz.prog.worded (varsWordLater true)=true:=by kernel_rfl
theorem Zb4:Tryz.prog.worded (varsWordLater !true)=false:=by kernel_rfl
theorem Zb3:Tryz.prog.worded rootWordLater=true:=by kernel_rfl
theorem Zb1:(Tryz.prog.funcNamed "gosem.cut.vars").isSome=true:=by kernel_rfl
end Go.Proofs.YtmfeholdlgfpbaaGreatDoor
