/-
 The tie of the listed variables to the program's text, one closed fact a text (the given Tie text makes all in one declaration, which takes more memory than there is here). Conditions: none.
-/
import Derived.Test.YtmjjaldodkokbaaGreatDoorLT0
import Derived.LaidByTextLater
import Derived.SevenTiedAt
namespace Go.Proofs.YtmjjaldodkokbaaGreatDoor
open Go
theorem Zaz:Tryz.prog.worded (varsWordLater true)=true:=by kernel_rfl
theorem Zay:Tryz.prog.worded (varsWordLater !true)=false:=by kernel_rfl
theorem Zax:Tryz.prog.worded rootWordLater=true:=by kernel_rfl
theorem Zav:(Tryz.prog.funcNamed "gosem.cut.vars").isSome=true:=by kernel_rfl
end Go.Proofs.YtmjjaldodkokbaaGreatDoor
