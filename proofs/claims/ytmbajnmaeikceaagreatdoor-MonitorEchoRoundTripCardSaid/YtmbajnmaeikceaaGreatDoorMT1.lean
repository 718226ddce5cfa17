/-
 The tie of the listed variables to the program's text, one closed fact a text (the given Tie text makes all in one declaration, which takes more memory than there is here). Conditions: none.
-/
import Derived.Test.YtmbajnmaeikceaaGreatDoorMT0
import Derived.LaidByTextLater
import Derived.SevenTiedAt
namespace Go.Proofs.YtmbajnmaeikceaaGreatDoor
open Go
theorem Z2d:Tryz.prog.worded (varsWordLater true)=true:=by kernel_rfl
theorem Z2c:Tryz.prog.worded (varsWordLater !true)=false:=by kernel_rfl
theorem Z2b:Tryz.prog.worded rootWordLater=true:=by kernel_rfl
theorem Z29:(Tryz.prog.funcNamed "gosem.cut.vars").isSome=true:=by kernel_rfl
end Go.Proofs.YtmbajnmaeikceaaGreatDoor
