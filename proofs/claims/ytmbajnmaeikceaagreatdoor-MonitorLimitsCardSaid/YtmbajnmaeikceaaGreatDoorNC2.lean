/-
 The room that the closure is given. Conditions: none.
-/
import Derived.Test.YtmbajnmaeikceaaGreatDoorNC0
import Derived.Test.YtmbajnmaeikceaaGreatDoorNC1a
import Derived.Test.YtmbajnmaeikceaaGreatDoorNC1b
import Derived.Test.YtmbajnmaeikceaaGreatDoorNC1c
namespace Go.Proofs.YtmbajnmaeikceaaGreatDoor
open Go Go.Proofs
set_option maxRecDepth 100000
theorem Qkw:1+(Tryz.prog.funcs.toList.map λg=>(Tryz.prog.leadsTo g).length+1).sum=2246:=by kernel_rfl
end Go.Proofs.YtmbajnmaeikceaaGreatDoor
namespace Go.Proofs.YtmbajnmaeikceaaGreatDoor
open Go Go.Proofs
set_option maxRecDepth 100000
theorem Qo8:sn15.reverse=cl:=by decide+kernel
theorem qg:Tryz.prog.closure 3=cl:=by unfold Program.closure;rw [Qkw];show Tryz.prog.closureVia 2246 td0 sn0=cl;rw [show 2246=2146+100 from rfl,cs0];rw [show 2146=2046+100 from rfl,cs1];rw [show 2046=1946+100 from rfl,cs2];rw [show 1946=1846+100 from rfl,cs3];rw [show 1846=1746+100 from rfl,cs4];rw [show 1746=1646+100 from rfl,cs5];rw [show 1646=1546+100 from rfl,cs6];rw [show 1546=1446+100 from rfl,cs7];rw [show 1446=1346+100 from rfl,cs8];rw [show 1346=1246+100 from rfl,cs9];rw [show 1246=1146+100 from rfl,cs10];rw [show 1146=1046+100 from rfl,cs11];rw [show 1046=946+100 from rfl,cs12];rw [show 946=846+100 from rfl,cs13];rw [show 846=800+46 from rfl,cs14];show Tryz.prog.closureVia (799+1) [] sn15=cl;rw [<-Qo8];rfl
end Go.Proofs.YtmbajnmaeikceaaGreatDoor
