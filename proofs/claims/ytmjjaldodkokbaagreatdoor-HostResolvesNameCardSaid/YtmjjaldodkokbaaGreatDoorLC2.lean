/-
 The room that the closure is given. Conditions: none.
-/
import Derived.Test.YtmjjaldodkokbaaGreatDoorLC0
import Derived.Test.YtmjjaldodkokbaaGreatDoorLC1a
import Derived.Test.YtmjjaldodkokbaaGreatDoorLC1b
import Derived.Test.YtmjjaldodkokbaaGreatDoorLC1c
namespace Go.Proofs.YtmjjaldodkokbaaGreatDoor
open Go Go.Proofs
set_option maxRecDepth 100000
theorem Qkl:1+(Tryz.prog.funcs.toList.map λg=>(Tryz.prog.leadsTo g).length+1).sum=2112:=by kernel_rfl
end Go.Proofs.YtmjjaldodkokbaaGreatDoor
namespace Go.Proofs.YtmjjaldodkokbaaGreatDoor
open Go Go.Proofs
set_option maxRecDepth 100000
theorem Qnv:sn14.reverse=cl:=by decide+kernel
theorem JN:Tryz.prog.closure 3=cl:=by unfold Program.closure;rw [Qkl];show Tryz.prog.closureVia 2112 td0 sn0=cl;rw [show 2112=2012+100 from rfl,cs0];rw [show 2012=1912+100 from rfl,cs1];rw [show 1912=1812+100 from rfl,cs2];rw [show 1812=1712+100 from rfl,cs3];rw [show 1712=1612+100 from rfl,cs4];rw [show 1612=1512+100 from rfl,cs5];rw [show 1512=1412+100 from rfl,cs6];rw [show 1412=1312+100 from rfl,cs7];rw [show 1312=1212+100 from rfl,cs8];rw [show 1212=1112+100 from rfl,cs9];rw [show 1112=1012+100 from rfl,cs10];rw [show 1012=912+100 from rfl,cs11];rw [show 912=812+100 from rfl,cs12];rw [show 812=757+55 from rfl,cs13];show Tryz.prog.closureVia (756+1) [] sn14=cl;rw [<-Qnv];rfl
end Go.Proofs.YtmjjaldodkokbaaGreatDoor
