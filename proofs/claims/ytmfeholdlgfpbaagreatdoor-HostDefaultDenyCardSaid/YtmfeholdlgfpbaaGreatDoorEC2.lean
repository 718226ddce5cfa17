/-
 The room that the closure is given. Conditions: none.
-/
import Derived.Test.YtmfeholdlgfpbaaGreatDoorEC0
import Derived.Test.YtmfeholdlgfpbaaGreatDoorEC1a
import Derived.Test.YtmfeholdlgfpbaaGreatDoorEC1b
import Derived.Test.YtmfeholdlgfpbaaGreatDoorEC1c
namespace Go.Proofs.YtmfeholdlgfpbaaGreatDoor
open Go Go.Proofs
set_option maxRecDepth 100000
theorem Ql2:1+(Tryz.prog.funcs.toList.map λg=>(Tryz.prog.leadsTo g).length+1).sum=2117:=by kernel_rfl
end Go.Proofs.YtmfeholdlgfpbaaGreatDoor
namespace Go.Proofs.YtmfeholdlgfpbaaGreatDoor
open Go Go.Proofs
set_option maxRecDepth 100000
theorem Qoc:sn15.reverse=cl:=by decide+kernel
theorem qb:Tryz.prog.closure 3=cl:=by unfold Program.closure;rw [Ql2];show Tryz.prog.closureVia 2117 td0 sn0=cl;rw [show 2117=2017+100 from rfl,cs0];rw [show 2017=1917+100 from rfl,cs1];rw [show 1917=1817+100 from rfl,cs2];rw [show 1817=1717+100 from rfl,cs3];rw [show 1717=1617+100 from rfl,cs4];rw [show 1617=1517+100 from rfl,cs5];rw [show 1517=1417+100 from rfl,cs6];rw [show 1417=1317+100 from rfl,cs7];rw [show 1317=1217+100 from rfl,cs8];rw [show 1217=1117+100 from rfl,cs9];rw [show 1117=1017+100 from rfl,cs10];rw [show 1017=917+100 from rfl,cs11];rw [show 917=817+100 from rfl,cs12];rw [show 817=717+100 from rfl,cs13];rw [show 717=713+4 from rfl,cs14];show Tryz.prog.closureVia (712+1) [] sn15=cl;rw [<-Qoc];rfl
end Go.Proofs.YtmfeholdlgfpbaaGreatDoor
