/-
 The row's closed facts, as the form asks them. Conditions: none.
-/
import Derived.Test.YtmjjaldodkokbaaGreatDoorLJ2
import Derived.Test.YtmjjaldodkokbaaGreatDoorLJ3
import Derived.Test.YtmjjaldodkokbaaGreatDoorLJ4
import Derived.Test.YtmjjaldodkokbaaGreatDoorLC5
namespace Go.Proofs.YtmjjaldodkokbaaGreatDoor
open Go Go.Proofs
set_option maxRecDepth 100000
theorem joined:joinedFacts Tryz.prog 3 Tryz.f3 Rows.hostResolvesNameSpec Rows.hostResolvesNameRow=true:=by unfold joinedFacts;rw [j_wf,Qxh,Zd6,Z1r,j_tie,Z85,Z1p,Z89,Z1q,Qlt,Qg3,Qjt,named_ok,Z1s,Z1v,Z04,Z87,Zd4,Zd5,j_res,Z8b,Qxs,Qss,Z86,Z8c,Z8d,Z1u,Zd7,Z1o,Qxr];rfl
theorem Zab:false=Rows.hostResolvesNameRow.goesBy Tryz.prog:=by have h:Rows.hostResolvesNameRow.goesBy Tryz.prog=(((Tryz.prog.funcNamed "stagepost/stagepostlaw25.HostResolvesName").any Tryz.prog.goes)||false):=rfl;rw [h,Z05];rw [Option.any_some,goes_eq];rfl
end Go.Proofs.YtmjjaldodkokbaaGreatDoor
