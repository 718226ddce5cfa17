/-
 The row's closed facts, as the form asks them. Conditions: none.
-/
import Derived.Test.YtmbajnmaeikceaaGreatDoorNJ2
import Derived.Test.YtmbajnmaeikceaaGreatDoorNJ3
import Derived.Test.YtmbajnmaeikceaaGreatDoorNJ4
import Derived.Test.YtmbajnmaeikceaaGreatDoorNC5
namespace Go.Proofs.YtmbajnmaeikceaaGreatDoor
open Go Go.Proofs
set_option maxRecDepth 100000
theorem joined:joinedFacts Tryz.prog 3 Tryz.f3 Rows.monitorLimitsSpec Rows.monitorLimitsRow=true:=by unfold joinedFacts;rw [j_wf,Qpx,Z82,Qu2,j_tie,Qw1,Qu0,Qw5,Qu1,Qlx,Qgj,Qk0,named_ok,Qu3,Qu6,Qs8,Qw3,Z80,Z81,j_res,Qw7,Qrv,Qpu,Qw2,Qw8,Qw9,Qu5,Z83,Qtz,Qru];rfl
theorem Qwa:false=Rows.monitorLimitsRow.goesBy Tryz.prog:=by have h:Rows.monitorLimitsRow.goesBy Tryz.prog=(((Tryz.prog.funcNamed "stagepost/stagepostlaw28.MonitorLimits").any Tryz.prog.goes)||false):=rfl;rw [h,Qs9];rw [Option.any_some,goes_eq];rfl
end Go.Proofs.YtmbajnmaeikceaaGreatDoor
