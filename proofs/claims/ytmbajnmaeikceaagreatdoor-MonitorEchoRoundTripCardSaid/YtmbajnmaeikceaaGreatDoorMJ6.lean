/-
 The row's closed facts, as the form asks them. Conditions: none.
-/
import Derived.Test.YtmbajnmaeikceaaGreatDoorMJ2
import Derived.Test.YtmbajnmaeikceaaGreatDoorMJ3
import Derived.Test.YtmbajnmaeikceaaGreatDoorMJ4
import Derived.Test.YtmbajnmaeikceaaGreatDoorMC5
namespace Go.Proofs.YtmbajnmaeikceaaGreatDoor
open Go Go.Proofs
set_option maxRecDepth 100000
theorem joined:joinedFacts Tryz.prog 4 Tryz.f4 Rows.monitorEchoRoundTripSpec Rows.monitorEchoRoundTripRow=true:=by unfold joinedFacts;rw [j_wf,Qpu,Z1u,Qr9,j_tie,Qrq,Qr7,Qru,Qr8,Ql9,Qg2,Qjh,named_ok,Qra,Qrd,Qqa,Qrs,Z1s,Z1t,j_res,Qrw,Qq1,Qps,Qrr,Qrx,Qry,Qrc,Z1v,Qr6,Qq0];rfl
theorem Qrz:false=Rows.monitorEchoRoundTripRow.goesBy Tryz.prog:=by have h:Rows.monitorEchoRoundTripRow.goesBy Tryz.prog=(((Tryz.prog.funcNamed "stagepost/stagepostlaw28.MonitorEchoRoundTrip").any Tryz.prog.goes)||false):=rfl;rw [h,Qqb];rw [Option.any_some,goes_eq];rfl
end Go.Proofs.YtmbajnmaeikceaaGreatDoor
