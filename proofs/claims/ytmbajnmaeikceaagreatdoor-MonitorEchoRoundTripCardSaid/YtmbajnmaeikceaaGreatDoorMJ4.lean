/-
 The law's number; the program may be entered. Conditions: none.
-/
import Derived.Test.YtmbajnmaeikceaaGreatDoorProg
import Derived.JoinedCond
import Derived.SevenTiedAt
import Derived.KernelRfl
import Derived.Test.YtmbajnmaeikceaaGreatDoorRows
namespace Go.Proofs.YtmbajnmaeikceaaGreatDoor
open Go Go.Proofs
set_option maxRecDepth 100000
theorem Qqb:Tryz.prog.funcNamed "stagepost/stagepostlaw28.MonitorEchoRoundTrip" =some 4:=by kernel_rfl
theorem Qry:Tryz.prog.mayEnter=true:=by kernel_rfl
end Go.Proofs.YtmbajnmaeikceaaGreatDoor
namespace Go.Proofs.YtmbajnmaeikceaaGreatDoor
open Go Go.Proofs
set_option maxRecDepth 100000
theorem j_wf:Rows.monitorEchoRoundTripRow.wf (OpenSpec.ofChange Rows.monitorEchoRoundTripSpec)=true:=by kernel_rfl
theorem Qr9:Tryz.f4.params.all (Tryz.prog.readableRec ·)=true:=by kernel_rfl
theorem j_tie:namedTie Tryz.prog Rows.monitorEchoRoundTripRow.named Rows.monitorEchoRoundTripSpec.vars=true:=by kernel_rfl
theorem Qrq:(Rows.monitorEchoRoundTripRow.stops==[])=true:=by kernel_rfl
theorem Qr7:(Tryz.prog.stops==[])=true:=by kernel_rfl
theorem Qru:(Rows.monitorEchoRoundTripRow.knobs==[])=true:=by kernel_rfl
theorem Qr8:(Tryz.prog.stopKnobs==[])=true:=by kernel_rfl
theorem Qra:(Rows.monitorEchoRoundTripRow.maps==(Tryz.f4.params.toList++Rows.monitorEchoRoundTripSpec.plain.varTypes Tryz.prog).any (Tryz.prog.mapsRec ·))=true:=by kernel_rfl
theorem Qrd:(Rows.monitorEchoRoundTripRow.ifaces==(Tryz.f4.params.toList++Rows.monitorEchoRoundTripSpec.plain.varTypes Tryz.prog).any (Tryz.prog.ifacesRec ·))=true:=by kernel_rfl
theorem Qqa:(Rows.monitorEchoRoundTripRow.mapsOut==Tryz.prog.mapsAmong Tryz.f4.resultTypes.toList)=true:=by kernel_rfl
theorem Qrs:(Rows.monitorEchoRoundTripRow.loops==(Tryz.f4.params.toList++Rows.monitorEchoRoundTripSpec.plain.varTypes Tryz.prog).any (Tryz.prog.loopsFrom ·))=true:=by kernel_rfl
theorem Z1s:(Rows.monitorEchoRoundTripRow.wideKeys==(Tryz.f4.params.toList++Rows.monitorEchoRoundTripSpec.plain.varTypes Tryz.prog++Tryz.f4.resultTypes.toList).any (Tryz.prog.wideKeysFrom ·))=true:=by kernel_rfl
theorem Z1t:Rows.monitorEchoRoundTripSpec.vars.all (Tryz.prog.varReadable ·)=true:=by kernel_rfl
theorem j_res:Tryz.f4.resultTypes.all (λt=>Tryz.prog.readableRec t&&decide (t<Tryz.prog.types.size))=true:=by kernel_rfl
theorem Qrw:(Rows.monitorEchoRoundTripRow.ifacesOut==Tryz.f4.resultTypes.toList.any (Tryz.prog.ifacesRec ·))=true:=by kernel_rfl
theorem Qq1:(Rows.monitorEchoRoundTripRow.loopsOut==Tryz.f4.resultTypes.toList.any (Tryz.prog.loopsFrom ·))=true:=by kernel_rfl
theorem Qps:(Rows.monitorEchoRoundTripRow.plainKeys==Tryz.prog.plainKeys)=true:=by kernel_rfl
theorem Qrr:Rows.monitorEchoRoundTripRow.shortTexts.isNone=true:=by kernel_rfl
theorem Qrc:(Rows.monitorEchoRoundTripRow.lifted==Tryz.prog.liftsFinal)=true:=by kernel_rfl
theorem Z1v:(Tryz.prog.make==some Rows.monitorEchoRoundTripRow.make)=true:=by kernel_rfl
theorem Qr6:(Rows.monitorEchoRoundTripRow.veiled==(Tryz.f4.params.toList++Rows.monitorEchoRoundTripSpec.plain.varTypes Tryz.prog++Tryz.f4.resultTypes.toList).any (Tryz.prog.veiledRec ·))=true:=by kernel_rfl
theorem Qq0:Rows.monitorEchoRoundTripRow.veiledFits Tryz.prog Tryz.f4.params.toList (Tryz.f4.params.toList++Rows.monitorEchoRoundTripSpec.plain.varTypes Tryz.prog++Tryz.f4.resultTypes.toList)=true:=by kernel_rfl
theorem Qrt:true=Tryz.prog.looks []:=by kernel_rfl
theorem Qr5:Rows.monitorEchoRoundTripRow.wfByText (OpenSpec.ofChange Rows.monitorEchoRoundTripSpec)=true:=by kernel_rfl
theorem Qrv:Tryz.prog.inits.idxOf? 4=none:=by kernel_rfl
theorem Qrb:Tryz.prog.mainIs=some (true, "1e0db1f13d318675223393e33a71d82dea1203d14f3aff46a4b8bfd5f123f27f".toList):=by kernel_rfl
end Go.Proofs.YtmbajnmaeikceaaGreatDoor
