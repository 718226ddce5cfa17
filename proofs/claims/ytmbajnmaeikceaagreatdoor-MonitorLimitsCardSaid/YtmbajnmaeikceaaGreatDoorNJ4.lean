/-
 The law's number; the program may be entered. Conditions: none.
-/
import Derived.Test.YtmbajnmaeikceaaGreatDoorProg
import Derived.JoinedCond
import Derived.SevenTiedAt
import Derived.KernelRfl
import Derived.Test.YtmbajnmaeikceaaGreatDoorRows
namespace Go.Proofs.YtmbajnmaeikceaaGreatDoor
open Go Go.Proofs
set_option maxRecDepth 100000
theorem Qs9:Tryz.prog.funcNamed "stagepost/stagepostlaw28.MonitorLimits" =some 3:=by kernel_rfl
theorem Qw9:Tryz.prog.mayEnter=true:=by kernel_rfl
end Go.Proofs.YtmbajnmaeikceaaGreatDoor
namespace Go.Proofs.YtmbajnmaeikceaaGreatDoor
open Go Go.Proofs
set_option maxRecDepth 100000
theorem j_wf:Rows.monitorLimitsRow.wf (OpenSpec.ofChange Rows.monitorLimitsSpec)=true:=by kernel_rfl
theorem Qu2:Tryz.f3.params.all (Tryz.prog.readableRec ·)=true:=by kernel_rfl
theorem j_tie:namedTie Tryz.prog Rows.monitorLimitsRow.named Rows.monitorLimitsSpec.vars=true:=by kernel_rfl
theorem Qw1:(Rows.monitorLimitsRow.stops==[])=true:=by kernel_rfl
theorem Qu0:(Tryz.prog.stops==[])=true:=by kernel_rfl
theorem Qw5:(Rows.monitorLimitsRow.knobs==[])=true:=by kernel_rfl
theorem Qu1:(Tryz.prog.stopKnobs==[])=true:=by kernel_rfl
theorem Qu3:(Rows.monitorLimitsRow.maps==(Tryz.f3.params.toList++Rows.monitorLimitsSpec.plain.varTypes Tryz.prog).any (Tryz.prog.mapsRec ·))=true:=by kernel_rfl
theorem Qu6:(Rows.monitorLimitsRow.ifaces==(Tryz.f3.params.toList++Rows.monitorLimitsSpec.plain.varTypes Tryz.prog).any (Tryz.prog.ifacesRec ·))=true:=by kernel_rfl
theorem Qs8:(Rows.monitorLimitsRow.mapsOut==Tryz.prog.mapsAmong Tryz.f3.resultTypes.toList)=true:=by kernel_rfl
theorem Qw3:(Rows.monitorLimitsRow.loops==(Tryz.f3.params.toList++Rows.monitorLimitsSpec.plain.varTypes Tryz.prog).any (Tryz.prog.loopsFrom ·))=true:=by kernel_rfl
theorem Z80:(Rows.monitorLimitsRow.wideKeys==(Tryz.f3.params.toList++Rows.monitorLimitsSpec.plain.varTypes Tryz.prog++Tryz.f3.resultTypes.toList).any (Tryz.prog.wideKeysFrom ·))=true:=by kernel_rfl
theorem Z81:Rows.monitorLimitsSpec.vars.all (Tryz.prog.varReadable ·)=true:=by kernel_rfl
theorem j_res:Tryz.f3.resultTypes.all (λt=>Tryz.prog.readableRec t&&decide (t<Tryz.prog.types.size))=true:=by kernel_rfl
theorem Qw7:(Rows.monitorLimitsRow.ifacesOut==Tryz.f3.resultTypes.toList.any (Tryz.prog.ifacesRec ·))=true:=by kernel_rfl
theorem Qrv:(Rows.monitorLimitsRow.loopsOut==Tryz.f3.resultTypes.toList.any (Tryz.prog.loopsFrom ·))=true:=by kernel_rfl
theorem Qpu:(Rows.monitorLimitsRow.plainKeys==Tryz.prog.plainKeys)=true:=by kernel_rfl
theorem Qw2:Rows.monitorLimitsRow.shortTexts.isNone=true:=by kernel_rfl
theorem Qu5:(Rows.monitorLimitsRow.lifted==Tryz.prog.liftsFinal)=true:=by kernel_rfl
theorem Z83:(Tryz.prog.make==some Rows.monitorLimitsRow.make)=true:=by kernel_rfl
theorem Qtz:(Rows.monitorLimitsRow.veiled==(Tryz.f3.params.toList++Rows.monitorLimitsSpec.plain.varTypes Tryz.prog++Tryz.f3.resultTypes.toList).any (Tryz.prog.veiledRec ·))=true:=by kernel_rfl
theorem Qru:Rows.monitorLimitsRow.veiledFits Tryz.prog Tryz.f3.params.toList (Tryz.f3.params.toList++Rows.monitorLimitsSpec.plain.varTypes Tryz.prog++Tryz.f3.resultTypes.toList)=true:=by kernel_rfl
theorem Qw4:true=Tryz.prog.looks []:=by kernel_rfl
theorem Qty:Rows.monitorLimitsRow.wfByText (OpenSpec.ofChange Rows.monitorLimitsSpec)=true:=by kernel_rfl
theorem Qw6:Tryz.prog.inits.idxOf? 3=none:=by kernel_rfl
theorem Qu4:Tryz.prog.mainIs=some (true, "1e0db1f13d318675223393e33a71d82dea1203d14f3aff46a4b8bfd5f123f27f".toList):=by kernel_rfl
end Go.Proofs.YtmbajnmaeikceaaGreatDoor
