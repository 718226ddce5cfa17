/-
 The law's number; the program may be entered. Conditions: none.
-/
import Derived.Test.YtmfeholdlgfpbaaGreatDoorProg
import Derived.JoinedCond
import Derived.SevenTiedAt
import Derived.KernelRfl
import Derived.Test.YtmfeholdlgfpbaaGreatDoorRows
namespace Go.Proofs.YtmfeholdlgfpbaaGreatDoor
open Go Go.Proofs
set_option maxRecDepth 100000
theorem Qym:Tryz.prog.funcNamed "stagepost/stagepostlaw25.HostDefaultDeny" =some 3:=by kernel_rfl
theorem Z75:Tryz.prog.mayEnter=true:=by kernel_rfl
end Go.Proofs.YtmfeholdlgfpbaaGreatDoor
namespace Go.Proofs.YtmfeholdlgfpbaaGreatDoor
open Go Go.Proofs
set_option maxRecDepth 100000
theorem j_wf:Rows.hostDefaultDenyRow.wf (OpenSpec.ofChange Rows.hostDefaultDenySpec)=true:=by kernel_rfl
theorem Z2d:Tryz.f3.params.all (Tryz.prog.readableRec ·)=true:=by kernel_rfl
theorem j_tie:namedTie Tryz.prog Rows.hostDefaultDenyRow.named Rows.hostDefaultDenySpec.vars=true:=by kernel_rfl
theorem Z6x:(Rows.hostDefaultDenyRow.stops==[])=true:=by kernel_rfl
theorem Z2b:(Tryz.prog.stops==[])=true:=by kernel_rfl
theorem Z71:(Rows.hostDefaultDenyRow.knobs==[])=true:=by kernel_rfl
theorem Z2c:(Tryz.prog.stopKnobs==[])=true:=by kernel_rfl
theorem Z2e:(Rows.hostDefaultDenyRow.maps==(Tryz.f3.params.toList++Rows.hostDefaultDenySpec.plain.varTypes Tryz.prog).any (Tryz.prog.mapsRec ·))=true:=by kernel_rfl
theorem Z2h:(Rows.hostDefaultDenyRow.ifaces==(Tryz.f3.params.toList++Rows.hostDefaultDenySpec.plain.varTypes Tryz.prog).any (Tryz.prog.ifacesRec ·))=true:=by kernel_rfl
theorem Qyl:(Rows.hostDefaultDenyRow.mapsOut==Tryz.prog.mapsAmong Tryz.f3.resultTypes.toList)=true:=by kernel_rfl
theorem Z6z:(Rows.hostDefaultDenyRow.loops==(Tryz.f3.params.toList++Rows.hostDefaultDenySpec.plain.varTypes Tryz.prog).any (Tryz.prog.loopsFrom ·))=true:=by kernel_rfl
theorem Zhc:(Rows.hostDefaultDenyRow.wideKeys==(Tryz.f3.params.toList++Rows.hostDefaultDenySpec.plain.varTypes Tryz.prog++Tryz.f3.resultTypes.toList).any (Tryz.prog.wideKeysFrom ·))=true:=by kernel_rfl
theorem Zhd:Rows.hostDefaultDenySpec.vars.all (Tryz.prog.varReadable ·)=true:=by kernel_rfl
theorem j_res:Tryz.f3.resultTypes.all (λt=>Tryz.prog.readableRec t&&decide (t<Tryz.prog.types.size))=true:=by kernel_rfl
theorem Z73:(Rows.hostDefaultDenyRow.ifacesOut==Tryz.f3.resultTypes.toList.any (Tryz.prog.ifacesRec ·))=true:=by kernel_rfl
theorem Qwy:(Rows.hostDefaultDenyRow.loopsOut==Tryz.f3.resultTypes.toList.any (Tryz.prog.loopsFrom ·))=true:=by kernel_rfl
theorem Qud:(Rows.hostDefaultDenyRow.plainKeys==Tryz.prog.plainKeys)=true:=by kernel_rfl
theorem Z6y:Rows.hostDefaultDenyRow.shortTexts.isNone=true:=by kernel_rfl
theorem Z2g:(Rows.hostDefaultDenyRow.lifted==Tryz.prog.liftsFinal)=true:=by kernel_rfl
theorem Zhf:(Tryz.prog.make==some Rows.hostDefaultDenyRow.make)=true:=by kernel_rfl
theorem Z2a:(Rows.hostDefaultDenyRow.veiled==(Tryz.f3.params.toList++Rows.hostDefaultDenySpec.plain.varTypes Tryz.prog++Tryz.f3.resultTypes.toList).any (Tryz.prog.veiledRec ·))=true:=by kernel_rfl
theorem Qwx:Rows.hostDefaultDenyRow.veiledFits Tryz.prog Tryz.f3.params.toList (Tryz.f3.params.toList++Rows.hostDefaultDenySpec.plain.varTypes Tryz.prog++Tryz.f3.resultTypes.toList)=true:=by kernel_rfl
theorem Z70:true=Tryz.prog.looks []:=by kernel_rfl
theorem Z29:Rows.hostDefaultDenyRow.wfByText (OpenSpec.ofChange Rows.hostDefaultDenySpec)=true:=by kernel_rfl
theorem Z72:Tryz.prog.inits.idxOf? 3=none:=by kernel_rfl
theorem Z2f:Tryz.prog.mainIs=some (true, "61aa00c25460c7b476624c0078041380a4e61fb6198dbb29b44509fb018f2092".toList):=by kernel_rfl
end Go.Proofs.YtmfeholdlgfpbaaGreatDoor
