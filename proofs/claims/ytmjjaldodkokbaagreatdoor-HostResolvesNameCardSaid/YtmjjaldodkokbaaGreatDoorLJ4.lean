/-
 The law's number; the program may be entered. Conditions: none.
-/
import Derived.Test.YtmjjaldodkokbaaGreatDoorProg
import Derived.JoinedCond
import Derived.SevenTiedAt
import Derived.KernelRfl
import Derived.Test.YtmjjaldodkokbaaGreatDoorRows
namespace Go.Proofs.YtmjjaldodkokbaaGreatDoor
open Go Go.Proofs
set_option maxRecDepth 100000
theorem Z05:Tryz.prog.funcNamed "stagepost/stagepostlaw25.HostResolvesName" =some 3:=by kernel_rfl
theorem Z8d:Tryz.prog.mayEnter=true:=by kernel_rfl
end Go.Proofs.YtmjjaldodkokbaaGreatDoor
namespace Go.Proofs.YtmjjaldodkokbaaGreatDoor
open Go Go.Proofs
set_option maxRecDepth 100000
theorem j_wf:Rows.hostResolvesNameRow.wf (OpenSpec.ofChange Rows.hostResolvesNameSpec)=true:=by kernel_rfl
theorem Z1r:Tryz.f3.params.all (Tryz.prog.readableRec ·)=true:=by kernel_rfl
theorem j_tie:namedTie Tryz.prog Rows.hostResolvesNameRow.named Rows.hostResolvesNameSpec.vars=true:=by kernel_rfl
theorem Z85:(Rows.hostResolvesNameRow.stops==[])=true:=by kernel_rfl
theorem Z1p:(Tryz.prog.stops==[])=true:=by kernel_rfl
theorem Z89:(Rows.hostResolvesNameRow.knobs==[])=true:=by kernel_rfl
theorem Z1q:(Tryz.prog.stopKnobs==[])=true:=by kernel_rfl
theorem Z1s:(Rows.hostResolvesNameRow.maps==(Tryz.f3.params.toList++Rows.hostResolvesNameSpec.plain.varTypes Tryz.prog).any (Tryz.prog.mapsRec ·))=true:=by kernel_rfl
theorem Z1v:(Rows.hostResolvesNameRow.ifaces==(Tryz.f3.params.toList++Rows.hostResolvesNameSpec.plain.varTypes Tryz.prog).any (Tryz.prog.ifacesRec ·))=true:=by kernel_rfl
theorem Z04:(Rows.hostResolvesNameRow.mapsOut==Tryz.prog.mapsAmong Tryz.f3.resultTypes.toList)=true:=by kernel_rfl
theorem Z87:(Rows.hostResolvesNameRow.loops==(Tryz.f3.params.toList++Rows.hostResolvesNameSpec.plain.varTypes Tryz.prog).any (Tryz.prog.loopsFrom ·))=true:=by kernel_rfl
theorem Zd4:(Rows.hostResolvesNameRow.wideKeys==(Tryz.f3.params.toList++Rows.hostResolvesNameSpec.plain.varTypes Tryz.prog++Tryz.f3.resultTypes.toList).any (Tryz.prog.wideKeysFrom ·))=true:=by kernel_rfl
theorem Zd5:Rows.hostResolvesNameSpec.vars.all (Tryz.prog.varReadable ·)=true:=by kernel_rfl
theorem j_res:Tryz.f3.resultTypes.all (λt=>Tryz.prog.readableRec t&&decide (t<Tryz.prog.types.size))=true:=by kernel_rfl
theorem Z8b:(Rows.hostResolvesNameRow.ifacesOut==Tryz.f3.resultTypes.toList.any (Tryz.prog.ifacesRec ·))=true:=by kernel_rfl
theorem Qxs:(Rows.hostResolvesNameRow.loopsOut==Tryz.f3.resultTypes.toList.any (Tryz.prog.loopsFrom ·))=true:=by kernel_rfl
theorem Qss:(Rows.hostResolvesNameRow.plainKeys==Tryz.prog.plainKeys)=true:=by kernel_rfl
theorem Z86:Rows.hostResolvesNameRow.shortTexts.isNone=true:=by kernel_rfl
theorem Z1u:(Rows.hostResolvesNameRow.lifted==Tryz.prog.liftsFinal)=true:=by kernel_rfl
theorem Zd7:(Tryz.prog.make==some Rows.hostResolvesNameRow.make)=true:=by kernel_rfl
theorem Z1o:(Rows.hostResolvesNameRow.veiled==(Tryz.f3.params.toList++Rows.hostResolvesNameSpec.plain.varTypes Tryz.prog++Tryz.f3.resultTypes.toList).any (Tryz.prog.veiledRec ·))=true:=by kernel_rfl
theorem Qxr:Rows.hostResolvesNameRow.veiledFits Tryz.prog Tryz.f3.params.toList (Tryz.f3.params.toList++Rows.hostResolvesNameSpec.plain.varTypes Tryz.prog++Tryz.f3.resultTypes.toList)=true:=by kernel_rfl
theorem Z88:true=Tryz.prog.looks []:=by kernel_rfl
theorem Z1n:Rows.hostResolvesNameRow.wfByText (OpenSpec.ofChange Rows.hostResolvesNameSpec)=true:=by kernel_rfl
theorem Z8a:Tryz.prog.inits.idxOf? 3=none:=by kernel_rfl
theorem Z1t:Tryz.prog.mainIs=some (true, "b923887cddee06da9ed4e01899d9e0d41d8718df68685233f6d365521e4e6ff2".toList):=by kernel_rfl
end Go.Proofs.YtmjjaldodkokbaaGreatDoor
