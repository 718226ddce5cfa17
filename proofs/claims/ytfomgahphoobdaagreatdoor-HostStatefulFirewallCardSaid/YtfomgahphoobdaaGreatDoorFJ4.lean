/-
  The law's number; the program may be entered. Conditions: none.
-/
import Derived.Test.YtfomgahphoobdaaGreatDoorProg
import Derived.JoinedCond
import Derived.SevenTiedAt
import Derived.KernelRfl
import Derived.Test.YtfomgahphoobdaaGreatDoorRows
namespace Go.Proofs.YtfomgahphoobdaaGreatDoor
open Go Go.Proofs
set_option maxRecDepth 100000
theorem j_func : Tryz.prog.funcNamed "stagepost/stagepostlaw25.HostStatefulFirewall" = some 5 := by kernel_rfl
theorem j_enter : Tryz.prog.mayEnter = true := by kernel_rfl
end Go.Proofs.YtfomgahphoobdaaGreatDoor

/-! The row's small facts. Conditions: none. -/
namespace Go.Proofs.YtfomgahphoobdaaGreatDoor
open Go Go.Proofs
set_option maxRecDepth 100000
theorem j_wf : Rows.hostStatefulFirewallRow.wf (OpenSpec.ofChange Rows.hostStatefulFirewallSpec) = true := by kernel_rfl
theorem j_params : Tryz.f5.params.all (Tryz.prog.readableRec ·) = true := by kernel_rfl
theorem j_tie : namedTie Tryz.prog Rows.hostStatefulFirewallRow.named Rows.hostStatefulFirewallSpec.vars = true := by kernel_rfl
theorem j_stops : (Rows.hostStatefulFirewallRow.stops == []) = true := by kernel_rfl
theorem j_pstops : (Tryz.prog.stops == []) = true := by kernel_rfl
theorem j_knobs : (Rows.hostStatefulFirewallRow.knobs == []) = true := by kernel_rfl
theorem j_pknobs : (Tryz.prog.stopKnobs == []) = true := by kernel_rfl
theorem j_mapsIn : (Rows.hostStatefulFirewallRow.maps == (Tryz.f5.params.toList ++ Rows.hostStatefulFirewallSpec.plain.varTypes Tryz.prog).any (Tryz.prog.mapsRec ·)) = true := by kernel_rfl
theorem j_ifaces : (Rows.hostStatefulFirewallRow.ifaces == (Tryz.f5.params.toList ++ Rows.hostStatefulFirewallSpec.plain.varTypes Tryz.prog).any (Tryz.prog.ifacesRec ·)) = true := by kernel_rfl
theorem j_mapsOut : (Rows.hostStatefulFirewallRow.mapsOut == Tryz.prog.mapsAmong Tryz.f5.resultTypes.toList) = true := by kernel_rfl
theorem j_loops : (Rows.hostStatefulFirewallRow.loops == (Tryz.f5.params.toList ++ Rows.hostStatefulFirewallSpec.plain.varTypes Tryz.prog).any (Tryz.prog.loopsFrom ·)) = true := by kernel_rfl
theorem j_wide : (Rows.hostStatefulFirewallRow.wideKeys == (Tryz.f5.params.toList ++ Rows.hostStatefulFirewallSpec.plain.varTypes Tryz.prog ++ Tryz.f5.resultTypes.toList).any (Tryz.prog.wideKeysFrom ·)) = true := by kernel_rfl
theorem j_vars : Rows.hostStatefulFirewallSpec.vars.all (Tryz.prog.varReadable ·) = true := by kernel_rfl
theorem j_res : Tryz.f5.resultTypes.all (fun t => Tryz.prog.readableRec t && decide (t < Tryz.prog.types.size)) = true := by kernel_rfl
theorem j_ifOut : (Rows.hostStatefulFirewallRow.ifacesOut == Tryz.f5.resultTypes.toList.any (Tryz.prog.ifacesRec ·)) = true := by kernel_rfl
theorem j_loopsOut : (Rows.hostStatefulFirewallRow.loopsOut == Tryz.f5.resultTypes.toList.any (Tryz.prog.loopsFrom ·)) = true := by kernel_rfl
theorem j_plainKeys : (Rows.hostStatefulFirewallRow.plainKeys == Tryz.prog.plainKeys) = true := by kernel_rfl
theorem j_short : Rows.hostStatefulFirewallRow.shortTexts.isNone = true := by kernel_rfl
theorem j_lifted : (Rows.hostStatefulFirewallRow.lifted == Tryz.prog.liftsFinal) = true := by kernel_rfl
theorem j_make : (Tryz.prog.make == some Rows.hostStatefulFirewallRow.make) = true := by kernel_rfl
theorem j_veiled : (Rows.hostStatefulFirewallRow.veiled == (Tryz.f5.params.toList ++ Rows.hostStatefulFirewallSpec.plain.varTypes Tryz.prog ++ Tryz.f5.resultTypes.toList).any (Tryz.prog.veiledRec ·)) = true := by kernel_rfl
theorem j_veilFits : Rows.hostStatefulFirewallRow.veiledFits Tryz.prog Tryz.f5.params.toList (Tryz.f5.params.toList ++ Rows.hostStatefulFirewallSpec.plain.varTypes Tryz.prog ++ Tryz.f5.resultTypes.toList) = true := by kernel_rfl
theorem j_looks : true = Tryz.prog.looks [] := by kernel_rfl
theorem j_wfText : Rows.hostStatefulFirewallRow.wfByText (OpenSpec.ofChange Rows.hostStatefulFirewallSpec) = true := by kernel_rfl
theorem j_inits : Tryz.prog.inits.idxOf? 5 = none := by kernel_rfl
theorem j_mainIs : Tryz.prog.mainIs = some (true, "f11b9eed2dbcb675690c0d766e5ca62e48c9598af56c502a875dce4c730d175e".toList) := by kernel_rfl
end Go.Proofs.YtfomgahphoobdaaGreatDoor
