/-
  DERIVED. GIVEN WITH THE SEED: THE CARDS: each row of YtfomgahphoobdaaGreatDoorRows.lean that lists a variable, with what it lists TIED to the program's text (the seventh form; the later family's looks); each row that meets fmt, with fmt's text TOLD by the authors' own Lean function (tested against real Go, not proved from fmt's source: count such statements apart). THE CARD IS WHAT COUNTS. Prove the row's statement (the work); the ties are given (YtfomgahphoobdaaGreatDoorTie.lean); close each card by the builder's one call (the guide's Derived/Test/ToyasCard.lean, 'card_holds'). Laid BY PROGRAM, IN A SANDBOX (cutbox-door.mjs). By AI agents, Wed Nov 11 2026. No macro, syntax, notation, axiom, sorry.
-/
import Derived.Test.YtfomgahphoobdaaGreatDoorRows
import GoSem.ClaimSeven
namespace Go.Proofs.YtfomgahphoobdaaGreatDoor
namespace Rows

/-- THE TIED CARD OF 'stagepostlaw25.HostConnectErrors'. -/
def hostConnectErrorsCard : Claim7 := { stood := { row := hostConnectErrorsRow, standIns := [], harness := (true, "f11b9eed2dbcb675690c0d766e5ca62e48c9598af56c502a875dce4c730d175e"), looks := true }, kinds := [], alts := [], laidByText := true, laidKinds := [.sentinel, .sentinel, .sentinel, .sentinel, .data, .sentinel, .handle], laidTests := true, laidLooks := .later }
def HostConnectErrorsCardSaid : Prop := Claim7.holds Tryz.pinned (.plain (OpenSpec.ofChange hostConnectErrorsSpec)) hostConnectErrorsCard

/-- THE TIED CARD OF 'stagepostlaw25.HostWakeOrder'. -/
def hostWakeOrderCard : Claim7 := { stood := { row := hostWakeOrderRow, standIns := [], harness := (true, "f11b9eed2dbcb675690c0d766e5ca62e48c9598af56c502a875dce4c730d175e"), looks := true }, kinds := [], alts := [], laidByText := true, laidKinds := [.sentinel, .sentinel, .sentinel, .sentinel, .data, .sentinel, .handle], laidTests := true, laidLooks := .later }
def HostWakeOrderCardSaid : Prop := Claim7.holds Tryz.pinned (.plain (OpenSpec.ofChange hostWakeOrderSpec)) hostWakeOrderCard

/-- THE TIED CARD OF 'stagepostlaw25.HostStatefulFirewall'. -/
def hostStatefulFirewallCard : Claim7 := { stood := { row := hostStatefulFirewallRow, standIns := [], harness := (true, "f11b9eed2dbcb675690c0d766e5ca62e48c9598af56c502a875dce4c730d175e"), looks := true }, kinds := [], alts := [], laidByText := true, laidKinds := [.sentinel, .sentinel, .sentinel, .sentinel, .data, .sentinel, .handle], laidTests := true, laidLooks := .later }
def HostStatefulFirewallCardSaid : Prop := Claim7.holds Tryz.pinned (.plain (OpenSpec.ofChange hostStatefulFirewallSpec)) hostStatefulFirewallCard

/-- THE TIED CARD OF 'stagepostlaw26.SimNetRoutingLoop'. -/
def simNetRoutingLoopCard : Claim7 := { stood := { row := simNetRoutingLoopRow, standIns := [], harness := (true, "f11b9eed2dbcb675690c0d766e5ca62e48c9598af56c502a875dce4c730d175e"), looks := true }, kinds := [], alts := [], laidByText := true, laidKinds := [.handle, .sentinel, .data, .sentinel, .sentinel, .sentinel, .sentinel], laidTests := true, laidLooks := .later }
def SimNetRoutingLoopCardSaid : Prop := Claim7.holds Tryz.pinned (.plain (OpenSpec.ofChange simNetRoutingLoopSpec)) simNetRoutingLoopCard

/-- THE TIED CARD OF 'stagepostlaw26.SimNetLinkIsolation'. -/
def simNetLinkIsolationCard : Claim7 := { stood := { row := simNetLinkIsolationRow, standIns := [], harness := (true, "f11b9eed2dbcb675690c0d766e5ca62e48c9598af56c502a875dce4c730d175e"), looks := true }, kinds := [], alts := [], laidByText := true, laidKinds := [.handle, .sentinel, .data, .sentinel, .sentinel, .sentinel, .sentinel], laidTests := true, laidLooks := .later }
def SimNetLinkIsolationCardSaid : Prop := Claim7.holds Tryz.pinned (.plain (OpenSpec.ofChange simNetLinkIsolationSpec)) simNetLinkIsolationCard

/-- THE SECOND FORM's CARD OF 'stagepostlaw25.HostConnectErrors'. -/
def hostConnectErrorsUptoCard : Claim7 := { stood := { row := hostConnectErrorsUptoRow, standIns := [], harness := (true, "f11b9eed2dbcb675690c0d766e5ca62e48c9598af56c502a875dce4c730d175e"), looks := true }, kinds := [], alts := [], laidByText := true, laidKinds := [.sentinel, .sentinel, .sentinel, .sentinel, .data, .sentinel, .handle], laidTests := true, laidLooks := .later }
def HostConnectErrorsUptoCardSaid : Prop := Claim7.holds Tryz.pinned (.plain (OpenSpec.upto hostConnectErrorsSpec)) hostConnectErrorsUptoCard

/-- THE SECOND FORM's CARD OF 'stagepostlaw25.HostWakeOrder'. -/
def hostWakeOrderUptoCard : Claim7 := { stood := { row := hostWakeOrderUptoRow, standIns := [], harness := (true, "f11b9eed2dbcb675690c0d766e5ca62e48c9598af56c502a875dce4c730d175e"), looks := true }, kinds := [], alts := [], laidByText := true, laidKinds := [.sentinel, .sentinel, .sentinel, .sentinel, .data, .sentinel, .handle], laidTests := true, laidLooks := .later }
def HostWakeOrderUptoCardSaid : Prop := Claim7.holds Tryz.pinned (.plain (OpenSpec.upto hostWakeOrderSpec)) hostWakeOrderUptoCard

/-- THE SECOND FORM's CARD OF 'stagepostlaw25.HostStatefulFirewall'. -/
def hostStatefulFirewallUptoCard : Claim7 := { stood := { row := hostStatefulFirewallUptoRow, standIns := [], harness := (true, "f11b9eed2dbcb675690c0d766e5ca62e48c9598af56c502a875dce4c730d175e"), looks := true }, kinds := [], alts := [], laidByText := true, laidKinds := [.sentinel, .sentinel, .sentinel, .sentinel, .data, .sentinel, .handle], laidTests := true, laidLooks := .later }
def HostStatefulFirewallUptoCardSaid : Prop := Claim7.holds Tryz.pinned (.plain (OpenSpec.upto hostStatefulFirewallSpec)) hostStatefulFirewallUptoCard

/-- THE SECOND FORM's CARD OF 'stagepostlaw26.SimNetRoutingLoop'. -/
def simNetRoutingLoopUptoCard : Claim7 := { stood := { row := simNetRoutingLoopUptoRow, standIns := [], harness := (true, "f11b9eed2dbcb675690c0d766e5ca62e48c9598af56c502a875dce4c730d175e"), looks := true }, kinds := [], alts := [], laidByText := true, laidKinds := [.handle, .sentinel, .data, .sentinel, .sentinel, .sentinel, .sentinel], laidTests := true, laidLooks := .later }
def SimNetRoutingLoopUptoCardSaid : Prop := Claim7.holds Tryz.pinned (.plain (OpenSpec.upto simNetRoutingLoopSpec)) simNetRoutingLoopUptoCard

/-- THE SECOND FORM's CARD OF 'stagepostlaw26.SimNetLinkIsolation'. -/
def simNetLinkIsolationUptoCard : Claim7 := { stood := { row := simNetLinkIsolationUptoRow, standIns := [], harness := (true, "f11b9eed2dbcb675690c0d766e5ca62e48c9598af56c502a875dce4c730d175e"), looks := true }, kinds := [], alts := [], laidByText := true, laidKinds := [.handle, .sentinel, .data, .sentinel, .sentinel, .sentinel, .sentinel], laidTests := true, laidLooks := .later }
def SimNetLinkIsolationUptoCardSaid : Prop := Claim7.holds Tryz.pinned (.plain (OpenSpec.upto simNetLinkIsolationSpec)) simNetLinkIsolationUptoCard
end Rows
end Go.Proofs.YtfomgahphoobdaaGreatDoor
