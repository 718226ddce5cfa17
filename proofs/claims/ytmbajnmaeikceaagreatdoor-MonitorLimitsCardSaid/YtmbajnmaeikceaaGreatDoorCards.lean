/-
  DERIVED. GIVEN WITH THE SEED: THE CARDS: each row of YtmbajnmaeikceaaGreatDoorRows.lean that lists a variable, with what it lists TIED to the program's text (the seventh form; the later family's looks); each row that meets fmt, with fmt's text TOLD by the authors' own Lean function (tested against real Go, not proved from fmt's source: count such statements apart). THE CARD IS WHAT COUNTS. Prove the row's statement (the work); the ties are given (YtmbajnmaeikceaaGreatDoorTie.lean); close each card by the builder's one call (the guide's Derived/Test/ToyasCard.lean, 'card_holds'). Laid BY PROGRAM, IN A SANDBOX (cutbox-door.mjs). By AI agents, Wed Nov 11 2026. No macro, syntax, notation, axiom, sorry.
-/
import Derived.Test.YtmbajnmaeikceaaGreatDoorRows
import GoSem.ClaimSeven
namespace Go.Proofs.YtmbajnmaeikceaaGreatDoor
namespace Rows

/-- THE TIED CARD OF 'stagepostlaw28.MonitorLimits'. -/
def monitorLimitsCard : Claim7 := { stood := { row := monitorLimitsRow, standIns := [], harness := (true, "1e0db1f13d318675223393e33a71d82dea1203d14f3aff46a4b8bfd5f123f27f"), looks := true }, kinds := [], alts := [], laidByText := true, laidKinds := [.handle, .sentinel, .data, .sentinel, .sentinel, .sentinel, .sentinel, .data, .data, .data, .pinned, .data, .sentinel, .sentinel], laidTests := true, laidLooks := .later }
def MonitorLimitsCardSaid : Prop := Claim7.holds Tryz.pinned (.plain (OpenSpec.ofChange monitorLimitsSpec)) monitorLimitsCard

/-- THE TIED CARD OF 'stagepostlaw28.MonitorEchoRoundTrip'. -/
def monitorEchoRoundTripCard : Claim7 := { stood := { row := monitorEchoRoundTripRow, standIns := [], harness := (true, "1e0db1f13d318675223393e33a71d82dea1203d14f3aff46a4b8bfd5f123f27f"), looks := true }, kinds := [], alts := [], laidByText := true, laidKinds := [.handle, .sentinel, .data, .sentinel, .sentinel, .sentinel, .sentinel, .data, .data, .data, .pinned, .data, .sentinel, .sentinel], laidTests := true, laidLooks := .later }
def MonitorEchoRoundTripCardSaid : Prop := Claim7.holds Tryz.pinned (.plain (OpenSpec.ofChange monitorEchoRoundTripSpec)) monitorEchoRoundTripCard

/-- THE SECOND FORM's CARD OF 'stagepostlaw28.MonitorLimits'. -/
def monitorLimitsUptoCard : Claim7 := { stood := { row := monitorLimitsUptoRow, standIns := [], harness := (true, "1e0db1f13d318675223393e33a71d82dea1203d14f3aff46a4b8bfd5f123f27f"), looks := true }, kinds := [], alts := [], laidByText := true, laidKinds := [.handle, .sentinel, .data, .sentinel, .sentinel, .sentinel, .sentinel, .data, .data, .data, .pinned, .data, .sentinel, .sentinel], laidTests := true, laidLooks := .later }
def MonitorLimitsUptoCardSaid : Prop := Claim7.holds Tryz.pinned (.plain (OpenSpec.upto monitorLimitsSpec)) monitorLimitsUptoCard

/-- THE SECOND FORM's CARD OF 'stagepostlaw28.MonitorEchoRoundTrip'. -/
def monitorEchoRoundTripUptoCard : Claim7 := { stood := { row := monitorEchoRoundTripUptoRow, standIns := [], harness := (true, "1e0db1f13d318675223393e33a71d82dea1203d14f3aff46a4b8bfd5f123f27f"), looks := true }, kinds := [], alts := [], laidByText := true, laidKinds := [.handle, .sentinel, .data, .sentinel, .sentinel, .sentinel, .sentinel, .data, .data, .data, .pinned, .data, .sentinel, .sentinel], laidTests := true, laidLooks := .later }
def MonitorEchoRoundTripUptoCardSaid : Prop := Claim7.holds Tryz.pinned (.plain (OpenSpec.upto monitorEchoRoundTripSpec)) monitorEchoRoundTripUptoCard
end Rows
end Go.Proofs.YtmbajnmaeikceaaGreatDoor
