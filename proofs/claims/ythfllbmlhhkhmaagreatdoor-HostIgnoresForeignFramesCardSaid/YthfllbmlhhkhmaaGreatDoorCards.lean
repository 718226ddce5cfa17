/-
  DERIVED. GIVEN WITH THE SEED: THE CARDS: each row of YthfllbmlhhkhmaaGreatDoorRows.lean that lists a variable, with what it lists TIED to the program's text (the seventh form; the later family's looks); each row that meets fmt, with fmt's text TOLD by the authors' own Lean function (tested against real Go, not proved from fmt's source: count such statements apart). THE CARD IS WHAT COUNTS. Prove the row's statement (the work); the ties are given (YthfllbmlhhkhmaaGreatDoorTie.lean); close each card by the builder's one call (the guide's Derived/Test/ToyasCard.lean, 'card_holds'). Laid BY PROGRAM, IN A SANDBOX (cutbox-door.mjs). By AI agents, Wed Nov 11 2026. No macro, syntax, notation, axiom, sorry.
-/
import Derived.Test.YthfllbmlhhkhmaaGreatDoorRows
import GoSem.ClaimSeven
namespace Go.Proofs.YthfllbmlhhkhmaaGreatDoor
namespace Rows

/-- THE TIED CARD OF 'stagepostlaw25.HostConfiguration'. -/
def hostConfigurationCard : Claim7 := { stood := { row := hostConfigurationRow, standIns := [], harness := (true, "6832757f5ce453ab94d2ad11df43e2eb43a8166cb02cc9dfcb5f22e38b766e22"), looks := true }, kinds := [], alts := [], laidByText := true, laidKinds := [.sentinel, .sentinel, .sentinel, .sentinel, .data, .sentinel, .handle], laidTests := true, laidLooks := .later }
def HostConfigurationCardSaid : Prop := Claim7.holds Tryz.pinned (.plain (OpenSpec.ofChange hostConfigurationSpec)) hostConfigurationCard

/-- THE TIED CARD OF 'stagepostlaw25.HostIgnoresForeignFrames'. -/
def hostIgnoresForeignFramesCard : Claim7 := { stood := { row := hostIgnoresForeignFramesRow, standIns := [], harness := (true, "6832757f5ce453ab94d2ad11df43e2eb43a8166cb02cc9dfcb5f22e38b766e22"), looks := true }, kinds := [], alts := [], laidByText := true, laidKinds := [.sentinel, .sentinel, .sentinel, .sentinel, .data, .sentinel, .handle], laidTests := true, laidLooks := .later }
def HostIgnoresForeignFramesCardSaid : Prop := Claim7.holds Tryz.pinned (.plain (OpenSpec.ofChange hostIgnoresForeignFramesSpec)) hostIgnoresForeignFramesCard

/-- THE SECOND FORM's CARD OF 'stagepostlaw25.HostConfiguration'. -/
def hostConfigurationUptoCard : Claim7 := { stood := { row := hostConfigurationUptoRow, standIns := [], harness := (true, "6832757f5ce453ab94d2ad11df43e2eb43a8166cb02cc9dfcb5f22e38b766e22"), looks := true }, kinds := [], alts := [], laidByText := true, laidKinds := [.sentinel, .sentinel, .sentinel, .sentinel, .data, .sentinel, .handle], laidTests := true, laidLooks := .later }
def HostConfigurationUptoCardSaid : Prop := Claim7.holds Tryz.pinned (.plain (OpenSpec.upto hostConfigurationSpec)) hostConfigurationUptoCard

/-- THE SECOND FORM's CARD OF 'stagepostlaw25.HostIgnoresForeignFrames'. -/
def hostIgnoresForeignFramesUptoCard : Claim7 := { stood := { row := hostIgnoresForeignFramesUptoRow, standIns := [], harness := (true, "6832757f5ce453ab94d2ad11df43e2eb43a8166cb02cc9dfcb5f22e38b766e22"), looks := true }, kinds := [], alts := [], laidByText := true, laidKinds := [.sentinel, .sentinel, .sentinel, .sentinel, .data, .sentinel, .handle], laidTests := true, laidLooks := .later }
def HostIgnoresForeignFramesUptoCardSaid : Prop := Claim7.holds Tryz.pinned (.plain (OpenSpec.upto hostIgnoresForeignFramesSpec)) hostIgnoresForeignFramesUptoCard
end Rows
end Go.Proofs.YthfllbmlhhkhmaaGreatDoor
