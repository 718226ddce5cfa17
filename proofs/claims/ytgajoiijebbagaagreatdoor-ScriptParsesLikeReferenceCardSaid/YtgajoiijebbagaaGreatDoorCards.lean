/-
  DERIVED. GIVEN WITH THE SEED: THE CARDS: each row of YtgajoiijebbagaaGreatDoorRows.lean that lists a variable, with what it lists TIED to the program's text (the seventh form; the later family's looks); each row that meets fmt, with fmt's text TOLD by the authors' own Lean function (tested against real Go, not proved from fmt's source: count such statements apart). THE CARD IS WHAT COUNTS. Prove the row's statement (the work); the ties are given (YtgajoiijebbagaaGreatDoorTie.lean); close each card by the builder's one call (the guide's Derived/Test/ToyasCard.lean, 'card_holds'). Laid BY PROGRAM, IN A SANDBOX (cutbox-door.mjs). By AI agents, Wed Nov 11 2026. No macro, syntax, notation, axiom, sorry.
-/
import Derived.Test.YtgajoiijebbagaaGreatDoorRows
import GoSem.ClaimSeven
namespace Go.Proofs.YtgajoiijebbagaaGreatDoor
namespace Rows

/-- THE TIED CARD OF 'stagepostlaw27.ScriptPrintsLikeReference'. -/
def scriptPrintsLikeReferenceCard : Claim7 := { stood := { row := scriptPrintsLikeReferenceRow, standIns := [], harness := (true, "4767000a4a5213509df50c3e3ccf8ce84927b1cecccf01351291f6d4b7e6828b"), looks := true }, kinds := [], alts := [], laidByText := true, laidKinds := [.data, .data, .data, .data, .sentinel, .sentinel, .pinned], laidTests := true, laidLooks := .later }
def ScriptPrintsLikeReferenceCardSaid : Prop := Claim7.holds Tryz.pinned (.plain (OpenSpec.ofChange scriptPrintsLikeReferenceSpec)) scriptPrintsLikeReferenceCard

/-- THE TIED CARD OF 'stagepostlaw27.ScriptParsesLikeReference'. -/
def scriptParsesLikeReferenceCard : Claim7 := { stood := { row := scriptParsesLikeReferenceRow, standIns := [], harness := (true, "4767000a4a5213509df50c3e3ccf8ce84927b1cecccf01351291f6d4b7e6828b"), looks := true }, kinds := [], alts := [], laidByText := true, laidKinds := [.data, .data, .data, .data, .sentinel, .sentinel, .pinned], laidTests := true, laidLooks := .later }
def ScriptParsesLikeReferenceCardSaid : Prop := Claim7.holds Tryz.pinned (.plain (OpenSpec.ofChange scriptParsesLikeReferenceSpec)) scriptParsesLikeReferenceCard

/-- THE TIED CARD OF 'stagepostlaw27.ScriptRoundTrip'. -/
def scriptRoundTripCard : Claim7 := { stood := { row := scriptRoundTripRow, standIns := [], harness := (true, "4767000a4a5213509df50c3e3ccf8ce84927b1cecccf01351291f6d4b7e6828b"), looks := true }, kinds := [], alts := [], laidByText := true, laidKinds := [.data, .data, .data, .data, .sentinel, .sentinel, .pinned], laidTests := true, laidLooks := .later }
def ScriptRoundTripCardSaid : Prop := Claim7.holds Tryz.pinned (.plain (OpenSpec.ofChange scriptRoundTripSpec)) scriptRoundTripCard

/-- THE TIED CARD OF 'stagepostlaw27.ScriptConcatenation'. -/
def scriptConcatenationCard : Claim7 := { stood := { row := scriptConcatenationRow, standIns := [], harness := (true, "4767000a4a5213509df50c3e3ccf8ce84927b1cecccf01351291f6d4b7e6828b"), looks := true }, kinds := [], alts := [], laidByText := true, laidKinds := [.data, .data, .data, .data, .sentinel, .sentinel, .pinned], laidTests := true, laidLooks := .later }
def ScriptConcatenationCardSaid : Prop := Claim7.holds Tryz.pinned (.plain (OpenSpec.ofChange scriptConcatenationSpec)) scriptConcatenationCard

/-- THE TIED CARD OF 'stagepostlaw27.ScriptFieldFormats'. -/
def scriptFieldFormatsCard : Claim7 := { stood := { row := scriptFieldFormatsRow, standIns := [], harness := (true, "4767000a4a5213509df50c3e3ccf8ce84927b1cecccf01351291f6d4b7e6828b"), looks := true }, kinds := [], alts := [], laidByText := true, laidKinds := [.data, .data, .data, .data, .sentinel, .sentinel, .pinned], laidTests := true, laidLooks := .later }
def ScriptFieldFormatsCardSaid : Prop := Claim7.holds Tryz.pinned (.plain (OpenSpec.ofChange scriptFieldFormatsSpec)) scriptFieldFormatsCard

/-- THE SECOND FORM's CARD OF 'stagepostlaw27.ScriptPrintsLikeReference'. -/
def scriptPrintsLikeReferenceUptoCard : Claim7 := { stood := { row := scriptPrintsLikeReferenceUptoRow, standIns := [], harness := (true, "4767000a4a5213509df50c3e3ccf8ce84927b1cecccf01351291f6d4b7e6828b"), looks := true }, kinds := [], alts := [], laidByText := true, laidKinds := [.data, .data, .data, .data, .sentinel, .sentinel, .pinned], laidTests := true, laidLooks := .later }
def ScriptPrintsLikeReferenceUptoCardSaid : Prop := Claim7.holds Tryz.pinned (.plain (OpenSpec.upto scriptPrintsLikeReferenceSpec)) scriptPrintsLikeReferenceUptoCard

/-- THE SECOND FORM's CARD OF 'stagepostlaw27.ScriptParsesLikeReference'. -/
def scriptParsesLikeReferenceUptoCard : Claim7 := { stood := { row := scriptParsesLikeReferenceUptoRow, standIns := [], harness := (true, "4767000a4a5213509df50c3e3ccf8ce84927b1cecccf01351291f6d4b7e6828b"), looks := true }, kinds := [], alts := [], laidByText := true, laidKinds := [.data, .data, .data, .data, .sentinel, .sentinel, .pinned], laidTests := true, laidLooks := .later }
def ScriptParsesLikeReferenceUptoCardSaid : Prop := Claim7.holds Tryz.pinned (.plain (OpenSpec.upto scriptParsesLikeReferenceSpec)) scriptParsesLikeReferenceUptoCard

/-- THE SECOND FORM's CARD OF 'stagepostlaw27.ScriptRoundTrip'. -/
def scriptRoundTripUptoCard : Claim7 := { stood := { row := scriptRoundTripUptoRow, standIns := [], harness := (true, "4767000a4a5213509df50c3e3ccf8ce84927b1cecccf01351291f6d4b7e6828b"), looks := true }, kinds := [], alts := [], laidByText := true, laidKinds := [.data, .data, .data, .data, .sentinel, .sentinel, .pinned], laidTests := true, laidLooks := .later }
def ScriptRoundTripUptoCardSaid : Prop := Claim7.holds Tryz.pinned (.plain (OpenSpec.upto scriptRoundTripSpec)) scriptRoundTripUptoCard

/-- THE SECOND FORM's CARD OF 'stagepostlaw27.ScriptConcatenation'. -/
def scriptConcatenationUptoCard : Claim7 := { stood := { row := scriptConcatenationUptoRow, standIns := [], harness := (true, "4767000a4a5213509df50c3e3ccf8ce84927b1cecccf01351291f6d4b7e6828b"), looks := true }, kinds := [], alts := [], laidByText := true, laidKinds := [.data, .data, .data, .data, .sentinel, .sentinel, .pinned], laidTests := true, laidLooks := .later }
def ScriptConcatenationUptoCardSaid : Prop := Claim7.holds Tryz.pinned (.plain (OpenSpec.upto scriptConcatenationSpec)) scriptConcatenationUptoCard

/-- THE SECOND FORM's CARD OF 'stagepostlaw27.ScriptFieldFormats'. -/
def scriptFieldFormatsUptoCard : Claim7 := { stood := { row := scriptFieldFormatsUptoRow, standIns := [], harness := (true, "4767000a4a5213509df50c3e3ccf8ce84927b1cecccf01351291f6d4b7e6828b"), looks := true }, kinds := [], alts := [], laidByText := true, laidKinds := [.data, .data, .data, .data, .sentinel, .sentinel, .pinned], laidTests := true, laidLooks := .later }
def ScriptFieldFormatsUptoCardSaid : Prop := Claim7.holds Tryz.pinned (.plain (OpenSpec.upto scriptFieldFormatsSpec)) scriptFieldFormatsUptoCard
end Rows
end Go.Proofs.YtgajoiijebbagaaGreatDoor
