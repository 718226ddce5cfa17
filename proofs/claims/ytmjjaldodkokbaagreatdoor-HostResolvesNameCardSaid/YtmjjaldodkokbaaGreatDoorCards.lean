/-
  DERIVED. GIVEN WITH THE SEED: THE CARDS: each row of YtmjjaldodkokbaaGreatDoorRows.lean that lists a variable, with what it lists TIED to the program's text (the seventh form; the later family's looks); each row that meets fmt, with fmt's text TOLD by the authors' own Lean function (tested against real Go, not proved from fmt's source: count such statements apart). THE CARD IS WHAT COUNTS. Prove the row's statement (the work); the ties are given (YtmjjaldodkokbaaGreatDoorTie.lean); close each card by the builder's one call (the guide's Derived/Test/ToyasCard.lean, 'card_holds'). Laid BY PROGRAM, IN A SANDBOX (cutbox-door.mjs). By AI agents, Wed Nov 11 2026. No macro, syntax, notation, axiom, sorry.
-/
import Derived.Test.YtmjjaldodkokbaaGreatDoorRows
import GoSem.ClaimSeven
namespace Go.Proofs.YtmjjaldodkokbaaGreatDoor
namespace Rows

/-- THE TIED CARD OF 'stagepostlaw25.HostResolvesName'. -/
def hostResolvesNameCard : Claim7 := { stood := { row := hostResolvesNameRow, standIns := [], harness := (true, "b923887cddee06da9ed4e01899d9e0d41d8718df68685233f6d365521e4e6ff2"), looks := true }, kinds := [], alts := [], laidByText := true, laidKinds := [.sentinel, .sentinel, .sentinel, .sentinel, .data, .sentinel, .handle], laidTests := true, laidLooks := .later }
def HostResolvesNameCardSaid : Prop := Claim7.holds Tryz.pinned (.plain (OpenSpec.ofChange hostResolvesNameSpec)) hostResolvesNameCard

/-- THE TIED CARD OF 'stagepostlaw25.HostHalfClose'. -/
def hostHalfCloseCard : Claim7 := { stood := { row := hostHalfCloseRow, standIns := [], harness := (true, "b923887cddee06da9ed4e01899d9e0d41d8718df68685233f6d365521e4e6ff2"), looks := true }, kinds := [], alts := [], laidByText := true, laidKinds := [.sentinel, .sentinel, .sentinel, .sentinel, .data, .sentinel, .handle], laidTests := true, laidLooks := .later }
def HostHalfCloseCardSaid : Prop := Claim7.holds Tryz.pinned (.plain (OpenSpec.ofChange hostHalfCloseSpec)) hostHalfCloseCard

/-- THE SECOND FORM's CARD OF 'stagepostlaw25.HostResolvesName'. -/
def hostResolvesNameUptoCard : Claim7 := { stood := { row := hostResolvesNameUptoRow, standIns := [], harness := (true, "b923887cddee06da9ed4e01899d9e0d41d8718df68685233f6d365521e4e6ff2"), looks := true }, kinds := [], alts := [], laidByText := true, laidKinds := [.sentinel, .sentinel, .sentinel, .sentinel, .data, .sentinel, .handle], laidTests := true, laidLooks := .later }
def HostResolvesNameUptoCardSaid : Prop := Claim7.holds Tryz.pinned (.plain (OpenSpec.upto hostResolvesNameSpec)) hostResolvesNameUptoCard

/-- THE SECOND FORM's CARD OF 'stagepostlaw25.HostHalfClose'. -/
def hostHalfCloseUptoCard : Claim7 := { stood := { row := hostHalfCloseUptoRow, standIns := [], harness := (true, "b923887cddee06da9ed4e01899d9e0d41d8718df68685233f6d365521e4e6ff2"), looks := true }, kinds := [], alts := [], laidByText := true, laidKinds := [.sentinel, .sentinel, .sentinel, .sentinel, .data, .sentinel, .handle], laidTests := true, laidLooks := .later }
def HostHalfCloseUptoCardSaid : Prop := Claim7.holds Tryz.pinned (.plain (OpenSpec.upto hostHalfCloseSpec)) hostHalfCloseUptoCard
end Rows
end Go.Proofs.YtmjjaldodkokbaaGreatDoor
