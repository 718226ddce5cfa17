/-
  DERIVED. GIVEN WITH THE SEED: THE CARDS: each row of YtpnmpklpiollnaaGreatDoorRows.lean that lists a variable, with what it lists TIED to the program's text (the seventh form; the later family's looks); each row that meets fmt, with fmt's text TOLD by the authors' own Lean function (tested against real Go, not proved from fmt's source: count such statements apart). THE CARD IS WHAT COUNTS. Prove the row's statement (the work); the ties are given (YtpnmpklpiollnaaGreatDoorTie.lean); close each card by the builder's one call (the guide's Derived/Test/ToyasCard.lean, 'card_holds'). Laid BY PROGRAM, IN A SANDBOX (cutbox-door.mjs). By AI agents, Wed Nov 11 2026. No macro, syntax, notation, axiom, sorry.
-/
import Derived.Test.YtpnmpklpiollnaaGreatDoorRows
import GoSem.ClaimSeven
namespace Go.Proofs.YtpnmpklpiollnaaGreatDoor
namespace Rows

/-- THE TIED CARD OF 'stagepostlaw25.HostNil'. -/
def hostNilCard : Claim7 := { stood := { row := hostNilRow, standIns := [], harness := (true, "cc82897aa7593126caa3a56c72dc2e144b2486b46fb1eb7c4ab03419774ba053"), looks := true }, kinds := [], alts := [], laidByText := true, laidKinds := [.sentinel, .sentinel, .sentinel, .sentinel, .data, .sentinel, .handle], laidTests := true, laidLooks := .later }
def HostNilCardSaid : Prop := Claim7.holds Tryz.pinned (.plain (OpenSpec.ofChange hostNilSpec)) hostNilCard

/-- THE SECOND FORM's CARD OF 'stagepostlaw25.HostNil'. -/
def hostNilUptoCard : Claim7 := { stood := { row := hostNilUptoRow, standIns := [], harness := (true, "cc82897aa7593126caa3a56c72dc2e144b2486b46fb1eb7c4ab03419774ba053"), looks := true }, kinds := [], alts := [], laidByText := true, laidKinds := [.sentinel, .sentinel, .sentinel, .sentinel, .data, .sentinel, .handle], laidTests := true, laidLooks := .later }
def HostNilUptoCardSaid : Prop := Claim7.holds Tryz.pinned (.plain (OpenSpec.upto hostNilSpec)) hostNilUptoCard
end Rows
end Go.Proofs.YtpnmpklpiollnaaGreatDoor
