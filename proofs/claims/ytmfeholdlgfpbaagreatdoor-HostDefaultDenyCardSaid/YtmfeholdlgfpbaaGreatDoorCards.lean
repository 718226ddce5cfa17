/-
  DERIVED. GIVEN WITH THE SEED: THE CARDS: each row of YtmfeholdlgfpbaaGreatDoorRows.lean that lists a variable, with what it lists TIED to the program's text (the seventh form; the later family's looks); each row that meets fmt, with fmt's text TOLD by the authors' own Lean function (tested against real Go, not proved from fmt's source: count such statements apart). THE CARD IS WHAT COUNTS. Prove the row's statement (the work); the ties are given (YtmfeholdlgfpbaaGreatDoorTie.lean); close each card by the builder's one call (the guide's Derived/Test/ToyasCard.lean, 'card_holds'). Laid BY PROGRAM, IN A SANDBOX (cutbox-door.mjs). By AI agents, Wed Nov 11 2026. No macro, syntax, notation, axiom, sorry.
-/
import Derived.Test.YtmfeholdlgfpbaaGreatDoorRows
import GoSem.ClaimSeven
namespace Go.Proofs.YtmfeholdlgfpbaaGreatDoor
namespace Rows

/-- THE TIED CARD OF 'stagepostlaw25.HostDefaultDeny'. -/
def hostDefaultDenyCard : Claim7 := { stood := { row := hostDefaultDenyRow, standIns := [], harness := (true, "61aa00c25460c7b476624c0078041380a4e61fb6198dbb29b44509fb018f2092"), looks := true }, kinds := [], alts := [], laidByText := true, laidKinds := [.sentinel, .sentinel, .sentinel, .sentinel, .data, .sentinel, .handle], laidTests := true, laidLooks := .later }
def HostDefaultDenyCardSaid : Prop := Claim7.holds Tryz.pinned (.plain (OpenSpec.ofChange hostDefaultDenySpec)) hostDefaultDenyCard

/-- THE SECOND FORM's CARD OF 'stagepostlaw25.HostDefaultDeny'. -/
def hostDefaultDenyUptoCard : Claim7 := { stood := { row := hostDefaultDenyUptoRow, standIns := [], harness := (true, "61aa00c25460c7b476624c0078041380a4e61fb6198dbb29b44509fb018f2092"), looks := true }, kinds := [], alts := [], laidByText := true, laidKinds := [.sentinel, .sentinel, .sentinel, .sentinel, .data, .sentinel, .handle], laidTests := true, laidLooks := .later }
def HostDefaultDenyUptoCardSaid : Prop := Claim7.holds Tryz.pinned (.plain (OpenSpec.upto hostDefaultDenySpec)) hostDefaultDenyUptoCard
end Rows
end Go.Proofs.YtmfeholdlgfpbaaGreatDoor
