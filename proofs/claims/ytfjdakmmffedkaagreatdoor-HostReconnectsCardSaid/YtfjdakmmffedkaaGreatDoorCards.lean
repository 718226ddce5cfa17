/-
  DERIVED. GIVEN WITH THE SEED: THE CARDS: each row of YtfjdakmmffedkaaGreatDoorRows.lean that lists a variable, with what it lists TIED to the program's text (the seventh form; the later family's looks); each row that meets fmt, with fmt's text TOLD by the authors' own Lean function (tested against real Go, not proved from fmt's source: count such statements apart). THE CARD IS WHAT COUNTS. Prove the row's statement (the work); the ties are given (YtfjdakmmffedkaaGreatDoorTie.lean); close each card by the builder's one call (the guide's Derived/Test/ToyasCard.lean, 'card_holds'). Laid BY PROGRAM, IN A SANDBOX (cutbox-door.mjs). By AI agents, Wed Nov 11 2026. No macro, syntax, notation, axiom, sorry.
-/
import Derived.Test.YtfjdakmmffedkaaGreatDoorRows
import GoSem.ClaimSeven
namespace Go.Proofs.YtfjdakmmffedkaaGreatDoor
namespace Rows

/-- THE TIED CARD OF 'stagepostlaw25.HostConcurrentStreams'. -/
def hostConcurrentStreamsCard : Claim7 := { stood := { row := hostConcurrentStreamsRow, standIns := [], harness := (true, "a31284f22c658a8b0e10256a27d66e818a072582d0e356fd446490c2363f3198"), looks := true }, kinds := [], alts := [], laidByText := true, laidKinds := [.sentinel, .sentinel, .sentinel, .sentinel, .data, .sentinel, .handle], laidTests := true, laidLooks := .later }
def HostConcurrentStreamsCardSaid : Prop := Claim7.holds Tryz.pinned (.plain (OpenSpec.ofChange hostConcurrentStreamsSpec)) hostConcurrentStreamsCard

/-- THE TIED CARD OF 'stagepostlaw25.HostReconnects'. -/
def hostReconnectsCard : Claim7 := { stood := { row := hostReconnectsRow, standIns := [], harness := (true, "a31284f22c658a8b0e10256a27d66e818a072582d0e356fd446490c2363f3198"), looks := true }, kinds := [], alts := [], laidByText := true, laidKinds := [.sentinel, .sentinel, .sentinel, .sentinel, .data, .sentinel, .handle], laidTests := true, laidLooks := .later }
def HostReconnectsCardSaid : Prop := Claim7.holds Tryz.pinned (.plain (OpenSpec.ofChange hostReconnectsSpec)) hostReconnectsCard

/-- THE SECOND FORM's CARD OF 'stagepostlaw25.HostConcurrentStreams'. -/
def hostConcurrentStreamsUptoCard : Claim7 := { stood := { row := hostConcurrentStreamsUptoRow, standIns := [], harness := (true, "a31284f22c658a8b0e10256a27d66e818a072582d0e356fd446490c2363f3198"), looks := true }, kinds := [], alts := [], laidByText := true, laidKinds := [.sentinel, .sentinel, .sentinel, .sentinel, .data, .sentinel, .handle], laidTests := true, laidLooks := .later }
def HostConcurrentStreamsUptoCardSaid : Prop := Claim7.holds Tryz.pinned (.plain (OpenSpec.upto hostConcurrentStreamsSpec)) hostConcurrentStreamsUptoCard

/-- THE SECOND FORM's CARD OF 'stagepostlaw25.HostReconnects'. -/
def hostReconnectsUptoCard : Claim7 := { stood := { row := hostReconnectsUptoRow, standIns := [], harness := (true, "a31284f22c658a8b0e10256a27d66e818a072582d0e356fd446490c2363f3198"), looks := true }, kinds := [], alts := [], laidByText := true, laidKinds := [.sentinel, .sentinel, .sentinel, .sentinel, .data, .sentinel, .handle], laidTests := true, laidLooks := .later }
def HostReconnectsUptoCardSaid : Prop := Claim7.holds Tryz.pinned (.plain (OpenSpec.upto hostReconnectsSpec)) hostReconnectsUptoCard
end Rows
end Go.Proofs.YtfjdakmmffedkaaGreatDoor
