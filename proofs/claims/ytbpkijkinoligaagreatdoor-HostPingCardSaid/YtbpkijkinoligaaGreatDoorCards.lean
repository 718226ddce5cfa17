/-
  DERIVED. GIVEN WITH THE SEED: THE CARDS: each row of YtbpkijkinoligaaGreatDoorRows.lean that lists a variable, with what it lists TIED to the program's text (the seventh form; the later family's looks); each row that meets fmt, with fmt's text TOLD by the authors' own Lean function (tested against real Go, not proved from fmt's source: count such statements apart). THE CARD IS WHAT COUNTS. Prove the row's statement (the work); the ties are given (YtbpkijkinoligaaGreatDoorTie.lean); close each card by the builder's one call (the guide's Derived/Test/ToyasCard.lean, 'card_holds'). Laid BY PROGRAM, IN A SANDBOX (cutbox-door.mjs). By AI agents, Wed Nov 11 2026. No macro, syntax, notation, axiom, sorry.
-/
import Derived.Test.YtbpkijkinoligaaGreatDoorRows
import GoSem.ClaimSeven
namespace Go.Proofs.YtbpkijkinoligaaGreatDoor
namespace Rows

/-- THE TIED CARD OF 'stagepostlaw25.HostPing'. -/
def hostPingCard : Claim7 := { stood := { row := hostPingRow, standIns := [], harness := (true, "9ef7f835ccdf629c42152c6050f3f5203aa58b2e08fc278dd95a654a1adae60e"), looks := true }, kinds := [], alts := [], laidByText := true, laidKinds := [.sentinel, .sentinel, .sentinel, .sentinel, .data, .sentinel, .handle], laidTests := true, laidLooks := .later }
def HostPingCardSaid : Prop := Claim7.holds Tryz.pinned (.plain (OpenSpec.ofChange hostPingSpec)) hostPingCard

/-- THE TIED CARD OF 'stagepostlaw25.HostARPExpiry'. -/
def hostARPExpiryCard : Claim7 := { stood := { row := hostARPExpiryRow, standIns := [], harness := (true, "9ef7f835ccdf629c42152c6050f3f5203aa58b2e08fc278dd95a654a1adae60e"), looks := true }, kinds := [], alts := [], laidByText := true, laidKinds := [.sentinel, .sentinel, .sentinel, .sentinel, .data, .sentinel, .handle], laidTests := true, laidLooks := .later }
def HostARPExpiryCardSaid : Prop := Claim7.holds Tryz.pinned (.plain (OpenSpec.ofChange hostARPExpirySpec)) hostARPExpiryCard

/-- THE SECOND FORM's CARD OF 'stagepostlaw25.HostPing'. -/
def hostPingUptoCard : Claim7 := { stood := { row := hostPingUptoRow, standIns := [], harness := (true, "9ef7f835ccdf629c42152c6050f3f5203aa58b2e08fc278dd95a654a1adae60e"), looks := true }, kinds := [], alts := [], laidByText := true, laidKinds := [.sentinel, .sentinel, .sentinel, .sentinel, .data, .sentinel, .handle], laidTests := true, laidLooks := .later }
def HostPingUptoCardSaid : Prop := Claim7.holds Tryz.pinned (.plain (OpenSpec.upto hostPingSpec)) hostPingUptoCard

/-- THE SECOND FORM's CARD OF 'stagepostlaw25.HostARPExpiry'. -/
def hostARPExpiryUptoCard : Claim7 := { stood := { row := hostARPExpiryUptoRow, standIns := [], harness := (true, "9ef7f835ccdf629c42152c6050f3f5203aa58b2e08fc278dd95a654a1adae60e"), looks := true }, kinds := [], alts := [], laidByText := true, laidKinds := [.sentinel, .sentinel, .sentinel, .sentinel, .data, .sentinel, .handle], laidTests := true, laidLooks := .later }
def HostARPExpiryUptoCardSaid : Prop := Claim7.holds Tryz.pinned (.plain (OpenSpec.upto hostARPExpirySpec)) hostARPExpiryUptoCard
end Rows
end Go.Proofs.YtbpkijkinoligaaGreatDoor
