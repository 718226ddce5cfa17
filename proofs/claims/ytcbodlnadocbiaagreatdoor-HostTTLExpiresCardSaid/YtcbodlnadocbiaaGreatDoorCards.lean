/-
  DERIVED. GIVEN WITH THE SEED: THE CARDS: each row of YtcbodlnadocbiaaGreatDoorRows.lean that lists a variable, with what it lists TIED to the program's text (the seventh form; the later family's looks); each row that meets fmt, with fmt's text TOLD by the authors' own Lean function (tested against real Go, not proved from fmt's source: count such statements apart). THE CARD IS WHAT COUNTS. Prove the row's statement (the work); the ties are given (YtcbodlnadocbiaaGreatDoorTie.lean); close each card by the builder's one call (the guide's Derived/Test/ToyasCard.lean, 'card_holds'). Laid BY PROGRAM, IN A SANDBOX (cutbox-door.mjs). By AI agents, Wed Nov 11 2026. No macro, syntax, notation, axiom, sorry.
-/
import Derived.Test.YtcbodlnadocbiaaGreatDoorRows
import GoSem.ClaimSeven
namespace Go.Proofs.YtcbodlnadocbiaaGreatDoor
namespace Rows

/-- THE TIED CARD OF 'stagepostlaw25.HostTTLExpires'. -/
def hostTTLExpiresCard : Claim7 := { stood := { row := hostTTLExpiresRow, standIns := [], harness := (true, "e309e66729917d7d566c8daf3ee84132e0429b2c1ca36ede658b95decc455e07"), looks := true }, kinds := [], alts := [], laidByText := true, laidKinds := [.sentinel, .sentinel, .sentinel, .sentinel, .data, .sentinel, .handle], laidTests := true, laidLooks := .later }
def HostTTLExpiresCardSaid : Prop := Claim7.holds Tryz.pinned (.plain (OpenSpec.ofChange hostTTLExpiresSpec)) hostTTLExpiresCard

/-- THE TIED CARD OF 'stagepostlaw25.HostNameCache'. -/
def hostNameCacheCard : Claim7 := { stood := { row := hostNameCacheRow, standIns := [], harness := (true, "e309e66729917d7d566c8daf3ee84132e0429b2c1ca36ede658b95decc455e07"), looks := true }, kinds := [], alts := [], laidByText := true, laidKinds := [.sentinel, .sentinel, .sentinel, .sentinel, .data, .sentinel, .handle], laidTests := true, laidLooks := .later }
def HostNameCacheCardSaid : Prop := Claim7.holds Tryz.pinned (.plain (OpenSpec.ofChange hostNameCacheSpec)) hostNameCacheCard

/-- THE SECOND FORM's CARD OF 'stagepostlaw25.HostTTLExpires'. -/
def hostTTLExpiresUptoCard : Claim7 := { stood := { row := hostTTLExpiresUptoRow, standIns := [], harness := (true, "e309e66729917d7d566c8daf3ee84132e0429b2c1ca36ede658b95decc455e07"), looks := true }, kinds := [], alts := [], laidByText := true, laidKinds := [.sentinel, .sentinel, .sentinel, .sentinel, .data, .sentinel, .handle], laidTests := true, laidLooks := .later }
def HostTTLExpiresUptoCardSaid : Prop := Claim7.holds Tryz.pinned (.plain (OpenSpec.upto hostTTLExpiresSpec)) hostTTLExpiresUptoCard

/-- THE SECOND FORM's CARD OF 'stagepostlaw25.HostNameCache'. -/
def hostNameCacheUptoCard : Claim7 := { stood := { row := hostNameCacheUptoRow, standIns := [], harness := (true, "e309e66729917d7d566c8daf3ee84132e0429b2c1ca36ede658b95decc455e07"), looks := true }, kinds := [], alts := [], laidByText := true, laidKinds := [.sentinel, .sentinel, .sentinel, .sentinel, .data, .sentinel, .handle], laidTests := true, laidLooks := .later }
def HostNameCacheUptoCardSaid : Prop := Claim7.holds Tryz.pinned (.plain (OpenSpec.upto hostNameCacheSpec)) hostNameCacheUptoCard
end Rows
end Go.Proofs.YtcbodlnadocbiaaGreatDoor
