/-
  NARROWER THAN 'FOR EVERY INPUT', by the rows' own cells (each row's printed sentence says how): HostDefaultDeny: laid.
  DERIVED. THE GIVEN ROWS OF THIS SEAT. 1 by the template 'for every input the law returns true; each argument reads behind the call as it read before'; 0 by the template 'total and deterministic' (their statements: YtmfeholdlgfpbaaGreatDoorTotals.lean).
  GIVEN WITH THE SEED: the statements are not yours to turn. If you find one false, say at which input.
  Laid BY PROGRAM, IN A SANDBOX (cutbox-rows.mjs): the forced cells as the released guide's own fill.sh prints them over the translation 2cd1c31361b80e79… (all of the seat's roots in one cut). By AI agents, Wed Nov 11 2026. No macro, syntax, notation, axiom, sorry.
-/
import Derived.Test.YtmfeholdlgfpbaaGreatDoorChecked
import GoSem.Claim
import GoSem.ClaimJoined
import GoSem.ClaimMapViews
import Derived.JoinedTies
import Derived.KernelRfl
namespace Go.Proofs.YtmfeholdlgfpbaaGreatDoor
/- THE CELL 'sum', in the pinned program and in every row, IS THE sha256 OF THE DUMP (.gsa) THAT YtmfeholdlgfpbaaGreatDoorProg.lean LOADS. Nothing in Lean hashes anything: it is a label: what it is worth is what the hold of that sum in a sandbox is worth. -/
noncomputable def Tryz.pinned : Pinned := { name := "ytmfeholdlgfpbaagreatdoor", sum := "2cd1c31361b80e79466a5de0a24041db9fb90582c41cf2985cd17da17eddcb44", checked := Tryz.checked }
namespace Rows
def none {H : Type} : Left H := { results := [], args := [] }

/- WHAT THE LISTED PACKAGE-LEVEL VARIABLES READ AS WHEN THE CALL BEGINS. Each datum BY PROGRAM (the guide's laid-datum.mjs) off the statement by which the dump's own 'gosem.cut.vars' lays the variable. In a bare row this is a premise. The card (YtmfeholdlgfpbaaGreatDoorCards.lean) ties it to the program's text. -/
def laid_stagepost_link_errBroken {H : Type} : DataW H := .iface "*errors.errorString" (.ptr (.agg [.lit (.string [98, 114, 111, 107, 101, 110, 32, 102, 105, 101, 108, 100])]))
def laid_stagepost_icmp_errShort {H : Type} : DataW H := .iface "*errors.errorString" (.ptr (.agg [.lit (.string [116, 104, 101, 32, 102, 105, 120, 101, 100, 32, 102, 105, 101, 108, 100, 115, 32, 97, 114, 101, 32, 110, 111, 116, 32, 119, 104, 111, 108, 101])]))
def laid_stagepost_icmp_errKind {H : Type} : DataW H := .iface "*errors.errorString" (.ptr (.agg [.lit (.string [116, 104, 101, 32, 107, 105, 110, 100, 32, 105, 115, 32, 117, 110, 107, 110, 111, 119, 110])]))
def laid_stagepost_congestion_errSize {H : Type} : DataW H := .iface "*errors.errorString" (.ptr (.agg [.lit (.string [115, 101, 103, 109, 101, 110, 116, 32, 115, 105, 122, 101, 32, 111, 117, 116, 32, 111, 102, 32, 114, 97, 110, 103, 101])]))
def laid_stagepost_tcpstate_triples {H : Type} : DataW H := .agg [.agg [.lit (.int .i64 0), .lit (.int .i64 1), .lit (.int .i64 1)], .agg [.lit (.int .i64 0), .lit (.int .i64 2), .lit (.int .i64 2)], .agg [.lit (.int .i64 1), .lit (.int .i64 3), .lit (.int .i64 3)], .agg [.lit (.int .i64 1), .lit (.int .i64 2), .lit (.int .i64 2)], .agg [.lit (.int .i64 1), .lit (.int .i64 5), .lit (.int .i64 0)], .agg [.lit (.int .i64 2), .lit (.int .i64 4), .lit (.int .i64 3)], .agg [.lit (.int .i64 2), .lit (.int .i64 5), .lit (.int .i64 4)], .agg [.lit (.int .i64 2), .lit (.int .i64 6), .lit (.int .i64 6)], .agg [.lit (.int .i64 3), .lit (.int .i64 5), .lit (.int .i64 4)], .agg [.lit (.int .i64 3), .lit (.int .i64 6), .lit (.int .i64 6)], .agg [.lit (.int .i64 4), .lit (.int .i64 7), .lit (.int .i64 5)], .agg [.lit (.int .i64 4), .lit (.int .i64 6), .lit (.int .i64 7)], .agg [.lit (.int .i64 5), .lit (.int .i64 6), .lit (.int .i64 9)], .agg [.lit (.int .i64 6), .lit (.int .i64 5), .lit (.int .i64 8)], .agg [.lit (.int .i64 7), .lit (.int .i64 7), .lit (.int .i64 9)], .agg [.lit (.int .i64 8), .lit (.int .i64 7), .lit (.int .i64 0)]]
def laid_stagepost_dnscache_errInvalid {H : Type} : DataW H := .iface "*errors.errorString" (.ptr (.agg [.lit (.string [110, 111, 116, 32, 97, 32, 118, 97, 108, 105, 100, 32, 101, 110, 116, 114, 121])]))
def laid_errors_errorType {H : Type} : DataW H := .iface "internal/reflectlite.rtype" (.agg [.ptr (.lit (.string [101, 114, 114, 111, 114]))])

/-- 'stagepostlaw25.HostDefaultDeny': WHATEVER THE INPUT: true; the input reads as it did. -/
def hostDefaultDenySpec : ChangeSpec := { name := "hostDefaultDeny", fn := fun _ => fun
  | [d1, d2] => { results := [.lit (.bool true)], args := [d1, d2] }
  | _ => none }
def hostDefaultDenyRow : OpenClaim := { program := "ytmfeholdlgfpbaagreatdoor", sum := "2cd1c31361b80e79466a5de0a24041db9fb90582c41cf2985cd17da17eddcb44", func := "stagepost/stagepostlaw25.HostDefaultDeny", spec := "hostDefaultDeny", inPlace := ["internal/reflectlite.TypeOf", "internal/abi.NoEscape", "internal/bytealg.MakeNoZero", "internal/bytealg.IndexByteString", "internal/bytealg.IndexString", "internal/reflectlite.ValueOf", "(internal/reflectlite.Value).Type", "(internal/reflectlite.Value).IsNil", "(internal/reflectlite.Value).Elem", "(internal/reflectlite.Value).Set"], unfollowed := true, recurses := true, named := ["stagepost/link.errBroken", "stagepost/icmp.errShort", "stagepost/icmp.errKind", "stagepost/congestion.errSize", "stagepost/tcpstate.triples", "internal/bytealg.MaxLen", "stagepost/dnscache.errInvalid", "errors.errorType"], plainKeys := false, apart := false, laid := [("stagepost/link.errBroken", laid_stagepost_link_errBroken), ("stagepost/icmp.errShort", laid_stagepost_icmp_errShort), ("stagepost/icmp.errKind", laid_stagepost_icmp_errKind), ("stagepost/congestion.errSize", laid_stagepost_congestion_errSize), ("stagepost/tcpstate.triples", laid_stagepost_tcpstate_triples), ("stagepost/dnscache.errInvalid", laid_stagepost_dnscache_errInvalid), ("errors.errorType", laid_errors_errorType)] }
def HostDefaultDenySaid : Prop := hostDefaultDenyRow.holds Tryz.pinned (OpenSpec.ofChange hostDefaultDenySpec)

/-- ITS FALSE NEIGHBOUR: 'it returns false'. Refute it at one input. -/
def hostDefaultDenyWrong : ChangeSpec := { name := "hostDefaultDeny", fn := fun _ => fun
  | [d1, d2] => { results := [.lit (.bool false)], args := [d1, d2] }
  | _ => none }
def HostDefaultDenyWrongFalsely : Prop := hostDefaultDenyRow.holds Tryz.pinned (OpenSpec.ofChange hostDefaultDenyWrong)

/- THE SECOND FORM. 'bulk': how many values and letters a reading holds, each counted each time it is reached (what is shared counts as often as it is met; a slice's spare places count too). A statement '..UptoSaid' is the law's where the arguments, and the package variables that the reading takes, are together of bulk at most 1048576: NARROWER than '..Said'. Prove '..Said' where nothing that the law and all that it calls make is longer than what came in: it says more and counts as full. Else prove '..UptoSaid'. A law counts once. -/
mutual
def uptoBulk {H : Type} : DataW H → Nat
  | .lit (.string bytes) => bytes.length + 1
  | .lit _ => 1
  | .nil => 1
  | .ptr d => uptoBulk d + 1
  | .slice elems spare => uptoBulkAll elems + uptoBulkAll spare + 1
  | .agg parts => uptoBulkAll parts + 1
  | .iface _ d => uptoBulk d + 1
  | .map entries => uptoBulkEntries entries + 1
  | .held _ => 1
def uptoBulkAll {H : Type} : List (DataW H) → Nat
  | [] => 0
  | d :: r => uptoBulk d + uptoBulkAll r
def uptoBulkEntries {H : Type} : List (Lit × DataW H) → Nat
  | [] => 0
  | x :: r => uptoBulkEntry x + uptoBulkEntries r
def uptoBulkEntry {H : Type} : Lit × DataW H → Nat
  | (.string bytes, d) => bytes.length + uptoBulk d + 1
  | (_, d) => uptoBulk d + 1
 end
def uptoSmall : (H : Type) → List (DataW H) → Bool := fun _ ds => decide (uptoBulkAll ds ≤ 1048576)
def OpenSpec.upto (s : _root_.Go.ChangeSpec) : _root_.Go.OpenSpec := { _root_.Go.OpenSpec.ofChange s with cond := some uptoSmall }

/-- 'stagepostlaw25.HostDefaultDeny', WHERE WHAT IT READS IS OF BULK AT MOST 1048576: true; the input reads as it did. -/
def hostDefaultDenyUptoRow : OpenClaim := { program := "ytmfeholdlgfpbaagreatdoor", sum := "2cd1c31361b80e79466a5de0a24041db9fb90582c41cf2985cd17da17eddcb44", func := "stagepost/stagepostlaw25.HostDefaultDeny", spec := "hostDefaultDeny", inPlace := ["internal/reflectlite.TypeOf", "internal/abi.NoEscape", "internal/bytealg.MakeNoZero", "internal/bytealg.IndexByteString", "internal/bytealg.IndexString", "internal/reflectlite.ValueOf", "(internal/reflectlite.Value).Type", "(internal/reflectlite.Value).IsNil", "(internal/reflectlite.Value).Elem", "(internal/reflectlite.Value).Set"], unfollowed := true, recurses := true, named := ["stagepost/link.errBroken", "stagepost/icmp.errShort", "stagepost/icmp.errKind", "stagepost/congestion.errSize", "stagepost/tcpstate.triples", "internal/bytealg.MaxLen", "stagepost/dnscache.errInvalid", "errors.errorType"], plainKeys := false, apart := false, laid := [("stagepost/link.errBroken", laid_stagepost_link_errBroken), ("stagepost/icmp.errShort", laid_stagepost_icmp_errShort), ("stagepost/icmp.errKind", laid_stagepost_icmp_errKind), ("stagepost/congestion.errSize", laid_stagepost_congestion_errSize), ("stagepost/tcpstate.triples", laid_stagepost_tcpstate_triples), ("stagepost/dnscache.errInvalid", laid_stagepost_dnscache_errInvalid), ("errors.errorType", laid_errors_errorType)], narrowed := true }
def HostDefaultDenyUptoSaid : Prop := hostDefaultDenyUptoRow.holds Tryz.pinned (OpenSpec.upto hostDefaultDenySpec)

end Rows
end Go.Proofs.YtmfeholdlgfpbaaGreatDoor
