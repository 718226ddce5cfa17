/-
 The tie of the listed variables to the program's text, one closed fact a text (the given Tie text makes all in one declaration, which takes more memory than there is here). Conditions: none.
-/
import Derived.Test.YtmfeholdlgfpbaaGreatDoorRows
import Derived.LaidByTextLater
import Derived.SevenTiedAt
namespace Go.Proofs.YtmfeholdlgfpbaaGreatDoor
open Go
abbrev laidAll:List (String×DataW Unit):=[("stagepost/link.errBroken",Rows.laid_stagepost_link_errBroken),("stagepost/icmp.errShort",Rows.laid_stagepost_icmp_errShort),("stagepost/icmp.errKind",Rows.laid_stagepost_icmp_errKind),("stagepost/congestion.errSize",Rows.laid_stagepost_congestion_errSize),("stagepost/tcpstate.triples",Rows.laid_stagepost_tcpstate_triples),("stagepost/dnscache.errInvalid",Rows.laid_stagepost_dnscache_errInvalid),("errors.errorType",Rows.laid_errors_errorType)]
abbrev Qr9:List LaidKind:=[.sentinel, .sentinel, .sentinel, .sentinel, .data, .sentinel, .handle]
theorem Qu1:Tryz.pinned.checked.prog.headLifts.contains "ownunsafe" =false:=by kernel_rfl
theorem Zb2:laidAll.map (λx=>Tryz.prog.kindOfLater x.1)=Qr9.map some:=by kernel_rfl
end Go.Proofs.YtmfeholdlgfpbaaGreatDoor
