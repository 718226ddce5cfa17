/-
 The tie of the listed variables to the program's text, one closed fact a text (the given Tie text makes all in one declaration, which takes more memory than there is here). Conditions: none.
-/
import Derived.Test.YtmbajnmaeikceaaGreatDoorRows
import Derived.LaidByTextLater
import Derived.SevenTiedAt
namespace Go.Proofs.YtmbajnmaeikceaaGreatDoor
open Go
abbrev laidAll:List (String×DataW Unit):=[("errors.errorType",Rows.laid_errors_errorType),("stagepost/congestion.errSize",Rows.laid_stagepost_congestion_errSize),("stagepost/tcpstate.triples",Rows.laid_stagepost_tcpstate_triples),("stagepost/link.errBroken",Rows.laid_stagepost_link_errBroken),("stagepost/icmp.errShort",Rows.laid_stagepost_icmp_errShort),("stagepost/icmp.errKind",Rows.laid_stagepost_icmp_errKind),("stagepost/dnscache.errInvalid",Rows.laid_stagepost_dnscache_errInvalid),("internal/strconv.uint64pow10",Rows.laid_internal_strconv_uint64pow10),("math/bits.deBruijn32tab",Rows.laid_math_bits_deBruijn32tab),("math/bits.deBruijn64tab",Rows.laid_math_bits_deBruijn64tab),("unicode/utf8.acceptRanges",Rows.laid_unicode_utf8_acceptRanges),("strconv.ErrSyntax",Rows.laid_strconv_ErrSyntax),("strconv.ErrRange",Rows.laid_strconv_ErrRange)]
abbrev Qp4:List LaidKind:=[.handle, .sentinel, .data, .sentinel, .sentinel, .sentinel, .sentinel, .data, .data, .data, .data, .sentinel, .sentinel]
theorem Qpp:Tryz.pinned.checked.prog.headLifts.contains "ownunsafe" =false:=by kernel_rfl
theorem Qwm:laidAll.map (λx=>Tryz.prog.kindOfLater x.1)=Qp4.map some:=by kernel_rfl
end Go.Proofs.YtmbajnmaeikceaaGreatDoor
