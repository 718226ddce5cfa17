/-
 The look at the text that lays the listed variables, one variable a fact. Conditions: none.
-/
import Derived.Test.YtmbajnmaeikceaaGreatDoorNT0
namespace Go.Proofs.YtmbajnmaeikceaaGreatDoor
open Go
noncomputable def Qot:Code:=match Tryz.f783.body with|some b=>b|none=> .skip
abbrev Qor:List Nat:=[6,7,1,13,9,5,12,4,3,14,10,11,2]
theorem Qub:varsId Tryz.prog=783:=by kernel_rfl
theorem Qs4:(Tryz.prog.funcs[783]?).bind (·.body)=some Qot:=by kernel_rfl
theorem Qs3:Qot.laysInOrder []=some Qor:=by kernel_rfl
theorem Qq7:Tryz.prog.callsLaidAlone 783 Qot=true:=by kernel_rfl
theorem Qoo:Qot.storedByHandle Tryz.prog=[5]:=by kernel_rfl
abbrev Qp0 (P:Program) (code:Code) (stored:List Nat) (x:String×DataW Unit):Bool:=(P.globalNamed x.1).any λv=>(stored.contains v==(P.kindBase x.1 != some .zero))&&callsFit code v (P.kindBase x.1)&&
 ((code.storedByHandle P).contains v==(P.kindBase x.1==some .handle))&&(x.2.handleName?.isSome==(P.kindBase x.1==some .handle||P.kindBase x.1==some .funcs))&&
 (P.kindBase x.1 != some .handle||handlePair x)&&(x.2.funcsIn?.isSome==(P.kindBase x.1==some .funcs))&&mapsFit code v x.2 (P.kindBase x.1)
theorem Qov {P:Program} {code:Code} {stored hs:List Nat} {x:String×DataW Unit} (v:Nat) (k:LaidKind) (hg:P.globalNamed x.1=some v) (hk:P.kindBase x.1=some k) (hh:code.storedByHandle P=hs)
 (h:((stored.contains v==((some k:Option LaidKind) != some .zero))&&callsFit code v (some k)&&(hs.contains v==((some k:Option LaidKind)==some .handle))&&(x.2.handleName?.isSome==((some k:Option LaidKind)==some .handle||(some k:Option LaidKind)==some .funcs))&&
  ((some k:Option LaidKind) != some .handle||handlePair x)&&(x.2.funcsIn?.isSome==((some k:Option LaidKind)==some .funcs))&&mapsFit code v x.2 (some k))=true):Qp0 P code stored x=true:=by
 unfold Qp0;rw [hg,hk,hh];exact h
theorem at0:Qp0 Tryz.prog Qot Qor ("errors.errorType",Rows.laid_errors_errorType)=true:=Qov 5 .handle (by kernel_rfl) (by kernel_rfl) Qoo (by kernel_rfl)
theorem at1:Qp0 Tryz.prog Qot Qor ("stagepost/congestion.errSize",Rows.laid_stagepost_congestion_errSize)=true:=Qov 12 .sentinel (by kernel_rfl) (by kernel_rfl) Qoo (by kernel_rfl)
theorem at2:Qp0 Tryz.prog Qot Qor ("stagepost/tcpstate.triples",Rows.laid_stagepost_tcpstate_triples)=true:=Qov 13 .data (by kernel_rfl) (by kernel_rfl) Qoo (by kernel_rfl)
theorem at3:Qp0 Tryz.prog Qot Qor ("stagepost/link.errBroken",Rows.laid_stagepost_link_errBroken)=true:=Qov 2 .sentinel (by kernel_rfl) (by kernel_rfl) Qoo (by kernel_rfl)
theorem at4:Qp0 Tryz.prog Qot Qor ("stagepost/icmp.errShort",Rows.laid_stagepost_icmp_errShort)=true:=Qov 10 .sentinel (by kernel_rfl) (by kernel_rfl) Qoo (by kernel_rfl)
theorem at5:Qp0 Tryz.prog Qot Qor ("stagepost/icmp.errKind",Rows.laid_stagepost_icmp_errKind)=true:=Qov 11 .sentinel (by kernel_rfl) (by kernel_rfl) Qoo (by kernel_rfl)
theorem at6:Qp0 Tryz.prog Qot Qor ("stagepost/dnscache.errInvalid",Rows.laid_stagepost_dnscache_errInvalid)=true:=Qov 14 .sentinel (by kernel_rfl) (by kernel_rfl) Qoo (by kernel_rfl)
theorem at7:Qp0 Tryz.prog Qot Qor ("internal/strconv.uint64pow10",Rows.laid_internal_strconv_uint64pow10)=true:=Qov 1 .data (by kernel_rfl) (by kernel_rfl) Qoo (by kernel_rfl)
theorem at8:Qp0 Tryz.prog Qot Qor ("math/bits.deBruijn32tab",Rows.laid_math_bits_deBruijn32tab)=true:=Qov 6 .data (by kernel_rfl) (by kernel_rfl) Qoo (by kernel_rfl)
theorem at9:Qp0 Tryz.prog Qot Qor ("math/bits.deBruijn64tab",Rows.laid_math_bits_deBruijn64tab)=true:=Qov 7 .data (by kernel_rfl) (by kernel_rfl) Qoo (by kernel_rfl)
theorem at10:Qp0 Tryz.prog Qot Qor ("unicode/utf8.acceptRanges",Rows.laid_unicode_utf8_acceptRanges)=true:=Qov 9 .data (by kernel_rfl) (by kernel_rfl) Qoo (by kernel_rfl)
theorem at11:Qp0 Tryz.prog Qot Qor ("strconv.ErrSyntax",Rows.laid_strconv_ErrSyntax)=true:=Qov 3 .sentinel (by kernel_rfl) (by kernel_rfl) Qoo (by kernel_rfl)
theorem at12:Qp0 Tryz.prog Qot Qor ("strconv.ErrRange",Rows.laid_strconv_ErrRange)=true:=Qov 4 .sentinel (by kernel_rfl) (by kernel_rfl) Qoo (by kernel_rfl)
theorem Qwk:varsNamedLaterB Tryz.prog (varsId Tryz.prog) laidAll=true:=by unfold varsNamedLaterB;rw [Qub,Qs4];dsimp only;rw [Qs3];dsimp only;rw [Bool.and_eq_true,Bool.and_eq_true];refine ⟨⟨by kernel_rfl,Qq7⟩,List.all_eq_true.2 λx hx=>?_⟩;simp only [List.mem_cons,List.mem_nil_iff,or_false] at hx;rcases hx with rfl|rfl|rfl|rfl|rfl|rfl|rfl|rfl|rfl|rfl|rfl|rfl|rfl;exact at0;exact at1;exact at2;exact at3;exact at4;exact at5;exact at6;exact at7;exact at8;exact at9;exact at10;exact at11;exact at12
end Go.Proofs.YtmbajnmaeikceaaGreatDoor
