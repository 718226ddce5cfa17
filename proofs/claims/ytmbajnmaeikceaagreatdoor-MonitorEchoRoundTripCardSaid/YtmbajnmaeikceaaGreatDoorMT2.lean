/-
 The look at the text that lays the listed variables, one variable a fact. Conditions: none.
-/
import Derived.Test.YtmbajnmaeikceaaGreatDoorMT0
namespace Go.Proofs.YtmbajnmaeikceaaGreatDoor
open Go
noncomputable def Qts:Code:=match Tryz.f783.body with|some b=>b|none=> .skip
abbrev Qpj:List Nat:=[6,7,1,13,9,5,12,4,3,14,10,11,2]
theorem Z23:varsId Tryz.prog=783:=by kernel_rfl
theorem Z20:(Tryz.prog.funcs[783]?).bind (·.body)=some Qts:=by kernel_rfl
theorem Qu1:Qts.laysInOrder []=some Qpj:=by kernel_rfl
theorem Qtz:Tryz.prog.callsLaidAlone 783 Qts=true:=by kernel_rfl
theorem Qo3:Qts.storedByHandle Tryz.prog=[5]:=by kernel_rfl
abbrev Qtu (P:Program) (code:Code) (stored:List Nat) (x:String×DataW Unit):Bool:=(P.globalNamed x.1).any λv=>(stored.contains v==(P.kindBase x.1 != some .zero))&&callsFit code v (P.kindBase x.1)&&
 ((code.storedByHandle P).contains v==(P.kindBase x.1==some .handle))&&(x.2.handleName?.isSome==(P.kindBase x.1==some .handle||P.kindBase x.1==some .funcs))&&
 (P.kindBase x.1 != some .handle||handlePair x)&&(x.2.funcsIn?.isSome==(P.kindBase x.1==some .funcs))&&mapsFit code v x.2 (P.kindBase x.1)
theorem Qtt {P:Program} {code:Code} {stored hs:List Nat} {x:String×DataW Unit} (v:Nat) (k:LaidKind) (hg:P.globalNamed x.1=some v) (hk:P.kindBase x.1=some k) (hh:code.storedByHandle P=hs)
 (h:((stored.contains v==((some k:Option LaidKind) != some .zero))&&callsFit code v (some k)&&(hs.contains v==((some k:Option LaidKind)==some .handle))&&(x.2.handleName?.isSome==((some k:Option LaidKind)==some .handle||(some k:Option LaidKind)==some .funcs))&&
  ((some k:Option LaidKind) != some .handle||handlePair x)&&(x.2.funcsIn?.isSome==((some k:Option LaidKind)==some .funcs))&&mapsFit code v x.2 (some k))=true):Qtu P code stored x=true:=by
 unfold Qtu;rw [hg,hk,hh];exact h
theorem at0:Qtu Tryz.prog Qts Qpj ("errors.errorType",Rows.laid_errors_errorType)=true:=Qtt 5 .handle (by kernel_rfl) (by kernel_rfl) Qo3 (by kernel_rfl)
theorem at1:Qtu Tryz.prog Qts Qpj ("stagepost/congestion.errSize",Rows.laid_stagepost_congestion_errSize)=true:=Qtt 12 .sentinel (by kernel_rfl) (by kernel_rfl) Qo3 (by kernel_rfl)
theorem at2:Qtu Tryz.prog Qts Qpj ("stagepost/tcpstate.triples",Rows.laid_stagepost_tcpstate_triples)=true:=Qtt 13 .data (by kernel_rfl) (by kernel_rfl) Qo3 (by kernel_rfl)
theorem at3:Qtu Tryz.prog Qts Qpj ("stagepost/link.errBroken",Rows.laid_stagepost_link_errBroken)=true:=Qtt 2 .sentinel (by kernel_rfl) (by kernel_rfl) Qo3 (by kernel_rfl)
theorem at4:Qtu Tryz.prog Qts Qpj ("stagepost/icmp.errShort",Rows.laid_stagepost_icmp_errShort)=true:=Qtt 10 .sentinel (by kernel_rfl) (by kernel_rfl) Qo3 (by kernel_rfl)
theorem at5:Qtu Tryz.prog Qts Qpj ("stagepost/icmp.errKind",Rows.laid_stagepost_icmp_errKind)=true:=Qtt 11 .sentinel (by kernel_rfl) (by kernel_rfl) Qo3 (by kernel_rfl)
theorem at6:Qtu Tryz.prog Qts Qpj ("stagepost/dnscache.errInvalid",Rows.laid_stagepost_dnscache_errInvalid)=true:=Qtt 14 .sentinel (by kernel_rfl) (by kernel_rfl) Qo3 (by kernel_rfl)
theorem at7:Qtu Tryz.prog Qts Qpj ("internal/strconv.uint64pow10",Rows.laid_internal_strconv_uint64pow10)=true:=Qtt 1 .data (by kernel_rfl) (by kernel_rfl) Qo3 (by kernel_rfl)
theorem at8:Qtu Tryz.prog Qts Qpj ("math/bits.deBruijn32tab",Rows.laid_math_bits_deBruijn32tab)=true:=Qtt 6 .data (by kernel_rfl) (by kernel_rfl) Qo3 (by kernel_rfl)
theorem at9:Qtu Tryz.prog Qts Qpj ("math/bits.deBruijn64tab",Rows.laid_math_bits_deBruijn64tab)=true:=Qtt 7 .data (by kernel_rfl) (by kernel_rfl) Qo3 (by kernel_rfl)
theorem at10:Qtu Tryz.prog Qts Qpj ("unicode/utf8.acceptRanges",Rows.laid_unicode_utf8_acceptRanges)=true:=Qtt 9 .data (by kernel_rfl) (by kernel_rfl) Qo3 (by kernel_rfl)
theorem at11:Qtu Tryz.prog Qts Qpj ("strconv.ErrSyntax",Rows.laid_strconv_ErrSyntax)=true:=Qtt 3 .sentinel (by kernel_rfl) (by kernel_rfl) Qo3 (by kernel_rfl)
theorem at12:Qtu Tryz.prog Qts Qpj ("strconv.ErrRange",Rows.laid_strconv_ErrRange)=true:=Qtt 4 .sentinel (by kernel_rfl) (by kernel_rfl) Qo3 (by kernel_rfl)
theorem Z28:varsNamedLaterB Tryz.prog (varsId Tryz.prog) laidAll=true:=by unfold varsNamedLaterB;rw [Z23,Z20];dsimp only;rw [Qu1];dsimp only;rw [Bool.and_eq_true,Bool.and_eq_true];refine ⟨⟨by kernel_rfl,Qtz⟩,List.all_eq_true.2 λx hx=>?_⟩;simp only [List.mem_cons,List.mem_nil_iff,or_false] at hx;rcases hx with rfl|rfl|rfl|rfl|rfl|rfl|rfl|rfl|rfl|rfl|rfl|rfl|rfl;exact at0;exact at1;exact at2;exact at3;exact at4;exact at5;exact at6;exact at7;exact at8;exact at9;exact at10;exact at11;exact at12
end Go.Proofs.YtmbajnmaeikceaaGreatDoor
