/-
 The law on echo requests: it holds over a memory in which the packages' errors are laid. Conditions: none.
-/
import Derived.Test.YtmbajnmaeikceaaGreatDoorMU0
import Derived.Test.YtmbajnmaeikceaaGreatDoorMU3
import Derived.Test.YtmbajnmaeikceaaGreatDoorMU6
import Derived.Test.YtmbajnmaeikceaaGreatDoorMU9
import Derived.Test.YtmbajnmaeikceaaGreatDoorMUc
import Derived.Test.YtmbajnmaeikceaaGreatDoorMUf
import Derived.Test.YtmbajnmaeikceaaGreatDoorMH0
import Derived.Test.YtmbajnmaeikceaaGreatDoorMVs
import Derived.Test.YtmbajnmaeikceaaGreatDoorRows
import Derived.Stop.LaidErr
import Derived.LaidSub
import Derived.Shelf.Vars
import Derived.ProofKit
import Derived.Lib.LaidU8
import Derived.LaidLaws
import Derived.LaidHandle
import Derived.Lib.LaidTab
import Derived.Test.YtmbajnmaeikceaaGreatDoorMT1
import Derived.Test.YtmbajnmaeikceaaGreatDoorMT2
import Derived.Test.YtmbajnmaeikceaaGreatDoorMT3
import Derived.Test.YtmbajnmaeikceaaGreatDoorMT4
import Derived.Test.YtmbajnmaeikceaaGreatDoorMT5
import Derived.Test.YtmbajnmaeikceaaGreatDoorMT6
import Derived.LaidByTextLater
import Derived.SevenTiedAt
import Derived.Test.YtmbajnmaeikceaaGreatDoorMAxE
import Derived.Test.YtmbajnmaeikceaaGreatDoorCards
import Derived.Test.YtmbajnmaeikceaaGreatDoorMJ6
import Derived.Lib.SmallJoins
import Derived.OpenShut
import Derived.Deep.DeepHandedRow
import Derived.ChangeSame
import Derived.WideKeyArgs
import Derived.Carry
namespace Go.Proofs.YtmbajnmaeikceaaGreatDoor
open Go Go.Ax Go.RowKit Go.Proofs
section
variable {n0:Nat} {w0:World} {cs0:List Frame}
theorem uhop {s:AM} {j:List Nat} {room:Nat} {U:Sb} {keep:List Nat} {t:StG} (hh:HopG 5 Q80 GM 200 17 s j U keep [] t) (he:∀X m,Sim Tryz.prog GM n0 w0 cs0 X (t.am room) m->Zo Tryz.prog n0 w0 cs0 4 m):∀X m,Sim Tryz.prog GM n0 w0 cs0 X s m->Zo Tryz.prog n0 w0 cs0 4 m:=λ_ _ h=>HopG.ends Qnz Qo1 Qo4 Qhe hh he h
theorem upart {t:StG} {room:Nat} {op:BinOp} {a b:E} (ha:a.okB t.vs=true) (hb:b.okB t.vs=true)
 (h1:∀X m,Sim Tryz.prog GM n0 w0 cs0 X ({ t with fs:=⟨op,a,b,true⟩::t.fs}.am room) m->Zo Tryz.prog n0 w0 cs0 4 m) (h2:∀X m,Sim Tryz.prog GM n0 w0 cs0 X ({ t with fs:=⟨op,a,b,false⟩::t.fs}.am room) m->Zo Tryz.prog n0 w0 cs0 4 m):∀X m,Sim Tryz.prog GM n0 w0 cs0 X (t.am room) m->Zo Tryz.prog n0 w0 cs0 4 m:=
 λX m h=>(Sim.partA h op a b ha hb).elim (h1 X m) (h2 X m)
theorem ug_s6:∀X m,Sim Tryz.prog GM n0 w0 cs0 X (us6.am 8000) m->Zo Tryz.prog n0 w0 cs0 4 m:=λ_ _ h=>Zo.Ql6 Qnz Qo1 Qo4 Q3n uz6 h
theorem ug_s5:∀X m,Sim Tryz.prog GM n0 w0 cs0 X (us5.am 8000) m->Zo Tryz.prog n0 w0 cs0 4 m:=uhop uh6 ug_s6
theorem ug_s4:∀X m,Sim Tryz.prog GM n0 w0 cs0 X (us4.am 8000) m->Zo Tryz.prog n0 w0 cs0 4 m:=uhop uh5 ug_s5
theorem ug_s3:∀X m,Sim Tryz.prog GM n0 w0 cs0 X (us3.am 8000) m->Zo Tryz.prog n0 w0 cs0 4 m:=uhop uh4 ug_s4
theorem ug_s2:∀X m,Sim Tryz.prog GM n0 w0 cs0 X (us2.am 8000) m->Zo Tryz.prog n0 w0 cs0 4 m:=uhop uh3 ug_s3
theorem ug_s1:∀X m,Sim Tryz.prog GM n0 w0 cs0 X (us1.am 8000) m->Zo Tryz.prog n0 w0 cs0 4 m:=uhop uh2 ug_s2
theorem ug_s0t:∀X m,Sim Tryz.prog GM n0 w0 cs0 X (us0t.am 8000) m->Zo Tryz.prog n0 w0 cs0 4 m:=uhop uh1 ug_s1
theorem ug_s16:∀X m,Sim Tryz.prog GM n0 w0 cs0 X (us16.am 8000) m->Zo Tryz.prog n0 w0 cs0 4 m:=λ_ _ h=>Zo.Ql6 Qnz Qo1 Qo4 Q3n uz16 h
theorem ug_s15:∀X m,Sim Tryz.prog GM n0 w0 cs0 X (us15.am 8000) m->Zo Tryz.prog n0 w0 cs0 4 m:=uhop uh16 ug_s16
theorem ug_s14:∀X m,Sim Tryz.prog GM n0 w0 cs0 X (us14.am 8000) m->Zo Tryz.prog n0 w0 cs0 4 m:=uhop uh15 ug_s15
theorem ug_s13:∀X m,Sim Tryz.prog GM n0 w0 cs0 X (us13.am 8000) m->Zo Tryz.prog n0 w0 cs0 4 m:=uhop uh14 ug_s14
theorem ug_s12:∀X m,Sim Tryz.prog GM n0 w0 cs0 X (us12.am 8000) m->Zo Tryz.prog n0 w0 cs0 4 m:=uhop uh13 ug_s13
theorem ug_s11:∀X m,Sim Tryz.prog GM n0 w0 cs0 X (us11.am 8000) m->Zo Tryz.prog n0 w0 cs0 4 m:=uhop uh12 ug_s12
theorem ug_s10:∀X m,Sim Tryz.prog GM n0 w0 cs0 X (us10.am 8000) m->Zo Tryz.prog n0 w0 cs0 4 m:=uhop uh11 ug_s11
theorem ug_s9:∀X m,Sim Tryz.prog GM n0 w0 cs0 X (us9.am 8000) m->Zo Tryz.prog n0 w0 cs0 4 m:=uhop uh10 ug_s10
theorem ug_s8:∀X m,Sim Tryz.prog GM n0 w0 cs0 X (us8.am 8000) m->Zo Tryz.prog n0 w0 cs0 4 m:=uhop uh9 ug_s9
theorem ug_s7:∀X m,Sim Tryz.prog GM n0 w0 cs0 X (us7.am 8000) m->Zo Tryz.prog n0 w0 cs0 4 m:=uhop uh8 ug_s8
theorem ug_s0f:∀X m,Sim Tryz.prog GM n0 w0 cs0 X (us0f.am 8000) m->Zo Tryz.prog n0 w0 cs0 4 m:=uhop uh7 ug_s7
theorem ug_s0:∀X m,Sim Tryz.prog GM n0 w0 cs0 X (us0.am 8000) m->Zo Tryz.prog n0 w0 cs0 4 m:=upart (t:=us0) (op:= .eql) (a:=(.pk 2 (.var 21))) (b:=(.lit (.ofNat 0))) (by rfl) (by rfl) ug_s0t ug_s0f
theorem ug_s00:∀X m,Sim Tryz.prog GM n0 w0 cs0 X u00 m->Zo Tryz.prog n0 w0 cs0 4 m:=uhop uh0 ug_s0
end
theorem echo_told:Qns Tryz.prog errs 4 [.agg [spI,spI,spI,spI,spI]] (.lit true):=Qic Qnz errs_ng Qhe Qtq λh=>ug_s00 _ _ h
end Go.Proofs.YtmbajnmaeikceaaGreatDoor
namespace Go.Proofs.YtmbajnmaeikceaaGreatDoor
open Go Go.Proofs
theorem star: "*" ++ "errors.errorString" = "*errors.errorString" :=by decide
set_option maxRecDepth 100000 in
theorem rowE (u:TypeId) (h:Tryz.prog.typeName? 3 u=some "*errors.errorString"):u=665:=typeName_ptr_named (nm:= "errors.errorString") (List.all_eq_true.2 λu hu=>row_all u (by rw [List.mem_range,types_n] at hu;exact hu)) (List.all_eq_true.2 λu hu=>name_all u (by rw [List.mem_range,types_n] at hu;exact hu)) (by decide) u (by rw [star];exact h)
end Go.Proofs.YtmbajnmaeikceaaGreatDoor
namespace Go.Proofs.YtmbajnmaeikceaaGreatDoor
open Go Go.RowKit Go.Proofs
abbrev laidSix:List (String×DataW Unit):=[("stagepost/congestion.errSize",Rows.laid_stagepost_congestion_errSize),("stagepost/tcpstate.triples",Rows.laid_stagepost_tcpstate_triples),("stagepost/link.errBroken",Rows.laid_stagepost_link_errBroken),("stagepost/icmp.errShort",Rows.laid_stagepost_icmp_errShort),("stagepost/icmp.errKind",Rows.laid_stagepost_icmp_errKind),("stagepost/dnscache.errInvalid",Rows.laid_stagepost_dnscache_errInvalid),("internal/strconv.uint64pow10",Rows.laid_internal_strconv_uint64pow10),("math/bits.deBruijn32tab",Rows.laid_math_bits_deBruijn32tab),("math/bits.deBruijn64tab",Rows.laid_math_bits_deBruijn64tab),("unicode/utf8.first",Rows.laid_unicode_utf8_first),("unicode/utf8.acceptRanges",Rows.laid_unicode_utf8_acceptRanges),("strconv.ErrSyntax",Rows.laid_strconv_ErrSyntax),("strconv.ErrRange",Rows.laid_strconv_ErrRange)]
theorem laid_six:(Rows.monitorEchoRoundTripRow.laid.filter λx=>x.2.handleName?.isNone)=laidSix:=by kernel_rfl
theorem laid_handle:(Rows.monitorEchoRoundTripRow.laid.filter λx=>x.2.handleName?.isSome)=[("errors.errorType",Rows.laid_errors_errorType)]:=by kernel_rfl
theorem gE0:Tryz.prog.globalNamed "stagepost/link.errBroken" =some 2:=by kernel_rfl
theorem gE1:Tryz.prog.globalNamed "stagepost/icmp.errShort" =some 10:=by kernel_rfl
theorem gE2:Tryz.prog.globalNamed "stagepost/icmp.errKind" =some 11:=by kernel_rfl
theorem gE3:Tryz.prog.globalNamed "stagepost/congestion.errSize" =some 12:=by kernel_rfl
theorem gE4:Tryz.prog.globalNamed "stagepost/dnscache.errInvalid" =some 14:=by kernel_rfl
theorem gT0:(Tryz.prog.globals[2]?).map (·.type)=some 113:=by kernel_rfl
theorem gT1:(Tryz.prog.globals[10]?).map (·.type)=some 113:=by kernel_rfl
theorem gT2:(Tryz.prog.globals[11]?).map (·.type)=some 113:=by kernel_rfl
theorem gT3:(Tryz.prog.globals[12]?).map (·.type)=some 113:=by kernel_rfl
theorem gT4:(Tryz.prog.globals[14]?).map (·.type)=some 113:=by kernel_rfl
theorem cellsES:Tryz.prog.cellsOf 667=1:=by kernel_rfl
theorem cellsStr:Tryz.prog.cellsOf 9=1:=by kernel_rfl
theorem spot_of {W:World} {a:Addr} {v:Value} (h:W.cell? a=some v):a.spot=none/\a.block<W.heap.size:=by
 obtain ⟨b,o,s⟩:=a;unfold World.cell? at h;split at h;rename_i hb;cases s with
 |none=>exact ⟨rfl,(Array.getElem?_eq_some_iff.1 hb).1⟩
 |some x=>simp at h
 cases h
theorem block_of {W:World} {n:String} {g:Nat} {v:Value} (hs:W.ShapedOpen Tryz.prog) (hg:g<Tryz.prog.globals.size) (h0:((begin Tryz.prog (λ_ _=>0) default).world.heap[g]?).bind Obj.row?=some (#[.nilIface],113)) (hn:Tryz.prog.globalNamed n=some g) (hv:W.var? Tryz.prog n=some #[v]):
 ∃c fr el,W.heap[g]?=some (.cells c el fr)/\c.size=1/\c[0]?=some v:=by
 obtain ⟨cs,h1,h2,-⟩:=hs.1 g #[.nilIface] 113 hg h0
 have h3:W.cell? ⟨g,0,none⟩=some v:=by have:=World.var?_cell hn hv 0;simpa using this
 refine ⟨cs,(0,0),_,h1,by simpa using h2,?_⟩;unfold World.cell? at h3;simp only [h1] at h3;simpa using h3
abbrev triN:List Nat:=[0,1,1,0,2,2,1,3,3,1,2,2,1,5,0,2,4,3,2,5,4,2,6,6,3,5,4,3,6,6,4,7,5,4,6,7,5,6,9,6,5,8,7,7,9,8,7,0]
abbrev triRows:List (List Int):=[[0,1,1],[0,2,2],[1,3,3],[1,2,2],[1,5,0],[2,4,3],[2,5,4],[2,6,6],[3,5,4],[3,6,6],[4,7,5],[4,6,7],[5,6,9],[6,5,8],[7,7,9],[8,7,0]]
theorem triN_at (i n:Nat) (h:triN[i]?=some n):∃r j,i=r*3+j/\r<16/\j<3/\∃l,triRows[r]?=some l/\l[j]?=some (n:Int):=by
 have hall:∀i,i<48->∃l,triRows[i/3]?=some l/\l[i%3]?=(triN[i]?).map Int.ofNat:=by decide
 have hi:i<48:=by rcases Nat.lt_or_ge i 48 with h' |h';exact h';rw [List.getElem?_eq_none (by simpa using h')] at h;cases h
 obtain ⟨l,h1,h2⟩:=hall i hi;rw [h] at h2;exact ⟨i/3,i%3,by omega,by omega,by omega,l,h1,h2⟩
theorem triples_of {W:World} (h:Lib.VarReads Tryz.prog W "stagepost/tcpstate.triples" Rows.laid_stagepost_tcpstate_triples):
 ∃c fr el,W.heap[13]?=some (.cells c el fr)/\triN.length<=c.size/\∀(i n:Nat),triN[i]?=some n->c[i]?=some (.int .i64 (n:Int)):=by
 obtain ⟨g,t,cs,fuel,p,hg,hty,hvar,hd⟩:=h;obtain rfl:=Option.some.inj ((show Tryz.prog.globalNamed "stagepost/tcpstate.triples" =some 13 by kernel_rfl).symm.trans hg);obtain rfl:=Option.some.inj ((show (Tryz.prog.globals[13]?).map (·.type)=some 841 by kernel_rfl).symm.trans hty);have c3:Tryz.prog.cellsOf 840=3:=by kernel_rfl
 have c1:Tryz.prog.cellsOf 3=1:=by kernel_rfl
 have hat:∀(i n:Nat),triN[i]?=some n->cs[i]?=some (Value.int .i64 (n:Int)):=λi n hn=>by
  obtain ⟨r,j,rfl,hr,hj,l,hl,hlj⟩:=triN_at i n hn;have e0:(Rows.laid_stagepost_tcpstate_triples:DataW Unit)= .agg (triRows.map (Lib.tabData .i64)):=rfl
  rw [e0] at hd;obtain ⟨fuel',d,q,hdi,he⟩:=Lib.array_elem Tryz.underlying841 hd r hr;rw [List.getElem?_map,hl] at hdi;simp only [Option.map_some,Option.some.injEq] at hdi;subst hdi;rw [c3] at he;have hcs:=Lib.cells_of_tab Tryz.underlying840 Tryz.underlying3 c1 c3 he;have e1:=congrArg (·[j]?) hcs;simp only [List.getElem?_take,List.getElem?_drop,if_pos hj,List.getElem?_map,hlj,Option.map_some] at e1;rw [<-Array.getElem?_toList];exact e1
 have hsz:48<=cs.size:=by have:=hat 47 0 rfl;obtain ⟨h',-⟩:=Array.getElem?_eq_some_iff.1 this;omega
 unfold World.var? at hvar;rw [hg] at hvar;simp only [Option.bind_some] at hvar;split at hvar;rename_i c el fr hh;cases hvar;exact ⟨_,_,_,hh,hsz,hat⟩;cases hvar
theorem laid_first {W:World} (h:laidMetH Tryz.prog Rows.monitorEchoRoundTripRow.laid W) (hs:W.ShapedOpen Tryz.prog):∃A N,Ax.Laid errs A N W:=by
 have h0:=(laidMetH_iff.1 h).1
 rw [laid_six] at h0;have h1:=h0.tail;have h2:=h1.tail;have h3:=h2.tail;have h4:=h3.tail;have h5:=h4.tail;obtain ⟨a0,s0,v0,c0,-,-⟩:=laid_sentinel h2 gE0 gT0 Tryz.underlying113 rowE Tryz.underlying665 Tryz.underlying667 rfl rfl Tryz.underlying9 cellsES cellsStr;obtain ⟨a1,s1,v1,c1,-,-⟩:=laid_sentinel h3 gE1 gT1 Tryz.underlying113 rowE Tryz.underlying665 Tryz.underlying667 rfl rfl Tryz.underlying9 cellsES cellsStr;obtain ⟨a2,s2,v2,c2,-,-⟩:=laid_sentinel h4 gE2 gT2 Tryz.underlying113 rowE Tryz.underlying665 Tryz.underlying667 rfl rfl Tryz.underlying9 cellsES cellsStr;obtain ⟨a3,s3,v3,c3,-,-⟩:=laid_sentinel h0 gE3 gT3 Tryz.underlying113 rowE Tryz.underlying665 Tryz.underlying667 rfl rfl Tryz.underlying9 cellsES cellsStr;obtain ⟨a4,s4,v4,c4,-,-⟩:=laid_sentinel h5 gE4 gT4 Tryz.underlying113 rowE Tryz.underlying665 Tryz.underlying667 rfl rfl Tryz.underlying9 cellsES cellsStr;obtain ⟨ct,frt,elt,t1,t2,t3⟩:=triples_of (Lib.laidMet.reads h0 (n:= "stagepost/tcpstate.triples") (d:=Rows.laid_stagepost_tcpstate_triples) (by simp));obtain ⟨p0,q0⟩:=spot_of c0;obtain ⟨p1,q1⟩:=spot_of c1;obtain ⟨p2,q2⟩:=spot_of c2;obtain ⟨p3,q3⟩:=spot_of c3;obtain ⟨p4,q4⟩:=spot_of c4;obtain ⟨o8,-,h8,-,-⟩:=hs.2 15 (of_decide_eq_true (by kernel_rfl)) (of_decide_eq_true (by kernel_rfl));have hsz:16<=W.heap.size:=(Array.getElem?_eq_some_iff.1 h8).1
 refine ⟨λb=>match b with|16=>a0|17=>a1|18=>a2|19=>a3|_=>a4,λb=>if b=13 then ct.size else 1,⟨λe he=>?_,λb h1 h2=>?_,hsz,λq hq=>?_⟩⟩;simp only [errs,List.mem_cons,List.not_mem_nil,or_false] at he;rcases he with rfl|rfl|rfl|rfl|rfl;exact ⟨by decide,by decide,by decide,Nat.one_pos,p0,block_of hs (of_decide_eq_true (by kernel_rfl)) (by kernel_rfl) gE0 v0⟩;exact ⟨by decide,by decide,by decide,Nat.one_pos,p1,block_of hs (of_decide_eq_true (by kernel_rfl)) (by kernel_rfl) gE1 v1⟩;exact ⟨by decide,by decide,by decide,Nat.one_pos,p2,block_of hs (of_decide_eq_true (by kernel_rfl)) (by kernel_rfl) gE2 v2⟩;exact ⟨by decide,by decide,by decide,Nat.one_pos,p3,block_of hs (of_decide_eq_true (by kernel_rfl)) (by kernel_rfl) gE3 v3⟩;exact ⟨by decide,by decide,by decide,Nat.one_pos,p4,block_of hs (of_decide_eq_true (by kernel_rfl)) (by kernel_rfl) gE4 v4⟩;have h1' :16<=b:=h1;have h2' :b<21:=h2;have:b=16\/b=17\/b=18\/b=19\/b=20:=by omega
 rcases this with rfl|rfl|rfl|rfl|rfl;exact q0;exact q1;exact q2;exact q3;exact q4;simp only [errs,List.mem_cons,List.not_mem_nil,or_false] at hq;subst hq;exact ⟨by decide,ct,frt,elt,t1,rfl,t2,t3⟩
end Go.Proofs.YtmbajnmaeikceaaGreatDoor
namespace Go.Proofs.YtmbajnmaeikceaaGreatDoor
open Go Go.RowKit Go.Proofs
def lay (g:Nat) (cs:Array Value) (h:Array Obj):Array Obj:=h.modify g λ
 | .cells _ t fr=> .cells cs t fr
 |o=>o
def numsOf {H:Type}:DataW H->List Value
 | .agg l=>l.map λ| .lit (.int k n)=>Value.int k n|_=>undef
 |_=>[]
def pairsOf {H:Type}:DataW H->List Value
 | .agg l=>(l.map numsOf).flatten
 |_=>[]
def textOf {H:Type}:DataW H->ByteArray
 | .iface _ (.ptr (.agg [.lit (.string bs)]))=>⟨bs.toArray⟩
 |_=>⟨#[]⟩
noncomputable def low:Nat:=(World.holding Tryz.prog default ⟨#[],#[],[]⟩).heap.size
noncomputable def laidHeap (h:Array Obj):Array Obj:=
 lay 2 #[.iface 665 (.pointer (some ⟨low,0,none⟩))]
 (lay 10 #[.iface 665 (.pointer (some ⟨low+1,0,none⟩))]
 (lay 11 #[.iface 665 (.pointer (some ⟨low+2,0,none⟩))]
 (lay 12 #[.iface 665 (.pointer (some ⟨low+3,0,none⟩))]
 (lay 14 #[.iface 665 (.pointer (some ⟨low+4,0,none⟩))]
 (lay 13 (pairsOf (H:=Unit) Rows.laid_stagepost_tcpstate_triples).toArray
 (lay 1 (numsOf (H:=Unit) Rows.laid_internal_strconv_uint64pow10).toArray
 (lay 6 (numsOf (H:=Unit) Rows.laid_math_bits_deBruijn32tab).toArray
 (lay 7 (numsOf (H:=Unit) Rows.laid_math_bits_deBruijn64tab).toArray
 (lay 8 (numsOf Rows.laid_unicode_utf8_first).toArray
 (lay 9 (pairsOf (H:=Unit) Rows.laid_unicode_utf8_acceptRanges).toArray
 (lay 3 #[.iface 665 (.pointer (some ⟨low+5,0,none⟩))]
 (lay 4 #[.iface 665 (.pointer (some ⟨low+6,0,none⟩))]
 (lay 5 #[.iface 674 (.agg #[typeHandle Tryz.prog 113])] h)))))))))))))
noncomputable def laidWorld (os:Os):World:=
 let w0:=World.holding Tryz.prog os ⟨#[.cells #[.string (textOf (H:=Unit) Rows.laid_stagepost_link_errBroken)] 667, .cells #[.string (textOf (H:=Unit) Rows.laid_stagepost_icmp_errShort)] 667, .cells #[.string (textOf (H:=Unit) Rows.laid_stagepost_icmp_errKind)] 667, .cells #[.string (textOf (H:=Unit) Rows.laid_stagepost_congestion_errSize)] 667, .cells #[.string (textOf (H:=Unit) Rows.laid_stagepost_dnscache_errInvalid)] 667, .cells #[.string (textOf (H:=Unit) Rows.laid_strconv_ErrSyntax)] 667, .cells #[.string (textOf (H:=Unit) Rows.laid_strconv_ErrRange)] 667],#[],[]⟩
 { w0 with heap:=laidHeap w0.heap}
set_option maxRecDepth 100000 in
theorem lay_handle (os:Os) (args:Array Value):([("errors.errorType",Rows.laid_errors_errorType)]:List (String×DataW Unit)).all (handleAtB Tryz.prog ((laidWorld os).forCall (λ_ _=>0) ⟨#[],args,[]⟩).memory)=true:=by kernel_rfl
set_option maxRecDepth 100000 in
theorem lay_six (os:Os) (args:Array Value):laidMet Tryz.prog laidSix ((laidWorld os).forCall (λ_ _=>0) ⟨#[],args,[]⟩).memory:=laidMet_of_run' 8 (by kernel_rfl) (by kernel_rfl)
theorem laid_met (os:Os) (args:Array Value):laidMetH Tryz.prog Rows.monitorEchoRoundTripRow.laid ((laidWorld os).forCall (λ_ _=>0) ⟨#[],args,[]⟩).memory:=by refine laidMetH_iff.2 ⟨?_,?_⟩;rw [laid_six];exact lay_six os args;rw [laid_handle];exact handlesMet_of_B (lay_handle os args)
end Go.Proofs.YtmbajnmaeikceaaGreatDoor
namespace Go.Proofs.YtmbajnmaeikceaaGreatDoor
open Go
theorem tie' :Tryz.prog.laidByTextLater laidAll Qtv true:=Program.laidByTextLater_by_run_h 400 8 Z2d Z2c Z2b Z2a Z29 Z28 Z24 Z27 Z26 Z25
abbrev laidEvery:List (String×DataW Unit):=[("errors.errorType",Rows.laid_errors_errorType),("stagepost/congestion.errSize",Rows.laid_stagepost_congestion_errSize),("stagepost/tcpstate.triples",Rows.laid_stagepost_tcpstate_triples),("stagepost/link.errBroken",Rows.laid_stagepost_link_errBroken),("stagepost/icmp.errShort",Rows.laid_stagepost_icmp_errShort),("stagepost/icmp.errKind",Rows.laid_stagepost_icmp_errKind),("stagepost/dnscache.errInvalid",Rows.laid_stagepost_dnscache_errInvalid),("internal/strconv.uint64pow10",Rows.laid_internal_strconv_uint64pow10),("math/bits.deBruijn32tab",Rows.laid_math_bits_deBruijn32tab),("math/bits.deBruijn64tab",Rows.laid_math_bits_deBruijn64tab),("unicode/utf8.first",Rows.laid_unicode_utf8_first),("unicode/utf8.acceptRanges",Rows.laid_unicode_utf8_acceptRanges),("strconv.ErrSyntax",Rows.laid_strconv_ErrSyntax),("strconv.ErrRange",Rows.laid_strconv_ErrRange)]
abbrev laidKindsEvery:List LaidKind:=[.handle, .sentinel, .data, .sentinel, .sentinel, .sentinel, .sentinel, .data, .data, .data, .pinned, .data, .sentinel, .sentinel]
theorem pin_first:Tryz.pinned.checked.prog.pinnedFits "unicode/utf8.first" =true:=by kernel_rfl
theorem fits_all:Tryz.pinned.checked.prog.listedFits laidEvery=true:=by unfold Program.listedFits;rw [show Tryz.pinned.checked.prog.headLifts.contains "ownunsafe" =false from Qtx];kernel_rfl
theorem row_tie' :Rows.monitorEchoRoundTripRow.laidByTextAt .later Tryz.pinned laidKindsEvery true:=OpenClaim.laidByTextAt_pinned rfl rfl tie' rfl rfl rfl rfl (λy hy _e=>by simp only [Rows.monitorEchoRoundTripRow,List.zip_cons_cons,List.zip_nil_right,List.mem_cons,List.mem_nil_iff,or_false] at hy;rcases hy with rfl|rfl|rfl|rfl|rfl|rfl|rfl|rfl|rfl|rfl|rfl|rfl|rfl|rfl;cases _e;cases _e;cases _e;cases _e;cases _e;cases _e;cases _e;cases _e;cases _e;cases _e;exact ⟨pin_first,by kernel_rfl⟩;cases _e;cases _e;cases _e) fits_all
end Go.Proofs.YtmbajnmaeikceaaGreatDoor
namespace Go.Proofs.YtmbajnmaeikceaaGreatDoor
open Go.ChangeShapes Go.WideShapes Go.ChangeAt Go.RowKit Go.Joins
theorem own:ownKnob Tryz.prog.godebug=none:=by kernel_rfl
section
variable {H:Type} {enc:TypeId×Value->H} {P:Program}
theorem post_of_below {f:Func} {s:ChangeSpec} {apart fresh handsOn again:Bool} {W W' :World} {args:Array Value} {v:Value} {ds gs:List (DataW H)} {before pa pv:List MemPlace}
 (hW:DataW.Whole enc P f.params.toList s.vars apart W args.toList ds gs before)
 (hres:∀(b:Nat) (sp:Nat->Bool) (hd:Bool),DataW.TrodAll enc P W' b sp hd f.resultTypes.toList (v.resultList f.resultTypes.size) (s.fn H (ds++gs)).results [])
 (hargs:∀sp:Nat->Bool,(∀p∈before,sp p.block=true)->DataW.TrodAll enc P W' 0 sp true f.params.toList args.toList (s.fn H (ds++gs)).args pa)
 (hvars:∀sp:Nat->Bool,(∀p∈before,sp p.block=true)->DataW.TrodVars enc P W' sp s.vars (s.fn H (ds++gs)).vars pv)
 (hps:before=pa++pv) (hb:Below W.heap.size W W')
 (hok:∀(j:Nat) (t:TypeId) (r:Value),f.resultTypes[j]?=some t->(v.resultList f.resultTypes.size)[j]?=some r->Value.okWide P W' .any 0 t r):
 s.post enc P f apart fresh handsOn again W args v W' :=by
 have hlt:∀p∈before,p.block<W.heap.size:=λp hp=>hW.lt p hp
 have hold:∀p∈before,(λb=>decide (b<W.heap.size)) p.block=true:=λp hp=>by simpa using hlt p hp
 refine ⟨ds,gs,before,[],pa,pv,hW,hres _ _ _,hargs _ hold,hvars _ hold,World.keptBut_mono (λp hp=>⟨hp,?_⟩) (hb.frame (. ∈before)),λ_=>?_⟩;rw [hps,List.mem_append] at hp;exact Or.inr hp;obtain ⟨_,_,_,_,_,hz,hn⟩:=hW;refine ⟨hok,_,_,([]++pa)++pv,⟨[]++pa,pv,trodAll_append (hargs _ (λ_ _=>rfl)) (hres _ _ _),hvars _ (λ_ _=>rfl),rfl,?_,?_⟩,?_⟩;intro b off hp;have hin:MemPlace.cell b off∈before:=by rw [hps];simpa using hp
 rw [hb.frozen (hlt _ hin)];exact hz b off hin;intro ha;have:=hn ha;rw [hps] at this;simpa using this;intro p hp _;rw [hps];simpa using hp
end
section
variable {H:Type} {enc:TypeId×Value->H} {W:World}
theorem stays {t:TypeId} {W' :World} {sp' :Nat->Bool} {v:Value} {d:DataW H} {ps before:List MemPlace} (hr:Tryz.prog.readableRec t=true) (hrow:t<Tryz.prog.types.size) (h:DataW.Trod enc Tryz.prog W 0 (λ_=>true) true t v d ps) (hb:Below W.heap.size W W') (hlt:∀x∈ps,x.block<W.heap.size) (hin:∀x∈ps,x∈before) (hs:∀p∈before,sp' p.block=true):DataW.Trod enc Tryz.prog W' 0 sp' true t v d ps:=WideElems.Trod_stays Qpu hr hrow h (λx hx=>hb.same (hlt x hx)) (λx hx=>hs x (hin x hx))
end
theorem raw_cells:Tryz.prog.cellTypes Tryz.prog.depth 23=some [3,3,3,3,3]:=by kernel_rfl
theorem raw_size:Tryz.prog.cellsOf 23=5:=by kernel_rfl
section
variable {v:Value} {base:Nat} {W:World}
set_option maxRecDepth 100000 in
theorem raw_has (h:Value.okWide Tryz.prog W .any base 23 v):rawS.has v:=Ax.Qk8 h Tryz.underlying23 raw_cells raw_size (by kernel_rfl)
set_option maxRecDepth 100000 in
theorem int_has (h:Value.okWide Tryz.prog W .any base 3 v):Ax.spI.has v:=by
 have h' :Cell.okWide Tryz.prog W .any base 3 v:=by unfold Value.okWide at h;rw [Tryz.underlying3] at h;exact h
 exact Ax.Q8q h' (show Ax.spTy Tryz.prog 3=some Ax.spI by kernel_rfl)
end
namespace monitorEchoRoundTrip
open Go.ChangeMaps (open_string shut_string)
set_option maxRecDepth 100000 in
set_option maxHeartbeats 1000000 in
theorem contract (H:Type) (enc:TypeId×Value->H) (W:World) (base:Nat) (args:Array Value) (ds gs:List (DataW H)) (before:List MemPlace)
 (hval:∀(j:Nat) t v,Tryz.f4.params[j]?=some t->args[j]?=some v->Value.okWide Tryz.prog W .any base t v)
 (hW:DataW.Whole enc Tryz.prog Tryz.f4.params.toList Rows.monitorEchoRoundTripSpec.vars false W args.toList ds gs before) (hL:laidMetH Tryz.prog Rows.monitorEchoRoundTripRow.laid W) (hS:W.ShapedOpen Tryz.prog):
 Calls Tryz.prog 4 args W λe W' =>∃v,e= .returned v/\Rows.monitorEchoRoundTripSpec.post enc Tryz.prog Tryz.f4 false true false false W args v W' :=by
 obtain ⟨A,N0,hok⟩:=laid_first hL hS;have hW' :=hW;obtain ⟨p,q,hA0,hV,rfl,hfz,hnd⟩:=hW;have hA:DataW.TrodAll enc Tryz.prog W 0 (λ_=>true) true Tryz.f4.params.toList args.toList ds p:=hA0;rw [Tryz.params4] at hA hval;obtain ⟨v0,vs0,d0,ds0,p0,q0,hargs,rfl,rfl,h0,r0⟩:=trodAll_cons hA;obtain ⟨rfl,rfl,rfl⟩:=trodAll_nil r0;obtain rfl:args=#[v0]:=by cases args;simp_all
 obtain ⟨rfl,rfl⟩:=trodVars_none hV;have hlt:=hW'.lt;have g0:=raw_has (hval 0 23 v0 rfl rfl);clear hA0;refine (echo_told W A _ #[v0] hok (by simp only [Ax.Sp.Q7q];exact ⟨v0,[],rfl,g0,rfl⟩)).mono λe W' ⟨u,he,hu,hb⟩=>?_
 simp only [Ax.Sp.has] at hu;subst hu;subst he;exact ⟨_,rfl,post_of_below (pa:=(p0++[])) (pv:=[]) hW' (λ_ _ _=>trodAll_cons_mk (shut_bool Tryz.underlying4 _) trodAll_mk0) (λ_ hsp=>(trodAll_cons_mk (stays (before:=_) (by kernel_rfl) (of_decide_eq_true (by kernel_rfl)) h0 hb (λx hx=>hlt x (by simp [hx])) (λx hx=>by simp [hx]) hsp) trodAll_mk0)) (λ_ _=>rfl) (by simp) hb (ok_one (by kernel_rfl) rfl (okWide_bool_mk Tryz.underlying4 _))⟩
abbrev zeroArgs:Array Value:=#[.agg #[.int .i64 0, .int .i64 0, .int .i64 0, .int .i64 0, .int .i64 0]]
abbrev zeroData {H:Type}:List (DataW H):=[.agg [.lit (.int .i64 0), .lit (.int .i64 0), .lit (.int .i64 0), .lit (.int .i64 0), .lit (.int .i64 0)]]
set_option maxRecDepth 100000 in
theorem reads (os:Os) {H:Type} (enc:TypeId×Value->H):∃places,DataW.whole enc Tryz.prog ((laidWorld os).forCall (λ_ _=>0) ⟨#[],zeroArgs,[]⟩).memory Tryz.f4.params.toList Rows.monitorEchoRoundTripSpec.vars false zeroArgs.toList 8=some (zeroData,[],places):=⟨[],by kernel_rfl⟩
set_option maxRecDepth 100000 in
theorem lifted (os:Os) (started:os.Started) (H:Type) (enc:TypeId×Value->H) (F:Stop.Interp):
 ReturnsInHanded {} Tryz.checked os 4 .any ((OpenSpec.ofChange Rows.monitorEchoRoundTripSpec).preRow enc Tryz.prog Tryz.f4 Rows.monitorEchoRoundTripRow.domain false Rows.monitorEchoRoundTripRow.laid) (((OpenSpec.ofChange Rows.monitorEchoRoundTripSpec).at F).post enc Tryz.prog Tryz.f4 false true false false):=by
 obtain ⟨places,hx⟩:=reads os enc;refine returnsInHanded_of_row (C:=Tryz.checked) (s:=OpenSpec.ofChange Rows.monitorEchoRoundTripSpec) own started Qrv Tryz.func4
  (witness_row_at (enc:=enc) (C:=Tryz.checked) false (laidWorld os) zeroArgs rfl (by kernel_rfl) (by kernel_rfl) (by kernel_rfl)
   (OpenSpec.preRow_of_cond 8 hx (by kernel_rfl) (λk hk=>by cases hk) (by kernel_rfl) (laid_met os _))) ?_
 intro W base args ds gs before hval hW _ _ _ hL hS _;exact contract H enc W base args ds gs before hval hW hL hS
set_option maxRecDepth 100000 in
theorem said:Rows.MonitorEchoRoundTripSaid:=
 OpenClaim.holds_of_cond 4 Tryz.f4 rfl rfl rfl rfl rfl rfl rfl ⟨rfl,rfl,rfl,rfl,rfl⟩ rfl rfl rfl rfl rfl Qqb Tryz.func4 joined
  (of_decide_eq_true (by kernel_rfl)) (by unfold Func.isWrapper;first|(rw [if_pos (by decide+kernel)];kernel_rfl)|(rw [if_neg (by decide+kernel)];exact ⟨rfl,rfl⟩))
  (λos started H enc _ F=>by rw [OpenClaim.pre_eq_preRow];exact lifted os started H enc F)
set_option maxRecDepth 100000 in
theorem plain (f:FuncId) (fn:Func) (hf:Tryz.pinned.checked.prog.funcNamed "stagepost/stagepostlaw28.MonitorEchoRoundTrip" =some f) (hfn:Tryz.pinned.checked.prog.funcs[f]?=some fn):
 true=Tryz.pinned.checked.prog.looks []/\∀(j:Nat) t,fn.params[j]?=some t->Tryz.pinned.checked.prog.wantsStandIn t=false:=by
 obtain rfl:f=4:=Option.some.inj (Qqb.symm.trans hf) |>.symm;obtain rfl:fn=Tryz.f4:=(Option.some.inj (Tryz.func4.symm.trans hfn)).symm
 refine ⟨Qrt,λj t ht=>?_⟩;rw [Tryz.params4] at ht;have hm:=Array.mem_of_getElem? ht;simp only [List.mem_toArray,List.mem_cons,List.not_mem_nil,or_false] at hm;rcases hm with rfl;exact (show Tryz.prog.wantsStandIn 23=false by kernel_rfl)
set_option maxRecDepth 100000 in
theorem card:Rows.MonitorEchoRoundTripCardSaid:=Claim7.holds_tied_plain_at .later [] _ _ _ _ said (λ_ h=>by cases h) Qr5 (λ_ h=>by cases h) row_tie' rfl ⟨rfl,rfl⟩ Qrb rfl plain Qrz
end monitorEchoRoundTrip
end Go.Proofs.YtmbajnmaeikceaaGreatDoor
