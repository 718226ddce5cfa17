/-
 One type alone is called as the errors' type is. Conditions: none.
-/
import Derived.Test.YtmfeholdlgfpbaaGreatDoorEH0
import Derived.Test.YtmfeholdlgfpbaaGreatDoorEGa
import Derived.Test.YtmfeholdlgfpbaaGreatDoorRows
import Derived.Stop.LaidErr
import Derived.LaidSub
import Derived.Shelf.Vars
import Derived.ProofKit
import Derived.Lib.LaidU8
import Derived.LaidLaws
import Derived.LaidHandle
import Derived.Lib.LaidTab
import Derived.Test.YtmfeholdlgfpbaaGreatDoorET1
import Derived.Test.YtmfeholdlgfpbaaGreatDoorET2
import Derived.Test.YtmfeholdlgfpbaaGreatDoorET3
import Derived.Test.YtmfeholdlgfpbaaGreatDoorET4
import Derived.Test.YtmfeholdlgfpbaaGreatDoorET5
import Derived.Test.YtmfeholdlgfpbaaGreatDoorET6
import Derived.LaidByTextLater
import Derived.SevenTiedAt
import Derived.Test.YtmfeholdlgfpbaaGreatDoorEDb
import Derived.Lib.SmallJoins
import Derived.OpenShut
import Derived.Deep.DeepHandedRow
import Derived.Deep.Slices
import Derived.Deep.Fields
import Derived.ChangeSame
import Derived.WideKeyArgs
import Derived.Test.YtmfeholdlgfpbaaGreatDoorEAxE
import Derived.Test.YtmfeholdlgfpbaaGreatDoorCards
import Derived.Test.YtmfeholdlgfpbaaGreatDoorEJ6
import Derived.SliceStrings
import Derived.Carry
namespace Go.Proofs.YtmfeholdlgfpbaaGreatDoor
open Go Go.Proofs
theorem star: "*" ++ "errors.errorString" = "*errors.errorString" :=by decide
set_option maxRecDepth 100000 in
theorem rowE (u:TypeId) (h:Tryz.prog.typeName? 3 u=some "*errors.errorString"):u=752:=typeName_ptr_named (nm:= "errors.errorString") (List.all_eq_true.2 λu hu=>row_all u (by rw [List.mem_range,types_n] at hu;exact hu)) (List.all_eq_true.2 λu hu=>name_all u (by rw [List.mem_range,types_n] at hu;exact hu)) (by decide) u (by rw [star];exact h)
end Go.Proofs.YtmfeholdlgfpbaaGreatDoor
namespace Go.Proofs.YtmfeholdlgfpbaaGreatDoor
open Go Go.RowKit Go.Proofs
abbrev laidSix:List (String×DataW Unit):=[("stagepost/link.errBroken",Rows.laid_stagepost_link_errBroken),("stagepost/icmp.errShort",Rows.laid_stagepost_icmp_errShort),("stagepost/icmp.errKind",Rows.laid_stagepost_icmp_errKind),("stagepost/congestion.errSize",Rows.laid_stagepost_congestion_errSize),("stagepost/tcpstate.triples",Rows.laid_stagepost_tcpstate_triples),("stagepost/dnscache.errInvalid",Rows.laid_stagepost_dnscache_errInvalid)]
theorem laid_six:(Rows.hostDefaultDenyRow.laid.filter λx=>x.2.handleName?.isNone)=laidSix:=by kernel_rfl
theorem laid_handle:(Rows.hostDefaultDenyRow.laid.filter λx=>x.2.handleName?.isSome)=[("errors.errorType",Rows.laid_errors_errorType)]:=by kernel_rfl
theorem gE0:Tryz.prog.globalNamed "stagepost/link.errBroken" =some 0:=by kernel_rfl
theorem gE1:Tryz.prog.globalNamed "stagepost/icmp.errShort" =some 2:=by kernel_rfl
theorem gE2:Tryz.prog.globalNamed "stagepost/icmp.errKind" =some 3:=by kernel_rfl
theorem gE3:Tryz.prog.globalNamed "stagepost/congestion.errSize" =some 4:=by kernel_rfl
theorem gE4:Tryz.prog.globalNamed "stagepost/dnscache.errInvalid" =some 5:=by kernel_rfl
theorem gT0:(Tryz.prog.globals[0]?).map (·.type)=some 215:=by kernel_rfl
theorem gT1:(Tryz.prog.globals[2]?).map (·.type)=some 215:=by kernel_rfl
theorem gT2:(Tryz.prog.globals[3]?).map (·.type)=some 215:=by kernel_rfl
theorem gT3:(Tryz.prog.globals[4]?).map (·.type)=some 215:=by kernel_rfl
theorem gT4:(Tryz.prog.globals[5]?).map (·.type)=some 215:=by kernel_rfl
theorem cellsES:Tryz.prog.cellsOf 770=1:=by kernel_rfl
theorem cellsStr:Tryz.prog.cellsOf 9=1:=by kernel_rfl
theorem spot_of {W:World} {a:Addr} {v:Value} (h:W.cell? a=some v):a.spot=none/\a.block<W.heap.size:=by
 obtain ⟨b,o,s⟩:=a;unfold World.cell? at h;split at h;rename_i hb;cases s with
 |none=>exact ⟨rfl,(Array.getElem?_eq_some_iff.1 hb).1⟩
 |some x=>simp at h
 cases h
theorem block_of {W:World} {n:String} {g:Nat} {v:Value} (hs:W.ShapedOpen Tryz.prog) (hg:g<Tryz.prog.globals.size) (h0:((begin Tryz.prog (λ_ _=>0) default).world.heap[g]?).bind Obj.row?=some (#[.nilIface],215)) (hn:Tryz.prog.globalNamed n=some g) (hv:W.var? Tryz.prog n=some #[v]):
 ∃c fr el,W.heap[g]?=some (.cells c el fr)/\c.size=1/\c[0]?=some v:=by
 obtain ⟨cs,h1,h2,-⟩:=hs.1 g #[.nilIface] 215 hg h0
 have h3:W.cell? ⟨g,0,none⟩=some v:=by have:=World.var?_cell hn hv 0;simpa using this
 refine ⟨cs,(0,0),_,h1,by simpa using h2,?_⟩;unfold World.cell? at h3;simp only [h1] at h3;simpa using h3
abbrev triN:List Nat:=[0,1,1,0,2,2,1,3,3,1,2,2,1,5,0,2,4,3,2,5,4,2,6,6,3,5,4,3,6,6,4,7,5,4,6,7,5,6,9,6,5,8,7,7,9,8,7,0]
abbrev triRows:List (List Int):=[[0,1,1],[0,2,2],[1,3,3],[1,2,2],[1,5,0],[2,4,3],[2,5,4],[2,6,6],[3,5,4],[3,6,6],[4,7,5],[4,6,7],[5,6,9],[6,5,8],[7,7,9],[8,7,0]]
theorem triN_at (i n:Nat) (h:triN[i]?=some n):∃r j,i=r*3+j/\r<16/\j<3/\∃l,triRows[r]?=some l/\l[j]?=some (n:Int):=by
 have hall:∀i,i<48->∃l,triRows[i/3]?=some l/\l[i%3]?=(triN[i]?).map Int.ofNat:=by decide
 have hi:i<48:=by rcases Nat.lt_or_ge i 48 with h' |h';exact h';rw [List.getElem?_eq_none (by simpa using h')] at h;cases h
 obtain ⟨l,h1,h2⟩:=hall i hi;rw [h] at h2;exact ⟨i/3,i%3,by omega,by omega,by omega,l,h1,h2⟩
theorem triples_of {W:World} (h:Lib.VarReads Tryz.prog W "stagepost/tcpstate.triples" Rows.laid_stagepost_tcpstate_triples):
 ∃c fr el,W.heap[6]?=some (.cells c el fr)/\triN.length<=c.size/\∀(i n:Nat),triN[i]?=some n->c[i]?=some (.int .i64 (n:Int)):=by
 obtain ⟨g,t,cs,fuel,p,hg,hty,hvar,hd⟩:=h;obtain rfl:=Option.some.inj ((show Tryz.prog.globalNamed "stagepost/tcpstate.triples" =some 6 by kernel_rfl).symm.trans hg);obtain rfl:=Option.some.inj ((show (Tryz.prog.globals[6]?).map (·.type)=some 698 by kernel_rfl).symm.trans hty);have c3:Tryz.prog.cellsOf 697=3:=by kernel_rfl
 have c1:Tryz.prog.cellsOf 3=1:=by kernel_rfl
 have hat:∀(i n:Nat),triN[i]?=some n->cs[i]?=some (Value.int .i64 (n:Int)):=λi n hn=>by
  obtain ⟨r,j,rfl,hr,hj,l,hl,hlj⟩:=triN_at i n hn;have e0:(Rows.laid_stagepost_tcpstate_triples:DataW Unit)= .agg (triRows.map (Lib.tabData .i64)):=rfl
  rw [e0] at hd;obtain ⟨fuel',d,q,hdi,he⟩:=Lib.array_elem Tryz.underlying698 hd r hr;rw [List.getElem?_map,hl] at hdi;simp only [Option.map_some,Option.some.injEq] at hdi;subst hdi;rw [c3] at he;have hcs:=Lib.cells_of_tab Tryz.underlying697 Tryz.underlying3 c1 c3 he;have e1:=congrArg (·[j]?) hcs;simp only [List.getElem?_take,List.getElem?_drop,if_pos hj,List.getElem?_map,hlj,Option.map_some] at e1;rw [<-Array.getElem?_toList];exact e1
 have hsz:48<=cs.size:=by have:=hat 47 0 rfl;obtain ⟨h',-⟩:=Array.getElem?_eq_some_iff.1 this;omega
 unfold World.var? at hvar;rw [hg] at hvar;simp only [Option.bind_some] at hvar;split at hvar;rename_i c el fr hh;cases hvar;exact ⟨_,_,_,hh,hsz,hat⟩;cases hvar
theorem type_of {W:World} (h:handlesMet Tryz.prog (Rows.hostDefaultDenyRow.laid.filter λx=>x.2.handleName?.isSome) W) (hs:W.ShapedOpen Tryz.prog):
 ∃c fr el,W.heap[1]?=some (.cells c el fr)/\c.size=1/\c[0]?=some (.iface 460 (.agg #[.pointer (some ⟨8,215,none⟩)])):=by
 rw [laid_handle] at h;obtain ⟨name,u,ty,e1,e2,e3,e4,e5⟩:=(show ∃name u ty,Rows.laid_errors_errorType.handleName?=some name/\(Tryz.prog.cutTypes.find? (·.1== "internal/reflectlite.rtype")).map (·.2)=some u/\ty<Tryz.prog.types.size/\Tryz.prog.rowNamed ty name=true/\
  W.var? Tryz.prog "errors.errorType" =some #[.iface u (.agg #[typeHandle Tryz.prog ty])] from h ("errors.errorType",Rows.laid_errors_errorType) (by simp))
 have hn:name=[101,114,114,111,114]:=(Option.some.inj ((show (Rows.laid_errors_errorType:DataW Unit).handleName?=some [101,114,114,111,114] from rfl).symm.trans e1)).symm
 subst hn;have hu:u=460:=(Option.some.inj ((show (Tryz.prog.cutTypes.find? (·.1== "internal/reflectlite.rtype")).map (·.2)=some 460 by kernel_rfl).symm.trans e2)).symm
 subst hu;have hall:(List.range Tryz.prog.types.size).all (λt=>!(Tryz.prog.rowNamed t [101,114,114,111,114])||t==215)=true:=by kernel_rfl
 have ht:=List.all_eq_true.1 hall ty (by simpa using e3);rw [e4] at ht;have hty:ty=215:=by simpa using ht
 subst hty;have hty' :typeHandle Tryz.prog 215= .pointer (some ⟨8,215,none⟩):=by
  have:Tryz.prog.globals.size=8:=by kernel_rfl
  unfold typeHandle;rw [this]
 rw [hty'] at e5;obtain ⟨cs,h1,h2,-⟩:=hs.1 1 #[.nilIface] 327 (of_decide_eq_true (by kernel_rfl)) (by kernel_rfl)
 have hg:Tryz.prog.globalNamed "errors.errorType" =some 1:=by kernel_rfl
 have h3:=World.var?_cell hg e5 0;have h3' :W.cell? ⟨1,0,none⟩=some (.iface 460 (.agg #[.pointer (some ⟨8,215,none⟩)])):=by simpa using h3
 refine ⟨cs,(0,0),_,h1,by simpa using h2,?_⟩;unfold World.cell? at h3';simp only [h1] at h3';simpa using h3'
theorem laid_first {W:World} (h:laidMetH Tryz.prog Rows.hostDefaultDenyRow.laid W) (hs:W.ShapedOpen Tryz.prog):∃A N,Ax.Laid errs A N W:=by
 have h0:=(laidMetH_iff.1 h).1
 rw [laid_six] at h0;have h1:=h0.tail;have h2:=h1.tail;have h3:=h2.tail;have h4:=h3.tail;have h5:=h4.tail;obtain ⟨a0,s0,v0,c0,-,-⟩:=laid_sentinel h0 gE0 gT0 Tryz.underlying215 rowE Tryz.underlying752 Tryz.underlying770 rfl rfl Tryz.underlying9 cellsES cellsStr;obtain ⟨a1,s1,v1,c1,-,-⟩:=laid_sentinel h1 gE1 gT1 Tryz.underlying215 rowE Tryz.underlying752 Tryz.underlying770 rfl rfl Tryz.underlying9 cellsES cellsStr;obtain ⟨a2,s2,v2,c2,-,-⟩:=laid_sentinel h2 gE2 gT2 Tryz.underlying215 rowE Tryz.underlying752 Tryz.underlying770 rfl rfl Tryz.underlying9 cellsES cellsStr;obtain ⟨a3,s3,v3,c3,-,-⟩:=laid_sentinel h3 gE3 gT3 Tryz.underlying215 rowE Tryz.underlying752 Tryz.underlying770 rfl rfl Tryz.underlying9 cellsES cellsStr;obtain ⟨a4,s4,v4,c4,-,-⟩:=laid_sentinel h5 gE4 gT4 Tryz.underlying215 rowE Tryz.underlying752 Tryz.underlying770 rfl rfl Tryz.underlying9 cellsES cellsStr;obtain ⟨ct,frt,elt,t1,t2,t3⟩:=triples_of (Lib.laidMet.reads h0 (n:= "stagepost/tcpstate.triples") (d:=Rows.laid_stagepost_tcpstate_triples) (by simp));obtain ⟨p0,q0⟩:=spot_of c0;obtain ⟨p1,q1⟩:=spot_of c1;obtain ⟨p2,q2⟩:=spot_of c2;obtain ⟨p3,q3⟩:=spot_of c3;obtain ⟨p4,q4⟩:=spot_of c4;obtain ⟨o8,-,h8,-,-⟩:=hs.2 8 (of_decide_eq_true (by kernel_rfl)) (of_decide_eq_true (by kernel_rfl));have hsz:9<=W.heap.size:=(Array.getElem?_eq_some_iff.1 h8).1
 obtain ⟨ch,frh,elh,g1,g2,g3⟩:=type_of (laidMetH_iff.1 h).2 hs
 refine ⟨λb=>match b with|9=>a0|10=>a1|11=>a2|12=>a3|_=>a4,λb=>if b=6 then ct.size else 1,⟨λe he=>?_,λb h1 h2=>?_,hsz,λq hq=>?_⟩⟩;simp only [errs,List.mem_cons,List.not_mem_nil,or_false] at he;rcases he with rfl|rfl|rfl|rfl|rfl;exact ⟨by decide,by decide,by decide,Nat.one_pos,p0,block_of hs (of_decide_eq_true (by kernel_rfl)) (by kernel_rfl) gE0 v0⟩;exact ⟨by decide,by decide,by decide,Nat.one_pos,p1,block_of hs (of_decide_eq_true (by kernel_rfl)) (by kernel_rfl) gE1 v1⟩;exact ⟨by decide,by decide,by decide,Nat.one_pos,p2,block_of hs (of_decide_eq_true (by kernel_rfl)) (by kernel_rfl) gE2 v2⟩;exact ⟨by decide,by decide,by decide,Nat.one_pos,p3,block_of hs (of_decide_eq_true (by kernel_rfl)) (by kernel_rfl) gE3 v3⟩;exact ⟨by decide,by decide,by decide,Nat.one_pos,p4,block_of hs (of_decide_eq_true (by kernel_rfl)) (by kernel_rfl) gE4 v4⟩;have h1' :9<=b:=h1;have h2' :b<14:=h2;have:b=9\/b=10\/b=11\/b=12\/b=13:=by omega
 rcases this with rfl|rfl|rfl|rfl|rfl;exact q0;exact q1;exact q2;exact q3;exact q4;simp only [errs,List.mem_cons,List.not_mem_nil,or_false] at hq;rcases hq with rfl|rfl;exact ⟨by decide,ct,frt,elt,t1,rfl,t2,t3⟩;exact ⟨by decide,ch,frh,elh,g1,by rw [g2];rfl,by rw [g2];exact Nat.one_pos,by decide,g3⟩
end Go.Proofs.YtmfeholdlgfpbaaGreatDoor
namespace Go.Proofs.YtmfeholdlgfpbaaGreatDoor
open Go Go.RowKit Go.Proofs
def lay (g:Nat) (cs:Array Value) (h:Array Obj):Array Obj:=h.modify g λ
 | .cells _ t fr=> .cells cs t fr
 |o=>o
def numsOf {H:Type}:DataW H->List Value
 | .agg l=>l.map λ| .lit (.int k n)=>Value.int k n|_=>undef
 |_=>[]
def pairsOf {H:Type}:DataW H->List Value
 | .agg l=>(l.map numsOf).flatten
 |_=>[]
def textOf {H:Type}:DataW H->ByteArray
 | .iface _ (.ptr (.agg [.lit (.string bs)]))=>⟨bs.toArray⟩
 |_=>⟨#[]⟩
noncomputable def low:Nat:=(World.holding Tryz.prog default ⟨#[],#[],[]⟩).heap.size
noncomputable def laidHeap (h:Array Obj):Array Obj:=
 lay 0 #[.iface 752 (.pointer (some ⟨low,0,none⟩))]
 (lay 2 #[.iface 752 (.pointer (some ⟨low+1,0,none⟩))]
 (lay 3 #[.iface 752 (.pointer (some ⟨low+2,0,none⟩))]
 (lay 4 #[.iface 752 (.pointer (some ⟨low+3,0,none⟩))]
 (lay 5 #[.iface 752 (.pointer (some ⟨low+4,0,none⟩))]
 (lay 6 (pairsOf (H:=Unit) Rows.laid_stagepost_tcpstate_triples).toArray
 (lay 1 #[.iface 460 (.agg #[typeHandle Tryz.prog 215])] h))))))
noncomputable def laidWorld (os:Os):World:=
 let w0:=World.holding Tryz.prog os ⟨#[.cells #[.string (textOf (H:=Unit) Rows.laid_stagepost_link_errBroken)] 770, .cells #[.string (textOf (H:=Unit) Rows.laid_stagepost_icmp_errShort)] 770, .cells #[.string (textOf (H:=Unit) Rows.laid_stagepost_icmp_errKind)] 770, .cells #[.string (textOf (H:=Unit) Rows.laid_stagepost_congestion_errSize)] 770, .cells #[.string (textOf (H:=Unit) Rows.laid_stagepost_dnscache_errInvalid)] 770],#[],[]⟩
 { w0 with heap:=laidHeap w0.heap}
set_option maxRecDepth 100000 in
theorem lay_handle (os:Os) (args:Array Value):([("errors.errorType",Rows.laid_errors_errorType)]:List (String×DataW Unit)).all (handleAtB Tryz.prog ((laidWorld os).forCall (λ_ _=>0) ⟨#[],args,[]⟩).memory)=true:=by kernel_rfl
set_option maxRecDepth 100000 in
theorem lay_six (os:Os) (args:Array Value):laidMet Tryz.prog laidSix ((laidWorld os).forCall (λ_ _=>0) ⟨#[],args,[]⟩).memory:=laidMet_of_run' 8 (by kernel_rfl) (by kernel_rfl)
theorem laid_met (os:Os) (args:Array Value):laidMetH Tryz.prog Rows.hostDefaultDenyRow.laid ((laidWorld os).forCall (λ_ _=>0) ⟨#[],args,[]⟩).memory:=by refine laidMetH_iff.2 ⟨?_,?_⟩;rw [laid_six];exact lay_six os args;rw [laid_handle];exact handlesMet_of_B (lay_handle os args)
end Go.Proofs.YtmfeholdlgfpbaaGreatDoor
namespace Go.Proofs.YtmfeholdlgfpbaaGreatDoor
open Go
theorem tie' :Tryz.prog.laidByTextLater laidAll Qr9 true:=Program.laidByTextLater_by_run_h 400 8 Zb5 Zb4 Zb3 Zb2 Zb1 Zb0 Zaw Zaz Zay Zax
theorem row_tie' :Rows.hostDefaultDenyRow.laidByTextAt .later Tryz.pinned Qr9 true:=OpenClaim.laidByTextAt_later rfl rfl tie' Qu1
end Go.Proofs.YtmfeholdlgfpbaaGreatDoor
namespace Go.Proofs.YtmfeholdlgfpbaaGreatDoor
open Go.ChangeShapes Go.WideShapes Go.ChangeAt Go.RowKit Go.Joins Go.Deep
section
variable {H:Type} {enc:TypeId×Value->H} {W:World} {base:Nat} {spare:Nat->Bool} {held:Bool}
theorem addr_plainD {a:Addr} {v:Value} (h:W.cell? a=some v):a=⟨a.block,a.off,none⟩/\a.block<W.heap.size:=by
 obtain ⟨b,o,s⟩:=a;unfold World.cell? at h;split at h;rename_i hb;cases s with
 |none=>exact ⟨rfl,(Array.getElem?_eq_some_iff.1 hb).1⟩
 |some x=>simp at h
 cases h
theorem addr_addD (b o j:Nat):(⟨b,o,none⟩:Addr).add j=⟨b,o+j,none⟩:=by unfold Addr.add;split<;>simp_all
theorem part_of {fs:Array Field} {n:Nat} {t:TypeId} {cs:List Value} {y:DataW H×List MemPlace} (he:Tryz.prog.underlying t=some (.struct fs)) (h:DataW.trod enc Tryz.prog W base spare held n t cs=some y):
 ∃n',∀(j:Nat) (f:Field),fs[j]?=some f->∃y',DataW.trod enc Tryz.prog W base spare held n' f.type ((cs.drop f.offset).take (Tryz.prog.cellsOf f.type))=some y' :=by
 obtain ⟨ys,n',-,-,hlen,hyl,hf⟩:=DataW.trod_struct he h;refine ⟨n',λj f hj=>?_⟩;have hjl:j<fs.size:=(Array.getElem?_eq_some_iff.1 hj).1
 have h1:=hf j f hj;rw [List.getElem?_eq_getElem (by omega)] at h1;exact ⟨_,h1⟩
theorem len_of {s:ByteArray} (h:s.size<=maxLen):s.size<=9223372036854775807:=by unfold maxLen at h;omega
theorem cells_i:Tryz.prog.cellsOf 3=1:=by kernel_rfl
theorem cells_u:Tryz.prog.cellsOf 5=1:=by kernel_rfl
theorem cells_s:Tryz.prog.cellsOf 9=1:=by kernel_rfl
theorem cells_c:Tryz.prog.cellsOf 44=12:=by kernel_rfl
theorem cells_p:Tryz.prog.cellsOf 42=5:=by kernel_rfl
theorem one_i {n:Nat} {c:Value} {y:DataW H×List MemPlace} (h:DataW.trod enc Tryz.prog W base spare held n 3 [c]=some y):Ax.spI.has c:=by obtain ⟨x,e,-,b⟩:=DataW.trod_int Tryz.underlying3 h;cases e;simp only [Ax.spI,Ax.Sp.has];exact ⟨x,rfl,bounds_i64 b⟩
theorem one_u {n:Nat} {c:Value} {y:DataW H×List MemPlace} (h:DataW.trod enc Tryz.prog W base spare held n 5 [c]=some y):(Ax.Sp.int .u8 0 255).has c:=by obtain ⟨x,e,-,b⟩:=DataW.trod_int Tryz.underlying5 h;cases e;simp only [Ax.Sp.has];exact ⟨x,rfl,bounds_u8 b⟩
theorem one_s {n:Nat} {c:Value} {y:DataW H×List MemPlace} (h:DataW.trod enc Tryz.prog W base spare held n 9 [c]=some y):(Ax.Sp.str 9223372036854775807).has c:=by obtain ⟨s,e,-,b⟩:=DataW.trod_string Tryz.underlying9 h;cases e;simp only [Ax.Sp.has];exact ⟨s,rfl,len_of b⟩
theorem pkt_of {n:Nat} {c0 c1 c2 c3 c4:Value} {y:DataW H×List MemPlace} (h:DataW.trod enc Tryz.prog W base spare held n 42 [c0,c1,c2,c3,c4]=some y):Ax.spI.has c0/\Ax.spI.has c1/\Ax.spI.has c2/\Ax.spI.has c3/\Ax.spI.has c4:=by obtain ⟨n',hf⟩:=part_of Tryz.underlying42 h;obtain ⟨y0,t0⟩:=hf 0 _ rfl;change DataW.trod enc Tryz.prog W base spare held n' 3 (([c0,c1,c2,c3,c4].drop 0).take (Tryz.prog.cellsOf 3))=some y0 at t0;rw [cells_i] at t0;simp only [List.drop,List.take] at t0;obtain ⟨y1,t1⟩:=hf 1 _ rfl;change DataW.trod enc Tryz.prog W base spare held n' 3 (([c0,c1,c2,c3,c4].drop 1).take (Tryz.prog.cellsOf 3))=some y1 at t1;rw [cells_i] at t1;simp only [List.drop,List.take] at t1;obtain ⟨y2,t2⟩:=hf 2 _ rfl;change DataW.trod enc Tryz.prog W base spare held n' 3 (([c0,c1,c2,c3,c4].drop 2).take (Tryz.prog.cellsOf 3))=some y2 at t2;rw [cells_i] at t2;simp only [List.drop,List.take] at t2;obtain ⟨y3,t3⟩:=hf 3 _ rfl;change DataW.trod enc Tryz.prog W base spare held n' 3 (([c0,c1,c2,c3,c4].drop 3).take (Tryz.prog.cellsOf 3))=some y3 at t3;rw [cells_i] at t3;simp only [List.drop,List.take] at t3;obtain ⟨y4,t4⟩:=hf 4 _ rfl;change DataW.trod enc Tryz.prog W base spare held n' 3 (([c0,c1,c2,c3,c4].drop 4).take (Tryz.prog.cellsOf 3))=some y4 at t4;rw [cells_i] at t4;simp only [List.drop,List.take] at t4;exact ⟨one_i t0,one_i t1,one_i t2,one_i t3,one_i t4⟩
theorem call_of {n:Nat} {c0 c1 c2 c3 c4 c5 c6 c7 c8 c9 c10 c11:Value} {y:DataW H×List MemPlace} (h:DataW.trod enc Tryz.prog W base spare held n 44 [c0,c1,c2,c3,c4,c5,c6,c7,c8,c9,c10,c11]=some y):
 (Ax.Sp.int .u8 0 255).has c0/\Ax.spI.has c1/\Ax.spI.has c2/\Ax.spI.has c3/\Ax.spI.has c4/\(Ax.Sp.str 9223372036854775807).has c5/\Ax.spI.has c6/\Ax.spI.has c7/\Ax.spI.has c8/\Ax.spI.has c9/\Ax.spI.has c10/\Ax.spI.has c11:=by
 obtain ⟨n',hf⟩:=part_of Tryz.underlying44 h;obtain ⟨y0,t0⟩:=hf 0 _ rfl;change DataW.trod enc Tryz.prog W base spare held n' 5 (([c0,c1,c2,c3,c4,c5,c6,c7,c8,c9,c10,c11].drop 0).take (Tryz.prog.cellsOf 5))=some y0 at t0;rw [cells_u] at t0;simp only [List.drop,List.take] at t0;obtain ⟨y1,t1⟩:=hf 1 _ rfl;change DataW.trod enc Tryz.prog W base spare held n' 3 (([c0,c1,c2,c3,c4,c5,c6,c7,c8,c9,c10,c11].drop 1).take (Tryz.prog.cellsOf 3))=some y1 at t1;rw [cells_i] at t1;simp only [List.drop,List.take] at t1;obtain ⟨y2,t2⟩:=hf 2 _ rfl;change DataW.trod enc Tryz.prog W base spare held n' 3 (([c0,c1,c2,c3,c4,c5,c6,c7,c8,c9,c10,c11].drop 2).take (Tryz.prog.cellsOf 3))=some y2 at t2;rw [cells_i] at t2;simp only [List.drop,List.take] at t2;obtain ⟨y3,t3⟩:=hf 3 _ rfl;change DataW.trod enc Tryz.prog W base spare held n' 3 (([c0,c1,c2,c3,c4,c5,c6,c7,c8,c9,c10,c11].drop 3).take (Tryz.prog.cellsOf 3))=some y3 at t3;rw [cells_i] at t3;simp only [List.drop,List.take] at t3;obtain ⟨y4,t4⟩:=hf 4 _ rfl;change DataW.trod enc Tryz.prog W base spare held n' 3 (([c0,c1,c2,c3,c4,c5,c6,c7,c8,c9,c10,c11].drop 4).take (Tryz.prog.cellsOf 3))=some y4 at t4;rw [cells_i] at t4;simp only [List.drop,List.take] at t4;obtain ⟨y5,t5⟩:=hf 5 _ rfl;change DataW.trod enc Tryz.prog W base spare held n' 9 (([c0,c1,c2,c3,c4,c5,c6,c7,c8,c9,c10,c11].drop 5).take (Tryz.prog.cellsOf 9))=some y5 at t5;rw [cells_s] at t5;simp only [List.drop,List.take] at t5;obtain ⟨y6,t6⟩:=hf 6 _ rfl;change DataW.trod enc Tryz.prog W base spare held n' 3 (([c0,c1,c2,c3,c4,c5,c6,c7,c8,c9,c10,c11].drop 6).take (Tryz.prog.cellsOf 3))=some y6 at t6;rw [cells_i] at t6;simp only [List.drop,List.take] at t6;obtain ⟨y7,t7⟩:=hf 7 _ rfl;change DataW.trod enc Tryz.prog W base spare held n' 42 (([c0,c1,c2,c3,c4,c5,c6,c7,c8,c9,c10,c11].drop 7).take (Tryz.prog.cellsOf 42))=some y7 at t7;rw [cells_p] at t7;simp only [List.drop,List.take] at t7;obtain ⟨k0,k1,k2,k3,k4⟩:=pkt_of t7;exact ⟨one_u t0,one_i t1,one_i t2,one_i t3,one_i t4,one_s t5,one_i t6,k0,k1,k2,k3,k4⟩
theorem frame_of {n:Nat} {c0 c1 c2 c3 c4 c5 c6 c7 c8 c9 c10 c11 c12 c13 c14 c15 c16 c17 c18:Value} {y:DataW H×List MemPlace} (h:DataW.trod enc Tryz.prog W base spare held n 46 [c0,c1,c2,c3,c4,c5,c6,c7,c8,c9,c10,c11,c12,c13,c14,c15,c16,c17,c18]=some y):Ax.Sp.yB frD [c0,c1,c2,c3,c4,c5,c6,c7,c8,c9,c10,c11,c12,c13,c14,c15,c16,c17,c18]:=by obtain ⟨n',hf⟩:=part_of Tryz.underlying46 h;obtain ⟨y0,t0⟩:=hf 0 _ rfl;change DataW.trod enc Tryz.prog W base spare held n' 3 (([c0,c1,c2,c3,c4,c5,c6,c7,c8,c9,c10,c11,c12,c13,c14,c15,c16,c17,c18].drop 0).take (Tryz.prog.cellsOf 3))=some y0 at t0;rw [cells_i] at t0;simp only [List.drop,List.take] at t0;obtain ⟨y1,t1⟩:=hf 1 _ rfl;change DataW.trod enc Tryz.prog W base spare held n' 3 (([c0,c1,c2,c3,c4,c5,c6,c7,c8,c9,c10,c11,c12,c13,c14,c15,c16,c17,c18].drop 1).take (Tryz.prog.cellsOf 3))=some y1 at t1;rw [cells_i] at t1;simp only [List.drop,List.take] at t1;obtain ⟨y2,t2⟩:=hf 2 _ rfl;change DataW.trod enc Tryz.prog W base spare held n' 3 (([c0,c1,c2,c3,c4,c5,c6,c7,c8,c9,c10,c11,c12,c13,c14,c15,c16,c17,c18].drop 2).take (Tryz.prog.cellsOf 3))=some y2 at t2;rw [cells_i] at t2;simp only [List.drop,List.take] at t2;obtain ⟨y3,t3⟩:=hf 3 _ rfl;change DataW.trod enc Tryz.prog W base spare held n' 3 (([c0,c1,c2,c3,c4,c5,c6,c7,c8,c9,c10,c11,c12,c13,c14,c15,c16,c17,c18].drop 3).take (Tryz.prog.cellsOf 3))=some y3 at t3;rw [cells_i] at t3;simp only [List.drop,List.take] at t3;obtain ⟨y4,t4⟩:=hf 4 _ rfl;change DataW.trod enc Tryz.prog W base spare held n' 3 (([c0,c1,c2,c3,c4,c5,c6,c7,c8,c9,c10,c11,c12,c13,c14,c15,c16,c17,c18].drop 4).take (Tryz.prog.cellsOf 3))=some y4 at t4;rw [cells_i] at t4;simp only [List.drop,List.take] at t4;obtain ⟨y5,t5⟩:=hf 5 _ rfl;change DataW.trod enc Tryz.prog W base spare held n' 3 (([c0,c1,c2,c3,c4,c5,c6,c7,c8,c9,c10,c11,c12,c13,c14,c15,c16,c17,c18].drop 5).take (Tryz.prog.cellsOf 3))=some y5 at t5;rw [cells_i] at t5;simp only [List.drop,List.take] at t5;obtain ⟨y6,t6⟩:=hf 6 _ rfl;change DataW.trod enc Tryz.prog W base spare held n' 9 (([c0,c1,c2,c3,c4,c5,c6,c7,c8,c9,c10,c11,c12,c13,c14,c15,c16,c17,c18].drop 6).take (Tryz.prog.cellsOf 9))=some y6 at t6;rw [cells_s] at t6;simp only [List.drop,List.take] at t6;obtain ⟨y7,t7⟩:=hf 7 _ rfl;change DataW.trod enc Tryz.prog W base spare held n' 44 (([c0,c1,c2,c3,c4,c5,c6,c7,c8,c9,c10,c11,c12,c13,c14,c15,c16,c17,c18].drop 7).take (Tryz.prog.cellsOf 44))=some y7 at t7;rw [cells_c] at t7;simp only [List.drop,List.take] at t7;obtain ⟨k0,k1,k2,k3,k4,k5,k6,k7,k8,k9,k10,k11⟩:=call_of t7;simp only [frD,Ax.Sp.yB];exact ⟨_,_,rfl,one_i t0,_,_,rfl,one_i t1,_,_,rfl,one_i t2,_,_,rfl,one_i t3,_,_,rfl,one_i t4,_,_,rfl,one_i t5,_,_,rfl,one_s t6,_,_,rfl,k0,_,_,rfl,k1,_,_,rfl,k2,_,_,rfl,k3,_,_,rfl,k4,_,_,rfl,k5,_,_,rfl,k6,_,_,rfl,k7,_,_,rfl,k8,_,_,rfl,k9,_,_,rfl,k10,_,_,rfl,k11,rfl⟩
inductive DdFrs (W:World):Value->Prop
 |none:DdFrs W (.slice none 0 0)
 |some (blk off len cap:Nat) (hb:blk<W.heap.size) (hle:len<=cap) (hm:(cap:Int)<=9223372036854775807)
  (hc:∀i,i<len->∃vals:List Value,vals.length=19/\Ax.Sp.yB frD vals/\∀j u,vals[j]?=some u->W.cell? ⟨blk,off+i*19+j,none⟩=some u):DdFrs W (.slice (some ⟨blk,off,none⟩) len cap)
set_option maxRecDepth 100000 in
theorem frames_of {v:Value} {d:DataW H} {p:List MemPlace} {b0:Nat} (hv:Value.okWide Tryz.prog W .any b0 22 v) (h:DataW.Trod enc Tryz.prog W base (λ_=>true) true 22 v d p):DdFrs W v:=by
 have hv0:=hv;obtain ⟨a0,len,cap,rfl⟩:=okWide_slice Tryz.underlying22 hv;obtain ⟨fuel,hf⟩:=h;rcases open_slice Tryz.underlying22 hf with ⟨hcs,-⟩|⟨a,len',cap',m,n,D,Pl,hcs,-,hl,hm,hmm,-,hi⟩;have:Value.slice a0 len cap= .slice none 0 0:=by simpa [Value.cells] using hcs
 cases this;exact .none
 have:Value.slice a0 len cap= .slice (some a) len' cap' :=by simpa [Value.cells] using hcs
 cases this;have hc19:Tryz.prog.cellsOf 46=19:=by kernel_rfl
 rw [hc19] at hi;have hml:len<=m:=by rw [hmm];split<;>omega
 have hplace:a.spot=none/\a.block<W.heap.size:=by
  have hv' :Cell.okWide Tryz.prog W .any b0 22 (.slice (some a) len cap):=by unfold Value.okWide at hv0;rw [Tryz.underlying22] at hv0;exact hv0
  unfold Cell.okWide at hv';rw [Tryz.underlying22] at hv';simp only at hv';unfold Cell.ok at hv';rw [Tryz.underlying22] at hv';obtain ⟨_,_,_,g1,row,cells,g2,_⟩:=hv';refine ⟨g1,?_⟩;unfold World.shape? at g2;split at g2;rename_i hh;exact (Array.getElem?_eq_some_iff.1 hh).1
  cases g2
 obtain ⟨bk,off,sp⟩:=a;obtain ⟨g1,g2⟩:=hplace;simp only at g1 g2;subst g1;refine .some bk off len cap g2 hl (by unfold maxLen at hm;omega) λi hlt=>?_
 obtain ⟨cs',hc,ht⟩:=hi i (by omega);obtain ⟨_,hcl,hat⟩:=World.cells?_some hc;refine ⟨cs',hcl,?_,λj u hu=>?_⟩;match cs',hcl,ht with
 |[c0,c1,c2,c3,c4,c5,c6,c7,c8,c9,c10,c11,c12,c13,c14,c15,c16,c17,c18],_,ht=>exact frame_of ht
 have hj:j<19:=by rw [<-hcl];exact (List.getElem?_eq_some_iff.1 hu).1
 have:=hat j hj;rw [addr_addD,addr_addD] at this;exact this.trans hu
end
section
variable {W:World}
theorem dd_any {A:Nat->Addr} {N0:Nat->Nat} {v0:Value} (β:Bool) (hl:Ax.Laid errs A N0 W) (h0:DdFrs W v0):
 Calls Tryz.prog 3 #[v0, .bool β] W (λe w' =>∃u,e= .returned u/\(Ax.Sp.lit true).has u/\Below W.heap.size W w'):=by
 have h00:0<W.heap.size:=Nat.lt_of_lt_of_le Qi8 hl.sz;have key:∀(pl:Ax.Place) (len:Nat),pl.blk<W.heap.size->(len:Int)<=9223372036854775807->(∀i,i<len->∃vals:List Value,vals.length=19/\Ax.Sp.yB frD vals/\∀j u,vals[j]?=some u->W.cell? ⟨pl.blk,pl.base+i*19+j,none⟩=some u)->
  (∀Y:Ax.Ext,Y.V 14=some pl->Y.dom 16->Y.O.int 16=(len:Int)->(Ax.AV.wslice 14 0 0 19 16).rel Y v0)->
  Calls Tryz.prog 3 #[v0, .bool β] W (λe w' =>∃u,e= .returned u/\(Ax.Sp.lit true).has u/\Below W.heap.size W w'):=by
  intro pl len hb hm hc hr;refine Ax.Qj5 (G:=GX) (sps:=Zit) (mk:=mkD β) (room:=1000) (avs:=[.int .i64 (.var 16)]) (vals:=[.int .i64 len]) (p1:=pl) (p2:=pl) Qqs Ql7 Qi8 ?_ rfl hl ?_ hb hb ?_ ?_;cases β;exact Ziv;exact Ziu;simp only [Zit,Ax.Sp.yB,Ax.Sp.has];exact ⟨_,_,rfl,⟨_,rfl,by omega,hm⟩,rfl⟩;intro Y args hr' hm1 hm2 hq;unfold mkD at hq;simp only [Option.some.injEq] at hq;subst hq;simp only [Ax.rels_cons_cons,Ax.AV.rel,Ax.E.den,Value.int.injEq,true_and] at hr';obtain ⟨⟨k1,k2⟩,-⟩:=hr';simp only [Ax.rels_cons_cons];exact ⟨hr Y hm1 k1 k2.symm,by simp only [Ax.AV.rel],by simp only [Ax.rels_nil]⟩;intro cs0 X m hX h;have hI:Qrp W.heap.size W pl len:=⟨hb,hc⟩;have hr' :=hX.r;simp only [Ax.rels_cons_cons,Ax.AV.rel,Ax.E.den,Value.int.injEq,true_and] at hr';have hK:KD pl len X:=⟨hX.V (14,pl) (by simp [show errs.ng+errs.m=14 from rfl]),hr'.1.2.symm⟩;cases β;exact dSf_g hI X m hK hK.l h;exact dSt_g hI X m hK hK.l h
 cases h0 with
 |none=>exact key ⟨0,0,0⟩ 0 h00 (by omega) (λi hi=>absurd hi (by omega)) λY hm k1 k2=>by simp only [Ax.AV.rel];exact ⟨_,0,0,hm, .inr (by simp),by omega,by omega,by simp,k1,k2⟩
 |some blk off len cap hb hle hm hc=>exact key ⟨blk,off,off+cap*19⟩ len hb (by omega) hc λY hm k1 k2=>by simp only [Ax.AV.rel];exact ⟨_,len,cap,hm, .inl rfl,by omega,hle,by simp only;omega,k1,k2⟩
end
end Go.Proofs.YtmfeholdlgfpbaaGreatDoor
namespace Go.Proofs.YtmfeholdlgfpbaaGreatDoor
open Go.ChangeShapes Go.WideShapes Go.ChangeAt Go.RowKit Go.Joins
theorem own:ownKnob Tryz.prog.godebug=none:=by kernel_rfl
section
variable {H:Type} {enc:TypeId×Value->H} {P:Program}
theorem post_of_below {f:Func} {s:ChangeSpec} {apart fresh handsOn again:Bool} {W W' :World} {args:Array Value} {v:Value} {ds gs:List (DataW H)} {before pa pv:List MemPlace}
 (hW:DataW.Whole enc P f.params.toList s.vars apart W args.toList ds gs before)
 (hres:∀(b:Nat) (sp:Nat->Bool) (hd:Bool),DataW.TrodAll enc P W' b sp hd f.resultTypes.toList (v.resultList f.resultTypes.size) (s.fn H (ds++gs)).results [])
 (hargs:∀sp:Nat->Bool,(∀p∈before,sp p.block=true)->DataW.TrodAll enc P W' 0 sp true f.params.toList args.toList (s.fn H (ds++gs)).args pa)
 (hvars:∀sp:Nat->Bool,(∀p∈before,sp p.block=true)->DataW.TrodVars enc P W' sp s.vars (s.fn H (ds++gs)).vars pv)
 (hps:before=pa++pv) (hb:Below W.heap.size W W')
 (hok:∀(j:Nat) (t:TypeId) (r:Value),f.resultTypes[j]?=some t->(v.resultList f.resultTypes.size)[j]?=some r->Value.okWide P W' .any 0 t r):
 s.post enc P f apart fresh handsOn again W args v W' :=by
 have hlt:∀p∈before,p.block<W.heap.size:=λp hp=>hW.lt p hp
 have hold:∀p∈before,(λb=>decide (b<W.heap.size)) p.block=true:=λp hp=>by simpa using hlt p hp
 refine ⟨ds,gs,before,[],pa,pv,hW,hres _ _ _,hargs _ hold,hvars _ hold,World.keptBut_mono (λp hp=>⟨hp,?_⟩) (hb.frame (. ∈before)),λ_=>?_⟩;rw [hps,List.mem_append] at hp;exact Or.inr hp;obtain ⟨_,_,_,_,_,hz,hn⟩:=hW;refine ⟨hok,_,_,([]++pa)++pv,⟨[]++pa,pv,trodAll_append (hargs _ (λ_ _=>rfl)) (hres _ _ _),hvars _ (λ_ _=>rfl),rfl,?_,?_⟩,?_⟩;intro b off hp;have hin:MemPlace.cell b off∈before:=by rw [hps];simpa using hp
 rw [hb.frozen (hlt _ hin)];exact hz b off hin;intro ha;have:=hn ha;rw [hps] at this;simpa using this;intro p hp _;rw [hps];simpa using hp
end
section
variable {H:Type} {enc:TypeId×Value->H} {W:World}
theorem stays {t:TypeId} {W' :World} {sp' :Nat->Bool} {v:Value} {d:DataW H} {ps before:List MemPlace} (hr:Tryz.prog.readableRec t=true) (hrow:t<Tryz.prog.types.size) (h:DataW.Trod enc Tryz.prog W 0 (λ_=>true) true t v d ps) (hb:Below W.heap.size W W') (hlt:∀x∈ps,x.block<W.heap.size) (hin:∀x∈ps,x∈before) (hs:∀p∈before,sp' p.block=true):DataW.Trod enc Tryz.prog W' 0 sp' true t v d ps:=WideElems.Trod_stays Qwv hr hrow h (λx hx=>hb.same (hlt x hx)) (λx hx=>hs x (hin x hx))
end
section
variable {v:Value} {base:Nat} {W:World}
set_option maxRecDepth 100000 in
theorem bool_has (h:Value.okWide Tryz.prog W .any base 4 v):∃β,v= .bool β:=by
 have h' :Cell.okWide Tryz.prog W .any base 4 v:=by unfold Value.okWide at h;rw [Tryz.underlying4] at h;exact h
 have:=Ax.Qky h' (show Ax.spTy Tryz.prog 4=some Ax.Sp.bool by kernel_rfl);simpa only [Ax.Sp.has] using this
end
namespace hostDefaultDeny
open Go.ChangeMaps (open_string shut_string)
set_option maxRecDepth 100000 in
set_option maxHeartbeats 1000000 in
theorem contract (H:Type) (enc:TypeId×Value->H) (W:World) (base:Nat) (args:Array Value) (ds gs:List (DataW H)) (before:List MemPlace)
 (hval:∀(j:Nat) t v,Tryz.f3.params[j]?=some t->args[j]?=some v->Value.okWide Tryz.prog W .any base t v)
 (hW:DataW.Whole enc Tryz.prog Tryz.f3.params.toList Rows.hostDefaultDenySpec.vars false W args.toList ds gs before) (hL:laidMetH Tryz.prog Rows.hostDefaultDenyRow.laid W) (hS:W.ShapedOpen Tryz.prog):
 Calls Tryz.prog 3 args W λe W' =>∃v,e= .returned v/\Rows.hostDefaultDenySpec.post enc Tryz.prog Tryz.f3 false true false false W args v W' :=by
 obtain ⟨A,N0,hok⟩:=laid_first hL hS;have hW' :=hW;obtain ⟨p,q,hA0,hV,rfl,hfz,hnd⟩:=hW;have hA:DataW.TrodAll enc Tryz.prog W 0 (λ_=>true) true Tryz.f3.params.toList args.toList ds p:=hA0;rw [Tryz.params3] at hA hval;obtain ⟨v0,vs0,d0,ds0,p0,q0,hargs,rfl,rfl,h0,r0⟩:=trodAll_cons hA;obtain ⟨v1,vs1,d1,ds1,p1,q1,rfl,rfl,rfl,h1,r1⟩:=trodAll_cons r0;obtain ⟨rfl,rfl,rfl⟩:=trodAll_nil r1;obtain rfl:args=#[v0,v1]:=by cases args;simp_all
 obtain ⟨rfl,rfl⟩:=trodVars_none hV;have hlt:=hW'.lt;have g0:=frames_of (hval 0 22 v0 rfl rfl) h0;obtain ⟨β,rfl⟩:=bool_has (hval 1 4 v1 rfl rfl);clear hA0;refine (dd_any β hok g0).mono λe W' ⟨u,he,hu,hb⟩=>?_
 simp only [Ax.Sp.has] at hu;subst hu;subst he;exact ⟨_,rfl,post_of_below (pa:=(p0++(p1++[]))) (pv:=[]) hW' (λ_ _ _=>trodAll_cons_mk (shut_bool Tryz.underlying4 _) trodAll_mk0) (λ_ hsp=>(trodAll_cons_mk (stays (before:=_) (by kernel_rfl) (of_decide_eq_true (by kernel_rfl)) h0 hb (λx hx=>hlt x (by simp [hx])) (λx hx=>by simp [hx]) hsp) (trodAll_cons_mk (stays (before:=_) (by kernel_rfl) (of_decide_eq_true (by kernel_rfl)) h1 hb (λx hx=>hlt x (by simp [hx])) (λx hx=>by simp [hx]) hsp) trodAll_mk0))) (λ_ _=>rfl) (by simp) hb (ok_one (by kernel_rfl) rfl (okWide_bool_mk Tryz.underlying4 _))⟩
abbrev zeroArgs:Array Value:=#[.slice none 0 0, .bool false]
abbrev zeroData {H:Type}:List (DataW H):=[.nil, .lit (.bool false)]
set_option maxRecDepth 100000 in
theorem reads (os:Os) {H:Type} (enc:TypeId×Value->H):∃places,DataW.whole enc Tryz.prog ((laidWorld os).forCall (λ_ _=>0) ⟨#[],zeroArgs,[]⟩).memory Tryz.f3.params.toList Rows.hostDefaultDenySpec.vars false zeroArgs.toList 8=some (zeroData,[],places):=⟨[],by kernel_rfl⟩
set_option maxRecDepth 100000 in
theorem lifted (os:Os) (started:os.Started) (H:Type) (enc:TypeId×Value->H) (F:Stop.Interp):
 ReturnsInHanded {} Tryz.checked os 3 .any ((OpenSpec.ofChange Rows.hostDefaultDenySpec).preRow enc Tryz.prog Tryz.f3 Rows.hostDefaultDenyRow.domain false Rows.hostDefaultDenyRow.laid) (((OpenSpec.ofChange Rows.hostDefaultDenySpec).at F).post enc Tryz.prog Tryz.f3 false true false false):=by
 obtain ⟨places,hx⟩:=reads os enc;refine returnsInHanded_of_row (C:=Tryz.checked) (s:=OpenSpec.ofChange Rows.hostDefaultDenySpec) own started Z72 Tryz.func3
  (witness_row_at (enc:=enc) (C:=Tryz.checked) false (laidWorld os) zeroArgs rfl (by kernel_rfl) (by kernel_rfl) (by kernel_rfl)
   (OpenSpec.preRow_of_cond 8 hx (by kernel_rfl) (λk hk=>by cases hk) (by kernel_rfl) (laid_met os _))) ?_
 intro W base args ds gs before hval hW _ _ _ hL hS _;exact contract H enc W base args ds gs before hval hW hL hS
set_option maxRecDepth 100000 in
theorem said:Rows.HostDefaultDenySaid:=
 OpenClaim.holds_of_cond 3 Tryz.f3 rfl rfl rfl rfl rfl rfl rfl ⟨rfl,rfl,rfl,rfl,rfl⟩ rfl rfl rfl rfl rfl Qym Tryz.func3 joined
  (of_decide_eq_true (by kernel_rfl)) (by unfold Func.isWrapper;first|(rw [if_pos (by decide+kernel)];kernel_rfl)|(rw [if_neg (by decide+kernel)];exact ⟨rfl,rfl⟩))
  (λos started H enc _ F=>by rw [OpenClaim.pre_eq_preRow];exact lifted os started H enc F)
set_option maxRecDepth 100000 in
theorem plain (f:FuncId) (fn:Func) (hf:Tryz.pinned.checked.prog.funcNamed "stagepost/stagepostlaw25.HostDefaultDeny" =some f) (hfn:Tryz.pinned.checked.prog.funcs[f]?=some fn):
 true=Tryz.pinned.checked.prog.looks []/\∀(j:Nat) t,fn.params[j]?=some t->Tryz.pinned.checked.prog.wantsStandIn t=false:=by
 obtain rfl:f=3:=Option.some.inj (Qym.symm.trans hf) |>.symm;obtain rfl:fn=Tryz.f3:=(Option.some.inj (Tryz.func3.symm.trans hfn)).symm
 refine ⟨Z70,λj t ht=>?_⟩;rw [Tryz.params3] at ht;have hm:=Array.mem_of_getElem? ht;simp only [List.mem_toArray,List.mem_cons,List.not_mem_nil,or_false] at hm;rcases hm with rfl|rfl;exact (show Tryz.prog.wantsStandIn 22=false by kernel_rfl);exact (show Tryz.prog.wantsStandIn 4=false by kernel_rfl)
set_option maxRecDepth 100000 in
theorem card:Rows.HostDefaultDenyCardSaid:=Claim7.holds_tied_plain_at .later [] _ _ _ _ said (λ_ h=>by cases h) Z29 (λ_ h=>by cases h) row_tie' rfl ⟨rfl,rfl⟩ Z2f rfl plain Z76
end hostDefaultDeny
end Go.Proofs.YtmfeholdlgfpbaaGreatDoor
