/-
 A name is looked up: the law holds over a memory in which the packages' errors are laid. Conditions: none.
-/
import Derived.Test.YtmjjaldodkokbaaGreatDoorLU0
import Derived.Test.YtmjjaldodkokbaaGreatDoorLU1
import Derived.Test.YtmjjaldodkokbaaGreatDoorLU2
import Derived.Test.YtmjjaldodkokbaaGreatDoorLU3
import Derived.Test.YtmjjaldodkokbaaGreatDoorLU4
import Derived.Test.YtmjjaldodkokbaaGreatDoorLU5
import Derived.Test.YtmjjaldodkokbaaGreatDoorLU6
import Derived.Test.YtmjjaldodkokbaaGreatDoorLU7
import Derived.Test.YtmjjaldodkokbaaGreatDoorLU8
import Derived.Test.YtmjjaldodkokbaaGreatDoorLU9
import Derived.Test.YtmjjaldodkokbaaGreatDoorLUa
import Derived.Test.YtmjjaldodkokbaaGreatDoorLUb
import Derived.Test.YtmjjaldodkokbaaGreatDoorLUc
import Derived.Test.YtmjjaldodkokbaaGreatDoorLUd
import Derived.Test.YtmjjaldodkokbaaGreatDoorLUe
import Derived.Test.YtmjjaldodkokbaaGreatDoorLH0
import Derived.Test.YtmjjaldodkokbaaGreatDoorLGa
import Derived.Test.YtmjjaldodkokbaaGreatDoorRows
import Derived.Stop.LaidErr
import Derived.LaidSub
import Derived.Shelf.Vars
import Derived.ProofKit
import Derived.Lib.LaidU8
import Derived.LaidLaws
import Derived.LaidHandle
import Derived.Lib.LaidTab
import Derived.Test.YtmjjaldodkokbaaGreatDoorLT1
import Derived.Test.YtmjjaldodkokbaaGreatDoorLT2
import Derived.Test.YtmjjaldodkokbaaGreatDoorLT3
import Derived.Test.YtmjjaldodkokbaaGreatDoorLT4
import Derived.Test.YtmjjaldodkokbaaGreatDoorLT5
import Derived.Test.YtmjjaldodkokbaaGreatDoorLT6
import Derived.LaidByTextLater
import Derived.SevenTiedAt
import Derived.Test.YtmjjaldodkokbaaGreatDoorLAxE
import Derived.Test.YtmjjaldodkokbaaGreatDoorCards
import Derived.Test.YtmjjaldodkokbaaGreatDoorLJ6
import Derived.Lib.SmallJoins
import Derived.SliceStrings
import Derived.OpenShut
import Derived.Deep.DeepHandedRow
import Derived.ChangeSame
import Derived.WideKeyArgs
import Derived.Carry
namespace Go.Proofs.YtmjjaldodkokbaaGreatDoor
open Go Go.Ax Go.RowKit Go.Proofs
def rnA:List AV:=[iX (.var 16),iX (.var 17),iX (.var 18),iX (.var 19),iX (.var 20),iX (.var 21),iX (.var 22),iX (.var 23)]
def rvB (n k:Nat):List AV:=iX (.var 17)::(REL n++WEL k).map iX
def vvB (L2:Int) (R W:List Int):List Value:= .int .i64 L2::(R++W).map λz=> .int .i64 z
def rvK (n k:Nat) (f:List Nat):List AV:=iX (.var 17)::((List.range n).map tE++(List.range k).map λj=>tE (rep f j)).map iX
def vvA (L1 L2:Int) (v0 v1:Value) (S:Nat->Int):List Value:=[.int .i64 L1, .int .i64 L2,v0,v1, .int .i64 (S 0), .int .i64 (S 1), .int .i64 (S 2), .int .i64 (S 3)]
theorem fa_nil {α:Type} {p:α->Prop}:∀x∈([]:List α),p x:=λx h=>by cases h
theorem fa_cons {α:Type} {p:α->Prop} {a:α} {l:List α} (h1:p a) (h2:∀x∈l,p x):∀x∈a::l,p x:=λx h=>by rcases List.mem_cons.1 h with rfl|h;exact h1;exact h2 x h
theorem rels_ints {X:Ext}:∀{es:List E} {zs:List Int},AV.QF X (es.map iX) (zs.map λz=>Value.int .i64 z)->es.map (·.den X.O)=zs/\∀e∈es,e.ok X.dom
 |[],zs,h=>by
  cases zs with
  |nil=>exact ⟨rfl,λe he=>by cases he⟩
  |cons z zs=>simp only [List.map_nil,List.map_cons,rels_nil,reduceCtorEq] at h
 |e::es,zs,h=>by
  cases zs with
  |nil=>exact absurd h not_rels_cons_nil
  |cons z zs=>simp only [List.map_cons,rels_cons_cons] at h;obtain ⟨h1,h2⟩:=rels_ints h.2;have h3:=h.1;simp only [AV.rel,Value.int.injEq,true_and] at h3;refine ⟨by rw [List.map_cons,h1,h3.2],λx hx=>?_⟩;rcases List.mem_cons.1 hx with rfl|hx;exact h3.1;exact h2 x hx
theorem rels_of_ok {X:Ext}:∀{es:List E},(∀e∈es,e.ok X.dom)->AV.QF X (es.map iX) ((es.map (·.den X.O)).map λz=>Value.int .i64 z)
 |[],_=>by simp only [List.map_nil,rels_nil]
 |e::es,h=>by simp only [List.map_cons,rels_cons_cons];exact ⟨by simp only [AV.rel];exact ⟨h e (by simp),trivial⟩,rels_of_ok λx hx=>h x (by simp [hx])⟩
theorem keep15 (l:List Nat) (t:StC):Zi GF.T.ng (qkq (15::l) t) 15=true:=by unfold Zi qkq;simp
theorem rn_ops:∃o1 o2 rest,Z75.drop 7=o1::o2::rest/\o1.guard=none/\o2.guard=none/\o1.dst=some 168/\o2.dst=some 169/\o1.op= .indexAddr 22 (.tmp 163) (.tmp 167)/\o2.op= .load 3 (.tmp 168):=⟨_,_,_,rfl,rfl,rfl,rfl,rfl,rfl,rfl⟩
structure RnIn (n0:Nat) (w0:World) (pl:Ax.Place) (L:Int):Prop where
 lt:pl.blk<n0
 nn:0<=L
 cell:∀i:Nat,(i:Int)<L->∃z:Int,-9223372036854775808<=z/\z<=9223372036854775807/\w0.cell? ⟨pl.blk,pl.base+i,none⟩=some (.int .i64 z)
structure RnOne (n0:Nat) (w0:World) (pl:Ax.Place) (L:Int) (S:Nat->Int):Prop where
 lt:pl.blk<n0
 big:1<=L->∃c el fr,w0.heap[pl.blk]?=some (.cells c el fr)/\c.size=pl.n
 cell:∀i:Nat,(i:Int)<L->w0.cell? ⟨pl.blk,pl.base+i,none⟩=some (.int .i64 (S i))
 fit:(pl.base:Int)+L<=pl.n
section
variable {n0:Nat} {w0:World} {cs0:List Frame} {p1 p2:Ax.Place}
def RG (n0:Nat) (w0:World) (cs0:List Frame) (bs:List (Nat×Ax.Place)) (avs:List AV) (vals:List Value) (s:AM):Prop:=∀X m,Qfx bs avs vals X->Sim Tryz.prog GF n0 w0 cs0 X s m->ZU Tryz.prog n0 w0 cs0 3 m
theorem rhop {avs:List AV} {vals:List Value} {L:Nat} {s:AM} {j:List Nat} {t:StC} (hh:Hq L s j t) (he:RG n0 w0 cs0 [(15,p2)] avs vals (t.am 8000)) (hc:jw [] t.vs (Zi GF.T.ng (qkq (15::t.vs) t)) avs avs=true:=by kernel_rfl):RG n0 w0 cs0 [(15,p2)] avs vals s:=λ_ _ hX h=>HopC.endsL Qos Qov Qna Qad (λq hq=>⟨hq,by rw [List.mem_singleton] at hq;subst hq;exact keep15 _ _⟩) hc hh he hX h
theorem rren {avs:List AV} {vals:List Value} {L:Nat} {s:AM} {j:List Nat} {π:List (Nat×Nat)} {t:StC} (hh:HD L s j π t) (he:RG n0 w0 cs0 [(15,p2)] avs vals (t.am 8000)) (hc:rkL [] t.vs (Zi GF.T.ng (qkq (15::t.vs) t)) (Q9q π) avs avs=true:=by kernel_rfl) (hπ:Q9q π 15=15:=by rfl):RG n0 w0 cs0 [(15,p2)] avs vals s:=λ_ _ hX h=>Qll.endsL Qos Qov Qna Qad (λq hq=>by rw [List.mem_singleton] at hq;subst hq;exact ⟨List.mem_singleton.2 rfl,keep15 _ _,hπ⟩) hc hh he hX h
theorem rhead {bs:List (Nat×Ax.Place)} {a:AV} {ls:List AV} {v:Value} {vs:List Value} {s:AM} (he:RG n0 w0 cs0 bs [a] [v] s):RG n0 w0 cs0 bs (a::ls) (v::vs) s:=λX m hX h=>he X m ⟨hX.V,by have:=hX.r;rw [rels_cons_cons] at this ⊢;exact ⟨this.1,by rw [rels_nil]⟩⟩ h
theorem rend {bs:List (Nat×Ax.Place)} {avs:List AV} {vals:List Value} {s:AM} (hz:EZ s):RG n0 w0 cs0 bs avs vals s:=λ_ _ _ h=>ZU.Qlr Qos Qov Qna Q3q hz h
theorem rpart {bs:List (Nat×Ax.Place)} {avs:List AV} {vals:List Value} {t:StC} {l:List Fact} (op:BinOp) (a b:E) (ha:a.okB t.vs=true) (hb:b.okB t.vs=true) (h1:RG n0 w0 cs0 bs avs vals (wf t (⟨op,a,b,true⟩::l))) (h2:RG n0 w0 cs0 bs avs vals (wf t (⟨op,a,b,false⟩::l))):
 RG n0 w0 cs0 bs avs vals (wf t l):=
 λX m hX h=>(Sim.partC (t:={ t with fs:=l}) h op a b ha hb).elim (h1 X m hX) (h2 X m hX)
theorem rread {L2:Int} {ls:List AV} {vs:List Value} {t:StC} {i idx:Nat} (hI:RnIn n0 w0 p2 L2) (hcur:t.fr.cur= .reg Z75 7 (Z75.drop 7)) (hcs:t.cs=[]) (hnt:t.fr.nt=285) (ha:(t.am 8000).fr.tm.get 163=some (.wslice 15 0 0 1 17))
 (hi:(t.am 8000).fr.tm.get 167=some (.int .i64 (.bin .rem .i64 (eL i) (.var 17)))) (hf:t.fs[idx]?=some (yF true)) (hfree:(Q55 8000 t.l).get t.next=none) (he:RG n0 w0 cs0 [(15,p2)] (iX (.var 17)::ls) (.int .i64 L2::vs) (rd t)):
 RG n0 w0 cs0 [(15,p2)] (iX (.var 17)::ls) (.int .i64 L2::vs) (t.am 8000):=λX m hX h=>by
 obtain ⟨o1,o2,rest,q1,q2,q3,q4,q5,q6,q7⟩:=rn_ops;have hr:=hX.r;rw [rels_cons_cons] at hr;have e2:=hr.1;simp only [AV.rel,E.den,Value.int.injEq,true_and] at e2;have hv:=(h.ctx.2 _ (List.mem_of_getElem? hf)).1
 have hpos:0<X.O.int 17:=by simp only [Fact.ok,yF,Y2,E.den,decide_eq_true_eq] at hv;exact hv
 obtain ⟨n,hn⟩:∃n:Nat,X.O.int 17=n:=⟨(X.O.int 17).toNat,by omega⟩;have hden:(E.bin .rem .i64 (eL i) (.var 17)).den X.O=Int.tmod (i:Int) (X.O.int 17):=rfl
 obtain ⟨Y,m',st,hle,hs⟩:=Sim.readI (t:=t) (room:=8000) Qos Qov Qad h (by rw [hcur,q1]) hcs q2 q3 q4 q5 (by decide) (by rw [hnt];decide) (by rw [hnt];decide) q6 q7
  (show GF.T.ty 22=some ti22 by kernel_rfl) rfl (show GF.T.ty 3=some ti3 by kernel_rfl) rfl (show GF.T.ty 3=some ti3 by kernel_rfl) rfl ha hi
  (by rw [hden];exact Int.tmod_nonneg _ (by omega)) (by rw [hden];exact Int.tmod_lt_of_pos _ hpos) (hX.V (15,p2) (by simp)) hI.lt hn (λi hin=>hI.cell i (by rw [e2.2];omega)) hfree
 exact .of_steps st (he Y m' ⟨λq hq=>hle.V _ _ (hX.V q hq),AV.ZC hle _ _ hX.r⟩ hs)
theorem ruse {n k:Nat} {t:StC} {C:List (List Nat)} {R W:List Int} {L2:Int} (hR:R.length=n) (hD:RnD C R W) (hok:C.all (λf=>(clU n k f).all (λg=>g.a.okB t.vs&&g.b.okB t.vs))=true)
 (hall:∀f∈C,RG n0 w0 cs0 [(15,p2)] (rvB n k) (vvB L2 R W) (wf t (clU n k f++t.fs))):RG n0 w0 cs0 [(15,p2)] (rvB n k) (vvB L2 R W) (t.am 8000):=λX m hX h=>by
 obtain ⟨f,hf,ho,he,hb⟩:=hD;have hr:=hX.r;unfold rvB vvB at hr;rw [rels_cons_cons] at hr;obtain ⟨hden,-⟩:=rels_ints hr.2;rw [List.map_append] at hden;obtain ⟨h1,h2⟩:=List.append_inj hden (by simp [REL,hR]);have hbd:∀e∈REL n,-1000000<=e.den X.O/\e.den X.O<=1000000:=λe he=>by
  have:e.den X.O∈R:=by rw [<-h1];exact List.mem_map.2 ⟨e,he,rfl⟩
  have:=hb _ this;omega
 have hcl:∀g∈clU n k f,g.ok X.O:=by
  intro g hg;rcases List.mem_append.1 hg with hg|hg;exact Qnw hbd (by rw [h1];exact ho) g hg;refine clW_ok hbd (λp hp=>?_) g hg;have hq:(p.1.den X.O,p.2)∈R.zip f:=by rw [<-h1,List.zip_map_left];exact List.mem_map.2 ⟨p,hp,rfl⟩
  have:=he _ hq;simp only at this;rw [this,<-h2];simp only [List.getD,List.getElem?_map];cases (WEL k)[p.2]?<;>rfl
 exact hall f hf X m hX (Sim.addC (t:=t) (l:=t.fs) h hcl (List.all_eq_true.1 hok f hf))
theorem rcl {n k L:Nat} {f:List Nat} {u t:StC} {j:List Nat} {U:Sb} {π:List (Nat×Nat)} {R W:List Int} {L2:Int} (hh:HU L n k f u j U π t) (he:RG n0 w0 cs0 [(15,p2)] [iX (.var 17)] [.int .i64 L2] (t.am 8000))
 (hc:rkL U t.vs (Zi GF.T.ng (qkU u t)) (Q9q π) [iX (.var 17)] [iX (.var 17)]=true:=by kernel_rfl) (hπ:Q9q π 15=15:=by rfl):RG n0 w0 cs0 [(15,p2)] (rvB n k) (vvB L2 R W) (wf u (clU n k f++u.fs)):=
 rhead λ_ _ hX h=>Qll.endsL Qos Qov Qna Qad (λq hq=>by rw [List.mem_singleton] at hq;subst hq;exact ⟨List.mem_singleton.2 rfl,keep15 _ _,hπ⟩) hc hh he hX h
theorem rhe {u t:StC} {j:List Nat} {U:Sb} {π:List (Nat×Nat)} {L2:Int} (hh:HE u j U π t) (he:RG n0 w0 cs0 [(15,p2)] [iX (.var 17)] [.int .i64 L2] (t.am 8000))
 (hc:rkL U t.vs (Zi GF.T.ng (qkU u t)) (Q9q π) [iX (.var 17)] [iX (.var 17)]=true:=by kernel_rfl) (hπ:Q9q π 15=15:=by rfl):RG n0 w0 cs0 [(15,p2)] [iX (.var 17)] [.int .i64 L2] (u.am 8000):=
 λ_ _ hX h=>Qll.endsL Qos Qov Qna Qad (λq hq=>by rw [List.mem_singleton] at hq;subst hq;exact ⟨List.mem_singleton.2 rfl,keep15 _ _,hπ⟩) hc hh he hX h
def RS (n0:Nat) (w0:World) (cs0:List Frame) (p2:Ax.Place) (L2:Int) (n k:Nat) (C:List (List Nat)) (t:StC):Prop:=∀R W:List Int,R.length=n->RnD C R W->RG n0 w0 cs0 [(15,p2)] (rvB n k) (vvB L2 R W) (t.am 8000)
def RQ (n0:Nat) (w0:World) (cs0:List Frame) (p1 p2:Ax.Place) (vals:List Value) (c n:Nat) (f:List Nat):Prop:=∀X m,Qfx [(14,p1),(15,p2)] rnA vals X->OrdL ((pkL n).map (·.den X.O)) f->Sim Tryz.prog GF n0 w0 cs0 X (qst n (clF (pkL n) f++(rnL c++sQ.fs))) m->ZU Tryz.prog n0 w0 cs0 3 m
theorem pk_has (X:Ext) (i:Nat):0<=(pkE i).den X.O/\(pkE i).den X.O<=999:=Qds (n:=1000) (by decide) _
theorem t_den (X:Ext) (i:Nat):(tE i).den X.O=(pkE i).den X.O+1:=by have h:=pk_has X i;show IntKind.i64.wrap ((pkE i).den X.O+1)=_;rw [Q6];omega
theorem rqf {c n k:Nat} {f j:List Nat} {π:List (Nat×Nat)} {t:StC} {C:List (List Nat)} {L1 L2:Int} {v0 v1:Value} {S:Nat->Int} (hh:HK c n k f j π t) (hS:RS n0 w0 cs0 p2 L2 n k C t) (hC:f∈C:=by decide) (hl:f.length=n:=by rfl) (hn:n<=4:=by decide) (hk:f.all (λx=>Nat.blt x k)=true:=by rfl)
 (hrep:(List.range k).all (λj=>Nat.blt (rep f j) n)=true:=by rfl) (hc:rkL (rnσ f k) t.vs (Zi GF.T.ng (qkK t)) (Q9q π) (rvK n k f) (rvB n k)=true:=by kernel_rfl) (hπ:Q9q π 15=15:=by rfl):RQ n0 w0 cs0 p1 p2 (vvA L1 L2 v0 v1 S) c n f:=λX m hX ho h=>by
 have hr:=hX.r;simp only [rnA,vvA,rels_cons_cons] at hr;obtain ⟨-,r2,-,-,r5,r6,r7,r8,-⟩:=hr;have hd:∀i,i<4->(E.var (20+i)).ok X.dom:=λi hi=>by
  simp only [AV.rel] at r5 r6 r7 r8;match i,hi with
  |0,_=>exact r5.1
  |1,_=>exact r6.1
  |2,_=>exact r7.1
  |3,_=>exact r8.1
 have ht:∀i,i<n->(tE i).ok X.dom:=λi hi=>⟨hd i (by omega),trivial⟩
 have hlen:((pkL n).map (·.den X.O)).length=f.length:=by rw [hl];simp [pkL]
 have hbd:∀v∈(pkL n).map (·.den X.O),0<=v/\v<=999:=λv hv=>by obtain ⟨e,he,rfl⟩:=List.mem_map.1 hv;obtain ⟨i,-,rfl⟩:=List.mem_map.1 he;exact pk_has X i
 have hD:=Zb1 hC ho hlen hk hbd;refine Qll.endsL (bs:=[(15,p2)]) (bs' :=[(15,p2)]) (avs:=rvK n k f) Qos Qov Qna Qad (λq hq=>by rw [List.mem_singleton] at hq;subst hq;exact ⟨List.mem_singleton.2 rfl,keep15 _ _,hπ⟩) hc hh (hS _ _ (by simp [pkL]) hD) ⟨λq hq=>hX.V q (by simp at hq;simp [hq]),?_⟩ h;unfold rvK vvB;rw [rels_cons_cons];refine ⟨r2,?_⟩;have key:(((List.range n).map tE++(List.range k).map λj=>tE (rep f j)).map (·.den X.O))=((pkL n).map (·.den X.O)).map (. +1)++(List.range k).map λj=>((pkL n).map (·.den X.O)).getD (rep f j) 0+1:=by
  rw [List.map_append];congr 1;simp only [pkL,List.map_map];exact List.map_congr_left λi _=>t_den X i
  simp only [List.map_map];refine List.map_congr_left λj hj=>?_
  have h1:=List.all_eq_true.1 hrep j hj;rw [Nat.blt_eq] at h1;show (tE (rep f j)).den X.O=_
  rw [t_den];simp [pkL,List.getD,List.getElem?_range h1]
 rw [<-key];refine rels_of_ok λe he=>?_
 rcases List.mem_append.1 he with he|he;obtain ⟨i,hi,rfl⟩:=List.mem_map.1 he;exact ht i (by simpa using hi);obtain ⟨j,hj,rfl⟩:=List.mem_map.1 he;have h1:=List.all_eq_true.1 hrep j hj;rw [Nat.blt_eq] at h1;exact ht _ h1
theorem rqc {c n:Nat} {O:List (List Nat)} {L1 L2:Int} {v0 v1:Value} {S:Nat->Int} (hI:RnOne n0 w0 p1 L1 S) (hex:∀V:List Int,V.length=n->∃f∈O,OrdL V f) (hall:∀f∈O,RQ n0 w0 cs0 p1 p2 (vvA L1 L2 v0 v1 S) c n f) (hok:O.all (λf=>(clF (pkL n) f).all (λg=>g.a.okB sQ.vs&&g.b.okB sQ.vs))=true:=by kernel_rfl)
 (hn:n<=4:=by decide) (hrev:n=0\/gF (n-1) true∈rnL c:=by first|exact .inl rfl|exact .inr (by simp [rnL])):RG n0 w0 cs0 [(14,p1),(15,p2)] rnA (vvA L1 L2 v0 v1 S) (wf sQ (rnL c++sQ.fs)):=λX m hX h=>by
 obtain ⟨f,hf,ho⟩:=hex ((pkL n).map (·.den X.O)) (by simp [pkL]);have hbd:∀e∈pkL n,-1000000<=e.den X.O/\e.den X.O<=1000000:=λe he=>by obtain ⟨i,-,rfl⟩:=List.mem_map.1 he;have:=pk_has X i;omega
 have h1:=Sim.addC (t:=sQ) (l:=rnL c++sQ.fs) h (Qnw hbd ho) (List.all_eq_true.1 hok f hf);refine hall f hf X m hX ho ?_;cases n with
 |zero=>exact h1
 |succ k=>
  have hr:=hX.r;simp only [rnA,vvA,rels_cons_cons] at hr;obtain ⟨e1,-,-,-,r5,r6,r7,r8,-⟩:=hr;simp only [AV.rel,E.den,Value.int.injEq,true_and] at e1;have hfm:gF k true∈rnL c:=by rcases hrev with h' |h';cases h';exact h'
  have hv:=(h.ctx.2 _ (List.mem_append.2 (.inl hfm))).1
  simp only [Fact.ok,gF,Y2,E.den,decide_eq_true_eq] at hv;have hk1:((k:Nat):Int)<L1:=by rw [e1.2];exact hv
  obtain ⟨L,hL⟩:∃L:Nat,L1=L:=⟨L1.toNat,by omega⟩;have hts:AV.QF X rnts [.int .i64 (S 0), .int .i64 (S 1), .int .i64 (S 2), .int .i64 (S 3)]:=by simp only [rnts,rels_cons_cons];exact ⟨r5,r6,r7,r8,by rw [rels_nil]⟩
  exact Sim.revealW (pl:=p1) (b:=14) (t:={ sQ with fs:=clF (pkL (k+1)) f++(rnL c++sQ.fs)}) (len:=L) (k0:=0) (k:=k+1) h1 rfl rfl (by kernel_rfl) (hX.V (14,p1) (by simp)) hI.lt (hI.big (by omega)) hts (λi v hv hi=>by
   have:=hI.cell i (by omega);match i,hv with
   |0,hv|1,hv|2,hv|3,hv=>cases hv;exact this
   |i+4,hv=>simp at hv) (by omega) (by have:=hI.fit;omega) (by kernel_rfl) (by rw [<-e1.2];exact hL)
theorem rE1 {L2:Int}:RG n0 w0 cs0 [(15,p2)] [iX (.var 17)] [.int .i64 L2] (sE1.am 8000):=rend zE1
theorem rE2 {L2:Int}:RG n0 w0 cs0 [(15,p2)] [iX (.var 17)] [.int .i64 L2] (sE2.am 8000):=rend zE2
theorem rE3 {L2:Int}:RG n0 w0 cs0 [(15,p2)] [iX (.var 17)] [.int .i64 L2] (sE3.am 8000):=rend zE3
theorem rE4 {L2:Int}:RG n0 w0 cs0 [(15,p2)] [iX (.var 17)] [.int .i64 L2] (sE4.am 8000):=rend zE4
theorem rF0 {L2:Int} (hI:RnIn n0 w0 p2 L2):RG n0 w0 cs0 [(15,p2)] [iX (.var 17)] [.int .i64 L2] (sF0.am 8000):=
 rread (i:=6) (idx:=0) hI rfl rfl rfl (by kernel_rfl) (by kernel_rfl) (by kernel_rfl) (by kernel_rfl)<|
 rhop hL00<|
 rren hG0<|
 rread (i:=7) (idx:=0) hI rfl rfl rfl (by kernel_rfl) (by kernel_rfl) (by kernel_rfl) (by kernel_rfl)<|
 rren hZ0<|
 rend zZ0
theorem rF1 {L2:Int} (hI:RnIn n0 w0 p2 L2):RG n0 w0 cs0 [(15,p2)] [iX (.var 17)] [.int .i64 L2] (sF1.am 8000):=
 rread (i:=6) (idx:=12) hI rfl rfl rfl (by kernel_rfl) (by kernel_rfl) (by kernel_rfl) (by kernel_rfl)<|
 rhop hL10<|
 rren hG1<|
 rread (i:=7) (idx:=12) hI rfl rfl rfl (by kernel_rfl) (by kernel_rfl) (by kernel_rfl) (by kernel_rfl)<|
 rren hZ1<|
 rend zZ1
theorem rF2 {L2:Int} (hI:RnIn n0 w0 p2 L2):RG n0 w0 cs0 [(15,p2)] [iX (.var 17)] [.int .i64 L2] (sF2.am 8000):=
 rread (i:=6) (idx:=16) hI rfl rfl rfl (by kernel_rfl) (by kernel_rfl) (by kernel_rfl) (by kernel_rfl)<|
 rhop hL20<|
 rren hG2<|
 rread (i:=7) (idx:=16) hI rfl rfl rfl (by kernel_rfl) (by kernel_rfl) (by kernel_rfl) (by kernel_rfl)<|
 rren hZ2<|
 rend zZ2
theorem rF3 {L2:Int} (hI:RnIn n0 w0 p2 L2):RG n0 w0 cs0 [(15,p2)] [iX (.var 17)] [.int .i64 L2] (sF3.am 8000):=
 rread (i:=6) (idx:=24) hI rfl rfl rfl (by kernel_rfl) (by kernel_rfl) (by kernel_rfl) (by kernel_rfl)<|
 rhop hL30<|
 rren hG3<|
 rread (i:=7) (idx:=24) hI rfl rfl rfl (by kernel_rfl) (by kernel_rfl) (by kernel_rfl) (by kernel_rfl)<|
 rren hZ3<|
 rend zZ3
theorem rF4 {L2:Int} (hI:RnIn n0 w0 p2 L2):RG n0 w0 cs0 [(15,p2)] [iX (.var 17)] [.int .i64 L2] (sF4.am 8000):=
 rread (i:=6) (idx:=32) hI rfl rfl rfl (by kernel_rfl) (by kernel_rfl) (by kernel_rfl) (by kernel_rfl)<|
 rhop hL40<|
 rren hG4<|
 rread (i:=7) (idx:=32) hI rfl rfl rfl (by kernel_rfl) (by kernel_rfl) (by kernel_rfl) (by kernel_rfl)<|
 rren hZ4<|
 rend zZ4
theorem rV21n {L2:Int} (_:RnIn n0 w0 p2 L2):RG n0 w0 cs0 [(15,p2)] [iX (.var 17)] [.int .i64 L2] (Qp4.am 8000):=rhe Zgl rE1
theorem rV31n {L2:Int} (_:RnIn n0 w0 p2 L2):RG n0 w0 cs0 [(15,p2)] [iX (.var 17)] [.int .i64 L2] (Z71.am 8000):=rhe Zgh rE1
theorem rV41n {L2:Int} (_:RnIn n0 w0 p2 L2):RG n0 w0 cs0 [(15,p2)] [iX (.var 17)] [.int .i64 L2] (Z6z.am 8000):=rhe Zgb rE1
theorem rV21y {L2:Int} (hI:RnIn n0 w0 p2 L2):RG n0 w0 cs0 [(15,p2)] [iX (.var 17)] [.int .i64 L2] (Qot.am 8000):=rhe Zgk (rF1 hI)
theorem rV31y {L2:Int} (hI:RnIn n0 w0 p2 L2):RG n0 w0 cs0 [(15,p2)] [iX (.var 17)] [.int .i64 L2] (Z70.am 8000):=rhe Zgg (rF1 hI)
theorem rV41y {L2:Int} (hI:RnIn n0 w0 p2 L2):RG n0 w0 cs0 [(15,p2)] [iX (.var 17)] [.int .i64 L2] (Z6y.am 8000):=rhe Zga (rF1 hI)
theorem rV22n {L2:Int} (_:RnIn n0 w0 p2 L2):RG n0 w0 cs0 [(15,p2)] [iX (.var 17)] [.int .i64 L2] (Qso.am 8000):=rhe Zgj rE2
theorem rV32n {L2:Int} (_:RnIn n0 w0 p2 L2):RG n0 w0 cs0 [(15,p2)] [iX (.var 17)] [.int .i64 L2] (Qry.am 8000):=rhe Zgf rE2
theorem rV42n {L2:Int} (_:RnIn n0 w0 p2 L2):RG n0 w0 cs0 [(15,p2)] [iX (.var 17)] [.int .i64 L2] (Qpz.am 8000):=rhe Zg9 rE2
theorem rV22y {L2:Int} (hI:RnIn n0 w0 p2 L2):RG n0 w0 cs0 [(15,p2)] [iX (.var 17)] [.int .i64 L2] (Qsn.am 8000):=rhe Zgi (rF2 hI)
theorem rV32y {L2:Int} (hI:RnIn n0 w0 p2 L2):RG n0 w0 cs0 [(15,p2)] [iX (.var 17)] [.int .i64 L2] (Qrx.am 8000):=rhe Zge (rF2 hI)
theorem rV42y {L2:Int} (hI:RnIn n0 w0 p2 L2):RG n0 w0 cs0 [(15,p2)] [iX (.var 17)] [.int .i64 L2] (Qpy.am 8000):=rhe Zg8 (rF2 hI)
theorem rV33n {L2:Int} (_:RnIn n0 w0 p2 L2):RG n0 w0 cs0 [(15,p2)] [iX (.var 17)] [.int .i64 L2] (Qr6.am 8000):=rhe Zgd rE3
theorem rV43n {L2:Int} (_:RnIn n0 w0 p2 L2):RG n0 w0 cs0 [(15,p2)] [iX (.var 17)] [.int .i64 L2] (Qok.am 8000):=rhe Zg7 rE3
theorem rV33y {L2:Int} (hI:RnIn n0 w0 p2 L2):RG n0 w0 cs0 [(15,p2)] [iX (.var 17)] [.int .i64 L2] (Qr5.am 8000):=rhe Zgc (rF3 hI)
theorem rV43y {L2:Int} (hI:RnIn n0 w0 p2 L2):RG n0 w0 cs0 [(15,p2)] [iX (.var 17)] [.int .i64 L2] (Qoj.am 8000):=rhe Zg6 (rF3 hI)
theorem rV44n {L2:Int} (_:RnIn n0 w0 p2 L2):RG n0 w0 cs0 [(15,p2)] [iX (.var 17)] [.int .i64 L2] (Qow.am 8000):=rhe Zg5 rE4
theorem rV44y {L2:Int} (hI:RnIn n0 w0 p2 L2):RG n0 w0 cs0 [(15,p2)] [iX (.var 17)] [.int .i64 L2] (Qoy.am 8000):=rhe Zg4 (rF4 hI)
theorem rU21n {L2:Int} (hI:RnIn n0 w0 p2 L2) {R W:List Int} (hR:R.length=2) (hD:RnD Z0s R W):RG n0 w0 cs0 [(15,p2)] (rvB 2 1) (vvB L2 R W) (Qqw.am 8000):=
 ruse hR hD (by kernel_rfl) (show ∀f∈[[0,0]],_ from fa_cons (rcl Z0b (rV21n hI))<|
 fa_nil)
theorem rU31n {L2:Int} (hI:RnIn n0 w0 p2 L2) {R W:List Int} (hR:R.length=3) (hD:RnD Z0q R W):RG n0 w0 cs0 [(15,p2)] (rvB 3 1) (vvB L2 R W) (Qs3.am 8000):=
 ruse hR hD (by kernel_rfl) (show ∀f∈[[0,0,0]],_ from fa_cons (rcl Qyi (rV31n hI))<|
 fa_nil)
theorem rU41n {L2:Int} (hI:RnIn n0 w0 p2 L2) {R W:List Int} (hR:R.length=4) (hD:RnD Z0n R W):RG n0 w0 cs0 [(15,p2)] (rvB 4 1) (vvB L2 R W) (Qr7.am 8000):=
 ruse hR hD (by kernel_rfl) (show ∀f∈[[0,0,0,0]],_ from fa_cons (rcl Qwz (rV41n hI))<|
 fa_nil)
theorem rT11_5 {L2:Int} (_:RnIn n0 w0 p2 L2) {R W:List Int} (hR:R.length=1) (hD:RnD Z0t R W):RG n0 w0 cs0 [(15,p2)] (rvB 1 1) (vvB L2 R W) (Qs9.am 8000):=
 ruse hR hD (by kernel_rfl) (show ∀f∈[[0]],_ from fa_cons (rcl Z0c rE1)<|
 fa_nil)
theorem rU21y {L2:Int} (hI:RnIn n0 w0 p2 L2) {R W:List Int} (hR:R.length=2) (hD:RnD Z0s R W):RG n0 w0 cs0 [(15,p2)] (rvB 2 1) (vvB L2 R W) (Z0j.am 8000):=
 ruse hR hD (by kernel_rfl) (show ∀f∈[[0,0]],_ from fa_cons (rcl Z0a (rV21y hI))<|
 fa_nil)
theorem rU31y {L2:Int} (hI:RnIn n0 w0 p2 L2) {R W:List Int} (hR:R.length=3) (hD:RnD Z0q R W):RG n0 w0 cs0 [(15,p2)] (rvB 3 1) (vvB L2 R W) (Qyj.am 8000):=
 ruse hR hD (by kernel_rfl) (show ∀f∈[[0,0,0]],_ from fa_cons (rcl Qyh (rV31y hI))<|
 fa_nil)
theorem rU41y {L2:Int} (hI:RnIn n0 w0 p2 L2) {R W:List Int} (hR:R.length=4) (hD:RnD Z0n R W):RG n0 w0 cs0 [(15,p2)] (rvB 4 1) (vvB L2 R W) (Qxi.am 8000):=
 ruse hR hD (by kernel_rfl) (show ∀f∈[[0,0,0,0]],_ from fa_cons (rcl Qwy (rV41y hI))<|
 fa_nil)
theorem rU11y {L2:Int} (hI:RnIn n0 w0 p2 L2) {R W:List Int} (hR:R.length=1) (hD:RnD Z0t R W):RG n0 w0 cs0 [(15,p2)] (rvB 1 1) (vvB L2 R W) (Qoz.am 8000):=
 ruse hR hD (by kernel_rfl) (show ∀f∈[[0]],_ from fa_cons (rcl Z1w (rF1 hI))<|
 fa_nil)
theorem rU22n {L2:Int} (hI:RnIn n0 w0 p2 L2) {R W:List Int} (hR:R.length=2) (hD:RnD Z0r R W):RG n0 w0 cs0 [(15,p2)] (rvB 2 2) (vvB L2 R W) (Z0i.am 8000):=
 ruse hR hD (by kernel_rfl) (show ∀f∈[[0,1],[1,0]],_ from fa_cons (rcl Z09 (rV22n hI))<|
 fa_cons (rcl Z08 (rV22n hI))<|
 fa_nil)
theorem rU32n {L2:Int} (hI:RnIn n0 w0 p2 L2) {R W:List Int} (hR:R.length=3) (hD:RnD Z0p R W):RG n0 w0 cs0 [(15,p2)] (rvB 3 2) (vvB L2 R W) (Qs2.am 8000):=
 ruse hR hD (by kernel_rfl) (show ∀f∈[[0,0,1],[0,1,0],[0,1,1],[1,0,0],[1,0,1],[1,1,0]],_ from fa_cons (rcl Qyg (rV32n hI))<|
 fa_cons (rcl Qyf (rV32n hI))<|
 fa_cons (rcl Qye (rV32n hI))<|
 fa_cons (rcl Qyd (rV32n hI))<|
 fa_cons (rcl Qyc (rV32n hI))<|
 fa_cons (rcl Qyb (rV32n hI))<|
 fa_nil)
theorem rU42n {L2:Int} (hI:RnIn n0 w0 p2 L2) {R W:List Int} (hR:R.length=4) (hD:RnD Z0m R W):RG n0 w0 cs0 [(15,p2)] (rvB 4 2) (vvB L2 R W) (Qq1.am 8000):=
 ruse hR hD (by kernel_rfl) (show ∀f∈[[0,0,0,1],[0,0,1,0],[0,0,1,1],[0,1,0,0],[0,1,0,1],[0,1,1,0],[0,1,1,1],[1,0,0,0],[1,0,0,1],[1,0,1,0],[1,0,1,1],[1,1,0,0],[1,1,0,1],[1,1,1,0]],_ from fa_cons (rcl Qwx (rV42n hI))<|
 fa_cons (rcl Qww (rV42n hI))<|
 fa_cons (rcl Qwv (rV42n hI))<|
 fa_cons (rcl Qwu (rV42n hI))<|
 fa_cons (rcl Qwt (rV42n hI))<|
 fa_cons (rcl Qws (rV42n hI))<|
 fa_cons (rcl Qwr (rV42n hI))<|
 fa_cons (rcl Qwq (rV42n hI))<|
 fa_cons (rcl Qwp (rV42n hI))<|
 fa_cons (rcl Qwo (rV42n hI))<|
 fa_cons (rcl Qwn (rV42n hI))<|
 fa_cons (rcl Qwm (rV42n hI))<|
 fa_cons (rcl Qwl (rV42n hI))<|
 fa_cons (rcl Qwk (rV42n hI))<|
 fa_nil)
theorem rU22y {L2:Int} (hI:RnIn n0 w0 p2 L2) {R W:List Int} (hR:R.length=2) (hD:RnD Z0r R W):RG n0 w0 cs0 [(15,p2)] (rvB 2 2) (vvB L2 R W) (Z0h.am 8000):=
 ruse hR hD (by kernel_rfl) (show ∀f∈[[0,1],[1,0]],_ from fa_cons (rcl Z07 (rV22y hI))<|
 fa_cons (rcl Z06 (rV22y hI))<|
 fa_nil)
theorem rU32y {L2:Int} (hI:RnIn n0 w0 p2 L2) {R W:List Int} (hR:R.length=3) (hD:RnD Z0p R W):RG n0 w0 cs0 [(15,p2)] (rvB 3 2) (vvB L2 R W) (Qs1.am 8000):=
 ruse hR hD (by kernel_rfl) (show ∀f∈[[0,0,1],[0,1,0],[0,1,1],[1,0,0],[1,0,1],[1,1,0]],_ from fa_cons (rcl Qya (rV32y hI))<|
 fa_cons (rcl Qy9 (rV32y hI))<|
 fa_cons (rcl Qy8 (rV32y hI))<|
 fa_cons (rcl Qy7 (rV32y hI))<|
 fa_cons (rcl Qy6 (rV32y hI))<|
 fa_cons (rcl Qy5 (rV32y hI))<|
 fa_nil)
theorem rU42y {L2:Int} (hI:RnIn n0 w0 p2 L2) {R W:List Int} (hR:R.length=4) (hD:RnD Z0m R W):RG n0 w0 cs0 [(15,p2)] (rvB 4 2) (vvB L2 R W) (Qq0.am 8000):=
 ruse hR hD (by kernel_rfl) (show ∀f∈[[0,0,0,1],[0,0,1,0],[0,0,1,1],[0,1,0,0],[0,1,0,1],[0,1,1,0],[0,1,1,1],[1,0,0,0],[1,0,0,1],[1,0,1,0],[1,0,1,1],[1,1,0,0],[1,1,0,1],[1,1,1,0]],_ from fa_cons (rcl Qwj (rV42y hI))<|
 fa_cons (rcl Qwi (rV42y hI))<|
 fa_cons (rcl Qwh (rV42y hI))<|
 fa_cons (rcl Qwg (rV42y hI))<|
 fa_cons (rcl Qwf (rV42y hI))<|
 fa_cons (rcl Qwe (rV42y hI))<|
 fa_cons (rcl Qwd (rV42y hI))<|
 fa_cons (rcl Qwc (rV42y hI))<|
 fa_cons (rcl Qwb (rV42y hI))<|
 fa_cons (rcl Qwa (rV42y hI))<|
 fa_cons (rcl Qw9 (rV42y hI))<|
 fa_cons (rcl Qw8 (rV42y hI))<|
 fa_cons (rcl Qw7 (rV42y hI))<|
 fa_cons (rcl Qw6 (rV42y hI))<|
 fa_nil)
theorem rU33n {L2:Int} (hI:RnIn n0 w0 p2 L2) {R W:List Int} (hR:R.length=3) (hD:RnD Z0o R W):RG n0 w0 cs0 [(15,p2)] (rvB 3 3) (vvB L2 R W) (Qs0.am 8000):=
 ruse hR hD (by kernel_rfl) (show ∀f∈[[0,1,2],[0,2,1],[1,0,2],[1,2,0],[2,0,1],[2,1,0]],_ from fa_cons (rcl Qy4 (rV33n hI))<|
 fa_cons (rcl Qy3 (rV33n hI))<|
 fa_cons (rcl Qy2 (rV33n hI))<|
 fa_cons (rcl Qy1 (rV33n hI))<|
 fa_cons (rcl Qy0 (rV33n hI))<|
 fa_cons (rcl Qxz (rV33n hI))<|
 fa_nil)
theorem rU43n {L2:Int} (hI:RnIn n0 w0 p2 L2) {R W:List Int} (hR:R.length=4) (hD:RnD Z0l R W):RG n0 w0 cs0 [(15,p2)] (rvB 4 3) (vvB L2 R W) (Qom.am 8000):=
 ruse hR hD (by kernel_rfl) (show ∀f∈[[0,0,1,2],[0,0,2,1],[0,1,0,2],[0,1,1,2],[0,1,2,0],[0,1,2,1],[0,1,2,2],[0,2,0,1],[0,2,1,0],[0,2,1,1],[0,2,1,2],[0,2,2,1],[1,0,0,2],[1,0,1,2],[1,0,2,0],[1,0,2,1],[1,0,2,2],[1,1,0,2],[1,1,2,0],[1,2,0,0],[1,2,0,1],[1,2,0,2],[1,2,1,0],[1,2,2,0],[2,0,0,1],[2,0,1,0],[2,0,1,1],[2,0,1,2],[2,0,2,1],[2,1,0,0],[2,1,0,1],[2,1,0,2],[2,1,1,0],[2,1,2,0],[2,2,0,1],[2,2,1,0]],_ from fa_cons (rcl Qw5 (rV43n hI))<|
 fa_cons (rcl Qw4 (rV43n hI))<|
 fa_cons (rcl Qw3 (rV43n hI))<|
 fa_cons (rcl Qw2 (rV43n hI))<|
 fa_cons (rcl Qw1 (rV43n hI))<|
 fa_cons (rcl Qw0 (rV43n hI))<|
 fa_cons (rcl Qvz (rV43n hI))<|
 fa_cons (rcl Qvy (rV43n hI))<|
 fa_cons (rcl Qvx (rV43n hI))<|
 fa_cons (rcl Qvw (rV43n hI))<|
 fa_cons (rcl Qvv (rV43n hI))<|
 fa_cons (rcl Qvu (rV43n hI))<|
 fa_cons (rcl Qvt (rV43n hI))<|
 fa_cons (rcl Qvs (rV43n hI))<|
 fa_cons (rcl Qvr (rV43n hI))<|
 fa_cons (rcl Qvq (rV43n hI))<|
 fa_cons (rcl Qvp (rV43n hI))<|
 fa_cons (rcl Qvo (rV43n hI))<|
 fa_cons (rcl Qvn (rV43n hI))<|
 fa_cons (rcl Qvm (rV43n hI))<|
 fa_cons (rcl Qvl (rV43n hI))<|
 fa_cons (rcl Qvk (rV43n hI))<|
 fa_cons (rcl Qvj (rV43n hI))<|
 fa_cons (rcl Qvi (rV43n hI))<|
 fa_cons (rcl Qvh (rV43n hI))<|
 fa_cons (rcl Qvg (rV43n hI))<|
 fa_cons (rcl Qvf (rV43n hI))<|
 fa_cons (rcl Qve (rV43n hI))<|
 fa_cons (rcl Qvd (rV43n hI))<|
 fa_cons (rcl Qvc (rV43n hI))<|
 fa_cons (rcl Qvb (rV43n hI))<|
 fa_cons (rcl Qva (rV43n hI))<|
 fa_cons (rcl Qv9 (rV43n hI))<|
 fa_cons (rcl Qv8 (rV43n hI))<|
 fa_cons (rcl Qv7 (rV43n hI))<|
 fa_cons (rcl Qv6 (rV43n hI))<|
 fa_nil)
theorem rU33y {L2:Int} (hI:RnIn n0 w0 p2 L2) {R W:List Int} (hR:R.length=3) (hD:RnD Z0o R W):RG n0 w0 cs0 [(15,p2)] (rvB 3 3) (vvB L2 R W) (Qrz.am 8000):=
 ruse hR hD (by kernel_rfl) (show ∀f∈[[0,1,2],[0,2,1],[1,0,2],[1,2,0],[2,0,1],[2,1,0]],_ from fa_cons (rcl Qxy (rV33y hI))<|
 fa_cons (rcl Qxx (rV33y hI))<|
 fa_cons (rcl Qxw (rV33y hI))<|
 fa_cons (rcl Qxv (rV33y hI))<|
 fa_cons (rcl Qxu (rV33y hI))<|
 fa_cons (rcl Qxt (rV33y hI))<|
 fa_nil)
theorem rU43y {L2:Int} (hI:RnIn n0 w0 p2 L2) {R W:List Int} (hR:R.length=4) (hD:RnD Z0l R W):RG n0 w0 cs0 [(15,p2)] (rvB 4 3) (vvB L2 R W) (Qol.am 8000):=
 ruse hR hD (by kernel_rfl) (show ∀f∈[[0,0,1,2],[0,0,2,1],[0,1,0,2],[0,1,1,2],[0,1,2,0],[0,1,2,1],[0,1,2,2],[0,2,0,1],[0,2,1,0],[0,2,1,1],[0,2,1,2],[0,2,2,1],[1,0,0,2],[1,0,1,2],[1,0,2,0],[1,0,2,1],[1,0,2,2],[1,1,0,2],[1,1,2,0],[1,2,0,0],[1,2,0,1],[1,2,0,2],[1,2,1,0],[1,2,2,0],[2,0,0,1],[2,0,1,0],[2,0,1,1],[2,0,1,2],[2,0,2,1],[2,1,0,0],[2,1,0,1],[2,1,0,2],[2,1,1,0],[2,1,2,0],[2,2,0,1],[2,2,1,0]],_ from fa_cons (rcl Qv5 (rV43y hI))<|
 fa_cons (rcl Qv4 (rV43y hI))<|
 fa_cons (rcl Qv3 (rV43y hI))<|
 fa_cons (rcl Qv2 (rV43y hI))<|
 fa_cons (rcl Qv1 (rV43y hI))<|
 fa_cons (rcl Qv0 (rV43y hI))<|
 fa_cons (rcl Quz (rV43y hI))<|
 fa_cons (rcl Quy (rV43y hI))<|
 fa_cons (rcl Qux (rV43y hI))<|
 fa_cons (rcl Quw (rV43y hI))<|
 fa_cons (rcl Quv (rV43y hI))<|
 fa_cons (rcl Quu (rV43y hI))<|
 fa_cons (rcl Qut (rV43y hI))<|
 fa_cons (rcl Qus (rV43y hI))<|
 fa_cons (rcl Qur (rV43y hI))<|
 fa_cons (rcl Quq (rV43y hI))<|
 fa_cons (rcl Qup (rV43y hI))<|
 fa_cons (rcl Quo (rV43y hI))<|
 fa_cons (rcl Qun (rV43y hI))<|
 fa_cons (rcl Qum (rV43y hI))<|
 fa_cons (rcl Qul (rV43y hI))<|
 fa_cons (rcl Quk (rV43y hI))<|
 fa_cons (rcl Quj (rV43y hI))<|
 fa_cons (rcl Qui (rV43y hI))<|
 fa_cons (rcl Quh (rV43y hI))<|
 fa_cons (rcl Qug (rV43y hI))<|
 fa_cons (rcl Quf (rV43y hI))<|
 fa_cons (rcl Que (rV43y hI))<|
 fa_cons (rcl Qud (rV43y hI))<|
 fa_cons (rcl Quc (rV43y hI))<|
 fa_cons (rcl Qub (rV43y hI))<|
 fa_cons (rcl Qu9 (rV43y hI))<|
 fa_cons (rcl Qu8 (rV43y hI))<|
 fa_cons (rcl Qu7 (rV43y hI))<|
 fa_cons (rcl Qu6 (rV43y hI))<|
 fa_cons (rcl Qu5 (rV43y hI))<|
 fa_nil)
theorem rU44n {L2:Int} (hI:RnIn n0 w0 p2 L2) {R W:List Int} (hR:R.length=4) (hD:RnD Z0k R W):RG n0 w0 cs0 [(15,p2)] (rvB 4 4) (vvB L2 R W) (Qp3.am 8000):=
 ruse hR hD (by kernel_rfl) (show ∀f∈[[0,1,2,3],[0,1,3,2],[0,2,1,3],[0,2,3,1],[0,3,1,2],[0,3,2,1],[1,0,2,3],[1,0,3,2],[1,2,0,3],[1,2,3,0],[1,3,0,2],[1,3,2,0],[2,0,1,3],[2,0,3,1],[2,1,0,3],[2,1,3,0],[2,3,0,1],[2,3,1,0],[3,0,1,2],[3,0,2,1],[3,1,0,2],[3,1,2,0],[3,2,0,1],[3,2,1,0]],_ from fa_cons (rcl Qu4 (rV44n hI))<|
 fa_cons (rcl Qu3 (rV44n hI))<|
 fa_cons (rcl Qu2 (rV44n hI))<|
 fa_cons (rcl Qu1 (rV44n hI))<|
 fa_cons (rcl Qu0 (rV44n hI))<|
 fa_cons (rcl Qtz (rV44n hI))<|
 fa_cons (rcl Qty (rV44n hI))<|
 fa_cons (rcl Qtx (rV44n hI))<|
 fa_cons (rcl Qtw (rV44n hI))<|
 fa_cons (rcl Qtv (rV44n hI))<|
 fa_cons (rcl Qtu (rV44n hI))<|
 fa_cons (rcl Qtt (rV44n hI))<|
 fa_cons (rcl Qts (rV44n hI))<|
 fa_cons (rcl Qtr (rV44n hI))<|
 fa_cons (rcl Qtq (rV44n hI))<|
 fa_cons (rcl Qtp (rV44n hI))<|
 fa_cons (rcl Qto (rV44n hI))<|
 fa_cons (rcl Qtn (rV44n hI))<|
 fa_cons (rcl Qtm (rV44n hI))<|
 fa_cons (rcl Qtl (rV44n hI))<|
 fa_cons (rcl Qtk (rV44n hI))<|
 fa_cons (rcl Qtj (rV44n hI))<|
 fa_cons (rcl Qti (rV44n hI))<|
 fa_cons (rcl Qth (rV44n hI))<|
 fa_nil)
theorem rU44y {L2:Int} (hI:RnIn n0 w0 p2 L2) {R W:List Int} (hR:R.length=4) (hD:RnD Z0k R W):RG n0 w0 cs0 [(15,p2)] (rvB 4 4) (vvB L2 R W) (Qp2.am 8000):=
 ruse hR hD (by kernel_rfl) (show ∀f∈[[0,1,2,3],[0,1,3,2],[0,2,1,3],[0,2,3,1],[0,3,1,2],[0,3,2,1],[1,0,2,3],[1,0,3,2],[1,2,0,3],[1,2,3,0],[1,3,0,2],[1,3,2,0],[2,0,1,3],[2,0,3,1],[2,1,0,3],[2,1,3,0],[2,3,0,1],[2,3,1,0],[3,0,1,2],[3,0,2,1],[3,1,0,2],[3,1,2,0],[3,2,0,1],[3,2,1,0]],_ from fa_cons (rcl Qtg (rV44y hI))<|
 fa_cons (rcl Qtf (rV44y hI))<|
 fa_cons (rcl Qte (rV44y hI))<|
 fa_cons (rcl Qtd (rV44y hI))<|
 fa_cons (rcl Qtc (rV44y hI))<|
 fa_cons (rcl Qtb (rV44y hI))<|
 fa_cons (rcl Qta (rV44y hI))<|
 fa_cons (rcl Qt9 (rV44y hI))<|
 fa_cons (rcl Qt8 (rV44y hI))<|
 fa_cons (rcl Qt7 (rV44y hI))<|
 fa_cons (rcl Qt6 (rV44y hI))<|
 fa_cons (rcl Qt5 (rV44y hI))<|
 fa_cons (rcl Qt4 (rV44y hI))<|
 fa_cons (rcl Qt3 (rV44y hI))<|
 fa_cons (rcl Qt2 (rV44y hI))<|
 fa_cons (rcl Qt1 (rV44y hI))<|
 fa_cons (rcl Qt0 (rV44y hI))<|
 fa_cons (rcl Qsz (rV44y hI))<|
 fa_cons (rcl Qsy (rV44y hI))<|
 fa_cons (rcl Qsx (rV44y hI))<|
 fa_cons (rcl Qsw (rV44y hI))<|
 fa_cons (rcl Qsv (rV44y hI))<|
 fa_cons (rcl Qsu (rV44y hI))<|
 fa_cons (rcl Qst (rV44y hI))<|
 fa_nil)
theorem rS00 {L2:Int} (hI:RnIn n0 w0 p2 L2):RS n0 w0 cs0 p2 L2 0 0 [[]] Qq8:=λR W hR hD=>
 show RG n0 w0 cs0 [(15,p2)] (rvB 0 0) (vvB L2 R W) (wf Qq8 Qq8.fs) from
 rpart .gtr (.var 17) (eL 0) rfl rfl
 (rhop Zfr<|
 rread (i:=0) (idx:=0) hI rfl rfl rfl (by kernel_rfl) (by kernel_rfl) (by kernel_rfl) (by kernel_rfl)<|
 rren Zfq<|
 rread (i:=1) (idx:=2) hI rfl rfl rfl (by kernel_rfl) (by kernel_rfl) (by kernel_rfl) (by kernel_rfl)<|
 rren Zfp<|
 rread (i:=2) (idx:=4) hI rfl rfl rfl (by kernel_rfl) (by kernel_rfl) (by kernel_rfl) (by kernel_rfl)<|
 rhop Z9x<|
 rhop Z9w<|
 rhop Z9v<|
 rren Zfo<|
 rread (i:=3) (idx:=0) hI rfl rfl rfl (by kernel_rfl) (by kernel_rfl) (by kernel_rfl) (by kernel_rfl)<|
 rhop Z9u<|
 rren Zfn<|
 rread (i:=4) (idx:=0) hI rfl rfl rfl (by kernel_rfl) (by kernel_rfl) (by kernel_rfl) (by kernel_rfl)<|
 rhop Z9t<|
 rren Zfm<|
 rread (i:=5) (idx:=0) hI rfl rfl rfl (by kernel_rfl) (by kernel_rfl) (by kernel_rfl) (by kernel_rfl)<|
 rhop Z9s<|
 rren hF0<|
 (show RG n0 w0 cs0 [(15,p2)] (iX (.var 17)::[]) (.int .i64 L2::_) (sF0.am 8000) from rhead (rF0 hI)))
 (rren Zdx<|
 rren Zdw<|
 rren Zdv<|
 rend Zao)
theorem rS11 {L2:Int} (hI:RnIn n0 w0 p2 L2):RS n0 w0 cs0 p2 L2 1 1 Z0t Qq2:=λR W hR hD=>
 show RG n0 w0 cs0 [(15,p2)] (rvB 1 1) (vvB L2 R W) (wf Qq2 Qq2.fs) from
 rpart .gtr (.var 17) (eL 0) rfl rfl
 (rhop Zfl<|
 rread (i:=0) (idx:=0) hI rfl rfl rfl (by kernel_rfl) (by kernel_rfl) (by kernel_rfl) (by kernel_rfl)<|
 rren Zfk<|
 rread (i:=1) (idx:=2) hI rfl rfl rfl (by kernel_rfl) (by kernel_rfl) (by kernel_rfl) (by kernel_rfl)<|
 rren Zfj<|
 rread (i:=2) (idx:=4) hI rfl rfl rfl (by kernel_rfl) (by kernel_rfl) (by kernel_rfl) (by kernel_rfl)<|
 rhop Z9r<|
 rhop Z9q<|
 rhop Z9p<|
 rren Zfi<|
 rread (i:=3) (idx:=0) hI rfl rfl rfl (by kernel_rfl) (by kernel_rfl) (by kernel_rfl) (by kernel_rfl)<|
 rhop Z9o<|
 rren Zfh<|
 rread (i:=4) (idx:=0) hI rfl rfl rfl (by kernel_rfl) (by kernel_rfl) (by kernel_rfl) (by kernel_rfl)<|
 rhop Z9n<|
 rren Zfg<|
 rread (i:=5) (idx:=0) hI rfl rfl rfl (by kernel_rfl) (by kernel_rfl) (by kernel_rfl) (by kernel_rfl)<|
 rhop hU11y<|
 rU11y hI hR hD)
 (rren Zdu<|
 rren Zdt<|
 rren Zds<|
 rT11_5 hI hR hD)
theorem rS21 {L2:Int} (hI:RnIn n0 w0 p2 L2):RS n0 w0 cs0 p2 L2 2 1 Z0s Qrh:=λR W hR hD=>
 show RG n0 w0 cs0 [(15,p2)] (rvB 2 1) (vvB L2 R W) (wf Qrh Qrh.fs) from
 rpart .gtr (.var 17) (eL 0) rfl rfl
 (rhop Zff<|
 rread (i:=0) (idx:=0) hI rfl rfl rfl (by kernel_rfl) (by kernel_rfl) (by kernel_rfl) (by kernel_rfl)<|
 rren Zfe<|
 rread (i:=1) (idx:=2) hI rfl rfl rfl (by kernel_rfl) (by kernel_rfl) (by kernel_rfl) (by kernel_rfl)<|
 rren Zfd<|
 rread (i:=2) (idx:=4) hI rfl rfl rfl (by kernel_rfl) (by kernel_rfl) (by kernel_rfl) (by kernel_rfl)<|
 rhop Z9m<|
 rhop Z9l<|
 rhop Z9k<|
 rren Zfc<|
 rread (i:=3) (idx:=0) hI rfl rfl rfl (by kernel_rfl) (by kernel_rfl) (by kernel_rfl) (by kernel_rfl)<|
 rhop Z9j<|
 rren Zfb<|
 rread (i:=4) (idx:=0) hI rfl rfl rfl (by kernel_rfl) (by kernel_rfl) (by kernel_rfl) (by kernel_rfl)<|
 rhop Z9i<|
 rren Zfa<|
 rread (i:=5) (idx:=0) hI rfl rfl rfl (by kernel_rfl) (by kernel_rfl) (by kernel_rfl) (by kernel_rfl)<|
 rhop Zg0<|
 rhop hU21y<|
 rU21y hI hR hD)
 (rren Zdr<|
 rren Zdq<|
 rhop hU21n<|
 rU21n hI hR hD)
theorem rS22 {L2:Int} (hI:RnIn n0 w0 p2 L2):RS n0 w0 cs0 p2 L2 2 2 Z0r Qql:=λR W hR hD=>
 show RG n0 w0 cs0 [(15,p2)] (rvB 2 2) (vvB L2 R W) (wf Qql Qql.fs) from
 rpart .gtr (.var 17) (eL 0) rfl rfl
 (rhop Zf9<|
 rread (i:=0) (idx:=0) hI rfl rfl rfl (by kernel_rfl) (by kernel_rfl) (by kernel_rfl) (by kernel_rfl)<|
 rren Zf8<|
 rread (i:=1) (idx:=2) hI rfl rfl rfl (by kernel_rfl) (by kernel_rfl) (by kernel_rfl) (by kernel_rfl)<|
 rren Zf7<|
 rread (i:=2) (idx:=4) hI rfl rfl rfl (by kernel_rfl) (by kernel_rfl) (by kernel_rfl) (by kernel_rfl)<|
 rhop Z9h<|
 rhop Z9g<|
 rhop Z9f<|
 rren Zf6<|
 rread (i:=3) (idx:=0) hI rfl rfl rfl (by kernel_rfl) (by kernel_rfl) (by kernel_rfl) (by kernel_rfl)<|
 rhop Z9e<|
 rren Zf5<|
 rread (i:=4) (idx:=0) hI rfl rfl rfl (by kernel_rfl) (by kernel_rfl) (by kernel_rfl) (by kernel_rfl)<|
 rhop Z9d<|
 rren Zf4<|
 rread (i:=5) (idx:=0) hI rfl rfl rfl (by kernel_rfl) (by kernel_rfl) (by kernel_rfl) (by kernel_rfl)<|
 rhop Zfz<|
 rhop hU22y<|
 rU22y hI hR hD)
 (rren Zdp<|
 rren Zdo<|
 rhop hU22n<|
 rU22n hI hR hD)
theorem rS31 {L2:Int} (hI:RnIn n0 w0 p2 L2):RS n0 w0 cs0 p2 L2 3 1 Z0q Qr8:=λR W hR hD=>
 show RG n0 w0 cs0 [(15,p2)] (rvB 3 1) (vvB L2 R W) (wf Qr8 Qr8.fs) from
 rpart .gtr (.var 17) (eL 0) rfl rfl
 (rhop Zf3<|
 rread (i:=0) (idx:=0) hI rfl rfl rfl (by kernel_rfl) (by kernel_rfl) (by kernel_rfl) (by kernel_rfl)<|
 rren Zf2<|
 rread (i:=1) (idx:=2) hI rfl rfl rfl (by kernel_rfl) (by kernel_rfl) (by kernel_rfl) (by kernel_rfl)<|
 rren Zf1<|
 rread (i:=2) (idx:=4) hI rfl rfl rfl (by kernel_rfl) (by kernel_rfl) (by kernel_rfl) (by kernel_rfl)<|
 rhop Z9c<|
 rhop Z9b<|
 rhop Z9a<|
 rren Zf0<|
 rread (i:=3) (idx:=0) hI rfl rfl rfl (by kernel_rfl) (by kernel_rfl) (by kernel_rfl) (by kernel_rfl)<|
 rhop Z99<|
 rren Zez<|
 rread (i:=4) (idx:=0) hI rfl rfl rfl (by kernel_rfl) (by kernel_rfl) (by kernel_rfl) (by kernel_rfl)<|
 rhop Z98<|
 rren Zey<|
 rread (i:=5) (idx:=0) hI rfl rfl rfl (by kernel_rfl) (by kernel_rfl) (by kernel_rfl) (by kernel_rfl)<|
 rhop Zfy<|
 rhop hU31y<|
 rU31y hI hR hD)
 (rren Zdn<|
 rren Zdm<|
 rhop hU31n<|
 rU31n hI hR hD)
theorem rS32 {L2:Int} (hI:RnIn n0 w0 p2 L2):RS n0 w0 cs0 p2 L2 3 2 Z0p Qqv:=λR W hR hD=>
 show RG n0 w0 cs0 [(15,p2)] (rvB 3 2) (vvB L2 R W) (wf Qqv Qqv.fs) from
 rpart .gtr (.var 17) (eL 0) rfl rfl
 (rhop Zex<|
 rread (i:=0) (idx:=0) hI rfl rfl rfl (by kernel_rfl) (by kernel_rfl) (by kernel_rfl) (by kernel_rfl)<|
 rren Zew<|
 rread (i:=1) (idx:=2) hI rfl rfl rfl (by kernel_rfl) (by kernel_rfl) (by kernel_rfl) (by kernel_rfl)<|
 rren Zev<|
 rread (i:=2) (idx:=4) hI rfl rfl rfl (by kernel_rfl) (by kernel_rfl) (by kernel_rfl) (by kernel_rfl)<|
 rhop Z97<|
 rhop Z96<|
 rhop Z95<|
 rren Zeu<|
 rread (i:=3) (idx:=0) hI rfl rfl rfl (by kernel_rfl) (by kernel_rfl) (by kernel_rfl) (by kernel_rfl)<|
 rhop Z94<|
 rren Zet<|
 rread (i:=4) (idx:=0) hI rfl rfl rfl (by kernel_rfl) (by kernel_rfl) (by kernel_rfl) (by kernel_rfl)<|
 rhop Z93<|
 rren Zes<|
 rread (i:=5) (idx:=0) hI rfl rfl rfl (by kernel_rfl) (by kernel_rfl) (by kernel_rfl) (by kernel_rfl)<|
 rhop Zfx<|
 rhop hU32y<|
 rU32y hI hR hD)
 (rren Zdl<|
 rren Zdk<|
 rhop hU32n<|
 rU32n hI hR hD)
theorem rS33 {L2:Int} (hI:RnIn n0 w0 p2 L2):RS n0 w0 cs0 p2 L2 3 3 Z0o Qqd:=λR W hR hD=>
 show RG n0 w0 cs0 [(15,p2)] (rvB 3 3) (vvB L2 R W) (wf Qqd Qqd.fs) from
 rpart .gtr (.var 17) (eL 0) rfl rfl
 (rhop Zer<|
 rread (i:=0) (idx:=0) hI rfl rfl rfl (by kernel_rfl) (by kernel_rfl) (by kernel_rfl) (by kernel_rfl)<|
 rren Zeq<|
 rread (i:=1) (idx:=2) hI rfl rfl rfl (by kernel_rfl) (by kernel_rfl) (by kernel_rfl) (by kernel_rfl)<|
 rren Zep<|
 rread (i:=2) (idx:=4) hI rfl rfl rfl (by kernel_rfl) (by kernel_rfl) (by kernel_rfl) (by kernel_rfl)<|
 rhop Z92<|
 rhop Z91<|
 rhop Z90<|
 rren Zeo<|
 rread (i:=3) (idx:=0) hI rfl rfl rfl (by kernel_rfl) (by kernel_rfl) (by kernel_rfl) (by kernel_rfl)<|
 rhop Z8z<|
 rren Zen<|
 rread (i:=4) (idx:=0) hI rfl rfl rfl (by kernel_rfl) (by kernel_rfl) (by kernel_rfl) (by kernel_rfl)<|
 rhop Z8y<|
 rren Zem<|
 rread (i:=5) (idx:=0) hI rfl rfl rfl (by kernel_rfl) (by kernel_rfl) (by kernel_rfl) (by kernel_rfl)<|
 rhop Zfw<|
 rhop hU33y<|
 rU33y hI hR hD)
 (rren Zdj<|
 rren Zdi<|
 rhop hU33n<|
 rU33n hI hR hD)
theorem rS41 {L2:Int} (hI:RnIn n0 w0 p2 L2):RS n0 w0 cs0 p2 L2 4 1 Z0n Qqy:=λR W hR hD=>
 show RG n0 w0 cs0 [(15,p2)] (rvB 4 1) (vvB L2 R W) (wf Qqy Qqy.fs) from
 rpart .gtr (.var 17) (eL 0) rfl rfl
 (rhop Zel<|
 rread (i:=0) (idx:=0) hI rfl rfl rfl (by kernel_rfl) (by kernel_rfl) (by kernel_rfl) (by kernel_rfl)<|
 rren Zek<|
 rread (i:=1) (idx:=2) hI rfl rfl rfl (by kernel_rfl) (by kernel_rfl) (by kernel_rfl) (by kernel_rfl)<|
 rren Zej<|
 rread (i:=2) (idx:=4) hI rfl rfl rfl (by kernel_rfl) (by kernel_rfl) (by kernel_rfl) (by kernel_rfl)<|
 rhop Z8x<|
 rhop Z8w<|
 rhop Z8v<|
 rren Zei<|
 rread (i:=3) (idx:=0) hI rfl rfl rfl (by kernel_rfl) (by kernel_rfl) (by kernel_rfl) (by kernel_rfl)<|
 rhop Z8u<|
 rren Zeh<|
 rread (i:=4) (idx:=0) hI rfl rfl rfl (by kernel_rfl) (by kernel_rfl) (by kernel_rfl) (by kernel_rfl)<|
 rhop Z8t<|
 rren Zeg<|
 rread (i:=5) (idx:=0) hI rfl rfl rfl (by kernel_rfl) (by kernel_rfl) (by kernel_rfl) (by kernel_rfl)<|
 rhop Zfv<|
 rhop hU41y<|
 rU41y hI hR hD)
 (rren Zdh<|
 rren Zdg<|
 rhop hU41n<|
 rU41n hI hR hD)
theorem rS42 {L2:Int} (hI:RnIn n0 w0 p2 L2):RS n0 w0 cs0 p2 L2 4 2 Z0m Qp9:=λR W hR hD=>
 show RG n0 w0 cs0 [(15,p2)] (rvB 4 2) (vvB L2 R W) (wf Qp9 Qp9.fs) from
 rpart .gtr (.var 17) (eL 0) rfl rfl
 (rhop Zef<|
 rread (i:=0) (idx:=0) hI rfl rfl rfl (by kernel_rfl) (by kernel_rfl) (by kernel_rfl) (by kernel_rfl)<|
 rren Zee<|
 rread (i:=1) (idx:=2) hI rfl rfl rfl (by kernel_rfl) (by kernel_rfl) (by kernel_rfl) (by kernel_rfl)<|
 rren Zed<|
 rread (i:=2) (idx:=4) hI rfl rfl rfl (by kernel_rfl) (by kernel_rfl) (by kernel_rfl) (by kernel_rfl)<|
 rhop Z8s<|
 rhop Z8r<|
 rhop Z8q<|
 rren Zec<|
 rread (i:=3) (idx:=0) hI rfl rfl rfl (by kernel_rfl) (by kernel_rfl) (by kernel_rfl) (by kernel_rfl)<|
 rhop Z8p<|
 rren Zeb<|
 rread (i:=4) (idx:=0) hI rfl rfl rfl (by kernel_rfl) (by kernel_rfl) (by kernel_rfl) (by kernel_rfl)<|
 rhop Z8o<|
 rren Zea<|
 rread (i:=5) (idx:=0) hI rfl rfl rfl (by kernel_rfl) (by kernel_rfl) (by kernel_rfl) (by kernel_rfl)<|
 rhop Zfu<|
 rhop hU42y<|
 rU42y hI hR hD)
 (rren Zdf<|
 rren Zde<|
 rhop hU42n<|
 rU42n hI hR hD)
theorem rS43 {L2:Int} (hI:RnIn n0 w0 p2 L2):RS n0 w0 cs0 p2 L2 4 3 Z0l Qoi:=λR W hR hD=>
 show RG n0 w0 cs0 [(15,p2)] (rvB 4 3) (vvB L2 R W) (wf Qoi Qoi.fs) from
 rpart .gtr (.var 17) (eL 0) rfl rfl
 (rhop Ze9<|
 rread (i:=0) (idx:=0) hI rfl rfl rfl (by kernel_rfl) (by kernel_rfl) (by kernel_rfl) (by kernel_rfl)<|
 rren Ze8<|
 rread (i:=1) (idx:=2) hI rfl rfl rfl (by kernel_rfl) (by kernel_rfl) (by kernel_rfl) (by kernel_rfl)<|
 rren Ze7<|
 rread (i:=2) (idx:=4) hI rfl rfl rfl (by kernel_rfl) (by kernel_rfl) (by kernel_rfl) (by kernel_rfl)<|
 rhop Z8n<|
 rhop Z8m<|
 rhop Z8l<|
 rren Ze6<|
 rread (i:=3) (idx:=0) hI rfl rfl rfl (by kernel_rfl) (by kernel_rfl) (by kernel_rfl) (by kernel_rfl)<|
 rhop Z8k<|
 rren Ze5<|
 rread (i:=4) (idx:=0) hI rfl rfl rfl (by kernel_rfl) (by kernel_rfl) (by kernel_rfl) (by kernel_rfl)<|
 rhop Z8j<|
 rren Ze4<|
 rread (i:=5) (idx:=0) hI rfl rfl rfl (by kernel_rfl) (by kernel_rfl) (by kernel_rfl) (by kernel_rfl)<|
 rhop Zft<|
 rhop hU43y<|
 rU43y hI hR hD)
 (rren Zdd<|
 rren Zdc<|
 rhop hU43n<|
 rU43n hI hR hD)
theorem rS44 {L2:Int} (hI:RnIn n0 w0 p2 L2):RS n0 w0 cs0 p2 L2 4 4 Z0k Qop:=λR W hR hD=>
 show RG n0 w0 cs0 [(15,p2)] (rvB 4 4) (vvB L2 R W) (wf Qop Qop.fs) from
 rpart .gtr (.var 17) (eL 0) rfl rfl
 (rhop Ze3<|
 rread (i:=0) (idx:=0) hI rfl rfl rfl (by kernel_rfl) (by kernel_rfl) (by kernel_rfl) (by kernel_rfl)<|
 rren Ze2<|
 rread (i:=1) (idx:=2) hI rfl rfl rfl (by kernel_rfl) (by kernel_rfl) (by kernel_rfl) (by kernel_rfl)<|
 rren Ze1<|
 rread (i:=2) (idx:=4) hI rfl rfl rfl (by kernel_rfl) (by kernel_rfl) (by kernel_rfl) (by kernel_rfl)<|
 rhop Z8i<|
 rhop Z8h<|
 rhop Z8g<|
 rren Ze0<|
 rread (i:=3) (idx:=0) hI rfl rfl rfl (by kernel_rfl) (by kernel_rfl) (by kernel_rfl) (by kernel_rfl)<|
 rhop Z8f<|
 rren Zdz<|
 rread (i:=4) (idx:=0) hI rfl rfl rfl (by kernel_rfl) (by kernel_rfl) (by kernel_rfl) (by kernel_rfl)<|
 rhop Z8e<|
 rren Zdy<|
 rread (i:=5) (idx:=0) hI rfl rfl rfl (by kernel_rfl) (by kernel_rfl) (by kernel_rfl) (by kernel_rfl)<|
 rhop Zfs<|
 rhop hU44y<|
 rU44y hI hR hD)
 (rren Zdb<|
 rren Zda<|
 rhop hU44n<|
 rU44n hI hR hD)
theorem rQ0 {L1 L2:Int} {v0 v1:Value} {S:Nat->Int} (h1:RnOne n0 w0 p1 L1 S) (hI:RnIn n0 w0 p2 L2):RG n0 w0 cs0 [(14,p1),(15,p2)] rnA (vvA L1 L2 v0 v1 S) (wf sQ (rnL 0++sQ.fs)):=
 rqc (O:=[[]]) h1 (λV hV=>⟨[],by simp,by simp [OrdL]⟩) (show ∀f∈[[]],_ from fa_cons (rqf hK0_ (rS00 hI))<|
 fa_nil)
theorem rQ1 {L1 L2:Int} {v0 v1:Value} {S:Nat->Int} (h1:RnOne n0 w0 p1 L1 S) (hI:RnIn n0 w0 p2 L2):RG n0 w0 cs0 [(14,p1),(15,p2)] rnA (vvA L1 L2 v0 v1 S) (wf sQ (rnL 1++sQ.fs)):=
 rqc (O:=rnO1) h1 (λV hV=>by match V,hV with|[a],_=>exact Z74 a) (show ∀f∈[[0]],_ from fa_cons (rqf hK1_0 (rS11 hI))<|
 fa_nil)
theorem rQ2 {L1 L2:Int} {v0 v1:Value} {S:Nat->Int} (h1:RnOne n0 w0 p1 L1 S) (hI:RnIn n0 w0 p2 L2):RG n0 w0 cs0 [(14,p1),(15,p2)] rnA (vvA L1 L2 v0 v1 S) (wf sQ (rnL 2++sQ.fs)):=
 rqc (O:=rnO2) h1 (λV hV=>by match V,hV with|[a,b],_=>exact Z73 a b) (show ∀f∈[[0,0],[0,1],[1,0]],_ from fa_cons (rqf Zg3 (rS21 hI))<|
 fa_cons (rqf Zg2 (rS22 hI))<|
 fa_cons (rqf Zg1 (rS22 hI))<|
 fa_nil)
theorem rQ3 {L1 L2:Int} {v0 v1:Value} {S:Nat->Int} (h1:RnOne n0 w0 p1 L1 S) (hI:RnIn n0 w0 p2 L2):RG n0 w0 cs0 [(14,p1),(15,p2)] rnA (vvA L1 L2 v0 v1 S) (wf sQ (rnL 3++sQ.fs)):=
 rqc (O:=rnO3) h1 (λV hV=>by match V,hV with|[a,b,c],_=>exact Z72 a b c) (show ∀f∈[[0,0,0],[0,0,1],[0,1,0],[0,1,1],[1,0,0],[1,0,1],[1,1,0],[0,1,2],[0,2,1],[1,0,2],[1,2,0],[2,0,1],[2,1,0]],_ from fa_cons (rqf Zaa (rS31 hI))<|
 fa_cons (rqf Za9 (rS32 hI))<|
 fa_cons (rqf Za8 (rS32 hI))<|
 fa_cons (rqf Za7 (rS32 hI))<|
 fa_cons (rqf Za4 (rS32 hI))<|
 fa_cons (rqf Za3 (rS32 hI))<|
 fa_cons (rqf Za1 (rS32 hI))<|
 fa_cons (rqf Za6 (rS33 hI))<|
 fa_cons (rqf Za5 (rS33 hI))<|
 fa_cons (rqf Za2 (rS33 hI))<|
 fa_cons (rqf Za0 (rS33 hI))<|
 fa_cons (rqf Z9z (rS33 hI))<|
 fa_cons (rqf Z9y (rS33 hI))<|
 fa_nil)
theorem rQ4 {L1 L2:Int} {v0 v1:Value} {S:Nat->Int} (h1:RnOne n0 w0 p1 L1 S) (hI:RnIn n0 w0 p2 L2):RG n0 w0 cs0 [(14,p1),(15,p2)] rnA (vvA L1 L2 v0 v1 S) (wf sQ (rnL 4++sQ.fs)):=
 rqc (O:=rnO4) h1 (λV hV=>by match V,hV with|[a,b,c,d],_=>exact Qzm a b c d) (show ∀f∈[[0,0,0,0],[0,0,0,1],[0,0,1,0],[0,0,1,1],[0,1,0,0],[0,1,0,1],[0,1,1,0],[0,1,1,1],[1,0,0,0],[1,0,0,1],[1,0,1,0],[1,0,1,1],[1,1,0,0],[1,1,0,1],[1,1,1,0],[0,0,1,2],[0,0,2,1],[0,1,0,2],[0,1,1,2],[0,1,2,0],[0,1,2,1],[0,1,2,2],[0,2,0,1],[0,2,1,0],[0,2,1,1],[0,2,1,2],[0,2,2,1],[1,0,0,2],[1,0,1,2],[1,0,2,0],[1,0,2,1],[1,0,2,2],[1,1,0,2],[1,1,2,0],[1,2,0,0],[1,2,0,1],[1,2,0,2],[1,2,1,0],[1,2,2,0],[2,0,0,1],[2,0,1,0],[2,0,1,1],[2,0,1,2],[2,0,2,1],[2,1,0,0],[2,1,0,1],[2,1,0,2],[2,1,1,0],[2,1,2,0],[2,2,0,1],[2,2,1,0],[0,1,2,3],[0,1,3,2],[0,2,1,3],[0,2,3,1],[0,3,1,2],[0,3,2,1],[1,0,2,3],[1,0,3,2],[1,2,0,3],[1,2,3,0],[1,3,0,2],[1,3,2,0],[2,0,1,3],[2,0,3,1],[2,1,0,3],[2,1,3,0],[2,3,0,1],[2,3,1,0],[3,0,1,2],[3,0,2,1],[3,1,0,2],[3,1,2,0],[3,2,0,1],[3,2,1,0]],_ from fa_cons (rqf Z62 (rS41 hI))<|
 fa_cons (rqf Z61 (rS42 hI))<|
 fa_cons (rqf Z60 (rS42 hI))<|
 fa_cons (rqf Z5z (rS42 hI))<|
 fa_cons (rqf Z5w (rS42 hI))<|
 fa_cons (rqf Z5v (rS42 hI))<|
 fa_cons (rqf Z5t (rS42 hI))<|
 fa_cons (rqf Z5s (rS42 hI))<|
 fa_cons (rqf Z5c (rS42 hI))<|
 fa_cons (rqf Z5b (rS42 hI))<|
 fa_cons (rqf Z59 (rS42 hI))<|
 fa_cons (rqf Z58 (rS42 hI))<|
 fa_cons (rqf Z51 (rS42 hI))<|
 fa_cons (rqf Z50 (rS42 hI))<|
 fa_cons (rqf Z4y (rS42 hI))<|
 fa_cons (rqf Z5y (rS43 hI))<|
 fa_cons (rqf Z5x (rS43 hI))<|
 fa_cons (rqf Z5u (rS43 hI))<|
 fa_cons (rqf Z5r (rS43 hI))<|
 fa_cons (rqf Z5q (rS43 hI))<|
 fa_cons (rqf Z5p (rS43 hI))<|
 fa_cons (rqf Z5o (rS43 hI))<|
 fa_cons (rqf Z5l (rS43 hI))<|
 fa_cons (rqf Z5k (rS43 hI))<|
 fa_cons (rqf Z5j (rS43 hI))<|
 fa_cons (rqf Z5i (rS43 hI))<|
 fa_cons (rqf Z5g (rS43 hI))<|
 fa_cons (rqf Z5a (rS43 hI))<|
 fa_cons (rqf Z57 (rS43 hI))<|
 fa_cons (rqf Z56 (rS43 hI))<|
 fa_cons (rqf Z55 (rS43 hI))<|
 fa_cons (rqf Z54 (rS43 hI))<|
 fa_cons (rqf Z4z (rS43 hI))<|
 fa_cons (rqf Z4x (rS43 hI))<|
 fa_cons (rqf Z4w (rS43 hI))<|
 fa_cons (rqf Z4v (rS43 hI))<|
 fa_cons (rqf Z4u (rS43 hI))<|
 fa_cons (rqf Z4s (rS43 hI))<|
 fa_cons (rqf Z4r (rS43 hI))<|
 fa_cons (rqf Z4n (rS43 hI))<|
 fa_cons (rqf Z4m (rS43 hI))<|
 fa_cons (rqf Z4l (rS43 hI))<|
 fa_cons (rqf Z4k (rS43 hI))<|
 fa_cons (rqf Z4i (rS43 hI))<|
 fa_cons (rqf Z4g (rS43 hI))<|
 fa_cons (rqf Z4f (rS43 hI))<|
 fa_cons (rqf Z4e (rS43 hI))<|
 fa_cons (rqf Z4c (rS43 hI))<|
 fa_cons (rqf Z4b (rS43 hI))<|
 fa_cons (rqf Z49 (rS43 hI))<|
 fa_cons (rqf Z48 (rS43 hI))<|
 fa_cons (rqf Z5n (rS44 hI))<|
 fa_cons (rqf Z5m (rS44 hI))<|
 fa_cons (rqf Z5h (rS44 hI))<|
 fa_cons (rqf Z5f (rS44 hI))<|
 fa_cons (rqf Z5e (rS44 hI))<|
 fa_cons (rqf Z5d (rS44 hI))<|
 fa_cons (rqf Z53 (rS44 hI))<|
 fa_cons (rqf Z52 (rS44 hI))<|
 fa_cons (rqf Z4t (rS44 hI))<|
 fa_cons (rqf Z4q (rS44 hI))<|
 fa_cons (rqf Z4p (rS44 hI))<|
 fa_cons (rqf Z4o (rS44 hI))<|
 fa_cons (rqf Z4j (rS44 hI))<|
 fa_cons (rqf Z4h (rS44 hI))<|
 fa_cons (rqf Z4d (rS44 hI))<|
 fa_cons (rqf Z4a (rS44 hI))<|
 fa_cons (rqf Z47 (rS44 hI))<|
 fa_cons (rqf Z46 (rS44 hI))<|
 fa_cons (rqf Z45 (rS44 hI))<|
 fa_cons (rqf Z44 (rS44 hI))<|
 fa_cons (rqf Z43 (rS44 hI))<|
 fa_cons (rqf Z42 (rS44 hI))<|
 fa_cons (rqf Z41 (rS44 hI))<|
 fa_cons (rqf Z40 (rS44 hI))<|
 fa_nil)
theorem rQ5 {L1 L2:Int} {v0 v1:Value} {S:Nat->Int} (h1:RnOne n0 w0 p1 L1 S) (hI:RnIn n0 w0 p2 L2):RG n0 w0 cs0 [(14,p1),(15,p2)] rnA (vvA L1 L2 v0 v1 S) (wf sQ (rnL 5++sQ.fs)):=
 rqc (O:=rnO4) h1 (λV hV=>by match V,hV with|[a,b,c,d],_=>exact Qzm a b c d) (show ∀f∈[[0,0,0,0],[0,0,0,1],[0,0,1,0],[0,0,1,1],[0,1,0,0],[0,1,0,1],[0,1,1,0],[0,1,1,1],[1,0,0,0],[1,0,0,1],[1,0,1,0],[1,0,1,1],[1,1,0,0],[1,1,0,1],[1,1,1,0],[0,0,1,2],[0,0,2,1],[0,1,0,2],[0,1,1,2],[0,1,2,0],[0,1,2,1],[0,1,2,2],[0,2,0,1],[0,2,1,0],[0,2,1,1],[0,2,1,2],[0,2,2,1],[1,0,0,2],[1,0,1,2],[1,0,2,0],[1,0,2,1],[1,0,2,2],[1,1,0,2],[1,1,2,0],[1,2,0,0],[1,2,0,1],[1,2,0,2],[1,2,1,0],[1,2,2,0],[2,0,0,1],[2,0,1,0],[2,0,1,1],[2,0,1,2],[2,0,2,1],[2,1,0,0],[2,1,0,1],[2,1,0,2],[2,1,1,0],[2,1,2,0],[2,2,0,1],[2,2,1,0],[0,1,2,3],[0,1,3,2],[0,2,1,3],[0,2,3,1],[0,3,1,2],[0,3,2,1],[1,0,2,3],[1,0,3,2],[1,2,0,3],[1,2,3,0],[1,3,0,2],[1,3,2,0],[2,0,1,3],[2,0,3,1],[2,1,0,3],[2,1,3,0],[2,3,0,1],[2,3,1,0],[3,0,1,2],[3,0,2,1],[3,1,0,2],[3,1,2,0],[3,2,0,1],[3,2,1,0]],_ from fa_cons (rqf Z3z (rS41 hI))<|
 fa_cons (rqf Z3y (rS42 hI))<|
 fa_cons (rqf Z3x (rS42 hI))<|
 fa_cons (rqf Z3w (rS42 hI))<|
 fa_cons (rqf Z3t (rS42 hI))<|
 fa_cons (rqf Z3s (rS42 hI))<|
 fa_cons (rqf Z3q (rS42 hI))<|
 fa_cons (rqf Z3p (rS42 hI))<|
 fa_cons (rqf Z39 (rS42 hI))<|
 fa_cons (rqf Z38 (rS42 hI))<|
 fa_cons (rqf Z36 (rS42 hI))<|
 fa_cons (rqf Z35 (rS42 hI))<|
 fa_cons (rqf Z2y (rS42 hI))<|
 fa_cons (rqf Z2x (rS42 hI))<|
 fa_cons (rqf Z2v (rS42 hI))<|
 fa_cons (rqf Z3v (rS43 hI))<|
 fa_cons (rqf Z3u (rS43 hI))<|
 fa_cons (rqf Z3r (rS43 hI))<|
 fa_cons (rqf Z3o (rS43 hI))<|
 fa_cons (rqf Z3n (rS43 hI))<|
 fa_cons (rqf Z3m (rS43 hI))<|
 fa_cons (rqf Z3l (rS43 hI))<|
 fa_cons (rqf Z3i (rS43 hI))<|
 fa_cons (rqf Z3h (rS43 hI))<|
 fa_cons (rqf Z3g (rS43 hI))<|
 fa_cons (rqf Z3f (rS43 hI))<|
 fa_cons (rqf Z3d (rS43 hI))<|
 fa_cons (rqf Z37 (rS43 hI))<|
 fa_cons (rqf Z34 (rS43 hI))<|
 fa_cons (rqf Z33 (rS43 hI))<|
 fa_cons (rqf Z32 (rS43 hI))<|
 fa_cons (rqf Z31 (rS43 hI))<|
 fa_cons (rqf Z2w (rS43 hI))<|
 fa_cons (rqf Z2u (rS43 hI))<|
 fa_cons (rqf Z2t (rS43 hI))<|
 fa_cons (rqf Z2s (rS43 hI))<|
 fa_cons (rqf Z2r (rS43 hI))<|
 fa_cons (rqf Z2p (rS43 hI))<|
 fa_cons (rqf Z2o (rS43 hI))<|
 fa_cons (rqf Z2k (rS43 hI))<|
 fa_cons (rqf Z2j (rS43 hI))<|
 fa_cons (rqf Z2i (rS43 hI))<|
 fa_cons (rqf Z2h (rS43 hI))<|
 fa_cons (rqf Z2f (rS43 hI))<|
 fa_cons (rqf Z2d (rS43 hI))<|
 fa_cons (rqf Z2c (rS43 hI))<|
 fa_cons (rqf Z2b (rS43 hI))<|
 fa_cons (rqf Z29 (rS43 hI))<|
 fa_cons (rqf Z28 (rS43 hI))<|
 fa_cons (rqf Z26 (rS43 hI))<|
 fa_cons (rqf Z25 (rS43 hI))<|
 fa_cons (rqf Z3k (rS44 hI))<|
 fa_cons (rqf Z3j (rS44 hI))<|
 fa_cons (rqf Z3e (rS44 hI))<|
 fa_cons (rqf Z3c (rS44 hI))<|
 fa_cons (rqf Z3b (rS44 hI))<|
 fa_cons (rqf Z3a (rS44 hI))<|
 fa_cons (rqf Z30 (rS44 hI))<|
 fa_cons (rqf Z2z (rS44 hI))<|
 fa_cons (rqf Z2q (rS44 hI))<|
 fa_cons (rqf Z2n (rS44 hI))<|
 fa_cons (rqf Z2m (rS44 hI))<|
 fa_cons (rqf Z2l (rS44 hI))<|
 fa_cons (rqf Z2g (rS44 hI))<|
 fa_cons (rqf Z2e (rS44 hI))<|
 fa_cons (rqf Z2a (rS44 hI))<|
 fa_cons (rqf Z27 (rS44 hI))<|
 fa_cons (rqf Z24 (rS44 hI))<|
 fa_cons (rqf Z23 (rS44 hI))<|
 fa_cons (rqf Z22 (rS44 hI))<|
 fa_cons (rqf Z21 (rS44 hI))<|
 fa_cons (rqf Z20 (rS44 hI))<|
 fa_cons (rqf Z1z (rS44 hI))<|
 fa_cons (rqf Z1y (rS44 hI))<|
 fa_cons (rqf Z1x (rS44 hI))<|
 fa_nil)
theorem rQ {L1 L2:Int} {v0 v1:Value} {S:Nat->Int} (h1:RnOne n0 w0 p1 L1 S) (hI:RnIn n0 w0 p2 L2):RG n0 w0 cs0 [(14,p1),(15,p2)] rnA (vvA L1 L2 v0 v1 S) rn00:=λX m hX h=>
 HopC.endsL (bs' :=[(14,p1),(15,p2)]) (avs' :=rnA) Qos Qov Qna Qad (λq hq=>⟨hq,by simp only [List.mem_cons,List.not_mem_nil,or_false] at hq;rcases hq with rfl|rfl;unfold Zi qkq;simp;unfold Zi qkq;simp⟩) (by kernel_rfl) hQ
 (show RG n0 w0 cs0 [(14,p1),(15,p2)] rnA (vvA L1 L2 v0 v1 S) (wf sQ sQ.fs) from
 rpart .gtr (.var 16) (eL 0) rfl rfl
 (rpart .gtr (.var 16) (eL 1) rfl rfl
 (rpart .gtr (.var 16) (eL 2) rfl rfl
 (rpart .gtr (.var 16) (eL 3) rfl rfl
 (rpart .gtr (.var 16) (eL 4) rfl rfl (rQ5 h1 hI) (rQ4 h1 hI)) (rQ3 h1 hI)) (rQ2 h1 hI)) (rQ1 h1 hI)) (rQ0 h1 hI)) hX h
end
inductive RnInts (W:World):Value->Prop
 |none:RnInts W (.slice none 0 0)
 |some (blk off len cap n:Nat) (S:Nat->Int) (hb:blk<W.heap.size) (hl:len<=cap) (hm:(cap:Int)<=9223372036854775807) (hs:∀i,-9223372036854775808<=S i/\S i<=9223372036854775807) (hn:off+cap<=n)
  (hc:∀i,i<len->W.cell? ⟨blk,off+i,Option.none⟩=Option.some (.int .i64 (S i))) (hg:1<=len->∃c el fr,W.heap[blk]?=Option.some (.cells c el fr)/\c.size=n):RnInts W (.slice (Option.some ⟨blk,off,Option.none⟩) len cap)
theorem rn_sl {W:World} {v:Value} (h0:0<W.heap.size) (h:RnInts W v):∃(p:Ax.Place) (len:Nat) (S:Nat->Int),p.blk<W.heap.size/\(len:Int)<=9223372036854775807/\(∀i,-9223372036854775808<=S i/\S i<=9223372036854775807)/\
 (∀i:Nat,i<len->W.cell? ⟨p.blk,p.base+i,none⟩=some (.int .i64 (S i)))/\(1<=len->∃c el fr,W.heap[p.blk]?=some (.cells c el fr)/\c.size=p.n)/\p.base+len<=p.n/\
 ∀(Y:Ext) (b l:Nat),Y.V b=some p->Y.dom l->Y.O.int l=(len:Int)->AV.rel Y (.wslice b 0 0 1 l) v:=by
 cases h with
 |none=>refine ⟨⟨0,0,0⟩,0,λ_=>0,h0,by decide,λ_=>⟨by show (-9223372036854775808:Int)<=0;decide,by show (0:Int)<=9223372036854775807;decide⟩,λi hi=>by omega,λh=>by omega,by simp,λY b l hb hd hr=>?_⟩;simp only [AV.rel];exact ⟨_,0,0,hb, .inr (by simp),by omega,by omega,by simp,hd,hr⟩
 |some blk off len cap n S hb hl hm hs hn hc hg=>refine ⟨⟨blk,off,n⟩,len,S,hb,by omega,hs,hc,hg,by simp only;omega,λY b l hb hd hr=>?_⟩;simp only [AV.rel];exact ⟨_,len,cap,hb, .inl rfl,by omega,hl,by simp only;omega,hd,hr⟩
theorem rn_has {z:Int} (h:-9223372036854775808<=z/\z<=9223372036854775807):spI.has (.int .i64 z):=⟨z,rfl,h.1,h.2⟩
theorem rn_at:errs.ng+errs.m=14:=rfl
theorem rn_any {W:World} {A:Nat->Addr} {N0:Nat->Nat} {v0 v1 v2 v3:Value} (hl:Laid errs A N0 W) (h0:spI.has v0) (h1:spI.has v1) (h2:RnInts W v2) (h3:RnInts W v3):
 Calls Tryz.prog 3 #[v0,v1,v2,v3] W (λe w' =>∃u,e= .returned u/\(Sp.lit true).has u/\Below W.heap.size W w'):=by
 have h00:0<W.heap.size:=Nat.lt_of_lt_of_le Qad hl.sz;obtain ⟨p1,len1,S1,a1,a2,a3,a4,a5,a6,a7⟩:=rn_sl h00 h2;obtain ⟨p2,len2,S2,b1,b2,b3,b4,b5,b6,b7⟩:=rn_sl h00 h3;have hsp:∀n:Nat,(n:Int)<=9223372036854775807->(Sp.int .i64 0 9223372036854775807).has (.int .i64 (n:Int)):=λn hn=>⟨n,rfl,by omega,hn⟩
 refine Qin (G:=GF) (vals:=vvA len1 len2 v0 v1 S1) (avs:=rnA) (p1:=p1) (p2:=p2) Qos Qev Qad Z76 (by kernel_rfl) hl ?_ a1 b1 ?_ ?_;simp only [rnS,vvA,Sp.Qcn];exact ⟨_,_,rfl,hsp _ a2,_,_,rfl,hsp _ b2,_,_,rfl,h0,_,_,rfl,h1,_,_,rfl,rn_has (a3 0),_,_,rfl,rn_has (a3 1),_,_,rfl,rn_has (a3 2),_,_,rfl,rn_has (a3 3),rfl⟩;intro Y args hr hm1 hm2 hq;rw [rn_at] at hm1 hm2;simp only [rnA,rnmk,Option.some.injEq] at hq;subst hq;simp only [rnA,vvA,rels_cons_cons] at hr;obtain ⟨r1,r2,r3,r4,-⟩:=hr;simp only [AV.rel,E.den,Value.int.injEq,true_and] at r1 r2;simp only [rels_cons_cons];exact ⟨r3,r4,a7 Y 14 16 hm1 r1.1 r1.2.symm,b7 Y 15 17 hm2 r2.1 r2.2.symm,by rw [rels_nil]⟩;intro cs0 X m hX h;rw [rn_at] at hX;exact rQ (v0:=v0) (v1:=v1) ⟨a1,λh=>a5 (by omega),λi hi=>a4 i (by omega),by omega⟩ ⟨b1,by omega,λi hi=>⟨S2 i,(b3 i).1,(b3 i).2,b4 i (by omega)⟩⟩ X m hX h
end Go.Proofs.YtmjjaldodkokbaaGreatDoor
namespace Go.Proofs.YtmjjaldodkokbaaGreatDoor
open Go Go.Proofs
theorem star: "*" ++ "errors.errorString" = "*errors.errorString" :=by decide
set_option maxRecDepth 100000 in
theorem rowE (u:TypeId) (h:Tryz.prog.typeName? 3 u=some "*errors.errorString"):u=770:=typeName_ptr_named (nm:= "errors.errorString") (List.all_eq_true.2 λu hu=>row_all u (by rw [List.mem_range,types_n] at hu;exact hu)) (List.all_eq_true.2 λu hu=>name_all u (by rw [List.mem_range,types_n] at hu;exact hu)) (by decide) u (by rw [star];exact h)
end Go.Proofs.YtmjjaldodkokbaaGreatDoor
namespace Go.Proofs.YtmjjaldodkokbaaGreatDoor
open Go Go.RowKit Go.Proofs
abbrev laidSix:List (String×DataW Unit):=[("stagepost/link.errBroken",Rows.laid_stagepost_link_errBroken),("stagepost/icmp.errShort",Rows.laid_stagepost_icmp_errShort),("stagepost/icmp.errKind",Rows.laid_stagepost_icmp_errKind),("stagepost/congestion.errSize",Rows.laid_stagepost_congestion_errSize),("stagepost/tcpstate.triples",Rows.laid_stagepost_tcpstate_triples),("stagepost/dnscache.errInvalid",Rows.laid_stagepost_dnscache_errInvalid)]
theorem laid_six:(Rows.hostResolvesNameRow.laid.filter λx=>x.2.handleName?.isNone)=laidSix:=by kernel_rfl
theorem laid_handle:(Rows.hostResolvesNameRow.laid.filter λx=>x.2.handleName?.isSome)=[("errors.errorType",Rows.laid_errors_errorType)]:=by kernel_rfl
theorem gE0:Tryz.prog.globalNamed "stagepost/link.errBroken" =some 0:=by kernel_rfl
theorem gE1:Tryz.prog.globalNamed "stagepost/icmp.errShort" =some 1:=by kernel_rfl
theorem gE2:Tryz.prog.globalNamed "stagepost/icmp.errKind" =some 2:=by kernel_rfl
theorem gE3:Tryz.prog.globalNamed "stagepost/congestion.errSize" =some 4:=by kernel_rfl
theorem gE4:Tryz.prog.globalNamed "stagepost/dnscache.errInvalid" =some 5:=by kernel_rfl
theorem gT0:(Tryz.prog.globals[0]?).map (·.type)=some 227:=by kernel_rfl
theorem gT1:(Tryz.prog.globals[1]?).map (·.type)=some 227:=by kernel_rfl
theorem gT2:(Tryz.prog.globals[2]?).map (·.type)=some 227:=by kernel_rfl
theorem gT3:(Tryz.prog.globals[4]?).map (·.type)=some 227:=by kernel_rfl
theorem gT4:(Tryz.prog.globals[5]?).map (·.type)=some 227:=by kernel_rfl
theorem cellsES:Tryz.prog.cellsOf 789=1:=by kernel_rfl
theorem cellsStr:Tryz.prog.cellsOf 9=1:=by kernel_rfl
theorem spot_of {W:World} {a:Addr} {v:Value} (h:W.cell? a=some v):a.spot=none/\a.block<W.heap.size:=by
 obtain ⟨b,o,s⟩:=a;unfold World.cell? at h;split at h;rename_i hb;cases s with
 |none=>exact ⟨rfl,(Array.getElem?_eq_some_iff.1 hb).1⟩
 |some x=>simp at h
 cases h
theorem block_of {W:World} {n:String} {g:Nat} {v:Value} (hs:W.ShapedOpen Tryz.prog) (hg:g<Tryz.prog.globals.size) (h0:((begin Tryz.prog (λ_ _=>0) default).world.heap[g]?).bind Obj.row?=some (#[.nilIface],227)) (hn:Tryz.prog.globalNamed n=some g) (hv:W.var? Tryz.prog n=some #[v]):
 ∃c fr el,W.heap[g]?=some (.cells c el fr)/\c.size=1/\c[0]?=some v:=by
 obtain ⟨cs,h1,h2,-⟩:=hs.1 g #[.nilIface] 227 hg h0
 have h3:W.cell? ⟨g,0,none⟩=some v:=by have:=World.var?_cell hn hv 0;simpa using this
 refine ⟨cs,(0,0),_,h1,by simpa using h2,?_⟩;unfold World.cell? at h3;simp only [h1] at h3;simpa using h3
abbrev triN:List Nat:=[0,1,1,0,2,2,1,3,3,1,2,2,1,5,0,2,4,3,2,5,4,2,6,6,3,5,4,3,6,6,4,7,5,4,6,7,5,6,9,6,5,8,7,7,9,8,7,0]
abbrev triRows:List (List Int):=[[0,1,1],[0,2,2],[1,3,3],[1,2,2],[1,5,0],[2,4,3],[2,5,4],[2,6,6],[3,5,4],[3,6,6],[4,7,5],[4,6,7],[5,6,9],[6,5,8],[7,7,9],[8,7,0]]
theorem triN_at (i n:Nat) (h:triN[i]?=some n):∃r j,i=r*3+j/\r<16/\j<3/\∃l,triRows[r]?=some l/\l[j]?=some (n:Int):=by
 have hall:∀i,i<48->∃l,triRows[i/3]?=some l/\l[i%3]?=(triN[i]?).map Int.ofNat:=by decide
 have hi:i<48:=by rcases Nat.lt_or_ge i 48 with h' |h';exact h';rw [List.getElem?_eq_none (by simpa using h')] at h;cases h
 obtain ⟨l,h1,h2⟩:=hall i hi;rw [h] at h2;exact ⟨i/3,i%3,by omega,by omega,by omega,l,h1,h2⟩
theorem triples_of {W:World} (h:Lib.VarReads Tryz.prog W "stagepost/tcpstate.triples" Rows.laid_stagepost_tcpstate_triples):
 ∃c fr el,W.heap[6]?=some (.cells c el fr)/\triN.length<=c.size/\∀(i n:Nat),triN[i]?=some n->c[i]?=some (.int .i64 (n:Int)):=by
 obtain ⟨g,t,cs,fuel,p,hg,hty,hvar,hd⟩:=h;obtain rfl:=Option.some.inj ((show Tryz.prog.globalNamed "stagepost/tcpstate.triples" =some 6 by kernel_rfl).symm.trans hg);obtain rfl:=Option.some.inj ((show (Tryz.prog.globals[6]?).map (·.type)=some 715 by kernel_rfl).symm.trans hty);have c3:Tryz.prog.cellsOf 714=3:=by kernel_rfl
 have c1:Tryz.prog.cellsOf 3=1:=by kernel_rfl
 have hat:∀(i n:Nat),triN[i]?=some n->cs[i]?=some (Value.int .i64 (n:Int)):=λi n hn=>by
  obtain ⟨r,j,rfl,hr,hj,l,hl,hlj⟩:=triN_at i n hn;have e0:(Rows.laid_stagepost_tcpstate_triples:DataW Unit)= .agg (triRows.map (Lib.tabData .i64)):=rfl
  rw [e0] at hd;obtain ⟨fuel',d,q,hdi,he⟩:=Lib.array_elem Tryz.underlying715 hd r hr;rw [List.getElem?_map,hl] at hdi;simp only [Option.map_some,Option.some.injEq] at hdi;subst hdi;rw [c3] at he;have hcs:=Lib.cells_of_tab Tryz.underlying714 Tryz.underlying3 c1 c3 he;have e1:=congrArg (·[j]?) hcs;simp only [List.getElem?_take,List.getElem?_drop,if_pos hj,List.getElem?_map,hlj,Option.map_some] at e1;rw [<-Array.getElem?_toList];exact e1
 have hsz:48<=cs.size:=by have:=hat 47 0 rfl;obtain ⟨h',-⟩:=Array.getElem?_eq_some_iff.1 this;omega
 unfold World.var? at hvar;rw [hg] at hvar;simp only [Option.bind_some] at hvar;split at hvar;rename_i c el fr hh;cases hvar;exact ⟨_,_,_,hh,hsz,hat⟩;cases hvar
theorem type_of {W:World} (h:handlesMet Tryz.prog (Rows.hostResolvesNameRow.laid.filter λx=>x.2.handleName?.isSome) W) (hs:W.ShapedOpen Tryz.prog):
 ∃c fr el,W.heap[3]?=some (.cells c el fr)/\c.size=1/\c[0]?=some (.iface 434 (.agg #[.pointer (some ⟨8,227,none⟩)])):=by
 rw [laid_handle] at h;obtain ⟨name,u,ty,e1,e2,e3,e4,e5⟩:=(show ∃name u ty,Rows.laid_errors_errorType.handleName?=some name/\(Tryz.prog.cutTypes.find? (·.1== "internal/reflectlite.rtype")).map (·.2)=some u/\ty<Tryz.prog.types.size/\Tryz.prog.rowNamed ty name=true/\
  W.var? Tryz.prog "errors.errorType" =some #[.iface u (.agg #[typeHandle Tryz.prog ty])] from h ("errors.errorType",Rows.laid_errors_errorType) (by simp))
 have hn:name=[101,114,114,111,114]:=(Option.some.inj ((show (Rows.laid_errors_errorType:DataW Unit).handleName?=some [101,114,114,111,114] from rfl).symm.trans e1)).symm
 subst hn;have hu:u=434:=(Option.some.inj ((show (Tryz.prog.cutTypes.find? (·.1== "internal/reflectlite.rtype")).map (·.2)=some 434 by kernel_rfl).symm.trans e2)).symm
 subst hu;have hall:(List.range Tryz.prog.types.size).all (λt=>!(Tryz.prog.rowNamed t [101,114,114,111,114])||t==227)=true:=by kernel_rfl
 have ht:=List.all_eq_true.1 hall ty (by simpa using e3);rw [e4] at ht;have hty:ty=227:=by simpa using ht
 subst hty;have hty' :typeHandle Tryz.prog 227= .pointer (some ⟨8,227,none⟩):=by
  have:Tryz.prog.globals.size=8:=by kernel_rfl
  unfold typeHandle;rw [this]
 rw [hty'] at e5;obtain ⟨cs,h1,h2,-⟩:=hs.1 3 #[.nilIface] 330 (of_decide_eq_true (by kernel_rfl)) (by kernel_rfl)
 have hg:Tryz.prog.globalNamed "errors.errorType" =some 3:=by kernel_rfl
 have h3:=World.var?_cell hg e5 0;have h3' :W.cell? ⟨3,0,none⟩=some (.iface 434 (.agg #[.pointer (some ⟨8,227,none⟩)])):=by simpa using h3
 refine ⟨cs,(0,0),_,h1,by simpa using h2,?_⟩;unfold World.cell? at h3';simp only [h1] at h3';simpa using h3'
theorem laid_first {W:World} (h:laidMetH Tryz.prog Rows.hostResolvesNameRow.laid W) (hs:W.ShapedOpen Tryz.prog):∃A N,Ax.Laid errs A N W:=by
 have h0:=(laidMetH_iff.1 h).1
 rw [laid_six] at h0;have h1:=h0.tail;have h2:=h1.tail;have h3:=h2.tail;have h4:=h3.tail;have h5:=h4.tail;obtain ⟨a0,s0,v0,c0,-,-⟩:=laid_sentinel h0 gE0 gT0 Tryz.underlying227 rowE Tryz.underlying770 Tryz.underlying789 rfl rfl Tryz.underlying9 cellsES cellsStr;obtain ⟨a1,s1,v1,c1,-,-⟩:=laid_sentinel h1 gE1 gT1 Tryz.underlying227 rowE Tryz.underlying770 Tryz.underlying789 rfl rfl Tryz.underlying9 cellsES cellsStr;obtain ⟨a2,s2,v2,c2,-,-⟩:=laid_sentinel h2 gE2 gT2 Tryz.underlying227 rowE Tryz.underlying770 Tryz.underlying789 rfl rfl Tryz.underlying9 cellsES cellsStr;obtain ⟨a3,s3,v3,c3,-,-⟩:=laid_sentinel h3 gE3 gT3 Tryz.underlying227 rowE Tryz.underlying770 Tryz.underlying789 rfl rfl Tryz.underlying9 cellsES cellsStr;obtain ⟨a4,s4,v4,c4,-,-⟩:=laid_sentinel h5 gE4 gT4 Tryz.underlying227 rowE Tryz.underlying770 Tryz.underlying789 rfl rfl Tryz.underlying9 cellsES cellsStr;obtain ⟨ct,frt,elt,t1,t2,t3⟩:=triples_of (Lib.laidMet.reads h0 (n:= "stagepost/tcpstate.triples") (d:=Rows.laid_stagepost_tcpstate_triples) (by simp));obtain ⟨p0,q0⟩:=spot_of c0;obtain ⟨p1,q1⟩:=spot_of c1;obtain ⟨p2,q2⟩:=spot_of c2;obtain ⟨p3,q3⟩:=spot_of c3;obtain ⟨p4,q4⟩:=spot_of c4;obtain ⟨o8,-,h8,-,-⟩:=hs.2 8 (of_decide_eq_true (by kernel_rfl)) (of_decide_eq_true (by kernel_rfl));have hsz:9<=W.heap.size:=(Array.getElem?_eq_some_iff.1 h8).1
 obtain ⟨ch,frh,elh,g1,g2,g3⟩:=type_of (laidMetH_iff.1 h).2 hs
 refine ⟨λb=>match b with|9=>a0|10=>a1|11=>a2|12=>a3|_=>a4,λb=>if b=6 then ct.size else 1,⟨λe he=>?_,λb h1 h2=>?_,hsz,λq hq=>?_⟩⟩;simp only [errs,List.mem_cons,List.not_mem_nil,or_false] at he;rcases he with rfl|rfl|rfl|rfl|rfl;exact ⟨by decide,by decide,by decide,Nat.one_pos,p0,block_of hs (of_decide_eq_true (by kernel_rfl)) (by kernel_rfl) gE0 v0⟩;exact ⟨by decide,by decide,by decide,Nat.one_pos,p1,block_of hs (of_decide_eq_true (by kernel_rfl)) (by kernel_rfl) gE1 v1⟩;exact ⟨by decide,by decide,by decide,Nat.one_pos,p2,block_of hs (of_decide_eq_true (by kernel_rfl)) (by kernel_rfl) gE2 v2⟩;exact ⟨by decide,by decide,by decide,Nat.one_pos,p3,block_of hs (of_decide_eq_true (by kernel_rfl)) (by kernel_rfl) gE3 v3⟩;exact ⟨by decide,by decide,by decide,Nat.one_pos,p4,block_of hs (of_decide_eq_true (by kernel_rfl)) (by kernel_rfl) gE4 v4⟩;have h1' :9<=b:=h1;have h2' :b<14:=h2;have:b=9\/b=10\/b=11\/b=12\/b=13:=by omega
 rcases this with rfl|rfl|rfl|rfl|rfl;exact q0;exact q1;exact q2;exact q3;exact q4;simp only [errs,List.mem_cons,List.not_mem_nil,or_false] at hq;rcases hq with rfl|rfl;exact ⟨by decide,ct,frt,elt,t1,rfl,t2,t3⟩;exact ⟨by decide,ch,frh,elh,g1,by rw [g2];rfl,by rw [g2];exact Nat.one_pos,by decide,g3⟩
end Go.Proofs.YtmjjaldodkokbaaGreatDoor
namespace Go.Proofs.YtmjjaldodkokbaaGreatDoor
open Go Go.RowKit Go.Proofs
def lay (g:Nat) (cs:Array Value) (h:Array Obj):Array Obj:=h.modify g λ
 | .cells _ t fr=> .cells cs t fr
 |o=>o
def numsOf {H:Type}:DataW H->List Value
 | .agg l=>l.map λ| .lit (.int k n)=>Value.int k n|_=>undef
 |_=>[]
def pairsOf {H:Type}:DataW H->List Value
 | .agg l=>(l.map numsOf).flatten
 |_=>[]
def textOf {H:Type}:DataW H->ByteArray
 | .iface _ (.ptr (.agg [.lit (.string bs)]))=>⟨bs.toArray⟩
 |_=>⟨#[]⟩
noncomputable def low:Nat:=(World.holding Tryz.prog default ⟨#[],#[],[]⟩).heap.size
noncomputable def laidHeap (h:Array Obj):Array Obj:=
 lay 0 #[.iface 770 (.pointer (some ⟨low,0,none⟩))]
 (lay 1 #[.iface 770 (.pointer (some ⟨low+1,0,none⟩))]
 (lay 2 #[.iface 770 (.pointer (some ⟨low+2,0,none⟩))]
 (lay 4 #[.iface 770 (.pointer (some ⟨low+3,0,none⟩))]
 (lay 5 #[.iface 770 (.pointer (some ⟨low+4,0,none⟩))]
 (lay 6 (pairsOf (H:=Unit) Rows.laid_stagepost_tcpstate_triples).toArray
 (lay 3 #[.iface 434 (.agg #[typeHandle Tryz.prog 227])] h))))))
noncomputable def laidWorld (os:Os):World:=
 let w0:=World.holding Tryz.prog os ⟨#[.cells #[.string (textOf (H:=Unit) Rows.laid_stagepost_link_errBroken)] 789, .cells #[.string (textOf (H:=Unit) Rows.laid_stagepost_icmp_errShort)] 789, .cells #[.string (textOf (H:=Unit) Rows.laid_stagepost_icmp_errKind)] 789, .cells #[.string (textOf (H:=Unit) Rows.laid_stagepost_congestion_errSize)] 789, .cells #[.string (textOf (H:=Unit) Rows.laid_stagepost_dnscache_errInvalid)] 789],#[],[]⟩
 { w0 with heap:=laidHeap w0.heap}
set_option maxRecDepth 100000 in
theorem lay_handle (os:Os) (args:Array Value):([("errors.errorType",Rows.laid_errors_errorType)]:List (String×DataW Unit)).all (handleAtB Tryz.prog ((laidWorld os).forCall (λ_ _=>0) ⟨#[],args,[]⟩).memory)=true:=by kernel_rfl
set_option maxRecDepth 100000 in
theorem lay_six (os:Os) (args:Array Value):laidMet Tryz.prog laidSix ((laidWorld os).forCall (λ_ _=>0) ⟨#[],args,[]⟩).memory:=laidMet_of_run' 8 (by kernel_rfl) (by kernel_rfl)
theorem laid_met (os:Os) (args:Array Value):laidMetH Tryz.prog Rows.hostResolvesNameRow.laid ((laidWorld os).forCall (λ_ _=>0) ⟨#[],args,[]⟩).memory:=by refine laidMetH_iff.2 ⟨?_,?_⟩;rw [laid_six];exact lay_six os args;rw [laid_handle];exact handlesMet_of_B (lay_handle os args)
end Go.Proofs.YtmjjaldodkokbaaGreatDoor
namespace Go.Proofs.YtmjjaldodkokbaaGreatDoor
open Go
theorem tie' :Tryz.prog.laidByTextLater laidAll Qpx true:=Program.laidByTextLater_by_run_h 400 8 Zaz Zay Zax Zaw Zav Zau Zaq Zat Zas Zar
theorem row_tie' :Rows.hostResolvesNameRow.laidByTextAt .later Tryz.pinned Qpx true:=OpenClaim.laidByTextAt_later rfl rfl tie' Qsm
end Go.Proofs.YtmjjaldodkokbaaGreatDoor
namespace Go.Proofs.YtmjjaldodkokbaaGreatDoor
open Go.ChangeShapes Go.WideShapes Go.ChangeAt Go.RowKit Go.Joins
theorem own:ownKnob Tryz.prog.godebug=none:=by kernel_rfl
section
variable {H:Type} {enc:TypeId×Value->H} {P:Program}
theorem post_of_below {f:Func} {s:ChangeSpec} {apart fresh handsOn again:Bool} {W W' :World} {args:Array Value} {v:Value} {ds gs:List (DataW H)} {before pa pv:List MemPlace}
 (hW:DataW.Whole enc P f.params.toList s.vars apart W args.toList ds gs before)
 (hres:∀(b:Nat) (sp:Nat->Bool) (hd:Bool),DataW.TrodAll enc P W' b sp hd f.resultTypes.toList (v.resultList f.resultTypes.size) (s.fn H (ds++gs)).results [])
 (hargs:∀sp:Nat->Bool,(∀p∈before,sp p.block=true)->DataW.TrodAll enc P W' 0 sp true f.params.toList args.toList (s.fn H (ds++gs)).args pa)
 (hvars:∀sp:Nat->Bool,(∀p∈before,sp p.block=true)->DataW.TrodVars enc P W' sp s.vars (s.fn H (ds++gs)).vars pv)
 (hps:before=pa++pv) (hb:Below W.heap.size W W')
 (hok:∀(j:Nat) (t:TypeId) (r:Value),f.resultTypes[j]?=some t->(v.resultList f.resultTypes.size)[j]?=some r->Value.okWide P W' .any 0 t r):
 s.post enc P f apart fresh handsOn again W args v W' :=by
 have hlt:∀p∈before,p.block<W.heap.size:=λp hp=>hW.lt p hp
 have hold:∀p∈before,(λb=>decide (b<W.heap.size)) p.block=true:=λp hp=>by simpa using hlt p hp
 refine ⟨ds,gs,before,[],pa,pv,hW,hres _ _ _,hargs _ hold,hvars _ hold,World.keptBut_mono (λp hp=>⟨hp,?_⟩) (hb.frame (. ∈before)),λ_=>?_⟩;rw [hps,List.mem_append] at hp;exact Or.inr hp;obtain ⟨_,_,_,_,_,hz,hn⟩:=hW;refine ⟨hok,_,_,([]++pa)++pv,⟨[]++pa,pv,trodAll_append (hargs _ (λ_ _=>rfl)) (hres _ _ _),hvars _ (λ_ _=>rfl),rfl,?_,?_⟩,?_⟩;intro b off hp;have hin:MemPlace.cell b off∈before:=by rw [hps];simpa using hp
 rw [hb.frozen (hlt _ hin)];exact hz b off hin;intro ha;have:=hn ha;rw [hps] at this;simpa using this;intro p hp _;rw [hps];simpa using hp
end
section
variable {H:Type} {enc:TypeId×Value->H} {W:World}
theorem stays {t:TypeId} {W' :World} {sp' :Nat->Bool} {v:Value} {d:DataW H} {ps before:List MemPlace} (hr:Tryz.prog.readableRec t=true) (hrow:t<Tryz.prog.types.size) (h:DataW.Trod enc Tryz.prog W 0 (λ_=>true) true t v d ps) (hb:Below W.heap.size W W') (hlt:∀x∈ps,x.block<W.heap.size) (hin:∀x∈ps,x∈before) (hs:∀p∈before,sp' p.block=true):DataW.Trod enc Tryz.prog W' 0 sp' true t v d ps:=WideElems.Trod_stays Qxh hr hrow h (λx hx=>hb.same (hlt x hx)) (λx hx=>hs x (hin x hx))
end
section
variable {v:Value} {base:Nat} {W:World}
set_option maxRecDepth 100000 in
theorem int_has (h:Value.okWide Tryz.prog W .any base 3 v):Ax.spI.has v:=by
 have h' :Cell.okWide Tryz.prog W .any base 3 v:=by unfold Value.okWide at h;rw [Tryz.underlying3] at h;exact h
 exact Ax.Qkh h' (show Ax.spTy Tryz.prog 3=some Ax.spI by kernel_rfl)
end
theorem cells_int:Tryz.prog.cellsOf 3=1:=by kernel_rfl
section
variable {H:Type} {enc:TypeId×Value->H} {W:World} {base:Nat}
set_option maxRecDepth 100000 in
theorem ints_of {v:Value} {d:DataW H} {p:List MemPlace} {b0:Nat} (hv:Value.okWide Tryz.prog W .any b0 22 v) (h:DataW.Trod enc Tryz.prog W base (λ_=>true) true 22 v d p):RnInts W v:=by
 obtain ⟨a0,len,cap,rfl⟩:=okWide_slice Tryz.underlying22 hv;obtain ⟨fuel,hf⟩:=h;have hf' :DataW.trod enc Tryz.prog W base (λ_=>true) true fuel 22 [.slice a0 len cap]=some (d,p):=by simpa [Value.cells] using hf
 rcases open_ints Tryz.underlying22 Tryz.underlying3 cells_int hf' with ⟨e,-⟩|⟨a,len',cap',zs,e,-,hl,hm,hz,-,hcell,hwz⟩;cases e;exact .none
 cases e;simp only [if_true] at hz;have hplace:a.spot=none/\a.block<W.heap.size:=by
  have hv' :Cell.okWide Tryz.prog W .any b0 22 (.slice (some a) len cap):=by unfold Value.okWide at hv;rw [Tryz.underlying22] at hv;exact hv
  unfold Cell.okWide at hv';rw [Tryz.underlying22] at hv';simp only at hv';unfold Cell.ok at hv';rw [Tryz.underlying22] at hv';obtain ⟨_,_,_,g1,row,cells,g2,_⟩:=hv';refine ⟨g1,?_⟩;unfold World.shape? at g2;split at g2;rename_i hh;exact (Array.getElem?_eq_some_iff.1 hh).1
  cases g2
 obtain ⟨bk,off,sp⟩:=a;obtain ⟨g1,g2⟩:=hplace;simp only at g1 g2;subst g1;have hm' :(cap:Int)<=9223372036854775807:=by unfold maxLen at hm;omega
 have hc:∀i,i<cap->W.cell? ⟨bk,off+i,none⟩=some (.int .i64 (zs.getD i 0)):=λi hi=>by have:=hcell i (by omega);unfold Addr.add at this;split at this;rename_i h0;subst h0;simpa using this;exact this
 have hs:∀i,-9223372036854775808<=zs.getD i 0/\zs.getD i 0<=9223372036854775807:=λi=>by
  rw [List.getD_eq_getElem?_getD];cases hh:zs[i]? with
  |none=>simp only [Option.getD_none];omega
  |some z=>exact bounds_i64 (hwz z (List.mem_of_getElem? hh))
 rcases Nat.eq_zero_or_pos cap with rfl|h0;exact .some bk off len 0 off _ g2 hl hm' hs (Nat.le_refl _) (λi hi=>absurd hi (by omega)) (λh=>absurd h (by omega))
 have hlast:=hc (cap-1) (by omega);unfold World.cell? at hlast;split at hlast;rename_i c el fr hh;simp only [Option.isSome_none,Bool.false_eq_true,if_false] at hlast;have hi:=(Array.getElem?_eq_some_iff.1 hlast).1
 exact .some bk off len cap c.size _ g2 hl hm' hs (by omega) (λi hi=>hc i (by omega)) (λ_=>⟨c,el,fr,hh,rfl⟩)
 cases hlast
end
namespace hostResolvesName
open Go.ChangeMaps (open_string shut_string)
set_option maxRecDepth 100000 in
set_option maxHeartbeats 1000000 in
theorem contract (H:Type) (enc:TypeId×Value->H) (W:World) (base:Nat) (args:Array Value) (ds gs:List (DataW H)) (before:List MemPlace)
 (hval:∀(j:Nat) t v,Tryz.f3.params[j]?=some t->args[j]?=some v->Value.okWide Tryz.prog W .any base t v)
 (hW:DataW.Whole enc Tryz.prog Tryz.f3.params.toList Rows.hostResolvesNameSpec.vars false W args.toList ds gs before) (hL:laidMetH Tryz.prog Rows.hostResolvesNameRow.laid W) (hS:W.ShapedOpen Tryz.prog):
 Calls Tryz.prog 3 args W λe W' =>∃v,e= .returned v/\Rows.hostResolvesNameSpec.post enc Tryz.prog Tryz.f3 false true false false W args v W' :=by
 obtain ⟨A,N0,hok⟩:=laid_first hL hS;have hW' :=hW;obtain ⟨p,q,hA0,hV,rfl,hfz,hnd⟩:=hW;have hA:DataW.TrodAll enc Tryz.prog W 0 (λ_=>true) true Tryz.f3.params.toList args.toList ds p:=hA0;rw [Tryz.params3] at hA hval;obtain ⟨v0,vs0,d0,ds0,p0,q0,hargs,rfl,rfl,h0,r0⟩:=trodAll_cons hA;obtain ⟨v1,vs1,d1,ds1,p1,q1,rfl,rfl,rfl,h1,r1⟩:=trodAll_cons r0;obtain ⟨v2,vs2,d2,ds2,p2,q2,rfl,rfl,rfl,h2,r2⟩:=trodAll_cons r1;obtain ⟨v3,vs3,d3,ds3,p3,q3,rfl,rfl,rfl,h3,r3⟩:=trodAll_cons r2;obtain ⟨rfl,rfl,rfl⟩:=trodAll_nil r3;obtain rfl:args=#[v0,v1,v2,v3]:=by cases args;simp_all
 obtain ⟨rfl,rfl⟩:=trodVars_none hV;have hlt:=hW'.lt;have g0:=int_has (hval 0 3 v0 rfl rfl);have g1:=int_has (hval 1 3 v1 rfl rfl);have g2:=ints_of (hval 2 22 v2 rfl rfl) h2;have g3:=ints_of (hval 3 22 v3 rfl rfl) h3;clear hA0;refine (rn_any hok g0 g1 g2 g3).mono λe W' ⟨u,he,hu,hb⟩=>?_
 simp only [Ax.Sp.has] at hu;subst hu;subst he;exact ⟨_,rfl,post_of_below (pa:=(p0++(p1++(p2++(p3++[]))))) (pv:=[]) hW' (λ_ _ _=>trodAll_cons_mk (shut_bool Tryz.underlying4 _) trodAll_mk0) (λ_ hsp=>(trodAll_cons_mk (stays (before:=_) (by kernel_rfl) (of_decide_eq_true (by kernel_rfl)) h0 hb (λx hx=>hlt x (by simp [hx])) (λx hx=>by simp [hx]) hsp) (trodAll_cons_mk (stays (before:=_) (by kernel_rfl) (of_decide_eq_true (by kernel_rfl)) h1 hb (λx hx=>hlt x (by simp [hx])) (λx hx=>by simp [hx]) hsp) (trodAll_cons_mk (stays (before:=_) (by kernel_rfl) (of_decide_eq_true (by kernel_rfl)) h2 hb (λx hx=>hlt x (by simp [hx])) (λx hx=>by simp [hx]) hsp) (trodAll_cons_mk (stays (before:=_) (by kernel_rfl) (of_decide_eq_true (by kernel_rfl)) h3 hb (λx hx=>hlt x (by simp [hx])) (λx hx=>by simp [hx]) hsp) trodAll_mk0))))) (λ_ _=>rfl) (by simp) hb (ok_one (by kernel_rfl) rfl (okWide_bool_mk Tryz.underlying4 _))⟩
abbrev zeroArgs:Array Value:=#[.int .i64 0, .int .i64 0, .slice none 0 0, .slice none 0 0]
abbrev zeroData {H:Type}:List (DataW H):=[.lit (.int .i64 0), .lit (.int .i64 0), .nil, .nil]
set_option maxRecDepth 100000 in
theorem reads (os:Os) {H:Type} (enc:TypeId×Value->H):∃places,DataW.whole enc Tryz.prog ((laidWorld os).forCall (λ_ _=>0) ⟨#[],zeroArgs,[]⟩).memory Tryz.f3.params.toList Rows.hostResolvesNameSpec.vars false zeroArgs.toList 8=some (zeroData,[],places):=⟨[],by kernel_rfl⟩
set_option maxRecDepth 100000 in
theorem lifted (os:Os) (started:os.Started) (H:Type) (enc:TypeId×Value->H) (F:Stop.Interp):
 ReturnsInHanded {} Tryz.checked os 3 .any ((OpenSpec.ofChange Rows.hostResolvesNameSpec).preRow enc Tryz.prog Tryz.f3 Rows.hostResolvesNameRow.domain false Rows.hostResolvesNameRow.laid) (((OpenSpec.ofChange Rows.hostResolvesNameSpec).at F).post enc Tryz.prog Tryz.f3 false true false false):=by
 obtain ⟨places,hx⟩:=reads os enc;refine returnsInHanded_of_row (C:=Tryz.checked) (s:=OpenSpec.ofChange Rows.hostResolvesNameSpec) own started Z8a Tryz.func3
  (witness_row_at (enc:=enc) (C:=Tryz.checked) false (laidWorld os) zeroArgs rfl (by kernel_rfl) (by kernel_rfl) (by kernel_rfl)
   (OpenSpec.preRow_of_cond 8 hx (by kernel_rfl) (λk hk=>by cases hk) (by kernel_rfl) (laid_met os _))) ?_
 intro W base args ds gs before hval hW _ _ _ hL hS _;exact contract H enc W base args ds gs before hval hW hL hS
set_option maxRecDepth 100000 in
theorem said:Rows.HostResolvesNameSaid:=
 OpenClaim.holds_of_cond 3 Tryz.f3 rfl rfl rfl rfl rfl rfl rfl ⟨rfl,rfl,rfl,rfl,rfl⟩ rfl rfl rfl rfl rfl Z05 Tryz.func3 joined
  (of_decide_eq_true (by kernel_rfl)) (by unfold Func.isWrapper;first|(rw [if_pos (by decide+kernel)];kernel_rfl)|(rw [if_neg (by decide+kernel)];exact ⟨rfl,rfl⟩))
  (λos started H enc _ F=>by rw [OpenClaim.pre_eq_preRow];exact lifted os started H enc F)
set_option maxRecDepth 100000 in
theorem plain (f:FuncId) (fn:Func) (hf:Tryz.pinned.checked.prog.funcNamed "stagepost/stagepostlaw25.HostResolvesName" =some f) (hfn:Tryz.pinned.checked.prog.funcs[f]?=some fn):
 true=Tryz.pinned.checked.prog.looks []/\∀(j:Nat) t,fn.params[j]?=some t->Tryz.pinned.checked.prog.wantsStandIn t=false:=by
 obtain rfl:f=3:=Option.some.inj (Z05.symm.trans hf) |>.symm;obtain rfl:fn=Tryz.f3:=(Option.some.inj (Tryz.func3.symm.trans hfn)).symm
 refine ⟨Z88,λj t ht=>?_⟩;rw [Tryz.params3] at ht;have hm:=Array.mem_of_getElem? ht;simp only [List.mem_toArray,List.mem_cons,List.not_mem_nil,or_false] at hm;rcases hm with rfl|rfl|rfl|rfl;exact (show Tryz.prog.wantsStandIn 3=false by kernel_rfl);exact (show Tryz.prog.wantsStandIn 3=false by kernel_rfl);exact (show Tryz.prog.wantsStandIn 22=false by kernel_rfl);exact (show Tryz.prog.wantsStandIn 22=false by kernel_rfl)
set_option maxRecDepth 100000 in
theorem card:Rows.HostResolvesNameCardSaid:=Claim7.holds_tied_plain_at .later [] _ _ _ _ said (λ_ h=>by cases h) Z1n (λ_ h=>by cases h) row_tie' rfl ⟨rfl,rfl⟩ Z1t rfl plain Zab
end hostResolvesName
end Go.Proofs.YtmjjaldodkokbaaGreatDoor
