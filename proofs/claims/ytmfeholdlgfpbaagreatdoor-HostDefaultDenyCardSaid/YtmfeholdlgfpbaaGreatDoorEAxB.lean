/-
 THE ABSTRACT EXECUTOR, 7: slices, lengths, and new memory. Conditions: none.
-/
import Derived.Test.YtmfeholdlgfpbaaGreatDoorEAxA
namespace Go.Ax
open Go.RowKit
noncomputable def Qjc (x:AV):Option Nat:=
 match x with
 | .int _ e=>e.nat?
 |_=>none
theorem Z8 {X:Ext} {x:AV} {n:Nat} {u:Value} (h:Qjc x=some n) (hx:x.rel X u):∃k,u= .int k (n:Int):=by unfold Qjc at h;split at h;rename_i k e;simp only [AV.rel] at hx;obtain ⟨-,rfl⟩:=hx;exact ⟨k,by rw [E.jD (O:=X.O) h]⟩;cases h
noncomputable def Qhq (x:Option AV) (d:Nat):Option Nat:=
 match x with
 |none=>some d
 |some a=>Qjc a
def Qch (X:Ext):Option AV->Option Value->Prop
 |none,none=>True
 |some a,some v=>a.rel X v
 |_,_=>False
noncomputable def zu (len cap:Nat) (lo hi mx:Option AV):Option (Nat×Nat×Nat):=
 match Qhq mx cap with
 |none=>none
 |some m=>
  match Qhq hi len with
  |none=>none
  |some h=>
   match Qhq lo 0 with
   |none=>none
   |some l=>bif Nat.ble m cap&&Nat.ble h m&&Nat.ble l h&&(hi.isSome||mx.isNone) then some (l,h,m) else none
theorem run_sliceBound {P:Program} {w:World} {k:IntKind} {n y:Nat} {code:BoundsCode} (h:n<=y):(Instr.sliceBound (.int k (n:Int)) y code).run P w= .ok n w:=by simp [Instr.sliceBound,asIntOf,h]
theorem ZK {P:Program} {w:World} {X:Ext} {len cap c l h m:Nat} {lo hi mx:Option AV} {lo' hi' mx' :Option Value} (hlo:Qch X lo lo') (hhi:Qch X hi hi') (hmx:Qch X mx mx')
 (hb:zu len cap lo hi mx=some (l,h,m)) (hc:cap<=c) (isSlice:Bool):
 (Instr.sliceBounds isSlice len c lo' hi' mx').run P w= .ok (l,h,if mx.isSome then m else c) w/\l<=h/\h<=m/\m<=cap/\(mx=none->m=cap)/\(mx' =none↔mx=none):=by
 unfold zu at hb;split at hb;cases hb;rename_i m' hm;split at hb;cases hb;rename_i h' hh;split at hb;cases hb;rename_i l' hl;cases hcnd:(Nat.ble m' cap&&Nat.ble h' m' &&Nat.ble l' h' &&(hi.isSome||mx.isNone)) with
 |false=>rw [hcnd] at hb;cases hb
 |true=>
  rw [hcnd] at hb;cases hb;simp only [Bool.and_eq_true,Nat.ble_eq] at hcnd;obtain ⟨⟨⟨h1,h2⟩,h3⟩,h4⟩:=hcnd;refine ⟨?_,h3,h2,h1,?_,?_⟩;cases mx with
  |none=>
   cases mx' with
   |some v=>exact hmx.elim
   |none=>
    simp only [Qhq,Option.some.injEq] at hm;subst hm;cases hi with
    |none=>
     cases hi' with
     |some v=>exact hhi.elim
     |none=>
      simp only [Qhq,Option.some.injEq] at hh;subst hh;cases lo with
      |none=>
       cases lo' with
       |some v=>exact hlo.elim
       |none=>simp only [Qhq,Option.some.injEq] at hl;subst hl;simp [Instr.sliceBounds]
      |some a=>
       cases lo' with
       |none=>exact hlo.elim
       |some v=>obtain ⟨k,rfl⟩:=Z8 hl hlo;simp [Instr.sliceBounds,run_sliceBound h3]
    |some a=>
     cases hi' with
     |none=>exact hhi.elim
     |some v=>
      obtain ⟨k,rfl⟩:=Z8 hh hhi;have h2' :h<=c:=by omega
      cases lo with
      |none=>
       cases lo' with
       |some v=>exact hlo.elim
       |none=>simp only [Qhq,Option.some.injEq] at hl;subst hl;simp [Instr.sliceBounds,run_sliceBound h2']
      |some a=>
       cases lo' with
       |none=>exact hlo.elim
       |some v=>obtain ⟨k,rfl⟩:=Z8 hl hlo;simp [Instr.sliceBounds,run_sliceBound h3,run_sliceBound h2']
  |some b=>
   cases mx' with
   |none=>exact hmx.elim
   |some v=>
    obtain ⟨k,rfl⟩:=Z8 hm hmx;have h1' :m<=c:=by omega
    cases hi with
    |none=>simp at h4
    |some a=>
     cases hi' with
     |none=>exact hhi.elim
     |some v=>
      obtain ⟨k,rfl⟩:=Z8 hh hhi;cases lo with
      |none=>
       cases lo' with
       |some v=>exact hlo.elim
       |none=>simp only [Qhq,Option.some.injEq] at hl;subst hl;simp [Instr.sliceBounds,run_sliceBound h2,run_sliceBound h1']
      |some a=>
       cases lo' with
       |none=>exact hlo.elim
       |some v=>obtain ⟨k,rfl⟩:=Z8 hl hlo;simp [Instr.sliceBounds,run_sliceBound h3,run_sliceBound h2,run_sliceBound h1']
  rintro rfl
  simp only [Qhq,Option.some.injEq] at hm;exact hm.symm;cases mx<;>cases mx' <;>first|exact hmx.elim|simp
noncomputable def aslice (T:Tab) (H:Tr Q7) (t:TypeId) (x:AV) (lo hi mx:Option AV):Option AV:=
 match T.ty t with
 |none=>none
 |some ti=>
  match ti.desc,x with
  | .array n elem, .ptr b o=>
   match T.ty elem,Y9 H b with
   |some ei,some cs=>
    match zu n n lo hi mx with
    |some (l,h,m)=>bif Nat.ble (o+n*ei.size) cs.length then
     QG (bif Nat.beq m l then o else o+l*ei.size) λo' =>QG (h-l) λn' =>QG (m-l) λc' =>some (.slice b o' n' c' ei.size true) else none
    |none=>none
   |_,_=>none
  | .string, .str s=>
   match mx with
   |some _=>none
   |none=>
    match zu s.length s.length lo hi none with
    |some (l,h,_)=>some (.str ((s.drop l).take (h-l)))
    |none=>none
  | .slice elem, .nilslice=>
   match T.ty elem with
   |some _=>match zu 0 0 lo hi mx with
    |some _=>some .nilslice
    |none=>none
   |none=>none
  | .slice elem, .slice b o len cap es ex=>
   match T.ty elem with
   |some ei=>
    bif Nat.beq ei.size es then
     match zu len cap lo hi mx with
     |some (l,h,m)=>
      QG (h-l) λn' =>QG (m-l) λc' =>
      bif ex||(Nat.blt 0 cap&&mx.isSome) then QG (bif Nat.beq m l then o else o+l*es) λo' =>some (.slice b o' n' c' es true)
      else bif mx.isSome then (bif Nat.beq n' 0 then some (.slice b o 0 c' es false) else none)
      else QG (o+l*es) λo' =>some (.slice b o' n' c' es false)
     |none=>none
    else none
   |none=>none
  | .slice elem, .wslice b o n es _=>
   match T.ty elem,hi,mx with
   |some ei,some _,none=>
    bif Nat.beq ei.size es&&Nat.blt 0 n then
     match zu n n lo hi none with
     |some (l,h,_)=>QG (h-l) λn' =>QG (o+l*es) λo' =>some (.slice b o' n' n' es false)
     |none=>none
    else none
   |_,_,_=>none
  |_,_=>none
theorem ZG {P:Program} {w:World} {t:TypeId} {d:TypeDesc} {u:Value} {lo hi mx:Option Value} (hu:(underlying t).run P w= .ok d w) (hd:∀n e,d≠ .array n e):(Instr.sliceAt t u lo hi mx).run P w=(Instr.slice t u lo hi mx).run P w:=by unfold Instr.sliceAt;rw [Sem.run_bind,hu,Result.andThen_ok];cases d<;>first|rfl|exact absurd rfl (hd _ _)
theorem Q7q {P:Program} {T:Tab} (hT:T.OK P) {X:Ext} {n0:Nat} {H:Tr Q7} {w:World} (hH:Qq X n0 H w) {t:TypeId} {x r:AV} {u:Value} {lo hi mx:Option AV} {lo' hi' mx' :Option Value}
 (h:aslice T H t x lo hi mx=some r) (hx:x.rel X u) (hlo:Qch X lo lo') (hhi:Qch X hi hi') (hmx:Qch X mx mx'):∃z,(Instr.sliceAt t u lo' hi' mx').run P w= .ok z w/\r.rel X z:=by
 unfold aslice at h;split at h;cases h;rename_i ti hti;have hu:=T.Qf hT hti w;split at h<;>rename_i hd
 . rename_i n elem b o;split at h
   case h_2=>cases h
   rename_i ei cs hei hcs;split at h
   case h_2=>cases h
   rename_i l hh m hb;simp only [AV.rel] at hx;obtain ⟨p,hp,rfl⟩:=hx;obtain ⟨e1,e2,e3,e4,e5,e6⟩:=ZK (P:=P) (w:=w) hlo hhi hmx hb (Nat.le_refl n) false;cases hl:Nat.ble (o+n*ei.size) cs.length with
   |false=>rw [hl] at h;cases h
   |true=>
    rw [hl] at h;simp only [cond_true,sNat_eq,Option.some.injEq] at h;have hl' :o+n*ei.size<=cs.length:=by simpa using hl
    have hm:(if mx.isSome=true then m else n)=m:=by
     cases hmm:mx with
     |none=>simp [e5 hmm]
     |some v=>simp
    rw [hm] at e1;have hpn:p.base+cs.length<=p.n:=by unfold Y9 at hcs;split at hcs;rename_i ho;cases hcs;obtain ⟨c,fr,_,_,g3,_⟩:=hH.obj b _ p ho hp;exact g3;cases hcs
    rw [hd] at hu;refine ⟨.slice (some (if m=l then ⟨p.blk,p.base+o,none⟩ else (⟨p.blk,p.base+o,none⟩:Addr).add (l*ei.size))) (hh-l) (m-l),?_,?_⟩;simp only [Instr.sliceAt,Sem.run_bind,hu,Result.andThen_ok,Instr.sureAddr,Sem.run_pure,e1,T.Qv hT hei];subst h;simp only [AV.rel];by_cases hml:m=l;subst hml;simp only [if_true,Nat.beq_refl,cond_true,Nat.sub_self];exact ⟨p,p.base+o,0,hp,rfl,by omega,by omega,by omega,λ_=>rfl,λ_=>rfl⟩;have hb' :Nat.beq m l=false:=by
     cases hbb:Nat.beq m l with
     |false=>rfl
     |true=>exact absurd (by simpa using hbb) hml
    simp only [if_neg hml,hb',cond_false,QO];refine ⟨p,p.base+o+l*ei.size,m-l,hp,rfl,by omega,by omega,?_,λ_=>by rw [Nat.add_assoc],λ_=>rfl⟩;have:l*ei.size+(m-l)*ei.size<=n*ei.size:=by rw [<-Nat.add_mul];exact Nat.mul_le_mul_right _ (by omega)
    omega
 . rename_i s;split at h
   case h_1=>cases h
   split at h
   case h_2=>cases h
   rename_i l hh m hb;cases h;simp only [AV.rel] at hx;obtain ⟨ho,rfl⟩:=hx;have hmx' :mx' =none:=by cases mx' with
    |none=>rfl
    |some v=>exact hmx.elim
   subst hmx';obtain ⟨e1,e2,e3,e4,e5,e6⟩:=ZK (P:=P) (w:=w) (mx:=none) (mx' :=none) hlo hhi trivial hb (Nat.le_refl s.length) false;have hm:=e5 rfl;have hsz:({ data:=(S.bytes X.O s).toArray}:ByteArray).size=s.length:=by
    show (S.bytes X.O s).toArray.size=_
    simp [S.bytes]
   refine ⟨.string (({ data:=(S.bytes X.O s).toArray}:ByteArray).extract l hh),?_,?_⟩;rw [ZG hu (by rw [hd];simp)];rw [hd] at hu;simp only [Instr.slice,Sem.run_bind,hu,Result.andThen_ok,Option.isSome_none,Bool.false_eq_true,if_false,hsz,e1,Sem.run_pure];simp only [AV.rel];refine ⟨λt ht=>ho t (List.mem_of_mem_drop (List.mem_of_mem_take ht)),?_⟩;congr 1;apply ByteArray.ext;rw [ByteArray.data_extract];apply Array.ext';simp only [Array.toList_extract,S.bytes,List.map_take,List.map_drop]
 . rename_i elem;split at h
   case h_2=>cases h
   rename_i ei hei;split at h
   case h_2=>cases h
   rename_i q hb;cases h;obtain ⟨l,hh,m⟩:=q;simp only [AV.rel] at hx;subst hx;obtain ⟨e1,e2,e3,e4,e5,e6⟩:=ZK (P:=P) (w:=w) hlo hhi hmx hb (Nat.le_refl 0) true;obtain rfl:m=0:=by omega
   obtain rfl:hh=0:=by omega
   obtain rfl:l=0:=by omega
   refine ⟨.slice none 0 0,?_,by simp only [AV.rel]⟩;rw [ZG hu (by rw [hd];simp)];rw [hd] at hu;simp only [Instr.slice,Sem.run_bind,hu,Result.andThen_ok,e1,T.Qv hT hei,Sem.run_pure,ite_self,if_true]
 . rename_i elem b o len cap es ex;split at h
   case h_2=>cases h
   rename_i ei hei;cases hes:Nat.beq ei.size es with
   |false=>rw [hes] at h;cases h
   |true=>
    rw [hes] at h;simp only [cond_true] at h;have hes' :ei.size=es:=by simpa using hes
    split at h
    case h_2=>cases h
    rename_i l hh m hb;simp only [AV.rel] at hx;obtain ⟨p,o',c,hp,rfl,g1,g2,g3,g4,g5⟩:=hx;obtain ⟨e1,e2,e3,e4,e5,e6⟩:=ZK (P:=P) (w:=w) hlo hhi hmx hb g2 true;have hrun:(Instr.sliceAt t (.slice (some ⟨p.blk,o',none⟩) len c) lo' hi' mx').run P w=
     .ok (.slice (if (if mx.isSome=true then m else c)=l then some ⟨p.blk,o',none⟩ else some ⟨p.blk,o' +l*es,none⟩) (hh-l) ((if mx.isSome=true then m else c)-l)) w:=by
     rw [ZG hu (by rw [hd];simp)];rw [hd] at hu;simp only [Instr.slice,Sem.run_bind,hu,Result.andThen_ok,e1,T.Qv hT hei,hes',Sem.run_pure,Option.map_some,QO]
    refine ⟨_,hrun,?_⟩;simp only [sNat_eq] at h;have bound:∀M,l<=M->M<=c->o' +l*es+(M-l)*es<=p.n:=by
     intro M h1 h2;have:l*es+(M-l)*es<=c*es:=by rw [<-Nat.add_mul];exact Nat.mul_le_mul_right _ (by omega)
     omega
    cases hc1:(ex||(Nat.blt 0 cap&&mx.isSome)) with
    |true=>
     rw [hc1] at h;simp only [cond_true,Option.some.injEq] at h;subst h;have ho:o' =p.base+o:=by simp only [Bool.or_eq_true,Bool.and_eq_true,Nat.blt_eq] at hc1;rcases hc1 with hc1|hc1;exact g4 (.inr hc1);exact g4 (.inl hc1.1)
     have hM:(if mx.isSome=true then m else c)=m:=by
      cases hmm:mx with
      |some v=>simp
      |none=>simp only [Bool.or_eq_true,Bool.and_eq_true,hmm,Option.isSome_none,Bool.false_eq_true,and_false,or_false] at hc1;simp [e5 hmm,g5 hc1]
     rw [hM];subst ho;simp only [AV.rel];by_cases hml:m=l;subst hml;simp only [if_true,Nat.beq_refl,cond_true,Nat.sub_self];refine ⟨p,p.base+o,0,hp,rfl,by omega,by omega,by omega,λ_=>rfl,λ_=>rfl⟩;have hb' :Nat.beq m l=false:=by
      cases hbb:Nat.beq m l with
      |false=>rfl
      |true=>exact absurd (by simpa using hbb) hml
     simp only [if_neg hml,hb',cond_false];exact ⟨p,p.base+o+l*es,m-l,hp,rfl,by omega,by omega,bound m (by omega) (by omega),λ_=>by rw [Nat.add_assoc],λ_=>rfl⟩
    |false=>
     rw [hc1] at h;simp only [cond_false] at h;simp only [Bool.or_eq_false_iff,Bool.and_eq_false_iff] at hc1;obtain ⟨hex,hc2⟩:=hc1;cases hms:mx.isSome with
     |true=>
      rw [hms] at h;simp only [cond_true] at h;cases hz:Nat.beq (hh-l) 0 with
      |false=>rw [hz] at h;cases h
      |true=>
       rw [hz] at h;cases h;have hz' :hh-l=0:=by simpa using hz
       simp only [if_true,AV.rel];by_cases hml:m=l;rw [if_pos hml,hz'];exact ⟨p,o',m-l,hp,rfl,by omega,by omega,by have:=bound m (by omega) (by omega);omega,λhq=>(by rcases hc2 with hc2|hc2<;>rcases hq with hq|hq<;>first|omega|cases hq|(simp only [Nat.blt_eq,<-Bool.not_eq_true] at hc2;omega)|(rw [hms] at hc2;cases hc2)),λhq=>by cases hq⟩;rw [if_neg hml,hz'];exact ⟨p,o' +l*es,m-l,hp,rfl,by omega,by omega,bound m (by omega) (by omega),λhq=>(by rcases hc2 with hc2|hc2<;>rcases hq with hq|hq<;>first|omega|cases hq|(simp only [Nat.blt_eq,<-Bool.not_eq_true] at hc2;omega)|(rw [hms] at hc2;cases hc2)),λhq=>by cases hq⟩
     |false=>
      rw [hms] at h;simp only [cond_false] at h;have hmn:mx=none:=by cases mx with
       |none=>rfl
       |some v=>cases hms
      have hmc:=e5 hmn;subst hmc;simp only [Option.some.injEq] at h;subst h;simp only [Bool.false_eq_true,if_false,AV.rel];by_cases hml:c=l;rw [if_pos hml];refine ⟨p,o',c-l,hp,rfl,by omega,by omega,?_,λhq=>?_,λhq=>by cases hq⟩;have:=bound c (by omega) (by omega);omega;rcases hq with hq|hq;omega;cases hq;rw [if_neg hml];refine ⟨p,o' +l*es,c-l,hp,rfl,by omega,by omega,bound c (by omega) (by omega),λhq=>?_,λhq=>by cases hq⟩;rcases hq with hq|hq;have:=g4 (.inl (by omega));subst this;rw [Nat.add_assoc];cases hq
 . rename_i elem b o n es lt;split at h
   case h_2=>cases h
   rename_i ei hi0 hei;cases hes0:(Nat.beq ei.size es&&Nat.blt 0 n) with
   |false=>rw [hes0] at h;cases h
   |true=>
    rw [hes0] at h;simp only [cond_true] at h;rw [Bool.and_eq_true,Nat.blt_eq] at hes0;obtain ⟨hes,hn0⟩:=hes0;have hes' :ei.size=es:=by simpa using hes
    split at h
    case h_2=>cases h
    rename_i l hh m hb;simp only [AV.rel] at hx;obtain ⟨p,len,c,hp,hv0,g1,g2,g3,g4,g5⟩:=hx;obtain rfl:_=_:=hv0.elim id λh=>absurd h.2 (by omega)
    have hmx' :mx' =none:=by cases mx' with
     |none=>rfl
     |some v=>exact hmx.elim
    subst hmx';obtain ⟨hv,rfl⟩:∃hv,hi' =some hv:=by cases hi' with
     |none=>exact hhi.elim
     |some v=>exact ⟨v,rfl⟩
    obtain ⟨e1,e2,e3,e4,e5,e6⟩:=ZK (P:=P) (w:=w) (mx:=none) (mx' :=none) hlo hhi trivial hb (Nat.le_trans g1 g2) true;have e1' :(Instr.sliceBounds true len c lo' (some hv) none).run P w=(Instr.sliceBounds true n c lo' (some hv) none).run P w:=rfl
    rw [e1] at e1';simp only [Option.isSome_none,Bool.false_eq_true,if_false] at e1';have hrun:(Instr.sliceAt t (.slice (some ⟨p.blk,p.base+o,none⟩) len c) lo' (some hv) none).run P w=
     .ok (.slice (if c=l then some ⟨p.blk,p.base+o,none⟩ else some ⟨p.blk,p.base+o+l*es,none⟩) (hh-l) (c-l)) w:=by
     rw [ZG hu (by rw [hd];simp)];rw [hd] at hu;simp only [Instr.slice,Sem.run_bind,hu,Result.andThen_ok,e1',T.Qv hT hei,hes',Sem.run_pure,Option.map_some,QO]
    refine ⟨_,hrun,?_⟩;simp only [sNat_eq,Option.some.injEq] at h;subst h;have hm:=e5 rfl;have bound:p.base+o+l*es+(c-l)*es<=p.n:=by
     have:l*es+(c-l)*es=c*es:=by rw [<-Nat.add_mul];congr 1;omega
     omega
    simp only [AV.rel];by_cases hcl:c=l;rw [if_pos hcl];exact ⟨p,p.base+o,c-l,hp,rfl,by omega,by omega,by omega,λhq=>(by rcases hq with hq|hq<;>first|omega|cases hq),λhq=>by cases hq⟩;rw [if_neg hcl];exact ⟨p,p.base+o+l*es,c-l,hp,rfl,by omega,by omega,bound,λ_=>by rw [Nat.add_assoc],λhq=>by cases hq⟩
 cases h
noncomputable def leT (c:Ctx) (a b:E):Bool:=
 match E.cmp c .leq a b with
 |some true=>true
 |_=>false
theorem zS {n:Nat->Prop} {c:Ctx} {a b:E} {O:Val} (h:leT c a b=true) (hc:c.okN n O):a.den O<=b.den O:=by unfold leT at h;split at h;rename_i e;have:=E.Qb rfl e hc;simpa [Yf] using this;cases h
def Qbf (x:Option AV) (d:E):Option E:=
 match x with
 |none=>some d
 |some (.int _ e)=>some e
 |_=>none
theorem Q3r {X:Ext} {x:Option AV} {d e:E} {v:Option Value} (h:Qbf x d=some e) (hx:Qch X x v) (hd:d.ok X.dom):
 e.ok X.dom/\((x=none/\v=none/\e=d)\/∃k,v=some (.int k (e.den X.O))):=by
 unfold Qbf at h;split at h;cases h;cases v with
 |none=>exact ⟨hd, .inl ⟨rfl,rfl,rfl⟩⟩
 |some v=>exact hx.elim
 cases h;cases v with
 |none=>exact hx.elim
 |some v=>simp only [Qch,AV.rel] at hx;obtain ⟨h1,rfl⟩:=hx;exact ⟨h1, .inr ⟨_,rfl⟩⟩
 cases h
noncomputable def Qkp (c:Ctx) (s:ST):E:=
 match lenS c s with
 |some e=>e
 |none=>s.len
theorem Q35 {d:Nat->Prop} {c:Ctx} {O:Val} (hc:c.okN d O) {s:ST} (hs:s.ok d) (hf:s.fit O):(Qkp c s).ok d/\(Qkp c s).den O=((s.den O).length:Int):=by unfold Qkp;split;rename_i e he;exact Qcp hc he hs;exact ⟨ST.Q34 hs,hf⟩
noncomputable def Q58 (T:Tab) (c:Ctx) (t:TypeId) (x:AV) (lo hi mx:Option AV):Option AV:=
 match T.ty t,Qjp x,mx with
 |some ti,some s,none=>
  match ti.desc with
  | .string=>
   match Qbf lo (.lit (.ofNat 0)),Qbf hi (Qkp c s) with
   |some l,some h=>match Qke c s l h with
    |some a=>some a
    |none=>bif leT c (.lit (.ofNat 0)) l&&leT c l h&&leT c h (Qkp c s)&&s.fits c then some (.sstr (.sub s l h)) else none
   |_,_=>none
  |_=>none
 |_,_,_=>none
theorem Q2t {P:Program} {w:World} {k:IntKind} {z:Int} {y:Nat} {code:BoundsCode} (h0:0<=z) (h:z<=y):(Instr.sliceBound (.int k z) y code).run P w= .ok z.toNat w:=by obtain ⟨n,rfl⟩:∃n:Nat,z=n:=⟨z.toNat,by omega⟩;rw [run_sliceBound (by omega)];simp
theorem Qa7 {P:Program} {w:World} {lo' :Option Value} {z:Int} {y q m:Nat} {code:BoundsCode} (h:(lo' =none/\z=0)\/∃k,lo' =some (.int k z)) (h0:0<=z) (hy:z<=y):
 (match (generalizing:=false) lo' with
  |some v=>do let l <-Instr.sliceBound v y code;pure (l,q,m)
  |none=>do let l <-pure 0;pure (l,q,m):Sem (Nat×Nat×Nat)).run P w= .ok (z.toNat,q,m) w:=by
 rcases h with ⟨rfl,rfl⟩|⟨k,rfl⟩;rfl;simp only [Sem.run_bind,Q2t h0 hy,Result.andThen_ok,Sem.run_pure]
theorem qB {P:Program} {w:World} {t:TypeId} {lo' hi' :Option Value} {bs:List UInt8} {zl zh:Int} (hu:(underlying t).run P w= .ok .string w) (g1:0<=zl) (g2:zl<=zh) (g3:zh<=(bs.length:Int))
 (l2:(lo' =none/\zl=0)\/∃k,lo' =some (.int k zl)) (h2:(hi' =none/\zh=(bs.length:Int))\/∃k,hi' =some (.int k zh)):
 (Instr.sliceAt t (.string ⟨bs.toArray⟩) lo' hi' none).run P w= .ok (.string ⟨((bs.drop zl.toNat).take (zh.toNat-zl.toNat)).toArray⟩) w:=by
 have hsz:({ data:=bs.toArray}:ByteArray).size=bs.length:=by show bs.toArray.size=_;simp
 have e1:(Instr.sliceBounds false bs.length bs.length lo' hi' none).run P w= .ok (zl.toNat,zh.toNat,bs.length) w:=by
  rcases h2 with ⟨e,e'⟩|⟨k,e⟩;subst e;have:zh.toNat=bs.length:=by omega
  rw [this];simp only [Instr.sliceBounds,Sem.run_bind,Sem.run_pure,Result.andThen_ok,Option.isSome_none,Bool.false_eq_true,if_false];exact Qa7 l2 g1 (by omega);subst e;have eh:(Instr.sliceBound (.int k zh) bs.length BoundsCode.sliceAlen).run P w= .ok zh.toNat w:=Q2t (by omega) (by omega)
  simp only [Instr.sliceBounds,Sem.run_bind,Sem.run_pure,Result.andThen_ok,Option.isSome_none,Bool.false_eq_true,if_false,eh];exact Qa7 l2 g1 (by omega)
 have e2:({ data:=bs.toArray}:ByteArray).extract zl.toNat zh.toNat=⟨((bs.drop zl.toNat).take (zh.toNat-zl.toNat)).toArray⟩:=by apply ByteArray.ext;rw [ByteArray.data_extract];apply Array.ext';simp only [Array.toList_extract]
 rw [<-e2,ZG hu (by simp)];simp only [Instr.slice,Sem.run_bind,hu,Result.andThen_ok,Option.isSome_none,Bool.false_eq_true,if_false,hsz,e1,Sem.run_pure]
theorem Q57 {P:Program} {T:Tab} (hT:T.OK P) {c:Ctx} {X:Ext} (hc:c.okN X.dom X.O) {w:World} {t:TypeId} {x r:AV} {lo hi mx:Option AV} {lo' hi' mx' :Option Value} {u:Value} (h:Q58 T c t x lo hi mx=some r) (hx:x.rel X u)
 (hlo:Qch X lo lo') (hhi:Qch X hi hi') (hmx:Qch X mx mx'):∃z,(Instr.sliceAt t u lo' hi' mx').run P w= .ok z w/\r.rel X z:=by
 unfold Q58 at h;split at h;rename_i ti s hti hs;have hu:=T.Qf hT hti w;split at h;rename_i hd;rw [hd] at hu;obtain ⟨s1,s2,rfl⟩:=yV hs hx;obtain ⟨d1,d2⟩:=Q35 hc s1 s2;have hmx' :mx' =none:=by cases mx' with
  |none=>rfl
  |some v=>exact hmx.elim
 subst hmx';split at h;rename_i l hh hl hhh;obtain ⟨l1,l2⟩:=Q3r hl hlo trivial;obtain ⟨h1,h2⟩:=Q3r hhh hhi d1;have l2' :(lo' =none/\l.den X.O=0)\/∃k,lo' =some (.int k (l.den X.O)):=by
  rcases l2 with ⟨_,e,e'⟩|h;exact .inl ⟨e,by rw [e'];rfl⟩
  exact .inr h
 have h2' :(hi' =none/\hh.den X.O=((s.den X.O).length:Int))\/∃k,hi' =some (.int k (hh.den X.O)):=by
  rcases h2 with ⟨_,e,e'⟩|h;exact .inl ⟨e,by rw [e',d2]⟩
  exact .inr h
 split at h;rename_i a ha;cases h;obtain ⟨g1,g2,g3,g4⟩:=Q8r hc ha s1 l1 h1;exact ⟨_,qB hu g1 g2 g3 l2' h2',g4⟩;cases hb:(leT c (.lit (.ofNat 0)) l&&leT c l hh&&leT c hh (Qkp c s)&&s.fits c) with
 |false=>rw [hb] at h;cases h
 |true=>rw [hb] at h;cases h;simp only [Bool.and_eq_true] at hb;obtain ⟨⟨⟨b1,b2⟩,b3⟩,b4⟩:=hb;have g1:(0:Int)<=l.den X.O:=zS b1 hc;have g2:=zS b2 hc;have g3:=zS b3 hc;have g4:=ST.ZT b4 hc s2;rw [d2] at g3;refine ⟨_,qB hu g1 g2 g3 l2' h2',?_⟩;simp only [AV.rel];refine ⟨⟨s1,l1,h1⟩,?_,rfl⟩;unfold ST.fit;simp only [ST.len,E.den,ST.den,Zp,List.length_take,List.length_drop];rw [wrap_within (by simp only [kLo];omega) (by simp only [kHi];omega)];omega
 cases h;cases h;cases h
noncomputable def ltT (c:Ctx) (a b:E):Bool:=
 match E.cmp c .lss a b with
 |some true=>true
 |_=>false
theorem Qep {n:Nat->Prop} {c:Ctx} {a b:E} {O:Val} (h:ltT c a b=true) (hc:c.okN n O):a.den O<b.den O:=by unfold ltT at h;split at h;rename_i e;have:=E.Qb rfl e hc;simpa [Yf] using this;cases h
def ST.at (n:Nat):ST->Option E
 | .bs l=>match l[n]? with
  |some e=>bif e.isByte then some e else none
  |none=>none
 | .cat a _=>a.at n
 |_=>none
theorem ST.Qbi {n:Nat} {e:E} {O:Val} {d:Nat->Prop}:∀{s:ST},s.at n=some e->s.ok d->e.ok d/\e.isByte=true/\(s.den O)[n]?=some (UInt8.ofNat (e.den O).toNat)
 | .bs l,h,ho=>by
  simp only [ST.at] at h;split at h;rename_i e' he;cases hb:e'.isByte with
  |false=>rw [hb] at h;cases h
  |true=>rw [hb] at h;cases h;exact ⟨ho _ (List.mem_of_getElem? he),hb,by simp [ST.den,S.bytes,he]⟩
  cases h
 | .cat a b,h,ho=>by obtain ⟨h1,h2,h3⟩:=ST.Qbi (s:=a) h ho.1;refine ⟨h1,h2,?_⟩;simp only [ST.den];rw [List.getElem?_append_left (List.getElem?_eq_some_iff.1 h3).1];exact h3
 | .var _,h,_=>by cases h
 | .sub _ _ _,h,_=>by cases h
noncomputable def Q20 (T:Tab) (c:Ctx) (t:TypeId) (x ix:AV):Option AV:=
 match T.ty t,x,ix with
 |some ti, .sstr s, .int _ e=>
  match ti.desc with
  | .string=>match s,e with
   | .var i,e=>bif leT c (.lit (.ofNat 0)) e&&ltT c e (.len i) then some (.int .u8 (.byte i e)) else none
   |s, .lit (.ofNat n)=>match s.at n with
    |some e=>some (.int .u8 e)
    |none=>none
   |_,_=>none
  |_=>none
 |_,_,_=>none
theorem Q5f {P:Program} {T:Tab} (hT:T.OK P) {c:Ctx} {X:Ext} (hc:c.okN X.dom X.O) {w:World} {t:TypeId} {x ix r:AV} {u v:Value} (h:Q20 T c t x ix=some r) (hx:x.rel X u) (hi:ix.rel X v):
 ∃z,(Instr.index t u v).run P w= .ok z w/\r.rel X z:=by
 unfold Q20 at h;split at h;rename_i ti s k e hti;split at h;rename_i hd;split at h;rename_i i;cases hb:(leT c (.lit (.ofNat 0)) e&&ltT c e (.len i)) with
 |false=>rw [hb] at h;cases h
 |true=>
  rw [hb] at h;cases h;simp only [Bool.and_eq_true] at hb;have g1:(0:Int)<=e.den X.O:=zS hb.1 hc;have g2:e.den X.O<((X.O.str i).length:Int):=Qep hb.2 hc;simp only [AV.rel] at hx hi;obtain ⟨x1,x2,rfl⟩:=hx;obtain ⟨i1,rfl⟩:=hi;obtain ⟨m,hm⟩:∃m:Nat,e.den X.O=m:=⟨(e.den X.O).toNat,by omega⟩;rw [hm] at g2 ⊢;have hlt:m<(X.O.str i).length:=by omega
  have hget:(({ data:=((ST.var i).den X.O).toArray}:ByteArray)[m]?)=some ((X.O.str i).getD m 0):=by
   have hlt' :m<({ data:=((ST.var i).den X.O).toArray}:ByteArray).size:=by show m<(X.O.str i).toArray.size;simpa using hlt
   rw [getElem?_pos _ m hlt'];congr 1;rw [List.getD_eq_getElem?_getD,List.getElem?_eq_getElem hlt];rfl
  refine ⟨.int .u8 ((X.O.str i).getD m 0).toNat,?_,?_⟩;simp [Instr.index,asIntOf,T.Qf hT hti,hd,hget];simp only [AV.rel,E.den,hm];exact ⟨⟨x1,i1⟩,rfl⟩
 rename_i n _;split at h;rename_i e' he;cases h;simp only [AV.rel] at hx hi;obtain ⟨x1,x2,rfl⟩:=hx;obtain ⟨-,rfl⟩:=hi;obtain ⟨h1,h2,h3⟩:=ST.Qbi (O:=X.O) he x1;have hby:=E.Y6 h2 X.O;have hlt:=(List.getElem?_eq_some_iff.1 h3).1
 have hget:(({ data:=(s.den X.O).toArray}:ByteArray)[n]?)=some (UInt8.ofNat (e'.den X.O).toNat):=by
  have hlt' :n<({ data:=(s.den X.O).toArray}:ByteArray).size:=by show n<(s.den X.O).toArray.size;simpa using hlt
  rw [getElem?_pos _ n hlt'];congr 1;have:=(List.getElem?_eq_some_iff.1 h3).2
  rw [<-this];rfl
 refine ⟨.int .u8 (UInt8.ofNat (e'.den X.O).toNat).toNat,?_,?_⟩;simp [E.den,Instr.index,asIntOf,T.Qf hT hti,hd,hget];simp only [AV.rel];refine ⟨h1,?_⟩;congr 1;simp;omega;cases h;cases h;cases h;cases h
end Go.Ax
namespace Go.Ax
open Go.RowKit
theorem YX {X:Ext}:∀{xs:List (AV×AV×Nat)} {es:List MapEntry},Q9 X xs es->xs.length=es.length
 |[],_,h=>by cases h;rfl
 |_::xs,_,⟨e,es',h,_,_,_,h4⟩=>by subst h;simp [YX h4]
noncomputable def Qok (T:Tab) (H:Tr Q7) (t:TypeId) (x:AV):Option AV:=
 match T.ty t with
 |none=>none
 |some ti=>
  match ti.desc,x with
  | .string, .str s=>QG s.length λn=>some (.int .i64 (.lit (.ofNat n)))
  | .string, .sstr s=>some (.int .i64 s.len)
  | .array n _,_=>some (.int .i64 (.lit (.ofNat n)))
  | .slice _, .slice _ _ n _ _ _=>some (.int .i64 (.lit (.ofNat n)))
  | .slice _, .nilslice=>some (.int .i64 (.lit (.ofNat 0)))
  | .slice _, .wslice _ _ _ _ l=>some (.int .i64 (.var l))
  | .map _ _, .nilmap=>some (.int .i64 (.lit (.ofNat 0)))
  | .map _ _, .map r=>match H.get r with
   |some (.map es _)=>QG es.length λn=>some (.int .i64 (.lit (.ofNat n)))
   |_=>none
  |_,_=>none
theorem Qd6 {P:Program} {T:Tab} (hT:T.OK P) {X:Ext} {n0:Nat} {H:Tr Q7} {w:World} (hH:Qq X n0 H w) {t ty:TypeId} {x r:AV} {u:Value} (h:Qok T H t x=some r) (hx:x.rel X u):
 ∃z,(Builtin.len_ #[t] ty #[u]).run P w= .ok z w/\r.rel X z:=by
 unfold Qok at h;split at h;cases h;rename_i ti hti;have hu:=T.Qf hT hti w;split at h<;>rename_i hd;simp only [sNat_eq,Option.some.injEq] at h;subst h;simp only [AV.rel] at hx;rename_i s;obtain ⟨ho,rfl⟩:=hx;rw [hd] at hu;have hsz:({ data:=(S.bytes X.O s).toArray}:ByteArray).size=s.length:=by show (S.bytes X.O s).toArray.size=_;simp [S.bytes]
 exact ⟨goInt s.length,by simp [Builtin.len_,hu,hsz],by simp only [AV.rel];exact ⟨trivial,rfl⟩⟩;rename_i s;cases h;simp only [AV.rel] at hx;obtain ⟨h1,h2,rfl⟩:=hx;rw [hd] at hu;have hsz:({ data:=(s.den X.O).toArray}:ByteArray).size=(s.den X.O).length:=by
  show (s.den X.O).toArray.size=_
  simp
 exact ⟨goInt (s.den X.O).length,by simp [Builtin.len_,hu,hsz],by simp only [AV.rel];exact ⟨ST.Q34 h1,by rw [show s.len.den X.O=_ from h2];rfl⟩⟩;cases h;rename_i n _;rw [hd] at hu;refine ⟨goInt n,?_,by simp only [AV.rel];exact ⟨trivial,rfl⟩⟩;cases u<;>simp [Builtin.len_,hu];cases h;simp only [AV.rel] at hx;obtain ⟨p,o',c,_,rfl,_⟩:=hx;rw [hd] at hu;exact ⟨_,by simp [Builtin.len_,hu];rfl,by simp only [AV.rel];exact ⟨trivial,rfl⟩⟩;cases h;simp only [AV.rel] at hx;subst hx;rw [hd] at hu;exact ⟨goInt 0,by simp [Builtin.len_,hu],by simp only [AV.rel];exact ⟨trivial,rfl⟩⟩;cases h;simp only [AV.rel] at hx;obtain ⟨p,len,c,_,rfl|⟨rfl,rfl⟩,_,_,_,e4,e5⟩:=hx;rw [hd] at hu;exact ⟨goInt len,by simp [Builtin.len_,hu],by simp only [AV.rel];exact ⟨e4,by simp [E.den,e5,goInt]⟩⟩;rw [hd] at hu;exact ⟨goInt 0,by simp [Builtin.len_,hu],by simp only [AV.rel];exact ⟨e4,by simp [E.den,e5,goInt]⟩⟩;cases h;simp only [AV.rel] at hx;subst hx;rw [hd] at hu;exact ⟨goInt 0,by simp [Builtin.len_,hu],by simp only [AV.rel];exact ⟨trivial,rfl⟩⟩;split at h;rename_i r es clock hr;simp only [sNat_eq,Option.some.injEq] at h;subst h;simp only [AV.rel] at hx;obtain ⟨p,hp,rfl⟩:=hx;obtain ⟨es',h1,h2⟩:=hH.obj _ _ p hr hp;rw [hd] at hu;have hl:=YX h2;refine ⟨goInt es'.size,by simp [Builtin.len_,hu,getObj,Sem.run,h1],?_⟩;simp only [AV.rel,hl];exact ⟨trivial,rfl⟩;cases h;cases h
noncomputable def acap (T:Tab) (t:TypeId) (x:AV):Option AV:=
 match T.ty t with
 |none=>none
 |some ti=>
  match ti.desc,x with
  | .slice _, .slice _ _ _ c _ true=>some (.int .i64 (.lit (.ofNat c)))
  | .slice _, .nilslice=>some (.int .i64 (.lit (.ofNat 0)))
  |_,_=>none
theorem Qd7 {P:Program} {T:Tab} (hT:T.OK P) {X:Ext} {w:World} {t ty:TypeId} {x r:AV} {u:Value} (h:acap T t x=some r) (hx:x.rel X u):
 ∃z,(Builtin.cap_ #[t] ty #[u]).run P w= .ok z w/\r.rel X z:=by
 unfold acap at h;split at h;cases h;rename_i ti hti;have hu:=T.Qf hT hti w;split at h<;>rename_i hd;cases h;simp only [AV.rel] at hx;obtain ⟨p,o',c,_,rfl,_,_,_,_,hc⟩:=hx;rw [hd] at hu;have:=hc trivial;subst this;exact ⟨_,by simp [Builtin.cap_,hu];rfl,by simp only [AV.rel];exact ⟨trivial,rfl⟩⟩;cases h;simp only [AV.rel] at hx;subst hx;rw [hd] at hu;exact ⟨goInt 0,by simp [Builtin.cap_,hu],by simp only [AV.rel];exact ⟨trivial,rfl⟩⟩;cases h
noncomputable def Qgd (T:Tab) (c:Ctx) (H:Tr Q7) (t:TypeId) (x:AV):Option AV:=
 match x with
 | .sstr s=>match T.ty t with
  |some ti=>match ti.desc with
   | .string=>some (.int .i64 (Qkp c s))
   |_=>none
  |none=>none
 |x=>Qok T H t x
theorem Q9o {P:Program} {T:Tab} (hT:T.OK P) {c:Ctx} {X:Ext} (hc:c.okN X.dom X.O) {n0:Nat} {H:Tr Q7} {w:World} (hH:Qq X n0 H w) {t ty:TypeId} {x r:AV} {u:Value} (h:Qgd T c H t x=some r) (hx:x.rel X u):
 ∃z,(Builtin.len_ #[t] ty #[u]).run P w= .ok z w/\r.rel X z:=by
 unfold Qgd at h;split at h;rename_i s;split at h;rename_i ti hti;have hu:=T.Qf hT hti w;split at h;rename_i hd;cases h;simp only [AV.rel] at hx;obtain ⟨h1,h2,rfl⟩:=hx;rw [hd] at hu;obtain ⟨d1,d2⟩:=Q35 hc h1 h2;have hsz:({ data:=(s.den X.O).toArray}:ByteArray).size=(s.den X.O).length:=by
  show (s.den X.O).toArray.size=_
  simp
 exact ⟨goInt (s.den X.O).length,by simp [Builtin.len_,hu,hsz],by simp only [AV.rel];exact ⟨d1,by rw [d2];rfl⟩⟩;cases h;cases h;exact Qd6 hT hH h hx
def E.isLen:E->Bool
 | .len _=>true
 |_=>false
noncomputable def JV (lo:Bool) (c:Ctx):List AV->D AV
 |[]=> .fail
 |x::xs=>go x xs
 where
 go:AV->List AV->D AV
  |x,[]=> .ok x
  | .int k a, .int j b::ys=>
   match (bif lo then E.cmp c .lss b a else E.cmp c .lss a b) with
   |some true=>go (.int k b) ys
   |some false=>go (.int k a) ys
   |none=>bif lo then (bif (a.isLen||b.isLen)&&decide (j=k) then go (.int k (.mn a b)) ys else .ask .lss b a) else .ask .lss a b
  |_,_=> .fail
theorem Q5c {P:Program} {w:World} {c:Ctx} {X:Ext} (hc:c.okN X.dom X.O):∀{ys:List AV} {x r:AV} {u:Value} {vs:List Value},JV.go true c x ys= .ok r->x.rel X u->AV.QH X ys vs->∃z,(vs.foldlM Builtin.min2 u).run P w= .ok z w/\r.rel X z
 |[],x,r,u,vs,h,hx,hv=>by rw [rels_nil.1 hv];cases x<;>(simp only [JV.go,D.ok.injEq] at h;subst h;exact ⟨u,rfl,hx⟩)
 |y::ys,x,r,u,[],h,hx,hv=>absurd hv not_rels_cons_nil
 |y::ys,x,r,u,v::vs,h,hx,hv=>by
  simp only [rels_cons_cons] at hv;unfold JV.go at h;split at h;rename_i e;cases e;rename_i k a j b ys' e;cases e;simp only [cond_true] at h;have hx' :=hx;have hv' :=hv.1;simp only [AV.rel] at hx' hv';obtain ⟨ha,rfl⟩:=hx';obtain ⟨hb,rfl⟩:=hv';split at h;rename_i hq;have:=E.Qb rfl hq hc;simp only [Yf,decide_eq_true_eq] at this;obtain ⟨z,e,hr⟩:=Q5c (P:=P) (w:=w) hc h (u:= .int k (b.den X.O)) (by simp only [AV.rel];exact ⟨hb,trivial⟩) hv.2;exact ⟨z,by simp [List.foldlM_cons,Builtin.min2,this,e],hr⟩;rename_i hq;have:=E.Qb rfl hq hc;simp only [Yf,decide_eq_false_iff_not] at this;obtain ⟨z,e,hr⟩:=Q5c (P:=P) (w:=w) hc h (u:= .int k (a.den X.O)) (by simp only [AV.rel];exact ⟨ha,trivial⟩) hv.2;exact ⟨z,by simp [List.foldlM_cons,Builtin.min2,this,e],hr⟩;cases hl:((a.isLen||b.isLen)&&decide (j=k)) with
  |false=>rw [hl] at h;cases h
  |true=>rw [hl] at h;simp only [cond_true] at h;obtain ⟨z,e,hr⟩:=Q5c (P:=P) (w:=w) hc h (u:= .int k (min (a.den X.O) (b.den X.O))) (by simp only [AV.rel];exact ⟨⟨ha,hb⟩,rfl⟩) hv.2;refine ⟨z,?_,hr⟩;by_cases hlt:b.den X.O<a.den X.O;rw [show min (a.den X.O) (b.den X.O)=b.den X.O from by omega] at e;simp [List.foldlM_cons,Builtin.min2,hlt,e];rw [show min (a.den X.O) (b.den X.O)=a.den X.O from by omega] at e;simp [List.foldlM_cons,Builtin.min2,hlt,e]
  cases h
theorem Q9l {P:Program} {w:World} {c:Ctx} {X:Ext} (hc:c.okN X.dom X.O):∀{ys:List AV} {x r:AV} {u:Value} {vs:List Value},JV.go false c x ys= .ok r->x.rel X u->AV.QH X ys vs->∃z,(vs.foldlM Builtin.max2 u).run P w= .ok z w/\r.rel X z
 |[],x,r,u,vs,h,hx,hv=>by rw [rels_nil.1 hv];cases x<;>(simp only [JV.go,D.ok.injEq] at h;subst h;exact ⟨u,rfl,hx⟩)
 |y::ys,x,r,u,[],h,hx,hv=>absurd hv not_rels_cons_nil
 |y::ys,x,r,u,v::vs,h,hx,hv=>by simp only [rels_cons_cons] at hv;unfold JV.go at h;split at h;rename_i e;cases e;rename_i k a j b ys' e;cases e;simp only [cond_false] at h;have hx' :=hx;have hv' :=hv.1;simp only [AV.rel] at hx' hv';obtain ⟨ha,rfl⟩:=hx';obtain ⟨hb,rfl⟩:=hv';split at h;rename_i hq;have:=E.Qb rfl hq hc;simp only [Yf,decide_eq_true_eq] at this;obtain ⟨z,e,hr⟩:=Q9l (P:=P) (w:=w) hc h (u:= .int k (b.den X.O)) (by simp only [AV.rel];exact ⟨hb,trivial⟩) hv.2;exact ⟨z,by simp [List.foldlM_cons,Builtin.max2,this,e],hr⟩;rename_i hq;have:=E.Qb rfl hq hc;simp only [Yf,decide_eq_false_iff_not] at this;obtain ⟨z,e,hr⟩:=Q9l (P:=P) (w:=w) hc h (u:= .int k (a.den X.O)) (by simp only [AV.rel];exact ⟨ha,trivial⟩) hv.2;exact ⟨z,by simp [List.foldlM_cons,Builtin.max2,this,e],hr⟩;cases h;cases h
structure YL where
 impl:List (TypeId×TypeId×Bool)
def YL.find (t i:TypeId):List (TypeId×TypeId×Bool)->Option Bool
 |[]=>none
 |(a,b,r)::l=>bif Nat.beq a t&&Nat.beq b i then some r else YL.find t i l
def YL.OK (P:Program) (l:List (TypeId×TypeId×Bool)):Prop:=∀t i r,YL.find t i l=some r->∃info want,P.info? t=some info/\P.underlying i=some (.interface want)/\(Instr.missingMethod want info.methods).isNone=r
noncomputable def Q5l (T:Tab) (I:List (TypeId×TypeId×Bool)) (x:AV) (asserted:TypeId) (ok:Bool):Option AV:=
 match T.ty asserted with
 |none=>none
 |some ti=>
  match (match ti.desc,x with
   | .interface _, .nilIface=>some (none:Option AV)
   | .interface _, .iface t v=>match YL.find t asserted I with
    |some true=>some (some (.iface t v))
    |some false=>some none
    |none=>none
   |_, .nilIface=>some none
   |_, .iface t v=>bif Nat.beq t asserted then some (some v) else some none
   |_,_=>none:Option (Option AV)) with
  |none=>none
  |some (some v)=>bif ok then some (.tuple [v, .bool true]) else some v
  |some none=>bif ok then some (.tuple [ti.zero, .bool false]) else none
theorem Q5k {P:Program} {T:Tab} (hT:T.OK P) {I:List (TypeId×TypeId×Bool)} (hI:YL.OK P I) {X:Ext} {w:World} {x r:AV} {xt asserted:TypeId} {ok:Bool} {u:Value} (h:Q5l T I x asserted ok=some r) (hx:x.rel X u):
 ∃z,(Instr.typeAssert u xt asserted ok).run P w= .ok z w/\r.rel X z:=by
 unfold Q5l at h;split at h;cases h;rename_i ti hti;have hu:=T.Qf hT hti w;obtain ⟨z,hz,hzr⟩:=T.ZW hT hti w;have yes:∀(v:AV) (v' :Value),v.rel X v' ->(bif ok then some (AV.tuple [v, .bool true]) else some v)=some r->
  (Instr.typeAssert u xt asserted ok).run P w= .ok (if ok then .tuple #[v', .bool true] else v') w->∃z,(Instr.typeAssert u xt asserted ok).run P w= .ok z w/\r.rel X z:=by
  intro v v' hv hr he;refine ⟨_,he,?_⟩;cases ok;cases hr;simpa using hv;cases hr;simp only [if_true,AV.rel];exact ⟨_,rfl,by simp only [rels_cons_cons,rels_nil,AV.rel];exact ⟨hv,trivial,trivial⟩⟩
 have no:(bif ok then some (AV.tuple [ti.zero, .bool false]) else none)=some r->
  (ok=true->(Instr.typeAssert u xt asserted ok).run P w= .ok (.tuple #[z, .bool false]) w)->∃z,(Instr.typeAssert u xt asserted ok).run P w= .ok z w/\r.rel X z:=by
  intro hr he;cases ok;cases hr;cases hr;refine ⟨_,he rfl,?_⟩;simp only [AV.rel];exact ⟨_,rfl,by simp only [rels_cons_cons,rels_nil,AV.rel];exact ⟨hzr X,trivial,trivial⟩⟩
 split at h;cases h;rename_i v hm;split at hm<;>rename_i hd;cases hm;split at hm;rename_i hf;cases hm;have hx' :=hx;simp only [AV.rel] at hx;obtain ⟨q,rfl,hq⟩:=hx;obtain ⟨info,want,i1,i2,i3⟩:=hI _ _ _ hf;rw [hd] at hu;have hw:=T.und hT hti;rw [i2,hd] at hw;cases hw;have hnone:=Option.isNone_iff_eq_none.1 i3;exact yes _ _ hx' h (by simp [Instr.typeAssert,hu,typeInfo,i1,hnone]);cases hm;cases hm;cases hm;rename_i t v';cases hb:Nat.beq t asserted with
 |false=>rw [hb] at hm;cases hm
 |true=>
  rw [hb] at hm;cases hm;have hb' :t=asserted:=by simpa using hb
  subst hb';simp only [AV.rel] at hx;obtain ⟨q,rfl,hq⟩:=hx;refine yes _ _ hq h ?_;simp only [Instr.typeAssert,Sem.run_bind,hu,Result.andThen_ok];cases hdd:ti.desc<;>first|(exact absurd hdd (hd _))|simp
 cases hm;rename_i hm;split at hm<;>rename_i hd;rw [hd] at hu;simp only [AV.rel] at hx;subst hx;refine no h λhok=>?_
 subst hok;simp [Instr.typeAssert,hu,hz];split at hm;cases hm;rename_i hf;simp only [AV.rel] at hx;obtain ⟨q,rfl,hq⟩:=hx;obtain ⟨info,want,i1,i2,i3⟩:=hI _ _ _ hf;rw [hd] at hu;have hw:=T.und hT hti;rw [i2,hd] at hw;cases hw;refine no h λhok=>?_
 subst hok;simp only [Instr.typeAssert,Sem.run_bind,hu,Result.andThen_ok,typeInfo,run_program,i1,Sem.run_pure];split;rename_i hmm;rw [hmm] at i3;cases i3;simp [hz];cases hm;simp only [AV.rel] at hx;subst hx;refine no h λhok=>?_
 subst hok;simp only [Instr.typeAssert,Sem.run_bind,hu,Result.andThen_ok];cases hdd:ti.desc<;>simp [hz];rename_i t v';cases hb:Nat.beq t asserted with
 |true=>rw [hb] at hm;cases hm
 |false=>
  have hb' :t≠asserted:=λe=>by subst e;simp at hb
  simp only [AV.rel] at hx;obtain ⟨q,rfl,hq⟩:=hx;refine no h λhok=>?_
  subst hok;simp only [Instr.typeAssert,Sem.run_bind,hu,Result.andThen_ok];cases hdd:ti.desc<;>first|(exact absurd hdd (hd _))|simp [hb',hz]
 cases hm
end Go.Ax
namespace Go.Ax
open Go.RowKit
inductive LR where
 |val (v:AV)
 |ptr (o:Q7)
 |slc (o:Q7) (len cap es:Nat) (ex:Bool)
 |map
def grown (w:World) (ob:Obj) (d:Nat):World:={ w with heap:=w.heap.push ob,drawn:=d}
def LR.sound (P:Program) (X:Ext) (w:World) (s:Sem Value):LR->Prop
 | .val v=>∃u,s.run P w= .ok u w/\v.rel X u
 | .ptr o=>∃ob n d,s.run P w= .ok (.pointer (some ⟨w.heap.size,0,none⟩)) (grown w ob d)/\ji X o ⟨w.heap.size,0,n⟩ (some ob)
 | .slc o len cap es ex=>∃ob n d c,s.run P w= .ok (.slice (some ⟨w.heap.size,0,none⟩) len c) (grown w ob d)/\ji X o ⟨w.heap.size,0,n⟩ (some ob)/\
  len<=cap/\cap<=c/\c*es<=n/\(ex=true->c=cap)
 | .map=>∃d,s.run P w= .ok (.map (some w.heap.size)) (grown w (.map #[] 0) d)
theorem Q0a {X:Ext} {cs:List AV} {c:Array Value} (h:AV.QH X cs c.toList) (t:TypeId) (b:Nat):ji X (.cells cs t true true false) ⟨b,0,cs.length⟩ (some (.cells c t)):=by
 have hl:=Qe h;have hl' :cs.length=c.size:=by rw [hl];simp
 refine ⟨c,(0,0),⟨_,rfl, .inr rfl⟩,hl'.symm,by simp,λ_=>⟨rfl,rfl⟩,λi a e=>?_, .inr (.inr rfl),λ_=>rfl⟩;obtain ⟨v,hv,hr⟩:=Yh h e;exact ⟨v,by simpa using hv,hr⟩
theorem Zi {P:Program} {w:World} {t:TypeId} {c:Array Value}:(newRow t c).run P w= .ok ⟨w.heap.size,0,none⟩ (grown w (.cells c t) w.drawn):=rfl
noncomputable def Qbs (T:Tab) (t:TypeId):Option LR:=
 match T.ty t with
 |none=>none
 |some ti=>some (.ptr (.cells ti.zero.cellsOf t true true false))
theorem Q84 {P:Program} {T:Tab} (hT:T.OK P) {X:Ext} {w:World} {t:TypeId} {r:LR} (h:Qbs T t=some r):r.sound P X w (Instr.alloc t true (.tuple #[])):=by unfold Qbs at h;split at h;cases h;rename_i ti hti;cases h;obtain ⟨z,hz,hr⟩:=T.ZW hT hti w;refine ⟨.cells z.cells t,ti.zero.cellsOf.length,w.drawn,?_,Q0a (Qt (hr X)) t _⟩;simp only [Instr.alloc,Sem.run_bind,hz,Result.andThen_ok,newVar,Zi,Sem.run_pure]
theorem Qd8 {P:Program} {X:Ext} {w:World} {t:TypeId} {x:AV} {u:Value} (hx:x.rel X u):(LR.ptr (.cells x.cellsOf t true true false)).sound P X w (Instr.box t u):=by refine ⟨.cells u.cells t,x.cellsOf.length,w.drawn,?_,Q0a (Qt hx) t _⟩;simp only [Instr.box,Sem.run_bind,newVar,Zi,Result.andThen_ok,Sem.run_pure]
noncomputable def places (T:Tab):List Field->Option (List (Nat×Nat))
 |[]=>some []
 |f::fs=>match T.ty f.type with
  |none=>none
  |some ti=>match places T fs with
   |none=>none
   |some l=>some ((f.offset,ti.size)::l)
theorem yg {P:Program} {T:Tab} (hT:T.OK P) {w:World}:∀{fs:List Field} {l:List (Nat×Nat)},places T fs=some l->(fs.mapM λf=>(do pure (f.offset,<-sizeOf f.type):Sem (Nat×Nat))).run P w= .ok l w
 |[],l,h=>by simp only [places,Option.some.injEq] at h;subst h;simp
 |f::fs,l,h=>by simp only [places] at h;split at h;cases h;rename_i ti hti;split at h;cases h;rename_i l' hl;cases h;have ih:=yg hT (w:=w) hl;rw [List.mapM_cons,Sem.run_bind,Sem.run_bind,T.Qv hT hti];simp only [Result.andThen_ok,Sem.run_pure,Sem.run_bind];rw [ih];rfl
noncomputable def Qbp (T:Tab) (t:TypeId) (parts:List (Nat×AV)):Option AV:=
 match T.ty t with
 |none=>none
 |some ti=>
  match ti.desc with
  | .struct fs=>
   match places T fs.toList with
   |none=>none
   |some pl=>match Q2m (λi=>pl[i]?) ti.zero.cellsOf parts with
    |none=>none
    |some cs=>some (.agg cs)
  | .array _ e=>
   match T.ty e with
   |none=>none
   |some ei=>match Q2m (λi=>some (i*ei.size,ei.size)) ti.zero.cellsOf parts with
    |none=>none
    |some cs=>some (.agg cs)
  |_=>none
theorem Q83 {P:Program} {T:Tab} (hT:T.OK P) {X:Ext} {w:World} {t:TypeId} {parts:List (Nat×AV)} {vs:Array (Nat×Value)} {r:AV} (h:Qbp T t parts=some r) (hp:Jd X parts vs.toList):
 ∃z,(Instr.build t vs).run P w= .ok z w/\r.rel X z:=by
 unfold Qbp at h;split at h;cases h;rename_i ti hti;obtain ⟨z,hz,hr⟩:=T.ZW hT hti w;have hu:=T.Qf hT hti w;split at h<;>rename_i hd;rename_i fs;rw [hd] at hu;split at h;cases h;rename_i pl hpl;split at h;cases h;rename_i cs hcs;cases h;have hm:(fs.mapM λf=>(do pure (f.offset,<-sizeOf f.type):Sem (Nat×Nat))).run P w= .ok pl.toArray w:=by rw [Array.mapM_eq_mapM_toList,Sem.run_map,yg hT hpl];rfl
 obtain ⟨c',h1,h2⟩:=Jp (place:=λ(i:Nat)=>pl[i]?) hp (Qt (hr X)) hcs;refine ⟨.agg c',?_,by simp only [AV.rel];exact ⟨_,rfl,h2⟩⟩;simp only [Instr.build,Sem.run_bind,hz,Result.andThen_ok,hu,hm];have e:(λ(x:Nat)=>pl.toArray[x]?)=λi=>pl[i]?:=by funext i;simp
 rw [e,h1];rfl;rename_i n e;rw [hd] at hu;split at h;cases h;rename_i ei hei;split at h;cases h;rename_i cs hcs;cases h;obtain ⟨c',h1,h2⟩:=Jp (place:=λi=>some (i*ei.size,ei.size)) hp (Qt (hr X)) hcs;refine ⟨.agg c',?_,by simp only [AV.rel];exact ⟨_,rfl,h2⟩⟩;simp only [Instr.build,Sem.run_bind,hz,Result.andThen_ok,hu,T.Qv hT hei];rw [h1];rfl;cases h
theorem yG {place:Nat->Option (Nat×Nat)}:∀{as:List (Nat×AV)} {cs r:List AV},Q2m place cs as=some r->r.length=cs.length
 |[],cs,r,h=>by simp only [Q2m,Option.some.injEq] at h;rw [h]
 |(i,v)::as,cs,r,h=>by
  simp only [Q2m] at h;split at h;cases h;rename_i off size hp;cases hb:(Nat.beq v.cellsOf.length size&&Nat.ble (off+size) cs.length) with
  |false=>rw [hb] at h;cases h
  |true=>rw [hb] at h;rw [yG h,zD]
noncomputable def Jr (T:Tab) (t:TypeId) (len:Nat) (parts:List (Nat×AV)):Option LR:=
 match T.ty t with
 |none=>none
 |some ti=>
  match ti.desc with
  | .slice e=>
   match T.ty e with
   |none=>none
   |some ei=>
    bif Nat.ble (len*ei.size) 16777216&&(Nat.beq (len*ei.size) 0||Nat.blt 0 ei.zero.cellsOf.length) then
     match Q2m (λi=>some (i*ei.size,ei.size)) (YI (bif Nat.beq (len*ei.size) 0 then [] else ei.zero.cellsOf) (len*ei.size)) parts with
     |none=>none
     |some cs=>some (.slc (.cells cs e true true false) len len ei.size true)
    else none
  |_=>none
theorem Yk (z:List AV) (n:Nat):(YI z n).length=n:=by unfold YI;split<;>simp
theorem jU {P:Program} {T:Tab} (hT:T.OK P) {X:Ext} {w:World} {t:TypeId} {len:Nat} {parts:List (Nat×AV)} {vs:Array (Nat×Value)} {r:LR} (h:Jr T t len parts=some r) (hp:Jd X parts vs.toList):
 r.sound P X w (Instr.buildSlice t len vs):=by
 unfold Jr at h;split at h;cases h;rename_i ti hti;have hu:=T.Qf hT hti w;split at h<;>rename_i hd;rename_i e;rw [hd] at hu;split at h;cases h;rename_i ei hei;cases hb:(Nat.ble (len*ei.size) 16777216&&(Nat.beq (len*ei.size) 0||Nat.blt 0 ei.zero.cellsOf.length)) with
 |false=>rw [hb] at h;cases h
 |true=>
  rw [hb] at h;simp only [cond_true] at h;simp only [Bool.and_eq_true,Bool.or_eq_true,Nat.ble_eq,Nat.beq_eq,Nat.blt_eq] at hb;split at h;cases h;rename_i cs hcs;cases h;obtain ⟨z,hz,hr⟩:=T.ZW hT hei w;have hlen:=yG hcs;rw [Yk] at hlen;have h24:¬(len*ei.size>2^24):=by omega
  have hrel:AV.QH X (YI (bif Nat.beq (len*ei.size) 0 then [] else ei.zero.cellsOf) (len*ei.size)) ((Array.range (len*ei.size)).map (λi=>(if len*ei.size=0 then #[] else z.cells)[i%(if len*ei.size=0 then #[] else z.cells).size]!)).toList:=by
   by_cases h0:len*ei.size=0;simp only [h0,if_true,Nat.beq_refl,cond_true];exact J5 (c:=#[]) (by simp) 0 (.inl rfl)
   have hb0:Nat.beq (len*ei.size) 0=false:=by
    cases hbb:Nat.beq (len*ei.size) 0 with
    |false=>rfl
    |true=>exact absurd (by simpa using hbb) h0
   simp only [h0,if_false,hb0,cond_false];refine J5 (Qt (hr X)) _ (.inr ?_);have:=Qe (Qt (hr X));have h1:ei.zero.cellsOf.length=z.cells.size:=by rw [this];simp
   rw [<-h1];rcases hb.2 with hb|hb;exact absurd hb h0;exact hb
  obtain ⟨c',h1,h2⟩:=Jp (place:=λi=>some (i*ei.size,ei.size)) hp hrel hcs;refine ⟨.cells c' e,cs.length,w.drawn,len,?_,Q0a h2 e _,Nat.le_refl _,Nat.le_refl _,by omega,λ_=>rfl⟩;simp only [Instr.buildSlice,Sem.run_bind,hu,Result.andThen_ok,T.Qv hT hei,h24,if_false];by_cases h0:len*ei.size=0;simp only [h0,if_true] at h1 ⊢;simp only [Sem.run_bind,Sem.run_pure,Result.andThen_ok,h1,Zi];simp only [h0,if_false] at h1 ⊢;simp only [Sem.run_bind,hz,Sem.run_pure,Result.andThen_ok,h1,Zi]
 cases h
noncomputable def qm (T:Tab) (t:TypeId) (len cap:AV):Option LR:=
 match T.ty t with
 |none=>none
 |some ti=>
  match ti.desc with
  | .slice e=>
   match T.ty e,Qjc len,Qjc cap with
   |some ei,some l,some c=>
    bif Nat.ble l c&&Nat.ble c 16777216&&Nat.ble (ei.bytes*c) 16777216&&Nat.blt 0 ei.zero.cellsOf.length then
     QG l λl=>QG c λc=>some (.slc (.cells (YI ei.zero.cellsOf (c*ei.size)) e true true false) l c ei.size true)
    else none
   |_,_,_=>none
  |_=>none
theorem Q40 {n:Nat} (h:n<=9223372036854775807):IntKind.i64.wrap (n:Int)=n:=IntWalk.i64_in n ⟨by omega,by omega⟩
theorem yP {P:Program} {T:Tab} (hT:T.OK P) {X:Ext} {w:World} {t:TypeId} {len cap:AV} {u v:Value} {r:LR} (h:qm T t len cap=some r) (hl:len.rel X u) (hc:cap.rel X v):
 r.sound P X w (Instr.makeSlice t u v):=by
 unfold qm at h;split at h;cases h;rename_i ti hti;have hu:=T.Qf hT hti w;split at h<;>rename_i hd;rename_i e;rw [hd] at hu;split at h;rename_i ei l c hei hnl hnc;cases hb:(Nat.ble l c&&Nat.ble c 16777216&&Nat.ble (ei.bytes*c) 16777216&&Nat.blt 0 ei.zero.cellsOf.length) with
 |false=>rw [hb] at h;cases h
 |true=>
  rw [hb] at h;simp only [cond_true,sNat_eq,Option.some.injEq] at h;subst h;simp only [Bool.and_eq_true,Nat.ble_eq,Nat.blt_eq] at hb;obtain ⟨⟨⟨b1,b2⟩,b3⟩,b4⟩:=hb;obtain ⟨k1,rfl⟩:=Z8 hnl hl;obtain ⟨k2,rfl⟩:=Z8 hnc hc;obtain ⟨i,i1,i2,i3,_⟩:=T.YC hT hei w;obtain ⟨z,hz,hr⟩:=T.ZW hT hei w;have hl2:=Qe (Qt (hr X));have hzs:ei.zero.cellsOf.length=z.cells.size:=by rw [hl2];simp
  have hrel:AV.QH X (YI ei.zero.cellsOf (c*ei.size)) ((Array.range (c*ei.size)).map (λi=>(if c*ei.size=0 then #[] else z.cells)[i%(if c*ei.size=0 then #[] else z.cells).size]!)).toList:=by by_cases h0:c*ei.size=0;simp only [h0,if_true];have:YI ei.zero.cellsOf 0=[]:=List.eq_nil_of_length_eq_zero (Yk _ _);rw [this];simp;simp only [h0,if_false];exact J5 (Qt (hr X)) _ (.inr (by omega))
  refine ⟨_,_,w.drawn,c,?_,Q0a hrel e _,b1,Nat.le_refl _,by rw [Yk];exact Nat.le_refl _,λ_=>rfl⟩;have e1:IntKind.i64.wrap (l:Int)=l:=Q40 (by omega);have e2:IntKind.i64.wrap (c:Int)=c:=Q40 (by omega);have big:¬((ei.bytes:Int)*(c:Int)>2^48):=by
   have:((ei.bytes*c:Nat):Int)<=16777216:=by omega
   rw [Int.natCast_mul] at this;omega
  simp only [Instr.makeSlice,Sem.run_bind,hu,Result.andThen_ok,asInt,asIntOf,Sem.run_pure,i1,i3,e1,e2,Int.toNat_natCast];have c1:((decide ((c:Int)<0)||decide ((ei.bytes:Int)*(c:Int)>2^48))||decide ((l:Int)<0)||decide ((l:Int)>(c:Int)))=false:=by simp only [Bool.or_eq_false_iff,decide_eq_false_iff_not];exact ⟨⟨⟨by omega,big⟩,by omega⟩,by omega⟩
  simp only [c1,Bool.false_eq_true,if_false,run_askRoom,Result.andThen_ok,Sem.run_bind,T.Qv hT hei];by_cases h0:c*ei.size=0;simp only [h0,if_true,Sem.run_bind,Sem.run_pure,Result.andThen_ok,Zi];simp only [h0,if_false,Sem.run_bind,hz,Sem.run_pure,Result.andThen_ok,Zi]
 cases h;cases h
theorem Q2k {P:Program} {T:Tab} (hT:T.OK P) {X:Ext} {w:World} {t:TypeId} {ti:TI} (hti:T.ty t=some ti) {k e:TypeId} (hd:ti.desc= .map k e) {r:Option AV} {r' :Option Value} (ho:Qch X r r')
 (hr:∀a,r=some a->(Qjc a).isSome=true):LR.map.sound P X w (Instr.makeMap t r'):=by
 refine ⟨w.drawn,?_⟩;have hu:=T.Qf hT hti w;rw [hd] at hu;cases r with
 |none=>
  cases r' with
  |some v=>exact ho.elim
  |none=>simp [Instr.makeMap,grown]
 |some a=>
  cases r' with
  |none=>exact ho.elim
  |some v=>obtain ⟨n,hn⟩:=Option.isSome_iff_exists.1 (hr a rfl);obtain ⟨k',rfl⟩:=Z8 hn ho;simp [Instr.makeMap,hu,asInt,asIntOf,grown]
noncomputable def Q82 (T:Tab) (src dst:TypeId) (x:AV):Option LR:=
 match T.ty src,T.ty dst,x with
 |some si,some di, .str s=>
  match si.desc,di.desc with
  | .string, .slice e=>
   match T.ty e with
   |some ei=>match ei.desc with
    | .int .u8=>bif Nat.beq ei.size 1&&Nat.blt s.length 1099511627776 then QG s.length λn=>some (.slc (.cells (s.map (.int .u8)) e false false false) n n 1 false) else none
    |_=>none
   |none=>none
  |_,_=>none
 |_,_,_=>none
theorem Q8v {α:Type} (a:Array α) (x:α) (f:α->α):(a.push x).modify a.size f=a.push (f x):=by apply Array.ext_getElem?;intro i;rw [Array.getElem?_modify,Array.getElem?_push,Array.getElem?_push];by_cases h:a.size=i;subst h;simp;rw [if_neg h,if_neg (λe=>h e.symm),if_neg (λe=>h e.symm)]
theorem Q81 {P:Program} {T:Tab} (hT:T.OK P) {X:Ext} {w:World} {src dst:TypeId} {x:AV} {u:Value} {r:LR} (h:Q82 T src dst x=some r) (hx:x.rel X u):r.sound P X w (convert src dst u):=by
 unfold Q82 at h;split at h;rename_i si di s hsi hdi;split at h;rename_i e hs hd;split at h;rename_i ei hei;split at h;rename_i he;cases hb:(Nat.beq ei.size 1&&Nat.blt s.length 1099511627776) with
 |false=>rw [hb] at h;cases h
 |true=>
  rw [hb] at h;simp only [cond_true,sNat_eq,Option.some.injEq] at h;subst h;simp only [Bool.and_eq_true,Nat.beq_eq,Nat.blt_eq] at hb;simp only [AV.rel] at hx;obtain ⟨ho,rfl⟩:=hx;have us:=T.Qf hT hsi w;have ud:=T.Qf hT hdi w;have ue:=T.Qf hT hei w;rw [hs] at us;rw [hd] at ud;rw [he] at ue;have hsz:({ data:=(S.bytes X.O s).toArray}:ByteArray).size=s.length:=by show (S.bytes X.O s).toArray.size=_;simp [S.bytes]
  let q:=Question.appendCap s.length 0 e
  let c:=q.cut (w.tape w.drawn q)
  have hc:s.length<=c:=by show s.length<=Question.cut (.appendCap s.length 0 e) _;simp only [Question.cut];omega
  let cells:Array Value:=((S.bytes X.O s).toArray.map λb=>Value.int .u8 b.toNat)++Array.replicate (c-s.length) (.int .u8 0)
  have hcs:cells.size=c:=by simp [cells,S.bytes];omega
  refine ⟨.cells cells e (cells.size,cells.size+1),c,w.drawn+1,c,?_,?_,Nat.le_refl _,hc,by omega,λhq=>by cases hq⟩;have hq:q.forced=false:=rfl;simp only [convert,Sem.run_bind,us,ud,ue,Result.andThen_ok,Conv.stringToBytes,hsz,run_choose];show Result.andThen (if q.forced=true then Result.ok 0 w else .ok c _) _=_;rw [hq];simp only [Bool.false_eq_true,if_false,Result.andThen_ok,Sem.run_bind,Zi,markStringish,run_shape,World.shape?,grown];have hget:(w.heap.push (Obj.cells cells e))[w.heap.size]?=some (Obj.cells cells e):=by simp
  simp only [cells] at hget;simp only [hget,run_freeze,Result.andThen_ok,Sem.run_pure,World.freeze,Nat.one_ne_zero,if_false,Q8v,beq_self_eq_true,if_true];rfl;refine ⟨cells,(cells.size,cells.size+1),⟨_,rfl, .inr rfl⟩,hcs,by simp;exact hc,(by simp),λi a hi=>?_, .inr (.inl (Nat.le_of_eq hcs.symm)),by simp⟩;simp only [List.getElem?_map,Option.map_eq_some_iff] at hi;obtain ⟨t,ht,rfl⟩:=hi;have hlt:i<s.length:=(List.getElem?_eq_some_iff.1 ht).1
  have hmem:=ho t (List.mem_of_getElem? ht);refine ⟨.int .u8 (t.den X.O),?_,by simp only [AV.rel];exact ⟨hmem.1,trivial⟩⟩;simp only [cells,Nat.zero_add];rw [Array.getElem?_append_left (by simp [S.bytes];exact hlt)];simp only [Array.getElem?_map,List.getElem?_toArray,S.bytes,List.getElem?_map,ht,Option.map_some];congr 2;simp;omega
 cases h;cases h;cases h;cases h
end Go.Ax
namespace Go.Ax
open Go.RowKit
noncomputable def YK (T:Tab):Nat->TypeId->AV->Bool
 |0,_,_=>false
 |n+1,t,v=>
  match T.ty t with
  |none=>false
  |some ti=>
   match ti.desc,v with
   | .interface _,_=>false
   | .array _ _,_=>false
   | .struct fs, .agg cs=>ti.cmpOK&&fs.toList.all λf=>match apart T f.type cs f.offset with
    |some a=>YK T n f.type a
    |none=>false
   | .struct _,_=>false
   |_,_=>true
theorem qC {α:Type} {P:Program} {w:World} {f:α->PUnit->Sem (ForInStep PUnit)}:∀(l:List α),(∀x∈l,(f x ⟨⟩).run P w= .ok (.yield ⟨⟩) w)->(forIn l ⟨⟩ f).run P w= .ok ⟨⟩ w
 |[],_=>by simp
 |x::l,h=>by simp only [List.forIn_cons,Sem.run_bind,h x (by simp),Result.andThen_ok];exact qC l (λy hy=>h y (by simp [hy]))
theorem Zg {P:Program} {T:Tab} (hT:T.OK P) {X:Ext} {w:World} {e:Bool}:∀(n m:Nat) (t:TypeId) (v:AV) (u:Value),n<=m->YK T n t v=true->v.rel X u->(Instr.checkKey e m t u).run P w= .ok () w
 |0,_,_,_,_,_,h,_=>by simp [YK] at h
 |n+1,0,_,_,_,hm,_,_=>absurd hm (by omega)
 |n+1,m+1,t,v,u,hm,h,hv=>by unfold YK at h;split at h;cases h;rename_i ti hti;have hu:=T.Qf hT hti w;split at h<;>rename_i hd;cases h;cases h;rename_i fs cs;rw [hd] at hu;simp only [AV.rel] at hv;obtain ⟨vs,rfl,hv⟩:=hv;simp only [Bool.and_eq_true,List.all_eq_true] at h;obtain ⟨h1,h2⟩:=h;obtain ⟨_,_,g3⟩:=hT.cmp t ti hti h1;have hn:=g3 fs hd;simp only [Instr.checkKey,Sem.run_bind,hu,Result.andThen_ok];rw [<-Array.forIn_toList];rw [qC];rfl;intro f hf;have hf2:=h2 f hf;split at hf2;rename_i a ha;obtain ⟨v',e1,r1⟩:=Yy hT hv ha w;have ih:=Zg (P:=P) hT (w:=w) (e:=e) n m f.type a v' (by omega) hf2 r1;have hnn:=hn f hf;simp [hnn,e1,ih];cases hf2;cases h;rename_i n1 n2 n3;simp only [Instr.checkKey,Sem.run_bind,hu,Result.andThen_ok];cases hdd:ti.desc<;>first|rfl|(exfalso;first|exact n1 _ hdd|exact n2 _ _ hdd|exact n3 _ hdd)
noncomputable def Q5h (T:Tab) (c:Ctx) (H:Tr Q7) (key:TypeId) (k:AV):List (AV×AV×Nat)->Nat->D (Option (Nat×AV))
 |[],_=> .ok none
 |e::es,i=>(aeq T c H 50 key k e.1).bind λr=>bif r then .ok (some (i,e.2.1)) else QG (i+1) λi=>Q5h T c H key k es i
def Q98 (X:Ext):Option (Nat×AV)->Option (Nat×Value)->Prop
 |none,none=>True
 |some (i,v),some (j,u)=>i=j/\v.rel X u
 |_,_=>False
theorem YT {P:Program} {w:World} {t:TypeId} {d:TypeDesc} (hu:P.underlying t=some d) {u v:Value} {b r:Bool} (h:Instr.sameNow d u v=some b) (he:(Op.equal t u v).run P w= .ok r w):b=r:=by
 have he' :(Op.equalIn (9999+1) t u v).run P w= .ok r w:=he
 unfold Instr.sameNow at h;split at h;split at h;rename_i hk;cases h;subst hk;rw [run_equalIn_int w 9999 t _ _ _ _ hu] at he';cases he';rfl;cases h;cases h;rw [run_equalIn_string w 9999 t _ _ hu,<-beq_toListBytes] at he';cases he';rfl;cases h;rw [run_equalIn_bool' w 9999 t _ _ hu] at he';cases he';rfl;cases h
theorem Q25 {P:Program} {T:Tab} (hT:T.OK P) {c:Ctx} {X:Ext} (hc:c.okN X.dom X.O) {n0:Nat} {H:Tr Q7} {w:World} (hH:Qq X n0 H w) {key:TypeId} {k:AV} {u:Value} (hk:k.rel X u) {d:TypeDesc} (hu:P.underlying key=some d):
 ∀(xs:List (AV×AV×Nat)) (es:List MapEntry) (i:Nat) (r:Option (Nat×AV)),Q9 X xs es->Q5h T c H key k xs i= .ok r->
  ∃r',(Instr.findAsking key u es i).run P w= .ok r' w/\Q98 X r r' /\∀q,Instr.findNow d u es i=some q->q=r'
 |[],es,i,r,he,h=>by cases he;simp only [Q5h,D.ok.injEq] at h;subst h;refine ⟨none,rfl,trivial,λq hq=>?_⟩;simp only [Instr.findNow,Option.some.injEq] at hq;exact hq.symm
 |x::xs,es,i,r,he,h=>by
  obtain ⟨e,es',rfl,h1,h2,h3,h4⟩:=he;simp only [Q5h,sNat_eq] at h;obtain ⟨b,hb,h⟩:=D.bind_ok h;have hq:(Op.equal key u e.key).run P w= .ok b w:=JW hT hc hH 50 10000 key k x.1 b u e.key (by omega) hb hk h1
  cases b with
  |true=>cases h;refine ⟨some (i,e.val),by simp [Instr.findAsking,hq],⟨rfl,h2⟩,λq hq' =>?_⟩;simp only [Instr.findNow] at hq';split at hq';cases hq';rfl;rename_i hs;have:=YT hu hs hq;cases this;cases hq'
  |false=>obtain ⟨r',g1,g2,g3⟩:=Q25 hT hc hH hk hu xs es' (i+1) r h4 h;refine ⟨r',by simp [Instr.findAsking,hq,g1],g2,λq hq' =>?_⟩;simp only [Instr.findNow] at hq';split at hq';rename_i hs;have:=YT hu hs hq;cases this;exact g3 q hq';cases hq'
theorem Zk {P:Program} {T:Tab} (hT:T.OK P) {c:Ctx} {X:Ext} (hc:c.okN X.dom X.O) {n0:Nat} {H:Tr Q7} {w:World} (hH:Qq X n0 H w) {key:TypeId} {k:AV} {u:Value} (hk:k.rel X u) {ki:TI} (hki:T.ty key=some ki)
 {xs:List (AV×AV×Nat)} {es:List MapEntry} {r:Option (Nat×AV)} (he:Q9 X xs es) (h:Q5h T c H key k xs 0= .ok r):
 ∃r',(Instr.findKey key u es).run P w= .ok r' w/\Q98 X r r' :=by
 have hu:=T.Qf hT hki w;have hun:=T.und hT hki;obtain ⟨r',g1,g2,g3⟩:=Q25 hT hc hH hk hun xs es 0 r he h;refine ⟨r',?_,g2⟩;simp only [Instr.findKey,Sem.run_bind,hu,Result.andThen_ok];split;rename_i q hq;rw [g3 q hq];rfl;exact g1
noncomputable def Q5e (T:Tab) (c:Ctx) (H:Tr Q7) (t:TypeId) (x ix:AV) (ok:Bool):D AV:=
 match T.ty t with
 |none=> .fail
 |some ti=>
  match ti.desc with
  | .map key elem=>
   match T.ty elem,T.ty key with
   |some ei,some _=>
    bif YK T 8 key ix then
     match (match x with
      | .nilmap=>some []
      | .map r=>match H.get r with
       |some (.map es _)=>some es
       |_=>none
      |_=>none:Option (List (AV×AV×Nat))) with
     |none=> .fail
     |some es=>(Q5h T c H key ix es 0).bind λr=>match r with
      |some (_,v)=> .ok (bif ok then .tuple [v, .bool true] else v)
      |none=> .ok (bif ok then .tuple [ei.zero, .bool false] else ei.zero)
    else .fail
   |_,_=> .fail
  |_=> .fail
theorem jd {P:Program} {T:Tab} (hT:T.OK P) {c:Ctx} {X:Ext} (hc:c.okN X.dom X.O) {n0:Nat} {H:Tr Q7} {w:World} (hH:Qq X n0 H w) {t:TypeId} {x ix r:AV} {ok:Bool} {u v:Value}
 (h:Q5e T c H t x ix ok= .ok r) (hx:x.rel X u) (hi:ix.rel X v):∃z,(Instr.lookup t u v ok).run P w= .ok z w/\r.rel X z:=by
 unfold Q5e at h;split at h;cases h;rename_i ti hti;have hu:=T.Qf hT hti w;split at h<;>rename_i hd;rename_i key elem;rw [hd] at hu;split at h;rename_i ei ki hei hki;cases hck:YK T 8 key ix with
 |false=>rw [hck] at h;cases h
 |true=>
  rw [hck] at h;simp only [cond_true] at h;split at h;cases h;rename_i es hes;obtain ⟨z,hz,hzr⟩:=T.ZW hT hei w;obtain ⟨q,hq,h⟩:=D.bind_ok h;have hboth:∃r',(Instr.lookup t u v ok).run P w= .ok (if ok then .tuple #[(match r' with|some (_,v)=>v|none=>z), .bool r'.isSome] else (match r' with|some (_,v)=>v|none=>z)) w/\Q98 X q r' :=by
   split at hes;cases hes;simp only [AV.rel] at hx;subst hx;obtain ⟨r',f1,f2⟩:=Zk (xs:=[]) (es:=[]) hT hc hH hi hki rfl hq;refine ⟨r',?_,f2⟩;simp only [Instr.lookup,Sem.run_bind,hu,Result.andThen_ok,Sem.run_pure,Zg hT 8 10000 key ix v (by omega) hck hi,f1];cases r' with
   |none=>cases ok<;>simp [hz]
   |some p=>obtain ⟨i,v'⟩:=p;cases ok<;>simp
   split at hes;rename_i r' es2 clock hr;cases hes;simp only [AV.rel] at hx;obtain ⟨p,hp,rfl⟩:=hx;obtain ⟨es',h1,h2⟩:=hH.obj _ _ p hr hp;obtain ⟨r',f1,f2⟩:=Zk hT hc hH hi hki h2 hq;refine ⟨r',?_,f2⟩;have hg:(getObj p.blk).run P w= .ok (.map es' clock) w:=by simp [getObj,Sem.run,h1]
   simp only [Instr.lookup,Sem.run_bind,hu,Result.andThen_ok,hg,Sem.run_pure,Zg hT 8 10000 key ix v (by omega) hck hi,f1];cases r' with
   |none=>cases ok<;>simp [hz]
   |some p=>obtain ⟨i,v'⟩:=p;cases ok<;>simp
   cases hes;cases hes
  obtain ⟨r',hrun,f2⟩:=hboth;refine ⟨_,hrun,?_⟩;cases q with
  |none=>
   cases r' with
   |some p=>exact f2.elim
   |none=>cases h;cases ok;simpa using hzr X;simp only [cond_true,if_true,AV.rel];exact ⟨_,rfl,by simp only [rels_cons_cons,rels_nil,AV.rel];exact ⟨hzr X,rfl,trivial⟩⟩
  |some p=>
   obtain ⟨i,v'⟩:=p;cases r' with
   |none=>exact f2.elim
   |some p' =>obtain ⟨j,v''⟩:=p';cases h;obtain ⟨_,f3⟩:=f2;cases ok;simpa using f3;simp only [cond_true,if_true,AV.rel];exact ⟨_,rfl,by simp only [rels_cons_cons,rels_nil,AV.rel];exact ⟨f3,rfl,trivial⟩⟩
 cases h;cases h
noncomputable def Q7x (T:Tab) (c:Ctx) (H:Tr Q7) (key:TypeId) (k:AV):List (AV×AV)->D (Option AV)
 |[]=> .ok none
 |e::es=>(aeq T c H 50 key k e.1).bind λr=>(Q7x T c H key k es).bind λq=>match r,q with
  |true,none=> .ok (some e.2)
  |false,q=> .ok q
  |true,some _=> .fail
def Found (P:Program) (w:World) (X:Ext) (key:TypeId) (u:Value) (r:Option AV) (l:List MapEntry):Prop:=
 match r with
 |none=>∀e∈l,(Op.equal key u e.key).run P w= .ok false w
 |some v=>∃e0∈l,(Op.equal key u e0.key).run P w= .ok true w/\v.rel X e0.val/\∀e∈l,e=e0\/(Op.equal key u e.key).run P w= .ok false w
theorem yF {P:Program} {T:Tab} (hT:T.OK P) {c:Ctx} {X:Ext} (hc:c.okN X.dom X.O) {n0:Nat} {H:Tr Q7} {w:World} (hH:Qq X n0 H w) {key:TypeId} {k:AV} {u:Value} (hk:k.rel X u):
 ∀(xs:List (AV×AV)) (l:List MapEntry) (r:Option AV),ZX X xs l->Q7x T c H key k xs= .ok r->Found P w X key u r l
 |[],l,r,he,h=>by cases he;simp only [Q7x,D.ok.injEq] at h;subst h;intro e he;cases he
 |x::xs,l,r,he,h=>by
  obtain ⟨e,l',rfl,h1,h2,h4⟩:=he;simp only [Q7x] at h;obtain ⟨b,hb,h⟩:=D.bind_ok h;obtain ⟨q,hq,h⟩:=D.bind_ok h;have hq1:(Op.equal key u e.key).run P w= .ok b w:=JW hT hc hH 50 10000 key k x.1 b u e.key (by omega) hb hk h1
  have ih:=yF hT hc hH hk xs l' q h4 hq;split at h;cases h;refine ⟨e,List.mem_cons_self,hq1,h2,λe' he' =>?_⟩;rcases List.mem_cons.1 he' with rfl|he';exact .inl rfl
  exact .inr (ih e' he')
  cases h;cases r with
  |none=>intro e' he';rcases List.mem_cons.1 he' with rfl|he';exact hq1;exact ih e' he'
  |some v=>
   obtain ⟨e0,g1,g2,g3,g4⟩:=ih;refine ⟨e0,List.mem_cons_of_mem _ g1,g2,g3,λe' he' =>?_⟩;rcases List.mem_cons.1 he' with rfl|he';exact .inr hq1
   exact g4 e' he'
  cases h
def resL:Option (Nat×Value)->Option Value:=Option.map (·.2)
theorem Q71 {P:Program} {w:World} {X:Ext} {key:TypeId} {u:Value} {d:TypeDesc} (hu:P.underlying key=some d) {v:AV} {e0:MapEntry} (ht:(Op.equal key u e0.key).run P w= .ok true w):
 ∀(l:List MapEntry) (i:Nat),(∀e∈l,e=e0\/(Op.equal key u e.key).run P w= .ok false w)->∃r',(Instr.findAsking key u l i).run P w= .ok r' w/\(e0∈l->resL r' =some e0.val)/\(e0∉l->r' =none)/\∀q,Instr.findNow d u l i=some q->q=r'
 |[],i,_=>⟨none,rfl,λh=>(by cases h),λ_=>rfl,λq hq=>(by simp only [Instr.findNow,Option.some.injEq] at hq;exact hq.symm)⟩
 |e::l,i,h=>by
  by_cases he:e=e0;subst he;refine ⟨some (i,e.val),by simp [Instr.findAsking,ht],λ_=>rfl,λhn=>absurd List.mem_cons_self hn,λq hq' =>?_⟩;simp only [Instr.findNow] at hq';split at hq';cases hq';rfl;rename_i hs;have:=YT hu hs ht;cases this;cases hq';have hf:(Op.equal key u e.key).run P w= .ok false w:=(h e List.mem_cons_self).resolve_left he
  obtain ⟨r',g1,g2,g3,g4⟩:=Q71 (v:=v) (X:=X) hu ht l (i+1) λe' he' =>h e' (List.mem_cons_of_mem _ he')
  refine ⟨r',by simp [Instr.findAsking,hf,g1],λhm=>g2 ((List.mem_cons.1 hm).resolve_left (λe' =>he e'.symm)),λhn=>g3 λhm=>hn (List.mem_cons_of_mem _ hm),λq hq' =>?_⟩;simp only [Instr.findNow] at hq';split at hq';rename_i hs;have:=YT hu hs hf;cases this;exact g4 q hq';cases hq'
theorem Qaj {P:Program} {w:World} {key:TypeId} {u:Value} {d:TypeDesc} (hu:P.underlying key=some d):
 ∀(l:List MapEntry) (i:Nat),(∀e∈l,(Op.equal key u e.key).run P w= .ok false w)->(Instr.findAsking key u l i).run P w= .ok none w/\∀q,Instr.findNow d u l i=some q->q=none
 |[],i,_=>⟨rfl,λq hq=>by simp only [Instr.findNow,Option.some.injEq] at hq;exact hq.symm⟩
 |e::l,i,h=>by
  have hf:=h e List.mem_cons_self;obtain ⟨g1,g2⟩:=Qaj hu l (i+1) λe' he' =>h e' (List.mem_cons_of_mem _ he')
  refine ⟨by simp [Instr.findAsking,hf,g1],λq hq' =>?_⟩;simp only [Instr.findNow] at hq';split at hq';rename_i hs;have:=YT hu hs hf;cases this;exact g2 q hq';cases hq'
noncomputable def Q5d (T:Tab) (c:Ctx) (H:Tr Q7) (t:TypeId) (es:List (AV×AV)) (ix:AV) (ok:Bool):D AV:=
 match T.ty t with
 |none=> .fail
 |some ti=>
  match ti.desc with
  | .map key elem=>
   match T.ty elem,T.ty key with
   |some ei,some _=>
    bif YK T 8 key ix then
     (Q7x T c H key ix es).bind λr=>match r with
      |some v=> .ok (bif ok then .tuple [v, .bool true] else v)
      |none=> .ok (bif ok then .tuple [ei.zero, .bool false] else ei.zero)
    else .fail
   |_,_=> .fail
  |_=> .fail
theorem Q2l {P:Program} {T:Tab} (hT:T.OK P) {c:Ctx} {X:Ext} (hc:c.okN X.dom X.O) {n0:Nat} {H:Tr Q7} {w:World} (hH:Qq X n0 H w) {t:TypeId} {b:Nat} {es:List (AV×AV)} {ix r:AV} {ok:Bool} {u v:Value}
 (h:Q5d T c H t es ix ok= .ok r) (hb:H.get b=some (.lmap es)) (hx:(AV.map b).rel X u) (hi:ix.rel X v):∃z,(Instr.lookup t u v ok).run P w= .ok z w/\r.rel X z:=by
 unfold Q5d at h;split at h;cases h;rename_i ti hti;have hu:=T.Qf hT hti w;split at h<;>rename_i hd;rename_i key elem;rw [hd] at hu;split at h;rename_i ei ki hei hki;cases hck:YK T 8 key ix with
 |false=>rw [hck] at h;cases h
 |true=>
  rw [hck] at h;simp only [cond_true] at h;obtain ⟨z,hz,hzr⟩:=T.ZW hT hei w;have huk:=T.Qf hT hki w;have hun:=T.und hT hki;obtain ⟨q,hq,h⟩:=D.bind_ok h;simp only [AV.rel] at hx;obtain ⟨p,hp,rfl⟩:=hx;obtain ⟨es',clock,l,h1,h2,h3⟩:=hH.obj _ _ p hb hp;have hfound:=yF hT hc hH hi es l q h2 hq;have hg:(getObj p.blk).run P w= .ok (.map es' clock) w:=by simp [getObj,Sem.run,h1]
  have hkey:∃r',(Instr.findKey key v es'.toList).run P w= .ok r' w/\(match q with|none=>r' =none|some a=>∃i z,r' =some (i,z)/\a.rel X z):=by
   cases q with
   |none=>
    obtain ⟨g1,g2⟩:=Qaj (P:=P) (w:=w) hun es'.toList 0 λe he=>hfound e (h3.mem_iff.2 he)
    refine ⟨none,?_,rfl⟩;simp only [Instr.findKey,Sem.run_bind,huk,Result.andThen_ok];split;rename_i q hq;rw [g2 q hq];rfl;exact g1
   |some a=>
    obtain ⟨e0,f1,f2,f3,f4⟩:=hfound;obtain ⟨r',g1,g2,_,g4⟩:=Q71 (P:=P) (X:=X) (v:=a) hun f2 es'.toList 0 λe he=>f4 e (h3.mem_iff.2 he)
    have hres:=g2 (h3.mem_iff.1 f1);cases r' with
    |none=>cases hres
    |some pr=>obtain ⟨i,z'⟩:=pr;simp only [resL,Option.map_some,Option.some.injEq] at hres;subst hres;refine ⟨_,?_,i,_,rfl,f3⟩;simp only [Instr.findKey,Sem.run_bind,huk,Result.andThen_ok];split;rename_i q hq;rw [g4 q hq];rfl;exact g1
  obtain ⟨r',f1,f2⟩:=hkey;have hrun:(Instr.lookup t (.map (some p.blk)) v ok).run P w= .ok (if ok then .tuple #[(match r' with|some (_,v)=>v|none=>z), .bool r'.isSome] else (match r' with|some (_,v)=>v|none=>z)) w:=by
   simp only [Instr.lookup,Sem.run_bind,hu,Result.andThen_ok,hg,Sem.run_pure,Zg hT 8 10000 key ix v (by omega) hck hi,f1];cases r' with
   |none=>cases ok<;>simp [hz]
   |some p=>obtain ⟨i,v'⟩:=p;cases ok<;>simp
  refine ⟨_,hrun,?_⟩;cases q with
  |none=>simp only at f2;subst f2;cases h;cases ok;simpa using hzr X;simp only [cond_true,if_true,AV.rel];exact ⟨_,rfl,by simp only [rels_cons_cons,rels_nil,AV.rel];exact ⟨hzr X,rfl,trivial⟩⟩
  |some a=>obtain ⟨i,z',rfl,f3⟩:=f2;cases h;cases ok;simpa using f3;simp only [cond_true,if_true,AV.rel];exact ⟨_,rfl,by simp only [rels_cons_cons,rels_nil,AV.rel];exact ⟨f3,rfl,trivial⟩⟩
 cases h;cases h
noncomputable def Qiw (T:Tab) (c:Ctx) (H:Tr Q7) (t:TypeId) (x ix:AV) (ok:Bool):D AV:=
 match x with
 | .map b=>match H.get b with
  |some (.lmap es)=>Q5d T c H t es ix ok
  |_=>Q5e T c H t x ix ok
 |_=>Q5e T c H t x ix ok
theorem Q9m {P:Program} {T:Tab} (hT:T.OK P) {c:Ctx} {X:Ext} (hc:c.okN X.dom X.O) {n0:Nat} {H:Tr Q7} {w:World} (hH:Qq X n0 H w) {t:TypeId} {x ix r:AV} {ok:Bool} {u v:Value}
 (h:Qiw T c H t x ix ok= .ok r) (hx:x.rel X u) (hi:ix.rel X v):∃z,(Instr.lookup t u v ok).run P w= .ok z w/\r.rel X z:=by
 unfold Qiw at h;split at h;split at h;rename_i hb;exact Q2l hT hc hH h hb hx hi;exact jd hT hc hH h hx hi;exact jd hT hc hH h hx hi
end Go.Ax
namespace Go.Ax
open Go.RowKit
noncomputable def Qje (f:Operand->Option AV):List (Nat×Operand)->Option (List (Nat×AV))
 |[]=>some []
 |(i,x)::xs=>match f x with
  |none=>none
  |some a=>match Qje f xs with
   |none=>none
   |some as=>some ((i,a)::as)
theorem Q4u {X:Ext} {f:Operand->Option AV} {g:Operand->Value}:∀{xs:List (Nat×Operand)} {as:List (Nat×AV)},(∀p∈xs,∀a,f p.2=some a->a.rel X (g p.2))->Qje f xs=some as->Jd X as (xs.map λp=>(p.1,g p.2))
 |[],_,_,h=>by simp [Qje] at h;subst h;exact .nil
 |(i,x)::xs,as,hf,h=>by simp only [Qje] at h;split at h;cases h;rename_i a ha;split at h;cases h;rename_i bs hb;cases h;exact .cons (hf (i,x) (by simp) _ ha) (Q4u (λp hp=>hf p (by simp [hp])) hb)
theorem JY {X:Ext} {f:Operand->Option AV} {g:Operand->Value}:∀{xs:List Operand} {as:List AV},(∀x∈xs,∀a,f x=some a->a.rel X (g x))->evs f xs=some as->AV.QH X as (xs.map g)
 |[],_,_,h=>by simp [evs] at h;subst h;simp
 |x::xs,as,hf,h=>by simp only [evs] at h;split at h;cases h;rename_i a ha;split at h;cases h;rename_i bs hb;cases h;simp only [List.map_cons,rels_cons_cons];exact ⟨hf x (by simp) _ ha,JY (λy hy=>hf y (by simp [hy])) hb⟩
noncomputable def evO (f:Operand->Option AV):Option Operand->Option (Option AV)
 |none=>some none
 |some x=>match f x with
  |none=>none
  |some a=>some (some a)
theorem zi {X:Ext} {f:Operand->Option AV} {g:Operand->Value} {o:Option Operand} {r:Option AV} (hf:∀x,o=some x->∀a,f x=some a->a.rel X (g x)) (h:evO f o=some r):Qch X r (o.map g):=by
 cases o with
 |none=>simp only [evO,Option.some.injEq] at h;subst h;trivial
 |some x=>simp only [evO] at h;split at h;cases h;rename_i a ha;cases h;exact hf x rfl a ha
noncomputable def Y5 (o:Option AV):D LR:=
 match o with
 |some v=> .ok (.val v)
 |none=> .fail
noncomputable def mapD (d:D AV):D LR:=
 match d with
 | .ok v=> .ok (.val v)
 | .ask op a b=> .ask op a b
 | .fail=> .fail
theorem QT {o:Option AV} {r:LR} (h:Y5 o= .ok r):∃v,o=some v/\r= .val v:=by cases o<;>simp [Y5] at h;exact ⟨_,rfl,h.symm⟩
theorem Q4j {d:D AV} {r:LR} (h:mapD d= .ok r):∃v,d= .ok v/\r= .val v:=by cases d<;>simp [mapD] at h;exact ⟨_,rfl,h.symm⟩
noncomputable def jQ (x:AV):Option AV:=
 match x with
 | .nilslice=>some .nilptr
 | .slice b o len cap _ ex=>bif (ex||Nat.blt 0 len)&&Nat.blt 0 cap then some (.ptr b o) else none
 | .wslice b o n _ _=>bif Nat.blt 0 n then some (.ptr b o) else none
 |_=>none
theorem Qe3 {P:Program} {w:World} {a:Addr} {c:Nat} {s:Sem Value} (h:c≠0):(if c≠0 then pure (.pointer (some a)) else s:Sem Value).run P w= .ok (.pointer (some a)) w:=by rw [if_pos h];rfl
theorem yO {P:Program} {X:Ext} {w:World} {ts:Array TypeId} {ty:TypeId} {x r:AV} {u:Value} (h:jQ x=some r) (hx:x.rel X u):∃z,(Builtin.unsafeSliceData_ ts ty #[u]).run P w= .ok z w/\r.rel X z:=by
 unfold jQ at h;split at h;cases h;simp only [AV.rel] at hx;subst hx;exact ⟨_,rfl,by simp only [AV.rel]⟩;rename_i b o len cap es ex;cases hc:((ex||Nat.blt 0 len)&&Nat.blt 0 cap) with
 |false=>rw [hc] at h;cases h
 |true=>
  rw [hc] at h;cases h;simp only [Bool.and_eq_true,Bool.or_eq_true,Nat.blt_eq] at hc;simp only [AV.rel] at hx;obtain ⟨p,o',c,hp,rfl,_,g2,_,hoff,_⟩:=hx;have ho:=hoff (.inl hc.2);subst ho;have hc0:c≠0:=by omega
  refine ⟨.pointer (some ⟨p.blk,p.base+o,none⟩),?_,?_⟩;unfold Builtin.unsafeSliceData_;exact Qe3 hc0;simp only [AV.rel];exact ⟨p,hp,rfl⟩
 rename_i b o n es l;cases hc:Nat.blt 0 n with
 |false=>rw [hc] at h;cases h
 |true=>
  rw [hc] at h;cases h;simp only [AV.rel] at hx;obtain ⟨p,len,c,hp,hv,g1,g2,_⟩:=hx;have hc0:c≠0:=by rw [Nat.blt_eq] at hc;omega
  obtain rfl:_=_:=hv.elim id λh=>absurd h.2 (by rw [Nat.blt_eq] at hc;omega)
  refine ⟨.pointer (some ⟨p.blk,p.base+o,none⟩),?_,?_⟩;unfold Builtin.unsafeSliceData_;exact Qe3 hc0;simp only [AV.rel];exact ⟨p,hp,rfl⟩
 cases h
noncomputable def Qjh (c:Ctx) (x:AV):D AV:=
 match x with
 | .int k (.lit n)=> .ok (.int k (.lit n))
 | .int k e=>match (E.iv c.fs e).lo,(E.iv c.fs e).hi with
  |some l,some h=>bif ile h l then .ok (.int k (.lit l)) else .ask .lss e (.lit (l+1))
  |_,_=> .fail
 |x=> .ok x
theorem Qb7 {c:Ctx} {X:Ext} (hc:c.okN X.dom X.O) {x y:AV} {u:Value} (h:Qjh c x= .ok y) (hx:x.rel X u):y.rel X u:=by
 unfold Qjh at h;split at h;cases h;exact hx;rename_i k e _;split at h;rename_i l hh e1 e2;cases hb:ile hh l with
 |false=>rw [hb] at h;cases h
 |true=>
  rw [hb] at h;cases h;rw [QU] at hb;have hv:=E.Qd hc.2 e;have:=hv.1 _ e1;have:=hv.2 _ e2;simp only [AV.rel] at hx ⊢;obtain ⟨_,rfl⟩:=hx;refine ⟨trivial,?_⟩;have:e.den X.O=l:=by omega
  rw [this];rfl
 cases h;cases h;exact hx
def orS (a b:Option AV):Option AV:=
 match a with
 |some v=>some v
 |none=>b
noncomputable def light (T:Tab) (I:List (TypeId×TypeId×Bool)) (c:Ctx) (H:Tr Q7) (f:Operand->Option AV) (op:Op):D LR:=
 match op with
 | .move x=>Y5 (f x)
 | .assign x=>Y5 (f x)
 | .pick q a b=>(D.of (f q)).bind λq=>match q with
  | .bool true=>Y5 (f a)
  | .bool false=>Y5 (f b)
  |_=> .fail
 | .alloc t=>D.of (Qbs T t)
 | .box t x=>(D.of (f x)).bind λx=> .ok (.ptr (.cells x.cellsOf t true true false))
 | .build t ps=>(D.of (Qje f ps.toList)).bind λps=>Y5 (Qbp T t ps)
 | .buildSlice t n ps=>(D.of (Qje f ps.toList)).bind λps=>D.of (Jr T t n ps)
 | .load t x=>(D.of (f x)).bind λx=>Y5 (Q9n T H t x)
 | .nilCheck x=>(D.of (f x)).bind λx=>Y5 (Qm6 x)
 | .binOp op t x y _=>(D.of (f x)).bind λa=>(D.of (f y)).bind λb=>mapD (Qbr T c H (isK x||isK y) op t a b)
 | .unOp op _ x=>(D.of (f x)).bind λx=>Y5 (aun op x)
 | .convert src dst x=>(D.of (f x)).bind λx=>match Q82 T src dst x with
  |some r=> .ok r
  |none=>Y5 (Qgf T c H src dst x)
 | .makeInterface t x=>(D.of (f x)).bind λx=>Y5 (qo T t x)
 | .makeFunc fn as cs=>match fn with
  | .func k=>(D.of (evs f as.toList)).bind λas=>(D.of (evs f cs.toList)).bind λcs=> .ok (.val (.func k as cs))
  |_=> .fail
 | .makeMap t r=>match T.ty t with
  |none=> .fail
  |some ti=>match ti.desc with
   | .map _ _=>(D.of (evO f r)).bind λr=>match r with
    |none=> .ok .map
    |some a=>match Qjc a with
     |some _=> .ok .map
     |none=> .fail
   |_=> .fail
 | .makeSlice t l k=>(D.of (f l)).bind λl=>(D.of (f k)).bind λk=>D.of (qm T t l k)
 | .slice t x lo hi mx=>(D.of (f x)).bind λx=>(D.of (evO f lo)).bind λlo=>(D.of (evO f hi)).bind λhi=>(D.of (evO f mx)).bind λmx=>Y5 (orS (aslice T H t x lo hi mx) (Q58 T c t x lo hi mx))
 | .fieldAddr t x k=>(D.of (f x)).bind λx=>Y5 (Yp T t x k)
 | .field t x k=>(D.of (f x)).bind λx=>Y5 (Qbk T t x k)
 | .indexAddr t x ix=>(D.of (f x)).bind λx=>(D.of (f ix)).bind λix=>(Qjh c ix).bind λix=>Y5 (Yo T t x ix)
 | .index t x ix=>(D.of (f x)).bind λx=>(D.of (f ix)).bind λix=>match Q20 T c t x ix with
  |some v=> .ok (.val v)
  |none=>(Qjh c ix).bind λix=>Y5 (Q7w T t x ix)
 | .lookup t x ix ok=>(D.of (f x)).bind λx=>(D.of (f ix)).bind λix=>mapD (Qiw T c H t x ix ok)
 | .typeAssert x _ a ok=>(D.of (f x)).bind λx=>Y5 (Q5l T I x a ok)
 | .extract x k=>(D.of (f x)).bind λx=>Y5 (je x k)
 | .call cl=>match cl.callee with
  | .builtin b=>match b,cl.argTypes.toList,cl.args.toList with
   | .len,[t],[x]=>(D.of (f x)).bind λx=>Y5 (Qgd T c H t x)
   | .cap,[t],[x]=>(D.of (f x)).bind λx=>Y5 (acap T t x)
   | .min,_,xs=>(D.of (evs f xs)).bind λxs=>mapD (JV true c xs)
   | .max,_,xs=>(D.of (evs f xs)).bind λxs=>mapD (JV false c xs)
   | .unsafeSliceData,_,[x]=>(D.of (f x)).bind λx=>Y5 (jQ x)
   |_,_,_=> .fail
  |_=> .fail
 |_=> .fail
def LR.Qdv (P:Program) (X:Ext) (w:World) (s:Sem Next):LR->Prop
 | .val v=>∃u,s.run P w= .ok (.value u) w/\v.rel X u
 | .ptr o=>∃ob n d,s.run P w= .ok (.value (.pointer (some ⟨w.heap.size,0,none⟩))) (grown w ob d)/\ji X o ⟨w.heap.size,0,n⟩ (some ob)
 | .slc o len cap es ex=>∃ob n d c,s.run P w= .ok (.value (.slice (some ⟨w.heap.size,0,none⟩) len c)) (grown w ob d)/\ji X o ⟨w.heap.size,0,n⟩ (some ob)/\
  len<=cap/\cap<=c/\c*es<=n/\(ex=true->c=cap)
 | .map=>∃d,s.run P w= .ok (.value (.map (some w.heap.size))) (grown w (.map #[] 0) d)
theorem LR.toN {P:Program} {X:Ext} {w:World} {s:Sem Value} {r:LR} (h:r.sound P X w s):r.Qdv P X w (do pure (.value (<-s))):=by
 cases r with
 |val v=>obtain ⟨u,h1,h2⟩:=h;exact ⟨u,by simp [h1],h2⟩
 |ptr o=>obtain ⟨ob,n,d,h1,h2⟩:=h;exact ⟨ob,n,d,by simp [h1],h2⟩
 |slc o len cap es ex=>obtain ⟨ob,n,d,c,h1,h2⟩:=h;exact ⟨ob,n,d,c,by simp [h1],h2⟩
 |map=>obtain ⟨d,h1⟩:=h;exact ⟨d,by simp [h1]⟩
theorem Qs {P:Program} {X:Ext} {w:World} {s:Sem Value} {v:AV} (h:∃z,s.run P w= .ok z w/\v.rel X z):(LR.val v).sound P X w s:=h
set_option maxHeartbeats 1000000 in
theorem Yu {P:Program} {T:Tab} (hT:T.OK P) {I:List (TypeId×TypeId×Bool)} (hI:YL.OK P I) {c:Ctx} {X:Ext} (hc:c.okN X.dom X.O) {n0:Nat} {H:Tr Q7} {w:World} (hH:Qq X n0 H w) {f:Operand->Option AV} {g:Operand->Value} {o:Oper} {r:LR}
 (hf:∀x∈o.op.operands.toList,∀a,f x=some a->a.rel X (g x)) (h:light T I c H f o.op= .ok r):r.Qdv P X w (execOp g o):=by
 obtain ⟨dst,op,type,pos,after,guard⟩:=o;cases op<;>simp only [Op.operands] at hf<;>simp only [light,reduceCtorEq] at h
 case move x=>obtain ⟨v,h1,rfl⟩:=QT h;exact ⟨g x,rfl,hf x (by simp) v h1⟩
 case assign x=>obtain ⟨v,h1,rfl⟩:=QT h;exact ⟨g x,rfl,hf x (by simp) v h1⟩
 case pick q a b=>obtain ⟨q',h1,h⟩:=D.bind_ok h;have hq:=hf q (by simp) q' (D.Qu h1);split at h;obtain ⟨v,h2,rfl⟩:=QT h;simp only [AV.rel] at hq;exact ⟨g a,by simp [execOp,hq,asBool],hf a (by simp) v h2⟩;obtain ⟨v,h2,rfl⟩:=QT h;simp only [AV.rel] at hq;exact ⟨g b,by simp [execOp,hq,asBool],hf b (by simp) v h2⟩;cases h
 case alloc t=>exact LR.toN (Q84 hT (D.Qu h))
 case box t x=>obtain ⟨x',h1,h⟩:=D.bind_ok h;cases h;exact LR.toN (Qd8 (hf x (by simp) x' (D.Qu h1)))
 case build t ps=>obtain ⟨ps',h1,h⟩:=D.bind_ok h;obtain ⟨v,h2,rfl⟩:=QT h;refine LR.toN (Qs (Q83 hT h2 ?_));have:=Q4u (X:=X) (g:=g) (λp hp a ha=>hf p.2 (by simp only [List.mem_map];exact ⟨p,hp,rfl⟩) a ha) (D.Qu h1);simpa using this
 case buildSlice t n ps=>obtain ⟨ps',h1,h⟩:=D.bind_ok h;refine LR.toN (jU hT (D.Qu h) ?_);have:=Q4u (X:=X) (g:=g) (λp hp a ha=>hf p.2 (by simp only [List.mem_map];exact ⟨p,hp,rfl⟩) a ha) (D.Qu h1);simpa using this
 case load t x=>obtain ⟨x',h1,h⟩:=D.bind_ok h;obtain ⟨v,h2,rfl⟩:=QT h;exact LR.toN (Qs (Q1z hT hH h2 (hf x (by simp) x' (D.Qu h1))))
 case nilCheck x=>obtain ⟨x',h1,h⟩:=D.bind_ok h;obtain ⟨v,h2,rfl⟩:=QT h;obtain ⟨e1,e2⟩:=Qd3 (P:=P) (w:=w) (f:=g) (o:=x) rfl h2 (hf x (by simp) x' (D.Qu h1)) ⟨dst, .nilCheck x,type,pos,after,guard⟩ rfl;exact ⟨g x,e1,e2⟩
 case binOp op t x y yt=>obtain ⟨a,h1,h⟩:=D.bind_ok h;obtain ⟨b,h2,h⟩:=D.bind_ok h;obtain ⟨v,h3,rfl⟩:=Q4j h;exact LR.toN (Qs (Qd9 hT hc hH h3 (hf x (by simp) a (D.Qu h1)) (hf y (by simp) b (D.Qu h2))))
 case unOp op t x=>obtain ⟨x',h1,h⟩:=D.bind_ok h;obtain ⟨v,h2,rfl⟩:=QT h;exact LR.toN (Qs (Qg9 h2 (hf x (by simp) x' (D.Qu h1))))
 case convert src dst' x=>obtain ⟨x',h1,h⟩:=D.bind_ok h;have hx:=hf x (by simp) x' (D.Qu h1);split at h;rename_i r' hr;cases h;exact LR.toN (Q81 hT hr hx);obtain ⟨v,h2,rfl⟩:=QT h;exact LR.toN (Qs (Q9t hT hc hH h2 hx))
 case makeInterface t x=>obtain ⟨x',h1,h⟩:=D.bind_ok h;obtain ⟨v,h2,rfl⟩:=QT h;exact LR.toN (Qs (yQ hT h2 (hf x (by simp) x' (D.Qu h1))))
 case makeFunc fn as cs=>cases fn<;>simp only [reduceCtorEq] at h;rename_i k;obtain ⟨as',h1,h⟩:=D.bind_ok h;obtain ⟨cs',h2,h⟩:=D.bind_ok h;cases h;refine ⟨.func (.func k) (as.map g) (cs.map g),rfl,?_⟩;simp only [AV.rel];refine ⟨_,_,rfl,?_,?_⟩;simpa using JY (X:=X) (g:=g) (λx hx a ha=>hf x (by simp;exact .inl (by simpa using hx)) a ha) (D.Qu h1);simpa using JY (X:=X) (g:=g) (λx hx a ha=>hf x (by simp;exact .inr (by simpa using hx)) a ha) (D.Qu h2)
 case makeMap t ro=>
  split at h;cases h;rename_i ti hti;split at h<;>rename_i hd;obtain ⟨r',h1,h⟩:=D.bind_ok h;have ho:=zi (X:=X) (g:=g) (λx hx a ha=>hf x (by simp [hx]) a ha) (D.Qu h1);have key:LR.map.sound P X w (Instr.makeMap t (ro.map g)):=by
   refine Q2k hT hti hd ho λa ha=>?_
   subst ha;simp only at h;split at h;rename_i n hn;simp [hn];cases h
  have hr:r= .map:=by split at h;cases h;rfl;split at h<;>cases h;rfl
  subst hr;exact LR.toN key;cases h
 case makeSlice t l k=>obtain ⟨l',h1,h⟩:=D.bind_ok h;obtain ⟨k',h2,h⟩:=D.bind_ok h;exact LR.toN (yP hT (D.Qu h) (hf l (by simp) l' (D.Qu h1)) (hf k (by simp) k' (D.Qu h2)))
 case slice t x lo hi mx=>
  obtain ⟨x',h1,h⟩:=D.bind_ok h;obtain ⟨lo',h2,h⟩:=D.bind_ok h;obtain ⟨hi',h3,h⟩:=D.bind_ok h;obtain ⟨mx',h4,h⟩:=D.bind_ok h;obtain ⟨v,h5,rfl⟩:=QT h;unfold orS at h5;split at h5;rename_i q h6;cases h5;exact LR.toN (Qs (Q7q hT hH h6 (hf x (by simp) x' (D.Qu h1))
   (zi (λy hy a ha=>hf y (by simp [hy]) a ha) (D.Qu h2))
   (zi (λy hy a ha=>hf y (by simp [hy]) a ha) (D.Qu h3))
   (zi (λy hy a ha=>hf y (by simp [hy]) a ha) (D.Qu h4))))
  exact LR.toN (Qs (Q57 hT hc h5 (hf x (by simp) x' (D.Qu h1))
   (zi (λy hy a ha=>hf y (by simp [hy]) a ha) (D.Qu h2))
   (zi (λy hy a ha=>hf y (by simp [hy]) a ha) (D.Qu h3))
   (zi (λy hy a ha=>hf y (by simp [hy]) a ha) (D.Qu h4))))
 case fieldAddr t x k=>obtain ⟨x',h1,h⟩:=D.bind_ok h;obtain ⟨v,h2,rfl⟩:=QT h;exact LR.toN (Qs (yT hT h2 (hf x (by simp) x' (D.Qu h1))))
 case field t x k=>obtain ⟨x',h1,h⟩:=D.bind_ok h;obtain ⟨v,h2,rfl⟩:=QT h;exact LR.toN (Qs (Q7y hT h2 (hf x (by simp) x' (D.Qu h1))))
 case indexAddr t x ix=>obtain ⟨x',h1,h⟩:=D.bind_ok h;obtain ⟨i',h2,h⟩:=D.bind_ok h;obtain ⟨i2,h4,h⟩:=D.bind_ok h;obtain ⟨v,h3,rfl⟩:=QT h;exact LR.toN (Qs (yS hT h3 (hf x (by simp) x' (D.Qu h1)) (Qb7 hc h4 (hf ix (by simp) i' (D.Qu h2)))))
 case index t x ix=>obtain ⟨x',h1,h⟩:=D.bind_ok h;obtain ⟨i',h2,h⟩:=D.bind_ok h;split at h;rename_i q hq;cases h;exact LR.toN (Qs (Q5f hT hc hq (hf x (by simp) x' (D.Qu h1)) (hf ix (by simp) i' (D.Qu h2))));obtain ⟨i2,h4,h⟩:=D.bind_ok h;obtain ⟨v,h3,rfl⟩:=QT h;exact LR.toN (Qs (Q7v hT h3 (hf x (by simp) x' (D.Qu h1)) (Qb7 hc h4 (hf ix (by simp) i' (D.Qu h2)))))
 case lookup t x ix ok=>obtain ⟨x',h1,h⟩:=D.bind_ok h;obtain ⟨i',h2,h⟩:=D.bind_ok h;obtain ⟨v,h3,rfl⟩:=Q4j h;exact LR.toN (Qs (Q9m hT hc hH h3 (hf x (by simp) x' (D.Qu h1)) (hf ix (by simp) i' (D.Qu h2))))
 case typeAssert x xt a ok=>obtain ⟨x',h1,h⟩:=D.bind_ok h;obtain ⟨v,h2,rfl⟩:=QT h;exact LR.toN (Qs (Q5k hT hI h2 (hf x (by simp) x' (D.Qu h1))))
 case extract x k=>obtain ⟨x',h1,h⟩:=D.bind_ok h;obtain ⟨v,h2,rfl⟩:=QT h;exact LR.toN (Qs (Q2n h2 (hf x (by simp) x' (D.Qu h1))))
 case call cl=>
  obtain ⟨callee,args,argTypes⟩:=cl;cases callee<;>simp only [reduceCtorEq] at h;rename_i b;have hargs:∀x∈args.toList,∀a,f x=some a->a.rel X (g x):=λx hx a ha=>hf x (by simp [Call.operands];simpa using hx) a ha
  have hex:∀b',execOp g ⟨dst, .call ⟨.builtin b',args,argTypes⟩,type,pos,after,guard⟩=builtin b' argTypes type (args.map λ| .const _=>true|_=>false) (args.map g):=λb' =>rfl
  split at h;rename_i t x h1 h2;obtain ⟨x',h3,h⟩:=D.bind_ok h;obtain ⟨v,h4,rfl⟩:=QT h;have e1:argTypes=#[t]:=by rw [<-Array.toList_inj];exact h1
  have e2:args=#[x]:=by rw [<-Array.toList_inj];exact h2
  subst e1 e2;rw [hex,show Array.map g #[x]=#[g x] from by simp]
  exact LR.toN (Qs (Q9o hT hc hH h4 (hargs x (by simp) x' (D.Qu h3))));rename_i t x h1 h2;obtain ⟨x',h3,h⟩:=D.bind_ok h;obtain ⟨v,h4,rfl⟩:=QT h;have e1:argTypes=#[t]:=by rw [<-Array.toList_inj];exact h1
  have e2:args=#[x]:=by rw [<-Array.toList_inj];exact h2
  subst e1 e2;rw [hex,show Array.map g #[x]=#[g x] from by simp]
  exact LR.toN (Qs (Qd7 hT h4 (hargs x (by simp) x' (D.Qu h3))));obtain ⟨xs',h3,h⟩:=D.bind_ok h;obtain ⟨v,h4,rfl⟩:=Q4j h;rw [hex];have hr:=JY hargs (D.Qu h3);refine LR.toN (s:=Builtin.min_ argTypes type (args.map g)) (Qs ?_);cases xs' with
  |nil=>cases h4
  |cons y ys=>
   cases hl:args.toList with
   |nil=>rw [hl] at hr;exact absurd hr (by simp)
   |cons z zs=>rw [hl] at hr;simp only [List.map_cons,rels_cons_cons] at hr;obtain ⟨q,q1,q2⟩:=Q5c (P:=P) (w:=w) hc h4 hr.1 hr.2;exact ⟨q,by simp [Builtin.min_,hl,q1],q2⟩
  obtain ⟨xs',h3,h⟩:=D.bind_ok h;obtain ⟨v,h4,rfl⟩:=Q4j h;rw [hex];have hr:=JY hargs (D.Qu h3);refine LR.toN (s:=Builtin.max_ argTypes type (args.map g)) (Qs ?_);cases xs' with
  |nil=>cases h4
  |cons y ys=>
   cases hl:args.toList with
   |nil=>rw [hl] at hr;exact absurd hr (by simp)
   |cons z zs=>rw [hl] at hr;simp only [List.map_cons,rels_cons_cons] at hr;obtain ⟨q,q1,q2⟩:=Q9l (P:=P) (w:=w) hc h4 hr.1 hr.2;exact ⟨q,by simp [Builtin.max_,hl,q1],q2⟩
  rename_i x h2;obtain ⟨x',h3,h⟩:=D.bind_ok h;obtain ⟨v,h4,rfl⟩:=QT h;have e2:args=#[x]:=by rw [<-Array.toList_inj];exact h2
  subst e2;rw [hex,show Array.map g #[x]=#[g x] from by simp]
  exact LR.toN (Qs (yO h4 (hargs x (by simp) x' (D.Qu h3))));cases h
end Go.Ax
namespace Go.Ax
open Go.RowKit
theorem Qq.congr {X:Ext} {n0:Nat} {H H' :Tr Q7} {w:World} (h:Qq X n0 H w) (e:∀b,H'.get b=H.get b):Qq X n0 H' w:=
 ⟨λb o p hb hp=>h.obj b o p (by rw [<-e];exact hb) hp,λb b' o o' p p' hb hb' l l' hp hp' q=>h.inj b b' o o' p p' (by rw [<-e];exact hb) (by rw [<-e];exact hb') l l' hp hp' q,h.lt,
  λb o p hb hl hp=>h.own b o p (by rw [<-e];exact hb) hl hp⟩
theorem Q2y {X:Ext} {a:AV} {v:Value} (h:a.rel X v) (hc:a.cell=true):v.oneCell' =true:=by have:=Q9x h hc;cases v<;>simp [Qgo] at this<;>rfl
theorem Z4 {P:Program} {X:Ext} {n0:Nat} {b:Nat} {p:Place} {elem:TypeId} {ex pl:Bool} (hp:X.V b=some p):
 ∀(as:List AV) (vs:List Value) (i o:Nat) (cs:List AV) (H:Tr Q7) (w:World),Qq X n0 H w->H.get b=some (.cells cs elem ex pl false)->AV.QH X as vs->as.all AV.cell=true->o+i+as.length<=cs.length->
  ∃w',(storeCells ⟨p.blk,p.base+o,none⟩ vs i).run P w= .ok () w' /\Qq X n0 (H.set b (.cells (Yc (o+i) as cs) elem ex pl false)) w' /\Below n0 w w'
 |[],vs,i,o,cs,H,w,hH,hb,hr,_,_=>by rw [rels_nil.1 hr];refine ⟨w,rfl,hH.congr λc=>?_,Below.refl _ _⟩;by_cases e:c=b;subst e;rw [Tr.get_set_same,hb];rfl;rw [Tr.Q0 _ _ e]
 |a::as,[],_,_,_,_,_,_,_,hr,_,_=>absurd hr not_rels_cons_nil
 |a::as,v::vs,i,o,cs,H,w,hH,hb,hr,hc,hl=>by
  simp only [rels_cons_cons] at hr;simp only [List.all_cons,Bool.and_eq_true] at hc;simp only [List.length_cons] at hl;have hlt:o+i<cs.length:=by omega
  obtain ⟨u,hu,_⟩:=hH.cell hb hp (List.getElem?_eq_getElem hlt);have hpn:p.base+cs.length<=p.n:=by obtain ⟨c,fr,_,_,h3,_⟩:=hH.obj b _ p hb hp;exact h3
  have hz:=hH.notFrozen hb hp (i:=o+i) (by omega);have hst:=hH.store hb hp hlt hr.1;have hbl:Below n0 w (w.setCell ⟨p.blk,p.base+(o+i),none⟩ v):=(Below.refl n0 w).setCell (hH.own b _ p hb rfl hp) v
  obtain ⟨w',h1,h2,h3⟩:=Z4 (P:=P) hp as vs (i+1) o (cs.set (o+i) a) _ _ hst (Tr.get_set_same _ _ _) hr.2 hc.2 (by rw [List.length_set];omega);refine ⟨w',?_,h2.congr λc=>?_,hbl.trans h3⟩;simp only [storeCells,Sem.run_bind];rw [QO,Nat.add_assoc,run_store P w _ v _ (Q2y hr.1 hc.1),hu];simp only [hz,Bool.false_eq_true,if_false,Result.andThen_ok];exact h1;by_cases e:c=b;subst e;rw [Tr.get_set_same,Tr.get_set_same,Yc,Nat.add_assoc];rw [Tr.Q0 _ _ e,Tr.Q0 _ _ e,Tr.Q0 _ _ e]
structure HR where
 v:AV
 H:Tr Q7
 next:Nat
def HS (P:Program) (X:Ext) (n0:Nat) (H:Tr Q7) (next:Nat) (w:World) (s:Sem Value) (r:HR):Prop:=∃Y u w',s.run P w= .ok u w' /\X.le Y/\r.v.rel Y u/\Qq Y n0 r.H w' /\Below n0 w w' /\(∀b,X.V b=none->b<next->Y.V b=none/\r.H.get b=H.get b)/\next<=r.next/\∀b,r.next<=b->Y.V b=none
noncomputable def Q7p (T:Tab) (H:Tr Q7) (next:Nat) (t:TypeId) (x v:AV):Option HR:=
 match x,T.ty t with
 | .ptr b o,some ti=>
  match H.get b with
  |some (.cells cs elem ex pl false)=>
   bif Nat.beq v.cellsOf.length ti.size&&v.cellsOf.all AV.cell&&Nat.ble (o+ti.size) cs.length then
    some ⟨.undef,H.set b (.cells (Yc o v.cellsOf cs) elem ex pl false),next⟩
   else none
  |_=>none
 |_,_=>none
theorem QZ {X:Ext} {b c:Nat} {p:Place} (h:X.V b=some p) (hc:X.V c=none):c≠b:=λe=>by subst e;rw [h] at hc;cases hc
theorem Q7o {P:Program} {T:Tab} (hT:T.OK P) {X:Ext} {n0:Nat} {H:Tr Q7} {next:Nat} {w:World} (hH:Qq X n0 H w) (hn:∀b,next<=b->X.V b=none) {t:TypeId} {x v:AV} {u z:Value} {r:HR}
 (h:Q7p T H next t x v=some r) (hx:x.rel X u) (hv:v.rel X z):HS P X n0 H next w (do Instr.storeAt t u z;pure undef) r:=by
 unfold Q7p at h;split at h;rename_i b o ti hti;split at h;rename_i cs elem ex pl hb;cases hc:(Nat.beq v.cellsOf.length ti.size&&v.cellsOf.all AV.cell&&Nat.ble (o+ti.size) cs.length) with
 |false=>rw [hc] at h;cases h
 |true=>
  rw [hc] at h;cases h;simp only [Bool.and_eq_true,Nat.beq_eq,Nat.ble_eq] at hc;obtain ⟨⟨h1,h2⟩,h3⟩:=hc;simp only [AV.rel] at hx;obtain ⟨p,hp,rfl⟩:=hx;have hr:=Qt hv;obtain ⟨w',e1,e2,e3⟩:=Z4 (P:=P) hp v.cellsOf z.cells.toList 0 o cs H w hH hb hr h2 (by omega);have hsz:z.cells.size=ti.size:=by have:=Qe hr;rw [<-h1,this];simp
  refine ⟨X,undef,w',?_,Ext.le.refl X,Qw X,e2,e3,λc hcn _=>⟨hcn,Tr.Q0 _ _ (QZ hp hcn)⟩,Nat.le_refl _,hn⟩;simp only [Instr.storeAt,Instr.sureAddr,Sem.run_bind,Sem.run_pure,Result.andThen_ok,storeVar,T.Qv hT hti,hsz,ne_eq,not_true_eq_false,if_false];rw [show (Sem.run P (storeCells { block:=p.blk,off:=p.base+o} z.cells.toList) w)= .ok () w' from e1];rfl
 cases h;cases h
noncomputable def Q24 (H:Tr Q7) (size:Nat) (x:AV):Option (Nat×List AV):=
 match x with
 | .nilslice=>some (0,[])
 | .slice b o len _ _ _=>
  bif Nat.beq len 0 then some (0,[]) else
  match Y9 H b with
  |some cs=>bif Nat.ble (o+len*size) cs.length then some (len,(cs.drop o).take (len*size)) else none
  |none=>none
 | .str s=>bif Nat.beq size 1 then some (s.length,s.map (.int .u8)) else none
 |_=>none
theorem YJ {P:Program} {X:Ext} {n0:Nat} {H:Tr Q7} {w:World} (hH:Qq X n0 H w) {size n:Nat} {x:AV} {l:List AV} {u:Value} (h:Q24 H size x=some (n,l)) (hx:x.rel X u):
 (Builtin.lenOf u).run P w= .ok n w/\(∃vs:List Value,(Builtin.firstCells size n u).run P w= .ok vs.toArray w/\AV.QH X l vs)/\l.length=n*size:=by
 unfold Q24 at h;split at h;cases h;simp only [AV.rel] at hx;subst hx;exact ⟨rfl,⟨[],rfl,by simp⟩,by simp⟩;rename_i b o len cap es ex;simp only [AV.rel] at hx;obtain ⟨p,o',c,hp,rfl,_,_,_,hoff,_⟩:=hx;cases hz:Nat.beq len 0 with
 |true=>
  rw [hz] at h;cases h;have hz' :len=0:=by simpa using hz
  subst hz';exact ⟨rfl,⟨[],by simp [Builtin.firstCells,loadCells,loadCellsFrom],by simp⟩,by simp⟩
 |false=>
  rw [hz] at h;have hz' :len≠0:=λe=>by subst e;cases hz
  simp only [cond_false] at h;split at h;rename_i cs hcs;cases hl:Nat.ble (o+len*size) cs.length with
  |false=>rw [hl] at h;cases h
  |true=>
   rw [hl] at h;cases h;have ho:=hoff (.inl (by omega));subst ho;have hl' :o+n*size<=cs.length:=by simpa using hl
   obtain ⟨vs,e1,e2⟩:=QS (P:=P) hH hcs hp hl';refine ⟨rfl,⟨vs,by simpa [Builtin.firstCells] using e1,e2⟩,?_⟩;simp only [List.length_take,List.length_drop];omega
  cases h
 rename_i s;simp only [AV.rel] at hx;obtain ⟨ho,rfl⟩:=hx;cases hz:Nat.beq size 1 with
 |false=>rw [hz] at h;cases h
 |true=>
  rw [hz] at h;cases h;have hz' :size=1:=by simpa using hz
  subst hz';have hsz:({ data:=(S.bytes X.O s).toArray}:ByteArray).size=s.length:=by show (S.bytes X.O s).toArray.size=_;simp [S.bytes]
  refine ⟨by simp [Builtin.lenOf,hsz],⟨(S.bytes X.O s).map λb=> .int .u8 b.toNat,?_,?_⟩,by simp⟩;have:({ data:=(S.bytes X.O s).toArray}:ByteArray).extract 0 s.length={ data:=(S.bytes X.O s).toArray}:=by rw [<-hsz];exact ByteArray.extract_zero_size
  simp [Builtin.firstCells,this];have aux:∀(q:List E),S.okN X.dom X.O q->AV.QH X (q.map (.int .u8)) ((S.bytes X.O q).map λb=> .int .u8 b.toNat):=by
   intro q;induction q with
   |nil=>intro _;simp [S.bytes]
   |cons t q ih=>
    intro hq;have ht:=hq t (by simp);have:S.bytes X.O (t::q)=UInt8.ofNat (t.den X.O).toNat::S.bytes X.O q:=rfl
    rw [this];simp only [List.map_cons,rels_cons_cons];refine ⟨?_,ih λy hy=>hq y (by simp [hy])⟩;simp only [AV.rel];refine ⟨ht.1,?_⟩;have:=ht.2;congr 1;simp;omega
  exact aux s ho
 cases h
end Go.Ax
namespace Go.Ax
open Go.RowKit
theorem Qq.of_heap {X:Ext} {n0:Nat} {H:Tr Q7} {w w' :World} (h:Qq X n0 H w) (e:w'.heap=w.heap):Qq X n0 H w' :=⟨λb o p hb hp=>by rw [e];exact h.obj b o p hb hp,h.inj,λb p hp=>by rw [e];exact h.lt b p hp,h.own⟩
theorem Qf8 (m:Nat):∀(r c:Nat),Builtin.growBy m r c<=c+m+(m+768)/4
 |0,c=>by simp only [Builtin.growBy];omega
 |r+1,c=>by
  simp only [Builtin.growBy];split;omega;rename_i h;have hc:c+(c+768)/4<=m+(m+768)/4:=by omega
  have key:∀(r c' :Nat),c' <=m+(m+768)/4->Builtin.growBy m r c' <=m+(m+768)/4:=by
   intro r;induction r with
   |zero=>intro c' h';exact h'
   |succ r ih=>intro c' h';simp only [Builtin.growBy];split;exact h';exact ih _ (by omega)
  have:=key r _ hc;omega
theorem nextslicecap_le {m c:Nat} (h:c<m):Builtin.nextslicecap m c<=4*m+1000:=by unfold Builtin.nextslicecap;split;omega;split;omega;have:=Qf8 m 4 c;omega
noncomputable def QN (old new:List AV) (elem:TypeId) (pl:Bool):Q7:= .cells (old++new) elem false pl false
noncomputable def Qoj (H:Tr Q7) (size:Nat) (s:AV):Option (List AV):=
 match s with
 | .nilslice=>some []
 | .slice b o len _ _ _=>bif Nat.beq len 0 then some [] else
  match Y9 H b with
  |some cs=>bif Nat.ble (o+len*size) cs.length then some ((cs.drop o).take (len*size)) else none
  |none=>none
 |_=>none
noncomputable def Q28 (T:Tab) (H:Tr Q7) (next:Nat) (sT xT:TypeId) (s x:AV):Option HR:=
 match T.ty sT,T.ty xT with
 |some si,some xi=>
  match xi.desc with
  | .int _=>
   match si.desc,s,x with
   | .slice elem, .nilslice, .int _ (.lit (.ofNat n))=>
    match T.ty elem with
    |none=>none
    |some ei=>bif Nat.blt 0 n&&Nat.ble n 1048576&&Nat.ble ei.bytes 65536&&Nat.beq ei.zero.cellsOf.length ei.size&&Nat.blt 0 ei.size then
     some ⟨.slice next 0 n n ei.size false,H.set next (QN [] (YI ei.zero.cellsOf (n*ei.size)) elem true),next+1⟩
     else none
   |_,_,_=>none
  |_=>
  match si.desc with
  | .slice elem=>
   match T.ty elem with
   |none=>none
   |some ei=>
    match Q24 H ei.size x with
    |none=>none
    |some (n,new)=>
     bif Nat.ble n 1048576&&Nat.ble ei.bytes 65536&&new.all AV.cell&&Nat.beq ei.zero.cellsOf.length ei.size then
      match s with
      | .nilslice=>
       bif Nat.beq n 0 then some ⟨.nilslice,H,next⟩
       else QG n λn=>some ⟨.slice next 0 n n ei.size false,H.set next (QN [] new elem true),next+1⟩
      | .slice b o len cap es ex=>
       bif Nat.beq es ei.size&&Nat.ble len 1048576 then
        bif Nat.ble (len+n) cap then
         bif Nat.beq n 0 then some ⟨.slice b o len cap es ex,H,next⟩
         else
          match H.get b with
          |some (.cells cs el ex' pl false)=>
           bif (Nat.blt 0 cap||ex)&&Nat.ble (o+(len+n)*es) cs.length then
            QG (len+n) λm=>some ⟨.slice b o m cap es ex,H.set b (.cells (Yc (o+len*es) new cs) el ex' pl false),next⟩
           else none
          |_=>none
        else
         match Qoj H ei.size s with
         |none=>none
         |some old=>
          bif ex then QG (len+n) λm=>some ⟨.slice next 0 m m ei.size false,H.set next (QN old new elem true),next+1⟩
          else
           match H.get b with
           |some (.cells _ el _ pl false)=>bif Nat.beq el elem&&old.all AV.cell then QG (len+n) λm=>some ⟨.slice next 0 m m ei.size false,(H.set b .dead).set next (QN old new elem pl),next+1⟩ else none
           |_=>none
       else none
      |_=>none
     else none
  |_=>none
 |_,_=>none
noncomputable def Q5m (T:Tab) (c:Ctx) (H:Tr Q7) (next:Nat) (sT xT:TypeId) (s x:AV):Option HR:=
 match s,x with
 | .slice b _ len cap es ex, .sstr st=>
  match T.ty sT,T.ty xT with
  |some si,some xi=>match si.desc,xi.desc with
   | .slice elem, .string=>match T.ty elem with
    |some ei=>match ei.desc,(E.ivS c.fs st.len).lo,(E.ivS c.fs st.len).hi with
     | .int .u8,some (.ofNat lo),some (.ofNat hi)=>
      bif Nat.beq ei.size 1&&(Nat.beq es 1&&(Nat.ble ei.bytes 65536&&(Nat.beq ei.zero.cellsOf.length 1&&(Nat.ble hi 1000000&&(Nat.ble 1 lo&&(Nat.ble 1 len&&(Nat.ble len 1000000&&(Nat.blt cap (len+lo)&&!ex)))))))) then
       match Qoj H 1 s,H.get b with
       |some old,some (.cells _ el _ _ false)=>bif Nat.beq el elem&&old.all AV.cell then
        match Yg old with
        |some bs=>QG (next+2) λm=>some ⟨.wslice next 0 1 1 (next+1),((H.set b .dead).set next (.bytes (.cat (.bs bs) st) (next+1) elem)).set (next+1) .dead,m⟩
        |none=>none
        else none
       |_,_=>none
      else none
     |_,_,_=>none
    |none=>none
   |_,_=>none
  |_,_=>none
 |_,_=>none
theorem ql {P:Program} {X:Ext} {n0:Nat} {H:Tr Q7} {w:World} (hH:Qq X n0 H w) {size:Nat} {s:AV} {l:List AV} {base:Option Addr} {len cap:Nat} (h:Qoj H size s=some l) (hs:s.rel X (.slice base len cap)):
 ∃vs:List Value,(Builtin.firstCells size len (.slice base len cap)).run P w= .ok vs.toArray w/\AV.QH X l vs/\l.length=len*size:=by
 unfold Qoj at h;split at h;cases h;simp only [AV.rel,Value.slice.injEq] at hs;obtain ⟨rfl,rfl,rfl⟩:=hs;exact ⟨[],rfl,by simp,by simp⟩;rename_i b o len' cap' es ex;simp only [AV.rel,Value.slice.injEq] at hs;obtain ⟨p,o',c,hp,⟨rfl,rfl,rfl⟩,_,_,_,hoff,_⟩:=hs;cases hz:Nat.beq len 0 with
 |true=>
  rw [hz] at h;cases h;have hz' :len=0:=by simpa using hz
  subst hz';exact ⟨[],by simp [Builtin.firstCells,loadCells,loadCellsFrom],by simp,by simp⟩
 |false=>
  rw [hz] at h;have hz' :len≠0:=λe=>by subst e;cases hz
  simp only [cond_false] at h;split at h;rename_i cs hcs;cases hl:Nat.ble (o+len*size) cs.length with
  |false=>rw [hl] at h;cases h
  |true=>
   rw [hl] at h;cases h;have ho:=hoff (.inl (by omega));subst ho;have hl' :o+len*size<=cs.length:=by simpa using hl
   obtain ⟨vs,e1,e2⟩:=QS (P:=P) hH hcs hp hl';refine ⟨vs,by simpa [Builtin.firstCells] using e1,e2,?_⟩;simp only [List.length_take,List.length_drop];omega
  cases h
 cases h
theorem run_append_fits {P:Program} {T:Tab} (hT:T.OK P) {w w' :World} {sT xT ty elem:TypeId} {si xi ei:TI} (hsi:T.ty sT=some si) (hxi:T.ty xT=some xi) (hei:T.ty elem=some ei) (hsd:si.desc= .slice elem) (hxd:∀k,xi.desc≠ .int k)
 {base:Option Addr} {len cap n:Nat} {x:Value} {new:List Value} (hl:(Builtin.lenOf x).run P w= .ok n w) (hf:(Builtin.firstCells ei.size n x).run P w= .ok new.toArray w) (hc:len+n<=cap)
 (hst:∀a,base=some a->(storeCells (a.add (len*ei.size)) new).run P w= .ok () w') (hno:base=none->w' =w):
 (Builtin.append_ #[sT,xT] ty #[.slice base len cap,x]).run P w= .ok (.slice base (len+n) cap) w' :=by
 have u1:=T.Qf hT hsi w;have u2:=T.Qf hT hxi w;rw [hsd] at u1;simp only [Builtin.append_,List.getElem?_toArray,List.getElem?_cons_zero,List.getElem?_cons_succ,Sem.run_bind,u1,Result.andThen_ok,T.Qv hT hei,u2,Sem.run_pure,Bool.false_eq_true,if_false,hl,hc,if_true,Bool.not_false,hf];cases base with
 |none=>rw [hno rfl];rfl
 |some a=>simp only [Sem.run_bind];rw [show (Sem.run P (storeCells (a.add (len*ei.size)) new.toArray.toList) w)= .ok () w' from hst a rfl];rfl
theorem yM {P:Program} {T:Tab} (hT:T.OK P) {w:World} {sT xT ty elem:TypeId} {si xi ei:TI} (hsi:T.ty sT=some si) (hxi:T.ty xT=some xi) (hei:T.ty elem=some ei) (hsd:si.desc= .slice elem) (hxd:∀k,xi.desc≠ .int k)
 {base:Option Addr} {len cap n:Nat} {x:Value} {old new:List Value} (hl:(Builtin.lenOf x).run P w= .ok n w) (hf:(Builtin.firstCells ei.size n x).run P { w with drawn:=w.drawn+1}= .ok new.toArray { w with drawn:=w.drawn+1})
 (ho:(Builtin.firstCells ei.size len (.slice base len cap)).run P { w with drawn:=w.drawn+1}= .ok old.toArray { w with drawn:=w.drawn+1})
 (hc:¬len+n<=cap) (hn:len+n<=2097152) (hb:ei.bytes<=65536) {z:Value} (hz0:(zeroValue elem).run P { w with drawn:=w.drawn+1}= .ok z { w with drawn:=w.drawn+1}):
 ∃c,len+n<=c/\(Builtin.append_ #[sT,xT] ty #[.slice base len cap,x]).run P w=
  .ok (.slice (some ⟨w.heap.size,0,none⟩) (len+n) c) (grown w (.cells (old.toArray++new.toArray++Builtin.zeroCells z.cells (c-(len+n))) elem) (w.drawn+1)):=by
 have u1:=T.Qf hT hsi w;have u2:=T.Qf hT hxi w;rw [hsd] at u1;obtain ⟨i,i1,i2,i3,_⟩:=T.YC hT hei w;obtain ⟨i',i1',i2',i3',_⟩:=T.YC hT hei { w with drawn:=w.drawn+1}
 let q:=Question.appendCap (len+n) cap elem
 let c:=q.cut (w.tape w.drawn q)
 have hcc:len+n<=c:=by show len+n<=Question.cut (.appendCap (len+n) cap elem) _;simp only [Question.cut];omega
 have hns:=nextslicecap_le (m:=len+n) (c:=cap) (by omega);have hbig:¬(Builtin.nextslicecap (len+n) cap*i.bytes>2^48):=by rw [i3];have:=Nat.mul_le_mul hns hb;omega
 have hmax:¬(((len+n:Nat):Int)>IntKind.i64.max/\(False\/i.bytes=0)):=by have:IntKind.i64.max=9223372036854775807:=rfl;rw [this];omega
 have hq:q.forced=false:=rfl;refine ⟨c,hcc,?_⟩;simp only [Builtin.append_,List.getElem?_toArray,List.getElem?_cons_zero,List.getElem?_cons_succ,Sem.run_bind,u1,Result.andThen_ok,T.Qv hT hei,u2,Sem.run_pure,Bool.false_eq_true,if_false,hl,hc,i1,hmax,hbig,run_choose];show Result.andThen (if q.forced=true then Result.ok 0 w else .ok c _) _=_;rw [hq];simp only [Bool.false_eq_true,if_false,Result.andThen_ok,i1',run_askRoom,ho,Bool.not_false,if_true,hf,hz0,Zi];rfl
theorem yL {P:Program} {T:Tab} (hT:T.OK P) {w:World} {sT xT ty elem:TypeId} {si xi ei:TI} {ik k:IntKind} (hsi:T.ty sT=some si) (hxi:T.ty xT=some xi) (hei:T.ty elem=some ei) (hsd:si.desc= .slice elem) (hxd:xi.desc= .int ik)
 {n:Nat} (hn0:0<n) (hn:n<=1048576) (hb:ei.bytes<=65536) (hs0:0<ei.size) {z:Value} (hz0:(zeroValue elem).run P { w with drawn:=w.drawn+1}= .ok z { w with drawn:=w.drawn+1}):
 ∃c,n<=c/\(Builtin.append_ #[sT,xT] ty #[.slice none 0 0, .int k n]).run P w=
  .ok (.slice (some ⟨w.heap.size,0,none⟩) n c) (grown w (.cells (#[]++Builtin.zeroCells z.cells n++Builtin.zeroCells z.cells (c-n)) elem) (w.drawn+1)):=by
 have u1:=T.Qf hT hsi w;have u2:=T.Qf hT hxi w;rw [hsd] at u1;rw [hxd] at u2;obtain ⟨i,i1,i2,i3,_⟩:=T.YC hT hei w;obtain ⟨i',i1',i2',i3',_⟩:=T.YC hT hei { w with drawn:=w.drawn+1}
 let q:=Question.appendCap (0+n) 0 elem
 let c:=q.cut (w.tape w.drawn q)
 have hcc:n<=c:=by show n<=Question.cut (.appendCap (0+n) 0 elem) _;simp only [Question.cut];omega
 have hns:=nextslicecap_le (m:=0+n) (c:=0) (by omega);have hbig:¬(Builtin.nextslicecap (0+n) 0*i.bytes>2^48):=by rw [i3];have:=Nat.mul_le_mul hns hb;omega
 have hmax:¬(((0+n:Nat):Int)>IntKind.i64.max/\(True\/i.bytes=0)):=by have:IntKind.i64.max=9223372036854775807:=rfl;rw [this];omega
 have hw:IntKind.i64.wrap (n:Int)=n:=Q40 (by omega);have h1:¬((n:Int)<0):=by omega
 have h2:¬((n:Int)*(i.bytes:Int)>2^48):=by
  rw [i3];have:=Nat.mul_le_mul hn hb;have e:(n:Int)*(ei.bytes:Int)=((n*ei.bytes:Nat):Int):=by simp
  rw [e];omega
 have h3:¬(n*ei.size=0):=by have:=Nat.mul_pos hn0 hs0;omega
 have h4:¬(0+n<=0):=by omega
 have hq:q.forced=false:=rfl;refine ⟨c,hcc,?_⟩;simp only [Builtin.append_,List.getElem?_toArray,List.getElem?_cons_zero,List.getElem?_cons_succ,Sem.run_bind,u1,Result.andThen_ok,T.Qv hT hei,u2,Sem.run_pure,if_true,asInt,asIntOf,hw,h1,h2,h3,h4,if_false,i1,hmax,hbig,run_choose,Int.toNat_natCast];show Result.andThen (if q.forced=true then Result.ok 0 w else .ok c _) _=_;rw [hq];have ho:(Builtin.firstCells ei.size 0 (.slice none 0 0)).run P { w with drawn:=w.drawn+1}= .ok #[] { w with drawn:=w.drawn+1}:=rfl
 simp only [Bool.false_eq_true,if_false,Result.andThen_ok,i1',run_askRoom,ho,Bool.not_true,Sem.run_bind,hz0,Sem.run_pure,Zi];have e:0+n=n:=by omega
 rw [e];rfl
end Go.Ax
namespace Go.Ax
open Go.RowKit
theorem Q0m {X:Ext} {n0:Nat} {H:Tr Q7} {w:World} (hH:Qq X n0 H w):Qq X n0 H { w with drawn:=w.drawn+1}:=hH.of_heap rfl
theorem Jg {X:Ext} {n0:Nat} {H:Tr Q7} {next:Nat} {w:World} (hH:Qq X n0 H w) (h0:n0<=w.heap.size) (hn:∀b,next<=b->X.V b=none) {old new:List AV} {o' n' :List Value} {elem:TypeId} {rest:Array Value}
 (ho:AV.QH X old o') (hw:AV.QH X new n') (d:Nat):
 Qq (X.add next ⟨w.heap.size,0,(o'.toArray++n'.toArray++rest).size⟩) n0 (H.set next (QN old new elem true)) (grown w (.cells (o'.toArray++n'.toArray++rest) elem) d):=by
 have hb:X.V next=none:=hn next (Nat.le_refl _)
 have h1:=Qe ho;have h2:=Qe hw;have hrel:=Zv ho hw;refine (hH.alloc h0 (QN old new elem true) hb (.cells (o'.toArray++n'.toArray++rest) elem) _ ?_).of_heap rfl
 refine Zh (Ext.Zr hb) (X:=X) ?_;refine ⟨_,(0,0),⟨_,rfl, .inr rfl⟩,rfl,by simp;omega,by simp,λi a e=>?_, .inr (.inr rfl),λ_=>rfl⟩;obtain ⟨v,hv,hr⟩:=Yh hrel e;refine ⟨v,?_,hr⟩;have hlt:i<(o' ++n').length:=(List.getElem?_eq_some_iff.1 hv).1
 simp only [Nat.zero_add];rw [Array.getElem?_append_left (by simpa using hlt)];simpa using hv
theorem below_grown {n0:Nat} {w:World} (h0:n0<=w.heap.size) (ob:Obj) (d:Nat):Below n0 w (grown w ob d):=⟨rfl,rfl,rfl,by simp [grown],λk hk=>Qq.Q03 w ob (by omega)⟩
theorem jh {P:Program} {T:Tab} (hT:T.OK P) {X:Ext} {n0:Nat} {H:Tr Q7} {next:Nat} {w:World} (hH:Qq X n0 H w) (h0:n0<=w.heap.size) (hn:∀b,next<=b->X.V b=none) {sT xT ty:TypeId} {s x:AV} {u z:Value} {r:HR}
 (h:Q28 T H next sT xT s x=some r) (hs:s.rel X u) (hx:x.rel X z):HS P X n0 H next w (Builtin.append_ #[sT,xT] ty #[u,z]) r:=by
 have hbn:X.V next=none:=hn next (Nat.le_refl _)
 have hadd:∀p:Place,∀b,next+1<=b->(X.add next p).V b=none:=λp b hb=>by rw [Ext.QL (by omega)];exact hn b (by omega)
 have hold:∀p:Place,∀b,X.V b=none->b<next->(X.add next p).V b=none:=λp b hb hlt=>by rw [Ext.QL (by omega)];exact hb
 unfold Q28 at h;split at h
 case h_2=>cases h
 rename_i si xi hsi hxi;split at h
 case h_1=>
  rename_i ik hxd;split at h
  case h_2=>cases h
  rename_i elem k n hsd;split at h
  case h_1=>cases h
  rename_i ei hei;cases hc:(Nat.blt 0 n&&Nat.ble n 1048576&&Nat.ble ei.bytes 65536&&Nat.beq ei.zero.cellsOf.length ei.size&&Nat.blt 0 ei.size) with
  |false=>rw [hc] at h;cases h
  |true=>
   rw [hc] at h;cases h;simp only [Bool.and_eq_true,Nat.ble_eq,Nat.blt_eq,Nat.beq_eq] at hc;obtain ⟨⟨⟨⟨b0,b1⟩,b2⟩,b3⟩,b4⟩:=hc;simp only [AV.rel] at hs hx;subst hs;obtain ⟨-,rfl⟩:=hx;obtain ⟨zv,z1,z2⟩:=T.ZW hT hei { w with drawn:=w.drawn+1};have hzs:zv.cells.size=ei.size:=by have:=Qe (Qt (z2 X));rw [<-b3,this];simp
   obtain ⟨c,c1,c2⟩:=yL (P:=P) (ty:=ty) (k:=k) hT hsi hxi hei hsd hxd b0 b1 b2 b4 z1;have hrel:AV.QH X (YI ei.zero.cellsOf (n*ei.size)) (Builtin.zeroCells zv.cells n).toList:=by have:=J5 (X:=X) (c:=zv.cells) (Qt (z2 X)) (n*ei.size) (.inr (by rw [hzs];exact b4));simpa only [Builtin.zeroCells,hzs] using this
   have hsz:(#[]++Builtin.zeroCells zv.cells n++Builtin.zeroCells zv.cells (c-n)).size=c*ei.size:=by simp only [Array.size_append,Builtin.zeroCells,Array.size_map,Array.size_range,hzs,List.size_toArray,List.length_nil,Nat.zero_add,<-Nat.add_mul];congr 1;omega
   have hg:=Jg hH h0 hn (old:=[]) (o' :=[]) (n' :=(Builtin.zeroCells zv.cells n).toList) (elem:=elem) (rest:=Builtin.zeroCells zv.cells (c-n)) (by simp) hrel (w.drawn+1);simp only [Array.toArray_toList] at hg;refine ⟨_,_,_,c2,Ext.Zr hbn,?_,hg,below_grown h0 _ _,λb hb hlt=>⟨hold _ b hb hlt,Tr.Q0 _ _ (by omega)⟩,by simp,hadd _⟩;simp only [AV.rel];exact ⟨_,0,c,Ext.add_same _ _ _,rfl,Nat.le_refl _,c1,by simp only [Nat.zero_add];exact Nat.le_of_eq hsz.symm,λ_=>rfl,λhq=>by cases hq⟩
 rename_i hxd;split at h
 case h_2=>cases h
 rename_i elem hsd;split at h
 case h_1=>cases h
 rename_i ei hei;split at h
 case h_1=>cases h
 rename_i n new hfirst;cases hc:(Nat.ble n 1048576&&Nat.ble ei.bytes 65536&&new.all AV.cell&&Nat.beq ei.zero.cellsOf.length ei.size) with
 |false=>rw [hc] at h;cases h
 |true=>
  rw [hc] at h;simp only [cond_true] at h;simp only [Bool.and_eq_true,Nat.ble_eq,Nat.beq_eq] at hc;obtain ⟨⟨⟨b1,b2⟩,b3⟩,b4⟩:=hc;obtain ⟨f1,⟨vs,f2,f3⟩,f4⟩:=YJ (P:=P) hH hfirst hx;obtain ⟨_,⟨vs',f2',f3'⟩,_⟩:=YJ (P:=P) (Q0m hH) hfirst hx;obtain ⟨zv,z1,z2⟩:=T.ZW hT hei { w with drawn:=w.drawn+1};have hzs:zv.cells.size=ei.size:=by have:=Qe (Qt (z2 X));rw [<-b4,this];simp
  have restSize:∀k,(Builtin.zeroCells zv.cells k).size=k*ei.size:=λk=>by simp [Builtin.zeroCells,hzs]
  have newSize:vs'.length=n*ei.size:=by rw [<-Qe f3',f4]
  have grows:∀{base:Option Addr} {len cap:Nat} {old:List AV} {ov:List Value},u= .slice base len cap->len<=1048576->¬len+n<=cap->(Builtin.firstCells ei.size len (.slice base len cap)).run P { w with drawn:=w.drawn+1}= .ok ov.toArray { w with drawn:=w.drawn+1}->
   AV.QH X old ov->old.length=len*ei.size->∃c,len+n<=c/\(Builtin.append_ #[sT,xT] ty #[u,z]).run P w= .ok (.slice (some ⟨w.heap.size,0,none⟩) (len+n) c) (grown w (.cells (ov.toArray++vs'.toArray++Builtin.zeroCells zv.cells (c-(len+n))) elem) (w.drawn+1))/\
    (ov.toArray++vs'.toArray++Builtin.zeroCells zv.cells (c-(len+n))).size=c*ei.size:=by
   intro base len cap old ov hu hlen hcap hfo hro hlo;subst hu;obtain ⟨c,c1,c2⟩:=yM (P:=P) (ty:=ty) hT hsi hxi hei hsd hxd f1 f2' hfo hcap (by omega) b2 z1;refine ⟨c,c1,c2,?_⟩;have hov:ov.length=len*ei.size:=by rw [<-Qe hro,hlo]
   simp only [Array.size_append,List.size_toArray,restSize,hov,newSize,<-Nat.add_mul];congr 1;omega
  split at h;simp only [AV.rel] at hs;subst hs;cases hz:Nat.beq n 0 with
  |true=>
   rw [hz] at h;cases h;have hz' :n=0:=by simpa using hz
   subst hz';refine ⟨X, .slice none 0 0,w,?_,Ext.le.refl X,by simp only [AV.rel],hH,Below.refl _ _,λb hb _=>⟨hb,rfl⟩,Nat.le_refl _,hn⟩;exact run_append_fits (len:=0) (cap:=0) hT hsi hxi hei hsd hxd f1 f2 (Nat.le_refl 0) (λa ha=>by cases ha) (λ_=>rfl)
  |false=>
   rw [hz] at h;simp only [cond_false,sNat_eq,Option.some.injEq] at h;subst h;have hz' :n≠0:=λe=>by subst e;cases hz
   obtain ⟨c,c1,c2,c3⟩:=grows (base:=none) (len:=0) (cap:=0) (old:=[]) (ov:=[]) rfl (by omega) (by omega) rfl (by simp) (by simp);simp only [Nat.zero_add] at c1 c2 c3;refine ⟨_,_,_,c2,Ext.Zr hbn,?_,Jg hH h0 hn (old:=[]) (o' :=[]) (by simp) f3' _,below_grown h0 _ _,λb hb hlt=>⟨hold _ b hb hlt,Tr.Q0 _ _ (by omega)⟩,by simp,hadd _⟩;simp only [AV.rel];exact ⟨_,0,c,Ext.add_same _ _ _,rfl,Nat.le_refl _,c1,by simp only [Nat.zero_add];exact Nat.le_of_eq c3.symm,λ_=>rfl,λhq=>by cases hq⟩
  . rename_i b o len cap es ex;cases hc:(Nat.beq es ei.size&&Nat.ble len 1048576) with
    |false=>rw [hc] at h;cases h
    |true=>
     rw [hc] at h;simp only [cond_true] at h;simp only [Bool.and_eq_true,Nat.ble_eq,Nat.beq_eq] at hc;obtain ⟨d1,d2⟩:=hc;subst d1;have hs' :=hs;simp only [AV.rel] at hs;obtain ⟨p,o',c,hp,rfl,g1,g2,g3,g4,g5⟩:=hs;cases hfit:Nat.ble (len+n) cap with
     |true=>
      rw [hfit] at h;simp only [cond_true] at h;have hfit' :len+n<=cap:=by simpa using hfit
      cases hz:Nat.beq n 0 with
      |true=>
       rw [hz] at h;cases h;have hz' :n=0:=by simpa using hz
       subst hz';have hvs:vs=[]:=List.eq_nil_of_length_eq_zero (by rw [<-Qe f3,f4];simp);subst hvs;refine ⟨X, .slice (some ⟨p.blk,o',none⟩) (len+0) c,w,?_,Ext.le.refl X,hs',hH,Below.refl _ _,λb hb _=>⟨hb,rfl⟩,Nat.le_refl _,hn⟩;exact run_append_fits hT hsi hxi hei hsd hxd f1 f2 (by omega) (λa ha=>rfl) (λhq=>by cases hq)
      |false=>
       rw [hz] at h;simp only [cond_false] at h;split at h;rename_i cs el ex' pl hb;cases hk:((Nat.blt 0 cap||ex)&&Nat.ble (o+(len+n)*ei.size) cs.length) with
       |false=>rw [hk] at h;cases h
       |true=>rw [hk] at h;simp only [cond_true,sNat_eq,Option.some.injEq] at h;subst h;simp only [Bool.and_eq_true,Bool.or_eq_true,Nat.blt_eq,Nat.ble_eq] at hk;have ho:o' =p.base+o:=g4 (by rcases hk.1 with hk|hk;exact .inl hk;exact .inr hk);subst ho;have hmul:(len+n)*ei.size=len*ei.size+n*ei.size:=Nat.add_mul _ _ _;obtain ⟨w',e1,e2,e3⟩:=Z4 (P:=P) hp new vs 0 (o+len*ei.size) cs H w hH hb f3 b3 (by rw [f4];omega);refine ⟨X, .slice (some ⟨p.blk,p.base+o,none⟩) (len+n) c,w',?_,Ext.le.refl X,?_,e2,e3,λq hq _=>⟨hq,Tr.Q0 _ _ (QZ hp hq)⟩,Nat.le_refl _,hn⟩;refine run_append_fits hT hsi hxi hei hsd hxd f1 f2 (by omega) (λa ha=>?_) (λhq=>by cases hq);cases ha;rw [QO,Nat.add_assoc];exact e1;simp only [AV.rel];exact ⟨p,p.base+o,c,hp,rfl,hfit',g2,g3,λ_=>rfl,g5⟩
       cases h
     |false=>
      rw [hfit] at h;simp only [cond_false] at h;have hfit' :¬len+n<=cap:=λhle=>by rw [Nat.ble_eq_true_of_le hle] at hfit;cases hfit
      split at h;cases h;rename_i old hold';cases hex:ex with
      |true=>subst hex;simp only [cond_true,sNat_eq,Option.some.injEq] at h;subst h;have hcc:=g5 rfl;subst hcc;obtain ⟨ov,k1,k2,k3⟩:=ql (P:=P) (Q0m hH) hold' hs';obtain ⟨c',c1,c2,c3⟩:=grows rfl d2 hfit' k1 k2 k3;refine ⟨_,_,_,c2,Ext.Zr hbn,?_,Jg hH h0 hn k2 f3' _,below_grown h0 _ _,λb hb hlt=>⟨hold _ b hb hlt,Tr.Q0 _ _ (by omega)⟩,by simp,hadd _⟩;simp only [AV.rel];exact ⟨_,0,c',Ext.add_same _ _ _,rfl,Nat.le_refl _,c1,by simp only [Nat.zero_add];exact Nat.le_of_eq c3.symm,λ_=>rfl,λhq=>by cases hq⟩
      |false=>
       subst hex;simp only [cond_false] at h;split at h
       case h_2=>cases h
       rename_i cs el ex' pl hb;cases hk:(Nat.beq el elem&&old.all AV.cell) with
       |false=>rw [hk] at h;cases h
       |true=>
        rw [hk] at h;simp only [cond_true,sNat_eq,Option.some.injEq] at h;subst h;simp only [Bool.and_eq_true,Nat.beq_eq] at hk;obtain ⟨k0,kc⟩:=hk;subst k0;have hkill:=hH.kill b;have hown:=hH.own b _ p hb rfl hp;obtain ⟨ov,k1,k2,k3⟩:=ql (P:=P) (Q0m hH) hold' hs';obtain ⟨ov',k1',k2',_⟩:=ql (P:=P) hH hold' hs';have hbne:b≠next:=λe=>by subst e;rw [hbn] at hp;cases hp
        by_cases hfc:len+n<=c
        . obtain ⟨cc,fr,⟨el',m1,mel⟩,m2,m3,m4,m5,m6,m7⟩:=hH.obj b _ p hb hp;have mel' :el' =el:=by rcases mel with h|h<;>first|exact h|cases h
          rw [mel'] at m1;have hplt:=hH.lt b p hp;have hmul:(len+n)*ei.size<=c*ei.size:=Nat.mul_le_mul_right _ hfc;have hstores:∀(vs:List Value) (i:Nat) (q:Array Value) (w1:World),w1.heap[p.blk]?=some (.cells q el fr)->q.size=p.n->(∀v∈vs,v.oneCell' =true)->o' +len*ei.size+i+vs.length<=p.n->
           ∃w2 q2,(storeCells ⟨p.blk,o' +len*ei.size,none⟩ vs i).run P w1= .ok () w2/\w2.heap[p.blk]?=some (.cells q2 el fr)/\q2.size=p.n/\(∀j,j<o' +len*ei.size+i->q2[j]?=q[j]?)/\(∀j v,vs[j]?=some v->q2[o' +len*ei.size+i+j]?=some v)/\
            w2.heap.size=w1.heap.size/\(∀k,k≠p.blk->w2.heap[k]?=w1.heap[k]?)/\w2.os=w1.os/\w2.tape=w1.tape/\w2.output=w1.output:=by
           intro vs;induction vs with
           |nil=>intro i q w1 hq hqs _ _;exact ⟨w1,q,rfl,hq,hqs,λ_ _=>rfl,by simp,rfl,λ_ _=>rfl,rfl,rfl,rfl⟩
           |cons v vs ih=>
            intro i q w1 hq hqs hone hlen;simp only [List.length_cons] at hlen;have hlt:o' +len*ei.size+i<q.size:=by omega
            have hcell:w1.cell? ⟨p.blk,o' +len*ei.size+i,none⟩=some q[o' +len*ei.size+i]:=by unfold World.cell?;simp only [hq];simp [hlt]
            have hfz:w1.frozen? ⟨p.blk,o' +len*ei.size+i,none⟩=false:=by
             obtain ⟨lo,hi⟩:=fr;unfold World.frozen?;simp only [hq];rcases m6 with m6|m6|m6;cases m6;have:¬lo<=o' +len*ei.size+i:=by simp only at m6;omega
             simp [this];simp only [Prod.mk.injEq] at m6;obtain ⟨rfl,rfl⟩:=m6;simp
            have hset:(w1.setCell ⟨p.blk,o' +len*ei.size+i,none⟩ v).heap[p.blk]?=some (.cells (q.setIfInBounds (o' +len*ei.size+i) v) el fr):=by simp only [World.setCell,Array.getElem?_modify,if_true,hq];rfl
            obtain ⟨w2,q2,r1,r2,r3,r4,r5,r6,r7,r8,r9,r10⟩:=ih (i+1) _ (w1.setCell ⟨p.blk,o' +len*ei.size+i,none⟩ v) hset (by simpa using hqs) (λy hy=>hone y (by simp [hy])) (by omega);refine ⟨w2,q2,?_,r2,r3,λj hj=>?_,λj y hj=>?_,by rw [r6];simp [World.setCell],λk hk=>by rw [r7 k hk,Below.heap_setCell _ _ _ _ hk],by rw [r8];rfl,by rw [r9];rfl,by rw [r10];rfl⟩;simp only [storeCells,Sem.run_bind];rw [QO,run_store P w1 _ v _ (hone v (by simp)),hcell];simp only [hfz,Bool.false_eq_true,if_false,Result.andThen_ok];exact r1;rw [r4 j (by omega),Array.getElem?_setIfInBounds_ne (by omega)];cases j with
            |zero=>simp at hj;subst hj;rw [Nat.add_zero,r4 _ (by omega)];rw [Array.getElem?_setIfInBounds_self_of_lt hlt]
            |succ j=>have:=r5 j y (by simpa using hj);rw [<-this];congr 1;omega
          have hvone:∀v∈vs,v.oneCell' =true:=by
           intro v hv;obtain ⟨i,hi⟩:=List.getElem?_of_mem hv;have hlt:i<vs.length:=(List.getElem?_eq_some_iff.1 hi).1
           have hlt2:i<new.length:=by rw [Qe f3];exact hlt
           obtain ⟨v',hv',hr⟩:=Yh f3 (List.getElem?_eq_getElem hlt2);rw [hi] at hv';cases hv';exact Q2y hr (List.all_eq_true.1 b3 _ (List.getElem_mem hlt2))
          have hvl:vs.length=n*ei.size:=by rw [<-Qe f3,f4]
          have hsum:(len+n)*ei.size=len*ei.size+n*ei.size:=Nat.add_mul _ _ _;obtain ⟨w2,q2,r1,r2,r3,r4,r5,r6,r7,r8,r9,r10⟩:=hstores vs 0 cc w m1 m2 hvone (by rw [hvl];omega);have hbel:Below n0 w w2:=⟨r8,r9,r10,by omega,λk hk=>r7 k (by omega)⟩;refine ⟨X.add next ⟨p.blk,o',p.n⟩, .slice (some ⟨p.blk,o',none⟩) (len+n) c,w2,?_,Ext.Zr hbn,?_,?_,hbel,λq hq hlt=>⟨hold _ q hq hlt,?_⟩,by simp,hadd _⟩;refine run_append_fits hT hsi hxi hei hsd hxd f1 f2 hfc (λa ha=>?_) (λhq=>by cases hq);cases ha;rw [QO];exact r1;simp only [AV.rel];exact ⟨_,o',c,Ext.add_same _ _ _,rfl,Nat.le_refl _,hfc,g3,λ_=>rfl,λhq=>by cases hq⟩
          . have hle:=Ext.Zr (p:=⟨p.blk,o',p.n⟩) hbn;have keyμ:∀i q,(X.add next ⟨p.blk,o',p.n⟩).V i=some q->(i=next/\q=⟨p.blk,o',p.n⟩)\/(i≠next/\X.V i=some q):=by
             intro i q hq;by_cases e:i=next
             subst e;rw [Ext.add_same] at hq;exact .inl ⟨rfl,(Option.some.inj hq).symm⟩
             rw [Ext.QL e] at hq;exact .inr ⟨e,hq⟩
            have alive:∀i ob q,i≠next->((H.set b .dead).set next (QN old new el pl)).get i=some ob->ob.live=true->X.V i=some q->H.get i=some ob/\q.blk≠p.blk:=by intro i ob q hi hg hl hq;rw [Tr.Q0 _ _ hi] at hg;by_cases e:i=b;subst e;rw [Tr.get_set_same] at hg;cases hg;cases hl;rw [Tr.Q0 _ _ e] at hg;exact ⟨hg,λhk=>e (hH.inj i b _ _ _ _ hg hb hl rfl hq hp hk)⟩
            refine ⟨λi ob q hi hq=>?_,λi j o1 o2 q1 q2' hi hj l1 l2 hq1 hq2 e=>?_,λi q hq=>?_,λi ob q hi hl hq=>?_⟩;rcases keyμ i q hq with ⟨rfl,rfl⟩|⟨hi',hq'⟩;rw [Tr.get_set_same] at hi;cases hi;refine Zh hle (X:=X) ?_;rw [show (Place.mk p.blk o' p.n).blk=p.blk from rfl,r2];have hrel:=Zv k2' f3;have hovl:ov'.length=len*ei.size:=by rw [<-Qe k2',k3]
            refine ⟨q2,fr,⟨_,rfl, .inr rfl⟩,r3,?_,by simp,λi a ha=>?_,m6,m7⟩;simp only [List.length_append,k3,f4];omega;obtain ⟨v,hv,hr⟩:=Yh hrel ha;refine ⟨v,?_,hr⟩;show q2[o' +i]?=some v;by_cases hi:i<ov'.length;rw [List.getElem?_append_left hi] at hv;rw [r4 _ (by omega)];have hlen0:0<len:=by rcases Nat.eq_zero_or_pos len with e|e;rw [e,Nat.zero_mul] at hovl;omega;exact e
            have ho:=g4 (.inl (by omega));subst ho;unfold Qoj at hold';have hnz:Nat.beq len 0=false:=by
             cases hbb:Nat.beq len 0 with
             |false=>rfl
             |true=>have:len=0:=by simpa using hbb
                    omega
            simp only [hnz,cond_false] at hold';have hcs:Y9 H b=some cs:=by unfold Y9;rw [hb]
            rw [hcs] at hold';simp only at hold';cases hll:Nat.ble (o+len*ei.size) cs.length with
            |false=>rw [hll] at hold';cases hold'
            |true=>
             rw [hll] at hold';simp only [cond_true,Option.some.injEq] at hold';subst hold';have hll' :o+len*ei.size<=cs.length:=by simpa using hll
             have hfc2:(loadCells ⟨p.blk,p.base+o,none⟩ (len*ei.size)).run P w= .ok ov'.toArray w:=by simpa [Builtin.firstCells] using k1'
             have hcells:∀j,j<len*ei.size->w.cell? ((⟨p.blk,p.base+o,none⟩:Addr).add j)=some (cc.getD (p.base+o+j) undef):=by
              intro j hj;rw [QO];unfold World.cell?;simp only [m1];have hlt:p.base+o+j<cc.size:=by omega
              simp [hlt]
             rw [run_loadCells w _ _ (λj=>cc.getD (p.base+o+j) undef) hcells] at hfc2;have:ov' =(List.range (len*ei.size)).map λj=>cc.getD (p.base+o+j) undef:=by
              have:=(Result.ok.inj hfc2).1
              have:=congrArg Array.toList this;simpa using this.symm
             rw [this] at hv;have hi2:i<len*ei.size:=by omega
             simp only [List.getElem?_map,List.getElem?_range hi2,Option.map_some,Option.some.injEq] at hv;rw [<-hv];have hlt:p.base+o+i<cc.size:=by omega
             simp [hlt]
            rw [List.getElem?_append_right (by omega)] at hv;have:=r5 _ v hv;rw [<-this];congr 1;simp only [hovl];omega;by_cases hlv:ob.live=true;obtain ⟨hg,hne⟩:=alive i ob q hi' hi hlv hq';rw [r7 _ hne];exact Zh hle (hH.obj i ob q hg hq');cases ob<;>simp [Q7.live] at hlv;trivial;rcases keyμ i q1 hq1 with ⟨rfl,rfl⟩|⟨hi',hq1'⟩<;>rcases keyμ j q2' hq2 with ⟨rfl,rfl⟩|⟨hj',hq2'⟩;rfl;exact absurd e.symm (alive j o2 q2' hj' hj (Q7.JG l2) hq2').2
            exact absurd e (alive i o1 q1 hi' hi l1 hq1').2
            obtain ⟨hg1,_⟩:=alive i o1 q1 hi' hi l1 hq1';obtain ⟨hg2,_⟩:=alive j o2 q2' hj' hj (Q7.JG l2) hq2';exact hH.inj i j o1 o2 q1 q2' hg1 hg2 l1 l2 hq1' hq2' e;rw [r6];rcases keyμ i q hq with ⟨rfl,rfl⟩|⟨_,hq'⟩;exact hplt;exact hH.lt i q hq';rcases keyμ i q hq with ⟨rfl,rfl⟩|⟨hi',hq'⟩;exact hown;have hlv:ob.live=true:=by cases ob<;>simp [Q7.rw] at hl<;>rfl
            exact hH.own i ob q (alive i ob q hi' hi hlv hq').1 hl hq'
          rw [Tr.Q0 _ _ (by omega),Tr.Q0 _ _ (QZ hp hq)]
        obtain ⟨c',c1,c2,c3⟩:=grows rfl d2 hfc k1 k2 k3;have hgs:=Jg (elem:=el) (rest:=Builtin.zeroCells zv.cells (c' -(len+n))) hkill h0 hn k2 f3' (w.drawn+1);refine ⟨X.add next ⟨w.heap.size,0,(ov.toArray++vs'.toArray++Builtin.zeroCells zv.cells (c' -(len+n))).size⟩,_,_,c2,Ext.Zr hbn,?_,?_,below_grown h0 _ _,λq hq hlt=>⟨hold _ q hq hlt,?_⟩,by simp,hadd _⟩;simp only [AV.rel];exact ⟨_,0,c',Ext.add_same _ _ _,rfl,Nat.le_refl _,c1,by simp only [Nat.zero_add];exact Nat.le_of_eq c3.symm,λ_=>rfl,λhq=>by cases hq⟩
        . refine ⟨λi ob q hi hq=>?_,λi j o1 o2 q1 q2 hi hj l1 l2 hq1 hq2 e=>?_,hgs.lt,λi ob q hi hl hq=>?_⟩
          . by_cases e:i=next
            subst e;rw [Tr.get_set_same] at hi;cases hi;obtain ⟨x1,x2,x3,x4,x5,x6,x7,x8,x9⟩:=hgs.obj i _ q (Tr.get_set_same _ _ _) hq;exact ⟨x1,x2,x3,x4,x5,x6,x7,x8,λ_=>x9 rfl⟩;rw [Tr.Q0 _ _ e] at hi;exact hgs.obj i ob q (by rw [Tr.Q0 _ _ e];exact hi) hq
          . have conv:∀k ok,((H.set b .dead).set next (QN old new el pl)).get k=some ok->ok.live=true->∃ok',((H.set b .dead).set next (QN old new el true)).get k=some ok' /\ok'.live=true:=by
             intro k ok hk hlk;by_cases e:k=next
             subst e;exact ⟨_,Tr.get_set_same _ _ _,rfl⟩;rw [Tr.Q0 _ _ e] at hk;exact ⟨ok,by rw [Tr.Q0 _ _ e];exact hk,hlk⟩
            have conv2:∀k ok,((H.set b .dead).set next (QN old new el pl)).get k=some ok->ok.Q5o=true->∃ok',((H.set b .dead).set next (QN old new el true)).get k=some ok' /\ok'.Q5o=true:=by
             intro k ok hk hlk;by_cases e:k=next
             subst e;exact ⟨_,Tr.get_set_same _ _ _,rfl⟩;rw [Tr.Q0 _ _ e] at hk;exact ⟨ok,by rw [Tr.Q0 _ _ e];exact hk,hlk⟩
            obtain ⟨a1,t1,t2⟩:=conv i o1 hi l1
            obtain ⟨a2,t3,t4⟩:=conv2 j o2 hj l2;exact hgs.inj i j a1 a2 q1 q2 t1 t3 t2 t4 hq1 hq2 e
          by_cases e:i=next
          subst e;exact hgs.own i _ q (Tr.get_set_same _ _ _) rfl hq;rw [Tr.Q0 _ _ e] at hi;exact hgs.own i ob q (by rw [Tr.Q0 _ _ e];exact hi) hl hq
        rw [Tr.Q0 _ _ (by omega),Tr.Q0 _ _ (QZ hp hq)]
  cases h
def Ext.num (X:Ext) (n:Nat) (p:Place) (z:Int):Ext:=⟨λi=>if i=n then some p else X.V i,⟨λi=>if i=n then z else X.O.int i,X.O.str⟩⟩
theorem Ext.Qn1 {X:Ext} {n:Nat} {p:Place} {z:Int} (h:X.V n=none):X.le (X.num n p z):=by
 have hne:∀b q,X.V b=some q->b≠n:=λb q hq e=>by subst e;rw [h] at hq;cases hq
 exact ⟨λb q hq=>by simp only [Ext.num,if_neg (hne b q hq)];exact hq,λi ⟨q,hq⟩=>by simp only [Ext.num,if_neg (hne i q hq),and_self]⟩
theorem Q7l {X:Ext}:∀{l:List AV} {s:List E} {vs:List Value},Yg l=some s->AV.QH X l vs->(∀t∈s,t.ok X.dom)/\vs=s.map (λt=>Value.int .u8 (t.den X.O))/\∀t∈s,0<=t.den X.O/\t.den X.O<256
 |[],s,vs,h,hr=>by simp only [Yg,Option.some.injEq] at h;subst h;rw [rels_nil.1 hr];exact ⟨λt ht=>(by cases ht),rfl,λt ht=>(by cases ht)⟩
 |a::l,s,[],h,hr=>absurd hr not_rels_cons_nil
 |a::l,s,v::vs,h,hr=>by simp only [rels_cons_cons] at hr;simp only [Yg] at h;split at h;cases h;rename_i e he;split at h;cases h;rename_i s' hs;cases h;obtain ⟨k0,k1,k2⟩:=Jl he hr.1;obtain ⟨g1,g2,g3⟩:=Q7l hs hr.2;refine ⟨λt ht=>?_,by rw [k1,g2];rfl,λt ht=>?_⟩;rcases List.mem_cons.1 ht with rfl|ht;exact k0;exact g1 t ht;rcases List.mem_cons.1 ht with rfl|ht;exact E.Y6 k2 _;exact g3 t ht
theorem Q3p {X:Ext}:∀{l:List AV} {s:List E},Yg l=some s->s.length=l.length/\∀(i:Nat) (a:AV),l[i]?=some a->∃e,s[i]?=some e/\Qir a=some e
 |[],s,h=>by simp only [Yg,Option.some.injEq] at h;subst h;exact ⟨rfl,λi a hi=>by simp at hi⟩
 |a::l,s,h=>by
  simp only [Yg] at h;split at h;cases h;rename_i e he;split at h;cases h;rename_i s' hs;cases h;obtain ⟨g1,g2⟩:=Q3p (X:=X) hs;refine ⟨by simp [g1],λi a' hi=>?_⟩;cases i with
  |zero=>simp only [List.getElem?_cons_zero,Option.some.injEq] at hi;subst hi;exact ⟨e,rfl,he⟩
  |succ i=>simp only [List.getElem?_cons_succ] at hi ⊢;exact g2 i a' hi
theorem Q2o {P:Program} {T:Tab} (hT:T.OK P) {c:Ctx} {X:Ext} (hc:c.okN X.dom X.O) {n0:Nat} {H:Tr Q7} {next:Nat} {w:World} (hH:Qq X n0 H w) (h0:n0<=w.heap.size) (hn:∀b,next<=b->X.V b=none) {sT xT ty:TypeId} {s x:AV} {u z:Value} {r:HR}
 (h:Q5m T c H next sT xT s x=some r) (hs:s.rel X u) (hx:x.rel X z):HS P X n0 H next w (Builtin.append_ #[sT,xT] ty #[u,z]) r:=by
 unfold Q5m at h;split at h
 case h_2=>cases h
 rename_i b o len cap es ex st;split at h
 case h_2=>cases h
 rename_i si xi hsi hxi;split at h
 case h_2=>cases h
 rename_i elem hsd hxd;split at h
 case h_2=>cases h
 rename_i ei hei;split at h
 case h_2=>cases h
 rename_i lo hi hed hlo hhi;cases hb:(Nat.beq ei.size 1&&(Nat.beq es 1&&(Nat.ble ei.bytes 65536&&(Nat.beq ei.zero.cellsOf.length 1&&(Nat.ble hi 1000000&&(Nat.ble 1 lo&&(Nat.ble 1 len&&(Nat.ble len 1000000&&(Nat.blt cap (len+lo)&&!ex))))))))) with
 |false=>rw [hb] at h;cases h
 |true=>
 rw [hb] at h;simp only [Bool.and_eq_true,Nat.beq_eq,Nat.ble_eq,Nat.blt_eq,Bool.not_eq_true'] at hb;obtain ⟨q1,q2,q3,q4,q5,q6,q7,q8,q9,q10⟩:=hb;subst q2 q10;simp only [cond_true] at h;split at h
 case h_2=>cases h
 rename_i old cs el ex' pl hold hbo;cases hk:(Nat.beq el elem&&old.all AV.cell) with
 |false=>rw [hk] at h;cases h
 |true=>
 rw [hk] at h;simp only [Bool.and_eq_true,Nat.beq_eq] at hk;obtain ⟨k1,k2⟩:=hk;subst k1;simp only [cond_true] at h;split at h
 case h_2=>cases h
 rename_i bs hbs;simp only [sNat_eq,Option.some.injEq] at h;subst h;have hs0:=hs;simp only [AV.rel] at hs0;obtain ⟨p0,oo0,cc0,hs1,hs2,-⟩:=hs0;have hs0:(AV.slice b o len cap 1 false).rel X (.slice (some ⟨p0.blk,oo0,none⟩) len cc0):=hs2▸hs
 clear hs1;simp only [AV.rel] at hx;obtain ⟨x1,x2,rfl⟩:=hx;have hiv:=E.Qez hc.2 st.len;have i1:=hiv.1 _ hlo;have i2:=hiv.2 _ hhi;unfold ST.fit at x2;rw [x2] at i1 i2;generalize hL:st.den X.O=L at x2 i1 i2;have hlo' :lo<=L.length:=by have:((lo:Nat):Int)<=(L.length:Int):=i1;omega
 have hhi' :L.length<=hi:=by have:(L.length:Int)<=((hi:Nat):Int):=i2;omega
 let ls:List E:=L.map λb=>E.lit (b.toNat:Int)
 have hls:S.bytes X.O ls=L:=by
  simp only [S.bytes,ls,List.map_map]
  conv=>rhs;rw [<-List.map_id L]
  apply List.map_congr_left;intro b _;simp [E.den]
 have hx' :(AV.str ls).rel X (.string ⟨L.toArray⟩):=by simp only [AV.rel];refine ⟨λt ht=>?_,by rw [hls]⟩;obtain ⟨b,-,rfl⟩:=List.mem_map.1 ht;have:=b.toNat_lt;exact ⟨trivial,by simp only [E.den];omega,by simp only [E.den];omega⟩
 have hlen:ls.length=L.length:=by simp [ls]
 have h' :Q28 T H next sT xT (.slice b o len cap 1 false) (.str ls)=some ⟨.slice next 0 (len+L.length) (len+L.length) 1 false,(H.set b .dead).set next (QN old (ls.map (.int .u8)) el pl),next+1⟩:=by
  have c1:Nat.ble L.length 1048576=true:=Nat.ble_eq_true_of_le (by omega);have c2:(ls.map (AV.int .u8)).all AV.cell=true:=by simp [AV.cell]
  have c3:Nat.ble len 1048576=true:=Nat.ble_eq_true_of_le (by omega);have c4:Nat.ble (len+L.length) cap=false:=by
   cases hh:Nat.ble (len+L.length) cap with
   |false=>rfl
   |true=>have:=Nat.le_of_ble_eq_true hh;omega
  have c5:Nat.ble ei.bytes 65536=true:=Nat.ble_eq_true_of_le q3;unfold Q28;simp only [hsi,hxi,hxd,hsd,hei,Q24,q1,Nat.beq_refl,cond_true,hlen,c1,c2,c3,c4,c5,q4,hold,hbo,k2,Bool.and_self,cond_false,sNat_eq]
 have hbn:X.V next=none:=hn next (Nat.le_refl _)
 obtain ⟨Y,v,w',r1,r2,r3,r4,r5,r6,r7,r8⟩:=jh (ty:=ty) hT hH h0 hn h' hs hx';simp only [AV.rel] at r3;obtain ⟨p,o',cc,s1,rfl,s2,s3,s4,s5,-⟩:=r3;have ho:o' =p.base+0:=s5 (.inl (by omega));subst ho;have hYn:Y.V (next+1)=none:=r8 _ (by simp);have hle:=Ext.Qn1 (p:=p) (z:=((len+L.length:Nat):Int)) hYn;have hplt:=r4.lt next p s1
 obtain ⟨vs0,-,hrel0,hl0⟩:=ql (P:=P) hH hold hs0;obtain ⟨b1,-,b3⟩:=Q7l hbs hrel0;obtain ⟨b4,b5⟩:=Q3p (X:=X) hbs;rw [Nat.mul_one] at hl0;have hXZ:X.le (Y.num (next+1) p ((len+L.length:Nat):Int)):=r2.trans hle;have hbsd:S.bytes (Y.num (next+1) p ((len+L.length:Nat):Int)).O bs=S.bytes X.O bs:=S.Jk hXZ.O b1
 have hstd:st.den (Y.num (next+1) p ((len+L.length:Nat):Int)).O=L:=by rw [ST.Qc hXZ.O x1,hL]
 have hden:(ST.cat (.bs bs) st).den (Y.num (next+1) p ((len+L.length:Nat):Int)).O=S.bytes X.O bs++L:=by simp only [ST.den,hbsd,hstd]
 have hbl:(S.bytes X.O bs).length=len:=by simp only [S.bytes,List.length_map,b4,hl0]
 have hdl:((ST.cat (.bs bs) st).den (Y.num (next+1) p ((len+L.length:Nat):Int)).O).length=len+L.length:=by rw [hden,List.length_append,hbl]
 have hgn:((H.set b .dead).set next (QN old (ls.map (.int .u8)) el pl)).get next=some (QN old (ls.map (.int .u8)) el pl):=by rw [Tr.Z9,if_pos rfl]
 obtain ⟨cv,fr,⟨el',m1,mel⟩,m2,m3,-,m5,m6,-⟩:=r4.obj next _ p hgn s1
 have mel' :el' =el:=by rcases mel with h|h<;>first|exact h|cases h
 subst mel';have hnl:(old++ls.map (AV.int .u8)).length=len+L.length:=by simp [hl0,ls]
 have hobj:ji (Y.num (next+1) p ((len+L.length:Nat):Int)) (.bytes (.cat (.bs bs) st) (next+1) el') p w'.heap[p.blk]?:=by
  refine ⟨⟨λt ht=>E.Ql hXZ.dom (b1 t ht),ST.Ql hXZ.dom x1⟩,?_,⟨p,by simp [Ext.num]⟩,by rw [hdl];simp [Ext.num],cv,fr,m1,m2,by rw [hdl];omega,λi bb hi=>?_,?_,by rw [hdl];omega⟩;unfold ST.fit;rw [hdl];simp only [ST.len,E.den,Zp];rw [E.Qc hXZ.O (ST.Q34 x1),x2,b4,hl0];show IntKind.i64.wrap ((len:Int)+(L.length:Int))=_;rw [Q6];omega;rw [hden] at hi;by_cases hlt:i<len;rw [List.getElem?_append_left (by omega)] at hi;have ho:(old++ls.map (AV.int .u8))[i]?=old[i]?:=List.getElem?_append_left (by omega);obtain ⟨a,ha⟩:∃a,old[i]?=some a:=⟨old[i]'(by omega),by simp [show i<old.length by omega]⟩
  obtain ⟨vv,hv,hr⟩:=m5 i a (by rw [ho];exact ha);obtain ⟨e,he,hbe⟩:=b5 i a ha;have e1:=(Jl hbe hr).2.1
  rw [hv,e1,E.Qc r2.O (b1 e (List.mem_of_getElem? he))];simp only [S.bytes,List.getElem?_map,he,Option.map_some,Option.some.injEq] at hi;rw [<-hi];have hb3:=b3 e (List.mem_of_getElem? he);congr 2;rw [UInt8.toNat_ofNat'];omega;rw [List.getElem?_append_right (by omega),hbl] at hi;have ho:(old++ls.map (AV.int .u8))[i]?=some (.int .u8 (.lit (bb.toNat:Int))):=by rw [List.getElem?_append_right (by omega),hl0];simp [ls,hi]
  obtain ⟨vv,hv,hr⟩:=m5 i _ ho;simp only [AV.rel] at hr;rw [hv,hr.2];rfl;rcases m6 with m6|m6|m6;cases m6;exact .inl m6
  exact .inr m6
 have hget:∀i,i≠next->i≠next+1->(((H.set b .dead).set next (.bytes (.cat (.bs bs) st) (next+1) el')).set (next+1) .dead).get i=((H.set b .dead).set next (QN old (ls.map (.int .u8)) el' pl)).get i:=by intro i h1 h2;rw [Tr.Z9,if_neg h2,Tr.Z9,if_neg h1,Tr.Z9 (H.set b .dead),if_neg h1]
 have hg1:(((H.set b .dead).set next (.bytes (.cat (.bs bs) st) (next+1) el')).set (next+1) .dead).get (next+1)=some .dead:=by rw [Tr.Z9,if_pos rfl]
 have hg0:(((H.set b .dead).set next (.bytes (.cat (.bs bs) st) (next+1) el')).set (next+1) .dead).get next=some (.bytes (.cat (.bs bs) st) (next+1) el'):=by rw [Tr.Z9,if_neg (by omega),Tr.Z9,if_pos rfl]
 have hμ:∀i q,i≠next+1->(Y.num (next+1) p ((len+L.length:Nat):Int)).V i=some q->Y.V i=some q:=λi q h1 h2=>by simpa only [Ext.num,if_neg h1] using h2
 have back:∀i oo,(((H.set b .dead).set next (.bytes (.cat (.bs bs) st) (next+1) el')).set (next+1) .dead).get i=some oo->oo.live=true->i≠next+1/\∃oo',((H.set b .dead).set next (QN old (ls.map (.int .u8)) el' pl)).get i=some oo' /\oo'.live=true/\(oo.rw=true->oo'.rw=true)/\(oo.Q5o=true->oo'.Q5o=true):=by
  intro i oo hi hlv;by_cases e1:i=next+1
  subst e1;rw [hg1] at hi;cases hi;cases hlv;refine ⟨e1,?_⟩;by_cases e0:i=next
  subst e0;exact ⟨_,hgn,rfl,λ_=>rfl,λ_=>rfl⟩;rw [hget i e0 e1] at hi;exact ⟨oo,hi,hlv,λh=>h,λh=>h⟩
 refine ⟨Y.num (next+1) p ((len+L.length:Nat):Int),_,w',r1,hXZ,?_,?_,r5,λi hi hlt=>?_,(by show next<=next+2;omega),λi hi=>?_⟩
 . simp only [AV.rel];refine ⟨p,len+L.length,cc,by simp only [Ext.num,if_neg (show ¬next=next+1 by omega)];exact s1, .inl rfl,by omega,s3,by omega,⟨p,by simp [Ext.num]⟩,by simp [Ext.num]⟩
 . refine ⟨λi oo q hi hq=>?_,λi i' oo oo' q q' hi hi' hlv hlv' hq hq' he=>?_,λi q hq=>?_,λi oo q hi hr hq=>?_⟩
   . by_cases e1:i=next+1
     subst e1;rw [hg1] at hi;cases hi;trivial;have hq' :=hμ i q e1 hq;by_cases e0:i=next
     subst e0;rw [hg0] at hi;cases hi;rw [s1] at hq';cases hq';exact hobj;rw [hget i e0 e1] at hi;exact Zh hle (r4.obj i oo q hi hq')
   obtain ⟨a1,o1,a2,a3,-⟩:=back i oo hi hlv;obtain ⟨a1',o1',a2',-,-,a3'⟩:=back i' oo' hi' (Q7.JG hlv');exact r4.inj i i' o1 o1' q q' a2 a2' a3 (a3' hlv') (hμ i q a1 hq) (hμ i' q' a1' hq') he
   . by_cases e1:i=next+1
     subst e1;simp only [Ext.num,if_true,Option.some.injEq] at hq;rw [<-hq];exact hplt;exact r4.lt i q (hμ i q e1 hq)
   have hlv:oo.live=true:=by cases oo<;>first|rfl|cases hr
   obtain ⟨a1,o1,a2,-,a4,-⟩:=back i oo hi hlv;exact r4.own i o1 q a2 (a4 hr) (hμ i q a1 hq)
 . obtain ⟨g1,g2⟩:=r6 i hi hlt;refine ⟨by simp only [Ext.num,if_neg (show ¬i=next+1 by omega)];exact g1,?_⟩;rw [<-g2];exact hget i (by omega) (by omega)
 have hi:next+2<=i:=hi
 simp only [Ext.num,if_neg (show ¬i=next+1 by omega)];exact r8 i (by show next+1<=i;omega)
end Go.Ax
namespace Go.Ax
open Go.RowKit
theorem Q23 {P:Program} {X:Ext} {n0:Nat} {H:Tr Q7} {w:World} (hH:Qq X n0 H w) {size m n:Nat} {x:AV} {l:List AV} {u:Value} (h:Q24 H size x=some (m,l)) (hx:x.rel X u) (hn:n<=m):
 ∃vs:List Value,(Builtin.firstCells size n u).run P w= .ok vs.toArray w/\AV.QH X (l.take (n*size)) vs:=by
 unfold Q24 at h;split at h;cases h;obtain rfl:n=0:=by omega
 simp only [AV.rel] at hx;subst hx;exact ⟨[],rfl,by simp⟩;rename_i b o len cap es ex;simp only [AV.rel] at hx;obtain ⟨p,o',c,hp,rfl,_,_,_,hoff,_⟩:=hx;cases hz:Nat.beq len 0 with
 |true=>
  rw [hz] at h;cases h;obtain rfl:n=0:=by omega
  exact ⟨[],by simp [Builtin.firstCells,loadCells,loadCellsFrom],by simp⟩
 |false=>
  rw [hz] at h;have hz' :len≠0:=λe=>by subst e;cases hz
  simp only [cond_false] at h;split at h;rename_i cs hcs;cases hl:Nat.ble (o+len*size) cs.length with
  |false=>rw [hl] at h;cases h
  |true=>
   rw [hl] at h;cases h;have ho:=hoff (.inl (by omega));subst ho;have hl' :o+m*size<=cs.length:=by simpa using hl
   have hmul:n*size<=m*size:=Nat.mul_le_mul_right _ hn;obtain ⟨vs,e1,e2⟩:=QS (P:=P) hH hcs hp (o:=o) (n:=n*size) (by omega);refine ⟨vs,by simpa [Builtin.firstCells] using e1,?_⟩;rw [List.take_take,Nat.min_eq_left hmul];exact e2
  cases h
 rename_i s;simp only [AV.rel] at hx;obtain ⟨ho,rfl⟩:=hx;cases hz:Nat.beq size 1 with
 |false=>rw [hz] at h;cases h
 |true=>
  rw [hz] at h;cases h;have hz' :size=1:=by simpa using hz
  subst hz';obtain ⟨_,⟨vs,e1,e2⟩,_⟩:=YJ (P:=P) (X:=X) hH (size:=1) (x:= .str s) (n:=s.length) (l:=s.map (.int .u8)) (u:= .string ⟨(S.bytes X.O s).toArray⟩) rfl (by simp only [AV.rel];exact ⟨ho,trivial⟩);refine ⟨vs.take n,?_,by rw [Nat.mul_one];exact Q0q n e2⟩;have hsz:({ data:=(S.bytes X.O s).toArray}:ByteArray).size=s.length:=by show (S.bytes X.O s).toArray.size=_;simp [S.bytes]
  have e1' :((({ data:=(S.bytes X.O s).toArray}:ByteArray).extract 0 s.length).data.map λb=>Value.int .u8 b.toNat)=vs.toArray:=(Result.ok.inj e1).1
  simp only [Builtin.firstCells,Sem.run_pure];congr 1;apply Array.ext';have e2' :=congrArg Array.toList e1';simp only [Array.toList_map,ByteArray.data_extract,Array.toList_extract,List.extract_eq_take_drop,Nat.sub_zero,List.drop_zero] at e2' ⊢;rw [<-e2',<-List.map_take,List.take_take,Nat.min_eq_left hn]
 cases h
noncomputable def Qlp (T:Tab) (H:Tr Q7) (next:Nat) (dT:TypeId) (dst src:AV):Option HR:=
 match T.ty dT with
 |none=>none
 |some di=>
  match di.desc with
  | .slice elem=>
   match T.ty elem with
   |none=>none
   |some ei=>
    match Q24 H ei.size src with
    |none=>none
    |some (m,l)=>
     match dst with
     | .nilslice=>some ⟨.int .i64 (.lit (.ofNat 0)),H,next⟩
     | .slice b o len _ _ _=>
      QG (Nat.min m len) λn=>
      bif Nat.beq n 0 then some ⟨.int .i64 (.lit (.ofNat 0)),H,next⟩ else
      match H.get b with
      |some (.cells cs el ex pl false)=>
       bif Nat.ble (o+n*ei.size) cs.length&&(l.take (n*ei.size)).all AV.cell then
        some ⟨.int .i64 (.lit (.ofNat n)),H.set b (.cells (Yc o (l.take (n*ei.size)) cs) el ex pl false),next⟩ else none
      |_=>none
     |_=>none
  |_=>none
theorem Q9s {P:Program} {T:Tab} (hT:T.OK P) {X:Ext} {n0:Nat} {H:Tr Q7} {next:Nat} {w:World} (hH:Qq X n0 H w) (hn:∀b,next<=b->X.V b=none) {dT xT ty:TypeId} {s x:AV} {u z:Value} {r:HR}
 (h:Qlp T H next dT s x=some r) (hs:s.rel X u) (hx:x.rel X z):HS P X n0 H next w (Builtin.copy_ #[dT,xT] ty #[u,z]) r:=by
 unfold Qlp at h;split at h;cases h;rename_i di hdi;have hu:=T.Qf hT hdi w;split at h
 case h_2=>cases h
 rename_i elem hd;rw [hd] at hu;split at h;cases h;rename_i ei hei;split at h;cases h;rename_i m l hf;obtain ⟨f1,_,f4⟩:=YJ (P:=P) hH hf hx;split at h;cases h;simp only [AV.rel] at hs;subst hs;obtain ⟨vs,g1,g2⟩:=Q23 (P:=P) hH hf hx (Nat.zero_le m);refine ⟨X,goInt 0,w,?_,Ext.le.refl X,by simp only [AV.rel];exact ⟨trivial,rfl⟩,hH,Below.refl _ _,λb hb _=>⟨hb,rfl⟩,Nat.le_refl _,hn⟩;simp only [Builtin.copy_,List.getElem?_toArray,List.getElem?_cons_zero,List.getElem?_cons_succ,Sem.run_bind,hu,Result.andThen_ok,f1,T.Qv hT hei,Nat.min_eq_min,Nat.min_zero,g1,Sem.run_pure];rfl
 . rename_i b o len cap es ex;simp only [sNat_eq] at h;simp only [AV.rel] at hs;obtain ⟨p,o',c,hp,rfl,q1,q2,q3,hoff,_⟩:=hs;obtain ⟨vs,g1,g2⟩:=Q23 (P:=P) hH hf hx (n:=Nat.min m len) (Nat.min_le_left _ _);have hrun:∀w',(storeCells ⟨p.blk,o',none⟩ vs).run P w= .ok () w' ->(Builtin.copy_ #[dT,xT] ty #[.slice (some ⟨p.blk,o',none⟩) len c,z]).run P w= .ok (goInt (Nat.min m len)) w' :=by intro w' hw;simp only [Builtin.copy_,List.getElem?_toArray,List.getElem?_cons_zero,List.getElem?_cons_succ,Sem.run_bind,hu,Result.andThen_ok,f1,T.Qv hT hei,g1];rw [show (Sem.run P (storeCells ⟨p.blk,o',none⟩ vs.toArray.toList) w)= .ok () w' from hw];rfl
   cases hz:Nat.beq (Nat.min m len) 0 with
   |true=>
    rw [hz] at h;cases h;have hz' :Nat.min m len=0:=by simpa using hz
    have hvs:vs=[]:=by have:=Qe g2;rw [hz'] at this;exact List.eq_nil_of_length_eq_zero (by simpa using this.symm)
    subst hvs;refine ⟨X,goInt 0,w,?_,Ext.le.refl X,by simp only [AV.rel];exact ⟨trivial,rfl⟩,hH,Below.refl _ _,λb hb _=>⟨hb,rfl⟩,Nat.le_refl _,hn⟩;rw [hrun w rfl,hz'];rfl
   |false=>
    rw [hz] at h;simp only [cond_false] at h;split at h
    case h_2=>cases h
    rename_i cs el ex' pl hb;cases hk:(Nat.ble (o+Nat.min m len*ei.size) cs.length&&(l.take (Nat.min m len*ei.size)).all AV.cell) with
    |false=>rw [hk] at h;cases h
    |true=>
     rw [hk] at h;cases h;simp only [Bool.and_eq_true,Nat.ble_eq] at hk;have hpos:0<len:=by rcases Nat.eq_zero_or_pos len with e|e;subst e;have:Nat.min m 0=0:=Nat.min_zero m;rw [this] at hz;cases hz;exact e
     have ho:=hoff (.inl (by omega));subst ho;have hlen:(l.take (Nat.min m len*ei.size)).length<=Nat.min m len*ei.size:=by rw [List.length_take];exact Nat.min_le_left _ _
     obtain ⟨w',e1,e2,e3⟩:=Z4 (P:=P) hp _ vs 0 o cs H w hH hb g2 hk.2 (by omega);refine ⟨X,goInt (Nat.min m len),w',hrun w' e1,Ext.le.refl X,by simp only [AV.rel];exact ⟨trivial,rfl⟩,e2,e3,λq hq _=>⟨hq,Tr.Q0 _ _ (QZ hp hq)⟩,Nat.le_refl _,hn⟩
 cases h
theorem Z6 {P:Program} {w:World} {r:Nat} {o o' :Obj} (h:w.heap[r]?=some o) (hn:∀c t f,o≠ .cells c t f):(setObj r o').run P w= .ok () { w with heap:=w.heap.setIfInBounds r o' }:=by unfold setObj;unfold Sem.run;rw [h];cases o<;>first|rfl|exact absurd rfl (hn _ _ _)
theorem Qk {P:Program} {w:World} {r:Nat} {o:Obj} (h:w.heap[r]?=some o) (hn:∀c t f,o≠ .cells c t f):(getObj r).run P w= .ok o w:=by unfold getObj;unfold Sem.run;rw [h];cases o<;>first|rfl|exact absurd rfl (hn _ _ _)
theorem Qq.setObj {X:Ext} {n0:Nat} {H:Tr Q7} {w:World} (h:Qq X n0 H w) {b:Nat} {o o' :Q7} {p:Place} (hb:H.get b=some o) (hl:o.rw=true) (hp:X.V b=some p) (ob:Obj) (hr:ji X o' p (some ob)):
 Qq X n0 (H.set b o') { w with heap:=w.heap.setIfInBounds p.blk ob}:=by
 have hlt:=h.lt b p hp;refine h.change hb hl hp (by simp) (λk hk=>?_) ?_;show (w.heap.setIfInBounds p.blk ob)[k]?=_;rw [Array.getElem?_setIfInBounds_ne (λe=>hk e.symm)];show ji X o' p (w.heap.setIfInBounds p.blk ob)[p.blk]?
 rw [Array.getElem?_setIfInBounds_self_of_lt hlt];exact hr
theorem Below.setObj {n0:Nat} {w:World} {b:Nat} (h:n0<=b) (ob:Obj):Below n0 w { w with heap:=w.heap.setIfInBounds b ob}:=⟨rfl,rfl,rfl,by simp,λk hk=>by show (w.heap.setIfInBounds b ob)[k]?=_;rw [Array.getElem?_setIfInBounds_ne (by omega)]⟩
def qA:List E->List E->Bool
 |[],[]=>true
 |a::as,b::bs=>a.same b&&qA as bs
 |_,_=>false
theorem JA:∀{as bs:List E},qA as bs=true->as=bs
 |[],[],_=>rfl
 |[],_::_,h=>by cases h
 |_::_,[],h=>by cases h
 |a::as,b::bs,h=>by simp only [qA,Bool.and_eq_true] at h;rw [E.Q5 h.1,JA h.2]
def Qj0:AV->AV->Bool
 | .bool a, .bool b=>a==b
 | .int j a, .int k b=>Nat.beq (kN j) (kN k)&&a.same b
 | .str as, .str bs=>qA as bs
 | .ptr b o, .ptr c p=>Nat.beq b c&&Nat.beq o p
 |_,_=>false
def Qbq:List AV->List AV->Bool
 |[],[]=>true
 |a::as,b::bs=>Qj0 a b&&Qbq as bs
 |_,_=>false
def Qiz:AV->AV->Bool
 | .agg as, .agg bs=>Qbq as bs
 |a,b=>Qj0 a b
theorem Q27 {X:Ext} {a b:AV} {u v:Value} (n:Nat) (h:Qj0 a b=true) (ha:a.rel X u) (hb:b.rel X v):Instr.sameBits n u v=true:=by
 unfold Qj0 at h;split at h
 case h_5=>cases h
 all_goals simp only [AV.rel] at ha hb
 subst ha hb;simpa [Instr.sameBits] using h;obtain ⟨-,rfl⟩:=ha;obtain ⟨-,rfl⟩:=hb;simp only [Bool.and_eq_true] at h;rw [Q1b h.1,E.Q5 h.2];simp [Instr.sameBits];obtain ⟨_,rfl⟩:=ha;obtain ⟨_,rfl⟩:=hb;rw [JA h];simp only [Instr.sameBits];rw [beq_toListBytes];simp;simp only [Bool.and_eq_true,Nat.beq_eq] at h;obtain ⟨rfl,rfl⟩:=h;obtain ⟨p,hp,rfl⟩:=ha;obtain ⟨q,hq,rfl⟩:=hb;rw [hp] at hq;cases hq;simp [Instr.sameBits]
theorem yH {X:Ext} (n:Nat):∀{as bs:List AV} {us vs:List Value},Qbq as bs=true->AV.QH X as us->AV.QH X bs vs->us.length=vs.length/\∀p∈us.zip vs,Instr.sameBits n p.1 p.2=true
 |[],[],us,vs,_,h1,h2=>by rw [rels_nil.1 h1,rels_nil.1 h2];simp
 |[],_::_,_,_,h,_,_=>by cases h
 |_::_,[],_,_,h,_,_=>by cases h
 |a::as,b::bs,[],_,_,h1,_=>absurd h1 not_rels_cons_nil
 |a::as,b::bs,_::_,[],_,_,h2=>absurd h2 not_rels_cons_nil
 |a::as,b::bs,u::us,v::vs,h,h1,h2=>by simp only [rels_cons_cons] at h1 h2;simp only [Qbq,Bool.and_eq_true] at h;obtain ⟨g1,g2⟩:=yH n h.2 h1.2 h2.2;refine ⟨by simp [g1],λp hp=>?_⟩;simp only [List.zip_cons_cons,List.mem_cons] at hp;rcases hp with rfl|hp;exact Q27 n h.1 h1.1 h2.1;exact g2 p hp
theorem Q9u {X:Ext} {a b:AV} {u v:Value} (n:Nat) (h:Qiz a b=true) (ha:a.rel X u) (hb:b.rel X v):Instr.sameBits (n+1) u v=true:=by unfold Qiz at h;split at h;simp only [AV.rel] at ha hb;obtain ⟨us,rfl,ha⟩:=ha;obtain ⟨vs,rfl,hb⟩:=hb;obtain ⟨g1,g2⟩:=yH n h ha hb;simp only [Instr.sameBits,Bool.and_eq_true,beq_iff_eq,List.all_eq_true];exact ⟨by simpa using g1,λp hp=>g2 p hp⟩;exact Q27 _ h ha hb
def yY:List (AV×AV×Nat)->Nat->AV->AV->List (AV×AV×Nat)
 |[],_,_,_=>[]
 |e::es,0,k,v=>(k,v,e.2.2)::es
 |e::es,i+1,k,v=>e::yY es i k v
theorem qz {X:Ext} {k v:AV} {k' v' :Value} (hk:k.rel X k') (hv:v.rel X v'):∀{xs:List (AV×AV×Nat)} {es:List MapEntry} (i:Nat),Q9 X xs es->Q9 X (yY xs i k v) (es.modify i λe=>{ e with key:=k',val:=v' })
 |[],_,i,h=>by cases h;simp [yY,Q9]
 |x::xs,_,0,⟨e,es',h,h1,h2,h3,h4⟩=>by subst h;exact ⟨{ e with key:=k',val:=v' },es',by simp,hk,hv,h3,h4⟩
 |x::xs,_,i+1,⟨e,es',h,h1,h2,h3,h4⟩=>by subst h;exact ⟨e,_,by simp,h1,h2,h3,qz hk hv i h4⟩
theorem YZ {X:Ext}:∀{xs ys:List (AV×AV×Nat)} {es fs:List MapEntry},Q9 X xs es->Q9 X ys fs->Q9 X (xs++ys) (es++fs)
 |[],_,_,_,h,k=>by cases h;exact k
 |x::xs,_,_,_,⟨e,es',h,h1,h2,h3,h4⟩,k=>by subst h;exact ⟨e,_,rfl,h1,h2,h3,YZ h4 k⟩
theorem qK {X:Ext}:∀{xs:List (AV×AV×Nat)} {es:List MapEntry} {i:Nat} {x:AV×AV×Nat},Q9 X xs es->xs[i]?=some x->∃e,es[i]?=some e/\x.1.rel X e.key/\x.2.1.rel X e.val/\e.born=x.2.2
 |[],_,_,_,_,h=>by simp at h
 |x::xs,_,0,y,⟨e,es',h,h1,h2,h3,h4⟩,hg=>by subst h;simp at hg;subst hg;exact ⟨e,rfl,h1,h2,h3⟩
 |x::xs,_,i+1,y,⟨e,es',h,h1,h2,h3,h4⟩,hg=>by subst h;simp at hg;simpa using qK h4 hg
theorem Ju {X:Ext}:∀{xs:List (AV×AV×Nat)} {es:List MapEntry} (i:Nat),Q9 X xs es->Q9 X (xs.eraseIdx i) (es.eraseIdx i)
 |[],_,i,h=>by cases h;simp [Q9]
 |x::xs,_,0,⟨e,es',h,h1,h2,h3,h4⟩=>by subst h;exact h4
 |x::xs,_,i+1,⟨e,es',h,h1,h2,h3,h4⟩=>by subst h;exact ⟨e,_,rfl,h1,h2,h3,Ju i h4⟩
noncomputable def Q9i (T:Tab) (c:Ctx) (H:Tr Q7) (next:Nat) (t:TypeId) (m k v:AV):D HR:=
 match T.ty t with
 |none=> .fail
 |some ti=>
  match ti.desc,m with
  | .map key _, .map r=>
   match T.ty key,H.get r with
   |some _,some (.map es clock)=>
    bif YK T 8 key k then
     (Q5h T c H key k es 0).bind λq=>match q with
      |some (i,_)=>match es[i]? with
       |some e=>bif Qiz e.1 k then .ok ⟨.undef,H.set r (.map (yY es i k v) clock),next⟩ else .fail
       |none=> .fail
      |none=>QG (clock+1) λcl=> .ok ⟨.undef,H.set r (.map (es++[(k,v,clock)]) cl),next⟩
    else .fail
   |some _,some (.lmap [])=>bif YK T 8 key k then .ok ⟨.undef,H.set r (.lmap [(k,v)]),next⟩ else .fail
   |_,_=> .fail
  |_,_=> .fail
theorem Qei {l:List MapEntry} {es:Array MapEntry} (h:l.Perm es.toList) (e:l=[]):es=#[]:=by subst e;have:=h.symm.eq_nil;simpa using this
theorem Qhh {e:MapEntry} {es:Array MapEntry} (h:[e].Perm es.toList):es=#[e]:=by have:=List.perm_singleton.1 h.symm;exact Array.toList_inj.1 this
theorem j6 {P:Program} {T:Tab} (hT:T.OK P) {c:Ctx} {X:Ext} (hc:c.okN X.dom X.O) {n0:Nat} {H:Tr Q7} {next:Nat} {w:World} (hH:Qq X n0 H w) (hn:∀b,next<=b->X.V b=none) {t:TypeId} {m k v:AV} {m' k' v' :Value} {r:HR}
 (h:Q9i T c H next t m k v= .ok r) (hm:m.rel X m') (hk:k.rel X k') (hv:v.rel X v'):HS P X n0 H next w (do Instr.mapUpdate t m' k' v';pure undef) r:=by
 unfold Q9i at h;split at h;cases h;rename_i ti hti;have hu:=T.Qf hT hti w;split at h<;>rename_i hd;rename_i key elem rr;rw [hd] at hu;split at h;rename_i ki es clock hki hr;cases hck:YK T 8 key k with
 |false=>rw [hck] at h;cases h
 |true=>
  rw [hck] at h;simp only [cond_true] at h;simp only [AV.rel] at hm;obtain ⟨p,hp,rfl⟩:=hm;obtain ⟨es',h1,h2⟩:=hH.obj _ _ p hr hp;have hg:=Qk (P:=P) h1 (by simp);have hse:=λo' =>Z6 (P:=P) (o' :=o') h1 (by simp)
  obtain ⟨q,hq,h⟩:=D.bind_ok h;obtain ⟨q',f1,f2⟩:=Zk hT hc hH hk hki h2 hq;have hcr:=Zg (P:=P) hT (w:=w) (e:=false) 8 10000 key k k' (by omega) hck hk;have hbl:=hH.own _ _ p hr rfl hp;cases q with
  |none=>
   cases q' with
   |some x=>exact f2.elim
   |none=>simp only [sNat_eq] at h;cases h;refine ⟨X,undef,{ w with heap:=w.heap.setIfInBounds p.blk (.map (es'.push { key:=k',val:=v',born:=clock}) (clock+1))},?_,Ext.le.refl X,Qw X,hH.setObj hr rfl hp _ ?_,Below.setObj hbl _,λb hb _=>⟨hb,Tr.Q0 _ _ (QZ hp hb)⟩,Nat.le_refl _,hn⟩;simp only [Instr.mapUpdate,Sem.run_bind,hu,Result.andThen_ok,hg,hcr,f1,hse,Sem.run_pure];exact ⟨_,rfl,by simpa using YZ h2 (show Q9 X [(k,v,clock)] [{ key:=k',val:=v',born:=clock}] from ⟨_,[],rfl,hk,hv,rfl,rfl⟩)⟩
  |some x=>
   obtain ⟨i,x'⟩:=x;cases q' with
   |none=>exact f2.elim
   |some y=>
    obtain ⟨j,y'⟩:=y;obtain ⟨rfl,f3⟩:=f2;simp only at h;split at h;rename_i e he;cases hab:Qiz e.1 k with
    |false=>rw [hab] at h;cases h
    |true=>
     rw [hab] at h;cases h;obtain ⟨e',g1,g2,g3,g4⟩:=qK h2 he;have hsb:=Q9u 9999 hab g2 hk;have g1' :es'[i]?=some e' :=by simpa using g1
     refine ⟨X,undef,{ w with heap:=w.heap.setIfInBounds p.blk (.map (es'.modify i λe=>{ e with key:=k',val:=v' }) clock)},?_,Ext.le.refl X,Qw X,hH.setObj hr rfl hp _ ?_,Below.setObj hbl _,λb hb _=>⟨hb,Tr.Q0 _ _ (QZ hp hb)⟩,Nat.le_refl _,hn⟩;simp only [Instr.mapUpdate,Sem.run_bind,hu,Result.andThen_ok,hg,hcr,f1,g1',Option.map_some,Option.getD_some,Instr.keyThatStays,hsb,if_true,Sem.run_pure,hse];exact ⟨_,rfl,by rw [Array.toList_modify];exact qz hk hv i h2⟩
    cases h
 rename_i ki hki hr;cases hck:YK T 8 key k with
 |false=>rw [hck] at h;cases h
 |true=>
  rw [hck] at h;cases h;simp only [AV.rel] at hm;obtain ⟨p,hp,rfl⟩:=hm;obtain ⟨es',clock,l,h1,h2,h3⟩:=hH.obj _ _ p hr hp;obtain rfl:=Qei h3 h2;have hg:=Qk (P:=P) h1 (by simp);have hse:=λo' =>Z6 (P:=P) (o' :=o') h1 (by simp)
  obtain ⟨q',f1,f2⟩:=Zk (P:=P) hT hc hH hk hki (xs:=[]) (es:=#[].toList) (r:=none) rfl rfl
  cases q' with
  |some x=>exact f2.elim
  |none=>
   have hcr:=Zg (P:=P) hT (w:=w) (e:=false) 8 10000 key k k' (by omega) hck hk;have hbl:=hH.own _ _ p hr rfl hp;refine ⟨X,undef,{ w with heap:=w.heap.setIfInBounds p.blk (.map ((#[]:Array MapEntry).push { key:=k',val:=v',born:=clock}) (clock+1))},?_,Ext.le.refl X,Qw X,hH.setObj hr rfl hp _ ?_,Below.setObj hbl _,λb hb _=>⟨hb,Tr.Q0 _ _ (QZ hp hb)⟩,Nat.le_refl _,hn⟩
   simp only [Instr.mapUpdate,Sem.run_bind,hu,Result.andThen_ok,hg,hcr,f1,hse,Sem.run_pure];exact ⟨_,_,_,rfl,⟨{ key:=k',val:=v',born:=clock},[],rfl,hk,hv,rfl⟩,by simp⟩
 cases h;cases h
noncomputable def Q9q (T:Tab) (c:Ctx) (H:Tr Q7) (next:Nat) (t:TypeId) (m k:AV):D HR:=
 match T.ty t with
 |none=> .fail
 |some ti=>
  match ti.desc with
  | .map key _=>
   match T.ty key with
   |none=> .fail
   |some _=>
    bif YK T 8 key k then
     match m with
     | .nilmap=> .ok ⟨.undef,H,next⟩
     | .map r=>
      match H.get r with
      |some (.map es clock)=>(Q5h T c H key k es 0).bind λq=>match q with
       |some (i,_)=> .ok ⟨.undef,H.set r (.map (es.eraseIdx i) clock),next⟩
       |none=> .ok ⟨.undef,H.set r (.map es clock),next⟩
      |some (.lmap [e])=>(aeq T c H 50 key k e.1).bind λb=>bif b then .ok ⟨.undef,H.set r (.lmap []),next⟩ else .fail
      |_=> .fail
     |_=> .fail
    else .fail
  |_=> .fail
theorem Q5i {P:Program} {T:Tab} (hT:T.OK P) {c:Ctx} {X:Ext} (hc:c.okN X.dom X.O) {n0:Nat} {H:Tr Q7} {next:Nat} {w:World} (hH:Qq X n0 H w) (hn:∀b,next<=b->X.V b=none) {t kT ty:TypeId} {m k:AV} {m' k' :Value} {r:HR}
 (h:Q9q T c H next t m k= .ok r) (hm:m.rel X m') (hk:k.rel X k'):HS P X n0 H next w (Builtin.delete_ #[t,kT] ty #[m',k']) r:=by
 unfold Q9q at h;split at h;cases h;rename_i ti hti;have hu:=T.Qf hT hti w;split at h<;>rename_i hd;rename_i key elem;rw [hd] at hu;split at h;cases h;rename_i ki hki;cases hck:YK T 8 key k with
 |false=>rw [hck] at h;cases h
 |true=>
  rw [hck] at h;simp only [cond_true] at h;have hcr:=λe=>Zg (P:=P) hT (w:=w) (e:=e) 8 10000 key k k' (by omega) hck hk
  split at h;cases h;simp only [AV.rel] at hm;subst hm;refine ⟨X, .tuple #[],w,?_,Ext.le.refl X,Qw X,hH,Below.refl _ _,λb hb _=>⟨hb,rfl⟩,Nat.le_refl _,hn⟩
  simp only [Builtin.delete_,List.getElem?_toArray,List.getElem?_cons_zero,List.getElem?_cons_succ,Sem.run_bind,hu,Result.andThen_ok,hcr,Sem.run_pure];rename_i rr;split at h;rename_i es clock hr;simp only [AV.rel] at hm;obtain ⟨p,hp,rfl⟩:=hm;obtain ⟨es',h1,h2⟩:=hH.obj _ _ p hr hp;have hg:=Qk (P:=P) h1 (by simp);have hse:=λo' =>Z6 (P:=P) (o' :=o') h1 (by simp)
  obtain ⟨q,hq,h⟩:=D.bind_ok h;obtain ⟨q',f1,f2⟩:=Zk hT hc hH hk hki h2 hq;have hbl:=hH.own _ _ p hr rfl hp;cases q with
  |none=>
   cases q' with
   |some x=>exact f2.elim
   |none=>
    cases h;refine ⟨X, .tuple #[],{ w with heap:=w.heap.setIfInBounds p.blk (.map es' clock)},?_,Ext.le.refl X,Qw X,hH.setObj hr rfl hp _ ⟨_,rfl,h2⟩,Below.setObj hbl _,λb hb _=>⟨hb,Tr.Q0 _ _ (QZ hp hb)⟩,Nat.le_refl _,hn⟩
    simp only [Builtin.delete_,List.getElem?_toArray,List.getElem?_cons_zero,List.getElem?_cons_succ,Sem.run_bind,hu,Result.andThen_ok,hg,hcr,f1,hse,Sem.run_pure]
  |some x=>
   obtain ⟨i,x'⟩:=x;cases q' with
   |none=>exact f2.elim
   |some y=>
    obtain ⟨j,y'⟩:=y;obtain ⟨rfl,f3⟩:=f2;cases h;refine ⟨X, .tuple #[],{ w with heap:=w.heap.setIfInBounds p.blk (.map (es'.eraseIdxIfInBounds i) clock)},?_,Ext.le.refl X,Qw X,hH.setObj hr rfl hp _ ?_,Below.setObj hbl _,λb hb _=>⟨hb,Tr.Q0 _ _ (QZ hp hb)⟩,Nat.le_refl _,hn⟩
    simp only [Builtin.delete_,List.getElem?_toArray,List.getElem?_cons_zero,List.getElem?_cons_succ,Sem.run_bind,hu,Result.andThen_ok,hg,hcr,f1,hse,Sem.run_pure];refine ⟨_,rfl,?_⟩;rw [Array.toList_eraseIdxIfInBounds];exact Ju i h2
  rename_i e hr;simp only [AV.rel] at hm;obtain ⟨p,hp,rfl⟩:=hm;obtain ⟨es',clock,l,h1,⟨e0,l0,rfl,r1,r2,h2⟩,h3⟩:=hH.obj _ _ p hr hp;cases h2;obtain rfl:=Qhh h3;have hg:=Qk (P:=P) h1 (by simp);have hse:=λo' =>Z6 (P:=P) (o' :=o') h1 (by simp)
  obtain ⟨q,hq,h⟩:=D.bind_ok h;cases q with
  |false=>cases h
  |true=>
   cases h;obtain ⟨q',f1,f2⟩:=Zk hT hc hH hk hki (xs:=[(e.1,e.2,e0.born)]) (es:=[e0]) (r:=some (0,e.2)) ⟨e0,[],rfl,r1,r2,rfl,rfl⟩ (by simp only [Q5h,hq,D.bind,cond_true]);have hbl:=hH.own _ _ p hr rfl hp;cases q' with
   |none=>exact f2.elim
   |some y=>
    obtain ⟨j,y'⟩:=y;obtain ⟨rfl,f3⟩:=f2;refine ⟨X, .tuple #[],{ w with heap:=w.heap.setIfInBounds p.blk (.map (#[e0].eraseIdxIfInBounds 0) clock)},?_,Ext.le.refl X,Qw X,hH.setObj hr rfl hp _ ?_,Below.setObj hbl _,λb hb _=>⟨hb,Tr.Q0 _ _ (QZ hp hb)⟩,Nat.le_refl _,hn⟩
    simp only [Builtin.delete_,List.getElem?_toArray,List.getElem?_cons_zero,List.getElem?_cons_succ,Sem.run_bind,hu,Result.andThen_ok,hg,hcr,f1,hse,Sem.run_pure];exact ⟨_,_,[],rfl,rfl,by simp⟩
  cases h;cases h
 cases h
end Go.Ax
namespace Go.Ax
open Go.RowKit
noncomputable def Qgg (T:Tab) (H:Tr Q7) (next:Nat) (t:TypeId) (x:AV):Option HR:=
 match T.ty t with
 |none=>none
 |some ti=>
  match ti.desc,x with
  |_, .nilmap=>some ⟨.undef,H,next⟩
  |_, .nilslice=>some ⟨.undef,H,next⟩
  | .slice elem, .slice b o len _ _ _=>
   bif Nat.beq len 0 then some ⟨.undef,H,next⟩ else
   match T.ty elem,H.get b with
   |some ei,some (.cells cs el ex pl false)=>
    bif Nat.ble (o+len*ei.size) cs.length&&ei.zero.cellsOf.all AV.cell&&Nat.beq ei.zero.cellsOf.length ei.size&&Nat.blt 0 ei.size then
     some ⟨.undef,H.set b (.cells (Yc o (YI ei.zero.cellsOf (len*ei.size)) cs) el ex pl false),next⟩ else none
   |_,_=>none
  |_,_=>none
theorem Q9h {z:List AV} (h:z.all AV.cell=true) (hz:0<z.length) (n:Nat):(YI z n).all AV.cell=true:=by rw [List.all_eq_true] at h ⊢;intro a ha;unfold YI at ha;split at ha;rename_i x;rw [List.mem_replicate] at ha;rw [ha.2];exact h x (by simp);simp only [List.mem_map] at ha;obtain ⟨i,_,rfl⟩:=ha;have hlt:i%z.length<z.length:=Nat.mod_lt _ hz;rw [show z.getD (i%z.length) .undef=z[i%z.length] from by simp [List.getD,List.getElem?_eq_getElem hlt]];exact h _ (List.getElem_mem hlt)
theorem Q80 {P:Program} {T:Tab} (hT:T.OK P) {X:Ext} {n0:Nat} {H:Tr Q7} {next:Nat} {w:World} (hH:Qq X n0 H w) (hn:∀b,next<=b->X.V b=none) {t ty:TypeId} {x:AV} {u:Value} {r:HR}
 (h:Qgg T H next t x=some r) (hx:x.rel X u):HS P X n0 H next w (Builtin.clear_ #[t] ty #[u]) r:=by
 unfold Qgg at h;split at h;cases h;rename_i ti hti;have hu:=T.Qf hT hti w;have triv:∀u:Value,(u= .map none\/u= .slice none 0 0\/∃a c,u= .slice a 0 c)->HS P X n0 H next w (Builtin.clear_ #[t] ty #[u]) ⟨.undef,H,next⟩:=by
  intro u hu';refine ⟨X, .tuple #[],w,?_,Ext.le.refl X,Qw X,hH,Below.refl _ _,λb hb _=>⟨hb,rfl⟩,Nat.le_refl _,hn⟩
  rcases hu' with rfl|rfl|⟨a,c,rfl⟩;simp [Builtin.clear_,hu];simp [Builtin.clear_,hu];cases a<;>simp [Builtin.clear_,hu]
 split at h<;>rename_i hd;cases h;simp only [AV.rel] at hx;exact triv u (.inl hx);cases h;simp only [AV.rel] at hx;exact triv u (.inr (.inl hx));rename_i elem b o len cap es ex;simp only [AV.rel] at hx;obtain ⟨p,o',c,hp,rfl,_,_,_,hoff,_⟩:=hx;cases hz:Nat.beq len 0 with
 |true=>
  rw [hz] at h;cases h;have hz' :len=0:=by simpa using hz
  subst hz';exact triv _ (.inr (.inr ⟨_,_,rfl⟩))
 |false=>
  rw [hz] at h;simp only [cond_false] at h;have hz' :len≠0:=λe=>by subst e;cases hz
  split at h;rename_i ei cs el ex' pl hei hb;cases hk:(Nat.ble (o+len*ei.size) cs.length&&ei.zero.cellsOf.all AV.cell&&Nat.beq ei.zero.cellsOf.length ei.size&&Nat.blt 0 ei.size) with
  |false=>rw [hk] at h;cases h
  |true=>
   rw [hk] at h;cases h;simp only [Bool.and_eq_true,Nat.ble_eq,Nat.beq_eq,Nat.blt_eq] at hk;obtain ⟨⟨⟨k1,k2⟩,k3⟩,k4⟩:=hk;have ho:=hoff (.inl (by omega));subst ho;obtain ⟨z,hz1,hzr⟩:=T.ZW hT hei w;have hl2:=Qe (Qt (hzr X));have hzs:z.cells.size=ei.size:=by rw [<-k3,hl2];simp
   have hrel:=J5 (Qt (hzr X)) (len*ei.size) (.inr (by omega));obtain ⟨w',e1,e2,e3⟩:=Z4 (P:=P) hp _ _ 0 o cs H w hH hb hrel (Q9h k2 (by omega) _) (by rw [Yk];omega);refine ⟨X, .tuple #[],w',?_,Ext.le.refl X,Qw X,e2,e3,λq hq _=>⟨hq,Tr.Q0 _ _ (QZ hp hq)⟩,Nat.le_refl _,hn⟩
   rw [hd] at hu;have e4:(Builtin.zeroCells z.cells len).toList=((Array.range (len*ei.size)).map (λi=>z.cells[i%z.cells.size]!)).toList:=by simp only [Builtin.zeroCells,hzs]
   cases hl:len with
   |zero=>exact absurd hl hz'
   |succ m=>
    rw [<-hl];have e5:(storeCells ⟨p.blk,p.base+o,none⟩ (Builtin.zeroCells z.cells len).toList).run P w= .ok () w' :=by rw [e4];exact e1
    simp only [Builtin.clear_,List.getElem?_toArray,List.getElem?_cons_zero,Sem.run_bind,hu,Result.andThen_ok];rw [hl] at e5 ⊢;simp only [hz1,Result.andThen_ok,e5,Sem.run_pure]
  cases h
 cases h
noncomputable def Qgc (T:Tab) (H:Tr Q7) (next:Nat) (t:TypeId) (x:AV):Option HR:=
 match T.ty t with
 |none=>none
 |some ti=>
  match ti.desc,x with
  | .map _ _, .nilmap=>some ⟨.ptr next 0,H.set next (.iter none 0 [] 0),next+1⟩
  | .map _ _, .map r=>
   match H.get r with
   |some (.map _ clock)=>some ⟨.ptr next 0,H.set next (.iter (some r) clock [] clock),next+1⟩
   |_=>none
  |_,_=>none
theorem Q7u {P:Program} {T:Tab} (hT:T.OK P) {X:Ext} {n0:Nat} {H:Tr Q7} {next:Nat} {w:World} (hH:Qq X n0 H w) (h0:n0<=w.heap.size) (hn:∀b,next<=b->X.V b=none) {t:TypeId} {x:AV} {u:Value} {r:HR}
 (h:Qgc T H next t x=some r) (hx:x.rel X u):HS P X n0 H next w (Instr.range t u) r:=by
 have hbn:X.V next=none:=hn next (Nat.le_refl _)
 have mk:∀(ob:Obj) (o:Q7),ji (X.add next ⟨w.heap.size,0,1⟩) o ⟨w.heap.size,0,1⟩ (some ob)->(Instr.range t u).run P w= .ok (.pointer (some ⟨w.heap.size,0,none⟩)) (grown w ob w.drawn)->HS P X n0 H next w (Instr.range t u) ⟨.ptr next 0,H.set next o,next+1⟩:=by intro ob o ho hr;refine ⟨X.add next ⟨w.heap.size,0,1⟩,_,_,hr,Ext.Zr hbn,?_,(hH.alloc h0 o hbn ob 1 ho).of_heap rfl,⟨rfl,rfl,rfl,by simp [grown],λk hk=>Qq.Q03 w ob (by omega)⟩,λb hb hlt=>⟨by rw [Ext.QL (by omega)];exact hb,Tr.Q0 _ _ (by omega)⟩,by simp,λb hb=>by rw [Ext.QL (by simp only at hb;omega)];exact hn b (by simp only at hb;omega)⟩;simp only [AV.rel];exact ⟨_,Ext.add_same _ _ _,rfl⟩
 unfold Qgc at h;split at h;cases h;rename_i ti hti;have hu:=T.Qf hT hti w;split at h<;>rename_i hd;cases h;rw [hd] at hu;simp only [AV.rel] at hx;subst hx;exact mk (.mapIter none 0 #[] 0) _ ⟨rfl,none,rfl,rfl⟩ (by simp [Instr.range,hu,grown])
 . rename_i r';split at h
   . rename_i es clock hr;cases h;rw [hd] at hu;simp only [AV.rel] at hx;obtain ⟨p,hp,rfl⟩:=hx;obtain ⟨es',h1,h2⟩:=hH.obj _ _ p hr hp;have hg:=Qk (P:=P) h1 (by simp);have hne:r' ≠next:=λe=>by subst e;rw [hbn] at hp;cases hp
     exact mk (.mapIter (some p.blk) clock #[] clock) _ ⟨rfl,some p.blk,rfl,p,by rw [Ext.QL hne];exact hp,rfl⟩ (by simp [Instr.range,hu,hg,grown])
   cases h
 cases h
def Qev:List Nat->Option Nat
 |[]=>none
 |[a]=>some a
 |_::l=>Qev l
def zX (n:Nat):List (AV×AV×Nat)->Option (AV×AV)
 |[]=>none
 |e::es=>bif Nat.beq e.2.2 n then some (e.1,e.2.1) else zX n es
noncomputable def Qge (H:Tr Q7) (next:Nat) (x:AV):Option HR:=
 match x with
 | .ptr b 0=>
  match H.get b with
  |some (.iter (some m) _ seen stepped)=>
   match Qev seen,H.get m with
   |some s,some (.map es clock)=>bif Nat.beq clock stepped then
    (match zX s es with
     |some (k,v)=>some ⟨.tuple [k,v],H,next⟩
     |none=>none)
    else none
   |_,_=>none
  |_=>none
 |_=>none
noncomputable def JR (T:Tab) (H:Tr Q7) (next:Nat) (t:TypeId) (x n:AV):Option HR:=
 match x,n with
 | .ptr b 0, .int _ (.var l)=>match T.ty t,H.get b with
  |some ti,some (.bytes s l' el)=>match ti.desc with
   | .pointer e=>match T.ty e with
    |some ei=>bif Nat.beq l l' &&(Nat.beq e el&&Nat.beq ei.size 1) then some ⟨.sstr s,H.set b .dead,next⟩ else none
    |none=>none
   |_=>none
  |_,_=>none
 |_,_=>none
noncomputable def Jo (T:Tab) (H:Tr Q7) (next:Nat) (t:TypeId) (x n:AV):Option HR:=
 match Qjc n with
 |none=>none
 |some n=>
  match n with
  | .zero=>(match x with
   | .nilptr=>some ⟨.str [],H,next⟩
   | .ptr _ _=>some ⟨.str [],H,next⟩
   |_=>none)
  | .succ _=>match x with
   | .ptr b o=>
    match T.ty t,H.get b with
    |some ti,some (.cells cs el _ _ false)=>
     match ti.desc with
     | .pointer e=>match T.ty e with
      |some ei=>bif Nat.beq e el&&Nat.beq ei.size 1&&Nat.ble (o+n) cs.length&&Nat.ble n 9223372036854775807 then
       (match Yg ((cs.drop o).take n) with
        |some s=>some ⟨.str s,H.set b .dead,next⟩
        |none=>none)
       else none
      |none=>none
     |_=>none
    |_,_=>none
   |_=>none
end Go.Ax
namespace Go.Ax
open Go.RowKit
def Q11 (seen:List Nat):List (AV×AV×Nat)->List (AV×AV×Nat)
 |[]=>[]
 |e::es=>bif seen.any (Nat.beq e.2.2) then Q11 seen es else e::Q11 seen es
noncomputable def Qll (H:Tr Q7) (next:Nat) (x:AV):Option HR:=
 match x with
 | .ptr b 0=>
  match H.get b with
  |some (.iter none _ _ _)=>some ⟨.tuple [.bool false],H,next⟩
  |some (.iter (some m) since seen last)=>
   match H.get m with
   |some (.map es clock)=>
    bif !seen.isEmpty&&!es.isEmpty&&es.all (λe=>Nat.ble last e.2.2) then none else
    match Q11 seen es with
    |[]=>some ⟨.tuple [.bool false],H,next⟩
    |[e]=>bif Nat.blt e.2.2 since then some ⟨.tuple [.bool true,e.1,e.2.1],H.set b (.iter (some m) since (seen++[e.2.2]) clock),next⟩ else none
    |_=>none
   |_=>none
  |_=>none
 |_=>none
def Q3f:List Edge->List Nat
 |[]=>[]
 |e::es=>bif Region.binds .any e then e.on::Q3f es else Q3f es
def Qi (o:Oper):List Nat:=Q3f o.after.toList
def Qhk (t:Tr Nat) (g:Tr Nat->Nat->Option Nat):List Nat->Nat->Nat
 |[],s=>s
 |e::es,s=>Qhk t g es (Nat.lor s (Nat.lor (2^e) ((g t e).getD 0)))
noncomputable def Q56:List Oper->Nat->Tr Nat->Tr Nat
 |[],_,t=>t
 |o::os,i,t=>QG (Qhk t Tr.get (Qi o) 0) λm=>QG (i+1) λj=>Q56 os j (t.set i m)
def cls:Op->Nat
 | .move _| .pick .. | .build .. | .nilCheck _| .unOp .. | .makeInterface .. | .makeFunc .. | .fieldAddr .. | .field .. | .indexAddr .. | .index .. | .extract .. | .typeAssert .. =>0
 | .binOp op .. =>match op with| .eql| .neq=>1|_=>0
 | .load .. | .lookup .. | .slice .. =>1
 | .alloc _| .box .. | .buildSlice .. | .makeSlice .. | .makeMap .. =>2
 | .convert .. =>1
 | .call c=>match c.callee with
  | .builtin b=>match b with
   | .len=>1
   | .cap| .min| .max| .unsafeSliceData=>0
   |_=>3
  |_=>3
 |_=>3
def opAt:List Oper->Nat->Option Oper
 |[],_=>none
 |o::os,i=>match i with
  |0=>some o
  |i+1=>opAt os i
theorem ZP:∀(l:List Oper) (i:Nat),opAt l i=l[i]?
 |[],_=>by simp [opAt]
 |o::os,0=>by simp [opAt]
 |o::os,i+1=>by simp [opAt,ZP os i]
def Qni (d:Nat):Operand->Bool
 | .tmp t=>Nat.beq t d
 |_=>false
def YD (ops:List Oper) (o:Oper) (d:Nat):Bool:=
 o.op.operands.toList.any (Qni d)||(match o.guard with
  |none=>false
  |some (j,_)=>match opAt ops j with
   |some g=>(match g.dst with|some t=>Nat.beq t d|none=>false)
   |none=>false)
def Q2s (ops:List Oper) (o k:Oper):Bool:=
 match o.dst with
 |none=>false
 |some d=>YD ops k d||(match k.dst with|some t=>Nat.beq t d|none=>false)
def inL (i:Nat):List Nat->Bool
 |[]=>false
 |j::l=>Nat.beq j i||inL i l
def looksAt (ops:List Oper) (o k:Oper):Bool:=
 match k.dst with
 |none=>false
 |some d=>YD ops o d
noncomputable def YE (ops:List Oper) (B:Tr Nat) (n:Nat):Nat->List Nat->List (Nat×List Nat)->Bool
 |done,_,[]=>Nat.beq (done+1) (2^n)
 |done,dl,(i,rc)::rest=>
  match opAt ops i with
  |none=>false
  |some o=>
   Nat.blt i n&&!done.testBit i&&(Qi o).all (λe=>done.testBit e)&&
   dl.all (λk=>((B.get i).getD 0).testBit k||(match opAt ops k with|none=>false|some q=>!looksAt ops o q))&&
   (bif Nat.beq (cls o.op) 3 then
    rest.all (λj=>((B.get j.1).getD 0).testBit i)&&
    dl.all (λk=>((B.get i).getD 0).testBit k||(match opAt ops k with
     |none=>false
     |some q=>!Q2s ops o q&&(!Nat.beq (cls q.op) 1||inL k rc)))
   else
    !looksAt ops o o&&dl.all (λk=>match opAt ops k with|none=>false|some q=>!Q2s ops o q))&&
   YE ops B n (Nat.lor done (2^i)) (i::dl) rest
def Qeh (ops:List Oper) (done:Nat) (heavy:Bool):List Oper->Nat->Option Nat
 |[],_=>none
 |o::os,i=>bif !done.testBit i&&(Nat.beq (cls o.op) 3==heavy)&&(Qi o).all (λe=>done.testBit e) then some i else Qeh ops done heavy os (i+1)
noncomputable def Qam (ops:List Oper) (B:Tr Nat):Nat->Nat->List Nat->List (Nat×List Nat)
 |0,_,_=>[]
 |f+1,done,dl=>
  match Qeh ops done false ops 0 with
  |some i=>QG i λi=>QG (Nat.lor done (2^i)) λd=>(i,[])::Qam ops B f d (i::dl)
  |none=>match Qeh ops done true ops 0 with
   |none=>[]
   |some i=>QG i λi=>QG (Nat.lor done (2^i)) λd=>(i,dl.filter λk=>!((B.get i).getD 0).testBit k&&(match opAt ops k with|none=>false|some q=>Nat.beq (cls q.op) 1))::Qam ops B f d (i::dl)
noncomputable def Qef (ops:List Oper):Option (List (Nat×List Nat)):=
 let B:=Q56 ops 0 (.sk ops.length)
 let p:=Qam ops B ops.length 0 []
 bif YE ops B ops.length 0 [] p then some p else none
inductive Qj where
 |code (c:Code)
 |inBlock (id:Nat)
 |inLoop (body:Code)
 |inScope (body:Code)
 |inRangeFunc (l:Nat)
 |endRangeFunc (l:Nat)
 |beginRound
inductive jk where
 |none
 |reg (ops:List Oper) (k:Nat) (rest:List Oper)
 |draw (ops:List Oper) (done:Nat) (rest:List (Nat×List Nat)) (pa:List (Nat×Nat))
inductive ADf where
 |mark (r:Nat)
 |nop (f:Nat)
structure Qg where
 fn:Nat
 nt:Nat
 tm:Tr AV
 cur:jk
 todo:List Qj
 defers:List ADf
 ret:Bool
 ro:Option Nat
structure AM where
 fr:Qg
 cs:List Qg
 H:Tr Q7
 next:Nat
 ctx:Ctx
inductive Res where
 |next (s:AM)
 |ask (op:BinOp) (a b:E)
 |fin
 |fail (why:Nat)
def YP (id:Nat):List Qj->Option (List Qj)
 |[]=>none
 | .inBlock id' ::k=>bif Nat.beq id' id then some k else YP id k
 |_::k=>YP id k
def YO (l:Nat):List Qj->Option (List Qj)
 |[]=>none
 | .inScope body::k=>match findLabel body l with
  |some rest=>some (.code rest:: .inScope body::k)
  |none=>YO l k
 |_::k=>YO l k
noncomputable def Qbj (nt:Nat) (tm:Tr AV) (dst:Option Nat) (v:AV):Option (Tr AV):=
 match dst with
 |none=>some tm
 |some d=>bif Nat.blt d nt then some (tm.set d v) else none
noncomputable def QI (ops:List Oper) (tm:Tr AV) (o:Oper):Bool:=
 match o.guard with
 |none=>true
 |some (j,want)=>match opAt ops j with
  |none=>false
  |some g=>match g.dst with
   |none=>false
   |some d=>match tm.get d with
    |some (.bool b)=>b==want
    |_=>false
noncomputable def yE (ops:List Oper) (tm:Tr AV) (o:Oper):Bool:=
 match o.guard with
 |none=>true
 |some (j,_)=>match opAt ops j with
  |none=>true
  |some g=>match g.dst with
   |none=>true
   |some d=>match tm.get d with
    |some .top=>false
    |_=>true
theorem Q21 {ops:List Oper} {tm:Tr AV} {o:Oper} (h:QI ops tm o=true):yE ops tm o=true:=by unfold QI at h;unfold yE;split;rfl;rename_i j want hg;rw [hg] at h;simp only at h ⊢;split;rfl;rename_i g hj;rw [hj] at h;simp only at h ⊢;split;rfl;rename_i d hd;rw [hd] at h;simp only at h ⊢;split;rename_i ht;rw [ht] at h;cases h;rfl
def ST.same:ST->ST->Bool
 | .var i, .var j=>Nat.beq i j
 | .bs a, .bs b=>qA a b
 | .cat a b, .cat c d=>ST.same a c&&ST.same b d
 | .sub a l h, .sub b l' h' =>ST.same a b&&l.same l' &&h.same h'
 |_,_=>false
theorem ST.same_eq:∀{a b:ST},a.same b=true->a=b
 | .var _,b,h=>by cases b<;>simp only [ST.same,Bool.false_eq_true,Nat.beq_eq] at h;rw [h]
 | .bs _,b,h=>by cases b<;>simp only [ST.same,Bool.false_eq_true] at h;rw [JA h]
 | .cat _ _,b,h=>by cases b<;>simp only [ST.same,Bool.false_eq_true,Bool.and_eq_true] at h;rw [ST.same_eq h.1,ST.same_eq h.2]
 | .sub _ _ _,b,h=>by cases b<;>simp only [ST.same,Bool.false_eq_true,Bool.and_eq_true] at h;rw [ST.same_eq h.1.1,E.Q5 h.1.2,E.Q5 h.2]
mutual
def AV.same:AV->AV->Bool
 | .sstr a, .sstr b=>a.same b
 | .bool a, .bool b=>a==b
 | .int j a, .int k b=>Nat.beq (kN j) (kN k)&&a.same b
 | .str a, .str b=>qA a b
 | .ptr b o, .ptr c p=>Nat.beq b c&&Nat.beq o p
 | .nilptr, .nilptr=>true
 | .slice a b c d e x, .slice a' b' c' d' e' x' =>Nat.beq a a' &&Nat.beq b b' &&Nat.beq c c' &&Nat.beq d d' &&Nat.beq e e' &&(x==x')
 | .nilslice, .nilslice=>true
 | .map a, .map b=>Nat.beq a b
 | .nilmap, .nilmap=>true
 | .func f a c, .func g a' c' =>Nat.beq f g&&AV.Q49 a a' &&AV.Q49 c c'
 | .yield a, .yield b=>Nat.beq a b
 | .nilFunc, .nilFunc=>true
 | .iface t a, .iface u b=>Nat.beq t u&&AV.same a b
 | .nilIface, .nilIface=>true
 | .agg a, .agg b=>AV.Q49 a b
 | .tuple a, .tuple b=>AV.Q49 a b
 |_,_=>false
def AV.Q49:List AV->List AV->Bool
 |[],[]=>true
 |a::as,b::bs=>AV.same a b&&AV.Q49 as bs
 |_,_=>false
end
structure SR where
 v:AV
 H:Tr Q7
 next:Nat
 ctx:Ctx
structure Env where
 T:Tab
 I:List (TypeId×TypeId×Bool)
 sums:Nat->Option (Ctx->Tr Q7->Nat->List AV->D SR)
def LR.value:LR->Nat->AV
 | .val v,_=>v
 | .ptr _,b=> .ptr b 0
 | .slc _ len cap es ex,b=> .slice b 0 len cap es ex
 | .map,b=> .map b
def LR.obj:LR->Option Q7
 | .val _=>none
 | .ptr o=>some o
 | .slc o _ _ _ _=>some o
 | .map=>some (.map [] 0)
noncomputable def recheck (G:Env) (c:Ctx) (H:Tr Q7) (ops:List Oper) (tm:Tr AV):List Nat->Bool
 |[]=>true
 |k::ks=>(match opAt ops k with
  |none=>false
  |some o=>bif QI ops tm o then
   match light G.T G.I c H (ev G.T.ng tm) o.op with
   | .ok (.val v)=>(match o.dst with
    |none=>true
    |some d=>match tm.get d with
     |some v' =>v.same v'
     |none=>false)
   |_=>false
   else yE ops tm o)&&recheck G c H ops tm ks
noncomputable def Ya (G:Env) (c:Ctx) (H:Tr Q7) (f:Qg) (v:AV):Option Qg:=
 match f.cur with
 | .none=>match f.todo with
  | .inRangeFunc l::k=>some { f with todo:= .endRangeFunc l::k}
  |_=>none
 | .reg ops k (o::rest)=>match Qbj f.nt f.tm o.dst v with
  |some tm=>QG (k+1) λk=>some { f with tm,cur:= .reg ops k rest}
  |none=>none
 | .draw ops done ((i,rc)::rest) pa=>match opAt ops i with
  |none=>none
  |some o=>match Qbj f.nt f.tm o.dst v with
   |none=>none
   |some tm=>bif recheck G c H ops tm rc then QG (Nat.lor done (2^i)) λd=>some { f with tm,cur:= .draw ops d rest pa} else none
 |_=>none
noncomputable def Q5a (T:Tab) (H:Tr Q7) (tm:Tr AV):ResultVar->Option AV
 | .tmp t=>some ((tm.get t).getD .undef)
 | .cell a t=>Q9n T H t ((tm.get a).getD .undef)
noncomputable def JU (T:Tab) (H:Tr Q7) (tm:Tr AV):List ResultVar->Option (List AV)
 |[]=>some []
 |r::rs=>match Q5a T H tm r with
  |none=>none
  |some v=>match JU T H tm rs with
   |none=>none
   |some vs=>some (v::vs)
noncomputable def qj (T:Tab) (H:Tr Q7) (fn:Func) (tm:Tr AV):Option AV:=
 match JU T H tm fn.results.toList with
 |none=>none
 |some [v]=>some v
 |some vs=>some (.tuple vs)
noncomputable def setArgs:Nat->List AV->Tr AV->Tr AV
 |_,[],t=>t
 |i,a::as,t=>QG (i+1) λj=>setArgs j as (t.set i a)
noncomputable def Jw (G:Env) (s:AM) (f:Nat) (args:List AV) (caller:Qg):Res:=
 match G.T.funcs.get f with
 |none=> .fail 1
 |some fn=>match fn.body with
  |none=> .fail 2
  |some c=>QG (max args.length fn.ntmps) λnt=> .next { s with fr:={ fn:=f,nt,tm:=setArgs 0 args (.sk nt),cur:= .none,todo:=[.code c],defers:=[],ret:=false,ro:=none},cs:=caller::s.cs}
noncomputable def Qiy (G:Env) (s:AM) (f:Nat) (args:List AV):Res:=
 match G.sums f with
 |some S=>match S s.ctx s.H s.next args with
  | .ok r=>match Ya G r.ctx r.H s.fr r.v with
   |some fr=> .next { s with fr,H:=r.H,next:=r.next,ctx:=r.ctx}
   |none=> .fail 3
  | .ask op a b=> .ask op a b
  | .fail=>Jw G s f args s.fr
 |none=>Jw G s f args s.fr
noncomputable def ZR (G:Env) (c:Ctx) (H:Tr Q7) (next:Nat) (f:Operand->Option AV) (op:Op):D HR:=
 match op with
 | .assign x=>match f x with|some v=> .ok ⟨v,H,next⟩|none=> .fail
 | .store t a x=>match f a,f x with
  |some a,some x=>D.of (Q7p G.T H next t a x)
  |_,_=> .fail
 | .mapUpdate t m k x| .insert t m k x=>match f m,f k,f x with
  |some m,some k,some x=>Q9i G.T c H next t m k x
  |_,_,_=> .fail
 | .range t x=>match f x with|some x=>D.of (Qgc G.T H next t x)|none=> .fail
 | .entry x=>match f x with|some x=>D.of (Qge H next x)|none=> .fail
 | .next x str=>bif str then .fail else match f x with|some x=>D.of (Qll H next x)|none=> .fail
 | .call cl=>match cl.callee with
  | .builtin b=>match b,cl.argTypes.toList,cl.args.toList with
   | .append,[sT,xT],[s,x]=>match f s,f x with
    |some s,some x=>match Q5m G.T c H next sT xT s x with
     |some r=> .ok r
     |none=>D.of (Q28 G.T H next sT xT s x)
    |_,_=> .fail
   | .copy,[dT,_],[s,x]=>match f s,f x with
    |some s,some x=>D.of (Qlp G.T H next dT s x)
    |_,_=> .fail
   | .delete,[t,_],[m,k]=>match f m,f k with
    |some m,some k=>Q9q G.T c H next t m k
    |_,_=> .fail
   | .unsafeString,[t,_],[x,n]=>match f x,f n with
    |some x,some n=>match JR G.T H next t x n with
     |some r=> .ok r
     |none=>D.of (Jo G.T H next t x n)
    |_,_=> .fail
   | .clear,[t],[x]=>match f x with
    |some x=>D.of (Qgg G.T H next t x)
    |none=> .fail
   |_,_,_=> .fail
  |_=> .fail
 |_=> .fail
def methodOf (name:String):List Method->Option Method
 |[]=>none
 |m::ms=>if m.name=name then some m else methodOf name ms
noncomputable def YQ (G:Env) (s:AM) (f:Operand->Option AV) (cl:Call):Res:=
 match evs f cl.args.toList with
 |none=> .fail 4
 |some args=>
  match cl.callee with
  | .builtin _=> .fail 5
  | .value x=>match f x with
   |some (.func k first captured)=>Qiy G s k (first++args++captured)
   |some (.yield l)=>match s.H.get l with
    |some (.loop _ _ fn nt tm params assign body _)=>
     bif Nat.beq args.length params.size then
      .next { s with fr:={ fn,nt,tm:=setParams params.toList args tm nt,cur:= .none,todo:=[.code assign, .beginRound, .code body],defers:=[],ret:=false,ro:=some l},cs:=s.fr::s.cs}
     else .fail 6
    |_=> .fail 7
   |_=> .fail 8
  | .invoke r name=>match f r with
   |some (.iface t v)=>match G.T.ty t with
    |some ti=>match methodOf name ti.methods.toList,ti.desc with
     |some m, .pointer _=>bif m.path.isEmpty then (match m.func with
      |some (k,true)=>Qiy G s k (v::args)
      |_=> .fail 9) else .fail 10
     |_,_=> .fail 11
    |none=> .fail 12
   |_=> .fail 13
 where
 setParams:List Nat->List AV->Tr AV->Nat->Tr AV
  |p::ps,a::as,t,nt=>bif Nat.blt p nt then setParams ps as (t.set p a) nt else setParams ps as t nt
  |_,_,t,_=>t
noncomputable def jg (G:Env) (s:AM) (f:Operand->Option AV) (cl:Call):Res:=
 match cl.callee with
 | .value x=>match f x with
  |some (.func k _ _)=>bif G.T.nops.any (Nat.beq k) then
   (match s.fr.ro with
   |none=>match Ya G s.ctx s.H { s.fr with defers:= .nop k::s.fr.defers} .undef with
    |some fr=> .next { s with fr}
    |none=> .fail 41
   |some _=> .fail 42) else .fail 43
  |_=> .fail 44
 |_=> .fail 45
noncomputable def Q26 (G:Env) (s:AM) (l:Nat) (jump:Option Code):Res:=
 match s.H.get l with
 |some (.loop _ _ fn nt tm params assign body d)=>
  let st:LoopState:=match jump with|none=> .ready|some _=> .done
  let H:=s.H.set l (.loop st jump fn nt tm params assign body d)
  match s.cs with
  |[]=> .fail 14
  |c::cs=>match Ya G s.ctx H c (.bool (match jump with|none=>true|some _=>false)) with
   |some fr=> .next { s with fr,cs,H}
   |none=> .fail 15
 |_=> .fail 16
noncomputable def Q3x (G:Env) (s:AM) (jump:Option Code):Res:=
 match s.fr.ro with
 |some l=>Q26 G s l jump
 |none=>match jump with
  |none=> .next { s with fr:={ s.fr with ret:=true}}
  |some .ret=> .next { s with fr:={ s.fr with ret:=true}}
  |_=> .fail 17
noncomputable def advance (G:Env) (s:AM) (r:HR):Res:=
 match Ya G s.ctx r.H s.fr r.v with
 |some fr=> .next { s with fr,H:=r.H,next:=r.next}
 |none=> .fail 18
noncomputable def Zy (G:Env) (s:AM):Res:=
 match s.fr.ret with
 |true=>
  match s.fr.defers with
  | .nop _::ds=> .next { s with fr:={ s.fr with defers:=ds}}
  | .mark r::ds=>match s.H.get r with
   |some .defs=> .next { s with fr:={ s.fr with defers:=ds},H:=s.H.set r .dead}
   |_=> .fail 20
  |[]=>match s.cs with
   |[]=> .fin
   |c::cs=>match G.T.funcs.get s.fr.fn with
    |none=> .fail 21
    |some fn=>match qj G.T s.H fn s.fr.tm with
     |none=> .fail 22
     |some v=>match Ya G s.ctx s.H c v with
      |some fr=> .next { s with fr,cs}
      |none=> .fail 23
 |false=>
  match s.fr.cur with
  | .reg _ _ []=> .next { s with fr:={ s.fr with cur:= .none}}
  | .draw _ _ [] _=> .next { s with fr:={ s.fr with cur:= .none}}
  | .reg ops _ (o::_)=>
   bif QI ops s.fr.tm o then
    let f:=ev G.T.ng s.fr.tm
    match light G.T G.I s.ctx s.H f o.op with
    | .ok r=>match r.obj with
     |none=>advance G s ⟨r.value 0,s.H,s.next⟩
     |some ob=>QG (s.next+1) λn=>advance G s ⟨r.value s.next,s.H.set s.next ob,n⟩
    | .ask op a b=> .ask op a b
    | .fail=>match ZR G s.ctx s.H s.next f o.op with
     | .ok r=>advance G s r
     | .ask op a b=> .ask op a b
     | .fail=>match o.op with
      | .call cl=>YQ G s f cl
      | .defer cl=>jg G s f cl
      |_=> .fail 24
   else bif yE ops s.fr.tm o then advance G s ⟨.undef,s.H,s.next⟩ else .fail 40
  | .draw ops done ((i,_)::rest) pa=>
   match opAt ops i with
   |none=> .fail 25
   |some o=>
    let f:=ev G.T.ng s.fr.tm
    bif Nat.beq (cls o.op) 3 then
     bif QI ops s.fr.tm o then
      match ZR G s.ctx s.H s.next f o.op with
      | .ok r=>advance G s r
      | .ask op a b=> .ask op a b
      | .fail=>match o.op with
       | .call cl=>YQ G s f cl
       | .defer cl=>jg G s f cl
       |_=> .fail 26
     else bif yE ops s.fr.tm o then advance G s ⟨.undef,s.H,s.next⟩ else .fail 41
    else
     bif QI ops s.fr.tm o then
      let H:=bif Nat.beq (cls o.op) 1 then s.H else .e
      match light G.T G.I s.ctx H f o.op with
      | .ok r=>match r.obj with
       |none=>match Qbj s.fr.nt s.fr.tm o.dst (r.value 0) with
        |some tm=>QG (Nat.lor done (2^i)) λd=> .next { s with fr:={ s.fr with tm,cur:= .draw ops d rest pa}}
        |none=> .fail 27
       |some ob=>match Qbj s.fr.nt s.fr.tm o.dst (r.value s.next),s.H.get s.next,cls o.op with
        |some tm,none, .succ (.succ _)=>QG (Nat.lor done (2^i)) λd=>QG (s.next+1) λn=> .next { s with fr:={ s.fr with tm,cur:= .draw ops d rest ((i,s.next)::pa)},H:=s.H.set s.next ob,next:=n}
        |_,_,_=> .fail 28
      | .ask op a b=> .ask op a b
      | .fail=> .fail 29
     else bif yE ops s.fr.tm o then match Qbj s.fr.nt s.fr.tm o.dst .undef with
      |some tm=>QG (Nat.lor done (2^i)) λd=> .next { s with fr:={ s.fr with tm,cur:= .draw ops d rest pa}}
      |none=> .fail 30
     else .fail 42
  | .none=>
   match s.fr.todo with
   |[]=>Q3x G s none
   | .inBlock _::k| .inScope _::k=> .next { s with fr:={ s.fr with todo:=k}}
   | .inLoop body::k=> .next { s with fr:={ s.fr with todo:= .code body:: .inLoop body::k}}
   | .inRangeFunc _::_=> .fail 31
   | .beginRound::k=>match s.fr.ro with
    |none=> .fail 32
    |some l=>match s.H.get l with
     |some (.loop .ready p fn nt tm params assign body d)=> .next { s with fr:={ s.fr with todo:=k},H:=s.H.set l (.loop .busy p fn nt tm params assign body d)}
     |_=> .fail 33
   | .endRangeFunc l::k=>match s.H.get l with
    |some (.loop st p fn nt tm params assign body d)=>match st with
     | .busy=> .fail 34
     |_=> .next { s with fr:={ s.fr with todo:=(match p with|none=>k|some c=> .code c::k)},H:=s.H.set l (.loop .exhausted p fn nt tm params assign body d)}
    |_=> .fail 35
   | .code c::k=>
    match c with
    | .skip| .label _=> .next { s with fr:={ s.fr with todo:=k}}
    | .ret=>Q3x G s (some .ret)
    | .seq a b=> .next { s with fr:={ s.fr with todo:= .code a:: .code b::k}}
    | .cond x thn els=>match ev G.T.ng s.fr.tm x with
     |some (.bool true)=> .next { s with fr:={ s.fr with todo:= .code thn::k}}
     |some (.bool false)=> .next { s with fr:={ s.fr with todo:= .code els::k}}
     |_=> .fail 36
    | .block id body=> .next { s with fr:={ s.fr with todo:= .code body:: .inBlock id::k}}
    | .loop body=> .next { s with fr:={ s.fr with todo:= .code body:: .inLoop body::k}}
    | .scope body=> .next { s with fr:={ s.fr with todo:= .code body:: .inScope body::k}}
    | .exit id=>match YP id k with
     |some k' => .next { s with fr:={ s.fr with todo:=k' }}
     |none=>Q3x G s (some (.exit id))
    | .goto l=>match YO l k with
     |some k' => .next { s with fr:={ s.fr with todo:=k' }}
     |none=>Q3x G s (some (.goto l))
    | .region _ ops draw=>bif draw then
     match Qef ops.toList with
     |some p=> .next { s with fr:={ s.fr with cur:= .draw ops.toList 0 p [],todo:=k}}
     |none=> .fail 37
     else .next { s with fr:={ s.fr with cur:= .reg ops.toList 0 ops.toList,todo:=k}}
    | .rangeFunc x params assign body=>
     match ev G.T.ng s.fr.tm x with
     |some (.func g first captured)=>
      match s.fr.ro with
      |none=>
       QG (s.next+1) λl=>QG (s.next+2) λn=>
       let H:=(s.H.set s.next .defs).set l (.loop .ready none s.fr.fn s.fr.nt s.fr.tm params assign body s.next)
       Jw G { s with H,next:=n} g (first++[.yield l]++captured) { s.fr with todo:= .inRangeFunc l::k,defers:= .mark s.next::s.fr.defers}
      |some l0=>match s.H.get l0 with
       |some (.loop _ _ _ _ _ _ _ _ d)=>
        QG (s.next+1) λn=>
        let H:=s.H.set s.next (.loop .ready none s.fr.fn s.fr.nt s.fr.tm params assign body d)
        Jw G { s with H,next:=n} g (first++[.yield s.next]++captured) { s.fr with todo:= .inRangeFunc s.next::k}
       |_=> .fail 38
     |_=> .fail 39
    | .refuse _=> .fail 40
end Go.Ax
