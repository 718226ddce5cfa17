/-
 THE ABSTRACT EXECUTOR, 39: the same machine, quicker for the kernel: statements and flow of control in one go. Conditions: none.
-/
import Derived.Test.YtmbajnmaeikceaaGreatDoorNAxD
import Derived.RowKit
import Derived.WideShapes
namespace Go.Ax
open Go.RowKit
inductive Box (α:Type) where
 |mk (a:α)
inductive RR where
 |mk (tm:Tr AV) (H:Tr Q7) (nx:Nat) (j:Nat) (rest:List Oper)
abbrev RK:=Tr AV->Tr Q7->Nat->RR
abbrev RC:=Ctx->Tr AV->Tr Q7->Nat->RK->RR->RR
noncomputable def putB (nt:Nat) (dst:Option Nat):Option (Box (Tr AV->AV->Tr AV)):=
 match dst with
 |none=>some (.mk λtm _=>tm)
 |some d=>bif Nat.blt d nt then some (.mk λtm v=>tm.set d v) else none
noncomputable def Qnm (r:LR):(Tr AV->AV->Tr AV)->Tr AV->Tr Q7->Nat->RK->RR:=
 match r with
 | .val v=>λput tm H nx k=>k (put tm v) H nx
 | .ptr o=>λput tm H nx k=>QE (nx+1) λn=>k (put tm (.ptr nx 0)) (H.set nx o) n
 | .slc o len cap es ex=>λput tm H nx k=>QE (nx+1) λn=>k (put tm (.slice nx 0 len cap es ex)) (H.set nx o) n
 | .map=>λput tm H nx k=>QE (nx+1) λn=>k (put tm (.map nx)) (H.set nx (.map [] 0)) n
noncomputable def zT (d:D HR):(Tr AV->AV->Tr AV)->Tr AV->RK->RR->RR:=
 match d with
 | .ok r=>λput tm k _=>HR.rec (motive:=λ_=>RR) (λv H n=>k (put tm v) H n) r
 | .ask _ _ _=>λ_ _ _ z=>z
 | .fail=>λ_ _ _ z=>z
noncomputable def Q01 (d:D LR):Env->Oper->(Tr AV->AV->Tr AV)->Ctx->Tr AV->Tr Q7->Nat->RK->RR->RR:=
 match d with
 | .ok r=>λ_ _ put _ tm H nx k _=>Qnm r put tm H nx k
 | .ask _ _ _=>λ_ _ _ _ _ _ _ _ z=>z
 | .fail=>λG o put c tm H nx k z=>zT (ZN G c H nx (ev G.T.ng tm) o.op) put tm k z
noncomputable def Qnn (G:Env) (o:Oper) (put:Tr AV->AV->Tr AV):RC:=λc tm H nx k z=>Q01 (light G.T G.I c H (ev G.T.ng tm) o.op) G o put c tm H nx k z
inductive GI where
 |always
 |never
 |slot (d:Nat) (want:Bool)
def guardOf (ops:List Oper) (o:Oper):GI:=
 match o.guard with
 |none=> .always
 |some (j,want)=>match opAt ops j with
  |none=> .never
  |some g=>match g.dst with
   |none=> .never
   |some d=> .slot d want
noncomputable def Qle (a:AV):Bool->RR->RR->RR->RR:=
 match a with
 | .bool b=>λwant y n _=>bif b==want then y else n
 | .top=>λ_ _ _ z=>z
 |_=>λ_ _ n _=>n
noncomputable def Qfx (v:Option AV):Bool->RR->RR->RR->RR:=
 match v with
 |some a=>λwant y n z=>Qle a want y n z
 |none=>λ_ _ n _=>n
noncomputable def Qf1 (gi:GI) (put:Tr AV->AV->Tr AV) (g:RC):RC:=
 match gi with
 | .always=>g
 | .never=>λ_ tm H nx k _=>k (put tm .undef) H nx
 | .slot d want=>λc tm H nx k z=>Qfx (tm.get d) want (g c tm H nx k z) (k (put tm .undef) H nx) z
noncomputable def Qf2 (gi:GI) (put:Tr AV->AV->Tr AV) (g:RC):Box RC:=
 match gi with
 | .always=> .mk g
 | .never=> .mk λ_ tm H nx k _=>k (put tm .undef) H nx
 | .slot d want=> .mk λc tm H nx k z=>Qfx (tm.get d) want (g c tm H nx k z) (k (put tm .undef) H nx) z
theorem Q6o (gi:GI) (put:Tr AV->AV->Tr AV) (g:RC):Qf2 gi put g= .mk (Qf1 gi put g):=by cases gi<;>rfl
noncomputable def Qi4 (spec:Env->Nat->Oper->Option (Box RC)) (G:Env) (nt:Nat) (ops:List Oper) (o:Oper):Box RC:=
 match putB nt o.dst with
 |none=> .mk λ_ _ _ _ _ z=>z
 |some (.mk put)=>match spec G nt o with
  |some (.mk g)=>Qf2 (guardOf ops o) put g
  |none=>Qf2 (guardOf ops o) put (Qnn G o put)
noncomputable def Qo5 (o:Oper) (os:List Oper) (j:Nat) (g:Box RC) (h:Box (Ctx->RK)):Box (Ctx->RK):=
 match g,h with
 | .mk g, .mk h=> .mk λc tm H nx=>g c tm H nx (h c) (.mk tm H nx j (o::os))
noncomputable def Q4t (spec:Env->Nat->Oper->Option (Box RC)) (G:Env) (nt:Nat) (ops:List Oper):List Oper->Nat->Box (Ctx->RK)
 |[],j=> .mk λ_ tm H nx=> .mk tm H nx j []
 |o::os,j=>Qo5 o os j (Qi4 spec G nt ops o) (Q4t spec G nt ops os (j+1))
inductive Za (G:Env):AM->AM->Prop where
 |refl (s:AM):Za G s s
 |step {s s' t:AM}:ZK G s= .next s' ->Za G s' t->Za G s t
theorem Za.trans {G:Env} {s t u:AM} (h:Za G s t) (h' :Za G t u):Za G s u:=by
 induction h with
 |refl=>exact h'
 |step e _ ih=>exact .step e (ih h')
theorem Za.one {G:Env} {s t:AM} (h:ZK G s= .next t):Za G s t:= .step h (.refl t)
structure Rest where
 fn:Nat
 nt:Nat
 defers:List ADf
 ro:Option Nat
 cs:List Qg
 ctx:Ctx
abbrev mkS (R:Rest) (tm:Tr AV) (cur:zm) (todo:List Qj) (H:Tr Q7) (nx:Nat):AM:=⟨⟨R.fn,R.nt,tm,cur,todo,R.defers,false,R.ro⟩,R.cs,H,nx,R.ctx⟩
def yG (G:Env) (nt:Nat) (ops:List Oper) (o:Oper) (c:Ctx) (tm:Tr AV) (H:Tr Q7) (nx:Nat) (tm' :Tr AV) (H' :Tr Q7) (nx' :Nat):Prop:=∀(R:Rest) (todo:List Qj) (j:Nat) (rest:List Oper),R.nt=nt->R.ctx=c->ZK G (mkS R tm (.reg ops j (o::rest)) todo H nx)= .next (mkS R tm' (.reg ops (j+1) rest) todo H' nx')
def RCok (G:Env) (nt:Nat) (ops:List Oper) (o:Oper) (g:RC):Prop:=∀c tm H nx (k:RK) (z:RR),g c tm H nx k z=z\/∃tm' H' nx',yG G nt ops o c tm H nx tm' H' nx' /\g c tm H nx k z=k tm' H' nx'
def QG (G:Env) (nt:Nat) (ops:List Oper) (o:Oper) (g:RC):Prop:=∀c tm H nx (k:RK) (z:RR),QL ops tm o=true->g c tm H nx k z=z\/∃tm' H' nx',yG G nt ops o c tm H nx tm' H' nx' /\g c tm H nx k z=k tm' H' nx'
def Y5 (nt:Nat) (dst:Option Nat) (put:Tr AV->AV->Tr AV):Prop:=∀tm v,Qcn nt tm dst v=some (put tm v)
theorem jo {nt:Nat} {dst:Option Nat} {put:Tr AV->AV->Tr AV} (h:putB nt dst=some (.mk put)):Y5 nt dst put:=by
 intro tm v;unfold putB at h;cases dst with
 |none=>simp only [Option.some.injEq,Box.mk.injEq] at h;subst h;rfl
 |some d=>
  simp only at h;cases hb:Nat.blt d nt with
  |false=>rw [hb] at h;cases h
  |true=>rw [hb] at h;simp only [cond_true,Option.some.injEq,Box.mk.injEq] at h;subst h;simp only [Qcn,hb,cond_true]
theorem Jr {G:Env} {R:Rest} {tm:Tr AV} {ops:List Oper} {j:Nat} {o:Oper} {rest:List Oper} {todo:List Qj} {H0:Tr Q7} {nx0:Nat} {put:Tr AV->AV->Tr AV} (hp:Y5 R.nt o.dst put) (v:AV) (H:Tr Q7) (nx:Nat):
 advance G (mkS R tm (.reg ops j (o::rest)) todo H0 nx0) ⟨v,H,nx⟩= .next (mkS R (put tm v) (.reg ops (j+1) rest) todo H nx):=by
 simp only [advance,Yw,hp tm v,sNat_eq]
theorem qO {G:Env} {nt:Nat} {ops:List Oper} {o:Oper} {put:Tr AV->AV->Tr AV} (hp:Y5 nt o.dst put) {c:Ctx} {tm:Tr AV} (H:Tr Q7) (nx:Nat) (hw:QL ops tm o=false) (hk:yC ops tm o=true):yG G nt ops o c tm H nx (put tm .undef) H nx:=by intro R todo j rest hnt hc;subst hnt;simp only [ZK,hw,hk,cond_false,cond_true];exact Jr hp _ _ _
theorem Q2q {G:Env} {nt:Nat} {ops:List Oper} {o:Oper} {put:Tr AV->AV->Tr AV} (hp:Y5 nt o.dst put) {c:Ctx} {tm:Tr AV} {H:Tr Q7} (nx:Nat) (hw:QL ops tm o=true) {v:AV}
 (h:light G.T G.I c H (ev G.T.ng tm) o.op= .ok (.val v)):yG G nt ops o c tm H nx (put tm v) H nx:=by
 intro R todo j rest hnt hc;subst hnt;subst hc;simp only [ZK,hw,cond_true,h,LR.obj,LR.value];exact Jr hp _ _ _
theorem jv {G:Env} {nt:Nat} {ops:List Oper} {o:Oper} {put:Tr AV->AV->Tr AV} (hp:Y5 nt o.dst put) {c:Ctx} {tm:Tr AV} {H:Tr Q7} (nx:Nat) (hw:QL ops tm o=true) {r:LR} {ob:Q7}
 (h:light G.T G.I c H (ev G.T.ng tm) o.op= .ok r) (ho:r.obj=some ob):yG G nt ops o c tm H nx (put tm (r.value nx)) (H.set nx ob) (nx+1):=by
 intro R todo j rest hnt hc;subst hnt;subst hc;simp only [ZK,hw,cond_true,h,ho,sNat_eq];exact Jr hp _ _ _
theorem yg {G:Env} {nt:Nat} {ops:List Oper} {o:Oper} {put:Tr AV->AV->Tr AV} (hp:Y5 nt o.dst put) {c:Ctx} {tm:Tr AV} {H:Tr Q7} (nx:Nat) (hw:QL ops tm o=true) {r:HR}
 (h:light G.T G.I c H (ev G.T.ng tm) o.op= .fail) (ho:ZN G c H nx (ev G.T.ng tm) o.op= .ok r):yG G nt ops o c tm H nx (put tm r.v) r.H r.next:=by
 intro R todo j rest hnt hc;subst hnt;subst hc;simp only [ZK,hw,cond_true,h,ho];exact Jr hp _ _ _
theorem Qf5 {G:Env} {nt:Nat} {ops:List Oper} {o:Oper} {put:Tr AV->AV->Tr AV} (hp:Y5 nt o.dst put):QG G nt ops o (Qnn G o put):=by
 intro c tm H nx k z hw;unfold Qnn;cases hl:light G.T G.I c H (ev G.T.ng tm) o.op with
 |ok r=>
  right;cases r with
  |val v=>exact ⟨_,_,_,Q2q hp nx hw hl,rfl⟩
  |ptr ob=>exact ⟨_,_,_,jv hp nx hw hl rfl,rfl⟩
  |slc ob len cap es ex=>exact ⟨_,_,_,jv hp nx hw hl rfl,rfl⟩
  |map=>exact ⟨_,_,_,jv hp nx hw hl rfl,rfl⟩
 |ask op a b=>exact .inl rfl
 |fail=>
  cases hh:ZN G c H nx (ev G.T.ng tm) o.op with
  |ok r=>right;refine ⟨_,_,_,yg hp nx hw hl hh,?_⟩;simp only [Q01,hh,zT]
  |ask op a b=>left;simp only [Q01,hh,zT]
  |fail=>left;simp only [Q01,hh,zT]
theorem Q6n {G:Env} {nt:Nat} {ops:List Oper} {o:Oper} {put:Tr AV->AV->Tr AV} (hp:Y5 nt o.dst put) {g:RC} (hg:QG G nt ops o g):RCok G nt ops o (Qf1 (guardOf ops o) put g):=by
 intro c tm H nx k z;unfold guardOf;cases hgd:o.guard with
 |none=>exact hg c tm H nx k z (by simp only [QL,hgd])
 |some p=>
  obtain ⟨j,want⟩:=p;simp only;cases hj:opAt ops j with
  |none=>right;exact ⟨_,_,_,qO hp H nx (by simp only [QL,hgd,hj]) (by simp only [yC,hgd,hj]),rfl⟩
  |some q=>
   simp only;cases hd:q.dst with
   |none=>right;exact ⟨_,_,_,qO hp H nx (by simp only [QL,hgd,hj,hd]) (by simp only [yC,hgd,hj,hd]),rfl⟩
   |some d=>
    simp only [Qf1];have hno:QL ops tm o=false->yC ops tm o=true->(k (put tm .undef) H nx=z\/∃tm' H' nx',yG G nt ops o c tm H nx tm' H' nx' /\k (put tm .undef) H nx=k tm' H' nx'):=λhw hk=> .inr ⟨_,_,_,qO hp H nx hw hk,rfl⟩
    cases ht:tm.get d with
    |none=>exact hno (by simp only [QL,hgd,hj,hd,ht]) (by simp only [yC,hgd,hj,hd,ht])
    |some a=>
     simp only [Qfx];by_cases hb:∃b,a= .bool b
     obtain ⟨b,rfl⟩:=hb;simp only [Qle];cases hw:(b==want) with
     |true=>exact hg c tm H nx k z (by simp only [QL,hgd,hj,hd,ht,hw])
     |false=>exact hno (by simp only [QL,hgd,hj,hd,ht,hw]) (by simp only [yC,hgd,hj,hd,ht])
     by_cases htp:a= .top
     subst htp;exact .inl rfl
     have e1:Qle a want (g c tm H nx k z) (k (put tm .undef) H nx) z=k (put tm .undef) H nx:=by cases a<;>first|rfl|exact absurd ⟨_,rfl⟩ hb|exact absurd rfl htp
     rw [e1];refine hno ?_ ?_;simp only [QL,hgd,hj,hd,ht];cases a<;>first|rfl|exact absurd ⟨_,rfl⟩ hb
     simp only [yC,hgd,hj,hd,ht];cases a<;>first|rfl|exact absurd rfl htp
def ZJ (G:Env) (spec:Env->Nat->Oper->Option (Box RC)):Prop:=∀nt ops o put g,spec G nt o=some (.mk g)->Y5 nt o.dst put->QG G nt ops o g
theorem Qi3 {spec:Env->Nat->Oper->Option (Box RC)} {G:Env} (hs:ZJ G spec) {nt:Nat} {ops:List Oper} {o:Oper} {g:RC} (h:Qi4 spec G nt ops o= .mk g):RCok G nt ops o g:=by
 unfold Qi4 at h;split at h;cases h;exact λc tm H nx k z=> .inl rfl
 rename_i put hp;split at h;rename_i g' hg';rw [Q6o] at h;cases h;exact Q6n (jo hp) (hs nt ops o put g' hg' (jo hp));rw [Q6o] at h;cases h;exact Q6n (jo hp) (Qf5 (jo hp))
theorem Q4s {spec:Env->Nat->Oper->Option (Box RC)} {G:Env} (hs:ZJ G spec) {R:Rest} {ops:List Oper} {todo:List Qj}:∀(l:List Oper) (j:Nat) {h:Ctx->RK},Q4t spec G R.nt ops l j= .mk h->∀(tm:Tr AV) (H:Tr Q7) (nx:Nat),
 ∃tm' H' nx' j' rest,h R.ctx tm H nx= .mk tm' H' nx' j' rest/\Za G (mkS R tm (.reg ops j l) todo H nx) (mkS R tm' (.reg ops j' rest) todo H' nx')
 |[],j,h,he,tm,H,nx=>by simp only [Q4t,Box.mk.injEq] at he;subst he;exact ⟨_,_,_,_,_,rfl, .refl _⟩
 |o::os,j,h,he,tm,H,nx=>by
  simp only [Q4t] at he;cases hg:Qi4 spec G R.nt ops o with
  |mk g=>
   cases hh:Q4t spec G R.nt ops os (j+1) with
   |mk h' =>rw [hg,hh] at he;simp only [Qo5,Box.mk.injEq] at he;subst he;rcases Qi3 hs hg R.ctx tm H nx (h' R.ctx) (.mk tm H nx j (o::os)) with e|⟨tm1,H1,nx1,hst,e⟩;exact ⟨_,_,_,_,_,e, .refl _⟩;obtain ⟨tm',H',nx',j',rest,e',hr⟩:=Q4s hs os (j+1) hh tm1 H1 nx1;exact ⟨_,_,_,_,_,e.trans e', .step (hst R todo j os rfl rfl) hr⟩
end Go.Ax
namespace Go.Ax
open Go.RowKit
inductive CR where
 |mk (tm:Tr AV) (cur:zm) (todo:List Qj) (H:Tr Q7) (nx:Nat)
abbrev CK:=Tr AV->List Qj->Tr Q7->Nat->CR
abbrev Spec:=Env->Nat->Oper->Option (Box RC)
noncomputable def Q56 (ops:List Oper) (k:List Qj) (ih:CK) (r:RR):CR:=RR.rec (motive:=λ_=>CR) (λtm H nx j rest=>List.rec (motive:=λ_=>CR) (ih tm k H nx) (λo os _=> .mk tm (.reg ops j (o::os)) k H nx) rest) r
noncomputable def condK (v:AV):CK->List Qj->Code->Code->CR->Tr AV->Tr Q7->Nat->CR:=
 match v with
 | .bool b=>λih k thn els _ tm H nx=>Bool.rec (motive:=λ_=>CR) (ih tm (.code els::k) H nx) (ih tm (.code thn::k) H nx) b
 |_=>λ_ _ _ _ z _ _ _=>z
noncomputable def Qo6 (v:Option AV):CK->List Qj->Code->Code->CR->Tr AV->Tr Q7->Nat->CR:=
 match v with
 |some v=>condK v
 |none=>λ_ _ _ _ z _ _ _=>z
noncomputable def Qm6 (v:Option (List Qj)):CK->CR->Tr AV->Tr Q7->Nat->CR:=
 match v with
 |some k=>λih _ tm H nx=>ih tm k H nx
 |none=>λ_ z _ _ _=>z
noncomputable def regK (draw:Bool):Spec->Env->Nat->Ctx->CK->List Qj->List Oper->CR->Tr AV->Tr Q7->Nat->CR:=
 match draw with
 |true=>λ_ _ _ _ _ _ _ z _ _ _=>z
 |false=>λspec G nt c ih k ops _ tm H nx=>Box.rec (motive:=λ_=>CR) (λh=>Q56 ops k ih (h c tm H nx)) (Q4t spec G nt ops ops 0)
noncomputable def Qfj (cd:Code):Spec->Env->Nat->Ctx->CK->List Qj->Tr AV->Tr Q7->Nat->CR:=
 match cd with
 | .skip=>λ_ _ _ _ ih k tm H nx=>ih tm k H nx
 | .label _=>λ_ _ _ _ ih k tm H nx=>ih tm k H nx
 | .seq a b=>λ_ _ _ _ ih k tm H nx=>ih tm (.code a:: .code b::k) H nx
 | .cond x thn els=>λ_ G _ _ ih k tm H nx=>Qo6 (ev G.T.ng tm x) ih k thn els (.mk tm .none (.code (.cond x thn els)::k) H nx) tm H nx
 | .block id body=>λ_ _ _ _ ih k tm H nx=>ih tm (.code body:: .inBlock id::k) H nx
 | .loop body=>λ_ _ _ _ ih k tm H nx=>ih tm (.code body:: .inLoop body::k) H nx
 | .scope body=>λ_ _ _ _ ih k tm H nx=>ih tm (.code body:: .inScope body::k) H nx
 | .exit id=>λ_ _ _ _ ih k tm H nx=>Qm6 (YL id k) ih (.mk tm .none (.code (.exit id)::k) H nx) tm H nx
 | .goto l=>λ_ _ _ _ ih k tm H nx=>Qm6 (YK l k) ih (.mk tm .none (.code (.goto l)::k) H nx) tm H nx
 | .region id ops draw=>λspec G nt c ih k tm H nx=>regK draw spec G nt c ih k ops.toList (.mk tm .none (.code (.region id ops draw)::k) H nx) tm H nx
 |cd=>λ_ _ _ _ _ k tm H nx=> .mk tm .none (.code cd::k) H nx
noncomputable def itemK (it:Qj):Spec->Env->Nat->Ctx->CK->List Qj->Tr AV->Tr Q7->Nat->CR:=
 match it with
 | .code c=>Qfj c
 | .inBlock _=>λ_ _ _ _ ih k tm H nx=>ih tm k H nx
 | .inScope _=>λ_ _ _ _ ih k tm H nx=>ih tm k H nx
 | .inLoop body=>λ_ _ _ _ ih k tm H nx=>ih tm (.code body:: .inLoop body::k) H nx
 |it=>λ_ _ _ _ _ k tm H nx=> .mk tm .none (it::k) H nx
noncomputable def Qm7 (todo:List Qj):Spec->Env->Nat->Ctx->CK->Tr AV->Tr Q7->Nat->CR:=
 match todo with
 |[]=>λ_ _ _ _ _ tm H nx=> .mk tm .none [] H nx
 |it::k=>λspec G nt c ih tm H nx=>itemK it spec G nt c ih k tm H nx
noncomputable def ctl (spec:Spec) (G:Env) (nt:Nat) (c:Ctx) (n:Nat):CK:=Nat.rec (motive:=λ_=>CK) (λtm todo H nx=> .mk tm .none todo H nx) (λ_ ih tm todo H nx=>Qm7 todo spec G nt c ih tm H nx) n
def Qon (G:Env) (R:Rest) (f:CK):Prop:=∀tm todo H nx,∃tm' cur' todo' H' nx',f tm todo H nx= .mk tm' cur' todo' H' nx' /\Za G (mkS R tm .none todo H nx) (mkS R tm' cur' todo' H' nx')
def Goes (G:Env) (R:Rest) (s:AM) (r:CR):Prop:=∃tm' cur' todo' H' nx',r= .mk tm' cur' todo' H' nx' /\Za G s (mkS R tm' cur' todo' H' nx')
theorem Goes.ih {G:Env} {R:Rest} {f:CK} (h:Qon G R f) {s:AM} {tm:Tr AV} {todo:List Qj} {H:Tr Q7} {nx:Nat} (hs:ZK G s= .next (mkS R tm .none todo H nx)):Goes G R s (f tm todo H nx):=by obtain ⟨a,b,c,d,e,h1,h2⟩:=h tm todo H nx;exact ⟨a,b,c,d,e,h1, .step hs h2⟩
theorem Goes.stay {G:Env} {R:Rest} (tm:Tr AV) (cur:zm) (todo:List Qj) (H:Tr Q7) (nx:Nat):Goes G R (mkS R tm cur todo H nx) (.mk tm cur todo H nx):=⟨_,_,_,_,_,rfl, .refl _⟩
theorem Q1v {G:Env} {R:Rest} {ih:CK} (hi:Qon G R ih) {ops:List Oper} {k:List Qj} {s:AM} {tm:Tr AV} {H:Tr Q7} {nx j:Nat} {rest:List Oper} (hr:Za G s (mkS R tm (.reg ops j rest) k H nx)):Goes G R s (Q56 ops k ih (.mk tm H nx j rest)):=by
 cases rest with
 |nil=>obtain ⟨a,b,c,d,e,h1,h2⟩:=hi tm k H nx;refine ⟨a,b,c,d,e,h1,hr.trans (.step ?_ h2)⟩;rfl
 |cons o os=>exact ⟨_,_,_,_,_,rfl,hr⟩
theorem Qi2 {G:Env} {R:Rest} {ih:CK} (hi:Qon G R ih) {x:Operand} {thn els:Code} {k:List Qj} {tm:Tr AV} {H:Tr Q7} {nx:Nat}:
 Goes G R (mkS R tm .none (.code (.cond x thn els)::k) H nx) (Qo6 (ev G.T.ng tm x) ih k thn els (.mk tm .none (.code (.cond x thn els)::k) H nx) tm H nx):=by
 cases hv:ev G.T.ng tm x with
 |none=>exact Goes.stay _ _ _ _ _
 |some v=>
  cases v
  case bool b=>cases b<;>exact Goes.ih hi (by simp only [ZK,hv])
  all_goals exact Goes.stay _ _ _ _ _
theorem Qi5 {spec:Spec} {G:Env} (hs:ZJ G spec) {R:Rest} {ih:CK} (hi:Qon G R ih) (cd:Code) (k:List Qj) (tm:Tr AV) (H:Tr Q7) (nx:Nat):
 Goes G R (mkS R tm .none (.code cd::k) H nx) (Qfj cd spec G R.nt R.ctx ih k tm H nx):=by
 cases cd with
 |skip=>exact Goes.ih hi rfl
 |label l=>exact Goes.ih hi rfl
 |seq a b=>exact Goes.ih hi rfl
 |cond x thn els=>exact Qi2 hi
 |block id body=>exact Goes.ih hi rfl
 |loop body=>exact Goes.ih hi rfl
 |scope body=>exact Goes.ih hi rfl
 |exit id=>
  simp only [Qfj];cases he:YL id k with
  |none=>exact Goes.stay _ _ _ _ _
  |some k' =>exact Goes.ih hi (by simp only [ZK,he])
 |goto l=>
  simp only [Qfj];cases he:YK l k with
  |none=>exact Goes.stay _ _ _ _ _
  |some k' =>exact Goes.ih hi (by simp only [ZK,he])
 |region id ops draw=>
  cases draw with
  |true=>exact Goes.stay _ _ _ _ _
  |false=>
   simp only [Qfj,regK];cases hc:Q4t spec G R.nt ops.toList ops.toList 0 with
   |mk h=>obtain ⟨tm',H',nx',j',rest,e,hr⟩:=Q4s hs (todo:=k) ops.toList 0 hc tm H nx;simp only [e];exact Q1v hi (.step rfl hr)
 |_=>exact Goes.stay _ _ _ _ _
theorem Qj8 {spec:Spec} {G:Env} (hs:ZJ G spec) {R:Rest}:∀n,Qon G R (ctl spec G R.nt R.ctx n)
 |0,tm,todo,H,nx=>Goes.stay _ _ _ _ _
 |n+1,tm,todo,H,nx=>by
  have hi:=Qj8 hs n (R:=R);have e:ctl spec G R.nt R.ctx (n+1) tm todo H nx=Qm7 todo spec G R.nt R.ctx (ctl spec G R.nt R.ctx n) tm H nx:=rfl;rw [e];cases todo with
  |nil=>exact Goes.stay _ _ _ _ _
  |cons it k=>
   cases it with
   |code c=>exact Qi5 hs hi c k tm H nx
   |inBlock id=>exact Goes.ih hi rfl
   |inScope b=>exact Goes.ih hi rfl
   |inLoop b=>exact Goes.ih hi rfl
   |_=>exact Goes.stay _ _ _ _ _
noncomputable def ofCR (r:CR):Nat->Nat->List ADf->Option Nat->List Qg->Ctx->AM:=CR.rec (motive:=λ_=>Nat->Nat->List ADf->Option Nat->List Qg->Ctx->AM) (λtm cur todo H nx fn nt defers ro cs c=>⟨⟨fn,nt,tm,cur,todo,defers,false,ro⟩,cs,H,nx,c⟩) r
noncomputable def Qkz (cur:zm):Spec->Env->Nat->Ctx->CK->List Qj->Tr AV->Tr Q7->Nat->CR:=
 match cur with
 | .none=>λ_ _ _ _ ih k tm H nx=>ih tm k H nx
 | .reg ops j rest=>λspec G nt c ih k tm H nx=>Box.rec (motive:=λ_=>CR) (λh=>Q56 ops k ih (h c tm H nx)) (Q4t spec G nt ops rest j)
 |cur=>λ_ _ _ _ _ k tm H nx=> .mk tm cur k H nx
noncomputable def fast (spec:Spec) (G:Env) (n:Nat) (s:AM):AM:=AM.rec (motive:=λ_=>AM) (λfr cs H nx c=>Qg.rec (motive:=λ_=>AM) (λfn nt tm cur todo defers ret ro=>Bool.rec (motive:=λ_=>AM) (ofCR (Qkz cur spec G nt c (ctl spec G nt c n) todo tm H nx) fn nt defers ro cs c) ⟨⟨fn,nt,tm,cur,todo,defers,true,ro⟩,cs,H,nx,c⟩ ret) fr) s
theorem fast_ok {spec:Spec} {G:Env} (hs:ZJ G spec) (n:Nat) (s:AM):Za G s (fast spec G n s):=by
 obtain ⟨⟨fn,nt,tm,cur,todo,defers,ret,ro⟩,cs,H,nx,c⟩:=s;cases ret with
 |true=>exact .refl _
 |false=>
  have hi:=Qj8 hs n (R:=⟨fn,nt,defers,ro,cs,c⟩);have key:∀{r},Goes G ⟨fn,nt,defers,ro,cs,c⟩ ⟨⟨fn,nt,tm,cur,todo,defers,false,ro⟩,cs,H,nx,c⟩ r->Za G ⟨⟨fn,nt,tm,cur,todo,defers,false,ro⟩,cs,H,nx,c⟩ (ofCR r fn nt defers ro cs c):=by
   rintro r ⟨a,b,c',d,e,rfl,h⟩
   exact h
  refine key ?_;cases cur with
  |none=>exact hi tm todo H nx
  |reg ops j rest=>
   simp only;cases hc:Q4t spec G nt ops rest j with
   |mk h=>obtain ⟨tm',H',nx',j',rest',e,hr⟩:=Q4s hs (R:=⟨fn,nt,defers,ro,cs,c⟩) (todo:=todo) rest j hc tm H nx;simp only [e];exact Q1v hi hr
  |draw ops done rest pa=>exact Goes.stay _ _ _ _ _
noncomputable def leaf (spec:Spec) (G:Env) (n:Nat) (s:AM):YN:=
 match ZK G s with
 | .next s' =>AM.rec (motive:=λ_=>YN) (λa b c d e=> .go ⟨a,b,c,d,e⟩) (fast spec G n s')
 |_=> .stop s
noncomputable def Qgc (spec:Spec) (G:Env) (n:Nat) (k:Nat):AM->YN:=
 Nat.rec (motive:=λ_=>AM->YN) (λs=>leaf spec G n s)
  (λ_ ih s=>YN.rec (motive:=λ_=>YN) (λs=>ih s) (λs=> .stop s) (ih s)) k
theorem Q0h {spec:Spec} {G:Env} (hs:ZJ G spec) (n:Nat):∀(k:Nat) (s:AM),Za G s (Qgc spec G n k s).state
 |0,s=>by
  have e:Qgc spec G n 0 s=leaf spec G n s:=rfl;rw [e];unfold leaf;split;rename_i s' h;have:(AM.rec (motive:=λ_=>YN) (λa b c d e=> .go ⟨a,b,c,d,e⟩) (fast spec G n s'):YN)= .go (fast spec G n s'):=by cases fast spec G n s';rfl
  rw [this];exact .step h (fast_ok hs n s')
  exact .refl s
 |k+1,s=>by
  have e:Qgc spec G n (k+1) s=YN.rec (motive:=λ_=>YN) (λs=>Qgc spec G n k s) (λs=> .stop s) (Qgc spec G n k s):=rfl;rw [e];have h1:=Q0h hs n k s;cases hr:Qgc spec G n k s with
  |go s1=>rw [hr] at h1;exact h1.trans (Q0h hs n k s1)
  |stop s1=>rw [hr] at h1;exact h1
end Go.Ax
namespace Go.Ax
open Go.RowKit
noncomputable def Qka {β α:Type} (l:List α):Nat->(α->β)->β->β:=List.rec (motive:=λ_=>Nat->(α->β)->β->β) (λ_ _ z=>z) (λa _ ih i k z=>Nat.rec (motive:=λ_=>β) (k a) (λj _=>ih j k z) i) l
theorem Q0s {β α:Type}:∀(l:List α) (i:Nat) (k:α->β) (z:β),Qka l i k z=match l[i]? with|some a=>k a|none=>z
 |[],i,k,z=>rfl
 |a::l,0,k,z=>rfl
 |a::l,i+1,k,z=>by have:Qka (a::l) (i+1) k z=Qka l i k z:=rfl;rw [this,Q0s l i k z];simp
noncomputable def Qmm {α:Type} (l:List α):Nat->α->List α:=List.rec (motive:=λ_=>Nat->α->List α) (λ_ _=>[]) (λa l ih i v=>Nat.rec (motive:=λ_=>List α) (v::l) (λj _=>a::ih j v) i) l
theorem Qdo {α:Type}:∀(l:List α) (i:Nat) (v:α),Qmm l i v=l.set i v
 |[],i,v=>rfl
 |a::l,0,v=>rfl
 |a::l,i+1,v=>by have:Qmm (a::l) (i+1) v=a::Qmm l i v:=rfl;rw [this,Qdo l i v];rfl
noncomputable def lenR {α:Type} (l:List α):Nat:=List.rec (motive:=λ_=>Nat) 0 (λ_ _ ih=>Nat.succ ih) l
theorem Qek {α:Type}:∀l:List α,lenR l=l.length
 |[]=>rfl
 |_::l=>congrArg Nat.succ (Qek l)
abbrev LC:=Ctx->Tr Q7->(Operand->Option AV)->D LR
noncomputable def Qaf (G:Env) (op:Op):Box LC:=
 match op with
 | .move x=> .mk λ_ _ f=>ZY (f x)
 | .assign x=> .mk λ_ _ f=>ZY (f x)
 | .pick q a b=> .mk λ_ _ f=>(D.of (f q)).bind λq=>match q with
  | .bool true=>ZY (f a)
  | .bool false=>ZY (f b)
  |_=> .fail
 | .alloc t=> .mk λ_ _ _=>D.of (Qbe G.T t)
 | .box t x=> .mk λ_ _ f=>(D.of (f x)).bind λx=> .ok (.ptr (.cells x.cellsOf t true true false))
 | .build t ps=> .mk λ_ _ f=>(D.of (Qj7 f ps.toList)).bind λps=>ZY (Qbb G.T t ps)
 | .buildSlice t n ps=> .mk λ_ _ f=>(D.of (Qj7 f ps.toList)).bind λps=>D.of (Js G.T t n ps)
 | .load t x=> .mk λ_ H f=>(D.of (f x)).bind λx=>ZY (Q9h G.T H t x)
 | .nilCheck x=> .mk λ_ _ f=>(D.of (f x)).bind λx=>ZY (Qm1 x)
 | .binOp op t x y _=> .mk λc H f=>(D.of (f x)).bind λa=>(D.of (f y)).bind λb=>mapD (Qbd G.T c H (isK x||isK y) op t a b)
 | .unOp op _ x=> .mk λ_ _ f=>(D.of (f x)).bind λx=>ZY (aun op x)
 | .convert src dst x=> .mk λc H f=>(D.of (f x)).bind λx=>match Q7v G.T src dst x with
  |some r=> .ok r
  |none=>ZY (Qg8 G.T c H src dst x)
 | .makeInterface t x=> .mk λ_ _ f=>(D.of (f x)).bind λx=>ZY (qp G.T t x)
 | .makeSlice t l k=> .mk λ_ _ f=>(D.of (f l)).bind λl=>(D.of (f k)).bind λk=>D.of (qo G.T t l k)
 | .slice t x lo hi mx=> .mk λc H f=>(D.of (f x)).bind λx=>(D.of (evO f lo)).bind λlo=>(D.of (evO f hi)).bind λhi=>(D.of (evO f mx)).bind λmx=>ZY (orS (aslice G.T H t x lo hi mx) (Q4y G.T c t x lo hi mx))
 | .fieldAddr t x k=> .mk λ_ _ f=>(D.of (f x)).bind λx=>ZY (Yj G.T t x k)
 | .field t x k=> .mk λ_ _ f=>(D.of (f x)).bind λx=>ZY (Qb6 G.T t x k)
 | .indexAddr t x ix=> .mk λc _ f=>(D.of (f x)).bind λx=>(D.of (f ix)).bind λix=>(Qj9 c ix).bind λix=>ZY (Yi G.T t x ix)
 | .index t x ix=> .mk λc _ f=>(D.of (f x)).bind λx=>(D.of (f ix)).bind λix=>match Q1t G.T c t x ix with
  |some v=> .ok (.val v)
  |none=>(Qj9 c ix).bind λix=>ZY (Q7p G.T t x ix)
 | .lookup t x ix ok=> .mk λc H f=>(D.of (f x)).bind λx=>(D.of (f ix)).bind λix=>mapD (Qik G.T c H t x ix ok)
 | .typeAssert x _ a ok=> .mk λ_ _ f=>(D.of (f x)).bind λx=>ZY (Q5b G.T G.I x a ok)
 | .extract x k=> .mk λ_ _ f=>(D.of (f x)).bind λx=>ZY (j6 x k)
 | .store _ _ _=> .mk λ_ _ _=> .fail
 |op=> .mk λc H f=>light G.T G.I c H f op
theorem Qej {G:Env} {op:Op} {g:LC} (h:Qaf G op= .mk g) (c:Ctx) (H:Tr Q7) (f:Operand->Option AV):g c H f=light G.T G.I c H f op:=by unfold Qaf at h;split at h<;>(simp only [Box.mk.injEq] at h;subst h;rfl)
noncomputable def Qaj (op:Op):Box (Env->Ctx->Tr Q7->Nat->(Operand->Option AV)->D HR):=
 match op with
 | .store t a x=> .mk λG _ H nx f=>match f a,f x with
  |some a,some x=>D.of (Q7i G.T H nx t a x)
  |_,_=> .fail
 |op=> .mk λG c H nx f=>ZN G c H nx f op
theorem Qf0 {G:Env} {op:Op} {g:Env->Ctx->Tr Q7->Nat->(Operand->Option AV)->D HR} (h:Qaj op= .mk g) (c:Ctx) (H:Tr Q7) (nx:Nat) (f:Operand->Option AV):g G c H nx f=ZN G c H nx f op:=by unfold Qaj at h;split at h<;>(simp only [Box.mk.injEq] at h;subst h;rfl)
noncomputable def Qj5 (d:D LR):(Tr AV->AV->Tr AV)->Tr AV->Tr Q7->Nat->RK->RR->D HR->RR:=
 match d with
 | .ok r=>λput tm H nx k _ _=>Qnm r put tm H nx k
 | .ask _ _ _=>λ_ _ _ _ _ z _=>z
 | .fail=>λput tm _ _ k z d=>zT d put tm k z
noncomputable def genB (G:Env) (o:Oper) (put:Tr AV->AV->Tr AV):Box RC:=
 match Qaf G o.op,Qaj o.op with
 | .mk l, .mk h=> .mk λc tm H nx k z=>Qj5 (l c H (ev G.T.ng tm)) put tm H nx k z (h G c H nx (ev G.T.ng tm))
theorem Qkv {G:Env} {nt:Nat} {ops:List Oper} {o:Oper} {put:Tr AV->AV->Tr AV} (hp:Y5 nt o.dst put) {g:RC} (h:genB G o put= .mk g):QG G nt ops o g:=by
 unfold genB at h;cases hl:Qaf G o.op with
 |mk l=>
  cases hh:Qaj o.op with
  |mk hv=>
   rw [hl,hh] at h;simp only [Box.mk.injEq] at h;subst h;intro c tm H nx k z hw;have e1:=Qej hl c H (ev G.T.ng tm);have e2:=Qf0 (G:=G) hh c H nx (ev G.T.ng tm);have:=Qf5 (G:=G) hp c tm H nx k z hw (ops:=ops);have e:Qnn G o put c tm H nx k z=Qj5 (l c H (ev G.T.ng tm)) put tm H nx k z (hv G c H nx (ev G.T.ng tm)):=by rw [e1,e2];unfold Qnn;cases light G.T G.I c H (ev G.T.ng tm) o.op<;>rfl
   rw [e] at this;exact this
abbrev RD:=Tr AV->(AV->RR)->RR
noncomputable def rdB (ng:Nat) (x:Operand):Option (Box RD):=
 match x with
 | .tmp t=>some (.mk λtm k=>Option.rec (motive:=λ_=>RR) (k .undef) k (tm.get t))
 | .const v=>match ofV 6 v with
  |some a=>some (.mk λ_ k=>k a)
  |none=>none
 | .global g=>bif Nat.blt g ng then some (.mk λ_ k=>k (.ptr g 0)) else none
 | .func f=>some (.mk λ_ k=>k (.func f [] []))
theorem Zx {ng:Nat} {x:Operand} {r:RD} (h:rdB ng x=some (.mk r)) (tm:Tr AV):∃a,ev ng tm x=some a/\∀k,r tm k=k a:=by
 unfold rdB at h;cases x with
 |tmp t=>simp only [Option.some.injEq,Box.mk.injEq] at h;subst h;refine ⟨_,rfl,λk=>?_⟩;simp only;cases tm.get t<;>rfl
 |const v=>
  simp only at h;cases hv:ofV 6 v with
  |none=>rw [hv] at h;cases h
  |some a=>rw [hv] at h;simp only [Option.some.injEq,Box.mk.injEq] at h;subst h;exact ⟨a,by simp only [ev,hv],λk=>rfl⟩
 |global g=>
  simp only at h;cases hb:Nat.blt g ng with
  |false=>rw [hb] at h;cases h
  |true=>rw [hb] at h;simp only [cond_true,Option.some.injEq,Box.mk.injEq] at h;subst h;exact ⟨_,by simp only [ev,hb,cond_true],λk=>rfl⟩
 |func f=>simp only [Option.some.injEq,Box.mk.injEq] at h;subst h;exact ⟨_,rfl,λk=>rfl⟩
noncomputable def Qlr (a:AV):(Nat->Nat->RR)->RR->RR:=
 match a with
 | .ptr b o=>λf _=>f b o
 |_=>λ_ z=>z
noncomputable def natE (e:E):(Nat->RR)->RR->RR:=
 match e with
 | .lit n=>λf z=>Int.rec (motive:=λ_=>RR) (λm=>f m) (λ_=>z) n
 |_=>λ_ z=>z
noncomputable def Qkp (a:AV):(IntKind->Nat->RR)->RR->RR:=
 match a with
 | .int k e=>λf z=>natE e (f k) z
 |_=>λ_ z=>z
theorem Q44 (a:AV) (f:Nat->Nat->RR) (z:RR):Qlr a f z=z\/∃b o,a= .ptr b o/\Qlr a f z=f b o:=by
 cases a
 case ptr b o=>exact .inr ⟨b,o,rfl,rfl⟩
 all_goals exact .inl rfl
theorem Q16 (a:AV) (f:IntKind->Nat->RR) (z:RR):Qkp a f z=z\/∃k m,a= .int k (.lit (.ofNat m))/\Qkp a f z=f k m:=by
 cases a
 case int k e=>
  cases e
  case lit n=>
   cases n with
   |ofNat m=>exact .inr ⟨k,m,rfl,rfl⟩
   |negSucc m=>exact .inl rfl
  all_goals exact .inl rfl
 all_goals exact .inl rfl
noncomputable def Qoc (o:Q7):(List AV->TypeId->Bool->Bool->Bool->RR)->RR->RR:=
 match o with
 | .cells cs el ex pl ro=>λf _=>f cs el ex pl ro
 |_=>λ_ z=>z
noncomputable def Qb1 (o:Option Q7):(List AV->TypeId->Bool->Bool->Bool->RR)->RR->RR:=
 match o with
 |some o=>Qoc o
 |none=>λ_ z=>z
theorem Q78 (o:Option Q7) (f:List AV->TypeId->Bool->Bool->Bool->RR) (z:RR):Qb1 o f z=z\/∃cs el ex pl ro,o=some (.cells cs el ex pl ro)/\Qb1 o f z=f cs el ex pl ro:=by
 cases o with
 |none=>exact .inl rfl
 |some o=>
  cases o
  case cells cs el ex pl ro=>exact .inr ⟨cs,el,ex,pl,ro,rfl,rfl⟩
  all_goals exact .inl rfl
noncomputable def qJ (k:IntKind):Nat:=IntKind.rec (motive:=λ_=>Nat) 127 32767 2147483647 9223372036854775807 255 65535 4294967295 18446744073709551615 k
theorem qI {k:IntKind} {n:Nat} (h:Nat.ble n (qJ k)=true):Zl k (.ofNat n)=true:=by
 cases k<;>first
  |exact h
  |(simp only [qJ,Nat.ble_eq,Zl,Nat.ble_eq] at h ⊢;omega)
theorem Yy {k:IntKind} {n:Nat} (h:Nat.ble n (qJ k)=true):Y2 k (.ofNat n)= .ofNat n:=by unfold Y2;rw [qI h];rfl
end Go.Ax
namespace Go.Ax
open Go.RowKit
noncomputable def moveB (ng:Nat) (x:Operand) (put:Tr AV->AV->Tr AV) (gen:RC):Box RC:=
 match rdB ng x with
 |some (.mk r)=> .mk λ_ tm H nx k _=>r tm λa=>k (put tm a) H nx
 |none=> .mk gen
noncomputable def Qki (G:Env) (t:TypeId) (x:Operand) (put:Tr AV->AV->Tr AV) (gen:RC):Box RC:=
 match rdB G.T.ng x,G.T.ty t with
 |some (.mk r),some ti=>bif Q15 ti.desc then .mk gen else
  .mk λc tm H nx k z=>(λzz=>r tm λa=>Qlr a (λb o=>Qb1 (H.get b) (λcs _ _ _ _=>Qka cs o (λv=>k (put tm v) H nx) zz) zz) zz) (gen c tm H nx k z)
 |_,_=> .mk gen
noncomputable def cellV (v:AV):RR->RR->RR:=
 match v with
 | .agg _=>λ_ z=>z
 | .tuple _=>λ_ z=>z
 | .top=>λ_ z=>z
 |_=>λy _=>y
noncomputable def Qdb (G:Env) (t:TypeId) (a x:Operand) (put:Tr AV->AV->Tr AV) (gen:RC):Box RC:=
 match rdB G.T.ng a,rdB G.T.ng x,G.T.ty t with
 |some (.mk r),some (.mk q),some ti=>bif Nat.beq ti.size 1 then
  .mk λc tm H nx k z=>(λzz=>r tm λa=>q tm λv=>Qlr a (λb o=>Qb1 (H.get b) (λcs el ex pl ro=>Bool.rec (motive:=λ_=>RR)
   (cellV v (Qka cs o (λ_=>k (put tm .undef) (H.set b (.cells (Qmm cs o v) el ex pl false)) nx) zz) zz) zz ro) zz) zz) (gen c tm H nx k z)
  else .mk gen
 |_,_,_=> .mk gen
noncomputable def Qke (op:BinOp):Option (Box (IntKind->Nat->Nat->(AV->RR)->RR->RR)):=
 match op with
 | .add=>some (.mk λk m n f z=>QE (Nat.add m n) λr=>Bool.rec (motive:=λ_=>RR) z (f (.int k (.lit (.ofNat r)))) (Nat.ble r (qJ k)))
 | .sub=>some (.mk λk m n f z=>Bool.rec (motive:=λ_=>RR) z (QE (Nat.sub m n) λr=>Bool.rec (motive:=λ_=>RR) z (f (.int k (.lit (.ofNat r)))) (Nat.ble r (qJ k))) (Nat.ble n m))
 | .mul=>some (.mk λk m n f z=>QE (Nat.mul m n) λr=>Bool.rec (motive:=λ_=>RR) z (f (.int k (.lit (.ofNat r)))) (Nat.ble r (qJ k)))
 | .quo=>some (.mk λk m n f z=>Bool.rec (motive:=λ_=>RR) (QE (Nat.div m n) λr=>Bool.rec (motive:=λ_=>RR) z (f (.int k (.lit (.ofNat r)))) (Nat.ble r (qJ k))) z (Nat.beq n 0))
 | .rem=>some (.mk λk m n f z=>Bool.rec (motive:=λ_=>RR) (QE (Nat.mod m n) λr=>f (.int k (.lit (.ofNat r)))) z (Nat.beq n 0))
 | .and=>some (.mk λk m n f z=>Bool.rec (motive:=λ_=>RR) z (Bool.rec (motive:=λ_=>RR) z (QE (Nat.land m n) λr=>Bool.rec (motive:=λ_=>RR) z (f (.int k (.lit (.ofNat r)))) (Nat.ble r (qJ k))) (Nat.ble n (qJ k))) (Nat.ble m (qJ k)))
 | .or=>some (.mk λk m n f z=>Bool.rec (motive:=λ_=>RR) z (Bool.rec (motive:=λ_=>RR) z (QE (Nat.lor m n) λr=>Bool.rec (motive:=λ_=>RR) z (f (.int k (.lit (.ofNat r)))) (Nat.ble r (qJ k))) (Nat.ble n (qJ k))) (Nat.ble m (qJ k)))
 | .xor=>some (.mk λk m n f z=>Bool.rec (motive:=λ_=>RR) z (Bool.rec (motive:=λ_=>RR) z (QE (Nat.xor m n) λr=>Bool.rec (motive:=λ_=>RR) z (f (.int k (.lit (.ofNat r)))) (Nat.ble r (qJ k))) (Nat.ble n (qJ k))) (Nat.ble m (qJ k)))
 | .eql=>some (.mk λ_ m n f _=>f (.bool (Nat.beq m n)))
 | .neq=>some (.mk λ_ m n f _=>f (.bool (not (Nat.beq m n))))
 | .lss=>some (.mk λ_ m n f _=>f (.bool (Nat.blt m n)))
 | .leq=>some (.mk λ_ m n f _=>f (.bool (not (Nat.blt n m))))
 | .gtr=>some (.mk λ_ m n f _=>f (.bool (Nat.blt n m)))
 | .geq=>some (.mk λ_ m n f _=>f (.bool (not (Nat.blt m n))))
 |_=>none
noncomputable def binB (ng:Nat) (op:BinOp) (x y:Operand) (put:Tr AV->AV->Tr AV) (gen:RC):Box RC:=
 match rdB ng x,rdB ng y,Qke op with
 |some (.mk r),some (.mk q),some (.mk g)=> .mk λc tm H nx k z=>(λzz=>r tm λa=>q tm λb=>Qkp a (λka m=>Qkp b (λkb n=>Bool.rec (motive:=λ_=>RR) zz (g ka m n (λv=>k (put tm v) H nx) zz) (Nat.beq (kN ka) (kN kb))) zz) zz) (gen c tm H nx k z)
 |_,_,_=> .mk gen
noncomputable def Qfw (a:AV):RR->RR->RR->RR:=
 match a with
 | .bool b=>λy n _=>Bool.rec (motive:=λ_=>RR) n y b
 |_=>λ_ _ z=>z
noncomputable def Qk7 (ng:Nat) (q x y:Operand) (put:Tr AV->AV->Tr AV) (gen:RC):Box RC:=
 match rdB ng q,rdB ng x,rdB ng y with
 |some (.mk p),some (.mk r),some (.mk s)=> .mk λc tm H nx k z=>p tm λb=>Qfw b (r tm λa=>k (put tm a) H nx) (s tm λa=>k (put tm a) H nx) (gen c tm H nx k z)
 |_,_,_=> .mk gen
noncomputable def notB (ng:Nat) (x:Operand) (put:Tr AV->AV->Tr AV) (gen:RC):Box RC:=
 match rdB ng x with
 |some (.mk r)=> .mk λc tm H nx k z=>r tm λa=>Qfw a (k (put tm (.bool false)) H nx) (k (put tm (.bool true)) H nx) (gen c tm H nx k z)
 |none=> .mk gen
noncomputable def Q4h (T:Tab) (s:TypeId) (f:Nat):Option Nat:=
 match T.ty s with
 |some ti=>
  match ti.desc with
  | .struct fs=>
   match fs[f]? with
   |some fd=>
    match T.ty fd.type with
    |some fi=>bif Nat.beq fi.size 0 then none else some fd.offset
    |none=>none
   |none=>none
  |_=>none
 |none=>none
theorem Q92 {T:Tab} {s:TypeId} {f n:Nat} (h:Q4h T s f=some n) (b o:Nat):Yj T s (.ptr b o) f=some (.ptr b (o+n)):=by
 unfold Q4h at h;unfold Yj;split at h;rename_i ti hti;simp only [hti];split at h;rename_i fs hd;simp only [hd];split at h;rename_i fd hf;simp only [hf];split at h;rename_i fi hfi;simp only [hfi];cases hz:Nat.beq fi.size 0 with
 |true=>rw [hz] at h;cases h
 |false=>rw [hz] at h;simp only [cond_false,Option.some.injEq] at h;subst h;rfl
 cases h;cases h;cases h;cases h
noncomputable def jJ (G:Env) (t:TypeId) (x:Operand) (f:Nat) (put:Tr AV->AV->Tr AV) (gen:RC):Box RC:=
 match rdB G.T.ng x,Q4h G.T t f with
 |some (.mk r),some n=>QE n λn=> .mk λc tm H nx k z=>r tm λa=>Qlr a (λb o=>QE (Nat.add o n) λo' =>k (put tm (.ptr b o')) H nx) (gen c tm H nx k z)
 |_,_=> .mk gen
noncomputable def nilB (ng:Nat) (x:Operand) (put:Tr AV->AV->Tr AV) (gen:RC):Box RC:=
 match rdB ng x with
 |some (.mk r)=> .mk λc tm H nx k z=>r tm λa=>Qlr a (λ_ _=>k (put tm a) H nx) (gen c tm H nx k z)
 |none=> .mk gen
noncomputable def tupK (a:AV):(List AV->RR)->RR->RR:=
 match a with
 | .tuple vs=>λf _=>f vs
 |_=>λ_ z=>z
noncomputable def Q4k (ng:Nat) (x:Operand) (i:Nat) (put:Tr AV->AV->Tr AV) (gen:RC):Box RC:=
 match rdB ng x with
 |some (.mk r)=> .mk λc tm H nx k z=>(λzz=>r tm λa=>tupK a (λvs=>Qka vs i (λv=>k (put tm v) H nx) zz) zz) (gen c tm H nx k z)
 |none=> .mk gen
def intD (d:TypeDesc):Option IntKind:=
 match d with
 | .int k=>some k
 |_=>none
noncomputable def Ql7 (G:Env) (s t:TypeId) (x:Operand) (put:Tr AV->AV->Tr AV) (gen:RC):Box RC:=
 match rdB G.T.ng x,G.T.ty s,G.T.ty t with
 |some (.mk r),some _,some di=>match intD di.desc with
  |some kd=>QE (qJ kd) λtop=> .mk λc tm H nx k z=>(λzz=>r tm λa=>Qkp a (λ_ m=>Bool.rec (motive:=λ_=>RR) zz (k (put tm (.int kd (.lit (.ofNat m)))) H nx) (Nat.ble m top)) zz) (gen c tm H nx k z)
  |none=> .mk gen
 |_,_,_=> .mk gen
def Q30 (d:TypeDesc):Bool:=
 match d with
 | .string=>true
 |_=>false
def yZ (d:TypeDesc):Option TypeId:=
 match d with
 | .slice e=>some e
 |_=>none
noncomputable def strK (a:AV):(List E->RR)->RR->RR:=
 match a with
 | .str s=>λf _=>f s
 |_=>λ_ z=>z
noncomputable def Q9x (a:AV):(Nat->Nat->Nat->RR)->RR->RR:=
 match a with
 | .slice b o len _ _ _=>λf _=>f b o len
 |_=>λ_ z=>z
noncomputable def indexB (G:Env) (t:TypeId) (x ix:Operand) (put:Tr AV->AV->Tr AV) (gen:RC):Box RC:=
 match rdB G.T.ng x,rdB G.T.ng ix,G.T.ty t with
 |some (.mk r),some (.mk q),some ti=>bif Q30 ti.desc then
  .mk λc tm H nx k z=>(λzz=>r tm λa=>q tm λb=>strK a (λs=>Qkp b (λ_ i=>Qka s i (λv=>k (put tm (.int .u8 v)) H nx) zz) zz) zz) (gen c tm H nx k z)
  else .mk gen
 |_,_,_=> .mk gen
noncomputable def elemSize (T:Tab) (t:TypeId):Option Nat:=
 match T.ty t with
 |some ti=>match yZ ti.desc with
  |some e=>match T.ty e with
   |some ei=>some ei.size
   |none=>none
  |none=>none
 |none=>none
noncomputable def jG (G:Env) (t:TypeId) (x ix:Operand) (put:Tr AV->AV->Tr AV) (gen:RC):Box RC:=
 match rdB G.T.ng x,rdB G.T.ng ix,elemSize G.T t with
 |some (.mk r),some (.mk q),some es=>QE es λes=> .mk λc tm H nx k z=>(λzz=>r tm λa=>q tm λb=>Q9x a (λbl o len=>Qkp b (λ_ i=>Bool.rec (motive:=λ_=>RR) zz (QE (Nat.add o (Nat.mul i es)) λo' =>k (put tm (.ptr bl o')) H nx) (Nat.blt i len)) zz) zz) (gen c tm H nx k z)
 |_,_,_=> .mk gen
noncomputable def lenB (G:Env) (cl:Call) (put:Tr AV->AV->Tr AV) (gen:RC):Box RC:=
 match cl.callee,cl.argTypes.toList,cl.args.toList with
 | .builtin .len,[t],[x]=>match rdB G.T.ng x,G.T.ty t with
  |some (.mk r),some ti=>bif Q30 ti.desc then
   .mk λc tm H nx k z=>r tm λa=>strK a (λs=>QE (lenR s) λn=>k (put tm (.int .i64 (.lit (.ofNat n)))) H nx) (gen c tm H nx k z)
   else match yZ ti.desc with
    |some _=> .mk λc tm H nx k z=>r tm λa=>Q9x a (λ_ _ n=>k (put tm (.int .i64 (.lit (.ofNat n)))) H nx) (gen c tm H nx k z)
    |none=> .mk gen
  |_,_=> .mk gen
 |_,_,_=> .mk gen
noncomputable def Qdh (G:Env) (op:Op) (put:Tr AV->AV->Tr AV) (gen:RC):Box RC:=
 match op with
 | .move x=>moveB G.T.ng x put gen
 | .assign x=>moveB G.T.ng x put gen
 | .load t x=>Qki G t x put gen
 | .store t a x=>Qdb G t a x put gen
 | .binOp op _ x y _=>binB G.T.ng op x y put gen
 | .pick q x y=>Qk7 G.T.ng q x y put gen
 | .unOp op _ x=>match op with
  | .not=>notB G.T.ng x put gen
  |_=> .mk gen
 | .fieldAddr t x f=>jJ G t x f put gen
 | .nilCheck x=>nilB G.T.ng x put gen
 | .extract x i=>Q4k G.T.ng x i put gen
 | .convert s t x=>Ql7 G s t x put gen
 | .index t x ix=>indexB G t x ix put gen
 | .indexAddr t x ix=>jG G t x ix put gen
 | .call cl=>lenB G cl put gen
 |_=> .mk gen
noncomputable def zx:Spec:=λG nt o=>
 match putB nt o.dst with
 |none=>none
 |some (.mk put)=>match genB G o put with
  | .mk gen=>some (Qdh G o.op put gen)
end Go.Ax
namespace Go.Ax
open Go.RowKit
section
variable {G:Env} {nt:Nat} {ops:List Oper} {o:Oper} {put:Tr AV->AV->Tr AV} {gen g:RC}
def Fin (G:Env) (nt:Nat) (ops:List Oper) (o:Oper) (c:Ctx) (tm:Tr AV) (H:Tr Q7) (nx:Nat) (k:RK) (z r:RR):Prop:=r=z\/∃tm' H' nx',yG G nt ops o c tm H nx tm' H' nx' /\r=k tm' H' nx'
theorem Zv (hp:Y5 nt o.dst put) {c:Ctx} {tm:Tr AV} {H:Tr Q7} {nx:Nat} {k:RK} {z:RR} (hw:QL ops tm o=true) {v:AV}
 (h:light G.T G.I c H (ev G.T.ng tm) o.op= .ok (.val v)):Fin G nt ops o c tm H nx k z (k (put tm v) H nx):=
 .inr ⟨_,_,_,Q2q hp nx hw h,rfl⟩
theorem Qaa (hp:Y5 nt o.dst put) (hg:QG G nt ops o gen) {x:Operand} (hop:o.op= .move x\/o.op= .assign x) (h:moveB G.T.ng x put gen= .mk g):QG G nt ops o g:=by unfold moveB at h;split at h;rename_i r hr;simp only [Box.mk.injEq] at h;subst h;intro c tm H nx k z hw;obtain ⟨a,ha,hk⟩:=Zx hr tm;simp only [hk];refine Zv hp hw ?_;rcases hop with e|e<;>rw [e]<;>simp only [light,ha,ZY];cases h;exact hg
theorem Qhh (hp:Y5 nt o.dst put) (hg:QG G nt ops o gen) {t:TypeId} {x:Operand} (hop:o.op= .load t x) (h:Qki G t x put gen= .mk g):QG G nt ops o g:=by
 unfold Qki at h;split at h;rename_i r ti hr hti;cases hd:Q15 ti.desc with
 |true=>rw [hd] at h;cases h;exact hg
 |false=>
  rw [hd] at h;simp only [cond_false,Box.mk.injEq] at h;subst h;intro c tm H nx k z hw;have hz:Fin G nt ops o c tm H nx k z (gen c tm H nx k z):=hg c tm H nx k z hw;obtain ⟨a,ha,hk⟩:=Zx hr tm;simp only [hk];rcases Q44 a _ _ with e|⟨b,p,rfl,e⟩<;>rw [e];exact hz;rcases Q78 (H.get b) _ _ with e|⟨cs,el,ex,pl,ro,hb,e⟩<;>rw [e];exact hz;rw [Q0s];cases hv:cs[p]? with
  |none=>exact hz
  |some v=>refine Zv hp hw ?_;rw [hop];simp only [light,ha,D.of,D.bind,Q9h,hti,Y4,hb,hd,cond_false,hv,ZY]
 cases h;exact hg
theorem Qi9 (v:AV) (y z:RR):cellV v y z=z\/v.cell=true/\cellV v y z=y:=by cases v<;>first|exact .inl rfl|exact .inr ⟨rfl,rfl⟩
theorem Q77 {v:AV} (h:v.cell=true):v.cellsOf=[v]:=by cases v<;>simp [AV.cell] at h<;>rfl
theorem Qda (hp:Y5 nt o.dst put) (hg:QG G nt ops o gen) {t:TypeId} {x y:Operand} (hop:o.op= .store t x y) (h:Qdb G t x y put gen= .mk g):QG G nt ops o g:=by
 unfold Qdb at h;split at h;rename_i r q ti hr hq hti;cases hd:Nat.beq ti.size 1 with
 |false=>rw [hd] at h;cases h;exact hg
 |true=>
  rw [hd] at h;simp only [cond_true,Box.mk.injEq] at h;subst h;intro c tm H nx k z hw;have hz:Fin G nt ops o c tm H nx k z (gen c tm H nx k z):=hg c tm H nx k z hw;obtain ⟨a,ha,hk⟩:=Zx hr tm;obtain ⟨v,hv,hk2⟩:=Zx hq tm;simp only [hk,hk2];rcases Q44 a _ _ with e|⟨b,p,rfl,e⟩<;>rw [e];exact hz;rcases Q78 (H.get b) _ _ with e|⟨cs,el,ex,pl,ro,hb,e⟩<;>rw [e];exact hz;cases ro with
  |true=>exact hz
  |false=>
   simp only;rcases Qi9 v _ _ with e|⟨hc,e⟩<;>rw [e];exact hz;rw [Q0s];cases hcs:cs[p]? with
   |none=>exact hz
   |some u=>
    have hlt:p<cs.length:=by rcases List.getElem?_eq_some_iff.1 hcs with ⟨h,_⟩;exact h
    have hs1:ti.size=1:=by simpa using hd
    refine .inr ⟨_,_,_,yg hp nx hw (r:=⟨.undef,H.set b (.cells (Qmm cs p v) el ex pl false),nx⟩) (by rw [hop];rfl) ?_,rfl⟩
    rw [hop];have hble:Nat.ble (p+1) cs.length=true:=Nat.ble_eq_true_of_le hlt;simp only [ZN,ha,hv,Q7i,hti,hb,Q77 hc,hs1,List.length_singleton,List.all_cons,List.all_nil,hc,Bool.and_true,hble,Y6,Qdo];rfl
 cases h;exact hg
theorem Qhe {op:BinOp} {gg:IntKind->Nat->Nat->(AV->RR)->RR->RR} (h:Qke op=some (.mk gg)) (k:IntKind) (m n:Nat) (f:AV->RR) (z:RR):
 gg k m n f z=z\/∃v,gg k m n f z=f v/\∀(T:Tab) (c:Ctx) (H:Tr Q7) (kx:Bool) (t:TypeId) (k' :IntKind),Nat.beq (kN k) (kN k')=true->Qbd T c H kx op t (.int k (.lit (.ofNat m))) (.int k' (.lit (.ofNat n)))= .ok v:=by
 cases op<;>simp only [Qke,Option.some.injEq,Box.mk.injEq,reduceCtorEq] at h<;>subst h<;>simp only [sNat_eq]
 case add=>
  cases hb:Nat.ble (Nat.add m n) (qJ k) with
  |false=>exact .inl rfl
  |true=>
   refine .inr ⟨_,rfl,λT c H kx t k' hk=>?_⟩
   have e:(Int.ofNat m+Int.ofNat n:Int)= .ofNat (Nat.add m n):=rfl
   simp only [Qbd,hk,cond_true,yP,E.jR,E.arith,D.of,D.bind,e,E.litS_eq,Yy hb]
 case sub=>
  cases hle:Nat.ble n m with
  |false=>exact .inl rfl
  |true=>
   simp only;cases hb:Nat.ble (Nat.sub m n) (qJ k) with
   |false=>exact .inl rfl
   |true=>
    refine .inr ⟨_,rfl,λT c H kx t k' hk=>?_⟩
    have e:(Int.ofNat m-Int.ofNat n:Int)= .ofNat (Nat.sub m n):=(Int.ofNat_sub (Nat.le_of_ble_eq_true hle)).symm
    simp only [Qbd,hk,cond_true,yP,E.jR,E.arith,D.of,D.bind,e,E.litS_eq,Yy hb]
 case mul=>
  cases hb:Nat.ble (Nat.mul m n) (qJ k) with
  |false=>exact .inl rfl
  |true=>
   refine .inr ⟨_,rfl,λT c H kx t k' hk=>?_⟩
   have e:(Int.ofNat m*Int.ofNat n:Int)= .ofNat (Nat.mul m n):=rfl
   simp only [Qbd,hk,cond_true,yP,E.jR,E.arith,D.of,D.bind,e,E.litS_eq,Yy hb]
 case quo=>
  cases hn:Nat.beq n 0 with
  |true=>exact .inl rfl
  |false=>
   simp only;cases hb:Nat.ble (Nat.div m n) (qJ k) with
   |false=>exact .inl rfl
   |true=>
    refine .inr ⟨_,rfl,λT c H kx t k' hk=>?_⟩
    have e:(Int.ofNat m).tdiv (Int.ofNat n)= .ofNat (Nat.div m n):=rfl
    have h0:ieq (Int.ofNat n) 0=false:=hn;simp only [Qbd,hk,cond_true,yP,E.divide,h0,cond_false,D.of,D.bind,e,E.litS_eq,Yy hb]
 case rem=>
  cases hn:Nat.beq n 0 with
  |true=>exact .inl rfl
  |false=>
   refine .inr ⟨_,rfl,λT c H kx t k' hk=>?_⟩
   have e:(Int.ofNat m).tmod (Int.ofNat n)= .ofNat (Nat.mod m n):=rfl
   have h0:ieq (Int.ofNat n) 0=false:=hn;simp only [Qbd,hk,cond_true,yP,E.divide,h0,cond_false,D.of,D.bind,e,E.litS_eq]
 case and=>
  cases h1:Nat.ble m (qJ k) with
  |false=>exact .inl rfl
  |true=>
   cases h2:Nat.ble n (qJ k) with
   |false=>exact .inl rfl
   |true=>
    simp only;cases hb:Nat.ble (Nat.land m n) (qJ k) with
    |false=>exact .inl rfl
    |true=>
     refine .inr ⟨_,rfl,λT c H kx t k' hk=>?_⟩
     simp only [Qbd,hk,cond_true,yP,E.bits,qI h1,qI h2,Bool.and_true,D.of,D.bind,E.litS_eq,Yy hb]
 case or=>
  cases h1:Nat.ble m (qJ k) with
  |false=>exact .inl rfl
  |true=>
   cases h2:Nat.ble n (qJ k) with
   |false=>exact .inl rfl
   |true=>
    simp only;cases hb:Nat.ble (Nat.lor m n) (qJ k) with
    |false=>exact .inl rfl
    |true=>
     refine .inr ⟨_,rfl,λT c H kx t k' hk=>?_⟩
     simp only [Qbd,hk,cond_true,yP,E.bits,qI h1,qI h2,Bool.and_true,D.of,D.bind,E.litS_eq,Yy hb]
 case xor=>
  cases h1:Nat.ble m (qJ k) with
  |false=>exact .inl rfl
  |true=>
   cases h2:Nat.ble n (qJ k) with
   |false=>exact .inl rfl
   |true=>
    simp only;cases hb:Nat.ble (Nat.xor m n) (qJ k) with
    |false=>exact .inl rfl
    |true=>
     refine .inr ⟨_,rfl,λT c H kx t k' hk=>?_⟩
     simp only [Qbd,hk,cond_true,yP,E.bits,qI h1,qI h2,Bool.and_true,D.of,D.bind,E.litS_eq,Yy hb]
 all_goals
  refine .inr ⟨_,rfl,λT c H kx t k' hk=>?_⟩
  simp only [Qbd,hk,cond_true,yP,E.cmp,Qo7,ieq,ilt]
theorem Qlg (hp:Y5 nt o.dst put) (hg:QG G nt ops o gen) {op:BinOp} {t t' :TypeId} {x y:Operand} (hop:o.op= .binOp op t x y t') (h:binB G.T.ng op x y put gen= .mk g):QG G nt ops o g:=by
 unfold binB at h;split at h;rename_i r q gg hr hq hgg;simp only [Box.mk.injEq] at h;subst h;intro c tm H nx k z hw;have hz:Fin G nt ops o c tm H nx k z (gen c tm H nx k z):=hg c tm H nx k z hw;obtain ⟨a,ha,hk⟩:=Zx hr tm;obtain ⟨b,hb,hk2⟩:=Zx hq tm;simp only [hk,hk2];rcases Q16 a _ _ with e|⟨ka,m,rfl,e⟩<;>rw [e];exact hz;rcases Q16 b _ _ with e|⟨kb,n,rfl,e⟩<;>rw [e];exact hz;cases hkk:Nat.beq (kN ka) (kN kb) with
 |false=>exact hz
 |true=>simp only;rcases Qhe hgg ka m n (λv=>k (put tm v) H nx) (gen c tm H nx k z) with e|⟨v,e,hv⟩<;>rw [e];exact hz;refine Zv hp hw ?_;rw [hop];simp only [light,ha,hb,D.of,D.bind,hv _ _ _ _ _ _ hkk,mapD]
 cases h;exact hg
theorem Qb3 (a:AV) (y n z:RR):Qfw a y n z=z\/(a= .bool true/\Qfw a y n z=y)\/(a= .bool false/\Qfw a y n z=n):=by
 cases a
 case bool b=>cases b
              exact .inr (.inr ⟨rfl,rfl⟩)
              exact .inr (.inl ⟨rfl,rfl⟩)
 all_goals exact .inl rfl
theorem Qh7 (hp:Y5 nt o.dst put) (hg:QG G nt ops o gen) {q x y:Operand} (hop:o.op= .pick q x y) (h:Qk7 G.T.ng q x y put gen= .mk g):QG G nt ops o g:=by unfold Qk7 at h;split at h;rename_i p r s hq hr hs;simp only [Box.mk.injEq] at h;subst h;intro c tm H nx k z hw;have hz:Fin G nt ops o c tm H nx k z (gen c tm H nx k z):=hg c tm H nx k z hw;obtain ⟨b,hb,hk0⟩:=Zx hq tm;obtain ⟨a1,ha1,hk1⟩:=Zx hr tm;obtain ⟨a2,ha2,hk2⟩:=Zx hs tm;simp only [hk0,hk1,hk2];rcases Qb3 b _ _ _ with e|⟨rfl,e⟩|⟨rfl,e⟩<;>rw [e];exact hz;exact Zv hp hw (by rw [hop];simp only [light,hb,D.of,D.bind,ha1,ZY]);exact Zv hp hw (by rw [hop];simp only [light,hb,D.of,D.bind,ha2,ZY]);cases h;exact hg
theorem Qkb (hp:Y5 nt o.dst put) (hg:QG G nt ops o gen) {x:Operand} {t:TypeId} (hop:o.op= .unOp .not t x) (h:notB G.T.ng x put gen= .mk g):QG G nt ops o g:=by unfold notB at h;split at h;rename_i r hr;simp only [Box.mk.injEq] at h;subst h;intro c tm H nx k z hw;have hz:Fin G nt ops o c tm H nx k z (gen c tm H nx k z):=hg c tm H nx k z hw;obtain ⟨a,ha,hk⟩:=Zx hr tm;simp only [hk];rcases Qb3 a _ _ _ with e|⟨rfl,e⟩|⟨rfl,e⟩<;>rw [e];exact hz;exact Zv hp hw (by rw [hop];simp only [light,ha,D.of,D.bind,aun,ZY];rfl);exact Zv hp hw (by rw [hop];simp only [light,ha,D.of,D.bind,aun,ZY];rfl);cases h;exact hg
theorem Q4i (hp:Y5 nt o.dst put) (hg:QG G nt ops o gen) {t:TypeId} {x:Operand} {f:Nat} (hop:o.op= .fieldAddr t x f) (h:jJ G t x f put gen= .mk g):QG G nt ops o g:=by
 unfold jJ at h;split at h
 . rename_i r n hr hn;simp only [sNat_eq,Box.mk.injEq] at h;subst h;intro c tm H nx k z hw;have hz:Fin G nt ops o c tm H nx k z (gen c tm H nx k z):=hg c tm H nx k z hw;obtain ⟨a,ha,hk⟩:=Zx hr tm;simp only [hk];rcases Q44 a _ _ with e|⟨b,p,rfl,e⟩<;>rw [e]
   . exact hz
   try simp only [sNat_eq]
   exact Zv hp hw (by rw [hop];simp only [light,ha,D.of,D.bind,Q92 hn,ZY];rfl)
 cases h;exact hg
theorem Qkd (hp:Y5 nt o.dst put) (hg:QG G nt ops o gen) {x:Operand} (hop:o.op= .nilCheck x) (h:nilB G.T.ng x put gen= .mk g):QG G nt ops o g:=by unfold nilB at h;split at h;rename_i r hr;simp only [Box.mk.injEq] at h;subst h;intro c tm H nx k z hw;have hz:Fin G nt ops o c tm H nx k z (gen c tm H nx k z):=hg c tm H nx k z hw;obtain ⟨a,ha,hk⟩:=Zx hr tm;simp only [hk];rcases Q44 a _ _ with e|⟨b,p,rfl,e⟩<;>rw [e];exact hz;exact Zv hp hw (by rw [hop];simp only [light,ha,D.of,D.bind,Qm1,ZY]);cases h;exact hg
theorem Qjg (a:AV) (f:List AV->RR) (z:RR):tupK a f z=z\/∃vs,a= .tuple vs/\tupK a f z=f vs:=by
 cases a
 case tuple vs=>exact .inr ⟨vs,rfl,rfl⟩
 all_goals exact .inl rfl
theorem Q93 (hp:Y5 nt o.dst put) (hg:QG G nt ops o gen) {x:Operand} {i:Nat} (hop:o.op= .extract x i) (h:Q4k G.T.ng x i put gen= .mk g):QG G nt ops o g:=by
 unfold Q4k at h;split at h;rename_i r hr;simp only [Box.mk.injEq] at h;subst h;intro c tm H nx k z hw;have hz:Fin G nt ops o c tm H nx k z (gen c tm H nx k z):=hg c tm H nx k z hw;obtain ⟨a,ha,hk⟩:=Zx hr tm;simp only [hk];rcases Qjg a _ _ with e|⟨vs,rfl,e⟩<;>rw [e];exact hz;rw [Q0s];cases hv:vs[i]? with
 |none=>exact hz
 |some v=>exact Zv hp hw (by rw [hop];simp only [light,ha,D.of,D.bind,j6,hv,ZY])
 cases h;exact hg
theorem Qkq {d:TypeDesc} {k:IntKind} (h:intD d=some k):d= .int k:=by cases d<;>simp [intD] at h;rw [h]
theorem Qi1 (hp:Y5 nt o.dst put) (hg:QG G nt ops o gen) {s t:TypeId} {x:Operand} (hop:o.op= .convert s t x) (h:Ql7 G s t x put gen= .mk g):QG G nt ops o g:=by
 unfold Ql7 at h;split at h;rename_i r si di hr hsi hdi;split at h;rename_i kd hkd;simp only [sNat_eq,Box.mk.injEq] at h;subst h;intro c tm H nx k z hw;have hz:Fin G nt ops o c tm H nx k z (gen c tm H nx k z):=hg c tm H nx k z hw;obtain ⟨a,ha,hk⟩:=Zx hr tm;simp only [hk];rcases Q16 a _ _ with e|⟨ka,m,rfl,e⟩<;>rw [e];exact hz;cases hb:Nat.ble m (qJ kd) with
 |false=>exact hz
 |true=>have hd:=Qkq hkd;exact Zv hp hw (by rw [hop];simp only [light,ha,D.of,D.bind,Q7v,hsi,hdi,Qg8,hd,E.Qfi,E.litS_eq,Yy hb,ZY])
 cases h;exact hg;cases h;exact hg
theorem Q6h {d:TypeDesc} (h:Q30 d=true):d= .string:=by cases d<;>simp [Q30] at h;rfl
theorem Q14 {d:TypeDesc} {e:TypeId} (h:yZ d=some e):d= .slice e:=by cases d<;>simp [yZ] at h;rw [h]
theorem Qd9 (a:AV) (f:List E->RR) (z:RR):strK a f z=z\/∃s,a= .str s/\strK a f z=f s:=by
 cases a
 case str s=>exact .inr ⟨s,rfl,rfl⟩
 all_goals exact .inl rfl
theorem Q5t (a:AV) (f:Nat->Nat->Nat->RR) (z:RR):Q9x a f z=z\/∃b o len cap es ex,a= .slice b o len cap es ex/\Q9x a f z=f b o len:=by
 cases a
 case slice b o len cap es ex=>exact .inr ⟨b,o,len,cap,es,ex,rfl,rfl⟩
 all_goals exact .inl rfl
theorem Qet (hp:Y5 nt o.dst put) (hg:QG G nt ops o gen) {t:TypeId} {x ix:Operand} (hop:o.op= .index t x ix) (h:indexB G t x ix put gen= .mk g):QG G nt ops o g:=by
 unfold indexB at h;split at h;rename_i r q ti hr hq hti;cases hd:Q30 ti.desc with
 |false=>rw [hd] at h;cases h;exact hg
 |true=>
  rw [hd] at h;simp only [cond_true,Box.mk.injEq] at h;subst h;intro c tm H nx k z hw;have hz:Fin G nt ops o c tm H nx k z (gen c tm H nx k z):=hg c tm H nx k z hw;obtain ⟨a,ha,hk⟩:=Zx hr tm;obtain ⟨b,hb,hk2⟩:=Zx hq tm;simp only [hk,hk2];rcases Qd9 a _ _ with e|⟨s,rfl,e⟩<;>rw [e];exact hz;rcases Q16 b _ _ with e|⟨kb,i,rfl,e⟩<;>rw [e];exact hz;rw [Q0s];cases hv:s[i]? with
  |none=>exact hz
  |some v=>exact Zv hp hw (by rw [hop];simp only [light,ha,hb,D.of,D.bind,Q1t,hti,Qj9,Q7p,E.nat?,Q6h hd,hv,ZY])
 cases h;exact hg
theorem Q94 {T:Tab} {t:TypeId} {es:Nat} (h:elemSize T t=some es) {b o len cap es' :Nat} {ex:Bool} {k:IntKind} {i:Nat} (hi:Nat.blt i len=true):
 Yi T t (.slice b o len cap es' ex) (.int k (.lit (.ofNat i)))=some (.ptr b (o+i*es)):=by
 unfold elemSize at h;split at h;rename_i ti hti;split at h;rename_i e hd;split at h;rename_i ei hei;cases h;simp only [Yi,E.nat?,hti,Q14 hd,hei,hi,cond_true,sNat_eq];cases h;cases h;cases h
theorem Q4e (hp:Y5 nt o.dst put) (hg:QG G nt ops o gen) {t:TypeId} {x ix:Operand} (hop:o.op= .indexAddr t x ix) (h:jG G t x ix put gen= .mk g):QG G nt ops o g:=by
 unfold jG at h;split at h;rename_i r q es hr hq hes;simp only [sNat_eq,Box.mk.injEq] at h;subst h;intro c tm H nx k z hw;have hz:Fin G nt ops o c tm H nx k z (gen c tm H nx k z):=hg c tm H nx k z hw;obtain ⟨a,ha,hk⟩:=Zx hr tm;obtain ⟨b,hb,hk2⟩:=Zx hq tm;simp only [hk,hk2];rcases Q5t a _ _ with e|⟨bl,p,len,cap,es',ex,rfl,e⟩<;>rw [e];exact hz;rcases Q16 b _ _ with e|⟨kb,i,rfl,e⟩<;>rw [e];exact hz;cases hi:Nat.blt i len with
 |false=>exact hz
 |true=>exact Zv hp hw (by rw [hop];simp only [light,ha,hb,D.of,D.bind,Qj9,Q94 hes hi,ZY];rfl)
 cases h;exact hg
theorem Qkk (hp:Y5 nt o.dst put) (hg:QG G nt ops o gen) {cl:Call} (hop:o.op= .call cl) (h:lenB G cl put gen= .mk g):QG G nt ops o g:=by
 unfold lenB at h;split at h;rename_i t x hc hts hxs;split at h;rename_i r ti hr hti;cases hd:Q30 ti.desc with
 |true=>rw [hd] at h;simp only [cond_true,Box.mk.injEq] at h;subst h;intro c tm H nx k z hw;have hz:Fin G nt ops o c tm H nx k z (gen c tm H nx k z):=hg c tm H nx k z hw;obtain ⟨a,ha,hk⟩:=Zx hr tm;simp only [hk];rcases Qd9 a _ _ with e|⟨s,rfl,e⟩<;>rw [e];exact hz;simp only [sNat_eq,Qek];exact Zv hp hw (by rw [hop];simp only [light,hc,hts,hxs,ha,D.of,D.bind,Qg5,Qoh,hti,Q6h hd,sNat_eq,ZY])
 |false=>rw [hd] at h;simp only [cond_false] at h;split at h;rename_i e hs;simp only [Box.mk.injEq] at h;subst h;intro c tm H nx k z hw;have hz:Fin G nt ops o c tm H nx k z (gen c tm H nx k z):=hg c tm H nx k z hw;obtain ⟨a,ha,hk⟩:=Zx hr tm;simp only [hk];rcases Q5t a _ _ with e|⟨b,p,len,cap,es,ex,rfl,e⟩<;>rw [e];exact hz;exact Zv hp hw (by rw [hop];simp only [light,hc,hts,hxs,ha,D.of,D.bind,Qg5,Qoh,hti,Q14 hs,ZY]);cases h;exact hg
 cases h;exact hg;cases h;exact hg
theorem Qdg (hp:Y5 nt o.dst put) (hg:QG G nt ops o gen) (h:Qdh G o.op put gen= .mk g):QG G nt ops o g:=by unfold Qdh at h;split at h<;>rename_i hop;exact Qaa hp hg (.inl hop) h;exact Qaa hp hg (.inr hop) h;exact Qhh hp hg hop h;exact Qda hp hg hop h;exact Qlg hp hg hop h;exact Qh7 hp hg hop h;split at h;exact Qkb hp hg hop h;cases h;exact hg;exact Q4i hp hg hop h;exact Qkd hp hg hop h;exact Q93 hp hg hop h;exact Qi1 hp hg hop h;exact Qet hp hg hop h;exact Q4e hp hg hop h;exact Qkk hp hg hop h;cases h;exact hg
end
theorem J6 {G:Env}:ZJ G zx:=by
 intro nt ops o put g h hp;unfold zx at h;split at h;cases h;rename_i put' hp';cases hgen:genB G o put' with
 |mk gen=>rw [hgen] at h;simp only [Option.some.injEq] at h;exact Qdg (jo hp') (Qkv (jo hp') hgen) h
end Go.Ax
namespace Go.Ax
open Go.RowKit
section
variable {P:Program} {G:Env} {n0:Nat} {w0:World} {cs0:List Frame} {X:Ext} {s:AM} {m:Machine}
theorem QN (hT:G.T.OK P) (hI:YH.OK P G.I) (hS:Zg P G n0) {s s' :AM} (h:Za G s s'):∀{X:Ext} {m:Machine},Sim P G n0 w0 cs0 X s m->Qga P G n0 w0 cs0 X m s' :=by
 induction h with
 |refl s=>intro X m hs;exact ⟨X,m, .refl P _,Ext.le.refl X,hs⟩
 |step e _ ih=>intro X m hs;obtain ⟨Y,m1,a,b,c⟩:=Q1p hT hI hS hs e;exact Qga.of_steps a b (ih c)
end
end Go.Ax
namespace Go.Ax
open Go.RowKit
inductive Sp where
 |int (k:IntKind) (lo hi:Int)
 |str (most:Nat)
 |bool
 |lit (b:Bool)
 |nils
 |agg (l:List Sp)
 |tup (l:List Sp)
mutual
def Sp.has:Sp->Value->Prop
 | .int k lo hi,v=>∃n,v= .int k n/\lo<=n/\n<=hi
 | .str m,v=>∃s:ByteArray,v= .string s/\s.size<=m
 | .bool,v=>∃b,v= .bool b
 | .lit b,v=>v= .bool b
 | .nils,v=>v= .slice none 0 0
 | .agg l,v=>∃vs:Array Value,v= .agg vs/\Sp.Q80 l vs.toList
 | .tup l,v=>∃vs:Array Value,v= .tuple vs/\Sp.Q80 l vs.toList
def Sp.Q80:List Sp->List Value->Prop
 |[],vs=>vs=[]
 |s::l,vs=>∃v vs',vs=v::vs' /\s.has v/\Sp.Q80 l vs'
end
mutual
noncomputable def Sp.chk (c:Ctx):Sp->AV->Bool
 | .int k lo hi, .int j e=>Nat.beq (kN j) (kN k)&&(match (E.iv c.fs e).lo,(E.iv c.fs e).hi with|some l,some h=>ile lo l&&ile h hi|_,_=>false)
 | .str m,a=>match Qit a with
  |some s=>(match (E.iv c.fs s.len).hi with|some h=>ile h (.ofNat m)|none=>false)
  |none=>false
 | .bool, .bool _=>true
 | .lit b, .bool a=>b==a
 | .nils, .nilslice=>true
 | .agg l, .agg cs=>Sp.jg c l cs
 | .tup l, .tuple cs=>Sp.jg c l cs
 |_,_=>false
noncomputable def Sp.jg (c:Ctx):List Sp->List AV->Bool
 |[],[]=>true
 |s::l,a::as=>s.chk c a&&Sp.jg c l as
 |_,_=>false
end
mutual
theorem Sp.Q1m {c:Ctx} {X:Ext} (hc:c.okN X.dom X.O):∀{sp:Sp} {a:AV} {v:Value},sp.chk c a=true->a.rel X v->sp.has v
 | .int k lo hi,a,v,h,hr=>by cases a<;>simp only [Sp.chk,Bool.false_eq_true,Bool.and_eq_true] at h;rename_i j e;obtain ⟨h1,h2⟩:=h;simp only [AV.rel] at hr;obtain ⟨_,rfl⟩:=hr;have hv:=E.Qb hc.2 e;split at h2;rename_i l hh e1 e2;simp only [Bool.and_eq_true,QO] at h2;have:=hv.1 _ e1;have:=hv.2 _ e2;simp only [Sp.has];exact ⟨_,by rw [Q13 h1],by omega,by omega⟩;cases h2
 | .str m,a,v,h,hr=>by
  have h' :(match Qit a with
   |some s=>(match (E.iv c.fs s.len).hi with|some h=>ile h (.ofNat m)|none=>false)
   |none=>false)=true:=by cases a<;>exact h
  split at h';rename_i s hs;obtain ⟨s1,s2,rfl⟩:=zo hs hr;split at h';rename_i hh e;rw [QO] at h';have:=(E.Qb hc.2 s.len).2 _ e
  unfold ST.fit at s2;simp only [Sp.has];refine ⟨_,rfl,?_⟩;show (s.den X.O).toArray.size<=m
  simp only [Int.ofNat_eq_natCast] at h';simp;omega;cases h';cases h'
 | .bool,a,v,h,hr=>by cases a<;>simp only [Sp.chk,Bool.false_eq_true] at h;simp only [AV.rel] at hr;simp only [Sp.has];exact ⟨_,hr⟩
 | .lit b,a,v,h,hr=>by cases a<;>simp only [Sp.chk,Bool.false_eq_true,beq_iff_eq] at h;simp only [AV.rel] at hr;simp only [Sp.has];rw [hr,h]
 | .nils,a,v,h,hr=>by cases a<;>simp only [Sp.chk,Bool.false_eq_true] at h;simp only [AV.rel] at hr;simp only [Sp.has];exact hr
 | .agg l,a,v,h,hr=>by cases a<;>simp only [Sp.chk,Bool.false_eq_true] at h;simp only [AV.rel] at hr;obtain ⟨vs,rfl,hr⟩:=hr;simp only [Sp.has];exact ⟨vs,rfl,Sp.QM hc h hr⟩
 | .tup l,a,v,h,hr=>by cases a<;>simp only [Sp.chk,Bool.false_eq_true] at h;simp only [AV.rel] at hr;obtain ⟨vs,rfl,hr⟩:=hr;simp only [Sp.has];exact ⟨vs,rfl,Sp.QM hc h hr⟩
theorem Sp.QM {c:Ctx} {X:Ext} (hc:c.okN X.dom X.O):∀{l:List Sp} {as:List AV} {vs:List Value},Sp.jg c l as=true->AV.QI X as vs->Sp.Q80 l vs
 |[],as,vs,h,hr=>by cases as<;>simp only [Sp.jg,Bool.false_eq_true] at h;simp only [Sp.Q80];exact rels_nil.1 hr
 |s::l,as,vs,h,hr=>by cases as<;>simp only [Sp.jg,Bool.false_eq_true,Bool.and_eq_true] at h;obtain ⟨v,vs',rfl,h1,h2⟩:=Q8.1 hr;simp only [Sp.Q80];exact ⟨v,vs',rfl,Sp.Q1m hc h.1 h1,Sp.QM hc h.2 h2⟩
end
structure In where
 v:AV
 next:Nat
 fs:Facts
 vs:List Nat
structure InL where
 v:List AV
 next:Nat
 fs:Facts
 vs:List Nat
mutual
noncomputable def Sp.inst:Sp->Nat->Option In
 | .int k lo hi,n=>QE (n+1) λm=>some ⟨.int k (.var n),m,[⟨.geq, .var n, .lit lo,true⟩,⟨.leq, .var n, .lit hi,true⟩],[n]⟩
 | .str most,n=>QE (n+1) λm=>some ⟨.sstr (.var n),m,[⟨.leq, .len n, .lit (.ofNat most),true⟩],[n]⟩
 | .bool,_=>none
 | .lit b,n=>some ⟨.bool b,n,[],[]⟩
 | .nils,n=>some ⟨.nilslice,n,[],[]⟩
 | .agg l,n=>match Sp.Q27 l n with
  |some r=>some ⟨.agg r.v,r.next,r.fs,r.vs⟩
  |none=>none
 | .tup l,n=>match Sp.Q27 l n with
  |some r=>some ⟨.tuple r.v,r.next,r.fs,r.vs⟩
  |none=>none
noncomputable def Sp.Q27:List Sp->Nat->Option InL
 |[],n=>some ⟨[],n,[],[]⟩
 |s::l,n=>match s.inst n with
  |none=>none
  |some a=>match Sp.Q27 l a.next with
   |none=>none
   |some r=>some ⟨a.v::r.v,r.next,a.fs++r.fs,a.vs++r.vs⟩
end
structure New (X Y:Ext) (p:Place) (n m:Nat) (fs:Facts) (vs:List Nat):Prop where
 le:X.le Y
 nm:n<=m
 old:∀b,b<n->Y.V b=X.V b
 new:∀b,n<=b->b<m->Y.V b=some p
 free:∀b,m<=b->Y.V b=none
 fs:fs.okN Y.dom Y.O
 vs:∀i∈vs,Y.dom i
def Ext.letter (X:Ext) (n:Nat) (p:Place) (z:Int) (s:List UInt8):Ext:=⟨λi=>if i=n then some p else X.V i,⟨λi=>if i=n then z else X.O.int i,λi=>if i=n then s else X.O.str i⟩⟩
theorem Ext.jE {X:Ext} {n:Nat} {p:Place} {z:Int} {s:List UInt8} (h:∀b,n<=b->X.V b=none) {fs:Facts} (hf:fs.okN (X.letter n p z s).dom (X.letter n p z s).O):New X (X.letter n p z s) p n (n+1) fs [n]:=by
 refine ⟨⟨λb q hq=>?_,λi hi=>?_⟩,by omega,λb hb=>?_,λb h1 h2=>?_,λb hb=>?_,hf,λi hi=>?_⟩;have:b≠n:=λe=>by subst e;rw [h _ (Nat.le_refl _)] at hq;cases hq
 simp only [Ext.letter,if_neg this];exact hq;obtain ⟨q,hq⟩:=hi;have:i≠n:=λe=>by subst e;rw [h _ (Nat.le_refl _)] at hq;cases hq
 simp only [Ext.letter,if_neg this,and_self];simp only [Ext.letter,if_neg (show ¬b=n by omega)];simp only [Ext.letter,if_pos (show b=n by omega)];simp only [Ext.letter,if_neg (show ¬b=n by omega)];exact h b (by omega);simp only [List.mem_singleton] at hi;subst hi;exact ⟨p,by simp [Ext.letter]⟩
theorem Facts.yX {d d' :Nat->Prop} {O O' :Val} (hd:∀i,d i->d' i) (ha:Val.agree d O O') {fs:Facts} (h:fs.okN d O):fs.okN d' O' :=λf hf=>by obtain ⟨h1,h2,h3⟩:=h f hf;refine ⟨?_,E.Ql hd h2,E.Ql hd h3⟩;unfold Fact.ok at*;rw [E.Qc ha h2,E.Qc ha h3];exact h1
mutual
theorem Sp.jF {p:Place}:∀{sp:Sp} {n:Nat} {r:In} {X:Ext} {v:Value},sp.inst n=some r->sp.has v->(∀b,n<=b->X.V b=none)->∃Y,New X Y p n r.next r.fs r.vs/\r.v.rel Y v
 | .int k lo hi,n,r,X,v,h,hv,hf=>by
  simp only [Sp.inst,sNat_eq,Option.some.injEq] at h;subst h;simp only [Sp.has] at hv;obtain ⟨z,rfl,h1,h2⟩:=hv;refine ⟨X.letter n p z [],Ext.jE hf ?_,?_⟩;intro f hm;have hd:(X.letter n p z []).dom n:=⟨p,by simp [Ext.letter]⟩
  simp only [List.mem_cons,List.not_mem_nil,or_false] at hm;rcases hm with rfl|rfl;exact ⟨by simp [Fact.ok,Y3,E.den,Ext.letter,h1],hd,trivial⟩;exact ⟨by simp [Fact.ok,Y3,E.den,Ext.letter,h2],hd,trivial⟩;simp only [AV.rel];exact ⟨⟨p,by simp [Ext.letter]⟩,by simp [E.den,Ext.letter]⟩
 | .str most,n,r,X,v,h,hv,hf=>by
  simp only [Sp.inst,sNat_eq,Option.some.injEq] at h;subst h;simp only [Sp.has] at hv;obtain ⟨s,rfl,h1⟩:=hv;refine ⟨X.letter n p 0 s.data.toList,Ext.jE hf ?_,?_⟩;intro f hm;have hd:(X.letter n p 0 s.data.toList).dom n:=⟨p,by simp [Ext.letter]⟩
  simp only [List.mem_cons,List.not_mem_nil,or_false] at hm;subst hm;refine ⟨?_,hd,trivial⟩;simp [Fact.ok,Y3,E.den,Ext.letter];exact h1;simp only [AV.rel];refine ⟨⟨p,by simp [Ext.letter]⟩,?_,?_⟩;simp [ST.fit,ST.len,E.den,ST.den,Ext.letter];simp [ST.den,Ext.letter]
 | .bool,n,r,X,v,h,_,_=>by simp [Sp.inst] at h
 | .lit b,n,r,X,v,h,hv,hf=>by simp only [Sp.inst,Option.some.injEq] at h;subst h;simp only [Sp.has] at hv;exact ⟨X,⟨Ext.le.refl X,Nat.le_refl _,λ_ _=>rfl,λb h1 h2=>by simp only at h2;omega,hf,λf hf=>(by cases hf),λi hi=>(by cases hi)⟩,by simp only [AV.rel];exact hv⟩
 | .nils,n,r,X,v,h,hv,hf=>by simp only [Sp.inst,Option.some.injEq] at h;subst h;simp only [Sp.has] at hv;exact ⟨X,⟨Ext.le.refl X,Nat.le_refl _,λ_ _=>rfl,λb h1 h2=>by simp only at h2;omega,hf,λf hf=>(by cases hf),λi hi=>(by cases hi)⟩,by simp only [AV.rel];exact hv⟩
 | .agg l,n,r,X,v,h,hv,hf=>by simp only [Sp.inst] at h;split at h;rename_i q hq;cases h;simp only [Sp.has] at hv;obtain ⟨vs,rfl,hv⟩:=hv;obtain ⟨Y,h1,h2⟩:=Sp.Je (p:=p) hq hv hf;exact ⟨Y,h1,by simp only [AV.rel];exact ⟨vs,rfl,h2⟩⟩;cases h
 | .tup l,n,r,X,v,h,hv,hf=>by simp only [Sp.inst] at h;split at h;rename_i q hq;cases h;simp only [Sp.has] at hv;obtain ⟨vs,rfl,hv⟩:=hv;obtain ⟨Y,h1,h2⟩:=Sp.Je (p:=p) hq hv hf;exact ⟨Y,h1,by simp only [AV.rel];exact ⟨vs,rfl,h2⟩⟩;cases h
theorem Sp.Je {p:Place}:∀{l:List Sp} {n:Nat} {r:InL} {X:Ext} {vs:List Value},Sp.Q27 l n=some r->Sp.Q80 l vs->(∀b,n<=b->X.V b=none)->∃Y,New X Y p n r.next r.fs r.vs/\AV.QI Y r.v vs
 |[],n,r,X,vs,h,hv,hf=>by simp only [Sp.Q27,Option.some.injEq] at h;subst h;simp only [Sp.Q80] at hv;subst hv;exact ⟨X,⟨Ext.le.refl X,Nat.le_refl _,λ_ _=>rfl,λb h1 h2=>by simp only at h2;omega,hf,λf hf=>(by cases hf),λi hi=>(by cases hi)⟩,by simp⟩
 |s::l,n,r,X,vs,h,hv,hf=>by simp only [Sp.Q27] at h;split at h;cases h;rename_i a ha;split at h;cases h;rename_i q hq;cases h;simp only [Sp.Q80] at hv;obtain ⟨v,vs',rfl,hv1,hv2⟩:=hv;obtain ⟨Y,n1,r1⟩:=Sp.jF (p:=p) ha hv1 hf;obtain ⟨Z,n2,r2⟩:=Sp.Je (p:=p) hq hv2 n1.free;refine ⟨Z,⟨n1.le.trans n2.le,Nat.le_trans n1.nm n2.nm,λb hb=>?_,λb h1 h2=>?_,n2.free,λf hm=>?_,λi hi=>?_⟩,?_⟩;rw [n2.old b (Nat.lt_of_lt_of_le hb n1.nm),n1.old b hb];by_cases hb:b<a.next;rw [n2.old b hb];exact n1.new b h1 hb;exact n2.new b (by omega) h2;rcases List.mem_append.1 hm with hm|hm;exact Facts.yX n2.le.dom n2.le.O n1.fs f hm;exact n2.fs f hm;rcases List.mem_append.1 hi with hi|hi;exact n2.le.dom _ (n1.vs i hi);exact n2.vs i hi;simp only [rels_cons_cons];exact ⟨AV.Zr n2.le _ _ r1,r2⟩
end
end Go.Ax
namespace Go.Ax
open Go.RowKit
noncomputable def Yd (spec:Spec) (G:Env) (n:Nat) (f:FuncId) (q:Ctx->AV->Bool) (k:Nat):Nat->AM->Bool
 |0,_=>false
 |d+1,s=>match Qgc spec G n k s with
  | .go _=>false
  | .stop s=>match ZK G s with
   | .fin=>s.fr.ret&&Nat.beq s.fr.fn f&&(match G.T.funcs.get s.fr.fn with
    |some fn=>match Jp G.T s.H fn s.fr.tm with
     |some v=>q s.ctx v
     |none=>false
    |none=>false)
   | .ask op a b=>a.okB s.ctx.vs&&b.okB s.ctx.vs&&(Yd spec G n f q k d { s with ctx:=s.ctx.add ⟨op,a,b,true⟩}&&Yd spec G n f q k d { s with ctx:=s.ctx.add ⟨op,a,b,false⟩})
   |_=>false
section
variable {P:Program} {G:Env} {n0:Nat} {w0:World} {cs0:List Frame} {X:Ext} {s:AM} {m:Machine}
def Qln (P:Program) (n0:Nat) (w0:World) (cs0:List Frame) (f:FuncId) (q:Ctx->AV->Bool) (X:Ext) (m:Machine):Prop:=∃Y fr w c v u,Steps P m (lone fr cs0 w)/\X.le Y/\c.okN Y.dom Y.O/\q c v=true/\v.rel Y u/\Below n0 w0 w/\fr.fn=f/\fr.leaving P w (.returned u)
theorem ZV (hT:G.T.OK P) (hI:YH.OK P G.I) (hS:Zg P G n0) {spec:Spec} (hsp:ZJ G spec) {n:Nat} {f:FuncId} {q:Ctx->AV->Bool} {k:Nat}:∀(d:Nat) {X:Ext} {s:AM} {m:Machine},Yd spec G n f q k d s=true->Sim P G n0 w0 cs0 X s m->Qln P n0 w0 cs0 f q X m
 |0,X,s,m,he,_=>by simp [Yd] at he
 |d+1,X,s,m,he,h=>by
  simp only [Yd] at he;have hr:=QN hT hI hS (Q0h hsp n k s) h;split at he;cases he;rename_i s1 hs1;rw [hs1] at hr;obtain ⟨Y,m1,st,hle,h1⟩:=hr;simp only [YN.state] at h1;have fin:∀{X' :Ext},Y=X' ->Qln P n0 w0 cs0 f q X' m1->Qln P n0 w0 cs0 f q X m:=by
   rintro X' rfl ⟨Z,fr,w,c,v,u,a1,a2,a3⟩
   exact ⟨Z,fr,w,c,v,u,st.trans a1,hle.trans a2,a3⟩
  split at he;rename_i hfin;refine fin rfl ?_;simp only [Bool.and_eq_true,Nat.beq_eq] at he;obtain ⟨⟨hret,hf⟩,he⟩:=he;split at he;rename_i fn hfn;split at he;rename_i v hv;have hend:s1.fr.ret=true/\s1.fr.defers=[]/\s1.cs=[]:=by unfold ZK at hfin;rw [hret] at hfin;simp only at hfin;split at hfin;cases hfin;split at hfin<;>cases hfin;rename_i hd;split at hfin;rename_i hcs;exact ⟨hret,hd,hcs⟩;split at hfin;cases hfin;split at hfin;cases hfin;split at hfin<;>cases hfin
  obtain ⟨e1,e2,e3⟩:=hend;obtain ⟨fr,cs,w,rfl,hF,hall,hH,hB,h0⟩:=h1.ex;rw [e3] at hall;simp only [QU] at hall;subst hall;obtain ⟨hb,h'⟩:=hF;rw [e1] at h';simp only at h';obtain ⟨hm,htm,hcur⟩:=h';have hdf:=hb.defers;rw [e2] at hdf;simp only [Q1k] at hdf;obtain ⟨u,hu,hr⟩:=J9 (P:=P) hT hH htm hv;exact ⟨Y,fr,w,s1.ctx,v,u, .refl P _,Ext.le.refl Y,h1.ctx,he,hr,hB,hb.fn.trans hf,hm,hdf,hb.kind,fn,by rw [hb.fn];exact (hT.funcs _ _ hfn).1,hu⟩;cases he;cases he;rename_i op a b hask;simp only [Bool.and_eq_true] at he;obtain ⟨⟨ka,kb⟩,he⟩:=he;obtain ⟨v,hv⟩:=h1.ask op ka kb;refine fin rfl ?_;cases v with
  |true=>exact ZV hT hI hS hsp d he.1 hv
  |false=>exact ZV hT hI hS hsp d he.2 hv
  cases he
theorem jM (hT:G.T.OK P) (hI:YH.OK P G.I) (hS:Zg P G n0) {spec:Spec} (hsp:ZJ G spec) {n:Nat} {f:FuncId} {args:List AV} {vs:Array Value} {H:Tr Q7} {next:Nat} {c:Ctx} {q:Ctx->AV->Bool} {k d:Nat} {s:AM} {w:World} (hs:start G f args H next c=some s) (he:Yd spec G n f q k d s=true)
 (hargs:AV.QI X args vs.toList) (hH:Qn X n0 H w) (h0:n0<=w.heap.size) (hc:c.okN X.dom X.O) (hg:X.Qo G.T.ng) (hfr:∀b,next<=b->X.V b=none):
 Calls P f vs w (λe w' =>∃Y c v u,X.le Y/\c.okN Y.dom Y.O/\q c v=true/\v.rel Y u/\e= .returned u/\Below n0 w w'):=by
 intro cs;have hsim:Sim P G n0 w cs X s (lone (Frame.enter P f vs .normal) cs w):=by
  unfold start at hs;split at hs;cases hs;rename_i fn hfn;split at hs;cases hs;rename_i b hb;cases hs;have hP:=(hT.funcs f fn hfn).1
  refine ⟨⟨Frame.enter P f vs .normal,[],w,rfl,⟨⟨rfl,rfl,rfl,rfl⟩,rfl,[.code b],⟨_,_,rfl,rfl,rfl⟩,?_,?_⟩,rfl,hH,Below.refl _ _,h0⟩,hc,hg,hfr,?_⟩;simp [Frame.enter,hP,hb];have:=Q04 (k:=fn.ntmps) hargs;simpa [Frame.enter,hP] using this;simp [Qm]
 obtain ⟨Y,fr,w',c',v,u,a1,a2,a2',a3,a4,a5,a6,a7⟩:=ZV hT hI hS hsp d he hsim;exact ⟨.returned u,w',fr,⟨Y,c',v,u,a2,a2',a3,a4,rfl,a5⟩,a1,a6,a7⟩
end
def Told (P:Program) (ng:Nat) (f:FuncId) (args:List Sp) (res:Sp):Prop:=∀(w:World) (vs:Array Value),ng<=w.heap.size->Sp.Q80 args vs.toList->Calls P f vs w (λe w' =>∃u,e= .returned u/\res.has u/\Below w.heap.size w w')
def Ext.base (ng:Nat):Ext:=⟨λb=>if b<ng then some ⟨b,0,0⟩ else none,⟨λ_=>0,λ_=>[]⟩⟩
noncomputable def Q4f (H:Tr Q7) (n:Nat) (m:Nat):Nat->Bool
 |0=>Nat.ble m n
 |k+1=>bif Nat.ble m n then true else (match H.get n with|none=>QE (n+1) λn=>Q4f H n m k|some _=>false)
theorem Jg {H:Tr Q7} {m:Nat}:∀{k n:Nat},Q4f H n m k=true->∀b,n<=b->b<m->H.get b=none
 |0,n,h,b,h1,h2=>by simp only [Q4f,Nat.ble_eq] at h;omega
 |k+1,n,h,b,h1,h2=>by
  simp only [Q4f,sNat_eq] at h;cases hb:Nat.ble m n with
  |true=>have:m<=n:=by simpa using hb
         omega
  |false=>rw [hb] at h;simp only [cond_false] at h;split at h;rename_i hg;by_cases e:b=n;subst e;exact hg;exact Jg h b (by omega) h2;cases h
noncomputable def Q5n (args:List Sp) (res:Sp):Ctx->Tr Q7->Nat->List AV->D SR:=λc H next as=>
 bif Sp.jg c args as then
  match res.inst next with
  |some r=>bif Q4f H next r.next 64 then .ok ⟨r.v,H,r.next,⟨r.fs++c.fs,r.vs++c.vs⟩⟩ else .fail
  |none=> .fail
 else .fail
theorem Qgo {P:Program} {G:Env} {n0:Nat} (hng:0<G.T.ng) {f:FuncId} {args:List Sp} {res:Sp} (h:Told P G.T.ng f args res):Zw P G n0 f (Q5n args res):=by
 intro c X H next w as vs r hr hc hg hH h0 hfr hargs fr cs
 unfold Q5n at hr;cases hk:Sp.jg c args as with
 |false=>rw [hk] at hr;cases hr
 |true=>
  rw [hk] at hr;simp only [cond_true] at hr;split at hr
  . rename_i q hq;cases hb:Q4f H next q.next 64 with
    |false=>rw [hb] at hr;cases hr
    |true=>
     rw [hb] at hr;cases hr;have hfree:=Jg hb;have hhas:=Sp.QM hc hk hargs;have hsz:G.T.ng<=w.heap.size:=by obtain ⟨n,hn⟩:=hg (G.T.ng-1) (by omega);have:=hH.lt _ _ hn;simp only at this;omega
     have hcall:=h w vs hsz hhas;obtain ⟨u,w',⟨g2,g3⟩,g1⟩:=Z5 hcall fr cs;obtain ⟨n,hn⟩:=hg 0 hng;obtain ⟨Y,hN,hrel⟩:=Sp.jF (p:=⟨0,0,n⟩) hq g2 hfr;have h0' :(0:Nat)<w.heap.size:=by have:=hH.lt _ _ hn;simpa using this
     refine ⟨Y,u,w',g1,hN.le,hrel,?_,g3.mono h0,λb hb hlt=>⟨by rw [hN.old b hlt];exact hb,rfl⟩,hN.nm,hN.free,?_⟩
     . have hold:∀b o p,H.get b=some o->Y.V b=some p->X.V b=some p:=by
        intro b o p ho hp;by_cases h1:b<next
        rw [<-hN.old b h1];exact hp;by_cases h2:b<q.next;rw [hfree b (by omega) h2] at ho;cases ho;rw [hN.free b (by omega)] at hp;cases hp
       refine ⟨λb o p ho hp=>?_,λb b' o o' p p' ho ho' hl hl' hp hp' he=>hH.inj b b' o o' p p' ho ho' hl hl' (hold b o p ho hp) (hold b' o' p' ho' hp') he,λb p hp=>?_,λb o p ho hr hp=>hH.own b o p ho hr (hold b o p ho hp)⟩;have hp' :=hold b o p ho hp;rw [g3.block _ (hH.lt _ _ hp')];exact Zh hN.le (hH.obj b o p ho hp');refine Nat.lt_of_lt_of_le ?_ g3.size;by_cases h1:b<next
       exact hH.lt b p (by rw [<-hN.old b h1];exact hp);by_cases h2:b<q.next;rw [hN.new b (by omega) h2] at hp;cases hp;exact h0';rw [hN.free b (by omega)] at hp;cases hp
     refine ⟨λi hi=>?_,λfa hf=>?_⟩;rcases List.mem_append.1 hi with hi|hi;exact hN.vs i hi;exact hN.le.dom _ (hc.1 i hi);rcases List.mem_append.1 hf with hf|hf;exact hN.fs fa hf;exact Facts.yX hN.le.dom hN.le.O hc.2 fa hf
  cases hr
end Go.Ax
namespace Go.Ax
open Go.RowKit
abbrev Sum:=Ctx->Tr Q7->Nat->List AV->D SR
noncomputable def Qgn:List (Nat×Sum)->Nat->Option Sum
 |[],_=>none
 |p::l,f=>bif Nat.beq p.1 f then some p.2 else Qgn l f
def Qcy (P:Program) (T:Tab) (l:List (Nat×Sum)):Prop:=∀p∈l,∀(G:Env) (n0:Nat),G.T=T->Qol P G n0 p.1 p.2
theorem Qgm {P:Program} {T:Tab} {I:List (TypeId×TypeId×Bool)} {l:List (Nat×Sum)} (h:Qcy P T l) (n0:Nat):Zg P ⟨T,I,Qgn l⟩ n0:=by
 intro f S hf;have:∃p∈l,p.1=f/\p.2=S:=by
  clear h;induction l with
  |nil=>cases hf
  |cons p l ih=>
   have hf' :(bif Nat.beq p.1 f then some p.2 else Qgn l f)=some S:=hf;cases hb:Nat.beq p.1 f with
   |true=>rw [hb] at hf';simp only [cond_true,Option.some.injEq] at hf';exact ⟨p,by simp,by simpa using hb,hf'⟩
   |false=>rw [hb] at hf';obtain ⟨q,h1,h2⟩:=ih hf';exact ⟨q,by simp [h1],h2⟩
 obtain ⟨p,hp,rfl,rfl⟩:=this;exact h p hp _ n0 rfl
theorem Qcy.cons {P:Program} {T:Tab} {p:Nat×Sum} {l:List (Nat×Sum)} (h1:∀(G:Env) (n0:Nat),G.T=T->Zw P G n0 p.1 p.2) (h2:∀args w,(callFunc p.1 args).run P w= .ok (.enter p.1 args) w) (h:Qcy P T l):Qcy P T (p::l):=by
 intro q hq;rcases List.mem_cons.1 hq with rfl|hq;exact λG n0 e=> .inl ⟨h1 G n0 e,h2⟩
 exact h q hq
theorem Qcy.ext {P:Program} {T:Tab} {p:Nat×Sum} {l:List (Nat×Sum)} (h1:∀(G:Env) (n0:Nat),G.T=T->Qgb P G n0 p.1 p.2) (h:Qcy P T l):Qcy P T (p::l):=by
 intro q hq;rcases List.mem_cons.1 hq with rfl|hq;exact λG n0 e=> .inr (h1 G n0 e)
 exact h q hq
theorem Qcy.nil {P:Program} {T:Tab}:Qcy P T []:=λp hp=>by cases hp
theorem Qcy.told {P:Program} {T:Tab} (hng:0<T.ng) {f:FuncId} {args:List Sp} {res:Sp} (h:Told P T.ng f args res):∀(G:Env) (n0:Nat),G.T=T->Zw P G n0 f (Q5n args res):=λG n0 e=>by subst e;exact Qgo hng h
def spI:Sp:= .int .i64 (-9223372036854775808) 9223372036854775807
noncomputable def Q8j:Sum:=λc H next as=>
 match as with
 |[.int _ (.lit _),_]=> .fail
 |[.int .i64 e, .int .i64 (.lit (.ofNat n))]=>bif Nat.ble 1 n&&Nat.ble n 9223372036854775807&&spI.chk c (.int .i64 e) then .ok ⟨.int .i64 (.pk n e),H,next,c⟩ else .fail
 |_=> .fail
theorem Qby {P:Program} {G:Env} {n0:Nat} {f:FuncId}
 (h:∀(z:Int) (n:Nat) (w:World),-9223372036854775808<=z->z<=9223372036854775807->1<=n->n<=9223372036854775807->Calls P f #[.int .i64 z, .int .i64 n] w λe w' =>e= .returned (.int .i64 (Q66 n z))/\w' =w):Zw P G n0 f Q8j:=by
 intro c X H next w as vs r hr hc hg hH h0 hfr hargs fr cs
 unfold Q8j at hr;split at hr;cases hr;rename_i e n _;cases hb:(Nat.ble 1 n&&Nat.ble n 9223372036854775807&&spI.chk c (.int .i64 e)) with
 |false=>rw [hb] at hr;cases hr
 |true=>
  rw [hb] at hr;cases hr;simp only [Bool.and_eq_true,Nat.ble_eq] at hb;obtain ⟨u,vs',e1,h1,h2⟩:=Q8.1 hargs;obtain ⟨v,vs'',rfl,h3,h4⟩:=Q8.1 h2;have:=rels_nil.1 h4;subst this;have hk:=Sp.Q1m hc hb.2 h1;simp only [AV.rel] at h1 h3;obtain ⟨k1,rfl⟩:=h1;obtain ⟨_,rfl⟩:=h3;simp only [spI,Sp.has] at hk;obtain ⟨z,hz,z0,z1⟩:=hk;cases hz;have hvs:vs=#[.int .i64 (e.den X.O), .int .i64 n]:=by rw [<-Array.toList_inj];exact e1
  subst hvs;refine ⟨X,_,w,JN (h (e.den X.O) n w z0 z1 hb.1.1 hb.1.2) fr cs,Ext.le.refl X,?_,hH,Below.refl _ _,λb hb _=>⟨hb,rfl⟩,Nat.le_refl _,hfr,hc⟩;simp only [AV.rel];exact ⟨k1,rfl⟩
 cases hr
end Go.Ax
namespace Go.Ax
open Go.RowKit
noncomputable def Ji (spec:Spec) (G:Env) (n:Nat) (f:FuncId) (q:Ctx->AV->Bool) (k:Nat):Nat->List Bool->AM->Bool
 |0,_,_=>false
 |d+1,p,s=>match Qgc spec G n k s with
  | .go _=>false
  | .stop s=>match ZK G s with
   | .fin=>s.fr.ret&&Nat.beq s.fr.fn f&&(match G.T.funcs.get s.fr.fn with
    |some fn=>match Jp G.T s.H fn s.fr.tm with
     |some v=>q s.ctx v
     |none=>false
    |none=>false)
   | .ask op a b=>a.okB s.ctx.vs&&b.okB s.ctx.vs&&(match p with
    |[]=>Ji spec G n f q k d [] { s with ctx:=s.ctx.add ⟨op,a,b,true⟩}&&Ji spec G n f q k d [] { s with ctx:=s.ctx.add ⟨op,a,b,false⟩}
    |true::p=>Ji spec G n f q k d p { s with ctx:=s.ctx.add ⟨op,a,b,true⟩}
    |false::p=>Ji spec G n f q k d p { s with ctx:=s.ctx.add ⟨op,a,b,false⟩})
   |_=>false
theorem yx {spec:Spec} {G:Env} {n:Nat} {f:FuncId} {q:Ctx->AV->Bool} {k:Nat}:∀(d:Nat) (s:AM),Ji spec G n f q k d [] s=Yd spec G n f q k d s
 |0,_=>rfl
 |d+1,s=>by
  simp only [Ji,Yd];simp only [yx d]
  all_goals rfl
end Go.Ax
namespace Go.Ax
open Go.RowKit
theorem Qn.place {X:Ext} {n0:Nat} {H:Tr Q7} {w:World} (h:Qn X n0 H w) {b:Nat} {o:Q7} {p:Place} (hb:X.V b=none) (hlt:p.blk<w.heap.size) (hn:n0<=p.blk) (hfr:∀i q,X.V i=some q->q.blk≠p.blk)
 (hr:jf (X.add b p) o p w.heap[p.blk]?):Qn (X.add b p) n0 (H.set b o) w:=by
 have hle:=Ext.Zk (p:=p) hb;have key:∀i q,(X.add b p).V i=some q->(i=b/\q=p)\/(i≠b/\X.V i=some q):=by
  intro i q hq;by_cases e:i=b;subst e;rw [Ext.add_same] at hq;exact .inl ⟨rfl,(Option.some.inj hq).symm⟩
  rw [Ext.Z9 e] at hq;exact .inr ⟨e,hq⟩
 refine ⟨λi o' q hi hq=>?_,λi j o1 o2 q1 q2 hi hj l1 l2 hq1 hq2 e=>?_,λi q hq=>?_,λi o' q hi hl hq=>?_⟩;rcases key i q hq with ⟨rfl,rfl⟩|⟨e,hq'⟩;rw [Tr.get_set_same] at hi;cases hi;exact hr;rw [Tr.Q0 _ _ e] at hi;exact Zh hle (h.obj i o' q hi hq');rcases key i q1 hq1 with ⟨rfl,rfl⟩|⟨e1,hq1'⟩<;>rcases key j q2 hq2 with ⟨rfl,rfl⟩|⟨e2,hq2'⟩;rfl;exact absurd e.symm (hfr _ _ hq2');exact absurd e (hfr _ _ hq1');rw [Tr.Q0 _ _ e1] at hi;rw [Tr.Q0 _ _ e2] at hj;exact h.inj i j o1 o2 q1 q2 hi hj l1 l2 hq1' hq2' e;rcases key i q hq with ⟨rfl,rfl⟩|⟨_,hq'⟩;exact hlt;exact h.lt i q hq';rcases key i q hq with ⟨rfl,rfl⟩|⟨e,hq'⟩;exact hn;rw [Tr.Q0 _ _ e] at hi;exact h.own i o' q hi hl hq'
theorem Qn.grow {X:Ext} {n0:Nat} {H:Tr Q7} {w w' :World} (h:Qn X n0 H w) (hb:Below w.heap.size w w'):Qn X n0 H w' :=⟨λb o p hi hp=>by rw [hb.block _ (h.lt _ _ hp)];exact h.obj b o p hi hp,h.inj,λb p hp=>Nat.lt_of_lt_of_le (h.lt b p hp) hb.size,h.own⟩
theorem Q67 {α β:Type} {f:α->β} {L' L:List β} (h:L'.Perm L):∀es:List α,es.map f=L' ->∃l:List α,l.Perm es/\l.map f=L:=by
 induction h with
 |nil=>intro es he;exact ⟨es, .refl _,he⟩
 |cons x _ ih=>
  intro es he;cases es with
  |nil=>simp at he
  |cons e es=>simp only [List.map_cons,List.cons.injEq] at he;obtain ⟨l,h1,h2⟩:=ih es he.2;exact ⟨e::l,h1.cons e,by simp [he.1,h2]⟩
 |swap x y l=>
  intro es he;match es,he with
  |a::b::es,he=>simp only [List.map_cons,List.cons.injEq] at he;exact ⟨b::a::es, .swap _ _ _,by simp [he.1,he.2.1,he.2.2]⟩
 |trans _ _ ih1 ih2=>intro es he;obtain ⟨l,h1,h2⟩:=ih1 es he;obtain ⟨l',h3,h4⟩:=ih2 l h2;exact ⟨l',h3.trans h1,h4⟩
end Go.Ax
namespace Go.Ax
open Go.RowKit
inductive DV where
 |nums (k:IntKind) (l:List Nat)
 |typ (R b o:Nat)
noncomputable def DV.inB (ng:Nat):DV->Bool
 | .nums _ _=>true
 | .typ _ b _=>Nat.ble (b+1) ng
structure Qbf where
 ng:Nat
 m:Nat
 T:TypeId
 t:TypeId
 l:List (Nat×Nat)
 d:List (Nat×TypeId×DV)
noncomputable def Qnr (q:Nat×TypeId×DV):Q7:=match q.2.2 with
 | .nums k l=> .cells (l.map λn=> .int k (.lit (.ofNat n))) q.2.1 false false true
 | .typ R b o=> .cells [.iface R (.agg [.ptr b o])] q.2.1 false false true
theorem Ql3 (q:Nat×TypeId×DV):(Qnr q).rw=false:=by unfold Qnr;split<;>rfl
def DV.laid (ng:Nat) (c:Array Value):DV->Prop
 | .nums k l=>l.length<=c.size/\∀(i n:Nat),l[i]?=some n->c[i]?=some (.int k (n:Int))
 | .typ R b o=>0<c.size/\b<ng/\c[0]?=some (.iface R (.agg #[.pointer (some ⟨b,o,none⟩)]))
noncomputable def Qnq (room:Nat):List (Nat×TypeId×DV)->Tr Q7
 |[]=> .sk room
 |q::l=>(Qnq room l).set q.1 (Qnr q)
noncomputable def Qhv (room:Nat) (T t:TypeId) (d:List (Nat×TypeId×DV)):List (Nat×Nat)->Tr Q7
 |[]=>Qnq room d
 |e::l=>(Qhv room T t d l).set e.1 (.cells [.iface T (.ptr e.2 0)] t false false true)
structure Laid (E:Qbf) (A:Nat->Addr) (N:Nat->Nat) (w:World):Prop where
 at_:∀e∈E.l,e.1<E.ng/\E.ng<=e.2/\e.2<E.ng+E.m/\0<N e.1/\(A e.2).spot=none/\∃c fr el,w.heap[e.1]?=some (.cells c el fr)/\c.size=N e.1/\c[0]?=some (.iface E.T (.pointer (some (A e.2))))
 lt:∀b,E.ng<=b->b<E.ng+E.m->(A b).block<w.heap.size
 sz:E.ng<=w.heap.size
 dat:∀q∈E.d,q.1<E.ng/\∃c fr el,w.heap[q.1]?=some (.cells c el fr)/\c.size=N q.1/\q.2.2.laid E.ng c
def errX (E:Qbf) (A:Nat->Addr) (N:Nat->Nat):Ext:=⟨λb=>if b<E.ng then some ⟨b,0,N b⟩ else if b<E.ng+E.m then some ⟨(A b).block,(A b).off,0⟩ else none,⟨λ_=>0,λ_=>[]⟩⟩
theorem Qax {room:Nat}:∀{d:List (Nat×TypeId×DV)} {b:Nat} {o:Q7},(Qnq room d).get b=some o->∃q∈d,b=q.1/\o=Qnr q
 |[],b,o,h=>by simp [Qnq] at h
 |q::l,b,o,h=>by simp only [Qnq] at h;rw [Tr.Z6] at h;by_cases hb:b=q.1;subst hb;simp at h;exact ⟨q,by simp,rfl,h.symm⟩;rw [if_neg hb] at h;obtain ⟨q',h1,h2⟩:=Qax h;exact ⟨q',by simp [h1],h2⟩
theorem Q03 {room:Nat} {T t:TypeId} {d:List (Nat×TypeId×DV)}:∀{l:List (Nat×Nat)} {b:Nat} {o:Q7},(Qhv room T t d l).get b=some o->(∃id,(b,id)∈l/\o= .cells [.iface T (.ptr id 0)] t false false true)\/∃q∈d,b=q.1/\o=Qnr q
 |[],b,o,h=> .inr (Qax h)
 |e::l,b,o,h=>by
  simp only [Qhv] at h;rw [Tr.Z6] at h;by_cases hb:b=e.1;subst hb;simp at h;exact .inl ⟨e.2,by simp,h.symm⟩
  rw [if_neg hb] at h;rcases Q03 h with ⟨id,h1,h2⟩|h1;exact .inl ⟨id,by simp [h1],h2⟩
  exact .inr h1
theorem Qf9 {E:Qbf} {A:Nat->Addr} {N:Nat->Nat} {w:World} (hl:Laid E A N w) {Y:Ext} {room:Nat} (hold:∀b,b<E.ng->Y.V b=some ⟨b,0,N b⟩) (hptr:∀b,E.ng<=b->b<E.ng+E.m->Y.V b=some ⟨(A b).block,(A b).off,0⟩)
 (hlt:∀b p,Y.V b=some p->p.blk<w.heap.size):Qn Y w.heap.size (Qhv room E.T E.t E.d E.l) w:=by
 have hin:∀{b o},(Qhv room E.T E.t E.d E.l).get b=some o->b<E.ng:=λhb=>by
  rcases Q03 hb with ⟨id,hm,-⟩|⟨q,hq,rfl,-⟩;exact (hl.at_ _ hm).1
  exact (hl.dat q hq).1
 refine ⟨λb o p hb hp=>?_,λb b' o o' p p' hb hb' _ _ hp hp' e=>?_,hlt,λb o p hb hrw=>?_⟩;rw [hold b (hin hb)] at hp;cases hp;rcases Q03 hb with ⟨id,hm,rfl⟩|⟨q,hq,rfl,rfl⟩;obtain ⟨a1,a2,a3,a3',a4,c,fr,el,a5,a6,a7⟩:=hl.at_ _ hm;simp only at a1 a2 a3 a3' a4 a5 a6 a7;refine ⟨c,fr,⟨_,a5, .inl rfl⟩,a6,by simp only [List.length_singleton];omega,λh=>(by cases h),λi x hx=>?_, .inl rfl,λh=>(by cases h)⟩;cases i with
 |zero=>simp only [List.getElem?_cons_zero,Option.some.injEq] at hx;subst hx;refine ⟨_,by simpa using a7,?_⟩;simp only [AV.rel];refine ⟨_,rfl,_,hptr id a2 a3,?_⟩;simp only [Nat.add_zero];rw [<-a4]
 |succ i=>simp at hx
 obtain ⟨a1,c,fr,el,a5,a6,a7⟩:=hl.dat q hq;obtain ⟨g,t,dv⟩:=q;simp only at a1 a5 a6;cases dv with
 |nums kk ns=>obtain ⟨a7,a8⟩:=a7;refine ⟨c,fr,⟨_,a5, .inl rfl⟩,a6,by simp only [List.length_map];omega,λh=>(by cases h),λi x hx=>?_, .inl rfl,λh=>(by cases h)⟩;simp only [List.getElem?_map,Option.map_eq_some_iff] at hx;obtain ⟨n,hn,rfl⟩:=hx;exact ⟨_,by simpa using a8 i n hn,by simp only [AV.rel];exact ⟨trivial,rfl⟩⟩
 |typ R k o=>
  obtain ⟨a7,b1,a8⟩:=a7;refine ⟨c,fr,⟨_,a5, .inl rfl⟩,a6,by simp only [List.length_singleton];omega,λh=>(by cases h),λi x hx=>?_, .inl rfl,λh=>(by cases h)⟩;cases i with
  |zero=>simp only [List.getElem?_cons_zero,Option.some.injEq] at hx;subst hx;refine ⟨_,by simpa using a8,?_⟩;simp only [AV.rel];exact ⟨_,rfl,_,rfl,_,[],rfl,⟨_,hold k b1,by simp only [Nat.zero_add]⟩,rfl⟩
  |succ i=>simp at hx
 rw [hold b (hin hb)] at hp;rw [hold b' (hin hb')] at hp';cases hp;cases hp';exact e;rcases Q03 hb with ⟨id,hm,rfl⟩|⟨q,hq,rfl,rfl⟩;cases hrw;rw [Ql3] at hrw;cases hrw
def Qok (P:Program) (E:Qbf) (f:FuncId) (args:List Sp) (res:Sp):Prop:=∀(w:World) (A:Nat->Addr) (N:Nat->Nat) (vs:Array Value),Laid E A N w->Sp.Q80 args vs.toList->Calls P f vs w (λe w' =>∃u,e= .returned u/\res.has u/\Below w.heap.size w w')
noncomputable def Qcg (T t:TypeId) (H:Tr Q7):List (Nat×Nat)->Bool
 |[]=>true
 |e::l=>(match H.get e.1 with
  |some (.cells (.iface T' (.ptr b 0)::_) t' _ _ _)=>Nat.beq T' T&&(Nat.beq t' t&&Nat.beq b e.2)
  |_=>false)&&Qcg T t H l
theorem Q6w {T t:TypeId} {H:Tr Q7}:∀{l:List (Nat×Nat)},Qcg T t H l=true->∀e∈l,∃r ex pl ro,H.get e.1=some (.cells (.iface T (.ptr e.2 0)::r) t ex pl ro)
 |[],_,e,he=>by cases he
 |a::l,h,e,he=>by simp only [Qcg,Bool.and_eq_true] at h;rcases List.mem_cons.1 he with rfl|he;obtain ⟨h1,-⟩:=h;split at h1;rename_i T' b r t' ex pl ro hg;simp only [Bool.and_eq_true,Nat.beq_eq] at h1;obtain ⟨rfl,rfl,rfl⟩:=h1;exact ⟨r,ex,pl,ro,hg⟩;cases h1;exact Q6w h.2 e he
noncomputable def Qhi (k:IntKind):List AV->List Nat->Bool
 |_,[]=>true
 | .int k' (.lit (.ofNat m))::cs,n::l=>decide (k' =k)&&(Nat.beq m n&&Qhi k cs l)
 |_,_=>false
theorem Q0x {k:IntKind}:∀{cs:List AV} {l:List Nat},Qhi k cs l=true->l.length<=cs.length/\∀(i n:Nat),l[i]?=some n->cs[i]?=some (.int k (.lit (.ofNat n)))
 |cs,[],_=>⟨by simp,λi n h=>by simp at h⟩
 |cs,n::l,h=>by
  unfold Qhi at h;split at h;rename_i h1;cases h1;rename_i k' m cs' n' l' h1;cases h1;simp only [Bool.and_eq_true,Nat.beq_eq,decide_eq_true_eq] at h;obtain ⟨rfl,rfl,h2⟩:=h;obtain ⟨h3,h4⟩:=Q0x h2;refine ⟨by simp;exact h3,λi k hk=>?_⟩;cases i with
  |zero=>simp at hk;subst hk;rfl
  |succ i=>simp at hk;simpa using h4 i k hk
  cases h
noncomputable def datB (H:Tr Q7) (d:List (Nat×TypeId×DV)):Bool:=
 d.all λq=>match q.2.2,H.get q.1 with
  | .nums k l,some (.cells cs _ _ _ _)=>Qhi k cs l
  | .typ R b o,some (.cells (.iface R' (.agg [.ptr b' o'])::_) _ _ _ _)=>Nat.beq R' R&&(Nat.beq b' b&&Nat.beq o' o)
  |_,_=>false
theorem Q8t {X:Ext} {n0:Nat} {H:Tr Q7} {w:World} {E:Qbf} (hH:Qn X n0 H w) (hg:X.Qo E.ng) (hng:0<E.ng) (hB:Qcg E.T E.t H E.l=true) (hD:datB H E.d=true) (hdn:∀q∈E.d,q.1<E.ng/\q.2.2.inB E.ng=true) (hin:∀e∈E.l,e.1<E.ng/\E.ng<=e.2/\e.2<E.ng+E.m):∃A N,Laid E A N w:=by
 have hsz:E.ng<=w.heap.size:=by obtain ⟨n,hn⟩:=hg (E.ng-1) (by omega);have:=hH.lt _ _ hn;simp only at this;omega
 refine ⟨λb=>match X.V b with|some p=>⟨p.blk,p.base,none⟩|none=>⟨0,0,none⟩,λb=>match X.V b with|some p=>p.n|none=>0,λe he=>?_,λb h1 h2=>?_,hsz,λq hq=>?_⟩;obtain ⟨i1,i2,i3⟩:=hin e he;obtain ⟨r,ex,pl,ro,hget⟩:=Q6w hB e he;obtain ⟨n,hn⟩:=hg e.1 i1;obtain ⟨c,fr,⟨el',b1,bel⟩,b2,b3,b4,b5,b6,b7⟩:=hH.obj _ _ _ hget hn;simp only at b1 b2 b3 b5 b6;obtain ⟨v,c1,c2⟩:=b5 0 _ rfl;simp only [AV.rel] at c2;obtain ⟨u,rfl,p,hp,rfl⟩:=c2;simp only [List.length_cons] at b3;refine ⟨i1,i2,i3,?_,?_,c,fr,el',b1,?_,?_⟩;simp only [hn];omega;simp only [hp];simp only [hn];exact b2;simp only [hp];simpa using c1;cases hp:X.V b with
 |some p=>simp only;exact hH.lt _ _ hp
 |none=>simp only;omega
 obtain ⟨hq1,hq2⟩:=hdn q hq;have hb:=List.all_eq_true.1 hD q hq;obtain ⟨g,t,dv⟩:=q;simp only at hq1 hq2 hb;split at hb;rename_i kk l cs el ex pl ro hget;obtain ⟨n,hn⟩:=hg g hq1;obtain ⟨c,fr,⟨el',b1,bel⟩,b2,b3,b4,b5,b6,b7⟩:=hH.obj _ _ _ hget hn;simp only at b1 b2 b3 b5 b6;obtain ⟨l1,l2⟩:=Q0x hb;refine ⟨hq1,c,fr,el',b1,?_,by omega,λi k hk=>?_⟩;simp only [hn];exact b2;obtain ⟨v,c1,c2⟩:=b5 i _ (l2 i k hk);simp only [AV.rel] at c2;obtain ⟨-,rfl⟩:=c2;simp only [Nat.zero_add] at c1;exact c1;rename_i R k o R' k' o' r el ex pl ro hget;simp only [Bool.and_eq_true,Nat.beq_eq] at hb;obtain ⟨rfl,rfl,rfl⟩:=hb;simp only [DV.inB,Nat.ble_eq] at hq2;obtain ⟨n,hn⟩:=hg g hq1;obtain ⟨n',hn'⟩:=hg k' (by omega);obtain ⟨c,fr,⟨el',b1,bel⟩,b2,b3,b4,b5,b6,b7⟩:=hH.obj _ _ _ hget hn;simp only at b1 b2 b3 b5 b6;obtain ⟨v,c1,c2⟩:=b5 0 _ rfl;simp only [AV.rel] at c2;obtain ⟨u,rfl,vs,rfl,c3⟩:=c2;obtain ⟨x,xs,e1,c5,c4⟩:=Q8.1 c3;simp only [AV.rel] at c5;obtain ⟨p,hp,rfl⟩:=c5;rw [hn'] at hp;cases hp;rw [rels_nil] at c4;subst c4;simp only [List.length_cons] at b3;refine ⟨hq1,c,fr,el',b1,?_,by omega,by omega,?_⟩;simp only [hn];exact b2;have:vs=#[.pointer (some ⟨k',o',none⟩)]:=by apply Array.ext';rw [e1];simp only [Nat.zero_add]
 rw [this] at c1;simpa using c1;cases hb
noncomputable def sumE (E:Qbf) (args:List Sp) (res:Sp):Sum:=λc H next as=>bif Qcg E.T E.t H E.l&&datB H E.d then Q5n args res c H next as else .fail
noncomputable def Qbf.inB (E:Qbf):Bool:=(E.l.all λe=>Nat.ble (e.1+1) E.ng&&(Nat.ble E.ng e.2&&Nat.ble (e.2+1) (E.ng+E.m)))&&E.d.all λq=>Nat.ble (q.1+1) E.ng&&q.2.2.inB E.ng
theorem Qbj {P:Program} {G:Env} {n0:Nat} (hng:0<G.T.ng) {f:FuncId} {args:List Sp} {res:Sp} {c:Ctx} {X:Ext} {H:Tr Q7} {next:Nat} {w:World} {as:List AV} {vs:Array Value} {r:SR}
 (h:Sp.Q80 args vs.toList->Calls P f vs w (λe w' =>∃u,e= .returned u/\res.has u/\Below w.heap.size w w')) (hr:Q5n args res c H next as= .ok r) (hc:c.okN X.dom X.O) (hg:X.Qo G.T.ng) (hH:Qn X n0 H w) (h0:n0<=w.heap.size) (hfr:∀b,next<=b->X.V b=none) (hargs:AV.QI X as vs.toList)
 (fr:Frame) (cs:List Frame):∃Y u w',Steps P (lone (Frame.enter P f vs .normal) (fr::cs) w) (lone (fr.finish u) cs w')/\X.le Y/\r.v.rel Y u/\Qn Y n0 r.H w' /\Below n0 w w' /\
  (∀b,X.V b=none->b<next->Y.V b=none/\r.H.get b=H.get b)/\next<=r.next/\(∀b,r.next<=b->Y.V b=none)/\r.ctx.okN Y.dom Y.O:=by
 unfold Q5n at hr;cases hk:Sp.jg c args as with
 |false=>rw [hk] at hr;cases hr
 |true=>
  rw [hk] at hr;simp only [cond_true] at hr;split at hr
  . rename_i q hq;cases hb:Q4f H next q.next 64 with
    |false=>rw [hb] at hr;cases hr
    |true=>
     rw [hb] at hr;cases hr;have hfree:=Jg hb;have hhas:=Sp.QM hc hk hargs;obtain ⟨u,w',⟨g2,g3⟩,g1⟩:=Z5 (h hhas) fr cs;obtain ⟨n,hn⟩:=hg 0 hng;obtain ⟨Y,hN,hrel⟩:=Sp.jF (p:=⟨0,0,n⟩) hq g2 hfr;have h0' :(0:Nat)<w.heap.size:=by have:=hH.lt _ _ hn;simpa using this
     refine ⟨Y,u,w',g1,hN.le,hrel,?_,g3.mono h0,λb hb hlt=>⟨by rw [hN.old b hlt];exact hb,rfl⟩,hN.nm,hN.free,?_⟩
     . have hold:∀b o p,H.get b=some o->Y.V b=some p->X.V b=some p:=by
        intro b o p ho hp;by_cases h1:b<next
        rw [<-hN.old b h1];exact hp;by_cases h2:b<q.next;rw [hfree b (by omega) h2] at ho;cases ho;rw [hN.free b (by omega)] at hp;cases hp
       refine ⟨λb o p ho hp=>?_,λb b' o o' p p' ho ho' hl hl' hp hp' he=>hH.inj b b' o o' p p' ho ho' hl hl' (hold b o p ho hp) (hold b' o' p' ho' hp') he,λb p hp=>?_,λb o p ho hr hp=>hH.own b o p ho hr (hold b o p ho hp)⟩;have hp' :=hold b o p ho hp;rw [g3.block _ (hH.lt _ _ hp')];exact Zh hN.le (hH.obj b o p ho hp');refine Nat.lt_of_lt_of_le ?_ g3.size;by_cases h1:b<next
       exact hH.lt b p (by rw [<-hN.old b h1];exact hp);by_cases h2:b<q.next;rw [hN.new b (by omega) h2] at hp;cases hp;exact h0';rw [hN.free b (by omega)] at hp;cases hp
     refine ⟨λi hi=>?_,λfa hf=>?_⟩;rcases List.mem_append.1 hi with hi|hi;exact hN.vs i hi;exact hN.le.dom _ (hc.1 i hi);rcases List.mem_append.1 hf with hf|hf;exact hN.fs fa hf;exact Facts.yX hN.le.dom hN.le.O hc.2 fa hf
  cases hr
theorem sumE_ok {P:Program} {G:Env} {n0:Nat} {E:Qbf} (hE:E.ng=G.T.ng) (hng:0<E.ng) (hin:E.inB=true) {f:FuncId} {args:List Sp} {res:Sp} (h:Qok P E f args res):Zw P G n0 f (sumE E args res):=by
 intro c X H next w as vs r hr hc hg hH h0 hfr hargs fr cs
 unfold sumE at hr;cases hB:(Qcg E.T E.t H E.l&&datB H E.d) with
 |false=>rw [hB] at hr;cases hr
 |true=>
  rw [hB] at hr;simp only [cond_true] at hr;simp only [Bool.and_eq_true] at hB;unfold Qbf.inB at hin;rw [Bool.and_eq_true] at hin;have hin' :∀e∈E.l,e.1<E.ng/\E.ng<=e.2/\e.2<E.ng+E.m:=λe he=>by have:=List.all_eq_true.1 hin.1 e he;simp only [Bool.and_eq_true,Nat.ble_eq] at this;omega
  obtain ⟨A,N,hl⟩:=Q8t hH (by rw [hE];exact hg) hng hB.1 hB.2 (λq hq=>by have:=List.all_eq_true.1 hin.2 q hq;rw [Bool.and_eq_true,Nat.ble_eq] at this;exact ⟨by omega,this.2⟩) hin';exact Qbj (by omega) (h w A N vs hl) hr hc hg hH h0 hfr hargs fr cs
end Go.Ax
namespace Go.Ax
open Go.RowKit
def spTy (P:Program) (u:TypeId):Option Sp:=
 match P.underlying u with
 |some (.int k)=>some (.int k k.min k.max)
 |some .string=>some (.str 9223372036854775807)
 |some .bool=>some .bool
 |_=>none
theorem Q8x {P:Program} {w:World} {r:_root_.Go.Reach} {base:Nat} {u:TypeId} {v:Value} {s:Sp} (h:Cell.okWide P w r base u v) (hs:spTy P u=some s):s.has v:=by unfold spTy at hs;unfold Cell.okWide at h;split at hs;rename_i k hk;cases hs;rw [hk] at h;simp only at h;unfold Cell.ok at h;rw [hk] at h;cases v<;>simp only at h;rename_i k' n;obtain ⟨rfl,h1,h2⟩:=h;simp only [Sp.has];exact ⟨n,rfl,h1,h2⟩;rename_i hk;cases hs;rw [hk] at h;simp only at h;unfold Cell.ok at h;rw [hk] at h;cases v<;>simp only at h;rename_i b;simp only [Sp.has];refine ⟨b,rfl,?_⟩;have:IntKind.i64.max=9223372036854775807:=rfl;omega;rename_i hk;cases hs;rw [hk] at h;simp only at h;unfold Cell.ok at h;rw [hk] at h;cases v<;>simp only at h;rename_i b;simp only [Sp.has];exact ⟨b,rfl⟩;cases hs
def Qdi (P:Program):List TypeId->Option (List Sp)
 |[]=>some []
 |u::l=>match spTy P u,Qdi P l with
  |some s,some ss=>some (s::ss)
  |_,_=>none
theorem zS {P:Program} {w:World} {r:_root_.Go.Reach} {base:Nat}:∀{ts:List TypeId} {vs:List Value} {sps:List Sp},vs.length=ts.length->(∀(i:Nat) (v:Value),vs[i]?=some v->∃u,ts[i]?=some u/\Cell.okWide P w r base u v)->Qdi P ts=some sps->Sp.Q80 sps vs
 |[],vs,sps,hl,h,hs=>by simp only [Qdi,Option.some.injEq] at hs;subst hs;simp only [Sp.Q80];exact List.length_eq_zero_iff.1 hl
 |u::ts,[],sps,hl,h,hs=>by simp at hl
 |u::ts,v::vs,sps,hl,h,hs=>by simp only [Qdi] at hs;split at hs;rename_i s ss h1 h2;cases hs;simp only [Sp.Q80];obtain ⟨u',e,hc⟩:=h 0 v rfl;cases e;exact ⟨v,vs,rfl,Q8x hc h1,zS (by simpa using hl) (λi x hx=>by simpa using h (i+1) x (by simpa using hx)) h2⟩;cases hs
theorem Qks {P:Program} {w:World} {r:_root_.Go.Reach} {base:Nat} {t:TypeId} {v:Value} {fs:Array Field} {ts:List TypeId} {sps:List Sp} (h:Value.okWide P w r base t v) (ht:P.underlying t=some (.struct fs)) (hc:P.cellTypes P.depth t=some ts) (hn:P.cellsOf t=ts.length) (hs:Qdi P ts=some sps):(Sp.agg sps).has v:=by
 simp only [Value.okWide,ht] at h;obtain ⟨cs,rfl,h2,ts',h3,-,h4⟩:=h;rw [hc] at h3;cases h3;simp only [Sp.has];have hl:cs.toList.length=ts.length:=by rw [Array.length_toList,h2,hn]
 refine ⟨cs,rfl,zS (w:=w) (r:=r) (base:=base) hl (λi x hx=>?_) hs⟩;have hi:i<ts.length:=by
  have:=(List.getElem?_eq_some_iff.1 hx).1
  omega
 obtain ⟨u,h5,h6⟩:=h4 i x (by simpa using hx);rw [Nat.mod_eq_of_lt hi] at h5;exact ⟨u,h5,h6⟩
end Go.Ax
