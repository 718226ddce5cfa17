/-
 THE ABSTRACT EXECUTOR, 39: the same machine, quicker for the kernel: statements and flow of control in one go. Conditions: none.
-/
import Derived.Test.YtmfeholdlgfpbaaGreatDoorEAxD
import Derived.RowKit
import Derived.WideShapes
namespace Go.Ax
open Go.RowKit
inductive Box (α:Type) where
 |mk (a:α)
inductive RR where
 |mk (tm:Tr AV) (H:Tr Q7) (nx:Nat) (j:Nat) (rest:List Oper)
abbrev RK:=Tr AV->Tr Q7->Nat->RR
abbrev RC:=Ctx->Tr AV->Tr Q7->Nat->RK->RR->RR
noncomputable def putB (nt:Nat) (dst:Option Nat):Option (Box (Tr AV->AV->Tr AV)):=
 match dst with
 |none=>some (.mk λtm _=>tm)
 |some d=>bif Nat.blt d nt then some (.mk λtm v=>tm.set d v) else none
noncomputable def Qnq (r:LR):(Tr AV->AV->Tr AV)->Tr AV->Tr Q7->Nat->RK->RR:=
 match r with
 | .val v=>λput tm H nx k=>k (put tm v) H nx
 | .ptr o=>λput tm H nx k=>QG (nx+1) λn=>k (put tm (.ptr nx 0)) (H.set nx o) n
 | .slc o len cap es ex=>λput tm H nx k=>QG (nx+1) λn=>k (put tm (.slice nx 0 len cap es ex)) (H.set nx o) n
 | .map=>λput tm H nx k=>QG (nx+1) λn=>k (put tm (.map nx)) (H.set nx (.map [] 0)) n
noncomputable def zW (d:D HR):(Tr AV->AV->Tr AV)->Tr AV->RK->RR->RR:=
 match d with
 | .ok r=>λput tm k _=>HR.rec (motive:=λ_=>RR) (λv H n=>k (put tm v) H n) r
 | .ask _ _ _=>λ_ _ _ z=>z
 | .fail=>λ_ _ _ z=>z
noncomputable def Q04 (d:D LR):Env->Oper->(Tr AV->AV->Tr AV)->Ctx->Tr AV->Tr Q7->Nat->RK->RR->RR:=
 match d with
 | .ok r=>λ_ _ put _ tm H nx k _=>Qnq r put tm H nx k
 | .ask _ _ _=>λ_ _ _ _ _ _ _ _ z=>z
 | .fail=>λG o put c tm H nx k z=>zW (ZR G c H nx (ev G.T.ng tm) o.op) put tm k z
noncomputable def Qnr (G:Env) (o:Oper) (put:Tr AV->AV->Tr AV):RC:=λc tm H nx k z=>Q04 (light G.T G.I c H (ev G.T.ng tm) o.op) G o put c tm H nx k z
inductive GI where
 |always
 |never
 |slot (d:Nat) (want:Bool)
def guardOf (ops:List Oper) (o:Oper):GI:=
 match o.guard with
 |none=> .always
 |some (j,want)=>match opAt ops j with
  |none=> .never
  |some g=>match g.dst with
   |none=> .never
   |some d=> .slot d want
noncomputable def Qli (a:AV):Bool->RR->RR->RR->RR:=
 match a with
 | .bool b=>λwant y n _=>bif b==want then y else n
 | .top=>λ_ _ _ z=>z
 |_=>λ_ _ n _=>n
noncomputable def Qg4 (v:Option AV):Bool->RR->RR->RR->RR:=
 match v with
 |some a=>λwant y n z=>Qli a want y n z
 |none=>λ_ _ n _=>n
noncomputable def Qf6 (gi:GI) (put:Tr AV->AV->Tr AV) (g:RC):RC:=
 match gi with
 | .always=>g
 | .never=>λ_ tm H nx k _=>k (put tm .undef) H nx
 | .slot d want=>λc tm H nx k z=>Qg4 (tm.get d) want (g c tm H nx k z) (k (put tm .undef) H nx) z
noncomputable def Qf7 (gi:GI) (put:Tr AV->AV->Tr AV) (g:RC):Box RC:=
 match gi with
 | .always=> .mk g
 | .never=> .mk λ_ tm H nx k _=>k (put tm .undef) H nx
 | .slot d want=> .mk λc tm H nx k z=>Qg4 (tm.get d) want (g c tm H nx k z) (k (put tm .undef) H nx) z
theorem Q6w (gi:GI) (put:Tr AV->AV->Tr AV) (g:RC):Qf7 gi put g= .mk (Qf6 gi put g):=by cases gi<;>rfl
noncomputable def Qij (spec:Env->Nat->Oper->Option (Box RC)) (G:Env) (nt:Nat) (ops:List Oper) (o:Oper):Box RC:=
 match putB nt o.dst with
 |none=> .mk λ_ _ _ _ _ z=>z
 |some (.mk put)=>match spec G nt o with
  |some (.mk g)=>Qf7 (guardOf ops o) put g
  |none=>Qf7 (guardOf ops o) put (Qnr G o put)
noncomputable def Qo9 (o:Oper) (os:List Oper) (j:Nat) (g:Box RC) (h:Box (Ctx->RK)):Box (Ctx->RK):=
 match g,h with
 | .mk g, .mk h=> .mk λc tm H nx=>g c tm H nx (h c) (.mk tm H nx j (o::os))
noncomputable def Q53 (spec:Env->Nat->Oper->Option (Box RC)) (G:Env) (nt:Nat) (ops:List Oper):List Oper->Nat->Box (Ctx->RK)
 |[],j=> .mk λ_ tm H nx=> .mk tm H nx j []
 |o::os,j=>Qo9 o os j (Qij spec G nt ops o) (Q53 spec G nt ops os (j+1))
inductive QX (G:Env):AM->AM->Prop where
 |refl (s:AM):QX G s s
 |step {s s' t:AM}:Zy G s= .next s' ->QX G s' t->QX G s t
theorem QX.trans {G:Env} {s t u:AM} (h:QX G s t) (h' :QX G t u):QX G s u:=by
 induction h with
 |refl=>exact h'
 |step e _ ih=>exact .step e (ih h')
theorem QX.one {G:Env} {s t:AM} (h:Zy G s= .next t):QX G s t:= .step h (.refl t)
structure Rest where
 fn:Nat
 nt:Nat
 defers:List ADf
 ro:Option Nat
 cs:List Qg
 ctx:Ctx
abbrev mkS (R:Rest) (tm:Tr AV) (cur:jk) (todo:List Qj) (H:Tr Q7) (nx:Nat):AM:=⟨⟨R.fn,R.nt,tm,cur,todo,R.defers,false,R.ro⟩,R.cs,H,nx,R.ctx⟩
def yI (G:Env) (nt:Nat) (ops:List Oper) (o:Oper) (c:Ctx) (tm:Tr AV) (H:Tr Q7) (nx:Nat) (tm' :Tr AV) (H' :Tr Q7) (nx' :Nat):Prop:=∀(R:Rest) (todo:List Qj) (j:Nat) (rest:List Oper),R.nt=nt->R.ctx=c->Zy G (mkS R tm (.reg ops j (o::rest)) todo H nx)= .next (mkS R tm' (.reg ops (j+1) rest) todo H' nx')
def RCok (G:Env) (nt:Nat) (ops:List Oper) (o:Oper) (g:RC):Prop:=∀c tm H nx (k:RK) (z:RR),g c tm H nx k z=z\/∃tm' H' nx',yI G nt ops o c tm H nx tm' H' nx' /\g c tm H nx k z=k tm' H' nx'
def QE (G:Env) (nt:Nat) (ops:List Oper) (o:Oper) (g:RC):Prop:=∀c tm H nx (k:RK) (z:RR),QI ops tm o=true->g c tm H nx k z=z\/∃tm' H' nx',yI G nt ops o c tm H nx tm' H' nx' /\g c tm H nx k z=k tm' H' nx'
def Yb (nt:Nat) (dst:Option Nat) (put:Tr AV->AV->Tr AV):Prop:=∀tm v,Qbj nt tm dst v=some (put tm v)
theorem jy {nt:Nat} {dst:Option Nat} {put:Tr AV->AV->Tr AV} (h:putB nt dst=some (.mk put)):Yb nt dst put:=by
 intro tm v;unfold putB at h;cases dst with
 |none=>simp only [Option.some.injEq,Box.mk.injEq] at h;subst h;rfl
 |some d=>
  simp only at h;cases hb:Nat.blt d nt with
  |false=>rw [hb] at h;cases h
  |true=>rw [hb] at h;simp only [cond_true,Option.some.injEq,Box.mk.injEq] at h;subst h;simp only [Qbj,hb,cond_true]
theorem Jq {G:Env} {R:Rest} {tm:Tr AV} {ops:List Oper} {j:Nat} {o:Oper} {rest:List Oper} {todo:List Qj} {H0:Tr Q7} {nx0:Nat} {put:Tr AV->AV->Tr AV} (hp:Yb R.nt o.dst put) (v:AV) (H:Tr Q7) (nx:Nat):
 advance G (mkS R tm (.reg ops j (o::rest)) todo H0 nx0) ⟨v,H,nx⟩= .next (mkS R (put tm v) (.reg ops (j+1) rest) todo H nx):=by
 simp only [advance,Ya,hp tm v,sNat_eq]
theorem qR {G:Env} {nt:Nat} {ops:List Oper} {o:Oper} {put:Tr AV->AV->Tr AV} (hp:Yb nt o.dst put) {c:Ctx} {tm:Tr AV} (H:Tr Q7) (nx:Nat) (hw:QI ops tm o=false) (hk:yE ops tm o=true):yI G nt ops o c tm H nx (put tm .undef) H nx:=by intro R todo j rest hnt hc;subst hnt;simp only [Zy,hw,hk,cond_false,cond_true];exact Jq hp _ _ _
theorem Q2x {G:Env} {nt:Nat} {ops:List Oper} {o:Oper} {put:Tr AV->AV->Tr AV} (hp:Yb nt o.dst put) {c:Ctx} {tm:Tr AV} {H:Tr Q7} (nx:Nat) (hw:QI ops tm o=true) {v:AV}
 (h:light G.T G.I c H (ev G.T.ng tm) o.op= .ok (.val v)):yI G nt ops o c tm H nx (put tm v) H nx:=by
 intro R todo j rest hnt hc;subst hnt;subst hc;simp only [Zy,hw,cond_true,h,LR.obj,LR.value];exact Jq hp _ _ _
theorem jB {G:Env} {nt:Nat} {ops:List Oper} {o:Oper} {put:Tr AV->AV->Tr AV} (hp:Yb nt o.dst put) {c:Ctx} {tm:Tr AV} {H:Tr Q7} (nx:Nat) (hw:QI ops tm o=true) {r:LR} {ob:Q7}
 (h:light G.T G.I c H (ev G.T.ng tm) o.op= .ok r) (ho:r.obj=some ob):yI G nt ops o c tm H nx (put tm (r.value nx)) (H.set nx ob) (nx+1):=by
 intro R todo j rest hnt hc;subst hnt;subst hc;simp only [Zy,hw,cond_true,h,ho,sNat_eq];exact Jq hp _ _ _
theorem yh {G:Env} {nt:Nat} {ops:List Oper} {o:Oper} {put:Tr AV->AV->Tr AV} (hp:Yb nt o.dst put) {c:Ctx} {tm:Tr AV} {H:Tr Q7} (nx:Nat) (hw:QI ops tm o=true) {r:HR}
 (h:light G.T G.I c H (ev G.T.ng tm) o.op= .fail) (ho:ZR G c H nx (ev G.T.ng tm) o.op= .ok r):yI G nt ops o c tm H nx (put tm r.v) r.H r.next:=by
 intro R todo j rest hnt hc;subst hnt;subst hc;simp only [Zy,hw,cond_true,h,ho];exact Jq hp _ _ _
theorem Qfb {G:Env} {nt:Nat} {ops:List Oper} {o:Oper} {put:Tr AV->AV->Tr AV} (hp:Yb nt o.dst put):QE G nt ops o (Qnr G o put):=by
 intro c tm H nx k z hw;unfold Qnr;cases hl:light G.T G.I c H (ev G.T.ng tm) o.op with
 |ok r=>
  right;cases r with
  |val v=>exact ⟨_,_,_,Q2x hp nx hw hl,rfl⟩
  |ptr ob=>exact ⟨_,_,_,jB hp nx hw hl rfl,rfl⟩
  |slc ob len cap es ex=>exact ⟨_,_,_,jB hp nx hw hl rfl,rfl⟩
  |map=>exact ⟨_,_,_,jB hp nx hw hl rfl,rfl⟩
 |ask op a b=>exact .inl rfl
 |fail=>
  cases hh:ZR G c H nx (ev G.T.ng tm) o.op with
  |ok r=>right;refine ⟨_,_,_,yh hp nx hw hl hh,?_⟩;simp only [Q04,hh,zW]
  |ask op a b=>left;simp only [Q04,hh,zW]
  |fail=>left;simp only [Q04,hh,zW]
theorem Q6v {G:Env} {nt:Nat} {ops:List Oper} {o:Oper} {put:Tr AV->AV->Tr AV} (hp:Yb nt o.dst put) {g:RC} (hg:QE G nt ops o g):RCok G nt ops o (Qf6 (guardOf ops o) put g):=by
 intro c tm H nx k z;unfold guardOf;cases hgd:o.guard with
 |none=>exact hg c tm H nx k z (by simp only [QI,hgd])
 |some p=>
  obtain ⟨j,want⟩:=p;simp only;cases hj:opAt ops j with
  |none=>right;exact ⟨_,_,_,qR hp H nx (by simp only [QI,hgd,hj]) (by simp only [yE,hgd,hj]),rfl⟩
  |some q=>
   simp only;cases hd:q.dst with
   |none=>right;exact ⟨_,_,_,qR hp H nx (by simp only [QI,hgd,hj,hd]) (by simp only [yE,hgd,hj,hd]),rfl⟩
   |some d=>
    simp only [Qf6];have hno:QI ops tm o=false->yE ops tm o=true->(k (put tm .undef) H nx=z\/∃tm' H' nx',yI G nt ops o c tm H nx tm' H' nx' /\k (put tm .undef) H nx=k tm' H' nx'):=λhw hk=> .inr ⟨_,_,_,qR hp H nx hw hk,rfl⟩
    cases ht:tm.get d with
    |none=>exact hno (by simp only [QI,hgd,hj,hd,ht]) (by simp only [yE,hgd,hj,hd,ht])
    |some a=>
     simp only [Qg4];by_cases hb:∃b,a= .bool b
     obtain ⟨b,rfl⟩:=hb;simp only [Qli];cases hw:(b==want) with
     |true=>exact hg c tm H nx k z (by simp only [QI,hgd,hj,hd,ht,hw])
     |false=>exact hno (by simp only [QI,hgd,hj,hd,ht,hw]) (by simp only [yE,hgd,hj,hd,ht])
     by_cases htp:a= .top
     subst htp;exact .inl rfl
     have e1:Qli a want (g c tm H nx k z) (k (put tm .undef) H nx) z=k (put tm .undef) H nx:=by cases a<;>first|rfl|exact absurd ⟨_,rfl⟩ hb|exact absurd rfl htp
     rw [e1];refine hno ?_ ?_;simp only [QI,hgd,hj,hd,ht];cases a<;>first|rfl|exact absurd ⟨_,rfl⟩ hb
     simp only [yE,hgd,hj,hd,ht];cases a<;>first|rfl|exact absurd rfl htp
def Zm (G:Env) (spec:Env->Nat->Oper->Option (Box RC)):Prop:=∀nt ops o put g,spec G nt o=some (.mk g)->Yb nt o.dst put->QE G nt ops o g
theorem Qii {spec:Env->Nat->Oper->Option (Box RC)} {G:Env} (hs:Zm G spec) {nt:Nat} {ops:List Oper} {o:Oper} {g:RC} (h:Qij spec G nt ops o= .mk g):RCok G nt ops o g:=by
 unfold Qij at h;split at h;cases h;exact λc tm H nx k z=> .inl rfl
 rename_i put hp;split at h;rename_i g' hg';rw [Q6w] at h;cases h;exact Q6v (jy hp) (hs nt ops o put g' hg' (jy hp));rw [Q6w] at h;cases h;exact Q6v (jy hp) (Qfb (jy hp))
theorem Q52 {spec:Env->Nat->Oper->Option (Box RC)} {G:Env} (hs:Zm G spec) {R:Rest} {ops:List Oper} {todo:List Qj}:∀(l:List Oper) (j:Nat) {h:Ctx->RK},Q53 spec G R.nt ops l j= .mk h->∀(tm:Tr AV) (H:Tr Q7) (nx:Nat),
 ∃tm' H' nx' j' rest,h R.ctx tm H nx= .mk tm' H' nx' j' rest/\QX G (mkS R tm (.reg ops j l) todo H nx) (mkS R tm' (.reg ops j' rest) todo H' nx')
 |[],j,h,he,tm,H,nx=>by simp only [Q53,Box.mk.injEq] at he;subst he;exact ⟨_,_,_,_,_,rfl, .refl _⟩
 |o::os,j,h,he,tm,H,nx=>by
  simp only [Q53] at he;cases hg:Qij spec G R.nt ops o with
  |mk g=>
   cases hh:Q53 spec G R.nt ops os (j+1) with
   |mk h' =>rw [hg,hh] at he;simp only [Qo9,Box.mk.injEq] at he;subst he;rcases Qii hs hg R.ctx tm H nx (h' R.ctx) (.mk tm H nx j (o::os)) with e|⟨tm1,H1,nx1,hst,e⟩;exact ⟨_,_,_,_,_,e, .refl _⟩;obtain ⟨tm',H',nx',j',rest,e',hr⟩:=Q52 hs os (j+1) hh tm1 H1 nx1;exact ⟨_,_,_,_,_,e.trans e', .step (hst R todo j os rfl rfl) hr⟩
end Go.Ax
namespace Go.Ax
open Go.RowKit
inductive CR where
 |mk (tm:Tr AV) (cur:jk) (todo:List Qj) (H:Tr Q7) (nx:Nat)
abbrev CK:=Tr AV->List Qj->Tr Q7->Nat->CR
abbrev Spec:=Env->Nat->Oper->Option (Box RC)
noncomputable def Q5g (ops:List Oper) (k:List Qj) (ih:CK) (r:RR):CR:=RR.rec (motive:=λ_=>CR) (λtm H nx j rest=>List.rec (motive:=λ_=>CR) (ih tm k H nx) (λo os _=> .mk tm (.reg ops j (o::os)) k H nx) rest) r
noncomputable def condK (v:AV):CK->List Qj->Code->Code->CR->Tr AV->Tr Q7->Nat->CR:=
 match v with
 | .bool b=>λih k thn els _ tm H nx=>Bool.rec (motive:=λ_=>CR) (ih tm (.code els::k) H nx) (ih tm (.code thn::k) H nx) b
 |_=>λ_ _ _ _ z _ _ _=>z
noncomputable def Qoa (v:Option AV):CK->List Qj->Code->Code->CR->Tr AV->Tr Q7->Nat->CR:=
 match v with
 |some v=>condK v
 |none=>λ_ _ _ _ z _ _ _=>z
noncomputable def Qmb (v:Option (List Qj)):CK->CR->Tr AV->Tr Q7->Nat->CR:=
 match v with
 |some k=>λih _ tm H nx=>ih tm k H nx
 |none=>λ_ z _ _ _=>z
noncomputable def regK (draw:Bool):Spec->Env->Nat->Ctx->CK->List Qj->List Oper->CR->Tr AV->Tr Q7->Nat->CR:=
 match draw with
 |true=>λ_ _ _ _ _ _ _ z _ _ _=>z
 |false=>λspec G nt c ih k ops _ tm H nx=>Box.rec (motive:=λ_=>CR) (λh=>Q5g ops k ih (h c tm H nx)) (Q53 spec G nt ops ops 0)
noncomputable def Qfs (cd:Code):Spec->Env->Nat->Ctx->CK->List Qj->Tr AV->Tr Q7->Nat->CR:=
 match cd with
 | .skip=>λ_ _ _ _ ih k tm H nx=>ih tm k H nx
 | .label _=>λ_ _ _ _ ih k tm H nx=>ih tm k H nx
 | .seq a b=>λ_ _ _ _ ih k tm H nx=>ih tm (.code a:: .code b::k) H nx
 | .cond x thn els=>λ_ G _ _ ih k tm H nx=>Qoa (ev G.T.ng tm x) ih k thn els (.mk tm .none (.code (.cond x thn els)::k) H nx) tm H nx
 | .block id body=>λ_ _ _ _ ih k tm H nx=>ih tm (.code body:: .inBlock id::k) H nx
 | .loop body=>λ_ _ _ _ ih k tm H nx=>ih tm (.code body:: .inLoop body::k) H nx
 | .scope body=>λ_ _ _ _ ih k tm H nx=>ih tm (.code body:: .inScope body::k) H nx
 | .exit id=>λ_ _ _ _ ih k tm H nx=>Qmb (YP id k) ih (.mk tm .none (.code (.exit id)::k) H nx) tm H nx
 | .goto l=>λ_ _ _ _ ih k tm H nx=>Qmb (YO l k) ih (.mk tm .none (.code (.goto l)::k) H nx) tm H nx
 | .region id ops draw=>λspec G nt c ih k tm H nx=>regK draw spec G nt c ih k ops.toList (.mk tm .none (.code (.region id ops draw)::k) H nx) tm H nx
 |cd=>λ_ _ _ _ _ k tm H nx=> .mk tm .none (.code cd::k) H nx
noncomputable def itemK (it:Qj):Spec->Env->Nat->Ctx->CK->List Qj->Tr AV->Tr Q7->Nat->CR:=
 match it with
 | .code c=>Qfs c
 | .inBlock _=>λ_ _ _ _ ih k tm H nx=>ih tm k H nx
 | .inScope _=>λ_ _ _ _ ih k tm H nx=>ih tm k H nx
 | .inLoop body=>λ_ _ _ _ ih k tm H nx=>ih tm (.code body:: .inLoop body::k) H nx
 |it=>λ_ _ _ _ _ k tm H nx=> .mk tm .none (it::k) H nx
noncomputable def Qmc (todo:List Qj):Spec->Env->Nat->Ctx->CK->Tr AV->Tr Q7->Nat->CR:=
 match todo with
 |[]=>λ_ _ _ _ _ tm H nx=> .mk tm .none [] H nx
 |it::k=>λspec G nt c ih tm H nx=>itemK it spec G nt c ih k tm H nx
noncomputable def ctl (spec:Spec) (G:Env) (nt:Nat) (c:Ctx) (n:Nat):CK:=Nat.rec (motive:=λ_=>CK) (λtm todo H nx=> .mk tm .none todo H nx) (λ_ ih tm todo H nx=>Qmc todo spec G nt c ih tm H nx) n
def Qor (G:Env) (R:Rest) (f:CK):Prop:=∀tm todo H nx,∃tm' cur' todo' H' nx',f tm todo H nx= .mk tm' cur' todo' H' nx' /\QX G (mkS R tm .none todo H nx) (mkS R tm' cur' todo' H' nx')
def Goes (G:Env) (R:Rest) (s:AM) (r:CR):Prop:=∃tm' cur' todo' H' nx',r= .mk tm' cur' todo' H' nx' /\QX G s (mkS R tm' cur' todo' H' nx')
theorem Goes.ih {G:Env} {R:Rest} {f:CK} (h:Qor G R f) {s:AM} {tm:Tr AV} {todo:List Qj} {H:Tr Q7} {nx:Nat} (hs:Zy G s= .next (mkS R tm .none todo H nx)):Goes G R s (f tm todo H nx):=by obtain ⟨a,b,c,d,e,h1,h2⟩:=h tm todo H nx;exact ⟨a,b,c,d,e,h1, .step hs h2⟩
theorem Goes.stay {G:Env} {R:Rest} (tm:Tr AV) (cur:jk) (todo:List Qj) (H:Tr Q7) (nx:Nat):Goes G R (mkS R tm cur todo H nx) (.mk tm cur todo H nx):=⟨_,_,_,_,_,rfl, .refl _⟩
theorem Q22 {G:Env} {R:Rest} {ih:CK} (hi:Qor G R ih) {ops:List Oper} {k:List Qj} {s:AM} {tm:Tr AV} {H:Tr Q7} {nx j:Nat} {rest:List Oper} (hr:QX G s (mkS R tm (.reg ops j rest) k H nx)):Goes G R s (Q5g ops k ih (.mk tm H nx j rest)):=by
 cases rest with
 |nil=>obtain ⟨a,b,c,d,e,h1,h2⟩:=hi tm k H nx;refine ⟨a,b,c,d,e,h1,hr.trans (.step ?_ h2)⟩;rfl
 |cons o os=>exact ⟨_,_,_,_,_,rfl,hr⟩
theorem Qih {G:Env} {R:Rest} {ih:CK} (hi:Qor G R ih) {x:Operand} {thn els:Code} {k:List Qj} {tm:Tr AV} {H:Tr Q7} {nx:Nat}:
 Goes G R (mkS R tm .none (.code (.cond x thn els)::k) H nx) (Qoa (ev G.T.ng tm x) ih k thn els (.mk tm .none (.code (.cond x thn els)::k) H nx) tm H nx):=by
 cases hv:ev G.T.ng tm x with
 |none=>exact Goes.stay _ _ _ _ _
 |some v=>
  cases v
  case bool b=>cases b<;>exact Goes.ih hi (by simp only [Zy,hv])
  all_goals exact Goes.stay _ _ _ _ _
theorem Qik {spec:Spec} {G:Env} (hs:Zm G spec) {R:Rest} {ih:CK} (hi:Qor G R ih) (cd:Code) (k:List Qj) (tm:Tr AV) (H:Tr Q7) (nx:Nat):
 Goes G R (mkS R tm .none (.code cd::k) H nx) (Qfs cd spec G R.nt R.ctx ih k tm H nx):=by
 cases cd with
 |skip=>exact Goes.ih hi rfl
 |label l=>exact Goes.ih hi rfl
 |seq a b=>exact Goes.ih hi rfl
 |cond x thn els=>exact Qih hi
 |block id body=>exact Goes.ih hi rfl
 |loop body=>exact Goes.ih hi rfl
 |scope body=>exact Goes.ih hi rfl
 |exit id=>
  simp only [Qfs];cases he:YP id k with
  |none=>exact Goes.stay _ _ _ _ _
  |some k' =>exact Goes.ih hi (by simp only [Zy,he])
 |goto l=>
  simp only [Qfs];cases he:YO l k with
  |none=>exact Goes.stay _ _ _ _ _
  |some k' =>exact Goes.ih hi (by simp only [Zy,he])
 |region id ops draw=>
  cases draw with
  |true=>exact Goes.stay _ _ _ _ _
  |false=>
   simp only [Qfs,regK];cases hc:Q53 spec G R.nt ops.toList ops.toList 0 with
   |mk h=>obtain ⟨tm',H',nx',j',rest,e,hr⟩:=Q52 hs (todo:=k) ops.toList 0 hc tm H nx;simp only [e];exact Q22 hi (.step rfl hr)
 |_=>exact Goes.stay _ _ _ _ _
theorem Qjg {spec:Spec} {G:Env} (hs:Zm G spec) {R:Rest}:∀n,Qor G R (ctl spec G R.nt R.ctx n)
 |0,tm,todo,H,nx=>Goes.stay _ _ _ _ _
 |n+1,tm,todo,H,nx=>by
  have hi:=Qjg hs n (R:=R);have e:ctl spec G R.nt R.ctx (n+1) tm todo H nx=Qmc todo spec G R.nt R.ctx (ctl spec G R.nt R.ctx n) tm H nx:=rfl;rw [e];cases todo with
  |nil=>exact Goes.stay _ _ _ _ _
  |cons it k=>
   cases it with
   |code c=>exact Qik hs hi c k tm H nx
   |inBlock id=>exact Goes.ih hi rfl
   |inScope b=>exact Goes.ih hi rfl
   |inLoop b=>exact Goes.ih hi rfl
   |_=>exact Goes.stay _ _ _ _ _
noncomputable def ofCR (r:CR):Nat->Nat->List ADf->Option Nat->List Qg->Ctx->AM:=CR.rec (motive:=λ_=>Nat->Nat->List ADf->Option Nat->List Qg->Ctx->AM) (λtm cur todo H nx fn nt defers ro cs c=>⟨⟨fn,nt,tm,cur,todo,defers,false,ro⟩,cs,H,nx,c⟩) r
noncomputable def Ql6 (cur:jk):Spec->Env->Nat->Ctx->CK->List Qj->Tr AV->Tr Q7->Nat->CR:=
 match cur with
 | .none=>λ_ _ _ _ ih k tm H nx=>ih tm k H nx
 | .reg ops j rest=>λspec G nt c ih k tm H nx=>Box.rec (motive:=λ_=>CR) (λh=>Q5g ops k ih (h c tm H nx)) (Q53 spec G nt ops rest j)
 |cur=>λ_ _ _ _ _ k tm H nx=> .mk tm cur k H nx
noncomputable def fast (spec:Spec) (G:Env) (n:Nat) (s:AM):AM:=AM.rec (motive:=λ_=>AM) (λfr cs H nx c=>Qg.rec (motive:=λ_=>AM) (λfn nt tm cur todo defers ret ro=>Bool.rec (motive:=λ_=>AM) (ofCR (Ql6 cur spec G nt c (ctl spec G nt c n) todo tm H nx) fn nt defers ro cs c) ⟨⟨fn,nt,tm,cur,todo,defers,true,ro⟩,cs,H,nx,c⟩ ret) fr) s
theorem fast_ok {spec:Spec} {G:Env} (hs:Zm G spec) (n:Nat) (s:AM):QX G s (fast spec G n s):=by
 obtain ⟨⟨fn,nt,tm,cur,todo,defers,ret,ro⟩,cs,H,nx,c⟩:=s;cases ret with
 |true=>exact .refl _
 |false=>
  have hi:=Qjg hs n (R:=⟨fn,nt,defers,ro,cs,c⟩);have key:∀{r},Goes G ⟨fn,nt,defers,ro,cs,c⟩ ⟨⟨fn,nt,tm,cur,todo,defers,false,ro⟩,cs,H,nx,c⟩ r->QX G ⟨⟨fn,nt,tm,cur,todo,defers,false,ro⟩,cs,H,nx,c⟩ (ofCR r fn nt defers ro cs c):=by
   rintro r ⟨a,b,c',d,e,rfl,h⟩
   exact h
  refine key ?_;cases cur with
  |none=>exact hi tm todo H nx
  |reg ops j rest=>
   simp only;cases hc:Q53 spec G nt ops rest j with
   |mk h=>obtain ⟨tm',H',nx',j',rest',e,hr⟩:=Q52 hs (R:=⟨fn,nt,defers,ro,cs,c⟩) (todo:=todo) rest j hc tm H nx;simp only [e];exact Q22 hi hr
  |draw ops done rest pa=>exact Goes.stay _ _ _ _ _
noncomputable def leaf (spec:Spec) (G:Env) (n:Nat) (s:AM):Jy:=
 match Zy G s with
 | .next s' =>AM.rec (motive:=λ_=>Jy) (λa b c d e=> .go ⟨a,b,c,d,e⟩) (fast spec G n s')
 |_=> .stop s
noncomputable def Qgj (spec:Spec) (G:Env) (n:Nat) (k:Nat):AM->Jy:=
 Nat.rec (motive:=λ_=>AM->Jy) (λs=>leaf spec G n s)
  (λ_ ih s=>Jy.rec (motive:=λ_=>Jy) (λs=>ih s) (λs=> .stop s) (ih s)) k
theorem Q0n {spec:Spec} {G:Env} (hs:Zm G spec) (n:Nat):∀(k:Nat) (s:AM),QX G s (Qgj spec G n k s).state
 |0,s=>by
  have e:Qgj spec G n 0 s=leaf spec G n s:=rfl;rw [e];unfold leaf;split;rename_i s' h;have:(AM.rec (motive:=λ_=>Jy) (λa b c d e=> .go ⟨a,b,c,d,e⟩) (fast spec G n s'):Jy)= .go (fast spec G n s'):=by cases fast spec G n s';rfl
  rw [this];exact .step h (fast_ok hs n s')
  exact .refl s
 |k+1,s=>by
  have e:Qgj spec G n (k+1) s=Jy.rec (motive:=λ_=>Jy) (λs=>Qgj spec G n k s) (λs=> .stop s) (Qgj spec G n k s):=rfl;rw [e];have h1:=Q0n hs n k s;cases hr:Qgj spec G n k s with
  |go s1=>rw [hr] at h1;exact h1.trans (Q0n hs n k s1)
  |stop s1=>rw [hr] at h1;exact h1
end Go.Ax
namespace Go.Ax
open Go.RowKit
noncomputable def Qkh {β α:Type} (l:List α):Nat->(α->β)->β->β:=List.rec (motive:=λ_=>Nat->(α->β)->β->β) (λ_ _ z=>z) (λa _ ih i k z=>Nat.rec (motive:=λ_=>β) (k a) (λj _=>ih j k z) i) l
theorem Q10 {β α:Type}:∀(l:List α) (i:Nat) (k:α->β) (z:β),Qkh l i k z=match l[i]? with|some a=>k a|none=>z
 |[],i,k,z=>rfl
 |a::l,0,k,z=>rfl
 |a::l,i+1,k,z=>by have:Qkh (a::l) (i+1) k z=Qkh l i k z:=rfl;rw [this,Q10 l i k z];simp
noncomputable def Qmp {α:Type} (l:List α):Nat->α->List α:=List.rec (motive:=λ_=>Nat->α->List α) (λ_ _=>[]) (λa l ih i v=>Nat.rec (motive:=λ_=>List α) (v::l) (λj _=>a::ih j v) i) l
theorem Qe1 {α:Type}:∀(l:List α) (i:Nat) (v:α),Qmp l i v=l.set i v
 |[],i,v=>rfl
 |a::l,0,v=>rfl
 |a::l,i+1,v=>by have:Qmp (a::l) (i+1) v=a::Qmp l i v:=rfl;rw [this,Qe1 l i v];rfl
noncomputable def lenR {α:Type} (l:List α):Nat:=List.rec (motive:=λ_=>Nat) 0 (λ_ _ ih=>Nat.succ ih) l
theorem Qeu {α:Type}:∀l:List α,lenR l=l.length
 |[]=>rfl
 |_::l=>congrArg Nat.succ (Qeu l)
abbrev LC:=Ctx->Tr Q7->(Operand->Option AV)->D LR
noncomputable def Qaq (G:Env) (op:Op):Box LC:=
 match op with
 | .move x=> .mk λ_ _ f=>Y5 (f x)
 | .assign x=> .mk λ_ _ f=>Y5 (f x)
 | .pick q a b=> .mk λ_ _ f=>(D.of (f q)).bind λq=>match q with
  | .bool true=>Y5 (f a)
  | .bool false=>Y5 (f b)
  |_=> .fail
 | .alloc t=> .mk λ_ _ _=>D.of (Qbs G.T t)
 | .box t x=> .mk λ_ _ f=>(D.of (f x)).bind λx=> .ok (.ptr (.cells x.cellsOf t true true false))
 | .build t ps=> .mk λ_ _ f=>(D.of (Qje f ps.toList)).bind λps=>Y5 (Qbp G.T t ps)
 | .buildSlice t n ps=> .mk λ_ _ f=>(D.of (Qje f ps.toList)).bind λps=>D.of (Jr G.T t n ps)
 | .load t x=> .mk λ_ H f=>(D.of (f x)).bind λx=>Y5 (Q9n G.T H t x)
 | .nilCheck x=> .mk λ_ _ f=>(D.of (f x)).bind λx=>Y5 (Qm6 x)
 | .binOp op t x y _=> .mk λc H f=>(D.of (f x)).bind λa=>(D.of (f y)).bind λb=>mapD (Qbr G.T c H (isK x||isK y) op t a b)
 | .unOp op _ x=> .mk λ_ _ f=>(D.of (f x)).bind λx=>Y5 (aun op x)
 | .convert src dst x=> .mk λc H f=>(D.of (f x)).bind λx=>match Q82 G.T src dst x with
  |some r=> .ok r
  |none=>Y5 (Qgf G.T c H src dst x)
 | .makeInterface t x=> .mk λ_ _ f=>(D.of (f x)).bind λx=>Y5 (qo G.T t x)
 | .makeSlice t l k=> .mk λ_ _ f=>(D.of (f l)).bind λl=>(D.of (f k)).bind λk=>D.of (qm G.T t l k)
 | .slice t x lo hi mx=> .mk λc H f=>(D.of (f x)).bind λx=>(D.of (evO f lo)).bind λlo=>(D.of (evO f hi)).bind λhi=>(D.of (evO f mx)).bind λmx=>Y5 (orS (aslice G.T H t x lo hi mx) (Q58 G.T c t x lo hi mx))
 | .fieldAddr t x k=> .mk λ_ _ f=>(D.of (f x)).bind λx=>Y5 (Yp G.T t x k)
 | .field t x k=> .mk λ_ _ f=>(D.of (f x)).bind λx=>Y5 (Qbk G.T t x k)
 | .indexAddr t x ix=> .mk λc _ f=>(D.of (f x)).bind λx=>(D.of (f ix)).bind λix=>(Qjh c ix).bind λix=>Y5 (Yo G.T t x ix)
 | .index t x ix=> .mk λc _ f=>(D.of (f x)).bind λx=>(D.of (f ix)).bind λix=>match Q20 G.T c t x ix with
  |some v=> .ok (.val v)
  |none=>(Qjh c ix).bind λix=>Y5 (Q7w G.T t x ix)
 | .lookup t x ix ok=> .mk λc H f=>(D.of (f x)).bind λx=>(D.of (f ix)).bind λix=>mapD (Qiw G.T c H t x ix ok)
 | .typeAssert x _ a ok=> .mk λ_ _ f=>(D.of (f x)).bind λx=>Y5 (Q5l G.T G.I x a ok)
 | .extract x k=> .mk λ_ _ f=>(D.of (f x)).bind λx=>Y5 (je x k)
 | .store _ _ _=> .mk λ_ _ _=> .fail
 |op=> .mk λc H f=>light G.T G.I c H f op
theorem Qet {G:Env} {op:Op} {g:LC} (h:Qaq G op= .mk g) (c:Ctx) (H:Tr Q7) (f:Operand->Option AV):g c H f=light G.T G.I c H f op:=by unfold Qaq at h;split at h<;>(simp only [Box.mk.injEq] at h;subst h;rfl)
noncomputable def Qat (op:Op):Box (Env->Ctx->Tr Q7->Nat->(Operand->Option AV)->D HR):=
 match op with
 | .store t a x=> .mk λG _ H nx f=>match f a,f x with
  |some a,some x=>D.of (Q7p G.T H nx t a x)
  |_,_=> .fail
 |op=> .mk λG c H nx f=>ZR G c H nx f op
theorem Qf5 {G:Env} {op:Op} {g:Env->Ctx->Tr Q7->Nat->(Operand->Option AV)->D HR} (h:Qat op= .mk g) (c:Ctx) (H:Tr Q7) (nx:Nat) (f:Operand->Option AV):g G c H nx f=ZR G c H nx f op:=by unfold Qat at h;split at h<;>(simp only [Box.mk.injEq] at h;subst h;rfl)
noncomputable def Qjd (d:D LR):(Tr AV->AV->Tr AV)->Tr AV->Tr Q7->Nat->RK->RR->D HR->RR:=
 match d with
 | .ok r=>λput tm H nx k _ _=>Qnq r put tm H nx k
 | .ask _ _ _=>λ_ _ _ _ _ z _=>z
 | .fail=>λput tm _ _ k z d=>zW d put tm k z
noncomputable def genB (G:Env) (o:Oper) (put:Tr AV->AV->Tr AV):Box RC:=
 match Qaq G o.op,Qat o.op with
 | .mk l, .mk h=> .mk λc tm H nx k z=>Qjd (l c H (ev G.T.ng tm)) put tm H nx k z (h G c H nx (ev G.T.ng tm))
theorem Ql1 {G:Env} {nt:Nat} {ops:List Oper} {o:Oper} {put:Tr AV->AV->Tr AV} (hp:Yb nt o.dst put) {g:RC} (h:genB G o put= .mk g):QE G nt ops o g:=by
 unfold genB at h;cases hl:Qaq G o.op with
 |mk l=>
  cases hh:Qat o.op with
  |mk hv=>
   rw [hl,hh] at h;simp only [Box.mk.injEq] at h;subst h;intro c tm H nx k z hw;have e1:=Qet hl c H (ev G.T.ng tm);have e2:=Qf5 (G:=G) hh c H nx (ev G.T.ng tm);have:=Qfb (G:=G) hp c tm H nx k z hw (ops:=ops);have e:Qnr G o put c tm H nx k z=Qjd (l c H (ev G.T.ng tm)) put tm H nx k z (hv G c H nx (ev G.T.ng tm)):=by rw [e1,e2];unfold Qnr;cases light G.T G.I c H (ev G.T.ng tm) o.op<;>rfl
   rw [e] at this;exact this
abbrev RD:=Tr AV->(AV->RR)->RR
noncomputable def rdB (ng:Nat) (x:Operand):Option (Box RD):=
 match x with
 | .tmp t=>some (.mk λtm k=>Option.rec (motive:=λ_=>RR) (k .undef) k (tm.get t))
 | .const v=>match ofV 6 v with
  |some a=>some (.mk λ_ k=>k a)
  |none=>none
 | .global g=>bif Nat.blt g ng then some (.mk λ_ k=>k (.ptr g 0)) else none
 | .func f=>some (.mk λ_ k=>k (.func f [] []))
theorem Zz {ng:Nat} {x:Operand} {r:RD} (h:rdB ng x=some (.mk r)) (tm:Tr AV):∃a,ev ng tm x=some a/\∀k,r tm k=k a:=by
 unfold rdB at h;cases x with
 |tmp t=>simp only [Option.some.injEq,Box.mk.injEq] at h;subst h;refine ⟨_,rfl,λk=>?_⟩;simp only;cases tm.get t<;>rfl
 |const v=>
  simp only at h;cases hv:ofV 6 v with
  |none=>rw [hv] at h;cases h
  |some a=>rw [hv] at h;simp only [Option.some.injEq,Box.mk.injEq] at h;subst h;exact ⟨a,by simp only [ev,hv],λk=>rfl⟩
 |global g=>
  simp only at h;cases hb:Nat.blt g ng with
  |false=>rw [hb] at h;cases h
  |true=>rw [hb] at h;simp only [cond_true,Option.some.injEq,Box.mk.injEq] at h;subst h;exact ⟨_,by simp only [ev,hb,cond_true],λk=>rfl⟩
 |func f=>simp only [Option.some.injEq,Box.mk.injEq] at h;subst h;exact ⟨_,rfl,λk=>rfl⟩
noncomputable def Qlx (a:AV):(Nat->Nat->RR)->RR->RR:=
 match a with
 | .ptr b o=>λf _=>f b o
 |_=>λ_ z=>z
noncomputable def natE (e:E):(Nat->RR)->RR->RR:=
 match e with
 | .lit n=>λf z=>Int.rec (motive:=λ_=>RR) (λm=>f m) (λ_=>z) n
 |_=>λ_ z=>z
noncomputable def Qkv (a:AV):(IntKind->Nat->RR)->RR->RR:=
 match a with
 | .int k e=>λf z=>natE e (f k) z
 |_=>λ_ z=>z
theorem Q4d (a:AV) (f:Nat->Nat->RR) (z:RR):Qlx a f z=z\/∃b o,a= .ptr b o/\Qlx a f z=f b o:=by
 cases a
 case ptr b o=>exact .inr ⟨b,o,rfl,rfl⟩
 all_goals exact .inl rfl
theorem Q1d (a:AV) (f:IntKind->Nat->RR) (z:RR):Qkv a f z=z\/∃k m,a= .int k (.lit (.ofNat m))/\Qkv a f z=f k m:=by
 cases a
 case int k e=>
  cases e
  case lit n=>
   cases n with
   |ofNat m=>exact .inr ⟨k,m,rfl,rfl⟩
   |negSucc m=>exact .inl rfl
  all_goals exact .inl rfl
 all_goals exact .inl rfl
noncomputable def Qog (o:Q7):(List AV->TypeId->Bool->Bool->Bool->RR)->RR->RR:=
 match o with
 | .cells cs el ex pl ro=>λf _=>f cs el ex pl ro
 |_=>λ_ z=>z
noncomputable def Qb9 (o:Option Q7):(List AV->TypeId->Bool->Bool->Bool->RR)->RR->RR:=
 match o with
 |some o=>Qog o
 |none=>λ_ z=>z
theorem Q7h (o:Option Q7) (f:List AV->TypeId->Bool->Bool->Bool->RR) (z:RR):Qb9 o f z=z\/∃cs el ex pl ro,o=some (.cells cs el ex pl ro)/\Qb9 o f z=f cs el ex pl ro:=by
 cases o with
 |none=>exact .inl rfl
 |some o=>
  cases o
  case cells cs el ex pl ro=>exact .inr ⟨cs,el,ex,pl,ro,rfl,rfl⟩
  all_goals exact .inl rfl
noncomputable def qN (k:IntKind):Nat:=IntKind.rec (motive:=λ_=>Nat) 127 32767 2147483647 9223372036854775807 255 65535 4294967295 18446744073709551615 k
theorem qM {k:IntKind} {n:Nat} (h:Nat.ble n (qN k)=true):Zl k (.ofNat n)=true:=by
 cases k<;>first
  |exact h
  |(simp only [qN,Nat.ble_eq,Zl,Nat.ble_eq] at h ⊢;omega)
theorem YA {k:IntKind} {n:Nat} (h:Nat.ble n (qN k)=true):Y8 k (.ofNat n)= .ofNat n:=by unfold Y8;rw [qM h];rfl
end Go.Ax
namespace Go.Ax
open Go.RowKit
noncomputable def moveB (ng:Nat) (x:Operand) (put:Tr AV->AV->Tr AV) (gen:RC):Box RC:=
 match rdB ng x with
 |some (.mk r)=> .mk λ_ tm H nx k _=>r tm λa=>k (put tm a) H nx
 |none=> .mk gen
noncomputable def Qko (G:Env) (t:TypeId) (x:Operand) (put:Tr AV->AV->Tr AV) (gen:RC):Box RC:=
 match rdB G.T.ng x,G.T.ty t with
 |some (.mk r),some ti=>bif yA ti.desc then .mk gen else
  .mk λc tm H nx k z=>(λzz=>r tm λa=>Qlx a (λb o=>Qb9 (H.get b) (λcs _ _ _ _=>Qkh cs o (λv=>k (put tm v) H nx) zz) zz) zz) (gen c tm H nx k z)
 |_,_=> .mk gen
noncomputable def cellV (v:AV):RR->RR->RR:=
 match v with
 | .agg _=>λ_ z=>z
 | .tuple _=>λ_ z=>z
 | .top=>λ_ z=>z
 |_=>λy _=>y
noncomputable def Qdo (G:Env) (t:TypeId) (a x:Operand) (put:Tr AV->AV->Tr AV) (gen:RC):Box RC:=
 match rdB G.T.ng a,rdB G.T.ng x,G.T.ty t with
 |some (.mk r),some (.mk q),some ti=>bif Nat.beq ti.size 1 then
  .mk λc tm H nx k z=>(λzz=>r tm λa=>q tm λv=>Qlx a (λb o=>Qb9 (H.get b) (λcs el ex pl ro=>Bool.rec (motive:=λ_=>RR)
   (cellV v (Qkh cs o (λ_=>k (put tm .undef) (H.set b (.cells (Qmp cs o v) el ex pl false)) nx) zz) zz) zz ro) zz) zz) (gen c tm H nx k z)
  else .mk gen
 |_,_,_=> .mk gen
noncomputable def Qkl (op:BinOp):Option (Box (IntKind->Nat->Nat->(AV->RR)->RR->RR)):=
 match op with
 | .add=>some (.mk λk m n f z=>QG (Nat.add m n) λr=>Bool.rec (motive:=λ_=>RR) z (f (.int k (.lit (.ofNat r)))) (Nat.ble r (qN k)))
 | .sub=>some (.mk λk m n f z=>Bool.rec (motive:=λ_=>RR) z (QG (Nat.sub m n) λr=>Bool.rec (motive:=λ_=>RR) z (f (.int k (.lit (.ofNat r)))) (Nat.ble r (qN k))) (Nat.ble n m))
 | .mul=>some (.mk λk m n f z=>QG (Nat.mul m n) λr=>Bool.rec (motive:=λ_=>RR) z (f (.int k (.lit (.ofNat r)))) (Nat.ble r (qN k)))
 | .quo=>some (.mk λk m n f z=>Bool.rec (motive:=λ_=>RR) (QG (Nat.div m n) λr=>Bool.rec (motive:=λ_=>RR) z (f (.int k (.lit (.ofNat r)))) (Nat.ble r (qN k))) z (Nat.beq n 0))
 | .rem=>some (.mk λk m n f z=>Bool.rec (motive:=λ_=>RR) (QG (Nat.mod m n) λr=>f (.int k (.lit (.ofNat r)))) z (Nat.beq n 0))
 | .and=>some (.mk λk m n f z=>Bool.rec (motive:=λ_=>RR) z (Bool.rec (motive:=λ_=>RR) z (QG (Nat.land m n) λr=>Bool.rec (motive:=λ_=>RR) z (f (.int k (.lit (.ofNat r)))) (Nat.ble r (qN k))) (Nat.ble n (qN k))) (Nat.ble m (qN k)))
 | .or=>some (.mk λk m n f z=>Bool.rec (motive:=λ_=>RR) z (Bool.rec (motive:=λ_=>RR) z (QG (Nat.lor m n) λr=>Bool.rec (motive:=λ_=>RR) z (f (.int k (.lit (.ofNat r)))) (Nat.ble r (qN k))) (Nat.ble n (qN k))) (Nat.ble m (qN k)))
 | .xor=>some (.mk λk m n f z=>Bool.rec (motive:=λ_=>RR) z (Bool.rec (motive:=λ_=>RR) z (QG (Nat.xor m n) λr=>Bool.rec (motive:=λ_=>RR) z (f (.int k (.lit (.ofNat r)))) (Nat.ble r (qN k))) (Nat.ble n (qN k))) (Nat.ble m (qN k)))
 | .eql=>some (.mk λ_ m n f _=>f (.bool (Nat.beq m n)))
 | .neq=>some (.mk λ_ m n f _=>f (.bool (not (Nat.beq m n))))
 | .lss=>some (.mk λ_ m n f _=>f (.bool (Nat.blt m n)))
 | .leq=>some (.mk λ_ m n f _=>f (.bool (not (Nat.blt n m))))
 | .gtr=>some (.mk λ_ m n f _=>f (.bool (Nat.blt n m)))
 | .geq=>some (.mk λ_ m n f _=>f (.bool (not (Nat.blt m n))))
 |_=>none
noncomputable def binB (ng:Nat) (op:BinOp) (x y:Operand) (put:Tr AV->AV->Tr AV) (gen:RC):Box RC:=
 match rdB ng x,rdB ng y,Qkl op with
 |some (.mk r),some (.mk q),some (.mk g)=> .mk λc tm H nx k z=>(λzz=>r tm λa=>q tm λb=>Qkv a (λka m=>Qkv b (λkb n=>Bool.rec (motive:=λ_=>RR) zz (g ka m n (λv=>k (put tm v) H nx) zz) (Nat.beq (kN ka) (kN kb))) zz) zz) (gen c tm H nx k z)
 |_,_,_=> .mk gen
noncomputable def Qg3 (a:AV):RR->RR->RR->RR:=
 match a with
 | .bool b=>λy n _=>Bool.rec (motive:=λ_=>RR) n y b
 |_=>λ_ _ z=>z
noncomputable def Qkd (ng:Nat) (q x y:Operand) (put:Tr AV->AV->Tr AV) (gen:RC):Box RC:=
 match rdB ng q,rdB ng x,rdB ng y with
 |some (.mk p),some (.mk r),some (.mk s)=> .mk λc tm H nx k z=>p tm λb=>Qg3 b (r tm λa=>k (put tm a) H nx) (s tm λa=>k (put tm a) H nx) (gen c tm H nx k z)
 |_,_,_=> .mk gen
noncomputable def notB (ng:Nat) (x:Operand) (put:Tr AV->AV->Tr AV) (gen:RC):Box RC:=
 match rdB ng x with
 |some (.mk r)=> .mk λc tm H nx k z=>r tm λa=>Qg3 a (k (put tm (.bool false)) H nx) (k (put tm (.bool true)) H nx) (gen c tm H nx k z)
 |none=> .mk gen
noncomputable def Q4r (T:Tab) (s:TypeId) (f:Nat):Option Nat:=
 match T.ty s with
 |some ti=>
  match ti.desc with
  | .struct fs=>
   match fs[f]? with
   |some fd=>
    match T.ty fd.type with
    |some fi=>bif Nat.beq fi.size 0 then none else some fd.offset
    |none=>none
   |none=>none
  |_=>none
 |none=>none
theorem Q99 {T:Tab} {s:TypeId} {f n:Nat} (h:Q4r T s f=some n) (b o:Nat):Yp T s (.ptr b o) f=some (.ptr b (o+n)):=by
 unfold Q4r at h;unfold Yp;split at h;rename_i ti hti;simp only [hti];split at h;rename_i fs hd;simp only [hd];split at h;rename_i fd hf;simp only [hf];split at h;rename_i fi hfi;simp only [hfi];cases hz:Nat.beq fi.size 0 with
 |true=>rw [hz] at h;cases h
 |false=>rw [hz] at h;simp only [cond_false,Option.some.injEq] at h;subst h;rfl
 cases h;cases h;cases h;cases h
noncomputable def jM (G:Env) (t:TypeId) (x:Operand) (f:Nat) (put:Tr AV->AV->Tr AV) (gen:RC):Box RC:=
 match rdB G.T.ng x,Q4r G.T t f with
 |some (.mk r),some n=>QG n λn=> .mk λc tm H nx k z=>r tm λa=>Qlx a (λb o=>QG (Nat.add o n) λo' =>k (put tm (.ptr b o')) H nx) (gen c tm H nx k z)
 |_,_=> .mk gen
noncomputable def nilB (ng:Nat) (x:Operand) (put:Tr AV->AV->Tr AV) (gen:RC):Box RC:=
 match rdB ng x with
 |some (.mk r)=> .mk λc tm H nx k z=>r tm λa=>Qlx a (λ_ _=>k (put tm a) H nx) (gen c tm H nx k z)
 |none=> .mk gen
noncomputable def tupK (a:AV):(List AV->RR)->RR->RR:=
 match a with
 | .tuple vs=>λf _=>f vs
 |_=>λ_ z=>z
noncomputable def Q4t (ng:Nat) (x:Operand) (i:Nat) (put:Tr AV->AV->Tr AV) (gen:RC):Box RC:=
 match rdB ng x with
 |some (.mk r)=> .mk λc tm H nx k z=>(λzz=>r tm λa=>tupK a (λvs=>Qkh vs i (λv=>k (put tm v) H nx) zz) zz) (gen c tm H nx k z)
 |none=> .mk gen
def intD (d:TypeDesc):Option IntKind:=
 match d with
 | .int k=>some k
 |_=>none
noncomputable def Qle (G:Env) (s t:TypeId) (x:Operand) (put:Tr AV->AV->Tr AV) (gen:RC):Box RC:=
 match rdB G.T.ng x,G.T.ty s,G.T.ty t with
 |some (.mk r),some _,some di=>match intD di.desc with
  |some kd=>QG (qN kd) λtop=> .mk λc tm H nx k z=>(λzz=>r tm λa=>Qkv a (λ_ m=>Bool.rec (motive:=λ_=>RR) zz (k (put tm (.int kd (.lit (.ofNat m)))) H nx) (Nat.ble m top)) zz) (gen c tm H nx k z)
  |none=> .mk gen
 |_,_,_=> .mk gen
def Q37 (d:TypeDesc):Bool:=
 match d with
 | .string=>true
 |_=>false
def Q02 (d:TypeDesc):Option TypeId:=
 match d with
 | .slice e=>some e
 |_=>none
noncomputable def strK (a:AV):(List E->RR)->RR->RR:=
 match a with
 | .str s=>λf _=>f s
 |_=>λ_ z=>z
noncomputable def Qa4 (a:AV):(Nat->Nat->Nat->RR)->RR->RR:=
 match a with
 | .slice b o len _ _ _=>λf _=>f b o len
 |_=>λ_ z=>z
noncomputable def indexB (G:Env) (t:TypeId) (x ix:Operand) (put:Tr AV->AV->Tr AV) (gen:RC):Box RC:=
 match rdB G.T.ng x,rdB G.T.ng ix,G.T.ty t with
 |some (.mk r),some (.mk q),some ti=>bif Q37 ti.desc then
  .mk λc tm H nx k z=>(λzz=>r tm λa=>q tm λb=>strK a (λs=>Qkv b (λ_ i=>Qkh s i (λv=>k (put tm (.int .u8 v)) H nx) zz) zz) zz) (gen c tm H nx k z)
  else .mk gen
 |_,_,_=> .mk gen
noncomputable def elemSize (T:Tab) (t:TypeId):Option Nat:=
 match T.ty t with
 |some ti=>match Q02 ti.desc with
  |some e=>match T.ty e with
   |some ei=>some ei.size
   |none=>none
  |none=>none
 |none=>none
noncomputable def jJ (G:Env) (t:TypeId) (x ix:Operand) (put:Tr AV->AV->Tr AV) (gen:RC):Box RC:=
 match rdB G.T.ng x,rdB G.T.ng ix,elemSize G.T t with
 |some (.mk r),some (.mk q),some es=>QG es λes=> .mk λc tm H nx k z=>(λzz=>r tm λa=>q tm λb=>Qa4 a (λbl o len=>Qkv b (λ_ i=>Bool.rec (motive:=λ_=>RR) zz (QG (Nat.add o (Nat.mul i es)) λo' =>k (put tm (.ptr bl o')) H nx) (Nat.blt i len)) zz) zz) (gen c tm H nx k z)
 |_,_,_=> .mk gen
noncomputable def lenB (G:Env) (cl:Call) (put:Tr AV->AV->Tr AV) (gen:RC):Box RC:=
 match cl.callee,cl.argTypes.toList,cl.args.toList with
 | .builtin .len,[t],[x]=>match rdB G.T.ng x,G.T.ty t with
  |some (.mk r),some ti=>bif Q37 ti.desc then
   .mk λc tm H nx k z=>r tm λa=>strK a (λs=>QG (lenR s) λn=>k (put tm (.int .i64 (.lit (.ofNat n)))) H nx) (gen c tm H nx k z)
   else match Q02 ti.desc with
    |some _=> .mk λc tm H nx k z=>r tm λa=>Qa4 a (λ_ _ n=>k (put tm (.int .i64 (.lit (.ofNat n)))) H nx) (gen c tm H nx k z)
    |none=> .mk gen
  |_,_=> .mk gen
 |_,_,_=> .mk gen
noncomputable def Qdu (G:Env) (op:Op) (put:Tr AV->AV->Tr AV) (gen:RC):Box RC:=
 match op with
 | .move x=>moveB G.T.ng x put gen
 | .assign x=>moveB G.T.ng x put gen
 | .load t x=>Qko G t x put gen
 | .store t a x=>Qdo G t a x put gen
 | .binOp op _ x y _=>binB G.T.ng op x y put gen
 | .pick q x y=>Qkd G.T.ng q x y put gen
 | .unOp op _ x=>match op with
  | .not=>notB G.T.ng x put gen
  |_=> .mk gen
 | .fieldAddr t x f=>jM G t x f put gen
 | .nilCheck x=>nilB G.T.ng x put gen
 | .extract x i=>Q4t G.T.ng x i put gen
 | .convert s t x=>Qle G s t x put gen
 | .index t x ix=>indexB G t x ix put gen
 | .indexAddr t x ix=>jJ G t x ix put gen
 | .call cl=>lenB G cl put gen
 |_=> .mk gen
noncomputable def Q0i:Spec:=λG nt o=>
 match putB nt o.dst with
 |none=>none
 |some (.mk put)=>match genB G o put with
  | .mk gen=>some (Qdu G o.op put gen)
end Go.Ax
namespace Go.Ax
open Go.RowKit
section
variable {G:Env} {nt:Nat} {ops:List Oper} {o:Oper} {put:Tr AV->AV->Tr AV} {gen g:RC}
def Fin (G:Env) (nt:Nat) (ops:List Oper) (o:Oper) (c:Ctx) (tm:Tr AV) (H:Tr Q7) (nx:Nat) (k:RK) (z r:RR):Prop:=r=z\/∃tm' H' nx',yI G nt ops o c tm H nx tm' H' nx' /\r=k tm' H' nx'
theorem Zx (hp:Yb nt o.dst put) {c:Ctx} {tm:Tr AV} {H:Tr Q7} {nx:Nat} {k:RK} {z:RR} (hw:QI ops tm o=true) {v:AV}
 (h:light G.T G.I c H (ev G.T.ng tm) o.op= .ok (.val v)):Fin G nt ops o c tm H nx k z (k (put tm v) H nx):=
 .inr ⟨_,_,_,Q2x hp nx hw h,rfl⟩
theorem Qak (hp:Yb nt o.dst put) (hg:QE G nt ops o gen) {x:Operand} (hop:o.op= .move x\/o.op= .assign x) (h:moveB G.T.ng x put gen= .mk g):QE G nt ops o g:=by unfold moveB at h;split at h;rename_i r hr;simp only [Box.mk.injEq] at h;subst h;intro c tm H nx k z hw;obtain ⟨a,ha,hk⟩:=Zz hr tm;simp only [hk];refine Zx hp hw ?_;rcases hop with e|e<;>rw [e]<;>simp only [light,ha,Y5];cases h;exact hg
theorem Qhs (hp:Yb nt o.dst put) (hg:QE G nt ops o gen) {t:TypeId} {x:Operand} (hop:o.op= .load t x) (h:Qko G t x put gen= .mk g):QE G nt ops o g:=by
 unfold Qko at h;split at h;rename_i r ti hr hti;cases hd:yA ti.desc with
 |true=>rw [hd] at h;cases h;exact hg
 |false=>
  rw [hd] at h;simp only [cond_false,Box.mk.injEq] at h;subst h;intro c tm H nx k z hw;have hz:Fin G nt ops o c tm H nx k z (gen c tm H nx k z):=hg c tm H nx k z hw;obtain ⟨a,ha,hk⟩:=Zz hr tm;simp only [hk];rcases Q4d a _ _ with e|⟨b,p,rfl,e⟩<;>rw [e];exact hz;rcases Q7h (H.get b) _ _ with e|⟨cs,el,ex,pl,ro,hb,e⟩<;>rw [e];exact hz;rw [Q10];cases hv:cs[p]? with
  |none=>exact hz
  |some v=>refine Zx hp hw ?_;rw [hop];simp only [light,ha,D.of,D.bind,Q9n,hti,Y9,hb,hd,cond_false,hv,Y5]
 cases h;exact hg
theorem Qip (v:AV) (y z:RR):cellV v y z=z\/v.cell=true/\cellV v y z=y:=by cases v<;>first|exact .inl rfl|exact .inr ⟨rfl,rfl⟩
theorem Q7g {v:AV} (h:v.cell=true):v.cellsOf=[v]:=by cases v<;>simp [AV.cell] at h<;>rfl
theorem Qdn (hp:Yb nt o.dst put) (hg:QE G nt ops o gen) {t:TypeId} {x y:Operand} (hop:o.op= .store t x y) (h:Qdo G t x y put gen= .mk g):QE G nt ops o g:=by
 unfold Qdo at h;split at h;rename_i r q ti hr hq hti;cases hd:Nat.beq ti.size 1 with
 |false=>rw [hd] at h;cases h;exact hg
 |true=>
  rw [hd] at h;simp only [cond_true,Box.mk.injEq] at h;subst h;intro c tm H nx k z hw;have hz:Fin G nt ops o c tm H nx k z (gen c tm H nx k z):=hg c tm H nx k z hw;obtain ⟨a,ha,hk⟩:=Zz hr tm;obtain ⟨v,hv,hk2⟩:=Zz hq tm;simp only [hk,hk2];rcases Q4d a _ _ with e|⟨b,p,rfl,e⟩<;>rw [e];exact hz;rcases Q7h (H.get b) _ _ with e|⟨cs,el,ex,pl,ro,hb,e⟩<;>rw [e];exact hz;cases ro with
  |true=>exact hz
  |false=>
   simp only;rcases Qip v _ _ with e|⟨hc,e⟩<;>rw [e];exact hz;rw [Q10];cases hcs:cs[p]? with
   |none=>exact hz
   |some u=>
    have hlt:p<cs.length:=by rcases List.getElem?_eq_some_iff.1 hcs with ⟨h,_⟩;exact h
    have hs1:ti.size=1:=by simpa using hd
    refine .inr ⟨_,_,_,yh hp nx hw (r:=⟨.undef,H.set b (.cells (Qmp cs p v) el ex pl false),nx⟩) (by rw [hop];rfl) ?_,rfl⟩
    rw [hop];have hble:Nat.ble (p+1) cs.length=true:=Nat.ble_eq_true_of_le hlt;simp only [ZR,ha,hv,Q7p,hti,hb,Q7g hc,hs1,List.length_singleton,List.all_cons,List.all_nil,hc,Bool.and_true,hble,Yc,Qe1];rfl
 cases h;exact hg
theorem Qhp {op:BinOp} {gg:IntKind->Nat->Nat->(AV->RR)->RR->RR} (h:Qkl op=some (.mk gg)) (k:IntKind) (m n:Nat) (f:AV->RR) (z:RR):
 gg k m n f z=z\/∃v,gg k m n f z=f v/\∀(T:Tab) (c:Ctx) (H:Tr Q7) (kx:Bool) (t:TypeId) (k' :IntKind),Nat.beq (kN k) (kN k')=true->Qbr T c H kx op t (.int k (.lit (.ofNat m))) (.int k' (.lit (.ofNat n)))= .ok v:=by
 cases op<;>simp only [Qkl,Option.some.injEq,Box.mk.injEq,reduceCtorEq] at h<;>subst h<;>simp only [sNat_eq]
 case add=>
  cases hb:Nat.ble (Nat.add m n) (qN k) with
  |false=>exact .inl rfl
  |true=>
   refine .inr ⟨_,rfl,λT c H kx t k' hk=>?_⟩
   have e:(Int.ofNat m+Int.ofNat n:Int)= .ofNat (Nat.add m n):=rfl
   simp only [Qbr,hk,cond_true,yR,E.jT,E.arith,D.of,D.bind,e,E.litS_eq,YA hb]
 case sub=>
  cases hle:Nat.ble n m with
  |false=>exact .inl rfl
  |true=>
   simp only;cases hb:Nat.ble (Nat.sub m n) (qN k) with
   |false=>exact .inl rfl
   |true=>
    refine .inr ⟨_,rfl,λT c H kx t k' hk=>?_⟩
    have e:(Int.ofNat m-Int.ofNat n:Int)= .ofNat (Nat.sub m n):=(Int.ofNat_sub (Nat.le_of_ble_eq_true hle)).symm
    simp only [Qbr,hk,cond_true,yR,E.jT,E.arith,D.of,D.bind,e,E.litS_eq,YA hb]
 case mul=>
  cases hb:Nat.ble (Nat.mul m n) (qN k) with
  |false=>exact .inl rfl
  |true=>
   refine .inr ⟨_,rfl,λT c H kx t k' hk=>?_⟩
   have e:(Int.ofNat m*Int.ofNat n:Int)= .ofNat (Nat.mul m n):=rfl
   simp only [Qbr,hk,cond_true,yR,E.jT,E.arith,D.of,D.bind,e,E.litS_eq,YA hb]
 case quo=>
  cases hn:Nat.beq n 0 with
  |true=>exact .inl rfl
  |false=>
   simp only;cases hb:Nat.ble (Nat.div m n) (qN k) with
   |false=>exact .inl rfl
   |true=>
    refine .inr ⟨_,rfl,λT c H kx t k' hk=>?_⟩
    have e:(Int.ofNat m).tdiv (Int.ofNat n)= .ofNat (Nat.div m n):=rfl
    have h0:ieq (Int.ofNat n) 0=false:=hn;simp only [Qbr,hk,cond_true,yR,E.divide,h0,cond_false,D.of,D.bind,e,E.litS_eq,YA hb]
 case rem=>
  cases hn:Nat.beq n 0 with
  |true=>exact .inl rfl
  |false=>
   refine .inr ⟨_,rfl,λT c H kx t k' hk=>?_⟩
   have e:(Int.ofNat m).tmod (Int.ofNat n)= .ofNat (Nat.mod m n):=rfl
   have h0:ieq (Int.ofNat n) 0=false:=hn;simp only [Qbr,hk,cond_true,yR,E.divide,h0,cond_false,D.of,D.bind,e,E.litS_eq]
 case and=>
  cases h1:Nat.ble m (qN k) with
  |false=>exact .inl rfl
  |true=>
   cases h2:Nat.ble n (qN k) with
   |false=>exact .inl rfl
   |true=>
    simp only;cases hb:Nat.ble (Nat.land m n) (qN k) with
    |false=>exact .inl rfl
    |true=>
     refine .inr ⟨_,rfl,λT c H kx t k' hk=>?_⟩
     simp only [Qbr,hk,cond_true,yR,E.bits,qM h1,qM h2,Bool.and_true,D.of,D.bind,E.litS_eq,YA hb]
 case or=>
  cases h1:Nat.ble m (qN k) with
  |false=>exact .inl rfl
  |true=>
   cases h2:Nat.ble n (qN k) with
   |false=>exact .inl rfl
   |true=>
    simp only;cases hb:Nat.ble (Nat.lor m n) (qN k) with
    |false=>exact .inl rfl
    |true=>
     refine .inr ⟨_,rfl,λT c H kx t k' hk=>?_⟩
     simp only [Qbr,hk,cond_true,yR,E.bits,qM h1,qM h2,Bool.and_true,D.of,D.bind,E.litS_eq,YA hb]
 case xor=>
  cases h1:Nat.ble m (qN k) with
  |false=>exact .inl rfl
  |true=>
   cases h2:Nat.ble n (qN k) with
   |false=>exact .inl rfl
   |true=>
    simp only;cases hb:Nat.ble (Nat.xor m n) (qN k) with
    |false=>exact .inl rfl
    |true=>
     refine .inr ⟨_,rfl,λT c H kx t k' hk=>?_⟩
     simp only [Qbr,hk,cond_true,yR,E.bits,qM h1,qM h2,Bool.and_true,D.of,D.bind,E.litS_eq,YA hb]
 all_goals
  refine .inr ⟨_,rfl,λT c H kx t k' hk=>?_⟩
  simp only [Qbr,hk,cond_true,yR,E.cmp,Qob,ieq,ilt]
theorem Qlk (hp:Yb nt o.dst put) (hg:QE G nt ops o gen) {op:BinOp} {t t' :TypeId} {x y:Operand} (hop:o.op= .binOp op t x y t') (h:binB G.T.ng op x y put gen= .mk g):QE G nt ops o g:=by
 unfold binB at h;split at h;rename_i r q gg hr hq hgg;simp only [Box.mk.injEq] at h;subst h;intro c tm H nx k z hw;have hz:Fin G nt ops o c tm H nx k z (gen c tm H nx k z):=hg c tm H nx k z hw;obtain ⟨a,ha,hk⟩:=Zz hr tm;obtain ⟨b,hb,hk2⟩:=Zz hq tm;simp only [hk,hk2];rcases Q1d a _ _ with e|⟨ka,m,rfl,e⟩<;>rw [e];exact hz;rcases Q1d b _ _ with e|⟨kb,n,rfl,e⟩<;>rw [e];exact hz;cases hkk:Nat.beq (kN ka) (kN kb) with
 |false=>exact hz
 |true=>simp only;rcases Qhp hgg ka m n (λv=>k (put tm v) H nx) (gen c tm H nx k z) with e|⟨v,e,hv⟩<;>rw [e];exact hz;refine Zx hp hw ?_;rw [hop];simp only [light,ha,hb,D.of,D.bind,hv _ _ _ _ _ _ hkk,mapD]
 cases h;exact hg
theorem Qbg (a:AV) (y n z:RR):Qg3 a y n z=z\/(a= .bool true/\Qg3 a y n z=y)\/(a= .bool false/\Qg3 a y n z=n):=by
 cases a
 case bool b=>cases b
              exact .inr (.inr ⟨rfl,rfl⟩)
              exact .inr (.inl ⟨rfl,rfl⟩)
 all_goals exact .inl rfl
theorem Qhg (hp:Yb nt o.dst put) (hg:QE G nt ops o gen) {q x y:Operand} (hop:o.op= .pick q x y) (h:Qkd G.T.ng q x y put gen= .mk g):QE G nt ops o g:=by unfold Qkd at h;split at h;rename_i p r s hq hr hs;simp only [Box.mk.injEq] at h;subst h;intro c tm H nx k z hw;have hz:Fin G nt ops o c tm H nx k z (gen c tm H nx k z):=hg c tm H nx k z hw;obtain ⟨b,hb,hk0⟩:=Zz hq tm;obtain ⟨a1,ha1,hk1⟩:=Zz hr tm;obtain ⟨a2,ha2,hk2⟩:=Zz hs tm;simp only [hk0,hk1,hk2];rcases Qbg b _ _ _ with e|⟨rfl,e⟩|⟨rfl,e⟩<;>rw [e];exact hz;exact Zx hp hw (by rw [hop];simp only [light,hb,D.of,D.bind,ha1,Y5]);exact Zx hp hw (by rw [hop];simp only [light,hb,D.of,D.bind,ha2,Y5]);cases h;exact hg
theorem Qki (hp:Yb nt o.dst put) (hg:QE G nt ops o gen) {x:Operand} {t:TypeId} (hop:o.op= .unOp .not t x) (h:notB G.T.ng x put gen= .mk g):QE G nt ops o g:=by unfold notB at h;split at h;rename_i r hr;simp only [Box.mk.injEq] at h;subst h;intro c tm H nx k z hw;have hz:Fin G nt ops o c tm H nx k z (gen c tm H nx k z):=hg c tm H nx k z hw;obtain ⟨a,ha,hk⟩:=Zz hr tm;simp only [hk];rcases Qbg a _ _ _ with e|⟨rfl,e⟩|⟨rfl,e⟩<;>rw [e];exact hz;exact Zx hp hw (by rw [hop];simp only [light,ha,D.of,D.bind,aun,Y5];rfl);exact Zx hp hw (by rw [hop];simp only [light,ha,D.of,D.bind,aun,Y5];rfl);cases h;exact hg
theorem Q4s (hp:Yb nt o.dst put) (hg:QE G nt ops o gen) {t:TypeId} {x:Operand} {f:Nat} (hop:o.op= .fieldAddr t x f) (h:jM G t x f put gen= .mk g):QE G nt ops o g:=by
 unfold jM at h;split at h
 . rename_i r n hr hn;simp only [sNat_eq,Box.mk.injEq] at h;subst h;intro c tm H nx k z hw;have hz:Fin G nt ops o c tm H nx k z (gen c tm H nx k z):=hg c tm H nx k z hw;obtain ⟨a,ha,hk⟩:=Zz hr tm;simp only [hk];rcases Q4d a _ _ with e|⟨b,p,rfl,e⟩<;>rw [e]
   . exact hz
   try simp only [sNat_eq]
   exact Zx hp hw (by rw [hop];simp only [light,ha,D.of,D.bind,Q99 hn,Y5];rfl)
 cases h;exact hg
theorem Qkk (hp:Yb nt o.dst put) (hg:QE G nt ops o gen) {x:Operand} (hop:o.op= .nilCheck x) (h:nilB G.T.ng x put gen= .mk g):QE G nt ops o g:=by unfold nilB at h;split at h;rename_i r hr;simp only [Box.mk.injEq] at h;subst h;intro c tm H nx k z hw;have hz:Fin G nt ops o c tm H nx k z (gen c tm H nx k z):=hg c tm H nx k z hw;obtain ⟨a,ha,hk⟩:=Zz hr tm;simp only [hk];rcases Q4d a _ _ with e|⟨b,p,rfl,e⟩<;>rw [e];exact hz;exact Zx hp hw (by rw [hop];simp only [light,ha,D.of,D.bind,Qm6,Y5]);cases h;exact hg
theorem Qjo (a:AV) (f:List AV->RR) (z:RR):tupK a f z=z\/∃vs,a= .tuple vs/\tupK a f z=f vs:=by
 cases a
 case tuple vs=>exact .inr ⟨vs,rfl,rfl⟩
 all_goals exact .inl rfl
theorem Q9a (hp:Yb nt o.dst put) (hg:QE G nt ops o gen) {x:Operand} {i:Nat} (hop:o.op= .extract x i) (h:Q4t G.T.ng x i put gen= .mk g):QE G nt ops o g:=by
 unfold Q4t at h;split at h;rename_i r hr;simp only [Box.mk.injEq] at h;subst h;intro c tm H nx k z hw;have hz:Fin G nt ops o c tm H nx k z (gen c tm H nx k z):=hg c tm H nx k z hw;obtain ⟨a,ha,hk⟩:=Zz hr tm;simp only [hk];rcases Qjo a _ _ with e|⟨vs,rfl,e⟩<;>rw [e];exact hz;rw [Q10];cases hv:vs[i]? with
 |none=>exact hz
 |some v=>exact Zx hp hw (by rw [hop];simp only [light,ha,D.of,D.bind,je,hv,Y5])
 cases h;exact hg
theorem Qkw {d:TypeDesc} {k:IntKind} (h:intD d=some k):d= .int k:=by cases d<;>simp [intD] at h;rw [h]
theorem Qig (hp:Yb nt o.dst put) (hg:QE G nt ops o gen) {s t:TypeId} {x:Operand} (hop:o.op= .convert s t x) (h:Qle G s t x put gen= .mk g):QE G nt ops o g:=by
 unfold Qle at h;split at h;rename_i r si di hr hsi hdi;split at h;rename_i kd hkd;simp only [sNat_eq,Box.mk.injEq] at h;subst h;intro c tm H nx k z hw;have hz:Fin G nt ops o c tm H nx k z (gen c tm H nx k z):=hg c tm H nx k z hw;obtain ⟨a,ha,hk⟩:=Zz hr tm;simp only [hk];rcases Q1d a _ _ with e|⟨ka,m,rfl,e⟩<;>rw [e];exact hz;cases hb:Nat.ble m (qN kd) with
 |false=>exact hz
 |true=>have hd:=Qkw hkd;exact Zx hp hw (by rw [hop];simp only [light,ha,D.of,D.bind,Q82,hsi,hdi,Qgf,hd,E.Qfr,E.litS_eq,YA hb,Y5])
 cases h;exact hg;cases h;exact hg
theorem Q6r {d:TypeDesc} (h:Q37 d=true):d= .string:=by cases d<;>simp [Q37] at h;rfl
theorem Q1c {d:TypeDesc} {e:TypeId} (h:Q02 d=some e):d= .slice e:=by cases d<;>simp [Q02] at h;rw [h]
theorem Qdm (a:AV) (f:List E->RR) (z:RR):strK a f z=z\/∃s,a= .str s/\strK a f z=f s:=by
 cases a
 case str s=>exact .inr ⟨s,rfl,rfl⟩
 all_goals exact .inl rfl
theorem Q64 (a:AV) (f:Nat->Nat->Nat->RR) (z:RR):Qa4 a f z=z\/∃b o len cap es ex,a= .slice b o len cap es ex/\Qa4 a f z=f b o len:=by
 cases a
 case slice b o len cap es ex=>exact .inr ⟨b,o,len,cap,es,ex,rfl,rfl⟩
 all_goals exact .inl rfl
theorem Qf0 (hp:Yb nt o.dst put) (hg:QE G nt ops o gen) {t:TypeId} {x ix:Operand} (hop:o.op= .index t x ix) (h:indexB G t x ix put gen= .mk g):QE G nt ops o g:=by
 unfold indexB at h;split at h;rename_i r q ti hr hq hti;cases hd:Q37 ti.desc with
 |false=>rw [hd] at h;cases h;exact hg
 |true=>
  rw [hd] at h;simp only [cond_true,Box.mk.injEq] at h;subst h;intro c tm H nx k z hw;have hz:Fin G nt ops o c tm H nx k z (gen c tm H nx k z):=hg c tm H nx k z hw;obtain ⟨a,ha,hk⟩:=Zz hr tm;obtain ⟨b,hb,hk2⟩:=Zz hq tm;simp only [hk,hk2];rcases Qdm a _ _ with e|⟨s,rfl,e⟩<;>rw [e];exact hz;rcases Q1d b _ _ with e|⟨kb,i,rfl,e⟩<;>rw [e];exact hz;rw [Q10];cases hv:s[i]? with
  |none=>exact hz
  |some v=>exact Zx hp hw (by rw [hop];simp only [light,ha,hb,D.of,D.bind,Q20,hti,Qjh,Q7w,E.nat?,Q6r hd,hv,Y5])
 cases h;exact hg
theorem Q9b {T:Tab} {t:TypeId} {es:Nat} (h:elemSize T t=some es) {b o len cap es' :Nat} {ex:Bool} {k:IntKind} {i:Nat} (hi:Nat.blt i len=true):
 Yo T t (.slice b o len cap es' ex) (.int k (.lit (.ofNat i)))=some (.ptr b (o+i*es)):=by
 unfold elemSize at h;split at h;rename_i ti hti;split at h;rename_i e hd;split at h;rename_i ei hei;cases h;simp only [Yo,E.nat?,hti,Q1c hd,hei,hi,cond_true,sNat_eq];cases h;cases h;cases h
theorem Q4p (hp:Yb nt o.dst put) (hg:QE G nt ops o gen) {t:TypeId} {x ix:Operand} (hop:o.op= .indexAddr t x ix) (h:jJ G t x ix put gen= .mk g):QE G nt ops o g:=by
 unfold jJ at h;split at h;rename_i r q es hr hq hes;simp only [sNat_eq,Box.mk.injEq] at h;subst h;intro c tm H nx k z hw;have hz:Fin G nt ops o c tm H nx k z (gen c tm H nx k z):=hg c tm H nx k z hw;obtain ⟨a,ha,hk⟩:=Zz hr tm;obtain ⟨b,hb,hk2⟩:=Zz hq tm;simp only [hk,hk2];rcases Q64 a _ _ with e|⟨bl,p,len,cap,es',ex,rfl,e⟩<;>rw [e];exact hz;rcases Q1d b _ _ with e|⟨kb,i,rfl,e⟩<;>rw [e];exact hz;cases hi:Nat.blt i len with
 |false=>exact hz
 |true=>exact Zx hp hw (by rw [hop];simp only [light,ha,hb,D.of,D.bind,Qjh,Q9b hes hi,Y5];rfl)
 cases h;exact hg
theorem Qkq (hp:Yb nt o.dst put) (hg:QE G nt ops o gen) {cl:Call} (hop:o.op= .call cl) (h:lenB G cl put gen= .mk g):QE G nt ops o g:=by
 unfold lenB at h;split at h;rename_i t x hc hts hxs;split at h;rename_i r ti hr hti;cases hd:Q37 ti.desc with
 |true=>rw [hd] at h;simp only [cond_true,Box.mk.injEq] at h;subst h;intro c tm H nx k z hw;have hz:Fin G nt ops o c tm H nx k z (gen c tm H nx k z):=hg c tm H nx k z hw;obtain ⟨a,ha,hk⟩:=Zz hr tm;simp only [hk];rcases Qdm a _ _ with e|⟨s,rfl,e⟩<;>rw [e];exact hz;simp only [sNat_eq,Qeu];exact Zx hp hw (by rw [hop];simp only [light,hc,hts,hxs,ha,D.of,D.bind,Qgd,Qok,hti,Q6r hd,sNat_eq,Y5])
 |false=>rw [hd] at h;simp only [cond_false] at h;split at h;rename_i e hs;simp only [Box.mk.injEq] at h;subst h;intro c tm H nx k z hw;have hz:Fin G nt ops o c tm H nx k z (gen c tm H nx k z):=hg c tm H nx k z hw;obtain ⟨a,ha,hk⟩:=Zz hr tm;simp only [hk];rcases Q64 a _ _ with e|⟨b,p,len,cap,es,ex,rfl,e⟩<;>rw [e];exact hz;exact Zx hp hw (by rw [hop];simp only [light,hc,hts,hxs,ha,D.of,D.bind,Qgd,Qok,hti,Q1c hs,Y5]);cases h;exact hg
 cases h;exact hg;cases h;exact hg
theorem Qdt (hp:Yb nt o.dst put) (hg:QE G nt ops o gen) (h:Qdu G o.op put gen= .mk g):QE G nt ops o g:=by unfold Qdu at h;split at h<;>rename_i hop;exact Qak hp hg (.inl hop) h;exact Qak hp hg (.inr hop) h;exact Qhs hp hg hop h;exact Qdn hp hg hop h;exact Qlk hp hg hop h;exact Qhg hp hg hop h;split at h;exact Qki hp hg hop h;cases h;exact hg;exact Q4s hp hg hop h;exact Qkk hp hg hop h;exact Q9a hp hg hop h;exact Qig hp hg hop h;exact Qf0 hp hg hop h;exact Q4p hp hg hop h;exact Qkq hp hg hop h;cases h;exact hg
end
theorem JX {G:Env}:Zm G Q0i:=by
 intro nt ops o put g h hp;unfold Q0i at h;split at h;cases h;rename_i put' hp';cases hgen:genB G o put' with
 |mk gen=>rw [hgen] at h;simp only [Option.some.injEq] at h;exact Qdt (jy hp') (Ql1 (jy hp') hgen) h
end Go.Ax
namespace Go.Ax
open Go.RowKit
section
variable {P:Program} {G:Env} {n0:Nat} {w0:World} {cs0:List Frame} {X:Ext} {s:AM} {m:Machine}
theorem Ze (hT:G.T.OK P) (hI:YL.OK P G.I) (hS:ZE P G n0) {s s' :AM} (h:QX G s s'):∀{X:Ext} {m:Machine},Sim P G n0 w0 cs0 X s m->Qj3 P G n0 w0 cs0 X m s' :=by
 induction h with
 |refl s=>intro X m hs;exact ⟨X,m, .refl P _,Ext.le.refl X,hs⟩
 |step e _ ih=>intro X m hs;obtain ⟨Y,m1,a,b,c⟩:=Q9j hT hI hS hs e;exact Qj3.of_steps a b (ih c)
end
end Go.Ax
namespace Go.Ax
open Go.RowKit
inductive Sp where
 |int (k:IntKind) (lo hi:Int)
 |str (most:Nat)
 |bool
 |lit (b:Bool)
 |nils
 |agg (l:List Sp)
 |tup (l:List Sp)
mutual
def Sp.has:Sp->Value->Prop
 | .int k lo hi,v=>∃n,v= .int k n/\lo<=n/\n<=hi
 | .str m,v=>∃s:ByteArray,v= .string s/\s.size<=m
 | .bool,v=>∃b,v= .bool b
 | .lit b,v=>v= .bool b
 | .nils,v=>v= .slice none 0 0
 | .agg l,v=>∃vs:Array Value,v= .agg vs/\Sp.yB l vs.toList
 | .tup l,v=>∃vs:Array Value,v= .tuple vs/\Sp.yB l vs.toList
def Sp.yB:List Sp->List Value->Prop
 |[],vs=>vs=[]
 |s::l,vs=>∃v vs',vs=v::vs' /\s.has v/\Sp.yB l vs'
end
mutual
noncomputable def Sp.chk (c:Ctx):Sp->AV->Bool
 | .int k lo hi, .int j e=>Nat.beq (kN j) (kN k)&&(match (E.iv c.fs e).lo,(E.iv c.fs e).hi with|some l,some h=>ile lo l&&ile h hi|_,_=>false)
 | .str m,a=>match Qjp a with
  |some s=>(match (E.iv c.fs s.len).hi with|some h=>ile h (.ofNat m)|none=>false)
  |none=>false
 | .bool, .bool _=>true
 | .lit b, .bool a=>b==a
 | .nils, .nilslice=>true
 | .agg l, .agg cs=>Sp.jO c l cs
 | .tup l, .tuple cs=>Sp.jO c l cs
 |_,_=>false
noncomputable def Sp.jO (c:Ctx):List Sp->List AV->Bool
 |[],[]=>true
 |s::l,a::as=>s.chk c a&&Sp.jO c l as
 |_,_=>false
end
mutual
theorem Sp.JM {c:Ctx} {X:Ext} (hc:c.okN X.dom X.O):∀{sp:Sp} {a:AV} {v:Value},sp.chk c a=true->a.rel X v->sp.has v
 | .int k lo hi,a,v,h,hr=>by cases a<;>simp only [Sp.chk,Bool.false_eq_true,Bool.and_eq_true] at h;rename_i j e;obtain ⟨h1,h2⟩:=h;simp only [AV.rel] at hr;obtain ⟨_,rfl⟩:=hr;have hv:=E.Qd hc.2 e;split at h2;rename_i l hh e1 e2;simp only [Bool.and_eq_true,QU] at h2;have:=hv.1 _ e1;have:=hv.2 _ e2;simp only [Sp.has];exact ⟨_,by rw [Q1b h1],by omega,by omega⟩;cases h2
 | .str m,a,v,h,hr=>by
  have h' :(match Qjp a with
   |some s=>(match (E.iv c.fs s.len).hi with|some h=>ile h (.ofNat m)|none=>false)
   |none=>false)=true:=by cases a<;>exact h
  split at h';rename_i s hs;obtain ⟨s1,s2,rfl⟩:=yV hs hr;split at h';rename_i hh e;rw [QU] at h';have:=(E.Qd hc.2 s.len).2 _ e
  unfold ST.fit at s2;simp only [Sp.has];refine ⟨_,rfl,?_⟩;show (s.den X.O).toArray.size<=m
  simp only [Int.ofNat_eq_natCast] at h';simp;omega;cases h';cases h'
 | .bool,a,v,h,hr=>by cases a<;>simp only [Sp.chk,Bool.false_eq_true] at h;simp only [AV.rel] at hr;simp only [Sp.has];exact ⟨_,hr⟩
 | .lit b,a,v,h,hr=>by cases a<;>simp only [Sp.chk,Bool.false_eq_true,beq_iff_eq] at h;simp only [AV.rel] at hr;simp only [Sp.has];rw [hr,h]
 | .nils,a,v,h,hr=>by cases a<;>simp only [Sp.chk,Bool.false_eq_true] at h;simp only [AV.rel] at hr;simp only [Sp.has];exact hr
 | .agg l,a,v,h,hr=>by cases a<;>simp only [Sp.chk,Bool.false_eq_true] at h;simp only [AV.rel] at hr;obtain ⟨vs,rfl,hr⟩:=hr;simp only [Sp.has];exact ⟨vs,rfl,Sp.QV hc h hr⟩
 | .tup l,a,v,h,hr=>by cases a<;>simp only [Sp.chk,Bool.false_eq_true] at h;simp only [AV.rel] at hr;obtain ⟨vs,rfl,hr⟩:=hr;simp only [Sp.has];exact ⟨vs,rfl,Sp.QV hc h hr⟩
theorem Sp.QV {c:Ctx} {X:Ext} (hc:c.okN X.dom X.O):∀{l:List Sp} {as:List AV} {vs:List Value},Sp.jO c l as=true->AV.QH X as vs->Sp.yB l vs
 |[],as,vs,h,hr=>by cases as<;>simp only [Sp.jO,Bool.false_eq_true] at h;simp only [Sp.yB];exact rels_nil.1 hr
 |s::l,as,vs,h,hr=>by cases as<;>simp only [Sp.jO,Bool.false_eq_true,Bool.and_eq_true] at h;obtain ⟨v,vs',rfl,h1,h2⟩:=Q8.1 hr;simp only [Sp.yB];exact ⟨v,vs',rfl,Sp.JM hc h.1 h1,Sp.QV hc h.2 h2⟩
end
structure In where
 v:AV
 next:Nat
 fs:Facts
 vs:List Nat
structure InL where
 v:List AV
 next:Nat
 fs:Facts
 vs:List Nat
mutual
noncomputable def Sp.inst:Sp->Nat->Option In
 | .int k lo hi,n=>QG (n+1) λm=>some ⟨.int k (.var n),m,[⟨.geq, .var n, .lit lo,true⟩,⟨.leq, .var n, .lit hi,true⟩],[n]⟩
 | .str most,n=>QG (n+1) λm=>some ⟨.sstr (.var n),m,[⟨.leq, .len n, .lit (.ofNat most),true⟩],[n]⟩
 | .bool,_=>none
 | .lit b,n=>some ⟨.bool b,n,[],[]⟩
 | .nils,n=>some ⟨.nilslice,n,[],[]⟩
 | .agg l,n=>match Sp.qX l n with
  |some r=>some ⟨.agg r.v,r.next,r.fs,r.vs⟩
  |none=>none
 | .tup l,n=>match Sp.qX l n with
  |some r=>some ⟨.tuple r.v,r.next,r.fs,r.vs⟩
  |none=>none
noncomputable def Sp.qX:List Sp->Nat->Option InL
 |[],n=>some ⟨[],n,[],[]⟩
 |s::l,n=>match s.inst n with
  |none=>none
  |some a=>match Sp.qX l a.next with
   |none=>none
   |some r=>some ⟨a.v::r.v,r.next,a.fs++r.fs,a.vs++r.vs⟩
end
structure New (X Y:Ext) (p:Place) (n m:Nat) (fs:Facts) (vs:List Nat):Prop where
 le:X.le Y
 nm:n<=m
 old:∀b,b<n->Y.V b=X.V b
 new:∀b,n<=b->b<m->Y.V b=some p
 free:∀b,m<=b->Y.V b=none
 fs:fs.okN Y.dom Y.O
 vs:∀i∈vs,Y.dom i
def Ext.letter (X:Ext) (n:Nat) (p:Place) (z:Int) (s:List UInt8):Ext:=⟨λi=>if i=n then some p else X.V i,⟨λi=>if i=n then z else X.O.int i,λi=>if i=n then s else X.O.str i⟩⟩
theorem Ext.Q33 {X:Ext} {n:Nat} {p:Place} {z:Int} {s:List UInt8} (h:∀b,n<=b->X.V b=none) {fs:Facts} (hf:fs.okN (X.letter n p z s).dom (X.letter n p z s).O):New X (X.letter n p z s) p n (n+1) fs [n]:=by
 refine ⟨⟨λb q hq=>?_,λi hi=>?_⟩,by omega,λb hb=>?_,λb h1 h2=>?_,λb hb=>?_,hf,λi hi=>?_⟩;have:b≠n:=λe=>by subst e;rw [h _ (Nat.le_refl _)] at hq;cases hq
 simp only [Ext.letter,if_neg this];exact hq;obtain ⟨q,hq⟩:=hi;have:i≠n:=λe=>by subst e;rw [h _ (Nat.le_refl _)] at hq;cases hq
 simp only [Ext.letter,if_neg this,and_self];simp only [Ext.letter,if_neg (show ¬b=n by omega)];simp only [Ext.letter,if_pos (show b=n by omega)];simp only [Ext.letter,if_neg (show ¬b=n by omega)];exact h b (by omega);simp only [List.mem_singleton] at hi;subst hi;exact ⟨p,by simp [Ext.letter]⟩
theorem Facts.Q00 {d d' :Nat->Prop} {O O' :Val} (hd:∀i,d i->d' i) (ha:Val.agree d O O') {fs:Facts} (h:fs.okN d O):fs.okN d' O' :=λf hf=>by obtain ⟨h1,h2,h3⟩:=h f hf;refine ⟨?_,E.Ql hd h2,E.Ql hd h3⟩;unfold Fact.ok at*;rw [E.Qc ha h2,E.Qc ha h3];exact h1
mutual
theorem Sp.jI {p:Place}:∀{sp:Sp} {n:Nat} {r:In} {X:Ext} {v:Value},sp.inst n=some r->sp.has v->(∀b,n<=b->X.V b=none)->∃Y,New X Y p n r.next r.fs r.vs/\r.v.rel Y v
 | .int k lo hi,n,r,X,v,h,hv,hf=>by
  simp only [Sp.inst,sNat_eq,Option.some.injEq] at h;subst h;simp only [Sp.has] at hv;obtain ⟨z,rfl,h1,h2⟩:=hv;refine ⟨X.letter n p z [],Ext.Q33 hf ?_,?_⟩;intro f hm;have hd:(X.letter n p z []).dom n:=⟨p,by simp [Ext.letter]⟩
  simp only [List.mem_cons,List.not_mem_nil,or_false] at hm;rcases hm with rfl|rfl;exact ⟨by simp [Fact.ok,Yf,E.den,Ext.letter,h1],hd,trivial⟩;exact ⟨by simp [Fact.ok,Yf,E.den,Ext.letter,h2],hd,trivial⟩;simp only [AV.rel];exact ⟨⟨p,by simp [Ext.letter]⟩,by simp [E.den,Ext.letter]⟩
 | .str most,n,r,X,v,h,hv,hf=>by
  simp only [Sp.inst,sNat_eq,Option.some.injEq] at h;subst h;simp only [Sp.has] at hv;obtain ⟨s,rfl,h1⟩:=hv;refine ⟨X.letter n p 0 s.data.toList,Ext.Q33 hf ?_,?_⟩;intro f hm;have hd:(X.letter n p 0 s.data.toList).dom n:=⟨p,by simp [Ext.letter]⟩
  simp only [List.mem_cons,List.not_mem_nil,or_false] at hm;subst hm;refine ⟨?_,hd,trivial⟩;simp [Fact.ok,Yf,E.den,Ext.letter];exact h1;simp only [AV.rel];refine ⟨⟨p,by simp [Ext.letter]⟩,?_,?_⟩;simp [ST.fit,ST.len,E.den,ST.den,Ext.letter];simp [ST.den,Ext.letter]
 | .bool,n,r,X,v,h,_,_=>by simp [Sp.inst] at h
 | .lit b,n,r,X,v,h,hv,hf=>by simp only [Sp.inst,Option.some.injEq] at h;subst h;simp only [Sp.has] at hv;exact ⟨X,⟨Ext.le.refl X,Nat.le_refl _,λ_ _=>rfl,λb h1 h2=>by simp only at h2;omega,hf,λf hf=>(by cases hf),λi hi=>(by cases hi)⟩,by simp only [AV.rel];exact hv⟩
 | .nils,n,r,X,v,h,hv,hf=>by simp only [Sp.inst,Option.some.injEq] at h;subst h;simp only [Sp.has] at hv;exact ⟨X,⟨Ext.le.refl X,Nat.le_refl _,λ_ _=>rfl,λb h1 h2=>by simp only at h2;omega,hf,λf hf=>(by cases hf),λi hi=>(by cases hi)⟩,by simp only [AV.rel];exact hv⟩
 | .agg l,n,r,X,v,h,hv,hf=>by simp only [Sp.inst] at h;split at h;rename_i q hq;cases h;simp only [Sp.has] at hv;obtain ⟨vs,rfl,hv⟩:=hv;obtain ⟨Y,h1,h2⟩:=Sp.Zw (p:=p) hq hv hf;exact ⟨Y,h1,by simp only [AV.rel];exact ⟨vs,rfl,h2⟩⟩;cases h
 | .tup l,n,r,X,v,h,hv,hf=>by simp only [Sp.inst] at h;split at h;rename_i q hq;cases h;simp only [Sp.has] at hv;obtain ⟨vs,rfl,hv⟩:=hv;obtain ⟨Y,h1,h2⟩:=Sp.Zw (p:=p) hq hv hf;exact ⟨Y,h1,by simp only [AV.rel];exact ⟨vs,rfl,h2⟩⟩;cases h
theorem Sp.Zw {p:Place}:∀{l:List Sp} {n:Nat} {r:InL} {X:Ext} {vs:List Value},Sp.qX l n=some r->Sp.yB l vs->(∀b,n<=b->X.V b=none)->∃Y,New X Y p n r.next r.fs r.vs/\AV.QH Y r.v vs
 |[],n,r,X,vs,h,hv,hf=>by simp only [Sp.qX,Option.some.injEq] at h;subst h;simp only [Sp.yB] at hv;subst hv;exact ⟨X,⟨Ext.le.refl X,Nat.le_refl _,λ_ _=>rfl,λb h1 h2=>by simp only at h2;omega,hf,λf hf=>(by cases hf),λi hi=>(by cases hi)⟩,by simp⟩
 |s::l,n,r,X,vs,h,hv,hf=>by simp only [Sp.qX] at h;split at h;cases h;rename_i a ha;split at h;cases h;rename_i q hq;cases h;simp only [Sp.yB] at hv;obtain ⟨v,vs',rfl,hv1,hv2⟩:=hv;obtain ⟨Y,n1,r1⟩:=Sp.jI (p:=p) ha hv1 hf;obtain ⟨Z,n2,r2⟩:=Sp.Zw (p:=p) hq hv2 n1.free;refine ⟨Z,⟨n1.le.trans n2.le,Nat.le_trans n1.nm n2.nm,λb hb=>?_,λb h1 h2=>?_,n2.free,λf hm=>?_,λi hi=>?_⟩,?_⟩;rw [n2.old b (Nat.lt_of_lt_of_le hb n1.nm),n1.old b hb];by_cases hb:b<a.next;rw [n2.old b hb];exact n1.new b h1 hb;exact n2.new b (by omega) h2;rcases List.mem_append.1 hm with hm|hm;exact Facts.Q00 n2.le.dom n2.le.O n1.fs f hm;exact n2.fs f hm;rcases List.mem_append.1 hi with hi|hi;exact n2.le.dom _ (n1.vs i hi);exact n2.vs i hi;simp only [rels_cons_cons];exact ⟨AV.Zj n2.le _ _ r1,r2⟩
end
mutual
def Sp.part:Sp->List Sp
 | .bool=>[.lit true, .lit false]
 | .agg l=>(Sp.Q4f l).map .agg
 | .tup l=>(Sp.Q4f l).map .tup
 |s=>[s]
def Sp.Q4f:List Sp->List (List Sp)
 |[]=>[[]]
 |s::l=>s.part.flatMap λa=>(Sp.Q4f l).map λas=>a::as
end
mutual
theorem Sp.Qhj:∀{sp:Sp} {v:Value},sp.has v->∃a∈sp.part,a.has v
 | .bool,v,h=>by simp only [Sp.has] at h;obtain ⟨b,rfl⟩:=h;cases b;exact ⟨.lit false,by simp [Sp.part],by simp only [Sp.has]⟩;exact ⟨.lit true,by simp [Sp.part],by simp only [Sp.has]⟩
 | .agg l,v,h=>by simp only [Sp.has] at h;obtain ⟨vs,rfl,h⟩:=h;obtain ⟨as,h1,h2⟩:=Sp.zO h;exact ⟨.agg as,by simp only [Sp.part];exact List.mem_map.2 ⟨as,h1,rfl⟩,by simp only [Sp.has];exact ⟨vs,rfl,h2⟩⟩
 | .tup l,v,h=>by simp only [Sp.has] at h;obtain ⟨vs,rfl,h⟩:=h;obtain ⟨as,h1,h2⟩:=Sp.zO h;exact ⟨.tup as,by simp only [Sp.part];exact List.mem_map.2 ⟨as,h1,rfl⟩,by simp only [Sp.has];exact ⟨vs,rfl,h2⟩⟩
 | .int k lo hi,v,h=>⟨_,by simp [Sp.part],h⟩
 | .str m,v,h=>⟨_,by simp [Sp.part],h⟩
 | .lit b,v,h=>⟨_,by simp [Sp.part],h⟩
 | .nils,v,h=>⟨_,by simp [Sp.part],h⟩
theorem Sp.zO:∀{l:List Sp} {vs:List Value},Sp.yB l vs->∃as∈Sp.Q4f l,Sp.yB as vs
 |[],vs,h=>⟨[],by simp [Sp.Q4f],h⟩
 |s::l,vs,h=>by simp only [Sp.yB] at h;obtain ⟨v,vs',rfl,h1,h2⟩:=h;obtain ⟨a,g1,g2⟩:=Sp.Qhj h1;obtain ⟨as,g3,g4⟩:=Sp.zO h2;refine ⟨a::as,?_,by simp only [Sp.yB];exact ⟨v,vs',rfl,g2,g4⟩⟩;simp only [Sp.Q4f,List.mem_flatMap,List.mem_map];exact ⟨a,g1,as,g3,rfl⟩
end
end Go.Ax
namespace Go.Ax
open Go.RowKit
noncomputable def Y0 (spec:Spec) (G:Env) (n:Nat) (f:FuncId) (q:Ctx->AV->Bool) (k:Nat):Nat->AM->Bool
 |0,_=>false
 |d+1,s=>match Qgj spec G n k s with
  | .go _=>false
  | .stop s=>match Zy G s with
   | .fin=>s.fr.ret&&Nat.beq s.fr.fn f&&(match G.T.funcs.get s.fr.fn with
    |some fn=>match qj G.T s.H fn s.fr.tm with
     |some v=>q s.ctx v
     |none=>false
    |none=>false)
   | .ask op a b=>a.okB s.ctx.vs&&b.okB s.ctx.vs&&(Y0 spec G n f q k d { s with ctx:=s.ctx.add ⟨op,a,b,true⟩}&&Y0 spec G n f q k d { s with ctx:=s.ctx.add ⟨op,a,b,false⟩})
   |_=>false
section
variable {P:Program} {G:Env} {n0:Nat} {w0:World} {cs0:List Frame} {X:Ext} {s:AM} {m:Machine}
def Qlr (P:Program) (n0:Nat) (w0:World) (cs0:List Frame) (f:FuncId) (q:Ctx->AV->Bool) (X:Ext) (m:Machine):Prop:=∃Y fr w c v u,Steps P m (lone fr cs0 w)/\X.le Y/\c.okN Y.dom Y.O/\q c v=true/\v.rel Y u/\Below n0 w0 w/\fr.fn=f/\fr.leaving P w (.returned u)
theorem ZY (hT:G.T.OK P) (hI:YL.OK P G.I) (hS:ZE P G n0) {spec:Spec} (hsp:Zm G spec) {n:Nat} {f:FuncId} {q:Ctx->AV->Bool} {k:Nat}:∀(d:Nat) {X:Ext} {s:AM} {m:Machine},Y0 spec G n f q k d s=true->Sim P G n0 w0 cs0 X s m->Qlr P n0 w0 cs0 f q X m
 |0,X,s,m,he,_=>by simp [Y0] at he
 |d+1,X,s,m,he,h=>by
  simp only [Y0] at he;have hr:=Ze hT hI hS (Q0n hsp n k s) h;split at he;cases he;rename_i s1 hs1;rw [hs1] at hr;obtain ⟨Y,m1,st,hle,h1⟩:=hr;simp only [Jy.state] at h1;have fin:∀{X' :Ext},Y=X' ->Qlr P n0 w0 cs0 f q X' m1->Qlr P n0 w0 cs0 f q X m:=by
   rintro X' rfl ⟨Z,fr,w,c,v,u,a1,a2,a3⟩
   exact ⟨Z,fr,w,c,v,u,st.trans a1,hle.trans a2,a3⟩
  split at he;rename_i hfin;refine fin rfl ?_;simp only [Bool.and_eq_true,Nat.beq_eq] at he;obtain ⟨⟨hret,hf⟩,he⟩:=he;split at he;rename_i fn hfn;split at he;rename_i v hv;have hend:s1.fr.ret=true/\s1.fr.defers=[]/\s1.cs=[]:=by unfold Zy at hfin;rw [hret] at hfin;simp only at hfin;split at hfin;cases hfin;split at hfin<;>cases hfin;rename_i hd;split at hfin;rename_i hcs;exact ⟨hret,hd,hcs⟩;split at hfin;cases hfin;split at hfin;cases hfin;split at hfin<;>cases hfin
  obtain ⟨e1,e2,e3⟩:=hend;obtain ⟨fr,cs,w,rfl,hF,hall,hH,hB,h0⟩:=h1.ex;rw [e3] at hall;simp only [Z0] at hall;subst hall;obtain ⟨hb,h'⟩:=hF;rw [e1] at h';simp only at h';obtain ⟨hm,htm,hcur⟩:=h';have hdf:=hb.defers;rw [e2] at hdf;simp only [Q2h] at hdf;obtain ⟨u,hu,hr⟩:=zK (P:=P) hT hH htm hv;exact ⟨Y,fr,w,s1.ctx,v,u, .refl P _,Ext.le.refl Y,h1.ctx,he,hr,hB,hb.fn.trans hf,hm,hdf,hb.kind,fn,by rw [hb.fn];exact (hT.funcs _ _ hfn).1,hu⟩;cases he;cases he;rename_i op a b hask;simp only [Bool.and_eq_true] at he;obtain ⟨⟨ka,kb⟩,he⟩:=he;obtain ⟨v,hv⟩:=h1.ask op ka kb;refine fin rfl ?_;cases v with
  |true=>exact ZY hT hI hS hsp d he.1 hv
  |false=>exact ZY hT hI hS hsp d he.2 hv
  cases he
theorem J4 (hT:G.T.OK P) (hI:YL.OK P G.I) (hS:ZE P G n0) {spec:Spec} (hsp:Zm G spec) {n:Nat} {f:FuncId} {args:List AV} {vs:Array Value} {H:Tr Q7} {next:Nat} {c:Ctx} {q:Ctx->AV->Bool} {k d:Nat} {s:AM} {w:World} (hs:start G f args H next c=some s) (he:Y0 spec G n f q k d s=true)
 (hargs:AV.QH X args vs.toList) (hH:Qq X n0 H w) (h0:n0<=w.heap.size) (hc:c.okN X.dom X.O) (hg:X.Qo G.T.ng) (hfr:∀b,next<=b->X.V b=none):
 Calls P f vs w (λe w' =>∃Y c v u,X.le Y/\c.okN Y.dom Y.O/\q c v=true/\v.rel Y u/\e= .returned u/\Below n0 w w'):=by
 intro cs;have hsim:Sim P G n0 w cs X s (lone (Frame.enter P f vs .normal) cs w):=by
  unfold start at hs;split at hs;cases hs;rename_i fn hfn;split at hs;cases hs;rename_i b hb;cases hs;have hP:=(hT.funcs f fn hfn).1
  refine ⟨⟨Frame.enter P f vs .normal,[],w,rfl,⟨⟨rfl,rfl,rfl,rfl⟩,rfl,[.code b],⟨_,_,rfl,rfl,rfl⟩,?_,?_⟩,rfl,hH,Below.refl _ _,h0⟩,hc,hg,hfr,?_⟩;simp [Frame.enter,hP,hb];have:=Q4w (k:=fn.ntmps) hargs;simpa [Frame.enter,hP] using this;simp [Qm]
 obtain ⟨Y,fr,w',c',v,u,a1,a2,a2',a3,a4,a5,a6,a7⟩:=ZY hT hI hS hsp d he hsim;exact ⟨.returned u,w',fr,⟨Y,c',v,u,a2,a2',a3,a4,rfl,a5⟩,a1,a6,a7⟩
end
def Told (P:Program) (ng:Nat) (f:FuncId) (args:List Sp) (res:Sp):Prop:=∀(w:World) (vs:Array Value),ng<=w.heap.size->Sp.yB args vs.toList->Calls P f vs w (λe w' =>∃u,e= .returned u/\res.has u/\Below w.heap.size w w')
def Ext.base (ng:Nat):Ext:=⟨λb=>if b<ng then some ⟨b,0,0⟩ else none,⟨λ_=>0,λ_=>[]⟩⟩
theorem Q0d {P:Program} {G:Env} (hT:G.T.OK P) (hI:YL.OK P G.I) (hS:∀n0,ZE P G n0) (hng:0<G.T.ng) {f:FuncId} {args:List Sp} {res:Sp} {r:InL} {room n k d:Nat} {s:AM}
 (hi:Sp.qX args G.T.ng=some r) (hs:start G f r.v (.sk room) r.next ⟨r.fs,r.vs⟩=some s) (he:Y0 Q0i G n f (λc v=>res.chk c v) k d s=true):Told P G.T.ng f args res:=by
 intro w vs hw hv cs;obtain ⟨Y,hN,hr⟩:=Sp.Zw (p:=⟨0,0,0⟩) (X:=Ext.base G.T.ng) hi hv (λb hb=>by simp [Ext.base,Nat.not_lt.2 hb]);have hH:Qq Y w.heap.size (.sk room) w:=by refine ⟨λb o p hb=>by simp at hb,λb b' o o' p p' hb=>by simp at hb,λb p hp=>?_,λb o p hb=>by simp at hb⟩;by_cases h1:b<G.T.ng;rw [hN.old b h1] at hp;simp only [Ext.base,if_pos h1,Option.some.injEq] at hp;subst hp;exact Nat.lt_of_lt_of_le h1 hw;by_cases h2:b<r.next;rw [hN.new b (by omega) h2] at hp;cases hp;exact Nat.lt_of_lt_of_le hng hw;rw [hN.free b (by omega)] at hp;cases hp
 have hg:Y.Qo G.T.ng:=λg hg=>⟨0,by rw [hN.old g hg];simp [Ext.base,hg]⟩
 obtain ⟨e,w',fr,⟨Z,c,v,u,a1,a2,a3,a4,rfl,a5⟩,a6⟩:=J4 hT hI (hS _) JX hs he hr hH (Nat.le_refl _) (c:=⟨r.fs,r.vs⟩) ⟨hN.vs,hN.fs⟩ hg hN.free cs;exact ⟨_,w',fr,⟨u,rfl,Sp.JM a2 a3 a4,a5⟩,a6⟩
theorem Qbt {P:Program} {ng:Nat} {f:FuncId} {args:List Sp} {res:Sp} (h:∀as∈Sp.Q4f args,Told P ng f as res):Told P ng f args res:=by intro w vs hw hv;obtain ⟨as,h1,h2⟩:=Sp.zO hv;exact h as h1 w vs hw h2
noncomputable def JI (G:Env) (f:FuncId) (res:Sp) (room n k d:Nat):List (List Sp)->Bool
 |[]=>true
 |as::l=>(match Sp.qX as G.T.ng with
  |none=>false
  |some r=>match start G f r.v (.sk room) r.next ⟨r.fs,r.vs⟩ with
   |none=>false
   |some s=>Y0 Q0i G n f (λc v=>res.chk c v) k d s)&&JI G f res room n k d l
theorem Qgr {P:Program} {G:Env} (hT:G.T.OK P) (hI:YL.OK P G.I) (hS:∀n0,ZE P G n0) (hng:0<G.T.ng) {f:FuncId} {args:List Sp} {res:Sp} {room n k d:Nat}
 (he:JI G f res room n k d (Sp.Q4f args)=true):Told P G.T.ng f args res:=by
 refine Qbt ?_;generalize Sp.Q4f args=l at he;induction l with
 |nil=>intro as h;cases h
 |cons a l ih=>simp only [JI,Bool.and_eq_true] at he;intro as h;rcases List.mem_cons.1 h with rfl|h;have h1:=he.1;split at h1;cases h1;rename_i r hr;split at h1;cases h1;rename_i s hs;exact Q0d hT hI hS hng hr hs h1;exact ih he.2 as h
noncomputable def Q96 (H:Tr Q7) (n:Nat) (m:Nat):Nat->Bool
 |0=>Nat.ble m n
 |k+1=>bif Nat.ble m n then true else (match H.get n with|none=>QG (n+1) λn=>Q96 H n m k|some _=>false)
theorem z8 {H:Tr Q7} {m:Nat}:∀{k n:Nat},Q96 H n m k=true->∀b,n<=b->b<m->H.get b=none
 |0,n,h,b,h1,h2=>by simp only [Q96,Nat.ble_eq] at h;omega
 |k+1,n,h,b,h1,h2=>by
  simp only [Q96,sNat_eq] at h;cases hb:Nat.ble m n with
  |true=>have:m<=n:=by simpa using hb
         omega
  |false=>rw [hb] at h;simp only [cond_false] at h;split at h;rename_i hg;by_cases e:b=n;subst e;exact hg;exact z8 h b (by omega) h2;cases h
noncomputable def Qc0 (args:List Sp) (res:Sp):Ctx->Tr Q7->Nat->List AV->D SR:=λc H next as=>
 bif Sp.jO c args as then
  match res.inst next with
  |some r=>bif Q96 H next r.next 64 then .ok ⟨r.v,H,r.next,⟨r.fs++c.fs,r.vs++c.vs⟩⟩ else .fail
  |none=> .fail
 else .fail
theorem Qgv {P:Program} {G:Env} {n0:Nat} (hng:0<G.T.ng) {f:FuncId} {args:List Sp} {res:Sp} (h:Told P G.T.ng f args res):ZL P G n0 f (Qc0 args res):=by
 intro c X H next w as vs r hr hc hg hH h0 hfr hargs fr cs
 unfold Qc0 at hr;cases hk:Sp.jO c args as with
 |false=>rw [hk] at hr;cases hr
 |true=>
  rw [hk] at hr;simp only [cond_true] at hr;split at hr
  . rename_i q hq;cases hb:Q96 H next q.next 64 with
    |false=>rw [hb] at hr;cases hr
    |true=>
     rw [hb] at hr;cases hr;have hfree:=z8 hb;have hhas:=Sp.QV hc hk hargs;have hsz:G.T.ng<=w.heap.size:=by obtain ⟨n,hn⟩:=hg (G.T.ng-1) (by omega);have:=hH.lt _ _ hn;simp only at this;omega
     have hcall:=h w vs hsz hhas;obtain ⟨u,w',⟨g2,g3⟩,g1⟩:=ZV hcall fr cs;obtain ⟨n,hn⟩:=hg 0 hng;obtain ⟨Y,hN,hrel⟩:=Sp.jI (p:=⟨0,0,n⟩) hq g2 hfr;have h0' :(0:Nat)<w.heap.size:=by have:=hH.lt _ _ hn;simpa using this
     refine ⟨Y,u,w',g1,hN.le,hrel,?_,g3.mono h0,λb hb hlt=>⟨by rw [hN.old b hlt];exact hb,rfl⟩,hN.nm,hN.free,?_⟩
     . have hold:∀b o p,H.get b=some o->Y.V b=some p->X.V b=some p:=by
        intro b o p ho hp;by_cases h1:b<next
        rw [<-hN.old b h1];exact hp;by_cases h2:b<q.next;rw [hfree b (by omega) h2] at ho;cases ho;rw [hN.free b (by omega)] at hp;cases hp
       refine ⟨λb o p ho hp=>?_,λb b' o o' p p' ho ho' hl hl' hp hp' he=>hH.inj b b' o o' p p' ho ho' hl hl' (hold b o p ho hp) (hold b' o' p' ho' hp') he,λb p hp=>?_,λb o p ho hr hp=>hH.own b o p ho hr (hold b o p ho hp)⟩;have hp' :=hold b o p ho hp;rw [g3.block _ (hH.lt _ _ hp')];exact Zh hN.le (hH.obj b o p ho hp');refine Nat.lt_of_lt_of_le ?_ g3.size;by_cases h1:b<next
       exact hH.lt b p (by rw [<-hN.old b h1];exact hp);by_cases h2:b<q.next;rw [hN.new b (by omega) h2] at hp;cases hp;exact h0';rw [hN.free b (by omega)] at hp;cases hp
     refine ⟨λi hi=>?_,λfa hf=>?_⟩;rcases List.mem_append.1 hi with hi|hi;exact hN.vs i hi;exact hN.le.dom _ (hc.1 i hi);rcases List.mem_append.1 hf with hf|hf;exact hN.fs fa hf;exact Facts.Q00 hN.le.dom hN.le.O hc.2 fa hf
  cases hr
end Go.Ax
namespace Go.Ax
open Go.RowKit
abbrev Sum:=Ctx->Tr Q7->Nat->List AV->D SR
noncomputable def Qgt:List (Nat×Sum)->Nat->Option Sum
 |[],_=>none
 |p::l,f=>bif Nat.beq p.1 f then some p.2 else Qgt l f
def Qgh (P:Program) (T:Tab) (l:List (Nat×Sum)):Prop:=∀p∈l,∀(G:Env) (n0:Nat),G.T=T->Qoo P G n0 p.1 p.2
theorem Qgs {P:Program} {T:Tab} {I:List (TypeId×TypeId×Bool)} {l:List (Nat×Sum)} (h:Qgh P T l) (n0:Nat):ZE P ⟨T,I,Qgt l⟩ n0:=by
 intro f S hf;have:∃p∈l,p.1=f/\p.2=S:=by
  clear h;induction l with
  |nil=>cases hf
  |cons p l ih=>
   have hf' :(bif Nat.beq p.1 f then some p.2 else Qgt l f)=some S:=hf;cases hb:Nat.beq p.1 f with
   |true=>rw [hb] at hf';simp only [cond_true,Option.some.injEq] at hf';exact ⟨p,by simp,by simpa using hb,hf'⟩
   |false=>rw [hb] at hf';obtain ⟨q,h1,h2⟩:=ih hf';exact ⟨q,by simp [h1],h2⟩
 obtain ⟨p,hp,rfl,rfl⟩:=this;exact h p hp _ n0 rfl
theorem Qgh.cons {P:Program} {T:Tab} {p:Nat×Sum} {l:List (Nat×Sum)} (h1:∀(G:Env) (n0:Nat),G.T=T->ZL P G n0 p.1 p.2) (h2:∀args w,(callFunc p.1 args).run P w= .ok (.enter p.1 args) w) (h:Qgh P T l):Qgh P T (p::l):=by
 intro q hq;rcases List.mem_cons.1 hq with rfl|hq;exact λG n0 e=> .inl ⟨h1 G n0 e,h2⟩
 exact h q hq
theorem Qgh.ext {P:Program} {T:Tab} {p:Nat×Sum} {l:List (Nat×Sum)} (h1:∀(G:Env) (n0:Nat),G.T=T->Qoq P G n0 p.1 p.2) (h:Qgh P T l):Qgh P T (p::l):=by
 intro q hq;rcases List.mem_cons.1 hq with rfl|hq;exact λG n0 e=> .inr (h1 G n0 e)
 exact h q hq
theorem Qgh.nil {P:Program} {T:Tab}:Qgh P T []:=λp hp=>by cases hp
theorem Qgh.told {P:Program} {T:Tab} (hng:0<T.ng) {f:FuncId} {args:List Sp} {res:Sp} (h:Told P T.ng f args res):∀(G:Env) (n0:Nat),G.T=T->ZL P G n0 f (Qc0 args res):=λG n0 e=>by subst e;exact Qgv hng h
def spI:Sp:= .int .i64 (-9223372036854775808) 9223372036854775807
noncomputable def Q8p:Sum:=λc H next as=>
 match as with
 |[.int _ (.lit _),_]=> .fail
 |[.int .i64 e, .int .i64 (.lit (.ofNat n))]=>bif Nat.ble 1 n&&Nat.ble n 9223372036854775807&&spI.chk c (.int .i64 e) then .ok ⟨.int .i64 (.pk n e),H,next,c⟩ else .fail
 |_=> .fail
theorem Qce {P:Program} {G:Env} {n0:Nat} {f:FuncId}
 (h:∀(z:Int) (n:Nat) (w:World),-9223372036854775808<=z->z<=9223372036854775807->1<=n->n<=9223372036854775807->Calls P f #[.int .i64 z, .int .i64 n] w λe w' =>e= .returned (.int .i64 (Q0z n z))/\w' =w):ZL P G n0 f Q8p:=by
 intro c X H next w as vs r hr hc hg hH h0 hfr hargs fr cs
 unfold Q8p at hr;split at hr;cases hr;rename_i e n _;cases hb:(Nat.ble 1 n&&Nat.ble n 9223372036854775807&&spI.chk c (.int .i64 e)) with
 |false=>rw [hb] at hr;cases hr
 |true=>
  rw [hb] at hr;cases hr;simp only [Bool.and_eq_true,Nat.ble_eq] at hb;obtain ⟨u,vs',e1,h1,h2⟩:=Q8.1 hargs;obtain ⟨v,vs'',rfl,h3,h4⟩:=Q8.1 h2;have:=rels_nil.1 h4;subst this;have hk:=Sp.JM hc hb.2 h1;simp only [AV.rel] at h1 h3;obtain ⟨k1,rfl⟩:=h1;obtain ⟨_,rfl⟩:=h3;simp only [spI,Sp.has] at hk;obtain ⟨z,hz,z0,z1⟩:=hk;cases hz;have hvs:vs=#[.int .i64 (e.den X.O), .int .i64 n]:=by rw [<-Array.toList_inj];exact e1
  subst hvs;refine ⟨X,_,w,JN (h (e.den X.O) n w z0 z1 hb.1.1 hb.1.2) fr cs,Ext.le.refl X,?_,hH,Below.refl _ _,λb hb _=>⟨hb,rfl⟩,Nat.le_refl _,hfr,hc⟩;simp only [AV.rel];exact ⟨k1,rfl⟩
 cases hr
theorem hasL_one {s:Sp} {vs:Array Value} (h:Sp.yB [s] vs.toList):∃v,vs=#[v]/\s.has v:=by simp only [Sp.yB] at h;obtain ⟨v,vs',e,h1,rfl⟩:=h;exact ⟨v,by rw [<-Array.toList_inj];exact e,h1⟩
end Go.Ax
namespace Go.Ax
open Go.RowKit
noncomputable def ZI (spec:Spec) (G:Env) (n:Nat) (f:FuncId) (q:Ctx->AV->Bool) (k:Nat):Nat->List Bool->AM->Bool
 |0,_,_=>false
 |d+1,p,s=>match Qgj spec G n k s with
  | .go _=>false
  | .stop s=>match Zy G s with
   | .fin=>s.fr.ret&&Nat.beq s.fr.fn f&&(match G.T.funcs.get s.fr.fn with
    |some fn=>match qj G.T s.H fn s.fr.tm with
     |some v=>q s.ctx v
     |none=>false
    |none=>false)
   | .ask op a b=>a.okB s.ctx.vs&&b.okB s.ctx.vs&&(match p with
    |[]=>ZI spec G n f q k d [] { s with ctx:=s.ctx.add ⟨op,a,b,true⟩}&&ZI spec G n f q k d [] { s with ctx:=s.ctx.add ⟨op,a,b,false⟩}
    |true::p=>ZI spec G n f q k d p { s with ctx:=s.ctx.add ⟨op,a,b,true⟩}
    |false::p=>ZI spec G n f q k d p { s with ctx:=s.ctx.add ⟨op,a,b,false⟩})
   |_=>false
theorem JJ {spec:Spec} {G:Env} {n:Nat} {f:FuncId} {q:Ctx->AV->Bool} {k:Nat}:∀(d:Nat) (s:AM),ZI spec G n f q k d [] s=Y0 spec G n f q k d s
 |0,_=>rfl
 |d+1,s=>by
  simp only [ZI,Y0];simp only [JJ d]
  all_goals rfl
end Go.Ax
namespace Go.Ax
open Go.RowKit
theorem Qq.place {X:Ext} {n0:Nat} {H:Tr Q7} {w:World} (h:Qq X n0 H w) {b:Nat} {o:Q7} {p:Place} (hb:X.V b=none) (hlt:p.blk<w.heap.size) (hn:n0<=p.blk) (hfr:∀i q,X.V i=some q->q.blk≠p.blk)
 (hr:ji (X.add b p) o p w.heap[p.blk]?):Qq (X.add b p) n0 (H.set b o) w:=by
 have hle:=Ext.Zr (p:=p) hb;have key:∀i q,(X.add b p).V i=some q->(i=b/\q=p)\/(i≠b/\X.V i=some q):=by
  intro i q hq;by_cases e:i=b;subst e;rw [Ext.add_same] at hq;exact .inl ⟨rfl,(Option.some.inj hq).symm⟩
  rw [Ext.QL e] at hq;exact .inr ⟨e,hq⟩
 refine ⟨λi o' q hi hq=>?_,λi j o1 o2 q1 q2 hi hj l1 l2 hq1 hq2 e=>?_,λi q hq=>?_,λi o' q hi hl hq=>?_⟩;rcases key i q hq with ⟨rfl,rfl⟩|⟨e,hq'⟩;rw [Tr.get_set_same] at hi;cases hi;exact hr;rw [Tr.Q0 _ _ e] at hi;exact Zh hle (h.obj i o' q hi hq');rcases key i q1 hq1 with ⟨rfl,rfl⟩|⟨e1,hq1'⟩<;>rcases key j q2 hq2 with ⟨rfl,rfl⟩|⟨e2,hq2'⟩;rfl;exact absurd e.symm (hfr _ _ hq2');exact absurd e (hfr _ _ hq1');rw [Tr.Q0 _ _ e1] at hi;rw [Tr.Q0 _ _ e2] at hj;exact h.inj i j o1 o2 q1 q2 hi hj l1 l2 hq1' hq2' e;rcases key i q hq with ⟨rfl,rfl⟩|⟨_,hq'⟩;exact hlt;exact h.lt i q hq';rcases key i q hq with ⟨rfl,rfl⟩|⟨e,hq'⟩;exact hn;rw [Tr.Q0 _ _ e] at hi;exact h.own i o' q hi hl hq'
theorem Qq.grow {X:Ext} {n0:Nat} {H:Tr Q7} {w w' :World} (h:Qq X n0 H w) (hb:Below w.heap.size w w'):Qq X n0 H w' :=⟨λb o p hi hp=>by rw [hb.block _ (h.lt _ _ hp)];exact h.obj b o p hi hp,h.inj,λb p hp=>Nat.lt_of_lt_of_le (h.lt b p hp) hb.size,h.own⟩
theorem Q6g {α β:Type} {f:α->β} {L' L:List β} (h:L'.Perm L):∀es:List α,es.map f=L' ->∃l:List α,l.Perm es/\l.map f=L:=by
 induction h with
 |nil=>intro es he;exact ⟨es, .refl _,he⟩
 |cons x _ ih=>
  intro es he;cases es with
  |nil=>simp at he
  |cons e es=>simp only [List.map_cons,List.cons.injEq] at he;obtain ⟨l,h1,h2⟩:=ih es he.2;exact ⟨e::l,h1.cons e,by simp [he.1,h2]⟩
 |swap x y l=>
  intro es he;match es,he with
  |a::b::es,he=>simp only [List.map_cons,List.cons.injEq] at he;exact ⟨b::a::es, .swap _ _ _,by simp [he.1,he.2.1,he.2.2]⟩
 |trans _ _ ih1 ih2=>intro es he;obtain ⟨l,h1,h2⟩:=ih1 es he;obtain ⟨l',h3,h4⟩:=ih2 l h2;exact ⟨l',h3.trans h1,h4⟩
end Go.Ax
namespace Go.Ax
open Go.RowKit
inductive DV where
 |nums (k:IntKind) (l:List Nat)
 |typ (R b o:Nat)
noncomputable def DV.inB (ng:Nat):DV->Bool
 | .nums _ _=>true
 | .typ _ b _=>Nat.ble (b+1) ng
structure Q88 where
 ng:Nat
 m:Nat
 T:TypeId
 t:TypeId
 l:List (Nat×Nat)
 d:List (Nat×TypeId×DV)
noncomputable def Qnv (q:Nat×TypeId×DV):Q7:=match q.2.2 with
 | .nums k l=> .cells (l.map λn=> .int k (.lit (.ofNat n))) q.2.1 false false true
 | .typ R b o=> .cells [.iface R (.agg [.ptr b o])] q.2.1 false false true
theorem Qla (q:Nat×TypeId×DV):(Qnv q).rw=false:=by unfold Qnv;split<;>rfl
def DV.laid (ng:Nat) (c:Array Value):DV->Prop
 | .nums k l=>l.length<=c.size/\∀(i n:Nat),l[i]?=some n->c[i]?=some (.int k (n:Int))
 | .typ R b o=>0<c.size/\b<ng/\c[0]?=some (.iface R (.agg #[.pointer (some ⟨b,o,none⟩)]))
noncomputable def Qnu (room:Nat):List (Nat×TypeId×DV)->Tr Q7
 |[]=> .sk room
 |q::l=>(Qnu room l).set q.1 (Qnv q)
noncomputable def Qfh (room:Nat) (T t:TypeId) (d:List (Nat×TypeId×DV)):List (Nat×Nat)->Tr Q7
 |[]=>Qnu room d
 |e::l=>(Qfh room T t d l).set e.1 (.cells [.iface T (.ptr e.2 0)] t false false true)
structure Laid (E:Q88) (A:Nat->Addr) (N:Nat->Nat) (w:World):Prop where
 at_:∀e∈E.l,e.1<E.ng/\E.ng<=e.2/\e.2<E.ng+E.m/\0<N e.1/\(A e.2).spot=none/\∃c fr el,w.heap[e.1]?=some (.cells c el fr)/\c.size=N e.1/\c[0]?=some (.iface E.T (.pointer (some (A e.2))))
 lt:∀b,E.ng<=b->b<E.ng+E.m->(A b).block<w.heap.size
 sz:E.ng<=w.heap.size
 dat:∀q∈E.d,q.1<E.ng/\∃c fr el,w.heap[q.1]?=some (.cells c el fr)/\c.size=N q.1/\q.2.2.laid E.ng c
def Qjf (E:Q88) (A:Nat->Addr) (N:Nat->Nat):Ext:=⟨λb=>if b<E.ng then some ⟨b,0,N b⟩ else if b<E.ng+E.m then some ⟨(A b).block,(A b).off,0⟩ else none,⟨λ_=>0,λ_=>[]⟩⟩
theorem Qb5 {room:Nat}:∀{d:List (Nat×TypeId×DV)} {b:Nat} {o:Q7},(Qnu room d).get b=some o->∃q∈d,b=q.1/\o=Qnv q
 |[],b,o,h=>by simp [Qnu] at h
 |q::l,b,o,h=>by simp only [Qnu] at h;rw [Tr.Z9] at h;by_cases hb:b=q.1;subst hb;simp at h;exact ⟨q,by simp,rfl,h.symm⟩;rw [if_neg hb] at h;obtain ⟨q',h1,h2⟩:=Qb5 h;exact ⟨q',by simp [h1],h2⟩
theorem Q07 {room:Nat} {T t:TypeId} {d:List (Nat×TypeId×DV)}:∀{l:List (Nat×Nat)} {b:Nat} {o:Q7},(Qfh room T t d l).get b=some o->(∃id,(b,id)∈l/\o= .cells [.iface T (.ptr id 0)] t false false true)\/∃q∈d,b=q.1/\o=Qnv q
 |[],b,o,h=> .inr (Qb5 h)
 |e::l,b,o,h=>by
  simp only [Qfh] at h;rw [Tr.Z9] at h;by_cases hb:b=e.1;subst hb;simp at h;exact .inl ⟨e.2,by simp,h.symm⟩
  rw [if_neg hb] at h;rcases Q07 h with ⟨id,h1,h2⟩|h1;exact .inl ⟨id,by simp [h1],h2⟩
  exact .inr h1
theorem Q75 {E:Q88} {A:Nat->Addr} {N:Nat->Nat} {w:World} (hl:Laid E A N w) {Y:Ext} {room:Nat} (hold:∀b,b<E.ng->Y.V b=some ⟨b,0,N b⟩) (hptr:∀b,E.ng<=b->b<E.ng+E.m->Y.V b=some ⟨(A b).block,(A b).off,0⟩)
 (hlt:∀b p,Y.V b=some p->p.blk<w.heap.size):Qq Y w.heap.size (Qfh room E.T E.t E.d E.l) w:=by
 have hin:∀{b o},(Qfh room E.T E.t E.d E.l).get b=some o->b<E.ng:=λhb=>by
  rcases Q07 hb with ⟨id,hm,-⟩|⟨q,hq,rfl,-⟩;exact (hl.at_ _ hm).1
  exact (hl.dat q hq).1
 refine ⟨λb o p hb hp=>?_,λb b' o o' p p' hb hb' _ _ hp hp' e=>?_,hlt,λb o p hb hrw=>?_⟩;rw [hold b (hin hb)] at hp;cases hp;rcases Q07 hb with ⟨id,hm,rfl⟩|⟨q,hq,rfl,rfl⟩;obtain ⟨a1,a2,a3,a3',a4,c,fr,el,a5,a6,a7⟩:=hl.at_ _ hm;simp only at a1 a2 a3 a3' a4 a5 a6 a7;refine ⟨c,fr,⟨_,a5, .inl rfl⟩,a6,by simp only [List.length_singleton];omega,λh=>(by cases h),λi x hx=>?_, .inl rfl,λh=>(by cases h)⟩;cases i with
 |zero=>simp only [List.getElem?_cons_zero,Option.some.injEq] at hx;subst hx;refine ⟨_,by simpa using a7,?_⟩;simp only [AV.rel];refine ⟨_,rfl,_,hptr id a2 a3,?_⟩;simp only [Nat.add_zero];rw [<-a4]
 |succ i=>simp at hx
 obtain ⟨a1,c,fr,el,a5,a6,a7⟩:=hl.dat q hq;obtain ⟨g,t,dv⟩:=q;simp only at a1 a5 a6;cases dv with
 |nums kk ns=>obtain ⟨a7,a8⟩:=a7;refine ⟨c,fr,⟨_,a5, .inl rfl⟩,a6,by simp only [List.length_map];omega,λh=>(by cases h),λi x hx=>?_, .inl rfl,λh=>(by cases h)⟩;simp only [List.getElem?_map,Option.map_eq_some_iff] at hx;obtain ⟨n,hn,rfl⟩:=hx;exact ⟨_,by simpa using a8 i n hn,by simp only [AV.rel];exact ⟨trivial,rfl⟩⟩
 |typ R k o=>
  obtain ⟨a7,b1,a8⟩:=a7;refine ⟨c,fr,⟨_,a5, .inl rfl⟩,a6,by simp only [List.length_singleton];omega,λh=>(by cases h),λi x hx=>?_, .inl rfl,λh=>(by cases h)⟩;cases i with
  |zero=>simp only [List.getElem?_cons_zero,Option.some.injEq] at hx;subst hx;refine ⟨_,by simpa using a8,?_⟩;simp only [AV.rel];exact ⟨_,rfl,_,rfl,_,[],rfl,⟨_,hold k b1,by simp only [Nat.zero_add]⟩,rfl⟩
  |succ i=>simp at hx
 rw [hold b (hin hb)] at hp;rw [hold b' (hin hb')] at hp';cases hp;cases hp';exact e;rcases Q07 hb with ⟨id,hm,rfl⟩|⟨q,hq,rfl,rfl⟩;cases hrw;rw [Qla] at hrw;cases hrw
def Qlq (P:Program) (E:Q88) (f:FuncId) (args:List Sp) (res:Sp):Prop:=∀(w:World) (A:Nat->Addr) (N:Nat->Nat) (vs:Array Value),Laid E A N w->Sp.yB args vs.toList->Calls P f vs w (λe w' =>∃u,e= .returned u/\res.has u/\Below w.heap.size w w')
noncomputable def Qfg (G:Env) (E:Q88) (f:FuncId) (args:List Sp) (res:Sp) (room n k d:Nat) (p:List Bool):Bool:=
 match Sp.qX args (E.ng+E.m) with
 |none=>false
 |some r=>match start G f r.v (Qfh room E.T E.t E.d E.l) r.next ⟨r.fs,r.vs⟩ with
  |none=>false
  |some s=>ZI Q0i G n f (λc v=>res.chk c v) k d p s
theorem Q0e {P:Program} {G:Env} (hT:G.T.OK P) (hI:YL.OK P G.I) (hS:∀n0,ZE P G n0) {E:Q88} (hE:E.ng=G.T.ng) (hng:0<E.ng) {f:FuncId} {args:List Sp} {res:Sp} {room n k d:Nat}
 (he:Qfg G E f args res room n k d []=true):Qlq P E f args res:=by
 intro w A N vs hl hv cs;unfold Qfg at he;split at he;cases he;rename_i r hi;split at he;cases he;rename_i s hs;rw [JJ] at he;have h00:0<w.heap.size:=Nat.lt_of_lt_of_le hng hl.sz;obtain ⟨Y,hN,hr⟩:=Sp.Zw (p:=⟨0,0,0⟩) (X:=Qjf E A N) hi hv (λb hb=>by simp only [Qjf];rw [if_neg (by omega),if_neg (by omega)]);have hold:∀b,b<E.ng->Y.V b=some ⟨b,0,N b⟩:=λb hb=>by rw [hN.old b (by omega)];simp only [Qjf];rw [if_pos hb]
 have hptr:∀b,E.ng<=b->b<E.ng+E.m->Y.V b=some ⟨(A b).block,(A b).off,0⟩:=λb h1 h2=>by rw [hN.old b h2];simp only [Qjf];rw [if_neg (by omega),if_pos h2]
 have hH:Qq Y w.heap.size (Qfh room E.T E.t E.d E.l) w:=Q75 hl hold hptr λb p hp=>by by_cases h1:b<E.ng;rw [hold b h1] at hp;cases hp;exact Nat.lt_of_lt_of_le h1 hl.sz;by_cases h2:b<E.ng+E.m;rw [hptr b (by omega) h2] at hp;cases hp;exact hl.lt b (by omega) h2;by_cases h3:b<r.next;rw [hN.new b (by omega) h3] at hp;cases hp;exact h00;rw [hN.free b (by omega)] at hp;cases hp
 have hg:Y.Qo G.T.ng:=λg hg=>⟨N g,hold g (by omega)⟩
 obtain ⟨e,w',fr,⟨Z,c,v,u,a1,a2,a3,a4,rfl,a5⟩,a6⟩:=J4 hT hI (hS _) JX hs he hr hH (Nat.le_refl _) (c:=⟨r.fs,r.vs⟩) ⟨hN.vs,hN.fs⟩ hg hN.free cs;exact ⟨_,w',fr,⟨u,rfl,Sp.JM a2 a3 a4,a5⟩,a6⟩
noncomputable def Qcv (T t:TypeId) (H:Tr Q7):List (Nat×Nat)->Bool
 |[]=>true
 |e::l=>(match H.get e.1 with
  |some (.cells (.iface T' (.ptr b 0)::_) t' _ _ _)=>Nat.beq T' T&&(Nat.beq t' t&&Nat.beq b e.2)
  |_=>false)&&Qcv T t H l
theorem Q74 {T t:TypeId} {H:Tr Q7}:∀{l:List (Nat×Nat)},Qcv T t H l=true->∀e∈l,∃r ex pl ro,H.get e.1=some (.cells (.iface T (.ptr e.2 0)::r) t ex pl ro)
 |[],_,e,he=>by cases he
 |a::l,h,e,he=>by simp only [Qcv,Bool.and_eq_true] at h;rcases List.mem_cons.1 he with rfl|he;obtain ⟨h1,-⟩:=h;split at h1;rename_i T' b r t' ex pl ro hg;simp only [Bool.and_eq_true,Nat.beq_eq] at h1;obtain ⟨rfl,rfl,rfl⟩:=h1;exact ⟨r,ex,pl,ro,hg⟩;cases h1;exact Q74 h.2 e he
noncomputable def Qht (k:IntKind):List AV->List Nat->Bool
 |_,[]=>true
 | .int k' (.lit (.ofNat m))::cs,n::l=>decide (k' =k)&&(Nat.beq m n&&Qht k cs l)
 |_,_=>false
theorem Q15 {k:IntKind}:∀{cs:List AV} {l:List Nat},Qht k cs l=true->l.length<=cs.length/\∀(i n:Nat),l[i]?=some n->cs[i]?=some (.int k (.lit (.ofNat n)))
 |cs,[],_=>⟨by simp,λi n h=>by simp at h⟩
 |cs,n::l,h=>by
  unfold Qht at h;split at h;rename_i h1;cases h1;rename_i k' m cs' n' l' h1;cases h1;simp only [Bool.and_eq_true,Nat.beq_eq,decide_eq_true_eq] at h;obtain ⟨rfl,rfl,h2⟩:=h;obtain ⟨h3,h4⟩:=Q15 h2;refine ⟨by simp;exact h3,λi k hk=>?_⟩;cases i with
  |zero=>simp at hk;subst hk;rfl
  |succ i=>simp at hk;simpa using h4 i k hk
  cases h
noncomputable def datB (H:Tr Q7) (d:List (Nat×TypeId×DV)):Bool:=
 d.all λq=>match q.2.2,H.get q.1 with
  | .nums k l,some (.cells cs _ _ _ _)=>Qht k cs l
  | .typ R b o,some (.cells (.iface R' (.agg [.ptr b' o'])::_) _ _ _ _)=>Nat.beq R' R&&(Nat.beq b' b&&Nat.beq o' o)
  |_,_=>false
theorem Q8z {X:Ext} {n0:Nat} {H:Tr Q7} {w:World} {E:Q88} (hH:Qq X n0 H w) (hg:X.Qo E.ng) (hng:0<E.ng) (hB:Qcv E.T E.t H E.l=true) (hD:datB H E.d=true) (hdn:∀q∈E.d,q.1<E.ng/\q.2.2.inB E.ng=true) (hin:∀e∈E.l,e.1<E.ng/\E.ng<=e.2/\e.2<E.ng+E.m):∃A N,Laid E A N w:=by
 have hsz:E.ng<=w.heap.size:=by obtain ⟨n,hn⟩:=hg (E.ng-1) (by omega);have:=hH.lt _ _ hn;simp only at this;omega
 refine ⟨λb=>match X.V b with|some p=>⟨p.blk,p.base,none⟩|none=>⟨0,0,none⟩,λb=>match X.V b with|some p=>p.n|none=>0,λe he=>?_,λb h1 h2=>?_,hsz,λq hq=>?_⟩;obtain ⟨i1,i2,i3⟩:=hin e he;obtain ⟨r,ex,pl,ro,hget⟩:=Q74 hB e he;obtain ⟨n,hn⟩:=hg e.1 i1;obtain ⟨c,fr,⟨el',b1,bel⟩,b2,b3,b4,b5,b6,b7⟩:=hH.obj _ _ _ hget hn;simp only at b1 b2 b3 b5 b6;obtain ⟨v,c1,c2⟩:=b5 0 _ rfl;simp only [AV.rel] at c2;obtain ⟨u,rfl,p,hp,rfl⟩:=c2;simp only [List.length_cons] at b3;refine ⟨i1,i2,i3,?_,?_,c,fr,el',b1,?_,?_⟩;simp only [hn];omega;simp only [hp];simp only [hn];exact b2;simp only [hp];simpa using c1;cases hp:X.V b with
 |some p=>simp only;exact hH.lt _ _ hp
 |none=>simp only;omega
 obtain ⟨hq1,hq2⟩:=hdn q hq;have hb:=List.all_eq_true.1 hD q hq;obtain ⟨g,t,dv⟩:=q;simp only at hq1 hq2 hb;split at hb;rename_i kk l cs el ex pl ro hget;obtain ⟨n,hn⟩:=hg g hq1;obtain ⟨c,fr,⟨el',b1,bel⟩,b2,b3,b4,b5,b6,b7⟩:=hH.obj _ _ _ hget hn;simp only at b1 b2 b3 b5 b6;obtain ⟨l1,l2⟩:=Q15 hb;refine ⟨hq1,c,fr,el',b1,?_,by omega,λi k hk=>?_⟩;simp only [hn];exact b2;obtain ⟨v,c1,c2⟩:=b5 i _ (l2 i k hk);simp only [AV.rel] at c2;obtain ⟨-,rfl⟩:=c2;simp only [Nat.zero_add] at c1;exact c1;rename_i R k o R' k' o' r el ex pl ro hget;simp only [Bool.and_eq_true,Nat.beq_eq] at hb;obtain ⟨rfl,rfl,rfl⟩:=hb;simp only [DV.inB,Nat.ble_eq] at hq2;obtain ⟨n,hn⟩:=hg g hq1;obtain ⟨n',hn'⟩:=hg k' (by omega);obtain ⟨c,fr,⟨el',b1,bel⟩,b2,b3,b4,b5,b6,b7⟩:=hH.obj _ _ _ hget hn;simp only at b1 b2 b3 b5 b6;obtain ⟨v,c1,c2⟩:=b5 0 _ rfl;simp only [AV.rel] at c2;obtain ⟨u,rfl,vs,rfl,c3⟩:=c2;obtain ⟨x,xs,e1,c5,c4⟩:=Q8.1 c3;simp only [AV.rel] at c5;obtain ⟨p,hp,rfl⟩:=c5;rw [hn'] at hp;cases hp;rw [rels_nil] at c4;subst c4;simp only [List.length_cons] at b3;refine ⟨hq1,c,fr,el',b1,?_,by omega,by omega,?_⟩;simp only [hn];exact b2;have:vs=#[.pointer (some ⟨k',o',none⟩)]:=by apply Array.ext';rw [e1];simp only [Nat.zero_add]
 rw [this] at c1;simpa using c1;cases hb
noncomputable def sumE (E:Q88) (args:List Sp) (res:Sp):Sum:=λc H next as=>bif Qcv E.T E.t H E.l&&datB H E.d then Qc0 args res c H next as else .fail
noncomputable def Q88.inB (E:Q88):Bool:=(E.l.all λe=>Nat.ble (e.1+1) E.ng&&(Nat.ble E.ng e.2&&Nat.ble (e.2+1) (E.ng+E.m)))&&E.d.all λq=>Nat.ble (q.1+1) E.ng&&q.2.2.inB E.ng
theorem Qbz {P:Program} {G:Env} {n0:Nat} (hng:0<G.T.ng) {f:FuncId} {args:List Sp} {res:Sp} {c:Ctx} {X:Ext} {H:Tr Q7} {next:Nat} {w:World} {as:List AV} {vs:Array Value} {r:SR}
 (h:Sp.yB args vs.toList->Calls P f vs w (λe w' =>∃u,e= .returned u/\res.has u/\Below w.heap.size w w')) (hr:Qc0 args res c H next as= .ok r) (hc:c.okN X.dom X.O) (hg:X.Qo G.T.ng) (hH:Qq X n0 H w) (h0:n0<=w.heap.size) (hfr:∀b,next<=b->X.V b=none) (hargs:AV.QH X as vs.toList)
 (fr:Frame) (cs:List Frame):∃Y u w',Steps P (lone (Frame.enter P f vs .normal) (fr::cs) w) (lone (fr.finish u) cs w')/\X.le Y/\r.v.rel Y u/\Qq Y n0 r.H w' /\Below n0 w w' /\
  (∀b,X.V b=none->b<next->Y.V b=none/\r.H.get b=H.get b)/\next<=r.next/\(∀b,r.next<=b->Y.V b=none)/\r.ctx.okN Y.dom Y.O:=by
 unfold Qc0 at hr;cases hk:Sp.jO c args as with
 |false=>rw [hk] at hr;cases hr
 |true=>
  rw [hk] at hr;simp only [cond_true] at hr;split at hr
  . rename_i q hq;cases hb:Q96 H next q.next 64 with
    |false=>rw [hb] at hr;cases hr
    |true=>
     rw [hb] at hr;cases hr;have hfree:=z8 hb;have hhas:=Sp.QV hc hk hargs;obtain ⟨u,w',⟨g2,g3⟩,g1⟩:=ZV (h hhas) fr cs;obtain ⟨n,hn⟩:=hg 0 hng;obtain ⟨Y,hN,hrel⟩:=Sp.jI (p:=⟨0,0,n⟩) hq g2 hfr;have h0' :(0:Nat)<w.heap.size:=by have:=hH.lt _ _ hn;simpa using this
     refine ⟨Y,u,w',g1,hN.le,hrel,?_,g3.mono h0,λb hb hlt=>⟨by rw [hN.old b hlt];exact hb,rfl⟩,hN.nm,hN.free,?_⟩
     . have hold:∀b o p,H.get b=some o->Y.V b=some p->X.V b=some p:=by
        intro b o p ho hp;by_cases h1:b<next
        rw [<-hN.old b h1];exact hp;by_cases h2:b<q.next;rw [hfree b (by omega) h2] at ho;cases ho;rw [hN.free b (by omega)] at hp;cases hp
       refine ⟨λb o p ho hp=>?_,λb b' o o' p p' ho ho' hl hl' hp hp' he=>hH.inj b b' o o' p p' ho ho' hl hl' (hold b o p ho hp) (hold b' o' p' ho' hp') he,λb p hp=>?_,λb o p ho hr hp=>hH.own b o p ho hr (hold b o p ho hp)⟩;have hp' :=hold b o p ho hp;rw [g3.block _ (hH.lt _ _ hp')];exact Zh hN.le (hH.obj b o p ho hp');refine Nat.lt_of_lt_of_le ?_ g3.size;by_cases h1:b<next
       exact hH.lt b p (by rw [<-hN.old b h1];exact hp);by_cases h2:b<q.next;rw [hN.new b (by omega) h2] at hp;cases hp;exact h0';rw [hN.free b (by omega)] at hp;cases hp
     refine ⟨λi hi=>?_,λfa hf=>?_⟩;rcases List.mem_append.1 hi with hi|hi;exact hN.vs i hi;exact hN.le.dom _ (hc.1 i hi);rcases List.mem_append.1 hf with hf|hf;exact hN.fs fa hf;exact Facts.Q00 hN.le.dom hN.le.O hc.2 fa hf
  cases hr
theorem sumE_ok {P:Program} {G:Env} {n0:Nat} {E:Q88} (hE:E.ng=G.T.ng) (hng:0<E.ng) (hin:E.inB=true) {f:FuncId} {args:List Sp} {res:Sp} (h:Qlq P E f args res):ZL P G n0 f (sumE E args res):=by
 intro c X H next w as vs r hr hc hg hH h0 hfr hargs fr cs
 unfold sumE at hr;cases hB:(Qcv E.T E.t H E.l&&datB H E.d) with
 |false=>rw [hB] at hr;cases hr
 |true=>
  rw [hB] at hr;simp only [cond_true] at hr;simp only [Bool.and_eq_true] at hB;unfold Q88.inB at hin;rw [Bool.and_eq_true] at hin;have hin' :∀e∈E.l,e.1<E.ng/\E.ng<=e.2/\e.2<E.ng+E.m:=λe he=>by have:=List.all_eq_true.1 hin.1 e he;simp only [Bool.and_eq_true,Nat.ble_eq] at this;omega
  obtain ⟨A,N,hl⟩:=Q8z hH (by rw [hE];exact hg) hng hB.1 hB.2 (λq hq=>by have:=List.all_eq_true.1 hin.2 q hq;rw [Bool.and_eq_true,Nat.ble_eq] at this;exact ⟨by omega,this.2⟩) hin';exact Qbz (by omega) (h w A N vs hl) hr hc hg hH h0 hfr hargs fr cs
end Go.Ax
namespace Go.Ax
open Go.RowKit
def spTy (P:Program) (u:TypeId):Option Sp:=
 match P.underlying u with
 |some (.int k)=>some (.int k k.min k.max)
 |some .string=>some (.str 9223372036854775807)
 |some .bool=>some .bool
 |_=>none
theorem Qky {P:Program} {w:World} {r:_root_.Go.Reach} {base:Nat} {u:TypeId} {v:Value} {s:Sp} (h:Cell.okWide P w r base u v) (hs:spTy P u=some s):s.has v:=by unfold spTy at hs;unfold Cell.okWide at h;split at hs;rename_i k hk;cases hs;rw [hk] at h;simp only at h;unfold Cell.ok at h;rw [hk] at h;cases v<;>simp only at h;rename_i k' n;obtain ⟨rfl,h1,h2⟩:=h;simp only [Sp.has];exact ⟨n,rfl,h1,h2⟩;rename_i hk;cases hs;rw [hk] at h;simp only at h;unfold Cell.ok at h;rw [hk] at h;cases v<;>simp only at h;rename_i b;simp only [Sp.has];refine ⟨b,rfl,?_⟩;have:IntKind.i64.max=9223372036854775807:=rfl;omega;rename_i hk;cases hs;rw [hk] at h;simp only at h;unfold Cell.ok at h;rw [hk] at h;cases v<;>simp only at h;rename_i b;simp only [Sp.has];exact ⟨b,rfl⟩;cases hs
end Go.Ax
