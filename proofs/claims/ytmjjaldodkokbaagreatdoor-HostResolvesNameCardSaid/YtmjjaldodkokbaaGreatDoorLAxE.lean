/-
 THE ABSTRACT EXECUTOR, 39: the same machine, quicker for the kernel: statements and flow of control in one go. Conditions: none.
-/
import Derived.Test.YtmjjaldodkokbaaGreatDoorLAxD
import Derived.RowKit
import Derived.WideShapes
namespace Go.Ax
open Go.RowKit
inductive Box (α:Type) where
 |mk (a:α)
inductive RR where
 |mk (tm:Tr AV) (H:Tr Q8) (nx:Nat) (j:Nat) (rest:List Oper)
abbrev RK:=Tr AV->Tr Q8->Nat->RR
abbrev RC:=Ctx->Tr AV->Tr Q8->Nat->RK->RR->RR
noncomputable def putB (nt:Nat) (dst:Option Nat):Option (Box (Tr AV->AV->Tr AV)):=
 match dst with
 |none=>some (.mk λtm _=>tm)
 |some d=>bif Nat.blt d nt then some (.mk λtm v=>tm.set d v) else none
noncomputable def Qn8 (r:LR):(Tr AV->AV->Tr AV)->Tr AV->Tr Q8->Nat->RK->RR:=
 match r with
 | .val v=>λput tm H nx k=>k (put tm v) H nx
 | .ptr o=>λput tm H nx k=>QC (nx+1) λn=>k (put tm (.ptr nx 0)) (H.set nx o) n
 | .slc o len cap es ex=>λput tm H nx k=>QC (nx+1) λn=>k (put tm (.slice nx 0 len cap es ex)) (H.set nx o) n
 | .map=>λput tm H nx k=>QC (nx+1) λn=>k (put tm (.map nx)) (H.set nx (.map [] 0)) n
noncomputable def zG (d:D HR):(Tr AV->AV->Tr AV)->Tr AV->RK->RR->RR:=
 match d with
 | .ok r=>λput tm k _=>HR.rec (motive:=λ_=>RR) (λv H n=>k (put tm v) H n) r
 | .ask _ _ _=>λ_ _ _ z=>z
 | .fail=>λ_ _ _ z=>z
noncomputable def yP (d:D LR):Env->Oper->(Tr AV->AV->Tr AV)->Ctx->Tr AV->Tr Q8->Nat->RK->RR->RR:=
 match d with
 | .ok r=>λ_ _ put _ tm H nx k _=>Qn8 r put tm H nx k
 | .ask _ _ _=>λ_ _ _ _ _ _ _ _ z=>z
 | .fail=>λG o put c tm H nx k z=>zG (ZL G c H nx (ev G.T.ng tm) o.op) put tm k z
noncomputable def Qn9 (G:Env) (o:Oper) (put:Tr AV->AV->Tr AV):RC:=λc tm H nx k z=>yP (light G.T G.I c H (ev G.T.ng tm) o.op) G o put c tm H nx k z
inductive GI where
 |always
 |never
 |slot (d:Nat) (want:Bool)
def guardOf (ops:List Oper) (o:Oper):GI:=
 match o.guard with
 |none=> .always
 |some (j,want)=>match opAt ops j with
  |none=> .never
  |some g=>match g.dst with
   |none=> .never
   |some d=> .slot d want
noncomputable def Ql2 (a:AV):Bool->RR->RR->RR->RR:=
 match a with
 | .bool b=>λwant y n _=>bif b==want then y else n
 | .top=>λ_ _ _ z=>z
 |_=>λ_ _ n _=>n
noncomputable def Qfk (v:Option AV):Bool->RR->RR->RR->RR:=
 match v with
 |some a=>λwant y n z=>Ql2 a want y n z
 |none=>λ_ _ n _=>n
noncomputable def Qem (gi:GI) (put:Tr AV->AV->Tr AV) (g:RC):RC:=
 match gi with
 | .always=>g
 | .never=>λ_ tm H nx k _=>k (put tm .undef) H nx
 | .slot d want=>λc tm H nx k z=>Qfk (tm.get d) want (g c tm H nx k z) (k (put tm .undef) H nx) z
noncomputable def Qen (gi:GI) (put:Tr AV->AV->Tr AV) (g:RC):Box RC:=
 match gi with
 | .always=> .mk g
 | .never=> .mk λ_ tm H nx k _=>k (put tm .undef) H nx
 | .slot d want=> .mk λc tm H nx k z=>Qfk (tm.get d) want (g c tm H nx k z) (k (put tm .undef) H nx) z
theorem Q6f (gi:GI) (put:Tr AV->AV->Tr AV) (g:RC):Qen gi put g= .mk (Qem gi put g):=by cases gi<;>rfl
noncomputable def Qht (spec:Env->Nat->Oper->Option (Box RC)) (G:Env) (nt:Nat) (ops:List Oper) (o:Oper):Box RC:=
 match putB nt o.dst with
 |none=> .mk λ_ _ _ _ _ z=>z
 |some (.mk put)=>match spec G nt o with
  |some (.mk g)=>Qen (guardOf ops o) put g
  |none=>Qen (guardOf ops o) put (Qn9 G o put)
noncomputable def Qns (o:Oper) (os:List Oper) (j:Nat) (g:Box RC) (h:Box (Ctx->RK)):Box (Ctx->RK):=
 match g,h with
 | .mk g, .mk h=> .mk λc tm H nx=>g c tm H nx (h c) (.mk tm H nx j (o::os))
noncomputable def Q4l (spec:Env->Nat->Oper->Option (Box RC)) (G:Env) (nt:Nat) (ops:List Oper):List Oper->Nat->Box (Ctx->RK)
 |[],j=> .mk λ_ tm H nx=> .mk tm H nx j []
 |o::os,j=>Qns o os j (Qht spec G nt ops o) (Q4l spec G nt ops os (j+1))
inductive Zp (G:Env):AM->AM->Prop where
 |refl (s:AM):Zp G s s
 |step {s s' t:AM}:Yq G s= .next s' ->Zp G s' t->Zp G s t
theorem Zp.trans {G:Env} {s t u:AM} (h:Zp G s t) (h' :Zp G t u):Zp G s u:=by
 induction h with
 |refl=>exact h'
 |step e _ ih=>exact .step e (ih h')
theorem Zp.one {G:Env} {s t:AM} (h:Yq G s= .next t):Zp G s t:= .step h (.refl t)
structure Rest where
 fn:Nat
 nt:Nat
 defers:List ADf
 ro:Option Nat
 cs:List Qk
 ctx:Ctx
abbrev mkS (R:Rest) (tm:Tr AV) (cur:Q7t) (todo:List Qw) (H:Tr Q8) (nx:Nat):AM:=⟨⟨R.fn,R.nt,tm,cur,todo,R.defers,false,R.ro⟩,R.cs,H,nx,R.ctx⟩
def yj (G:Env) (nt:Nat) (ops:List Oper) (o:Oper) (c:Ctx) (tm:Tr AV) (H:Tr Q8) (nx:Nat) (tm' :Tr AV) (H' :Tr Q8) (nx' :Nat):Prop:=∀(R:Rest) (todo:List Qw) (j:Nat) (rest:List Oper),R.nt=nt->R.ctx=c->Yq G (mkS R tm (.reg ops j (o::rest)) todo H nx)= .next (mkS R tm' (.reg ops (j+1) rest) todo H' nx')
def RCok (G:Env) (nt:Nat) (ops:List Oper) (o:Oper) (g:RC):Prop:=∀c tm H nx (k:RK) (z:RR),g c tm H nx k z=z\/∃tm' H' nx',yj G nt ops o c tm H nx tm' H' nx' /\g c tm H nx k z=k tm' H' nx'
def QD (G:Env) (nt:Nat) (ops:List Oper) (o:Oper) (g:RC):Prop:=∀c tm H nx (k:RK) (z:RR),QG ops tm o=true->g c tm H nx k z=z\/∃tm' H' nx',yj G nt ops o c tm H nx tm' H' nx' /\g c tm H nx k z=k tm' H' nx'
def Y5 (nt:Nat) (dst:Option Nat) (put:Tr AV->AV->Tr AV):Prop:=∀tm v,Qav nt tm dst v=some (put tm v)
theorem j6 {nt:Nat} {dst:Option Nat} {put:Tr AV->AV->Tr AV} (h:putB nt dst=some (.mk put)):Y5 nt dst put:=by
 intro tm v;unfold putB at h;cases dst with
 |none=>simp only [Option.some.injEq,Box.mk.injEq] at h;subst h;rfl
 |some d=>
  simp only at h;cases hb:Nat.blt d nt with
  |false=>rw [hb] at h;cases h
  |true=>rw [hb] at h;simp only [cond_true,Option.some.injEq,Box.mk.injEq] at h;subst h;simp only [Qav,hb,cond_true]
theorem Jj {G:Env} {R:Rest} {tm:Tr AV} {ops:List Oper} {j:Nat} {o:Oper} {rest:List Oper} {todo:List Qw} {H0:Tr Q8} {nx0:Nat} {put:Tr AV->AV->Tr AV} (hp:Y5 R.nt o.dst put) (v:AV) (H:Tr Q8) (nx:Nat):
 advance G (mkS R tm (.reg ops j (o::rest)) todo H0 nx0) ⟨v,H,nx⟩= .next (mkS R (put tm v) (.reg ops (j+1) rest) todo H nx):=by
 simp only [advance,Y4,hp tm v,sNat_eq]
theorem qE {G:Env} {nt:Nat} {ops:List Oper} {o:Oper} {put:Tr AV->AV->Tr AV} (hp:Y5 nt o.dst put) {c:Ctx} {tm:Tr AV} (H:Tr Q8) (nx:Nat) (hw:QG ops tm o=false) (hk:jZ ops tm o=true):yj G nt ops o c tm H nx (put tm .undef) H nx:=by intro R todo j rest hnt hc;subst hnt;simp only [Yq,hw,hk,cond_false,cond_true];exact Jj hp _ _ _
theorem Q2e {G:Env} {nt:Nat} {ops:List Oper} {o:Oper} {put:Tr AV->AV->Tr AV} (hp:Y5 nt o.dst put) {c:Ctx} {tm:Tr AV} {H:Tr Q8} (nx:Nat) (hw:QG ops tm o=true) {v:AV}
 (h:light G.T G.I c H (ev G.T.ng tm) o.op= .ok (.val v)):yj G nt ops o c tm H nx (put tm v) H nx:=by
 intro R todo j rest hnt hc;subst hnt;subst hc;simp only [Yq,hw,cond_true,h,LR.obj,LR.value];exact Jj hp _ _ _
theorem jd {G:Env} {nt:Nat} {ops:List Oper} {o:Oper} {put:Tr AV->AV->Tr AV} (hp:Y5 nt o.dst put) {c:Ctx} {tm:Tr AV} {H:Tr Q8} (nx:Nat) (hw:QG ops tm o=true) {r:LR} {ob:Q8}
 (h:light G.T G.I c H (ev G.T.ng tm) o.op= .ok r) (ho:r.obj=some ob):yj G nt ops o c tm H nx (put tm (r.value nx)) (H.set nx ob) (nx+1):=by
 intro R todo j rest hnt hc;subst hnt;subst hc;simp only [Yq,hw,cond_true,h,ho,sNat_eq];exact Jj hp _ _ _
theorem jP {G:Env} {nt:Nat} {ops:List Oper} {o:Oper} {put:Tr AV->AV->Tr AV} (hp:Y5 nt o.dst put) {c:Ctx} {tm:Tr AV} {H:Tr Q8} (nx:Nat) (hw:QG ops tm o=true) {r:HR}
 (h:light G.T G.I c H (ev G.T.ng tm) o.op= .fail) (ho:ZL G c H nx (ev G.T.ng tm) o.op= .ok r):yj G nt ops o c tm H nx (put tm r.v) r.H r.next:=by
 intro R todo j rest hnt hc;subst hnt;subst hc;simp only [Yq,hw,cond_true,h,ho];exact Jj hp _ _ _
theorem Qeq {G:Env} {nt:Nat} {ops:List Oper} {o:Oper} {put:Tr AV->AV->Tr AV} (hp:Y5 nt o.dst put):QD G nt ops o (Qn9 G o put):=by
 intro c tm H nx k z hw;unfold Qn9;cases hl:light G.T G.I c H (ev G.T.ng tm) o.op with
 |ok r=>
  right;cases r with
  |val v=>exact ⟨_,_,_,Q2e hp nx hw hl,rfl⟩
  |ptr ob=>exact ⟨_,_,_,jd hp nx hw hl rfl,rfl⟩
  |slc ob len cap es ex=>exact ⟨_,_,_,jd hp nx hw hl rfl,rfl⟩
  |map=>exact ⟨_,_,_,jd hp nx hw hl rfl,rfl⟩
 |ask op a b=>exact .inl rfl
 |fail=>
  cases hh:ZL G c H nx (ev G.T.ng tm) o.op with
  |ok r=>right;refine ⟨_,_,_,jP hp nx hw hl hh,?_⟩;simp only [yP,hh,zG]
  |ask op a b=>left;simp only [yP,hh,zG]
  |fail=>left;simp only [yP,hh,zG]
theorem Q6e {G:Env} {nt:Nat} {ops:List Oper} {o:Oper} {put:Tr AV->AV->Tr AV} (hp:Y5 nt o.dst put) {g:RC} (hg:QD G nt ops o g):RCok G nt ops o (Qem (guardOf ops o) put g):=by
 intro c tm H nx k z;unfold guardOf;cases hgd:o.guard with
 |none=>exact hg c tm H nx k z (by simp only [QG,hgd])
 |some p=>
  obtain ⟨j,want⟩:=p;simp only;cases hj:opAt ops j with
  |none=>right;exact ⟨_,_,_,qE hp H nx (by simp only [QG,hgd,hj]) (by simp only [jZ,hgd,hj]),rfl⟩
  |some q=>
   simp only;cases hd:q.dst with
   |none=>right;exact ⟨_,_,_,qE hp H nx (by simp only [QG,hgd,hj,hd]) (by simp only [jZ,hgd,hj,hd]),rfl⟩
   |some d=>
    simp only [Qem];have hno:QG ops tm o=false->jZ ops tm o=true->(k (put tm .undef) H nx=z\/∃tm' H' nx',yj G nt ops o c tm H nx tm' H' nx' /\k (put tm .undef) H nx=k tm' H' nx'):=λhw hk=> .inr ⟨_,_,_,qE hp H nx hw hk,rfl⟩
    cases ht:tm.get d with
    |none=>exact hno (by simp only [QG,hgd,hj,hd,ht]) (by simp only [jZ,hgd,hj,hd,ht])
    |some a=>
     simp only [Qfk];by_cases hb:∃b,a= .bool b
     obtain ⟨b,rfl⟩:=hb;simp only [Ql2];cases hw:(b==want) with
     |true=>exact hg c tm H nx k z (by simp only [QG,hgd,hj,hd,ht,hw])
     |false=>exact hno (by simp only [QG,hgd,hj,hd,ht,hw]) (by simp only [jZ,hgd,hj,hd,ht])
     by_cases htp:a= .top
     subst htp;exact .inl rfl
     have e1:Ql2 a want (g c tm H nx k z) (k (put tm .undef) H nx) z=k (put tm .undef) H nx:=by cases a<;>first|rfl|exact absurd ⟨_,rfl⟩ hb|exact absurd rfl htp
     rw [e1];refine hno ?_ ?_;simp only [QG,hgd,hj,hd,ht];cases a<;>first|rfl|exact absurd ⟨_,rfl⟩ hb
     simp only [jZ,hgd,hj,hd,ht];cases a<;>first|rfl|exact absurd rfl htp
def YF (G:Env) (spec:Env->Nat->Oper->Option (Box RC)):Prop:=∀nt ops o put g,spec G nt o=some (.mk g)->Y5 nt o.dst put->QD G nt ops o g
theorem Qhs {spec:Env->Nat->Oper->Option (Box RC)} {G:Env} (hs:YF G spec) {nt:Nat} {ops:List Oper} {o:Oper} {g:RC} (h:Qht spec G nt ops o= .mk g):RCok G nt ops o g:=by
 unfold Qht at h;split at h;cases h;exact λc tm H nx k z=> .inl rfl
 rename_i put hp;split at h;rename_i g' hg';rw [Q6f] at h;cases h;exact Q6e (j6 hp) (hs nt ops o put g' hg' (j6 hp));rw [Q6f] at h;cases h;exact Q6e (j6 hp) (Qeq (j6 hp))
theorem Q4k {spec:Env->Nat->Oper->Option (Box RC)} {G:Env} (hs:YF G spec) {R:Rest} {ops:List Oper} {todo:List Qw}:∀(l:List Oper) (j:Nat) {h:Ctx->RK},Q4l spec G R.nt ops l j= .mk h->∀(tm:Tr AV) (H:Tr Q8) (nx:Nat),
 ∃tm' H' nx' j' rest,h R.ctx tm H nx= .mk tm' H' nx' j' rest/\Zp G (mkS R tm (.reg ops j l) todo H nx) (mkS R tm' (.reg ops j' rest) todo H' nx')
 |[],j,h,he,tm,H,nx=>by simp only [Q4l,Box.mk.injEq] at he;subst he;exact ⟨_,_,_,_,_,rfl, .refl _⟩
 |o::os,j,h,he,tm,H,nx=>by
  simp only [Q4l] at he;cases hg:Qht spec G R.nt ops o with
  |mk g=>
   cases hh:Q4l spec G R.nt ops os (j+1) with
   |mk h' =>rw [hg,hh] at he;simp only [Qns,Box.mk.injEq] at he;subst he;rcases Qhs hs hg R.ctx tm H nx (h' R.ctx) (.mk tm H nx j (o::os)) with e|⟨tm1,H1,nx1,hst,e⟩;exact ⟨_,_,_,_,_,e, .refl _⟩;obtain ⟨tm',H',nx',j',rest,e',hr⟩:=Q4k hs os (j+1) hh tm1 H1 nx1;exact ⟨_,_,_,_,_,e.trans e', .step (hst R todo j os rfl rfl) hr⟩
end Go.Ax
namespace Go.Ax
open Go.RowKit
inductive CR where
 |mk (tm:Tr AV) (cur:Q7t) (todo:List Qw) (H:Tr Q8) (nx:Nat)
abbrev CK:=Tr AV->List Qw->Tr Q8->Nat->CR
abbrev Spec:=Env->Nat->Oper->Option (Box RC)
noncomputable def Q4x (ops:List Oper) (k:List Qw) (ih:CK) (r:RR):CR:=RR.rec (motive:=λ_=>CR) (λtm H nx j rest=>List.rec (motive:=λ_=>CR) (ih tm k H nx) (λo os _=> .mk tm (.reg ops j (o::os)) k H nx) rest) r
noncomputable def condK (v:AV):CK->List Qw->Code->Code->CR->Tr AV->Tr Q8->Nat->CR:=
 match v with
 | .bool b=>λih k thn els _ tm H nx=>Bool.rec (motive:=λ_=>CR) (ih tm (.code els::k) H nx) (ih tm (.code thn::k) H nx) b
 |_=>λ_ _ _ _ z _ _ _=>z
noncomputable def Qnt (v:Option AV):CK->List Qw->Code->Code->CR->Tr AV->Tr Q8->Nat->CR:=
 match v with
 |some v=>condK v
 |none=>λ_ _ _ _ z _ _ _=>z
noncomputable def Qlz (v:Option (List Qw)):CK->CR->Tr AV->Tr Q8->Nat->CR:=
 match v with
 |some k=>λih _ tm H nx=>ih tm k H nx
 |none=>λ_ z _ _ _=>z
noncomputable def regK (draw:Bool):Spec->Env->Nat->Ctx->CK->List Qw->List Oper->CR->Tr AV->Tr Q8->Nat->CR:=
 match draw with
 |true=>λ_ _ _ _ _ _ _ z _ _ _=>z
 |false=>λspec G nt c ih k ops _ tm H nx=>Box.rec (motive:=λ_=>CR) (λh=>Q4x ops k ih (h c tm H nx)) (Q4l spec G nt ops ops 0)
noncomputable def Qf6 (cd:Code):Spec->Env->Nat->Ctx->CK->List Qw->Tr AV->Tr Q8->Nat->CR:=
 match cd with
 | .skip=>λ_ _ _ _ ih k tm H nx=>ih tm k H nx
 | .label _=>λ_ _ _ _ ih k tm H nx=>ih tm k H nx
 | .seq a b=>λ_ _ _ _ ih k tm H nx=>ih tm (.code a:: .code b::k) H nx
 | .cond x thn els=>λ_ G _ _ ih k tm H nx=>Qnt (ev G.T.ng tm x) ih k thn els (.mk tm .none (.code (.cond x thn els)::k) H nx) tm H nx
 | .block id body=>λ_ _ _ _ ih k tm H nx=>ih tm (.code body:: .inBlock id::k) H nx
 | .loop body=>λ_ _ _ _ ih k tm H nx=>ih tm (.code body:: .inLoop body::k) H nx
 | .scope body=>λ_ _ _ _ ih k tm H nx=>ih tm (.code body:: .inScope body::k) H nx
 | .exit id=>λ_ _ _ _ ih k tm H nx=>Qlz (YJ id k) ih (.mk tm .none (.code (.exit id)::k) H nx) tm H nx
 | .goto l=>λ_ _ _ _ ih k tm H nx=>Qlz (YI l k) ih (.mk tm .none (.code (.goto l)::k) H nx) tm H nx
 | .region id ops draw=>λspec G nt c ih k tm H nx=>regK draw spec G nt c ih k ops.toList (.mk tm .none (.code (.region id ops draw)::k) H nx) tm H nx
 |cd=>λ_ _ _ _ _ k tm H nx=> .mk tm .none (.code cd::k) H nx
noncomputable def itemK (it:Qw):Spec->Env->Nat->Ctx->CK->List Qw->Tr AV->Tr Q8->Nat->CR:=
 match it with
 | .code c=>Qf6 c
 | .inBlock _=>λ_ _ _ _ ih k tm H nx=>ih tm k H nx
 | .inScope _=>λ_ _ _ _ ih k tm H nx=>ih tm k H nx
 | .inLoop body=>λ_ _ _ _ ih k tm H nx=>ih tm (.code body:: .inLoop body::k) H nx
 |it=>λ_ _ _ _ _ k tm H nx=> .mk tm .none (it::k) H nx
noncomputable def Qm0 (todo:List Qw):Spec->Env->Nat->Ctx->CK->Tr AV->Tr Q8->Nat->CR:=
 match todo with
 |[]=>λ_ _ _ _ _ tm H nx=> .mk tm .none [] H nx
 |it::k=>λspec G nt c ih tm H nx=>itemK it spec G nt c ih k tm H nx
noncomputable def ctl (spec:Spec) (G:Env) (nt:Nat) (c:Ctx) (n:Nat):CK:=Nat.rec (motive:=λ_=>CK) (λtm todo H nx=> .mk tm .none todo H nx) (λ_ ih tm todo H nx=>Qm0 todo spec G nt c ih tm H nx) n
def Qog (G:Env) (R:Rest) (f:CK):Prop:=∀tm todo H nx,∃tm' cur' todo' H' nx',f tm todo H nx= .mk tm' cur' todo' H' nx' /\Zp G (mkS R tm .none todo H nx) (mkS R tm' cur' todo' H' nx')
def Goes (G:Env) (R:Rest) (s:AM) (r:CR):Prop:=∃tm' cur' todo' H' nx',r= .mk tm' cur' todo' H' nx' /\Zp G s (mkS R tm' cur' todo' H' nx')
theorem Goes.ih {G:Env} {R:Rest} {f:CK} (h:Qog G R f) {s:AM} {tm:Tr AV} {todo:List Qw} {H:Tr Q8} {nx:Nat} (hs:Yq G s= .next (mkS R tm .none todo H nx)):Goes G R s (f tm todo H nx):=by obtain ⟨a,b,c,d,e,h1,h2⟩:=h tm todo H nx;exact ⟨a,b,c,d,e,h1, .step hs h2⟩
theorem Goes.stay {G:Env} {R:Rest} (tm:Tr AV) (cur:Q7t) (todo:List Qw) (H:Tr Q8) (nx:Nat):Goes G R (mkS R tm cur todo H nx) (.mk tm cur todo H nx):=⟨_,_,_,_,_,rfl, .refl _⟩
theorem Q1k {G:Env} {R:Rest} {ih:CK} (hi:Qog G R ih) {ops:List Oper} {k:List Qw} {s:AM} {tm:Tr AV} {H:Tr Q8} {nx j:Nat} {rest:List Oper} (hr:Zp G s (mkS R tm (.reg ops j rest) k H nx)):Goes G R s (Q4x ops k ih (.mk tm H nx j rest)):=by
 cases rest with
 |nil=>obtain ⟨a,b,c,d,e,h1,h2⟩:=hi tm k H nx;refine ⟨a,b,c,d,e,h1,hr.trans (.step ?_ h2)⟩;rfl
 |cons o os=>exact ⟨_,_,_,_,_,rfl,hr⟩
theorem Qhr {G:Env} {R:Rest} {ih:CK} (hi:Qog G R ih) {x:Operand} {thn els:Code} {k:List Qw} {tm:Tr AV} {H:Tr Q8} {nx:Nat}:
 Goes G R (mkS R tm .none (.code (.cond x thn els)::k) H nx) (Qnt (ev G.T.ng tm x) ih k thn els (.mk tm .none (.code (.cond x thn els)::k) H nx) tm H nx):=by
 cases hv:ev G.T.ng tm x with
 |none=>exact Goes.stay _ _ _ _ _
 |some v=>
  cases v
  case bool b=>cases b<;>exact Goes.ih hi (by simp only [Yq,hv])
  all_goals exact Goes.stay _ _ _ _ _
theorem Qhu {spec:Spec} {G:Env} (hs:YF G spec) {R:Rest} {ih:CK} (hi:Qog G R ih) (cd:Code) (k:List Qw) (tm:Tr AV) (H:Tr Q8) (nx:Nat):
 Goes G R (mkS R tm .none (.code cd::k) H nx) (Qf6 cd spec G R.nt R.ctx ih k tm H nx):=by
 cases cd with
 |skip=>exact Goes.ih hi rfl
 |label l=>exact Goes.ih hi rfl
 |seq a b=>exact Goes.ih hi rfl
 |cond x thn els=>exact Qhr hi
 |block id body=>exact Goes.ih hi rfl
 |loop body=>exact Goes.ih hi rfl
 |scope body=>exact Goes.ih hi rfl
 |exit id=>
  simp only [Qf6];cases he:YJ id k with
  |none=>exact Goes.stay _ _ _ _ _
  |some k' =>exact Goes.ih hi (by simp only [Yq,he])
 |goto l=>
  simp only [Qf6];cases he:YI l k with
  |none=>exact Goes.stay _ _ _ _ _
  |some k' =>exact Goes.ih hi (by simp only [Yq,he])
 |region id ops draw=>
  cases draw with
  |true=>exact Goes.stay _ _ _ _ _
  |false=>
   simp only [Qf6,regK];cases hc:Q4l spec G R.nt ops.toList ops.toList 0 with
   |mk h=>obtain ⟨tm',H',nx',j',rest,e,hr⟩:=Q4k hs (todo:=k) ops.toList 0 hc tm H nx;simp only [e];exact Q1k hi (.step rfl hr)
 |_=>exact Goes.stay _ _ _ _ _
theorem Qj2 {spec:Spec} {G:Env} (hs:YF G spec) {R:Rest}:∀n,Qog G R (ctl spec G R.nt R.ctx n)
 |0,tm,todo,H,nx=>Goes.stay _ _ _ _ _
 |n+1,tm,todo,H,nx=>by
  have hi:=Qj2 hs n (R:=R);have e:ctl spec G R.nt R.ctx (n+1) tm todo H nx=Qm0 todo spec G R.nt R.ctx (ctl spec G R.nt R.ctx n) tm H nx:=rfl;rw [e];cases todo with
  |nil=>exact Goes.stay _ _ _ _ _
  |cons it k=>
   cases it with
   |code c=>exact Qhu hs hi c k tm H nx
   |inBlock id=>exact Goes.ih hi rfl
   |inScope b=>exact Goes.ih hi rfl
   |inLoop b=>exact Goes.ih hi rfl
   |_=>exact Goes.stay _ _ _ _ _
noncomputable def ofCR (r:CR):Nat->Nat->List ADf->Option Nat->List Qk->Ctx->AM:=CR.rec (motive:=λ_=>Nat->Nat->List ADf->Option Nat->List Qk->Ctx->AM) (λtm cur todo H nx fn nt defers ro cs c=>⟨⟨fn,nt,tm,cur,todo,defers,false,ro⟩,cs,H,nx,c⟩) r
noncomputable def Qko (cur:Q7t):Spec->Env->Nat->Ctx->CK->List Qw->Tr AV->Tr Q8->Nat->CR:=
 match cur with
 | .none=>λ_ _ _ _ ih k tm H nx=>ih tm k H nx
 | .reg ops j rest=>λspec G nt c ih k tm H nx=>Box.rec (motive:=λ_=>CR) (λh=>Q4x ops k ih (h c tm H nx)) (Q4l spec G nt ops rest j)
 |cur=>λ_ _ _ _ _ k tm H nx=> .mk tm cur k H nx
noncomputable def fast (spec:Spec) (G:Env) (n:Nat) (s:AM):AM:=AM.rec (motive:=λ_=>AM) (λfr cs H nx c=>Qk.rec (motive:=λ_=>AM) (λfn nt tm cur todo defers ret ro=>Bool.rec (motive:=λ_=>AM) (ofCR (Qko cur spec G nt c (ctl spec G nt c n) todo tm H nx) fn nt defers ro cs c) ⟨⟨fn,nt,tm,cur,todo,defers,true,ro⟩,cs,H,nx,c⟩ ret) fr) s
theorem fast_ok {spec:Spec} {G:Env} (hs:YF G spec) (n:Nat) (s:AM):Zp G s (fast spec G n s):=by
 obtain ⟨⟨fn,nt,tm,cur,todo,defers,ret,ro⟩,cs,H,nx,c⟩:=s;cases ret with
 |true=>exact .refl _
 |false=>
  have hi:=Qj2 hs n (R:=⟨fn,nt,defers,ro,cs,c⟩);have key:∀{r},Goes G ⟨fn,nt,defers,ro,cs,c⟩ ⟨⟨fn,nt,tm,cur,todo,defers,false,ro⟩,cs,H,nx,c⟩ r->Zp G ⟨⟨fn,nt,tm,cur,todo,defers,false,ro⟩,cs,H,nx,c⟩ (ofCR r fn nt defers ro cs c):=by
   rintro r ⟨a,b,c',d,e,rfl,h⟩
   exact h
  refine key ?_;cases cur with
  |none=>exact hi tm todo H nx
  |reg ops j rest=>
   simp only;cases hc:Q4l spec G nt ops rest j with
   |mk h=>obtain ⟨tm',H',nx',j',rest',e,hr⟩:=Q4k hs (R:=⟨fn,nt,defers,ro,cs,c⟩) (todo:=todo) rest j hc tm H nx;simp only [e];exact Q1k hi hr
  |draw ops done rest pa=>exact Goes.stay _ _ _ _ _
noncomputable def leaf (spec:Spec) (G:Env) (n:Nat) (s:AM):zV:=
 match Yq G s with
 | .next s' =>AM.rec (motive:=λ_=>zV) (λa b c d e=> .go ⟨a,b,c,d,e⟩) (fast spec G n s')
 |_=> .stop s
noncomputable def Qgh (spec:Spec) (G:Env) (n:Nat) (k:Nat):AM->zV:=
 Nat.rec (motive:=λ_=>AM->zV) (λs=>leaf spec G n s)
  (λ_ ih s=>zV.rec (motive:=λ_=>zV) (λs=>ih s) (λs=> .stop s) (ih s)) k
theorem Q3u {spec:Spec} {G:Env} (hs:YF G spec) (n:Nat):∀(k:Nat) (s:AM),Zp G s (Qgh spec G n k s).state
 |0,s=>by
  have e:Qgh spec G n 0 s=leaf spec G n s:=rfl;rw [e];unfold leaf;split;rename_i s' h;have:(AM.rec (motive:=λ_=>zV) (λa b c d e=> .go ⟨a,b,c,d,e⟩) (fast spec G n s'):zV)= .go (fast spec G n s'):=by cases fast spec G n s';rfl
  rw [this];exact .step h (fast_ok hs n s')
  exact .refl s
 |k+1,s=>by
  have e:Qgh spec G n (k+1) s=zV.rec (motive:=λ_=>zV) (λs=>Qgh spec G n k s) (λs=> .stop s) (Qgh spec G n k s):=rfl;rw [e];have h1:=Q3u hs n k s;cases hr:Qgh spec G n k s with
  |go s1=>rw [hr] at h1;exact h1.trans (Q3u hs n k s1)
  |stop s1=>rw [hr] at h1;exact h1
end Go.Ax
namespace Go.Ax
open Go.RowKit
noncomputable def Qk3 {β α:Type} (l:List α):Nat->(α->β)->β->β:=List.rec (motive:=λ_=>Nat->(α->β)->β->β) (λ_ _ z=>z) (λa _ ih i k z=>Nat.rec (motive:=λ_=>β) (k a) (λj _=>ih j k z) i) l
theorem Q0h {β α:Type}:∀(l:List α) (i:Nat) (k:α->β) (z:β),Qk3 l i k z=match l[i]? with|some a=>k a|none=>z
 |[],i,k,z=>rfl
 |a::l,0,k,z=>rfl
 |a::l,i+1,k,z=>by have:Qk3 (a::l) (i+1) k z=Qk3 l i k z:=rfl;rw [this,Q0h l i k z];simp
noncomputable def Qmd {α:Type} (l:List α):Nat->α->List α:=List.rec (motive:=λ_=>Nat->α->List α) (λ_ _=>[]) (λa l ih i v=>Nat.rec (motive:=λ_=>List α) (v::l) (λj _=>a::ih j v) i) l
theorem Qdg {α:Type}:∀(l:List α) (i:Nat) (v:α),Qmd l i v=l.set i v
 |[],i,v=>rfl
 |a::l,0,v=>rfl
 |a::l,i+1,v=>by have:Qmd (a::l) (i+1) v=a::Qmd l i v:=rfl;rw [this,Qdg l i v];rfl
noncomputable def lenR {α:Type} (l:List α):Nat:=List.rec (motive:=λ_=>Nat) 0 (λ_ _ ih=>Nat.succ ih) l
theorem Qe8 {α:Type}:∀l:List α,lenR l=l.length
 |[]=>rfl
 |_::l=>congrArg Nat.succ (Qe8 l)
abbrev LC:=Ctx->Tr Q8->(Operand->Option AV)->D LR
noncomputable def Qa4 (G:Env) (op:Op):Box LC:=
 match op with
 | .move x=> .mk λ_ _ f=>ZX (f x)
 | .assign x=> .mk λ_ _ f=>ZX (f x)
 | .pick q a b=> .mk λ_ _ f=>(D.of (f q)).bind λq=>match q with
  | .bool true=>ZX (f a)
  | .bool false=>ZX (f b)
  |_=> .fail
 | .alloc t=> .mk λ_ _ _=>D.of (Qb4 G.T t)
 | .box t x=> .mk λ_ _ f=>(D.of (f x)).bind λx=> .ok (.ptr (.cells x.cellsOf t true true false))
 | .build t ps=> .mk λ_ _ f=>(D.of (Qiz f ps.toList)).bind λps=>ZX (Qb1 G.T t ps)
 | .buildSlice t n ps=> .mk λ_ _ f=>(D.of (Qiz f ps.toList)).bind λps=>D.of (Jk G.T t n ps)
 | .load t x=> .mk λ_ H f=>(D.of (f x)).bind λx=>ZX (Q94 G.T H t x)
 | .nilCheck x=> .mk λ_ _ f=>(D.of (f x)).bind λx=>ZX (Qlw x)
 | .binOp op t x y _=> .mk λc H f=>(D.of (f x)).bind λa=>(D.of (f y)).bind λb=>mapD (Qb3 G.T c H (isK x||isK y) op t a b)
 | .unOp op _ x=> .mk λ_ _ f=>(D.of (f x)).bind λx=>ZX (aun op x)
 | .convert src dst x=> .mk λc H f=>(D.of (f x)).bind λx=>match Q7m G.T src dst x with
  |some r=> .ok r
  |none=>ZX (Qfv G.T c H src dst x)
 | .makeInterface t x=> .mk λ_ _ f=>(D.of (f x)).bind λx=>ZX (JX G.T t x)
 | .makeSlice t l k=> .mk λ_ _ f=>(D.of (f l)).bind λl=>(D.of (f k)).bind λk=>D.of (JW G.T t l k)
 | .slice t x lo hi mx=> .mk λc H f=>(D.of (f x)).bind λx=>(D.of (evO f lo)).bind λlo=>(D.of (evO f hi)).bind λhi=>(D.of (evO f mx)).bind λmx=>ZX (orS (aslice G.T H t x lo hi mx) (Q4p G.T c t x lo hi mx))
 | .fieldAddr t x k=> .mk λ_ _ f=>(D.of (f x)).bind λx=>ZX (Yf G.T t x k)
 | .field t x k=> .mk λ_ _ f=>(D.of (f x)).bind λx=>ZX (Qaw G.T t x k)
 | .indexAddr t x ix=> .mk λc _ f=>(D.of (f x)).bind λx=>(D.of (f ix)).bind λix=>(Qj3 c ix).bind λix=>ZX (Ye G.T t x ix)
 | .index t x ix=> .mk λc _ f=>(D.of (f x)).bind λx=>(D.of (f ix)).bind λix=>match Q1i G.T c t x ix with
  |some v=> .ok (.val v)
  |none=>(Qj3 c ix).bind λix=>ZX (Q7g G.T t x ix)
 | .lookup t x ix ok=> .mk λc H f=>(D.of (f x)).bind λx=>(D.of (f ix)).bind λix=>mapD (Qid G.T c H t x ix ok)
 | .typeAssert x _ a ok=> .mk λ_ _ f=>(D.of (f x)).bind λx=>ZX (Q52 G.T G.I x a ok)
 | .extract x k=> .mk λ_ _ f=>(D.of (f x)).bind λx=>ZX (zR x k)
 | .store _ _ _=> .mk λ_ _ _=> .fail
 |op=> .mk λc H f=>light G.T G.I c H f op
theorem Qe7 {G:Env} {op:Op} {g:LC} (h:Qa4 G op= .mk g) (c:Ctx) (H:Tr Q8) (f:Operand->Option AV):g c H f=light G.T G.I c H f op:=by unfold Qa4 at h;split at h<;>(simp only [Box.mk.injEq] at h;subst h;rfl)
noncomputable def Qa6 (op:Op):Box (Env->Ctx->Tr Q8->Nat->(Operand->Option AV)->D HR):=
 match op with
 | .store t a x=> .mk λG _ H nx f=>match f a,f x with
  |some a,some x=>D.of (Q79 G.T H nx t a x)
  |_,_=> .fail
 |op=> .mk λG c H nx f=>ZL G c H nx f op
theorem Qel {G:Env} {op:Op} {g:Env->Ctx->Tr Q8->Nat->(Operand->Option AV)->D HR} (h:Qa6 op= .mk g) (c:Ctx) (H:Tr Q8) (nx:Nat) (f:Operand->Option AV):g G c H nx f=ZL G c H nx f op:=by unfold Qa6 at h;split at h<;>(simp only [Box.mk.injEq] at h;subst h;rfl)
noncomputable def Qix (d:D LR):(Tr AV->AV->Tr AV)->Tr AV->Tr Q8->Nat->RK->RR->D HR->RR:=
 match d with
 | .ok r=>λput tm H nx k _ _=>Qn8 r put tm H nx k
 | .ask _ _ _=>λ_ _ _ _ _ z _=>z
 | .fail=>λput tm _ _ k z d=>zG d put tm k z
noncomputable def genB (G:Env) (o:Oper) (put:Tr AV->AV->Tr AV):Box RC:=
 match Qa4 G o.op,Qa6 o.op with
 | .mk l, .mk h=> .mk λc tm H nx k z=>Qix (l c H (ev G.T.ng tm)) put tm H nx k z (h G c H nx (ev G.T.ng tm))
theorem Qkk {G:Env} {nt:Nat} {ops:List Oper} {o:Oper} {put:Tr AV->AV->Tr AV} (hp:Y5 nt o.dst put) {g:RC} (h:genB G o put= .mk g):QD G nt ops o g:=by
 unfold genB at h;cases hl:Qa4 G o.op with
 |mk l=>
  cases hh:Qa6 o.op with
  |mk hv=>
   rw [hl,hh] at h;simp only [Box.mk.injEq] at h;subst h;intro c tm H nx k z hw;have e1:=Qe7 hl c H (ev G.T.ng tm);have e2:=Qel (G:=G) hh c H nx (ev G.T.ng tm);have:=Qeq (G:=G) hp c tm H nx k z hw (ops:=ops);have e:Qn9 G o put c tm H nx k z=Qix (l c H (ev G.T.ng tm)) put tm H nx k z (hv G c H nx (ev G.T.ng tm)):=by rw [e1,e2];unfold Qn9;cases light G.T G.I c H (ev G.T.ng tm) o.op<;>rfl
   rw [e] at this;exact this
abbrev RD:=Tr AV->(AV->RR)->RR
noncomputable def rdB (ng:Nat) (x:Operand):Option (Box RD):=
 match x with
 | .tmp t=>some (.mk λtm k=>Option.rec (motive:=λ_=>RR) (k .undef) k (tm.get t))
 | .const v=>match ofV 6 v with
  |some a=>some (.mk λ_ k=>k a)
  |none=>none
 | .global g=>bif Nat.blt g ng then some (.mk λ_ k=>k (.ptr g 0)) else none
 | .func f=>some (.mk λ_ k=>k (.func f [] []))
theorem Zu {ng:Nat} {x:Operand} {r:RD} (h:rdB ng x=some (.mk r)) (tm:Tr AV):∃a,ev ng tm x=some a/\∀k,r tm k=k a:=by
 unfold rdB at h;cases x with
 |tmp t=>simp only [Option.some.injEq,Box.mk.injEq] at h;subst h;refine ⟨_,rfl,λk=>?_⟩;simp only;cases tm.get t<;>rfl
 |const v=>
  simp only at h;cases hv:ofV 6 v with
  |none=>rw [hv] at h;cases h
  |some a=>rw [hv] at h;simp only [Option.some.injEq,Box.mk.injEq] at h;subst h;exact ⟨a,by simp only [ev,hv],λk=>rfl⟩
 |global g=>
  simp only at h;cases hb:Nat.blt g ng with
  |false=>rw [hb] at h;cases h
  |true=>rw [hb] at h;simp only [cond_true,Option.some.injEq,Box.mk.injEq] at h;subst h;exact ⟨_,by simp only [ev,hb,cond_true],λk=>rfl⟩
 |func f=>simp only [Option.some.injEq,Box.mk.injEq] at h;subst h;exact ⟨_,rfl,λk=>rfl⟩
noncomputable def Qlq (a:AV):(Nat->Nat->RR)->RR->RR:=
 match a with
 | .ptr b o=>λf _=>f b o
 |_=>λ_ z=>z
noncomputable def natE (e:E):(Nat->RR)->RR->RR:=
 match e with
 | .lit n=>λf z=>Int.rec (motive:=λ_=>RR) (λm=>f m) (λ_=>z) n
 |_=>λ_ z=>z
noncomputable def Qkf (a:AV):(IntKind->Nat->RR)->RR->RR:=
 match a with
 | .int k e=>λf z=>natE e (f k) z
 |_=>λ_ z=>z
theorem Q3w (a:AV) (f:Nat->Nat->RR) (z:RR):Qlq a f z=z\/∃b o,a= .ptr b o/\Qlq a f z=f b o:=by
 cases a
 case ptr b o=>exact .inr ⟨b,o,rfl,rfl⟩
 all_goals exact .inl rfl
theorem Q0u (a:AV) (f:IntKind->Nat->RR) (z:RR):Qkf a f z=z\/∃k m,a= .int k (.lit (.ofNat m))/\Qkf a f z=f k m:=by
 cases a
 case int k e=>
  cases e
  case lit n=>
   cases n with
   |ofNat m=>exact .inr ⟨k,m,rfl,rfl⟩
   |negSucc m=>exact .inl rfl
  all_goals exact .inl rfl
 all_goals exact .inl rfl
noncomputable def Qo0 (o:Q8):(List AV->TypeId->Bool->Bool->Bool->RR)->RR->RR:=
 match o with
 | .cells cs el ex pl ro=>λf _=>f cs el ex pl ro
 |_=>λ_ z=>z
noncomputable def Qak (o:Option Q8):(List AV->TypeId->Bool->Bool->Bool->RR)->RR->RR:=
 match o with
 |some o=>Qo0 o
 |none=>λ_ z=>z
theorem Q6z (o:Option Q8) (f:List AV->TypeId->Bool->Bool->Bool->RR) (z:RR):Qak o f z=z\/∃cs el ex pl ro,o=some (.cells cs el ex pl ro)/\Qak o f z=f cs el ex pl ro:=by
 cases o with
 |none=>exact .inl rfl
 |some o=>
  cases o
  case cells cs el ex pl ro=>exact .inr ⟨cs,el,ex,pl,ro,rfl,rfl⟩
  all_goals exact .inl rfl
noncomputable def qz (k:IntKind):Nat:=IntKind.rec (motive:=λ_=>Nat) 127 32767 2147483647 9223372036854775807 255 65535 4294967295 18446744073709551615 k
theorem qy {k:IntKind} {n:Nat} (h:Nat.ble n (qz k)=true):Zg k (.ofNat n)=true:=by
 cases k<;>first
  |exact h
  |(simp only [qz,Nat.ble_eq,Zg,Nat.ble_eq] at h ⊢;omega)
theorem Yr {k:IntKind} {n:Nat} (h:Nat.ble n (qz k)=true):Y1 k (.ofNat n)= .ofNat n:=by unfold Y1;rw [qy h];rfl
end Go.Ax
namespace Go.Ax
open Go.RowKit
noncomputable def moveB (ng:Nat) (x:Operand) (put:Tr AV->AV->Tr AV) (gen:RC):Box RC:=
 match rdB ng x with
 |some (.mk r)=> .mk λ_ tm H nx k _=>r tm λa=>k (put tm a) H nx
 |none=> .mk gen
noncomputable def Qk9 (G:Env) (t:TypeId) (x:Operand) (put:Tr AV->AV->Tr AV) (gen:RC):Box RC:=
 match rdB G.T.ng x,G.T.ty t with
 |some (.mk r),some ti=>bif jW ti.desc then .mk gen else
  .mk λc tm H nx k z=>(λzz=>r tm λa=>Qlq a (λb o=>Qak (H.get b) (λcs _ _ _ _=>Qk3 cs o (λv=>k (put tm v) H nx) zz) zz) zz) (gen c tm H nx k z)
 |_,_=> .mk gen
noncomputable def cellV (v:AV):RR->RR->RR:=
 match v with
 | .agg _=>λ_ z=>z
 | .tuple _=>λ_ z=>z
 | .top=>λ_ z=>z
 |_=>λy _=>y
noncomputable def Qd2 (G:Env) (t:TypeId) (a x:Operand) (put:Tr AV->AV->Tr AV) (gen:RC):Box RC:=
 match rdB G.T.ng a,rdB G.T.ng x,G.T.ty t with
 |some (.mk r),some (.mk q),some ti=>bif Nat.beq ti.size 1 then
  .mk λc tm H nx k z=>(λzz=>r tm λa=>q tm λv=>Qlq a (λb o=>Qak (H.get b) (λcs el ex pl ro=>Bool.rec (motive:=λ_=>RR)
   (cellV v (Qk3 cs o (λ_=>k (put tm .undef) (H.set b (.cells (Qmd cs o v) el ex pl false)) nx) zz) zz) zz ro) zz) zz) (gen c tm H nx k z)
  else .mk gen
 |_,_,_=> .mk gen
noncomputable def Qk6 (op:BinOp):Option (Box (IntKind->Nat->Nat->(AV->RR)->RR->RR)):=
 match op with
 | .add=>some (.mk λk m n f z=>QC (Nat.add m n) λr=>Bool.rec (motive:=λ_=>RR) z (f (.int k (.lit (.ofNat r)))) (Nat.ble r (qz k)))
 | .sub=>some (.mk λk m n f z=>Bool.rec (motive:=λ_=>RR) z (QC (Nat.sub m n) λr=>Bool.rec (motive:=λ_=>RR) z (f (.int k (.lit (.ofNat r)))) (Nat.ble r (qz k))) (Nat.ble n m))
 | .mul=>some (.mk λk m n f z=>QC (Nat.mul m n) λr=>Bool.rec (motive:=λ_=>RR) z (f (.int k (.lit (.ofNat r)))) (Nat.ble r (qz k)))
 | .quo=>some (.mk λk m n f z=>Bool.rec (motive:=λ_=>RR) (QC (Nat.div m n) λr=>Bool.rec (motive:=λ_=>RR) z (f (.int k (.lit (.ofNat r)))) (Nat.ble r (qz k))) z (Nat.beq n 0))
 | .rem=>some (.mk λk m n f z=>Bool.rec (motive:=λ_=>RR) (QC (Nat.mod m n) λr=>f (.int k (.lit (.ofNat r)))) z (Nat.beq n 0))
 | .and=>some (.mk λk m n f z=>Bool.rec (motive:=λ_=>RR) z (Bool.rec (motive:=λ_=>RR) z (QC (Nat.land m n) λr=>Bool.rec (motive:=λ_=>RR) z (f (.int k (.lit (.ofNat r)))) (Nat.ble r (qz k))) (Nat.ble n (qz k))) (Nat.ble m (qz k)))
 | .or=>some (.mk λk m n f z=>Bool.rec (motive:=λ_=>RR) z (Bool.rec (motive:=λ_=>RR) z (QC (Nat.lor m n) λr=>Bool.rec (motive:=λ_=>RR) z (f (.int k (.lit (.ofNat r)))) (Nat.ble r (qz k))) (Nat.ble n (qz k))) (Nat.ble m (qz k)))
 | .xor=>some (.mk λk m n f z=>Bool.rec (motive:=λ_=>RR) z (Bool.rec (motive:=λ_=>RR) z (QC (Nat.xor m n) λr=>Bool.rec (motive:=λ_=>RR) z (f (.int k (.lit (.ofNat r)))) (Nat.ble r (qz k))) (Nat.ble n (qz k))) (Nat.ble m (qz k)))
 | .eql=>some (.mk λ_ m n f _=>f (.bool (Nat.beq m n)))
 | .neq=>some (.mk λ_ m n f _=>f (.bool (not (Nat.beq m n))))
 | .lss=>some (.mk λ_ m n f _=>f (.bool (Nat.blt m n)))
 | .leq=>some (.mk λ_ m n f _=>f (.bool (not (Nat.blt n m))))
 | .gtr=>some (.mk λ_ m n f _=>f (.bool (Nat.blt n m)))
 | .geq=>some (.mk λ_ m n f _=>f (.bool (not (Nat.blt m n))))
 |_=>none
noncomputable def binB (ng:Nat) (op:BinOp) (x y:Operand) (put:Tr AV->AV->Tr AV) (gen:RC):Box RC:=
 match rdB ng x,rdB ng y,Qk6 op with
 |some (.mk r),some (.mk q),some (.mk g)=> .mk λc tm H nx k z=>(λzz=>r tm λa=>q tm λb=>Qkf a (λka m=>Qkf b (λkb n=>Bool.rec (motive:=λ_=>RR) zz (g ka m n (λv=>k (put tm v) H nx) zz) (Nat.beq (kN ka) (kN kb))) zz) zz) (gen c tm H nx k z)
 |_,_,_=> .mk gen
noncomputable def Qfj (a:AV):RR->RR->RR->RR:=
 match a with
 | .bool b=>λy n _=>Bool.rec (motive:=λ_=>RR) n y b
 |_=>λ_ _ z=>z
noncomputable def Qjz (ng:Nat) (q x y:Operand) (put:Tr AV->AV->Tr AV) (gen:RC):Box RC:=
 match rdB ng q,rdB ng x,rdB ng y with
 |some (.mk p),some (.mk r),some (.mk s)=> .mk λc tm H nx k z=>p tm λb=>Qfj b (r tm λa=>k (put tm a) H nx) (s tm λa=>k (put tm a) H nx) (gen c tm H nx k z)
 |_,_,_=> .mk gen
noncomputable def notB (ng:Nat) (x:Operand) (put:Tr AV->AV->Tr AV) (gen:RC):Box RC:=
 match rdB ng x with
 |some (.mk r)=> .mk λc tm H nx k z=>r tm λa=>Qfj a (k (put tm (.bool false)) H nx) (k (put tm (.bool true)) H nx) (gen c tm H nx k z)
 |none=> .mk gen
noncomputable def Q49 (T:Tab) (s:TypeId) (f:Nat):Option Nat:=
 match T.ty s with
 |some ti=>
  match ti.desc with
  | .struct fs=>
   match fs[f]? with
   |some fd=>
    match T.ty fd.type with
    |some fi=>bif Nat.beq fi.size 0 then none else some fd.offset
    |none=>none
   |none=>none
  |_=>none
 |none=>none
theorem Q8s {T:Tab} {s:TypeId} {f n:Nat} (h:Q49 T s f=some n) (b o:Nat):Yf T s (.ptr b o) f=some (.ptr b (o+n)):=by
 unfold Q49 at h;unfold Yf;split at h;rename_i ti hti;simp only [hti];split at h;rename_i fs hd;simp only [hd];split at h;rename_i fd hf;simp only [hf];split at h;rename_i fi hfi;simp only [hfi];cases hz:Nat.beq fi.size 0 with
 |true=>rw [hz] at h;cases h
 |false=>rw [hz] at h;simp only [cond_false,Option.some.injEq] at h;subst h;rfl
 cases h;cases h;cases h;cases h
noncomputable def jq (G:Env) (t:TypeId) (x:Operand) (f:Nat) (put:Tr AV->AV->Tr AV) (gen:RC):Box RC:=
 match rdB G.T.ng x,Q49 G.T t f with
 |some (.mk r),some n=>QC n λn=> .mk λc tm H nx k z=>r tm λa=>Qlq a (λb o=>QC (Nat.add o n) λo' =>k (put tm (.ptr b o')) H nx) (gen c tm H nx k z)
 |_,_=> .mk gen
noncomputable def nilB (ng:Nat) (x:Operand) (put:Tr AV->AV->Tr AV) (gen:RC):Box RC:=
 match rdB ng x with
 |some (.mk r)=> .mk λc tm H nx k z=>r tm λa=>Qlq a (λ_ _=>k (put tm a) H nx) (gen c tm H nx k z)
 |none=> .mk gen
noncomputable def tupK (a:AV):(List AV->RR)->RR->RR:=
 match a with
 | .tuple vs=>λf _=>f vs
 |_=>λ_ z=>z
noncomputable def Q4b (ng:Nat) (x:Operand) (i:Nat) (put:Tr AV->AV->Tr AV) (gen:RC):Box RC:=
 match rdB ng x with
 |some (.mk r)=> .mk λc tm H nx k z=>(λzz=>r tm λa=>tupK a (λvs=>Qk3 vs i (λv=>k (put tm v) H nx) zz) zz) (gen c tm H nx k z)
 |none=> .mk gen
def intD (d:TypeDesc):Option IntKind:=
 match d with
 | .int k=>some k
 |_=>none
noncomputable def Qkw (G:Env) (s t:TypeId) (x:Operand) (put:Tr AV->AV->Tr AV) (gen:RC):Box RC:=
 match rdB G.T.ng x,G.T.ty s,G.T.ty t with
 |some (.mk r),some _,some di=>match intD di.desc with
  |some kd=>QC (qz kd) λtop=> .mk λc tm H nx k z=>(λzz=>r tm λa=>Qkf a (λ_ m=>Bool.rec (motive:=λ_=>RR) zz (k (put tm (.int kd (.lit (.ofNat m)))) H nx) (Nat.ble m top)) zz) (gen c tm H nx k z)
  |none=> .mk gen
 |_,_,_=> .mk gen
def Q2n (d:TypeDesc):Bool:=
 match d with
 | .string=>true
 |_=>false
def yN (d:TypeDesc):Option TypeId:=
 match d with
 | .slice e=>some e
 |_=>none
noncomputable def strK (a:AV):(List E->RR)->RR->RR:=
 match a with
 | .str s=>λf _=>f s
 |_=>λ_ z=>z
noncomputable def Q9m (a:AV):(Nat->Nat->Nat->RR)->RR->RR:=
 match a with
 | .slice b o len _ _ _=>λf _=>f b o len
 |_=>λ_ z=>z
noncomputable def indexB (G:Env) (t:TypeId) (x ix:Operand) (put:Tr AV->AV->Tr AV) (gen:RC):Box RC:=
 match rdB G.T.ng x,rdB G.T.ng ix,G.T.ty t with
 |some (.mk r),some (.mk q),some ti=>bif Q2n ti.desc then
  .mk λc tm H nx k z=>(λzz=>r tm λa=>q tm λb=>strK a (λs=>Qkf b (λ_ i=>Qk3 s i (λv=>k (put tm (.int .u8 v)) H nx) zz) zz) zz) (gen c tm H nx k z)
  else .mk gen
 |_,_,_=> .mk gen
noncomputable def elemSize (T:Tab) (t:TypeId):Option Nat:=
 match T.ty t with
 |some ti=>match yN ti.desc with
  |some e=>match T.ty e with
   |some ei=>some ei.size
   |none=>none
  |none=>none
 |none=>none
noncomputable def jm (G:Env) (t:TypeId) (x ix:Operand) (put:Tr AV->AV->Tr AV) (gen:RC):Box RC:=
 match rdB G.T.ng x,rdB G.T.ng ix,elemSize G.T t with
 |some (.mk r),some (.mk q),some es=>QC es λes=> .mk λc tm H nx k z=>(λzz=>r tm λa=>q tm λb=>Q9m a (λbl o len=>Qkf b (λ_ i=>Bool.rec (motive:=λ_=>RR) zz (QC (Nat.add o (Nat.mul i es)) λo' =>k (put tm (.ptr bl o')) H nx) (Nat.blt i len)) zz) zz) (gen c tm H nx k z)
 |_,_,_=> .mk gen
noncomputable def lenB (G:Env) (cl:Call) (put:Tr AV->AV->Tr AV) (gen:RC):Box RC:=
 match cl.callee,cl.argTypes.toList,cl.args.toList with
 | .builtin .len,[t],[x]=>match rdB G.T.ng x,G.T.ty t with
  |some (.mk r),some ti=>bif Q2n ti.desc then
   .mk λc tm H nx k z=>r tm λa=>strK a (λs=>QC (lenR s) λn=>k (put tm (.int .i64 (.lit (.ofNat n)))) H nx) (gen c tm H nx k z)
   else match yN ti.desc with
    |some _=> .mk λc tm H nx k z=>r tm λa=>Q9m a (λ_ _ n=>k (put tm (.int .i64 (.lit (.ofNat n)))) H nx) (gen c tm H nx k z)
    |none=> .mk gen
  |_,_=> .mk gen
 |_,_,_=> .mk gen
noncomputable def Qd9 (G:Env) (op:Op) (put:Tr AV->AV->Tr AV) (gen:RC):Box RC:=
 match op with
 | .move x=>moveB G.T.ng x put gen
 | .assign x=>moveB G.T.ng x put gen
 | .load t x=>Qk9 G t x put gen
 | .store t a x=>Qd2 G t a x put gen
 | .binOp op _ x y _=>binB G.T.ng op x y put gen
 | .pick q x y=>Qjz G.T.ng q x y put gen
 | .unOp op _ x=>match op with
  | .not=>notB G.T.ng x put gen
  |_=> .mk gen
 | .fieldAddr t x f=>jq G t x f put gen
 | .nilCheck x=>nilB G.T.ng x put gen
 | .extract x i=>Q4b G.T.ng x i put gen
 | .convert s t x=>Qkw G s t x put gen
 | .index t x ix=>indexB G t x ix put gen
 | .indexAddr t x ix=>jm G t x ix put gen
 | .call cl=>lenB G cl put gen
 |_=> .mk gen
noncomputable def Q81:Spec:=λG nt o=>
 match putB nt o.dst with
 |none=>none
 |some (.mk put)=>match genB G o put with
  | .mk gen=>some (Qd9 G o.op put gen)
end Go.Ax
namespace Go.Ax
open Go.RowKit
section
variable {G:Env} {nt:Nat} {ops:List Oper} {o:Oper} {put:Tr AV->AV->Tr AV} {gen g:RC}
def Fin (G:Env) (nt:Nat) (ops:List Oper) (o:Oper) (c:Ctx) (tm:Tr AV) (H:Tr Q8) (nx:Nat) (k:RK) (z r:RR):Prop:=r=z\/∃tm' H' nx',yj G nt ops o c tm H nx tm' H' nx' /\r=k tm' H' nx'
theorem Zt (hp:Y5 nt o.dst put) {c:Ctx} {tm:Tr AV} {H:Tr Q8} {nx:Nat} {k:RK} {z:RR} (hw:QG ops tm o=true) {v:AV}
 (h:light G.T G.I c H (ev G.T.ng tm) o.op= .ok (.val v)):Fin G nt ops o c tm H nx k z (k (put tm v) H nx):=
 .inr ⟨_,_,_,Q2e hp nx hw h,rfl⟩
theorem Q9y (hp:Y5 nt o.dst put) (hg:QD G nt ops o gen) {x:Operand} (hop:o.op= .move x\/o.op= .assign x) (h:moveB G.T.ng x put gen= .mk g):QD G nt ops o g:=by unfold moveB at h;split at h;rename_i r hr;simp only [Box.mk.injEq] at h;subst h;intro c tm H nx k z hw;obtain ⟨a,ha,hk⟩:=Zu hr tm;simp only [hk];refine Zt hp hw ?_;rcases hop with e|e<;>rw [e]<;>simp only [light,ha,ZX];cases h;exact hg
theorem Qh5 (hp:Y5 nt o.dst put) (hg:QD G nt ops o gen) {t:TypeId} {x:Operand} (hop:o.op= .load t x) (h:Qk9 G t x put gen= .mk g):QD G nt ops o g:=by
 unfold Qk9 at h;split at h;rename_i r ti hr hti;cases hd:jW ti.desc with
 |true=>rw [hd] at h;cases h;exact hg
 |false=>
  rw [hd] at h;simp only [cond_false,Box.mk.injEq] at h;subst h;intro c tm H nx k z hw;have hz:Fin G nt ops o c tm H nx k z (gen c tm H nx k z):=hg c tm H nx k z hw;obtain ⟨a,ha,hk⟩:=Zu hr tm;simp only [hk];rcases Q3w a _ _ with e|⟨b,p,rfl,e⟩<;>rw [e];exact hz;rcases Q6z (H.get b) _ _ with e|⟨cs,el,ex,pl,ro,hb,e⟩<;>rw [e];exact hz;rw [Q0h];cases hv:cs[p]? with
  |none=>exact hz
  |some v=>refine Zt hp hw ?_;rw [hop];simp only [light,ha,D.of,D.bind,Q94,hti,Y3,hb,hd,cond_false,hv,ZX]
 cases h;exact hg
theorem Qhz (v:AV) (y z:RR):cellV v y z=z\/v.cell=true/\cellV v y z=y:=by cases v<;>first|exact .inl rfl|exact .inr ⟨rfl,rfl⟩
theorem Q6y {v:AV} (h:v.cell=true):v.cellsOf=[v]:=by cases v<;>simp [AV.cell] at h<;>rfl
theorem Qd1 (hp:Y5 nt o.dst put) (hg:QD G nt ops o gen) {t:TypeId} {x y:Operand} (hop:o.op= .store t x y) (h:Qd2 G t x y put gen= .mk g):QD G nt ops o g:=by
 unfold Qd2 at h;split at h;rename_i r q ti hr hq hti;cases hd:Nat.beq ti.size 1 with
 |false=>rw [hd] at h;cases h;exact hg
 |true=>
  rw [hd] at h;simp only [cond_true,Box.mk.injEq] at h;subst h;intro c tm H nx k z hw;have hz:Fin G nt ops o c tm H nx k z (gen c tm H nx k z):=hg c tm H nx k z hw;obtain ⟨a,ha,hk⟩:=Zu hr tm;obtain ⟨v,hv,hk2⟩:=Zu hq tm;simp only [hk,hk2];rcases Q3w a _ _ with e|⟨b,p,rfl,e⟩<;>rw [e];exact hz;rcases Q6z (H.get b) _ _ with e|⟨cs,el,ex,pl,ro,hb,e⟩<;>rw [e];exact hz;cases ro with
  |true=>exact hz
  |false=>
   simp only;rcases Qhz v _ _ with e|⟨hc,e⟩<;>rw [e];exact hz;rw [Q0h];cases hcs:cs[p]? with
   |none=>exact hz
   |some u=>
    have hlt:p<cs.length:=by rcases List.getElem?_eq_some_iff.1 hcs with ⟨h,_⟩;exact h
    have hs1:ti.size=1:=by simpa using hd
    refine .inr ⟨_,_,_,jP hp nx hw (r:=⟨.undef,H.set b (.cells (Qmd cs p v) el ex pl false),nx⟩) (by rw [hop];rfl) ?_,rfl⟩
    rw [hop];have hble:Nat.ble (p+1) cs.length=true:=Nat.ble_eq_true_of_le hlt;simp only [ZL,ha,hv,Q79,hti,hb,Q6y hc,hs1,List.length_singleton,List.all_cons,List.all_nil,hc,Bool.and_true,hble,Y6,Qdg];rfl
 cases h;exact hg
theorem Qh2 {op:BinOp} {gg:IntKind->Nat->Nat->(AV->RR)->RR->RR} (h:Qk6 op=some (.mk gg)) (k:IntKind) (m n:Nat) (f:AV->RR) (z:RR):
 gg k m n f z=z\/∃v,gg k m n f z=f v/\∀(T:Tab) (c:Ctx) (H:Tr Q8) (kx:Bool) (t:TypeId) (k' :IntKind),Nat.beq (kN k) (kN k')=true->Qb3 T c H kx op t (.int k (.lit (.ofNat m))) (.int k' (.lit (.ofNat n)))= .ok v:=by
 cases op<;>simp only [Qk6,Option.some.injEq,Box.mk.injEq,reduceCtorEq] at h<;>subst h<;>simp only [sNat_eq]
 case add=>
  cases hb:Nat.ble (Nat.add m n) (qz k) with
  |false=>exact .inl rfl
  |true=>
   refine .inr ⟨_,rfl,λT c H kx t k' hk=>?_⟩
   have e:(Int.ofNat m+Int.ofNat n:Int)= .ofNat (Nat.add m n):=rfl
   simp only [Qb3,hk,cond_true,yG,E.jE,E.arith,D.of,D.bind,e,E.litS_eq,Yr hb]
 case sub=>
  cases hle:Nat.ble n m with
  |false=>exact .inl rfl
  |true=>
   simp only;cases hb:Nat.ble (Nat.sub m n) (qz k) with
   |false=>exact .inl rfl
   |true=>
    refine .inr ⟨_,rfl,λT c H kx t k' hk=>?_⟩
    have e:(Int.ofNat m-Int.ofNat n:Int)= .ofNat (Nat.sub m n):=(Int.ofNat_sub (Nat.le_of_ble_eq_true hle)).symm
    simp only [Qb3,hk,cond_true,yG,E.jE,E.arith,D.of,D.bind,e,E.litS_eq,Yr hb]
 case mul=>
  cases hb:Nat.ble (Nat.mul m n) (qz k) with
  |false=>exact .inl rfl
  |true=>
   refine .inr ⟨_,rfl,λT c H kx t k' hk=>?_⟩
   have e:(Int.ofNat m*Int.ofNat n:Int)= .ofNat (Nat.mul m n):=rfl
   simp only [Qb3,hk,cond_true,yG,E.jE,E.arith,D.of,D.bind,e,E.litS_eq,Yr hb]
 case quo=>
  cases hn:Nat.beq n 0 with
  |true=>exact .inl rfl
  |false=>
   simp only;cases hb:Nat.ble (Nat.div m n) (qz k) with
   |false=>exact .inl rfl
   |true=>
    refine .inr ⟨_,rfl,λT c H kx t k' hk=>?_⟩
    have e:(Int.ofNat m).tdiv (Int.ofNat n)= .ofNat (Nat.div m n):=rfl
    have h0:ieq (Int.ofNat n) 0=false:=hn;simp only [Qb3,hk,cond_true,yG,E.divide,h0,cond_false,D.of,D.bind,e,E.litS_eq,Yr hb]
 case rem=>
  cases hn:Nat.beq n 0 with
  |true=>exact .inl rfl
  |false=>
   refine .inr ⟨_,rfl,λT c H kx t k' hk=>?_⟩
   have e:(Int.ofNat m).tmod (Int.ofNat n)= .ofNat (Nat.mod m n):=rfl
   have h0:ieq (Int.ofNat n) 0=false:=hn;simp only [Qb3,hk,cond_true,yG,E.divide,h0,cond_false,D.of,D.bind,e,E.litS_eq]
 case and=>
  cases h1:Nat.ble m (qz k) with
  |false=>exact .inl rfl
  |true=>
   cases h2:Nat.ble n (qz k) with
   |false=>exact .inl rfl
   |true=>
    simp only;cases hb:Nat.ble (Nat.land m n) (qz k) with
    |false=>exact .inl rfl
    |true=>
     refine .inr ⟨_,rfl,λT c H kx t k' hk=>?_⟩
     simp only [Qb3,hk,cond_true,yG,E.bits,qy h1,qy h2,Bool.and_true,D.of,D.bind,E.litS_eq,Yr hb]
 case or=>
  cases h1:Nat.ble m (qz k) with
  |false=>exact .inl rfl
  |true=>
   cases h2:Nat.ble n (qz k) with
   |false=>exact .inl rfl
   |true=>
    simp only;cases hb:Nat.ble (Nat.lor m n) (qz k) with
    |false=>exact .inl rfl
    |true=>
     refine .inr ⟨_,rfl,λT c H kx t k' hk=>?_⟩
     simp only [Qb3,hk,cond_true,yG,E.bits,qy h1,qy h2,Bool.and_true,D.of,D.bind,E.litS_eq,Yr hb]
 case xor=>
  cases h1:Nat.ble m (qz k) with
  |false=>exact .inl rfl
  |true=>
   cases h2:Nat.ble n (qz k) with
   |false=>exact .inl rfl
   |true=>
    simp only;cases hb:Nat.ble (Nat.xor m n) (qz k) with
    |false=>exact .inl rfl
    |true=>
     refine .inr ⟨_,rfl,λT c H kx t k' hk=>?_⟩
     simp only [Qb3,hk,cond_true,yG,E.bits,qy h1,qy h2,Bool.and_true,D.of,D.bind,E.litS_eq,Yr hb]
 all_goals
  refine .inr ⟨_,rfl,λT c H kx t k' hk=>?_⟩
  simp only [Qb3,hk,cond_true,yG,E.cmp,Qnu,ieq,ilt]
theorem Ql4 (hp:Y5 nt o.dst put) (hg:QD G nt ops o gen) {op:BinOp} {t t' :TypeId} {x y:Operand} (hop:o.op= .binOp op t x y t') (h:binB G.T.ng op x y put gen= .mk g):QD G nt ops o g:=by
 unfold binB at h;split at h;rename_i r q gg hr hq hgg;simp only [Box.mk.injEq] at h;subst h;intro c tm H nx k z hw;have hz:Fin G nt ops o c tm H nx k z (gen c tm H nx k z):=hg c tm H nx k z hw;obtain ⟨a,ha,hk⟩:=Zu hr tm;obtain ⟨b,hb,hk2⟩:=Zu hq tm;simp only [hk,hk2];rcases Q0u a _ _ with e|⟨ka,m,rfl,e⟩<;>rw [e];exact hz;rcases Q0u b _ _ with e|⟨kb,n,rfl,e⟩<;>rw [e];exact hz;cases hkk:Nat.beq (kN ka) (kN kb) with
 |false=>exact hz
 |true=>simp only;rcases Qh2 hgg ka m n (λv=>k (put tm v) H nx) (gen c tm H nx k z) with e|⟨v,e,hv⟩<;>rw [e];exact hz;refine Zt hp hw ?_;rw [hop];simp only [light,ha,hb,D.of,D.bind,hv _ _ _ _ _ _ hkk,mapD]
 cases h;exact hg
theorem Qar (a:AV) (y n z:RR):Qfj a y n z=z\/(a= .bool true/\Qfj a y n z=y)\/(a= .bool false/\Qfj a y n z=n):=by
 cases a
 case bool b=>cases b
              exact .inr (.inr ⟨rfl,rfl⟩)
              exact .inr (.inl ⟨rfl,rfl⟩)
 all_goals exact .inl rfl
theorem Qgu (hp:Y5 nt o.dst put) (hg:QD G nt ops o gen) {q x y:Operand} (hop:o.op= .pick q x y) (h:Qjz G.T.ng q x y put gen= .mk g):QD G nt ops o g:=by unfold Qjz at h;split at h;rename_i p r s hq hr hs;simp only [Box.mk.injEq] at h;subst h;intro c tm H nx k z hw;have hz:Fin G nt ops o c tm H nx k z (gen c tm H nx k z):=hg c tm H nx k z hw;obtain ⟨b,hb,hk0⟩:=Zu hq tm;obtain ⟨a1,ha1,hk1⟩:=Zu hr tm;obtain ⟨a2,ha2,hk2⟩:=Zu hs tm;simp only [hk0,hk1,hk2];rcases Qar b _ _ _ with e|⟨rfl,e⟩|⟨rfl,e⟩<;>rw [e];exact hz;exact Zt hp hw (by rw [hop];simp only [light,hb,D.of,D.bind,ha1,ZX]);exact Zt hp hw (by rw [hop];simp only [light,hb,D.of,D.bind,ha2,ZX]);cases h;exact hg
theorem Qk4 (hp:Y5 nt o.dst put) (hg:QD G nt ops o gen) {x:Operand} {t:TypeId} (hop:o.op= .unOp .not t x) (h:notB G.T.ng x put gen= .mk g):QD G nt ops o g:=by unfold notB at h;split at h;rename_i r hr;simp only [Box.mk.injEq] at h;subst h;intro c tm H nx k z hw;have hz:Fin G nt ops o c tm H nx k z (gen c tm H nx k z):=hg c tm H nx k z hw;obtain ⟨a,ha,hk⟩:=Zu hr tm;simp only [hk];rcases Qar a _ _ _ with e|⟨rfl,e⟩|⟨rfl,e⟩<;>rw [e];exact hz;exact Zt hp hw (by rw [hop];simp only [light,ha,D.of,D.bind,aun,ZX];rfl);exact Zt hp hw (by rw [hop];simp only [light,ha,D.of,D.bind,aun,ZX];rfl);cases h;exact hg
theorem Q4a (hp:Y5 nt o.dst put) (hg:QD G nt ops o gen) {t:TypeId} {x:Operand} {f:Nat} (hop:o.op= .fieldAddr t x f) (h:jq G t x f put gen= .mk g):QD G nt ops o g:=by
 unfold jq at h;split at h
 . rename_i r n hr hn;simp only [sNat_eq,Box.mk.injEq] at h;subst h;intro c tm H nx k z hw;have hz:Fin G nt ops o c tm H nx k z (gen c tm H nx k z):=hg c tm H nx k z hw;obtain ⟨a,ha,hk⟩:=Zu hr tm;simp only [hk];rcases Q3w a _ _ with e|⟨b,p,rfl,e⟩<;>rw [e]
   . exact hz
   try simp only [sNat_eq]
   exact Zt hp hw (by rw [hop];simp only [light,ha,D.of,D.bind,Q8s hn,ZX];rfl)
 cases h;exact hg
theorem Qk5 (hp:Y5 nt o.dst put) (hg:QD G nt ops o gen) {x:Operand} (hop:o.op= .nilCheck x) (h:nilB G.T.ng x put gen= .mk g):QD G nt ops o g:=by unfold nilB at h;split at h;rename_i r hr;simp only [Box.mk.injEq] at h;subst h;intro c tm H nx k z hw;have hz:Fin G nt ops o c tm H nx k z (gen c tm H nx k z):=hg c tm H nx k z hw;obtain ⟨a,ha,hk⟩:=Zu hr tm;simp only [hk];rcases Q3w a _ _ with e|⟨b,p,rfl,e⟩<;>rw [e];exact hz;exact Zt hp hw (by rw [hop];simp only [light,ha,D.of,D.bind,Qlw,ZX]);cases h;exact hg
theorem Qj9 (a:AV) (f:List AV->RR) (z:RR):tupK a f z=z\/∃vs,a= .tuple vs/\tupK a f z=f vs:=by
 cases a
 case tuple vs=>exact .inr ⟨vs,rfl,rfl⟩
 all_goals exact .inl rfl
theorem Q8t (hp:Y5 nt o.dst put) (hg:QD G nt ops o gen) {x:Operand} {i:Nat} (hop:o.op= .extract x i) (h:Q4b G.T.ng x i put gen= .mk g):QD G nt ops o g:=by
 unfold Q4b at h;split at h;rename_i r hr;simp only [Box.mk.injEq] at h;subst h;intro c tm H nx k z hw;have hz:Fin G nt ops o c tm H nx k z (gen c tm H nx k z):=hg c tm H nx k z hw;obtain ⟨a,ha,hk⟩:=Zu hr tm;simp only [hk];rcases Qj9 a _ _ with e|⟨vs,rfl,e⟩<;>rw [e];exact hz;rw [Q0h];cases hv:vs[i]? with
 |none=>exact hz
 |some v=>exact Zt hp hw (by rw [hop];simp only [light,ha,D.of,D.bind,zR,hv,ZX])
 cases h;exact hg
theorem Qkg {d:TypeDesc} {k:IntKind} (h:intD d=some k):d= .int k:=by cases d<;>simp [intD] at h;rw [h]
theorem Qhq (hp:Y5 nt o.dst put) (hg:QD G nt ops o gen) {s t:TypeId} {x:Operand} (hop:o.op= .convert s t x) (h:Qkw G s t x put gen= .mk g):QD G nt ops o g:=by
 unfold Qkw at h;split at h;rename_i r si di hr hsi hdi;split at h;rename_i kd hkd;simp only [sNat_eq,Box.mk.injEq] at h;subst h;intro c tm H nx k z hw;have hz:Fin G nt ops o c tm H nx k z (gen c tm H nx k z):=hg c tm H nx k z hw;obtain ⟨a,ha,hk⟩:=Zu hr tm;simp only [hk];rcases Q0u a _ _ with e|⟨ka,m,rfl,e⟩<;>rw [e];exact hz;cases hb:Nat.ble m (qz kd) with
 |false=>exact hz
 |true=>have hd:=Qkg hkd;exact Zt hp hw (by rw [hop];simp only [light,ha,D.of,D.bind,Q7m,hsi,hdi,Qfv,hd,E.Qf5,E.litS_eq,Yr hb,ZX])
 cases h;exact hg;cases h;exact hg
theorem Q69 {d:TypeDesc} (h:Q2n d=true):d= .string:=by cases d<;>simp [Q2n] at h;rfl
theorem Q0t {d:TypeDesc} {e:TypeId} (h:yN d=some e):d= .slice e:=by cases d<;>simp [yN] at h;rw [h]
theorem Qd0 (a:AV) (f:List E->RR) (z:RR):strK a f z=z\/∃s,a= .str s/\strK a f z=f s:=by
 cases a
 case str s=>exact .inr ⟨s,rfl,rfl⟩
 all_goals exact .inl rfl
theorem Q5l (a:AV) (f:Nat->Nat->Nat->RR) (z:RR):Q9m a f z=z\/∃b o len cap es ex,a= .slice b o len cap es ex/\Q9m a f z=f b o len:=by
 cases a
 case slice b o len cap es ex=>exact .inr ⟨b,o,len,cap,es,ex,rfl,rfl⟩
 all_goals exact .inl rfl
theorem Qef (hp:Y5 nt o.dst put) (hg:QD G nt ops o gen) {t:TypeId} {x ix:Operand} (hop:o.op= .index t x ix) (h:indexB G t x ix put gen= .mk g):QD G nt ops o g:=by
 unfold indexB at h;split at h;rename_i r q ti hr hq hti;cases hd:Q2n ti.desc with
 |false=>rw [hd] at h;cases h;exact hg
 |true=>
  rw [hd] at h;simp only [cond_true,Box.mk.injEq] at h;subst h;intro c tm H nx k z hw;have hz:Fin G nt ops o c tm H nx k z (gen c tm H nx k z):=hg c tm H nx k z hw;obtain ⟨a,ha,hk⟩:=Zu hr tm;obtain ⟨b,hb,hk2⟩:=Zu hq tm;simp only [hk,hk2];rcases Qd0 a _ _ with e|⟨s,rfl,e⟩<;>rw [e];exact hz;rcases Q0u b _ _ with e|⟨kb,i,rfl,e⟩<;>rw [e];exact hz;rw [Q0h];cases hv:s[i]? with
  |none=>exact hz
  |some v=>exact Zt hp hw (by rw [hop];simp only [light,ha,hb,D.of,D.bind,Q1i,hti,Qj3,Q7g,E.nat?,Q69 hd,hv,ZX])
 cases h;exact hg
theorem Q8u {T:Tab} {t:TypeId} {es:Nat} (h:elemSize T t=some es) {b o len cap es' :Nat} {ex:Bool} {k:IntKind} {i:Nat} (hi:Nat.blt i len=true):
 Ye T t (.slice b o len cap es' ex) (.int k (.lit (.ofNat i)))=some (.ptr b (o+i*es)):=by
 unfold elemSize at h;split at h;rename_i ti hti;split at h;rename_i e hd;split at h;rename_i ei hei;cases h;simp only [Ye,E.nat?,hti,Q0t hd,hei,hi,cond_true,sNat_eq];cases h;cases h;cases h
theorem Q46 (hp:Y5 nt o.dst put) (hg:QD G nt ops o gen) {t:TypeId} {x ix:Operand} (hop:o.op= .indexAddr t x ix) (h:jm G t x ix put gen= .mk g):QD G nt ops o g:=by
 unfold jm at h;split at h;rename_i r q es hr hq hes;simp only [sNat_eq,Box.mk.injEq] at h;subst h;intro c tm H nx k z hw;have hz:Fin G nt ops o c tm H nx k z (gen c tm H nx k z):=hg c tm H nx k z hw;obtain ⟨a,ha,hk⟩:=Zu hr tm;obtain ⟨b,hb,hk2⟩:=Zu hq tm;simp only [hk,hk2];rcases Q5l a _ _ with e|⟨bl,p,len,cap,es',ex,rfl,e⟩<;>rw [e];exact hz;rcases Q0u b _ _ with e|⟨kb,i,rfl,e⟩<;>rw [e];exact hz;cases hi:Nat.blt i len with
 |false=>exact hz
 |true=>exact Zt hp hw (by rw [hop];simp only [light,ha,hb,D.of,D.bind,Qj3,Q8u hes hi,ZX];rfl)
 cases h;exact hg
theorem Qkb (hp:Y5 nt o.dst put) (hg:QD G nt ops o gen) {cl:Call} (hop:o.op= .call cl) (h:lenB G cl put gen= .mk g):QD G nt ops o g:=by
 unfold lenB at h;split at h;rename_i t x hc hts hxs;split at h;rename_i r ti hr hti;cases hd:Q2n ti.desc with
 |true=>rw [hd] at h;simp only [cond_true,Box.mk.injEq] at h;subst h;intro c tm H nx k z hw;have hz:Fin G nt ops o c tm H nx k z (gen c tm H nx k z):=hg c tm H nx k z hw;obtain ⟨a,ha,hk⟩:=Zu hr tm;simp only [hk];rcases Qd0 a _ _ with e|⟨s,rfl,e⟩<;>rw [e];exact hz;simp only [sNat_eq,Qe8];exact Zt hp hw (by rw [hop];simp only [light,hc,hts,hxs,ha,D.of,D.bind,Qft,Qoc,hti,Q69 hd,sNat_eq,ZX])
 |false=>rw [hd] at h;simp only [cond_false] at h;split at h;rename_i e hs;simp only [Box.mk.injEq] at h;subst h;intro c tm H nx k z hw;have hz:Fin G nt ops o c tm H nx k z (gen c tm H nx k z):=hg c tm H nx k z hw;obtain ⟨a,ha,hk⟩:=Zu hr tm;simp only [hk];rcases Q5l a _ _ with e|⟨b,p,len,cap,es,ex,rfl,e⟩<;>rw [e];exact hz;exact Zt hp hw (by rw [hop];simp only [light,hc,hts,hxs,ha,D.of,D.bind,Qft,Qoc,hti,Q0t hs,ZX]);cases h;exact hg
 cases h;exact hg;cases h;exact hg
theorem Qd8 (hp:Y5 nt o.dst put) (hg:QD G nt ops o gen) (h:Qd9 G o.op put gen= .mk g):QD G nt ops o g:=by unfold Qd9 at h;split at h<;>rename_i hop;exact Q9y hp hg (.inl hop) h;exact Q9y hp hg (.inr hop) h;exact Qh5 hp hg hop h;exact Qd1 hp hg hop h;exact Ql4 hp hg hop h;exact Qgu hp hg hop h;split at h;exact Qk4 hp hg hop h;cases h;exact hg;exact Q4a hp hg hop h;exact Qk5 hp hg hop h;exact Q8t hp hg hop h;exact Qhq hp hg hop h;exact Qef hp hg hop h;exact Q46 hp hg hop h;exact Qkb hp hg hop h;cases h;exact hg
end
theorem Q3q {G:Env}:YF G Q81:=by
 intro nt ops o put g h hp;unfold Q81 at h;split at h;cases h;rename_i put' hp';cases hgen:genB G o put' with
 |mk gen=>rw [hgen] at h;simp only [Option.some.injEq] at h;exact Qd8 (j6 hp') (Qkk (j6 hp') hgen) h
end Go.Ax
namespace Go.Ax
open Go.RowKit
section
variable {P:Program} {G:Env} {n0:Nat} {w0:World} {cs0:List Frame} {X:Ext} {s:AM} {m:Machine}
theorem JH (hT:G.T.OK P) (hI:Jq.OK P G.I) (hS:YZ P G n0) {s s' :AM} (h:Zp G s s'):∀{X:Ext} {m:Machine},Sim P G n0 w0 cs0 X s m->Qik P G n0 w0 cs0 X m s' :=by
 induction h with
 |refl s=>intro X m hs;exact ⟨X,m, .refl P _,Ext.le.refl X,hs⟩
 |step e _ ih=>intro X m hs;obtain ⟨Y,m1,a,b,c⟩:=Q90 hT hI hS hs e;exact Qik.of_steps a b (ih c)
end
end Go.Ax
namespace Go.Ax
open Go.RowKit
inductive Sp where
 |int (k:IntKind) (lo hi:Int)
 |str (most:Nat)
 |bool
 |lit (b:Bool)
 |nils
 |agg (l:List Sp)
 |tup (l:List Sp)
mutual
def Sp.has:Sp->Value->Prop
 | .int k lo hi,v=>∃n,v= .int k n/\lo<=n/\n<=hi
 | .str m,v=>∃s:ByteArray,v= .string s/\s.size<=m
 | .bool,v=>∃b,v= .bool b
 | .lit b,v=>v= .bool b
 | .nils,v=>v= .slice none 0 0
 | .agg l,v=>∃vs:Array Value,v= .agg vs/\Sp.Qcn l vs.toList
 | .tup l,v=>∃vs:Array Value,v= .tuple vs/\Sp.Qcn l vs.toList
def Sp.Qcn:List Sp->List Value->Prop
 |[],vs=>vs=[]
 |s::l,vs=>∃v vs',vs=v::vs' /\s.has v/\Sp.Qcn l vs'
end
mutual
noncomputable def Sp.chk (c:Ctx):Sp->AV->Bool
 | .int k lo hi, .int j e=>Nat.beq (kN j) (kN k)&&(match (E.iv c.fs e).lo,(E.iv c.fs e).hi with|some l,some h=>ile lo l&&ile h hi|_,_=>false)
 | .str m,a=>match Qio a with
  |some s=>(match (E.iv c.fs s.len).hi with|some h=>ile h (.ofNat m)|none=>false)
  |none=>false
 | .bool, .bool _=>true
 | .lit b, .bool a=>b==a
 | .nils, .nilslice=>true
 | .agg l, .agg cs=>Sp.jw c l cs
 | .tup l, .tuple cs=>Sp.jw c l cs
 |_,_=>false
noncomputable def Sp.jw (c:Ctx):List Sp->List AV->Bool
 |[],[]=>true
 |s::l,a::as=>s.chk c a&&Sp.jw c l as
 |_,_=>false
end
mutual
theorem Sp.zM {c:Ctx} {X:Ext} (hc:c.okN X.dom X.O):∀{sp:Sp} {a:AV} {v:Value},sp.chk c a=true->a.rel X v->sp.has v
 | .int k lo hi,a,v,h,hr=>by cases a<;>simp only [Sp.chk,Bool.false_eq_true,Bool.and_eq_true] at h;rename_i j e;obtain ⟨h1,h2⟩:=h;simp only [AV.rel] at hr;obtain ⟨_,rfl⟩:=hr;have hv:=E.Qc hc.2 e;split at h2;rename_i l hh e1 e2;simp only [Bool.and_eq_true,QS] at h2;have:=hv.1 _ e1;have:=hv.2 _ e2;simp only [Sp.has];exact ⟨_,by rw [Q0s h1],by omega,by omega⟩;cases h2
 | .str m,a,v,h,hr=>by
  have h' :(match Qio a with
   |some s=>(match (E.iv c.fs s.len).hi with|some h=>ile h (.ofNat m)|none=>false)
   |none=>false)=true:=by cases a<;>exact h
  split at h';rename_i s hs;obtain ⟨s1,s2,rfl⟩:=qZ hs hr;split at h';rename_i hh e;rw [QS] at h';have:=(E.Qc hc.2 s.len).2 _ e
  unfold ST.fit at s2;simp only [Sp.has];refine ⟨_,rfl,?_⟩;show (s.den X.O).toArray.size<=m
  simp only [Int.ofNat_eq_natCast] at h';simp;omega;cases h';cases h'
 | .bool,a,v,h,hr=>by cases a<;>simp only [Sp.chk,Bool.false_eq_true] at h;simp only [AV.rel] at hr;simp only [Sp.has];exact ⟨_,hr⟩
 | .lit b,a,v,h,hr=>by cases a<;>simp only [Sp.chk,Bool.false_eq_true,beq_iff_eq] at h;simp only [AV.rel] at hr;simp only [Sp.has];rw [hr,h]
 | .nils,a,v,h,hr=>by cases a<;>simp only [Sp.chk,Bool.false_eq_true] at h;simp only [AV.rel] at hr;simp only [Sp.has];exact hr
 | .agg l,a,v,h,hr=>by cases a<;>simp only [Sp.chk,Bool.false_eq_true] at h;simp only [AV.rel] at hr;obtain ⟨vs,rfl,hr⟩:=hr;simp only [Sp.has];exact ⟨vs,rfl,Sp.QT hc h hr⟩
 | .tup l,a,v,h,hr=>by cases a<;>simp only [Sp.chk,Bool.false_eq_true] at h;simp only [AV.rel] at hr;obtain ⟨vs,rfl,hr⟩:=hr;simp only [Sp.has];exact ⟨vs,rfl,Sp.QT hc h hr⟩
theorem Sp.QT {c:Ctx} {X:Ext} (hc:c.okN X.dom X.O):∀{l:List Sp} {as:List AV} {vs:List Value},Sp.jw c l as=true->AV.QF X as vs->Sp.Qcn l vs
 |[],as,vs,h,hr=>by cases as<;>simp only [Sp.jw,Bool.false_eq_true] at h;simp only [Sp.Qcn];exact rels_nil.1 hr
 |s::l,as,vs,h,hr=>by cases as<;>simp only [Sp.jw,Bool.false_eq_true,Bool.and_eq_true] at h;obtain ⟨v,vs',rfl,h1,h2⟩:=Q7.1 hr;simp only [Sp.Qcn];exact ⟨v,vs',rfl,Sp.zM hc h.1 h1,Sp.QT hc h.2 h2⟩
end
structure In where
 v:AV
 next:Nat
 fs:Facts
 vs:List Nat
structure InL where
 v:List AV
 next:Nat
 fs:Facts
 vs:List Nat
mutual
noncomputable def Sp.inst:Sp->Nat->Option In
 | .int k lo hi,n=>QC (n+1) λm=>some ⟨.int k (.var n),m,[⟨.geq, .var n, .lit lo,true⟩,⟨.leq, .var n, .lit hi,true⟩],[n]⟩
 | .str most,n=>QC (n+1) λm=>some ⟨.sstr (.var n),m,[⟨.leq, .len n, .lit (.ofNat most),true⟩],[n]⟩
 | .bool,_=>none
 | .lit b,n=>some ⟨.bool b,n,[],[]⟩
 | .nils,n=>some ⟨.nilslice,n,[],[]⟩
 | .agg l,n=>match Sp.Q0v l n with
  |some r=>some ⟨.agg r.v,r.next,r.fs,r.vs⟩
  |none=>none
 | .tup l,n=>match Sp.Q0v l n with
  |some r=>some ⟨.tuple r.v,r.next,r.fs,r.vs⟩
  |none=>none
noncomputable def Sp.Q0v:List Sp->Nat->Option InL
 |[],n=>some ⟨[],n,[],[]⟩
 |s::l,n=>match s.inst n with
  |none=>none
  |some a=>match Sp.Q0v l a.next with
   |none=>none
   |some r=>some ⟨a.v::r.v,r.next,a.fs++r.fs,a.vs++r.vs⟩
end
structure New (X Y:Ext) (p:Place) (n m:Nat) (fs:Facts) (vs:List Nat):Prop where
 le:X.le Y
 nm:n<=m
 old:∀b,b<n->Y.V b=X.V b
 new:∀b,n<=b->b<m->Y.V b=some p
 free:∀b,m<=b->Y.V b=none
 fs:fs.okN Y.dom Y.O
 vs:∀i∈vs,Y.dom i
def Ext.letter (X:Ext) (n:Nat) (p:Place) (z:Int) (s:List UInt8):Ext:=⟨λi=>if i=n then some p else X.V i,⟨λi=>if i=n then z else X.O.int i,λi=>if i=n then s else X.O.str i⟩⟩
theorem Ext.jl {X:Ext} {n:Nat} {p:Place} {z:Int} {s:List UInt8} (h:∀b,n<=b->X.V b=none) {fs:Facts} (hf:fs.okN (X.letter n p z s).dom (X.letter n p z s).O):New X (X.letter n p z s) p n (n+1) fs [n]:=by
 refine ⟨⟨λb q hq=>?_,λi hi=>?_⟩,by omega,λb hb=>?_,λb h1 h2=>?_,λb hb=>?_,hf,λi hi=>?_⟩;have:b≠n:=λe=>by subst e;rw [h _ (Nat.le_refl _)] at hq;cases hq
 simp only [Ext.letter,if_neg this];exact hq;obtain ⟨q,hq⟩:=hi;have:i≠n:=λe=>by subst e;rw [h _ (Nat.le_refl _)] at hq;cases hq
 simp only [Ext.letter,if_neg this,and_self];simp only [Ext.letter,if_neg (show ¬b=n by omega)];simp only [Ext.letter,if_pos (show b=n by omega)];simp only [Ext.letter,if_neg (show ¬b=n by omega)];exact h b (by omega);simp only [List.mem_singleton] at hi;subst hi;exact ⟨p,by simp [Ext.letter]⟩
theorem Facts.Q3z {d d' :Nat->Prop} {O O' :Val} (hd:∀i,d i->d' i) (ha:Val.agree d O O') {fs:Facts} (h:fs.okN d O):fs.okN d' O' :=λf hf=>by obtain ⟨h1,h2,h3⟩:=h f hf;refine ⟨?_,E.Qj hd h2,E.Qj hd h3⟩;unfold Fact.ok at*;rw [E.Qb ha h2,E.Qb ha h3];exact h1
mutual
theorem Sp.Q2o {p:Place}:∀{sp:Sp} {n:Nat} {r:In} {X:Ext} {v:Value},sp.inst n=some r->sp.has v->(∀b,n<=b->X.V b=none)->∃Y,New X Y p n r.next r.fs r.vs/\r.v.rel Y v
 | .int k lo hi,n,r,X,v,h,hv,hf=>by
  simp only [Sp.inst,sNat_eq,Option.some.injEq] at h;subst h;simp only [Sp.has] at hv;obtain ⟨z,rfl,h1,h2⟩:=hv;refine ⟨X.letter n p z [],Ext.jl hf ?_,?_⟩;intro f hm;have hd:(X.letter n p z []).dom n:=⟨p,by simp [Ext.letter]⟩
  simp only [List.mem_cons,List.not_mem_nil,or_false] at hm;rcases hm with rfl|rfl;exact ⟨by simp [Fact.ok,Y2,E.den,Ext.letter,h1],hd,trivial⟩;exact ⟨by simp [Fact.ok,Y2,E.den,Ext.letter,h2],hd,trivial⟩;simp only [AV.rel];exact ⟨⟨p,by simp [Ext.letter]⟩,by simp [E.den,Ext.letter]⟩
 | .str most,n,r,X,v,h,hv,hf=>by
  simp only [Sp.inst,sNat_eq,Option.some.injEq] at h;subst h;simp only [Sp.has] at hv;obtain ⟨s,rfl,h1⟩:=hv;refine ⟨X.letter n p 0 s.data.toList,Ext.jl hf ?_,?_⟩;intro f hm;have hd:(X.letter n p 0 s.data.toList).dom n:=⟨p,by simp [Ext.letter]⟩
  simp only [List.mem_cons,List.not_mem_nil,or_false] at hm;subst hm;refine ⟨?_,hd,trivial⟩;simp [Fact.ok,Y2,E.den,Ext.letter];exact h1;simp only [AV.rel];refine ⟨⟨p,by simp [Ext.letter]⟩,?_,?_⟩;simp [ST.fit,ST.len,E.den,ST.den,Ext.letter];simp [ST.den,Ext.letter]
 | .bool,n,r,X,v,h,_,_=>by simp [Sp.inst] at h
 | .lit b,n,r,X,v,h,hv,hf=>by simp only [Sp.inst,Option.some.injEq] at h;subst h;simp only [Sp.has] at hv;exact ⟨X,⟨Ext.le.refl X,Nat.le_refl _,λ_ _=>rfl,λb h1 h2=>by simp only at h2;omega,hf,λf hf=>(by cases hf),λi hi=>(by cases hi)⟩,by simp only [AV.rel];exact hv⟩
 | .nils,n,r,X,v,h,hv,hf=>by simp only [Sp.inst,Option.some.injEq] at h;subst h;simp only [Sp.has] at hv;exact ⟨X,⟨Ext.le.refl X,Nat.le_refl _,λ_ _=>rfl,λb h1 h2=>by simp only at h2;omega,hf,λf hf=>(by cases hf),λi hi=>(by cases hi)⟩,by simp only [AV.rel];exact hv⟩
 | .agg l,n,r,X,v,h,hv,hf=>by simp only [Sp.inst] at h;split at h;rename_i q hq;cases h;simp only [Sp.has] at hv;obtain ⟨vs,rfl,hv⟩:=hv;obtain ⟨Y,h1,h2⟩:=Sp.Yn (p:=p) hq hv hf;exact ⟨Y,h1,by simp only [AV.rel];exact ⟨vs,rfl,h2⟩⟩;cases h
 | .tup l,n,r,X,v,h,hv,hf=>by simp only [Sp.inst] at h;split at h;rename_i q hq;cases h;simp only [Sp.has] at hv;obtain ⟨vs,rfl,hv⟩:=hv;obtain ⟨Y,h1,h2⟩:=Sp.Yn (p:=p) hq hv hf;exact ⟨Y,h1,by simp only [AV.rel];exact ⟨vs,rfl,h2⟩⟩;cases h
theorem Sp.Yn {p:Place}:∀{l:List Sp} {n:Nat} {r:InL} {X:Ext} {vs:List Value},Sp.Q0v l n=some r->Sp.Qcn l vs->(∀b,n<=b->X.V b=none)->∃Y,New X Y p n r.next r.fs r.vs/\AV.QF Y r.v vs
 |[],n,r,X,vs,h,hv,hf=>by simp only [Sp.Q0v,Option.some.injEq] at h;subst h;simp only [Sp.Qcn] at hv;subst hv;exact ⟨X,⟨Ext.le.refl X,Nat.le_refl _,λ_ _=>rfl,λb h1 h2=>by simp only at h2;omega,hf,λf hf=>(by cases hf),λi hi=>(by cases hi)⟩,by simp⟩
 |s::l,n,r,X,vs,h,hv,hf=>by simp only [Sp.Q0v] at h;split at h;cases h;rename_i a ha;split at h;cases h;rename_i q hq;cases h;simp only [Sp.Qcn] at hv;obtain ⟨v,vs',rfl,hv1,hv2⟩:=hv;obtain ⟨Y,n1,r1⟩:=Sp.Q2o (p:=p) ha hv1 hf;obtain ⟨Z,n2,r2⟩:=Sp.Yn (p:=p) hq hv2 n1.free;refine ⟨Z,⟨n1.le.trans n2.le,Nat.le_trans n1.nm n2.nm,λb hb=>?_,λb h1 h2=>?_,n2.free,λf hm=>?_,λi hi=>?_⟩,?_⟩;rw [n2.old b (Nat.lt_of_lt_of_le hb n1.nm),n1.old b hb];by_cases hb:b<a.next;rw [n2.old b hb];exact n1.new b h1 hb;exact n2.new b (by omega) h2;rcases List.mem_append.1 hm with hm|hm;exact Facts.Q3z n2.le.dom n2.le.O n1.fs f hm;exact n2.fs f hm;rcases List.mem_append.1 hi with hi|hi;exact n2.le.dom _ (n1.vs i hi);exact n2.vs i hi;simp only [rels_cons_cons];exact ⟨AV.Zc n2.le _ _ r1,r2⟩
end
end Go.Ax
namespace Go.Ax
open Go.RowKit
noncomputable def Yx (spec:Spec) (G:Env) (n:Nat) (f:FuncId) (q:Ctx->AV->Bool) (k:Nat):Nat->AM->Bool
 |0,_=>false
 |d+1,s=>match Qgh spec G n k s with
  | .go _=>false
  | .stop s=>match Yq G s with
   | .fin=>s.fr.ret&&Nat.beq s.fr.fn f&&(match G.T.funcs.get s.fr.fn with
    |some fn=>match JU G.T s.H fn s.fr.tm with
     |some v=>q s.ctx v
     |none=>false
    |none=>false)
   | .ask op a b=>a.okB s.ctx.vs&&b.okB s.ctx.vs&&(Yx spec G n f q k d { s with ctx:=s.ctx.add ⟨op,a,b,true⟩}&&Yx spec G n f q k d { s with ctx:=s.ctx.add ⟨op,a,b,false⟩})
   |_=>false
section
variable {P:Program} {G:Env} {n0:Nat} {w0:World} {cs0:List Frame} {X:Ext} {s:AM} {m:Machine}
def Qlm (P:Program) (n0:Nat) (w0:World) (cs0:List Frame) (f:FuncId) (q:Ctx->AV->Bool) (X:Ext) (m:Machine):Prop:=∃Y fr w c v u,Steps P m (lone fr cs0 w)/\X.le Y/\c.okN Y.dom Y.O/\q c v=true/\v.rel Y u/\Below n0 w0 w/\fr.fn=f/\fr.leaving P w (.returned u)
theorem ZT (hT:G.T.OK P) (hI:Jq.OK P G.I) (hS:YZ P G n0) {spec:Spec} (hsp:YF G spec) {n:Nat} {f:FuncId} {q:Ctx->AV->Bool} {k:Nat}:∀(d:Nat) {X:Ext} {s:AM} {m:Machine},Yx spec G n f q k d s=true->Sim P G n0 w0 cs0 X s m->Qlm P n0 w0 cs0 f q X m
 |0,X,s,m,he,_=>by simp [Yx] at he
 |d+1,X,s,m,he,h=>by
  simp only [Yx] at he;have hr:=JH hT hI hS (Q3u hsp n k s) h;split at he;cases he;rename_i s1 hs1;rw [hs1] at hr;obtain ⟨Y,m1,st,hle,h1⟩:=hr;simp only [zV.state] at h1;have fin:∀{X' :Ext},Y=X' ->Qlm P n0 w0 cs0 f q X' m1->Qlm P n0 w0 cs0 f q X m:=by
   rintro X' rfl ⟨Z,fr,w,c,v,u,a1,a2,a3⟩
   exact ⟨Z,fr,w,c,v,u,st.trans a1,hle.trans a2,a3⟩
  split at he;rename_i hfin;refine fin rfl ?_;simp only [Bool.and_eq_true,Nat.beq_eq] at he;obtain ⟨⟨hret,hf⟩,he⟩:=he;split at he;rename_i fn hfn;split at he;rename_i v hv;have hend:s1.fr.ret=true/\s1.fr.defers=[]/\s1.cs=[]:=by unfold Yq at hfin;rw [hret] at hfin;simp only at hfin;split at hfin;cases hfin;split at hfin<;>cases hfin;rename_i hd;split at hfin;rename_i hcs;exact ⟨hret,hd,hcs⟩;split at hfin;cases hfin;split at hfin;cases hfin;split at hfin<;>cases hfin
  obtain ⟨e1,e2,e3⟩:=hend;obtain ⟨fr,cs,w,rfl,hF,hall,hH,hB,h0⟩:=h1.ex;rw [e3] at hall;simp only [Zl] at hall;subst hall;obtain ⟨hb,h'⟩:=hF;rw [e1] at h';simp only at h';obtain ⟨hm,htm,hcur⟩:=h';have hdf:=hb.defers;rw [e2] at hdf;simp only [Q6p] at hdf;obtain ⟨u,hu,hr⟩:=zq (P:=P) hT hH htm hv;exact ⟨Y,fr,w,s1.ctx,v,u, .refl P _,Ext.le.refl Y,h1.ctx,he,hr,hB,hb.fn.trans hf,hm,hdf,hb.kind,fn,by rw [hb.fn];exact (hT.funcs _ _ hfn).1,hu⟩;cases he;cases he;rename_i op a b hask;simp only [Bool.and_eq_true] at he;obtain ⟨⟨ka,kb⟩,he⟩:=he;obtain ⟨v,hv⟩:=h1.ask op ka kb;refine fin rfl ?_;cases v with
  |true=>exact ZT hT hI hS hsp d he.1 hv
  |false=>exact ZT hT hI hS hsp d he.2 hv
  cases he
theorem jy (hT:G.T.OK P) (hI:Jq.OK P G.I) (hS:YZ P G n0) {spec:Spec} (hsp:YF G spec) {n:Nat} {f:FuncId} {args:List AV} {vs:Array Value} {H:Tr Q8} {next:Nat} {c:Ctx} {q:Ctx->AV->Bool} {k d:Nat} {s:AM} {w:World} (hs:start G f args H next c=some s) (he:Yx spec G n f q k d s=true)
 (hargs:AV.QF X args vs.toList) (hH:Qo X n0 H w) (h0:n0<=w.heap.size) (hc:c.okN X.dom X.O) (hg:X.Ql G.T.ng) (hfr:∀b,next<=b->X.V b=none):
 Calls P f vs w (λe w' =>∃Y c v u,X.le Y/\c.okN Y.dom Y.O/\q c v=true/\v.rel Y u/\e= .returned u/\Below n0 w w'):=by
 intro cs;have hsim:Sim P G n0 w cs X s (lone (Frame.enter P f vs .normal) cs w):=by
  unfold start at hs;split at hs;cases hs;rename_i fn hfn;split at hs;cases hs;rename_i b hb;cases hs;have hP:=(hT.funcs f fn hfn).1
  refine ⟨⟨Frame.enter P f vs .normal,[],w,rfl,⟨⟨rfl,rfl,rfl,rfl⟩,rfl,[.code b],⟨_,_,rfl,rfl,rfl⟩,?_,?_⟩,rfl,hH,Below.refl _ _,h0⟩,hc,hg,hfr,?_⟩;simp [Frame.enter,hP,hb];have:=Q4e (k:=fn.ntmps) hargs;simpa [Frame.enter,hP] using this;simp [Qq]
 obtain ⟨Y,fr,w',c',v,u,a1,a2,a2',a3,a4,a5,a6,a7⟩:=ZT hT hI hS hsp d he hsim;exact ⟨.returned u,w',fr,⟨Y,c',v,u,a2,a2',a3,a4,rfl,a5⟩,a1,a6,a7⟩
end
def Ext.base (ng:Nat):Ext:=⟨λb=>if b<ng then some ⟨b,0,0⟩ else none,⟨λ_=>0,λ_=>[]⟩⟩
noncomputable def Qc5 (H:Tr Q8) (n:Nat) (m:Nat):Nat->Bool
 |0=>Nat.ble m n
 |k+1=>bif Nat.ble m n then true else (match H.get n with|none=>QC (n+1) λn=>Qc5 H n m k|some _=>false)
theorem Q0y {H:Tr Q8} {m:Nat}:∀{k n:Nat},Qc5 H n m k=true->∀b,n<=b->b<m->H.get b=none
 |0,n,h,b,h1,h2=>by simp only [Qc5,Nat.ble_eq] at h;omega
 |k+1,n,h,b,h1,h2=>by
  simp only [Qc5,sNat_eq] at h;cases hb:Nat.ble m n with
  |true=>have:m<=n:=by simpa using hb
         omega
  |false=>rw [hb] at h;simp only [cond_false] at h;split at h;rename_i hg;by_cases e:b=n;subst e;exact hg;exact Q0y h b (by omega) h2;cases h
noncomputable def Qjc (args:List Sp) (res:Sp):Ctx->Tr Q8->Nat->List AV->D SR:=λc H next as=>
 bif Sp.jw c args as then
  match res.inst next with
  |some r=>bif Qc5 H next r.next 64 then .ok ⟨r.v,H,r.next,⟨r.fs++c.fs,r.vs++c.vs⟩⟩ else .fail
  |none=> .fail
 else .fail
end Go.Ax
namespace Go.Ax
open Go.RowKit
abbrev Sum:=Ctx->Tr Q8->Nat->List AV->D SR
noncomputable def Qcv:List (Nat×Sum)->Nat->Option Sum
 |[],_=>none
 |p::l,f=>bif Nat.beq p.1 f then some p.2 else Qcv l f
def Qfy (P:Program) (T:Tab) (l:List (Nat×Sum)):Prop:=∀p∈l,∀(G:Env) (n0:Nat),G.T=T->Qof P G n0 p.1 p.2
theorem Q9g {P:Program} {T:Tab} {I:List (TypeId×TypeId×Bool)} {l:List (Nat×Sum)} (h:Qfy P T l) (n0:Nat):YZ P ⟨T,I,Qcv l⟩ n0:=by
 intro f S hf;have:∃p∈l,p.1=f/\p.2=S:=by
  clear h;induction l with
  |nil=>cases hf
  |cons p l ih=>
   have hf' :(bif Nat.beq p.1 f then some p.2 else Qcv l f)=some S:=hf;cases hb:Nat.beq p.1 f with
   |true=>rw [hb] at hf';simp only [cond_true,Option.some.injEq] at hf';exact ⟨p,by simp,by simpa using hb,hf'⟩
   |false=>rw [hb] at hf';obtain ⟨q,h1,h2⟩:=ih hf';exact ⟨q,by simp [h1],h2⟩
 obtain ⟨p,hp,rfl,rfl⟩:=this;exact h p hp _ n0 rfl
theorem Qfy.cons {P:Program} {T:Tab} {p:Nat×Sum} {l:List (Nat×Sum)} (h1:∀(G:Env) (n0:Nat),G.T=T->ZO P G n0 p.1 p.2) (h2:∀args w,(callFunc p.1 args).run P w= .ok (.enter p.1 args) w) (h:Qfy P T l):Qfy P T (p::l):=by
 intro q hq;rcases List.mem_cons.1 hq with rfl|hq;exact λG n0 e=> .inl ⟨h1 G n0 e,h2⟩
 exact h q hq
theorem Qfy.ext {P:Program} {T:Tab} {p:Nat×Sum} {l:List (Nat×Sum)} (h1:∀(G:Env) (n0:Nat),G.T=T->Qil P G n0 p.1 p.2) (h:Qfy P T l):Qfy P T (p::l):=by
 intro q hq;rcases List.mem_cons.1 hq with rfl|hq;exact λG n0 e=> .inr (h1 G n0 e)
 exact h q hq
theorem Qfy.nil {P:Program} {T:Tab}:Qfy P T []:=λp hp=>by cases hp
def spI:Sp:= .int .i64 (-9223372036854775808) 9223372036854775807
noncomputable def Q8a:Sum:=λc H next as=>
 match as with
 |[.int _ (.lit _),_]=> .fail
 |[.int .i64 e, .int .i64 (.lit (.ofNat n))]=>bif Nat.ble 1 n&&Nat.ble n 9223372036854775807&&spI.chk c (.int .i64 e) then .ok ⟨.int .i64 (.pk n e),H,next,c⟩ else .fail
 |_=> .fail
theorem Qbp {P:Program} {G:Env} {n0:Nat} {f:FuncId}
 (h:∀(z:Int) (n:Nat) (w:World),-9223372036854775808<=z->z<=9223372036854775807->1<=n->n<=9223372036854775807->Calls P f #[.int .i64 z, .int .i64 n] w λe w' =>e= .returned (.int .i64 (Q5y n z))/\w' =w):ZO P G n0 f Q8a:=by
 intro c X H next w as vs r hr hc hg hH h0 hfr hargs fr cs
 unfold Q8a at hr;split at hr;cases hr;rename_i e n _;cases hb:(Nat.ble 1 n&&Nat.ble n 9223372036854775807&&spI.chk c (.int .i64 e)) with
 |false=>rw [hb] at hr;cases hr
 |true=>
  rw [hb] at hr;cases hr;simp only [Bool.and_eq_true,Nat.ble_eq] at hb;obtain ⟨u,vs',e1,h1,h2⟩:=Q7.1 hargs;obtain ⟨v,vs'',rfl,h3,h4⟩:=Q7.1 h2;have:=rels_nil.1 h4;subst this;have hk:=Sp.zM hc hb.2 h1;simp only [AV.rel] at h1 h3;obtain ⟨k1,rfl⟩:=h1;obtain ⟨_,rfl⟩:=h3;simp only [spI,Sp.has] at hk;obtain ⟨z,hz,z0,z1⟩:=hk;cases hz;have hvs:vs=#[.int .i64 (e.den X.O), .int .i64 n]:=by rw [<-Array.toList_inj];exact e1
  subst hvs;refine ⟨X,_,w,JC (h (e.den X.O) n w z0 z1 hb.1.1 hb.1.2) fr cs,Ext.le.refl X,?_,hH,Below.refl _ _,λb hb _=>⟨hb,rfl⟩,Nat.le_refl _,hfr,hc⟩;simp only [AV.rel];exact ⟨k1,rfl⟩
 cases hr
end Go.Ax
namespace Go.Ax
open Go.RowKit
noncomputable def Yy (spec:Spec) (G:Env) (n:Nat) (f:FuncId) (q:Ctx->AV->Bool) (k:Nat):Nat->List Bool->AM->Bool
 |0,_,_=>false
 |d+1,p,s=>match Qgh spec G n k s with
  | .go _=>false
  | .stop s=>match Yq G s with
   | .fin=>s.fr.ret&&Nat.beq s.fr.fn f&&(match G.T.funcs.get s.fr.fn with
    |some fn=>match JU G.T s.H fn s.fr.tm with
     |some v=>q s.ctx v
     |none=>false
    |none=>false)
   | .ask op a b=>a.okB s.ctx.vs&&b.okB s.ctx.vs&&(match p with
    |[]=>Yy spec G n f q k d [] { s with ctx:=s.ctx.add ⟨op,a,b,true⟩}&&Yy spec G n f q k d [] { s with ctx:=s.ctx.add ⟨op,a,b,false⟩}
    |true::p=>Yy spec G n f q k d p { s with ctx:=s.ctx.add ⟨op,a,b,true⟩}
    |false::p=>Yy spec G n f q k d p { s with ctx:=s.ctx.add ⟨op,a,b,false⟩})
   |_=>false
theorem Jz {spec:Spec} {G:Env} {n:Nat} {f:FuncId} {q:Ctx->AV->Bool} {k:Nat}:∀(d:Nat) (s:AM),Yy spec G n f q k d [] s=Yx spec G n f q k d s
 |0,_=>rfl
 |d+1,s=>by
  simp only [Yy,Yx];simp only [Jz d]
  all_goals rfl
end Go.Ax
namespace Go.Ax
open Go.RowKit
theorem Qo.place {X:Ext} {n0:Nat} {H:Tr Q8} {w:World} (h:Qo X n0 H w) {b:Nat} {o:Q8} {p:Place} (hb:X.V b=none) (hlt:p.blk<w.heap.size) (hn:n0<=p.blk) (hfr:∀i q,X.V i=some q->q.blk≠p.blk)
 (hr:jG (X.add b p) o p w.heap[p.blk]?):Qo (X.add b p) n0 (H.set b o) w:=by
 have hle:=Ext.Zf (p:=p) hb;have key:∀i q,(X.add b p).V i=some q->(i=b/\q=p)\/(i≠b/\X.V i=some q):=by
  intro i q hq;by_cases e:i=b;subst e;rw [Ext.add_same] at hq;exact .inl ⟨rfl,(Option.some.inj hq).symm⟩
  rw [Ext.QI e] at hq;exact .inr ⟨e,hq⟩
 refine ⟨λi o' q hi hq=>?_,λi j o1 o2 q1 q2 hi hj l1 l2 hq1 hq2 e=>?_,λi q hq=>?_,λi o' q hi hl hq=>?_⟩;rcases key i q hq with ⟨rfl,rfl⟩|⟨e,hq'⟩;rw [Tr.get_set_same] at hi;cases hi;exact hr;rw [Tr.Q0 _ _ e] at hi;exact Zo hle (h.obj i o' q hi hq');rcases key i q1 hq1 with ⟨rfl,rfl⟩|⟨e1,hq1'⟩<;>rcases key j q2 hq2 with ⟨rfl,rfl⟩|⟨e2,hq2'⟩;rfl;exact absurd e.symm (hfr _ _ hq2');exact absurd e (hfr _ _ hq1');rw [Tr.Q0 _ _ e1] at hi;rw [Tr.Q0 _ _ e2] at hj;exact h.inj i j o1 o2 q1 q2 hi hj l1 l2 hq1' hq2' e;rcases key i q hq with ⟨rfl,rfl⟩|⟨_,hq'⟩;exact hlt;exact h.lt i q hq';rcases key i q hq with ⟨rfl,rfl⟩|⟨e,hq'⟩;exact hn;rw [Tr.Q0 _ _ e] at hi;exact h.own i o' q hi hl hq'
theorem Qo.grow {X:Ext} {n0:Nat} {H:Tr Q8} {w w' :World} (h:Qo X n0 H w) (hb:Below w.heap.size w w'):Qo X n0 H w' :=⟨λb o p hi hp=>by rw [hb.block _ (h.lt _ _ hp)];exact h.obj b o p hi hp,h.inj,λb p hp=>Nat.lt_of_lt_of_le (h.lt b p hp) hb.size,h.own⟩
theorem Q5z {α β:Type} {f:α->β} {L' L:List β} (h:L'.Perm L):∀es:List α,es.map f=L' ->∃l:List α,l.Perm es/\l.map f=L:=by
 induction h with
 |nil=>intro es he;exact ⟨es, .refl _,he⟩
 |cons x _ ih=>
  intro es he;cases es with
  |nil=>simp at he
  |cons e es=>simp only [List.map_cons,List.cons.injEq] at he;obtain ⟨l,h1,h2⟩:=ih es he.2;exact ⟨e::l,h1.cons e,by simp [he.1,h2]⟩
 |swap x y l=>
  intro es he;match es,he with
  |a::b::es,he=>simp only [List.map_cons,List.cons.injEq] at he;exact ⟨b::a::es, .swap _ _ _,by simp [he.1,he.2.1,he.2.2]⟩
 |trans _ _ ih1 ih2=>intro es he;obtain ⟨l,h1,h2⟩:=ih1 es he;obtain ⟨l',h3,h4⟩:=ih2 l h2;exact ⟨l',h3.trans h1,h4⟩
end Go.Ax
namespace Go.Ax
open Go.RowKit
inductive DV where
 |nums (l:List Nat)
 |typ (R b o:Nat)
noncomputable def DV.inB (ng:Nat):DV->Bool
 | .nums _=>true
 | .typ _ b _=>Nat.ble (b+1) ng
structure Q7r where
 ng:Nat
 m:Nat
 T:TypeId
 t:TypeId
 l:List (Nat×Nat)
 d:List (Nat×TypeId×DV)
noncomputable def Qne (q:Nat×TypeId×DV):Q8:=match q.2.2 with
 | .nums l=> .cells (l.map λn=> .int .i64 (.lit (.ofNat n))) q.2.1 false false true
 | .typ R b o=> .cells [.iface R (.agg [.ptr b o])] q.2.1 false false true
theorem Qks (q:Nat×TypeId×DV):(Qne q).rw=false:=by unfold Qne;split<;>rfl
def DV.laid (ng:Nat) (c:Array Value):DV->Prop
 | .nums l=>l.length<=c.size/\∀(i n:Nat),l[i]?=some n->c[i]?=some (.int .i64 (n:Int))
 | .typ R b o=>0<c.size/\b<ng/\c[0]?=some (.iface R (.agg #[.pointer (some ⟨b,o,none⟩)]))
noncomputable def Qnd (room:Nat):List (Nat×TypeId×DV)->Tr Q8
 |[]=> .sk room
 |q::l=>(Qnd room l).set q.1 (Qne q)
noncomputable def Qew (room:Nat) (T t:TypeId) (d:List (Nat×TypeId×DV)):List (Nat×Nat)->Tr Q8
 |[]=>Qnd room d
 |e::l=>(Qew room T t d l).set e.1 (.cells [.iface T (.ptr e.2 0)] t false false true)
structure Laid (E:Q7r) (A:Nat->Addr) (N:Nat->Nat) (w:World):Prop where
 at_:∀e∈E.l,e.1<E.ng/\E.ng<=e.2/\e.2<E.ng+E.m/\0<N e.1/\(A e.2).spot=none/\∃c fr el,w.heap[e.1]?=some (.cells c el fr)/\c.size=N e.1/\c[0]?=some (.iface E.T (.pointer (some (A e.2))))
 lt:∀b,E.ng<=b->b<E.ng+E.m->(A b).block<w.heap.size
 sz:E.ng<=w.heap.size
 dat:∀q∈E.d,q.1<E.ng/\∃c fr el,w.heap[q.1]?=some (.cells c el fr)/\c.size=N q.1/\q.2.2.laid E.ng c
def Qj0 (E:Q7r) (A:Nat->Addr) (N:Nat->Nat):Ext:=⟨λb=>if b<E.ng then some ⟨b,0,N b⟩ else if b<E.ng+E.m then some ⟨(A b).block,(A b).off,0⟩ else none,⟨λ_=>0,λ_=>[]⟩⟩
theorem Qag {room:Nat}:∀{d:List (Nat×TypeId×DV)} {b:Nat} {o:Q8},(Qnd room d).get b=some o->∃q∈d,b=q.1/\o=Qne q
 |[],b,o,h=>by simp [Qnd] at h
 |q::l,b,o,h=>by simp only [Qnd] at h;rw [Tr.QV] at h;by_cases hb:b=q.1;subst hb;simp at h;exact ⟨q,by simp,rfl,h.symm⟩;rw [if_neg hb] at h;obtain ⟨q',h1,h2⟩:=Qag h;exact ⟨q',by simp [h1],h2⟩
theorem yS {room:Nat} {T t:TypeId} {d:List (Nat×TypeId×DV)}:∀{l:List (Nat×Nat)} {b:Nat} {o:Q8},(Qew room T t d l).get b=some o->(∃id,(b,id)∈l/\o= .cells [.iface T (.ptr id 0)] t false false true)\/∃q∈d,b=q.1/\o=Qne q
 |[],b,o,h=> .inr (Qag h)
 |e::l,b,o,h=>by
  simp only [Qew] at h;rw [Tr.QV] at h;by_cases hb:b=e.1;subst hb;simp at h;exact .inl ⟨e.2,by simp,h.symm⟩
  rw [if_neg hb] at h;rcases yS h with ⟨id,h1,h2⟩|h1;exact .inl ⟨id,by simp [h1],h2⟩
  exact .inr h1
theorem Q6n {E:Q7r} {A:Nat->Addr} {N:Nat->Nat} {w:World} (hl:Laid E A N w) {Y:Ext} {room:Nat} (hold:∀b,b<E.ng->Y.V b=some ⟨b,0,N b⟩) (hptr:∀b,E.ng<=b->b<E.ng+E.m->Y.V b=some ⟨(A b).block,(A b).off,0⟩)
 (hlt:∀b p,Y.V b=some p->p.blk<w.heap.size):Qo Y w.heap.size (Qew room E.T E.t E.d E.l) w:=by
 have hin:∀{b o},(Qew room E.T E.t E.d E.l).get b=some o->b<E.ng:=λhb=>by
  rcases yS hb with ⟨id,hm,-⟩|⟨q,hq,rfl,-⟩;exact (hl.at_ _ hm).1
  exact (hl.dat q hq).1
 refine ⟨λb o p hb hp=>?_,λb b' o o' p p' hb hb' _ _ hp hp' e=>?_,hlt,λb o p hb hrw=>?_⟩;rw [hold b (hin hb)] at hp;cases hp;rcases yS hb with ⟨id,hm,rfl⟩|⟨q,hq,rfl,rfl⟩;obtain ⟨a1,a2,a3,a3',a4,c,fr,el,a5,a6,a7⟩:=hl.at_ _ hm;simp only at a1 a2 a3 a3' a4 a5 a6 a7;refine ⟨c,fr,⟨_,a5, .inl rfl⟩,a6,by simp only [List.length_singleton];omega,λh=>(by cases h),λi x hx=>?_, .inl rfl,λh=>(by cases h)⟩;cases i with
 |zero=>simp only [List.getElem?_cons_zero,Option.some.injEq] at hx;subst hx;refine ⟨_,by simpa using a7,?_⟩;simp only [AV.rel];refine ⟨_,rfl,_,hptr id a2 a3,?_⟩;simp only [Nat.add_zero];rw [<-a4]
 |succ i=>simp at hx
 obtain ⟨a1,c,fr,el,a5,a6,a7⟩:=hl.dat q hq;obtain ⟨g,t,dv⟩:=q;simp only at a1 a5 a6;cases dv with
 |nums ns=>obtain ⟨a7,a8⟩:=a7;refine ⟨c,fr,⟨_,a5, .inl rfl⟩,a6,by simp only [List.length_map];omega,λh=>(by cases h),λi x hx=>?_, .inl rfl,λh=>(by cases h)⟩;simp only [List.getElem?_map,Option.map_eq_some_iff] at hx;obtain ⟨n,hn,rfl⟩:=hx;exact ⟨_,by simpa using a8 i n hn,by simp only [AV.rel];exact ⟨trivial,rfl⟩⟩
 |typ R k o=>
  obtain ⟨a7,b1,a8⟩:=a7;refine ⟨c,fr,⟨_,a5, .inl rfl⟩,a6,by simp only [List.length_singleton];omega,λh=>(by cases h),λi x hx=>?_, .inl rfl,λh=>(by cases h)⟩;cases i with
  |zero=>simp only [List.getElem?_cons_zero,Option.some.injEq] at hx;subst hx;refine ⟨_,by simpa using a8,?_⟩;simp only [AV.rel];exact ⟨_,rfl,_,rfl,_,[],rfl,⟨_,hold k b1,by simp only [Nat.zero_add]⟩,rfl⟩
  |succ i=>simp at hx
 rw [hold b (hin hb)] at hp;rw [hold b' (hin hb')] at hp';cases hp;cases hp';exact e;rcases yS hb with ⟨id,hm,rfl⟩|⟨q,hq,rfl,rfl⟩;cases hrw;rw [Qks] at hrw;cases hrw
def Qlk (P:Program) (E:Q7r) (f:FuncId) (args:List Sp) (res:Sp):Prop:=∀(w:World) (A:Nat->Addr) (N:Nat->Nat) (vs:Array Value),Laid E A N w->Sp.Qcn args vs.toList->Calls P f vs w (λe w' =>∃u,e= .returned u/\res.has u/\Below w.heap.size w w')
noncomputable def Qeu (G:Env) (E:Q7r) (f:FuncId) (args:List Sp) (res:Sp) (room n k d:Nat) (p:List Bool):Bool:=
 match Sp.Q0v args (E.ng+E.m) with
 |none=>false
 |some r=>match start G f r.v (Qew room E.T E.t E.d E.l) r.next ⟨r.fs,r.vs⟩ with
  |none=>false
  |some s=>Yy Q81 G n f (λc v=>res.chk c v) k d p s
theorem yZ {P:Program} {G:Env} (hT:G.T.OK P) (hI:Jq.OK P G.I) (hS:∀n0,YZ P G n0) {E:Q7r} (hE:E.ng=G.T.ng) (hng:0<E.ng) {f:FuncId} {args:List Sp} {res:Sp} {room n k d:Nat}
 (he:Qeu G E f args res room n k d []=true):Qlk P E f args res:=by
 intro w A N vs hl hv cs;unfold Qeu at he;split at he;cases he;rename_i r hi;split at he;cases he;rename_i s hs;rw [Jz] at he;have h00:0<w.heap.size:=Nat.lt_of_lt_of_le hng hl.sz;obtain ⟨Y,hN,hr⟩:=Sp.Yn (p:=⟨0,0,0⟩) (X:=Qj0 E A N) hi hv (λb hb=>by simp only [Qj0];rw [if_neg (by omega),if_neg (by omega)]);have hold:∀b,b<E.ng->Y.V b=some ⟨b,0,N b⟩:=λb hb=>by rw [hN.old b (by omega)];simp only [Qj0];rw [if_pos hb]
 have hptr:∀b,E.ng<=b->b<E.ng+E.m->Y.V b=some ⟨(A b).block,(A b).off,0⟩:=λb h1 h2=>by rw [hN.old b h2];simp only [Qj0];rw [if_neg (by omega),if_pos h2]
 have hH:Qo Y w.heap.size (Qew room E.T E.t E.d E.l) w:=Q6n hl hold hptr λb p hp=>by by_cases h1:b<E.ng;rw [hold b h1] at hp;cases hp;exact Nat.lt_of_lt_of_le h1 hl.sz;by_cases h2:b<E.ng+E.m;rw [hptr b (by omega) h2] at hp;cases hp;exact hl.lt b (by omega) h2;by_cases h3:b<r.next;rw [hN.new b (by omega) h3] at hp;cases hp;exact h00;rw [hN.free b (by omega)] at hp;cases hp
 have hg:Y.Ql G.T.ng:=λg hg=>⟨N g,hold g (by omega)⟩
 obtain ⟨e,w',fr,⟨Z,c,v,u,a1,a2,a3,a4,rfl,a5⟩,a6⟩:=jy hT hI (hS _) Q3q hs he hr hH (Nat.le_refl _) (c:=⟨r.fs,r.vs⟩) ⟨hN.vs,hN.fs⟩ hg hN.free cs;exact ⟨_,w',fr,⟨u,rfl,Sp.zM a2 a3 a4,a5⟩,a6⟩
noncomputable def Qc7 (T t:TypeId) (H:Tr Q8):List (Nat×Nat)->Bool
 |[]=>true
 |e::l=>(match H.get e.1 with
  |some (.cells (.iface T' (.ptr b 0)::_) t' _ _ _)=>Nat.beq T' T&&(Nat.beq t' t&&Nat.beq b e.2)
  |_=>false)&&Qc7 T t H l
theorem Q6m {T t:TypeId} {H:Tr Q8}:∀{l:List (Nat×Nat)},Qc7 T t H l=true->∀e∈l,∃r ex pl ro,H.get e.1=some (.cells (.iface T (.ptr e.2 0)::r) t ex pl ro)
 |[],_,e,he=>by cases he
 |a::l,h,e,he=>by simp only [Qc7,Bool.and_eq_true] at h;rcases List.mem_cons.1 he with rfl|he;obtain ⟨h1,-⟩:=h;split at h1;rename_i T' b r t' ex pl ro hg;simp only [Bool.and_eq_true,Nat.beq_eq] at h1;obtain ⟨rfl,rfl,rfl⟩:=h1;exact ⟨r,ex,pl,ro,hg⟩;cases h1;exact Q6m h.2 e he
noncomputable def Qh6:List AV->List Nat->Bool
 |_,[]=>true
 | .int .i64 (.lit (.ofNat m))::cs,n::l=>Nat.beq m n&&Qh6 cs l
 |_,_=>false
theorem Q0m:∀{cs:List AV} {l:List Nat},Qh6 cs l=true->l.length<=cs.length/\∀(i n:Nat),l[i]?=some n->cs[i]?=some (.int .i64 (.lit (.ofNat n)))
 |cs,[],_=>⟨by simp,λi n h=>by simp at h⟩
 |cs,n::l,h=>by
  unfold Qh6 at h;split at h;rename_i h1;cases h1;rename_i m cs' n' l' h1;cases h1;simp only [Bool.and_eq_true,Nat.beq_eq] at h;obtain ⟨rfl,h2⟩:=h;obtain ⟨h3,h4⟩:=Q0m h2;refine ⟨by simp;exact h3,λi k hk=>?_⟩;cases i with
  |zero=>simp at hk;subst hk;rfl
  |succ i=>simp at hk;simpa using h4 i k hk
  cases h
noncomputable def datB (H:Tr Q8) (d:List (Nat×TypeId×DV)):Bool:=
 d.all λq=>match q.2.2,H.get q.1 with
  | .nums l,some (.cells cs _ _ _ _)=>Qh6 cs l
  | .typ R b o,some (.cells (.iface R' (.agg [.ptr b' o'])::_) _ _ _ _)=>Nat.beq R' R&&(Nat.beq b' b&&Nat.beq o' o)
  |_,_=>false
theorem Q8k {X:Ext} {n0:Nat} {H:Tr Q8} {w:World} {E:Q7r} (hH:Qo X n0 H w) (hg:X.Ql E.ng) (hng:0<E.ng) (hB:Qc7 E.T E.t H E.l=true) (hD:datB H E.d=true) (hdn:∀q∈E.d,q.1<E.ng/\q.2.2.inB E.ng=true) (hin:∀e∈E.l,e.1<E.ng/\E.ng<=e.2/\e.2<E.ng+E.m):∃A N,Laid E A N w:=by
 have hsz:E.ng<=w.heap.size:=by obtain ⟨n,hn⟩:=hg (E.ng-1) (by omega);have:=hH.lt _ _ hn;simp only at this;omega
 refine ⟨λb=>match X.V b with|some p=>⟨p.blk,p.base,none⟩|none=>⟨0,0,none⟩,λb=>match X.V b with|some p=>p.n|none=>0,λe he=>?_,λb h1 h2=>?_,hsz,λq hq=>?_⟩;obtain ⟨i1,i2,i3⟩:=hin e he;obtain ⟨r,ex,pl,ro,hget⟩:=Q6m hB e he;obtain ⟨n,hn⟩:=hg e.1 i1;obtain ⟨c,fr,⟨el',b1,bel⟩,b2,b3,b4,b5,b6,b7⟩:=hH.obj _ _ _ hget hn;simp only at b1 b2 b3 b5 b6;obtain ⟨v,c1,c2⟩:=b5 0 _ rfl;simp only [AV.rel] at c2;obtain ⟨u,rfl,p,hp,rfl⟩:=c2;simp only [List.length_cons] at b3;refine ⟨i1,i2,i3,?_,?_,c,fr,el',b1,?_,?_⟩;simp only [hn];omega;simp only [hp];simp only [hn];exact b2;simp only [hp];simpa using c1;cases hp:X.V b with
 |some p=>simp only;exact hH.lt _ _ hp
 |none=>simp only;omega
 obtain ⟨hq1,hq2⟩:=hdn q hq;have hb:=List.all_eq_true.1 hD q hq;obtain ⟨g,t,dv⟩:=q;simp only at hq1 hq2 hb;split at hb;rename_i l cs el ex pl ro hget;obtain ⟨n,hn⟩:=hg g hq1;obtain ⟨c,fr,⟨el',b1,bel⟩,b2,b3,b4,b5,b6,b7⟩:=hH.obj _ _ _ hget hn;simp only at b1 b2 b3 b5 b6;obtain ⟨l1,l2⟩:=Q0m hb;refine ⟨hq1,c,fr,el',b1,?_,by omega,λi k hk=>?_⟩;simp only [hn];exact b2;obtain ⟨v,c1,c2⟩:=b5 i _ (l2 i k hk);simp only [AV.rel] at c2;obtain ⟨-,rfl⟩:=c2;simp only [Nat.zero_add] at c1;exact c1;rename_i R k o R' k' o' r el ex pl ro hget;simp only [Bool.and_eq_true,Nat.beq_eq] at hb;obtain ⟨rfl,rfl,rfl⟩:=hb;simp only [DV.inB,Nat.ble_eq] at hq2;obtain ⟨n,hn⟩:=hg g hq1;obtain ⟨n',hn'⟩:=hg k' (by omega);obtain ⟨c,fr,⟨el',b1,bel⟩,b2,b3,b4,b5,b6,b7⟩:=hH.obj _ _ _ hget hn;simp only at b1 b2 b3 b5 b6;obtain ⟨v,c1,c2⟩:=b5 0 _ rfl;simp only [AV.rel] at c2;obtain ⟨u,rfl,vs,rfl,c3⟩:=c2;obtain ⟨x,xs,e1,c5,c4⟩:=Q7.1 c3;simp only [AV.rel] at c5;obtain ⟨p,hp,rfl⟩:=c5;rw [hn'] at hp;cases hp;rw [rels_nil] at c4;subst c4;simp only [List.length_cons] at b3;refine ⟨hq1,c,fr,el',b1,?_,by omega,by omega,?_⟩;simp only [hn];exact b2;have:vs=#[.pointer (some ⟨k',o',none⟩)]:=by apply Array.ext';rw [e1];simp only [Nat.zero_add]
 rw [this] at c1;simpa using c1;cases hb
noncomputable def sumE (E:Q7r) (args:List Sp) (res:Sp):Sum:=λc H next as=>bif Qc7 E.T E.t H E.l&&datB H E.d then Qjc args res c H next as else .fail
noncomputable def Q7r.inB (E:Q7r):Bool:=(E.l.all λe=>Nat.ble (e.1+1) E.ng&&(Nat.ble E.ng e.2&&Nat.ble (e.2+1) (E.ng+E.m)))&&E.d.all λq=>Nat.ble (q.1+1) E.ng&&q.2.2.inB E.ng
theorem Qb8 {P:Program} {G:Env} {n0:Nat} (hng:0<G.T.ng) {f:FuncId} {args:List Sp} {res:Sp} {c:Ctx} {X:Ext} {H:Tr Q8} {next:Nat} {w:World} {as:List AV} {vs:Array Value} {r:SR}
 (h:Sp.Qcn args vs.toList->Calls P f vs w (λe w' =>∃u,e= .returned u/\res.has u/\Below w.heap.size w w')) (hr:Qjc args res c H next as= .ok r) (hc:c.okN X.dom X.O) (hg:X.Ql G.T.ng) (hH:Qo X n0 H w) (h0:n0<=w.heap.size) (hfr:∀b,next<=b->X.V b=none) (hargs:AV.QF X as vs.toList)
 (fr:Frame) (cs:List Frame):∃Y u w',Steps P (lone (Frame.enter P f vs .normal) (fr::cs) w) (lone (fr.finish u) cs w')/\X.le Y/\r.v.rel Y u/\Qo Y n0 r.H w' /\Below n0 w w' /\
  (∀b,X.V b=none->b<next->Y.V b=none/\r.H.get b=H.get b)/\next<=r.next/\(∀b,r.next<=b->Y.V b=none)/\r.ctx.okN Y.dom Y.O:=by
 unfold Qjc at hr;cases hk:Sp.jw c args as with
 |false=>rw [hk] at hr;cases hr
 |true=>
  rw [hk] at hr;simp only [cond_true] at hr;split at hr
  . rename_i q hq;cases hb:Qc5 H next q.next 64 with
    |false=>rw [hb] at hr;cases hr
    |true=>
     rw [hb] at hr;cases hr;have hfree:=Q0y hb;have hhas:=Sp.QT hc hk hargs;obtain ⟨u,w',⟨g2,g3⟩,g1⟩:=Ze (h hhas) fr cs;obtain ⟨n,hn⟩:=hg 0 hng;obtain ⟨Y,hN,hrel⟩:=Sp.Q2o (p:=⟨0,0,n⟩) hq g2 hfr;have h0' :(0:Nat)<w.heap.size:=by have:=hH.lt _ _ hn;simpa using this
     refine ⟨Y,u,w',g1,hN.le,hrel,?_,g3.mono h0,λb hb hlt=>⟨by rw [hN.old b hlt];exact hb,rfl⟩,hN.nm,hN.free,?_⟩
     . have hold:∀b o p,H.get b=some o->Y.V b=some p->X.V b=some p:=by
        intro b o p ho hp;by_cases h1:b<next
        rw [<-hN.old b h1];exact hp;by_cases h2:b<q.next;rw [hfree b (by omega) h2] at ho;cases ho;rw [hN.free b (by omega)] at hp;cases hp
       refine ⟨λb o p ho hp=>?_,λb b' o o' p p' ho ho' hl hl' hp hp' he=>hH.inj b b' o o' p p' ho ho' hl hl' (hold b o p ho hp) (hold b' o' p' ho' hp') he,λb p hp=>?_,λb o p ho hr hp=>hH.own b o p ho hr (hold b o p ho hp)⟩;have hp' :=hold b o p ho hp;rw [g3.block _ (hH.lt _ _ hp')];exact Zo hN.le (hH.obj b o p ho hp');refine Nat.lt_of_lt_of_le ?_ g3.size;by_cases h1:b<next
       exact hH.lt b p (by rw [<-hN.old b h1];exact hp);by_cases h2:b<q.next;rw [hN.new b (by omega) h2] at hp;cases hp;exact h0';rw [hN.free b (by omega)] at hp;cases hp
     refine ⟨λi hi=>?_,λfa hf=>?_⟩;rcases List.mem_append.1 hi with hi|hi;exact hN.vs i hi;exact hN.le.dom _ (hc.1 i hi);rcases List.mem_append.1 hf with hf|hf;exact hN.fs fa hf;exact Facts.Q3z hN.le.dom hN.le.O hc.2 fa hf
  cases hr
theorem Qjd {P:Program} {G:Env} {n0:Nat} {E:Q7r} (hE:E.ng=G.T.ng) (hng:0<E.ng) (hin:E.inB=true) {f:FuncId} {args:List Sp} {res:Sp} (h:Qlk P E f args res):ZO P G n0 f (sumE E args res):=by
 intro c X H next w as vs r hr hc hg hH h0 hfr hargs fr cs
 unfold sumE at hr;cases hB:(Qc7 E.T E.t H E.l&&datB H E.d) with
 |false=>rw [hB] at hr;cases hr
 |true=>
  rw [hB] at hr;simp only [cond_true] at hr;simp only [Bool.and_eq_true] at hB;unfold Q7r.inB at hin;rw [Bool.and_eq_true] at hin;have hin' :∀e∈E.l,e.1<E.ng/\E.ng<=e.2/\e.2<E.ng+E.m:=λe he=>by have:=List.all_eq_true.1 hin.1 e he;simp only [Bool.and_eq_true,Nat.ble_eq] at this;omega
  obtain ⟨A,N,hl⟩:=Q8k hH (by rw [hE];exact hg) hng hB.1 hB.2 (λq hq=>by have:=List.all_eq_true.1 hin.2 q hq;rw [Bool.and_eq_true,Nat.ble_eq] at this;exact ⟨by omega,this.2⟩) hin';exact Qb8 (by omega) (h w A N vs hl) hr hc hg hH h0 hfr hargs fr cs
end Go.Ax
namespace Go.Ax
open Go.RowKit
def spTy (P:Program) (u:TypeId):Option Sp:=
 match P.underlying u with
 |some (.int k)=>some (.int k k.min k.max)
 |some .string=>some (.str 9223372036854775807)
 |some .bool=>some .bool
 |_=>none
theorem Qkh {P:Program} {w:World} {r:_root_.Go.Reach} {base:Nat} {u:TypeId} {v:Value} {s:Sp} (h:Cell.okWide P w r base u v) (hs:spTy P u=some s):s.has v:=by unfold spTy at hs;unfold Cell.okWide at h;split at hs;rename_i k hk;cases hs;rw [hk] at h;simp only at h;unfold Cell.ok at h;rw [hk] at h;cases v<;>simp only at h;rename_i k' n;obtain ⟨rfl,h1,h2⟩:=h;simp only [Sp.has];exact ⟨n,rfl,h1,h2⟩;rename_i hk;cases hs;rw [hk] at h;simp only at h;unfold Cell.ok at h;rw [hk] at h;cases v<;>simp only at h;rename_i b;simp only [Sp.has];refine ⟨b,rfl,?_⟩;have:IntKind.i64.max=9223372036854775807:=rfl;omega;rename_i hk;cases hs;rw [hk] at h;simp only at h;unfold Cell.ok at h;rw [hk] at h;cases v<;>simp only at h;rename_i b;simp only [Sp.has];exact ⟨b,rfl⟩;cases hs
end Go.Ax
