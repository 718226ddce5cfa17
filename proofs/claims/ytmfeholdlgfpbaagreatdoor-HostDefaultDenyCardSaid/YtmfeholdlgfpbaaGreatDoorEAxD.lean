/-
 THE ABSTRACT EXECUTOR, 27: one operation of a statement. Conditions: none.
-/
import Derived.Test.YtmfeholdlgfpbaaGreatDoorEAxC
import Derived.Stop.Asserts
namespace Go.Ax
open Go.RowKit
structure Qj1 (P:Program) (G:Env) (n0:Nat) (w0:World) (cs0:List Frame) (X:Ext) (s:AM) (ops:List Oper) (o:Oper) (f:Frame) (cs:List Frame) (w:World):Prop where
 sus:Q2b P G X n0 s.H s.fr f
 at_:At G X s.fr f ops o
 all:Z0 P G X n0 s.H s.cs cs
 mem:Qq X n0 s.H w
 below:Below n0 w0 w
 n0:n0<=w.heap.size
 ctx:s.ctx.okN X.dom X.O
 Qo:X.Qo G.T.ng
 fresh:∀b,s.next<=b->X.V b=none
 ids:((s.fr::s.cs).flatMap Qm).Nodup/\∀b∈(s.fr::s.cs).flatMap Qm,b<s.next
section
variable {P:Program} {G:Env} {n0:Nat} {w0:World} {cs0:List Frame} {X:Ext} {s:AM} {m:Machine}
theorem Qdy (h:Sim P G n0 w0 cs0 X s m) (hret:s.fr.ret=false) {ops:List Oper} {k:Nat} {o:Oper} {rest:List Oper} (hc:s.fr.cur= .reg ops k (o::rest)):
 ∃f cs w,m=lone f (cs++cs0) w/\Qj1 P G n0 w0 cs0 X s ops o f cs w:=by
 obtain ⟨f,cs,w,rfl,hF,hall,hH,hB,h0⟩:=h.ex;obtain ⟨h1,h2⟩:=Qmu hF h.Qo hret hc;exact ⟨f,cs,w,rfl,h1,h2,hall,hH,hB,h0,h.ctx,h.Qo,h.fresh,h.ids⟩
theorem Qh1 (h:Sim P G n0 w0 cs0 X s m) (hret:s.fr.ret=false) {ops:List Oper} {done i:Nat} {rc:List Nat} {rest:List (Nat×List Nat)} {pa:List (Nat×Nat)} {o:Oper} (hc:s.fr.cur= .draw ops done ((i,rc)::rest) pa) (ho:ops[i]?=some o) (hcl:cls o.op=3):
 ∃Y f cs w,Steps P m (lone f (cs++cs0) w)/\X.le Y/\Qj1 P G n0 w0 cs0 Y s ops o f cs w:=by
 obtain ⟨f,cs,w,rfl,hF,hall,hH,hB,h0⟩:=h.ex;have hid:Qm s.fr=pa.map (·.2):=by unfold Qm;rw [hc]
 have hnd:=h.ids.1;rw [List.flatMap_cons,List.nodup_append] at hnd;obtain ⟨Y,f',w',r1,r2,r3,r4,r5,r6,r7,r8⟩:=Ql9 hF h.Qo hret hc ho hcl (by rw [<-hid];exact hnd.1) (cs:=cs++cs0) hH h0;refine ⟨Y,f',cs,w',r1,r2,r7,r8,Zb r2 hall λb hb hbn=>⟨r5 b hbn λhm=>?_,rfl⟩,r3,hB.trans r4,r6,Ctx.Q2d h.ctx r2,Ext.ZB h.Qo r2,λb hb=>r5 b (h.fresh b hb) λhm=>?_,h.ids⟩;exact hnd.2.2 b (by rw [hid];exact hm) b hb rfl;have:=h.ids.2 b (by rw [List.flatMap_cons,List.mem_append,hid];exact .inl hm);omega
theorem jf (hT:G.T.OK P) (hI:YL.OK P G.I) {ops:List Oper} {o:Oper} {f:Frame} {cs:List Frame} {w:World} (h:Qj1 P G n0 w0 cs0 X s ops o f cs w) {r:HR} {c' :Ctx} {fr' :Qg}
 (hr:∃Y u w',(Steps P (lone f (cs++cs0) w) (lone (f.finish u) (cs++cs0) w')/\X.le Y/\r.v.rel Y u/\Qq Y n0 r.H w' /\Below n0 w w' /\
  (∀b,X.V b=none->b<s.next->Y.V b=none/\r.H.get b=s.H.get b)/\s.next<=r.next/\∀b,r.next<=b->Y.V b=none)/\c'.okN Y.dom Y.O)
 (hf:Ya G c' r.H s.fr r.v=some fr'):∃Y m',Steps P (lone f (cs++cs0) w) m' /\X.le Y/\Sim P G n0 w0 cs0 Y { s with fr:=fr',H:=r.H,next:=r.next,ctx:=c' } m' :=by
 obtain ⟨Y,u,w',⟨h1,h2,h3,h4,h5,h6,h7,h8⟩,h9⟩:=hr;have hids:∀b∈(s.fr::s.cs).flatMap Qm,X.V b=none->Y.V b=none/\r.H.get b=s.H.get b:=λb hb hbn=>h6 b hbn (h.ids.2 b hb)
 have hs:=h.sus.mono h2 (H' :=r.H) λb hb=>hids b (by rw [List.flatMap_cons,List.mem_append];exact .inl hb)
 obtain ⟨k1,k2⟩:=JH hT hI h9 hs hf h3;refine ⟨Y,_,h1,h2,⟨f.finish u,cs,w',rfl,k1,Zb h2 h.all λb hb=>hids b (by rw [List.flatMap_cons,List.mem_append];exact .inr hb),h4,h.below.trans h5,Nat.le_trans h.n0 h5.size⟩,h9,Ext.ZB h.Qo h2,h8,?_⟩;have he:(fr' ::s.cs).flatMap Qm=(s.fr::s.cs).flatMap Qm:=by rw [List.flatMap_cons,List.flatMap_cons,k2]
 simp only [he];exact ⟨h.ids.1,λb hb=>Nat.lt_of_lt_of_le (h.ids.2 b hb) h7⟩
theorem Qbm (hT:G.T.OK P) (hI:YL.OK P G.I) {ops:List Oper} {o:Oper} {f:Frame} {cs:List Frame} {w:World} (h:Qj1 P G n0 w0 cs0 X s ops o f cs w) {r:HR} (hw:QI ops s.fr.tm o=true) (hd:∀c,o.op≠ .defer c)
 (hr:HSN P X n0 s.H s.next w (execOp (evC f.tmps) o) r) {s' :AM} (hf:advance G s r= .next s'):∃Y m',Steps P (lone f (cs++cs0) w) m' /\X.le Y/\Sim P G n0 w0 cs0 Y s' m' :=by
 unfold advance at hf;split at hf;rename_i fr' hfin;cases hf;obtain ⟨A,i,l,is,hA,hm,ht,ho,hops,hwant⟩:=h.at_;obtain ⟨Y,u,w',h1,h2⟩:=hr;refine jf hT hI h (c' :=s.ctx) ⟨Y,u,w',⟨?_,h2⟩,Ctx.Q2d h.ctx h2.1⟩ hfin
 replace hwant:=hwant (Q21 hw)
 rw [hw] at hwant;rcases h1 with h1|⟨h1,rfl⟩;exact .one (zA hm ht ho hwant hd h1)
 exact .one (Qc4 hm ht ho hwant hd h1)
 cases hf
theorem Qbl (hT:G.T.OK P) (hI:YL.OK P G.I) {ops:List Oper} {o:Oper} {f:Frame} {cs:List Frame} {w:World} (h:Qj1 P G n0 w0 cs0 X s ops o f cs w) (hw:QI ops s.fr.tm o=false) (hk:yE ops s.fr.tm o=true)
 {s' :AM} (hf:advance G s ⟨.undef,s.H,s.next⟩= .next s'):∃Y m',Steps P (lone f (cs++cs0) w) m' /\X.le Y/\Sim P G n0 w0 cs0 Y s' m' :=by
 unfold advance at hf;split at hf;rename_i fr' hfin;cases hf;obtain ⟨A,i,l,is,hA,hm,ht,ho,hops,hwant⟩:=h.at_
 replace hwant:=hwant hk
 rw [hw] at hwant;exact jf hT hI h (c' :=s.ctx) ⟨X,undef,w,⟨.one (Q62 hm ht ho hwant),Ext.le.refl X,Qw X,h.mem,Below.refl _ _,λb hb _=>⟨hb,rfl⟩,Nat.le_refl _,h.fresh⟩,h.ctx⟩ hfin;cases hf
def ZL (P:Program) (G:Env) (n0:Nat) (f:FuncId) (S:Ctx->Tr Q7->Nat->List AV->D SR):Prop:=
 ∀(c:Ctx) (X:Ext) (H:Tr Q7) (next:Nat) (w:World) (args:List AV) (vs:Array Value) (r:SR),S c H next args= .ok r->c.okN X.dom X.O->X.Qo G.T.ng->Qq X n0 H w->n0<=w.heap.size->(∀b,next<=b->X.V b=none)->AV.QH X args vs.toList->
  ∀(fr:Frame) (cs:List Frame),∃Y u w',Steps P (lone (Frame.enter P f vs .normal) (fr::cs) w) (lone (fr.finish u) cs w')/\X.le Y/\r.v.rel Y u/\Qq Y n0 r.H w' /\Below n0 w w' /\
   (∀b,X.V b=none->b<next->Y.V b=none/\r.H.get b=H.get b)/\next<=r.next/\(∀b,r.next<=b->Y.V b=none)/\r.ctx.okN Y.dom Y.O
def Qoq (P:Program) (G:Env) (n0:Nat) (f:FuncId) (S:Ctx->Tr Q7->Nat->List AV->D SR):Prop:=
 ∀(c:Ctx) (X:Ext) (H:Tr Q7) (next:Nat) (w:World) (args:List AV) (vs:Array Value) (r:SR),S c H next args= .ok r->c.okN X.dom X.O->X.Qo G.T.ng->Qq X n0 H w->n0<=w.heap.size->(∀b,next<=b->X.V b=none)->AV.QH X args vs.toList->
  ∃Y u w',(callFunc f vs).run P w= .ok (.value u) w' /\X.le Y/\r.v.rel Y u/\Qq Y n0 r.H w' /\Below n0 w w' /\
   (∀b,X.V b=none->b<next->Y.V b=none/\r.H.get b=H.get b)/\next<=r.next/\(∀b,r.next<=b->Y.V b=none)/\r.ctx.okN Y.dom Y.O
def Qoo (P:Program) (G:Env) (n0:Nat) (f:FuncId) (S:Ctx->Tr Q7->Nat->List AV->D SR):Prop:=(ZL P G n0 f S/\∀args w,(callFunc f args).run P w= .ok (.enter f args) w)\/Qoq P G n0 f S
theorem Ja {X:Ext}:∀{as:List AV} (i:Nat) (tm:Tr AV) (t:Nat),(setArgs i as tm).get t=if t<i then tm.get t else match as[t-i]? with|some a=>some a|none=>tm.get t
 |[],i,tm,t=>by simp [setArgs]
 |a::as,i,tm,t=>by
  simp only [setArgs,sNat_eq];rw [Ja (X:=X) (i+1) (tm.set i a) t];by_cases h1:t<i;rw [if_pos (by omega),if_pos h1,Tr.Q0 _ _ (by omega)];rw [if_neg h1];by_cases h2:t=i;subst h2;rw [if_pos (by omega)];simp;rw [if_neg (by omega),Tr.Q0 _ _ h2];have:t-i=(t-(i+1))+1:=by omega
  rw [this];simp
theorem Q4w {X:Ext} {as:List AV} {vs:Array Value} {k:Nat} (h:AV.QH X as vs.toList):QC X (max as.length k) (setArgs 0 as (.sk (max as.length k))) (vs++Array.replicate (k-vs.size) undef):=by
 have hl:as.length=vs.size:=by simpa using Qe h
 refine ⟨by simp;omega,λt=>?_⟩;rw [Ja (X:=X) 0 (.sk (max as.length k)) t];simp only [Nat.not_lt_zero,if_false,Nat.sub_zero];cases ha:as[t]? with
 |some a=>
  obtain ⟨v,hv,hr⟩:=Yh h ha;have hlt:t<vs.size:=by rw [<-hl];exact (List.getElem?_eq_some_iff.1 ha).1
  have:(vs++Array.replicate (k-vs.size) undef).getD t undef=v:=by rw [Array.getD_eq_getD_getElem?,Array.getElem?_append_left hlt,<-Array.getElem?_toList,hv];rfl
  rw [this];exact hr
 |none=>
  have hge:vs.size<=t:=by rw [<-hl];exact List.getElem?_eq_none_iff.1 ha
  have:(vs++Array.replicate (k-vs.size) undef).getD t undef=undef:=by rw [Array.getD_eq_getD_getElem?,Array.getElem?_append_right hge,Array.getElem?_replicate];split<;>rfl
  rw [this];simpa using Qw X
theorem Q1p (hT:G.T.OK P) {f:FuncId} {args:List AV} {caller:Qg} {s' :AM} (h:Jw G s f args caller= .next s') {vs:Array Value} {fr:Frame} {cs:List Frame} {w:World}
 (hargs:AV.QH X args vs.toList) (hsus:Q2b P G X n0 s.H caller fr) (hall:Z0 P G X n0 s.H s.cs cs) (hH:Qq X n0 s.H w) (hB:Below n0 w0 w) (h0:n0<=w.heap.size) (hc:s.ctx.okN X.dom X.O) (hg:X.Qo G.T.ng) (hfr:∀b,s.next<=b->X.V b=none)
 (hid:((caller::s.cs).flatMap Qm).Nodup/\∀b∈(caller::s.cs).flatMap Qm,b<s.next):Sim P G n0 w0 cs0 X s' (lone (Frame.enter P f vs .normal) (fr::cs++cs0) w):=by
 unfold Jw at h;split at h;cases h;rename_i fn hfn;split at h;cases h;rename_i c hb;simp only [sNat_eq] at h;cases h;have hP:=(hT.funcs f fn hfn).1
 refine ⟨⟨Frame.enter P f vs .normal,fr::cs,w,rfl,⟨⟨rfl,rfl,rfl,rfl⟩,rfl,[.code c],⟨_,_,rfl,rfl,rfl⟩,?_,?_⟩,⟨fr,cs,rfl,hsus,hall⟩,hH,hB,h0⟩,hc,hg,hfr,?_⟩;simp [Frame.enter,hP,hb];have:=Q4w (k:=fn.ntmps) hargs;simpa [Frame.enter,hP] using this;simpa [Qm] using hid
end
end Go.Ax
namespace Go.Ax
open Go.RowKit
def ZE (P:Program) (G:Env) (n0:Nat):Prop:=∀f S,G.sums f=some S->Qoo P G n0 f S
theorem zR {name:String} {m:Method}:∀{ms:List Method},methodOf name ms=some m->ms.find? (·.name==name)=some m
 |[],h=>by simp [methodOf] at h
 |x::ms,h=>by
  simp only [methodOf] at h;by_cases hx:x.name=name;rw [if_pos hx] at h;cases h;simp [hx];rw [if_neg hx] at h;have:(x.name==name)=false:=by simpa using hx
  simp [this,zR h]
section
variable {P:Program} {G:Env} {n0:Nat} {w0:World} {cs0:List Frame} {X:Ext} {s:AM}
theorem Q3n (hT:G.T.OK P) (hI:YL.OK P G.I) (hS:ZE P G n0) {ops:List Oper} {o:Oper} {f:Frame} {cs:List Frame} {w:World} (h:Qj1 P G n0 w0 cs0 X s ops o f cs w) (hw:QI ops s.fr.tm o=true) (hd:∀c,o.op≠ .defer c)
 {k:FuncId} {args:List AV} {vs:Array Value} (hargs:AV.QH X args vs.toList) (hr:(execOp (evC f.tmps) o).run P w=(callFunc k vs).run P w) {s' :AM} (hc:Qiy G s k args= .next s'):
 ∃Y m',Steps P (lone f (cs++cs0) w) m' /\X.le Y/\Sim P G n0 w0 cs0 Y s' m' :=by
 obtain ⟨A,i,l,is,hA,hm,ht,ho,hops,hwant⟩:=h.at_
 replace hwant:=hwant (Q21 hw)
 rw [hw] at hwant;have enter:∀{s' :AM},Jw G s k args s.fr= .next s' ->∃Y m',Steps P (lone f (cs++cs0) w) m' /\X.le Y/\Sim P G n0 w0 cs0 Y s' m' :=by
  intro s' hc;have hrun:(execOp (evC f.tmps) o).run P w= .ok (.enter k vs) w:=by rw [hr];unfold Jw at hc;split at hc;cases hc;rename_i fn hfn;exact (hT.funcs k fn hfn).2 vs w
  exact ⟨X,_, .one (Q2q hm ht ho hwant hd hrun),Ext.le.refl X,Q1p hT hc hargs h.sus h.all h.mem h.below h.n0 h.ctx h.Qo h.fresh h.ids⟩
 unfold Qiy at hc;split at hc
 . rename_i S hSk;split at hc
   . rename_i r hr';split at hc
     . rename_i fr hfin;cases hc;rcases hS k S hSk with ⟨hsum,hcall⟩|hext
       case inr=>obtain ⟨Y,u,w',g1,g2,g3,g4,g5,g6,g7,g8,g9⟩:=hext s.ctx X s.H s.next w args vs r hr' h.ctx h.Qo h.mem h.n0 h.fresh hargs;exact jf hT hI h (r:=⟨r.v,r.H,r.next⟩) (c' :=r.ctx) ⟨Y,u,w',⟨.one (zA hm ht ho hwant hd (hr.trans g1)),g2,g3,g4,g5,g6,g7,g8⟩,g9⟩ hfin
       obtain ⟨Y,u,w',g1,g2,g3,g4,g5,g6,g7,g8,g9⟩:=hsum s.ctx X s.H s.next w args vs r hr' h.ctx h.Qo h.mem h.n0 h.fresh hargs f (cs++cs0);have hrun:(execOp (evC f.tmps) o).run P w= .ok (.enter k vs) w:=by rw [hr];exact hcall vs w
       exact jf hT hI h (r:=⟨r.v,r.H,r.next⟩) (c' :=r.ctx) ⟨Y,u,w',⟨.head (Q2q hm ht ho hwant hd hrun) g1,g2,g3,g4,g5,g6,g7,g8⟩,g9⟩ hfin
     cases hc
   cases hc;exact enter hc
 exact enter hc
theorem Jz {X:Ext} {nt:Nat}:∀{ps:List Nat} {as:List AV} {vs:List Value} {tm:Tr AV} {tmps:Array Value},AV.QH X as vs->QC X nt tm tmps->QC X nt (YQ.setParams ps as tm nt) ((ps.zip vs).foldl (λtmps (p:Nat×Value)=>tmps.setIfInBounds p.1 p.2) tmps)
 |[],_,_,tm,tmps,_,ht=>by simp only [YQ.setParams];exact ht
 |_::_,[],vs,tm,tmps,hv,ht=>by rw [rels_nil.1 hv];simp only [YQ.setParams];exact ht
 |_::_,_::_,[],_,_,hv,_=>absurd hv not_rels_cons_nil
 |p::ps,a::as,v::vs,tm,tmps,hv,ht=>by
  simp only [rels_cons_cons] at hv;simp only [YQ.setParams,List.zip_cons_cons,List.foldl_cons];cases hb:Nat.blt p nt with
  |true=>
   simp only [cond_true];have hlt:p<nt:=by simpa using hb
   refine Jz hv.2 ⟨by simpa using ht.1,λt=>?_⟩;by_cases e:t=p;subst e;rw [Tr.get_set_same];have:(tmps.setIfInBounds t v).getD t undef=v:=by
    rw [Array.getD_eq_getD_getElem?];have:t<tmps.size:=by rw [ht.1];exact hlt
    simp [this]
   rw [this];exact hv.1;rw [Tr.Q0 _ _ e];have:(tmps.setIfInBounds p v).getD t undef=tmps.getD t undef:=by rw [Array.getD_eq_getD_getElem?,Array.getElem?_setIfInBounds_ne (λh=>e h.symm),<-Array.getD_eq_getD_getElem?]
   rw [this];exact ht.2 t
  |false=>
   simp only [cond_false];have hge:nt<=p:=by
    have:¬p<nt:=λhl=>by
     have:Nat.blt p nt=true:=by simpa using hl
     rw [this] at hb;cases hb
    omega
   have:tmps.setIfInBounds p v=tmps:=by apply Array.ext_getElem?;intro i;rw [Array.getElem?_setIfInBounds];have hs:=ht.1;split;rename_i e;subst e;rw [if_neg (by omega),Array.getElem?_eq_none (by omega)];rfl
   rw [this];exact Jz hv.2 ht
theorem Q7i (hT:G.T.OK P) (hI:YL.OK P G.I) (hS:ZE P G n0) {ops:List Oper} {o:Oper} {f:Frame} {cs:List Frame} {w:World} (h:Qj1 P G n0 w0 cs0 X s ops o f cs w) (hw:QI ops s.fr.tm o=true)
 {cl:Call} (hop:o.op= .call cl) {s' :AM} (hc:YQ G s (ev G.T.ng s.fr.tm) cl= .next s'):∃Y m',Steps P (lone f (cs++cs0) w) m' /\X.le Y/\Sim P G n0 w0 cs0 Y s' m' :=by
 obtain ⟨A,i,l,is,hA,hm,ht,ho,hops,hwant⟩:=h.at_;have hd:∀c,o.op≠ .defer c:=λc e=>by rw [hop] at e;cases e
 have hex:execOp (evC f.tmps) o=(do let d <-resolve (evC f.tmps) cl o.type;invoke d.target d.args):=by unfold execOp;rw [hop]
 rw [hop] at hops;simp only [Op.operands] at hops;unfold YQ at hc;split at hc;cases hc;rename_i args hargs';have hrel:AV.QH X args (cl.args.map (evC f.tmps)).toList:=by rw [Array.toList_map];refine JY (λx hx a ha=>hops x ?_ a ha) hargs';obtain ⟨callee,as,ats⟩:=cl;cases callee<;>simp [Call.operands]<;>simp_all
 split at hc;cases hc;rename_i x hcal;have hx:∀a,ev G.T.ng s.fr.tm x=some a->a.rel X (evC f.tmps x):=λa ha=>by refine hops x ?_ a ha;obtain ⟨callee,as,ats⟩:=cl;simp only at hcal;subst hcal;simp [Call.operands]
 have hres:∀ty,resolve (evC f.tmps) cl ty=Deferred.ofValue (evC f.tmps x) (cl.args.map (evC f.tmps)):=λty=>by unfold resolve;rw [hcal]
 split at hc;rename_i k first captured hv
 have hr:=hx _ hv;simp only [AV.rel] at hr;obtain ⟨as',cs',he,h1,h2⟩:=hr;refine Q3n hT hI hS h hw hd (vs:=as' ++cl.args.map (evC f.tmps)++cs') ?_ ?_ hc;rw [Array.toList_append,Array.toList_append];exact Zv (Zv h1 hrel) h2;rw [hex,hres,he];simp [Deferred.ofValue,invoke];rename_i lp hv;have hr:=hx _ hv;simp only [AV.rel] at hr;obtain ⟨p,hp,he⟩:=hr;split at hc;rename_i st pending fn nt tm params assign body d hlp;cases hb:Nat.beq args.length params.size with
 |false=>rw [hb] at hc;cases hc
 |true=>
  rw [hb] at hc;simp only [cond_true,Res.next.injEq] at hc;subst hc;obtain ⟨tmps,d',h1,h2,q,hq,hdq⟩:=h.mem.obj _ _ p hlp hp;have hsz:(cl.args.map (evC f.tmps)).size=params.size:=by
   have:=Qe hrel;have h3:args.length=params.size:=by simpa using hb
   simp only [Array.length_toList] at this;omega
  have hg:=Qk (P:=P) h1 (by simp);have hrun:(execOp (evC f.tmps) o).run P w= .ok (.round p.blk fn ((params.zip (cl.args.map (evC f.tmps))).foldl (λtmps (t,a)=>tmps.setIfInBounds t a) tmps) assign body) w:=by
   rw [hex,hres,he];have hsz' :cl.args.size=params.size:=by simpa using hsz
   simp [Deferred.ofValue,invoke,Instr.yield,Instr.getLoop,hg,hsz']
  have htm:QC X nt (YQ.setParams params.toList args tm nt) ((params.zip (cl.args.map (evC f.tmps))).foldl (λtmps (t,a)=>tmps.setIfInBounds t a) tmps):=by have:=Jz (nt:=nt) (ps:=params.toList) hrel h2;rw [<-Array.foldl_toList,Array.toList_zip];exact this
  replace hwant:=hwant (Q21 hw)
  rw [hw] at hwant;refine ⟨X,_, .one (Qc5 hm ht ho hwant hd hrun),Ext.le.refl X,⟨_,f::cs,w,rfl,⟨⟨rfl,rfl,⟨p,hp,rfl⟩,rfl⟩,rfl,[.code assign, .beginRound, .code body],⟨_,_,rfl,rfl,_,_,rfl,rfl,_,_,rfl,rfl,rfl⟩,rfl,htm⟩,⟨f,cs,rfl,h.sus,h.all⟩,h.mem,h.below,h.n0⟩,h.ctx,h.Qo,h.fresh,?_⟩;simpa [Qm] using h.ids
 cases hc;cases hc;rename_i r name hcal;have hx:∀a,ev G.T.ng s.fr.tm r=some a->a.rel X (evC f.tmps r):=λa ha=>by refine hops r ?_ a ha;obtain ⟨callee,as,ats⟩:=cl;simp only at hcal;subst hcal;simp [Call.operands]
 have hres:∀ty,resolve (evC f.tmps) cl ty=pure { target:= .fn (.method name) #[],args:=#[evC f.tmps r]++cl.args.map (evC f.tmps)}:=λty=>by unfold resolve;rw [hcal]
 split at hc;rename_i t v hv;have hr:=hx _ hv;simp only [AV.rel] at hr;obtain ⟨u,he,hu⟩:=hr;split at hc;rename_i ti hti;split at hc;rename_i mm elem hmeth hdesc;cases hpe:mm.path.isEmpty with
 |false=>rw [hpe] at hc;cases hc
 |true=>
  rw [hpe] at hc;simp only [cond_true] at hc;split at hc;rename_i k hfun;obtain ⟨ii,hi1,_,_,_,hi5⟩:=Tab.YC hT hti w;have hund:=Tab.Qf hT hti w;have hfind:ii.methods.find? (·.name==name)=some mm:=by rw [hi5,<-Array.find?_toList];exact zR hmeth
  refine Q3n hT hI hS h hw hd (vs:=#[u]++cl.args.map (evC f.tmps)) ?_ ?_ hc
  rw [Array.toList_append];exact ⟨u,_,rfl,hu,hrel⟩;rw [hex,hres,he];have hpath:mm.path.toList=[]:=by
   have:mm.path=#[]:=by simpa using hpe
   rw [this]
  obtain ⟨dm,hdm⟩:∃n,P.types.size+Made.depth=n+1:=⟨P.types.size+Made.depth-1,by have:0<Made.depth:=by decide
                                                                                omega⟩
  have hm1:(method (P.types.size+Made.depth) t u name).run P w= .ok (k,u) w:=by rw [hdm];simp [method,hi1,hfind,hpath,follow,hfun,receiverAt,hund,hdesc,Place.get]
  have hext:(#[Value.iface t u]++cl.args.map (evC f.tmps)).extract 1 (#[Value.iface t u]++cl.args.map (evC f.tmps)).size=cl.args.map (evC f.tmps):=by apply Array.ext';simp [Array.toList_extract,List.extract];exact List.take_of_length_le (by simp)
  have h0:(#[Value.iface t u]++cl.args.map (evC f.tmps))[0]?=some (Value.iface t u):=by rw [Array.getElem?_append_left (by simp)];rfl
  simp only [Sem.run_bind,Sem.run_pure,Result.andThen_ok,invoke,h0,hext,callMethod];simp [hm1];cases hc
 cases hc;cases hc;cases hc
theorem Q9d (hT:G.T.OK P) (hI:YL.OK P G.I) {ops:List Oper} {o:Oper} {f:Frame} {cs:List Frame} {w:World} (h:Qj1 P G n0 w0 cs0 X s ops o f cs w) (hw:QI ops s.fr.tm o=true)
 {cl:Call} (hop:o.op= .defer cl) {s' :AM} (hc:jg G s (ev G.T.ng s.fr.tm) cl= .next s'):∃Y m',Steps P (lone f (cs++cs0) w) m' /\X.le Y/\Sim P G n0 w0 cs0 Y s' m' :=by
 obtain ⟨A,i,l,is,hA,hm,ht,ho,hops,hwant⟩:=h.at_
 replace hwant:=hwant (Q21 hw)
 rw [hw] at hwant;rw [hop] at hops;simp only [Op.operands] at hops;unfold jg at hc;split at hc;rename_i x hcal;have hx:∀a,ev G.T.ng s.fr.tm x=some a->a.rel X (evC f.tmps x):=λa ha=>by refine hops x ?_ a ha;obtain ⟨callee,as,ats⟩:=cl;simp only at hcal;subst hcal;simp [Call.operands]
 split at hc;rename_i k first captured hv
 have hr:=hx _ hv;simp only [AV.rel] at hr;obtain ⟨as',cs',he,h1,h2⟩:=hr;cases hb:G.T.nops.any (Nat.beq k) with
 |false=>rw [hb] at hc;cases hc
 |true=>
  rw [hb] at hc;simp only [cond_true] at hc;split at hc;rename_i hro;split at hc;rename_i fr hfin;cases hc;have hn:Q3z P k:=hT.nops k (any_beq hb);have hfro:f.roundOf=none:=by have:=h.sus.1.ro;rw [hro] at this;exact this
  have hrun:(execOp (evC f.tmps) o).run P w= .ok (.defer { target:= .fn (.func k) cs',args:=as' ++cl.args.map (evC f.tmps)}) w:=by unfold execOp;rw [hop];simp only [resolve,hcal,he,Deferred.ofValue];rfl
  have hs:Q2b P G X n0 s.H { s.fr with defers:= .nop k::s.fr.defers} { f with defers:={ target:= .fn (.func k) cs',args:=as' ++cl.args.map (evC f.tmps)}::f.defers}:=by obtain ⟨g1,g2⟩:=h.sus;exact ⟨⟨g1.fn,g1.kind,g1.ro,hn,_,_,_,rfl,g1.defers⟩,g2⟩
  obtain ⟨k1,k2⟩:=JH hT hI h.ctx hs hfin (Qw X);refine ⟨X,_, .one (Qgy hm ht ho hwant hfro hrun),Ext.le.refl X,⟨_,cs,w,rfl,k1,h.all,h.mem,h.below,h.n0⟩,h.ctx,h.Qo,h.fresh,?_⟩;have he:(fr::s.cs).flatMap Qm=(s.fr::s.cs).flatMap Qm:=by rw [List.flatMap_cons,List.flatMap_cons,k2];rfl
  simp only [he];exact h.ids;cases hc;cases hc
 cases hc;cases hc
end
end Go.Ax
namespace Go.Ax
open Go.RowKit
section
variable {P:Program} {G:Env} {n0:Nat} {w0:World} {cs0:List Frame} {X:Ext} {s:AM} {m:Machine}
structure Q5r (P:Program) (G:Env) (n0:Nat) (w0:World) (cs0:List Frame) (X:Ext) (s:AM) (f:Frame) (is:List Item) (cs:List Frame) (w:World):Prop where
 base:jV P X s.fr f
 mode:f.mode= .run
 ret:s.fr.ret=false
 cur:s.fr.cur= .none
 todo:f.todo=is
 items:Yj X s.fr.todo is
 tm:QC X s.fr.nt s.fr.tm f.tmps
 all:Z0 P G X n0 s.H s.cs cs
 mem:Qq X n0 s.H w
 below:Below n0 w0 w
 n0:n0<=w.heap.size
 ctx:s.ctx.okN X.dom X.O
 Qo:X.Qo G.T.ng
 fresh:∀b,s.next<=b->X.V b=none
 ids:((s.fr::s.cs).flatMap Qm).Nodup/\∀b∈(s.fr::s.cs).flatMap Qm,b<s.next
theorem Qh0 (h:Sim P G n0 w0 cs0 X s m) (hret:s.fr.ret=false) (hc:s.fr.cur= .none):∃f is cs w,m=lone f (cs++cs0) w/\Q5r P G n0 w0 cs0 X s f is cs w:=by obtain ⟨f,cs,w,rfl,hF,hall,hH,hB,h0⟩:=h.ex;obtain ⟨hb,h'⟩:=hF;rw [hret] at h';simp only at h';obtain ⟨hm,is,his,h'⟩:=h';rw [hc] at h';exact ⟨f,is,cs,w,rfl,hb,hm,hret,hc,h'.1,his,h'.2,hall,hH,hB,h0,h.ctx,h.Qo,h.fresh,h.ids⟩
theorem Qz {a:Qg} (h:a.cur= .none):Qm a=[]:=by unfold Qm;rw [h]
theorem Q5r.go {f:Frame} {is:List Item} {cs:List Frame} {w:World} (h:Q5r P G n0 w0 cs0 X s f is cs w) {k:List Qj} {is' :List Item} (hk:Yj X k is'):Sim P G n0 w0 cs0 X { s with fr:={ s.fr with todo:=k}} (lone { f with todo:=is' } (cs++cs0) w):=by have hi:=h.ids;rw [List.flatMap_cons,Qz h.cur] at hi;refine ⟨⟨_,cs,w,rfl,⟨⟨h.base.fn,h.base.kind,h.base.ro,h.base.defers⟩,?_⟩,h.all,h.mem,h.below,h.n0⟩,h.ctx,h.Qo,h.fresh,?_⟩;simp only [h.ret,h.cur];exact ⟨h.mode,is',hk,rfl,h.tm⟩;simp only;rw [List.flatMap_cons,Qz (show ({ s.fr with todo:=k}:Qg).cur= .none from h.cur)];exact hi
theorem Q5r.write {f:Frame} {is:List Item} {cs:List Frame} {w:World} (h:Q5r P G n0 w0 cs0 X s f is cs w) {b:Nat} {o o' :Q7} {p:Place} (hb:s.H.get b=some o) (hl:o.rw=true) (hp:X.V b=some p) {ob:Obj} (hr:ji X o' p (some ob)):
 Q5r P G n0 w0 cs0 X { s with H:=s.H.set b o' } f is cs { w with heap:=w.heap.setIfInBounds p.blk ob}:=by
 have hown:=h.mem.own b o p hb hl hp;exact ⟨h.base,h.mode,h.ret,h.cur,h.todo,h.items,h.tm,Zb (Ext.le.refl X) h.all λc _ hcn=>⟨hcn,Tr.Q0 _ _ (QZ hp hcn)⟩,h.mem.setObj hb hl hp ob hr,h.below.trans ⟨rfl,rfl,rfl,by simp,λk hk=>by simp only [Array.getElem?_setIfInBounds];rw [if_neg (by omega)]⟩,by simpa using h.n0,h.ctx,h.Qo,h.fresh,h.ids⟩
theorem Q3t (hT:G.T.OK P) (hI:YL.OK P G.I) {c:Ctx} {H:Tr Q7} {next:Nat} {a a' :Qg} {as:List Qg} {cs:List Frame} {w:World} (hall:Z0 P G X n0 H (a::as) cs) (hH:Qq X n0 H w) (hB:Below n0 w0 w) (h0:n0<=w.heap.size) (hc:c.okN X.dom X.O) (hg:X.Qo G.T.ng)
 (hfr:∀b,next<=b->X.V b=none) (hid:((a::as).flatMap Qm).Nodup/\∀b∈(a::as).flatMap Qm,b<next) {v:AV} {u:Value} (hf:Ya G c H a v=some a') (hr:v.rel X u):
 ∃f fs,cs=f::fs/\Sim P G n0 w0 cs0 X ⟨a',as,H,next,c⟩ (lone (f.finish u) (fs++cs0) w):=by
 obtain ⟨f,fs,rfl,h1,h2⟩:=hall;obtain ⟨k1,k2⟩:=JH hT hI hc h1 hf hr;refine ⟨f,fs,rfl,⟨_,fs,w,rfl,k1,h2,hH,hB,h0⟩,hc,hg,hfr,?_⟩;have he:(a' ::as).flatMap Qm=(a::as).flatMap Qm:=by rw [List.flatMap_cons,List.flatMap_cons,k2]
 simp only [he];exact hid
def stOf (j:Option Code):LoopState:=match j with|none=> .ready|some _=> .done
def bOf (j:Option Code):Bool:=match j with|none=>true|some _=>false
theorem Q2g (hT:G.T.OK P) (hI:YL.OK P G.I) {f:Frame} {is:List Item} {cs:List Frame} {w:World} (h:Q5r P G n0 w0 cs0 X s f is cs w) {l:Nat} (hro:s.fr.ro=some l) {j:Option Code} {k:List Item}
 (hj:(is=[]/\j=none)\/(is= .code .ret::k/\j=some .ret)\/(∃i,is= .code (.exit i)::k/\exitTo i k=none/\j=some (.exit i))\/(∃i,is= .code (.goto i)::k/\gotoIn i k=none/\j=some (.goto i)))
 {s' :AM} (hc:Q26 G s l j= .next s'):∃Y m',Steps P (lone f (cs++cs0) w) m' /\X.le Y/\Sim P G n0 w0 cs0 Y s' m' :=by
 have hbro:=h.base.ro;rw [hro] at hbro;obtain ⟨p,hp,hfro⟩:=hbro;unfold Q26 at hc;split at hc;rename_i st pd fn nt tm params assign body d hl;obtain ⟨tmps,d',h1,h2,q,hq,hdq⟩:=h.mem.obj _ _ p hl hp;have hg:=Qk (P:=P) h1 (by simp);have hset:∀o',(setObj p.blk o').run P w= .ok () { w with heap:=w.heap.setIfInBounds p.blk o' }:=λo' =>Z6 (P:=P) h1 (by simp)
 simp only at hc;split at hc;cases hc;rename_i c as hcs;have hW:=h.write (o' := .loop (stOf j) j fn nt tm params assign body d) hl rfl hp ⟨tmps,d',rfl,h2,q,hq,hdq⟩;have hrun:(Instr.endRound p.blk j).run P w= .ok (.bool j.isNone) { w with heap:=w.heap.setIfInBounds p.blk (.loop { state:=stOf j,pending:=j,fn,tmps,params,assign,body,defers:=d' })}:=by cases j<;>simp [Instr.endRound,Instr.getLoop,hg,hset,stOf]
 split at hc;rename_i fr hfin;cases hc;have hall:=hW.all;simp only [hcs] at hall;have hid:=hW.ids;simp only [hcs] at hid;rw [List.flatMap_cons,Qz h.cur,List.nil_append] at hid;obtain ⟨cf,fs,e,hsim⟩:=Q3t (w0:=w0) (cs0:=cs0) (u:= .bool j.isNone) (v:= .bool (bOf j)) hT hI hall hW.mem hW.below hW.n0 h.ctx h.Qo h.fresh hid hfin (by cases j<;>rfl);subst e;refine ⟨X,_, .one (Q45 h.mode h.base.kind hfro (by rw [h.todo];exact hj) hrun),Ext.le.refl X,?_⟩;exact hsim;cases hc;cases hc
theorem Jf (hT:G.T.OK P) (hI:YL.OK P G.I) {f:Frame} {is:List Item} {cs:List Frame} {w:World} (h:Q5r P G n0 w0 cs0 X s f is cs w) {j:Option Code} {k:List Item}
 (hj:(is=[]/\j=none)\/(is= .code .ret::k/\j=some .ret)\/(∃i,is= .code (.exit i)::k/\exitTo i k=none/\j=some (.exit i))\/(∃i,is= .code (.goto i)::k/\gotoIn i k=none/\j=some (.goto i)))
 {s' :AM} (hc:Q3x G s j= .next s'):∃Y m',Steps P (lone f (cs++cs0) w) m' /\X.le Y/\Sim P G n0 w0 cs0 Y s' m' :=by
 unfold Q3x at hc;split at hc;rename_i l hro;exact Q2g hT hI h hro hj hc;rename_i hro;have hbro:=h.base.ro;rw [hro] at hbro;simp only at hbro;have hi:=h.ids;rw [List.flatMap_cons,Qz h.cur] at hi;have ret:Sim P G n0 w0 cs0 X { s with fr:={ s.fr with ret:=true}} (lone { f with mode:= .returning} (cs++cs0) w):=by refine ⟨⟨_,cs,w,rfl,⟨⟨h.base.fn,h.base.kind,h.base.ro,h.base.defers⟩,rfl,h.tm,h.cur⟩,h.all,h.mem,h.below,h.n0⟩,h.ctx,h.Qo,h.fresh,?_⟩;simp only;rw [List.flatMap_cons,Qz (show ({ s.fr with ret:=true}:Qg).cur= .none from h.cur)];exact hi
 split at hc
 . cases hc;rcases hj with ⟨h1,_⟩|⟨_,h2⟩|⟨_,_,_,h2⟩|⟨_,_,_,h2⟩
   . exact ⟨X,_, .one (Qj8 h.mode (by rw [h.todo];exact h1) hbro),Ext.le.refl X,ret⟩
   all_goals cases h2
 . cases hc;rcases hj with ⟨_,h2⟩|⟨h1,_⟩|⟨_,_,_,h2⟩|⟨_,_,_,h2⟩;cases h2
   . exact ⟨X,_, .one (Qmj h.mode (by rw [h.todo];exact h1) hbro),Ext.le.refl X,ret⟩
   all_goals cases h2
 cases hc
theorem Q6b (hT:G.T.OK P) {H:Tr Q7} {w:World} (hH:Qq X n0 H w) {nt:Nat} {tm:Tr AV} {tmps:Array Value} (ht:QC X nt tm tmps) {r:ResultVar} {v:AV} (h:Q5a G.T H tm r=some v):
 ∃u,(match r with| .tmp t=>pure (tmps.getD t undef)| .cell a t=>do loadVar t (<-asAddr (tmps.getD a undef)):Sem Value).run P w= .ok u w/\v.rel X u:=by
 cases r with
 |tmp t=>simp only [Q5a,Option.some.injEq] at h;subst h;exact ⟨_,rfl,ht.2 t⟩
 |cell a t=>
  simp only [Q5a] at h;obtain ⟨z,h1,h2⟩:=Q1z (P:=P) hT hH h (ht.2 a);have hp:∃a',tmps.getD a undef= .pointer (some a'):=by have hr:=ht.2 a;unfold Q9n at h;split at h;rename_i b o hb;rw [hb] at hr;simp only [AV.rel] at hr;obtain ⟨p,_,e⟩:=hr;exact ⟨_,e⟩;cases h
  obtain ⟨a',ha'⟩:=hp;rw [ha'] at h1;refine ⟨z,?_,h2⟩;simp only [ha',asAddr,pure_bind];simpa [Instr.loadAt,Instr.sureAddr] using h1
theorem YM (hT:G.T.OK P) {H:Tr Q7} {w:World} (hH:Qq X n0 H w) {nt:Nat} {tm:Tr AV} {tmps:Array Value} (ht:QC X nt tm tmps):∀{rs:List ResultVar} {vs:List AV},JU G.T H tm rs=some vs->
 ∃us,(rs.mapM λ| .tmp t=>pure (tmps.getD t undef)| .cell a t=>do loadVar t (<-asAddr (tmps.getD a undef)):Sem (List Value)).run P w= .ok us w/\AV.QH X vs us
 |[],vs,h=>by simp only [JU,Option.some.injEq] at h;subst h;exact ⟨[],rfl,rfl⟩
 |r::rs,vs,h=>by simp only [JU] at h;split at h;cases h;rename_i v hv;split at h;cases h;rename_i vs' hvs;cases h;obtain ⟨u,h1,h2⟩:=Q6b hT hH ht hv;obtain ⟨us,h3,h4⟩:=YM hT hH ht hvs;refine ⟨u::us,?_,u,us,rfl,h2,h4⟩;rw [List.mapM_cons];simp only [Sem.run_bind];rw [h1];simp only [Result.andThen_ok];rw [h3];rfl
theorem zK (hT:G.T.OK P) {H:Tr Q7} {w:World} (hH:Qq X n0 H w) {nt:Nat} {tm:Tr AV} {tmps:Array Value} (ht:QC X nt tm tmps) {fn:Func} {v:AV} (h:qj G.T H fn tm=some v):
 ∃u,(results fn tmps).run P w= .ok u w/\v.rel X u:=by
 unfold qj at h;have run:∀us,(fn.results.toList.mapM λ| .tmp t=>pure (tmps.getD t undef)| .cell a t=>do loadVar t (<-asAddr (tmps.getD a undef)):Sem (List Value)).run P w= .ok us w->(results fn tmps).run P w= .ok (if h:us.toArray.size=1 then us.toArray[0] else .tuple us.toArray) w:=by intro us hus;unfold results;rw [Array.mapM_eq_mapM_toList];simp only [bind_map_left];rw [Sem.run_bind];have:=congrArg (λr:Result (List Value)=>r.andThen λa w' =>Sem.run P (pure (if h:a.toArray.size=1 then a.toArray[0] else Value.tuple a.toArray)) w') hus;exact this
 split at h;cases h;rename_i v' hv;cases h;obtain ⟨us,h1,u,us',rfl,h2,h3⟩:=YM hT hH ht hv;rw [rels_nil.1 h3] at h1;exact ⟨u,by rw [run _ h1];simp,h2⟩;rename_i vs hne hvs;cases h;obtain ⟨us,h1,h2⟩:=YM hT hH ht hvs;refine ⟨.tuple us.toArray,?_,by simp only [AV.rel];exact ⟨_,rfl,h2⟩⟩;rw [run _ h1,dif_neg];intro h3;have h4:us.length=1:=by simpa using h3
 have h5:=Qe h2;have h6:vs.length=1:=by omega
 obtain ⟨x,hx⟩:=List.length_eq_one_iff.1 h6;exact hne x hx
end
end Go.Ax
namespace Go.Ax
open Go.RowKit
section
variable {P:Program} {G:Env} {n0:Nat} {w0:World} {cs0:List Frame} {X:Ext} {s:AM} {m:Machine}
theorem Qq.unset {X:Ext} {H:Tr Q7} {w:World} {b:Nat} {o:Q7} (hb:H.get b=none) (h:Qq X n0 (H.set b o) w):Qq X n0 H w:=by
 have up:∀{c ob},H.get c=some ob->(H.set b o).get c=some ob:=λ{c ob} hc=>by rw [Tr.Q0 _ _ (λe=>by subst e;rw [hb] at hc;cases hc)];exact hc
 exact ⟨λc ob p hc hp=>h.obj c ob p (up hc) hp,λc c' ob ob' p p' hc hc' l l' hp hp' e=>h.inj c c' ob ob' p p' (up hc) (up hc') l l' hp hp' e,h.lt,λc ob p hc hl hp=>h.own c ob p (up hc) hl hp⟩
theorem Q5s.grow {H:Tr Q7} {ops:List Oper} {nt:Nat} {tm:Tr AV} {pa:List (Nat×Nat)} {i:Nat} {q:Oper} {b:Nat} {o:Q7} (hb:H.get b=none) (hp:Q5s P G X n0 H H ops nt tm pa i q) (hk:∀p∈pa,p.2≠b):
 Q5s P G X n0 (H.set b o) (H.set b o) ops nt tm pa i q:=by
 rcases hp with hp|⟨a,r,c,c1,c2,c3⟩;exact .inl hp
 refine .inr ⟨a,r,c,c1,λY w ρc hY hops hH=>c2 Y w ρc hY hops (Qq.unset hb hH),λob hob=>?_⟩
 obtain ⟨k1,k2,k3⟩:=c3 ob hob;exact ⟨k1,by rw [Tr.Q0 _ _ (hk _ k1)];exact k2,k3⟩
theorem Qcm {f:Frame} {cs:List Frame} {w:World} (hF:Q87 P G X n0 s.H s.fr f) (hall:Z0 P G X n0 s.H s.cs cs) (hH:Qq X n0 s.H w) (hB:Below n0 w0 w) (h0:n0<=w.heap.size) (hctx:s.ctx.okN X.dom X.O) (hg:X.Qo G.T.ng) (hfr:∀b,s.next<=b->X.V b=none)
 (hid:((s.fr::s.cs).flatMap Qm).Nodup/\∀b∈(s.fr::s.cs).flatMap Qm,b<s.next)
 (hret:s.fr.ret=false) {ops:List Oper} {done i:Nat} {rc:List Nat} {rest:List (Nat×List Nat)} {pa pa' :List (Nat×Nat)} {o:Oper} (hc:s.fr.cur= .draw ops done ((i,rc)::rest) pa) (ho:ops[i]?=some o) (hcl:cls o.op≠3)
 {v:AV} {tm' :Tr AV} (hp:Qbj s.fr.nt s.fr.tm o.dst v=some tm') {H' :Tr Q7} {next' :Nat}
 (hmem:(H' =s.H/\next' =s.next/\pa' =pa)\/∃ob,s.H.get s.next=none/\H' =s.H.set s.next ob/\next' =s.next+1/\pa' =(i,s.next)::pa)
 (hprom:(∀t,YD ops o t=true->tm'.get t=s.fr.tm.get t)->(cls o.op≠1->Q5s P G X n0 .e H' ops s.fr.nt tm' pa' i o)/\
  (cls o.op=1->Q5s P G X n0 H' H' ops s.fr.nt tm' pa' i o/\(QI ops tm' o=false->qy s.fr.nt tm' o .undef))):
 Sim P G n0 w0 cs0 X { s with fr:={ s.fr with tm:=tm',cur:= .draw ops (Nat.lor done (2^i)) rest pa' },H:=H',next:=next' } (lone f (cs++cs0) w):=by
 obtain ⟨hb,h⟩:=hF;rw [hret] at h;simp only at h;obtain ⟨hm,is,his,h⟩:=h;rw [hc] at h;obtain ⟨A,fuel,t,listed,hA,ht,hcnt,D⟩:=h;have hidpa:Qm s.fr=pa.map (·.2):=by unfold Qm;rw [hc]
 have hpanext:∀p∈pa,p.2<s.next:=λp hpp=>hid.2 p.2 (by rw [List.flatMap_cons,List.mem_append,hidpa];exact .inl (List.mem_map.2 ⟨p,hpp,rfl⟩))
 have hsub:∀p∈pa,p∈pa' :=by
  rcases hmem with ⟨_,_,rfl⟩|⟨ob,_,_,_,rfl⟩;exact λp h=>h
  exact λp h=>List.mem_cons_of_mem _ h
 have hget:∀b,b<s.next->H'.get b=s.H.get b:=by
  rcases hmem with ⟨rfl,_,_⟩|⟨ob,_,rfl,_,_⟩;exact λ_ _=>rfl
  exact λb hb=>Tr.Q0 _ _ (by omega)
 obtain ⟨p1,p2⟩:=J6 hp;obtain ⟨dl,hok,htopo,hdl⟩:=D.plan;have hok' :=hok;have hb3:Nat.beq (cls o.op) 3=false:=by
  cases hbq:Nat.beq (cls o.op) 3 with
  |false=>rfl
  |true=>exact absurd (by simpa using hbq) hcl
 simp only [YE,ZP,ho,Bool.and_eq_true,Bool.not_eq_true',hb3,cond_false,List.all_eq_true] at hok;obtain ⟨⟨⟨⟨⟨k1,k2⟩,k3⟩,kB⟩,k4,k5⟩,k6⟩:=hok;have hilt:i<ops.length:=(List.getElem?_eq_some_iff.1 ho).1
 have hil:¬Lst listed i:=λhl=>by rw [D.sub i hl] at k2;cases k2
 have hself:∀t,YD ops o t=true->tm'.get t=s.fr.tm.get t:=λt ht=>p2 t λe=>by unfold looksAt at k4;rw [e] at k4;simp only at k4;rw [k4] at ht;cases ht
 have hsp:∀j,done.testBit j=true->∀q,ops[j]?=some q->Q2s ops o q=false:=λj hj q hq=>by have:=k5 j ((hdl j).1 hj);rw [hq] at this;simpa using this
 refine ⟨⟨f,cs,w,rfl,⟨⟨hb.fn,hb.kind,hb.ro,hb.defers⟩,?_⟩,?_,?_,hB,h0⟩,hctx,hg,?_,?_⟩;simp only [hret];refine ⟨hm,is,his,A,fuel,t,listed,hA,ht,hcnt,?_⟩;refine ⟨D.size,λj hj=>Qh.2 (.inl (D.sub j hj)),D.closed,⟨i::dl,k6,⟨λq hq e he=>?_,hilt,htopo⟩,λj=>?_⟩,λj q hj hl hq=>?_,λk j ok oj hk hj hok hoj hclj hlk=>?_,λj hj=>?_,⟨D.tmr.1,λt htt=>?_⟩,λj q hj hl hq=>?_⟩;rw [ho] at hq;cases hq;exact (hdl e).1 (k3 e he)
 rw [Qh,List.mem_cons,hdl];exact or_comm;rcases Qh.1 hj with h|h;exact D.light j q h hl hq;subst h;rw [ho] at hq;cases hq;exact hcl;rcases Qh.1 hk with hk' |rfl;rcases Qh.1 hj with hj' |rfl;exact D.looks k j ok oj hk' hj' hok hoj hclj hlk;rw [ho] at hoj;cases hoj;have:=hsp k hk' ok hok;unfold Q2s at this;unfold looksAt at hlk;split at this;rename_i hd;rw [hd] at hlk;cases hlk;rename_i d hd;rw [hd] at hlk;simp only [Bool.or_eq_false_iff] at this;simp only at hlk;rw [this.1] at hlk;cases hlk;rw [ho] at hok;cases hok;rcases Qh.1 hj with hj' |rfl;have:=kB j ((hdl j).1 hj');rw [hoj] at this;simp only [Bool.or_eq_true,Bool.not_eq_true'] at this;rcases this with h|h;exact h;rw [h] at hlk;cases hlk;rw [ho] at hoj;cases hoj;rw [k4] at hlk;cases hlk;rcases Qh.1 hj with h|h;exact D.inRange j h;rw [h];exact hilt;have hne:o.dst≠some t:=htt i o (Qh.2 (.inr rfl)) hil ho;rw [p2 t hne];exact D.tmr.2 t λj q hj hl hq=>htt j q (Qh.2 (.inl hj)) hl hq
 rcases Qh.1 hj with hj' |rfl;obtain ⟨q1,q2⟩:=D.prom j q hj' hl hq;obtain ⟨s1,s2⟩:=Q2r (hsp j hj' q hq) p2;have hd:∀v,qy s.fr.nt s.fr.tm q v->qy s.fr.nt tm' q v:=λv hv d hd=>⟨(hv d hd).1,by rw [s2 d hd];exact (hv d hd).2⟩
 have haw:=(zf (ng:=G.T.ng) s1).2.1
 refine ⟨λhcq=>?_,λhcq=>?_⟩;exact ((q1 hcq).mono (Ext.le.refl X) (H' :=H') λp hpp hn=>⟨hn,hget _ (hpanext p hpp)⟩).keep s1 s2 hsub
 obtain ⟨g1,g2,g3⟩:=q2 hcq;refine ⟨λ_=>?_,λhw=>hd _ (g2 (by rw [<-haw];exact hw)),g3⟩;have hP:=g1 rfl;have hP' :Q5s P G X n0 H' H' ops s.fr.nt s.fr.tm pa j q:=by rcases hmem with ⟨rfl,_,_⟩|⟨ob,hn,rfl,_,_⟩;exact hP;exact hP.grow hn λp hpp=>by have:=hpanext p hpp;omega
 exact hP'.keep s1 s2 hsub;rw [ho] at hq;cases hq;obtain ⟨g1,g2⟩:=hprom hself;exact ⟨g1,λhcq=>⟨λ_=>(g2 hcq).1,(g2 hcq).2,λd hd=>(p1 d hd).1⟩⟩;refine Zb (Ext.le.refl X) hall λb hbm hbn=>⟨hbn,hget b (hid.2 b ?_)⟩
 rw [List.flatMap_cons,List.mem_append];exact .inr hbm
 rcases hmem with ⟨rfl,_,_⟩|⟨ob,_,rfl,_,_⟩;exact hH;exact hH.pend ob (hfr _ (Nat.le_refl _));rcases hmem with ⟨_,rfl,_⟩|⟨ob,_,_,rfl,_⟩;exact hfr;exact λb hb=>hfr b (by simp only at hb;omega)
 rcases hmem with ⟨_,rfl,rfl⟩|⟨ob,_,_,rfl,rfl⟩;simp only [List.flatMap_cons,Qm] at hid ⊢;rw [hc] at hid;exact hid;simp only [List.flatMap_cons,Qm] at hid ⊢;rw [hc] at hid;simp only [List.map_cons,List.cons_append,List.nodup_cons,List.mem_cons];refine ⟨⟨λhm=>?_,hid.1⟩,λb hb=>?_⟩;have:=hid.2 _ hm;omega;rcases hb with rfl|hb;omega;have:=hid.2 b hb;omega
end
end Go.Ax
namespace Go.Ax
open Go.RowKit
section
variable {P:Program} {G:Env} {n0:Nat} {w0:World} {cs0:List Frame} {X:Ext} {s:AM} {m:Machine}
theorem Q6f (h:Sim P G n0 w0 cs0 X s m) (hret:s.fr.ret=false) {ops:List Oper} {k:Nat} (hc:s.fr.cur= .reg ops k []):
 ∃Y m',Steps P m m' /\X.le Y/\Sim P G n0 w0 cs0 Y { s with fr:={ s.fr with cur:= .none}} m' :=by
 obtain ⟨f,cs,w,rfl,hF,hall,hH,hB,h0⟩:=h.ex;obtain ⟨hb,h'⟩:=hF;rw [hret] at h';simp only at h';obtain ⟨hm,is,his,h'⟩:=h';rw [hc] at h';obtain ⟨h1,⟨A,hA,ht⟩,htm⟩:=h';simp only [List.length_nil,List.range'_zero] at ht;have hi:=h.ids;rw [List.flatMap_cons,show Qm s.fr=[] from by unfold Qm;rw [hc]] at hi;refine ⟨X,_, .one (YB hm ht),Ext.le.refl X,⟨_,cs,w,rfl,⟨⟨hb.fn,hb.kind,hb.ro,hb.defers⟩,?_⟩,hall,hH,hB,h0⟩,h.ctx,h.Qo,h.fresh,?_⟩;simp only [hret];exact ⟨hm,is,his,rfl,htm⟩;simp only [List.flatMap_cons,Qm];exact hi
theorem Q4y (h:Sim P G n0 w0 cs0 X s m) (hret:s.fr.ret=false) {ops:List Oper} {done:Nat} {pa:List (Nat×Nat)} (hc:s.fr.cur= .draw ops done [] pa):
 ∃Y m',Steps P m m' /\X.le Y/\Sim P G n0 w0 cs0 Y { s with fr:={ s.fr with cur:= .none}} m' :=by
 obtain ⟨f,cs,w,rfl,hF,hall,hH,hB,h0⟩:=h.ex;obtain ⟨hb,h'⟩:=hF;rw [hret] at h';simp only at h';obtain ⟨hm,is,his,h'⟩:=h';rw [hc] at h';obtain ⟨A,fuel,t,listed,hA,ht,hcnt,D⟩:=h';have hid:Qm s.fr=pa.map (·.2):=by unfold Qm;rw [hc]
 have hnd:=h.ids;rw [List.flatMap_cons,List.nodup_append] at hnd;obtain ⟨Y,f',w',r1,r2,r3,r4,r5,r6,r7,r8⟩:=Qia A hA (by rw [<-hid];exact hnd.1.1) (cs:=cs++cs0) fuel t X listed f w D h.Qo hH h0 hm ht hcnt;have hbf:=hb.mono r2;refine ⟨Y,_,r1,r2,⟨f',cs,w',rfl,⟨?_,?_⟩,Zb r2 hall λb hbm hbn=>⟨r5 b hbn λhm' =>?_,rfl⟩,r3,hB.trans r4,r6⟩,Ctx.Q2d h.ctx r2,Ext.ZB h.Qo r2,λb hb' =>r5 b (h.fresh b hb') λhm' =>?_,?_⟩;rw [r7];exact ⟨hbf.fn,hbf.kind,hbf.ro,hbf.defers⟩;simp only [hret];exact ⟨by rw [r7];exact hm,is,Ym r2 his,by rw [r7],r8⟩;exact hnd.1.2.2 b (by rw [hid];exact hm') b hbm rfl;have:=hnd.2 b (by rw [List.mem_append,hid];exact .inl hm');simp only at hb';omega;simp only [List.flatMap_cons,Qm,List.nil_append];exact ⟨hnd.1.2.1,λb hbm=>hnd.2 b (List.mem_append.2 (.inr hbm))⟩
theorem Q6e {f:Frame} {is:List Item} {cs:List Frame} {w:World} (h:Q5r P G n0 w0 cs0 X s f is cs w) {id:Nat} {ops:Array Oper} {k:List Qj} (hk:s.fr.todo= .code (.region id ops false)::k):
 ∃Y m',Steps P (lone f (cs++cs0) w) m' /\X.le Y/\Sim P G n0 w0 cs0 Y { s with fr:={ s.fr with cur:= .reg ops.toList 0 ops.toList,todo:=k}} m' :=by
 have his:=h.items;rw [hk] at his;obtain ⟨i,is',rfl,rfl,his'⟩:=his;have hi:=h.ids;rw [List.flatMap_cons,Qz h.cur] at hi;refine ⟨X,_, .one (Q60 h.mode h.todo),Ext.le.refl X,⟨_,cs,w,rfl,⟨⟨h.base.fn,h.base.kind,h.base.ro,h.base.defers⟩,?_⟩,h.all,h.mem,h.below,h.n0⟩,h.ctx,h.Qo,h.fresh,?_⟩;simp only [h.ret];exact ⟨h.mode,is',his',by simp,⟨ops,rfl,by simp [List.range_eq_range']⟩,h.tm⟩;simp only [List.flatMap_cons,Qm];exact hi
theorem Qcx (hT:G.T.OK P) {f:Frame} {is:List Item} {cs:List Frame} {w:World} (h:Q5r P G n0 w0 cs0 X s f is cs w) {id:Nat} {ops:Array Oper} {k:List Qj} (hk:s.fr.todo= .code (.region id ops true)::k) {p:List (Nat×List Nat)} (hp:Qef ops.toList=some p):
 ∃Y m',Steps P (lone f (cs++cs0) w) m' /\X.le Y/\Sim P G n0 w0 cs0 Y { s with fr:={ s.fr with cur:= .draw ops.toList 0 p [],todo:=k}} m' :=by
 have his:=h.items;rw [hk] at his;obtain ⟨i,is',rfl,rfl,his'⟩:=his;have hi:=h.ids;rw [List.flatMap_cons,Qz h.cur] at hi;have hok:YE ops.toList (Q56 ops.toList 0 (.sk ops.toList.length)) ops.toList.length 0 [] p=true:=by
  unfold Qef at hp;simp only at hp;cases hb:YE ops.toList (Q56 ops.toList 0 (.sk ops.toList.length)) ops.toList.length 0 [] (Qam ops.toList (Q56 ops.toList 0 (.sk ops.toList.length)) ops.toList.length 0 []) with
  |false=>rw [hb] at hp;cases hp
  |true=>rw [hb] at hp;cases hp;exact hb
 obtain ⟨t,hst⟩:=Qjw (P:=P) (cs:=cs++cs0) (w:=w) hT.mixed h.mode h.todo;have hno:∀i,¬Lst (Array.replicate ops.size false) i:=λi hl=>by unfold Lst at hl;rw [Array.getD_eq_getD_getElem?,Array.getElem?_replicate] at hl;split at hl<;>cases hl
 have hz:∀i,¬Nat.testBit 0 i=true:=λi hi=>by simp at hi
 refine ⟨X,_, .one hst,Ext.le.refl X,⟨_,cs,_,rfl,⟨⟨h.base.fn,h.base.kind,h.base.ro,h.base.defers⟩,?_⟩,h.all,h.mem.of_heap rfl,h.below.trans ⟨rfl,rfl,rfl,Nat.le_refl _,λ_ _=>rfl⟩,h.n0⟩,h.ctx,h.Qo,h.fresh,?_⟩;simp only [h.ret];refine ⟨h.mode,is',his',ops,ops.size,t,Array.replicate ops.size false,rfl,rfl,by simp,by simp,λi hl=>absurd hl (hno i),λj o hl=>absurd hl (hno j),⟨[],hok,trivial,λi=>⟨λhb=>absurd hb (hz i),λhm=>by cases hm⟩⟩,λi o hb=>absurd hb (hz i),λk j _ _ hb=>absurd hb (hz k),λi hb=>absurd hb (hz i),⟨h.tm.1,λt _=>h.tm.2 t⟩,λi o hb=>absurd hb (hz i)⟩;simp only [List.flatMap_cons,Qm,List.map_nil];exact hi
theorem Q6a (hT:G.T.OK P) (hI:YL.OK P G.I) (h:Sim P G n0 w0 cs0 X s m) (hret:s.fr.ret=true) (hd:s.fr.defers=[]) {c:Qg} {as:List Qg} (hcs:s.cs=c::as) {fn:Func} (hfn:G.T.funcs.get s.fr.fn=some fn) {v:AV} (hv:qj G.T s.H fn s.fr.tm=some v)
 {fr:Qg} (hf:Ya G s.ctx s.H c v=some fr):∃Y m',Steps P m m' /\X.le Y/\Sim P G n0 w0 cs0 Y { s with fr,cs:=as} m' :=by
 obtain ⟨f,cs,w,rfl,hF,hall,hH,hB,h0⟩:=h.ex;obtain ⟨hb,h'⟩:=hF;rw [hret] at h';simp only at h';obtain ⟨hm,htm,hcur⟩:=h';have hdf:=hb.defers;rw [hd] at hdf;simp only [Q2h] at hdf;obtain ⟨u,hu,hr⟩:=zK (P:=P) hT hH htm hv;have hid:=h.ids;rw [List.flatMap_cons,Qz hcur,List.nil_append,hcs] at hid;rw [hcs] at hall;obtain ⟨cf,fs,rfl,hsim⟩:=Q3t (w0:=w0) (cs0:=cs0) hT hI hall hH hB h0 h.ctx h.Qo h.fresh hid hf hr;exact ⟨X,_, .one (Qdr hm hdf hb.kind (by rw [hb.fn];exact (hT.funcs _ _ hfn).1) hu),Ext.le.refl X,hsim⟩
theorem Qby (h:Sim P G n0 w0 cs0 X s m) (hret:s.fr.ret=true) {r:Nat} {ds:List ADf} (hd:s.fr.defers= .mark r::ds) (hr:s.H.get r=some .defs):
 ∃Y m',Steps P m m' /\X.le Y/\Sim P G n0 w0 cs0 Y { s with fr:={ s.fr with defers:=ds},H:=s.H.set r .dead} m' :=by
 obtain ⟨f,cs,w,rfl,hF,hall,hH,hB,h0⟩:=h.ex;obtain ⟨hb,h'⟩:=hF;rw [hret] at h';simp only at h';obtain ⟨hm,htm,hcur⟩:=h';have hdf:=hb.defers;rw [hd] at hdf;obtain ⟨p,ds',hp,hds,hrest⟩:=hdf;have ho:w.heap[p.blk]?=some (.deferred (some [])):=hH.obj r _ p hr hp;have hg:=Qk (P:=P) ho (by simp);have hset:=Z6 (P:=P) (o' := .deferred none) ho (by simp);have hrun:(Instr.takeDeferred p.blk).run P w= .ok [] { w with heap:=w.heap.setIfInBounds p.blk (.deferred none)}:=by simp [Instr.takeDeferred,hg,hset]
 have hown:=hH.own r _ p hr rfl hp;have hi:=h.ids;rw [List.flatMap_cons,Qz hcur] at hi;refine ⟨X,_, .one (Q0f hm hds hrun),Ext.le.refl X,⟨_,cs,_,rfl,⟨⟨hb.fn,hb.kind,hb.ro,hrest⟩,?_⟩,Zb (Ext.le.refl X) hall λc _ hcn=>⟨hcn,Tr.Q0 _ _ (QZ hp hcn)⟩,hH.setObj hr rfl hp _ trivial,hB.trans ⟨rfl,rfl,rfl,by simp,λk hk=>by simp only [Array.getElem?_setIfInBounds];rw [if_neg (by omega)]⟩,by simpa using h0⟩,h.ctx,h.Qo,h.fresh,?_⟩;simp only [hret];exact ⟨hm,htm,hcur⟩;simp only [List.flatMap_cons];rw [Qz (show ({ s.fr with defers:=ds}:Qg).cur= .none from hcur)];exact hi
theorem Qen (h:Sim P G n0 w0 cs0 X s m) (hret:s.fr.ret=true) {g:Nat} {ds:List ADf} (hd:s.fr.defers= .nop g::ds):
 ∃Y m',Steps P m m' /\X.le Y/\Sim P G n0 w0 cs0 Y { s with fr:={ s.fr with defers:=ds}} m' :=by
 obtain ⟨f,cs,w,rfl,hF,hall,hH,hB,h0⟩:=h.ex;obtain ⟨hb,h'⟩:=hF;rw [hret] at h';simp only at h';obtain ⟨hm,htm,hcur⟩:=h';have hdf:=hb.defers;rw [hd] at hdf;obtain ⟨hn,cap,args,ds',hds,hrest⟩:=hdf;have hi:=h.ids;rw [List.flatMap_cons,Qz hcur] at hi;refine ⟨X,_, .head (Q0h hm hds (hn.1 _ _)) (hn.2 { f with defers:=ds' } (cs++cs0) w _ hm),Ext.le.refl X,⟨_,cs,_,rfl,⟨⟨hb.fn,hb.kind,hb.ro,hrest⟩,?_⟩,hall,hH,hB,h0⟩,h.ctx,h.Qo,h.fresh,?_⟩;simp only [hret];exact ⟨hm,htm,hcur⟩;simp only [List.flatMap_cons];rw [Qz (show ({ s.fr with defers:=ds}:Qg).cur= .none from hcur)];exact hi
end
end Go.Ax
namespace Go.Ax
open Go.RowKit
section
variable {P:Program} {G:Env} {n0:Nat} {w0:World} {cs0:List Frame} {X:Ext} {s:AM} {m:Machine}
theorem Q5r.go' {f:Frame} {is:List Item} {cs:List Frame} {w:World} {H:Tr Q7} (h:Q5r P G n0 w0 cs0 X { s with H} f is cs w) {k:List Qj} {is' :List Item} (hk:Yj X k is'):Sim P G n0 w0 cs0 X { s with fr:={ s.fr with todo:=k},H} (lone { f with todo:=is' } (cs++cs0) w):=h.go hk
theorem yN {f:Frame} {is:List Item} {cs:List Frame} {w:World} (h:Q5r P G n0 w0 cs0 X s f is cs w) {k:List Qj} (hk:s.fr.todo= .beginRound::k) {l:Nat} (hro:s.fr.ro=some l) {p:Option Code} {fn nt:Nat} {tm:Tr AV} {params:Array Tmp} {assign body:Code} {d:Nat}
 (hl:s.H.get l=some (.loop .ready p fn nt tm params assign body d)):
 ∃Y m',Steps P (lone f (cs++cs0) w) m' /\X.le Y/\Sim P G n0 w0 cs0 Y { s with fr:={ s.fr with todo:=k},H:=s.H.set l (.loop .busy p fn nt tm params assign body d)} m' :=by
 have his:=h.items;rw [hk] at his;obtain ⟨i,is',rfl,rfl,his'⟩:=his;have hbro:=h.base.ro;rw [hro] at hbro;obtain ⟨q,hq,hfro⟩:=hbro;obtain ⟨tmps,d',h1,h2,e,he,hde⟩:=h.mem.obj _ _ q hl hq;have hg:=Qk (P:=P) h1 (by simp);have hset:∀o',(setObj q.blk o').run P w= .ok () { w with heap:=w.heap.setIfInBounds q.blk o' }:=λo' =>Z6 (P:=P) h1 (by simp)
 have hrun:(Instr.beginRound q.blk).run P w= .ok () { w with heap:=w.heap.setIfInBounds q.blk (.loop { state:= .busy,pending:=p,fn,tmps,params,assign,body,defers:=d' })}:=by simp [Instr.beginRound,Instr.getLoop,hg,hset]
 exact ⟨X,_, .one (Q46 h.mode h.todo hfro hrun),Ext.le.refl X,(h.write (o' := .loop .busy p fn nt tm params assign body d) hl rfl hq ⟨tmps,d',rfl,h2,e,he,hde⟩).go' his'⟩
def Qmy (k:List Qj) (p:Option Code):List Qj:=match p with|none=>k|some c=> .code c::k
theorem Q4x {f:Frame} {is:List Item} {cs:List Frame} {w:World} (h:Q5r P G n0 w0 cs0 X s f is cs w) {k:List Qj} {l:Nat} (hk:s.fr.todo= .endRangeFunc l::k) {st:LoopState} {p:Option Code} {fn nt:Nat} {tm:Tr AV} {params:Array Tmp} {assign body:Code} {d:Nat}
 (hl:s.H.get l=some (.loop st p fn nt tm params assign body d)) (hst:st≠ .busy):
 ∃Y m',Steps P (lone f (cs++cs0) w) m' /\X.le Y/\Sim P G n0 w0 cs0 Y { s with fr:={ s.fr with todo:=Qmy k p},H:=s.H.set l (.loop .exhausted p fn nt tm params assign body d)} m' :=by
 have his:=h.items;rw [hk] at his;obtain ⟨i,is',rfl,⟨q,hq,rfl⟩,his'⟩:=his;obtain ⟨tmps,d',h1,h2,e,he,hde⟩:=h.mem.obj _ _ q hl hq;have hg:=Qk (P:=P) h1 (by simp);have hset:∀o',(setObj q.blk o').run P w= .ok () { w with heap:=w.heap.setIfInBounds q.blk o' }:=λo' =>Z6 (P:=P) h1 (by simp)
 have hrun:(Instr.endLoop q.blk).run P w= .ok p { w with heap:=w.heap.setIfInBounds q.blk (.loop { state:= .exhausted,pending:=p,fn,tmps,params,assign,body,defers:=d' })}:=by cases st<;>first|exact absurd rfl hst|simp [Instr.endLoop,Instr.getLoop,hg,hset]
 refine ⟨X,_, .one (Q0g h.mode h.todo hrun),Ext.le.refl X,(h.write (o' := .loop .exhausted p fn nt tm params assign body d) hl rfl hq ⟨tmps,d',rfl,h2,e,he,hde⟩).go' ?_⟩;cases p with
 |none=>exact his'
 |some c=>exact ⟨_,_,rfl,rfl,his'⟩
theorem JL (hT:G.T.OK P) {f:Frame} {is:List Item} {cs:List Frame} {w:World} (h:Q5r P G n0 w0 cs0 X s f is cs w) {k:List Qj} {x:Operand} {params:Array Tmp} {assign body:Code} (hk:s.fr.todo= .code (.rangeFunc x params assign body)::k)
 {g:FuncId} {first captured:List AV} (hx:ev G.T.ng s.fr.tm x=some (.func g first captured))
 {l next:Nat} {Y:Ext} {H:Tr Q7} {q:Place} {mark:List Deferred} {defers:List ADf} {w' :World} (hle:X.le Y) (hq:Y.V l=some q) (hrun:(Instr.enterLoop f.fn f.tmps params assign body f.roundOf).run P w= .ok (q.blk,mark) w')
 (hmark:Q2h P Y defers (mark++f.defers)) (hH:Qq Y n0 H w') (hB:Below n0 w w') (hkeep:∀b,X.V b=none->b<s.next->Y.V b=none/\H.get b=s.H.get b) (hnext:s.next<=next) (hfr:∀b,next<=b->Y.V b=none)
 {s' :AM} (hc:Jw G { s with H,next} g (first++[.yield l]++captured) { s.fr with todo:= .inRangeFunc l::k,defers}= .next s'):
 ∃Y m',Steps P (lone f (cs++cs0) w) m' /\X.le Y/\Sim P G n0 w0 cs0 Y s' m' :=by
 have his:=h.items;rw [hk] at his;obtain ⟨i,is',rfl,rfl,his'⟩:=his;have hr:=Qb1 h.tm h.Qo hx;simp only [AV.rel] at hr;obtain ⟨as',cs',he,h1,h2⟩:=hr;have hids:=h.ids;rw [List.flatMap_cons,Qz h.cur,List.nil_append] at hids;have hb:=h.base.mono hle;have henter:∃fn,G.T.funcs.get g=some fn:=by unfold Jw at hc;simp only at hc;split at hc;cases hc;rename_i fn hfn;exact ⟨fn,hfn⟩
 obtain ⟨fn,hfn⟩:=henter;have hcall:=(hT.funcs g fn hfn).2 (as' ++#[.func (.yield q.blk) #[] #[]]++cs') w'
 have hr2:(do let d <-resolve (evC f.tmps) { callee:= .value x,args:=#[.const (.func (.yield q.blk) #[] #[])],argTypes:=#[]} 0;invoke d.target d.args:Sem Next).run P w' = .ok (.enter g (as' ++#[.func (.yield q.blk) #[] #[]]++cs')) w' :=by
  have:resolve (evC f.tmps) { callee:= .value x,args:=#[.const (.func (.yield q.blk) #[] #[])],argTypes:=#[]} 0=Deferred.ofValue (evC f.tmps x) #[.func (.yield q.blk) #[] #[]]:=by simp [resolve,evC]
  rw [this,he];simpa [Deferred.ofValue,invoke] using hcall
 refine ⟨Y,_, .one (Q61 h.mode h.todo hrun hr2),hle,?_⟩;refine Q1p (s:={ s with H,next}) hT hc ?_ ⟨⟨hb.fn,hb.kind,hb.ro,hmark⟩,h.ret,h.mode, .inRangeFunc q.blk::is',⟨_,_,rfl,⟨q,hq,rfl⟩,Ym hle his'⟩,?_⟩ ?_ hH (h.below.trans hB) (Nat.le_trans h.n0 hB.size) (Ctx.Q2d h.ctx hle) (Ext.ZB h.Qo hle) hfr ?_;rw [Array.toList_append,Array.toList_append];refine Zv (Zv (AV.Yq hle _ _ h1) ?_) (AV.Yq hle _ _ h2);refine ⟨_,_,rfl,?_,rfl⟩;simp only [AV.rel];exact ⟨q,hq,rfl⟩;simp only [h.cur];exact ⟨trivial,Yl hle h.tm⟩;exact Zb hle h.all λb hbm hbn=>hkeep b hbn (hids.2 b hbm)
 simp only;rw [List.flatMap_cons,Qz (show ({ s.fr with todo:= .inRangeFunc l::k,defers}:Qg).cur= .none from h.cur),List.nil_append];exact ⟨hids.1,λb hbm=>Nat.lt_of_lt_of_le (hids.2 b hbm) hnext⟩
theorem Q0v (hT:G.T.OK P) {f:Frame} {is:List Item} {cs:List Frame} {w:World} (h:Q5r P G n0 w0 cs0 X s f is cs w) {k:List Qj} {x:Operand} {params:Array Tmp} {assign body:Code} (hk:s.fr.todo= .code (.rangeFunc x params assign body)::k)
 {g:FuncId} {first captured:List AV} (hx:ev G.T.ng s.fr.tm x=some (.func g first captured)) (hro:s.fr.ro=none)
 {s' :AM} (hc:Jw G { s with H:=(s.H.set s.next .defs).set (s.next+1) (.loop .ready none s.fr.fn s.fr.nt s.fr.tm params assign body s.next),next:=s.next+2} g (first++[.yield (s.next+1)]++captured) { s.fr with todo:= .inRangeFunc (s.next+1)::k,defers:= .mark s.next::s.fr.defers}= .next s'):
 ∃Y m',Steps P (lone f (cs++cs0) w) m' /\X.le Y/\Sim P G n0 w0 cs0 Y s' m' :=by
 have hbro:=h.base.ro;rw [hro] at hbro;simp only at hbro;have hn1:=h.fresh s.next (Nat.le_refl _);have hn2:=h.fresh (s.next+1) (by omega)
 let p1:Place:=⟨w.heap.size,0,0⟩
 let X1:=X.add s.next p1
 have hle1:X.le X1:=Ext.Zr hn1;have hn2' :X1.V (s.next+1)=none:=by rw [Ext.QL (by omega)];exact hn2
 let w1:=grown w (.deferred (some [])) w.drawn
 have hH1:Qq X1 n0 (s.H.set s.next .defs) w1:=(h.mem.alloc h.n0 .defs hn1 (.deferred (some [])) 0 rfl).of_heap rfl
 have hB1:Below n0 w w1:=below_grown h.n0 _ _;have h01:n0<=w1.heap.size:=Nat.le_trans h.n0 hB1.size
 let p2:Place:=⟨w1.heap.size,0,0⟩
 let X2:=X1.add (s.next+1) p2
 have hle2:X1.le X2:=Ext.Zr hn2'
 let lp:Obj:= .loop { state:= .ready,pending:=none,fn:=f.fn,tmps:=f.tmps,params,assign,body,defers:=w.heap.size}
 have hor:ji X2 (.loop .ready none s.fr.fn s.fr.nt s.fr.tm params assign body s.next) p2 (some lp):=by refine ⟨f.tmps,w.heap.size,by rw [<-h.base.fn],Yl (hle1.trans hle2) h.tm,p1,hle2.V _ _ (Ext.add_same _ _ _),rfl⟩
 let w2:=grown w1 lp w1.drawn
 have hH2:Qq X2 n0 ((s.H.set s.next .defs).set (s.next+1) (.loop .ready none s.fr.fn s.fr.nt s.fr.tm params assign body s.next)) w2:=(hH1.alloc h01 _ hn2' lp 0 hor).of_heap rfl
 have hB2:Below n0 w1 w2:=below_grown h01 _ _;refine JL hT h hk hx (hle1.trans hle2) (Ext.add_same X1 (s.next+1) p2) (mark:=[{ target:= .collected w.heap.size,args:=#[]}]) (w' :=w2) ?_ ?_ hH2 (hB1.trans hB2) (λb hb hlt=>⟨?_,?_⟩) (by omega) (λb hb=>?_) hc
 rw [hbro];simp [Instr.enterLoop,grown,w2,w1,lp,p2];rfl;exact ⟨p1,f.defers,hle2.V _ _ (Ext.add_same _ _ _),rfl,J2 (hle1.trans hle2) h.base.defers⟩;rw [Ext.QL (by omega),Ext.QL (by omega)];exact hb;rw [Tr.Q0 _ _ (by omega),Tr.Q0 _ _ (by omega)];rw [Ext.QL (by omega),Ext.QL (by omega)];exact h.fresh b (by omega)
theorem zM (hT:G.T.OK P) {f:Frame} {is:List Item} {cs:List Frame} {w:World} (h:Q5r P G n0 w0 cs0 X s f is cs w) {k:List Qj} {x:Operand} {params:Array Tmp} {assign body:Code} (hk:s.fr.todo= .code (.rangeFunc x params assign body)::k)
 {g:FuncId} {first captured:List AV} (hx:ev G.T.ng s.fr.tm x=some (.func g first captured)) {l0:Nat} (hro:s.fr.ro=some l0) {st:LoopState} {pd:Option Code} {fn nt:Nat} {tm:Tr AV} {ps:Array Tmp} {as bd:Code} {d:Nat}
 (hl:s.H.get l0=some (.loop st pd fn nt tm ps as bd d))
 {s' :AM} (hc:Jw G { s with H:=s.H.set s.next (.loop .ready none s.fr.fn s.fr.nt s.fr.tm params assign body d),next:=s.next+1} g (first++[.yield s.next]++captured) { s.fr with todo:= .inRangeFunc s.next::k}= .next s'):
 ∃Y m',Steps P (lone f (cs++cs0) w) m' /\X.le Y/\Sim P G n0 w0 cs0 Y s' m' :=by
 have hbro:=h.base.ro;rw [hro] at hbro;obtain ⟨q,hq,hfro⟩:=hbro;obtain ⟨tmps,d',h1,h2,e,he,hde⟩:=h.mem.obj _ _ q hl hq;have hg:=Qk (P:=P) h1 (by simp);have hn1:=h.fresh s.next (Nat.le_refl _)
 let p1:Place:=⟨w.heap.size,0,0⟩
 let X1:=X.add s.next p1
 have hle1:X.le X1:=Ext.Zr hn1
 let lp:Obj:= .loop { state:= .ready,pending:=none,fn:=f.fn,tmps:=f.tmps,params,assign,body,defers:=d' }
 have hor:ji X1 (.loop .ready none s.fr.fn s.fr.nt s.fr.tm params assign body d) p1 (some lp):=by refine ⟨f.tmps,d',by rw [<-h.base.fn],Yl hle1 h.tm,e,hle1.V _ _ he,hde⟩
 let w1:=grown w lp w.drawn
 have hH1:Qq X1 n0 (s.H.set s.next (.loop .ready none s.fr.fn s.fr.nt s.fr.tm params assign body d)) w1:=(h.mem.alloc h.n0 _ hn1 lp 0 hor).of_heap rfl
 refine JL (defers:=s.fr.defers) hT h hk hx hle1 (Ext.add_same X s.next p1) (mark:=[]) (w' :=w1) ?_ ?_ hH1 (below_grown h.n0 _ _) (λb hb hlt=>⟨?_,?_⟩) (by omega) (λb hb=>?_) hc;rw [hfro];simp [Instr.enterLoop,Instr.getLoop,hg,grown,w1,lp,p1];exact J2 hle1 h.base.defers;rw [Ext.QL (by omega)];exact hb;rw [Tr.Q0 _ _ (by omega)];rw [Ext.QL (by omega)];exact h.fresh b (by omega)
end
end Go.Ax
namespace Go.Ax
open Go.RowKit
section
variable {P:Program} {G:Env} {n0:Nat} {w0:World} {cs0:List Frame} {X:Ext} {s:AM} {m:Machine}
def Qj3 (P:Program) (G:Env) (n0:Nat) (w0:World) (cs0:List Frame) (X:Ext) (m:Machine) (s' :AM):Prop:=∃Y m',Steps P m m' /\X.le Y/\Sim P G n0 w0 cs0 Y s' m'
theorem Qj3.of_steps {m1:Machine} {Y:Ext} {s' :AM} (h:Steps P m m1) (hle:X.le Y) (k:Qj3 P G n0 w0 cs0 Y m1 s'):Qj3 P G n0 w0 cs0 X m s' :=by obtain ⟨Z,m',a,b,c⟩:=k;exact ⟨Z,m',h.trans a,hle.trans b,c⟩
theorem qF {T:Tab} {I:List (TypeId×TypeId×Bool)} {c:Ctx} {H:Tr Q7} {f:Operand->Option AV} {op:Op} {r:LR} (h:light T I c H f op= .ok r) (cl:Call):op≠ .defer cl:=by
 rintro rfl
 simp [light] at h
theorem Q2f {c:Ctx} {H:Tr Q7} {next:Nat} {f:Operand->Option AV} {op:Op} {r:HR} (h:ZR G c H next f op= .ok r) (cl:Call):op≠ .defer cl:=by
 rintro rfl
 simp [ZR] at h
theorem Q39 (hT:G.T.OK P) (hI:YL.OK P G.I) (hS:ZE P G n0) {ops:List Oper} {o:Oper} {f:Frame} {cs:List Frame} {w:World} (h:Qj1 P G n0 w0 cs0 X s ops o f cs w) (hw:QI ops s.fr.tm o=true) {s' :AM} {a:Nat}
 (hc:(match ZR G s.ctx s.H s.next (ev G.T.ng s.fr.tm) o.op with
  | .ok r=>advance G s r
  | .ask op a b=> .ask op a b
  | .fail=>match o.op with
   | .call cl=>YQ G s (ev G.T.ng s.fr.tm) cl
   | .defer cl=>jg G s (ev G.T.ng s.fr.tm) cl
   |_=> .fail a)= .next s'):Qj3 P G n0 w0 cs0 X (lone f (cs++cs0) w) s' :=by
 have hops:=h.at_;obtain ⟨A,i,l,is,hA,hm,ht,ho,hop,hwant⟩:=hops;split at hc;rename_i r hr;exact Qbm hT hI h hw (λc=>Q2f hr c) (Q91 hT h.ctx h.mem h.n0 h.fresh hop hr) hc;cases hc;split at hc;rename_i cl hcl;exact Q7i hT hI hS h hw hcl hc;rename_i cl hcl;exact Q9d hT hI h hw hcl hc;cases hc
theorem Qbu (hT:G.T.OK P) (hI:YL.OK P G.I) {f:Frame} {is:List Item} {cs:List Frame} {w:World} (h:Q5r P G n0 w0 cs0 X s f is cs w) {s' :AM} (hc:Zy G s= .next s'):Qj3 P G n0 w0 cs0 X (lone f (cs++cs0) w) s' :=by
 unfold Zy at hc;rw [h.ret,h.cur] at hc;simp only at hc;have his:=h.items;split at hc;rename_i hk;rw [hk] at his;exact Jf (k:=[]) hT hI h (.inl ⟨his,rfl⟩) hc;rename_i n k hk;rw [hk] at his;obtain ⟨i,is',rfl,rfl,his'⟩:=his;cases hc;exact ⟨X,_, .one (Qc7 h.mode h.todo),Ext.le.refl X,h.go his'⟩;rename_i n k hk;rw [hk] at his;obtain ⟨i,is',rfl,rfl,his'⟩:=his;cases hc;exact ⟨X,_, .one (Qc6 h.mode h.todo),Ext.le.refl X,h.go his'⟩;rename_i body k hk;rw [hk] at his;obtain ⟨i,is',rfl,rfl,his'⟩:=his;cases hc;exact ⟨X,_, .one (Qds h.mode h.todo),Ext.le.refl X,h.go ⟨_,_,rfl,rfl,_,_,rfl,rfl,his'⟩⟩;cases hc;rename_i k hk;split at hc;cases hc;rename_i l hro;split at hc;rename_i hl;cases hc;exact yN h hk hro hl;cases hc;rename_i l k hk;split at hc;rename_i hl;split at hc;cases hc;rename_i hst;cases hc;exact Q4x h hk hl (λe=>hst e);cases hc;rename_i c k hk;have his0:=his;rw [hk] at his;obtain ⟨i,is',rfl,rfl,his'⟩:=his;split at hc;cases hc;exact ⟨X,_, .one (Qdq h.mode h.todo),Ext.le.refl X,h.go his'⟩;cases hc;exact ⟨X,_, .one (Qgx h.mode h.todo),Ext.le.refl X,h.go his'⟩;exact Jf hT hI h (.inr (.inl ⟨rfl,rfl⟩)) hc;cases hc;exact ⟨X,_, .one (Qj6 h.mode h.todo),Ext.le.refl X,h.go ⟨_,_,rfl,rfl,_,_,rfl,rfl,his'⟩⟩;rename_i x thn els;split at hc;rename_i hx;cases hc;have hr:=Qb1 h.tm h.Qo hx;simp only [AV.rel] at hr;exact ⟨X,_, .one (Q8g h.mode h.todo hr),Ext.le.refl X,h.go ⟨_,_,rfl,rfl,his'⟩⟩;rename_i hx;cases hc;have hr:=Qb1 h.tm h.Qo hx;simp only [AV.rel] at hr;exact ⟨X,_, .one (Q8g h.mode h.todo hr),Ext.le.refl X,h.go ⟨_,_,rfl,rfl,his'⟩⟩;cases hc;cases hc;exact ⟨X,_, .one (Qgz h.mode h.todo),Ext.le.refl X,h.go ⟨_,_,rfl,rfl,_,_,rfl,rfl,his'⟩⟩;cases hc;exact ⟨X,_, .one (Qjt h.mode h.todo),Ext.le.refl X,h.go ⟨_,_,rfl,rfl,_,_,rfl,rfl,his'⟩⟩;cases hc;exact ⟨X,_, .one (Qgw h.mode h.todo),Ext.le.refl X,h.go ⟨_,_,rfl,rfl,_,_,rfl,rfl,his'⟩⟩;rename_i id;split at hc;rename_i k' hk';cases hc;obtain ⟨e,e1,e2⟩:=za his' hk';exact ⟨X,_, .one (Qjv h.mode h.todo e1),Ext.le.refl X,h.go e2⟩;rename_i hk';exact Jf hT hI h (.inr (.inr (.inl ⟨id,rfl,ze his' hk',rfl⟩))) hc;rename_i id;split at hc;rename_i k' hk';cases hc;obtain ⟨e,e1,e2⟩:=qY his' hk';exact ⟨X,_, .one (Qju h.mode h.todo e1),Ext.le.refl X,h.go e2⟩;rename_i hk';exact Jf hT hI h (.inr (.inr (.inr ⟨id,rfl,qZ his' hk',rfl⟩))) hc;rename_i id ops draw;cases draw with
 |true=>simp only [cond_true] at hc;split at hc;rename_i p hp;cases hc;exact Qcx hT h hk hp;cases hc
 |false=>simp only [cond_false,Res.next.injEq] at hc;subst hc;exact Q6e h hk
 rename_i x params assign body;split at hc;rename_i g first captured hx
 split at hc;rename_i hro;simp only [sNat_eq] at hc;exact Q0v hT h hk hx hro hc;rename_i l0 hro;split at hc;rename_i hl;simp only [sNat_eq] at hc;exact zM hT h hk hx hro hl hc;cases hc;cases hc;cases hc
theorem Q9j (hT:G.T.OK P) (hI:YL.OK P G.I) (hS:ZE P G n0) (h:Sim P G n0 w0 cs0 X s m) {s' :AM} (hc:Zy G s= .next s'):Qj3 P G n0 w0 cs0 X m s' :=by
 cases hret:s.fr.ret with
 |true=>unfold Zy at hc;rw [hret] at hc;simp only at hc;split at hc;rename_i r ds hd;cases hc;exact Qen h hret hd;rename_i r ds hd;split at hc;rename_i hr;cases hc;exact Qby h hret hd hr;cases hc;rename_i hd;split at hc;cases hc;rename_i c cs hcs;split at hc;cases hc;rename_i fn hfn;split at hc;cases hc;rename_i v hv;split at hc;rename_i fr hf;cases hc;exact Q6a hT hI h hret hd hcs hfn hv hf;cases hc
 |false=>
  cases hcur:s.fr.cur with
  |none=>obtain ⟨f,is,cs,w,rfl,hN⟩:=Qh0 h hret hcur;exact Qbu hT hI hN hc
  |reg ops k rest=>
   unfold Zy at hc;rw [hret,hcur] at hc;cases rest with
   |nil=>simp only [Res.next.injEq] at hc;subst hc;exact Q6f h hret hcur
   |cons o rest=>
    simp only at hc;obtain ⟨f,cs,w,rfl,hS'⟩:=Qdy h hret hcur;have hops:=hS'.at_;obtain ⟨A,i,l,is,hA,hm,ht,ho,hop,hwant⟩:=hops;cases hw:QI ops s.fr.tm o with
    |false=>
     rw [hw] at hc;cases hk:yE ops s.fr.tm o with
     |false=>rw [hk] at hc;cases hc
     |true=>rw [hk] at hc;exact Qbl hT hI hS' hw hk hc
    |true=>
     rw [hw] at hc;simp only [cond_true] at hc;split at hc
     . rename_i r hr;have hl:=Qes (next:=s.next) hT hI hS'.ctx hS'.mem hS'.n0 hS'.fresh hop hr;split at hc;rename_i hob;rw [hob] at hl;exact Qbm hT hI hS' hw (λc=>qF hr c) hl hc;rename_i ob hob;rw [hob] at hl;simp only [sNat_eq] at hc;exact Qbm hT hI hS' hw (λc=>qF hr c) hl hc
     cases hc;exact Q39 hT hI hS hS' hw hc
  |draw ops done rest pa=>
   unfold Zy at hc;rw [hret,hcur] at hc;cases rest with
   |nil=>simp only [Res.next.injEq] at hc;subst hc;exact Q4y h hret hcur
   |cons q rest=>
    obtain ⟨i,rc⟩:=q;simp only [ZP] at hc;split at hc;cases hc;rename_i o ho;cases hb3:Nat.beq (cls o.op) 3 with
    |true=>
     rw [hb3] at hc;simp only [cond_true] at hc;obtain ⟨Y,f,cs,w,hst,hle,hS'⟩:=Qh1 h hret hcur ho (by simpa using hb3);refine Qj3.of_steps hst hle ?_;cases hw:QI ops s.fr.tm o with
     |false=>
      rw [hw] at hc;cases hk:yE ops s.fr.tm o with
      |false=>rw [hk] at hc;cases hc
      |true=>rw [hk] at hc;exact Qbl hT hI hS' hw hk hc
     |true=>rw [hw] at hc;simp only [cond_true] at hc;exact Q39 hT hI hS hS' hw hc
    |false=>
     rw [hb3] at hc;simp only [cond_false] at hc;have hcl:cls o.op≠3:=λe=>by rw [e] at hb3;cases hb3
     obtain ⟨f,cs,w,rfl,hF,hall,hH,hB,h0⟩:=h.ex;have go:=@Qcm P G n0 w0 cs0 X s f cs w hF hall hH hB h0 h.ctx h.Qo h.fresh h.ids hret ops done i rc rest pa;cases hw:QI ops s.fr.tm o with
     |false=>
      rw [hw] at hc;simp only [cond_false] at hc;cases hk:yE ops s.fr.tm o with
      |false=>rw [hk] at hc;cases hc
      |true=>
       rw [hk] at hc;simp only [cond_true] at hc;split at hc;rename_i tm' hp;simp only [sNat_eq,Res.next.injEq] at hc;subst hc;refine ⟨X,_, .refl P _,Ext.le.refl X,go (pa' :=pa) hcur ho hcl hp (.inl ⟨rfl,rfl,rfl⟩) λhself=>?_⟩;have haw:QI ops tm' o=false:=by rw [(zf (ng:=G.T.ng) hself).2.1];exact hw
       have hak:yE ops tm' o=true:=by rw [(zf (ng:=G.T.ng) hself).2.2];exact hk
       have hd:qy s.fr.nt tm' o .undef:=(J6 hp).1
       exact ⟨λ_=> .inl ⟨haw,hak,hd⟩,λ_=>⟨.inl ⟨haw,hak,hd⟩,λ_=>hd⟩⟩;cases hc
     |true=>
      rw [hw] at hc;simp only [cond_true] at hc;split at hc;rename_i r hr;split at hc;rename_i hob;split at hc;rename_i tm' hp;simp only [sNat_eq,Res.next.injEq] at hc;subst hc;refine ⟨X,_, .refl P _,Ext.le.refl X,go (pa' :=pa) hcur ho hcl hp (.inl ⟨rfl,rfl,rfl⟩) λhself=>?_⟩;obtain ⟨e1,e2,-⟩:=zf (ng:=G.T.ng) hself;have haw:QI ops tm' o=true:=by rw [e2];exact hw
      have hd:qy s.fr.nt tm' o (r.value 0):=(J6 hp).1
      refine ⟨λhc1=> .inr ⟨haw,r,0,hd,λZ w ρc hZ hops hHZ=>?_,λob hob' =>by rw [hob] at hob';cases hob'⟩,λhc1=>⟨.inr ⟨haw,r,0,hd,λZ w ρc hZ hops hHZ=>?_,λob hob' =>by rw [hob] at hob';cases hob'⟩,λhf=>by rw [haw] at hf;cases hf⟩⟩;have hbq:Nat.beq (cls o.op) 1=false:=by
       cases hx:Nat.beq (cls o.op) 1 with
       |false=>rfl
       |true=>exact absurd (by simpa using hx) hc1
      rw [hbq] at hr;exact Yu hT hI (Ctx.Q2d h.ctx hZ) hHZ (λx hx a ha=>hops x hx a (by rw [e1 x hx];exact ha)) hr;rw [hc1] at hr;exact Yu hT hI (Ctx.Q2d h.ctx hZ) hHZ (λx hx a ha=>hops x hx a (by rw [e1 x hx];exact ha)) hr;cases hc;rename_i ob hob;split at hc;rename_i tm' nn hp hget hcls;simp only [sNat_eq,Res.next.injEq] at hc;subst hc;refine ⟨X,_, .refl P _,Ext.le.refl X,go (pa' :=(i,s.next)::pa) hcur ho hcl hp (.inr ⟨ob,hget,rfl,rfl,rfl⟩) λhself=>?_⟩;obtain ⟨e1,e2,-⟩:=zf (ng:=G.T.ng) hself;have haw:QI ops tm' o=true:=by rw [e2];exact hw
      have hd:qy s.fr.nt tm' o (r.value s.next):=(J6 hp).1
      have hne1:cls o.op≠1:=by rw [hcls];simp
      refine ⟨λhc1=> .inr ⟨haw,r,s.next,hd,λZ w ρc hZ hops hHZ=>?_,λob' hob' =>?_⟩,λhc1=>absurd hc1 hne1⟩;have hbq:Nat.beq (cls o.op) 1=false:=by
       cases hx:Nat.beq (cls o.op) 1 with
       |false=>rfl
       |true=>exact absurd (by simpa using hx) hc1
      rw [hbq] at hr;exact Yu hT hI (Ctx.Q2d h.ctx hZ) hHZ (λx hx a ha=>hops x hx a (by rw [e1 x hx];exact ha)) hr;rw [hob] at hob';cases hob';exact ⟨List.mem_cons_self,Tr.get_set_same _ _ _,h.fresh _ (Nat.le_refl _)⟩;cases hc;cases hc;cases hc
end
end Go.Ax
namespace Go.Ax
open Go.RowKit
inductive Jy where
 |go (s:AM)
 |stop (s:AM)
def Jy.state:Jy->AM
 | .go s=>s
 | .stop s=>s
noncomputable def run (G:Env) (k:Nat):AM->Jy:=
 Nat.rec (motive:=λ_=>AM->Jy) (λs=>match Zy G s with| .next s' =>AM.rec (motive:=λ_=>Jy) (λa b c d e=> .go ⟨a,b,c,d,e⟩) s' |_=> .stop s)
  (λ_ ih s=>Jy.rec (motive:=λ_=>Jy) (λs=>ih s) (λs=> .stop s) (ih s)) k
noncomputable def start (G:Env) (f:FuncId) (args:List AV) (H:Tr Q7) (next:Nat) (c:Ctx):Option AM:=
 match G.T.funcs.get f with
 |none=>none
 |some fn=>match fn.body with
  |none=>none
  |some b=>some { fr:={ fn:=f,nt:=max args.length fn.ntmps,tm:=setArgs 0 args (.sk (max args.length fn.ntmps)),cur:= .none,todo:=[.code b],defers:=[],ret:=false,ro:=none},cs:=[],H,next,ctx:=c}
section
variable {P:Program} {G:Env} {n0:Nat} {w0:World} {cs0:List Frame} {X:Ext} {s:AM} {m:Machine}
theorem Sim.ask (h:Sim P G n0 w0 cs0 X s m) (op:BinOp) {a b:E} (ha:a.okB s.ctx.vs=true) (hb:b.okB s.ctx.vs=true):∃v,Sim P G n0 w0 cs0 X { s with ctx:=s.ctx.add ⟨op,a,b,v⟩} m:=by refine ⟨Yf op (a.den X.O) (b.den X.O),h.ex,⟨h.ctx.1,λf hf=>?_⟩,h.Qo,h.fresh,h.ids⟩;rcases List.mem_cons.1 hf with rfl|hf;exact ⟨rfl,E.ZM h.ctx.1 ha,E.ZM h.ctx.1 hb⟩;exact h.ctx.2 f hf
end
end Go.Ax
namespace Go.Ax
open Go.RowKit
def Tr.All {α:Type} (p:Nat->α->Prop):Tr α->Prop
 | .e=>True
 | .k j v=>p j v
 | .n l _ r=>Tr.All p l/\Tr.All p r
theorem Tr.All.get {α:Type} {p:Nat->α->Prop}:∀{t:Tr α} {i:Nat} {x:α},t.All p->t.get i=some x->p i x
 | .e,_,_,_,h=>by simp at h
 | .k j v,i,x,h1,h=>by rw [Tr.Q6y] at h;by_cases e:i=j;rw [if_pos e] at h;cases h;subst e;exact h1;rw [if_neg e] at h;cases h
 | .n l m r,i,x,⟨h1,h2⟩,h=>by rw [Tr.Q6x] at h;by_cases e:i<=m;rw [if_pos e] at h;exact Tr.All.get h1 h;rw [if_neg e] at h;exact Tr.All.get h2 h
def Q8u (d:TypeDesc):Bool:=
 match d with
 | .struct fs=>fs.toList.all λf=>decide (f.name≠ "_")
 |_=>true
def Q09 (P:Program) (t:TypeId) (d:TypeDesc):Bool:=!P.eqGuardType P.depth t&&!P.stoodInHeld t&&Q8u d
theorem info_of {P:Program} {t:TypeId} {i:TypeInfo} (h:∀w:World,(typeInfo t).run P w= .ok i w):P.info? t=some i:=by
 have:=h default;cases hi:P.info? t with
 |none=>simp [typeInfo,hi] at this
 |some j=>simp [typeInfo,hi] at this;rw [this]
def TOK (P:Program) (t:Nat) (ti:TI):Prop:=
 (P.underlying t=some ti.desc/\∃i z,P.info? t=some i/\i.size=ti.size/\i.bytes=ti.bytes/\i.comparable=ti.comparable/\i.methods=ti.methods/\i.zero=some z/\∀X,ti.zero.rel X z)/\
 (ti.cmpOK=true->P.eqGuardType P.depth t=false/\P.stoodInHeld t=false/\∀fs,ti.desc= .struct fs->∀f∈fs.toList,f.name≠ "_")
theorem TOK.of {P:Program} {t:Nat} {ti:TI} {i:TypeInfo} {z:Value} (h1:P.underlying t=some ti.desc) (h2:P.info? t=some i) (h3:i.size=ti.size) (h4:i.bytes=ti.bytes) (h5:i.comparable=ti.comparable) (h6:i.methods=ti.methods)
 (h7:i.zero=some z) (h8:ofV 6 z=some ti.zero) (h9:ti.cmpOK=false\/Q09 P t ti.desc=true):TOK P t ti:=by
 refine ⟨⟨h1,i,z,h2,h3,h4,h5,h6,h7,λX=>jC X 6 z _ h8⟩,λhc=>?_⟩;rcases h9 with h9|h9;rw [hc] at h9;cases h9;simp only [Q09,Bool.and_eq_true,Bool.not_eq_true'] at h9;refine ⟨h9.1.1,h9.1.2,λfs hd f hf=>?_⟩;have h:=h9.2;rw [hd] at h;simp only [Q8u,List.all_eq_true,decide_eq_true_eq] at h;exact h f hf
theorem Qlf {P:Program} {t:TypeId} {d:TypeDesc} (h1:P.eqGuardType P.depth t=false) (h2:P.stoodInHeld t=false) (h3:Q8u d=true):Q09 P t d=true:=by simp [Q09,h1,h2,h3]
def FOK (P:Program) (f:Nat) (fn:Func):Prop:=P.funcs[f]?=some fn/\∀args w,(callFunc f args).run P w= .ok (.enter f args) w
theorem tab_ok {P:Program} {T:Tab} (h1:T.types.All (TOK P)) (h2:T.funcs.All (FOK P)) (h3:P.follows .mixedOrders=true) (h4:∀f∈T.nops,Q3z P f):T.OK P:=by
 refine ⟨λt ti h=>?_,λt ti h=>?_,λf fn h=>?_,h3,h4⟩;exact (h1.get h).1
 exact (h1.get h).2
 exact h2.get h
theorem Qjq {P:Program}:∀{l:List (TypeId×TypeId×Bool)},(∀p∈l,∃info want,P.info? p.1=some info/\P.underlying p.2.1=some (.interface want)/\(Instr.missingMethod want info.methods).isNone=p.2.2)->YL.OK P l:=by
 intro l h t i r hf
 suffices ∃p∈l,p=(t,i,r) by obtain ⟨p,hp,rfl⟩:=this;exact h _ hp
 clear h;induction l with
 |nil=>simp [YL.find] at hf
 |cons p l ih=>
  obtain ⟨a,b,c⟩:=p;simp only [YL.find] at hf;cases hb:(Nat.beq a t&&Nat.beq b i) with
  |true=>rw [hb] at hf;simp only [cond_true,Option.some.injEq] at hf;simp only [Bool.and_eq_true,Nat.beq_eq] at hb;obtain ⟨rfl,rfl⟩:=hb;subst hf;exact ⟨_,List.mem_cons_self,rfl⟩
  |false=>rw [hb] at hf;obtain ⟨p,h1,h2⟩:=ih hf;exact ⟨p,List.mem_cons_of_mem _ h1,h2⟩
def IOK (P:Program) (p:TypeId×TypeId×Bool):Prop:=∃info want,P.info? p.1=some info/\P.underlying p.2.1=some (.interface want)/\(Instr.missingMethod want info.methods).isNone=p.2.2
theorem IOK.of {P:Program} {a b:TypeId} {r:Bool} {info:TypeInfo} {want:Array (String×TypeId)} (h1:P.info? a=some info) (h2:P.underlying b=some (.interface want)) (h3:(lacking want info.methods).isEmpty=r):IOK P (a,b,r):=by
 refine ⟨info,want,h1,h2,?_⟩;subst h3;cases hl:lacking want info.methods with
 |nil=>simp [missingMethod_none hl]
 |cons x l=>obtain ⟨m,hm⟩:=missingMethod_some (by rw [hl];simp:lacking want info.methods≠[]);simp [hm]
def allI (P:Program):List (TypeId×TypeId×Bool)->Prop
 |[]=>True
 |p::l=>IOK P p/\allI P l
theorem tabI_of {P:Program} {l:List (TypeId×TypeId×Bool)} (h:allI P l):YL.OK P l:=by
 refine Qjq λp hp=>?_
 induction l with
 |nil=>cases hp
 |cons q l ih=>rcases List.mem_cons.1 hp with rfl|hp;exact h.1;exact ih h.2 hp
end Go.Ax
namespace Go.Ax
open Go.RowKit
theorem JN {P:Program} {f:FuncId} {vs:Array Value} {w W:World} {u:Value} (h:Calls P f vs w (λe w' =>e= .returned u/\w' =W)) (fr:Frame) (cs:List Frame):
 Steps P (lone (Frame.enter P f vs .normal) (fr::cs) w) (lone (fr.finish u) cs W):=by
 obtain ⟨e,w',g,⟨rfl,rfl⟩,hc,_,hl⟩:=h (fr::cs);exact Steps.trans hc (.one (step_leave_returned hl))
end Go.Ax
namespace Go.Ax
open Go.RowKit
theorem ZV {P:Program} {f:FuncId} {vs:Array Value} {w:World} {q:Value->World->Prop} (h:Calls P f vs w (λe w' =>∃u,e= .returned u/\q u w')) (fr:Frame) (cs:List Frame):
 ∃u w',q u w' /\Steps P (lone (Frame.enter P f vs .normal) (fr::cs) w) (lone (fr.finish u) cs w'):=by
 obtain ⟨e,w',g,⟨u,rfl,hq⟩,hc,_,hl⟩:=h (fr::cs);exact ⟨u,w',hq,Steps.trans hc (.one (step_leave_returned hl))⟩
end Go.Ax
namespace Go.Ax
open Go.RowKit
theorem Q31 {A:Array Oper} {listed:Array Bool} (hedge:∀i o,A[i]?=some o->∀e∈Qi o,e<i):∀(n i:Nat),i<=n->i<A.size->¬Lst listed i->∃j o,A[j]?=some o/\¬Lst listed j/\∀e∈Qi o,Lst listed e
 |0,i,hn,hi,hl=>by
  have:i=0:=by omega
  subst this;refine ⟨0,A[0],Array.getElem?_eq_getElem hi,hl,λe he=>?_⟩;have:=hedge 0 _ (Array.getElem?_eq_getElem hi) e he;omega
 |n+1,i,hn,hi,hl=>by
  by_cases h:∀e∈Qi A[i],Lst listed e;exact ⟨i,A[i],Array.getElem?_eq_getElem hi,hl,h⟩;have:∃e,e∈Qi A[i]/\¬Lst listed e:=Classical.byContradiction λhc=>h λe he=>Classical.byContradiction λhne=>hc ⟨e,he,hne⟩
  obtain ⟨e,he,hne⟩:=this;have hlt:=hedge i _ (Array.getElem?_eq_getElem hi) e he;exact Q31 hedge n e (by omega) (by omega) hne
end Go.Ax
namespace Go.Ax
open Go.RowKit
end Go.Ax
