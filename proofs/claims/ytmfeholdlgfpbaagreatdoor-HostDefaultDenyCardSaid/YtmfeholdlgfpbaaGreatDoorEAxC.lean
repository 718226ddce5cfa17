/-
 THE ABSTRACT EXECUTOR, 18: the model's steps on a frame of any kind. Conditions: none.
-/
import Derived.Test.YtmfeholdlgfpbaaGreatDoorEAxB
import Derived.OrdersHeld
import Derived.Lib.UnsafeStr
namespace Go.Ax
open Go.RowKit
section
variable {P:Program} {fr:Frame} {cs:List Frame} {w:World} {k:List Item}
theorem Qdq (hm:fr.mode= .run) (ht:fr.todo= .code .skip::k):step P (lone fr cs w)= .next (lone { fr with todo:=k} cs w):=by cases fr;simp only at hm ht;subst hm ht;exact step_lone_go (by simp [stepG,stepG.exec])
theorem Qgx {l:Nat} (hm:fr.mode= .run) (ht:fr.todo= .code (.label l)::k):step P (lone fr cs w)= .next (lone { fr with todo:=k} cs w):=by cases fr;simp only at hm ht;subst hm ht;exact step_lone_go (by simp [stepG,stepG.exec])
theorem Qc7 {l:Nat} (hm:fr.mode= .run) (ht:fr.todo= .inBlock l::k):step P (lone fr cs w)= .next (lone { fr with todo:=k} cs w):=by cases fr;simp only at hm ht;subst hm ht;exact step_lone_go (by simp [stepG,stepG.exec])
theorem Qc6 {b:Code} (hm:fr.mode= .run) (ht:fr.todo= .inScope b::k):step P (lone fr cs w)= .next (lone { fr with todo:=k} cs w):=by cases fr;simp only at hm ht;subst hm ht;exact step_lone_go (by simp [stepG,stepG.exec])
theorem Qj6 {a b:Code} (hm:fr.mode= .run) (ht:fr.todo= .code (.seq a b)::k):step P (lone fr cs w)= .next (lone { fr with todo:= .code a:: .code b::k} cs w):=by cases fr;simp only at hm ht;subst hm ht;exact step_lone_go (by simp [stepG,stepG.exec])
theorem Q8g {x:Operand} {a b:Code} {t:Bool} (hm:fr.mode= .run) (ht:fr.todo= .code (.cond x a b)::k) (hx:evC fr.tmps x= .bool t):step P (lone fr cs w)= .next (lone { fr with todo:= .code (if t then a else b)::k} cs w):=by rw [<-YF] at hx;cases fr;simp only at hm ht;subst hm ht;exact step_lone_go (by simp [stepG,stepG.exec,hx])
theorem Qgz {i:Nat} {b:Code} (hm:fr.mode= .run) (ht:fr.todo= .code (.block i b)::k):step P (lone fr cs w)= .next (lone { fr with todo:= .code b:: .inBlock i::k} cs w):=by cases fr;simp only at hm ht;subst hm ht;exact step_lone_go (by simp [stepG,stepG.exec])
theorem Qjt {b:Code} (hm:fr.mode= .run) (ht:fr.todo= .code (.loop b)::k):step P (lone fr cs w)= .next (lone { fr with todo:= .code b:: .inLoop b::k} cs w):=by cases fr;simp only at hm ht;subst hm ht;exact step_lone_go (by simp [stepG,stepG.exec])
theorem Qds {b:Code} (hm:fr.mode= .run) (ht:fr.todo= .inLoop b::k):step P (lone fr cs w)= .next (lone { fr with todo:= .code b:: .inLoop b::k} cs w):=by cases fr;simp only at hm ht;subst hm ht;exact step_lone_go (by simp [stepG,stepG.exec])
theorem Qgw {b:Code} (hm:fr.mode= .run) (ht:fr.todo= .code (.scope b)::k):step P (lone fr cs w)= .next (lone { fr with todo:= .code b:: .inScope b::k} cs w):=by cases fr;simp only at hm ht;subst hm ht;exact step_lone_go (by simp [stepG,stepG.exec])
theorem Qjv {i:Nat} {k' :List Item} (hm:fr.mode= .run) (ht:fr.todo= .code (.exit i)::k) (h:exitTo i k=some k'):step P (lone fr cs w)= .next (lone { fr with todo:=k' } cs w):=by cases fr;simp only at hm ht;subst hm ht;exact step_lone_go (by simp [stepG,stepG.exec,h])
theorem Qju {i:Nat} {k' :List Item} (hm:fr.mode= .run) (ht:fr.todo= .code (.goto i)::k) (h:gotoIn i k=some k'):step P (lone fr cs w)= .next (lone { fr with todo:=k' } cs w):=by cases fr;simp only at hm ht;subst hm ht;exact step_lone_go (by simp [stepG,stepG.exec,h])
theorem Qmj (hm:fr.mode= .run) (ht:fr.todo= .code .ret::k) (hr:fr.roundOf=none):step P (lone fr cs w)= .next (lone { fr with mode:= .returning} cs w):=by cases fr;simp only at hm ht hr;subst hm ht hr;exact step_lone_go (by simp [stepG,stepG.exec])
theorem Qj8 (hm:fr.mode= .run) (ht:fr.todo=[]) (hr:fr.roundOf=none):step P (lone fr cs w)= .next (lone { fr with mode:= .returning} cs w):=by cases fr;simp only at hm ht hr;subst hm ht hr;exact step_lone_go (by simp [stepG,stepG.exec])
theorem Q60 {id:Nat} {ops:Array Oper} (hm:fr.mode= .run) (ht:fr.todo= .code (.region id ops false)::k):step P (lone fr cs w)= .next (lone { fr with todo:= .inRegion ops (List.range ops.size)::k} cs w):=by cases fr;simp only at hm ht;subst hm ht;exact step_lone_go (by simp [stepG,stepG.exec])
theorem Qjw {id:Nat} {ops:Array Oper} (hmx:P.follows .mixedOrders=true) (hm:fr.mode= .run) (ht:fr.todo= .code (.region id ops true)::k):
 ∃t,step P (lone fr cs w)= .next (lone { fr with todo:= .inRegion ops (Region.linearise.go .any ops ops.size t (Array.replicate ops.size false) [])::k} cs { w with drawn:=w.drawn+1}):=by
 refine ⟨w.tape w.drawn (.order fr.fn id),?_⟩;cases fr;simp only at hm ht;subst hm ht;exact step_lone_go (by simp [stepG,stepG.exec,choose,Sem.run,Question.forced,Question.cut,Region.schedule,hmx,Region.linearise])
theorem YB {ops:Array Oper} (hm:fr.mode= .run) (ht:fr.todo= .inRegion ops []::k):step P (lone fr cs w)= .next (lone { fr with todo:=k} cs w):=by cases fr;simp only at hm ht;subst hm ht;exact step_lone_go (by simp [stepG,stepG.exec])
theorem Q62 {ops:Array Oper} {i:Nat} {l:List Nat} {o:Oper} (hm:fr.mode= .run) (ht:fr.todo= .inRegion ops (i::l)::k) (ho:ops[i]?=some o) (hw:Region.wanted o (yielded ops fr.tmps)=false):
 step P (lone fr cs w)= .next (lone (fr.finish undef) cs w):=by
 cases fr;simp only at hm ht;subst hm ht;simp only at hw;exact step_lone_go (by simp [stepG,stepG.exec,ho,hw])
theorem zA {ops:Array Oper} {i:Nat} {l:List Nat} {o:Oper} {v:Value} {w' :World} (hm:fr.mode= .run) (ht:fr.todo= .inRegion ops (i::l)::k) (ho:ops[i]?=some o) (hw:Region.wanted o (yielded ops fr.tmps)=true)
 (hd:∀c,o.op≠ .defer c) (hr:(execOp (evC fr.tmps) o).run P w= .ok (.value v) w'):step P (lone fr cs w)= .next (lone (fr.finish v) cs w'):=by
 rw [<-YF] at hr;cases fr;simp only at hm ht;subst hm ht;simp only at hw;refine step_lone_go ?_;have:∀(ro:Option Nat),(match ro,o.op with|some l, .defer c=>(0:Nat)|_,_=>1)=1:=by intro ro;cases ro<;>cases ho' :o.op<;>first|rfl|exact absurd ho' (hd _)
 simp only [stepG,stepG.exec,ho,Option.map_some,Option.getD_some,hw,if_true,stepG.oper,Frame.oper?];split;rename_i h1 h2;exact absurd h2 (hd _);simp [stepG.apply,Sem.runT_eq,hr]
theorem Qc4 {ops:Array Oper} {i:Nat} {l:List Nat} {o:Oper} {w' :World} (hm:fr.mode= .run) (ht:fr.todo= .inRegion ops (i::l)::k) (ho:ops[i]?=some o) (hw:Region.wanted o (yielded ops fr.tmps)=true)
 (hd:∀c,o.op≠ .defer c) (hr:(execOp (evC fr.tmps) o).run P w= .ok .skip w'):step P (lone fr cs w)= .next (lone (fr.finish undef) cs w'):=by
 rw [<-YF] at hr;cases fr;simp only at hm ht;subst hm ht;simp only at hw;refine step_lone_go ?_;simp only [stepG,stepG.exec,ho,Option.map_some,Option.getD_some,hw,if_true,stepG.oper,Frame.oper?];split;rename_i h1 h2;exact absurd h2 (hd _);simp [stepG.apply,Sem.runT_eq,hr]
theorem Q2q {ops:Array Oper} {i:Nat} {l:List Nat} {o:Oper} {f:FuncId} {args:Array Value} {w' :World} (hm:fr.mode= .run) (ht:fr.todo= .inRegion ops (i::l)::k) (ho:ops[i]?=some o) (hw:Region.wanted o (yielded ops fr.tmps)=true)
 (hd:∀c,o.op≠ .defer c) (hr:(execOp (evC fr.tmps) o).run P w= .ok (.enter f args) w'):step P (lone fr cs w)= .next (lone (Frame.enter P f args .normal) (fr::cs) w'):=by
 rw [<-YF] at hr;cases fr;simp only at hm ht;subst hm ht;simp only at hw;refine step_lone_go ?_;simp only [stepG,stepG.exec,ho,Option.map_some,Option.getD_some,hw,if_true,stepG.oper,Frame.oper?];split;rename_i h1 h2;exact absurd h2 (hd _);simp [stepG.apply,Sem.runT_eq,hr]
theorem Qc5 {ops:Array Oper} {i:Nat} {l:List Nat} {o:Oper} {lp:Nat} {f:FuncId} {tmps:Array Value} {a b:Code} {w' :World} (hm:fr.mode= .run) (ht:fr.todo= .inRegion ops (i::l)::k) (ho:ops[i]?=some o) (hw:Region.wanted o (yielded ops fr.tmps)=true)
 (hd:∀c,o.op≠ .defer c) (hr:(execOp (evC fr.tmps) o).run P w= .ok (.round lp f tmps a b) w'):step P (lone fr cs w)= .next (lone (Frame.round lp f tmps a b .normal) (fr::cs) w'):=by
 rw [<-YF] at hr;cases fr;simp only at hm ht;subst hm ht;simp only at hw;refine step_lone_go ?_;simp only [stepG,stepG.exec,ho,Option.map_some,Option.getD_some,hw,if_true,stepG.oper,Frame.oper?];split;rename_i h1 h2;exact absurd h2 (hd _);simp [stepG.apply,Sem.runT_eq,hr]
theorem Q61 {x:Operand} {ps:Array Tmp} {a b:Code} {l:Nat} {mark:List Deferred} {f:FuncId} {args:Array Value} {w1 w' :World} (hm:fr.mode= .run) (ht:fr.todo= .code (.rangeFunc x ps a b)::k)
 (he:(Instr.enterLoop fr.fn fr.tmps ps a b fr.roundOf).run P w= .ok (l,mark) w1)
 (hr:(do let d <-resolve (evC fr.tmps) { callee:= .value x,args:=#[.const (.func (.yield l) #[] #[])],argTypes:=#[]} 0;invoke d.target d.args:Sem Next).run P w1= .ok (.enter f args) w'):
 step P (lone fr cs w)= .next (lone (Frame.enter P f args .normal) ({ fr with todo:= .inRangeFunc l::k,defers:=mark++fr.defers}::cs) w'):=by
 have hev:∀(d:List Deferred) (td:List Item),({ fr with todo:=td,defers:=d}:Frame).eval=evC fr.tmps:=λd td=>YF _
 cases fr;simp only at hm ht;subst hm ht;simp only at he hr hev;refine step_lone_go ?_;simp only [stepG,stepG.exec,Sem.runT_eq,he];simp [stepG.apply,Sem.runT_eq,hev,hr]
theorem Q46 {l:Nat} {w' :World} (hm:fr.mode= .run) (ht:fr.todo= .beginRound::k) (hro:fr.roundOf=some l) (hr:(Instr.beginRound l).run P w= .ok () w'):
 step P (lone fr cs w)= .next (lone { fr with todo:=k} cs w'):=by
 cases fr;simp only at hm ht hro;subst hm ht hro;refine step_lone_go ?_;simp [stepG,stepG.exec,stepG.apply,Sem.runT_eq,hr,Frame.finish]
theorem Q0g {l:Nat} {j:Option Code} {w' :World} (hm:fr.mode= .run) (ht:fr.todo= .endRangeFunc l::k) (hr:(Instr.endLoop l).run P w= .ok j w'):
 step P (lone fr cs w)= .next (lone { fr with todo:=(j.map Item.code).toList++k} cs w'):=by
 cases fr;simp only at hm ht;subst hm ht;refine step_lone_go ?_;simp [stepG,stepG.exec,Sem.runT_eq,hr]
theorem Q45 {l:Nat} {j:Option Code} {v:Value} {w' :World} {c:Frame} (hm:fr.mode= .run) (hk:fr.kind= .normal) (hro:fr.roundOf=some l)
 (ht:(fr.todo=[]/\j=none)\/(fr.todo= .code .ret::k/\j=some .ret)\/(∃i,fr.todo= .code (.exit i)::k/\exitTo i k=none/\j=some (.exit i))\/(∃i,fr.todo= .code (.goto i)::k/\gotoIn i k=none/\j=some (.goto i)))
 (hr:(Instr.endRound l j).run P w= .ok v w'):step P (lone fr (c::cs) w)= .next (lone (c.finish v) cs w'):=by
 cases fr;simp only at hm ht hro hk;subst hm hro hk;refine step_lone_go ?_;rcases ht with ⟨rfl,rfl⟩|⟨rfl,rfl⟩|⟨i,rfl,he,rfl⟩|⟨i,rfl,he,rfl⟩;simp [stepG,stepG.exec,Sem.runT_eq,hr,doReturn];simp [stepG,stepG.exec,Sem.runT_eq,hr,doReturn];simp [stepG,stepG.exec,he,Sem.runT_eq,hr,doReturn];simp [stepG,stepG.exec,he,Sem.runT_eq,hr,doReturn]
theorem Q0f {b:Nat} {ds:List Deferred} {w' :World} {args:Array Value} (hm:fr.mode= .returning) (hd:fr.defers={ target:= .collected b,args}::ds) (hr:(Instr.takeDeferred b).run P w= .ok [] w'):
 step P (lone fr cs w)= .next (lone { fr with defers:=ds} cs w'):=by
 cases fr;simp only at hm hd;subst hm hd;refine step_lone_go ?_;simp [stepG,unwind,Sem.runT_eq,hr]
theorem Qgy {ops:Array Oper} {i:Nat} {l:List Nat} {o:Oper} {d:Deferred} {w' :World} (hm:fr.mode= .run) (ht:fr.todo= .inRegion ops (i::l)::k) (ho:ops[i]?=some o) (hw:Region.wanted o (yielded ops fr.tmps)=true)
 (hro:fr.roundOf=none) (hr:(execOp (evC fr.tmps) o).run P w= .ok (.defer d) w'):step P (lone fr cs w)= .next (lone (({ fr with defers:=d::fr.defers}:Frame).finish undef) cs w'):=by
 have hev:fr.eval=evC fr.tmps:=YF _;cases fr;simp only at hm ht hw hr hro hev;subst hm ht hro;refine step_lone_go ?_;simp only [stepG,stepG.exec,ho,Option.map_some,Option.getD_some,hw,if_true];simp only [stepG.oper,Frame.oper?,ho];simp [stepG.apply,Sem.runT_eq,hev,hr]
theorem Q0h {f:FuncId} {cap args:Array Value} {ds:List Deferred} (hm:fr.mode= .returning) (hd:fr.defers={ target:= .fn (.func f) cap,args}::ds) (hr:(callFunc f (args++cap)).run P w= .ok (.enter f (args++cap)) w):
 step P (lone fr cs w)= .next (lone (Frame.enter P f (args++cap) .deferred) ({ fr with defers:=ds}::cs) w):=by
 cases fr;simp only at hm hd;subst hm hd;refine step_lone_go ?_;simp [stepG,unwind,callDeferred,invoke,Sem.runT_eq,hr]
theorem Qc3 {ops:Array Oper} {i:Nat} {l:List Nat} {o:Oper} {c:Frame} {w' :World} (hm:fr.mode= .run) (ht:fr.todo= .inRegion ops (i::l)::k) (ho:ops[i]?=some o) (hw:Region.wanted o (yielded ops fr.tmps)=true)
 (hro:fr.roundOf=none) (hc:c.mode= .returning) (hk:fr.kind= .deferred) (hr:(execOp (evC fr.tmps) o).run P w= .ok .recover w'):step P (lone fr (c::cs) w)= .next (lone (fr.finish .nilIface) (c::cs) w'):=by
 have hev:fr.eval=evC fr.tmps:=YF _;have htr:tryRecover fr (c::cs)=none:=by unfold tryRecover;rw [hk];simp only;rw [hc]
 cases fr;simp only at hm ht hw hr hro hev htr;subst hm ht hro;refine step_lone_go ?_;simp only [stepG,stepG.exec,ho,Option.map_some,Option.getD_some,hw,if_true];simp only [stepG.oper,Frame.oper?,ho];simp [stepG.apply,Sem.runT_eq,hev,hr,htr]
theorem Qc2 {fn:Func} {v:Value} {c:Frame} {w' :World} (hm:fr.mode= .returning) (hd:fr.defers=[]) (hk:fr.kind= .deferred) (hc:c.mode= .returning) (hf:P.funcs[fr.fn]?=some fn) (hr:(results fn fr.tmps).run P w= .ok v w'):
 step P (lone fr (c::cs) w)= .next (lone c cs w'):=by
 cases fr;simp only at hm hd hk hf hr;subst hm hd hk;refine step_lone_go ?_;simp [stepG,unwind,doReturn,hf,Sem.runT_eq,hr,hc]
theorem Qdr {fn:Func} {v:Value} {c:Frame} {w' :World} (hm:fr.mode= .returning) (hd:fr.defers=[]) (hk:fr.kind= .normal) (hf:P.funcs[fr.fn]?=some fn) (hr:(results fn fr.tmps).run P w= .ok v w'):
 step P (lone fr (c::cs) w)= .next (lone (c.finish v) cs w'):=by
 cases fr;simp only at hm hd hk hf hr;subst hm hd hk;refine step_lone_go ?_;simp [stepG,unwind,doReturn,hf,Sem.runT_eq,hr]
end
end Go.Ax
namespace Go.Ax
open Go.RowKit
def Qgk (X:Ext):Qj->Item->Prop
 | .code c,i=>i= .code c
 | .inBlock n,i=>i= .inBlock n
 | .inLoop b,i=>i= .inLoop b
 | .inScope b,i=>i= .inScope b
 | .inRangeFunc l,i=>∃p,X.V l=some p/\i= .inRangeFunc p.blk
 | .endRangeFunc l,i=>∃p,X.V l=some p/\i= .endRangeFunc p.blk
 | .beginRound,i=>i= .beginRound
def Yj (X:Ext):List Qj->List Item->Prop
 |[],is=>is=[]
 |a::as,is=>∃i is',is=i::is' /\Qgk X a i/\Yj X as is'
theorem Qf3 {X Y:Ext} (h:X.le Y) {a:Qj} {i:Item} (r:Qgk X a i):Qgk Y a i:=by
 cases a<;>simp only [Qgk] at*<;>first
  |exact r
  |(obtain ⟨p,hp,e⟩:=r;exact ⟨p,h.V _ _ hp,e⟩)
theorem Ym {X Y:Ext} (h:X.le Y):∀{as:List Qj} {is:List Item},Yj X as is->Yj Y as is
 |[],_,r=>r
 |_::_,_,⟨i,is',e,h1,h2⟩=>⟨i,is',e,Qf3 h h1,Ym h h2⟩
theorem za {X:Ext} {id:Nat}:∀{as ks:List Qj} {is:List Item},Yj X as is->YP id as=some ks->∃k',exitTo id is=some k' /\Yj X ks k'
 |[],_,_,_,h=>by simp [YP] at h
 |a::as,ks,_,⟨i,is',rfl,h1,h2⟩,h=>by
  cases a<;>simp only [Qgk] at h1<;>simp only [YP] at h
  case inBlock n=>
   subst h1;cases hb:Nat.beq n id with
   |true=>
    rw [hb] at h;cases h
    exact ⟨is',by have:n=id:=by simpa using hb
                  simp [exitTo,this],h2⟩
   |false=>
    rw [hb] at h;obtain ⟨k',e1,e2⟩:=za h2 h;refine ⟨k',?_,e2⟩;have:(n==id)=false:=by
     cases hb' :n==id with
     |false=>rfl
     |true=>have:n=id:=by simpa using hb'
            subst this;simp at hb
    simp [exitTo,this,e1]
  all_goals
   obtain ⟨k',e1,e2⟩:=za h2 h
   first
    |(subst h1;exact ⟨k',by simp [exitTo,e1],e2⟩)
    |(obtain ⟨p,_,rfl⟩:=h1;exact ⟨k',by simp [exitTo,e1],e2⟩)
theorem ze {X:Ext} {id:Nat}:∀{as:List Qj} {is:List Item},Yj X as is->YP id as=none->exitTo id is=none
 |[],_,h,_=>by cases h;rfl
 |a::as,_,⟨i,is',rfl,h1,h2⟩,h=>by
  cases a<;>simp only [Qgk] at h1<;>simp only [YP] at h
  case inBlock n=>
   subst h1;cases hb:Nat.beq n id with
   |true=>rw [hb] at h;cases h
   |false=>
    rw [hb] at h;have:=ze h2 h;have hne:(n==id)=false:=by
     cases hb' :n==id with
     |false=>rfl
     |true=>have:n=id:=by simpa using hb'
            subst this;simp at hb
    simp [exitTo,hne,this]
  all_goals
   have:=ze h2 h
   first
    |(subst h1;simp [exitTo,this])
    |(obtain ⟨p,_,rfl⟩:=h1;simp [exitTo,this])
theorem qY {X:Ext} {id:Nat}:∀{as ks:List Qj} {is:List Item},Yj X as is->YO id as=some ks->∃k',gotoIn id is=some k' /\Yj X ks k'
 |[],_,_,_,h=>by simp [YO] at h
 |a::as,ks,_,⟨i,is',rfl,h1,h2⟩,h=>by
  cases a<;>simp only [Qgk] at h1<;>simp only [YO] at h
  case inScope b=>subst h1;split at h;rename_i rest hr;cases h;exact ⟨.code rest:: .inScope b::is',by simp [gotoIn,hr],_,_,rfl,rfl,_,_,rfl,rfl,h2⟩;rename_i hr;obtain ⟨k',e1,e2⟩:=qY h2 h;exact ⟨k',by simp [gotoIn,hr,e1],e2⟩
  all_goals
   obtain ⟨k',e1,e2⟩:=qY h2 h
   first
    |(subst h1;exact ⟨k',by simp [gotoIn,e1],e2⟩)
    |(obtain ⟨p,_,rfl⟩:=h1;exact ⟨k',by simp [gotoIn,e1],e2⟩)
theorem qZ {X:Ext} {id:Nat}:∀{as:List Qj} {is:List Item},Yj X as is->YO id as=none->gotoIn id is=none
 |[],_,h,_=>by cases h;rfl
 |a::as,_,⟨i,is',rfl,h1,h2⟩,h=>by
  cases a<;>simp only [Qgk] at h1<;>simp only [YO] at h
  case inScope b=>subst h1;split at h;cases h;rename_i hr;have:=qZ h2 h;simp [gotoIn,hr,this]
  all_goals
   have:=qZ h2 h
   first
    |(subst h1;simp [gotoIn,this])
    |(obtain ⟨p,_,rfl⟩:=h1;simp [gotoIn,this])
inductive Reach (ops:List Oper):Nat->Nat->Prop where
 |edge {j i:Nat} {o:Oper}:ops[j]?=some o->i∈Qi o->Reach ops j i
 |step {j k i:Nat} {o:Oper}:ops[j]?=some o->k∈Qi o->Reach ops k i->Reach ops j i
theorem jE {i:Nat}:∀{es:List Edge},i∈Q3f es↔∃e∈es,Region.binds .any e=true/\e.on=i
 |[]=>by simp [Q3f]
 |e::es=>by
  simp only [Q3f];cases hb:Region.binds .any e with
  |true=>simp only [cond_true,List.mem_cons,jE,exists_eq_or_imp,hb,true_and];constructor<;>rintro (h|h)<;>first|exact .inl h.symm|exact .inr h
  |false=>simp only [cond_false,List.mem_cons,jE,exists_eq_or_imp,hb,Bool.false_eq_true,false_and,false_or]
theorem Q14 {o:Oper} {i:Nat}:i∈Qi o↔∃e∈o.after,Region.binds .any e=true/\e.on=i:=by unfold Qi;rw [jE];simp
theorem zy {t:Tr Nat} {i:Nat}:∀{es:List Nat} {s:Nat},(Qhk t Tr.get es s).testBit i=true->s.testBit i=true\/∃e∈es,e=i\/((t.get e).getD 0).testBit i=true
 |[],s,h=> .inl h
 |e::es,s,h=>by
  simp only [Qhk] at h;rcases zy h with h|⟨e',he',h⟩;have h' :(s ||| (2^e ||| (t.get e).getD 0)).testBit i=true:=h
  rw [Nat.testBit_or,Nat.testBit_or,Bool.or_eq_true,Bool.or_eq_true] at h';rcases h' with h' |h' |h';exact .inl h'
  rw [Nat.testBit_two_pow] at h';exact .inr ⟨e,by simp, .inl (by simpa using h')⟩
  exact .inr ⟨e,by simp, .inr h'⟩
  exact .inr ⟨e',by simp [he'],h⟩
def BOK (ops:List Oper) (B:Tr Nat):Prop:=∀j i,((B.get j).getD 0).testBit i=true->Reach ops j i
theorem Qg7 {ops:List Oper}:∀(l:List Oper) (i:Nat) (t:Tr Nat),l=ops.drop i->BOK ops t->BOK ops (Q56 l i t)
 |[],_,_,_,h=>h
 |o::l,i,t,hl,h=>by
  simp only [Q56,sNat_eq];have hi:ops[i]?=some o:=by have:=congrArg (·[0]?) hl;simpa using this.symm
  refine Qg7 l (i+1) _ ?_ ?_;have:=congrArg List.tail hl;simpa using this;intro j k hk;rw [Tr.Z9] at hk;by_cases e:j=i;subst e;rw [if_pos rfl] at hk;rcases zy (s:=0) hk with hz|⟨e,he,hh⟩;simp at hz;rcases hh with rfl|hh;exact .edge hi he
  exact .step hi he (h e k hh)
  rw [if_neg e] at hk;exact h j k hk
theorem Reach.closed {ops:List Oper} {L:Nat->Prop} (hc:∀j o,L j->ops[j]?=some o->∀e∈Qi o,L e) {j i:Nat} (h:Reach ops j i):(∀o,ops[j]?=some o->∀e∈Qi o,L e)->L i:=by
 induction h with
 |edge ho he=>intro hj;exact hj _ ho _ he
 |step ho he _ ih=>intro hj;exact ih λo' ho' e' he' =>hc _ o' (hj _ ho _ he) ho' e' he'
end Go.Ax
namespace Go.Ax
open Go.RowKit
def Lst (l:Array Bool) (i:Nat):Prop:=l.getD i false=true
def qy (nt:Nat) (tm:Tr AV) (o:Oper) (v:AV):Prop:=∀d,o.dst=some d->d<nt/\tm.get d=some v
def Q5s (P:Program) (G:Env) (X:Ext) (n0:Nat) (Hp H:Tr Q7) (ops:List Oper) (nt:Nat) (tm:Tr AV) (pa:List (Nat×Nat)) (i:Nat) (o:Oper):Prop:=
 (QI ops tm o=false/\yE ops tm o=true/\qy nt tm o .undef)\/
 (QI ops tm o=true/\∃(r:LR) (b:Nat),qy nt tm o (r.value b)/\
  (∀Y w ρc,X.le Y->(∀x∈o.op.operands.toList,∀a,ev G.T.ng tm x=some a->a.rel Y (ρc x))->Qq Y n0 Hp w->r.Qdv P Y w (execOp ρc o))/\
  (∀ob,r.obj=some ob->(i,b)∈pa/\H.get b=some ob/\X.V b=none))
def Topo (ops:List Oper):List Nat->Prop
 |[]=>True
 |i::dl=>(∀o,ops[i]?=some o->∀e∈Qi o,e∈dl)/\i<ops.length/\Topo ops dl
structure Q89 (P:Program) (G:Env) (X:Ext) (n0:Nat) (H:Tr Q7) (top:Bool) (ops:List Oper) (nt:Nat) (tm:Tr AV) (tmps:Array Value) (done:Nat) (rest:List (Nat×List Nat)) (pa:List (Nat×Nat)) (listed:Array Bool):Prop where
 size:listed.size=ops.length
 sub:∀i,Lst listed i->done.testBit i=true
 closed:∀j o,Lst listed j->ops[j]?=some o->∀e∈Qi o,Lst listed e
 plan:∃dl,YE ops (Q56 ops 0 (.sk ops.length)) ops.length done dl rest=true/\Topo ops dl/\∀i,done.testBit i=true↔i∈dl
 light:∀i o,done.testBit i=true->¬Lst listed i->ops[i]?=some o->cls o.op≠3
 looks:∀k j ok oj,done.testBit k=true->done.testBit j=true->ops[k]?=some ok->ops[j]?=some oj->cls oj.op≠3->looksAt ops ok oj=true->(((Q56 ops 0 (.sk ops.length)).get k).getD 0).testBit j=true
 inRange:∀i,done.testBit i=true->i<ops.length
 tmr:tmps.size=nt/\∀t,(∀i o,done.testBit i=true->¬Lst listed i->ops[i]?=some o->o.dst≠some t)->((tm.get t).getD .undef).rel X (tmps.getD t undef)
 prom:∀i o,done.testBit i=true->¬Lst listed i->ops[i]?=some o->
  (cls o.op≠1->Q5s P G X n0 .e H ops nt tm pa i o)/\
  (cls o.op=1->(top=true->Q5s P G X n0 H H ops nt tm pa i o)/\(QI ops tm o=false->qy nt tm o .undef)/\(∀d,o.dst=some d->d<nt))
theorem bok (ops:List Oper):BOK ops (Q56 ops 0 (.sk ops.length)):=Qg7 ops 0 (.sk ops.length) (by simp) (λj i h=>by simp at h)
theorem Q89.before {P:Program} {G:Env} {X:Ext} {n0:Nat} {H:Tr Q7} {top:Bool} {ops:List Oper} {nt:Nat} {tm:Tr AV} {tmps:Array Value} {done:Nat} {rest:List (Nat×List Nat)} {pa:List (Nat×Nat)} {listed:Array Bool}
 (h:Q89 P G X n0 H top ops nt tm tmps done rest pa listed) {i j:Nat} {o:Oper} (ho:ops[i]?=some o) (he:∀e∈Qi o,Lst listed e) (hb:(((Q56 ops 0 (.sk ops.length)).get i).getD 0).testBit j=true):Lst listed j:=by
 refine (bok ops i j hb).closed (L:=Lst listed) (λj o hj hoj=>h.closed j o hj hoj) λo' ho' =>?_
 rw [ho] at ho';cases ho';exact he
theorem Qhb {X:Ext} {a:AV} {b:Bool} (h:a.rel X (.bool b)) (hn:a≠ .top):a= .bool b:=by cases a<;>simp only [AV.rel,reduceCtorEq,false_and,and_false,or_self,exists_false,Value.bool.injEq] at h;rw [h];cases h;exact absurd rfl hn
theorem zn {X:Ext} {ops:List Oper} {A:Array Oper} (hA:A.toList=ops) {tm:Tr AV} {tmps:Array Value} {o:Oper}
 (h:∀j want g d,o.guard=some (j,want)->ops[j]?=some g->g.dst=some d->((tm.get d).getD .undef).rel X (tmps.getD d undef)) (hk:yE ops tm o=true):Region.wanted o (yielded A tmps)=QI ops tm o:=by
 unfold yE at hk;unfold Region.wanted QI;split;rename_i hg;rw [hg];rename_i j want hg;rw [hg] at hk ⊢;simp only [ZP] at hk ⊢;have hAj:A[j]?=ops[j]?:=by rw [<-hA];simp
 unfold yielded;rw [hAj];cases hj:ops[j]? with
 |none=>simp
 |some g=>
  simp only [Option.bind_some];cases hd:g.dst with
  |none=>simp
  |some d=>
   simp only [Option.bind_some];have hr:=h j want g d hg hj hd;rw [hj] at hk;simp only [hd] at hk;have htop:tm.get d≠some .top:=λe=>by rw [e] at hk;cases hk
   cases hv:tmps[d]? with
   |none=>
    have hu:tmps.getD d undef=undef:=by simp [Array.getD_eq_getD_getElem?,hv]
    rw [hu] at hr;have:∀b,tm.get d≠some (.bool b):=by intro b hb;rw [hb] at hr;simp only [Option.getD_some,AV.rel] at hr;cases hr
    cases ht:tm.get d with
    |none=>rfl
    |some a=>cases a<;>first|rfl|exact absurd ht (this _)
   |some v=>
    have hu:tmps.getD d undef=v:=by simp [Array.getD_eq_getD_getElem?,hv]
    rw [hu] at hr;cases v
    case bool b=>
     have:=Qhb hr (λe=>by
      cases ht:tm.get d with
      |none=>rw [ht] at e;cases e
      |some a=>rw [ht] at e;exact htop (by rw [ht,<-e];rfl))
     cases ht:tm.get d with
     |none=>rw [ht] at this;cases this
     |some a=>rw [ht] at this;simp only [Option.getD_some] at this;subst this;cases b<;>cases want<;>rfl
    all_goals
     have:∀b,tm.get d≠some (.bool b):=by intro b hb;rw [hb] at hr;simp only [Option.getD_some,AV.rel] at hr;cases hr
     cases ht:tm.get d with
     |none=>rfl
     |some a=>cases a<;>first|rfl|exact absurd ht (this _)
def Q2h (P:Program) (X:Ext):List ADf->List Deferred->Prop
 |[],ds=>ds=[]
 | .mark r::rs,ds=>∃p ds',X.V r=some p/\ds={ target:= .collected p.blk,args:=#[]}::ds' /\Q2h P X rs ds'
 | .nop f::rs,ds=>Q3z P f/\∃cap args ds',ds={ target:= .fn (.func f) cap,args}::ds' /\Q2h P X rs ds'
theorem J2 {P:Program} {X Y:Ext} (h:X.le Y):∀{rs:List ADf} {ds:List Deferred},Q2h P X rs ds->Q2h P Y rs ds
 |[],_,r=>r
 | .mark _::_,_,⟨p,ds',h1,h2,h3⟩=>⟨p,ds',h.V _ _ h1,h2,J2 h h3⟩
 | .nop _::_,_,⟨h0,cap,args,ds',h2,h3⟩=>⟨h0,cap,args,ds',h2,J2 h h3⟩
structure jV (P:Program) (X:Ext) (a:Qg) (f:Frame):Prop where
 fn:f.fn=a.fn
 kind:f.kind= .normal
 ro:match a.ro with
  |none=>f.roundOf=none
  |some l=>∃p,X.V l=some p/\f.roundOf=some p.blk
 defers:Q2h P X a.defers f.defers
theorem jV.mono {P:Program} {X Y:Ext} (h:X.le Y) {a:Qg} {f:Frame} (b:jV P X a f):jV P Y a f:=by refine ⟨b.fn,b.kind,?_,J2 h b.defers⟩;have:=b.ro;split at this;exact this;obtain ⟨p,hp,e⟩:=this;exact ⟨p,h.V _ _ hp,e⟩
abbrev lin (A:Array Oper) (fuel t:Nat) (listed:Array Bool):List Nat:=Region.linearise.go .any A fuel t listed []
def cnt (l:Array Bool):Nat:=l.toList.count true
def Q87 (P:Program) (G:Env) (X:Ext) (n0:Nat) (H:Tr Q7) (a:Qg) (f:Frame):Prop:=
 jV P X a f/\
 match a.ret with
 |true=>f.mode= .returning/\QC X a.nt a.tm f.tmps/\a.cur= .none
 |false=>f.mode= .run/\∃is,Yj X a.todo is/\
  match a.cur with
  | .none=>f.todo=is/\QC X a.nt a.tm f.tmps
  | .reg ops k rest=>rest=ops.drop k/\(∃A:Array Oper,A.toList=ops/\f.todo= .inRegion A (List.range' k rest.length)::is)/\QC X a.nt a.tm f.tmps
  | .draw ops done rest pa=>∃(A:Array Oper) (fuel t:Nat) (listed:Array Bool),A.toList=ops/\f.todo= .inRegion A (lin A fuel t listed)::is/\ops.length<=fuel+cnt listed/\Q89 P G X n0 H true ops a.nt a.tm f.tmps done rest pa listed
def Q2b (P:Program) (G:Env) (X:Ext) (n0:Nat) (H:Tr Q7) (a:Qg) (f:Frame):Prop:=
 jV P X a f/\a.ret=false/\f.mode= .run/\∃is,Yj X a.todo is/\
  match a.cur with
  | .none=>f.todo=is/\QC X a.nt a.tm f.tmps
  | .reg ops k rest=>rest=ops.drop k/\rest≠[]/\(∃A:Array Oper,A.toList=ops/\f.todo= .inRegion A (List.range' k rest.length)::is)/\QC X a.nt a.tm f.tmps
  | .draw ops done rest pa=>∃(A:Array Oper) (fuel t:Nat) (listed:Array Bool) (i:Nat) (rc:List Nat) (rest' :List (Nat×List Nat)) (o:Oper),A.toList=ops/\rest=(i,rc)::rest' /\ops[i]?=some o/\cls o.op=3/\
   f.todo= .inRegion A (i::lin A fuel t (listed.setIfInBounds i true))::is/\ops.length<=fuel+1+cnt listed/\¬Lst listed i/\(∀e∈Qi o,Lst listed e)/\Q89 P G X n0 H false ops a.nt a.tm f.tmps done rest pa listed
def Qm (a:Qg):List Nat:=
 match a.cur with
 | .draw _ _ _ pa=>pa.map (·.2)
 |_=>[]
theorem Q5s.mono {P:Program} {G:Env} {X Y:Ext} {n0:Nat} {Hp H H' :Tr Q7} {ops:List Oper} {nt:Nat} {tm:Tr AV} {pa:List (Nat×Nat)} {i:Nat} {o:Oper} (h:Q5s P G X n0 Hp H ops nt tm pa i o) (hXY:X.le Y)
 (hk:∀p∈pa,X.V p.2=none->Y.V p.2=none/\H'.get p.2=H.get p.2):Q5s P G Y n0 Hp H' ops nt tm pa i o:=by
 rcases h with h|⟨h1,r,b,h2,h3,h4⟩;exact .inl h
 refine .inr ⟨h1,r,b,h2,λZ w ρc hYZ=>h3 Z w ρc (hXY.trans hYZ),λob hob=>?_⟩
 obtain ⟨g1,g2,g3⟩:=h4 ob hob;obtain ⟨k1,k2⟩:=hk _ g1 g3;exact ⟨g1,by rw [k2];exact g2,k1⟩
theorem Q2b.mono {P:Program} {G:Env} {X Y:Ext} {n0:Nat} {H H' :Tr Q7} {a:Qg} {f:Frame} (h:Q2b P G X n0 H a f) (hXY:X.le Y) (hk:∀b∈Qm a,X.V b=none->Y.V b=none/\H'.get b=H.get b):Q2b P G Y n0 H' a f:=by
 obtain ⟨h1,h2,h3,is,h4,h5⟩:=h;refine ⟨h1.mono hXY,h2,h3,is,Ym hXY h4,?_⟩;unfold Qm at hk;cases hc:a.cur with
 |none=>rw [hc] at h5;exact ⟨h5.1,Yl hXY h5.2⟩
 |reg ops k rest=>rw [hc] at h5;exact ⟨h5.1,h5.2.1,h5.2.2.1,Yl hXY h5.2.2.2⟩
 |draw ops done rest pa=>
  rw [hc] at h5 hk;obtain ⟨A,fuel,t,listed,i,rc,rest',o,g1,g2,g3,g4,g5,g6,g7,g8,D⟩:=h5;refine ⟨A,fuel,t,listed,i,rc,rest',o,g1,g2,g3,g4,g5,g6,g7,g8,?_⟩;have hk' :∀p∈pa,X.V p.2=none->Y.V p.2=none/\H'.get p.2=H.get p.2:=λp hp=>hk p.2 (by simp only [List.mem_map];exact ⟨p,hp,rfl⟩)
  exact ⟨D.size,D.sub,D.closed,D.plan,D.light,D.looks,D.inRange,⟨D.tmr.1,λt ht=>AV.Zj hXY _ _ (D.tmr.2 t ht)⟩,
   λj oj hj hl ho=>⟨λhcl=>((D.prom j oj hj hl ho).1 hcl).mono hXY hk',λhcl=>⟨λhf=>(by cases hf),((D.prom j oj hj hl ho).2 hcl).2⟩⟩⟩
def Z0 (P:Program) (G:Env) (X:Ext) (n0:Nat) (H:Tr Q7):List Qg->List Frame->Prop
 |[],cs=>cs=[]
 |a::as,cs=>∃f fs,cs=f::fs/\Q2b P G X n0 H a f/\Z0 P G X n0 H as fs
theorem Zb {P:Program} {G:Env} {X Y:Ext} {n0:Nat} {H H' :Tr Q7} (hXY:X.le Y):∀{as:List Qg} {cs:List Frame},Z0 P G X n0 H as cs->(∀b∈as.flatMap Qm,X.V b=none->Y.V b=none/\H'.get b=H.get b)->Z0 P G Y n0 H' as cs
 |[],_,h,_=>h
 |a::as,_,⟨f,fs,e,h1,h2⟩,hk=>⟨f,fs,e,h1.mono hXY λb hb=>hk b (by simp [hb]),Zb hXY h2 λb hb=>hk b (by simp only [List.flatMap_cons,List.mem_append];exact .inr hb)⟩
structure Sim (P:Program) (G:Env) (n0:Nat) (w0:World) (cs0:List Frame) (X:Ext) (s:AM) (m:Machine):Prop where
 ex:∃fr cs w,m=lone fr (cs++cs0) w/\Q87 P G X n0 s.H s.fr fr/\Z0 P G X n0 s.H s.cs cs/\Qq X n0 s.H w/\Below n0 w0 w/\n0<=w.heap.size
 ctx:s.ctx.okN X.dom X.O
 Qo:X.Qo G.T.ng
 fresh:∀b,s.next<=b->X.V b=none
 ids:((s.fr::s.cs).flatMap Qm).Nodup/\∀b∈(s.fr::s.cs).flatMap Qm,b<s.next
end Go.Ax
namespace Go.Ax
open Go.RowKit
theorem Q4k (A:Array Oper) (fuel t:Nat) (listed:Array Bool):lin A (fuel+1) t listed=(match (Region.ready .any A listed)[t%(Region.ready .any A listed).length]? with
 |some i=>i::lin A fuel (t/(Region.ready .any A listed).length) (listed.setIfInBounds i true)
 |none=>[]):=by
 unfold lin;simp only [Region.linearise.go];change (match (Region.ready .any A listed)[t%(Region.ready .any A listed).length]? with
  |some i=>Region.linearise.go .any A fuel (t/(Region.ready .any A listed).length) (listed.setIfInBounds i true) [i]
  |none=>[].reverse)=_
 cases (Region.ready .any A listed)[t%(Region.ready .any A listed).length]? with
 |none=>rfl
 |some i=>simp only [];rw [linearise_go_acc];rfl
theorem Qal {l:List Nat} (t:Nat) (h:l≠[]):∃i,l[t%l.length]?=some i/\i∈l:=by
 have hlt:t%l.length<l.length:=Nat.mod_lt _ (by cases l with
  |nil=>exact absurd rfl h
  |cons=>simp)
 exact ⟨_,List.getElem?_eq_getElem hlt,List.getElem_mem hlt⟩
theorem Qx {listed:Array Bool} {i j:Nat} (hi:i<listed.size):Lst (listed.setIfInBounds i true) j↔j=i\/Lst listed j:=by unfold Lst;simp only [Array.getD_eq_getD_getElem?];by_cases e:j=i;subst e;simp [hi];rw [Array.getElem?_setIfInBounds_ne (λh=>e h.symm)];simp [e]
theorem Q54 {listed:Array Bool} {i:Nat} (hi:i<listed.size) (h:¬Lst listed i):cnt (listed.setIfInBounds i true)=cnt listed+1:=by
 unfold cnt;rw [Array.toList_setIfInBounds];have hf:listed.toList[i]?=some false:=by unfold Lst at h;simp only [Array.getD_eq_getD_getElem?] at h;have:listed[i]?=some listed[i]:=Array.getElem?_eq_getElem hi;rw [this] at h;simp only [Option.getD_some,Bool.not_eq_true] at h;simp [hi,h]
 generalize listed.toList=l at hf;clear h hi;induction l generalizing i with
 |nil=>simp at hf
 |cons b l ih=>
  cases i with
  |zero=>simp at hf;subst hf;simp
  |succ i=>simp at hf;simp only [List.set_cons_succ,List.count_cons];rw [ih hf];omega
theorem Q8w {listed:Array Bool} {n:Nat} (hs:listed.size=n) (hc:n<=cnt listed) {i:Nat} (hi:i<n):Lst listed i:=by
 unfold cnt at hc;have hl:listed.toList.length=n:=by simpa using hs
 have h2:listed.toList.count true=listed.toList.length:=Nat.le_antisymm List.count_le_length (by omega);rw [List.count_eq_length] at h2;unfold Lst;simp only [Array.getD_eq_getD_getElem?];have hlt:i<listed.size:=by omega
 rw [Array.getElem?_eq_getElem hlt];have:=h2 listed[i] (by simp);simp [<-this]
theorem ZA {A:Array Oper} {listed:Array Bool} (hs:listed.size=A.size) {i:Nat}:i∈Region.ready .any A listed↔∃o,A[i]?=some o/\¬Lst listed i/\∀e∈Qi o,Lst listed e:=by
 constructor;intro h;obtain ⟨h1,o,h2,h3⟩:=mem_ready.1 h;refine ⟨o,h2,λhl=>?_,λe he=>?_⟩;unfold Lst at hl;have hlt:i<listed.size:=by rw [hs];exact (Array.getElem?_eq_some_iff.1 h2).1
 simp [Array.getD_eq_getD_getElem?,hlt] at h1 hl;rw [h1] at hl;cases hl;obtain ⟨e',he',hb,rfl⟩:=Q14.1 he;exact h3 e' he' hb
 rintro ⟨o,h2,h1,h3⟩
 refine mem_ready.2 ⟨?_,o,h2,λe he hb=>h3 _ (Q14.2 ⟨e,he,hb,rfl⟩)⟩;have hlt:i<listed.size:=by rw [hs];exact (Array.getElem?_eq_some_iff.1 h2).1
 unfold Lst at h1;simp [Array.getD_eq_getD_getElem?,hlt] at h1 ⊢;exact h1
theorem jr {ops:List Oper} {listed:Array Bool}:∀{dl:List Nat},Topo ops dl->(∃i∈dl,¬Lst listed i)->∃i∈dl,¬Lst listed i/\i<ops.length/\∀o,ops[i]?=some o->∀e∈Qi o,Lst listed e
 |[],_,⟨_,h,_⟩=>by cases h
 |i::dl,⟨h1,h2,h3⟩,⟨j,hj,hl⟩=>by
  by_cases hex:∃k∈dl,¬Lst listed k;obtain ⟨k,g1,g2⟩:=jr h3 hex;exact ⟨k,List.mem_cons_of_mem _ g1,g2⟩;have hall:∀k∈dl,Lst listed k:=λk hk=>Classical.byContradiction λhn=>hex ⟨k,hk,hn⟩
  have:j=i:=by rcases List.mem_cons.1 hj with e|e;exact e;exact absurd (hall j e) hl
  subst this;exact ⟨j,by simp,hl,h2,λo ho e he=>hall e (h1 o ho e he)⟩
theorem Q2z:∀{l:List (Nat×Nat)} {a a' b:Nat},(l.map (·.2)).Nodup->(a,b)∈l->(a',b)∈l->a=a'
 |[],_,_,_,_,h,_=>by cases h
 |p::l,a,a',b,hn,h,h' =>by simp only [List.map_cons,List.nodup_cons,List.mem_map,not_exists,not_and] at hn;rcases List.mem_cons.1 h with e|e<;>rcases List.mem_cons.1 h' with e' |e';rw [<-e] at e';cases e';rfl;exact absurd (by rw [<-e]) (hn.1 _ e');exact absurd (by rw [<-e']) (hn.1 _ e);exact Q2z hn.2 e e'
theorem Qq.empty {X:Ext} {n0:Nat} {H:Tr Q7} {w:World} (h:Qq X n0 H w):Qq X n0 .e w:=⟨λb o p hb=>by simp at hb,λb b' o o' p p' hb=>by simp at hb,h.lt,λb o p hb=>by simp at hb⟩
theorem YW {fr:Frame} {A:Array Oper} {i:Nat} {l:List Nat} {k:List Item} {o:Oper} (ht:fr.todo= .inRegion A (i::l)::k) (ho:A[i]?=some o) (v:Value):
 fr.finish v={ fr with tmps:=(match o.dst with|some d=>fr.tmps.setIfInBounds d v|none=>fr.tmps),todo:= .inRegion A l::k}:=by
 cases fr;simp only at ht;subst ht;simp only [Frame.finish,ho,Option.bind_some];cases o.dst<;>rfl
theorem Zd {fr:Frame} {A:Array Oper} {i:Nat} {l:List Nat} {k:List Item} {o:Oper} (ht:fr.todo= .inRegion A (i::l)::k) (ho:A[i]?=some o) (v:Value) (t:Nat):
 (fr.finish v).tmps.size=fr.tmps.size/\((fr.finish v).tmps.getD t undef=if o.dst=some t/\t<fr.tmps.size then v else fr.tmps.getD t undef):=by
 rw [YW ht ho];cases hd:o.dst with
 |none=>simp
 |some d=>refine ⟨by simp,?_⟩;simp only [Array.getD_eq_getD_getElem?];by_cases e:d=t;subst e;by_cases hlt:d<fr.tmps.size;simp [hlt];simp [hlt];rw [Array.getElem?_setIfInBounds_ne e];simp [e]
theorem Q89.operands {P:Program} {G:Env} {X:Ext} {n0:Nat} {H:Tr Q7} {top:Bool} {ops:List Oper} {nt:Nat} {tm:Tr AV} {tmps:Array Value} {done:Nat} {rest:List (Nat×List Nat)} {pa:List (Nat×Nat)} {listed:Array Bool}
 (D:Q89 P G X n0 H top ops nt tm tmps done rest pa listed) {o:Oper} {d:Nat}
 (hno:∀k q,done.testBit k=true->¬Lst listed k->ops[k]?=some q->looksAt ops o q=true->False) (hd:YD ops o d=true):((tm.get d).getD .undef).rel X (tmps.getD d undef):=by
 refine D.tmr.2 d λk q hk hl hq hqd=>hno k q hk hl hq ?_
 unfold looksAt;rw [hqd];exact hd
theorem Jb {ops:List Oper} {o:Oper} {d:Nat} (h:Operand.tmp d∈o.op.operands.toList):YD ops o d=true:=by unfold YD;rw [Bool.or_eq_true];left;rw [List.any_eq_true];exact ⟨_,h,by simp [Qni]⟩
theorem Jc {ops:List Oper} {o g:Oper} {j d:Nat} {want:Bool} (hg:o.guard=some (j,want)) (hj:ops[j]?=some g) (hd:g.dst=some d):YD ops o d=true:=by unfold YD;rw [Bool.or_eq_true];right;rw [hg];simp only [ZP,hj,hd];simp
theorem Q1l {X:Ext} {ng:Nat} {tm:Tr AV} {tmps:Array Value} (hg:X.Qo ng) {x:Operand} (ht:∀d,x= .tmp d->((tm.get d).getD .undef).rel X (tmps.getD d undef)) {a:AV} (h:ev ng tm x=some a):a.rel X (evC tmps x):=by
 cases x with
 |tmp t=>simp only [ev,Option.some.injEq] at h;subst h;exact ht t rfl
 |const v=>exact jC X 6 v a h
 |global g=>
  simp only [ev] at h;cases hb:Nat.blt g ng with
  |false=>rw [hb] at h;cases h
  |true=>rw [hb] at h;cases h;obtain ⟨n,hn⟩:=hg g (by simpa using hb);simp only [AV.rel];exact ⟨_,hn,by simp [evC]⟩
 |func f=>simp only [ev,Option.some.injEq] at h;subst h;simp only [AV.rel];exact ⟨#[],#[],rfl,by simp,by simp⟩
theorem Qfv {op:Op} (h:cls op≠3) (c:Call):op≠ .defer c:=by rintro rfl;exact h rfl
end Go.Ax
namespace Go.Ax
open Go.RowKit
section
variable {P:Program} {G:Env} {X:Ext} {n0:Nat} {H:Tr Q7} {ops:List Oper} {nt:Nat} {tm:Tr AV} {tmps:Array Value} {done:Nat} {rest:List (Nat×List Nat)} {pa:List (Nat×Nat)} {listed:Array Bool}
theorem jR {A:Array Oper} {ops:List Oper} {j:Nat} {q:Oper} (hA:A.toList=ops) (h:ops[j]?=some q):A[j]?=some q:=by rw [<-hA] at h;simpa using h
theorem Q6h (D:Q89 P G X n0 H true ops nt tm tmps done rest pa listed) (hpa:(pa.map (·.2)).Nodup) (hg:X.Qo G.T.ng) {fr:Frame} {cs:List Frame} {w:World} {A:Array Oper} {j:Nat} {l:List Nat} {k:List Item} {o:Oper}
 (hH:Qq X n0 H w) (h0:n0<=w.heap.size) (hm:fr.mode= .run) (ht:fr.todo= .inRegion A (j::l)::k) (hA:A.toList=ops) (hf:fr.tmps=tmps) (ho:ops[j]?=some o) (hj:done.testBit j=true) (hl:¬Lst listed j) (he:∀e∈Qi o,Lst listed e):
 ∃Y w' v,step P (lone fr cs w)= .next (lone (fr.finish v) cs w')/\X.le Y/\Qq Y n0 H w' /\Below n0 w w' /\(∀b,X.V b=none->b∉pa.map (·.2)->Y.V b=none)/\n0<=w'.heap.size/\
  Q89 P G Y n0 H true ops nt tm (fr.finish v).tmps done rest pa (listed.setIfInBounds j true):=by
 have hAj:A[j]?=some o:=by rw [<-hA] at ho;simpa using ho
 have hjlt:j<listed.size:=by rw [D.size];exact D.inRange j hj
 have hc3:=D.light j o hj hl ho;have hno:∀i q,done.testBit i=true->¬Lst listed i->ops[i]?=some q->looksAt ops o q=true->False:=λi q hi hli hq hlk=>hli (D.before ho he (D.looks j i o q hj hi ho hq (D.light i q hi hli hq) hlk))
 have htm:∀d,YD ops o d=true->((tm.get d).getD .undef).rel X (tmps.getD d undef):=λd hd=>D.operands hno hd
 have hops:∀x∈o.op.operands.toList,∀a,ev G.T.ng tm x=some a->a.rel X (evC tmps x):=λx hx a ha=>Q1l hg (λd hd=>by subst hd;exact htm d (Jb hx)) ha
 have hwant:yE ops tm o=true->Region.wanted o (yielded A fr.tmps)=QI ops tm o:=by rw [hf];exact zn hA λjj want g d hgd hjj hgdst=>htm d (Jc hgd hjj hgdst)
 have hprom:∃Hp,(Hp= .e\/Hp=H)/\Q5s P G X n0 Hp H ops nt tm pa j o:=by by_cases h1:cls o.op=1;exact ⟨H, .inr rfl,((D.prom j o hj hl ho).2 h1).1 rfl⟩;exact ⟨.e, .inl rfl,(D.prom j o hj hl ho).1 h1⟩
 obtain ⟨Hp,hHp,hp⟩:=hprom;have hHp' :∀{w:World},Qq X n0 H w->Qq X n0 Hp w:=λh=>by rcases hHp with rfl|rfl;exact h.empty;exact h
 have after:∀(Y:Ext) (v:Value) (a:AV),X.le Y->qy nt tm o a->a.rel Y v->(∀p∈pa,p.1≠j->X.V p.2=none->Y.V p.2=none)->
  Q89 P G Y n0 H true ops nt tm (fr.finish v).tmps done rest pa (listed.setIfInBounds j true):=by
  intro Y v a hXY hd hr hpn;have hpend:∀i,¬Lst (listed.setIfInBounds j true) i->¬Lst listed i/\i≠j:=λi hi=>⟨λh=>hi ((Qx hjlt).2 (.inr h)),λh=>hi ((Qx hjlt).2 (.inl h))⟩
  refine ⟨by simpa using D.size,λi hi=>?_,λi q hi hq e heq=>?_,D.plan,λi q hi hli hq=>D.light i q hi (hpend i hli).1 hq,D.looks,D.inRange,⟨?_,λt htt=>?_⟩,λi q hi hli hq=>?_⟩;rcases (Qx hjlt).1 hi with rfl|h
  exact hj;exact D.sub i h;refine (Qx hjlt).2 (.inr ?_)
  rcases (Qx hjlt).1 hi with rfl|h
  rw [ho] at hq;cases hq;exact he e heq;exact D.closed i q h hq e heq;rw [(Zd ht hAj v 0).1,hf];exact D.tmr.1;rw [(Zd ht hAj v t).2,hf];by_cases hdt:o.dst=some t;obtain ⟨h1,h2⟩:=hd t hdt;have:t<tmps.size:=by rw [D.tmr.1];exact h1
  rw [if_pos ⟨hdt,this⟩,h2];exact hr;rw [if_neg (λh=>hdt h.1)];refine AV.Zj hXY _ _ (D.tmr.2 t λi q hi hli hq=>?_);by_cases hij:i=j;subst hij;rw [ho] at hq;cases hq;exact hdt;exact htt i q hi (λh=>by rcases (Qx hjlt).1 h with e|e;exact hij e;exact hli e) hq;obtain ⟨g1,g2⟩:=hpend i hli;obtain ⟨p1,p2⟩:=D.prom i q hi g1 hq;have mono:∀{Hq:Tr Q7},Q5s P G X n0 Hq H ops nt tm pa i q->Q5s P G Y n0 Hq H ops nt tm pa i q:=by
   intro Hq hP;rcases hP with hP|⟨a1,r,b,a2,a3,a4⟩;exact .inl hP
   refine .inr ⟨a1,r,b,a2,λZ w ρc hYZ=>a3 Z w ρc (hXY.trans hYZ),λob hob=>?_⟩
   obtain ⟨b1,b2,b3⟩:=a4 ob hob;exact ⟨b1,b2,hpn (i,b) b1 g2 b3⟩
  exact ⟨λhcl=>mono (p1 hcl),λhcl=>⟨λht=>mono ((p2 hcl).1 ht),(p2 hcl).2⟩⟩
 rcases hp with ⟨hw,hk,hd⟩|⟨hw,r,b,hd,hs,hob⟩
 replace hwant:=hwant hk
 rw [hw] at hwant;exact ⟨X,w,undef,Q62 hm ht hAj hwant,Ext.le.refl X,hH,Below.refl _ _,λb hb _=>hb,h0,after X undef .undef (Ext.le.refl X) hd (Qw X) (λp _ _ hb=>hb)⟩
 replace hwant:=hwant (Q21 hw)
 rw [hw] at hwant;have hsound:=hs X w (evC tmps) (Ext.le.refl X) hops (hHp' hH);rw [<-hf] at hsound;have hdf:∀c,o.op≠ .defer c:=λc=>Qfv hc3 c
 have born:∀(ob:Obj) (o' :Q7) (n d:Nat) (v:Value),r.obj=some o' ->(execOp (evC fr.tmps) o).run P w= .ok (.value v) (grown w ob d)->ji X o' ⟨w.heap.size,0,n⟩ (some ob)->(∀Y,Y.V b=some ⟨w.heap.size,0,n⟩->(r.value b).rel Y v)->
  ∃Y w' v,step P (lone fr cs w)= .next (lone (fr.finish v) cs w')/\X.le Y/\Qq Y n0 H w' /\Below n0 w w' /\(∀b,X.V b=none->b∉pa.map (·.2)->Y.V b=none)/\n0<=w'.heap.size/\
   Q89 P G Y n0 H true ops nt tm (fr.finish v).tmps done rest pa (listed.setIfInBounds j true):=by
  intro ob o' n d v hro hrun hor hval;obtain ⟨q1,q2,q3⟩:=hob o' hro;have hle:=Ext.Zr (p:=⟨w.heap.size,0,n⟩) q3;refine ⟨X.add b ⟨w.heap.size,0,n⟩,grown w ob d,v,zA hm ht hAj hwant hdf hrun,hle,(hH.bear h0 q3 q2 ob n (Zh hle hor)).of_heap rfl,⟨rfl,rfl,rfl,by simp [grown],λk hk=>Qq.Q03 w ob (by omega)⟩,λc hc hcn=>?_,by simp [grown];omega,?_⟩;rw [Ext.QL (λe=>hcn (by subst e;simp only [List.mem_map];exact ⟨_,q1,rfl⟩))];exact hc;refine after _ v _ hle hd (hval _ (Ext.add_same _ _ _)) λp hpp hpj hpn=>?_
  rw [Ext.QL (λe=>?_)];exact hpn;obtain ⟨pi,pb⟩:=p;simp only at e hpj;subst e;exact hpj (Q2z hpa hpp q1)
 cases r with
 |val v=>obtain ⟨u,h1,h2⟩:=hsound;exact ⟨X,w,u,zA hm ht hAj hwant hdf h1,Ext.le.refl X,hH,Below.refl _ _,λb hb _=>hb,h0,after X u v (Ext.le.refl X) hd h2 (λp _ _ hb=>hb)⟩
 |ptr o' =>obtain ⟨ob,n,d,h1,h2⟩:=hsound;exact born ob o' n d _ rfl h1 h2 λY hY=>by simp only [LR.value,AV.rel];exact ⟨_,hY,rfl⟩
 |slc o' len cap es ex=>
  obtain ⟨ob,n,d,c,h1,h2,h3,h4,h5,h6⟩:=hsound;refine born ob o' n d _ rfl h1 h2 λY hY=>?_
  simp only [LR.value,AV.rel];exact ⟨_,0,c,hY,rfl,h3,h4,by simpa using h5,λ_=>rfl,h6⟩
 |map=>
  obtain ⟨d,h1⟩:=hsound;refine born (.map #[] 0) (.map [] 0) 0 d _ rfl h1 ⟨#[],rfl,rfl⟩ λY hY=>?_
  simp only [LR.value,AV.rel];exact ⟨_,hY,rfl⟩
theorem drain (i:Nat) (rc:List Nat) (rest' :List (Nat×List Nat)) (o:Oper) (A:Array Oper) (hA:A.toList=ops) (ho:ops[i]?=some o) (hc:cls o.op=3) (hpa:(pa.map (·.2)).Nodup) {is:List Item} {cs:List Frame}:
 ∀(fuel t:Nat) (X:Ext) (listed:Array Bool) (fr:Frame) (w:World),Q89 P G X n0 H true ops nt tm fr.tmps done ((i,rc)::rest') pa listed->X.Qo G.T.ng->Qq X n0 H w->n0<=w.heap.size->fr.mode= .run->
  fr.todo= .inRegion A (lin A fuel t listed)::is->ops.length<=fuel+cnt listed->
  ∃Y fr' w' fuel' t' listed',Steps P (lone fr cs w) (lone fr' cs w')/\X.le Y/\Qq Y n0 H w' /\Below n0 w w' /\(∀b,X.V b=none->b∉pa.map (·.2)->Y.V b=none)/\n0<=w'.heap.size/\
   fr' ={ fr with tmps:=fr'.tmps,todo:= .inRegion A (i::lin A fuel' t' (listed'.setIfInBounds i true))::is}/\ops.length<=fuel' +1+cnt listed' /\¬Lst listed' i/\(∀e∈Qi o,Lst listed' e)/\
   Q89 P G Y n0 H true ops nt tm fr'.tmps done ((i,rc)::rest') pa listed' :=by
 intro fuel;have hAs:A.size=ops.length:=by rw [<-hA];simp
 have hAi:A[i]?=some o:=by rw [<-hA] at ho;simpa using ho
 induction fuel with
 |zero=>
  intro t X listed fr w D _ _ _ _ _ hcnt;exfalso;have hilt:i<ops.length:=(List.getElem?_eq_some_iff.1 ho).1
  have hL:=Q8w D.size (by omega) hilt;have hdn:=D.sub i hL;obtain ⟨dl,hok,_,_⟩:=D.plan;simp only [YE,ZP,ho,Bool.and_eq_true,Bool.not_eq_true'] at hok;rw [hdn] at hok;simp at hok
 |succ fuel ih=>
  intro t X listed fr w D hg hH h0 hm ht hcnt;obtain ⟨dl,hok,htopo,hdl⟩:=D.plan;have hok' :=hok;simp only [YE,ZP,ho,Bool.and_eq_true,Bool.not_eq_true',hc,Nat.beq_refl,cond_true,List.all_eq_true] at hok;obtain ⟨⟨⟨⟨⟨k1,k2⟩,k3⟩,_⟩,k4,_⟩,_⟩:=hok;have hilt:i<ops.length:=by simpa using k1
  have hready:Region.ready .any A listed≠[]:=by
   by_cases hex:∃j∈dl,¬Lst listed j;obtain ⟨j,j1,j2,j3,j4⟩:=jr htopo hex;obtain ⟨q,hjo⟩:∃q,ops[j]?=some q:=⟨_,List.getElem?_eq_getElem j3⟩;intro h;have:j∈Region.ready .any A listed:=(ZA (by rw [D.size,hAs])).2 ⟨q,jR hA hjo,j2,j4 _ hjo⟩
   rw [h] at this;cases this;intro h;have:i∈Region.ready .any A listed:=by
    refine (ZA (by rw [D.size,hAs])).2 ⟨o,hAi,λhL=>?_,λe he=>?_⟩
    rw [D.sub i hL] at k2;cases k2;have:=k3 e he;exact Classical.byContradiction λhn=>hex ⟨e,(hdl e).1 this,hn⟩
   rw [h] at this;cases this
  obtain ⟨j,hj,hjm⟩:=Qal t hready;obtain ⟨oj,hAj,hjl,hje⟩:=(ZA (by rw [D.size,hAs])).1 hjm
  have hoj:ops[j]?=some oj:=by rw [<-hA];simpa using hAj
  have hjlt:j<ops.length:=(List.getElem?_eq_some_iff.1 hoj).1
  have hlin:lin A (fuel+1) t listed=j::lin A fuel (t/(Region.ready .any A listed).length) (listed.setIfInBounds j true):=by rw [Q4k,hj]
  rw [hlin] at ht;by_cases hji:j=i;subst hji;rw [ho] at hoj;cases hoj;refine ⟨X,fr,w,fuel,t/(Region.ready .any A listed).length,listed,Steps.refl P _,Ext.le.refl X,hH,Below.refl _ _,λb hb _=>hb,h0,?_,by omega,hjl,hje,D⟩;cases fr;simp only at ht;subst ht;rfl;have hjd:done.testBit j=true:=by
   refine Classical.byContradiction λhnd=>?_
   have hmem:∃q∈rest',q.1=j:=by
    have cover:∀(rest:List (Nat×List Nat)) (done:Nat) (dl:List Nat),YE ops (Q56 ops 0 (.sk ops.length)) ops.length done dl rest=true->∀j,j<ops.length->done.testBit j=true\/∃q∈rest,q.1=j:=by
     intro rest;induction rest with
     |nil=>
      intro done dl hr j hj;left;simp only [YE,Nat.beq_eq] at hr;have:done=2^ops.length-1:=by omega
      rw [this,Nat.testBit_two_pow_sub_one];simpa using hj
     |cons q rest ihr=>
      intro done dl hr j hj;obtain ⟨qi,qr⟩:=q;simp only [YE] at hr;split at hr;cases hr;simp only [Bool.and_eq_true] at hr;rcases ihr _ _ hr.2 j hj with h|⟨q',h1,h2⟩
      . have h' :(done ||| 2^qi).testBit j=true:=h
        rw [Nat.testBit_or,Bool.or_eq_true,Nat.testBit_two_pow] at h';rcases h' with h' |h';exact .inl h'
        exact .inr ⟨(qi,qr),by simp,by simpa using h'⟩
      exact .inr ⟨q',List.mem_cons_of_mem _ h1,h2⟩
    rcases cover _ _ _ hok' j hjlt with h|⟨q,h1,h2⟩;exact absurd h hnd;rcases List.mem_cons.1 h1 with rfl|h1;exact absurd h2.symm hji;exact ⟨q,h1,h2⟩
   obtain ⟨q,q1,rfl⟩:=hmem;have hb:=k4 q q1;have hLi:=D.before hoj hje hb;rw [D.sub i hLi] at k2;cases k2
  obtain ⟨Y,w',v,s1,s2,s3,s4,s5,s6,s7⟩:=Q6h D hpa hg (cs:=cs) hH h0 hm ht hA rfl hoj hjd hjl hje;have hfin:=YW ht hAj v;have hcnt' :ops.length<=fuel+cnt (listed.setIfInBounds j true):=by rw [Q54 (by rw [D.size];exact hjlt) hjl];omega
  obtain ⟨Z,fr',w'',fuel',t',listed',r1,r2,r3,r4,r5,r6,r7,r8⟩:=ih _ Y _ (fr.finish v) w' s7 (Ext.ZB hg s2) s3 s6 (by rw [hfin];exact hm) (by rw [hfin]) hcnt';refine ⟨Z,fr',w'',fuel',t',listed', .head s1 r1,s2.trans r2,r3,s4.trans r4,λb hb hbn=>r5 b (s5 b hb hbn) hbn,r6,?_,r8⟩;rw [r7,hfin]
theorem Qia (A:Array Oper) (hA:A.toList=ops) (hpa:(pa.map (·.2)).Nodup) {is:List Item} {cs:List Frame}:
 ∀(fuel t:Nat) (X:Ext) (listed:Array Bool) (fr:Frame) (w:World),Q89 P G X n0 H true ops nt tm fr.tmps done [] pa listed->X.Qo G.T.ng->Qq X n0 H w->n0<=w.heap.size->fr.mode= .run->
  fr.todo= .inRegion A (lin A fuel t listed)::is->ops.length<=fuel+cnt listed->
  ∃Y fr' w',Steps P (lone fr cs w) (lone fr' cs w')/\X.le Y/\Qq Y n0 H w' /\Below n0 w w' /\(∀b,X.V b=none->b∉pa.map (·.2)->Y.V b=none)/\n0<=w'.heap.size/\
   fr' ={ fr with tmps:=fr'.tmps,todo:=is}/\QC Y nt tm fr'.tmps:=by
 intro fuel;have hAs:A.size=ops.length:=by rw [<-hA];simp
 induction fuel with
 |zero=>intro t X listed fr w D hg hH h0 hm ht hcnt;have hlin:lin A 0 t listed=[]:=rfl;rw [hlin] at ht;refine ⟨X,{ fr with todo:=is},w, .one (YB hm ht),Ext.le.refl X,hH,Below.refl _ _,λb hb _=>hb,h0,rfl,D.tmr.1,λu=>D.tmr.2 u λi q hi hl hq=>?_⟩;exact absurd (Q8w D.size (by omega) (D.inRange i hi)) hl
 |succ fuel ih=>
  intro t X listed fr w D hg hH h0 hm ht hcnt;obtain ⟨dl,hok,htopo,hdl⟩:=D.plan;by_cases hready:Region.ready .any A listed=[]
  have hlin:lin A (fuel+1) t listed=[]:=by rw [Q4k,hready];rfl
  rw [hlin] at ht;refine ⟨X,{ fr with todo:=is},w, .one (YB hm ht),Ext.le.refl X,hH,Below.refl _ _,λb hb _=>hb,h0,rfl,D.tmr.1,λu=>D.tmr.2 u λi q hi hl hq=>?_⟩;exfalso;obtain ⟨j,j1,j2,j3,j4⟩:=jr htopo ⟨i,(hdl i).1 hi,hl⟩;obtain ⟨q,hjo⟩:∃q,ops[j]?=some q:=⟨_,List.getElem?_eq_getElem j3⟩;have:j∈Region.ready .any A listed:=(ZA (by rw [D.size,hAs])).2 ⟨q,jR hA hjo,j2,j4 _ hjo⟩
  rw [hready] at this;cases this;obtain ⟨j,hj,hjm⟩:=Qal t hready;obtain ⟨oj,hAj,hjl,hje⟩:=(ZA (by rw [D.size,hAs])).1 hjm
  have hoj:ops[j]?=some oj:=by rw [<-hA];simpa using hAj
  have hjlt:j<ops.length:=(List.getElem?_eq_some_iff.1 hoj).1
  have hlin:lin A (fuel+1) t listed=j::lin A fuel (t/(Region.ready .any A listed).length) (listed.setIfInBounds j true):=by rw [Q4k,hj]
  rw [hlin] at ht;have hjd:done.testBit j=true:=by
   simp only [YE,Nat.beq_eq] at hok;have:done=2^ops.length-1:=by omega
   rw [this,Nat.testBit_two_pow_sub_one];simpa using hjlt
  obtain ⟨Y,w',v,s1,s2,s3,s4,s5,s6,s7⟩:=Q6h D hpa hg (cs:=cs) hH h0 hm ht hA rfl hoj hjd hjl hje;have hfin:=YW ht hAj v;have hcnt' :ops.length<=fuel+cnt (listed.setIfInBounds j true):=by rw [Q54 (by rw [D.size];exact hjlt) hjl];omega
  obtain ⟨Z,fr',w'',r1,r2,r3,r4,r5,r6,r7,r8⟩:=ih _ Y _ (fr.finish v) w' s7 (Ext.ZB hg s2) s3 s6 (by rw [hfin];exact hm) (by rw [hfin]) hcnt';refine ⟨Z,fr',w'', .head s1 r1,s2.trans r2,r3,s4.trans r4,λb hb hbn=>r5 b (s5 b hb hbn) hbn,r6,?_,r8⟩;rw [r7,hfin]
end
end Go.Ax
namespace Go.Ax
open Go.RowKit
theorem Q66:∀{a b:List E},qA a b=true->a=b
 |[],[],_=>rfl
 |[],_::_,h=>by simp [qA] at h
 |_::_,[],h=>by simp [qA] at h
 |x::a,y::b,h=>by simp only [qA,Bool.and_eq_true] at h;rw [E.Q5 h.1,Q66 h.2]
mutual
theorem AV.same_eq:∀{a b:AV},a.same b=true->a=b
 | .bool _,b,h=>by cases b<;>simp only [AV.same,Bool.false_eq_true,beq_iff_eq] at h;rw [h]
 | .int _ _,b,h=>by cases b<;>simp only [AV.same,Bool.false_eq_true,Bool.and_eq_true] at h;rw [Q1b h.1,E.Q5 h.2]
 | .str _,b,h=>by cases b<;>simp only [AV.same,Bool.false_eq_true] at h;rw [Q66 h]
 | .ptr _ _,b,h=>by cases b<;>simp only [AV.same,Bool.false_eq_true,Bool.and_eq_true,Nat.beq_eq] at h;rw [h.1,h.2]
 | .sstr _,b,h=>by cases b<;>simp only [AV.same,Bool.false_eq_true] at h;rw [ST.same_eq h]
 | .nilptr,b,h=>by cases b<;>simp only [AV.same,Bool.false_eq_true] at h;rfl
 | .slice ..,b,h=>by cases b<;>simp only [AV.same,Bool.false_eq_true,Bool.and_eq_true,Nat.beq_eq,beq_iff_eq] at h;obtain ⟨⟨⟨⟨⟨rfl,rfl⟩,rfl⟩,rfl⟩,rfl⟩,rfl⟩:=h;rfl
 | .nilslice,b,h=>by cases b<;>simp only [AV.same,Bool.false_eq_true] at h;rfl
 | .map _,b,h=>by cases b<;>simp only [AV.same,Bool.false_eq_true,Nat.beq_eq] at h;rw [h]
 | .nilmap,b,h=>by cases b<;>simp only [AV.same,Bool.false_eq_true] at h;rfl
 | .func f as cs,b,h=>by cases b<;>simp only [AV.same,Bool.false_eq_true,Bool.and_eq_true,Nat.beq_eq] at h;obtain ⟨⟨rfl,h2⟩,h3⟩:=h;rw [AV.zF h2,AV.zF h3]
 | .yield _,b,h=>by cases b<;>simp only [AV.same,Bool.false_eq_true,Nat.beq_eq] at h;rw [h]
 | .nilFunc,b,h=>by cases b<;>simp only [AV.same,Bool.false_eq_true] at h;rfl
 | .iface t a,b,h=>by cases b<;>simp only [AV.same,Bool.false_eq_true,Bool.and_eq_true,Nat.beq_eq] at h;obtain ⟨rfl,h2⟩:=h;rw [AV.same_eq h2]
 | .nilIface,b,h=>by cases b<;>simp only [AV.same,Bool.false_eq_true] at h;rfl
 | .agg cs,b,h=>by cases b<;>simp only [AV.same,Bool.false_eq_true] at h;rw [AV.zF h]
 | .tuple cs,b,h=>by cases b<;>simp only [AV.same,Bool.false_eq_true] at h;rw [AV.zF h]
theorem AV.zF:∀{a b:List AV},AV.Q49 a b=true->a=b
 |[],[],_=>rfl
 |[],_::_,h=>by simp [AV.Q49] at h
 |_::_,[],h=>by simp [AV.Q49] at h
 |x::a,y::b,h=>by simp only [AV.Q49,Bool.and_eq_true] at h;rw [AV.same_eq h.1,AV.zF h.2]
end
theorem J6 {nt:Nat} {tm tm' :Tr AV} {dst:Option Nat} {v:AV} (h:Qbj nt tm dst v=some tm'):(∀d,dst=some d->d<nt/\tm'.get d=some v)/\∀t,dst≠some t->tm'.get t=tm.get t:=by
 unfold Qbj at h;cases dst with
 |none=>cases h;exact ⟨λd hd=>(by cases hd),λ_ _=>rfl⟩
 |some d=>
  simp only at h;cases hb:Nat.blt d nt with
  |false=>rw [hb] at h;cases h
  |true=>rw [hb] at h;cases h;refine ⟨λe he=>?_,λt ht=>?_⟩;cases he;exact ⟨by simpa using hb,Tr.get_set_same _ _ _⟩;exact Tr.Q0 _ _ (λe=>ht (by rw [e]))
theorem zf {ng:Nat} {ops:List Oper} {tm tm' :Tr AV} {o:Oper} (h:∀t,YD ops o t=true->tm'.get t=tm.get t):(∀x∈o.op.operands.toList,ev ng tm' x=ev ng tm x)/\QI ops tm' o=QI ops tm o/\yE ops tm' o=yE ops tm o:=by
 refine ⟨λx hx=>?_,?_,?_⟩;cases x with
 |tmp t=>simp only [ev];rw [h t (Jb hx)]
 |const v=>rfl
 |global g=>rfl
 |func f=>rfl
 unfold QI;split;rfl;rename_i j want hg;simp only [ZP];cases hj:ops[j]? with
 |none=>rfl
 |some g=>
  simp only;cases hd:g.dst with
  |none=>rfl
  |some d=>simp only;rw [h d (Jc hg hj hd)]
 unfold yE;split;rfl;rename_i j want hg;simp only [ZP];cases hj:ops[j]? with
 |none=>rfl
 |some g=>
  simp only;cases hd:g.dst with
  |none=>rfl
  |some d=>simp only;rw [h d (Jc hg hj hd)]
theorem Q2r {ops:List Oper} {o q:Oper} (h:Q2s ops o q=false) {tm tm' :Tr AV} (hk:∀t,o.dst≠some t->tm'.get t=tm.get t):
 (∀t,YD ops q t=true->tm'.get t=tm.get t)/\∀t,q.dst=some t->tm'.get t=tm.get t:=by
 unfold Q2s at h;refine ⟨λt ht=>hk t λe=>?_,λt ht=>hk t λe=>?_⟩;rw [e] at h;simp only [Bool.or_eq_false_iff] at h;rw [h.1] at ht;cases ht;rw [e] at h;simp only [Bool.or_eq_false_iff,ht] at h;simp at h
section
variable {P:Program} {G:Env} {X:Ext} {n0:Nat} {H:Tr Q7}
theorem Q5s.keep {Hp:Tr Q7} {ops:List Oper} {nt:Nat} {tm tm' :Tr AV} {pa pa' :List (Nat×Nat)} {i:Nat} {q:Oper} (hp:Q5s P G X n0 Hp H ops nt tm pa i q) (h1:∀t,YD ops q t=true->tm'.get t=tm.get t) (h2:∀t,q.dst=some t->tm'.get t=tm.get t) (hpa:∀p∈pa,p∈pa'):
 Q5s P G X n0 Hp H ops nt tm' pa' i q:=by
 have hd:∀v,qy nt tm q v->qy nt tm' q v:=λv hv d hd=>⟨(hv d hd).1,by rw [h2 d hd];exact (hv d hd).2⟩
 obtain ⟨e1,e2,e3⟩:=zf (ng:=G.T.ng) h1;rcases hp with ⟨a,a',b⟩|⟨a,r,b,c1,c2,c3⟩;exact .inl ⟨by rw [e2];exact a,by rw [e3];exact a',hd _ b⟩
 refine .inr ⟨by rw [e2];exact a,r,b,hd _ c1,λY w ρc hY hops=>c2 Y w ρc hY λx hx v hv=>hops x hx v (by rw [e1 x hx];exact hv),λob hob=>?_⟩
 obtain ⟨k1,k2,k3⟩:=c3 ob hob;exact ⟨hpa _ k1,k2,k3⟩
theorem Ctx.Q2d {c:Ctx} {X Y:Ext} (h:c.okN X.dom X.O) (k:X.le Y):c.okN Y.dom Y.O:=
 ⟨λi hi=>k.dom i (h.1 i hi),λf hf=>⟨by
  obtain ⟨h1,h2,h3⟩:=h.2 f hf;unfold Fact.ok at*;rw [E.Qc k.O h2,E.Qc k.O h3];exact h1,E.Ql k.dom (h.2 f hf).2.1,E.Ql k.dom (h.2 f hf).2.2⟩⟩
theorem zL (hT:G.T.OK P) (hI:YL.OK P G.I) {c:Ctx} (hc:c.okN X.dom X.O) {ops:List Oper} {nt:Nat} {tm:Tr AV} {pa:List (Nat×Nat)}:∀{ks:List Nat},recheck G c H ops tm ks=true->∀k∈ks,∀q,ops[k]?=some q->(∀d,q.dst=some d->d<nt)->
 (QI ops tm q=false->qy nt tm q .undef)->Q5s P G X n0 H H ops nt tm pa k q
 |[],_,k,hk,_,_,_,_=>by cases hk
 |k::ks,h,j,hj,q,hq,hdl,hu=>by
  simp only [recheck,Bool.and_eq_true] at h;rcases List.mem_cons.1 hj with rfl|hj;have h1:=h.1;rw [ZP,hq] at h1;simp only at h1;cases hw:QI ops tm q with
  |false=>rw [hw] at h1;exact .inl ⟨hw,h1,hu hw⟩
  |true=>
   rw [hw] at h1;simp only [cond_true] at h1;split at h1;rename_i v hl;refine .inr ⟨hw, .val v,0,λd hd=>⟨hdl d hd,?_⟩,λY w ρc hY hops hH=>Yu hT hI (Ctx.Q2d hc hY) hH hops hl,λob hob=>by cases hob⟩
   rw [hd] at h1;simp only at h1;split at h1;rename_i v' hv';rw [hv',AV.same_eq h1];rfl;cases h1;cases h1
  exact zL hT hI hc h.2 j hj q hq hdl hu
theorem Qdf {X:Ext} {nt:Nat} {tm tm' :Tr AV} {tmps tmps' :Array Value} {dst:Option Nat} {v:AV} {u:Value} (h:QC X nt tm tmps) (hp:Qbj nt tm dst v=some tm') (hr:v.rel X u)
 (hn:∀t,tmps'.size=tmps.size/\(tmps'.getD t undef=if dst=some t/\t<tmps.size then u else tmps.getD t undef)):QC X nt tm' tmps' :=by
 obtain ⟨h1,h2⟩:=J6 hp;refine ⟨by rw [(hn 0).1];exact h.1,λt=>?_⟩;rw [(hn t).2];by_cases hd:dst=some t;obtain ⟨k1,k2⟩:=h1 t hd;have:t<tmps.size:=by rw [h.1];exact k1
 rw [if_pos ⟨hd,this⟩,k2];exact hr;rw [if_neg (λh=>hd h.1),h2 t hd];exact h.2 t
theorem Qf1 {j:Nat}:∀{l:List Nat},inL j l=true->j∈l
 |[],h=>by simp [inL] at h
 |x::l,h=>by simp only [inL,Bool.or_eq_true,Nat.beq_eq] at h;rcases h with e|e;simp [e];exact List.mem_cons_of_mem _ (Qf1 e)
theorem Qh {d i j:Nat}:(Nat.lor d (2^i)).testBit j=true↔d.testBit j=true\/j=i:=by
 change (d ||| 2^i).testBit j=true↔_
 rw [Nat.testBit_or,Bool.or_eq_true,Nat.testBit_two_pow,decide_eq_true_iff];exact or_congr Iff.rfl eq_comm
theorem JH (hT:G.T.OK P) (hI:YL.OK P G.I) {c:Ctx} (hc:c.okN X.dom X.O) {a a' :Qg} {f:Frame} {v:AV} {u:Value} (hs:Q2b P G X n0 H a f) (h:Ya G c H a v=some a') (hr:v.rel X u):
 Q87 P G X n0 H a' (f.finish u)/\Qm a' =Qm a:=by
 obtain ⟨hb,hret,hm,is,his,hcur⟩:=hs;obtain ⟨fn,nt,tm,cur,todo,defers,ret,ro⟩:=a;simp only at hret his hcur;subst hret;unfold Ya at h;cases cur with
 |none=>
  simp only at h hcur;split at h;rename_i l k;cases h;obtain ⟨i,is',rfl,⟨p,hp,rfl⟩,his'⟩:=his;obtain ⟨ht,htm⟩:=hcur;have hfin:f.finish u={ f with todo:= .endRangeFunc p.blk::is' }:=by cases f;simp only at ht;subst ht;rfl
  refine ⟨⟨⟨by rw [hfin];exact hb.fn,by rw [hfin];exact hb.kind,by rw [hfin];exact hb.ro,by rw [hfin];exact hb.defers⟩,by rw [hfin];exact hm, .endRangeFunc p.blk::is',⟨_,_,rfl,⟨p,hp,rfl⟩,his'⟩,by rw [hfin],by rw [hfin];exact htm⟩,rfl⟩;cases h
 |reg ops k rest=>
  cases rest with
  |nil=>simp at h
  |cons o rest=>
   simp only at h hcur;cases hp:Qbj nt tm o.dst v with
   |none=>rw [hp] at h;cases h
   |some tm' =>
    rw [hp] at h;simp only [sNat_eq,Option.some.injEq] at h;subst h;obtain ⟨h1,_,⟨A,hA,ht⟩,htm⟩:=hcur;have ho:ops[k]?=some o:=by have:=congrArg (·[0]?) h1;simpa using this.symm
    have hAo:A[k]?=some o:=jR hA ho;simp only [List.length_cons,List.range'_succ] at ht;have hfin:=YW ht hAo u;refine ⟨⟨⟨by rw [hfin];exact hb.fn,by rw [hfin];exact hb.kind,by rw [hfin];exact hb.ro,by rw [hfin];exact hb.defers⟩,by rw [hfin];exact hm,is,his,?_,⟨A,hA,by rw [hfin]⟩,?_⟩,rfl⟩;have:=congrArg List.tail h1;simpa using this;exact Qdf htm hp hr (λt=>Zd ht hAo u t)
 |draw ops done rest pa=>
  simp only at hcur;obtain ⟨A,fuel,t,listed,i,rc,rest',o,hA,rfl,ho,hc3,ht,hcnt,hil,hie,D⟩:=hcur;simp only [ZP,ho] at h;cases hp:Qbj nt tm o.dst v with
  |none=>rw [hp] at h;cases h
  |some tm' =>
   rw [hp] at h;simp only at h;cases hrc:recheck G c H ops tm' rc with
   |false=>rw [hrc] at h;cases h
   |true=>
    rw [hrc] at h;simp only [cond_true,sNat_eq,Option.some.injEq] at h;subst h;obtain ⟨p1,p2⟩:=J6 hp;have hAo:A[i]?=some o:=jR hA ho;have hfin:=YW ht hAo u;have hilt:i<ops.length:=(List.getElem?_eq_some_iff.1 ho).1
    have hilt' :i<listed.size:=by rw [D.size];exact hilt
    obtain ⟨dl,hok,htopo,hdl⟩:=D.plan;have hok' :=hok;simp only [YE,ZP,ho,Bool.and_eq_true,Bool.not_eq_true',hc3,Nat.beq_refl,cond_true,List.all_eq_true] at hok;obtain ⟨⟨⟨⟨⟨k1,k2⟩,k3⟩,kB⟩,k4,k5⟩,k6⟩:=hok;have hpend:∀j,(Nat.lor done (2^i)).testBit j=true->¬Lst (listed.setIfInBounds i true) j->done.testBit j=true/\¬Lst listed j/\j≠i:=by
     intro j hj hl;have hji:j≠i:=λe=>hl ((Qx hilt').2 (.inl e))
     refine ⟨?_,λh=>hl ((Qx hilt').2 (.inr h)),hji⟩;rcases Qh.1 hj with h|h;exact h;exact absurd h hji
    refine ⟨⟨⟨by rw [hfin];exact hb.fn,by rw [hfin];exact hb.kind,by rw [hfin];exact hb.ro,by rw [hfin];exact hb.defers⟩,by rw [hfin];exact hm,is,his,A,fuel,t,_,hA,by rw [hfin],?_,?_⟩,rfl⟩;rw [Q54 hilt' hil];omega;refine ⟨by simpa using D.size,λj hj=>?_,λj q hj hq e he=>?_,⟨i::dl,k6,⟨λq hq e he=>?_,hilt,htopo⟩,λj=>?_⟩,λj q hj hl hq=>?_,λk j ok oj hk hj hok hoj hcl hlk=>?_,λj hj=>?_,⟨?_,λs hs=>?_⟩,λj q hj hl hq=>?_⟩;rcases (Qx hilt').1 hj with e|h
    exact Qh.2 (.inr e);exact Qh.2 (.inl (D.sub j h));refine (Qx hilt').2 (.inr ?_)
    rcases (Qx hilt').1 hj with rfl|h
    rw [ho] at hq;cases hq;exact hie e he;exact D.closed j q h hq e he;rw [ho] at hq;cases hq;exact (hdl e).1 (k3 e he)
    rw [Qh,List.mem_cons,hdl];exact or_comm;obtain ⟨a1,a2,a3⟩:=hpend j hj hl;exact D.light j q a1 a2 hq
    . have hji:j≠i:=by
       rintro rfl
       rw [ho] at hoj;cases hoj;exact hcl hc3
      have hjd:done.testBit j=true:=by rcases Qh.1 hj with h|h;exact h;exact absurd h hji
      rcases Qh.1 hk with h|h;exact D.looks k j ok oj h hjd hok hoj hcl hlk;subst h;rw [ho] at hok;cases hok;have:=kB j ((hdl j).1 hjd);rw [hoj] at this;simp only [Bool.or_eq_true,Bool.not_eq_true'] at this;rcases this with h|h;exact h;rw [h] at hlk;cases hlk
    rcases Qh.1 hj with h|h;exact D.inRange j h;rw [h];exact hilt;rw [(Zd ht hAo u 0).1];exact D.tmr.1;rw [(Zd ht hAo u s).2];by_cases hds:o.dst=some s;obtain ⟨b1,b2⟩:=p1 s hds;have:s<f.tmps.size:=by rw [D.tmr.1];exact b1
    rw [if_pos ⟨hds,this⟩,b2];exact hr;rw [if_neg (λh=>hds h.1),p2 s hds];refine D.tmr.2 s λj q hj hl hq=>hs j q (Qh.2 (.inl hj)) (λh=>?_) hq
    rcases (Qx hilt').1 h with e|e
    subst e;rw [k2] at hj;cases hj;exact hl e;obtain ⟨a1,a2,a3⟩:=hpend j hj hl;obtain ⟨q1,q2⟩:=D.prom j q a1 a2 hq;have hk5:=k5 j ((hdl j).1 a1);rw [hq] at hk5;simp only [Bool.or_eq_true,Bool.and_eq_true,Bool.not_eq_true'] at hk5;rcases hk5 with hbef|⟨hsp,hre⟩;exact absurd (D.before ho hie hbef) a2;obtain ⟨s1,s2⟩:=Q2r hsp p2;have hd:∀v,qy nt tm q v->qy nt tm' q v:=λv hv d hd=>⟨(hv d hd).1,by rw [s2 d hd];exact (hv d hd).2⟩
    have haw:=(zf (ng:=G.T.ng) s1).2.1
    refine ⟨λhcl=>(q1 hcl).keep s1 s2 (λ_ h=>h),λhcl=>?_⟩;obtain ⟨g1,g2,g3⟩:=q2 hcl;have g2' :QI ops tm' q=false->qy nt tm' q .undef:=λhw=>hd _ (g2 (by rw [<-haw];exact hw))
    refine ⟨λ_=>?_,g2',g3⟩;rcases hre with hre|hre;rw [hcl] at hre;cases hre;exact zL hT hI hc hrc j (Qf1 hre) q hq g3 g2'
end
end Go.Ax
namespace Go.Ax
open Go.RowKit
def At (G:Env) (X:Ext) (a:Qg) (f:Frame) (ops:List Oper) (o:Oper):Prop:=
 ∃(A:Array Oper) (i:Nat) (l:List Nat) (is:List Item),A.toList=ops/\f.mode= .run/\f.todo= .inRegion A (i::l)::is/\A[i]?=some o/\
  (∀x∈o.op.operands.toList,∀v,ev G.T.ng a.tm x=some v->v.rel X (evC f.tmps x))/\(yE ops a.tm o=true->Region.wanted o (yielded A f.tmps)=QI ops a.tm o)
theorem At.mono {G:Env} {X Y:Ext} {a:Qg} {f:Frame} {ops:List Oper} {o:Oper} (h:At G X a f ops o) (k:X.le Y):At G Y a f ops o:=by obtain ⟨A,i,l,is,h1,h2,h3,h4,h5,h6⟩:=h;exact ⟨A,i,l,is,h1,h2,h3,h4,λx hx v hv=>AV.Zj k _ _ (h5 x hx v hv),h6⟩
section
variable {P:Program} {G:Env} {X:Ext} {n0:Nat} {H:Tr Q7}
theorem Qmu {a:Qg} {f:Frame} (h:Q87 P G X n0 H a f) (hg:X.Qo G.T.ng) (hret:a.ret=false) {ops:List Oper} {k:Nat} {o:Oper} {rest:List Oper} (hc:a.cur= .reg ops k (o::rest)):
 Q2b P G X n0 H a f/\At G X a f ops o:=by
 obtain ⟨hb,h⟩:=h;rw [hret] at h;simp only at h;obtain ⟨hm,is,his,h⟩:=h;rw [hc] at h;obtain ⟨h1,⟨A,hA,ht⟩,htm⟩:=h;have ho:ops[k]?=some o:=by have:=congrArg (·[0]?) h1;simpa using this.symm
 refine ⟨⟨hb,hret,hm,is,his,?_⟩,A,k,_,is,hA,hm,by rw [ht,List.length_cons,List.range'_succ],jR hA ho,λx hx v hv=>Qb1 htm hg hv,zn hA λj want g d _ _ _=>htm.2 d⟩;rw [hc];exact ⟨h1,by simp,⟨A,hA,ht⟩,htm⟩
theorem Q89.weaken {ops:List Oper} {nt:Nat} {tm:Tr AV} {tmps:Array Value} {done:Nat} {rest:List (Nat×List Nat)} {pa:List (Nat×Nat)} {listed:Array Bool} (D:Q89 P G X n0 H true ops nt tm tmps done rest pa listed):Q89 P G X n0 H false ops nt tm tmps done rest pa listed:=⟨D.size,D.sub,D.closed,D.plan,D.light,D.looks,D.inRange,D.tmr,λi o hi hl ho=>⟨(D.prom i o hi hl ho).1,λhcl=>⟨λh=>(by cases h),((D.prom i o hi hl ho).2 hcl).2⟩⟩⟩
theorem Ql9 {a:Qg} {f:Frame} (h:Q87 P G X n0 H a f) (hg:X.Qo G.T.ng) (hret:a.ret=false) {ops:List Oper} {done i:Nat} {rc:List Nat} {rest:List (Nat×List Nat)} {pa:List (Nat×Nat)} {o:Oper} (hc:a.cur= .draw ops done ((i,rc)::rest) pa)
 (ho:ops[i]?=some o) (hcl:cls o.op=3) (hpa:(pa.map (·.2)).Nodup) {w:World} {cs:List Frame} (hH:Qq X n0 H w) (h0:n0<=w.heap.size):
 ∃Y f' w',Steps P (lone f cs w) (lone f' cs w')/\X.le Y/\Qq Y n0 H w' /\Below n0 w w' /\(∀b,X.V b=none->b∉pa.map (·.2)->Y.V b=none)/\n0<=w'.heap.size/\Q2b P G Y n0 H a f' /\At G Y a f' ops o:=by
 obtain ⟨hb,h⟩:=h;rw [hret] at h;simp only at h;obtain ⟨hm,is,his,h⟩:=h;rw [hc] at h;obtain ⟨A,fuel,t,listed,hA,ht,hcnt,D⟩:=h;obtain ⟨Y,f',w',fuel',t',listed',r1,r2,r3,r4,r5,r6,r7,r8,r9,r10,D'⟩:=drain i rc rest o A hA ho hcl hpa (cs:=cs) fuel t X listed f w D hg hH h0 hm ht hcnt;have hg' :=Ext.ZB hg r2;have hno:∀k q,done.testBit k=true->¬Lst listed' k->ops[k]?=some q->looksAt ops o q=true->False:=by intro k q hk hl hq hlk;obtain ⟨dl,hok,htopo,hdl⟩:=D'.plan;simp only [YE,ZP,ho,Bool.and_eq_true,Bool.not_eq_true',List.all_eq_true] at hok;have:=hok.1.1.2 k ((hdl k).1 hk);rw [hq] at this;simp only [Bool.or_eq_true,Bool.not_eq_true'] at this;rcases this with h|h;exact hl (D'.before ho r10 h);rw [h] at hlk;cases hlk
 have htm:∀d,YD ops o d=true->((a.tm.get d).getD .undef).rel Y (f'.tmps.getD d undef):=λd hd=>D'.operands hno hd
 have hmf:f'.mode= .run:=by rw [r7];exact hm
 have htf:f'.todo= .inRegion A (i::lin A fuel' t' (listed'.setIfInBounds i true))::is:=by rw [r7]
 have hbf:jV P Y a f' :=by have:=hb.mono r2;rw [r7];exact ⟨this.fn,this.kind,this.ro,this.defers⟩
 refine ⟨Y,f',w',r1,r2,r3,r4,r5,r6,⟨hbf,hret,hmf,is,Ym r2 his,?_⟩,A,i,_,is,hA,hmf,htf,jR hA ho,λx hx v hv=>Q1l hg' (λd hd=>by subst hd;exact htm d (Jb hx)) hv,zn hA λj want g d hgd hj hgdst=>htm d (Jc hgd hj hgdst)⟩;rw [hc];exact ⟨A,fuel',t',listed',i,rc,rest,o,hA,rfl,ho,hcl,htf,r8,r9,r10,D'.weaken⟩
end
end Go.Ax
namespace Go.Ax
open Go.RowKit
theorem Q36:∀{l:List Nat} {s:Nat},Qev l=some s->l.getLast?=some s
 |[],_,h=>by simp [Qev] at h
 |[a],s,h=>by simpa [Qev] using h
 |a::b::l,s,h=>by rw [List.getLast?_cons_cons];exact Q36 h
theorem qJ {X:Ext} {n:Nat} {k v:AV}:∀{es:List (AV×AV×Nat)} {es' :List MapEntry},zX n es=some (k,v)->Q9 X es es' ->∃e,es'.find? (·.born==n)=some e/\k.rel X e.key/\v.rel X e.val
 |[],_,h,_=>by simp [zX] at h
 |x::xs,_,h,⟨e,es',rfl,h1,h2,h3,h4⟩=>by
  simp only [zX] at h;cases hb:Nat.beq x.2.2 n with
  |true=>
   rw [hb] at h;simp only [cond_true,Option.some.injEq,Prod.mk.injEq] at h;obtain ⟨rfl,rfl⟩:=h;have:(e.born==n)=true:=by rw [h3];simpa using hb
   exact ⟨e,by simp [this],h1,h2⟩
  |false=>
   rw [hb] at h;have:(e.born==n)=false:=by
    rw [h3];have hne:x.2.2≠n:=λhe=>by simp [he] at hb
    simpa using hne
   obtain ⟨e',g1,g2,g3⟩:=qJ h h4;exact ⟨e',by simp [this,g1],g2,g3⟩
theorem Q7z {P:Program} {X:Ext} {n0:Nat} {H:Tr Q7} {next:Nat} {w:World} (hH:Qq X n0 H w) (hn:∀b,next<=b->X.V b=none) {x:AV} {u:Value} {r:HR}
 (h:Qge H next x=some r) (hx:x.rel X u):HS P X n0 H next w (Instr.entry u) r:=by
 unfold Qge at h;split at h;rename_i b;split at h;rename_i m since seen stepped hb;split at h;rename_i s es clock hs hm;cases hc:Nat.beq clock stepped with
 |false=>rw [hc] at h;cases h
 |true=>
  rw [hc] at h;simp only [cond_true] at h;split at h;rename_i k v hf;cases h;simp only [AV.rel] at hx;obtain ⟨p,hp,rfl⟩:=hx;obtain ⟨hb0,m',h1,q,hq,rfl⟩:=hH.obj _ _ p hb hp;obtain ⟨es',h2,h3⟩:=hH.obj _ _ q hm hq;have hg:=Qk (P:=P) h1 (by simp);have hg2:=Qk (P:=P) h2 (by simp);obtain ⟨e,e1,e2,e3⟩:=qJ hf h3;have hback:seen.toArray.back?=some s:=by have:=Q36 hs;simpa [List.getLast?_eq_getElem?,Array.back?] using this
  have e1' :es'.find? (·.born==s)=some e:=by rw [<-Array.find?_toList];exact e1
  have hcl:clock=stepped:=by simpa using hc
  refine ⟨X, .tuple #[e.key,e.val],w,?_,Ext.le.refl X,?_,hH,Below.refl _ _,λb hb _=>⟨hb,rfl⟩,Nat.le_refl _,hn⟩
  rw [hb0];simp [Instr.entry,hg,hback,hg2,hcl,e1'];simp only [AV.rel];exact ⟨_,rfl,_,_,rfl,e2,_,_,rfl,e3,rfl⟩;cases h
 cases h;cases h;cases h
theorem qV {X:Ext} {seen:List Nat}:∀{es:List (AV×AV×Nat)} {es' :List MapEntry},Q9 X es es' ->Q9 X (Q11 seen es) (es'.filter λe=>!seen.contains e.born)
 |[],_,rfl=>rfl
 |x::xs,_,⟨e,es',rfl,h1,h2,h3,h4⟩=>by
  simp only [Q11,List.filter_cons];have hc:seen.any (Nat.beq x.2.2)=seen.contains e.born:=by
   rw [h3];induction seen with
   |nil=>rfl
   |cons a l ih=>
    simp only [List.any_cons,List.contains_cons,ih];congr 1;cases hb:Nat.beq x.2.2 a with
    |true=>have:x.2.2=a:=by simpa using hb
           simp [this]
    |false=>
     have hne:x.2.2≠a:=λhe=>by simp [he] at hb
     symm
     simpa using hne
  rw [hc];cases seen.contains e.born with
  |true=>simp only [cond_true,Bool.not_true,Bool.false_eq_true,if_false];exact qV h4
  |false=>simp only [cond_false,Bool.not_false,if_true];exact ⟨e,_,rfl,h1,h2,h3,qV h4⟩
theorem Q1n {X:Ext}:∀{es:List (AV×AV×Nat)} {es' :List MapEntry},Q9 X es es' ->es.length=es'.length
 |[],_,rfl=>rfl
 |_::xs,_,⟨e,es',rfl,_,_,_,h4⟩=>by simp [Q1n h4]
theorem Q1o {X:Ext} {n:Nat}:∀{es:List (AV×AV×Nat)} {es' :List MapEntry},Q9 X es es' ->es.all (λe=>Nat.ble n e.2.2)=es'.all (λe=>decide (e.born>=n))
 |[],_,rfl=>rfl
 |x::xs,_,⟨e,es',rfl,_,_,h3,h4⟩=>by
  simp only [List.all_cons,Q1o h4,h3];congr 1;cases hb:Nat.ble n x.2.2 with
  |true=>have:=Nat.le_of_ble_eq_true hb;simp [this]
  |false=>
   have:¬n<=x.2.2:=λhl=>by rw [Nat.ble_eq_true_of_le hl] at hb;cases hb
   simp only [ge_iff_le]
   symm
   simpa using this
theorem Qh6 {P:Program} {w:World} {r m since last clock:Nat} {seen:Array Nat} {es:Array MapEntry} (h1:(getObj r).run P w= .ok (.mapIter (some m) since seen last) w) (h2:(getObj m).run P w= .ok (.map es clock) w) (t:TypeId):
 (Instr.next (.pointer (some ⟨r,0,none⟩)) false t).run P w=(do
  if !seen.isEmpty&&!es.isEmpty&&es.all (·.born>=last) then
   unsupported (.noEntry "instr/Next: every entry that the ranged map held at the last iteration is gone, and it holds new ones")
  let left:=es.filter λe=>!seen.contains e.born
  let old:=left.filter (·.born<since)
  let new:=left.filter (·.born>=since)
  let candidates:=(if old.isEmpty then #[none] else #[])++(old++new).map some
  match candidates[<-choose (.mapNext candidates.size)]? with
  |some (some e)=>
   setObj r (.mapIter (some m) since (seen.push e.born) clock)
   pure (.tuple #[.bool true,e.key,e.val])
  |some none=>pure (.tuple #[.bool false])
  |none=>stuck "Next: no such candidate" :Sem Value).run P w:=by
 unfold Instr.next;simp only [Sem.run_bind,h1,Result.andThen_ok,h2];rfl
theorem Q9k {P:Program} {X:Ext} {n0:Nat} {H:Tr Q7} {next:Nat} {w:World} (hH:Qq X n0 H w) (hn:∀b,next<=b->X.V b=none) {x:AV} {u:Value} {r:HR} {t:TypeId}
 (h:Qll H next x=some r) (hx:x.rel X u):HS P X n0 H next w (Instr.next u false t) r:=by
 unfold Qll at h;split at h
 . rename_i b;simp only [AV.rel] at hx;obtain ⟨p,hp,rfl⟩:=hx;split at h;rename_i since seen last hb;cases h;obtain ⟨hb0,m',h1,rfl⟩:=hH.obj _ _ p hb hp;have hg:=Qk (P:=P) h1 (by simp);refine ⟨X, .tuple #[.bool false],w,?_,Ext.le.refl X,?_,hH,Below.refl _ _,λb hb _=>⟨hb,rfl⟩,Nat.le_refl _,hn⟩
   rw [hb0];simp [Instr.next,hg];simp only [AV.rel];exact ⟨_,rfl,_,_,rfl,rfl,rfl⟩
   . rename_i m since seen last hb;split at h
     . rename_i es clock hm;obtain ⟨hb0,m',h1,q,hq,rfl⟩:=hH.obj _ _ p hb hp;obtain ⟨es',h2,h3⟩:=hH.obj _ _ q hm hq;have hg:=Qk (P:=P) h1 (by simp);have hg2:=Qk (P:=P) h2 (by simp);have hrun:=Qh6 (P:=P) hg hg2 t;have hseen:seen.toArray.isEmpty=seen.isEmpty:=by simp
       have hemp:es'.isEmpty=es.isEmpty:=by
        have:=Q1n h3;cases es with
        |nil=>have:es'.toList.length=0:=this.symm
              simp at this;simp [this]
        |cons a l=>
         have:es'.toList.length=l.length+1:=this.symm;simp only [Array.length_toList] at this;simp only [List.isEmpty_cons];cases he:es'.isEmpty with
         |false=>rfl
         |true=>rw [Array.isEmpty_iff] at he;subst he;simp at this
       have hall:=Q1o (n:=last) h3;have hns:=qV (seen:=seen) h3;cases hbad:(!seen.isEmpty&&!es.isEmpty&&es.all (λe=>Nat.ble last e.2.2)) with
       |true=>rw [hbad] at h;cases h
       |false=>
       rw [hbad] at h;simp only [cond_false] at h;have hbad' :(!seen.toArray.isEmpty&&!es'.isEmpty&&es'.all (λe=>decide (e.born>=last)))=false:=by rw [hseen,hemp,<-Array.all_toList,<-hall];exact hbad
       have hleft:(es'.filter λe=>!seen.toArray.contains e.born)=(es'.toList.filter λe=>!seen.contains e.born).toArray:=by apply Array.ext';rw [Array.toList_filter];simp
       rw [hb0];simp only [Nat.zero_add];split at h
       . rename_i hnil;cases h;rw [hnil] at hns;have hl:(es'.filter λe=>!seen.toArray.contains e.born)=#[]:=by rw [hleft];rw [show (es'.toList.filter λe=>!seen.contains e.born)=[] from hns]
         have hr:(Instr.next (.pointer (some ⟨p.blk,0,none⟩)) false t).run P w= .ok (.tuple #[.bool false]) w.drew\/(Instr.next (.pointer (some ⟨p.blk,0,none⟩)) false t).run P w= .ok (.tuple #[.bool false]) w:=by rw [hrun,hbad',hl];simp [Question.forced]
         have fin:∀w',(Instr.next (.pointer (some ⟨p.blk,0,none⟩)) false t).run P w= .ok (.tuple #[.bool false]) w' ->w' =w.drew\/w' =w->HS P X n0 H next w (Instr.next (.pointer (some ⟨p.blk,0,none⟩)) false t) ⟨.tuple [.bool false],H,next⟩:=by intro w' hw' he;refine ⟨X,_,w',hw',Ext.le.refl X,?_,?_,?_,λb hb _=>⟨hb,rfl⟩,Nat.le_refl _,hn⟩;simp only [AV.rel];exact ⟨_,rfl,_,_,rfl,rfl,rfl⟩;rcases he with rfl|rfl;exact hH.of_heap rfl;exact hH;rcases he with rfl|rfl;exact ⟨rfl,rfl,rfl,Nat.le_refl _,λ_ _=>rfl⟩;exact Below.refl _ _
         rcases hr with hr|hr;exact fin _ hr (.inl rfl);exact fin _ hr (.inr rfl)
       rename_i e hone;cases hlt:Nat.blt e.2.2 since with
       |false=>rw [hlt] at h;cases h
       |true=>
        rw [hlt] at h;cases h;rw [hone] at hns;obtain ⟨e',_,hfl,k1,k2,k3,rfl⟩:=hns;have hl:(es'.filter λe=>!seen.toArray.contains e.born)=#[e']:=by rw [hleft,hfl]
        have hlt' :e'.born<since:=by rw [k3];simpa using hlt
        have hge:¬since<=e'.born:=by omega
        have hset:=Z6 (P:=P) (o' := .mapIter (some q.blk) since (seen++[e'.born]).toArray clock) h1 (by simp);have hr:(Instr.next (.pointer (some ⟨p.blk,0,none⟩)) false t).run P w= .ok (.tuple #[.bool true,e'.key,e'.val]) { w with heap:=w.heap.setIfInBounds p.blk (.mapIter (some q.blk) since (seen++[e'.born]).toArray clock)}:=by rw [hrun,hbad',hl];simp [Question.forced,hlt',hge,hset]
        refine ⟨X,_,_,hr,Ext.le.refl X,?_,hH.setObj hb rfl hp _ ⟨hb0,some q.blk,by simp [k3],q,hq,rfl⟩,?_,λc hc _=>⟨hc,Tr.Q0 _ _ (QZ hp hc)⟩,Nat.le_refl _,hn⟩;simp only [AV.rel];exact ⟨_,rfl,_,_,rfl,rfl,_,_,rfl,k1,_,_,rfl,k2,rfl⟩;have hown:=hH.own b _ p hb rfl hp;exact ⟨rfl,rfl,rfl,by simp,λk hk=>by simp only [Array.getElem?_setIfInBounds];rw [if_neg (by omega)]⟩
       cases h
     cases h
   cases h
 cases h
theorem Q0s {X:Ext}:∀{as:List AV} {vs:List Value},as.length=vs.length->(∀(i:Nat) (a:AV),as[i]?=some a->∃v,vs[i]?=some v/\a.rel X v)->AV.QH X as vs
 |[],[],_,_=>rfl
 |[],_::_,h,_=>by simp at h
 |_::_,[],h,_=>by simp at h
 |a::as,v::vs,h,hg=>by obtain ⟨v',hv,hr⟩:=hg 0 a (by simp);simp at hv;subst hv;exact ⟨v,vs,rfl,hr,Q0s (by simpa using h) λi a' hi=>by simpa using hg (i+1) a' (by simpa using hi)⟩
theorem Q3q {X:Ext}:∀{l:List AV} {s:List E} {vs:List Value},Yg l=some s->AV.QH X l vs->vs=s.map λt=>Value.int .u8 (t.den X.O)
 |[],s,vs,h,hr=>by simp only [Yg,Option.some.injEq] at h;subst h;rw [rels_nil.1 hr];rfl
 |a::l,s,[],h,hr=>absurd hr not_rels_cons_nil
 |a::l,s,v::vs,h,hr=>by simp only [rels_cons_cons] at hr;simp only [Yg] at h;split at h;cases h;rename_i e he;split at h;cases h;rename_i s' hs;cases h;rw [Q3q hs hr.2,(Jl he hr.1).2.1];rfl
theorem Qco {P:Program} {e:TypeId} (hc:P.cellsOf e=1) (count off n:Nat) (hn:off+n<=count):liesAt P P.depth e count off e n=true:=by have hd:P.depth=(2*(P.types.size+Made.depth)+1)+1:=rfl;rw [hd];simp only [liesAt,Bool.or_eq_true];left;rw [hd];simp [rowAt,hc,hn,sameLayout,Nat.mod_one]
theorem Yd {P:Program} {w:World} (pt it ty e:TypeId) (k:IntKind) (hp:P.underlying pt=some (.pointer e)) (hc:P.cellsOf e=1) (g off cells:Nat) (hsh:w.shape? g=some (e,cells)) (l:List UInt8) (h0:l≠[]) (hn:off+l.length<=cells) (h63:l.length<=9223372036854775807)
 (hcell:∀j x,l[j]?=some x->w.cell? ((⟨g,off,none⟩:Addr).add j)=some (.int .u8 x.toNat)):
 (Builtin.unsafeString_ #[pt,it] ty #[.pointer (some ⟨g,off,none⟩), .int k l.length]).run P w= .ok (.string ⟨l.toArray⟩) (w.freeze ⟨g,off,none⟩ l.length):=by
 have hl:l.length≠0:=by simpa using h0
 have hlb:=Lib.run_loadBytes (P:=P) w l ⟨g,off,none⟩ .empty hcell
 have hlies:=Qco (P:=P) hc (cells/P.cellsOf e) off l.length (by rw [hc];simpa using hn);have h63' :¬(9223372036854775807:Int)<(l.length:Int):=by omega
 obtain ⟨m1,m2,m3,hdef⟩:∃m1 m2 m3:String,Builtin.unsafeString_ #[pt,it] ty #[.pointer (some ⟨g,off,none⟩), .int k l.length]=
  (do
   let n <-asInt (.int k l.length)
   if n<0 then runtimePanic (.error m1)
   if n>IntKind.i64.max then unsupported (.unsafePointer m2)
   if n=0 then pure (.string .empty)
   else if <-variablesAt ⟨g,off,none⟩ (<-elemOf pt) n.toNat then do
    let s <-loadBytes ⟨g,off,none⟩ .empty n.toNat
    freeze ⟨g,off,none⟩ n.toNat
    pure (.string s)
   else unsupported (.unsafePointer m3)):=⟨_,_,_,rfl⟩
 rw [hdef];have hmax:IntKind.i64.max=9223372036854775807:=rfl;have hneg:¬(l.length:Int)<0:=by omega
 simp [asInt,asIntOf,hmax,h63',hneg,hl,variablesAt,hsh,elemOf,run_underlying hp,hlies,hlb]
theorem Y2 {P:Program} {w:World} (pt it ty:TypeId) (k:IntKind) (p:Option Addr):(Builtin.unsafeString_ #[pt,it] ty #[.pointer p, .int k 0]).run P w= .ok (.string .empty) w:=by
 have hmax:IntKind.i64.max=9223372036854775807:=rfl;cases p with
 |none=>
  obtain ⟨m1,m2,m3,hdef⟩:∃m1 m2 m3:String,Builtin.unsafeString_ #[pt,it] ty #[.pointer none, .int k 0]=
   (do
    let n <-asInt (.int k 0)
    if n<0 then runtimePanic (.error m1)
    if n>IntKind.i64.max then unsupported (.unsafePointer m2)
    if n=0 then pure (.string .empty)
    else runtimePanic (.error m3)):=⟨_,_,_,rfl⟩
  rw [hdef];simp [asInt,asIntOf,hmax]
 |some a=>
  obtain ⟨m1,m2,m3,hdef⟩:∃m1 m2 m3:String,Builtin.unsafeString_ #[pt,it] ty #[.pointer (some a), .int k 0]=
   (do
    let n <-asInt (.int k 0)
    if n<0 then runtimePanic (.error m1)
    if n>IntKind.i64.max then unsupported (.unsafePointer m2)
    if n=0 then pure (.string .empty)
    else if <-variablesAt a (<-elemOf pt) n.toNat then do
     let s <-loadBytes a .empty n.toNat
     freeze a n.toNat
     pure (.string s)
    else unsupported (.unsafePointer m3)):=⟨_,_,_,rfl⟩
  rw [hdef];simp [asInt,asIntOf,hmax]
theorem zo {P:Program} {T:Tab} (hT:T.OK P) {X:Ext} {n0:Nat} {H:Tr Q7} {next:Nat} {w:World} (hH:Qq X n0 H w) (hn:∀b,next<=b->X.V b=none) {t it ty:TypeId} {x n:AV} {u z:Value} {r:HR}
 (h:Jo T H next t x n=some r) (hx:x.rel X u) (hz:n.rel X z):HS P X n0 H next w (Builtin.unsafeString_ #[t,it] ty #[u,z]) r:=by
 unfold Jo at h;split at h;cases h;rename_i n' hn';obtain ⟨k,rfl⟩:=Z8 hn' hz;split at h
 . have base:∀p:Option Addr,u= .pointer p->HS P X n0 H next w (Builtin.unsafeString_ #[t,it] ty #[u, .int k ((Nat.zero:Nat):Int)]) ⟨.str [],H,next⟩:=by
    rintro p rfl
    refine ⟨X,_,w,Y2 (P:=P) t it ty k p,Ext.le.refl X,?_,hH,Below.refl _ _,λb hb _=>⟨hb,rfl⟩,Nat.le_refl _,hn⟩;simp only [AV.rel];exact ⟨λt ht=>(by cases ht),rfl⟩
   split at h;cases h;simp only [AV.rel] at hx;exact base _ hx;cases h;simp only [AV.rel] at hx;obtain ⟨p,_,hx⟩:=hx;exact base _ hx;cases h
 rename_i m;split at h;rename_i b o;split at h;rename_i ti cs el ex pl hti hb;split at h;rename_i e hd;split at h;rename_i ei hei;cases hc:(Nat.beq e el&&Nat.beq ei.size 1&&Nat.ble (o+m.succ) cs.length&&Nat.ble m.succ 9223372036854775807) with
 |false=>rw [hc] at h;cases h
 |true=>
  rw [hc] at h;simp only [cond_true] at h;simp only [Bool.and_eq_true,Nat.beq_eq,Nat.ble_eq] at hc;obtain ⟨⟨⟨rfl,hsz⟩,hle⟩,hmax⟩:=hc;split at h;rename_i s hs;cases h;simp only [AV.rel] at hx;obtain ⟨p,hp,rfl⟩:=hx;obtain ⟨c,fr,⟨el',h1,mel⟩,h2,h3,h4,h5,h6,h7⟩:=hH.obj _ _ p hb hp;have mel' :=mel.resolve_left (by simp);rw [mel'] at h1;have hu:P.underlying t=some (.pointer e):=by rw [<-hd];exact T.und hT hti
  have hcell1:P.cellsOf e=1:=by obtain ⟨_,i,_,g1,g2,_⟩:=hT.types e ei hei;simp [Program.cellsOf,g1,g2,hsz]
  have hrels:AV.QH X ((cs.drop o).take m.succ) ((c.toList.drop (p.base+o)).take m.succ):=by
   refine Q0s (by simp only [List.length_take,List.length_drop,Array.length_toList];omega) λi a hi=>?_
   rw [List.getElem?_take] at hi ⊢;split at hi;rename_i hlt;rw [if_pos hlt];rw [List.getElem?_drop] at hi ⊢;obtain ⟨v,hv,hr⟩:=h5 _ a hi;refine ⟨v,?_,hr⟩;rw [<-hv,Array.getElem?_toList,Nat.add_assoc];cases hi
  obtain ⟨k1,ns,k2,k3⟩:=JO hs hrels;have hlen:ns.length=m.succ:=by have:=congrArg List.length k2;simp only [List.length_take,List.length_drop,Array.length_toList,List.length_map] at this;omega
  have hbl:(S.bytes X.O s).length=m.succ:=by rw [k3];simpa using hlen
  have hcells:∀j y,(S.bytes X.O s)[j]?=some y->w.cell? ((⟨p.blk,p.base+o,none⟩:Addr).add j)=some (.int .u8 y.toNat):=by
   intro j y hj;unfold S.bytes at hj;rw [List.getElem?_map] at hj;cases hsj:s[j]? with
   |none=>rw [hsj] at hj;cases hj
   |some e' =>
    rw [hsj] at hj;simp only [Option.map_some,Option.some.injEq] at hj;subst hj;obtain ⟨r1,r2⟩:=k1 e' (List.mem_of_getElem? hsj);have hv:=congrArg (·[j]?) (Q3q hs hrels);simp only [List.getElem?_map,hsj,Option.map_some] at hv;rw [List.getElem?_take] at hv;split at hv;rw [List.getElem?_drop,Array.getElem?_toList] at hv;have hy:((UInt8.ofNat (e'.den X.O).toNat).toNat:Int)=e'.den X.O:=by rw [UInt8.toNat_ofNat'];omega
    rw [hy];unfold World.cell? Addr.add;by_cases hj0:j=0;subst hj0;simp [h1];simpa using hv;simp [hj0,h1];simpa using hv;cases hv
  have hrun:=Yd (P:=P) (w:=w) t it ty e k hu hcell1 p.blk (p.base+o) c.size (by simp [World.shape?,h1]) (S.bytes X.O s) (by intro h0;rw [h0] at hbl;simp at hbl) (by rw [hbl];omega) (by rw [hbl];exact hmax) hcells;rw [hbl] at hrun;refine ⟨X,_,_,hrun,Ext.le.refl X,?_,?_,?_,λd hd' _=>⟨hd',Tr.Q0 _ _ (QZ hp hd')⟩,Nat.le_refl _,hn⟩;simp only [AV.rel];exact ⟨k1,trivial⟩;refine hH.change hb rfl hp (by simp [World.freeze]) (λd hd' =>?_) trivial;simp only [World.freeze,Nat.succ_ne_zero,if_false,Array.getElem?_modify];rw [if_neg (λe=>hd' e.symm)];exact Lib.below_freeze (Below.refl _ _) (hH.own b _ p hb rfl hp) _;cases h
 cases h;cases h;cases h;cases h
theorem jc {P:Program} {T:Tab} (hT:T.OK P) {X:Ext} {n0:Nat} {H:Tr Q7} {next:Nat} {w:World} (hH:Qq X n0 H w) (hn:∀b,next<=b->X.V b=none) {t it ty:TypeId} {x n:AV} {u z:Value} {r:HR}
 (h:JR T H next t x n=some r) (hx:x.rel X u) (hz:n.rel X z):HS P X n0 H next w (Builtin.unsafeString_ #[t,it] ty #[u,z]) r:=by
 unfold JR at h;split at h
 case h_2=>cases h
 rename_i b k l;split at h
 case h_2=>cases h
 rename_i ti s l' el hti hb;split at h
 case h_2=>cases h
 rename_i e hd;split at h
 case h_2=>cases h
 rename_i ei hei;cases hc:(Nat.beq l l' &&(Nat.beq e el&&Nat.beq ei.size 1)) with
 |false=>rw [hc] at h;cases h
 |true=>
 rw [hc] at h;cases h;simp only [Bool.and_eq_true,Nat.beq_eq] at hc;obtain ⟨rfl,rfl,hsz⟩:=hc;simp only [AV.rel] at hx hz;obtain ⟨p,hp,rfl⟩:=hx;obtain ⟨-,rfl⟩:=hz;obtain ⟨h1,h2,h3,h4,c,fr,h5,h6,h7,h8,h9,h10⟩:=hH.obj _ _ p hb hp;have hu:P.underlying t=some (.pointer e):=by rw [<-hd];exact T.und hT hti
 have hcell1:P.cellsOf e=1:=by obtain ⟨_,i,_,g1,g2,_⟩:=hT.types e ei hei;simp [Program.cellsOf,g1,g2,hsz]
 have hrel:(AV.sstr s).rel X (.string ⟨(s.den X.O).toArray⟩):=by simp only [AV.rel];exact ⟨h1,h2,trivial⟩
 have hkill:∀w',w'.heap.size=w.heap.size->(∀d,d≠p.blk->w'.heap[d]?=w.heap[d]?)->Qq X n0 (H.set b .dead) w' :=λw' q1 q2=>hH.change hb rfl hp q1 q2 trivial
 simp only [E.den];rw [h4,Nat.add_zero];by_cases h0:s.den X.O=[];rw [h0] at hrel ⊢;refine ⟨X,_,w,Y2 (P:=P) t it ty k _,Ext.le.refl X,hrel,hkill w rfl (λ_ _=>rfl),Below.refl _ _,λd hd' _=>⟨hd',Tr.Q0 _ _ (QZ hp hd')⟩,Nat.le_refl _,hn⟩;have hcells:∀j y,(s.den X.O)[j]?=some y->w.cell? ((⟨p.blk,p.base,none⟩:Addr).add j)=some (.int .u8 y.toNat):=by intro j y hj;have hv:=h8 j y hj;unfold World.cell? Addr.add;by_cases hj0:j=0;subst hj0;simp [h5];simpa using hv;simp [hj0,h5];simpa using hv
 have hrun:=Yd (P:=P) (w:=w) t it ty e k hu hcell1 p.blk p.base c.size (by simp [World.shape?,h5]) (s.den X.O) h0 (by omega) (by omega) hcells;have h0' :(s.den X.O).length≠0:=by simpa using h0
 refine ⟨X,_,_,hrun,Ext.le.refl X,hrel,hkill _ (by simp only [World.freeze,h0',if_false,Array.size_modify]) (λd hd' =>?_),Lib.below_freeze (Below.refl _ _) (hH.own b _ p hb rfl hp) _,λd hd' _=>⟨hd',Tr.Q0 _ _ (QZ hp hd')⟩,Nat.le_refl _,hn⟩;simp only [World.freeze,h0',if_false,Array.getElem?_modify];rw [if_neg (λe=>hd' e.symm)]
end Go.Ax
namespace Go.Ax
open Go.RowKit
def HSN (P:Program) (X:Ext) (n0:Nat) (H:Tr Q7) (next:Nat) (w:World) (s:Sem Next) (r:HR):Prop:=
 ∃Y u w',(s.run P w= .ok (.value u) w' \/(s.run P w= .ok .skip w' /\u=undef))/\X.le Y/\r.v.rel Y u/\Qq Y n0 r.H w' /\Below n0 w w' /\
  (∀b,X.V b=none->b<next->Y.V b=none/\r.H.get b=H.get b)/\next<=r.next/\∀b,r.next<=b->Y.V b=none
section
variable {P:Program} {X:Ext} {n0:Nat} {H:Tr Q7} {next:Nat} {w:World} {r:HR}
theorem HS.toN {s:Sem Value} (h:HS P X n0 H next w s r):HSN P X n0 H next w (do pure (.value (<-s))) r:=by obtain ⟨Y,u,w',h1,h2⟩:=h;exact ⟨Y,u,w', .inl (by simp [h1]),h2⟩
theorem HS.toU {s:Sem Unit} (h:HS P X n0 H next w (do s;pure undef) r):HSN P X n0 H next w (do s;pure .skip) r:=by
 obtain ⟨Y,u,w',h1,h2⟩:=h;refine ⟨Y,u,w', .inr ?_,h2⟩;simp only [Sem.run_bind] at h1 ⊢;cases hs:s.run P w with
 |ok a w1=>rw [hs] at h1;simp only [Result.andThen_ok,Sem.run_pure,Result.ok.injEq] at h1 ⊢;exact ⟨⟨trivial,h1.2⟩,h1.1.symm⟩
 |_=>rw [hs] at h1;cases h1
theorem Q91 {G:Env} (hT:G.T.OK P) {c:Ctx} (hc:c.okN X.dom X.O) (hH:Qq X n0 H w) (h0:n0<=w.heap.size) (hn:∀b,next<=b->X.V b=none) {f:Operand->Option AV} {g:Operand->Value} {o:Oper}
 (hf:∀x∈o.op.operands.toList,∀a,f x=some a->a.rel X (g x)) (h:ZR G c H next f o.op= .ok r):HSN P X n0 H next w (execOp g o) r:=by
 obtain ⟨dst,op,type,pos,after,guard⟩:=o;cases op<;>simp only [Op.operands] at hf<;>simp only [ZR,reduceCtorEq] at h
 case assign x=>split at h;rename_i v hv;cases h;exact ⟨X,g x,w, .inl rfl,Ext.le.refl X,hf x (by simp) v hv,hH,Below.refl _ _,λb hb _=>⟨hb,rfl⟩,Nat.le_refl _,hn⟩;cases h
 case store t a x=>split at h;rename_i a' x' ha hx;exact HS.toU (Q7o hT hH hn (D.Qu h) (hf a (by simp) a' ha) (hf x (by simp) x' hx));cases h
 case mapUpdate t m k x=>split at h;rename_i m' k' x' hm hk hx;exact HS.toU (j6 hT hc hH hn h (hf m (by simp) m' hm) (hf k (by simp) k' hk) (hf x (by simp) x' hx));cases h
 case insert t m k x=>split at h;rename_i m' k' x' hm hk hx;exact HS.toU (j6 hT hc hH hn h (hf m (by simp) m' hm) (hf k (by simp) k' hk) (hf x (by simp) x' hx));cases h
 case range t x=>split at h;rename_i x' hx;exact HS.toN (Q7u hT hH h0 hn (D.Qu h) (hf x (by simp) x' hx));cases h
 case entry x=>split at h;rename_i x' hx;exact HS.toN (Q7z hH hn (D.Qu h) (hf x (by simp) x' hx));cases h
 case next x str=>
  cases str with
  |true=>cases h
  |false=>simp only [cond_false] at h;split at h;rename_i x' hx;exact HS.toN (Q9k hH hn (D.Qu h) (hf x (by simp) x' hx));cases h
 case call cl=>
  obtain ⟨callee,args,argTypes⟩:=cl;cases callee<;>simp only [reduceCtorEq] at h;rename_i b;have hargs:∀x∈args.toList,∀a,f x=some a->a.rel X (g x):=λx hx a ha=>hf x (by simp [Call.operands];simpa using hx) a ha
  have hex:∀b',execOp g ⟨dst, .call ⟨.builtin b',args,argTypes⟩,type,pos,after,guard⟩=builtin b' argTypes type (args.map λ| .const _=>true|_=>false) (args.map g):=λb' =>rfl
  split at h;rename_i sT xT s x h1 h2;have e1:argTypes=#[sT,xT]:=by rw [<-Array.toList_inj];exact h1
  have e2:args=#[s,x]:=by rw [<-Array.toList_inj];exact h2
  subst e1 e2;rw [hex,show Array.map g #[s,x]=#[g s,g x] from by simp]
  split at h;rename_i s' x' hs hx;split at h;rename_i r' hr';cases h;exact HS.toN (Q2o hT hc hH h0 hn hr' (hargs s (by simp) s' hs) (hargs x (by simp) x' hx));exact HS.toN (jh hT hH h0 hn (D.Qu h) (hargs s (by simp) s' hs) (hargs x (by simp) x' hx));cases h;rename_i sT xT s x h1 h2;have e1:argTypes=#[sT,xT]:=by rw [<-Array.toList_inj];exact h1
  have e2:args=#[s,x]:=by rw [<-Array.toList_inj];exact h2
  subst e1 e2;rw [hex,show Array.map g #[s,x]=#[g s,g x] from by simp]
  split at h;rename_i s' x' hs hx;exact HS.toN (Q9s hT hH hn (D.Qu h) (hargs s (by simp) s' hs) (hargs x (by simp) x' hx));cases h;rename_i sT xT s x h1 h2;have e1:argTypes=#[sT,xT]:=by rw [<-Array.toList_inj];exact h1
  have e2:args=#[s,x]:=by rw [<-Array.toList_inj];exact h2
  subst e1 e2;rw [hex,show Array.map g #[s,x]=#[g s,g x] from by simp]
  split at h;rename_i s' x' hs hx;exact HS.toN (Q5i hT hc hH hn h (hargs s (by simp) s' hs) (hargs x (by simp) x' hx));cases h;rename_i sT xT s x h1 h2;have e1:argTypes=#[sT,xT]:=by rw [<-Array.toList_inj];exact h1
  have e2:args=#[s,x]:=by rw [<-Array.toList_inj];exact h2
  subst e1 e2;rw [hex,show Array.map g #[s,x]=#[g s,g x] from by simp]
  split at h;rename_i s' x' hs hx;split at h;rename_i r' hr';cases h;exact HS.toN (jc hT hH hn hr' (hargs s (by simp) s' hs) (hargs x (by simp) x' hx));exact HS.toN (zo hT hH hn (D.Qu h) (hargs s (by simp) s' hs) (hargs x (by simp) x' hx));cases h;rename_i t x h1 h2;have e1:argTypes=#[t]:=by rw [<-Array.toList_inj];exact h1
  have e2:args=#[x]:=by rw [<-Array.toList_inj];exact h2
  subst e1 e2;rw [hex,show Array.map g #[x]=#[g x] from by simp]
  split at h;rename_i x' hx;exact HS.toN (Q80 hT hH hn (D.Qu h) (hargs x (by simp) x' hx));cases h;cases h
theorem Qes {G:Env} (hT:G.T.OK P) (hI:YL.OK P G.I) {c:Ctx} (hc:c.okN X.dom X.O) (hH:Qq X n0 H w) (h0:n0<=w.heap.size) (hn:∀b,next<=b->X.V b=none) {f:Operand->Option AV} {g:Operand->Value} {o:Oper} {q:LR}
 (hf:∀x∈o.op.operands.toList,∀a,f x=some a->a.rel X (g x)) (h:light G.T G.I c H f o.op= .ok q):
 HSN P X n0 H next w (execOp g o) (match q.obj with|none=>⟨q.value 0,H,next⟩|some ob=>⟨q.value next,H.set next ob,next+1⟩):=by
 have hs:=Yu hT hI hc hH hf h;have hbn:=hn next (Nat.le_refl _)
 have born:∀(ob:Obj) (o' :Q7) (n d:Nat) (v:Value) (av:AV),(execOp g o).run P w= .ok (.value v) (grown w ob d)->ji X o' ⟨w.heap.size,0,n⟩ (some ob)->(∀Y:Ext,Y.V next=some ⟨w.heap.size,0,n⟩->av.rel Y v)->
  HSN P X n0 H next w (execOp g o) ⟨av,H.set next o',next+1⟩:=by
  intro ob o' n d v av hrun hor hval;have hle:=Ext.Zr (p:=⟨w.heap.size,0,n⟩) hbn;exact ⟨X.add next ⟨w.heap.size,0,n⟩,v,grown w ob d, .inl hrun,hle,hval _ (Ext.add_same _ _ _),(hH.alloc h0 o' hbn ob n (Zh hle hor)).of_heap rfl,below_grown h0 ob d,
   λb hb hlt=>⟨by rw [Ext.QL (by omega)];exact hb,Tr.Q0 _ _ (by omega)⟩,by simp,λb hb=>by simp only at hb;rw [Ext.QL (by omega)];exact hn b (by omega)⟩
 cases q with
 |val v=>obtain ⟨u,h1,h2⟩:=hs;exact ⟨X,u,w, .inl h1,Ext.le.refl X,h2,hH,Below.refl _ _,λb hb _=>⟨hb,rfl⟩,Nat.le_refl _,hn⟩
 |ptr o' =>obtain ⟨ob,n,d,h1,h2⟩:=hs;exact born ob o' n d _ _ h1 h2 λY hY=>by simp only [LR.value,AV.rel];exact ⟨_,hY,rfl⟩
 |slc o' len cap es ex=>
  obtain ⟨ob,n,d,cc,h1,h2,h3,h4,h5,h6⟩:=hs;refine born ob o' n d _ _ h1 h2 λY hY=>?_
  simp only [LR.value,AV.rel];exact ⟨_,0,cc,hY,rfl,h3,h4,by simpa using h5,λ_=>rfl,h6⟩
 |map=>
  obtain ⟨d,h1⟩:=hs;refine born (.map #[] 0) (.map [] 0) 0 d _ _ h1 ⟨#[],rfl,rfl⟩ λY hY=>?_
  simp only [LR.value,AV.rel];exact ⟨_,hY,rfl⟩
end
end Go.Ax
