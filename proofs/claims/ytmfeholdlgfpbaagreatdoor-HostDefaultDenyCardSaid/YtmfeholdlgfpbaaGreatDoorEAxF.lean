/-
 THE ABSTRACT EXECUTOR, 52: a state seen as another one, in which numbers are letters and what is not needed is forgotten. Conditions: none.
-/
import Derived.Test.YtmfeholdlgfpbaaGreatDoorEAxE
namespace Go.Ax
open Go.RowKit
abbrev Sb:=List (Nat×E)
def Sb.at (U:Sb) (i:Nat):E:=
 match U with
 |[]=> .var i
 |p::U=>bif Nat.beq p.1 i then p.2 else Sb.at U i
noncomputable def addS (k:IntKind) (a b:E):E:=
 match k,a,b with
 | .i64, .lit p, .lit q=>yK (Y8 .i64 (p+q)) λn=> .lit n
 |k,a,b=>E.addN k a b
theorem Qix {k:IntKind} {a b:E} {O:Val}:(addS k a b).den O=Zp .add k (a.den O) (b.den O):=by unfold addS;split;simp only [sInt_eq,E.den,Zp,wrapK_eq];exact E.Qbn
noncomputable def binS (op:BinOp) (k:IntKind) (a b:E):E:=
 match op with
 | .add=>addS k a b
 | .sub=>E.Qls k a b
 |op=> .bin op k a b
theorem Qiu {op:BinOp} {k:IntKind} {a b:E} {O:Val}:(binS op k a b).den O=Zp op k (a.den O) (b.den O):=by unfold binS;split;exact Qix;exact E.Qa0;rfl
noncomputable def E.sub (U:Sb):E->E
 | .lit n=> .lit n
 | .var i=>U.at i
 | .len i=> .len i
 | .byte i a=> .byte i (a.sub U)
 | .bin op k a b=>binS op k (a.sub U) (b.sub U)
 | .cnv k a=> .cnv k (a.sub U)
 | .pk n a=> .pk n (a.sub U)
 | .cons a t=> .cons (a.sub U) (t.sub U)
 | .tv i lo hi t=> .tv i (lo.sub U) (hi.sub U) (t.sub U)
 | .fn k t=> .fn k (t.sub U)
 | .mn a b=> .mn (a.sub U) (b.sub U)
structure Cast (U:Sb) (vs:List Nat) (K:Nat->Bool) (X X' :Ext):Prop where
 letters:∀i∈vs,X'.dom i/\X'.O.int i=(U.at i).den X.O/\X'.O.str i=X.O.str i
 kept:∀b,K b=true->X'.V b=X.V b
theorem E.Q8s {vs:List Nat}:∀{e:E} {n:Nat->Prop},e.okB vs=true->(∀i∈vs,n i)->e.ok n:=λ{_ _} h hn=>E.ZM hn h
theorem Zn {U:Sb} {vs:List Nat} {K:Nat->Bool} {X X' :Ext} (hc:Cast U vs K X X'):∀{e:E},e.ok (. ∈vs)->(e.sub U).den X.O=e.den X'.O
 | .lit _,_=>rfl
 | .var i,h=>(hc.letters i h).2.1.symm
 | .len i,h=>by simp only [E.sub,E.den,(hc.letters i h).2.2]
 | .byte i a,h=>by simp only [E.sub,E.den,(hc.letters i h.1).2.2,Zn hc h.2]
 | .bin _ _ a b,h=>by simp only [E.sub,E.den,Qiu,Zn hc h.1,Zn hc h.2]
 | .cnv _ a,h=>by simp only [E.sub,E.den,Zn (e:=a) hc h]
 | .pk _ a,h=>by simp only [E.sub,E.den,Zn (e:=a) hc h]
 | .cons _ _,h=>by simp only [E.sub,E.den,Zn hc h.1,Zn hc h.2]
 | .tv i _ _ _,h=>by simp only [E.sub,E.den,(hc.letters i h.1).2.2,Zn hc h.2.1,Zn hc h.2.2.1,Zn hc h.2.2.2]
 | .fn _ t,h=>by simp only [E.sub,E.den,Zn (e:=t) hc h]
 | .mn _ _,h=>by simp only [E.sub,E.den,Zn hc h.1,Zn hc h.2]
noncomputable def E.yX (U:Sb):E->E
 | .lit n=> .lit n
 | .var i=>U.at i
 | .len i=> .len i
 | .byte i a=> .byte i (a.yX U)
 | .bin op k a b=> .bin op k (a.yX U) (b.yX U)
 | .cnv k a=> .cnv k (a.yX U)
 | .pk n a=> .pk n (a.yX U)
 | .cons a t=> .cons (a.yX U) (t.yX U)
 | .tv i lo hi t=> .tv i (lo.yX U) (hi.yX U) (t.yX U)
 | .fn k t=> .fn k (t.yX U)
 | .mn a b=> .mn (a.yX U) (b.yX U)
theorem Za {U:Sb} {vs:List Nat} {K:Nat->Bool} {X X' :Ext} (hc:Cast U vs K X X'):∀{e:E},e.ok (. ∈vs)->(e.yX U).den X.O=e.den X'.O
 | .lit _,_=>rfl
 | .var i,h=>(hc.letters i h).2.1.symm
 | .len i,h=>by simp only [E.yX,E.den,(hc.letters i h).2.2]
 | .byte i a,h=>by simp only [E.yX,E.den,(hc.letters i h.1).2.2,Za hc h.2]
 | .bin _ _ a b,h=>by simp only [E.yX,E.den,Za hc h.1,Za hc h.2]
 | .cnv _ a,h=>by simp only [E.yX,E.den,Za (e:=a) hc h]
 | .pk _ a,h=>by simp only [E.yX,E.den,Za (e:=a) hc h]
 | .cons _ _,h=>by simp only [E.yX,E.den,Za hc h.1,Za hc h.2]
 | .tv i _ _ _,h=>by simp only [E.yX,E.den,(hc.letters i h.1).2.2,Za hc h.2.1,Za hc h.2.2.1,Za hc h.2.2.2]
 | .fn _ t,h=>by simp only [E.yX,E.den,Za (e:=t) hc h]
 | .mn _ _,h=>by simp only [E.yX,E.den,Za hc h.1,Za hc h.2]
noncomputable def Qio (U:Sb) (vs:List Nat) (e e' :E):Bool:=(e.same (e'.sub U)||e.same (e'.yX U))&&e'.okB vs
theorem ZU {U:Sb} {vs:List Nat} {K:Nat->Bool} {X X' :Ext} (hc:Cast U vs K X X') {e e' :E} (h:Qio U vs e e' =true):e'.ok X'.dom/\e.den X.O=e'.den X'.O:=by
 simp only [Qio,Bool.and_eq_true,Bool.or_eq_true] at h;have hok:e'.ok (. ∈vs):=E.Q8s h.2 λi hi=>hi
 refine ⟨E.Ql (λi hi=>(hc.letters i hi).1) hok,?_⟩;rcases h.1 with h1|h1;rw [E.Q5 h1,Zn hc hok];rw [E.Q5 h1,Za hc hok]
noncomputable def Qm4 (U:Sb) (vs:List Nat):List E->List E->Bool
 |[],[]=>true
 |e::l,e' ::l' =>Qio U vs e e' &&Qm4 U vs l l'
 |_,_=>false
theorem Q3j {U:Sb} {vs:List Nat} {K:Nat->Bool} {X X' :Ext} (hc:Cast U vs K X X'):∀{l l' :List E},Qm4 U vs l l' =true->S.okN X.dom X.O l->S.okN X'.dom X'.O l' /\S.bytes X'.O l' =S.bytes X.O l
 |[],[],_,_=>⟨λt ht=>(by cases ht),rfl⟩
 |[],_::_,h,_=>by simp [Qm4] at h
 |_::_,[],h,_=>by simp [Qm4] at h
 |e::l,e' ::l',h,hl=>by
  simp only [Qm4,Bool.and_eq_true] at h;obtain ⟨h1,h2⟩:=ZU hc h.1;obtain ⟨h3,h4⟩:=Q3j hc h.2 λt ht=>hl t (by simp [ht])
  have hb:=hl e (by simp);refine ⟨λt ht=>?_,?_⟩;rcases List.mem_cons.1 ht with rfl|ht;exact ⟨h1,by rw [<-h2];exact hb.2⟩;exact h3 t ht;simp only [S.bytes,List.map_cons] at h4 ⊢;rw [h2,h4]
noncomputable def Qm5 (U:Sb) (vs:List Nat):List E->List E->Bool
 |[],[]=>true
 |e::l,e' ::l' =>Qio U vs e e' &&Qm5 U vs l l'
 |_,_=>false
theorem Q3m {U:Sb} {vs:List Nat} {K:Nat->Bool} {X X' :Ext} (hc:Cast U vs K X X'):∀{l l' :List E},Qm5 U vs l l' =true->(∀t∈l',t.ok X'.dom)/\S.bytes X.O l=S.bytes X'.O l' /\l.length=l'.length
 |[],[],_=>⟨λt ht=>(by cases ht),rfl,rfl⟩
 |[],_::_,h=>by simp [Qm5] at h
 |_::_,[],h=>by simp [Qm5] at h
 |e::l,e' ::l',h=>by simp only [Qm5,Bool.and_eq_true] at h;obtain ⟨h1,h2⟩:=ZU hc h.1;obtain ⟨h3,h4,h5⟩:=Q3m hc h.2;refine ⟨λt ht=>?_,?_,by simp [h5]⟩;rcases List.mem_cons.1 ht with rfl|ht;exact h1;exact h3 t ht;simp only [S.bytes,List.map_cons] at h4 ⊢;rw [h2,h4]
noncomputable def Qim (U:Sb) (vs:List Nat):ST->ST->Bool
 | .var i, .var j=>Nat.beq i j&&vs.any (Nat.beq j)
 | .bs l, .bs m=>Qm5 U vs l m
 | .cat a b, .cat c d=>Qim U vs a c&&Qim U vs b d
 | .sub a l h, .sub b l' h' =>Qim U vs a b&&(Qio U vs l l' &&Qio U vs h h')
 |_,_=>false
theorem qc {U:Sb} {vs:List Nat} {K:Nat->Bool} {X X' :Ext} (hc:Cast U vs K X X'):∀{s t:ST},Qim U vs s t=true->t.ok X'.dom/\s.den X.O=t.den X'.O/\s.len.den X.O=t.len.den X'.O
 | .var i,t,h=>by cases t<;>simp only [Qim,Bool.false_eq_true,Bool.and_eq_true,Nat.beq_eq] at h;obtain ⟨rfl,h2⟩:=h;obtain ⟨g1,-,g3⟩:=hc.letters i (any_beq h2);exact ⟨g1,g3.symm,by simp only [ST.len,E.den,g3]⟩
 | .bs l,t,h=>by cases t<;>simp only [Qim,Bool.false_eq_true] at h;obtain ⟨g1,g2,g3⟩:=Q3m hc h;exact ⟨g1,g2,by simp only [ST.len,E.den,g3]⟩
 | .cat a b,t,h=>by cases t<;>simp only [Qim,Bool.false_eq_true,Bool.and_eq_true] at h;obtain ⟨a1,a2,a3⟩:=qc hc h.1;obtain ⟨b1,b2,b3⟩:=qc hc h.2;exact ⟨⟨a1,b1⟩,by simp only [ST.den,a2,b2],by simp only [ST.len,E.den,a3,b3]⟩
 | .sub a l u,t,h=>by cases t<;>simp only [Qim,Bool.false_eq_true,Bool.and_eq_true] at h;obtain ⟨a1,a2,a3⟩:=qc hc h.1;obtain ⟨b1,b2⟩:=ZU hc h.2.1;obtain ⟨c1,c2⟩:=ZU hc h.2.2;exact ⟨⟨a1,b1,c1⟩,by simp only [ST.den,a2,b2,c2],by simp only [ST.len,E.den,b2,c2]⟩
def anyA:AV->Bool
 | .agg _| .tuple _| .bool _| .nilIface| .top=>false
 |_=>true
theorem QD {X X' :Ext} {a:AV} {v:Value} (h:anyA a=true) (r:a.rel X v):AV.any.rel X' v:=by
 suffices vany v=true by simpa only [AV.rel] using this
 cases a<;>simp only [AV.rel,anyA,Bool.false_eq_true] at h r<;>
  first
   |(subst r;rfl)
   |exact r
   |(obtain ⟨_,rfl⟩:=r;rfl)
   |(obtain ⟨_,_,rfl⟩:=r;rfl)
   |(obtain ⟨_,_,_,_,rfl|⟨rfl,_⟩,_⟩:=r<;>rfl)
   |(obtain ⟨_,_,_,_,rfl,_⟩:=r;rfl)
   |(obtain ⟨_,_,rfl,_⟩:=r;rfl)
   |(obtain ⟨_,rfl,_⟩:=r;rfl)
   |(obtain ⟨_,_,_,_,rfl|⟨rfl,_⟩,_⟩:=r<;>rfl)
   |(obtain ⟨_,_,_,_,rfl,_⟩:=r;rfl)
def topA:AV->Bool
 | .agg _=>false
 |_=>true
theorem Q8e {v:Value} (h:vany v=true):vtop v=true:=by cases v<;>first|rfl|cases h
theorem Qy {X X' :Ext} {a:AV} {v:Value} (h:topA a=true) (r:a.rel X v):AV.top.rel X' v:=by
 suffices vtop v=true by simpa only [AV.rel] using this
 cases a<;>simp only [AV.rel,topA,Bool.false_eq_true] at h r<;>
  first
   |(subst r;rfl)
   |exact Q8e r
   |exact r
   |(obtain ⟨_,rfl⟩:=r;rfl)
   |(obtain ⟨_,_,rfl⟩:=r;rfl)
   |(obtain ⟨_,_,_,_,rfl|⟨rfl,_⟩,_⟩:=r<;>rfl)
   |(obtain ⟨_,_,_,_,rfl,_⟩:=r;rfl)
   |(obtain ⟨_,_,rfl,_⟩:=r;rfl)
   |(obtain ⟨_,rfl,_⟩:=r;rfl)
   |(obtain ⟨_,_,_,_,rfl|⟨rfl,_⟩,_⟩:=r<;>rfl)
   |(obtain ⟨_,_,_,_,rfl,_⟩:=r;rfl)
mutual
noncomputable def J3 (U:Sb) (vs:List Nat) (K:Nat->Bool):AV->AV->Bool
 | .bool a, .bool b=>a==b
 | .int j e, .int k e' =>Nat.beq (kN j) (kN k)&&Qio U vs e e'
 | .str l, .str l' =>Qm4 U vs l l'
 | .sstr s, .sstr t=>Qim U vs s t
 | .ptr b o, .ptr b' o' =>Nat.beq b b' &&(Nat.beq o o' &&K b)
 | .nilptr, .nilptr=>true
 | .slice b o n c s x, .slice b' o' n' c' s' x' =>Nat.beq b b' &&(Nat.beq o o' &&(Nat.beq n n' &&(Nat.beq c c' &&(Nat.beq s s' &&(x==x' &&K b)))))
 | .nilslice, .nilslice=>true
 | .map r, .map r' =>Nat.beq r r' &&K r
 | .nilmap, .nilmap=>true
 | .func f a c, .func f' a' c' =>Nat.beq f f' &&(jO U vs K a a' &&jO U vs K c c')
 | .nilFunc, .nilFunc=>true
 | .iface t a, .iface t' a' =>Nat.beq t t' &&J3 U vs K a a'
 | .nilIface, .nilIface=>true
 | .agg l, .agg l' =>jO U vs K l l'
 | .tuple l, .tuple l' =>jO U vs K l l'
 | .wslice b o n s l, .wslice b' o' n' s' l' =>Nat.beq b b' &&(Nat.beq o o' &&(Nat.beq n n' &&(Nat.beq s s' &&(K b&&(Qio U vs (.var l) (.var l'))))))
 |a, .any=>anyA a
 |a, .top=>topA a
 |_,_=>false
noncomputable def jO (U:Sb) (vs:List Nat) (K:Nat->Bool):List AV->List AV->Bool
 |[],[]=>true
 |a::l,a' ::l' =>J3 U vs K a a' &&jO U vs K l l'
 |_,_=>false
end
section
variable {U:Sb} {vs:List Nat} {K:Nat->Bool} {X X' :Ext}
mutual
theorem Qn (hc:Cast U vs K X X'):∀{a a' :AV} {v:Value},J3 U vs K a a' =true->a.rel X v->a'.rel X' v
 | .bool a,a',v,h,r=>by cases a' <;>simp only [J3,Bool.false_eq_true,beq_iff_eq] at h<;>(try exact QD h r)<;>(try exact Qy h r);subst h;simpa only [AV.rel] using r
 | .int j e,a',v,h,r=>by cases a' <;>simp only [J3,Bool.false_eq_true,Bool.and_eq_true] at h<;>(try exact QD h r)<;>(try exact Qy h r);obtain ⟨h1,h2⟩:=ZU hc h.2;simp only [AV.rel] at r ⊢;rw [<-Q1b h.1,<-h2];exact ⟨h1,r.2⟩
 | .str l,a',v,h,r=>by cases a' <;>simp only [J3,Bool.false_eq_true] at h<;>(try exact QD h r)<;>(try exact Qy h r);simp only [AV.rel] at r ⊢;obtain ⟨h1,h2⟩:=Q3j hc h r.1;rw [h2];exact ⟨h1,r.2⟩
 | .sstr s,a',v,h,r=>by cases a' <;>simp only [J3,Bool.false_eq_true] at h<;>(try exact QD h r)<;>(try exact Qy h r);simp only [AV.rel] at r ⊢;obtain ⟨h1,h2,h3⟩:=qc hc h;refine ⟨h1,?_,by rw [<-h2];exact r.2.2⟩;have:=r.2.1;unfold ST.fit at this ⊢;rw [<-h2,<-h3];exact this
 | .ptr b o,a',v,h,r=>by cases a' <;>simp only [J3,Bool.false_eq_true,Bool.and_eq_true,Nat.beq_eq] at h<;>(try exact QD h r)<;>(try exact Qy h r);obtain ⟨rfl,rfl,hk⟩:=h;simp only [AV.rel] at r ⊢;rw [hc.kept _ hk];exact r
 | .nilptr,a',v,h,r=>by cases a' <;>simp only [J3,Bool.false_eq_true] at h<;>(try exact QD h r)<;>(try exact Qy h r);simpa only [AV.rel] using r
 | .slice b o n c s x,a',v,h,r=>by cases a' <;>simp only [J3,Bool.false_eq_true,Bool.and_eq_true,Nat.beq_eq,beq_iff_eq] at h<;>(try exact QD h r)<;>(try exact Qy h r);obtain ⟨rfl,rfl,rfl,rfl,rfl,rfl,hk⟩:=h;simp only [AV.rel] at r ⊢;rw [hc.kept _ hk];exact r
 | .nilslice,a',v,h,r=>by cases a' <;>simp only [J3,Bool.false_eq_true] at h<;>(try exact QD h r)<;>(try exact Qy h r);simpa only [AV.rel] using r
 | .wslice b o n s l,a',v,h,r=>by cases a' <;>simp only [J3,Bool.false_eq_true,Bool.and_eq_true,Nat.beq_eq] at h<;>(try exact QD h r)<;>(try exact Qy h r);obtain ⟨rfl,rfl,rfl,rfl,hk,hl⟩:=h;simp only [AV.rel] at r ⊢;rw [hc.kept _ hk];obtain ⟨p,len,c,h1,h2,h3,h4,h5,h6,h7⟩:=r;obtain ⟨k1,k2⟩:=ZU hc hl;exact ⟨p,len,c,h1,h2,h3,h4,h5,k1,k2.symm.trans h7⟩
 | .map q,a',v,h,r=>by cases a' <;>simp only [J3,Bool.false_eq_true,Bool.and_eq_true,Nat.beq_eq] at h<;>(try exact QD h r)<;>(try exact Qy h r);obtain ⟨rfl,hk⟩:=h;simp only [AV.rel] at r ⊢;rw [hc.kept _ hk];exact r
 | .nilmap,a',v,h,r=>by cases a' <;>simp only [J3,Bool.false_eq_true] at h<;>(try exact QD h r)<;>(try exact Qy h r);simpa only [AV.rel] using r
 | .func f a c,a',v,h,r=>by cases a' <;>simp only [J3,Bool.false_eq_true,Bool.and_eq_true,Nat.beq_eq] at h<;>(try exact QD h r)<;>(try exact Qy h r);obtain ⟨rfl,h1,h2⟩:=h;simp only [AV.rel] at r ⊢;obtain ⟨x,y,e,r1,r2⟩:=r;exact ⟨x,y,e,QV hc h1 r1,QV hc h2 r2⟩
 | .yield l,a',v,h,r=>by cases a' <;>simp [J3] at h<;>(try exact QD h r)<;>(try exact Qy h r)
 | .nilFunc,a',v,h,r=>by cases a' <;>simp only [J3,Bool.false_eq_true] at h<;>(try exact QD h r)<;>(try exact Qy h r);simpa only [AV.rel] using r
 | .iface t a,a',v,h,r=>by cases a' <;>simp only [J3,Bool.false_eq_true,Bool.and_eq_true,Nat.beq_eq] at h<;>(try exact QD h r)<;>(try exact Qy h r);obtain ⟨rfl,h1⟩:=h;simp only [AV.rel] at r ⊢;obtain ⟨u,e,r1⟩:=r;exact ⟨u,e,Qn hc h1 r1⟩
 | .nilIface,a',v,h,r=>by cases a' <;>simp only [J3,Bool.false_eq_true] at h<;>(try exact QD h r)<;>(try exact Qy h r);simpa only [AV.rel] using r
 | .agg l,a',v,h,r=>by cases a' <;>simp only [J3,Bool.false_eq_true] at h<;>(try exact QD h r)<;>(try exact Qy h r);simp only [AV.rel] at r ⊢;obtain ⟨u,e,r1⟩:=r;exact ⟨u,e,QV hc h r1⟩
 | .tuple l,a',v,h,r=>by cases a' <;>simp only [J3,Bool.false_eq_true] at h<;>(try exact QD h r)<;>(try exact Qy h r);simp only [AV.rel] at r ⊢;obtain ⟨u,e,r1⟩:=r;exact ⟨u,e,QV hc h r1⟩
 | .any,a',v,h,r=>by cases a' <;>simp only [J3,Bool.false_eq_true] at h<;>first|exact QD h r|exact Qy h r
 | .top,a',v,h,r=>by cases a' <;>simp only [J3,Bool.false_eq_true] at h<;>first|exact Qy h r|cases h
theorem QV (hc:Cast U vs K X X'):∀{l l' :List AV} {us:List Value},jO U vs K l l' =true->AV.QH X l us->AV.QH X' l' us
 |[],l',us,h,r=>by cases l' <;>simp only [jO,Bool.false_eq_true] at h;rw [rels_nil] at r ⊢;exact r
 |a::l,l',us,h,r=>by cases l' <;>simp only [jO,Bool.false_eq_true,Bool.and_eq_true] at h;obtain ⟨v,us',rfl,r1,r2⟩:=Q8.1 r;rw [rels_cons_cons];exact ⟨Qn hc h.1 r1,QV hc h.2 r2⟩
end
noncomputable def Qoe (U:Sb) (vs:List Nat) (K:Nat->Bool):List (AV×AV×Nat)->List (AV×AV×Nat)->Bool
 |[],[]=>true
 |a::l,b::l' =>J3 U vs K a.1 b.1&&(J3 U vs K a.2.1 b.2.1&&(Nat.beq a.2.2 b.2.2&&Qoe U vs K l l'))
 |_,_=>false
theorem Q3l (hc:Cast U vs K X X'):∀{l l' :List (AV×AV×Nat)} {es:List MapEntry},Qoe U vs K l l' =true->Q9 X l es->Q9 X' l' es
 |[],l',es,h,r=>by cases l' <;>simp only [Qoe,Bool.false_eq_true] at h;exact r
 |a::l,l',es,h,r=>by cases l' <;>simp only [Qoe,Bool.false_eq_true,Bool.and_eq_true,Nat.beq_eq] at h;obtain ⟨e,es',rfl,r1,r2,r3,r4⟩:=r;exact ⟨e,es',rfl,Qn hc h.1 r1,Qn hc h.2.1 r2,by rw [r3,h.2.2.1],Q3l hc h.2.2.2 r4⟩
noncomputable def Qod (U:Sb) (vs:List Nat) (K:Nat->Bool):List (AV×AV)->List (AV×AV)->Bool
 |[],[]=>true
 |a::l,b::l' =>J3 U vs K a.1 b.1&&(J3 U vs K a.2 b.2&&Qod U vs K l l')
 |_,_=>false
theorem Q3k (hc:Cast U vs K X X'):∀{l l' :List (AV×AV)} {es:List MapEntry},Qod U vs K l l' =true->ZX X l es->ZX X' l' es
 |[],l',es,h,r=>by cases l' <;>simp only [Qod,Bool.false_eq_true] at h;exact r
 |a::l,l',es,h,r=>by cases l' <;>simp only [Qod,Bool.false_eq_true,Bool.and_eq_true] at h;obtain ⟨e,es',rfl,r1,r2,r4⟩:=r;exact ⟨e,es',rfl,Qn hc h.1 r1,Qn hc h.2.1 r2,Q3k hc h.2.2 r4⟩
noncomputable def Qji (U:Sb) (vs:List Nat) (K:Nat->Bool):Q7->Q7->Bool
 | .cells cs el ex pl ro, .cells cs' el' ex' pl' ro' =>Nat.beq el el' &&(ex==ex' &&(pl==pl' &&(ro==ro' &&jO U vs K cs cs')))
 | .map es c, .map es' c' =>Nat.beq c c' &&Qoe U vs K es es'
 | .lmap es, .lmap es' =>Qod U vs K es es'
 | .pre s n el, .pre s' n' el' =>Nat.beq n n' &&(Nat.beq el el' &&J3 U vs K (.sstr s) (.sstr s'))
 |_,_=>false
theorem Q1t {l l' :List AV} (h:jO U vs K l l' =true):l'.length=l.length:=by
 induction l generalizing l' with
 |nil=>cases l' <;>simp [jO] at h;rfl
 |cons a l ih=>
  cases l' with
  |nil=>simp [jO] at h
  |cons a' l' =>simp only [jO,Bool.and_eq_true] at h;simp [ih h.2]
theorem Qin {l l' :List AV} (h:jO U vs K l l' =true) {i:Nat} {a' :AV} (e:l'[i]?=some a'):∃a,l[i]?=some a/\J3 U vs K a a' =true:=by
 induction l generalizing l' i with
 |nil=>cases l' <;>simp [jO] at h;simp at e
 |cons a l ih=>
  cases l' with
  |nil=>simp [jO] at h
  |cons b l' =>
   simp only [jO,Bool.and_eq_true] at h;cases i with
   |zero=>simp at e;subst e;exact ⟨a,rfl,h.1⟩
   |succ i=>simpa using ih h.2 (by simpa using e)
theorem qd (hc:Cast U vs K X X') {o o' :Q7} {p:Place} {ob:Option Obj} (h:Qji U vs K o o' =true) (r:ji X o p ob):ji X' o' p ob/\o'.live=o.live/\o'.rw=o.rw:=by
 cases o<;>cases o' <;>simp only [Qji,Bool.false_eq_true,Bool.and_eq_true,Nat.beq_eq,beq_iff_eq] at h;obtain ⟨rfl,rfl,rfl,rfl,h⟩:=h;obtain ⟨c,fr,h1,h2,h3,h4,h5,h6⟩:=r;refine ⟨⟨c,fr,h1,h2,by rw [Q1t h];exact h3,by rw [Q1t h];exact h4,λi a hi=>?_,h6⟩,rfl,rfl⟩;obtain ⟨b,hb,hr⟩:=Qin h hi;obtain ⟨v,hv,r1⟩:=h5 i b hb;exact ⟨v,hv,Qn hc hr r1⟩;obtain ⟨rfl,h⟩:=h;obtain ⟨es',h1,h2⟩:=r;exact ⟨⟨es',h1,Q3l hc h h2⟩,rfl,rfl⟩;obtain ⟨es',cl,l,h1,h2,h3⟩:=r;exact ⟨⟨es',cl,l,h1,Q3k hc h h2,h3⟩,rfl,rfl⟩;rename_i s n el s' n' el';obtain ⟨rfl,rfl,h⟩:=h;obtain ⟨h1,h2,h3,h4,h5,c,h6,h7,h8⟩:=r;have hs:=Qn hc h (show (AV.sstr s).rel X (.string ⟨(s.den X.O).toArray⟩) by simp only [AV.rel];exact ⟨h1,h2,trivial⟩);simp only [AV.rel] at hs;obtain ⟨k1,k2,k3⟩:=hs;have e:s.den X.O=s'.den X'.O:=by simpa using k3
 exact ⟨⟨k1,k2,h3,h4,by rw [<-e];exact h5,c,h6,h7,by rw [<-e];exact h8⟩,rfl,rfl⟩
theorem Q7e {o o' :Q7} (h:Qji U vs K o o' =true):o'.Q5o=o.Q5o:=by
 cases o<;>cases o' <;>simp only [Qji,Bool.false_eq_true,Bool.and_eq_true,Nat.beq_eq,beq_iff_eq] at h
 . obtain ⟨-,-,rfl,rfl,-⟩:=h;rfl
 all_goals rfl
end
end Go.Ax
namespace Go.Ax
open Go.RowKit
noncomputable def Q29 (n:Nat):List (Nat×Q7)->Tr Q7
 |[]=> .sk n
 |e::l=>(Q29 n l).set e.1 e.2
theorem Je {n:Nat}:∀{l:List (Nat×Q7)} {b:Nat} {o:Q7},(Q29 n l).get b=some o->(b,o)∈l
 |[],b,o,h=>by simp [Q29] at h
 |e::l,b,o,h=>by simp only [Q29] at h;rw [Tr.Z9] at h;by_cases hb:b=e.1;subst hb;simp at h;subst h;simp;rw [if_neg hb] at h;exact List.mem_cons_of_mem _ (Je h)
noncomputable def Qof (U:Sb) (vs:List Nat) (K:Nat->Bool) (x:Option Q7) (o' :Q7):Bool:=
 match x with
 |some o=>Qji U vs K o o'
 |none=>false
noncomputable def Qjj (U:Sb) (vs:List Nat) (K:Nat->Bool) (H:Tr Q7):List (Nat×Q7)->Bool
 |[]=>true
 |e::l=>K e.1&&(Qof U vs K (H.get e.1) e.2&&Qjj U vs K H l)
theorem Qb8 {U:Sb} {vs:List Nat} {K:Nat->Bool} {H:Tr Q7}:∀{l:List (Nat×Q7)},Qjj U vs K H l=true->∀e∈l,K e.1=true/\∃o,H.get e.1=some o/\Qji U vs K o e.2=true
 |[],_,e,he=>by cases he
 |a::l,h,e,he=>by simp only [Qjj,Bool.and_eq_true] at h;rcases List.mem_cons.1 he with rfl|he;refine ⟨h.1,?_⟩;have h2:=h.2.1;unfold Qof at h2;split at h2;rename_i o ho;exact ⟨o,ho,h2⟩;cases h2;exact Qb8 h.2.2 e he
theorem Qq.Ye {X X' :Ext} {n0:Nat} {H:Tr Q7} {w:World} {U:Sb} {vs:List Nat} {K:Nat->Bool} {l:List (Nat×Q7)} {room:Nat} (h:Qq X n0 H w) (hc:Cast U vs K X X') (hlt:∀b p,X'.V b=some p->p.blk<w.heap.size) (hk:Qjj U vs K H l=true):Qq X' n0 (Q29 room l) w:=by
 have base:∀b o' p,(Q29 room l).get b=some o' ->X'.V b=some p->X.V b=some p/\∃o,H.get b=some o/\Qji U vs K o o' =true:=λb o' p hb hp=>by obtain ⟨k1,o,k2,k3⟩:=Qb8 hk _ (Je hb);exact ⟨by rw [<-hc.kept b k1];exact hp,o,k2,k3⟩
 refine ⟨λb o' p hb hp=>?_,λb b' o1 o2 p p' hb hb' l1 l2 hp hp' e=>?_,hlt,λb o' p hb hr hp=>?_⟩;obtain ⟨g1,o,g2,g3⟩:=base b o' p hb hp;exact (qd hc g3 (h.obj b o p g2 g1)).1
 obtain ⟨g1,o,g2,g3⟩:=base b o1 p hb hp;obtain ⟨g4,q,g5,g6⟩:=base b' o2 p' hb' hp';have e1:=(qd hc g3 (h.obj b o p g2 g1)).2.1
 exact h.inj b b' o q p p' g2 g5 (by rw [<-e1];exact l1) (by rw [<-Q7e g6];exact l2) g1 g4 e;obtain ⟨g1,o,g2,g3⟩:=base b o' p hb hp;have e1:=(qd hc g3 (h.obj b o p g2 g1)).2.2
 exact h.own b o p g2 (by rw [<-e1];exact hr) g1
noncomputable def Q9f (U:Sb) (vs:List Nat) (K:Nat->Bool) (tm:Tr AV):Nat->List AV->Bool
 |_,[]=>true
 |i,a::l=>J3 U vs K ((tm.get i).getD .undef) a&&QG (i+1) λj=>Q9f U vs K tm j l
theorem Q7d {U:Sb} {vs:List Nat} {K:Nat->Bool} {tm:Tr AV}:∀{l:List AV} {i t:Nat} {a:AV},Q9f U vs K tm i l=true->l[t]?=some a->J3 U vs K ((tm.get (i+t)).getD .undef) a=true
 |[],i,t,a,_,h=>by simp at h
 |b::l,i,t,a,h,e=>by
  simp only [Q9f,sNat_eq,Bool.and_eq_true] at h;cases t with
  |zero=>simp at e;subst e;simpa using h.1
  |succ t=>have:=Q7d h.2 (t:=t) (by simpa using e);rw [show i+(t+1)=i+1+t by omega];exact this
theorem QC.Ye {X X' :Ext} {U:Sb} {vs:List Nat} {K:Nat->Bool} {nt:Nat} {tm:Tr AV} {tmps:Array Value} {l:List AV} (hc:Cast U vs K X X') (h:QC X nt tm tmps) (hk:Q9f U vs K tm 0 l=true) (hl:l.length=nt):QC X' nt (setArgs 0 l (.sk nt)) tmps:=by
 refine ⟨h.1,λt=>?_⟩;rw [Ja (X:=X')];simp only [Nat.not_lt_zero,if_false,Nat.sub_zero];cases ht:l[t]? with
 |some a=>simp only [Option.getD_some];have:=Q7d hk ht;rw [Nat.zero_add] at this;exact Qn hc this (h.2 t)
 |none=>
  have hge:nt<=t:=by rw [<-hl];exact List.getElem?_eq_none_iff.1 ht
  have hu:tmps.getD t undef=undef:=by have:tmps[t]?=none:=Array.getElem?_eq_none_iff.2 (by rw [h.1];exact hge);simp [Array.getD_eq_getD_getElem?,this]
  rw [hu];simp;exact Qw X'
def Q2v:Qj->Bool
 | .inRangeFunc _| .endRangeFunc _=>false
 |_=>true
theorem ZQ {X X' :Ext}:∀{as:List Qj} {is:List Item},as.all Q2v=true->Yj X as is->Yj X' as is
 |[],_,_,r=>r
 |a::as,is,h,⟨i,is',e,h1,h2⟩=>by simp only [List.all_cons,Bool.and_eq_true] at h;refine ⟨i,is',e,?_,ZQ h.2 h2⟩;cases a<;>simp only [Q2v,Bool.false_eq_true] at h<;>simp only [Qgk] at*<;>first|exact h1|(exact h.1.elim)
def qE:jk->Bool
 | .draw .. =>false
 |_=>true
def QW (U:Sb) (vs:List Nat) (K:Nat->Bool) (X:Ext):Ext:=⟨λb=>if K b=true then X.V b else if b∈vs then X.V 0 else none,⟨λi=>if i∈vs then (U.at i).den X.O else 0,X.O.str⟩⟩
theorem Sim.Ye {P:Program} {G:Env} {n0:Nat} {w0:World} {cs0:List Frame} {X:Ext} {s:AM} {m:Machine} {U:Sb} {vs:List Nat} {K:Nat->Bool} {tms:List AV} {l:List (Nat×Q7)} {room next' :Nat} {c' :Ctx} (h:Sim P G n0 w0 cs0 X s m)
 (hcs:s.cs=[]) (hret:s.fr.ret=false) (hdef:s.fr.defers=[]) (hro:s.fr.ro=none) (hcur:qE s.fr.cur=true) (htodo:s.fr.todo.all Q2v=true) (htm:Q9f U vs K s.fr.tm 0 tms=true) (hlen:tms.length=s.fr.nt) (hH:Qjj U vs K s.H l=true)
 (hng:0<G.T.ng) (hKg:∀b,b<G.T.ng->K b=true) (hKn:∀b,next' <=b->K b=false) (hvn:∀i∈vs,i<next') (hvd:∀i∈vs,K i=true->X.dom i)
 (hctx:c'.okN (QW U vs K X).dom (QW U vs K X).O):
 Sim P G n0 w0 cs0 (QW U vs K X) ⟨⟨s.fr.fn,s.fr.nt,setArgs 0 tms (.sk s.fr.nt),s.fr.cur,s.fr.todo,[],false,none⟩,[],Q29 room l,next',c'⟩ m:=by
 obtain ⟨fr,cs,w,rfl,hF,hall,hHr,hB,h0⟩:=h.ex;obtain ⟨k0,hk0⟩:=h.Qo 0 hng;have hc:Cast U vs K X (QW U vs K X):=by refine ⟨λi hi=>⟨?_,by simp only [QW,if_pos hi],rfl⟩,λb hb=>by simp only [QW,if_pos hb]⟩;by_cases hk:K i=true;obtain ⟨p,hp⟩:=hvd i hi hk;exact ⟨p,by simp only [QW,if_pos hk,hp]⟩;exact ⟨_,by simp only [QW,if_neg hk,if_pos hi];exact hk0⟩
 have hlt:∀b p,(QW U vs K X).V b=some p->p.blk<w.heap.size:=λb p hp=>by simp only [QW] at hp;split at hp;exact hHr.lt b p hp;split at hp;exact hHr.lt 0 p hp;cases hp
 rw [hcs] at hall;simp only [Z0] at hall;subst hall;refine ⟨⟨fr,[],w,rfl,?_,rfl,Qq.Ye hHr hc hlt hH,hB,h0⟩,hctx,λg hg=>?_,λb hb=>?_,?_⟩
 . obtain ⟨hb,h'⟩:=hF;rw [hret] at h';refine ⟨⟨hb.fn,hb.kind,?_,?_⟩,?_⟩;have:=hb.ro;rw [hro] at this;exact this;have:=hb.defers;rw [hdef] at this;exact this;obtain ⟨hm,is,his,hcur'⟩:=h';refine ⟨hm,is,ZQ htodo his,?_⟩;cases hcc:s.fr.cur with
   |none=>rw [hcc] at hcur';exact ⟨hcur'.1,QC.Ye hc hcur'.2 htm hlen⟩
   |reg ops k rest=>rw [hcc] at hcur';exact ⟨hcur'.1,hcur'.2.1,QC.Ye hc hcur'.2.2 htm hlen⟩
   |draw ops done rest pa=>rw [hcc] at hcur;cases hcur
 obtain ⟨n,hn⟩:=h.Qo g hg;exact ⟨n,by simp only [QW,if_pos (hKg g hg)];exact hn⟩;simp only [QW];have hb' :next' <=b:=hb;rw [if_neg (by rw [hKn b hb'];simp),if_neg (λhm=>by have:=hvn b hm;omega)];cases hcc:s.fr.cur with
 |none=>simp [Qm]
 |reg ops k rest=>simp [Qm]
 |draw ops done rest pa=>rw [hcc] at hcur;cases hcur
noncomputable def Qkr (spec:Spec) (G:Env) (n:Nat) (s:AM):Jy:=
 Jy.rec (motive:=λ_=>Jy) (λs=>match s.cs with
  |[]=> .stop s
  |_=> .go s) (λs=> .stop s) (leaf spec G n s)
noncomputable def runT (spec:Spec) (G:Env) (n:Nat) (k:Nat):AM->Jy:=
 Nat.rec (motive:=λ_=>AM->Jy) (λs=>Qkr spec G n s)
  (λ_ ih s=>Jy.rec (motive:=λ_=>Jy) (λs=>ih s) (λs=> .stop s) (ih s)) k
theorem Qhz {spec:Spec} {G:Env} (hs:Zm G spec) (n:Nat) (s:AM):QX G s (Qkr spec G n s).state:=by
 have h:=Q0n hs n 0 s;have e:Qgj spec G n 0 s=leaf spec G n s:=rfl;rw [e] at h;unfold Qkr;cases hl:leaf spec G n s with
 |stop t=>rw [hl] at h;exact h
 |go t=>rw [hl] at h;simp only;split<;>exact h
theorem Q8l {spec:Spec} {G:Env} (hs:Zm G spec) (n:Nat):∀(k:Nat) (s:AM),QX G s (runT spec G n k s).state
 |0,s=>Qhz hs n s
 |k+1,s=>by
  have h:=Q8l hs n k s;have e:runT spec G n (k+1) s=Jy.rec (motive:=λ_=>Jy) (λs=>runT spec G n k s) (λs=> .stop s) (runT spec G n k s):=rfl;rw [e];cases hr:runT spec G n k s with
  |stop t=>rw [hr] at h;exact h
  |go t=>rw [hr] at h;exact h.trans (Q8l hs n k t)
noncomputable def Q4a (spec:Spec) (G:Env) (n k:Nat):Nat->AM->AM
 |0,s=>s
 |j+1,s=>Q4a spec G n k j (runT spec G n k s).state
theorem yZ {spec:Spec} {G:Env} (hs:Zm G spec) (n k:Nat):∀(j:Nat) (s:AM),QX G s (Q4a spec G n k j s)
 |0,s=> .refl s
 |j+1,s=>(Q8l hs n k s).trans (yZ hs n k j _)
end Go.Ax
namespace Go.Ax
open Go.RowKit
noncomputable def eqO (x:Option Bool) (v:Bool):Bool:=
 match x with
 |some r=>r==v
 |none=>false
noncomputable def Qcz (U:Sb) (vs:List Nat) (c:Ctx):List Fact->Bool
 |[]=>true
 |f::l=>Q6s f.op&&(eqO (E.cmp c f.op (f.a.sub U) (f.b.sub U)) f.val&&(f.a.okB vs&&(f.b.okB vs&&Qcz U vs c l)))
theorem Jj {U:Sb} {vs:List Nat} {K:Nat->Bool} {X X' :Ext} {c:Ctx} (hC:Cast U vs K X X') (hc:c.okN X.dom X.O):∀{fs:List Fact},Qcz U vs c fs=true->(⟨fs,vs⟩:Ctx).okN X'.dom X'.O
 |[],_=>⟨λi hi=>(hC.letters i hi).1,λf hf=>(by cases hf)⟩
 |f::l,h=>by
  simp only [Qcz,Bool.and_eq_true] at h;obtain ⟨h1,h2,h3,h4,h5⟩:=h;refine ⟨λi hi=>(hC.letters i hi).1,λg hg=>?_⟩;rcases List.mem_cons.1 hg with rfl|hg;have ha:g.a.ok (. ∈vs):=E.Q8s h3 λi hi=>hi
  have hb:g.b.ok (. ∈vs):=E.Q8s h4 λi hi=>hi
  have hcmp:E.cmp c g.op (g.a.sub U) (g.b.sub U)=some g.val:=by
   unfold eqO at h2;split at h2;rename_i r hr;have:r=g.val:=by simpa using h2
   rw [hr,this];cases h2
  have:=E.Qb h1 hcmp hc;rw [Zn hC ha,Zn hC hb] at this;exact ⟨this,E.Ql (λi hi=>(hC.letters i hi).1) ha,E.Ql (λi hi=>(hC.letters i hi).1) hb⟩;exact (Jj hC hc h5).2 g hg
def QK (ng:Nat) (keep:List Nat) (b:Nat):Bool:=Nat.blt b ng||keep.any (Nat.beq b)
def Qb2 {α:Type}:List α->Bool
 |[]=>true
 |_=>false
def Qkj {α:Type}:Option α->Bool
 |none=>true
 |_=>false
structure St where
 fn:Nat
 nt:Nat
 cur:jk
 todo:List Qj
 tms:List AV
 l:List (Nat×Q7)
 next:Nat
 fs:List Fact
 vs:List Nat
noncomputable def St.am (t:St) (room:Nat):AM:=⟨⟨t.fn,t.nt,setArgs 0 t.tms (.sk t.nt),t.cur,t.todo,[],false,none⟩,[],Q29 room t.l,t.next,⟨t.fs,t.vs⟩⟩
noncomputable def Qnn (U:Sb) (keep:List Nat) (ng:Nat) (t:St) (s:AM):Bool:=
 Qb2 s.cs&&(!s.fr.ret&&(Qb2 s.fr.defers&&(Qkj s.fr.ro&&(qE s.fr.cur&&(s.fr.todo.all Q2v&&(Q9f U t.vs (QK ng keep) s.fr.tm 0 t.tms&&(Nat.beq t.tms.length s.fr.nt&&(Qjj U t.vs (QK ng keep) s.H t.l&&(Qcz U t.vs s.ctx t.fs&&
  (Nat.ble ng t.next&&(keep.all (λb=>Nat.blt b t.next)&&(t.vs.all (λi=>Nat.blt i t.next)&&t.vs.all (λi=>!QK ng keep i||s.ctx.vs.any (Nat.beq i))))))))))))))
def Hop (spec:Spec) (G:Env) (n k:Nat) (s:AM) (j:Nat) (U:Sb) (keep:List Nat) (t:St):Prop:=(AM.rec (motive:=λ_=>Nat×Nat×jk×List Qj×Bool) (λfr cs H nx c=>Qg.rec (motive:=λ_=>Nat×Nat×jk×List Qj×Bool) (λfn nt tm cur todo defers ret ro=>(fn,nt,cur,todo,Qnn U keep G.T.ng t ⟨⟨fn,nt,tm,cur,todo,defers,ret,ro⟩,cs,H,nx,c⟩)) fr) (Q4a spec G n k j s))=(t.fn,t.nt,t.cur,t.todo,true)
section
variable {P:Program} {G:Env} {n0:Nat} {w0:World} {cs0:List Frame}
theorem Qf4 {X:Ext} {s:AM} {m:Machine} {U:Sb} {keep:List Nat} {t:St} {room:Nat} (h:Sim P G n0 w0 cs0 X s m) (hng:0<G.T.ng) (h1:s.fr.fn=t.fn) (h2:s.fr.nt=t.nt) (h3:s.fr.cur=t.cur) (h4:s.fr.todo=t.todo) (hb:Qnn U keep G.T.ng t s=true):
 Sim P G n0 w0 cs0 (QW U t.vs (QK G.T.ng keep) X) (t.am room) m:=by
 simp only [Qnn,Bool.and_eq_true,Bool.not_eq_true',List.all_eq_true,Nat.ble_eq,Nat.blt_eq,Nat.beq_eq,Bool.or_eq_true] at hb;obtain ⟨b1,b2,b3,b4,b5,b6,b7,b8,b9,b10,b11,b12,b13,b14⟩:=hb;have hcs:s.cs=[]:=by cases hh:s.cs with
  |nil=>rfl
  |cons a l=>rw [hh] at b1;cases b1
 have hdef:s.fr.defers=[]:=by cases hh:s.fr.defers with
  |nil=>rfl
  |cons a l=>rw [hh] at b3;cases b3
 have hro:s.fr.ro=none:=by cases hh:s.fr.ro with
  |none=>rfl
  |some a=>rw [hh] at b4;cases b4
 have hKn:∀b,t.next<=b->QK G.T.ng keep b=false:=λb hb=>by
  unfold QK;rw [Bool.or_eq_false_iff];refine ⟨?_,?_⟩;cases hh:Nat.blt b G.T.ng with
  |false=>rfl
  |true=>rw [Nat.blt_eq] at hh;omega
  rw [List.any_eq_false];intro c hc he;have:b=c:=by simpa using he
  subst this;have:=b12 b hc;omega
 have hvd:∀i∈t.vs,QK G.T.ng keep i=true->X.dom i:=λi hi hk=>by rcases b14 i hi with h' |h';rw [hk] at h';cases h';exact h.ctx.1 i (any_beq h')
 obtain ⟨k0,hk0⟩:=h.Qo 0 hng;have hC:Cast U t.vs (QK G.T.ng keep) X (QW U t.vs (QK G.T.ng keep) X):=by refine ⟨λi hi=>⟨?_,by simp only [QW,if_pos hi],rfl⟩,λb hb=>by simp only [QW,if_pos hb]⟩;by_cases hk:QK G.T.ng keep i=true;obtain ⟨p,hp⟩:=hvd i hi hk;exact ⟨p,by simp only [QW,if_pos hk,hp]⟩;exact ⟨_,by simp only [QW,if_neg hk,if_pos hi];exact hk0⟩
 have:=Sim.Ye (room:=room) (next' :=t.next) (c' :=⟨t.fs,t.vs⟩) h hcs b2 hdef hro b5 (List.all_eq_true.2 b6) b7 b8 b9 hng (λb hb=>by unfold QK;rw [show Nat.blt b G.T.ng=true from by rw [Nat.blt_eq];exact hb];rfl) hKn b13 hvd (Jj hC h.ctx b10);rw [h1,h2,h3,h4] at this;exact this
theorem Hop.sim (hT:G.T.OK P) (hI:YL.OK P G.I) (hS:ZE P G n0) {spec:Spec} (hsp:Zm G spec) (hng:0<G.T.ng) {X:Ext} {s:AM} {m:Machine} {n k room j:Nat} {U:Sb} {keep:List Nat} {t:St} (hh:Hop spec G n k s j U keep t) (h:Sim P G n0 w0 cs0 X s m):
 ∃Y m',Steps P m m' /\X.le Y/\Sim P G n0 w0 cs0 (QW U t.vs (QK G.T.ng keep) Y) (t.am room) m' :=by
 obtain ⟨Y,m',st,hle,h1⟩:=Ze hT hI hS (yZ hsp n k j s) h;refine ⟨Y,m',st,hle,?_⟩;unfold Hop at hh;generalize Q4a spec G n k j s=s1 at hh h1;obtain ⟨⟨fn,nt,tm,cur,todo,defers,ret,ro⟩,cs,H,nx,c⟩:=s1;simp only [Prod.mk.injEq] at hh;obtain ⟨e1,e2,e3,e4,e5⟩:=hh;exact Qf4 h1 hng e1 e2 e3 e4 e5
def Qp (P:Program) (n0:Nat) (w0:World) (cs0:List Frame) (f:FuncId) (m:Machine):Prop:=∃fr w,Steps P m (lone fr cs0 w)/\Below n0 w0 w/\fr.fn=f/\fr.leaving P w (.returned (.bool true))
theorem Qp.of_steps {f:FuncId} {m m' :Machine} (h:Steps P m m') (e:Qp P n0 w0 cs0 f m'):Qp P n0 w0 cs0 f m:=by obtain ⟨fr,w,a,b⟩:=e;exact ⟨fr,w,h.trans a,b⟩
theorem Qp.Qci (hT:G.T.OK P) (hI:YL.OK P G.I) (hS:ZE P G n0) {spec:Spec} (hsp:Zm G spec) {n k d:Nat} {f:FuncId} {X:Ext} {s:AM} {m:Machine} (he:ZI spec G n f (λc v=>(Sp.lit true).chk c v) k d [] s=true) (h:Sim P G n0 w0 cs0 X s m):Qp P n0 w0 cs0 f m:=by rw [JJ] at he;obtain ⟨Y,fr,w,c,v,u,a1,a2,a3,a4,a5,a6,a7,a8⟩:=ZY hT hI hS hsp d he h;have hu:=Sp.JM a3 a4 a5;simp only [Sp.has] at hu;subst hu;exact ⟨fr,w,a1,a6,a7,a8⟩
end
end Go.Ax
namespace Go.Ax
open Go.RowKit
noncomputable def answer (G:Env) (v:Bool) (s:AM):AM:=
 match Zy G s with
 | .ask op a b=>{ s with ctx:=s.ctx.add ⟨op,a,b,v⟩}
 |_=>s
noncomputable def Qoi (G:Env) (s:AM):Bool:=
 match Zy G s with
 | .ask _ a b=>a.okB s.ctx.vs&&b.okB s.ctx.vs
 |_=>false
def HopV (spec:Spec) (G:Env) (n k:Nat) (s:AM) (j:Nat) (v:Bool) (i:Nat) (U:Sb) (keep:List Nat) (t:St):Prop:=
 (AM.rec (motive:=λ_=>Bool×Nat×Nat×jk×List Qj×Bool) (λfr cs H nx c=>(Qoi G ⟨fr,cs,H,nx,c⟩,
  AM.rec (motive:=λ_=>Nat×Nat×jk×List Qj×Bool) (λfr cs H nx c=>Qg.rec (motive:=λ_=>Nat×Nat×jk×List Qj×Bool) (λfn nt tm cur todo defers ret ro=>(fn,nt,cur,todo,Qnn U keep G.T.ng t ⟨⟨fn,nt,tm,cur,todo,defers,ret,ro⟩,cs,H,nx,c⟩)) fr) (Q4a spec G n k i (answer G v ⟨fr,cs,H,nx,c⟩)))) (Q4a spec G n k j s))=(true,t.fn,t.nt,t.cur,t.todo,true)
section
variable {P:Program} {G:Env} {n0:Nat} {w0:World} {cs0:List Frame}
theorem HopV.sim (hT:G.T.OK P) (hI:YL.OK P G.I) (hS:ZE P G n0) {spec:Spec} (hsp:Zm G spec) (hng:0<G.T.ng) {X:Ext} {s:AM} {m:Machine} {n k room j i1 i2:Nat} {σ1 σ2:Sb} {keep1 keep2:List Nat} {t1 t2:St} (h1:HopV spec G n k s j true i1 σ1 keep1 t1) (h2:HopV spec G n k s j false i2 σ2 keep2 t2) (h:Sim P G n0 w0 cs0 X s m):
 (∃Y m',Steps P m m' /\X.le Y/\Sim P G n0 w0 cs0 (QW σ1 t1.vs (QK G.T.ng keep1) Y) (t1.am room) m')\/(∃Y m',Steps P m m' /\X.le Y/\Sim P G n0 w0 cs0 (QW σ2 t2.vs (QK G.T.ng keep2) Y) (t2.am room) m'):=by
 obtain ⟨Y,m',st,hle,hs⟩:=Ze hT hI hS (yZ hsp n k j s) h;unfold HopV at h1 h2;generalize Q4a spec G n k j s=s1 at h1 h2 hs;obtain ⟨fr,cs,H,nx,c⟩:=s1;simp only [Prod.mk.injEq] at h1 h2;obtain ⟨ha,h1⟩:=h1;obtain ⟨-,h2⟩:=h2;unfold Qoi at ha;cases hask:Zy G ⟨fr,cs,H,nx,c⟩ with
 |next s' =>rw [hask] at ha;cases ha
 |fin=>rw [hask] at ha;cases ha
 |fail w=>rw [hask] at ha;cases ha
 |ask op a b=>
  rw [hask] at ha;simp only [Bool.and_eq_true] at ha;obtain ⟨v,hv⟩:=hs.ask op ha.1 ha.2;have go:∀{v:Bool} {i:Nat} {U:Sb} {keep:List Nat} {t:St},Sim P G n0 w0 cs0 Y { (⟨fr,cs,H,nx,c⟩:AM) with ctx:=c.add ⟨op,a,b,v⟩} m' ->
   AM.rec (motive:=λ_=>Nat×Nat×jk×List Qj×Bool) (λfr cs H nx c=>Qg.rec (motive:=λ_=>Nat×Nat×jk×List Qj×Bool) (λfn nt tm cur todo defers ret ro=>(fn,nt,cur,todo,Qnn U keep G.T.ng t ⟨⟨fn,nt,tm,cur,todo,defers,ret,ro⟩,cs,H,nx,c⟩)) fr) (Q4a spec G n k i (answer G v ⟨fr,cs,H,nx,c⟩))=(t.fn,t.nt,t.cur,t.todo,true)->
   ∃Y' m'',Steps P m m'' /\X.le Y' /\Sim P G n0 w0 cs0 (QW U t.vs (QK G.T.ng keep) Y') (t.am room) m'' :=by
   intro v i U keep t hv hq;have e:answer G v ⟨fr,cs,H,nx,c⟩={ (⟨fr,cs,H,nx,c⟩:AM) with ctx:=c.add ⟨op,a,b,v⟩}:=by unfold answer;rw [hask]
   rw [e] at hq;obtain ⟨Z,m2,st2,hle2,hs2⟩:=Ze hT hI hS (yZ hsp n k i _) hv;refine ⟨Z,m2,st.trans st2,hle.trans hle2,?_⟩;generalize Q4a spec G n k i { (⟨fr,cs,H,nx,c⟩:AM) with ctx:=c.add ⟨op,a,b,v⟩}=s2 at hq hs2;obtain ⟨⟨fn,nt,tm,cur,todo,defers,ret,ro⟩,cs2,H2,nx2,c2⟩:=s2;simp only [Prod.mk.injEq] at hq;obtain ⟨e1,e2,e3,e4,e5⟩:=hq;exact Qf4 hs2 hng e1 e2 e3 e4 e5
  cases v with
  |true=>exact .inl (go hv (by simpa only [Prod.mk.injEq] using h1))
  |false=>exact .inr (go hv (by simpa only [Prod.mk.injEq] using h2))
end
end Go.Ax
namespace Go.Ax
open Go.RowKit
noncomputable def someB {α:Type}:Option α->Bool
 |some _=>true
 |none=>false
section
variable {P:Program} {G:Env}
variable {n0:Nat} {w0:World} {cs0:List Frame}
theorem Hop.ends (hT:G.T.OK P) (hI:YL.OK P G.I) (hS:ZE P G n0) (hng:0<G.T.ng) {f:FuncId} {s:AM} {n k room j:Nat} {U:Sb} {keep:List Nat} {t:St} (hh:Hop Q0i G n k s j U keep t)
 (he:∀X m,Sim P G n0 w0 cs0 X (t.am room) m->Qp P n0 w0 cs0 f m) {X:Ext} {m:Machine} (h:Sim P G n0 w0 cs0 X s m):Qp P n0 w0 cs0 f m:=by
 obtain ⟨Y,m',st,-,hs⟩:=Hop.sim hT hI hS JX hng hh h;exact .of_steps st (he _ _ hs)
end
end Go.Ax
