/-
 THE ABSTRACT EXECUTOR, 52: a state seen as another one, in which numbers are letters and what is not needed is forgotten. Conditions: none.
-/
import Derived.Test.YtmjjaldodkokbaaGreatDoorLAxE
namespace Go.Ax
open Go.RowKit
abbrev Sb:=List (Nat×E)
def Sb.at (U:Sb) (i:Nat):E:=
 match U with
 |[]=> .var i
 |p::U=>bif Nat.beq p.1 i then p.2 else Sb.at U i
noncomputable def addS (k:IntKind) (a b:E):E:=
 match k,a,b with
 | .i64, .lit p, .lit q=>yw (Y1 .i64 (p+q)) λn=> .lit n
 |k,a,b=>E.addN k a b
theorem Qie {k:IntKind} {a b:E} {O:Val}:(addS k a b).den O=Zk .add k (a.den O) (b.den O):=by unfold addS;split;simp only [sInt_eq,E.den,Zk,wrapK_eq];exact E.Qaz
noncomputable def binS (op:BinOp) (k:IntKind) (a b:E):E:=
 match op with
 | .add=>addS k a b
 | .sub=>E.Qln k a b
 |op=> .bin op k a b
theorem Qi4 {op:BinOp} {k:IntKind} {a b:E} {O:Val}:(binS op k a b).den O=Zk op k (a.den O) (b.den O):=by unfold binS;split;exact Qie;exact E.Q9i;rfl
noncomputable def E.sub (U:Sb):E->E
 | .lit n=> .lit n
 | .var i=>U.at i
 | .len i=> .len i
 | .byte i a=> .byte i (a.sub U)
 | .bin op k a b=>binS op k (a.sub U) (b.sub U)
 | .cnv k a=> .cnv k (a.sub U)
 | .pk n a=> .pk n (a.sub U)
 | .cons a t=> .cons (a.sub U) (t.sub U)
 | .tv i lo hi t=> .tv i (lo.sub U) (hi.sub U) (t.sub U)
 | .fn k t=> .fn k (t.sub U)
 | .mn a b=> .mn (a.sub U) (b.sub U)
structure Cast (U:Sb) (vs:List Nat) (K:Nat->Bool) (X X' :Ext):Prop where
 letters:∀i∈vs,X'.dom i/\X'.O.int i=(U.at i).den X.O/\X'.O.str i=X.O.str i
 kept:∀b,K b=true->X'.V b=X.V b
theorem E.Q8d {vs:List Nat}:∀{e:E} {n:Nat->Prop},e.okB vs=true->(∀i∈vs,n i)->e.ok n:=λ{_ _} h hn=>E.Zw hn h
theorem Zh {U:Sb} {vs:List Nat} {K:Nat->Bool} {X X' :Ext} (hc:Cast U vs K X X'):∀{e:E},e.ok (. ∈vs)->(e.sub U).den X.O=e.den X'.O
 | .lit _,_=>rfl
 | .var i,h=>(hc.letters i h).2.1.symm
 | .len i,h=>by simp only [E.sub,E.den,(hc.letters i h).2.2]
 | .byte i a,h=>by simp only [E.sub,E.den,(hc.letters i h.1).2.2,Zh hc h.2]
 | .bin _ _ a b,h=>by simp only [E.sub,E.den,Qi4,Zh hc h.1,Zh hc h.2]
 | .cnv _ a,h=>by simp only [E.sub,E.den,Zh (e:=a) hc h]
 | .pk _ a,h=>by simp only [E.sub,E.den,Zh (e:=a) hc h]
 | .cons _ _,h=>by simp only [E.sub,E.den,Zh hc h.1,Zh hc h.2]
 | .tv i _ _ _,h=>by simp only [E.sub,E.den,(hc.letters i h.1).2.2,Zh hc h.2.1,Zh hc h.2.2.1,Zh hc h.2.2.2]
 | .fn _ t,h=>by simp only [E.sub,E.den,Zh (e:=t) hc h]
 | .mn _ _,h=>by simp only [E.sub,E.den,Zh hc h.1,Zh hc h.2]
noncomputable def E.yK (U:Sb):E->E
 | .lit n=> .lit n
 | .var i=>U.at i
 | .len i=> .len i
 | .byte i a=> .byte i (a.yK U)
 | .bin op k a b=> .bin op k (a.yK U) (b.yK U)
 | .cnv k a=> .cnv k (a.yK U)
 | .pk n a=> .pk n (a.yK U)
 | .cons a t=> .cons (a.yK U) (t.yK U)
 | .tv i lo hi t=> .tv i (lo.yK U) (hi.yK U) (t.yK U)
 | .fn k t=> .fn k (t.yK U)
 | .mn a b=> .mn (a.yK U) (b.yK U)
theorem Z4 {U:Sb} {vs:List Nat} {K:Nat->Bool} {X X' :Ext} (hc:Cast U vs K X X'):∀{e:E},e.ok (. ∈vs)->(e.yK U).den X.O=e.den X'.O
 | .lit _,_=>rfl
 | .var i,h=>(hc.letters i h).2.1.symm
 | .len i,h=>by simp only [E.yK,E.den,(hc.letters i h).2.2]
 | .byte i a,h=>by simp only [E.yK,E.den,(hc.letters i h.1).2.2,Z4 hc h.2]
 | .bin _ _ a b,h=>by simp only [E.yK,E.den,Z4 hc h.1,Z4 hc h.2]
 | .cnv _ a,h=>by simp only [E.yK,E.den,Z4 (e:=a) hc h]
 | .pk _ a,h=>by simp only [E.yK,E.den,Z4 (e:=a) hc h]
 | .cons _ _,h=>by simp only [E.yK,E.den,Z4 hc h.1,Z4 hc h.2]
 | .tv i _ _ _,h=>by simp only [E.yK,E.den,(hc.letters i h.1).2.2,Z4 hc h.2.1,Z4 hc h.2.2.1,Z4 hc h.2.2.2]
 | .fn _ t,h=>by simp only [E.yK,E.den,Z4 (e:=t) hc h]
 | .mn _ _,h=>by simp only [E.yK,E.den,Z4 hc h.1,Z4 hc h.2]
noncomputable def Qhy (U:Sb) (vs:List Nat) (e e' :E):Bool:=(e.same (e'.sub U)||e.same (e'.yK U))&&e'.okB vs
theorem ZN {U:Sb} {vs:List Nat} {K:Nat->Bool} {X X' :Ext} (hc:Cast U vs K X X') {e e' :E} (h:Qhy U vs e e' =true):e'.ok X'.dom/\e.den X.O=e'.den X'.O:=by
 simp only [Qhy,Bool.and_eq_true,Bool.or_eq_true] at h;have hok:e'.ok (. ∈vs):=E.Q8d h.2 λi hi=>hi
 refine ⟨E.Qj (λi hi=>(hc.letters i hi).1) hok,?_⟩;rcases h.1 with h1|h1;rw [E.Q5 h1,Zh hc hok];rw [E.Q5 h1,Z4 hc hok]
noncomputable def Qlu (U:Sb) (vs:List Nat):List E->List E->Bool
 |[],[]=>true
 |e::l,e' ::l' =>Qhy U vs e e' &&Qlu U vs l l'
 |_,_=>false
theorem Q32 {U:Sb} {vs:List Nat} {K:Nat->Bool} {X X' :Ext} (hc:Cast U vs K X X'):∀{l l' :List E},Qlu U vs l l' =true->S.okN X.dom X.O l->S.okN X'.dom X'.O l' /\S.bytes X'.O l' =S.bytes X.O l
 |[],[],_,_=>⟨λt ht=>(by cases ht),rfl⟩
 |[],_::_,h,_=>by simp [Qlu] at h
 |_::_,[],h,_=>by simp [Qlu] at h
 |e::l,e' ::l',h,hl=>by
  simp only [Qlu,Bool.and_eq_true] at h;obtain ⟨h1,h2⟩:=ZN hc h.1;obtain ⟨h3,h4⟩:=Q32 hc h.2 λt ht=>hl t (by simp [ht])
  have hb:=hl e (by simp);refine ⟨λt ht=>?_,?_⟩;rcases List.mem_cons.1 ht with rfl|ht;exact ⟨h1,by rw [<-h2];exact hb.2⟩;exact h3 t ht;simp only [S.bytes,List.map_cons] at h4 ⊢;rw [h2,h4]
noncomputable def Qlv (U:Sb) (vs:List Nat):List E->List E->Bool
 |[],[]=>true
 |e::l,e' ::l' =>Qhy U vs e e' &&Qlv U vs l l'
 |_,_=>false
theorem Q35 {U:Sb} {vs:List Nat} {K:Nat->Bool} {X X' :Ext} (hc:Cast U vs K X X'):∀{l l' :List E},Qlv U vs l l' =true->(∀t∈l',t.ok X'.dom)/\S.bytes X.O l=S.bytes X'.O l' /\l.length=l'.length
 |[],[],_=>⟨λt ht=>(by cases ht),rfl,rfl⟩
 |[],_::_,h=>by simp [Qlv] at h
 |_::_,[],h=>by simp [Qlv] at h
 |e::l,e' ::l',h=>by simp only [Qlv,Bool.and_eq_true] at h;obtain ⟨h1,h2⟩:=ZN hc h.1;obtain ⟨h3,h4,h5⟩:=Q35 hc h.2;refine ⟨λt ht=>?_,?_,by simp [h5]⟩;rcases List.mem_cons.1 ht with rfl|ht;exact h1;exact h3 t ht;simp only [S.bytes,List.map_cons] at h4 ⊢;rw [h2,h4]
noncomputable def Qhw (U:Sb) (vs:List Nat):ST->ST->Bool
 | .var i, .var j=>Nat.beq i j&&vs.any (Nat.beq j)
 | .bs l, .bs m=>Qlv U vs l m
 | .cat a b, .cat c d=>Qhw U vs a c&&Qhw U vs b d
 | .sub a l h, .sub b l' h' =>Qhw U vs a b&&(Qhy U vs l l' &&Qhy U vs h h')
 |_,_=>false
theorem JO {U:Sb} {vs:List Nat} {K:Nat->Bool} {X X' :Ext} (hc:Cast U vs K X X'):∀{s t:ST},Qhw U vs s t=true->t.ok X'.dom/\s.den X.O=t.den X'.O/\s.len.den X.O=t.len.den X'.O
 | .var i,t,h=>by cases t<;>simp only [Qhw,Bool.false_eq_true,Bool.and_eq_true,Nat.beq_eq] at h;obtain ⟨rfl,h2⟩:=h;obtain ⟨g1,-,g3⟩:=hc.letters i (any_beq h2);exact ⟨g1,g3.symm,by simp only [ST.len,E.den,g3]⟩
 | .bs l,t,h=>by cases t<;>simp only [Qhw,Bool.false_eq_true] at h;obtain ⟨g1,g2,g3⟩:=Q35 hc h;exact ⟨g1,g2,by simp only [ST.len,E.den,g3]⟩
 | .cat a b,t,h=>by cases t<;>simp only [Qhw,Bool.false_eq_true,Bool.and_eq_true] at h;obtain ⟨a1,a2,a3⟩:=JO hc h.1;obtain ⟨b1,b2,b3⟩:=JO hc h.2;exact ⟨⟨a1,b1⟩,by simp only [ST.den,a2,b2],by simp only [ST.len,E.den,a3,b3]⟩
 | .sub a l u,t,h=>by cases t<;>simp only [Qhw,Bool.false_eq_true,Bool.and_eq_true] at h;obtain ⟨a1,a2,a3⟩:=JO hc h.1;obtain ⟨b1,b2⟩:=ZN hc h.2.1;obtain ⟨c1,c2⟩:=ZN hc h.2.2;exact ⟨⟨a1,b1,c1⟩,by simp only [ST.den,a2,b2,c2],by simp only [ST.len,E.den,b2,c2]⟩
def anyA:AV->Bool
 | .agg _| .tuple _| .bool _| .nilIface| .top=>false
 |_=>true
theorem QB {X X' :Ext} {a:AV} {v:Value} (h:anyA a=true) (r:a.rel X v):AV.any.rel X' v:=by
 suffices Qj8 v=true by simpa only [AV.rel] using this
 cases a<;>simp only [AV.rel,anyA,Bool.false_eq_true] at h r<;>
  first
   |(subst r;rfl)
   |exact r
   |(obtain ⟨_,rfl⟩:=r;rfl)
   |(obtain ⟨_,_,rfl⟩:=r;rfl)
   |(obtain ⟨_,_,_,_,rfl|⟨rfl,_⟩,_⟩:=r<;>rfl)
   |(obtain ⟨_,_,_,_,rfl,_⟩:=r;rfl)
   |(obtain ⟨_,_,rfl,_⟩:=r;rfl)
   |(obtain ⟨_,rfl,_⟩:=r;rfl)
   |(obtain ⟨_,_,_,_,rfl|⟨rfl,_⟩,_⟩:=r<;>rfl)
   |(obtain ⟨_,_,_,_,rfl,_⟩:=r;rfl)
def topA:AV->Bool
 | .agg _=>false
 |_=>true
theorem Q7y {v:Value} (h:Qj8 v=true):vtop v=true:=by cases v<;>first|rfl|cases h
theorem Qx {X X' :Ext} {a:AV} {v:Value} (h:topA a=true) (r:a.rel X v):AV.top.rel X' v:=by
 suffices vtop v=true by simpa only [AV.rel] using this
 cases a<;>simp only [AV.rel,topA,Bool.false_eq_true] at h r<;>
  first
   |(subst r;rfl)
   |exact Q7y r
   |exact r
   |(obtain ⟨_,rfl⟩:=r;rfl)
   |(obtain ⟨_,_,rfl⟩:=r;rfl)
   |(obtain ⟨_,_,_,_,rfl|⟨rfl,_⟩,_⟩:=r<;>rfl)
   |(obtain ⟨_,_,_,_,rfl,_⟩:=r;rfl)
   |(obtain ⟨_,_,rfl,_⟩:=r;rfl)
   |(obtain ⟨_,rfl,_⟩:=r;rfl)
   |(obtain ⟨_,_,_,_,rfl|⟨rfl,_⟩,_⟩:=r<;>rfl)
   |(obtain ⟨_,_,_,_,rfl,_⟩:=r;rfl)
mutual
noncomputable def J3 (U:Sb) (vs:List Nat) (K:Nat->Bool):AV->AV->Bool
 | .bool a, .bool b=>a==b
 | .int j e, .int k e' =>Nat.beq (kN j) (kN k)&&Qhy U vs e e'
 | .str l, .str l' =>Qlu U vs l l'
 | .sstr s, .sstr t=>Qhw U vs s t
 | .ptr b o, .ptr b' o' =>Nat.beq b b' &&(Nat.beq o o' &&K b)
 | .nilptr, .nilptr=>true
 | .slice b o n c s x, .slice b' o' n' c' s' x' =>Nat.beq b b' &&(Nat.beq o o' &&(Nat.beq n n' &&(Nat.beq c c' &&(Nat.beq s s' &&(x==x' &&K b)))))
 | .nilslice, .nilslice=>true
 | .map r, .map r' =>Nat.beq r r' &&K r
 | .nilmap, .nilmap=>true
 | .func f a c, .func f' a' c' =>Nat.beq f f' &&(jw U vs K a a' &&jw U vs K c c')
 | .nilFunc, .nilFunc=>true
 | .iface t a, .iface t' a' =>Nat.beq t t' &&J3 U vs K a a'
 | .nilIface, .nilIface=>true
 | .agg l, .agg l' =>jw U vs K l l'
 | .tuple l, .tuple l' =>jw U vs K l l'
 | .wslice b o n s l, .wslice b' o' n' s' l' =>Nat.beq b b' &&(Nat.beq o o' &&(Nat.beq n n' &&(Nat.beq s s' &&(K b&&(Qhy U vs (.var l) (.var l'))))))
 |a, .any=>anyA a
 |a, .top=>topA a
 |_,_=>false
noncomputable def jw (U:Sb) (vs:List Nat) (K:Nat->Bool):List AV->List AV->Bool
 |[],[]=>true
 |a::l,a' ::l' =>J3 U vs K a a' &&jw U vs K l l'
 |_,_=>false
end
section
variable {U:Sb} {vs:List Nat} {K:Nat->Bool} {X X' :Ext}
mutual
theorem Qn (hc:Cast U vs K X X'):∀{a a' :AV} {v:Value},J3 U vs K a a' =true->a.rel X v->a'.rel X' v
 | .bool a,a',v,h,r=>by cases a' <;>simp only [J3,Bool.false_eq_true,beq_iff_eq] at h<;>(try exact QB h r)<;>(try exact Qx h r);subst h;simpa only [AV.rel] using r
 | .int j e,a',v,h,r=>by cases a' <;>simp only [J3,Bool.false_eq_true,Bool.and_eq_true] at h<;>(try exact QB h r)<;>(try exact Qx h r);obtain ⟨h1,h2⟩:=ZN hc h.2;simp only [AV.rel] at r ⊢;rw [<-Q0s h.1,<-h2];exact ⟨h1,r.2⟩
 | .str l,a',v,h,r=>by cases a' <;>simp only [J3,Bool.false_eq_true] at h<;>(try exact QB h r)<;>(try exact Qx h r);simp only [AV.rel] at r ⊢;obtain ⟨h1,h2⟩:=Q32 hc h r.1;rw [h2];exact ⟨h1,r.2⟩
 | .sstr s,a',v,h,r=>by cases a' <;>simp only [J3,Bool.false_eq_true] at h<;>(try exact QB h r)<;>(try exact Qx h r);simp only [AV.rel] at r ⊢;obtain ⟨h1,h2,h3⟩:=JO hc h;refine ⟨h1,?_,by rw [<-h2];exact r.2.2⟩;have:=r.2.1;unfold ST.fit at this ⊢;rw [<-h2,<-h3];exact this
 | .ptr b o,a',v,h,r=>by cases a' <;>simp only [J3,Bool.false_eq_true,Bool.and_eq_true,Nat.beq_eq] at h<;>(try exact QB h r)<;>(try exact Qx h r);obtain ⟨rfl,rfl,hk⟩:=h;simp only [AV.rel] at r ⊢;rw [hc.kept _ hk];exact r
 | .nilptr,a',v,h,r=>by cases a' <;>simp only [J3,Bool.false_eq_true] at h<;>(try exact QB h r)<;>(try exact Qx h r);simpa only [AV.rel] using r
 | .slice b o n c s x,a',v,h,r=>by cases a' <;>simp only [J3,Bool.false_eq_true,Bool.and_eq_true,Nat.beq_eq,beq_iff_eq] at h<;>(try exact QB h r)<;>(try exact Qx h r);obtain ⟨rfl,rfl,rfl,rfl,rfl,rfl,hk⟩:=h;simp only [AV.rel] at r ⊢;rw [hc.kept _ hk];exact r
 | .nilslice,a',v,h,r=>by cases a' <;>simp only [J3,Bool.false_eq_true] at h<;>(try exact QB h r)<;>(try exact Qx h r);simpa only [AV.rel] using r
 | .wslice b o n s l,a',v,h,r=>by cases a' <;>simp only [J3,Bool.false_eq_true,Bool.and_eq_true,Nat.beq_eq] at h<;>(try exact QB h r)<;>(try exact Qx h r);obtain ⟨rfl,rfl,rfl,rfl,hk,hl⟩:=h;simp only [AV.rel] at r ⊢;rw [hc.kept _ hk];obtain ⟨p,len,c,h1,h2,h3,h4,h5,h6,h7⟩:=r;obtain ⟨k1,k2⟩:=ZN hc hl;exact ⟨p,len,c,h1,h2,h3,h4,h5,k1,k2.symm.trans h7⟩
 | .map q,a',v,h,r=>by cases a' <;>simp only [J3,Bool.false_eq_true,Bool.and_eq_true,Nat.beq_eq] at h<;>(try exact QB h r)<;>(try exact Qx h r);obtain ⟨rfl,hk⟩:=h;simp only [AV.rel] at r ⊢;rw [hc.kept _ hk];exact r
 | .nilmap,a',v,h,r=>by cases a' <;>simp only [J3,Bool.false_eq_true] at h<;>(try exact QB h r)<;>(try exact Qx h r);simpa only [AV.rel] using r
 | .func f a c,a',v,h,r=>by cases a' <;>simp only [J3,Bool.false_eq_true,Bool.and_eq_true,Nat.beq_eq] at h<;>(try exact QB h r)<;>(try exact Qx h r);obtain ⟨rfl,h1,h2⟩:=h;simp only [AV.rel] at r ⊢;obtain ⟨x,y,e,r1,r2⟩:=r;exact ⟨x,y,e,QT hc h1 r1,QT hc h2 r2⟩
 | .yield l,a',v,h,r=>by cases a' <;>simp [J3] at h<;>(try exact QB h r)<;>(try exact Qx h r)
 | .nilFunc,a',v,h,r=>by cases a' <;>simp only [J3,Bool.false_eq_true] at h<;>(try exact QB h r)<;>(try exact Qx h r);simpa only [AV.rel] using r
 | .iface t a,a',v,h,r=>by cases a' <;>simp only [J3,Bool.false_eq_true,Bool.and_eq_true,Nat.beq_eq] at h<;>(try exact QB h r)<;>(try exact Qx h r);obtain ⟨rfl,h1⟩:=h;simp only [AV.rel] at r ⊢;obtain ⟨u,e,r1⟩:=r;exact ⟨u,e,Qn hc h1 r1⟩
 | .nilIface,a',v,h,r=>by cases a' <;>simp only [J3,Bool.false_eq_true] at h<;>(try exact QB h r)<;>(try exact Qx h r);simpa only [AV.rel] using r
 | .agg l,a',v,h,r=>by cases a' <;>simp only [J3,Bool.false_eq_true] at h<;>(try exact QB h r)<;>(try exact Qx h r);simp only [AV.rel] at r ⊢;obtain ⟨u,e,r1⟩:=r;exact ⟨u,e,QT hc h r1⟩
 | .tuple l,a',v,h,r=>by cases a' <;>simp only [J3,Bool.false_eq_true] at h<;>(try exact QB h r)<;>(try exact Qx h r);simp only [AV.rel] at r ⊢;obtain ⟨u,e,r1⟩:=r;exact ⟨u,e,QT hc h r1⟩
 | .any,a',v,h,r=>by cases a' <;>simp only [J3,Bool.false_eq_true] at h<;>first|exact QB h r|exact Qx h r
 | .top,a',v,h,r=>by cases a' <;>simp only [J3,Bool.false_eq_true] at h<;>first|exact Qx h r|cases h
theorem QT (hc:Cast U vs K X X'):∀{l l' :List AV} {us:List Value},jw U vs K l l' =true->AV.QF X l us->AV.QF X' l' us
 |[],l',us,h,r=>by cases l' <;>simp only [jw,Bool.false_eq_true] at h;rw [rels_nil] at r ⊢;exact r
 |a::l,l',us,h,r=>by cases l' <;>simp only [jw,Bool.false_eq_true,Bool.and_eq_true] at h;obtain ⟨v,us',rfl,r1,r2⟩:=Q7.1 r;rw [rels_cons_cons];exact ⟨Qn hc h.1 r1,QT hc h.2 r2⟩
end
noncomputable def Qny (U:Sb) (vs:List Nat) (K:Nat->Bool):List (AV×AV×Nat)->List (AV×AV×Nat)->Bool
 |[],[]=>true
 |a::l,b::l' =>J3 U vs K a.1 b.1&&(J3 U vs K a.2.1 b.2.1&&(Nat.beq a.2.2 b.2.2&&Qny U vs K l l'))
 |_,_=>false
theorem Q34 (hc:Cast U vs K X X'):∀{l l' :List (AV×AV×Nat)} {es:List MapEntry},Qny U vs K l l' =true->Q9 X l es->Q9 X' l' es
 |[],l',es,h,r=>by cases l' <;>simp only [Qny,Bool.false_eq_true] at h;exact r
 |a::l,l',es,h,r=>by cases l' <;>simp only [Qny,Bool.false_eq_true,Bool.and_eq_true,Nat.beq_eq] at h;obtain ⟨e,es',rfl,r1,r2,r3,r4⟩:=r;exact ⟨e,es',rfl,Qn hc h.1 r1,Qn hc h.2.1 r2,by rw [r3,h.2.2.1],Q34 hc h.2.2.2 r4⟩
noncomputable def Qnx (U:Sb) (vs:List Nat) (K:Nat->Bool):List (AV×AV)->List (AV×AV)->Bool
 |[],[]=>true
 |a::l,b::l' =>J3 U vs K a.1 b.1&&(J3 U vs K a.2 b.2&&Qnx U vs K l l')
 |_,_=>false
theorem Q33 (hc:Cast U vs K X X'):∀{l l' :List (AV×AV)} {es:List MapEntry},Qnx U vs K l l' =true->ZR X l es->ZR X' l' es
 |[],l',es,h,r=>by cases l' <;>simp only [Qnx,Bool.false_eq_true] at h;exact r
 |a::l,l',es,h,r=>by cases l' <;>simp only [Qnx,Bool.false_eq_true,Bool.and_eq_true] at h;obtain ⟨e,es',rfl,r1,r2,r4⟩:=r;exact ⟨e,es',rfl,Qn hc h.1 r1,Qn hc h.2.1 r2,Q33 hc h.2.2 r4⟩
noncomputable def Qky (U:Sb) (vs:List Nat) (K:Nat->Bool):Q8->Q8->Bool
 | .cells cs el ex pl ro, .cells cs' el' ex' pl' ro' =>Nat.beq el el' &&(ex==ex' &&(pl==pl' &&(ro==ro' &&jw U vs K cs cs')))
 | .map es c, .map es' c' =>Nat.beq c c' &&Qny U vs K es es'
 | .lmap es, .lmap es' =>Qnx U vs K es es'
 | .pre s n el, .pre s' n' el' =>Nat.beq n n' &&(Nat.beq el el' &&J3 U vs K (.sstr s) (.sstr s'))
 |_,_=>false
theorem Q1b {l l' :List AV} (h:jw U vs K l l' =true):l'.length=l.length:=by
 induction l generalizing l' with
 |nil=>cases l' <;>simp [jw] at h;rfl
 |cons a l ih=>
  cases l' with
  |nil=>simp [jw] at h
  |cons a' l' =>simp only [jw,Bool.and_eq_true] at h;simp [ih h.2]
theorem Qhx {l l' :List AV} (h:jw U vs K l l' =true) {i:Nat} {a' :AV} (e:l'[i]?=some a'):∃a,l[i]?=some a/\J3 U vs K a a' =true:=by
 induction l generalizing l' i with
 |nil=>cases l' <;>simp [jw] at h;simp at e
 |cons a l ih=>
  cases l' with
  |nil=>simp [jw] at h
  |cons b l' =>
   simp only [jw,Bool.and_eq_true] at h;cases i with
   |zero=>simp at e;subst e;exact ⟨a,rfl,h.1⟩
   |succ i=>simpa using ih h.2 (by simpa using e)
theorem jv (hc:Cast U vs K X X') {o o' :Q8} {p:Place} {ob:Option Obj} (h:Qky U vs K o o' =true) (r:jG X o p ob):jG X' o' p ob/\o'.live=o.live/\o'.rw=o.rw:=by
 cases o<;>cases o' <;>simp only [Qky,Bool.false_eq_true,Bool.and_eq_true,Nat.beq_eq,beq_iff_eq] at h;obtain ⟨rfl,rfl,rfl,rfl,h⟩:=h;obtain ⟨c,fr,h1,h2,h3,h4,h5,h6⟩:=r;refine ⟨⟨c,fr,h1,h2,by rw [Q1b h];exact h3,by rw [Q1b h];exact h4,λi a hi=>?_,h6⟩,rfl,rfl⟩;obtain ⟨b,hb,hr⟩:=Qhx h hi;obtain ⟨v,hv,r1⟩:=h5 i b hb;exact ⟨v,hv,Qn hc hr r1⟩;obtain ⟨rfl,h⟩:=h;obtain ⟨es',h1,h2⟩:=r;exact ⟨⟨es',h1,Q34 hc h h2⟩,rfl,rfl⟩;obtain ⟨es',cl,l,h1,h2,h3⟩:=r;exact ⟨⟨es',cl,l,h1,Q33 hc h h2,h3⟩,rfl,rfl⟩;rename_i s n el s' n' el';obtain ⟨rfl,rfl,h⟩:=h;obtain ⟨h1,h2,h3,h4,h5,c,h6,h7,h8⟩:=r;have hs:=Qn hc h (show (AV.sstr s).rel X (.string ⟨(s.den X.O).toArray⟩) by simp only [AV.rel];exact ⟨h1,h2,trivial⟩);simp only [AV.rel] at hs;obtain ⟨k1,k2,k3⟩:=hs;have e:s.den X.O=s'.den X'.O:=by simpa using k3
 exact ⟨⟨k1,k2,h3,h4,by rw [<-e];exact h5,c,h6,h7,by rw [<-e];exact h8⟩,rfl,rfl⟩
theorem Qfa {o o' :Q8} (h:Qky U vs K o o' =true):o'.Q48=o.Q48:=by
 cases o<;>cases o' <;>simp only [Qky,Bool.false_eq_true,Bool.and_eq_true,Nat.beq_eq,beq_iff_eq] at h
 . obtain ⟨-,-,rfl,rfl,-⟩:=h;rfl
 all_goals rfl
end
end Go.Ax
namespace Go.Ax
open Go.RowKit
noncomputable def Q55 (n:Nat):List (Nat×Q8)->Tr Q8
 |[]=> .sk n
 |e::l=>(Q55 n l).set e.1 e.2
theorem JK {n:Nat}:∀{l:List (Nat×Q8)} {b:Nat} {o:Q8},(Q55 n l).get b=some o->(b,o)∈l
 |[],b,o,h=>by simp [Q55] at h
 |e::l,b,o,h=>by simp only [Q55] at h;rw [Tr.QV] at h;by_cases hb:b=e.1;subst hb;simp at h;subst h;simp;rw [if_neg hb] at h;exact List.mem_cons_of_mem _ (JK h)
noncomputable def Qnz (U:Sb) (vs:List Nat) (K:Nat->Bool) (x:Option Q8) (o' :Q8):Bool:=
 match x with
 |some o=>Qky U vs K o o'
 |none=>false
noncomputable def Qkz (U:Sb) (vs:List Nat) (K:Nat->Bool) (H:Tr Q8):List (Nat×Q8)->Bool
 |[]=>true
 |e::l=>K e.1&&(Qnz U vs K (H.get e.1) e.2&&Qkz U vs K H l)
theorem Qaj {U:Sb} {vs:List Nat} {K:Nat->Bool} {H:Tr Q8}:∀{l:List (Nat×Q8)},Qkz U vs K H l=true->∀e∈l,K e.1=true/\∃o,H.get e.1=some o/\Qky U vs K o e.2=true
 |[],_,e,he=>by cases he
 |a::l,h,e,he=>by simp only [Qkz,Bool.and_eq_true] at h;rcases List.mem_cons.1 he with rfl|he;refine ⟨h.1,?_⟩;have h2:=h.2.1;unfold Qnz at h2;split at h2;rename_i o ho;exact ⟨o,ho,h2⟩;cases h2;exact Qaj h.2.2 e he
theorem Qo.Yi {X X' :Ext} {n0:Nat} {H:Tr Q8} {w:World} {U:Sb} {vs:List Nat} {K:Nat->Bool} {l:List (Nat×Q8)} {room:Nat} (h:Qo X n0 H w) (hc:Cast U vs K X X') (hlt:∀b p,X'.V b=some p->p.blk<w.heap.size) (hk:Qkz U vs K H l=true):Qo X' n0 (Q55 room l) w:=by
 have base:∀b o' p,(Q55 room l).get b=some o' ->X'.V b=some p->X.V b=some p/\∃o,H.get b=some o/\Qky U vs K o o' =true:=λb o' p hb hp=>by obtain ⟨k1,o,k2,k3⟩:=Qaj hk _ (JK hb);exact ⟨by rw [<-hc.kept b k1];exact hp,o,k2,k3⟩
 refine ⟨λb o' p hb hp=>?_,λb b' o1 o2 p p' hb hb' l1 l2 hp hp' e=>?_,hlt,λb o' p hb hr hp=>?_⟩;obtain ⟨g1,o,g2,g3⟩:=base b o' p hb hp;exact (jv hc g3 (h.obj b o p g2 g1)).1
 obtain ⟨g1,o,g2,g3⟩:=base b o1 p hb hp;obtain ⟨g4,q,g5,g6⟩:=base b' o2 p' hb' hp';have e1:=(jv hc g3 (h.obj b o p g2 g1)).2.1
 exact h.inj b b' o q p p' g2 g5 (by rw [<-e1];exact l1) (by rw [<-Qfa g6];exact l2) g1 g4 e;obtain ⟨g1,o,g2,g3⟩:=base b o' p hb hp;have e1:=(jv hc g3 (h.obj b o p g2 g1)).2.2
 exact h.own b o p g2 (by rw [<-e1];exact hr) g1
noncomputable def Qca (U:Sb) (vs:List Nat) (K:Nat->Bool) (tm:Tr AV):Nat->List AV->Bool
 |_,[]=>true
 |i,a::l=>J3 U vs K ((tm.get i).getD .undef) a&&QC (i+1) λj=>Qca U vs K tm j l
theorem Q6w {U:Sb} {vs:List Nat} {K:Nat->Bool} {tm:Tr AV}:∀{l:List AV} {i t:Nat} {a:AV},Qca U vs K tm i l=true->l[t]?=some a->J3 U vs K ((tm.get (i+t)).getD .undef) a=true
 |[],i,t,a,_,h=>by simp at h
 |b::l,i,t,a,h,e=>by
  simp only [Qca,sNat_eq,Bool.and_eq_true] at h;cases t with
  |zero=>simp at e;subst e;simpa using h.1
  |succ t=>have:=Q6w h.2 (t:=t) (by simpa using e);rw [show i+(t+1)=i+1+t by omega];exact this
theorem QJ.Yi {X X' :Ext} {U:Sb} {vs:List Nat} {K:Nat->Bool} {nt:Nat} {tm:Tr AV} {tmps:Array Value} {l:List AV} (hc:Cast U vs K X X') (h:QJ X nt tm tmps) (hk:Qca U vs K tm 0 l=true) (hl:l.length=nt):QJ X' nt (setArgs 0 l (.sk nt)) tmps:=by
 refine ⟨h.1,λt=>?_⟩;rw [J6 (X:=X')];simp only [Nat.not_lt_zero,if_false,Nat.sub_zero];cases ht:l[t]? with
 |some a=>simp only [Option.getD_some];have:=Q6w hk ht;rw [Nat.zero_add] at this;exact Qn hc this (h.2 t)
 |none=>
  have hge:nt<=t:=by rw [<-hl];exact List.getElem?_eq_none_iff.1 ht
  have hu:tmps.getD t undef=undef:=by have:tmps[t]?=none:=Array.getElem?_eq_none_iff.2 (by rw [h.1];exact hge);simp [Array.getD_eq_getD_getElem?,this]
  rw [hu];simp;exact Qt X'
def Q5x:Qw->Bool
 | .inRangeFunc _| .endRangeFunc _=>false
 |_=>true
theorem ZK {X X' :Ext}:∀{as:List Qw} {is:List Item},as.all Q5x=true->YR X as is->YR X' as is
 |[],_,_,r=>r
 |a::as,is,h,⟨i,is',e,h1,h2⟩=>by simp only [List.all_cons,Bool.and_eq_true] at h;refine ⟨i,is',e,?_,ZK h.2 h2⟩;cases a<;>simp only [Q5x,Bool.false_eq_true] at h<;>simp only [Qhe] at*<;>first|exact h1|(exact h.1.elim)
def jR:Q7t->Bool
 | .draw .. =>false
 |_=>true
def Z5 (U:Sb) (vs:List Nat) (K:Nat->Bool) (X:Ext):Ext:=⟨λb=>if K b=true then X.V b else if b∈vs then X.V 0 else none,⟨λi=>if i∈vs then (U.at i).den X.O else 0,X.O.str⟩⟩
theorem Sim.Yi {P:Program} {G:Env} {n0:Nat} {w0:World} {cs0:List Frame} {X:Ext} {s:AM} {m:Machine} {U:Sb} {vs:List Nat} {K:Nat->Bool} {tms:List AV} {l:List (Nat×Q8)} {room next' :Nat} {c' :Ctx} (h:Sim P G n0 w0 cs0 X s m)
 (hcs:s.cs=[]) (hret:s.fr.ret=false) (hdef:s.fr.defers=[]) (hro:s.fr.ro=none) (hcur:jR s.fr.cur=true) (htodo:s.fr.todo.all Q5x=true) (htm:Qca U vs K s.fr.tm 0 tms=true) (hlen:tms.length=s.fr.nt) (hH:Qkz U vs K s.H l=true)
 (hng:0<G.T.ng) (hKg:∀b,b<G.T.ng->K b=true) (hKn:∀b,next' <=b->K b=false) (hvn:∀i∈vs,i<next') (hvd:∀i∈vs,K i=true->X.dom i)
 (hctx:c'.okN (Z5 U vs K X).dom (Z5 U vs K X).O):
 Sim P G n0 w0 cs0 (Z5 U vs K X) ⟨⟨s.fr.fn,s.fr.nt,setArgs 0 tms (.sk s.fr.nt),s.fr.cur,s.fr.todo,[],false,none⟩,[],Q55 room l,next',c'⟩ m:=by
 obtain ⟨fr,cs,w,rfl,hF,hall,hHr,hB,h0⟩:=h.ex;obtain ⟨k0,hk0⟩:=h.Ql 0 hng;have hc:Cast U vs K X (Z5 U vs K X):=by refine ⟨λi hi=>⟨?_,by simp only [Z5,if_pos hi],rfl⟩,λb hb=>by simp only [Z5,if_pos hb]⟩;by_cases hk:K i=true;obtain ⟨p,hp⟩:=hvd i hi hk;exact ⟨p,by simp only [Z5,if_pos hk,hp]⟩;exact ⟨_,by simp only [Z5,if_neg hk,if_pos hi];exact hk0⟩
 have hlt:∀b p,(Z5 U vs K X).V b=some p->p.blk<w.heap.size:=λb p hp=>by simp only [Z5] at hp;split at hp;exact hHr.lt b p hp;split at hp;exact hHr.lt 0 p hp;cases hp
 rw [hcs] at hall;simp only [Zl] at hall;subst hall;refine ⟨⟨fr,[],w,rfl,?_,rfl,Qo.Yi hHr hc hlt hH,hB,h0⟩,hctx,λg hg=>?_,λb hb=>?_,?_⟩
 . obtain ⟨hb,h'⟩:=hF;rw [hret] at h';refine ⟨⟨hb.fn,hb.kind,?_,?_⟩,?_⟩;have:=hb.ro;rw [hro] at this;exact this;have:=hb.defers;rw [hdef] at this;exact this;obtain ⟨hm,is,his,hcur'⟩:=h';refine ⟨hm,is,ZK htodo his,?_⟩;cases hcc:s.fr.cur with
   |none=>rw [hcc] at hcur';exact ⟨hcur'.1,QJ.Yi hc hcur'.2 htm hlen⟩
   |reg ops k rest=>rw [hcc] at hcur';exact ⟨hcur'.1,hcur'.2.1,QJ.Yi hc hcur'.2.2 htm hlen⟩
   |draw ops done rest pa=>rw [hcc] at hcur;cases hcur
 obtain ⟨n,hn⟩:=h.Ql g hg;exact ⟨n,by simp only [Z5,if_pos (hKg g hg)];exact hn⟩;simp only [Z5];have hb' :next' <=b:=hb;rw [if_neg (by rw [hKn b hb'];simp),if_neg (λhm=>by have:=hvn b hm;omega)];cases hcc:s.fr.cur with
 |none=>simp [Qq]
 |reg ops k rest=>simp [Qq]
 |draw ops done rest pa=>rw [hcc] at hcur;cases hcur
end Go.Ax
namespace Go.Ax
open Go.RowKit
noncomputable def eqO (x:Option Bool) (v:Bool):Bool:=
 match x with
 |some r=>r==v
 |none=>false
noncomputable def Qfb (U:Sb) (vs:List Nat) (c:Ctx):List Fact->Bool
 |[]=>true
 |f::l=>Q6a f.op&&(eqO (E.cmp c f.op (f.a.sub U) (f.b.sub U)) f.val&&(f.a.okB vs&&(f.b.okB vs&&Qfb U vs c l)))
theorem qR {U:Sb} {vs:List Nat} {K:Nat->Bool} {X X' :Ext} {c:Ctx} (hC:Cast U vs K X X') (hc:c.okN X.dom X.O):∀{fs:List Fact},Qfb U vs c fs=true->(⟨fs,vs⟩:Ctx).okN X'.dom X'.O
 |[],_=>⟨λi hi=>(hC.letters i hi).1,λf hf=>(by cases hf)⟩
 |f::l,h=>by
  simp only [Qfb,Bool.and_eq_true] at h;obtain ⟨h1,h2,h3,h4,h5⟩:=h;refine ⟨λi hi=>(hC.letters i hi).1,λg hg=>?_⟩;rcases List.mem_cons.1 hg with rfl|hg;have ha:g.a.ok (. ∈vs):=E.Q8d h3 λi hi=>hi
  have hb:g.b.ok (. ∈vs):=E.Q8d h4 λi hi=>hi
  have hcmp:E.cmp c g.op (g.a.sub U) (g.b.sub U)=some g.val:=by
   unfold eqO at h2;split at h2;rename_i r hr;have:r=g.val:=by simpa using h2
   rw [hr,this];cases h2
  have:=E.Qe h1 hcmp hc;rw [Zh hC ha,Zh hC hb] at this;exact ⟨this,E.Qj (λi hi=>(hC.letters i hi).1) ha,E.Qj (λi hi=>(hC.letters i hi).1) hb⟩;exact (qR hC hc h5).2 g hg
def Zi (ng:Nat) (keep:List Nat) (b:Nat):Bool:=Nat.blt b ng||keep.any (Nat.beq b)
def Qj1 {α:Type}:List α->Bool
 |[]=>true
 |_=>false
def Qmr {α:Type}:Option α->Bool
 |none=>true
 |_=>false
structure St where
 fn:Nat
 nt:Nat
 cur:Q7t
 todo:List Qw
 tms:List AV
 l:List (Nat×Q8)
 next:Nat
 fs:List Fact
 vs:List Nat
noncomputable def St.am (t:St) (room:Nat):AM:=⟨⟨t.fn,t.nt,setArgs 0 t.tms (.sk t.nt),t.cur,t.todo,[],false,none⟩,[],Q55 room t.l,t.next,⟨t.fs,t.vs⟩⟩
section
variable {P:Program} {G:Env} {n0:Nat} {w0:World} {cs0:List Frame}
def ZU (P:Program) (n0:Nat) (w0:World) (cs0:List Frame) (f:FuncId) (m:Machine):Prop:=∃fr w,Steps P m (lone fr cs0 w)/\Below n0 w0 w/\fr.fn=f/\fr.leaving P w (.returned (.bool true))
theorem ZU.of_steps {f:FuncId} {m m' :Machine} (h:Steps P m m') (e:ZU P n0 w0 cs0 f m'):ZU P n0 w0 cs0 f m:=by obtain ⟨fr,w,a,b⟩:=e;exact ⟨fr,w,h.trans a,b⟩
theorem ZU.Qlr (hT:G.T.OK P) (hI:Jq.OK P G.I) (hS:YZ P G n0) {spec:Spec} (hsp:YF G spec) {n k d:Nat} {f:FuncId} {X:Ext} {s:AM} {m:Machine} (he:Yy spec G n f (λc v=>(Sp.lit true).chk c v) k d [] s=true) (h:Sim P G n0 w0 cs0 X s m):ZU P n0 w0 cs0 f m:=by rw [Jz] at he;obtain ⟨Y,fr,w,c,v,u,a1,a2,a3,a4,a5,a6,a7,a8⟩:=ZT hT hI hS hsp d he h;have hu:=Sp.zM a3 a4 a5;simp only [Sp.has] at hu;subst hu;exact ⟨fr,w,a1,a6,a7,a8⟩
end
end Go.Ax
namespace Go.Ax
open Go.RowKit
section
variable {P:Program} {G:Env} {n0:Nat} {w0:World} {cs0:List Frame}
end
end Go.Ax
namespace Go.Ax
open Go.RowKit
noncomputable def someB {α:Type}:Option α->Bool
 |some _=>true
 |none=>false
section
variable {P:Program} {G:Env}
variable {n0:Nat} {w0:World} {cs0:List Frame}
end
end Go.Ax
