/-
 THE ABSTRACT EXECUTOR, 57: texts as terms; numbers written into texts and read out of them, and functions of texts, known as a whole. Conditions: none.
-/
import Derived.Test.YtmfeholdlgfpbaaGreatDoorEAxF
import Derived.Laws.AppendOwn
import Derived.MapKept
import Derived.Lib.MakeNoZero
import Derived.Lib.Bytealg
import Derived.Laws.IdiomRangeMap
import Derived.Test.YtmfeholdlgfpbaaGreatDoorEAxE
namespace Go.Ax
open Go.RowKit
noncomputable def sE {β:Type} (e:E) (k:E->β):β:=
 match e with
 | .lit n=>k (.lit n)
 | .var i=>k (.var i)
 | .len i=>k (.len i)
 | .byte i a=>k (.byte i a)
 | .bin op j a b=>k (.bin op j a b)
 | .cnv j a=>k (.cnv j a)
 | .pk n a=>k (.pk n a)
 | .cons a t=>k (.cons a t)
 | .tv i lo hi t=>k (.tv i lo hi t)
 | .fn n t=>k (.fn n t)
 | .mn a b=>k (.mn a b)
@[simp] theorem sE_eq {β:Type} (e:E) (k:E->β):sE e k=k e:=by cases e<;>rfl
noncomputable def Q8f:List E->E
 |[]=> .lit (.ofNat 1)
 |a::l=>sE (Q8f l) λt=> .cons a t
theorem Q5w {O:Val}:∀l:List E,(Q8f l).den O=YG (S.bytes O l) 1
 |[]=>rfl
 |a::l=>by simp only [Q8f,sE_eq,E.den,Q5w l];rfl
theorem Q9y {n:Nat->Prop}:∀{l:List E},(∀t∈l,t.ok n)->(Q8f l).ok n
 |[],_=>trivial
 |a::l,h=>by simp only [Q8f,sE_eq];exact ⟨h a (by simp),Q9y λt ht=>h t (by simp [ht])⟩
theorem Y1 {P:Program} {G:Env} {n0:Nat} {f:FuncId} {S:Ctx->Tr Q7->Nat->List AV->D SR}
 (h:∀(c:Ctx) (X:Ext) (H:Tr Q7) (next:Nat) (w:World) (args:List AV) (vs:Array Value) (r:SR),S c H next args= .ok r->c.okN X.dom X.O->AV.QH X args vs.toList->
  r.H=H/\r.next=next/\r.ctx=c/\∃u,r.v.rel X u/\Calls P f vs w (λe w' =>e= .returned u/\Below w.heap.size w w')):ZL P G n0 f S:=by
 intro c X H next w args vs r hr hc hg hH h0 hfr hargs fr cs
 obtain ⟨e1,e2,e3,u,hu,hcall⟩:=h c X H next w args vs r hr hc hargs
 obtain ⟨u',w',⟨rfl,hB⟩,hst⟩:=ZV (q:=λv w' =>v=u/\Below w.heap.size w w') (hcall.mono λe w' he=>⟨u,he.1,rfl,he.2⟩) fr cs;refine ⟨X,u',w',hst,Ext.le.refl X,hu,?_,hB.mono h0,λb hb _=>⟨hb,by rw [e1]⟩,by rw [e2];exact Nat.le_refl _,λb hb=>hfr b (by rw [e2] at hb;exact hb),by rw [e3];exact hc⟩;rw [e1];exact ⟨λb o p ho hp=>by rw [hB.block _ (hH.lt _ _ hp)];exact hH.obj b o p ho hp,hH.inj,λb p hp=>Nat.lt_of_lt_of_le (hH.lt b p hp) hB.size,hH.own⟩
def Qlh (n:E) (j:Nat):E:= .cnv .u8 (.bin .shr .i64 n (.lit (.ofNat (8*j))))
noncomputable def Qoh (n:Nat) (j:Nat):E:=QG (Nat.mod (Nat.div n (Nat.pow 256 j)) 256) λm=> .lit (.ofNat m)
def Q7m (z:Int) (j:Nat):UInt8:=UInt8.ofNat (IntKind.u8.wrap (z.fdiv (2^(8*j)))).toNat
noncomputable def Qfz (n:E) (j:Nat):E:=
 match n with
 | .lit (.ofNat n)=>Qoh n j
 |n=>QG (8*j) λp=> .cnv .u8 (.bin .shr .i64 n (.lit (.ofNat p)))
theorem Q0b (n:Int):IntKind.u8.wrap n=n%256:=by simp [IntKind.wrap,IntKind.bits,IntKind.signed]
theorem Q9g {n:E} {j:Nat} {O:Val} {d:Nat->Prop} (hn:n.ok d) (hj:j<4):(Qfz n j).ok d/\(Qfz n j).den O=IntKind.u8.wrap ((n.den O).fdiv (2^(8*j))):=by
 unfold Qfz;split;rename_i m;refine ⟨trivial,?_⟩;simp only [Qoh,sNat_eq,E.den];rw [Q0b];have e:(2:Int)^(8*j)=((256^j:Nat):Int):=by rw [Int.pow_mul];simp
 rw [e,Int.ofNat_eq_natCast,Int.ofNat_eq_natCast,Int.fdiv_eq_ediv_of_nonneg _ (Int.natCast_nonneg _)];show ((m/256^j%256:Nat):Int)=_;rw [Int.natCast_emod,Int.natCast_ediv];rfl;simp only [sNat_eq];refine ⟨⟨hn,trivial⟩,?_⟩;simp only [E.den,Zp];have:min ((Int.ofNat (8*j)).toNat) IntKind.i64.bits=8*j:=by simp only [Int.ofNat_eq_natCast,Int.toNat_natCast,IntKind.bits];omega
 rw [this]
noncomputable def Qcd (n:E):Nat->List E
 |0=>[]
 |j+1=>sE (Qfz n j) λb=>b::Qcd n j
def Z5 (z:Int):Nat->List UInt8
 |0=>[]
 |j+1=>Q7m z j::Z5 z j
theorem Q0w {n:E} {O:Val} {d:Nat->Prop} (hn:n.ok d):∀{k:Nat},k<=4->S.okN d O (Qcd n k)/\S.bytes O (Qcd n k)=Z5 (n.den O) k
 |0,_=>⟨λt ht=>(by cases ht),rfl⟩
 |j+1,h=>by
  obtain ⟨h1,h2⟩:=Q0w (O:=O) hn (k:=j) (by omega);obtain ⟨h3,h4⟩:=Q9g (O:=O) hn (j:=j) (by omega);simp only [Qcd,sE_eq];constructor;intro t ht;rcases List.mem_cons.1 ht with rfl|ht;rw [h4,Q0b];exact ⟨h3,by omega,by omega⟩;exact h1 t ht;show UInt8.ofNat ((Qfz n j).den O).toNat::S.bytes O (Qcd n j)=_
  rw [h4,h2];rfl
noncomputable def Qed (b:Nat):Sum:=λc H next as=>
 match as with
 |[.int .i64 n, .int .i64 (.lit (.ofNat k))]=>bif Nat.ble 1 k&&Nat.ble k 4 then
  QG (Nat.pow 256 k) λm=>
  match E.cmp c .lss n (.lit (.ofNat 0)) with
  |none=> .ask .lss n (.lit (.ofNat 0))
  |some true=> .ok ⟨.tuple [.str [], .int .i64 (.lit (.ofNat b))],H,next,c⟩
  |some false=>match E.cmp c .lss n (.lit (.ofNat m)) with
   |none=> .ask .lss n (.lit (.ofNat m))
   |some false=> .ok ⟨.tuple [.str [], .int .i64 (.lit (.ofNat b))],H,next,c⟩
   |some true=> .ok ⟨.tuple [.str (Qcd n k), .int .i64 (.lit (.ofNat 0))],H,next,c⟩
  else .fail
 |_=> .fail
theorem Qec {P:Program} {G:Env} {n0:Nat} {f:FuncId} {b:Nat}
 (h1:∀(z:Int) (k:Nat) (w:World),1<=k->k<=4->0<=z->z<256^k->Calls P f #[.int .i64 z, .int .i64 k] w λe w' =>e= .returned (.tuple #[.string ⟨(Z5 z k).toArray⟩, .int .i64 0])/\Below w.heap.size w w')
 (h2:∀(z:Int) (k:Nat) (w:World),1<=k->k<=4->(z<0\/256^k<=z)->Calls P f #[.int .i64 z, .int .i64 k] w λe w' =>e= .returned (.tuple #[.string ⟨#[]⟩, .int .i64 b])/\Below w.heap.size w w'):ZL P G n0 f (Qed b):=by
 refine Y1 λc X H next w args vs r hr hc hargs=>?_
 unfold Qed at hr;split at hr
 . rename_i n k;cases hb:(Nat.ble 1 k&&Nat.ble k 4) with
   |false=>rw [hb] at hr;cases hr
   |true=>
    rw [hb] at hr;simp only [Bool.and_eq_true,Nat.ble_eq] at hb;simp only [cond_true,sNat_eq] at hr;obtain ⟨u,vs',e1,g1,g2⟩:=Q8.1 hargs;obtain ⟨v,vs'',rfl,g3,g4⟩:=Q8.1 g2;have:=rels_nil.1 g4;subst this;simp only [AV.rel] at g1 g3;obtain ⟨k1,rfl⟩:=g1;obtain ⟨-,rfl⟩:=g3;have hvs:vs=#[.int .i64 (n.den X.O), .int .i64 k]:=by rw [<-Array.toList_inj];exact e1
    subst hvs;have pw:((Nat.pow 256 k:Nat):Int)=256^k:=by simp
    have bad:∀r,(n.den X.O<0\/256^k<=n.den X.O)->(.ok ⟨.tuple [.str [], .int .i64 (.lit (.ofNat b))],H,next,c⟩:D SR)= .ok r->r.H=H/\r.next=next/\r.ctx=c/\∃u,r.v.rel X u/\Calls P f #[.int .i64 (n.den X.O), .int .i64 k] w (λe w' =>e= .returned u/\Below w.heap.size w w'):=by intro r hz hr;cases hr;refine ⟨rfl,rfl,rfl,_,?_,h2 _ k w hb.1 hb.2 hz⟩;simp only [AV.rel];refine ⟨_,rfl,?_⟩;simp only [rels_cons_cons,rels_nil,AV.rel];exact ⟨⟨λt ht=>(by cases ht),rfl⟩,⟨trivial,rfl⟩,trivial⟩
    split at hr;cases hr;rename_i hq;have:=E.Qb rfl hq hc;simp only [Yf,decide_eq_true_eq] at this;exact bad r (.inl this) hr;rename_i hq;have q0:=E.Qb rfl hq hc;simp only [Yf,decide_eq_false_iff_not] at q0;have q0' :0<=n.den X.O:=by
     have e0:(E.lit (Int.ofNat 0)).den X.O=0:=rfl
     rw [e0] at q0;omega
    split at hr;cases hr;rename_i hq2;have q1:=E.Qb rfl hq2 hc;simp only [Yf,decide_eq_false_iff_not] at q1;refine bad r (.inr ?_) hr;have e0:(E.lit (Int.ofNat (Nat.pow 256 k))).den X.O=((Nat.pow 256 k:Nat):Int):=rfl
    rw [e0,pw] at q1;omega;rename_i hq2;have q1:=E.Qb rfl hq2 hc;simp only [Yf,decide_eq_true_eq] at q1;have e0:(E.lit (Int.ofNat (Nat.pow 256 k))).den X.O=((Nat.pow 256 k:Nat):Int):=rfl
    rw [e0,pw] at q1;cases hr;obtain ⟨s1,s2⟩:=Q0w (O:=X.O) k1 hb.2;refine ⟨rfl,rfl,rfl,_,?_,h1 _ k w hb.1 hb.2 q0' q1⟩;simp only [AV.rel];refine ⟨_,rfl,?_⟩;simp only [rels_cons_cons,rels_nil,AV.rel];exact ⟨⟨s1,by rw [s2]⟩,⟨trivial,rfl⟩,trivial⟩
 cases hr
def qD (l:List UInt8):Nat:=l.foldl (λn b=>n*256+b.toNat) 0
def Q8y:Nat->List E->Option Nat
 |n,[]=>some n
 |n, .lit (.ofNat b)::l=>Q8y (n*256+b) l
 |_,_=>none
def Qlm (n:E):Nat->List E->Bool
 |0,[]=>true
 |j+1,e::l=>e.same (Qlh n j)&&Qlm n j l
 |_,_=>false
noncomputable def getE (c:Ctx) (l:List E):Option E:=
 match l with
 | .cnv .u8 (.bin .shr .i64 n (.lit p))::m=>bif Qlm n (m.length+1) (.cnv .u8 (.bin .shr .i64 n (.lit p))::m)&&(match (E.ivL c.fs n).lo,(E.ivL c.fs n).hi with
  |some lo,some hi=>ile 0 lo&&ilt hi (.ofNat (Nat.pow 256 (m.length+1)))
  |_,_=>false) then some n else none
 |l=>match Q8y 0 l with
  |some n=>QG n λn=>some (.lit (.ofNat n))
  |none=>none
theorem Q32 {O:Val} {d:Nat->Prop}:∀{l:List E} {n m:Nat},Q8y n l=some m->S.okN d O l->(S.bytes O l).foldl (λn b=>n*256+b.toNat) n=m
 |[],n,m,h,_=>by simp only [Q8y,Option.some.injEq] at h;subst h;rfl
 | .lit (.ofNat b)::l,n,m,h,hk=>by
  simp only [Q8y] at h;have ih:=Q32 h λt ht=>hk t (by simp [ht])
  have hb:=(hk (.lit (.ofNat b)) (by simp)).2.2
  simp only [E.den,Int.ofNat_eq_natCast] at hb;show (S.bytes O l).foldl _ (n*256+(UInt8.ofNat ((E.lit (.ofNat b)).den O).toNat).toNat)=m
  have e:(UInt8.ofNat ((E.lit (.ofNat b)).den O).toNat).toNat=b:=by
   show (UInt8.ofNat (Int.ofNat b).toNat).toNat=b
   simp;omega
  rw [e];exact ih
 | .lit (.negSucc _)::_,_,_,h,_=>by simp [Q8y] at h
 | .var _::_,_,_,h,_=>by simp [Q8y] at h
 | .len _::_,_,_,h,_=>by simp [Q8y] at h
 | .byte _ _::_,_,_,h,_=>by simp [Q8y] at h
 | .bin _ _ _ _::_,_,_,h,_=>by simp [Q8y] at h
 | .cnv _ _::_,_,_,h,_=>by simp [Q8y] at h
 | .pk _ _::_,_,_,h,_=>by simp [Q8y] at h
 | .cons _ _::_,_,_,h,_=>by simp [Q8y] at h
 | .tv _ _ _ _::_,_,_,h,_=>by simp [Q8y] at h
 | .fn _ _::_,_,_,h,_=>by simp [Q8y] at h
theorem Qg0 {n:E} {j:Nat} {O:Val} (hj:j<4):(Qlh n j).den O=IntKind.u8.wrap ((n.den O).fdiv (2^(8*j))):=by
 simp only [Qlh,E.den,Zp];have:min ((Int.ofNat (8*j)).toNat) IntKind.i64.bits=8*j:=by simp only [Int.ofNat_eq_natCast,Int.toNat_natCast,IntKind.bits];omega
 rw [this]
theorem Q3w {O:Val} {n:E}:∀{l:List E} {k:Nat},Qlm n k l=true->k<=4->S.bytes O l=Z5 (n.den O) k
 |[],0,_,_=>rfl
 |[],_+1,h,_=>by simp [Qlm] at h
 |_::_,0,h,_=>by simp [Qlm] at h
 |e::l,j+1,h,hk=>by
  simp only [Qlm,Bool.and_eq_true] at h;have:=E.Q5 h.1;show UInt8.ofNat (e.den O).toNat::S.bytes O l=_
  rw [this,Qg0 (by omega),Q3w h.2 (by omega)];rfl
theorem Q3o {z:Nat}:∀{k a:Nat},k<=4->(Z5 z k).foldl (λn b=>n*256+b.toNat) a=a*256^k+z%256^k
 |0,a,_=>by simp [Z5];omega
 |j+1,a,h=>by
  have ih:=λa=>Q3o (z:=z) (k:=j) (a:=a) (by omega)
  show (Z5 z j).foldl _ (a*256+(Q7m z j).toNat)=_
  rw [ih];have e:(Q7m z j).toNat=z/256^j%256:=by
   unfold Q7m;rw [Q0b];have e:(2:Int)^(8*j)=((256^j:Nat):Int):=by rw [Int.pow_mul];simp
   rw [e,Int.fdiv_eq_ediv_of_nonneg _ (Int.natCast_nonneg _)];have e2:((z:Int)/((256^j:Nat):Int)%256).toNat=z/256^j%256:=by rw [<-Int.natCast_ediv];omega
   rw [e2];simp
  rw [e];have h1:=Nat.div_add_mod (z%256^(j+1)) (256^j);have h2:z%256^(j+1)/256^j=z/256^j%256:=by rw [Nat.pow_succ,Nat.mod_mul_right_div_self]
  have h3:z%256^(j+1)%256^j=z%256^j:=by rw [Nat.pow_succ,Nat.mod_mul_right_mod]
  rw [h2,h3] at h1;rw [<-h1,Nat.pow_succ,Nat.add_mul,Nat.mul_assoc,Nat.mul_comm 256 (256^j),Nat.mul_comm (256^j) (z/256^j%256)];omega
theorem Q3b {c:Ctx} {O:Val} {d:Nat->Prop} {l:List E} {e:E} (h:getE c l=some e) (hl:l.length<=4) (hk:S.okN d O l) (hc:c.okN d O):e.ok d/\e.den O=(qD (S.bytes O l):Int):=by
 unfold getE at h;split at h;rename_i n p m;cases hb:(Qlm n (m.length+1) (.cnv .u8 (.bin .shr .i64 n (.lit p))::m)&&(match (E.ivL c.fs n).lo,(E.ivL c.fs n).hi with
  |some lo,some hi=>ile 0 lo&&ilt hi (.ofNat (Nat.pow 256 (m.length+1)))
  |_,_=>false)) with
 |false=>rw [hb] at h;cases h
 |true=>
  rw [hb] at h;simp only [cond_true,Option.some.injEq] at h;subst h;simp only [Bool.and_eq_true] at hb;have hv:=E.Q6q hc.2 n;have hn:n.ok d:=(hk (.cnv .u8 (.bin .shr .i64 n (.lit p))) (by simp)).1.1
  refine ⟨hn,?_⟩;have hs:=Q3w (O:=O) hb.1 (by simpa using hl);obtain ⟨-,hb⟩:=hb;split at hb;rename_i lo hi e1 e2;simp only [Bool.and_eq_true,QU,JF,decide_eq_true_eq] at hb;have a1:=hv.1 _ e1;have a2:=hv.2 _ e2;obtain ⟨z,hz⟩:∃z:Nat,n.den O=z:=⟨(n.den O).toNat,by omega⟩;rw [hs,hz];have hlt:z<256^(m.length+1):=by have q:(Int.ofNat (Nat.pow 256 (m.length+1)))=((256^(m.length+1):Nat):Int):=rfl;rw [q] at hb;omega
  have:=Q3o (z:=z) (k:=m.length+1) (a:=0) (by simpa using hl);unfold qD;rw [this,Nat.mod_eq_of_lt hlt];omega;cases hb
 split at h;rename_i n hn;rw [sNat_eq] at h;cases h;refine ⟨trivial,?_⟩;have:=Q32 (O:=O) hn hk;simp only [E.den,qD,this,Int.ofNat_eq_natCast];cases h
noncomputable def Qau (b:Nat):Sum:=λc H next as=>
 match as with
 |[.str s, .int .i64 (.lit (.ofNat i)), .int .i64 (.lit (.ofNat k))]=>bif Nat.ble 1 k&&Nat.ble k 4&&Nat.ble s.length 1099511627776&&Nat.ble i 1099511627776 then
  bif Nat.ble (i+k) s.length then
   match getE c ((s.drop i).take k) with
   |some e=> .ok ⟨.tuple [.int .i64 e, .int .i64 (.lit (.ofNat 0))],H,next,c⟩
   |none=> .fail
  else .ok ⟨.tuple [.int .i64 (.lit (.ofNat 0)), .int .i64 (.lit (.ofNat b))],H,next,c⟩
  else .fail
 |_=> .fail
theorem Qf9 {P:Program} {G:Env} {n0:Nat} {f:FuncId} {b:Nat}
 (h1:∀(s:ByteArray) (i k:Nat) (w:World),1<=k->k<=4->s.size<=1099511627776->i+k<=s.size->Calls P f #[.string s, .int .i64 i, .int .i64 k] w λe w' =>e= .returned (.tuple #[.int .i64 (qD ((s.data.toList.drop i).take k)), .int .i64 0])/\Below w.heap.size w w')
 (h2:∀(s:ByteArray) (i k:Nat) (w:World),1<=k->k<=4->s.size<=1099511627776->i<=1099511627776->s.size<i+k->Calls P f #[.string s, .int .i64 i, .int .i64 k] w λe w' =>e= .returned (.tuple #[.int .i64 0, .int .i64 b])/\Below w.heap.size w w'):ZL P G n0 f (Qau b):=by
 refine Y1 λc X H next w args vs r hr hc hargs=>?_
 unfold Qau at hr;split at hr;rename_i s i k;cases hb:(Nat.ble 1 k&&Nat.ble k 4&&Nat.ble s.length 1099511627776&&Nat.ble i 1099511627776) with
 |false=>rw [hb] at hr;cases hr
 |true=>
  rw [hb] at hr;simp only [Bool.and_eq_true,Nat.ble_eq] at hb;simp only [cond_true] at hr;obtain ⟨u,vs',e1,g1,g2⟩:=Q8.1 hargs;obtain ⟨v,vs'',rfl,g3,g4⟩:=Q8.1 g2;obtain ⟨v2,vs3,rfl,g5,g6⟩:=Q8.1 g4;have:=rels_nil.1 g6;subst this;simp only [AV.rel] at g1 g3 g5;obtain ⟨k1,rfl⟩:=g1;obtain ⟨-,rfl⟩:=g3;obtain ⟨-,rfl⟩:=g5;have hvs:vs=#[.string ⟨(S.bytes X.O s).toArray⟩, .int .i64 i, .int .i64 k]:=by rw [<-Array.toList_inj];exact e1
  subst hvs;have hsz:(⟨(S.bytes X.O s).toArray⟩:ByteArray).size=s.length:=by
   show (S.bytes X.O s).toArray.size=_
   simp [S.bytes]
  cases hle:Nat.ble (i+k) s.length with
  |true=>
   rw [hle] at hr;simp only [cond_true] at hr;have hle' :i+k<=s.length:=by simpa using hle
   split at hr;rename_i e he;cases hr;have hkk:S.okN X.dom X.O ((s.drop i).take k):=λt ht=>k1 t (List.mem_of_mem_drop (List.mem_of_mem_take ht))
   obtain ⟨a1,a2⟩:=Q3b he (by simp only [List.length_take];omega) hkk hc;refine ⟨rfl,rfl,rfl,_,?_,h1 _ i k w hb.1.1.1 hb.1.1.2 (by rw [hsz];exact hb.1.2) (by rw [hsz];exact hle')⟩;simp only [AV.rel];refine ⟨_,rfl,?_⟩;simp only [rels_cons_cons,rels_nil,AV.rel];refine ⟨⟨a1,?_⟩,⟨trivial,rfl⟩,trivial⟩;rw [a2];have:S.bytes X.O ((s.drop i).take k)=((S.bytes X.O s).drop i).take k:=by simp [S.bytes,List.map_take,List.map_drop]
   rw [this];cases hr
  |false=>
   rw [hle] at hr;simp only [cond_false] at hr;cases hr;have hle' :¬i+k<=s.length:=λhh=>by rw [Nat.ble_eq_true_of_le hh] at hle;cases hle
   refine ⟨rfl,rfl,rfl,_,?_,h2 _ i k w hb.1.1.1 hb.1.1.2 (by rw [hsz];exact hb.1.2) hb.2 (by rw [hsz];omega)⟩;simp only [AV.rel];refine ⟨_,rfl,?_⟩;simp only [rels_cons_cons,rels_nil,AV.rel];exact ⟨⟨trivial,rfl⟩,⟨trivial,rfl⟩,trivial⟩
 cases hr
end Go.Ax
namespace Go.Ax
open Go.RowKit
noncomputable def Qnm (c:Ctx) (k:E):List E->D (List E)
 |[]=> .ok [k]
 |a::l=>match E.cmp c .lss k a with
  |none=> .ask .lss k a
  |some true=> .ok (k::a::l)
  |some false=>match E.cmp c .gtr k a with
   |some true=>(Qnm c k l).bind λr=> .ok (a::r)
   |_=> .fail
noncomputable def Qdw (c:Ctx):List E->D (List E)
 |[]=> .ok []
 |k::l=>(Qdw c l).bind λr=>Qnm c k r
abbrev Q5p (O:Val) (l:List E):List Int:=l.map (·.den O)
theorem Q38 {c:Ctx} {d:Nat->Prop} {O:Val} (hc:c.okN d O) {k:E}:∀{l r:List E},Qnm c k l= .ok r->(Q5p O l).Pairwise (. <·)->(Q5p O r).Pairwise (. <·)/\(Q5p O r).Perm (k.den O::Q5p O l)/\∀e∈r,e=k\/e∈l
 |[],r,h,_=>by simp only [Qnm] at h;cases h;exact ⟨by simp, .refl _,λe he=> .inl (by simpa using he)⟩
 |a::l,r,h,hp=>by
  simp only [Qnm] at h;have hp' :=List.pairwise_cons.1 (show (a.den O::Q5p O l).Pairwise (. <·) from hp);split at h;cases h;rename_i hq;have q:=E.Qb rfl hq hc;simp only [Yf,decide_eq_true_eq] at q;cases h;refine ⟨List.pairwise_cons.2 ⟨λx hx=>?_,hp⟩, .refl _,λe he=>by simpa using he⟩;rcases List.mem_cons.1 (show x∈a.den O::Q5p O l from hx) with hx|hx;show k.den O<x;rw [hx];exact q;have:=hp'.1 x hx;show k.den O<x;omega;split at h;rename_i hq;have q:=E.Qb rfl hq hc;have q' :a.den O<k.den O:=by simpa [Yf] using q
  obtain ⟨r',h1,h2⟩:=D.bind_ok h;cases h2;obtain ⟨i1,i2,i3⟩:=Q38 hc h1 hp'.2;refine ⟨List.pairwise_cons.2 ⟨λx hx=>?_,i1⟩,?_,λe he=>?_⟩;rcases List.mem_cons.1 (i2.mem_iff.1 hx) with rfl|hx;exact q';exact hp'.1 x hx;exact (List.Perm.cons _ i2).trans (.swap _ _ _)
  rcases List.mem_cons.1 he with rfl|he;exact .inr (by simp)
  rcases i3 e he with h|h;exact .inl h
  exact .inr (by simp [h])
  cases h
theorem Q0k {c:Ctx} {d:Nat->Prop} {O:Val} (hc:c.okN d O):∀{l r:List E},Qdw c l= .ok r->(Q5p O r).Pairwise (. <·)/\(Q5p O r).Perm (Q5p O l)/\∀e∈r,e∈l
 |[],r,h=>by simp only [Qdw] at h;cases h;exact ⟨by simp, .refl _,λe he=>he⟩
 |k::l,r,h=>by simp only [Qdw] at h;obtain ⟨r',h1,h2⟩:=D.bind_ok h;obtain ⟨i1,i2,i3⟩:=Q0k hc h1;obtain ⟨j1,j2,j3⟩:=Q38 hc h2 i1;refine ⟨j1,j2.trans (List.Perm.cons _ i2),λe he=>?_⟩;rcases j3 e he with rfl|he;simp;simp [i3 e he]
noncomputable def Qgn (c:Ctx) (e:E):Bool:=
 match (E.iv c.fs e).lo,(E.iv c.fs e).hi with
 |some lo,some hi=>ile (.negSucc 9223372036854775807) lo&&ile hi (.ofNat 9223372036854775807)
 |_,_=>false
theorem Q8d {c:Ctx} {d:Nat->Prop} {O:Val} (hc:c.okN d O) {e:E} (h:Qgn c e=true):-9223372036854775808<=e.den O/\e.den O<=9223372036854775807:=by unfold Qgn at h;have hv:=E.Qd hc.2 e;split at h;rename_i lo hi e1 e2;simp only [Bool.and_eq_true,QU] at h;have a1:=hv.1 _ e1;have a2:=hv.2 _ e2;have b1:(Int.negSucc 9223372036854775807)=-9223372036854775808:=rfl;have b2:(Int.ofNat 9223372036854775807)=9223372036854775807:=rfl;rw [b1,b2] at h;omega;cases h
noncomputable def Qew (c:Ctx):List (AV×AV×Nat)->Option (List E)
 |[]=>some []
 |x::l=>match x.1 with
  | .int .i64 e=>bif Qgn c e then (match Qew c l with
   |some r=>some (e::r)
   |none=>none) else none
  |_=>none
def Q5z (clock:Nat):Nat->List (AV×AV×Nat)->Bool
 |_,[]=>true
 |lo,x::l=>Nat.ble lo x.2.2&&(Nat.blt x.2.2 clock&&Q5z clock (x.2.2+1) l)
theorem Q17 {c:Ctx} {X:Ext} (hc:c.okN X.dom X.O):∀{l:List (AV×AV×Nat)} {es:List MapEntry} {ks:List E},Qew c l=some ks->Q9 X l es->es.map (·.key)=(Q5p X.O ks).map (Value.int .i64)/\(∀e∈ks,e.ok X.dom)/\∀z∈Q5p X.O ks,-9223372036854775808<=z/\z<=9223372036854775807
 |[],es,ks,h,hr=>by simp only [Qew,Option.some.injEq] at h;subst h;have:es=[]:=hr;subst this;exact ⟨rfl,λe he=>(by cases he),λz hz=>(by cases hz)⟩
 |x::l,es,ks,h,hr=>by
  obtain ⟨e,es',rfl,r1,-,-,r4⟩:=hr;simp only [Qew] at h;split at h;rename_i k hk;cases hw:Qgn c k with
  |false=>rw [hw] at h;cases h
  |true=>rw [hw] at h;simp only [cond_true] at h;split at h;rename_i r hr';cases h;obtain ⟨i1,i2,i3⟩:=Q17 hc hr' r4;rw [hk] at r1;simp only [AV.rel] at r1;refine ⟨by simp only [List.map_cons,r1.2,i1,Q5p],λy hy=>?_,λz hz=>?_⟩;rcases List.mem_cons.1 hy with rfl|hy;exact r1.1;exact i2 y hy;rcases List.mem_cons.1 (show z∈k.den X.O::Q5p X.O r from hz) with rfl|hz;exact Q8d hc hw;exact i3 z hz;cases h
  cases h
theorem jY {X:Ext} {clock:Nat}:∀{l:List (AV×AV×Nat)} {es:List MapEntry} {lo:Nat},Q5z clock lo l=true->Q9 X l es->(∀x∈es,lo<=x.born/\x.born<clock)/\(es.map (·.born)).Nodup
 |[],es,lo,_,hr=>by have:es=[]:=hr;subst this;exact ⟨λx hx=>(by cases hx),by simp⟩
 |x::l,es,lo,h,hr=>by
  obtain ⟨e,es',rfl,-,-,r3,r4⟩:=hr;simp only [Q5z,Bool.and_eq_true,Nat.ble_eq,Nat.blt_eq] at h;obtain ⟨i1,i2⟩:=jY h.2.2 r4;refine ⟨λy hy=>?_,?_⟩;rcases List.mem_cons.1 hy with rfl|hy;rw [r3];exact ⟨h.1,h.2.1⟩;have:=i1 y hy;omega;rw [List.map_cons,List.nodup_cons];refine ⟨λhm=>?_,i2⟩;obtain ⟨y,hy,hb⟩:=List.mem_map.1 hm;have:=(i1 y hy).1
  omega
noncomputable def zC (T:TypeId) (gs:List Nat):Sum:=λc H next as=>
 match as with
 |[.func g [] [.ptr cb 0]]=>bif gs.any (Nat.beq g) then
  match H.get cb with
  |some (.cells [.map r] _ true _ _)=>match H.get r with
   |some (.map es clock)=>bif Nat.ble es.length 1000000&&Q5z clock 0 es then
    match Qew c es with
    |some ks=>(Qdw c ks).bind λl=>match l with
     |[]=> .ok ⟨.nilslice,H,next,c⟩
     |e::l=>QG (next+1) λnx=>QG (e::l).length λn=> .ok ⟨.slice next 0 n n 1 false,H.set next (.cells ((e::l).map (.int .i64)) T false true false),nx,c⟩
    |none=> .fail
    else .fail
   |_=> .fail
  |some (.cells [.nilmap] _ true _ _)=> .ok ⟨.nilslice,H,next,c⟩
  |_=> .fail
  else .fail
 |_=> .fail
theorem Q47 {ss l:List Int} (hp:ss.Perm l) (hl:l.Pairwise (. <·)):ss.mergeSort (λx y=>decide (x<=y))=l:=by
 have tr:∀a b c:Int,decide (a<=b)=true->decide (b<=c)=true->decide (a<=c)=true:=λa b c h1 h2=>by simp only [decide_eq_true_eq] at*;omega
 have to:∀a b:Int,(decide (a<=b)||decide (b<=a))=true:=λa b=>by simp only [Bool.or_eq_true,decide_eq_true_eq];omega
 refine List.Perm.eq_of_pairwise (le:=λa b=>decide (a<=b)=true) (λa b _ _ h1 h2=>by simp only [decide_eq_true_eq] at h1 h2;omega) (List.pairwise_mergeSort tr to ss) (hl.imp λ{a b} h=>by simp only [decide_eq_true_eq];omega) ((List.mergeSort_perm ss _).trans hp)
theorem Q63 {P:Program} {G:Env} {n0:Nat} {f:FuncId} {T:TypeId} {gs:List Nat}
 (h1:∀(g b Bm clock:Nat) (es:Array MapEntry) (ks:List Int) (w:World),g∈gs->Bm<w.heap.size->w.cell? ⟨Bm,0,none⟩=some (.map (some b))->w.heap[b]?=some (.map es clock)->es.size<=1000000->MapKept.Stamped es clock->es.toList.map (·.key)=ks.map (Value.int .i64)->(∀z∈ks,-9223372036854775808<=z/\z<=9223372036854775807)->
  Calls P f #[.func (.func g) #[] #[.pointer (some ⟨Bm,0,none⟩)]] w λe w' =>∃(v:Value) (ss:List Int),e= .returned v/\ss.Perm ks/\w'.ownsRow w.heap.size T 1 v ss.length ((ss.mergeSort (λx y=>decide (x<=y))).map (Value.int .i64))/\(v= .slice none 0 0↔ss=[])/\Below w.heap.size w w')
 (h2:∀(g Bm:Nat) (w:World),g∈gs->Bm<w.heap.size->w.cell? ⟨Bm,0,none⟩=some (.map none)->
  Calls P f #[.func (.func g) #[] #[.pointer (some ⟨Bm,0,none⟩)]] w λe w' =>e= .returned (.slice none 0 0)/\Below w.heap.size w w'):ZL P G n0 f (zC T gs):=by
 intro c X H next w args vs r hr hc hg hH h0 hfr hargs fr cs
 unfold zC at hr;split at hr
 case h_2=>cases hr
 rename_i g cb;cases hgs:gs.any (Nat.beq g) with
 |false=>rw [hgs] at hr;cases hr
 |true=>
  rw [hgs] at hr;simp only [cond_true] at hr;have hmem:g∈gs:=any_beq hgs;obtain ⟨u,vs',e1,g1,g2⟩:=Q8.1 hargs;have:=rels_nil.1 g2;subst this;simp only [AV.rel] at g1;obtain ⟨as',cs',rfl,g3,g4⟩:=g1;have ha:as' =#[]:=by rw [<-Array.toList_inj];exact rels_nil.1 g3
  subst ha;obtain ⟨u,us,e2,g5,g6⟩:=Q8.1 g4;have:=rels_nil.1 g6;subst this;simp only [AV.rel] at g5;obtain ⟨p,hp,rfl⟩:=g5;have hcs:cs' =#[.pointer (some ⟨p.blk,p.base+0,none⟩)]:=by rw [<-Array.toList_inj];exact e2
  subst hcs;have hvs:vs=#[.func (.func g) #[] #[.pointer (some ⟨p.blk,p.base+0,none⟩)]]:=by rw [<-Array.toList_inj];exact e1
  subst hvs;have hblk:=hH.lt _ _ hp;split at hr
  . rename_i q el pl ro ho;have hbase:p.base=0:=by obtain ⟨_,_,_,_,_,hx,_⟩:=hH.obj _ _ _ ho hp;exact (hx rfl).1
    obtain ⟨mv,hmv,hrel⟩:=hH.cell ho hp (i:=0) (a:= .map q) rfl;rw [hbase] at hmv ⊢;simp only [AV.rel] at hrel;obtain ⟨pm,hpm,rfl⟩:=hrel;split at hr
    . rename_i es clock hmap;obtain ⟨es',hes,hent⟩:=hH.obj _ _ _ hmap hpm;cases hb:(Nat.ble es.length 1000000&&Q5z clock 0 es) with
      |false=>rw [hb] at hr;cases hr
      |true=>
       rw [hb] at hr;simp only [Bool.and_eq_true,Nat.ble_eq] at hb;simp only [cond_true] at hr;split at hr
       . rename_i ks hks;obtain ⟨l,hl,hr⟩:=D.bind_ok hr;obtain ⟨s1,s2,s3⟩:=Q0k hc hl;obtain ⟨k1,k2,k3⟩:=Q17 hc hks hent;obtain ⟨t1,t2⟩:=jY hb.2 hent;have hlen:es'.size<=1000000:=by
          have:es'.toList.length=es.length:=by
           have:∀{xs:List (AV×AV×Nat)} {ys:List MapEntry},Q9 X xs ys->ys.length=xs.length:=by
            intro xs;induction xs with
            |nil=>intro ys h;have:ys=[]:=h;subst this;rfl
            |cons x xs ih=>intro ys h;obtain ⟨y,ys',rfl,_,_,_,h4⟩:=h;simp [ih h4]
           exact this hent
          have h3:es'.size=es'.toList.length:=by simp
          omega
         have hnd:(es'.toList.map (·.key)).Nodup:=by
          rw [k1];have hn1:(Q5p X.O l).Nodup:=s1.imp λ{a b} h=>by omega
          have hn2:(Q5p X.O ks).Nodup:=s2.nodup_iff.1 hn1
          exact List.Pairwise.map (Value.int .i64) (λa b e h=>e (by simpa using h)) hn2
         obtain ⟨u,w',⟨v,ss,rfl,q1,q2,q3,q4⟩,st⟩:=ZV ((h1 g pm.blk p.blk clock es' _ w hmem hblk (by simpa using hmv) hes hlen ⟨λx hx=>(t1 x hx).2,t2,hnd⟩ k1 k3).mono (λe w' ⟨v,ss,a1,a2,a3,a4,a5⟩=>(⟨v,a1,v,ss,rfl,a2,a3,a4,a5⟩:∃u,e= .returned u/\∃v ss,u=v/\ss.Perm (Q5p X.O ks)/\w'.ownsRow w.heap.size T 1 v ss.length ((ss.mergeSort (λx y=>decide (x<=y))).map (Value.int .i64))/\(v= .slice none 0 0↔ss=[])/\Below w.heap.size w w'))) fr cs;have hsort:ss.mergeSort (λx y=>decide (x<=y))=Q5p X.O l:=Q47 (q1.trans s2.symm) s1;have hsl:ss.length=l.length:=by
          have:=(q1.trans s2.symm).length_eq
          simpa using this
         rw [hsort] at q2;split at hr;cases hr;have hss:ss=[]:=List.eq_nil_of_length_eq_zero (by simpa using hsl);have:=q3.2 hss;subst this;exact ⟨X,_,w',st,Ext.le.refl X,by simp only [AV.rel],hH.grow q4,q4.mono h0,λb hb _=>⟨hb,rfl⟩,Nat.le_refl _,hfr,hc⟩;rename_i e l;simp only [sNat_eq] at hr;cases hr;obtain ⟨-,⟨rfl,hz⟩|⟨gb,cap,cur,rfl,b1,b2,b3,b4,b5,b6⟩⟩:=q2;rw [hz] at hsl;simp at hsl;have hgb:gb<w'.heap.size:=(Array.getElem?_eq_some_iff.1 b2).1
         have un:=hfr next (Nat.le_refl _)
         have hle:X.le (X.add next ⟨gb,0,cur.size⟩):=Ext.Zr un;have hn:ss.length<=cur.size:=by omega
         refine ⟨X.add next ⟨gb,0,cur.size⟩,_,w',st,hle,?_,(hH.grow q4).place un hgb (by show n0<=gb;omega) (λi q hq he=>?_) ?_,q4.mono h0,λb hb hlt=>⟨?_,?_⟩,by simp only;omega,λb hb=>?_,Ctx.Q2d hc hle⟩;simp only [AV.rel];refine ⟨_,0,cap,Ext.add_same _ _ _,?_,Nat.le_refl _,?_,?_,λ_=>rfl,λh=>(by cases h)⟩;rw [hsl];rw [<-hsl];exact b3;simp only;omega;have:=hH.lt i q hq;simp only at he;omega;refine ⟨cur,(0,0),⟨T,b2, .inr rfl⟩,rfl,?_,λh=>(by cases h),λi a hi=>?_, .inr (.inr rfl),λ_=>rfl⟩;simp only [List.length_map,Nat.zero_add];rw [<-hsl];exact hn;rw [List.getElem?_map] at hi;cases hx:(e::l)[i]? with
         |none=>rw [hx] at hi;cases hi
         |some x=>
          rw [hx] at hi;simp only [Option.map_some,Option.some.injEq] at hi;subst hi;refine ⟨.int .i64 (x.den X.O),?_,?_⟩;have hb6:=congrArg (·[i]?) b6;simp only [Nat.mul_one,List.getElem?_map,hx,Option.map_some,Q5p] at hb6;have hlt:i<ss.length:=by rw [hsl];exact (List.getElem?_eq_some_iff.1 hx).1
          rw [List.getElem?_take,if_pos hlt,Array.getElem?_toList] at hb6;simpa using hb6;simp only [AV.rel];have hxk:x∈ks:=s3 x (List.mem_of_getElem? hx);have hok:=k2 x hxk;exact ⟨E.Ql hle.dom hok,by rw [E.Qc hle.O hok]⟩
         rw [Ext.QL (by omega)];exact hb;exact Tr.Q0 _ _ (by omega);have hb' :next+1<=b:=hb
         rw [Ext.QL (by omega)];exact hfr b (by omega)
       cases hr
    cases hr
  rename_i el pl ro ho;cases hr;have hbase:p.base=0:=by obtain ⟨_,_,_,_,_,hx,_⟩:=hH.obj _ _ _ ho hp;exact (hx rfl).1
  obtain ⟨mv,hmv,hrel⟩:=hH.cell ho hp (i:=0) (a:= .nilmap) rfl;rw [hbase] at hmv ⊢;simp only [AV.rel] at hrel;subst hrel;obtain ⟨u,w',⟨rfl,q4⟩,st⟩:=ZV ((h2 g p.blk w hmem hblk (by simpa using hmv)).mono (λe w' ⟨a1,a2⟩=>(⟨_,a1,rfl,a2⟩:∃u,e= .returned u/\u=Value.slice none 0 0/\Below w.heap.size w w'))) fr cs;exact ⟨X,_,w',st,Ext.le.refl X,by simp only [AV.rel],hH.grow q4,q4.mono h0,λb hb _=>⟨hb,rfl⟩,Nat.le_refl _,hfr,hc⟩;cases hr
end Go.Ax
namespace Go.Ax
open Go.RowKit
end Go.Ax
namespace Go.Ax
open Go.RowKit
theorem Q8k {P:Program} {w:World} {t:TypeId} {ms:Array (String×TypeId)} (ht:P.underlying t=some (.interface ms)):(binOp .neq t .nilIface .nilIface).run P w= .ok (.bool false) w:=by
 have hu:=run_underlying (P:=P) ht w;have h:(Op.equalIn (9999+1) t .nilIface .nilIface).run P w= .ok true w:=by unfold Op.equalIn;simp [hu]
 unfold binOp;simp only [Op.equal,Op.maxDepth,Sem.run_bind];rw [show (10000:Nat)=9999+1 from rfl,h];rfl
abbrev dfr (f:FuncId) (td:List Item) (tm:Array Value) (md:FrameMode):Frame:={ fn:=f,tmps:=tm,todo:=td,defers:=[],mode:=md,kind:= .deferred}
theorem Qns {f:FuncId} {ops:Array Oper} {i d:Nat} {l:List Nat} {k:List Item} {tm:Array Value} {v:Value} {o:Oper} (ho:ops[i]?=some o) (hd:o.dst=some d):
 (dfr f (.inRegion ops (i::l)::k) tm .run).finish v=dfr f (.inRegion ops l::k) (tm.setIfInBounds d v) .run:=by simp [Frame.finish,ho,hd]
theorem Q0c {o:Oper} {y:Nat->Option Bool} (h:o.guard=none):Region.wanted o y=true:=by unfold Region.wanted;rw [h]
section
variable {P:Program} {f:FuncId} {c:Frame} {cs:List Frame} {w:World}
theorem Q3h {ops:Array Oper} {i d:Nat} {l:List Nat} {k:List Item} {tm:Array Value} {o:Oper} (hc:c.mode= .returning) (ho:ops[i]?=some o) (hg:o.guard=none) (hd:o.dst=some d)
 (hp:o.op= .call { callee:= .builtin .recover,args:=#[],argTypes:=#[]})
 (h' :Steps P (lone (dfr f (.inRegion ops l::k) (tm.setIfInBounds d .nilIface) .run) (c::cs) w) (lone c cs w)):Steps P (lone (dfr f (.inRegion ops (i::l)::k) tm .run) (c::cs) w) (lone c cs w):=by
 have h:=Qc3 (P:=P) (fr:=dfr f (.inRegion ops (i::l)::k) tm .run) (cs:=cs) (w:=w) (w' :=w) (o:=o) rfl rfl ho (Q0c hg) rfl hc rfl (by unfold execOp;rw [hp];simp [resolve,invoke,builtin]);rw [Qns ho hd] at h;exact .head h h'
theorem Qb3 {ops:Array Oper} {i d:Nat} {l:List Nat} {k:List Item} {tm:Array Value} {o:Oper} {v:Value} (ho:ops[i]?=some o) (hg:o.guard=none) (hd:o.dst=some d)
 (hn:∀c,o.op≠ .defer c) (hr:(execOp (evC tm) o).run P w= .ok (.value v) w)
 (h' :Steps P (lone (dfr f (.inRegion ops l::k) (tm.setIfInBounds d v) .run) (c::cs) w) (lone c cs w)):Steps P (lone (dfr f (.inRegion ops (i::l)::k) tm .run) (c::cs) w) (lone c cs w):=by
 have h:=zA (P:=P) (fr:=dfr f (.inRegion ops (i::l)::k) tm .run) (cs:=c::cs) (w:=w) (w' :=w) (o:=o) (v:=v) rfl rfl ho (Q0c hg) hn hr;rw [Qns ho hd] at h;exact .head h h'
theorem Qfi {a b:Code} {k:List Item} {tm:Array Value} (h' :Steps P (lone (dfr f (.code a:: .code b::k) tm .run) (c::cs) w) (lone c cs w)):Steps P (lone (dfr f (.code (.seq a b)::k) tm .run) (c::cs) w) (lone c cs w):= .head (Qj6 rfl rfl) h'
theorem Q1r {id:Nat} {a b:Oper} {k:List Item} {tm:Array Value} (h' :Steps P (lone (dfr f (.inRegion #[a,b] [0,1]::k) tm .run) (c::cs) w) (lone c cs w)):Steps P (lone (dfr f (.code (.region id #[a,b] false)::k) tm .run) (c::cs) w) (lone c cs w):= .head (Q60 rfl rfl) h'
theorem Qfj {ops:Array Oper} {k:List Item} {tm:Array Value} (h' :Steps P (lone (dfr f k tm .run) (c::cs) w) (lone c cs w)):Steps P (lone (dfr f (.inRegion ops []::k) tm .run) (c::cs) w) (lone c cs w):= .head (YB rfl rfl) h'
theorem Qb4 {d:Nat} {a:Code} {tm:Array Value} {fn:Func} (hc:c.mode= .returning) (hf:P.funcs[f]?=some fn) (hr:fn.results=#[]) (hd:evC tm (.tmp d)= .bool false):
 Steps P (lone (dfr f [.code (.cond (.tmp d) a .skip)] tm .run) (c::cs) w) (lone c cs w):=by
 refine .head (Q8g (t:=false) rfl rfl hd) (.head (Qdq rfl rfl) (.head (Qj8 rfl rfl rfl) (.one (Qc2 (v:= .tuple #[]) (w' :=w) rfl rfl rfl hc hf ?_))))
 unfold results;rw [hr];simp
theorem Qb0 {tm:Array Value} {o:Oper} {t:TypeId} {x:Nat} {ms:Array (String×TypeId)} (ht:P.underlying t=some (.interface ms)) (hp:o.op= .binOp .neq t (.tmp x) (.const .nilIface) t) (hx:evC tm (.tmp x)= .nilIface):(execOp (evC tm) o).run P w= .ok (.value (.bool false)) w:=by
 have hx' :tm.getD x undef= .nilIface:=hx
 unfold execOp;rw [hp];simp only [evC,hx',Sem.run_bind,JB (P:=P) (w:=w) (op:= .neq) (t:=t) (xo:= .tmp x) (yo:= .const .nilIface) rfl,Result.andThen_ok,Q8k ht,Sem.run_pure]
theorem noopA {fn:Func} {i0 i1:Nat} {o0 o1 o2 o3:Oper} {c1:Code} {t:TypeId} {ms:Array (String×TypeId)} (ht:P.underlying t=some (.interface ms)) (hf:P.funcs[f]?=some fn) (hcall:∀args w,(callFunc f args).run P w= .ok (.enter f args) w)
 (hb:fn.body=some (.seq (.region i0 #[o0,o1] false) (.seq (.region i1 #[o2,o3] false) (.cond (.tmp 5) c1 .skip)))) (hr:fn.results=#[]) (hn:6<=fn.ntmps)
 (p0:o0.op= .call { callee:= .builtin .recover,args:=#[],argTypes:=#[]}) (d0:o0.dst=some 3) (g0:o0.guard=none)
 (p1:o1.op= .assign (.tmp 3)) (d1:o1.dst=some 2) (g1:o1.guard=none)
 (p2:o2.op= .move (.tmp 2)) (d2:o2.dst=some 4) (g2:o2.guard=none)
 (p3:o3.op= .binOp .neq t (.tmp 4) (.const .nilIface) t) (d3:o3.dst=some 5) (g3:o3.guard=none):Q3z P f:=by
 refine ⟨hcall,λc cs w args hc=>?_⟩;have he:Frame.enter P f args .deferred=dfr f [.code (.seq (.region i0 #[o0,o1] false) (.seq (.region i1 #[o2,o3] false) (.cond (.tmp 5) c1 .skip)))] (args++Array.replicate (fn.ntmps-args.size) undef) .run:=by simp [Frame.enter,hf,hb]
 rw [he];generalize hT:args++Array.replicate (fn.ntmps-args.size) undef=T;have hs:6<=T.size:=by rw [<-hT];simp;omega
 clear hT he;refine Qfi (Q1r (Q3h hc rfl g0 d0 p0 (Qb3 (o:=o1) (v:= .nilIface) rfl g1 d1 (λcc e=>by rw [p1] at e;cases e) ?_ (Qfj (Qfi (Q1r (Qb3 (o:=o2) (v:= .nilIface) rfl g2 d2 (λcc e=>by rw [p2] at e;cases e) ?_ (Qb3 (o:=o3) (v:= .bool false) rfl g3 d3 (λcc e=>by rw [p3] at e;cases e) (Qb0 ht p3 ?_) (Qfj (Qb4 hc hf hr ?_))))))))));unfold execOp;rw [p1];simp [evC,show 3<T.size by omega];unfold execOp;rw [p2];simp [evC,show 2<T.size by omega];simp [evC,show 4<T.size by omega];simp [evC,show 5<T.size by omega]
theorem noopB {fn:Func} {i0:Nat} {o0 o1:Oper} {c1:Code} {t:TypeId} {ms:Array (String×TypeId)} (ht:P.underlying t=some (.interface ms)) (hf:P.funcs[f]?=some fn) (hcall:∀args w,(callFunc f args).run P w= .ok (.enter f args) w)
 (hb:fn.body=some (.seq (.region i0 #[o0,o1] false) (.cond (.tmp 3) c1 .skip))) (hr:fn.results=#[]) (hn:5<=fn.ntmps)
 (p0:o0.op= .call { callee:= .builtin .recover,args:=#[],argTypes:=#[]}) (d0:o0.dst=some 2) (g0:o0.guard=none)
 (p3:o1.op= .binOp .neq t (.tmp 2) (.const .nilIface) t) (d3:o1.dst=some 3) (g3:o1.guard=none):Q3z P f:=by
 refine ⟨hcall,λc cs w args hc=>?_⟩;have he:Frame.enter P f args .deferred=dfr f [.code (.seq (.region i0 #[o0,o1] false) (.cond (.tmp 3) c1 .skip))] (args++Array.replicate (fn.ntmps-args.size) undef) .run:=by simp [Frame.enter,hf,hb]
 rw [he];generalize hT:args++Array.replicate (fn.ntmps-args.size) undef=T;have hs:5<=T.size:=by rw [<-hT];simp;omega
 clear hT he;refine Qfi (Q1r (Q3h hc rfl g0 d0 p0 (Qb3 (o:=o1) (v:= .bool false) rfl g3 d3 (λcc e=>by rw [p3] at e;cases e) (Qb0 ht p3 ?_) (Qfj (Qb4 hc hf hr ?_)))));simp [evC,show 2<T.size by omega];simp [evC,show 3<T.size by omega]
end
end Go.Ax
namespace Go.Ax
open Go.RowKit
noncomputable def Q08 (ts:List (Nat×Nat)):Sum:=λc H next args=>
 match args with
 |[.ptr b 0]=>match H.get b with
  |some (.cells (.nilptr::ys) el true pl false)=>bif ts.any (λq=>Nat.beq q.1 el&&Nat.beq q.2 (ys.length+1)) then .ok ⟨.tuple [],H.set b (.cells (.ptr b 0::ys) el true pl false),next,c⟩ else .fail
  |some (.cells (.ptr b' 0::_) _ true _ _)=>bif Nat.beq b' b then .ok ⟨.tuple [],H,next,c⟩ else .fail
  |_=> .fail
 |_=> .fail
theorem Q9e {P:Program} {G:Env} {n0:Nat} {f:FuncId} {ts:List (Nat×Nat)}
 (hfresh:∀q∈ts,∀(b:Nat) (w:World),w.cell? ⟨b,0,none⟩=some (.pointer none)->w.shape? b=some (q.1,q.2)->w.frozen? ⟨b,0,none⟩=false->
  Calls P f #[.pointer (some ⟨b,0,none⟩)] w λe w' =>e= .returned (.tuple #[])/\w' =w.setCell ⟨b,0,none⟩ (.pointer (some ⟨b,0,none⟩)))
 (hused:∀(b:Nat) (w:World),w.cell? ⟨b,0,none⟩=some (.pointer (some ⟨b,0,none⟩))->Calls P f #[.pointer (some ⟨b,0,none⟩)] w λe w' =>e= .returned (.tuple #[])/\w' =w):
 ZL P G n0 f (Q08 ts):=by
 intro c X H next w args vs r h hc hg hH h0 hfr hargs fr cs
 unfold Q08 at h;split at h;rename_i b;obtain ⟨v,vs',hvs,hv,hnil⟩:=hargs;simp only [AV.rel] at hv;obtain ⟨p,hp,rfl⟩:=hv;have hnil' :vs' =[]:=hnil;subst hnil';have hva:vs=#[.pointer (some ⟨p.blk,p.base+0,none⟩)]:=by rw [<-Array.toList_inj];exact hvs
 subst hva;split at h;rename_i ys el pl hb;cases ht:ts.any (λq=>Nat.beq q.1 el&&Nat.beq q.2 (ys.length+1)) with
 |false=>rw [ht] at h;cases h
 |true=>
  rw [ht] at h;cases h;obtain ⟨q,hq,hqe⟩:=List.any_eq_true.1 ht;simp only [Bool.and_eq_true,Nat.beq_eq] at hqe;obtain ⟨cc,frz,⟨el',h1,mel⟩,h2,h3,h4,h5,h6⟩:=hH.obj _ _ p hb hp;have mel' :=mel.resolve_left (by simp);rw [mel'] at h1;obtain ⟨hb0,hn2⟩:=h4 rfl;obtain ⟨v,hcell,hvr⟩:=hH.cell (i:=0) hb hp rfl;simp only [AV.rel] at hvr;subst hvr;rw [hb0] at hcell ⊢;have hsh:w.shape? p.blk=some (q.1,q.2):=by simp only [World.shape?,h1,h2,hn2,hqe.1,hqe.2];rfl
  have hfz:=hH.notFrozen (i:=0) hb hp (by rw [hb0,hn2];simp);rw [hb0] at hfz;have hst:=hH.store (i:=0) (a:= .ptr b 0) (v:= .pointer (some ⟨p.blk,0,none⟩)) hb hp (by simp) (by simp only [AV.rel];exact ⟨p,hp,by rw [hb0]⟩);rw [hb0] at hst;refine ⟨X, .tuple #[],_,JN (hfresh q hq p.blk w hcell hsh hfz) fr cs,Ext.le.refl X,Qw X,hst,?_,λd hd _=>⟨hd,Tr.Q0 _ _ (QZ hp hd)⟩,Nat.le_refl _,hfr,hc⟩
  have hown:=hH.own b _ p hb rfl hp;exact ⟨rfl,rfl,rfl,by simp [World.setCell],λk hk=>Below.heap_setCell _ _ _ _ (by simp only;omega)⟩
 rename_i b' _ el pl ro hb;cases ht:Nat.beq b' b with
 |false=>rw [ht] at h;cases h
 |true=>
  rw [ht] at h;cases h;have hbb:b' =b:=by simpa using ht
  subst hbb;obtain ⟨cc,frz,⟨el',h1,mel⟩,h2,h3,h4,h5,h6⟩:=hH.obj _ _ p hb hp;obtain ⟨hb0,hn2⟩:=h4 rfl;obtain ⟨v,hcell,hvr⟩:=hH.cell (i:=0) hb hp rfl;simp only [AV.rel] at hvr;obtain ⟨p',hp',rfl⟩:=hvr;rw [hp] at hp';cases hp';rw [hb0] at hcell ⊢;exact ⟨X, .tuple #[],w,JN (hused p.blk w hcell) fr cs,Ext.le.refl X,Qw X,hH,Below.refl _ _,λd hd _=>⟨hd,rfl⟩,Nat.le_refl _,hfr,hc⟩
 cases h;cases h
end Go.Ax
namespace Go.Ax
open Go.RowKit
theorem run_next_at {P:Program} (w:World) (ty:TypeId) (r bm since c0:Nat) (seen:Array Nat) (es:Array MapEntry) (clock:Nat) (hr:w.heap[r]?=some (.mapIter (some bm) since seen c0)) (hb:w.heap[bm]?=some (.map es clock)) (hold:∀x∈es.toList,x.born<since) (hsc:since<=c0):
 ((leftOf es seen).size=0/\(Instr.next (.pointer (some ⟨r,0,none⟩)) false ty).run P w= .ok (.tuple #[.bool false]) w)\/
 ∃e∈(leftOf es seen).toList,∃d,(Instr.next (.pointer (some ⟨r,0,none⟩)) false ty).run P w= .ok (.tuple #[.bool true,e.key,e.val]) { w with heap:=w.heap.setIfInBounds r (.mapIter (some bm) since (seen.push e.born) clock),drawn:=d}:=by
 have g1:=Qk (P:=P) hr (by simp);have g2:=Qk (P:=P) hb (by simp);simp only [Instr.next,Sem.run_bind,g1,g2,Result.andThen_ok,next_test_false seen es since c0 hold hsc,Bool.false_eq_true,if_false];have hmem:∀x∈(leftOf es seen).toList,x.born<since:=λx hx=>hold x (mem_left hx).1
 unfold leftOf at hmem ⊢;generalize Array.filter (λe=>!seen.contains e.born) es=L at hmem ⊢;have e1:L.filter (λx=>decide (x.born<since))=L:=Array.filter_eq_self.2 (λx hx=>by simpa using hmem x (by simpa using hx));have e2:L.filter (λx=>decide (x.born>=since))=#[]:=by rw [Array.filter_eq_empty_iff];intro x hx;have:=hmem x (by simpa using hx);simp;omega
 simp only [e1,e2,Array.append_empty];by_cases h0:L.size=0;left;have:L=#[]:=Array.eq_empty_of_size_eq_zero h0
 subst this;refine ⟨rfl,?_⟩;simp [choose,Sem.run,Question.forced];right;have hne:L.isEmpty=false:=by simp [Array.isEmpty,h0]
 simp only [hne,Bool.false_eq_true,if_false,Array.empty_append,Array.size_map];have hch:∃(j:Nat) (d:Nat),j<L.size/\(choose (Question.mapNext L.size)).run P w= .ok j { w with drawn:=d}:=by by_cases hf:L.size<=1;exact ⟨0,w.drawn,by omega,by simp [choose,Sem.run,Question.forced,hf]⟩;exact ⟨_,w.drawn+1,Nat.mod_lt _ (by omega),by simp only [choose,Sem.run,Question.forced,decide_eq_true_eq,hf,if_false,Question.cut];rfl⟩
 obtain ⟨j,d,hj,hrun⟩:=hch;refine ⟨L[j],by simp,d,?_⟩;have g3:=Z6 (P:=P) (w:={ w with drawn:=d}) (o' := .mapIter (some bm) since (seen.push L[j].born) clock) hr (by simp);simp only [hrun,Array.getElem?_map,Array.getElem?_eq_getElem hj,Option.map_some,Sem.run_bind,Result.andThen_ok,g3];rfl
theorem run_entry_at {P:Program} (w:World) (r bm since:Nat) (seen:Array Nat) (es:Array MapEntry) (clock c0:Nat) (e:MapEntry) (hr:w.heap[r]?=some (.mapIter (some bm) since (seen.push e.born) c0)) (hb:w.heap[bm]?=some (.map es clock)) (he:e∈es.toList) (hn:(es.toList.map (·.born)).Nodup) (hc:c0=clock):
 (Instr.entry (.pointer (some ⟨r,0,none⟩))).run P w= .ok (.tuple #[e.key,e.val]) w:=by
 subst hc;have g1:=Qk (P:=P) hr (by simp);have g2:=Qk (P:=P) hb (by simp);have hf:es.find? (·.born==e.born)=some e:=by rw [<-Array.find?_toList];exact find_born e es.toList hn he
 simp only [Instr.entry,Sem.run_bind,g1,g2,Result.andThen_ok,Array.back?_push,bne_self_eq_false,Bool.false_eq_true,if_false,hf];rfl
end Go.Ax
namespace Go.Ax
open Go.RowKit
theorem Q59 {k:IntKind} {a b r:E} {O:Val} (h:E.arith .sub k a b=some r):r.den O=k.wrap (a.den O-b.den O):=by
 unfold E.arith at h;split at h<;>simp only [Option.some.injEq,reduceCtorEq,E.litS_eq,wrapK_eq] at h<;>subst h<;>first
  |rfl
  |(rw [E.Q44];rfl)
  |exact absurd ‹BinOp.sub=BinOp.add› (by decide)
  |exact absurd ‹BinOp.sub=BinOp.mul› (by decide)
noncomputable def Qi6 (x:AV×AV×Nat):Bool:=
 match x.1,x.2.1 with
 | .agg [.int .i64 _, .int .i64 _, .int .i64 _, .int .i64 _, .int .i64 _], .agg [.int .i64 _, .int .i64 _]=>true
 |_,_=>false
noncomputable def Qi1 (x:AV×AV×Nat):E:=
 match x.2.1 with
 | .agg [.int .i64 l,_]=>l
 |_=> .lit 0
noncomputable def Qav (c:Ctx) (now l:E):D Bool:=
 match E.cmp c .gtr now l with
 |some false=> .ok true
 |_=>match E.conv .u64 now,E.conv .u64 l with
  |some a,some b=>match E.arith .sub .u64 a b with
   |some d=>match E.cmp c .gtr d (.lit (.ofNat 400)) with
    |some false=> .ok true
    |some true=> .ok false
    |none=> .ask .gtr d (.lit (.ofNat 400))
   |none=> .ok false
  |_,_=> .ok false
noncomputable def Q05 (c:Ctx) (now:E):List (AV×AV×Nat)->D Bool
 |[]=> .ok true
 |x::l=>match Qav c now (Qi1 x) with
  | .ok true=>Q05 c now l
  |r=>r
def Q6j:List Nat->Bool
 |[]=>true
 |x::l=>!l.any (Nat.beq x)&&Q6j l
theorem yj:∀{l:List Nat},Q6j l=true->l.Nodup
 |[],_=>List.nodup_nil
 |x::l,h=>by simp only [Q6j,Bool.and_eq_true,Bool.not_eq_true'] at h;refine List.nodup_cons.2 ⟨λhx=>?_,yj h.2⟩;have:l.any (Nat.beq x)=true:=List.any_eq_true.2 ⟨x,hx,by simp⟩;rw [this] at h;cases h.1
theorem Q6z {n:Nat->Prop} {c:Ctx} {O:Val} {now l:E} (hc:c.okN n O) (h:Qav c now l= .ok true):
 (decide (now.den O>l.den O)&&decide (IntKind.u64.wrap (IntKind.u64.wrap (now.den O)-IntKind.u64.wrap (l.den O))>400))=false:=by
 unfold Qav at h;split at h;rename_i h1;have:=E.Qb rfl h1 hc;simp only [Yf] at this;rw [this];rfl;split at h;rename_i a b ha hb;split at h;rename_i d hd;split at h;rename_i h2;have t:=E.Qb rfl h2 hc;simp only [Yf,E.den] at t;rw [Q59 hd,<-E.JZ (O:=O) ha,<-E.JZ (O:=O) hb] at t;rw [Bool.and_eq_false_iff,decide_eq_false_iff_not,decide_eq_false_iff_not];exact .inr (of_decide_eq_false t)
 cases h;cases h;cases h;cases h
theorem qH {n:Nat->Prop} {c:Ctx} {O:Val} {now:E} (hc:c.okN n O):∀{l:List (AV×AV×Nat)},Q05 c now l= .ok true->∀x∈l,Qav c now (Qi1 x)= .ok true
 |[],_,x,hx=>by cases hx
 |y::l,h,x,hx=>by unfold Q05 at h;split at h;rename_i hy;rcases List.mem_cons.1 hx with rfl|hx;exact hy;exact qH hc h x hx;rename_i r hr;rw [h] at hr;exact absurd rfl (hr ·)
theorem Ji {X:Ext}:∀{xs:List (AV×AV×Nat)} {es:List MapEntry},Q9 X xs es->∀e∈es,∃x∈xs,x.1.rel X e.key/\x.2.1.rel X e.val/\e.born=x.2.2
 |[],es,h,e,he=>by simp only [Q9] at h;subst h;cases he
 |x::xs,es,⟨e',es',h1,h2,h3,h4,h5⟩,e,he=>by subst h1;rcases List.mem_cons.1 he with rfl|he;exact ⟨x,by simp,h2,h3,h4⟩;obtain ⟨y,hy,k⟩:=Ji h5 e he;exact ⟨y,by simp [hy],k⟩
theorem yC {X:Ext}:∀{xs:List (AV×AV×Nat)} {es:List MapEntry},Q9 X xs es->es.map (·.born)=xs.map (·.2.2)
 |[],es,h=>by simp only [Q9] at h;subst h;rfl
 |x::xs,es,⟨e',es',h1,h2,h3,h4,h5⟩=>by subst h1;simp only [List.map_cons,h4,yC h5]
noncomputable def Q1k:Sum:=λc H next as=>
 match as with
 |[.ptr F o, .int .i64 now]=>match H.get F with
  |some (.cells cs _ _ _ _)=>match cs[o+1]? with
   |some (.map m)=>match H.get m with
    |some (.map es clock)=>bif es.all Qi6&&(es.all (λx=>Nat.blt x.2.2 clock)&&Q6j (es.map (·.2.2))) then
     (match Q05 c now es with
     | .ok true=> .ok ⟨.tuple [],H,next,c⟩
     | .ask op a b=> .ask op a b
     |_=> .fail) else .fail
    |_=> .fail
   |_=> .fail
  |_=> .fail
 |_=> .fail
theorem Q73 {P:Program} {G:Env} {n0:Nat} {f:FuncId}
 (h:∀(F o mb:Nat) (now:Int) (es:Array MapEntry) (clock:Nat) (w:World),w.cell? ⟨F,o+1,none⟩=some (.map (some mb))->w.heap[mb]?=some (.map es clock)->(∀x∈es.toList,x.born<clock)->(es.toList.map (·.born)).Nodup->
  (∀x∈es.toList,∃a b c d e:Int,x.key= .agg #[.int .i64 a, .int .i64 b, .int .i64 c, .int .i64 d, .int .i64 e])->
  (∀x∈es.toList,∃l n:Int,x.val= .agg #[.int .i64 l, .int .i64 n]/\(decide (now>l)&&decide (IntKind.u64.wrap (IntKind.u64.wrap now-IntKind.u64.wrap l)>400))=false)->
  Calls P f #[.pointer (some ⟨F,o,none⟩), .int .i64 now] w λe w' =>e= .returned (.tuple #[])/\Below w.heap.size w w'):ZL P G n0 f Q1k:=by
 intro c X H next w args vs r hr hc hg hH h0 hfr hargs fr cs
 unfold Q1k at hr;split at hr;rename_i F o now;split at hr;rename_i cells el ex pl ro hF;split at hr;rename_i m hm;split at hr;rename_i es clock hes;cases hb:(es.all Qi6&&(es.all (λx=>Nat.blt x.2.2 clock)&&Q6j (es.map (·.2.2)))) with
 |false=>rw [hb] at hr;cases hr
 |true=>
  rw [hb] at hr;simp only [cond_true] at hr;split at hr;rename_i hfresh;cases hr;simp only [Bool.and_eq_true] at hb;obtain ⟨b1,b2,b3⟩:=hb;obtain ⟨u,vs',e1,g1,g2⟩:=Q8.1 hargs;obtain ⟨v,vs'',rfl,g3,g4⟩:=Q8.1 g2;have:=rels_nil.1 g4;subst this;simp only [AV.rel] at g1 g3;obtain ⟨p,hp,rfl⟩:=g1;obtain ⟨k2,rfl⟩:=g3;have hvs:vs=#[.pointer (some ⟨p.blk,p.base+o,none⟩), .int .i64 (now.den X.O)]:=by rw [<-Array.toList_inj];exact e1
  subst hvs;obtain ⟨vm,hcell,hvr⟩:=hH.cell (i:=o+1) hF hp hm;simp only [AV.rel] at hvr;obtain ⟨pm,hpm,rfl⟩:=hvr;obtain ⟨es',hmap,hrel⟩:=hH.obj _ _ pm hes hpm;have hcall:=h p.blk (p.base+o) pm.blk (now.den X.O) es' clock w (by rw [Nat.add_assoc];exact hcell) hmap
   (λx hx=>by obtain ⟨y,hy,-,-,hborn⟩:=Ji hrel x hx;rw [hborn];have:=List.all_eq_true.1 b2 y hy;simpa using this)
   (by rw [yC hrel];exact yj b3)
   (λx hx=>by obtain ⟨y,hy,hk,-,-⟩:=Ji hrel x hx;have:=List.all_eq_true.1 b1 y hy;unfold Qi6 at this;split at this;rename_i e1 e2 e3 e4 e5 f1 f2 q1 q2;rw [q1] at hk;simp only [AV.rel] at hk;obtain ⟨ws,hw1,hw2⟩:=hk;obtain ⟨v1,l1,r1,a1,hw2⟩:=Q8.1 hw2;obtain ⟨v2,l2,r2,a2,hw2⟩:=Q8.1 hw2;obtain ⟨v3,l3,r3,a3,hw2⟩:=Q8.1 hw2;obtain ⟨v4,l4,r4,a4,hw2⟩:=Q8.1 hw2;obtain ⟨v5,l5,r5,a5,hw2⟩:=Q8.1 hw2;have r6:=rels_nil.1 hw2;subst r6 r5 r4 r3 r2;simp only [AV.rel] at a1 a2 a3 a4 a5;refine ⟨e1.den X.O,e2.den X.O,e3.den X.O,e4.den X.O,e5.den X.O,?_⟩;rw [hw1];congr 1;rw [<-Array.toList_inj,r1,a1.2,a2.2,a3.2,a4.2,a5.2];cases this)
   (λx hx=>by
    obtain ⟨y,hy,-,hv,-⟩:=Ji hrel x hx;have hfl:=List.all_eq_true.1 b1 y hy;have hfr:=Q6z (O:=X.O) hc (qH hc hfresh y hy);unfold Qi6 at hfl;split at hfl;rename_i e1 e2 e3 e4 e5 f1 f2 q1 q2;have hl:Qi1 y=f1:=by unfold Qi1;rw [q2]
    rw [q2] at hv;simp only [AV.rel] at hv;obtain ⟨ws,hw1,hw2⟩:=hv;obtain ⟨v1,l1,r1,a1,hw2⟩:=Q8.1 hw2;obtain ⟨v2,l2,r2,a2,hw2⟩:=Q8.1 hw2;have r6:=rels_nil.1 hw2;subst r6 r2;simp only [AV.rel] at a1 a2;refine ⟨f1.den X.O,f2.den X.O,?_,by rw [<-hl];exact hfr⟩;rw [hw1];congr 1;rw [<-Array.toList_inj,r1,a1.2,a2.2];cases hfl)
  obtain ⟨u,w',⟨rfl,hB⟩,st⟩:=ZV (q:=λv w' =>v= .tuple #[]/\Below w.heap.size w w') (hcall.mono λe w' he=>⟨.tuple #[],he.1,rfl,he.2⟩) fr cs
  exact ⟨X, .tuple #[],w',st,Ext.le.refl X,Qw X,⟨λb o p ho hp=>by rw [hB.block _ (hH.lt _ _ hp)];exact hH.obj b o p ho hp,hH.inj,λb p hp=>Nat.lt_of_lt_of_le (hH.lt b p hp) hB.size,hH.own⟩,hB.mono h0,λb hb _=>⟨hb,rfl⟩,Nat.le_refl _,hfr,hc⟩
  cases hr;cases hr
 cases hr;cases hr;cases hr;cases hr
end Go.Ax
namespace Go.Ax
open Go.RowKit
structure Fr where
 fn:Nat
 nt:Nat
 cur:jk
 todo:List Qj
 tms:List AV
noncomputable def Fr.af (f:Fr):Qg:=⟨f.fn,f.nt,setArgs 0 f.tms (.sk f.nt),f.cur,f.todo,[],false,none⟩
structure StC where
 fr:Fr
 cs:List Fr
 l:List (Nat×Q7)
 next:Nat
 fs:List Fact
 vs:List Nat
noncomputable def StC.am (t:StC) (room:Nat):AM:=⟨t.fr.af,t.cs.map Fr.af,Q29 room t.l,t.next,⟨t.fs,t.vs⟩⟩
noncomputable def Qnw:jk->Bool
 | .draw ops done rest pa=>match rest,pa with
  |(i,_)::_,[]=>Nat.beq (Nat.land done (((Q56 ops 0 (.sk ops.length)).get i).getD 0)) done
  |_,_=>false
 |_=>true
theorem zY {ops:List Oper} {done:Nat} {rest:List (Nat×List Nat)} {pa:List (Nat×Nat)} (h:Qnw (.draw ops done rest pa)=true):∃i rc rest',rest=(i,rc)::rest' /\pa=[]/\Nat.land done (((Q56 ops 0 (.sk ops.length)).get i).getD 0)=done:=by
 cases rest with
 |nil=>simp [Qnw] at h
 |cons q r=>
  obtain ⟨i,rc⟩:=q;cases pa with
  |nil=>exact ⟨i,rc,r,rfl,rfl,Nat.eq_of_beq_eq_true h⟩
  |cons=>simp [Qnw] at h
noncomputable def frB (U:Sb) (vs:List Nat) (K:Nat->Bool) (a:Qg) (f:Fr):Bool:=!a.ret&&(Qb2 a.defers&&(Qkj a.ro&&(Qnw a.cur&&(a.todo.all Q2v&&(Q9f U vs K a.tm 0 f.tms&&Nat.beq f.tms.length a.nt)))))
noncomputable def Ql3 (U:Sb) (vs:List Nat) (K:Nat->Bool):List Qg->List Fr->Bool
 |[],[]=>true
 |a::as,f::fs=>frB U vs K a f&&Ql3 U vs K as fs
 |_,_=>false
section
variable {P:Program} {G:Env} {n0:Nat} {H H' :Tr Q7} {X X' :Ext} {U:Sb} {vs:List Nat} {K:Nat->Bool} {a:Qg} {t:Fr} {f:Frame}
theorem Qax (hk:frB U vs K a t=true) (h1:a.fn=t.fn) (h:jV P X a f):jV P X' t.af f:=by
 simp only [frB,Bool.and_eq_true,Bool.not_eq_true'] at hk;obtain ⟨b1,b2,b3,-⟩:=hk;have hdef:a.defers=[]:=by cases hh:a.defers with
  |nil=>rfl
  |cons a l=>rw [hh] at b2;cases b2
 have hro:a.ro=none:=by cases hh:a.ro with
  |none=>rfl
  |some a=>rw [hh] at b3;cases b3
 refine ⟨h.fn.trans h1,h.kind,?_,?_⟩;have:=h.ro;rw [hro] at this;exact this;have:=h.defers;rw [hdef] at this;exact this
theorem Q87.Ye (hc:Cast U vs K X X') (hk:frB U vs K a t=true) (b4:qE a.cur=true) (h1:a.fn=t.fn) (h2:a.nt=t.nt) (h3:a.cur=t.cur) (h4:a.todo=t.todo) (h:Q87 P G X n0 H a f):Q87 P G X' n0 H' t.af f/\Qm t.af=[]:=by
 have hb:=Qax (X' :=X') hk h1 h.1;simp only [frB,Bool.and_eq_true,Bool.not_eq_true',Nat.beq_eq] at hk;obtain ⟨b1,-,-,-,b5,b6,b7⟩:=hk;obtain ⟨-,h'⟩:=h;rw [b1] at h';obtain ⟨hm,is,his,hcur'⟩:=h';have htm:∀{tmps},QC X a.nt a.tm tmps->QC X' t.af.nt t.af.tm tmps:=λh=>by have:=QC.Ye hc h b6 b7;rw [h2] at this;exact this
 have hids:Qm t.af=[]:=by
  show Qm t.af=[];unfold Qm;show (match t.cur with| .draw _ _ _ pa=>pa.map (·.2)|_=>[])=[];rw [<-h3];cases hcc:a.cur with
  |draw ops done rest pa=>rw [hcc] at b4;cases b4
  |_=>rfl
 refine ⟨⟨hb,hm,is,?_,?_⟩,hids⟩;show Yj X' t.todo is;rw [<-h4];exact ZQ b5 his;show match t.cur with
  | .none=>_
  | .reg ops k rest=>_
  | .draw ops done rest pa=>_
 rw [<-h3];cases hcc:a.cur with
 |none=>rw [hcc] at hcur';exact ⟨hcur'.1,htm hcur'.2⟩
 |reg ops k rest=>rw [hcc] at hcur';exact ⟨hcur'.1,hcur'.2.1,htm hcur'.2.2⟩
 |draw ops done rest pa=>rw [hcc] at b4;cases b4
theorem Q2b.Ye (hc:Cast U vs K X X') (hk:frB U vs K a t=true) (h1:a.fn=t.fn) (h2:a.nt=t.nt) (h3:a.cur=t.cur) (h4:a.todo=t.todo) (h:Q2b P G X n0 H a f):Q2b P G X' n0 H' t.af f/\Qm t.af=[]:=by
 have hb:=Qax (X' :=X') hk h1 h.1;simp only [frB,Bool.and_eq_true,Bool.not_eq_true',Nat.beq_eq] at hk;obtain ⟨b1,-,-,b4,b5,b6,b7⟩:=hk;obtain ⟨-,-,hm,is,his,hcur'⟩:=h;have htm:∀{tmps},QC X a.nt a.tm tmps->QC X' t.af.nt t.af.tm tmps:=λh=>by have:=QC.Ye hc h b6 b7;rw [h2] at this;exact this
 have hids:Qm t.af=[]:=by
  unfold Qm;show (match t.cur with| .draw _ _ _ pa=>pa.map (·.2)|_=>[])=[];rw [<-h3];cases hcc:a.cur with
  |draw ops done rest pa=>rw [hcc] at b4;obtain ⟨-,-,-,-,rfl,-⟩:=zY b4;rfl
  |_=>rfl
 refine ⟨⟨hb,rfl,hm,is,?_,?_⟩,hids⟩;show Yj X' t.todo is;rw [<-h4];exact ZQ b5 his;show match t.cur with
  | .none=>_
  | .reg ops k rest=>_
  | .draw ops done rest pa=>_
 rw [<-h3];cases hcc:a.cur with
 |none=>rw [hcc] at hcur';exact ⟨hcur'.1,htm hcur'.2⟩
 |reg ops k rest=>rw [hcc] at hcur';exact ⟨hcur'.1,hcur'.2.1,hcur'.2.2.1,htm hcur'.2.2.2⟩
 |draw ops done rest pa=>
  rw [hcc] at hcur' b4;obtain ⟨A,fuel,tp,listed,i,rc,rest',o,g1,g2,g3,g4,g5,g6,g7,g8,D⟩:=hcur';subst g2;have hall:∀j,done.testBit j=true->Lst listed j:=λj hj=>by
   obtain ⟨i',rc',r',e,-,hl⟩:=zY b4;cases e;refine D.before g3 g8 ?_;have:(Nat.land done (((Q56 ops 0 (.sk ops.length)).get i).getD 0)).testBit j=true:=by rw [hl];exact hj
   change (done &&& _).testBit j=true at this
   rw [Nat.testBit_and,Bool.and_eq_true] at this;exact this.2
  have htm' :QC X' t.af.nt t.af.tm f.tmps:=htm ⟨D.tmr.1,λu=>D.tmr.2 u λj oj hj hl _=>absurd (hall j hj) hl⟩;exact ⟨A,fuel,tp,listed,i,rc,rest',o,g1,rfl,g3,g4,g5,g6,g7,g8,D.size,D.sub,D.closed,D.plan,D.light,D.looks,D.inRange,⟨htm'.1,λu _=>htm'.2 u⟩,λj oj hj hl _=>absurd (hall j hj) hl⟩
end
abbrev sk4 (a:Qg):Nat×Nat×jk×List Qj:=(a.fn,a.nt,a.cur,a.todo)
abbrev Fr.sk4 (a:Fr):Nat×Nat×jk×List Qj:=(a.fn,a.nt,a.cur,a.todo)
theorem Z0.Ye {P:Program} {G:Env} {n0:Nat} {H H' :Tr Q7} {X X' :Ext} {U:Sb} {vs:List Nat} {K:Nat->Bool} (hc:Cast U vs K X X'):∀{as:List Qg} {ts:List Fr} {cs:List Frame},Ql3 U vs K as ts=true->as.map sk4=ts.map Fr.sk4->Z0 P G X n0 H as cs->Z0 P G X' n0 H' (ts.map Fr.af) cs/\(ts.map Fr.af).flatMap Qm=[]
 |[],ts,cs,hk,e,h=>by
  cases ts with
  |nil=>exact ⟨h,rfl⟩
  |cons t ts=>simp [Ql3] at hk
 |a::as,ts,cs,hk,e,h=>by
  cases ts with
  |nil=>simp [Ql3] at hk
  |cons t ts=>simp only [Ql3,Bool.and_eq_true] at hk;simp only [List.map_cons,List.cons.injEq] at e;obtain ⟨e1,e2⟩:=e;simp only [sk4,Fr.sk4,Prod.mk.injEq] at e1;obtain ⟨f,fs,rfl,h1,h2⟩:=h;obtain ⟨k1,k2⟩:=Q2b.Ye (H' :=H') hc hk.1 e1.1 e1.2.1 e1.2.2.1 e1.2.2.2 h1;obtain ⟨k3,k4⟩:=Z0.Ye hc hk.2 e2 h2;refine ⟨⟨f,fs,rfl,k1,k3⟩,?_⟩;simp only [List.map_cons,List.flatMap_cons,k2,k4,List.append_nil]
theorem Sim.Qk8 {P:Program} {G:Env} {n0:Nat} {w0:World} {cs0:List Frame} {X:Ext} {s:AM} {m:Machine} {U:Sb} {K:Nat->Bool} {t:StC} {room:Nat} (h:Sim P G n0 w0 cs0 X s m)
 (hf:frB U t.vs K s.fr t.fr=true) (hnd:qE s.fr.cur=true) (hfs:Ql3 U t.vs K s.cs t.cs=true) (e0:sk4 s.fr=t.fr.sk4) (e1:s.cs.map sk4=t.cs.map Fr.sk4) (hH:Qjj U t.vs K s.H t.l=true)
 (hng:0<G.T.ng) (hKg:∀b,b<G.T.ng->K b=true) (hKn:∀b,t.next<=b->K b=false) (hvn:∀i∈t.vs,i<t.next) (hvd:∀i∈t.vs,K i=true->X.dom i)
 (hctx:(⟨t.fs,t.vs⟩:Ctx).okN (QW U t.vs K X).dom (QW U t.vs K X).O):Sim P G n0 w0 cs0 (QW U t.vs K X) (t.am room) m:=by
 obtain ⟨fr,cs,w,rfl,hF,hall,hHr,hB,h0⟩:=h.ex;obtain ⟨k0,hk0⟩:=h.Qo 0 hng;have hc:Cast U t.vs K X (QW U t.vs K X):=by refine ⟨λi hi=>⟨?_,by simp only [QW,if_pos hi],rfl⟩,λb hb=>by simp only [QW,if_pos hb]⟩;by_cases hk:K i=true;obtain ⟨p,hp⟩:=hvd i hi hk;exact ⟨p,by simp only [QW,if_pos hk,hp]⟩;exact ⟨_,by simp only [QW,if_neg hk,if_pos hi];exact hk0⟩
 have hlt:∀b p,(QW U t.vs K X).V b=some p->p.blk<w.heap.size:=λb p hp=>by simp only [QW] at hp;split at hp;exact hHr.lt b p hp;split at hp;exact hHr.lt 0 p hp;cases hp
 simp only [sk4,Fr.sk4,Prod.mk.injEq] at e0;obtain ⟨g1,g2⟩:=Q87.Ye (H' :=Q29 room t.l) hc hf hnd e0.1 e0.2.1 e0.2.2.1 e0.2.2.2 hF;obtain ⟨g3,g4⟩:=Z0.Ye (H' :=Q29 room t.l) hc hfs e1 hall;refine ⟨⟨fr,cs,w,rfl,g1,g3,Qq.Ye hHr hc hlt hH,hB,h0⟩,hctx,λg hg=>?_,λb hb=>?_,?_⟩;obtain ⟨n,hn⟩:=h.Qo g hg;exact ⟨n,by simp only [QW,if_pos (hKg g hg)];exact hn⟩;simp only [QW];have hb' :t.next<=b:=hb;rw [if_neg (by rw [hKn b hb'];simp),if_neg (λhm=>by have:=hvn b hm;omega)];have e:(t.am room).fr::(t.am room).cs=t.fr.af::t.cs.map Fr.af:=rfl
 rw [e,List.flatMap_cons,g2,g4];simp
def Qdz:Nat->List Qg->Bool
 |_,[]=>true
 |0,_::_=>false
 |L+1,_::l=>Qdz L l
noncomputable def Qks (L:Nat) (spec:Spec) (G:Env) (n:Nat) (s:AM):Jy:=Jy.rec (motive:=λ_=>Jy) (λs=>Bool.rec (motive:=λ_=>Jy) (.go s) (.stop s) (Qdz L s.cs)) (λs=> .stop s) (leaf spec G n s)
noncomputable def Qh7 (L:Nat) (spec:Spec) (G:Env) (n:Nat) (k:Nat):AM->Jy:=
 Nat.rec (motive:=λ_=>AM->Jy) (λs=>Qks L spec G n s)
  (λ_ ih s=>Jy.rec (motive:=λ_=>Jy) (λs=>ih s) (λs=> .stop s) (ih s)) k
theorem Qi0 {L:Nat} {spec:Spec} {G:Env} (hs:Zm G spec) (n:Nat) (s:AM):QX G s (Qks L spec G n s).state:=by
 have h:=Q0n hs n 0 s;have e:Qgj spec G n 0 s=leaf spec G n s:=rfl;rw [e] at h;unfold Qks;cases hl:leaf spec G n s with
 |stop t=>rw [hl] at h;exact h
 |go t=>rw [hl] at h;simp only;cases Qdz L t.cs<;>exact h
theorem Q4b {L:Nat} {spec:Spec} {G:Env} (hs:Zm G spec) (n:Nat):∀(k:Nat) (s:AM),QX G s (Qh7 L spec G n k s).state
 |0,s=>Qi0 hs n s
 |k+1,s=>by
  have h:=Q4b (L:=L) hs n k s;have e:Qh7 L spec G n (k+1) s=Jy.rec (motive:=λ_=>Jy) (λs=>Qh7 L spec G n k s) (λs=> .stop s) (Qh7 L spec G n k s):=rfl;rw [e];cases hr:Qh7 L spec G n k s with
  |stop t=>rw [hr] at h;exact h
  |go t=>rw [hr] at h;exact h.trans (Q4b hs n k t)
noncomputable def Qlu (L:Nat) (spec:Spec) (G:Env) (n k i:Nat):AM->AM:=
 Nat.rec (motive:=λ_=>AM->AM) (λs=>AM.rec (motive:=λ_=>AM) (λfr cs H nx c=>⟨fr,cs,H,nx,c⟩) (Qh7 L spec G n k s).state)
  (λ_ ih s=>AM.rec (motive:=λ_=>AM) (λfr cs H nx c=>ih ⟨fr,cs,H,nx,c⟩) (ih s)) i
theorem Q8n {L:Nat} {spec:Spec} {G:Env} (hs:Zm G spec) (n k:Nat):∀(i:Nat) (s:AM),QX G s (Qlu L spec G n k i s)
 |0,s=>by
  have h:=Q4b (L:=L) hs n k s;have e:Qlu L spec G n k 0 s=AM.rec (motive:=λ_=>AM) (λfr cs H nx c=>⟨fr,cs,H,nx,c⟩) (Qh7 L spec G n k s).state:=rfl
  rw [e];exact h
 |i+1,s=>by have h:=Q8n (L:=L) hs n k i s;have e:Qlu L spec G n k (i+1) s=AM.rec (motive:=λ_=>AM) (λfr cs H nx c=>Qlu L spec G n k i ⟨fr,cs,H,nx,c⟩) (Qlu L spec G n k i s):=rfl;rw [e];exact h.trans (Q8n hs n k i _)
noncomputable def Qe8 (L:Nat) (spec:Spec) (G:Env) (n k:Nat):List Nat->AM->AM
 |[],s=>s
 |i::l,s=>AM.rec (motive:=λ_=>AM) (λfr cs H nx c=>Qe8 L spec G n k l ⟨fr,cs,H,nx,c⟩) (Qlu L spec G n k i s)
theorem Q4c {L:Nat} {spec:Spec} {G:Env} (hs:Zm G spec) (n k:Nat):∀(l:List Nat) (s:AM),QX G s (Qe8 L spec G n k l s)
 |[],s=> .refl s
 |i::l,s=>(Q8n hs n k i s).trans (Q4c hs n k l _)
noncomputable def Qkx (U:Sb) (keep:List Nat) (ng:Nat) (t:StC) (s:AM):Bool:=
 qE s.fr.cur&&(frB U t.vs (QK ng keep) s.fr t.fr&&(Ql3 U t.vs (QK ng keep) s.cs t.cs&&(Qjj U t.vs (QK ng keep) s.H t.l&&(Qcz U t.vs s.ctx t.fs&&
  (Nat.ble ng t.next&&(keep.all (λb=>Nat.blt b t.next)&&(t.vs.all (λi=>Nat.blt i t.next)&&t.vs.all (λi=>!QK ng keep i||s.ctx.vs.any (Nat.beq i)))))))))
def Qm8 (L:Nat) (spec:Spec) (G:Env) (n k:Nat) (s:AM) (j:List Nat) (U:Sb) (keep:List Nat) (t:StC):Prop:=(AM.rec (motive:=λ_=>(Nat×Nat×jk×List Qj)×List (Nat×Nat×jk×List Qj)×Bool) (λfr cs H nx c=>(sk4 fr,cs.map sk4,Qkx U keep G.T.ng t ⟨fr,cs,H,nx,c⟩)) (Qe8 L spec G n k j s))=(t.fr.sk4,t.cs.map Fr.sk4,true)
section
variable {P:Program} {G:Env} {n0:Nat} {w0:World} {cs0:List Frame}
theorem Qi5 {X:Ext} {s:AM} {m:Machine} {U:Sb} {keep:List Nat} {t:StC} {room:Nat} (h:Sim P G n0 w0 cs0 X s m) (hng:0<G.T.ng) (h1:sk4 s.fr=t.fr.sk4) (h2:s.cs.map sk4=t.cs.map Fr.sk4) (hb:Qkx U keep G.T.ng t s=true):
 Sim P G n0 w0 cs0 (QW U t.vs (QK G.T.ng keep) X) (t.am room) m:=by
 simp only [Qkx,Bool.and_eq_true,List.all_eq_true,Nat.ble_eq,Nat.blt_eq,Bool.or_eq_true,Bool.not_eq_true'] at hb;obtain ⟨b6,b7,b8,b9,b10,b11,b12,b13,b14⟩:=hb;have hKn:∀b,t.next<=b->QK G.T.ng keep b=false:=λb hb=>by
  unfold QK;rw [Bool.or_eq_false_iff];refine ⟨?_,?_⟩;cases hh:Nat.blt b G.T.ng with
  |false=>rfl
  |true=>rw [Nat.blt_eq] at hh;omega
  rw [List.any_eq_false];intro c hc he;have:b=c:=by simpa using he
  subst this;have:=b12 b hc;omega
 have hvd:∀i∈t.vs,QK G.T.ng keep i=true->X.dom i:=λi hi hk=>by rcases b14 i hi with h' |h';rw [hk] at h';cases h';exact h.ctx.1 i (any_beq h')
 obtain ⟨k0,hk0⟩:=h.Qo 0 hng;have hC:Cast U t.vs (QK G.T.ng keep) X (QW U t.vs (QK G.T.ng keep) X):=by refine ⟨λi hi=>⟨?_,by simp only [QW,if_pos hi],rfl⟩,λb hb=>by simp only [QW,if_pos hb]⟩;by_cases hk:QK G.T.ng keep i=true;obtain ⟨p,hp⟩:=hvd i hi hk;exact ⟨p,by simp only [QW,if_pos hk,hp]⟩;exact ⟨_,by simp only [QW,if_neg hk,if_pos hi];exact hk0⟩
 exact Sim.Qk8 h b7 b6 b8 h1 h2 b9 hng (λb hb=>by unfold QK;rw [show Nat.blt b G.T.ng=true from by rw [Nat.blt_eq];exact hb];rfl) hKn b13 hvd (Jj hC h.ctx b10)
theorem Qm8.sim (hT:G.T.OK P) (hI:YL.OK P G.I) (hS:ZE P G n0) (hng:0<G.T.ng) {L:Nat} {X:Ext} {s:AM} {m:Machine} {n k room:Nat} {j:List Nat} {U:Sb} {keep:List Nat} {t:StC} (hh:Qm8 L Q0i G n k s j U keep t) (h:Sim P G n0 w0 cs0 X s m):
 ∃Y m',Steps P m m' /\X.le Y/\Sim P G n0 w0 cs0 (QW U t.vs (QK G.T.ng keep) Y) (t.am room) m' :=by
 obtain ⟨Y,m',st,hle,h1⟩:=Ze hT hI hS (Q4c (L:=L) JX n k j s) h;refine ⟨Y,m',st,hle,?_⟩;unfold Qm8 at hh;generalize Qe8 L Q0i G n k j s=s1 at hh h1;obtain ⟨fr,cs,H,nx,c⟩:=s1;simp only [Prod.mk.injEq] at hh;exact Qi5 h1 hng (by simp only [sk4,Fr.sk4,Prod.mk.injEq];exact hh.1) hh.2.1 hh.2.2
theorem Qm8.ends (hT:G.T.OK P) (hI:YL.OK P G.I) (hS:ZE P G n0) (hng:0<G.T.ng) {L:Nat} {f:FuncId} {s:AM} {n k room:Nat} {j:List Nat} {U:Sb} {keep:List Nat} {t:StC} (hh:Qm8 L Q0i G n k s j U keep t)
 (he:∀X m,Sim P G n0 w0 cs0 X (t.am room) m->Qp P n0 w0 cs0 f m) {X:Ext} {m:Machine} (h:Sim P G n0 w0 cs0 X s m):Qp P n0 w0 cs0 f m:=by
 obtain ⟨Y,m',st,-,hs⟩:=Qm8.sim hT hI hS hng hh h;exact .of_steps st (he _ _ hs)
end
end Go.Ax
namespace Go.Ax
open Go.RowKit
noncomputable def Q2i (r:Nat):Nat:=bif Nat.beq (Nat.mod r 2) 1 then Nat.xor (Nat.div r 2) 3988292384 else Nat.div r 2
theorem Qie (r:Nat):Q2i r=ZN r:=by
 unfold Q2i ZN;cases h:Nat.beq (Nat.mod r 2) 1 with
 |true=>rw [if_pos (show r%2=1 from Nat.eq_of_beq_eq_true h)];rfl
 |false=>rw [if_neg (λe=>by rw [show Nat.mod r 2=r%2 from rfl,e] at h;cases h)];rfl
noncomputable def crc8 {β:Type} (r:Nat) (k:Nat->β):β:=QG (Q2i r) λr=>QG (Q2i r) λr=>QG (Q2i r) λr=>QG (Q2i r) λr=>QG (Q2i r) λr=>QG (Q2i r) λr=>QG (Q2i r) λr=>QG (Q2i r) k
theorem Qld {β:Type} (r:Nat) (k:Nat->β):crc8 r k=k (Nat.repeat ZN 8 r):=by simp only [crc8,sNat_eq,Qie,Nat.repeat]
noncomputable def crcE:List E->Nat->Option Nat
 |[],r=>some r
 | .lit (.ofNat b)::l,r=>crc8 (Nat.xor r (Nat.mod b 256)) λr=>crcE l r
 |_::_,_=>none
theorem Q3i {O:Val}:∀{l:List E} {r m:Nat},crcE l r=some m->(S.bytes O l).foldl Zo r=m
 |[],r,m,h=>by cases h;rfl
 |e::l,r,m,h=>by unfold crcE at h;split at h;rename_i h1;cases h1;rename_i b l' r' h1;cases h1;rw [Qld] at h;rw [<-Q3i (O:=O) h];simp only [S.bytes,List.map_cons,List.foldl_cons,Zo,E.den];congr 2;cases h
noncomputable def ckE:List E->Nat->Option Nat
 |[],n=>some n
 |[.lit (.ofNat a)],n=>QG (Nat.add n (Nat.mul (Nat.mod a 256) 256)) some
 | .lit (.ofNat a):: .lit (.ofNat b)::l,n=>QG (Nat.add n (Nat.add (Nat.mul (Nat.mod a 256) 256) (Nat.mod b 256))) λn=>ckE l n
 |_,_=>none
theorem Q7c {O:Val}:∀{l:List E} {n m:Nat},ckE l n=some m->n+qw (S.bytes O l)=m
 |l,n,m,h=>by unfold ckE at h;split at h;cases h;simp [S.bytes,qw];rename_i a;simp only [sNat_eq,Option.some.injEq] at h;subst h;simp only [S.bytes,List.map_cons,List.map_nil,qw,E.den,Int.ofNat_eq_natCast,Int.toNat_natCast,UInt8.toNat_ofNat'];rfl;rename_i a b l';rw [sNat_eq] at h;have:=Q7c (O:=O) h;simp only [S.bytes,List.map_cons,qw,E.den,Int.ofNat_eq_natCast,Int.toNat_natCast,UInt8.toNat_ofNat'] at this ⊢;rw [<-this];show n+(a%256*256+b%256+_)=n+(a%256*256+b%256)+_;omega;cases h
noncomputable def Qhu (k:Nat) (s:List E):Option Nat:=
 match k with
 |0=>match crcE s 4294967295 with
  |some r=>QG (Nat.mod (Nat.xor r 4294967295) 4294967296) some
  |none=>none
 |2=>none
 |_=>match ckE s 0 with
  |some n=>QG (Nat.mod (Nat.sub 65535 (qx n n)) 65536) some
  |none=>none
theorem Q8x {O:Val} {k:Nat} {s:List E} {m:Nat} (h:Qhu k s=some m):fnZ k (YG (S.bytes O s) 1)=m:=by
 unfold Qhu at h;split at h;split at h;rename_i r hr;simp only [sNat_eq,Option.some.injEq] at h;subst h;show ((Qid (Q86 (YG (S.bytes O s) 1).toNat (YG (S.bytes O s) 1).toNat)%4294967296:Nat):Int)=_;rw [YH];unfold Qid;rw [Q3i hr];rfl;cases h;cases h;rename_i k0 h0 h2;split at h;rename_i n hn;simp only [sNat_eq,Option.some.injEq] at h;subst h;have e:∀z,fnZ k z=((Qil (Q86 z.toNat z.toNat)%65536:Nat):Int):=by
  intro z;match k,h0,h2 with
  |0,h0,_=>exact absurd rfl h0
  |1,_,_=>rfl
  |2,_,h2=>exact absurd rfl h2
  |k+3,_,_=>rfl
 rw [e,YH];unfold Qil;have:=Q7c (O:=O) hn;rw [Nat.zero_add] at this;rw [this];rfl;cases h
noncomputable def Qaz (k:Nat):Sum:=λc H next as=>
 match as with
 |[.str s]=>bif Nat.ble s.length 1099511627776 then (match Qhu k s with
  |some m=>QG m λm=> .ok ⟨.int .i64 (.lit (.ofNat m)),H,next,c⟩
  |none=>sE (Q8f s) λt=> .ok ⟨.int .i64 (.fn k t),H,next,c⟩) else .fail
 |_=> .fail
theorem Qff {P:Program} {G:Env} {n0:Nat} {f:FuncId} {k:Nat}
 (h:∀(s:ByteArray) (w:World),s.size<=1099511627776->Calls P f #[.string s] w λe w' =>e= .returned (.int .i64 (fnZ k (YG s.data.toList 1)))/\Below w.heap.size w w'):ZL P G n0 f (Qaz k):=by
 refine Y1 λc X H next w args vs r hr hc hargs=>?_
 unfold Qaz at hr;split at hr;rename_i s;cases hb:Nat.ble s.length 1099511627776 with
 |false=>rw [hb] at hr;cases hr
 |true=>
  rw [hb] at hr;obtain ⟨u,vs',e1,h1,h2⟩:=Q8.1 hargs;have:=rels_nil.1 h2;subst this;simp only [AV.rel] at h1;obtain ⟨k1,rfl⟩:=h1;have hvs:vs=#[.string ⟨(S.bytes X.O s).toArray⟩]:=by rw [<-Array.toList_inj];exact e1
  subst hvs;have hcall:=h ⟨(S.bytes X.O s).toArray⟩ w (by show (S.bytes X.O s).toArray.size<=_;simp only [List.size_toArray,S.bytes,List.length_map];simpa using hb);simp only [cond_true] at hr;cases hl:Qhu k s with
  |some m=>rw [hl] at hr;simp only [sNat_eq] at hr;cases hr;refine ⟨rfl,rfl,rfl, .int .i64 (m:Int),?_,?_⟩;simp only [AV.rel];exact ⟨trivial,rfl⟩;rw [<-Q8x (O:=X.O) hl];exact hcall
  |none=>rw [hl] at hr;simp only [sE_eq] at hr;cases hr;refine ⟨rfl,rfl,rfl, .int .i64 ((E.fn k (Q8f s)).den X.O),?_,?_⟩;simp only [AV.rel];exact ⟨Q9y λt ht=>(k1 t ht).1,trivial⟩;simp only [E.den,Q5w];exact hcall
 cases hr
end Go.Ax
namespace Go.Ax
open Go.RowKit
theorem ZL.or {P:Program} {G:Env} {n0:Nat} {f:FuncId} {S S' :Sum} (h:ZL P G n0 f S) (h' :ZL P G n0 f S') {T:Sum} (hT:∀c H next as r,T c H next as= .ok r->S c H next as= .ok r\/S' c H next as= .ok r):ZL P G n0 f T:=by
 intro c X H next w args vs r hr
 rcases hT _ _ _ _ _ hr with e|e
 . exact h c X H next w args vs r e
 exact h' c X H next w args vs r e
noncomputable def Qfe (k:Nat):Sum:=λc H next as=>
 match as with
 |[.sstr s]=>match s.pcs with
  |some p=>bif s.small c then sE (yJ (norm p)) λt=> .ok ⟨.int .i64 (.fn k t),H,next,c⟩ else .fail
  |none=> .fail
 |_=> .fail
noncomputable def Qay (k:Nat):Sum:=λc H next as=>
 match as with
 |[.sstr s]=>Qfe k c H next [.sstr s]
 |as=>Qaz k c H next as
theorem Q72 {P:Program} {G:Env} {n0:Nat} {f:FuncId} {k:Nat}
 (h:∀(s:ByteArray) (w:World),s.size<=1099511627776->Calls P f #[.string s] w λe w' =>e= .returned (.int .i64 (fnZ k (YG s.data.toList 1)))/\Below w.heap.size w w'):ZL P G n0 f (Qay k):=by
 refine ZL.or (S:=Qfe k) (S' :=Qaz k) ?_ (Qff h) λc H next as r hr=>?_
 . refine Y1 λc X H next w args vs r hr hc hargs=>?_
   unfold Qfe at hr;split at hr;rename_i s;split at hr;rename_i p hp;cases hb:s.small c with
   |false=>rw [hb] at hr;cases hr
   |true=>
    rw [hb] at hr;simp only [cond_true,sE_eq] at hr;cases hr;obtain ⟨u,vs',e1,h1,h2⟩:=Q8.1 hargs;have:=rels_nil.1 h2;subst this;simp only [AV.rel] at h1;obtain ⟨k1,k2,rfl⟩:=h1;have hvs:vs=#[.string ⟨(s.den X.O).toArray⟩]:=by rw [<-Array.toList_inj];exact e1
    subst hvs;have hl:=ST.ZO hb hc k2;obtain ⟨p1,p2⟩:=ST.Y4 (O:=X.O) hp k1;refine ⟨rfl,rfl,rfl, .int .i64 ((E.fn k (yJ (norm p))).den X.O),?_,?_⟩;simp only [AV.rel];exact ⟨Q43 (Q4i p1),trivial⟩;have:=h ⟨(s.den X.O).toArray⟩ w (by show (s.den X.O).toArray.size<=_;simp only [List.size_toArray];omega);simp only [E.den,zx,Yi,p2];exact this
   cases hr;cases hr
 unfold Qay at hr;split at hr;exact .inl hr
 exact .inr hr
noncomputable def Q95 (b:Nat):Sum:=λc H next as=>
 match as with
 |[.sstr s, .int .i64 a, .int .i64 (.lit (.ofNat k))]=>bif Nat.ble 1 k&&Nat.ble k 4&&s.small c then
  match s.pcs with
  |some p=>bif p.all (Pc.good c) then
   match Q6o c p with
   |some L=>match E.plus c L (-(.ofNat k)) with
    |some M=>match E.cmp c .lss a (.lit 0) with
     |some false=>match E.cmp c .gtr a M with
      |some true=>match E.cmp c .leq a (.lit 1099511627776) with
       |some true=> .ok ⟨.tuple [.int .i64 (.lit (.ofNat 0)), .int .i64 (.lit (.ofNat b))],H,next,c⟩
       |_=> .fail
      |some false=>match Qgm c a p with
       |some (_,g)=>match norm g with
        | .b m::_=>bif Nat.ble k m.length&&(m.take k).all E.isByte then
         (match getE c (m.take k) with
         |some e=> .ok ⟨.tuple [.int .i64 e, .int .i64 (.lit (.ofNat 0))],H,next,c⟩
         |none=> .fail) else .fail
        |_=> .fail
       |none=> .fail
      |none=> .ask .gtr a M
     |_=> .fail
    |none=> .fail
   |none=> .fail
   else .fail
  |none=> .fail
  else .fail
 |_=> .fail
noncomputable def Q1g (b:Nat):Sum:=λc H next as=>
 match as with
 | .sstr s::r=>Q95 b c H next (.sstr s::r)
 |as=>Qau b c H next as
theorem Q3a {P:Program} {G:Env} {n0:Nat} {f:FuncId} {b:Nat}
 (h1:∀(s:ByteArray) (i k:Nat) (w:World),1<=k->k<=4->s.size<=1099511627776->i+k<=s.size->Calls P f #[.string s, .int .i64 i, .int .i64 k] w λe w' =>e= .returned (.tuple #[.int .i64 (qD ((s.data.toList.drop i).take k)), .int .i64 0])/\Below w.heap.size w w')
 (h2:∀(s:ByteArray) (i k:Nat) (w:World),1<=k->k<=4->s.size<=1099511627776->i<=1099511627776->s.size<i+k->Calls P f #[.string s, .int .i64 i, .int .i64 k] w λe w' =>e= .returned (.tuple #[.int .i64 0, .int .i64 b])/\Below w.heap.size w w'):ZL P G n0 f (Q1g b):=by
 refine ZL.or (S:=Q95 b) (S' :=Qau b) ?_ (Qf9 h1 h2) λc H next as r hr=>?_
 . refine Y1 λc X H next w args vs r hr hc hargs=>?_
   unfold Q95 at hr;split at hr;rename_i s a k;cases hb:(Nat.ble 1 k&&Nat.ble k 4&&s.small c) with
   |false=>rw [hb] at hr;cases hr
   |true=>
    rw [hb] at hr;simp only [Bool.and_eq_true,Nat.ble_eq] at hb;simp only [cond_true] at hr;obtain ⟨u,vs',e1,g1,g2⟩:=Q8.1 hargs;obtain ⟨v,vs'',rfl,g3,g4⟩:=Q8.1 g2;obtain ⟨v2,vs3,rfl,g5,g6⟩:=Q8.1 g4;have:=rels_nil.1 g6;subst this;simp only [AV.rel] at g1 g3 g5;obtain ⟨k1,k2,rfl⟩:=g1;obtain ⟨ka,rfl⟩:=g3;obtain ⟨-,rfl⟩:=g5;have hl:=ST.ZO hb.2 hc k2;have hvs:vs=#[.string ⟨(s.den X.O).toArray⟩, .int .i64 (a.den X.O), .int .i64 k]:=by rw [<-Array.toList_inj];exact e1
    subst hvs;have hsz:(⟨(s.den X.O).toArray⟩:ByteArray).size=(s.den X.O).length:=by
     show (s.den X.O).toArray.size=_
     simp
    split at hr;rename_i p hp;obtain ⟨p1,p2⟩:=ST.Y4 (O:=X.O) hp k1;cases hg:p.all (Pc.good c) with
    |false=>rw [hg] at hr;cases hr
    |true=>
     rw [hg] at hr;simp only [cond_true] at hr;split at hr;rename_i L hL;obtain ⟨L1,L2⟩:=Yv hc hL p1 (all_good hc hg);split at hr;rename_i M hM;obtain ⟨M1,M2⟩:=E.Z7 hM hc L1;rw [L2,p2] at M2;split at hr;rename_i hz;have z0:¬(a.den X.O<0):=of_decide_eq_false (E.Qb rfl hz hc);obtain ⟨i,hi⟩:∃i:Nat,a.den X.O=i:=⟨(a.den X.O).toNat,by omega⟩;rw [hi];split at hr;rename_i hgt;have z1:=E.Qb rfl hgt hc;simp only [Yf,decide_eq_true_eq] at z1;split at hr;rename_i hbig;have z2:a.den X.O<=1099511627776:=of_decide_eq_true (E.Qb rfl hbig hc);cases hr;simp only [Int.ofNat_eq_natCast] at M2;refine ⟨rfl,rfl,rfl,_,?_,h2 _ i k w hb.1.1 hb.1.2 (by rw [hsz];omega) (by omega) (by rw [hsz];omega)⟩;simp only [AV.rel];refine ⟨_,rfl,?_⟩;simp only [rels_cons_cons,rels_nil,AV.rel];exact ⟨⟨trivial,rfl⟩,⟨trivial,rfl⟩,trivial⟩;cases hr;rename_i hgt;have z1:=E.Qb rfl hgt hc;simp only [Yf,decide_eq_false_iff_not] at z1;simp only [Int.ofNat_eq_natCast] at M2;split at hr;rename_i f0 g hcut;obtain ⟨a1,a2,a3,a4,a5,a6⟩:=Yn hc hcut ka p1 (all_good hc hg);split at hr;rename_i m g' hn;cases hk:(Nat.ble k m.length&&(m.take k).all E.isByte) with
     |false=>rw [hk] at hr;cases hr
     |true=>
      rw [hk] at hr;simp only [Bool.and_eq_true,Nat.ble_eq] at hk;simp only [cond_true] at hr;split at hr;rename_i e he;cases hr;have hok:=Q4i a2;rw [hn] at hok;have hm:(Pc.b m).ok X.dom:=hok _ (by simp)
      have hkk:S.okN X.dom X.O (m.take k):=λt ht=>⟨hm t (List.mem_of_mem_take ht),E.Y6 (List.all_eq_true.1 hk.2 t ht) _⟩
      obtain ⟨q1,q2⟩:=Q3b he (by simp only [List.length_take];omega) hkk hc;refine ⟨rfl,rfl,rfl,_,?_,h1 _ i k w hb.1.1 hb.1.2 (by rw [hsz];omega) (by rw [hsz];omega)⟩;simp only [AV.rel];refine ⟨_,rfl,?_⟩;simp only [rels_cons_cons,rels_nil,AV.rel];refine ⟨⟨q1,?_⟩,⟨trivial,rfl⟩,trivial⟩;rw [q2];have hgd:=Yi (O:=X.O) g;rw [hn,Qa] at hgd;have e2:(s.den X.O).drop i=Jt X.O g:=by
       rw [<-p2,a5];have:i=(Jt X.O f0).length:=by omega
       rw [this,List.drop_left]
      rw [e2,<-hgd];simp only [Pc.den];rw [List.take_append_of_le_length (by simp [S.bytes];omega)];simp [S.bytes,List.map_take];cases hr
     cases hr;cases hr;cases hr;cases hr;cases hr;cases hr
    cases hr
   cases hr
 unfold Q1g at hr;split at hr;exact .inl hr
 exact .inr hr
end Go.Ax
namespace Go.Ax
open Go.RowKit
section
variable {P:Program} {G:Env} {n0:Nat} {w0:World} {cs0:List Frame}
end
end Go.Ax
namespace Go.Ax
open Go.RowKit
def Q85:List (Nat×Nat)->Nat->Nat
 |[],b=>b
 |p::l,b=>bif Nat.beq p.1 b then p.2 else Q85 l b
theorem Qa9 {n:Nat}:∀{l:List (Nat×Nat)},l.all (λp=>Nat.ble n p.1)=true->∀{b:Nat},b<n->Q85 l b=b
 |[],_,_,_=>rfl
 |p::l,h,b,hb=>by simp only [List.all_cons,Bool.and_eq_true,Nat.ble_eq] at h;simp only [Q85];rw [show Nat.beq p.1 b=false from by rw [Bool.eq_false_iff];intro e;rw [Nat.beq_eq] at e;omega];exact Qa9 h.2 hb
structure Yz (U:Sb) (vs:List Nat) (K:Nat->Bool) (π:Nat->Nat) (X X' :Ext):Prop where
 letters:∀i∈vs,X'.dom i/\X'.O.int i=(U.at i).den X.O/\X'.O.str i=X.O.str i
 kept:∀b,K b=true->X'.V b=X.V (π b)
theorem Yz.cast {U:Sb} {vs:List Nat} {K:Nat->Bool} {π:Nat->Nat} {X X' :Ext} (h:Yz U vs K π X X'):Cast U vs (λ_=>false) X X' :=⟨h.letters,λ_ h=>by cases h⟩
mutual
noncomputable def rkA (U:Sb) (vs:List Nat) (K:Nat->Bool) (π:Nat->Nat) (a a' :AV):Bool:=
 match a with
 | .ptr b o=>match a' with
  | .ptr b' o' =>Nat.beq b (π b')&&(Nat.beq o o' &&K b')
  |a' =>J3 U vs (λ_=>false) (.ptr b o) a'
 | .slice b o n c s x=>match a' with
  | .slice b' o' n' c' s' x' =>Nat.beq b (π b')&&(Nat.beq o o' &&(Nat.beq n n' &&(Nat.beq c c' &&(Nat.beq s s' &&(x==x' &&K b')))))
  |a' =>J3 U vs (λ_=>false) (.slice b o n c s x) a'
 | .map r=>match a' with
  | .map r' =>Nat.beq r (π r')&&K r'
  |a' =>J3 U vs (λ_=>false) (.map r) a'
 | .wslice b o n s l=>match a' with
  | .wslice b' o' n' s' l' =>Nat.beq b (π b')&&(Nat.beq o o' &&(Nat.beq n n' &&(Nat.beq s s' &&(K b' &&Qio U vs (.var l) (.var l')))))
  |a' =>J3 U vs (λ_=>false) (.wslice b o n s l) a'
 | .func f x c=>match a' with
  | .func f' x' c' =>Nat.beq f f' &&(rkL U vs K π x x' &&rkL U vs K π c c')
  |a' =>J3 U vs (λ_=>false) (.func f x c) a'
 | .iface t x=>match a' with
  | .iface t' x' =>Nat.beq t t' &&rkA U vs K π x x'
  |a' =>J3 U vs (λ_=>false) (.iface t x) a'
 | .yield b=>match a' with
  | .yield b' =>Nat.beq b (π b')&&K b'
  |a' =>J3 U vs (λ_=>false) (.yield b) a'
 | .agg l=>match a' with
  | .agg l' =>rkL U vs K π l l'
  |a' =>J3 U vs (λ_=>false) (.agg l) a'
 | .tuple l=>match a' with
  | .tuple l' =>rkL U vs K π l l'
  |a' =>J3 U vs (λ_=>false) (.tuple l) a'
 |a=>J3 U vs (λ_=>false) a a'
noncomputable def rkL (U:Sb) (vs:List Nat) (K:Nat->Bool) (π:Nat->Nat) (l l' :List AV):Bool:=
 match l with
 |[]=>match l' with
  |[]=>true
  |_=>false
 |a::l=>match l' with
  |[]=>false
  |a' ::l' =>rkA U vs K π a a' &&rkL U vs K π l l'
end
section
variable {U:Sb} {vs:List Nat} {K:Nat->Bool} {π:Nat->Nat} {X X' :Ext}
mutual
theorem Y3 (hc:Yz U vs K π X X'):∀{a a' :AV} {v:Value},rkA U vs K π a a' =true->a.rel X v->a'.rel X' v
 | .ptr b o,a',v,h,r=>by cases a' <;>simp only [rkA] at h<;>(try exact Qn hc.cast h r);simp only [Bool.and_eq_true,Nat.beq_eq] at h;obtain ⟨rfl,rfl,hk⟩:=h;simp only [AV.rel] at r ⊢;rw [hc.kept _ hk];exact r
 | .slice b o n c s x,a',v,h,r=>by cases a' <;>simp only [rkA] at h<;>(try exact Qn hc.cast h r);simp only [Bool.and_eq_true,Nat.beq_eq,beq_iff_eq] at h;obtain ⟨rfl,rfl,rfl,rfl,rfl,rfl,hk⟩:=h;simp only [AV.rel] at r ⊢;rw [hc.kept _ hk];exact r
 | .map q,a',v,h,r=>by cases a' <;>simp only [rkA] at h<;>(try exact Qn hc.cast h r);simp only [Bool.and_eq_true,Nat.beq_eq] at h;obtain ⟨rfl,hk⟩:=h;simp only [AV.rel] at r ⊢;rw [hc.kept _ hk];exact r
 | .wslice b o n s l,a',v,h,r=>by cases a' <;>simp only [rkA] at h<;>(try exact Qn hc.cast h r);simp only [Bool.and_eq_true,Nat.beq_eq] at h;obtain ⟨rfl,rfl,rfl,rfl,hk,hl⟩:=h;simp only [AV.rel] at r ⊢;rw [hc.kept _ hk];obtain ⟨p,len,c,h1,h2,h3,h4,h5,h6,h7⟩:=r;obtain ⟨k1,k2⟩:=ZU hc.cast hl;exact ⟨p,len,c,h1,h2,h3,h4,h5,k1,k2.symm.trans h7⟩
 | .func f a c,a',v,h,r=>by cases a' <;>simp only [rkA] at h<;>(try exact Qn hc.cast h r);simp only [Bool.and_eq_true,Nat.beq_eq] at h;obtain ⟨rfl,h1,h2⟩:=h;simp only [AV.rel] at r ⊢;obtain ⟨x,y,e,r1,r2⟩:=r;exact ⟨x,y,e,JC hc h1 r1,JC hc h2 r2⟩
 | .iface t a,a',v,h,r=>by cases a' <;>simp only [rkA] at h<;>(try exact Qn hc.cast h r);simp only [Bool.and_eq_true,Nat.beq_eq] at h;obtain ⟨rfl,h1⟩:=h;simp only [AV.rel] at r ⊢;obtain ⟨u,e,r1⟩:=r;exact ⟨u,e,Y3 hc h1 r1⟩
 | .agg l,a',v,h,r=>by cases a' <;>simp only [rkA] at h<;>(try exact Qn hc.cast h r);simp only [AV.rel] at r ⊢;obtain ⟨u,e,r1⟩:=r;exact ⟨u,e,JC hc h r1⟩
 | .tuple l,a',v,h,r=>by cases a' <;>simp only [rkA] at h<;>(try exact Qn hc.cast h r);simp only [AV.rel] at r ⊢;obtain ⟨u,e,r1⟩:=r;exact ⟨u,e,JC hc h r1⟩
 | .yield b,a',v,h,r=>by cases a' <;>simp only [rkA] at h<;>(try exact Qn hc.cast h r);simp only [Bool.and_eq_true,Nat.beq_eq] at h;obtain ⟨rfl,hk⟩:=h;simp only [AV.rel] at r ⊢;rw [hc.kept _ hk];exact r
 | .bool _,a',v,h,r| .int _ _,a',v,h,r| .str _,a',v,h,r| .sstr _,a',v,h,r| .nilptr,a',v,h,r| .nilslice,a',v,h,r| .nilmap,a',v,h,r| .nilFunc,a',v,h,r| .nilIface,a',v,h,r| .any,a',v,h,r| .top,a',v,h,r=>by simp only [rkA] at h;exact Qn hc.cast h r
theorem JC (hc:Yz U vs K π X X'):∀{l l' :List AV} {us:List Value},rkL U vs K π l l' =true->AV.QH X l us->AV.QH X' l' us
 |[],l',us,h,r=>by cases l' <;>simp only [rkL,Bool.false_eq_true] at h;rw [rels_nil] at r ⊢;exact r
 |a::l,l',us,h,r=>by cases l' <;>simp only [rkL,Bool.false_eq_true,Bool.and_eq_true] at h;obtain ⟨v,us',rfl,r1,r2⟩:=Q8.1 r;rw [rels_cons_cons];exact ⟨Y3 hc h.1 r1,JC hc h.2 r2⟩
end
noncomputable def rkM (U:Sb) (vs:List Nat) (K:Nat->Bool) (π:Nat->Nat):List (AV×AV×Nat)->List (AV×AV×Nat)->Bool
 |[],[]=>true
 |a::l,b::l' =>rkA U vs K π a.1 b.1&&(rkA U vs K π a.2.1 b.2.1&&(Nat.beq a.2.2 b.2.2&&rkM U vs K π l l'))
 |_,_=>false
theorem Q69 (hc:Yz U vs K π X X'):∀{l l' :List (AV×AV×Nat)} {es:List MapEntry},rkM U vs K π l l' =true->Q9 X l es->Q9 X' l' es
 |[],l',es,h,r=>by cases l' <;>simp only [rkM,Bool.false_eq_true] at h;exact r
 |a::l,l',es,h,r=>by cases l' <;>simp only [rkM,Bool.false_eq_true,Bool.and_eq_true,Nat.beq_eq] at h;obtain ⟨e,es',rfl,r1,r2,r3,r4⟩:=r;exact ⟨e,es',rfl,Y3 hc h.1 r1,Y3 hc h.2.1 r2,by rw [r3,h.2.2.1],Q69 hc h.2.2.2 r4⟩
noncomputable def rkP (U:Sb) (vs:List Nat) (K:Nat->Bool) (π:Nat->Nat):List (AV×AV)->List (AV×AV)->Bool
 |[],[]=>true
 |a::l,b::l' =>rkA U vs K π a.1 b.1&&(rkA U vs K π a.2 b.2&&rkP U vs K π l l')
 |_,_=>false
theorem Q68 (hc:Yz U vs K π X X'):∀{l l' :List (AV×AV)} {es:List MapEntry},rkP U vs K π l l' =true->ZX X l es->ZX X' l' es
 |[],l',es,h,r=>by cases l' <;>simp only [rkP,Bool.false_eq_true] at h;exact r
 |a::l,l',es,h,r=>by cases l' <;>simp only [rkP,Bool.false_eq_true,Bool.and_eq_true] at h;obtain ⟨e,es',rfl,r1,r2,r4⟩:=r;exact ⟨e,es',rfl,Y3 hc h.1 r1,Y3 hc h.2.1 r2,Q68 hc h.2.2 r4⟩
noncomputable def rkO (U:Sb) (vs:List Nat) (K:Nat->Bool) (π:Nat->Nat):Q7->Q7->Bool
 | .cells cs el ex pl ro, .cells cs' el' ex' pl' ro' =>Nat.beq el el' &&(ex==ex' &&(pl==pl' &&(ro==ro' &&rkL U vs K π cs cs')))
 | .map es c, .map es' c' =>Nat.beq c c' &&rkM U vs K π es es'
 | .lmap es, .lmap es' =>rkP U vs K π es es'
 | .map [] _, .lmap []=>true
 |_,_=>false
theorem Q2u {l l' :List AV} (h:rkL U vs K π l l' =true):l'.length=l.length:=by
 induction l generalizing l' with
 |nil=>cases l' <;>simp [rkL] at h;rfl
 |cons a l ih=>
  cases l' with
  |nil=>simp [rkL] at h
  |cons a' l' =>simp only [rkL,Bool.and_eq_true] at h;simp [ih h.2]
theorem Qk3 {l l' :List AV} (h:rkL U vs K π l l' =true) {i:Nat} {a' :AV} (e:l'[i]?=some a'):∃a,l[i]?=some a/\rkA U vs K π a a' =true:=by
 induction l generalizing l' i with
 |nil=>cases l' <;>simp [rkL] at h;simp at e
 |cons a l ih=>
  cases l' with
  |nil=>simp [rkL] at h
  |cons b l' =>
   simp only [rkL,Bool.and_eq_true] at h;cases i with
   |zero=>simp at e;subst e;exact ⟨a,rfl,h.1⟩
   |succ i=>simpa using ih h.2 (by simpa using e)
theorem zJ (hc:Yz U vs K π X X') {o o' :Q7} {p:Place} {ob:Option Obj} (h:rkO U vs K π o o' =true) (r:ji X o p ob):ji X' o' p ob/\o'.live=o.live/\o'.rw=o.rw:=by unfold rkO at h;split at h<;>(try simp only [Bool.false_eq_true,Bool.and_eq_true,Nat.beq_eq,beq_iff_eq] at h);obtain ⟨rfl,rfl,rfl,rfl,h⟩:=h;obtain ⟨c,fr,h1,h2,h3,h4,h5,h6⟩:=r;refine ⟨⟨c,fr,h1,h2,by rw [Q2u h];exact h3,by rw [Q2u h];exact h4,λi a hi=>?_,h6⟩,rfl,rfl⟩;obtain ⟨b,hb,hr⟩:=Qk3 h hi;obtain ⟨v,hv,r1⟩:=h5 i b hb;exact ⟨v,hv,Y3 hc hr r1⟩;obtain ⟨rfl,h⟩:=h;obtain ⟨es',h1,h2⟩:=r;exact ⟨⟨es',h1,Q69 hc h h2⟩,rfl,rfl⟩;obtain ⟨es',cl,l,h1,h2,h3⟩:=r;exact ⟨⟨es',cl,l,h1,Q68 hc h h2,h3⟩,rfl,rfl⟩;obtain ⟨es',h1,h2⟩:=r;exact ⟨⟨es',_,[],h1,rfl,by rw [h2]⟩,rfl,rfl⟩
theorem Qab {o o' :Q7} (h:rkO U vs K π o o' =true):o'.Q5o=o.Q5o:=by
 unfold rkO at h;split at h<;>(try simp only [Bool.false_eq_true,Bool.and_eq_true,Nat.beq_eq,beq_iff_eq] at h)
 . obtain ⟨-,-,rfl,rfl,-⟩:=h;rfl
 all_goals rfl
noncomputable def rkHo (U:Sb) (vs:List Nat) (K:Nat->Bool) (π:Nat->Nat) (x:Option Q7) (o' :Q7):Bool:=
 match x with
 |some o=>rkO U vs K π o o'
 |none=>false
noncomputable def rkH (U:Sb) (vs:List Nat) (K:Nat->Bool) (π:Nat->Nat) (H:Tr Q7):List (Nat×Q7)->Bool
 |[]=>true
 |e::l=>K e.1&&(rkHo U vs K π (H.get (π e.1)) e.2&&(l.all (λf=>!Nat.beq (π e.1) (π f.1))&&rkH U vs K π H l))
theorem Qe6 {H:Tr Q7}:∀{l:List (Nat×Q7)},rkH U vs K π H l=true->∀e∈l,K e.1=true/\∃o,H.get (π e.1)=some o/\rkO U vs K π o e.2=true
 |[],_,e,he=>by cases he
 |a::l,h,e,he=>by simp only [rkH,Bool.and_eq_true] at h;rcases List.mem_cons.1 he with rfl|he;refine ⟨h.1,?_⟩;have h2:=h.2.1;unfold rkHo at h2;split at h2;rename_i o ho;exact ⟨o,ho,h2⟩;cases h2;exact Qe6 h.2.2.2 e he
theorem Qe7 {H:Tr Q7}:∀{l:List (Nat×Q7)},rkH U vs K π H l=true->∀e∈l,∀f∈l,π e.1=π f.1->e.1=f.1
 |[],_,e,he,_,_,_=>by cases he
 |a::l,h,e,he,f,hf,heq=>by
  simp only [rkH,Bool.and_eq_true,List.all_eq_true,Bool.not_eq_true'] at h;have no:∀g∈l,π a.1≠π g.1:=λg hg e=>by have:=h.2.2.1 g hg;rw [e] at this;simp at this
  rcases List.mem_cons.1 he with e1|e1<;>rcases List.mem_cons.1 hf with f1|f1;rw [e1,f1];rw [e1] at heq;exact absurd heq (no f f1);rw [f1] at heq;exact absurd heq.symm (no e e1);exact Qe7 h.2.2.2 e e1 f f1 heq
theorem Qq.Yr {n0:Nat} {H:Tr Q7} {w:World} {l:List (Nat×Q7)} {room:Nat} (h:Qq X n0 H w) (hc:Yz U vs K π X X') (hlt:∀b p,X'.V b=some p->p.blk<w.heap.size) (hk:rkH U vs K π H l=true):Qq X' n0 (Q29 room l) w:=by
 have base:∀b o' p,(Q29 room l).get b=some o' ->X'.V b=some p->X.V (π b)=some p/\∃o,H.get (π b)=some o/\rkO U vs K π o o' =true:=λb o' p hb hp=>by obtain ⟨k1,o,k2,k3⟩:=Qe6 hk _ (Je hb);exact ⟨by rw [<-hc.kept b k1];exact hp,o,k2,k3⟩
 refine ⟨λb o' p hb hp=>?_,λb b' o1 o2 p p' hb hb' l1 l2 hp hp' e=>?_,hlt,λb o' p hb hr hp=>?_⟩;obtain ⟨g1,o,g2,g3⟩:=base b o' p hb hp;exact (zJ hc g3 (h.obj _ o p g2 g1)).1
 obtain ⟨g1,o,g2,g3⟩:=base b o1 p hb hp;obtain ⟨g4,q,g5,g6⟩:=base b' o2 p' hb' hp';have e1:=(zJ hc g3 (h.obj _ o p g2 g1)).2.1
 exact Qe7 hk _ (Je hb) _ (Je hb') (h.inj _ _ o q p p' g2 g5 (by rw [<-e1];exact l1) (by rw [<-Qab g6];exact l2) g1 g4 e);obtain ⟨g1,o,g2,g3⟩:=base b o' p hb hp;have e1:=(zJ hc g3 (h.obj _ o p g2 g1)).2.2
 exact h.own _ o p g2 (by rw [<-e1];exact hr) g1
noncomputable def Qk2 (U:Sb) (vs:List Nat) (K:Nat->Bool) (π:Nat->Nat) (tm:Tr AV):Nat->List AV->Bool
 |_,[]=>true
 |i,a::l=>rkA U vs K π ((tm.get i).getD .undef) a&&QG (i+1) λj=>Qk2 U vs K π tm j l
theorem Qaa {tm:Tr AV}:∀{l:List AV} {i t:Nat} {a:AV},Qk2 U vs K π tm i l=true->l[t]?=some a->rkA U vs K π ((tm.get (i+t)).getD .undef) a=true
 |[],i,t,a,_,h=>by simp at h
 |b::l,i,t,a,h,e=>by
  simp only [Qk2,sNat_eq,Bool.and_eq_true] at h;cases t with
  |zero=>simp at e;subst e;simpa using h.1
  |succ t=>have:=Qaa h.2 (t:=t) (by simpa using e);rw [show i+(t+1)=i+1+t by omega];exact this
theorem QC.Yr {nt:Nat} {tm:Tr AV} {tmps:Array Value} {l:List AV} (hc:Yz U vs K π X X') (h:QC X nt tm tmps) (hk:Qk2 U vs K π tm 0 l=true) (hl:l.length=nt):QC X' nt (setArgs 0 l (.sk nt)) tmps:=by
 refine ⟨h.1,λt=>?_⟩;rw [Ja (X:=X')];simp only [Nat.not_lt_zero,if_false,Nat.sub_zero];cases ht:l[t]? with
 |some a=>simp only [Option.getD_some];have:=Qaa hk ht;rw [Nat.zero_add] at this;exact Y3 hc this (h.2 t)
 |none=>
  have hge:nt<=t:=by rw [<-hl];exact List.getElem?_eq_none_iff.1 ht
  have hu:tmps.getD t undef=undef:=by have:tmps[t]?=none:=Array.getElem?_eq_none_iff.2 (by rw [h.1];exact hge);simp [Array.getD_eq_getD_getElem?,this]
  rw [hu];simp;exact Qw X'
end
def Q1u (U:Sb) (vs:List Nat) (K:Nat->Bool) (π:Nat->Nat) (X:Ext):Ext:=⟨λb=>if K b=true then X.V (π b) else if b∈vs then X.V 0 else none,⟨λi=>if i∈vs then (U.at i).den X.O else 0,X.O.str⟩⟩
section
variable {P:Program} {G:Env} {n0:Nat} {w0:World} {cs0:List Frame}
end
end Go.Ax
namespace Go.Ax
open Go.RowKit
section
variable {P:Program} {G:Env} {n0:Nat} {w0:World} {cs0:List Frame}
end
end Go.Ax
namespace Go.Ax
open Go.RowKit
theorem Qcj:∀(l:List UInt8),qD l<256^l.length:=by
 have h:∀(l:List UInt8) (n:Nat),l.foldl (λn b=>n*256+b.toNat) n<(n+1)*256^l.length:=by
  intro l;induction l with
  |nil=>intro n;simp
  |cons b l ih=>
   intro n;have:=ih (n*256+b.toNat);have hb:=b.toNat_lt;simp only [List.foldl_cons,List.length_cons,Nat.pow_succ]
   calc _<(n*256+b.toNat+1)*256^l.length:=this
    _<=((n+1)*256)*256^l.length:=Nat.mul_le_mul_right _ (by omega)
    _=(n+1)*(256^l.length*256):=by rw [Nat.mul_assoc,Nat.mul_comm 256]
 intro l;simpa [qD] using h l 0
theorem Q6i {l:List UInt8} {c:Nat} (h:c<l.length):qD (l.take (c+1))=qD (l.take c)*256+l[c].toNat:=by unfold qD;rw [List.take_add_one,List.getElem?_eq_getElem h,List.foldl_append];rfl
noncomputable def Qm9 (c:Ctx) (i:Nat) (a:E):Nat->Option E
 |0=>none
 |1=>some (.byte i a)
 |k+2=>match Qm9 c i a (k+1),E.plus c a (.ofNat (k+1)) with
  |some n,some p=>some (.bin .add .i64 (.bin .mul .i64 n (.lit 256)) (.byte i p))
  |_,_=>none
theorem Qbe {O:Val} {i q:Nat} {a:E} (hq:a.den O=q) (h:q<(O.str i).length):(E.byte i a).den O=(((O.str i)[q]).toNat:Int):=by simp only [E.den,hq,Int.toNat_natCast,List.getD_eq_getElem?_getD,List.getElem?_eq_getElem h,Option.getD_some]
theorem jo {d:Nat->Prop} {c:Ctx} {O:Val} {i:Nat} {a:E} {q:Nat} (hc:c.okN d O) (hi:d i) (ha:a.ok d) (hq:a.den O=q):∀{k:Nat} {e:E},Qm9 c i a k=some e->k<=4->q+k<=(O.str i).length->e.ok d/\e.den O=(qD (((O.str i).drop q).take k):Int)
 |0,e,h,_,_=>by cases h
 |1,e,h,_,hl=>by
  cases h;refine ⟨⟨hi,ha⟩,?_⟩;rw [Qbe hq (by omega)];have hl' :0<((O.str i).drop q).length:=by rw [List.length_drop];omega
  have:=Q6i hl';rw [Nat.zero_add] at this;rw [this];simp [qD]
 |k+2,e,h,hk,hl=>by
  simp only [Qm9] at h;split at h;rename_i n p hn hp;cases h;obtain ⟨n1,n2⟩:=jo hc hi ha hq hn (by omega) (by omega);obtain ⟨p1,p2⟩:=E.Z7 hp hc ha;refine ⟨⟨⟨n1,trivial⟩,hi,p1⟩,?_⟩;have hl' :k+1<((O.str i).drop q).length:=by rw [List.length_drop];omega
  have e1:(E.byte i p).den O=(((O.str i)[q+(k+1)]'(by omega)).toNat:Int):=Qbe (by rw [p2,hq];simp) (by omega)
  have hst:=Q6i hl';have hg:((O.str i).drop q)[k+1]=(O.str i)[q+(k+1)]'(by omega):=by rw [List.getElem_drop]
  rw [hg] at hst;have hb:=((O.str i)[q+(k+1)]'(by omega)).toNat_lt
  have hlt:=Qcj (((O.str i).drop q).take (k+1));have hle:256^(((O.str i).drop q).take (k+1)).length<=256^3:=Nat.pow_le_pow_right (by omega) (by rw [List.length_take];omega)
  rw [hst];have e2:(E.bin .add .i64 (.bin .mul .i64 n (.lit 256)) (.byte i p)).den O=IntKind.i64.wrap (IntKind.i64.wrap (n.den O*256)+(E.byte i p).den O):=rfl
  rw [e2,e1,n2];generalize qD (((O.str i).drop q).take (k+1))=N at hlt ⊢;generalize ((O.str i)[q+(k+1)]'(by omega)).toNat=B at hb ⊢
  rw [wrap_within (n:=(N:Int)*256) (by simp only [kLo];omega) (by simp only [kHi];omega),wrap_within (by simp only [kLo];omega) (by simp only [kHi];omega)];omega;cases h
noncomputable def Q93 (b:Nat):Sum:=λc H next as=>
 match as with
 |[.sstr (.var i), .int .i64 a, .int .i64 (.lit (.ofNat k))]=>bif Nat.ble 1 k&&Nat.ble k 4&&(ST.var i).small c then
  match E.plus c (.len i) (-(.ofNat k)) with
  |none=> .fail
  |some M=>match Go.Ax.E.cmp c .lss a (.lit 0) with
   |some false=>(match Go.Ax.E.cmp c .gtr a M with
    |some true=>(match Go.Ax.E.cmp c .leq a (.lit 1099511627776) with
     |some true=> .ok ⟨.tuple [.int .i64 (.lit (.ofNat 0)), .int .i64 (.lit (.ofNat b))],H,next,c⟩
     |_=> .fail)
    |some false=>(match Qm9 c i a k with
     |some e=> .ok ⟨.tuple [.int .i64 e, .int .i64 (.lit (.ofNat 0))],H,next,c⟩
     |none=> .fail)
    |none=>match E.askN c .gtr a M with
     |(op,x,y)=> .ask op x y)
   |_=> .fail
  else .fail
 |_=> .fail
noncomputable def Q4q (b:Nat):Sum:=λc H next as=>
 match Q93 b c H next as with
 | .fail=>Q1g b c H next as
 |r=>r
theorem Qct {P:Program} {G:Env} {n0:Nat} {f:FuncId} {b:Nat}
 (h1:∀(s:ByteArray) (i k:Nat) (w:World),1<=k->k<=4->s.size<=1099511627776->i+k<=s.size->Calls P f #[.string s, .int .i64 i, .int .i64 k] w λe w' =>e= .returned (.tuple #[.int .i64 (qD ((s.data.toList.drop i).take k)), .int .i64 0])/\Below w.heap.size w w')
 (h2:∀(s:ByteArray) (i k:Nat) (w:World),1<=k->k<=4->s.size<=1099511627776->i<=1099511627776->s.size<i+k->Calls P f #[.string s, .int .i64 i, .int .i64 k] w λe w' =>e= .returned (.tuple #[.int .i64 0, .int .i64 b])/\Below w.heap.size w w'):ZL P G n0 f (Q4q b):=by
 refine ZL.or (S:=Q93 b) (S' :=Q1g b) ?_ (Q3a h1 h2) λc H next as r hr=>?_
 . refine Y1 λc X H next w args vs r hr hc hargs=>?_
   unfold Q93 at hr;split at hr;rename_i i a k;cases hb:(Nat.ble 1 k&&Nat.ble k 4&&(ST.var i).small c) with
   |false=>rw [hb] at hr;cases hr
   |true=>
    rw [hb] at hr;simp only [Bool.and_eq_true,Nat.ble_eq] at hb;simp only [cond_true] at hr;obtain ⟨u,vs',e1,g1,g2⟩:=Q8.1 hargs;obtain ⟨v,vs'',rfl,g3,g4⟩:=Q8.1 g2;obtain ⟨v2,vs3,rfl,g5,g6⟩:=Q8.1 g4;have:=rels_nil.1 g6;subst this;simp only [AV.rel] at g1 g3 g5;obtain ⟨k1,k2,rfl⟩:=g1;obtain ⟨ka,rfl⟩:=g3;obtain ⟨-,rfl⟩:=g5;have hl:=ST.ZO hb.2 hc k2;have hvs:vs=#[.string ⟨(X.O.str i).toArray⟩, .int .i64 (a.den X.O), .int .i64 k]:=by rw [<-Array.toList_inj];exact e1
    subst hvs;have hsz:(⟨(X.O.str i).toArray⟩:ByteArray).size=(X.O.str i).length:=by
     show (X.O.str i).toArray.size=_
     simp
    have hl:(X.O.str i).length<=549755813888:=hl
    have hdi:X.dom i:=k1;split at hr;cases hr;rename_i M hM;obtain ⟨M1,M2⟩:=E.Z7 hM hc (show (E.len i).ok X.dom from hdi);simp only [E.den,Int.ofNat_eq_natCast] at M2;split at hr;rename_i hz;have z0:¬(a.den X.O<0):=of_decide_eq_false (Go.Ax.E.Qb rfl hz hc);obtain ⟨q,hq⟩:∃q:Nat,a.den X.O=q:=⟨(a.den X.O).toNat,by omega⟩;rw [hq];split at hr;rename_i hgt;have z1:=Go.Ax.E.Qb rfl hgt hc;simp only [Yf,decide_eq_true_eq] at z1;split at hr;rename_i hbig;have z2:a.den X.O<=1099511627776:=of_decide_eq_true (Go.Ax.E.Qb rfl hbig hc);cases hr;refine ⟨rfl,rfl,rfl,_,?_,h2 _ q k w hb.1.1 hb.1.2 (by rw [hsz];omega) (by omega) (by rw [hsz];omega)⟩;simp only [AV.rel];refine ⟨_,rfl,?_⟩;simp only [rels_cons_cons,rels_nil,AV.rel];exact ⟨⟨trivial,rfl⟩,⟨trivial,rfl⟩,trivial⟩;cases hr;rename_i hgt;have z1:=Go.Ax.E.Qb rfl hgt hc;simp only [Yf,decide_eq_false_iff_not] at z1;split at hr;rename_i e he;cases hr;obtain ⟨v1,v2⟩:=jo hc hdi ka hq he hb.1.2 (by omega);have hcall:=h1 ⟨(X.O.str i).toArray⟩ q k w hb.1.1 hb.1.2 (by rw [hsz];omega) (by rw [hsz];omega);refine ⟨rfl,rfl,rfl,_,?_,hcall⟩;simp only [AV.rel];refine ⟨_,rfl,?_⟩;simp only [rels_cons_cons,rels_nil,AV.rel];exact ⟨⟨v1,by rw [v2]⟩,⟨trivial,rfl⟩,trivial⟩;cases hr;cases hr;cases hr
   cases hr
 unfold Q4q at hr;split at hr;exact .inr hr
 exact .inl hr
end Go.Ax
namespace Go.Ax
open Go.RowKit
noncomputable def Ql4 (U:Sb) (vs:List Nat) (K:Nat->Bool) (π:Nat->Nat) (a:Qg) (f:Fr):Bool:=!a.ret&&(Qb2 a.defers&&(Qkj a.ro&&(Qnw a.cur&&(a.todo.all Q2v&&(Qk2 U vs K π a.tm 0 f.tms&&Nat.beq f.tms.length a.nt)))))
noncomputable def Qfc (U:Sb) (vs:List Nat) (K:Nat->Bool) (π:Nat->Nat):List Qg->List Fr->Bool
 |[],[]=>true
 |a::as,f::fs=>Ql4 U vs K π a f&&Qfc U vs K π as fs
 |_,_=>false
section
variable {P:Program} {G:Env} {n0:Nat} {H H' :Tr Q7} {X X' :Ext} {U:Sb} {vs:List Nat} {K:Nat->Bool} {π:Nat->Nat} {a:Qg} {t:Fr} {f:Frame}
theorem Q70 (hk:Ql4 U vs K π a t=true) (h1:a.fn=t.fn) (h:jV P X a f):jV P X' t.af f:=by
 simp only [Ql4,Bool.and_eq_true,Bool.not_eq_true'] at hk;obtain ⟨b1,b2,b3,-⟩:=hk;have hdef:a.defers=[]:=by cases hh:a.defers with
  |nil=>rfl
  |cons a l=>rw [hh] at b2;cases b2
 have hro:a.ro=none:=by cases hh:a.ro with
  |none=>rfl
  |some a=>rw [hh] at b3;cases b3
 refine ⟨h.fn.trans h1,h.kind,?_,?_⟩;have:=h.ro;rw [hro] at this;exact this;have:=h.defers;rw [hdef] at this;exact this
theorem Q87.Yr (hc:Yz U vs K π X X') (hk:Ql4 U vs K π a t=true) (b4:qE a.cur=true) (h1:a.fn=t.fn) (h2:a.nt=t.nt) (h3:a.cur=t.cur) (h4:a.todo=t.todo) (h:Q87 P G X n0 H a f):Q87 P G X' n0 H' t.af f/\Qm t.af=[]:=by
 have hb:=Q70 (X' :=X') hk h1 h.1;simp only [Ql4,Bool.and_eq_true,Bool.not_eq_true',Nat.beq_eq] at hk;obtain ⟨b1,-,-,-,b5,b6,b7⟩:=hk;obtain ⟨-,h'⟩:=h;rw [b1] at h';obtain ⟨hm,is,his,hcur'⟩:=h';have htm:∀{tmps},QC X a.nt a.tm tmps->QC X' t.af.nt t.af.tm tmps:=λh=>by have:=QC.Yr hc h b6 b7;rw [h2] at this;exact this
 have hids:Qm t.af=[]:=by
  show Qm t.af=[];unfold Qm;show (match t.cur with| .draw _ _ _ pa=>pa.map (·.2)|_=>[])=[];rw [<-h3];cases hcc:a.cur with
  |draw ops done rest pa=>rw [hcc] at b4;cases b4
  |_=>rfl
 refine ⟨⟨hb,hm,is,?_,?_⟩,hids⟩;show Yj X' t.todo is;rw [<-h4];exact ZQ b5 his;show match t.cur with
  | .none=>_
  | .reg ops k rest=>_
  | .draw ops done rest pa=>_
 rw [<-h3];cases hcc:a.cur with
 |none=>rw [hcc] at hcur';exact ⟨hcur'.1,htm hcur'.2⟩
 |reg ops k rest=>rw [hcc] at hcur';exact ⟨hcur'.1,hcur'.2.1,htm hcur'.2.2⟩
 |draw ops done rest pa=>rw [hcc] at b4;cases b4
theorem Q2b.Yr (hc:Yz U vs K π X X') (hk:Ql4 U vs K π a t=true) (h1:a.fn=t.fn) (h2:a.nt=t.nt) (h3:a.cur=t.cur) (h4:a.todo=t.todo) (h:Q2b P G X n0 H a f):Q2b P G X' n0 H' t.af f/\Qm t.af=[]:=by
 have hb:=Q70 (X' :=X') hk h1 h.1;simp only [Ql4,Bool.and_eq_true,Bool.not_eq_true',Nat.beq_eq] at hk;obtain ⟨b1,-,-,b4,b5,b6,b7⟩:=hk;obtain ⟨-,-,hm,is,his,hcur'⟩:=h;have htm:∀{tmps},QC X a.nt a.tm tmps->QC X' t.af.nt t.af.tm tmps:=λh=>by have:=QC.Yr hc h b6 b7;rw [h2] at this;exact this
 have hids:Qm t.af=[]:=by
  unfold Qm;show (match t.cur with| .draw _ _ _ pa=>pa.map (·.2)|_=>[])=[];rw [<-h3];cases hcc:a.cur with
  |draw ops done rest pa=>rw [hcc] at b4;obtain ⟨-,-,-,-,rfl,-⟩:=zY b4;rfl
  |_=>rfl
 refine ⟨⟨hb,rfl,hm,is,?_,?_⟩,hids⟩;show Yj X' t.todo is;rw [<-h4];exact ZQ b5 his;show match t.cur with
  | .none=>_
  | .reg ops k rest=>_
  | .draw ops done rest pa=>_
 rw [<-h3];cases hcc:a.cur with
 |none=>rw [hcc] at hcur';exact ⟨hcur'.1,htm hcur'.2⟩
 |reg ops k rest=>rw [hcc] at hcur';exact ⟨hcur'.1,hcur'.2.1,hcur'.2.2.1,htm hcur'.2.2.2⟩
 |draw ops done rest pa=>
  rw [hcc] at hcur' b4;obtain ⟨A,fuel,tp,listed,i,rc,rest',o,g1,g2,g3,g4,g5,g6,g7,g8,D⟩:=hcur';subst g2;have hall:∀j,done.testBit j=true->Lst listed j:=λj hj=>by
   obtain ⟨i',rc',r',e,-,hl⟩:=zY b4;cases e;refine D.before g3 g8 ?_;have:(Nat.land done (((Q56 ops 0 (.sk ops.length)).get i).getD 0)).testBit j=true:=by rw [hl];exact hj
   change (done &&& _).testBit j=true at this
   rw [Nat.testBit_and,Bool.and_eq_true] at this;exact this.2
  have htm' :QC X' t.af.nt t.af.tm f.tmps:=htm ⟨D.tmr.1,λu=>D.tmr.2 u λj oj hj hl _=>absurd (hall j hj) hl⟩;exact ⟨A,fuel,tp,listed,i,rc,rest',o,g1,rfl,g3,g4,g5,g6,g7,g8,D.size,D.sub,D.closed,D.plan,D.light,D.looks,D.inRange,⟨htm'.1,λu _=>htm'.2 u⟩,λj oj hj hl _=>absurd (hall j hj) hl⟩
end
theorem Z0.Yr {P:Program} {G:Env} {n0:Nat} {H H' :Tr Q7} {X X' :Ext} {U:Sb} {vs:List Nat} {K:Nat->Bool} {π:Nat->Nat} (hc:Yz U vs K π X X'):∀{as:List Qg} {ts:List Fr} {cs:List Frame},Qfc U vs K π as ts=true->as.map sk4=ts.map Fr.sk4->Z0 P G X n0 H as cs->Z0 P G X' n0 H' (ts.map Fr.af) cs/\(ts.map Fr.af).flatMap Qm=[]
 |[],ts,cs,hk,e,h=>by
  cases ts with
  |nil=>exact ⟨h,rfl⟩
  |cons t ts=>simp [Qfc] at hk
 |a::as,ts,cs,hk,e,h=>by
  cases ts with
  |nil=>simp [Qfc] at hk
  |cons t ts=>simp only [Qfc,Bool.and_eq_true] at hk;simp only [List.map_cons,List.cons.injEq] at e;obtain ⟨e1,e2⟩:=e;simp only [sk4,Fr.sk4,Prod.mk.injEq] at e1;obtain ⟨f,fs,rfl,h1,h2⟩:=h;obtain ⟨k1,k2⟩:=Q2b.Yr (H' :=H') hc hk.1 e1.1 e1.2.1 e1.2.2.1 e1.2.2.2 h1;obtain ⟨k3,k4⟩:=Z0.Yr hc hk.2 e2 h2;refine ⟨⟨f,fs,rfl,k1,k3⟩,?_⟩;simp only [List.map_cons,List.flatMap_cons,k2,k4,List.append_nil]
structure KeptL (bs:List (Nat×Place)) (avs:List AV) (vals:List Value) (X:Ext):Prop where
 V:∀q∈bs,X.V q.1=some q.2
 r:AV.QH X avs vals
section
variable {P:Program} {G:Env} {n0:Nat} {w0:World} {cs0:List Frame}
theorem Sim.hand (hT:G.T.OK P) (hI:YL.OK P G.I) {X:Ext} {s:AM} {m:Machine} (h:Sim P G n0 w0 cs0 X s m) (hret:s.fr.ret=false) {ops:List Oper} {k:Nat} {o:Oper} {rest:List Oper} (hc:s.fr.cur= .reg ops k (o::rest)) (hg:o.guard=none) (hd:∀c,o.op≠ .defer c) {d:Nat} (hdst:o.dst=some d) (hlt:d<s.fr.nt) {v:AV}
 (hx:∀(ρc:Operand->Value) (w:World),(∀x∈o.op.operands.toList,∀a,ev G.T.ng s.fr.tm x=some a->a.rel X (ρc x))->Below n0 w0 w->∃u,(execOp ρc o).run P w= .ok (.value u) w/\v.rel X u):
 ∃Y m',Steps P m m' /\X.le Y/\Sim P G n0 w0 cs0 Y { s with fr:={ s.fr with tm:=s.fr.tm.set d v,cur:= .reg ops (k+1) rest}} m' :=by
 obtain ⟨f,cs,w,rfl,hS⟩:=Qdy h hret hc;obtain ⟨A,i,l,is,-,-,-,-,hops,-⟩:=hS.at_;obtain ⟨u,h1,h2⟩:=hx (evC f.tmps) w hops hS.below;refine Qbm hT hI hS (r:=⟨v,s.H,s.next⟩) (by unfold QI;rw [hg]) hd ⟨X,u,w, .inl h1,Ext.le.refl X,h2,hS.mem,Below.refl _ _,λb hb _=>⟨hb,rfl⟩,Nat.le_refl _,hS.fresh⟩ ?_;unfold advance Ya;have hb:Nat.blt d s.fr.nt=true:=by rw [Nat.blt_eq];exact hlt
 simp only [hc,Qbj,hdst,hb,cond_true,sNat_eq]
end
end Go.Ax
namespace Go.Ax
open Go.RowKit
noncomputable def StC.rd (t:StC) (room d1 d2:Nat):AM:=
 match t.fr.cur with
 | .reg ops k rest=>⟨{ t.fr.af with tm:=(t.fr.af.tm.set d1 .top).set d2 (.int .i64 (.var t.next)),cur:= .reg ops (k+1+1) (rest.drop 2)},t.cs.map Fr.af,Q29 room t.l,t.next+1,
  ⟨⟨.geq, .var t.next, .lit (-9223372036854775808),true⟩::⟨.leq, .var t.next, .lit 9223372036854775807,true⟩::t.fs,t.next::t.vs⟩⟩
 |_=>t.am room
section
variable {P:Program} {G:Env} {n0:Nat} {w0:World} {cs0:List Frame}
end
noncomputable def Qa2 (G:Env) (E:Q88) (f:FuncId) (sps:List Sp) (mk:List AV->Option (List AV)) (room:Nat):AM:=
 match Sp.qX sps (E.ng+E.m+2) with
 |some r=>match mk r.v with
  |some args=>match start G f args (Qfh room E.T E.t E.d E.l) r.next ⟨r.fs,r.vs⟩ with
   |some s=>s
   |none=>⟨⟨0,0, .e, .none,[],[],false,none⟩,[], .e,0,⟨[],[]⟩⟩
  |none=>⟨⟨0,0, .e, .none,[],[],false,none⟩,[], .e,0,⟨[],[]⟩⟩
 |none=>⟨⟨0,0, .e, .none,[],[],false,none⟩,[], .e,0,⟨[],[]⟩⟩
noncomputable def Qdp (G:Env) (E:Q88) (f:FuncId) (sps:List Sp) (mk:List AV->Option (List AV)) (room:Nat):Bool:=
 match Sp.qX sps (E.ng+E.m+2) with
 |some r=>match mk r.v with
  |some args=>someB (start G f args (Qfh room E.T E.t E.d E.l) r.next ⟨r.fs,r.vs⟩)
  |none=>false
 |none=>false
theorem Qj5 {P:Program} {G:Env} (hT:G.T.OK P) {E:Q88} (hE:E.ng=G.T.ng) (hng:0<E.ng) {f:FuncId} {sps:List Sp} {mk:List AV->Option (List AV)} {room:Nat} (hb:Qdp G E f sps mk room=true) {avs:List AV} (hav:(Sp.qX sps (E.ng+E.m+2)).map (·.v)=some avs)
 {w:World} {A:Nat->Addr} {N:Nat->Nat} {vals:List Value} {vs:Array Value} {p1 p2:Place} (hl:Laid E A N w) (hv:Sp.yB sps vals) (hp1:p1.blk<w.heap.size) (hp2:p2.blk<w.heap.size)
 (hmk:∀(Y:Ext) (args:List AV),AV.QH Y avs vals->Y.V (E.ng+E.m)=some p1->Y.V (E.ng+E.m+1)=some p2->mk avs=some args->AV.QH Y args vs.toList)
 (he:∀{cs0:List Frame} {X:Ext} {m:Machine},KeptL [(E.ng+E.m,p1),(E.ng+E.m+1,p2)] avs vals X->Sim P G w.heap.size w cs0 X (Qa2 G E f sps mk room) m->Qp P w.heap.size w cs0 f m):
 Calls P f vs w (λe w' =>∃u,e= .returned u/\(Sp.lit true).has u/\Below w.heap.size w w'):=by
 intro cs;cases hi:Sp.qX sps (E.ng+E.m+2) with
 |none=>rw [hi] at hav;cases hav
 |some r=>
  rw [hi] at hav;simp only [Option.map_some,Option.some.injEq] at hav;subst hav;unfold Qdp at hb;rw [hi] at hb;simp only at hb;cases hq:mk r.v with
  |none=>rw [hq] at hb;cases hb
  |some args=>
   rw [hq] at hb;simp only at hb;have hs:start G f args (Qfh room E.T E.t E.d E.l) r.next ⟨r.fs,r.vs⟩=some (Qa2 G E f sps mk room):=by unfold Qa2;rw [hi];simp only [hq];split;rename_i s hh;exact hh;rename_i hh;rw [hh] at hb;cases hb
   generalize Qa2 G E f sps mk room=s at hs he;have h00:0<w.heap.size:=Nat.lt_of_lt_of_le hng hl.sz;obtain ⟨Y,hN,hr⟩:=Sp.Zw (p:=⟨0,0,0⟩) (X:=((Qjf E A N).add (E.ng+E.m) p1).add (E.ng+E.m+1) p2) hi hv (λb hb=>by rw [Ext.QL (by omega),Ext.QL (by omega)];simp only [Qjf];rw [if_neg (by omega),if_neg (by omega)]);have hold:∀b,b<E.ng->Y.V b=some ⟨b,0,N b⟩:=λb hb=>by rw [hN.old b (by omega),Ext.QL (by omega),Ext.QL (by omega)];simp only [Qjf];rw [if_pos hb]
   have hptr:∀b,E.ng<=b->b<E.ng+E.m->Y.V b=some ⟨(A b).block,(A b).off,0⟩:=λb h1 h2=>by rw [hN.old b (by omega),Ext.QL (by omega),Ext.QL (by omega)];simp only [Qjf];rw [if_neg (by omega),if_pos h2]
   have hm1:Y.V (E.ng+E.m)=some p1:=by rw [hN.old _ (by omega),Ext.QL (by omega),Ext.add_same]
   have hm2:Y.V (E.ng+E.m+1)=some p2:=by rw [hN.old _ (by omega),Ext.add_same]
   have hargs:=hmk Y args hr hm1 hm2 hq;have hlt:∀b p,Y.V b=some p->p.blk<w.heap.size:=λb p hp=>by by_cases h1:b<E.ng;rw [hold b h1] at hp;cases hp;exact Nat.lt_of_lt_of_le h1 hl.sz;by_cases h2:b<E.ng+E.m;rw [hptr b (by omega) h2] at hp;cases hp;exact hl.lt b (by omega) h2;by_cases h4:b=E.ng+E.m;subst h4;rw [hm1] at hp;cases hp;exact hp1;by_cases h5:b=E.ng+E.m+1;subst h5;rw [hm2] at hp;cases hp;exact hp2;by_cases h3:b<r.next;rw [hN.new b (by omega) h3] at hp;cases hp;exact h00;rw [hN.free b (by omega)] at hp;cases hp
   have hH:Qq Y w.heap.size (Qfh room E.T E.t E.d E.l) w:=Q75 hl hold hptr hlt;have hg:Y.Qo G.T.ng:=λg hg=>⟨N g,hold g (by omega)⟩
   have hsim:Sim P G w.heap.size w cs Y s (lone (Frame.enter P f vs .normal) cs w):=by
    unfold start at hs;split at hs;cases hs;rename_i fn hfn;split at hs;cases hs;rename_i b hb;cases hs;have hP:=(hT.funcs f fn hfn).1
    refine ⟨⟨Frame.enter P f vs .normal,[],w,rfl,⟨⟨rfl,rfl,rfl,rfl⟩,rfl,[.code b],⟨_,_,rfl,rfl,rfl⟩,?_,?_⟩,rfl,hH,Below.refl _ _,Nat.le_refl _⟩,⟨hN.vs,hN.fs⟩,hg,hN.free,?_⟩;simp [Frame.enter,hP,hb];have:=Q4w (k:=fn.ntmps) hargs;simpa [Frame.enter,hP] using this;simp [Qm]
   obtain ⟨fr,w',a1,a2,a3,a4⟩:=he ⟨λq hq=>by simp only [List.mem_cons,List.not_mem_nil,or_false] at hq;rcases hq with rfl|rfl;exact hm1;exact hm2,hr⟩ hsim
   exact ⟨.returned (.bool true),w',fr,⟨_,rfl,by simp only [Sp.has],a2⟩,a1,a3,a4⟩
end Go.Ax
namespace Go.Ax
open Go.RowKit
structure FrG where
 fr:Fr
 df:List ADf
 ro:Option Nat
noncomputable def FrG.af (f:FrG):Qg:={ f.fr.af with defers:=f.df,ro:=f.ro}
structure LpG where
 st:LoopState
 pending:Option Code
 fn:Nat
 nt:Nat
 tms:List AV
 params:Array Tmp
 assign:Code
 body:Code
 d:Nat
abbrev Qop:=LoopState×Option Code×Nat×Nat×Array Tmp×Code×Code
abbrev LpG.key (g:LpG):Qop:=(g.st,g.pending,g.fn,g.nt,g.params,g.assign,g.body)
inductive ObG where
 |o (o:Q7)
 |lp (g:LpG)
 |df
noncomputable def ObG.ob:ObG->Q7
 | .o q=>q
 | .lp g=> .loop g.st g.pending g.fn g.nt (setArgs 0 g.tms (.sk g.nt)) g.params g.assign g.body g.d
 | .df=> .defs
structure StG where
 fr:FrG
 cs:List FrG
 l:List (Nat×ObG)
 next:Nat
 fs:List Fact
 vs:List Nat
noncomputable def StG.am (t:StG) (room:Nat):AM:=⟨t.fr.af,t.cs.map FrG.af,Q29 room (t.l.map λq=>(q.1,q.2.ob)),t.next,⟨t.fs,t.vs⟩⟩
def erC:jk->jk
 | .draw ops done rest _=> .draw ops done rest []
 |c=>c
theorem Qcw {c:jk} (h:qE c=true):erC c=c:=by cases c<;>first|rfl|(simp [qE] at h)
noncomputable def curG:jk->Bool
 | .draw ops done rest _=>match rest with
  |(i,_)::_=>Nat.beq (Nat.land done (((Q56 ops 0 (.sk ops.length)).get i).getD 0)) done
  |_=>false
 |_=>true
theorem Qfm {ops:List Oper} {done:Nat} {rest:List (Nat×List Nat)} {pa:List (Nat×Nat)} (h:curG (.draw ops done rest pa)=true):∃i rc rest',rest=(i,rc)::rest' /\Nat.land done (((Q56 ops 0 (.sk ops.length)).get i).getD 0)=done:=by
 cases rest with
 |nil=>simp [curG] at h
 |cons q r=>obtain ⟨i,rc⟩:=q;exact ⟨i,rc,r,rfl,Nat.eq_of_beq_eq_true h⟩
def erI:Qj->Qj
 | .inRangeFunc _=> .inRangeFunc 0
 | .endRangeFunc _=> .endRangeFunc 0
 |i=>i
noncomputable def Qbv (K:Nat->Bool) (π:Nat->Nat):List Qj->List Qj->Bool
 |[],[]=>true
 |a::as,b::bs=>(match a with
  | .inRangeFunc l=>(match b with| .inRangeFunc l' =>Nat.beq l (π l')&&K l' |_=>false)
  | .endRangeFunc l=>(match b with| .endRangeFunc l' =>Nat.beq l (π l')&&K l' |_=>false)
  |_=>true)&&Qbv K π as bs
 |_,_=>false
noncomputable def dfB (K:Nat->Bool) (π:Nat->Nat):List ADf->List ADf->Bool
 |[],[]=>true
 |a::as,b::bs=>(match a with
  | .mark r=>(match b with| .mark r' =>Nat.beq r (π r')&&K r' |_=>false)
  | .nop f=>(match b with| .nop f' =>Nat.beq f f' |_=>false))&&dfB K π as bs
 |_,_=>false
noncomputable def roGB (K:Nat->Bool) (π:Nat->Nat):Option Nat->Option Nat->Bool
 |none,none=>true
 |some l,some l' =>Nat.beq l (π l')&&K l'
 |_,_=>false
noncomputable def frG (U:Sb) (vs:List Nat) (K:Nat->Bool) (π:Nat->Nat) (a:Qg) (f:FrG):Bool:=!a.ret&&(dfB K π a.defers f.df&&(roGB K π a.ro f.ro&&(curG a.cur&&(Qbv K π a.todo f.fr.todo&&(Qk2 U vs K π a.tm 0 f.fr.tms&&Nat.beq f.fr.tms.length a.nt)))))
noncomputable def Qm3 (U:Sb) (vs:List Nat) (K:Nat->Bool) (π:Nat->Nat):List Qg->List FrG->Bool
 |[],[]=>true
 |a::as,f::fs=>frG U vs K π a f&&Qm3 U vs K π as fs
 |_,_=>false
noncomputable def rkG (U:Sb) (vs:List Nat) (K:Nat->Bool) (π:Nat->Nat) (o:Q7):ObG->Bool
 | .o o' =>rkO U vs K π o o' ||(match o,o' with| .pre s n el, .pre s' n' el' =>Qji U vs (λ_=>false) (.pre s n el) (.pre s' n' el')|_,_=>false)
 | .lp g=>(match o with
  | .loop _ _ _ nt tm _ _ _ d=>Nat.beq d (π g.d)&&(K g.d&&(Qk2 U vs K π tm 0 g.tms&&Nat.beq g.tms.length nt))
  |_=>false)
 | .df=>(match o with| .defs=>true|_=>false)
def Qm0:Option Q7->Option Qop
 |some (.loop st p fn nt _ ps as bd _)=>some (st,p,fn,nt,ps,as,bd)
 |_=>none
noncomputable def Q4n (H:Tr Q7) (π:Nat->Nat):List (Nat×ObG)->List (Option Qop)
 |[]=>[]
 |q::l=>match q.2 with
  | .lp _=>Qm0 (H.get (π q.1))::Q4n H π l
  |_=>Q4n H π l
def Q4o:List (Nat×ObG)->List (Option Qop)
 |[]=>[]
 |q::l=>match q.2 with
  | .lp g=>some g.key::Q4o l
  |_=>Q4o l
section
variable {P:Program} {G:Env} {n0:Nat} {H H' :Tr Q7} {X X' :Ext} {U:Sb} {vs:List Nat} {K:Nat->Bool} {π:Nat->Nat}
theorem Q90 (hc:Yz U vs K π X X'):∀{as bs:List Qj} {is:List Item},Qbv K π as bs=true->as.map erI=bs.map erI->Yj X as is->Yj X' bs is
 |[],bs,is,h,e,r=>by
  cases bs with
  |nil=>exact r
  |cons b bs=>simp [Qbv] at h
 |a::as,bs,is,h,e,⟨i,is',e1,h1,h2⟩=>by
  cases bs with
  |nil=>simp [Qbv] at h
  |cons b bs=>
   simp only [Qbv,Bool.and_eq_true] at h;simp only [List.map_cons,List.cons.injEq] at e;refine ⟨i,is',e1,?_,Q90 hc h.2 e.2 h2⟩;obtain ⟨h3,-⟩:=h;obtain ⟨e3,-⟩:=e;cases a<;>cases b<;>simp only [erI,Qj.code.injEq,Qj.inBlock.injEq,Qj.inLoop.injEq,Qj.inScope.injEq,reduceCtorEq] at e3<;>first
    |(subst e3;exact h1)
    |exact h1
    |(simp only [Bool.and_eq_true,Nat.beq_eq] at h3
      obtain ⟨rfl,hk⟩:=h3;simp only [Qgk] at h1 ⊢;obtain ⟨p,hp,e4⟩:=h1;exact ⟨p,by rw [hc.kept _ hk];exact hp,e4⟩)
theorem Q9c (hc:Yz U vs K π X X'):∀{as bs:List ADf} {ds:List Deferred},dfB K π as bs=true->Q2h P X as ds->Q2h P X' bs ds
 |[],bs,ds,h,r=>by
  cases bs with
  |nil=>exact r
  |cons b bs=>simp [dfB] at h
 | .mark r0::as,bs,ds,h,r=>by
  cases bs with
  |nil=>simp [dfB] at h
  |cons b bs=>
   simp only [dfB,Bool.and_eq_true] at h;cases b with
   |mark r' =>obtain ⟨h1,h2⟩:=h;simp only [Bool.and_eq_true,Nat.beq_eq] at h1;obtain ⟨rfl,hk⟩:=h1;obtain ⟨p,ds',e1,e2,e3⟩:=r;exact ⟨p,ds',by rw [hc.kept _ hk];exact e1,e2,Q9c hc h2 e3⟩
   |nop f=>simp at h
 | .nop f::as,bs,ds,h,r=>by
  cases bs with
  |nil=>simp [dfB] at h
  |cons b bs=>
   simp only [dfB,Bool.and_eq_true] at h;cases b with
   |mark r' =>simp at h
   |nop f' =>obtain ⟨h1,h2⟩:=h;simp only [Nat.beq_eq] at h1;subst h1;obtain ⟨e0,cap,args,ds',e2,e3⟩:=r;exact ⟨e0,cap,args,ds',e2,Q9c hc h2 e3⟩
variable {a:Qg} {t:FrG} {f:Frame}
theorem Qaw (hc:Yz U vs K π X X') (hk:frG U vs K π a t=true) (h1:a.fn=t.fr.fn) (h:jV P X a f):jV P X' t.af f:=by
 simp only [frG,Bool.and_eq_true,Bool.not_eq_true'] at hk;obtain ⟨b1,b2,b3,-⟩:=hk;refine ⟨h.fn.trans h1,h.kind,?_,Q9c hc b2 h.defers⟩;have:=h.ro;show match t.ro with
  |none=>_
  |some l=>_
 cases ha:a.ro with
 |none=>
  rw [ha] at this b3;cases ht:t.ro with
  |none=>exact this
  |some l=>rw [ht] at b3;simp [roGB] at b3
 |some l=>
  rw [ha] at this b3;cases ht:t.ro with
  |none=>rw [ht] at b3;simp [roGB] at b3
  |some l' =>rw [ht] at b3;simp only [roGB,Bool.and_eq_true,Nat.beq_eq] at b3;obtain ⟨rfl,hk⟩:=b3;obtain ⟨p,hp,e⟩:=this;exact ⟨p,by rw [hc.kept _ hk];exact hp,e⟩
theorem Q87.JD (hc:Yz U vs K π X X') (hk:frG U vs K π a t=true) (b4:qE a.cur=true) (h1:a.fn=t.fr.fn) (h2:a.nt=t.fr.nt) (h3:erC a.cur=t.fr.cur) (h4:a.todo.map erI=t.fr.todo.map erI) (h:Q87 P G X n0 H a f):Q87 P G X' n0 H' t.af f/\Qm t.af=[]:=by
 rw [Qcw b4] at h3;have hb:=Qaw hc hk h1 h.1;simp only [frG,Bool.and_eq_true,Bool.not_eq_true',Nat.beq_eq] at hk;obtain ⟨b1,-,-,-,b5,b6,b7⟩:=hk;obtain ⟨-,h'⟩:=h;rw [b1] at h';obtain ⟨hm,is,his,hcur'⟩:=h';have htm:∀{tmps},QC X a.nt a.tm tmps->QC X' t.af.nt t.af.tm tmps:=λh=>by have:=QC.Yr hc h b6 b7;rw [h2] at this;exact this
 have hids:Qm t.af=[]:=by
  show Qm t.af=[];unfold Qm;show (match t.fr.cur with| .draw _ _ _ pa=>pa.map (·.2)|_=>[])=[];rw [<-h3];cases hcc:a.cur with
  |draw ops done rest pa=>rw [hcc] at b4;cases b4
  |_=>rfl
 refine ⟨⟨hb,hm,is,?_,?_⟩,hids⟩;show Yj X' t.fr.todo is;exact Q90 hc b5 h4 his;show match t.fr.cur with
  | .none=>_
  | .reg ops k rest=>_
  | .draw ops done rest pa=>_
 rw [<-h3];cases hcc:a.cur with
 |none=>rw [hcc] at hcur';exact ⟨hcur'.1,htm hcur'.2⟩
 |reg ops k rest=>rw [hcc] at hcur';exact ⟨hcur'.1,hcur'.2.1,htm hcur'.2.2⟩
 |draw ops done rest pa=>rw [hcc] at b4;cases b4
theorem Q2b.JD (hc:Yz U vs K π X X') (hk:frG U vs K π a t=true) (h1:a.fn=t.fr.fn) (h2:a.nt=t.fr.nt) (h3:erC a.cur=t.fr.cur) (h4:a.todo.map erI=t.fr.todo.map erI) (h:Q2b P G X n0 H a f):Q2b P G X' n0 H' t.af f/\Qm t.af=[]:=by
 have hb:=Qaw hc hk h1 h.1;simp only [frG,Bool.and_eq_true,Bool.not_eq_true',Nat.beq_eq] at hk;obtain ⟨b1,-,-,b4,b5,b6,b7⟩:=hk;obtain ⟨-,-,hm,is,his,hcur'⟩:=h;have htm:∀{tmps},QC X a.nt a.tm tmps->QC X' t.af.nt t.af.tm tmps:=λh=>by have:=QC.Yr hc h b6 b7;rw [h2] at this;exact this
 have hids:Qm t.af=[]:=by
  unfold Qm;show (match t.fr.cur with| .draw _ _ _ pa=>pa.map (·.2)|_=>[])=[];rw [<-h3];cases hcc:a.cur with
  |draw ops done rest pa=>rfl
  |_=>rfl
 refine ⟨⟨hb,rfl,hm,is,?_,?_⟩,hids⟩;show Yj X' t.fr.todo is;exact Q90 hc b5 h4 his;show match t.fr.cur with
  | .none=>_
  | .reg ops k rest=>_
  | .draw ops done rest pa=>_
 rw [<-h3];cases hcc:a.cur with
 |none=>rw [hcc] at hcur';exact ⟨hcur'.1,htm hcur'.2⟩
 |reg ops k rest=>rw [hcc] at hcur';exact ⟨hcur'.1,hcur'.2.1,hcur'.2.2.1,htm hcur'.2.2.2⟩
 |draw ops done rest pa=>
  rw [hcc] at hcur' b4;show ∃(A:Array Oper) (fuel tp:Nat) (listed:Array Bool) (i:Nat) (rc:List Nat) (rest' :List (Nat×List Nat)) (o:Oper),_;obtain ⟨A,fuel,tp,listed,i,rc,rest',o,g1,g2,g3,g4,g5,g6,g7,g8,D⟩:=hcur';subst g2;have hall:∀j,done.testBit j=true->Lst listed j:=λj hj=>by
   obtain ⟨i',rc',r',e,hl⟩:=Qfm b4;cases e;refine D.before g3 g8 ?_;have:(Nat.land done (((Q56 ops 0 (.sk ops.length)).get i).getD 0)).testBit j=true:=by rw [hl];exact hj
   change (done &&& _).testBit j=true at this
   rw [Nat.testBit_and,Bool.and_eq_true] at this;exact this.2
  have htm' :QC X' t.af.nt t.af.tm f.tmps:=htm ⟨D.tmr.1,λu=>D.tmr.2 u λj oj hj hl _=>absurd (hall j hj) hl⟩;exact ⟨A,fuel,tp,listed,i,rc,rest',o,g1,rfl,g3,g4,g5,g6,g7,g8,D.size,D.sub,D.closed,D.plan,D.light,D.looks,D.inRange,⟨htm'.1,λu _=>htm'.2 u⟩,λj oj hj hl _=>absurd (hall j hj) hl⟩
theorem Q0o (hc:Yz U vs K π X X') {o:Q7} {g:ObG} {p:Place} {ob:Option Obj} (h:rkG U vs K π o g=true) (hkey:∀q,g= .lp q->Qm0 (some o)=some q.key) (r:ji X o p ob):ji X' g.ob p ob/\g.ob.live=o.live/\g.ob.rw=o.rw:=by
 cases g with
 |o o' =>simp only [rkG,Bool.or_eq_true] at h;rcases h with h|h;exact zJ hc h r;split at h;obtain ⟨k1,k2,k3⟩:=qd hc.cast h r;exact ⟨k1,k2,k3⟩;cases h
 |lp g=>have hk:=hkey g rfl;simp only [rkG] at h;split at h;simp only [Qm0,Option.some.injEq,LpG.key,Prod.mk.injEq] at hk;obtain ⟨e1,e2,e3,e4,e5,e6,e7⟩:=hk;subst e1 e2 e3 e4 e5 e6 e7;simp only [Bool.and_eq_true,Nat.beq_eq] at h;obtain ⟨rfl,hkd,h1,h2⟩:=h;obtain ⟨tmps,d',k1,k2,q,k3,k4⟩:=r;exact ⟨⟨tmps,d',k1,QC.Yr hc k2 h1 h2,q,by rw [hc.kept _ hkd];exact k3,k4⟩,rfl,rfl⟩;cases h
 |df=>simp only [rkG] at h;split at h;exact ⟨r,rfl,rfl⟩;cases h
theorem Qh9 {o:Q7} {g:ObG} (h:rkG U vs K π o g=true):g.ob.Q5o=o.Q5o:=by
 cases g with
 |o o' =>simp only [rkG,Bool.or_eq_true] at h;rcases h with h|h;exact Qab h;split at h;exact Q7e h;cases h
 |lp g=>simp only [rkG] at h;split at h;rfl;cases h
 |df=>simp only [rkG] at h;split at h;rfl;cases h
noncomputable def Qmr (U:Sb) (vs:List Nat) (K:Nat->Bool) (π:Nat->Nat) (x:Option Q7) (g:ObG):Bool:=
 match x with
 |some o=>rkG U vs K π o g
 |none=>false
noncomputable def Qk4 (U:Sb) (vs:List Nat) (K:Nat->Bool) (π:Nat->Nat) (H:Tr Q7):List (Nat×ObG)->Bool
 |[]=>true
 |e::l=>K e.1&&(Qmr U vs K π (H.get (π e.1)) e.2&&(l.all (λf=>!Nat.beq (π e.1) (π f.1))&&Qk4 U vs K π H l))
theorem Qac {H:Tr Q7}:∀{l:List (Nat×ObG)},Qk4 U vs K π H l=true->Q4n H π l=Q4o l->∀e∈l,K e.1=true/\∃o,H.get (π e.1)=some o/\rkG U vs K π o e.2=true/\∀q,e.2= .lp q->Qm0 (some o)=some q.key
 |[],_,_,e,he=>by cases he
 |a::l,h,hk,e,he=>by
  simp only [Qk4,Bool.and_eq_true] at h;obtain ⟨b,g⟩:=a;have hk2:Q4n H π l=Q4o l/\∀q,g= .lp q->Qm0 (H.get (π b))=some q.key:=by
   cases g with
   |lp q0=>simp only [Q4n,Q4o,List.cons.injEq] at hk;exact ⟨hk.2,λq e=>by cases e;exact hk.1⟩
   |o o' =>simp only [Q4n,Q4o] at hk;exact ⟨hk,λq e=>by cases e⟩
   |df=>simp only [Q4n,Q4o] at hk;exact ⟨hk,λq e=>by cases e⟩
  rcases List.mem_cons.1 he with rfl|he;refine ⟨h.1,?_⟩;have h2:=h.2.1;unfold Qmr at h2;split at h2;rename_i o ho;exact ⟨o,ho,h2,λq e=>by rw [<-ho];exact hk2.2 q e⟩;cases h2;exact Qac h.2.2.2 hk2.1 e he
theorem Qad {H:Tr Q7}:∀{l:List (Nat×ObG)},Qk4 U vs K π H l=true->∀e∈l,∀f∈l,π e.1=π f.1->e.1=f.1
 |[],_,e,he,_,_,_=>by cases he
 |a::l,h,e,he,f,hf,heq=>by
  simp only [Qk4,Bool.and_eq_true,List.all_eq_true,Bool.not_eq_true'] at h;have no:∀g∈l,π a.1≠π g.1:=λg hg e=>by have:=h.2.2.1 g hg;rw [e] at this;simp at this
  rcases List.mem_cons.1 he with e1|e1<;>rcases List.mem_cons.1 hf with f1|f1;rw [e1,f1];rw [e1] at heq;exact absurd heq (no f f1);rw [f1] at heq;exact absurd heq.symm (no e e1);exact Qad h.2.2.2 e e1 f f1 heq
theorem Qq.JD {w:World} {l:List (Nat×ObG)} {room:Nat} (h:Qq X n0 H w) (hc:Yz U vs K π X X') (hlt:∀b p,X'.V b=some p->p.blk<w.heap.size) (hk:Qk4 U vs K π H l=true) (hkey:Q4n H π l=Q4o l):Qq X' n0 (Q29 room (l.map λq=>(q.1,q.2.ob))) w:=by
 have base:∀b o' p,(Q29 room (l.map λq=>(q.1,q.2.ob))).get b=some o' ->X'.V b=some p->X.V (π b)=some p/\∃g,(b,g)∈l/\o' =g.ob/\∃o,H.get (π b)=some o/\rkG U vs K π o g=true/\∀q,g= .lp q->Qm0 (some o)=some q.key:=λb o' p hb hp=>by obtain ⟨⟨b',g⟩,hm,e⟩:=List.mem_map.1 (Je hb);simp only [Prod.mk.injEq] at e;obtain ⟨rfl,rfl⟩:=e;obtain ⟨k1,o,k2,k3,k4⟩:=Qac hk hkey _ hm;exact ⟨by rw [<-hc.kept b' k1];exact hp,g,hm,rfl,o,k2,k3,k4⟩
 refine ⟨λb o' p hb hp=>?_,λb b' o1 o2 p p' hb hb' l1 l2 hp hp' e=>?_,hlt,λb o' p hb hr hp=>?_⟩;obtain ⟨g1,g,-,rfl,o,g2,g3,g4⟩:=base b o' p hb hp;exact (Q0o hc g3 g4 (h.obj _ o p g2 g1)).1
 obtain ⟨g1,g,gm,rfl,o,g2,g3,g4⟩:=base b o1 p hb hp;obtain ⟨g5,g',gm',rfl,q,g6,g7,g8⟩:=base b' o2 p' hb' hp';have e1:=(Q0o hc g3 g4 (h.obj _ o p g2 g1)).2.1
 exact Qad hk _ gm _ gm' (h.inj _ _ o q p p' g2 g6 (by rw [<-e1];exact l1) (by rw [<-Qh9 g7];exact l2) g1 g5 e);obtain ⟨g1,g,-,rfl,o,g2,g3,g4⟩:=base b o' p hb hp;have e1:=(Q0o hc g3 g4 (h.obj _ o p g2 g1)).2.2
 exact h.own _ o p g2 (by rw [<-e1];exact hr) g1
end
abbrev sk4G (a:Qg):Nat×Nat×jk×List Qj:=(a.fn,a.nt,erC a.cur,a.todo.map erI)
abbrev FrG.sk4 (a:FrG):Nat×Nat×jk×List Qj:=(a.fr.fn,a.fr.nt,a.fr.cur,a.fr.todo.map erI)
theorem Z0.JD {P:Program} {G:Env} {n0:Nat} {H H' :Tr Q7} {X X' :Ext} {U:Sb} {vs:List Nat} {K:Nat->Bool} {π:Nat->Nat} (hc:Yz U vs K π X X'):∀{as:List Qg} {ts:List FrG} {cs:List Frame},Qm3 U vs K π as ts=true->as.map sk4G=ts.map FrG.sk4->Z0 P G X n0 H as cs->Z0 P G X' n0 H' (ts.map FrG.af) cs/\(ts.map FrG.af).flatMap Qm=[]
 |[],ts,cs,hk,e,h=>by
  cases ts with
  |nil=>exact ⟨h,rfl⟩
  |cons t ts=>simp [Qm3] at hk
 |a::as,ts,cs,hk,e,h=>by
  cases ts with
  |nil=>simp [Qm3] at hk
  |cons t ts=>simp only [Qm3,Bool.and_eq_true] at hk;simp only [List.map_cons,List.cons.injEq] at e;obtain ⟨e1,e2⟩:=e;simp only [sk4G,FrG.sk4,Prod.mk.injEq] at e1;obtain ⟨f,fs,rfl,h1,h2⟩:=h;obtain ⟨k1,k2⟩:=Q2b.JD (H' :=H') hc hk.1 e1.1 e1.2.1 e1.2.2.1 e1.2.2.2 h1;obtain ⟨k3,k4⟩:=Z0.JD hc hk.2 e2 h2;refine ⟨⟨f,fs,rfl,k1,k3⟩,?_⟩;simp only [List.map_cons,List.flatMap_cons,k2,k4,List.append_nil]
noncomputable def Qi4 (U:Sb) (keep:List Nat) (π:List (Nat×Nat)) (ng:Nat) (t:StG) (s:AM):Bool:=
 qE s.fr.cur&&(frG U t.vs (QK ng keep) (Q85 π) s.fr t.fr&&(Qm3 U t.vs (QK ng keep) (Q85 π) s.cs t.cs&&(Qk4 U t.vs (QK ng keep) (Q85 π) s.H t.l&&(Qcz U t.vs s.ctx t.fs&&
  (Nat.ble ng t.next&&(keep.all (λb=>Nat.blt b t.next)&&(t.vs.all (λi=>Nat.blt i t.next)&&(t.vs.all (λi=>!QK ng keep i||s.ctx.vs.any (Nat.beq (Q85 π i)))&&π.all (λp=>Nat.ble ng p.1)))))))))
abbrev GKey:=(Nat×Nat×jk×List Qj)×List (Nat×Nat×jk×List Qj)×List (Option Qop)×Bool
noncomputable def Q6u (U:Sb) (keep:List Nat) (π:List (Nat×Nat)) (ng:Nat) (t:StG) (s:AM):GKey:=AM.rec (motive:=λ_=>GKey) (λfr cs H nx c=>(sk4G fr,cs.map sk4G,Q4n H (Q85 π) t.l,Qi4 U keep π ng t ⟨fr,cs,H,nx,c⟩)) s
def StG.key (t:StG):GKey:=(t.fr.sk4,t.cs.map FrG.sk4,Q4o t.l,true)
def HopG (L:Nat) (spec:Spec) (G:Env) (n k:Nat) (s:AM) (j:List Nat) (U:Sb) (keep:List Nat) (π:List (Nat×Nat)) (t:StG):Prop:=Q6u U keep π G.T.ng t (Qe8 L spec G n k j s)=t.key
section
variable {P:Program} {G:Env} {n0:Nat} {w0:World} {cs0:List Frame}
theorem Qas {Y:Ext} {s:AM} {m:Machine} {U:Sb} {keep:List Nat} {π:List (Nat×Nat)} {t:StG} {room:Nat} (h1:Sim P G n0 w0 cs0 Y s m) (hng:0<G.T.ng) (hh:Q6u U keep π G.T.ng t s=t.key):
 Sim P G n0 w0 cs0 (Q1u U t.vs (QK G.T.ng keep) (Q85 π) Y) (t.am room) m/\Yz U t.vs (QK G.T.ng keep) (Q85 π) Y (Q1u U t.vs (QK G.T.ng keep) (Q85 π) Y):=by
 obtain ⟨fr1,cs1,H1,nx1,c1⟩:=s;simp only [Q6u,StG.key,Prod.mk.injEq] at hh;obtain ⟨e0,e1,ek,hb⟩:=hh;simp only [Qi4,Bool.and_eq_true,List.all_eq_true,Nat.ble_eq,Nat.blt_eq,Bool.or_eq_true,Bool.not_eq_true'] at hb;obtain ⟨b5,b6,b8,b9,b10,b11,b12,b13,b14,b15⟩:=hb;have hlow:∀g,g<G.T.ng->Q85 π g=g:=λg hg=>Qa9 (n:=G.T.ng) (List.all_eq_true.2 λp hp=>by rw [Nat.ble_eq];exact b15 p hp) hg
 have hKg:∀b,b<G.T.ng->QK G.T.ng keep b=true:=λb hb=>by unfold QK;rw [show Nat.blt b G.T.ng=true from by rw [Nat.blt_eq];exact hb];rfl
 have hKn:∀b,t.next<=b->QK G.T.ng keep b=false:=λb hb=>by
  unfold QK;rw [Bool.or_eq_false_iff];refine ⟨?_,?_⟩;cases hh:Nat.blt b G.T.ng with
  |false=>rfl
  |true=>rw [Nat.blt_eq] at hh;omega
  rw [List.any_eq_false];intro c hc he;have:b=c:=by simpa using he
  subst this;have:=b12 b hc;omega
 obtain ⟨fr,fs,w,rfl,hF,hall,hHr,hB,h0⟩:=h1.ex;obtain ⟨k0,hk0⟩:=h1.Qo 0 hng;have hc:Yz U t.vs (QK G.T.ng keep) (Q85 π) Y (Q1u U t.vs (QK G.T.ng keep) (Q85 π) Y):=by
  refine ⟨λi hi=>⟨?_,by simp only [Q1u,if_pos hi],rfl⟩,λb hb=>by simp only [Q1u,if_pos hb]⟩;by_cases hk:QK G.T.ng keep i=true;obtain ⟨p,hp⟩:=(b14 i hi).elim (λh' =>by rw [hk] at h';cases h') λh' =>h1.ctx.1 _ (any_beq h')
  exact ⟨p,by simp only [Q1u,if_pos hk,hp]⟩;exact ⟨_,by simp only [Q1u,if_neg hk,if_pos hi];exact hk0⟩
 have hlt:∀b p,(Q1u U t.vs (QK G.T.ng keep) (Q85 π) Y).V b=some p->p.blk<w.heap.size:=λb p hp=>by simp only [Q1u] at hp;split at hp;exact hHr.lt _ p hp;split at hp;exact hHr.lt 0 p hp;cases hp
 obtain ⟨g1,g2⟩:=Q87.JD (H' :=Q29 room (t.l.map λq=>(q.1,q.2.ob))) hc b6 b5 e0.1 e0.2.1 e0.2.2.1 e0.2.2.2 hF;obtain ⟨g3,g4⟩:=Z0.JD (H' :=Q29 room (t.l.map λq=>(q.1,q.2.ob))) hc b8 e1 hall;refine ⟨⟨⟨fr,fs,w,rfl,g1,g3,Qq.JD hHr hc hlt b9 ek,hB,h0⟩,Jj hc.cast h1.ctx b10,λg hg=>?_,λb hb=>?_,?_⟩,hc⟩;obtain ⟨n,hn⟩:=h1.Qo g hg;exact ⟨n,by simp only [Q1u,if_pos (hKg g hg),hlow g hg];exact hn⟩;simp only [Q1u];have hb' :t.next<=b:=hb;rw [if_neg (by rw [hKn b hb'];simp),if_neg (λhm=>by have:=b13 b hm;omega)];have e:(t.am room).fr::(t.am room).cs=t.fr.af::t.cs.map FrG.af:=rfl
 rw [e,List.flatMap_cons,g2,g4];simp
theorem HopG.ends (hT:G.T.OK P) (hI:YL.OK P G.I) (hS:ZE P G n0) (hng:0<G.T.ng) {L:Nat} {f:FuncId} {s:AM} {n k room:Nat} {j:List Nat} {U:Sb} {keep:List Nat} {π:List (Nat×Nat)} {t:StG} (hh:HopG L Q0i G n k s j U keep π t)
 (he:∀X m,Sim P G n0 w0 cs0 X (t.am room) m->Qp P n0 w0 cs0 f m) {X:Ext} {m:Machine} (h:Sim P G n0 w0 cs0 X s m):Qp P n0 w0 cs0 f m:=by
 obtain ⟨Y,m',st,-,h1⟩:=Ze hT hI hS (Q4c (L:=L) JX n k j s) h;exact .of_steps st (he _ _ (Qas (room:=room) h1 hng hh).1)
theorem Sim.partA {X:Ext} {s:AM} {m:Machine} (h:Sim P G n0 w0 cs0 X s m) (op:BinOp) (a b:E) (ha:a.okB s.ctx.vs=true) (hb:b.okB s.ctx.vs=true):
 Sim P G n0 w0 cs0 X { s with ctx:=⟨⟨op,a,b,true⟩::s.ctx.fs,s.ctx.vs⟩} m\/Sim P G n0 w0 cs0 X { s with ctx:=⟨⟨op,a,b,false⟩::s.ctx.fs,s.ctx.vs⟩} m:=by
 have key:∀v,(Fact.mk op a b v).ok X.O->Sim P G n0 w0 cs0 X { s with ctx:=⟨⟨op,a,b,v⟩::s.ctx.fs,s.ctx.vs⟩} m:=λv hv=>by refine ⟨h.ex,⟨h.ctx.1,λf hm=>?_⟩,h.Qo,h.fresh,h.ids⟩;rcases List.mem_cons.1 hm with rfl|hm;exact ⟨hv,E.ZM h.ctx.1 ha,E.ZM h.ctx.1 hb⟩;exact h.ctx.2 f hm
 have hdec:(Fact.mk op a b true).ok X.O\/(Fact.mk op a b false).ok X.O:=by unfold Fact.ok;cases Yf op (a.den X.O) (b.den X.O)<;>simp
 rcases hdec with h' |h';exact .inl (key _ h')
 exact .inr (key _ h')
end
end Go.Ax
namespace Go.Ax
open Go.RowKit
structure Tgt where
 U:Sb
 keep:List Nat
 π:List (Nat×Nat)
 t:StG
abbrev Lf:=Nat×Option GKey
noncomputable def Qjy (ng:Nat) (s:AM):List Tgt->Nat->Option Lf
 |[],_=>none
 |q::l,i=>bif Qi4 q.U q.keep q.π ng q.t s then some (i,some (Q6u q.U q.keep q.π ng q.t s)) else Qjy ng s l (i+1)
theorem Qa6 {ng:Nat} {s:AM}:∀{l:List Tgt} {i:Nat} {e:Lf},Qjy ng s l i=some e->∃j q,l[j]?=some q/\e=(i+j,some (Q6u q.U q.keep q.π ng q.t s))
 |[],i,e,h=>by cases h
 |q::l,i,e,h=>by
  simp only [Qjy] at h;cases hb:Qi4 q.U q.keep q.π ng q.t s with
  |true=>rw [hb] at h;simp only [cond_true,Option.some.injEq] at h;exact ⟨0,q,rfl,by rw [<-h,Nat.add_zero]⟩
  |false=>rw [hb] at h;simp only [cond_false] at h;obtain ⟨j,q',h1,h2⟩:=Qa6 h;exact ⟨j+1,q',by simpa using h1,by rw [h2];congr 1;omega⟩
abbrev Pat:=Nat×Nat×Nat×Nat×Nat
noncomputable def calB (c:Nat) (l:List Oper):Bool:=
 match l with
 |o::_=>match o.op with
  | .call q=>match q.callee with
   | .value (.func g)=>Nat.beq (g+1) c
   |_=>Nat.beq 0 c
  |_=>Nat.beq 0 c
 |[]=>Nat.beq 0 c
noncomputable def patB (s:AM) (p:Pat):Bool:=Nat.beq s.cs.length p.1&&(Nat.beq s.fr.fn p.2.1&&(match s.fr.cur with| .reg _ k rest=>Nat.beq k p.2.2.1&&(Nat.beq rest.length p.2.2.2.1&&calB p.2.2.2.2 rest)|_=>false))
inductive GR where
 |go (s:AM)
 |at (s:AM) (e:Lf)
 |blk (s:AM)
def GR.state:GR->AM
 | .go s=>s
 | .at s _=>s
 | .blk s=>s
noncomputable def Qn4 (r:Res):Bool:=
 match r with
 | .next _=>true
 |_=>false
noncomputable def gr2 (G:Env) (s:AM):GR:=bif Qn4 (Zy G s) then .go s else .blk s
noncomputable def gr1 (L:Nat) (spec:Spec) (G:Env) (n k:Nat) (ps:List Pat) (ts:List Tgt) (s:AM):GR:=AM.rec (motive:=λ_=>GR) (λfr cs H nx c=>bif ps.any (patB ⟨fr,cs,H,nx,c⟩) then (match Qjy G.T.ng ⟨fr,cs,H,nx,c⟩ ts 0 with|some e=> .at ⟨fr,cs,H,nx,c⟩ e|none=>gr2 G ⟨fr,cs,H,nx,c⟩) else gr2 G ⟨fr,cs,H,nx,c⟩) (Qh7 L spec G n k s).state
noncomputable def Qgl (L:Nat) (spec:Spec) (G:Env) (n k:Nat) (ps:List Pat) (ts:List Tgt) (i:Nat):AM->GR:=
 Nat.rec (motive:=λ_=>AM->GR) (λs=>gr1 L spec G n k ps ts s)
  (λ_ ih s=>GR.rec (motive:=λ_=>GR) (λs=>ih s) (λs e=> .at s e) (λs=> .blk s) (ih s)) i
theorem Qno {L:Nat} {spec:Spec} {G:Env} (hs:Zm G spec) (n k:Nat) (ps:List Pat) (ts:List Tgt) (s:AM):QX G s (gr1 L spec G n k ps ts s).state/\∀t e,gr1 L spec G n k ps ts s= .at t e->Qjy G.T.ng t ts 0=some e:=by
 have h:=Q4b (L:=L) hs n k s;unfold gr1;generalize (Qh7 L spec G n k s).state=t at h
 obtain ⟨fr,cs,H,nx,c⟩:=t;have g2:(gr2 G ⟨fr,cs,H,nx,c⟩).state=⟨fr,cs,H,nx,c⟩/\∀t e,gr2 G ⟨fr,cs,H,nx,c⟩≠ .at t e:=by unfold gr2;cases Qn4 (Zy G ⟨fr,cs,H,nx,c⟩)<;>exact ⟨rfl,λ_ _ h=>by cases h⟩
 show QX G s (GR.state (bif ps.any (patB ⟨fr,cs,H,nx,c⟩) then _ else _))/\∀t e,(bif ps.any (patB ⟨fr,cs,H,nx,c⟩) then _ else _)=GR.at t e->_;cases ps.any (patB ⟨fr,cs,H,nx,c⟩);simp only [cond_false];exact ⟨by rw [g2.1];exact h,λt e he=>absurd he (g2.2 t e)⟩;simp only [cond_true];cases hsel:Qjy G.T.ng ⟨fr,cs,H,nx,c⟩ ts 0 with
 |none=>exact ⟨by simp only;rw [g2.1];exact h,λt e he=>absurd he (g2.2 t e)⟩
 |some e=>exact ⟨h,λt e' he=>by simp only [GR.at.injEq] at he;obtain ⟨rfl,rfl⟩:=he;exact hsel⟩
theorem Q92 {L:Nat} {spec:Spec} {G:Env} (hs:Zm G spec) (n k:Nat) (ps:List Pat) (ts:List Tgt):∀(i:Nat) (s:AM),QX G s (Qgl L spec G n k ps ts i s).state/\∀t e,Qgl L spec G n k ps ts i s= .at t e->Qjy G.T.ng t ts 0=some e
 |0,s=>Qno hs n k ps ts s
 |i+1,s=>by
  have h:=Q92 (L:=L) hs n k ps ts i s;have e:Qgl L spec G n k ps ts (i+1) s=GR.rec (motive:=λ_=>GR) (λs=>Qgl L spec G n k ps ts i s) (λs e=> .at s e) (λs=> .blk s) (Qgl L spec G n k ps ts i s):=rfl;rw [e];cases hr:Qgl L spec G n k ps ts i s with
  |go t=>rw [hr] at h;have h2:=Q92 (L:=L) hs n k ps ts i t;exact ⟨h.1.trans h2.1,h2.2⟩
  |«at» t e=>rw [hr] at h;exact h
  |blk t=>rw [hr] at h;exact h
noncomputable def J9 (L:Nat) (spec:Spec) (G:Env) (n k i:Nat) (ps:List Pat) (ts:List Tgt) (f:FuncId):Nat->List Bool->AM->List Lf->Option (List Lf)
 |0,_,_,_=>none
 |d+1,p,s,acc=>match Qgl L spec G n k ps ts i s with
  | .go _=>none
  | .at _ e=>some (e::acc)
  | .blk s=>match Zy G s with
   | .fin=>bif ZI spec G n f (λc v=>(Sp.lit true).chk c v) k 1 [] s then some acc else none
   | .ask op a b=>bif a.okB s.ctx.vs&&b.okB s.ctx.vs then (match p with
    |[]=>match J9 L spec G n k i ps ts f d [] { s with ctx:=s.ctx.add ⟨op,a,b,true⟩} acc with
     |some acc=>J9 L spec G n k i ps ts f d [] { s with ctx:=s.ctx.add ⟨op,a,b,false⟩} acc
     |none=>none
    |true::p=>J9 L spec G n k i ps ts f d p { s with ctx:=s.ctx.add ⟨op,a,b,true⟩} acc
    |false::p=>J9 L spec G n k i ps ts f d p { s with ctx:=s.ctx.add ⟨op,a,b,false⟩} acc) else none
   |_=>none
section
variable {L:Nat} {spec:Spec} {G:Env} {n k i:Nat} {ps:List Pat} {ts:List Tgt} {f:FuncId}
theorem YS:∀(d:Nat) (p:List Bool) (s:AM) (acc:List Lf),J9 L spec G n k i ps ts f d p s acc=(J9 L spec G n k i ps ts f d p s []).map (. ++acc)
 |0,_,_,_=>rfl
 |d+1,p,s,acc=>by
  simp only [J9];cases Qgl L spec G n k ps ts i s with
  |go t=>rfl
  |«at» t e=>rfl
  |blk t=>
   simp only;cases Zy G t with
   |next u=>rfl
   |fail w=>rfl
   |fin=>simp only;cases ZI spec G n f (λc v=>(Sp.lit true).chk c v) k 1 [] t<;>simp
   |ask op a b=>
    simp only;cases (a.okB t.ctx.vs&&b.okB t.ctx.vs) with
    |false=>rfl
    |true=>
     simp only [cond_true];cases p with
     |nil=>
      simp only;rw [YS d [] _ acc];cases J9 L spec G n k i ps ts f d [] { t with ctx:=t.ctx.add ⟨op,a,b,true⟩} [] with
      |none=>rfl
      |some u=>
       simp only [Option.map_some];rw [YS d [] _ (u++acc),YS d [] _ u];cases J9 L spec G n k i ps ts f d [] { t with ctx:=t.ctx.add ⟨op,a,b,false⟩} [] with
       |none=>rfl
       |some v=>simp
     |cons c p=>cases c<;>exact YS d p _ acc
theorem jq:∀(d:Nat) (p:List Bool) (s:AM) {u v:List Lf},J9 L spec G n k i ps ts f d (p++[true]) s []=some u->J9 L spec G n k i ps ts f d (p++[false]) s []=some v->∃w,J9 L spec G n k i ps ts f d p s []=some w/\∀e∈w,e∈u\/e∈v
 |0,p,s,u,v,h1,_=>by cases h1
 |d+1,p,s,u,v,h1,h2=>by
  simp only [J9] at h1 h2 ⊢;cases hg:Qgl L spec G n k ps ts i s with
  |go t=>rw [hg] at h1;cases h1
  |«at» t e=>rw [hg] at h1 h2;simp only at h1 h2 ⊢;exact ⟨u,h1,λe he=> .inl he⟩
  |blk t=>
   rw [hg] at h1 h2;simp only at h1 h2 ⊢;cases ha:Zy G t with
   |next u=>rw [ha] at h1;cases h1
   |fail w=>rw [ha] at h1;cases h1
   |fin=>rw [ha] at h1;exact ⟨u,h1,λe he=> .inl he⟩
   |ask op a b=>
    rw [ha] at h1 h2;simp only at h1 h2 ⊢;cases hk:(a.okB t.ctx.vs&&b.okB t.ctx.vs) with
    |false=>rw [hk] at h1;cases h1
    |true=>
     rw [hk] at h1 h2;simp only [cond_true] at h1 h2 ⊢;cases p with
     |nil=>
      simp only [List.nil_append] at h1 h2;rw [h1];simp only;rw [YS,h2];refine ⟨v++u,rfl,λe he=>?_⟩;rcases List.mem_append.1 he with h|h;exact .inr h
      exact .inl h
     |cons c p=>cases c;exact jq d p _ h1 h2;exact jq d p _ h1 h2
end
def Qon (L:Nat) (spec:Spec) (G:Env) (n k i:Nat) (ps:List Pat) (ts:List Tgt) (f:FuncId) (d:Nat) (p:List Bool) (s:AM) (idx:List Nat):Prop:=J9 L spec G n k i ps ts f d p s []=some (idx.map λj=>(j,(ts[j]?).map λq=>q.t.key))
def Q9v (L:Nat) (spec:Spec) (G:Env) (n k i:Nat) (ps:List Pat) (ts:List Tgt) (f:FuncId) (d:Nat) (p:List Bool) (s:AM):Prop:=∃u,J9 L spec G n k i ps ts f d p s []=some u/\∀e∈u,∃j q,ts[j]?=some q/\e=(j,some q.t.key)
section
variable {L:Nat} {spec:Spec} {G:Env} {n k i:Nat} {ps:List Pat} {ts:List Tgt} {f:FuncId} {d:Nat} {p:List Bool} {s:AM}
theorem Qon.q {idx:List Nat} (hj:idx.all (λj=>Nat.blt j ts.length)=true) (h:Qon L spec G n k i ps ts f d p s idx):Q9v L spec G n k i ps ts f d p s:=by
 refine ⟨_,h,λe he=>?_⟩;obtain ⟨j,h1,rfl⟩:=List.mem_map.1 he;have hlt:j<ts.length:=by
  have:=List.all_eq_true.1 hj j h1
  rwa [Nat.blt_eq] at this
 exact ⟨j,ts[j],List.getElem?_eq_getElem hlt,by rw [List.getElem?_eq_getElem hlt];rfl⟩
theorem Q9v.both (h1:Q9v L spec G n k i ps ts f d (p++[true]) s) (h2:Q9v L spec G n k i ps ts f d (p++[false]) s):Q9v L spec G n k i ps ts f d p s:=by obtain ⟨u,a1,a2⟩:=h1;obtain ⟨v,b1,b2⟩:=h2;obtain ⟨w,c1,c2⟩:=jq d p s a1 b1;exact ⟨w,c1,λe he=>(c2 e he).elim (a2 e) (b2 e)⟩
end
section
variable {P:Program} {G:Env} {n0:Nat} {w0:World} {cs0:List Frame}
theorem qL (hT:G.T.OK P) (hI:YL.OK P G.I) (hS:ZE P G n0) {spec:Spec} (hsp:Zm G spec) {L n k i:Nat} {ps:List Pat} {ts:List Tgt} {f:FuncId}:∀(d:Nat) {s:AM} {u:List Lf} {X:Ext} {m:Machine},J9 L spec G n k i ps ts f d [] s []=some u->Sim P G n0 w0 cs0 X s m->
 Qp P n0 w0 cs0 f m\/∃Y m' s' j q,Steps P m m' /\X.le Y/\Sim P G n0 w0 cs0 Y s' m' /\ts[j]?=some q/\(j,some (Q6u q.U q.keep q.π G.T.ng q.t s'))∈u
 |0,s,u,X,m,h,_=>by cases h
 |d+1,s,u,X,m,h,hs=>by
  simp only [J9] at h;have hgo:=Q92 (L:=L) hsp n k ps ts i s;obtain ⟨Y,m1,st,hle,h1⟩:=Ze hT hI hS hgo.1 hs;cases hg:Qgl L spec G n k ps ts i s with
  |go t=>rw [hg] at h;cases h
  |«at» t e=>have hsel:=hgo.2 t e hg;rw [hg] at h h1;simp only [GR.state,Option.some.injEq] at h h1;subst h;obtain ⟨j,q,e1,e2⟩:=Qa6 hsel;rw [Nat.zero_add] at e2;exact .inr ⟨Y,m1,t,j,q,st,hle,h1,e1,by rw [e2];simp⟩
  |blk t=>
   rw [hg] at h h1;simp only [GR.state] at h h1;cases ha:Zy G t with
   |next v=>rw [ha] at h;cases h
   |fail w=>rw [ha] at h;cases h
   |fin=>
    rw [ha] at h;simp only at h;cases he:ZI spec G n f (λc v=>(Sp.lit true).chk c v) k 1 [] t with
    |false=>rw [he] at h;cases h
    |true=>exact .inl (.of_steps st (Qp.Qci hT hI hS hsp he h1))
   |ask op a b=>
    rw [ha] at h;simp only at h;cases hk:(a.okB t.ctx.vs&&b.okB t.ctx.vs) with
    |false=>rw [hk] at h;cases h
    |true=>
     rw [hk] at h;simp only [cond_true] at h;simp only [Bool.and_eq_true] at hk;cases ht:J9 L spec G n k i ps ts f d [] { t with ctx:=t.ctx.add ⟨op,a,b,true⟩} [] with
     |none=>rw [ht] at h;cases h
     |some u1=>
      rw [ht] at h;simp only at h;rw [YS] at h;cases hf:J9 L spec G n k i ps ts f d [] { t with ctx:=t.ctx.add ⟨op,a,b,false⟩} [] with
      |none=>rw [hf] at h;cases h
      |some u2=>
       rw [hf] at h;simp only [Option.map_some,Option.some.injEq] at h;subst h;have lift:∀{u' :List Lf},(∀e∈u',e∈u2++u1)->(Qp P n0 w0 cs0 f m1\/∃Z m' s' j q,Steps P m1 m' /\Y.le Z/\Sim P G n0 w0 cs0 Z s' m' /\ts[j]?=some q/\(j,some (Q6u q.U q.keep q.π G.T.ng q.t s'))∈u')->
        Qp P n0 w0 cs0 f m\/∃Z m' s' j q,Steps P m m' /\X.le Z/\Sim P G n0 w0 cs0 Z s' m' /\ts[j]?=some q/\(j,some (Q6u q.U q.keep q.π G.T.ng q.t s'))∈u2++u1:=by
        intro u' hu h';rcases h' with h' |⟨Z,m',s',j,q,a1,a2,a3,a4,a5⟩;exact .inl (.of_steps st h')
        exact .inr ⟨Z,m',s',j,q,st.trans a1,hle.trans a2,a3,a4,hu _ a5⟩
       obtain ⟨v,hv⟩:=h1.ask op hk.1 hk.2;cases v with
       |true=>exact lift (λe he=>List.mem_append.2 (.inr he)) (qL hT hI hS hsp d ht hv)
       |false=>exact lift (λe he=>List.mem_append.2 (.inl he)) (qL hT hI hS hsp d hf hv)
theorem Q9v.ends (hT:G.T.OK P) (hI:YL.OK P G.I) (hS:ZE P G n0) (hng:0<G.T.ng) {L n k i room:Nat} {ps:List Pat} {ts:List Tgt} {f:FuncId} {d:Nat} {s:AM} (hh:Q9v L Q0i G n k i ps ts f d [] s)
 {X:Ext} {m:Machine} (he:∀q∈ts,∀Y X' m',X.le Y->Yz q.U q.t.vs (QK G.T.ng q.keep) (Q85 q.π) Y X' ->Sim P G n0 w0 cs0 X' (q.t.am room) m' ->Qp P n0 w0 cs0 f m') (h:Sim P G n0 w0 cs0 X s m):Qp P n0 w0 cs0 f m:=by
 obtain ⟨u,h1,h2⟩:=hh;rcases qL hT hI hS JX d h1 h with h' |⟨Y,m',s',j,q,st,hle,hs',hj,hm⟩;exact h';obtain ⟨j',q',hj',e⟩:=h2 _ hm;simp only [Prod.mk.injEq,Option.some.injEq] at e;obtain ⟨rfl,e⟩:=e;rw [hj] at hj';cases hj';obtain ⟨k1,k2⟩:=Qas (room:=room) hs' hng e;exact .of_steps st (he q (List.mem_of_getElem? hj) Y _ _ hle k2 k1)
end
end Go.Ax
namespace Go.Ax
open Go.RowKit
noncomputable def Qhw (v:Value):AV:=
 match v with
 | .int k z=> .int k (.lit z)
 | .string s=> .str (s.data.toList.map λb=> .lit (.ofNat b.toNat))
 |_=> .undef
def Q1h:Sp->Bool
 | .int .. | .str _=>true
 |_=>false
theorem Qao {X:Ext} {sp:Sp} {v:Value} (h:Q1h sp=true) (hv:sp.has v):(Qhw v).rel X v:=by
 cases sp<;>simp only [Q1h,Bool.false_eq_true] at h<;>simp only [Sp.has] at hv;obtain ⟨z,rfl,-,-⟩:=hv;simp only [Qhw,AV.rel];exact ⟨trivial,rfl⟩;obtain ⟨s,rfl,-⟩:=hv;simp only [Qhw,AV.rel];refine ⟨λt ht=>?_,?_⟩;obtain ⟨b,-,rfl⟩:=List.mem_map.1 ht;exact ⟨trivial,by simp only [E.den];exact Int.natCast_nonneg _,by simp only [E.den,Int.ofNat_eq_natCast];have:=b.toNat_lt;omega⟩;congr 1;have:S.bytes X.O (s.data.toList.map λb=>E.lit (.ofNat b.toNat))=s.data.toList:=by
  unfold S.bytes;rw [List.map_map]
  conv=>rhs;rw [<-List.map_id s.data.toList]
  refine List.map_congr_left λb _=>?_
  simp [E.den]
 rw [this]
theorem Q6m {X:Ext}:∀{sps:List Sp} {vs:List Value},sps.all Q1h=true->Sp.yB sps vs->AV.QH X (vs.map Qhw) vs
 |[],vs,_,h=>by simp only [Sp.yB] at h;subst h;simp
 |s::l,vs,hf,h=>by simp only [Sp.yB] at h;obtain ⟨v,vs',rfl,h1,h2⟩:=h;simp only [List.all_cons,Bool.and_eq_true] at hf;simp only [List.map_cons,rels_cons_cons];exact ⟨Qao hf.1 h1,Q6m hf.2 h2⟩
theorem Qhv {X:Ext} {sp:Sp} {v u:Value} (h:Q1h sp=true) (hv:sp.has v) (r:(Qhw v).rel X u):u=v:=by cases sp<;>simp only [Q1h,Bool.false_eq_true] at h<;>simp only [Sp.has] at hv;obtain ⟨z,rfl,-,-⟩:=hv;simp only [Qhw,AV.rel] at r;exact r.2;obtain ⟨s,rfl,-⟩:=hv;have r2:=Qao (X:=X) (sp:= .str s.size) (v:= .string s) rfl (by simp only [Sp.has];exact ⟨s,rfl,Nat.le_refl _⟩);simp only [Qhw,AV.rel] at r r2;rw [r.2,r2.2]
theorem Q0t {X:Ext}:∀{sps:List Sp} {vs us:List Value},sps.all Q1h=true->Sp.yB sps vs->AV.QH X (vs.map Qhw) us->us=vs
 |[],vs,us,_,h,r=>by simp only [Sp.yB] at h;subst h;simpa using r
 |s::l,vs,us,hf,h,r=>by simp only [Sp.yB] at h;obtain ⟨v,vs',rfl,h1,h2⟩:=h;simp only [List.all_cons,Bool.and_eq_true] at hf;simp only [List.map_cons] at r;obtain ⟨u,us',rfl,r1,r2⟩:=Q8.1 r;rw [Qhv hf.1 h1 r1,Q0t hf.2 h2 r2]
noncomputable def StG.rdS (t:StG) (room d1 d2:Nat) (sps:List Sp):AM:=
 match t.fr.fr.cur with
 | .reg ops k rest=>match Sp.qX sps t.next with
  |some r=>⟨{ t.fr.af with tm:=(t.fr.af.tm.set d1 .top).set d2 (.agg r.v),cur:= .reg ops (k+1+1) (rest.drop 2)},t.cs.map FrG.af,Q29 room (t.l.map λq=>(q.1,q.2.ob)),r.next,⟨r.fs++t.fs,r.vs++t.vs⟩⟩
  |none=>t.am room
 |_=>t.am room
section
variable {P:Program} {G:Env} {n0:Nat} {w0:World} {cs0:List Frame}
theorem Sim.readS (hT:G.T.OK P) (hI:YL.OK P G.I) (hng:0<G.T.ng) {X:Ext} {t:StG} {room:Nat} {m:Machine} (h:Sim P G n0 w0 cs0 X (t.am room) m) {ops:List Oper} {k:Nat} {o1 o2:Oper} {rest:List Oper} (hc:t.fr.fr.cur= .reg ops k (o1::o2::rest)) (hcs:t.cs=[])
 (hg1:o1.guard=none) (hg2:o2.guard=none) {d1 d2 a c t1 t2 te b li es:Nat} {e:E} (hd1:o1.dst=some d1) (hd2:o2.dst=some d2) (hne:d1≠d2) (hl1:d1<t.fr.fr.nt) (hl2:d2<t.fr.fr.nt)
 (ho1:o1.op= .indexAddr t1 (.tmp a) (.tmp c)) (ho2:o2.op= .load t2 (.tmp d1)) {ti ei t2i:TI} (ht1:G.T.ty t1=some ti) (hts:ti.desc= .slice te) (hte:G.T.ty te=some ei) (hes:ei.size=es) (ht2:G.T.ty t2=some t2i) (h2a:yA t2i.desc=true) (h2s:t2i.size=es)
 (ha:(t.am room).fr.tm.get a=some (.wslice b 0 0 es li)) (hi:(t.am room).fr.tm.get c=some (.int .i64 e)) (h0:0<=e.den X.O) (hlt:e.den X.O<X.O.int li)
 {pl:Place} (hpl:X.V b=some pl) (hin:pl.blk<n0) {n:Nat} (hn:X.O.int li=n) {sps:List Sp} (hfl:sps.all Q1h=true) {r:InL} (hr:Sp.qX sps t.next=some r)
 (hcell:∀i,i<n->∃vals:List Value,vals.length=es/\Sp.yB sps vals/\∀j u,vals[j]?=some u->w0.cell? ⟨pl.blk,pl.base+i*es+j,none⟩=some u)
 (hfree' :t.l.all (λq=>Nat.blt q.1 t.next)=true):
 ∃Y m',Steps P m m' /\X.le Y/\Sim P G n0 w0 cs0 Y (t.rdS room d1 d2 sps) m' :=by
 have hfree:∀b o,(Q29 room (t.l.map λq=>(q.1,q.2.ob))).get b=some o->b<t.next:=λb o hb=>by obtain ⟨q,hq,e⟩:=List.mem_map.1 (Je hb);have:=List.all_eq_true.1 hfree' q hq;rw [Nat.blt_eq] at this;simp only [Prod.mk.injEq] at e;omega
 obtain ⟨i,hi'⟩:∃i:Nat,e.den X.O=i:=⟨(e.den X.O).toNat,by omega⟩;have hin' :i<n:=by omega
 obtain ⟨vals,hvl,hvs,hz⟩:=hcell i hin';obtain ⟨Y,m1,st1,hle1,hs1⟩:=h.hand hT hI (s:=t.am room) rfl (ops:=ops) (k:=k) (o:=o1) (rest:=o2::rest) hc hg1 (λq hq=>by rw [ho1] at hq;cases hq) hd1 hl1 (v:= .ptr b (i*es)) (λρc w hops _=>by
  rw [ho1] at hops;have r1:=hops (.tmp a) (by simp [Op.operands]) (.wslice b 0 0 es li) (by simp only [ev,ha,Option.getD_some]);have r2:=hops (.tmp c) (by simp [Op.operands]) (.int .i64 e) (by simp only [ev,hi,Option.getD_some]);simp only [AV.rel] at r1 r2;obtain ⟨p,len,cp,hp,e1,-,hlc,hsz,-,hlen⟩:=r1;obtain ⟨-,e2⟩:=r2;rw [hpl] at hp;cases hp;have hil:i<len:=by omega
  replace e1:=e1.elim id λh=>absurd h.2 (by omega)
  refine ⟨.pointer (some ⟨pl.blk,pl.base+i*es,none⟩),?_,?_⟩;simp only [execOp,ho1,e1,e2,hi'];simp [Instr.indexAt,asIntOf,Tab.Qf hT ht1,hts,Tab.Qv hT hte,hes,QO,hil];simp only [AV.rel];exact ⟨pl,hpl,rfl⟩)
 obtain ⟨Z,m2,st2,hle2,hs2⟩:=hs1.hand hT hI (o:=o2) (rest:=rest) (by exact rfl) rfl hg2 (λq hq=>by rw [ho2] at hq;cases hq) hd2 (by exact hl2) (v:= .agg (vals.map Qhw)) (λρc w hops hb=>by
  rw [ho2] at hops;have r1:=hops (.tmp d1) (by simp [Op.operands]) (.ptr b (i*es)) (by simp only [ev,Tr.Z9,if_true,Option.getD_some]);simp only [AV.rel] at r1;obtain ⟨p,hp,e1⟩:=r1;rw [hle1.V _ _ hpl] at hp;cases hp;refine ⟨.agg vals.toArray,?_,by simp only [AV.rel];exact ⟨_,rfl,Q6m hfl hvs⟩⟩;have hv:∀j u,vals[j]?=some u->w.cell? (Addr.add ⟨pl.blk,pl.base+i*es,none⟩ j)=some u:=λj u hj=>by rw [QO,hb.cell (p:=⟨pl.blk,pl.base+i*es+j,none⟩) hin];exact hz j u hj
  have hl:=run_loadCells_list (P:=P) w ⟨pl.blk,pl.base+i*es,none⟩ vals hv;rw [hvl] at hl;simp only [execOp,ho2,e1];simp only [Instr.loadAt,Instr.sureAddr,loadVar,pure_bind,Sem.run_bind,Tab.Q0l hT ht2,h2a,Result.andThen_ok];simp [Tab.Qv hT ht2,h2s,hl])
 obtain ⟨q0,hq0⟩:=hs2.Qo 0 hng;obtain ⟨W,hN,hrr⟩:=Sp.Zw (p:=⟨0,0,q0⟩) (X:=Z) hr hvs (λb hb=>hs2.fresh b hb);obtain ⟨fr,fs,w,rfl,hF,hall,hH,hB,h00⟩:=hs2.ex;refine ⟨W,_,st1.trans st2,(hle1.trans hle2).trans hN.le,?_⟩;unfold StG.rdS;rw [hc];simp only [List.drop_succ_cons,List.drop_zero,hr];have hall' :fs=[]:=by
  have e:(t.am room).cs=[]:=by simp only [StG.am,hcs,List.map_nil]
  simp only [e] at hall;exact hall
 subst hall';refine ⟨⟨fr,[],w,rfl,?_,by simp only [hcs,List.map_nil];rfl,?_,hB,h00⟩,⟨λi hi=>?_,λf hf=>?_⟩,Ext.ZB hs2.Qo hN.le,hN.free,?_⟩;obtain ⟨hb,h'⟩:=hF;have hb' :=hb.mono hN.le;refine ⟨⟨hb'.fn,hb'.kind,hb'.ro,hb'.defers⟩,?_⟩;obtain ⟨hm,is,his,h1,h2,h3⟩:=h';refine ⟨hm,is,Ym hN.le his,h1,h2,h3.1,λu=>?_⟩;have hr' :=h3.2 u;simp only [Tr.Z9] at hr' ⊢;by_cases e2:u=d2;subst e2;simp only [if_true,Option.getD_some,AV.rel] at hr' ⊢;obtain ⟨vs',e',r'⟩:=hr';have:vs'.toList=vals:=Q0t hfl hvs r';exact ⟨vs',e',by rw [this];exact hrr⟩;simp only [if_neg e2] at hr' ⊢;by_cases e1:u=d1;subst e1;simp only [if_true,Option.getD_some] at hr' ⊢;exact Qy (X:=Z) rfl hr';simp only [if_neg e1] at hr' ⊢;exact AV.Zj hN.le _ _ hr';have hold:∀b o p,(Q29 room (t.l.map λq=>(q.1,q.2.ob))).get b=some o->W.V b=some p->Z.V b=some p:=by intro b o p ho hp;rw [<-hN.old b (hfree b o ho)];exact hp
 refine ⟨λb o p ho hp=>Zh hN.le (hH.obj b o p ho (hold b o p ho hp)),λb b' o o' p p' ho ho' hl hl' hp hp' he=>hH.inj b b' o o' p p' ho ho' hl hl' (hold b o p ho hp) (hold b' o' p' ho' hp') he,λb p hp=>?_,λb o p ho hr hp=>hH.own b o p ho hr (hold b o p ho hp)⟩;by_cases h1:b<t.next;exact hH.lt b p (by rw [<-hN.old b h1];exact hp);by_cases h2:b<r.next;rw [hN.new b (by omega) h2] at hp;cases hp;exact hH.lt 0 _ hq0;rw [hN.free b (by omega)] at hp;cases hp;rcases List.mem_append.1 hi with hi|hi;exact hN.vs i hi;exact hN.le.dom _ (hs2.ctx.1 i hi);rcases List.mem_append.1 hf with hf|hf;exact hN.fs _ hf;exact Facts.Q00 hN.le.dom hN.le.O hs2.ctx.2 f hf;simp only [hcs,List.map_nil,List.flatMap_cons,List.flatMap_nil,List.append_nil];have e:Qm ({ t.fr.af with tm:=(t.fr.af.tm.set d1 .top).set d2 (.agg r.v),cur:= .reg ops (k+1+1) rest}:Qg)=[]:=rfl;rw [e];simp
end
end Go.Ax
namespace Go.Ax
open Go.RowKit
noncomputable def Q94 (b:Nat):Sum:=λc H next as=>
 match as with
 |[.sstr (.sub (.var i) (.lit (.ofNat q)) (.len j)), .int .i64 a, .int .i64 (.lit (.ofNat k))]=>bif Nat.beq i j&&(Nat.ble 1 k&&Nat.ble k 4&&(ST.var i).small c) then
  match Go.Ax.E.cmp c .leq (.lit (.ofNat q)) (.len i) with
  |some true=>(match E.plus c a (.ofNat q) with
   |none=> .fail
   |some a' =>match E.plus c (.len i) (-(.ofNat k)) with
    |none=> .fail
    |some M=>match Go.Ax.E.cmp c .lss a (.lit 0) with
     |some false=>(match Go.Ax.E.cmp c .gtr a' M with
      |some true=>(match Go.Ax.E.cmp c .leq a (.lit 1099511627776) with
       |some true=> .ok ⟨.tuple [.int .i64 (.lit (.ofNat 0)), .int .i64 (.lit (.ofNat b))],H,next,c⟩
       |_=> .fail)
      |some false=>(match Qm9 c i a' k with
       |some e=> .ok ⟨.tuple [.int .i64 e, .int .i64 (.lit (.ofNat 0))],H,next,c⟩
       |none=> .fail)
      |none=>match E.askN c .gtr a' M with
       |(op,x,y)=> .ask op x y)
     |_=> .fail)
  |_=> .fail
  else .fail
 |_=> .fail
noncomputable def Qfa (b:Nat):Sum:=λc H next as=>
 match Q94 b c H next as with
 | .fail=>Q4q b c H next as
 |r=>r
theorem Qm2 {P:Program} {G:Env} {n0:Nat} {f:FuncId} {b:Nat}
 (h1:∀(s:ByteArray) (i k:Nat) (w:World),1<=k->k<=4->s.size<=1099511627776->i+k<=s.size->Calls P f #[.string s, .int .i64 i, .int .i64 k] w λe w' =>e= .returned (.tuple #[.int .i64 (qD ((s.data.toList.drop i).take k)), .int .i64 0])/\Below w.heap.size w w')
 (h2:∀(s:ByteArray) (i k:Nat) (w:World),1<=k->k<=4->s.size<=1099511627776->i<=1099511627776->s.size<i+k->Calls P f #[.string s, .int .i64 i, .int .i64 k] w λe w' =>e= .returned (.tuple #[.int .i64 0, .int .i64 b])/\Below w.heap.size w w'):ZL P G n0 f (Qfa b):=by
 refine ZL.or (S:=Q94 b) (S' :=Q4q b) ?_ (Qct h1 h2) λc H next as r hr=>?_
 . refine Y1 λc X H next w args vs r hr hc hargs=>?_
   unfold Q94 at hr;split at hr;rename_i i q0 j a k;cases hb:(Nat.beq i j&&(Nat.ble 1 k&&Nat.ble k 4&&(ST.var i).small c)) with
   |false=>rw [hb] at hr;cases hr
   |true=>
    rw [hb] at hr;simp only [Bool.and_eq_true,Nat.ble_eq,Nat.beq_eq] at hb;simp only [cond_true] at hr;obtain ⟨rfl,hb⟩:=hb;obtain ⟨u,vs',e1,g1,g2⟩:=Q8.1 hargs;obtain ⟨v,vs'',rfl,g3,g4⟩:=Q8.1 g2;obtain ⟨v2,vs3,rfl,g5,g6⟩:=Q8.1 g4;have:=rels_nil.1 g6;subst this;simp only [AV.rel] at g1 g3 g5;obtain ⟨k1,k2,rfl⟩:=g1;obtain ⟨ka,rfl⟩:=g3;obtain ⟨-,rfl⟩:=g5;have hdi:X.dom i:=k1.1;have hfv:(ST.var i).fit X.O:=rfl
    have hl:(X.O.str i).length<=549755813888:=ST.ZO hb.2 hc hfv
    split at hr;rename_i hq0;have z3:(q0:Int)<=((X.O.str i).length:Int):=of_decide_eq_true (Go.Ax.E.Qb rfl hq0 hc);have hden:(ST.sub (.var i) (.lit (.ofNat q0)) (.len i)).den X.O=(X.O.str i).drop q0:=by simp only [ST.den,E.den,Int.ofNat_eq_natCast,Int.toNat_natCast];rw [List.take_of_length_le (by rw [List.length_drop];omega)]
    rw [hden] at e1;have hvs:vs=#[.string ⟨((X.O.str i).drop q0).toArray⟩, .int .i64 (a.den X.O), .int .i64 k]:=by rw [<-Array.toList_inj];exact e1
    subst hvs;have hsz:(⟨((X.O.str i).drop q0).toArray⟩:ByteArray).size=(X.O.str i).length-q0:=by
     show ((X.O.str i).drop q0).toArray.size=_
     simp
    split at hr;cases hr;rename_i a' ha';obtain ⟨A1,A2⟩:=E.Z7 ha' hc ka;simp only [Int.ofNat_eq_natCast] at A2;split at hr;cases hr;rename_i M hM;obtain ⟨M1,M2⟩:=E.Z7 hM hc (show (E.len i).ok X.dom from hdi);simp only [E.den,Int.ofNat_eq_natCast] at M2;split at hr;rename_i hz;have z0:¬(a.den X.O<0):=of_decide_eq_false (Go.Ax.E.Qb rfl hz hc);obtain ⟨q,hq⟩:∃q:Nat,a.den X.O=q:=⟨(a.den X.O).toNat,by omega⟩;rw [hq];have hq' :a'.den X.O=((q+q0:Nat):Int):=by rw [A2,hq];push_cast;rfl
    split at hr;rename_i hgt;have z1:=Go.Ax.E.Qb rfl hgt hc;simp only [Yf,decide_eq_true_eq] at z1;split at hr;rename_i hbig;have z2:a.den X.O<=1099511627776:=of_decide_eq_true (Go.Ax.E.Qb rfl hbig hc);cases hr;refine ⟨rfl,rfl,rfl,_,?_,h2 _ q k w hb.1.1 hb.1.2 (by rw [hsz];omega) (by omega) (by rw [hsz];omega)⟩;simp only [AV.rel];refine ⟨_,rfl,?_⟩;simp only [rels_cons_cons,rels_nil,AV.rel];exact ⟨⟨trivial,rfl⟩,⟨trivial,rfl⟩,trivial⟩;cases hr;rename_i hgt;have z1:=Go.Ax.E.Qb rfl hgt hc;simp only [Yf,decide_eq_false_iff_not] at z1;split at hr;rename_i e he;cases hr;obtain ⟨v1,v2⟩:=jo hc hdi A1 hq' he hb.1.2 (by omega);have hcall:=h1 ⟨((X.O.str i).drop q0).toArray⟩ q k w hb.1.1 hb.1.2 (by rw [hsz];omega) (by rw [hsz];omega);refine ⟨rfl,rfl,rfl,_,?_,hcall⟩;simp only [AV.rel];refine ⟨_,rfl,?_⟩;simp only [rels_cons_cons,rels_nil,AV.rel];refine ⟨⟨v1,?_⟩,⟨trivial,rfl⟩,trivial⟩;rw [v2];simp only [List.drop_drop,Nat.add_comm q0 q];cases hr;cases hr;cases hr;cases hr
   cases hr
 unfold Qfa at hr;split at hr;exact .inr hr
 exact .inl hr
end Go.Ax
namespace Go.Ax
open Go.RowKit
noncomputable def Q5q (s:AM) (fs:List Fact):AM:={ s with ctx:=⟨fs++s.ctx.fs,s.ctx.vs⟩}
noncomputable def Qgi (s:AM) (d i:Nat) (a:AV):AM:=
 match s.fr.tm.get d with
 |some (.agg l)=>{ s with fr:={ s.fr with tm:=s.fr.tm.set d (.agg (l.set i a))}}
 |_=>s
def ltF (n k:Nat) (v:Bool):Fact:=⟨.lss, .len (n+6), .lit (.ofNat k),v⟩
def kdF (n:Nat) (v:Bool):Fact:=⟨.eql, .pk 7 (.var n), .lit 2,v⟩
def byL (n k:Nat):List E:=(List.range k).map λi=> .byte (n+6) (.lit (.ofNat i))
theorem Q1v {O:Val} {n k:Nat} (h:k<=(O.str (n+6)).length):S.bytes O (byL n k)=(O.str (n+6)).take k:=by
 refine List.ext_getElem (by simp [S.bytes,byL];omega) λi h1 h2=>?_
 have hi:i<k:=by simpa [S.bytes,byL] using h1
 simp only [S.bytes,byL,List.map_map,List.getElem_map,List.getElem_range,Function.comp,List.getElem_take,E.den,Int.ofNat_eq_natCast,Int.toNat_natCast];rw [List.getD_eq_getElem?_getD,List.getElem?_eq_getElem (by omega),Option.getD_some];simp
theorem Qjk {X:Ext} {n k:Nat} (hd:X.dom (n+6)):S.okN X.dom X.O (byL n k):=λt ht=>by
 obtain ⟨i,-,rfl⟩:=List.mem_map.1 ht;refine ⟨⟨hd,trivial⟩,?_,?_⟩;simp only [E.den];exact Int.natCast_nonneg _;simp only [E.den];have:=((X.O.str (n+6)).getD (Int.ofNat i).toNat 0).toNat_lt
 omega
theorem Qbw {X:Ext} {n k:Nat} (hl:(X.O.str (n+6)).length=k) (v:Value) (h:(AV.sstr (.var (n+6))).rel X v):(AV.str (byL n k)).rel X v:=by simp only [AV.rel] at h ⊢;obtain ⟨h1,-,rfl⟩:=h;refine ⟨Qjk h1,?_⟩;rw [Q1v (by omega),List.take_of_length_le (by omega)];rfl
theorem Qbx {X:Ext} {n k:Nat} (hl:k<=(X.O.str (n+6)).length) (hm:(X.O.str (n+6)).length<=9223372036854775807) (v:Value) (h:(AV.sstr (.var (n+6))).rel X v):
 (AV.sstr (.cat (.bs (byL n k)) (.sub (.var (n+6)) (.lit (.ofNat k)) (.len (n+6))))).rel X v:=by
 simp only [AV.rel] at h ⊢;obtain ⟨h1,-,rfl⟩:=h;have hb:=Qjk (k:=k) h1;have hlen:(byL n k).length=k:=by simp [byL]
 have e1:(ST.cat (.bs (byL n k)) (.sub (.var (n+6)) (.lit (.ofNat k)) (.len (n+6)))).den X.O=X.O.str (n+6):=by simp only [ST.den,Q1v hl,E.den,Int.ofNat_eq_natCast,Int.toNat_natCast];rw [List.take_of_length_le (l:=(X.O.str (n+6)).drop k) (by rw [List.length_drop];omega),List.take_append_drop]
 refine ⟨⟨λt ht=>(hb t ht).1,h1,trivial,h1⟩,?_,by rw [e1];rfl⟩;unfold ST.fit;rw [e1];simp only [ST.len,E.den,Zp,hlen,Int.ofNat_eq_natCast];rw [wrap_within (n:=((X.O.str (n+6)).length:Int)-(k:Int)) (by simp only [kLo];omega) (by simp only [kHi];omega),wrap_within (by simp only [kLo];omega) (by simp only [kHi];omega)];omega
theorem Qag {X:Ext} {a0 a:AV} (hr:∀v,a0.rel X v->a.rel X v):∀{l:List AV} {us:List Value} {i:Nat},AV.QH X l us->l[i]?=some a0->AV.QH X (l.set i a) us
 |[],us,i,h,hi=>by simp at hi
 |b::l,us,0,h,hi=>by simp only [List.getElem?_cons_zero,Option.some.injEq] at hi;subst hi;obtain ⟨v,us',rfl,h1,h2⟩:=Q8.1 h;simp only [List.set_cons_zero,rels_cons_cons];exact ⟨hr v h1,h2⟩
 |b::l,us,i+1,h,hi=>by obtain ⟨v,us',rfl,h1,h2⟩:=Q8.1 h;simp only [List.set_cons_succ,rels_cons_cons];exact ⟨h1,Qag hr h2 (by simpa using hi)⟩
section
variable {P:Program} {G:Env} {n0:Nat} {w0:World} {cs0:List Frame}
theorem Sim.txt {X:Ext} {s:AM} {m:Machine} (h:Sim P G n0 w0 cs0 X s m) (hret:s.fr.ret=false) {ops:List Oper} {k:Nat} {rest:List Oper} (hc:s.fr.cur= .reg ops k rest) {d i:Nat} {l:List AV} {a0 a:AV} (hg:s.fr.tm.get d=some (.agg l)) (hi:l[i]?=some a0) (hr:∀v,a0.rel X v->a.rel X v):
 Sim P G n0 w0 cs0 X (Qgi s d i a) m:=by
 unfold Qgi;rw [hg];simp only;obtain ⟨fr,fs,w,rfl,hF,hall,hH,hB,h00⟩:=h.ex;refine ⟨⟨fr,fs,w,rfl,?_,hall,hH,hB,h00⟩,h.ctx,h.Qo,h.fresh,h.ids⟩;obtain ⟨hb,h'⟩:=hF;refine ⟨⟨hb.fn,hb.kind,hb.ro,hb.defers⟩,?_⟩;rw [hret] at h' ⊢;simp only at h' ⊢;obtain ⟨hm,is,his,h'⟩:=h';refine ⟨hm,is,his,?_⟩;rw [hc] at h' ⊢;simp only at h' ⊢;obtain ⟨h1,h2,h3⟩:=h';refine ⟨h1,h2,h3.1,λu=>?_⟩;have hr' :=h3.2 u;simp only [Tr.Z9];by_cases e:u=d;subst e;rw [hg] at hr';simp only [if_true,Option.getD_some,AV.rel] at hr' ⊢;obtain ⟨vs',e',r'⟩:=hr';exact ⟨vs',e',Qag hr r' hi⟩;rw [if_neg e];exact hr'
theorem Sim.cls {X:Ext} {s:AM} {m:Machine} {fs:List Fact} (h:Sim P G n0 w0 cs0 X (Q5q s fs) m) (op:BinOp) (a b:E) (ha:a.okB s.ctx.vs=true) (hb:b.okB s.ctx.vs=true):
 Sim P G n0 w0 cs0 X (Q5q s (⟨op,a,b,true⟩::fs)) m\/Sim P G n0 w0 cs0 X (Q5q s (⟨op,a,b,false⟩::fs)) m:=h.partA op a b ha hb
theorem Sim.rounds {X:Ext} {s:AM} {m:Machine} {f:FuncId} (h:Sim P G n0 w0 cs0 X s m) (hret:s.fr.ret=false) {ops:List Oper} {k:Nat} {rest:List Oper} (hc:s.fr.cur= .reg ops k rest) {d n:Nat} {l:List AV} (hg:s.fr.tm.get d=some (.agg l)) (hi:l[6]?=some (.sstr (.var (n+6))))
 (hk:(E.pk 7 (.var n)).okB s.ctx.vs=true) (hl:(E.len (n+6)).okB s.ctx.vs=true) (hmost:⟨.leq, .len (n+6), .lit (.ofNat 9223372036854775807),true⟩∈s.ctx.fs)
 (hn:Sim P G n0 w0 cs0 X (Q5q s [kdF n false]) m->Qp P n0 w0 cs0 f m)
 (h0:Sim P G n0 w0 cs0 X (Qgi (Q5q s [ltF n 1 true,kdF n true]) d 6 (.str (byL n 0))) m->Qp P n0 w0 cs0 f m)
 (h1:Sim P G n0 w0 cs0 X (Qgi (Q5q s [ltF n 2 true,ltF n 1 false,kdF n true]) d 6 (.str (byL n 1))) m->Qp P n0 w0 cs0 f m)
 (h2:Sim P G n0 w0 cs0 X (Qgi (Q5q s [ltF n 3 true,ltF n 2 false,ltF n 1 false,kdF n true]) d 6 (.str (byL n 2))) m->Qp P n0 w0 cs0 f m)
 (h3:Sim P G n0 w0 cs0 X (Qgi (Q5q s [ltF n 4 true,ltF n 3 false,ltF n 2 false,ltF n 1 false,kdF n true]) d 6 (.str (byL n 3))) m->Qp P n0 w0 cs0 f m)
 (h4:Sim P G n0 w0 cs0 X (Qgi (Q5q s [ltF n 60 true,ltF n 4 false,ltF n 3 false,ltF n 2 false,ltF n 1 false,kdF n true]) d 6 (.sstr (.cat (.bs (byL n 4)) (.sub (.var (n+6)) (.lit 4) (.len (n+6)))))) m->Qp P n0 w0 cs0 f m)
 (h5:Sim P G n0 w0 cs0 X (Qgi (Q5q s [ltF n 60 false,ltF n 4 false,ltF n 3 false,ltF n 2 false,ltF n 1 false,kdF n true]) d 6 (.sstr (.cat (.bs (byL n 4)) (.sub (.var (n+6)) (.lit 4) (.len (n+6)))))) m->Qp P n0 w0 cs0 f m):Qp P n0 w0 cs0 f m:=by
 have fact:∀{fs:List Fact} {g:Fact},Sim P G n0 w0 cs0 X (Q5q s fs) m->g∈fs->g.ok X.O:=λhs hm=>(hs.ctx.2 _ (List.mem_append.2 (.inl hm))).1
 have hm:(X.O.str (n+6)).length<=9223372036854775807:=by
  have:=(h.ctx.2 _ hmost).1
  simp only [Fact.ok,Yf,E.den,Int.ofNat_eq_natCast] at this;have:=of_decide_eq_true this;omega
 have lt_:∀{fs:List Fact} {j:Nat},Sim P G n0 w0 cs0 X (Q5q s fs) m->ltF n j true∈fs->(X.O.str (n+6)).length<j:=λhs hm=>by have:=fact hs hm;simp only [ltF,Fact.ok,Yf,E.den,Int.ofNat_eq_natCast] at this;have:=of_decide_eq_true this;omega
 have ge_:∀{fs:List Fact} {j:Nat},Sim P G n0 w0 cs0 X (Q5q s fs) m->ltF n j false∈fs->j<=(X.O.str (n+6)).length:=λhs hm=>by have:=fact hs hm;simp only [ltF,Fact.ok,Yf,E.den,Int.ofNat_eq_natCast] at this;have:=of_decide_eq_false this;omega
 have known:∀{fs:List Fact} {j:Nat},Sim P G n0 w0 cs0 X (Q5q s fs) m->(X.O.str (n+6)).length=j->Sim P G n0 w0 cs0 X (Qgi (Q5q s fs) d 6 (.str (byL n j))) m:=λhs e=>hs.txt hret hc hg hi (Qbw e)
 have front:∀{fs:List Fact},Sim P G n0 w0 cs0 X (Q5q s fs) m->4<=(X.O.str (n+6)).length->Sim P G n0 w0 cs0 X (Qgi (Q5q s fs) d 6 (.sstr (.cat (.bs (byL n 4)) (.sub (.var (n+6)) (.lit 4) (.len (n+6)))))) m:=λhs e=>hs.txt hret hc hg hi (Qbx (k:=4) e hm)
 have hh:Sim P G n0 w0 cs0 X (Q5q s []) m:=h;rcases hh.cls .eql (.pk 7 (.var n)) (.lit 2) hk rfl with g|g
 rcases g.cls .lss (.len (n+6)) (.lit (.ofNat 1)) hl rfl with g|g
 have a:=lt_ (j:=1) g (by simp [ltF]);exact h0 (known g (by omega));have b1:=ge_ (j:=1) g (by simp [ltF]);rcases g.cls .lss (.len (n+6)) (.lit (.ofNat 2)) hl rfl with g|g
 have a:=lt_ (j:=2) g (by simp [ltF]);exact h1 (known g (by omega));have b2:=ge_ (j:=2) g (by simp [ltF]);rcases g.cls .lss (.len (n+6)) (.lit (.ofNat 3)) hl rfl with g|g
 have a:=lt_ (j:=3) g (by simp [ltF]);exact h2 (known g (by omega));have b3:=ge_ (j:=3) g (by simp [ltF]);rcases g.cls .lss (.len (n+6)) (.lit (.ofNat 4)) hl rfl with g|g
 have a:=lt_ (j:=4) g (by simp [ltF]);exact h3 (known g (by omega));have b4:=ge_ (j:=4) g (by simp [ltF]);rcases g.cls .lss (.len (n+6)) (.lit (.ofNat 60)) hl rfl with g|g
 exact h4 (front g b4);exact h5 (front g b4);exact hn g
end
end Go.Ax
