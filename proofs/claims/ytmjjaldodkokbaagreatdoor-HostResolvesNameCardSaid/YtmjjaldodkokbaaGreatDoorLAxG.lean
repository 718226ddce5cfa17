/-
 THE ABSTRACT EXECUTOR, 57: texts as terms; numbers written into texts and read out of them, and functions of texts, known as a whole. Conditions: none.
-/
import Derived.Test.YtmjjaldodkokbaaGreatDoorLAxF
import Derived.Laws.AppendOwn
import Derived.MapKept
import Derived.Lib.MakeNoZero
import Derived.Lib.Bytealg
import Derived.Laws.IdiomRangeMap
import Derived.Test.YtmjjaldodkokbaaGreatDoorLAxE
namespace Go.Ax
open Go.RowKit
noncomputable def sE {β:Type} (e:E) (k:E->β):β:=
 match e with
 | .lit n=>k (.lit n)
 | .var i=>k (.var i)
 | .len i=>k (.len i)
 | .byte i a=>k (.byte i a)
 | .bin op j a b=>k (.bin op j a b)
 | .cnv j a=>k (.cnv j a)
 | .pk n a=>k (.pk n a)
 | .cons a t=>k (.cons a t)
 | .tv i lo hi t=>k (.tv i lo hi t)
 | .fn n t=>k (.fn n t)
 | .mn a b=>k (.mn a b)
@[simp] theorem sE_eq {β:Type} (e:E) (k:E->β):sE e k=k e:=by cases e<;>rfl
noncomputable def Q7z:List E->E
 |[]=> .lit (.ofNat 1)
 |a::l=>sE (Q7z l) λt=> .cons a t
theorem Q5d {O:Val}:∀l:List E,(Q7z l).den O=YA (S.bytes O l) 1
 |[]=>rfl
 |a::l=>by simp only [Q7z,sE_eq,E.den,Q5d l];rfl
theorem Q9e {n:Nat->Prop}:∀{l:List E},(∀t∈l,t.ok n)->(Q7z l).ok n
 |[],_=>trivial
 |a::l,h=>by simp only [Q7z,sE_eq];exact ⟨h a (by simp),Q9e λt ht=>h t (by simp [ht])⟩
theorem YM {P:Program} {G:Env} {n0:Nat} {f:FuncId} {S:Ctx->Tr Q8->Nat->List AV->D SR}
 (h:∀(c:Ctx) (X:Ext) (H:Tr Q8) (next:Nat) (w:World) (args:List AV) (vs:Array Value) (r:SR),S c H next args= .ok r->c.okN X.dom X.O->AV.QF X args vs.toList->
  r.H=H/\r.next=next/\r.ctx=c/\∃u,r.v.rel X u/\Calls P f vs w (λe w' =>e= .returned u/\Below w.heap.size w w')):ZO P G n0 f S:=by
 intro c X H next w args vs r hr hc hg hH h0 hfr hargs fr cs
 obtain ⟨e1,e2,e3,u,hu,hcall⟩:=h c X H next w args vs r hr hc hargs
 obtain ⟨u',w',⟨rfl,hB⟩,hst⟩:=Ze (q:=λv w' =>v=u/\Below w.heap.size w w') (hcall.mono λe w' he=>⟨u,he.1,rfl,he.2⟩) fr cs;refine ⟨X,u',w',hst,Ext.le.refl X,hu,?_,hB.mono h0,λb hb _=>⟨hb,by rw [e1]⟩,by rw [e2];exact Nat.le_refl _,λb hb=>hfr b (by rw [e2] at hb;exact hb),by rw [e3];exact hc⟩;rw [e1];exact ⟨λb o p ho hp=>by rw [hB.block _ (hH.lt _ _ hp)];exact hH.obj b o p ho hp,hH.inj,λb p hp=>Nat.lt_of_lt_of_le (hH.lt b p hp) hB.size,hH.own⟩
def Ql1 (n:E) (j:Nat):E:= .cnv .u8 (.bin .shr .i64 n (.lit (.ofNat (8*j))))
noncomputable def Qo1 (n:Nat) (j:Nat):E:=QC (Nat.mod (Nat.div n (Nat.pow 256 j)) 256) λm=> .lit (.ofNat m)
def Q74 (z:Int) (j:Nat):UInt8:=UInt8.ofNat (IntKind.u8.wrap (z.fdiv (2^(8*j)))).toNat
noncomputable def Qff (n:E) (j:Nat):E:=
 match n with
 | .lit (.ofNat n)=>Qo1 n j
 |n=>QC (8*j) λp=> .cnv .u8 (.bin .shr .i64 n (.lit (.ofNat p)))
theorem yX (n:Int):IntKind.u8.wrap n=n%256:=by simp [IntKind.wrap,IntKind.bits,IntKind.signed]
theorem Q8x {n:E} {j:Nat} {O:Val} {d:Nat->Prop} (hn:n.ok d) (hj:j<4):(Qff n j).ok d/\(Qff n j).den O=IntKind.u8.wrap ((n.den O).fdiv (2^(8*j))):=by
 unfold Qff;split;rename_i m;refine ⟨trivial,?_⟩;simp only [Qo1,sNat_eq,E.den];rw [yX];have e:(2:Int)^(8*j)=((256^j:Nat):Int):=by rw [Int.pow_mul];simp
 rw [e,Int.ofNat_eq_natCast,Int.ofNat_eq_natCast,Int.fdiv_eq_ediv_of_nonneg _ (Int.natCast_nonneg _)];show ((m/256^j%256:Nat):Int)=_;rw [Int.natCast_emod,Int.natCast_ediv];rfl;simp only [sNat_eq];refine ⟨⟨hn,trivial⟩,?_⟩;simp only [E.den,Zk];have:min ((Int.ofNat (8*j)).toNat) IntKind.i64.bits=8*j:=by simp only [Int.ofNat_eq_natCast,Int.toNat_natCast,IntKind.bits];omega
 rw [this]
noncomputable def Qbo (n:E):Nat->List E
 |0=>[]
 |j+1=>sE (Qff n j) λb=>b::Qbo n j
def QY (z:Int):Nat->List UInt8
 |0=>[]
 |j+1=>Q74 z j::QY z j
theorem Q0d {n:E} {O:Val} {d:Nat->Prop} (hn:n.ok d):∀{k:Nat},k<=4->S.okN d O (Qbo n k)/\S.bytes O (Qbo n k)=QY (n.den O) k
 |0,_=>⟨λt ht=>(by cases ht),rfl⟩
 |j+1,h=>by
  obtain ⟨h1,h2⟩:=Q0d (O:=O) hn (k:=j) (by omega);obtain ⟨h3,h4⟩:=Q8x (O:=O) hn (j:=j) (by omega);simp only [Qbo,sE_eq];constructor;intro t ht;rcases List.mem_cons.1 ht with rfl|ht;rw [h4,yX];exact ⟨h3,by omega,by omega⟩;exact h1 t ht;show UInt8.ofNat ((Qff n j).den O).toNat::S.bytes O (Qbo n j)=_
  rw [h4,h2];rfl
noncomputable def Q9u (b:Nat):Sum:=λc H next as=>
 match as with
 |[.int .i64 n, .int .i64 (.lit (.ofNat k))]=>bif Nat.ble 1 k&&Nat.ble k 4 then
  QC (Nat.pow 256 k) λm=>
  match E.cmp c .lss n (.lit (.ofNat 0)) with
  |none=> .ask .lss n (.lit (.ofNat 0))
  |some true=> .ok ⟨.tuple [.str [], .int .i64 (.lit (.ofNat b))],H,next,c⟩
  |some false=>match E.cmp c .lss n (.lit (.ofNat m)) with
   |none=> .ask .lss n (.lit (.ofNat m))
   |some false=> .ok ⟨.tuple [.str [], .int .i64 (.lit (.ofNat b))],H,next,c⟩
   |some true=> .ok ⟨.tuple [.str (Qbo n k), .int .i64 (.lit (.ofNat 0))],H,next,c⟩
  else .fail
 |_=> .fail
theorem Q5w {P:Program} {G:Env} {n0:Nat} {f:FuncId} {b:Nat}
 (h1:∀(z:Int) (k:Nat) (w:World),1<=k->k<=4->0<=z->z<256^k->Calls P f #[.int .i64 z, .int .i64 k] w λe w' =>e= .returned (.tuple #[.string ⟨(QY z k).toArray⟩, .int .i64 0])/\Below w.heap.size w w')
 (h2:∀(z:Int) (k:Nat) (w:World),1<=k->k<=4->(z<0\/256^k<=z)->Calls P f #[.int .i64 z, .int .i64 k] w λe w' =>e= .returned (.tuple #[.string ⟨#[]⟩, .int .i64 b])/\Below w.heap.size w w'):ZO P G n0 f (Q9u b):=by
 refine YM λc X H next w args vs r hr hc hargs=>?_
 unfold Q9u at hr;split at hr
 . rename_i n k;cases hb:(Nat.ble 1 k&&Nat.ble k 4) with
   |false=>rw [hb] at hr;cases hr
   |true=>
    rw [hb] at hr;simp only [Bool.and_eq_true,Nat.ble_eq] at hb;simp only [cond_true,sNat_eq] at hr;obtain ⟨u,vs',e1,g1,g2⟩:=Q7.1 hargs;obtain ⟨v,vs'',rfl,g3,g4⟩:=Q7.1 g2;have:=rels_nil.1 g4;subst this;simp only [AV.rel] at g1 g3;obtain ⟨k1,rfl⟩:=g1;obtain ⟨-,rfl⟩:=g3;have hvs:vs=#[.int .i64 (n.den X.O), .int .i64 k]:=by rw [<-Array.toList_inj];exact e1
    subst hvs;have pw:((Nat.pow 256 k:Nat):Int)=256^k:=by simp
    have bad:∀r,(n.den X.O<0\/256^k<=n.den X.O)->(.ok ⟨.tuple [.str [], .int .i64 (.lit (.ofNat b))],H,next,c⟩:D SR)= .ok r->r.H=H/\r.next=next/\r.ctx=c/\∃u,r.v.rel X u/\Calls P f #[.int .i64 (n.den X.O), .int .i64 k] w (λe w' =>e= .returned u/\Below w.heap.size w w'):=by intro r hz hr;cases hr;refine ⟨rfl,rfl,rfl,_,?_,h2 _ k w hb.1 hb.2 hz⟩;simp only [AV.rel];refine ⟨_,rfl,?_⟩;simp only [rels_cons_cons,rels_nil,AV.rel];exact ⟨⟨λt ht=>(by cases ht),rfl⟩,⟨trivial,rfl⟩,trivial⟩
    split at hr;cases hr;rename_i hq;have:=E.Qe rfl hq hc;simp only [Y2,decide_eq_true_eq] at this;exact bad r (.inl this) hr;rename_i hq;have q0:=E.Qe rfl hq hc;simp only [Y2,decide_eq_false_iff_not] at q0;have q0' :0<=n.den X.O:=by
     have e0:(E.lit (Int.ofNat 0)).den X.O=0:=rfl
     rw [e0] at q0;omega
    split at hr;cases hr;rename_i hq2;have q1:=E.Qe rfl hq2 hc;simp only [Y2,decide_eq_false_iff_not] at q1;refine bad r (.inr ?_) hr;have e0:(E.lit (Int.ofNat (Nat.pow 256 k))).den X.O=((Nat.pow 256 k:Nat):Int):=rfl
    rw [e0,pw] at q1;omega;rename_i hq2;have q1:=E.Qe rfl hq2 hc;simp only [Y2,decide_eq_true_eq] at q1;have e0:(E.lit (Int.ofNat (Nat.pow 256 k))).den X.O=((Nat.pow 256 k:Nat):Int):=rfl
    rw [e0,pw] at q1;cases hr;obtain ⟨s1,s2⟩:=Q0d (O:=X.O) k1 hb.2;refine ⟨rfl,rfl,rfl,_,?_,h1 _ k w hb.1 hb.2 q0' q1⟩;simp only [AV.rel];refine ⟨_,rfl,?_⟩;simp only [rels_cons_cons,rels_nil,AV.rel];exact ⟨⟨s1,by rw [s2]⟩,⟨trivial,rfl⟩,trivial⟩
 cases hr
def qG (l:List UInt8):Nat:=l.foldl (λn b=>n*256+b.toNat) 0
def Q8j:Nat->List E->Option Nat
 |n,[]=>some n
 |n, .lit (.ofNat b)::l=>Q8j (n*256+b) l
 |_,_=>none
def Qlg (n:E):Nat->List E->Bool
 |0,[]=>true
 |j+1,e::l=>e.same (Ql1 n j)&&Qlg n j l
 |_,_=>false
noncomputable def getE (c:Ctx) (l:List E):Option E:=
 match l with
 | .cnv .u8 (.bin .shr .i64 n (.lit p))::m=>bif Qlg n (m.length+1) (.cnv .u8 (.bin .shr .i64 n (.lit p))::m)&&(match (E.ivL c.fs n).lo,(E.ivL c.fs n).hi with
  |some lo,some hi=>ile 0 lo&&ilt hi (.ofNat (Nat.pow 256 (m.length+1)))
  |_,_=>false) then some n else none
 |l=>match Q8j 0 l with
  |some n=>QC n λn=>some (.lit (.ofNat n))
  |none=>none
theorem Q2j {O:Val} {d:Nat->Prop}:∀{l:List E} {n m:Nat},Q8j n l=some m->S.okN d O l->(S.bytes O l).foldl (λn b=>n*256+b.toNat) n=m
 |[],n,m,h,_=>by simp only [Q8j,Option.some.injEq] at h;subst h;rfl
 | .lit (.ofNat b)::l,n,m,h,hk=>by
  simp only [Q8j] at h;have ih:=Q2j h λt ht=>hk t (by simp [ht])
  have hb:=(hk (.lit (.ofNat b)) (by simp)).2.2
  simp only [E.den,Int.ofNat_eq_natCast] at hb;show (S.bytes O l).foldl _ (n*256+(UInt8.ofNat ((E.lit (.ofNat b)).den O).toNat).toNat)=m
  have e:(UInt8.ofNat ((E.lit (.ofNat b)).den O).toNat).toNat=b:=by
   show (UInt8.ofNat (Int.ofNat b).toNat).toNat=b
   simp;omega
  rw [e];exact ih
 | .lit (.negSucc _)::_,_,_,h,_=>by simp [Q8j] at h
 | .var _::_,_,_,h,_=>by simp [Q8j] at h
 | .len _::_,_,_,h,_=>by simp [Q8j] at h
 | .byte _ _::_,_,_,h,_=>by simp [Q8j] at h
 | .bin _ _ _ _::_,_,_,h,_=>by simp [Q8j] at h
 | .cnv _ _::_,_,_,h,_=>by simp [Q8j] at h
 | .pk _ _::_,_,_,h,_=>by simp [Q8j] at h
 | .cons _ _::_,_,_,h,_=>by simp [Q8j] at h
 | .tv _ _ _ _::_,_,_,h,_=>by simp [Q8j] at h
 | .fn _ _::_,_,_,h,_=>by simp [Q8j] at h
theorem Qfg {n:E} {j:Nat} {O:Val} (hj:j<4):(Ql1 n j).den O=IntKind.u8.wrap ((n.den O).fdiv (2^(8*j))):=by
 simp only [Ql1,E.den,Zk];have:min ((Int.ofNat (8*j)).toNat) IntKind.i64.bits=8*j:=by simp only [Int.ofNat_eq_natCast,Int.toNat_natCast,IntKind.bits];omega
 rw [this]
theorem Q3f {O:Val} {n:E}:∀{l:List E} {k:Nat},Qlg n k l=true->k<=4->S.bytes O l=QY (n.den O) k
 |[],0,_,_=>rfl
 |[],_+1,h,_=>by simp [Qlg] at h
 |_::_,0,h,_=>by simp [Qlg] at h
 |e::l,j+1,h,hk=>by
  simp only [Qlg,Bool.and_eq_true] at h;have:=E.Q5 h.1;show UInt8.ofNat (e.den O).toNat::S.bytes O l=_
  rw [this,Qfg (by omega),Q3f h.2 (by omega)];rfl
theorem Q37 {z:Nat}:∀{k a:Nat},k<=4->(QY z k).foldl (λn b=>n*256+b.toNat) a=a*256^k+z%256^k
 |0,a,_=>by simp [QY];omega
 |j+1,a,h=>by
  have ih:=λa=>Q37 (z:=z) (k:=j) (a:=a) (by omega)
  show (QY z j).foldl _ (a*256+(Q74 z j).toNat)=_
  rw [ih];have e:(Q74 z j).toNat=z/256^j%256:=by
   unfold Q74;rw [yX];have e:(2:Int)^(8*j)=((256^j:Nat):Int):=by rw [Int.pow_mul];simp
   rw [e,Int.fdiv_eq_ediv_of_nonneg _ (Int.natCast_nonneg _)];have e2:((z:Int)/((256^j:Nat):Int)%256).toNat=z/256^j%256:=by rw [<-Int.natCast_ediv];omega
   rw [e2];simp
  rw [e];have h1:=Nat.div_add_mod (z%256^(j+1)) (256^j);have h2:z%256^(j+1)/256^j=z/256^j%256:=by rw [Nat.pow_succ,Nat.mod_mul_right_div_self]
  have h3:z%256^(j+1)%256^j=z%256^j:=by rw [Nat.pow_succ,Nat.mod_mul_right_mod]
  rw [h2,h3] at h1;rw [<-h1,Nat.pow_succ,Nat.add_mul,Nat.mul_assoc,Nat.mul_comm 256 (256^j),Nat.mul_comm (256^j) (z/256^j%256)];omega
theorem Q2s {c:Ctx} {O:Val} {d:Nat->Prop} {l:List E} {e:E} (h:getE c l=some e) (hl:l.length<=4) (hk:S.okN d O l) (hc:c.okN d O):e.ok d/\e.den O=(qG (S.bytes O l):Int):=by
 unfold getE at h;split at h;rename_i n p m;cases hb:(Qlg n (m.length+1) (.cnv .u8 (.bin .shr .i64 n (.lit p))::m)&&(match (E.ivL c.fs n).lo,(E.ivL c.fs n).hi with
  |some lo,some hi=>ile 0 lo&&ilt hi (.ofNat (Nat.pow 256 (m.length+1)))
  |_,_=>false)) with
 |false=>rw [hb] at h;cases h
 |true=>
  rw [hb] at h;simp only [cond_true,Option.some.injEq] at h;subst h;simp only [Bool.and_eq_true] at hb;have hv:=E.Q68 hc.2 n;have hn:n.ok d:=(hk (.cnv .u8 (.bin .shr .i64 n (.lit p))) (by simp)).1.1
  refine ⟨hn,?_⟩;have hs:=Q3f (O:=O) hb.1 (by simpa using hl);obtain ⟨-,hb⟩:=hb;split at hb;rename_i lo hi e1 e2;simp only [Bool.and_eq_true,QS,Jv,decide_eq_true_eq] at hb;have a1:=hv.1 _ e1;have a2:=hv.2 _ e2;obtain ⟨z,hz⟩:∃z:Nat,n.den O=z:=⟨(n.den O).toNat,by omega⟩;rw [hs,hz];have hlt:z<256^(m.length+1):=by have q:(Int.ofNat (Nat.pow 256 (m.length+1)))=((256^(m.length+1):Nat):Int):=rfl;rw [q] at hb;omega
  have:=Q37 (z:=z) (k:=m.length+1) (a:=0) (by simpa using hl);unfold qG;rw [this,Nat.mod_eq_of_lt hlt];omega;cases hb
 split at h;rename_i n hn;rw [sNat_eq] at h;cases h;refine ⟨trivial,?_⟩;have:=Q2j (O:=O) hn hk;simp only [E.den,qG,this,Int.ofNat_eq_natCast];cases h
noncomputable def Qa7 (b:Nat):Sum:=λc H next as=>
 match as with
 |[.str s, .int .i64 (.lit (.ofNat i)), .int .i64 (.lit (.ofNat k))]=>bif Nat.ble 1 k&&Nat.ble k 4&&Nat.ble s.length 1099511627776&&Nat.ble i 1099511627776 then
  bif Nat.ble (i+k) s.length then
   match getE c ((s.drop i).take k) with
   |some e=> .ok ⟨.tuple [.int .i64 e, .int .i64 (.lit (.ofNat 0))],H,next,c⟩
   |none=> .fail
  else .ok ⟨.tuple [.int .i64 (.lit (.ofNat 0)), .int .i64 (.lit (.ofNat b))],H,next,c⟩
  else .fail
 |_=> .fail
theorem Qep {P:Program} {G:Env} {n0:Nat} {f:FuncId} {b:Nat}
 (h1:∀(s:ByteArray) (i k:Nat) (w:World),1<=k->k<=4->s.size<=1099511627776->i+k<=s.size->Calls P f #[.string s, .int .i64 i, .int .i64 k] w λe w' =>e= .returned (.tuple #[.int .i64 (qG ((s.data.toList.drop i).take k)), .int .i64 0])/\Below w.heap.size w w')
 (h2:∀(s:ByteArray) (i k:Nat) (w:World),1<=k->k<=4->s.size<=1099511627776->i<=1099511627776->s.size<i+k->Calls P f #[.string s, .int .i64 i, .int .i64 k] w λe w' =>e= .returned (.tuple #[.int .i64 0, .int .i64 b])/\Below w.heap.size w w'):ZO P G n0 f (Qa7 b):=by
 refine YM λc X H next w args vs r hr hc hargs=>?_
 unfold Qa7 at hr;split at hr;rename_i s i k;cases hb:(Nat.ble 1 k&&Nat.ble k 4&&Nat.ble s.length 1099511627776&&Nat.ble i 1099511627776) with
 |false=>rw [hb] at hr;cases hr
 |true=>
  rw [hb] at hr;simp only [Bool.and_eq_true,Nat.ble_eq] at hb;simp only [cond_true] at hr;obtain ⟨u,vs',e1,g1,g2⟩:=Q7.1 hargs;obtain ⟨v,vs'',rfl,g3,g4⟩:=Q7.1 g2;obtain ⟨v2,vs3,rfl,g5,g6⟩:=Q7.1 g4;have:=rels_nil.1 g6;subst this;simp only [AV.rel] at g1 g3 g5;obtain ⟨k1,rfl⟩:=g1;obtain ⟨-,rfl⟩:=g3;obtain ⟨-,rfl⟩:=g5;have hvs:vs=#[.string ⟨(S.bytes X.O s).toArray⟩, .int .i64 i, .int .i64 k]:=by rw [<-Array.toList_inj];exact e1
  subst hvs;have hsz:(⟨(S.bytes X.O s).toArray⟩:ByteArray).size=s.length:=by
   show (S.bytes X.O s).toArray.size=_
   simp [S.bytes]
  cases hle:Nat.ble (i+k) s.length with
  |true=>
   rw [hle] at hr;simp only [cond_true] at hr;have hle' :i+k<=s.length:=by simpa using hle
   split at hr;rename_i e he;cases hr;have hkk:S.okN X.dom X.O ((s.drop i).take k):=λt ht=>k1 t (List.mem_of_mem_drop (List.mem_of_mem_take ht))
   obtain ⟨a1,a2⟩:=Q2s he (by simp only [List.length_take];omega) hkk hc;refine ⟨rfl,rfl,rfl,_,?_,h1 _ i k w hb.1.1.1 hb.1.1.2 (by rw [hsz];exact hb.1.2) (by rw [hsz];exact hle')⟩;simp only [AV.rel];refine ⟨_,rfl,?_⟩;simp only [rels_cons_cons,rels_nil,AV.rel];refine ⟨⟨a1,?_⟩,⟨trivial,rfl⟩,trivial⟩;rw [a2];have:S.bytes X.O ((s.drop i).take k)=((S.bytes X.O s).drop i).take k:=by simp [S.bytes,List.map_take,List.map_drop]
   rw [this];cases hr
  |false=>
   rw [hle] at hr;simp only [cond_false] at hr;cases hr;have hle' :¬i+k<=s.length:=λhh=>by rw [Nat.ble_eq_true_of_le hh] at hle;cases hle
   refine ⟨rfl,rfl,rfl,_,?_,h2 _ i k w hb.1.1.1 hb.1.1.2 (by rw [hsz];exact hb.1.2) hb.2 (by rw [hsz];omega)⟩;simp only [AV.rel];refine ⟨_,rfl,?_⟩;simp only [rels_cons_cons,rels_nil,AV.rel];exact ⟨⟨trivial,rfl⟩,⟨trivial,rfl⟩,trivial⟩
 cases hr
end Go.Ax
namespace Go.Ax
open Go.RowKit
noncomputable def Qn6 (c:Ctx) (k:E):List E->D (List E)
 |[]=> .ok [k]
 |a::l=>match E.cmp c .lss k a with
  |none=> .ask .lss k a
  |some true=> .ok (k::a::l)
  |some false=>match E.cmp c .gtr k a with
   |some true=>(Qn6 c k l).bind λr=> .ok (a::r)
   |_=> .fail
noncomputable def Qdb (c:Ctx):List E->D (List E)
 |[]=> .ok []
 |k::l=>(Qdb c l).bind λr=>Qn6 c k r
abbrev Q56 (O:Val) (l:List E):List Int:=l.map (·.den O)
theorem Q2p {c:Ctx} {d:Nat->Prop} {O:Val} (hc:c.okN d O) {k:E}:∀{l r:List E},Qn6 c k l= .ok r->(Q56 O l).Pairwise (. <·)->(Q56 O r).Pairwise (. <·)/\(Q56 O r).Perm (k.den O::Q56 O l)/\∀e∈r,e=k\/e∈l
 |[],r,h,_=>by simp only [Qn6] at h;cases h;exact ⟨by simp, .refl _,λe he=> .inl (by simpa using he)⟩
 |a::l,r,h,hp=>by
  simp only [Qn6] at h;have hp' :=List.pairwise_cons.1 (show (a.den O::Q56 O l).Pairwise (. <·) from hp);split at h;cases h;rename_i hq;have q:=E.Qe rfl hq hc;simp only [Y2,decide_eq_true_eq] at q;cases h;refine ⟨List.pairwise_cons.2 ⟨λx hx=>?_,hp⟩, .refl _,λe he=>by simpa using he⟩;rcases List.mem_cons.1 (show x∈a.den O::Q56 O l from hx) with hx|hx;show k.den O<x;rw [hx];exact q;have:=hp'.1 x hx;show k.den O<x;omega;split at h;rename_i hq;have q:=E.Qe rfl hq hc;have q' :a.den O<k.den O:=by simpa [Y2] using q
  obtain ⟨r',h1,h2⟩:=D.bind_ok h;cases h2;obtain ⟨i1,i2,i3⟩:=Q2p hc h1 hp'.2;refine ⟨List.pairwise_cons.2 ⟨λx hx=>?_,i1⟩,?_,λe he=>?_⟩;rcases List.mem_cons.1 (i2.mem_iff.1 hx) with rfl|hx;exact q';exact hp'.1 x hx;exact (List.Perm.cons _ i2).trans (.swap _ _ _)
  rcases List.mem_cons.1 he with rfl|he;exact .inr (by simp)
  rcases i3 e he with h|h;exact .inl h
  exact .inr (by simp [h])
  cases h
theorem Q04 {c:Ctx} {d:Nat->Prop} {O:Val} (hc:c.okN d O):∀{l r:List E},Qdb c l= .ok r->(Q56 O r).Pairwise (. <·)/\(Q56 O r).Perm (Q56 O l)/\∀e∈r,e∈l
 |[],r,h=>by simp only [Qdb] at h;cases h;exact ⟨by simp, .refl _,λe he=>he⟩
 |k::l,r,h=>by simp only [Qdb] at h;obtain ⟨r',h1,h2⟩:=D.bind_ok h;obtain ⟨i1,i2,i3⟩:=Q04 hc h1;obtain ⟨j1,j2,j3⟩:=Q2p hc h2 i1;refine ⟨j1,j2.trans (List.Perm.cons _ i2),λe he=>?_⟩;rcases j3 e he with rfl|he;simp;simp [i3 e he]
noncomputable def Qg1 (c:Ctx) (e:E):Bool:=
 match (E.iv c.fs e).lo,(E.iv c.fs e).hi with
 |some lo,some hi=>ile (.negSucc 9223372036854775807) lo&&ile hi (.ofNat 9223372036854775807)
 |_,_=>false
theorem Q7x {c:Ctx} {d:Nat->Prop} {O:Val} (hc:c.okN d O) {e:E} (h:Qg1 c e=true):-9223372036854775808<=e.den O/\e.den O<=9223372036854775807:=by unfold Qg1 at h;have hv:=E.Qc hc.2 e;split at h;rename_i lo hi e1 e2;simp only [Bool.and_eq_true,QS] at h;have a1:=hv.1 _ e1;have a2:=hv.2 _ e2;have b1:(Int.negSucc 9223372036854775807)=-9223372036854775808:=rfl;have b2:(Int.ofNat 9223372036854775807)=9223372036854775807:=rfl;rw [b1,b2] at h;omega;cases h
noncomputable def Qea (c:Ctx):List (AV×AV×Nat)->Option (List E)
 |[]=>some []
 |x::l=>match x.1 with
  | .int .i64 e=>bif Qg1 c e then (match Qea c l with
   |some r=>some (e::r)
   |none=>none) else none
  |_=>none
def Q5g (clock:Nat):Nat->List (AV×AV×Nat)->Bool
 |_,[]=>true
 |lo,x::l=>Nat.ble lo x.2.2&&(Nat.blt x.2.2 clock&&Q5g clock (x.2.2+1) l)
theorem Q0p {c:Ctx} {X:Ext} (hc:c.okN X.dom X.O):∀{l:List (AV×AV×Nat)} {es:List MapEntry} {ks:List E},Qea c l=some ks->Q9 X l es->es.map (·.key)=(Q56 X.O ks).map (Value.int .i64)/\(∀e∈ks,e.ok X.dom)/\∀z∈Q56 X.O ks,-9223372036854775808<=z/\z<=9223372036854775807
 |[],es,ks,h,hr=>by simp only [Qea,Option.some.injEq] at h;subst h;have:es=[]:=hr;subst this;exact ⟨rfl,λe he=>(by cases he),λz hz=>(by cases hz)⟩
 |x::l,es,ks,h,hr=>by
  obtain ⟨e,es',rfl,r1,-,-,r4⟩:=hr;simp only [Qea] at h;split at h;rename_i k hk;cases hw:Qg1 c k with
  |false=>rw [hw] at h;cases h
  |true=>rw [hw] at h;simp only [cond_true] at h;split at h;rename_i r hr';cases h;obtain ⟨i1,i2,i3⟩:=Q0p hc hr' r4;rw [hk] at r1;simp only [AV.rel] at r1;refine ⟨by simp only [List.map_cons,r1.2,i1,Q56],λy hy=>?_,λz hz=>?_⟩;rcases List.mem_cons.1 hy with rfl|hy;exact r1.1;exact i2 y hy;rcases List.mem_cons.1 (show z∈k.den X.O::Q56 X.O r from hz) with rfl|hz;exact Q7x hc hw;exact i3 z hz;cases h
  cases h
theorem jK {X:Ext} {clock:Nat}:∀{l:List (AV×AV×Nat)} {es:List MapEntry} {lo:Nat},Q5g clock lo l=true->Q9 X l es->(∀x∈es,lo<=x.born/\x.born<clock)/\(es.map (·.born)).Nodup
 |[],es,lo,_,hr=>by have:es=[]:=hr;subst this;exact ⟨λx hx=>(by cases hx),by simp⟩
 |x::l,es,lo,h,hr=>by
  obtain ⟨e,es',rfl,-,-,r3,r4⟩:=hr;simp only [Q5g,Bool.and_eq_true,Nat.ble_eq,Nat.blt_eq] at h;obtain ⟨i1,i2⟩:=jK h.2.2 r4;refine ⟨λy hy=>?_,?_⟩;rcases List.mem_cons.1 hy with rfl|hy;rw [r3];exact ⟨h.1,h.2.1⟩;have:=i1 y hy;omega;rw [List.map_cons,List.nodup_cons];refine ⟨λhm=>?_,i2⟩;obtain ⟨y,hy,hb⟩:=List.mem_map.1 hm;have:=(i1 y hy).1
  omega
noncomputable def zi (T:TypeId) (gs:List Nat):Sum:=λc H next as=>
 match as with
 |[.func g [] [.ptr cb 0]]=>bif gs.any (Nat.beq g) then
  match H.get cb with
  |some (.cells [.map r] _ true _ _)=>match H.get r with
   |some (.map es clock)=>bif Nat.ble es.length 1000000&&Q5g clock 0 es then
    match Qea c es with
    |some ks=>(Qdb c ks).bind λl=>match l with
     |[]=> .ok ⟨.nilslice,H,next,c⟩
     |e::l=>QC (next+1) λnx=>QC (e::l).length λn=> .ok ⟨.slice next 0 n n 1 false,H.set next (.cells ((e::l).map (.int .i64)) T false true false),nx,c⟩
    |none=> .fail
    else .fail
   |_=> .fail
  |some (.cells [.nilmap] _ true _ _)=> .ok ⟨.nilslice,H,next,c⟩
  |_=> .fail
  else .fail
 |_=> .fail
theorem Q3r {ss l:List Int} (hp:ss.Perm l) (hl:l.Pairwise (. <·)):ss.mergeSort (λx y=>decide (x<=y))=l:=by
 have tr:∀a b c:Int,decide (a<=b)=true->decide (b<=c)=true->decide (a<=c)=true:=λa b c h1 h2=>by simp only [decide_eq_true_eq] at*;omega
 have to:∀a b:Int,(decide (a<=b)||decide (b<=a))=true:=λa b=>by simp only [Bool.or_eq_true,decide_eq_true_eq];omega
 refine List.Perm.eq_of_pairwise (le:=λa b=>decide (a<=b)=true) (λa b _ _ h1 h2=>by simp only [decide_eq_true_eq] at h1 h2;omega) (List.pairwise_mergeSort tr to ss) (hl.imp λ{a b} h=>by simp only [decide_eq_true_eq];omega) ((List.mergeSort_perm ss _).trans hp)
theorem Q5k {P:Program} {G:Env} {n0:Nat} {f:FuncId} {T:TypeId} {gs:List Nat}
 (h1:∀(g b Bm clock:Nat) (es:Array MapEntry) (ks:List Int) (w:World),g∈gs->Bm<w.heap.size->w.cell? ⟨Bm,0,none⟩=some (.map (some b))->w.heap[b]?=some (.map es clock)->es.size<=1000000->MapKept.Stamped es clock->es.toList.map (·.key)=ks.map (Value.int .i64)->(∀z∈ks,-9223372036854775808<=z/\z<=9223372036854775807)->
  Calls P f #[.func (.func g) #[] #[.pointer (some ⟨Bm,0,none⟩)]] w λe w' =>∃(v:Value) (ss:List Int),e= .returned v/\ss.Perm ks/\w'.ownsRow w.heap.size T 1 v ss.length ((ss.mergeSort (λx y=>decide (x<=y))).map (Value.int .i64))/\(v= .slice none 0 0↔ss=[])/\Below w.heap.size w w')
 (h2:∀(g Bm:Nat) (w:World),g∈gs->Bm<w.heap.size->w.cell? ⟨Bm,0,none⟩=some (.map none)->
  Calls P f #[.func (.func g) #[] #[.pointer (some ⟨Bm,0,none⟩)]] w λe w' =>e= .returned (.slice none 0 0)/\Below w.heap.size w w'):ZO P G n0 f (zi T gs):=by
 intro c X H next w args vs r hr hc hg hH h0 hfr hargs fr cs
 unfold zi at hr;split at hr
 case h_2=>cases hr
 rename_i g cb;cases hgs:gs.any (Nat.beq g) with
 |false=>rw [hgs] at hr;cases hr
 |true=>
  rw [hgs] at hr;simp only [cond_true] at hr;have hmem:g∈gs:=any_beq hgs;obtain ⟨u,vs',e1,g1,g2⟩:=Q7.1 hargs;have:=rels_nil.1 g2;subst this;simp only [AV.rel] at g1;obtain ⟨as',cs',rfl,g3,g4⟩:=g1;have ha:as' =#[]:=by rw [<-Array.toList_inj];exact rels_nil.1 g3
  subst ha;obtain ⟨u,us,e2,g5,g6⟩:=Q7.1 g4;have:=rels_nil.1 g6;subst this;simp only [AV.rel] at g5;obtain ⟨p,hp,rfl⟩:=g5;have hcs:cs' =#[.pointer (some ⟨p.blk,p.base+0,none⟩)]:=by rw [<-Array.toList_inj];exact e2
  subst hcs;have hvs:vs=#[.func (.func g) #[] #[.pointer (some ⟨p.blk,p.base+0,none⟩)]]:=by rw [<-Array.toList_inj];exact e1
  subst hvs;have hblk:=hH.lt _ _ hp;split at hr
  . rename_i q el pl ro ho;have hbase:p.base=0:=by obtain ⟨_,_,_,_,_,hx,_⟩:=hH.obj _ _ _ ho hp;exact (hx rfl).1
    obtain ⟨mv,hmv,hrel⟩:=hH.cell ho hp (i:=0) (a:= .map q) rfl;rw [hbase] at hmv ⊢;simp only [AV.rel] at hrel;obtain ⟨pm,hpm,rfl⟩:=hrel;split at hr
    . rename_i es clock hmap;obtain ⟨es',hes,hent⟩:=hH.obj _ _ _ hmap hpm;cases hb:(Nat.ble es.length 1000000&&Q5g clock 0 es) with
      |false=>rw [hb] at hr;cases hr
      |true=>
       rw [hb] at hr;simp only [Bool.and_eq_true,Nat.ble_eq] at hb;simp only [cond_true] at hr;split at hr
       . rename_i ks hks;obtain ⟨l,hl,hr⟩:=D.bind_ok hr;obtain ⟨s1,s2,s3⟩:=Q04 hc hl;obtain ⟨k1,k2,k3⟩:=Q0p hc hks hent;obtain ⟨t1,t2⟩:=jK hb.2 hent;have hlen:es'.size<=1000000:=by
          have:es'.toList.length=es.length:=by
           have:∀{xs:List (AV×AV×Nat)} {ys:List MapEntry},Q9 X xs ys->ys.length=xs.length:=by
            intro xs;induction xs with
            |nil=>intro ys h;have:ys=[]:=h;subst this;rfl
            |cons x xs ih=>intro ys h;obtain ⟨y,ys',rfl,_,_,_,h4⟩:=h;simp [ih h4]
           exact this hent
          have h3:es'.size=es'.toList.length:=by simp
          omega
         have hnd:(es'.toList.map (·.key)).Nodup:=by
          rw [k1];have hn1:(Q56 X.O l).Nodup:=s1.imp λ{a b} h=>by omega
          have hn2:(Q56 X.O ks).Nodup:=s2.nodup_iff.1 hn1
          exact List.Pairwise.map (Value.int .i64) (λa b e h=>e (by simpa using h)) hn2
         obtain ⟨u,w',⟨v,ss,rfl,q1,q2,q3,q4⟩,st⟩:=Ze ((h1 g pm.blk p.blk clock es' _ w hmem hblk (by simpa using hmv) hes hlen ⟨λx hx=>(t1 x hx).2,t2,hnd⟩ k1 k3).mono (λe w' ⟨v,ss,a1,a2,a3,a4,a5⟩=>(⟨v,a1,v,ss,rfl,a2,a3,a4,a5⟩:∃u,e= .returned u/\∃v ss,u=v/\ss.Perm (Q56 X.O ks)/\w'.ownsRow w.heap.size T 1 v ss.length ((ss.mergeSort (λx y=>decide (x<=y))).map (Value.int .i64))/\(v= .slice none 0 0↔ss=[])/\Below w.heap.size w w'))) fr cs;have hsort:ss.mergeSort (λx y=>decide (x<=y))=Q56 X.O l:=Q3r (q1.trans s2.symm) s1;have hsl:ss.length=l.length:=by
          have:=(q1.trans s2.symm).length_eq
          simpa using this
         rw [hsort] at q2;split at hr;cases hr;have hss:ss=[]:=List.eq_nil_of_length_eq_zero (by simpa using hsl);have:=q3.2 hss;subst this;exact ⟨X,_,w',st,Ext.le.refl X,by simp only [AV.rel],hH.grow q4,q4.mono h0,λb hb _=>⟨hb,rfl⟩,Nat.le_refl _,hfr,hc⟩;rename_i e l;simp only [sNat_eq] at hr;cases hr;obtain ⟨-,⟨rfl,hz⟩|⟨gb,cap,cur,rfl,b1,b2,b3,b4,b5,b6⟩⟩:=q2;rw [hz] at hsl;simp at hsl;have hgb:gb<w'.heap.size:=(Array.getElem?_eq_some_iff.1 b2).1
         have un:=hfr next (Nat.le_refl _)
         have hle:X.le (X.add next ⟨gb,0,cur.size⟩):=Ext.Zf un;have hn:ss.length<=cur.size:=by omega
         refine ⟨X.add next ⟨gb,0,cur.size⟩,_,w',st,hle,?_,(hH.grow q4).place un hgb (by show n0<=gb;omega) (λi q hq he=>?_) ?_,q4.mono h0,λb hb hlt=>⟨?_,?_⟩,by simp only;omega,λb hb=>?_,Ctx.Q0g hc hle⟩;simp only [AV.rel];refine ⟨_,0,cap,Ext.add_same _ _ _,?_,Nat.le_refl _,?_,?_,λ_=>rfl,λh=>(by cases h)⟩;rw [hsl];rw [<-hsl];exact b3;simp only;omega;have:=hH.lt i q hq;simp only at he;omega;refine ⟨cur,(0,0),⟨T,b2, .inr rfl⟩,rfl,?_,λh=>(by cases h),λi a hi=>?_, .inr (.inr rfl),λ_=>rfl⟩;simp only [List.length_map,Nat.zero_add];rw [<-hsl];exact hn;rw [List.getElem?_map] at hi;cases hx:(e::l)[i]? with
         |none=>rw [hx] at hi;cases hi
         |some x=>
          rw [hx] at hi;simp only [Option.map_some,Option.some.injEq] at hi;subst hi;refine ⟨.int .i64 (x.den X.O),?_,?_⟩;have hb6:=congrArg (·[i]?) b6;simp only [Nat.mul_one,List.getElem?_map,hx,Option.map_some,Q56] at hb6;have hlt:i<ss.length:=by rw [hsl];exact (List.getElem?_eq_some_iff.1 hx).1
          rw [List.getElem?_take,if_pos hlt,Array.getElem?_toList] at hb6;simpa using hb6;simp only [AV.rel];have hxk:x∈ks:=s3 x (List.mem_of_getElem? hx);have hok:=k2 x hxk;exact ⟨E.Qj hle.dom hok,by rw [E.Qb hle.O hok]⟩
         rw [Ext.QI (by omega)];exact hb;exact Tr.Q0 _ _ (by omega);have hb' :next+1<=b:=hb
         rw [Ext.QI (by omega)];exact hfr b (by omega)
       cases hr
    cases hr
  rename_i el pl ro ho;cases hr;have hbase:p.base=0:=by obtain ⟨_,_,_,_,_,hx,_⟩:=hH.obj _ _ _ ho hp;exact (hx rfl).1
  obtain ⟨mv,hmv,hrel⟩:=hH.cell ho hp (i:=0) (a:= .nilmap) rfl;rw [hbase] at hmv ⊢;simp only [AV.rel] at hrel;subst hrel;obtain ⟨u,w',⟨rfl,q4⟩,st⟩:=Ze ((h2 g p.blk w hmem hblk (by simpa using hmv)).mono (λe w' ⟨a1,a2⟩=>(⟨_,a1,rfl,a2⟩:∃u,e= .returned u/\u=Value.slice none 0 0/\Below w.heap.size w w'))) fr cs;exact ⟨X,_,w',st,Ext.le.refl X,by simp only [AV.rel],hH.grow q4,q4.mono h0,λb hb _=>⟨hb,rfl⟩,Nat.le_refl _,hfr,hc⟩;cases hr
end Go.Ax
namespace Go.Ax
open Go.RowKit
theorem Q30:∀(n t:Nat) (acc:Array Value),(∀v∈acc.toList,Qj8 v=true)->∀v∈(Extern.BytealgMakeNoZero.digits n t acc).toList,Qj8 v=true
 |0,_,_,h=>h
 |n+1,t,acc,h=>by
  rw [Extern.BytealgMakeNoZero.digits];refine Q30 n _ _ λv hv=>?_
  simp only [Array.toList_push,List.mem_append,List.mem_singleton] at hv;rcases hv with hv|rfl;exact h v hv;rfl
theorem Qjn {P:Program} (w:World) (ps:Array TypeId) (t e:TypeId) (ht:P.underlying t=some (.slice e)) (n:Nat) (hn:n<=281474976710656):
 ∃cs:Array Value,(Extern.BytealgMakeNoZero.makeNoZero ps #[t] #[.int .i64 n]).run P w= .ok (.slice (some ⟨w.heap.size,0,none⟩) n cs.size) (grown w (.cells cs e) (w.drawn+2))/\n<=cs.size/\∀v∈cs.toList,Qj8 v=true:=by
 have hdef:Extern.BytealgMakeNoZero.makeNoZero ps #[t] #[.int .i64 n]=
  (do
   let .slice elem <-underlying t|stuck "bytealg.MakeNoZero: slice type expected"
   if (n:Int)<0||(n:Int)>2^48 then runtimePanic (.error "makeslice: len out of range")
   let cap <-choose (.appendCap (n:Int).toNat 0 elem)
   askRoom cap
   let bytes <-choose (.extern "internal/bytealg.MakeNoZero.bytes" 0)
   let a <-newRow elem (Extern.BytealgMakeNoZero.digits cap bytes #[])
   pure (.slice (some a) (n:Int).toNat cap)):=rfl
 refine ⟨Extern.BytealgMakeNoZero.digits (grownCap w n 0 e) ((Question.extern "internal/bytealg.MakeNoZero.bytes" 0).cut (w.tape (w.drawn+1) (.extern "internal/bytealg.MakeNoZero.bytes" 0))) #[],?_,?_,Q30 _ _ _ (by simp)⟩
 rw [hdef];have h1:¬(n:Int)<0:=by omega
 have h2:¬(281474976710656:Int)<(n:Int):=by omega
 simp [run_underlying ht,h1,h2,Question.forced,newRow,Lib.size_digits,grownCap];rfl;rw [Lib.size_digits];simpa using grownCap_ge w n 0 e
noncomputable def Qe1 (u8:TypeId):Sum:=λc H next as=>
 match as with
 |[.int .i64 (.lit (.ofNat m))]=>bif Nat.ble 1 m&&Nat.ble m 1099511627776 then
  QC (next+1) λn=> .ok ⟨.slice next 0 m m 1 false,H.set next (.cells (List.replicate m .any) u8 false true false),n,c⟩ else .fail
 |_=> .fail
theorem Qe0 {P:Program} {G:Env} {n0:Nat} {f:FuncId} {u8 t:TypeId} {ps:Array TypeId} (ht:P.underlying t=some (.slice u8))
 (h:∀(args:Array Value) (w:World),(callFunc f args).run P w=((Extern.BytealgMakeNoZero.makeNoZero ps #[t] args).run P w).andThen λv w' => .ok (.value v) w'):Qil P G n0 f (Qe1 u8):=by
 intro c X H next w args vs r hr hc hg hH h0 hfr hargs
 unfold Qe1 at hr;split at hr
 . rename_i m;cases hb:(Nat.ble 1 m&&Nat.ble m 1099511627776) with
   |false=>rw [hb] at hr;cases hr
   |true=>
    rw [hb] at hr;simp only [Bool.and_eq_true,Nat.ble_eq] at hb;simp only [cond_true,sNat_eq] at hr;cases hr;obtain ⟨u,vs',e1,g1,g2⟩:=Q7.1 hargs;have:=rels_nil.1 g2;subst this;simp only [AV.rel] at g1;obtain ⟨-,rfl⟩:=g1;have hvs:vs=#[.int .i64 (m:Int)]:=by rw [<-Array.toList_inj];exact e1
    subst hvs;obtain ⟨cs,hrun,hle,hall⟩:=Qjn (P:=P) w ps t u8 ht m (by omega);have hbn:X.V next=none:=hfr next (Nat.le_refl _)
    have hX:X.le (X.add next ⟨w.heap.size,0,cs.size⟩):=Ext.Zf hbn;refine ⟨X.add next ⟨w.heap.size,0,cs.size⟩,_,_,by rw [h,hrun];rfl,hX,?_,?_,below_grown h0 _ _,λb hb' hlt=>⟨by rw [Ext.QI (by omega)];exact hb',Tr.Q0 _ _ (by omega)⟩,Nat.le_succ _,λb hb' =>by rw [Ext.QI (by simp only at hb';omega)];exact hfr b (by simp only at hb';omega),?_⟩;simp only [AV.rel];exact ⟨_,0,cs.size,Ext.add_same _ _ _,rfl,Nat.le_refl _,hle,by simp,λ_=>by simp,λhf=>by cases hf⟩;refine (hH.alloc h0 _ hbn (.cells cs u8) cs.size ?_).of_heap rfl
    refine ⟨cs,(0,0),⟨_,rfl, .inr rfl⟩,rfl,by simpa using hle,(λhf=>by cases hf),λi a hi=>?_, .inr (.inr rfl),λ_=>rfl⟩;rw [List.getElem?_replicate] at hi;split at hi;rename_i hlt;cases hi;have hlt' :i<cs.size:=by omega
    refine ⟨cs[i],by simp [hlt'],?_⟩;simp only [AV.rel];exact hall _ (by simp);cases hi;exact Ctx.Q0g hc hX
 cases hr
def Qa2:List E->Option (List Nat)
 |[]=>some []
 | .lit (.ofNat n)::l=>match Qa2 l with|some m=>some (n::m)|none=>none
 |_::_=>none
theorem jT:∀{l:List E} {m:List Nat} {O:Val},Qa2 l=some m->S.bytes O l=m.map UInt8.ofNat
 |[],m,O,h=>by cases h;rfl
 |e::l,m,O,h=>by
  unfold Qa2 at h;split at h;rename_i h1;cases h1;rename_i n l' h1;cases h1;split at h;rename_i m' hm;cases h;have:=jT (O:=O) hm;show UInt8.ofNat ((E.lit (.ofNat n)).den O).toNat::S.bytes O l=_
  rw [this];rfl;cases h;cases h
def Qfz (b:Nat):List Nat->Nat->Option Nat
 |[],_=>none
 |n::l,i=>bif Nat.beq (n%256) b then some i else Qfz b l (i+1)
noncomputable def Qej:Sum:=λc H next as=>
 match as with
 |[.str s, .int .u8 (.lit (.ofNat b))]=>match Qa2 s with
  |some l=>bif Nat.ble b 255 then (match Qfz b l 0 with
   |some i=>QC i λi=> .ok ⟨.int .i64 (.lit (.ofNat i)),H,next,c⟩
   |none=> .ok ⟨.int .i64 (.lit (.negSucc 0)),H,next,c⟩) else .fail
  |none=> .fail
 |_=> .fail
theorem Q6d {b:Nat}:∀{l:List Nat} {i:Nat},Qfz b l i=none->∀n∈l,n%256≠b
 |[],_,_,n,hn=>by cases hn
 |m::l,i,h,n,hn=>by
  unfold Qfz at h;cases hb:Nat.beq (m%256) b with
  |true=>rw [hb] at h;cases h
  |false=>rw [hb] at h;rcases List.mem_cons.1 hn with rfl|hn;intro e;rw [e] at hb;simp at hb;exact Q6d h n hn
theorem Q6c {b:Nat}:∀{l:List Nat} {i j:Nat},Qfz b l i=some j->i<=j/\(∃n,l[j-i]?=some n/\n%256=b)/\∀k<j-i,∀n,l[k]?=some n->n%256≠b
 |[],_,_,h=>by cases h
 |m::l,i,j,h=>by
  unfold Qfz at h;cases hb:Nat.beq (m%256) b with
  |true=>rw [hb] at h;cases h;refine ⟨Nat.le_refl _,⟨m,by simp,by simpa using hb⟩,λk hk=>by omega⟩
  |false=>
   rw [hb] at h;simp only [cond_false] at h;obtain ⟨h1,⟨n,h2,h3⟩,h4⟩:=Q6c h;refine ⟨by omega,⟨n,by rw [show j-i=(j-(i+1))+1 by omega,List.getElem?_cons_succ];exact h2,h3⟩,λk hk n hn=>?_⟩;cases k with
   |zero=>simp at hn;subst hn;intro e;rw [e] at hb;simp at hb
   |succ k=>simp at hn;exact h4 k (by omega) n hn
theorem Q47 (l:List Nat) (b:Nat) (hb:b<=255):firstIdx ⟨(l.map UInt8.ofNat).toArray⟩ (UInt8.ofNat b)=match Qfz b l 0 with|some i=>(i:Int)|none=>-1:=by
 have hsz:({ data:=(l.map UInt8.ofNat).toArray}:ByteArray).size=l.length:=by show (l.map UInt8.ofNat).toArray.size=_;simp
 have hget:∀(i n:Nat),l[i]?=some n->(({ data:=(l.map UInt8.ofNat).toArray}:ByteArray)[i]! ==UInt8.ofNat b)=(n%256==b):=by
  intro i n hn;have hi:i<l.length:=(List.getElem?_eq_some_iff.1 hn).1
  have e:l[i]=n:=(List.getElem?_eq_some_iff.1 hn).2
  have e1:({ data:=(l.map UInt8.ofNat).toArray}:ByteArray)[i]! =UInt8.ofNat n:=by
   rw [getElem!_pos _ i (by rw [hsz];exact hi)];show (l.map UInt8.ofNat).toArray[i]'(by simpa using hi)=_
   simp [e]
  rw [e1,Bool.eq_iff_iff];simp only [beq_iff_eq];constructor;intro h;have:=congrArg UInt8.toNat h;simp at this;omega;intro h;apply UInt8.toNat_inj.1;simp;omega
 unfold firstIdx;rw [hsz];cases hx:Qfz b l 0 with
 |none=>
  have hn:(List.range l.length).find? (λi=>({ data:=(l.map UInt8.ofNat).toArray}:ByteArray)[i]! ==UInt8.ofNat b)=none:=by rw [List.find?_eq_none];intro i hi;have hi' :i<l.length:=List.mem_range.1 hi;rw [hget i l[i] (List.getElem?_eq_getElem hi')];have:=Q6d hx l[i] (List.getElem_mem hi');simpa using this
  rw [hn]
 |some j=>
  obtain ⟨-,⟨n,h2,h3⟩,h4⟩:=Q6c hx;simp only [Nat.sub_zero] at h2 h4;have hj:j<l.length:=(List.getElem?_eq_some_iff.1 h2).1
  have hn:(List.range l.length).find? (λi=>({ data:=(l.map UInt8.ofNat).toArray}:ByteArray)[i]! ==UInt8.ofNat b)=some j:=by
   rw [List.find?_range_eq_some];refine ⟨by rw [hget j n h2];simpa using h3,by simpa using hj,λk hk=>?_⟩;have hk' :k<l.length:=by omega
   rw [hget k l[k] (List.getElem?_eq_getElem hk')];have:=h4 k hk l[k] (List.getElem?_eq_getElem hk');simpa using this
  rw [hn]
theorem Qei {P:Program} {G:Env} {n0:Nat} {f:FuncId}
 (h:∀(args:Array Value) (w:World),(callFunc f args).run P w=((Extern.BytealgIndexByte.indexByte args).run P w).andThen λv w' => .ok (.value v) w'):Qil P G n0 f Qej:=by
 intro c X H next w args vs r hr hc hg hH h0 hfr hargs
 unfold Qej at hr;split at hr;rename_i s b;split at hr;rename_i l hl;cases hb:Nat.ble b 255 with
 |false=>rw [hb] at hr;cases hr
 |true=>
  rw [hb] at hr;simp only [cond_true] at hr;obtain ⟨u,vs',e1,g1,g2⟩:=Q7.1 hargs;obtain ⟨v,vs'',rfl,g3,g4⟩:=Q7.1 g2;have:=rels_nil.1 g4;subst this;simp only [AV.rel] at g1 g3;obtain ⟨-,rfl⟩:=g1;obtain ⟨-,rfl⟩:=g3;have hvs:vs=#[.string ⟨(S.bytes X.O s).toArray⟩, .int .u8 (b:Int)]:=by rw [<-Array.toList_inj];exact e1
  subst hvs;have hrun:(callFunc f #[.string ⟨(S.bytes X.O s).toArray⟩, .int .u8 (b:Int)]).run P w= .ok (.value (.int .i64 (match Qfz b l 0 with|some i=>(i:Int)|none=>-1))) w:=by
   rw [h,run_indexByte_string,jT hl];have e:((b:Int).toNat.toUInt8)=UInt8.ofNat b:=by simp
   rw [e,Q47 l b (by simpa using hb)];rfl
  cases hx:Qfz b l 0 with
  |some i=>rw [hx] at hr hrun;simp only [sNat_eq] at hr;cases hr;exact ⟨X,_,w,hrun,Ext.le.refl X,by simp only [AV.rel];exact ⟨trivial,rfl⟩,hH,Below.refl _ _,λb hb _=>⟨hb,rfl⟩,Nat.le_refl _,hfr,hc⟩
  |none=>rw [hx] at hr hrun;cases hr;exact ⟨X,_,w,hrun,Ext.le.refl X,by simp only [AV.rel];exact ⟨trivial,rfl⟩,hH,Below.refl _ _,λb hb _=>⟨hb,rfl⟩,Nat.le_refl _,hfr,hc⟩
 cases hr;cases hr
end Go.Ax
namespace Go.Ax
open Go.RowKit
theorem Q85 {P:Program} {w:World} {t:TypeId} {ms:Array (String×TypeId)} (ht:P.underlying t=some (.interface ms)):(binOp .neq t .nilIface .nilIface).run P w= .ok (.bool false) w:=by
 have hu:=run_underlying (P:=P) ht w;have h:(Op.equalIn (9999+1) t .nilIface .nilIface).run P w= .ok true w:=by unfold Op.equalIn;simp [hu]
 unfold binOp;simp only [Op.equal,Op.maxDepth,Sem.run_bind];rw [show (10000:Nat)=9999+1 from rfl,h];rfl
abbrev dfr (f:FuncId) (td:List Item) (tm:Array Value) (md:FrameMode):Frame:={ fn:=f,tmps:=tm,todo:=td,defers:=[],mode:=md,kind:= .deferred}
theorem Qnb {f:FuncId} {ops:Array Oper} {i d:Nat} {l:List Nat} {k:List Item} {tm:Array Value} {v:Value} {o:Oper} (ho:ops[i]?=some o) (hd:o.dst=some d):
 (dfr f (.inRegion ops (i::l)::k) tm .run).finish v=dfr f (.inRegion ops l::k) (tm.setIfInBounds d v) .run:=by simp [Frame.finish,ho,hd]
theorem yY {o:Oper} {y:Nat->Option Bool} (h:o.guard=none):Region.wanted o y=true:=by unfold Region.wanted;rw [h]
section
variable {P:Program} {f:FuncId} {c:Frame} {cs:List Frame} {w:World}
theorem Q2z {ops:Array Oper} {i d:Nat} {l:List Nat} {k:List Item} {tm:Array Value} {o:Oper} (hc:c.mode= .returning) (ho:ops[i]?=some o) (hg:o.guard=none) (hd:o.dst=some d)
 (hp:o.op= .call { callee:= .builtin .recover,args:=#[],argTypes:=#[]})
 (h' :Steps P (lone (dfr f (.inRegion ops l::k) (tm.setIfInBounds d .nilIface) .run) (c::cs) w) (lone c cs w)):Steps P (lone (dfr f (.inRegion ops (i::l)::k) tm .run) (c::cs) w) (lone c cs w):=by
 have h:=Qbb (P:=P) (fr:=dfr f (.inRegion ops (i::l)::k) tm .run) (cs:=cs) (w:=w) (w' :=w) (o:=o) rfl rfl ho (yY hg) rfl hc rfl (by unfold execOp;rw [hp];simp [resolve,invoke,builtin]);rw [Qnb ho hd] at h;exact .head h h'
theorem Qae {ops:Array Oper} {i d:Nat} {l:List Nat} {k:List Item} {tm:Array Value} {o:Oper} {v:Value} (ho:ops[i]?=some o) (hg:o.guard=none) (hd:o.dst=some d)
 (hn:∀c,o.op≠ .defer c) (hr:(execOp (evC tm) o).run P w= .ok (.value v) w)
 (h' :Steps P (lone (dfr f (.inRegion ops l::k) (tm.setIfInBounds d v) .run) (c::cs) w) (lone c cs w)):Steps P (lone (dfr f (.inRegion ops (i::l)::k) tm .run) (c::cs) w) (lone c cs w):=by
 have h:=ze (P:=P) (fr:=dfr f (.inRegion ops (i::l)::k) tm .run) (cs:=c::cs) (w:=w) (w' :=w) (o:=o) (v:=v) rfl rfl ho (yY hg) hn hr;rw [Qnb ho hd] at h;exact .head h h'
theorem Qex {a b:Code} {k:List Item} {tm:Array Value} (h' :Steps P (lone (dfr f (.code a:: .code b::k) tm .run) (c::cs) w) (lone c cs w)):Steps P (lone (dfr f (.code (.seq a b)::k) tm .run) (c::cs) w) (lone c cs w):= .head (Qip rfl rfl) h'
theorem Q18 {id:Nat} {a b:Oper} {k:List Item} {tm:Array Value} (h' :Steps P (lone (dfr f (.inRegion #[a,b] [0,1]::k) tm .run) (c::cs) w) (lone c cs w)):Steps P (lone (dfr f (.code (.region id #[a,b] false)::k) tm .run) (c::cs) w) (lone c cs w):= .head (Q5h rfl rfl) h'
theorem Qey {ops:Array Oper} {k:List Item} {tm:Array Value} (h' :Steps P (lone (dfr f k tm .run) (c::cs) w) (lone c cs w)):Steps P (lone (dfr f (.inRegion ops []::k) tm .run) (c::cs) w) (lone c cs w):= .head (Yt rfl rfl) h'
theorem Qaf {d:Nat} {a:Code} {tm:Array Value} {fn:Func} (hc:c.mode= .returning) (hf:P.funcs[f]?=some fn) (hr:fn.results=#[]) (hd:evC tm (.tmp d)= .bool false):
 Steps P (lone (dfr f [.code (.cond (.tmp d) a .skip)] tm .run) (c::cs) w) (lone c cs w):=by
 refine .head (Q80 (t:=false) rfl rfl hd) (.head (Qd5 rfl rfl) (.head (Qir rfl rfl rfl) (.one (Qba (v:= .tuple #[]) (w' :=w) rfl rfl rfl hc hf ?_))))
 unfold results;rw [hr];simp
theorem Qab {tm:Array Value} {o:Oper} {t:TypeId} {x:Nat} {ms:Array (String×TypeId)} (ht:P.underlying t=some (.interface ms)) (hp:o.op= .binOp .neq t (.tmp x) (.const .nilIface) t) (hx:evC tm (.tmp x)= .nilIface):(execOp (evC tm) o).run P w= .ok (.value (.bool false)) w:=by
 have hx' :tm.getD x undef= .nilIface:=hx
 unfold execOp;rw [hp];simp only [evC,hx',Sem.run_bind,Jt (P:=P) (w:=w) (op:= .neq) (t:=t) (xo:= .tmp x) (yo:= .const .nilIface) rfl,Result.andThen_ok,Q85 ht,Sem.run_pure]
theorem noopA {fn:Func} {i0 i1:Nat} {o0 o1 o2 o3:Oper} {c1:Code} {t:TypeId} {ms:Array (String×TypeId)} (ht:P.underlying t=some (.interface ms)) (hf:P.funcs[f]?=some fn) (hcall:∀args w,(callFunc f args).run P w= .ok (.enter f args) w)
 (hb:fn.body=some (.seq (.region i0 #[o0,o1] false) (.seq (.region i1 #[o2,o3] false) (.cond (.tmp 5) c1 .skip)))) (hr:fn.results=#[]) (hn:6<=fn.ntmps)
 (p0:o0.op= .call { callee:= .builtin .recover,args:=#[],argTypes:=#[]}) (d0:o0.dst=some 3) (g0:o0.guard=none)
 (p1:o1.op= .assign (.tmp 3)) (d1:o1.dst=some 2) (g1:o1.guard=none)
 (p2:o2.op= .move (.tmp 2)) (d2:o2.dst=some 4) (g2:o2.guard=none)
 (p3:o3.op= .binOp .neq t (.tmp 4) (.const .nilIface) t) (d3:o3.dst=some 5) (g3:o3.guard=none):Q3i P f:=by
 refine ⟨hcall,λc cs w args hc=>?_⟩;have he:Frame.enter P f args .deferred=dfr f [.code (.seq (.region i0 #[o0,o1] false) (.seq (.region i1 #[o2,o3] false) (.cond (.tmp 5) c1 .skip)))] (args++Array.replicate (fn.ntmps-args.size) undef) .run:=by simp [Frame.enter,hf,hb]
 rw [he];generalize hT:args++Array.replicate (fn.ntmps-args.size) undef=T;have hs:6<=T.size:=by rw [<-hT];simp;omega
 clear hT he;refine Qex (Q18 (Q2z hc rfl g0 d0 p0 (Qae (o:=o1) (v:= .nilIface) rfl g1 d1 (λcc e=>by rw [p1] at e;cases e) ?_ (Qey (Qex (Q18 (Qae (o:=o2) (v:= .nilIface) rfl g2 d2 (λcc e=>by rw [p2] at e;cases e) ?_ (Qae (o:=o3) (v:= .bool false) rfl g3 d3 (λcc e=>by rw [p3] at e;cases e) (Qab ht p3 ?_) (Qey (Qaf hc hf hr ?_))))))))));unfold execOp;rw [p1];simp [evC,show 3<T.size by omega];unfold execOp;rw [p2];simp [evC,show 2<T.size by omega];simp [evC,show 4<T.size by omega];simp [evC,show 5<T.size by omega]
theorem noopB {fn:Func} {i0:Nat} {o0 o1:Oper} {c1:Code} {t:TypeId} {ms:Array (String×TypeId)} (ht:P.underlying t=some (.interface ms)) (hf:P.funcs[f]?=some fn) (hcall:∀args w,(callFunc f args).run P w= .ok (.enter f args) w)
 (hb:fn.body=some (.seq (.region i0 #[o0,o1] false) (.cond (.tmp 3) c1 .skip))) (hr:fn.results=#[]) (hn:5<=fn.ntmps)
 (p0:o0.op= .call { callee:= .builtin .recover,args:=#[],argTypes:=#[]}) (d0:o0.dst=some 2) (g0:o0.guard=none)
 (p3:o1.op= .binOp .neq t (.tmp 2) (.const .nilIface) t) (d3:o1.dst=some 3) (g3:o1.guard=none):Q3i P f:=by
 refine ⟨hcall,λc cs w args hc=>?_⟩;have he:Frame.enter P f args .deferred=dfr f [.code (.seq (.region i0 #[o0,o1] false) (.cond (.tmp 3) c1 .skip))] (args++Array.replicate (fn.ntmps-args.size) undef) .run:=by simp [Frame.enter,hf,hb]
 rw [he];generalize hT:args++Array.replicate (fn.ntmps-args.size) undef=T;have hs:5<=T.size:=by rw [<-hT];simp;omega
 clear hT he;refine Qex (Q18 (Q2z hc rfl g0 d0 p0 (Qae (o:=o1) (v:= .bool false) rfl g3 d3 (λcc e=>by rw [p3] at e;cases e) (Qab ht p3 ?_) (Qey (Qaf hc hf hr ?_)))));simp [evC,show 2<T.size by omega];simp [evC,show 3<T.size by omega]
end
end Go.Ax
namespace Go.Ax
open Go.RowKit
noncomputable def yT (ts:List (Nat×Nat)):Sum:=λc H next args=>
 match args with
 |[.ptr b 0]=>match H.get b with
  |some (.cells (.nilptr::ys) el true pl false)=>bif ts.any (λq=>Nat.beq q.1 el&&Nat.beq q.2 (ys.length+1)) then .ok ⟨.tuple [],H.set b (.cells (.ptr b 0::ys) el true pl false),next,c⟩ else .fail
  |some (.cells (.ptr b' 0::_) _ true _ _)=>bif Nat.beq b' b then .ok ⟨.tuple [],H,next,c⟩ else .fail
  |_=> .fail
 |_=> .fail
theorem Q8w {P:Program} {G:Env} {n0:Nat} {f:FuncId} {ts:List (Nat×Nat)}
 (hfresh:∀q∈ts,∀(b:Nat) (w:World),w.cell? ⟨b,0,none⟩=some (.pointer none)->w.shape? b=some (q.1,q.2)->w.frozen? ⟨b,0,none⟩=false->
  Calls P f #[.pointer (some ⟨b,0,none⟩)] w λe w' =>e= .returned (.tuple #[])/\w' =w.setCell ⟨b,0,none⟩ (.pointer (some ⟨b,0,none⟩)))
 (hused:∀(b:Nat) (w:World),w.cell? ⟨b,0,none⟩=some (.pointer (some ⟨b,0,none⟩))->Calls P f #[.pointer (some ⟨b,0,none⟩)] w λe w' =>e= .returned (.tuple #[])/\w' =w):
 ZO P G n0 f (yT ts):=by
 intro c X H next w args vs r h hc hg hH h0 hfr hargs fr cs
 unfold yT at h;split at h;rename_i b;obtain ⟨v,vs',hvs,hv,hnil⟩:=hargs;simp only [AV.rel] at hv;obtain ⟨p,hp,rfl⟩:=hv;have hnil' :vs' =[]:=hnil;subst hnil';have hva:vs=#[.pointer (some ⟨p.blk,p.base+0,none⟩)]:=by rw [<-Array.toList_inj];exact hvs
 subst hva;split at h;rename_i ys el pl hb;cases ht:ts.any (λq=>Nat.beq q.1 el&&Nat.beq q.2 (ys.length+1)) with
 |false=>rw [ht] at h;cases h
 |true=>
  rw [ht] at h;cases h;obtain ⟨q,hq,hqe⟩:=List.any_eq_true.1 ht;simp only [Bool.and_eq_true,Nat.beq_eq] at hqe;obtain ⟨cc,frz,⟨el',h1,mel⟩,h2,h3,h4,h5,h6⟩:=hH.obj _ _ p hb hp;have mel' :=mel.resolve_left (by simp);rw [mel'] at h1;obtain ⟨hb0,hn2⟩:=h4 rfl;obtain ⟨v,hcell,hvr⟩:=hH.cell (i:=0) hb hp rfl;simp only [AV.rel] at hvr;subst hvr;rw [hb0] at hcell ⊢;have hsh:w.shape? p.blk=some (q.1,q.2):=by simp only [World.shape?,h1,h2,hn2,hqe.1,hqe.2];rfl
  have hfz:=hH.notFrozen (i:=0) hb hp (by rw [hb0,hn2];simp);rw [hb0] at hfz;have hst:=hH.store (i:=0) (a:= .ptr b 0) (v:= .pointer (some ⟨p.blk,0,none⟩)) hb hp (by simp) (by simp only [AV.rel];exact ⟨p,hp,by rw [hb0]⟩);rw [hb0] at hst;refine ⟨X, .tuple #[],_,JC (hfresh q hq p.blk w hcell hsh hfz) fr cs,Ext.le.refl X,Qt X,hst,?_,λd hd _=>⟨hd,Tr.Q0 _ _ (QN hp hd)⟩,Nat.le_refl _,hfr,hc⟩
  have hown:=hH.own b _ p hb rfl hp;exact ⟨rfl,rfl,rfl,by simp [World.setCell],λk hk=>Below.heap_setCell _ _ _ _ (by simp only;omega)⟩
 rename_i b' _ el pl ro hb;cases ht:Nat.beq b' b with
 |false=>rw [ht] at h;cases h
 |true=>
  rw [ht] at h;cases h;have hbb:b' =b:=by simpa using ht
  subst hbb;obtain ⟨cc,frz,⟨el',h1,mel⟩,h2,h3,h4,h5,h6⟩:=hH.obj _ _ p hb hp;obtain ⟨hb0,hn2⟩:=h4 rfl;obtain ⟨v,hcell,hvr⟩:=hH.cell (i:=0) hb hp rfl;simp only [AV.rel] at hvr;obtain ⟨p',hp',rfl⟩:=hvr;rw [hp] at hp';cases hp';rw [hb0] at hcell ⊢;exact ⟨X, .tuple #[],w,JC (hused p.blk w hcell) fr cs,Ext.le.refl X,Qt X,hH,Below.refl _ _,λd hd _=>⟨hd,rfl⟩,Nat.le_refl _,hfr,hc⟩
 cases h;cases h
end Go.Ax
namespace Go.Ax
open Go.RowKit
theorem run_next_at {P:Program} (w:World) (ty:TypeId) (r bm since c0:Nat) (seen:Array Nat) (es:Array MapEntry) (clock:Nat) (hr:w.heap[r]?=some (.mapIter (some bm) since seen c0)) (hb:w.heap[bm]?=some (.map es clock)) (hold:∀x∈es.toList,x.born<since) (hsc:since<=c0):
 ((leftOf es seen).size=0/\(Instr.next (.pointer (some ⟨r,0,none⟩)) false ty).run P w= .ok (.tuple #[.bool false]) w)\/
 ∃e∈(leftOf es seen).toList,∃d,(Instr.next (.pointer (some ⟨r,0,none⟩)) false ty).run P w= .ok (.tuple #[.bool true,e.key,e.val]) { w with heap:=w.heap.setIfInBounds r (.mapIter (some bm) since (seen.push e.born) clock),drawn:=d}:=by
 have g1:=Qi (P:=P) hr (by simp);have g2:=Qi (P:=P) hb (by simp);simp only [Instr.next,Sem.run_bind,g1,g2,Result.andThen_ok,next_test_false seen es since c0 hold hsc,Bool.false_eq_true,if_false];have hmem:∀x∈(leftOf es seen).toList,x.born<since:=λx hx=>hold x (mem_left hx).1
 unfold leftOf at hmem ⊢;generalize Array.filter (λe=>!seen.contains e.born) es=L at hmem ⊢;have e1:L.filter (λx=>decide (x.born<since))=L:=Array.filter_eq_self.2 (λx hx=>by simpa using hmem x (by simpa using hx));have e2:L.filter (λx=>decide (x.born>=since))=#[]:=by rw [Array.filter_eq_empty_iff];intro x hx;have:=hmem x (by simpa using hx);simp;omega
 simp only [e1,e2,Array.append_empty];by_cases h0:L.size=0;left;have:L=#[]:=Array.eq_empty_of_size_eq_zero h0
 subst this;refine ⟨rfl,?_⟩;simp [choose,Sem.run,Question.forced];right;have hne:L.isEmpty=false:=by simp [Array.isEmpty,h0]
 simp only [hne,Bool.false_eq_true,if_false,Array.empty_append,Array.size_map];have hch:∃(j:Nat) (d:Nat),j<L.size/\(choose (Question.mapNext L.size)).run P w= .ok j { w with drawn:=d}:=by by_cases hf:L.size<=1;exact ⟨0,w.drawn,by omega,by simp [choose,Sem.run,Question.forced,hf]⟩;exact ⟨_,w.drawn+1,Nat.mod_lt _ (by omega),by simp only [choose,Sem.run,Question.forced,decide_eq_true_eq,hf,if_false,Question.cut];rfl⟩
 obtain ⟨j,d,hj,hrun⟩:=hch;refine ⟨L[j],by simp,d,?_⟩;have g3:=QZ (P:=P) (w:={ w with drawn:=d}) (o' := .mapIter (some bm) since (seen.push L[j].born) clock) hr (by simp);simp only [hrun,Array.getElem?_map,Array.getElem?_eq_getElem hj,Option.map_some,Sem.run_bind,Result.andThen_ok,g3];rfl
theorem run_entry_at {P:Program} (w:World) (r bm since:Nat) (seen:Array Nat) (es:Array MapEntry) (clock c0:Nat) (e:MapEntry) (hr:w.heap[r]?=some (.mapIter (some bm) since (seen.push e.born) c0)) (hb:w.heap[bm]?=some (.map es clock)) (he:e∈es.toList) (hn:(es.toList.map (·.born)).Nodup) (hc:c0=clock):
 (Instr.entry (.pointer (some ⟨r,0,none⟩))).run P w= .ok (.tuple #[e.key,e.val]) w:=by
 subst hc;have g1:=Qi (P:=P) hr (by simp);have g2:=Qi (P:=P) hb (by simp);have hf:es.find? (·.born==e.born)=some e:=by rw [<-Array.find?_toList];exact find_born e es.toList hn he
 simp only [Instr.entry,Sem.run_bind,g1,g2,Result.andThen_ok,Array.back?_push,bne_self_eq_false,Bool.false_eq_true,if_false,hf];rfl
end Go.Ax
namespace Go.Ax
open Go.RowKit
theorem Q4q {k:IntKind} {a b r:E} {O:Val} (h:E.arith .sub k a b=some r):r.den O=k.wrap (a.den O-b.den O):=by
 unfold E.arith at h;split at h<;>simp only [Option.some.injEq,reduceCtorEq,E.litS_eq,wrapK_eq] at h<;>subst h<;>first
  |rfl
  |(rw [E.Q3n];rfl)
  |exact absurd ‹BinOp.sub=BinOp.add› (by decide)
  |exact absurd ‹BinOp.sub=BinOp.mul› (by decide)
noncomputable def Qhh (x:AV×AV×Nat):Bool:=
 match x.1,x.2.1 with
 | .agg [.int .i64 _, .int .i64 _, .int .i64 _, .int .i64 _, .int .i64 _], .agg [.int .i64 _, .int .i64 _]=>true
 |_,_=>false
noncomputable def Qhb (x:AV×AV×Nat):E:=
 match x.2.1 with
 | .agg [.int .i64 l,_]=>l
 |_=> .lit 0
noncomputable def Qa8 (c:Ctx) (now l:E):D Bool:=
 match E.cmp c .gtr now l with
 |some false=> .ok true
 |_=>match E.conv .u64 now,E.conv .u64 l with
  |some a,some b=>match E.arith .sub .u64 a b with
   |some d=>match E.cmp c .gtr d (.lit (.ofNat 400)) with
    |some false=> .ok true
    |some true=> .ok false
    |none=> .ask .gtr d (.lit (.ofNat 400))
   |none=> .ok false
  |_,_=> .ok false
noncomputable def yQ (c:Ctx) (now:E):List (AV×AV×Nat)->D Bool
 |[]=> .ok true
 |x::l=>match Qa8 c now (Qhb x) with
  | .ok true=>yQ c now l
  |r=>r
def Q62:List Nat->Bool
 |[]=>true
 |x::l=>!l.any (Nat.beq x)&&Q62 l
theorem jQ:∀{l:List Nat},Q62 l=true->l.Nodup
 |[],_=>List.nodup_nil
 |x::l,h=>by simp only [Q62,Bool.and_eq_true,Bool.not_eq_true'] at h;refine List.nodup_cons.2 ⟨λhx=>?_,jQ h.2⟩;have:l.any (Nat.beq x)=true:=List.any_eq_true.2 ⟨x,hx,by simp⟩;rw [this] at h;cases h.1
theorem Q6i {n:Nat->Prop} {c:Ctx} {O:Val} {now l:E} (hc:c.okN n O) (h:Qa8 c now l= .ok true):
 (decide (now.den O>l.den O)&&decide (IntKind.u64.wrap (IntKind.u64.wrap (now.den O)-IntKind.u64.wrap (l.den O))>400))=false:=by
 unfold Qa8 at h;split at h;rename_i h1;have:=E.Qe rfl h1 hc;simp only [Y2] at this;rw [this];rfl;split at h;rename_i a b ha hb;split at h;rename_i d hd;split at h;rename_i h2;have t:=E.Qe rfl h2 hc;simp only [Y2,E.den] at t;rw [Q4q hd,<-E.JM (O:=O) ha,<-E.JM (O:=O) hb] at t;rw [Bool.and_eq_false_iff,decide_eq_false_iff_not,decide_eq_false_iff_not];exact .inr (of_decide_eq_false t)
 cases h;cases h;cases h;cases h
theorem qo {n:Nat->Prop} {c:Ctx} {O:Val} {now:E} (hc:c.okN n O):∀{l:List (AV×AV×Nat)},yQ c now l= .ok true->∀x∈l,Qa8 c now (Qhb x)= .ok true
 |[],_,x,hx=>by cases hx
 |y::l,h,x,hx=>by unfold yQ at h;split at h;rename_i hy;rcases List.mem_cons.1 hx with rfl|hx;exact hy;exact qo hc h x hx;rename_i r hr;rw [h] at hr;exact absurd rfl (hr ·)
theorem Jd {X:Ext}:∀{xs:List (AV×AV×Nat)} {es:List MapEntry},Q9 X xs es->∀e∈es,∃x∈xs,x.1.rel X e.key/\x.2.1.rel X e.val/\e.born=x.2.2
 |[],es,h,e,he=>by simp only [Q9] at h;subst h;cases he
 |x::xs,es,⟨e',es',h1,h2,h3,h4,h5⟩,e,he=>by subst h1;rcases List.mem_cons.1 he with rfl|he;exact ⟨x,by simp,h2,h3,h4⟩;obtain ⟨y,hy,k⟩:=Jd h5 e he;exact ⟨y,by simp [hy],k⟩
theorem jX {X:Ext}:∀{xs:List (AV×AV×Nat)} {es:List MapEntry},Q9 X xs es->es.map (·.born)=xs.map (·.2.2)
 |[],es,h=>by simp only [Q9] at h;subst h;rfl
 |x::xs,es,⟨e',es',h1,h2,h3,h4,h5⟩=>by subst h1;simp only [List.map_cons,h4,jX h5]
noncomputable def Q11:Sum:=λc H next as=>
 match as with
 |[.ptr F o, .int .i64 now]=>match H.get F with
  |some (.cells cs _ _ _ _)=>match cs[o+1]? with
   |some (.map m)=>match H.get m with
    |some (.map es clock)=>bif es.all Qhh&&(es.all (λx=>Nat.blt x.2.2 clock)&&Q62 (es.map (·.2.2))) then
     (match yQ c now es with
     | .ok true=> .ok ⟨.tuple [],H,next,c⟩
     | .ask op a b=> .ask op a b
     |_=> .fail) else .fail
    |_=> .fail
   |_=> .fail
  |_=> .fail
 |_=> .fail
theorem Q6l {P:Program} {G:Env} {n0:Nat} {f:FuncId}
 (h:∀(F o mb:Nat) (now:Int) (es:Array MapEntry) (clock:Nat) (w:World),w.cell? ⟨F,o+1,none⟩=some (.map (some mb))->w.heap[mb]?=some (.map es clock)->(∀x∈es.toList,x.born<clock)->(es.toList.map (·.born)).Nodup->
  (∀x∈es.toList,∃a b c d e:Int,x.key= .agg #[.int .i64 a, .int .i64 b, .int .i64 c, .int .i64 d, .int .i64 e])->
  (∀x∈es.toList,∃l n:Int,x.val= .agg #[.int .i64 l, .int .i64 n]/\(decide (now>l)&&decide (IntKind.u64.wrap (IntKind.u64.wrap now-IntKind.u64.wrap l)>400))=false)->
  Calls P f #[.pointer (some ⟨F,o,none⟩), .int .i64 now] w λe w' =>e= .returned (.tuple #[])/\Below w.heap.size w w'):ZO P G n0 f Q11:=by
 intro c X H next w args vs r hr hc hg hH h0 hfr hargs fr cs
 unfold Q11 at hr;split at hr;rename_i F o now;split at hr;rename_i cells el ex pl ro hF;split at hr;rename_i m hm;split at hr;rename_i es clock hes;cases hb:(es.all Qhh&&(es.all (λx=>Nat.blt x.2.2 clock)&&Q62 (es.map (·.2.2)))) with
 |false=>rw [hb] at hr;cases hr
 |true=>
  rw [hb] at hr;simp only [cond_true] at hr;split at hr;rename_i hfresh;cases hr;simp only [Bool.and_eq_true] at hb;obtain ⟨b1,b2,b3⟩:=hb;obtain ⟨u,vs',e1,g1,g2⟩:=Q7.1 hargs;obtain ⟨v,vs'',rfl,g3,g4⟩:=Q7.1 g2;have:=rels_nil.1 g4;subst this;simp only [AV.rel] at g1 g3;obtain ⟨p,hp,rfl⟩:=g1;obtain ⟨k2,rfl⟩:=g3;have hvs:vs=#[.pointer (some ⟨p.blk,p.base+o,none⟩), .int .i64 (now.den X.O)]:=by rw [<-Array.toList_inj];exact e1
  subst hvs;obtain ⟨vm,hcell,hvr⟩:=hH.cell (i:=o+1) hF hp hm;simp only [AV.rel] at hvr;obtain ⟨pm,hpm,rfl⟩:=hvr;obtain ⟨es',hmap,hrel⟩:=hH.obj _ _ pm hes hpm;have hcall:=h p.blk (p.base+o) pm.blk (now.den X.O) es' clock w (by rw [Nat.add_assoc];exact hcell) hmap
   (λx hx=>by obtain ⟨y,hy,-,-,hborn⟩:=Jd hrel x hx;rw [hborn];have:=List.all_eq_true.1 b2 y hy;simpa using this)
   (by rw [jX hrel];exact jQ b3)
   (λx hx=>by obtain ⟨y,hy,hk,-,-⟩:=Jd hrel x hx;have:=List.all_eq_true.1 b1 y hy;unfold Qhh at this;split at this;rename_i e1 e2 e3 e4 e5 f1 f2 q1 q2;rw [q1] at hk;simp only [AV.rel] at hk;obtain ⟨ws,hw1,hw2⟩:=hk;obtain ⟨v1,l1,r1,a1,hw2⟩:=Q7.1 hw2;obtain ⟨v2,l2,r2,a2,hw2⟩:=Q7.1 hw2;obtain ⟨v3,l3,r3,a3,hw2⟩:=Q7.1 hw2;obtain ⟨v4,l4,r4,a4,hw2⟩:=Q7.1 hw2;obtain ⟨v5,l5,r5,a5,hw2⟩:=Q7.1 hw2;have r6:=rels_nil.1 hw2;subst r6 r5 r4 r3 r2;simp only [AV.rel] at a1 a2 a3 a4 a5;refine ⟨e1.den X.O,e2.den X.O,e3.den X.O,e4.den X.O,e5.den X.O,?_⟩;rw [hw1];congr 1;rw [<-Array.toList_inj,r1,a1.2,a2.2,a3.2,a4.2,a5.2];cases this)
   (λx hx=>by
    obtain ⟨y,hy,-,hv,-⟩:=Jd hrel x hx;have hfl:=List.all_eq_true.1 b1 y hy;have hfr:=Q6i (O:=X.O) hc (qo hc hfresh y hy);unfold Qhh at hfl;split at hfl;rename_i e1 e2 e3 e4 e5 f1 f2 q1 q2;have hl:Qhb y=f1:=by unfold Qhb;rw [q2]
    rw [q2] at hv;simp only [AV.rel] at hv;obtain ⟨ws,hw1,hw2⟩:=hv;obtain ⟨v1,l1,r1,a1,hw2⟩:=Q7.1 hw2;obtain ⟨v2,l2,r2,a2,hw2⟩:=Q7.1 hw2;have r6:=rels_nil.1 hw2;subst r6 r2;simp only [AV.rel] at a1 a2;refine ⟨f1.den X.O,f2.den X.O,?_,by rw [<-hl];exact hfr⟩;rw [hw1];congr 1;rw [<-Array.toList_inj,r1,a1.2,a2.2];cases hfl)
  obtain ⟨u,w',⟨rfl,hB⟩,st⟩:=Ze (q:=λv w' =>v= .tuple #[]/\Below w.heap.size w w') (hcall.mono λe w' he=>⟨.tuple #[],he.1,rfl,he.2⟩) fr cs
  exact ⟨X, .tuple #[],w',st,Ext.le.refl X,Qt X,⟨λb o p ho hp=>by rw [hB.block _ (hH.lt _ _ hp)];exact hH.obj b o p ho hp,hH.inj,λb p hp=>Nat.lt_of_lt_of_le (hH.lt b p hp) hB.size,hH.own⟩,hB.mono h0,λb hb _=>⟨hb,rfl⟩,Nat.le_refl _,hfr,hc⟩
  cases hr;cases hr
 cases hr;cases hr;cases hr;cases hr
end Go.Ax
namespace Go.Ax
open Go.RowKit
structure Fr where
 fn:Nat
 nt:Nat
 cur:Q7t
 todo:List Qw
 tms:List AV
noncomputable def Fr.af (f:Fr):Qk:=⟨f.fn,f.nt,setArgs 0 f.tms (.sk f.nt),f.cur,f.todo,[],false,none⟩
structure StC where
 fr:Fr
 cs:List Fr
 l:List (Nat×Q8)
 next:Nat
 fs:List Fact
 vs:List Nat
noncomputable def StC.am (t:StC) (room:Nat):AM:=⟨t.fr.af,t.cs.map Fr.af,Q55 room t.l,t.next,⟨t.fs,t.vs⟩⟩
noncomputable def Qnf:Q7t->Bool
 | .draw ops done rest pa=>match rest,pa with
  |(i,_)::_,[]=>Nat.beq (Nat.land done (((Q7q ops 0 (.sk ops.length)).get i).getD 0)) done
  |_,_=>false
 |_=>true
theorem zK {ops:List Oper} {done:Nat} {rest:List (Nat×List Nat)} {pa:List (Nat×Nat)} (h:Qnf (.draw ops done rest pa)=true):∃i rc rest',rest=(i,rc)::rest' /\pa=[]/\Nat.land done (((Q7q ops 0 (.sk ops.length)).get i).getD 0)=done:=by
 cases rest with
 |nil=>simp [Qnf] at h
 |cons q r=>
  obtain ⟨i,rc⟩:=q;cases pa with
  |nil=>exact ⟨i,rc,r,rfl,rfl,Nat.eq_of_beq_eq_true h⟩
  |cons=>simp [Qnf] at h
noncomputable def frB (U:Sb) (vs:List Nat) (K:Nat->Bool) (a:Qk) (f:Fr):Bool:=!a.ret&&(Qj1 a.defers&&(Qmr a.ro&&(Qnf a.cur&&(a.todo.all Q5x&&(Qca U vs K a.tm 0 f.tms&&Nat.beq f.tms.length a.nt)))))
noncomputable def Qkm (U:Sb) (vs:List Nat) (K:Nat->Bool):List Qk->List Fr->Bool
 |[],[]=>true
 |a::as,f::fs=>frB U vs K a f&&Qkm U vs K as fs
 |_,_=>false
section
variable {P:Program} {G:Env} {n0:Nat} {H H' :Tr Q8} {X X' :Ext} {U:Sb} {vs:List Nat} {K:Nat->Bool} {a:Qk} {t:Fr} {f:Frame}
theorem Qa9 (hk:frB U vs K a t=true) (h1:a.fn=t.fn) (h:Q1r P X a f):Q1r P X' t.af f:=by
 simp only [frB,Bool.and_eq_true,Bool.not_eq_true'] at hk;obtain ⟨b1,b2,b3,-⟩:=hk;have hdef:a.defers=[]:=by cases hh:a.defers with
  |nil=>rfl
  |cons a l=>rw [hh] at b2;cases b2
 have hro:a.ro=none:=by cases hh:a.ro with
  |none=>rfl
  |some a=>rw [hh] at b3;cases b3
 refine ⟨h.fn.trans h1,h.kind,?_,?_⟩;have:=h.ro;rw [hro] at this;exact this;have:=h.defers;rw [hdef] at this;exact this
theorem Qcl.Yi (hc:Cast U vs K X X') (hk:frB U vs K a t=true) (b4:jR a.cur=true) (h1:a.fn=t.fn) (h2:a.nt=t.nt) (h3:a.cur=t.cur) (h4:a.todo=t.todo) (h:Qcl P G X n0 H a f):Qcl P G X' n0 H' t.af f/\Qq t.af=[]:=by
 have hb:=Qa9 (X' :=X') hk h1 h.1;simp only [frB,Bool.and_eq_true,Bool.not_eq_true',Nat.beq_eq] at hk;obtain ⟨b1,-,-,-,b5,b6,b7⟩:=hk;obtain ⟨-,h'⟩:=h;rw [b1] at h';obtain ⟨hm,is,his,hcur'⟩:=h';have htm:∀{tmps},QJ X a.nt a.tm tmps->QJ X' t.af.nt t.af.tm tmps:=λh=>by have:=QJ.Yi hc h b6 b7;rw [h2] at this;exact this
 have hids:Qq t.af=[]:=by
  show Qq t.af=[];unfold Qq;show (match t.cur with| .draw _ _ _ pa=>pa.map (·.2)|_=>[])=[];rw [<-h3];cases hcc:a.cur with
  |draw ops done rest pa=>rw [hcc] at b4;cases b4
  |_=>rfl
 refine ⟨⟨hb,hm,is,?_,?_⟩,hids⟩;show YR X' t.todo is;rw [<-h4];exact ZK b5 his;show match t.cur with
  | .none=>_
  | .reg ops k rest=>_
  | .draw ops done rest pa=>_
 rw [<-h3];cases hcc:a.cur with
 |none=>rw [hcc] at hcur';exact ⟨hcur'.1,htm hcur'.2⟩
 |reg ops k rest=>rw [hcc] at hcur';exact ⟨hcur'.1,hcur'.2.1,htm hcur'.2.2⟩
 |draw ops done rest pa=>rw [hcc] at b4;cases b4
theorem Q59.Yi (hc:Cast U vs K X X') (hk:frB U vs K a t=true) (h1:a.fn=t.fn) (h2:a.nt=t.nt) (h3:a.cur=t.cur) (h4:a.todo=t.todo) (h:Q59 P G X n0 H a f):Q59 P G X' n0 H' t.af f/\Qq t.af=[]:=by
 have hb:=Qa9 (X' :=X') hk h1 h.1;simp only [frB,Bool.and_eq_true,Bool.not_eq_true',Nat.beq_eq] at hk;obtain ⟨b1,-,-,b4,b5,b6,b7⟩:=hk;obtain ⟨-,-,hm,is,his,hcur'⟩:=h;have htm:∀{tmps},QJ X a.nt a.tm tmps->QJ X' t.af.nt t.af.tm tmps:=λh=>by have:=QJ.Yi hc h b6 b7;rw [h2] at this;exact this
 have hids:Qq t.af=[]:=by
  unfold Qq;show (match t.cur with| .draw _ _ _ pa=>pa.map (·.2)|_=>[])=[];rw [<-h3];cases hcc:a.cur with
  |draw ops done rest pa=>rw [hcc] at b4;obtain ⟨-,-,-,-,rfl,-⟩:=zK b4;rfl
  |_=>rfl
 refine ⟨⟨hb,rfl,hm,is,?_,?_⟩,hids⟩;show YR X' t.todo is;rw [<-h4];exact ZK b5 his;show match t.cur with
  | .none=>_
  | .reg ops k rest=>_
  | .draw ops done rest pa=>_
 rw [<-h3];cases hcc:a.cur with
 |none=>rw [hcc] at hcur';exact ⟨hcur'.1,htm hcur'.2⟩
 |reg ops k rest=>rw [hcc] at hcur';exact ⟨hcur'.1,hcur'.2.1,hcur'.2.2.1,htm hcur'.2.2.2⟩
 |draw ops done rest pa=>
  rw [hcc] at hcur' b4;obtain ⟨A,fuel,tp,listed,i,rc,rest',o,g1,g2,g3,g4,g5,g6,g7,g8,D⟩:=hcur';subst g2;have hall:∀j,done.testBit j=true->Lst listed j:=λj hj=>by
   obtain ⟨i',rc',r',e,-,hl⟩:=zK b4;cases e;refine D.before g3 g8 ?_;have:(Nat.land done (((Q7q ops 0 (.sk ops.length)).get i).getD 0)).testBit j=true:=by rw [hl];exact hj
   change (done &&& _).testBit j=true at this
   rw [Nat.testBit_and,Bool.and_eq_true] at this;exact this.2
  have htm' :QJ X' t.af.nt t.af.tm f.tmps:=htm ⟨D.tmr.1,λu=>D.tmr.2 u λj oj hj hl _=>absurd (hall j hj) hl⟩;exact ⟨A,fuel,tp,listed,i,rc,rest',o,g1,rfl,g3,g4,g5,g6,g7,g8,D.size,D.sub,D.closed,D.plan,D.light,D.looks,D.inRange,⟨htm'.1,λu _=>htm'.2 u⟩,λj oj hj hl _=>absurd (hall j hj) hl⟩
end
abbrev sk4 (a:Qk):Nat×Nat×Q7t×List Qw:=(a.fn,a.nt,a.cur,a.todo)
abbrev Fr.sk4 (a:Fr):Nat×Nat×Q7t×List Qw:=(a.fn,a.nt,a.cur,a.todo)
theorem Zl.Yi {P:Program} {G:Env} {n0:Nat} {H H' :Tr Q8} {X X' :Ext} {U:Sb} {vs:List Nat} {K:Nat->Bool} (hc:Cast U vs K X X'):∀{as:List Qk} {ts:List Fr} {cs:List Frame},Qkm U vs K as ts=true->as.map sk4=ts.map Fr.sk4->Zl P G X n0 H as cs->Zl P G X' n0 H' (ts.map Fr.af) cs/\(ts.map Fr.af).flatMap Qq=[]
 |[],ts,cs,hk,e,h=>by
  cases ts with
  |nil=>exact ⟨h,rfl⟩
  |cons t ts=>simp [Qkm] at hk
 |a::as,ts,cs,hk,e,h=>by
  cases ts with
  |nil=>simp [Qkm] at hk
  |cons t ts=>simp only [Qkm,Bool.and_eq_true] at hk;simp only [List.map_cons,List.cons.injEq] at e;obtain ⟨e1,e2⟩:=e;simp only [sk4,Fr.sk4,Prod.mk.injEq] at e1;obtain ⟨f,fs,rfl,h1,h2⟩:=h;obtain ⟨k1,k2⟩:=Q59.Yi (H' :=H') hc hk.1 e1.1 e1.2.1 e1.2.2.1 e1.2.2.2 h1;obtain ⟨k3,k4⟩:=Zl.Yi hc hk.2 e2 h2;refine ⟨⟨f,fs,rfl,k1,k3⟩,?_⟩;simp only [List.map_cons,List.flatMap_cons,k2,k4,List.append_nil]
theorem Sim.Qju {P:Program} {G:Env} {n0:Nat} {w0:World} {cs0:List Frame} {X:Ext} {s:AM} {m:Machine} {U:Sb} {K:Nat->Bool} {t:StC} {room:Nat} (h:Sim P G n0 w0 cs0 X s m)
 (hf:frB U t.vs K s.fr t.fr=true) (hnd:jR s.fr.cur=true) (hfs:Qkm U t.vs K s.cs t.cs=true) (e0:sk4 s.fr=t.fr.sk4) (e1:s.cs.map sk4=t.cs.map Fr.sk4) (hH:Qkz U t.vs K s.H t.l=true)
 (hng:0<G.T.ng) (hKg:∀b,b<G.T.ng->K b=true) (hKn:∀b,t.next<=b->K b=false) (hvn:∀i∈t.vs,i<t.next) (hvd:∀i∈t.vs,K i=true->X.dom i)
 (hctx:(⟨t.fs,t.vs⟩:Ctx).okN (Z5 U t.vs K X).dom (Z5 U t.vs K X).O):Sim P G n0 w0 cs0 (Z5 U t.vs K X) (t.am room) m:=by
 obtain ⟨fr,cs,w,rfl,hF,hall,hHr,hB,h0⟩:=h.ex;obtain ⟨k0,hk0⟩:=h.Ql 0 hng;have hc:Cast U t.vs K X (Z5 U t.vs K X):=by refine ⟨λi hi=>⟨?_,by simp only [Z5,if_pos hi],rfl⟩,λb hb=>by simp only [Z5,if_pos hb]⟩;by_cases hk:K i=true;obtain ⟨p,hp⟩:=hvd i hi hk;exact ⟨p,by simp only [Z5,if_pos hk,hp]⟩;exact ⟨_,by simp only [Z5,if_neg hk,if_pos hi];exact hk0⟩
 have hlt:∀b p,(Z5 U t.vs K X).V b=some p->p.blk<w.heap.size:=λb p hp=>by simp only [Z5] at hp;split at hp;exact hHr.lt b p hp;split at hp;exact hHr.lt 0 p hp;cases hp
 simp only [sk4,Fr.sk4,Prod.mk.injEq] at e0;obtain ⟨g1,g2⟩:=Qcl.Yi (H' :=Q55 room t.l) hc hf hnd e0.1 e0.2.1 e0.2.2.1 e0.2.2.2 hF;obtain ⟨g3,g4⟩:=Zl.Yi (H' :=Q55 room t.l) hc hfs e1 hall;refine ⟨⟨fr,cs,w,rfl,g1,g3,Qo.Yi hHr hc hlt hH,hB,h0⟩,hctx,λg hg=>?_,λb hb=>?_,?_⟩;obtain ⟨n,hn⟩:=h.Ql g hg;exact ⟨n,by simp only [Z5,if_pos (hKg g hg)];exact hn⟩;simp only [Z5];have hb' :t.next<=b:=hb;rw [if_neg (by rw [hKn b hb'];simp),if_neg (λhm=>by have:=hvn b hm;omega)];have e:(t.am room).fr::(t.am room).cs=t.fr.af::t.cs.map Fr.af:=rfl
 rw [e,List.flatMap_cons,g2,g4];simp
def Qde:Nat->List Qk->Bool
 |_,[]=>true
 |0,_::_=>false
 |L+1,_::l=>Qde L l
noncomputable def Qkc (L:Nat) (spec:Spec) (G:Env) (n:Nat) (s:AM):zV:=zV.rec (motive:=λ_=>zV) (λs=>Bool.rec (motive:=λ_=>zV) (.go s) (.stop s) (Qde L s.cs)) (λs=> .stop s) (leaf spec G n s)
noncomputable def Qjo (L:Nat) (spec:Spec) (G:Env) (n:Nat) (k:Nat):AM->zV:=
 Nat.rec (motive:=λ_=>AM->zV) (λs=>Qkc L spec G n s)
  (λ_ ih s=>zV.rec (motive:=λ_=>zV) (λs=>ih s) (λs=> .stop s) (ih s)) k
theorem Qha {L:Nat} {spec:Spec} {G:Env} (hs:YF G spec) (n:Nat) (s:AM):Zp G s (Qkc L spec G n s).state:=by
 have h:=Q3u hs n 0 s;have e:Qgh spec G n 0 s=leaf spec G n s:=rfl;rw [e] at h;unfold Qkc;cases hl:leaf spec G n s with
 |stop t=>rw [hl] at h;exact h
 |go t=>rw [hl] at h;simp only;cases Qde L t.cs<;>exact h
theorem Q86 {L:Nat} {spec:Spec} {G:Env} (hs:YF G spec) (n:Nat):∀(k:Nat) (s:AM),Zp G s (Qjo L spec G n k s).state
 |0,s=>Qha hs n s
 |k+1,s=>by
  have h:=Q86 (L:=L) hs n k s;have e:Qjo L spec G n (k+1) s=zV.rec (motive:=λ_=>zV) (λs=>Qjo L spec G n k s) (λs=> .stop s) (Qjo L spec G n k s):=rfl;rw [e];cases hr:Qjo L spec G n k s with
  |stop t=>rw [hr] at h;exact h
  |go t=>rw [hr] at h;exact h.trans (Q86 hs n k t)
noncomputable def Qlp (L:Nat) (spec:Spec) (G:Env) (n k i:Nat):AM->AM:=
 Nat.rec (motive:=λ_=>AM->AM) (λs=>AM.rec (motive:=λ_=>AM) (λfr cs H nx c=>⟨fr,cs,H,nx,c⟩) (Qjo L spec G n k s).state)
  (λ_ ih s=>AM.rec (motive:=λ_=>AM) (λfr cs H nx c=>ih ⟨fr,cs,H,nx,c⟩) (ih s)) i
theorem Q88 {L:Nat} {spec:Spec} {G:Env} (hs:YF G spec) (n k:Nat):∀(i:Nat) (s:AM),Zp G s (Qlp L spec G n k i s)
 |0,s=>by
  have h:=Q86 (L:=L) hs n k s;have e:Qlp L spec G n k 0 s=AM.rec (motive:=λ_=>AM) (λfr cs H nx c=>⟨fr,cs,H,nx,c⟩) (Qjo L spec G n k s).state:=rfl
  rw [e];exact h
 |i+1,s=>by have h:=Q88 (L:=L) hs n k i s;have e:Qlp L spec G n k (i+1) s=AM.rec (motive:=λ_=>AM) (λfr cs H nx c=>Qlp L spec G n k i ⟨fr,cs,H,nx,c⟩) (Qlp L spec G n k i s):=rfl;rw [e];exact h.trans (Q88 hs n k i _)
noncomputable def Qbl (L:Nat) (spec:Spec) (G:Env) (n k:Nat):List Nat->AM->AM
 |[],s=>s
 |i::l,s=>AM.rec (motive:=λ_=>AM) (λfr cs H nx c=>Qbl L spec G n k l ⟨fr,cs,H,nx,c⟩) (Qlp L spec G n k i s)
theorem Q3v {L:Nat} {spec:Spec} {G:Env} (hs:YF G spec) (n k:Nat):∀(l:List Nat) (s:AM),Zp G s (Qbl L spec G n k l s)
 |[],s=> .refl s
 |i::l,s=>(Q88 hs n k i s).trans (Q3v hs n k l _)
noncomputable def Qhg (U:Sb) (keep:List Nat) (ng:Nat) (t:StC) (s:AM):Bool:=
 jR s.fr.cur&&(frB U t.vs (Zi ng keep) s.fr t.fr&&(Qkm U t.vs (Zi ng keep) s.cs t.cs&&(Qkz U t.vs (Zi ng keep) s.H t.l&&(Qfb U t.vs s.ctx t.fs&&
  (Nat.ble ng t.next&&(keep.all (λb=>Nat.blt b t.next)&&(t.vs.all (λi=>Nat.blt i t.next)&&t.vs.all (λi=>!Zi ng keep i||s.ctx.vs.any (Nat.beq i)))))))))
def HopC (L:Nat) (spec:Spec) (G:Env) (n k:Nat) (s:AM) (j:List Nat) (U:Sb) (keep:List Nat) (t:StC):Prop:=(AM.rec (motive:=λ_=>(Nat×Nat×Q7t×List Qw)×List (Nat×Nat×Q7t×List Qw)×Bool) (λfr cs H nx c=>(sk4 fr,cs.map sk4,Qhg U keep G.T.ng t ⟨fr,cs,H,nx,c⟩)) (Qbl L spec G n k j s))=(t.fr.sk4,t.cs.map Fr.sk4,true)
section
variable {P:Program} {G:Env} {n0:Nat} {w0:World} {cs0:List Frame}
theorem Qhf {X:Ext} {s:AM} {m:Machine} {U:Sb} {keep:List Nat} {t:StC} {room:Nat} (h:Sim P G n0 w0 cs0 X s m) (hng:0<G.T.ng) (h1:sk4 s.fr=t.fr.sk4) (h2:s.cs.map sk4=t.cs.map Fr.sk4) (hb:Qhg U keep G.T.ng t s=true):
 Sim P G n0 w0 cs0 (Z5 U t.vs (Zi G.T.ng keep) X) (t.am room) m:=by
 simp only [Qhg,Bool.and_eq_true,List.all_eq_true,Nat.ble_eq,Nat.blt_eq,Bool.or_eq_true,Bool.not_eq_true'] at hb;obtain ⟨b6,b7,b8,b9,b10,b11,b12,b13,b14⟩:=hb;have hKn:∀b,t.next<=b->Zi G.T.ng keep b=false:=λb hb=>by
  unfold Zi;rw [Bool.or_eq_false_iff];refine ⟨?_,?_⟩;cases hh:Nat.blt b G.T.ng with
  |false=>rfl
  |true=>rw [Nat.blt_eq] at hh;omega
  rw [List.any_eq_false];intro c hc he;have:b=c:=by simpa using he
  subst this;have:=b12 b hc;omega
 have hvd:∀i∈t.vs,Zi G.T.ng keep i=true->X.dom i:=λi hi hk=>by rcases b14 i hi with h' |h';rw [hk] at h';cases h';exact h.ctx.1 i (any_beq h')
 obtain ⟨k0,hk0⟩:=h.Ql 0 hng;have hC:Cast U t.vs (Zi G.T.ng keep) X (Z5 U t.vs (Zi G.T.ng keep) X):=by refine ⟨λi hi=>⟨?_,by simp only [Z5,if_pos hi],rfl⟩,λb hb=>by simp only [Z5,if_pos hb]⟩;by_cases hk:Zi G.T.ng keep i=true;obtain ⟨p,hp⟩:=hvd i hi hk;exact ⟨p,by simp only [Z5,if_pos hk,hp]⟩;exact ⟨_,by simp only [Z5,if_neg hk,if_pos hi];exact hk0⟩
 exact Sim.Qju h b7 b6 b8 h1 h2 b9 hng (λb hb=>by unfold Zi;rw [show Nat.blt b G.T.ng=true from by rw [Nat.blt_eq];exact hb];rfl) hKn b13 hvd (qR hC h.ctx b10)
theorem Sim.partC {X:Ext} {t:StC} {room:Nat} {m:Machine} (h:Sim P G n0 w0 cs0 X (t.am room) m) (op:BinOp) (a b:E) (ha:a.okB t.vs=true) (hb:b.okB t.vs=true):
 Sim P G n0 w0 cs0 X ({ t with fs:=⟨op,a,b,true⟩::t.fs}.am room) m\/Sim P G n0 w0 cs0 X ({ t with fs:=⟨op,a,b,false⟩::t.fs}.am room) m:=by
 have key:∀v,(Fact.mk op a b v).ok X.O->Sim P G n0 w0 cs0 X ({ t with fs:=⟨op,a,b,v⟩::t.fs}.am room) m:=λv hv=>by refine ⟨h.ex,⟨h.ctx.1,λf hm=>?_⟩,h.Ql,h.fresh,h.ids⟩;rcases List.mem_cons.1 hm with rfl|hm;exact ⟨hv,E.Zw h.ctx.1 ha,E.Zw h.ctx.1 hb⟩;exact h.ctx.2 f hm
 have hdec:(Fact.mk op a b true).ok X.O\/(Fact.mk op a b false).ok X.O:=by unfold Fact.ok;cases Y2 op (a.den X.O) (b.den X.O)<;>simp
 rcases hdec with h' |h';exact .inl (key _ h')
 exact .inr (key _ h')
end
end Go.Ax
namespace Go.Ax
open Go.RowKit
end Go.Ax
namespace Go.Ax
open Go.RowKit
noncomputable def Q1x (r:Nat):Nat:=bif Nat.beq (Nat.mod r 2) 1 then Nat.xor (Nat.div r 2) 3988292384 else Nat.div r 2
theorem Qho (r:Nat):Q1x r=ZI r:=by
 unfold Q1x ZI;cases h:Nat.beq (Nat.mod r 2) 1 with
 |true=>rw [if_pos (show r%2=1 from Nat.eq_of_beq_eq_true h)];rfl
 |false=>rw [if_neg (λe=>by rw [show Nat.mod r 2=r%2 from rfl,e] at h;cases h)];rfl
noncomputable def crc8 {β:Type} (r:Nat) (k:Nat->β):β:=QC (Q1x r) λr=>QC (Q1x r) λr=>QC (Q1x r) λr=>QC (Q1x r) λr=>QC (Q1x r) λr=>QC (Q1x r) λr=>QC (Q1x r) λr=>QC (Q1x r) k
theorem Qkv {β:Type} (r:Nat) (k:Nat->β):crc8 r k=k (Nat.repeat ZI 8 r):=by simp only [crc8,sNat_eq,Qho,Nat.repeat]
noncomputable def crcE:List E->Nat->Option Nat
 |[],r=>some r
 | .lit (.ofNat b)::l,r=>crc8 (Nat.xor r (Nat.mod b 256)) λr=>crcE l r
 |_::_,_=>none
theorem Q31 {O:Val}:∀{l:List E} {r m:Nat},crcE l r=some m->(S.bytes O l).foldl Zj r=m
 |[],r,m,h=>by cases h;rfl
 |e::l,r,m,h=>by unfold crcE at h;split at h;rename_i h1;cases h1;rename_i b l' r' h1;cases h1;rw [Qkv] at h;rw [<-Q31 (O:=O) h];simp only [S.bytes,List.map_cons,List.foldl_cons,Zj,E.den];congr 2;cases h
noncomputable def ckE:List E->Nat->Option Nat
 |[],n=>some n
 |[.lit (.ofNat a)],n=>QC (Nat.add n (Nat.mul (Nat.mod a 256) 256)) some
 | .lit (.ofNat a):: .lit (.ofNat b)::l,n=>QC (Nat.add n (Nat.add (Nat.mul (Nat.mod a 256) 256) (Nat.mod b 256))) λn=>ckE l n
 |_,_=>none
theorem Q6v {O:Val}:∀{l:List E} {n m:Nat},ckE l n=some m->n+JZ (S.bytes O l)=m
 |l,n,m,h=>by unfold ckE at h;split at h;cases h;simp [S.bytes,JZ];rename_i a;simp only [sNat_eq,Option.some.injEq] at h;subst h;simp only [S.bytes,List.map_cons,List.map_nil,JZ,E.den,Int.ofNat_eq_natCast,Int.toNat_natCast,UInt8.toNat_ofNat'];rfl;rename_i a b l';rw [sNat_eq] at h;have:=Q6v (O:=O) h;simp only [S.bytes,List.map_cons,JZ,E.den,Int.ofNat_eq_natCast,Int.toNat_natCast,UInt8.toNat_ofNat'] at this ⊢;rw [<-this];show n+(a%256*256+b%256+_)=n+(a%256*256+b%256)+_;omega;cases h
noncomputable def Qh7 (k:Nat) (s:List E):Option Nat:=
 match k with
 |0=>match crcE s 4294967295 with
  |some r=>QC (Nat.mod (Nat.xor r 4294967295) 4294967296) some
  |none=>none
 |2=>none
 |_=>match ckE s 0 with
  |some n=>QC (Nat.mod (Nat.sub 65535 (qb n n)) 65536) some
  |none=>none
theorem Q8i {O:Val} {k:Nat} {s:List E} {m:Nat} (h:Qh7 k s=some m):fnZ k (YA (S.bytes O s) 1)=m:=by
 unfold Qh7 at h;split at h;split at h;rename_i r hr;simp only [sNat_eq,Option.some.injEq] at h;subst h;show ((Qhn (Q7p (YA (S.bytes O s) 1).toNat (YA (S.bytes O s) 1).toNat)%4294967296:Nat):Int)=_;rw [YB];unfold Qhn;rw [Q31 hr];rfl;cases h;cases h;rename_i k0 h0 h2;split at h;rename_i n hn;simp only [sNat_eq,Option.some.injEq] at h;subst h;have e:∀z,fnZ k z=((Qhv (Q7p z.toNat z.toNat)%65536:Nat):Int):=by
  intro z;match k,h0,h2 with
  |0,h0,_=>exact absurd rfl h0
  |1,_,_=>rfl
  |2,_,h2=>exact absurd rfl h2
  |k+3,_,_=>rfl
 rw [e,YB];unfold Qhv;have:=Q6v (O:=O) hn;rw [Nat.zero_add] at this;rw [this];rfl;cases h
noncomputable def Qaa (k:Nat):Sum:=λc H next as=>
 match as with
 |[.str s]=>bif Nat.ble s.length 1099511627776 then (match Qh7 k s with
  |some m=>QC m λm=> .ok ⟨.int .i64 (.lit (.ofNat m)),H,next,c⟩
  |none=>sE (Q7z s) λt=> .ok ⟨.int .i64 (.fn k t),H,next,c⟩) else .fail
 |_=> .fail
theorem Qet {P:Program} {G:Env} {n0:Nat} {f:FuncId} {k:Nat}
 (h:∀(s:ByteArray) (w:World),s.size<=1099511627776->Calls P f #[.string s] w λe w' =>e= .returned (.int .i64 (fnZ k (YA s.data.toList 1)))/\Below w.heap.size w w'):ZO P G n0 f (Qaa k):=by
 refine YM λc X H next w args vs r hr hc hargs=>?_
 unfold Qaa at hr;split at hr;rename_i s;cases hb:Nat.ble s.length 1099511627776 with
 |false=>rw [hb] at hr;cases hr
 |true=>
  rw [hb] at hr;obtain ⟨u,vs',e1,h1,h2⟩:=Q7.1 hargs;have:=rels_nil.1 h2;subst this;simp only [AV.rel] at h1;obtain ⟨k1,rfl⟩:=h1;have hvs:vs=#[.string ⟨(S.bytes X.O s).toArray⟩]:=by rw [<-Array.toList_inj];exact e1
  subst hvs;have hcall:=h ⟨(S.bytes X.O s).toArray⟩ w (by show (S.bytes X.O s).toArray.size<=_;simp only [List.size_toArray,S.bytes,List.length_map];simpa using hb);simp only [cond_true] at hr;cases hl:Qh7 k s with
  |some m=>rw [hl] at hr;simp only [sNat_eq] at hr;cases hr;refine ⟨rfl,rfl,rfl, .int .i64 (m:Int),?_,?_⟩;simp only [AV.rel];exact ⟨trivial,rfl⟩;rw [<-Q8i (O:=X.O) hl];exact hcall
  |none=>rw [hl] at hr;simp only [sE_eq] at hr;cases hr;refine ⟨rfl,rfl,rfl, .int .i64 ((E.fn k (Q7z s)).den X.O),?_,?_⟩;simp only [AV.rel];exact ⟨Q9e λt ht=>(k1 t ht).1,trivial⟩;simp only [E.den,Q5d];exact hcall
 cases hr
end Go.Ax
namespace Go.Ax
open Go.RowKit
theorem Qb7 {P:Program} {G:Env} {n0:Nat} {f:FuncId} {S:Ctx->Tr Q8->Nat->List AV->D SR}
 (h:∀(c:Ctx) (X:Ext) (H:Tr Q8) (next:Nat) (w:World) (args:List AV) (vs:Array Value) (r:SR),S c H next args= .ok r->c.okN X.dom X.O->Qo X n0 H w->AV.QF X args vs.toList->
  r.H=H/\r.next=next/\r.ctx=c/\∃u,r.v.rel X u/\Calls P f vs w (λe w' =>e= .returned u/\Below w.heap.size w w')):ZO P G n0 f S:=by
 intro c X H next w args vs r hr hc hg hH h0 hfr hargs fr cs
 obtain ⟨e1,e2,e3,u,hu,hcall⟩:=h c X H next w args vs r hr hc hH hargs
 obtain ⟨u',w',⟨rfl,hB⟩,hst⟩:=Ze (q:=λv w' =>v=u/\Below w.heap.size w w') (hcall.mono λe w' he=>⟨u,he.1,rfl,he.2⟩) fr cs;refine ⟨X,u',w',hst,Ext.le.refl X,hu,?_,hB.mono h0,λb hb _=>⟨hb,by rw [e1]⟩,by rw [e2];exact Nat.le_refl _,λb hb=>hfr b (by rw [e2] at hb;exact hb),by rw [e3];exact hc⟩;rw [e1];exact ⟨λb o p ho hp=>by rw [hB.block _ (hH.lt _ _ hp)];exact hH.obj b o p ho hp,hH.inj,λb p hp=>Nat.lt_of_lt_of_le (hH.lt b p hp) hB.size,hH.own⟩
theorem ZO.or {P:Program} {G:Env} {n0:Nat} {f:FuncId} {S S' :Sum} (h:ZO P G n0 f S) (h' :ZO P G n0 f S') {T:Sum} (hT:∀c H next as r,T c H next as= .ok r->S c H next as= .ok r\/S' c H next as= .ok r):ZO P G n0 f T:=by
 intro c X H next w args vs r hr
 rcases hT _ _ _ _ _ hr with e|e
 . exact h c X H next w args vs r e
 exact h' c X H next w args vs r e
noncomputable def Qes (k:Nat):Sum:=λc H next as=>
 match as with
 |[.sstr s]=>match s.pcs with
  |some p=>bif s.small c then sE (yu (norm p)) λt=> .ok ⟨.int .i64 (.fn k t),H,next,c⟩ else .fail
  |none=> .fail
 |_=> .fail
noncomputable def Q2w (k:Nat):Sum:=λc H next as=>
 match as with
 |[.sstr s]=>Qes k c H next [.sstr s]
 |as=>Qaa k c H next as
theorem zH {P:Program} {G:Env} {n0:Nat} {f:FuncId} {k:Nat}
 (h:∀(s:ByteArray) (w:World),s.size<=1099511627776->Calls P f #[.string s] w λe w' =>e= .returned (.int .i64 (fnZ k (YA s.data.toList 1)))/\Below w.heap.size w w'):ZO P G n0 f (Q2w k):=by
 refine ZO.or (S:=Qes k) (S' :=Qaa k) ?_ (Qet h) λc H next as r hr=>?_
 . refine YM λc X H next w args vs r hr hc hargs=>?_
   unfold Qes at hr;split at hr;rename_i s;split at hr;rename_i p hp;cases hb:s.small c with
   |false=>rw [hb] at hr;cases hr
   |true=>
    rw [hb] at hr;simp only [cond_true,sE_eq] at hr;cases hr;obtain ⟨u,vs',e1,h1,h2⟩:=Q7.1 hargs;have:=rels_nil.1 h2;subst this;simp only [AV.rel] at h1;obtain ⟨k1,k2,rfl⟩:=h1;have hvs:vs=#[.string ⟨(s.den X.O).toArray⟩]:=by rw [<-Array.toList_inj];exact e1
    subst hvs;have hl:=ST.Yg hb hc k2;obtain ⟨p1,p2⟩:=ST.ZE (O:=X.O) hp k1;refine ⟨rfl,rfl,rfl, .int .i64 ((E.fn k (yu (norm p))).den X.O),?_,?_⟩;simp only [AV.rel];exact ⟨Q3m (Q41 p1),trivial⟩;have:=h ⟨(s.den X.O).toArray⟩ w (by show (s.den X.O).toArray.size<=_;simp only [List.size_toArray];omega);simp only [E.den,z8,Y9,p2];exact this
   cases hr;cases hr
 unfold Q2w at hr;split at hr;exact .inl hr
 exact .inr hr
noncomputable def Q8p (b:Nat):Sum:=λc H next as=>
 match as with
 |[.sstr s, .int .i64 a, .int .i64 (.lit (.ofNat k))]=>bif Nat.ble 1 k&&Nat.ble k 4&&s.small c then
  match s.pcs with
  |some p=>bif p.all (Pc.good c) then
   match Q66 c p with
   |some L=>match E.plus c L (-(.ofNat k)) with
    |some M=>match E.cmp c .lss a (.lit 0) with
     |some false=>match E.cmp c .gtr a M with
      |some true=>match E.cmp c .leq a (.lit 1099511627776) with
       |some true=> .ok ⟨.tuple [.int .i64 (.lit (.ofNat 0)), .int .i64 (.lit (.ofNat b))],H,next,c⟩
       |_=> .fail
      |some false=>match Qg0 c a p with
       |some (_,g)=>match norm g with
        | .b m::_=>bif Nat.ble k m.length&&(m.take k).all E.isByte then
         (match getE c (m.take k) with
         |some e=> .ok ⟨.tuple [.int .i64 e, .int .i64 (.lit (.ofNat 0))],H,next,c⟩
         |none=> .fail) else .fail
        |_=> .fail
       |none=> .fail
      |none=> .ask .gtr a M
     |_=> .fail
    |none=> .fail
   |none=> .fail
   else .fail
  |none=> .fail
  else .fail
 |_=> .fail
noncomputable def Q0x (b:Nat):Sum:=λc H next as=>
 match as with
 | .sstr s::r=>Q8p b c H next (.sstr s::r)
 |as=>Qa7 b c H next as
theorem Q2r {P:Program} {G:Env} {n0:Nat} {f:FuncId} {b:Nat}
 (h1:∀(s:ByteArray) (i k:Nat) (w:World),1<=k->k<=4->s.size<=1099511627776->i+k<=s.size->Calls P f #[.string s, .int .i64 i, .int .i64 k] w λe w' =>e= .returned (.tuple #[.int .i64 (qG ((s.data.toList.drop i).take k)), .int .i64 0])/\Below w.heap.size w w')
 (h2:∀(s:ByteArray) (i k:Nat) (w:World),1<=k->k<=4->s.size<=1099511627776->i<=1099511627776->s.size<i+k->Calls P f #[.string s, .int .i64 i, .int .i64 k] w λe w' =>e= .returned (.tuple #[.int .i64 0, .int .i64 b])/\Below w.heap.size w w'):ZO P G n0 f (Q0x b):=by
 refine ZO.or (S:=Q8p b) (S' :=Qa7 b) ?_ (Qep h1 h2) λc H next as r hr=>?_
 . refine YM λc X H next w args vs r hr hc hargs=>?_
   unfold Q8p at hr;split at hr;rename_i s a k;cases hb:(Nat.ble 1 k&&Nat.ble k 4&&s.small c) with
   |false=>rw [hb] at hr;cases hr
   |true=>
    rw [hb] at hr;simp only [Bool.and_eq_true,Nat.ble_eq] at hb;simp only [cond_true] at hr;obtain ⟨u,vs',e1,g1,g2⟩:=Q7.1 hargs;obtain ⟨v,vs'',rfl,g3,g4⟩:=Q7.1 g2;obtain ⟨v2,vs3,rfl,g5,g6⟩:=Q7.1 g4;have:=rels_nil.1 g6;subst this;simp only [AV.rel] at g1 g3 g5;obtain ⟨k1,k2,rfl⟩:=g1;obtain ⟨ka,rfl⟩:=g3;obtain ⟨-,rfl⟩:=g5;have hl:=ST.Yg hb.2 hc k2;have hvs:vs=#[.string ⟨(s.den X.O).toArray⟩, .int .i64 (a.den X.O), .int .i64 k]:=by rw [<-Array.toList_inj];exact e1
    subst hvs;have hsz:(⟨(s.den X.O).toArray⟩:ByteArray).size=(s.den X.O).length:=by
     show (s.den X.O).toArray.size=_
     simp
    split at hr;rename_i p hp;obtain ⟨p1,p2⟩:=ST.ZE (O:=X.O) hp k1;cases hg:p.all (Pc.good c) with
    |false=>rw [hg] at hr;cases hr
    |true=>
     rw [hg] at hr;simp only [cond_true] at hr;split at hr;rename_i L hL;obtain ⟨L1,L2⟩:=Yl hc hL p1 (all_good hc hg);split at hr;rename_i M hM;obtain ⟨M1,M2⟩:=E.Zv hM hc L1;rw [L2,p2] at M2;split at hr;rename_i hz;have z0:¬(a.den X.O<0):=of_decide_eq_false (E.Qe rfl hz hc);obtain ⟨i,hi⟩:∃i:Nat,a.den X.O=i:=⟨(a.den X.O).toNat,by omega⟩;rw [hi];split at hr;rename_i hgt;have z1:=E.Qe rfl hgt hc;simp only [Y2,decide_eq_true_eq] at z1;split at hr;rename_i hbig;have z2:a.den X.O<=1099511627776:=of_decide_eq_true (E.Qe rfl hbig hc);cases hr;simp only [Int.ofNat_eq_natCast] at M2;refine ⟨rfl,rfl,rfl,_,?_,h2 _ i k w hb.1.1 hb.1.2 (by rw [hsz];omega) (by omega) (by rw [hsz];omega)⟩;simp only [AV.rel];refine ⟨_,rfl,?_⟩;simp only [rels_cons_cons,rels_nil,AV.rel];exact ⟨⟨trivial,rfl⟩,⟨trivial,rfl⟩,trivial⟩;cases hr;rename_i hgt;have z1:=E.Qe rfl hgt hc;simp only [Y2,decide_eq_false_iff_not] at z1;simp only [Int.ofNat_eq_natCast] at M2;split at hr;rename_i f0 g hcut;obtain ⟨a1,a2,a3,a4,a5,a6⟩:=Yd hc hcut ka p1 (all_good hc hg);split at hr;rename_i m g' hn;cases hk:(Nat.ble k m.length&&(m.take k).all E.isByte) with
     |false=>rw [hk] at hr;cases hr
     |true=>
      rw [hk] at hr;simp only [Bool.and_eq_true,Nat.ble_eq] at hk;simp only [cond_true] at hr;split at hr;rename_i e he;cases hr;have hok:=Q41 a2;rw [hn] at hok;have hm:(Pc.b m).ok X.dom:=hok _ (by simp)
      have hkk:S.okN X.dom X.O (m.take k):=λt ht=>⟨hm t (List.mem_of_mem_take ht),E.ZY (List.all_eq_true.1 hk.2 t ht) _⟩
      obtain ⟨q1,q2⟩:=Q2s he (by simp only [List.length_take];omega) hkk hc;refine ⟨rfl,rfl,rfl,_,?_,h1 _ i k w hb.1.1 hb.1.2 (by rw [hsz];omega) (by rw [hsz];omega)⟩;simp only [AV.rel];refine ⟨_,rfl,?_⟩;simp only [rels_cons_cons,rels_nil,AV.rel];refine ⟨⟨q1,?_⟩,⟨trivial,rfl⟩,trivial⟩;rw [q2];have hgd:=Y9 (O:=X.O) g;rw [hn,Qa] at hgd;have e2:(s.den X.O).drop i=J2 X.O g:=by
       rw [<-p2,a5];have:i=(J2 X.O f0).length:=by omega
       rw [this,List.drop_left]
      rw [e2,<-hgd];simp only [Pc.den];rw [List.take_append_of_le_length (by simp [S.bytes];omega)];simp [S.bytes,List.map_take];cases hr
     cases hr;cases hr;cases hr;cases hr;cases hr;cases hr
    cases hr
   cases hr
 unfold Q0x at hr;split at hr;exact .inl hr
 exact .inr hr
noncomputable def pcsL:List AV->Option (List Pc)
 |[]=>some []
 |a::l=>match Qio a with
  |none=>none
  |some s=>match s.pcs with
   |none=>none
   |some p=>match pcsL l with
    |some q=>some (p++q)
    |none=>none
theorem Q2d {X:Ext}:∀{l:List AV} {p:List Pc},pcsL l=some p->∀{vs:List Value},AV.QF X l vs->rok X.dom p/\∃xs:List ByteArray,vs=xs.map .string/\J2 X.O p=(xs.map (·.data.toList)).flatten/\xs.length=l.length
 |[],p,h,vs,hv=>by cases h;have:=rels_nil.1 hv;subst this;exact ⟨(λx hx=>by cases hx),[],rfl,rfl,rfl⟩
 |a::l,p,h,vs,hv=>by obtain ⟨u,vs',rfl,h1,h2⟩:=Q7.1 hv;simp only [pcsL] at h;split at h;cases h;rename_i s hs;split at h;cases h;rename_i q hq;split at h;rename_i q' hq';cases h;obtain ⟨s1,s2,rfl⟩:=qZ hs h1;obtain ⟨g1,g2⟩:=ST.ZE (O:=X.O) hq s1;obtain ⟨k1,xs,rfl,k2,k3⟩:=Q2d hq' h2;refine ⟨λx hx=>?_,⟨(s.den X.O).toArray⟩::xs,rfl,?_,by simp [k3]⟩;rcases List.mem_append.1 hx with hx|hx;exact g1 x hx;exact k1 x hx;rw [qD,g2,k2];simp;cases h
noncomputable def Q8l:Sum:=λc H next as=>
 match as with
 |[.slice b o n _ es _, .str []]=>bif Nat.beq es 1&&Nat.ble n 1000000&&Nat.blt 0 n then
  match H.get b with
  |some (.cells cs _ _ _ _)=>bif Nat.ble (o+n) cs.length then
   match pcsL ((cs.drop o).take n) with
   |some p=>bif p.all (Pc.good c)&&Q29 c p then
    (match avR c p with
    |some v=> .ok ⟨v,H,next,c⟩
    |none=> .fail) else .fail
   |none=> .fail
   else .fail
  |_=> .fail
  else .fail
 |_=> .fail
theorem Qc0 {P:Program} {G:Env} {n0:Nat} {f:FuncId}
 (h:∀(bk o c:Nat) (xs:List ByteArray) (w:World),(∀(j:Nat) x,xs[j]?=some x->w.cell? ⟨bk,o+j,none⟩=some (.string x))->bk<w.heap.size->xs.length<=140737488355328->xs.length<=c->((xs.map (·.data.toList)).flatten).length<=140737488355328->
  Calls P f #[.slice (some ⟨bk,o,none⟩) xs.length c, .string ⟨#[]⟩] w λe w' =>e= .returned (.string ⟨((xs.map (·.data.toList)).flatten).toArray⟩)/\Below w.heap.size w w'):ZO P G n0 f Q8l:=by
 refine Qb7 λc X H next w args vs r hr hc hH hargs=>?_
 unfold Q8l at hr;split at hr;rename_i b o n cap es ex;cases hb:(Nat.beq es 1&&Nat.ble n 1000000&&Nat.blt 0 n) with
 |false=>rw [hb] at hr;cases hr
 |true=>
  rw [hb] at hr;simp only [cond_true] at hr;simp only [Bool.and_eq_true,Nat.ble_eq,Nat.blt_eq,Nat.beq_eq] at hb;obtain ⟨⟨rfl,hb2⟩,hb3⟩:=hb;obtain ⟨u,vs',e1,g1,g2⟩:=Q7.1 hargs;obtain ⟨v,vs'',rfl,g3,g4⟩:=Q7.1 g2;have:=rels_nil.1 g4;subst this;simp only [AV.rel] at g1 g3;obtain ⟨p,o',cc,m1,rfl,m2,m3,m4,m5,m6⟩:=g1;obtain ⟨-,rfl⟩:=g3;have ho:=m5 (.inl (by omega));split at hr;rename_i cs el xx pl ro hget;cases hle:Nat.ble (o+n) cs.length with
  |false=>rw [hle] at hr;cases hr
  |true=>
   rw [hle] at hr;simp only [cond_true] at hr;rw [Nat.ble_eq] at hle;split at hr;rename_i q hq;cases hg:(q.all (Pc.good c)&&Q29 c q) with
   |false=>rw [hg] at hr;cases hr
   |true=>
    rw [hg] at hr;simp only [cond_true] at hr;rw [Bool.and_eq_true] at hg;split at hr;rename_i v hv;cases hr;obtain ⟨cc',fr,⟨el',b1,bel⟩,b2,b3,b4,b5,b6,b7⟩:=hH.obj _ _ _ hget m1;obtain ⟨vl,hvl1,hvl2⟩:∃vl:List Value,AV.QF X ((cs.drop o).take n) vl/\∀j,j<n->cc'[p.base+(o+j)]?=vl[j]?:=by
     have key:∀(l:List AV) (k:Nat),(∀j x,l[j]?=some x->∃v,cc'[p.base+(k+j)]?=some v/\x.rel X v)->∃vl:List Value,AV.QF X l vl/\∀j,j<l.length->cc'[p.base+(k+j)]?=vl[j]?:=by
      intro l;induction l with
      |nil=>exact λk _=>⟨[],rfl,λj hj=>by simp at hj⟩
      |cons x l ih=>
       intro k hk;obtain ⟨v0,a1,a2⟩:=hk 0 x rfl;obtain ⟨vl,a3,a4⟩:=ih (k+1) λj x hx=>by obtain ⟨v,q1,q2⟩:=hk (j+1) x (by simpa using hx);exact ⟨v,by rw [<-q1];congr 1;omega,q2⟩
       refine ⟨v0::vl,⟨v0,vl,rfl,a2,a3⟩,λj hj=>?_⟩;cases j with
       |zero=>simpa using a1
       |succ j=>have:=a4 j (by simpa using hj);rw [List.getElem?_cons_succ,<-this];congr 1;omega
     obtain ⟨vl,a1,a2⟩:=key ((cs.drop o).take n) o λj x hx=>by
      have hj:j<n:=by obtain ⟨h',-⟩:=List.getElem?_eq_some_iff.1 hx;simp only [List.length_take] at h';omega
      rw [List.getElem?_take,if_pos hj,List.getElem?_drop] at hx;obtain ⟨v,q1,q2⟩:=b5 (o+j) x hx;exact ⟨v,q1,q2⟩
     exact ⟨vl,a1,λj hj=>a2 j (by simp only [List.length_take,List.length_drop];omega)⟩
    obtain ⟨r1,xs,rfl,r2,r3⟩:=Q2d hq hvl1;have hn:xs.length=n:=by rw [r3];simp only [List.length_take,List.length_drop];omega
    have hsane:=all_good hc hg.1;have hshort:=jL hc hg.2 r1 hsane;rw [r2] at hshort;have hvs:vs=#[.slice (some ⟨p.blk,o',none⟩) xs.length cc, .string ⟨(S.bytes X.O []).toArray⟩]:=by rw [<-Array.toList_inj,hn];exact e1
    subst hvs;refine ⟨rfl,rfl,rfl, .string ⟨(J2 X.O q).toArray⟩,Q77 hc hv r1 hsane,?_⟩;rw [r2];refine h p.blk o' cc xs w (λj x hx=>?_) (hH.lt _ _ m1) (by omega) (by omega) (by omega);have hj:j<n:=by obtain ⟨h',-⟩:=List.getElem?_eq_some_iff.1 hx;rw [<-hn];exact h'
    have e3:=hvl2 j hj;rw [List.getElem?_map,hx,Option.map_some] at e3;unfold World.cell?;simp only [b1];rw [ho,Nat.add_assoc];exact e3;cases hr
   cases hr
  cases hr
 cases hr
end Go.Ax
namespace Go.Ax
open Go.RowKit
end Go.Ax
namespace Go.Ax
open Go.RowKit
section
variable {P:Program} {G:Env} {n0:Nat} {w0:World} {cs0:List Frame}
noncomputable def AM.reveal (s:AM) (b:Nat) (cs:List AV) (el:TypeId) (d:Nat) (a:AV):AM:={ s with H:=s.H.set b (.cells cs el false false true),fr:={ s.fr with tm:=s.fr.tm.set d a}}
def roB (b:Nat) (l:List (Nat×Q8)):Bool:=l.all λe=>e.2.rw||(!e.2.Q48||Nat.beq e.1 b)
theorem Sim.reveal {X:Ext} {t:StC} {room:Nat} {m:Machine} (h:Sim P G n0 w0 cs0 X (t.am room) m) (hcur:jR t.fr.cur=true) (hcs:t.cs=[]) {b:Nat} {el:TypeId} (hro:roB b t.l=true) {pl:Place} (hp:X.V b=some pl) (hin:pl.blk<n0)
 (hblk:∃c el fr,w0.heap[pl.blk]?=some (.cells c el fr)/\c.size=pl.n) {cs:List AV} (hfit:pl.base+cs.length<=pl.n) (hcells:∀i a,cs[i]?=some a->∃v,w0.cell? ⟨pl.blk,pl.base+i,none⟩=some v/\a.rel X v)
 {d:Nat} {a:AV} (ha:∀v,(((t.am room).fr.tm.get d).getD .undef).rel X v->a.rel X v):Sim P G n0 w0 cs0 X ((t.am room).reveal b cs el d a) m:=by
 obtain ⟨fr,fs,w,rfl,hF,hall,hH,hB,h0⟩:=h.ex;have htm:QJ X (t.am room).fr.nt (t.am room).fr.tm fr.tmps->QJ X (t.am room).fr.nt ((t.am room).fr.tm.set d a) fr.tmps:=λ⟨t1,t2⟩=>⟨t1,λt=>by rw [Tr.QV];by_cases e:t=d;subst e;rw [if_pos rfl];exact ha _ (t2 t);rw [if_neg e];exact t2 t⟩
 have hget:∀c o,((t.am room).H.set b (.cells cs el false false true)).get c=some o->(c=b/\o= .cells cs el false false true)\/(c≠b/\(t.am room).H.get c=some o):=λc o hc=>by
  rw [Tr.QV] at hc;by_cases e:c=b;rw [if_pos e] at hc;cases hc;exact .inl ⟨e,rfl⟩
  rw [if_neg e] at hc;exact .inr ⟨e,hc⟩
 have hapart:∀c o p,c≠b->(t.am room).H.get c=some o->o.Q48=true->X.V c=some p->p.blk≠pl.blk:=λc o p hcb hc hl hp' =>by simp only [roB,List.all_eq_true,Bool.or_eq_true,Bool.not_eq_true',Nat.beq_eq] at hro;rcases hro _ (JK hc) with h1|h1|h1;have:=hH.own c o p hc h1 hp';omega;simp only at h1;rw [hl] at h1;cases h1;exact absurd h1 hcb
 have hH' :Qo X n0 ((t.am room).H.set b (.cells cs el false false true)) w:=by
  refine ⟨λc o p hc hp' =>?_,λc c' o o' p p' hc hc' l1 l2 hp1 hp2 e=>?_,hH.lt,λc o p hc hw hp' =>?_⟩;rcases hget c o hc with ⟨rfl,rfl⟩|⟨-,hc⟩;rw [hp] at hp';cases hp';obtain ⟨c0,el0,fr0,h1,h3⟩:=hblk;rw [<-hB.block _ hin] at h1;refine ⟨c0,fr0,⟨el0,h1, .inl rfl⟩,h3,hfit,λh=>(by cases h),λi x hx=>?_, .inl rfl,λh=>(by cases h)⟩;obtain ⟨v,hv,hr⟩:=hcells i x hx;refine ⟨v,?_,hr⟩;have hw:w.cell? ⟨pl.blk,pl.base+i,none⟩=some v:=by rw [hB.cell (p:=⟨pl.blk,pl.base+i,none⟩) hin,hv]
  unfold World.cell? at hw;simp only [h1] at hw;simpa using hw;exact hH.obj c o p hc hp';rcases hget c o hc with ⟨rfl,rfl⟩|⟨hn,k1⟩<;>rcases hget c' o' hc' with ⟨rfl,rfl⟩|⟨hn',k2⟩;rfl;rw [hp] at hp1;cases hp1;exact absurd e.symm (hapart c' o' p' hn' k2 l2 hp2);exact absurd l2 (by simp [Q8.Q48]);exact hH.inj c c' o o' p p' k1 k2 l1 l2 hp1 hp2 e;rcases hget c o hc with ⟨rfl,rfl⟩|⟨-,hc⟩;cases hw;exact hH.own c o p hc hw hp'
 refine ⟨⟨fr,fs,w,rfl,?_,?_,hH',hB,h0⟩,h.ctx,h.Ql,h.fresh,h.ids⟩
 . obtain ⟨hb,h'⟩:=hF;refine ⟨⟨hb.fn,hb.kind,hb.ro,hb.defers⟩,?_⟩;obtain ⟨hm,is,his,hc'⟩:=h';refine ⟨hm,is,his,?_⟩;have hcc:(t.am room).fr.cur=t.fr.cur:=rfl
   rw [hcc] at hc';show match t.fr.cur with
    | .none=>_
    | .reg ops k rest=>_
    | .draw ops done rest pa=>_
   cases hk:t.fr.cur with
   |none=>rw [hk] at hc';exact ⟨hc'.1,htm hc'.2⟩
   |reg ops k rest=>rw [hk] at hc';exact ⟨hc'.1,hc'.2.1,htm hc'.2.2⟩
   |draw ops done rest pa=>rw [hk] at hcur;cases hcur
 unfold AM.reveal;have:(t.am room).cs=[]:=by simp only [StC.am,hcs,List.map_nil]
 simp only [this] at hall ⊢;exact hall
theorem Sim.revealW {X:Ext} {t:StC} {room:Nat} {m:Machine} (h:Sim P G n0 w0 cs0 X (t.am room) m) (hcur:jR t.fr.cur=true) (hcs:t.cs=[]) {b:Nat} {el:TypeId} (hro:roB b t.l=true) {pl:Place} (hp:X.V b=some pl) (hin:pl.blk<n0)
 (hblk:∃c el fr,w0.heap[pl.blk]?=some (.cells c el fr)/\c.size=pl.n) {ts:List AV} {T:List Value} (hts:AV.QF X ts T) {len k:Nat} (hcell:∀i v,T[i]?=some v->i<len->w0.cell? ⟨pl.blk,pl.base+i,none⟩=some v) (hk:k<=len) (hcap:pl.base+len<=pl.n)
 {d k0 li:Nat} (hd:(t.am room).fr.tm.get d=some (.wslice b 0 k0 1 li)) (hli:X.O.int li=(len:Int)):Sim P G n0 w0 cs0 X ((t.am room).reveal b (ts.take k) el d (.wslice b 0 k 1 li)) m:=by
 refine h.reveal hcur hcs hro hp hin hblk ?_ (λi a ha=>?_) (λv hv=>?_);have:=List.length_take_le k ts;omega;have hi:i<k:=by
  have:=(List.getElem?_eq_some_iff.1 ha).1
  simp only [List.length_take] at this;omega
 rw [List.getElem?_take_of_lt hi] at ha;obtain ⟨v,h1,h2⟩:=ZQ hts ha;exact ⟨v,hcell i v h1 (by omega),h2⟩;rw [hd,Option.getD_some] at hv;simp only [AV.rel] at hv ⊢;obtain ⟨p,len',c,h1,h2,h3,h4,h5,h6,h7⟩:=hv;refine ⟨p,len',c,h1,h2,?_,h4,h5,h6,h7⟩;rw [hli] at h7;omega
end
end Go.Ax
namespace Go.Ax
open Go.RowKit
def Q9q:List (Nat×Nat)->Nat->Nat
 |[],b=>b
 |p::l,b=>bif Nat.beq p.1 b then p.2 else Q9q l b
theorem Q9p {n:Nat}:∀{l:List (Nat×Nat)},l.all (λp=>Nat.ble n p.1)=true->∀{b:Nat},b<n->Q9q l b=b
 |[],_,_,_=>rfl
 |p::l,h,b,hb=>by simp only [List.all_cons,Bool.and_eq_true,Nat.ble_eq] at h;simp only [Q9q];rw [show Nat.beq p.1 b=false from by rw [Bool.eq_false_iff];intro e;rw [Nat.beq_eq] at e;omega];exact Q9p h.2 hb
structure jH (U:Sb) (vs:List Nat) (K:Nat->Bool) (π:Nat->Nat) (X X' :Ext):Prop where
 letters:∀i∈vs,X'.dom i/\X'.O.int i=(U.at i).den X.O/\X'.O.str i=X.O.str i
 kept:∀b,K b=true->X'.V b=X.V (π b)
theorem jH.cast {U:Sb} {vs:List Nat} {K:Nat->Bool} {π:Nat->Nat} {X X' :Ext} (h:jH U vs K π X X'):Cast U vs (λ_=>false) X X' :=⟨h.letters,λ_ h=>by cases h⟩
mutual
noncomputable def rkA (U:Sb) (vs:List Nat) (K:Nat->Bool) (π:Nat->Nat) (a a' :AV):Bool:=
 match a with
 | .ptr b o=>match a' with
  | .ptr b' o' =>Nat.beq b (π b')&&(Nat.beq o o' &&K b')
  |a' =>J3 U vs (λ_=>false) (.ptr b o) a'
 | .slice b o n c s x=>match a' with
  | .slice b' o' n' c' s' x' =>Nat.beq b (π b')&&(Nat.beq o o' &&(Nat.beq n n' &&(Nat.beq c c' &&(Nat.beq s s' &&(x==x' &&K b')))))
  |a' =>J3 U vs (λ_=>false) (.slice b o n c s x) a'
 | .map r=>match a' with
  | .map r' =>Nat.beq r (π r')&&K r'
  |a' =>J3 U vs (λ_=>false) (.map r) a'
 | .wslice b o n s l=>match a' with
  | .wslice b' o' n' s' l' =>Nat.beq b (π b')&&(Nat.beq o o' &&(Nat.beq n n' &&(Nat.beq s s' &&(K b' &&Qhy U vs (.var l) (.var l')))))
  |a' =>J3 U vs (λ_=>false) (.wslice b o n s l) a'
 | .func f x c=>match a' with
  | .func f' x' c' =>Nat.beq f f' &&(rkL U vs K π x x' &&rkL U vs K π c c')
  |a' =>J3 U vs (λ_=>false) (.func f x c) a'
 | .iface t x=>match a' with
  | .iface t' x' =>Nat.beq t t' &&rkA U vs K π x x'
  |a' =>J3 U vs (λ_=>false) (.iface t x) a'
 | .agg l=>match a' with
  | .agg l' =>rkL U vs K π l l'
  |a' =>J3 U vs (λ_=>false) (.agg l) a'
 | .tuple l=>match a' with
  | .tuple l' =>rkL U vs K π l l'
  |a' =>J3 U vs (λ_=>false) (.tuple l) a'
 |a=>J3 U vs (λ_=>false) a a'
noncomputable def rkL (U:Sb) (vs:List Nat) (K:Nat->Bool) (π:Nat->Nat) (l l' :List AV):Bool:=
 match l with
 |[]=>match l' with
  |[]=>true
  |_=>false
 |a::l=>match l' with
  |[]=>false
  |a' ::l' =>rkA U vs K π a a' &&rkL U vs K π l l'
end
section
variable {U:Sb} {vs:List Nat} {K:Nat->Bool} {π:Nat->Nat} {X X' :Ext}
mutual
theorem ZW (hc:jH U vs K π X X'):∀{a a' :AV} {v:Value},rkA U vs K π a a' =true->a.rel X v->a'.rel X' v
 | .ptr b o,a',v,h,r=>by cases a' <;>simp only [rkA] at h<;>(try exact Qn hc.cast h r);simp only [Bool.and_eq_true,Nat.beq_eq] at h;obtain ⟨rfl,rfl,hk⟩:=h;simp only [AV.rel] at r ⊢;rw [hc.kept _ hk];exact r
 | .slice b o n c s x,a',v,h,r=>by cases a' <;>simp only [rkA] at h<;>(try exact Qn hc.cast h r);simp only [Bool.and_eq_true,Nat.beq_eq,beq_iff_eq] at h;obtain ⟨rfl,rfl,rfl,rfl,rfl,rfl,hk⟩:=h;simp only [AV.rel] at r ⊢;rw [hc.kept _ hk];exact r
 | .map q,a',v,h,r=>by cases a' <;>simp only [rkA] at h<;>(try exact Qn hc.cast h r);simp only [Bool.and_eq_true,Nat.beq_eq] at h;obtain ⟨rfl,hk⟩:=h;simp only [AV.rel] at r ⊢;rw [hc.kept _ hk];exact r
 | .wslice b o n s l,a',v,h,r=>by cases a' <;>simp only [rkA] at h<;>(try exact Qn hc.cast h r);simp only [Bool.and_eq_true,Nat.beq_eq] at h;obtain ⟨rfl,rfl,rfl,rfl,hk,hl⟩:=h;simp only [AV.rel] at r ⊢;rw [hc.kept _ hk];obtain ⟨p,len,c,h1,h2,h3,h4,h5,h6,h7⟩:=r;obtain ⟨k1,k2⟩:=ZN hc.cast hl;exact ⟨p,len,c,h1,h2,h3,h4,h5,k1,k2.symm.trans h7⟩
 | .func f a c,a',v,h,r=>by cases a' <;>simp only [rkA] at h<;>(try exact Qn hc.cast h r);simp only [Bool.and_eq_true,Nat.beq_eq] at h;obtain ⟨rfl,h1,h2⟩:=h;simp only [AV.rel] at r ⊢;obtain ⟨x,y,e,r1,r2⟩:=r;exact ⟨x,y,e,YP hc h1 r1,YP hc h2 r2⟩
 | .iface t a,a',v,h,r=>by cases a' <;>simp only [rkA] at h<;>(try exact Qn hc.cast h r);simp only [Bool.and_eq_true,Nat.beq_eq] at h;obtain ⟨rfl,h1⟩:=h;simp only [AV.rel] at r ⊢;obtain ⟨u,e,r1⟩:=r;exact ⟨u,e,ZW hc h1 r1⟩
 | .agg l,a',v,h,r=>by cases a' <;>simp only [rkA] at h<;>(try exact Qn hc.cast h r);simp only [AV.rel] at r ⊢;obtain ⟨u,e,r1⟩:=r;exact ⟨u,e,YP hc h r1⟩
 | .tuple l,a',v,h,r=>by cases a' <;>simp only [rkA] at h<;>(try exact Qn hc.cast h r);simp only [AV.rel] at r ⊢;obtain ⟨u,e,r1⟩:=r;exact ⟨u,e,YP hc h r1⟩
 | .bool _,a',v,h,r| .int _ _,a',v,h,r| .str _,a',v,h,r| .sstr _,a',v,h,r| .nilptr,a',v,h,r| .nilslice,a',v,h,r| .nilmap,a',v,h,r| .yield _,a',v,h,r| .nilFunc,a',v,h,r| .nilIface,a',v,h,r| .any,a',v,h,r| .top,a',v,h,r=>by simp only [rkA] at h;exact Qn hc.cast h r
theorem YP (hc:jH U vs K π X X'):∀{l l' :List AV} {us:List Value},rkL U vs K π l l' =true->AV.QF X l us->AV.QF X' l' us
 |[],l',us,h,r=>by cases l' <;>simp only [rkL,Bool.false_eq_true] at h;rw [rels_nil] at r ⊢;exact r
 |a::l,l',us,h,r=>by cases l' <;>simp only [rkL,Bool.false_eq_true,Bool.and_eq_true] at h;obtain ⟨v,us',rfl,r1,r2⟩:=Q7.1 r;rw [rels_cons_cons];exact ⟨ZW hc h.1 r1,YP hc h.2 r2⟩
end
noncomputable def rkM (U:Sb) (vs:List Nat) (K:Nat->Bool) (π:Nat->Nat):List (AV×AV×Nat)->List (AV×AV×Nat)->Bool
 |[],[]=>true
 |a::l,b::l' =>rkA U vs K π a.1 b.1&&(rkA U vs K π a.2.1 b.2.1&&(Nat.beq a.2.2 b.2.2&&rkM U vs K π l l'))
 |_,_=>false
theorem Q5p (hc:jH U vs K π X X'):∀{l l' :List (AV×AV×Nat)} {es:List MapEntry},rkM U vs K π l l' =true->Q9 X l es->Q9 X' l' es
 |[],l',es,h,r=>by cases l' <;>simp only [rkM,Bool.false_eq_true] at h;exact r
 |a::l,l',es,h,r=>by cases l' <;>simp only [rkM,Bool.false_eq_true,Bool.and_eq_true,Nat.beq_eq] at h;obtain ⟨e,es',rfl,r1,r2,r3,r4⟩:=r;exact ⟨e,es',rfl,ZW hc h.1 r1,ZW hc h.2.1 r2,by rw [r3,h.2.2.1],Q5p hc h.2.2.2 r4⟩
noncomputable def rkP (U:Sb) (vs:List Nat) (K:Nat->Bool) (π:Nat->Nat):List (AV×AV)->List (AV×AV)->Bool
 |[],[]=>true
 |a::l,b::l' =>rkA U vs K π a.1 b.1&&(rkA U vs K π a.2 b.2&&rkP U vs K π l l')
 |_,_=>false
theorem Q5o (hc:jH U vs K π X X'):∀{l l' :List (AV×AV)} {es:List MapEntry},rkP U vs K π l l' =true->ZR X l es->ZR X' l' es
 |[],l',es,h,r=>by cases l' <;>simp only [rkP,Bool.false_eq_true] at h;exact r
 |a::l,l',es,h,r=>by cases l' <;>simp only [rkP,Bool.false_eq_true,Bool.and_eq_true] at h;obtain ⟨e,es',rfl,r1,r2,r4⟩:=r;exact ⟨e,es',rfl,ZW hc h.1 r1,ZW hc h.2.1 r2,Q5o hc h.2.2 r4⟩
noncomputable def rkO (U:Sb) (vs:List Nat) (K:Nat->Bool) (π:Nat->Nat):Q8->Q8->Bool
 | .cells cs el ex pl ro, .cells cs' el' ex' pl' ro' =>Nat.beq el el' &&(ex==ex' &&(pl==pl' &&(ro==ro' &&rkL U vs K π cs cs')))
 | .map es c, .map es' c' =>Nat.beq c c' &&rkM U vs K π es es'
 | .lmap es, .lmap es' =>rkP U vs K π es es'
 | .map [] _, .lmap []=>true
 |_,_=>false
theorem Q2b {l l' :List AV} (h:rkL U vs K π l l' =true):l'.length=l.length:=by
 induction l generalizing l' with
 |nil=>cases l' <;>simp [rkL] at h;rfl
 |cons a l ih=>
  cases l' with
  |nil=>simp [rkL] at h
  |cons a' l' =>simp only [rkL,Bool.and_eq_true] at h;simp [ih h.2]
theorem Qjq {l l' :List AV} (h:rkL U vs K π l l' =true) {i:Nat} {a' :AV} (e:l'[i]?=some a'):∃a,l[i]?=some a/\rkA U vs K π a a' =true:=by
 induction l generalizing l' i with
 |nil=>cases l' <;>simp [rkL] at h;simp at e
 |cons a l ih=>
  cases l' with
  |nil=>simp [rkL] at h
  |cons b l' =>
   simp only [rkL,Bool.and_eq_true] at h;cases i with
   |zero=>simp at e;subst e;exact ⟨a,rfl,h.1⟩
   |succ i=>simpa using ih h.2 (by simpa using e)
theorem Q07 (hc:jH U vs K π X X') {o o' :Q8} {p:Place} {ob:Option Obj} (h:rkO U vs K π o o' =true) (r:jG X o p ob):jG X' o' p ob/\o'.live=o.live/\o'.rw=o.rw:=by unfold rkO at h;split at h<;>(try simp only [Bool.false_eq_true,Bool.and_eq_true,Nat.beq_eq,beq_iff_eq] at h);obtain ⟨rfl,rfl,rfl,rfl,h⟩:=h;obtain ⟨c,fr,h1,h2,h3,h4,h5,h6⟩:=r;refine ⟨⟨c,fr,h1,h2,by rw [Q2b h];exact h3,by rw [Q2b h];exact h4,λi a hi=>?_,h6⟩,rfl,rfl⟩;obtain ⟨b,hb,hr⟩:=Qjq h hi;obtain ⟨v,hv,r1⟩:=h5 i b hb;exact ⟨v,hv,ZW hc hr r1⟩;obtain ⟨rfl,h⟩:=h;obtain ⟨es',h1,h2⟩:=r;exact ⟨⟨es',h1,Q5p hc h h2⟩,rfl,rfl⟩;obtain ⟨es',cl,l,h1,h2,h3⟩:=r;exact ⟨⟨es',cl,l,h1,Q5o hc h h2,h3⟩,rfl,rfl⟩;obtain ⟨es',h1,h2⟩:=r;exact ⟨⟨es',_,[],h1,rfl,by rw [h2]⟩,rfl,rfl⟩
theorem Qgl {o o' :Q8} (h:rkO U vs K π o o' =true):o'.Q48=o.Q48:=by
 unfold rkO at h;split at h<;>(try simp only [Bool.false_eq_true,Bool.and_eq_true,Nat.beq_eq,beq_iff_eq] at h)
 . obtain ⟨-,-,rfl,rfl,-⟩:=h;rfl
 all_goals rfl
noncomputable def rkHo (U:Sb) (vs:List Nat) (K:Nat->Bool) (π:Nat->Nat) (x:Option Q8) (o' :Q8):Bool:=
 match x with
 |some o=>rkO U vs K π o o'
 |none=>false
noncomputable def rkH (U:Sb) (vs:List Nat) (K:Nat->Bool) (π:Nat->Nat) (H:Tr Q8):List (Nat×Q8)->Bool
 |[]=>true
 |e::l=>K e.1&&(rkHo U vs K π (H.get (π e.1)) e.2&&(l.all (λf=>!Nat.beq (π e.1) (π f.1))&&rkH U vs K π H l))
theorem Qdm {H:Tr Q8}:∀{l:List (Nat×Q8)},rkH U vs K π H l=true->∀e∈l,K e.1=true/\∃o,H.get (π e.1)=some o/\rkO U vs K π o e.2=true
 |[],_,e,he=>by cases he
 |a::l,h,e,he=>by simp only [rkH,Bool.and_eq_true] at h;rcases List.mem_cons.1 he with rfl|he;refine ⟨h.1,?_⟩;have h2:=h.2.1;unfold rkHo at h2;split at h2;rename_i o ho;exact ⟨o,ho,h2⟩;cases h2;exact Qdm h.2.2.2 e he
theorem Qdn {H:Tr Q8}:∀{l:List (Nat×Q8)},rkH U vs K π H l=true->∀e∈l,∀f∈l,π e.1=π f.1->e.1=f.1
 |[],_,e,he,_,_,_=>by cases he
 |a::l,h,e,he,f,hf,heq=>by
  simp only [rkH,Bool.and_eq_true,List.all_eq_true,Bool.not_eq_true'] at h;have no:∀g∈l,π a.1≠π g.1:=λg hg e=>by have:=h.2.2.1 g hg;rw [e] at this;simp at this
  rcases List.mem_cons.1 he with e1|e1<;>rcases List.mem_cons.1 hf with f1|f1;rw [e1,f1];rw [e1] at heq;exact absurd heq (no f f1);rw [f1] at heq;exact absurd heq.symm (no e e1);exact Qdn h.2.2.2 e e1 f f1 heq
theorem Qo.Yh {n0:Nat} {H:Tr Q8} {w:World} {l:List (Nat×Q8)} {room:Nat} (h:Qo X n0 H w) (hc:jH U vs K π X X') (hlt:∀b p,X'.V b=some p->p.blk<w.heap.size) (hk:rkH U vs K π H l=true):Qo X' n0 (Q55 room l) w:=by
 have base:∀b o' p,(Q55 room l).get b=some o' ->X'.V b=some p->X.V (π b)=some p/\∃o,H.get (π b)=some o/\rkO U vs K π o o' =true:=λb o' p hb hp=>by obtain ⟨k1,o,k2,k3⟩:=Qdm hk _ (JK hb);exact ⟨by rw [<-hc.kept b k1];exact hp,o,k2,k3⟩
 refine ⟨λb o' p hb hp=>?_,λb b' o1 o2 p p' hb hb' l1 l2 hp hp' e=>?_,hlt,λb o' p hb hr hp=>?_⟩;obtain ⟨g1,o,g2,g3⟩:=base b o' p hb hp;exact (Q07 hc g3 (h.obj _ o p g2 g1)).1
 obtain ⟨g1,o,g2,g3⟩:=base b o1 p hb hp;obtain ⟨g4,q,g5,g6⟩:=base b' o2 p' hb' hp';have e1:=(Q07 hc g3 (h.obj _ o p g2 g1)).2.1
 exact Qdn hk _ (JK hb) _ (JK hb') (h.inj _ _ o q p p' g2 g5 (by rw [<-e1];exact l1) (by rw [<-Qgl g6];exact l2) g1 g4 e);obtain ⟨g1,o,g2,g3⟩:=base b o' p hb hp;have e1:=(Q07 hc g3 (h.obj _ o p g2 g1)).2.2
 exact h.own _ o p g2 (by rw [<-e1];exact hr) g1
noncomputable def Qme (U:Sb) (vs:List Nat) (K:Nat->Bool) (π:Nat->Nat) (tm:Tr AV):Nat->List AV->Bool
 |_,[]=>true
 |i,a::l=>rkA U vs K π ((tm.get i).getD .undef) a&&QC (i+1) λj=>Qme U vs K π tm j l
theorem Q9r {tm:Tr AV}:∀{l:List AV} {i t:Nat} {a:AV},Qme U vs K π tm i l=true->l[t]?=some a->rkA U vs K π ((tm.get (i+t)).getD .undef) a=true
 |[],i,t,a,_,h=>by simp at h
 |b::l,i,t,a,h,e=>by
  simp only [Qme,sNat_eq,Bool.and_eq_true] at h;cases t with
  |zero=>simp at e;subst e;simpa using h.1
  |succ t=>have:=Q9r h.2 (t:=t) (by simpa using e);rw [show i+(t+1)=i+1+t by omega];exact this
theorem QJ.Yh {nt:Nat} {tm:Tr AV} {tmps:Array Value} {l:List AV} (hc:jH U vs K π X X') (h:QJ X nt tm tmps) (hk:Qme U vs K π tm 0 l=true) (hl:l.length=nt):QJ X' nt (setArgs 0 l (.sk nt)) tmps:=by
 refine ⟨h.1,λt=>?_⟩;rw [J6 (X:=X')];simp only [Nat.not_lt_zero,if_false,Nat.sub_zero];cases ht:l[t]? with
 |some a=>simp only [Option.getD_some];have:=Q9r hk ht;rw [Nat.zero_add] at this;exact ZW hc this (h.2 t)
 |none=>
  have hge:nt<=t:=by rw [<-hl];exact List.getElem?_eq_none_iff.1 ht
  have hu:tmps.getD t undef=undef:=by have:tmps[t]?=none:=Array.getElem?_eq_none_iff.2 (by rw [h.1];exact hge);simp [Array.getD_eq_getD_getElem?,this]
  rw [hu];simp;exact Qt X'
end
def Q1c (U:Sb) (vs:List Nat) (K:Nat->Bool) (π:Nat->Nat) (X:Ext):Ext:=⟨λb=>if K b=true then X.V (π b) else if b∈vs then X.V 0 else none,⟨λi=>if i∈vs then (U.at i).den X.O else 0,X.O.str⟩⟩
section
variable {P:Program} {G:Env} {n0:Nat} {w0:World} {cs0:List Frame}
end
end Go.Ax
namespace Go.Ax
open Go.RowKit
section
variable {P:Program} {G:Env} {n0:Nat} {w0:World} {cs0:List Frame}
end
end Go.Ax
namespace Go.Ax
open Go.RowKit
theorem Qbt:∀(l:List UInt8),qG l<256^l.length:=by
 have h:∀(l:List UInt8) (n:Nat),l.foldl (λn b=>n*256+b.toNat) n<(n+1)*256^l.length:=by
  intro l;induction l with
  |nil=>intro n;simp
  |cons b l ih=>
   intro n;have:=ih (n*256+b.toNat);have hb:=b.toNat_lt;simp only [List.foldl_cons,List.length_cons,Nat.pow_succ]
   calc _<(n*256+b.toNat+1)*256^l.length:=this
    _<=((n+1)*256)*256^l.length:=Nat.mul_le_mul_right _ (by omega)
    _=(n+1)*(256^l.length*256):=by rw [Nat.mul_assoc,Nat.mul_comm 256]
 intro l;simpa [qG] using h l 0
theorem Q61 {l:List UInt8} {c:Nat} (h:c<l.length):qG (l.take (c+1))=qG (l.take c)*256+l[c].toNat:=by unfold qG;rw [List.take_add_one,List.getElem?_eq_getElem h,List.foldl_append];rfl
noncomputable def vnum (c:Ctx) (i:Nat) (a:E):Nat->Option E
 |0=>none
 |1=>some (.byte i a)
 |k+2=>match vnum c i a (k+1),E.plus c a (.ofNat (k+1)) with
  |some n,some p=>some (.bin .add .i64 (.bin .mul .i64 n (.lit 256)) (.byte i p))
  |_,_=>none
theorem Qap {O:Val} {i q:Nat} {a:E} (hq:a.den O=q) (h:q<(O.str i).length):(E.byte i a).den O=(((O.str i)[q]).toNat:Int):=by simp only [E.den,hq,Int.toNat_natCast,List.getD_eq_getElem?_getD,List.getElem?_eq_getElem h,Option.getD_some]
theorem Q24 {d:Nat->Prop} {c:Ctx} {O:Val} {i:Nat} {a:E} {q:Nat} (hc:c.okN d O) (hi:d i) (ha:a.ok d) (hq:a.den O=q):∀{k:Nat} {e:E},vnum c i a k=some e->k<=4->q+k<=(O.str i).length->e.ok d/\e.den O=(qG (((O.str i).drop q).take k):Int)
 |0,e,h,_,_=>by cases h
 |1,e,h,_,hl=>by
  cases h;refine ⟨⟨hi,ha⟩,?_⟩;rw [Qap hq (by omega)];have hl' :0<((O.str i).drop q).length:=by rw [List.length_drop];omega
  have:=Q61 hl';rw [Nat.zero_add] at this;rw [this];simp [qG]
 |k+2,e,h,hk,hl=>by
  simp only [vnum] at h;split at h;rename_i n p hn hp;cases h;obtain ⟨n1,n2⟩:=Q24 hc hi ha hq hn (by omega) (by omega);obtain ⟨p1,p2⟩:=E.Zv hp hc ha;refine ⟨⟨⟨n1,trivial⟩,hi,p1⟩,?_⟩;have hl' :k+1<((O.str i).drop q).length:=by rw [List.length_drop];omega
  have e1:(E.byte i p).den O=(((O.str i)[q+(k+1)]'(by omega)).toNat:Int):=Qap (by rw [p2,hq];simp) (by omega)
  have hst:=Q61 hl';have hg:((O.str i).drop q)[k+1]=(O.str i)[q+(k+1)]'(by omega):=by rw [List.getElem_drop]
  rw [hg] at hst;have hb:=((O.str i)[q+(k+1)]'(by omega)).toNat_lt
  have hlt:=Qbt (((O.str i).drop q).take (k+1));have hle:256^(((O.str i).drop q).take (k+1)).length<=256^3:=Nat.pow_le_pow_right (by omega) (by rw [List.length_take];omega)
  rw [hst];have e2:(E.bin .add .i64 (.bin .mul .i64 n (.lit 256)) (.byte i p)).den O=IntKind.i64.wrap (IntKind.i64.wrap (n.den O*256)+(E.byte i p).den O):=rfl
  rw [e2,e1,n2];generalize qG (((O.str i).drop q).take (k+1))=N at hlt ⊢;generalize ((O.str i)[q+(k+1)]'(by omega)).toNat=B at hb ⊢
  rw [wrap_within (n:=(N:Int)*256) (by simp only [kLo];omega) (by simp only [kHi];omega),wrap_within (by simp only [kLo];omega) (by simp only [kHi];omega)];omega;cases h
noncomputable def Q8o (b:Nat):Sum:=λc H next as=>
 match as with
 |[.sstr (.var i), .int .i64 a, .int .i64 (.lit (.ofNat k))]=>bif Nat.ble 1 k&&Nat.ble k 4&&(ST.var i).small c then
  match E.plus c (.len i) (-(.ofNat k)) with
  |none=> .fail
  |some M=>match Go.Ax.E.cmp c .lss a (.lit 0) with
   |some false=>(match Go.Ax.E.cmp c .gtr a M with
    |some true=>(match Go.Ax.E.cmp c .leq a (.lit 1099511627776) with
     |some true=> .ok ⟨.tuple [.int .i64 (.lit (.ofNat 0)), .int .i64 (.lit (.ofNat b))],H,next,c⟩
     |_=> .fail)
    |some false=>(match vnum c i a k with
     |some e=> .ok ⟨.tuple [.int .i64 e, .int .i64 (.lit (.ofNat 0))],H,next,c⟩
     |none=> .fail)
    |none=>match E.askN c .gtr a M with
     |(op,x,y)=> .ask op x y)
   |_=> .fail
  else .fail
 |_=> .fail
noncomputable def Q8n (b:Nat):Sum:=λc H next as=>
 match Q8o b c H next as with
 | .fail=>Q0x b c H next as
 |r=>r
theorem Qc3 {P:Program} {G:Env} {n0:Nat} {f:FuncId} {b:Nat}
 (h1:∀(s:ByteArray) (i k:Nat) (w:World),1<=k->k<=4->s.size<=1099511627776->i+k<=s.size->Calls P f #[.string s, .int .i64 i, .int .i64 k] w λe w' =>e= .returned (.tuple #[.int .i64 (qG ((s.data.toList.drop i).take k)), .int .i64 0])/\Below w.heap.size w w')
 (h2:∀(s:ByteArray) (i k:Nat) (w:World),1<=k->k<=4->s.size<=1099511627776->i<=1099511627776->s.size<i+k->Calls P f #[.string s, .int .i64 i, .int .i64 k] w λe w' =>e= .returned (.tuple #[.int .i64 0, .int .i64 b])/\Below w.heap.size w w'):ZO P G n0 f (Q8n b):=by
 refine ZO.or (S:=Q8o b) (S' :=Q0x b) ?_ (Q2r h1 h2) λc H next as r hr=>?_
 . refine YM λc X H next w args vs r hr hc hargs=>?_
   unfold Q8o at hr;split at hr;rename_i i a k;cases hb:(Nat.ble 1 k&&Nat.ble k 4&&(ST.var i).small c) with
   |false=>rw [hb] at hr;cases hr
   |true=>
    rw [hb] at hr;simp only [Bool.and_eq_true,Nat.ble_eq] at hb;simp only [cond_true] at hr;obtain ⟨u,vs',e1,g1,g2⟩:=Q7.1 hargs;obtain ⟨v,vs'',rfl,g3,g4⟩:=Q7.1 g2;obtain ⟨v2,vs3,rfl,g5,g6⟩:=Q7.1 g4;have:=rels_nil.1 g6;subst this;simp only [AV.rel] at g1 g3 g5;obtain ⟨k1,k2,rfl⟩:=g1;obtain ⟨ka,rfl⟩:=g3;obtain ⟨-,rfl⟩:=g5;have hl:=ST.Yg hb.2 hc k2;have hvs:vs=#[.string ⟨(X.O.str i).toArray⟩, .int .i64 (a.den X.O), .int .i64 k]:=by rw [<-Array.toList_inj];exact e1
    subst hvs;have hsz:(⟨(X.O.str i).toArray⟩:ByteArray).size=(X.O.str i).length:=by
     show (X.O.str i).toArray.size=_
     simp
    have hl:(X.O.str i).length<=549755813888:=hl
    have hdi:X.dom i:=k1;split at hr;cases hr;rename_i M hM;obtain ⟨M1,M2⟩:=E.Zv hM hc (show (E.len i).ok X.dom from hdi);simp only [E.den,Int.ofNat_eq_natCast] at M2;split at hr;rename_i hz;have z0:¬(a.den X.O<0):=of_decide_eq_false (Go.Ax.E.Qe rfl hz hc);obtain ⟨q,hq⟩:∃q:Nat,a.den X.O=q:=⟨(a.den X.O).toNat,by omega⟩;rw [hq];split at hr;rename_i hgt;have z1:=Go.Ax.E.Qe rfl hgt hc;simp only [Y2,decide_eq_true_eq] at z1;split at hr;rename_i hbig;have z2:a.den X.O<=1099511627776:=of_decide_eq_true (Go.Ax.E.Qe rfl hbig hc);cases hr;refine ⟨rfl,rfl,rfl,_,?_,h2 _ q k w hb.1.1 hb.1.2 (by rw [hsz];omega) (by omega) (by rw [hsz];omega)⟩;simp only [AV.rel];refine ⟨_,rfl,?_⟩;simp only [rels_cons_cons,rels_nil,AV.rel];exact ⟨⟨trivial,rfl⟩,⟨trivial,rfl⟩,trivial⟩;cases hr;rename_i hgt;have z1:=Go.Ax.E.Qe rfl hgt hc;simp only [Y2,decide_eq_false_iff_not] at z1;split at hr;rename_i e he;cases hr;obtain ⟨v1,v2⟩:=Q24 hc hdi ka hq he hb.1.2 (by omega);have hcall:=h1 ⟨(X.O.str i).toArray⟩ q k w hb.1.1 hb.1.2 (by rw [hsz];omega) (by rw [hsz];omega);refine ⟨rfl,rfl,rfl,_,?_,hcall⟩;simp only [AV.rel];refine ⟨_,rfl,?_⟩;simp only [rels_cons_cons,rels_nil,AV.rel];exact ⟨⟨v1,by rw [v2]⟩,⟨trivial,rfl⟩,trivial⟩;cases hr;cases hr;cases hr
   cases hr
 unfold Q8n at hr;split at hr;exact .inr hr
 exact .inl hr
end Go.Ax
namespace Go.Ax
open Go.RowKit
noncomputable def Qiy (U:Sb) (vs:List Nat) (K:Nat->Bool) (π:Nat->Nat) (a:Qk) (f:Fr):Bool:=!a.ret&&(Qj1 a.defers&&(Qmr a.ro&&(Qnf a.cur&&(a.todo.all Q5x&&(Qme U vs K π a.tm 0 f.tms&&Nat.beq f.tms.length a.nt)))))
noncomputable def Qc4 (U:Sb) (vs:List Nat) (K:Nat->Bool) (π:Nat->Nat):List Qk->List Fr->Bool
 |[],[]=>true
 |a::as,f::fs=>Qiy U vs K π a f&&Qc4 U vs K π as fs
 |_,_=>false
section
variable {P:Program} {G:Env} {n0:Nat} {H H' :Tr Q8} {X X' :Ext} {U:Sb} {vs:List Nat} {K:Nat->Bool} {π:Nat->Nat} {a:Qk} {t:Fr} {f:Frame}
theorem Q6j (hk:Qiy U vs K π a t=true) (h1:a.fn=t.fn) (h:Q1r P X a f):Q1r P X' t.af f:=by
 simp only [Qiy,Bool.and_eq_true,Bool.not_eq_true'] at hk;obtain ⟨b1,b2,b3,-⟩:=hk;have hdef:a.defers=[]:=by cases hh:a.defers with
  |nil=>rfl
  |cons a l=>rw [hh] at b2;cases b2
 have hro:a.ro=none:=by cases hh:a.ro with
  |none=>rfl
  |some a=>rw [hh] at b3;cases b3
 refine ⟨h.fn.trans h1,h.kind,?_,?_⟩;have:=h.ro;rw [hro] at this;exact this;have:=h.defers;rw [hdef] at this;exact this
theorem Qcl.Yh (hc:jH U vs K π X X') (hk:Qiy U vs K π a t=true) (b4:jR a.cur=true) (h1:a.fn=t.fn) (h2:a.nt=t.nt) (h3:a.cur=t.cur) (h4:a.todo=t.todo) (h:Qcl P G X n0 H a f):Qcl P G X' n0 H' t.af f/\Qq t.af=[]:=by
 have hb:=Q6j (X' :=X') hk h1 h.1;simp only [Qiy,Bool.and_eq_true,Bool.not_eq_true',Nat.beq_eq] at hk;obtain ⟨b1,-,-,-,b5,b6,b7⟩:=hk;obtain ⟨-,h'⟩:=h;rw [b1] at h';obtain ⟨hm,is,his,hcur'⟩:=h';have htm:∀{tmps},QJ X a.nt a.tm tmps->QJ X' t.af.nt t.af.tm tmps:=λh=>by have:=QJ.Yh hc h b6 b7;rw [h2] at this;exact this
 have hids:Qq t.af=[]:=by
  show Qq t.af=[];unfold Qq;show (match t.cur with| .draw _ _ _ pa=>pa.map (·.2)|_=>[])=[];rw [<-h3];cases hcc:a.cur with
  |draw ops done rest pa=>rw [hcc] at b4;cases b4
  |_=>rfl
 refine ⟨⟨hb,hm,is,?_,?_⟩,hids⟩;show YR X' t.todo is;rw [<-h4];exact ZK b5 his;show match t.cur with
  | .none=>_
  | .reg ops k rest=>_
  | .draw ops done rest pa=>_
 rw [<-h3];cases hcc:a.cur with
 |none=>rw [hcc] at hcur';exact ⟨hcur'.1,htm hcur'.2⟩
 |reg ops k rest=>rw [hcc] at hcur';exact ⟨hcur'.1,hcur'.2.1,htm hcur'.2.2⟩
 |draw ops done rest pa=>rw [hcc] at b4;cases b4
theorem Q59.Yh (hc:jH U vs K π X X') (hk:Qiy U vs K π a t=true) (h1:a.fn=t.fn) (h2:a.nt=t.nt) (h3:a.cur=t.cur) (h4:a.todo=t.todo) (h:Q59 P G X n0 H a f):Q59 P G X' n0 H' t.af f/\Qq t.af=[]:=by
 have hb:=Q6j (X' :=X') hk h1 h.1;simp only [Qiy,Bool.and_eq_true,Bool.not_eq_true',Nat.beq_eq] at hk;obtain ⟨b1,-,-,b4,b5,b6,b7⟩:=hk;obtain ⟨-,-,hm,is,his,hcur'⟩:=h;have htm:∀{tmps},QJ X a.nt a.tm tmps->QJ X' t.af.nt t.af.tm tmps:=λh=>by have:=QJ.Yh hc h b6 b7;rw [h2] at this;exact this
 have hids:Qq t.af=[]:=by
  unfold Qq;show (match t.cur with| .draw _ _ _ pa=>pa.map (·.2)|_=>[])=[];rw [<-h3];cases hcc:a.cur with
  |draw ops done rest pa=>rw [hcc] at b4;obtain ⟨-,-,-,-,rfl,-⟩:=zK b4;rfl
  |_=>rfl
 refine ⟨⟨hb,rfl,hm,is,?_,?_⟩,hids⟩;show YR X' t.todo is;rw [<-h4];exact ZK b5 his;show match t.cur with
  | .none=>_
  | .reg ops k rest=>_
  | .draw ops done rest pa=>_
 rw [<-h3];cases hcc:a.cur with
 |none=>rw [hcc] at hcur';exact ⟨hcur'.1,htm hcur'.2⟩
 |reg ops k rest=>rw [hcc] at hcur';exact ⟨hcur'.1,hcur'.2.1,hcur'.2.2.1,htm hcur'.2.2.2⟩
 |draw ops done rest pa=>
  rw [hcc] at hcur' b4;obtain ⟨A,fuel,tp,listed,i,rc,rest',o,g1,g2,g3,g4,g5,g6,g7,g8,D⟩:=hcur';subst g2;have hall:∀j,done.testBit j=true->Lst listed j:=λj hj=>by
   obtain ⟨i',rc',r',e,-,hl⟩:=zK b4;cases e;refine D.before g3 g8 ?_;have:(Nat.land done (((Q7q ops 0 (.sk ops.length)).get i).getD 0)).testBit j=true:=by rw [hl];exact hj
   change (done &&& _).testBit j=true at this
   rw [Nat.testBit_and,Bool.and_eq_true] at this;exact this.2
  have htm' :QJ X' t.af.nt t.af.tm f.tmps:=htm ⟨D.tmr.1,λu=>D.tmr.2 u λj oj hj hl _=>absurd (hall j hj) hl⟩;exact ⟨A,fuel,tp,listed,i,rc,rest',o,g1,rfl,g3,g4,g5,g6,g7,g8,D.size,D.sub,D.closed,D.plan,D.light,D.looks,D.inRange,⟨htm'.1,λu _=>htm'.2 u⟩,λj oj hj hl _=>absurd (hall j hj) hl⟩
end
theorem Zl.Yh {P:Program} {G:Env} {n0:Nat} {H H' :Tr Q8} {X X' :Ext} {U:Sb} {vs:List Nat} {K:Nat->Bool} {π:Nat->Nat} (hc:jH U vs K π X X'):∀{as:List Qk} {ts:List Fr} {cs:List Frame},Qc4 U vs K π as ts=true->as.map sk4=ts.map Fr.sk4->Zl P G X n0 H as cs->Zl P G X' n0 H' (ts.map Fr.af) cs/\(ts.map Fr.af).flatMap Qq=[]
 |[],ts,cs,hk,e,h=>by
  cases ts with
  |nil=>exact ⟨h,rfl⟩
  |cons t ts=>simp [Qc4] at hk
 |a::as,ts,cs,hk,e,h=>by
  cases ts with
  |nil=>simp [Qc4] at hk
  |cons t ts=>simp only [Qc4,Bool.and_eq_true] at hk;simp only [List.map_cons,List.cons.injEq] at e;obtain ⟨e1,e2⟩:=e;simp only [sk4,Fr.sk4,Prod.mk.injEq] at e1;obtain ⟨f,fs,rfl,h1,h2⟩:=h;obtain ⟨k1,k2⟩:=Q59.Yh (H' :=H') hc hk.1 e1.1 e1.2.1 e1.2.2.1 e1.2.2.2 h1;obtain ⟨k3,k4⟩:=Zl.Yh hc hk.2 e2 h2;refine ⟨⟨f,fs,rfl,k1,k3⟩,?_⟩;simp only [List.map_cons,List.flatMap_cons,k2,k4,List.append_nil]
noncomputable def Qiw (U:Sb) (keep:List Nat) (π:List (Nat×Nat)) (ng:Nat) (t:StC) (s:AM):Bool:=
 jR s.fr.cur&&(Qiy U t.vs (Zi ng keep) (Q9q π) s.fr t.fr&&(Qc4 U t.vs (Zi ng keep) (Q9q π) s.cs t.cs&&(rkH U t.vs (Zi ng keep) (Q9q π) s.H t.l&&(Qfb U t.vs s.ctx t.fs&&
  (Nat.ble ng t.next&&(keep.all (λb=>Nat.blt b t.next)&&(t.vs.all (λi=>Nat.blt i t.next)&&(t.vs.all (λi=>!Zi ng keep i||s.ctx.vs.any (Nat.beq (Q9q π i)))&&π.all (λp=>Nat.ble ng p.1)))))))))
def Qll (L:Nat) (spec:Spec) (G:Env) (n k:Nat) (s:AM) (j:List Nat) (U:Sb) (keep:List Nat) (π:List (Nat×Nat)) (t:StC):Prop:=(AM.rec (motive:=λ_=>(Nat×Nat×Q7t×List Qw)×List (Nat×Nat×Q7t×List Qw)×Bool) (λfr cs H nx c=>(sk4 fr,cs.map sk4,Qiw U keep π G.T.ng t ⟨fr,cs,H,nx,c⟩)) (Qbl L spec G n k j s))=(t.fr.sk4,t.cs.map Fr.sk4,true)
structure Qfx (bs:List (Nat×Place)) (avs:List AV) (vals:List Value) (X:Ext):Prop where
 V:∀q∈bs,X.V q.1=some q.2
 r:AV.QF X avs vals
section
variable {P:Program} {G:Env} {n0:Nat} {w0:World} {cs0:List Frame}
theorem Qll.endsL (hT:G.T.OK P) (hI:Jq.OK P G.I) (hS:YZ P G n0) (hng:0<G.T.ng) {L:Nat} {f:FuncId} {s:AM} {n k room:Nat} {j:List Nat} {U:Sb} {keep:List Nat} {π:List (Nat×Nat)} {t:StC} {bs bs' :List (Nat×Place)} {avs avs' :List AV} {vals:List Value}
 (hk:∀q∈bs',q∈bs/\Zi G.T.ng keep q.1=true/\Q9q π q.1=q.1) (hch:rkL U t.vs (Zi G.T.ng keep) (Q9q π) avs avs' =true) (hh:Qll L Q81 G n k s j U keep π t)
 (he:∀X m,Qfx bs' avs' vals X->Sim P G n0 w0 cs0 X (t.am room) m->ZU P n0 w0 cs0 f m) {X:Ext} {m:Machine} (hX:Qfx bs avs vals X) (h:Sim P G n0 w0 cs0 X s m):ZU P n0 w0 cs0 f m:=by
 obtain ⟨Y,m',st,hle,h1⟩:=JH hT hI hS (Q3v (L:=L) Q3q n k j s) h;unfold Qll at hh;generalize Qbl L Q81 G n k j s=s1 at hh h1;obtain ⟨fr1,cs1,H1,nx1,c1⟩:=s1;simp only [Prod.mk.injEq] at hh;obtain ⟨e0,e1,hb⟩:=hh;simp only [Qiw,Bool.and_eq_true,List.all_eq_true,Nat.ble_eq,Nat.blt_eq,Bool.or_eq_true,Bool.not_eq_true'] at hb;obtain ⟨b5,b6,b8,b9,b10,b11,b12,b13,b14,b15⟩:=hb;have hlow:∀g,g<G.T.ng->Q9q π g=g:=λg hg=>Q9p (n:=G.T.ng) (List.all_eq_true.2 λp hp=>by rw [Nat.ble_eq];exact b15 p hp) hg
 have hKg:∀b,b<G.T.ng->Zi G.T.ng keep b=true:=λb hb=>by unfold Zi;rw [show Nat.blt b G.T.ng=true from by rw [Nat.blt_eq];exact hb];rfl
 have hKn:∀b,t.next<=b->Zi G.T.ng keep b=false:=λb hb=>by
  unfold Zi;rw [Bool.or_eq_false_iff];refine ⟨?_,?_⟩;cases hh:Nat.blt b G.T.ng with
  |false=>rfl
  |true=>rw [Nat.blt_eq] at hh;omega
  rw [List.any_eq_false];intro c hc he;have:b=c:=by simpa using he
  subst this;have:=b12 b hc;omega
 obtain ⟨fr,fs,w,rfl,hF,hall,hHr,hB,h0⟩:=h1.ex;obtain ⟨k0,hk0⟩:=h1.Ql 0 hng;have hc:jH U t.vs (Zi G.T.ng keep) (Q9q π) Y (Q1c U t.vs (Zi G.T.ng keep) (Q9q π) Y):=by
  refine ⟨λi hi=>⟨?_,by simp only [Q1c,if_pos hi],rfl⟩,λb hb=>by simp only [Q1c,if_pos hb]⟩;by_cases hk:Zi G.T.ng keep i=true;obtain ⟨p,hp⟩:=(b14 i hi).elim (λh' =>by rw [hk] at h';cases h') λh' =>h1.ctx.1 _ (any_beq h')
  exact ⟨p,by simp only [Q1c,if_pos hk,hp]⟩;exact ⟨_,by simp only [Q1c,if_neg hk,if_pos hi];exact hk0⟩
 have hlt:∀b p,(Q1c U t.vs (Zi G.T.ng keep) (Q9q π) Y).V b=some p->p.blk<w.heap.size:=λb p hp=>by simp only [Q1c] at hp;split at hp;exact hHr.lt _ p hp;split at hp;exact hHr.lt 0 p hp;cases hp
 obtain ⟨g1,g2⟩:=Qcl.Yh (H' :=Q55 room t.l) hc b6 b5 e0.1 e0.2.1 e0.2.2.1 e0.2.2.2 hF;obtain ⟨g3,g4⟩:=Zl.Yh (H' :=Q55 room t.l) hc b8 e1 hall;refine .of_steps st (he (Q1c U t.vs (Zi G.T.ng keep) (Q9q π) Y) _ ⟨λq hq=>?_,YP hc hch (AV.ZC hle _ _ hX.r)⟩ ⟨⟨fr,fs,w,rfl,g1,g3,Qo.Yh hHr hc hlt b9,hB,h0⟩,qR hc.cast h1.ctx b10,λg hg=>?_,λb hb=>?_,?_⟩)
 obtain ⟨q1,q2,q3⟩:=hk q hq;simp only [Q1c,if_pos q2,q3];exact hle.V _ _ (hX.V q q1);obtain ⟨n,hn⟩:=h1.Ql g hg;exact ⟨n,by simp only [Q1c,if_pos (hKg g hg),hlow g hg];exact hn⟩;simp only [Q1c];have hb' :t.next<=b:=hb;rw [if_neg (by rw [hKn b hb'];simp),if_neg (λhm=>by have:=b13 b hm;omega)];have e:(t.am room).fr::(t.am room).cs=t.fr.af::t.cs.map Fr.af:=rfl
 rw [e,List.flatMap_cons,g2,g4];simp
theorem HopC.endsL (hT:G.T.OK P) (hI:Jq.OK P G.I) (hS:YZ P G n0) (hng:0<G.T.ng) {L:Nat} {f:FuncId} {s:AM} {n k room:Nat} {j:List Nat} {U:Sb} {keep:List Nat} {t:StC} {bs bs' :List (Nat×Place)} {avs avs' :List AV} {vals:List Value}
 (hk:∀q∈bs',q∈bs/\Zi G.T.ng keep q.1=true) (hch:jw U t.vs (Zi G.T.ng keep) avs avs' =true) (hh:HopC L Q81 G n k s j U keep t)
 (he:∀X m,Qfx bs' avs' vals X->Sim P G n0 w0 cs0 X (t.am room) m->ZU P n0 w0 cs0 f m) {X:Ext} {m:Machine} (hX:Qfx bs avs vals X) (h:Sim P G n0 w0 cs0 X s m):ZU P n0 w0 cs0 f m:=by
 obtain ⟨Y,m',st,hle,h1⟩:=JH hT hI hS (Q3v (L:=L) Q3q n k j s) h;unfold HopC at hh;generalize Qbl L Q81 G n k j s=s1 at hh h1;obtain ⟨fr,cs,H,nx,c⟩:=s1;simp only [Prod.mk.injEq] at hh;have hb:=hh.2.2;refine .of_steps st (he _ _ ⟨λq hq=>?_,?_⟩ (Qhf h1 hng (by simp only [sk4,Fr.sk4,Prod.mk.injEq];exact hh.1) hh.2.1 hb))
 obtain ⟨q1,q2⟩:=hk q hq;simp only [Z5,if_pos q2];exact hle.V _ _ (hX.V q q1);simp only [Qhg,Bool.and_eq_true,List.all_eq_true,Nat.ble_eq,Nat.blt_eq,Bool.or_eq_true,Bool.not_eq_true'] at hb;obtain ⟨-,-,-,-,-,-,-,-,b14⟩:=hb;have hvd:∀i∈t.vs,Zi G.T.ng keep i=true->Y.dom i:=λi hi hk=>by rcases b14 i hi with h' |h';rw [hk] at h';cases h';exact h1.ctx.1 i (any_beq h')
 obtain ⟨k0,hk0⟩:=h1.Ql 0 hng;have hC:Cast U t.vs (Zi G.T.ng keep) Y (Z5 U t.vs (Zi G.T.ng keep) Y):=by refine ⟨λi hi=>⟨?_,by simp only [Z5,if_pos hi],rfl⟩,λb hb=>by simp only [Z5,if_pos hb]⟩;by_cases hk:Zi G.T.ng keep i=true;obtain ⟨p,hp⟩:=hvd i hi hk;exact ⟨p,by simp only [Z5,if_pos hk,hp]⟩;exact ⟨_,by simp only [Z5,if_neg hk,if_pos hi];exact hk0⟩
 exact QT hC hch (AV.ZC hle _ _ hX.r)
theorem Sim.addC {X:Ext} {t:StC} {l:List Fact} {room:Nat} {m:Machine} (h:Sim P G n0 w0 cs0 X ({ t with fs:=l}.am room) m) {fs:List Fact} (hf:∀f∈fs,f.ok X.O) (hk:fs.all (λf=>f.a.okB t.vs&&f.b.okB t.vs)=true):
 Sim P G n0 w0 cs0 X ({ t with fs:=fs++l}.am room) m:=by
 refine ⟨h.ex,⟨h.ctx.1,λf hm=>?_⟩,h.Ql,h.fresh,h.ids⟩;rcases List.mem_append.1 hm with hm|hm;have:=List.all_eq_true.1 hk f hm;rw [Bool.and_eq_true] at this;exact ⟨hf f hm,E.Zw h.ctx.1 this.1,E.Zw h.ctx.1 this.2⟩;exact h.ctx.2 f hm
theorem Sim.hand (hT:G.T.OK P) (hI:Jq.OK P G.I) {X:Ext} {s:AM} {m:Machine} (h:Sim P G n0 w0 cs0 X s m) (hret:s.fr.ret=false) {ops:List Oper} {k:Nat} {o:Oper} {rest:List Oper} (hc:s.fr.cur= .reg ops k (o::rest)) (hg:o.guard=none) (hd:∀c,o.op≠ .defer c) {d:Nat} (hdst:o.dst=some d) (hlt:d<s.fr.nt) {v:AV}
 (hx:∀(ρc:Operand->Value) (w:World),(∀x∈o.op.operands.toList,∀a,ev G.T.ng s.fr.tm x=some a->a.rel X (ρc x))->Below n0 w0 w->∃u,(execOp ρc o).run P w= .ok (.value u) w/\v.rel X u):
 ∃Y m',Steps P m m' /\X.le Y/\Sim P G n0 w0 cs0 Y { s with fr:={ s.fr with tm:=s.fr.tm.set d v,cur:= .reg ops (k+1) rest}} m' :=by
 obtain ⟨f,cs,w,rfl,hS⟩:=Qdd h hret hc;obtain ⟨A,i,l,is,-,-,-,-,hops,-⟩:=hS.at_;obtain ⟨u,h1,h2⟩:=hx (evC f.tmps) w hops hS.below;refine Qay hT hI hS (r:=⟨v,s.H,s.next⟩) (by unfold QG;rw [hg]) hd ⟨X,u,w, .inl h1,Ext.le.refl X,h2,hS.mem,Below.refl _ _,λb hb _=>⟨hb,rfl⟩,Nat.le_refl _,hS.fresh⟩ ?_;unfold advance Y4;have hb:Nat.blt d s.fr.nt=true:=by rw [Nat.blt_eq];exact hlt
 simp only [hc,Qav,hdst,hb,cond_true,sNat_eq]
end
end Go.Ax
namespace Go.Ax
open Go.RowKit
noncomputable def StC.rd (t:StC) (room d1 d2:Nat):AM:=
 match t.fr.cur with
 | .reg ops k rest=>⟨{ t.fr.af with tm:=(t.fr.af.tm.set d1 .top).set d2 (.int .i64 (.var t.next)),cur:= .reg ops (k+1+1) (rest.drop 2)},t.cs.map Fr.af,Q55 room t.l,t.next+1,
  ⟨⟨.geq, .var t.next, .lit (-9223372036854775808),true⟩::⟨.leq, .var t.next, .lit 9223372036854775807,true⟩::t.fs,t.next::t.vs⟩⟩
 |_=>t.am room
section
variable {P:Program} {G:Env} {n0:Nat} {w0:World} {cs0:List Frame}
theorem Sim.readI (hT:G.T.OK P) (hI:Jq.OK P G.I) (hng:0<G.T.ng) {X:Ext} {t:StC} {room:Nat} {m:Machine} (h:Sim P G n0 w0 cs0 X (t.am room) m) {ops:List Oper} {k:Nat} {o1 o2:Oper} {rest:List Oper} (hc:t.fr.cur= .reg ops k (o1::o2::rest)) (hcs:t.cs=[])
 (hg1:o1.guard=none) (hg2:o2.guard=none) {d1 d2 a c t1 t2 te b li:Nat} {e:E} (hd1:o1.dst=some d1) (hd2:o2.dst=some d2) (hne:d1≠d2) (hl1:d1<t.fr.nt) (hl2:d2<t.fr.nt)
 (ho1:o1.op= .indexAddr t1 (.tmp a) (.tmp c)) (ho2:o2.op= .load t2 (.tmp d1)) {ti ei t2i:TI} (ht1:G.T.ty t1=some ti) (hts:ti.desc= .slice te) (hte:G.T.ty te=some ei) (hes:ei.size=1) (ht2:G.T.ty t2=some t2i) (h2a:jW t2i.desc=false)
 (ha:(t.am room).fr.tm.get a=some (.wslice b 0 0 1 li)) (hi:(t.am room).fr.tm.get c=some (.int .i64 e)) (h0:0<=e.den X.O) (hlt:e.den X.O<X.O.int li)
 {pl:Place} (hpl:X.V b=some pl) (hin:pl.blk<n0) {n:Nat} (hn:X.O.int li=n) (hcell:∀i,i<n->∃z:Int,-9223372036854775808<=z/\z<=9223372036854775807/\w0.cell? ⟨pl.blk,pl.base+i,none⟩=some (.int .i64 z))
 (hfree:(Q55 room t.l).get t.next=none):
 ∃Y m',Steps P m m' /\X.le Y/\Sim P G n0 w0 cs0 Y (t.rd room d1 d2) m' :=by
 obtain ⟨i,hi'⟩:∃i:Nat,e.den X.O=i:=⟨(e.den X.O).toNat,by omega⟩;have hin' :i<n:=by omega
 obtain ⟨z,z1,z2,hz⟩:=hcell i hin';obtain ⟨Y,m1,st1,hle1,hs1⟩:=h.hand hT hI (s:=t.am room) rfl (ops:=ops) (k:=k) (o:=o1) (rest:=o2::rest) hc hg1 (λq hq=>by rw [ho1] at hq;cases hq) hd1 hl1 (v:= .ptr b i) (λρc w hops _=>by
  rw [ho1] at hops;have r1:=hops (.tmp a) (by simp [Op.operands]) (.wslice b 0 0 1 li) (by simp only [ev,ha,Option.getD_some]);have r2:=hops (.tmp c) (by simp [Op.operands]) (.int .i64 e) (by simp only [ev,hi,Option.getD_some]);simp only [AV.rel] at r1 r2;obtain ⟨p,len,cp,hp,e1,-,hlc,hsz,-,hlen⟩:=r1;obtain ⟨-,e2⟩:=r2;rw [hpl] at hp;cases hp;have hil:i<len:=by omega
  replace e1:=e1.elim id λh=>absurd h.2 (by omega)
  refine ⟨.pointer (some ⟨pl.blk,pl.base+i,none⟩),?_,?_⟩;simp only [execOp,ho1,e1,e2,hi'];simp [Instr.indexAt,asIntOf,Tab.Qf hT ht1,hts,Tab.Qu hT hte,hes,QW,hil];simp only [AV.rel];exact ⟨pl,hpl,rfl⟩)
 obtain ⟨Z,m2,st2,hle2,hs2⟩:=hs1.hand hT hI (o:=o2) (rest:=rest) (by exact rfl) rfl hg2 (λq hq=>by rw [ho2] at hq;cases hq) hd2 (by exact hl2) (v:= .int .i64 (.lit z)) (λρc w hops hb=>by
  rw [ho2] at hops;have r1:=hops (.tmp d1) (by simp [Op.operands]) (.ptr b i) (by simp only [ev,Tr.QV,if_true,Option.getD_some]);simp only [AV.rel] at r1;obtain ⟨p,hp,e1⟩:=r1;rw [hle1.V _ _ hpl] at hp;cases hp;refine ⟨.int .i64 z,?_,by simp only [AV.rel];exact ⟨trivial,rfl⟩⟩;have hv:w.cell? ⟨pl.blk,pl.base+i,none⟩=some (.int .i64 z):=by rw [hb.cell (p:=⟨pl.blk,pl.base+i,none⟩) hin,hz]
  simp only [execOp,ho2,e1];simp only [Instr.loadAt,Instr.sureAddr,loadVar,pure_bind,Sem.run_bind,Tab.Q05 hT ht2,h2a,Result.andThen_ok];simp [hv])
 obtain ⟨q0,hq0⟩:=hs2.Ql 0 hng;have hfr:∀b,t.next<=b->Z.V b=none:=hs2.fresh;have hd:(Z.letter t.next ⟨0,0,q0⟩ z []).dom t.next:=⟨⟨0,0,q0⟩,by simp [Ext.letter]⟩
 have hden:(E.var t.next).den (Z.letter t.next ⟨0,0,q0⟩ z []).O=z:=by simp [E.den,Ext.letter]
 have hN:New Z (Z.letter t.next ⟨0,0,q0⟩ z []) ⟨0,0,q0⟩ t.next (t.next+1) [⟨.geq, .var t.next, .lit (-9223372036854775808),true⟩,⟨.leq, .var t.next, .lit 9223372036854775807,true⟩] [t.next]:=by
  refine Ext.jl hfr λf hf=>?_
  simp only [List.mem_cons,List.not_mem_nil,or_false] at hf;rcases hf with rfl|rfl;refine ⟨?_,hd,trivial⟩;simp only [Fact.ok,Y2];rw [hden];exact decide_eq_true z1;refine ⟨?_,hd,trivial⟩;simp only [Fact.ok,Y2];rw [hden];exact decide_eq_true z2
 obtain ⟨fr,fs,w,rfl,hF,hall,hH,hB,h00⟩:=hs2.ex;refine ⟨Z.letter t.next ⟨0,0,q0⟩ z [],_,st1.trans st2,(hle1.trans hle2).trans hN.le,?_⟩;unfold StC.rd;rw [hc];simp only [List.drop_succ_cons,List.drop_zero];have hall' :fs=[]:=by
  have e:(t.am room).cs=[]:=by simp only [StC.am,hcs,List.map_nil]
  simp only [e] at hall;exact hall
 subst hall';refine ⟨⟨fr,[],w,rfl,?_,by simp only [hcs,List.map_nil];rfl,?_,hB,h00⟩,⟨λi hi=>?_,λf hf=>?_⟩,Ext.Zy hs2.Ql hN.le,hN.free,?_⟩;obtain ⟨hb,h'⟩:=hF;have hb' :=hb.mono hN.le;refine ⟨⟨hb'.fn,hb'.kind,hb'.ro,hb'.defers⟩,?_⟩;obtain ⟨hm,is,his,h1,h2,h3⟩:=h';refine ⟨hm,is,Yc hN.le his,h1,h2,h3.1,λu=>?_⟩;have hr:=h3.2 u;simp only [Tr.QV] at hr ⊢;by_cases e2:u=d2;subst e2;simp only [if_true,Option.getD_some,AV.rel] at hr ⊢;exact ⟨hd,by rw [hden];exact hr.2⟩;simp only [if_neg e2] at hr ⊢;by_cases e1:u=d1;subst e1;simp only [if_true,Option.getD_some] at hr ⊢;exact Qx (X:=Z) rfl hr;simp only [if_neg e1] at hr ⊢;exact AV.Zc hN.le _ _ hr;have hold:∀b o p,(Q55 room t.l).get b=some o->(Z.letter t.next ⟨0,0,q0⟩ z []).V b=some p->Z.V b=some p:=by
  intro b o p ho hp;by_cases h1:b<t.next;rw [<-hN.old b h1];exact hp;by_cases h2:b<t.next+1;obtain rfl:b=t.next:=by omega
  rw [hfree] at ho;cases ho;rw [hN.free b (by omega)] at hp;cases hp
 refine ⟨λb o p ho hp=>Zo hN.le (hH.obj b o p ho (hold b o p ho hp)),λb b' o o' p p' ho ho' hl hl' hp hp' he=>hH.inj b b' o o' p p' ho ho' hl hl' (hold b o p ho hp) (hold b' o' p' ho' hp') he,λb p hp=>?_,λb o p ho hr hp=>hH.own b o p ho hr (hold b o p ho hp)⟩;by_cases h1:b<t.next;exact hH.lt b p (by rw [<-hN.old b h1];exact hp);by_cases h2:b<t.next+1;rw [hN.new b (by omega) h2] at hp;cases hp;exact hH.lt 0 _ hq0;rw [hN.free b (by omega)] at hp;cases hp;rcases List.mem_cons.1 hi with rfl|hi;exact hd;exact hN.le.dom _ (hs2.ctx.1 i hi);rcases List.mem_cons.1 hf with rfl|hf;exact hN.fs _ (by simp);rcases List.mem_cons.1 hf with rfl|hf;exact hN.fs _ (by simp);exact Facts.Q3z hN.le.dom hN.le.O hs2.ctx.2 f hf;simp only [hcs,List.map_nil,List.flatMap_cons,List.flatMap_nil,List.append_nil];have e:Qq ({ t.fr.af with tm:=(t.fr.af.tm.set d1 .top).set d2 (.int .i64 (.var t.next)),cur:= .reg ops (k+1+1) rest}:Qk)=[]:=rfl;rw [e];simp
end
noncomputable def Q9k (G:Env) (E:Q7r) (f:FuncId) (sps:List Sp) (mk:List AV->Option (List AV)) (room:Nat):AM:=
 match Sp.Q0v sps (E.ng+E.m+2) with
 |some r=>match mk r.v with
  |some args=>match start G f args (Qew room E.T E.t E.d E.l) r.next ⟨r.fs,r.vs⟩ with
   |some s=>s
   |none=>⟨⟨0,0, .e, .none,[],[],false,none⟩,[], .e,0,⟨[],[]⟩⟩
  |none=>⟨⟨0,0, .e, .none,[],[],false,none⟩,[], .e,0,⟨[],[]⟩⟩
 |none=>⟨⟨0,0, .e, .none,[],[],false,none⟩,[], .e,0,⟨[],[]⟩⟩
noncomputable def Qd4 (G:Env) (E:Q7r) (f:FuncId) (sps:List Sp) (mk:List AV->Option (List AV)) (room:Nat):Bool:=
 match Sp.Q0v sps (E.ng+E.m+2) with
 |some r=>match mk r.v with
  |some args=>someB (start G f args (Qew room E.T E.t E.d E.l) r.next ⟨r.fs,r.vs⟩)
  |none=>false
 |none=>false
theorem Qin {P:Program} {G:Env} (hT:G.T.OK P) {E:Q7r} (hE:E.ng=G.T.ng) (hng:0<E.ng) {f:FuncId} {sps:List Sp} {mk:List AV->Option (List AV)} {room:Nat} (hb:Qd4 G E f sps mk room=true) {avs:List AV} (hav:(Sp.Q0v sps (E.ng+E.m+2)).map (·.v)=some avs)
 {w:World} {A:Nat->Addr} {N:Nat->Nat} {vals:List Value} {vs:Array Value} {p1 p2:Place} (hl:Laid E A N w) (hv:Sp.Qcn sps vals) (hp1:p1.blk<w.heap.size) (hp2:p2.blk<w.heap.size)
 (hmk:∀(Y:Ext) (args:List AV),AV.QF Y avs vals->Y.V (E.ng+E.m)=some p1->Y.V (E.ng+E.m+1)=some p2->mk avs=some args->AV.QF Y args vs.toList)
 (he:∀{cs0:List Frame} {X:Ext} {m:Machine},Qfx [(E.ng+E.m,p1),(E.ng+E.m+1,p2)] avs vals X->Sim P G w.heap.size w cs0 X (Q9k G E f sps mk room) m->ZU P w.heap.size w cs0 f m):
 Calls P f vs w (λe w' =>∃u,e= .returned u/\(Sp.lit true).has u/\Below w.heap.size w w'):=by
 intro cs;cases hi:Sp.Q0v sps (E.ng+E.m+2) with
 |none=>rw [hi] at hav;cases hav
 |some r=>
  rw [hi] at hav;simp only [Option.map_some,Option.some.injEq] at hav;subst hav;unfold Qd4 at hb;rw [hi] at hb;simp only at hb;cases hq:mk r.v with
  |none=>rw [hq] at hb;cases hb
  |some args=>
   rw [hq] at hb;simp only at hb;have hs:start G f args (Qew room E.T E.t E.d E.l) r.next ⟨r.fs,r.vs⟩=some (Q9k G E f sps mk room):=by unfold Q9k;rw [hi];simp only [hq];split;rename_i s hh;exact hh;rename_i hh;rw [hh] at hb;cases hb
   generalize Q9k G E f sps mk room=s at hs he;have h00:0<w.heap.size:=Nat.lt_of_lt_of_le hng hl.sz;obtain ⟨Y,hN,hr⟩:=Sp.Yn (p:=⟨0,0,0⟩) (X:=((Qj0 E A N).add (E.ng+E.m) p1).add (E.ng+E.m+1) p2) hi hv (λb hb=>by rw [Ext.QI (by omega),Ext.QI (by omega)];simp only [Qj0];rw [if_neg (by omega),if_neg (by omega)]);have hold:∀b,b<E.ng->Y.V b=some ⟨b,0,N b⟩:=λb hb=>by rw [hN.old b (by omega),Ext.QI (by omega),Ext.QI (by omega)];simp only [Qj0];rw [if_pos hb]
   have hptr:∀b,E.ng<=b->b<E.ng+E.m->Y.V b=some ⟨(A b).block,(A b).off,0⟩:=λb h1 h2=>by rw [hN.old b (by omega),Ext.QI (by omega),Ext.QI (by omega)];simp only [Qj0];rw [if_neg (by omega),if_pos h2]
   have hm1:Y.V (E.ng+E.m)=some p1:=by rw [hN.old _ (by omega),Ext.QI (by omega),Ext.add_same]
   have hm2:Y.V (E.ng+E.m+1)=some p2:=by rw [hN.old _ (by omega),Ext.add_same]
   have hargs:=hmk Y args hr hm1 hm2 hq;have hlt:∀b p,Y.V b=some p->p.blk<w.heap.size:=λb p hp=>by by_cases h1:b<E.ng;rw [hold b h1] at hp;cases hp;exact Nat.lt_of_lt_of_le h1 hl.sz;by_cases h2:b<E.ng+E.m;rw [hptr b (by omega) h2] at hp;cases hp;exact hl.lt b (by omega) h2;by_cases h4:b=E.ng+E.m;subst h4;rw [hm1] at hp;cases hp;exact hp1;by_cases h5:b=E.ng+E.m+1;subst h5;rw [hm2] at hp;cases hp;exact hp2;by_cases h3:b<r.next;rw [hN.new b (by omega) h3] at hp;cases hp;exact h00;rw [hN.free b (by omega)] at hp;cases hp
   have hH:Qo Y w.heap.size (Qew room E.T E.t E.d E.l) w:=Q6n hl hold hptr hlt;have hg:Y.Ql G.T.ng:=λg hg=>⟨N g,hold g (by omega)⟩
   have hsim:Sim P G w.heap.size w cs Y s (lone (Frame.enter P f vs .normal) cs w):=by
    unfold start at hs;split at hs;cases hs;rename_i fn hfn;split at hs;cases hs;rename_i b hb;cases hs;have hP:=(hT.funcs f fn hfn).1
    refine ⟨⟨Frame.enter P f vs .normal,[],w,rfl,⟨⟨rfl,rfl,rfl,rfl⟩,rfl,[.code b],⟨_,_,rfl,rfl,rfl⟩,?_,?_⟩,rfl,hH,Below.refl _ _,Nat.le_refl _⟩,⟨hN.vs,hN.fs⟩,hg,hN.free,?_⟩;simp [Frame.enter,hP,hb];have:=Q4e (k:=fn.ntmps) hargs;simpa [Frame.enter,hP] using this;simp [Qq]
   obtain ⟨fr,w',a1,a2,a3,a4⟩:=he ⟨λq hq=>by simp only [List.mem_cons,List.not_mem_nil,or_false] at hq;rcases hq with rfl|rfl;exact hm1;exact hm2,hr⟩ hsim
   exact ⟨.returned (.bool true),w',fr,⟨_,rfl,by simp only [Sp.has],a2⟩,a1,a3,a4⟩
def stdF (a b:E) (x y:Nat):List Fact:=[⟨.lss, .bin .sub .i64 a b, .lit (.ofNat 0),Nat.blt x y⟩,⟨.gtr, .bin .sub .i64 a b, .lit (.ofNat 0),Nat.blt y x⟩,⟨.eql, .bin .sub .i64 a b, .lit (.ofNat 0),Nat.beq x y⟩,⟨.eql,a,b,Nat.beq x y⟩]
def OrdL:List Int->List Nat->Prop
 |v::V,x::f=>(∀p∈V.zip f,(v<p.1↔x<p.2)/\(v=p.1↔x=p.2))/\OrdL V f
 |_,_=>True
def clF:List E->List Nat->List Fact
 |e::es,x::f=>(es.zip f).flatMap (λp=>stdF e p.1 x p.2)++clF es f
 |_,_=>[]
def clW (es ws:List E) (f:List Nat):List Fact:=(es.zip f).flatMap λp=>stdF p.1 (ws.getD p.2 (.lit 0)) 0 0
theorem Qd3 {O:Val} {a b:E} {x y:Nat} (ha:-1000000<=a.den O/\a.den O<=1000000) (hb:-1000000<=b.den O/\b.den O<=1000000) (h1:a.den O<b.den O↔x<y) (h2:a.den O=b.den O↔x=y):∀f∈stdF a b x y,f.ok O:=by
 have hw:(E.bin .sub .i64 a b).den O=a.den O-b.den O:=by simp only [E.den,Zk];rw [Q6];omega
 have e1:Nat.blt x y=decide (a.den O<b.den O):=by rw [Bool.eq_iff_iff,Nat.blt_eq,decide_eq_true_iff];exact h1.symm
 have e2:Nat.blt y x=decide (b.den O<a.den O):=by rw [Bool.eq_iff_iff,Nat.blt_eq,decide_eq_true_iff];omega
 have e3:Nat.beq x y=decide (a.den O=b.den O):=by rw [Bool.eq_iff_iff,Nat.beq_eq,decide_eq_true_iff];exact h2.symm
 intro f hf;simp only [stdF,List.mem_cons,List.not_mem_nil,or_false] at hf;rcases hf with rfl|rfl|rfl|rfl;simp only [Fact.ok,Y2,hw,e1];show decide (_<(0:Int))=_;rw [Bool.eq_iff_iff,decide_eq_true_iff,decide_eq_true_iff];omega;simp only [Fact.ok,Y2,hw,e2];show decide (_>(0:Int))=_;rw [Bool.eq_iff_iff,decide_eq_true_iff,decide_eq_true_iff];omega;simp only [Fact.ok,Y2,hw,e3];show (_==(0:Int))=_;rw [Bool.eq_iff_iff,beq_iff_eq,decide_eq_true_iff];omega;simp only [Fact.ok,Y2,e3];rw [Bool.eq_iff_iff,beq_iff_eq,decide_eq_true_iff]
theorem Qnw {O:Val}:∀{es:List E} {f:List Nat},(∀e∈es,-1000000<=e.den O/\e.den O<=1000000)->OrdL (es.map (·.den O)) f->∀g∈clF es f,g.ok O
 |[],_,_,_,g,hg=>by simp [clF] at hg
 |_::_,[],_,_,g,hg=>by simp [clF] at hg
 |e::es,x::f,hb,ho,g,hg=>by
  simp only [clF,List.mem_append,List.mem_flatMap] at hg;simp only [List.map_cons,OrdL] at ho;rcases hg with ⟨p,hp,hg⟩|hg;have h:=ho.1 (p.1.den O,p.2) (by
   rw [List.zip_map_left];exact List.mem_map.2 ⟨p,hp,rfl⟩)
  exact Qd3 (hb e (by simp)) (hb p.1 (by simp [(List.of_mem_zip hp).1])) h.1 h.2 g hg;exact Qnw (λe he=>hb e (by simp [he])) ho.2 g hg
theorem clW_ok {O:Val} {es ws:List E} {f:List Nat} (hb:∀e∈es,-1000000<=e.den O/\e.den O<=1000000) (h:∀p∈es.zip f,p.1.den O=(ws.getD p.2 (.lit 0)).den O):∀g∈clW es ws f,g.ok O:=by
 intro g hg;simp only [clW,List.mem_flatMap] at hg;obtain ⟨p,hp,hg⟩:=hg;have hb1:=hb p.1 (List.of_mem_zip hp).1
 have h1:=h p hp;exact Qd3 hb1 (by rw [<-h1];exact hb1) (by omega) (by omega) g hg
end Go.Ax
