/-
 THE ABSTRACT EXECUTOR, 1: tables with numbers as keys, terms for integers. Conditions: none.
-/
import Derived.Calls
import Derived.KernelRfl
import Derived.IntWalk
import Derived.Below
import Derived.Laws.Cells
import Derived.Laws.IdiomCopy
import Derived.Laws.StructEq
import Derived.Laws.BytesString
import Derived.Laws.BytesArg
import Derived.Laws.Concat
namespace Go.Ax
inductive Tr (α:Type) where
 |e
 |k (j:Nat) (v:α)
 |n (l:Tr α) (m:Nat) (r:Tr α)
namespace Tr
variable {α:Type}
noncomputable def get (t:Tr α):Nat->Option α:=
 Tr.rec (motive:=λ_=>Nat->Option α) (λ_=>none) (λj v i=>Bool.rec (motive:=λ_=>Option α) none (some v) (Nat.beq i j))
  (λ_ m _ gl gr i=>Bool.rec (motive:=λ_=>Option α) (gr i) (gl i) (Nat.ble i m)) t
noncomputable def set (t:Tr α):Nat->α->Tr α:=
 Tr.rec (motive:=λ_=>Nat->α->Tr α) (λi a=> .k i a)
  (λj v i a=>Bool.rec (motive:=λ_=>Tr α) (Bool.rec (motive:=λ_=>Tr α) (.n (.k j v) j (.k i a)) (.n (.k i a) i (.k j v)) (Nat.ble i j)) (.k i a) (Nat.beq i j))
  (λl m r sl sr i a=>Bool.rec (motive:=λ_=>Tr α) (.n l m (sr i a)) (.n (sl i a) m r) (Nat.ble i m)) t
@[simp] theorem get_e (i:Nat):(e:Tr α).get i=none:=rfl
theorem Q6y (j:Nat) (v:α) (i:Nat):(k j v).get i=if i=j then some v else none:=by
 show Bool.rec (motive:=λ_=>Option α) none (some v) (Nat.beq i j)=_;cases h:Nat.beq i j with
 |true=>rw [if_pos (by simpa using h)]
 |false=>rw [if_neg (λe=>by rw [e] at h;simp at h)]
theorem Q6x (l:Tr α) (m:Nat) (r:Tr α) (i:Nat):(n l m r).get i=if i<=m then l.get i else r.get i:=by
 show Bool.rec (motive:=λ_=>Option α) (r.get i) (l.get i) (Nat.ble i m)=_;cases h:Nat.ble i m with
 |true=>rw [if_pos (Nat.le_of_ble_eq_true h)]
 |false=>rw [if_neg (λe=>by rw [Nat.ble_eq_true_of_le e] at h;cases h)]
theorem set_e (i:Nat) (a:α):(e:Tr α).set i a=k i a:=rfl
theorem set_k (j:Nat) (v:α) (i:Nat) (a:α):(k j v).set i a=if i=j then k i a else if i<=j then n (k i a) i (k j v) else n (k j v) j (k i a):=by
 show Bool.rec (motive:=λ_=>Tr α) (Bool.rec (motive:=λ_=>Tr α) (n (k j v) j (k i a)) (n (k i a) i (k j v)) (Nat.ble i j)) (k i a) (Nat.beq i j)=_;cases h:Nat.beq i j with
 |true=>rw [if_pos (by simpa using h)]
 |false=>
  rw [if_neg (λe=>by rw [e] at h;simp at h)];cases h2:Nat.ble i j with
  |true=>rw [if_pos (Nat.le_of_ble_eq_true h2)]
  |false=>rw [if_neg (λe=>by rw [Nat.ble_eq_true_of_le e] at h2;cases h2)]
theorem set_n (l:Tr α) (m:Nat) (r:Tr α) (i:Nat) (a:α):(n l m r).set i a=if i<=m then n (l.set i a) m r else n l m (r.set i a):=by
 show Bool.rec (motive:=λ_=>Tr α) (n l m (r.set i a)) (n (l.set i a) m r) (Nat.ble i m)=_;cases h:Nat.ble i m with
 |true=>rw [if_pos (Nat.le_of_ble_eq_true h)]
 |false=>rw [if_neg (λe=>by rw [Nat.ble_eq_true_of_le e] at h;cases h)]
theorem Z9:∀(t:Tr α) (i j:Nat) (a:α),(t.set i a).get j=if j=i then some a else t.get j
 |e,i,j,a=>by rw [set_e,Q6y];simp
 |k j' v,i,j,a=>by rw [set_k];by_cases h:i=j';rw [if_pos h,Q6y,Q6y];subst h;by_cases h2:j=i<;>simp [h2];rw [if_neg h];by_cases h2:i<=j';rw [if_pos h2,Q6x,Q6y,Q6y];by_cases h3:j<=i;rw [if_pos h3];by_cases h4:j=i;simp [h4];rw [if_neg h4,if_neg h4,if_neg (by omega)];rw [if_neg h3,if_neg (show ¬j=i by omega)];rw [if_neg h2,Q6x,Q6y,Q6y];by_cases h3:j<=j';rw [if_pos h3,if_neg (show ¬j=i by omega)];rw [if_neg h3,if_neg (show ¬j=j' by omega)]
 |n l m r,i,j,a=>by rw [set_n];by_cases h:i<=m;rw [if_pos h,Q6x,Q6x,Z9 l];by_cases h2:j<=m;rw [if_pos h2,if_pos h2];rw [if_neg h2,if_neg h2,if_neg (by omega)];rw [if_neg h,Q6x,Q6x,Z9 r];by_cases h2:j<=m;rw [if_pos h2,if_pos h2,if_neg (by omega)];rw [if_neg h2,if_neg h2]
@[simp] theorem get_set_same (t:Tr α) (i:Nat) (a:α):(t.set i a).get i=some a:=by rw [Z9,if_pos rfl]
theorem Q0 (t:Tr α) {i j:Nat} (a:α) (h:j≠i):(t.set i a).get j=t.get j:=by rw [Z9,if_neg h]
end Tr
noncomputable def QG {β:Type} (n:Nat) (k:Nat->β):β:=Nat.rec (motive:=λ_=>β) (k 0) (λm _=>k m) (Nat.succ n)
noncomputable def yK {β:Type} (n:Int) (k:Int->β):β:=Int.rec (motive:=λ_=>β) (λm=>QG m λm=>k (.ofNat m)) (λm=>QG m λm=>k (.negSucc m)) n
@[simp] theorem sNat_eq {β:Type} (n:Nat) (k:Nat->β):QG n k=k n:=rfl
@[simp] theorem sInt_eq {β:Type} (n:Int) (k:Int->β):yK n k=k n:=by cases n<;>rfl
namespace Tr
variable {α:Type}
noncomputable def Qmo (h:Nat):Nat->Tr α:=Nat.rec (motive:=λ_=>Nat->Tr α) (λ_=> .e) (λh ih lo=>QG (Nat.add lo (Nat.pow 2 h)) λhi=>QG (Nat.sub hi 1) λm=> .n (ih lo) m (ih hi)) h
noncomputable def sk (n:Nat):Tr α:=QG (Nat.add (Nat.log2 n) 1) λh=>Qmo h 0
@[simp] theorem skel_get:∀(h lo i:Nat),(Qmo h lo:Tr α).get i=none
 |0,_,_=>rfl
 |h+1,lo,i=>by
  show (n (Qmo h lo) _ (Qmo h _):Tr α).get i=none
  rw [Q6x,skel_get,skel_get];simp
@[simp] theorem sk_get (n i:Nat):(sk n:Tr α).get i=none:=by
 show (Qmo (Nat.add (Nat.log2 n) 1) 0:Tr α).get i=none
 exact skel_get _ _ _
end Tr
end Go.Ax
namespace Go.Ax
structure Val where
 int:Nat->Int
 str:Nat->List UInt8
inductive E where
 |lit (n:Int)
 |var (i:Nat)
 |len (i:Nat)
 |byte (i:Nat) (a:E)
 |bin (op:BinOp) (k:IntKind) (a b:E)
 |cnv (k:IntKind) (a:E)
 |pk (n:Nat) (a:E)
 |cons (a t:E)
 |tv (i:Nat) (lo hi t:E)
 |fn (k:Nat) (t:E)
 |mn (a b:E)
def Zp (op:BinOp) (k:IntKind) (x y:Int):Int:=
 match op with
 | .add=>k.wrap (x+y)
 | .sub=>k.wrap (x-y)
 | .mul=>k.wrap (x*y)
 | .quo=>k.wrap (x.tdiv y)
 | .rem=>x.tmod y
 | .and=>k.wrap (BitVec.ofInt k.bits x &&& BitVec.ofInt k.bits y).toNat
 | .or=>k.wrap (BitVec.ofInt k.bits x ||| BitVec.ofInt k.bits y).toNat
 | .xor=>k.wrap (BitVec.ofInt k.bits x ^^^ BitVec.ofInt k.bits y).toNat
 | .andNot=>k.wrap (BitVec.ofInt k.bits x &&& ~~~(BitVec.ofInt k.bits y)).toNat
 | .shl=>k.wrap (x*2^(min y.toNat k.bits))
 | .shr=>x.fdiv (2^(min y.toNat k.bits))
 |_=>0
def Q0z (n:Nat) (x:Int):Int:=if x<0 then (-(x+1)).tmod n else x.tmod n
theorem Qeg {n:Nat} (h:0<n) (x:Int):0<=Q0z n x/\Q0z n x<=((n-1:Nat):Int):=by unfold Q0z;split;rw [Int.tmod_eq_emod_of_nonneg (by omega)];have:=Int.emod_nonneg (-(x+1)) (show (n:Int)≠0 by omega);have:=Int.emod_lt_of_pos (-(x+1)) (show 0<(n:Int) by omega);omega;rw [Int.tmod_eq_emod_of_nonneg (by omega)];have:=Int.emod_nonneg x (show (n:Int)≠0 by omega);have:=Int.emod_lt_of_pos x (show 0<(n:Int) by omega);omega
def YG (l:List UInt8) (n:Int):Int:=l.foldr (λb n=>n*256+(b.toNat:Int)) n
def Q86 (fuel n:Nat):List UInt8:=
 match fuel with
 |0=>[]
 |fuel+1=>if n<=1 then [] else UInt8.ofNat (n%256)::Q86 fuel (n/256)
def ZN (r:Nat):Nat:=if r%2=1 then (r/2) ^^^ 3988292384 else r/2
def Zo (r:Nat) (b:UInt8):Nat:=Nat.repeat ZN 8 (r ^^^ b.toNat)
def Qid (l:List UInt8):Nat:=(l.foldl Zo 4294967295) ^^^ 4294967295
def qw:List UInt8->Nat
 |[]=>0
 |[a]=>a.toNat*256
 |a::b::l=>a.toNat*256+b.toNat+qw l
def qx (fuel n:Nat):Nat:=
 match fuel with
 |0=>n
 |fuel+1=>if 65535<n then qx fuel (n%65536+n/65536) else n
def Qil (l:List UInt8):Nat:=65535-qx (qw l) (qw l)
def j5 (l:List UInt8) (i:Nat):Nat:=(l.getD i 0).toNat
def Qnp (l:List UInt8):Bool:=
 Nat.ble 11 l.length&&(Nat.beq (j5 l 5*256+j5 l 6+11) l.length&&(Nat.ble 1 (j5 l 0*256+j5 l 1)&&(Nat.ble 1 (j5 l 2*256+j5 l 3)&&(Nat.ble (j5 l 2*256+j5 l 3) 65534&&((Nat.beq (j5 l 4) 1||Nat.beq (j5 l 4) 2)&&(Nat.ble l.length 1035&&
  Nat.beq (((j5 l (l.length-4)*256+j5 l (l.length-3))*256+j5 l (l.length-2))*256+j5 l (l.length-1)) (Qid (l.take (l.length-4))%4294967296)))))))
def fnZ (k:Nat) (z:Int):Int:=
 let l:=Q86 z.toNat z.toNat
 match k with
 |0=>((Qid l%4294967296:Nat):Int)
 |2=>if Qnp l then 1 else 0
 |_=>((Qil l%65536:Nat):Int)
theorem Ql5 (k:Nat) (z:Int):0<=fnZ k z/\fnZ k z<=4294967295/\(k≠0->fnZ k z<=65535):=by
 match k with
 |0=>have h:fnZ 0 z=((Qid (Q86 z.toNat z.toNat)%4294967296:Nat):Int):=rfl;rw [h];exact ⟨by omega,by omega,λe=>absurd rfl e⟩
 |1=>have h:fnZ 1 z=((Qil (Q86 z.toNat z.toNat)%65536:Nat):Int):=rfl;rw [h];exact ⟨by omega,by omega,λ_=>by omega⟩
 |2=>
  have h:fnZ 2 z=if Qnp (Q86 z.toNat z.toNat) then 1 else 0:=rfl
  rw [h];split<;>exact ⟨by omega,by omega,λ_=>by omega⟩
 |k+3=>have h:fnZ (k+3) z=((Qil (Q86 z.toNat z.toNat)%65536:Nat):Int):=rfl;rw [h];exact ⟨by omega,by omega,λ_=>by omega⟩
theorem Q78:∀(l:List UInt8) (fuel:Nat),l.length<fuel->Q86 fuel (YG l 1).toNat=l/\1<=YG l 1
 |[],fuel+1,_=>by constructor<;>simp [YG,Q86]
 |b::l,fuel+1,h=>by
  obtain ⟨h1,h2⟩:=Q78 l fuel (by simp only [List.length_cons] at h;omega);have hb:=b.toNat_lt;have e:YG (b::l) 1=YG l 1*256+(b.toNat:Int):=rfl;obtain ⟨m,hm⟩:∃m:Nat,YG l 1=m:=⟨(YG l 1).toNat,by omega⟩;rw [hm] at h1 h2 e;constructor;rw [e];have e2:((m:Int)*256+(b.toNat:Int)).toNat=m*256+b.toNat:=by omega
  rw [e2];unfold Q86;rw [if_neg (by omega)];have e3:(m*256+b.toNat)%256=b.toNat:=by omega
  have e4:(m*256+b.toNat)/256=m:=by omega
  rw [e3,e4];have e5:(m:Int).toNat=m:=by omega
  rw [e5] at h1;rw [h1];simp;omega
theorem Q1q (l m:List UInt8) (n:Int):YG (l++m) n=YG l (YG m n):=by simp [YG]
theorem Q76:∀(l:List UInt8),(l.length:Int)<YG l 1
 |[]=>by simp [YG]
 |b::l=>by have:=Q76 l;have e:YG (b::l) 1=YG l 1*256+(b.toNat:Int):=rfl;rw [e];simp only [List.length_cons];omega
theorem YH (l:List UInt8):Q86 (YG l 1).toNat (YG l 1).toNat=l:=(Q78 l _ (by have:=Q76 l;omega)).1
def E.den (O:Val):E->Int
 | .lit n=>n
 | .var i=>O.int i
 | .len i=>(O.str i).length
 | .byte i a=>((O.str i).getD (a.den O).toNat 0).toNat
 | .bin op k a b=>Zp op k (a.den O) (b.den O)
 | .cnv k a=>k.wrap (a.den O)
 | .pk n a=>Q0z n (a.den O)
 | .cons a t=>t.den O*256+((UInt8.ofNat (a.den O).toNat).toNat:Int)
 | .tv i lo hi t=>YG (((O.str i).drop (lo.den O).toNat).take ((hi.den O).toNat-(lo.den O).toNat)) (t.den O)
 | .fn k t=>fnZ k (t.den O)
 | .mn a b=>min (a.den O) (b.den O)
def E.ok (d:Nat->Prop):E->Prop
 | .lit _=>True
 | .var i=>d i
 | .len i=>d i
 | .byte i a=>d i/\a.ok d
 | .bin _ _ a b=>a.ok d/\b.ok d
 | .cnv _ a=>a.ok d
 | .pk _ a=>a.ok d
 | .cons a t=>a.ok d/\t.ok d
 | .tv i lo hi t=>d i/\lo.ok d/\hi.ok d/\t.ok d
 | .fn _ t=>t.ok d
 | .mn a b=>a.ok d/\b.ok d
theorem E.Ql {d d' :Nat->Prop} (h:∀i,d i->d' i):∀{e:E},e.ok d->e.ok d'
 | .lit _,_=>trivial
 | .var _,k=>h _ k
 | .len _,k=>h _ k
 | .byte _ _,k=>⟨h _ k.1,E.Ql h k.2⟩
 | .bin _ _ _ _,k=>⟨E.Ql h k.1,E.Ql h k.2⟩
 | .cnv _ a,k=>E.Ql (e:=a) h k
 | .pk _ a,k=>E.Ql (e:=a) h k
 | .cons _ _,k=>⟨E.Ql h k.1,E.Ql h k.2⟩
 | .tv _ _ _ _,k=>⟨h _ k.1,E.Ql h k.2.1,E.Ql h k.2.2.1,E.Ql h k.2.2.2⟩
 | .fn _ t,k=>E.Ql (e:=t) h k
 | .mn _ _,k=>⟨E.Ql h k.1,E.Ql h k.2⟩
def Val.agree (d:Nat->Prop) (O O' :Val):Prop:=∀i,d i->O'.int i=O.int i/\O'.str i=O.str i
theorem E.Qc {d:Nat->Prop} {O O' :Val} (h:Val.agree d O O'):∀{e:E},e.ok d->e.den O' =e.den O
 | .lit _,_=>rfl
 | .var i,k=>(h i k).1
 | .len i,k=>by simp only [E.den,(h i k).2]
 | .byte i a,k=>by simp only [E.den,(h i k.1).2,E.Qc h k.2]
 | .bin _ _ a b,k=>by simp only [E.den,E.Qc h k.1,E.Qc h k.2]
 | .cnv _ a,k=>by simp only [E.den,E.Qc (e:=a) h k]
 | .pk _ a,k=>by simp only [E.den,E.Qc (e:=a) h k]
 | .cons _ _,k=>by simp only [E.den,E.Qc h k.1,E.Qc h k.2]
 | .tv i _ _ _,k=>by simp only [E.den,(h i k.1).2,E.Qc h k.2.1,E.Qc h k.2.2.1,E.Qc h k.2.2.2]
 | .fn _ t,k=>by simp only [E.den,E.Qc (e:=t) h k]
 | .mn _ _,k=>by simp only [E.den,E.Qc h k.1,E.Qc h k.2]
noncomputable def E.Q2a (n:Int):E:=yK n .lit
@[simp] theorem E.litS_eq (n:Int):E.Q2a n= .lit n:=sInt_eq n _
def Zl (k:IntKind) (n:Int):Bool:=
 match k,n with
 | .i8, .ofNat m| .i8, .negSucc m=>Nat.ble m 127
 | .i16, .ofNat m| .i16, .negSucc m=>Nat.ble m 32767
 | .i32, .ofNat m| .i32, .negSucc m=>Nat.ble m 2147483647
 | .i64, .ofNat m| .i64, .negSucc m=>Nat.ble m 9223372036854775807
 | .u8, .ofNat m=>Nat.ble m 255
 | .u16, .ofNat m=>Nat.ble m 65535
 | .u32, .ofNat m=>Nat.ble m 4294967295
 | .u64, .ofNat m=>Nat.ble m 18446744073709551615
 |_,_=>false
theorem Q2c {k:IntKind} {n:Int} (h:Zl k n=true):k.wrap n=n:=by cases k;exact IntWalk.i8_in n (by cases n<;>simp only [Zl,Nat.ble_eq] at h<;>simp only [Int.ofNat_eq_natCast,Int.negSucc_eq]<;>omega);exact IntWalk.i16_in n (by cases n<;>simp only [Zl,Nat.ble_eq] at h<;>simp only [Int.ofNat_eq_natCast,Int.negSucc_eq]<;>omega);exact IntWalk.i32_in n (by cases n<;>simp only [Zl,Nat.ble_eq] at h<;>simp only [Int.ofNat_eq_natCast,Int.negSucc_eq]<;>omega);exact IntWalk.i64_in n (by cases n<;>simp only [Zl,Nat.ble_eq] at h<;>simp only [Int.ofNat_eq_natCast,Int.negSucc_eq]<;>omega);exact IntWalk.u8_in n (by cases n<;>simp only [Zl,Nat.ble_eq,Bool.false_eq_true] at h<;>simp only [Int.ofNat_eq_natCast]<;>omega);exact IntWalk.u16_in n (by cases n<;>simp only [Zl,Nat.ble_eq,Bool.false_eq_true] at h<;>simp only [Int.ofNat_eq_natCast]<;>omega);exact IntWalk.u32_in n (by cases n<;>simp only [Zl,Nat.ble_eq,Bool.false_eq_true] at h<;>simp only [Int.ofNat_eq_natCast]<;>omega);exact IntWalk.u64_in n (by cases n<;>simp only [Zl,Nat.ble_eq,Bool.false_eq_true] at h<;>simp only [Int.ofNat_eq_natCast]<;>omega)
noncomputable def Y8 (k:IntKind) (n:Int):Int:=bif Zl k n then n else k.wrap n
@[simp] theorem wrapK_eq (k:IntKind) (n:Int):Y8 k n=k.wrap n:=by unfold Y8;cases h:Zl k n;rfl;rw [Q2c h];rfl
def Yf (op:BinOp) (x y:Int):Bool:=
 match op with
 | .eql=>x==y
 | .neq=>x != y
 | .lss=>decide (x<y)
 | .leq=>decide (x<=y)
 | .gtr=>decide (x>y)
 | .geq=>decide (x>=y)
 |_=>false
def ieq:Int->Int->Bool
 | .ofNat m, .ofNat n=>Nat.beq m n
 | .negSucc m, .negSucc n=>Nat.beq m n
 |_,_=>false
def ilt:Int->Int->Bool
 | .ofNat m, .ofNat n=>Nat.blt m n
 | .negSucc m, .negSucc n=>Nat.blt n m
 | .negSucc _, .ofNat _=>true
 | .ofNat _, .negSucc _=>false
theorem qG (x y:Int):ieq x y=(x==y):=by rw [Bool.eq_iff_iff];cases x<;>cases y<;>simp only [ieq,Nat.beq_eq,Bool.false_eq_true,beq_iff_eq,false_iff,Int.ofNat_eq_natCast,Int.negSucc_eq]<;>omega
theorem JF (x y:Int):ilt x y=decide (x<y):=by rw [Bool.eq_iff_iff];cases x<;>cases y<;>simp only [ilt,Nat.blt_eq,Bool.false_eq_true,decide_eq_true_eq,Int.ofNat_eq_natCast,Int.negSucc_eq,false_iff,true_iff]<;>omega
def Qob (op:BinOp) (x y:Int):Bool:=
 match op with
 | .eql=>ieq x y
 | .neq=>!ieq x y
 | .lss=>ilt x y
 | .leq=>!ilt y x
 | .gtr=>ilt y x
 | .geq=>!ilt x y
 |_=>false
theorem Qfu (op:BinOp) (x y:Int):Qob op x y=Yf op x y:=by cases op<;>simp only [Qob,Yf,qG,JF]<;>rw [Bool.eq_iff_iff]<;>simp
def Q6s:BinOp->Bool
 | .eql| .neq| .lss| .leq| .gtr| .geq=>true
 |_=>false
theorem Qcb {P:Program} {w:World} {op:BinOp} (h:Q6s op=true) (x y:Int):(Op.intCmp op x y).run P w= .ok (.bool (Yf op x y)) w:=by cases op<;>simp [Q6s] at h<;>rfl
def kN:IntKind->Nat
 | .i8=>0| .i16=>1| .i32=>2| .i64=>3| .u8=>4| .u16=>5| .u32=>6| .u64=>7
theorem Q1b {j k:IntKind} (h:Nat.beq (kN j) (kN k)=true):j=k:=by cases j<;>cases k<;>first|rfl|(simp [kN] at h)
structure Fact where
 op:BinOp
 a:E
 b:E
 val:Bool
def Fact.ok (O:Val) (f:Fact):Prop:=Yf f.op (f.a.den O) (f.b.den O)=f.val
abbrev Facts:=List Fact
def Facts.okN (d:Nat->Prop) (O:Val) (c:Facts):Prop:=∀f∈c,f.ok O/\f.a.ok d/\f.b.ok d
def opN:BinOp->Nat
 | .eql=>0| .neq=>1| .lss=>2| .leq=>3| .gtr=>4| .geq=>5
 | .add=>6| .sub=>7| .mul=>8| .quo=>9| .rem=>10| .and=>11| .or=>12| .xor=>13| .shl=>14| .shr=>15| .andNot=>16
theorem Qkf {p q:BinOp} (h:Nat.beq (opN p) (opN q)=true):p=q:=by cases p<;>cases q<;>first|rfl|(simp [opN] at h)
def E.same:E->E->Bool
 | .lit x, .lit y=>ieq x y
 | .var i, .var j=>Nat.beq i j
 | .len i, .len j=>Nat.beq i j
 | .byte i a, .byte j b=>Nat.beq i j&&E.same a b
 | .bin p j a b, .bin q k c d=>Nat.beq (opN p) (opN q)&&Nat.beq (kN j) (kN k)&&E.same a c&&E.same b d
 | .cnv j a, .cnv k b=>Nat.beq (kN j) (kN k)&&E.same a b
 | .pk m a, .pk n b=>Nat.beq m n&&E.same a b
 | .cons a t, .cons b u=>E.same a b&&E.same t u
 | .tv i a b t, .tv j c d u=>Nat.beq i j&&E.same a c&&E.same b d&&E.same t u
 | .fn m t, .fn n u=>Nat.beq m n&&E.same t u
 | .mn a b, .mn c d=>E.same a c&&E.same b d
 |_,_=>false
theorem E.Q5:∀{a b:E},a.same b=true->a=b
 | .lit x,b,h=>by cases b<;>simp only [E.same,Bool.false_eq_true,qG,beq_iff_eq] at h;rw [h]
 | .var x,b,h=>by cases b<;>simp only [E.same,Bool.false_eq_true,Nat.beq_eq] at h;rw [h]
 | .len x,b,h=>by cases b<;>simp only [E.same,Bool.false_eq_true,Nat.beq_eq] at h;rw [h]
 | .byte i a,b,h=>by cases b<;>simp only [E.same,Bool.false_eq_true,Bool.and_eq_true,Nat.beq_eq] at h;rw [h.1,E.Q5 h.2]
 | .bin p j a b,e,h=>by cases e<;>simp only [E.same,Bool.false_eq_true,Bool.and_eq_true] at h;obtain ⟨⟨⟨h1,h2⟩,h3⟩,h4⟩:=h;rw [Qkf h1,Q1b h2,E.Q5 h3,E.Q5 h4]
 | .cnv j a,e,h=>by cases e<;>simp only [E.same,Bool.false_eq_true,Bool.and_eq_true] at h;rw [Q1b h.1,E.Q5 h.2]
 | .pk m a,e,h=>by cases e<;>simp only [E.same,Bool.false_eq_true,Bool.and_eq_true,Nat.beq_eq] at h;rw [h.1,E.Q5 h.2]
 | .cons a t,e,h=>by cases e<;>simp only [E.same,Bool.false_eq_true,Bool.and_eq_true] at h;rw [E.Q5 h.1,E.Q5 h.2]
 | .tv i a b t,e,h=>by cases e<;>simp only [E.same,Bool.false_eq_true,Bool.and_eq_true,Nat.beq_eq] at h;rw [h.1.1.1,E.Q5 h.1.1.2,E.Q5 h.1.2,E.Q5 h.2]
 | .fn m t,e,h=>by cases e<;>simp only [E.same,Bool.false_eq_true,Bool.and_eq_true,Nat.beq_eq] at h;rw [h.1,E.Q5 h.2]
 | .mn a b,e,h=>by cases e<;>simp only [E.same,Bool.false_eq_true,Bool.and_eq_true] at h;rw [E.Q5 h.1,E.Q5 h.2]
def Fact.less (f:Fact):Option (E×E×Bool):=
 match f.op with
 | .lss=>some (f.a,f.b,f.val)
 | .leq=>some (f.b,f.a,!f.val)
 | .gtr=>some (f.b,f.a,f.val)
 | .geq=>some (f.a,f.b,!f.val)
 |_=>none
theorem Fact.Qr {f:Fact} {x y:E} {v:Bool} {O:Val} (h:f.less=some (x,y,v)) (hf:f.ok O):decide (x.den O<y.den O)=v:=by unfold Fact.ok at hf;obtain ⟨op,a,b,val⟩:=f;cases op<;>simp only [Fact.less,Option.some.injEq,Prod.mk.injEq,reduceCtorEq] at h<;>obtain ⟨rfl,rfl,rfl⟩:=h<;>simp only [Yf] at hf<;>rw [<-hf];rw [Bool.eq_iff_iff];simp;rw [Bool.eq_iff_iff];simp
def Fact.equal (f:Fact):Option (E×E×Bool):=
 match f.op with
 | .eql=>some (f.a,f.b,f.val)
 | .neq=>some (f.a,f.b,!f.val)
 |_=>none
theorem Fact.QB {f:Fact} {x y:E} {v:Bool} {O:Val} (h:f.equal=some (x,y,v)) (hf:f.ok O):decide (x.den O=y.den O)=v:=by unfold Fact.ok at hf;obtain ⟨op,a,b,val⟩:=f;cases op<;>simp only [Fact.equal,Option.some.injEq,Prod.mk.injEq,reduceCtorEq] at h<;>obtain ⟨rfl,rfl,rfl⟩:=h<;>simp only [Yf] at hf<;>rw [<-hf]<;>rw [Bool.eq_iff_iff]<;>simp
structure Iv where
 lo:Option Int
 hi:Option Int
def Iv.has (v:Iv) (x:Int):Prop:=(∀l,v.lo=some l->l<=x)/\(∀h,v.hi=some h->x<=h)
abbrev Iv.all:Iv:=⟨none,none⟩
theorem Iv.QJ (x:Int):Iv.all.has x:=⟨λl h=>(by cases h),λl h=>by cases h⟩
def kLo:IntKind->Int
 | .i8=>-128| .i16=>-32768| .i32=>-2147483648| .i64=>-9223372036854775808|_=>0
def kHi:IntKind->Int
 | .i8=>127| .i16=>32767| .i32=>2147483647| .i64=>9223372036854775807| .u8=>255| .u16=>65535| .u32=>4294967295| .u64=>18446744073709551615
def Iv.ofK (k:IntKind):Iv:=⟨some (kLo k),some (kHi k)⟩
theorem ZF (k:IntKind) (n:Int):kLo k<=k.wrap n/\k.wrap n<=kHi k:=by cases k<;>simp only [IntKind.wrap,IntKind.signed,IntKind.bits,kLo,kHi]<;>simp<;>first|omega|(split<;>omega)
theorem wrap_within {k:IntKind} {n:Int} (h1:kLo k<=n) (h2:n<=kHi k):k.wrap n=n:=by cases k<;>simp only [kLo,kHi] at h1 h2;exact IntWalk.i8_in n ⟨h1,h2⟩;exact IntWalk.i16_in n ⟨h1,h2⟩;exact IntWalk.i32_in n ⟨h1,h2⟩;exact IntWalk.i64_in n ⟨h1,h2⟩;exact IntWalk.u8_in n ⟨h1,h2⟩;exact IntWalk.u16_in n ⟨h1,h2⟩;exact IntWalk.u32_in n ⟨h1,h2⟩;exact IntWalk.u64_in n ⟨h1,h2⟩
theorem Iv.Yt (k:IntKind) (n:Int):(Iv.ofK k).has (k.wrap n):=⟨λl h=>by cases h;exact (ZF k n).1,λl h=>by cases h;exact (ZF k n).2⟩
def ile (x y:Int):Bool:=!ilt y x
theorem QU {x y:Int}:ile x y=true↔x<=y:=by unfold ile;rw [JF];simp
theorem Qf2 {x y:Int} (h:ile x y=false):y<x:=by
 have:¬x<=y:=λhle=>by rw [QU.2 hle] at h;cases h
 omega
def Iv.wrap (k:IntKind) (l h:Int):Iv:=bif ile (kLo k) l&&ile h (kHi k) then ⟨some l,some h⟩ else .ofK k
theorem Iv.ZF {k:IntKind} {l h x:Int} (h1:l<=x) (h2:x<=h):(Iv.wrap k l h).has (k.wrap x):=by
 unfold Iv.wrap;cases hb:(ile (kLo k) l&&ile h (kHi k)) with
 |false=>exact Iv.Yt k x
 |true=>simp only [Bool.and_eq_true,QU] at hb;rw [wrap_within (by omega) (by omega)];exact ⟨λl' e=>by cases e;exact h1,λl' e=>by cases e;exact h2⟩
def maxO (a b:Option Int):Option Int:=
 match a,b with
 |some x,some y=>bif ilt x y then some y else some x
 |none,b=>b
 |a,none=>a
def Qnd (a b:Option Int):Option Int:=
 match a,b with
 |some x,some y=>bif ilt x y then some x else some y
 |none,b=>b
 |a,none=>a
def Iv.meet (a b:Iv):Iv:=⟨maxO a.lo b.lo,Qnd a.hi b.hi⟩
theorem Iv.Zu {a b:Iv} {x:Int} (h1:a.has x) (h2:b.has x):(a.meet b).has x:=by
 obtain ⟨al,ah⟩:=a;obtain ⟨bl,bh⟩:=b;refine ⟨λl h=>?_,λl h=>?_⟩;cases al with
 |none=>cases bl with
  |none=>cases h
  |some y=>exact h2.1 _ h
 |some y=>cases bl with
  |none=>exact h1.1 _ h
  |some z=>simp only [Iv.meet,maxO] at h;cases hc:ilt y z<;>rw [hc] at h<;>cases h;exact h1.1 _ rfl;exact h2.1 _ rfl
 cases ah with
 |none=>cases bh with
  |none=>cases h
  |some y=>exact h2.2 _ h
 |some y=>cases bh with
  |none=>exact h1.2 _ h
  |some z=>simp only [Iv.meet,Qnd] at h;cases hc:ilt y z<;>rw [hc] at h<;>cases h;exact h2.2 _ rfl;exact h1.2 _ rfl
def Fact.bound (f:Fact) (e:E):Iv:=
 match f.less with
 |some (x, .lit n,v)=>bif x.same e then (match v with|true=>⟨none,some (n-1)⟩|false=>⟨some n,none⟩) else .all
 |some (.lit n,y,v)=>bif y.same e then (match v with|true=>⟨some (n+1),none⟩|false=>⟨none,some n⟩) else .all
 |_=>match f.equal with
  |some (x, .lit n,true)=>bif x.same e then ⟨some n,some n⟩ else .all
  |_=> .all
theorem Fact.QM {f:Fact} {e:E} {O:Val} (hf:f.ok O):(f.bound e).has (e.den O):=by
 unfold Fact.bound;split;rename_i x n v hl;have h1:decide (x.den O<n)=v:=Fact.Qr hl hf;cases hs:x.same e with
 |false=>exact Iv.QJ _
 |true=>
  have:=E.Q5 hs;subst this;cases v with
  |true=>simp only [decide_eq_true_eq] at h1;exact ⟨λl h=>(by cases h),λl h=>by cases h;omega⟩
  |false=>simp only [decide_eq_false_iff_not] at h1;exact ⟨λl h=>by cases h;omega,λl h=>by cases h⟩
 rename_i n y v _ hl;have h1:decide (n<y.den O)=v:=Fact.Qr hl hf;cases hs:y.same e with
 |false=>exact Iv.QJ _
 |true=>
  have:=E.Q5 hs;subst this;cases v with
  |true=>simp only [decide_eq_true_eq] at h1;exact ⟨λl h=>by cases h;omega,λl h=>by cases h⟩
  |false=>simp only [decide_eq_false_iff_not] at h1;exact ⟨λl h=>(by cases h),λl h=>by cases h;omega⟩
 split;rename_i x n he;have h1:decide (x.den O=n)=true:=Fact.QB he hf;cases hs:x.same e with
 |false=>exact Iv.QJ _
 |true=>have:=E.Q5 hs;subst this;simp only [decide_eq_true_eq] at h1;exact ⟨λl h=>by cases h;omega,λl h=>by cases h;omega⟩
 exact Iv.QJ _
def Facts.bound (e:E):Facts->Iv
 |[]=> .all
 |f::c=>(f.bound e).meet (Facts.bound e c)
theorem Facts.QM {n:Nat->Prop} {e:E} {O:Val}:∀{c:Facts},c.okN n O->(Facts.bound e c).has (e.den O)
 |[],_=>Iv.QJ _
 |f::c,h=>Iv.Zu (Fact.QM (h f (by simp)).1) (Facts.QM (λg hg=>h g (by simp [hg])))
def Qlj (op:BinOp) (k:IntKind) (A B:Iv):Iv:=
 match op with
 | .add=>match A.lo,A.hi,B.lo,B.hi with
  |some la,some ha,some lb,some hb=> .wrap k (la+lb) (ha+hb)
  |_,_,_,_=> .ofK k
 | .sub=>match A.lo,A.hi,B.lo,B.hi with
  |some la,some ha,some lb,some hb=> .wrap k (la-hb) (ha-lb)
  |_,_,_,_=> .ofK k
 | .mul=>match A.lo,A.hi,B.lo,B.hi with
  |some (.ofNat la),some (.ofNat ha),some (.ofNat lb),some (.ofNat hb)=> .wrap k (.ofNat (la*lb)) (.ofNat (ha*hb))
  |some la,some ha,some lb,some hb=>bif ieq lb hb then (bif ile 0 lb then .wrap k (la*lb) (ha*lb) else .wrap k (ha*lb) (la*lb)) else .ofK k
  |_,_,_,_=> .ofK k
 | .quo=>match A.lo,A.hi,B.lo,B.hi with
  |some (.ofNat la),some (.ofNat ha),some (.ofNat lb),some (.ofNat hb)=>bif Nat.beq lb hb&&Nat.blt 0 lb then .wrap k (.ofNat (la/lb)) (.ofNat (ha/lb)) else .ofK k
  |_,_,_,_=> .ofK k
 | .rem=>match A.lo,B.lo,B.hi with
  |some (.ofNat _),some (.ofNat lb),some (.ofNat hb)=>bif Nat.blt 0 lb then ⟨some 0,some (.ofNat (hb-1))⟩ else .all
  |_,_,_=> .all
 | .andNot=>match A.lo,A.hi,B.lo,B.hi with
  |some (.ofNat la),some (.ofNat ha),some (.ofNat lb),some (.ofNat hb)=>
   bif Nat.beq lb hb&&(Nat.beq (Nat.pow 2 (Nat.log2 (Nat.add lb 1))) (Nat.add lb 1)&&(Nat.ble lb 9223372036854775807&&(Nat.ble ha 9223372036854775807&&Nat.beq (kN k) 3))) then
    ⟨some (.ofNat (Nat.sub la (Nat.mod la (Nat.add lb 1)))),some (.ofNat (Nat.sub ha (Nat.mod ha (Nat.add lb 1))))⟩ else .ofK k
  |_,_,_,_=> .ofK k
 | .and| .or| .xor| .shl=> .ofK k
 | .shr=>match A.lo,A.hi,B.lo,B.hi with
  |some (.ofNat la),some (.ofNat ha),some (.ofNat lb),some (.ofNat hb)=>bif Nat.beq lb hb&&Nat.ble lb k.bits then ⟨some (.ofNat (la/2^lb)),some (.ofNat (ha/2^lb))⟩ else .all
  |_,_,_,_=> .all
 |_=> .all
theorem Qd5 {m t:Nat} (hm:m<2^64) (ht:t<=63):(BitVec.ofInt 64 (m:Int) &&& ~~~(BitVec.ofInt 64 ((2^t-1:Nat):Int))).toNat=m-m%2^t:=by
 have h2:2^t<=2^63:=Nat.pow_le_pow_right (by omega) ht;have h3:0<2^t:=Nat.two_pow_pos t;have ex:BitVec.ofInt 64 (m:Int)=BitVec.ofNat 64 m:=by simp
 have ey:BitVec.ofInt 64 ((2^t-1:Nat):Int)=BitVec.ofNat 64 (2^t-1):=by rw [BitVec.ofInt_natCast]
 rw [ex,ey,BitVec.toNat_and,BitVec.toNat_not,BitVec.toNat_ofNat,BitVec.toNat_ofNat,Nat.mod_eq_of_lt hm,Nat.mod_eq_of_lt (by omega)];have e:m-m%2^t=2^t*(m/2^t):=by have:=Nat.div_add_mod m (2^t);omega
 rw [e];apply Nat.eq_of_testBit_eq;intro i;rw [show 2^64-1-(2^t-1)=2^64-((2^t-1)+1) from by omega];rw [Nat.testBit_and,Nat.testBit_two_pow_sub_succ (by omega),Nat.testBit_two_pow_sub_one,Nat.testBit_two_pow_mul,Nat.testBit_div_two_pow];by_cases hi:i<t;simp [hi,Nat.not_le.2 hi];have hge:t<=i:=by omega
 by_cases h64:i<64;simp [hi,hge,h64,Nat.sub_add_cancel hge];have:m.testBit i=false:=Nat.testBit_lt_two_pow (Nat.lt_of_lt_of_le hm (Nat.pow_le_pow_right (by omega) (by omega)));simp [hge,this,Nat.sub_add_cancel hge]
theorem Qg6 {op:BinOp} {k:IntKind} {A B:Iv} {x y:Int} (h1:A.has x) (h2:B.has y):(Qlj op k A B).has (Zp op k x y):=by
 obtain ⟨la,ha⟩:=A;obtain ⟨lb,hb⟩:=B;cases op<;>simp only [Qlj,Zp]
 case add=>split;exact Iv.ZF (by have:=h1.1 _ rfl;have:=h2.1 _ rfl;omega) (by have:=h1.2 _ rfl;have:=h2.2 _ rfl;omega);exact Iv.Yt _ _
 case sub=>split;exact Iv.ZF (by have:=h1.1 _ rfl;have:=h2.2 _ rfl;omega) (by have:=h1.2 _ rfl;have:=h2.1 _ rfl;omega);exact Iv.Yt _ _
 case mul=>
  split;rename_i la' ha' lb' hb';have g1:=h1.1 _ rfl;have g2:=h1.2 _ rfl;have g3:=h2.1 _ rfl;have g4:=h2.2 _ rfl;obtain ⟨m,rfl⟩:∃m:Nat,x=m:=⟨x.toNat,by simp only [Int.ofNat_eq_natCast] at g1;omega⟩;obtain ⟨n,rfl⟩:∃n:Nat,y=n:=⟨y.toNat,by simp only [Int.ofNat_eq_natCast] at g3;omega⟩;simp only [Int.ofNat_eq_natCast,Int.ofNat_le] at g1 g2 g3 g4;refine Iv.ZF ?_ ?_;have:=Nat.mul_le_mul g1 g3;simp only [Int.ofNat_eq_natCast];exact_mod_cast this;have:=Nat.mul_le_mul g2 g4;simp only [Int.ofNat_eq_natCast];exact_mod_cast this;rename_i la' ha' lb' hb' _;have g1:=h1.1 _ rfl;have g2:=h1.2 _ rfl;have g3:=h2.1 _ rfl;have g4:=h2.2 _ rfl;cases hq:ieq lb' hb' with
  |false=>exact Iv.Yt _ _
  |true=>
   rw [qG] at hq;have hq:lb' =hb' :=by simpa using hq
   have hy:y=lb' :=by omega
   subst hy;simp only [cond_true];cases hs:ile 0 y with
   |true=>have hs:0<=y:=QU.1 hs;exact Iv.ZF (Int.mul_le_mul_of_nonneg_right g1 hs) (Int.mul_le_mul_of_nonneg_right g2 hs)
   |false=>
    have hs:y<=0:=by have:=Qf2 hs;omega
    exact Iv.ZF (Int.mul_le_mul_of_nonpos_right g2 hs) (Int.mul_le_mul_of_nonpos_right g1 hs)
  exact Iv.Yt _ _
 case quo=>
  split;rename_i la' ha' lb' hb';have g1:=h1.1 _ rfl;have g2:=h1.2 _ rfl;have g3:=h2.1 _ rfl;have g4:=h2.2 _ rfl;cases hc:(Nat.beq lb' hb' &&Nat.blt 0 lb') with
  |false=>exact Iv.Yt _ _
  |true=>
   simp only [Bool.and_eq_true,Nat.beq_eq,Nat.blt_eq] at hc;obtain ⟨m,rfl⟩:∃m:Nat,x=m:=⟨x.toNat,by simp only [Int.ofNat_eq_natCast] at g1;omega⟩;have hy:y=lb' :=by simp only [Int.ofNat_eq_natCast] at g3 g4;omega
   subst hy;simp only [Int.ofNat_eq_natCast,Int.ofNat_le] at g1 g2;refine Iv.ZF ?_ ?_;show ((la' /lb' :Nat):Int)<=((m/lb' :Nat):Int)
   exact_mod_cast Nat.div_le_div_right g1
   show ((m/lb' :Nat):Int)<=((ha' /lb' :Nat):Int)
   exact_mod_cast Nat.div_le_div_right g2
  exact Iv.Yt _ _
 case rem=>
  split;rename_i la' lb' hb';have g1:=h1.1 _ rfl;have g3:=h2.1 _ rfl;have g4:=h2.2 _ rfl;cases hc:Nat.blt 0 lb' with
  |false=>exact Iv.QJ _
  |true=>simp only [Nat.blt_eq] at hc;obtain ⟨m,rfl⟩:∃m:Nat,x=m:=⟨x.toNat,by simp only [Int.ofNat_eq_natCast] at g1;omega⟩;obtain ⟨n,rfl⟩:∃n:Nat,y=n:=⟨y.toNat,by simp only [Int.ofNat_eq_natCast] at g3;omega⟩;simp only [Int.ofNat_eq_natCast,Int.ofNat_le] at g3 g4;have hlt:m%n<n:=Nat.mod_lt _ (by omega);refine ⟨λl h=>?_,λl h=>?_⟩;cases h;show (0:Int)<=((m%n:Nat):Int);omega;cases h;show ((m%n:Nat):Int)<=((hb' -1:Nat):Int);omega
  exact Iv.QJ _
 case andNot=>
  split;rename_i la' ha' lb' hb';have g1:=h1.1 _ rfl;have g2:=h1.2 _ rfl;have g3:=h2.1 _ rfl;have g4:=h2.2 _ rfl;cases hc:(Nat.beq lb' hb' &&(Nat.beq (Nat.pow 2 (Nat.log2 (Nat.add lb' 1))) (Nat.add lb' 1)&&(Nat.ble lb' 9223372036854775807&&(Nat.ble ha' 9223372036854775807&&Nat.beq (kN k) 3)))) with
  |false=>exact Iv.Yt _ _
  |true=>
   simp only [Bool.and_eq_true,Nat.beq_eq,Nat.ble_eq] at hc;obtain ⟨c1,c2,c3,c4,c5⟩:=hc;obtain rfl:k= .i64:=by cases k<;>simp [kN] at c5<;>rfl
   obtain ⟨m,rfl⟩:∃m:Nat,x=m:=⟨x.toNat,by simp only [Int.ofNat_eq_natCast] at g1;omega⟩;have hy:y=lb' :=by simp only [Int.ofNat_eq_natCast] at g3 g4;omega
   subst hy;simp only [Int.ofNat_eq_natCast,Int.ofNat_le] at g1 g2;obtain ⟨t,ht⟩:∃t,t=Nat.log2 (Nat.add lb' 1):=⟨_,rfl⟩;rw [<-ht] at c2;have c2' :2^t=lb' +1:=c2;have ht63:t<=63:=by rcases Nat.lt_or_ge 63 t with h|h;have:2^64<=2^t:=Nat.pow_le_pow_right (by omega) h;omega;exact h
   have hv:=Qd5 (m:=m) (t:=t) (by omega) ht63;have e3:((2^t-1:Nat):Int)=(lb' :Int):=by rw [c2'];simp
   rw [e3] at hv;have hb:IntKind.i64.bits=64:=rfl;rw [hb,hv,c2'];have hw:IntKind.i64.wrap ((m-m%(lb' +1):Nat):Int)=((m-m%(lb' +1):Nat):Int):=wrap_within (by simp only [kLo];omega) (by simp only [kHi];omega);rw [hw];have mono:∀a b:Nat,a<=b->a-a%(lb' +1)<=b-b%(lb' +1):=λa b hab=>by have e1:=Nat.div_add_mod a (lb' +1);have e2:=Nat.div_add_mod b (lb' +1);have:=Nat.mul_le_mul_left (lb' +1) (Nat.div_le_div_right (c:=lb' +1) hab);omega
   refine ⟨λl h=>?_,λl h=>?_⟩;cases h;exact Int.ofNat_le.2 (mono _ _ g1);cases h;exact Int.ofNat_le.2 (mono _ _ g2)
  exact Iv.Yt _ _
 case shr=>
  split;rename_i la' ha' lb' hb';have g1:=h1.1 _ rfl;have g2:=h1.2 _ rfl;have g3:=h2.1 _ rfl;have g4:=h2.2 _ rfl;cases hc:(Nat.beq lb' hb' &&Nat.ble lb' k.bits) with
  |false=>exact Iv.QJ _
  |true=>
   simp only [Bool.and_eq_true,Nat.beq_eq,Nat.ble_eq] at hc;obtain ⟨m,rfl⟩:∃m:Nat,x=m:=⟨x.toNat,by simp only [Int.ofNat_eq_natCast] at g1;omega⟩;have hy:y=lb' :=by simp only [Int.ofNat_eq_natCast] at g3 g4;omega
   subst hy;simp only [Int.ofNat_eq_natCast,Int.ofNat_le] at g1 g2;have e:min ((lb' :Int).toNat) k.bits=lb' :=by simp;omega
   rw [e];have e2:((m:Nat):Int).fdiv (2^lb')=((m/2^lb' :Nat):Int):=by rw [Int.fdiv_eq_ediv_of_nonneg _ (by exact_mod_cast Nat.zero_le (2^lb'))];rw [Int.natCast_ediv];simp
   rw [e2];refine ⟨λl h=>?_,λl h=>?_⟩;cases h;show ((la' /2^lb' :Nat):Int)<=((m/2^lb' :Nat):Int)
   exact_mod_cast Nat.div_le_div_right g1
   cases h;show ((m/2^lb' :Nat):Int)<=((ha' /2^lb' :Nat):Int)
   exact_mod_cast Nat.div_le_div_right g2
  exact Iv.QJ _
 all_goals first
  |exact Iv.Yt _ _
  |exact Iv.QJ _
def minB (a b:Option Int):Option Int:=
 match a,b with
 |some x,some y=>bif ilt x y then some x else some y
 |_,_=>none
theorem Qkn {a b:Option Int} {l x y:Int} (h:minB a b=some l) (h1:∀l,a=some l->l<=x) (h2:∀l,b=some l->l<=y):l<=min x y:=by
 unfold minB at h;split at h;rename_i p q;have g1:=h1 _ rfl;have g2:=h2 _ rfl;rw [JF] at h;cases hb:decide (p<q) with
 |true=>rw [hb] at h;cases h;simp only [decide_eq_true_eq] at hb;omega
 |false=>rw [hb] at h;cases h;simp only [decide_eq_false_iff_not] at hb;omega
 cases h
theorem Qkm {a b:Option Int} {u x y:Int} (h:Qnd a b=some u) (h1:∀u,a=some u->x<=u) (h2:∀u,b=some u->y<=u):min x y<=u:=by
 unfold Qnd at h;split at h;rename_i p q;have g1:=h1 _ rfl;have g2:=h2 _ rfl;cases hb:ilt p q with
 |true=>rw [hb] at h;cases h;omega
 |false=>rw [hb] at h;cases h;omega
 have:=h2 _ h;omega;have:=h1 _ h;omega
def E.iv (c:Facts):E->Iv
 | .lit n=>⟨some n,some n⟩
 | .var i=>Facts.bound (.var i) c
 | .len i=>Iv.meet ⟨some 0,none⟩ (Facts.bound (.len i) c)
 | .byte i a=>Iv.meet ⟨some 0,some 255⟩ (Facts.bound (.byte i a) c)
 | .bin op k a b=>(Qlj op k (E.iv c a) (E.iv c b)).meet (Facts.bound (.bin op k a b) c)
 | .cnv k a=>(match (E.iv c a).lo,(E.iv c a).hi with
  |some l,some h=>Iv.wrap k l h
  |_,_=> .ofK k).meet (Facts.bound (.cnv k a) c)
 | .pk n a=>(bif Nat.blt 0 n then ⟨some 0,some (.ofNat (n-1))⟩ else .all:Iv).meet (Facts.bound (.pk n a) c)
 | .cons _ _=> .all
 | .tv _ _ _ _=> .all
 | .fn k _=>⟨some 0,some (bif Nat.beq k 0 then 4294967295 else 65535)⟩
 | .mn a b=>(⟨minB (E.iv c a).lo (E.iv c b).lo,Qnd (E.iv c a).hi (E.iv c b).hi⟩:Iv).meet (Facts.bound (.mn a b) c)
theorem E.Qd {n:Nat->Prop} {c:Facts} {O:Val} (hc:c.okN n O):∀e:E,(e.iv c).has (e.den O)
 | .lit n=>⟨λl h=>by cases h;exact Int.le_refl _,λl h=>by cases h;exact Int.le_refl _⟩
 | .var i=>Facts.QM hc
 | .len i=>Iv.Zu ⟨λl h=>by cases h;simp only [E.den];omega,λl h=>by cases h⟩ (Facts.QM hc)
 | .byte i a=>by
  refine Iv.Zu ⟨λl h=>?_,λl h=>?_⟩ (Facts.QM hc);cases h;simp only [E.den];omega;cases h;simp only [E.den];have:=((O.str i).getD (a.den O).toNat 0).toNat_lt
  omega
 | .bin op k a b=>Iv.Zu (Qg6 (E.Qd hc a) (E.Qd hc b)) (Facts.QM hc)
 | .cnv k a=>by refine Iv.Zu ?_ (Facts.QM hc);have h:=E.Qd hc a;split;rename_i l hh e1 e2;exact Iv.ZF (h.1 _ e1) (h.2 _ e2);exact Iv.Yt _ _
 | .pk m a=>by
  refine Iv.Zu ?_ (Facts.QM hc);cases hb:Nat.blt 0 m with
  |false=>exact Iv.QJ _
  |true=>have:=Qeg (n:=m) (by simpa using hb) (a.den O);exact ⟨λl h=>by cases h;exact this.1,λl h=>by cases h;exact this.2⟩
 | .cons _ _=>Iv.QJ _
 | .tv _ _ _ _=>Iv.QJ _
 | .fn k t=>by
  have h:=Ql5 k (t.den O);refine ⟨λl e=>by cases e;exact h.1,λl e=>?_⟩;simp only [E.iv,Option.some.injEq] at e;subst e;cases hk:Nat.beq k 0 with
  |true=>exact h.2.1
  |false=>exact h.2.2 (λe0=>by rw [e0] at hk;cases hk)
 | .mn a b=>Iv.Zu ⟨λ_ e=>Qkn e (E.Qd hc a).1 (E.Qd hc b).1,λ_ e=>Qkm e (E.Qd hc a).2 (E.Qd hc b).2⟩ (Facts.QM hc)
def Facts.Jh (a b:E):Facts->Option Bool
 |[]=>none
 |f::c=>match f.less with
  |some (x,y,v)=>bif x.same a&&y.same b then some v else bif v&&x.same b&&y.same a then some false else Facts.Jh a b c
  |none=>match f.equal with
   |some (x,y,true)=>bif x.same a&&y.same b||x.same b&&y.same a then some false else Facts.Jh a b c
   |_=>Facts.Jh a b c
theorem Facts.qI {n:Nat->Prop} {a b:E} {r:Bool} {O:Val}:∀{c:Facts},Facts.Jh a b c=some r->c.okN n O->decide (a.den O<b.den O)=r
 |[],h,_=>by cases h
 |f::c,h,hc=>by
  have hf:=(hc f (by simp)).1
  have ih:=λ(h:Facts.Jh a b c=some r)=>Facts.qI h (λg hg=>hc g (by simp [hg]))
  simp only [Facts.Jh] at h;split at h;rename_i x y v hl;have h1:=Fact.Qr hl hf;cases hs:(x.same a&&y.same b) with
  |true=>rw [hs] at h;cases h;simp only [Bool.and_eq_true] at hs;rw [<-E.Q5 hs.1,<-E.Q5 hs.2];exact h1
  |false=>
   rw [hs] at h;simp only [cond_false] at h;cases hs2:(v&&x.same b&&y.same a) with
   |true=>rw [hs2] at h;cases h;simp only [Bool.and_eq_true] at hs2;rw [hs2.1.1,E.Q5 hs2.1.2,E.Q5 hs2.2] at h1;simp only [decide_eq_true_eq] at h1;simp only [decide_eq_false_iff_not];omega
   |false=>rw [hs2] at h;exact ih h
  split at h;rename_i x y he;have h1:=Fact.QB he hf;simp only [decide_eq_true_eq] at h1;cases hs:(x.same a&&y.same b||x.same b&&y.same a) with
  |true=>rw [hs] at h;cases h;simp only [Bool.or_eq_true,Bool.and_eq_true] at hs;simp only [decide_eq_false_iff_not];rcases hs with hs|hs;rw [<-E.Q5 hs.1,<-E.Q5 hs.2];omega;rw [<-E.Q5 hs.1,<-E.Q5 hs.2];omega
  |false=>rw [hs] at h;exact ih h
  exact ih h
def Facts.Y7 (a b:E):Facts->Option Bool
 |[]=>none
 |f::c=>match f.equal with
  |some (x,y,v)=>bif x.same a&&y.same b||x.same b&&y.same a then some v else Facts.Y7 a b c
  |none=>match f.less with
   |some (x,y,true)=>bif x.same a&&y.same b||x.same b&&y.same a then some false else Facts.Y7 a b c
   |_=>Facts.Y7 a b c
theorem Facts.Yx {n:Nat->Prop} {a b:E} {r:Bool} {O:Val}:∀{c:Facts},Facts.Y7 a b c=some r->c.okN n O->decide (a.den O=b.den O)=r
 |[],h,_=>by cases h
 |f::c,h,hc=>by
  have hf:=(hc f (by simp)).1
  have ih:=λ(h:Facts.Y7 a b c=some r)=>Facts.Yx h (λg hg=>hc g (by simp [hg]))
  simp only [Facts.Y7] at h;split at h;rename_i x y v hl;have h1:=Fact.QB hl hf;cases hs:(x.same a&&y.same b||x.same b&&y.same a) with
  |true=>rw [hs] at h;cases h;simp only [Bool.or_eq_true,Bool.and_eq_true] at hs;rcases hs with hs|hs;rw [<-E.Q5 hs.1,<-E.Q5 hs.2];exact h1;rw [<-E.Q5 hs.1,<-E.Q5 hs.2,<-h1,Bool.eq_iff_iff];simp only [decide_eq_true_eq];exact eq_comm
  |false=>rw [hs] at h;exact ih h
  split at h;rename_i x y he;have h1:=Fact.Qr he hf;simp only [decide_eq_true_eq] at h1;cases hs:(x.same a&&y.same b||x.same b&&y.same a) with
  |true=>rw [hs] at h;cases h;simp only [Bool.or_eq_true,Bool.and_eq_true] at hs;simp only [decide_eq_false_iff_not];rcases hs with hs|hs;rw [<-E.Q5 hs.1,<-E.Q5 hs.2];omega;rw [<-E.Q5 hs.1,<-E.Q5 hs.2];omega
  |false=>rw [hs] at h;exact ih h
  exact ih h
def Iv.less (A B:Iv):Option Bool:=
 bif (match A.hi,B.lo with|some h,some l=>ilt h l|_,_=>false) then some true else
 bif (match A.lo,B.hi with|some l,some h=>ile h l|_,_=>false) then some false else none
theorem Iv.Qr {A B:Iv} {x y:Int} {r:Bool} (h:A.less B=some r) (h1:A.has x) (h2:B.has y):decide (x<y)=r:=by
 unfold Iv.less at h;cases ha:(match A.hi,B.lo with|some h,some l=>ilt h l|_,_=>false) with
 |true=>rw [ha] at h;cases h;split at ha;rename_i hh l e1 e2;rw [JF] at ha;simp only [decide_eq_true_eq] at ha ⊢;have:=h1.2 _ e1;have:=h2.1 _ e2;omega;cases ha
 |false=>
  rw [ha] at h;simp only [cond_false] at h;cases hb:(match A.lo,B.hi with|some l,some h=>ile h l|_,_=>false) with
  |true=>rw [hb] at h;cases h;split at hb;rename_i l hh e1 e2;rw [QU] at hb;simp only [decide_eq_false_iff_not];have:=h1.1 _ e1;have:=h2.2 _ e2;omega;cases hb
  |false=>rw [hb] at h;cases h
def Iv.equal (A B:Iv):Option Bool:=
 match A.less B,B.less A with
 |some true,_=>some false
 |_,some true=>some false
 |some false,some false=>some true
 |_,_=>none
theorem Iv.QB {A B:Iv} {x y:Int} {r:Bool} (h:A.equal B=some r) (h1:A.has x) (h2:B.has y):decide (x=y)=r:=by unfold Iv.equal at h;split at h;rename_i e;cases h;have:=Iv.Qr e h1 h2;simp only [decide_eq_true_eq] at this;simp only [decide_eq_false_iff_not];omega;rename_i e _;cases h;have:=Iv.Qr e h2 h1;simp only [decide_eq_true_eq] at this;simp only [decide_eq_false_iff_not];omega;rename_i e1 e2;cases h;have g1:=Iv.Qr e1 h1 h2;have g2:=Iv.Qr e2 h2 h1;simp only [decide_eq_false_iff_not] at g1 g2;simp only [decide_eq_true_eq];omega;cases h
theorem Q6 (n:Int):IntKind.i64.wrap n=(n+9223372036854775808)%18446744073709551616-9223372036854775808:=by simp [IntKind.wrap,IntKind.bits,IntKind.signed];split<;>omega
def Iv.fits (A:Iv) (p:Int):Bool:=
 match A.lo,A.hi with
 |some l,some h=>ile (-9223372036854775808) (l+p)&&ile (h+p) 9223372036854775807
 |_,_=>false
theorem Iv.ZT {A:Iv} {p x:Int} (h:A.fits p=true) (hx:A.has x):IntKind.i64.wrap (x+p)=x+p:=by unfold Iv.fits at h;split at h;rename_i l hh e1 e2;simp only [Bool.and_eq_true,QU] at h;have:=hx.1 _ e1;have:=hx.2 _ e2;rw [Q6];omega;cases h
def E.key:E->Nat
 | .var i=>Nat.mul 4 i
 | .len i=>Nat.add (Nat.mul 4 i) 1
 | .pk _ (.var i)=>Nat.add (Nat.mul 4 i) 2
 |_=>1000000000
noncomputable def yw (c:Int) (x:E):List (Int×E)->List (Int×E)
 |[]=>[(c,x)]
 |(d,y)::r=>bif x.same y then yK (c+d) λn=>bif ieq n 0 then r else (n,y)::r
  else bif Nat.blt x.key y.key then (c,x)::(d,y)::r else (d,y)::yw c x r
noncomputable def jF (s:Int) (e:E) (l:List (Int×E)):List (Int×E):=
 match e with
 | .lit _=>l
 | .bin .add .i64 a b=>jF s b (jF s a l)
 | .bin .sub .i64 a b=>yK (-s) λt=>jF t b (jF s a l)
 | .bin .mul .i64 a (.lit n)=>yK (s*n) λt=>jF t a l
 | .bin .mul .i64 (.lit n) a=>yK (s*n) λt=>jF t a l
 |e=>yw s e l
noncomputable def JE (s:Int) (e:E) (p:Int):Int:=
 match e with
 | .lit n=>yK (p+s*n) λt=>t
 | .bin .add .i64 a b=>JE s b (JE s a p)
 | .bin .sub .i64 a b=>yK (-s) λt=>JE t b (JE s a p)
 | .bin .mul .i64 a (.lit n)=>yK (s*n) λt=>JE t a p
 | .bin .mul .i64 (.lit n) a=>yK (s*n) λt=>JE t a p
 |_=>p
noncomputable def Qda:List (Int×E)->E->E
 |[],e=>e
 |(c,x)::r,e=>bif ieq c 1 then Qda r (.bin .add .i64 e x) else bif ieq c (-1) then Qda r (.bin .sub .i64 e x) else Qda r (.bin .add .i64 e (.bin .mul .i64 x (.lit c)))
noncomputable def Qhx (l:List (Int×E)) (p:Int):E:=
 match l with
 |[]=> .Q2a (Y8 .i64 p)
 |(c,x)::r=>bif ieq c 1 then yK (Y8 .i64 p) λq=>match r with
  |[]=> .bin .add .i64 x (.lit q)
  |y::r=>bif ieq q 0 then Qda (y::r) x else .bin .add .i64 (Qda (y::r) x) (.lit q)
  else yK (Y8 .i64 p) λq=>Qda ((c,x)::r) (.lit q)
noncomputable def linT (l:List (Int×E)):E:=
 match l with
 |[(c,x)]=>bif ieq c 1 then x else Qhx [(c,x)] 0
 |l=>Qhx l 0
noncomputable def E.Qm7 (a b:E):E:=Qhx (jF 1 b (jF 1 a [])) (JE 1 b (JE 1 a 0))
noncomputable def E.Qlt (a b:E):E:=Qhx (jF (-1) b (jF 1 a [])) (JE (-1) b (JE 1 a 0))
def yx (O:Val):List (Int×E)->Int
 |[]=>0
 |(c,x)::r=>c*x.den O+yx O r
def Q2e (n:Nat->Prop) (l:List (Int×E)):Prop:=∀q∈l,q.2.ok n
theorem YR (n:Int):∃k:Int,IntKind.i64.wrap n=n+k*18446744073709551616:=⟨-((n+9223372036854775808)/18446744073709551616),by rw [Q6];omega⟩
theorem jW (n k:Int):IntKind.i64.wrap (n+k*18446744073709551616)=IntKind.i64.wrap n:=by rw [Q6,Q6];omega
theorem jm (a b:Int):IntKind.i64.wrap (IntKind.i64.wrap a+b)=IntKind.i64.wrap (a+b):=by rw [Q6,Q6,Q6];omega
theorem J8 (a b:Int):IntKind.i64.wrap (a+IntKind.i64.wrap b)=IntKind.i64.wrap (a+b):=by rw [Q6,Q6,Q6];omega
theorem Q6t {x y:Int} (h:ieq x y=true):x=y:=by rw [qG] at h;simpa using h
theorem jG (O:Val) (c:Int) (x:E):∀l,yx O (yw c x l)=c*x.den O+yx O l
 |[]=>rfl
 |(d,y)::r=>by
  unfold yw;cases h:x.same y with
  |true=>
   have:=E.Q5 h;subst this;simp only [cond_true,sInt_eq];cases h0:ieq (c+d) 0 with
   |true=>have h0' :=Q6t h0;simp only [cond_true,yx];rw [<-Int.add_assoc,<-Int.add_mul,h0',Int.zero_mul,Int.zero_add]
   |false=>simp only [cond_false,yx];rw [Int.add_mul,Int.add_assoc]
  |false=>
   simp only [cond_false];cases Nat.blt x.key y.key with
   |true=>rfl
   |false=>simp only [cond_false,yx,jG O c x r];omega
theorem Q16 {n:Nat->Prop} {c:Int} {x:E} (hx:x.ok n):∀{l},Q2e n l->Q2e n (yw c x l)
 |[],_=>λq hq=>by simp only [yw,List.mem_singleton] at hq;subst hq;exact hx
 |(d,y)::r,h=>by
  have hy:y.ok n:=h (d,y) (by simp);have hr:Q2e n r:=λq hq=>h q (by simp [hq])
  unfold yw;cases x.same y with
  |true=>
   simp only [cond_true,sInt_eq];cases ieq (c+d) 0 with
   |true=>exact hr
   |false=>intro q hq;rcases List.mem_cons.1 hq with rfl|hq
           exact hy;exact hr q hq
  |false=>
   simp only [cond_false];cases Nat.blt x.key y.key with
   |true=>intro q hq;rcases List.mem_cons.1 hq with rfl|hq
          exact hx;exact h q hq
   |false=>intro q hq;rcases List.mem_cons.1 hq with rfl|hq
           exact hy;exact Q16 hx hr q hq
theorem Qeq (O:Val) (e:E) (s:Int) (l:List (Int×E)) (p:Int):∃k:Int,yx O (jF s e l)+JE s e p=yx O l+p+s*e.den O+k*18446744073709551616:=by
 induction e generalizing s l p with
 |lit n=>
  refine ⟨0,?_⟩;have:JE s (.lit n) p=p+s*n:=by show yK (p+s*n) _=_;rw [sInt_eq]
  show yx O l+JE s (.lit n) p=_;rw [this];simp only [E.den];omega
 |bin op k a b iha ihb=>
  unfold jF;split;rename_i he;cases he;rename_i a' b' he;cases he;obtain ⟨k1,h1⟩:=iha s l p;obtain ⟨k2,h2⟩:=ihb s (jF s a l) (JE s a p);obtain ⟨k3,h3⟩:=YR (a.den O+b.den O);refine ⟨k1+k2-s*k3,?_⟩;show yx O (jF s b (jF s a l))+JE s b (JE s a p)=_;rw [h2];simp only [E.den,Zp,h3,Int.mul_add,Int.sub_mul,Int.add_mul];rw [<-Int.mul_assoc s k3];omega;rename_i a' b' he;cases he;obtain ⟨k1,h1⟩:=iha s l p;obtain ⟨k2,h2⟩:=ihb (-s) (jF s a l) (JE s a p);obtain ⟨k3,h3⟩:=YR (a.den O-b.den O);refine ⟨k1+k2-s*k3,?_⟩;have e2:JE s (.bin .sub .i64 a b) p=JE (-s) b (JE s a p):=by show yK (-s) _=_;rw [sInt_eq]
  rw [sInt_eq,e2,h2];simp only [E.den,Zp,h3,Int.mul_add,Int.sub_mul,Int.add_mul,Int.mul_sub,Int.neg_mul];rw [<-Int.mul_assoc s k3];omega;rename_i a' n he;cases he;obtain ⟨k1,h1⟩:=iha (s*n) l p;obtain ⟨k3,h3⟩:=YR (a.den O*n);refine ⟨k1-s*k3,?_⟩;have e2:JE s (.bin .mul .i64 a (.lit n)) p=JE (s*n) a p:=by show yK (s*n) _=_;rw [sInt_eq]
  rw [sInt_eq,e2,h1];simp only [E.den,Zp,h3,Int.mul_add,Int.sub_mul];rw [Int.mul_assoc s n,Int.mul_comm n (a.den O),<-Int.mul_assoc s k3];omega;rename_i n b' hno he;cases he;obtain ⟨k1,h1⟩:=ihb (s*n) l p;obtain ⟨k3,h3⟩:=YR (n*b.den O);refine ⟨k1-s*k3,?_⟩;have e2:JE s (.bin .mul .i64 (.lit n) b) p=JE (s*n) b p:=by
   cases b with
   |lit m=>exact (hno m rfl).elim
   |_=>show yK (s*n) _=_;rw [sInt_eq]
  rw [sInt_eq,e2,h1];simp only [E.den,Zp,h3,Int.mul_add,Int.sub_mul];rw [Int.mul_assoc s n,<-Int.mul_assoc s k3];omega;rename_i n1 n2 n3 n4 n5;have e2:JE s (.bin op k a b) p=p:=by
   unfold JE;split;rename_i he;exact (n1 _ he).elim
   rename_i he;exact (n2 _ _ he).elim
   rename_i he;exact (n3 _ _ he).elim
   rename_i he;exact (n4 _ _ he).elim
   rename_i he;exact (n5 _ _ he).elim
   rfl
  exact ⟨0,by rw [e2,jG];omega⟩
 |_=>exact ⟨0,by show yx O (yw s _ l)+p=_;rw [jG];omega⟩
theorem Q4l {n:Nat->Prop} (e:E) (s:Int) (l:List (Int×E)) (he:e.ok n) (hl:Q2e n l):Q2e n (jF s e l):=by
 induction e generalizing s l with
 |lit m=>exact hl
 |bin op k a b iha ihb=>unfold jF;split;exact hl;rename_i a' b' h;cases h;exact ihb _ _ he.2 (iha _ _ he.1 hl);rename_i a' b' h;cases h;rw [sInt_eq];exact ihb _ _ he.2 (iha _ _ he.1 hl);rename_i a' m h;cases h;rw [sInt_eq];exact iha _ _ he.1 hl;rename_i m a' _ h;cases h;rw [sInt_eq];exact ihb _ _ he.2 hl;exact Q16 he hl
 |_=>exact Q16 he hl
theorem Q01 (O:Val):∀(l:List (Int×E)) (e:E),l≠[]->(Qda l e).den O=IntKind.i64.wrap (e.den O+yx O l)
 |[],_,h=>absurd rfl h
 |(c,x)::r,e,_=>by
  have step:∀e' :E,e'.den O=IntKind.i64.wrap (e.den O+c*x.den O)->(Qda r e').den O=IntKind.i64.wrap (e.den O+yx O ((c,x)::r)):=by
   intro e' he;cases hr:r with
   |nil=>rw [Qda,he];simp [yx]
   |cons y r' =>rw [<-hr,Q01 O r e' (by rw [hr];exact List.cons_ne_nil _ _),he,jm];simp only [yx];rw [Int.add_assoc]
  unfold Qda;cases h1:ieq c 1 with
  |true=>have:=Q6t h1;subst this;exact step _ (by simp only [E.den,Zp,Int.one_mul])
  |false=>
   simp only [cond_false];cases h2:ieq c (-1) with
   |true=>have:=Q6t h2;subst this;refine step _ ?_;simp only [E.den,Zp,Int.neg_mul,Int.one_mul];rfl
   |false=>refine step _ ?_;simp only [E.den,Zp];rw [J8,Int.mul_comm]
theorem jH {n:Nat->Prop}:∀(l:List (Int×E)) (e:E),Q2e n l->e.ok n->(Qda l e).ok n
 |[],_,_,he=>he
 |(c,x)::r,e,h,he=>by
  have hx:x.ok n:=h (c,x) (by simp);have hr:Q2e n r:=λq hq=>h q (by simp [hq])
  unfold Qda;cases ieq c 1 with
  |true=>exact jH r _ hr ⟨he,hx⟩
  |false=>cases ieq c (-1) with
   |true=>exact jH r _ hr ⟨he,hx⟩
   |false=>exact jH r _ hr ⟨he,hx,trivial⟩
theorem Q4m (O:Val) (l:List (Int×E)) (p:Int):(Qhx l p).den O=IntKind.i64.wrap (yx O l+p):=by
 unfold Qhx;split;simp only [E.litS_eq,wrapK_eq,E.den,yx,Int.zero_add];rename_i c x r;cases h1:ieq c 1 with
 |true=>
  have:=Q6t h1;subst this;simp only [cond_true,sInt_eq,wrapK_eq,yx,Int.one_mul];split;simp only [E.den,Zp,yx,Int.add_zero];rw [J8];rename_i y r';cases h2:ieq (IntKind.i64.wrap p) 0 with
  |true=>have h0:=Q6t h2;simp only [cond_true];rw [Q01 O _ _ (List.cons_ne_nil _ _),<-J8 (x.den O+yx O (y::r')) p,h0,Int.add_zero]
  |false=>simp only [cond_false,E.den,Zp];rw [Q01 O _ _ (List.cons_ne_nil _ _),J8,jm]
 |false=>simp only [cond_false,sInt_eq,wrapK_eq];rw [Q01 O _ _ (List.cons_ne_nil _ _)];simp only [E.den];rw [jm,Int.add_comm]
theorem Qer {n:Nat->Prop} {l:List (Int×E)} {p:Int} (h:Q2e n l):(Qhx l p).ok n:=by
 unfold Qhx;split;rw [E.litS_eq];trivial;rename_i c x r;have hx:x.ok n:=h (c,x) (by simp);have hr:Q2e n r:=λq hq=>h q (by simp [hq])
 cases ieq c 1 with
 |true=>
  simp only [cond_true,sInt_eq];split;exact ⟨hx,trivial⟩;cases ieq (Y8 .i64 p) 0 with
  |true=>exact jH _ _ hr hx
  |false=>exact ⟨jH _ _ hr hx,trivial⟩
 |false=>simp only [cond_false,sInt_eq];exact jH _ _ h trivial
theorem Qap (O:Val) (l:List (Int×E)):∃k:Int,(linT l).den O=yx O l+k*18446744073709551616:=by
 have gen:∀l,∃k:Int,(Qhx l 0).den O=yx O l+k*18446744073709551616:=λl=>by rw [Q4m,Int.add_zero];exact YR _
 unfold linT;split;rename_i c x;cases h1:ieq c 1 with
 |true=>have:=Q6t h1;subst this;exact ⟨0,by simp [yx]⟩
 |false=>exact gen [(c,x)]
 exact gen _
theorem Q6n (n:Nat->Prop):Q2e n []:=λ_ h=>by cases h
theorem Q42 (O:Val) (s t:Int) (a b:E):∃k:Int,yx O (jF t b (jF s a []))+JE t b (JE s a 0)=s*a.den O+t*b.den O+k*18446744073709551616:=by obtain ⟨k1,h1⟩:=Qeq O a s [] 0;obtain ⟨k2,h2⟩:=Qeq O b t (jF s a []) (JE s a 0);refine ⟨k1+k2,?_⟩;rw [h2];simp only [yx] at h1;omega
theorem E.Q5j {a b:E} {O:Val}:(E.Qm7 a b).den O=Zp .add .i64 (a.den O) (b.den O):=by obtain ⟨k,h⟩:=Q42 O 1 1 a b;unfold E.Qm7;rw [Q4m,h,jW];simp only [Zp,Int.one_mul]
theorem E.Qa1 {a b:E} {O:Val}:(E.Qlt a b).den O=Zp .sub .i64 (a.den O) (b.den O):=by obtain ⟨k,h⟩:=Q42 O 1 (-1) a b;unfold E.Qlt;rw [Q4m,h,jW];simp only [Zp,Int.one_mul,Int.neg_mul];rfl
theorem E.Q9r {n:Nat->Prop} {a b:E} (ha:a.ok n) (hb:b.ok n):(E.Qm7 a b).ok n:=Qer (Q4l _ _ _ hb (Q4l _ _ _ ha (Q6n n)))
theorem E.Qdl {n:Nat->Prop} {a b:E} (ha:a.ok n) (hb:b.ok n):(E.Qlt a b).ok n:=Qer (Q4l _ _ _ hb (Q4l _ _ _ ha (Q6n n)))
noncomputable def E.diff (a b:E):Bool×E×Int:=
 match jF (-1) b (jF 1 a []) with
 |[]=>yK (JE (-1) b (JE 1 a 0)) λp=>(false, .lit 0,p)
 |(c,x)::r=>bif ilt c 0 then yK (-(JE (-1) a (JE 1 b 0))) λp=>(true,linT (jF (-1) a (jF 1 b [])),p) else yK (JE (-1) b (JE 1 a 0)) λp=>(false,linT ((c,x)::r),p)
def sgn (g:Bool) (x p:Int):Int:=bif g then p-x else x+p
theorem E.Qib {a b x:E} {g:Bool} {p:Int} (h:E.diff a b=(g,x,p)) (O:Val):∃k:Int,a.den O-b.den O=sgn g (x.den O) p+k*18446744073709551616:=by
 obtain ⟨k,hk⟩:=Q42 O 1 (-1) a b;simp only [Int.one_mul,Int.neg_mul] at hk;unfold E.diff at h;split at h;rename_i hl;rw [sInt_eq] at h;cases h;rw [hl] at hk;simp only [yx] at hk;refine ⟨-k,?_⟩;simp only [sgn,cond_false,E.den];omega;rename_i c y r hl;cases hc:ilt c 0 with
 |true=>rw [hc] at h;simp only [cond_true,sInt_eq] at h;cases h;obtain ⟨k2,h2⟩:=Qap O (jF (-1) a (jF 1 b []));obtain ⟨k3,h3⟩:=Q42 O 1 (-1) b a;simp only [Int.one_mul,Int.neg_mul] at h3;refine ⟨k3+k2,?_⟩;simp only [sgn,cond_true,h2];omega
 |false=>rw [hc] at h;simp only [cond_false,sInt_eq] at h;cases h;obtain ⟨k2,h2⟩:=Qap O ((c,y)::r);rw [hl] at hk;refine ⟨-k-k2,?_⟩;simp only [sgn,cond_false,h2];omega
def Iv.sh (v:Iv) (g:Bool) (p:Int):Iv:=
 match v.lo,v.hi with
 |some l,some h=>bif g then ⟨some (p-h),some (p-l)⟩ else ⟨some (l+p),some (h+p)⟩
 |_,_=> .all
theorem Iv.Qe0 {v:Iv} {g:Bool} {p x:Int} (h:v.has x):(v.sh g p).has (sgn g x p):=by
 unfold Iv.sh;split;rename_i l u e1 e2;have h1:=h.1 _ e1;have h2:=h.2 _ e2;cases g with
 |true=>exact ⟨λq hq=>by cases hq;simp only [sgn,cond_true];omega,λq hq=>by cases hq;simp only [sgn,cond_true];omega⟩
 |false=>exact ⟨λq hq=>by cases hq;simp only [sgn,cond_false];omega,λq hq=>by cases hq;simp only [sgn,cond_false];omega⟩
 exact Iv.QJ _
def Iv.mid (v:Iv):Bool:=
 match v.lo,v.hi with
 |some l,some h=>ile (-9223372036854775808) l&&ile h 9223372036854775807
 |_,_=>false
theorem Iv.Q6k {v:Iv} {x:Int} (h:v.mid=true) (hx:v.has x):-9223372036854775808<=x/\x<=9223372036854775807:=by unfold Iv.mid at h;split at h;rename_i l u e1 e2;simp only [Bool.and_eq_true,QU] at h;have h1:=hx.1 _ e1;have h2:=hx.2 _ e2;omega;cases h
def Iv.minus (A B:Iv):Iv:=
 match A.lo,A.hi,B.lo,B.hi with
 |some la,some ha,some lb,some hb=>⟨some (la-hb),some (ha-lb)⟩
 |_,_,_,_=> .all
theorem Iv.Qeo {A B:Iv} {x y:Int} (h1:A.has x) (h2:B.has y):(A.minus B).has (x-y):=by unfold Iv.minus;split;rename_i e1 e2 e3 e4;have:=h1.1 _ e1;have:=h1.2 _ e2;have:=h2.1 _ e3;have:=h2.2 _ e4;exact ⟨λq hq=>by cases hq;omega,λq hq=>by cases hq;omega⟩;exact Iv.QJ _
def Iv.within (v:Iv) (k:IntKind):Bool:=
 match v.lo,v.hi with
 |some l,some h=>ile (kLo k) l&&ile h (kHi k)
 |_,_=>false
theorem Iv.jX {v:Iv} {k:IntKind} {x:Int} (h:v.within k=true) (hx:v.has x):k.wrap x=x:=by unfold Iv.within at h;split at h;rename_i l u e1 e2;simp only [Bool.and_eq_true,QU] at h;have h1:=hx.1 _ e1;have h2:=hx.2 _ e2;exact wrap_within (by omega) (by omega);cases h
def E.base:E->E×Int
 | .bin .add .i64 x (.lit p)=>(x,p)
 |e=>(e,0)
theorem E.Jm {c:Facts} {n:Nat->Prop} {O:Val} (hc:c.okN n O) (a:E) (h:(E.iv c a.base.1).fits a.base.2=true):a.den O=a.base.1.den O+a.base.2:=by unfold E.base at h ⊢;split;rename_i x p;simp only [E.den,Zp];exact Iv.ZT h (E.Qd hc x);simp
def E.byBase (c:Facts) (op:Int->Int->Bool) (a b:E):Option Bool:=
 match a.base,b.base with
 |(x,p),(y,q)=>bif x.same y&&((E.iv c x).fits p&&(E.iv c x).fits q) then some (op p q) else none
theorem E.yD {n:Nat->Prop} {c:Facts} {op:Int->Int->Bool} {a b:E} {r:Bool} {O:Val} (h:E.byBase c op a b=some r) (hc:c.okN n O):∃x p q,a.den O=x+p/\b.den O=x+q/\op p q=r:=by
 unfold E.byBase at h;split at h;rename_i x p y q ha hb';cases hb:(x.same y&&((E.iv c x).fits p&&(E.iv c x).fits q)) with
 |false=>rw [hb] at h;cases h
 |true=>rw [hb] at h;simp only [cond_true,Option.some.injEq] at h;simp only [Bool.and_eq_true] at hb;obtain ⟨h1,h2,h3⟩:=hb;have e:x=y:=E.Q5 h1;refine ⟨x.den O,p,q,?_,?_,h⟩;have:=E.Jm (O:=O) hc a (by rw [ha];exact h2);rw [ha] at this;exact this;have:=E.Jm (O:=O) hc b (by rw [hb',<-e];exact h3);rw [hb',<-e] at this;exact this
def E.mnLe (a b:E):Bool:=
 match a with
 | .mn x y=>x.same b||y.same b
 |_=>false
theorem E.Qck {a b:E} {O:Val} (h:a.mnLe b=true):a.den O<=b.den O:=by unfold E.mnLe at h;split at h;rename_i x y;rw [Bool.or_eq_true] at h;simp only [E.den];rcases h with h|h;rw [<-E.Q5 h];omega;rw [<-E.Q5 h];omega;cases h
def Iv.trim (v:Iv) (n:Int):Iv:=⟨match v.lo with|some l=>bif ieq l n then some (l+1) else some l|none=>none,match v.hi with|some h=>bif ieq h n then some (h-1) else some h|none=>none⟩
theorem Iv.Qgq {v:Iv} {n x:Int} (h:v.has x) (hx:x≠n):(v.trim n).has x:=by
 refine ⟨λl hl=>?_,λu hu=>?_⟩;simp only [Iv.trim] at hl;split at hl;rename_i l0 h0;have:=h.1 _ h0;rw [qG] at hl;cases hb:(l0==n) with
 |true=>rw [hb] at hl;cases hl;have:l0=n:=by simpa using hb
        omega
 |false=>rw [hb] at hl;cases hl;exact this
 cases hl;simp only [Iv.trim] at hu;split at hu;rename_i l0 h0;have:=h.2 _ h0;rw [qG] at hu;cases hb:(l0==n) with
 |true=>rw [hb] at hu;cases hu;have:l0=n:=by simpa using hb
        omega
 |false=>rw [hb] at hu;cases hu;exact this
 cases hu
def Fact.cut (e:E) (f:Fact) (v:Iv):Iv:=
 match f.equal with
 |some (x, .lit n,false)=>bif x.same e then v.trim n else v
 |_=>v
theorem Fact.Qlb {e:E} {f:Fact} {v:Iv} {O:Val} (hf:f.ok O) (hv:v.has (e.den O)):(f.cut e v).has (e.den O):=by
 unfold Fact.cut;split;rename_i x m he;cases hs:x.same e with
 |false=>exact hv
 |true=>have:=Fact.QB he hf;rw [E.Q5 hs] at this;exact Iv.Qgq hv (of_decide_eq_false this)
 exact hv
def Facts.edge (e:E):Facts->Iv->Iv
 |[],v=>v
 |f::c,v=>Facts.edge e c (f.cut e v)
theorem Facts.Q3g {n:Nat->Prop} {e:E} {O:Val}:∀{c:Facts} {v:Iv},c.okN n O->v.has (e.den O)->(Facts.edge e c v).has (e.den O)
 |[],_,_,hv=>hv
 |f::c,v,hc,hv=>by
  show (Facts.edge e c (f.cut e v)).has (e.den O)
  exact Facts.Q3g (λg hg=>hc g (by simp [hg])) (Fact.Qlb (hc f (by simp)).1 hv)
def E.ivT (c:Facts) (e:E):Iv:=Facts.edge e c (E.iv c e)
theorem E.Yw {n:Nat->Prop} {c:Facts} {O:Val} (hc:c.okN n O) (e:E):(e.ivT c).has (e.den O):=Facts.Q3g hc (E.Qd hc e)
noncomputable def E.dIv (c:Facts) (a b:E):Iv:=
 bif ((E.iv c a).minus (E.iv c b)).mid then
  match E.diff a b with
  |(g,x,p)=>bif ((E.ivT c x).sh g p).mid then (E.ivT c x).sh g p else .all
 else .all
theorem jN {n:Nat->Prop} {c:Facts} {O:Val} (hc:c.okN n O) {a b x:E} {g:Bool} {p:Int} (h1:((E.iv c a).minus (E.iv c b)).mid=true) (h2:E.diff a b=(g,x,p)) (h3:((E.ivT c x).sh g p).mid=true):
 a.den O-b.den O=sgn g (x.den O) p:=by
 obtain ⟨k,hk⟩:=E.Qib h2 O;have e1:=Iv.Q6k h1 (Iv.Qeo (E.Qd hc a) (E.Qd hc b));have e2:=Iv.Q6k h3 (Iv.Qe0 (g:=g) (p:=p) (E.Yw hc x));omega
theorem E.YN {n:Nat->Prop} {c:Facts} {O:Val} (hc:c.okN n O) (a b:E):(E.dIv c a b).has (a.den O-b.den O):=by
 unfold E.dIv;cases h1:((E.iv c a).minus (E.iv c b)).mid with
 |false=>exact Iv.QJ _
 |true=>
  simp only [cond_true];rcases h2:E.diff a b with ⟨g,x,p⟩;simp only;cases h3:((E.ivT c x).sh g p).mid with
  |false=>exact Iv.QJ _
  |true=>rw [jN hc h1 h2 h3];exact Iv.Qe0 (E.Yw hc x)
noncomputable def E.ivL (c:Facts) (e:E):Iv:=(E.iv c e).meet (E.dIv c e (.lit 0))
theorem E.Q6q {n:Nat->Prop} {c:Facts} {O:Val} (hc:c.okN n O) (e:E):(E.ivL c e).has (e.den O):=by refine Iv.Zu (E.Qd hc e) ?_;have:=E.YN hc e (.lit 0);simpa only [E.den,Int.sub_zero] using this
def Iv.Qhe (A B:Iv):Iv:=⟨match A.lo,B.lo with|some a,some b=>some (a+b)|_,_=>none,match A.hi,B.hi with|some a,some b=>some (a+b)|_,_=>none⟩
theorem Iv.Qee {A B:Iv} {x y:Int} (h1:A.has x) (h2:B.has y):(A.Qhe B).has (x+y):=by obtain ⟨al,ah⟩:=A;obtain ⟨bl,bh⟩:=B;refine ⟨λl e=>?_,λu e=>?_⟩;cases al<;>cases bl<;>simp only [Iv.Qhe,Option.some.injEq,reduceCtorEq] at e;have:=h1.1 _ rfl;have:=h2.1 _ rfl;omega;cases ah<;>cases bh<;>simp only [Iv.Qhe,Option.some.injEq,reduceCtorEq] at e;have:=h1.2 _ rfl;have:=h2.2 _ rfl;omega
noncomputable def E.viaT (c:Facts) (x t:E):Iv:=(E.dIv c x t).Qhe (E.ivL c t)
theorem E.Q9w {n:Nat->Prop} {c:Facts} {O:Val} (hc:c.okN n O) (x t:E):(E.viaT c x t).has (x.den O):=by
 have:=Iv.Qee (E.YN hc x t) (E.Q6q hc t)
 rwa [Int.sub_add_cancel] at this
noncomputable def Facts.two (c:Facts) (x:E):Facts->Iv
 |[]=> .all
 |f::r=>Iv.meet (match f.b,f.a with
  | .lit _, .bin o k a b=>(E.viaT c x (.bin o k a b)).meet (E.viaT c x (E.Qlt (.lit 0) (.bin o k a b)))
  |_,_=> .all) (Facts.two c x r)
theorem Facts.Qde {n:Nat->Prop} {c:Facts} {O:Val} (hc:c.okN n O) (x:E):∀l:Facts,(Facts.two c x l).has (x.den O)
 |[]=>Iv.QJ _
 |f::r=>by unfold Facts.two;refine Iv.Zu ?_ (Facts.Qde hc x r);split;exact Iv.Zu (E.Q9w hc _ _) (E.Q9w hc _ _);exact Iv.QJ _
noncomputable def E.dIv2 (c:Facts) (a b:E):Iv:=
 bif ((E.iv c a).minus (E.iv c b)).mid then
  match E.diff a b with
  |(g,x,p)=>bif ((E.ivT c x).sh g p).mid then ((E.ivT c x).meet (Facts.two c x c)).sh g p else .all
 else .all
theorem E.Qb6 {n:Nat->Prop} {c:Facts} {O:Val} (hc:c.okN n O) (a b:E):(E.dIv2 c a b).has (a.den O-b.den O):=by
 unfold E.dIv2;cases h1:((E.iv c a).minus (E.iv c b)).mid with
 |false=>exact Iv.QJ _
 |true=>
  simp only [cond_true];rcases h2:E.diff a b with ⟨g,x,p⟩;simp only;cases h3:((E.ivT c x).sh g p).mid with
  |false=>exact Iv.QJ _
  |true=>rw [jN hc h1 h2 h3];exact Iv.Qe0 (Iv.Zu (E.Yw hc x) (Facts.Qde hc x c))
noncomputable def E.dEq (c:Facts) (a b:E):Option Bool:=
 match (E.dIv c a b).equal ⟨some 0,some 0⟩ with
 |some r=>some r
 |none=>bif ((E.iv c a).minus (E.iv c b)).mid then
  match E.diff a b with
  |(g,x,p)=>bif ((E.ivT c x).sh g p).mid then yK (bif g then p else-p) λq=>Facts.Y7 x (.lit q) c else none
  else none
theorem yU:(⟨some 0,some 0⟩:Iv).has 0:=⟨λl h=>(by cases h;exact Int.le_refl 0),λl h=>(by cases h;exact Int.le_refl 0)⟩
theorem E.Qfl {n:Nat->Prop} {c:Facts} {a b:E} {r:Bool} {O:Val} (h:E.dEq c a b=some r) (hc:c.okN n O):decide (a.den O=b.den O)=r:=by
 unfold E.dEq at h;split at h;rename_i q hq;cases h;have:=Iv.QB hq (E.YN (O:=O) hc a b) yU;rw [<-this];simp only [decide_eq_decide];omega;cases h1:((E.iv c a).minus (E.iv c b)).mid with
 |false=>rw [h1] at h;cases h
 |true=>
  rw [h1] at h;simp only [cond_true] at h;rcases h2:E.diff a b with ⟨g,x,p⟩;rw [h2] at h;simp only at h;cases h3:((E.ivT c x).sh g p).mid with
  |false=>rw [h3] at h;cases h
  |true=>
   rw [h3] at h;simp only [cond_true,sInt_eq] at h;have e:=jN (O:=O) hc h1 h2 h3;have f:=Facts.Yx h hc;rw [<-f,Bool.eq_iff_iff,decide_eq_true_eq,decide_eq_true_eq];simp only [E.den];cases g with
   |true=>simp only [sgn,cond_true] at e ⊢;omega
   |false=>simp only [sgn,cond_false] at e ⊢;omega
noncomputable def E.Qe9 (c:Facts) (a b:E):Option Bool:=
 match a.base,b.base with
 |(.bin .rem .i64 x (.lit (.ofNat m)),p),(.bin .rem .i64 y (.lit (.ofNat n)),q)=>
  bif (Nat.beq m n&&Nat.blt 0 m)&&(ieq p q&&((E.iv c (.bin .rem .i64 x (.lit (.ofNat m)))).fits p&&(E.iv c (.bin .rem .i64 y (.lit (.ofNat n)))).fits q)) then
   match (E.iv c x).lo,(E.iv c y).lo,(E.dIv c x y).lo,(E.dIv c x y).hi with
   |some (.ofNat _),some (.ofNat _),some l,some h=>bif ieq l h then some (ieq (l.emod (.ofNat m)) 0)
    else bif (ilt 0 l&&ilt h (.ofNat m))||(ilt h 0&&ilt (-(.ofNat m)) l) then some false else none
   |_,_,_,_=>none
  else none
 |_,_=>none
theorem E.Q6c {n:Nat->Prop} {c:Facts} {a b:E} {r:Bool} {O:Val} (h:E.Qe9 c a b=some r) (hc:c.okN n O):decide (a.den O=b.den O)=r:=by
 unfold E.Qe9 at h;split at h;rename_i x m p y m' q ha hb;cases h1:((Nat.beq m m' &&Nat.blt 0 m)&&(ieq p q&&((E.iv c (.bin .rem .i64 x (.lit (.ofNat m)))).fits p&&(E.iv c (.bin .rem .i64 y (.lit (.ofNat m')))).fits q))) with
 |false=>rw [h1] at h;cases h
 |true=>
  rw [h1] at h;simp only [cond_true] at h;simp only [Bool.and_eq_true,Nat.beq_eq] at h1;obtain ⟨⟨h1,h2⟩,h3,h4,h5⟩:=h1;subst h1;have h3:=Q6t h3;subst h3;have h2:0<m:=by have h2' :1<=m:=(by simpa [Nat.blt] using h2);omega
  split at h;rename_i lx ly l u e1 e2 e3 e4;have d1:=(E.YN (O:=O) hc x y).1 _ e3
  have d2:=(E.YN (O:=O) hc x y).2 _ e4
  have f1:=(E.Qd (O:=O) hc x).1 _ e1
  have f2:=(E.Qd (O:=O) hc y).1 _ e2
  have ga:=E.Jm (O:=O) hc a (by rw [ha];exact h4);have gb:=E.Jm (O:=O) hc b (by rw [hb];exact h5);rw [ha] at ga;rw [hb] at gb;simp only [E.den,Zp] at ga gb;have z1:(0:Int)<=x.den O:=Int.le_trans (Int.natCast_nonneg lx) f1;have z2:(0:Int)<=y.den O:=Int.le_trans (Int.natCast_nonneg ly) f2;have r1:(x.den O).tmod (Int.ofNat m)=x.den O%(m:Int):=Int.tmod_eq_emod_of_nonneg z1
  have r2:(y.den O).tmod (Int.ofNat m)=y.den O%(m:Int):=Int.tmod_eq_emod_of_nonneg z2
  rw [r1] at ga;rw [r2] at gb;have key:=Int.emod_eq_emod_iff_emod_sub_eq_zero (m:=x.den O) (n:=(m:Int)) (k:=y.den O);have key:x.den O%(m:Int)=y.den O%(m:Int)↔(x.den O-y.den O).emod (Int.ofNat m)=0:=key
  cases h6:ieq l u with
  |false=>
   rw [h6] at h;simp only [cond_false] at h;cases h7:(ilt 0 l&&ilt u (.ofNat m))||(ilt u 0&&ilt (-(.ofNat m)) l) with
   |false=>rw [h7] at h;cases h
   |true=>
    rw [h7] at h;simp only [cond_true,Option.some.injEq] at h;subst h;simp only [JF,Bool.or_eq_true,Bool.and_eq_true,decide_eq_true_eq] at h7;have hne:¬x.den O%(m:Int)=y.den O%(m:Int):=by
     intro he;have h8:(m:Int) ∣ (x.den O-y.den O):=Int.dvd_of_emod_eq_zero (key.1 he);have hm:(Int.ofNat m)=(m:Int):=rfl;rw [hm] at h7;rcases h7 with ⟨q1,q2⟩|⟨q1,q2⟩;have:=Int.le_of_dvd (by omega) h8;omega;have h9:(m:Int) ∣ (y.den O-x.den O):=by
      have:=(Int.dvd_neg).2 h8
      rwa [Int.neg_sub] at this
     have:=Int.le_of_dvd (by omega) h9;omega
    rw [decide_eq_false_iff_not,ga,gb];omega
  |true=>
   rw [h6] at h;have:=Q6t h6;subst this;simp only [cond_true,Option.some.injEq] at h;have hl:l=x.den O-y.den O:=by omega
   rw [Bool.eq_iff_iff,decide_eq_true_eq,<-h,qG,beq_iff_eq,ga,gb,hl];rw [<-key];omega
  cases h
 cases h
noncomputable def E.Qae (c:Facts) (a b:E):Option Bool:=
 match a with
 | .bin .rem .i64 x (.lit (.ofNat m))=>
  match (E.iv c x).lo,(E.iv c b).lo,(E.iv c b).hi,(E.dIv c x b).lo,(E.dIv c x b).hi with
  |some (.ofNat _),some (.ofNat _),some (.ofNat u),some l,some h=>bif Nat.blt u m&&((ilt 0 l&&ilt h (.ofNat m))||(ilt h 0&&ilt (-(.ofNat m)) l)) then some false else none
  |_,_,_,_,_=>none
 |_=>none
theorem E.jZ {n:Nat->Prop} {c:Facts} {a b:E} {r:Bool} {O:Val} (h:E.Qae c a b=some r) (hc:c.okN n O):decide (a.den O=b.den O)=r:=by
 unfold E.Qae at h;split at h;rename_i x m;split at h;rename_i lx lb u l hh e1 e2 e3 e4 e5;cases h6:Nat.blt u m&&((ilt 0 l&&ilt hh (.ofNat m))||(ilt hh 0&&ilt (-(.ofNat m)) l)) with
 |false=>rw [h6] at h;cases h
 |true=>
  rw [h6] at h;simp only [cond_true,Option.some.injEq] at h;subst h;have d1:=(E.YN (O:=O) hc x b).1 _ e4
  have d2:=(E.YN (O:=O) hc x b).2 _ e5
  have f1:=(E.Qd (O:=O) hc x).1 _ e1
  have f2:=(E.Qd (O:=O) hc b).1 _ e2
  have f3:=(E.Qd (O:=O) hc b).2 _ e3
  simp only [JF,Bool.or_eq_true,Bool.and_eq_true,decide_eq_true_eq] at h6;have hum:u<m:=by have h' :u+1<=m:=(by have:=h6.1;simpa [Nat.blt] using this);omega
  have h7:=h6.2;have hm:(Int.ofNat m)=(m:Int):=rfl;have hu:(Int.ofNat u)=(u:Int):=rfl;have hlb:(Int.ofNat lb)=(lb:Int):=rfl;have hlx:(Int.ofNat lx)=(lx:Int):=rfl;rw [hm] at h7;rw [hu] at f3;rw [hlb] at f2;rw [hlx] at f1;rw [decide_eq_false_iff_not];have z1:(0:Int)<=x.den O:=by omega
  have r1:(x.den O).tmod (Int.ofNat m)=x.den O%(m:Int):=Int.tmod_eq_emod_of_nonneg z1
  intro he;have he:(x.den O).tmod (Int.ofNat m)=b.den O:=he
  rw [r1] at he;have hb:b.den O%(m:Int)=b.den O:=Int.emod_eq_of_lt (by omega) (by omega);rw [<-hb] at he;have key:=Int.emod_eq_emod_iff_emod_sub_eq_zero (m:=x.den O) (n:=(m:Int)) (k:=b.den O);have h8:(m:Int) ∣ (x.den O-b.den O):=Int.dvd_of_emod_eq_zero (key.1 he);rcases h7 with ⟨q1,q2⟩|⟨q1,q2⟩;have:=Int.le_of_dvd (by omega) h8;omega;have h9:(m:Int) ∣ (b.den O-x.den O):=by
   have:=(Int.dvd_neg).2 h8
   rwa [Int.neg_sub] at this
  have:=Int.le_of_dvd (by omega) h9;omega
 cases h;cases h
noncomputable def E.Qk6 (c:Facts) (a b:E):Option Bool:=
 match E.Qe9 c a b with
 |some r=>some r
 |none=>match E.Qae c a b with
  |some r=>some r
  |none=>E.Qae c b a
theorem E.Q8o {n:Nat->Prop} {c:Facts} {a b:E} {r:Bool} {O:Val} (h:E.Qk6 c a b=some r) (hc:c.okN n O):decide (a.den O=b.den O)=r:=by unfold E.Qk6 at h;split at h;rename_i hf;cases h;exact E.Q6c hf hc;split at h;rename_i hf;cases h;exact E.jZ hf hc;have:=E.jZ (O:=O) h hc;rw [<-this];simp only [decide_eq_decide];exact eq_comm
noncomputable def E.less (c:Facts) (a b:E):Option Bool:=
 match Facts.Jh a b c with
 |some r=>some r
 |none=>match (E.iv c a).less (E.iv c b) with
  |some r=>some r
  |none=>match E.byBase c ilt a b with
   |some r=>some r
   |none=>bif b.mnLe a then some false else match (E.ivT c a).less (E.ivT c b) with
    |some r=>some r
    |none=>match (E.dIv c a b).less ⟨some 0,some 0⟩ with
     |some r=>some r
     |none=>(E.dIv2 c a b).less ⟨some 0,some 0⟩
theorem E.Qr {n:Nat->Prop} {c:Facts} {a b:E} {r:Bool} {O:Val} (h:E.less c a b=some r) (hc:c.okN n O):decide (a.den O<b.den O)=r:=by
 unfold E.less at h;split at h;rename_i hf;cases h;exact Facts.qI hf hc;split at h;rename_i hf;cases h;exact Iv.Qr hf (E.Qd hc a) (E.Qd hc b);split at h;rename_i q hq;cases h;obtain ⟨x,p,q,e1,e2,e3⟩:=E.yD hq hc;rw [e1,e2,<-e3,JF];simp only [decide_eq_decide];omega;cases hm:b.mnLe a with
 |true=>rw [hm] at h;cases h;have:=E.Qck (O:=O) hm;simp only [decide_eq_false_iff_not];omega
 |false=>rw [hm] at h;simp only [cond_false] at h;split at h;rename_i hf;cases h;exact Iv.Qr hf (E.Yw hc a) (E.Yw hc b);split at h;rename_i hf;cases h;have:=Iv.Qr hf (E.YN (O:=O) hc a b) yU;rw [<-this];simp only [decide_eq_decide];omega;have:=Iv.Qr h (E.Qb6 (O:=O) hc a b) yU;rw [<-this];simp only [decide_eq_decide];omega
noncomputable def E.equal (c:Facts) (a b:E):Option Bool:=
 match Facts.Y7 a b c with
 |some r=>some r
 |none=>match (E.iv c a).equal (E.iv c b) with
  |some r=>some r
  |none=>match E.byBase c ieq a b with
   |some r=>some r
   |none=>match (E.ivT c a).equal (E.ivT c b) with
    |some r=>some r
    |none=>match E.dEq c a b with
     |some r=>some r
     |none=>match E.Qk6 c a b with
      |some r=>some r
      |none=>(E.dIv2 c a b).equal ⟨some 0,some 0⟩
theorem E.QB {n:Nat->Prop} {c:Facts} {a b:E} {r:Bool} {O:Val} (h:E.equal c a b=some r) (hc:c.okN n O):decide (a.den O=b.den O)=r:=by unfold E.equal at h;split at h;rename_i hf;cases h;exact Facts.Yx hf hc;split at h;rename_i hf;cases h;exact Iv.QB hf (E.Qd hc a) (E.Qd hc b);split at h;rename_i q hq;cases h;obtain ⟨x,p,q,e1,e2,e3⟩:=E.yD hq hc;rw [e1,e2,<-e3,qG,Bool.eq_iff_iff];simp only [decide_eq_true_eq,beq_iff_eq];omega;split at h;rename_i hf;cases h;exact Iv.QB hf (E.Yw hc a) (E.Yw hc b);split at h;rename_i hf;cases h;exact E.Qfl hf hc;split at h;rename_i hf;cases h;exact E.Q8o hf hc;have:=Iv.QB h (E.Qb6 (O:=O) hc a b) yU;rw [<-this];simp only [decide_eq_decide];omega
def Qn3:Option Bool->Option Bool
 |some b=>some (!b)
 |none=>none
theorem Q12 {o:Option Bool} {r:Bool} (h:Qn3 o=some r):o=some (!r):=by cases o<;>simp [Qn3] at h;subst h;simp
noncomputable def E.cmpS (c:Facts) (op:BinOp) (a b:E):Option Bool:=
 bif a.same b&&Q6s op then some (Qob op 0 0) else
 match op with
 | .eql=>E.equal c a b
 | .neq=>Qn3 (E.equal c a b)
 | .lss=>E.less c a b
 | .leq=>Qn3 (E.less c b a)
 | .gtr=>E.less c b a
 | .geq=>Qn3 (E.less c a b)
 |_=>none
theorem Qft (op:BinOp) (x:Int):Yf op x x=Yf op 0 0:=by cases op<;>simp [Yf]
theorem E.Qcy {n:Nat->Prop} {c:Facts} {op:BinOp} {a b:E} {r:Bool} {O:Val} (h:E.cmpS c op a b=some r) (hc:c.okN n O):Yf op (a.den O) (b.den O)=r:=by
 unfold E.cmpS at h;cases hs:(E.same a b&&Q6s op) with
 |true=>rw [hs] at h;simp only [Bool.and_eq_true] at hs;simp only [cond_true,Option.some.injEq] at h;rw [E.Q5 hs.1,Qft,<-h,Qfu]
 |false=>
  rw [hs] at h;simp only [cond_false] at h;cases op<;>simp only [reduceCtorEq] at h
  case eql=>have:=E.QB h hc;rw [<-this];simp only [Yf];rw [Bool.eq_iff_iff];simp
  case neq=>have:=E.QB (Q12 h) hc;simp only [Yf];cases r<;>simp at this ⊢<;>exact this
  case lss=>exact E.Qr h hc
  case leq=>have:=E.Qr (Q12 h) hc;simp only [Yf];cases r<;>simp at this ⊢<;>omega
  case gtr=>exact E.Qr h hc
  case geq=>have:=E.Qr (Q12 h) hc;simp only [Yf];cases r<;>simp at this ⊢<;>omega
structure Ctx where
 fs:Facts
 vs:List Nat
def Ctx.okN (d:Nat->Prop) (O:Val) (c:Ctx):Prop:=(∀i∈c.vs,d i)/\c.fs.okN d O
def Ctx.add (c:Ctx) (f:Fact):Ctx:=⟨f::c.fs,c.vs⟩
def E.okB (vs:List Nat):E->Bool
 | .lit _=>true
 | .var i=>vs.any (Nat.beq i)
 | .len i=>vs.any (Nat.beq i)
 | .byte i a=>vs.any (Nat.beq i)&&a.okB vs
 | .bin _ _ a b=>a.okB vs&&b.okB vs
 | .cnv _ a=>a.okB vs
 | .pk _ a=>a.okB vs
 | .cons a t=>a.okB vs&&t.okB vs
 | .tv i lo hi t=>vs.any (Nat.beq i)&&lo.okB vs&&hi.okB vs&&t.okB vs
 | .fn _ t=>t.okB vs
 | .mn a b=>a.okB vs&&b.okB vs
theorem any_beq {i:Nat} {vs:List Nat} (h:vs.any (Nat.beq i)=true):i∈vs:=by
 obtain ⟨j,hj,he⟩:=List.any_eq_true.1 h;have:i=j:=by simpa using he
 subst this;exact hj
theorem E.ZM {d:Nat->Prop} {vs:List Nat} (hv:∀i∈vs,d i):∀{e:E},e.okB vs=true->e.ok d
 | .lit _,_=>trivial
 | .var _,h=>hv _ (any_beq h)
 | .len _,h=>hv _ (any_beq h)
 | .byte _ _,h=>by simp only [E.okB,Bool.and_eq_true] at h;exact ⟨hv _ (any_beq h.1),E.ZM hv h.2⟩
 | .bin _ _ _ _,h=>by simp only [E.okB,Bool.and_eq_true] at h;exact ⟨E.ZM hv h.1,E.ZM hv h.2⟩
 | .cnv _ a,h=>E.ZM (e:=a) hv h
 | .pk _ a,h=>E.ZM (e:=a) hv h
 | .cons _ _,h=>by simp only [E.okB,Bool.and_eq_true] at h;exact ⟨E.ZM hv h.1,E.ZM hv h.2⟩
 | .tv _ _ _ _,h=>by simp only [E.okB,Bool.and_eq_true] at h;exact ⟨hv _ (any_beq h.1.1.1),E.ZM hv h.1.1.2,E.ZM hv h.1.2,E.ZM hv h.2⟩
 | .fn _ t,h=>E.ZM (e:=t) hv h
 | .mn _ _,h=>by simp only [E.okB,Bool.and_eq_true] at h;exact ⟨E.ZM hv h.1,E.ZM hv h.2⟩
noncomputable def E.cmp (c:Ctx) (op:BinOp) (a b:E):Option Bool:=
 match a,b with
 | .lit x, .lit y=>some (Qob op x y)
 |a,b=>E.cmpS c.fs op a b
theorem E.Qb {n:Nat->Prop} {c:Ctx} {op:BinOp} {a b:E} {r:Bool} {O:Val} (_hop:Q6s op=true) (h:E.cmp c op a b=some r) (hc:c.okN n O):Yf op (a.den O) (b.den O)=r:=by unfold E.cmp at h;split at h;simp only [Option.some.injEq] at h;rw [<-h,Qfu];rfl;exact E.Qcy h hc.2
noncomputable def E.addN (k:IntKind) (a b:E):E:=
 match k,a,b with
 | .i64, .bin .add .i64 x (.lit p), .lit q=>yK (Y8 .i64 (p+q)) λn=> .bin .add .i64 x (.lit n)
 | .i64, .lit q, .bin .add .i64 x (.lit p)=>yK (Y8 .i64 (p+q)) λn=> .bin .add .i64 x (.lit n)
 | .i64, .lit q,b=> .bin .add .i64 b (.lit q)
 |k,a,b=> .bin .add k a b
noncomputable def E.Qls (k:IntKind) (a b:E):E:=
 match k,a,b with
 | .i64, .bin .add .i64 x (.lit p), .lit q=>yK (Y8 .i64 (p-q)) λn=> .bin .add .i64 x (.lit n)
 | .i64, .bin .add .i64 x (.lit p), .bin .add .i64 y (.lit q)=>bif x.same y then .Q2a (Y8 .i64 (p-q)) else .bin .sub .i64 (.bin .add .i64 x (.lit p)) (.bin .add .i64 y (.lit q))
 | .u64, .cnv .u64 (.bin .add .i64 x (.lit p)), .cnv .u64 (.bin .add .i64 y (.lit q))=>bif x.same y then .Q2a (Y8 .u64 (p-q)) else .bin .sub .u64 (.cnv .u64 (.bin .add .i64 x (.lit p))) (.cnv .u64 (.bin .add .i64 y (.lit q)))
 |k,a,b=>bif a.same b then .lit 0 else .bin .sub k a b
theorem E.Qbn {k:IntKind} {a b:E} {O:Val}:(E.addN k a b).den O=Zp .add k (a.den O) (b.den O):=by unfold E.addN;split;rename_i x p q;simp only [sInt_eq,E.den,Zp,wrapK_eq];rw [Q6,Q6,Q6,Q6];omega;rename_i q x p;simp only [sInt_eq,E.den,Zp,wrapK_eq];rw [Q6,Q6,Q6,Q6];omega;simp only [E.den,Zp];rw [Int.add_comm];rfl
theorem wrap_zero (k:IntKind):k.wrap 0=0:=by cases k<;>rfl
theorem J7 (n:Int):IntKind.u64.wrap n=n%18446744073709551616:=by simp [IntKind.wrap,IntKind.bits,IntKind.signed]
theorem E.Qa0 {k:IntKind} {a b:E} {O:Val}:(E.Qls k a b).den O=Zp .sub k (a.den O) (b.den O):=by
 unfold E.Qls;split;rename_i x p q;simp only [sInt_eq,E.den,Zp,wrapK_eq];rw [Q6,Q6,Q6,Q6];omega;rename_i x p y q;cases hs:x.same y with
 |false=>rfl
 |true=>have:=E.Q5 hs;subst this;simp only [cond_true,E.litS_eq,E.den,Zp,wrapK_eq];rw [Q6,Q6,Q6,Q6];omega
 rename_i x p y q;cases hs:x.same y with
 |false=>rfl
 |true=>have:=E.Q5 hs;subst this;simp only [cond_true,E.litS_eq,E.den,Zp,wrapK_eq];rw [Q6,Q6,J7,J7,J7,J7];omega
 cases hs:E.same a b with
 |false=>rfl
 |true=>rw [E.Q5 hs];simp only [cond_true,E.den,Zp,Int.sub_self,wrap_zero]
theorem E.Qln {n:Nat->Prop} {k:IntKind} {a b:E} (ha:a.ok n) (hb:b.ok n):(E.addN k a b).ok n:=by unfold E.addN;split;rw [sInt_eq];exact ⟨ha.1,trivial⟩;rw [sInt_eq];exact ⟨hb.1,trivial⟩;exact ⟨hb,trivial⟩;exact ⟨ha,hb⟩
theorem E.Qjr {n:Nat->Prop} {k:IntKind} {a b:E} (ha:a.ok n) (hb:b.ok n):(E.Qls k a b).ok n:=by
 unfold E.Qls;split;rw [sInt_eq];exact ⟨ha.1,trivial⟩;rename_i x p y q;cases hs:x.same y with
 |false=>exact ⟨ha,hb⟩
 |true=>simp only [cond_true,E.litS_eq];trivial
 rename_i x p y q;cases hs:x.same y with
 |false=>exact ⟨ha,hb⟩
 |true=>simp only [cond_true,E.litS_eq];trivial
 cases E.same a b with
 |false=>exact ⟨ha,hb⟩
 |true=>trivial
noncomputable def E.Qom (k:IntKind) (a b:E):E:=
 match k with
 | .i64=>E.Qm7 a b
 |k=>E.addN k a b
noncomputable def E.Qme (k:IntKind) (a b:E):E:=
 match k with
 | .i64=>E.Qlt a b
 |k=>E.Qls k a b
theorem E.Qbo {k:IntKind} {a b:E} {O:Val}:(E.Qom k a b).den O=Zp .add k (a.den O) (b.den O):=by unfold E.Qom;split;exact E.Q5j;exact E.Qbn
theorem E.Q44 {k:IntKind} {a b:E} {O:Val}:(E.Qme k a b).den O=Zp .sub k (a.den O) (b.den O):=by unfold E.Qme;split;exact E.Qa1;exact E.Qa0
theorem E.Qlo {n:Nat->Prop} {k:IntKind} {a b:E} (ha:a.ok n) (hb:b.ok n):(E.Qom k a b).ok n:=by unfold E.Qom;split;exact E.Q9r ha hb;exact E.Qln ha hb
theorem E.Qjs {n:Nat->Prop} {k:IntKind} {a b:E} (ha:a.ok n) (hb:b.ok n):(E.Qme k a b).ok n:=by unfold E.Qme;split;exact E.Qdl ha hb;exact E.Qjr ha hb
noncomputable def E.arith (op:BinOp) (k:IntKind) (a b:E):Option E:=
 match op,a,b with
 | .add, .lit x, .lit y=>some (.Q2a (Y8 k (x+y)))
 | .sub, .lit x, .lit y=>some (.Q2a (Y8 k (x-y)))
 | .mul, .lit x, .lit y=>some (.Q2a (Y8 k (x*y)))
 | .add,a,b=>some (E.Qom k a b)
 | .sub,a,b=>some (E.Qme k a b)
 | .mul,a,b=>some (.bin .mul k a b)
 |_,_,_=>none
theorem E.zq {P:Program} {w:World} {op:BinOp} {k:IntKind} {a b r:E} {O:Val} (h:E.arith op k a b=some r):
 (Op.intArith op k (a.den O) (b.den O)).run P w= .ok (.int k (r.den O)) w:=by
 unfold E.arith at h;split at h<;>simp only [Option.some.injEq,reduceCtorEq,E.litS_eq,wrapK_eq] at h<;>subst h<;>first
  |rfl
  |(rw [E.Qbo];rfl)
  |(rw [E.Q44];rfl)
theorem E.qh {n:Nat->Prop} {op:BinOp} {k:IntKind} {a b r:E} (h:E.arith op k a b=some r) (ha:a.ok n) (hb:b.ok n):r.ok n:=by unfold E.arith at h;split at h<;>simp only [Option.some.injEq,reduceCtorEq,E.litS_eq] at h<;>subst h<;>first|trivial|exact ⟨ha,hb⟩|exact E.Qlo ha hb|exact E.Qjs ha hb
def E.nz (c:Ctx) (b:E):Bool:=
 match (E.iv c.fs b).lo,(E.iv c.fs b).hi with
 |some l,some h=>ilt 0 l||ilt h 0
 |some l,none=>ilt 0 l
 |none,some h=>ilt h 0
 |none,none=>false
theorem E.Qhm {n:Nat->Prop} {c:Ctx} {b:E} {O:Val} (h:E.nz c b=true) (hc:c.okN n O):b.den O≠0:=by have hv:=E.Qd hc.2 b;unfold E.nz at h;split at h;rename_i l hh e1 e2;have:=hv.1 _ e1;have:=hv.2 _ e2;simp only [Bool.or_eq_true,JF,decide_eq_true_eq] at h;omega;rename_i l e1 e2;have:=hv.1 _ e1;simp only [JF,decide_eq_true_eq] at h;omega;rename_i hh e1 e2;have:=hv.2 _ e2;simp only [JF,decide_eq_true_eq] at h;omega;cases h
def E.nn (c:Ctx) (b:E):Bool:=
 match (E.iv c.fs b).lo with
 |some l=>ile 0 l
 |none=>false
theorem E.Qho {n:Nat->Prop} {c:Ctx} {b:E} {O:Val} (h:E.nn c b=true) (hc:c.okN n O):0<=b.den O:=by have hv:=E.Qd hc.2 b;unfold E.nn at h;split at h;rename_i l e1;have:=hv.1 _ e1;rw [QU] at h;omega;cases h
def E.Qjb (c:Ctx) (a:E):Bool:=
 match (E.iv c.fs a).lo,(E.iv c.fs a).hi with
 |some l,some h=>ile 0 l&&ile h 9223372036854775807
 |_,_=>false
theorem E.Q30 {n:Nat->Prop} {c:Ctx} {a:E} {O:Val} (h:E.Qjb c a=true) (hc:c.okN n O):0<=a.den O/\a.den O<=9223372036854775807:=by have hv:=E.Qd hc.2 a;unfold E.Qjb at h;split at h;rename_i l h' e1 e2;simp only [Bool.and_eq_true,QU] at h;have:=hv.1 _ e1;have:=hv.2 _ e2;omega;cases h
noncomputable def E.Qmx (c:Ctx) (a:E):E:=
 match a with
 | .bin .shr .i64 x (.lit (.ofNat p))=>bif Nat.ble p 40&&E.Qjb c x then QG (p+8) λr=> .bin .shr .i64 x (.lit (.ofNat r)) else .bin .quo .i64 (.bin .shr .i64 x (.lit (.ofNat p))) (.lit (.ofNat 256))
 |a=>bif E.Qjb c a then .bin .shr .i64 a (.lit (.ofNat 8)) else .bin .quo .i64 a (.lit (.ofNat 256))
theorem jw (x:Int) (p:Nat) (hp:p<=64):Zp .shr .i64 x (Int.ofNat p)=x/2^p:=by
 simp only [Zp];have:min ((Int.ofNat p).toNat) IntKind.i64.bits=p:=by simp only [Int.ofNat_eq_natCast,Int.toNat_natCast,IntKind.bits];omega
 rw [this,Int.fdiv_eq_ediv_of_nonneg _ (by exact_mod_cast Nat.zero_le (2^p))]
theorem Qeb (x:Int) (h0:0<=x) (h1:x<=9223372036854775807):Zp .quo .i64 x (Int.ofNat 256)=x/256:=by simp only [Zp];have e:(Int.ofNat 256)=(256:Int):=rfl;rw [e,Int.tdiv_eq_ediv_of_nonneg h0];exact wrap_within (by simp only [kLo];omega) (by simp only [kHi];omega)
theorem E.Qhd {n:Nat->Prop} {c:Ctx} {a:E} {O:Val} (hc:c.okN n O):(E.Qmx c a).den O=Zp .quo .i64 (a.den O) (Int.ofNat 256):=by
 unfold E.Qmx;split;rename_i x p;cases hb:(Nat.ble p 40&&E.Qjb c x) with
 |false=>rfl
 |true=>simp only [Bool.and_eq_true,Nat.ble_eq] at hb;obtain ⟨h0,h1⟩:=E.Q30 (O:=O) hb.2 hc;simp only [cond_true,sNat_eq,E.den];rw [jw _ _ (by omega),jw _ _ (by omega)];have h2:0<=x.den O/2^p:=Int.ediv_nonneg h0 (by exact_mod_cast Nat.zero_le (2^p));have h3:x.den O/2^p<=9223372036854775807:=Int.le_trans (Int.ediv_le_self _ h0) h1;rw [Qeb _ h2 h3,Int.pow_add,Int.ediv_ediv_of_nonneg (by exact_mod_cast Nat.zero_le (2^p))];rfl
 cases hb:E.Qjb c a with
 |false=>rfl
 |true=>obtain ⟨h0,h1⟩:=E.Q30 (O:=O) hb hc;simp only [cond_true,E.den];rw [jw _ _ (by omega),Qeb _ h0 h1];rfl
theorem E.Qka {n:Nat->Prop} {c:Ctx} {a:E} (ha:a.ok n):(E.Qmx c a).ok n:=by
 unfold E.Qmx;split;rename_i x p;cases (Nat.ble p 40&&E.Qjb c x) with
 |false=>exact ⟨ha,trivial⟩
 |true=>simp only [cond_true,sNat_eq];exact ⟨ha.1,trivial⟩
 cases E.Qjb c a with
 |false=>exact ⟨ha,trivial⟩
 |true=>exact ⟨ha,trivial⟩
noncomputable def E.Qmw (c:Ctx) (k:IntKind) (a b:E):E:=
 match k,b with
 | .i64, .lit (.ofNat q)=>bif Nat.beq q 256 then E.Qmx c a else .bin .quo .i64 a (.lit (.ofNat q))
 |k,b=> .bin .quo k a b
theorem E.Qhc {n:Nat->Prop} {c:Ctx} {k:IntKind} {a b:E} {O:Val} (hc:c.okN n O):(E.Qmw c k a b).den O=Zp .quo k (a.den O) (b.den O):=by
 unfold E.Qmw;split;rename_i q;cases hb:Nat.beq q 256 with
 |false=>rfl
 |true=>
  have:q=256:=by simpa using hb
  subst this;simp only [cond_true,E.Qhd hc];rfl
 rfl
theorem E.Qk9 {n:Nat->Prop} {c:Ctx} {k:IntKind} {a b:E} (ha:a.ok n) (hb:b.ok n):(E.Qmw c k a b).ok n:=by
 unfold E.Qmw;split;rename_i q;cases Nat.beq q 256 with
 |false=>exact ⟨ha,trivial⟩
 |true=>exact E.Qka ha
 exact ⟨ha,hb⟩
noncomputable def E.Qmt (c:Ctx) (k:IntKind) (a b:E):E:=
 match k,b with
 | .i64, .lit (.ofNat q)=>match a.base with
  |(.bin .rem .i64 y (.lit (.ofNat m)), .ofNat p)=>
   bif (Nat.beq q m&&Nat.blt 0 q)&&(((E.iv c.fs (.bin .rem .i64 y (.lit (.ofNat m)))).fits (.ofNat p))&&(match (E.iv c.fs y).lo,(E.iv c.fs y).hi with
    |some (.ofNat _),some h=>ile (h+ .ofNat q) 9223372036854775807
    |_,_=>false)) then .bin .rem .i64 (E.Qm7 y (QG (Nat.mod p q) λr=> .lit (.ofNat r))) (.lit (.ofNat q))
   else .bin .rem .i64 a (.lit (.ofNat q))
  |_=> .bin .rem .i64 a (.lit (.ofNat q))
 |k,b=> .bin .rem k a b
theorem E.Qha {n:Nat->Prop} {c:Ctx} {k:IntKind} {a b:E} {O:Val} (hc:c.okN n O):(E.Qmt c k a b).den O=Zp .rem k (a.den O) (b.den O):=by
 unfold E.Qmt;split;rename_i q;split;rename_i y m p ha;cases hb:((Nat.beq q m&&Nat.blt 0 q)&&(((E.iv c.fs (.bin .rem .i64 y (.lit (.ofNat m)))).fits (.ofNat p))&&(match (E.iv c.fs y).lo,(E.iv c.fs y).hi with
  |some (.ofNat _),some h=>ile (h+ .ofNat q) 9223372036854775807
  |_,_=>false))) with
 |false=>rfl
 |true=>
  simp only [Bool.and_eq_true,Nat.beq_eq] at hb;obtain ⟨⟨h1,h2⟩,h3,h4⟩:=hb;subst h1;have h2:0<q:=by have h2' :1<=q:=(by simpa [Nat.blt] using h2);omega
  split at h4;rename_i l u e1 e2;rw [QU] at h4;have f1:=(E.Qd (O:=O) hc.2 y).1 _ e1
  have f2:=(E.Qd (O:=O) hc.2 y).2 _ e2
  have ga:=E.Jm (O:=O) hc.2 a (by rw [ha];exact h3);rw [ha] at ga;simp only [E.den,Zp] at ga;have z1:(0:Int)<=y.den O:=Int.le_trans (Int.natCast_nonneg l) f1;have r1:(y.den O).tmod (Int.ofNat q)=y.den O%(q:Int):=Int.tmod_eq_emod_of_nonneg z1
  have hq:(0:Int)<(q:Int):=by omega
  have hlt:=Int.emod_lt_of_pos (p:Int) hq;have hge:=Int.emod_nonneg (p:Int) (show (q:Int)≠0 by omega);have m1:=Int.emod_nonneg (y.den O) (show (q:Int)≠0 by omega);have hn:((Nat.mod p q:Nat):Int)=(p:Int)%(q:Int):=Int.natCast_emod p q;simp only [cond_true,E.den,Zp,sNat_eq];rw [E.Q5j];simp only [E.den,Zp];have hw:IntKind.i64.wrap (y.den O+Int.ofNat (Nat.mod p q))=y.den O+(p:Int)%(q:Int):=by rw [show Int.ofNat (Nat.mod p q)=(p:Int)%(q:Int) from hn,Q6];have:(Int.ofNat q)=(q:Int):=rfl;omega
  rw [hw,ga,r1];have s1:(y.den O+(p:Int)%(q:Int)).tmod (Int.ofNat q)=(y.den O+(p:Int)%(q:Int))%(q:Int):=Int.tmod_eq_emod_of_nonneg (by omega)
  have s2:(y.den O%(q:Int)+Int.ofNat p).tmod (Int.ofNat q)=(y.den O%(q:Int)+Int.ofNat p)%(q:Int):=Int.tmod_eq_emod_of_nonneg (Int.add_nonneg m1 (Int.natCast_nonneg p))
  rw [s1,s2];show (y.den O+(p:Int)%(q:Int))%(q:Int)=(y.den O%(q:Int)+(p:Int))%(q:Int);rw [Int.add_emod_emod,Int.emod_add_emod];cases h4
 rfl;rfl
theorem E.Qk5 {n:Nat->Prop} {c:Ctx} {k:IntKind} {a b:E} (ha:a.ok n) (hb:b.ok n):(E.Qmt c k a b).ok n:=by
 unfold E.Qmt;split
 . rename_i q;split
   . rename_i y m p he;have hy:y.ok n:=by unfold E.base at he;split at he;cases he;exact ha.1.1;cases he;exact ha.1
     split
     all_goals first|exact ⟨ha,trivial⟩|skip
     all_goals (cases ((Nat.beq q m&&Nat.blt 0 q)&&(((E.iv c.fs (.bin .rem .i64 y (.lit (.ofNat m)))).fits (.ofNat p))&&_))<;>first|exact ⟨ha,trivial⟩|exact ⟨E.Q9r hy (by rw [sNat_eq];trivial),trivial⟩)
   exact ⟨ha,trivial⟩
 exact ⟨ha,hb⟩
noncomputable def E.divide (c:Ctx) (op:BinOp) (k:IntKind) (a b:E):Option E:=
 match a,b with
 | .lit x, .lit y=>bif ieq y 0 then none else
  match op with
  | .quo=>some (.Q2a (Y8 k (x.tdiv y)))
  | .rem=>some (.Q2a (x.tmod y))
  |_=>none
 |a,b=>bif E.nz c b then
  match op with
  | .quo=>some (E.Qmw c k a b)
  | .rem=>some (E.Qmt c k a b)
  |_=>none
  else none
theorem E.Q77 {n:Nat->Prop} {P:Program} {w:World} {c:Ctx} {op:BinOp} {k:IntKind} {a b r:E} {O:Val} (hc:c.okN n O) (h:E.divide c op k a b=some r):
 (Op.intDiv op k (a.den O) (b.den O)).run P w= .ok (.int k (r.den O)) w:=by
 unfold E.divide at h;split at h;rename_i x y;rw [qG] at h;cases hy:(y==0) with
 |true=>rw [hy] at h;simp at h
 |false=>
  rw [hy] at h;have hy0:y≠0:=by simpa using hy
  simp only [cond_false] at h;split at h<;>simp only [Option.some.injEq,reduceCtorEq,E.litS_eq,wrapK_eq] at h<;>subst h<;>simp only [E.den,Op.intDiv,hy0,if_false]<;>rfl
 cases hz:E.nz c b with
 |false=>rw [hz] at h;cases h
 |true=>rw [hz] at h;have h0:=E.Qhm hz hc;simp only [cond_true] at h;split at h<;>simp only [Option.some.injEq,reduceCtorEq] at h<;>subst h;rw [E.Qhc hc];simp only [Op.intDiv,h0,if_false,Zp]<;>rfl;rw [E.Qha hc];simp only [Op.intDiv,h0,if_false,Zp]<;>rfl
theorem E.Qfk {n:Nat->Prop} {c:Ctx} {op:BinOp} {k:IntKind} {a b r:E} (h:E.divide c op k a b=some r) (ha:a.ok n) (hb:b.ok n):r.ok n:=by
 unfold E.divide at h;split at h;rename_i x y;cases hy:ieq y 0 with
 |true=>rw [hy] at h;cases h
 |false=>rw [hy] at h;simp only [cond_false] at h;split at h<;>simp only [Option.some.injEq,reduceCtorEq,E.litS_eq] at h<;>subst h<;>trivial
 cases hz:E.nz c b with
 |false=>rw [hz] at h;cases h
 |true=>rw [hz] at h;simp only [cond_true] at h;split at h<;>simp only [Option.some.injEq,reduceCtorEq] at h<;>subst h;exact E.Qk9 ha hb;exact E.Qk5 ha hb
noncomputable def E.Qd1 (op:BinOp) (k:IntKind) (a b:E):Option E:=
 match op with
 | .and=>some (.bin .and k a b)
 | .or=>some (.bin .or k a b)
 | .xor=>some (.bin .xor k a b)
 | .andNot=>some (.bin .andNot k a b)
 |_=>none
noncomputable def E.bits (op:BinOp) (k:IntKind) (a b:E):Option E:=
 match a,b with
 | .lit (.ofNat x), .lit (.ofNat y)=>bif Zl k (.ofNat x)&&Zl k (.ofNat y) then
  match op with
  | .and=>some (.Q2a (Y8 k (.ofNat (Nat.land x y))))
  | .or=>some (.Q2a (Y8 k (.ofNat (Nat.lor x y))))
  | .xor=>some (.Q2a (Y8 k (.ofNat (Nat.xor x y))))
  | .andNot=>some (.Q2a (Y8 k (.ofNat (Nat.xor x (Nat.land x y)))))
  |_=>none
  else E.Qd1 op k (.lit (.ofNat x)) (.lit (.ofNat y))
 |a,b=>E.Qd1 op k a b
theorem yu {k:IntKind} {x:Nat} (h:Zl k (.ofNat x)=true):x<2^k.bits:=by cases k<;>simp only [Zl,Nat.ble_eq] at h<;>simp only [IntKind.bits]<;>omega
theorem Qd4 (x y:Nat) {n:Nat} (hx:x<2^n) (hy:y<2^n):x &&& (2^n-1-y)=x ^^^ (x &&& y):=by apply Nat.eq_of_testBit_eq;intro i;rw [show 2^n-1-y=2^n-(y+1) from by omega];simp only [Nat.testBit_and,Nat.testBit_xor,Nat.testBit_two_pow_sub_succ hy];by_cases hi:i<n;simp only [hi,decide_true,Bool.true_and];cases x.testBit i<;>cases y.testBit i<;>rfl;have:x.testBit i=false:=Nat.testBit_lt_two_pow (Nat.lt_of_lt_of_le hx (Nat.pow_le_pow_right (by omega) (by omega)));simp [this]
theorem E.Q1w {P:Program} {w:World} {op:BinOp} {k:IntKind} {a b r:E} {O:Val} (h:E.Qd1 op k a b=some r):
 (Op.intBits op k (a.den O) (b.den O)).run P w= .ok (.int k (r.den O)) w:=by
 unfold E.Qd1 at h;split at h<;>simp only [Option.some.injEq,reduceCtorEq] at h<;>subst h<;>rfl
theorem E.Q3s {P:Program} {w:World} {op:BinOp} {k:IntKind} {a b r:E} {O:Val} (h:E.bits op k a b=some r):
 (Op.intBits op k (a.den O) (b.den O)).run P w= .ok (.int k (r.den O)) w:=by
 unfold E.bits at h;split at h;rename_i x y;cases hk:(Zl k (.ofNat x)&&Zl k (.ofNat y)) with
 |false=>rw [hk] at h;exact E.Q1w h
 |true=>
  rw [hk] at h;simp only [Bool.and_eq_true] at hk;have hx:=yu hk.1;have hy:=yu hk.2;have ex:(BitVec.ofInt k.bits (Int.ofNat x))=BitVec.ofNat k.bits x:=by simp
  have ey:(BitVec.ofInt k.bits (Int.ofNat y))=BitVec.ofNat k.bits y:=by simp
  simp only [cond_true] at h;simp only [E.den,Op.intBits,ex,ey];split at h<;>simp only [Option.some.injEq,reduceCtorEq,E.litS_eq,wrapK_eq] at h<;>subst h<;>
   simp only [BitVec.toNat_and,BitVec.toNat_or,BitVec.toNat_xor,BitVec.toNat_not,BitVec.toNat_ofNat,Nat.mod_eq_of_lt hx,Nat.mod_eq_of_lt hy]
  rfl;rfl;rfl;rw [Qd4 x y hx hy];rfl
 exact E.Q1w h
theorem E.Qbh {n:Nat->Prop} {op:BinOp} {k:IntKind} {a b r:E} (h:E.Qd1 op k a b=some r) (ha:a.ok n) (hb:b.ok n):r.ok n:=by unfold E.Qd1 at h;split at h<;>simp only [Option.some.injEq,reduceCtorEq] at h<;>subst h<;>exact ⟨ha,hb⟩
theorem E.Qg5 {n:Nat->Prop} {op:BinOp} {k:IntKind} {a b r:E} (h:E.bits op k a b=some r) (ha:a.ok n) (hb:b.ok n):r.ok n:=by
 unfold E.bits at h;split at h;rename_i x y;cases hk:(Zl k (.ofNat x)&&Zl k (.ofNat y)) with
 |false=>rw [hk] at h;exact E.Qbh h ha hb
 |true=>rw [hk] at h;simp only [cond_true] at h;split at h<;>simp only [Option.some.injEq,reduceCtorEq,E.litS_eq] at h<;>subst h<;>trivial
 exact E.Qbh h ha hb
noncomputable def E.shift (c:Ctx) (op:BinOp) (k:IntKind) (a b:E):Option E:=
 match a,b with
 | .lit x, .lit (.ofNat y)=>
  match op with
  | .shl=>some (.Q2a (Y8 k (x*2^(min y k.bits))))
  | .shr=>some (.Q2a (x.fdiv (2^(min y k.bits))))
  |_=>none
 |a,b=>bif E.nn c b then
  match op with
  | .shl=>some (.bin .shl k a b)
  | .shr=>some (.bin .shr k a b)
  |_=>none
  else none
theorem E.Q8h {n:Nat->Prop} {P:Program} {w:World} {c:Ctx} {op:BinOp} {k j:IntKind} {a b r:E} {O:Val} (hc:c.okN n O) (h:E.shift c op k a b=some r):
 (Op.shift op k (a.den O) j (b.den O)).run P w= .ok (.int k (r.den O)) w:=by
 unfold E.shift at h;split at h;rename_i x y;have hy:¬((Int.ofNat y)<0):=by simp
 split at h<;>simp only [Option.some.injEq,reduceCtorEq,E.litS_eq,wrapK_eq] at h<;>subst h<;>simp only [E.den,Op.shift,hy,if_false]<;>rfl;cases hz:E.nn c b with
 |false=>rw [hz] at h;cases h
 |true=>
  rw [hz] at h;have h0:=E.Qho hz hc;have hy:¬(b.den O<0):=by omega
  simp only [cond_true] at h;split at h<;>simp only [Option.some.injEq,reduceCtorEq] at h<;>subst h<;>simp only [E.den,Op.shift,hy,if_false,Zp]<;>rfl
theorem E.Qh2 {n:Nat->Prop} {c:Ctx} {op:BinOp} {k:IntKind} {a b r:E} (h:E.shift c op k a b=some r) (ha:a.ok n) (hb:b.ok n):r.ok n:=by
 unfold E.shift at h;split at h;split at h<;>simp only [Option.some.injEq,reduceCtorEq,E.litS_eq] at h<;>subst h<;>trivial;cases hz:E.nn c b with
 |false=>rw [hz] at h;cases h
 |true=>rw [hz] at h;simp only [cond_true] at h;split at h<;>simp only [Option.some.injEq,reduceCtorEq] at h<;>subst h<;>exact ⟨ha,hb⟩
noncomputable def E.Qg2 (y:E):E:=
 match y with
 | .bin .shr .i64 x p=> .cnv .u8 (.bin .shr .i64 x p)
 |y=> .cnv .u8 (.bin .shr .i64 y (.lit (.ofNat 0)))
theorem jl (n:Int):IntKind.u8.wrap n=n%256:=by simp [IntKind.wrap,IntKind.bits,IntKind.signed]
theorem E.Qg1 {y:E} {O:Val}:(E.Qg2 y).den O=IntKind.u8.wrap (Zp .rem .i64 (y.den O) (Int.ofNat 256)):=by
 have h:∀x:Int,IntKind.u8.wrap (Zp .rem .i64 x (Int.ofNat 256))=IntKind.u8.wrap x:=by intro x;simp only [Zp,jl];have e:(Int.ofNat 256)=(256:Int):=rfl;rw [e,Int.tmod_eq_emod];split<;>omega
 rw [h];unfold E.Qg2;split;rfl;simp only [E.den];rw [jw _ _ (by omega)];simp
theorem E.Qis {n:Nat->Prop} {y:E} (h:y.ok n):(E.Qg2 y).ok n:=by unfold E.Qg2;split;exact h;exact ⟨h,trivial⟩
noncomputable def E.conv (k:IntKind) (a:E):Option E:=
 match a with
 | .lit x=>some (.Q2a (Y8 k x))
 | .bin .rem .i64 y (.lit (.ofNat q))=>match k with
  | .u8=>bif Nat.beq q 256 then some (E.Qg2 y) else some (.cnv k (.bin .rem .i64 y (.lit (.ofNat q))))
  |k=>some (.cnv k (.bin .rem .i64 y (.lit (.ofNat q))))
 |a=>some (.cnv k a)
theorem E.JZ {k:IntKind} {a r:E} {O:Val} (h:E.conv k a=some r):k.wrap (a.den O)=r.den O:=by
 unfold E.conv at h;split at h;simp only [Option.some.injEq,E.litS_eq,wrapK_eq] at h;subst h;rfl;rename_i y q;split at h;cases hb:Nat.beq q 256 with
 |false=>rw [hb] at h;cases h;rfl
 |true=>
  rw [hb] at h;cases h;have:q=256:=by simpa using hb
  subst this;rw [E.Qg1];rfl
 cases h;rfl;cases h;rfl
theorem E.Qfq {n:Nat->Prop} {k:IntKind} {a r:E} (h:E.conv k a=some r) (ha:a.ok n):r.ok n:=by
 unfold E.conv at h;split at h;simp only [Option.some.injEq,E.litS_eq] at h;subst h;trivial;rename_i y q;split at h;cases hb:Nat.beq q 256 with
 |false=>rw [hb] at h;cases h;exact ha
 |true=>rw [hb] at h;cases h;exact E.Qis ha.1
 cases h;exact ha;cases h;exact ha
theorem Q5u (n:Int):IntKind.i32.wrap (IntKind.u32.wrap n)=IntKind.i32.wrap n:=by simp [IntKind.wrap,IntKind.bits,IntKind.signed]
theorem Q5t (n:Int):IntKind.u32.wrap (IntKind.u32.wrap n)=IntKind.u32.wrap n:=by simp [IntKind.wrap,IntKind.bits,IntKind.signed]
theorem Q8b (n:Int):IntKind.i32.wrap (IntKind.i64.wrap n)=IntKind.i32.wrap n:=by
 rw [Q6];simp only [IntKind.wrap,IntKind.bits,IntKind.signed];have:((n+9223372036854775808)%18446744073709551616-9223372036854775808)%4294967296=n%4294967296:=by omega
 simp [this]
theorem Q8a (n:Int):IntKind.u32.wrap (IntKind.i64.wrap n)=IntKind.u32.wrap n:=by
 rw [Q6];simp only [IntKind.wrap,IntKind.bits,IntKind.signed];have:((n+9223372036854775808)%18446744073709551616-9223372036854775808)%4294967296=n%4294967296:=by omega
 simp [this]
noncomputable def E.Q50 (c:Ctx) (k:IntKind) (a:E):Option E:=bif (E.iv c.fs a).within k then some a else E.conv k a
noncomputable def E.Q79 (c:Ctx) (k:IntKind) (a:E):Option E:=
 match k,a with
 | .i64, .lit x=>E.conv .i64 (.lit x)
 | .i64,a=>E.Q50 c .i64 a
 | .i32, .lit x=>E.conv .i32 (.lit x)
 | .i32, .cnv .u32 y=>E.Q50 c .i32 y
 | .i32,a=>E.Q50 c .i32 a
 | .u32, .lit x=>E.conv .u32 (.lit x)
 | .u32, .cnv .u32 y=>E.Q50 c .u32 y
 | .u32,a=>E.Q50 c .u32 a
 |k,a=>E.conv k a
theorem E.zk {n:Nat->Prop} {c:Ctx} {k:IntKind} {a r:E} {O:Val} (hc:c.okN n O) (h:E.Q50 c k a=some r):k.wrap (a.den O)=r.den O:=by
 unfold E.Q50 at h;cases hw:(E.iv c.fs a).within k with
 |true=>rw [hw] at h;cases h;exact Iv.jX hw (E.Qd hc.2 a)
 |false=>rw [hw] at h;exact E.JZ h
theorem E.Qif {n:Nat->Prop} {c:Ctx} {k:IntKind} {a r:E} (h:E.Q50 c k a=some r) (ha:a.ok n):r.ok n:=by
 unfold E.Q50 at h;cases hw:(E.iv c.fs a).within k with
 |true=>rw [hw] at h;cases h;exact ha
 |false=>rw [hw] at h;exact E.Qfq h ha
theorem E.zm {n:Nat->Prop} {c:Ctx} {k:IntKind} {a r:E} {O:Val} (hc:c.okN n O) (h:E.Q79 c k a=some r):k.wrap (a.den O)=r.den O:=by
 unfold E.Q79 at h;split at h
 case h_4=>rw [<-E.zk (O:=O) hc h];simp only [E.den];exact Q5u _
 case h_7=>rw [<-E.zk (O:=O) hc h];simp only [E.den];exact Q5t _
 all_goals first|exact E.zk hc h|exact E.JZ h
theorem E.Q51 {n:Nat->Prop} {c:Ctx} {k:IntKind} {a r:E} (h:E.Q79 c k a=some r) (ha:a.ok n):r.ok n:=by unfold E.Q79 at h;split at h<;>first|exact E.Qif h ha|exact E.Qfq h ha
theorem E.Qfr (c:Ctx) (k:IntKind) (x:Int):E.Q79 c k (.lit x)=some (.Q2a (Y8 k x)):=by cases k<;>rfl
noncomputable def E.plain (c:Ctx) (a:E):E:=
 match a with
 | .bin .add .i64 x (.lit (.ofNat 0))=>bif (E.iv c.fs x).within .i64 then x else .bin .add .i64 x (.lit (.ofNat 0))
 |a=>a
theorem E.Q0y {n:Nat->Prop} {c:Ctx} {a:E} {O:Val} (hc:c.okN n O):(E.plain c a).den O=a.den O:=by
 unfold E.plain;split;rename_i x;cases hw:(E.iv c.fs x).within .i64 with
 |false=>rfl
 |true=>have:=Iv.jX hw (E.Qd (O:=O) hc.2 x);simp only [cond_true,E.den,Zp];show _=IntKind.i64.wrap (x.den O+0);rw [Int.add_zero,this]
 rfl
theorem E.Q4e {n:Nat->Prop} {c:Ctx} {a:E} (ha:a.ok n):(E.plain c a).ok n:=by
 unfold E.plain;split;rename_i x;cases (E.iv c.fs x).within .i64 with
 |false=>exact ha
 |true=>exact ha.1
 exact ha
noncomputable def E.Qey (c:Ctx) (a:E):E:=
 match a with
 | .bin .add .i64 (.bin .add .i64 (.lit (.ofNat 0)) (.bin .mul .i64 (.cnv .u8 (.bin .shr .i64 x (.lit (.ofNat 8)))) (.lit (.ofNat 256)))) (.cnv .u8 (.bin .shr .i64 y (.lit (.ofNat 0))))=>
  bif x.same y&&(match (E.iv c.fs x).lo,(E.iv c.fs x).hi with
   |some (.ofNat _),some h=>ile h 65535
   |_,_=>false) then x
  else .bin .add .i64 (.bin .add .i64 (.lit (.ofNat 0)) (.bin .mul .i64 (.cnv .u8 (.bin .shr .i64 x (.lit (.ofNat 8)))) (.lit (.ofNat 256)))) (.cnv .u8 (.bin .shr .i64 y (.lit (.ofNat 0))))
 |a=>a
theorem E.Qex {n:Nat->Prop} {c:Ctx} {a:E} {O:Val} (hc:c.okN n O):(E.Qey c a).den O=a.den O:=by
 unfold E.Qey;split;rename_i x y;cases hs:x.same y&&(match (E.iv c.fs x).lo,(E.iv c.fs x).hi with
  |some (.ofNat _),some h=>ile h 65535
  |_,_=>false) with
 |false=>rfl
 |true=>
  simp only [cond_true];rw [Bool.and_eq_true] at hs;have he:=E.Q5 hs.1;subst he;have h2:=hs.2;split at h2;rename_i l u e1 e2;have f1:=(E.Qd (O:=O) hc.2 x).1 _ e1
  have f2:=(E.Qd (O:=O) hc.2 x).2 _ e2
  rw [QU] at h2;have z1:(0:Int)<=x.den O:=Int.le_trans (Int.natCast_nonneg l) f1;have s8:=jw (x.den O) 8 (by omega);have s0:=jw (x.den O) 0 (by omega);have e8:Zp .shr .i64 (x.den O) (Int.ofNat 8)=x.den O/256:=s8
  have e0:Zp .shr .i64 (x.den O) (Int.ofNat 0)=x.den O:=by rw [s0];simp
  simp only [E.den];rw [e8,e0,jl,jl];show _=IntKind.i64.wrap (IntKind.i64.wrap (Int.ofNat 0+IntKind.i64.wrap (x.den O/256%256*Int.ofNat 256))+x.den O%256);rw [Q6,Q6,Q6];have o0:Int.ofNat 0=0:=rfl;have o1:Int.ofNat 256=256:=rfl;rw [o0,o1];omega;cases h2
 rfl
theorem E.Qi2 {n:Nat->Prop} {c:Ctx} {a:E} (ha:a.ok n):(E.Qey c a).ok n:=by
 unfold E.Qey;split;rename_i x y;cases (x.same y&&(match (E.iv c.fs x).lo,(E.iv c.fs x).hi with
  |some (.ofNat _),some h=>ile h 65535
  |_,_=>false)) with
 |false=>exact ha
 |true=>exact ha.1.2.1.1
 exact ha
def isAdd:BinOp->Bool
 | .add| .sub| .mul=>true
 |_=>false
noncomputable def E.Q7s (c:Ctx) (op:BinOp) (k:IntKind) (a b:E):Option E:=
 match k with
 | .i64=>match E.arith op .i64 a b with
  |some r=>some (E.Qey c (E.plain c r))
  |none=>none
 | .i32=>match E.arith op .i64 a b with
  |some r=>E.Q79 c .i32 (E.plain c r)
  |none=>none
 | .u32=>match E.arith op .i64 a b with
  |some r=>E.Q79 c .u32 (E.plain c r)
  |none=>none
 |k=>E.arith op k a b
theorem E.jS {op:BinOp} {k:IntKind} {a b r:E} {O:Val} (h:E.arith op k a b=some r):r.den O=Zp op k (a.den O) (b.den O)/\isAdd op=true:=by
 unfold E.arith at h;split at h<;>simp only [Option.some.injEq,reduceCtorEq,E.litS_eq,wrapK_eq] at h<;>subst h<;>first
  |exact ⟨rfl,rfl⟩
  |exact ⟨E.Qbo,rfl⟩
  |exact ⟨E.Q44,rfl⟩
theorem E.Q7r {n:Nat->Prop} {P:Program} {w:World} {c:Ctx} {op:BinOp} {k:IntKind} {a b r:E} {O:Val} (hc:c.okN n O) (h:E.Q7s c op k a b=some r):
 (Op.intArith op k (a.den O) (b.den O)).run P w= .ok (.int k (r.den O)) w:=by
 have fin:∀(k' :IntKind) (z:Int),isAdd op=true->z=Zp op k' (a.den O) (b.den O)->(Op.intArith op k' (a.den O) (b.den O)).run P w= .ok (.int k' z) w:=by intro k' z hop hz;subst hz;cases op<;>first|(cases hop;done)|rfl
 unfold E.Q7s at h;split at h;split at h;rename_i q hq;cases h;obtain ⟨h1,h2⟩:=E.jS (O:=O) hq;exact fin _ _ h2 (by rw [E.Qex hc,E.Q0y hc,h1]);cases h
 . split at h
   . rename_i q hq;obtain ⟨h1,h2⟩:=E.jS (O:=O) hq;refine fin _ _ h2 ?_;rw [<-E.zm (O:=O) hc h,E.Q0y hc,h1];cases op<;>first|(cases h2;done)|exact Q8b _
   cases h
 . split at h
   . rename_i q hq;obtain ⟨h1,h2⟩:=E.jS (O:=O) hq;refine fin _ _ h2 ?_;rw [<-E.zm (O:=O) hc h,E.Q0y hc,h1];cases op<;>first|(cases h2;done)|exact Q8a _
   cases h
 exact E.zq h
theorem E.Qga {n:Nat->Prop} {c:Ctx} {op:BinOp} {k:IntKind} {a b r:E} (h:E.Q7s c op k a b=some r) (ha:a.ok n) (hb:b.ok n):r.ok n:=by unfold E.Q7s at h;split at h;split at h;rename_i q hq;cases h;exact E.Qi2 (E.Q4e (E.qh hq ha hb));cases h;split at h;rename_i q hq;exact E.Q51 h (E.Q4e (E.qh hq ha hb));cases h;split at h;rename_i q hq;exact E.Q51 h (E.Q4e (E.qh hq ha hb));cases h;exact E.qh h ha hb
noncomputable def E.Q3v (c:Ctx) (op:BinOp) (k:IntKind) (a b:E):Option E:=
 match a,b with
 | .lit x, .lit y=>E.arith op k (.lit x) (.lit y)
 |a,b=>E.Q7s c op k a b
theorem E.jT (c:Ctx) (op:BinOp) (k:IntKind) (x y:Int):E.Q3v c op k (.lit x) (.lit y)=E.arith op k (.lit x) (.lit y):=rfl
theorem E.Q7t {n:Nat->Prop} {P:Program} {w:World} {c:Ctx} {op:BinOp} {k:IntKind} {a b r:E} {O:Val} (hc:c.okN n O) (h:E.Q3v c op k a b=some r):
 (Op.intArith op k (a.den O) (b.den O)).run P w= .ok (.int k (r.den O)) w:=by
 unfold E.Q3v at h;split at h;exact E.zq h;exact E.Q7r hc h
theorem E.Qgb {n:Nat->Prop} {c:Ctx} {op:BinOp} {k:IntKind} {a b r:E} (h:E.Q3v c op k a b=some r) (ha:a.ok n) (hb:b.ok n):r.ok n:=by unfold E.Q3v at h;split at h;exact E.qh h ha hb;exact E.Qga h ha hb
def Qmz:BinOp->BinOp
 | .lss=> .gtr
 | .leq=> .geq
 | .gtr=> .lss
 | .geq=> .leq
 |o=>o
noncomputable def E.askD (c:Ctx) (op:BinOp) (a b:E):BinOp×E×E:=
 bif ((E.iv c.fs a).minus (E.iv c.fs b)).mid then
  match E.diff a b with
  |(g,x,p)=>bif ((E.ivT c.fs x).sh g p).mid&&Zl .i64 (bif g then p else-p) then
   bif g then (Qmz op,x, .Q2a p) else (op,x, .Q2a (-p))
   else (op,a,b)
 else (op,a,b)
noncomputable def E.askN (c:Ctx) (op:BinOp) (a b:E):BinOp×E×E:=
 match b with
 | .lit _=>match a with
  | .bin .add .i64 _ _=>E.askD c op a b
  | .bin .sub .i64 _ _=>E.askD c op a b
  |_=>(op,a,b)
 |_=>E.askD c op a b
def E.nat?:E->Option Nat
 | .lit (.ofNat n)=>some n
 |_=>none
theorem E.jD {a:E} {n:Nat} {O:Val} (h:a.nat?=some n):a.den O=n:=by
 cases a with
 |lit x=>cases x<;>simp [E.nat?] at h;subst h;rfl
 |_=>cases h
end Go.Ax
namespace Go.Ax
open Go.RowKit
inductive ST where
 |var (i:Nat)
 |bs (l:List E)
 |cat (a b:ST)
 |sub (a:ST) (lo hi:E)
inductive AV where
 |bool (b:Bool)
 |int (k:IntKind) (e:E)
 |str (s:List E)
 |sstr (s:ST)
 |ptr (b o:Nat)
 |nilptr
 |slice (b o len cap es:Nat) (ex:Bool)
 |nilslice
 |wslice (b o n es:Nat) (l:Nat)
 |map (r:Nat)
 |nilmap
 |func (f:FuncId) (first captured:List AV)
 |yield (l:Nat)
 |nilFunc
 |iface (t:TypeId) (v:AV)
 |nilIface
 |agg (cs:List AV)
 |tuple (vs:List AV)
 |any
 |top
 deriving Inhabited
structure Place where
 blk:Nat
 base:Nat
 n:Nat
structure Ext where
 V:Nat->Option Place
 O:Val
def Ext.dom (X:Ext) (i:Nat):Prop:=∃p,X.V i=some p
structure Ext.le (X Y:Ext):Prop where
 V:∀b p,X.V b=some p->Y.V b=some p
 O:Val.agree X.dom X.O Y.O
theorem Ext.le.dom {X Y:Ext} (h:X.le Y):∀i,X.dom i->Y.dom i:=λ_ ⟨p,hp⟩=>⟨p,h.V _ _ hp⟩
theorem Ext.le.refl (X:Ext):X.le X:=⟨λ_ _ h=>h,λ_ _=>⟨rfl,rfl⟩⟩
theorem Ext.le.trans {X Y Z:Ext} (h:X.le Y) (k:Y.le Z):X.le Z:=⟨λb p e=>k.V b p (h.V b p e),λi hi=>⟨((k.O i (h.dom i hi)).1).trans (h.O i hi).1,((k.O i (h.dom i hi)).2).trans (h.O i hi).2⟩⟩
def S.bytes (O:Val) (s:List E):List UInt8:=s.map λt=>UInt8.ofNat (t.den O).toNat
def S.okN (n:Nat->Prop) (O:Val) (s:List E):Prop:=∀t∈s,t.ok n/\0<=t.den O/\t.den O<256
theorem S.Jk {n:Nat->Prop} {O O' :Val} (h:Val.agree n O O'):∀{s:List E},(∀t∈s,t.ok n)->S.bytes O' s=S.bytes O s
 |[],_=>rfl
 |t::s,hs=>by
  have e:S.bytes O' (t::s)=UInt8.ofNat (t.den O').toNat::S.bytes O' s:=rfl
  have e' :S.bytes O (t::s)=UInt8.ofNat (t.den O).toNat::S.bytes O s:=rfl
  rw [e,e',E.Qc h (hs t (by simp)),S.Jk h (λu hu=>hs u (by simp [hu]))]
theorem S.Qn0 {n m:Nat->Prop} {O O' :Val} (h:Val.agree n O O') (hm:∀i,n i->m i) {s:List E} (hs:S.okN n O s):S.okN m O' s:=λt ht=>⟨E.Ql hm (hs t ht).1,by rw [E.Qc h (hs t ht).1];exact (hs t ht).2⟩
def ST.den (O:Val):ST->List UInt8
 | .var i=>O.str i
 | .bs l=>S.bytes O l
 | .cat a b=>a.den O++b.den O
 | .sub a lo hi=>((a.den O).drop (lo.den O).toNat).take ((hi.den O).toNat-(lo.den O).toNat)
def ST.ok (n:Nat->Prop):ST->Prop
 | .var i=>n i
 | .bs l=>∀t∈l,t.ok n
 | .cat a b=>a.ok n/\b.ok n
 | .sub a lo hi=>a.ok n/\lo.ok n/\hi.ok n
theorem ST.Ql {n m:Nat->Prop} (h:∀i,n i->m i):∀{s:ST},s.ok n->s.ok m
 | .var _,k=>h _ k
 | .bs _,k=>λt ht=>E.Ql h (k t ht)
 | .cat _ _,k=>⟨ST.Ql h k.1,ST.Ql h k.2⟩
 | .sub _ _ _,k=>⟨ST.Ql h k.1,E.Ql h k.2.1,E.Ql h k.2.2⟩
theorem ST.Qc {n:Nat->Prop} {O O' :Val} (h:Val.agree n O O'):∀{s:ST},s.ok n->s.den O' =s.den O
 | .var i,k=>(h i k).2
 | .bs _,k=>S.Jk h k
 | .cat _ _,k=>by simp only [ST.den,ST.Qc h k.1,ST.Qc h k.2]
 | .sub _ _ _,k=>by simp only [ST.den,ST.Qc h k.1,E.Qc h k.2.1,E.Qc h k.2.2]
def ST.len:ST->E
 | .var i=> .len i
 | .bs l=> .lit (.ofNat l.length)
 | .cat a b=> .bin .add .i64 a.len b.len
 | .sub _ lo hi=> .bin .sub .i64 hi lo
theorem ST.Q34 {n:Nat->Prop}:∀{s:ST},s.ok n->s.len.ok n
 | .var _,k=>k
 | .bs _,_=>trivial
 | .cat _ _,k=>⟨ST.Q34 k.1,ST.Q34 k.2⟩
 | .sub _ _ _,k=>⟨k.2.2,k.2.1⟩
def ST.fit (O:Val) (s:ST):Prop:=s.len.den O=((s.den O).length:Int)
theorem ST.Q1i {n:Nat->Prop} {O O' :Val} (h:Val.agree n O O') {s:ST} (hs:s.ok n) (hf:s.fit O):s.fit O' :=by unfold ST.fit;rw [E.Qc h (ST.Q34 hs),ST.Qc h hs];exact hf
def Qgo:Value->Bool
 | .agg _| .tuple _=>false
 |_=>true
def vany:Value->Bool
 | .agg _| .tuple _| .bool _| .nilIface=>false
 |_=>true
def vtop:Value->Bool
 | .agg _=>false
 |_=>true
mutual
def AV.rel (X:Ext):AV->Value->Prop
 | .bool b,v=>v= .bool b
 | .int k e,v=>e.ok X.dom/\v= .int k (e.den X.O)
 | .sstr s,v=>s.ok X.dom/\s.fit X.O/\v= .string ⟨(s.den X.O).toArray⟩
 | .str s,v=>S.okN X.dom X.O s/\v= .string ⟨(S.bytes X.O s).toArray⟩
 | .ptr b o,v=>∃p,X.V b=some p/\v= .pointer (some ⟨p.blk,p.base+o,none⟩)
 | .nilptr,v=>v= .pointer none
 | .slice b o len cap es ex,v=>∃p o' c,X.V b=some p/\v= .slice (some ⟨p.blk,o',none⟩) len c/\len<=cap/\cap<=c/\o' +c*es<=p.n/\
  (0<cap\/ex=true->o' =p.base+o)/\(ex=true->c=cap)
 | .nilslice,v=>v= .slice none 0 0
 | .wslice b o n es l,v=>∃p len c,X.V b=some p/\(v= .slice (some ⟨p.blk,p.base+o,none⟩) len c\/(v= .slice none 0 0/\len=0))/\n<=len/\len<=c/\p.base+o+c*es<=p.n/\X.dom l/\X.O.int l=(len:Int)
 | .map r,v=>∃p,X.V r=some p/\v= .map (some p.blk)
 | .nilmap,v=>v= .map none
 | .func f as cs,v=>∃as' cs' :Array Value,v= .func (.func f) as' cs' /\AV.QH X as as'.toList/\AV.QH X cs cs'.toList
 | .yield l,v=>∃p,X.V l=some p/\v= .func (.yield p.blk) #[] #[]
 | .nilFunc,v=>v= .nilFunc
 | .iface t a,v=>∃u,v= .iface t u/\AV.rel X a u
 | .nilIface,v=>v= .nilIface
 | .agg cs,v=>∃vs:Array Value,v= .agg vs/\AV.QH X cs vs.toList
 | .tuple cs,v=>∃vs:Array Value,v= .tuple vs/\AV.QH X cs vs.toList
 | .any,v=>vany v=true
 | .top,v=>vtop v=true
def AV.QH (X:Ext):List AV->List Value->Prop
 |[],vs=>vs=[]
 |a::as,vs=>∃v vs',vs=v::vs' /\AV.rel X a v/\AV.QH X as vs'
end
mutual
theorem AV.Zj {X Y:Ext} (h:X.le Y):∀(a:AV) (v:Value),a.rel X v->a.rel Y v
 | .bool _,_,r=>by simpa only [AV.rel] using r
 | .int _ _,_,r=>by simp only [AV.rel] at*;exact ⟨E.Ql h.dom r.1,by rw [E.Qc h.O r.1];exact r.2⟩
 | .sstr _,_,r=>by simp only [AV.rel] at*;exact ⟨ST.Ql h.dom r.1,ST.Q1i h.O r.1 r.2.1,by rw [ST.Qc h.O r.1];exact r.2.2⟩
 | .str _,_,r=>by simp only [AV.rel] at*;exact ⟨S.Qn0 h.O h.dom r.1,by rw [S.Jk h.O (λt ht=>(r.1 t ht).1)];exact r.2⟩
 | .ptr _ _,_,r=>by simp only [AV.rel] at*;obtain ⟨p,hp,e⟩:=r;exact ⟨p,h.V _ _ hp,e⟩
 | .nilptr,_,r=>by simpa only [AV.rel] using r
 | .slice ..,_,r=>by simp only [AV.rel] at*;obtain ⟨p,o',c,hp,e⟩:=r;exact ⟨p,o',c,h.V _ _ hp,e⟩
 | .nilslice,_,r=>by simpa only [AV.rel] using r
 | .wslice ..,_,r=>by simp only [AV.rel] at*;obtain ⟨p,len,c,hp,e,e1,e2,e3,e4,e5⟩:=r;exact ⟨p,len,c,h.V _ _ hp,e,e1,e2,e3,h.dom _ e4,(h.O _ e4).1.trans e5⟩
 | .map _,_,r=>by simp only [AV.rel] at*;obtain ⟨p,hp,e⟩:=r;exact ⟨p,h.V _ _ hp,e⟩
 | .nilmap,_,r=>by simpa only [AV.rel] using r
 | .func _ as cs,_,r=>by simp only [AV.rel] at*;obtain ⟨as',cs',e,h1,h2⟩:=r;exact ⟨as',cs',e,AV.Yq h as _ h1,AV.Yq h cs _ h2⟩
 | .yield _,_,r=>by simp only [AV.rel] at*;obtain ⟨p,hp,e⟩:=r;exact ⟨p,h.V _ _ hp,e⟩
 | .nilFunc,_,r=>by simpa only [AV.rel] using r
 | .iface _ a,_,r=>by simp only [AV.rel] at*;obtain ⟨u,e,h1⟩:=r;exact ⟨u,e,AV.Zj h a _ h1⟩
 | .nilIface,_,r=>by simpa only [AV.rel] using r
 | .agg cs,_,r=>by simp only [AV.rel] at*;obtain ⟨u,e,h1⟩:=r;exact ⟨u,e,AV.Yq h cs _ h1⟩
 | .tuple cs,_,r=>by simp only [AV.rel] at*;obtain ⟨u,e,h1⟩:=r;exact ⟨u,e,AV.Yq h cs _ h1⟩
 | .any,_,r=>by simpa only [AV.rel] using r
 | .top,_,r=>by simpa only [AV.rel] using r
theorem AV.Yq {X Y:Ext} (h:X.le Y):∀(as:List AV) (vs:List Value),AV.QH X as vs->AV.QH Y as vs
 |[],_,r=>by simpa only [AV.QH] using r
 |a::as,_,r=>by simp only [AV.QH] at*;obtain ⟨v,vs',e,h1,h2⟩:=r;exact ⟨v,vs',e,AV.Zj h a _ h1,AV.Yq h as _ h2⟩
end
section QH
variable {X:Ext}
@[simp] theorem rels_nil {vs:List Value}:AV.QH X [] vs↔vs=[]:=by simp only [AV.QH]
theorem Q8 {a:AV} {as:List AV} {vs:List Value}:AV.QH X (a::as) vs↔∃v vs',vs=v::vs' /\a.rel X v/\AV.QH X as vs' :=by simp only [AV.QH]
@[simp] theorem rels_cons_cons {a:AV} {as:List AV} {v:Value} {vs:List Value}:AV.QH X (a::as) (v::vs)↔a.rel X v/\AV.QH X as vs:=by
 rw [Q8];constructor
 rintro ⟨v',vs',e,h1,h2⟩;cases e;exact ⟨h1,h2⟩
 rintro ⟨h1,h2⟩;exact ⟨v,vs,rfl,h1,h2⟩
@[simp] theorem not_rels_cons_nil {a:AV} {as:List AV}:¬AV.QH X (a::as) []:=by rw [Q8];rintro ⟨_,_,e,_⟩;cases e
theorem Qe:∀{as:List AV} {vs:List Value},AV.QH X as vs->as.length=vs.length
 |[],vs,h=>by rw [rels_nil.1 h];rfl
 |a::as,[],h=>absurd h not_rels_cons_nil
 |a::as,v::vs,h=>by simp only [rels_cons_cons] at h;simp [Qe h.2]
theorem Yh:∀{as:List AV} {vs:List Value} {i:Nat} {a:AV},AV.QH X as vs->as[i]?=some a->∃v,vs[i]?=some v/\a.rel X v
 |[],_,_,_,_,e=>by simp at e
 |a::as,[],_,_,h,_=>absurd h not_rels_cons_nil
 |a::as,v::vs,0,b,h,e=>by simp only [rels_cons_cons] at h;simp at e;subst e;exact ⟨v,rfl,h.1⟩
 |a::as,v::vs,i+1,b,h,e=>by simp only [rels_cons_cons] at h;simp at e;simpa using Yh h.2 e
theorem Zv:∀{as bs:List AV} {vs us:List Value},AV.QH X as vs->AV.QH X bs us->AV.QH X (as++bs) (vs++us)
 |[],_,vs,_,h,k=>by rw [rels_nil.1 h];exact k
 |a::as,_,[],_,h,_=>absurd h not_rels_cons_nil
 |a::as,_,v::vs,_,h,k=>by simp only [rels_cons_cons] at h;simp only [List.cons_append,rels_cons_cons];exact ⟨h.1,Zv h.2 k⟩
theorem Q0q:∀{as:List AV} {vs:List Value} (n:Nat),AV.QH X as vs->AV.QH X (as.take n) (vs.take n)
 |[],vs,n,h=>by rw [rels_nil.1 h];simp
 |a::as,[],_,h=>absurd h not_rels_cons_nil
 |a::as,v::vs,0,h=>by simp
 |a::as,v::vs,n+1,h=>by simp only [rels_cons_cons] at h;simp only [List.take_succ_cons,rels_cons_cons];exact ⟨h.1,Q0q n h.2⟩
theorem Q6d:∀{as:List AV} {vs:List Value} (n:Nat),AV.QH X as vs->AV.QH X (as.drop n) (vs.drop n)
 |[],vs,n,h=>by rw [rels_nil.1 h];simp
 |a::as,[],_,h=>absurd h not_rels_cons_nil
 |a::as,v::vs,0,h=>h
 |a::as,v::vs,n+1,h=>by simp only [rels_cons_cons] at h;exact Q6d n h.2
theorem Qaf:∀{as:List AV} {vs:List Value} (i:Nat) {a:AV} {v:Value},AV.QH X as vs->a.rel X v->AV.QH X (as.set i a) (vs.set i v)
 |[],vs,i,_,_,h,_=>by rw [rels_nil.1 h];simp
 |a::as,[],_,_,_,h,_=>absurd h not_rels_cons_nil
 |a::as,v::vs,0,_,_,h,k=>by simp only [rels_cons_cons] at h;simp only [List.set_cons_zero,rels_cons_cons];exact ⟨k,h.2⟩
 |a::as,v::vs,i+1,_,_,h,k=>by simp only [rels_cons_cons] at h;simp only [List.set_cons_succ,rels_cons_cons];exact ⟨h.1,Qaf i h.2 k⟩
end QH
def AV.cell:AV->Bool
 | .agg _| .tuple _| .top=>false
 |_=>true
theorem Q5v {v:Value} (h:vany v=true):Qgo v=true:=by cases v<;>first|rfl|cases h
theorem Q9x {X:Ext} {a:AV} {v:Value} (h:a.rel X v) (hc:a.cell=true):Qgo v=true:=by
 cases a<;>simp only [AV.rel,AV.cell,Bool.false_eq_true] at h hc<;>
  first
   |(subst h;rfl)
   |exact Q5v h
   |(obtain ⟨_,rfl⟩:=h;rfl)
   |(obtain ⟨_,_,rfl⟩:=h;rfl)
   |(obtain ⟨_,_,_,_,rfl|⟨rfl,_⟩,_⟩:=h<;>rfl)
   |(obtain ⟨_,_,_,_,rfl,_⟩:=h;rfl)
   |(obtain ⟨_,_,rfl,_⟩:=h;rfl)
   |(obtain ⟨_,rfl,_⟩:=h;rfl)
   |(obtain ⟨_,_,_,_,rfl,_⟩:=h;rfl)
abbrev AV.undef:AV:= .tuple []
theorem Qw (X:Ext):AV.undef.rel X undef:=by simp only [AV.rel];exact ⟨#[],rfl,rfl⟩
def AV.cellsOf:AV->List AV
 | .agg cs=>cs
 |a=>[a]
theorem Qt {X:Ext} {a:AV} {v:Value} (h:a.rel X v):AV.QH X a.cellsOf v.cells.toList:=by
 cases a with
 |agg cs=>simp only [AV.rel] at h;obtain ⟨vs,rfl,h⟩:=h;exact h
 |tuple cs=>have h' :=h;simp only [AV.rel] at h;obtain ⟨vs,rfl,h⟩:=h;simp only [AV.cellsOf,Value.cells,rels_cons_cons];exact ⟨h',by simp⟩
 |top=>
  have h' :=h;simp only [AV.rel] at h;have hv:v.cells=#[v]:=by cases v<;>first|rfl|cases h
  rw [hv];simp only [AV.cellsOf,rels_cons_cons];exact ⟨h',by simp⟩
 |_=>
  have hv:v.cells=#[v]:=by have:=Q9x h rfl;cases v<;>simp [Qgo] at this<;>rfl
  rw [hv];simp only [AV.cellsOf,rels_cons_cons];exact ⟨h,by simp⟩
def QC (X:Ext) (nt:Nat) (tm:Tr AV) (tmps:Array Value):Prop:=tmps.size=nt/\∀t,((tm.get t).getD .undef).rel X (tmps.getD t undef)
inductive Q7 where
 |dead
 |cells (cs:List AV) (elem:TypeId) (ex pl ro:Bool)
 |map (es:List (AV×AV×Nat)) (clock:Nat)
 |lmap (es:List (AV×AV))
 |iter (m:Option Nat) (since:Nat) (seen:List Nat) (stepped:Nat)
 |loop (st:LoopState) (pending:Option Code) (fn nt:Nat) (tm:Tr AV) (params:Array Tmp) (assign body:Code) (defers:Nat)
 |defs
 |bytes (s:ST) (l:Nat) (el:TypeId)
 |pre (s:ST) (n:Nat) (el:TypeId)
def Q7.live:Q7->Bool
 | .dead=>false
 |_=>true
def Q7.Q5o:Q7->Bool
 | .dead=>false
 | .cells _ _ _ pl ro=>!ro||pl
 |_=>true
theorem Q7.JG {o:Q7} (h:o.Q5o=true):o.live=true:=by cases o<;>first|rfl|cases h
def Q7.rw:Q7->Bool
 | .dead=>false
 | .cells _ _ _ _ ro=>!ro
 |_=>true
theorem Q7.Qjz {o:Q7} (h:o.rw=true):o.Q5o=true:=by cases o<;>first|rfl|cases h|(simp only [Q7.rw] at h;simp only [Q7.Q5o,h,Bool.true_or])
def Q9 (X:Ext):List (AV×AV×Nat)->List MapEntry->Prop
 |[],es=>es=[]
 |x::xs,es=>∃e es',es=e::es' /\x.1.rel X e.key/\x.2.1.rel X e.val/\e.born=x.2.2/\Q9 X xs es'
theorem JK {X Y:Ext} (h:X.le Y):∀(xs:List (AV×AV×Nat)) (es:List MapEntry),Q9 X xs es->Q9 Y xs es
 |[],_,r=>r
 |_::xs,_,⟨e,es',r,h1,h2,h3,h4⟩=>⟨e,es',r,AV.Zj h _ _ h1,AV.Zj h _ _ h2,h3,JK h xs es' h4⟩
def ZX (X:Ext):List (AV×AV)->List MapEntry->Prop
 |[],es=>es=[]
 |x::xs,es=>∃e es',es=e::es' /\x.1.rel X e.key/\x.2.rel X e.val/\ZX X xs es'
theorem zP {X Y:Ext} (h:X.le Y):∀(xs:List (AV×AV)) (es:List MapEntry),ZX X xs es->ZX Y xs es
 |[],_,r=>r
 |_::xs,_,⟨e,es',r,h1,h2,h4⟩=>⟨e,es',r,AV.Zj h _ _ h1,AV.Zj h _ _ h2,zP h xs es' h4⟩
def ji (X:Ext) (o:Q7) (p:Place) (ob:Option Obj):Prop:=
 match o with
 | .dead=>True
 | .cells cs elem ex pl ro=>∃c fr,(∃el,ob=some (.cells c el fr)/\(ro=true\/el=elem))/\c.size=p.n/\p.base+cs.length<=p.n/\(ex=true->p.base=0/\p.n=cs.length)/\
  (∀i a,cs[i]?=some a->∃v,c[p.base+i]?=some v/\a.rel X v)/\(ro=true\/p.n<=fr.1\/fr=(0,0))/\(pl=true->fr=(0,0))
 | .map es clock=>∃es',ob=some (.map es' clock)/\Q9 X es es'.toList
 | .lmap es=>∃es' clock l,ob=some (.map es' clock)/\ZX X es l/\l.Perm es'.toList
 | .iter m since seen stepped=>p.base=0/\∃m',ob=some (.mapIter m' since seen.toArray stepped)/\
  (match m with|none=>m' =none|some r=>∃q,X.V r=some q/\m' =some q.blk)
 | .loop st pending fn nt tm params assign body defers=>∃tmps d,ob=some (.loop { state:=st,pending,fn,tmps,params,assign,body,defers:=d})/\QC X nt tm tmps/\
  ∃q,X.V defers=some q/\d=q.blk
 | .defs=>ob=some (.deferred (some []))
 | .bytes s l el=>s.ok X.dom/\s.fit X.O/\X.dom l/\X.O.int l=((s.den X.O).length:Int)/\∃c fr,ob=some (.cells c el fr)/\c.size=p.n/\p.base+(s.den X.O).length<=p.n/\
  (∀(i:Nat) (b:UInt8),(s.den X.O)[i]?=some b->c[p.base+i]?=some (Value.int .u8 (b.toNat:Int)))/\(p.n<=fr.1\/fr=(0,0))/\(s.den X.O).length<=4000000
 | .pre s n el=>s.ok X.dom/\s.fit X.O/\p.base=0/\p.n=n/\(s.den X.O).length<=n/\∃c,ob=some (.cells c el (0,0))/\c.size=n/\
  ∀(i:Nat) (b:UInt8),(s.den X.O)[i]?=some b->c[i]?=some (Value.int .u8 (b.toNat:Int))
theorem Yl {X Y:Ext} (h:X.le Y) {nt:Nat} {tm:Tr AV} {tmps:Array Value} (r:QC X nt tm tmps):QC Y nt tm tmps:=⟨r.1,λt=>AV.Zj h _ _ (r.2 t)⟩
theorem Zh {X Y:Ext} (h:X.le Y) {o:Q7} {p:Place} {ob:Option Obj} (r:ji X o p ob):ji Y o p ob:=by
 cases o with
 |dead=>trivial
 |cells cs elem ex pl ro=>obtain ⟨c,fr,h1,h2,h3,h4,h5,h6⟩:=r;exact ⟨c,fr,h1,h2,h3,h4,λi a e=>let ⟨v,hv,hr⟩:=h5 i a e;⟨v,hv,AV.Zj h _ _ hr⟩,h6⟩
 |map es clock=>obtain ⟨es',h1,h2⟩:=r;exact ⟨es',h1,JK h _ _ h2⟩
 |lmap es=>obtain ⟨es',cl,l,h1,h2,h3⟩:=r;exact ⟨es',cl,l,h1,zP h _ _ h2,h3⟩
 |iter m since seen stepped=>
  obtain ⟨h0,m',h1,h2⟩:=r;refine ⟨h0,m',h1,?_⟩;cases m with
  |none=>exact h2
  |some r=>obtain ⟨q,hq,e⟩:=h2;exact ⟨q,h.V _ _ hq,e⟩
 |loop st pending fn nt tm params assign body defers=>obtain ⟨tmps,d,h1,h2,q,hq,e⟩:=r;exact ⟨tmps,d,h1,Yl h h2,q,h.V _ _ hq,e⟩
 |defs=>exact r
 |bytes st l el=>obtain ⟨h3,h4,h5,h6,c,fr,h1,h2,h7,h8,h9,h10⟩:=r;have e:=ST.Qc h.O h3;refine ⟨ST.Ql h.dom h3,ST.Q1i h.O h3 h4,h.dom _ h5,?_,c,fr,h1,h2,?_,?_,h9,by rw [e];exact h10⟩;rw [(h.O _ h5).1,e];exact h6;rw [e];exact h7;rw [e];exact h8
 |pre st n el=>obtain ⟨h3,h0,h4,h5,h6,c,h1,h2,h7⟩:=r;have e:=ST.Qc h.O h3;exact ⟨ST.Ql h.dom h3,ST.Q1i h.O h3 h0,h4,h5,by rw [e];exact h6,c,h1,h2,by rw [e];exact h7⟩
structure Qq (X:Ext) (n0:Nat) (H:Tr Q7) (w:World):Prop where
 obj:∀b o p,H.get b=some o->X.V b=some p->ji X o p w.heap[p.blk]?
 inj:∀b b' o o' p p',H.get b=some o->H.get b' =some o' ->o.live=true->o'.Q5o=true->X.V b=some p->X.V b' =some p' ->p.blk=p'.blk->b=b'
 lt:∀b p,X.V b=some p->p.blk<w.heap.size
 own:∀b o p,H.get b=some o->o.rw=true->X.V b=some p->n0<=p.blk
def Ext.add (X:Ext) (b:Nat) (p:Place):Ext:={ X with V:=λi=>if i=b then some p else X.V i}
theorem Ext.Zr {X:Ext} {b:Nat} {p:Place} (h:X.V b=none):X.le (X.add b p):=⟨λi q hq=>by simp only [Ext.add];by_cases e:i=b;subst e;rw [h] at hq;cases hq;rw [if_neg e];exact hq,λ_ _=>⟨rfl,rfl⟩⟩
theorem Ext.add_same (X:Ext) (b:Nat) (p:Place):(X.add b p).V b=some p:=by simp [Ext.add]
theorem Ext.QL {X:Ext} {b i:Nat} {p:Place} (h:i≠b):(X.add b p).V i=X.V i:=by simp [Ext.add,h]
namespace Qq
variable {X:Ext} {n0:Nat} {H:Tr Q7} {w:World}
theorem pend (h:Qq X n0 H w) {b:Nat} (o:Q7) (hb:X.V b=none):Qq X n0 (H.set b o) w:=by
 refine ⟨λi o' p hi hp=>?_,λi j o1 o2 p q hi hj l1 l2 hp hq e=>?_,h.lt,λi o' p hi hl hp=>?_⟩;by_cases e:i=b;subst e;rw [hb] at hp;cases hp;rw [Tr.Q0 _ _ e] at hi;exact h.obj i o' p hi hp;have e1:i≠b:=λe=>by subst e;rw [hb] at hp;cases hp
 have e2:j≠b:=λe=>by subst e;rw [hb] at hq;cases hq
 rw [Tr.Q0 _ _ e1] at hi;rw [Tr.Q0 _ _ e2] at hj;exact h.inj i j o1 o2 p q hi hj l1 l2 hp hq e;have e1:i≠b:=λe=>by subst e;rw [hb] at hp;cases hp
 rw [Tr.Q0 _ _ e1] at hi;exact h.own i o' p hi hl hp
theorem Q03 (w:World) (ob:Obj) {k:Nat} (hk:k<w.heap.size):(w.heap.push ob)[k]?=w.heap[k]?:=by rw [Array.getElem?_push,if_neg (by omega)]
theorem bear (h:Qq X n0 H w) (h0:n0<=w.heap.size) {b:Nat} {o:Q7} (hb:X.V b=none) (ho:H.get b=some o) (ob:Obj) (n:Nat)
 (hr:ji (X.add b ⟨w.heap.size,0,n⟩) o ⟨w.heap.size,0,n⟩ (some ob)):Qq (X.add b ⟨w.heap.size,0,n⟩) n0 H { w with heap:=w.heap.push ob}:=by
 have hle:=Ext.Zr (p:=⟨w.heap.size,0,n⟩) hb;have key:∀i p,(X.add b ⟨w.heap.size,0,n⟩).V i=some p->(i=b/\p=⟨w.heap.size,0,n⟩)\/(i≠b/\X.V i=some p/\p.blk<w.heap.size):=by
  intro i p hp;by_cases e:i=b;subst e;rw [Ext.add_same] at hp;exact .inl ⟨rfl,(Option.some.inj hp).symm⟩
  rw [Ext.QL e] at hp;exact .inr ⟨e,hp,h.lt _ _ hp⟩
 refine ⟨λi o' p hi hp=>?_,λi j o1 o2 p q hi hj l1 l2 hp hq e=>?_,λi p hp=>?_,λi o' p hi hl hp=>?_⟩;rcases key i p hp with ⟨rfl,rfl⟩|⟨e,hp',hlt⟩;rw [ho] at hi;cases hi;simpa using hr;show ji _ o' p (w.heap.push ob)[p.blk]?
 rw [Q03 _ _ hlt];exact Zh hle (h.obj i o' p hi hp');rcases key i p hp with ⟨rfl,rfl⟩|⟨e1,hp',hlt⟩<;>rcases key j q hq with ⟨rfl,rfl⟩|⟨e2,hq',hlt'⟩;rfl;simp at e;omega;simp at e;omega;exact h.inj i j o1 o2 p q hi hj l1 l2 hp' hq' e;show p.blk<(w.heap.push ob).size
 rw [Array.size_push];rcases key i p hp with ⟨rfl,rfl⟩|⟨_,_,hlt⟩;simp;omega;rcases key i p hp with ⟨rfl,rfl⟩|⟨_,hp',_⟩;exact h0;exact h.own i o' p hi hl hp'
theorem alloc (h:Qq X n0 H w) (h0:n0<=w.heap.size) {b:Nat} (o:Q7) (hb:X.V b=none) (ob:Obj) (n:Nat)
 (hr:ji (X.add b ⟨w.heap.size,0,n⟩) o ⟨w.heap.size,0,n⟩ (some ob)):Qq (X.add b ⟨w.heap.size,0,n⟩) n0 (H.set b o) { w with heap:=w.heap.push ob}:=
 (h.pend o hb).bear h0 hb (Tr.get_set_same _ _ _) ob n hr
theorem kill (h:Qq X n0 H w) (b:Nat):Qq X n0 (H.set b .dead) w:=by
 refine ⟨λi o' p hi hp=>?_,λi j o1 o2 p q hi hj l1 l2 hp hq e=>?_,h.lt,λi o' p hi hl hp=>?_⟩;by_cases e:i=b;subst e;rw [Tr.get_set_same] at hi;cases hi;trivial;rw [Tr.Q0 _ _ e] at hi;exact h.obj i o' p hi hp;have e1:i≠b:=λe=>by subst e;rw [Tr.get_set_same] at hi;cases hi;cases l1
 have e2:j≠b:=λe=>by subst e;rw [Tr.get_set_same] at hj;cases hj;cases l2
 rw [Tr.Q0 _ _ e1] at hi;rw [Tr.Q0 _ _ e2] at hj;exact h.inj i j o1 o2 p q hi hj l1 l2 hp hq e;have e1:i≠b:=λe=>by subst e;rw [Tr.get_set_same] at hi;cases hi;cases hl
 rw [Tr.Q0 _ _ e1] at hi;exact h.own i o' p hi hl hp
theorem change (h:Qq X n0 H w) {b:Nat} {o o' :Q7} {p:Place} (hb:H.get b=some o) (hl:o.rw=true) (hp:X.V b=some p) {w' :World}
 (hsz:w'.heap.size=w.heap.size) (hne:∀k,k≠p.blk->w'.heap[k]?=w.heap[k]?) (hr:ji X o' p w'.heap[p.blk]?):
 Qq X n0 (H.set b o') w' :=by
 have hfirm:=Q7.Qjz hl;refine ⟨λi o1 q hi hq=>?_,λi j o1 o2 q r hi hj l1 l2 hq hr' e=>?_,λi q hq=>by rw [hsz];exact h.lt i q hq,λi o1 q hi hl1 hq=>?_⟩;by_cases e:i=b;subst e;rw [Tr.get_set_same] at hi;cases hi;rw [hp] at hq;cases hq;exact hr;rw [Tr.Q0 _ _ e] at hi;by_cases hlv:o1.live=true;have hk:q.blk≠p.blk:=λhk=>e (h.inj i b o1 o q p hi hb hlv hfirm hq hp hk)
 rw [hne _ hk];exact h.obj i o1 q hi hq;cases o1<;>simp [Q7.live] at hlv;trivial;have base:∀k ok,(H.set b o').get k=some ok->ok.live=true->∃ok',H.get k=some ok' /\ok'.live=true:=by intro k ok hk hlk;by_cases e:k=b;subst e;exact ⟨o,hb,Q7.JG hfirm⟩;rw [Tr.Q0 _ _ e] at hk;exact ⟨ok,hk,hlk⟩
 have base2:∀k ok,(H.set b o').get k=some ok->ok.Q5o=true->∃ok',H.get k=some ok' /\ok'.Q5o=true:=by intro k ok hk hlk;by_cases e:k=b;subst e;exact ⟨o,hb,hfirm⟩;rw [Tr.Q0 _ _ e] at hk;exact ⟨ok,hk,hlk⟩
 obtain ⟨a1,h1,m1⟩:=base i o1 hi l1;obtain ⟨a2,h2,m2⟩:=base2 j o2 hj l2;exact h.inj i j a1 a2 q r h1 h2 m1 m2 hq hr' e;by_cases e:i=b;subst e;rw [hp] at hq;cases hq;exact h.own i o p hb hl hp;rw [Tr.Q0 _ _ e] at hi;exact h.own i o1 q hi hl1 hq
theorem cell (h:Qq X n0 H w) {b i:Nat} {cs:List AV} {elem:TypeId} {ex pl ro:Bool} {p:Place} {a:AV} (hb:H.get b=some (.cells cs elem ex pl ro)) (hp:X.V b=some p)
 (hi:cs[i]?=some a):∃v,w.cell? ⟨p.blk,p.base+i,none⟩=some v/\a.rel X v:=by
 obtain ⟨c,fr,⟨el,h1,_⟩,_,_,_,h5,_⟩:=h.obj b _ p hb hp;obtain ⟨v,hv,hr⟩:=h5 i a hi;refine ⟨v,?_,hr⟩;unfold World.cell?;simp only [h1];simpa using hv
theorem notFrozen (h:Qq X n0 H w) {b i:Nat} {cs:List AV} {elem:TypeId} {ex pl:Bool} {p:Place} (hb:H.get b=some (.cells cs elem ex pl false)) (hp:X.V b=some p)
 (hi:p.base+i<p.n):w.frozen? ⟨p.blk,p.base+i,none⟩=false:=by
 obtain ⟨c,fr,⟨el,h1,_⟩,h2,h3,_,_,h6,_⟩:=h.obj b _ p hb hp;obtain ⟨lo,hi'⟩:=fr;unfold World.frozen?;simp only [h1];rcases h6 with h6|h6|h6;cases h6;have:¬lo<=p.base+i:=by simp only at h6;omega
 simp [this];simp only [Prod.mk.injEq] at h6;obtain ⟨rfl,rfl⟩:=h6;simp
theorem store (h:Qq X n0 H w) {b i:Nat} {cs:List AV} {elem:TypeId} {ex pl:Bool} {p:Place} {a:AV} {v:Value} (hb:H.get b=some (.cells cs elem ex pl false)) (hp:X.V b=some p)
 (hi:i<cs.length) (hv:a.rel X v):Qq X n0 (H.set b (.cells (cs.set i a) elem ex pl false)) (w.setCell ⟨p.blk,p.base+i,none⟩ v):=by
 obtain ⟨c,fr,⟨el,h1,hel⟩,h2,h3,h4,h5,h6⟩:=h.obj b _ p hb hp;have hel' :el=elem:=by rcases hel with h|h<;>first|exact h|cases h
 rw [hel'] at h1;have hlt:=h.lt b p hp;have hget:(w.setCell ⟨p.blk,p.base+i,none⟩ v).heap[p.blk]?=some (.cells (c.setIfInBounds (p.base+i) v) elem fr):=by simp only [World.setCell,Array.getElem?_modify,if_true,h1];rfl
 refine h.change hb rfl hp (by simp [World.setCell]) (λk hk=>Below.heap_setCell _ _ _ _ hk) ?_;rw [hget];refine ⟨_,fr,⟨_,rfl, .inr rfl⟩,by simpa using h2,by simpa using h3,by simpa using h4,λj a' hj=>?_,h6⟩;by_cases e:j=i;subst e;rw [List.getElem?_set_self hi] at hj;cases hj;refine ⟨v,?_,hv⟩;rw [Array.getElem?_setIfInBounds_self_of_lt];omega;rw [List.getElem?_set_ne (by omega)] at hj;obtain ⟨u,hu,hr⟩:=h5 j a' hj;refine ⟨u,?_,hr⟩;rw [Array.getElem?_setIfInBounds_ne (by omega)];exact hu
end Qq
end Go.Ax
namespace Go.Ax
open Go.RowKit
structure TI where
 desc:TypeDesc
 size:Nat
 bytes:Nat
 zero:AV
 comparable:Bool
 methods:Array Method
 cmpOK:Bool
structure Tab where
 types:Tr TI
 funcs:Tr Func
 ng:Nat
 nops:List Nat
def Q3z (P:Program) (f:FuncId):Prop:=
 (∀args w,(callFunc f args).run P w= .ok (.enter f args) w)/\
 ∀(fr:Frame) (cs:List Frame) (w:World) (args:Array Value),fr.mode= .returning->Steps P (lone (Frame.enter P f args .deferred) (fr::cs) w) (lone fr cs w)
structure Tab.OK (P:Program) (T:Tab):Prop where
 types:∀t ti,T.types.get t=some ti->P.underlying t=some ti.desc/\∃i z,P.info? t=some i/\i.size=ti.size/\i.bytes=ti.bytes/\i.comparable=ti.comparable/\i.methods=ti.methods/\
  i.zero=some z/\∀X,ti.zero.rel X z
 cmp:∀t ti,T.types.get t=some ti->ti.cmpOK=true->P.eqGuardType P.depth t=false/\P.stoodInHeld t=false/\∀fs,ti.desc= .struct fs->∀f∈fs.toList,f.name≠ "_"
 funcs:∀f fn,T.funcs.get f=some fn->P.funcs[f]?=some fn/\∀args w,(callFunc f args).run P w= .ok (.enter f args) w
 mixed:P.follows .mixedOrders=true
 nops:∀f∈T.nops,Q3z P f
noncomputable def Tab.ty (T:Tab) (t:TypeId):Option TI:=T.types.get t
section tables
variable {P:Program} {T:Tab} (hT:T.OK P) {t:TypeId} {ti:TI} (h:T.ty t=some ti) (w:World)
include hT h
theorem Tab.und:P.underlying t=some ti.desc:=(hT.types t ti h).1
theorem Tab.Qf:(underlying t).run P w= .ok ti.desc w:=run_underlying (T.und hT h) w
theorem Tab.YC:∃i,(typeInfo t).run P w= .ok i w/\i.size=ti.size/\i.bytes=ti.bytes/\i.comparable=ti.comparable/\i.methods=ti.methods:=by obtain ⟨_,i,z,h1,h2,h3,h4,h5,_⟩:=hT.types t ti h;exact ⟨i,by simp [typeInfo,h1],h2,h3,h4,h5⟩
theorem Tab.Qv:(sizeOf t).run P w= .ok ti.size w:=by obtain ⟨i,h1,h2,_⟩:=T.YC hT h w;simp [sizeOf,h1,h2]
theorem Tab.ZW:∃z,(zeroValue t).run P w= .ok z w/\∀X,ti.zero.rel X z:=by obtain ⟨_,i,z,h1,_,_,_,_,h6,h7⟩:=hT.types t ti h;exact ⟨z,by simp [zeroValue,typeInfo,h1,h6],h7⟩
end tables
def yA:TypeDesc->Bool
 | .struct _| .array _ _=>true
 |_=>false
theorem Tab.Q0l {P:Program} {T:Tab} (hT:T.OK P) {t:TypeId} {ti:TI} (h:T.ty t=some ti) (w:World):(isAgg t).run P w= .ok (yA ti.desc) w:=by simp only [isAgg,Sem.run_bind,T.Qf hT h,Result.andThen_ok];cases ti.desc<;>rfl
def Qlz (f:Value->Option AV):List Value->Option (List AV)
 |[]=>some []
 |v::vs=>match f v with
  |none=>none
  |some a=>match Qlz f vs with
   |none=>none
   |some as=>some (a::as)
theorem Q4h {X:Ext} {f:Value->Option AV} (hf:∀v a,f v=some a->a.rel X v):∀{vs:List Value} {as:List AV},Qlz f vs=some as->AV.QH X as vs
 |[],_,h=>by simp [Qlz] at h;subst h;simp
 |v::vs,as,h=>by simp only [Qlz] at h;split at h;cases h;rename_i a ha;split at h;cases h;rename_i bs hb;cases h;simp only [rels_cons_cons];exact ⟨hf _ _ ha,Q4h hf hb⟩
def Q7k (s:ByteArray):List E:=s.data.toList.map λb=> .lit (Int.ofNat b.toNat)
theorem Qfy (n:Nat->Prop) (O:Val) (s:ByteArray):S.okN n O (Q7k s):=by intro t ht;simp only [Q7k,List.mem_map] at ht;obtain ⟨b,_,rfl⟩:=ht;have:=b.toNat_lt;simp only [E.den,Int.ofNat_eq_natCast];exact ⟨trivial,by omega⟩
theorem Q7j (O:Val) (s:ByteArray):S.bytes O (Q7k s)=s.data.toList:=by simp [S.bytes,Q7k,E.den,List.map_map,Function.comp_def]
noncomputable def ofV:Nat->Value->Option AV
 |0,_=>none
 |n+1,v=>match v with
  | .bool b=>some (.bool b)
  | .int k n=>some (.int k (.Q2a n))
  | .string s=>some (.str (Q7k s))
  | .pointer none=>some .nilptr
  | .slice none 0 0=>some .nilslice
  | .map none=>some .nilmap
  | .func (.func f) as cs=>bif as.isEmpty&&cs.isEmpty then some (.func f [] []) else none
  | .nilFunc=>some .nilFunc
  | .iface t v=>match ofV n v with|none=>none|some a=>some (.iface t a)
  | .nilIface=>some .nilIface
  | .agg vs=>match Qlz (ofV n) vs.toList with|none=>none|some as=>some (.agg as)
  | .tuple vs=>match Qlz (ofV n) vs.toList with|none=>none|some as=>some (.tuple as)
  |_=>none
theorem jC (X:Ext):∀(n:Nat) (v:Value) (a:AV),ofV n v=some a->a.rel X v
 |0,_,_,h=>by simp [ofV] at h
 |n+1,v,a,h=>by
  unfold ofV at h;split at h;cases h;simp only [AV.rel];simp only [E.litS_eq,Option.some.injEq] at h;subst h;simp only [AV.rel,E.den];exact ⟨trivial,trivial⟩;cases h;rename_i s;simp only [AV.rel,Q7j];exact ⟨Qfy _ _ _,trivial⟩;cases h;simp only [AV.rel];cases h;simp only [AV.rel];cases h;simp only [AV.rel];rename_i f as cs;cases he:(as.isEmpty&&cs.isEmpty) with
  |false=>rw [he] at h;cases h
  |true=>rw [he] at h;cases h;simp only [Bool.and_eq_true,Array.isEmpty_iff] at he;simp only [AV.rel,he.1,he.2];exact ⟨#[],#[],rfl,by simp,by simp⟩
  cases h;simp only [AV.rel];rename_i t u;split at h;cases h;rename_i b hb;cases h;simp only [AV.rel];exact ⟨u,rfl,jC X n _ _ hb⟩;cases h;simp only [AV.rel];split at h;cases h;rename_i b hb;cases h;simp only [AV.rel];exact ⟨_,rfl,Q4h (jC X n) hb⟩;split at h;cases h;rename_i b hb;cases h;simp only [AV.rel];exact ⟨_,rfl,Q4h (jC X n) hb⟩;cases h
noncomputable def ev (ng:Nat) (tm:Tr AV):Operand->Option AV
 | .tmp t=>some ((tm.get t).getD .undef)
 | .const v=>ofV 6 v
 | .global g=>bif Nat.blt g ng then some (.ptr g 0) else none
 | .func f=>some (.func f [] [])
def evC (tmps:Array Value):Operand->Value
 | .tmp t=>tmps.getD t undef
 | .const v=>v
 | .global g=> .pointer (some ⟨g,0,none⟩)
 | .func f=> .func (.func f) #[] #[]
theorem YF (fr:Frame):fr.eval=evC fr.tmps:=by funext x;cases x<;>rfl
def Ext.Qo (X:Ext) (ng:Nat):Prop:=∀g,g<ng->∃n,X.V g=some ⟨g,0,n⟩
theorem Ext.ZB {X Y:Ext} {ng:Nat} (h:X.Qo ng) (k:X.le Y):Y.Qo ng:=λg hg=>let ⟨n,e⟩:=h g hg;⟨n,k.V _ _ e⟩
theorem Qb1 {X:Ext} {ng nt:Nat} {tm:Tr AV} {tmps:Array Value} (hm:QC X nt tm tmps) (hg:X.Qo ng) {o:Operand} {a:AV} (h:ev ng tm o=some a):a.rel X (evC tmps o):=by
 cases o with
 |tmp t=>simp only [ev,Option.some.injEq] at h;subst h;exact hm.2 t
 |const v=>exact jC X 6 v a h
 |global g=>
  simp only [ev] at h;cases hb:Nat.blt g ng with
  |false=>rw [hb] at h;cases h
  |true=>rw [hb] at h;cases h;obtain ⟨n,hn⟩:=hg g (by simpa using hb);simp only [AV.rel];exact ⟨_,hn,by simp [evC]⟩
 |func f=>simp only [ev,Option.some.injEq] at h;subst h;simp only [AV.rel];exact ⟨#[],#[],rfl,by simp,by simp⟩
noncomputable def evs (f:Operand->Option AV):List Operand->Option (List AV)
 |[]=>some []
 |x::xs=>match f x with
  |none=>none
  |some a=>match evs f xs with
   |none=>none
   |some as=>some (a::as)
def Yc {α:Type}:Nat->List α->List α->List α
 |_,[],cs=>cs
 |o,x::xs,cs=>Yc (o+1) xs (cs.set o x)
theorem zD {α:Type}:∀(xs:List α) (o:Nat) (cs:List α),(Yc o xs cs).length=cs.length
 |[],_,_=>rfl
 |x::xs,o,cs=>by rw [Yc,zD];simp
theorem Q0r {X:Ext}:∀{as:List AV} {vs:List Value} (o:Nat) {cs:List AV} {us:List Value},AV.QH X as vs->AV.QH X cs us->AV.QH X (Yc o as cs) (Yc o vs us)
 |[],vs,_,_,_,h,k=>by rw [rels_nil.1 h];exact k
 |a::as,[],_,_,_,h,_=>absurd h not_rels_cons_nil
 |a::as,v::vs,o,cs,us,h,k=>by simp only [rels_cons_cons] at h;exact Q0r (o+1) h.2 (Qaf o k h.1)
theorem foldl_set (off:Nat):∀(xs:List Value) (k:Nat) (c:Array Value),((xs.zipIdx k).foldl (λcs (p:Value×Nat)=>cs.setIfInBounds (off+p.2) p.1) c).toList=Yc (off+k) xs c.toList
 |[],_,_=>rfl
 |x::xs,k,c=>by simp only [List.zipIdx_cons,List.foldl_cons,Yc];rw [foldl_set off xs (k+1)];simp [Nat.add_assoc]
noncomputable def Q2m (place:Nat->Option (Nat×Nat)) (cells:List AV):List (Nat×AV)->Option (List AV)
 |[]=>some cells
 |(i,v)::rest=>
  match place i with
  |none=>none
  |some (off,size)=>bif Nat.beq v.cellsOf.length size&&Nat.ble (off+size) cells.length then Q2m place (Yc off v.cellsOf cells) rest else none
inductive Jd (X:Ext):List (Nat×AV)->List (Nat×Value)->Prop where
 |nil:Jd X [] []
 |cons {i:Nat} {a:AV} {v:Value} {as:List (Nat×AV)} {vs:List (Nat×Value)}:a.rel X v->Jd X as vs->Jd X ((i,a)::as) ((i,v)::vs)
theorem Jp {X:Ext} {place:Nat->Option (Nat×Nat)}:∀{as:List (Nat×AV)} {vs:List (Nat×Value)} {cs:List AV} {c:Array Value} {r:List AV},Jd X as vs->AV.QH X cs c.toList->
 Q2m place cs as=some r->∃c',Instr.fill place c vs=some c' /\AV.QH X r c'.toList
 |_,_,cs,c,r, .nil,hc,h=>by simp only [Q2m,Option.some.injEq] at h;subst h;exact ⟨c,rfl,hc⟩
 |_,_,cs,c,r, .cons (i:=i) (a:=a) (v:=v) ha hr,hc,h=>by
  simp only [Q2m] at h;simp only [Instr.fill];split at h;cases h;rename_i off size hp;rw [hp];have hcell:=Qt ha;have hl:=Qe hcell;have hl2:=Qe hc;cases hb:(Nat.beq a.cellsOf.length size&&Nat.ble (off+size) cs.length) with
  |false=>rw [hb] at h;cases h
  |true=>
   rw [hb] at h;simp only [Bool.and_eq_true,Nat.beq_eq,Nat.ble_eq] at hb;have hsz:v.cells.size=size:=by rw [<-hb.1,hl];simp
   have hoff:¬(off+v.cells.size>c.size):=by
    rw [hsz];have:cs.length=c.size:=by rw [hl2];simp
    omega
   simp only [hsz,ne_eq,not_true_eq_false,decide_false,Bool.false_or,decide_eq_true_eq];rw [hsz] at hoff;rw [if_neg hoff];refine Jp hr ?_ h;have:(v.cells.zipIdx.foldl (λcs (p:Value×Nat)=>cs.setIfInBounds (off+p.2) p.1) c).toList=Yc (off+0) v.cells.toList c.toList:=by rw [<-foldl_set off v.cells.toList 0 c,<-Array.foldl_toList];simp
   rw [show (v.cells.zipIdx.foldl (λcs x=>match x with|(c,j)=>cs.setIfInBounds (off+j) c) c)=v.cells.zipIdx.foldl (λcs (p:Value×Nat)=>cs.setIfInBounds (off+p.2) p.1) c from rfl,this];exact Q0r (off+0) hcell hc
def YI (z:List AV) (n:Nat):List AV:=
 match z with
 |[a]=>List.replicate n a
 |_=>(List.range n).map λi=>z.getD (i%z.length) .undef
theorem J5 {X:Ext} {z:List AV} {c:Array Value} (h:AV.QH X z c.toList) (n:Nat) (hn:n=0\/0<c.size):AV.QH X (YI z n) ((Array.range n).map (λi=>c[i%c.size]!)).toList:=by
 have hl:=Qe h;have key:AV.QH X ((List.range n).map λi=>z.getD (i%z.length) .undef) ((Array.range n).map (λi=>c[i%c.size]!)).toList:=by
  rw [Array.toList_map,Array.toList_range];have aux:∀(l:List Nat),(∀i∈l,i<n)->AV.QH X (l.map λi=>z.getD (i%z.length) .undef) (l.map λi=>c[i%c.size]!):=by
   intro l;induction l with
   |nil=>intro _;simp
   |cons i l ih=>
    intro hi;have h0:=hi i (by simp);simp only [List.map_cons,rels_cons_cons];refine ⟨?_,ih λj hj=>hi j (by simp [hj])⟩
    have hc:0<c.size:=by rcases hn with rfl|hn; . omega
                         exact hn
    have hzl:z.length=c.size:=by rw [hl];simp
    have hlt:i%z.length<z.length:=Nat.mod_lt _ (by omega);obtain ⟨v,hv,hr⟩:=Yh h (List.getElem?_eq_getElem hlt);have e1:z.getD (i%z.length) .undef=z[i%z.length]:=by simp [List.getD,List.getElem?_eq_getElem hlt]
    have e2:c[i%c.size]! =v:=by
     rw [<-hzl];have:c[i%z.length]?=some v:=by simpa using hv
     rw [getElem!_def,this]
    rw [e1,e2];exact hr
  exact aux _ (λi hi=>by simpa using hi)
 unfold YI;split;rename_i a;have:(List.range n).map (λi=>[a].getD (i% [a].length) .undef)=List.replicate n a:=by rw [List.eq_replicate_iff];refine ⟨by simp,λb hb=>?_⟩;simp only [List.mem_map] at hb;obtain ⟨i,_,rfl⟩:=hb;simp [Nat.mod_one]
 rw [<-this];exact key;exact key
noncomputable def apart (T:Tab) (t:TypeId) (cs:List AV) (off:Nat):Option AV:=
 match T.ty t with
 |none=>none
 |some ti=>bif yA ti.desc then some (.agg ((cs.drop off).take ti.size)) else cs[off]?
theorem Yy {P:Program} {T:Tab} (hT:T.OK P) {X:Ext} {t:TypeId} {cs:List AV} {off:Nat} {a:AV} {c:Array Value} (hc:AV.QH X cs c.toList) (h:apart T t cs off=some a) (w:World):
 ∃v,(part t c off).run P w= .ok v w/\a.rel X v:=by
 unfold apart at h;split at h;cases h;rename_i ti hti;simp only [part,Sem.run_bind,T.Q0l hT hti,Result.andThen_ok];cases hd:yA ti.desc with
 |true=>
  rw [hd] at h;cases h;have e:(do pure (.agg (c.extract off (off+(<-sizeOf t)))):Sem Value).run P w= .ok (.agg (c.extract off (off+ti.size))) w:=by simp [T.Qv hT hti]
  refine ⟨_,e,?_⟩;simp only [AV.rel];refine ⟨_,rfl,?_⟩;have:=Q0q ti.size (Q6d off hc);simpa [List.take_drop,Nat.add_comm] using this
 |false=>
  rw [hd] at h;obtain ⟨v,hv,hr⟩:=Yh hc (show cs[off]?=some a from h);have hv' :c[off]?=some v:=by simpa using hv
  simp only [Bool.false_eq_true,if_false,hv'];exact ⟨v,rfl,hr⟩
end Go.Ax
namespace Go.Ax
open Go.RowKit
inductive D (α:Type) where
 |ok (a:α)
 |ask (op:BinOp) (a b:E)
 |fail
def D.bind {α β:Type} (d:D α) (f:α->D β):D β:=
 match d with
 | .ok a=>f a
 | .ask op a b=> .ask op a b
 | .fail=> .fail
def D.of {α:Type}:Option α->D α
 |some a=> .ok a
 |none=> .fail
theorem D.bind_ok {α β:Type} {d:D α} {f:α->D β} {b:β} (h:d.bind f= .ok b):∃a,d= .ok a/\f a= .ok b:=by cases d<;>simp only [D.bind,reduceCtorEq] at h;exact ⟨_,rfl,h⟩
theorem D.Qu {α:Type} {o:Option α} {a:α} (h:D.of o= .ok a):o=some a:=by cases o<;>simp [D.of] at h;rw [h]
noncomputable def S.eq (c:Ctx):List E->List E->D Bool
 |[],[]=> .ok true
 |a::as,b::bs=>match E.cmp c .eql a b with
  |some true=>S.eq c as bs
  |some false=> .ok false
  |none=> .ask .eql a b
 |_,_=> .ok false
theorem Qiq {x y:Int} (hx:0<=x/\x<256) (hy:0<=y/\y<256):UInt8.ofNat x.toNat=UInt8.ofNat y.toNat↔x=y:=by
 constructor;intro h;have:=congrArg UInt8.toNat h;simp at this;omega
 rintro rfl;rfl
theorem S.Q4v {n:Nat->Prop} {c:Ctx} {O:Val} (hc:c.okN n O):∀{s t:List E} {r:Bool},S.okN n O s->S.okN n O t->S.eq c s t= .ok r->(decide (S.bytes O s=S.bytes O t))=r
 |[],[],_,_,_,h=>by simp only [S.eq,D.ok.injEq] at h;subst h;simp [S.bytes]
 |[],b::bs,_,_,_,h=>by simp only [S.eq,D.ok.injEq] at h;subst h;simp [S.bytes]
 |a::as,[],_,_,_,h=>by simp only [S.eq,D.ok.injEq] at h;subst h;simp [S.bytes]
 |a::as,b::bs,r,h1,h2,h=>by
  have k1:=(h1 a (by simp)).2
  have k2:=(h2 b (by simp)).2
  simp only [S.eq] at h;split at h;rename_i he;have:=E.Qb rfl he hc;simp only [Yf,beq_iff_eq] at this;have ih:=S.Q4v hc (λt ht=>h1 t (by simp [ht])) (λt ht=>h2 t (by simp [ht])) h;rw [<-ih];have e:(S.bytes O (a::as)=S.bytes O (b::bs))↔(S.bytes O as=S.bytes O bs):=by simp only [S.bytes,List.map_cons,this,List.cons.injEq,true_and]
  simp only [e];rename_i he;have:=E.Qb rfl he hc;simp only [Yf,beq_eq_false_iff_ne] at this;cases h;simp only [S.bytes,List.map_cons,List.cons.injEq,Qiq k1 k2,this,false_and,decide_false];cases h
noncomputable def Q2w (H:Tr Q7) (b:Nat):Bool:=
 match H.get b with
 |some (.cells _ _ _ pl _)=>pl
 |_=>false
noncomputable def Qol (T:Tab) (rc:TypeId->AV->AV->D Bool) (xs ys:List AV):List Field->D Bool
 |[]=> .ok true
 |f::fs=>(D.of (apart T f.type xs f.offset)).bind λa=>(D.of (apart T f.type ys f.offset)).bind λb=>(rc f.type a b).bind λr=>bif r then Qol T rc xs ys fs else .ok false
noncomputable def aeq (T:Tab) (c:Ctx) (H:Tr Q7):Nat->TypeId->AV->AV->D Bool
 |0,_,_,_=> .fail
 |n+1,t,x,y=>
  match T.ty t with
  |none=> .fail
  |some ti=>
   match ti.desc,x,y with
   | .bool, .bool a, .bool b=> .ok (a==b)
   | .int _, .int k a, .int j b=>bif decide (k=j) then (match E.cmp c .eql a b with|some r=> .ok r|none=> .ask .eql a b) else .fail
   | .string, .str a, .str b=>S.eq c a b
   | .pointer _, .nilptr, .nilptr=> .ok true
   | .pointer _, .nilptr, .ptr _ _=> .ok false
   | .pointer _, .ptr _ _, .nilptr=> .ok false
   | .pointer e, .ptr b o, .ptr b' o' =>
    match T.ty e with
    |none=> .fail
    |some ei=>bif Nat.beq ei.size 0 then .fail else
     bif Nat.beq b b' then .ok (Nat.beq o o') else bif Q2w H b&&Q2w H b' then .ok false else .fail
   | .interface _, .nilIface, .nilIface=> .ok true
   | .interface _, .nilIface, .iface _ _=> .ok false
   | .interface _, .iface _ _, .nilIface=> .ok false
   | .interface _, .iface d a, .iface e b=>bif Nat.beq d e then
    (match T.ty d with|none=> .fail|some di=>bif di.comparable then aeq T c H n d a b else .fail)
    else .ok false
   | .struct fs, .agg xs, .agg ys=>bif ti.cmpOK then Qol T (aeq T c H n) xs ys fs.toList else .fail
   | .slice _, .nilslice, .nilslice=> .ok true
   | .slice _, .nilslice, .slice .. => .ok false
   | .slice _, .slice .., .nilslice=> .ok false
   | .map _ _, .nilmap, .nilmap=> .ok true
   | .map _ _, .nilmap, .map _=> .ok false
   | .map _ _, .map _, .nilmap=> .ok false
   | .func _ _ _, .nilFunc, .nilFunc=> .ok true
   | .func _ _ _, .nilFunc, .func _ _ _=> .ok false
   | .func _ _ _, .func _ _ _, .nilFunc=> .ok false
   |_,_,_=> .fail
theorem Q3y {P:Program} {T:Tab} (hT:T.OK P) {X:Ext} {rc:TypeId->AV->AV->D Bool} {d:Nat} {w:World}
 (hrc:∀t x y r u v,rc t x y= .ok r->x.rel X u->y.rel X v->(Op.equalIn d t u v).run P w= .ok r w) {xs ys:List AV} {us vs:Array Value} (hx:AV.QH X xs us.toList) (hy:AV.QH X ys vs.toList):
 ∀(fs:List Field) (r:Bool),(∀f∈fs,f.name≠ "_")->Qol T rc xs ys fs= .ok r->(Op.eqFields d us vs fs).run P w= .ok r w
 |[],r,_,h=>by simp only [Qol,D.ok.injEq] at h;subst h;rfl
 |f::fs,r,hn,h=>by
  simp only [Qol] at h;obtain ⟨a,h1,h⟩:=D.bind_ok h;obtain ⟨b,h2,h⟩:=D.bind_ok h;obtain ⟨q,h3,h⟩:=D.bind_ok h;obtain ⟨u,e1,r1⟩:=Yy hT hx (D.Qu h1) w;obtain ⟨v,e2,r2⟩:=Yy hT hy (D.Qu h2) w;have e3:=hrc _ _ _ _ _ _ h3 r1 r2;have hn0:=hn f (by simp);simp only [Op.eqFields,if_pos hn0,Sem.run_bind,e1,e2,e3,Result.andThen_ok];cases q with
  |true=>simpa using Q3y hT hrc hx hy fs r (λg hg=>hn g (by simp [hg])) h
  |false=>cases h;rfl
theorem yc {X:Ext} {n0:Nat} {H:Tr Q7} {w:World} (hH:Qq X n0 H w) {b:Nat} {p:Place} (h:Q2w H b=true) (hp:X.V b=some p):
 ∃c t o,w.heap[p.blk]?=some (.cells c t (0,0))/\H.get b=some o/\o.Q5o=true:=by
 unfold Q2w at h;split at h;rename_i cs elem ex pl ro ho;obtain ⟨c,fr,⟨el,h1,_⟩,_,_,_,_,_,h7⟩:=hH.obj b _ p ho hp;rw [h7 h] at h1;exact ⟨c,el,_,h1,ho,by simp only [Q7.Q5o,h,Bool.or_true]⟩;cases h
theorem zG {P:Program} {w:World} {a b:Addr} {c d:Array Value} {t u:TypeId} (h:a.block≠b.block) (ha:w.heap[a.block]?=some (.cells c t (0,0))) (hb:w.heap[b.block]?=some (.cells d u (0,0))):
 (sameAddr a b).run P w= .ok false w:=by
 have f1:∀o,w.frozen? ⟨a.block,o,none⟩=false:=λo=>by simp [World.frozen?,ha]
 have f2:∀o,w.frozen? ⟨b.block,o,none⟩=false:=λo=>by simp [World.frozen?,hb]
 have f3:w.frozen? a=false:=by simp [World.frozen?,ha]
 have f4:w.frozen? b=false:=by simp [World.frozen?,hb]
 have s1:w.shape? a.block=some (t,c.size):=by simp [World.shape?,ha]
 have s2:w.shape? b.block=some (u,d.size):=by simp [World.shape?,hb]
 have hne:(a.block==b.block)=false:=by simpa using h
 simp [sameAddr,hne,f3,f4,noView,viewAt,s1,s2,mayBeOne,stringish,f1,f2]
set_option maxHeartbeats 2000000 in
theorem JW {P:Program} {T:Tab} (hT:T.OK P) {c:Ctx} {X:Ext} (hc:c.okN X.dom X.O) {n0:Nat} {H:Tr Q7} {w:World} (hH:Qq X n0 H w):
 ∀(n m:Nat) (t:TypeId) (x y:AV) (r:Bool) (u v:Value),n<=m->aeq T c H n t x y= .ok r->x.rel X u->y.rel X v->(Op.equalIn m t u v).run P w= .ok r w
 |0,_,_,_,_,_,_,_,_,h,_,_=>by simp [aeq] at h
 |n+1,0,_,_,_,_,_,_,hm,_,_,_=>absurd hm (by omega)
 |n+1,m+1,t,x,y,r,u,v,hm,h,hx,hy=>by
  unfold aeq at h;split at h;cases h;rename_i ti hti;have hu:=T.Qf hT hti w;have hun:=T.und hT hti;split at h<;>rename_i hd;rw [hd] at hu;simp only [AV.rel] at hx hy;subst hx hy;cases h;simp [Op.equalIn,hu];rw [hd] at hu;simp only [AV.rel] at hx hy;obtain ⟨-,rfl⟩:=hx;obtain ⟨-,rfl⟩:=hy;rename_i k a j b;cases hk:decide (k=j) with
  |false=>rw [hk] at h;cases h
  |true=>
   rw [hk] at h;have hkj:k=j:=by simpa using hk
   subst hkj;simp only [cond_true] at h;split at h;rename_i q hq;cases h;have:=E.Qb rfl hq hc;simp only [Yf] at this;simp [Op.equalIn,hu,this];cases h
  rw [hd] at hu;simp only [AV.rel] at hx hy;obtain ⟨o1,rfl⟩:=hx;obtain ⟨o2,rfl⟩:=hy;have:=S.Q4v hc o1 o2 h;rw [run_equalIn_string w m t _ _ (by rw [hun,hd])];rw [<-this];congr 1;rw [ByteArray.toList_eq,ByteArray.toList_eq];rw [Bool.eq_iff_iff];simp;rw [hd] at hu;simp only [AV.rel] at hx hy;subst hx hy;cases h;simp [Op.equalIn,hu];rw [hd] at hu;simp only [AV.rel] at hx hy;obtain ⟨p,hp,rfl⟩:=hy;subst hx;cases h;simp [Op.equalIn,hu];rw [hd] at hu;simp only [AV.rel] at hx hy;obtain ⟨p,hp,rfl⟩:=hx;subst hy;cases h;simp [Op.equalIn,hu];rw [hd] at hu;simp only [AV.rel] at hx hy;obtain ⟨p,hp,rfl⟩:=hx;obtain ⟨q,hq,rfl⟩:=hy;rename_i e b o b' o';split at h;cases h;rename_i ei hei;have hsz:=T.Qv hT hei w;cases hz:Nat.beq ei.size 0 with
  |true=>rw [hz] at h;cases h
  |false=>
   rw [hz] at h;have hz' :ei.size≠0:=λe=>by rw [e] at hz;cases hz
   simp only [cond_false] at h;simp only [Op.equalIn,Sem.run_bind,hu,Result.andThen_ok,hsz,ne_eq,hz',not_false_eq_true,if_true];cases hb:Nat.beq b b' with
   |true=>
    rw [hb] at h;have hbb:b=b' :=by simpa using hb
    subst hbb;rw [hp] at hq;cases hq;cases h;simp only [sameAddr,beq_self_eq_true,if_true,Sem.run_pure];congr 1;rw [Bool.eq_iff_iff];simp
   |false=>
    rw [hb] at h;simp only [cond_false] at h;cases hpl:(Q2w H b&&Q2w H b') with
    |false=>rw [hpl] at h;cases h
    |true=>
     rw [hpl] at h;cases h;simp only [Bool.and_eq_true] at hpl;obtain ⟨c1,t1,o1,g1,g2,g3⟩:=yc hH hpl.1 hp;obtain ⟨c2,t2,o2,k1,k2,k3⟩:=yc hH hpl.2 hq;have hne:p.blk≠q.blk:=λe=>by have:=hH.inj b b' o1 o2 p q g2 k2 (Q7.JG g3) k3 hp hq e;subst this;simp at hb
     exact zG (a:=⟨p.blk,_,none⟩) (b:=⟨q.blk,_,none⟩) hne g1 k1
  rw [hd] at hu;simp only [AV.rel] at hx hy;subst hx hy;cases h;simp [Op.equalIn,hu];rw [hd] at hu;simp only [AV.rel] at hx hy;obtain ⟨p,rfl,_⟩:=hy;subst hx;cases h;simp [Op.equalIn,hu];rw [hd] at hu;simp only [AV.rel] at hx hy;obtain ⟨p,rfl,_⟩:=hx;subst hy;cases h;simp [Op.equalIn,hu];rw [hd] at hu;simp only [AV.rel] at hx hy;obtain ⟨p,rfl,hx⟩:=hx;obtain ⟨q,rfl,hy⟩:=hy;rename_i d a e b;cases hb:Nat.beq d e with
  |false=>
   rw [hb] at h;cases h;have:d≠e:=λe=>by subst e;simp at hb
   simp [Op.equalIn,hu,this]
  |true=>
   rw [hb] at h;have hbb:d=e:=by simpa using hb
   subst hbb;simp only [cond_true] at h;split at h;cases h;rename_i di hdi;obtain ⟨i,i1,_,_,i4,_⟩:=T.YC hT hdi w;cases hcm:di.comparable with
   |false=>rw [hcm] at h;cases h
   |true=>rw [hcm] at h i4;have ih:=JW hT hc hH n m d a b r p q (by omega) h hx hy;simp [Op.equalIn,hu,i1,i4,ih]
  rename_i fs xs ys;simp only [AV.rel] at hx hy;obtain ⟨us,rfl,hx⟩:=hx;obtain ⟨vs,rfl,hy⟩:=hy;cases hcm:ti.cmpOK with
  |false=>rw [hcm] at h;cases h
  |true=>
   rw [hcm] at h;obtain ⟨_,g2,g3⟩:=hT.cmp t ti hti hcm;have hfo:P.fieldsOf t=fs:=by simp [Program.fieldsOf,hun,hd]
   rw [run_equalIn_struct w m t us vs (by rw [hun,hd,hfo]) g2,hfo];exact Q3y hT (λt x y r u v hh h1 h2=>JW hT hc hH n m t x y r u v (by omega) hh h1 h2) hx hy _ r (g3 fs hd) h
  rw [hd] at hu;simp only [AV.rel] at hx hy;subst hx hy;cases h;simp [Op.equalIn,hu];rw [hd] at hu;simp only [AV.rel] at hx hy;obtain ⟨p,o',c',_,rfl,_⟩:=hy;subst hx;cases h;simp [Op.equalIn,hu];rw [hd] at hu;simp only [AV.rel] at hx hy;obtain ⟨p,o',c',_,rfl,_⟩:=hx;subst hy;cases h;simp [Op.equalIn,hu];rw [hd] at hu;simp only [AV.rel] at hx hy;subst hx hy;cases h;simp [Op.equalIn,hu];rw [hd] at hu;simp only [AV.rel] at hx hy;obtain ⟨p,_,rfl⟩:=hy;subst hx;cases h;simp [Op.equalIn,hu];rw [hd] at hu;simp only [AV.rel] at hx hy;obtain ⟨p,_,rfl⟩:=hx;subst hy;cases h;simp [Op.equalIn,hu];rw [hd] at hu;simp only [AV.rel] at hx hy;subst hx hy;cases h;simp [Op.equalIn,hu];rw [hd] at hu;simp only [AV.rel] at hx hy;obtain ⟨a1,a2,rfl,_⟩:=hy;subst hx;cases h;simp [Op.equalIn,hu];rw [hd] at hu;simp only [AV.rel] at hx hy;obtain ⟨a1,a2,rfl,_⟩:=hx;subst hy;cases h;simp [Op.equalIn,hu];cases h
end Go.Ax
namespace Go.Ax
open Go.RowKit
noncomputable def leC (c:Ctx) (a b:E):Bool:=
 match E.cmp c .leq a b with
 |some true=>true
 |_=>false
theorem ZH {n:Nat->Prop} {c:Ctx} {a b:E} {O:Val} (h:leC c a b=true) (hc:c.okN n O):a.den O<=b.den O:=by unfold leC at h;split at h;rename_i e;have:=E.Qb rfl e hc;simpa [Yf] using this;cases h
noncomputable def E.Qhf (c:Ctx) (x:E) (n:Int):Option E:=yK n λq=>bif ieq q 0 then some x else bif (E.iv c.fs x).fits q then some (.bin .add .i64 x (.lit q)) else none
noncomputable def E.plus (c:Ctx) (x:E) (n:Int):Option E:=
 match x with
 | .lit m=>some (.Q2a (m+n))
 | .bin .add .i64 y (.lit p)=>bif (E.iv c.fs y).fits p then E.Qhf c y (p+n) else none
 |x=>E.Qhf c x n
theorem E.Q0x {d:Nat->Prop} {c:Ctx} {x r:E} {n:Int} {O:Val} (h:E.Qhf c x n=some r) (hc:c.okN d O) (hx:x.ok d):r.ok d/\r.den O=x.den O+n:=by
 unfold E.Qhf at h;rw [sInt_eq] at h;cases h0:ieq n 0 with
 |true=>
  rw [h0] at h;cases h;rw [qG] at h0;have:n=0:=by simpa using h0
  exact ⟨hx,by omega⟩
 |false=>
  rw [h0] at h;simp only [cond_false] at h;cases h1:(E.iv c.fs x).fits n with
  |false=>rw [h1] at h;cases h
  |true=>rw [h1] at h;cases h;exact ⟨⟨hx,trivial⟩,by simp only [E.den,Zp];exact Iv.ZT h1 (E.Qd hc.2 x)⟩
theorem E.Z7 {d:Nat->Prop} {c:Ctx} {x r:E} {n:Int} {O:Val} (h:E.plus c x n=some r) (hc:c.okN d O) (hx:x.ok d):r.ok d/\r.den O=x.den O+n:=by
 unfold E.plus at h;split at h;simp only [Option.some.injEq,E.litS_eq] at h;subst h;exact ⟨trivial,rfl⟩;rename_i y p;cases h1:(E.iv c.fs y).fits p with
 |false=>rw [h1] at h;cases h
 |true=>rw [h1] at h;obtain ⟨g1,g2⟩:=E.Q0x h hc hx.1;refine ⟨g1,?_⟩;have:=Iv.ZT h1 (E.Qd hc.2 y);simp only [E.den,Zp];rw [this,g2];omega
 exact E.Q0x h hc hx
def Iv.both (A B:Iv):Bool:=
 match A.lo,A.hi,B.lo,B.hi with
 |some la,some ha,some lb,some hb=>ile (-9223372036854775808) (la+lb)&&ile (ha+hb) 9223372036854775807
 |_,_,_,_=>false
theorem Iv.Qd0 {A B:Iv} {x y:Int} (h:A.both B=true) (hx:A.has x) (hy:B.has y):IntKind.i64.wrap (x+y)=x+y:=by unfold Iv.both at h;split at h;rename_i e1 e2 e3 e4;simp only [Bool.and_eq_true,QU] at h;have:=hx.1 _ e1;have:=hx.2 _ e2;have:=hy.1 _ e3;have:=hy.2 _ e4;rw [Q6];omega;cases h
noncomputable def E.sumC (c:Ctx) (a b:E):Option E:=
 match a,b with
 |a, .lit n=>E.plus c a n
 | .lit n,b=>E.plus c b n
 |a,b=>bif (E.iv c.fs a).both (E.iv c.fs b) then some (E.Qm7 a b) else none
theorem E.Q2p {d:Nat->Prop} {c:Ctx} {a b r:E} {O:Val} (h:E.sumC c a b=some r) (hc:c.okN d O) (ha:a.ok d) (hb:b.ok d):r.ok d/\r.den O=a.den O+b.den O:=by
 unfold E.sumC at h;split at h;exact E.Z7 h hc ha;obtain ⟨g1,g2⟩:=E.Z7 h hc hb;exact ⟨g1,by rw [g2];simp only [E.den];omega⟩;cases hh:(E.iv c.fs a).both (E.iv c.fs b) with
 |false=>rw [hh] at h;cases h
 |true=>rw [hh] at h;cases h;exact ⟨E.Q9r ha hb,by rw [E.Q5j];simp only [Zp];exact Iv.Qd0 hh (E.Qd hc.2 a) (E.Qd hc.2 b)⟩
noncomputable def E.Qmf (c:Ctx) (a b:E):Option E:=
 match b with
 | .lit n=>E.plus c a (-n)
 |b=>match a.base,b.base with
  |(x,p),(y,q)=>bif x.same y&&((E.iv c.fs x).fits p&&(E.iv c.fs x).fits q) then some (.Q2a (p-q)) else bif (E.dIv c.fs a b).fits 0 then some (E.Qlt a b) else none
theorem E.jv {d:Nat->Prop} {c:Ctx} {a b r:E} {O:Val} (h:E.Qmf c a b=some r) (hc:c.okN d O) (ha:a.ok d) (hb:b.ok d):r.ok d/\r.den O=a.den O-b.den O:=by
 unfold E.Qmf at h;split at h;obtain ⟨g1,g2⟩:=E.Z7 h hc ha;exact ⟨g1,by rw [g2];simp only [E.den];omega⟩;split at h;rename_i x p y q h1 h2;cases hh:(x.same y&&((E.iv c.fs x).fits p&&(E.iv c.fs x).fits q)) with
 |false=>
  rw [hh] at h;simp only [cond_false] at h;cases h3:(E.dIv c.fs a b).fits 0 with
  |false=>rw [h3] at h;cases h
  |true=>rw [h3] at h;cases h;refine ⟨E.Qdl ha hb,?_⟩;rw [E.Qa1];have:=Iv.ZT h3 (E.YN hc.2 a b);simpa only [Zp,Int.add_zero] using this
 |true=>rw [hh] at h;simp only [cond_true,Option.some.injEq,E.litS_eq] at h;subst h;simp only [Bool.and_eq_true] at hh;have e:=E.Q5 hh.1;have e1:=E.Jm (O:=O) hc.2 a (by rw [h1];exact hh.2.1);have e2:=E.Jm (O:=O) hc.2 b (by rw [h2,<-e];exact hh.2.2);rw [h1] at e1;rw [h2,<-e] at e2;exact ⟨trivial,by rw [e1,e2];simp only [E.den];omega⟩
noncomputable def E.ivS (c:Facts) (e:E):Iv:=(E.iv c e).meet (match e with
 | .bin .sub .i64 a b=>bif (E.dIv c a b).fits 0 then E.dIv c a b else .all
 |_=> .all)
theorem E.Qez {n:Nat->Prop} {c:Facts} {O:Val} (hc:c.okN n O) (e:E):(E.ivS c e).has (e.den O):=by
 refine Iv.Zu (E.Qd hc e) ?_;split;rename_i a b;cases h:(E.dIv c a b).fits 0 with
 |false=>exact Iv.QJ _
 |true=>have h1:=E.YN hc a b;have h2:=Iv.ZT h h1;simp only [Int.add_zero] at h2;simp only [cond_true,E.den,Zp,h2];exact h1
 exact Iv.QJ _
inductive Pc where
 |b (l:List E)
 |v (i:Nat) (lo hi:E)
def Pc.den (O:Val):Pc->List UInt8
 | .b l=>S.bytes O l
 | .v i lo hi=>((O.str i).drop (lo.den O).toNat).take ((hi.den O).toNat-(lo.den O).toNat)
def Pc.ok (n:Nat->Prop):Pc->Prop
 | .b l=>∀t∈l,t.ok n
 | .v i lo hi=>n i/\lo.ok n/\hi.ok n
def Pc.sane (O:Val):Pc->Prop
 | .b _=>True
 | .v i lo hi=>0<=lo.den O/\lo.den O<=hi.den O/\hi.den O<=((O.str i).length:Int)
noncomputable def Pc.good (c:Ctx):Pc->Bool
 | .b _=>true
 | .v i lo hi=>leC c (.lit 0) lo&&(leC c lo hi&&leC c hi (.len i))
theorem Pc.Qcs {d:Nat->Prop} {c:Ctx} {O:Val} (hc:c.okN d O) {p:Pc} (h:p.good c=true):p.sane O:=by
 cases p with
 |b=>trivial
 |v i lo hi=>simp only [Pc.good,Bool.and_eq_true] at h;exact ⟨ZH h.1 hc,ZH h.2.1 hc,ZH h.2.2 hc⟩
theorem Pc.Qhy {O:Val} {i:Nat} {lo hi:E} (h:(Pc.v i lo hi).sane O):(((Pc.v i lo hi).den O).length:Int)=hi.den O-lo.den O:=by obtain ⟨h1,h2,h3⟩:=h;simp only [Pc.den,List.length_take,List.length_drop];omega
def Jt (O:Val) (l:List Pc):List UInt8:=(l.map (Pc.den O)).flatten
@[simp] theorem rden_nil (O:Val):Jt O []=[]:=rfl
theorem Qa (O:Val) (p:Pc) (l:List Pc):Jt O (p::l)=p.den O++Jt O l:=rfl
theorem Q0u (O:Val) (l m:List Pc):Jt O (l++m)=Jt O l++Jt O m:=by simp [Jt]
abbrev rok (n:Nat->Prop) (l:List Pc):Prop:=∀p∈l,p.ok n
def ST.pcs:ST->Option (List Pc)
 | .var i=>some [.v i (.lit 0) (.len i)]
 | .bs l=>some [.b l]
 | .cat a b=>match a.pcs,b.pcs with
  |some p,some q=>some (p++q)
  |_,_=>none
 | .sub a lo hi=>match a with
  | .var i=>some [.v i lo hi]
  |_=>none
theorem ST.Y4 {d:Nat->Prop} {O:Val}:∀{s:ST} {l:List Pc},s.pcs=some l->s.ok d->rok d l/\Jt O l=s.den O
 | .var i,l,h,ho=>by cases h;refine ⟨λp hp=>?_,?_⟩;simp only [List.mem_singleton] at hp;subst hp;exact ⟨ho,trivial,ho⟩;simp [Qa,Pc.den,ST.den,E.den]
 | .bs m,l,h,ho=>by cases h;refine ⟨λp hp=>?_,by simp [Qa,Pc.den,ST.den]⟩;simp only [List.mem_singleton] at hp;subst hp;exact ho
 | .cat a b,l,h,ho=>by simp only [ST.pcs] at h;split at h;rename_i p q hp hq;cases h;obtain ⟨a1,a2⟩:=ST.Y4 (O:=O) hp ho.1;obtain ⟨b1,b2⟩:=ST.Y4 (O:=O) hq ho.2;refine ⟨λx hx=>?_,by rw [Q0u,a2,b2];rfl⟩;rcases List.mem_append.1 hx with hx|hx;exact a1 x hx;exact b1 x hx;cases h
 | .sub a lo hi,l,h,ho=>by simp only [ST.pcs] at h;split at h;cases h;refine ⟨λp hp=>?_,by simp [Qa,Pc.den,ST.den]⟩;simp only [List.mem_singleton] at hp;subst hp;exact ho;cases h
theorem jA {O:Val}:∀{s:ST} {l:List Pc},s.pcs=some l->Jt O l=s.den O
 | .var i,l,h=>by cases h;simp [Qa,Pc.den,ST.den,E.den]
 | .bs m,l,h=>by cases h;simp [Qa,Pc.den,ST.den]
 | .cat a b,l,h=>by simp only [ST.pcs] at h;split at h;rename_i p q hp hq;cases h;rw [Q0u,jA hp,jA hq];rfl;cases h
 | .sub a lo hi,l,h=>by simp only [ST.pcs] at h;split at h;cases h;simp [Qa,Pc.den,ST.den];cases h
noncomputable def Q8q (p:Pc) (r:List Pc):List Pc:=
 match p with
 | .b l=>match l,r with
  |[],r=>r
  |l, .b m::r=> .b (l++m)::r
  |l,r=> .b l::r
 | .v i lo hi=>bif lo.same hi then r else .v i lo hi::r
theorem Qej {O:Val} (p:Pc) (r:List Pc):Jt O (Q8q p r)=p.den O++Jt O r:=by
 unfold Q8q;split;split;simp [Pc.den,S.bytes];simp [Qa,Pc.den,S.bytes];rfl;rename_i i lo hi;cases hs:lo.same hi with
 |false=>rfl
 |true=>have:=E.Q5 hs;subst this;simp [Pc.den]
theorem Qhi {d:Nat->Prop} {p:Pc} {r:List Pc} (hp:p.ok d) (hr:rok d r):rok d (Q8q p r):=by
 unfold Q8q;split;split;exact hr;rename_i l m r _;intro x hx;rcases List.mem_cons.1 hx with rfl|hx;intro t ht;rcases List.mem_append.1 ht with h|h;exact hp t h;exact hr (.b m) (by simp) t h;exact hr x (by simp [hx]);intro x hx;rcases List.mem_cons.1 hx with rfl|hx;exact hp;exact hr x hx;rename_i i lo hi;cases lo.same hi with
 |true=>exact hr
 |false=>intro x hx;rcases List.mem_cons.1 hx with rfl|hx;exact hp;exact hr x hx
theorem Qcg {O:Val} {p:Pc} {r:List Pc} (hp:p.sane O) (hr:∀x∈r,x.sane O):∀x∈Q8q p r,x.sane O:=by
 unfold Q8q;split;split;exact hr;intro x hx;rcases List.mem_cons.1 hx with rfl|hx;trivial;exact hr x (by simp [hx]);intro x hx;rcases List.mem_cons.1 hx with rfl|hx;exact hp;exact hr x hx;rename_i i lo hi;cases lo.same hi with
 |true=>exact hr
 |false=>intro x hx;rcases List.mem_cons.1 hx with rfl|hx;exact hp;exact hr x hx
noncomputable def norm:List Pc->List Pc
 |[]=>[]
 |p::l=>Q8q p (norm l)
theorem Yi {O:Val}:∀l:List Pc,Jt O (norm l)=Jt O l
 |[]=>rfl
 |p::l=>by rw [norm,Qej,Yi l,Qa]
theorem Q4i {d:Nat->Prop}:∀{l:List Pc},rok d l->rok d (norm l)
 |[],h=>h
 |p::l,h=>Qhi (h p (by simp)) (Q4i λx hx=>h x (by simp [hx]))
theorem zQ {O:Val}:∀{l:List Pc},(∀x∈l,x.sane O)->∀x∈norm l,x.sane O
 |[],h=>h
 |p::l,h=>Qcg (h p (by simp)) (zQ λx hx=>h x (by simp [hx]))
noncomputable def Q6o (c:Ctx):List Pc->Option E
 |[]=>some (.lit 0)
 | .b l::r=>match Q6o c r with
  |some e=>QG l.length λn=>E.plus c e (.ofNat n)
  |none=>none
 | .v _ lo hi::r=>match Q6o c r,E.Qmf c hi lo with
  |some e,some d=>E.sumC c d e
  |_,_=>none
theorem Yv {d:Nat->Prop} {c:Ctx} {O:Val} (hc:c.okN d O):∀{l:List Pc} {e:E},Q6o c l=some e->rok d l->(∀x∈l,x.sane O)->e.ok d/\e.den O=((Jt O l).length:Int)
 |[],e,h,_,_=>by cases h;exact ⟨trivial,rfl⟩
 | .b l::r,e,h,ho,hs=>by simp only [Q6o] at h;split at h;rename_i e' he;obtain ⟨g1,g2⟩:=Yv hc he (λx hx=>ho x (by simp [hx])) (λx hx=>hs x (by simp [hx]));rw [sNat_eq] at h;obtain ⟨k1,k2⟩:=E.Z7 h hc g1;refine ⟨k1,?_⟩;rw [k2,g2,Qa];simp [Pc.den,S.bytes];omega;cases h
 | .v i lo hi::r,e,h,ho,hs=>by
  simp only [Q6o] at h;split at h;rename_i e' dd he hd;obtain ⟨g1,g2⟩:=Yv hc he (λx hx=>ho x (by simp [hx])) (λx hx=>hs x (by simp [hx]));have hp:(Pc.v i lo hi).ok d:=ho _ (by simp)
  obtain ⟨k1,k2⟩:=E.jv hd hc hp.2.2 hp.2.1;obtain ⟨m1,m2⟩:=E.Q2p h hc k1 g1;refine ⟨m1,?_⟩;have:=Pc.Qhy (hs (.v i lo hi) (by simp));rw [m2,k2,g2,Qa,List.length_append];omega;cases h
noncomputable def E.subE (c:Ctx) (a b:E):Option E:=bif leC c a b&&leC c b a then some (.lit 0) else E.Qmf c a b
theorem E.Qc1 {d:Nat->Prop} {c:Ctx} {a b r:E} {O:Val} (h:E.subE c a b=some r) (hc:c.okN d O) (ha:a.ok d) (hb' :b.ok d):r.ok d/\r.den O=a.den O-b.den O:=by
 unfold E.subE at h;cases hb:(leC c a b&&leC c b a) with
 |false=>rw [hb] at h;exact E.jv h hc ha hb'
 |true=>rw [hb] at h;cases h;rw [Bool.and_eq_true] at hb;have h1:=ZH hb.1 hc;have h2:=ZH hb.2 hc;exact ⟨trivial,by simp only [E.den];omega⟩
noncomputable def Qgm (c:Ctx):E->List Pc->Option (List Pc×List Pc)
 |n,[]=>bif n.same (.lit 0) then some ([],[]) else none
 |n, .b m::r=>match n with
  | .lit (.ofNat k)=>bif Nat.ble k m.length then some ([.b (m.take k)], .b (m.drop k)::r) else
   QG (k-m.length) λk' =>match Qgm c (.lit (.ofNat k')) r with
    |some (f,g)=>some (.b m::f,g)
    |none=>none
  |n=>QG m.length λq=>bif leC c (.lit (.ofNat q)) n then (match E.plus c n (-(.ofNat q)) with
   |some n' =>match Qgm c n' r with
    |some (f,g)=>some (.b m::f,g)
    |none=>none
   |none=>none) else none
 |n, .v i lo hi::r=>bif n.same (.lit 0) then some ([], .v i lo hi::r) else
  match E.Qmf c hi lo with
  |none=>none
  |some d=>bif leC c d n then (match E.subE c n d with
   |some n' =>match Qgm c n' r with
    |some (f,g)=>some (.v i lo hi::f,g)
    |none=>none
   |none=>none)
   else bif leC c (.lit 0) n&&leC c n d then (match E.sumC c lo n with
    |some m=>some ([.v i lo m], .v i m hi::r)
    |none=>none)
   else none
theorem Yn {d:Nat->Prop} {c:Ctx} {O:Val} (hc:c.okN d O):∀{l:List Pc} {n:E} {f g:List Pc},Qgm c n l=some (f,g)->n.ok d->rok d l->(∀x∈l,x.sane O)->
 rok d f/\rok d g/\(∀x∈f,x.sane O)/\(∀x∈g,x.sane O)/\Jt O l=Jt O f++Jt O g/\n.den O=((Jt O f).length:Int)
 |[],n,f,g,h,_,_,_=>by
  simp only [Qgm] at h;cases hn:n.same (.lit 0) with
  |false=>rw [hn] at h;cases h
  |true=>rw [hn] at h;cases h;rw [E.Q5 hn];exact ⟨(λx hx=>by cases hx),(λx hx=>by cases hx),(λx hx=>by cases hx),(λx hx=>by cases hx),rfl,rfl⟩
 | .b m::r,n,f,g,h,hn,ho,hs=>by
  have ho' :rok d r:=λx hx=>ho x (by simp [hx])
  have hs' :∀x∈r,x.sane O:=λx hx=>hs x (by simp [hx])
  have hm:(Pc.b m).ok d:=ho _ (by simp)
  have hlen:((Pc.b m).den O).length=m.length:=by simp [Pc.den,S.bytes]
  simp only [Qgm] at h;split at h;rename_i k;cases hk:Nat.ble k m.length with
  |true=>
   rw [hk] at h;cases h;rw [Nat.ble_eq] at hk;refine ⟨λx hx=>?_,λx hx=>?_,λx hx=>?_,λx hx=>?_,?_,?_⟩;simp only [List.mem_singleton] at hx;subst hx;exact λt ht=>hm t (List.mem_of_mem_take ht)
   rcases List.mem_cons.1 hx with rfl|hx;exact λt ht=>hm t (List.mem_of_mem_drop ht)
   exact ho' x hx;simp only [List.mem_singleton] at hx;subst hx;trivial;rcases List.mem_cons.1 hx with rfl|hx;trivial;exact hs' x hx;simp only [Qa,rden_nil,List.append_nil,Pc.den,S.bytes,List.map_take,List.map_drop];rw [<-List.append_assoc,List.take_append_drop];simp only [Qa,rden_nil,List.append_nil,Pc.den,S.bytes,List.length_map,List.length_take,E.den];simp only [Int.ofNat_eq_natCast];omega
  |false=>
   rw [hk] at h;simp only [cond_false,sNat_eq] at h;have hk' :m.length<k:=by rcases Nat.lt_or_ge m.length k with h' |h';exact h';rw [show Nat.ble k m.length=true from Nat.ble_eq_true_of_le h'] at hk;cases hk
   split at h;rename_i f' g' hcut;cases h;obtain ⟨a1,a2,a3,a4,a5,a6⟩:=Yn hc hcut trivial ho' hs';refine ⟨λx hx=>?_,a2,λx hx=>?_,a4,?_,?_⟩;rcases List.mem_cons.1 hx with rfl|hx;exact hm;exact a1 x hx;rcases List.mem_cons.1 hx with rfl|hx;trivial;exact a3 x hx;rw [Qa,Qa,a5,List.append_assoc];rw [Qa,List.length_append,hlen];simp only [E.den,Int.ofNat_eq_natCast] at a6 ⊢;omega;cases h
  rw [sNat_eq] at h;cases hl:leC c (.lit (.ofNat m.length)) n with
  |false=>rw [hl] at h;cases h
  |true=>rw [hl] at h;simp only [cond_true] at h;split at h;rename_i n' hp;obtain ⟨p1,p2⟩:=E.Z7 hp hc hn;split at h;rename_i f' g' hcut;cases h;obtain ⟨a1,a2,a3,a4,a5,a6⟩:=Yn hc hcut p1 ho' hs';refine ⟨λx hx=>?_,a2,λx hx=>?_,a4,?_,?_⟩;rcases List.mem_cons.1 hx with rfl|hx;exact hm;exact a1 x hx;rcases List.mem_cons.1 hx with rfl|hx;trivial;exact a3 x hx;rw [Qa,Qa,a5,List.append_assoc];rw [Qa,List.length_append,hlen];rw [p2] at a6;simp only [Int.ofNat_eq_natCast] at a6;omega;cases h;cases h
 | .v i lo hi::r,n,f,g,h,hn,ho,hs=>by
  have ho' :rok d r:=λx hx=>ho x (by simp [hx])
  have hs' :∀x∈r,x.sane O:=λx hx=>hs x (by simp [hx])
  have hm:(Pc.v i lo hi).ok d:=ho _ (by simp)
  have hsm:(Pc.v i lo hi).sane O:=hs _ (by simp)
  have hlen:=Pc.Qhy hsm;simp only [Qgm] at h;cases h0:n.same (.lit 0) with
  |true=>rw [h0] at h;cases h;rw [E.Q5 h0];exact ⟨(λx hx=>by cases hx),ho,(λx hx=>by cases hx),hs,rfl,rfl⟩
  |false=>
   rw [h0] at h;simp only [cond_false] at h;split at h;cases h;rename_i dd hd;obtain ⟨d1,d2⟩:=E.jv hd hc hm.2.2 hm.2.1;cases hl:leC c dd n with
   |true=>rw [hl] at h;simp only [cond_true] at h;split at h;rename_i n' hp;obtain ⟨p1,p2⟩:=E.Qc1 hp hc hn d1;split at h;rename_i f' g' hcut;cases h;obtain ⟨a1,a2,a3,a4,a5,a6⟩:=Yn hc hcut p1 ho' hs';refine ⟨λx hx=>?_,a2,λx hx=>?_,a4,?_,?_⟩;rcases List.mem_cons.1 hx with rfl|hx;exact hm;exact a1 x hx;rcases List.mem_cons.1 hx with rfl|hx;exact hsm;exact a3 x hx;rw [Qa,Qa,a5,List.append_assoc];rw [Qa,List.length_append];omega;cases h;cases h
   |false=>
    rw [hl] at h;simp only [cond_false] at h;cases hb:(leC c (.lit 0) n&&leC c n dd) with
    |false=>rw [hb] at h;cases h
    |true=>
     rw [hb] at h;simp only [cond_true] at h;simp only [Bool.and_eq_true] at hb;have l1:(0:Int)<=n.den O:=ZH hb.1 hc;have l2:=ZH hb.2 hc;split at h
     . rename_i m hm';cases h;obtain ⟨q1,q2⟩:=E.Q2p hm' hc hm.2.1 hn;obtain ⟨s1,s2,s3⟩:=hsm;have sf:(Pc.v i lo m).sane O:=⟨s1,by omega,by omega⟩
       have sg:(Pc.v i m hi).sane O:=⟨by omega,by omega,s3⟩
       refine ⟨λx hx=>?_,λx hx=>?_,λx hx=>?_,λx hx=>?_,?_,?_⟩;simp only [List.mem_singleton] at hx;subst hx;exact ⟨hm.1,hm.2.1,q1⟩;rcases List.mem_cons.1 hx with rfl|hx;exact ⟨hm.1,q1,hm.2.2⟩;exact ho' x hx;simp only [List.mem_singleton] at hx;subst hx;exact sf;rcases List.mem_cons.1 hx with rfl|hx;exact sg;exact hs' x hx
       . simp only [Qa,rden_nil,List.append_nil];rw [<-List.append_assoc];congr 1;simp only [Pc.den];have e1:(hi.den O).toNat-(lo.den O).toNat=((m.den O).toNat-(lo.den O).toNat)+((hi.den O).toNat-(m.den O).toNat):=by omega
         have e2:(m.den O).toNat=(lo.den O).toNat+((m.den O).toNat-(lo.den O).toNat):=by omega
         rw [e1,List.take_add,List.drop_drop];congr 3
         all_goals omega
       have:=Pc.Qhy sf;simp only [Qa,rden_nil,List.append_nil];omega
     cases h
def E.isByte:E->Bool
 | .lit (.ofNat n)=>Nat.blt n 256
 | .byte _ _=>true
 | .cnv .u8 _=>true
 |_=>false
theorem E.Y6 {e:E} (h:e.isByte=true) (O:Val):0<=e.den O/\e.den O<256:=by
 cases e with
 |var i=>cases h
 |len i=>cases h
 |bin op k a b=>cases h
 |pk n a=>cases h
 |cons a t=>cases h
 |tv i lo hi t=>cases h
 |fn k t=>cases h
 |mn a b=>cases h
 |byte i a=>
  have:=((O.str i).getD (a.den O).toNat 0).toNat_lt
  simp only [E.den];omega
 |cnv k a=>
  cases k
  case u8=>
   have:=ZF .u8 (a.den O)
   simp only [kLo,kHi] at this;simp only [E.den];omega
  all_goals cases h
 |lit n=>
  cases n with
  |negSucc n=>cases h
  |ofNat n=>
   have:n<256:=by simpa [E.isByte] using h
   simp only [E.den,Int.ofNat_eq_natCast];omega
noncomputable def Pc.st:Pc->ST
 | .b l=> .bs l
 | .v i lo hi=>bif lo.same (.lit 0)&&hi.same (.len i) then .var i else .sub (.var i) lo hi
theorem Pc.st_v (i:Nat) (lo hi:E):(Pc.v i lo hi).st=bif lo.same (.lit 0)&&hi.same (.len i) then .var i else .sub (.var i) lo hi:=rfl
theorem Pc.Qa3 {O:Val} (p:Pc):p.st.den O=p.den O:=by
 cases p with
 |b l=>rfl
 |v i lo hi=>
  rw [Pc.st_v];cases h:(lo.same (.lit 0)&&hi.same (.len i)) with
  |false=>rfl
  |true=>simp only [Bool.and_eq_true] at h;simp only [cond_true,ST.den,Pc.den];rw [E.Q5 h.1,E.Q5 h.2];simp [E.den]
theorem Pc.Qmk {d:Nat->Prop} {p:Pc} (h:p.ok d):p.st.ok d:=by
 cases p with
 |b l=>exact h
 |v i lo hi=>
  rw [Pc.st_v];cases (lo.same (.lit 0)&&hi.same (.len i)) with
  |false=>exact h
  |true=>exact h.1
theorem Pc.Qj7 {O:Val} {p:Pc} (h:p.sane O) (hl:(p.den O).length<=549755813888):p.st.fit O:=by
 cases p with
 |b l=>simp [Pc.st,ST.fit,ST.len,E.den,ST.den,S.bytes]
 |v i lo hi=>
  have hv:=Pc.Qhy h;have e:=Pc.Qa3 (O:=O) (.v i lo hi);unfold ST.fit;rw [e,Pc.st_v];cases hb:(lo.same (.lit 0)&&hi.same (.len i)) with
  |true=>simp only [Bool.and_eq_true] at hb;rw [hv];simp only [cond_true,ST.len];rw [E.Q5 hb.1,E.Q5 hb.2];simp [E.den]
  |false=>simp only [cond_false,ST.len,E.den,Zp];rw [hv,Q6];omega
noncomputable def ofR:List Pc->ST
 |[]=> .bs []
 |[p]=>p.st
 |p::q::r=> .cat p.st (ofR (q::r))
theorem Q8t {O:Val}:∀l:List Pc,(ofR l).den O=Jt O l
 |[]=>rfl
 |[p]=>by simp [ofR,Pc.Qa3,Qa]
 |p::q::r=>by
  show p.st.den O++(ofR (q::r)).den O=p.den O++Jt O (q::r)
  rw [Pc.Qa3,Q8t (q::r)]
theorem Qja {d:Nat->Prop}:∀{l:List Pc},rok d l->(ofR l).ok d
 |[],_=>λt ht=>by cases ht
 |[p],h=>Pc.Qmk (h p (by simp))
 |p::q::r,h=>⟨Pc.Qmk (h p (by simp)),Qja λx hx=>h x (by simp [hx])⟩
theorem Q97 {O:Val} {a b:ST} (ha:a.fit O) (hb:b.fit O) (h1:(a.den O).length<=549755813888) (h2:(b.den O).length<=549755813888):(ST.cat a b).fit O:=by unfold ST.fit at*;simp only [ST.len,E.den,ST.den,Zp,List.length_append,ha,hb];rw [Q6];omega
theorem Qel {O:Val}:∀{l:List Pc},(∀x∈l,x.sane O)->(Jt O l).length<=549755813888->(ofR l).fit O
 |[],_,_=>by simp [ofR,ST.fit,ST.len,E.den,ST.den,S.bytes]
 |[p],h,hl=>Pc.Qj7 (h p (by simp)) (by simpa [Qa] using hl)
 |p::q::r,h,hl=>by rw [Qa,List.length_append] at hl;exact Q97 (Pc.Qj7 (h p (by simp)) (by omega)) (Qel (λx hx=>h x (by simp [hx])) (by omega)) (by rw [Pc.Qa3];omega) (by rw [Q8t];omega)
noncomputable def Qa5 (c:Ctx) (l:List Pc):Bool:=
 match Q6o c l with
 |some e=>(match (E.iv c.fs e).hi with
  |some h=>ile h 549755813888
  |none=>false)
 |none=>false
theorem Q65 {d:Nat->Prop} {c:Ctx} {O:Val} (hc:c.okN d O) {l:List Pc} (h:Qa5 c l=true) (ho:rok d l) (hs:∀x∈l,x.sane O):(Jt O l).length<=549755813888:=by
 unfold Qa5 at h;split at h;rename_i e he;obtain ⟨-,g⟩:=Yv hc he ho hs;split at h;rename_i u hu;have:=(E.Qd hc.2 e).2 _ hu
 rw [QU] at h;omega;cases h;cases h
noncomputable def avR (c:Ctx) (g:List Pc):Option AV:=
 match norm g with
 |[]=>some (.str [])
 |[.b m]=>bif m.all E.isByte then some (.str m) else none
 |n=>bif Qa5 c n then some (.sstr (ofR n)) else none
theorem Qg8 {c:Ctx} {X:Ext} (hc:c.okN X.dom X.O) {g:List Pc} {r:AV} (h:avR c g=some r) (ho:rok X.dom g) (hs:∀x∈g,x.sane X.O):r.rel X (.string ⟨(Jt X.O g).toArray⟩):=by
 have h1:=Yi (O:=X.O) g;have h2:=Q4i ho;have h3:=zQ hs;rw [<-h1];unfold avR at h;split at h;rename_i hn;cases h;rw [hn];simp only [AV.rel];exact ⟨(λt ht=>by cases ht),rfl⟩;rename_i m hn;cases hb:m.all E.isByte with
 |false=>rw [hb] at h;cases h
 |true=>
  rw [hb] at h;cases h;rw [hn] at h2 ⊢;have hm:(Pc.b m).ok X.dom:=h2 _ (by simp)
  simp only [AV.rel];refine ⟨λt ht=>⟨hm t ht,E.Y6 (List.all_eq_true.1 hb t ht) _⟩,?_⟩;simp [Qa,Pc.den]
 cases hb:Qa5 c (norm g) with
 |false=>rw [hb] at h;cases h
 |true=>rw [hb] at h;cases h;simp only [AV.rel];refine ⟨Qja h2,Qel h3 (Q65 hc hb h2 h3),?_⟩;rw [Q8t]
noncomputable def Qke (c:Ctx) (s:ST) (l h:E):Option AV:=
 match s.pcs with
 |some p=>bif p.all (Pc.good c) then (match Qgm c h p with
  |some (f,_)=>match Qgm c l f with
   |some (_,g)=>avR c g
   |none=>none
  |none=>none) else none
 |none=>none
theorem all_good {d:Nat->Prop} {c:Ctx} {O:Val} (hc:c.okN d O) {p:List Pc} (h:p.all (Pc.good c)=true):∀x∈p,x.sane O:=λx hx=>Pc.Qcs hc (List.all_eq_true.1 h x hx)
theorem Q8r {c:Ctx} {X:Ext} (hc:c.okN X.dom X.O) {s:ST} {l h:E} {r:AV} (hr:Qke c s l h=some r) (hs:s.ok X.dom) (hl:l.ok X.dom) (hh:h.ok X.dom):
 0<=l.den X.O/\l.den X.O<=h.den X.O/\h.den X.O<=((s.den X.O).length:Int)/\r.rel X (.string ⟨(((s.den X.O).drop (l.den X.O).toNat).take ((h.den X.O).toNat-(l.den X.O).toNat)).toArray⟩):=by
 unfold Qke at hr;split at hr;rename_i p hp;obtain ⟨p1,p2⟩:=ST.Y4 (O:=X.O) hp hs;cases hg:p.all (Pc.good c) with
 |false=>rw [hg] at hr;cases hr
 |true=>
  rw [hg] at hr;simp only [cond_true] at hr;split at hr;rename_i f g0 hf;obtain ⟨a1,a2,a3,a4,a5,a6⟩:=Yn hc hf hh p1 (all_good hc hg);split at hr;rename_i f' g hf';obtain ⟨b1,b2,b3,b4,b5,b6⟩:=Yn hc hf' hl a1 a3;have:=Qg8 hc hr b2 b4;rw [<-p2,a5,b5];have e1:(l.den X.O).toNat=(Jt X.O f').length:=by omega
  have e2:(h.den X.O).toNat-(l.den X.O).toNat=(Jt X.O g).length:=by rw [b5,List.length_append] at a6;omega
  rw [e2,e1,List.append_assoc,List.drop_left,List.take_left];rw [b5,List.length_append] at a6;refine ⟨by omega,by omega,?_,this⟩;simp only [List.length_append];omega;cases hr;cases hr
 cases hr
noncomputable def lenS (c:Ctx) (s:ST):Option E:=
 match s.pcs with
 |some p=>bif p.all (Pc.good c) then Q6o c p else none
 |none=>none
theorem Qcp {d:Nat->Prop} {c:Ctx} {O:Val} (hc:c.okN d O) {s:ST} {e:E} (h:lenS c s=some e) (hs:s.ok d):e.ok d/\e.den O=((s.den O).length:Int):=by
 unfold lenS at h;split at h;rename_i p hp;obtain ⟨p1,p2⟩:=ST.Y4 (O:=O) hp hs;cases hg:p.all (Pc.good c) with
 |false=>rw [hg] at h;cases h
 |true=>rw [hg] at h;obtain ⟨g1,g2⟩:=Yv hc h p1 (all_good hc hg);exact ⟨g1,by rw [g2,p2]⟩
 cases h
def Qe2:List E->List E->Bool
 |[],[]=>true
 |a::l,b::m=>a.same b&&Qe2 l m
 |_,_=>false
theorem qQ:∀{l m:List E},Qe2 l m=true->l=m
 |[],[],_=>rfl
 |[],_::_,h=>by cases h
 |_::_,[],h=>by cases h
 |a::l,b::m,h=>by simp only [Qe2,Bool.and_eq_true] at h;rw [E.Q5 h.1,qQ h.2]
def Qca:List Pc->List Pc->Bool
 |[],[]=>true
 | .b l::p, .b m::q=>Qe2 l m&&Qca p q
 | .v i a b::p, .v j c d::q=>Nat.beq i j&&(a.same c&&(b.same d&&Qca p q))
 |_,_=>false
theorem qP:∀{l m:List Pc},Qca l m=true->l=m
 |[],[],_=>rfl
 |[],x::_,h=>by cases x<;>cases h
 |x::_,[],h=>by cases x<;>cases h
 | .b l::p, .b m::q,h=>by simp only [Qca,Bool.and_eq_true] at h;rw [qQ h.1,qP h.2]
 | .v i a b::p, .v j c d::q,h=>by simp only [Qca,Bool.and_eq_true,Nat.beq_eq] at h;rw [h.1,E.Q5 h.2.1,E.Q5 h.2.2.1,qP h.2.2.2]
 | .b _::_, .v .. ::_,h=>by cases h
 | .v .. ::_, .b _::_,h=>by cases h
noncomputable def Qh4 (a b:ST):Bool:=
 match a.pcs,b.pcs with
 |some p,some q=>Qca (norm p) (norm q)
 |_,_=>false
theorem Q8i {O:Val} {a b:ST} (h:Qh4 a b=true):a.den O=b.den O:=by unfold Qh4 at h;split at h;rename_i p q hp hq;have h0:=qP h;have e1:=Yi (O:=O) p;have e2:=Yi (O:=O) q;have a1:Jt O p=a.den O:=jA hp;have a2:Jt O q=b.den O:=jA hq;rw [<-a1,<-a2,<-e1,<-e2,h0];cases h
noncomputable def eqC (c:Ctx) (a b:E):Bool:=a.same b||(leC c a b&&leC c b a)
theorem Q1m {n:Nat->Prop} {c:Ctx} {a b:E} {O:Val} (h:eqC c a b=true) (hc:c.okN n O):a.den O=b.den O:=by unfold eqC at h;rw [Bool.or_eq_true,Bool.and_eq_true] at h;rcases h with h|h;rw [E.Q5 h];have h1:=ZH h.1 hc;have h2:=ZH h.2 hc;omega
noncomputable def Q6p (k:Ctx):List Pc->List Pc
 |[]=>[]
 |p::r=>match p,Q6p k r with
  | .v i a b, .v j e d::q=>bif Nat.beq i j&&eqC k b e then .v i a d::q else .v i a b:: .v j e d::q
  |p,q=>p::q
noncomputable def Qc9 (k:Ctx):List Pc->List Pc->Bool
 |[],[]=>true
 | .b l::p, .b m::q=>Qe2 l m&&Qc9 k p q
 | .v i a b::p, .v j c d::q=>Nat.beq i j&&(eqC k a c&&(eqC k b d&&Qc9 k p q))
 |_,_=>false
theorem qO {n:Nat->Prop} {k:Ctx} {O:Val} (hk:k.okN n O):∀{l m:List Pc},Qc9 k l m=true->Jt O l=Jt O m
 |[],[],_=>rfl
 |[],x::_,h=>by cases x<;>cases h
 |x::_,[],h=>by cases x<;>cases h
 | .b l::p, .b m::q,h=>by simp only [Qc9,Bool.and_eq_true] at h;rw [Qa,Qa,qQ h.1,qO hk h.2]
 | .v i a b::p, .v j c d::q,h=>by simp only [Qc9,Bool.and_eq_true,Nat.beq_eq] at h;rw [Qa,Qa,qO hk h.2.2.2];simp only [Pc.den,h.1,Q1m h.2.1 hk,Q1m h.2.2.1 hk]
 | .b _::_, .v .. ::_,h=>by cases h
 | .v .. ::_, .b _::_,h=>by cases h
noncomputable def Qh5 (c:Ctx) (a b:ST):Bool:=
 match a.pcs,b.pcs with
 |some p,some q=>(p.all (Pc.good c)&&q.all (Pc.good c))&&Qc9 c (Q6p c (norm p)) (Q6p c (norm q))
 |_,_=>false
theorem Qdh {α:Type} (l:List α) {a b d:Nat} (h1:a<=b) (h2:b<=d):(l.drop a).take (b-a)++(l.drop b).take (d-b)=(l.drop a).take (d-a):=by
 have e:l.drop b=(l.drop a).drop (b-a):=by rw [List.drop_drop];congr 1;omega
 rw [e,<-List.take_add];congr 1;omega
theorem qW {n:Nat->Prop} {k:Ctx} {O:Val} (hk:k.okN n O):∀l:List Pc,(∀x∈l,x.sane O)->Jt O (Q6p k l)=Jt O l/\∀x∈Q6p k l,x.sane O
 |[],_=>⟨rfl,λ_ h=>by cases h⟩
 |p::r,h=>by
  obtain ⟨h1,h2⟩:=qW hk r λx hx=>h x (by simp [hx])
  have hp:=h p (by simp);have keep:Jt O (p::Q6p k r)=Jt O (p::r)/\∀x∈p::Q6p k r,x.sane O:=by refine ⟨by rw [Qa,Qa,h1],λx hx=>?_⟩;rcases List.mem_cons.1 hx with rfl|hx;exact hp;exact h2 x hx
  unfold Q6p;split;rename_i i a b j e d q hq;rw [hq] at keep h1 h2;cases hb:(Nat.beq i j&&eqC k b e) with
  |false=>exact keep
  |true=>
   simp only [Bool.and_eq_true,Nat.beq_eq] at hb;obtain ⟨hb,hs⟩:=hb;subst hb;have hbe:=Q1m hs hk;have hv:=h2 (.v i e d) (by simp);obtain ⟨a1,a2,a3⟩:=hp;obtain ⟨b1,b2,b3⟩:=hv;simp only [cond_true];refine ⟨?_,λx hx=>?_⟩;rw [Qa,Qa,<-h1,Qa,<-List.append_assoc];congr 1;simp only [Pc.den,<-hbe];exact (Qdh _ (by omega) (by omega)).symm
   rcases List.mem_cons.1 hx with rfl|hx;exact ⟨a1,by omega,b3⟩;exact h2 x (by simp [hx])
  exact keep
theorem Q8j {n:Nat->Prop} {c:Ctx} {O:Val} (hc:c.okN n O) {a b:ST} (h:Qh5 c a b=true):a.den O=b.den O:=by
 unfold Qh5 at h;split at h;rename_i p q hp hq;simp only [Bool.and_eq_true] at h;obtain ⟨⟨g1,g2⟩,g3⟩:=h;have h0:=qO hc g3;have e1:=(qW hc (norm p) (zQ (all_good hc g1))).1
 have e2:=(qW hc (norm q) (zQ (all_good hc g2))).1
 have a1:Jt O p=a.den O:=jA hp;have a2:Jt O q=b.den O:=jA hq;rw [<-a1,<-a2,<-Yi p,<-Yi q,<-e1,<-e2,h0];cases h
noncomputable def Qdg:List E->E->E
 |[],t=>t
 |a::l,t=> .cons a (Qdg l t)
noncomputable def yJ:List Pc->E
 |[]=> .lit (.ofNat 1)
 | .b l::r=>Qdg l (yJ r)
 | .v i lo hi::r=> .tv i lo hi (yJ r)
theorem Q5x {O:Val} {t:E}:∀l:List E,(Qdg l t).den O=YG (S.bytes O l) (t.den O)
 |[]=>rfl
 |a::l=>by simp only [Qdg,E.den,Q5x l];rfl
theorem Q9z {d:Nat->Prop} {t:E} (ht:t.ok d):∀{l:List E},(∀x∈l,x.ok d)->(Qdg l t).ok d
 |[],_=>ht
 |a::l,h=>⟨h a (by simp),Q9z ht λx hx=>h x (by simp [hx])⟩
theorem zx {O:Val}:∀l:List Pc,(yJ l).den O=YG (Jt O l) 1
 |[]=>rfl
 | .b l::r=>by rw [yJ,Q5x,zx r,Qa,Q1q];rfl
 | .v i lo hi::r=>by rw [yJ,E.den,zx r,Qa,Q1q];rfl
theorem Q43 {d:Nat->Prop}:∀{l:List Pc},rok d l->(yJ l).ok d
 |[],_=>trivial
 | .b l::r,h=>Q9z (Q43 λx hx=>h x (by simp [hx])) (h (.b l) (by simp))
 | .v i lo hi::r,h=>by have:=h (.v i lo hi) (by simp);exact ⟨this.1,this.2.1,this.2.2,Q43 λx hx=>h x (by simp [hx])⟩
end Go.Ax
namespace Go.Ax
open Go.RowKit
def Qjp:AV->Option ST
 | .str s=>some (.bs s)
 | .sstr s=>some s
 |_=>none
theorem yV {X:Ext} {x:AV} {u:Value} {s:ST} (h:Qjp x=some s) (hx:x.rel X u):s.ok X.dom/\s.fit X.O/\u= .string ⟨(s.den X.O).toArray⟩:=by cases x<;>simp only [Qjp,Option.some.injEq,reduceCtorEq] at h<;>subst h<;>simp only [AV.rel] at hx;exact ⟨λt ht=>(hx.1 t ht).1,by simp [ST.fit,ST.len,E.den,ST.den,S.bytes],hx.2⟩;exact hx
noncomputable def ST.small (c:Ctx) (s:ST):Bool:=
 match (E.iv c.fs s.len).hi with
 |some h=>ile h 549755813888
 |none=>false
theorem ST.ZO {n:Nat->Prop} {c:Ctx} {s:ST} {O:Val} (h:s.small c=true) (hc:c.okN n O) (hf:s.fit O):(s.den O).length<=549755813888:=by
 unfold ST.small at h;split at h;rename_i l e;rw [QU] at h;have:=(E.Qd hc.2 s.len).2 _ e
 unfold ST.fit at hf;omega;cases h
noncomputable def ST.fits (c:Ctx) (s:ST):Bool:=
 match (E.iv c.fs s.len).hi with
 |some h=>ile h 9223372036854775807
 |none=>false
theorem ST.ZT {n:Nat->Prop} {c:Ctx} {s:ST} {O:Val} (h:s.fits c=true) (hc:c.okN n O) (hf:s.fit O):(s.den O).length<=9223372036854775807:=by
 unfold ST.fits at h;split at h;rename_i l e;rw [QU] at h;have:=(E.Qd hc.2 s.len).2 _ e
 unfold ST.fit at hf;omega;cases h
theorem ST.Q97 {O:Val} {a b:ST} (ha:a.fit O) (hb:b.fit O) (h1:(a.den O).length<=549755813888) (h2:(b.den O).length<=549755813888):(ST.cat a b).fit O:=by unfold ST.fit at*;simp only [ST.len,E.den,ST.den,Zp,List.length_append,ha,hb];rw [wrap_within (by simp only [kLo];omega) (by simp only [kHi];omega)];omega
noncomputable def Qml (c:Ctx) (a b:ST):D Bool:=
 match b with
 | .bs []=>match E.cmp c .eql a.len (.lit (.ofNat 0)) with
  |some r=> .ok r
  |none=> .ask .eql a.len (.lit (.ofNat 0))
 |b=>match a with
  | .bs []=>match E.cmp c .eql b.len (.lit (.ofNat 0)) with
   |some r=> .ok r
   |none=> .ask .eql b.len (.lit (.ofNat 0))
  |a=>bif Qh4 a b then .ok true else bif Qh5 c a b then .ok true else
   match a.pcs,b.pcs with
   |some p,some q=>match E.cmp c .eql (yJ (norm p)) (yJ (norm q)) with
    |some r=> .ok r
    |none=> .ask .eql (yJ (norm p)) (yJ (norm q))
   |_,_=> .fail
theorem Qi9 {l m:List UInt8} (h:YG l 1=YG m 1):l=m:=by rw [<-YH l,h,YH m]
theorem Qc8 {n:Nat->Prop} {c:Ctx} {O:Val} (hc:c.okN n O) {a b:ST} {r:Bool} (oa:a.ok n) (ob:b.ok n) (ha:a.fit O) (hb:b.fit O) (h:Qml c a b= .ok r):decide (a.den O=b.den O)=r:=by
 unfold Qml at h;split at h;split at h;rename_i q hq;cases h;have:=E.Qb rfl hq hc;unfold ST.fit at ha;simp only [Yf,E.den,ha] at this;rw [<-this,Bool.eq_iff_iff];simp [ST.den,S.bytes];cases h;split at h;split at h;rename_i q hq;cases h;have:=E.Qb rfl hq hc;unfold ST.fit at hb;simp only [Yf,E.den,hb] at this;rw [<-this,Bool.eq_iff_iff];have e:(([]:List UInt8)=b.den O)↔(b.den O=[]):=⟨Eq.symm,Eq.symm⟩;simp [ST.den,S.bytes,e];cases h;cases hs:Qh4 a b with
 |false=>
  rw [hs] at h;simp only [cond_false] at h;cases hj:Qh5 c a b with
  |false=>rw [hj] at h;simp only [cond_false] at h;split at h;rename_i p q hp hq;obtain ⟨p1,p2⟩:=ST.Y4 (O:=O) hp oa;obtain ⟨q1,q2⟩:=ST.Y4 (O:=O) hq ob;split at h;rename_i z hz;cases h;have:=E.Qb rfl hz hc;simp only [Yf,zx,Yi,p2,q2] at this;rw [<-this,Bool.eq_iff_iff];simp only [decide_eq_true_eq,beq_iff_eq];exact ⟨λe=>by rw [e],Qi9⟩;cases h;cases h
  |true=>rw [hj] at h;cases h;exact decide_eq_true (Q8j hc hj)
 |true=>rw [hs] at h;cases h;exact decide_eq_true (Q8i hs)
noncomputable def astr (c:Ctx) (op:BinOp) (x y:AV):D AV:=
 match Qjp x,Qjp y with
 |some a,some b=>match op with
  | .add=>bif a.small c&&b.small c then .ok (.sstr (.cat a b)) else .fail
  | .eql=>(Qml c a b).bind λr=> .ok (.bool r)
  | .neq=>(Qml c a b).bind λr=> .ok (.bool (!r))
  |_=> .fail
 |_,_=> .fail
theorem Q3u {P:Program} {c:Ctx} {X:Ext} (hc:c.okN X.dom X.O) {w:World} {op:BinOp} {t:TypeId} {x y r:AV} {u v:Value}
 (h:astr c op x y= .ok r) (hx:x.rel X u) (hy:y.rel X v):(∃s,u= .string s)/\(∃s,v= .string s)/\∃z,(binOp op t u v).run P w= .ok z w/\r.rel X z:=by
 unfold astr at h;split at h;rename_i a b ha hb;obtain ⟨a1,a2,rfl⟩:=yV ha hx;obtain ⟨b1,b2,rfl⟩:=yV hb hy;refine ⟨⟨_,rfl⟩,⟨_,rfl⟩,?_⟩;have heq:∀q,Qml c a b= .ok q->(({ data:=(a.den X.O).toArray}:ByteArray).toList==({ data:=(b.den X.O).toArray}:ByteArray).toList)=q:=by intro q hq;rw [<-Qc8 hc a1 b1 a2 b2 hq,ByteArray.toList_eq,ByteArray.toList_eq,Bool.eq_iff_iff];simp
 split at h;cases hl:(a.small c&&b.small c) with
 |false=>rw [hl] at h;cases h
 |true=>
  rw [hl] at h;cases h;simp only [Bool.and_eq_true] at hl;have l1:=ST.ZO hl.1 hc a2;have l2:=ST.ZO hl.2 hc b2;refine ⟨.string (⟨(a.den X.O).toArray⟩++⟨(b.den X.O).toArray⟩),?_,?_⟩;have e:¬(((({ data:=(a.den X.O).toArray}:ByteArray).size+({ data:=(b.den X.O).toArray}:ByteArray).size:Nat):Int)>IntKind.i64.max):=by have:IntKind.i64.max=9223372036854775807:=rfl;rw [this];show ¬(((a.den X.O).toArray.size+(b.den X.O).toArray.size:Nat):Int)>_;simp only [List.size_toArray];omega
  simp only [binOp,Op.stringOp,e,if_false,Sem.run_pure];simp only [AV.rel];refine ⟨⟨a1,b1⟩,ST.Q97 a2 b2 l1 l2,?_⟩;rw [ByteArray.mk_append_mk];simp [ST.den]
 obtain ⟨q,h1,h2⟩:=D.bind_ok h;cases h2;exact ⟨.bool q,by simp only [binOp,Op.stringOp,heq q h1,Sem.run_pure],by simp only [AV.rel]⟩;obtain ⟨q,h1,h2⟩:=D.bind_ok h;cases h2;exact ⟨.bool (!q),by simp only [binOp,Op.stringOp,heq q h1,Sem.run_pure],by simp only [AV.rel]⟩;cases h;cases h
noncomputable def yR (c:Ctx) (op:BinOp) (k:IntKind) (a b:E):D AV:=
 match op with
 | .add| .sub| .mul=>(D.of (E.Q3v c op k a b)).bind λr=> .ok (.int k r)
 | .quo| .rem=>(D.of (E.divide c op k a b)).bind λr=> .ok (.int k r)
 | .and| .or| .xor| .andNot=>(D.of (E.bits op k a b)).bind λr=> .ok (.int k r)
 | .shl| .shr=> .fail
 |_=>match E.cmp c op a b with
  |some r=> .ok (.bool r)
  |none=>match E.askN c op a b with
   |(o,x,y)=> .ask o x y
noncomputable def Qbr (T:Tab) (c:Ctx) (H:Tr Q7) (kx:Bool) (op:BinOp) (t:TypeId) (x y:AV):D AV:=
 match x,y with
 | .int k a, .int j b=>
  match op with
  | .shl| .shr=>(D.of (E.shift c op k a b)).bind λr=> .ok (.int k r)
  |_=>bif Nat.beq (kN k) (kN j) then yR c op k a b else .fail
 | .str a, .str b=>
  match op with
  | .add=>bif Nat.ble (a.length+b.length) 1099511627776 then .ok (.str (a++b)) else .fail
  | .eql=>(S.eq c a b).bind λr=> .ok (.bool r)
  | .neq=>(S.eq c a b).bind λr=> .ok (.bool (!r))
  |_=> .fail
 | .agg a, .agg b=>
  match T.ty t with
  |none=> .fail
  |some ti=>bif ti.cmpOK then
   match op with
   | .eql=>(aeq T c H 50 t (.agg a) (.agg b)).bind λr=> .ok (.bool r)
   | .neq=>(aeq T c H 50 t (.agg a) (.agg b)).bind λr=> .ok (.bool (!r))
   |_=> .fail
   else .fail
 | .nilIface, .nilIface=>
  bif kx then
   match op with
   | .eql=>(aeq T c H 50 t .nilIface .nilIface).bind λr=> .ok (.bool r)
   | .neq=>(aeq T c H 50 t .nilIface .nilIface).bind λr=> .ok (.bool (!r))
   |_=> .fail
  else .fail
 | .sstr a,y=>astr c op (.sstr a) y
 |x, .sstr b=>astr c op x (.sstr b)
 |x,y=>
  match op with
  | .eql=>(aeq T c H 50 t x y).bind λr=> .ok (.bool r)
  | .neq=>(aeq T c H 50 t x y).bind λr=> .ok (.bool (!r))
  |_=> .fail
theorem Q9p {P:Program} {w:World} {c:Ctx} {X:Ext} (hc:c.okN X.dom X.O) {op:BinOp} {k:IntKind} {a b:E} {v:AV} (t:TypeId) (ha:a.ok X.dom) (hb:b.ok X.dom) (h:yR c op k a b= .ok v):
 ∃u,(binOp op t (.int k (a.den X.O)) (.int k (b.den X.O))).run P w= .ok u w/\v.rel X u:=by
 unfold yR at h;split at h
 case h_1|h_2|h_3=>obtain ⟨r,h1,h2⟩:=D.bind_ok h;cases h2;have:=E.Q7t (P:=P) (w:=w) (O:=X.O) hc (D.Qu h1);exact ⟨_,by simpa [binOp] using this,by simp only [AV.rel];exact ⟨E.Qgb (D.Qu h1) ha hb,trivial⟩⟩
 case h_4|h_5=>obtain ⟨r,h1,h2⟩:=D.bind_ok h;cases h2;have:=E.Q77 (P:=P) (w:=w) (O:=X.O) hc (D.Qu h1);exact ⟨_,by simpa [binOp] using this,by simp only [AV.rel];exact ⟨E.Qfk (D.Qu h1) ha hb,trivial⟩⟩
 case h_6|h_7|h_8|h_9=>obtain ⟨r,h1,h2⟩:=D.bind_ok h;cases h2;have:=E.Q3s (P:=P) (w:=w) (O:=X.O) (D.Qu h1);exact ⟨_,by simpa [binOp] using this,by simp only [AV.rel];exact ⟨E.Qg5 (D.Qu h1) ha hb,trivial⟩⟩
 case h_10|h_11=>cases h
 case h_12 op' n1 n2 n3 n4 n5 n6 n7 n8 n9 n10 n11=>
  have hop:Q6s op=true:=by cases op<;>first|rfl|(exfalso;first|exact n1 rfl|exact n2 rfl|exact n3 rfl|exact n4 rfl|exact n5 rfl|exact n6 rfl|exact n7 rfl|exact n8 rfl|exact n9 rfl|exact n10 rfl|exact n11 rfl)
  split at h;rename_i r hr;cases h;have e:=E.Qb hop hr hc;refine ⟨.bool r,?_,by simp only [AV.rel]⟩;rw [<-e,<-Qcb (P:=P) (w:=w) hop];cases op<;>simp [Q6s] at hop<;>simp [binOp];cases h
theorem Qj9 {α:Type} {P:Program} {w:World} {b:Prop} [Decidable b] {x y:Sem α} {r:Result α} (hx:x.run P w=r) (hy:y.run P w=r):(if b then x else y).run P w=r:=by split<;>assumption
theorem ZJ {P:Program} {w:World} {op:BinOp} {t:TypeId} {xo yo:Operand} {u v:Value} (h1:¬(u= .nilIface/\v= .nilIface)) (h2:∀a b,¬(u= .agg a/\v= .agg b)):(eqGuard op t xo yo u v).run P w= .ok () w:=by unfold eqGuard;refine Qj9 rfl ?_;cases u<;>cases v<;>first|rfl|(exfalso;first|exact h1 ⟨rfl,rfl⟩|exact h2 _ _ ⟨rfl,rfl⟩)
def isK:Operand->Bool
 | .const _=>true
 |_=>false
theorem JB {P:Program} {w:World} {op:BinOp} {t:TypeId} {xo yo:Operand} (h:(isK xo||isK yo)=true):(eqGuard op t xo yo .nilIface .nilIface).run P w= .ok () w:=by unfold eqGuard;refine Qj9 rfl ?_;cases xo<;>cases yo<;>simp [isK] at h<;>rfl
def vk:Value->Nat
 | .int .. =>1| .float .. =>2| .complex .. =>3| .string .. =>4|_=>0
theorem YU {P:Program} {w:World} {t:TypeId} {u v:Value} {r:Bool} (h:(Op.equalIn 10000 t u v).run P w= .ok r w) (hk:vk u=0\/vk v=0\/vk u≠vk v):
 (binOp .eql t u v).run P w= .ok (.bool r) w/\(binOp .neq t u v).run P w= .ok (.bool (!r)) w:=by
 have h' :(Op.equal t u v).run P w= .ok r w:=h
 have e1:binOp .eql t u v=(do pure (.bool (<-Op.equal t u v)))/\binOp .neq t u v=(do pure (.bool (!(<-Op.equal t u v)))):=by cases u<;>cases v<;>first|exact ⟨rfl,rfl⟩|(exfalso;revert hk;simp [vk];done)
 rw [e1.1,e1.2];simp [h']
theorem Qma {X:Ext} {a:AV} {v:Value} (h:a.rel X v) (hn:a≠ .any/\a≠ .top):vk v=match a with| .int .. =>1| .str .. =>4| .sstr .. =>4|_=>0:=by
 cases a<;>simp only [AV.rel] at h<;>
  first
   |(subst h;rfl)
   |exact absurd rfl hn.1
   |exact absurd rfl hn.2
   |(obtain ⟨_,rfl⟩:=h;rfl)
   |(obtain ⟨_,_,rfl⟩:=h;rfl)
   |(obtain ⟨_,_,_,_,rfl|⟨rfl,_⟩,_⟩:=h<;>rfl)
   |(obtain ⟨_,_,_,_,rfl,_⟩:=h;rfl)
   |(obtain ⟨_,_,rfl,_⟩:=h;rfl)
   |(obtain ⟨_,rfl,_⟩:=h;rfl)
   |(obtain ⟨_,_,rfl⟩:=h;rfl)
theorem Zf {T:Tab} {c:Ctx} {H:Tr Q7} {n:Nat} {t:TypeId} {x y:AV} {q:Bool} (h:aeq T c H n t x y= .ok q):(x≠ .any/\x≠ .top)/\y≠ .any/\y≠ .top:=by
 cases n with
 |zero=>cases h
 |succ n=>
  refine ⟨⟨?_,?_⟩,?_,?_⟩
  all_goals
   rintro rfl
   unfold aeq at h;split at h;cases h;split at h<;>first|(rename_i e;cases e;done)|(simp at*;done)|cases h
theorem Q13 {X:Ext} {a:AV} (hn:a≠ .top) (h:a.rel X .nilIface):a= .nilIface:=by cases a<;>simp only [AV.rel,reduceCtorEq,false_and,and_false,or_self,exists_false] at h<;>first|rfl|exact absurd rfl hn|cases h
theorem Qjl {X:Ext} {a:AV} {c:Array Value} (h:a.rel X (.agg c)):∃cs,a= .agg cs:=by cases a<;>simp only [AV.rel,reduceCtorEq,false_and,and_false,or_self,exists_false] at h<;>first|exact ⟨_,rfl⟩|cases h
theorem Qd9 {P:Program} {T:Tab} (hT:T.OK P) {c:Ctx} {X:Ext} (hc:c.okN X.dom X.O) {n0:Nat} {H:Tr Q7} {w:World} (hH:Qq X n0 H w) {op:BinOp} {t:TypeId} {xo yo:Operand} {x y r:AV} {u v:Value}
 (h:Qbr T c H (isK xo||isK yo) op t x y= .ok r) (hx:x.rel X u) (hy:y.rel X v):∃z,(do eqGuard op t xo yo u v;binOp op t u v).run P w= .ok z w/\r.rel X z:=by
 have eqs:∀q,aeq T c H 50 t x y= .ok q->(Op.equalIn 10000 t u v).run P w= .ok q w:=λq hq=>JW hT hc hH 50 10000 t x y q u v (by omega) hq hx hy
 have vx:=Qma hx;have vy:=Qma hy;unfold Qbr at h;split at h
 . rename_i k a j b;simp only [AV.rel] at hx hy;obtain ⟨ha,rfl⟩:=hx;obtain ⟨hb,rfl⟩:=hy;rw [Sem.run_bind,ZJ (by simp) (by simp)];simp only [Result.andThen_ok];split at h
   case h_1|h_2=>obtain ⟨r,h1,h2⟩:=D.bind_ok h;cases h2;have:=E.Q8h (P:=P) (w:=w) (O:=X.O) (j:=j) hc (D.Qu h1);exact ⟨_,by simpa [binOp] using this,by simp only [AV.rel];exact ⟨E.Qh2 (D.Qu h1) ha hb,trivial⟩⟩
   case h_3=>
    cases hk:Nat.beq (kN k) (kN j) with
    |false=>rw [hk] at h;cases h
    |true=>rw [hk] at h;have:=Q1b hk;subst this;exact Q9p hc t ha hb h
 rename_i a b;simp only [AV.rel] at hx hy;obtain ⟨o1,rfl⟩:=hx;obtain ⟨o2,rfl⟩:=hy;rw [Sem.run_bind,ZJ (by simp) (by simp)];simp only [Result.andThen_ok];have heq:∀q,S.eq c a b= .ok q->(({ data:=(S.bytes X.O a).toArray}:ByteArray).toList==({ data:=(S.bytes X.O b).toArray}:ByteArray).toList)=q:=by intro q hq;rw [<-S.Q4v hc o1 o2 hq,ByteArray.toList_eq,ByteArray.toList_eq,Bool.eq_iff_iff];simp
 split at h;cases hl:Nat.ble (a.length+b.length) 1099511627776 with
 |false=>rw [hl] at h;cases h
 |true=>
  rw [hl] at h;cases h;have hl' :a.length+b.length<=1099511627776:=by simpa using hl
  refine ⟨.string (⟨(S.bytes X.O a).toArray⟩++⟨(S.bytes X.O b).toArray⟩),?_,?_⟩;have e:¬(((({ data:=(S.bytes X.O a).toArray}:ByteArray).size+({ data:=(S.bytes X.O b).toArray}:ByteArray).size:Nat):Int)>IntKind.i64.max):=by have:IntKind.i64.max=9223372036854775807:=rfl;rw [this];show ¬(((S.bytes X.O a).toArray.size+(S.bytes X.O b).toArray.size:Nat):Int)>_;simp only [List.size_toArray,S.bytes,List.length_map];omega
  simp only [binOp,Op.stringOp,e,if_false,Sem.run_pure];simp only [AV.rel];refine ⟨λt ht=>?_,?_⟩;rcases List.mem_append.1 ht with ht|ht;exact o1 t ht;exact o2 t ht;rw [ByteArray.mk_append_mk];simp [S.bytes]
 obtain ⟨q,h1,h2⟩:=D.bind_ok h;cases h2;exact ⟨.bool q,by simp only [binOp,Op.stringOp,heq q h1,Sem.run_pure],by simp only [AV.rel]⟩;obtain ⟨q,h1,h2⟩:=D.bind_ok h;cases h2;exact ⟨.bool (!q),by simp only [binOp,Op.stringOp,heq q h1,Sem.run_pure],by simp only [AV.rel]⟩;cases h;rename_i a b;split at h;cases h;rename_i ti hti;cases hcm:ti.cmpOK with
 |false=>rw [hcm] at h;cases h
 |true=>
  rw [hcm] at h;obtain ⟨g1,_,_⟩:=hT.cmp t ti hti hcm;have hg:(eqGuard op t xo yo u v).run P w= .ok () w:=by simp only [AV.rel] at hx hy;obtain ⟨us,rfl,_⟩:=hx;obtain ⟨vs,rfl,_⟩:=hy;exact run_eqGuard_agg w op t xo yo us vs g1
  rw [Sem.run_bind,hg];simp only [Result.andThen_ok];simp only [cond_true] at h;split at h;obtain ⟨q,h1,h2⟩:=D.bind_ok h;cases h2;exact ⟨_,(YU (eqs q h1) (.inl (vx (by simp)))).1,by simp only [AV.rel]⟩;obtain ⟨q,h1,h2⟩:=D.bind_ok h;cases h2;exact ⟨_,(YU (eqs q h1) (.inl (vx (by simp)))).2,by simp only [AV.rel]⟩;cases h
 cases hk:(isK xo||isK yo) with
 |false=>rw [hk] at h;cases h
 |true=>
  rw [hk] at h;have hg:(eqGuard op t xo yo u v).run P w= .ok () w:=by simp only [AV.rel] at hx hy;subst hx hy;exact JB hk
  rw [Sem.run_bind,hg];simp only [Result.andThen_ok];simp only [cond_true] at h;split at h;obtain ⟨q,h1,h2⟩:=D.bind_ok h;cases h2;exact ⟨_,(YU (eqs q h1) (.inl (vx (by simp)))).1,by simp only [AV.rel]⟩;obtain ⟨q,h1,h2⟩:=D.bind_ok h;cases h2;exact ⟨_,(YU (eqs q h1) (.inl (vx (by simp)))).2,by simp only [AV.rel]⟩;cases h
 obtain ⟨⟨_,rfl⟩,⟨_,rfl⟩,hz⟩:=Q3u (P:=P) (w:=w) (t:=t) hc h hx hy;rw [Sem.run_bind,ZJ (by simp) (by simp)];exact hz;obtain ⟨⟨_,rfl⟩,⟨_,rfl⟩,hz⟩:=Q3u (P:=P) (w:=w) (t:=t) hc h hx hy;rw [Sem.run_bind,ZJ (by simp) (by simp)];exact hz;rename_i n5 n6 n1 n2 n3 n4;have hk:(x≠ .any/\x≠ .top)->(y≠ .any/\y≠ .top)->vk u=0\/vk v=0\/vk u≠vk v:=by intro nx ny;rw [vx nx,vy ny];cases x<;>first|exact .inl rfl|(cases y<;>first|exact .inr (.inl rfl)|(exfalso;first|exact n1 _ _ _ _ rfl rfl|exact n2 _ _ rfl rfl|exact n5 _ rfl|exact n6 _ rfl)|exact .inr (.inr (by simp)))
 have hg:x≠ .top->y≠ .top->(eqGuard op t xo yo u v).run P w= .ok () w:=λnx ny=>by
  refine ZJ ?_ ?_
  rintro ⟨rfl,rfl⟩
  exact n4 (Q13 nx hx) (Q13 ny hy)
  rintro a b ⟨rfl,rfl⟩
  obtain ⟨_,e1⟩:=Qjl hx;obtain ⟨_,e2⟩:=Qjl hy;exact n3 _ _ e1 e2
 split at h;obtain ⟨q,h1,h2⟩:=D.bind_ok h;cases h2;rw [Sem.run_bind,hg (Zf h1).1.2 (Zf h1).2.2];simp only [Result.andThen_ok];exact ⟨_,(YU (eqs q h1) (hk (Zf h1).1 (Zf h1).2)).1,by simp only [AV.rel]⟩;obtain ⟨q,h1,h2⟩:=D.bind_ok h;cases h2;rw [Sem.run_bind,hg (Zf h1).1.2 (Zf h1).2.2];simp only [Result.andThen_ok];exact ⟨_,(YU (eqs q h1) (hk (Zf h1).1 (Zf h1).2)).2,by simp only [AV.rel]⟩;cases h
end Go.Ax
namespace Go.Ax
open Go.RowKit
noncomputable def Y9 (H:Tr Q7) (b:Nat):Option (List AV):=
 match H.get b with
 |some (.cells cs _ _ _ _)=>some cs
 |_=>none
noncomputable def aun (op:UnOp) (x:AV):Option AV:=
 match op,x with
 | .not, .bool b=>some (.bool (!b))
 | .neg, .int k a=>match E.arith .sub k (.lit 0) a with|some r=>some (.int k r)|none=>none
 | .xor, .int k a=>bif k.signed then none else match E.bits .xor k (.lit k.max) a with|some r=>some (.int k r)|none=>none
 |_,_=>none
theorem Qg9 {P:Program} {w:World} {X:Ext} {op:UnOp} {x r:AV} {u:Value} (h:aun op x=some r) (hx:x.rel X u):∃z,(Op.unary op u).run P w= .ok z w/\r.rel X z:=by
 unfold aun at h;split at h;cases h;simp only [AV.rel] at hx;subst hx;exact ⟨_,rfl,by simp only [AV.rel]⟩;split at h;rename_i r hr;cases h;simp only [AV.rel] at hx;obtain ⟨hok,rfl⟩:=hx;have:=E.zq (P:=P) (w:=w) (O:=X.O) hr;exact ⟨_,this,by simp only [AV.rel];exact ⟨E.qh (n:=X.dom) hr trivial hok,trivial⟩⟩;cases h;rename_i k a;cases hs:k.signed with
 |true=>rw [hs] at h;cases h
 |false=>rw [hs] at h;simp only [cond_false] at h;split at h;rename_i r hr;cases h;simp only [AV.rel] at hx;obtain ⟨hok,rfl⟩:=hx;have:=E.Q3s (P:=P) (w:=w) (O:=X.O) hr;refine ⟨.int k (r.den X.O),?_,by simp only [AV.rel];exact ⟨E.Qg5 (n:=X.dom) hr trivial hok,trivial⟩⟩;simp only [Op.unary,hs,Bool.false_eq_true,if_false];exact this;cases h
 cases h
theorem QO (b o i:Nat):(⟨b,o,none⟩:Addr).add i=⟨b,o+i,none⟩:=by unfold Addr.add;split<;>simp_all
theorem QS {P:Program} {X:Ext} {n0:Nat} {H:Tr Q7} {w:World} (hH:Qq X n0 H w) {b o n:Nat} {cs:List AV} {p:Place} (hc:Y9 H b=some cs) (hp:X.V b=some p) (hn:o+n<=cs.length):
 ∃vs:List Value,(loadCells ⟨p.blk,p.base+o,none⟩ n).run P w= .ok vs.toArray w/\AV.QH X ((cs.drop o).take n) vs:=by
 unfold Y9 at hc;split at hc;rename_i cs' elem ex pl ro ho;cases hc;have key:∀m o,o+m<=cs.length->∃vs:List Value,vs.length=m/\(∀j v,vs[j]?=some v->w.cell? ((⟨p.blk,p.base+o,none⟩:Addr).add j)=some v)/\AV.QH X ((cs.drop o).take m) vs:=by
  intro m;induction m with
  |zero=>intro o _;exact ⟨[],rfl,by simp,by simp⟩
  |succ m ih=>
   intro o ho';obtain ⟨vs,h1,h2,h3⟩:=ih (o+1) (by omega);have hlt:o<cs.length:=by omega
   obtain ⟨v,hv,hr⟩:=hH.cell ho hp (List.getElem?_eq_getElem hlt);refine ⟨v::vs,by simp [h1],λj u hj=>?_,?_⟩;cases j with
   |zero=>simp at hj;subst hj;rw [QO];exact hv
   |succ j=>simp at hj;have:=h2 j u hj;rw [QO] at this ⊢;rw [<-this];congr 2;omega
   rw [List.drop_eq_getElem_cons hlt,List.take_succ_cons,rels_cons_cons];exact ⟨hr,h3⟩
 obtain ⟨vs,h1,h2,h3⟩:=key n o hn;refine ⟨vs,?_,h3⟩;rw [<-h1];exact run_loadCells_list w _ vs h2;cases hc
noncomputable def Q9n (T:Tab) (H:Tr Q7) (t:TypeId) (x:AV):Option AV:=
 match x with
 | .ptr b o=>
  match T.ty t,Y9 H b with
  |some ti,some cs=>bif yA ti.desc then (bif Nat.ble (o+ti.size) cs.length then some (.agg ((cs.drop o).take ti.size)) else none) else cs[o]?
  |_,_=>none
 |_=>none
theorem Q1z {P:Program} {T:Tab} (hT:T.OK P) {X:Ext} {n0:Nat} {H:Tr Q7} {w:World} (hH:Qq X n0 H w) {t:TypeId} {x r:AV} {u:Value} (h:Q9n T H t x=some r) (hx:x.rel X u):
 ∃z,(Instr.loadAt t u).run P w= .ok z w/\r.rel X z:=by
 unfold Q9n at h;split at h;rename_i b o;split at h;rename_i ti cs hti hcs;simp only [AV.rel] at hx;obtain ⟨p,hp,rfl⟩:=hx;simp only [Instr.loadAt,Instr.sureAddr,loadVar,pure_bind,Sem.run_bind,T.Q0l hT hti,Result.andThen_ok];cases hd:yA ti.desc with
 |true=>
  rw [hd] at h;cases hl:Nat.ble (o+ti.size) cs.length with
  |false=>rw [hl] at h;cases h
  |true=>rw [hl] at h;cases h;obtain ⟨vs,h1,h2⟩:=QS (P:=P) hH hcs hp (by simpa using hl);refine ⟨.agg vs.toArray,?_,?_⟩;simp [T.Qv hT hti,h1];simp only [AV.rel];exact ⟨_,rfl,h2⟩
 |false=>rw [hd] at h;have h' :cs[o]?=some r:=h;unfold Y9 at hcs;split at hcs;rename_i ho;cases hcs;obtain ⟨v,hv,hr⟩:=hH.cell ho hp h';exact ⟨v,by simp [hv],hr⟩;cases hcs
 cases h;cases h
def Qm6 (x:AV):Option AV:=
 match x with
 | .ptr .. | .iface .. | .func .. | .yield _| .slice .. | .map _=>some x
 |_=>none
theorem Qd3 {P:Program} {w:World} {X:Ext} {x r:AV} {f:Operand->Value} {o:Operand} {u:Value} (hu:f o=u) (h:Qm6 x=some r) (hx:x.rel X u) (od:Oper) (ho:od.op= .nilCheck o):
 (execOp f od).run P w= .ok (.value u) w/\r.rel X u:=by
 have hr:r=x:=by unfold Qm6 at h;split at h<;>cases h<;>rfl
 subst hr;refine ⟨?_,hx⟩;simp only [execOp,ho,hu];cases r<;>simp only [Qm6,reduceCtorEq] at h<;>simp only [AV.rel] at hx;obtain ⟨p,_,rfl⟩:=hx;rfl;obtain ⟨p,o',c,_,rfl,_⟩:=hx;rfl;obtain ⟨p,_,rfl⟩:=hx;rfl;obtain ⟨p,q,rfl,_⟩:=hx;rfl;obtain ⟨p,_,rfl⟩:=hx;rfl;obtain ⟨p,rfl,_⟩:=hx;rfl
noncomputable def Yp (T:Tab) (s:TypeId) (x:AV) (f:Nat):Option AV:=
 match x with
 | .ptr b o=>
  match T.ty s with
  |some ti=>
   match ti.desc with
   | .struct fs=>
    match fs[f]? with
    |some fd=>
     match T.ty fd.type with
     |some fi=>bif Nat.beq fi.size 0 then none else QG (o+fd.offset) λo=>some (.ptr b o)
     |none=>none
    |none=>none
   |_=>none
  |none=>none
 |_=>none
theorem yT {P:Program} {T:Tab} (hT:T.OK P) {w:World} {X:Ext} {s:TypeId} {x r:AV} {f:Nat} {u:Value} (h:Yp T s x f=some r) (hx:x.rel X u):∃z,(Instr.fieldAt s u f).run P w= .ok z w/\r.rel X z:=by
 unfold Yp at h;split at h;rename_i b o;split at h;rename_i ti hti;split at h;rename_i fs hd;split at h;rename_i fd hfd;split at h;rename_i fi hfi;simp only [AV.rel] at hx;obtain ⟨p,hp,rfl⟩:=hx;cases hz:Nat.beq fi.size 0 with
 |true=>rw [hz] at h;cases h
 |false=>
  rw [hz] at h;simp only [cond_false,sNat_eq,Option.some.injEq] at h;subst h;have hz' :fi.size≠0:=λe=>by rw [e] at hz;cases hz
  refine ⟨.pointer (some ⟨p.blk,p.base+o+fd.offset,none⟩),?_,?_⟩;simp [Instr.fieldAt,T.Qf hT hti,hd,hfd,Instr.sureAddr,fieldPlace,T.Qv hT hfi,hz',QO];simp only [AV.rel];exact ⟨p,hp,by rw [Nat.add_assoc]⟩
 cases h;cases h;cases h;cases h;cases h
noncomputable def Qbk (T:Tab) (s:TypeId) (x:AV) (f:Nat):Option AV:=
 match x with
 | .agg cs=>
  match T.ty s with
  |some ti=>
   match ti.desc with
   | .struct fs=>
    match fs[f]? with
    |some fd=>apart T fd.type cs fd.offset
    |none=>none
   |_=>none
  |none=>none
 |_=>none
theorem Q7y {P:Program} {T:Tab} (hT:T.OK P) {w:World} {X:Ext} {s:TypeId} {x r:AV} {f:Nat} {u:Value} (h:Qbk T s x f=some r) (hx:x.rel X u):∃z,(Instr.field s u f).run P w= .ok z w/\r.rel X z:=by unfold Qbk at h;split at h;split at h;rename_i ti hti;split at h;rename_i fs hd;split at h;rename_i fd hfd;simp only [AV.rel] at hx;obtain ⟨vs,rfl,hx⟩:=hx;obtain ⟨v,e,hr⟩:=Yy hT hx h w;exact ⟨v,by simp [Instr.field,T.Qf hT hti,hd,hfd,asAgg,e],hr⟩;cases h;cases h;cases h;cases h
noncomputable def Yo (T:Tab) (t:TypeId) (x ix:AV):Option AV:=
 match ix with
 | .int _ e=>
  match e.nat?,T.ty t with
  |some i,some ti=>
   match ti.desc,x with
   | .array n elem, .ptr b o=>
    match T.ty elem with
    |some ei=>bif Nat.blt i n then QG (o+i*ei.size) λo=>some (.ptr b o) else none
    |none=>none
   | .slice elem, .slice b o len _ _ _=>
    match T.ty elem with
    |some ei=>bif Nat.blt i len then QG (o+i*ei.size) λo=>some (.ptr b o) else none
    |none=>none
   | .slice elem, .wslice b o n _ _=>
    match T.ty elem with
    |some ei=>bif Nat.blt i n then QG (o+i*ei.size) λo=>some (.ptr b o) else none
    |none=>none
   |_,_=>none
  |_,_=>none
 |_=>none
theorem yS {P:Program} {T:Tab} (hT:T.OK P) {w:World} {X:Ext} {t:TypeId} {x ix r:AV} {u v:Value} (h:Yo T t x ix=some r) (hx:x.rel X u) (hi:ix.rel X v):
 ∃z,(Instr.indexAt t u v).run P w= .ok z w/\r.rel X z:=by
 unfold Yo at h;split at h;rename_i k e;split at h;rename_i i ti hn hti;have he:=E.jD (O:=X.O) hn;simp only [AV.rel] at hi;obtain ⟨-,rfl⟩:=hi;rw [he];split at h;rename_i n elem b o hd;split at h;rename_i ei hei;simp only [AV.rel] at hx;obtain ⟨p,hp,rfl⟩:=hx;cases hl:Nat.blt i n with
 |false=>rw [hl] at h;cases h
 |true=>
  rw [hl] at h;simp only [cond_true,sNat_eq,Option.some.injEq] at h;subst h;have hl' :i<n:=by simpa using hl
  refine ⟨.pointer (some ⟨p.blk,p.base+o+i*ei.size,none⟩),?_,?_⟩;have h3:(0:Int)<=i/\(i:Int)<n:=⟨by omega,by omega⟩;simp [Instr.indexAt,asIntOf,T.Qf hT hti,hd,Instr.sureAddr,T.Qv hT hei,QO,hl'];simp only [AV.rel];exact ⟨p,hp,by rw [Nat.add_assoc]⟩
 cases h;rename_i elem b o len cap es ex hd;split at h;rename_i ei hei;simp only [AV.rel] at hx;obtain ⟨p,o',c,hp,rfl,_,_,_,hoff,_⟩:=hx;cases hl:Nat.blt i len with
 |false=>rw [hl] at h;cases h
 |true=>
  rw [hl] at h;simp only [cond_true,sNat_eq,Option.some.injEq] at h;subst h;have hl' :i<len:=by simpa using hl
  have ho:=hoff (.inl (by omega));subst ho;refine ⟨.pointer (some ⟨p.blk,p.base+o+i*ei.size,none⟩),?_,?_⟩;simp [Instr.indexAt,asIntOf,T.Qf hT hti,hd,T.Qv hT hei,QO,hl'];simp only [AV.rel];exact ⟨p,hp,by rw [Nat.add_assoc]⟩
 cases h;rename_i elem b o n es l hd;split at h;rename_i ei hei;simp only [AV.rel] at hx;obtain ⟨p,len,c,hp,hv,hnl,_⟩:=hx;cases hl:Nat.blt i n with
 |false=>rw [hl] at h;cases h
 |true=>
  rw [hl] at h;simp only [cond_true,sNat_eq,Option.some.injEq] at h;subst h;have hl' :i<n:=by simpa using hl
  have hl2:i<len:=by omega
  obtain rfl:_=_:=hv.elim id λh=>absurd h.2 (by omega)
  refine ⟨.pointer (some ⟨p.blk,p.base+o+i*ei.size,none⟩),?_,?_⟩;simp [Instr.indexAt,asIntOf,T.Qf hT hti,hd,T.Qv hT hei,QO,hl2];simp only [AV.rel];exact ⟨p,hp,by rw [Nat.add_assoc]⟩
 cases h;cases h;cases h;cases h
noncomputable def Q7w (T:Tab) (t:TypeId) (x ix:AV):Option AV:=
 match ix with
 | .int _ e=>
  match e.nat?,T.ty t with
  |some i,some ti=>
   match ti.desc,x with
   | .array n elem, .agg cs=>
    match T.ty elem with
    |some ei=>bif Nat.blt i n then apart T elem cs (i*ei.size) else none
    |none=>none
   | .string, .str s=>
    match s[i]? with
    |some b=>some (.int .u8 b)
    |none=>none
   |_,_=>none
  |_,_=>none
 |_=>none
theorem Q7v {P:Program} {T:Tab} (hT:T.OK P) {w:World} {X:Ext} {t:TypeId} {x ix r:AV} {u v:Value} (h:Q7w T t x ix=some r) (hx:x.rel X u) (hi:ix.rel X v):
 ∃z,(Instr.index t u v).run P w= .ok z w/\r.rel X z:=by
 unfold Q7w at h;split at h;rename_i k e;split at h;rename_i i ti hn hti;have he:=E.jD (O:=X.O) hn;simp only [AV.rel] at hi;obtain ⟨-,rfl⟩:=hi;rw [he];split at h;rename_i n elem cs hd;split at h;rename_i ei hei;simp only [AV.rel] at hx;obtain ⟨vs,rfl,hx⟩:=hx;cases hl:Nat.blt i n with
 |false=>rw [hl] at h;cases h
 |true=>
  rw [hl] at h;have hl' :i<n:=by simpa using hl
  obtain ⟨v,e,hr⟩:=Yy hT hx h w;exact ⟨v,by simp [Instr.index,asIntOf,T.Qf hT hti,hd,T.Qv hT hei,hl',e],hr⟩
 cases h;rename_i s hd;split at h;rename_i b hb;cases h;simp only [AV.rel] at hx;obtain ⟨ho,rfl⟩:=hx;have hmem:=ho b (List.mem_of_getElem? hb);have hget:(({ data:=(S.bytes X.O s).toArray}:ByteArray)[i]?)=some (UInt8.ofNat (b.den X.O).toNat):=by
  have h1:(S.bytes X.O s)[i]?=some (UInt8.ofNat (b.den X.O).toNat):=by simp [S.bytes,hb]
  have hlt:i<(S.bytes X.O s).length:=(List.getElem?_eq_some_iff.1 h1).1
  have hlt' :i<({ data:=(S.bytes X.O s).toArray}:ByteArray).size:=by show i<(S.bytes X.O s).toArray.size;simpa using hlt
  rw [getElem?_pos _ i hlt'];congr 1;have:=(List.getElem?_eq_some_iff.1 h1).2
  rw [<-this];rfl
 refine ⟨.int .u8 (UInt8.ofNat (b.den X.O).toNat).toNat,?_,?_⟩;simp [Instr.index,asIntOf,T.Qf hT hti,hd,hget];simp only [AV.rel];refine ⟨hmem.1,?_⟩;have:=hmem.2;congr 1;simp;omega;cases h;cases h;cases h;cases h
noncomputable def je (x:AV) (i:Nat):Option AV:=
 match x with
 | .tuple vs=>vs[i]?
 |_=>none
theorem Q2n {P:Program} {w:World} {X:Ext} {x r:AV} {i:Nat} {u:Value} (h:je x i=some r) (hx:x.rel X u):∃z,(Instr.extract u i).run P w= .ok z w/\r.rel X z:=by
 unfold je at h;split at h;simp only [AV.rel] at hx;obtain ⟨vs,rfl,hx⟩:=hx;obtain ⟨v,hv,hr⟩:=Yh hx h;have hv' :vs[i]?=some v:=by simpa using hv
 exact ⟨v,by simp [Instr.extract,hv'],hr⟩;cases h
noncomputable def qo (T:Tab) (t:TypeId) (x:AV):Option AV:=
 match T.ty t with
 |some ti=>match ti.desc with
  | .interface _=>none
  |_=>some (.iface t x)
 |none=>none
theorem yQ {P:Program} {T:Tab} (hT:T.OK P) {w:World} {X:Ext} {t:TypeId} {x r:AV} {u:Value} (h:qo T t x=some r) (hx:x.rel X u):∃z,(Instr.makeInterface t u).run P w= .ok z w/\r.rel X z:=by
 unfold qo at h;split at h;rename_i ti hti;split at h;cases h;rename_i hn;cases h;refine ⟨.iface t u,?_,?_⟩;simp only [Instr.makeInterface,Sem.run_bind,T.Qf hT hti,Result.andThen_ok]
 first|rfl|(split<;>first|(rename_i hh;exact absurd hh (hn _))|rfl)
 simp only [AV.rel];exact ⟨u,rfl,hx⟩;cases h
def Qir:AV->Option E
 | .int .u8 e=>bif e.isByte then some e else none
 |_=>none
def Yg:List AV->Option (List E)
 |[]=>some []
 |a::l=>match Qir a with
  |none=>none
  |some e=>match Yg l with
   |none=>none
   |some s=>some (e::s)
theorem Jl {X:Ext} {a:AV} {e:E} {v:Value} (h:Qir a=some e) (hr:a.rel X v):e.ok X.dom/\v= .int .u8 (e.den X.O)/\e.isByte=true:=by
 unfold Qir at h;split at h;rename_i e';cases hb:e'.isByte with
 |false=>rw [hb] at h;cases h
 |true=>rw [hb] at h;cases h;simp only [AV.rel] at hr;exact ⟨hr.1,hr.2,hb⟩
 cases h
theorem JO {X:Ext}:∀{l:List AV} {s:List E} {vs:List Value},Yg l=some s->AV.QH X l vs->S.okN X.dom X.O s/\∃ns:List Int,vs=ns.map (Value.int .u8)/\S.bytes X.O s=ns.map (λn=>UInt8.ofNat n.toNat)
 |[],s,vs,h,hr=>by simp only [Yg,Option.some.injEq] at h;subst h;rw [rels_nil.1 hr];exact ⟨λt ht=>by simp at ht,[],rfl,rfl⟩
 |a::l,s,[],h,hr=>absurd hr not_rels_cons_nil
 |a::l,s,v::vs,h,hr=>by
  simp only [rels_cons_cons] at hr;simp only [Yg] at h;split at h;cases h;rename_i e he;split at h;cases h;rename_i s' hs;cases h;obtain ⟨g1,ns,g2,g3⟩:=JO hs hr.2;obtain ⟨k0,k1,k2⟩:=Jl he hr.1;refine ⟨λt ht=>?_,e.den X.O::ns,by rw [k1,g2];rfl,?_⟩;rcases List.mem_cons.1 ht with rfl|ht;exact ⟨k0,E.Y6 k2 _⟩;exact g1 t ht;have:S.bytes X.O (e::s')=UInt8.ofNat (e.den X.O).toNat::S.bytes X.O s' :=rfl
  rw [this,g3];rfl
noncomputable def Qgf (T:Tab) (c:Ctx) (H:Tr Q7) (src dst:TypeId) (x:AV):Option AV:=
 match T.ty src,T.ty dst with
 |some si,some di=>
  match di.desc,x with
  | .int k, .int _ e=>match E.Q79 c k e with|some r=>some (.int k r)|none=>none
  | .string, .str s=>match si.desc with| .string=>some (.str s)|_=>none
  | .string, .sstr s=>match si.desc with| .string=>some (.sstr s)|_=>none
  | .string, .nilslice=>match si.desc with
   | .slice e=>match T.ty e with
    |some ei=>match ei.desc with| .int .u8=>some (.str [])|_=>none
    |none=>none
   |_=>none
  | .string, .slice b o len _ _ _=>match si.desc with
   | .slice e=>match T.ty e,Y9 H b with
    |some ei,some cs=>match ei.desc with
     | .int .u8=>bif Nat.ble (o+len) cs.length&&Nat.blt 0 len then (match Yg ((cs.drop o).take len) with|some s=>some (.str s)|none=>none) else bif Nat.beq len 0 then some (.str []) else none
     |_=>none
    |_,_=>none
   |_=>none
  |_,_=>none
 |_,_=>none
theorem Q9t {P:Program} {T:Tab} (hT:T.OK P) {c:Ctx} {X:Ext} (hc:c.okN X.dom X.O) {n0:Nat} {H:Tr Q7} {w:World} (hH:Qq X n0 H w) {src dst:TypeId} {x r:AV} {u:Value} (h:Qgf T c H src dst x=some r) (hx:x.rel X u):
 ∃z,(convert src dst u).run P w= .ok z w/\r.rel X z:=by
 unfold Qgf at h;split at h
 . rename_i si di hsi hdi;have us:=T.Qf hT hsi w;have ud:=T.Qf hT hdi w;have ns:=T.und hT hsi;have nd:=T.und hT hdi;split at h<;>rename_i hd;split at h;rename_i kd ks e oo r' hr;cases h;simp only [AV.rel] at hx;obtain ⟨hok,rfl⟩:=hx;refine ⟨.int kd (r'.den X.O),?_,by simp only [AV.rel];exact ⟨E.Q51 hr hok,trivial⟩⟩;rw [<-E.zm (O:=X.O) hc hr];simp only [convert,Sem.run_bind,us,ud,hd,Result.andThen_ok];cases si.desc<;>simp [Conv.intToInt];cases h;split at h;rename_i hs;cases h;refine ⟨u,?_,hx⟩;simp only [AV.rel] at hx;obtain ⟨_,rfl⟩:=hx;simp [convert,us,ud,hd,hs];cases h;split at h;rename_i hs;cases h;refine ⟨u,?_,hx⟩;simp only [AV.rel] at hx;obtain ⟨_,_,rfl⟩:=hx;simp [convert,us,ud,hd,hs];cases h;split at h;rename_i e hs;split at h;rename_i ei hei;split at h;rename_i he;cases h;simp only [AV.rel] at hx;subst hx;refine ⟨.string .empty,?_,?_⟩;rw [run_convert_bytes_string w src dst e _ _ _ (by rw [ns,hs]) (by rw [T.und hT hei,he]) (by rw [nd,hd])];rfl;simp only [AV.rel];exact ⟨λt ht=>by simp at ht,rfl⟩;cases h;cases h;cases h
   . rename_i b o len cap es ex;split at h
     . rename_i e hs;split at h
       . rename_i ei cs hei hcs;split at h
         . rename_i he;simp only [AV.rel] at hx;obtain ⟨p,o',c,hp,rfl,_,_,_,hoff,_⟩:=hx;cases hl:(Nat.ble (o+len) cs.length&&Nat.blt 0 len) with
           |true=>
            rw [hl] at h;simp only [cond_true] at h;split at h
            case h_2=>cases h
            rename_i s h1;cases h;simp only [Bool.and_eq_true,Nat.ble_eq,Nat.blt_eq] at hl;have ho:=hoff (.inl (by have:=hl.2;omega));subst ho;obtain ⟨vs,g1,g2⟩:=QS (P:=P) hH hcs hp hl.1;obtain ⟨k1,ms,k2,k3⟩:=JO h1 g2;refine ⟨.string (ms.foldl (λr n=>r.push (UInt8.ofNat n.toNat)) ByteArray.empty),?_,?_⟩;rw [run_convert_bytes_string w src dst e _ _ _ (by rw [ns,hs]) (by rw [T.und hT hei,he]) (by rw [nd,hd])];exact run_bytesToString w _ len c ms (by rw [g1,k2]);simp only [AV.rel];refine ⟨k1,?_⟩;rw [foldl_push_bytes,k3];have e0:ByteArray.empty.data=#[]:=rfl
            rw [e0,Array.empty_append]
           |false=>
            rw [hl] at h;simp only [cond_false] at h;cases hz:Nat.beq len 0 with
            |false=>rw [hz] at h;cases h
            |true=>
             rw [hz] at h;cases h;have hz' :len=0:=by simpa using hz
             subst hz';refine ⟨.string .empty,?_,?_⟩;rw [run_convert_bytes_string w src dst e _ _ _ (by rw [ns,hs]) (by rw [T.und hT hei,he]) (by rw [nd,hd])];exact run_bytesToString w _ 0 c [] (by simp [loadCells,loadCellsFrom]);simp only [AV.rel];exact ⟨λt ht=>by simp at ht,rfl⟩
         cases h
       cases h
     cases h
   cases h
 cases h
end Go.Ax
