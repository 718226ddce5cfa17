/-
 THE ABSTRACT EXECUTOR, 1: tables with numbers as keys, terms for integers. Conditions: none.
-/
import Derived.Calls
import Derived.KernelRfl
import Derived.IntWalk
import Derived.Below
import Derived.Laws.Cells
import Derived.Laws.IdiomCopy
import Derived.Laws.StructEq
import Derived.Laws.BytesString
import Derived.Laws.BytesArg
import Derived.Laws.Concat
namespace Go.Ax
inductive Tr (α:Type) where
 |e
 |k (j:Nat) (v:α)
 |n (l:Tr α) (m:Nat) (r:Tr α)
namespace Tr
variable {α:Type}
noncomputable def get (t:Tr α):Nat->Option α:=
 Tr.rec (motive:=λ_=>Nat->Option α) (λ_=>none) (λj v i=>Bool.rec (motive:=λ_=>Option α) none (some v) (Nat.beq i j))
  (λ_ m _ gl gr i=>Bool.rec (motive:=λ_=>Option α) (gr i) (gl i) (Nat.ble i m)) t
noncomputable def set (t:Tr α):Nat->α->Tr α:=
 Tr.rec (motive:=λ_=>Nat->α->Tr α) (λi a=> .k i a)
  (λj v i a=>Bool.rec (motive:=λ_=>Tr α) (Bool.rec (motive:=λ_=>Tr α) (.n (.k j v) j (.k i a)) (.n (.k i a) i (.k j v)) (Nat.ble i j)) (.k i a) (Nat.beq i j))
  (λl m r sl sr i a=>Bool.rec (motive:=λ_=>Tr α) (.n l m (sr i a)) (.n (sl i a) m r) (Nat.ble i m)) t
@[simp] theorem get_e (i:Nat):(e:Tr α).get i=none:=rfl
theorem Q6q (j:Nat) (v:α) (i:Nat):(k j v).get i=if i=j then some v else none:=by
 show Bool.rec (motive:=λ_=>Option α) none (some v) (Nat.beq i j)=_;cases h:Nat.beq i j with
 |true=>rw [if_pos (by simpa using h)]
 |false=>rw [if_neg (λe=>by rw [e] at h;simp at h)]
theorem Q6p (l:Tr α) (m:Nat) (r:Tr α) (i:Nat):(n l m r).get i=if i<=m then l.get i else r.get i:=by
 show Bool.rec (motive:=λ_=>Option α) (r.get i) (l.get i) (Nat.ble i m)=_;cases h:Nat.ble i m with
 |true=>rw [if_pos (Nat.le_of_ble_eq_true h)]
 |false=>rw [if_neg (λe=>by rw [Nat.ble_eq_true_of_le e] at h;cases h)]
theorem set_e (i:Nat) (a:α):(e:Tr α).set i a=k i a:=rfl
theorem set_k (j:Nat) (v:α) (i:Nat) (a:α):(k j v).set i a=if i=j then k i a else if i<=j then n (k i a) i (k j v) else n (k j v) j (k i a):=by
 show Bool.rec (motive:=λ_=>Tr α) (Bool.rec (motive:=λ_=>Tr α) (n (k j v) j (k i a)) (n (k i a) i (k j v)) (Nat.ble i j)) (k i a) (Nat.beq i j)=_;cases h:Nat.beq i j with
 |true=>rw [if_pos (by simpa using h)]
 |false=>
  rw [if_neg (λe=>by rw [e] at h;simp at h)];cases h2:Nat.ble i j with
  |true=>rw [if_pos (Nat.le_of_ble_eq_true h2)]
  |false=>rw [if_neg (λe=>by rw [Nat.ble_eq_true_of_le e] at h2;cases h2)]
theorem set_n (l:Tr α) (m:Nat) (r:Tr α) (i:Nat) (a:α):(n l m r).set i a=if i<=m then n (l.set i a) m r else n l m (r.set i a):=by
 show Bool.rec (motive:=λ_=>Tr α) (n l m (r.set i a)) (n (l.set i a) m r) (Nat.ble i m)=_;cases h:Nat.ble i m with
 |true=>rw [if_pos (Nat.le_of_ble_eq_true h)]
 |false=>rw [if_neg (λe=>by rw [Nat.ble_eq_true_of_le e] at h;cases h)]
theorem Z6:∀(t:Tr α) (i j:Nat) (a:α),(t.set i a).get j=if j=i then some a else t.get j
 |e,i,j,a=>by rw [set_e,Q6q];simp
 |k j' v,i,j,a=>by rw [set_k];by_cases h:i=j';rw [if_pos h,Q6q,Q6q];subst h;by_cases h2:j=i<;>simp [h2];rw [if_neg h];by_cases h2:i<=j';rw [if_pos h2,Q6p,Q6q,Q6q];by_cases h3:j<=i;rw [if_pos h3];by_cases h4:j=i;simp [h4];rw [if_neg h4,if_neg h4,if_neg (by omega)];rw [if_neg h3,if_neg (show ¬j=i by omega)];rw [if_neg h2,Q6p,Q6q,Q6q];by_cases h3:j<=j';rw [if_pos h3,if_neg (show ¬j=i by omega)];rw [if_neg h3,if_neg (show ¬j=j' by omega)]
 |n l m r,i,j,a=>by rw [set_n];by_cases h:i<=m;rw [if_pos h,Q6p,Q6p,Z6 l];by_cases h2:j<=m;rw [if_pos h2,if_pos h2];rw [if_neg h2,if_neg h2,if_neg (by omega)];rw [if_neg h,Q6p,Q6p,Z6 r];by_cases h2:j<=m;rw [if_pos h2,if_pos h2,if_neg (by omega)];rw [if_neg h2,if_neg h2]
@[simp] theorem get_set_same (t:Tr α) (i:Nat) (a:α):(t.set i a).get i=some a:=by rw [Z6,if_pos rfl]
theorem Q0 (t:Tr α) {i j:Nat} (a:α) (h:j≠i):(t.set i a).get j=t.get j:=by rw [Z6,if_neg h]
end Tr
noncomputable def QE {β:Type} (n:Nat) (k:Nat->β):β:=Nat.rec (motive:=λ_=>β) (k 0) (λm _=>k m) (Nat.succ n)
noncomputable def yI {β:Type} (n:Int) (k:Int->β):β:=Int.rec (motive:=λ_=>β) (λm=>QE m λm=>k (.ofNat m)) (λm=>QE m λm=>k (.negSucc m)) n
@[simp] theorem sNat_eq {β:Type} (n:Nat) (k:Nat->β):QE n k=k n:=rfl
@[simp] theorem sInt_eq {β:Type} (n:Int) (k:Int->β):yI n k=k n:=by cases n<;>rfl
namespace Tr
variable {α:Type}
noncomputable def Qml (h:Nat):Nat->Tr α:=Nat.rec (motive:=λ_=>Nat->Tr α) (λ_=> .e) (λh ih lo=>QE (Nat.add lo (Nat.pow 2 h)) λhi=>QE (Nat.sub hi 1) λm=> .n (ih lo) m (ih hi)) h
noncomputable def sk (n:Nat):Tr α:=QE (Nat.add (Nat.log2 n) 1) λh=>Qml h 0
@[simp] theorem skel_get:∀(h lo i:Nat),(Qml h lo:Tr α).get i=none
 |0,_,_=>rfl
 |h+1,lo,i=>by
  show (n (Qml h lo) _ (Qml h _):Tr α).get i=none
  rw [Q6p,skel_get,skel_get];simp
@[simp] theorem sk_get (n i:Nat):(sk n:Tr α).get i=none:=by
 show (Qml (Nat.add (Nat.log2 n) 1) 0:Tr α).get i=none
 exact skel_get _ _ _
end Tr
end Go.Ax
namespace Go.Ax
structure Val where
 int:Nat->Int
 str:Nat->List UInt8
inductive E where
 |lit (n:Int)
 |var (i:Nat)
 |len (i:Nat)
 |byte (i:Nat) (a:E)
 |bin (op:BinOp) (k:IntKind) (a b:E)
 |cnv (k:IntKind) (a:E)
 |pk (n:Nat) (a:E)
 |cons (a t:E)
 |tv (i:Nat) (lo hi t:E)
 |fn (k:Nat) (t:E)
 |mn (a b:E)
def Zm (op:BinOp) (k:IntKind) (x y:Int):Int:=
 match op with
 | .add=>k.wrap (x+y)
 | .sub=>k.wrap (x-y)
 | .mul=>k.wrap (x*y)
 | .quo=>k.wrap (x.tdiv y)
 | .rem=>x.tmod y
 | .and=>k.wrap (BitVec.ofInt k.bits x &&& BitVec.ofInt k.bits y).toNat
 | .or=>k.wrap (BitVec.ofInt k.bits x ||| BitVec.ofInt k.bits y).toNat
 | .xor=>k.wrap (BitVec.ofInt k.bits x ^^^ BitVec.ofInt k.bits y).toNat
 | .andNot=>k.wrap (BitVec.ofInt k.bits x &&& ~~~(BitVec.ofInt k.bits y)).toNat
 | .shl=>k.wrap (x*2^(min y.toNat k.bits))
 | .shr=>x.fdiv (2^(min y.toNat k.bits))
 |_=>0
def Q66 (n:Nat) (x:Int):Int:=if x<0 then (-(x+1)).tmod n else x.tmod n
theorem Qe3 {n:Nat} (h:0<n) (x:Int):0<=Q66 n x/\Q66 n x<=((n-1:Nat):Int):=by unfold Q66;split;rw [Int.tmod_eq_emod_of_nonneg (by omega)];have:=Int.emod_nonneg (-(x+1)) (show (n:Int)≠0 by omega);have:=Int.emod_lt_of_pos (-(x+1)) (show 0<(n:Int) by omega);omega;rw [Int.tmod_eq_emod_of_nonneg (by omega)];have:=Int.emod_nonneg x (show (n:Int)≠0 by omega);have:=Int.emod_lt_of_pos x (show 0<(n:Int) by omega);omega
def Jy (l:List UInt8) (n:Int):Int:=l.foldr (λb n=>n*256+(b.toNat:Int)) n
def Qaw (fuel n:Nat):List UInt8:=
 match fuel with
 |0=>[]
 |fuel+1=>if n<=1 then [] else UInt8.ofNat (n%256)::Qaw fuel (n/256)
def YX (r:Nat):Nat:=if r%2=1 then (r/2) ^^^ 3988292384 else r/2
def Yr (r:Nat) (b:UInt8):Nat:=Nat.repeat YX 8 (r ^^^ b.toNat)
def Ql5 (l:List UInt8):Nat:=(l.foldl Yr 4294967295) ^^^ 4294967295
def Q7z:List UInt8->Nat
 |[]=>0
 |[a]=>a.toNat*256
 |a::b::l=>a.toNat*256+b.toNat+Q7z l
def jI (fuel n:Nat):Nat:=
 match fuel with
 |0=>n
 |fuel+1=>if 65535<n then jI fuel (n%65536+n/65536) else n
def Qlb (l:List UInt8):Nat:=65535-jI (Q7z l) (Q7z l)
def zX (l:List UInt8) (i:Nat):Nat:=(l.getD i 0).toNat
def Qnl (l:List UInt8):Bool:=
 Nat.ble 11 l.length&&(Nat.beq (zX l 5*256+zX l 6+11) l.length&&(Nat.ble 1 (zX l 0*256+zX l 1)&&(Nat.ble 1 (zX l 2*256+zX l 3)&&(Nat.ble (zX l 2*256+zX l 3) 65534&&((Nat.beq (zX l 4) 1||Nat.beq (zX l 4) 2)&&(Nat.ble l.length 1035&&
  Nat.beq (((zX l (l.length-4)*256+zX l (l.length-3))*256+zX l (l.length-2))*256+zX l (l.length-1)) (Ql5 (l.take (l.length-4))%4294967296)))))))
def fnZ (k:Nat) (z:Int):Int:=
 let l:=Qaw z.toNat z.toNat
 match k with
 |0=>((Ql5 l%4294967296:Nat):Int)
 |2=>if Qnl l then 1 else 0
 |_=>((Qlb l%65536:Nat):Int)
theorem Qky (k:Nat) (z:Int):0<=fnZ k z/\fnZ k z<=4294967295/\(k≠0->fnZ k z<=65535):=by
 match k with
 |0=>have h:fnZ 0 z=((Ql5 (Qaw z.toNat z.toNat)%4294967296:Nat):Int):=rfl;rw [h];exact ⟨by omega,by omega,λe=>absurd rfl e⟩
 |1=>have h:fnZ 1 z=((Qlb (Qaw z.toNat z.toNat)%65536:Nat):Int):=rfl;rw [h];exact ⟨by omega,by omega,λ_=>by omega⟩
 |2=>
  have h:fnZ 2 z=if Qnl (Qaw z.toNat z.toNat) then 1 else 0:=rfl
  rw [h];split<;>exact ⟨by omega,by omega,λ_=>by omega⟩
 |k+3=>have h:fnZ (k+3) z=((Qlb (Qaw z.toNat z.toNat)%65536:Nat):Int):=rfl;rw [h];exact ⟨by omega,by omega,λ_=>by omega⟩
theorem Q6z:∀(l:List UInt8) (fuel:Nat),l.length<fuel->Qaw fuel (Jy l 1).toNat=l/\1<=Jy l 1
 |[],fuel+1,_=>by constructor<;>simp [Jy,Qaw]
 |b::l,fuel+1,h=>by
  obtain ⟨h1,h2⟩:=Q6z l fuel (by simp only [List.length_cons] at h;omega);have hb:=b.toNat_lt;have e:Jy (b::l) 1=Jy l 1*256+(b.toNat:Int):=rfl;obtain ⟨m,hm⟩:∃m:Nat,Jy l 1=m:=⟨(Jy l 1).toNat,by omega⟩;rw [hm] at h1 h2 e;constructor;rw [e];have e2:((m:Int)*256+(b.toNat:Int)).toNat=m*256+b.toNat:=by omega
  rw [e2];unfold Qaw;rw [if_neg (by omega)];have e3:(m*256+b.toNat)%256=b.toNat:=by omega
  have e4:(m*256+b.toNat)/256=m:=by omega
  rw [e3,e4];have e5:(m:Int).toNat=m:=by omega
  rw [e5] at h1;rw [h1];simp;omega
theorem Q1i (l m:List UInt8) (n:Int):Jy (l++m) n=Jy l (Jy m n):=by simp [Jy]
theorem Q6x:∀(l:List UInt8),(l.length:Int)<Jy l 1
 |[]=>by simp [Jy]
 |b::l=>by have:=Q6x l;have e:Jy (b::l) 1=Jy l 1*256+(b.toNat:Int):=rfl;rw [e];simp only [List.length_cons];omega
theorem qc (l:List UInt8):Qaw (Jy l 1).toNat (Jy l 1).toNat=l:=(Q6z l _ (by have:=Q6x l;omega)).1
def E.den (O:Val):E->Int
 | .lit n=>n
 | .var i=>O.int i
 | .len i=>(O.str i).length
 | .byte i a=>((O.str i).getD (a.den O).toNat 0).toNat
 | .bin op k a b=>Zm op k (a.den O) (b.den O)
 | .cnv k a=>k.wrap (a.den O)
 | .pk n a=>Q66 n (a.den O)
 | .cons a t=>t.den O*256+((UInt8.ofNat (a.den O).toNat).toNat:Int)
 | .tv i lo hi t=>Jy (((O.str i).drop (lo.den O).toNat).take ((hi.den O).toNat-(lo.den O).toNat)) (t.den O)
 | .fn k t=>fnZ k (t.den O)
 | .mn a b=>min (a.den O) (b.den O)
def E.ok (d:Nat->Prop):E->Prop
 | .lit _=>True
 | .var i=>d i
 | .len i=>d i
 | .byte i a=>d i/\a.ok d
 | .bin _ _ a b=>a.ok d/\b.ok d
 | .cnv _ a=>a.ok d
 | .pk _ a=>a.ok d
 | .cons a t=>a.ok d/\t.ok d
 | .tv i lo hi t=>d i/\lo.ok d/\hi.ok d/\t.ok d
 | .fn _ t=>t.ok d
 | .mn a b=>a.ok d/\b.ok d
theorem E.Ql {d d' :Nat->Prop} (h:∀i,d i->d' i):∀{e:E},e.ok d->e.ok d'
 | .lit _,_=>trivial
 | .var _,k=>h _ k
 | .len _,k=>h _ k
 | .byte _ _,k=>⟨h _ k.1,E.Ql h k.2⟩
 | .bin _ _ _ _,k=>⟨E.Ql h k.1,E.Ql h k.2⟩
 | .cnv _ a,k=>E.Ql (e:=a) h k
 | .pk _ a,k=>E.Ql (e:=a) h k
 | .cons _ _,k=>⟨E.Ql h k.1,E.Ql h k.2⟩
 | .tv _ _ _ _,k=>⟨h _ k.1,E.Ql h k.2.1,E.Ql h k.2.2.1,E.Ql h k.2.2.2⟩
 | .fn _ t,k=>E.Ql (e:=t) h k
 | .mn _ _,k=>⟨E.Ql h k.1,E.Ql h k.2⟩
def Val.agree (d:Nat->Prop) (O O' :Val):Prop:=∀i,d i->O'.int i=O.int i/\O'.str i=O.str i
theorem E.Qc {d:Nat->Prop} {O O' :Val} (h:Val.agree d O O'):∀{e:E},e.ok d->e.den O' =e.den O
 | .lit _,_=>rfl
 | .var i,k=>(h i k).1
 | .len i,k=>by simp only [E.den,(h i k).2]
 | .byte i a,k=>by simp only [E.den,(h i k.1).2,E.Qc h k.2]
 | .bin _ _ a b,k=>by simp only [E.den,E.Qc h k.1,E.Qc h k.2]
 | .cnv _ a,k=>by simp only [E.den,E.Qc (e:=a) h k]
 | .pk _ a,k=>by simp only [E.den,E.Qc (e:=a) h k]
 | .cons _ _,k=>by simp only [E.den,E.Qc h k.1,E.Qc h k.2]
 | .tv i _ _ _,k=>by simp only [E.den,(h i k.1).2,E.Qc h k.2.1,E.Qc h k.2.2.1,E.Qc h k.2.2.2]
 | .fn _ t,k=>by simp only [E.den,E.Qc (e:=t) h k]
 | .mn _ _,k=>by simp only [E.den,E.Qc h k.1,E.Qc h k.2]
noncomputable def E.Q22 (n:Int):E:=yI n .lit
@[simp] theorem E.litS_eq (n:Int):E.Q22 n= .lit n:=sInt_eq n _
def Zl (k:IntKind) (n:Int):Bool:=
 match k,n with
 | .i8, .ofNat m| .i8, .negSucc m=>Nat.ble m 127
 | .i16, .ofNat m| .i16, .negSucc m=>Nat.ble m 32767
 | .i32, .ofNat m| .i32, .negSucc m=>Nat.ble m 2147483647
 | .i64, .ofNat m| .i64, .negSucc m=>Nat.ble m 9223372036854775807
 | .u8, .ofNat m=>Nat.ble m 255
 | .u16, .ofNat m=>Nat.ble m 65535
 | .u32, .ofNat m=>Nat.ble m 4294967295
 | .u64, .ofNat m=>Nat.ble m 18446744073709551615
 |_,_=>false
theorem Q24 {k:IntKind} {n:Int} (h:Zl k n=true):k.wrap n=n:=by cases k;exact IntWalk.i8_in n (by cases n<;>simp only [Zl,Nat.ble_eq] at h<;>simp only [Int.ofNat_eq_natCast,Int.negSucc_eq]<;>omega);exact IntWalk.i16_in n (by cases n<;>simp only [Zl,Nat.ble_eq] at h<;>simp only [Int.ofNat_eq_natCast,Int.negSucc_eq]<;>omega);exact IntWalk.i32_in n (by cases n<;>simp only [Zl,Nat.ble_eq] at h<;>simp only [Int.ofNat_eq_natCast,Int.negSucc_eq]<;>omega);exact IntWalk.i64_in n (by cases n<;>simp only [Zl,Nat.ble_eq] at h<;>simp only [Int.ofNat_eq_natCast,Int.negSucc_eq]<;>omega);exact IntWalk.u8_in n (by cases n<;>simp only [Zl,Nat.ble_eq,Bool.false_eq_true] at h<;>simp only [Int.ofNat_eq_natCast]<;>omega);exact IntWalk.u16_in n (by cases n<;>simp only [Zl,Nat.ble_eq,Bool.false_eq_true] at h<;>simp only [Int.ofNat_eq_natCast]<;>omega);exact IntWalk.u32_in n (by cases n<;>simp only [Zl,Nat.ble_eq,Bool.false_eq_true] at h<;>simp only [Int.ofNat_eq_natCast]<;>omega);exact IntWalk.u64_in n (by cases n<;>simp only [Zl,Nat.ble_eq,Bool.false_eq_true] at h<;>simp only [Int.ofNat_eq_natCast]<;>omega)
noncomputable def Y2 (k:IntKind) (n:Int):Int:=bif Zl k n then n else k.wrap n
@[simp] theorem wrapK_eq (k:IntKind) (n:Int):Y2 k n=k.wrap n:=by unfold Y2;cases h:Zl k n;rfl;rw [Q24 h];rfl
def Y3 (op:BinOp) (x y:Int):Bool:=
 match op with
 | .eql=>x==y
 | .neq=>x != y
 | .lss=>decide (x<y)
 | .leq=>decide (x<=y)
 | .gtr=>decide (x>y)
 | .geq=>decide (x>=y)
 |_=>false
def ieq:Int->Int->Bool
 | .ofNat m, .ofNat n=>Nat.beq m n
 | .negSucc m, .negSucc n=>Nat.beq m n
 |_,_=>false
def ilt:Int->Int->Bool
 | .ofNat m, .ofNat n=>Nat.blt m n
 | .negSucc m, .negSucc n=>Nat.blt n m
 | .negSucc _, .ofNat _=>true
 | .ofNat _, .negSucc _=>false
theorem qD (x y:Int):ieq x y=(x==y):=by rw [Bool.eq_iff_iff];cases x<;>cases y<;>simp only [ieq,Nat.beq_eq,Bool.false_eq_true,beq_iff_eq,false_iff,Int.ofNat_eq_natCast,Int.negSucc_eq]<;>omega
theorem JI (x y:Int):ilt x y=decide (x<y):=by rw [Bool.eq_iff_iff];cases x<;>cases y<;>simp only [ilt,Nat.blt_eq,Bool.false_eq_true,decide_eq_true_eq,Int.ofNat_eq_natCast,Int.negSucc_eq,false_iff,true_iff]<;>omega
def Qo7 (op:BinOp) (x y:Int):Bool:=
 match op with
 | .eql=>ieq x y
 | .neq=>!ieq x y
 | .lss=>ilt x y
 | .leq=>!ilt y x
 | .gtr=>ilt y x
 | .geq=>!ilt x y
 |_=>false
theorem Qfn (op:BinOp) (x y:Int):Qo7 op x y=Y3 op x y:=by cases op<;>simp only [Qo7,Y3,qD,JI]<;>rw [Bool.eq_iff_iff]<;>simp
def Q6i:BinOp->Bool
 | .eql| .neq| .lss| .leq| .gtr| .geq=>true
 |_=>false
theorem Qbu {P:Program} {w:World} {op:BinOp} (h:Q6i op=true) (x y:Int):(Op.intCmp op x y).run P w= .ok (.bool (Y3 op x y)) w:=by cases op<;>simp [Q6i] at h<;>rfl
def kN:IntKind->Nat
 | .i8=>0| .i16=>1| .i32=>2| .i64=>3| .u8=>4| .u16=>5| .u32=>6| .u64=>7
theorem Q13 {j k:IntKind} (h:Nat.beq (kN j) (kN k)=true):j=k:=by cases j<;>cases k<;>first|rfl|(simp [kN] at h)
structure Fact where
 op:BinOp
 a:E
 b:E
 val:Bool
def Fact.ok (O:Val) (f:Fact):Prop:=Y3 f.op (f.a.den O) (f.b.den O)=f.val
abbrev Facts:=List Fact
def Facts.okN (d:Nat->Prop) (O:Val) (c:Facts):Prop:=∀f∈c,f.ok O/\f.a.ok d/\f.b.ok d
def opN:BinOp->Nat
 | .eql=>0| .neq=>1| .lss=>2| .leq=>3| .gtr=>4| .geq=>5
 | .add=>6| .sub=>7| .mul=>8| .quo=>9| .rem=>10| .and=>11| .or=>12| .xor=>13| .shl=>14| .shr=>15| .andNot=>16
theorem Qk9 {p q:BinOp} (h:Nat.beq (opN p) (opN q)=true):p=q:=by cases p<;>cases q<;>first|rfl|(simp [opN] at h)
def E.same:E->E->Bool
 | .lit x, .lit y=>ieq x y
 | .var i, .var j=>Nat.beq i j
 | .len i, .len j=>Nat.beq i j
 | .byte i a, .byte j b=>Nat.beq i j&&E.same a b
 | .bin p j a b, .bin q k c d=>Nat.beq (opN p) (opN q)&&Nat.beq (kN j) (kN k)&&E.same a c&&E.same b d
 | .cnv j a, .cnv k b=>Nat.beq (kN j) (kN k)&&E.same a b
 | .pk m a, .pk n b=>Nat.beq m n&&E.same a b
 | .cons a t, .cons b u=>E.same a b&&E.same t u
 | .tv i a b t, .tv j c d u=>Nat.beq i j&&E.same a c&&E.same b d&&E.same t u
 | .fn m t, .fn n u=>Nat.beq m n&&E.same t u
 | .mn a b, .mn c d=>E.same a c&&E.same b d
 |_,_=>false
theorem E.Q5:∀{a b:E},a.same b=true->a=b
 | .lit x,b,h=>by cases b<;>simp only [E.same,Bool.false_eq_true,qD,beq_iff_eq] at h;rw [h]
 | .var x,b,h=>by cases b<;>simp only [E.same,Bool.false_eq_true,Nat.beq_eq] at h;rw [h]
 | .len x,b,h=>by cases b<;>simp only [E.same,Bool.false_eq_true,Nat.beq_eq] at h;rw [h]
 | .byte i a,b,h=>by cases b<;>simp only [E.same,Bool.false_eq_true,Bool.and_eq_true,Nat.beq_eq] at h;rw [h.1,E.Q5 h.2]
 | .bin p j a b,e,h=>by cases e<;>simp only [E.same,Bool.false_eq_true,Bool.and_eq_true] at h;obtain ⟨⟨⟨h1,h2⟩,h3⟩,h4⟩:=h;rw [Qk9 h1,Q13 h2,E.Q5 h3,E.Q5 h4]
 | .cnv j a,e,h=>by cases e<;>simp only [E.same,Bool.false_eq_true,Bool.and_eq_true] at h;rw [Q13 h.1,E.Q5 h.2]
 | .pk m a,e,h=>by cases e<;>simp only [E.same,Bool.false_eq_true,Bool.and_eq_true,Nat.beq_eq] at h;rw [h.1,E.Q5 h.2]
 | .cons a t,e,h=>by cases e<;>simp only [E.same,Bool.false_eq_true,Bool.and_eq_true] at h;rw [E.Q5 h.1,E.Q5 h.2]
 | .tv i a b t,e,h=>by cases e<;>simp only [E.same,Bool.false_eq_true,Bool.and_eq_true,Nat.beq_eq] at h;rw [h.1.1.1,E.Q5 h.1.1.2,E.Q5 h.1.2,E.Q5 h.2]
 | .fn m t,e,h=>by cases e<;>simp only [E.same,Bool.false_eq_true,Bool.and_eq_true,Nat.beq_eq] at h;rw [h.1,E.Q5 h.2]
 | .mn a b,e,h=>by cases e<;>simp only [E.same,Bool.false_eq_true,Bool.and_eq_true] at h;rw [E.Q5 h.1,E.Q5 h.2]
def Fact.less (f:Fact):Option (E×E×Bool):=
 match f.op with
 | .lss=>some (f.a,f.b,f.val)
 | .leq=>some (f.b,f.a,!f.val)
 | .gtr=>some (f.b,f.a,f.val)
 | .geq=>some (f.a,f.b,!f.val)
 |_=>none
theorem Fact.Qr {f:Fact} {x y:E} {v:Bool} {O:Val} (h:f.less=some (x,y,v)) (hf:f.ok O):decide (x.den O<y.den O)=v:=by unfold Fact.ok at hf;obtain ⟨op,a,b,val⟩:=f;cases op<;>simp only [Fact.less,Option.some.injEq,Prod.mk.injEq,reduceCtorEq] at h<;>obtain ⟨rfl,rfl,rfl⟩:=h<;>simp only [Y3] at hf<;>rw [<-hf];rw [Bool.eq_iff_iff];simp;rw [Bool.eq_iff_iff];simp
def Fact.equal (f:Fact):Option (E×E×Bool):=
 match f.op with
 | .eql=>some (f.a,f.b,f.val)
 | .neq=>some (f.a,f.b,!f.val)
 |_=>none
theorem Fact.QC {f:Fact} {x y:E} {v:Bool} {O:Val} (h:f.equal=some (x,y,v)) (hf:f.ok O):decide (x.den O=y.den O)=v:=by unfold Fact.ok at hf;obtain ⟨op,a,b,val⟩:=f;cases op<;>simp only [Fact.equal,Option.some.injEq,Prod.mk.injEq,reduceCtorEq] at h<;>obtain ⟨rfl,rfl,rfl⟩:=h<;>simp only [Y3] at hf<;>rw [<-hf]<;>rw [Bool.eq_iff_iff]<;>simp
structure Iv where
 lo:Option Int
 hi:Option Int
def Iv.has (v:Iv) (x:Int):Prop:=(∀l,v.lo=some l->l<=x)/\(∀h,v.hi=some h->x<=h)
abbrev Iv.all:Iv:=⟨none,none⟩
theorem Iv.QK (x:Int):Iv.all.has x:=⟨λl h=>(by cases h),λl h=>by cases h⟩
def kLo:IntKind->Int
 | .i8=>-128| .i16=>-32768| .i32=>-2147483648| .i64=>-9223372036854775808|_=>0
def kHi:IntKind->Int
 | .i8=>127| .i16=>32767| .i32=>2147483647| .i64=>9223372036854775807| .u8=>255| .u16=>65535| .u32=>4294967295| .u64=>18446744073709551615
def Iv.ofK (k:IntKind):Iv:=⟨some (kLo k),some (kHi k)⟩
theorem ZA (k:IntKind) (n:Int):kLo k<=k.wrap n/\k.wrap n<=kHi k:=by cases k<;>simp only [IntKind.wrap,IntKind.signed,IntKind.bits,kLo,kHi]<;>simp<;>first|omega|(split<;>omega)
theorem wrap_within {k:IntKind} {n:Int} (h1:kLo k<=n) (h2:n<=kHi k):k.wrap n=n:=by cases k<;>simp only [kLo,kHi] at h1 h2;exact IntWalk.i8_in n ⟨h1,h2⟩;exact IntWalk.i16_in n ⟨h1,h2⟩;exact IntWalk.i32_in n ⟨h1,h2⟩;exact IntWalk.i64_in n ⟨h1,h2⟩;exact IntWalk.u8_in n ⟨h1,h2⟩;exact IntWalk.u16_in n ⟨h1,h2⟩;exact IntWalk.u32_in n ⟨h1,h2⟩;exact IntWalk.u64_in n ⟨h1,h2⟩
theorem Iv.Ym (k:IntKind) (n:Int):(Iv.ofK k).has (k.wrap n):=⟨λl h=>by cases h;exact (ZA k n).1,λl h=>by cases h;exact (ZA k n).2⟩
def ile (x y:Int):Bool:=!ilt y x
theorem QO {x y:Int}:ile x y=true↔x<=y:=by unfold ile;rw [JI];simp
theorem Qev {x y:Int} (h:ile x y=false):y<x:=by
 have:¬x<=y:=λhle=>by rw [QO.2 hle] at h;cases h
 omega
def Iv.wrap (k:IntKind) (l h:Int):Iv:=bif ile (kLo k) l&&ile h (kHi k) then ⟨some l,some h⟩ else .ofK k
theorem Iv.ZA {k:IntKind} {l h x:Int} (h1:l<=x) (h2:x<=h):(Iv.wrap k l h).has (k.wrap x):=by
 unfold Iv.wrap;cases hb:(ile (kLo k) l&&ile h (kHi k)) with
 |false=>exact Iv.Ym k x
 |true=>simp only [Bool.and_eq_true,QO] at hb;rw [wrap_within (by omega) (by omega)];exact ⟨λl' e=>by cases e;exact h1,λl' e=>by cases e;exact h2⟩
def maxO (a b:Option Int):Option Int:=
 match a,b with
 |some x,some y=>bif ilt x y then some y else some x
 |none,b=>b
 |a,none=>a
def Qnd (a b:Option Int):Option Int:=
 match a,b with
 |some x,some y=>bif ilt x y then some x else some y
 |none,b=>b
 |a,none=>a
def Iv.meet (a b:Iv):Iv:=⟨maxO a.lo b.lo,Qnd a.hi b.hi⟩
theorem Iv.Zt {a b:Iv} {x:Int} (h1:a.has x) (h2:b.has x):(a.meet b).has x:=by
 obtain ⟨al,ah⟩:=a;obtain ⟨bl,bh⟩:=b;refine ⟨λl h=>?_,λl h=>?_⟩;cases al with
 |none=>cases bl with
  |none=>cases h
  |some y=>exact h2.1 _ h
 |some y=>cases bl with
  |none=>exact h1.1 _ h
  |some z=>simp only [Iv.meet,maxO] at h;cases hc:ilt y z<;>rw [hc] at h<;>cases h;exact h1.1 _ rfl;exact h2.1 _ rfl
 cases ah with
 |none=>cases bh with
  |none=>cases h
  |some y=>exact h2.2 _ h
 |some y=>cases bh with
  |none=>exact h1.2 _ h
  |some z=>simp only [Iv.meet,Qnd] at h;cases hc:ilt y z<;>rw [hc] at h<;>cases h;exact h2.2 _ rfl;exact h1.2 _ rfl
def Fact.bound (f:Fact) (e:E):Iv:=
 match f.less with
 |some (x, .lit n,v)=>bif x.same e then (match v with|true=>⟨none,some (n-1)⟩|false=>⟨some n,none⟩) else .all
 |some (.lit n,y,v)=>bif y.same e then (match v with|true=>⟨some (n+1),none⟩|false=>⟨none,some n⟩) else .all
 |_=>match f.equal with
  |some (x, .lit n,true)=>bif x.same e then ⟨some n,some n⟩ else .all
  |_=> .all
theorem Fact.QS {f:Fact} {e:E} {O:Val} (hf:f.ok O):(f.bound e).has (e.den O):=by
 unfold Fact.bound;split;rename_i x n v hl;have h1:decide (x.den O<n)=v:=Fact.Qr hl hf;cases hs:x.same e with
 |false=>exact Iv.QK _
 |true=>
  have:=E.Q5 hs;subst this;cases v with
  |true=>simp only [decide_eq_true_eq] at h1;exact ⟨λl h=>(by cases h),λl h=>by cases h;omega⟩
  |false=>simp only [decide_eq_false_iff_not] at h1;exact ⟨λl h=>by cases h;omega,λl h=>by cases h⟩
 rename_i n y v _ hl;have h1:decide (n<y.den O)=v:=Fact.Qr hl hf;cases hs:y.same e with
 |false=>exact Iv.QK _
 |true=>
  have:=E.Q5 hs;subst this;cases v with
  |true=>simp only [decide_eq_true_eq] at h1;exact ⟨λl h=>by cases h;omega,λl h=>by cases h⟩
  |false=>simp only [decide_eq_false_iff_not] at h1;exact ⟨λl h=>(by cases h),λl h=>by cases h;omega⟩
 split;rename_i x n he;have h1:decide (x.den O=n)=true:=Fact.QC he hf;cases hs:x.same e with
 |false=>exact Iv.QK _
 |true=>have:=E.Q5 hs;subst this;simp only [decide_eq_true_eq] at h1;exact ⟨λl h=>by cases h;omega,λl h=>by cases h;omega⟩
 exact Iv.QK _
def Facts.bound (e:E):Facts->Iv
 |[]=> .all
 |f::c=>(f.bound e).meet (Facts.bound e c)
theorem Facts.QS {n:Nat->Prop} {e:E} {O:Val}:∀{c:Facts},c.okN n O->(Facts.bound e c).has (e.den O)
 |[],_=>Iv.QK _
 |f::c,h=>Iv.Zt (Fact.QS (h f (by simp)).1) (Facts.QS (λg hg=>h g (by simp [hg])))
def Qlf (op:BinOp) (k:IntKind) (A B:Iv):Iv:=
 match op with
 | .add=>match A.lo,A.hi,B.lo,B.hi with
  |some la,some ha,some lb,some hb=> .wrap k (la+lb) (ha+hb)
  |_,_,_,_=> .ofK k
 | .sub=>match A.lo,A.hi,B.lo,B.hi with
  |some la,some ha,some lb,some hb=> .wrap k (la-hb) (ha-lb)
  |_,_,_,_=> .ofK k
 | .mul=>match A.lo,A.hi,B.lo,B.hi with
  |some (.ofNat la),some (.ofNat ha),some (.ofNat lb),some (.ofNat hb)=> .wrap k (.ofNat (la*lb)) (.ofNat (ha*hb))
  |some la,some ha,some lb,some hb=>bif ieq lb hb then (bif ile 0 lb then .wrap k (la*lb) (ha*lb) else .wrap k (ha*lb) (la*lb)) else .ofK k
  |_,_,_,_=> .ofK k
 | .quo=>match A.lo,A.hi,B.lo,B.hi with
  |some (.ofNat la),some (.ofNat ha),some (.ofNat lb),some (.ofNat hb)=>bif Nat.beq lb hb&&Nat.blt 0 lb then .wrap k (.ofNat (la/lb)) (.ofNat (ha/lb)) else .ofK k
  |_,_,_,_=> .ofK k
 | .rem=>match A.lo,B.lo,B.hi with
  |some (.ofNat _),some (.ofNat lb),some (.ofNat hb)=>bif Nat.blt 0 lb then ⟨some 0,some (.ofNat (hb-1))⟩ else .all
  |_,_,_=> .all
 | .andNot=>match A.lo,A.hi,B.lo,B.hi with
  |some (.ofNat la),some (.ofNat ha),some (.ofNat lb),some (.ofNat hb)=>
   bif Nat.beq lb hb&&(Nat.beq (Nat.pow 2 (Nat.log2 (Nat.add lb 1))) (Nat.add lb 1)&&(Nat.ble lb 9223372036854775807&&(Nat.ble ha 9223372036854775807&&Nat.beq (kN k) 3))) then
    ⟨some (.ofNat (Nat.sub la (Nat.mod la (Nat.add lb 1)))),some (.ofNat (Nat.sub ha (Nat.mod ha (Nat.add lb 1))))⟩ else .ofK k
  |_,_,_,_=> .ofK k
 | .and| .or| .xor| .shl=> .ofK k
 | .shr=>match A.lo,A.hi,B.lo,B.hi with
  |some (.ofNat la),some (.ofNat ha),some (.ofNat lb),some (.ofNat hb)=>bif Nat.beq lb hb&&Nat.ble lb k.bits then ⟨some (.ofNat (la/2^lb)),some (.ofNat (ha/2^lb))⟩ else .all
  |_,_,_,_=> .all
 |_=> .all
theorem Qcr {m t:Nat} (hm:m<2^64) (ht:t<=63):(BitVec.ofInt 64 (m:Int) &&& ~~~(BitVec.ofInt 64 ((2^t-1:Nat):Int))).toNat=m-m%2^t:=by
 have h2:2^t<=2^63:=Nat.pow_le_pow_right (by omega) ht;have h3:0<2^t:=Nat.two_pow_pos t;have ex:BitVec.ofInt 64 (m:Int)=BitVec.ofNat 64 m:=by simp
 have ey:BitVec.ofInt 64 ((2^t-1:Nat):Int)=BitVec.ofNat 64 (2^t-1):=by rw [BitVec.ofInt_natCast]
 rw [ex,ey,BitVec.toNat_and,BitVec.toNat_not,BitVec.toNat_ofNat,BitVec.toNat_ofNat,Nat.mod_eq_of_lt hm,Nat.mod_eq_of_lt (by omega)];have e:m-m%2^t=2^t*(m/2^t):=by have:=Nat.div_add_mod m (2^t);omega
 rw [e];apply Nat.eq_of_testBit_eq;intro i;rw [show 2^64-1-(2^t-1)=2^64-((2^t-1)+1) from by omega];rw [Nat.testBit_and,Nat.testBit_two_pow_sub_succ (by omega),Nat.testBit_two_pow_sub_one,Nat.testBit_two_pow_mul,Nat.testBit_div_two_pow];by_cases hi:i<t;simp [hi,Nat.not_le.2 hi];have hge:t<=i:=by omega
 by_cases h64:i<64;simp [hi,hge,h64,Nat.sub_add_cancel hge];have:m.testBit i=false:=Nat.testBit_lt_two_pow (Nat.lt_of_lt_of_le hm (Nat.pow_le_pow_right (by omega) (by omega)));simp [hge,this,Nat.sub_add_cancel hge]
theorem Qfz {op:BinOp} {k:IntKind} {A B:Iv} {x y:Int} (h1:A.has x) (h2:B.has y):(Qlf op k A B).has (Zm op k x y):=by
 obtain ⟨la,ha⟩:=A;obtain ⟨lb,hb⟩:=B;cases op<;>simp only [Qlf,Zm]
 case add=>split;exact Iv.ZA (by have:=h1.1 _ rfl;have:=h2.1 _ rfl;omega) (by have:=h1.2 _ rfl;have:=h2.2 _ rfl;omega);exact Iv.Ym _ _
 case sub=>split;exact Iv.ZA (by have:=h1.1 _ rfl;have:=h2.2 _ rfl;omega) (by have:=h1.2 _ rfl;have:=h2.1 _ rfl;omega);exact Iv.Ym _ _
 case mul=>
  split;rename_i la' ha' lb' hb';have g1:=h1.1 _ rfl;have g2:=h1.2 _ rfl;have g3:=h2.1 _ rfl;have g4:=h2.2 _ rfl;obtain ⟨m,rfl⟩:∃m:Nat,x=m:=⟨x.toNat,by simp only [Int.ofNat_eq_natCast] at g1;omega⟩;obtain ⟨n,rfl⟩:∃n:Nat,y=n:=⟨y.toNat,by simp only [Int.ofNat_eq_natCast] at g3;omega⟩;simp only [Int.ofNat_eq_natCast,Int.ofNat_le] at g1 g2 g3 g4;refine Iv.ZA ?_ ?_;have:=Nat.mul_le_mul g1 g3;simp only [Int.ofNat_eq_natCast];exact_mod_cast this;have:=Nat.mul_le_mul g2 g4;simp only [Int.ofNat_eq_natCast];exact_mod_cast this;rename_i la' ha' lb' hb' _;have g1:=h1.1 _ rfl;have g2:=h1.2 _ rfl;have g3:=h2.1 _ rfl;have g4:=h2.2 _ rfl;cases hq:ieq lb' hb' with
  |false=>exact Iv.Ym _ _
  |true=>
   rw [qD] at hq;have hq:lb' =hb' :=by simpa using hq
   have hy:y=lb' :=by omega
   subst hy;simp only [cond_true];cases hs:ile 0 y with
   |true=>have hs:0<=y:=QO.1 hs;exact Iv.ZA (Int.mul_le_mul_of_nonneg_right g1 hs) (Int.mul_le_mul_of_nonneg_right g2 hs)
   |false=>
    have hs:y<=0:=by have:=Qev hs;omega
    exact Iv.ZA (Int.mul_le_mul_of_nonpos_right g2 hs) (Int.mul_le_mul_of_nonpos_right g1 hs)
  exact Iv.Ym _ _
 case quo=>
  split;rename_i la' ha' lb' hb';have g1:=h1.1 _ rfl;have g2:=h1.2 _ rfl;have g3:=h2.1 _ rfl;have g4:=h2.2 _ rfl;cases hc:(Nat.beq lb' hb' &&Nat.blt 0 lb') with
  |false=>exact Iv.Ym _ _
  |true=>
   simp only [Bool.and_eq_true,Nat.beq_eq,Nat.blt_eq] at hc;obtain ⟨m,rfl⟩:∃m:Nat,x=m:=⟨x.toNat,by simp only [Int.ofNat_eq_natCast] at g1;omega⟩;have hy:y=lb' :=by simp only [Int.ofNat_eq_natCast] at g3 g4;omega
   subst hy;simp only [Int.ofNat_eq_natCast,Int.ofNat_le] at g1 g2;refine Iv.ZA ?_ ?_;show ((la' /lb' :Nat):Int)<=((m/lb' :Nat):Int)
   exact_mod_cast Nat.div_le_div_right g1
   show ((m/lb' :Nat):Int)<=((ha' /lb' :Nat):Int)
   exact_mod_cast Nat.div_le_div_right g2
  exact Iv.Ym _ _
 case rem=>
  split;rename_i la' lb' hb';have g1:=h1.1 _ rfl;have g3:=h2.1 _ rfl;have g4:=h2.2 _ rfl;cases hc:Nat.blt 0 lb' with
  |false=>exact Iv.QK _
  |true=>simp only [Nat.blt_eq] at hc;obtain ⟨m,rfl⟩:∃m:Nat,x=m:=⟨x.toNat,by simp only [Int.ofNat_eq_natCast] at g1;omega⟩;obtain ⟨n,rfl⟩:∃n:Nat,y=n:=⟨y.toNat,by simp only [Int.ofNat_eq_natCast] at g3;omega⟩;simp only [Int.ofNat_eq_natCast,Int.ofNat_le] at g3 g4;have hlt:m%n<n:=Nat.mod_lt _ (by omega);refine ⟨λl h=>?_,λl h=>?_⟩;cases h;show (0:Int)<=((m%n:Nat):Int);omega;cases h;show ((m%n:Nat):Int)<=((hb' -1:Nat):Int);omega
  exact Iv.QK _
 case andNot=>
  split;rename_i la' ha' lb' hb';have g1:=h1.1 _ rfl;have g2:=h1.2 _ rfl;have g3:=h2.1 _ rfl;have g4:=h2.2 _ rfl;cases hc:(Nat.beq lb' hb' &&(Nat.beq (Nat.pow 2 (Nat.log2 (Nat.add lb' 1))) (Nat.add lb' 1)&&(Nat.ble lb' 9223372036854775807&&(Nat.ble ha' 9223372036854775807&&Nat.beq (kN k) 3)))) with
  |false=>exact Iv.Ym _ _
  |true=>
   simp only [Bool.and_eq_true,Nat.beq_eq,Nat.ble_eq] at hc;obtain ⟨c1,c2,c3,c4,c5⟩:=hc;obtain rfl:k= .i64:=by cases k<;>simp [kN] at c5<;>rfl
   obtain ⟨m,rfl⟩:∃m:Nat,x=m:=⟨x.toNat,by simp only [Int.ofNat_eq_natCast] at g1;omega⟩;have hy:y=lb' :=by simp only [Int.ofNat_eq_natCast] at g3 g4;omega
   subst hy;simp only [Int.ofNat_eq_natCast,Int.ofNat_le] at g1 g2;obtain ⟨t,ht⟩:∃t,t=Nat.log2 (Nat.add lb' 1):=⟨_,rfl⟩;rw [<-ht] at c2;have c2' :2^t=lb' +1:=c2;have ht63:t<=63:=by rcases Nat.lt_or_ge 63 t with h|h;have:2^64<=2^t:=Nat.pow_le_pow_right (by omega) h;omega;exact h
   have hv:=Qcr (m:=m) (t:=t) (by omega) ht63;have e3:((2^t-1:Nat):Int)=(lb' :Int):=by rw [c2'];simp
   rw [e3] at hv;have hb:IntKind.i64.bits=64:=rfl;rw [hb,hv,c2'];have hw:IntKind.i64.wrap ((m-m%(lb' +1):Nat):Int)=((m-m%(lb' +1):Nat):Int):=wrap_within (by simp only [kLo];omega) (by simp only [kHi];omega);rw [hw];have mono:∀a b:Nat,a<=b->a-a%(lb' +1)<=b-b%(lb' +1):=λa b hab=>by have e1:=Nat.div_add_mod a (lb' +1);have e2:=Nat.div_add_mod b (lb' +1);have:=Nat.mul_le_mul_left (lb' +1) (Nat.div_le_div_right (c:=lb' +1) hab);omega
   refine ⟨λl h=>?_,λl h=>?_⟩;cases h;exact Int.ofNat_le.2 (mono _ _ g1);cases h;exact Int.ofNat_le.2 (mono _ _ g2)
  exact Iv.Ym _ _
 case shr=>
  split;rename_i la' ha' lb' hb';have g1:=h1.1 _ rfl;have g2:=h1.2 _ rfl;have g3:=h2.1 _ rfl;have g4:=h2.2 _ rfl;cases hc:(Nat.beq lb' hb' &&Nat.ble lb' k.bits) with
  |false=>exact Iv.QK _
  |true=>
   simp only [Bool.and_eq_true,Nat.beq_eq,Nat.ble_eq] at hc;obtain ⟨m,rfl⟩:∃m:Nat,x=m:=⟨x.toNat,by simp only [Int.ofNat_eq_natCast] at g1;omega⟩;have hy:y=lb' :=by simp only [Int.ofNat_eq_natCast] at g3 g4;omega
   subst hy;simp only [Int.ofNat_eq_natCast,Int.ofNat_le] at g1 g2;have e:min ((lb' :Int).toNat) k.bits=lb' :=by simp;omega
   rw [e];have e2:((m:Nat):Int).fdiv (2^lb')=((m/2^lb' :Nat):Int):=by rw [Int.fdiv_eq_ediv_of_nonneg _ (by exact_mod_cast Nat.zero_le (2^lb'))];rw [Int.natCast_ediv];simp
   rw [e2];refine ⟨λl h=>?_,λl h=>?_⟩;cases h;show ((la' /2^lb' :Nat):Int)<=((m/2^lb' :Nat):Int)
   exact_mod_cast Nat.div_le_div_right g1
   cases h;show ((m/2^lb' :Nat):Int)<=((ha' /2^lb' :Nat):Int)
   exact_mod_cast Nat.div_le_div_right g2
  exact Iv.QK _
 all_goals first
  |exact Iv.Ym _ _
  |exact Iv.QK _
def minB (a b:Option Int):Option Int:=
 match a,b with
 |some x,some y=>bif ilt x y then some x else some y
 |_,_=>none
theorem Qkg {a b:Option Int} {l x y:Int} (h:minB a b=some l) (h1:∀l,a=some l->l<=x) (h2:∀l,b=some l->l<=y):l<=min x y:=by
 unfold minB at h;split at h;rename_i p q;have g1:=h1 _ rfl;have g2:=h2 _ rfl;rw [JI] at h;cases hb:decide (p<q) with
 |true=>rw [hb] at h;cases h;simp only [decide_eq_true_eq] at hb;omega
 |false=>rw [hb] at h;cases h;simp only [decide_eq_false_iff_not] at hb;omega
 cases h
theorem Qkf {a b:Option Int} {u x y:Int} (h:Qnd a b=some u) (h1:∀u,a=some u->x<=u) (h2:∀u,b=some u->y<=u):min x y<=u:=by
 unfold Qnd at h;split at h;rename_i p q;have g1:=h1 _ rfl;have g2:=h2 _ rfl;cases hb:ilt p q with
 |true=>rw [hb] at h;cases h;omega
 |false=>rw [hb] at h;cases h;omega
 have:=h2 _ h;omega;have:=h1 _ h;omega
def E.iv (c:Facts):E->Iv
 | .lit n=>⟨some n,some n⟩
 | .var i=>Facts.bound (.var i) c
 | .len i=>Iv.meet ⟨some 0,none⟩ (Facts.bound (.len i) c)
 | .byte i a=>Iv.meet ⟨some 0,some 255⟩ (Facts.bound (.byte i a) c)
 | .bin op k a b=>(Qlf op k (E.iv c a) (E.iv c b)).meet (Facts.bound (.bin op k a b) c)
 | .cnv k a=>(match (E.iv c a).lo,(E.iv c a).hi with
  |some l,some h=>Iv.wrap k l h
  |_,_=> .ofK k).meet (Facts.bound (.cnv k a) c)
 | .pk n a=>(bif Nat.blt 0 n then ⟨some 0,some (.ofNat (n-1))⟩ else .all:Iv).meet (Facts.bound (.pk n a) c)
 | .cons _ _=> .all
 | .tv _ _ _ _=> .all
 | .fn k _=>⟨some 0,some (bif Nat.beq k 0 then 4294967295 else 65535)⟩
 | .mn a b=>(⟨minB (E.iv c a).lo (E.iv c b).lo,Qnd (E.iv c a).hi (E.iv c b).hi⟩:Iv).meet (Facts.bound (.mn a b) c)
theorem E.Qb {n:Nat->Prop} {c:Facts} {O:Val} (hc:c.okN n O):∀e:E,(e.iv c).has (e.den O)
 | .lit n=>⟨λl h=>by cases h;exact Int.le_refl _,λl h=>by cases h;exact Int.le_refl _⟩
 | .var i=>Facts.QS hc
 | .len i=>Iv.Zt ⟨λl h=>by cases h;simp only [E.den];omega,λl h=>by cases h⟩ (Facts.QS hc)
 | .byte i a=>by
  refine Iv.Zt ⟨λl h=>?_,λl h=>?_⟩ (Facts.QS hc);cases h;simp only [E.den];omega;cases h;simp only [E.den];have:=((O.str i).getD (a.den O).toNat 0).toNat_lt
  omega
 | .bin op k a b=>Iv.Zt (Qfz (E.Qb hc a) (E.Qb hc b)) (Facts.QS hc)
 | .cnv k a=>by refine Iv.Zt ?_ (Facts.QS hc);have h:=E.Qb hc a;split;rename_i l hh e1 e2;exact Iv.ZA (h.1 _ e1) (h.2 _ e2);exact Iv.Ym _ _
 | .pk m a=>by
  refine Iv.Zt ?_ (Facts.QS hc);cases hb:Nat.blt 0 m with
  |false=>exact Iv.QK _
  |true=>have:=Qe3 (n:=m) (by simpa using hb) (a.den O);exact ⟨λl h=>by cases h;exact this.1,λl h=>by cases h;exact this.2⟩
 | .cons _ _=>Iv.QK _
 | .tv _ _ _ _=>Iv.QK _
 | .fn k t=>by
  have h:=Qky k (t.den O);refine ⟨λl e=>by cases e;exact h.1,λl e=>?_⟩;simp only [E.iv,Option.some.injEq] at e;subst e;cases hk:Nat.beq k 0 with
  |true=>exact h.2.1
  |false=>exact h.2.2 (λe0=>by rw [e0] at hk;cases hk)
 | .mn a b=>Iv.Zt ⟨λ_ e=>Qkg e (E.Qb hc a).1 (E.Qb hc b).1,λ_ e=>Qkf e (E.Qb hc a).2 (E.Qb hc b).2⟩ (Facts.QS hc)
def Facts.Jh (a b:E):Facts->Option Bool
 |[]=>none
 |f::c=>match f.less with
  |some (x,y,v)=>bif x.same a&&y.same b then some v else bif v&&x.same b&&y.same a then some false else Facts.Jh a b c
  |none=>match f.equal with
   |some (x,y,true)=>bif x.same a&&y.same b||x.same b&&y.same a then some false else Facts.Jh a b c
   |_=>Facts.Jh a b c
theorem Facts.qF {n:Nat->Prop} {a b:E} {r:Bool} {O:Val}:∀{c:Facts},Facts.Jh a b c=some r->c.okN n O->decide (a.den O<b.den O)=r
 |[],h,_=>by cases h
 |f::c,h,hc=>by
  have hf:=(hc f (by simp)).1
  have ih:=λ(h:Facts.Jh a b c=some r)=>Facts.qF h (λg hg=>hc g (by simp [hg]))
  simp only [Facts.Jh] at h;split at h;rename_i x y v hl;have h1:=Fact.Qr hl hf;cases hs:(x.same a&&y.same b) with
  |true=>rw [hs] at h;cases h;simp only [Bool.and_eq_true] at hs;rw [<-E.Q5 hs.1,<-E.Q5 hs.2];exact h1
  |false=>
   rw [hs] at h;simp only [cond_false] at h;cases hs2:(v&&x.same b&&y.same a) with
   |true=>rw [hs2] at h;cases h;simp only [Bool.and_eq_true] at hs2;rw [hs2.1.1,E.Q5 hs2.1.2,E.Q5 hs2.2] at h1;simp only [decide_eq_true_eq] at h1;simp only [decide_eq_false_iff_not];omega
   |false=>rw [hs2] at h;exact ih h
  split at h;rename_i x y he;have h1:=Fact.QC he hf;simp only [decide_eq_true_eq] at h1;cases hs:(x.same a&&y.same b||x.same b&&y.same a) with
  |true=>rw [hs] at h;cases h;simp only [Bool.or_eq_true,Bool.and_eq_true] at hs;simp only [decide_eq_false_iff_not];rcases hs with hs|hs;rw [<-E.Q5 hs.1,<-E.Q5 hs.2];omega;rw [<-E.Q5 hs.1,<-E.Q5 hs.2];omega
  |false=>rw [hs] at h;exact ih h
  exact ih h
def Facts.Y1 (a b:E):Facts->Option Bool
 |[]=>none
 |f::c=>match f.equal with
  |some (x,y,v)=>bif x.same a&&y.same b||x.same b&&y.same a then some v else Facts.Y1 a b c
  |none=>match f.less with
   |some (x,y,true)=>bif x.same a&&y.same b||x.same b&&y.same a then some false else Facts.Y1 a b c
   |_=>Facts.Y1 a b c
theorem Facts.Yq {n:Nat->Prop} {a b:E} {r:Bool} {O:Val}:∀{c:Facts},Facts.Y1 a b c=some r->c.okN n O->decide (a.den O=b.den O)=r
 |[],h,_=>by cases h
 |f::c,h,hc=>by
  have hf:=(hc f (by simp)).1
  have ih:=λ(h:Facts.Y1 a b c=some r)=>Facts.Yq h (λg hg=>hc g (by simp [hg]))
  simp only [Facts.Y1] at h;split at h;rename_i x y v hl;have h1:=Fact.QC hl hf;cases hs:(x.same a&&y.same b||x.same b&&y.same a) with
  |true=>rw [hs] at h;cases h;simp only [Bool.or_eq_true,Bool.and_eq_true] at hs;rcases hs with hs|hs;rw [<-E.Q5 hs.1,<-E.Q5 hs.2];exact h1;rw [<-E.Q5 hs.1,<-E.Q5 hs.2,<-h1,Bool.eq_iff_iff];simp only [decide_eq_true_eq];exact eq_comm
  |false=>rw [hs] at h;exact ih h
  split at h;rename_i x y he;have h1:=Fact.Qr he hf;simp only [decide_eq_true_eq] at h1;cases hs:(x.same a&&y.same b||x.same b&&y.same a) with
  |true=>rw [hs] at h;cases h;simp only [Bool.or_eq_true,Bool.and_eq_true] at hs;simp only [decide_eq_false_iff_not];rcases hs with hs|hs;rw [<-E.Q5 hs.1,<-E.Q5 hs.2];omega;rw [<-E.Q5 hs.1,<-E.Q5 hs.2];omega
  |false=>rw [hs] at h;exact ih h
  exact ih h
def Iv.less (A B:Iv):Option Bool:=
 bif (match A.hi,B.lo with|some h,some l=>ilt h l|_,_=>false) then some true else
 bif (match A.lo,B.hi with|some l,some h=>ile h l|_,_=>false) then some false else none
theorem Iv.Qr {A B:Iv} {x y:Int} {r:Bool} (h:A.less B=some r) (h1:A.has x) (h2:B.has y):decide (x<y)=r:=by
 unfold Iv.less at h;cases ha:(match A.hi,B.lo with|some h,some l=>ilt h l|_,_=>false) with
 |true=>rw [ha] at h;cases h;split at ha;rename_i hh l e1 e2;rw [JI] at ha;simp only [decide_eq_true_eq] at ha ⊢;have:=h1.2 _ e1;have:=h2.1 _ e2;omega;cases ha
 |false=>
  rw [ha] at h;simp only [cond_false] at h;cases hb:(match A.lo,B.hi with|some l,some h=>ile h l|_,_=>false) with
  |true=>rw [hb] at h;cases h;split at hb;rename_i l hh e1 e2;rw [QO] at hb;simp only [decide_eq_false_iff_not];have:=h1.1 _ e1;have:=h2.2 _ e2;omega;cases hb
  |false=>rw [hb] at h;cases h
def Iv.equal (A B:Iv):Option Bool:=
 match A.less B,B.less A with
 |some true,_=>some false
 |_,some true=>some false
 |some false,some false=>some true
 |_,_=>none
theorem Iv.QC {A B:Iv} {x y:Int} {r:Bool} (h:A.equal B=some r) (h1:A.has x) (h2:B.has y):decide (x=y)=r:=by unfold Iv.equal at h;split at h;rename_i e;cases h;have:=Iv.Qr e h1 h2;simp only [decide_eq_true_eq] at this;simp only [decide_eq_false_iff_not];omega;rename_i e _;cases h;have:=Iv.Qr e h2 h1;simp only [decide_eq_true_eq] at this;simp only [decide_eq_false_iff_not];omega;rename_i e1 e2;cases h;have g1:=Iv.Qr e1 h1 h2;have g2:=Iv.Qr e2 h2 h1;simp only [decide_eq_false_iff_not] at g1 g2;simp only [decide_eq_true_eq];omega;cases h
theorem Q6 (n:Int):IntKind.i64.wrap n=(n+9223372036854775808)%18446744073709551616-9223372036854775808:=by simp [IntKind.wrap,IntKind.bits,IntKind.signed];split<;>omega
def Iv.fits (A:Iv) (p:Int):Bool:=
 match A.lo,A.hi with
 |some l,some h=>ile (-9223372036854775808) (l+p)&&ile (h+p) 9223372036854775807
 |_,_=>false
theorem Iv.ZQ {A:Iv} {p x:Int} (h:A.fits p=true) (hx:A.has x):IntKind.i64.wrap (x+p)=x+p:=by unfold Iv.fits at h;split at h;rename_i l hh e1 e2;simp only [Bool.and_eq_true,QO] at h;have:=hx.1 _ e1;have:=hx.2 _ e2;rw [Q6];omega;cases h
def E.key:E->Nat
 | .var i=>Nat.mul 4 i
 | .len i=>Nat.add (Nat.mul 4 i) 1
 | .pk _ (.var i)=>Nat.add (Nat.mul 4 i) 2
 |_=>1000000000
noncomputable def yu (c:Int) (x:E):List (Int×E)->List (Int×E)
 |[]=>[(c,x)]
 |(d,y)::r=>bif x.same y then yI (c+d) λn=>bif ieq n 0 then r else (n,y)::r
  else bif Nat.blt x.key y.key then (c,x)::(d,y)::r else (d,y)::yu c x r
noncomputable def jB (s:Int) (e:E) (l:List (Int×E)):List (Int×E):=
 match e with
 | .lit _=>l
 | .bin .add .i64 a b=>jB s b (jB s a l)
 | .bin .sub .i64 a b=>yI (-s) λt=>jB t b (jB s a l)
 | .bin .mul .i64 a (.lit n)=>yI (s*n) λt=>jB t a l
 | .bin .mul .i64 (.lit n) a=>yI (s*n) λt=>jB t a l
 |e=>yu s e l
noncomputable def JH (s:Int) (e:E) (p:Int):Int:=
 match e with
 | .lit n=>yI (p+s*n) λt=>t
 | .bin .add .i64 a b=>JH s b (JH s a p)
 | .bin .sub .i64 a b=>yI (-s) λt=>JH t b (JH s a p)
 | .bin .mul .i64 a (.lit n)=>yI (s*n) λt=>JH t a p
 | .bin .mul .i64 (.lit n) a=>yI (s*n) λt=>JH t a p
 |_=>p
noncomputable def Qcx:List (Int×E)->E->E
 |[],e=>e
 |(c,x)::r,e=>bif ieq c 1 then Qcx r (.bin .add .i64 e x) else bif ieq c (-1) then Qcx r (.bin .sub .i64 e x) else Qcx r (.bin .add .i64 e (.bin .mul .i64 x (.lit c)))
noncomputable def Qhk (l:List (Int×E)) (p:Int):E:=
 match l with
 |[]=> .Q22 (Y2 .i64 p)
 |(c,x)::r=>bif ieq c 1 then yI (Y2 .i64 p) λq=>match r with
  |[]=> .bin .add .i64 x (.lit q)
  |y::r=>bif ieq q 0 then Qcx (y::r) x else .bin .add .i64 (Qcx (y::r) x) (.lit q)
  else yI (Y2 .i64 p) λq=>Qcx ((c,x)::r) (.lit q)
noncomputable def linT (l:List (Int×E)):E:=
 match l with
 |[(c,x)]=>bif ieq c 1 then x else Qhk [(c,x)] 0
 |l=>Qhk l 0
noncomputable def E.Qm2 (a b:E):E:=Qhk (jB 1 b (jB 1 a [])) (JH 1 b (JH 1 a 0))
noncomputable def E.Qlp (a b:E):E:=Qhk (jB (-1) b (jB 1 a [])) (JH (-1) b (JH 1 a 0))
def yw (O:Val):List (Int×E)->Int
 |[]=>0
 |(c,x)::r=>c*x.den O+yw O r
def Q26 (n:Nat->Prop) (l:List (Int×E)):Prop:=∀q∈l,q.2.ok n
theorem YO (n:Int):∃k:Int,IntKind.i64.wrap n=n+k*18446744073709551616:=⟨-((n+9223372036854775808)/18446744073709551616),by rw [Q6];omega⟩
theorem jU (n k:Int):IntKind.i64.wrap (n+k*18446744073709551616)=IntKind.i64.wrap n:=by rw [Q6,Q6];omega
theorem JX (a b:Int):IntKind.i64.wrap (IntKind.i64.wrap a+b)=IntKind.i64.wrap (a+b):=by rw [Q6,Q6,Q6];omega
theorem Yk (a b:Int):IntKind.i64.wrap (a+IntKind.i64.wrap b)=IntKind.i64.wrap (a+b):=by rw [Q6,Q6,Q6];omega
theorem Q6k {x y:Int} (h:ieq x y=true):x=y:=by rw [qD] at h;simpa using h
theorem jC (O:Val) (c:Int) (x:E):∀l,yw O (yu c x l)=c*x.den O+yw O l
 |[]=>rfl
 |(d,y)::r=>by
  unfold yu;cases h:x.same y with
  |true=>
   have:=E.Q5 h;subst this;simp only [cond_true,sInt_eq];cases h0:ieq (c+d) 0 with
   |true=>have h0' :=Q6k h0;simp only [cond_true,yw];rw [<-Int.add_assoc,<-Int.add_mul,h0',Int.zero_mul,Int.zero_add]
   |false=>simp only [cond_false,yw];rw [Int.add_mul,Int.add_assoc]
  |false=>
   simp only [cond_false];cases Nat.blt x.key y.key with
   |true=>rfl
   |false=>simp only [cond_false,yw,jC O c x r];omega
theorem Q0y {n:Nat->Prop} {c:Int} {x:E} (hx:x.ok n):∀{l},Q26 n l->Q26 n (yu c x l)
 |[],_=>λq hq=>by simp only [yu,List.mem_singleton] at hq;subst hq;exact hx
 |(d,y)::r,h=>by
  have hy:y.ok n:=h (d,y) (by simp);have hr:Q26 n r:=λq hq=>h q (by simp [hq])
  unfold yu;cases x.same y with
  |true=>
   simp only [cond_true,sInt_eq];cases ieq (c+d) 0 with
   |true=>exact hr
   |false=>intro q hq;rcases List.mem_cons.1 hq with rfl|hq
           exact hy;exact hr q hq
  |false=>
   simp only [cond_false];cases Nat.blt x.key y.key with
   |true=>intro q hq;rcases List.mem_cons.1 hq with rfl|hq
          exact hx;exact h q hq
   |false=>intro q hq;rcases List.mem_cons.1 hq with rfl|hq
           exact hy;exact Q0y hx hr q hq
theorem Qeg (O:Val) (e:E) (s:Int) (l:List (Int×E)) (p:Int):∃k:Int,yw O (jB s e l)+JH s e p=yw O l+p+s*e.den O+k*18446744073709551616:=by
 induction e generalizing s l p with
 |lit n=>
  refine ⟨0,?_⟩;have:JH s (.lit n) p=p+s*n:=by show yI (p+s*n) _=_;rw [sInt_eq]
  show yw O l+JH s (.lit n) p=_;rw [this];simp only [E.den];omega
 |bin op k a b iha ihb=>
  unfold jB;split;rename_i he;cases he;rename_i a' b' he;cases he;obtain ⟨k1,h1⟩:=iha s l p;obtain ⟨k2,h2⟩:=ihb s (jB s a l) (JH s a p);obtain ⟨k3,h3⟩:=YO (a.den O+b.den O);refine ⟨k1+k2-s*k3,?_⟩;show yw O (jB s b (jB s a l))+JH s b (JH s a p)=_;rw [h2];simp only [E.den,Zm,h3,Int.mul_add,Int.sub_mul,Int.add_mul];rw [<-Int.mul_assoc s k3];omega;rename_i a' b' he;cases he;obtain ⟨k1,h1⟩:=iha s l p;obtain ⟨k2,h2⟩:=ihb (-s) (jB s a l) (JH s a p);obtain ⟨k3,h3⟩:=YO (a.den O-b.den O);refine ⟨k1+k2-s*k3,?_⟩;have e2:JH s (.bin .sub .i64 a b) p=JH (-s) b (JH s a p):=by show yI (-s) _=_;rw [sInt_eq]
  rw [sInt_eq,e2,h2];simp only [E.den,Zm,h3,Int.mul_add,Int.sub_mul,Int.add_mul,Int.mul_sub,Int.neg_mul];rw [<-Int.mul_assoc s k3];omega;rename_i a' n he;cases he;obtain ⟨k1,h1⟩:=iha (s*n) l p;obtain ⟨k3,h3⟩:=YO (a.den O*n);refine ⟨k1-s*k3,?_⟩;have e2:JH s (.bin .mul .i64 a (.lit n)) p=JH (s*n) a p:=by show yI (s*n) _=_;rw [sInt_eq]
  rw [sInt_eq,e2,h1];simp only [E.den,Zm,h3,Int.mul_add,Int.sub_mul];rw [Int.mul_assoc s n,Int.mul_comm n (a.den O),<-Int.mul_assoc s k3];omega;rename_i n b' hno he;cases he;obtain ⟨k1,h1⟩:=ihb (s*n) l p;obtain ⟨k3,h3⟩:=YO (n*b.den O);refine ⟨k1-s*k3,?_⟩;have e2:JH s (.bin .mul .i64 (.lit n) b) p=JH (s*n) b p:=by
   cases b with
   |lit m=>exact (hno m rfl).elim
   |_=>show yI (s*n) _=_;rw [sInt_eq]
  rw [sInt_eq,e2,h1];simp only [E.den,Zm,h3,Int.mul_add,Int.sub_mul];rw [Int.mul_assoc s n,<-Int.mul_assoc s k3];omega;rename_i n1 n2 n3 n4 n5;have e2:JH s (.bin op k a b) p=p:=by
   unfold JH;split;rename_i he;exact (n1 _ he).elim
   rename_i he;exact (n2 _ _ he).elim
   rename_i he;exact (n3 _ _ he).elim
   rename_i he;exact (n4 _ _ he).elim
   rename_i he;exact (n5 _ _ he).elim
   rfl
  exact ⟨0,by rw [e2,jC];omega⟩
 |_=>exact ⟨0,by show yw O (yu s _ l)+p=_;rw [jC];omega⟩
theorem Q4a {n:Nat->Prop} (e:E) (s:Int) (l:List (Int×E)) (he:e.ok n) (hl:Q26 n l):Q26 n (jB s e l):=by
 induction e generalizing s l with
 |lit m=>exact hl
 |bin op k a b iha ihb=>unfold jB;split;exact hl;rename_i a' b' h;cases h;exact ihb _ _ he.2 (iha _ _ he.1 hl);rename_i a' b' h;cases h;rw [sInt_eq];exact ihb _ _ he.2 (iha _ _ he.1 hl);rename_i a' m h;cases h;rw [sInt_eq];exact iha _ _ he.1 hl;rename_i m a' _ h;cases h;rw [sInt_eq];exact ihb _ _ he.2 hl;exact Q0y he hl
 |_=>exact Q0y he hl
theorem yY (O:Val):∀(l:List (Int×E)) (e:E),l≠[]->(Qcx l e).den O=IntKind.i64.wrap (e.den O+yw O l)
 |[],_,h=>absurd rfl h
 |(c,x)::r,e,_=>by
  have step:∀e' :E,e'.den O=IntKind.i64.wrap (e.den O+c*x.den O)->(Qcx r e').den O=IntKind.i64.wrap (e.den O+yw O ((c,x)::r)):=by
   intro e' he;cases hr:r with
   |nil=>rw [Qcx,he];simp [yw]
   |cons y r' =>rw [<-hr,yY O r e' (by rw [hr];exact List.cons_ne_nil _ _),he,JX];simp only [yw];rw [Int.add_assoc]
  unfold Qcx;cases h1:ieq c 1 with
  |true=>have:=Q6k h1;subst this;exact step _ (by simp only [E.den,Zm,Int.one_mul])
  |false=>
   simp only [cond_false];cases h2:ieq c (-1) with
   |true=>have:=Q6k h2;subst this;refine step _ ?_;simp only [E.den,Zm,Int.neg_mul,Int.one_mul];rfl
   |false=>refine step _ ?_;simp only [E.den,Zm];rw [Yk,Int.mul_comm]
theorem jD {n:Nat->Prop}:∀(l:List (Int×E)) (e:E),Q26 n l->e.ok n->(Qcx l e).ok n
 |[],_,_,he=>he
 |(c,x)::r,e,h,he=>by
  have hx:x.ok n:=h (c,x) (by simp);have hr:Q26 n r:=λq hq=>h q (by simp [hq])
  unfold Qcx;cases ieq c 1 with
  |true=>exact jD r _ hr ⟨he,hx⟩
  |false=>cases ieq c (-1) with
   |true=>exact jD r _ hr ⟨he,hx⟩
   |false=>exact jD r _ hr ⟨he,hx,trivial⟩
theorem Q4b (O:Val) (l:List (Int×E)) (p:Int):(Qhk l p).den O=IntKind.i64.wrap (yw O l+p):=by
 unfold Qhk;split;simp only [E.litS_eq,wrapK_eq,E.den,yw,Int.zero_add];rename_i c x r;cases h1:ieq c 1 with
 |true=>
  have:=Q6k h1;subst this;simp only [cond_true,sInt_eq,wrapK_eq,yw,Int.one_mul];split;simp only [E.den,Zm,yw,Int.add_zero];rw [Yk];rename_i y r';cases h2:ieq (IntKind.i64.wrap p) 0 with
  |true=>have h0:=Q6k h2;simp only [cond_true];rw [yY O _ _ (List.cons_ne_nil _ _),<-Yk (x.den O+yw O (y::r')) p,h0,Int.add_zero]
  |false=>simp only [cond_false,E.den,Zm];rw [yY O _ _ (List.cons_ne_nil _ _),Yk,JX]
 |false=>simp only [cond_false,sInt_eq,wrapK_eq];rw [yY O _ _ (List.cons_ne_nil _ _)];simp only [E.den];rw [JX,Int.add_comm]
theorem Qeh {n:Nat->Prop} {l:List (Int×E)} {p:Int} (h:Q26 n l):(Qhk l p).ok n:=by
 unfold Qhk;split;rw [E.litS_eq];trivial;rename_i c x r;have hx:x.ok n:=h (c,x) (by simp);have hr:Q26 n r:=λq hq=>h q (by simp [hq])
 cases ieq c 1 with
 |true=>
  simp only [cond_true,sInt_eq];split;exact ⟨hx,trivial⟩;cases ieq (Y2 .i64 p) 0 with
  |true=>exact jD _ _ hr hx
  |false=>exact ⟨jD _ _ hr hx,trivial⟩
 |false=>simp only [cond_false,sInt_eq];exact jD _ _ h trivial
theorem Qae (O:Val) (l:List (Int×E)):∃k:Int,(linT l).den O=yw O l+k*18446744073709551616:=by
 have gen:∀l,∃k:Int,(Qhk l 0).den O=yw O l+k*18446744073709551616:=λl=>by rw [Q4b,Int.add_zero];exact YO _
 unfold linT;split;rename_i c x;cases h1:ieq c 1 with
 |true=>have:=Q6k h1;subst this;exact ⟨0,by simp [yw]⟩
 |false=>exact gen [(c,x)]
 exact gen _
theorem Q6d (n:Nat->Prop):Q26 n []:=λ_ h=>by cases h
theorem Q3t (O:Val) (s t:Int) (a b:E):∃k:Int,yw O (jB t b (jB s a []))+JH t b (JH s a 0)=s*a.den O+t*b.den O+k*18446744073709551616:=by obtain ⟨k1,h1⟩:=Qeg O a s [] 0;obtain ⟨k2,h2⟩:=Qeg O b t (jB s a []) (JH s a 0);refine ⟨k1+k2,?_⟩;rw [h2];simp only [yw] at h1;omega
theorem E.Q59 {a b:E} {O:Val}:(E.Qm2 a b).den O=Zm .add .i64 (a.den O) (b.den O):=by obtain ⟨k,h⟩:=Q3t O 1 1 a b;unfold E.Qm2;rw [Q4b,h,jU];simp only [Zm,Int.one_mul]
theorem E.Q9u {a b:E} {O:Val}:(E.Qlp a b).den O=Zm .sub .i64 (a.den O) (b.den O):=by obtain ⟨k,h⟩:=Q3t O 1 (-1) a b;unfold E.Qlp;rw [Q4b,h,jU];simp only [Zm,Int.one_mul,Int.neg_mul];rfl
theorem E.Q9l {n:Nat->Prop} {a b:E} (ha:a.ok n) (hb:b.ok n):(E.Qm2 a b).ok n:=Qeh (Q4a _ _ _ hb (Q4a _ _ _ ha (Q6d n)))
theorem E.Qd8 {n:Nat->Prop} {a b:E} (ha:a.ok n) (hb:b.ok n):(E.Qlp a b).ok n:=Qeh (Q4a _ _ _ hb (Q4a _ _ _ ha (Q6d n)))
noncomputable def E.diff (a b:E):Bool×E×Int:=
 match jB (-1) b (jB 1 a []) with
 |[]=>yI (JH (-1) b (JH 1 a 0)) λp=>(false, .lit 0,p)
 |(c,x)::r=>bif ilt c 0 then yI (-(JH (-1) a (JH 1 b 0))) λp=>(true,linT (jB (-1) a (jB 1 b [])),p) else yI (JH (-1) b (JH 1 a 0)) λp=>(false,linT ((c,x)::r),p)
def sgn (g:Bool) (x p:Int):Int:=bif g then p-x else x+p
theorem E.Qhy {a b x:E} {g:Bool} {p:Int} (h:E.diff a b=(g,x,p)) (O:Val):∃k:Int,a.den O-b.den O=sgn g (x.den O) p+k*18446744073709551616:=by
 obtain ⟨k,hk⟩:=Q3t O 1 (-1) a b;simp only [Int.one_mul,Int.neg_mul] at hk;unfold E.diff at h;split at h;rename_i hl;rw [sInt_eq] at h;cases h;rw [hl] at hk;simp only [yw] at hk;refine ⟨-k,?_⟩;simp only [sgn,cond_false,E.den];omega;rename_i c y r hl;cases hc:ilt c 0 with
 |true=>rw [hc] at h;simp only [cond_true,sInt_eq] at h;cases h;obtain ⟨k2,h2⟩:=Qae O (jB (-1) a (jB 1 b []));obtain ⟨k3,h3⟩:=Q3t O 1 (-1) b a;simp only [Int.one_mul,Int.neg_mul] at h3;refine ⟨k3+k2,?_⟩;simp only [sgn,cond_true,h2];omega
 |false=>rw [hc] at h;simp only [cond_false,sInt_eq] at h;cases h;obtain ⟨k2,h2⟩:=Qae O ((c,y)::r);rw [hl] at hk;refine ⟨-k-k2,?_⟩;simp only [sgn,cond_false,h2];omega
def Iv.sh (v:Iv) (g:Bool) (p:Int):Iv:=
 match v.lo,v.hi with
 |some l,some h=>bif g then ⟨some (p-h),some (p-l)⟩ else ⟨some (l+p),some (h+p)⟩
 |_,_=> .all
theorem Iv.Qdn {v:Iv} {g:Bool} {p x:Int} (h:v.has x):(v.sh g p).has (sgn g x p):=by
 unfold Iv.sh;split;rename_i l u e1 e2;have h1:=h.1 _ e1;have h2:=h.2 _ e2;cases g with
 |true=>exact ⟨λq hq=>by cases hq;simp only [sgn,cond_true];omega,λq hq=>by cases hq;simp only [sgn,cond_true];omega⟩
 |false=>exact ⟨λq hq=>by cases hq;simp only [sgn,cond_false];omega,λq hq=>by cases hq;simp only [sgn,cond_false];omega⟩
 exact Iv.QK _
def Iv.mid (v:Iv):Bool:=
 match v.lo,v.hi with
 |some l,some h=>ile (-9223372036854775808) l&&ile h 9223372036854775807
 |_,_=>false
theorem Iv.Q6a {v:Iv} {x:Int} (h:v.mid=true) (hx:v.has x):-9223372036854775808<=x/\x<=9223372036854775807:=by unfold Iv.mid at h;split at h;rename_i l u e1 e2;simp only [Bool.and_eq_true,QO] at h;have h1:=hx.1 _ e1;have h2:=hx.2 _ e2;omega;cases h
def Iv.minus (A B:Iv):Iv:=
 match A.lo,A.hi,B.lo,B.hi with
 |some la,some ha,some lb,some hb=>⟨some (la-hb),some (ha-lb)⟩
 |_,_,_,_=> .all
theorem Iv.Qed {A B:Iv} {x y:Int} (h1:A.has x) (h2:B.has y):(A.minus B).has (x-y):=by unfold Iv.minus;split;rename_i e1 e2 e3 e4;have:=h1.1 _ e1;have:=h1.2 _ e2;have:=h2.1 _ e3;have:=h2.2 _ e4;exact ⟨λq hq=>by cases hq;omega,λq hq=>by cases hq;omega⟩;exact Iv.QK _
def Iv.within (v:Iv) (k:IntKind):Bool:=
 match v.lo,v.hi with
 |some l,some h=>ile (kLo k) l&&ile h (kHi k)
 |_,_=>false
theorem Iv.jV {v:Iv} {k:IntKind} {x:Int} (h:v.within k=true) (hx:v.has x):k.wrap x=x:=by unfold Iv.within at h;split at h;rename_i l u e1 e2;simp only [Bool.and_eq_true,QO] at h;have h1:=hx.1 _ e1;have h2:=hx.2 _ e2;exact wrap_within (by omega) (by omega);cases h
def E.base:E->E×Int
 | .bin .add .i64 x (.lit p)=>(x,p)
 |e=>(e,0)
theorem E.Jm {c:Facts} {n:Nat->Prop} {O:Val} (hc:c.okN n O) (a:E) (h:(E.iv c a.base.1).fits a.base.2=true):a.den O=a.base.1.den O+a.base.2:=by unfold E.base at h ⊢;split;rename_i x p;simp only [E.den,Zm];exact Iv.ZQ h (E.Qb hc x);simp
def E.byBase (c:Facts) (op:Int->Int->Bool) (a b:E):Option Bool:=
 match a.base,b.base with
 |(x,p),(y,q)=>bif x.same y&&((E.iv c x).fits p&&(E.iv c x).fits q) then some (op p q) else none
theorem E.yB {n:Nat->Prop} {c:Facts} {op:Int->Int->Bool} {a b:E} {r:Bool} {O:Val} (h:E.byBase c op a b=some r) (hc:c.okN n O):∃x p q,a.den O=x+p/\b.den O=x+q/\op p q=r:=by
 unfold E.byBase at h;split at h;rename_i x p y q ha hb';cases hb:(x.same y&&((E.iv c x).fits p&&(E.iv c x).fits q)) with
 |false=>rw [hb] at h;cases h
 |true=>rw [hb] at h;simp only [cond_true,Option.some.injEq] at h;simp only [Bool.and_eq_true] at hb;obtain ⟨h1,h2,h3⟩:=hb;have e:x=y:=E.Q5 h1;refine ⟨x.den O,p,q,?_,?_,h⟩;have:=E.Jm (O:=O) hc a (by rw [ha];exact h2);rw [ha] at this;exact this;have:=E.Jm (O:=O) hc b (by rw [hb',<-e];exact h3);rw [hb',<-e] at this;exact this
def E.mnLe (a b:E):Bool:=
 match a with
 | .mn x y=>x.same b||y.same b
 |_=>false
theorem E.Qc2 {a b:E} {O:Val} (h:a.mnLe b=true):a.den O<=b.den O:=by unfold E.mnLe at h;split at h;rename_i x y;rw [Bool.or_eq_true] at h;simp only [E.den];rcases h with h|h;rw [<-E.Q5 h];omega;rw [<-E.Q5 h];omega;cases h
def Iv.trim (v:Iv) (n:Int):Iv:=⟨match v.lo with|some l=>bif ieq l n then some (l+1) else some l|none=>none,match v.hi with|some h=>bif ieq h n then some (h-1) else some h|none=>none⟩
theorem Iv.Qgk {v:Iv} {n x:Int} (h:v.has x) (hx:x≠n):(v.trim n).has x:=by
 refine ⟨λl hl=>?_,λu hu=>?_⟩;simp only [Iv.trim] at hl;split at hl;rename_i l0 h0;have:=h.1 _ h0;rw [qD] at hl;cases hb:(l0==n) with
 |true=>rw [hb] at hl;cases hl;have:l0=n:=by simpa using hb
        omega
 |false=>rw [hb] at hl;cases hl;exact this
 cases hl;simp only [Iv.trim] at hu;split at hu;rename_i l0 h0;have:=h.2 _ h0;rw [qD] at hu;cases hb:(l0==n) with
 |true=>rw [hb] at hu;cases hu;have:l0=n:=by simpa using hb
        omega
 |false=>rw [hb] at hu;cases hu;exact this
 cases hu
def Fact.cut (e:E) (f:Fact) (v:Iv):Iv:=
 match f.equal with
 |some (x, .lit n,false)=>bif x.same e then v.trim n else v
 |_=>v
theorem Fact.Ql4 {e:E} {f:Fact} {v:Iv} {O:Val} (hf:f.ok O) (hv:v.has (e.den O)):(f.cut e v).has (e.den O):=by
 unfold Fact.cut;split;rename_i x m he;cases hs:x.same e with
 |false=>exact hv
 |true=>have:=Fact.QC he hf;rw [E.Q5 hs] at this;exact Iv.Qgk hv (of_decide_eq_false this)
 exact hv
def Facts.edge (e:E):Facts->Iv->Iv
 |[],v=>v
 |f::c,v=>Facts.edge e c (f.cut e v)
theorem Facts.Q36 {n:Nat->Prop} {e:E} {O:Val}:∀{c:Facts} {v:Iv},c.okN n O->v.has (e.den O)->(Facts.edge e c v).has (e.den O)
 |[],_,_,hv=>hv
 |f::c,v,hc,hv=>by
  show (Facts.edge e c (f.cut e v)).has (e.den O)
  exact Facts.Q36 (λg hg=>hc g (by simp [hg])) (Fact.Ql4 (hc f (by simp)).1 hv)
def E.ivT (c:Facts) (e:E):Iv:=Facts.edge e c (E.iv c e)
theorem E.Yp {n:Nat->Prop} {c:Facts} {O:Val} (hc:c.okN n O) (e:E):(e.ivT c).has (e.den O):=Facts.Q36 hc (E.Qb hc e)
noncomputable def E.dIv (c:Facts) (a b:E):Iv:=
 bif ((E.iv c a).minus (E.iv c b)).mid then
  match E.diff a b with
  |(g,x,p)=>bif ((E.ivT c x).sh g p).mid then (E.ivT c x).sh g p else .all
 else .all
theorem jK {n:Nat->Prop} {c:Facts} {O:Val} (hc:c.okN n O) {a b x:E} {g:Bool} {p:Int} (h1:((E.iv c a).minus (E.iv c b)).mid=true) (h2:E.diff a b=(g,x,p)) (h3:((E.ivT c x).sh g p).mid=true):
 a.den O-b.den O=sgn g (x.den O) p:=by
 obtain ⟨k,hk⟩:=E.Qhy h2 O;have e1:=Iv.Q6a h1 (Iv.Qed (E.Qb hc a) (E.Qb hc b));have e2:=Iv.Q6a h3 (Iv.Qdn (g:=g) (p:=p) (E.Yp hc x));omega
theorem E.YJ {n:Nat->Prop} {c:Facts} {O:Val} (hc:c.okN n O) (a b:E):(E.dIv c a b).has (a.den O-b.den O):=by
 unfold E.dIv;cases h1:((E.iv c a).minus (E.iv c b)).mid with
 |false=>exact Iv.QK _
 |true=>
  simp only [cond_true];rcases h2:E.diff a b with ⟨g,x,p⟩;simp only;cases h3:((E.ivT c x).sh g p).mid with
  |false=>exact Iv.QK _
  |true=>rw [jK hc h1 h2 h3];exact Iv.Qdn (E.Yp hc x)
noncomputable def E.ivL (c:Facts) (e:E):Iv:=(E.iv c e).meet (E.dIv c e (.lit 0))
theorem E.Q6g {n:Nat->Prop} {c:Facts} {O:Val} (hc:c.okN n O) (e:E):(E.ivL c e).has (e.den O):=by refine Iv.Zt (E.Qb hc e) ?_;have:=E.YJ hc e (.lit 0);simpa only [E.den,Int.sub_zero] using this
def Iv.Qh5 (A B:Iv):Iv:=⟨match A.lo,B.lo with|some a,some b=>some (a+b)|_,_=>none,match A.hi,B.hi with|some a,some b=>some (a+b)|_,_=>none⟩
theorem Iv.Qe1 {A B:Iv} {x y:Int} (h1:A.has x) (h2:B.has y):(A.Qh5 B).has (x+y):=by obtain ⟨al,ah⟩:=A;obtain ⟨bl,bh⟩:=B;refine ⟨λl e=>?_,λu e=>?_⟩;cases al<;>cases bl<;>simp only [Iv.Qh5,Option.some.injEq,reduceCtorEq] at e;have:=h1.1 _ rfl;have:=h2.1 _ rfl;omega;cases ah<;>cases bh<;>simp only [Iv.Qh5,Option.some.injEq,reduceCtorEq] at e;have:=h1.2 _ rfl;have:=h2.2 _ rfl;omega
noncomputable def E.viaT (c:Facts) (x t:E):Iv:=(E.dIv c x t).Qh5 (E.ivL c t)
theorem E.Q9p {n:Nat->Prop} {c:Facts} {O:Val} (hc:c.okN n O) (x t:E):(E.viaT c x t).has (x.den O):=by
 have:=Iv.Qe1 (E.YJ hc x t) (E.Q6g hc t)
 rwa [Int.sub_add_cancel] at this
noncomputable def Facts.two (c:Facts) (x:E):Facts->Iv
 |[]=> .all
 |f::r=>Iv.meet (match f.b,f.a with
  | .lit _, .bin o k a b=>(E.viaT c x (.bin o k a b)).meet (E.viaT c x (E.Qlp (.lit 0) (.bin o k a b)))
  |_,_=> .all) (Facts.two c x r)
theorem Facts.Qd1 {n:Nat->Prop} {c:Facts} {O:Val} (hc:c.okN n O) (x:E):∀l:Facts,(Facts.two c x l).has (x.den O)
 |[]=>Iv.QK _
 |f::r=>by unfold Facts.two;refine Iv.Zt ?_ (Facts.Qd1 hc x r);split;exact Iv.Zt (E.Q9p hc _ _) (E.Q9p hc _ _);exact Iv.QK _
noncomputable def E.dIv2 (c:Facts) (a b:E):Iv:=
 bif ((E.iv c a).minus (E.iv c b)).mid then
  match E.diff a b with
  |(g,x,p)=>bif ((E.ivT c x).sh g p).mid then ((E.ivT c x).meet (Facts.two c x c)).sh g p else .all
 else .all
theorem E.Qay {n:Nat->Prop} {c:Facts} {O:Val} (hc:c.okN n O) (a b:E):(E.dIv2 c a b).has (a.den O-b.den O):=by
 unfold E.dIv2;cases h1:((E.iv c a).minus (E.iv c b)).mid with
 |false=>exact Iv.QK _
 |true=>
  simp only [cond_true];rcases h2:E.diff a b with ⟨g,x,p⟩;simp only;cases h3:((E.ivT c x).sh g p).mid with
  |false=>exact Iv.QK _
  |true=>rw [jK hc h1 h2 h3];exact Iv.Qdn (Iv.Zt (E.Yp hc x) (Facts.Qd1 hc x c))
noncomputable def E.dEq (c:Facts) (a b:E):Option Bool:=
 match (E.dIv c a b).equal ⟨some 0,some 0⟩ with
 |some r=>some r
 |none=>bif ((E.iv c a).minus (E.iv c b)).mid then
  match E.diff a b with
  |(g,x,p)=>bif ((E.ivT c x).sh g p).mid then yI (bif g then p else-p) λq=>Facts.Y1 x (.lit q) c else none
  else none
theorem yS:(⟨some 0,some 0⟩:Iv).has 0:=⟨λl h=>(by cases h;exact Int.le_refl 0),λl h=>(by cases h;exact Int.le_refl 0)⟩
theorem E.Qfd {n:Nat->Prop} {c:Facts} {a b:E} {r:Bool} {O:Val} (h:E.dEq c a b=some r) (hc:c.okN n O):decide (a.den O=b.den O)=r:=by
 unfold E.dEq at h;split at h;rename_i q hq;cases h;have:=Iv.QC hq (E.YJ (O:=O) hc a b) yS;rw [<-this];simp only [decide_eq_decide];omega;cases h1:((E.iv c a).minus (E.iv c b)).mid with
 |false=>rw [h1] at h;cases h
 |true=>
  rw [h1] at h;simp only [cond_true] at h;rcases h2:E.diff a b with ⟨g,x,p⟩;rw [h2] at h;simp only at h;cases h3:((E.ivT c x).sh g p).mid with
  |false=>rw [h3] at h;cases h
  |true=>
   rw [h3] at h;simp only [cond_true,sInt_eq] at h;have e:=jK (O:=O) hc h1 h2 h3;have f:=Facts.Yq h hc;rw [<-f,Bool.eq_iff_iff,decide_eq_true_eq,decide_eq_true_eq];simp only [E.den];cases g with
   |true=>simp only [sgn,cond_true] at e ⊢;omega
   |false=>simp only [sgn,cond_false] at e ⊢;omega
noncomputable def E.Qdw (c:Facts) (a b:E):Option Bool:=
 match a.base,b.base with
 |(.bin .rem .i64 x (.lit (.ofNat m)),p),(.bin .rem .i64 y (.lit (.ofNat n)),q)=>
  bif (Nat.beq m n&&Nat.blt 0 m)&&(ieq p q&&((E.iv c (.bin .rem .i64 x (.lit (.ofNat m)))).fits p&&(E.iv c (.bin .rem .i64 y (.lit (.ofNat n)))).fits q)) then
   match (E.iv c x).lo,(E.iv c y).lo,(E.dIv c x y).lo,(E.dIv c x y).hi with
   |some (.ofNat _),some (.ofNat _),some l,some h=>bif ieq l h then some (ieq (l.emod (.ofNat m)) 0)
    else bif (ilt 0 l&&ilt h (.ofNat m))||(ilt h 0&&ilt (-(.ofNat m)) l) then some false else none
   |_,_,_,_=>none
  else none
 |_,_=>none
theorem E.Q62 {n:Nat->Prop} {c:Facts} {a b:E} {r:Bool} {O:Val} (h:E.Qdw c a b=some r) (hc:c.okN n O):decide (a.den O=b.den O)=r:=by
 unfold E.Qdw at h;split at h;rename_i x m p y m' q ha hb;cases h1:((Nat.beq m m' &&Nat.blt 0 m)&&(ieq p q&&((E.iv c (.bin .rem .i64 x (.lit (.ofNat m)))).fits p&&(E.iv c (.bin .rem .i64 y (.lit (.ofNat m')))).fits q))) with
 |false=>rw [h1] at h;cases h
 |true=>
  rw [h1] at h;simp only [cond_true] at h;simp only [Bool.and_eq_true,Nat.beq_eq] at h1;obtain ⟨⟨h1,h2⟩,h3,h4,h5⟩:=h1;subst h1;have h3:=Q6k h3;subst h3;have h2:0<m:=by have h2' :1<=m:=(by simpa [Nat.blt] using h2);omega
  split at h;rename_i lx ly l u e1 e2 e3 e4;have d1:=(E.YJ (O:=O) hc x y).1 _ e3
  have d2:=(E.YJ (O:=O) hc x y).2 _ e4
  have f1:=(E.Qb (O:=O) hc x).1 _ e1
  have f2:=(E.Qb (O:=O) hc y).1 _ e2
  have ga:=E.Jm (O:=O) hc a (by rw [ha];exact h4);have gb:=E.Jm (O:=O) hc b (by rw [hb];exact h5);rw [ha] at ga;rw [hb] at gb;simp only [E.den,Zm] at ga gb;have z1:(0:Int)<=x.den O:=Int.le_trans (Int.natCast_nonneg lx) f1;have z2:(0:Int)<=y.den O:=Int.le_trans (Int.natCast_nonneg ly) f2;have r1:(x.den O).tmod (Int.ofNat m)=x.den O%(m:Int):=Int.tmod_eq_emod_of_nonneg z1
  have r2:(y.den O).tmod (Int.ofNat m)=y.den O%(m:Int):=Int.tmod_eq_emod_of_nonneg z2
  rw [r1] at ga;rw [r2] at gb;have key:=Int.emod_eq_emod_iff_emod_sub_eq_zero (m:=x.den O) (n:=(m:Int)) (k:=y.den O);have key:x.den O%(m:Int)=y.den O%(m:Int)↔(x.den O-y.den O).emod (Int.ofNat m)=0:=key
  cases h6:ieq l u with
  |false=>
   rw [h6] at h;simp only [cond_false] at h;cases h7:(ilt 0 l&&ilt u (.ofNat m))||(ilt u 0&&ilt (-(.ofNat m)) l) with
   |false=>rw [h7] at h;cases h
   |true=>
    rw [h7] at h;simp only [cond_true,Option.some.injEq] at h;subst h;simp only [JI,Bool.or_eq_true,Bool.and_eq_true,decide_eq_true_eq] at h7;have hne:¬x.den O%(m:Int)=y.den O%(m:Int):=by
     intro he;have h8:(m:Int) ∣ (x.den O-y.den O):=Int.dvd_of_emod_eq_zero (key.1 he);have hm:(Int.ofNat m)=(m:Int):=rfl;rw [hm] at h7;rcases h7 with ⟨q1,q2⟩|⟨q1,q2⟩;have:=Int.le_of_dvd (by omega) h8;omega;have h9:(m:Int) ∣ (y.den O-x.den O):=by
      have:=(Int.dvd_neg).2 h8
      rwa [Int.neg_sub] at this
     have:=Int.le_of_dvd (by omega) h9;omega
    rw [decide_eq_false_iff_not,ga,gb];omega
  |true=>
   rw [h6] at h;have:=Q6k h6;subst this;simp only [cond_true,Option.some.injEq] at h;have hl:l=x.den O-y.den O:=by omega
   rw [Bool.eq_iff_iff,decide_eq_true_eq,<-h,qD,beq_iff_eq,ga,gb,hl];rw [<-key];omega
  cases h
 cases h
noncomputable def E.Qa4 (c:Facts) (a b:E):Option Bool:=
 match a with
 | .bin .rem .i64 x (.lit (.ofNat m))=>
  match (E.iv c x).lo,(E.iv c b).lo,(E.iv c b).hi,(E.dIv c x b).lo,(E.dIv c x b).hi with
  |some (.ofNat _),some (.ofNat _),some (.ofNat u),some l,some h=>bif Nat.blt u m&&((ilt 0 l&&ilt h (.ofNat m))||(ilt h 0&&ilt (-(.ofNat m)) l)) then some false else none
  |_,_,_,_,_=>none
 |_=>none
theorem E.jY {n:Nat->Prop} {c:Facts} {a b:E} {r:Bool} {O:Val} (h:E.Qa4 c a b=some r) (hc:c.okN n O):decide (a.den O=b.den O)=r:=by
 unfold E.Qa4 at h;split at h;rename_i x m;split at h;rename_i lx lb u l hh e1 e2 e3 e4 e5;cases h6:Nat.blt u m&&((ilt 0 l&&ilt hh (.ofNat m))||(ilt hh 0&&ilt (-(.ofNat m)) l)) with
 |false=>rw [h6] at h;cases h
 |true=>
  rw [h6] at h;simp only [cond_true,Option.some.injEq] at h;subst h;have d1:=(E.YJ (O:=O) hc x b).1 _ e4
  have d2:=(E.YJ (O:=O) hc x b).2 _ e5
  have f1:=(E.Qb (O:=O) hc x).1 _ e1
  have f2:=(E.Qb (O:=O) hc b).1 _ e2
  have f3:=(E.Qb (O:=O) hc b).2 _ e3
  simp only [JI,Bool.or_eq_true,Bool.and_eq_true,decide_eq_true_eq] at h6;have hum:u<m:=by have h' :u+1<=m:=(by have:=h6.1;simpa [Nat.blt] using this);omega
  have h7:=h6.2;have hm:(Int.ofNat m)=(m:Int):=rfl;have hu:(Int.ofNat u)=(u:Int):=rfl;have hlb:(Int.ofNat lb)=(lb:Int):=rfl;have hlx:(Int.ofNat lx)=(lx:Int):=rfl;rw [hm] at h7;rw [hu] at f3;rw [hlb] at f2;rw [hlx] at f1;rw [decide_eq_false_iff_not];have z1:(0:Int)<=x.den O:=by omega
  have r1:(x.den O).tmod (Int.ofNat m)=x.den O%(m:Int):=Int.tmod_eq_emod_of_nonneg z1
  intro he;have he:(x.den O).tmod (Int.ofNat m)=b.den O:=he
  rw [r1] at he;have hb:b.den O%(m:Int)=b.den O:=Int.emod_eq_of_lt (by omega) (by omega);rw [<-hb] at he;have key:=Int.emod_eq_emod_iff_emod_sub_eq_zero (m:=x.den O) (n:=(m:Int)) (k:=b.den O);have h8:(m:Int) ∣ (x.den O-b.den O):=Int.dvd_of_emod_eq_zero (key.1 he);rcases h7 with ⟨q1,q2⟩|⟨q1,q2⟩;have:=Int.le_of_dvd (by omega) h8;omega;have h9:(m:Int) ∣ (b.den O-x.den O):=by
   have:=(Int.dvd_neg).2 h8
   rwa [Int.neg_sub] at this
  have:=Int.le_of_dvd (by omega) h9;omega
 cases h;cases h
noncomputable def E.Qjz (c:Facts) (a b:E):Option Bool:=
 match E.Qdw c a b with
 |some r=>some r
 |none=>match E.Qa4 c a b with
  |some r=>some r
  |none=>E.Qa4 c b a
theorem E.Q8i {n:Nat->Prop} {c:Facts} {a b:E} {r:Bool} {O:Val} (h:E.Qjz c a b=some r) (hc:c.okN n O):decide (a.den O=b.den O)=r:=by unfold E.Qjz at h;split at h;rename_i hf;cases h;exact E.Q62 hf hc;split at h;rename_i hf;cases h;exact E.jY hf hc;have:=E.jY (O:=O) h hc;rw [<-this];simp only [decide_eq_decide];exact eq_comm
noncomputable def E.less (c:Facts) (a b:E):Option Bool:=
 match Facts.Jh a b c with
 |some r=>some r
 |none=>match (E.iv c a).less (E.iv c b) with
  |some r=>some r
  |none=>match E.byBase c ilt a b with
   |some r=>some r
   |none=>bif b.mnLe a then some false else match (E.ivT c a).less (E.ivT c b) with
    |some r=>some r
    |none=>match (E.dIv c a b).less ⟨some 0,some 0⟩ with
     |some r=>some r
     |none=>(E.dIv2 c a b).less ⟨some 0,some 0⟩
theorem E.Qr {n:Nat->Prop} {c:Facts} {a b:E} {r:Bool} {O:Val} (h:E.less c a b=some r) (hc:c.okN n O):decide (a.den O<b.den O)=r:=by
 unfold E.less at h;split at h;rename_i hf;cases h;exact Facts.qF hf hc;split at h;rename_i hf;cases h;exact Iv.Qr hf (E.Qb hc a) (E.Qb hc b);split at h;rename_i q hq;cases h;obtain ⟨x,p,q,e1,e2,e3⟩:=E.yB hq hc;rw [e1,e2,<-e3,JI];simp only [decide_eq_decide];omega;cases hm:b.mnLe a with
 |true=>rw [hm] at h;cases h;have:=E.Qc2 (O:=O) hm;simp only [decide_eq_false_iff_not];omega
 |false=>rw [hm] at h;simp only [cond_false] at h;split at h;rename_i hf;cases h;exact Iv.Qr hf (E.Yp hc a) (E.Yp hc b);split at h;rename_i hf;cases h;have:=Iv.Qr hf (E.YJ (O:=O) hc a b) yS;rw [<-this];simp only [decide_eq_decide];omega;have:=Iv.Qr h (E.Qay (O:=O) hc a b) yS;rw [<-this];simp only [decide_eq_decide];omega
noncomputable def E.equal (c:Facts) (a b:E):Option Bool:=
 match Facts.Y1 a b c with
 |some r=>some r
 |none=>match (E.iv c a).equal (E.iv c b) with
  |some r=>some r
  |none=>match E.byBase c ieq a b with
   |some r=>some r
   |none=>match (E.ivT c a).equal (E.ivT c b) with
    |some r=>some r
    |none=>match E.dEq c a b with
     |some r=>some r
     |none=>match E.Qjz c a b with
      |some r=>some r
      |none=>(E.dIv2 c a b).equal ⟨some 0,some 0⟩
theorem E.QC {n:Nat->Prop} {c:Facts} {a b:E} {r:Bool} {O:Val} (h:E.equal c a b=some r) (hc:c.okN n O):decide (a.den O=b.den O)=r:=by unfold E.equal at h;split at h;rename_i hf;cases h;exact Facts.Yq hf hc;split at h;rename_i hf;cases h;exact Iv.QC hf (E.Qb hc a) (E.Qb hc b);split at h;rename_i q hq;cases h;obtain ⟨x,p,q,e1,e2,e3⟩:=E.yB hq hc;rw [e1,e2,<-e3,qD,Bool.eq_iff_iff];simp only [decide_eq_true_eq,beq_iff_eq];omega;split at h;rename_i hf;cases h;exact Iv.QC hf (E.Yp hc a) (E.Yp hc b);split at h;rename_i hf;cases h;exact E.Qfd hf hc;split at h;rename_i hf;cases h;exact E.Q8i hf hc;have:=Iv.QC h (E.Qay (O:=O) hc a b) yS;rw [<-this];simp only [decide_eq_decide];omega
def Qn2:Option Bool->Option Bool
 |some b=>some (!b)
 |none=>none
theorem Q0u {o:Option Bool} {r:Bool} (h:Qn2 o=some r):o=some (!r):=by cases o<;>simp [Qn2] at h;subst h;simp
noncomputable def E.cmpS (c:Facts) (op:BinOp) (a b:E):Option Bool:=
 bif a.same b&&Q6i op then some (Qo7 op 0 0) else
 match op with
 | .eql=>E.equal c a b
 | .neq=>Qn2 (E.equal c a b)
 | .lss=>E.less c a b
 | .leq=>Qn2 (E.less c b a)
 | .gtr=>E.less c b a
 | .geq=>Qn2 (E.less c a b)
 |_=>none
theorem Qfm (op:BinOp) (x:Int):Y3 op x x=Y3 op 0 0:=by cases op<;>simp [Y3]
theorem E.Qck {n:Nat->Prop} {c:Facts} {op:BinOp} {a b:E} {r:Bool} {O:Val} (h:E.cmpS c op a b=some r) (hc:c.okN n O):Y3 op (a.den O) (b.den O)=r:=by
 unfold E.cmpS at h;cases hs:(E.same a b&&Q6i op) with
 |true=>rw [hs] at h;simp only [Bool.and_eq_true] at hs;simp only [cond_true,Option.some.injEq] at h;rw [E.Q5 hs.1,Qfm,<-h,Qfn]
 |false=>
  rw [hs] at h;simp only [cond_false] at h;cases op<;>simp only [reduceCtorEq] at h
  case eql=>have:=E.QC h hc;rw [<-this];simp only [Y3];rw [Bool.eq_iff_iff];simp
  case neq=>have:=E.QC (Q0u h) hc;simp only [Y3];cases r<;>simp at this ⊢<;>exact this
  case lss=>exact E.Qr h hc
  case leq=>have:=E.Qr (Q0u h) hc;simp only [Y3];cases r<;>simp at this ⊢<;>omega
  case gtr=>exact E.Qr h hc
  case geq=>have:=E.Qr (Q0u h) hc;simp only [Y3];cases r<;>simp at this ⊢<;>omega
structure Ctx where
 fs:Facts
 vs:List Nat
def Ctx.okN (d:Nat->Prop) (O:Val) (c:Ctx):Prop:=(∀i∈c.vs,d i)/\c.fs.okN d O
def Ctx.add (c:Ctx) (f:Fact):Ctx:=⟨f::c.fs,c.vs⟩
def E.okB (vs:List Nat):E->Bool
 | .lit _=>true
 | .var i=>vs.any (Nat.beq i)
 | .len i=>vs.any (Nat.beq i)
 | .byte i a=>vs.any (Nat.beq i)&&a.okB vs
 | .bin _ _ a b=>a.okB vs&&b.okB vs
 | .cnv _ a=>a.okB vs
 | .pk _ a=>a.okB vs
 | .cons a t=>a.okB vs&&t.okB vs
 | .tv i lo hi t=>vs.any (Nat.beq i)&&lo.okB vs&&hi.okB vs&&t.okB vs
 | .fn _ t=>t.okB vs
 | .mn a b=>a.okB vs&&b.okB vs
theorem any_beq {i:Nat} {vs:List Nat} (h:vs.any (Nat.beq i)=true):i∈vs:=by
 obtain ⟨j,hj,he⟩:=List.any_eq_true.1 h;have:i=j:=by simpa using he
 subst this;exact hj
theorem E.ZF {d:Nat->Prop} {vs:List Nat} (hv:∀i∈vs,d i):∀{e:E},e.okB vs=true->e.ok d
 | .lit _,_=>trivial
 | .var _,h=>hv _ (any_beq h)
 | .len _,h=>hv _ (any_beq h)
 | .byte _ _,h=>by simp only [E.okB,Bool.and_eq_true] at h;exact ⟨hv _ (any_beq h.1),E.ZF hv h.2⟩
 | .bin _ _ _ _,h=>by simp only [E.okB,Bool.and_eq_true] at h;exact ⟨E.ZF hv h.1,E.ZF hv h.2⟩
 | .cnv _ a,h=>E.ZF (e:=a) hv h
 | .pk _ a,h=>E.ZF (e:=a) hv h
 | .cons _ _,h=>by simp only [E.okB,Bool.and_eq_true] at h;exact ⟨E.ZF hv h.1,E.ZF hv h.2⟩
 | .tv _ _ _ _,h=>by simp only [E.okB,Bool.and_eq_true] at h;exact ⟨hv _ (any_beq h.1.1.1),E.ZF hv h.1.1.2,E.ZF hv h.1.2,E.ZF hv h.2⟩
 | .fn _ t,h=>E.ZF (e:=t) hv h
 | .mn _ _,h=>by simp only [E.okB,Bool.and_eq_true] at h;exact ⟨E.ZF hv h.1,E.ZF hv h.2⟩
noncomputable def E.cmp (c:Ctx) (op:BinOp) (a b:E):Option Bool:=
 match a,b with
 | .lit x, .lit y=>some (Qo7 op x y)
 |a,b=>E.cmpS c.fs op a b
theorem E.Qf {n:Nat->Prop} {c:Ctx} {op:BinOp} {a b:E} {r:Bool} {O:Val} (_hop:Q6i op=true) (h:E.cmp c op a b=some r) (hc:c.okN n O):Y3 op (a.den O) (b.den O)=r:=by unfold E.cmp at h;split at h;simp only [Option.some.injEq] at h;rw [<-h,Qfn];rfl;exact E.Qck h hc.2
noncomputable def E.addN (k:IntKind) (a b:E):E:=
 match k,a,b with
 | .i64, .bin .add .i64 x (.lit p), .lit q=>yI (Y2 .i64 (p+q)) λn=> .bin .add .i64 x (.lit n)
 | .i64, .lit q, .bin .add .i64 x (.lit p)=>yI (Y2 .i64 (p+q)) λn=> .bin .add .i64 x (.lit n)
 | .i64, .lit q,b=> .bin .add .i64 b (.lit q)
 |k,a,b=> .bin .add k a b
noncomputable def E.Qlo (k:IntKind) (a b:E):E:=
 match k,a,b with
 | .i64, .bin .add .i64 x (.lit p), .lit q=>yI (Y2 .i64 (p-q)) λn=> .bin .add .i64 x (.lit n)
 | .i64, .bin .add .i64 x (.lit p), .bin .add .i64 y (.lit q)=>bif x.same y then .Q22 (Y2 .i64 (p-q)) else .bin .sub .i64 (.bin .add .i64 x (.lit p)) (.bin .add .i64 y (.lit q))
 | .u64, .cnv .u64 (.bin .add .i64 x (.lit p)), .cnv .u64 (.bin .add .i64 y (.lit q))=>bif x.same y then .Q22 (Y2 .u64 (p-q)) else .bin .sub .u64 (.cnv .u64 (.bin .add .i64 x (.lit p))) (.cnv .u64 (.bin .add .i64 y (.lit q)))
 |k,a,b=>bif a.same b then .lit 0 else .bin .sub k a b
theorem E.Qb9 {k:IntKind} {a b:E} {O:Val}:(E.addN k a b).den O=Zm .add k (a.den O) (b.den O):=by unfold E.addN;split;rename_i x p q;simp only [sInt_eq,E.den,Zm,wrapK_eq];rw [Q6,Q6,Q6,Q6];omega;rename_i q x p;simp only [sInt_eq,E.den,Zm,wrapK_eq];rw [Q6,Q6,Q6,Q6];omega;simp only [E.den,Zm];rw [Int.add_comm];rfl
theorem wrap_zero (k:IntKind):k.wrap 0=0:=by cases k<;>rfl
theorem J5 (n:Int):IntKind.u64.wrap n=n%18446744073709551616:=by simp [IntKind.wrap,IntKind.bits,IntKind.signed]
theorem E.Q9t {k:IntKind} {a b:E} {O:Val}:(E.Qlo k a b).den O=Zm .sub k (a.den O) (b.den O):=by
 unfold E.Qlo;split;rename_i x p q;simp only [sInt_eq,E.den,Zm,wrapK_eq];rw [Q6,Q6,Q6,Q6];omega;rename_i x p y q;cases hs:x.same y with
 |false=>rfl
 |true=>have:=E.Q5 hs;subst this;simp only [cond_true,E.litS_eq,E.den,Zm,wrapK_eq];rw [Q6,Q6,Q6,Q6];omega
 rename_i x p y q;cases hs:x.same y with
 |false=>rfl
 |true=>have:=E.Q5 hs;subst this;simp only [cond_true,E.litS_eq,E.den,Zm,wrapK_eq];rw [Q6,Q6,J5,J5,J5,J5];omega
 cases hs:E.same a b with
 |false=>rfl
 |true=>rw [E.Q5 hs];simp only [cond_true,E.den,Zm,Int.sub_self,wrap_zero]
theorem E.Qlj {n:Nat->Prop} {k:IntKind} {a b:E} (ha:a.ok n) (hb:b.ok n):(E.addN k a b).ok n:=by unfold E.addN;split;rw [sInt_eq];exact ⟨ha.1,trivial⟩;rw [sInt_eq];exact ⟨hb.1,trivial⟩;exact ⟨hb,trivial⟩;exact ⟨ha,hb⟩
theorem E.Qji {n:Nat->Prop} {k:IntKind} {a b:E} (ha:a.ok n) (hb:b.ok n):(E.Qlo k a b).ok n:=by
 unfold E.Qlo;split;rw [sInt_eq];exact ⟨ha.1,trivial⟩;rename_i x p y q;cases hs:x.same y with
 |false=>exact ⟨ha,hb⟩
 |true=>simp only [cond_true,E.litS_eq];trivial
 rename_i x p y q;cases hs:x.same y with
 |false=>exact ⟨ha,hb⟩
 |true=>simp only [cond_true,E.litS_eq];trivial
 cases E.same a b with
 |false=>exact ⟨ha,hb⟩
 |true=>trivial
noncomputable def E.Qoj (k:IntKind) (a b:E):E:=
 match k with
 | .i64=>E.Qm2 a b
 |k=>E.addN k a b
noncomputable def E.Qma (k:IntKind) (a b:E):E:=
 match k with
 | .i64=>E.Qlp a b
 |k=>E.Qlo k a b
theorem E.Qba {k:IntKind} {a b:E} {O:Val}:(E.Qoj k a b).den O=Zm .add k (a.den O) (b.den O):=by unfold E.Qoj;split;exact E.Q59;exact E.Qb9
theorem E.Q3v {k:IntKind} {a b:E} {O:Val}:(E.Qma k a b).den O=Zm .sub k (a.den O) (b.den O):=by unfold E.Qma;split;exact E.Q9u;exact E.Q9t
theorem E.Qlk {n:Nat->Prop} {k:IntKind} {a b:E} (ha:a.ok n) (hb:b.ok n):(E.Qoj k a b).ok n:=by unfold E.Qoj;split;exact E.Q9l ha hb;exact E.Qlj ha hb
theorem E.Qjj {n:Nat->Prop} {k:IntKind} {a b:E} (ha:a.ok n) (hb:b.ok n):(E.Qma k a b).ok n:=by unfold E.Qma;split;exact E.Qd8 ha hb;exact E.Qji ha hb
noncomputable def E.arith (op:BinOp) (k:IntKind) (a b:E):Option E:=
 match op,a,b with
 | .add, .lit x, .lit y=>some (.Q22 (Y2 k (x+y)))
 | .sub, .lit x, .lit y=>some (.Q22 (Y2 k (x-y)))
 | .mul, .lit x, .lit y=>some (.Q22 (Y2 k (x*y)))
 | .add,a,b=>some (E.Qoj k a b)
 | .sub,a,b=>some (E.Qma k a b)
 | .mul,a,b=>some (.bin .mul k a b)
 |_,_,_=>none
theorem E.zi {P:Program} {w:World} {op:BinOp} {k:IntKind} {a b r:E} {O:Val} (h:E.arith op k a b=some r):
 (Op.intArith op k (a.den O) (b.den O)).run P w= .ok (.int k (r.den O)) w:=by
 unfold E.arith at h;split at h<;>simp only [Option.some.injEq,reduceCtorEq,E.litS_eq,wrapK_eq] at h<;>subst h<;>first
  |rfl
  |(rw [E.Qba];rfl)
  |(rw [E.Q3v];rfl)
theorem E.ql {n:Nat->Prop} {op:BinOp} {k:IntKind} {a b r:E} (h:E.arith op k a b=some r) (ha:a.ok n) (hb:b.ok n):r.ok n:=by unfold E.arith at h;split at h<;>simp only [Option.some.injEq,reduceCtorEq,E.litS_eq] at h<;>subst h<;>first|trivial|exact ⟨ha,hb⟩|exact E.Qlk ha hb|exact E.Qjj ha hb
def E.nz (c:Ctx) (b:E):Bool:=
 match (E.iv c.fs b).lo,(E.iv c.fs b).hi with
 |some l,some h=>ilt 0 l||ilt h 0
 |some l,none=>ilt 0 l
 |none,some h=>ilt h 0
 |none,none=>false
theorem E.Qhb {n:Nat->Prop} {c:Ctx} {b:E} {O:Val} (h:E.nz c b=true) (hc:c.okN n O):b.den O≠0:=by have hv:=E.Qb hc.2 b;unfold E.nz at h;split at h;rename_i l hh e1 e2;have:=hv.1 _ e1;have:=hv.2 _ e2;simp only [Bool.or_eq_true,JI,decide_eq_true_eq] at h;omega;rename_i l e1 e2;have:=hv.1 _ e1;simp only [JI,decide_eq_true_eq] at h;omega;rename_i hh e1 e2;have:=hv.2 _ e2;simp only [JI,decide_eq_true_eq] at h;omega;cases h
def E.nn (c:Ctx) (b:E):Bool:=
 match (E.iv c.fs b).lo with
 |some l=>ile 0 l
 |none=>false
theorem E.Qhd {n:Nat->Prop} {c:Ctx} {b:E} {O:Val} (h:E.nn c b=true) (hc:c.okN n O):0<=b.den O:=by have hv:=E.Qb hc.2 b;unfold E.nn at h;split at h;rename_i l e1;have:=hv.1 _ e1;rw [QO] at h;omega;cases h
def E.Qj2 (c:Ctx) (a:E):Bool:=
 match (E.iv c.fs a).lo,(E.iv c.fs a).hi with
 |some l,some h=>ile 0 l&&ile h 9223372036854775807
 |_,_=>false
theorem E.Q2t {n:Nat->Prop} {c:Ctx} {a:E} {O:Val} (h:E.Qj2 c a=true) (hc:c.okN n O):0<=a.den O/\a.den O<=9223372036854775807:=by have hv:=E.Qb hc.2 a;unfold E.Qj2 at h;split at h;rename_i l h' e1 e2;simp only [Bool.and_eq_true,QO] at h;have:=hv.1 _ e1;have:=hv.2 _ e2;omega;cases h
noncomputable def E.Qmt (c:Ctx) (a:E):E:=
 match a with
 | .bin .shr .i64 x (.lit (.ofNat p))=>bif Nat.ble p 40&&E.Qj2 c x then QE (p+8) λr=> .bin .shr .i64 x (.lit (.ofNat r)) else .bin .quo .i64 (.bin .shr .i64 x (.lit (.ofNat p))) (.lit (.ofNat 256))
 |a=>bif E.Qj2 c a then .bin .shr .i64 a (.lit (.ofNat 8)) else .bin .quo .i64 a (.lit (.ofNat 256))
theorem jm (x:Int) (p:Nat) (hp:p<=64):Zm .shr .i64 x (Int.ofNat p)=x/2^p:=by
 simp only [Zm];have:min ((Int.ofNat p).toNat) IntKind.i64.bits=p:=by simp only [Int.ofNat_eq_natCast,Int.toNat_natCast,IntKind.bits];omega
 rw [this,Int.fdiv_eq_ediv_of_nonneg _ (by exact_mod_cast Nat.zero_le (2^p))]
theorem Qdx (x:Int) (h0:0<=x) (h1:x<=9223372036854775807):Zm .quo .i64 x (Int.ofNat 256)=x/256:=by simp only [Zm];have e:(Int.ofNat 256)=(256:Int):=rfl;rw [e,Int.tdiv_eq_ediv_of_nonneg h0];exact wrap_within (by simp only [kLo];omega) (by simp only [kHi];omega)
theorem E.Qh4 {n:Nat->Prop} {c:Ctx} {a:E} {O:Val} (hc:c.okN n O):(E.Qmt c a).den O=Zm .quo .i64 (a.den O) (Int.ofNat 256):=by
 unfold E.Qmt;split;rename_i x p;cases hb:(Nat.ble p 40&&E.Qj2 c x) with
 |false=>rfl
 |true=>simp only [Bool.and_eq_true,Nat.ble_eq] at hb;obtain ⟨h0,h1⟩:=E.Q2t (O:=O) hb.2 hc;simp only [cond_true,sNat_eq,E.den];rw [jm _ _ (by omega),jm _ _ (by omega)];have h2:0<=x.den O/2^p:=Int.ediv_nonneg h0 (by exact_mod_cast Nat.zero_le (2^p));have h3:x.den O/2^p<=9223372036854775807:=Int.le_trans (Int.ediv_le_self _ h0) h1;rw [Qdx _ h2 h3,Int.pow_add,Int.ediv_ediv_of_nonneg (by exact_mod_cast Nat.zero_le (2^p))];rfl
 cases hb:E.Qj2 c a with
 |false=>rfl
 |true=>obtain ⟨h0,h1⟩:=E.Q2t (O:=O) hb hc;simp only [cond_true,E.den];rw [jm _ _ (by omega),Qdx _ h0 h1];rfl
theorem E.Qk3 {n:Nat->Prop} {c:Ctx} {a:E} (ha:a.ok n):(E.Qmt c a).ok n:=by
 unfold E.Qmt;split;rename_i x p;cases (Nat.ble p 40&&E.Qj2 c x) with
 |false=>exact ⟨ha,trivial⟩
 |true=>simp only [cond_true,sNat_eq];exact ⟨ha.1,trivial⟩
 cases E.Qj2 c a with
 |false=>exact ⟨ha,trivial⟩
 |true=>exact ⟨ha,trivial⟩
noncomputable def E.Qms (c:Ctx) (k:IntKind) (a b:E):E:=
 match k,b with
 | .i64, .lit (.ofNat q)=>bif Nat.beq q 256 then E.Qmt c a else .bin .quo .i64 a (.lit (.ofNat q))
 |k,b=> .bin .quo k a b
theorem E.Qh3 {n:Nat->Prop} {c:Ctx} {k:IntKind} {a b:E} {O:Val} (hc:c.okN n O):(E.Qms c k a b).den O=Zm .quo k (a.den O) (b.den O):=by
 unfold E.Qms;split;rename_i q;cases hb:Nat.beq q 256 with
 |false=>rfl
 |true=>
  have:q=256:=by simpa using hb
  subst this;simp only [cond_true,E.Qh4 hc];rfl
 rfl
theorem E.Qk2 {n:Nat->Prop} {c:Ctx} {k:IntKind} {a b:E} (ha:a.ok n) (hb:b.ok n):(E.Qms c k a b).ok n:=by
 unfold E.Qms;split;rename_i q;cases Nat.beq q 256 with
 |false=>exact ⟨ha,trivial⟩
 |true=>exact E.Qk3 ha
 exact ⟨ha,hb⟩
noncomputable def E.Qmp (c:Ctx) (k:IntKind) (a b:E):E:=
 match k,b with
 | .i64, .lit (.ofNat q)=>match a.base with
  |(.bin .rem .i64 y (.lit (.ofNat m)), .ofNat p)=>
   bif (Nat.beq q m&&Nat.blt 0 q)&&(((E.iv c.fs (.bin .rem .i64 y (.lit (.ofNat m)))).fits (.ofNat p))&&(match (E.iv c.fs y).lo,(E.iv c.fs y).hi with
    |some (.ofNat _),some h=>ile (h+ .ofNat q) 9223372036854775807
    |_,_=>false)) then .bin .rem .i64 (E.Qm2 y (QE (Nat.mod p q) λr=> .lit (.ofNat r))) (.lit (.ofNat q))
   else .bin .rem .i64 a (.lit (.ofNat q))
  |_=> .bin .rem .i64 a (.lit (.ofNat q))
 |k,b=> .bin .rem k a b
theorem E.Qh1 {n:Nat->Prop} {c:Ctx} {k:IntKind} {a b:E} {O:Val} (hc:c.okN n O):(E.Qmp c k a b).den O=Zm .rem k (a.den O) (b.den O):=by
 unfold E.Qmp;split;rename_i q;split;rename_i y m p ha;cases hb:((Nat.beq q m&&Nat.blt 0 q)&&(((E.iv c.fs (.bin .rem .i64 y (.lit (.ofNat m)))).fits (.ofNat p))&&(match (E.iv c.fs y).lo,(E.iv c.fs y).hi with
  |some (.ofNat _),some h=>ile (h+ .ofNat q) 9223372036854775807
  |_,_=>false))) with
 |false=>rfl
 |true=>
  simp only [Bool.and_eq_true,Nat.beq_eq] at hb;obtain ⟨⟨h1,h2⟩,h3,h4⟩:=hb;subst h1;have h2:0<q:=by have h2' :1<=q:=(by simpa [Nat.blt] using h2);omega
  split at h4;rename_i l u e1 e2;rw [QO] at h4;have f1:=(E.Qb (O:=O) hc.2 y).1 _ e1
  have f2:=(E.Qb (O:=O) hc.2 y).2 _ e2
  have ga:=E.Jm (O:=O) hc.2 a (by rw [ha];exact h3);rw [ha] at ga;simp only [E.den,Zm] at ga;have z1:(0:Int)<=y.den O:=Int.le_trans (Int.natCast_nonneg l) f1;have r1:(y.den O).tmod (Int.ofNat q)=y.den O%(q:Int):=Int.tmod_eq_emod_of_nonneg z1
  have hq:(0:Int)<(q:Int):=by omega
  have hlt:=Int.emod_lt_of_pos (p:Int) hq;have hge:=Int.emod_nonneg (p:Int) (show (q:Int)≠0 by omega);have m1:=Int.emod_nonneg (y.den O) (show (q:Int)≠0 by omega);have hn:((Nat.mod p q:Nat):Int)=(p:Int)%(q:Int):=Int.natCast_emod p q;simp only [cond_true,E.den,Zm,sNat_eq];rw [E.Q59];simp only [E.den,Zm];have hw:IntKind.i64.wrap (y.den O+Int.ofNat (Nat.mod p q))=y.den O+(p:Int)%(q:Int):=by rw [show Int.ofNat (Nat.mod p q)=(p:Int)%(q:Int) from hn,Q6];have:(Int.ofNat q)=(q:Int):=rfl;omega
  rw [hw,ga,r1];have s1:(y.den O+(p:Int)%(q:Int)).tmod (Int.ofNat q)=(y.den O+(p:Int)%(q:Int))%(q:Int):=Int.tmod_eq_emod_of_nonneg (by omega)
  have s2:(y.den O%(q:Int)+Int.ofNat p).tmod (Int.ofNat q)=(y.den O%(q:Int)+Int.ofNat p)%(q:Int):=Int.tmod_eq_emod_of_nonneg (Int.add_nonneg m1 (Int.natCast_nonneg p))
  rw [s1,s2];show (y.den O+(p:Int)%(q:Int))%(q:Int)=(y.den O%(q:Int)+(p:Int))%(q:Int);rw [Int.add_emod_emod,Int.emod_add_emod];cases h4
 rfl;rfl
theorem E.Qjy {n:Nat->Prop} {c:Ctx} {k:IntKind} {a b:E} (ha:a.ok n) (hb:b.ok n):(E.Qmp c k a b).ok n:=by
 unfold E.Qmp;split
 . rename_i q;split
   . rename_i y m p he;have hy:y.ok n:=by unfold E.base at he;split at he;cases he;exact ha.1.1;cases he;exact ha.1
     split
     all_goals first|exact ⟨ha,trivial⟩|skip
     all_goals (cases ((Nat.beq q m&&Nat.blt 0 q)&&(((E.iv c.fs (.bin .rem .i64 y (.lit (.ofNat m)))).fits (.ofNat p))&&_))<;>first|exact ⟨ha,trivial⟩|exact ⟨E.Q9l hy (by rw [sNat_eq];trivial),trivial⟩)
   exact ⟨ha,trivial⟩
 exact ⟨ha,hb⟩
noncomputable def E.divide (c:Ctx) (op:BinOp) (k:IntKind) (a b:E):Option E:=
 match a,b with
 | .lit x, .lit y=>bif ieq y 0 then none else
  match op with
  | .quo=>some (.Q22 (Y2 k (x.tdiv y)))
  | .rem=>some (.Q22 (x.tmod y))
  |_=>none
 |a,b=>bif E.nz c b then
  match op with
  | .quo=>some (E.Qms c k a b)
  | .rem=>some (E.Qmp c k a b)
  |_=>none
  else none
theorem E.Q6y {n:Nat->Prop} {P:Program} {w:World} {c:Ctx} {op:BinOp} {k:IntKind} {a b r:E} {O:Val} (hc:c.okN n O) (h:E.divide c op k a b=some r):
 (Op.intDiv op k (a.den O) (b.den O)).run P w= .ok (.int k (r.den O)) w:=by
 unfold E.divide at h;split at h;rename_i x y;rw [qD] at h;cases hy:(y==0) with
 |true=>rw [hy] at h;simp at h
 |false=>
  rw [hy] at h;have hy0:y≠0:=by simpa using hy
  simp only [cond_false] at h;split at h<;>simp only [Option.some.injEq,reduceCtorEq,E.litS_eq,wrapK_eq] at h<;>subst h<;>simp only [E.den,Op.intDiv,hy0,if_false]<;>rfl
 cases hz:E.nz c b with
 |false=>rw [hz] at h;cases h
 |true=>rw [hz] at h;have h0:=E.Qhb hz hc;simp only [cond_true] at h;split at h<;>simp only [Option.some.injEq,reduceCtorEq] at h<;>subst h;rw [E.Qh3 hc];simp only [Op.intDiv,h0,if_false,Zm]<;>rfl;rw [E.Qh1 hc];simp only [Op.intDiv,h0,if_false,Zm]<;>rfl
theorem E.Qfc {n:Nat->Prop} {c:Ctx} {op:BinOp} {k:IntKind} {a b r:E} (h:E.divide c op k a b=some r) (ha:a.ok n) (hb:b.ok n):r.ok n:=by
 unfold E.divide at h;split at h;rename_i x y;cases hy:ieq y 0 with
 |true=>rw [hy] at h;cases h
 |false=>rw [hy] at h;simp only [cond_false] at h;split at h<;>simp only [Option.some.injEq,reduceCtorEq,E.litS_eq] at h<;>subst h<;>trivial
 cases hz:E.nz c b with
 |false=>rw [hz] at h;cases h
 |true=>rw [hz] at h;simp only [cond_true] at h;split at h<;>simp only [Option.some.injEq,reduceCtorEq] at h<;>subst h;exact E.Qk2 ha hb;exact E.Qjy ha hb
noncomputable def E.Qcm (op:BinOp) (k:IntKind) (a b:E):Option E:=
 match op with
 | .and=>some (.bin .and k a b)
 | .or=>some (.bin .or k a b)
 | .xor=>some (.bin .xor k a b)
 | .andNot=>some (.bin .andNot k a b)
 |_=>none
noncomputable def E.bits (op:BinOp) (k:IntKind) (a b:E):Option E:=
 match a,b with
 | .lit (.ofNat x), .lit (.ofNat y)=>bif Zl k (.ofNat x)&&Zl k (.ofNat y) then
  match op with
  | .and=>some (.Q22 (Y2 k (.ofNat (Nat.land x y))))
  | .or=>some (.Q22 (Y2 k (.ofNat (Nat.lor x y))))
  | .xor=>some (.Q22 (Y2 k (.ofNat (Nat.xor x y))))
  | .andNot=>some (.Q22 (Y2 k (.ofNat (Nat.xor x (Nat.land x y)))))
  |_=>none
  else E.Qcm op k (.lit (.ofNat x)) (.lit (.ofNat y))
 |a,b=>E.Qcm op k a b
theorem yj {k:IntKind} {x:Nat} (h:Zl k (.ofNat x)=true):x<2^k.bits:=by cases k<;>simp only [Zl,Nat.ble_eq] at h<;>simp only [IntKind.bits]<;>omega
theorem Qcq (x y:Nat) {n:Nat} (hx:x<2^n) (hy:y<2^n):x &&& (2^n-1-y)=x ^^^ (x &&& y):=by apply Nat.eq_of_testBit_eq;intro i;rw [show 2^n-1-y=2^n-(y+1) from by omega];simp only [Nat.testBit_and,Nat.testBit_xor,Nat.testBit_two_pow_sub_succ hy];by_cases hi:i<n;simp only [hi,decide_true,Bool.true_and];cases x.testBit i<;>cases y.testBit i<;>rfl;have:x.testBit i=false:=Nat.testBit_lt_two_pow (Nat.lt_of_lt_of_le hx (Nat.pow_le_pow_right (by omega) (by omega)));simp [this]
theorem E.Q1o {P:Program} {w:World} {op:BinOp} {k:IntKind} {a b r:E} {O:Val} (h:E.Qcm op k a b=some r):
 (Op.intBits op k (a.den O) (b.den O)).run P w= .ok (.int k (r.den O)) w:=by
 unfold E.Qcm at h;split at h<;>simp only [Option.some.injEq,reduceCtorEq] at h<;>subst h<;>rfl
theorem E.Q3j {P:Program} {w:World} {op:BinOp} {k:IntKind} {a b r:E} {O:Val} (h:E.bits op k a b=some r):
 (Op.intBits op k (a.den O) (b.den O)).run P w= .ok (.int k (r.den O)) w:=by
 unfold E.bits at h;split at h;rename_i x y;cases hk:(Zl k (.ofNat x)&&Zl k (.ofNat y)) with
 |false=>rw [hk] at h;exact E.Q1o h
 |true=>
  rw [hk] at h;simp only [Bool.and_eq_true] at hk;have hx:=yj hk.1;have hy:=yj hk.2;have ex:(BitVec.ofInt k.bits (Int.ofNat x))=BitVec.ofNat k.bits x:=by simp
  have ey:(BitVec.ofInt k.bits (Int.ofNat y))=BitVec.ofNat k.bits y:=by simp
  simp only [cond_true] at h;simp only [E.den,Op.intBits,ex,ey];split at h<;>simp only [Option.some.injEq,reduceCtorEq,E.litS_eq,wrapK_eq] at h<;>subst h<;>
   simp only [BitVec.toNat_and,BitVec.toNat_or,BitVec.toNat_xor,BitVec.toNat_not,BitVec.toNat_ofNat,Nat.mod_eq_of_lt hx,Nat.mod_eq_of_lt hy]
  rfl;rfl;rfl;rw [Qcq x y hx hy];rfl
 exact E.Q1o h
theorem E.Qb4 {n:Nat->Prop} {op:BinOp} {k:IntKind} {a b r:E} (h:E.Qcm op k a b=some r) (ha:a.ok n) (hb:b.ok n):r.ok n:=by unfold E.Qcm at h;split at h<;>simp only [Option.some.injEq,reduceCtorEq] at h<;>subst h<;>exact ⟨ha,hb⟩
theorem E.Qfy {n:Nat->Prop} {op:BinOp} {k:IntKind} {a b r:E} (h:E.bits op k a b=some r) (ha:a.ok n) (hb:b.ok n):r.ok n:=by
 unfold E.bits at h;split at h;rename_i x y;cases hk:(Zl k (.ofNat x)&&Zl k (.ofNat y)) with
 |false=>rw [hk] at h;exact E.Qb4 h ha hb
 |true=>rw [hk] at h;simp only [cond_true] at h;split at h<;>simp only [Option.some.injEq,reduceCtorEq,E.litS_eq] at h<;>subst h<;>trivial
 exact E.Qb4 h ha hb
noncomputable def E.shift (c:Ctx) (op:BinOp) (k:IntKind) (a b:E):Option E:=
 match a,b with
 | .lit x, .lit (.ofNat y)=>
  match op with
  | .shl=>some (.Q22 (Y2 k (x*2^(min y k.bits))))
  | .shr=>some (.Q22 (x.fdiv (2^(min y k.bits))))
  |_=>none
 |a,b=>bif E.nn c b then
  match op with
  | .shl=>some (.bin .shl k a b)
  | .shr=>some (.bin .shr k a b)
  |_=>none
  else none
theorem E.Q8a {n:Nat->Prop} {P:Program} {w:World} {c:Ctx} {op:BinOp} {k j:IntKind} {a b r:E} {O:Val} (hc:c.okN n O) (h:E.shift c op k a b=some r):
 (Op.shift op k (a.den O) j (b.den O)).run P w= .ok (.int k (r.den O)) w:=by
 unfold E.shift at h;split at h;rename_i x y;have hy:¬((Int.ofNat y)<0):=by simp
 split at h<;>simp only [Option.some.injEq,reduceCtorEq,E.litS_eq,wrapK_eq] at h<;>subst h<;>simp only [E.den,Op.shift,hy,if_false]<;>rfl;cases hz:E.nn c b with
 |false=>rw [hz] at h;cases h
 |true=>
  rw [hz] at h;have h0:=E.Qhd hz hc;have hy:¬(b.den O<0):=by omega
  simp only [cond_true] at h;split at h<;>simp only [Option.some.injEq,reduceCtorEq] at h<;>subst h<;>simp only [E.den,Op.shift,hy,if_false,Zm]<;>rfl
theorem E.Qgv {n:Nat->Prop} {c:Ctx} {op:BinOp} {k:IntKind} {a b r:E} (h:E.shift c op k a b=some r) (ha:a.ok n) (hb:b.ok n):r.ok n:=by
 unfold E.shift at h;split at h;split at h<;>simp only [Option.some.injEq,reduceCtorEq,E.litS_eq] at h<;>subst h<;>trivial;cases hz:E.nn c b with
 |false=>rw [hz] at h;cases h
 |true=>rw [hz] at h;simp only [cond_true] at h;split at h<;>simp only [Option.some.injEq,reduceCtorEq] at h<;>subst h<;>exact ⟨ha,hb⟩
noncomputable def E.Qfv (y:E):E:=
 match y with
 | .bin .shr .i64 x p=> .cnv .u8 (.bin .shr .i64 x p)
 |y=> .cnv .u8 (.bin .shr .i64 y (.lit (.ofNat 0)))
theorem jh (n:Int):IntKind.u8.wrap n=n%256:=by simp [IntKind.wrap,IntKind.bits,IntKind.signed]
theorem E.Qfu {y:E} {O:Val}:(E.Qfv y).den O=IntKind.u8.wrap (Zm .rem .i64 (y.den O) (Int.ofNat 256)):=by
 have h:∀x:Int,IntKind.u8.wrap (Zm .rem .i64 x (Int.ofNat 256))=IntKind.u8.wrap x:=by intro x;simp only [Zm,jh];have e:(Int.ofNat 256)=(256:Int):=rfl;rw [e,Int.tmod_eq_emod];split<;>omega
 rw [h];unfold E.Qfv;split;rfl;simp only [E.den];rw [jm _ _ (by omega)];simp
theorem E.Qig {n:Nat->Prop} {y:E} (h:y.ok n):(E.Qfv y).ok n:=by unfold E.Qfv;split;exact h;exact ⟨h,trivial⟩
noncomputable def E.conv (k:IntKind) (a:E):Option E:=
 match a with
 | .lit x=>some (.Q22 (Y2 k x))
 | .bin .rem .i64 y (.lit (.ofNat q))=>match k with
  | .u8=>bif Nat.beq q 256 then some (E.Qfv y) else some (.cnv k (.bin .rem .i64 y (.lit (.ofNat q))))
  |k=>some (.cnv k (.bin .rem .i64 y (.lit (.ofNat q))))
 |a=>some (.cnv k a)
theorem E.qd {k:IntKind} {a r:E} {O:Val} (h:E.conv k a=some r):k.wrap (a.den O)=r.den O:=by
 unfold E.conv at h;split at h;simp only [Option.some.injEq,E.litS_eq,wrapK_eq] at h;subst h;rfl;rename_i y q;split at h;cases hb:Nat.beq q 256 with
 |false=>rw [hb] at h;cases h;rfl
 |true=>
  rw [hb] at h;cases h;have:q=256:=by simpa using hb
  subst this;rw [E.Qfu];rfl
 cases h;rfl;cases h;rfl
theorem E.Qfh {n:Nat->Prop} {k:IntKind} {a r:E} (h:E.conv k a=some r) (ha:a.ok n):r.ok n:=by
 unfold E.conv at h;split at h;simp only [Option.some.injEq,E.litS_eq] at h;subst h;trivial;rename_i y q;split at h;cases hb:Nat.beq q 256 with
 |false=>rw [hb] at h;cases h;exact ha
 |true=>rw [hb] at h;cases h;exact E.Qig ha.1
 cases h;exact ha;cases h;exact ha
theorem Q5j (n:Int):IntKind.i32.wrap (IntKind.u32.wrap n)=IntKind.i32.wrap n:=by simp [IntKind.wrap,IntKind.bits,IntKind.signed]
theorem Q5i (n:Int):IntKind.u32.wrap (IntKind.u32.wrap n)=IntKind.u32.wrap n:=by simp [IntKind.wrap,IntKind.bits,IntKind.signed]
theorem Q83 (n:Int):IntKind.i32.wrap (IntKind.i64.wrap n)=IntKind.i32.wrap n:=by
 rw [Q6];simp only [IntKind.wrap,IntKind.bits,IntKind.signed];have:((n+9223372036854775808)%18446744073709551616-9223372036854775808)%4294967296=n%4294967296:=by omega
 simp [this]
theorem Q82 (n:Int):IntKind.u32.wrap (IntKind.i64.wrap n)=IntKind.u32.wrap n:=by
 rw [Q6];simp only [IntKind.wrap,IntKind.bits,IntKind.signed];have:((n+9223372036854775808)%18446744073709551616-9223372036854775808)%4294967296=n%4294967296:=by omega
 simp [this]
noncomputable def E.Q4q (c:Ctx) (k:IntKind) (a:E):Option E:=bif (E.iv c.fs a).within k then some a else E.conv k a
noncomputable def E.Q70 (c:Ctx) (k:IntKind) (a:E):Option E:=
 match k,a with
 | .i64, .lit x=>E.conv .i64 (.lit x)
 | .i64,a=>E.Q4q c .i64 a
 | .i32, .lit x=>E.conv .i32 (.lit x)
 | .i32, .cnv .u32 y=>E.Q4q c .i32 y
 | .i32,a=>E.Q4q c .i32 a
 | .u32, .lit x=>E.conv .u32 (.lit x)
 | .u32, .cnv .u32 y=>E.Q4q c .u32 y
 | .u32,a=>E.Q4q c .u32 a
 |k,a=>E.conv k a
theorem E.z8 {n:Nat->Prop} {c:Ctx} {k:IntKind} {a r:E} {O:Val} (hc:c.okN n O) (h:E.Q4q c k a=some r):k.wrap (a.den O)=r.den O:=by
 unfold E.Q4q at h;cases hw:(E.iv c.fs a).within k with
 |true=>rw [hw] at h;cases h;exact Iv.jV hw (E.Qb hc.2 a)
 |false=>rw [hw] at h;exact E.qd h
theorem E.Qi0 {n:Nat->Prop} {c:Ctx} {k:IntKind} {a r:E} (h:E.Q4q c k a=some r) (ha:a.ok n):r.ok n:=by
 unfold E.Q4q at h;cases hw:(E.iv c.fs a).within k with
 |true=>rw [hw] at h;cases h;exact ha
 |false=>rw [hw] at h;exact E.Qfh h ha
theorem E.za {n:Nat->Prop} {c:Ctx} {k:IntKind} {a r:E} {O:Val} (hc:c.okN n O) (h:E.Q70 c k a=some r):k.wrap (a.den O)=r.den O:=by
 unfold E.Q70 at h;split at h
 case h_4=>rw [<-E.z8 (O:=O) hc h];simp only [E.den];exact Q5j _
 case h_7=>rw [<-E.z8 (O:=O) hc h];simp only [E.den];exact Q5i _
 all_goals first|exact E.z8 hc h|exact E.qd h
theorem E.Q4r {n:Nat->Prop} {c:Ctx} {k:IntKind} {a r:E} (h:E.Q70 c k a=some r) (ha:a.ok n):r.ok n:=by unfold E.Q70 at h;split at h<;>first|exact E.Qi0 h ha|exact E.Qfh h ha
theorem E.Qfi (c:Ctx) (k:IntKind) (x:Int):E.Q70 c k (.lit x)=some (.Q22 (Y2 k x)):=by cases k<;>rfl
noncomputable def E.plain (c:Ctx) (a:E):E:=
 match a with
 | .bin .add .i64 x (.lit (.ofNat 0))=>bif (E.iv c.fs x).within .i64 then x else .bin .add .i64 x (.lit (.ofNat 0))
 |a=>a
theorem E.Q0q {n:Nat->Prop} {c:Ctx} {a:E} {O:Val} (hc:c.okN n O):(E.plain c a).den O=a.den O:=by
 unfold E.plain;split;rename_i x;cases hw:(E.iv c.fs x).within .i64 with
 |false=>rfl
 |true=>have:=Iv.jV hw (E.Qb (O:=O) hc.2 x);simp only [cond_true,E.den,Zm];show _=IntKind.i64.wrap (x.den O+0);rw [Int.add_zero,this]
 rfl
theorem E.Q45 {n:Nat->Prop} {c:Ctx} {a:E} (ha:a.ok n):(E.plain c a).ok n:=by
 unfold E.plain;split;rename_i x;cases (E.iv c.fs x).within .i64 with
 |false=>exact ha
 |true=>exact ha.1
 exact ha
noncomputable def E.Qeq (c:Ctx) (a:E):E:=
 match a with
 | .bin .add .i64 (.bin .add .i64 (.lit (.ofNat 0)) (.bin .mul .i64 (.cnv .u8 (.bin .shr .i64 x (.lit (.ofNat 8)))) (.lit (.ofNat 256)))) (.cnv .u8 (.bin .shr .i64 y (.lit (.ofNat 0))))=>
  bif x.same y&&(match (E.iv c.fs x).lo,(E.iv c.fs x).hi with
   |some (.ofNat _),some h=>ile h 65535
   |_,_=>false) then x
  else .bin .add .i64 (.bin .add .i64 (.lit (.ofNat 0)) (.bin .mul .i64 (.cnv .u8 (.bin .shr .i64 x (.lit (.ofNat 8)))) (.lit (.ofNat 256)))) (.cnv .u8 (.bin .shr .i64 y (.lit (.ofNat 0))))
 |a=>a
theorem E.Qep {n:Nat->Prop} {c:Ctx} {a:E} {O:Val} (hc:c.okN n O):(E.Qeq c a).den O=a.den O:=by
 unfold E.Qeq;split;rename_i x y;cases hs:x.same y&&(match (E.iv c.fs x).lo,(E.iv c.fs x).hi with
  |some (.ofNat _),some h=>ile h 65535
  |_,_=>false) with
 |false=>rfl
 |true=>
  simp only [cond_true];rw [Bool.and_eq_true] at hs;have he:=E.Q5 hs.1;subst he;have h2:=hs.2;split at h2;rename_i l u e1 e2;have f1:=(E.Qb (O:=O) hc.2 x).1 _ e1
  have f2:=(E.Qb (O:=O) hc.2 x).2 _ e2
  rw [QO] at h2;have z1:(0:Int)<=x.den O:=Int.le_trans (Int.natCast_nonneg l) f1;have s8:=jm (x.den O) 8 (by omega);have s0:=jm (x.den O) 0 (by omega);have e8:Zm .shr .i64 (x.den O) (Int.ofNat 8)=x.den O/256:=s8
  have e0:Zm .shr .i64 (x.den O) (Int.ofNat 0)=x.den O:=by rw [s0];simp
  simp only [E.den];rw [e8,e0,jh,jh];show _=IntKind.i64.wrap (IntKind.i64.wrap (Int.ofNat 0+IntKind.i64.wrap (x.den O/256%256*Int.ofNat 256))+x.den O%256);rw [Q6,Q6,Q6];have o0:Int.ofNat 0=0:=rfl;have o1:Int.ofNat 256=256:=rfl;rw [o0,o1];omega;cases h2
 rfl
theorem E.Qhq {n:Nat->Prop} {c:Ctx} {a:E} (ha:a.ok n):(E.Qeq c a).ok n:=by
 unfold E.Qeq;split;rename_i x y;cases (x.same y&&(match (E.iv c.fs x).lo,(E.iv c.fs x).hi with
  |some (.ofNat _),some h=>ile h 65535
  |_,_=>false)) with
 |false=>exact ha
 |true=>exact ha.1.2.1.1
 exact ha
def isAdd:BinOp->Bool
 | .add| .sub| .mul=>true
 |_=>false
noncomputable def E.Q7l (c:Ctx) (op:BinOp) (k:IntKind) (a b:E):Option E:=
 match k with
 | .i64=>match E.arith op .i64 a b with
  |some r=>some (E.Qeq c (E.plain c r))
  |none=>none
 | .i32=>match E.arith op .i64 a b with
  |some r=>E.Q70 c .i32 (E.plain c r)
  |none=>none
 | .u32=>match E.arith op .i64 a b with
  |some r=>E.Q70 c .u32 (E.plain c r)
  |none=>none
 |k=>E.arith op k a b
theorem E.jQ {op:BinOp} {k:IntKind} {a b r:E} {O:Val} (h:E.arith op k a b=some r):r.den O=Zm op k (a.den O) (b.den O)/\isAdd op=true:=by
 unfold E.arith at h;split at h<;>simp only [Option.some.injEq,reduceCtorEq,E.litS_eq,wrapK_eq] at h<;>subst h<;>first
  |exact ⟨rfl,rfl⟩
  |exact ⟨E.Qba,rfl⟩
  |exact ⟨E.Q3v,rfl⟩
theorem E.Q7k {n:Nat->Prop} {P:Program} {w:World} {c:Ctx} {op:BinOp} {k:IntKind} {a b r:E} {O:Val} (hc:c.okN n O) (h:E.Q7l c op k a b=some r):
 (Op.intArith op k (a.den O) (b.den O)).run P w= .ok (.int k (r.den O)) w:=by
 have fin:∀(k' :IntKind) (z:Int),isAdd op=true->z=Zm op k' (a.den O) (b.den O)->(Op.intArith op k' (a.den O) (b.den O)).run P w= .ok (.int k' z) w:=by intro k' z hop hz;subst hz;cases op<;>first|(cases hop;done)|rfl
 unfold E.Q7l at h;split at h;split at h;rename_i q hq;cases h;obtain ⟨h1,h2⟩:=E.jQ (O:=O) hq;exact fin _ _ h2 (by rw [E.Qep hc,E.Q0q hc,h1]);cases h
 . split at h
   . rename_i q hq;obtain ⟨h1,h2⟩:=E.jQ (O:=O) hq;refine fin _ _ h2 ?_;rw [<-E.za (O:=O) hc h,E.Q0q hc,h1];cases op<;>first|(cases h2;done)|exact Q83 _
   cases h
 . split at h
   . rename_i q hq;obtain ⟨h1,h2⟩:=E.jQ (O:=O) hq;refine fin _ _ h2 ?_;rw [<-E.za (O:=O) hc h,E.Q0q hc,h1];cases op<;>first|(cases h2;done)|exact Q82 _
   cases h
 exact E.zi h
theorem E.Qg2 {n:Nat->Prop} {c:Ctx} {op:BinOp} {k:IntKind} {a b r:E} (h:E.Q7l c op k a b=some r) (ha:a.ok n) (hb:b.ok n):r.ok n:=by unfold E.Q7l at h;split at h;split at h;rename_i q hq;cases h;exact E.Qhq (E.Q45 (E.ql hq ha hb));cases h;split at h;rename_i q hq;exact E.Q4r h (E.Q45 (E.ql hq ha hb));cases h;split at h;rename_i q hq;exact E.Q4r h (E.Q45 (E.ql hq ha hb));cases h;exact E.ql h ha hb
noncomputable def E.Q3m (c:Ctx) (op:BinOp) (k:IntKind) (a b:E):Option E:=
 match a,b with
 | .lit x, .lit y=>E.arith op k (.lit x) (.lit y)
 |a,b=>E.Q7l c op k a b
theorem E.jR (c:Ctx) (op:BinOp) (k:IntKind) (x y:Int):E.Q3m c op k (.lit x) (.lit y)=E.arith op k (.lit x) (.lit y):=rfl
theorem E.Q7m {n:Nat->Prop} {P:Program} {w:World} {c:Ctx} {op:BinOp} {k:IntKind} {a b r:E} {O:Val} (hc:c.okN n O) (h:E.Q3m c op k a b=some r):
 (Op.intArith op k (a.den O) (b.den O)).run P w= .ok (.int k (r.den O)) w:=by
 unfold E.Q3m at h;split at h;exact E.zi h;exact E.Q7k hc h
theorem E.Qg3 {n:Nat->Prop} {c:Ctx} {op:BinOp} {k:IntKind} {a b r:E} (h:E.Q3m c op k a b=some r) (ha:a.ok n) (hb:b.ok n):r.ok n:=by unfold E.Q3m at h;split at h;exact E.ql h ha hb;exact E.Qg2 h ha hb
def Qmx:BinOp->BinOp
 | .lss=> .gtr
 | .leq=> .geq
 | .gtr=> .lss
 | .geq=> .leq
 |o=>o
noncomputable def E.askD (c:Ctx) (op:BinOp) (a b:E):BinOp×E×E:=
 bif ((E.iv c.fs a).minus (E.iv c.fs b)).mid then
  match E.diff a b with
  |(g,x,p)=>bif ((E.ivT c.fs x).sh g p).mid&&Zl .i64 (bif g then p else-p) then
   bif g then (Qmx op,x, .Q22 p) else (op,x, .Q22 (-p))
   else (op,a,b)
 else (op,a,b)
noncomputable def E.askN (c:Ctx) (op:BinOp) (a b:E):BinOp×E×E:=
 match b with
 | .lit _=>match a with
  | .bin .add .i64 _ _=>E.askD c op a b
  | .bin .sub .i64 _ _=>E.askD c op a b
  |_=>(op,a,b)
 |_=>E.askD c op a b
def E.nat?:E->Option Nat
 | .lit (.ofNat n)=>some n
 |_=>none
theorem E.jy {a:E} {n:Nat} {O:Val} (h:a.nat?=some n):a.den O=n:=by
 cases a with
 |lit x=>cases x<;>simp [E.nat?] at h;subst h;rfl
 |_=>cases h
end Go.Ax
namespace Go.Ax
open Go.RowKit
inductive ST where
 |var (i:Nat)
 |bs (l:List E)
 |cat (a b:ST)
 |sub (a:ST) (lo hi:E)
inductive AV where
 |bool (b:Bool)
 |int (k:IntKind) (e:E)
 |str (s:List E)
 |sstr (s:ST)
 |ptr (b o:Nat)
 |nilptr
 |slice (b o len cap es:Nat) (ex:Bool)
 |nilslice
 |wslice (b o n es:Nat) (l:Nat)
 |map (r:Nat)
 |nilmap
 |func (f:FuncId) (first captured:List AV)
 |yield (l:Nat)
 |nilFunc
 |iface (t:TypeId) (v:AV)
 |nilIface
 |agg (cs:List AV)
 |tuple (vs:List AV)
 |any
 |top
 deriving Inhabited
structure Place where
 blk:Nat
 base:Nat
 n:Nat
structure Ext where
 V:Nat->Option Place
 O:Val
def Ext.dom (X:Ext) (i:Nat):Prop:=∃p,X.V i=some p
structure Ext.le (X Y:Ext):Prop where
 V:∀b p,X.V b=some p->Y.V b=some p
 O:Val.agree X.dom X.O Y.O
theorem Ext.le.dom {X Y:Ext} (h:X.le Y):∀i,X.dom i->Y.dom i:=λ_ ⟨p,hp⟩=>⟨p,h.V _ _ hp⟩
theorem Ext.le.refl (X:Ext):X.le X:=⟨λ_ _ h=>h,λ_ _=>⟨rfl,rfl⟩⟩
theorem Ext.le.trans {X Y Z:Ext} (h:X.le Y) (k:Y.le Z):X.le Z:=⟨λb p e=>k.V b p (h.V b p e),λi hi=>⟨((k.O i (h.dom i hi)).1).trans (h.O i hi).1,((k.O i (h.dom i hi)).2).trans (h.O i hi).2⟩⟩
def S.bytes (O:Val) (s:List E):List UInt8:=s.map λt=>UInt8.ofNat (t.den O).toNat
def S.okN (n:Nat->Prop) (O:Val) (s:List E):Prop:=∀t∈s,t.ok n/\0<=t.den O/\t.den O<256
theorem S.Jk {n:Nat->Prop} {O O' :Val} (h:Val.agree n O O'):∀{s:List E},(∀t∈s,t.ok n)->S.bytes O' s=S.bytes O s
 |[],_=>rfl
 |t::s,hs=>by
  have e:S.bytes O' (t::s)=UInt8.ofNat (t.den O').toNat::S.bytes O' s:=rfl
  have e' :S.bytes O (t::s)=UInt8.ofNat (t.den O).toNat::S.bytes O s:=rfl
  rw [e,e',E.Qc h (hs t (by simp)),S.Jk h (λu hu=>hs u (by simp [hu]))]
theorem S.Qmz {n m:Nat->Prop} {O O' :Val} (h:Val.agree n O O') (hm:∀i,n i->m i) {s:List E} (hs:S.okN n O s):S.okN m O' s:=λt ht=>⟨E.Ql hm (hs t ht).1,by rw [E.Qc h (hs t ht).1];exact (hs t ht).2⟩
def ST.den (O:Val):ST->List UInt8
 | .var i=>O.str i
 | .bs l=>S.bytes O l
 | .cat a b=>a.den O++b.den O
 | .sub a lo hi=>((a.den O).drop (lo.den O).toNat).take ((hi.den O).toNat-(lo.den O).toNat)
def ST.ok (n:Nat->Prop):ST->Prop
 | .var i=>n i
 | .bs l=>∀t∈l,t.ok n
 | .cat a b=>a.ok n/\b.ok n
 | .sub a lo hi=>a.ok n/\lo.ok n/\hi.ok n
theorem ST.Ql {n m:Nat->Prop} (h:∀i,n i->m i):∀{s:ST},s.ok n->s.ok m
 | .var _,k=>h _ k
 | .bs _,k=>λt ht=>E.Ql h (k t ht)
 | .cat _ _,k=>⟨ST.Ql h k.1,ST.Ql h k.2⟩
 | .sub _ _ _,k=>⟨ST.Ql h k.1,E.Ql h k.2.1,E.Ql h k.2.2⟩
theorem ST.Qc {n:Nat->Prop} {O O' :Val} (h:Val.agree n O O'):∀{s:ST},s.ok n->s.den O' =s.den O
 | .var i,k=>(h i k).2
 | .bs _,k=>S.Jk h k
 | .cat _ _,k=>by simp only [ST.den,ST.Qc h k.1,ST.Qc h k.2]
 | .sub _ _ _,k=>by simp only [ST.den,ST.Qc h k.1,E.Qc h k.2.1,E.Qc h k.2.2]
def ST.len:ST->E
 | .var i=> .len i
 | .bs l=> .lit (.ofNat l.length)
 | .cat a b=> .bin .add .i64 a.len b.len
 | .sub _ lo hi=> .bin .sub .i64 hi lo
theorem ST.Q2x {n:Nat->Prop}:∀{s:ST},s.ok n->s.len.ok n
 | .var _,k=>k
 | .bs _,_=>trivial
 | .cat _ _,k=>⟨ST.Q2x k.1,ST.Q2x k.2⟩
 | .sub _ _ _,k=>⟨k.2.2,k.2.1⟩
def ST.fit (O:Val) (s:ST):Prop:=s.len.den O=((s.den O).length:Int)
theorem ST.Q18 {n:Nat->Prop} {O O' :Val} (h:Val.agree n O O') {s:ST} (hs:s.ok n) (hf:s.fit O):s.fit O' :=by unfold ST.fit;rw [E.Qc h (ST.Q2x hs),ST.Qc h hs];exact hf
def Qgi:Value->Bool
 | .agg _| .tuple _=>false
 |_=>true
def Qjf:Value->Bool
 | .agg _| .tuple _| .bool _| .nilIface=>false
 |_=>true
def vtop:Value->Bool
 | .agg _=>false
 |_=>true
mutual
def AV.rel (X:Ext):AV->Value->Prop
 | .bool b,v=>v= .bool b
 | .int k e,v=>e.ok X.dom/\v= .int k (e.den X.O)
 | .sstr s,v=>s.ok X.dom/\s.fit X.O/\v= .string ⟨(s.den X.O).toArray⟩
 | .str s,v=>S.okN X.dom X.O s/\v= .string ⟨(S.bytes X.O s).toArray⟩
 | .ptr b o,v=>∃p,X.V b=some p/\v= .pointer (some ⟨p.blk,p.base+o,none⟩)
 | .nilptr,v=>v= .pointer none
 | .slice b o len cap es ex,v=>∃p o' c,X.V b=some p/\v= .slice (some ⟨p.blk,o',none⟩) len c/\len<=cap/\cap<=c/\o' +c*es<=p.n/\
  (0<cap\/ex=true->o' =p.base+o)/\(ex=true->c=cap)
 | .nilslice,v=>v= .slice none 0 0
 | .wslice b o n es l,v=>∃p len c,X.V b=some p/\(v= .slice (some ⟨p.blk,p.base+o,none⟩) len c\/(v= .slice none 0 0/\len=0))/\n<=len/\len<=c/\p.base+o+c*es<=p.n/\X.dom l/\X.O.int l=(len:Int)
 | .map r,v=>∃p,X.V r=some p/\v= .map (some p.blk)
 | .nilmap,v=>v= .map none
 | .func f as cs,v=>∃as' cs' :Array Value,v= .func (.func f) as' cs' /\AV.QI X as as'.toList/\AV.QI X cs cs'.toList
 | .yield l,v=>∃p,X.V l=some p/\v= .func (.yield p.blk) #[] #[]
 | .nilFunc,v=>v= .nilFunc
 | .iface t a,v=>∃u,v= .iface t u/\AV.rel X a u
 | .nilIface,v=>v= .nilIface
 | .agg cs,v=>∃vs:Array Value,v= .agg vs/\AV.QI X cs vs.toList
 | .tuple cs,v=>∃vs:Array Value,v= .tuple vs/\AV.QI X cs vs.toList
 | .any,v=>Qjf v=true
 | .top,v=>vtop v=true
def AV.QI (X:Ext):List AV->List Value->Prop
 |[],vs=>vs=[]
 |a::as,vs=>∃v vs',vs=v::vs' /\AV.rel X a v/\AV.QI X as vs'
end
mutual
theorem AV.Zr {X Y:Ext} (h:X.le Y):∀(a:AV) (v:Value),a.rel X v->a.rel Y v
 | .bool _,_,r=>by simpa only [AV.rel] using r
 | .int _ _,_,r=>by simp only [AV.rel] at*;exact ⟨E.Ql h.dom r.1,by rw [E.Qc h.O r.1];exact r.2⟩
 | .sstr _,_,r=>by simp only [AV.rel] at*;exact ⟨ST.Ql h.dom r.1,ST.Q18 h.O r.1 r.2.1,by rw [ST.Qc h.O r.1];exact r.2.2⟩
 | .str _,_,r=>by simp only [AV.rel] at*;exact ⟨S.Qmz h.O h.dom r.1,by rw [S.Jk h.O (λt ht=>(r.1 t ht).1)];exact r.2⟩
 | .ptr _ _,_,r=>by simp only [AV.rel] at*;obtain ⟨p,hp,e⟩:=r;exact ⟨p,h.V _ _ hp,e⟩
 | .nilptr,_,r=>by simpa only [AV.rel] using r
 | .slice ..,_,r=>by simp only [AV.rel] at*;obtain ⟨p,o',c,hp,e⟩:=r;exact ⟨p,o',c,h.V _ _ hp,e⟩
 | .nilslice,_,r=>by simpa only [AV.rel] using r
 | .wslice ..,_,r=>by simp only [AV.rel] at*;obtain ⟨p,len,c,hp,e,e1,e2,e3,e4,e5⟩:=r;exact ⟨p,len,c,h.V _ _ hp,e,e1,e2,e3,h.dom _ e4,(h.O _ e4).1.trans e5⟩
 | .map _,_,r=>by simp only [AV.rel] at*;obtain ⟨p,hp,e⟩:=r;exact ⟨p,h.V _ _ hp,e⟩
 | .nilmap,_,r=>by simpa only [AV.rel] using r
 | .func _ as cs,_,r=>by simp only [AV.rel] at*;obtain ⟨as',cs',e,h1,h2⟩:=r;exact ⟨as',cs',e,AV.Zp h as _ h1,AV.Zp h cs _ h2⟩
 | .yield _,_,r=>by simp only [AV.rel] at*;obtain ⟨p,hp,e⟩:=r;exact ⟨p,h.V _ _ hp,e⟩
 | .nilFunc,_,r=>by simpa only [AV.rel] using r
 | .iface _ a,_,r=>by simp only [AV.rel] at*;obtain ⟨u,e,h1⟩:=r;exact ⟨u,e,AV.Zr h a _ h1⟩
 | .nilIface,_,r=>by simpa only [AV.rel] using r
 | .agg cs,_,r=>by simp only [AV.rel] at*;obtain ⟨u,e,h1⟩:=r;exact ⟨u,e,AV.Zp h cs _ h1⟩
 | .tuple cs,_,r=>by simp only [AV.rel] at*;obtain ⟨u,e,h1⟩:=r;exact ⟨u,e,AV.Zp h cs _ h1⟩
 | .any,_,r=>by simpa only [AV.rel] using r
 | .top,_,r=>by simpa only [AV.rel] using r
theorem AV.Zp {X Y:Ext} (h:X.le Y):∀(as:List AV) (vs:List Value),AV.QI X as vs->AV.QI Y as vs
 |[],_,r=>by simpa only [AV.QI] using r
 |a::as,_,r=>by simp only [AV.QI] at*;obtain ⟨v,vs',e,h1,h2⟩:=r;exact ⟨v,vs',e,AV.Zr h a _ h1,AV.Zp h as _ h2⟩
end
section QI
variable {X:Ext}
@[simp] theorem rels_nil {vs:List Value}:AV.QI X [] vs↔vs=[]:=by simp only [AV.QI]
theorem Q8 {a:AV} {as:List AV} {vs:List Value}:AV.QI X (a::as) vs↔∃v vs',vs=v::vs' /\a.rel X v/\AV.QI X as vs' :=by simp only [AV.QI]
@[simp] theorem rels_cons_cons {a:AV} {as:List AV} {v:Value} {vs:List Value}:AV.QI X (a::as) (v::vs)↔a.rel X v/\AV.QI X as vs:=by
 rw [Q8];constructor
 rintro ⟨v',vs',e,h1,h2⟩;cases e;exact ⟨h1,h2⟩
 rintro ⟨h1,h2⟩;exact ⟨v,vs,rfl,h1,h2⟩
@[simp] theorem not_rels_cons_nil {a:AV} {as:List AV}:¬AV.QI X (a::as) []:=by rw [Q8];rintro ⟨_,_,e,_⟩;cases e
theorem Qd:∀{as:List AV} {vs:List Value},AV.QI X as vs->as.length=vs.length
 |[],vs,h=>by rw [rels_nil.1 h];rfl
 |a::as,[],h=>absurd h not_rels_cons_nil
 |a::as,v::vs,h=>by simp only [rels_cons_cons] at h;simp [Qd h.2]
theorem Ya:∀{as:List AV} {vs:List Value} {i:Nat} {a:AV},AV.QI X as vs->as[i]?=some a->∃v,vs[i]?=some v/\a.rel X v
 |[],_,_,_,_,e=>by simp at e
 |a::as,[],_,_,h,_=>absurd h not_rels_cons_nil
 |a::as,v::vs,0,b,h,e=>by simp only [rels_cons_cons] at h;simp at e;subst e;exact ⟨v,rfl,h.1⟩
 |a::as,v::vs,i+1,b,h,e=>by simp only [rels_cons_cons] at h;simp at e;simpa using Ya h.2 e
theorem Zu:∀{as bs:List AV} {vs us:List Value},AV.QI X as vs->AV.QI X bs us->AV.QI X (as++bs) (vs++us)
 |[],_,vs,_,h,k=>by rw [rels_nil.1 h];exact k
 |a::as,_,[],_,h,_=>absurd h not_rels_cons_nil
 |a::as,_,v::vs,_,h,k=>by simp only [rels_cons_cons] at h;simp only [List.cons_append,rels_cons_cons];exact ⟨h.1,Zu h.2 k⟩
theorem Q0k:∀{as:List AV} {vs:List Value} (n:Nat),AV.QI X as vs->AV.QI X (as.take n) (vs.take n)
 |[],vs,n,h=>by rw [rels_nil.1 h];simp
 |a::as,[],_,h=>absurd h not_rels_cons_nil
 |a::as,v::vs,0,h=>by simp
 |a::as,v::vs,n+1,h=>by simp only [rels_cons_cons] at h;simp only [List.take_succ_cons,rels_cons_cons];exact ⟨h.1,Q0k n h.2⟩
theorem Q63:∀{as:List AV} {vs:List Value} (n:Nat),AV.QI X as vs->AV.QI X (as.drop n) (vs.drop n)
 |[],vs,n,h=>by rw [rels_nil.1 h];simp
 |a::as,[],_,h=>absurd h not_rels_cons_nil
 |a::as,v::vs,0,h=>h
 |a::as,v::vs,n+1,h=>by simp only [rels_cons_cons] at h;exact Q63 n h.2
theorem Qa5:∀{as:List AV} {vs:List Value} (i:Nat) {a:AV} {v:Value},AV.QI X as vs->a.rel X v->AV.QI X (as.set i a) (vs.set i v)
 |[],vs,i,_,_,h,_=>by rw [rels_nil.1 h];simp
 |a::as,[],_,_,_,h,_=>absurd h not_rels_cons_nil
 |a::as,v::vs,0,_,_,h,k=>by simp only [rels_cons_cons] at h;simp only [List.set_cons_zero,rels_cons_cons];exact ⟨k,h.2⟩
 |a::as,v::vs,i+1,_,_,h,k=>by simp only [rels_cons_cons] at h;simp only [List.set_cons_succ,rels_cons_cons];exact ⟨h.1,Qa5 i h.2 k⟩
end QI
def AV.cell:AV->Bool
 | .agg _| .tuple _| .top=>false
 |_=>true
theorem Q5k {v:Value} (h:Qjf v=true):Qgi v=true:=by cases v<;>first|rfl|cases h
theorem Q9q {X:Ext} {a:AV} {v:Value} (h:a.rel X v) (hc:a.cell=true):Qgi v=true:=by
 cases a<;>simp only [AV.rel,AV.cell,Bool.false_eq_true] at h hc<;>
  first
   |(subst h;rfl)
   |exact Q5k h
   |(obtain ⟨_,rfl⟩:=h;rfl)
   |(obtain ⟨_,_,rfl⟩:=h;rfl)
   |(obtain ⟨_,_,_,_,rfl|⟨rfl,_⟩,_⟩:=h<;>rfl)
   |(obtain ⟨_,_,_,_,rfl,_⟩:=h;rfl)
   |(obtain ⟨_,_,rfl,_⟩:=h;rfl)
   |(obtain ⟨_,rfl,_⟩:=h;rfl)
   |(obtain ⟨_,_,_,_,rfl,_⟩:=h;rfl)
abbrev AV.undef:AV:= .tuple []
theorem Qw (X:Ext):AV.undef.rel X undef:=by simp only [AV.rel];exact ⟨#[],rfl,rfl⟩
def AV.cellsOf:AV->List AV
 | .agg cs=>cs
 |a=>[a]
theorem Qu {X:Ext} {a:AV} {v:Value} (h:a.rel X v):AV.QI X a.cellsOf v.cells.toList:=by
 cases a with
 |agg cs=>simp only [AV.rel] at h;obtain ⟨vs,rfl,h⟩:=h;exact h
 |tuple cs=>have h' :=h;simp only [AV.rel] at h;obtain ⟨vs,rfl,h⟩:=h;simp only [AV.cellsOf,Value.cells,rels_cons_cons];exact ⟨h',by simp⟩
 |top=>
  have h' :=h;simp only [AV.rel] at h;have hv:v.cells=#[v]:=by cases v<;>first|rfl|cases h
  rw [hv];simp only [AV.cellsOf,rels_cons_cons];exact ⟨h',by simp⟩
 |_=>
  have hv:v.cells=#[v]:=by have:=Q9q h rfl;cases v<;>simp [Qgi] at this<;>rfl
  rw [hv];simp only [AV.cellsOf,rels_cons_cons];exact ⟨h,by simp⟩
def QD (X:Ext) (nt:Nat) (tm:Tr AV) (tmps:Array Value):Prop:=tmps.size=nt/\∀t,((tm.get t).getD .undef).rel X (tmps.getD t undef)
inductive Q7 where
 |dead
 |cells (cs:List AV) (elem:TypeId) (ex pl ro:Bool)
 |map (es:List (AV×AV×Nat)) (clock:Nat)
 |lmap (es:List (AV×AV))
 |iter (m:Option Nat) (since:Nat) (seen:List Nat) (stepped:Nat)
 |loop (st:LoopState) (pending:Option Code) (fn nt:Nat) (tm:Tr AV) (params:Array Tmp) (assign body:Code) (defers:Nat)
 |defs
 |bytes (s:ST) (l:Nat) (el:TypeId)
 |pre (s:ST) (n:Nat) (el:TypeId)
def Q7.live:Q7->Bool
 | .dead=>false
 |_=>true
def Q7.Q5e:Q7->Bool
 | .dead=>false
 | .cells _ _ _ pl ro=>!ro||pl
 |_=>true
theorem Q7.JJ {o:Q7} (h:o.Q5e=true):o.live=true:=by cases o<;>first|rfl|cases h
def Q7.rw:Q7->Bool
 | .dead=>false
 | .cells _ _ _ _ ro=>!ro
 |_=>true
theorem Q7.Qjq {o:Q7} (h:o.rw=true):o.Q5e=true:=by cases o<;>first|rfl|cases h|(simp only [Q7.rw] at h;simp only [Q7.Q5e,h,Bool.true_or])
def Q9 (X:Ext):List (AV×AV×Nat)->List MapEntry->Prop
 |[],es=>es=[]
 |x::xs,es=>∃e es',es=e::es' /\x.1.rel X e.key/\x.2.1.rel X e.val/\e.born=x.2.2/\Q9 X xs es'
theorem JL {X Y:Ext} (h:X.le Y):∀(xs:List (AV×AV×Nat)) (es:List MapEntry),Q9 X xs es->Q9 Y xs es
 |[],_,r=>r
 |_::xs,_,⟨e,es',r,h1,h2,h3,h4⟩=>⟨e,es',r,AV.Zr h _ _ h1,AV.Zr h _ _ h2,h3,JL h xs es' h4⟩
def ZU (X:Ext):List (AV×AV)->List MapEntry->Prop
 |[],es=>es=[]
 |x::xs,es=>∃e es',es=e::es' /\x.1.rel X e.key/\x.2.rel X e.val/\ZU X xs es'
theorem zM {X Y:Ext} (h:X.le Y):∀(xs:List (AV×AV)) (es:List MapEntry),ZU X xs es->ZU Y xs es
 |[],_,r=>r
 |_::xs,_,⟨e,es',r,h1,h2,h4⟩=>⟨e,es',r,AV.Zr h _ _ h1,AV.Zr h _ _ h2,zM h xs es' h4⟩
def jf (X:Ext) (o:Q7) (p:Place) (ob:Option Obj):Prop:=
 match o with
 | .dead=>True
 | .cells cs elem ex pl ro=>∃c fr,(∃el,ob=some (.cells c el fr)/\(ro=true\/el=elem))/\c.size=p.n/\p.base+cs.length<=p.n/\(ex=true->p.base=0/\p.n=cs.length)/\
  (∀i a,cs[i]?=some a->∃v,c[p.base+i]?=some v/\a.rel X v)/\(ro=true\/p.n<=fr.1\/fr=(0,0))/\(pl=true->fr=(0,0))
 | .map es clock=>∃es',ob=some (.map es' clock)/\Q9 X es es'.toList
 | .lmap es=>∃es' clock l,ob=some (.map es' clock)/\ZU X es l/\l.Perm es'.toList
 | .iter m since seen stepped=>p.base=0/\∃m',ob=some (.mapIter m' since seen.toArray stepped)/\
  (match m with|none=>m' =none|some r=>∃q,X.V r=some q/\m' =some q.blk)
 | .loop st pending fn nt tm params assign body defers=>∃tmps d,ob=some (.loop { state:=st,pending,fn,tmps,params,assign,body,defers:=d})/\QD X nt tm tmps/\
  ∃q,X.V defers=some q/\d=q.blk
 | .defs=>ob=some (.deferred (some []))
 | .bytes s l el=>s.ok X.dom/\s.fit X.O/\X.dom l/\X.O.int l=((s.den X.O).length:Int)/\∃c fr,ob=some (.cells c el fr)/\c.size=p.n/\p.base+(s.den X.O).length<=p.n/\
  (∀(i:Nat) (b:UInt8),(s.den X.O)[i]?=some b->c[p.base+i]?=some (Value.int .u8 (b.toNat:Int)))/\(p.n<=fr.1\/fr=(0,0))/\(s.den X.O).length<=4000000
 | .pre s n el=>s.ok X.dom/\s.fit X.O/\p.base=0/\p.n=n/\(s.den X.O).length<=n/\∃c,ob=some (.cells c el (0,0))/\c.size=n/\
  ∀(i:Nat) (b:UInt8),(s.den X.O)[i]?=some b->c[i]?=some (Value.int .u8 (b.toNat:Int))
theorem Yf {X Y:Ext} (h:X.le Y) {nt:Nat} {tm:Tr AV} {tmps:Array Value} (r:QD X nt tm tmps):QD Y nt tm tmps:=⟨r.1,λt=>AV.Zr h _ _ (r.2 t)⟩
theorem Zh {X Y:Ext} (h:X.le Y) {o:Q7} {p:Place} {ob:Option Obj} (r:jf X o p ob):jf Y o p ob:=by
 cases o with
 |dead=>trivial
 |cells cs elem ex pl ro=>obtain ⟨c,fr,h1,h2,h3,h4,h5,h6⟩:=r;exact ⟨c,fr,h1,h2,h3,h4,λi a e=>let ⟨v,hv,hr⟩:=h5 i a e;⟨v,hv,AV.Zr h _ _ hr⟩,h6⟩
 |map es clock=>obtain ⟨es',h1,h2⟩:=r;exact ⟨es',h1,JL h _ _ h2⟩
 |lmap es=>obtain ⟨es',cl,l,h1,h2,h3⟩:=r;exact ⟨es',cl,l,h1,zM h _ _ h2,h3⟩
 |iter m since seen stepped=>
  obtain ⟨h0,m',h1,h2⟩:=r;refine ⟨h0,m',h1,?_⟩;cases m with
  |none=>exact h2
  |some r=>obtain ⟨q,hq,e⟩:=h2;exact ⟨q,h.V _ _ hq,e⟩
 |loop st pending fn nt tm params assign body defers=>obtain ⟨tmps,d,h1,h2,q,hq,e⟩:=r;exact ⟨tmps,d,h1,Yf h h2,q,h.V _ _ hq,e⟩
 |defs=>exact r
 |bytes st l el=>obtain ⟨h3,h4,h5,h6,c,fr,h1,h2,h7,h8,h9,h10⟩:=r;have e:=ST.Qc h.O h3;refine ⟨ST.Ql h.dom h3,ST.Q18 h.O h3 h4,h.dom _ h5,?_,c,fr,h1,h2,?_,?_,h9,by rw [e];exact h10⟩;rw [(h.O _ h5).1,e];exact h6;rw [e];exact h7;rw [e];exact h8
 |pre st n el=>obtain ⟨h3,h0,h4,h5,h6,c,h1,h2,h7⟩:=r;have e:=ST.Qc h.O h3;exact ⟨ST.Ql h.dom h3,ST.Q18 h.O h3 h0,h4,h5,by rw [e];exact h6,c,h1,h2,by rw [e];exact h7⟩
structure Qn (X:Ext) (n0:Nat) (H:Tr Q7) (w:World):Prop where
 obj:∀b o p,H.get b=some o->X.V b=some p->jf X o p w.heap[p.blk]?
 inj:∀b b' o o' p p',H.get b=some o->H.get b' =some o' ->o.live=true->o'.Q5e=true->X.V b=some p->X.V b' =some p' ->p.blk=p'.blk->b=b'
 lt:∀b p,X.V b=some p->p.blk<w.heap.size
 own:∀b o p,H.get b=some o->o.rw=true->X.V b=some p->n0<=p.blk
def Ext.add (X:Ext) (b:Nat) (p:Place):Ext:={ X with V:=λi=>if i=b then some p else X.V i}
theorem Ext.Zk {X:Ext} {b:Nat} {p:Place} (h:X.V b=none):X.le (X.add b p):=⟨λi q hq=>by simp only [Ext.add];by_cases e:i=b;subst e;rw [h] at hq;cases hq;rw [if_neg e];exact hq,λ_ _=>⟨rfl,rfl⟩⟩
theorem Ext.add_same (X:Ext) (b:Nat) (p:Place):(X.add b p).V b=some p:=by simp [Ext.add]
theorem Ext.Z9 {X:Ext} {b i:Nat} {p:Place} (h:i≠b):(X.add b p).V i=X.V i:=by simp [Ext.add,h]
namespace Qn
variable {X:Ext} {n0:Nat} {H:Tr Q7} {w:World}
theorem pend (h:Qn X n0 H w) {b:Nat} (o:Q7) (hb:X.V b=none):Qn X n0 (H.set b o) w:=by
 refine ⟨λi o' p hi hp=>?_,λi j o1 o2 p q hi hj l1 l2 hp hq e=>?_,h.lt,λi o' p hi hl hp=>?_⟩;by_cases e:i=b;subst e;rw [hb] at hp;cases hp;rw [Tr.Q0 _ _ e] at hi;exact h.obj i o' p hi hp;have e1:i≠b:=λe=>by subst e;rw [hb] at hp;cases hp
 have e2:j≠b:=λe=>by subst e;rw [hb] at hq;cases hq
 rw [Tr.Q0 _ _ e1] at hi;rw [Tr.Q0 _ _ e2] at hj;exact h.inj i j o1 o2 p q hi hj l1 l2 hp hq e;have e1:i≠b:=λe=>by subst e;rw [hb] at hp;cases hp
 rw [Tr.Q0 _ _ e1] at hi;exact h.own i o' p hi hl hp
theorem Q00 (w:World) (ob:Obj) {k:Nat} (hk:k<w.heap.size):(w.heap.push ob)[k]?=w.heap[k]?:=by rw [Array.getElem?_push,if_neg (by omega)]
theorem bear (h:Qn X n0 H w) (h0:n0<=w.heap.size) {b:Nat} {o:Q7} (hb:X.V b=none) (ho:H.get b=some o) (ob:Obj) (n:Nat)
 (hr:jf (X.add b ⟨w.heap.size,0,n⟩) o ⟨w.heap.size,0,n⟩ (some ob)):Qn (X.add b ⟨w.heap.size,0,n⟩) n0 H { w with heap:=w.heap.push ob}:=by
 have hle:=Ext.Zk (p:=⟨w.heap.size,0,n⟩) hb;have key:∀i p,(X.add b ⟨w.heap.size,0,n⟩).V i=some p->(i=b/\p=⟨w.heap.size,0,n⟩)\/(i≠b/\X.V i=some p/\p.blk<w.heap.size):=by
  intro i p hp;by_cases e:i=b;subst e;rw [Ext.add_same] at hp;exact .inl ⟨rfl,(Option.some.inj hp).symm⟩
  rw [Ext.Z9 e] at hp;exact .inr ⟨e,hp,h.lt _ _ hp⟩
 refine ⟨λi o' p hi hp=>?_,λi j o1 o2 p q hi hj l1 l2 hp hq e=>?_,λi p hp=>?_,λi o' p hi hl hp=>?_⟩;rcases key i p hp with ⟨rfl,rfl⟩|⟨e,hp',hlt⟩;rw [ho] at hi;cases hi;simpa using hr;show jf _ o' p (w.heap.push ob)[p.blk]?
 rw [Q00 _ _ hlt];exact Zh hle (h.obj i o' p hi hp');rcases key i p hp with ⟨rfl,rfl⟩|⟨e1,hp',hlt⟩<;>rcases key j q hq with ⟨rfl,rfl⟩|⟨e2,hq',hlt'⟩;rfl;simp at e;omega;simp at e;omega;exact h.inj i j o1 o2 p q hi hj l1 l2 hp' hq' e;show p.blk<(w.heap.push ob).size
 rw [Array.size_push];rcases key i p hp with ⟨rfl,rfl⟩|⟨_,_,hlt⟩;simp;omega;rcases key i p hp with ⟨rfl,rfl⟩|⟨_,hp',_⟩;exact h0;exact h.own i o' p hi hl hp'
theorem alloc (h:Qn X n0 H w) (h0:n0<=w.heap.size) {b:Nat} (o:Q7) (hb:X.V b=none) (ob:Obj) (n:Nat)
 (hr:jf (X.add b ⟨w.heap.size,0,n⟩) o ⟨w.heap.size,0,n⟩ (some ob)):Qn (X.add b ⟨w.heap.size,0,n⟩) n0 (H.set b o) { w with heap:=w.heap.push ob}:=
 (h.pend o hb).bear h0 hb (Tr.get_set_same _ _ _) ob n hr
theorem kill (h:Qn X n0 H w) (b:Nat):Qn X n0 (H.set b .dead) w:=by
 refine ⟨λi o' p hi hp=>?_,λi j o1 o2 p q hi hj l1 l2 hp hq e=>?_,h.lt,λi o' p hi hl hp=>?_⟩;by_cases e:i=b;subst e;rw [Tr.get_set_same] at hi;cases hi;trivial;rw [Tr.Q0 _ _ e] at hi;exact h.obj i o' p hi hp;have e1:i≠b:=λe=>by subst e;rw [Tr.get_set_same] at hi;cases hi;cases l1
 have e2:j≠b:=λe=>by subst e;rw [Tr.get_set_same] at hj;cases hj;cases l2
 rw [Tr.Q0 _ _ e1] at hi;rw [Tr.Q0 _ _ e2] at hj;exact h.inj i j o1 o2 p q hi hj l1 l2 hp hq e;have e1:i≠b:=λe=>by subst e;rw [Tr.get_set_same] at hi;cases hi;cases hl
 rw [Tr.Q0 _ _ e1] at hi;exact h.own i o' p hi hl hp
theorem change (h:Qn X n0 H w) {b:Nat} {o o' :Q7} {p:Place} (hb:H.get b=some o) (hl:o.rw=true) (hp:X.V b=some p) {w' :World}
 (hsz:w'.heap.size=w.heap.size) (hne:∀k,k≠p.blk->w'.heap[k]?=w.heap[k]?) (hr:jf X o' p w'.heap[p.blk]?):
 Qn X n0 (H.set b o') w' :=by
 have hfirm:=Q7.Qjq hl;refine ⟨λi o1 q hi hq=>?_,λi j o1 o2 q r hi hj l1 l2 hq hr' e=>?_,λi q hq=>by rw [hsz];exact h.lt i q hq,λi o1 q hi hl1 hq=>?_⟩;by_cases e:i=b;subst e;rw [Tr.get_set_same] at hi;cases hi;rw [hp] at hq;cases hq;exact hr;rw [Tr.Q0 _ _ e] at hi;by_cases hlv:o1.live=true;have hk:q.blk≠p.blk:=λhk=>e (h.inj i b o1 o q p hi hb hlv hfirm hq hp hk)
 rw [hne _ hk];exact h.obj i o1 q hi hq;cases o1<;>simp [Q7.live] at hlv;trivial;have base:∀k ok,(H.set b o').get k=some ok->ok.live=true->∃ok',H.get k=some ok' /\ok'.live=true:=by intro k ok hk hlk;by_cases e:k=b;subst e;exact ⟨o,hb,Q7.JJ hfirm⟩;rw [Tr.Q0 _ _ e] at hk;exact ⟨ok,hk,hlk⟩
 have base2:∀k ok,(H.set b o').get k=some ok->ok.Q5e=true->∃ok',H.get k=some ok' /\ok'.Q5e=true:=by intro k ok hk hlk;by_cases e:k=b;subst e;exact ⟨o,hb,hfirm⟩;rw [Tr.Q0 _ _ e] at hk;exact ⟨ok,hk,hlk⟩
 obtain ⟨a1,h1,m1⟩:=base i o1 hi l1;obtain ⟨a2,h2,m2⟩:=base2 j o2 hj l2;exact h.inj i j a1 a2 q r h1 h2 m1 m2 hq hr' e;by_cases e:i=b;subst e;rw [hp] at hq;cases hq;exact h.own i o p hb hl hp;rw [Tr.Q0 _ _ e] at hi;exact h.own i o1 q hi hl1 hq
theorem cell (h:Qn X n0 H w) {b i:Nat} {cs:List AV} {elem:TypeId} {ex pl ro:Bool} {p:Place} {a:AV} (hb:H.get b=some (.cells cs elem ex pl ro)) (hp:X.V b=some p)
 (hi:cs[i]?=some a):∃v,w.cell? ⟨p.blk,p.base+i,none⟩=some v/\a.rel X v:=by
 obtain ⟨c,fr,⟨el,h1,_⟩,_,_,_,h5,_⟩:=h.obj b _ p hb hp;obtain ⟨v,hv,hr⟩:=h5 i a hi;refine ⟨v,?_,hr⟩;unfold World.cell?;simp only [h1];simpa using hv
theorem notFrozen (h:Qn X n0 H w) {b i:Nat} {cs:List AV} {elem:TypeId} {ex pl:Bool} {p:Place} (hb:H.get b=some (.cells cs elem ex pl false)) (hp:X.V b=some p)
 (hi:p.base+i<p.n):w.frozen? ⟨p.blk,p.base+i,none⟩=false:=by
 obtain ⟨c,fr,⟨el,h1,_⟩,h2,h3,_,_,h6,_⟩:=h.obj b _ p hb hp;obtain ⟨lo,hi'⟩:=fr;unfold World.frozen?;simp only [h1];rcases h6 with h6|h6|h6;cases h6;have:¬lo<=p.base+i:=by simp only at h6;omega
 simp [this];simp only [Prod.mk.injEq] at h6;obtain ⟨rfl,rfl⟩:=h6;simp
theorem store (h:Qn X n0 H w) {b i:Nat} {cs:List AV} {elem:TypeId} {ex pl:Bool} {p:Place} {a:AV} {v:Value} (hb:H.get b=some (.cells cs elem ex pl false)) (hp:X.V b=some p)
 (hi:i<cs.length) (hv:a.rel X v):Qn X n0 (H.set b (.cells (cs.set i a) elem ex pl false)) (w.setCell ⟨p.blk,p.base+i,none⟩ v):=by
 obtain ⟨c,fr,⟨el,h1,hel⟩,h2,h3,h4,h5,h6⟩:=h.obj b _ p hb hp;have hel' :el=elem:=by rcases hel with h|h<;>first|exact h|cases h
 rw [hel'] at h1;have hlt:=h.lt b p hp;have hget:(w.setCell ⟨p.blk,p.base+i,none⟩ v).heap[p.blk]?=some (.cells (c.setIfInBounds (p.base+i) v) elem fr):=by simp only [World.setCell,Array.getElem?_modify,if_true,h1];rfl
 refine h.change hb rfl hp (by simp [World.setCell]) (λk hk=>Below.heap_setCell _ _ _ _ hk) ?_;rw [hget];refine ⟨_,fr,⟨_,rfl, .inr rfl⟩,by simpa using h2,by simpa using h3,by simpa using h4,λj a' hj=>?_,h6⟩;by_cases e:j=i;subst e;rw [List.getElem?_set_self hi] at hj;cases hj;refine ⟨v,?_,hv⟩;rw [Array.getElem?_setIfInBounds_self_of_lt];omega;rw [List.getElem?_set_ne (by omega)] at hj;obtain ⟨u,hu,hr⟩:=h5 j a' hj;refine ⟨u,?_,hr⟩;rw [Array.getElem?_setIfInBounds_ne (by omega)];exact hu
end Qn
end Go.Ax
namespace Go.Ax
open Go.RowKit
structure TI where
 desc:TypeDesc
 size:Nat
 bytes:Nat
 zero:AV
 comparable:Bool
 methods:Array Method
 cmpOK:Bool
structure Tab where
 types:Tr TI
 funcs:Tr Func
 ng:Nat
 nops:List Nat
def Q3q (P:Program) (f:FuncId):Prop:=
 (∀args w,(callFunc f args).run P w= .ok (.enter f args) w)/\
 ∀(fr:Frame) (cs:List Frame) (w:World) (args:Array Value),fr.mode= .returning->Steps P (lone (Frame.enter P f args .deferred) (fr::cs) w) (lone fr cs w)
structure Tab.OK (P:Program) (T:Tab):Prop where
 types:∀t ti,T.types.get t=some ti->P.underlying t=some ti.desc/\∃i z,P.info? t=some i/\i.size=ti.size/\i.bytes=ti.bytes/\i.comparable=ti.comparable/\i.methods=ti.methods/\
  i.zero=some z/\∀X,ti.zero.rel X z
 cmp:∀t ti,T.types.get t=some ti->ti.cmpOK=true->P.eqGuardType P.depth t=false/\P.stoodInHeld t=false/\∀fs,ti.desc= .struct fs->∀f∈fs.toList,f.name≠ "_"
 funcs:∀f fn,T.funcs.get f=some fn->P.funcs[f]?=some fn/\∀args w,(callFunc f args).run P w= .ok (.enter f args) w
 mixed:P.follows .mixedOrders=true
 nops:∀f∈T.nops,Q3q P f
noncomputable def Tab.ty (T:Tab) (t:TypeId):Option TI:=T.types.get t
section tables
variable {P:Program} {T:Tab} (hT:T.OK P) {t:TypeId} {ti:TI} (h:T.ty t=some ti) (w:World)
include hT h
theorem Tab.und:P.underlying t=some ti.desc:=(hT.types t ti h).1
theorem Tab.Qe:(underlying t).run P w= .ok ti.desc w:=run_underlying (T.und hT h) w
theorem Tab.YA:∃i,(typeInfo t).run P w= .ok i w/\i.size=ti.size/\i.bytes=ti.bytes/\i.comparable=ti.comparable/\i.methods=ti.methods:=by obtain ⟨_,i,z,h1,h2,h3,h4,h5,_⟩:=hT.types t ti h;exact ⟨i,by simp [typeInfo,h1],h2,h3,h4,h5⟩
theorem Tab.Qx:(sizeOf t).run P w= .ok ti.size w:=by obtain ⟨i,h1,h2,_⟩:=T.YA hT h w;simp [sizeOf,h1,h2]
theorem Tab.ZT:∃z,(zeroValue t).run P w= .ok z w/\∀X,ti.zero.rel X z:=by obtain ⟨_,i,z,h1,_,_,_,_,h6,h7⟩:=hT.types t ti h;exact ⟨z,by simp [zeroValue,typeInfo,h1,h6],h7⟩
end tables
def Q15:TypeDesc->Bool
 | .struct _| .array _ _=>true
 |_=>false
theorem Tab.Q5v {P:Program} {T:Tab} (hT:T.OK P) {t:TypeId} {ti:TI} (h:T.ty t=some ti) (w:World):(isAgg t).run P w= .ok (Q15 ti.desc) w:=by simp only [isAgg,Sem.run_bind,T.Qe hT h,Result.andThen_ok];cases ti.desc<;>rfl
def Qlt (f:Value->Option AV):List Value->Option (List AV)
 |[]=>some []
 |v::vs=>match f v with
  |none=>none
  |some a=>match Qlt f vs with
   |none=>none
   |some as=>some (a::as)
theorem Q46 {X:Ext} {f:Value->Option AV} (hf:∀v a,f v=some a->a.rel X v):∀{vs:List Value} {as:List AV},Qlt f vs=some as->AV.QI X as vs
 |[],_,h=>by simp [Qlt] at h;subst h;simp
 |v::vs,as,h=>by simp only [Qlt] at h;split at h;cases h;rename_i a ha;split at h;cases h;rename_i bs hb;cases h;simp only [rels_cons_cons];exact ⟨hf _ _ ha,Q46 hf hb⟩
def Q7b (s:ByteArray):List E:=s.data.toList.map λb=> .lit (Int.ofNat b.toNat)
theorem Qfr (n:Nat->Prop) (O:Val) (s:ByteArray):S.okN n O (Q7b s):=by intro t ht;simp only [Q7b,List.mem_map] at ht;obtain ⟨b,_,rfl⟩:=ht;have:=b.toNat_lt;simp only [E.den,Int.ofNat_eq_natCast];exact ⟨trivial,by omega⟩
theorem Q7a (O:Val) (s:ByteArray):S.bytes O (Q7b s)=s.data.toList:=by simp [S.bytes,Q7b,E.den,List.map_map,Function.comp_def]
noncomputable def ofV:Nat->Value->Option AV
 |0,_=>none
 |n+1,v=>match v with
  | .bool b=>some (.bool b)
  | .int k n=>some (.int k (.Q22 n))
  | .string s=>some (.str (Q7b s))
  | .pointer none=>some .nilptr
  | .slice none 0 0=>some .nilslice
  | .map none=>some .nilmap
  | .func (.func f) as cs=>bif as.isEmpty&&cs.isEmpty then some (.func f [] []) else none
  | .nilFunc=>some .nilFunc
  | .iface t v=>match ofV n v with|none=>none|some a=>some (.iface t a)
  | .nilIface=>some .nilIface
  | .agg vs=>match Qlt (ofV n) vs.toList with|none=>none|some as=>some (.agg as)
  | .tuple vs=>match Qlt (ofV n) vs.toList with|none=>none|some as=>some (.tuple as)
  |_=>none
theorem jw (X:Ext):∀(n:Nat) (v:Value) (a:AV),ofV n v=some a->a.rel X v
 |0,_,_,h=>by simp [ofV] at h
 |n+1,v,a,h=>by
  unfold ofV at h;split at h;cases h;simp only [AV.rel];simp only [E.litS_eq,Option.some.injEq] at h;subst h;simp only [AV.rel,E.den];exact ⟨trivial,trivial⟩;cases h;rename_i s;simp only [AV.rel,Q7a];exact ⟨Qfr _ _ _,trivial⟩;cases h;simp only [AV.rel];cases h;simp only [AV.rel];cases h;simp only [AV.rel];rename_i f as cs;cases he:(as.isEmpty&&cs.isEmpty) with
  |false=>rw [he] at h;cases h
  |true=>rw [he] at h;cases h;simp only [Bool.and_eq_true,Array.isEmpty_iff] at he;simp only [AV.rel,he.1,he.2];exact ⟨#[],#[],rfl,by simp,by simp⟩
  cases h;simp only [AV.rel];rename_i t u;split at h;cases h;rename_i b hb;cases h;simp only [AV.rel];exact ⟨u,rfl,jw X n _ _ hb⟩;cases h;simp only [AV.rel];split at h;cases h;rename_i b hb;cases h;simp only [AV.rel];exact ⟨_,rfl,Q46 (jw X n) hb⟩;split at h;cases h;rename_i b hb;cases h;simp only [AV.rel];exact ⟨_,rfl,Q46 (jw X n) hb⟩;cases h
noncomputable def ev (ng:Nat) (tm:Tr AV):Operand->Option AV
 | .tmp t=>some ((tm.get t).getD .undef)
 | .const v=>ofV 6 v
 | .global g=>bif Nat.blt g ng then some (.ptr g 0) else none
 | .func f=>some (.func f [] [])
def evC (tmps:Array Value):Operand->Value
 | .tmp t=>tmps.getD t undef
 | .const v=>v
 | .global g=> .pointer (some ⟨g,0,none⟩)
 | .func f=> .func (.func f) #[] #[]
theorem YD (fr:Frame):fr.eval=evC fr.tmps:=by funext x;cases x<;>rfl
def Ext.Qo (X:Ext) (ng:Nat):Prop:=∀g,g<ng->∃n,X.V g=some ⟨g,0,n⟩
theorem Ext.ZO {X Y:Ext} {ng:Nat} (h:X.Qo ng) (k:X.le Y):Y.Qo ng:=λg hg=>let ⟨n,e⟩:=h g hg;⟨n,k.V _ _ e⟩
theorem Qar {X:Ext} {ng nt:Nat} {tm:Tr AV} {tmps:Array Value} (hm:QD X nt tm tmps) (hg:X.Qo ng) {o:Operand} {a:AV} (h:ev ng tm o=some a):a.rel X (evC tmps o):=by
 cases o with
 |tmp t=>simp only [ev,Option.some.injEq] at h;subst h;exact hm.2 t
 |const v=>exact jw X 6 v a h
 |global g=>
  simp only [ev] at h;cases hb:Nat.blt g ng with
  |false=>rw [hb] at h;cases h
  |true=>rw [hb] at h;cases h;obtain ⟨n,hn⟩:=hg g (by simpa using hb);simp only [AV.rel];exact ⟨_,hn,by simp [evC]⟩
 |func f=>simp only [ev,Option.some.injEq] at h;subst h;simp only [AV.rel];exact ⟨#[],#[],rfl,by simp,by simp⟩
noncomputable def evs (f:Operand->Option AV):List Operand->Option (List AV)
 |[]=>some []
 |x::xs=>match f x with
  |none=>none
  |some a=>match evs f xs with
   |none=>none
   |some as=>some (a::as)
def Y6 {α:Type}:Nat->List α->List α->List α
 |_,[],cs=>cs
 |o,x::xs,cs=>Y6 (o+1) xs (cs.set o x)
theorem zB {α:Type}:∀(xs:List α) (o:Nat) (cs:List α),(Y6 o xs cs).length=cs.length
 |[],_,_=>rfl
 |x::xs,o,cs=>by rw [Y6,zB];simp
theorem Q0l {X:Ext}:∀{as:List AV} {vs:List Value} (o:Nat) {cs:List AV} {us:List Value},AV.QI X as vs->AV.QI X cs us->AV.QI X (Y6 o as cs) (Y6 o vs us)
 |[],vs,_,_,_,h,k=>by rw [rels_nil.1 h];exact k
 |a::as,[],_,_,_,h,_=>absurd h not_rels_cons_nil
 |a::as,v::vs,o,cs,us,h,k=>by simp only [rels_cons_cons] at h;exact Q0l (o+1) h.2 (Qa5 o k h.1)
theorem foldl_set (off:Nat):∀(xs:List Value) (k:Nat) (c:Array Value),((xs.zipIdx k).foldl (λcs (p:Value×Nat)=>cs.setIfInBounds (off+p.2) p.1) c).toList=Y6 (off+k) xs c.toList
 |[],_,_=>rfl
 |x::xs,k,c=>by simp only [List.zipIdx_cons,List.foldl_cons,Y6];rw [foldl_set off xs (k+1)];simp [Nat.add_assoc]
noncomputable def Q2e (place:Nat->Option (Nat×Nat)) (cells:List AV):List (Nat×AV)->Option (List AV)
 |[]=>some cells
 |(i,v)::rest=>
  match place i with
  |none=>none
  |some (off,size)=>bif Nat.beq v.cellsOf.length size&&Nat.ble (off+size) cells.length then Q2e place (Y6 off v.cellsOf cells) rest else none
inductive Jc (X:Ext):List (Nat×AV)->List (Nat×Value)->Prop where
 |nil:Jc X [] []
 |cons {i:Nat} {a:AV} {v:Value} {as:List (Nat×AV)} {vs:List (Nat×Value)}:a.rel X v->Jc X as vs->Jc X ((i,a)::as) ((i,v)::vs)
theorem Jq {X:Ext} {place:Nat->Option (Nat×Nat)}:∀{as:List (Nat×AV)} {vs:List (Nat×Value)} {cs:List AV} {c:Array Value} {r:List AV},Jc X as vs->AV.QI X cs c.toList->
 Q2e place cs as=some r->∃c',Instr.fill place c vs=some c' /\AV.QI X r c'.toList
 |_,_,cs,c,r, .nil,hc,h=>by simp only [Q2e,Option.some.injEq] at h;subst h;exact ⟨c,rfl,hc⟩
 |_,_,cs,c,r, .cons (i:=i) (a:=a) (v:=v) ha hr,hc,h=>by
  simp only [Q2e] at h;simp only [Instr.fill];split at h;cases h;rename_i off size hp;rw [hp];have hcell:=Qu ha;have hl:=Qd hcell;have hl2:=Qd hc;cases hb:(Nat.beq a.cellsOf.length size&&Nat.ble (off+size) cs.length) with
  |false=>rw [hb] at h;cases h
  |true=>
   rw [hb] at h;simp only [Bool.and_eq_true,Nat.beq_eq,Nat.ble_eq] at hb;have hsz:v.cells.size=size:=by rw [<-hb.1,hl];simp
   have hoff:¬(off+v.cells.size>c.size):=by
    rw [hsz];have:cs.length=c.size:=by rw [hl2];simp
    omega
   simp only [hsz,ne_eq,not_true_eq_false,decide_false,Bool.false_or,decide_eq_true_eq];rw [hsz] at hoff;rw [if_neg hoff];refine Jq hr ?_ h;have:(v.cells.zipIdx.foldl (λcs (p:Value×Nat)=>cs.setIfInBounds (off+p.2) p.1) c).toList=Y6 (off+0) v.cells.toList c.toList:=by rw [<-foldl_set off v.cells.toList 0 c,<-Array.foldl_toList];simp
   rw [show (v.cells.zipIdx.foldl (λcs x=>match x with|(c,j)=>cs.setIfInBounds (off+j) c) c)=v.cells.zipIdx.foldl (λcs (p:Value×Nat)=>cs.setIfInBounds (off+p.2) p.1) c from rfl,this];exact Q0l (off+0) hcell hc
def YE (z:List AV) (n:Nat):List AV:=
 match z with
 |[a]=>List.replicate n a
 |_=>(List.range n).map λi=>z.getD (i%z.length) .undef
theorem J2 {X:Ext} {z:List AV} {c:Array Value} (h:AV.QI X z c.toList) (n:Nat) (hn:n=0\/0<c.size):AV.QI X (YE z n) ((Array.range n).map (λi=>c[i%c.size]!)).toList:=by
 have hl:=Qd h;have key:AV.QI X ((List.range n).map λi=>z.getD (i%z.length) .undef) ((Array.range n).map (λi=>c[i%c.size]!)).toList:=by
  rw [Array.toList_map,Array.toList_range];have aux:∀(l:List Nat),(∀i∈l,i<n)->AV.QI X (l.map λi=>z.getD (i%z.length) .undef) (l.map λi=>c[i%c.size]!):=by
   intro l;induction l with
   |nil=>intro _;simp
   |cons i l ih=>
    intro hi;have h0:=hi i (by simp);simp only [List.map_cons,rels_cons_cons];refine ⟨?_,ih λj hj=>hi j (by simp [hj])⟩
    have hc:0<c.size:=by rcases hn with rfl|hn; . omega
                         exact hn
    have hzl:z.length=c.size:=by rw [hl];simp
    have hlt:i%z.length<z.length:=Nat.mod_lt _ (by omega);obtain ⟨v,hv,hr⟩:=Ya h (List.getElem?_eq_getElem hlt);have e1:z.getD (i%z.length) .undef=z[i%z.length]:=by simp [List.getD,List.getElem?_eq_getElem hlt]
    have e2:c[i%c.size]! =v:=by
     rw [<-hzl];have:c[i%z.length]?=some v:=by simpa using hv
     rw [getElem!_def,this]
    rw [e1,e2];exact hr
  exact aux _ (λi hi=>by simpa using hi)
 unfold YE;split;rename_i a;have:(List.range n).map (λi=>[a].getD (i% [a].length) .undef)=List.replicate n a:=by rw [List.eq_replicate_iff];refine ⟨by simp,λb hb=>?_⟩;simp only [List.mem_map] at hb;obtain ⟨i,_,rfl⟩:=hb;simp [Nat.mod_one]
 rw [<-this];exact key;exact key
noncomputable def apart (T:Tab) (t:TypeId) (cs:List AV) (off:Nat):Option AV:=
 match T.ty t with
 |none=>none
 |some ti=>bif Q15 ti.desc then some (.agg ((cs.drop off).take ti.size)) else cs[off]?
theorem Yv {P:Program} {T:Tab} (hT:T.OK P) {X:Ext} {t:TypeId} {cs:List AV} {off:Nat} {a:AV} {c:Array Value} (hc:AV.QI X cs c.toList) (h:apart T t cs off=some a) (w:World):
 ∃v,(part t c off).run P w= .ok v w/\a.rel X v:=by
 unfold apart at h;split at h;cases h;rename_i ti hti;simp only [part,Sem.run_bind,T.Q5v hT hti,Result.andThen_ok];cases hd:Q15 ti.desc with
 |true=>
  rw [hd] at h;cases h;have e:(do pure (.agg (c.extract off (off+(<-sizeOf t)))):Sem Value).run P w= .ok (.agg (c.extract off (off+ti.size))) w:=by simp [T.Qx hT hti]
  refine ⟨_,e,?_⟩;simp only [AV.rel];refine ⟨_,rfl,?_⟩;have:=Q0k ti.size (Q63 off hc);simpa [List.take_drop,Nat.add_comm] using this
 |false=>
  rw [hd] at h;obtain ⟨v,hv,hr⟩:=Ya hc (show cs[off]?=some a from h);have hv' :c[off]?=some v:=by simpa using hv
  simp only [Bool.false_eq_true,if_false,hv'];exact ⟨v,rfl,hr⟩
end Go.Ax
namespace Go.Ax
open Go.RowKit
inductive D (α:Type) where
 |ok (a:α)
 |ask (op:BinOp) (a b:E)
 |fail
def D.bind {α β:Type} (d:D α) (f:α->D β):D β:=
 match d with
 | .ok a=>f a
 | .ask op a b=> .ask op a b
 | .fail=> .fail
def D.of {α:Type}:Option α->D α
 |some a=> .ok a
 |none=> .fail
theorem D.bind_ok {α β:Type} {d:D α} {f:α->D β} {b:β} (h:d.bind f= .ok b):∃a,d= .ok a/\f a= .ok b:=by cases d<;>simp only [D.bind,reduceCtorEq] at h;exact ⟨_,rfl,h⟩
theorem D.Qv {α:Type} {o:Option α} {a:α} (h:D.of o= .ok a):o=some a:=by cases o<;>simp [D.of] at h;rw [h]
noncomputable def S.eq (c:Ctx):List E->List E->D Bool
 |[],[]=> .ok true
 |a::as,b::bs=>match E.cmp c .eql a b with
  |some true=>S.eq c as bs
  |some false=> .ok false
  |none=> .ask .eql a b
 |_,_=> .ok false
theorem Qie {x y:Int} (hx:0<=x/\x<256) (hy:0<=y/\y<256):UInt8.ofNat x.toNat=UInt8.ofNat y.toNat↔x=y:=by
 constructor;intro h;have:=congrArg UInt8.toNat h;simp at this;omega
 rintro rfl;rfl
theorem S.Q4m {n:Nat->Prop} {c:Ctx} {O:Val} (hc:c.okN n O):∀{s t:List E} {r:Bool},S.okN n O s->S.okN n O t->S.eq c s t= .ok r->(decide (S.bytes O s=S.bytes O t))=r
 |[],[],_,_,_,h=>by simp only [S.eq,D.ok.injEq] at h;subst h;simp [S.bytes]
 |[],b::bs,_,_,_,h=>by simp only [S.eq,D.ok.injEq] at h;subst h;simp [S.bytes]
 |a::as,[],_,_,_,h=>by simp only [S.eq,D.ok.injEq] at h;subst h;simp [S.bytes]
 |a::as,b::bs,r,h1,h2,h=>by
  have k1:=(h1 a (by simp)).2
  have k2:=(h2 b (by simp)).2
  simp only [S.eq] at h;split at h;rename_i he;have:=E.Qf rfl he hc;simp only [Y3,beq_iff_eq] at this;have ih:=S.Q4m hc (λt ht=>h1 t (by simp [ht])) (λt ht=>h2 t (by simp [ht])) h;rw [<-ih];have e:(S.bytes O (a::as)=S.bytes O (b::bs))↔(S.bytes O as=S.bytes O bs):=by simp only [S.bytes,List.map_cons,this,List.cons.injEq,true_and]
  simp only [e];rename_i he;have:=E.Qf rfl he hc;simp only [Y3,beq_eq_false_iff_ne] at this;cases h;simp only [S.bytes,List.map_cons,List.cons.injEq,Qie k1 k2,this,false_and,decide_false];cases h
noncomputable def Q2p (H:Tr Q7) (b:Nat):Bool:=
 match H.get b with
 |some (.cells _ _ _ pl _)=>pl
 |_=>false
noncomputable def Qoi (T:Tab) (rc:TypeId->AV->AV->D Bool) (xs ys:List AV):List Field->D Bool
 |[]=> .ok true
 |f::fs=>(D.of (apart T f.type xs f.offset)).bind λa=>(D.of (apart T f.type ys f.offset)).bind λb=>(rc f.type a b).bind λr=>bif r then Qoi T rc xs ys fs else .ok false
noncomputable def aeq (T:Tab) (c:Ctx) (H:Tr Q7):Nat->TypeId->AV->AV->D Bool
 |0,_,_,_=> .fail
 |n+1,t,x,y=>
  match T.ty t with
  |none=> .fail
  |some ti=>
   match ti.desc,x,y with
   | .bool, .bool a, .bool b=> .ok (a==b)
   | .int _, .int k a, .int j b=>bif decide (k=j) then (match E.cmp c .eql a b with|some r=> .ok r|none=> .ask .eql a b) else .fail
   | .string, .str a, .str b=>S.eq c a b
   | .pointer _, .nilptr, .nilptr=> .ok true
   | .pointer _, .nilptr, .ptr _ _=> .ok false
   | .pointer _, .ptr _ _, .nilptr=> .ok false
   | .pointer e, .ptr b o, .ptr b' o' =>
    match T.ty e with
    |none=> .fail
    |some ei=>bif Nat.beq ei.size 0 then .fail else
     bif Nat.beq b b' then .ok (Nat.beq o o') else bif Q2p H b&&Q2p H b' then .ok false else .fail
   | .interface _, .nilIface, .nilIface=> .ok true
   | .interface _, .nilIface, .iface _ _=> .ok false
   | .interface _, .iface _ _, .nilIface=> .ok false
   | .interface _, .iface d a, .iface e b=>bif Nat.beq d e then
    (match T.ty d with|none=> .fail|some di=>bif di.comparable then aeq T c H n d a b else .fail)
    else .ok false
   | .struct fs, .agg xs, .agg ys=>bif ti.cmpOK then Qoi T (aeq T c H n) xs ys fs.toList else .fail
   | .slice _, .nilslice, .nilslice=> .ok true
   | .slice _, .nilslice, .slice .. => .ok false
   | .slice _, .slice .., .nilslice=> .ok false
   | .map _ _, .nilmap, .nilmap=> .ok true
   | .map _ _, .nilmap, .map _=> .ok false
   | .map _ _, .map _, .nilmap=> .ok false
   | .func _ _ _, .nilFunc, .nilFunc=> .ok true
   | .func _ _ _, .nilFunc, .func _ _ _=> .ok false
   | .func _ _ _, .func _ _ _, .nilFunc=> .ok false
   |_,_,_=> .fail
theorem Q3p {P:Program} {T:Tab} (hT:T.OK P) {X:Ext} {rc:TypeId->AV->AV->D Bool} {d:Nat} {w:World}
 (hrc:∀t x y r u v,rc t x y= .ok r->x.rel X u->y.rel X v->(Op.equalIn d t u v).run P w= .ok r w) {xs ys:List AV} {us vs:Array Value} (hx:AV.QI X xs us.toList) (hy:AV.QI X ys vs.toList):
 ∀(fs:List Field) (r:Bool),(∀f∈fs,f.name≠ "_")->Qoi T rc xs ys fs= .ok r->(Op.eqFields d us vs fs).run P w= .ok r w
 |[],r,_,h=>by simp only [Qoi,D.ok.injEq] at h;subst h;rfl
 |f::fs,r,hn,h=>by
  simp only [Qoi] at h;obtain ⟨a,h1,h⟩:=D.bind_ok h;obtain ⟨b,h2,h⟩:=D.bind_ok h;obtain ⟨q,h3,h⟩:=D.bind_ok h;obtain ⟨u,e1,r1⟩:=Yv hT hx (D.Qv h1) w;obtain ⟨v,e2,r2⟩:=Yv hT hy (D.Qv h2) w;have e3:=hrc _ _ _ _ _ _ h3 r1 r2;have hn0:=hn f (by simp);simp only [Op.eqFields,if_pos hn0,Sem.run_bind,e1,e2,e3,Result.andThen_ok];cases q with
  |true=>simpa using Q3p hT hrc hx hy fs r (λg hg=>hn g (by simp [hg])) h
  |false=>cases h;rfl
theorem jZ {X:Ext} {n0:Nat} {H:Tr Q7} {w:World} (hH:Qn X n0 H w) {b:Nat} {p:Place} (h:Q2p H b=true) (hp:X.V b=some p):
 ∃c t o,w.heap[p.blk]?=some (.cells c t (0,0))/\H.get b=some o/\o.Q5e=true:=by
 unfold Q2p at h;split at h;rename_i cs elem ex pl ro ho;obtain ⟨c,fr,⟨el,h1,_⟩,_,_,_,_,_,h7⟩:=hH.obj b _ p ho hp;rw [h7 h] at h1;exact ⟨c,el,_,h1,ho,by simp only [Q7.Q5e,h,Bool.or_true]⟩;cases h
theorem zD {P:Program} {w:World} {a b:Addr} {c d:Array Value} {t u:TypeId} (h:a.block≠b.block) (ha:w.heap[a.block]?=some (.cells c t (0,0))) (hb:w.heap[b.block]?=some (.cells d u (0,0))):
 (sameAddr a b).run P w= .ok false w:=by
 have f1:∀o,w.frozen? ⟨a.block,o,none⟩=false:=λo=>by simp [World.frozen?,ha]
 have f2:∀o,w.frozen? ⟨b.block,o,none⟩=false:=λo=>by simp [World.frozen?,hb]
 have f3:w.frozen? a=false:=by simp [World.frozen?,ha]
 have f4:w.frozen? b=false:=by simp [World.frozen?,hb]
 have s1:w.shape? a.block=some (t,c.size):=by simp [World.shape?,ha]
 have s2:w.shape? b.block=some (u,d.size):=by simp [World.shape?,hb]
 have hne:(a.block==b.block)=false:=by simpa using h
 simp [sameAddr,hne,f3,f4,noView,viewAt,s1,s2,mayBeOne,stringish,f1,f2]
set_option maxHeartbeats 2000000 in
theorem JW {P:Program} {T:Tab} (hT:T.OK P) {c:Ctx} {X:Ext} (hc:c.okN X.dom X.O) {n0:Nat} {H:Tr Q7} {w:World} (hH:Qn X n0 H w):
 ∀(n m:Nat) (t:TypeId) (x y:AV) (r:Bool) (u v:Value),n<=m->aeq T c H n t x y= .ok r->x.rel X u->y.rel X v->(Op.equalIn m t u v).run P w= .ok r w
 |0,_,_,_,_,_,_,_,_,h,_,_=>by simp [aeq] at h
 |n+1,0,_,_,_,_,_,_,hm,_,_,_=>absurd hm (by omega)
 |n+1,m+1,t,x,y,r,u,v,hm,h,hx,hy=>by
  unfold aeq at h;split at h;cases h;rename_i ti hti;have hu:=T.Qe hT hti w;have hun:=T.und hT hti;split at h<;>rename_i hd;rw [hd] at hu;simp only [AV.rel] at hx hy;subst hx hy;cases h;simp [Op.equalIn,hu];rw [hd] at hu;simp only [AV.rel] at hx hy;obtain ⟨-,rfl⟩:=hx;obtain ⟨-,rfl⟩:=hy;rename_i k a j b;cases hk:decide (k=j) with
  |false=>rw [hk] at h;cases h
  |true=>
   rw [hk] at h;have hkj:k=j:=by simpa using hk
   subst hkj;simp only [cond_true] at h;split at h;rename_i q hq;cases h;have:=E.Qf rfl hq hc;simp only [Y3] at this;simp [Op.equalIn,hu,this];cases h
  rw [hd] at hu;simp only [AV.rel] at hx hy;obtain ⟨o1,rfl⟩:=hx;obtain ⟨o2,rfl⟩:=hy;have:=S.Q4m hc o1 o2 h;rw [run_equalIn_string w m t _ _ (by rw [hun,hd])];rw [<-this];congr 1;rw [ByteArray.toList_eq,ByteArray.toList_eq];rw [Bool.eq_iff_iff];simp;rw [hd] at hu;simp only [AV.rel] at hx hy;subst hx hy;cases h;simp [Op.equalIn,hu];rw [hd] at hu;simp only [AV.rel] at hx hy;obtain ⟨p,hp,rfl⟩:=hy;subst hx;cases h;simp [Op.equalIn,hu];rw [hd] at hu;simp only [AV.rel] at hx hy;obtain ⟨p,hp,rfl⟩:=hx;subst hy;cases h;simp [Op.equalIn,hu];rw [hd] at hu;simp only [AV.rel] at hx hy;obtain ⟨p,hp,rfl⟩:=hx;obtain ⟨q,hq,rfl⟩:=hy;rename_i e b o b' o';split at h;cases h;rename_i ei hei;have hsz:=T.Qx hT hei w;cases hz:Nat.beq ei.size 0 with
  |true=>rw [hz] at h;cases h
  |false=>
   rw [hz] at h;have hz' :ei.size≠0:=λe=>by rw [e] at hz;cases hz
   simp only [cond_false] at h;simp only [Op.equalIn,Sem.run_bind,hu,Result.andThen_ok,hsz,ne_eq,hz',not_false_eq_true,if_true];cases hb:Nat.beq b b' with
   |true=>
    rw [hb] at h;have hbb:b=b' :=by simpa using hb
    subst hbb;rw [hp] at hq;cases hq;cases h;simp only [sameAddr,beq_self_eq_true,if_true,Sem.run_pure];congr 1;rw [Bool.eq_iff_iff];simp
   |false=>
    rw [hb] at h;simp only [cond_false] at h;cases hpl:(Q2p H b&&Q2p H b') with
    |false=>rw [hpl] at h;cases h
    |true=>
     rw [hpl] at h;cases h;simp only [Bool.and_eq_true] at hpl;obtain ⟨c1,t1,o1,g1,g2,g3⟩:=jZ hH hpl.1 hp;obtain ⟨c2,t2,o2,k1,k2,k3⟩:=jZ hH hpl.2 hq;have hne:p.blk≠q.blk:=λe=>by have:=hH.inj b b' o1 o2 p q g2 k2 (Q7.JJ g3) k3 hp hq e;subst this;simp at hb
     exact zD (a:=⟨p.blk,_,none⟩) (b:=⟨q.blk,_,none⟩) hne g1 k1
  rw [hd] at hu;simp only [AV.rel] at hx hy;subst hx hy;cases h;simp [Op.equalIn,hu];rw [hd] at hu;simp only [AV.rel] at hx hy;obtain ⟨p,rfl,_⟩:=hy;subst hx;cases h;simp [Op.equalIn,hu];rw [hd] at hu;simp only [AV.rel] at hx hy;obtain ⟨p,rfl,_⟩:=hx;subst hy;cases h;simp [Op.equalIn,hu];rw [hd] at hu;simp only [AV.rel] at hx hy;obtain ⟨p,rfl,hx⟩:=hx;obtain ⟨q,rfl,hy⟩:=hy;rename_i d a e b;cases hb:Nat.beq d e with
  |false=>
   rw [hb] at h;cases h;have:d≠e:=λe=>by subst e;simp at hb
   simp [Op.equalIn,hu,this]
  |true=>
   rw [hb] at h;have hbb:d=e:=by simpa using hb
   subst hbb;simp only [cond_true] at h;split at h;cases h;rename_i di hdi;obtain ⟨i,i1,_,_,i4,_⟩:=T.YA hT hdi w;cases hcm:di.comparable with
   |false=>rw [hcm] at h;cases h
   |true=>rw [hcm] at h i4;have ih:=JW hT hc hH n m d a b r p q (by omega) h hx hy;simp [Op.equalIn,hu,i1,i4,ih]
  rename_i fs xs ys;simp only [AV.rel] at hx hy;obtain ⟨us,rfl,hx⟩:=hx;obtain ⟨vs,rfl,hy⟩:=hy;cases hcm:ti.cmpOK with
  |false=>rw [hcm] at h;cases h
  |true=>
   rw [hcm] at h;obtain ⟨_,g2,g3⟩:=hT.cmp t ti hti hcm;have hfo:P.fieldsOf t=fs:=by simp [Program.fieldsOf,hun,hd]
   rw [run_equalIn_struct w m t us vs (by rw [hun,hd,hfo]) g2,hfo];exact Q3p hT (λt x y r u v hh h1 h2=>JW hT hc hH n m t x y r u v (by omega) hh h1 h2) hx hy _ r (g3 fs hd) h
  rw [hd] at hu;simp only [AV.rel] at hx hy;subst hx hy;cases h;simp [Op.equalIn,hu];rw [hd] at hu;simp only [AV.rel] at hx hy;obtain ⟨p,o',c',_,rfl,_⟩:=hy;subst hx;cases h;simp [Op.equalIn,hu];rw [hd] at hu;simp only [AV.rel] at hx hy;obtain ⟨p,o',c',_,rfl,_⟩:=hx;subst hy;cases h;simp [Op.equalIn,hu];rw [hd] at hu;simp only [AV.rel] at hx hy;subst hx hy;cases h;simp [Op.equalIn,hu];rw [hd] at hu;simp only [AV.rel] at hx hy;obtain ⟨p,_,rfl⟩:=hy;subst hx;cases h;simp [Op.equalIn,hu];rw [hd] at hu;simp only [AV.rel] at hx hy;obtain ⟨p,_,rfl⟩:=hx;subst hy;cases h;simp [Op.equalIn,hu];rw [hd] at hu;simp only [AV.rel] at hx hy;subst hx hy;cases h;simp [Op.equalIn,hu];rw [hd] at hu;simp only [AV.rel] at hx hy;obtain ⟨a1,a2,rfl,_⟩:=hy;subst hx;cases h;simp [Op.equalIn,hu];rw [hd] at hu;simp only [AV.rel] at hx hy;obtain ⟨a1,a2,rfl,_⟩:=hx;subst hy;cases h;simp [Op.equalIn,hu];cases h
end Go.Ax
namespace Go.Ax
open Go.RowKit
noncomputable def leC (c:Ctx) (a b:E):Bool:=
 match E.cmp c .leq a b with
 |some true=>true
 |_=>false
theorem ZG {n:Nat->Prop} {c:Ctx} {a b:E} {O:Val} (h:leC c a b=true) (hc:c.okN n O):a.den O<=b.den O:=by unfold leC at h;split at h;rename_i e;have:=E.Qf rfl e hc;simpa [Y3] using this;cases h
noncomputable def E.Qh6 (c:Ctx) (x:E) (n:Int):Option E:=yI n λq=>bif ieq q 0 then some x else bif (E.iv c.fs x).fits q then some (.bin .add .i64 x (.lit q)) else none
noncomputable def E.plus (c:Ctx) (x:E) (n:Int):Option E:=
 match x with
 | .lit m=>some (.Q22 (m+n))
 | .bin .add .i64 y (.lit p)=>bif (E.iv c.fs y).fits p then E.Qh6 c y (p+n) else none
 |x=>E.Qh6 c x n
theorem E.Q0p {d:Nat->Prop} {c:Ctx} {x r:E} {n:Int} {O:Val} (h:E.Qh6 c x n=some r) (hc:c.okN d O) (hx:x.ok d):r.ok d/\r.den O=x.den O+n:=by
 unfold E.Qh6 at h;rw [sInt_eq] at h;cases h0:ieq n 0 with
 |true=>
  rw [h0] at h;cases h;rw [qD] at h0;have:n=0:=by simpa using h0
  exact ⟨hx,by omega⟩
 |false=>
  rw [h0] at h;simp only [cond_false] at h;cases h1:(E.iv c.fs x).fits n with
  |false=>rw [h1] at h;cases h
  |true=>rw [h1] at h;cases h;exact ⟨⟨hx,trivial⟩,by simp only [E.den,Zm];exact Iv.ZQ h1 (E.Qb hc.2 x)⟩
theorem E.Yg {d:Nat->Prop} {c:Ctx} {x r:E} {n:Int} {O:Val} (h:E.plus c x n=some r) (hc:c.okN d O) (hx:x.ok d):r.ok d/\r.den O=x.den O+n:=by
 unfold E.plus at h;split at h;simp only [Option.some.injEq,E.litS_eq] at h;subst h;exact ⟨trivial,rfl⟩;rename_i y p;cases h1:(E.iv c.fs y).fits p with
 |false=>rw [h1] at h;cases h
 |true=>rw [h1] at h;obtain ⟨g1,g2⟩:=E.Q0p h hc hx.1;refine ⟨g1,?_⟩;have:=Iv.ZQ h1 (E.Qb hc.2 y);simp only [E.den,Zm];rw [this,g2];omega
 exact E.Q0p h hc hx
def Iv.both (A B:Iv):Bool:=
 match A.lo,A.hi,B.lo,B.hi with
 |some la,some ha,some lb,some hb=>ile (-9223372036854775808) (la+lb)&&ile (ha+hb) 9223372036854775807
 |_,_,_,_=>false
theorem Iv.Qcl {A B:Iv} {x y:Int} (h:A.both B=true) (hx:A.has x) (hy:B.has y):IntKind.i64.wrap (x+y)=x+y:=by unfold Iv.both at h;split at h;rename_i e1 e2 e3 e4;simp only [Bool.and_eq_true,QO] at h;have:=hx.1 _ e1;have:=hx.2 _ e2;have:=hy.1 _ e3;have:=hy.2 _ e4;rw [Q6];omega;cases h
noncomputable def E.sumC (c:Ctx) (a b:E):Option E:=
 match a,b with
 |a, .lit n=>E.plus c a n
 | .lit n,b=>E.plus c b n
 |a,b=>bif (E.iv c.fs a).both (E.iv c.fs b) then some (E.Qm2 a b) else none
theorem E.Q2i {d:Nat->Prop} {c:Ctx} {a b r:E} {O:Val} (h:E.sumC c a b=some r) (hc:c.okN d O) (ha:a.ok d) (hb:b.ok d):r.ok d/\r.den O=a.den O+b.den O:=by
 unfold E.sumC at h;split at h;exact E.Yg h hc ha;obtain ⟨g1,g2⟩:=E.Yg h hc hb;exact ⟨g1,by rw [g2];simp only [E.den];omega⟩;cases hh:(E.iv c.fs a).both (E.iv c.fs b) with
 |false=>rw [hh] at h;cases h
 |true=>rw [hh] at h;cases h;exact ⟨E.Q9l ha hb,by rw [E.Q59];simp only [Zm];exact Iv.Qcl hh (E.Qb hc.2 a) (E.Qb hc.2 b)⟩
noncomputable def E.Qmb (c:Ctx) (a b:E):Option E:=
 match b with
 | .lit n=>E.plus c a (-n)
 |b=>match a.base,b.base with
  |(x,p),(y,q)=>bif x.same y&&((E.iv c.fs x).fits p&&(E.iv c.fs x).fits q) then some (.Q22 (p-q)) else bif (E.dIv c.fs a b).fits 0 then some (E.Qlp a b) else none
theorem E.jk {d:Nat->Prop} {c:Ctx} {a b r:E} {O:Val} (h:E.Qmb c a b=some r) (hc:c.okN d O) (ha:a.ok d) (hb:b.ok d):r.ok d/\r.den O=a.den O-b.den O:=by
 unfold E.Qmb at h;split at h;obtain ⟨g1,g2⟩:=E.Yg h hc ha;exact ⟨g1,by rw [g2];simp only [E.den];omega⟩;split at h;rename_i x p y q h1 h2;cases hh:(x.same y&&((E.iv c.fs x).fits p&&(E.iv c.fs x).fits q)) with
 |false=>
  rw [hh] at h;simp only [cond_false] at h;cases h3:(E.dIv c.fs a b).fits 0 with
  |false=>rw [h3] at h;cases h
  |true=>rw [h3] at h;cases h;refine ⟨E.Qd8 ha hb,?_⟩;rw [E.Q9u];have:=Iv.ZQ h3 (E.YJ hc.2 a b);simpa only [Zm,Int.add_zero] using this
 |true=>rw [hh] at h;simp only [cond_true,Option.some.injEq,E.litS_eq] at h;subst h;simp only [Bool.and_eq_true] at hh;have e:=E.Q5 hh.1;have e1:=E.Jm (O:=O) hc.2 a (by rw [h1];exact hh.2.1);have e2:=E.Jm (O:=O) hc.2 b (by rw [h2,<-e];exact hh.2.2);rw [h1] at e1;rw [h2,<-e] at e2;exact ⟨trivial,by rw [e1,e2];simp only [E.den];omega⟩
noncomputable def E.ivS (c:Facts) (e:E):Iv:=(E.iv c e).meet (match e with
 | .bin .sub .i64 a b=>bif (E.dIv c a b).fits 0 then E.dIv c a b else .all
 |_=> .all)
theorem E.Qer {n:Nat->Prop} {c:Facts} {O:Val} (hc:c.okN n O) (e:E):(E.ivS c e).has (e.den O):=by
 refine Iv.Zt (E.Qb hc e) ?_;split;rename_i a b;cases h:(E.dIv c a b).fits 0 with
 |false=>exact Iv.QK _
 |true=>have h1:=E.YJ hc a b;have h2:=Iv.ZQ h h1;simp only [Int.add_zero] at h2;simp only [cond_true,E.den,Zm,h2];exact h1
 exact Iv.QK _
inductive Pc where
 |b (l:List E)
 |v (i:Nat) (lo hi:E)
def Pc.den (O:Val):Pc->List UInt8
 | .b l=>S.bytes O l
 | .v i lo hi=>((O.str i).drop (lo.den O).toNat).take ((hi.den O).toNat-(lo.den O).toNat)
def Pc.ok (n:Nat->Prop):Pc->Prop
 | .b l=>∀t∈l,t.ok n
 | .v i lo hi=>n i/\lo.ok n/\hi.ok n
def Pc.sane (O:Val):Pc->Prop
 | .b _=>True
 | .v i lo hi=>0<=lo.den O/\lo.den O<=hi.den O/\hi.den O<=((O.str i).length:Int)
noncomputable def Pc.good (c:Ctx):Pc->Bool
 | .b _=>true
 | .v i lo hi=>leC c (.lit 0) lo&&(leC c lo hi&&leC c hi (.len i))
theorem Pc.Qca {d:Nat->Prop} {c:Ctx} {O:Val} (hc:c.okN d O) {p:Pc} (h:p.good c=true):p.sane O:=by
 cases p with
 |b=>trivial
 |v i lo hi=>simp only [Pc.good,Bool.and_eq_true] at h;exact ⟨ZG h.1 hc,ZG h.2.1 hc,ZG h.2.2 hc⟩
theorem Pc.Qhl {O:Val} {i:Nat} {lo hi:E} (h:(Pc.v i lo hi).sane O):(((Pc.v i lo hi).den O).length:Int)=hi.den O-lo.den O:=by obtain ⟨h1,h2,h3⟩:=h;simp only [Pc.den,List.length_take,List.length_drop];omega
def J4 (O:Val) (l:List Pc):List UInt8:=(l.map (Pc.den O)).flatten
@[simp] theorem rden_nil (O:Val):J4 O []=[]:=rfl
theorem Qa (O:Val) (p:Pc) (l:List Pc):J4 O (p::l)=p.den O++J4 O l:=rfl
theorem qN (O:Val) (l m:List Pc):J4 O (l++m)=J4 O l++J4 O m:=by simp [J4]
abbrev rok (n:Nat->Prop) (l:List Pc):Prop:=∀p∈l,p.ok n
def ST.pcs:ST->Option (List Pc)
 | .var i=>some [.v i (.lit 0) (.len i)]
 | .bs l=>some [.b l]
 | .cat a b=>match a.pcs,b.pcs with
  |some p,some q=>some (p++q)
  |_,_=>none
 | .sub a lo hi=>match a with
  | .var i=>some [.v i lo hi]
  |_=>none
theorem ST.ZE {d:Nat->Prop} {O:Val}:∀{s:ST} {l:List Pc},s.pcs=some l->s.ok d->rok d l/\J4 O l=s.den O
 | .var i,l,h,ho=>by cases h;refine ⟨λp hp=>?_,?_⟩;simp only [List.mem_singleton] at hp;subst hp;exact ⟨ho,trivial,ho⟩;simp [Qa,Pc.den,ST.den,E.den]
 | .bs m,l,h,ho=>by cases h;refine ⟨λp hp=>?_,by simp [Qa,Pc.den,ST.den]⟩;simp only [List.mem_singleton] at hp;subst hp;exact ho
 | .cat a b,l,h,ho=>by simp only [ST.pcs] at h;split at h;rename_i p q hp hq;cases h;obtain ⟨a1,a2⟩:=ST.ZE (O:=O) hp ho.1;obtain ⟨b1,b2⟩:=ST.ZE (O:=O) hq ho.2;refine ⟨λx hx=>?_,by rw [qN,a2,b2];rfl⟩;rcases List.mem_append.1 hx with hx|hx;exact a1 x hx;exact b1 x hx;cases h
 | .sub a lo hi,l,h,ho=>by simp only [ST.pcs] at h;split at h;cases h;refine ⟨λp hp=>?_,by simp [Qa,Pc.den,ST.den]⟩;simp only [List.mem_singleton] at hp;subst hp;exact ho;cases h
theorem jq {O:Val}:∀{s:ST} {l:List Pc},s.pcs=some l->J4 O l=s.den O
 | .var i,l,h=>by cases h;simp [Qa,Pc.den,ST.den,E.den]
 | .bs m,l,h=>by cases h;simp [Qa,Pc.den,ST.den]
 | .cat a b,l,h=>by simp only [ST.pcs] at h;split at h;rename_i p q hp hq;cases h;rw [qN,jq hp,jq hq];rfl;cases h
 | .sub a lo hi,l,h=>by simp only [ST.pcs] at h;split at h;cases h;simp [Qa,Pc.den,ST.den];cases h
noncomputable def Q8k (p:Pc) (r:List Pc):List Pc:=
 match p with
 | .b l=>match l,r with
  |[],r=>r
  |l, .b m::r=> .b (l++m)::r
  |l,r=> .b l::r
 | .v i lo hi=>bif lo.same hi then r else .v i lo hi::r
theorem Qe6 {O:Val} (p:Pc) (r:List Pc):J4 O (Q8k p r)=p.den O++J4 O r:=by
 unfold Q8k;split;split;simp [Pc.den,S.bytes];simp [Qa,Pc.den,S.bytes];rfl;rename_i i lo hi;cases hs:lo.same hi with
 |false=>rfl
 |true=>have:=E.Q5 hs;subst this;simp [Pc.den]
theorem Qh9 {d:Nat->Prop} {p:Pc} {r:List Pc} (hp:p.ok d) (hr:rok d r):rok d (Q8k p r):=by
 unfold Q8k;split;split;exact hr;rename_i l m r _;intro x hx;rcases List.mem_cons.1 hx with rfl|hx;intro t ht;rcases List.mem_append.1 ht with h|h;exact hp t h;exact hr (.b m) (by simp) t h;exact hr x (by simp [hx]);intro x hx;rcases List.mem_cons.1 hx with rfl|hx;exact hp;exact hr x hx;rename_i i lo hi;cases lo.same hi with
 |true=>exact hr
 |false=>intro x hx;rcases List.mem_cons.1 hx with rfl|hx;exact hp;exact hr x hx
theorem Qc0 {O:Val} {p:Pc} {r:List Pc} (hp:p.sane O) (hr:∀x∈r,x.sane O):∀x∈Q8k p r,x.sane O:=by
 unfold Q8k;split;split;exact hr;intro x hx;rcases List.mem_cons.1 hx with rfl|hx;trivial;exact hr x (by simp [hx]);intro x hx;rcases List.mem_cons.1 hx with rfl|hx;exact hp;exact hr x hx;rename_i i lo hi;cases lo.same hi with
 |true=>exact hr
 |false=>intro x hx;rcases List.mem_cons.1 hx with rfl|hx;exact hp;exact hr x hx
noncomputable def norm:List Pc->List Pc
 |[]=>[]
 |p::l=>Q8k p (norm l)
theorem Yb {O:Val}:∀l:List Pc,J4 O (norm l)=J4 O l
 |[]=>rfl
 |p::l=>by rw [norm,Qe6,Yb l,Qa]
theorem Q47 {d:Nat->Prop}:∀{l:List Pc},rok d l->rok d (norm l)
 |[],h=>h
 |p::l,h=>Qh9 (h p (by simp)) (Q47 λx hx=>h x (by simp [hx]))
theorem zN {O:Val}:∀{l:List Pc},(∀x∈l,x.sane O)->∀x∈norm l,x.sane O
 |[],h=>h
 |p::l,h=>Qc0 (h p (by simp)) (zN λx hx=>h x (by simp [hx]))
noncomputable def Q6e (c:Ctx):List Pc->Option E
 |[]=>some (.lit 0)
 | .b l::r=>match Q6e c r with
  |some e=>QE l.length λn=>E.plus c e (.ofNat n)
  |none=>none
 | .v _ lo hi::r=>match Q6e c r,E.Qmb c hi lo with
  |some e,some d=>E.sumC c d e
  |_,_=>none
theorem Yo {d:Nat->Prop} {c:Ctx} {O:Val} (hc:c.okN d O):∀{l:List Pc} {e:E},Q6e c l=some e->rok d l->(∀x∈l,x.sane O)->e.ok d/\e.den O=((J4 O l).length:Int)
 |[],e,h,_,_=>by cases h;exact ⟨trivial,rfl⟩
 | .b l::r,e,h,ho,hs=>by simp only [Q6e] at h;split at h;rename_i e' he;obtain ⟨g1,g2⟩:=Yo hc he (λx hx=>ho x (by simp [hx])) (λx hx=>hs x (by simp [hx]));rw [sNat_eq] at h;obtain ⟨k1,k2⟩:=E.Yg h hc g1;refine ⟨k1,?_⟩;rw [k2,g2,Qa];simp [Pc.den,S.bytes];omega;cases h
 | .v i lo hi::r,e,h,ho,hs=>by
  simp only [Q6e] at h;split at h;rename_i e' dd he hd;obtain ⟨g1,g2⟩:=Yo hc he (λx hx=>ho x (by simp [hx])) (λx hx=>hs x (by simp [hx]));have hp:(Pc.v i lo hi).ok d:=ho _ (by simp)
  obtain ⟨k1,k2⟩:=E.jk hd hc hp.2.2 hp.2.1;obtain ⟨m1,m2⟩:=E.Q2i h hc k1 g1;refine ⟨m1,?_⟩;have:=Pc.Qhl (hs (.v i lo hi) (by simp));rw [m2,k2,g2,Qa,List.length_append];omega;cases h
noncomputable def E.subE (c:Ctx) (a b:E):Option E:=bif leC c a b&&leC c b a then some (.lit 0) else E.Qmb c a b
theorem E.Qbk {d:Nat->Prop} {c:Ctx} {a b r:E} {O:Val} (h:E.subE c a b=some r) (hc:c.okN d O) (ha:a.ok d) (hb' :b.ok d):r.ok d/\r.den O=a.den O-b.den O:=by
 unfold E.subE at h;cases hb:(leC c a b&&leC c b a) with
 |false=>rw [hb] at h;exact E.jk h hc ha hb'
 |true=>rw [hb] at h;cases h;rw [Bool.and_eq_true] at hb;have h1:=ZG hb.1 hc;have h2:=ZG hb.2 hc;exact ⟨trivial,by simp only [E.den];omega⟩
noncomputable def Qgg (c:Ctx):E->List Pc->Option (List Pc×List Pc)
 |n,[]=>bif n.same (.lit 0) then some ([],[]) else none
 |n, .b m::r=>match n with
  | .lit (.ofNat k)=>bif Nat.ble k m.length then some ([.b (m.take k)], .b (m.drop k)::r) else
   QE (k-m.length) λk' =>match Qgg c (.lit (.ofNat k')) r with
    |some (f,g)=>some (.b m::f,g)
    |none=>none
  |n=>QE m.length λq=>bif leC c (.lit (.ofNat q)) n then (match E.plus c n (-(.ofNat q)) with
   |some n' =>match Qgg c n' r with
    |some (f,g)=>some (.b m::f,g)
    |none=>none
   |none=>none) else none
 |n, .v i lo hi::r=>bif n.same (.lit 0) then some ([], .v i lo hi::r) else
  match E.Qmb c hi lo with
  |none=>none
  |some d=>bif leC c d n then (match E.subE c n d with
   |some n' =>match Qgg c n' r with
    |some (f,g)=>some (.v i lo hi::f,g)
    |none=>none
   |none=>none)
   else bif leC c (.lit 0) n&&leC c n d then (match E.sumC c lo n with
    |some m=>some ([.v i lo m], .v i m hi::r)
    |none=>none)
   else none
theorem Yh {d:Nat->Prop} {c:Ctx} {O:Val} (hc:c.okN d O):∀{l:List Pc} {n:E} {f g:List Pc},Qgg c n l=some (f,g)->n.ok d->rok d l->(∀x∈l,x.sane O)->
 rok d f/\rok d g/\(∀x∈f,x.sane O)/\(∀x∈g,x.sane O)/\J4 O l=J4 O f++J4 O g/\n.den O=((J4 O f).length:Int)
 |[],n,f,g,h,_,_,_=>by
  simp only [Qgg] at h;cases hn:n.same (.lit 0) with
  |false=>rw [hn] at h;cases h
  |true=>rw [hn] at h;cases h;rw [E.Q5 hn];exact ⟨(λx hx=>by cases hx),(λx hx=>by cases hx),(λx hx=>by cases hx),(λx hx=>by cases hx),rfl,rfl⟩
 | .b m::r,n,f,g,h,hn,ho,hs=>by
  have ho' :rok d r:=λx hx=>ho x (by simp [hx])
  have hs' :∀x∈r,x.sane O:=λx hx=>hs x (by simp [hx])
  have hm:(Pc.b m).ok d:=ho _ (by simp)
  have hlen:((Pc.b m).den O).length=m.length:=by simp [Pc.den,S.bytes]
  simp only [Qgg] at h;split at h;rename_i k;cases hk:Nat.ble k m.length with
  |true=>
   rw [hk] at h;cases h;rw [Nat.ble_eq] at hk;refine ⟨λx hx=>?_,λx hx=>?_,λx hx=>?_,λx hx=>?_,?_,?_⟩;simp only [List.mem_singleton] at hx;subst hx;exact λt ht=>hm t (List.mem_of_mem_take ht)
   rcases List.mem_cons.1 hx with rfl|hx;exact λt ht=>hm t (List.mem_of_mem_drop ht)
   exact ho' x hx;simp only [List.mem_singleton] at hx;subst hx;trivial;rcases List.mem_cons.1 hx with rfl|hx;trivial;exact hs' x hx;simp only [Qa,rden_nil,List.append_nil,Pc.den,S.bytes,List.map_take,List.map_drop];rw [<-List.append_assoc,List.take_append_drop];simp only [Qa,rden_nil,List.append_nil,Pc.den,S.bytes,List.length_map,List.length_take,E.den];simp only [Int.ofNat_eq_natCast];omega
  |false=>
   rw [hk] at h;simp only [cond_false,sNat_eq] at h;have hk' :m.length<k:=by rcases Nat.lt_or_ge m.length k with h' |h';exact h';rw [show Nat.ble k m.length=true from Nat.ble_eq_true_of_le h'] at hk;cases hk
   split at h;rename_i f' g' hcut;cases h;obtain ⟨a1,a2,a3,a4,a5,a6⟩:=Yh hc hcut trivial ho' hs';refine ⟨λx hx=>?_,a2,λx hx=>?_,a4,?_,?_⟩;rcases List.mem_cons.1 hx with rfl|hx;exact hm;exact a1 x hx;rcases List.mem_cons.1 hx with rfl|hx;trivial;exact a3 x hx;rw [Qa,Qa,a5,List.append_assoc];rw [Qa,List.length_append,hlen];simp only [E.den,Int.ofNat_eq_natCast] at a6 ⊢;omega;cases h
  rw [sNat_eq] at h;cases hl:leC c (.lit (.ofNat m.length)) n with
  |false=>rw [hl] at h;cases h
  |true=>rw [hl] at h;simp only [cond_true] at h;split at h;rename_i n' hp;obtain ⟨p1,p2⟩:=E.Yg hp hc hn;split at h;rename_i f' g' hcut;cases h;obtain ⟨a1,a2,a3,a4,a5,a6⟩:=Yh hc hcut p1 ho' hs';refine ⟨λx hx=>?_,a2,λx hx=>?_,a4,?_,?_⟩;rcases List.mem_cons.1 hx with rfl|hx;exact hm;exact a1 x hx;rcases List.mem_cons.1 hx with rfl|hx;trivial;exact a3 x hx;rw [Qa,Qa,a5,List.append_assoc];rw [Qa,List.length_append,hlen];rw [p2] at a6;simp only [Int.ofNat_eq_natCast] at a6;omega;cases h;cases h
 | .v i lo hi::r,n,f,g,h,hn,ho,hs=>by
  have ho' :rok d r:=λx hx=>ho x (by simp [hx])
  have hs' :∀x∈r,x.sane O:=λx hx=>hs x (by simp [hx])
  have hm:(Pc.v i lo hi).ok d:=ho _ (by simp)
  have hsm:(Pc.v i lo hi).sane O:=hs _ (by simp)
  have hlen:=Pc.Qhl hsm;simp only [Qgg] at h;cases h0:n.same (.lit 0) with
  |true=>rw [h0] at h;cases h;rw [E.Q5 h0];exact ⟨(λx hx=>by cases hx),ho,(λx hx=>by cases hx),hs,rfl,rfl⟩
  |false=>
   rw [h0] at h;simp only [cond_false] at h;split at h;cases h;rename_i dd hd;obtain ⟨d1,d2⟩:=E.jk hd hc hm.2.2 hm.2.1;cases hl:leC c dd n with
   |true=>rw [hl] at h;simp only [cond_true] at h;split at h;rename_i n' hp;obtain ⟨p1,p2⟩:=E.Qbk hp hc hn d1;split at h;rename_i f' g' hcut;cases h;obtain ⟨a1,a2,a3,a4,a5,a6⟩:=Yh hc hcut p1 ho' hs';refine ⟨λx hx=>?_,a2,λx hx=>?_,a4,?_,?_⟩;rcases List.mem_cons.1 hx with rfl|hx;exact hm;exact a1 x hx;rcases List.mem_cons.1 hx with rfl|hx;exact hsm;exact a3 x hx;rw [Qa,Qa,a5,List.append_assoc];rw [Qa,List.length_append];omega;cases h;cases h
   |false=>
    rw [hl] at h;simp only [cond_false] at h;cases hb:(leC c (.lit 0) n&&leC c n dd) with
    |false=>rw [hb] at h;cases h
    |true=>
     rw [hb] at h;simp only [cond_true] at h;simp only [Bool.and_eq_true] at hb;have l1:(0:Int)<=n.den O:=ZG hb.1 hc;have l2:=ZG hb.2 hc;split at h
     . rename_i m hm';cases h;obtain ⟨q1,q2⟩:=E.Q2i hm' hc hm.2.1 hn;obtain ⟨s1,s2,s3⟩:=hsm;have sf:(Pc.v i lo m).sane O:=⟨s1,by omega,by omega⟩
       have sg:(Pc.v i m hi).sane O:=⟨by omega,by omega,s3⟩
       refine ⟨λx hx=>?_,λx hx=>?_,λx hx=>?_,λx hx=>?_,?_,?_⟩;simp only [List.mem_singleton] at hx;subst hx;exact ⟨hm.1,hm.2.1,q1⟩;rcases List.mem_cons.1 hx with rfl|hx;exact ⟨hm.1,q1,hm.2.2⟩;exact ho' x hx;simp only [List.mem_singleton] at hx;subst hx;exact sf;rcases List.mem_cons.1 hx with rfl|hx;exact sg;exact hs' x hx
       . simp only [Qa,rden_nil,List.append_nil];rw [<-List.append_assoc];congr 1;simp only [Pc.den];have e1:(hi.den O).toNat-(lo.den O).toNat=((m.den O).toNat-(lo.den O).toNat)+((hi.den O).toNat-(m.den O).toNat):=by omega
         have e2:(m.den O).toNat=(lo.den O).toNat+((m.den O).toNat-(lo.den O).toNat):=by omega
         rw [e1,List.take_add,List.drop_drop];congr 3
         all_goals omega
       have:=Pc.Qhl sf;simp only [Qa,rden_nil,List.append_nil];omega
     cases h
def E.isByte:E->Bool
 | .lit (.ofNat n)=>Nat.blt n 256
 | .byte _ _=>true
 | .cnv .u8 _=>true
 |_=>false
theorem E.Y0 {e:E} (h:e.isByte=true) (O:Val):0<=e.den O/\e.den O<256:=by
 cases e with
 |var i=>cases h
 |len i=>cases h
 |bin op k a b=>cases h
 |pk n a=>cases h
 |cons a t=>cases h
 |tv i lo hi t=>cases h
 |fn k t=>cases h
 |mn a b=>cases h
 |byte i a=>
  have:=((O.str i).getD (a.den O).toNat 0).toNat_lt
  simp only [E.den];omega
 |cnv k a=>
  cases k
  case u8=>
   have:=ZA .u8 (a.den O)
   simp only [kLo,kHi] at this;simp only [E.den];omega
  all_goals cases h
 |lit n=>
  cases n with
  |negSucc n=>cases h
  |ofNat n=>
   have:n<256:=by simpa [E.isByte] using h
   simp only [E.den,Int.ofNat_eq_natCast];omega
noncomputable def Pc.st:Pc->ST
 | .b l=> .bs l
 | .v i lo hi=>bif lo.same (.lit 0)&&hi.same (.len i) then .var i else .sub (.var i) lo hi
theorem Pc.st_v (i:Nat) (lo hi:E):(Pc.v i lo hi).st=bif lo.same (.lit 0)&&hi.same (.len i) then .var i else .sub (.var i) lo hi:=rfl
theorem Pc.Q9w {O:Val} (p:Pc):p.st.den O=p.den O:=by
 cases p with
 |b l=>rfl
 |v i lo hi=>
  rw [Pc.st_v];cases h:(lo.same (.lit 0)&&hi.same (.len i)) with
  |false=>rfl
  |true=>simp only [Bool.and_eq_true] at h;simp only [cond_true,ST.den,Pc.den];rw [E.Q5 h.1,E.Q5 h.2];simp [E.den]
theorem Pc.Qmg {d:Nat->Prop} {p:Pc} (h:p.ok d):p.st.ok d:=by
 cases p with
 |b l=>exact h
 |v i lo hi=>
  rw [Pc.st_v];cases (lo.same (.lit 0)&&hi.same (.len i)) with
  |false=>exact h
  |true=>exact h.1
theorem Pc.Qiw {O:Val} {p:Pc} (h:p.sane O) (hl:(p.den O).length<=549755813888):p.st.fit O:=by
 cases p with
 |b l=>simp [Pc.st,ST.fit,ST.len,E.den,ST.den,S.bytes]
 |v i lo hi=>
  have hv:=Pc.Qhl h;have e:=Pc.Q9w (O:=O) (.v i lo hi);unfold ST.fit;rw [e,Pc.st_v];cases hb:(lo.same (.lit 0)&&hi.same (.len i)) with
  |true=>simp only [Bool.and_eq_true] at hb;rw [hv];simp only [cond_true,ST.len];rw [E.Q5 hb.1,E.Q5 hb.2];simp [E.den]
  |false=>simp only [cond_false,ST.len,E.den,Zm];rw [hv,Q6];omega
noncomputable def ofR:List Pc->ST
 |[]=> .bs []
 |[p]=>p.st
 |p::q::r=> .cat p.st (ofR (q::r))
theorem Q8n {O:Val}:∀l:List Pc,(ofR l).den O=J4 O l
 |[]=>rfl
 |[p]=>by simp [ofR,Pc.Q9w,Qa]
 |p::q::r=>by
  show p.st.den O++(ofR (q::r)).den O=p.den O++J4 O (q::r)
  rw [Pc.Q9w,Q8n (q::r)]
theorem Qj1 {d:Nat->Prop}:∀{l:List Pc},rok d l->(ofR l).ok d
 |[],_=>λt ht=>by cases ht
 |[p],h=>Pc.Qmg (h p (by simp))
 |p::q::r,h=>⟨Pc.Qmg (h p (by simp)),Qj1 λx hx=>h x (by simp [hx])⟩
theorem Q90 {O:Val} {a b:ST} (ha:a.fit O) (hb:b.fit O) (h1:(a.den O).length<=549755813888) (h2:(b.den O).length<=549755813888):(ST.cat a b).fit O:=by unfold ST.fit at*;simp only [ST.len,E.den,ST.den,Zm,List.length_append,ha,hb];rw [Q6];omega
theorem Qe9 {O:Val}:∀{l:List Pc},(∀x∈l,x.sane O)->(J4 O l).length<=549755813888->(ofR l).fit O
 |[],_,_=>by simp [ofR,ST.fit,ST.len,E.den,ST.den,S.bytes]
 |[p],h,hl=>Pc.Qiw (h p (by simp)) (by simpa [Qa] using hl)
 |p::q::r,h,hl=>by rw [Qa,List.length_append] at hl;exact Q90 (Pc.Qiw (h p (by simp)) (by omega)) (Qe9 (λx hx=>h x (by simp [hx])) (by omega)) (by rw [Pc.Q9w];omega) (by rw [Q8n];omega)
noncomputable def jX (c:Ctx) (l:List Pc):Bool:=
 match Q6e c l with
 |some e=>(match (E.iv c.fs e).hi with
  |some h=>ile h 549755813888
  |none=>false)
 |none=>false
theorem JA {d:Nat->Prop} {c:Ctx} {O:Val} (hc:c.okN d O) {l:List Pc} (h:jX c l=true) (ho:rok d l) (hs:∀x∈l,x.sane O):(J4 O l).length<=549755813888:=by
 unfold jX at h;split at h;rename_i e he;obtain ⟨-,g⟩:=Yo hc he ho hs;split at h;rename_i u hu;have:=(E.Qb hc.2 e).2 _ hu
 rw [QO] at h;omega;cases h;cases h
noncomputable def avR (c:Ctx) (g:List Pc):Option AV:=
 match norm g with
 |[]=>some (.str [])
 |[.b m]=>bif m.all E.isByte then some (.str m) else none
 |n=>bif jX c n then some (.sstr (ofR n)) else none
theorem Q7g {c:Ctx} {X:Ext} (hc:c.okN X.dom X.O) {g:List Pc} {r:AV} (h:avR c g=some r) (ho:rok X.dom g) (hs:∀x∈g,x.sane X.O):r.rel X (.string ⟨(J4 X.O g).toArray⟩):=by
 have h1:=Yb (O:=X.O) g;have h2:=Q47 ho;have h3:=zN hs;rw [<-h1];unfold avR at h;split at h;rename_i hn;cases h;rw [hn];simp only [AV.rel];exact ⟨(λt ht=>by cases ht),rfl⟩;rename_i m hn;cases hb:m.all E.isByte with
 |false=>rw [hb] at h;cases h
 |true=>
  rw [hb] at h;cases h;rw [hn] at h2 ⊢;have hm:(Pc.b m).ok X.dom:=h2 _ (by simp)
  simp only [AV.rel];refine ⟨λt ht=>⟨hm t ht,E.Y0 (List.all_eq_true.1 hb t ht) _⟩,?_⟩;simp [Qa,Pc.den]
 cases hb:jX c (norm g) with
 |false=>rw [hb] at h;cases h
 |true=>rw [hb] at h;cases h;simp only [AV.rel];refine ⟨Qj1 h2,Qe9 h3 (JA hc hb h2 h3),?_⟩;rw [Q8n]
noncomputable def Qk8 (c:Ctx) (s:ST) (l h:E):Option AV:=
 match s.pcs with
 |some p=>bif p.all (Pc.good c) then (match Qgg c h p with
  |some (f,_)=>match Qgg c l f with
   |some (_,g)=>avR c g
   |none=>none
  |none=>none) else none
 |none=>none
theorem all_good {d:Nat->Prop} {c:Ctx} {O:Val} (hc:c.okN d O) {p:List Pc} (h:p.all (Pc.good c)=true):∀x∈p,x.sane O:=λx hx=>Pc.Qca hc (List.all_eq_true.1 h x hx)
theorem Q8l {c:Ctx} {X:Ext} (hc:c.okN X.dom X.O) {s:ST} {l h:E} {r:AV} (hr:Qk8 c s l h=some r) (hs:s.ok X.dom) (hl:l.ok X.dom) (hh:h.ok X.dom):
 0<=l.den X.O/\l.den X.O<=h.den X.O/\h.den X.O<=((s.den X.O).length:Int)/\r.rel X (.string ⟨(((s.den X.O).drop (l.den X.O).toNat).take ((h.den X.O).toNat-(l.den X.O).toNat)).toArray⟩):=by
 unfold Qk8 at hr;split at hr;rename_i p hp;obtain ⟨p1,p2⟩:=ST.ZE (O:=X.O) hp hs;cases hg:p.all (Pc.good c) with
 |false=>rw [hg] at hr;cases hr
 |true=>
  rw [hg] at hr;simp only [cond_true] at hr;split at hr;rename_i f g0 hf;obtain ⟨a1,a2,a3,a4,a5,a6⟩:=Yh hc hf hh p1 (all_good hc hg);split at hr;rename_i f' g hf';obtain ⟨b1,b2,b3,b4,b5,b6⟩:=Yh hc hf' hl a1 a3;have:=Q7g hc hr b2 b4;rw [<-p2,a5,b5];have e1:(l.den X.O).toNat=(J4 X.O f').length:=by omega
  have e2:(h.den X.O).toNat-(l.den X.O).toNat=(J4 X.O g).length:=by rw [b5,List.length_append] at a6;omega
  rw [e2,e1,List.append_assoc,List.drop_left,List.take_left];rw [b5,List.length_append] at a6;refine ⟨by omega,by omega,?_,this⟩;simp only [List.length_append];omega;cases hr;cases hr
 cases hr
noncomputable def lenS (c:Ctx) (s:ST):Option E:=
 match s.pcs with
 |some p=>bif p.all (Pc.good c) then Q6e c p else none
 |none=>none
theorem Qc7 {d:Nat->Prop} {c:Ctx} {O:Val} (hc:c.okN d O) {s:ST} {e:E} (h:lenS c s=some e) (hs:s.ok d):e.ok d/\e.den O=((s.den O).length:Int):=by
 unfold lenS at h;split at h;rename_i p hp;obtain ⟨p1,p2⟩:=ST.ZE (O:=O) hp hs;cases hg:p.all (Pc.good c) with
 |false=>rw [hg] at h;cases h
 |true=>rw [hg] at h;obtain ⟨g1,g2⟩:=Yo hc h p1 (all_good hc hg);exact ⟨g1,by rw [g2,p2]⟩
 cases h
def Qdp:List E->List E->Bool
 |[],[]=>true
 |a::l,b::m=>a.same b&&Qdp l m
 |_,_=>false
theorem qM:∀{l m:List E},Qdp l m=true->l=m
 |[],[],_=>rfl
 |[],_::_,h=>by cases h
 |_::_,[],h=>by cases h
 |a::l,b::m,h=>by simp only [Qdp,Bool.and_eq_true] at h;rw [E.Q5 h.1,qM h.2]
def Qbt:List Pc->List Pc->Bool
 |[],[]=>true
 | .b l::p, .b m::q=>Qdp l m&&Qbt p q
 | .v i a b::p, .v j c d::q=>Nat.beq i j&&(a.same c&&(b.same d&&Qbt p q))
 |_,_=>false
theorem qL:∀{l m:List Pc},Qbt l m=true->l=m
 |[],[],_=>rfl
 |[],x::_,h=>by cases x<;>cases h
 |x::_,[],h=>by cases x<;>cases h
 | .b l::p, .b m::q,h=>by simp only [Qbt,Bool.and_eq_true] at h;rw [qM h.1,qL h.2]
 | .v i a b::p, .v j c d::q,h=>by simp only [Qbt,Bool.and_eq_true,Nat.beq_eq] at h;rw [h.1,E.Q5 h.2.1,E.Q5 h.2.2.1,qL h.2.2.2]
 | .b _::_, .v .. ::_,h=>by cases h
 | .v .. ::_, .b _::_,h=>by cases h
noncomputable def Qgw (a b:ST):Bool:=
 match a.pcs,b.pcs with
 |some p,some q=>Qbt (norm p) (norm q)
 |_,_=>false
theorem Q8b {O:Val} {a b:ST} (h:Qgw a b=true):a.den O=b.den O:=by unfold Qgw at h;split at h;rename_i p q hp hq;have h0:=qL h;have e1:=Yb (O:=O) p;have e2:=Yb (O:=O) q;have a1:J4 O p=a.den O:=jq hp;have a2:J4 O q=b.den O:=jq hq;rw [<-a1,<-a2,<-e1,<-e2,h0];cases h
noncomputable def eqC (c:Ctx) (a b:E):Bool:=a.same b||(leC c a b&&leC c b a)
theorem Q1d {n:Nat->Prop} {c:Ctx} {a b:E} {O:Val} (h:eqC c a b=true) (hc:c.okN n O):a.den O=b.den O:=by unfold eqC at h;rw [Bool.or_eq_true,Bool.and_eq_true] at h;rcases h with h|h;rw [E.Q5 h];have h1:=ZG h.1 hc;have h2:=ZG h.2 hc;omega
noncomputable def Q6f (k:Ctx):List Pc->List Pc
 |[]=>[]
 |p::r=>match p,Q6f k r with
  | .v i a b, .v j e d::q=>bif Nat.beq i j&&eqC k b e then .v i a d::q else .v i a b:: .v j e d::q
  |p,q=>p::q
noncomputable def Qbs (k:Ctx):List Pc->List Pc->Bool
 |[],[]=>true
 | .b l::p, .b m::q=>Qdp l m&&Qbs k p q
 | .v i a b::p, .v j c d::q=>Nat.beq i j&&(eqC k a c&&(eqC k b d&&Qbs k p q))
 |_,_=>false
theorem qK {n:Nat->Prop} {k:Ctx} {O:Val} (hk:k.okN n O):∀{l m:List Pc},Qbs k l m=true->J4 O l=J4 O m
 |[],[],_=>rfl
 |[],x::_,h=>by cases x<;>cases h
 |x::_,[],h=>by cases x<;>cases h
 | .b l::p, .b m::q,h=>by simp only [Qbs,Bool.and_eq_true] at h;rw [Qa,Qa,qM h.1,qK hk h.2]
 | .v i a b::p, .v j c d::q,h=>by simp only [Qbs,Bool.and_eq_true,Nat.beq_eq] at h;rw [Qa,Qa,qK hk h.2.2.2];simp only [Pc.den,h.1,Q1d h.2.1 hk,Q1d h.2.2.1 hk]
 | .b _::_, .v .. ::_,h=>by cases h
 | .v .. ::_, .b _::_,h=>by cases h
noncomputable def Qgx (c:Ctx) (a b:ST):Bool:=
 match a.pcs,b.pcs with
 |some p,some q=>(p.all (Pc.good c)&&q.all (Pc.good c))&&Qbs c (Q6f c (norm p)) (Q6f c (norm q))
 |_,_=>false
theorem Qd4 {α:Type} (l:List α) {a b d:Nat} (h1:a<=b) (h2:b<=d):(l.drop a).take (b-a)++(l.drop b).take (d-b)=(l.drop a).take (d-a):=by
 have e:l.drop b=(l.drop a).drop (b-a):=by rw [List.drop_drop];congr 1;omega
 rw [e,<-List.take_add];congr 1;omega
theorem qQ {n:Nat->Prop} {k:Ctx} {O:Val} (hk:k.okN n O):∀l:List Pc,(∀x∈l,x.sane O)->J4 O (Q6f k l)=J4 O l/\∀x∈Q6f k l,x.sane O
 |[],_=>⟨rfl,λ_ h=>by cases h⟩
 |p::r,h=>by
  obtain ⟨h1,h2⟩:=qQ hk r λx hx=>h x (by simp [hx])
  have hp:=h p (by simp);have keep:J4 O (p::Q6f k r)=J4 O (p::r)/\∀x∈p::Q6f k r,x.sane O:=by refine ⟨by rw [Qa,Qa,h1],λx hx=>?_⟩;rcases List.mem_cons.1 hx with rfl|hx;exact hp;exact h2 x hx
  unfold Q6f;split;rename_i i a b j e d q hq;rw [hq] at keep h1 h2;cases hb:(Nat.beq i j&&eqC k b e) with
  |false=>exact keep
  |true=>
   simp only [Bool.and_eq_true,Nat.beq_eq] at hb;obtain ⟨hb,hs⟩:=hb;subst hb;have hbe:=Q1d hs hk;have hv:=h2 (.v i e d) (by simp);obtain ⟨a1,a2,a3⟩:=hp;obtain ⟨b1,b2,b3⟩:=hv;simp only [cond_true];refine ⟨?_,λx hx=>?_⟩;rw [Qa,Qa,<-h1,Qa,<-List.append_assoc];congr 1;simp only [Pc.den,<-hbe];exact (Qd4 _ (by omega) (by omega)).symm
   rcases List.mem_cons.1 hx with rfl|hx;exact ⟨a1,by omega,b3⟩;exact h2 x (by simp [hx])
  exact keep
theorem Q8c {n:Nat->Prop} {c:Ctx} {O:Val} (hc:c.okN n O) {a b:ST} (h:Qgx c a b=true):a.den O=b.den O:=by
 unfold Qgx at h;split at h;rename_i p q hp hq;simp only [Bool.and_eq_true] at h;obtain ⟨⟨g1,g2⟩,g3⟩:=h;have h0:=qK hc g3;have e1:=(qQ hc (norm p) (zN (all_good hc g1))).1
 have e2:=(qQ hc (norm q) (zN (all_good hc g2))).1
 have a1:J4 O p=a.den O:=jq hp;have a2:J4 O q=b.den O:=jq hq;rw [<-a1,<-a2,<-Yb p,<-Yb q,<-e1,<-e2,h0];cases h
noncomputable def Qd3:List E->E->E
 |[],t=>t
 |a::l,t=> .cons a (Qd3 l t)
noncomputable def yH:List Pc->E
 |[]=> .lit (.ofNat 1)
 | .b l::r=>Qd3 l (yH r)
 | .v i lo hi::r=> .tv i lo hi (yH r)
theorem Q5m {O:Val} {t:E}:∀l:List E,(Qd3 l t).den O=Jy (S.bytes O l) (t.den O)
 |[]=>rfl
 |a::l=>by simp only [Qd3,E.den,Q5m l];rfl
theorem Q9s {d:Nat->Prop} {t:E} (ht:t.ok d):∀{l:List E},(∀x∈l,x.ok d)->(Qd3 l t).ok d
 |[],_=>ht
 |a::l,h=>⟨h a (by simp),Q9s ht λx hx=>h x (by simp [hx])⟩
theorem zq {O:Val}:∀l:List Pc,(yH l).den O=Jy (J4 O l) 1
 |[]=>rfl
 | .b l::r=>by rw [yH,Q5m,zq r,Qa,Q1i];rfl
 | .v i lo hi::r=>by rw [yH,E.den,zq r,Qa,Q1i];rfl
theorem Q3u {d:Nat->Prop}:∀{l:List Pc},rok d l->(yH l).ok d
 |[],_=>trivial
 | .b l::r,h=>Q9s (Q3u λx hx=>h x (by simp [hx])) (h (.b l) (by simp))
 | .v i lo hi::r,h=>by have:=h (.v i lo hi) (by simp);exact ⟨this.1,this.2.1,this.2.2,Q3u λx hx=>h x (by simp [hx])⟩
end Go.Ax
namespace Go.Ax
open Go.RowKit
def Qit:AV->Option ST
 | .str s=>some (.bs s)
 | .sstr s=>some s
 |_=>none
theorem zo {X:Ext} {x:AV} {u:Value} {s:ST} (h:Qit x=some s) (hx:x.rel X u):s.ok X.dom/\s.fit X.O/\u= .string ⟨(s.den X.O).toArray⟩:=by cases x<;>simp only [Qit,Option.some.injEq,reduceCtorEq] at h<;>subst h<;>simp only [AV.rel] at hx;exact ⟨λt ht=>(hx.1 t ht).1,by simp [ST.fit,ST.len,E.den,ST.den,S.bytes],hx.2⟩;exact hx
noncomputable def ST.small (c:Ctx) (s:ST):Bool:=
 match (E.iv c.fs s.len).hi with
 |some h=>ile h 549755813888
 |none=>false
theorem ST.J7 {n:Nat->Prop} {c:Ctx} {s:ST} {O:Val} (h:s.small c=true) (hc:c.okN n O) (hf:s.fit O):(s.den O).length<=549755813888:=by
 unfold ST.small at h;split at h;rename_i l e;rw [QO] at h;have:=(E.Qb hc.2 s.len).2 _ e
 unfold ST.fit at hf;omega;cases h
noncomputable def ST.fits (c:Ctx) (s:ST):Bool:=
 match (E.iv c.fs s.len).hi with
 |some h=>ile h 9223372036854775807
 |none=>false
theorem ST.ZQ {n:Nat->Prop} {c:Ctx} {s:ST} {O:Val} (h:s.fits c=true) (hc:c.okN n O) (hf:s.fit O):(s.den O).length<=9223372036854775807:=by
 unfold ST.fits at h;split at h;rename_i l e;rw [QO] at h;have:=(E.Qb hc.2 s.len).2 _ e
 unfold ST.fit at hf;omega;cases h
theorem ST.Q90 {O:Val} {a b:ST} (ha:a.fit O) (hb:b.fit O) (h1:(a.den O).length<=549755813888) (h2:(b.den O).length<=549755813888):(ST.cat a b).fit O:=by unfold ST.fit at*;simp only [ST.len,E.den,ST.den,Zm,List.length_append,ha,hb];rw [wrap_within (by simp only [kLo];omega) (by simp only [kHi];omega)];omega
noncomputable def Qmh (c:Ctx) (a b:ST):D Bool:=
 match b with
 | .bs []=>match E.cmp c .eql a.len (.lit (.ofNat 0)) with
  |some r=> .ok r
  |none=> .ask .eql a.len (.lit (.ofNat 0))
 |b=>match a with
  | .bs []=>match E.cmp c .eql b.len (.lit (.ofNat 0)) with
   |some r=> .ok r
   |none=> .ask .eql b.len (.lit (.ofNat 0))
  |a=>bif Qgw a b then .ok true else bif Qgx c a b then .ok true else
   match a.pcs,b.pcs with
   |some p,some q=>match E.cmp c .eql (yH (norm p)) (yH (norm q)) with
    |some r=> .ok r
    |none=> .ask .eql (yH (norm p)) (yH (norm q))
   |_,_=> .fail
theorem Qhw {l m:List UInt8} (h:Jy l 1=Jy m 1):l=m:=by rw [<-qc l,h,qc m]
theorem Qbr {n:Nat->Prop} {c:Ctx} {O:Val} (hc:c.okN n O) {a b:ST} {r:Bool} (oa:a.ok n) (ob:b.ok n) (ha:a.fit O) (hb:b.fit O) (h:Qmh c a b= .ok r):decide (a.den O=b.den O)=r:=by
 unfold Qmh at h;split at h;split at h;rename_i q hq;cases h;have:=E.Qf rfl hq hc;unfold ST.fit at ha;simp only [Y3,E.den,ha] at this;rw [<-this,Bool.eq_iff_iff];simp [ST.den,S.bytes];cases h;split at h;split at h;rename_i q hq;cases h;have:=E.Qf rfl hq hc;unfold ST.fit at hb;simp only [Y3,E.den,hb] at this;rw [<-this,Bool.eq_iff_iff];have e:(([]:List UInt8)=b.den O)↔(b.den O=[]):=⟨Eq.symm,Eq.symm⟩;simp [ST.den,S.bytes,e];cases h;cases hs:Qgw a b with
 |false=>
  rw [hs] at h;simp only [cond_false] at h;cases hj:Qgx c a b with
  |false=>rw [hj] at h;simp only [cond_false] at h;split at h;rename_i p q hp hq;obtain ⟨p1,p2⟩:=ST.ZE (O:=O) hp oa;obtain ⟨q1,q2⟩:=ST.ZE (O:=O) hq ob;split at h;rename_i z hz;cases h;have:=E.Qf rfl hz hc;simp only [Y3,zq,Yb,p2,q2] at this;rw [<-this,Bool.eq_iff_iff];simp only [decide_eq_true_eq,beq_iff_eq];exact ⟨λe=>by rw [e],Qhw⟩;cases h;cases h
  |true=>rw [hj] at h;cases h;exact decide_eq_true (Q8c hc hj)
 |true=>rw [hs] at h;cases h;exact decide_eq_true (Q8b hs)
noncomputable def astr (c:Ctx) (op:BinOp) (x y:AV):D AV:=
 match Qit x,Qit y with
 |some a,some b=>match op with
  | .add=>bif a.small c&&b.small c then .ok (.sstr (.cat a b)) else .fail
  | .eql=>(Qmh c a b).bind λr=> .ok (.bool r)
  | .neq=>(Qmh c a b).bind λr=> .ok (.bool (!r))
  |_=> .fail
 |_,_=> .fail
theorem Q3l {P:Program} {c:Ctx} {X:Ext} (hc:c.okN X.dom X.O) {w:World} {op:BinOp} {t:TypeId} {x y r:AV} {u v:Value}
 (h:astr c op x y= .ok r) (hx:x.rel X u) (hy:y.rel X v):(∃s,u= .string s)/\(∃s,v= .string s)/\∃z,(binOp op t u v).run P w= .ok z w/\r.rel X z:=by
 unfold astr at h;split at h;rename_i a b ha hb;obtain ⟨a1,a2,rfl⟩:=zo ha hx;obtain ⟨b1,b2,rfl⟩:=zo hb hy;refine ⟨⟨_,rfl⟩,⟨_,rfl⟩,?_⟩;have heq:∀q,Qmh c a b= .ok q->(({ data:=(a.den X.O).toArray}:ByteArray).toList==({ data:=(b.den X.O).toArray}:ByteArray).toList)=q:=by intro q hq;rw [<-Qbr hc a1 b1 a2 b2 hq,ByteArray.toList_eq,ByteArray.toList_eq,Bool.eq_iff_iff];simp
 split at h;cases hl:(a.small c&&b.small c) with
 |false=>rw [hl] at h;cases h
 |true=>
  rw [hl] at h;cases h;simp only [Bool.and_eq_true] at hl;have l1:=ST.J7 hl.1 hc a2;have l2:=ST.J7 hl.2 hc b2;refine ⟨.string (⟨(a.den X.O).toArray⟩++⟨(b.den X.O).toArray⟩),?_,?_⟩;have e:¬(((({ data:=(a.den X.O).toArray}:ByteArray).size+({ data:=(b.den X.O).toArray}:ByteArray).size:Nat):Int)>IntKind.i64.max):=by have:IntKind.i64.max=9223372036854775807:=rfl;rw [this];show ¬(((a.den X.O).toArray.size+(b.den X.O).toArray.size:Nat):Int)>_;simp only [List.size_toArray];omega
  simp only [binOp,Op.stringOp,e,if_false,Sem.run_pure];simp only [AV.rel];refine ⟨⟨a1,b1⟩,ST.Q90 a2 b2 l1 l2,?_⟩;rw [ByteArray.mk_append_mk];simp [ST.den]
 obtain ⟨q,h1,h2⟩:=D.bind_ok h;cases h2;exact ⟨.bool q,by simp only [binOp,Op.stringOp,heq q h1,Sem.run_pure],by simp only [AV.rel]⟩;obtain ⟨q,h1,h2⟩:=D.bind_ok h;cases h2;exact ⟨.bool (!q),by simp only [binOp,Op.stringOp,heq q h1,Sem.run_pure],by simp only [AV.rel]⟩;cases h;cases h
noncomputable def yP (c:Ctx) (op:BinOp) (k:IntKind) (a b:E):D AV:=
 match op with
 | .add| .sub| .mul=>(D.of (E.Q3m c op k a b)).bind λr=> .ok (.int k r)
 | .quo| .rem=>(D.of (E.divide c op k a b)).bind λr=> .ok (.int k r)
 | .and| .or| .xor| .andNot=>(D.of (E.bits op k a b)).bind λr=> .ok (.int k r)
 | .shl| .shr=> .fail
 |_=>match E.cmp c op a b with
  |some r=> .ok (.bool r)
  |none=>match E.askN c op a b with
   |(o,x,y)=> .ask o x y
noncomputable def Qbd (T:Tab) (c:Ctx) (H:Tr Q7) (kx:Bool) (op:BinOp) (t:TypeId) (x y:AV):D AV:=
 match x,y with
 | .int k a, .int j b=>
  match op with
  | .shl| .shr=>(D.of (E.shift c op k a b)).bind λr=> .ok (.int k r)
  |_=>bif Nat.beq (kN k) (kN j) then yP c op k a b else .fail
 | .str a, .str b=>
  match op with
  | .add=>bif Nat.ble (a.length+b.length) 1099511627776 then .ok (.str (a++b)) else .fail
  | .eql=>(S.eq c a b).bind λr=> .ok (.bool r)
  | .neq=>(S.eq c a b).bind λr=> .ok (.bool (!r))
  |_=> .fail
 | .agg a, .agg b=>
  match T.ty t with
  |none=> .fail
  |some ti=>bif ti.cmpOK then
   match op with
   | .eql=>(aeq T c H 50 t (.agg a) (.agg b)).bind λr=> .ok (.bool r)
   | .neq=>(aeq T c H 50 t (.agg a) (.agg b)).bind λr=> .ok (.bool (!r))
   |_=> .fail
   else .fail
 | .nilIface, .nilIface=>
  bif kx then
   match op with
   | .eql=>(aeq T c H 50 t .nilIface .nilIface).bind λr=> .ok (.bool r)
   | .neq=>(aeq T c H 50 t .nilIface .nilIface).bind λr=> .ok (.bool (!r))
   |_=> .fail
  else .fail
 | .sstr a,y=>astr c op (.sstr a) y
 |x, .sstr b=>astr c op x (.sstr b)
 |x,y=>
  match op with
  | .eql=>(aeq T c H 50 t x y).bind λr=> .ok (.bool r)
  | .neq=>(aeq T c H 50 t x y).bind λr=> .ok (.bool (!r))
  |_=> .fail
theorem Q9j {P:Program} {w:World} {c:Ctx} {X:Ext} (hc:c.okN X.dom X.O) {op:BinOp} {k:IntKind} {a b:E} {v:AV} (t:TypeId) (ha:a.ok X.dom) (hb:b.ok X.dom) (h:yP c op k a b= .ok v):
 ∃u,(binOp op t (.int k (a.den X.O)) (.int k (b.den X.O))).run P w= .ok u w/\v.rel X u:=by
 unfold yP at h;split at h
 case h_1|h_2|h_3=>obtain ⟨r,h1,h2⟩:=D.bind_ok h;cases h2;have:=E.Q7m (P:=P) (w:=w) (O:=X.O) hc (D.Qv h1);exact ⟨_,by simpa [binOp] using this,by simp only [AV.rel];exact ⟨E.Qg3 (D.Qv h1) ha hb,trivial⟩⟩
 case h_4|h_5=>obtain ⟨r,h1,h2⟩:=D.bind_ok h;cases h2;have:=E.Q6y (P:=P) (w:=w) (O:=X.O) hc (D.Qv h1);exact ⟨_,by simpa [binOp] using this,by simp only [AV.rel];exact ⟨E.Qfc (D.Qv h1) ha hb,trivial⟩⟩
 case h_6|h_7|h_8|h_9=>obtain ⟨r,h1,h2⟩:=D.bind_ok h;cases h2;have:=E.Q3j (P:=P) (w:=w) (O:=X.O) (D.Qv h1);exact ⟨_,by simpa [binOp] using this,by simp only [AV.rel];exact ⟨E.Qfy (D.Qv h1) ha hb,trivial⟩⟩
 case h_10|h_11=>cases h
 case h_12 op' n1 n2 n3 n4 n5 n6 n7 n8 n9 n10 n11=>
  have hop:Q6i op=true:=by cases op<;>first|rfl|(exfalso;first|exact n1 rfl|exact n2 rfl|exact n3 rfl|exact n4 rfl|exact n5 rfl|exact n6 rfl|exact n7 rfl|exact n8 rfl|exact n9 rfl|exact n10 rfl|exact n11 rfl)
  split at h;rename_i r hr;cases h;have e:=E.Qf hop hr hc;refine ⟨.bool r,?_,by simp only [AV.rel]⟩;rw [<-e,<-Qbu (P:=P) (w:=w) hop];cases op<;>simp [Q6i] at hop<;>simp [binOp];cases h
theorem Qj0 {α:Type} {P:Program} {w:World} {b:Prop} [Decidable b] {x y:Sem α} {r:Result α} (hx:x.run P w=r) (hy:y.run P w=r):(if b then x else y).run P w=r:=by split<;>assumption
theorem ZH {P:Program} {w:World} {op:BinOp} {t:TypeId} {xo yo:Operand} {u v:Value} (h1:¬(u= .nilIface/\v= .nilIface)) (h2:∀a b,¬(u= .agg a/\v= .agg b)):(eqGuard op t xo yo u v).run P w= .ok () w:=by unfold eqGuard;refine Qj0 rfl ?_;cases u<;>cases v<;>first|rfl|(exfalso;first|exact h1 ⟨rfl,rfl⟩|exact h2 _ _ ⟨rfl,rfl⟩)
def isK:Operand->Bool
 | .const _=>true
 |_=>false
theorem JD {P:Program} {w:World} {op:BinOp} {t:TypeId} {xo yo:Operand} (h:(isK xo||isK yo)=true):(eqGuard op t xo yo .nilIface .nilIface).run P w= .ok () w:=by unfold eqGuard;refine Qj0 rfl ?_;cases xo<;>cases yo<;>simp [isK] at h<;>rfl
def vk:Value->Nat
 | .int .. =>1| .float .. =>2| .complex .. =>3| .string .. =>4|_=>0
theorem YQ {P:Program} {w:World} {t:TypeId} {u v:Value} {r:Bool} (h:(Op.equalIn 10000 t u v).run P w= .ok r w) (hk:vk u=0\/vk v=0\/vk u≠vk v):
 (binOp .eql t u v).run P w= .ok (.bool r) w/\(binOp .neq t u v).run P w= .ok (.bool (!r)) w:=by
 have h' :(Op.equal t u v).run P w= .ok r w:=h
 have e1:binOp .eql t u v=(do pure (.bool (<-Op.equal t u v)))/\binOp .neq t u v=(do pure (.bool (!(<-Op.equal t u v)))):=by cases u<;>cases v<;>first|exact ⟨rfl,rfl⟩|(exfalso;revert hk;simp [vk];done)
 rw [e1.1,e1.2];simp [h']
theorem Qm5 {X:Ext} {a:AV} {v:Value} (h:a.rel X v) (hn:a≠ .any/\a≠ .top):vk v=match a with| .int .. =>1| .str .. =>4| .sstr .. =>4|_=>0:=by
 cases a<;>simp only [AV.rel] at h<;>
  first
   |(subst h;rfl)
   |exact absurd rfl hn.1
   |exact absurd rfl hn.2
   |(obtain ⟨_,rfl⟩:=h;rfl)
   |(obtain ⟨_,_,rfl⟩:=h;rfl)
   |(obtain ⟨_,_,_,_,rfl|⟨rfl,_⟩,_⟩:=h<;>rfl)
   |(obtain ⟨_,_,_,_,rfl,_⟩:=h;rfl)
   |(obtain ⟨_,_,rfl,_⟩:=h;rfl)
   |(obtain ⟨_,rfl,_⟩:=h;rfl)
   |(obtain ⟨_,_,rfl⟩:=h;rfl)
theorem Ze {T:Tab} {c:Ctx} {H:Tr Q7} {n:Nat} {t:TypeId} {x y:AV} {q:Bool} (h:aeq T c H n t x y= .ok q):(x≠ .any/\x≠ .top)/\y≠ .any/\y≠ .top:=by
 cases n with
 |zero=>cases h
 |succ n=>
  refine ⟨⟨?_,?_⟩,?_,?_⟩
  all_goals
   rintro rfl
   unfold aeq at h;split at h;cases h;split at h<;>first|(rename_i e;cases e;done)|(simp at*;done)|cases h
theorem Q0v {X:Ext} {a:AV} (hn:a≠ .top) (h:a.rel X .nilIface):a= .nilIface:=by cases a<;>simp only [AV.rel,reduceCtorEq,false_and,and_false,or_self,exists_false] at h<;>first|rfl|exact absurd rfl hn|cases h
theorem Qjc {X:Ext} {a:AV} {c:Array Value} (h:a.rel X (.agg c)):∃cs,a= .agg cs:=by cases a<;>simp only [AV.rel,reduceCtorEq,false_and,and_false,or_self,exists_false] at h<;>first|exact ⟨_,rfl⟩|cases h
theorem Qcv {P:Program} {T:Tab} (hT:T.OK P) {c:Ctx} {X:Ext} (hc:c.okN X.dom X.O) {n0:Nat} {H:Tr Q7} {w:World} (hH:Qn X n0 H w) {op:BinOp} {t:TypeId} {xo yo:Operand} {x y r:AV} {u v:Value}
 (h:Qbd T c H (isK xo||isK yo) op t x y= .ok r) (hx:x.rel X u) (hy:y.rel X v):∃z,(do eqGuard op t xo yo u v;binOp op t u v).run P w= .ok z w/\r.rel X z:=by
 have eqs:∀q,aeq T c H 50 t x y= .ok q->(Op.equalIn 10000 t u v).run P w= .ok q w:=λq hq=>JW hT hc hH 50 10000 t x y q u v (by omega) hq hx hy
 have vx:=Qm5 hx;have vy:=Qm5 hy;unfold Qbd at h;split at h
 . rename_i k a j b;simp only [AV.rel] at hx hy;obtain ⟨ha,rfl⟩:=hx;obtain ⟨hb,rfl⟩:=hy;rw [Sem.run_bind,ZH (by simp) (by simp)];simp only [Result.andThen_ok];split at h
   case h_1|h_2=>obtain ⟨r,h1,h2⟩:=D.bind_ok h;cases h2;have:=E.Q8a (P:=P) (w:=w) (O:=X.O) (j:=j) hc (D.Qv h1);exact ⟨_,by simpa [binOp] using this,by simp only [AV.rel];exact ⟨E.Qgv (D.Qv h1) ha hb,trivial⟩⟩
   case h_3=>
    cases hk:Nat.beq (kN k) (kN j) with
    |false=>rw [hk] at h;cases h
    |true=>rw [hk] at h;have:=Q13 hk;subst this;exact Q9j hc t ha hb h
 rename_i a b;simp only [AV.rel] at hx hy;obtain ⟨o1,rfl⟩:=hx;obtain ⟨o2,rfl⟩:=hy;rw [Sem.run_bind,ZH (by simp) (by simp)];simp only [Result.andThen_ok];have heq:∀q,S.eq c a b= .ok q->(({ data:=(S.bytes X.O a).toArray}:ByteArray).toList==({ data:=(S.bytes X.O b).toArray}:ByteArray).toList)=q:=by intro q hq;rw [<-S.Q4m hc o1 o2 hq,ByteArray.toList_eq,ByteArray.toList_eq,Bool.eq_iff_iff];simp
 split at h;cases hl:Nat.ble (a.length+b.length) 1099511627776 with
 |false=>rw [hl] at h;cases h
 |true=>
  rw [hl] at h;cases h;have hl' :a.length+b.length<=1099511627776:=by simpa using hl
  refine ⟨.string (⟨(S.bytes X.O a).toArray⟩++⟨(S.bytes X.O b).toArray⟩),?_,?_⟩;have e:¬(((({ data:=(S.bytes X.O a).toArray}:ByteArray).size+({ data:=(S.bytes X.O b).toArray}:ByteArray).size:Nat):Int)>IntKind.i64.max):=by have:IntKind.i64.max=9223372036854775807:=rfl;rw [this];show ¬(((S.bytes X.O a).toArray.size+(S.bytes X.O b).toArray.size:Nat):Int)>_;simp only [List.size_toArray,S.bytes,List.length_map];omega
  simp only [binOp,Op.stringOp,e,if_false,Sem.run_pure];simp only [AV.rel];refine ⟨λt ht=>?_,?_⟩;rcases List.mem_append.1 ht with ht|ht;exact o1 t ht;exact o2 t ht;rw [ByteArray.mk_append_mk];simp [S.bytes]
 obtain ⟨q,h1,h2⟩:=D.bind_ok h;cases h2;exact ⟨.bool q,by simp only [binOp,Op.stringOp,heq q h1,Sem.run_pure],by simp only [AV.rel]⟩;obtain ⟨q,h1,h2⟩:=D.bind_ok h;cases h2;exact ⟨.bool (!q),by simp only [binOp,Op.stringOp,heq q h1,Sem.run_pure],by simp only [AV.rel]⟩;cases h;rename_i a b;split at h;cases h;rename_i ti hti;cases hcm:ti.cmpOK with
 |false=>rw [hcm] at h;cases h
 |true=>
  rw [hcm] at h;obtain ⟨g1,_,_⟩:=hT.cmp t ti hti hcm;have hg:(eqGuard op t xo yo u v).run P w= .ok () w:=by simp only [AV.rel] at hx hy;obtain ⟨us,rfl,_⟩:=hx;obtain ⟨vs,rfl,_⟩:=hy;exact run_eqGuard_agg w op t xo yo us vs g1
  rw [Sem.run_bind,hg];simp only [Result.andThen_ok];simp only [cond_true] at h;split at h;obtain ⟨q,h1,h2⟩:=D.bind_ok h;cases h2;exact ⟨_,(YQ (eqs q h1) (.inl (vx (by simp)))).1,by simp only [AV.rel]⟩;obtain ⟨q,h1,h2⟩:=D.bind_ok h;cases h2;exact ⟨_,(YQ (eqs q h1) (.inl (vx (by simp)))).2,by simp only [AV.rel]⟩;cases h
 cases hk:(isK xo||isK yo) with
 |false=>rw [hk] at h;cases h
 |true=>
  rw [hk] at h;have hg:(eqGuard op t xo yo u v).run P w= .ok () w:=by simp only [AV.rel] at hx hy;subst hx hy;exact JD hk
  rw [Sem.run_bind,hg];simp only [Result.andThen_ok];simp only [cond_true] at h;split at h;obtain ⟨q,h1,h2⟩:=D.bind_ok h;cases h2;exact ⟨_,(YQ (eqs q h1) (.inl (vx (by simp)))).1,by simp only [AV.rel]⟩;obtain ⟨q,h1,h2⟩:=D.bind_ok h;cases h2;exact ⟨_,(YQ (eqs q h1) (.inl (vx (by simp)))).2,by simp only [AV.rel]⟩;cases h
 obtain ⟨⟨_,rfl⟩,⟨_,rfl⟩,hz⟩:=Q3l (P:=P) (w:=w) (t:=t) hc h hx hy;rw [Sem.run_bind,ZH (by simp) (by simp)];exact hz;obtain ⟨⟨_,rfl⟩,⟨_,rfl⟩,hz⟩:=Q3l (P:=P) (w:=w) (t:=t) hc h hx hy;rw [Sem.run_bind,ZH (by simp) (by simp)];exact hz;rename_i n5 n6 n1 n2 n3 n4;have hk:(x≠ .any/\x≠ .top)->(y≠ .any/\y≠ .top)->vk u=0\/vk v=0\/vk u≠vk v:=by intro nx ny;rw [vx nx,vy ny];cases x<;>first|exact .inl rfl|(cases y<;>first|exact .inr (.inl rfl)|(exfalso;first|exact n1 _ _ _ _ rfl rfl|exact n2 _ _ rfl rfl|exact n5 _ rfl|exact n6 _ rfl)|exact .inr (.inr (by simp)))
 have hg:x≠ .top->y≠ .top->(eqGuard op t xo yo u v).run P w= .ok () w:=λnx ny=>by
  refine ZH ?_ ?_
  rintro ⟨rfl,rfl⟩
  exact n4 (Q0v nx hx) (Q0v ny hy)
  rintro a b ⟨rfl,rfl⟩
  obtain ⟨_,e1⟩:=Qjc hx;obtain ⟨_,e2⟩:=Qjc hy;exact n3 _ _ e1 e2
 split at h;obtain ⟨q,h1,h2⟩:=D.bind_ok h;cases h2;rw [Sem.run_bind,hg (Ze h1).1.2 (Ze h1).2.2];simp only [Result.andThen_ok];exact ⟨_,(YQ (eqs q h1) (hk (Ze h1).1 (Ze h1).2)).1,by simp only [AV.rel]⟩;obtain ⟨q,h1,h2⟩:=D.bind_ok h;cases h2;rw [Sem.run_bind,hg (Ze h1).1.2 (Ze h1).2.2];simp only [Result.andThen_ok];exact ⟨_,(YQ (eqs q h1) (hk (Ze h1).1 (Ze h1).2)).2,by simp only [AV.rel]⟩;cases h
end Go.Ax
namespace Go.Ax
open Go.RowKit
noncomputable def Y4 (H:Tr Q7) (b:Nat):Option (List AV):=
 match H.get b with
 |some (.cells cs _ _ _ _)=>some cs
 |_=>none
noncomputable def aun (op:UnOp) (x:AV):Option AV:=
 match op,x with
 | .not, .bool b=>some (.bool (!b))
 | .neg, .int k a=>match E.arith .sub k (.lit 0) a with|some r=>some (.int k r)|none=>none
 | .xor, .int k a=>bif k.signed then none else match E.bits .xor k (.lit k.max) a with|some r=>some (.int k r)|none=>none
 |_,_=>none
theorem Qg1 {P:Program} {w:World} {X:Ext} {op:UnOp} {x r:AV} {u:Value} (h:aun op x=some r) (hx:x.rel X u):∃z,(Op.unary op u).run P w= .ok z w/\r.rel X z:=by
 unfold aun at h;split at h;cases h;simp only [AV.rel] at hx;subst hx;exact ⟨_,rfl,by simp only [AV.rel]⟩;split at h;rename_i r hr;cases h;simp only [AV.rel] at hx;obtain ⟨hok,rfl⟩:=hx;have:=E.zi (P:=P) (w:=w) (O:=X.O) hr;exact ⟨_,this,by simp only [AV.rel];exact ⟨E.ql (n:=X.dom) hr trivial hok,trivial⟩⟩;cases h;rename_i k a;cases hs:k.signed with
 |true=>rw [hs] at h;cases h
 |false=>rw [hs] at h;simp only [cond_false] at h;split at h;rename_i r hr;cases h;simp only [AV.rel] at hx;obtain ⟨hok,rfl⟩:=hx;have:=E.Q3j (P:=P) (w:=w) (O:=X.O) hr;refine ⟨.int k (r.den X.O),?_,by simp only [AV.rel];exact ⟨E.Qfy (n:=X.dom) hr trivial hok,trivial⟩⟩;simp only [Op.unary,hs,Bool.false_eq_true,if_false];exact this;cases h
 cases h
theorem Z8 (b o i:Nat):(⟨b,o,none⟩:Addr).add i=⟨b,o+i,none⟩:=by unfold Addr.add;split<;>simp_all
theorem QV {P:Program} {X:Ext} {n0:Nat} {H:Tr Q7} {w:World} (hH:Qn X n0 H w) {b o n:Nat} {cs:List AV} {p:Place} (hc:Y4 H b=some cs) (hp:X.V b=some p) (hn:o+n<=cs.length):
 ∃vs:List Value,(loadCells ⟨p.blk,p.base+o,none⟩ n).run P w= .ok vs.toArray w/\AV.QI X ((cs.drop o).take n) vs:=by
 unfold Y4 at hc;split at hc;rename_i cs' elem ex pl ro ho;cases hc;have key:∀m o,o+m<=cs.length->∃vs:List Value,vs.length=m/\(∀j v,vs[j]?=some v->w.cell? ((⟨p.blk,p.base+o,none⟩:Addr).add j)=some v)/\AV.QI X ((cs.drop o).take m) vs:=by
  intro m;induction m with
  |zero=>intro o _;exact ⟨[],rfl,by simp,by simp⟩
  |succ m ih=>
   intro o ho';obtain ⟨vs,h1,h2,h3⟩:=ih (o+1) (by omega);have hlt:o<cs.length:=by omega
   obtain ⟨v,hv,hr⟩:=hH.cell ho hp (List.getElem?_eq_getElem hlt);refine ⟨v::vs,by simp [h1],λj u hj=>?_,?_⟩;cases j with
   |zero=>simp at hj;subst hj;rw [Z8];exact hv
   |succ j=>simp at hj;have:=h2 j u hj;rw [Z8] at this ⊢;rw [<-this];congr 2;omega
   rw [List.drop_eq_getElem_cons hlt,List.take_succ_cons,rels_cons_cons];exact ⟨hr,h3⟩
 obtain ⟨vs,h1,h2,h3⟩:=key n o hn;refine ⟨vs,?_,h3⟩;rw [<-h1];exact run_loadCells_list w _ vs h2;cases hc
noncomputable def Q9h (T:Tab) (H:Tr Q7) (t:TypeId) (x:AV):Option AV:=
 match x with
 | .ptr b o=>
  match T.ty t,Y4 H b with
  |some ti,some cs=>bif Q15 ti.desc then (bif Nat.ble (o+ti.size) cs.length then some (.agg ((cs.drop o).take ti.size)) else none) else cs[o]?
  |_,_=>none
 |_=>none
theorem Q1s {P:Program} {T:Tab} (hT:T.OK P) {X:Ext} {n0:Nat} {H:Tr Q7} {w:World} (hH:Qn X n0 H w) {t:TypeId} {x r:AV} {u:Value} (h:Q9h T H t x=some r) (hx:x.rel X u):
 ∃z,(Instr.loadAt t u).run P w= .ok z w/\r.rel X z:=by
 unfold Q9h at h;split at h;rename_i b o;split at h;rename_i ti cs hti hcs;simp only [AV.rel] at hx;obtain ⟨p,hp,rfl⟩:=hx;simp only [Instr.loadAt,Instr.sureAddr,loadVar,pure_bind,Sem.run_bind,T.Q5v hT hti,Result.andThen_ok];cases hd:Q15 ti.desc with
 |true=>
  rw [hd] at h;cases hl:Nat.ble (o+ti.size) cs.length with
  |false=>rw [hl] at h;cases h
  |true=>rw [hl] at h;cases h;obtain ⟨vs,h1,h2⟩:=QV (P:=P) hH hcs hp (by simpa using hl);refine ⟨.agg vs.toArray,?_,?_⟩;simp [T.Qx hT hti,h1];simp only [AV.rel];exact ⟨_,rfl,h2⟩
 |false=>rw [hd] at h;have h' :cs[o]?=some r:=h;unfold Y4 at hcs;split at hcs;rename_i ho;cases hcs;obtain ⟨v,hv,hr⟩:=hH.cell ho hp h';exact ⟨v,by simp [hv],hr⟩;cases hcs
 cases h;cases h
def Qm1 (x:AV):Option AV:=
 match x with
 | .ptr .. | .iface .. | .func .. | .yield _| .slice .. | .map _=>some x
 |_=>none
theorem Qcp {P:Program} {w:World} {X:Ext} {x r:AV} {f:Operand->Value} {o:Operand} {u:Value} (hu:f o=u) (h:Qm1 x=some r) (hx:x.rel X u) (od:Oper) (ho:od.op= .nilCheck o):
 (execOp f od).run P w= .ok (.value u) w/\r.rel X u:=by
 have hr:r=x:=by unfold Qm1 at h;split at h<;>cases h<;>rfl
 subst hr;refine ⟨?_,hx⟩;simp only [execOp,ho,hu];cases r<;>simp only [Qm1,reduceCtorEq] at h<;>simp only [AV.rel] at hx;obtain ⟨p,_,rfl⟩:=hx;rfl;obtain ⟨p,o',c,_,rfl,_⟩:=hx;rfl;obtain ⟨p,_,rfl⟩:=hx;rfl;obtain ⟨p,q,rfl,_⟩:=hx;rfl;obtain ⟨p,_,rfl⟩:=hx;rfl;obtain ⟨p,rfl,_⟩:=hx;rfl
noncomputable def Yj (T:Tab) (s:TypeId) (x:AV) (f:Nat):Option AV:=
 match x with
 | .ptr b o=>
  match T.ty s with
  |some ti=>
   match ti.desc with
   | .struct fs=>
    match fs[f]? with
    |some fd=>
     match T.ty fd.type with
     |some fi=>bif Nat.beq fi.size 0 then none else QE (o+fd.offset) λo=>some (.ptr b o)
     |none=>none
    |none=>none
   |_=>none
  |none=>none
 |_=>none
theorem yR {P:Program} {T:Tab} (hT:T.OK P) {w:World} {X:Ext} {s:TypeId} {x r:AV} {f:Nat} {u:Value} (h:Yj T s x f=some r) (hx:x.rel X u):∃z,(Instr.fieldAt s u f).run P w= .ok z w/\r.rel X z:=by
 unfold Yj at h;split at h;rename_i b o;split at h;rename_i ti hti;split at h;rename_i fs hd;split at h;rename_i fd hfd;split at h;rename_i fi hfi;simp only [AV.rel] at hx;obtain ⟨p,hp,rfl⟩:=hx;cases hz:Nat.beq fi.size 0 with
 |true=>rw [hz] at h;cases h
 |false=>
  rw [hz] at h;simp only [cond_false,sNat_eq,Option.some.injEq] at h;subst h;have hz' :fi.size≠0:=λe=>by rw [e] at hz;cases hz
  refine ⟨.pointer (some ⟨p.blk,p.base+o+fd.offset,none⟩),?_,?_⟩;simp [Instr.fieldAt,T.Qe hT hti,hd,hfd,Instr.sureAddr,fieldPlace,T.Qx hT hfi,hz',Z8];simp only [AV.rel];exact ⟨p,hp,by rw [Nat.add_assoc]⟩
 cases h;cases h;cases h;cases h;cases h
noncomputable def Qb6 (T:Tab) (s:TypeId) (x:AV) (f:Nat):Option AV:=
 match x with
 | .agg cs=>
  match T.ty s with
  |some ti=>
   match ti.desc with
   | .struct fs=>
    match fs[f]? with
    |some fd=>apart T fd.type cs fd.offset
    |none=>none
   |_=>none
  |none=>none
 |_=>none
theorem Q7r {P:Program} {T:Tab} (hT:T.OK P) {w:World} {X:Ext} {s:TypeId} {x r:AV} {f:Nat} {u:Value} (h:Qb6 T s x f=some r) (hx:x.rel X u):∃z,(Instr.field s u f).run P w= .ok z w/\r.rel X z:=by unfold Qb6 at h;split at h;split at h;rename_i ti hti;split at h;rename_i fs hd;split at h;rename_i fd hfd;simp only [AV.rel] at hx;obtain ⟨vs,rfl,hx⟩:=hx;obtain ⟨v,e,hr⟩:=Yv hT hx h w;exact ⟨v,by simp [Instr.field,T.Qe hT hti,hd,hfd,asAgg,e],hr⟩;cases h;cases h;cases h;cases h
noncomputable def Yi (T:Tab) (t:TypeId) (x ix:AV):Option AV:=
 match ix with
 | .int _ e=>
  match e.nat?,T.ty t with
  |some i,some ti=>
   match ti.desc,x with
   | .array n elem, .ptr b o=>
    match T.ty elem with
    |some ei=>bif Nat.blt i n then QE (o+i*ei.size) λo=>some (.ptr b o) else none
    |none=>none
   | .slice elem, .slice b o len _ _ _=>
    match T.ty elem with
    |some ei=>bif Nat.blt i len then QE (o+i*ei.size) λo=>some (.ptr b o) else none
    |none=>none
   | .slice elem, .wslice b o n _ _=>
    match T.ty elem with
    |some ei=>bif Nat.blt i n then QE (o+i*ei.size) λo=>some (.ptr b o) else none
    |none=>none
   |_,_=>none
  |_,_=>none
 |_=>none
theorem yQ {P:Program} {T:Tab} (hT:T.OK P) {w:World} {X:Ext} {t:TypeId} {x ix r:AV} {u v:Value} (h:Yi T t x ix=some r) (hx:x.rel X u) (hi:ix.rel X v):
 ∃z,(Instr.indexAt t u v).run P w= .ok z w/\r.rel X z:=by
 unfold Yi at h;split at h;rename_i k e;split at h;rename_i i ti hn hti;have he:=E.jy (O:=X.O) hn;simp only [AV.rel] at hi;obtain ⟨-,rfl⟩:=hi;rw [he];split at h;rename_i n elem b o hd;split at h;rename_i ei hei;simp only [AV.rel] at hx;obtain ⟨p,hp,rfl⟩:=hx;cases hl:Nat.blt i n with
 |false=>rw [hl] at h;cases h
 |true=>
  rw [hl] at h;simp only [cond_true,sNat_eq,Option.some.injEq] at h;subst h;have hl' :i<n:=by simpa using hl
  refine ⟨.pointer (some ⟨p.blk,p.base+o+i*ei.size,none⟩),?_,?_⟩;have h3:(0:Int)<=i/\(i:Int)<n:=⟨by omega,by omega⟩;simp [Instr.indexAt,asIntOf,T.Qe hT hti,hd,Instr.sureAddr,T.Qx hT hei,Z8,hl'];simp only [AV.rel];exact ⟨p,hp,by rw [Nat.add_assoc]⟩
 cases h;rename_i elem b o len cap es ex hd;split at h;rename_i ei hei;simp only [AV.rel] at hx;obtain ⟨p,o',c,hp,rfl,_,_,_,hoff,_⟩:=hx;cases hl:Nat.blt i len with
 |false=>rw [hl] at h;cases h
 |true=>
  rw [hl] at h;simp only [cond_true,sNat_eq,Option.some.injEq] at h;subst h;have hl' :i<len:=by simpa using hl
  have ho:=hoff (.inl (by omega));subst ho;refine ⟨.pointer (some ⟨p.blk,p.base+o+i*ei.size,none⟩),?_,?_⟩;simp [Instr.indexAt,asIntOf,T.Qe hT hti,hd,T.Qx hT hei,Z8,hl'];simp only [AV.rel];exact ⟨p,hp,by rw [Nat.add_assoc]⟩
 cases h;rename_i elem b o n es l hd;split at h;rename_i ei hei;simp only [AV.rel] at hx;obtain ⟨p,len,c,hp,hv,hnl,_⟩:=hx;cases hl:Nat.blt i n with
 |false=>rw [hl] at h;cases h
 |true=>
  rw [hl] at h;simp only [cond_true,sNat_eq,Option.some.injEq] at h;subst h;have hl' :i<n:=by simpa using hl
  have hl2:i<len:=by omega
  obtain rfl:_=_:=hv.elim id λh=>absurd h.2 (by omega)
  refine ⟨.pointer (some ⟨p.blk,p.base+o+i*ei.size,none⟩),?_,?_⟩;simp [Instr.indexAt,asIntOf,T.Qe hT hti,hd,T.Qx hT hei,Z8,hl2];simp only [AV.rel];exact ⟨p,hp,by rw [Nat.add_assoc]⟩
 cases h;cases h;cases h;cases h
noncomputable def Q7p (T:Tab) (t:TypeId) (x ix:AV):Option AV:=
 match ix with
 | .int _ e=>
  match e.nat?,T.ty t with
  |some i,some ti=>
   match ti.desc,x with
   | .array n elem, .agg cs=>
    match T.ty elem with
    |some ei=>bif Nat.blt i n then apart T elem cs (i*ei.size) else none
    |none=>none
   | .string, .str s=>
    match s[i]? with
    |some b=>some (.int .u8 b)
    |none=>none
   |_,_=>none
  |_,_=>none
 |_=>none
theorem Q7o {P:Program} {T:Tab} (hT:T.OK P) {w:World} {X:Ext} {t:TypeId} {x ix r:AV} {u v:Value} (h:Q7p T t x ix=some r) (hx:x.rel X u) (hi:ix.rel X v):
 ∃z,(Instr.index t u v).run P w= .ok z w/\r.rel X z:=by
 unfold Q7p at h;split at h;rename_i k e;split at h;rename_i i ti hn hti;have he:=E.jy (O:=X.O) hn;simp only [AV.rel] at hi;obtain ⟨-,rfl⟩:=hi;rw [he];split at h;rename_i n elem cs hd;split at h;rename_i ei hei;simp only [AV.rel] at hx;obtain ⟨vs,rfl,hx⟩:=hx;cases hl:Nat.blt i n with
 |false=>rw [hl] at h;cases h
 |true=>
  rw [hl] at h;have hl' :i<n:=by simpa using hl
  obtain ⟨v,e,hr⟩:=Yv hT hx h w;exact ⟨v,by simp [Instr.index,asIntOf,T.Qe hT hti,hd,T.Qx hT hei,hl',e],hr⟩
 cases h;rename_i s hd;split at h;rename_i b hb;cases h;simp only [AV.rel] at hx;obtain ⟨ho,rfl⟩:=hx;have hmem:=ho b (List.mem_of_getElem? hb);have hget:(({ data:=(S.bytes X.O s).toArray}:ByteArray)[i]?)=some (UInt8.ofNat (b.den X.O).toNat):=by
  have h1:(S.bytes X.O s)[i]?=some (UInt8.ofNat (b.den X.O).toNat):=by simp [S.bytes,hb]
  have hlt:i<(S.bytes X.O s).length:=(List.getElem?_eq_some_iff.1 h1).1
  have hlt' :i<({ data:=(S.bytes X.O s).toArray}:ByteArray).size:=by show i<(S.bytes X.O s).toArray.size;simpa using hlt
  rw [getElem?_pos _ i hlt'];congr 1;have:=(List.getElem?_eq_some_iff.1 h1).2
  rw [<-this];rfl
 refine ⟨.int .u8 (UInt8.ofNat (b.den X.O).toNat).toNat,?_,?_⟩;simp [Instr.index,asIntOf,T.Qe hT hti,hd,hget];simp only [AV.rel];refine ⟨hmem.1,?_⟩;have:=hmem.2;congr 1;simp;omega;cases h;cases h;cases h;cases h
noncomputable def j6 (x:AV) (i:Nat):Option AV:=
 match x with
 | .tuple vs=>vs[i]?
 |_=>none
theorem Q2f {P:Program} {w:World} {X:Ext} {x r:AV} {i:Nat} {u:Value} (h:j6 x i=some r) (hx:x.rel X u):∃z,(Instr.extract u i).run P w= .ok z w/\r.rel X z:=by
 unfold j6 at h;split at h;simp only [AV.rel] at hx;obtain ⟨vs,rfl,hx⟩:=hx;obtain ⟨v,hv,hr⟩:=Ya hx h;have hv' :vs[i]?=some v:=by simpa using hv
 exact ⟨v,by simp [Instr.extract,hv'],hr⟩;cases h
noncomputable def qp (T:Tab) (t:TypeId) (x:AV):Option AV:=
 match T.ty t with
 |some ti=>match ti.desc with
  | .interface _=>none
  |_=>some (.iface t x)
 |none=>none
theorem yO {P:Program} {T:Tab} (hT:T.OK P) {w:World} {X:Ext} {t:TypeId} {x r:AV} {u:Value} (h:qp T t x=some r) (hx:x.rel X u):∃z,(Instr.makeInterface t u).run P w= .ok z w/\r.rel X z:=by
 unfold qp at h;split at h;rename_i ti hti;split at h;cases h;rename_i hn;cases h;refine ⟨.iface t u,?_,?_⟩;simp only [Instr.makeInterface,Sem.run_bind,T.Qe hT hti,Result.andThen_ok]
 first|rfl|(split<;>first|(rename_i hh;exact absurd hh (hn _))|rfl)
 simp only [AV.rel];exact ⟨u,rfl,hx⟩;cases h
def Qif:AV->Option E
 | .int .u8 e=>bif e.isByte then some e else none
 |_=>none
def Y9:List AV->Option (List E)
 |[]=>some []
 |a::l=>match Qif a with
  |none=>none
  |some e=>match Y9 l with
   |none=>none
   |some s=>some (e::s)
theorem Jl {X:Ext} {a:AV} {e:E} {v:Value} (h:Qif a=some e) (hr:a.rel X v):e.ok X.dom/\v= .int .u8 (e.den X.O)/\e.isByte=true:=by
 unfold Qif at h;split at h;rename_i e';cases hb:e'.isByte with
 |false=>rw [hb] at h;cases h
 |true=>rw [hb] at h;cases h;simp only [AV.rel] at hr;exact ⟨hr.1,hr.2,hb⟩
 cases h
theorem JO {X:Ext}:∀{l:List AV} {s:List E} {vs:List Value},Y9 l=some s->AV.QI X l vs->S.okN X.dom X.O s/\∃ns:List Int,vs=ns.map (Value.int .u8)/\S.bytes X.O s=ns.map (λn=>UInt8.ofNat n.toNat)
 |[],s,vs,h,hr=>by simp only [Y9,Option.some.injEq] at h;subst h;rw [rels_nil.1 hr];exact ⟨λt ht=>by simp at ht,[],rfl,rfl⟩
 |a::l,s,[],h,hr=>absurd hr not_rels_cons_nil
 |a::l,s,v::vs,h,hr=>by
  simp only [rels_cons_cons] at hr;simp only [Y9] at h;split at h;cases h;rename_i e he;split at h;cases h;rename_i s' hs;cases h;obtain ⟨g1,ns,g2,g3⟩:=JO hs hr.2;obtain ⟨k0,k1,k2⟩:=Jl he hr.1;refine ⟨λt ht=>?_,e.den X.O::ns,by rw [k1,g2];rfl,?_⟩;rcases List.mem_cons.1 ht with rfl|ht;exact ⟨k0,E.Y0 k2 _⟩;exact g1 t ht;have:S.bytes X.O (e::s')=UInt8.ofNat (e.den X.O).toNat::S.bytes X.O s' :=rfl
  rw [this,g3];rfl
noncomputable def Qg8 (T:Tab) (c:Ctx) (H:Tr Q7) (src dst:TypeId) (x:AV):Option AV:=
 match T.ty src,T.ty dst with
 |some si,some di=>
  match di.desc,x with
  | .int k, .int _ e=>match E.Q70 c k e with|some r=>some (.int k r)|none=>none
  | .string, .str s=>match si.desc with| .string=>some (.str s)|_=>none
  | .string, .sstr s=>match si.desc with| .string=>some (.sstr s)|_=>none
  | .string, .nilslice=>match si.desc with
   | .slice e=>match T.ty e with
    |some ei=>match ei.desc with| .int .u8=>some (.str [])|_=>none
    |none=>none
   |_=>none
  | .string, .slice b o len _ _ _=>match si.desc with
   | .slice e=>match T.ty e,Y4 H b with
    |some ei,some cs=>match ei.desc with
     | .int .u8=>bif Nat.ble (o+len) cs.length&&Nat.blt 0 len then (match Y9 ((cs.drop o).take len) with|some s=>some (.str s)|none=>none) else bif Nat.beq len 0 then some (.str []) else none
     |_=>none
    |_,_=>none
   |_=>none
  |_,_=>none
 |_,_=>none
theorem Q9n {P:Program} {T:Tab} (hT:T.OK P) {c:Ctx} {X:Ext} (hc:c.okN X.dom X.O) {n0:Nat} {H:Tr Q7} {w:World} (hH:Qn X n0 H w) {src dst:TypeId} {x r:AV} {u:Value} (h:Qg8 T c H src dst x=some r) (hx:x.rel X u):
 ∃z,(convert src dst u).run P w= .ok z w/\r.rel X z:=by
 unfold Qg8 at h;split at h
 . rename_i si di hsi hdi;have us:=T.Qe hT hsi w;have ud:=T.Qe hT hdi w;have ns:=T.und hT hsi;have nd:=T.und hT hdi;split at h<;>rename_i hd;split at h;rename_i kd ks e oo r' hr;cases h;simp only [AV.rel] at hx;obtain ⟨hok,rfl⟩:=hx;refine ⟨.int kd (r'.den X.O),?_,by simp only [AV.rel];exact ⟨E.Q4r hr hok,trivial⟩⟩;rw [<-E.za (O:=X.O) hc hr];simp only [convert,Sem.run_bind,us,ud,hd,Result.andThen_ok];cases si.desc<;>simp [Conv.intToInt];cases h;split at h;rename_i hs;cases h;refine ⟨u,?_,hx⟩;simp only [AV.rel] at hx;obtain ⟨_,rfl⟩:=hx;simp [convert,us,ud,hd,hs];cases h;split at h;rename_i hs;cases h;refine ⟨u,?_,hx⟩;simp only [AV.rel] at hx;obtain ⟨_,_,rfl⟩:=hx;simp [convert,us,ud,hd,hs];cases h;split at h;rename_i e hs;split at h;rename_i ei hei;split at h;rename_i he;cases h;simp only [AV.rel] at hx;subst hx;refine ⟨.string .empty,?_,?_⟩;rw [run_convert_bytes_string w src dst e _ _ _ (by rw [ns,hs]) (by rw [T.und hT hei,he]) (by rw [nd,hd])];rfl;simp only [AV.rel];exact ⟨λt ht=>by simp at ht,rfl⟩;cases h;cases h;cases h
   . rename_i b o len cap es ex;split at h
     . rename_i e hs;split at h
       . rename_i ei cs hei hcs;split at h
         . rename_i he;simp only [AV.rel] at hx;obtain ⟨p,o',c,hp,rfl,_,_,_,hoff,_⟩:=hx;cases hl:(Nat.ble (o+len) cs.length&&Nat.blt 0 len) with
           |true=>
            rw [hl] at h;simp only [cond_true] at h;split at h
            case h_2=>cases h
            rename_i s h1;cases h;simp only [Bool.and_eq_true,Nat.ble_eq,Nat.blt_eq] at hl;have ho:=hoff (.inl (by have:=hl.2;omega));subst ho;obtain ⟨vs,g1,g2⟩:=QV (P:=P) hH hcs hp hl.1;obtain ⟨k1,ms,k2,k3⟩:=JO h1 g2;refine ⟨.string (ms.foldl (λr n=>r.push (UInt8.ofNat n.toNat)) ByteArray.empty),?_,?_⟩;rw [run_convert_bytes_string w src dst e _ _ _ (by rw [ns,hs]) (by rw [T.und hT hei,he]) (by rw [nd,hd])];exact run_bytesToString w _ len c ms (by rw [g1,k2]);simp only [AV.rel];refine ⟨k1,?_⟩;rw [foldl_push_bytes,k3];have e0:ByteArray.empty.data=#[]:=rfl
            rw [e0,Array.empty_append]
           |false=>
            rw [hl] at h;simp only [cond_false] at h;cases hz:Nat.beq len 0 with
            |false=>rw [hz] at h;cases h
            |true=>
             rw [hz] at h;cases h;have hz' :len=0:=by simpa using hz
             subst hz';refine ⟨.string .empty,?_,?_⟩;rw [run_convert_bytes_string w src dst e _ _ _ (by rw [ns,hs]) (by rw [T.und hT hei,he]) (by rw [nd,hd])];exact run_bytesToString w _ 0 c [] (by simp [loadCells,loadCellsFrom]);simp only [AV.rel];exact ⟨λt ht=>by simp at ht,rfl⟩
         cases h
       cases h
     cases h
   cases h
 cases h
end Go.Ax
