/-
 Numbers read out of texts by the program's function, exactly. Conditions: none.
-/
import Derived.Test.YtmbajnmaeikceaaGreatDoorNWA
import Derived.Lib.Strings
import Derived.OwnWalkIn
import Derived.TacticsInMore
import Derived.LoopNIn
import Derived.LoopIn
import Derived.RangeFuncNested
import Derived.RangeFuncBound
import Derived.RangeFuncCalls
import Derived.RangeFuncLeaves
import Derived.RangeFuncFrom
import Derived.Shelf.Abstract
namespace Go.Proofs.YtmbajnmaeikceaaGreatDoor
open Go.RowKit Go.Proofs
theorem Qjd (n:Int) (h₀:0<=n) (h₁:n<2^62):IntKind.i64.wrap n=n:=by rw [IntKind.wrap_i64];omega
theorem Qa7 (x y:Int) (i:Nat) (hx₀:0<=x) (hx:x%2^i=0) (hx₁:x<2^62) (hy₀:0<=y) (hy:y<2^i) (hy₁:y<2^62):bits .or .i64 x y=x+y:=bits_join .i64 62 (by decide) Qjd i x y hx₀ hx hx₁ hy₀ hy hy₁
theorem below_drewN' {n:Nat} {w w' :World} (h:Below n w w'):∀k,Below n w (w'.drewN k)
 |0=>h
 |k+1=>(below_drewN' h k).drew
theorem retI {a b:Int} (h:a=b):Ending.returned (.tuple #[.int .i64 a, .int .i64 0])= .returned (.tuple #[.int .i64 b, .int .i64 0]):=by rw [h]
theorem orJ4 {A B C D:Int} (a0:0<=A) (a1:A%16777216=0) (a2:A<4294967296) (b0:0<=B) (b1:B%65536=0) (b2:B<16777216) (c0:0<=C) (c1:C%256=0) (c2:C<65536) (d0:0<=D) (d2:D<256):
 bits .or .i64 (bits .or .i64 (bits .or .i64 A B) C) D=A+B+C+D:=by
 rw [Qa7 A B 24 a0 (by omega) (by omega) b0 (by omega) (by omega),Qa7 (A+B) C 16 (by omega) (by omega) (by omega) c0 (by omega) (by omega),Qa7 (A+B+C) D 8 (by omega) (by omega) (by omega) d0 (by omega) (by omega)]
theorem Zo (x:World) (n:Nat) (a:Addr) (v:Value):(x.drewN n).setCell a v=(x.setCell a v).drewN n:=rfl
set_option maxRecDepth 100000 in
set_option maxHeartbeats 1000000 in
theorem Qkt (s:ByteArray) (i k:Nat) (w:World) (hk:1<=k) (hk4:k<=4) (hs:s.size<=1099511627776) (hi:i<=1099511627776) (hz:s.size<i+k):
 Calls Tryz.prog 272 #[.string s, .int .i64 i, .int .i64 k] w λe w' =>e= .returned (.tuple #[.int .i64 0, .int .i64 ((10:Nat):Int)])/\Below w.heap.size w w' :=by
 go_enter Tryz.func272,Tryz.ntmps272
 go_wp2
 go_ret2
 exact ⟨rfl,Below.refl _ _⟩
theorem Qo0 (w:World) (s:ByteArray) (i:Nat) (b0:UInt8) (hl:(s.data.toList.drop i).take 1=[b0]) (n:Nat):
 (Builtin.copy_ #[104,9] 3 #[.slice (some ⟨w.heap.size,3,none⟩) 1 1, .string (s.extract i (i+1))]).run Tryz.prog ((w.alloc (.cells #[.int .u8 0, .int .u8 0, .int .u8 0, .int .u8 0] 604)).drewN n)=
  .ok (.int .i64 1) ((w.alloc (.cells #[.int .u8 0, .int .u8 0, .int .u8 0, .int .u8 (b0.toNat:Int)] 604)).drewN n):=by
 have hd:(s.extract i (i+1)).data.toList=[b0]:=by rw [<-hl,Lib.extract_data,Nat.add_sub_cancel_left]
 have hsz:(s.extract i (i+1)).size=1:=by
  have:(s.extract i (i+1)).size=(s.extract i (i+1)).data.toList.length:=rfl
  rw [this,hd];rfl
 have hst:(s.extract i (i+1))=⟨#[b0]⟩:=by apply ByteArray.ext;rw [<-Array.toList_inj,hd]
 rw [hst];simp [Builtin.copy_,run_underlying Tryz.underlying104,Builtin.lenOf,Builtin.firstCells,storeCells,go_sem,goInt];rw [Zo,World.setCell_alloc_at _ _ _ _ _ rfl];rfl
theorem Qnz (w:World) (s:ByteArray) (i:Nat) (b0 b1:UInt8) (hl:(s.data.toList.drop i).take 2=[b0,b1]) (n:Nat):
 (Builtin.copy_ #[104,9] 3 #[.slice (some ⟨w.heap.size,2,none⟩) 2 2, .string (s.extract i (i+2))]).run Tryz.prog ((w.alloc (.cells #[.int .u8 0, .int .u8 0, .int .u8 0, .int .u8 0] 604)).drewN n)=
  .ok (.int .i64 2) ((w.alloc (.cells #[.int .u8 0, .int .u8 0, .int .u8 (b0.toNat:Int), .int .u8 (b1.toNat:Int)] 604)).drewN n):=by
 have hd:(s.extract i (i+2)).data.toList=[b0,b1]:=by rw [<-hl,Lib.extract_data,Nat.add_sub_cancel_left]
 have hsz:(s.extract i (i+2)).size=2:=by
  have:(s.extract i (i+2)).size=(s.extract i (i+2)).data.toList.length:=rfl
  rw [this,hd];rfl
 have hst:(s.extract i (i+2))=⟨#[b0,b1]⟩:=by apply ByteArray.ext;rw [<-Array.toList_inj,hd]
 rw [hst];simp [Builtin.copy_,run_underlying Tryz.underlying104,Builtin.lenOf,Builtin.firstCells,storeCells,go_sem,goInt];rw [Zo,Zo,World.setCell_alloc_at _ _ _ _ _ rfl,World.setCell_alloc_at _ _ _ _ _ rfl];rfl
theorem Qny (w:World) (s:ByteArray) (i:Nat) (b0 b1 b2:UInt8) (hl:(s.data.toList.drop i).take 3=[b0,b1,b2]) (n:Nat):
 (Builtin.copy_ #[104,9] 3 #[.slice (some ⟨w.heap.size,1,none⟩) 3 3, .string (s.extract i (i+3))]).run Tryz.prog ((w.alloc (.cells #[.int .u8 0, .int .u8 0, .int .u8 0, .int .u8 0] 604)).drewN n)=
  .ok (.int .i64 3) ((w.alloc (.cells #[.int .u8 0, .int .u8 (b0.toNat:Int), .int .u8 (b1.toNat:Int), .int .u8 (b2.toNat:Int)] 604)).drewN n):=by
 have hd:(s.extract i (i+3)).data.toList=[b0,b1,b2]:=by rw [<-hl,Lib.extract_data,Nat.add_sub_cancel_left]
 have hsz:(s.extract i (i+3)).size=3:=by
  have:(s.extract i (i+3)).size=(s.extract i (i+3)).data.toList.length:=rfl
  rw [this,hd];rfl
 have hst:(s.extract i (i+3))=⟨#[b0,b1,b2]⟩:=by apply ByteArray.ext;rw [<-Array.toList_inj,hd]
 rw [hst];simp [Builtin.copy_,run_underlying Tryz.underlying104,Builtin.lenOf,Builtin.firstCells,storeCells,go_sem,goInt];rw [Zo,Zo,Zo,World.setCell_alloc_at _ _ _ _ _ rfl,World.setCell_alloc_at _ _ _ _ _ rfl,World.setCell_alloc_at _ _ _ _ _ rfl];rfl
theorem Qnx (w:World) (s:ByteArray) (i:Nat) (b0 b1 b2 b3:UInt8) (hl:(s.data.toList.drop i).take 4=[b0,b1,b2,b3]) (n:Nat):
 (Builtin.copy_ #[104,9] 3 #[.slice (some ⟨w.heap.size,0,none⟩) 4 4, .string (s.extract i (i+4))]).run Tryz.prog ((w.alloc (.cells #[.int .u8 0, .int .u8 0, .int .u8 0, .int .u8 0] 604)).drewN n)=
  .ok (.int .i64 4) ((w.alloc (.cells #[.int .u8 (b0.toNat:Int), .int .u8 (b1.toNat:Int), .int .u8 (b2.toNat:Int), .int .u8 (b3.toNat:Int)] 604)).drewN n):=by
 have hd:(s.extract i (i+4)).data.toList=[b0,b1,b2,b3]:=by rw [<-hl,Lib.extract_data,Nat.add_sub_cancel_left]
 have hsz:(s.extract i (i+4)).size=4:=by
  have:(s.extract i (i+4)).size=(s.extract i (i+4)).data.toList.length:=rfl
  rw [this,hd];rfl
 have hst:(s.extract i (i+4))=⟨#[b0,b1,b2,b3]⟩:=by apply ByteArray.ext;rw [<-Array.toList_inj,hd]
 rw [hst];simp [Builtin.copy_,run_underlying Tryz.underlying104,Builtin.lenOf,Builtin.firstCells,storeCells,go_sem,goInt];rw [Zo,Zo,Zo,Zo,World.setCell_alloc_at _ _ _ _ _ rfl,World.setCell_alloc_at _ _ _ _ _ rfl,World.setCell_alloc_at _ _ _ _ _ rfl,World.setCell_alloc_at _ _ _ _ _ rfl];rfl
set_option maxHeartbeats 1000000 in
set_option maxRecDepth 100000 in
theorem getG1 (s:ByteArray) (i:Nat) (w:World) (hi:i+1<=s.size) (hs:s.size<=1099511627776):
 Calls Tryz.prog 272 #[.string s, .int .i64 i, .int .i64 1] w λe w' =>e= .returned (.tuple #[.int .i64 (Ax.Qa8 ((s.data.toList.drop i).take 1):Int), .int .i64 0])/\Below w.heap.size w w' :=by
 have hd:decide ((i:Int)<0)=false:=by simp
 have hd2:decide ((s.size:Int)-1<(i:Int))=false:=by simp;omega
 have hlen:s.data.toList.length=s.size:=by rw [Array.length_toList];rfl
 obtain ⟨l,hl⟩:∃l,l=(s.data.toList.drop i).take 1:=⟨_,rfl⟩
 have hll:l.length=1:=by rw [hl,List.length_take,List.length_drop,hlen];omega
 obtain ⟨b0,rfl⟩:∃b0,l=[b0]:=by
  match l,hll with
  |[b0],_=>exact ⟨b0,rfl⟩
 rw [<-hl];have hcp:=Qo0 w s i b0 hl.symm;clear hl hll hlen
 go_enter Tryz.func272,Tryz.ntmps272
 go_wp2_with fail
 refine QX 9 (by kernel_rfl) (by kernel_rfl) ?_;simp only [List.take_succ_cons,List.take_zero,List.drop_succ_cons,List.drop_zero]
 repeat (go_big_quiet_step (fail))
 refine wpQuiet_nil ?_
 rintro _ ⟨k,rfl⟩
 go_wp2_with fail
 go_ret2
 refine ⟨retI ?_,below_drewN' ((Below.refl _ _).alloc (Nat.le_refl _) _) k⟩;have h0:=b0.toNat_lt;rw [IntWalk.wrap64_in (b0.toNat:Int) (by omega),orJ4 (by omega) (by omega) (by omega) (by omega) (by omega) (by omega) (by omega) (by omega) (by omega) (by omega) (by omega)];simp only [Ax.Qa8,List.foldl_cons,List.foldl_nil];omega
set_option maxHeartbeats 1000000 in
set_option maxRecDepth 100000 in
theorem getG2 (s:ByteArray) (i:Nat) (w:World) (hi:i+2<=s.size) (hs:s.size<=1099511627776):
 Calls Tryz.prog 272 #[.string s, .int .i64 i, .int .i64 2] w λe w' =>e= .returned (.tuple #[.int .i64 (Ax.Qa8 ((s.data.toList.drop i).take 2):Int), .int .i64 0])/\Below w.heap.size w w' :=by
 have hd:decide ((i:Int)<0)=false:=by simp
 have hd2:decide ((s.size:Int)-2<(i:Int))=false:=by simp;omega
 have hlen:s.data.toList.length=s.size:=by rw [Array.length_toList];rfl
 obtain ⟨l,hl⟩:∃l,l=(s.data.toList.drop i).take 2:=⟨_,rfl⟩
 have hll:l.length=2:=by rw [hl,List.length_take,List.length_drop,hlen];omega
 obtain ⟨b0,b1,rfl⟩:∃b0 b1,l=[b0,b1]:=by
  match l,hll with
  |[b0,b1],_=>exact ⟨b0,b1,rfl⟩
 rw [<-hl];have hcp:=Qnz w s i b0 b1 hl.symm;clear hl hll hlen
 go_enter Tryz.func272,Tryz.ntmps272
 go_wp2_with fail
 refine QX 9 (by kernel_rfl) (by kernel_rfl) ?_;simp only [List.take_succ_cons,List.take_zero,List.drop_succ_cons,List.drop_zero]
 repeat (go_big_quiet_step (fail))
 refine wpQuiet_nil ?_
 rintro _ ⟨k,rfl⟩
 go_wp2_with fail
 go_ret2
 refine ⟨retI ?_,below_drewN' ((Below.refl _ _).alloc (Nat.le_refl _) _) k⟩;have h0:=b0.toNat_lt;have h1:=b1.toNat_lt;rw [IntWalk.wrap64_in (b0.toNat:Int) (by omega),IntWalk.wrap64_in (b1.toNat:Int) (by omega),IntWalk.wrap64_in ((b0.toNat:Int)*256) (by omega),orJ4 (by omega) (by omega) (by omega) (by omega) (by omega) (by omega) (by omega) (by omega) (by omega) (by omega) (by omega)];simp only [Ax.Qa8,List.foldl_cons,List.foldl_nil];omega
set_option maxHeartbeats 1000000 in
set_option maxRecDepth 100000 in
theorem getG3 (s:ByteArray) (i:Nat) (w:World) (hi:i+3<=s.size) (hs:s.size<=1099511627776):
 Calls Tryz.prog 272 #[.string s, .int .i64 i, .int .i64 3] w λe w' =>e= .returned (.tuple #[.int .i64 (Ax.Qa8 ((s.data.toList.drop i).take 3):Int), .int .i64 0])/\Below w.heap.size w w' :=by
 have hd:decide ((i:Int)<0)=false:=by simp
 have hd2:decide ((s.size:Int)-3<(i:Int))=false:=by simp;omega
 have hlen:s.data.toList.length=s.size:=by rw [Array.length_toList];rfl
 obtain ⟨l,hl⟩:∃l,l=(s.data.toList.drop i).take 3:=⟨_,rfl⟩
 have hll:l.length=3:=by rw [hl,List.length_take,List.length_drop,hlen];omega
 obtain ⟨b0,b1,b2,rfl⟩:∃b0 b1 b2,l=[b0,b1,b2]:=by
  match l,hll with
  |[b0,b1,b2],_=>exact ⟨b0,b1,b2,rfl⟩
 rw [<-hl];have hcp:=Qny w s i b0 b1 b2 hl.symm;clear hl hll hlen
 go_enter Tryz.func272,Tryz.ntmps272
 go_wp2_with fail
 refine QX 9 (by kernel_rfl) (by kernel_rfl) ?_;simp only [List.take_succ_cons,List.take_zero,List.drop_succ_cons,List.drop_zero]
 repeat (go_big_quiet_step (fail))
 refine wpQuiet_nil ?_
 rintro _ ⟨k,rfl⟩
 go_wp2_with fail
 go_ret2
 refine ⟨retI ?_,below_drewN' ((Below.refl _ _).alloc (Nat.le_refl _) _) k⟩;have h0:=b0.toNat_lt;have h1:=b1.toNat_lt;have h2:=b2.toNat_lt;rw [IntWalk.wrap64_in (b0.toNat:Int) (by omega),IntWalk.wrap64_in (b1.toNat:Int) (by omega),IntWalk.wrap64_in (b2.toNat:Int) (by omega),IntWalk.wrap64_in ((b0.toNat:Int)*65536) (by omega),IntWalk.wrap64_in ((b1.toNat:Int)*256) (by omega),orJ4 (by omega) (by omega) (by omega) (by omega) (by omega) (by omega) (by omega) (by omega) (by omega) (by omega) (by omega)];simp only [Ax.Qa8,List.foldl_cons,List.foldl_nil];omega
set_option maxHeartbeats 1000000 in
set_option maxRecDepth 100000 in
theorem getG4 (s:ByteArray) (i:Nat) (w:World) (hi:i+4<=s.size) (hs:s.size<=1099511627776):
 Calls Tryz.prog 272 #[.string s, .int .i64 i, .int .i64 4] w λe w' =>e= .returned (.tuple #[.int .i64 (Ax.Qa8 ((s.data.toList.drop i).take 4):Int), .int .i64 0])/\Below w.heap.size w w' :=by
 have hd:decide ((i:Int)<0)=false:=by simp
 have hd2:decide ((s.size:Int)-4<(i:Int))=false:=by simp;omega
 have hlen:s.data.toList.length=s.size:=by rw [Array.length_toList];rfl
 obtain ⟨l,hl⟩:∃l,l=(s.data.toList.drop i).take 4:=⟨_,rfl⟩
 have hll:l.length=4:=by rw [hl,List.length_take,List.length_drop,hlen];omega
 obtain ⟨b0,b1,b2,b3,rfl⟩:∃b0 b1 b2 b3,l=[b0,b1,b2,b3]:=by
  match l,hll with
  |[b0,b1,b2,b3],_=>exact ⟨b0,b1,b2,b3,rfl⟩
 rw [<-hl];have hcp:=Qnx w s i b0 b1 b2 b3 hl.symm;clear hl hll hlen
 go_enter Tryz.func272,Tryz.ntmps272
 go_wp2_with fail
 refine QX 9 (by kernel_rfl) (by kernel_rfl) ?_;simp only [List.take_succ_cons,List.take_zero,List.drop_succ_cons,List.drop_zero]
 repeat (go_big_quiet_step (fail))
 refine wpQuiet_nil ?_
 rintro _ ⟨k,rfl⟩
 go_wp2_with fail
 go_ret2
 refine ⟨retI ?_,below_drewN' ((Below.refl _ _).alloc (Nat.le_refl _) _) k⟩;have h0:=b0.toNat_lt;have h1:=b1.toNat_lt;have h2:=b2.toNat_lt;have h3:=b3.toNat_lt;rw [IntWalk.wrap64_in (b0.toNat:Int) (by omega),IntWalk.wrap64_in (b1.toNat:Int) (by omega),IntWalk.wrap64_in (b2.toNat:Int) (by omega),IntWalk.wrap64_in (b3.toNat:Int) (by omega),IntWalk.wrap64_in ((b0.toNat:Int)*16777216) (by omega),IntWalk.wrap64_in ((b1.toNat:Int)*65536) (by omega),IntWalk.wrap64_in ((b2.toNat:Int)*256) (by omega),orJ4 (by omega) (by omega) (by omega) (by omega) (by omega) (by omega) (by omega) (by omega) (by omega) (by omega) (by omega)];simp only [Ax.Qa8,List.foldl_cons,List.foldl_nil];omega
theorem Qku (s:ByteArray) (i k:Nat) (w:World) (hk:1<=k) (hk4:k<=4) (hs:s.size<=1099511627776) (hi:i+k<=s.size):
 Calls Tryz.prog 272 #[.string s, .int .i64 i, .int .i64 k] w λe w' =>e= .returned (.tuple #[.int .i64 (Ax.Qa8 ((s.data.toList.drop i).take k):Int), .int .i64 0])/\Below w.heap.size w w' :=by
 rcases (show k=1\/k=2\/k=3\/k=4 by omega) with rfl|rfl|rfl|rfl;exact getG1 s i w hi hs;exact getG2 s i w hi hs;exact getG3 s i w hi hs;exact getG4 s i w hi hs
end Go.Proofs.YtmbajnmaeikceaaGreatDoor
namespace Go.Proofs.YtmbajnmaeikceaaGreatDoor
open Go.RowKit Go.Proofs Go.Shelf
attribute [local go_sem] Oper.semAt_some
def wds:List UInt8->List Nat
 |[]=>[]
 |[a]=>[a.toNat*256]
 |a::b::l=>(a.toNat*256+b.toNat)::wds l
theorem Qje:∀l:List UInt8,(wds l).foldl (. +·) 0=Ax.Q7z l:=by
 have h:∀(l:List UInt8) (n:Nat),(wds l).foldl (. +·) n=n+Ax.Q7z l:=by
  intro l;induction l using wds.induct with
  |case1=>intro n;simp [wds,Ax.Q7z]
  |case2 a=>intro n;simp [wds,Ax.Q7z]
  |case3 a b l ih=>intro n;simp only [wds,Ax.Q7z,List.foldl_cons,ih];omega
 intro l;rw [h];omega
theorem Qd0:∀l:List UInt8,(wds l).length<=l.length:=by
 intro l;induction l using wds.induct with
 |case1=>simp [wds]
 |case2 a=>simp [wds]
 |case3 a b l ih=>simp only [wds,List.length_cons];omega
theorem Qir (l:List UInt8):∀x∈wds l,x<=65535:=by
 induction l using wds.induct with
 |case1=>simp [wds]
 |case2 a=>have:=a.toNat_lt;simp only [wds,List.mem_cons,List.not_mem_nil,or_false];rintro x rfl;omega
 |case3 a b l ih=>
  have:=a.toNat_lt;have:=b.toNat_lt;simp only [wds,List.mem_cons]
  rintro x (rfl|h)
  omega;exact ih x h
theorem Qcz (s:ByteArray) (w:World):Calls Tryz.prog 428 #[.string s] w λe w' =>e= .returned (.func (.func 521) #[] #[.pointer (some ⟨w.heap.size,0,none⟩)])/\w' =w.alloc (.cells #[.string s] 9):=by
 have hmf:∀(fn:Fn) (first cap:Array Value) (w:World),(Instr.makeFunc fn first cap).run Tryz.prog w= .ok (.func fn first cap) w:=λ_ _ _ _=>rfl
 go_enter Tryz.func428,Tryz.ntmps428
 go_wp2
 go_ret
 exact ⟨rfl,rfl⟩
theorem Qfq {w w' :World} {b k:Nat} {v:Value} (hw:Below w.heap.size w w') (hb:b<w.heap.size) (h:w.cell? ⟨b,k,none⟩=some v):w'.cell? ⟨b,k,none⟩=some v:=by rw [hw.cell (p:=⟨b,k,none⟩) hb,h]
def KW (Bn n0:Nat) (A B:World):Prop:=(∀v,A.cell? ⟨Bn,0,none⟩=some v->B.cell? ⟨Bn,0,none⟩=some v)/\Below n0 A B
theorem KW.refl (Bn n0:Nat) (A:World):KW Bn n0 A A:=⟨λ_ h=>h,Below.refl _ _⟩
theorem KW.trans {Bn n0:Nat} {A B C:World} (h:KW Bn n0 A B) (k:KW Bn n0 B C):KW Bn n0 A C:=⟨λv e=>k.1 v (h.1 v e),h.2.trans k.2⟩
set_option maxRecDepth 100000 in
set_option maxHeartbeats 2000000 in
theorem Q84 (n:Nat) (hn:1<=n) (Bn n0:Nat) (s:ByteArray) (hs:s.size<=1099511627776) (w:World) (hBw:Bn<w.heap.size) (hc:w.cell? ⟨Bn,0,none⟩=some (.string s)):
 SeqStopsK Fence.wide n Tryz.prog 521 #[.pointer (some ⟨Bn,0,none⟩)] (λx:Nat=>#[.int .i64 (x:Int)]) (KW Bn n0) (λxs=>xs=wds s.data.toList) (λpre=>pre <+: wds s.data.toList) ((wds s.data.toList).length) w:=by
 have hlen:s.data.toList.length=s.size:=by rw [Array.length_toList];rfl
 intro l J Jx W hW hJ hJx hY h0;have hcW:W.cell? ⟨Bn,0,none⟩=some (.string s):=Qfq hW hBw hc;refine callsIn_of_wp Tryz.func521 rfl trivial ?_ rfl;simp only [Tryz.ntmps521,List.size_toArray,List.length_cons,List.length_nil,Nat.reduceAdd,Nat.reduceSub,Array.replicate_succ,Array.replicate_zero,List.push_toArray,List.append_toArray,List.nil_append,List.cons_append]
 gi_wp2
 gi_loopw [3] (λv wr=>∃(pre:List Nat) (k:Nat),v= .int .i64 k/\Hid (wds s.data.toList=pre++wds (s.data.toList.drop k))/\k<=s.size+1/\J pre wr/\KW Bn n0 W wr)
  (λv _=>s.size+2-(intOf v).toNat)
 case atStart=>exact ⟨[],0,rfl,rfl,Nat.zero_le _,h0,KW.refl _ _ _⟩
 case round=>
  obtain ⟨pre,k,rfl,HS,hl,hJs,hB⟩:=hrel;have hcr:wr.cell? ⟨Bn,0,none⟩=some (.string s):=hB.1 _ hcW;have hpl:k<s.size->pre.length<(wds s.data.toList).length:=by
   intro hlt;rw [HS.out,List.length_append];have:s.data.toList.drop k≠[]:=by rw [ne_eq,List.drop_eq_nil_iff,hlen];omega
   have:0<(wds (s.data.toList.drop k)).length:=by
    match hd:s.data.toList.drop k,this with
    |[a],_=>simp [wds]
    |a::b::l,_=>simp [wds]
   omega
  by_cases hlt:k<s.size
  . have hpl' :=hpl hlt;have hb0:=s[k].toNat_lt
    have e0:s.data.toList.drop k=s[k]::s.data.toList.drop (k+1):=List.drop_eq_getElem_cons (by rw [hlen];exact hlt);by_cases hlt1:k+1<s.size
    . have hb1:=s[k+1].toNat_lt
      have e1:s.data.toList.drop (k+1)=s[k+1]::s.data.toList.drop (k+2):=List.drop_eq_getElem_cons (by rw [hlen];exact hlt1);obtain ⟨x,hx⟩:∃x,x=s[k].toNat*256+s[k+1].toNat:=⟨_,rfl⟩
      have HN:Hid (wds s.data.toList=pre++[x]++wds (s.data.toList.drop (k+2))):=by rw [Hid,HS.out,e0,e1,hx];simp [wds]
      have hw:bits .or .i64 (wrap64 (wrap64 (s[k].toNat:Int)*256)) (wrap64 (s[k+1].toNat:Int))=(x:Int):=by rw [IntWalk.wrap64_in (s[k].toNat:Int) (by omega),IntWalk.wrap64_in (s[k+1].toNat:Int) (by omega),IntWalk.wrap64_in ((s[k].toNat:Int)*256) (by omega),Qa7 _ _ 8 (by omega) (by omega) (by omega) (by omega) (by omega) (by omega),hx];omega
      clear hb0 hb1 hx e0 e1 hpl;obtain ⟨fn,tmps,assign,body,hy,hR⟩:=hY pre x wr hJs hpl'
      gi_wp2
      refine hR.mono ?_
      rintro e W3 (⟨rfl,hJ3,hk3⟩|⟨rfl,hJx3⟩)
      . gi_wp2
        go_roundw
        case rel=>exact ⟨pre++[x],k+2,by go_num,HN.out,by omega,hJ3,hB.trans hk3⟩
        case measure=>simp [intOf];omega
      gi_wp2
      refine bodyPost_ret (results_none rfl _ _ _) rfl ?_;exact ⟨⟨_,rfl⟩, .inr ⟨pre++[x],by rw [HN.out];exact List.prefix_append _ _,hJx3⟩⟩
    have e1:s.data.toList.drop (k+1)=[]:=by rw [List.drop_eq_nil_iff,hlen];omega
    obtain ⟨x,hx⟩:∃x,x=s[k].toNat*256:=⟨_,rfl⟩
    have HN:Hid (wds s.data.toList=pre++[x]++wds (s.data.toList.drop (k+2))):=by
     have e2:s.data.toList.drop (k+2)=[]:=by rw [List.drop_eq_nil_iff,hlen];omega
     rw [Hid,HS.out,e0,e1,e2,hx];simp [wds]
    have hw:wrap64 (wrap64 (s[k].toNat:Int)*256)=(x:Int):=by rw [IntWalk.wrap64_in (s[k].toNat:Int) (by omega),IntWalk.wrap64_in ((s[k].toNat:Int)*256) (by omega),hx];omega
    clear hb0 hx e0 e1 hpl;obtain ⟨fn,tmps,assign,body,hy,hR⟩:=hY pre x wr hJs hpl'
    gi_wp2
    refine hR.mono ?_
    rintro e W3 (⟨rfl,hJ3,hk3⟩|⟨rfl,hJx3⟩)
    . gi_wp2
      go_roundw
      case rel=>exact ⟨pre++[x],k+2,by go_num,HN.out,by omega,hJ3,hB.trans hk3⟩
      case measure=>simp [intOf];omega
    gi_wp2
    refine bodyPost_ret (results_none rfl _ _ _) rfl ?_;exact ⟨⟨_,rfl⟩, .inr ⟨pre++[x],by rw [HN.out];exact List.prefix_append _ _,hJx3⟩⟩
  have HN:Hid (wds s.data.toList=pre):=by
   have e2:s.data.toList.drop k=[]:=by rw [List.drop_eq_nil_iff,hlen];omega
   rw [Hid,HS.out,e2];simp [wds]
  clear hpl
  gi_wp2
  refine bodyPost_end (results_none rfl _ _ _) rfl ?_;exact ⟨⟨_,rfl⟩, .inl ⟨pre,HN.out.symm,hJs⟩⟩
theorem Qfp (w:World) (v:Value) (t:TypeId):(w.alloc (.cells #[v] t)).cell? ⟨w.heap.size,0,none⟩=some v/\(w.alloc (.cells #[v] t)).frozen? ⟨w.heap.size,0,none⟩=false:=⟨by simp,by simp⟩
theorem Qlc {w:World} (o:Obj) {b k:Nat} {v:Value} (hb:b<w.heap.size) (h:w.cell? ⟨b,k,none⟩=some v):(w.alloc o).cell? ⟨b,k,none⟩=some v:=by rw [((Below.refl w.heap.size w).alloc (Nat.le_refl _) o).cell (p:=⟨b,k,none⟩) hb,h]
theorem Qf6 {w:World} (o:Obj) {b k:Nat} {x:Bool} (hb:b<w.heap.size) (h:w.frozen? ⟨b,k,none⟩=x):(w.alloc o).frozen? ⟨b,k,none⟩=x:=by rw [((Below.refl w.heap.size w).alloc (Nat.le_refl _) o).frozen (p:=⟨b,k,none⟩) hb,h]
theorem Qd5:∀(l:List Nat) (n:Nat),(∀x∈l,x<=65535)->l.foldl (. +·) n<=n+65535*l.length
 |[],n,_=>by simp
 |a::l,n,h=>by have:=Qd5 l (n+a) (λx hx=>h x (by simp [hx]));have:=h a (by simp);simp only [List.foldl_cons,List.length_cons];omega
theorem Qjr {W:World} {l:Nat} {o o' :Obj} {Bn n0:Nat} {w:World} (hn:n0<=w.heap.size) (hl:w.heap.size<=l) (h:W.heap[l]?=some o) (hc:o.isCells=false) (hk:o.isWalk=false):KW Bn n0 W (W.putObj l o'):=by exact ⟨λv e=>cell_kept e (grownBy_putObj' W l o') (λr e=>by cases e;exact ⟨o,h,hc⟩),belowK_b (w:=w) hn W l o o' hl h hc hk⟩
theorem jH {f n:Nat} (h:65535<n):Ax.jI (f+1) n=Ax.jI f (n%65536+n/65536):=by show (if 65535<n then _ else _)=_;rw [if_pos h]
theorem ZP {f n:Nat} (h:¬65535<n):Ax.jI f n=n:=by
 cases f with
 |zero=>rfl
 |succ f=>show (if 65535<n then _ else _)=_;rw [if_neg h]
theorem Q34:∀(f g n:Nat),n<=f->n<=g->Ax.jI f n=Ax.jI g n
 |0,g,n,h,_=>by
  have:n=0:=by omega
  subst this;rw [ZP (by omega),ZP (by omega)]
 |f+1,0,n,_,h=>by
  have:n=0:=by omega
  subst this;rw [ZP (by omega),ZP (by omega)]
 |f+1,g+1,n,h1,h2=>by by_cases hb:65535<n;rw [jH hb,jH hb];exact Q34 f g _ (by omega) (by omega);rw [ZP hb,ZP hb]
theorem Qce {n:Nat} (h:65535<n):Ax.jI n n=Ax.jI (n%65536+n/65536) (n%65536+n/65536):=by obtain ⟨m,rfl⟩:∃m,n=m+1:=⟨n-1,by omega⟩;rw [jH h];exact Q34 _ _ _ (by omega) (Nat.le_refl _)
set_option maxRecDepth 100000 in
set_option maxHeartbeats 4000000 in
theorem Q76 (s:ByteArray) (w:World) (hs:s.size<=1099511627776):
 Calls Tryz.prog 330 #[.string s] w λe w' =>e= .returned (.int .i64 (Ax.fnZ 1 (Ax.Jy s.data.toList 1)))/\Below w.heap.size w w' :=by
 refine (callsIn_wide (n:=6)).1 ?_
 refine callsIn_of_wp_marks Tryz.func330 rfl trivial ?_ rfl;simp only [Tryz.ntmps330,List.size_toArray,List.length_cons,List.length_nil,Nat.reduceAdd,Nat.reduceSub,Array.replicate_succ,Array.replicate_zero,List.push_toArray,List.append_toArray,List.nil_append,List.cons_append]
 gi_wp2_with (refine ⟨trivial,?_⟩;gi_at_call 428;refine (callsIn_wide.2 (Qcz s _)).mono ?_;rintro e w' ⟨rfl,rfl⟩)
 have hs0:=Qfp w (.int .i64 0) 3;have hb0:=Qfp (w.alloc (.cells #[.int .i64 0] 3)) (.string s) 9
 rw [World.size_alloc] at hb0;have hB0:Below w.heap.size w ((w.alloc (.cells #[.int .i64 0] 3)).alloc (.cells #[.string s] 9)):=((Below.refl _ w).alloc (Nat.le_refl _) _).alloc (by simp) _
 refine wpIn_rangeFunc_ownF rfl (by decide) (gf:=521) (lb:=#[.pointer (some ⟨w.heap.size+1,0,none⟩)]) rfl trivial (enters_of Tryz.func521 (by kernel_rfl) rfl)
  (Q84 5 (by decide) (w.heap.size+1) w.heap.size s hs _ (by simp) hb0.1) KW.trans (λW l o o' hl h hc hk=>Qjr (by simp;omega) hl h hc hk) (Below.refl _ _) (λ_=>rfl)
  (λpre W=>((∃z:Int,W.cell? ⟨w.heap.size,0,none⟩=some (.int .i64 z)/\((∀x∈pre,x<=65535)->z=((pre.foldl (. +·) 0:Nat):Int)))/\W.frozen? ⟨w.heap.size,0,none⟩=false)/\Below w.heap.size w W)
  (λ_ _ _=>False)
  (OwnFrom.and (Own.from (λs A B row hs hg hr=>by obtain ⟨⟨z,h1,h2⟩,h3⟩:=hs;exact ⟨⟨z,cell_kept h1 hg hr,h2⟩,(frozen_kept h1 hg hr).trans h3⟩) _) (ownFrom_below (Nat.le_refl _) (by simp;omega)))
  (λ_ _ _ _ _ h _ _=>h)
  ⟨⟨⟨0,Qlc _ (by simp) hs0.1,λ_=>rfl⟩,Qf6 _ (by simp) hs0.2⟩,hB0⟩
  (λx=>{ tmps:=#[.string s,undef, .int .i64 0, .pointer (some ⟨w.heap.size,0,none⟩), .int .i64 (x:Int), .string s, .func (.func 521) #[] #[.pointer (some ⟨w.heap.size+1,0,none⟩)], .int .i64 (x:Int),undef,undef,undef,undef,undef,undef,undef,undef,undef,undef,undef,undef],defers:=[]}) ?assign ?body ?done ?stop
 case assign=>
  intro l x W K hK
  gi_wp2
  exact hK
 case body=>
  rintro l pre x W ⟨⟨⟨z,hcr,hz⟩,hfr⟩,hB⟩ hN
  have hml:(∀y∈pre,y<=65535)->pre.foldl (. +·) 0<=80000000000000000:=λhpre=>by
   have h1:=Qd5 pre 0 hpre;have h2:=Qd0 s.data.toList;have h3:s.data.toList.length=s.size:=by rw [Array.length_toList];rfl
   omega
  have HX:Hid ((∀y∈pre++[x],y<=65535)->wrap64 (z+(x:Int))=(((pre++[x]).foldl (. +·) 0:Nat):Int)):=λh=>by
   have hp:∀y∈pre,y<=65535:=λy hy=>h y (by simp [hy])
   have hx:=h x (by simp);have hm:=hml hp;rw [hz hp,List.foldl_append,IntWalk.wrap64_in _ (by omega)];simp
  clear hz hml hN
  gi_wp2
  refine ⟨KeepsOthers.setCell _ _ _,⟨λv e=>?_,(Below.refl _ _).setCell (p:=⟨w.heap.size,0,none⟩) (Nat.le_refl _) _⟩,⟨⟨_,World.cell?_setCell_same' _ _ _ (by rw [hcr];rfl),HX.out⟩,by simpa using hfr⟩,hB.setCell (p:=⟨w.heap.size,0,none⟩) (Nat.le_refl _) _⟩;exact (World.cell?_of_block (Below.heap_setCell _ _ _ _ (by simp))).trans e
 case done=>
  rintro D ys W hD rfl ⟨⟨⟨z,hcr,hz⟩,hfr⟩,hB⟩ hK
  have hsum:=Qje s.data.toList;rw [hz (Qir _),hsum] at hcr;have hl:Ax.Q7z s.data.toList<=80000000000000000:=by
   have h1:=Qd5 (wds s.data.toList) 0 (Qir _);have h2:=Qd0 s.data.toList;have h3:s.data.toList.length=s.size:=by rw [Array.length_toList];rfl
   omega
  have HR:Hid (Ax.Qlb s.data.toList=65535-Ax.jI (Ax.Q7z s.data.toList) (Ax.Q7z s.data.toList)):=rfl;revert hcr hl HR;generalize Ax.Q7z s.data.toList=R;clear hsum hz;intro hcr hl HR;have HK:=Lib.hid hK;clear hK
  gi_wp2
  gi_loopw [12] (λ_ wr=>∃m:Nat,wr.cell? ⟨w.heap.size,0,none⟩=some (.int .i64 (m:Int))/\wr.frozen? ⟨w.heap.size,0,none⟩=false/\Below w.heap.size w wr/\m<=80000000000000000/\Hid (Ax.jI m m=Ax.jI R R)/\Hid (wr.heap[D]?=some (.deferred (some []))))
   (λ_ wr=>match wr.cell? ⟨w.heap.size,0,none⟩ with|some v=>(intOf v).toNat|none=>0)
  case atStart=>exact ⟨R,hcr,hfr,hB,hl,rfl,HK⟩
  case round=>
   clear hcr hfr hB hl HK;obtain ⟨m,hcr,hfr,hB,hl,HF,HK⟩:=hrel;by_cases hbig:65535<m
   . have HW:=Lib.hid (Qce hbig);have hDw:D≠w.heap.size:=by simp at hD;omega
     gi_wp2
     have hc1:=World.cell?_setCell_same' wr ⟨w.heap.size,0,none⟩ (.int .i64 ((m:Int)%65536+(m:Int)/65536)) (by rw [hcr];rfl);refine ⟨⟨m%65536+m/65536,by rw [hc1];rfl,by simpa using hfr,hB.setCell (p:=⟨w.heap.size,0,none⟩) (Nat.le_refl _) _,by omega,HW.out.symm.trans HF.out,?_⟩,?_⟩;have hh:=HK.out;exact (Below.heap_setCell _ _ _ _ hDw).trans hh
     rw [hc1,hcr];simp [intOf];omega
   have HW:=Lib.hid (ZP (f:=m) hbig)
   gi_wp2
   refine ⟨by simp, .inl ⟨_,_,rfl,run_takeDeferred HK.out,?_⟩⟩;refine ⟨_,results_tmp rfl _ _ _,?_,hB.trans (belowK_b (w:=w) (Nat.le_refl _) wr D _ _ (by simp at hD;omega) HK.out rfl rfl)⟩;have e:Ax.fnZ 1 (Ax.Jy s.data.toList 1)=((Ax.Qlb (Ax.Qaw (Ax.Jy s.data.toList 1).toNat (Ax.Jy s.data.toList 1).toNat)%65536:Nat):Int):=rfl;rw [e,Ax.qc,HR.out,<-HF.out,HW.out];have e2:(((65535-m)%65536:Nat):Int)=65535-(m:Int):=by omega
   rw [e2];rfl
 case stop=> 
  rintro D c pre W hD hpre h
  exact h.elim
end Go.Proofs.YtmbajnmaeikceaaGreatDoor
