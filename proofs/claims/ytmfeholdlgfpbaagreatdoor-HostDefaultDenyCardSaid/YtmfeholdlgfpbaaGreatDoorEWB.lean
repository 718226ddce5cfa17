/-
 Numbers read out of texts by the program's function, exactly. Conditions: none.
-/
import Derived.Test.YtmfeholdlgfpbaaGreatDoorEWA
import Derived.Lib.Strings
import Derived.OwnWalkIn
import Derived.TacticsInMore
import Derived.LoopNIn
import Derived.LoopIn
import Derived.RangeFuncNested
import Derived.RangeFuncBound
import Derived.RangeFuncCalls
import Derived.RangeFuncLeaves
import Derived.RangeFuncFrom
import Derived.Shelf.Abstract
import Derived.StillTailTactics
namespace Go.Proofs.YtmfeholdlgfpbaaGreatDoor
open Go.RowKit Go.Proofs
theorem Qjm (n:Int) (h₀:0<=n) (h₁:n<2^62):IntKind.i64.wrap n=n:=by rw [IntKind.wrap_i64];omega
theorem Qah (x y:Int) (i:Nat) (hx₀:0<=x) (hx:x%2^i=0) (hx₁:x<2^62) (hy₀:0<=y) (hy:y<2^i) (hy₁:y<2^62):bits .or .i64 x y=x+y:=bits_join .i64 62 (by decide) Qjm i x y hx₀ hx hx₁ hy₀ hy hy₁
theorem below_drewN' {n:Nat} {w w' :World} (h:Below n w w'):∀k,Below n w (w'.drewN k)
 |0=>h
 |k+1=>(below_drewN' h k).drew
theorem retI {a b:Int} (h:a=b):Ending.returned (.tuple #[.int .i64 a, .int .i64 0])= .returned (.tuple #[.int .i64 b, .int .i64 0]):=by rw [h]
theorem orJ4 {A B C D:Int} (a0:0<=A) (a1:A%16777216=0) (a2:A<4294967296) (b0:0<=B) (b1:B%65536=0) (b2:B<16777216) (c0:0<=C) (c1:C%256=0) (c2:C<65536) (d0:0<=D) (d2:D<256):
 bits .or .i64 (bits .or .i64 (bits .or .i64 A B) C) D=A+B+C+D:=by
 rw [Qah A B 24 a0 (by omega) (by omega) b0 (by omega) (by omega),Qah (A+B) C 16 (by omega) (by omega) (by omega) c0 (by omega) (by omega),Qah (A+B+C) D 8 (by omega) (by omega) (by omega) d0 (by omega) (by omega)]
theorem Zq (x:World) (n:Nat) (a:Addr) (v:Value):(x.drewN n).setCell a v=(x.setCell a v).drewN n:=rfl
set_option maxRecDepth 100000 in
set_option maxHeartbeats 1000000 in
theorem Qkz (s:ByteArray) (i k:Nat) (w:World) (hk:1<=k) (hk4:k<=4) (hs:s.size<=1099511627776) (hi:i<=1099511627776) (hz:s.size<i+k):
 Calls Tryz.prog 177 #[.string s, .int .i64 i, .int .i64 k] w λe w' =>e= .returned (.tuple #[.int .i64 0, .int .i64 ((10:Nat):Int)])/\Below w.heap.size w w' :=by
 go_enter Tryz.func177,Tryz.ntmps177
 go_wp2
 go_ret2
 exact ⟨rfl,Below.refl _ _⟩
theorem Qo4 (w:World) (s:ByteArray) (i:Nat) (b0:UInt8) (hl:(s.data.toList.drop i).take 1=[b0]) (n:Nat):
 (Builtin.copy_ #[116,9] 3 #[.slice (some ⟨w.heap.size,3,none⟩) 1 1, .string (s.extract i (i+1))]).run Tryz.prog ((w.alloc (.cells #[.int .u8 0, .int .u8 0, .int .u8 0, .int .u8 0] 470)).drewN n)=
  .ok (.int .i64 1) ((w.alloc (.cells #[.int .u8 0, .int .u8 0, .int .u8 0, .int .u8 (b0.toNat:Int)] 470)).drewN n):=by
 have hd:(s.extract i (i+1)).data.toList=[b0]:=by rw [<-hl,Lib.extract_data,Nat.add_sub_cancel_left]
 have hsz:(s.extract i (i+1)).size=1:=by
  have:(s.extract i (i+1)).size=(s.extract i (i+1)).data.toList.length:=rfl
  rw [this,hd];rfl
 have hst:(s.extract i (i+1))=⟨#[b0]⟩:=by apply ByteArray.ext;rw [<-Array.toList_inj,hd]
 rw [hst];simp [Builtin.copy_,run_underlying Tryz.underlying116,Builtin.lenOf,Builtin.firstCells,storeCells,go_sem,goInt];rw [Zq,World.setCell_alloc_at _ _ _ _ _ rfl];rfl
theorem Qo3 (w:World) (s:ByteArray) (i:Nat) (b0 b1:UInt8) (hl:(s.data.toList.drop i).take 2=[b0,b1]) (n:Nat):
 (Builtin.copy_ #[116,9] 3 #[.slice (some ⟨w.heap.size,2,none⟩) 2 2, .string (s.extract i (i+2))]).run Tryz.prog ((w.alloc (.cells #[.int .u8 0, .int .u8 0, .int .u8 0, .int .u8 0] 470)).drewN n)=
  .ok (.int .i64 2) ((w.alloc (.cells #[.int .u8 0, .int .u8 0, .int .u8 (b0.toNat:Int), .int .u8 (b1.toNat:Int)] 470)).drewN n):=by
 have hd:(s.extract i (i+2)).data.toList=[b0,b1]:=by rw [<-hl,Lib.extract_data,Nat.add_sub_cancel_left]
 have hsz:(s.extract i (i+2)).size=2:=by
  have:(s.extract i (i+2)).size=(s.extract i (i+2)).data.toList.length:=rfl
  rw [this,hd];rfl
 have hst:(s.extract i (i+2))=⟨#[b0,b1]⟩:=by apply ByteArray.ext;rw [<-Array.toList_inj,hd]
 rw [hst];simp [Builtin.copy_,run_underlying Tryz.underlying116,Builtin.lenOf,Builtin.firstCells,storeCells,go_sem,goInt];rw [Zq,Zq,World.setCell_alloc_at _ _ _ _ _ rfl,World.setCell_alloc_at _ _ _ _ _ rfl];rfl
theorem Qo2 (w:World) (s:ByteArray) (i:Nat) (b0 b1 b2:UInt8) (hl:(s.data.toList.drop i).take 3=[b0,b1,b2]) (n:Nat):
 (Builtin.copy_ #[116,9] 3 #[.slice (some ⟨w.heap.size,1,none⟩) 3 3, .string (s.extract i (i+3))]).run Tryz.prog ((w.alloc (.cells #[.int .u8 0, .int .u8 0, .int .u8 0, .int .u8 0] 470)).drewN n)=
  .ok (.int .i64 3) ((w.alloc (.cells #[.int .u8 0, .int .u8 (b0.toNat:Int), .int .u8 (b1.toNat:Int), .int .u8 (b2.toNat:Int)] 470)).drewN n):=by
 have hd:(s.extract i (i+3)).data.toList=[b0,b1,b2]:=by rw [<-hl,Lib.extract_data,Nat.add_sub_cancel_left]
 have hsz:(s.extract i (i+3)).size=3:=by
  have:(s.extract i (i+3)).size=(s.extract i (i+3)).data.toList.length:=rfl
  rw [this,hd];rfl
 have hst:(s.extract i (i+3))=⟨#[b0,b1,b2]⟩:=by apply ByteArray.ext;rw [<-Array.toList_inj,hd]
 rw [hst];simp [Builtin.copy_,run_underlying Tryz.underlying116,Builtin.lenOf,Builtin.firstCells,storeCells,go_sem,goInt];rw [Zq,Zq,Zq,World.setCell_alloc_at _ _ _ _ _ rfl,World.setCell_alloc_at _ _ _ _ _ rfl,World.setCell_alloc_at _ _ _ _ _ rfl];rfl
theorem Qo1 (w:World) (s:ByteArray) (i:Nat) (b0 b1 b2 b3:UInt8) (hl:(s.data.toList.drop i).take 4=[b0,b1,b2,b3]) (n:Nat):
 (Builtin.copy_ #[116,9] 3 #[.slice (some ⟨w.heap.size,0,none⟩) 4 4, .string (s.extract i (i+4))]).run Tryz.prog ((w.alloc (.cells #[.int .u8 0, .int .u8 0, .int .u8 0, .int .u8 0] 470)).drewN n)=
  .ok (.int .i64 4) ((w.alloc (.cells #[.int .u8 (b0.toNat:Int), .int .u8 (b1.toNat:Int), .int .u8 (b2.toNat:Int), .int .u8 (b3.toNat:Int)] 470)).drewN n):=by
 have hd:(s.extract i (i+4)).data.toList=[b0,b1,b2,b3]:=by rw [<-hl,Lib.extract_data,Nat.add_sub_cancel_left]
 have hsz:(s.extract i (i+4)).size=4:=by
  have:(s.extract i (i+4)).size=(s.extract i (i+4)).data.toList.length:=rfl
  rw [this,hd];rfl
 have hst:(s.extract i (i+4))=⟨#[b0,b1,b2,b3]⟩:=by apply ByteArray.ext;rw [<-Array.toList_inj,hd]
 rw [hst];simp [Builtin.copy_,run_underlying Tryz.underlying116,Builtin.lenOf,Builtin.firstCells,storeCells,go_sem,goInt];rw [Zq,Zq,Zq,Zq,World.setCell_alloc_at _ _ _ _ _ rfl,World.setCell_alloc_at _ _ _ _ _ rfl,World.setCell_alloc_at _ _ _ _ _ rfl,World.setCell_alloc_at _ _ _ _ _ rfl];rfl
set_option maxHeartbeats 1000000 in
set_option maxRecDepth 100000 in
theorem getG1 (s:ByteArray) (i:Nat) (w:World) (hi:i+1<=s.size) (hs:s.size<=1099511627776):
 Calls Tryz.prog 177 #[.string s, .int .i64 i, .int .i64 1] w λe w' =>e= .returned (.tuple #[.int .i64 (Ax.qD ((s.data.toList.drop i).take 1):Int), .int .i64 0])/\Below w.heap.size w w' :=by
 have hd:decide ((i:Int)<0)=false:=by simp
 have hd2:decide ((s.size:Int)-1<(i:Int))=false:=by simp;omega
 have hlen:s.data.toList.length=s.size:=by rw [Array.length_toList];rfl
 obtain ⟨l,hl⟩:∃l,l=(s.data.toList.drop i).take 1:=⟨_,rfl⟩
 have hll:l.length=1:=by rw [hl,List.length_take,List.length_drop,hlen];omega
 obtain ⟨b0,rfl⟩:∃b0,l=[b0]:=by
  match l,hll with
  |[b0],_=>exact ⟨b0,rfl⟩
 rw [<-hl];have hcp:=Qo4 w s i b0 hl.symm;clear hl hll hlen
 go_enter Tryz.func177,Tryz.ntmps177
 go_wp2_with fail
 refine QY 9 (by kernel_rfl) (by kernel_rfl) ?_;simp only [List.take_succ_cons,List.take_zero,List.drop_succ_cons,List.drop_zero]
 repeat (go_big_quiet_step (fail))
 refine wpQuiet_nil ?_
 rintro _ ⟨k,rfl⟩
 go_wp2_with fail
 go_ret2
 refine ⟨retI ?_,below_drewN' ((Below.refl _ _).alloc (Nat.le_refl _) _) k⟩;have h0:=b0.toNat_lt;rw [IntWalk.wrap64_in (b0.toNat:Int) (by omega),orJ4 (by omega) (by omega) (by omega) (by omega) (by omega) (by omega) (by omega) (by omega) (by omega) (by omega) (by omega)];simp only [Ax.qD,List.foldl_cons,List.foldl_nil];omega
set_option maxHeartbeats 1000000 in
set_option maxRecDepth 100000 in
theorem getG2 (s:ByteArray) (i:Nat) (w:World) (hi:i+2<=s.size) (hs:s.size<=1099511627776):
 Calls Tryz.prog 177 #[.string s, .int .i64 i, .int .i64 2] w λe w' =>e= .returned (.tuple #[.int .i64 (Ax.qD ((s.data.toList.drop i).take 2):Int), .int .i64 0])/\Below w.heap.size w w' :=by
 have hd:decide ((i:Int)<0)=false:=by simp
 have hd2:decide ((s.size:Int)-2<(i:Int))=false:=by simp;omega
 have hlen:s.data.toList.length=s.size:=by rw [Array.length_toList];rfl
 obtain ⟨l,hl⟩:∃l,l=(s.data.toList.drop i).take 2:=⟨_,rfl⟩
 have hll:l.length=2:=by rw [hl,List.length_take,List.length_drop,hlen];omega
 obtain ⟨b0,b1,rfl⟩:∃b0 b1,l=[b0,b1]:=by
  match l,hll with
  |[b0,b1],_=>exact ⟨b0,b1,rfl⟩
 rw [<-hl];have hcp:=Qo3 w s i b0 b1 hl.symm;clear hl hll hlen
 go_enter Tryz.func177,Tryz.ntmps177
 go_wp2_with fail
 refine QY 9 (by kernel_rfl) (by kernel_rfl) ?_;simp only [List.take_succ_cons,List.take_zero,List.drop_succ_cons,List.drop_zero]
 repeat (go_big_quiet_step (fail))
 refine wpQuiet_nil ?_
 rintro _ ⟨k,rfl⟩
 go_wp2_with fail
 go_ret2
 refine ⟨retI ?_,below_drewN' ((Below.refl _ _).alloc (Nat.le_refl _) _) k⟩;have h0:=b0.toNat_lt;have h1:=b1.toNat_lt;rw [IntWalk.wrap64_in (b0.toNat:Int) (by omega),IntWalk.wrap64_in (b1.toNat:Int) (by omega),IntWalk.wrap64_in ((b0.toNat:Int)*256) (by omega),orJ4 (by omega) (by omega) (by omega) (by omega) (by omega) (by omega) (by omega) (by omega) (by omega) (by omega) (by omega)];simp only [Ax.qD,List.foldl_cons,List.foldl_nil];omega
set_option maxHeartbeats 1000000 in
set_option maxRecDepth 100000 in
theorem getG3 (s:ByteArray) (i:Nat) (w:World) (hi:i+3<=s.size) (hs:s.size<=1099511627776):
 Calls Tryz.prog 177 #[.string s, .int .i64 i, .int .i64 3] w λe w' =>e= .returned (.tuple #[.int .i64 (Ax.qD ((s.data.toList.drop i).take 3):Int), .int .i64 0])/\Below w.heap.size w w' :=by
 have hd:decide ((i:Int)<0)=false:=by simp
 have hd2:decide ((s.size:Int)-3<(i:Int))=false:=by simp;omega
 have hlen:s.data.toList.length=s.size:=by rw [Array.length_toList];rfl
 obtain ⟨l,hl⟩:∃l,l=(s.data.toList.drop i).take 3:=⟨_,rfl⟩
 have hll:l.length=3:=by rw [hl,List.length_take,List.length_drop,hlen];omega
 obtain ⟨b0,b1,b2,rfl⟩:∃b0 b1 b2,l=[b0,b1,b2]:=by
  match l,hll with
  |[b0,b1,b2],_=>exact ⟨b0,b1,b2,rfl⟩
 rw [<-hl];have hcp:=Qo2 w s i b0 b1 b2 hl.symm;clear hl hll hlen
 go_enter Tryz.func177,Tryz.ntmps177
 go_wp2_with fail
 refine QY 9 (by kernel_rfl) (by kernel_rfl) ?_;simp only [List.take_succ_cons,List.take_zero,List.drop_succ_cons,List.drop_zero]
 repeat (go_big_quiet_step (fail))
 refine wpQuiet_nil ?_
 rintro _ ⟨k,rfl⟩
 go_wp2_with fail
 go_ret2
 refine ⟨retI ?_,below_drewN' ((Below.refl _ _).alloc (Nat.le_refl _) _) k⟩;have h0:=b0.toNat_lt;have h1:=b1.toNat_lt;have h2:=b2.toNat_lt;rw [IntWalk.wrap64_in (b0.toNat:Int) (by omega),IntWalk.wrap64_in (b1.toNat:Int) (by omega),IntWalk.wrap64_in (b2.toNat:Int) (by omega),IntWalk.wrap64_in ((b0.toNat:Int)*65536) (by omega),IntWalk.wrap64_in ((b1.toNat:Int)*256) (by omega),orJ4 (by omega) (by omega) (by omega) (by omega) (by omega) (by omega) (by omega) (by omega) (by omega) (by omega) (by omega)];simp only [Ax.qD,List.foldl_cons,List.foldl_nil];omega
set_option maxHeartbeats 1000000 in
set_option maxRecDepth 100000 in
theorem getG4 (s:ByteArray) (i:Nat) (w:World) (hi:i+4<=s.size) (hs:s.size<=1099511627776):
 Calls Tryz.prog 177 #[.string s, .int .i64 i, .int .i64 4] w λe w' =>e= .returned (.tuple #[.int .i64 (Ax.qD ((s.data.toList.drop i).take 4):Int), .int .i64 0])/\Below w.heap.size w w' :=by
 have hd:decide ((i:Int)<0)=false:=by simp
 have hd2:decide ((s.size:Int)-4<(i:Int))=false:=by simp;omega
 have hlen:s.data.toList.length=s.size:=by rw [Array.length_toList];rfl
 obtain ⟨l,hl⟩:∃l,l=(s.data.toList.drop i).take 4:=⟨_,rfl⟩
 have hll:l.length=4:=by rw [hl,List.length_take,List.length_drop,hlen];omega
 obtain ⟨b0,b1,b2,b3,rfl⟩:∃b0 b1 b2 b3,l=[b0,b1,b2,b3]:=by
  match l,hll with
  |[b0,b1,b2,b3],_=>exact ⟨b0,b1,b2,b3,rfl⟩
 rw [<-hl];have hcp:=Qo1 w s i b0 b1 b2 b3 hl.symm;clear hl hll hlen
 go_enter Tryz.func177,Tryz.ntmps177
 go_wp2_with fail
 refine QY 9 (by kernel_rfl) (by kernel_rfl) ?_;simp only [List.take_succ_cons,List.take_zero,List.drop_succ_cons,List.drop_zero]
 repeat (go_big_quiet_step (fail))
 refine wpQuiet_nil ?_
 rintro _ ⟨k,rfl⟩
 go_wp2_with fail
 go_ret2
 refine ⟨retI ?_,below_drewN' ((Below.refl _ _).alloc (Nat.le_refl _) _) k⟩;have h0:=b0.toNat_lt;have h1:=b1.toNat_lt;have h2:=b2.toNat_lt;have h3:=b3.toNat_lt;rw [IntWalk.wrap64_in (b0.toNat:Int) (by omega),IntWalk.wrap64_in (b1.toNat:Int) (by omega),IntWalk.wrap64_in (b2.toNat:Int) (by omega),IntWalk.wrap64_in (b3.toNat:Int) (by omega),IntWalk.wrap64_in ((b0.toNat:Int)*16777216) (by omega),IntWalk.wrap64_in ((b1.toNat:Int)*65536) (by omega),IntWalk.wrap64_in ((b2.toNat:Int)*256) (by omega),orJ4 (by omega) (by omega) (by omega) (by omega) (by omega) (by omega) (by omega) (by omega) (by omega) (by omega) (by omega)];simp only [Ax.qD,List.foldl_cons,List.foldl_nil];omega
theorem Ql0 (s:ByteArray) (i k:Nat) (w:World) (hk:1<=k) (hk4:k<=4) (hs:s.size<=1099511627776) (hi:i+k<=s.size):
 Calls Tryz.prog 177 #[.string s, .int .i64 i, .int .i64 k] w λe w' =>e= .returned (.tuple #[.int .i64 (Ax.qD ((s.data.toList.drop i).take k):Int), .int .i64 0])/\Below w.heap.size w w' :=by
 rcases (show k=1\/k=2\/k=3\/k=4 by omega) with rfl|rfl|rfl|rfl;exact getG1 s i w hi hs;exact getG2 s i w hi hs;exact getG3 s i w hi hs;exact getG4 s i w hi hs
end Go.Proofs.YtmfeholdlgfpbaaGreatDoor
namespace Go.Proofs.YtmfeholdlgfpbaaGreatDoor
open Go.RowKit Go.Proofs Go.Shelf
attribute [local go_sem] Oper.semAt_some
def wds:List UInt8->List Nat
 |[]=>[]
 |[a]=>[a.toNat*256]
 |a::b::l=>(a.toNat*256+b.toNat)::wds l
theorem Qjn:∀l:List UInt8,(wds l).foldl (. +·) 0=Ax.qw l:=by
 have h:∀(l:List UInt8) (n:Nat),(wds l).foldl (. +·) n=n+Ax.qw l:=by
  intro l;induction l using wds.induct with
  |case1=>intro n;simp [wds,Ax.qw]
  |case2 a=>intro n;simp [wds,Ax.qw]
  |case3 a b l ih=>intro n;simp only [wds,Ax.qw,List.foldl_cons,ih];omega
 intro l;rw [h];omega
theorem Qdd:∀l:List UInt8,(wds l).length<=l.length:=by
 intro l;induction l using wds.induct with
 |case1=>simp [wds]
 |case2 a=>simp [wds]
 |case3 a b l ih=>simp only [wds,List.length_cons];omega
theorem Qj4 (l:List UInt8):∀x∈wds l,x<=65535:=by
 induction l using wds.induct with
 |case1=>simp [wds]
 |case2 a=>have:=a.toNat_lt;simp only [wds,List.mem_cons,List.not_mem_nil,or_false];rintro x rfl;omega
 |case3 a b l ih=>
  have:=a.toNat_lt;have:=b.toNat_lt;simp only [wds,List.mem_cons]
  rintro x (rfl|h)
  omega;exact ih x h
theorem Qdc (s:ByteArray) (w:World):Calls Tryz.prog 360 #[.string s] w λe w' =>e= .returned (.func (.func 460) #[] #[.pointer (some ⟨w.heap.size,0,none⟩)])/\w' =w.alloc (.cells #[.string s] 9):=by
 have hmf:∀(fn:Fn) (first cap:Array Value) (w:World),(Instr.makeFunc fn first cap).run Tryz.prog w= .ok (.func fn first cap) w:=λ_ _ _ _=>rfl
 go_enter Tryz.func360,Tryz.ntmps360
 go_wp2
 go_ret
 exact ⟨rfl,rfl⟩
theorem Qfx {w w' :World} {b k:Nat} {v:Value} (hw:Below w.heap.size w w') (hb:b<w.heap.size) (h:w.cell? ⟨b,k,none⟩=some v):w'.cell? ⟨b,k,none⟩=some v:=by rw [hw.cell (p:=⟨b,k,none⟩) hb,h]
def KW (Bn n0:Nat) (A B:World):Prop:=(∀v,A.cell? ⟨Bn,0,none⟩=some v->B.cell? ⟨Bn,0,none⟩=some v)/\Below n0 A B
theorem KW.refl (Bn n0:Nat) (A:World):KW Bn n0 A A:=⟨λ_ h=>h,Below.refl _ _⟩
theorem KW.trans {Bn n0:Nat} {A B C:World} (h:KW Bn n0 A B) (k:KW Bn n0 B C):KW Bn n0 A C:=⟨λv e=>k.1 v (h.1 v e),h.2.trans k.2⟩
set_option maxRecDepth 100000 in
set_option maxHeartbeats 2000000 in
theorem Q8c (n:Nat) (hn:1<=n) (Bn n0:Nat) (s:ByteArray) (hs:s.size<=1099511627776) (w:World) (hBw:Bn<w.heap.size) (hc:w.cell? ⟨Bn,0,none⟩=some (.string s)):
 SeqStopsK Fence.wide n Tryz.prog 460 #[.pointer (some ⟨Bn,0,none⟩)] (λx:Nat=>#[.int .i64 (x:Int)]) (KW Bn n0) (λxs=>xs=wds s.data.toList) (λpre=>pre <+: wds s.data.toList) ((wds s.data.toList).length) w:=by
 have hlen:s.data.toList.length=s.size:=by rw [Array.length_toList];rfl
 intro l J Jx W hW hJ hJx hY h0;have hcW:W.cell? ⟨Bn,0,none⟩=some (.string s):=Qfx hW hBw hc;refine callsIn_of_wp Tryz.func460 rfl trivial ?_ rfl;simp only [Tryz.ntmps460,List.size_toArray,List.length_cons,List.length_nil,Nat.reduceAdd,Nat.reduceSub,Array.replicate_succ,Array.replicate_zero,List.push_toArray,List.append_toArray,List.nil_append,List.cons_append]
 gi_wp2
 gi_loopw [3] (λv wr=>∃(pre:List Nat) (k:Nat),v= .int .i64 k/\Hid (wds s.data.toList=pre++wds (s.data.toList.drop k))/\k<=s.size+1/\J pre wr/\KW Bn n0 W wr)
  (λv _=>s.size+2-(intOf v).toNat)
 case atStart=>exact ⟨[],0,rfl,rfl,Nat.zero_le _,h0,KW.refl _ _ _⟩
 case round=>
  obtain ⟨pre,k,rfl,HS,hl,hJs,hB⟩:=hrel;have hcr:wr.cell? ⟨Bn,0,none⟩=some (.string s):=hB.1 _ hcW;have hpl:k<s.size->pre.length<(wds s.data.toList).length:=by
   intro hlt;rw [HS.out,List.length_append];have:s.data.toList.drop k≠[]:=by rw [ne_eq,List.drop_eq_nil_iff,hlen];omega
   have:0<(wds (s.data.toList.drop k)).length:=by
    match hd:s.data.toList.drop k,this with
    |[a],_=>simp [wds]
    |a::b::l,_=>simp [wds]
   omega
  by_cases hlt:k<s.size
  . have hpl' :=hpl hlt;have hb0:=s[k].toNat_lt
    have e0:s.data.toList.drop k=s[k]::s.data.toList.drop (k+1):=List.drop_eq_getElem_cons (by rw [hlen];exact hlt);by_cases hlt1:k+1<s.size
    . have hb1:=s[k+1].toNat_lt
      have e1:s.data.toList.drop (k+1)=s[k+1]::s.data.toList.drop (k+2):=List.drop_eq_getElem_cons (by rw [hlen];exact hlt1);obtain ⟨x,hx⟩:∃x,x=s[k].toNat*256+s[k+1].toNat:=⟨_,rfl⟩
      have HN:Hid (wds s.data.toList=pre++[x]++wds (s.data.toList.drop (k+2))):=by rw [Hid,HS.out,e0,e1,hx];simp [wds]
      have hw:bits .or .i64 (wrap64 (wrap64 (s[k].toNat:Int)*256)) (wrap64 (s[k+1].toNat:Int))=(x:Int):=by rw [IntWalk.wrap64_in (s[k].toNat:Int) (by omega),IntWalk.wrap64_in (s[k+1].toNat:Int) (by omega),IntWalk.wrap64_in ((s[k].toNat:Int)*256) (by omega),Qah _ _ 8 (by omega) (by omega) (by omega) (by omega) (by omega) (by omega),hx];omega
      clear hb0 hb1 hx e0 e1 hpl;obtain ⟨fn,tmps,assign,body,hy,hR⟩:=hY pre x wr hJs hpl'
      gi_wp2
      refine hR.mono ?_
      rintro e W3 (⟨rfl,hJ3,hk3⟩|⟨rfl,hJx3⟩)
      . gi_wp2
        go_roundw
        case rel=>exact ⟨pre++[x],k+2,by go_num,HN.out,by omega,hJ3,hB.trans hk3⟩
        case measure=>simp [intOf];omega
      gi_wp2
      refine bodyPost_ret (results_none rfl _ _ _) rfl ?_;exact ⟨⟨_,rfl⟩, .inr ⟨pre++[x],by rw [HN.out];exact List.prefix_append _ _,hJx3⟩⟩
    have e1:s.data.toList.drop (k+1)=[]:=by rw [List.drop_eq_nil_iff,hlen];omega
    obtain ⟨x,hx⟩:∃x,x=s[k].toNat*256:=⟨_,rfl⟩
    have HN:Hid (wds s.data.toList=pre++[x]++wds (s.data.toList.drop (k+2))):=by
     have e2:s.data.toList.drop (k+2)=[]:=by rw [List.drop_eq_nil_iff,hlen];omega
     rw [Hid,HS.out,e0,e1,e2,hx];simp [wds]
    have hw:wrap64 (wrap64 (s[k].toNat:Int)*256)=(x:Int):=by rw [IntWalk.wrap64_in (s[k].toNat:Int) (by omega),IntWalk.wrap64_in ((s[k].toNat:Int)*256) (by omega),hx];omega
    clear hb0 hx e0 e1 hpl;obtain ⟨fn,tmps,assign,body,hy,hR⟩:=hY pre x wr hJs hpl'
    gi_wp2
    refine hR.mono ?_
    rintro e W3 (⟨rfl,hJ3,hk3⟩|⟨rfl,hJx3⟩)
    . gi_wp2
      go_roundw
      case rel=>exact ⟨pre++[x],k+2,by go_num,HN.out,by omega,hJ3,hB.trans hk3⟩
      case measure=>simp [intOf];omega
    gi_wp2
    refine bodyPost_ret (results_none rfl _ _ _) rfl ?_;exact ⟨⟨_,rfl⟩, .inr ⟨pre++[x],by rw [HN.out];exact List.prefix_append _ _,hJx3⟩⟩
  have HN:Hid (wds s.data.toList=pre):=by
   have e2:s.data.toList.drop k=[]:=by rw [List.drop_eq_nil_iff,hlen];omega
   rw [Hid,HS.out,e2];simp [wds]
  clear hpl
  gi_wp2
  refine bodyPost_end (results_none rfl _ _ _) rfl ?_;exact ⟨⟨_,rfl⟩, .inl ⟨pre,HN.out.symm,hJs⟩⟩
theorem Qfw (w:World) (v:Value) (t:TypeId):(w.alloc (.cells #[v] t)).cell? ⟨w.heap.size,0,none⟩=some v/\(w.alloc (.cells #[v] t)).frozen? ⟨w.heap.size,0,none⟩=false:=⟨by simp,by simp⟩
theorem Qlg {w:World} (o:Obj) {b k:Nat} {v:Value} (hb:b<w.heap.size) (h:w.cell? ⟨b,k,none⟩=some v):(w.alloc o).cell? ⟨b,k,none⟩=some v:=by rw [((Below.refl w.heap.size w).alloc (Nat.le_refl _) o).cell (p:=⟨b,k,none⟩) hb,h]
theorem Qfd {w:World} (o:Obj) {b k:Nat} {x:Bool} (hb:b<w.heap.size) (h:w.frozen? ⟨b,k,none⟩=x):(w.alloc o).frozen? ⟨b,k,none⟩=x:=by rw [((Below.refl w.heap.size w).alloc (Nat.le_refl _) o).frozen (p:=⟨b,k,none⟩) hb,h]
theorem Qdi:∀(l:List Nat) (n:Nat),(∀x∈l,x<=65535)->l.foldl (. +·) n<=n+65535*l.length
 |[],n,_=>by simp
 |a::l,n,h=>by have:=Qdi l (n+a) (λx hx=>h x (by simp [hx]));have:=h a (by simp);simp only [List.foldl_cons,List.length_cons];omega
theorem Qk0 {W:World} {l:Nat} {o o' :Obj} {Bn n0:Nat} {w:World} (hn:n0<=w.heap.size) (hl:w.heap.size<=l) (h:W.heap[l]?=some o) (hc:o.isCells=false) (hk:o.isWalk=false):KW Bn n0 W (W.putObj l o'):=by exact ⟨λv e=>cell_kept e (grownBy_putObj' W l o') (λr e=>by cases e;exact ⟨o,h,hc⟩),belowK_b (w:=w) hn W l o o' hl h hc hk⟩
theorem jK {f n:Nat} (h:65535<n):Ax.qx (f+1) n=Ax.qx f (n%65536+n/65536):=by show (if 65535<n then _ else _)=_;rw [if_pos h]
theorem ZC {f n:Nat} (h:¬65535<n):Ax.qx f n=n:=by
 cases f with
 |zero=>rfl
 |succ f=>show (if 65535<n then _ else _)=_;rw [if_neg h]
theorem Q3e:∀(f g n:Nat),n<=f->n<=g->Ax.qx f n=Ax.qx g n
 |0,g,n,h,_=>by
  have:n=0:=by omega
  subst this;rw [ZC (by omega),ZC (by omega)]
 |f+1,0,n,_,h=>by
  have:n=0:=by omega
  subst this;rw [ZC (by omega),ZC (by omega)]
 |f+1,g+1,n,h1,h2=>by by_cases hb:65535<n;rw [jK hb,jK hb];exact Q3e f g _ (by omega) (by omega);rw [ZC hb,ZC hb]
theorem Q3d {n:Nat} (h:65535<n):Ax.qx n n=Ax.qx (n%65536+n/65536) (n%65536+n/65536):=by obtain ⟨m,rfl⟩:∃m,n=m+1:=⟨n-1,by omega⟩;rw [jK h];exact Q3e _ _ _ (by omega) (Nat.le_refl _)
set_option maxRecDepth 100000 in
set_option maxHeartbeats 4000000 in
theorem Q7f (s:ByteArray) (w:World) (hs:s.size<=1099511627776):
 Calls Tryz.prog 263 #[.string s] w λe w' =>e= .returned (.int .i64 (Ax.fnZ 1 (Ax.YG s.data.toList 1)))/\Below w.heap.size w w' :=by
 refine (callsIn_wide (n:=6)).1 ?_
 refine callsIn_of_wp_marks Tryz.func263 rfl trivial ?_ rfl;simp only [Tryz.ntmps263,List.size_toArray,List.length_cons,List.length_nil,Nat.reduceAdd,Nat.reduceSub,Array.replicate_succ,Array.replicate_zero,List.push_toArray,List.append_toArray,List.nil_append,List.cons_append]
 gi_wp2_with (refine ⟨trivial,?_⟩;gi_at_call 360;refine (callsIn_wide.2 (Qdc s _)).mono ?_;rintro e w' ⟨rfl,rfl⟩)
 have hs0:=Qfw w (.int .i64 0) 3;have hb0:=Qfw (w.alloc (.cells #[.int .i64 0] 3)) (.string s) 9
 rw [World.size_alloc] at hb0;have hB0:Below w.heap.size w ((w.alloc (.cells #[.int .i64 0] 3)).alloc (.cells #[.string s] 9)):=((Below.refl _ w).alloc (Nat.le_refl _) _).alloc (by simp) _
 refine wpIn_rangeFunc_ownF rfl (by decide) (gf:=460) (lb:=#[.pointer (some ⟨w.heap.size+1,0,none⟩)]) rfl trivial (enters_of Tryz.func460 (by kernel_rfl) rfl)
  (Q8c 5 (by decide) (w.heap.size+1) w.heap.size s hs _ (by simp) hb0.1) KW.trans (λW l o o' hl h hc hk=>Qk0 (by simp;omega) hl h hc hk) (Below.refl _ _) (λ_=>rfl)
  (λpre W=>((∃z:Int,W.cell? ⟨w.heap.size,0,none⟩=some (.int .i64 z)/\((∀x∈pre,x<=65535)->z=((pre.foldl (. +·) 0:Nat):Int)))/\W.frozen? ⟨w.heap.size,0,none⟩=false)/\Below w.heap.size w W)
  (λ_ _ _=>False)
  (OwnFrom.and (Own.from (λs A B row hs hg hr=>by obtain ⟨⟨z,h1,h2⟩,h3⟩:=hs;exact ⟨⟨z,cell_kept h1 hg hr,h2⟩,(frozen_kept h1 hg hr).trans h3⟩) _) (ownFrom_below (Nat.le_refl _) (by simp;omega)))
  (λ_ _ _ _ _ h _ _=>h)
  ⟨⟨⟨0,Qlg _ (by simp) hs0.1,λ_=>rfl⟩,Qfd _ (by simp) hs0.2⟩,hB0⟩
  (λx=>{ tmps:=#[.string s,undef, .int .i64 0, .pointer (some ⟨w.heap.size,0,none⟩), .int .i64 (x:Int), .string s, .func (.func 460) #[] #[.pointer (some ⟨w.heap.size+1,0,none⟩)], .int .i64 (x:Int),undef,undef,undef,undef,undef,undef,undef,undef,undef,undef,undef,undef],defers:=[]}) ?assign ?body ?done ?stop
 case assign=>
  intro l x W K hK
  gi_wp2
  exact hK
 case body=>
  rintro l pre x W ⟨⟨⟨z,hcr,hz⟩,hfr⟩,hB⟩ hN
  have hml:(∀y∈pre,y<=65535)->pre.foldl (. +·) 0<=80000000000000000:=λhpre=>by
   have h1:=Qdi pre 0 hpre;have h2:=Qdd s.data.toList;have h3:s.data.toList.length=s.size:=by rw [Array.length_toList];rfl
   omega
  have HX:Hid ((∀y∈pre++[x],y<=65535)->wrap64 (z+(x:Int))=(((pre++[x]).foldl (. +·) 0:Nat):Int)):=λh=>by
   have hp:∀y∈pre,y<=65535:=λy hy=>h y (by simp [hy])
   have hx:=h x (by simp);have hm:=hml hp;rw [hz hp,List.foldl_append,IntWalk.wrap64_in _ (by omega)];simp
  clear hz hml hN
  gi_wp2
  refine ⟨KeepsOthers.setCell _ _ _,⟨λv e=>?_,(Below.refl _ _).setCell (p:=⟨w.heap.size,0,none⟩) (Nat.le_refl _) _⟩,⟨⟨_,World.cell?_setCell_same' _ _ _ (by rw [hcr];rfl),HX.out⟩,by simpa using hfr⟩,hB.setCell (p:=⟨w.heap.size,0,none⟩) (Nat.le_refl _) _⟩;exact (World.cell?_of_block (Below.heap_setCell _ _ _ _ (by simp))).trans e
 case done=>
  rintro D ys W hD rfl ⟨⟨⟨z,hcr,hz⟩,hfr⟩,hB⟩ hK
  have hsum:=Qjn s.data.toList;rw [hz (Qj4 _),hsum] at hcr;have hl:Ax.qw s.data.toList<=80000000000000000:=by
   have h1:=Qdi (wds s.data.toList) 0 (Qj4 _);have h2:=Qdd s.data.toList;have h3:s.data.toList.length=s.size:=by rw [Array.length_toList];rfl
   omega
  have HR:Hid (Ax.Qil s.data.toList=65535-Ax.qx (Ax.qw s.data.toList) (Ax.qw s.data.toList)):=rfl;revert hcr hl HR;generalize Ax.qw s.data.toList=R;clear hsum hz;intro hcr hl HR;have HK:=Lib.hid hK;clear hK
  gi_wp2
  gi_loopw [12] (λ_ wr=>∃m:Nat,wr.cell? ⟨w.heap.size,0,none⟩=some (.int .i64 (m:Int))/\wr.frozen? ⟨w.heap.size,0,none⟩=false/\Below w.heap.size w wr/\m<=80000000000000000/\Hid (Ax.qx m m=Ax.qx R R)/\Hid (wr.heap[D]?=some (.deferred (some []))))
   (λ_ wr=>match wr.cell? ⟨w.heap.size,0,none⟩ with|some v=>(intOf v).toNat|none=>0)
  case atStart=>exact ⟨R,hcr,hfr,hB,hl,rfl,HK⟩
  case round=>
   clear hcr hfr hB hl HK;obtain ⟨m,hcr,hfr,hB,hl,HF,HK⟩:=hrel;by_cases hbig:65535<m
   . have HW:=Lib.hid (Q3d hbig);have hDw:D≠w.heap.size:=by simp at hD;omega
     gi_wp2
     have hc1:=World.cell?_setCell_same' wr ⟨w.heap.size,0,none⟩ (.int .i64 ((m:Int)%65536+(m:Int)/65536)) (by rw [hcr];rfl);refine ⟨⟨m%65536+m/65536,by rw [hc1];rfl,by simpa using hfr,hB.setCell (p:=⟨w.heap.size,0,none⟩) (Nat.le_refl _) _,by omega,HW.out.symm.trans HF.out,?_⟩,?_⟩;have hh:=HK.out;exact (Below.heap_setCell _ _ _ _ hDw).trans hh
     rw [hc1,hcr];simp [intOf];omega
   have HW:=Lib.hid (ZC (f:=m) hbig)
   gi_wp2
   refine ⟨by simp, .inl ⟨_,_,rfl,run_takeDeferred HK.out,?_⟩⟩;refine ⟨_,results_tmp rfl _ _ _,?_,hB.trans (belowK_b (w:=w) (Nat.le_refl _) wr D _ _ (by simp at hD;omega) HK.out rfl rfl)⟩;have e:Ax.fnZ 1 (Ax.YG s.data.toList 1)=((Ax.Qil (Ax.Q86 (Ax.YG s.data.toList 1).toNat (Ax.YG s.data.toList 1).toNat)%65536:Nat):Int):=rfl;rw [e,Ax.YH,HR.out,<-HF.out,HW.out];have e2:(((65535-m)%65536:Nat):Int)=65535-(m:Int):=by omega
   rw [e2];rfl
 case stop=> 
  rintro D c pre W hD hpre h
  exact h.elim
end Go.Proofs.YtmfeholdlgfpbaaGreatDoor
namespace Go.Proofs.YtmfeholdlgfpbaaGreatDoor
open Go.RowKit Go.Proofs
theorem qg {x y:Nat} (hx:x<4294967296) (hy:y<4294967296):bits .xor .i64 (x:Int) (y:Int)=((x ^^^ y:Nat):Int):=by have h:x ^^^ y<2^32:=Nat.xor_lt_two_pow (by omega) (by omega);have ha' :x%2^IntKind.i64.bits=x:=Nat.mod_eq_of_lt (by simp only [IntKind.bits];omega);have hb' :y%2^IntKind.i64.bits=y:=Nat.mod_eq_of_lt (by simp only [IntKind.bits];omega);simp only [bits,BitVec.ofInt_natCast,BitVec.toNat_xor,BitVec.toNat_ofNat,ha',hb'];exact IntWalk.i64_in _ (by omega)
theorem Qdb {a b:Int} (ha0:0<=a) (ha1:a<=4294967295) (hb0:0<=b) (hb1:b<=4294967295):0<=bits .xor .i64 a b/\bits .xor .i64 a b<=4294967295:=by obtain ⟨x,rfl⟩:∃x:Nat,a=x:=⟨a.toNat,by omega⟩;obtain ⟨y,rfl⟩:∃y:Nat,b=y:=⟨b.toNat,by omega⟩;have hx:x ^^^ y<2^32:=Nat.xor_lt_two_pow (by omega) (by omega);rw [qg (by omega) (by omega)];omega
theorem Qfn {n:Int} {N:Nat} {b:UInt8} (e:n=(N:Int)) (h:N<4294967296):bits .xor .i64 n (b.toNat:Int)=((N ^^^ b.toNat:Nat):Int):=by subst e;exact qg h (by have:=b.toNat_lt;omega)
theorem Qlc {m:Int} {M:Nat} (e:m=(M:Int)) (h:M<4294967296) (ho:m%2=1):bits .xor .i64 (m/2) 3988292384=((Ax.ZN M:Nat):Int):=by
 subst e;have h1:M%2=1:=by omega
 have h2:((M:Int)/2)=((M/2:Nat):Int):=by omega
 rw [h2,Ax.ZN,if_pos h1];exact qg (x:=M/2) (y:=3988292384) (by omega) (by omega)
theorem Qic {m:Int} {M:Nat} (e:m=(M:Int)) (ho:¬m%2=1):m/2=((Ax.ZN M:Nat):Int):=by
 subst e;have h1:¬M%2=1:=by omega
 rw [Ax.ZN,if_neg h1];omega
set_option maxRecDepth 100000 in
set_option maxHeartbeats 1000000 in
theorem Qlw (s:ByteArray) (w:World) (hs:s.size<=1099511627776):
 Calls Tryz.prog 64 #[.string s] w λe w' =>e= .returned (.int .i64 (Ax.fnZ 0 (Ax.YG s.data.toList 1)))/\w' =w:=by
 have hlen:s.data.toList.length=s.size:=by rw [Array.length_toList];rfl
 go_enter Tryz.func64,Tryz.ntmps64
 go_wp2
 go_loopw [3,4] (λv i wr=>∃(k:Nat) (n:Int),k<=s.size/\i= .int .i64 k/\v= .int .i64 n/\0<=n/\n<=4294967295/\Hid (n=(((s.data.toList.take k).foldl Ax.Zo 4294967295:Nat):Int))/\w=wr) (λ_ i _=>s.size-(intOf i).toNat)
 case atStart=>exact ⟨0,4294967295,Nat.zero_le _,rfl,rfl,by omega,by omega,rfl,rfl⟩
 case round=>
  obtain ⟨k,n,hk,rfl,rfl,hn0,hn1,HN,rfl⟩:=hrel;by_cases hlt:k<s.size
  . have hb:=s[k].toNat_lt
    have hx:=Qdb hn0 hn1 (b:=(s[k].toNat:Int)) (by omega) (by omega);have HR:=Lib.hid (Qfn (b:=s[k]) HN.out (by have:=HN.out;omega))
    go_wp2
    go_loopw [3,5] (λv i wr=>∃(j:Nat) (m:Int),j<=8/\i= .int .i64 j/\v= .int .i64 m/\0<=m/\m<=4294967295/\Hid (m=((Nat.repeat Ax.ZN j ((s.data.toList.take k).foldl Ax.Zo 4294967295 ^^^ s[k].toNat):Nat):Int))/\w=wr) (λ_ i _=>8-(intOf i).toNat)
    case atStart=>exact ⟨0,_,by omega,rfl,rfl,hx.1,hx.2,HR.out,rfl⟩
    case round=>
     obtain ⟨j,m,hj,rfl,rfl,hm0,hm1,HM,rfl⟩:=hrel;clear hx;by_cases hj8:j<8
     . have hq:=Qdb (a:=m/2) (b:=3988292384) (by omega) (by omega) (by omega) (by omega);by_cases hodd:m%2=1
       . have HS:=Lib.hid (Qlc HM.out (by have:=HM.out;omega) hodd)
         go_wp2
         go_roundw
         case rel=>exact ⟨j+1,_,by omega,by go_num,rfl,hq.1,hq.2,HS.out,trivial⟩
         case measure=>simp [intOf];omega
       have HS:=Lib.hid (Qic HM.out hodd)
       go_wp2
       go_roundw
       case rel=>exact ⟨j+1,_,by omega,by go_num,rfl,by omega,by omega,HS.out,trivial⟩
       case measure=>simp [intOf];omega
     have e8:j=8:=by omega
     go_wp2
     go_roundw
     case rel=>exact ⟨k+1,_,by omega,by go_num,rfl,hm0,hm1,(by rw [Hid,HM.out,e8,Q3c (by rw [hlen];exact hlt)];rfl),trivial⟩
     case measure=>simp [intOf];omega
  have hx:=Qdb hn0 hn1 (b:=4294967295) (by omega) (by omega)
  go_wp2
  go_ret
  refine ⟨?_,rfl⟩;have hk' :s.data.toList.take k=s.data.toList:=List.take_of_length_le (by rw [hlen];omega);have hN:=HN.out;rw [hk'] at hN;have hl:=Q06 s.data.toList (r:=4294967295) (by omega);have hxl:s.data.toList.foldl Ax.Zo 4294967295 ^^^ 4294967295<4294967296:=Nat.xor_lt_two_pow (n:=32) (by omega) (by omega);have e:Ax.fnZ 0 (Ax.YG s.data.toList 1)=((Ax.Qid (Ax.Q86 (Ax.YG s.data.toList 1).toNat (Ax.YG s.data.toList 1).toNat)%4294967296:Nat):Int):=rfl;rw [e,Ax.YH,hN];show Ending.returned (.int .i64 (bits .xor .i64 ((s.data.toList.foldl Ax.Zo 4294967295:Nat):Int) ((4294967295:Nat):Int)))=_;rw [qg hl (by omega),show Ax.Qid s.data.toList=s.data.toList.foldl Ax.Zo 4294967295 ^^^ 4294967295 from rfl,Nat.mod_eq_of_lt hxl]
end Go.Proofs.YtmfeholdlgfpbaaGreatDoor
namespace Go.Proofs.YtmfeholdlgfpbaaGreatDoor
open Go.RowKit Go.Proofs
theorem qU (w:World) (b:Int):(convert 116 9 (.slice (some ⟨w.heap.size,0,none⟩) 1 1)).run Tryz.prog (w.alloc (.cells #[.int .u8 b] 5))=
 .ok (.string ⟨#[UInt8.ofNat b.toNat]⟩) (w.alloc (.cells #[.int .u8 b] 5)):=
 run_convert_bytes_arg _ 116 5 Tryz.underlying116 Tryz.underlying5 _ 0 1 1 [b] rfl (by
  intro i hi;match i,hi with
  |0,_=>simp) 9 Tryz.underlying9
theorem Q4g (w:World) (o1:Obj) (b:Int):(convert 116 9 (.slice (some ⟨w.heap.size+1,0,none⟩) 1 1)).run Tryz.prog ((w.alloc o1).alloc (.cells #[.int .u8 b] 5))=
 .ok (.string ⟨#[UInt8.ofNat b.toNat]⟩) ((w.alloc o1).alloc (.cells #[.int .u8 b] 5)):=by simpa using qU (w.alloc o1) b
theorem Qai (w:World) (o1 o2:Obj) (b:Int):(convert 116 9 (.slice (some ⟨w.heap.size+1+1,0,none⟩) 1 1)).run Tryz.prog (((w.alloc o1).alloc o2).alloc (.cells #[.int .u8 b] 5))=
 .ok (.string ⟨#[UInt8.ofNat b.toNat]⟩) (((w.alloc o1).alloc o2).alloc (.cells #[.int .u8 b] 5)):=by simpa using qU ((w.alloc o1).alloc o2) b
theorem Qhl (w:World) (o1 o2 o3:Obj) (b:Int):(convert 116 9 (.slice (some ⟨w.heap.size+1+1+1,0,none⟩) 1 1)).run Tryz.prog ((((w.alloc o1).alloc o2).alloc o3).alloc (.cells #[.int .u8 b] 5))=
 .ok (.string ⟨#[UInt8.ofNat b.toNat]⟩) ((((w.alloc o1).alloc o2).alloc o3).alloc (.cells #[.int .u8 b] 5)):=by simpa using qU (((w.alloc o1).alloc o2).alloc o3) b
set_option maxRecDepth 100000 in
set_option maxHeartbeats 1000000 in
theorem rput1 (z:Int) (w:World) (h0:0<=z) (h1:z<256):
 Calls Tryz.prog 132 #[.int .i64 z, .int .i64 1] w λe w' =>e= .returned (.tuple #[.string ⟨(Ax.Z5 z 1).toArray⟩, .int .i64 0])/\Below w.heap.size w w' :=by
 have hd:decide (z<0)=false:=by simp;omega
 have hg:decide (256<=z)=false:=by simp;omega
 have hc1:=qU;have hB:=Lib.hid (Qbd z)
 go_enter Tryz.func132,Tryz.ntmps132
 go_wp2
 refine wp_loop_rounds 2 ?_;rw [rounds_succ]
 go_wp2
 rw [rounds_succ]
 go_wp2
 refine wp_loop_rounds 2 ?_;rw [rounds_succ]
 go_wp2
 rw [rounds_succ]
 go_wp2
 go_ret2
 refine ⟨?_,(Below.refl _ _).alloc (Nat.le_refl _) _⟩;rw [hB.out];rfl
set_option maxRecDepth 100000 in
set_option maxHeartbeats 1000000 in
theorem rput2 (z:Int) (w:World) (h0:0<=z) (h1:z<65536):
 Calls Tryz.prog 132 #[.int .i64 z, .int .i64 2] w λe w' =>e= .returned (.tuple #[.string ⟨(Ax.Z5 z 2).toArray⟩, .int .i64 0])/\Below w.heap.size w w' :=by
 have hd:decide (z<0)=false:=by simp;omega
 have hg:decide (65536<=z)=false:=by simp;omega
 have hc1:=qU;have hc2:=Q4g;have hB:=Lib.hid (Qbc z)
 go_enter Tryz.func132,Tryz.ntmps132
 go_wp2
 refine wp_loop_rounds 3 ?_;rw [rounds_succ]
 go_wp2
 rw [rounds_succ]
 go_wp2
 rw [rounds_succ]
 go_wp2
 refine wp_loop_rounds 3 ?_;rw [rounds_succ]
 go_wp2
 rw [rounds_succ]
 go_wp2
 rw [rounds_succ]
 go_wp2
 go_ret2
 refine ⟨?_,((Below.refl _ _).alloc (Nat.le_refl _) _).alloc (by simp) _⟩;rw [hB.out];rfl
set_option maxRecDepth 100000 in
set_option maxHeartbeats 1000000 in
theorem rput3 (z:Int) (w:World) (h0:0<=z) (h1:z<16777216):
 Calls Tryz.prog 132 #[.int .i64 z, .int .i64 3] w λe w' =>e= .returned (.tuple #[.string ⟨(Ax.Z5 z 3).toArray⟩, .int .i64 0])/\Below w.heap.size w w' :=by
 have hd:decide (z<0)=false:=by simp;omega
 have hg:decide (16777216<=z)=false:=by simp;omega
 have hc1:=qU;have hc2:=Q4g;have hc3:=Qai;have hB:=Lib.hid (Qbb z)
 go_enter Tryz.func132,Tryz.ntmps132
 go_wp2
 refine wp_loop_rounds 4 ?_;rw [rounds_succ]
 go_wp2
 rw [rounds_succ]
 go_wp2
 rw [rounds_succ]
 go_wp2
 rw [rounds_succ]
 go_wp2
 refine wp_loop_rounds 4 ?_;rw [rounds_succ]
 go_wp2
 rw [rounds_succ]
 go_wp2
 rw [rounds_succ]
 go_wp2
 rw [rounds_succ]
 go_wp2
 go_ret2
 refine ⟨?_,(((Below.refl _ _).alloc (Nat.le_refl _) _).alloc (by simp) _).alloc (by simp<;>omega) _⟩;have e3:z/65536=z/256/256:=by omega
 rw [hB.out,e3];rfl
set_option maxRecDepth 100000 in
set_option maxHeartbeats 1000000 in
theorem rput4 (z:Int) (w:World) (h0:0<=z) (h1:z<4294967296):
 Calls Tryz.prog 132 #[.int .i64 z, .int .i64 4] w λe w' =>e= .returned (.tuple #[.string ⟨(Ax.Z5 z 4).toArray⟩, .int .i64 0])/\Below w.heap.size w w' :=by
 have hd:decide (z<0)=false:=by simp;omega
 have hg:decide (4294967296<=z)=false:=by simp;omega
 have hc1:=qU;have hc2:=Q4g;have hc3:=Qai;have hc4:=Qhl;have hB:=Lib.hid (Qba z)
 go_enter Tryz.func132,Tryz.ntmps132
 go_wp2
 refine wp_loop_rounds 5 ?_;rw [rounds_succ]
 go_wp2
 rw [rounds_succ]
 go_wp2
 rw [rounds_succ]
 go_wp2
 rw [rounds_succ]
 go_wp2
 rw [rounds_succ]
 go_wp2
 refine wp_loop_rounds 5 ?_;rw [rounds_succ]
 go_wp2
 rw [rounds_succ]
 go_wp2
 rw [rounds_succ]
 go_wp2
 rw [rounds_succ]
 go_wp2
 rw [rounds_succ]
 go_wp2
 go_ret2
 refine ⟨?_,((((Below.refl _ _).alloc (Nat.le_refl _) _).alloc (by simp) _).alloc (by simp<;>omega) _).alloc (by simp<;>omega) _⟩;have e3:z/65536=z/256/256:=by omega
 have e4:z/16777216=z/256/256/256:=by omega
 rw [hB.out,e4,e3];rfl
theorem rput_any (z:Int) (k:Nat) (w:World) (hk:1<=k) (hk4:k<=4) (h0:0<=z) (hz:z<256^k):
 Calls Tryz.prog 132 #[.int .i64 z, .int .i64 k] w λe w' =>e= .returned (.tuple #[.string ⟨(Ax.Z5 z k).toArray⟩, .int .i64 0])/\Below w.heap.size w w' :=by
 rcases (show k=1\/k=2\/k=3\/k=4 by omega) with rfl|rfl|rfl|rfl;exact rput1 z w h0 (by omega);exact rput2 z w h0 (by omega);exact rput3 z w h0 (by omega);exact rput4 z w h0 (by omega)
set_option maxRecDepth 100000 in
set_option maxHeartbeats 1000000 in
theorem rput_bad (z:Int) (k:Nat) (w:World) (hk:1<=k) (hk4:k<=4) (hz:z<0\/256^k<=z):
 Calls Tryz.prog 132 #[.int .i64 z, .int .i64 k] w λe w' =>e= .returned (.tuple #[.string ⟨#[]⟩, .int .i64 ((10:Nat):Int)])/\Below w.heap.size w w' :=by
 by_cases h0:z<0
 . go_enter Tryz.func132,Tryz.ntmps132
   go_wp2
   go_ret2
   exact ⟨rfl,Below.refl _ _⟩
 rcases (show k=1\/k=2\/k=3\/k=4 by omega) with rfl|rfl|rfl|rfl
 . have hd:decide (z<0)=false:=by simp;omega
   have hg:decide (256<=z)=true:=by simp;omega
   go_enter Tryz.func132,Tryz.ntmps132
   go_wp2
   refine wp_loop_rounds 2 ?_;rw [rounds_succ]
   go_wp2
   rw [rounds_succ]
   go_wp2
   go_ret2
   exact ⟨rfl,Below.refl _ _⟩
 . have hd:decide (z<0)=false:=by simp;omega
   have hg:decide (65536<=z)=true:=by simp;omega
   go_enter Tryz.func132,Tryz.ntmps132
   go_wp2
   refine wp_loop_rounds 3 ?_;rw [rounds_succ]
   go_wp2
   rw [rounds_succ]
   go_wp2
   rw [rounds_succ]
   go_wp2
   go_ret2
   exact ⟨rfl,Below.refl _ _⟩
 . have hd:decide (z<0)=false:=by simp;omega
   have hg:decide (16777216<=z)=true:=by simp;omega
   go_enter Tryz.func132,Tryz.ntmps132
   go_wp2
   refine wp_loop_rounds 4 ?_;rw [rounds_succ]
   go_wp2
   rw [rounds_succ]
   go_wp2
   rw [rounds_succ]
   go_wp2
   rw [rounds_succ]
   go_wp2
   go_ret2
   exact ⟨rfl,Below.refl _ _⟩
 have hd:decide (z<0)=false:=by simp;omega
 have hg:decide (4294967296<=z)=true:=by simp;omega
 go_enter Tryz.func132,Tryz.ntmps132
 go_wp2
 refine wp_loop_rounds 5 ?_;rw [rounds_succ]
 go_wp2
 rw [rounds_succ]
 go_wp2
 rw [rounds_succ]
 go_wp2
 rw [rounds_succ]
 go_wp2
 rw [rounds_succ]
 go_wp2
 go_ret2
 exact ⟨rfl,Below.refl _ _⟩
theorem Qkg:∀(l:List UInt8),Ax.qD l<256^l.length:=by
 have h:∀(l:List UInt8) (n:Nat),l.foldl (λn b=>n*256+b.toNat) n<(n+1)*256^l.length:=by
  intro l;induction l with
  |nil=>intro n;simp
  |cons b l ih=>
   intro n;have:=ih (n*256+b.toNat);have hb:=b.toNat_lt;simp only [List.foldl_cons,List.length_cons,Nat.pow_succ]
   calc _<(n*256+b.toNat+1)*256^l.length:=this
    _<=((n+1)*256)*256^l.length:=Nat.mul_le_mul_right _ (by omega)
    _=(n+1)*(256^l.length*256):=by rw [Nat.mul_assoc,Nat.mul_comm 256]
 intro l;simpa [Ax.qD] using h l 0
theorem Qem {l:List UInt8} {c:Nat} (h:c<l.length):Ax.qD (l.take (c+1))=Ax.qD (l.take c)*256+l[c].toNat:=by unfold Ax.qD;rw [List.take_add_one,List.getElem?_eq_getElem h,List.foldl_append];rfl
set_option maxRecDepth 100000 in
set_option maxHeartbeats 1000000 in
theorem rget_any (s:ByteArray) (i k:Nat) (w:World) (hk:1<=k) (hk4:k<=4) (hs:s.size<=1099511627776) (hi:i+k<=s.size):
 Calls Tryz.prog 52 #[.string s, .int .i64 i, .int .i64 k] w λe w' =>e= .returned (.tuple #[.int .i64 (Ax.qD ((s.data.toList.drop i).take k)), .int .i64 0])/\Below w.heap.size w w' :=by
 have hlen:s.data.toList.length=s.size:=by rw [Array.length_toList];rfl
 have hg:decide (s.size<i)=false:=by simp;omega
 have hg2:decide ((s.size:Int)-(i:Int)<(k:Int))=false:=by simp;omega
 go_enter Tryz.func52,Tryz.ntmps52
 go_wp2
 go_loopw [8,9] (λv j wr=>∃(c:Nat) (n:Int),c<=k/\j= .int .i64 ((i+c:Nat):Int)/\v= .int .i64 n/\0<=n/\n<=4294967295/\Hid (n=((Ax.qD ((s.data.toList.drop i).take c):Nat):Int))/\w=wr) (λ_ j _=>i+k-(intOf j).toNat)
 case atStart=>exact ⟨0,0,Nat.zero_le _,rfl,rfl,by omega,by omega,rfl,rfl⟩
 case round=>
  obtain ⟨c,n,hc,rfl,rfl,hn0,hn1,HN,rfl⟩:=hrel;by_cases hlt:c<k
  . have hb:=s[i+c].toNat_lt
    have hl:c<(s.data.toList.drop i).length:=by rw [List.length_drop,hlen];omega
    have hst:=Qem hl;have hge:(s.data.toList.drop i)[c]=s[i+c]:=by rw [List.getElem_drop];rfl
    have hlt4:=Qkg ((s.data.toList.drop i).take (c+1));have hl4:256^((s.data.toList.drop i).take (c+1)).length<=256^4:=Nat.pow_le_pow_right (by omega) (by rw [List.length_take];omega)
    have hN:=HN.out;rw [hge] at hst;have hv:256*n+(s[i+c].toNat:Int)=((Ax.qD ((s.data.toList.drop i).take (c+1)):Nat):Int):=by rw [hN,hst];omega
    have hv1:256*n+(s[i+c].toNat:Int)<=4294967295:=by rw [hv];omega
    have HV:=Lib.hid hv;clear hst hge hlt4 hl4 hN hv
    go_wp2
    go_roundw
    case rel=>exact ⟨c+1,_,by omega,by go_num,rfl,by omega,by omega,HV.out,trivial⟩
    case measure=>simp [intOf];omega
  have e:c=k:=by omega
  subst e
  go_wp2
  go_ret2
  refine ⟨?_,Below.refl _ _⟩;rw [HN.out];rfl
set_option maxRecDepth 100000 in
set_option maxHeartbeats 1000000 in
theorem rget_bad (s:ByteArray) (i k:Nat) (w:World) (hk:1<=k) (hk4:k<=4) (_:s.size<=1099511627776) (_:i<=1099511627776) (h:s.size<i+k):
 Calls Tryz.prog 52 #[.string s, .int .i64 i, .int .i64 k] w λe w' =>e= .returned (.tuple #[.int .i64 0, .int .i64 ((10:Nat):Int)])/\Below w.heap.size w w' :=by
 by_cases h1:s.size<i
 . have hg:decide (s.size<i)=true:=by simpa using h1
   go_enter Tryz.func52,Tryz.ntmps52
   go_wp2
   go_ret2
   exact ⟨rfl,Below.refl _ _⟩
 have hg:decide (s.size<i)=false:=by simp;omega
 have hq:decide ((s.size:Int)-(i:Int)<(k:Int))=true:=by simp;omega
 go_enter Tryz.func52,Tryz.ntmps52
 go_wp2
 go_ret2
 exact ⟨rfl,Below.refl _ _⟩
end Go.Proofs.YtmfeholdlgfpbaaGreatDoor
namespace Go.Proofs.YtmfeholdlgfpbaaGreatDoor
open Go Go.RowKit Go.Proofs
theorem Q5y:∀(l:List UInt8) (b:UInt8),Ax.qw (l++[b])=Ax.qw l+(if l.length%2=0 then b.toNat*256 else b.toNat)
 |[],b=>by simp [Ax.qw]
 |[a],b=>by simp [Ax.qw]
 |a::a' ::l,b=>by have h:=Q5y l b;simp only [List.cons_append,Ax.qw,h,List.length_cons];by_cases hp:l.length%2=0;rw [if_pos hp,if_pos (by omega)];omega;rw [if_neg hp,if_neg (by omega)];omega
theorem Qdj {l:List UInt8} {k:Nat} (h:k<l.length):Ax.qw (l.take (k+1))=Ax.qw (l.take k)+(if k%2=0 then l[k].toNat*256 else l[k].toNat):=by rw [List.take_succ_eq_append_getElem h,Q5y,List.length_take,Nat.min_eq_left (by omega)]
theorem Qdk:∀(l:List UInt8),Ax.qw l<=65280*l.length
 |[]=>by simp [Ax.qw]
 |[a]=>by have:=a.toNat_lt;simp [Ax.qw];omega
 |a::b::l=>by have h:=Qdk l;have h1:=a.toNat_lt;have h2:=b.toNat_lt;simp only [Ax.qw,List.length_cons];omega
set_option maxRecDepth 100000 in
set_option maxHeartbeats 1000000 in
theorem Qlv (s:ByteArray) (w:World) (hs:s.size<=1099511627776):
 Calls Tryz.prog 119 #[.string s] w λe w' =>e= .returned (.int .i64 (Ax.fnZ 1 (Ax.YG s.data.toList 1)))/\w' =w:=by
 have hlen:s.data.toList.length=s.size:=by rw [Array.length_toList];rfl
 go_enter Tryz.func119,Tryz.ntmps119
 go_wp2
 go_loopw [3,4] (λv i wr=>∃(k:Nat),k<=s.size/\i= .int .i64 k/\v= .int .i64 ((Ax.qw (s.data.toList.take k):Nat):Int)/\w=wr) (λ_ i _=>s.size-(intOf i).toNat)
 case atStart=>exact ⟨0,Nat.zero_le _,rfl,rfl,rfl⟩
 case round=>
  obtain ⟨k,hk,rfl,rfl,rfl⟩:=hrel;have hle:Ax.qw (s.data.toList.take k)<=80000000000000000:=by
   have h1:=Qdk (s.data.toList.take k);have h2:(s.data.toList.take k).length<=s.size:=by rw [List.length_take,hlen];omega
   omega
  by_cases hlt:k<s.size
  . have hb:=s[k].toNat_lt
    have HS:=Lib.hid (Qdj (l:=s.data.toList) (k:=k) (by rw [hlen];exact hlt));have hget:s.data.toList[k]'(by rw [hlen];exact hlt)=s[k]:=by rw [Array.getElem_toList];rfl
    revert hle HS;generalize Ax.qw (s.data.toList.take k)=n;intro hle HS;by_cases hpar:(k:Int)%2=0
    . go_wp2
      go_roundw
      case rel=>refine ⟨k+1,by omega,by go_num,?_,trivial⟩;rw [HS.out,hget,if_pos (by omega)];congr 1;omega
      case measure=>simp [intOf];omega
    go_wp2
    go_roundw
    case rel=>refine ⟨k+1,by omega,by go_num,?_,trivial⟩;rw [HS.out,hget,if_neg (by omega)];congr 1
    case measure=>simp [intOf];omega
  have hk2:s.data.toList.take k=s.data.toList:=List.take_of_length_le (by rw [hlen];omega);rw [hk2] at hle ⊢;have HR:Hid (Ax.Qil s.data.toList=65535-Ax.qx (Ax.qw s.data.toList) (Ax.qw s.data.toList)):=rfl;revert hle HR;generalize Ax.qw s.data.toList=R;intro hle HR
  go_wp2
  go_loopw [3] (λv wr=>∃m:Nat,v= .int .i64 (m:Int)/\m<=80000000000000000/\Hid (Ax.qx m m=Ax.qx R R)/\w=wr) (λv _=>(intOf v).toNat)
  case atStart=>exact ⟨R,rfl,hle,rfl,rfl⟩
  case round=>
   obtain ⟨m,rfl,hm1,HF,rfl⟩:=hrel;by_cases hbig:65535<m
   . have HW:=Lib.hid (Q3d hbig)
     go_wp2
     go_roundw
     case rel=>exact ⟨m%65536+m/65536,by congr 1,by omega,HW.out.symm.trans HF.out,trivial⟩
     case measure=>simp [intOf];omega
   have HW:=Lib.hid (ZC (f:=m) hbig)
   go_wp2
   go_ret
   refine ⟨?_,rfl⟩;have e:Ax.fnZ 1 (Ax.YG s.data.toList 1)=((Ax.Qil (Ax.Q86 (Ax.YG s.data.toList 1).toNat (Ax.YG s.data.toList 1).toNat)%65536:Nat):Int):=rfl;rw [e,Ax.YH,HR.out,<-HF.out,HW.out];have e2:(((65535-m)%65536:Nat):Int)=65535-(m:Int):=by omega
   rw [e2];rfl
end Go.Proofs.YtmfeholdlgfpbaaGreatDoor
