/-
 A choice below a number, by the laws' own function. Conditions: none.
-/
import Derived.Test.YtmfeholdlgfpbaaGreatDoorProg
import Derived.Test.YtmfeholdlgfpbaaGreatDoorEAxE
import Derived.WalkKit
import Derived.WalkSpells
import Derived.WalkMore
import Derived.WalkLawsBesides
import Derived.Deep.QuietTactic
import Derived.BigQuiet
import Derived.Lib.Hide
import Derived.Laws.BitsLemmas
import Derived.StillTail
import Derived.Test.YtmfeholdlgfpbaaGreatDoorEAxG
import Derived.Laws.BitsAllLaws
import Derived.Laws.IdiomCopy
import Derived.Laws.BytesArg
import Derived.Lib.QuoteBits
namespace Go.Proofs.YtmfeholdlgfpbaaGreatDoor
open Go.RowKit Go.Proofs
theorem Qcf (c:Int) (n:Nat) (w:World) (c0:-9223372036854775808<=c) (c1:c<=9223372036854775807) (n0:1<=n) (n1:n<=9223372036854775807):
 Calls Tryz.prog 9 #[.int .i64 c, .int .i64 n] w λe w' =>e= .returned (.int .i64 (Ax.Q0z n c))/\w' =w:=by
 by_cases h:c<0
 . go_enter Tryz.func9,Tryz.ntmps9
   go_wp2
   go_ret
   exact ⟨by rw [Ax.Q0z,if_pos h,Int.neg_tmod];rfl,rfl⟩
 go_enter Tryz.func9,Tryz.ntmps9
 go_wp2
 go_ret
 exact ⟨by rw [Ax.Q0z,if_neg (by omega),Int.tmod_eq_emod_of_nonneg (by omega)];rfl,rfl⟩
end Go.Proofs.YtmfeholdlgfpbaaGreatDoor
namespace Go.Proofs.YtmfeholdlgfpbaaGreatDoor
open Go Go.RowKit
structure Lat (S:World->Prop) where
 u:World
 h:S u
theorem Qiv {w u u' :World} (h:Below w.heap.size w u) (k:Below u.heap.size u u'):Below w.heap.size w u' :=h.trans (k.mono h.size)
theorem Lat.cell {w:World} (x:Lat (Below w.heap.size w)) {b o:Nat} {v:Value} (hb:b<w.heap.size) (h:w.cell? ⟨b,o,none⟩=some v):x.u.cell? ⟨b,o,none⟩=some v:=by rw [x.h.cell (p:=⟨b,o,none⟩) hb,h]
instance latBelow (W:World):Nonempty (Lat (Below W.heap.size W)):=⟨⟨W,Below.refl _ _⟩⟩
theorem Calls.below {P:Program} {f:FuncId} {args:Array Value} {W:World} {x:Lat (Below W.heap.size W)} {v:Value}
 (h:Calls P f args x.u λe w' =>e= .returned v/\Below x.u.heap.size x.u w'):Calls P f args x.u λe w'' =>e= .returned v/\∃y:Lat (Below W.heap.size W),w'' =y.u:=
 h.mono λ_ w' hr=>⟨hr.1,⟨w',Qiv x.h hr.2⟩,rfl⟩
theorem Calls.same {P:Program} {f:FuncId} {args:Array Value} {W:World} {x:Lat (Below W.heap.size W)} {v:Value}
 (h:Calls P f args x.u λe w' =>e= .returned v/\x.u=w'):Calls P f args x.u λe w'' =>e= .returned v/\∃y:Lat (Below W.heap.size W),w'' =y.u:=
 h.mono λ_ _ hr=>⟨hr.1,x,hr.2.symm⟩
end Go.Proofs.YtmfeholdlgfpbaaGreatDoor
namespace Go.Proofs.YtmfeholdlgfpbaaGreatDoor
open Go Go.RowKit
section
variable {P:Program} {ops:Array Oper} {md:Region.Mode} {C:World->Prop}
def Q1y (P:Program) (md:Region.Mode) (ops:Array Oper) (C:World->Prop) (n:Nat) (L:Array Bool->Act->Prop):Nat->Array Bool->Act->Prop
 |0,listed,a=>L listed a
 |f+1,listed,a=>Region.ready md ops listed≠[]/\∀i∈Region.ready md ops listed,i<n/\qOp P ops C i (Q1y P md ops C n L f (listed.setIfInBounds i true)) a
theorem Js {n g:Nat} {L:Array Bool->Act->Prop} {Q' :Exit->Act->World->Prop} (hL:∀listed a w,C w->L listed a->wpAny P md ops Q' g listed a w):
 ∀(f:Nat) (listed:Array Bool) (a:Act) (w:World),C w->Q1y P md ops C n L f listed a->wpAny P md ops Q' (f+g) listed a w
 |0,_,_,_,hw,h=>by rw [Nat.zero_add];exact hL _ _ _ hw h
 |f+1,_,_,_,hw,h=>by rw [Nat.add_right_comm];exact ⟨λh0=>absurd h0 h.1,λi hi=>wpOp_of_qOp hw (λa' w' hw' h' =>Js hL f _ a' w' hw' h') (h.2 i hi).2⟩
theorem Q5b {n i:Nat} {oi:Oper} {v:Value} {L:Array Bool->Act->Prop} (hi:ops[i]?=some oi) (hsel:∀(j:Nat) (o:Oper) cs b,ops[j]?=some o->o.op≠ .select cs b)
 (hs:Region.sinkB md ops n=true) (hc:Region.chainB md ops n=true) (hn:n<ops.size) (hin:i<n)
 (hdone:∀listed a,L listed a->∀j∈Region.ready md ops listed,n<=j):
 ∀(f:Nat) (listed:Array Bool) (a:Act),HeadInv md ops n listed->
  (∀j oj,ops[j]?=some oj->j≠i->listed.getD j true=false->(∀e∈oj.after,Region.binds md e=true->e.on≠i)->oi.apart ops oj=true)->
  i∈Region.ready md ops listed->YieldsIn P ops C oi v a->
  Q1y P md ops C n L f (listed.setIfInBounds i true) (a.put oi.dst v)->Q1y P md ops C n L (f+1) listed a:=by
 intro f;induction f with
 |zero=>
  intro listed a inv _ hr hy H;refine ⟨λh=>(by rw [h] at hr;cases hr),λj hj=>?_⟩;have hjn:j<n:=Classical.byContradiction λh=>tail_waits hs hc hn inv _ i rfl hin (mem_ready.1 hr).1 j (by omega) hj
  refine ⟨hjn,?_⟩;by_cases hji:j=i;subst hji;exact hy.qOp hi H;have:=hdone _ _ H j (ready_mono hj hji);omega
 |succ f ih=>
  intro listed a inv hfree hr hy H;have hun:=(mem_ready.1 hr).1
  refine ⟨λh=>(by rw [h] at hr;cases hr),λj hj=>?_⟩;have hjn:j<n:=Classical.byContradiction λh=>tail_waits hs hc hn inv _ i rfl hin hun j (by omega) hj
  refine ⟨hjn,?_⟩;by_cases hji:j=i;subst hji;exact hy.qOp hi H;have h1:=(H.2 j (ready_mono hj hji)).2
  obtain ⟨hjun,oj,hoj,hall⟩:=mem_ready.1 hj;have hnot:∀e∈oj.after,Region.binds md e=true->e.on≠i:=λe he hb heq=>by have h1:=hall e he hb;rw [heq,getD_both hun] at h1;cases h1
  have h2:=qOp_put hoj (hfree j oj hoj hji hjun hnot) (λcs b=>hsel i oi cs b hi) (λcs b=>hsel j oj cs b hoj) hy h1;refine qOp_mono (λa' h3=>ih (listed.setIfInBounds j true) a' (inv.set hj hjn) (λk ok hk hki hun hno=>hfree k ok hk hki ?_ hno) (ready_mono hr (Ne.symm hji)) h3.1 ?_) h2;by_cases hjk:j=k;subst hjk;exact hjun;rw [getD_set_ne true hjk] at hun;exact hun;rw [Array.setIfInBounds_comm _ _ hji];exact h3.2
theorem Q1x {n g:Nat} {Lq:Act->Prop} (hsel:Region.noSelect ops=true) (hs:Region.sinkB md ops n=true) (hc:Region.chainB md ops n=true) (hn:n<ops.size):
 ∀(l:List Oper) (k:Nat) (listed:Array Bool) (a:Act),(∀j,j<l.length->l[j]?=ops[k+j]?)->k+l.length=n->HeadInv md ops n listed->
 Region.lexHead md ops g l.length k listed=true->wpQuiet P ops C Lq l a->
 Q1y P md ops C n (λlisted' a' =>Region.seqB md ops g n listed' =true/\Lq a') l.length listed a
 |[],k,_,_,_,hk,_,hB,h=>by
  obtain rfl:k=n:=by simpa using hk
  exact ⟨by simpa [Region.lexHead] using hB,h⟩
 |o::l,k,listed,a,hl,hk,inv,hB,h=>by
  have h0:ops[k]?=some o:=by simpa using (hl 0 (by simp)).symm
  simp only [List.length_cons,Region.lexHead,Bool.and_eq_true] at hB hk;obtain ⟨⟨hr,hf⟩,hB'⟩:=hB;have hr' :k∈Region.ready md ops listed:=by simpa using hr
  have hst:qOp P ops C k (wpQuiet P ops C Lq l) a:=by unfold qOp;simp only [h0];exact h
  obtain ⟨v,hy,hK⟩:=yieldsIn_of_qOp h0 hst;exact Q5b h0 (Region.noSelect_spec hsel) hs hc hn (by omega) (λlisted' a' hL=>seqB_ready hL.1) l.length listed a inv (Region.free_spec h0 hf) hr' hy
   (Q1x hsel hs hc hn l (k+1) _ _ (λj hj=>by have:=hl (j+1) (by simp;omega);simpa [Nat.add_assoc,Nat.add_comm 1 j] using this) (by omega) (inv.set hr' (by omega)) hB' hK)
theorem qp {id:Nat} {Q:Exit->Act->World->Prop} {a:Act} {w:World} {l:List Oper} (n:Nat) (hm:P.follows .mixedOrders=true) (hB:Region.lexTailB .any l.toArray n=true) (hC:C w.drew)
 (h:wpQuiet P l.toArray C (λa' =>∀w',C w' ->wpList P l.toArray Q (l.drop n) a' w') (l.take n) a):(Code.region id l.toArray true).wp P Q a w:=by
 simp only [Region.lexTailB,Bool.and_eq_true,decide_eq_true_eq] at hB;obtain ⟨⟨⟨⟨hsel,hn⟩,hs⟩,hc⟩,hlex⟩:=hB;have hn' :n<l.length:=by simpa using hn
 have htl:(l.take n).length=n:=by simp;omega
 have hdl:(l.drop n).length=l.toArray.size-n:=by simp
 have inv0:HeadInv .any l.toArray n (Array.replicate l.toArray.size false):=⟨by simp,λj oj _ hl=>(by rw [getD_replicate_false] at hl;cases hl),λt _ ht=>getD_in (by simpa using ht) (getD_replicate_false _ _)⟩
 have H:=Q1x (md:= .any) (g:=l.toArray.size-n) hsel hs hc hn (l.take n) 0 _ a (λj hj=>by
  have hj' :j<n:=by rw [htl] at hj;exact hj
  simp [hj']) (by simpa using htl) inv0 (by rw [htl];exact hlex) h
 refine wp_region_any hm ?_;have:=Js (Q' :=Q) (g:=l.toArray.size-n) (λlisted a' w' hw' hL=>by
  have:=wpAny_of_seq (md:= .any) (Q' :=Q) (l.drop n) n listed a' w' (λj=>by simp [List.getElem?_drop]) (by rw [hdl];exact hL.1) (hL.2 w' hw')
  rwa [hdl] at this) _ _ _ _ hC H
 rw [htl,show n+(l.toArray.size-n)=l.toArray.size by omega] at this;exact this
end
theorem QY {P:Program} {id:Nat} {Q:Exit->Act->World->Prop} {a:Act} {w:World} {l:List Oper} (n:Nat) (hm:P.follows .mixedOrders=true) (hB:Region.lexTailB .any l.toArray n=true)
 (h:wpQuiet P l.toArray (λw' =>∃k,w' =w.drewN k) (λa' =>∀w',(∃k,w' =w.drewN k)->wpList P l.toArray Q (l.drop n) a' w') (l.take n) a):(Code.region id l.toArray true).wp P Q a w:=
 qp (C:=λw' =>∃k,w' =w.drewN k) n hm hB ⟨1,rfl⟩ h
end Go.Proofs.YtmfeholdlgfpbaaGreatDoor
namespace Go.Proofs.YtmfeholdlgfpbaaGreatDoor
open Go.RowKit Go.Proofs
theorem jP (x y:Nat) (hx:x<4294967296) (hy:y<4294967296):bits .xor .u32 (x:Int) (y:Int)=((x ^^^ y:Nat):Int):=by have h:x ^^^ y<2^32:=Nat.xor_lt_two_pow (by omega) (by omega);have ha' :x%2^IntKind.u32.bits=x:=Nat.mod_eq_of_lt (by simp only [IntKind.bits];omega);have hb' :y%2^IntKind.u32.bits=y:=Nat.mod_eq_of_lt (by simp only [IntKind.bits];omega);simp only [bits,BitVec.ofInt_natCast,BitVec.toNat_xor,BitVec.toNat_ofNat,ha',hb'];exact IntWalk.u32_in _ (by omega)
theorem Q7n (x:Nat) (hx:x<4294967296):bits .and .u32 (x:Int) 1=((x%2:Nat):Int):=by have ha' :x%2^IntKind.u32.bits=x:=Nat.mod_eq_of_lt (by simp only [IntKind.bits];omega);have h1:BitVec.ofInt IntKind.u32.bits 1=BitVec.ofNat IntKind.u32.bits 1:=rfl;have hb' :1%2^IntKind.u32.bits=1:=Nat.mod_eq_of_lt (by simp only [IntKind.bits];omega);simp only [bits,h1,BitVec.ofInt_natCast,BitVec.toNat_and,BitVec.toNat_ofNat,ha',hb',Nat.and_one_is_mod];exact IntWalk.u32_in _ (by omega)
theorem Qfo {r:Nat} (h:r<4294967296):Ax.ZN r<4294967296:=by unfold Ax.ZN;split;exact Nat.xor_lt_two_pow (n:=32) (by omega) (by omega);omega
theorem Q0p {r:Nat} (h:r<4294967296):∀j,Nat.repeat Ax.ZN j r<4294967296
 |0=>h
 |j+1=>Qfo (Q0p h j)
set_option maxRecDepth 100000 in
set_option maxHeartbeats 1000000 in
theorem Qi7 (b:UInt8) (B r:Nat) (w:World) (hr:r<4294967296) (hc:w.cell? ⟨B,0,none⟩=some (.int .u32 r)) (hf:w.frozen? ⟨B,0,none⟩=false):
 Calls Tryz.prog 178 #[.int .u8 b.toNat, .pointer (some ⟨B,0,none⟩)] w λe w' =>e= .returned (.tuple #[])/\w'.cell? ⟨B,0,none⟩=some (.int .u32 (Ax.Zo r b))/\w'.frozen? ⟨B,0,none⟩=false/\Below B w w' :=by
 have hb:=b.toNat_lt;have hx:=jP r b.toNat hr (by omega);have hxl:r ^^^ b.toNat<4294967296:=Nat.xor_lt_two_pow (n:=32) (by omega) (by omega)
 go_enter Tryz.func178,Tryz.ntmps178
 go_wp2
 have hc1:(w.setCell ⟨B,0,none⟩ (.int .u32 ((r ^^^ b.toNat:Nat):Int))).cell? ⟨B,0,none⟩=some (.int .u32 ((r ^^^ b.toNat:Nat):Int)):=World.cell?_setCell_same' _ _ _ (by rw [hc];rfl)
 have hf1:(w.setCell ⟨B,0,none⟩ (.int .u32 ((r ^^^ b.toNat:Nat):Int))).frozen? ⟨B,0,none⟩=false:=by simpa using hf
 have hB1:Below B w (w.setCell ⟨B,0,none⟩ (.int .u32 ((r ^^^ b.toNat:Nat):Int))):=(Below.refl _ _).setCell (p:=⟨B,0,none⟩) (Nat.le_refl _) _
 go_loopw [8] (λi wr=>∃j:Nat,j<=8/\i= .int .i64 j/\wr.cell? ⟨B,0,none⟩=some (.int .u32 ((Nat.repeat Ax.ZN j (r ^^^ b.toNat):Nat):Int))/\wr.frozen? ⟨B,0,none⟩=false/\Below B w wr) (λi _=>8-(intOf i).toNat)
 case atStart=>exact ⟨0,by omega,rfl,hc1,hf1,hB1⟩
 case round=>
  clear hc1 hf1 hB1 hc hf hx;obtain ⟨j,hj,rfl,hcr,hfr,hBr⟩:=hrel;obtain ⟨m,hm⟩:∃m,m=Nat.repeat Ax.ZN j (r ^^^ b.toNat):=⟨_,rfl⟩;have hml:m<4294967296:=by rw [hm];exact Q0p hxl j
  have hstep:Nat.repeat Ax.ZN (j+1) (r ^^^ b.toNat)=Ax.ZN m:=by rw [hm];rfl
  rw [<-hm] at hcr;have HS:=Lib.hid hstep;have HM:=Lib.hid hm;clear hstep hm;by_cases hj8:j<8
  . go_wp2
    . rename_i _ hbit;have hodd:m%2=1:=by rw [Q7n m hml] at hbit;simp only [beq_iff_eq] at hbit;omega
      have hstep:Nat.repeat Ax.ZN (j+1) (r ^^^ b.toNat)=m/2 ^^^ 3988292384:=HS.out.trans (if_pos hodd);have hxx:=jP (m/2) 3988292384 (by omega) (by omega);have hci:wr.cell? ⟨B,0,none⟩=some (.int .u32 m):=hcr;refine ⟨⟨j+1,by omega,by go_num,?_,by simpa using hfr,(hBr.setCell (p:=⟨B,0,none⟩) (Nat.le_refl _) _).setCell (p:=⟨B,0,none⟩) (Nat.le_refl _) _⟩,by simp [intOf];omega⟩;have e2:((m:Int)/2)=((m/2:Nat):Int):=by omega
      rw [World.cell?_setCell_same' _ _ _ (by rw [World.cell?_setCell_same' _ _ _ (by rw [hci];rfl)];rfl),hstep,e2];exact congrArg some (congrArg (Value.int .u32) hxx)
    rename_i _ hbit;have hev:¬m%2=1:=by intro h;rw [Q7n m hml,h] at hbit;simp at hbit
    have hstep:Nat.repeat Ax.ZN (j+1) (r ^^^ b.toNat)=m/2:=HS.out.trans (if_neg hev);refine ⟨⟨j+1,by omega,by go_num,?_,by simpa using hfr,hBr.setCell (p:=⟨B,0,none⟩) (Nat.le_refl _) _⟩,by simp [intOf];omega⟩;have e2:((m:Int)/2)=((m/2:Nat):Int):=by omega
    rw [World.cell?_setCell_same' _ _ _ (by rw [hcr];rfl),hstep,e2]
  have e8:j=8:=by omega
  go_wp2
  refine bodyPost_end (results_none rfl _ _ _) rfl ?_;exact ⟨rfl,by rw [hcr,HM.out,e8];rfl,hfr,hBr⟩
theorem Q06:∀(l:List UInt8) {r:Nat},r<4294967296->l.foldl Ax.Zo r<4294967296
 |[],_,h=>h
 |b::l,r,h=>Q06 l (Q0p (Nat.xor_lt_two_pow (n:=32) (by omega) (by have:=b.toNat_lt;omega)) 8)
theorem Q3c {l:List UInt8} {k:Nat} (h:k<l.length) (r:Nat):(l.take (k+1)).foldl Ax.Zo r=Ax.Zo ((l.take k).foldl Ax.Zo r) l[k]:=by rw [List.take_add_one,List.getElem?_eq_getElem h,List.foldl_append];rfl
set_option maxRecDepth 100000 in
set_option maxHeartbeats 1000000 in
theorem Qfp (s:ByteArray) (w:World) (hs:s.size<=1099511627776):
 Calls Tryz.prog 107 #[.string s] w λe w' =>e= .returned (.int .i64 (Ax.fnZ 0 (Ax.YG s.data.toList 1)))/\Below w.heap.size w w' :=by
 have hmf:∀(fn:Fn) (first cap:Array Value) (w:World),(Instr.makeFunc fn first cap).run Tryz.prog w= .ok (.func fn first cap) w:=λ_ _ _ _=>rfl
 have hlen:s.data.toList.length=s.size:=by rw [Array.length_toList];rfl
 go_enter Tryz.func107,Tryz.ntmps107
 go_wp2
 go_loopw [9] (λi wr=>∃k:Nat,k<=s.size/\i= .int .i64 k/\wr.cell? ⟨w.heap.size,0,none⟩=some (.int .u32 (((s.data.toList.take k).foldl Ax.Zo 4294967295:Nat):Int))/\wr.frozen? ⟨w.heap.size,0,none⟩=false/\Below w.heap.size w wr) (λi _=>s.size-(intOf i).toNat)
 case atStart=>exact ⟨0,Nat.zero_le _,rfl,(World.cell?_alloc_at _ _ _ _ rfl).trans rfl,World.frozen?_alloc_at _ _ _ _ rfl,(Below.refl _ _).alloc (Nat.le_refl _) _⟩
 case round=>
  obtain ⟨k,hk,rfl,hcr,hfr,hBr⟩:=hrel;by_cases hlt:k<s.size
  . go_wp2_with fail
    refine (Qi7 s[k] w.heap.size _ wr (Q06 _ (by omega)) hcr hfr).mono ?_
    rintro e w1 ⟨rfl,hc1,hf1,hB1⟩
    go_wp2
    go_roundw
    case rel=>refine ⟨k+1,by omega,by go_num,?_,hf1,hBr.trans hB1⟩;rw [hc1,Q3c (by rw [hlen];exact hlt)];rfl
    case measure=>simp [intOf];omega
  have hk' :s.data.toList.take k=s.data.toList:=List.take_of_length_le (by rw [hlen];omega);rw [hk'] at hcr;have hl:=Q06 s.data.toList (r:=4294967295) (by omega);have HR:Hid (Ax.Qid s.data.toList=(s.data.toList.foldl Ax.Zo 4294967295) ^^^ 4294967295):=rfl;revert hcr hl HR;generalize s.data.toList.foldl Ax.Zo 4294967295=R;intro hcr hl HR
  go_wp2
  go_ret
  refine ⟨?_,hBr⟩;have hx:=jP 4294967295 _ (by omega) hl;have hm:IntKind.u32.max=((4294967295:Nat):Int):=rfl;have hxl:R ^^^ 4294967295<4294967296:=Nat.xor_lt_two_pow (n:=32) (by omega) (by omega);rw [Nat.xor_comm] at hx;rw [hm,hx];have e:Ax.fnZ 0 (Ax.YG s.data.toList 1)=((Ax.Qid (Ax.Q86 (Ax.YG s.data.toList 1).toNat (Ax.YG s.data.toList 1).toNat)%4294967296:Nat):Int):=rfl;rw [e,Ax.YH,HR.out,Nat.mod_eq_of_lt hxl];exact congrArg (λz=>Ending.returned (.int .i64 z)) (IntWalk.wrap64_in ((R ^^^ 4294967295:Nat):Int) (by omega))
end Go.Proofs.YtmfeholdlgfpbaaGreatDoor
namespace Go.Proofs.YtmfeholdlgfpbaaGreatDoor
open Go.RowKit Go.Proofs
set_option maxRecDepth 100000 in
set_option maxHeartbeats 1000000 in
theorem Qkb (z:Int) (k:Nat) (w:World) (hk:1<=k) (hk4:k<=4) (hz:z<0\/256^k<=z):
 Calls Tryz.prog 207 #[.int .i64 z, .int .i64 k] w λe w' =>e= .returned (.tuple #[.string ⟨#[]⟩, .int .i64 ((10:Nat):Int)])/\Below w.heap.size w w' :=by
 by_cases h0:z<0
 . go_enter Tryz.func207,Tryz.ntmps207
   go_wp2
   go_ret2
   exact ⟨rfl,Below.refl _ _⟩
 have hs:(z/2^(8*k) != 0)=true:=by rw [bne_iff_ne];rcases (show k=1\/k=2\/k=3\/k=4 by omega) with rfl|rfl|rfl|rfl<;>simp at hz ⊢<;>omega
 go_enter Tryz.func207,Tryz.ntmps207
 go_wp2
 go_ret2
 exact ⟨rfl,Below.refl _ _⟩
theorem info5:(Tryz.prog.info? 5).map (·.size)=some 1:=by kernel_rfl
theorem Qbd (z:Int):Ax.Z5 z 1=[UInt8.ofNat (z%256).toNat]:=by simp only [Ax.Z5,Ax.Q7m,Ax.Q0b,List.cons.injEq,and_true];simp [Int.fdiv_eq_ediv_of_nonneg]
theorem Qbc (z:Int):Ax.Z5 z 2=[UInt8.ofNat (z/256%256).toNat,UInt8.ofNat (z%256).toNat]:=by simp only [Ax.Z5,Ax.Q7m,Ax.Q0b,List.cons.injEq,and_true];simp [Int.fdiv_eq_ediv_of_nonneg]
theorem Qbb (z:Int):Ax.Z5 z 3=[UInt8.ofNat (z/65536%256).toNat,UInt8.ofNat (z/256%256).toNat,UInt8.ofNat (z%256).toNat]:=by simp only [Ax.Z5,Ax.Q7m,Ax.Q0b,List.cons.injEq,and_true];simp [Int.fdiv_eq_ediv_of_nonneg]
theorem Qba (z:Int):Ax.Z5 z 4=[UInt8.ofNat (z/16777216%256).toNat,UInt8.ofNat (z/65536%256).toNat,UInt8.ofNat (z/256%256).toNat,UInt8.ofNat (z%256).toNat]:=by simp only [Ax.Z5,Ax.Q7m,Ax.Q0b,List.cons.injEq,and_true];simp [Int.fdiv_eq_ediv_of_nonneg]
theorem Qo0 (w:World) (b0 b1 b2 b3:Int):
 (Builtin.copy_ #[116,116] 3 #[.slice (some ⟨w.heap.size+1,0,none⟩) 1 1, .slice (some ⟨w.heap.size,3,none⟩) 1 1]).run Tryz.prog ((w.alloc (.cells #[.int .u8 b0, .int .u8 b1, .int .u8 b2, .int .u8 b3] 470)).alloc (.cells #[.int .u8 0] 5))=
  .ok (.int .i64 1) ((w.alloc (.cells #[.int .u8 b0, .int .u8 b1, .int .u8 b2, .int .u8 b3] 470)).alloc (.cells #[.int .u8 b3] 5)):=by
 have h:=run_copy_cells (P:=Tryz.prog) ((w.alloc (.cells #[.int .u8 b0, .int .u8 b1, .int .u8 b2, .int .u8 b3] 470)).alloc (.cells #[.int .u8 0] 5)) 116 116 3 5 (w.heap.size+1) 0 1 1 ⟨w.heap.size,3,none⟩ 1 1 [.int .u8 b3] Tryz.underlying116 info5 rfl
  (λj v hj=>by
   match j with
   |0=>simp at hj;subst hj;simp [Addr.add]
   |j+1=>simp at hj)
  (λj hj=>by
   have hj' :j<1:=hj;match j,hj' with
   |0,_=>simp)
  (λj hj=>by simp)
  (λv hv=>by simp only [List.mem_cons,List.not_mem_nil,or_false] at hv;rcases hv with rfl<;>rfl)
 rw [h];simp [World.setCells,go_sem,goInt]
theorem Qo8 (w:World) (o:Obj) (b3:Int):(convert 116 9 (.slice (some ⟨w.heap.size+1,0,none⟩) 1 1)).run Tryz.prog ((w.alloc o).alloc (.cells #[.int .u8 b3] 5))=
 .ok (.string ⟨#[UInt8.ofNat b3.toNat]⟩) ((w.alloc o).alloc (.cells #[.int .u8 b3] 5)):=
 run_convert_bytes_arg _ 116 5 Tryz.underlying116 Tryz.underlying5 _ 0 1 1 [b3] rfl (by
  intro i hi;match i,hi with
  |0,_=>simp) 9 Tryz.underlying9
set_option maxHeartbeats 1000000 in
set_option maxRecDepth 100000 in
theorem putP1 (z:Int) (w:World) (h0:0<=z) (h1:z<256):
 Calls Tryz.prog 207 #[.int .i64 z, .int .i64 1] w λe w' =>e= .returned (.tuple #[.string ⟨(Ax.Z5 z 1).toArray⟩, .int .i64 0])/\Below w.heap.size w w' :=by
 have hd:decide (z<0)=false:=by simp;omega
 have hz:(z/256 != 0)=false:=by rw [bne_eq_false_iff_eq];omega
 have hmk:∀w:World,(Instr.makeSlice 116 (.int .i64 1) (.int .i64 1)).run Tryz.prog w= .ok (.slice (some ⟨w.heap.size,0,none⟩) 1 1) (w.alloc (.cells #[.int .u8 0] 5)):=λ_=>by kernel_rfl
 have hcp:=Qo0;have hcv:=Qo8;have hB:=Lib.hid (Qbd z);clear h1
 go_enter Tryz.func207,Tryz.ntmps207
 go_wp2_with fail
 go_ret2
 refine ⟨?_,((Below.refl _ _).alloc (Nat.le_refl _) _).alloc (by simp) _⟩;rw [hB.out];rfl
theorem Qnz (w:World) (b0 b1 b2 b3:Int):
 (Builtin.copy_ #[116,116] 3 #[.slice (some ⟨w.heap.size+1,0,none⟩) 2 2, .slice (some ⟨w.heap.size,2,none⟩) 2 2]).run Tryz.prog ((w.alloc (.cells #[.int .u8 b0, .int .u8 b1, .int .u8 b2, .int .u8 b3] 470)).alloc (.cells #[.int .u8 0, .int .u8 0] 5))=
  .ok (.int .i64 2) ((w.alloc (.cells #[.int .u8 b0, .int .u8 b1, .int .u8 b2, .int .u8 b3] 470)).alloc (.cells #[.int .u8 b2, .int .u8 b3] 5)):=by
 have h:=run_copy_cells (P:=Tryz.prog) ((w.alloc (.cells #[.int .u8 b0, .int .u8 b1, .int .u8 b2, .int .u8 b3] 470)).alloc (.cells #[.int .u8 0, .int .u8 0] 5)) 116 116 3 5 (w.heap.size+1) 0 2 2 ⟨w.heap.size,2,none⟩ 2 2 [.int .u8 b2, .int .u8 b3] Tryz.underlying116 info5 rfl
  (λj v hj=>by
   match j with
   |0=>simp at hj;subst hj;simp [Addr.add]
   |1=>simp at hj;subst hj;simp [Addr.add]
   |j+2=>simp at hj)
  (λj hj=>by
   have hj' :j<2:=hj;match j,hj' with
   |0,_=>simp
   |1,_=>simp)
  (λj hj=>by simp)
  (λv hv=>by simp only [List.mem_cons,List.not_mem_nil,or_false] at hv;rcases hv with rfl|rfl<;>rfl)
 rw [h];simp [World.setCells,go_sem,goInt]
theorem Qo7 (w:World) (o:Obj) (b2 b3:Int):(convert 116 9 (.slice (some ⟨w.heap.size+1,0,none⟩) 2 2)).run Tryz.prog ((w.alloc o).alloc (.cells #[.int .u8 b2, .int .u8 b3] 5))=
 .ok (.string ⟨#[UInt8.ofNat b2.toNat,UInt8.ofNat b3.toNat]⟩) ((w.alloc o).alloc (.cells #[.int .u8 b2, .int .u8 b3] 5)):=
 run_convert_bytes_arg _ 116 5 Tryz.underlying116 Tryz.underlying5 _ 0 2 2 [b2,b3] rfl (by
  intro i hi;match i,hi with
  |0,_=>simp
  |1,_=>simp) 9 Tryz.underlying9
set_option maxHeartbeats 1000000 in
set_option maxRecDepth 100000 in
theorem putP2 (z:Int) (w:World) (h0:0<=z) (h1:z<65536):
 Calls Tryz.prog 207 #[.int .i64 z, .int .i64 2] w λe w' =>e= .returned (.tuple #[.string ⟨(Ax.Z5 z 2).toArray⟩, .int .i64 0])/\Below w.heap.size w w' :=by
 have hd:decide (z<0)=false:=by simp;omega
 have hz:(z/65536 != 0)=false:=by rw [bne_eq_false_iff_eq];omega
 have hmk:∀w:World,(Instr.makeSlice 116 (.int .i64 2) (.int .i64 2)).run Tryz.prog w= .ok (.slice (some ⟨w.heap.size,0,none⟩) 2 2) (w.alloc (.cells #[.int .u8 0, .int .u8 0] 5)):=λ_=>by kernel_rfl
 have hcp:=Qnz;have hcv:=Qo7;have hB:=Lib.hid (Qbc z);clear h1
 go_enter Tryz.func207,Tryz.ntmps207
 go_wp2_with fail
 go_ret2
 refine ⟨?_,((Below.refl _ _).alloc (Nat.le_refl _) _).alloc (by simp) _⟩;rw [hB.out];rfl
theorem Qny (w:World) (b0 b1 b2 b3:Int):
 (Builtin.copy_ #[116,116] 3 #[.slice (some ⟨w.heap.size+1,0,none⟩) 3 3, .slice (some ⟨w.heap.size,1,none⟩) 3 3]).run Tryz.prog ((w.alloc (.cells #[.int .u8 b0, .int .u8 b1, .int .u8 b2, .int .u8 b3] 470)).alloc (.cells #[.int .u8 0, .int .u8 0, .int .u8 0] 5))=
  .ok (.int .i64 3) ((w.alloc (.cells #[.int .u8 b0, .int .u8 b1, .int .u8 b2, .int .u8 b3] 470)).alloc (.cells #[.int .u8 b1, .int .u8 b2, .int .u8 b3] 5)):=by
 have h:=run_copy_cells (P:=Tryz.prog) ((w.alloc (.cells #[.int .u8 b0, .int .u8 b1, .int .u8 b2, .int .u8 b3] 470)).alloc (.cells #[.int .u8 0, .int .u8 0, .int .u8 0] 5)) 116 116 3 5 (w.heap.size+1) 0 3 3 ⟨w.heap.size,1,none⟩ 3 3 [.int .u8 b1, .int .u8 b2, .int .u8 b3] Tryz.underlying116 info5 rfl
  (λj v hj=>by
   match j with
   |0=>simp at hj;subst hj;simp [Addr.add]
   |1=>simp at hj;subst hj;simp [Addr.add]
   |2=>simp at hj;subst hj;simp [Addr.add]
   |j+3=>simp at hj)
  (λj hj=>by
   have hj' :j<3:=hj;match j,hj' with
   |0,_=>simp
   |1,_=>simp
   |2,_=>simp)
  (λj hj=>by simp)
  (λv hv=>by simp only [List.mem_cons,List.not_mem_nil,or_false] at hv;rcases hv with rfl|rfl|rfl<;>rfl)
 rw [h];simp [World.setCells,go_sem,goInt]
theorem Qo6 (w:World) (o:Obj) (b1 b2 b3:Int):(convert 116 9 (.slice (some ⟨w.heap.size+1,0,none⟩) 3 3)).run Tryz.prog ((w.alloc o).alloc (.cells #[.int .u8 b1, .int .u8 b2, .int .u8 b3] 5))=
 .ok (.string ⟨#[UInt8.ofNat b1.toNat,UInt8.ofNat b2.toNat,UInt8.ofNat b3.toNat]⟩) ((w.alloc o).alloc (.cells #[.int .u8 b1, .int .u8 b2, .int .u8 b3] 5)):=
 run_convert_bytes_arg _ 116 5 Tryz.underlying116 Tryz.underlying5 _ 0 3 3 [b1,b2,b3] rfl (by
  intro i hi;match i,hi with
  |0,_=>simp
  |1,_=>simp
  |2,_=>simp) 9 Tryz.underlying9
set_option maxHeartbeats 1000000 in
set_option maxRecDepth 100000 in
theorem putP3 (z:Int) (w:World) (h0:0<=z) (h1:z<16777216):
 Calls Tryz.prog 207 #[.int .i64 z, .int .i64 3] w λe w' =>e= .returned (.tuple #[.string ⟨(Ax.Z5 z 3).toArray⟩, .int .i64 0])/\Below w.heap.size w w' :=by
 have hd:decide (z<0)=false:=by simp;omega
 have hz:(z/16777216 != 0)=false:=by rw [bne_eq_false_iff_eq];omega
 have hmk:∀w:World,(Instr.makeSlice 116 (.int .i64 3) (.int .i64 3)).run Tryz.prog w= .ok (.slice (some ⟨w.heap.size,0,none⟩) 3 3) (w.alloc (.cells #[.int .u8 0, .int .u8 0, .int .u8 0] 5)):=λ_=>by kernel_rfl
 have hcp:=Qny;have hcv:=Qo6;have hB:=Lib.hid (Qbb z);clear h1
 go_enter Tryz.func207,Tryz.ntmps207
 go_wp2_with fail
 go_ret2
 refine ⟨?_,((Below.refl _ _).alloc (Nat.le_refl _) _).alloc (by simp) _⟩;rw [hB.out];rfl
theorem Qnx (w:World) (b0 b1 b2 b3:Int):
 (Builtin.copy_ #[116,116] 3 #[.slice (some ⟨w.heap.size+1,0,none⟩) 4 4, .slice (some ⟨w.heap.size,0,none⟩) 4 4]).run Tryz.prog ((w.alloc (.cells #[.int .u8 b0, .int .u8 b1, .int .u8 b2, .int .u8 b3] 470)).alloc (.cells #[.int .u8 0, .int .u8 0, .int .u8 0, .int .u8 0] 5))=
  .ok (.int .i64 4) ((w.alloc (.cells #[.int .u8 b0, .int .u8 b1, .int .u8 b2, .int .u8 b3] 470)).alloc (.cells #[.int .u8 b0, .int .u8 b1, .int .u8 b2, .int .u8 b3] 5)):=by
 have h:=run_copy_cells (P:=Tryz.prog) ((w.alloc (.cells #[.int .u8 b0, .int .u8 b1, .int .u8 b2, .int .u8 b3] 470)).alloc (.cells #[.int .u8 0, .int .u8 0, .int .u8 0, .int .u8 0] 5)) 116 116 3 5 (w.heap.size+1) 0 4 4 ⟨w.heap.size,0,none⟩ 4 4 [.int .u8 b0, .int .u8 b1, .int .u8 b2, .int .u8 b3] Tryz.underlying116 info5 rfl
  (λj v hj=>by
   match j with
   |0=>simp at hj;subst hj;simp [Addr.add]
   |1=>simp at hj;subst hj;simp [Addr.add]
   |2=>simp at hj;subst hj;simp [Addr.add]
   |3=>simp at hj;subst hj;simp [Addr.add]
   |j+4=>simp at hj)
  (λj hj=>by
   have hj' :j<4:=hj;match j,hj' with
   |0,_=>simp
   |1,_=>simp
   |2,_=>simp
   |3,_=>simp)
  (λj hj=>by simp)
  (λv hv=>by simp only [List.mem_cons,List.not_mem_nil,or_false] at hv;rcases hv with rfl|rfl|rfl|rfl<;>rfl)
 rw [h];simp [World.setCells,go_sem,goInt]
theorem Qo5 (w:World) (o:Obj) (b0 b1 b2 b3:Int):(convert 116 9 (.slice (some ⟨w.heap.size+1,0,none⟩) 4 4)).run Tryz.prog ((w.alloc o).alloc (.cells #[.int .u8 b0, .int .u8 b1, .int .u8 b2, .int .u8 b3] 5))=
 .ok (.string ⟨#[UInt8.ofNat b0.toNat,UInt8.ofNat b1.toNat,UInt8.ofNat b2.toNat,UInt8.ofNat b3.toNat]⟩) ((w.alloc o).alloc (.cells #[.int .u8 b0, .int .u8 b1, .int .u8 b2, .int .u8 b3] 5)):=
 run_convert_bytes_arg _ 116 5 Tryz.underlying116 Tryz.underlying5 _ 0 4 4 [b0,b1,b2,b3] rfl (by
  intro i hi;match i,hi with
  |0,_=>simp
  |1,_=>simp
  |2,_=>simp
  |3,_=>simp) 9 Tryz.underlying9
set_option maxHeartbeats 1000000 in
set_option maxRecDepth 100000 in
theorem putP4 (z:Int) (w:World) (h0:0<=z) (h1:z<4294967296):
 Calls Tryz.prog 207 #[.int .i64 z, .int .i64 4] w λe w' =>e= .returned (.tuple #[.string ⟨(Ax.Z5 z 4).toArray⟩, .int .i64 0])/\Below w.heap.size w w' :=by
 have hd:decide (z<0)=false:=by simp;omega
 have hz:(z/4294967296 != 0)=false:=by rw [bne_eq_false_iff_eq];omega
 have hmk:∀w:World,(Instr.makeSlice 116 (.int .i64 4) (.int .i64 4)).run Tryz.prog w= .ok (.slice (some ⟨w.heap.size,0,none⟩) 4 4) (w.alloc (.cells #[.int .u8 0, .int .u8 0, .int .u8 0, .int .u8 0] 5)):=λ_=>by kernel_rfl
 have hcp:=Qnx;have hcv:=Qo5;have hB:=Lib.hid (Qba z);clear h1
 go_enter Tryz.func207,Tryz.ntmps207
 go_wp2_with fail
 go_ret2
 refine ⟨?_,((Below.refl _ _).alloc (Nat.le_refl _) _).alloc (by simp) _⟩;rw [hB.out];rfl
theorem Qkc (z:Int) (k:Nat) (w:World) (hk:1<=k) (hk4:k<=4) (h0:0<=z) (hz:z<256^k):
 Calls Tryz.prog 207 #[.int .i64 z, .int .i64 k] w λe w' =>e= .returned (.tuple #[.string ⟨(Ax.Z5 z k).toArray⟩, .int .i64 0])/\Below w.heap.size w w' :=by
 rcases (show k=1\/k=2\/k=3\/k=4 by omega) with rfl|rfl|rfl|rfl;exact putP1 z w h0 (by omega);exact putP2 z w h0 (by omega);exact putP3 z w h0 (by omega);exact putP4 z w h0 (by omega)
end Go.Proofs.YtmfeholdlgfpbaaGreatDoor
