/-
 slices.Sorted(maps.Keys(m)) at the two map types of the program: the keys, sorted, in new memory. Conditions: none.
-/
import Derived.Test.YtmfeholdlgfpbaaGreatDoorELz
import Derived.Test.YtmfeholdlgfpbaaGreatDoorEAxG
import Derived.Test.YtmfeholdlgfpbaaGreatDoorESC
import Derived.Test.YtmfeholdlgfpbaaGreatDoorEAxE
import Derived.Test.YtmfeholdlgfpbaaGreatDoorEAxF
import Derived.Test.YtmfeholdlgfpbaaGreatDoorETabsOK
import Derived.Test.YtmfeholdlgfpbaaGreatDoorEWA
import Derived.Test.YtmfeholdlgfpbaaGreatDoorEWB
import Derived.Test.YtmfeholdlgfpbaaGreatDoorEEx
import Derived.Test.YtmfeholdlgfpbaaGreatDoorProg
import Derived.WalkKit
import Derived.LaidEql
import Derived.Stop.Asserts
import Derived.RowKitTokens
import Derived.WalkSpells
import Derived.WalkMore
import Derived.WalkLawsBesides
import Derived.Deep.QuietTactic
import Derived.BigQuiet
import Derived.Lib.Hide
import Derived.Laws.BitsLemmas
namespace Go.Proofs.YtmfeholdlgfpbaaGreatDoor
open Go Go.RowKit Go.Maps Go.Sort Go.Shelf Go.Proofs
theorem Qmm (m:Nat):AnyZI.SortsIn Tryz.prog Tryz.Q0j Fence.wide m:=
 ⟨λblk off cap ss W hH hblk hsz=>callsIn_wide.2 (AnyM.slices_Sort_int Tryz.Qmn blk off cap ss W hH hblk hsz),
  λp cap W=>callsIn_wide.2 (AnyM.slices_Sort_int_none Tryz.Qmn p cap W)⟩
abbrev valR:Value->Option (DataW Unit×List MemPlace):=λ_=>some (.nil,[])
theorem Qmv {x:MapEntry} {z:Int} (h:x.key= .int .i64 z) (h1:-9223372036854775808<=z) (h2:z<=9223372036854775807):WideElems.rd Tryz.prog 3 valR x=some (.int .i64 z, .nil):=by
 have hk:keyOf Tryz.prog 3 x.key=some (.int .i64 z):=by rw [h];exact keyOf_int_mk Tryz.underlying3 (by simp [Lit.wf,IntKind.min,IntKind.max,IntKind.signed,IntKind.bits];omega)
 simp only [WideElems.rd,hk,Option.bind_some,Option.map_some]
theorem Qek {w:World} {b clock:Nat} {es:Array MapEntry} {ks:List Int} (hb:w.heap[b]?=some (.map es clock)) (hs:es.size<=1000000) (hst:MapKept.Stamped es clock) (hk:es.toList.map (·.key)=ks.map (Value.int .i64)) (hw:∀z∈ks,-9223372036854775808<=z/\z<=9223372036854775807):
 ∃D0:DataW Unit,w.ownsMap Tryz.prog 3 valR b es.size D0/\(intKeys D0).Perm ks/\Maps.size D0=es.size:=by
 have hall:∀{l:List MapEntry} {ks:List Int},l.map (·.key)=ks.map (Value.int .i64)->(∀z∈ks,-9223372036854775808<=z/\z<=9223372036854775807)->l.map (WideElems.rg Tryz.prog 3 valR)=ks.map (λz=>(Lit.int .i64 z,DataW.nil))/\∀x∈l,∃y,WideElems.rd Tryz.prog 3 valR x=some y:=by
  intro l;induction l with
  |nil=>intro ks h _;cases ks with
   |nil=>exact ⟨rfl,λx hx=>(by cases hx)⟩
   |cons z ks=>simp at h
  |cons x l ih=>
   intro ks h hw;cases ks with
   |nil=>simp at h
   |cons z ks=>
    simp only [List.map_cons,List.cons.injEq] at h;obtain ⟨i1,i2⟩:=ih h.2 λy hy=>hw y (by simp [hy])
    have hz:=hw z (by simp);have hr:=Qmv h.1 hz.1 hz.2;refine ⟨by simp only [List.map_cons,WideElems.rg,hr,Option.getD_some];rw [<-i1],λy hy=>?_⟩;rcases List.mem_cons.1 hy with rfl|hy;exact ⟨_,hr⟩;exact i2 y hy
 obtain ⟨a1,a2⟩:=hall hk hw;refine ⟨_,⟨es,clock,hb,⟨by unfold maxLen;omega,hst,a2⟩,Nat.le_refl _,rfl⟩,?_,?_⟩;simp only [intKeys];rw [a1];have hp:=(WideShapes.sorted_perm (H:=Unit) (ks.map (λz=>(Lit.int .i64 z,DataW.nil)))).map (λp=>Go.intOf p.1)
 refine hp.trans ?_;rw [List.map_map];have:((λp:Lit×DataW Unit=>Go.intOf p.1)∘λz=>(Lit.int .i64 z,DataW.nil))=id:=by funext z;rfl
 rw [this,List.map_id];simp only [Maps.size];rw [(WideShapes.sorted_perm _).length_eq];simp
theorem zB {g Bm:Nat} {w:World} {n:Nat} {S:List Int->Prop} (hn:n<=1000000) (eg:∀args w,(callFunc g args).run Tryz.prog w= .ok (.enter g args) w) (hseq:SeqGives Fence.wide 2 Tryz.prog g #[.pointer (some ⟨Bm,0,none⟩)] encZ S n w):
 Calls Tryz.prog 205 #[.func (.func g) #[] #[.pointer (some ⟨Bm,0,none⟩)]] w λe w' =>∃(v:Value) (ss:List Int),e= .returned v/\S ss/\w'.ownsRow w.heap.size 3 1 v ss.length ((ss.mergeSort (λx y=>decide (x<=y))).map (Value.int .i64))/\(v= .slice none 0 0↔ss=[])/\Below w.heap.size w w' :=
 (callsIn_wide (n:=5)).1 (AnyZI.sorted_in Tryz.Qjx Fence.wide 5 trivial trivial trivial trivial rfl (by omega) (Qmm _) Tryz.call301 g #[.pointer (some ⟨Bm,0,none⟩)] trivial eg S n (by unfold maxLen;omega) (by omega) w hseq)
def Qng:List Nat:=[302,322]
theorem Q48 (G:Ax.Env) (n0:Nat):Ax.ZL Tryz.prog G n0 205 (Ax.zC 3 Qng):=by
 refine Ax.Q63 (λg b Bm clock es ks w hg hBm hm hb hs hst hk hw=>?_) (λg Bm w hg hBm hm=>?_);obtain ⟨D0,h1,h2,h3⟩:=Qek hb hs hst hk hw;have hs' :Maps.size D0<=1000000:=by rw [h3];exact hs
 rcases List.mem_cons.1 hg with rfl|hg;refine (zB hs' Tryz.call302 (AnyZI.keys_gives (ρ:=Tryz.Q19) { Tryz.Qnf with} Fence.wide 2 trivial rfl (by omega) Bm b _ D0 w hBm hm h1)).mono ?_
 rintro e w' ⟨v,ss,a1,a2,a3⟩
 exact ⟨v,ss,a1,a2.trans h2,a3⟩;rcases List.mem_cons.1 hg with rfl|hg;refine (zB hs' Tryz.call322 (AnyZI.keys_gives (ρ:=Tryz.Q18) { Tryz.Qne with} Fence.wide 2 trivial rfl (by omega) Bm b _ D0 w hBm hm h1)).mono ?_
 rintro e w' ⟨v,ss,a1,a2,a3⟩
 exact ⟨v,ss,a1,a2.trans h2,a3⟩;cases hg;rcases List.mem_cons.1 hg with rfl|hg;refine (zB (n:=0) (by omega) Tryz.call302 (AnyZI.keys_gives_nil (ρ:=Tryz.Q19) { Tryz.Qnf with} Fence.wide 2 trivial rfl Bm w hBm hm)).mono ?_
 rintro e w' ⟨v,ss,a1,a2,a3,a4,a5⟩
 obtain rfl:=a4.2 a2;exact ⟨a1,a5⟩;rcases List.mem_cons.1 hg with rfl|hg;refine (zB (n:=0) (by omega) Tryz.call322 (AnyZI.keys_gives_nil (ρ:=Tryz.Q18) { Tryz.Qne with} Fence.wide 2 trivial rfl Bm w hBm hm)).mono ?_
 rintro e w' ⟨v,ss,a1,a2,a3,a4,a5⟩
 obtain rfl:=a4.2 a2;exact ⟨a1,a5⟩;cases hg
end Go.Proofs.YtmfeholdlgfpbaaGreatDoor
namespace Go.Proofs.YtmfeholdlgfpbaaGreatDoor
open Go Go.Ax Go.RowKit Go.Proofs
theorem Qcn:liesAt Tryz.prog Tryz.prog.depth 507 (3/Tryz.prog.cellsOf 507) 0 358 1=true:=by kernel_rfl
set_option maxHeartbeats 1000000 in
set_option maxRecDepth 100000 in
theorem zZ (b:Nat) (w:World) (h0:w.cell? ⟨b,0,none⟩=some (.pointer none)) (hsh:w.shape? b=some (507,3)) (hfz:w.frozen? ⟨b,0,none⟩=false):
 Calls Tryz.prog 303 #[.pointer (some ⟨b,0,none⟩)] w λe w' =>e= .returned (.tuple #[])/\w' =w.setCell ⟨b,0,none⟩ (.pointer (some ⟨b,0,none⟩)):=by
 obtain ⟨j,hj,hjs⟩:=Option.map_eq_some_iff.1 sizeBuilder
 go_enter Go.Proofs.Tryz.func303,Go.Proofs.Tryz.ntmps303
 go_wp2
 rw [Lib.run_to_unsafe w ⟨b,0,none⟩ Tryz.underlying356 Tryz.underlying434 hj (by rw [hjs];decide) hsh (Nat.zero_lt_succ 2)];simp only [Result.andThen];rw [Oper.upon_value]
 go_wp2
 rw [run_callFunc_extern Tryz.func418 (by kernel_rfl) (by kernel_rfl) (by kernel_rfl) (e:=Extern.AbiNoEscape.same) (by kernel_rfl)];rw [Lib.run_noEscape];simp only [Result.andThen];rw [Oper.upon_value]
 go_wp2
 rw [Lib.run_from_unsafe w ⟨b,0,none⟩ Tryz.underlying434 Tryz.underlying356 hj hsh Qcn];simp only [Result.andThen];rw [Oper.upon_value]
 go_wp2
 go_end0
 exact ⟨rfl,rfl⟩
abbrev builders:List (Nat×Nat):=[(358,2),(507,3)]
theorem Q4z (G:Env) (n0:Nat):ZL Tryz.prog G n0 303 (Q08 builders):=Q9e (λq hq b w h0 hs hf=>by rcases List.mem_cons.1 hq with rfl|hq;exact Q1s b w h0 hs hf;rcases List.mem_cons.1 hq with rfl|hq;exact zZ b w h0 hs hf;cases hq) Q2j
end Go.Proofs.YtmfeholdlgfpbaaGreatDoor
namespace Go.Proofs.YtmfeholdlgfpbaaGreatDoor
open Go Go.Ax Go.RowKit Go.Proofs
noncomputable def errs:Q88:=⟨9,5,752,215,[(0,9),(2,10),(3,11),(4,12),(5,13)],
 [(6,698, .nums .i64 [0,1,1,0,2,2,1,3,3,1,2,2,1,5,0,2,4,3,2,5,4,2,6,6,3,5,4,3,6,6,4,7,5,4,6,7,5,6,9,6,5,8,7,7,9,8,7,0]),(1,327, .typ 460 8 215)]⟩
theorem Ql7:errs.ng=tab.ng:=rfl
theorem Qi8:0<errs.ng:=by show 0<9;decide
theorem errs_in:errs.inB=true:=by kernel_rfl
def sl:List Nat->Code->Code
 |[],c=>c
 |i::p, .seq a b=>bif Nat.beq i 0 then sl p a else sl p b
 |i::p, .cond _ a b=>bif Nat.beq i 0 then sl p a else sl p b
 |_::p, .block _ b=>sl p b
 |_::p, .loop b=>sl p b
 |_::p, .scope b=>sl p b
 |i::p, .rangeFunc _ _ a b=>bif Nat.beq i 0 then sl p a else sl p b
 |_,c=>c
def sk (n:Nat) (p:List Nat) (c:Code):Code:=sl (List.replicate n 1++p) c
def opsOf:Code->List Oper
 | .region _ ops _=>ops.toList
 |_=>[]
noncomputable def rg (c:Code) (k:Nat):jk:= .reg (opsOf c) k ((opsOf c).drop k)
abbrev eL (n:Nat):E:= .lit (.ofNat n)
abbrev iL (n:Nat):AV:= .int .i64 (.lit (.ofNat n))
abbrev iV (n:Nat):AV:= .int .i64 (.var n)
abbrev yy:AV:= .any
abbrev tt:AV:= .top
def aL (l:List Nat):List AV:=l.map iL
end Go.Proofs.YtmfeholdlgfpbaaGreatDoor
namespace Go.Proofs.YtmfeholdlgfpbaaGreatDoor
open Go Go.Ax Go.RowKit Go.Proofs
noncomputable def Qmd:List (Nat×Sum):=[(9,Q8p),(303,Q08 builders),(311,Qa8),
 (207,Qed 10),(177,Q1g 10),(263,Qay 1),(107,Qay 0),(205,zC 3 Qng),(387,Q1k)]
theorem Qgu:Qgh Tryz.prog tab Qmd:=
 .cons (λ_ _ _=>Qce λz n w h0 h1 h2 h3=>Qcf z n w h0 h1 h2 h3) Tryz.call9<|
 .cons (λG n0 _=>Q4z G n0) Tryz.call303<|
 .cons (λG n0 _=>Q8m G n0) Tryz.call311<|
 .cons (λ_ _ _=>Qec (λz k w a b c d=>Qkc z k w a b c d) (λz k w a b c=>Qkb z k w a b c)) Tryz.call207<|
 .cons (λ_ _ _=>Q3a (λs i k w a b c d=>Ql0 s i k w a b c d) (λs i k w a b c d e=>Qkz s i k w a b c d e)) Tryz.call177<|
 .cons (λ_ _ _=>Q72 λs w h=>Q7f s w h) Tryz.call263<|
 .cons (λ_ _ _=>Q72 λs w h=>Qfp s w h) Tryz.call107<|
 .cons (λG n0 _=>Q48 G n0) Tryz.call205<|
 .cons (λ_ _ _=>Q73 λF o mb now es clock w a b c d e f=>Qcu F o mb now es clock w a b c d e f) Tryz.call387 .nil
noncomputable def GB:Env:=⟨tab,ifs,Qgt Qmd⟩
end Go.Proofs.YtmfeholdlgfpbaaGreatDoor
namespace Go.Proofs.YtmfeholdlgfpbaaGreatDoor
open Go Go.Ax Go.RowKit Go.Proofs
theorem Qh3:Qfg GB errs 4 [] (.lit true) 1000 200 17 3 []=true:=by kernel_rfl
theorem Qmq:Qlq Tryz.prog errs 4 [] (.lit true):=Q0e (G:=GB) Qqs Qr1 (Qgs Qgu) Ql7 Qi8 Qh3
end Go.Proofs.YtmfeholdlgfpbaaGreatDoor
namespace Go.Proofs.YtmfeholdlgfpbaaGreatDoor
open Go.RowKit Go.Extern.Stop Go.Stop Go.Extern Go.Proofs
theorem Qi3 (v:Value) (w:World):(Extern.ReflectliteType.typeOf #[.iface 752 v]).run Tryz.prog w= .ok (.iface 460 (.agg #[.pointer (some ⟨8,752,none⟩)])) w:=by kernel_rfl
theorem Qcq (w:World):(callFunc 684 #[.agg #[.pointer (some ⟨8,752,none⟩)]]).run Tryz.prog w= .ok (.value (.bool true)) w:=by have h32:=@run_callFunc_extern Tryz.prog 684 _ (Extern.ReflectliteType.method λt=>do Extern.Rtype.noPackHeld "Comparable" t;pure (.bool (<-typeInfo t).comparable)) Tryz.func684 (by kernel_rfl) (by kernel_rfl) (by kernel_rfl) (by kernel_rfl);exact (h32 _ w).trans (by kernel_rfl)
theorem zV (v:Value) (w:World):(Go.method 882 460 v "Comparable").run Tryz.prog w= .ok (684,v) w:=by kernel_rfl
theorem Qnl:(Tryz.prog.info? 752).map (·.comparable)=some true:=by kernel_rfl
theorem Qnk:(Tryz.prog.info? 770).map (·.size)=some 1:=by kernel_rfl
set_option maxRecDepth 100000 in
set_option maxHeartbeats 1000000 in
theorem Qku (a:Addr) (w:World):
 Calls Tryz.prog 102 #[.iface 752 (.pointer (some a)), .iface 752 (.pointer (some a))] w λe w' =>e= .returned (.bool true)/\w' =w:=by
 obtain ⟨i,hi,hcmp⟩:=Option.map_eq_some_iff.1 Qnl;obtain ⟨j,hj,hjs⟩:=Option.map_eq_some_iff.1 Qnk;have h8:=@run_callFunc_extern Tryz.prog 175 _ Extern.ReflectliteType.typeOf Tryz.func175 (by kernel_rfl) (by kernel_rfl) (by kernel_rfl) (by kernel_rfl);have tT:=Qi3;have cT:=Qcq;have mR:=zV;have heq:=run_eql_iface_ptr_same (P:=Tryz.prog) w a Tryz.underlying215 Tryz.underlying752 hi hcmp hj
 go_enter Tryz.func102,Tryz.ntmps102
 go_wp2
 refine wp_loop_rounds 1 ?_;rw [rounds_succ]
 go_wp2
 go_ret
 exact ⟨rfl,rfl⟩
set_option maxRecDepth 100000 in
theorem Qnh (b:Addr) (w:World):
 Calls Tryz.prog 102 #[.nilIface, .iface 752 (.pointer (some b))] w λe w' =>e= .returned (.bool false)/\w' =w:=by
 have hn:=run_eql_iface_nil_left (P:=Tryz.prog) w 752 (.pointer (some b)) Tryz.underlying215
 go_enter Tryz.func102,Tryz.ntmps102
 go_wp2
 go_ret
 exact ⟨rfl,rfl⟩
noncomputable def Qnj:Ax.Sum:=λc H next xs=>
 match xs with
 |[.nilIface, .iface t' (.ptr _ 0)]=>bif Nat.beq t' 752 then .ok ⟨.bool false,H,next,c⟩ else .fail
 |[.iface t (.ptr b 0), .iface t' (.ptr b' 0)]=>bif Nat.beq t 752&&(Nat.beq t' 752&&Nat.beq b b') then .ok ⟨.bool true,H,next,c⟩ else .fail
 |_=> .fail
theorem isSum_ok {G:Ax.Env} {n0:Nat}:Ax.ZL Tryz.prog G n0 102 Qnj:=by
 refine Ax.Y1 λc X H next w args vs r hr hc hargs=>?_
 unfold Qnj at hr;split at hr;rename_i t' b;cases hb:Nat.beq t' 752 with
 |false=>rw [hb] at hr;cases hr
 |true=>
  rw [hb] at hr;cases hr;rw [Nat.beq_eq] at hb;subst hb;obtain ⟨u,vs',e1,g1,g2⟩:=Ax.Q8.1 hargs;obtain ⟨v,vs'',rfl,g3,g4⟩:=Ax.Q8.1 g2;have:=Ax.rels_nil.1 g4;subst this;simp only [Ax.AV.rel] at g1 g3;subst g1;obtain ⟨u2,rfl,p',hp',rfl⟩:=g3;refine ⟨rfl,rfl,rfl, .bool false,by simp only [Ax.AV.rel],?_⟩;have hvs:=(Array.toList_inj (ys:=#[_,_])).1 e1
  subst hvs;exact (Qnh _ w).mono λe w' ⟨h1,h2⟩=>⟨h1,by rw [h2];exact Below.refl _ _⟩
 rename_i t b t' b';cases hb:(Nat.beq t 752&&(Nat.beq t' 752&&Nat.beq b b')) with
 |false=>rw [hb] at hr;cases hr
 |true=>
  rw [hb] at hr;cases hr;simp only [Bool.and_eq_true,Nat.beq_eq] at hb;obtain ⟨rfl,rfl,rfl⟩:=hb;obtain ⟨u,vs',e1,g1,g2⟩:=Ax.Q8.1 hargs;obtain ⟨v,vs'',rfl,g3,g4⟩:=Ax.Q8.1 g2;have:=Ax.rels_nil.1 g4;subst this;simp only [Ax.AV.rel] at g1 g3;obtain ⟨u1,rfl,p,hp,rfl⟩:=g1;obtain ⟨u2,rfl,p',hp',rfl⟩:=g3;have:p=p' :=Option.some.inj (hp.symm.trans hp');subst this;refine ⟨rfl,rfl,rfl, .bool true,by simp only [Ax.AV.rel],?_⟩;have hvs:=(Array.toList_inj (ys:=#[_,_])).1 e1
  subst hvs;exact (Qku _ w).mono λe w' ⟨h1,h2⟩=>⟨h1,by rw [h2];exact Below.refl _ _⟩
 cases hr
end Go.Proofs.YtmfeholdlgfpbaaGreatDoor
namespace Go.Proofs.YtmfeholdlgfpbaaGreatDoor
open Go.RowKit Go.Proofs
theorem Qly (c:Int) (n:Nat) (w:World) (c0:-9223372036854775808<=c) (c1:c<=9223372036854775807) (n0:1<=n) (n1:n<=9223372036854775807):
 Calls Tryz.prog 115 #[.int .i64 c, .int .i64 n] w λe w' =>e= .returned (.int .i64 (Ax.Q0z n c))/\w' =w:=by
 by_cases h:c<0
 . go_enter Tryz.func115,Tryz.ntmps115
   go_wp2
   go_ret
   exact ⟨by rw [Ax.Q0z,if_pos h,Int.neg_tmod];rfl,rfl⟩
 go_enter Tryz.func115,Tryz.ntmps115
 go_wp2
 go_ret
 exact ⟨by rw [Ax.Q0z,if_neg (by omega),Int.tmod_eq_emod_of_nonneg (by omega)];rfl,rfl⟩
set_option maxRecDepth 100000 in
set_option maxHeartbeats 1000000 in
theorem Qea (s:ByteArray) (w:World) (hs:s.size<=1099511627776):
 Calls Tryz.prog 119 #[.string s] w λe w' =>∃n:Int,e= .returned (.int .i64 n)/\0<=n/\n<=65535/\w=w' :=by
 go_enter Tryz.func119,Tryz.ntmps119
 go_wp2
 go_loopw [3,4] (λv i wr=>∃(k:Nat) (n:Int),k<=s.size/\i= .int .i64 k/\v= .int .i64 n/\0<=n/\n<=65280*k/\w=wr) (λ_ i _=>s.size-(intOf i).toNat)
 case atStart=>exact ⟨0,0,Nat.zero_le _,rfl,rfl,by omega,by omega,rfl⟩
 case round=>
  obtain ⟨k,n,hk,rfl,rfl,hn0,hn1,rfl⟩:=hrel;by_cases hlt:k<s.size
  . have hb:=s[k].toNat_lt
    by_cases hpar:(k:Int)%2=0
    . go_wp2
      go_roundw
      case rel=>exact ⟨k+1,_,by omega,by go_num,rfl,by omega,by omega,trivial⟩
      case measure=>simp [intOf];omega
    go_wp2
    go_roundw
    case rel=>exact ⟨k+1,_,by omega,by go_num,rfl,by omega,by omega,trivial⟩
    case measure=>simp [intOf];omega
  have hn2:n<=80000000000000000:=by omega
  clear hn1
  go_wp2
  go_loopw [3] (λv wr=>∃n:Int,v= .int .i64 n/\0<=n/\n<=80000000000000000/\w=wr) (λv _=>(intOf v).toNat)
  case atStart=>exact ⟨n,rfl,hn0,hn2,rfl⟩
  case round=>
   obtain ⟨m,rfl,hm0,hm1,rfl⟩:=hrel;by_cases hbig:65535<m
   . go_wp2
     go_roundw
     case rel=>exact ⟨_,rfl,by omega,by omega,trivial⟩
     case measure=>simp [intOf];omega
   go_wp2
   go_ret
   exact ⟨_,rfl,by omega,by omega,rfl⟩
end Go.Proofs.YtmfeholdlgfpbaaGreatDoor
