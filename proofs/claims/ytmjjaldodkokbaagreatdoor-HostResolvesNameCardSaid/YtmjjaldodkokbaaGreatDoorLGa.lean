/-
 slices.Sorted(maps.Keys(m)) at the two map types of the program: the keys, sorted, in new memory. Conditions: none.
-/
import Derived.Test.YtmjjaldodkokbaaGreatDoorLLz
import Derived.Test.YtmjjaldodkokbaaGreatDoorLAxG
import Derived.Test.YtmjjaldodkokbaaGreatDoorLSC
import Derived.Test.YtmjjaldodkokbaaGreatDoorLAxE
import Derived.Test.YtmjjaldodkokbaaGreatDoorLAxF
import Derived.Test.YtmjjaldodkokbaaGreatDoorLTabsOK
import Derived.Test.YtmjjaldodkokbaaGreatDoorLWA
import Derived.Test.YtmjjaldodkokbaaGreatDoorLWB
import Derived.Test.YtmjjaldodkokbaaGreatDoorLEx
namespace Go.Proofs.YtmjjaldodkokbaaGreatDoor
open Go Go.RowKit Go.Maps Go.Sort Go.Shelf Go.Proofs
theorem Qma (m:Nat):AnyZI.SortsIn Tryz.prog Tryz.Q03 Fence.wide m:=
 ⟨λblk off cap ss W hH hblk hsz=>callsIn_wide.2 (AnyM.slices_Sort_int Tryz.Qmb blk off cap ss W hH hblk hsz),
  λp cap W=>callsIn_wide.2 (AnyM.slices_Sort_int_none Tryz.Qmb p cap W)⟩
abbrev valR:Value->Option (DataW Unit×List MemPlace):=λ_=>some (.nil,[])
theorem Qmi {x:MapEntry} {z:Int} (h:x.key= .int .i64 z) (h1:-9223372036854775808<=z) (h2:z<=9223372036854775807):WideElems.rd Tryz.prog 3 valR x=some (.int .i64 z, .nil):=by
 have hk:keyOf Tryz.prog 3 x.key=some (.int .i64 z):=by rw [h];exact keyOf_int_mk Tryz.underlying3 (by simp [Lit.wf,IntKind.min,IntKind.max,IntKind.signed,IntKind.bits];omega)
 simp only [WideElems.rd,hk,Option.bind_some,Option.map_some]
theorem Qdw {w:World} {b clock:Nat} {es:Array MapEntry} {ks:List Int} (hb:w.heap[b]?=some (.map es clock)) (hs:es.size<=1000000) (hst:MapKept.Stamped es clock) (hk:es.toList.map (·.key)=ks.map (Value.int .i64)) (hw:∀z∈ks,-9223372036854775808<=z/\z<=9223372036854775807):
 ∃D0:DataW Unit,w.ownsMap Tryz.prog 3 valR b es.size D0/\(intKeys D0).Perm ks/\Maps.size D0=es.size:=by
 have hall:∀{l:List MapEntry} {ks:List Int},l.map (·.key)=ks.map (Value.int .i64)->(∀z∈ks,-9223372036854775808<=z/\z<=9223372036854775807)->l.map (WideElems.rg Tryz.prog 3 valR)=ks.map (λz=>(Lit.int .i64 z,DataW.nil))/\∀x∈l,∃y,WideElems.rd Tryz.prog 3 valR x=some y:=by
  intro l;induction l with
  |nil=>intro ks h _;cases ks with
   |nil=>exact ⟨rfl,λx hx=>(by cases hx)⟩
   |cons z ks=>simp at h
  |cons x l ih=>
   intro ks h hw;cases ks with
   |nil=>simp at h
   |cons z ks=>
    simp only [List.map_cons,List.cons.injEq] at h;obtain ⟨i1,i2⟩:=ih h.2 λy hy=>hw y (by simp [hy])
    have hz:=hw z (by simp);have hr:=Qmi h.1 hz.1 hz.2;refine ⟨by simp only [List.map_cons,WideElems.rg,hr,Option.getD_some];rw [<-i1],λy hy=>?_⟩;rcases List.mem_cons.1 hy with rfl|hy;exact ⟨_,hr⟩;exact i2 y hy
 obtain ⟨a1,a2⟩:=hall hk hw;refine ⟨_,⟨es,clock,hb,⟨by unfold maxLen;omega,hst,a2⟩,Nat.le_refl _,rfl⟩,?_,?_⟩;simp only [intKeys];rw [a1];have hp:=(WideShapes.sorted_perm (H:=Unit) (ks.map (λz=>(Lit.int .i64 z,DataW.nil)))).map (λp=>Go.intOf p.1)
 refine hp.trans ?_;rw [List.map_map];have:((λp:Lit×DataW Unit=>Go.intOf p.1)∘λz=>(Lit.int .i64 z,DataW.nil))=id:=by funext z;rfl
 rw [this,List.map_id];simp only [Maps.size];rw [(WideShapes.sorted_perm _).length_eq];simp
theorem zf {g Bm:Nat} {w:World} {n:Nat} {S:List Int->Prop} (hn:n<=1000000) (eg:∀args w,(callFunc g args).run Tryz.prog w= .ok (.enter g args) w) (hseq:SeqGives Fence.wide 2 Tryz.prog g #[.pointer (some ⟨Bm,0,none⟩)] encZ S n w):
 Calls Tryz.prog 204 #[.func (.func g) #[] #[.pointer (some ⟨Bm,0,none⟩)]] w λe w' =>∃(v:Value) (ss:List Int),e= .returned v/\S ss/\w'.ownsRow w.heap.size 3 1 v ss.length ((ss.mergeSort (λx y=>decide (x<=y))).map (Value.int .i64))/\(v= .slice none 0 0↔ss=[])/\Below w.heap.size w w' :=
 (callsIn_wide (n:=5)).1 (AnyZI.sorted_in Tryz.Qjk Fence.wide 5 trivial trivial trivial trivial rfl (by omega) (Qma _) Tryz.call298 g #[.pointer (some ⟨Bm,0,none⟩)] trivial eg S n (by unfold maxLen;omega) (by omega) w hseq)
def Qn4:List Nat:=[299,319]
theorem Q3s (G:Ax.Env) (n0:Nat):Ax.ZO Tryz.prog G n0 204 (Ax.zi 3 Qn4):=by
 refine Ax.Q5k (λg b Bm clock es ks w hg hBm hm hb hs hst hk hw=>?_) (λg Bm w hg hBm hm=>?_);obtain ⟨D0,h1,h2,h3⟩:=Qdw hb hs hst hk hw;have hs' :Maps.size D0<=1000000:=by rw [h3];exact hs
 rcases List.mem_cons.1 hg with rfl|hg;refine (zf hs' Tryz.call299 (AnyZI.keys_gives (ρ:=Tryz.Q0r) { Tryz.Qn3 with} Fence.wide 2 trivial rfl (by omega) Bm b _ D0 w hBm hm h1)).mono ?_
 rintro e w' ⟨v,ss,a1,a2,a3⟩
 exact ⟨v,ss,a1,a2.trans h2,a3⟩;rcases List.mem_cons.1 hg with rfl|hg;refine (zf hs' Tryz.call319 (AnyZI.keys_gives (ρ:=Tryz.Q0q) { Tryz.Qn2 with} Fence.wide 2 trivial rfl (by omega) Bm b _ D0 w hBm hm h1)).mono ?_
 rintro e w' ⟨v,ss,a1,a2,a3⟩
 exact ⟨v,ss,a1,a2.trans h2,a3⟩;cases hg;rcases List.mem_cons.1 hg with rfl|hg;refine (zf (n:=0) (by omega) Tryz.call299 (AnyZI.keys_gives_nil (ρ:=Tryz.Q0r) { Tryz.Qn3 with} Fence.wide 2 trivial rfl Bm w hBm hm)).mono ?_
 rintro e w' ⟨v,ss,a1,a2,a3,a4,a5⟩
 obtain rfl:=a4.2 a2;exact ⟨a1,a5⟩;rcases List.mem_cons.1 hg with rfl|hg;refine (zf (n:=0) (by omega) Tryz.call319 (AnyZI.keys_gives_nil (ρ:=Tryz.Q0q) { Tryz.Qn2 with} Fence.wide 2 trivial rfl Bm w hBm hm)).mono ?_
 rintro e w' ⟨v,ss,a1,a2,a3,a4,a5⟩
 obtain rfl:=a4.2 a2;exact ⟨a1,a5⟩;cases hg
end Go.Proofs.YtmjjaldodkokbaaGreatDoor
namespace Go.Proofs.YtmjjaldodkokbaaGreatDoor
open Go Go.RowKit Go.Shelf Go.Proofs
theorem Q75:Builder.Extra Tryz.prog Tryz.Q0o where
 sizeBuilder:=by kernel_rfl
 liesBuilder:=by kernel_rfl
 t5:=Tryz.underlying5
 a5:=Tryz.isAgg5
 z5:=Tryz.sizeOf5
 v5:=Tryz.zeroValue5
 infoByte:=by kernel_rfl
 cellsByte:=by kernel_rfl
 sizeByte:=by kernel_rfl
 neB5:=by decide
theorem Qeb:∀xs:List (List UInt8),Lib.join xs []=xs.flatten
 |[]=>rfl
 |x::r=>by rw [Lib.join_cons];simp [Lib.joinTail]
theorem Qhc (bk o c:Nat) (xs:List ByteArray) (w:World) (hcells:∀(j:Nat) x,xs[j]?=some x->w.cell? ⟨bk,o+j,none⟩=some (.string x))
 (hbk:bk<w.heap.size) (hN:xs.length<=140737488355328) (hcap:xs.length<=c) (hlen:((xs.map (·.data.toList)).flatten).length<=140737488355328):
 Calls Tryz.prog 425 #[.slice (some ⟨bk,o,none⟩) xs.length c, .string ⟨#[]⟩] w λe w' =>e= .returned (.string ⟨((xs.map (·.data.toList)).flatten).toArray⟩)/\Below w.heap.size w w' :=by
 have e:Lib.join (xs.map (·.data.toList)) (⟨#[]⟩:ByteArray).data.toList=(xs.map (·.data.toList)).flatten:=Qeb _
 have:=Any.strings_Join Tryz.Qkd Q75 bk o c xs ⟨#[]⟩ w hcells hbk hN hcap (by rw [e];exact hlen)
 rw [e] at this;exact this
end Go.Proofs.YtmjjaldodkokbaaGreatDoor
namespace Go.Proofs.YtmjjaldodkokbaaGreatDoor
open Go Go.Ax Go.RowKit Go.Proofs
theorem Qbx:liesAt Tryz.prog Tryz.prog.depth 523 (3/Tryz.prog.cellsOf 523) 0 393 1=true:=by kernel_rfl
set_option maxHeartbeats 1000000 in
set_option maxRecDepth 100000 in
theorem zL (b:Nat) (w:World) (h0:w.cell? ⟨b,0,none⟩=some (.pointer none)) (hsh:w.shape? b=some (523,3)) (hfz:w.frozen? ⟨b,0,none⟩=false):
 Calls Tryz.prog 300 #[.pointer (some ⟨b,0,none⟩)] w λe w' =>e= .returned (.tuple #[])/\w' =w.setCell ⟨b,0,none⟩ (.pointer (some ⟨b,0,none⟩)):=by
 obtain ⟨j,hj,hjs⟩:=Option.map_eq_some_iff.1 sizeBuilder
 go_enter Go.Proofs.Tryz.func300,Go.Proofs.Tryz.ntmps300
 go_wp2
 rw [Lib.run_to_unsafe w ⟨b,0,none⟩ Tryz.underlying391 Tryz.underlying495 hj (by rw [hjs];decide) hsh (Nat.zero_lt_succ 2)];simp only [Result.andThen];rw [Oper.upon_value]
 go_wp2
 rw [run_callFunc_extern Tryz.func414 (by kernel_rfl) (by kernel_rfl) (by kernel_rfl) (e:=Extern.AbiNoEscape.same) (by kernel_rfl)];rw [Lib.run_noEscape];simp only [Result.andThen];rw [Oper.upon_value]
 go_wp2
 rw [Lib.run_from_unsafe w ⟨b,0,none⟩ Tryz.underlying495 Tryz.underlying391 hj hsh Qbx];simp only [Result.andThen];rw [Oper.upon_value]
 go_wp2
 go_end0
 exact ⟨rfl,rfl⟩
abbrev builders:List (Nat×Nat):=[(393,2),(523,3)]
theorem Q4h (G:Env) (n0:Nat):ZO Tryz.prog G n0 300 (yT builders):=Q8w (λq hq b w h0 hs hf=>by rcases List.mem_cons.1 hq with rfl|hq;exact Q19 b w h0 hs hf;rcases List.mem_cons.1 hq with rfl|hq;exact zL b w h0 hs hf;cases hq) Q1y
end Go.Proofs.YtmjjaldodkokbaaGreatDoor
namespace Go.Proofs.YtmjjaldodkokbaaGreatDoor
open Go Go.Ax Go.RowKit Go.Proofs
noncomputable def errs:Q7r:=⟨9,5,770,227,[(0,9),(1,10),(2,11),(4,12),(5,13)],
 [(6,715, .nums [0,1,1,0,2,2,1,3,3,1,2,2,1,5,0,2,4,3,2,5,4,2,6,6,3,5,4,3,6,6,4,7,5,4,6,7,5,6,9,6,5,8,7,7,9,8,7,0]),(3,330, .typ 434 8 227)]⟩
theorem Qev:errs.ng=tab.ng:=rfl
theorem Qad:0<errs.ng:=by show 0<9;decide
theorem Qkp:errs.inB=true:=by kernel_rfl
def sl:List Nat->Code->Code
 |[],c=>c
 |i::p, .seq a b=>bif Nat.beq i 0 then sl p a else sl p b
 |i::p, .cond _ a b=>bif Nat.beq i 0 then sl p a else sl p b
 |_::p, .block _ b=>sl p b
 |_::p, .loop b=>sl p b
 |_::p, .scope b=>sl p b
 |i::p, .rangeFunc _ _ a b=>bif Nat.beq i 0 then sl p a else sl p b
 |_,c=>c
def sk (n:Nat) (p:List Nat) (c:Code):Code:=sl (List.replicate n 1++p) c
def opsOf:Code->List Oper
 | .region _ ops _=>ops.toList
 |_=>[]
noncomputable def rg (c:Code) (k:Nat):Q7t:= .reg (opsOf c) k ((opsOf c).drop k)
abbrev eL (n:Nat):E:= .lit (.ofNat n)
abbrev iL (n:Nat):AV:= .int .i64 (.lit (.ofNat n))
abbrev yy:AV:= .any
abbrev uu:AV:= .tuple []
abbrev tt:AV:= .top
def tL (l:List Nat):AV:= .str (l.map eL)
def aL (l:List Nat):List AV:=l.map iL
end Go.Proofs.YtmjjaldodkokbaaGreatDoor
namespace Go.Proofs.YtmjjaldodkokbaaGreatDoor
open Go Go.Ax Go.RowKit Go.Proofs
noncomputable def Qjb:List (Nat×Sum):=[(6,Q8a),(300,yT builders),(308,Q9o),
 (206,Q9u 10),(168,Q0x 10),(290,Q2w 1),(109,Q2w 0),(204,zi 3 Qn4),(611,Qe1 5),(634,Qej),(354,Q11),(425,Q8l)]
theorem Q9h:Qfy Tryz.prog tab Qjb:=
 .cons (λ_ _ _=>Qbp λz n w h0 h1 h2 h3=>Qbq z n w h0 h1 h2 h3) Tryz.call6<|
 .cons (λG n0 _=>Q4h G n0) Tryz.call300<|
 .cons (λG n0 _=>Q87 G n0) Tryz.call308<|
 .cons (λ_ _ _=>Q5w (λz k w a b c d=>Qjy z k w a b c d) (λz k w a b c=>Qjx z k w a b c)) Tryz.call206<|
 .cons (λ_ _ _=>Q2r (λs i k w a b c d=>Qkj s i k w a b c d) (λs i k w a b c d e=>Qki s i k w a b c d e)) Tryz.call168<|
 .cons (λ_ _ _=>zH λs w h=>Q6x s w h) Tryz.call290<|
 .cons (λ_ _ _=>zH λs w h=>Qf3 s w h) Tryz.call109<|
 .cons (λG n0 _=>Q3s G n0) Tryz.call204<|
 .ext (λ_ _ _=>Qe0 (ps:=#[3]) (t:=152) Tryz.underlying152 λargs w=>run_callFunc_extern Tryz.func611 (by kernel_rfl) (by kernel_rfl) (by kernel_rfl) (e:=Extern.BytealgMakeNoZero.makeNoZero #[3] #[152]) (by kernel_rfl) args w)<|
 .ext (λ_ _ _=>Qei λargs w=>run_callFunc_extern Tryz.func634 (by kernel_rfl) (by kernel_rfl) (by kernel_rfl) (e:=Extern.BytealgIndexByte.indexByte) (by kernel_rfl) args w)<|
 .cons (λ_ _ _=>Q6l λF o mb now es clock w a b c d e f=>Qc6 F o mb now es clock w a b c d e f) Tryz.call354<|
 .cons (λ_ _ _=>Qc0 λbk o c xs w a b d e f=>Qhc bk o c xs w a b d e f) Tryz.call425 .nil
noncomputable def GB:Env:=⟨tab,ifs,Qcv Qjb⟩
end Go.Proofs.YtmjjaldodkokbaaGreatDoor
