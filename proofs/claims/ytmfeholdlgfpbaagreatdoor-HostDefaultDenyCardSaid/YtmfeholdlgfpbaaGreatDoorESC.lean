/-
 icmp.coded: two boxes and a rule with a closure over them. Conditions: none.
-/
import Derived.Test.YtmfeholdlgfpbaaGreatDoorProg
import Derived.WalkKit
import Derived.WalkSpells
import Derived.WalkMore
import Derived.WalkLawsBesides
import Derived.Deep.QuietTactic
import Derived.BigQuiet
import Derived.Shelf.Abstract
import Derived.Test.YtmfeholdlgfpbaaGreatDoorEAxD
import Derived.Deep.Cut
import Derived.MapKept
import Derived.Test.YtmfeholdlgfpbaaGreatDoorEAxE
import Derived.Lib.Builder
import Derived.Lib.UnsafeStr
import Derived.Laws.Externs
namespace Go.Proofs.YtmfeholdlgfpbaaGreatDoor
open Go.RowKit Go.Proofs
def Jv (n:Nat):Value:= .agg #[.bool true, .int .i64 28, .func (.func 506) #[] #[.pointer (some ⟨n,0,none⟩), .pointer (some ⟨n+1,0,none⟩)]]
theorem Q7b (a b:Int) (w:World):Calls Go.Proofs.Tryz.prog 426 #[.int .i64 a, .int .i64 b] w λe w' =>e= .returned (Jv w.heap.size)/\
 w' =((w.alloc (.cells #[.int .i64 a] 3 (0,0))).alloc (.cells #[.int .i64 b] 3 (0,0))).alloc (.cells (Jv w.heap.size).cells 495 (0,0)):=by
 unfold Jv
 go_enter Go.Proofs.Tryz.func426,Go.Proofs.Tryz.ntmps426
 go_wp2_with fail
 have hsz:∀(x y z:Obj),(((w.alloc x).alloc y).alloc z).heap[w.heap.size+1+1]?=some z:=λx y z=>by
  have:w.heap.size+1+1=((w.alloc x).alloc y).heap.size:=by simp
  rw [this];exact Array.getElem?_push_size
 rw [run_store _ _ _ _ _ (by rfl)];have hc:((((w.alloc (Obj.cells #[Value.int IntKind.i64 a] 3)).alloc (Obj.cells #[Value.int IntKind.i64 b] 3)).alloc (Obj.cells #[Value.bool true,Value.int IntKind.i64 28,Value.nilFunc] 495)).cell? { block:=w.heap.size+1+1,off:=2})=some .nilFunc:=by unfold World.cell?;simp only [hsz];rfl
 have hf:((((w.alloc (Obj.cells #[Value.int IntKind.i64 a] 3)).alloc (Obj.cells #[Value.int IntKind.i64 b] 3)).alloc (Obj.cells #[Value.bool true,Value.int IntKind.i64 28,Value.nilFunc] 495)).frozen? { block:=w.heap.size+1+1,off:=2})=false:=by unfold World.frozen?;simp only [hsz];rfl
 simp only [hc,hf]
 go_wp2_with fail
 refine bodyPost_ret (v:=Jv w.heap.size) (by simp [results,Go.Proofs.Tryz.results426,go_sem,Jv]) rfl ⟨rfl,rfl⟩
end Go.Proofs.YtmfeholdlgfpbaaGreatDoor
namespace Go.Proofs.YtmfeholdlgfpbaaGreatDoor
open Go Go.Ax Go.RowKit Go.Proofs
section
variable {P:Program} {A:Array Oper} {Q:Exit->Act->World->Prop}
theorem Qan {listed:Array Bool} {j i:Nat} (h:Lst listed i):Lst (listed.setIfInBounds j true) i:=by unfold Lst at h ⊢;rw [Array.getD_eq_getD_getElem?] at h ⊢;rw [Array.getElem?_setIfInBounds];by_cases hji:j=i;subst hji;by_cases hs:j<listed.size;simp [hs];rw [if_pos rfl,if_neg hs];rw [Array.getElem?_eq_none (by omega)] at h;exact h;rw [if_neg hji];exact h
theorem Qx {listed:Array Bool} {j i:Nat} (hj:j<listed.size):Lst (listed.setIfInBounds j true) i↔i=j\/Lst listed i:=by unfold Lst;rw [Array.getD_eq_getD_getElem?,Array.getD_eq_getD_getElem?,Array.getElem?_setIfInBounds];by_cases hji:j=i;subst hji;simp [hj];rw [if_neg hji];simp [Ne.symm hji]
theorem Qcl {listed:Array Bool} {j:Nat} {o:Oper} (hs:listed.size=A.size) (hcl:∀j oj,A[j]?=some oj->Lst listed j->∀e∈Qi oj,Lst listed e) (hA:A[j]?=some o) (hj:j<A.size) (hje:∀e∈Qi o,Lst listed e):
 ∀i oi,A[i]?=some oi->Lst (listed.setIfInBounds j true) i->∀e∈Qi oi,Lst (listed.setIfInBounds j true) e:=by
 intro i oi hi hl e he;rcases (Qx (by rw [hs];exact hj)).1 hl with rfl|hl
 rw [hA] at hi;cases hi;exact Qan (hje e he);exact Qan (hcl i oi hi hl e he)
theorem Qd2 (I:Array Bool->Act->World->Prop) (hedge:∀i o,A[i]?=some o->∀e∈Qi o,e<i)
 (hstep:∀(listed:Array Bool) (a:Act) (w:World) (i:Nat) (o:Oper),listed.size=A.size->(∀j oj,A[j]?=some oj->Lst listed j->∀e∈Qi oj,Lst listed e)->I listed a w->A[i]?=some o->¬Lst listed i->(∀e∈Qi o,Lst listed e)->
  wpOp P A Q i (λa' w' =>I (listed.setIfInBounds i true) a' w') a w)
 (hend:∀(listed:Array Bool) (a:Act) (w:World),(∀i,i<A.size->Lst listed i)->I listed a w->Q .normal a w):
 ∀(fuel:Nat) (listed:Array Bool) (a:Act) (w:World),listed.size=A.size->(∀j oj,A[j]?=some oj->Lst listed j->∀e∈Qi oj,Lst listed e)->A.size<=fuel+cnt listed->I listed a w->wpAny P .any A Q fuel listed a w:=by
 intro fuel;induction fuel with
 |zero=>
  intro listed a w hs hcl hc hI;have hall:∀i,i<A.size->Lst listed i:=λi hi=>Q8w hs (by omega) hi
  refine ⟨?_,hend listed a w hall hI⟩;refine List.eq_nil_iff_forall_not_mem.2 λj hj=>?_
  obtain ⟨o,h1,h2,-⟩:=(ZA hs).1 hj
  exact h2 (hall j (Array.getElem?_eq_some_iff.1 h1).1)
 |succ fuel ih=>
  intro listed a w hs hcl hc hI;refine ⟨λhr=>hend listed a w (λi hi=>Classical.byContradiction λhl=>?_) hI,λj hj=>?_⟩;obtain ⟨j,o,h1,h2,h3⟩:=Q31 hedge i i (Nat.le_refl _) hi hl;have:j∈Region.ready .any A listed:=(ZA hs).2 ⟨o,h1,h2,h3⟩
  rw [hr] at this;cases this;obtain ⟨o,hAj,hjl,hje⟩:=(ZA hs).1 hj
  have hjlt:j<A.size:=(Array.getElem?_eq_some_iff.1 hAj).1
  exact wpOp_mono (λa' w' h=>ih _ a' w' (by simpa using hs) (Qcl hs hcl hAj hjlt hje) (by rw [Q54 (by rw [hs];exact hjlt) hjl];omega) h) (hstep listed a w j o hs hcl hI hAj hjl hje)
theorem Q41 (I:Array Bool->Act->World->Prop) {id:Nat} {a:Act} {w:World} (hm:P.follows .mixedOrders=true) (hedge:∀i o,A[i]?=some o->∀e∈Qi o,e<i)
 (hstep:∀(listed:Array Bool) (a:Act) (w:World) (i:Nat) (o:Oper),listed.size=A.size->(∀j oj,A[j]?=some oj->Lst listed j->∀e∈Qi oj,Lst listed e)->I listed a w->A[i]?=some o->¬Lst listed i->(∀e∈Qi o,Lst listed e)->
  wpOp P A Q i (λa' w' =>I (listed.setIfInBounds i true) a' w') a w)
 (hend:∀(listed:Array Bool) (a:Act) (w:World),(∀i,i<A.size->Lst listed i)->I listed a w->Q .normal a w)
 (h:I (Array.replicate A.size false) a w.drew):(Code.region id A true).wp P Q a w:=
 wp_region_any hm (Qd2 I hedge hstep hend _ _ _ _ (by simp) (λj oj _ hl=>absurd hl (by unfold Lst;by_cases hj:j<A.size<;>simp [hj])) (by simp) h)
theorem YV {i:Nat} {K:Act->World->Prop} {a:Act} {w:World} {o:Oper} (ho:A[i]?=some o) (hg:o.guard=none) (h:o.wp P a w K Q):wpOp P A Q i K a w:=by
 unfold wpOp;simp only [ho];have hw:Region.wanted o (yielded A a.tmps)=true:=by simp [Region.wanted,hg]
 rw [if_pos hw];exact Or.inl h
end
end Go.Proofs.YtmfeholdlgfpbaaGreatDoor
namespace Go.Proofs.YtmfeholdlgfpbaaGreatDoor
open Go Go.Ax Go.RowKit Go.Proofs
def r0V:Value:= .agg #[.bool false, .int .i64 500, .func (.func 425) #[] #[]]
def r5V:Value:= .agg #[.bool true, .int .i64 28, .func (.func 427) #[] #[]]
theorem Q1j (k:Int):∀(es:List MapEntry) (i:Nat),(∀e∈es,∃m,e.key= .int .i64 m/\m≠k)->Instr.findNow (.int .i64) (.int .i64 k) es i=some none
 |[],_,_=>rfl
 |e::es,i,h=>by
  obtain ⟨m,h1,h2⟩:=h e (by simp);have hb:(k==m)=false:=by rw [beq_eq_false_iff_ne];exact λh=>h2 h.symm
  simp only [Instr.findNow,h1,Instr.sameNow,if_true,hb];exact Q1j k es (i+1) λx hx=>h x (by simp [hx])
theorem zH {w:World} {B:Nat} {es:Array MapEntry} {clock:Nat} (k:Int) (v:Value) (hb:w.heap[B]?=some (.map es clock)) (hn:∀e∈es.toList,∃m,e.key= .int .i64 m/\m≠k):
 (Instr.mapUpdate 496 (.map (some B)) (.int .i64 k) v).run Tryz.prog w= .ok () { w with heap:=w.heap.setIfInBounds B (.map (es.push ⟨.int .i64 k,v,clock⟩) (clock+1))}:=by
 have hck:=MapKept.run_checkKey (P:=Tryz.prog) (w:=w) Tryz.underlying3 (k:= .int .i64 k) rfl false 9999;have hfk:(Instr.findKey 3 (.int .i64 k) es.toList).run Tryz.prog w= .ok none w:=by simp [Instr.findKey,run_underlying Tryz.underlying3,Q1j k es.toList 0 hn]
 simp [Instr.mapUpdate,run_underlying Tryz.underlying496,MapKept.run_getObj_map hb,hck,hfk,MapKept.run_setObj_map _ hb,Result.andThen]
def laid (listed:Array Bool) (x4 x5 x6 x7 x8:Value):List (Value×Value):=
 (if listed.getD 2 false=true then [(.int .i64 1,x4)] else [])++((if listed.getD 4 false=true then [(.int .i64 2,x5)] else [])++
 ((if listed.getD 6 false=true then [(.int .i64 3,x6)] else [])++((if listed.getD 8 false=true then [(.int .i64 4,x7)] else [])++(if listed.getD 10 false=true then [(.int .i64 5,x8)] else []))))
def Q5n (n:Nat) (x y:Int) (v:Value) (w:World):Prop:=∃c,n<c/\v=Jv c/\w.heap[c]?=some (.cells #[.int .i64 x] 3 (0,0))/\w.heap[c+1]?=some (.cells #[.int .i64 y] 3 (0,0))
def Keep (w w' :World):Prop:=∀(b:Nat) (o:Obj),w.heap[b]?=some o->(∀es c,o≠ .map es c)->w'.heap[b]?=some o
theorem Q5n.keep {n:Nat} {x y:Int} {v:Value} {w w' :World} (h:Q5n n x y v w) (k:Keep w w'):Q5n n x y v w' :=by obtain ⟨c,h1,h2,h3,h4⟩:=h;exact ⟨c,h1,h2,k _ _ h3 (by intro _ _ e;cases e),k _ _ h4 (by intro _ _ e;cases e)⟩
def RM (n:Nat) (listed:Array Bool) (x3 x4 x5 x6 x7 x8:Value) (w:World):Prop:=∃B es clock,n<B/\x3= .map (some B)/\w.heap[B]?=some (.map es clock)/\(es.toList.map λe=>(e.key,e.val)).Perm (laid listed x4 x5 x6 x7 x8)
structure RI (w0:World) (listed:Array Bool) (x0 x3 x4 x5 x6 x7 x8 x9:Value) (w:World):Prop where
 below:Below w0.heap.size w0 w
 own:w.heap[w0.heap.size]?=some (.cells r0V.cells 495 (0,0))
 t4:Lst listed 1->x4=r0V
 t5:Lst listed 3->x5=r0V
 t6:Lst listed 5->Q5n w0.heap.size 1 4 x6 w
 t7:Lst listed 7->Q5n w0.heap.size 1 2 x7 w
 t8:Lst listed 9->x8=r5V
 m:Lst listed 0->RM w0.heap.size listed x3 x4 x5 x6 x7 x8 w
 t9:Lst listed 11->x9=x3
 t0:Lst listed 12->x0=x3
theorem RI.next {w0:World} {listed:Array Bool} {x0 x3 x4 x5 x6 x7 x8 x9 y0 y3 y4 y5 y6 y7 y8 y9:Value} {w w' :World} (h:RI w0 listed x0 x3 x4 x5 x6 x7 x8 x9 w) (j:Nat) (hj:j<listed.size)
 (hb:Below w0.heap.size w0 w') (k:Keep w w') (e0:j≠12->y0=x0) (e3:y3=x3\/¬Lst listed 11/\¬Lst listed 12/\j≠11/\j≠12) (e4:j≠1->y4=x4) (e5:j≠3->y5=x5) (e6:j≠5->y6=x6) (e7:j≠7->y7=x7) (e8:j≠9->y8=x8) (e9:j≠11->y9=x9)
 (n4:j=1->y4=r0V) (n5:j=3->y5=r0V) (n6:j=5->Q5n w0.heap.size 1 4 y6 w') (n7:j=7->Q5n w0.heap.size 1 2 y7 w') (n8:j=9->y8=r5V) (n9:j=11->y9=x3) (n0:j=12->y0=x3)
 (m:Lst (listed.setIfInBounds j true) 0->RM w0.heap.size (listed.setIfInBounds j true) y3 y4 y5 y6 y7 y8 w'):RI w0 (listed.setIfInBounds j true) y0 y3 y4 y5 y6 y7 y8 y9 w' :=by
 have L:∀{i:Nat} {p q:Prop},Lst (listed.setIfInBounds j true) i->(j=i->q)->(j≠i->Lst listed i->q)->q:=λ{i p q} hl h1 h2=>by
  by_cases hji:j=i;exact h1 hji;rcases (Qx hj).1 hl with e|hl
  exact absurd e.symm hji;exact h2 hji hl
 refine ⟨hb,k _ _ h.own (by intro _ _ e;cases e),λhl=>L (p:=True) hl n4 λhne hl=>(e4 hne).trans (h.t4 hl),λhl=>L (p:=True) hl n5 λhne hl=>(e5 hne).trans (h.t5 hl),
  λhl=>L (p:=True) hl n6 λhne hl=>(e6 hne)▸(h.t6 hl).keep k,λhl=>L (p:=True) hl n7 λhne hl=>(e7 hne)▸(h.t7 hl).keep k,λhl=>L (p:=True) hl n8 λhne hl=>(e8 hne).trans (h.t8 hl),m,λhl=>?_,λhl=>?_⟩
 rcases e3 with rfl|⟨a1,a2,a3,a4⟩;exact L (p:=True) hl n9 λhne hl=>(e9 hne).trans (h.t9 hl)
 exact L (p:=True) hl (λe=>absurd e a3) λ_ hl=>absurd hl a1
 rcases e3 with rfl|⟨a1,a2,a3,a4⟩;exact L (p:=True) hl n0 λhne hl=>(e0 hne).trans (h.t0 hl)
 exact L (p:=True) hl (λe=>absurd e a4) λ_ hl=>absurd hl a2
end Go.Proofs.YtmfeholdlgfpbaaGreatDoor
namespace Go.Proofs.YtmfeholdlgfpbaaGreatDoor
open Go Go.Ax Go.RowKit Go.Proofs
def RA (w0:World) (listed:Array Bool) (a:Act) (w:World):Prop:=∃x0 x2 x3 x4 x5 x6 x7 x8 x9,a={ tmps:=#[x0, .pointer (some ⟨w0.heap.size,0,none⟩),x2,x3,x4,x5,x6,x7,x8,x9],defers:=[]}/\RI w0 listed x0 x3 x4 x5 x6 x7 x8 x9 w
noncomputable def Zc:Array Oper:=match (Tryz.f311).body with
 |some (.seq _ (.seq _ (.seq (.region _ A _) _)))=>A
 |_=>#[]
structure Dep (l:Array Bool):Prop where
 d2:Lst l 2->Lst l 0/\Lst l 1
 d4:Lst l 4->Lst l 0/\Lst l 3
 d6:Lst l 6->Lst l 0/\Lst l 5
 d8:Lst l 8->Lst l 0/\Lst l 7
 d10:Lst l 10->Lst l 0/\Lst l 9
 d11:Lst l 11->Lst l 0
 d12:Lst l 12->Lst l 11
theorem Qnt {l:Array Bool} (h:∀j oj,Zc[j]?=some oj->Lst l j->∀e∈Qi oj,Lst l e):Dep l:=by refine ⟨λk=>⟨h 2 _ rfl k 0 ?_,h 2 _ rfl k 1 ?_⟩,λk=>⟨h 4 _ rfl k 0 ?_,h 4 _ rfl k 3 ?_⟩,λk=>⟨h 6 _ rfl k 0 ?_,h 6 _ rfl k 5 ?_⟩,λk=>⟨h 8 _ rfl k 0 ?_,h 8 _ rfl k 7 ?_⟩,λk=>⟨h 10 _ rfl k 0 ?_,h 10 _ rfl k 9 ?_⟩,λk=>h 11 _ rfl k 0 ?_,λk=>h 12 _ rfl k 11 ?_⟩<;>decide
theorem Ql8 {l:Array Bool} {i:Nat} {o:Oper} (ho:Zc[i]?=some o) (he:∀e∈Qi o,Lst l e):(i=2->Lst l 0/\Lst l 1)/\(i=4->Lst l 0/\Lst l 3)/\(i=6->Lst l 0/\Lst l 5)/\(i=8->Lst l 0/\Lst l 7)/\(i=10->Lst l 0/\Lst l 9)/\(i=11->Lst l 0)/\(i=12->Lst l 11):=by refine ⟨?_,?_,?_,?_,?_,?_,?_⟩<;>(rintro rfl;replace ho:=(show some _=some o from ho);cases ho);exact ⟨he 0 (by decide),he 1 (by decide)⟩;exact ⟨he 0 (by decide),he 3 (by decide)⟩;exact ⟨he 0 (by decide),he 5 (by decide)⟩;exact ⟨he 0 (by decide),he 7 (by decide)⟩;exact ⟨he 0 (by decide),he 9 (by decide)⟩;exact he 0 (by decide);exact he 11 (by decide)
theorem QA (l:Array Bool) {j i:Nat} (h:i≠j):(l.setIfInBounds j true).getD i false=l.getD i false:=by rw [Array.getD_eq_getD_getElem?,Array.getD_eq_getD_getElem?,Array.getElem?_setIfInBounds,if_neg (Ne.symm h)]
theorem Q1f {p:Prop} [Decidable p] {k:Value} {x y:Value} (h:p->y=x):(if p then [(k,y)] else [])=(if p then [(k,x)] else []):=by by_cases hp:p;rw [if_pos hp,if_pos hp,h hp];rw [if_neg hp,if_neg hp]
theorem Qkt {l:Array Bool} {x4 x5 x6 x7 x8 y4 y5 y6 y7 y8:Value} (j:Nat) (nl:¬Lst l j) (d:Dep l) (e4:j≠1->y4=x4) (e5:j≠3->y5=x5) (e6:j≠5->y6=x6) (e7:j≠7->y7=x7) (e8:j≠9->y8=x8):
 laid l y4 y5 y6 y7 y8=laid l x4 x5 x6 x7 x8:=by
 have N:∀{i:Nat},Lst l i->j≠i:=λh e=>nl (e▸h)
 unfold laid;rw [Q1f (p:=l.getD 2 false=true) λh=>e4 (N (d.d2 h).2),Q1f (p:=l.getD 4 false=true) λh=>e5 (N (d.d4 h).2),Q1f (p:=l.getD 6 false=true) λh=>e6 (N (d.d6 h).2),Q1f (p:=l.getD 8 false=true) λh=>e7 (N (d.d8 h).2),Q1f (p:=l.getD 10 false=true) λh=>e8 (N (d.d10 h).2)]
theorem Qar {l:Array Bool} {x4 x5 x6 x7 x8:Value} (j:Nat) (h:j≠2/\j≠4/\j≠6/\j≠8/\j≠10):laid (l.setIfInBounds j true) x4 x5 x6 x7 x8=laid l x4 x5 x6 x7 x8:=by unfold laid;rw [QA l (Ne.symm h.1),QA l (Ne.symm h.2.1),QA l (Ne.symm h.2.2.1),QA l (Ne.symm h.2.2.2.1),QA l (Ne.symm h.2.2.2.2)]
theorem RM.next {n:Nat} {l:Array Bool} {x3 x4 x5 x6 x7 x8 y4 y5 y6 y7 y8:Value} {w w' :World} (h:RM n l x3 x4 x5 x6 x7 x8 w) (j:Nat) (hj:j≠2/\j≠4/\j≠6/\j≠8/\j≠10) (nl:¬Lst l j) (d:Dep l) (e4:j≠1->y4=x4) (e5:j≠3->y5=x5) (e6:j≠5->y6=x6) (e7:j≠7->y7=x7) (e8:j≠9->y8=x8)
 (k:∀(b:Nat) (o:Obj),w.heap[b]?=some o->w'.heap[b]?=some o):RM n (l.setIfInBounds j true) x3 y4 y5 y6 y7 y8 w' :=by
 obtain ⟨B,es,cl,h1,h2,h3,h4⟩:=h;refine ⟨B,es,cl,h1,h2,k _ _ h3,?_⟩;rw [Qar j hj,Qkt j nl d e4 e5 e6 e7 e8];exact h4
theorem QF (w:World) (x:Obj) (b:Nat) (o:Obj) (h:w.heap[b]?=some o):(w.alloc x).heap[b]?=some o:=by
 have hb:b<w.heap.size:=(Array.getElem?_eq_some_iff.1 h).1
 show (w.heap.push x)[b]?=some o;rw [Array.getElem?_push,if_neg (by omega)];exact h
set_option maxRecDepth 100000
section
variable {w0 w:World} {l:Array Bool} {a:Act} {Q:Exit->Act->World->Prop} {x0 x3 x4 x5 x6 x7 x8 x9:Value}
theorem RI.lt (hI:RI w0 l x0 x3 x4 x5 x6 x7 x8 x9 w):w0.heap.size<w.heap.size:=(Array.getElem?_eq_some_iff.1 hI.own).1
theorem step0 (hs:l.size=13) (nl:¬Lst l 0) (d:Dep l) (h:RA w0 l a w):wpOp Tryz.prog Zc Q 0 (RA w0 (l.setIfInBounds 0 true)) a w:=by
 obtain ⟨x0,x2,x3,x4,x5,x6,x7,x8,x9,rfl,hI⟩:=h;refine YV (o:=⟨some 3, .makeMap 496 none,_,_,_,_⟩) (by rfl) (by rfl) ?_;have hmm:(Instr.makeMap 496 none).run Tryz.prog w= .ok (.map (some w.heap.size)) (w.alloc (.map #[] 0)):=rfl
 go_simp
 have n11:¬Lst l 11:=λh=>nl (d.d11 h)
 have n12:¬Lst l 12:=λh=>n11 (d.d12 h)
 refine ⟨_,_,_,_,_,_,_,_,_,rfl,hI.next 0 (by omega) (hI.below.alloc (by have:=hI.lt;omega) _) (λb o h _=>QF w _ b o h) (λ_=>rfl) (Or.inr ⟨n11,n12,by decide,by decide⟩) (λ_=>rfl) (λ_=>rfl) (λ_=>rfl) (λ_=>rfl) (λ_=>rfl) (λ_=>rfl) (λh=>absurd h (by decide)) (λh=>absurd h (by decide)) (λh=>absurd h (by decide)) (λh=>absurd h (by decide)) (λh=>absurd h (by decide)) (λh=>absurd h (by decide)) (λh=>absurd h (by decide)) (λ_=>⟨_,_,_,hI.lt,rfl,heap_alloc_new _ _,?_⟩)⟩;rw [Qar 0 (by decide)];have z:∀{i:Nat},(Lst l i->Lst l 0)->l.getD i false=false:=λ{i} k=>by
  cases hb:l.getD i false with
  |false=>rfl
  |true=>exact absurd (k hb) nl
 unfold laid;rw [z λh=>(d.d2 h).1,z λh=>(d.d4 h).1,z λh=>(d.d6 h).1,z λh=>(d.d8 h).1,z λh=>(d.d10 h).1];exact .nil
theorem step1 (hs:l.size=13) (nl:¬Lst l 1) (d:Dep l) (h:RA w0 l a w):wpOp Tryz.prog Zc Q 1 (RA w0 (l.setIfInBounds 1 true)) a w:=by
 obtain ⟨x0,x2,x3,x4,x5,x6,x7,x8,x9,rfl,hI⟩:=h;refine YV (o:=⟨some 4, .load 495 (.tmp 1),_,_,_,_⟩) (by rfl) (by rfl) ?_;have c0:w.cell? { block:=w0.heap.size,off:=0}=some (.bool false):=by unfold World.cell?;simp only [hI.own];rfl
 have c1:w.cell? { block:=w0.heap.size,off:=1}=some (.int .i64 500):=by unfold World.cell?;simp only [hI.own];rfl
 have c2:w.cell? { block:=w0.heap.size,off:=2}=some (.func (.func 425) #[] #[]):=by unfold World.cell?;simp only [hI.own];rfl
 go_simp
 refine ⟨_,_,_,_,_,_,_,_,_,rfl,hI.next 1 (by omega) hI.below (λ_ _ h _=>h) (λ_=>rfl) (Or.inl rfl) (λh=>absurd rfl h) (λ_=>rfl) (λ_=>rfl) (λ_=>rfl) (λ_=>rfl) (λ_=>rfl) (λ_=>rfl) (λh=>absurd h (by decide)) (λh=>absurd h (by decide)) (λh=>absurd h (by decide)) (λh=>absurd h (by decide)) (λh=>absurd h (by decide)) (λh=>absurd h (by decide)) (λh0=>(hI.m (((Qx (by omega)).1 h0).resolve_left (by decide))).next 1 (by decide) nl d (λh=>absurd rfl h) (λ_=>rfl) (λ_=>rfl) (λ_=>rfl) (λ_=>rfl) (λ_ _ h=>h))⟩
theorem step3 (hs:l.size=13) (nl:¬Lst l 3) (d:Dep l) (h:RA w0 l a w):wpOp Tryz.prog Zc Q 3 (RA w0 (l.setIfInBounds 3 true)) a w:=by
 obtain ⟨x0,x2,x3,x4,x5,x6,x7,x8,x9,rfl,hI⟩:=h;refine YV (o:=⟨some 5, .load 495 (.tmp 1),_,_,_,_⟩) (by rfl) (by rfl) ?_;have c0:w.cell? { block:=w0.heap.size,off:=0}=some (.bool false):=by unfold World.cell?;simp only [hI.own];rfl
 have c1:w.cell? { block:=w0.heap.size,off:=1}=some (.int .i64 500):=by unfold World.cell?;simp only [hI.own];rfl
 have c2:w.cell? { block:=w0.heap.size,off:=2}=some (.func (.func 425) #[] #[]):=by unfold World.cell?;simp only [hI.own];rfl
 go_simp
 refine ⟨_,_,_,_,_,_,_,_,_,rfl,hI.next 3 (by omega) hI.below (λ_ _ h _=>h) (λ_=>rfl) (Or.inl rfl) (λ_=>rfl) (λh=>absurd rfl h) (λ_=>rfl) (λ_=>rfl) (λ_=>rfl) (λ_=>rfl) (λh=>absurd h (by decide)) (λ_=>rfl) (λh=>absurd h (by decide)) (λh=>absurd h (by decide)) (λh=>absurd h (by decide)) (λh=>absurd h (by decide)) (λh=>absurd h (by decide)) (λh0=>(hI.m (((Qx (by omega)).1 h0).resolve_left (by decide))).next 3 (by decide) nl d (λ_=>rfl) (λh=>absurd rfl h) (λ_=>rfl) (λ_=>rfl) (λ_=>rfl) (λ_ _ h=>h))⟩
theorem step5 (hs:l.size=13) (nl:¬Lst l 5) (d:Dep l) (h:RA w0 l a w):wpOp Tryz.prog Zc Q 5 (RA w0 (l.setIfInBounds 5 true)) a w:=by
 obtain ⟨x0,x2,x3,x4,x5,x6,x7,x8,x9,rfl,hI⟩:=h;refine YV (o:=⟨some 6, .call ⟨.value (.func 426),#[.const (.int .i64 1), .const (.int .i64 4)],#[3,3]⟩,_,_,_,_⟩) (by rfl) (by rfl) ?_
 go_simp
 refine (Q7b 1 4 w).mono ?_
 rintro e w' ⟨rfl,rfl⟩
 have hlt:=hI.lt;have K:∀(b:Nat) (o:Obj),w.heap[b]?=some o->(((w.alloc (.cells #[.int .i64 1] 3 (0,0))).alloc (.cells #[.int .i64 4] 3 (0,0))).alloc (.cells (Jv w.heap.size).cells 495 (0,0))).heap[b]?=some o:=λb o h=>QF _ _ b o (QF _ _ b o (QF _ _ b o h))
 refine ⟨_,_,_,_,_,_,_,_,_,rfl,hI.next 5 (by omega) (((hI.below.alloc (by omega) _).alloc (by simp;omega) _).alloc (by simp;omega) _) (λb o h _=>K b o h) (λ_=>rfl) (Or.inl rfl) (λ_=>rfl) (λ_=>rfl) (λh=>absurd rfl h) (λ_=>rfl) (λ_=>rfl) (λ_=>rfl) (λh=>absurd h (by decide)) (λh=>absurd h (by decide)) (λ_=>⟨w.heap.size,hlt,rfl,QF _ _ _ _ (QF _ _ _ _ (heap_alloc_new _ _)),QF _ _ _ _ (by have e:w.heap.size+1=(w.alloc (.cells #[.int .i64 1] 3 (0,0))).heap.size:=(by simp);rw [e];exact heap_alloc_new _ _)⟩) (λh=>absurd h (by decide)) (λh=>absurd h (by decide)) (λh=>absurd h (by decide)) (λh=>absurd h (by decide)) (λh0=>(hI.m (((Qx (by omega)).1 h0).resolve_left (by decide))).next 5 (by decide) nl d (λ_=>rfl) (λ_=>rfl) (λh=>absurd rfl h) (λ_=>rfl) (λ_=>rfl) K)⟩
theorem step7 (hs:l.size=13) (nl:¬Lst l 7) (d:Dep l) (h:RA w0 l a w):wpOp Tryz.prog Zc Q 7 (RA w0 (l.setIfInBounds 7 true)) a w:=by
 obtain ⟨x0,x2,x3,x4,x5,x6,x7,x8,x9,rfl,hI⟩:=h;refine YV (o:=⟨some 7, .call ⟨.value (.func 426),#[.const (.int .i64 1), .const (.int .i64 2)],#[3,3]⟩,_,_,_,_⟩) (by rfl) (by rfl) ?_
 go_simp
 refine (Q7b 1 2 w).mono ?_
 rintro e w' ⟨rfl,rfl⟩
 have hlt:=hI.lt;have K:∀(b:Nat) (o:Obj),w.heap[b]?=some o->(((w.alloc (.cells #[.int .i64 1] 3 (0,0))).alloc (.cells #[.int .i64 2] 3 (0,0))).alloc (.cells (Jv w.heap.size).cells 495 (0,0))).heap[b]?=some o:=λb o h=>QF _ _ b o (QF _ _ b o (QF _ _ b o h))
 refine ⟨_,_,_,_,_,_,_,_,_,rfl,hI.next 7 (by omega) (((hI.below.alloc (by omega) _).alloc (by simp;omega) _).alloc (by simp;omega) _) (λb o h _=>K b o h) (λ_=>rfl) (Or.inl rfl) (λ_=>rfl) (λ_=>rfl) (λ_=>rfl) (λh=>absurd rfl h) (λ_=>rfl) (λ_=>rfl) (λh=>absurd h (by decide)) (λh=>absurd h (by decide)) (λh=>absurd h (by decide)) (λ_=>⟨w.heap.size,hlt,rfl,QF _ _ _ _ (QF _ _ _ _ (heap_alloc_new _ _)),QF _ _ _ _ (by have e:w.heap.size+1=(w.alloc (.cells #[.int .i64 1] 3 (0,0))).heap.size:=(by simp);rw [e];exact heap_alloc_new _ _)⟩) (λh=>absurd h (by decide)) (λh=>absurd h (by decide)) (λh=>absurd h (by decide)) (λh0=>(hI.m (((Qx (by omega)).1 h0).resolve_left (by decide))).next 7 (by decide) nl d (λ_=>rfl) (λ_=>rfl) (λ_=>rfl) (λh=>absurd rfl h) (λ_=>rfl) K)⟩
theorem step9 (hs:l.size=13) (nl:¬Lst l 9) (d:Dep l) (h:RA w0 l a w):wpOp Tryz.prog Zc Q 9 (RA w0 (l.setIfInBounds 9 true)) a w:=by
 obtain ⟨x0,x2,x3,x4,x5,x6,x7,x8,x9,rfl,hI⟩:=h;refine YV (o:=⟨some 8, .build 495 #[(0, .const (.bool true)),(1, .const (.int .i64 28)),(2, .func 427)],_,_,_,_⟩) (by rfl) (by rfl) ?_
 go_simp
 refine ⟨_,_,_,_,_,_,_,_,_,rfl,hI.next 9 (by omega) hI.below (λ_ _ h _=>h) (λ_=>rfl) (Or.inl rfl) (λ_=>rfl) (λ_=>rfl) (λ_=>rfl) (λ_=>rfl) (λh=>absurd rfl h) (λ_=>rfl) (λh=>absurd h (by decide)) (λh=>absurd h (by decide)) (λh=>absurd h (by decide)) (λh=>absurd h (by decide)) (λ_=>rfl) (λh=>absurd h (by decide)) (λh=>absurd h (by decide)) (λh0=>(hI.m (((Qx (by omega)).1 h0).resolve_left (by decide))).next 9 (by decide) nl d (λ_=>rfl) (λ_=>rfl) (λ_=>rfl) (λ_=>rfl) (λh=>absurd rfl h) (λ_ _ h=>h))⟩
theorem Qmh (hs:l.size=13) (nl:¬Lst l 11) (d:Dep l) (h:RA w0 l a w):wpOp Tryz.prog Zc Q 11 (RA w0 (l.setIfInBounds 11 true)) a w:=by
 obtain ⟨x0,x2,x3,x4,x5,x6,x7,x8,x9,rfl,hI⟩:=h;refine YV (o:=⟨some 9, .move (.tmp 3),_,_,_,_⟩) (by rfl) (by rfl) ?_
 go_simp
 refine ⟨_,_,_,_,_,_,_,_,_,rfl,hI.next 11 (by omega) hI.below (λ_ _ h _=>h) (λ_=>rfl) (Or.inl rfl) (λ_=>rfl) (λ_=>rfl) (λ_=>rfl) (λ_=>rfl) (λ_=>rfl) (λh=>absurd rfl h) (λh=>absurd h (by decide)) (λh=>absurd h (by decide)) (λh=>absurd h (by decide)) (λh=>absurd h (by decide)) (λh=>absurd h (by decide)) (λ_=>rfl) (λh=>absurd h (by decide)) (λh0=>(hI.m (((Qx (by omega)).1 h0).resolve_left (by decide))).next 11 (by decide) nl d (λ_=>rfl) (λ_=>rfl) (λ_=>rfl) (λ_=>rfl) (λ_=>rfl) (λ_ _ h=>h))⟩
theorem Qmg (hs:l.size=13) (nl:¬Lst l 12) (d:Dep l) (h:RA w0 l a w) (h11:Lst l 11):wpOp Tryz.prog Zc Q 12 (RA w0 (l.setIfInBounds 12 true)) a w:=by
 obtain ⟨x0,x2,x3,x4,x5,x6,x7,x8,x9,rfl,hI⟩:=h;refine YV (o:=⟨some 0, .assign (.tmp 9),_,_,_,_⟩) (by rfl) (by rfl) ?_
 go_simp
 refine ⟨_,_,_,_,_,_,_,_,_,rfl,hI.next 12 (by omega) hI.below (λ_ _ h _=>h) (λh=>absurd rfl h) (Or.inl rfl) (λ_=>rfl) (λ_=>rfl) (λ_=>rfl) (λ_=>rfl) (λ_=>rfl) (λ_=>rfl) (λh=>absurd h (by decide)) (λh=>absurd h (by decide)) (λh=>absurd h (by decide)) (λh=>absurd h (by decide)) (λh=>absurd h (by decide)) (λh=>absurd h (by decide)) (λ_=>hI.t9 h11) (λh0=>(hI.m (((Qx (by omega)).1 h0).resolve_left (by decide))).next 12 (by decide) nl d (λ_=>rfl) (λ_=>rfl) (λ_=>rfl) (λ_=>rfl) (λ_=>rfl) (λ_ _ h=>h))⟩
end
end Go.Proofs.YtmfeholdlgfpbaaGreatDoor
namespace Go.Proofs.YtmfeholdlgfpbaaGreatDoor
open Go Go.Ax Go.RowKit Go.Proofs
set_option maxRecDepth 100000
section
variable {w0 w:World} {l:Array Bool} {a:Act} {Q:Exit->Act->World->Prop} {x0 x3 x4 x5 x6 x7 x8 x9:Value}
theorem zT {p:Value×Value} (h:p∈laid l x4 x5 x6 x7 x8):∃m,p.1= .int .i64 m/\((m=1/\Lst l 2)\/(m=2/\Lst l 4)\/(m=3/\Lst l 6)\/(m=4/\Lst l 8)\/(m=5/\Lst l 10)):=by
 have one:∀{i:Nat} {k x:Value},p∈(if l.getD i false=true then [(k,x)] else [])->p.1=k/\Lst l i:=λ{i k x} hm=>by by_cases hi:l.getD i false=true;rw [if_pos hi,List.mem_singleton] at hm;exact ⟨by rw [hm],hi⟩;rw [if_neg hi] at hm;cases hm
 unfold laid at h;rcases List.mem_append.1 h with h|h;exact ⟨1,(one h).1, .inl ⟨rfl,(one h).2⟩⟩;rcases List.mem_append.1 h with h|h;exact ⟨2,(one h).1, .inr (.inl ⟨rfl,(one h).2⟩)⟩;rcases List.mem_append.1 h with h|h;exact ⟨3,(one h).1, .inr (.inr (.inl ⟨rfl,(one h).2⟩))⟩;rcases List.mem_append.1 h with h|h;exact ⟨4,(one h).1, .inr (.inr (.inr (.inl ⟨rfl,(one h).2⟩)))⟩;exact ⟨5,(one h).1, .inr (.inr (.inr (.inr ⟨rfl,(one h).2⟩)))⟩
theorem zN {α:Type} {es P R:List α} (e:α) (h:es.Perm (P++R)):(es++[e]).Perm (P++e::R):=by
 refine (h.append_right [e]).trans ?_
 rw [List.append_assoc];exact (List.perm_append_singleton e R).append_left P
theorem zU {B:Nat} {es:Array MapEntry} {cl:Nat} {o' :Obj} (hM:w.heap[B]?=some (.map es cl)):Keep w { w with heap:=w.heap.setIfInBounds B o' }:=by
 intro b o h hno;have hb:B≠b:=λe=>by subst e;rw [hM] at h;cases h;exact hno _ _ rfl
 show (w.heap.setIfInBounds B o')[b]?=some o;rw [Array.getElem?_setIfInBounds,if_neg hb];exact h
theorem JQ {B:Nat} {o' :Obj} (h:Below w0.heap.size w0 w) (hB:w0.heap.size<B):Below w0.heap.size w0 { w with heap:=w.heap.setIfInBounds B o' }:=h.trans ⟨rfl,rfl,rfl,by simp,λk hk=>by show (w.heap.setIfInBounds B o')[k]?=_;rw [Array.getElem?_setIfInBounds,if_neg (by omega)]⟩
theorem Q6l {B:Nat} {es:Array MapEntry} {cl:Nat} {o' :Obj} (hM:w.heap[B]?=some (.map es cl)):(w.heap.setIfInBounds B o')[B]?=some o' :=by
 have:=(Array.getElem?_eq_some_iff.1 hM).1
 rw [Array.getElem?_setIfInBounds,if_pos rfl,if_pos this]
theorem step2 (hs:l.size=13) (nl:¬Lst l 2) (h:RA w0 l a w) (h0:Lst l 0):wpOp Tryz.prog Zc Q 2 (RA w0 (l.setIfInBounds 2 true)) a w:=by
 obtain ⟨x0,x2,x3,x4,x5,x6,x7,x8,x9,rfl,hI⟩:=h;refine YV (o:=⟨none, .insert 496 (.tmp 3) (.const (.int .i64 1)) (.tmp 4),_,_,_,_⟩) (by rfl) (by rfl) ?_;obtain ⟨B,es,cl,hB,rfl,hM,hP⟩:=hI.m h0;have hn:∀e∈es.toList,∃m,e.key= .int .i64 m/\m≠1:=λe he=>by obtain ⟨m,h1,h2⟩:=zT (hP.subset (List.mem_map_of_mem (f:=λe:MapEntry=>(e.key,e.val)) he));refine ⟨m,h1,λhm=>?_⟩;subst hm;rcases h2 with ⟨h,h2⟩|⟨h,h2⟩|⟨h,h2⟩|⟨h,h2⟩|⟨h,h2⟩<;>first|exact nl h2|(exact absurd h (by decide))
 have hr:=zH 1 x4 hM hn
 go_simp
 refine ⟨_,_,_,_,_,_,_,_,_,rfl,hI.next 2 (by omega) (JQ hI.below hB) (zU hM) (λ_=>rfl) (Or.inl rfl) (λ_=>rfl) (λ_=>rfl) (λ_=>rfl) (λ_=>rfl) (λ_=>rfl) (λ_=>rfl) (λh=>absurd h (by decide)) (λh=>absurd h (by decide)) (λh=>absurd h (by decide)) (λh=>absurd h (by decide)) (λh=>absurd h (by decide)) (λh=>absurd h (by decide)) (λh=>absurd h (by decide)) (λ_=>⟨B,_,_,hB,rfl,Q6l hM,?_⟩)⟩;have nf:l.getD 2 false=false:=by
  cases hb:l.getD 2 false with
  |false=>rfl
  |true=>exact absurd hb nl
 have ns:(l.setIfInBounds 2 true).getD 2 false=true:=(Qx (by omega)).2 (.inl rfl)
 have hP' :(es.toList.map λe=>(e.key,e.val)).Perm (([]:List (Value×Value))++((if l.getD 4 false=true then [(.int .i64 2,x5)] else [])++(if l.getD 6 false=true then [(.int .i64 3,x6)] else [])++(if l.getD 8 false=true then [(.int .i64 4,x7)] else [])++(if l.getD 10 false=true then [(.int .i64 5,x8)] else []))):=by unfold laid at hP;rw [nf] at hP;simpa [List.append_assoc] using hP
 have:=zN (Value.int .i64 1,x4) hP';unfold laid;rw [ns,QA l (show 4≠2 by decide),QA l (show 6≠2 by decide),QA l (show 8≠2 by decide),QA l (show 10≠2 by decide)];simpa [List.append_assoc] using this
theorem step4 (hs:l.size=13) (nl:¬Lst l 4) (h:RA w0 l a w) (h0:Lst l 0):wpOp Tryz.prog Zc Q 4 (RA w0 (l.setIfInBounds 4 true)) a w:=by
 obtain ⟨x0,x2,x3,x4,x5,x6,x7,x8,x9,rfl,hI⟩:=h;refine YV (o:=⟨none, .insert 496 (.tmp 3) (.const (.int .i64 2)) (.tmp 5),_,_,_,_⟩) (by rfl) (by rfl) ?_;obtain ⟨B,es,cl,hB,rfl,hM,hP⟩:=hI.m h0;have hn:∀e∈es.toList,∃m,e.key= .int .i64 m/\m≠2:=λe he=>by obtain ⟨m,h1,h2⟩:=zT (hP.subset (List.mem_map_of_mem (f:=λe:MapEntry=>(e.key,e.val)) he));refine ⟨m,h1,λhm=>?_⟩;subst hm;rcases h2 with ⟨h,h2⟩|⟨h,h2⟩|⟨h,h2⟩|⟨h,h2⟩|⟨h,h2⟩<;>first|exact nl h2|(exact absurd h (by decide))
 have hr:=zH 2 x5 hM hn
 go_simp
 refine ⟨_,_,_,_,_,_,_,_,_,rfl,hI.next 4 (by omega) (JQ hI.below hB) (zU hM) (λ_=>rfl) (Or.inl rfl) (λ_=>rfl) (λ_=>rfl) (λ_=>rfl) (λ_=>rfl) (λ_=>rfl) (λ_=>rfl) (λh=>absurd h (by decide)) (λh=>absurd h (by decide)) (λh=>absurd h (by decide)) (λh=>absurd h (by decide)) (λh=>absurd h (by decide)) (λh=>absurd h (by decide)) (λh=>absurd h (by decide)) (λ_=>⟨B,_,_,hB,rfl,Q6l hM,?_⟩)⟩;have nf:l.getD 4 false=false:=by
  cases hb:l.getD 4 false with
  |false=>rfl
  |true=>exact absurd hb nl
 have ns:(l.setIfInBounds 4 true).getD 4 false=true:=(Qx (by omega)).2 (.inl rfl)
 have hP' :(es.toList.map λe=>(e.key,e.val)).Perm ((if l.getD 2 false=true then [(.int .i64 1,x4)] else [])++((if l.getD 6 false=true then [(.int .i64 3,x6)] else [])++(if l.getD 8 false=true then [(.int .i64 4,x7)] else [])++(if l.getD 10 false=true then [(.int .i64 5,x8)] else []))):=by unfold laid at hP;rw [nf] at hP;simpa [List.append_assoc] using hP
 have:=zN (Value.int .i64 2,x5) hP';unfold laid;rw [ns,QA l (show 2≠4 by decide),QA l (show 6≠4 by decide),QA l (show 8≠4 by decide),QA l (show 10≠4 by decide)];simpa [List.append_assoc] using this
theorem step6 (hs:l.size=13) (nl:¬Lst l 6) (h:RA w0 l a w) (h0:Lst l 0):wpOp Tryz.prog Zc Q 6 (RA w0 (l.setIfInBounds 6 true)) a w:=by
 obtain ⟨x0,x2,x3,x4,x5,x6,x7,x8,x9,rfl,hI⟩:=h;refine YV (o:=⟨none, .insert 496 (.tmp 3) (.const (.int .i64 3)) (.tmp 6),_,_,_,_⟩) (by rfl) (by rfl) ?_;obtain ⟨B,es,cl,hB,rfl,hM,hP⟩:=hI.m h0;have hn:∀e∈es.toList,∃m,e.key= .int .i64 m/\m≠3:=λe he=>by obtain ⟨m,h1,h2⟩:=zT (hP.subset (List.mem_map_of_mem (f:=λe:MapEntry=>(e.key,e.val)) he));refine ⟨m,h1,λhm=>?_⟩;subst hm;rcases h2 with ⟨h,h2⟩|⟨h,h2⟩|⟨h,h2⟩|⟨h,h2⟩|⟨h,h2⟩<;>first|exact nl h2|(exact absurd h (by decide))
 have hr:=zH 3 x6 hM hn
 go_simp
 refine ⟨_,_,_,_,_,_,_,_,_,rfl,hI.next 6 (by omega) (JQ hI.below hB) (zU hM) (λ_=>rfl) (Or.inl rfl) (λ_=>rfl) (λ_=>rfl) (λ_=>rfl) (λ_=>rfl) (λ_=>rfl) (λ_=>rfl) (λh=>absurd h (by decide)) (λh=>absurd h (by decide)) (λh=>absurd h (by decide)) (λh=>absurd h (by decide)) (λh=>absurd h (by decide)) (λh=>absurd h (by decide)) (λh=>absurd h (by decide)) (λ_=>⟨B,_,_,hB,rfl,Q6l hM,?_⟩)⟩;have nf:l.getD 6 false=false:=by
  cases hb:l.getD 6 false with
  |false=>rfl
  |true=>exact absurd hb nl
 have ns:(l.setIfInBounds 6 true).getD 6 false=true:=(Qx (by omega)).2 (.inl rfl)
 have hP' :(es.toList.map λe=>(e.key,e.val)).Perm ((if l.getD 2 false=true then [(.int .i64 1,x4)] else [])++(if l.getD 4 false=true then [(.int .i64 2,x5)] else [])++((if l.getD 8 false=true then [(.int .i64 4,x7)] else [])++(if l.getD 10 false=true then [(.int .i64 5,x8)] else []))):=by unfold laid at hP;rw [nf] at hP;simpa [List.append_assoc] using hP
 have:=zN (Value.int .i64 3,x6) hP';unfold laid;rw [ns,QA l (show 2≠6 by decide),QA l (show 4≠6 by decide),QA l (show 8≠6 by decide),QA l (show 10≠6 by decide)];simpa [List.append_assoc] using this
theorem step8 (hs:l.size=13) (nl:¬Lst l 8) (h:RA w0 l a w) (h0:Lst l 0):wpOp Tryz.prog Zc Q 8 (RA w0 (l.setIfInBounds 8 true)) a w:=by
 obtain ⟨x0,x2,x3,x4,x5,x6,x7,x8,x9,rfl,hI⟩:=h;refine YV (o:=⟨none, .insert 496 (.tmp 3) (.const (.int .i64 4)) (.tmp 7),_,_,_,_⟩) (by rfl) (by rfl) ?_;obtain ⟨B,es,cl,hB,rfl,hM,hP⟩:=hI.m h0;have hn:∀e∈es.toList,∃m,e.key= .int .i64 m/\m≠4:=λe he=>by obtain ⟨m,h1,h2⟩:=zT (hP.subset (List.mem_map_of_mem (f:=λe:MapEntry=>(e.key,e.val)) he));refine ⟨m,h1,λhm=>?_⟩;subst hm;rcases h2 with ⟨h,h2⟩|⟨h,h2⟩|⟨h,h2⟩|⟨h,h2⟩|⟨h,h2⟩<;>first|exact nl h2|(exact absurd h (by decide))
 have hr:=zH 4 x7 hM hn
 go_simp
 refine ⟨_,_,_,_,_,_,_,_,_,rfl,hI.next 8 (by omega) (JQ hI.below hB) (zU hM) (λ_=>rfl) (Or.inl rfl) (λ_=>rfl) (λ_=>rfl) (λ_=>rfl) (λ_=>rfl) (λ_=>rfl) (λ_=>rfl) (λh=>absurd h (by decide)) (λh=>absurd h (by decide)) (λh=>absurd h (by decide)) (λh=>absurd h (by decide)) (λh=>absurd h (by decide)) (λh=>absurd h (by decide)) (λh=>absurd h (by decide)) (λ_=>⟨B,_,_,hB,rfl,Q6l hM,?_⟩)⟩;have nf:l.getD 8 false=false:=by
  cases hb:l.getD 8 false with
  |false=>rfl
  |true=>exact absurd hb nl
 have ns:(l.setIfInBounds 8 true).getD 8 false=true:=(Qx (by omega)).2 (.inl rfl)
 have hP' :(es.toList.map λe=>(e.key,e.val)).Perm ((if l.getD 2 false=true then [(.int .i64 1,x4)] else [])++(if l.getD 4 false=true then [(.int .i64 2,x5)] else [])++(if l.getD 6 false=true then [(.int .i64 3,x6)] else [])++((if l.getD 10 false=true then [(.int .i64 5,x8)] else []))):=by unfold laid at hP;rw [nf] at hP;simpa [List.append_assoc] using hP
 have:=zN (Value.int .i64 4,x7) hP';unfold laid;rw [ns,QA l (show 2≠8 by decide),QA l (show 4≠8 by decide),QA l (show 6≠8 by decide),QA l (show 10≠8 by decide)];simpa [List.append_assoc] using this
theorem Qmi (hs:l.size=13) (nl:¬Lst l 10) (h:RA w0 l a w) (h0:Lst l 0):wpOp Tryz.prog Zc Q 10 (RA w0 (l.setIfInBounds 10 true)) a w:=by
 obtain ⟨x0,x2,x3,x4,x5,x6,x7,x8,x9,rfl,hI⟩:=h;refine YV (o:=⟨none, .insert 496 (.tmp 3) (.const (.int .i64 5)) (.tmp 8),_,_,_,_⟩) (by rfl) (by rfl) ?_;obtain ⟨B,es,cl,hB,rfl,hM,hP⟩:=hI.m h0;have hn:∀e∈es.toList,∃m,e.key= .int .i64 m/\m≠5:=λe he=>by obtain ⟨m,h1,h2⟩:=zT (hP.subset (List.mem_map_of_mem (f:=λe:MapEntry=>(e.key,e.val)) he));refine ⟨m,h1,λhm=>?_⟩;subst hm;rcases h2 with ⟨h,h2⟩|⟨h,h2⟩|⟨h,h2⟩|⟨h,h2⟩|⟨h,h2⟩<;>first|exact nl h2|(exact absurd h (by decide))
 have hr:=zH 5 x8 hM hn
 go_simp
 refine ⟨_,_,_,_,_,_,_,_,_,rfl,hI.next 10 (by omega) (JQ hI.below hB) (zU hM) (λ_=>rfl) (Or.inl rfl) (λ_=>rfl) (λ_=>rfl) (λ_=>rfl) (λ_=>rfl) (λ_=>rfl) (λ_=>rfl) (λh=>absurd h (by decide)) (λh=>absurd h (by decide)) (λh=>absurd h (by decide)) (λh=>absurd h (by decide)) (λh=>absurd h (by decide)) (λh=>absurd h (by decide)) (λh=>absurd h (by decide)) (λ_=>⟨B,_,_,hB,rfl,Q6l hM,?_⟩)⟩;have nf:l.getD 10 false=false:=by
  cases hb:l.getD 10 false with
  |false=>rfl
  |true=>exact absurd hb nl
 have ns:(l.setIfInBounds 10 true).getD 10 false=true:=(Qx (by omega)).2 (.inl rfl)
 have hP' :(es.toList.map λe=>(e.key,e.val)).Perm ((if l.getD 2 false=true then [(.int .i64 1,x4)] else [])++(if l.getD 4 false=true then [(.int .i64 2,x5)] else [])++(if l.getD 6 false=true then [(.int .i64 3,x6)] else [])++(if l.getD 8 false=true then [(.int .i64 4,x7)] else [])++(([]:List (Value×Value)))):=by unfold laid at hP;rw [nf] at hP;simpa [List.append_assoc] using hP
 have:=zN (Value.int .i64 5,x8) hP';unfold laid;rw [ns,QA l (show 2≠10 by decide),QA l (show 4≠10 by decide),QA l (show 6≠10 by decide),QA l (show 8≠10 by decide)];simpa [List.append_assoc] using this
end
end Go.Proofs.YtmfeholdlgfpbaaGreatDoor
namespace Go.Proofs.YtmfeholdlgfpbaaGreatDoor
open Go Go.Ax Go.RowKit Go.Proofs
set_option maxRecDepth 100000
def Qj2 (w:World) (B:Nat) (w' :World):Prop:=Below w.heap.size w w' /\w'.heap[w.heap.size]?=some (.cells r0V.cells 495 (0,0))/\w.heap.size<B/\
 ∃es cl x y,w'.heap[B]?=some (.map es cl)/\Q5n w.heap.size 1 4 x w' /\Q5n w.heap.size 1 2 y w' /\
  (es.toList.map λe=>(e.key,e.val)).Perm [(.int .i64 1,r0V),(.int .i64 2,r0V),(.int .i64 3,x),(.int .i64 4,y),(.int .i64 5,r5V)]
theorem Qh8 {w w' :World} {l:Array Bool} {x0 x3 x4 x5 x6 x7 x8 x9:Value} (hall:∀i,i<13->Lst l i) (h:RI w l x0 x3 x4 x5 x6 x7 x8 x9 w'):∃B,x0= .map (some B)/\Qj2 w B w' :=by obtain ⟨B,es,cl,h1,h2,h3,h4⟩:=h.m (hall 0 (by decide));refine ⟨B,(h.t0 (hall 12 (by decide))).trans h2,h.below,h.own,h1,es,cl,x6,x7,h3,h.t6 (hall 5 (by decide)),h.t7 (hall 7 (by decide)),?_⟩;have g:∀i,i<13->l.getD i false=true:=hall;unfold laid at h4;rw [g 2 (by decide),g 4 (by decide),g 6 (by decide),g 8 (by decide),g 10 (by decide),h.t4 (hall 1 (by decide)),h.t5 (hall 3 (by decide)),h.t8 (hall 9 (by decide))] at h4;exact h4
theorem Qcc {w0 w:World} {Q:Exit->Act->World->Prop} (listed:Array Bool) (a:Act) (i:Nat) (o:Oper) (hs:listed.size=Zc.size) (hcl:∀j oj,Zc[j]?=some oj->Lst listed j->∀e∈Qi oj,Lst listed e)
 (hI:RA w0 listed a w) (ho:Zc[i]?=some o) (hl:¬Lst listed i) (he:∀e∈Qi o,Lst listed e):wpOp Tryz.prog Zc Q i (λa' w' =>RA w0 (listed.setIfInBounds i true) a' w') a w:=by
 have hi:i<13:=(Array.getElem?_eq_some_iff.1 ho).1
 have hs:listed.size=13:=hs;have d:=Qnt hcl;obtain ⟨e2,e4,e6,e8,e10,e11,e12⟩:=Ql8 ho he;clear ho he hcl;have hi:i=0\/i=1\/i=2\/i=3\/i=4\/i=5\/i=6\/i=7\/i=8\/i=9\/i=10\/i=11\/i=12:=by omega
 rcases hi with rfl|rfl|rfl|rfl|rfl|rfl|rfl|rfl|rfl|rfl|rfl|rfl|rfl;exact step0 hs hl d hI;exact step1 hs hl d hI;exact step2 hs hl hI (e2 rfl).1
 exact step3 hs hl d hI;exact step4 hs hl hI (e4 rfl).1
 exact step5 hs hl d hI;exact step6 hs hl hI (e6 rfl).1
 exact step7 hs hl d hI;exact step8 hs hl hI (e8 rfl).1
 exact step9 hs hl d hI;exact Qmi hs hl hI (e10 rfl).1
 exact Qmh hs hl d hI;exact Qmg hs hl d hI (e12 rfl)
theorem Q67 {w:World} {w1:World} {x0 x2:Value} {Q:Exit->Act->World->Prop} {id:Nat} (hb:Below w.heap.size w w1) (hown:w1.heap[w.heap.size]?=some (.cells r0V.cells 495 (0,0)))
 (hQ:∀(x0 x2 x3 x4 x5 x6 x7 x8 x9:Value) (w' :World),(∃B,x0= .map (some B)/\Qj2 w B w')->Q .normal { tmps:=#[x0, .pointer (some ⟨w.heap.size,0,none⟩),x2,x3,x4,x5,x6,x7,x8,x9],defers:=[]} w'):
 (Code.region id Zc true).wp Tryz.prog Q { tmps:=#[x0, .pointer (some ⟨w.heap.size,0,none⟩),x2,undef,undef,undef,undef,undef,undef,undef],defers:=[]} w1:=by
 refine Q41 (RA w) (by kernel_rfl) ?_ (λlisted a w' i o hs hcl hI ho hl he=>Qcc listed a i o hs hcl hI ho hl he) ?_ ?_;have:∀i:Fin 13,∀o,Zc[i.1]?=some o->∀e∈Qi o,e<i.1:=by
  intro i o ho;have hd:((List.range 13).all λi=>match Zc[i]? with|some o=>(Qi o).all (. <i)|none=>true)=true:=by kernel_rfl
  have:=List.all_eq_true.1 hd i.1 (by simp);rw [ho] at this;simpa using this
 intro i o ho;have hi:i<13:=(Array.getElem?_eq_some_iff.1 ho).1
 exact this ⟨i,hi⟩ o ho
 rintro listed a w' hall ⟨x0,x2,x3,x4,x5,x6,x7,x8,x9,rfl,hI⟩
 exact hQ _ _ _ _ _ _ _ _ _ _ (Qh8 hall hI);have no:∀i,¬Lst (Array.replicate Zc.size false) i:=λi hl=>by unfold Lst at hl;rw [Array.getD_eq_getD_getElem?,Array.getElem?_replicate] at hl;split at hl<;>cases hl
 exact ⟨_,_,_,_,_,_,_,_,_,rfl,hb.drew,hown,λh=>absurd h (no _),λh=>absurd h (no _),λh=>absurd h (no _),λh=>absurd h (no _),λh=>absurd h (no _),λh=>absurd h (no _),λh=>absurd h (no _),λh=>absurd h (no _)⟩
end Go.Proofs.YtmfeholdlgfpbaaGreatDoor
namespace Go.Proofs.YtmfeholdlgfpbaaGreatDoor
open Go Go.Ax Go.RowKit Go.Proofs
set_option maxRecDepth 100000
theorem Qe4 (w:World):Calls Go.Proofs.Tryz.prog 311 #[] w λe w' =>∃B,e= .returned (.map (some B))/\Qj2 w B w' :=by
 go_enter Go.Proofs.Tryz.func311,Go.Proofs.Tryz.ntmps311
 go_upto_region 2 with fail
 rw [run_store _ _ _ _ _ (by rfl)];have hc:((w.alloc (Obj.cells #[Value.bool false,Value.int IntKind.i64 500,Value.nilFunc] 495)).cell? { block:=w.heap.size,off:=2})=some .nilFunc:=by unfold World.cell?;simp only [heap_alloc_new];rfl
 have hf:((w.alloc (Obj.cells #[Value.bool false,Value.int IntKind.i64 500,Value.nilFunc] 495)).frozen? { block:=w.heap.size,off:=2})=false:=by unfold World.frozen?;simp only [heap_alloc_new];rfl
 simp only [hc,hf]
 go_upto_region 2 with fail
 refine Q67 (w:=w) ?_ ?_ ?_;exact (Below.refl _ w).alloc (Nat.le_refl _) _
 exact heap_alloc_new _ _;intro x0 x2 x3 x4 x5 x6 x7 x8 x9 w' h;obtain ⟨B,rfl,h⟩:=h
 go_wp2_with fail
 refine bodyPost_ret (v:= .map (some B)) (by simp [results,Go.Proofs.Tryz.results311,go_sem]) rfl ⟨B,rfl,h⟩
end Go.Proofs.YtmfeholdlgfpbaaGreatDoor
namespace Go.Proofs.YtmfeholdlgfpbaaGreatDoor
open Go Go.Ax Go.RowKit Go.Proofs
def Qit (x:Int):Q7:= .cells [.int .i64 (.lit x)] 3 false false false
def Qk1 (n:Nat):List (AV×AV):=[(.int .i64 (.lit 1), .agg [.bool false, .int .i64 (.lit 500), .func 425 [] []]),(.int .i64 (.lit 2), .agg [.bool false, .int .i64 (.lit 500), .func 425 [] []]),
 (.int .i64 (.lit 3), .agg [.bool true, .int .i64 (.lit 28), .func 506 [] [.ptr (n+1) 0, .ptr (n+2) 0]]),(.int .i64 (.lit 4), .agg [.bool true, .int .i64 (.lit 28), .func 506 [] [.ptr (n+3) 0, .ptr (n+4) 0]]),
 (.int .i64 (.lit 5), .agg [.bool true, .int .i64 (.lit 28), .func 427 [] []])]
noncomputable def Qa8:Ctx->Tr Q7->Nat->List AV->D SR:=λc H n args=>match args with
 |[]=> .ok ⟨.map n,((((H.set (n+1) (Qit 1)).set (n+2) (Qit 4)).set (n+3) (Qit 1)).set (n+4) (Qit 2)).set n (.lmap (Qk1 n)),n+5,c⟩
 |_=> .fail
theorem Q55 {X:Ext} {p:Ax.Place} {x:Int} {ob:Option Obj} (hp:p.base=0/\p.n=1) (h:ob=some (.cells #[.int .i64 x] 3 (0,0))):ji X (Qit x) p ob:=by
 refine ⟨#[.int .i64 x],(0,0),⟨_,h, .inr rfl⟩,by simp [hp],by simp [hp],by simp,λi a hi=>?_, .inr (.inr rfl),by simp⟩
 match i,hi with
 |0,hi=>cases hi;exact ⟨_,by rw [hp.1];rfl,by simp [AV.rel,E.ok,E.den]⟩
theorem Q7a {X:Ext} {i j c:Nat} (h1:X.V i=some ⟨c,0,1⟩) (h2:X.V j=some ⟨c+1,0,1⟩):(AV.agg [.bool true, .int .i64 (.lit 28), .func 506 [] [.ptr i 0, .ptr j 0]]).rel X (Jv c):=by simp only [AV.rel,Jv];refine ⟨_,rfl,?_⟩;refine ⟨_,_,rfl,by simp [AV.rel],_,_,rfl,by simp [AV.rel,E.ok,E.den],_,_,rfl,?_,rfl⟩;simp only [AV.rel];exact ⟨#[],_,rfl,by simp [AV.QH],⟨_,_,rfl,by simp [AV.rel,h1],_,_,rfl,by simp [AV.rel,h2],rfl⟩⟩
theorem Qe5 {X:Ext} {n:Nat} {c d:Nat} (h1:X.V (n+1)=some ⟨c,0,1⟩) (h2:X.V (n+2)=some ⟨c+1,0,1⟩) (h3:X.V (n+3)=some ⟨d,0,1⟩) (h4:X.V (n+4)=some ⟨d+1,0,1⟩) {l:List MapEntry}
 (hl:l.map (λe=>(e.key,e.val))=[(.int .i64 1,r0V),(.int .i64 2,r0V),(.int .i64 3,Jv c),(.int .i64 4,Jv d),(.int .i64 5,r5V)]):ZX X (Qk1 n) l:=by
 have hlen:l.length=5:=by simpa using congrArg List.length hl
 match l,hlen,hl with
 |[a,b,e,f,g],_,hl=>
  simp only [List.map_cons,List.map_nil,List.cons.injEq,Prod.mk.injEq,and_true] at hl;obtain ⟨⟨a1,a2⟩,⟨b1,b2⟩,⟨c1,c2⟩,⟨d1,d2⟩,e1,e2⟩:=hl;refine ⟨a,_,rfl,?_,?_,b,_,rfl,?_,?_,e,_,rfl,?_,?_,f,_,rfl,?_,?_,g,_,rfl,?_,?_,rfl⟩
  case refine_6=>rw [c2];exact Q7a h1 h2
  case refine_8=>rw [d2];exact Q7a h3 h4
  all_goals simp [a1,a2,b1,b2,c1,d1,e1,e2,r0V,r5V,AV.rel,AV.QH,E.ok,E.den]
end Go.Proofs.YtmfeholdlgfpbaaGreatDoor
namespace Go.Proofs.YtmfeholdlgfpbaaGreatDoor
open Go Go.Ax Go.RowKit Go.Proofs
theorem Zt {X:Ext} {b k:Nat} {p:Ax.Place} (h:∀i q,X.V i=some q->q.blk≠k) (hk:p.blk≠k):∀i q,(X.add b p).V i=some q->q.blk≠k:=by intro i q hq;by_cases e:i=b;subst e;rw [Ext.add_same] at hq;cases hq;exact hk;rw [Ext.QL e] at hq;exact h i q hq
theorem Q8m (G:Env) (n0:Nat):ZL Tryz.prog G n0 311 Qa8:=by
 intro c X H n w args vs r hS hc hg hH h0 hfr hargs fr cs;cases args with
 |cons a al=>cases hS
 |nil=>
  cases hS;have hvs:vs=#[]:=by
   have:vs.toList=[]:=by simpa only [AV.QH] using hargs
   exact Array.toList_inj.1 this
  subst hvs;obtain ⟨u,w',⟨B,rfl,hR⟩,st⟩:=ZV ((Qe4 w).mono (λe w' ⟨B,h1,h2⟩=>(⟨_,h1,B,rfl,h2⟩:∃u,e= .returned u/\∃B,u= .map (some B)/\Qj2 w B w'))) fr cs;obtain ⟨hb,-,hB,es,cl,x,y,hM,⟨cx,x1,rfl,x2,x3⟩,⟨cy,y1,rfl,y2,y3⟩,hP⟩:=hR;obtain ⟨l,hl1,hl2⟩:=Q6g hP _ rfl;have d1:cx≠cy:=λe=>by subst e;rw [x3] at y3;cases y3
  have d2:cx+1≠cy:=λe=>by subst e;rw [x3] at y2;cases y2
  have d3:cx≠cy+1:=λe=>by subst e;rw [x2] at y3;cases y3
  have b1:B≠cx:=λe=>by subst e;rw [x2] at hM;cases hM
  have b2:B≠cx+1:=λe=>by subst e;rw [x3] at hM;cases hM
  have b3:B≠cy:=λe=>by subst e;rw [y2] at hM;cases hM
  have b4:B≠cy+1:=λe=>by subst e;rw [y3] at hM;cases hM
  have lt:∀{b:Nat} {o:Obj},w'.heap[b]?=some o->b<w'.heap.size:=λh=>(Array.getElem?_eq_some_iff.1 h).1
  have F:∀{k:Nat},w.heap.size<k->∀i q,X.V i=some q->q.blk≠k:=λhk i q hq e=>by have:=hH.lt i q hq;omega
  have u0:=hfr n (by omega);have u1:=hfr (n+1) (by omega);have u2:=hfr (n+2) (by omega);have u3:=hfr (n+3) (by omega);have u4:=hfr (n+4) (by omega);have g0:=hH.grow hb;have g1:=g0.place (b:=n+1) (o:=Qit 1) (p:=⟨cx,0,1⟩) u1 (lt x2) (by show n0<=cx;omega) (F x1) (Q55 ⟨rfl,rfl⟩ x2);have g2:=g1.place (b:=n+2) (o:=Qit 4) (p:=⟨cx+1,0,1⟩) (by simp [Ext.add,u2]) (lt x3) (by show n0<=cx+1;omega) (Zt (F (k:=cx+1) (by omega)) (by show cx≠cx+1;omega)) (Q55 ⟨rfl,rfl⟩ x3);have g3:=g2.place (b:=n+3) (o:=Qit 1) (p:=⟨cy,0,1⟩) (by simp [Ext.add,u3]) (lt y2) (by show n0<=cy;omega) (Zt (Zt (F y1) d1) d2) (Q55 ⟨rfl,rfl⟩ y2);have g4:=g3.place (b:=n+4) (o:=Qit 2) (p:=⟨cy+1,0,1⟩) (by simp [Ext.add,u4]) (lt y3) (by show n0<=cy+1;omega) (Zt (Zt (Zt (F (k:=cy+1) (by omega)) d3) (by show cx+1≠cy+1;omega)) (by show cy≠cy+1;omega)) (Q55 ⟨rfl,rfl⟩ y3);have g5:=g4.place (b:=n) (o:= .lmap (Qk1 n)) (p:=⟨B,0,0⟩) (by simp [Ext.add,u0]) (lt hM) (by show n0<=B;omega) (Zt (Zt (Zt (Zt (F hB) b1.symm) b2.symm) b3.symm) b4.symm)
   ⟨es,cl,l,hM,Qe5 (c:=cx) (d:=cy) (by simp [Ext.add]) (by simp [Ext.add]) (by simp [Ext.add]) (by simp [Ext.add]) hl2,hl1⟩
  have hle:X.le (((((X.add (n+1) ⟨cx,0,1⟩).add (n+2) ⟨cx+1,0,1⟩).add (n+3) ⟨cy,0,1⟩).add (n+4) ⟨cy+1,0,1⟩).add n ⟨B,0,0⟩):=((((Ext.Zr u1).trans (Ext.Zr (by simp [Ext.add,u2]))).trans (Ext.Zr (by simp [Ext.add,u3]))).trans (Ext.Zr (by simp [Ext.add,u4]))).trans (Ext.Zr (by simp [Ext.add,u0]))
  refine ⟨_,_,w',st,hle,?_,g5,hb.mono h0,λb hbn hlt=>⟨?_,?_⟩,by show n<=n+5;omega,λb hbn=>?_,?_⟩;simp only [AV.rel];exact ⟨_,Ext.add_same _ _ _,rfl⟩;simp only [Ext.add];rw [if_neg (by omega),if_neg (by omega),if_neg (by omega),if_neg (by omega),if_neg (by omega)];exact hbn;show Tr.get (Tr.set _ _ _) b=_;rw [Tr.Q0 _ _ (by omega),Tr.Q0 _ _ (by omega),Tr.Q0 _ _ (by omega),Tr.Q0 _ _ (by omega),Tr.Q0 _ _ (by omega)];have hbn:n+5<=b:=hbn;simp only [Ext.add];rw [if_neg (by omega),if_neg (by omega),if_neg (by omega),if_neg (by omega),if_neg (by omega)];exact hfr b (by omega);exact Ctx.Q2d hc hle
end Go.Proofs.YtmfeholdlgfpbaaGreatDoor
namespace Go.Proofs.YtmfeholdlgfpbaaGreatDoor
open Go Go.Ax Go.RowKit Go.Proofs
theorem sizeBuilder:(Tryz.prog.info? 358).map (·.size)=some 2:=by kernel_rfl
theorem liesBuilder:liesAt Tryz.prog Tryz.prog.depth 358 (2/Tryz.prog.cellsOf 358) 0 358 1=true:=by kernel_rfl
set_option maxHeartbeats 1000000 in
set_option maxRecDepth 100000 in
theorem Q2j (b:Nat) (w:World) (h0:w.cell? ⟨b,0,none⟩=some (.pointer (some ⟨b,0,none⟩))):
 Calls Tryz.prog 303 #[.pointer (some ⟨b,0,none⟩)] w λe w' =>e= .returned (.tuple #[])/\w' =w:=by
 obtain ⟨j,hj,_⟩:=Option.map_eq_some_iff.1 sizeBuilder
 go_enter Go.Proofs.Tryz.func303,Go.Proofs.Tryz.ntmps303
 go_wp2
 rw [Lib.run_neq_ptr_same w _ Tryz.underlying356 hj]
 go_wp2
 go_end0
 exact ⟨rfl,rfl⟩
set_option maxHeartbeats 1000000 in
set_option maxRecDepth 100000 in
theorem Q1s (b:Nat) (w:World) (h0:w.cell? ⟨b,0,none⟩=some (.pointer none)) (hsh:w.shape? b=some (358,2)) (hfz:w.frozen? ⟨b,0,none⟩=false):
 Calls Tryz.prog 303 #[.pointer (some ⟨b,0,none⟩)] w λe w' =>e= .returned (.tuple #[])/\w' =w.setCell ⟨b,0,none⟩ (.pointer (some ⟨b,0,none⟩)):=by
 obtain ⟨j,hj,hjs⟩:=Option.map_eq_some_iff.1 sizeBuilder
 go_enter Go.Proofs.Tryz.func303,Go.Proofs.Tryz.ntmps303
 go_wp2
 rw [Lib.run_to_unsafe w ⟨b,0,none⟩ Tryz.underlying356 Tryz.underlying434 hj (by rw [hjs];decide) hsh (Nat.zero_lt_succ 1)];simp only [Result.andThen];rw [Oper.upon_value]
 go_wp2
 rw [run_callFunc_extern Tryz.func418 (by kernel_rfl) (by kernel_rfl) (by kernel_rfl) (e:=Extern.AbiNoEscape.same) (by kernel_rfl)];rw [Lib.run_noEscape];simp only [Result.andThen];rw [Oper.upon_value]
 go_wp2
 rw [Lib.run_from_unsafe w ⟨b,0,none⟩ Tryz.underlying434 Tryz.underlying356 hj hsh liesBuilder];simp only [Result.andThen];rw [Oper.upon_value]
 go_wp2
 go_end0
 exact ⟨rfl,rfl⟩
end Go.Proofs.YtmfeholdlgfpbaaGreatDoor
