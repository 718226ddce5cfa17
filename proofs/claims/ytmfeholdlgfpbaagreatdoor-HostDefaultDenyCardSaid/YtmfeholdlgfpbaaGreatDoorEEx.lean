/-
 Flows that are not too old: the filter's expire does nothing, whatever order the map is gone through. Conditions: none.
-/
import Derived.Test.YtmfeholdlgfpbaaGreatDoorProg
import Derived.Test.YtmfeholdlgfpbaaGreatDoorEAxG
import Derived.WalkKit
import Derived.WalkSpells
import Derived.WalkMore
import Derived.WalkLawsBesides
import Derived.Deep.QuietTactic
import Derived.BigQuiet
import Derived.Lib.Hide
import Derived.Laws.BitsLemmas
namespace Go.Proofs.YtmfeholdlgfpbaaGreatDoor
open Go.RowKit Go.Proofs
set_option maxRecDepth 100000 in
set_option maxHeartbeats 800000 in
theorem Qcu (F o mb:Nat) (now:Int) (es:Array MapEntry) (clock:Nat) (w:World) (hF:w.cell? ⟨F,o+1,none⟩=some (.map (some mb))) (hb:w.heap[mb]?=some (.map es clock)) (hold:∀x∈es.toList,x.born<clock) (hn:(es.toList.map (·.born)).Nodup)
 (hkey:∀x∈es.toList,∃a b c d e:Int,x.key= .agg #[.int .i64 a, .int .i64 b, .int .i64 c, .int .i64 d, .int .i64 e])
 (hval:∀x∈es.toList,∃l n:Int,x.val= .agg #[.int .i64 l, .int .i64 n]/\(decide (now>l)&&decide (IntKind.u64.wrap (IntKind.u64.wrap now-IntKind.u64.wrap l)>400))=false):
 Calls Tryz.prog 387 #[.pointer (some ⟨F,o,none⟩), .int .i64 now] w λe w' =>e= .returned (.tuple #[])/\Below w.heap.size w w' :=by
 have hrg:=run_range_map (P:=Tryz.prog) w 166 551 554 mb es clock Tryz.underlying166 hb
 go_enter Tryz.func387,Tryz.ntmps387
 go_wp2
 have hmlt:mb<w.heap.size:=by rcases Nat.lt_or_ge mb w.heap.size with h|h;exact h;simp [Array.getElem?_eq_none h] at hb
 go_loopw [11] (λ_ wr=>∃(seen:Array Nat),wr.heap[w.heap.size]?=some (.mapIter (some mb) clock seen clock)/\wr.heap[mb]?=some (.map es clock)/\Below w.heap.size w wr) (λ_ wr=>(leftOf es (wr.iterSeen w.heap.size)).size)
 case atStart=>exact ⟨#[],heap_alloc_new w _,by rw [heap_alloc_old w _ hmlt];exact hb,(Below.refl _ _).alloc (Nat.le_refl _) _⟩
 case round=>
  obtain ⟨seen,hr,hbr,hB⟩:=hrel;have law:=Ax.run_next_at (P:=Tryz.prog) wr 0 w.heap.size mb clock clock seen es clock hr hbr hold (Nat.le_refl _);rcases law with ⟨h0,hrun⟩|⟨e,he,d,hrun⟩
  . have hnx:∀ty,(Instr.next (.pointer (some ⟨w.heap.size,0,none⟩)) false ty).run Tryz.prog wr=_:=λ_=>hrun
    go_wp2
    refine bodyPost_end (results_none rfl _ _ _) rfl ?_;exact ⟨rfl,hB⟩
  have hlr:w.heap.size<wr.heap.size:=by rcases Nat.lt_or_ge w.heap.size wr.heap.size with h|h;exact h;simp [Array.getElem?_eq_none h] at hr
  have hW:∃W1:World,W1={ wr with heap:=wr.heap.setIfInBounds w.heap.size (.mapIter (some mb) clock (seen.push e.born) clock),drawn:=d}:=⟨_,rfl⟩;obtain ⟨W1,hW⟩:=hW;have hr1:W1.heap[w.heap.size]?=some (.mapIter (some mb) clock (seen.push e.born) clock):=by rw [hW];simp [hlr]
  have hb1:W1.heap[mb]?=some (.map es clock):=by rw [hW];simp only [Array.getElem?_setIfInBounds];rw [if_neg (by omega)];exact hbr
  have hB1:Below w.heap.size w W1:=hB.trans (by rw [hW];exact ⟨rfl,rfl,rfl,by simp,λk hk=>by simp only [Array.getElem?_setIfInBounds];rw [if_neg (by omega)]⟩);have hs1:W1.iterSeen w.heap.size=seen.push e.born:=by unfold World.iterSeen;rw [hr1]
  have hs0:wr.iterSeen w.heap.size=seen:=by unfold World.iterSeen;rw [hr]
  have hnx:∀ty,(Instr.next (.pointer (some ⟨w.heap.size,0,none⟩)) false ty).run Tryz.prog wr= .ok _ W1:=λ_=>by rw [hW];exact hrun
  have hen:=Ax.run_entry_at (P:=Tryz.prog) W1 w.heap.size mb clock seen es clock clock e hr1 hb1 (mem_left he).1 hn rfl
  obtain ⟨ka,kb,kc,kd,ke,hk⟩:=hkey e (mem_left he).1
  obtain ⟨l,n,hv,hlt⟩:=hval e (mem_left he).1
  have hsh:=left_shrinks es seen e he;have HB:=Lib.hid hB1;have HR:=Lib.hid hr1;have HM:=Lib.hid hb1;have HS:=Lib.hid hsh;have HX:=Lib.hid hs1;have HY:=Lib.hid hs0;have HZ:=Lib.hid (show W1.heap.size=wr.heap.size by rw [hW];simp);rw [hk,hv] at hnx hen;clear hrun hW hr hbr hB hold hn hkey hval he hk hv hr1 hb1 hB1 hs1 hs0 hsh hb hF hrg;have hsz:W1.heap.size=wr.heap.size:=HZ.out;have fin:∀(o1 o2:Obj),(∃seen:Array Nat,((W1.alloc o1).alloc o2).heap[w.heap.size]?=some (.mapIter (some mb) clock seen clock)/\((W1.alloc o1).alloc o2).heap[mb]?=some (.map es clock)/\Below w.heap.size w ((W1.alloc o1).alloc o2))/\
   (leftOf es (((W1.alloc o1).alloc o2).iterSeen w.heap.size)).size<(leftOf es (wr.iterSeen w.heap.size)).size:=λo1 o2=>by
   have e1:∀r,r<W1.heap.size->((W1.alloc o1).alloc o2).heap[r]?=W1.heap[r]?:=λr hr=>by rw [heap_alloc_old _ _ (by show r<(W1.heap.push o1).size;simp;omega),heap_alloc_old _ _ hr]
   have e2:=(e1 w.heap.size (by omega)).trans HR.out
   refine ⟨⟨_,e2,(e1 mb (by omega)).trans HM.out,(HB.out.alloc (by omega) _).alloc (by simp;omega) _⟩,?_⟩;have e3:((W1.alloc o1).alloc o2).iterSeen w.heap.size=seen.push e.born:=by unfold World.iterSeen;rw [e2]
   rw [e3,HY.out];exact HS.out
  go_wp2_with fail
  all_goals first
   |exact fin _ _
   |(exfalso;simp only [Bool.and_eq_false_iff,decide_eq_false_iff_not] at hlt;rcases hlt with h|h<;>omega)
end Go.Proofs.YtmfeholdlgfpbaaGreatDoor
