/-
  The walk of script's reader: verbs, the table of thirteen readers. It says what the table holds, and that what was there is unchanged. Conditions: none.
-/
import Derived.Test.YtgajoiijebbagaaGreatDoorSRead3
import Derived.Carry
namespace Go.Proofs.YtgajoiijebbagaaGreatDoor
open Go.RowKit Go.Proofs

def vVal (rb : Nat) (k : Int) (f : FuncId) : Value := .agg #[.int .i64 k, .func (.func f) #[.pointer (some ⟨rb, 0, none⟩)] #[]]
/-- The table's entries, in the order of the text. -/
def vList (rb : Nat) : List MapEntry := [
  ⟨.string ⟨#[115, 111, 99, 107, 101, 116]⟩, vVal rb 1 97, 0⟩,
  ⟨.string ⟨#[98, 105, 110, 100]⟩, vVal rb 2 98, 1⟩,
  ⟨.string ⟨#[108, 105, 115, 116, 101, 110]⟩, vVal rb 3 99, 2⟩,
  ⟨.string ⟨#[99, 111, 110, 110, 101, 99, 116]⟩, vVal rb 4 100, 3⟩,
  ⟨.string ⟨#[97, 99, 99, 101, 112, 116]⟩, vVal rb 5 101, 4⟩,
  ⟨.string ⟨#[115, 104, 117, 116]⟩, vVal rb 8 101, 5⟩,
  ⟨.string ⟨#[99, 108, 111, 115, 101]⟩, vVal rb 9 101, 6⟩,
  ⟨.string ⟨#[114, 101, 99, 118, 102, 114, 111, 109]⟩, vVal rb 11 101, 7⟩,
  ⟨.string ⟨#[115, 101, 110, 100]⟩, vVal rb 6 102, 8⟩,
  ⟨.string ⟨#[114, 101, 99, 118]⟩, vVal rb 7 99, 9⟩,
  ⟨.string ⟨#[115, 101, 110, 100, 116, 111]⟩, vVal rb 10 103, 10⟩,
  ⟨.string ⟨#[110, 97, 109, 101]⟩, vVal rb 12 104, 11⟩,
  ⟨.string ⟨#[112, 105, 110, 103]⟩, vVal rb 13 105, 12⟩]
def vE (rb : Nat) (i : Nat) : Array MapEntry := ((vList rb).take i).toArray

theorem run_insert_new (w : World) (es : Array MapEntry) (clock : Nat) (k : ByteArray) (v : Value) (hn : Instr.findNow .string (.string k) es.toList 0 = some none) :
    (Instr.mapUpdate 111 (.map (some w.heap.size)) (.string k) v).run Tryz.prog (w.alloc (.map es clock)) = .ok () (w.alloc (.map (es.push ⟨.string k, v, clock⟩) (clock + 1))) := by
  have hb : (w.alloc (.map es clock)).heap[w.heap.size]? = some (.map es clock) := heap_alloc_new _ _
  have hck := MapKept.run_checkKey (P := Tryz.prog) (w := w.alloc (.map es clock)) Tryz.underlying9 (k := .string k) ⟨⟩ false 9999
  have hfk : (Instr.findKey 9 (.string k) es.toList).run Tryz.prog (w.alloc (.map es clock)) = .ok none (w.alloc (.map es clock)) := by
    simp [Instr.findKey, run_underlying Tryz.underlying9, hn]
  have hp : ∀ a b : Obj, (w.heap.push a).setIfInBounds w.heap.size b = w.heap.push b := fun a b => by
    apply Array.ext_getElem?
    intro i
    rw [Array.getElem?_setIfInBounds, Array.getElem?_push, Array.getElem?_push]
    by_cases h : w.heap.size = i
    · subst h; simp
    · rw [if_neg h, if_neg (fun e => h e.symm), if_neg (fun e => h e.symm)]
  simp [Instr.mapUpdate, run_underlying Tryz.underlying111, MapKept.run_getObj_map hb, hck, hfk, MapKept.run_setObj_map _ hb, Result.andThen]
  exact congrArg (fun h => ({ w with heap := h } : World)) (hp _ _)

set_option maxHeartbeats 1000000 in
theorem verbs_any (rb : Nat) (w : World) : Calls Tryz.prog 79 #[.pointer (some ⟨rb, 0, none⟩)] w fun e w' => e = .returned (.map (some w.heap.size)) ∧ w' = w.alloc (.map (vE rb 13) 13) := by
  have hmm : ∀ w : World, (Instr.makeMap 111 none).run Tryz.prog w = .ok (.map (some w.heap.size)) (w.alloc (.map (vE rb 0) 0)) := fun _ => rfl
  have hmf : ∀ (fn : Fn) (first cap : Array Value) (w : World), (Instr.makeFunc fn first cap).run Tryz.prog w = .ok (.func fn first cap) w := fun _ _ _ _ => rfl
  have i0 : ∀ w : World, (Instr.mapUpdate 111 (.map (some w.heap.size)) (.string ⟨#[115, 111, 99, 107, 101, 116]⟩) (.agg #[.int .i64 1, .func (.func 97) #[.pointer (some ⟨rb, 0, none⟩)] #[]])).run Tryz.prog (w.alloc (.map (vE rb 0) 0)) = .ok () (w.alloc (.map (vE rb 1) 1)) := fun w => run_insert_new w (vE rb 0) 0 _ _ rfl
  have i1 : ∀ w : World, (Instr.mapUpdate 111 (.map (some w.heap.size)) (.string ⟨#[98, 105, 110, 100]⟩) (.agg #[.int .i64 2, .func (.func 98) #[.pointer (some ⟨rb, 0, none⟩)] #[]])).run Tryz.prog (w.alloc (.map (vE rb 1) 1)) = .ok () (w.alloc (.map (vE rb 2) 2)) := fun w => run_insert_new w (vE rb 1) 1 _ _ rfl
  have i2 : ∀ w : World, (Instr.mapUpdate 111 (.map (some w.heap.size)) (.string ⟨#[108, 105, 115, 116, 101, 110]⟩) (.agg #[.int .i64 3, .func (.func 99) #[.pointer (some ⟨rb, 0, none⟩)] #[]])).run Tryz.prog (w.alloc (.map (vE rb 2) 2)) = .ok () (w.alloc (.map (vE rb 3) 3)) := fun w => run_insert_new w (vE rb 2) 2 _ _ rfl
  have i3 : ∀ w : World, (Instr.mapUpdate 111 (.map (some w.heap.size)) (.string ⟨#[99, 111, 110, 110, 101, 99, 116]⟩) (.agg #[.int .i64 4, .func (.func 100) #[.pointer (some ⟨rb, 0, none⟩)] #[]])).run Tryz.prog (w.alloc (.map (vE rb 3) 3)) = .ok () (w.alloc (.map (vE rb 4) 4)) := fun w => run_insert_new w (vE rb 3) 3 _ _ rfl
  have i4 : ∀ w : World, (Instr.mapUpdate 111 (.map (some w.heap.size)) (.string ⟨#[97, 99, 99, 101, 112, 116]⟩) (.agg #[.int .i64 5, .func (.func 101) #[.pointer (some ⟨rb, 0, none⟩)] #[]])).run Tryz.prog (w.alloc (.map (vE rb 4) 4)) = .ok () (w.alloc (.map (vE rb 5) 5)) := fun w => run_insert_new w (vE rb 4) 4 _ _ rfl
  have i5 : ∀ w : World, (Instr.mapUpdate 111 (.map (some w.heap.size)) (.string ⟨#[115, 104, 117, 116]⟩) (.agg #[.int .i64 8, .func (.func 101) #[.pointer (some ⟨rb, 0, none⟩)] #[]])).run Tryz.prog (w.alloc (.map (vE rb 5) 5)) = .ok () (w.alloc (.map (vE rb 6) 6)) := fun w => run_insert_new w (vE rb 5) 5 _ _ rfl
  have i6 : ∀ w : World, (Instr.mapUpdate 111 (.map (some w.heap.size)) (.string ⟨#[99, 108, 111, 115, 101]⟩) (.agg #[.int .i64 9, .func (.func 101) #[.pointer (some ⟨rb, 0, none⟩)] #[]])).run Tryz.prog (w.alloc (.map (vE rb 6) 6)) = .ok () (w.alloc (.map (vE rb 7) 7)) := fun w => run_insert_new w (vE rb 6) 6 _ _ rfl
  have i7 : ∀ w : World, (Instr.mapUpdate 111 (.map (some w.heap.size)) (.string ⟨#[114, 101, 99, 118, 102, 114, 111, 109]⟩) (.agg #[.int .i64 11, .func (.func 101) #[.pointer (some ⟨rb, 0, none⟩)] #[]])).run Tryz.prog (w.alloc (.map (vE rb 7) 7)) = .ok () (w.alloc (.map (vE rb 8) 8)) := fun w => run_insert_new w (vE rb 7) 7 _ _ rfl
  have i8 : ∀ w : World, (Instr.mapUpdate 111 (.map (some w.heap.size)) (.string ⟨#[115, 101, 110, 100]⟩) (.agg #[.int .i64 6, .func (.func 102) #[.pointer (some ⟨rb, 0, none⟩)] #[]])).run Tryz.prog (w.alloc (.map (vE rb 8) 8)) = .ok () (w.alloc (.map (vE rb 9) 9)) := fun w => run_insert_new w (vE rb 8) 8 _ _ rfl
  have i9 : ∀ w : World, (Instr.mapUpdate 111 (.map (some w.heap.size)) (.string ⟨#[114, 101, 99, 118]⟩) (.agg #[.int .i64 7, .func (.func 99) #[.pointer (some ⟨rb, 0, none⟩)] #[]])).run Tryz.prog (w.alloc (.map (vE rb 9) 9)) = .ok () (w.alloc (.map (vE rb 10) 10)) := fun w => run_insert_new w (vE rb 9) 9 _ _ rfl
  have i10 : ∀ w : World, (Instr.mapUpdate 111 (.map (some w.heap.size)) (.string ⟨#[115, 101, 110, 100, 116, 111]⟩) (.agg #[.int .i64 10, .func (.func 103) #[.pointer (some ⟨rb, 0, none⟩)] #[]])).run Tryz.prog (w.alloc (.map (vE rb 10) 10)) = .ok () (w.alloc (.map (vE rb 11) 11)) := fun w => run_insert_new w (vE rb 10) 10 _ _ rfl
  have i11 : ∀ w : World, (Instr.mapUpdate 111 (.map (some w.heap.size)) (.string ⟨#[110, 97, 109, 101]⟩) (.agg #[.int .i64 12, .func (.func 104) #[.pointer (some ⟨rb, 0, none⟩)] #[]])).run Tryz.prog (w.alloc (.map (vE rb 11) 11)) = .ok () (w.alloc (.map (vE rb 12) 12)) := fun w => run_insert_new w (vE rb 11) 11 _ _ rfl
  have i12 : ∀ w : World, (Instr.mapUpdate 111 (.map (some w.heap.size)) (.string ⟨#[112, 105, 110, 103]⟩) (.agg #[.int .i64 13, .func (.func 105) #[.pointer (some ⟨rb, 0, none⟩)] #[]])).run Tryz.prog (w.alloc (.map (vE rb 12) 12)) = .ok () (w.alloc (.map (vE rb 13) 13)) := fun w => run_insert_new w (vE rb 12) 12 _ _ rfl
  go_enter Tryz.func79, Tryz.ntmps79
  go_wp2
  go_ret
  exact ⟨rfl, rfl⟩

end Go.Proofs.YtgajoiijebbagaaGreatDoor
