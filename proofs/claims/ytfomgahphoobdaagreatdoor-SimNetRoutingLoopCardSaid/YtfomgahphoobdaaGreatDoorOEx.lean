/-
  Flows that are not too old: the filter's expire does nothing, whatever order the map is gone through. Conditions: none.
-/
import Derived.Test.YtfomgahphoobdaaGreatDoorProg
import Derived.Test.YtfomgahphoobdaaGreatDoorOAxG
import Derived.WalkKit
import Derived.WalkSpells
import Derived.WalkMore
import Derived.WalkLawsBesides
import Derived.Deep.QuietTactic
import Derived.BigQuiet
import Derived.Lib.Hide
import Derived.Laws.BitsLemmas
import Derived.Laws.MakeOwn
import Derived.Laws.Cells
import Derived.Laws.BytesString
namespace Go.Proofs.YtfomgahphoobdaaGreatDoor
open Go.RowKit Go.Proofs
set_option maxRecDepth 100000 in
set_option maxHeartbeats 800000 in
theorem expire_any (F o mb : Nat) (now : Int) (es : Array MapEntry) (clock : Nat) (w : World) (hF : w.cell? ⟨F, o + 1, none⟩ = some (.map (some mb))) (hb : w.heap[mb]? = some (.map es clock)) (hold : ∀ x ∈ es.toList, x.born < clock) (hn : (es.toList.map (·.born)).Nodup)
    (hkey : ∀ x ∈ es.toList, ∃ a b c d e : Int, x.key = .agg #[.int .i64 a, .int .i64 b, .int .i64 c, .int .i64 d, .int .i64 e])
    (hval : ∀ x ∈ es.toList, ∃ l n : Int, x.val = .agg #[.int .i64 l, .int .i64 n] ∧ (decide (now > l) && decide (IntKind.u64.wrap (IntKind.u64.wrap now - IntKind.u64.wrap l) > 400)) = false) :
    Calls Tryz.prog 414 #[.pointer (some ⟨F, o, none⟩), .int .i64 now] w fun e w' => e = .returned (.tuple #[]) ∧ Below w.heap.size w w' := by
  have hrg := run_range_map (P := Tryz.prog) w 202 605 608 mb es clock Tryz.underlying202 hb
  go_enter Tryz.func414, Tryz.ntmps414
  go_wp2
  have hmlt : mb < w.heap.size := by
    rcases Nat.lt_or_ge mb w.heap.size with h | h
    · exact h
    · simp [Array.getElem?_eq_none h] at hb
  go_loopw [11] (fun _ wr => ∃ (seen : Array Nat), wr.heap[w.heap.size]? = some (.mapIter (some mb) clock seen clock) ∧ wr.heap[mb]? = some (.map es clock) ∧ Below w.heap.size w wr) (fun _ wr => (leftOf es (wr.iterSeen w.heap.size)).size)
  case atStart => exact ⟨#[], heap_alloc_new w _, by rw [heap_alloc_old w _ hmlt]; exact hb, (Below.refl _ _).alloc (Nat.le_refl _) _⟩
  case round =>
    obtain ⟨seen, hr, hbr, hB⟩ := hrel
    have law := Ax.run_next_at (P := Tryz.prog) wr 0 w.heap.size mb clock clock seen es clock hr hbr hold (Nat.le_refl _)
    rcases law with ⟨h0, hrun⟩ | ⟨e, he, d, hrun⟩
    · have hnx : ∀ ty, (Instr.next (.pointer (some ⟨w.heap.size, 0, none⟩)) false ty).run Tryz.prog wr = _ := fun _ => hrun
      go_wp2
      refine bodyPost_end (results_none rfl _ _ _) rfl ?_
      exact ⟨rfl, hB⟩
    · have hlr : w.heap.size < wr.heap.size := by
        rcases Nat.lt_or_ge w.heap.size wr.heap.size with h | h
        · exact h
        · simp [Array.getElem?_eq_none h] at hr
      have hW : ∃ W1 : World, W1 = { wr with heap := wr.heap.setIfInBounds w.heap.size (.mapIter (some mb) clock (seen.push e.born) clock), drawn := d } := ⟨_, rfl⟩
      obtain ⟨W1, hW⟩ := hW
      have hr1 : W1.heap[w.heap.size]? = some (.mapIter (some mb) clock (seen.push e.born) clock) := by rw [hW]; simp [hlr]
      have hb1 : W1.heap[mb]? = some (.map es clock) := by
        rw [hW]; simp only [Array.getElem?_setIfInBounds]; rw [if_neg (by omega)]; exact hbr
      have hB1 : Below w.heap.size w W1 := hB.trans (by rw [hW]; exact ⟨rfl, rfl, rfl, by simp, fun k hk => by simp only [Array.getElem?_setIfInBounds]; rw [if_neg (by omega)]⟩)
      have hs1 : W1.iterSeen w.heap.size = seen.push e.born := by unfold World.iterSeen; rw [hr1]
      have hs0 : wr.iterSeen w.heap.size = seen := by unfold World.iterSeen; rw [hr]
      have hnx : ∀ ty, (Instr.next (.pointer (some ⟨w.heap.size, 0, none⟩)) false ty).run Tryz.prog wr = .ok _ W1 := fun _ => by rw [hW]; exact hrun
      have hen := Ax.run_entry_at (P := Tryz.prog) W1 w.heap.size mb clock seen es clock clock e hr1 hb1 (mem_left he).1 hn rfl
      obtain ⟨ka, kb, kc, kd, ke, hk⟩ := hkey e (mem_left he).1
      obtain ⟨l, n, hv, hlt⟩ := hval e (mem_left he).1
      have hsh := left_shrinks es seen e he
      have HB := Lib.hid hB1; have HR := Lib.hid hr1; have HM := Lib.hid hb1; have HS := Lib.hid hsh; have HX := Lib.hid hs1; have HY := Lib.hid hs0; have HZ := Lib.hid (show W1.heap.size = wr.heap.size by rw [hW]; simp)
      rw [hk, hv] at hnx hen
      clear hrun hW hr hbr hB hold hn hkey hval he hk hv hr1 hb1 hB1 hs1 hs0 hsh hb hF hrg
      have hsz : W1.heap.size = wr.heap.size := HZ.out
      have fin : ∀ (o1 o2 : Obj), (∃ seen : Array Nat, ((W1.alloc o1).alloc o2).heap[w.heap.size]? = some (.mapIter (some mb) clock seen clock) ∧ ((W1.alloc o1).alloc o2).heap[mb]? = some (.map es clock) ∧ Below w.heap.size w ((W1.alloc o1).alloc o2)) ∧
          (leftOf es (((W1.alloc o1).alloc o2).iterSeen w.heap.size)).size < (leftOf es (wr.iterSeen w.heap.size)).size := fun o1 o2 => by
        have e1 : ∀ r, r < W1.heap.size → ((W1.alloc o1).alloc o2).heap[r]? = W1.heap[r]? := fun r hr => by
          rw [heap_alloc_old _ _ (by show r < (W1.heap.push o1).size; simp; omega), heap_alloc_old _ _ hr]
        have e2 := (e1 w.heap.size (by omega)).trans HR.out
        refine ⟨⟨_, e2, (e1 mb (by omega)).trans HM.out, (HB.out.alloc (by omega) _).alloc (by simp; omega) _⟩, ?_⟩
        have e3 : ((W1.alloc o1).alloc o2).iterSeen w.heap.size = seen.push e.born := by unfold World.iterSeen; rw [e2]
        rw [e3, HY.out]
        exact HS.out
      go_wp2_with fail
      all_goals first
        | exact fin _ _
        | (exfalso; simp only [Bool.and_eq_false_iff, decide_eq_false_iff_not] at hlt; rcases hlt with h | h <;> omega)
end Go.Proofs.YtfomgahphoobdaaGreatDoor

/-! The stream that a side sends: a text of the length asked for. Conditions: none. -/
namespace Go.Proofs.YtfomgahphoobdaaGreatDoor
open Go.RowKit Go.Proofs
def byteCs (cs : Array Value) (n : Nat) : Prop := cs.size = n ∧ ∀ j, j < n → ∃ z : Int, cs[j]? = some (.int .u8 z)
theorem made_bytes (n : Nat) : byteCs (madeCells #[.int .u8 0] n) n :=
  ⟨size_madeCells _ _, fun j hj => ⟨0, by simp [madeCells, hj, Nat.mod_one]⟩⟩
theorem set_bytes {cs : Array Value} {n : Nat} (h : byteCs cs n) (k : Nat) (z : Int) : byteCs (cs.setIfInBounds k (.int .u8 z)) n := by
  refine ⟨by simp [h.1], fun j hj => ?_⟩
  obtain ⟨y, hy⟩ := h.2 j hj
  by_cases e : k = j
  · exact ⟨z, by rw [Array.getElem?_setIfInBounds, if_pos e]; simp [h.1]; omega⟩
  · exact ⟨y, by rw [Array.getElem?_setIfInBounds, if_neg e]; exact hy⟩
def numAt (cs : Array Value) (j : Nat) : Int := match cs[j]? with | some (.int .u8 z) => z | _ => 0
theorem text_of {w : World} {b n c : Nat} {cs : Array Value} {t : TypeId} {fr : Nat × Nat} (hb : w.heap[b]? = some (.cells cs t fr)) (h : byteCs cs n) {src dst e : TypeId}
    (hs : Tryz.prog.underlying src = some (.slice e)) (he : Tryz.prog.underlying e = some (.int .u8)) (hd : Tryz.prog.underlying dst = some .string) :
    ∃ s : ByteArray, (convert src dst (.slice (some ⟨b, 0, none⟩) n c)).run Tryz.prog w = .ok (.string s) w ∧ s.size = n := by
  rw [run_convert_bytes_string w src dst e _ _ _ hs he hd]
  have hl := run_loadCells_list (P := Tryz.prog) (w := w) ⟨b, 0, none⟩ ((List.range n).map fun j => Value.int .u8 (numAt cs j)) fun j v hv => by
    rw [List.getElem?_map] at hv
    obtain ⟨i, hi, rfl⟩ := Option.map_eq_some_iff.1 hv
    obtain ⟨hj, he⟩ := List.getElem?_eq_some_iff.1 hi
    simp only [List.getElem_range] at he
    subst he
    obtain ⟨z, hz⟩ := h.2 _ (by simpa using hj)
    have ha : (⟨b, 0, none⟩ : Addr).add j = ⟨b, j, none⟩ := by
      unfold Addr.add
      split
      · rename_i h0; rw [h0]
      · simp
    rw [ha]
    unfold World.cell?
    simp [hb, hz, numAt]
  have hr := run_bytesToString (P := Tryz.prog) w ⟨b, 0, none⟩ n c ((List.range n).map (numAt cs)) (by simpa [List.map_map, Function.comp_def] using hl)
  refine ⟨_, hr, ?_⟩
  have key : ∀ (l : List Int) (s : ByteArray), (l.foldl (fun r n => r.push (UInt8.ofNat n.toNat)) s).size = s.size + l.length := by
    intro l
    induction l with
    | nil => intro s; rfl
    | cons a l ih => intro s; simp only [List.foldl_cons, ih, ByteArray.size_push, List.length_cons]; omega
  rw [key]
  simp
theorem infoU8 : (Tryz.prog.info? 5).map (fun i => (i.zero, i.size, i.bytes)) = some (some (.int .u8 0), 1, 1) := by kernel_rfl
set_option maxRecDepth 100000 in
set_option maxHeartbeats 800000 in
theorem payload_any (n : Nat) (w : World) (hn : n ≤ 100000) :
    Calls Tryz.prog 26 #[.int .i64 0, .int .i64 n] w fun e w' => (∃ s : ByteArray, e = .returned (.string s) ∧ s.size = n) ∧ Below w.heap.size w w' := by
  have hmk : (Instr.makeSlice 156 (.int .i64 n) (.int .i64 n)).run Tryz.prog w = .ok (.slice (some ⟨w.heap.size, 0, none⟩) n n) (w.alloc (.cells (madeCells #[.int .u8 0] n) 5)) := by
    obtain ⟨i, hi, he⟩ := Option.map_eq_some_iff.1 infoU8
    simp only [Prod.mk.injEq] at he
    have := run_makeSlice (P := Tryz.prog) (w := w) 156 5 i _ Tryz.underlying156 hi he.1 .i64 .i64 n n (by omega) (by omega) (by rw [he.2.1]; simp; omega) (by rw [he.2.2]; simp; omega) (by omega)
    rw [he.2.1] at this
    simpa [Value.cells] using this
  go_enter Tryz.func26, Tryz.ntmps26
  go_wp2
  go_loopw [6] (fun i wr => ∃ k : Nat, k ≤ n ∧ i = .int .i64 k ∧ (∃ cs, wr.heap[w.heap.size]? = some (.cells cs 5 (0, 0)) ∧ byteCs cs n) ∧ Below w.heap.size w wr) (fun i _ => n - (intOf i).toNat)
  case atStart => exact ⟨0, Nat.zero_le _, rfl, ⟨_, heap_alloc_new w _, made_bytes n⟩, (Below.refl _ _).alloc (Nat.le_refl _) _⟩
  case round =>
    obtain ⟨k, hk, rfl, ⟨cs, hcs, hbc⟩, hB⟩ := hrel
    by_cases hlt : k < n
    · obtain ⟨z, hz⟩ := hbc.2 k hlt
      have hcell : wr.cell? ⟨w.heap.size, k, none⟩ = some (.int .u8 z) := by unfold World.cell?; simp [hcs, hz]
      have hfr : wr.frozen? ⟨w.heap.size, k, none⟩ = false := by unfold World.frozen?; simp only [hcs]; simp
      have fin : ∀ y : Int, ∃ k' : Nat, k' ≤ n ∧ Value.int .i64 ((k : Int) + 1) = Value.int .i64 k' ∧ (∃ cs, (wr.setCell ⟨w.heap.size, k, none⟩ (.int .u8 y)).heap[w.heap.size]? = some (.cells cs 5 (0, 0)) ∧ byteCs cs n) ∧ Below w.heap.size w (wr.setCell ⟨w.heap.size, k, none⟩ (.int .u8 y)) := fun y => by
        refine ⟨k + 1, by omega, by simp, ⟨cs.setIfInBounds k (.int .u8 y), ?_, set_bytes hbc k y⟩, hB.setCell (Nat.le_refl _) _⟩
        unfold World.setCell
        simp [Array.getElem?_modify, hcs]
      have hm : n - ((k : Int) + 1).toNat < n - k := by omega
      have FIN := Lib.hid fin
      clear fin hbc hB hz
      go_wp2
      refine ⟨FIN.out _, ?_⟩
      simpa [intOf] using hm
    · have hkn : k = n := by omega
      subst hkn
      obtain ⟨s, hconv, hs⟩ := text_of (c := k) hcs hbc Tryz.underlying156 Tryz.underlying5 Tryz.underlying9
      have HB := Lib.hid hB
      clear hB hbc hcs
      go_wp2
      go_ret
      exact ⟨⟨s, rfl, hs⟩, HB.out⟩
end Go.Proofs.YtfomgahphoobdaaGreatDoor
