/-
 The receive buffer: a piece is written into the ring where it does not run over; bytes are taken from it. Conditions: none.
-/
import Derived.Test.YtmjjaldodkokbaaGreatDoorProg
import Derived.Test.YtmjjaldodkokbaaGreatDoorHAxG
import Derived.Laws.MakeOwn
import Derived.Laws.Cells
import Derived.Laws.BytesString
import Derived.Lib.BufferWrite
import Derived.WalkKit
import Derived.WalkSpells
import Derived.WalkMore
import Derived.WalkLawsBesides
import Derived.Deep.QuietTactic
import Derived.BigQuiet
import Derived.Lib.Hide
import Derived.Laws.BitsLemmas
import Derived.StillTailTactics
namespace Go.Proofs.YtmjjaldodkokbaaGreatDoor
open Go.RowKit Go.Proofs
theorem Qds : (Tryz.prog.info? 5).map (λ i => (i.zero, i.size, i.bytes)) = some (some (.int .u8 0), 1, 1) := by kernel_rfl
theorem Q01 : (Tryz.prog.info? 5).map (·.size) = some 1 := by kernel_rfl
def Ql5 (c : Array Value) (o : Nat) (s : ByteArray) : Array Value := (c.toList.take o ++ Lib.byteCells s.data.toList ++ c.toList.drop (o + s.size)).toArray
set_option maxRecDepth 100000 in
set_option maxHeartbeats 800000 in
theorem Qgo (bx br n off : Nat) (s : ByteArray) (w : World) (c : Array Value) (t : TypeId) (hx : w.cell? ⟨bx, 0, none⟩ = some (.slice (some ⟨br, 0, none⟩) n n)) (hr : w.heap[br]? = some (.cells c t (0, 0))) (hc : c.size = n)
 (h1 : off + s.size <= n) (h2 : off < n) (hne : bx ≠ br) :
 Calls Tryz.prog 646 #[.pointer (some ⟨bx, 0, none⟩), .int .i64 off, .string s] w λ e w' => e = .returned (.tuple #[]) /\ (w'.heap = (w.setRow br (Ql5 c off s)).heap /\ w'.os = w.os /\ w'.tape = w.tape /\ w'.output = w.output) := by
 have hmod : ((off : Int)).tmod (n : Int) = (off : Int) := by rw [Int.tmod_eq_emod_of_nonneg (by omega)]; exact Int.emod_eq_of_lt (by omega) (by omega)
 have hno : ¬ n = off := by omega
 have hxd : World.cell? { heap := w.heap, tape := w.tape, drawn := w.drawn + 1, os := w.os, output := w.output } ⟨bx, 0, none⟩ = some (.slice (some ⟨br, 0, none⟩) n n) := hx
 have hn0 : ¬ n = 0 := by omega
 have hb0 : (0 : Int) <= (off : Int) := by omega
 have hb1 : (off : Int) <= (n : Int) := by omega
 go_enter Tryz.func646, Tryz.ntmps646
 go_wp2
 go_still_tail 13, (by kernel_rfl)
 generalize hw1 : ({ heap := w.heap, tape := w.tape, drawn := w.drawn + 1, os := w.os, output := w.output } : World) = w1
 have hr1 : w1.heap[br]? = some (.cells c t (0, 0)) := by rw [<- hw1]; exact hr
 have hcp := Lib.run_copy_row_string (P := Tryz.prog) w1 152 9 3 5 br off (n - off) (n - off) s c t Tryz.underlying152 Q01 hr1 (by omega) (by omega)
 generalize hw2 : w1.setRow br (List.take off c.toList ++ Lib.byteCells s.data.toList ++ List.drop (off + s.size) c.toList).toArray = w2 at hcp
 go_wp2
 have hx2 : w2.cell? ⟨bx, 0, none⟩ = some (.slice (some ⟨br, 0, none⟩) n n) := by
  rw [<- hx, <- hw2, <- hw1]
  unfold World.cell? World.setRow
  simp only [Array.getElem?_modify, if_neg (show ¬ br = bx from λ e => hne e.symm)]
 go_still_tail 7, (by kernel_rfl)
 generalize hw3 : ({ heap := w2.heap, tape := w2.tape, drawn := w2.drawn + 1, os := w2.os, output := w2.output } : World) = w3
 have hcp3 := λ sT (z : ByteArray) (hz : z.size = 0) => Lib.run_copy_empty_string (P := Tryz.prog) w3 152 sT 3 5 (some ⟨br, 0, none⟩) n n z Tryz.underlying152 (by kernel_rfl) hz
 go_wp2
 go_end0
 subst hw3 hw2 hw1
 exact ⟨rfl, rfl, rfl, rfl, rfl⟩
set_option maxRecDepth 100000 in
set_option maxHeartbeats 800000 in
theorem jA (bx rd nx : Nat) (w : World) (h1 : w.cell? ⟨bx, 1, none⟩ = some (.int .i64 rd)) (h2 : w.cell? ⟨bx, 2, none⟩ = some (.int .i64 nx)) (hle : rd <= nx) (hnx : nx <= 1000000000) :
 Calls Tryz.prog 341 #[.pointer (some ⟨bx, 0, none⟩)] w λ e w' => e = .returned (.int .i64 ((nx - rd : Nat) : Int)) /\ ∃ d, w' = { w with drawn := d } := by
 have hw : IntKind.i64.wrap ((nx : Int) - (rd : Int)) = ((nx - rd : Nat) : Int) := by rw [Ax.Q6]; omega
 go_enter Tryz.func341, Tryz.ntmps341
 go_wp2
 go_still (by kernel_rfl)
 go_wp2
 go_ret
 exact ⟨rfl, _, rfl⟩
theorem Q26 : ∀ (l : List UInt8) (a : Array UInt8), (l.map (λ b => (b.toNat : Int))).foldl (λ (r : ByteArray) n => r.push (UInt8.ofNat n.toNat)) ⟨a⟩ = ⟨a ++ l.toArray⟩
 | [], a => by simp
 | b :: l, a => by
  have e : (ByteArray.push ⟨a⟩ (UInt8.ofNat (b.toNat : Int).toNat)) = ⟨a.push b⟩ := by
   simp [ByteArray.push]
  rw [List.map_cons, List.foldl_cons, e, Q26 l]
  simp
theorem Q2y {w : World} {b m c : Nat} (l : List UInt8) {t : TypeId} {fr : Nat × Nat} (hb : w.heap[b]? = some (.cells (Lib.byteCells l).toArray t fr)) (hl : l.length = m) {src dst e : TypeId}
 (hs : Tryz.prog.underlying src = some (.slice e)) (he : Tryz.prog.underlying e = some (.int .u8)) (hd : Tryz.prog.underlying dst = some .string) :
 (convert src dst (.slice (some ⟨b, 0, none⟩) m c)).run Tryz.prog w = .ok (.string ⟨l.toArray⟩) w := by
 rw [run_convert_bytes_string w src dst e _ _ _ hs he hd]
 have hll := run_loadCells_list (P := Tryz.prog) (w := w) ⟨b, 0, none⟩ (Lib.byteCells l) λ j v hv => by
  have ha : (⟨b, 0, none⟩ : Addr).add j = ⟨b, j, none⟩ := by
   unfold Addr.add
   split
   . rename_i h0; rw [h0]
   . simp
  rw [ha]
  unfold World.cell?
  simp only [hb]
  simpa using hv
 have hlen : (Lib.byteCells l).length = m := by simp [Lib.byteCells, hl]
 rw [hlen] at hll
 have e1 : Lib.byteCells l = (l.map (λ b => (b.toNat : Int))).map (Value.int .u8) := by simp [Lib.byteCells]
 rw [e1] at hll
 rw [run_bytesToString (P := Tryz.prog) w ⟨b, 0, none⟩ m c _ hll]
 have := Q26 l #[]
 simp only [Array.empty_append] at this
 rw [<- this]
 rfl
theorem heap_alloc_old (w : World) (o : Obj) {k : Nat} (h : k < w.heap.size) : (w.alloc o).heap[k]? = w.heap[k]? := by
 unfold World.alloc
 simp only [Array.getElem?_push]
 rw [if_neg (by omega)]
theorem ZN (w : World) (o : Obj) {b j : Nat} (h : b < w.heap.size) : (w.alloc o).cell? ⟨b, j, none⟩ = w.cell? ⟨b, j, none⟩ := by
 unfold World.cell?
 rw [heap_alloc_old w o h]
set_option maxRecDepth 100000 in
set_option maxHeartbeats 800000 in
theorem Qfg (bx br n rd nx m : Nat) (w : World) (c : Array Value) (t : TypeId) (l : List UInt8) (h0 : w.cell? ⟨bx, 0, none⟩ = some (.slice (some ⟨br, 0, none⟩) n n)) (h1 : w.cell? ⟨bx, 1, none⟩ = some (.int .i64 rd)) (h2 : w.cell? ⟨bx, 2, none⟩ = some (.int .i64 nx))
 (hf : w.frozen? ⟨bx, 1, none⟩ = false) (hr : w.heap[br]? = some (.cells c t (0, 0))) (hc : c.size = n) (hm : 0 < m) (hmx : rd + m <= nx) (hnx : rd + m <= n) (hrd : rd < n) (hn : n <= 100000) (hl : l.length = m) (hcell : ∀ j y, l[j]? = some y -> c[rd + j]? = some (.int .u8 y.toNat)) (hbx : bx < w.heap.size) (hnb : nx <= 1000000000) :
 Calls Tryz.prog 339 #[.pointer (some ⟨bx, 0, none⟩), .int .i64 m] w λ e w' => e = .returned (.string ⟨l.toArray⟩) /\ (w.setCell ⟨bx, 1, none⟩ (.int .i64 ((rd + m : Nat) : Int))).heap.size <= w'.heap.size /\ (∀ k, k < w.heap.size -> w'.heap[k]? = (w.setCell ⟨bx, 1, none⟩ (.int .i64 ((rd + m : Nat) : Int))).heap[k]?) /\ w'.os = w.os /\ w'.tape = w.tape /\ w'.output = w.output := by
 have hn0 : ¬ n = 0 := by omega
 go_enter Tryz.func339, Tryz.ntmps339
 go_wp2_with fail
 refine (jA bx rd nx w h1 h2 (by omega) hnb).mono ?_
 rintro e w1 ⟨rfl, d1, hw1⟩
 have g0 : w1.cell? ⟨bx, 0, none⟩ = some (.slice (some ⟨br, 0, none⟩) n n) := by rw [hw1]; exact h0
 have g1 : w1.cell? ⟨bx, 1, none⟩ = some (.int .i64 rd) := by rw [hw1]; exact h1
 have gr : w1.heap[br]? = some (.cells c t (0, 0)) := by rw [hw1]; exact hr
 have hbr : br < w1.heap.size := by
  rcases Nat.lt_or_ge br w1.heap.size with h | h
  . exact h
  . rw [Array.getElem?_eq_none h] at gr; cases gr
 have hbx1 : bx < w1.heap.size := by rw [hw1]; exact hbx
 have hmin : min (m : Int) ((nx - rd : Nat) : Int) = (m : Int) := by omega
 have hpos : ¬ (m : Int) <= 0 := by omega
 have hmk : (Instr.makeSlice 152 (.int .i64 m) (.int .i64 m)).run Tryz.prog w1 = .ok (.slice (some ⟨w1.heap.size, 0, none⟩) m m) (w1.alloc (.cells (madeCells #[.int .u8 0] m) 5)) := by
  obtain ⟨i, hi, he⟩ := Option.map_eq_some_iff.1 Qds
  simp only [Prod.mk.injEq] at he
  have := run_makeSlice (P := Tryz.prog) (w := w1) 152 5 i _ Tryz.underlying152 hi he.1 .i64 .i64 m m (by omega) (by omega) (by rw [he.2.1]; simp; omega) (by rw [he.2.2]; simp; omega) (by omega)
  rw [he.2.1] at this
  simpa [Value.cells] using this
 have HE := Lib.hid (show w1.heap = w.heap /\ w1.os = w.os /\ w1.tape = w.tape /\ w1.output = w.output by rw [hw1]; exact ⟨rfl, rfl, rfl, rfl⟩)
 have gf : w1.frozen? ⟨bx, 1, none⟩ = false := by rw [hw1]; exact hf
 clear h0 h1 h2 hw1 hr hf hbx
 go_wp2_with fail
 have hlt : br ≠ w1.heap.size := by omega
 have k0 : (w1.alloc (.cells (madeCells #[.int .u8 0] m) 5)).cell? ⟨bx, 0, none⟩ = some (.slice (some ⟨br, 0, none⟩) n n) := by rw [<- g0]; exact ZN w1 _ hbx1
 have k1 : (w1.alloc (.cells (madeCells #[.int .u8 0] m) 5)).cell? ⟨bx, 1, none⟩ = some (.int .i64 rd) := by rw [<- g1]; exact ZN w1 _ hbx1
 have kr : (w1.alloc (.cells (madeCells #[.int .u8 0] m) 5)).heap[br]? = some (.cells c t (0, 0)) := by rw [heap_alloc_old _ _ hbr]; exact gr
 have kn : (w1.alloc (.cells (madeCells #[.int .u8 0] m) 5)).heap[w1.heap.size]? = some (.cells (madeCells #[.int .u8 0] m) 5 (0, 0)) := heap_alloc_new w1 _
 generalize hw2 : w1.alloc (.cells (madeCells #[.int .u8 0] m) 5) = w2 at k0 k1 kr kn
 have hmod : ((rd : Int)).tmod (n : Int) = (rd : Int) := by rw [Int.tmod_eq_emod_of_nonneg (by omega)]; exact Int.emod_eq_of_lt (by omega) (by omega)
 have hno : ¬ n = rd := by omega
 have hb0 : (0 : Int) <= (rd : Int) := by omega
 have hb1 : (rd : Int) <= (n : Int) := by omega
 go_still_tail 16, (by kernel_rfl)
 generalize hw3 : ({ heap := w2.heap, tape := w2.tape, drawn := w2.drawn + 1, os := w2.os, output := w2.output } : World) = w3
 have j0 : w3.cell? ⟨bx, 0, none⟩ = some (.slice (some ⟨br, 0, none⟩) n n) := by rw [<- hw3]; exact k0
 have j1 : w3.cell? ⟨bx, 1, none⟩ = some (.int .i64 rd) := by rw [<- hw3]; exact k1
 have jr : w3.heap[br]? = some (.cells c t (0, 0)) := by rw [<- hw3]; exact kr
 have jn : w3.heap[w1.heap.size]? = some (.cells (madeCells #[.int .u8 0] m) 5 (0, 0)) := by rw [<- hw3]; exact kn
 have hll : (Lib.byteCells l).length = m := by simp [Lib.byteCells, hl]
 have hmin2 : Nat.min (n - rd) m = m := Nat.min_eq_right (by omega)
 have hcp := run_copy_row (P := Tryz.prog) w3 152 152 3 5 w1.heap.size 0 m m ⟨br, rd, none⟩ (n - rd) (n - rd) (madeCells #[.int .u8 0] m) 5 (Lib.byteCells l) Tryz.underlying152 Q01 jn (by rw [hll, hmin2]) (λ j v hj => by
  simp only [Lib.byteCells, List.getElem?_map] at hj
  cases hy : l[j]? with
  | none => rw [hy] at hj; cases hj
  | some y =>
   rw [hy] at hj
   simp only [Option.map_some, Option.some.injEq] at hj
   subst hj
   have hv := hcell j y hy
   unfold World.cell? Addr.add
   by_cases hj0 : j = 0
   . subst hj0; simp [jr]; simpa using hv
   . simp [hj0, jr]; simpa using hv) (by rw [hll]; simp [size_madeCells]) (Lib.byteCells_one _)
 rw [hll] at hcp
 have hrow : ((madeCells #[.int .u8 0] m).toList.take 0 ++ Lib.byteCells l ++ (madeCells #[.int .u8 0] m).toList.drop (0 + m)).toArray = (Lib.byteCells l).toArray := by
  rw [List.drop_eq_nil_of_le (by simp [size_madeCells]), List.append_nil, List.take_zero, List.nil_append]
 rw [hrow] at hcp
 have q0 : (w3.setRow w1.heap.size (Lib.byteCells l).toArray).cell? ⟨bx, 0, none⟩ = some (.slice (some ⟨br, 0, none⟩) n n) := by
  rw [<- j0]; unfold World.cell? World.setRow; simp only [Array.getElem?_modify, if_neg (show ¬ w1.heap.size = bx by omega)]
 have q1 : (w3.setRow w1.heap.size (Lib.byteCells l).toArray).cell? ⟨bx, 1, none⟩ = some (.int .i64 rd) := by
  rw [<- j1]; unfold World.cell? World.setRow; simp only [Array.getElem?_modify, if_neg (show ¬ w1.heap.size = bx by omega)]
 have qn : (w3.setRow w1.heap.size (Lib.byteCells l).toArray).heap[w1.heap.size]? = some (.cells (Lib.byteCells l).toArray 5 (0, 0)) := setRow_heap w3 w1.heap.size _ _ _ _ jn
 have qf : (w3.setRow w1.heap.size (Lib.byteCells l).toArray).frozen? ⟨bx, 1, none⟩ = false := by
  rw [<- gf, <- hw3, <- hw2]; unfold World.frozen? World.setRow World.alloc; simp only [Array.getElem?_modify, if_neg (show ¬ w1.heap.size = bx by omega), Array.getElem?_push, if_neg (show ¬ bx = w1.heap.size by omega)]
 generalize hw4 : w3.setRow w1.heap.size (Lib.byteCells l).toArray = w4 at hcp q0 q1 qn qf
 clear hcell hrow k0 k1 kr kn j0 j1 jr jn g0 g1 gr gf
 go_wp2_with fail
 have hle0 : (0 : Int) <= (m : Int) := by omega
 go_still_tail 7, (by kernel_rfl)
 generalize hw5 : ({ heap := w4.heap, tape := w4.tape, drawn := w4.drawn + 1, os := w4.os, output := w4.output } : World) = w5
 have r1 : w5.cell? ⟨bx, 1, none⟩ = some (.int .i64 rd) := by rw [<- hw5]; exact q1
 have rf : w5.frozen? ⟨bx, 1, none⟩ = false := by rw [<- hw5]; exact qf
 have rn : w5.heap[w1.heap.size]? = some (.cells (Lib.byteCells l).toArray 5 (0, 0)) := by rw [<- hw5]; exact qn
 have hcp2 := λ (d : Option Addr) => run_copy_none (P := Tryz.prog) w5 152 152 3 5 d (some ⟨br, 0, none⟩) 0 0 n n Tryz.underlying152 Q01 (by simp)
 have hadd : IntKind.i64.wrap ((rd : Int) + (m : Int)) = ((rd + m : Nat) : Int) := by rw [Ax.Q6]; omega
 clear q0 q1 qn qf hcp
 go_wp2_with fail
 have hne2 : ¬ bx = w1.heap.size := by omega
 have sn : (w5.setCell ⟨bx, 1, none⟩ (.int .i64 ((rd : Int) + (m : Int)))).heap[w1.heap.size]? = some (.cells (Lib.byteCells l).toArray 5 (0, 0)) := by
  unfold World.setCell
  simp only [Array.getElem?_modify, if_neg hne2]
  exact rn
 have hconv := Q2y (c := m) l sn hl Tryz.underlying152 Tryz.underlying5 Tryz.underlying9
 have HW := Lib.hid hw5
 clear rn r1 rf hcp2 hmk sn hadd
 rw [hconv]
 simp only [Result.andThen]
 rw [Oper.upon_value]
 go_wp2_with fail
 go_ret
 have e := HE.out
 have e5 := HW.out
 subst e5 hw4 hw3 hw2
 refine ⟨rfl, ?_, λ k hk => ?_, e.2.1, e.2.2.1, e.2.2.2⟩
 . simp [World.setCell, World.setRow, World.alloc, e.1]
 . simp only [World.setCell, World.setRow, World.alloc, Array.getElem?_modify, Array.getElem?_push, e.1, Int.natCast_add, if_neg (show ¬ w.heap.size = k by omega), if_neg (show ¬ k = w.heap.size by omega)]
set_option maxRecDepth 100000 in
set_option maxHeartbeats 800000 in
theorem Qce (bx br n rd nx m : Nat) (a : Int) (w : World) (c : Array Value) (t : TypeId) (l : List UInt8) (h0 : w.cell? ⟨bx, 0, none⟩ = some (.slice (some ⟨br, 0, none⟩) n n)) (h1 : w.cell? ⟨bx, 1, none⟩ = some (.int .i64 rd)) (h2 : w.cell? ⟨bx, 2, none⟩ = some (.int .i64 nx))
 (hf : w.frozen? ⟨bx, 1, none⟩ = false) (hr : w.heap[br]? = some (.cells c t (0, 0))) (hc : c.size = n) (hm : 0 < m) (hmx : rd + m <= nx) (hnx : rd + m <= n) (hrd : rd < n) (hn : n <= 100000) (hl : l.length = m) (hcell : ∀ j y, l[j]? = some y -> c[rd + j]? = some (.int .u8 y.toNat)) (hbx : bx < w.heap.size) (hnb : nx <= 1000000000) (hgt : (m : Int) < a) (hav : nx - rd = m) :
 Calls Tryz.prog 339 #[.pointer (some ⟨bx, 0, none⟩), .int .i64 a] w λ e w' => e = .returned (.string ⟨l.toArray⟩) /\ (w.setCell ⟨bx, 1, none⟩ (.int .i64 ((rd + m : Nat) : Int))).heap.size <= w'.heap.size /\ (∀ k, k < w.heap.size -> w'.heap[k]? = (w.setCell ⟨bx, 1, none⟩ (.int .i64 ((rd + m : Nat) : Int))).heap[k]?) /\ w'.os = w.os /\ w'.tape = w.tape /\ w'.output = w.output := by
 have hn0 : ¬ n = 0 := by omega
 go_enter Tryz.func339, Tryz.ntmps339
 go_wp2_with fail
 refine (jA bx rd nx w h1 h2 (by omega) hnb).mono ?_
 rintro e w1 ⟨he, d1, hw1⟩
 rw [hav] at he
 subst he
 have g0 : w1.cell? ⟨bx, 0, none⟩ = some (.slice (some ⟨br, 0, none⟩) n n) := by rw [hw1]; exact h0
 have g1 : w1.cell? ⟨bx, 1, none⟩ = some (.int .i64 rd) := by rw [hw1]; exact h1
 have gr : w1.heap[br]? = some (.cells c t (0, 0)) := by rw [hw1]; exact hr
 have hbr : br < w1.heap.size := by
  rcases Nat.lt_or_ge br w1.heap.size with h | h
  . exact h
  . rw [Array.getElem?_eq_none h] at gr; cases gr
 have hbx1 : bx < w1.heap.size := by rw [hw1]; exact hbx
 have hmin : min a (m : Int) = (m : Int) := by omega
 have hgt2 : ¬ a <= (m : Int) := by omega
 have hpos : ¬ (m : Int) <= 0 := by omega
 have hmk : (Instr.makeSlice 152 (.int .i64 m) (.int .i64 m)).run Tryz.prog w1 = .ok (.slice (some ⟨w1.heap.size, 0, none⟩) m m) (w1.alloc (.cells (madeCells #[.int .u8 0] m) 5)) := by
  obtain ⟨i, hi, he⟩ := Option.map_eq_some_iff.1 Qds
  simp only [Prod.mk.injEq] at he
  have := run_makeSlice (P := Tryz.prog) (w := w1) 152 5 i _ Tryz.underlying152 hi he.1 .i64 .i64 m m (by omega) (by omega) (by rw [he.2.1]; simp; omega) (by rw [he.2.2]; simp; omega) (by omega)
  rw [he.2.1] at this
  simpa [Value.cells] using this
 have HE := Lib.hid (show w1.heap = w.heap /\ w1.os = w.os /\ w1.tape = w.tape /\ w1.output = w.output by rw [hw1]; exact ⟨rfl, rfl, rfl, rfl⟩)
 have gf : w1.frozen? ⟨bx, 1, none⟩ = false := by rw [hw1]; exact hf
 clear h0 h1 h2 hw1 hr hf hbx
 go_wp2_with fail
 have hlt : br ≠ w1.heap.size := by omega
 have k0 : (w1.alloc (.cells (madeCells #[.int .u8 0] m) 5)).cell? ⟨bx, 0, none⟩ = some (.slice (some ⟨br, 0, none⟩) n n) := by rw [<- g0]; exact ZN w1 _ hbx1
 have k1 : (w1.alloc (.cells (madeCells #[.int .u8 0] m) 5)).cell? ⟨bx, 1, none⟩ = some (.int .i64 rd) := by rw [<- g1]; exact ZN w1 _ hbx1
 have kr : (w1.alloc (.cells (madeCells #[.int .u8 0] m) 5)).heap[br]? = some (.cells c t (0, 0)) := by rw [heap_alloc_old _ _ hbr]; exact gr
 have kn : (w1.alloc (.cells (madeCells #[.int .u8 0] m) 5)).heap[w1.heap.size]? = some (.cells (madeCells #[.int .u8 0] m) 5 (0, 0)) := heap_alloc_new w1 _
 generalize hw2 : w1.alloc (.cells (madeCells #[.int .u8 0] m) 5) = w2 at k0 k1 kr kn
 have hmod : ((rd : Int)).tmod (n : Int) = (rd : Int) := by rw [Int.tmod_eq_emod_of_nonneg (by omega)]; exact Int.emod_eq_of_lt (by omega) (by omega)
 have hno : ¬ n = rd := by omega
 have hb0 : (0 : Int) <= (rd : Int) := by omega
 have hb1 : (rd : Int) <= (n : Int) := by omega
 go_still_tail 16, (by kernel_rfl)
 generalize hw3 : ({ heap := w2.heap, tape := w2.tape, drawn := w2.drawn + 1, os := w2.os, output := w2.output } : World) = w3
 have j0 : w3.cell? ⟨bx, 0, none⟩ = some (.slice (some ⟨br, 0, none⟩) n n) := by rw [<- hw3]; exact k0
 have j1 : w3.cell? ⟨bx, 1, none⟩ = some (.int .i64 rd) := by rw [<- hw3]; exact k1
 have jr : w3.heap[br]? = some (.cells c t (0, 0)) := by rw [<- hw3]; exact kr
 have jn : w3.heap[w1.heap.size]? = some (.cells (madeCells #[.int .u8 0] m) 5 (0, 0)) := by rw [<- hw3]; exact kn
 have hll : (Lib.byteCells l).length = m := by simp [Lib.byteCells, hl]
 have hmin2 : Nat.min (n - rd) m = m := Nat.min_eq_right (by omega)
 have hcp := run_copy_row (P := Tryz.prog) w3 152 152 3 5 w1.heap.size 0 m m ⟨br, rd, none⟩ (n - rd) (n - rd) (madeCells #[.int .u8 0] m) 5 (Lib.byteCells l) Tryz.underlying152 Q01 jn (by rw [hll, hmin2]) (λ j v hj => by
  simp only [Lib.byteCells, List.getElem?_map] at hj
  cases hy : l[j]? with
  | none => rw [hy] at hj; cases hj
  | some y =>
   rw [hy] at hj
   simp only [Option.map_some, Option.some.injEq] at hj
   subst hj
   have hv := hcell j y hy
   unfold World.cell? Addr.add
   by_cases hj0 : j = 0
   . subst hj0; simp [jr]; simpa using hv
   . simp [hj0, jr]; simpa using hv) (by rw [hll]; simp [size_madeCells]) (Lib.byteCells_one _)
 rw [hll] at hcp
 have hrow : ((madeCells #[.int .u8 0] m).toList.take 0 ++ Lib.byteCells l ++ (madeCells #[.int .u8 0] m).toList.drop (0 + m)).toArray = (Lib.byteCells l).toArray := by
  rw [List.drop_eq_nil_of_le (by simp [size_madeCells]), List.append_nil, List.take_zero, List.nil_append]
 rw [hrow] at hcp
 have q0 : (w3.setRow w1.heap.size (Lib.byteCells l).toArray).cell? ⟨bx, 0, none⟩ = some (.slice (some ⟨br, 0, none⟩) n n) := by
  rw [<- j0]; unfold World.cell? World.setRow; simp only [Array.getElem?_modify, if_neg (show ¬ w1.heap.size = bx by omega)]
 have q1 : (w3.setRow w1.heap.size (Lib.byteCells l).toArray).cell? ⟨bx, 1, none⟩ = some (.int .i64 rd) := by
  rw [<- j1]; unfold World.cell? World.setRow; simp only [Array.getElem?_modify, if_neg (show ¬ w1.heap.size = bx by omega)]
 have qn : (w3.setRow w1.heap.size (Lib.byteCells l).toArray).heap[w1.heap.size]? = some (.cells (Lib.byteCells l).toArray 5 (0, 0)) := setRow_heap w3 w1.heap.size _ _ _ _ jn
 have qf : (w3.setRow w1.heap.size (Lib.byteCells l).toArray).frozen? ⟨bx, 1, none⟩ = false := by
  rw [<- gf, <- hw3, <- hw2]; unfold World.frozen? World.setRow World.alloc; simp only [Array.getElem?_modify, if_neg (show ¬ w1.heap.size = bx by omega), Array.getElem?_push, if_neg (show ¬ bx = w1.heap.size by omega)]
 generalize hw4 : w3.setRow w1.heap.size (Lib.byteCells l).toArray = w4 at hcp q0 q1 qn qf
 clear hcell hrow k0 k1 kr kn j0 j1 jr jn g0 g1 gr gf
 go_wp2_with fail
 have hle0 : (0 : Int) <= (m : Int) := by omega
 go_still_tail 7, (by kernel_rfl)
 generalize hw5 : ({ heap := w4.heap, tape := w4.tape, drawn := w4.drawn + 1, os := w4.os, output := w4.output } : World) = w5
 have r1 : w5.cell? ⟨bx, 1, none⟩ = some (.int .i64 rd) := by rw [<- hw5]; exact q1
 have rf : w5.frozen? ⟨bx, 1, none⟩ = false := by rw [<- hw5]; exact qf
 have rn : w5.heap[w1.heap.size]? = some (.cells (Lib.byteCells l).toArray 5 (0, 0)) := by rw [<- hw5]; exact qn
 have hcp2 := λ (d : Option Addr) => run_copy_none (P := Tryz.prog) w5 152 152 3 5 d (some ⟨br, 0, none⟩) 0 0 n n Tryz.underlying152 Q01 (by simp)
 have hadd : IntKind.i64.wrap ((rd : Int) + (m : Int)) = ((rd + m : Nat) : Int) := by rw [Ax.Q6]; omega
 clear q0 q1 qn qf hcp
 go_wp2_with fail
 have hne2 : ¬ bx = w1.heap.size := by omega
 have sn : (w5.setCell ⟨bx, 1, none⟩ (.int .i64 ((rd : Int) + (m : Int)))).heap[w1.heap.size]? = some (.cells (Lib.byteCells l).toArray 5 (0, 0)) := by
  unfold World.setCell
  simp only [Array.getElem?_modify, if_neg hne2]
  exact rn
 have hconv := Q2y (c := m) l sn hl Tryz.underlying152 Tryz.underlying5 Tryz.underlying9
 have HW := Lib.hid hw5
 clear rn r1 rf hcp2 hmk sn hadd
 rw [hconv]
 simp only [Result.andThen]
 rw [Oper.upon_value]
 go_wp2_with fail
 go_ret
 have e := HE.out
 have e5 := HW.out
 subst e5 hw4 hw3 hw2
 refine ⟨rfl, ?_, λ k hk => ?_, e.2.1, e.2.2.1, e.2.2.2⟩
 . simp [World.setCell, World.setRow, World.alloc, e.1]
 . simp only [World.setCell, World.setRow, World.alloc, Array.getElem?_modify, Array.getElem?_push, e.1, Int.natCast_add, if_neg (show ¬ w.heap.size = k by omega), if_neg (show ¬ k = w.heap.size by omega)]
set_option maxRecDepth 100000 in
set_option maxHeartbeats 800000 in
theorem take_zero (bx rd nx : Nat) (a : Int) (w : World) (h1 : w.cell? ⟨bx, 1, none⟩ = some (.int .i64 rd)) (h2 : w.cell? ⟨bx, 2, none⟩ = some (.int .i64 nx)) (hle : rd <= nx) (hnb : nx <= 1000000000) (hmin : min a ((nx - rd : Nat) : Int) <= 0) :
 Calls Tryz.prog 339 #[.pointer (some ⟨bx, 0, none⟩), .int .i64 a] w λ e w' => e = .returned (.string ⟨#[]⟩) /\ w'.heap = w.heap /\ w'.os = w.os /\ w'.tape = w.tape /\ w'.output = w.output := by
 go_enter Tryz.func339, Tryz.ntmps339
 go_wp2_with fail
 refine (jA bx rd nx w h1 h2 hle hnb).mono ?_
 rintro e w1 ⟨rfl, d1, hw1⟩
 have HE := Lib.hid (show w1.heap = w.heap /\ w1.os = w.os /\ w1.tape = w.tape /\ w1.output = w.output by rw [hw1]; exact ⟨rfl, rfl, rfl, rfl⟩)
 clear h1 h2 hw1
 go_wp2_with fail
 all_goals first
  | (exfalso; omega)
  | (go_ret; exact ⟨rfl, HE.out⟩)
end Go.Proofs.YtmjjaldodkokbaaGreatDoor
namespace Go.Proofs.YtmjjaldodkokbaaGreatDoor
open Go.RowKit Go.Proofs
def Q32 (cs : Array Value) (n : Nat) : Prop := cs.size = n /\ ∀ j, j < n -> ∃ z : Int, cs[j]? = some (.int .u8 z)
theorem Qbf (n : Nat) : Q32 (madeCells #[.int .u8 0] n) n :=
 ⟨size_madeCells _ _, λ j hj => ⟨0, by simp [madeCells, hj, Nat.mod_one]⟩⟩
theorem Qcw {cs : Array Value} {n : Nat} (h : Q32 cs n) (k : Nat) (z : Int) : Q32 (cs.setIfInBounds k (.int .u8 z)) n := by
 refine ⟨by simp [h.1], λ j hj => ?_⟩
 obtain ⟨y, hy⟩ := h.2 j hj
 by_cases e : k = j
 . exact ⟨z, by rw [Array.getElem?_setIfInBounds, if_pos e]; simp [h.1]; omega⟩
 . exact ⟨y, by rw [Array.getElem?_setIfInBounds, if_neg e]; exact hy⟩
def Qj2 (cs : Array Value) (j : Nat) : Int := match cs[j]? with | some (.int .u8 z) => z | _ => 0
theorem Qi9 {w : World} {b n c : Nat} {cs : Array Value} {t : TypeId} {fr : Nat × Nat} (hb : w.heap[b]? = some (.cells cs t fr)) (h : Q32 cs n) {src dst e : TypeId}
 (hs : Tryz.prog.underlying src = some (.slice e)) (he : Tryz.prog.underlying e = some (.int .u8)) (hd : Tryz.prog.underlying dst = some .string) :
 ∃ s : ByteArray, (convert src dst (.slice (some ⟨b, 0, none⟩) n c)).run Tryz.prog w = .ok (.string s) w /\ s.size = n := by
 rw [run_convert_bytes_string w src dst e _ _ _ hs he hd]
 have hl := run_loadCells_list (P := Tryz.prog) (w := w) ⟨b, 0, none⟩ ((List.range n).map λ j => Value.int .u8 (Qj2 cs j)) λ j v hv => by
  rw [List.getElem?_map] at hv
  obtain ⟨i, hi, rfl⟩ := Option.map_eq_some_iff.1 hv
  obtain ⟨hj, he⟩ := List.getElem?_eq_some_iff.1 hi
  simp only [List.getElem_range] at he
  subst he
  obtain ⟨z, hz⟩ := h.2 _ (by simpa using hj)
  have ha : (⟨b, 0, none⟩ : Addr).add j = ⟨b, j, none⟩ := by
   unfold Addr.add
   split
   . rename_i h0; rw [h0]
   . simp
  rw [ha]
  unfold World.cell?
  simp [hb, hz, Qj2]
 have hr := run_bytesToString (P := Tryz.prog) w ⟨b, 0, none⟩ n c ((List.range n).map (Qj2 cs)) (by simpa [List.map_map, Function.comp_def] using hl)
 refine ⟨_, hr, ?_⟩
 have key : ∀ (l : List Int) (s : ByteArray), (l.foldl (λ r n => r.push (UInt8.ofNat n.toNat)) s).size = s.size + l.length := by
  intro l
  induction l with
  | nil => intro s; rfl
  | cons a l ih => intro s; simp only [List.foldl_cons, ih, ByteArray.size_push, List.length_cons]; omega
 rw [key]
 simp
theorem Qly : (Tryz.prog.info? 5).map (λ i => (i.zero, i.size, i.bytes)) = some (some (.int .u8 0), 1, 1) := by kernel_rfl
theorem Qba (z : Int) (n : Nat) (w : World) (h0 : 0 < n) :
 Calls Tryz.prog 65 #[.int .i64 z, .int .i64 n] w λ e w' => (∃ y : Int, e = .returned (.int .i64 y)) /\ w' = w := by
 have hn : ¬ (n : Int) = 0 := by omega
 go_enter Tryz.func65, Tryz.ntmps65
 by_cases hz : z < 0
 . go_wp2
   all_goals first
    | (exfalso; omega)
    | (go_ret; exact ⟨⟨_, rfl⟩, rfl⟩)
 . go_wp2
   all_goals first
    | (exfalso; omega)
    | (go_ret; exact ⟨⟨_, rfl⟩, rfl⟩)
set_option maxRecDepth 100000 in
set_option maxHeartbeats 800000 in
theorem Qav (z : Int) (n : Nat) (w : World) (hn : n <= 100000) :
 Calls Tryz.prog 27 #[.int .i64 z, .int .i64 n] w λ e w' => (∃ s : ByteArray, e = .returned (.string s) /\ s.size = n) /\ Below w.heap.size w w' := by
 have hmk : (Instr.makeSlice 152 (.int .i64 n) (.int .i64 n)).run Tryz.prog w = .ok (.slice (some ⟨w.heap.size, 0, none⟩) n n) (w.alloc (.cells (madeCells #[.int .u8 0] n) 5)) := by
  obtain ⟨i, hi, he⟩ := Option.map_eq_some_iff.1 Qly
  simp only [Prod.mk.injEq] at he
  have := run_makeSlice (P := Tryz.prog) (w := w) 152 5 i _ Tryz.underlying152 hi he.1 .i64 .i64 n n (by omega) (by omega) (by rw [he.2.1]; simp; omega) (by rw [he.2.2]; simp; omega) (by omega)
  rw [he.2.1] at this
  simpa [Value.cells] using this
 go_enter Tryz.func27, Tryz.ntmps27
 go_wp2
 go_loopw [6] (λ i wr => ∃ k : Nat, k <= n /\ i = .int .i64 k /\ (∃ cs, wr.heap[w.heap.size]? = some (.cells cs 5 (0, 0)) /\ Q32 cs n) /\ Below w.heap.size w wr) (λ i _ => n - (intOf i).toNat)
 case atStart => exact ⟨0, Nat.zero_le _, rfl, ⟨_, heap_alloc_new w _, Qbf n⟩, (Below.refl _ _).alloc (Nat.le_refl _) _⟩
 case round =>
  obtain ⟨k, hk, rfl, ⟨cs, hcs, hbc⟩, hB⟩ := hrel
  by_cases hlt : k < n
  . obtain ⟨z0, hz⟩ := hbc.2 k hlt
    have hcell : wr.cell? ⟨w.heap.size, k, none⟩ = some (.int .u8 z0) := by unfold World.cell?; simp [hcs, hz]
    have hfr : wr.frozen? ⟨w.heap.size, k, none⟩ = false := by unfold World.frozen?; simp only [hcs]; simp
    have fin : ∀ y : Int, ∃ k' : Nat, k' <= n /\ Value.int .i64 ((k : Int) + 1) = Value.int .i64 k' /\ (∃ cs, (wr.setCell ⟨w.heap.size, k, none⟩ (.int .u8 y)).heap[w.heap.size]? = some (.cells cs 5 (0, 0)) /\ Q32 cs n) /\ Below w.heap.size w (wr.setCell ⟨w.heap.size, k, none⟩ (.int .u8 y)) := λ y => by
     refine ⟨k + 1, by omega, by simp, ⟨cs.setIfInBounds k (.int .u8 y), ?_, Qcw hbc k y⟩, hB.setCell (Nat.le_refl _) _⟩
     unfold World.setCell
     simp [Array.getElem?_modify, hcs]
    have hm : n - ((k : Int) + 1).toNat < n - k := by omega
    have FIN := Lib.hid fin
    clear fin hbc hB hz
    go_wp2_with fail
    refine (Qba z 251 wr (by omega)).mono ?_
    rintro e w1 ⟨⟨y, rfl⟩, rfl⟩
    go_wp2_with fail
    refine ⟨FIN.out _, ?_⟩
    simpa [intOf] using hm
  . have hkn : k = n := by omega
    subst hkn
    obtain ⟨s, hconv, hs⟩ := Qi9 (c := k) hcs hbc Tryz.underlying152 Tryz.underlying5 Tryz.underlying9
    have HB := Lib.hid hB
    clear hB hbc hcs
    go_wp2
    go_ret
    exact ⟨⟨s, rfl, hs⟩, HB.out⟩
end Go.Proofs.YtmjjaldodkokbaaGreatDoor
