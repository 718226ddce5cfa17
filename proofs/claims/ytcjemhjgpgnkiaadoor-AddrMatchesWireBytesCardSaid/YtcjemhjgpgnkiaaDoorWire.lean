/-
  The walks of wire.Put of four bytes and wire.Get of one byte. Each contract says what the call returns and that what was there before it is unchanged. Conditions: as each says.
-/
import Derived.Test.YtcjemhjgpgnkiaaDoorWalkK
import Derived.Test.YtcjemhjgpgnkiaaDoorTail
import Derived.Laws.IdiomCopy
namespace Go.Proofs.YtcjemhjgpgnkiaaDoor
open Go.RowKit

theorem info5 : (Tryd.prog.info? 5).map (·.size) = some 1 := by kernel_rfl
/-- copy of four bytes from one new block into the next. -/
theorem copy4 (w : World) (b0 b1 b2 b3 : Int) :
    (Builtin.copy_ #[32, 32] 3 #[.slice (some ⟨w.heap.size + 1, 0, none⟩) 4 4, .slice (some ⟨w.heap.size, 0, none⟩) 4 4]).run Tryd.prog ((w.alloc (.cells #[.int .u8 b0, .int .u8 b1, .int .u8 b2, .int .u8 b3] 59)).alloc (.cells #[.int .u8 0, .int .u8 0, .int .u8 0, .int .u8 0] 5)) =
      .ok (.int .i64 4) ((w.alloc (.cells #[.int .u8 b0, .int .u8 b1, .int .u8 b2, .int .u8 b3] 59)).alloc (.cells #[.int .u8 b0, .int .u8 b1, .int .u8 b2, .int .u8 b3] 5)) := by
  have h := run_copy_cells (P := Tryd.prog) ((w.alloc (.cells #[.int .u8 b0, .int .u8 b1, .int .u8 b2, .int .u8 b3] 59)).alloc (.cells #[.int .u8 0, .int .u8 0, .int .u8 0, .int .u8 0] 5)) 32 32 3 5 (w.heap.size + 1) 0 4 4 ⟨w.heap.size, 0, none⟩ 4 4 [.int .u8 b0, .int .u8 b1, .int .u8 b2, .int .u8 b3] Tryd.underlying32 info5 rfl
    (fun j v hj => by
      match j with
      | 0 => simp at hj; subst hj; simp [Addr.add]
      | 1 => simp at hj; subst hj; simp [Addr.add]
      | 2 => simp at hj; subst hj; simp [Addr.add]
      | 3 => simp at hj; subst hj; simp [Addr.add]
      | j + 4 => simp at hj)
    (fun j hj => by
      have hj' : j < 4 := hj
      match j, hj' with
      | 0, _ => simp
      | 1, _ => simp
      | 2, _ => simp
      | 3, _ => simp)
    (fun j hj => by simp)
    (fun v hv => by
      simp only [List.mem_cons, List.not_mem_nil, or_false] at hv
      rcases hv with rfl | rfl | rfl | rfl <;> rfl)
  rw [h]
  simp [World.setCells, go_sem, goInt]

theorem conv4 (w : World) (o : Obj) (b0 b1 b2 b3 : Int) : (convert 32 9 (.slice (some ⟨w.heap.size + 1, 0, none⟩) 4 4)).run Tryd.prog ((w.alloc o).alloc (.cells #[.int .u8 b0, .int .u8 b1, .int .u8 b2, .int .u8 b3] 5)) =
    .ok (.string ⟨#[UInt8.ofNat b0.toNat, UInt8.ofNat b1.toNat, UInt8.ofNat b2.toNat, UInt8.ofNat b3.toNat]⟩) ((w.alloc o).alloc (.cells #[.int .u8 b0, .int .u8 b1, .int .u8 b2, .int .u8 b3] 5)) :=
  run_convert_bytes_arg _ 32 5 Tryd.underlying32 Tryd.underlying5 _ 0 4 4 [b0, b1, b2, b3] rfl (by
    intro i hi
    match i, hi with
    | 0, _ => simp
    | 1, _ => simp
    | 2, _ => simp
    | 3, _ => simp) 9 Tryd.underlying9

set_option maxHeartbeats 400000 in
set_option maxRecDepth 100000 in
theorem put4 (n : Int) (w : World) (h0 : 0 ≤ n) (h1 : n ≤ 4294967295) :
    Calls Tryd.prog 25 #[.int .i64 n, .int .i64 4] w fun e w' => e = .returned (.tuple #[.string ⟨#[UInt8.ofNat (Pa.oct n 0), UInt8.ofNat (Pa.oct n 1), UInt8.ofNat (Pa.oct n 2), UInt8.ofNat (Pa.oct n 3)]⟩, .int .i64 0]) ∧ Below w.heap.size w w' := by
  have hd : decide (n < 0) = false := by simp; omega
  have hz : (n / 4294967296 != 0) = false := by rw [bne_eq_false_iff_eq]; omega
  have hmk : ∀ w : World, (Instr.makeSlice 32 (.int .i64 4) (.int .i64 4)).run Tryd.prog w = .ok (.slice (some ⟨w.heap.size, 0, none⟩) 4 4) (w.alloc (.cells #[.int .u8 0, .int .u8 0, .int .u8 0, .int .u8 0] 5)) := fun _ => by kernel_rfl
  have hcp := copy4
  have hcv := conv4
  go_enter Tryd.func25, Tryd.ntmps25
  go_wp2_with fail
  go_ret2
  refine ⟨ret_strE ?_ rfl, ((Below.refl _ _).alloc (Nat.le_refl _) _).alloc (by simp) _⟩
  rw [show Pa.oct n 0 = (n / 16777216).toNat by unfold Pa.oct; simp only [Nat.reduceSub, Nat.reducePow]; omega, show Pa.oct n 1 = (n / 65536 % 256).toNat by unfold Pa.oct; simp only [Nat.reduceSub, Nat.reducePow]; omega,
    show Pa.oct n 2 = (n / 256 % 256).toNat by unfold Pa.oct; simp only [Nat.reduceSub, Nat.reducePow]; omega, show Pa.oct n 3 = (n % 256).toNat by unfold Pa.oct; simp only [Nat.reduceSub, Nat.reducePow]; omega]

/-- copy of one byte of a string into the last place of a new array of four. -/
theorem copyS (w : World) (s : ByteArray) (i : Nat) (hi : i < s.size) (k : Nat) :
    (Builtin.copy_ #[32, 9] 3 #[.slice (some ⟨w.heap.size, 3, none⟩) 1 1, .string (s.extract i (i + 1))]).run Tryd.prog ((w.alloc (.cells #[.int .u8 0, .int .u8 0, .int .u8 0, .int .u8 0] 59)).drewN k) =
      .ok (.int .i64 1) ((w.alloc (.cells #[.int .u8 0, .int .u8 0, .int .u8 0, .int .u8 (s[i].toNat : Int)] 59)).drewN k) := by
  have hsz : (s.extract i (i + 1)).size = 1 := by simp; omega
  have hl : List.take 1 (List.drop i (List.map (fun b : UInt8 => Value.int .u8 (b.toNat : Int)) s.data.toList)) = [.int .u8 (s[i].toNat : Int)] := by
    rw [List.drop_eq_getElem_cons (by rw [List.length_map, size_len]; exact hi)]
    simp
    rfl
  have hst : ((w.alloc (.cells #[.int .u8 0, .int .u8 0, .int .u8 0, .int .u8 0] 59)).drewN k).setCell ⟨w.heap.size, 3, none⟩ (.int .u8 (s[i].toNat : Int)) = (w.alloc (.cells #[.int .u8 0, .int .u8 0, .int .u8 0, .int .u8 (s[i].toNat : Int)] 59)).drewN k := by
    show ((w.alloc (.cells #[.int .u8 0, .int .u8 0, .int .u8 0, .int .u8 0] 59)).setCell ⟨w.heap.size, 3, none⟩ (.int .u8 (s[i].toNat : Int))).drewN k = _
    rw [World.setCell_alloc_at _ _ _ _ _ rfl]
    rfl
  simp [Builtin.copy_, run_underlying Tryd.underlying32, Builtin.lenOf, Builtin.firstCells, hsz, hl, hst, storeCells, go_sem, goInt]

set_option maxHeartbeats 400000 in
set_option maxRecDepth 100000 in
theorem get1 (s : ByteArray) (i : Nat) (w : World) (hi : i < s.size) (hs : s.size ≤ 1000000) :
    Calls Tryd.prog 26 #[.string s, .int .i64 i, .int .i64 1] w fun e w' => e = .returned (.tuple #[.int .i64 (s[i].toNat : Int), .int .i64 0]) ∧ Below w.heap.size w w' := by
  have hd : decide ((i : Int) < 0) = false := by simp
  have hd2 : decide ((s.size : Int) - 1 < (i : Int)) = false := by simp; omega
  have hcp := copyS w s i hi
  go_enter Tryd.func26, Tryd.ntmps26
  go_wp2_with fail
  refine wp_region_drew_tail 9 (by kernel_rfl) (by kernel_rfl) ?_
  simp only [List.take_succ_cons, List.take_zero, List.drop_succ_cons, List.drop_zero]
  repeat (go_big_quiet_step (fail))
  refine wpQuiet_nil ?_
  rintro _ ⟨k, rfl⟩
  go_wp2_with fail
  go_ret2
  refine ⟨ret_intE ?_ rfl, below_drewN ((Below.refl _ _).alloc (Nat.le_refl _) _) k⟩
  have hb := s[i].toNat_lt
  rw [IntWalk.wrap64_in _ ⟨by omega, by omega⟩]
  rw [show bits BinOp.or IntKind.i64 0 0 = 0 by rfl, show bits BinOp.or IntKind.i64 0 0 = 0 by rfl, Pa.or_join 0 _ 8 (by omega) (by omega) (by omega) (by omega) (by omega) (by omega)]
  omega

end Go.Proofs.YtcjemhjgpgnkiaaDoor
