/-
  The document's numbers in bytes and its remainder of a text by a polynomial, exactly. Conditions: none.
-/
import Derived.Test.YthfllbmlhhkhmaaGreatDoorIWA
import Derived.StillTailTactics
namespace Go.Proofs.YthfllbmlhhkhmaaGreatDoor
open Go.RowKit Go.Proofs
theorem bits_xor64 {x y : Nat} (hx : x < 4294967296) (hy : y < 4294967296) : bits .xor .i64 (x : Int) (y : Int) = ((x ^^^ y : Nat) : Int) := by
  have h : x ^^^ y < 2 ^ 32 := Nat.xor_lt_two_pow (by omega) (by omega)
  have ha' : x % 2 ^ IntKind.i64.bits = x := Nat.mod_eq_of_lt (by simp only [IntKind.bits]; omega)
  have hb' : y % 2 ^ IntKind.i64.bits = y := Nat.mod_eq_of_lt (by simp only [IntKind.bits]; omega)
  simp only [bits, BitVec.ofInt_natCast, BitVec.toNat_xor, BitVec.toNat_ofNat, ha', hb']
  exact IntWalk.i64_in _ (by omega)
theorem xor32' {a b : Int} (ha0 : 0 ≤ a) (ha1 : a ≤ 4294967295) (hb0 : 0 ≤ b) (hb1 : b ≤ 4294967295) : 0 ≤ bits .xor .i64 a b ∧ bits .xor .i64 a b ≤ 4294967295 := by
  obtain ⟨x, rfl⟩ : ∃ x : Nat, a = x := ⟨a.toNat, by omega⟩
  obtain ⟨y, rfl⟩ : ∃ y : Nat, b = y := ⟨b.toNat, by omega⟩
  have hx : x ^^^ y < 2 ^ 32 := Nat.xor_lt_two_pow (by omega) (by omega)
  rw [bits_xor64 (by omega) (by omega)]
  omega
theorem crc_start {n : Int} {N : Nat} {b : UInt8} (e : n = (N : Int)) (h : N < 4294967296) : bits .xor .i64 n (b.toNat : Int) = ((N ^^^ b.toNat : Nat) : Int) := by
  subst e
  exact bits_xor64 h (by have := b.toNat_lt; omega)
theorem crc_odd {m : Int} {M : Nat} (e : m = (M : Int)) (h : M < 4294967296) (ho : m % 2 = 1) : bits .xor .i64 (m / 2) 3988292384 = ((Ax.crcBit M : Nat) : Int) := by
  subst e
  have h1 : M % 2 = 1 := by omega
  have h2 : ((M : Int) / 2) = ((M / 2 : Nat) : Int) := by omega
  rw [h2, Ax.crcBit, if_pos h1]
  exact bits_xor64 (x := M / 2) (y := 3988292384) (by omega) (by omega)
theorem crc_even {m : Int} {M : Nat} (e : m = (M : Int)) (ho : ¬ m % 2 = 1) : m / 2 = ((Ax.crcBit M : Nat) : Int) := by
  subst e
  have h1 : ¬ M % 2 = 1 := by omega
  rw [Ax.crcBit, if_neg h1]
  omega
set_option maxRecDepth 100000 in
set_option maxHeartbeats 1000000 in
theorem refCrc_any (s : ByteArray) (w : World) (hs : s.size ≤ 1099511627776) :
    Calls Tryz.prog 49 #[.string s] w fun e w' => e = .returned (.int .i64 (Ax.fnZ 0 (Ax.encB s.data.toList 1))) ∧ w' = w := by
  have hlen : s.data.toList.length = s.size := by rw [Array.length_toList]; rfl
  go_enter Tryz.func49, Tryz.ntmps49
  go_wp2
  go_loopw [3, 4] (fun v i wr => ∃ (k : Nat) (n : Int), k ≤ s.size ∧ i = .int .i64 k ∧ v = .int .i64 n ∧ 0 ≤ n ∧ n ≤ 4294967295 ∧ Hid (n = (((s.data.toList.take k).foldl Ax.crcByte 4294967295 : Nat) : Int)) ∧ w = wr) (fun _ i _ => s.size - (intOf i).toNat)
  case atStart => exact ⟨0, 4294967295, Nat.zero_le _, rfl, rfl, by omega, by omega, rfl, rfl⟩
  case round =>
    obtain ⟨k, n, hk, rfl, rfl, hn0, hn1, HN, rfl⟩ := hrel
    by_cases hlt : k < s.size
    · have hb := s[k].toNat_lt
      have hx := xor32' hn0 hn1 (b := (s[k].toNat : Int)) (by omega) (by omega)
      have HR := Lib.hid (crc_start (b := s[k]) HN.out (by have := HN.out; omega))
      go_wp2
      go_loopw [3, 5] (fun v i wr => ∃ (j : Nat) (m : Int), j ≤ 8 ∧ i = .int .i64 j ∧ v = .int .i64 m ∧ 0 ≤ m ∧ m ≤ 4294967295 ∧ Hid (m = ((Nat.repeat Ax.crcBit j ((s.data.toList.take k).foldl Ax.crcByte 4294967295 ^^^ s[k].toNat) : Nat) : Int)) ∧ w = wr) (fun _ i _ => 8 - (intOf i).toNat)
      case atStart => exact ⟨0, _, by omega, rfl, rfl, hx.1, hx.2, HR.out, rfl⟩
      case round =>
        obtain ⟨j, m, hj, rfl, rfl, hm0, hm1, HM, rfl⟩ := hrel
        clear hx
        by_cases hj8 : j < 8
        · have hq := xor32' (a := m / 2) (b := 3988292384) (by omega) (by omega) (by omega) (by omega)
          by_cases hodd : m % 2 = 1
          · have HS := Lib.hid (crc_odd HM.out (by have := HM.out; omega) hodd)
            go_wp2
            go_roundw
            case rel => exact ⟨j + 1, _, by omega, by go_num, rfl, hq.1, hq.2, HS.out, trivial⟩
            case measure => simp [intOf]; omega
          · have HS := Lib.hid (crc_even HM.out hodd)
            go_wp2
            go_roundw
            case rel => exact ⟨j + 1, _, by omega, by go_num, rfl, by omega, by omega, HS.out, trivial⟩
            case measure => simp [intOf]; omega
        · have e8 : j = 8 := by omega
          go_wp2
          go_roundw
          case rel => exact ⟨k + 1, _, by omega, by go_num, rfl, hm0, hm1, (by rw [Hid, HM.out, e8, foldl_take (by rw [hlen]; exact hlt)]; rfl), trivial⟩
          case measure => simp [intOf]; omega
    · have hx := xor32' hn0 hn1 (b := 4294967295) (by omega) (by omega)
      go_wp2
      go_ret
      refine ⟨?_, rfl⟩
      have hk' : s.data.toList.take k = s.data.toList := List.take_of_length_le (by rw [hlen]; omega)
      have hN := HN.out
      rw [hk'] at hN
      have hl := feeds_lt s.data.toList (r := 4294967295) (by omega)
      have hxl : s.data.toList.foldl Ax.crcByte 4294967295 ^^^ 4294967295 < 4294967296 := Nat.xor_lt_two_pow (n := 32) (by omega) (by omega)
      have e : Ax.fnZ 0 (Ax.encB s.data.toList 1) = ((Ax.crcT (Ax.decB (Ax.encB s.data.toList 1).toNat (Ax.encB s.data.toList 1).toNat) % 4294967296 : Nat) : Int) := rfl
      rw [e, Ax.decB_all, hN]
      show Ending.returned (.int .i64 (bits .xor .i64 ((s.data.toList.foldl Ax.crcByte 4294967295 : Nat) : Int) ((4294967295 : Nat) : Int))) = _
      rw [bits_xor64 hl (by omega), show Ax.crcT s.data.toList = s.data.toList.foldl Ax.crcByte 4294967295 ^^^ 4294967295 from rfl, Nat.mod_eq_of_lt hxl]
end Go.Proofs.YthfllbmlhhkhmaaGreatDoor
namespace Go.Proofs.YthfllbmlhhkhmaaGreatDoor
open Go.RowKit Go.Proofs
theorem oneByte (w : World) (b : Int) : (convert 146 9 (.slice (some ⟨w.heap.size, 0, none⟩) 1 1)).run Tryz.prog (w.alloc (.cells #[.int .u8 b] 5)) =
    .ok (.string ⟨#[UInt8.ofNat b.toNat]⟩) (w.alloc (.cells #[.int .u8 b] 5)) :=
  run_convert_bytes_arg _ 146 5 Tryz.underlying146 Tryz.underlying5 _ 0 1 1 [b] rfl (by
    intro i hi
    match i, hi with
    | 0, _ => simp) 9 Tryz.underlying9
theorem oneByte2 (w : World) (o1 : Obj) (b : Int) : (convert 146 9 (.slice (some ⟨w.heap.size + 1, 0, none⟩) 1 1)).run Tryz.prog ((w.alloc o1).alloc (.cells #[.int .u8 b] 5)) =
    .ok (.string ⟨#[UInt8.ofNat b.toNat]⟩) ((w.alloc o1).alloc (.cells #[.int .u8 b] 5)) := by simpa using oneByte (w.alloc o1) b
theorem oneByte3 (w : World) (o1 o2 : Obj) (b : Int) : (convert 146 9 (.slice (some ⟨w.heap.size + 1 + 1, 0, none⟩) 1 1)).run Tryz.prog (((w.alloc o1).alloc o2).alloc (.cells #[.int .u8 b] 5)) =
    .ok (.string ⟨#[UInt8.ofNat b.toNat]⟩) (((w.alloc o1).alloc o2).alloc (.cells #[.int .u8 b] 5)) := by simpa using oneByte ((w.alloc o1).alloc o2) b
theorem oneByte4 (w : World) (o1 o2 o3 : Obj) (b : Int) : (convert 146 9 (.slice (some ⟨w.heap.size + 1 + 1 + 1, 0, none⟩) 1 1)).run Tryz.prog ((((w.alloc o1).alloc o2).alloc o3).alloc (.cells #[.int .u8 b] 5)) =
    .ok (.string ⟨#[UInt8.ofNat b.toNat]⟩) ((((w.alloc o1).alloc o2).alloc o3).alloc (.cells #[.int .u8 b] 5)) := by simpa using oneByte (((w.alloc o1).alloc o2).alloc o3) b
set_option maxRecDepth 100000 in
set_option maxHeartbeats 1000000 in
theorem rput1 (z : Int) (w : World) (h0 : 0 ≤ z) (h1 : z < 256) :
    Calls Tryz.prog 111 #[.int .i64 z, .int .i64 1] w fun e w' => e = .returned (.tuple #[.string ⟨(Ax.bytesZ z 1).toArray⟩, .int .i64 0]) ∧ Below w.heap.size w w' := by
  have hd : decide (z < 0) = false := by simp; omega
  have hg : decide (256 ≤ z) = false := by simp; omega
  have hc1 := oneByte
  have hB := Lib.hid (bytesZ_1 z)
  go_enter Tryz.func111, Tryz.ntmps111
  go_wp2
  refine wp_loop_rounds 2 ?_
  rw [rounds_succ]
  go_wp2
  rw [rounds_succ]
  go_wp2
  refine wp_loop_rounds 2 ?_
  rw [rounds_succ]
  go_wp2
  rw [rounds_succ]
  go_wp2
  go_ret2
  refine ⟨?_, (Below.refl _ _).alloc (Nat.le_refl _) _⟩
  rw [hB.out]
  rfl
set_option maxRecDepth 100000 in
set_option maxHeartbeats 1000000 in
theorem rput2 (z : Int) (w : World) (h0 : 0 ≤ z) (h1 : z < 65536) :
    Calls Tryz.prog 111 #[.int .i64 z, .int .i64 2] w fun e w' => e = .returned (.tuple #[.string ⟨(Ax.bytesZ z 2).toArray⟩, .int .i64 0]) ∧ Below w.heap.size w w' := by
  have hd : decide (z < 0) = false := by simp; omega
  have hg : decide (65536 ≤ z) = false := by simp; omega
  have hc1 := oneByte
  have hc2 := oneByte2
  have hB := Lib.hid (bytesZ_2 z)
  go_enter Tryz.func111, Tryz.ntmps111
  go_wp2
  refine wp_loop_rounds 3 ?_
  rw [rounds_succ]
  go_wp2
  rw [rounds_succ]
  go_wp2
  rw [rounds_succ]
  go_wp2
  refine wp_loop_rounds 3 ?_
  rw [rounds_succ]
  go_wp2
  rw [rounds_succ]
  go_wp2
  rw [rounds_succ]
  go_wp2
  go_ret2
  refine ⟨?_, ((Below.refl _ _).alloc (Nat.le_refl _) _).alloc (by simp) _⟩
  rw [hB.out]
  rfl
set_option maxRecDepth 100000 in
set_option maxHeartbeats 1000000 in
theorem rput3 (z : Int) (w : World) (h0 : 0 ≤ z) (h1 : z < 16777216) :
    Calls Tryz.prog 111 #[.int .i64 z, .int .i64 3] w fun e w' => e = .returned (.tuple #[.string ⟨(Ax.bytesZ z 3).toArray⟩, .int .i64 0]) ∧ Below w.heap.size w w' := by
  have hd : decide (z < 0) = false := by simp; omega
  have hg : decide (16777216 ≤ z) = false := by simp; omega
  have hc1 := oneByte
  have hc2 := oneByte2
  have hc3 := oneByte3
  have hB := Lib.hid (bytesZ_3 z)
  go_enter Tryz.func111, Tryz.ntmps111
  go_wp2
  refine wp_loop_rounds 4 ?_
  rw [rounds_succ]
  go_wp2
  rw [rounds_succ]
  go_wp2
  rw [rounds_succ]
  go_wp2
  rw [rounds_succ]
  go_wp2
  refine wp_loop_rounds 4 ?_
  rw [rounds_succ]
  go_wp2
  rw [rounds_succ]
  go_wp2
  rw [rounds_succ]
  go_wp2
  rw [rounds_succ]
  go_wp2
  go_ret2
  refine ⟨?_, (((Below.refl _ _).alloc (Nat.le_refl _) _).alloc (by simp) _).alloc (by simp <;> omega) _⟩
  have e3 : z / 65536 = z / 256 / 256 := by omega
  rw [hB.out, e3]
  rfl
set_option maxRecDepth 100000 in
set_option maxHeartbeats 1000000 in
theorem rput4 (z : Int) (w : World) (h0 : 0 ≤ z) (h1 : z < 4294967296) :
    Calls Tryz.prog 111 #[.int .i64 z, .int .i64 4] w fun e w' => e = .returned (.tuple #[.string ⟨(Ax.bytesZ z 4).toArray⟩, .int .i64 0]) ∧ Below w.heap.size w w' := by
  have hd : decide (z < 0) = false := by simp; omega
  have hg : decide (4294967296 ≤ z) = false := by simp; omega
  have hc1 := oneByte
  have hc2 := oneByte2
  have hc3 := oneByte3
  have hc4 := oneByte4
  have hB := Lib.hid (bytesZ_4 z)
  go_enter Tryz.func111, Tryz.ntmps111
  go_wp2
  refine wp_loop_rounds 5 ?_
  rw [rounds_succ]
  go_wp2
  rw [rounds_succ]
  go_wp2
  rw [rounds_succ]
  go_wp2
  rw [rounds_succ]
  go_wp2
  rw [rounds_succ]
  go_wp2
  refine wp_loop_rounds 5 ?_
  rw [rounds_succ]
  go_wp2
  rw [rounds_succ]
  go_wp2
  rw [rounds_succ]
  go_wp2
  rw [rounds_succ]
  go_wp2
  rw [rounds_succ]
  go_wp2
  go_ret2
  refine ⟨?_, ((((Below.refl _ _).alloc (Nat.le_refl _) _).alloc (by simp) _).alloc (by simp <;> omega) _).alloc (by simp <;> omega) _⟩
  have e3 : z / 65536 = z / 256 / 256 := by omega
  have e4 : z / 16777216 = z / 256 / 256 / 256 := by omega
  rw [hB.out, e4, e3]
  rfl
theorem rput_any (z : Int) (k : Nat) (w : World) (hk : 1 ≤ k) (hk4 : k ≤ 4) (h0 : 0 ≤ z) (hz : z < 256 ^ k) :
    Calls Tryz.prog 111 #[.int .i64 z, .int .i64 k] w fun e w' => e = .returned (.tuple #[.string ⟨(Ax.bytesZ z k).toArray⟩, .int .i64 0]) ∧ Below w.heap.size w w' := by
  rcases (show k = 1 ∨ k = 2 ∨ k = 3 ∨ k = 4 by omega) with rfl | rfl | rfl | rfl
  · exact rput1 z w h0 (by omega)
  · exact rput2 z w h0 (by omega)
  · exact rput3 z w h0 (by omega)
  · exact rput4 z w h0 (by omega)
set_option maxRecDepth 100000 in
set_option maxHeartbeats 1000000 in
theorem rput_bad (z : Int) (k : Nat) (w : World) (hk : 1 ≤ k) (hk4 : k ≤ 4) (hz : z < 0 ∨ 256 ^ k ≤ z) :
    Calls Tryz.prog 111 #[.int .i64 z, .int .i64 k] w fun e w' => e = .returned (.tuple #[.string ⟨#[]⟩, .int .i64 ((10 : Nat) : Int)]) ∧ Below w.heap.size w w' := by
  by_cases h0 : z < 0
  · go_enter Tryz.func111, Tryz.ntmps111
    go_wp2
    go_ret2
    exact ⟨rfl, Below.refl _ _⟩
  · rcases (show k = 1 ∨ k = 2 ∨ k = 3 ∨ k = 4 by omega) with rfl | rfl | rfl | rfl
    · have hd : decide (z < 0) = false := by simp; omega
      have hg : decide (256 ≤ z) = true := by simp; omega
      go_enter Tryz.func111, Tryz.ntmps111
      go_wp2
      refine wp_loop_rounds 2 ?_
      rw [rounds_succ]
      go_wp2
      rw [rounds_succ]
      go_wp2
      go_ret2
      exact ⟨rfl, Below.refl _ _⟩
    · have hd : decide (z < 0) = false := by simp; omega
      have hg : decide (65536 ≤ z) = true := by simp; omega
      go_enter Tryz.func111, Tryz.ntmps111
      go_wp2
      refine wp_loop_rounds 3 ?_
      rw [rounds_succ]
      go_wp2
      rw [rounds_succ]
      go_wp2
      rw [rounds_succ]
      go_wp2
      go_ret2
      exact ⟨rfl, Below.refl _ _⟩
    · have hd : decide (z < 0) = false := by simp; omega
      have hg : decide (16777216 ≤ z) = true := by simp; omega
      go_enter Tryz.func111, Tryz.ntmps111
      go_wp2
      refine wp_loop_rounds 4 ?_
      rw [rounds_succ]
      go_wp2
      rw [rounds_succ]
      go_wp2
      rw [rounds_succ]
      go_wp2
      rw [rounds_succ]
      go_wp2
      go_ret2
      exact ⟨rfl, Below.refl _ _⟩
    · have hd : decide (z < 0) = false := by simp; omega
      have hg : decide (4294967296 ≤ z) = true := by simp; omega
      go_enter Tryz.func111, Tryz.ntmps111
      go_wp2
      refine wp_loop_rounds 5 ?_
      rw [rounds_succ]
      go_wp2
      rw [rounds_succ]
      go_wp2
      rw [rounds_succ]
      go_wp2
      rw [rounds_succ]
      go_wp2
      rw [rounds_succ]
      go_wp2
      go_ret2
      exact ⟨rfl, Below.refl _ _⟩
theorem numB_lt : ∀ (l : List UInt8), Ax.numB l < 256 ^ l.length := by
  have h : ∀ (l : List UInt8) (n : Nat), l.foldl (fun n b => n * 256 + b.toNat) n < (n + 1) * 256 ^ l.length := by
    intro l
    induction l with
    | nil => intro n; simp
    | cons b l ih =>
      intro n
      have := ih (n * 256 + b.toNat)
      have hb := b.toNat_lt
      simp only [List.foldl_cons, List.length_cons, Nat.pow_succ]
      calc _ < (n * 256 + b.toNat + 1) * 256 ^ l.length := this
        _ ≤ ((n + 1) * 256) * 256 ^ l.length := Nat.mul_le_mul_right _ (by omega)
        _ = (n + 1) * (256 ^ l.length * 256) := by rw [Nat.mul_assoc, Nat.mul_comm 256]
  intro l
  simpa [Ax.numB] using h l 0
theorem numB_step {l : List UInt8} {c : Nat} (h : c < l.length) : Ax.numB (l.take (c + 1)) = Ax.numB (l.take c) * 256 + l[c].toNat := by
  unfold Ax.numB
  rw [List.take_add_one, List.getElem?_eq_getElem h, List.foldl_append]
  rfl
set_option maxRecDepth 100000 in
set_option maxHeartbeats 1000000 in
theorem rget_any (s : ByteArray) (i k : Nat) (w : World) (hk : 1 ≤ k) (hk4 : k ≤ 4) (hs : s.size ≤ 1099511627776) (hi : i + k ≤ s.size) :
    Calls Tryz.prog 143 #[.string s, .int .i64 i, .int .i64 k] w fun e w' => e = .returned (.tuple #[.int .i64 (Ax.numB ((s.data.toList.drop i).take k)), .int .i64 0]) ∧ Below w.heap.size w w' := by
  have hlen : s.data.toList.length = s.size := by rw [Array.length_toList]; rfl
  have hg : decide (s.size < i) = false := by simp; omega
  have hg2 : decide ((s.size : Int) - (i : Int) < (k : Int)) = false := by simp; omega
  go_enter Tryz.func143, Tryz.ntmps143
  go_wp2
  go_loopw [8, 9] (fun v j wr => ∃ (c : Nat) (n : Int), c ≤ k ∧ j = .int .i64 ((i + c : Nat) : Int) ∧ v = .int .i64 n ∧ 0 ≤ n ∧ n ≤ 4294967295 ∧ Hid (n = ((Ax.numB ((s.data.toList.drop i).take c) : Nat) : Int)) ∧ w = wr) (fun _ j _ => i + k - (intOf j).toNat)
  case atStart => exact ⟨0, 0, Nat.zero_le _, rfl, rfl, by omega, by omega, rfl, rfl⟩
  case round =>
    obtain ⟨c, n, hc, rfl, rfl, hn0, hn1, HN, rfl⟩ := hrel
    by_cases hlt : c < k
    · have hb := s[i + c].toNat_lt
      have hl : c < (s.data.toList.drop i).length := by rw [List.length_drop, hlen]; omega
      have hst := numB_step hl
      have hge : (s.data.toList.drop i)[c] = s[i + c] := by rw [List.getElem_drop]; rfl
      have hlt4 := numB_lt ((s.data.toList.drop i).take (c + 1))
      have hl4 : 256 ^ ((s.data.toList.drop i).take (c + 1)).length ≤ 256 ^ 4 := Nat.pow_le_pow_right (by omega) (by rw [List.length_take]; omega)
      have hN := HN.out
      rw [hge] at hst
      have hv : 256 * n + (s[i + c].toNat : Int) = ((Ax.numB ((s.data.toList.drop i).take (c + 1)) : Nat) : Int) := by rw [hN, hst]; omega
      have hv1 : 256 * n + (s[i + c].toNat : Int) ≤ 4294967295 := by rw [hv]; omega
      have HV := Lib.hid hv
      clear hst hge hlt4 hl4 hN hv
      go_wp2
      go_roundw
      case rel => exact ⟨c + 1, _, by omega, by go_num, rfl, by omega, by omega, HV.out, trivial⟩
      case measure => simp [intOf]; omega
    · have e : c = k := by omega
      subst e
      go_wp2
      go_ret2
      refine ⟨?_, Below.refl _ _⟩
      rw [HN.out]
      rfl
set_option maxRecDepth 100000 in
set_option maxHeartbeats 1000000 in
theorem rget_bad (s : ByteArray) (i k : Nat) (w : World) (hk : 1 ≤ k) (hk4 : k ≤ 4) (_ : s.size ≤ 1099511627776) (_ : i ≤ 1099511627776) (h : s.size < i + k) :
    Calls Tryz.prog 143 #[.string s, .int .i64 i, .int .i64 k] w fun e w' => e = .returned (.tuple #[.int .i64 0, .int .i64 ((10 : Nat) : Int)]) ∧ Below w.heap.size w w' := by
  by_cases h1 : s.size < i
  · have hg : decide (s.size < i) = true := by simpa using h1
    go_enter Tryz.func143, Tryz.ntmps143
    go_wp2
    go_ret2
    exact ⟨rfl, Below.refl _ _⟩
  · have hg : decide (s.size < i) = false := by simp; omega
    have hq : decide ((s.size : Int) - (i : Int) < (k : Int)) = true := by simp; omega
    go_enter Tryz.func143, Tryz.ntmps143
    go_wp2
    go_ret2
    exact ⟨rfl, Below.refl _ _⟩
end Go.Proofs.YthfllbmlhhkhmaaGreatDoor
