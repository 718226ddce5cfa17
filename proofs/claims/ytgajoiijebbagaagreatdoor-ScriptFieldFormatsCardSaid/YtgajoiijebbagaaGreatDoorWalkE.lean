/-
  The walks of the reference's Digits, Number, Format and FormatPrefix. Each contract says what the call returns and that what was there before it is unchanged. Conditions: integers are 64-bit.
-/
import Derived.Test.YtgajoiijebbagaaGreatDoorWalkD
namespace Go.Proofs.YtgajoiijebbagaaGreatDoor
open Go.RowKit

theorem ret_str {a b : List UInt8} (h : a = b) : Ending.returned (.string ⟨a.toArray⟩) = .returned (.string ⟨b.toArray⟩) := by rw [h]

theorem Pa.dig_len : ∀ n : Nat, (Pa.dig n).length ≤ n + 1 := by
  intro n
  induction n using Nat.strongRecOn with
  | _ n ih =>
    by_cases h : n < 10
    · rw [Pa.dig_small h]; simp
    · have := ih (n / 10) (by omega)
      rw [Pa.dig_big h, List.length_append]; simp; omega

/-- string([]byte{c}). -/
theorem conv1 (w : World) (n : Int) : (convert 40 9 (.slice (some ⟨w.heap.size, 0, none⟩) 1 1)).run Tryz.prog (w.alloc (.cells #[.int .u8 n] 5)) = .ok (.string ⟨#[UInt8.ofNat n.toNat]⟩) (w.alloc (.cells #[.int .u8 n] 5)) :=
  run_convert_bytes_arg _ 40 5 Tryz.underlying40 Tryz.underlying5 _ 0 1 1 [n] rfl (by
    intro i hi
    obtain rfl : i = 0 := by omega
    simp) 9 Tryz.underlying9

set_option maxHeartbeats 400000 in
theorem digits_small (n : Int) (w : World) (h0 : 0 ≤ n) (h1 : n < 10) :
    Calls Tryz.prog 72 #[.int .i64 n] w fun e w' => e = .returned (.string ⟨(Pa.dig n.toNat).toArray⟩) ∧ Below w.heap.size w w' := by
  have hcv := conv1
  go_enter Tryz.func72, Tryz.ntmps72
  go_wp2_with fail
  go_ret
  refine ⟨?_, (Below.refl _ _).alloc (Nat.le_refl _) _⟩
  refine ret_str (a := [UInt8.ofNat (48 + n % 10).toNat]) ?_
  rw [Pa.dig_small (by omega), show (48 + n % 10).toNat = 48 + n.toNat by omega]

set_option maxHeartbeats 400000 in
theorem digits_big (n : Int) (w : World) (h0 : 10 ≤ n) (h1 : n ≤ 9223372036854775807) (ih : ∀ w, Calls Tryz.prog 72 #[.int .i64 (n / 10)] w fun e w' => e = .returned (.string ⟨(Pa.dig (n / 10).toNat).toArray⟩) ∧ Below w.heap.size w w') :
    Calls Tryz.prog 72 #[.int .i64 n] w fun e w' => e = .returned (.string ⟨(Pa.dig n.toNat).toArray⟩) ∧ Below w.heap.size w w' := by
  have IH := Lib.hid ih; clear ih
  have hd := Pa.dig_big (n := n.toNat) (by omega)
  have HD := Lib.hid hd; clear hd
  have hcv := conv1
  go_enter Tryz.func72, Tryz.ntmps72
  go_wp2_with fail
  refine (IH.out _).mono ?_
  rintro e w1 ⟨rfl, hb⟩
  have hl := Pa.dig_len (n / 10).toNat
  have hl2 : (Pa.dig (n / 10).toNat).length + 1 ≤ 9223372036854775807 := by omega
  go_wp2_with fail
  go_ret
  refine ⟨?_, below_on ((Below.refl _ _).alloc (Nat.le_refl _) _) hb⟩
  rw [HD.out, show n.toNat / 10 = (n / 10).toNat by omega, show 48 + n.toNat % 10 = (48 + n % 10).toNat by omega]
  rfl

theorem digits_any : ∀ (k : Nat) (n : Int) (w : World), n.toNat = k → 0 ≤ n → n ≤ 9223372036854775807 →
    Calls Tryz.prog 72 #[.int .i64 n] w fun e w' => e = .returned (.string ⟨(Pa.dig n.toNat).toArray⟩) ∧ Below w.heap.size w w' := by
  intro k
  induction k using Nat.strongRecOn with
  | _ k ih =>
    intro n w hk h0 h1
    by_cases h : n < 10
    · exact digits_small n w h0 h
    · exact digits_big n w (by omega) h1 (fun w => ih (n / 10).toNat (by omega) (n / 10) w rfl (by omega) (by omega))
theorem digits (n : Int) (w : World) (h0 : 0 ≤ n) (h1 : n ≤ 9223372036854775807) :
    Calls Tryz.prog 72 #[.int .i64 n] w fun e w' => e = .returned (.string ⟨(Pa.dig n.toNat).toArray⟩) ∧ Below w.heap.size w w' := digits_any n.toNat n w rfl h0 h1

end Go.Proofs.YtgajoiijebbagaaGreatDoor
