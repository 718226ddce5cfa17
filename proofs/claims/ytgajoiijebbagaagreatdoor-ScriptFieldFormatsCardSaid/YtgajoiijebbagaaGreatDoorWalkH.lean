/-
  The walk of the reference's Number. The contract says what the call returns and that what was there before it is unchanged. Conditions: the greatest number asked for is below 1000.
-/
import Derived.Test.YtgajoiijebbagaaGreatDoorWalkG
namespace Go.Proofs.YtgajoiijebbagaaGreatDoor
open Go.RowKit

def Pa.numR (l : Pa.Bs) (most : Nat) : Int := match Pa.numL l most with | some n => n | none => -1
theorem Pa.numR_none {l : Pa.Bs} {most : Nat} (h : Pa.numL l most = none) : Pa.numR l most = -1 := by simp [Pa.numR, h]
theorem Pa.numR_some {l : Pa.Bs} {most n : Nat} (h : Pa.numL l most = some n) : Pa.numR l most = n := by simp [Pa.numR, h]

set_option maxHeartbeats 400000 in
theorem refNumber_any (s : ByteArray) (most : Nat) (w : World) (hm : most < 10000000) (hs : s.size ≤ 9223372036854775807) :
    Calls Tryz.prog 81 #[.string s, .int .i64 most] w fun e w' => e = .returned (.int .i64 (Pa.numR s.data.toList most)) ∧ Below w.heap.size w w' := by
  go_enter Tryz.func81, Tryz.ntmps81
  go_wp2
  go_loop [5, 6] (fun n i => ∃ k : Nat, k ≤ s.size ∧ i = .int .i64 k ∧ n = .int .i64 ((Pa.val (s.data.toList.take k) : Nat) : Int) ∧ (s.data.toList.take k).all Pa.isD = true ∧ Pa.val (s.data.toList.take k) ≤ 10 * most + 9) (fun _ i => s.size - (intOf i).toNat)
  case atStart => exact ⟨0, Nat.zero_le _, rfl, rfl, rfl, Nat.zero_le _⟩
  case round =>
    obtain ⟨k, hk, rfl, rfl, hall, hv⟩ := hrel
    have HALL := Lib.hid hall; clear hall
    by_cases hlt : k < s.size
    · by_cases hbig : Pa.val (s.data.toList.take k) ≤ most
      · go_wp2
        · have hc : 48 ≤ (s[k].toNat : Int) := by assumption
          have hc' : (s[k].toNat : Int) ≤ 57 := by assumption
          go_round
          case rel =>
            refine ⟨k + 1, by omega, by go_num, ?_, ?_, ?_⟩
            · rw [take_snoc s k hlt, Pa.val_snoc]
              go_num
            · rw [take_snoc s k hlt, Pa.all_snoc, HALL.out, Pa.isD_mid hc hc']; rfl
            · rw [take_snoc s k hlt, Pa.val_snoc]; omega
          case measure => simp [intOf]; omega
        · have hc : 57 < (s[k].toNat : Int) := by assumption
          go_ret
          exact ⟨ret_int (Pa.numR_none (Pa.numL_bad (Pa.bad_at hlt (Pa.isD_high hc)))).symm, Below.refl _ _⟩
        · have hc : (s[k].toNat : Int) < 48 := by assumption
          go_ret
          exact ⟨ret_int (Pa.numR_none (Pa.numL_bad (Pa.bad_at hlt (Pa.isD_low hc)))).symm, Below.refl _ _⟩
      · have hn : Pa.numR s.data.toList most = -1 := Pa.numR_none (Pa.numL_big (by have := Pa.val_take_le s.data.toList k; omega))
        have HN := Lib.hid hn; clear hn
        go_wp2
        all_goals
          go_ret
          exact ⟨ret_int HN.out.symm, Below.refl _ _⟩
    · have hke : s.data.toList.take k = s.data.toList := List.take_of_length_le (by rw [size_len]; omega)
      rw [hke] at hv HALL ⊢
      clear hke
      by_cases h0 : s.size = 0
      · have he := str_empty h0
        have hn : Pa.numR s.data.toList most = -1 := Pa.numR_none (by rw [← ByteArray.toList_eq, he]; exact Pa.numL_nil most)
        have HN := Lib.hid hn; clear hn
        go_wp2
        go_ret
        exact ⟨ret_int HN.out.symm, Below.refl _ _⟩
      · have he := str_ne h0
        have he' := str_isEmpty h0
        by_cases hle : Pa.val s.data.toList ≤ most
        · by_cases hd : Pa.dig (Pa.val s.data.toList) = s.data.toList
          · have hn : Pa.numR s.data.toList most = (Pa.val s.data.toList : Int) := Pa.numR_some (Pa.numL_some.2 ⟨hle, hd⟩)
            have hd' : (!Pa.dig (Pa.val s.data.toList) == s.toList) = false := by rw [ByteArray.toList_eq, hd]; simp
            have HN := Lib.hid hn; clear hn hd
            go_wp2_with fail
            refine (digits _ _ (by omega) (by omega)).mono ?_
            rintro e w1 ⟨rfl, hb⟩
            go_wp2_with fail
            go_ret
            exact ⟨ret_int HN.out.symm, hb⟩
          · have hn : Pa.numR s.data.toList most = -1 := Pa.numR_none (Pa.numL_other hd)
            have hd' : (!Pa.dig (Pa.val s.data.toList) == s.toList) = true := by rw [ByteArray.toList_eq]; simpa using hd
            have HN := Lib.hid hn; clear hn hd
            go_wp2_with fail
            refine (digits _ _ (by omega) (by omega)).mono ?_
            rintro e w1 ⟨rfl, hb⟩
            go_wp2_with fail
            go_ret
            exact ⟨ret_int HN.out.symm, hb⟩
        · have hn : Pa.numR s.data.toList most = -1 := Pa.numR_none (Pa.numL_big (by omega))
          have HN := Lib.hid hn; clear hn
          go_wp2
          go_ret
          exact ⟨ret_int HN.out.symm, Below.refl _ _⟩

end Go.Proofs.YtgajoiijebbagaaGreatDoor
