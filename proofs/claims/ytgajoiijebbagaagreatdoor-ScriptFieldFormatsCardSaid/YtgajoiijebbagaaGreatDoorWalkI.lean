/-
  The walk of the reference's Parse. The contract says what the call returns and that what was there before it is unchanged. Conditions: the string is at most 1000000 bytes long.
-/
import Derived.Test.YtgajoiijebbagaaGreatDoorWalkH
import Derived.Test.YtgajoiijebbagaaGreatDoorPlainC
namespace Go.Proofs.YtgajoiijebbagaaGreatDoor
open Go.RowKit

theorem ret_intE {a b n m : Int} (h : a = b) (h' : n = m) : Ending.returned (.tuple #[.int .i64 a, .int .i64 n]) = .returned (.tuple #[.int .i64 b, .int .i64 m]) := by rw [h, h']
theorem extract_piece (s : ByteArray) (f k : Nat) : (s.extract f k).data.toList = Pa.piece s.data.toList f k := by rw [Lib.extract_data]; rfl
theorem byte_at (s : ByteArray) (k : Nat) (h : k < s.size) : s.data.toList[k]'(by rw [size_len]; exact h) = s[k] := rfl

set_option maxHeartbeats 400000 in
theorem refParse_any (s : ByteArray) (w : World) (hs : s.size ≤ 1000000) :
    Calls Tryz.prog 82 #[.string s] w fun e w' => e = .returned (.tuple #[.int .i64 (Pa.parV s.data.toList), .int .i64 (Pa.errB (Pa.parOk s.data.toList))]) ∧ Below w.heap.size w w' := by
  go_enter Tryz.func82, Tryz.ntmps82
  go_wp2
  go_loopw [4, 5, 6, 7] (fun a m f i wr => ∃ k M F A : Nat, k ≤ s.size + 1 ∧ M ≤ 4 ∧ i = .int .i64 k ∧ m = .int .i64 M ∧ f = .int .i64 F ∧ a = .int .i64 A ∧ Hid (Pa.PRel s.data.toList k M F A) ∧ Below w.heap.size w wr) (fun _ _ _ i _ => s.size + 1 - (intOf i).toNat)
  case atStart => exact ⟨0, 0, 0, 0, by omega, by omega, rfl, rfl, rfl, rfl, Pa.PRel.start _, Below.refl _ _⟩
  case round =>
    obtain ⟨k, M, F, A, hk, hM, rfl, rfl, rfl, rfl, HR, hb⟩ := hrel
    have hF := HR.out.from_le
    have hA := HR.out.bound hM
    have HB := Lib.hid hb; clear hb
    by_cases hle : k ≤ s.size
    · by_cases hcut : ∃ h : k < s.size, s[k] ≠ 46
      · obtain ⟨hlt, hc⟩ := hcut
        have hc' : ((s[k].toNat : Int) != 46) = true := by
          rw [bne_iff_ne]; intro e; exact hc (UInt8.toNat_inj.1 (by simpa using (show s[k].toNat = 46 by omega)))
        have HR' := Lib.hid (HR.out.other (by rw [size_len]; exact hlt) (by rw [byte_at s k hlt]; exact hc))
        have hlt' : decide ((k : Int) < (s.size : Int)) = true := by simp; omega
        clear hc
        go_wp2
        go_roundw
        case rel => exact ⟨k + 1, M, F, A, by omega, hM, by go_num, rfl, rfl, rfl, HR', HB.out⟩
        case measure => simp [intOf]; omega
      · have hc : ∀ h : k < s.data.toList.length, s.data.toList[k] = 46 := fun h => by
          rw [size_len] at h
          rw [byte_at s k h]
          exact Classical.byContradiction fun e => hcut ⟨h, e⟩
        have HC := Lib.hid hc; clear hc
        have hsz := size_len s
        by_cases hlt : k < s.size
        · have hc' : ((s[k].toNat : Int) != 46) = false := by
            rw [bne_eq_false_iff_eq]
            have := HC.out (by rw [size_len]; exact hlt)
            rw [byte_at s k hlt] at this
            rw [this]; rfl
          have hlt' : decide ((k : Int) < (s.size : Int)) = true := by simp; omega
          clear hcut
          cases hn : Pa.numL (Pa.piece s.data.toList F k) 255 with
          | none =>
            have hp := Pa.par_none (HR.out.bad (by omega) HC.out hn)
            have hr : Pa.numR (s.extract F k).data.toList 255 = -1 := by rw [extract_piece]; exact Pa.numR_none hn
            have HP := Lib.hid hp; have HN := Lib.hid hr; clear hp hn hsz hr
            go_wp2_with fail
            refine (refNumber_any _ 255 _ (by omega) (by simp; omega)).mono ?_
            rintro e w1 ⟨rfl, hb1⟩
            rw [HN.out]
            have HB1 := Lib.hid hb1; clear hb1
            go_wp2_with fail
            go_ret2
            exact ⟨ret_intE HP.out.1.symm HP.out.2.symm, below_on HB.out HB1.out⟩
          | some n =>
            have hr : Pa.numR (s.extract F k).data.toList 255 = n := by rw [extract_piece]; exact Pa.numR_some hn
            have hle255 := Pa.numL_le hn
            by_cases h4 : M = 4
            · have hp := Pa.par_none (HR.out.four (by omega) HC.out h4)
              have h4' : ((M : Int) == 4) = true := by rw [beq_iff_eq]; omega
              have HP := Lib.hid hp; have HN := Lib.hid hr; clear hp hn hsz hr h4
              go_wp2_with fail
              refine (refNumber_any _ 255 _ (by omega) (by simp; omega)).mono ?_
              rintro e w1 ⟨rfl, hb1⟩
              rw [HN.out]
              have HB1 := Lib.hid hb1; clear hb1
              go_wp2_with fail
              go_ret2
              exact ⟨ret_intE HP.out.1.symm HP.out.2.symm, below_on HB.out HB1.out⟩
            · have h4' : ((M : Int) == 4) = false := by rw [beq_eq_false_iff_ne]; omega
              have HR' := Lib.hid (HR.out.next (by omega) HC.out hn)
              have HN := Lib.hid hr; clear hn hsz hr
              go_wp2_with fail
              refine (refNumber_any _ 255 _ (by omega) (by simp; omega)).mono ?_
              rintro e w1 ⟨rfl, hb1⟩
              rw [HN.out]
              have HB1 := Lib.hid hb1; clear hb1
              go_wp2_with fail
              go_roundw
              case rel => exact ⟨k + 1, M + 1, k + 1, 256 * A + n, by omega, by omega, by go_num, by go_num, by go_num, by go_num, HR', below_on HB.out HB1.out⟩
              case measure => simp [intOf]; omega
        · have hlt' : decide ((k : Int) < (s.size : Int)) = false := by simp; omega
          clear hcut
          cases hn : Pa.numL (Pa.piece s.data.toList F k) 255 with
          | none =>
            have hp := Pa.par_none (HR.out.bad (by omega) HC.out hn)
            have hr : Pa.numR (s.extract F k).data.toList 255 = -1 := by rw [extract_piece]; exact Pa.numR_none hn
            have HP := Lib.hid hp; have HN := Lib.hid hr; clear hp hn hsz hr
            go_wp2_with fail
            refine (refNumber_any _ 255 _ (by omega) (by simp; omega)).mono ?_
            rintro e w1 ⟨rfl, hb1⟩
            rw [HN.out]
            have HB1 := Lib.hid hb1; clear hb1
            go_wp2_with fail
            go_ret2
            exact ⟨ret_intE HP.out.1.symm HP.out.2.symm, below_on HB.out HB1.out⟩
          | some n =>
            have hr : Pa.numR (s.extract F k).data.toList 255 = n := by rw [extract_piece]; exact Pa.numR_some hn
            have hle255 := Pa.numL_le hn
            by_cases h4 : M = 4
            · have hp := Pa.par_none (HR.out.four (by omega) HC.out h4)
              have h4' : ((M : Int) == 4) = true := by rw [beq_iff_eq]; omega
              have HP := Lib.hid hp; have HN := Lib.hid hr; clear hp hn hsz hr h4
              go_wp2_with fail
              refine (refNumber_any _ 255 _ (by omega) (by simp; omega)).mono ?_
              rintro e w1 ⟨rfl, hb1⟩
              rw [HN.out]
              have HB1 := Lib.hid hb1; clear hb1
              go_wp2_with fail
              go_ret2
              exact ⟨ret_intE HP.out.1.symm HP.out.2.symm, below_on HB.out HB1.out⟩
            · have h4' : ((M : Int) == 4) = false := by rw [beq_eq_false_iff_ne]; omega
              have HR' := Lib.hid (HR.out.next (by omega) HC.out hn)
              have HN := Lib.hid hr; clear hn hsz hr
              go_wp2_with fail
              refine (refNumber_any _ 255 _ (by omega) (by simp; omega)).mono ?_
              rintro e w1 ⟨rfl, hb1⟩
              rw [HN.out]
              have HB1 := Lib.hid hb1; clear hb1
              go_wp2_with fail
              go_roundw
              case rel => exact ⟨k + 1, M + 1, k + 1, 256 * A + n, by omega, by omega, by go_num, by go_num, by go_num, by go_num, HR', below_on HB.out HB1.out⟩
              case measure => simp [intOf]; omega
    · obtain rfl : k = s.size + 1 := by omega
      have hd : Pa.parseL s.data.toList = if M = 4 then some A else none := Pa.PRel.done (f := F) (by rw [size_len]; exact HR.out)
      clear hk hle
      by_cases h4 : M = 4
      · rw [if_pos h4] at hd
        have hp := Pa.par_some hd
        have h4' : ((M : Int) != 4) = false := by rw [bne_eq_false_iff_eq]; omega
        have HP := Lib.hid hp; clear hp hd h4
        go_wp2
        go_ret2
        exact ⟨ret_intE HP.out.1.symm HP.out.2.symm, HB.out⟩
      · rw [if_neg h4] at hd
        have hp := Pa.par_none hd
        have h4' : ((M : Int) != 4) = true := by rw [bne_iff_ne]; omega
        have HP := Lib.hid hp; clear hp hd h4
        go_wp2
        go_ret2
        exact ⟨ret_intE HP.out.1.symm HP.out.2.symm, HB.out⟩

end Go.Proofs.YtgajoiijebbagaaGreatDoor
