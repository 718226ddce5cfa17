/-
  The walks of addr.Parse, addr.ParsePrefix and the hexadecimal numerals. Conditions: as each says.
-/
import Derived.Test.YtgajoiijebbagaaGreatDoorWa
import Derived.Test.YtgajoiijebbagaaGreatDoorPln
import Derived.OwnWalk
import Derived.Lib.ConvBytes
import Derived.Laws.IdiomStrings
import Derived.Deep.AppendLies
import Derived.Deep.RegionLaw
import Derived.BigRegion
import Derived.Lib.AtoiErrMem
/-! The walk of the reference's Number. The contract says what the call returns and that what was there before it is unchanged. Conditions: the greatest number asked for is below 1000. -/
namespace Go.Proofs.YtgajoiijebbagaaGreatDoor
open Go.RowKit

def Pa.numR (l : Pa.Bs) (most : Nat) : Int := match Pa.numL l most with | some n => n | none => -1
theorem Pa.numR_none {l : Pa.Bs} {most : Nat} (h : Pa.numL l most = none) : Pa.numR l most = -1 := by simp [Pa.numR, h]
theorem Pa.numR_some {l : Pa.Bs} {most n : Nat} (h : Pa.numL l most = some n) : Pa.numR l most = n := by simp [Pa.numR, h]

set_option maxHeartbeats 400000 in
theorem refNumber_any (s : ByteArray) (most : Nat) (w : World) (hm : most < 10000000) (hs : s.size ≤ 9223372036854775807) :
    Calls Tryz.prog 81 #[.string s, .int .i64 most] w fun e w' => e = .returned (.int .i64 (Pa.numR s.data.toList most)) ∧ Below w.heap.size w w' := by
  go_enter Tryz.func81, Tryz.ntmps81
  go_wp2
  go_loop [5, 6] (fun n i => ∃ k : Nat, k ≤ s.size ∧ i = .int .i64 k ∧ n = .int .i64 ((Pa.val (s.data.toList.take k) : Nat) : Int) ∧ (s.data.toList.take k).all Pa.isD = true ∧ Pa.val (s.data.toList.take k) ≤ 10 * most + 9) (fun _ i => s.size - (intOf i).toNat)
  case atStart => exact ⟨0, Nat.zero_le _, rfl, rfl, rfl, Nat.zero_le _⟩
  case round =>
    obtain ⟨k, hk, rfl, rfl, hall, hv⟩ := hrel
    have HALL := Lib.hid hall; clear hall
    by_cases hlt : k < s.size
    · by_cases hbig : Pa.val (s.data.toList.take k) ≤ most
      · go_wp2
        · have hc : 48 ≤ (s[k].toNat : Int) := by assumption
          have hc' : (s[k].toNat : Int) ≤ 57 := by assumption
          go_round
          case rel =>
            refine ⟨k + 1, by omega, by go_num, ?_, ?_, ?_⟩
            · rw [take_snoc s k hlt, Pa.val_snoc]
              go_num
            · rw [take_snoc s k hlt, Pa.all_snoc, HALL.out, Pa.isD_mid hc hc']; rfl
            · rw [take_snoc s k hlt, Pa.val_snoc]; omega
          case measure => simp [intOf]; omega
        · have hc : 57 < (s[k].toNat : Int) := by assumption
          go_ret
          exact ⟨ret_int (Pa.numR_none (Pa.numL_bad (Pa.bad_at hlt (Pa.isD_high hc)))).symm, Below.refl _ _⟩
        · have hc : (s[k].toNat : Int) < 48 := by assumption
          go_ret
          exact ⟨ret_int (Pa.numR_none (Pa.numL_bad (Pa.bad_at hlt (Pa.isD_low hc)))).symm, Below.refl _ _⟩
      · have hn : Pa.numR s.data.toList most = -1 := Pa.numR_none (Pa.numL_big (by have := Pa.val_take_le s.data.toList k; omega))
        have HN := Lib.hid hn; clear hn
        go_wp2
        all_goals
          go_ret
          exact ⟨ret_int HN.out.symm, Below.refl _ _⟩
    · have hke : s.data.toList.take k = s.data.toList := List.take_of_length_le (by rw [size_len]; omega)
      rw [hke] at hv HALL ⊢
      clear hke
      by_cases h0 : s.size = 0
      · have he := str_empty h0
        have hn : Pa.numR s.data.toList most = -1 := Pa.numR_none (by rw [← ByteArray.toList_eq, he]; exact Pa.numL_nil most)
        have HN := Lib.hid hn; clear hn
        go_wp2
        go_ret
        exact ⟨ret_int HN.out.symm, Below.refl _ _⟩
      · have he := str_ne h0
        have he' := str_isEmpty h0
        by_cases hle : Pa.val s.data.toList ≤ most
        · by_cases hd : Pa.dig (Pa.val s.data.toList) = s.data.toList
          · have hn : Pa.numR s.data.toList most = (Pa.val s.data.toList : Int) := Pa.numR_some (Pa.numL_some.2 ⟨hle, hd⟩)
            have hd' : (!Pa.dig (Pa.val s.data.toList) == s.toList) = false := by rw [ByteArray.toList_eq, hd]; simp
            have HN := Lib.hid hn; clear hn hd
            go_wp2_with fail
            refine (digits _ _ (by omega) (by omega)).mono ?_
            rintro e w1 ⟨rfl, hb⟩
            go_wp2_with fail
            go_ret
            exact ⟨ret_int HN.out.symm, hb⟩
          · have hn : Pa.numR s.data.toList most = -1 := Pa.numR_none (Pa.numL_other hd)
            have hd' : (!Pa.dig (Pa.val s.data.toList) == s.toList) = true := by rw [ByteArray.toList_eq]; simpa using hd
            have HN := Lib.hid hn; clear hn hd
            go_wp2_with fail
            refine (digits _ _ (by omega) (by omega)).mono ?_
            rintro e w1 ⟨rfl, hb⟩
            go_wp2_with fail
            go_ret
            exact ⟨ret_int HN.out.symm, hb⟩
        · have hn : Pa.numR s.data.toList most = -1 := Pa.numR_none (Pa.numL_big (by omega))
          have HN := Lib.hid hn; clear hn
          go_wp2
          go_ret
          exact ⟨ret_int HN.out.symm, Below.refl _ _⟩

end Go.Proofs.YtgajoiijebbagaaGreatDoor

/-! The walk of the reference's Parse. The contract says what the call returns and that what was there before it is unchanged. Conditions: the string is at most 1000000 bytes long. -/
namespace Go.Proofs.YtgajoiijebbagaaGreatDoor
open Go.RowKit

theorem ret_intE {a b n m : Int} (h : a = b) (h' : n = m) : Ending.returned (.tuple #[.int .i64 a, .int .i64 n]) = .returned (.tuple #[.int .i64 b, .int .i64 m]) := by rw [h, h']
theorem extract_piece (s : ByteArray) (f k : Nat) : (s.extract f k).data.toList = Pa.piece s.data.toList f k := by rw [Lib.extract_data]; rfl
theorem byte_at (s : ByteArray) (k : Nat) (h : k < s.size) : s.data.toList[k]'(by rw [size_len]; exact h) = s[k] := rfl

set_option maxHeartbeats 400000 in
theorem refParse_any (s : ByteArray) (w : World) (hs : s.size ≤ 1000000) :
    Calls Tryz.prog 82 #[.string s] w fun e w' => e = .returned (.tuple #[.int .i64 (Pa.parV s.data.toList), .int .i64 (Pa.errB (Pa.parOk s.data.toList))]) ∧ Below w.heap.size w w' := by
  go_enter Tryz.func82, Tryz.ntmps82
  go_wp2
  go_loopw [4, 5, 6, 7] (fun a m f i wr => ∃ k M F A : Nat, k ≤ s.size + 1 ∧ M ≤ 4 ∧ i = .int .i64 k ∧ m = .int .i64 M ∧ f = .int .i64 F ∧ a = .int .i64 A ∧ Hid (Pa.PRel s.data.toList k M F A) ∧ Below w.heap.size w wr) (fun _ _ _ i _ => s.size + 1 - (intOf i).toNat)
  case atStart => exact ⟨0, 0, 0, 0, by omega, by omega, rfl, rfl, rfl, rfl, Pa.PRel.start _, Below.refl _ _⟩
  case round =>
    obtain ⟨k, M, F, A, hk, hM, rfl, rfl, rfl, rfl, HR, hb⟩ := hrel
    have hF := HR.out.from_le
    have hA := HR.out.bound hM
    have HB := Lib.hid hb; clear hb
    by_cases hle : k ≤ s.size
    · by_cases hcut : ∃ h : k < s.size, s[k] ≠ 46
      · obtain ⟨hlt, hc⟩ := hcut
        have hc' : ((s[k].toNat : Int) != 46) = true := by
          rw [bne_iff_ne]; intro e; exact hc (UInt8.toNat_inj.1 (by simpa using (show s[k].toNat = 46 by omega)))
        have HR' := Lib.hid (HR.out.other (by rw [size_len]; exact hlt) (by rw [byte_at s k hlt]; exact hc))
        have hlt' : decide ((k : Int) < (s.size : Int)) = true := by simp; omega
        clear hc
        go_wp2
        go_roundw
        case rel => exact ⟨k + 1, M, F, A, by omega, hM, by go_num, rfl, rfl, rfl, HR', HB.out⟩
        case measure => simp [intOf]; omega
      · have hc : ∀ h : k < s.data.toList.length, s.data.toList[k] = 46 := fun h => by
          rw [size_len] at h
          rw [byte_at s k h]
          exact Classical.byContradiction fun e => hcut ⟨h, e⟩
        have HC := Lib.hid hc; clear hc
        have hsz := size_len s
        by_cases hlt : k < s.size
        · have hc' : ((s[k].toNat : Int) != 46) = false := by
            rw [bne_eq_false_iff_eq]
            have := HC.out (by rw [size_len]; exact hlt)
            rw [byte_at s k hlt] at this
            rw [this]; rfl
          have hlt' : decide ((k : Int) < (s.size : Int)) = true := by simp; omega
          clear hcut
          cases hn : Pa.numL (Pa.piece s.data.toList F k) 255 with
          | none =>
            have hp := Pa.par_none (HR.out.bad (by omega) HC.out hn)
            have hr : Pa.numR (s.extract F k).data.toList 255 = -1 := by rw [extract_piece]; exact Pa.numR_none hn
            have HP := Lib.hid hp; have HN := Lib.hid hr; clear hp hn hsz hr
            go_wp2_with fail
            refine (refNumber_any _ 255 _ (by omega) (by simp; omega)).mono ?_
            rintro e w1 ⟨rfl, hb1⟩
            rw [HN.out]
            have HB1 := Lib.hid hb1; clear hb1
            go_wp2_with fail
            go_ret2
            exact ⟨ret_intE HP.out.1.symm HP.out.2.symm, below_on HB.out HB1.out⟩
          | some n =>
            have hr : Pa.numR (s.extract F k).data.toList 255 = n := by rw [extract_piece]; exact Pa.numR_some hn
            have hle255 := Pa.numL_le hn
            by_cases h4 : M = 4
            · have hp := Pa.par_none (HR.out.four (by omega) HC.out h4)
              have h4' : ((M : Int) == 4) = true := by rw [beq_iff_eq]; omega
              have HP := Lib.hid hp; have HN := Lib.hid hr; clear hp hn hsz hr h4
              go_wp2_with fail
              refine (refNumber_any _ 255 _ (by omega) (by simp; omega)).mono ?_
              rintro e w1 ⟨rfl, hb1⟩
              rw [HN.out]
              have HB1 := Lib.hid hb1; clear hb1
              go_wp2_with fail
              go_ret2
              exact ⟨ret_intE HP.out.1.symm HP.out.2.symm, below_on HB.out HB1.out⟩
            · have h4' : ((M : Int) == 4) = false := by rw [beq_eq_false_iff_ne]; omega
              have HR' := Lib.hid (HR.out.next (by omega) HC.out hn)
              have HN := Lib.hid hr; clear hn hsz hr
              go_wp2_with fail
              refine (refNumber_any _ 255 _ (by omega) (by simp; omega)).mono ?_
              rintro e w1 ⟨rfl, hb1⟩
              rw [HN.out]
              have HB1 := Lib.hid hb1; clear hb1
              go_wp2_with fail
              go_roundw
              case rel => exact ⟨k + 1, M + 1, k + 1, 256 * A + n, by omega, by omega, by go_num, by go_num, by go_num, by go_num, HR', below_on HB.out HB1.out⟩
              case measure => simp [intOf]; omega
        · have hlt' : decide ((k : Int) < (s.size : Int)) = false := by simp; omega
          clear hcut
          cases hn : Pa.numL (Pa.piece s.data.toList F k) 255 with
          | none =>
            have hp := Pa.par_none (HR.out.bad (by omega) HC.out hn)
            have hr : Pa.numR (s.extract F k).data.toList 255 = -1 := by rw [extract_piece]; exact Pa.numR_none hn
            have HP := Lib.hid hp; have HN := Lib.hid hr; clear hp hn hsz hr
            go_wp2_with fail
            refine (refNumber_any _ 255 _ (by omega) (by simp; omega)).mono ?_
            rintro e w1 ⟨rfl, hb1⟩
            rw [HN.out]
            have HB1 := Lib.hid hb1; clear hb1
            go_wp2_with fail
            go_ret2
            exact ⟨ret_intE HP.out.1.symm HP.out.2.symm, below_on HB.out HB1.out⟩
          | some n =>
            have hr : Pa.numR (s.extract F k).data.toList 255 = n := by rw [extract_piece]; exact Pa.numR_some hn
            have hle255 := Pa.numL_le hn
            by_cases h4 : M = 4
            · have hp := Pa.par_none (HR.out.four (by omega) HC.out h4)
              have h4' : ((M : Int) == 4) = true := by rw [beq_iff_eq]; omega
              have HP := Lib.hid hp; have HN := Lib.hid hr; clear hp hn hsz hr h4
              go_wp2_with fail
              refine (refNumber_any _ 255 _ (by omega) (by simp; omega)).mono ?_
              rintro e w1 ⟨rfl, hb1⟩
              rw [HN.out]
              have HB1 := Lib.hid hb1; clear hb1
              go_wp2_with fail
              go_ret2
              exact ⟨ret_intE HP.out.1.symm HP.out.2.symm, below_on HB.out HB1.out⟩
            · have h4' : ((M : Int) == 4) = false := by rw [beq_eq_false_iff_ne]; omega
              have HR' := Lib.hid (HR.out.next (by omega) HC.out hn)
              have HN := Lib.hid hr; clear hn hsz hr
              go_wp2_with fail
              refine (refNumber_any _ 255 _ (by omega) (by simp; omega)).mono ?_
              rintro e w1 ⟨rfl, hb1⟩
              rw [HN.out]
              have HB1 := Lib.hid hb1; clear hb1
              go_wp2_with fail
              go_roundw
              case rel => exact ⟨k + 1, M + 1, k + 1, 256 * A + n, by omega, by omega, by go_num, by go_num, by go_num, by go_num, HR', below_on HB.out HB1.out⟩
              case measure => simp [intOf]; omega
    · obtain rfl : k = s.size + 1 := by omega
      have hd : Pa.parseL s.data.toList = if M = 4 then some A else none := Pa.PRel.done (f := F) (by rw [size_len]; exact HR.out)
      clear hk hle
      by_cases h4 : M = 4
      · rw [if_pos h4] at hd
        have hp := Pa.par_some hd
        have h4' : ((M : Int) != 4) = false := by rw [bne_eq_false_iff_eq]; omega
        have HP := Lib.hid hp; clear hp hd h4
        go_wp2
        go_ret2
        exact ⟨ret_intE HP.out.1.symm HP.out.2.symm, HB.out⟩
      · rw [if_neg h4] at hd
        have hp := Pa.par_none hd
        have h4' : ((M : Int) != 4) = true := by rw [bne_iff_ne]; omega
        have HP := Lib.hid hp; clear hp hd h4
        go_wp2
        go_ret2
        exact ⟨ret_intE HP.out.1.symm HP.out.2.symm, HB.out⟩

end Go.Proofs.YtgajoiijebbagaaGreatDoor

/-! The walk of the reference's ParsePrefix. The contract says what the call returns and that what was there before it is unchanged. Conditions: the string is at most 1000000 bytes long. -/
namespace Go.Proofs.YtgajoiijebbagaaGreatDoor
open Go.RowKit

theorem frozen_below {w w' : World} {b k : Nat} (hw : Below w.heap.size w w') (hb : b < w.heap.size) (h : w.frozen? ⟨b, k, none⟩ = false) : w'.frozen? ⟨b, k, none⟩ = false := by
  rw [hw.frozen (p := ⟨b, k, none⟩) hb, h]

theorem frozen_old {w : World} (o : Obj) {b k : Nat} (hb : b < w.heap.size) (h : w.frozen? ⟨b, k, none⟩ = false) : (w.alloc o).frozen? ⟨b, k, none⟩ = false := by
  rw [World.frozen?_alloc_past o b k hb, h]

end Go.Proofs.YtgajoiijebbagaaGreatDoor

/-! The walk of script.hex. Conditions: at most a million bytes. -/
namespace Go.Proofs.YtgajoiijebbagaaGreatDoor
open Go.RowKit Go.Proofs

theorem infoB : (Tryz.prog.info? 5).map (fun i => (i.zero, i.size, i.bytes)) = some (some (.int .u8 0), 1, 1) := by kernel_rfl

theorem owns_same {u u' : World} {base : Nat} {e : TypeId} {size n : Nat} {v : Value} {xs : List Value} (h : u.ownsRow base e size v n xs) (hh : ∀ g, v.ownBlock = some g → u'.heap[g]? = u.heap[g]?) : u'.ownsRow base e size v n xs := by
  refine ⟨h.1, ?_⟩
  rcases h.2 with h0 | ⟨g, cap, cur, rfl, h1, h2, h3⟩
  · exact Or.inl h0
  · exact Or.inr ⟨g, cap, cur, rfl, h1, (hh g rfl).trans h2, h3⟩

abbrev hexD : ByteArray := ⟨#[48, 49, 50, 51, 52, 53, 54, 55, 56, 57, 97, 98, 99, 100, 101, 102]⟩
theorem hexIx (m : Nat) (h : m < hexD.size) : (hexD[m]'h).toNat = (Pa.hexd m).toNat := by
  have : ∀ m : Fin 16, (hexD[m.val]'(by exact m.isLt)).toNat = (Pa.hexd m.val).toNat := by decide
  exact this ⟨m, h⟩

theorem hex_own {s : ByteArray} {k : Nat} (hlt : k < s.size) {w2 : World} {base g1 cap1 : Nat} {h1 : ((s[k].toNat : Int) / 16).toNat < hexD.size} {h2 : ((s[k].toNat : Int) % 16).toNat < hexD.size}
    (h : w2.ownsRow base 5 1 (.slice (some ⟨g1, 0, none⟩) (2 * k + 2) cap1) (2 * k + 2) (Lib.byteCells (Pa.hexs (s.data.toList.take k)) ++ [.int .u8 ((hexD[((s[k].toNat : Int) / 16).toNat]'h1).toNat), .int .u8 ((hexD[((s[k].toNat : Int) % 16).toNat]'h2).toNat)])) :
    w2.ownsRow base 5 1 (.slice (some ⟨g1, 0, none⟩) (2 * (k + 1)) cap1) (2 * (k + 1)) (Lib.byteCells (Pa.hexs (s.data.toList.take (k + 1)))) := by
  have e : s.data.toList.take (k + 1) = s.data.toList.take k ++ [s[k]] := by
    rw [List.take_succ_eq_append_getElem (by rw [size_len]; exact hlt)]; rfl
  rw [hexIx, hexIx] at h
  have e1 : ((s[k].toNat : Int) / 16).toNat = s[k].toNat / 16 := by omega
  have e2 : ((s[k].toNat : Int) % 16).toNat = s[k].toNat % 16 := by omega
  rw [e1, e2] at h
  rw [e]
  rw [show 2 * (k + 1) = 2 * k + 2 by omega]
  simpa [Pa.hexs, Pa.hex2, Lib.byteCells] using h

set_option maxHeartbeats 1000000 in
theorem hex_any (s : ByteArray) (w : World) (hs : s.size ≤ 1000000) :
    Calls Tryz.prog 48 #[.string s] w fun e w' => e = .returned (.string ⟨(Pa.hexL s.data.toList).toArray⟩) ∧ Below w.heap.size w w' := by
  by_cases h0 : s.size = 0
  · have he := str_empty h0
    have hh : Pa.hexL s.data.toList = [45] := by rw [← ByteArray.toList_eq, he]; rfl
    have HH := Lib.hid hh; clear hh
    go_enter Tryz.func48, Tryz.ntmps48
    go_wp2
    go_ret
    exact ⟨by rw [HH.out]; rfl, Below.refl _ _⟩
  · obtain ⟨i0, hi, hz0, hz1, hz2⟩ := info_parts infoB
    have he := str_ne h0
    have he' := str_isEmpty h0
    have hcv := fun (u : World) => Lib.run_convert_string_bytes (P := Tryz.prog) u 9 40 5 s Tryz.underlying9 Tryz.underlying40 Tryz.underlying5
    have hw2 : IntKind.i64.wrap (2 * (s.size : Int)) = 2 * (s.size : Int) := by rw [IntKind.wrap_i64]; omega
    go_enter Tryz.func48, Tryz.ntmps48
    go_wp2_with (at_make; refine wpList_make_own _ rfl _ _ 40 rfl w.heap.size 5 i0 (.int .u8 0) 1 Tryz.underlying40 hi hz0 hz1 _ _ _ (2 * s.size) rfl rfl ?b1 ?b2 ?b3 ?b4 ?_)
    case b1 => omega
    case b2 => rw [hz2]; omega
    case b3 => unfold maxLen; omega
    case b4 => exact Nat.le_refl _
    intro w1 hown hgrow
    have hB1 : Below w.heap.size w w1 := (Below.refl _ _).grown hgrow (Nat.le_refl _) (fun k hk => by cases hk)
    go_wp2
    go_loopw [3, 15] (fun v i wr => ∃ k g cap : Nat, k ≤ s.size ∧ i = .int .i64 k ∧ v = .slice (some ⟨g, 0, none⟩) (2 * k) cap ∧ wr.ownsRow w.heap.size 5 1 (.slice (some ⟨g, 0, none⟩) (2 * k) cap) (2 * k) (Lib.byteCells (Pa.hexs (s.data.toList.take k))) ∧ g ≠ w1.heap.size ∧ g < wr.heap.size ∧ w.heap.size ≤ g ∧ w1.heap.size < wr.heap.size ∧ (∀ j, j < s.size → wr.cell? ⟨w1.heap.size, j, none⟩ = some (.int .u8 (s.data.toList.getD j 0).toNat)) ∧ Below w.heap.size w wr) (fun _ i _ => s.size - (intOf i).toNat)
    case atStart =>
      have hsz : w.heap.size < w1.heap.size := by
        rcases hown.2 with ⟨h, _⟩ | ⟨g, cap, cur, h1, h2, h3, _⟩
        · cases h
        · cases h1; exact (Array.getElem?_eq_some_iff.1 h3).1
      have hb := Lib.bytesWorld_below w1 5 s
      refine ⟨0, w.heap.size, _, Nat.zero_le _, rfl, rfl, owns_same hown (fun g hg => by cases hg; exact Lib.bytesWorld_at_old w1 _ s _ hsz), by omega, Nat.lt_of_lt_of_le hsz hb.size, Nat.le_refl _, ?_, fun j hj => Lib.bytesWorld_cell w1 _ s j hj, below_on hB1 hb⟩
      simp [Lib.bytesWorld, World.freeze]
    case round =>
      obtain ⟨k, g, cap, hk, rfl, rfl, hownk, hnek, hgl, hgw, hwl, hcs, hBk⟩ := hrel
      by_cases hlt : k < s.size
      · have hck := hcs k hlt
        rw [List.getD_eq_getElem?_getD, List.getElem?_eq_getElem (by rw [size_len]; exact hlt), byte_at s k hlt, Option.getD_some] at hck
        have hbt := s[k].toNat_lt
        have hand : bits .and .u8 (s.data[k].toNat : Int) 15 = ((s[k].toNat % 16 : Nat) : Int) := by
          have h : ∀ c : Fin 256, bits .and .u8 (c.val : Int) 15 = ((c.val % 16 : Nat) : Int) := by decide +kernel
          exact h ⟨s[k].toNat, hbt⟩
        have i1 : 0 ≤ (s.data[k].toNat : Int) / 16 ∧ (s.data[k].toNat : Int) / 16 < 16 := by show 0 ≤ (s[k].toNat : Int) / 16 ∧ (s[k].toNat : Int) / 16 < 16; omega
        have i2 : 0 ≤ (s[k].toNat : Int) % 16 ∧ (s[k].toNat : Int) % 16 < 16 := by omega
        have hlen : 2 * k + 2 ≤ 2000000 := by omega
        have hws := hBk.size
        go_wp2
        go_region_law ((refine step_append_lies _ (by rfl) (.tmp 19) (.tmp 26) 40 (by rfl) w.heap.size 5 i0 (.int .u8 0) 1 1 Tryz.underlying40 hi hz0 hz1 hz2 (by rfl) (by omega) _ (2 * k) _ (by rfl) (owns_same hownk (fun g' hg => by cases hg; exact Below.heap_alloc _ _ g hgl)) ⟨wr.heap.size, 0, none⟩ 2 2 _ (by rfl) (by rfl) (World.news_of_block (heap_alloc_new _ _)) (by simp [Value.oneCell']) (by omega) (by unfold maxLen; omega) (by omega) (by simp; omega) (wr.heap.size + 1) (by simp) ?_; intro g1 cap1 w2 hown2 hgrow hat hlt2))
        all_goals
          have hBn : Below w.heap.size w w2 := (hBk.trans (((Below.refl _ _).alloc hws _).drew)).grown hgrow (by simp; omega) (fun j hj => by cases hj; exact hgw)
          have hsz2 := hgrow.size
          simp at hsz2
          have hcn : ∀ j, j < s.size → w2.cell? ⟨w1.heap.size, j, none⟩ = some (.int .u8 (s.data.toList.getD j 0).toNat) := fun j hj => by
            rw [hgrow.cell_far _ (by simp; omega) (by simp [Value.ownBlock]; omega)]
            exact cell_old _ hwl (hcs j hj)
          have hwn : w1.heap.size < w2.heap.size := by omega
          have hgn : g1 ≠ w1.heap.size := by
            rcases hat with h | h
            · cases h; exact hnek
            · omega
          have hgb : w.heap.size ≤ g1 := by
            rcases hat with h | h
            · cases h; exact hgw
            · omega
          have HO := Lib.hid (hex_own hlt hown2)
          clear hcs hownk hown2 hgrow hat hck hand hsz2 hws hBk
          go_wp2
          go_roundw
          case rel => exact ⟨k + 1, g1, cap1, by omega, by go_num, rfl, HO.out, hgn, hlt2, hgb, hwn, hcn, hBn⟩
          case measure => simp [intOf]; omega
      · have hke : s.data.toList.take k = s.data.toList := List.take_of_length_le (by rw [size_len]; omega)
        rw [hke] at hownk
        have hb := run_convert_bytes_back (P := Tryz.prog) wr 40 9 5 ⟨g, 0, none⟩ cap (Pa.hexs s.data.toList) Tryz.underlying40 Tryz.underlying5 Tryz.underlying9 (fun j hj => hownk.cells (g := g) rfl j _ (by simp [Lib.byteCells, hj]))
        have hh : Pa.hexL s.data.toList = Pa.hexs s.data.toList := by unfold Pa.hexL; rw [if_neg]; rw [← ByteArray.toList_eq]; exact he
        have hlen : (Pa.hexs s.data.toList).length = 2 * k := by rw [Pa.hexs_length, size_len]; omega
        rw [hlen] at hb
        have HH := Lib.hid hh; clear hh
        go_wp2
        go_ret
        exact ⟨by rw [HH.out]; rfl, hBk⟩

end Go.Proofs.YtgajoiijebbagaaGreatDoor
