/-
  The walks of addr.number and of the reference's Number. Each contract says what the call returns and that what was there before it is unchanged. Conditions: integers are 64-bit; the greatest number asked for is below 1000.
-/
import Derived.Test.YtgajoiijebbagaaGreatDoorWalkF
namespace Go.Proofs.YtgajoiijebbagaaGreatDoor
open Go.RowKit

def Pa.numV (l : Pa.Bs) (most : Nat) : Int := match Pa.numL l most with | some n => n | none => 0
def Pa.numOk (l : Pa.Bs) (most : Nat) : Bool := (Pa.numL l most).isSome
theorem Pa.num_none {l : Pa.Bs} {most : Nat} (h : Pa.numL l most = none) : Pa.numV l most = 0 ∧ Pa.numOk l most = false := by simp [Pa.numV, Pa.numOk, h]
theorem Pa.num_some {l : Pa.Bs} {most n : Nat} (h : Pa.numL l most = some n) : Pa.numV l most = n ∧ Pa.numOk l most = true := by simp [Pa.numV, Pa.numOk, h]
theorem ret_intB {a b : Int} {x y : Bool} (h : a = b) (h' : x = y) : Ending.returned (.tuple #[.int .i64 a, .bool x]) = .returned (.tuple #[.int .i64 b, .bool y]) := by rw [h, h']

theorem take_snoc (s : ByteArray) (k : Nat) (h : k < s.size) : s.data.toList.take (k + 1) = s.data.toList.take k ++ [s[k]] := by
  rw [List.take_succ_eq_append_getElem (by simpa using h)]; rfl

theorem str_empty {s : ByteArray} (h : s.size = 0) : s.toList = [] := by
  rw [ByteArray.toList_eq]; exact List.length_eq_zero_iff.1 (by simpa using h)
theorem str_ne {s : ByteArray} (h : s.size ≠ 0) : ¬ s.toList = [] := by
  rw [ByteArray.toList_eq]; intro e; apply h; have := congrArg List.length e; simpa using this
theorem str_isEmpty {s : ByteArray} (h : s.size ≠ 0) : s.toList.isEmpty = false := by
  have := str_ne h
  cases e : s.toList with
  | nil => exact absurd e this
  | cons a b => rfl
theorem size_len (s : ByteArray) : s.data.toList.length = s.size := rfl

theorem Pa.val_three (l : Pa.Bs) (h : l.all Pa.isD = true) (hl : l.length ≤ 3) : Pa.val l ≤ 999 := by
  have := Pa.val_lt l h
  have : 10 ^ l.length ≤ 10 ^ 3 := Nat.pow_le_pow_right (by omega) hl
  omega

theorem Pa.all_snoc (l : Pa.Bs) (c : UInt8) : (l ++ [c]).all Pa.isD = (l.all Pa.isD && Pa.isD c) := by simp
theorem Pa.bad_at {s : ByteArray} {k : Nat} (h : k < s.size) (hc : Pa.isD s[k] = false) : s.data.toList.all Pa.isD = false := by
  rw [Bool.eq_false_iff]
  intro ha
  have hl : k < s.data.toList.length := by rw [size_len]; exact h
  have := List.all_eq_true.1 ha _ (List.getElem_mem hl)
  have e : s.data.toList[k] = s[k] := rfl
  rw [e, hc] at this
  cases this
theorem Pa.isD_low {c : UInt8} (h : (c.toNat : Int) < 48) : Pa.isD c = false := by rw [Bool.eq_false_iff]; intro e; have := (Pa.isD_iff c).1 e; omega
theorem Pa.isD_high {c : UInt8} (h : 57 < (c.toNat : Int)) : Pa.isD c = false := by rw [Bool.eq_false_iff]; intro e; have := (Pa.isD_iff c).1 e; omega
theorem Pa.isD_mid {c : UInt8} (h : 48 ≤ (c.toNat : Int)) (h' : (c.toNat : Int) ≤ 57) : Pa.isD c = true := by rw [Pa.isD_iff]; omega

set_option maxHeartbeats 400000 in
theorem number_none (s : ByteArray) (most : Nat) (w : World) (h : s.size = 0 ∨ 3 < s.size ∨ 1 < s.size ∧ ∃ h : 0 < s.size, s[0] = 48) (hn : Pa.numL s.data.toList most = none) :
    Calls Tryz.prog 132 #[.string s, .int .i64 most] w fun e w' => e = .returned (.tuple #[.int .i64 (Pa.numV s.data.toList most), .bool (Pa.numOk s.data.toList most)]) ∧ w = w' := by
  have hv := (Pa.num_none hn).1
  have hk := (Pa.num_none hn).2
  have HV := Lib.hid hv; have HK := Lib.hid hk; clear hv hk hn
  by_cases h0 : s.size = 0
  · have he := str_empty h0
    clear h h0
    go_enter Tryz.func132, Tryz.ntmps132
    go_wp2
    go_ret2
    exact ⟨ret_intB HV.out.symm HK.out.symm, rfl⟩
  · have he := str_ne h0
    have he' := str_isEmpty h0
    by_cases h3 : 3 < s.size
    · clear h
      have h3' : decide (3 < (s.size : Int)) = true := by simp; omega
      go_enter Tryz.func132, Tryz.ntmps132
      go_wp2
      go_ret2
      exact ⟨ret_intB HV.out.symm HK.out.symm, rfl⟩
    · have h1 : 1 < s.size := by omega
      have hp : 0 < s.size := by omega
      have hz : s[0] = 48 := by rcases h with h | h | ⟨_, _, h⟩ <;> first | omega | exact h
      clear h h0
      have h3' : decide (3 < (s.size : Int)) = false := by simp; omega
      have h1' : decide (1 < (s.size : Int)) = true := by simp; omega
      have hb : ((s[0].toNat : Int) == 48) = true := by rw [hz]; rfl
      clear hz
      go_enter Tryz.func132, Tryz.ntmps132
      go_wp2
      go_ret2
      exact ⟨ret_intB HV.out.symm HK.out.symm, rfl⟩

set_option maxHeartbeats 400000 in
theorem number_loop (s : ByteArray) (most : Nat) (w : World) (_hm : most < 1000) (h0 : s.size ≠ 0) (h3 : s.size ≤ 3) (hz : 1 < s.size → ∀ h : 0 < s.size, s[0] ≠ 48) :
    Calls Tryz.prog 132 #[.string s, .int .i64 most] w fun e w' => e = .returned (.tuple #[.int .i64 (Pa.numV s.data.toList most), .bool (Pa.numOk s.data.toList most)]) ∧ w = w' := by
  have he := str_ne h0
  have he' := str_isEmpty h0
  have hp : 0 < s.size := by omega
  have h3' : decide (3 < (s.size : Int)) = false := by simp; omega
  have hb : 1 < s.size → ((s[0].toNat : Int) == 48) = false := fun h => by
    rw [beq_eq_false_iff_ne]
    intro e
    exact hz h hp (UInt8.toNat_inj.1 (by simpa using (show s[0].toNat = 48 by omega)))
  have hzz : ∀ t, s.data.toList = 48 :: t → t = [] := by
    intro t e
    by_cases h1 : 1 < s.size
    · exfalso
      apply hz h1 hp
      have : s.data.toList[0]? = some s[0] := Lib.data_getElem? s 0 hp
      rw [e] at this
      simpa using this.symm
    · have := congrArg List.length e
      rw [size_len, List.length_cons] at this
      exact List.length_eq_zero_iff.1 (by omega)
  have HZZ := Lib.hid hzz; have HE := Lib.hid h0
  clear hz h0 hzz
  by_cases h1 : 1 < s.size
  all_goals
    first
    | (have h1' : decide (1 < (s.size : Int)) = true := by simp; omega
       have hb' := hb h1)
    | have h1' : decide (1 < (s.size : Int)) = false := by simp; omega
    clear hb
    go_enter Tryz.func132, Tryz.ntmps132
    go_wp2
    go_loop [6, 27] (fun n i => ∃ k : Nat, k ≤ s.size ∧ i = .int .i64 k ∧ n = .int .i64 ((Pa.val (s.data.toList.take k) : Nat) : Int) ∧ (s.data.toList.take k).all Pa.isD = true) (fun _ i => s.size - (intOf i).toNat)
    case atStart => exact ⟨0, Nat.zero_le _, rfl, rfl, rfl⟩
    case round =>
      obtain ⟨k, hk, rfl, rfl, hall⟩ := hrel
      have hv := Pa.val_three _ hall (by rw [List.length_take]; have := size_len s; omega)
      have HALL := Lib.hid hall; clear hall
      by_cases hlt : k < s.size
      · go_wp2
        · have h48 : 48 ≤ (s[k].toNat : Int) := by assumption
          have hc : (s[k].toNat : Int) < 48 ∨ 57 < (s[k].toNat : Int) := by assumption
          go_ret2
          have hn := Pa.num_none (Pa.numL_bad (most := most) (Pa.bad_at hlt (Pa.isD_high (by omega))))
          exact ⟨ret_intB hn.1.symm hn.2.symm, rfl⟩
        · have hc : 48 ≤ (s[k].toNat : Int) ∧ (s[k].toNat : Int) ≤ 57 := by assumption
          go_round
          case rel =>
            refine ⟨k + 1, by omega, by go_num, ?_, ?_⟩
            · rw [take_snoc s k hlt, Pa.val_snoc]
              go_num
            · rw [take_snoc s k hlt, Pa.all_snoc, HALL.out, Pa.isD_mid hc.1 hc.2]; rfl
          case measure => simp [intOf]; omega
        · have hc : (s[k].toNat : Int) < 48 := by assumption
          go_ret2
          have hn := Pa.num_none (Pa.numL_bad (most := most) (Pa.bad_at hlt (Pa.isD_low hc)))
          exact ⟨ret_intB hn.1.symm hn.2.symm, rfl⟩
      · have hke : s.data.toList.take k = s.data.toList := List.take_of_length_le (by rw [size_len]; omega)
        rw [hke] at hv HALL ⊢
        clear hke
        have hne : s.data.toList ≠ [] := fun e => HE.out (by rw [← size_len, e]; rfl)
        by_cases hle : Pa.val s.data.toList ≤ most
        · have hn := Pa.num_some (Pa.numL_good HALL.out hne HZZ.out hle)
          have HN := Lib.hid hn; clear hn
          go_wp2
          go_ret2
          exact ⟨ret_intB HN.out.1.symm HN.out.2.symm, rfl⟩
        · have hn := Pa.num_none (Pa.numL_big (l := s.data.toList) (most := most) (by omega))
          have HN := Lib.hid hn; clear hn
          go_wp2
          go_ret2
          exact ⟨ret_intB HN.out.1.symm HN.out.2.symm, rfl⟩

theorem number_any (s : ByteArray) (most : Nat) (w : World) (hm : most < 1000) :
    Calls Tryz.prog 132 #[.string s, .int .i64 most] w fun e w' => e = .returned (.tuple #[.int .i64 (Pa.numV s.data.toList most), .bool (Pa.numOk s.data.toList most)]) ∧ w = w' := by
  by_cases h0 : s.size = 0
  · refine number_none s most w (Or.inl h0) ?_
    rw [show s.data.toList = [] from List.length_eq_zero_iff.1 (by rw [size_len]; exact h0)]
    exact Pa.numL_nil most
  · by_cases h3 : 3 < s.size
    · exact number_none s most w (Or.inr (Or.inl h3)) (Pa.numL_long hm (by rw [size_len]; exact h3))
    · by_cases hz : 1 < s.size ∧ ∃ h : 0 < s.size, s[0] = 48
      · refine number_none s most w (Or.inr (Or.inr hz)) ?_
        obtain ⟨h1, hp, e⟩ := hz
        have h' : s.data.toList[0]? = some s[0] := Lib.data_getElem? s 0 hp
        cases hl : s.data.toList with
        | nil => have := congrArg List.length hl; rw [size_len] at this; exact absurd this h0
        | cons c t =>
          rw [hl] at h'
          obtain rfl : c = 48 := by rw [← e]; simpa using h'
          refine Pa.numL_zero fun ht => ?_
          subst ht
          have := congrArg List.length hl; rw [size_len] at this; simp at this; omega
      · exact number_loop s most w hm h0 (by omega) (fun h1 h e => hz ⟨h1, h, e⟩)

end Go.Proofs.YtgajoiijebbagaaGreatDoor
