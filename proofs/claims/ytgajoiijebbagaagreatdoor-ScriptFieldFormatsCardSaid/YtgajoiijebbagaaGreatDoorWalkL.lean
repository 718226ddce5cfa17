/-
  The walks of addr.Parse and addr.ParsePrefix. Each contract says what the call returns and that what was there before it is unchanged. Conditions: the string is at most 1000000 bytes long; the library's variables read as its text lays them.
-/
import Derived.Test.YtgajoiijebbagaaGreatDoorWalkK
namespace Go.Proofs.YtgajoiijebbagaaGreatDoor
open Go.RowKit

theorem arr_index (x0 x1 x2 x3 : ByteArray) (k : Nat) (hk : k < 4) (w : World) :
    (Instr.index 74 (.agg #[.string x0, .string x1, .string x2, .string x3]) (.int .i64 k)).run Tryz.prog w = .ok (.string ([x0, x1, x2, x3].getD k x0)) w :=
  match k, hk with
  | 0, _ => by kernel_rfl
  | 1, _ => by kernel_rfl
  | 2, _ => by kernel_rfl
  | 3, _ => by kernel_rfl

theorem list_four {α : Type} (l : List α) (h : l.length = 4) : ∃ a b c d, l = [a, b, c, d] := by
  match l, h with
  | [a, b, c, d], _ => exact ⟨a, b, c, d, rfl⟩

set_option maxHeartbeats 400000 in
theorem parse_any (s : ByteArray) (w : World) (hs : s.size ≤ 1000000) (ok : Ok w) :
    Calls Tryz.prog 121 #[.string s] w fun e w' => e = .returned (.tuple #[.int .i64 (Pa.parV s.data.toList), .int .i64 (Pa.errB (Pa.parOk s.data.toList))]) ∧ Below w.heap.size w w' := by
  obtain ⟨_, ⟨m, hm⟩, _⟩ := ok
  have hdat : (Lib.splitB ⟨#[46]⟩ 0 (min 5 (s.size + 1) - 1) s).map (·.data.toList) = Lib.splitK [46] 0 (min 5 (s.data.toList.length + 1) - 1) s.data.toList := by
    rw [Lib.splitB_data, size_len]
  have hlen : (Lib.splitB ⟨#[46]⟩ 0 (min 5 (s.size + 1) - 1) s).length = (Lib.splitK [46] 0 (min 5 (s.data.toList.length + 1) - 1) s.data.toList).length := by
    rw [← hdat, List.length_map]
  have hfive := Pa.splitN_five s.data.toList
  have hcap := Lib.splitB_length_le ⟨#[46]⟩ 0 (min 5 (s.size + 1) - 1) s
  generalize hL : Lib.splitB ⟨#[46]⟩ 0 (min 5 (s.size + 1) - 1) s = L at *
  by_cases h4 : L.length = 4
  · obtain ⟨x0, x1, x2, x3, rfl⟩ := list_four L h4
    have hsp : Pa.splitD s.data.toList = [x0.data.toList, x1.data.toList, x2.data.toList, x3.data.toList] := by
      rcases hfive with h | ⟨h, _⟩
      · rw [← h, ← hdat]; rfl
      · exact absurd (by rw [← hlen]; rfl) h
    have HSP := Lib.hid hsp
    have HL := Lib.hid hL
    have HM := Lib.hid hm
    have hi := arr_index x0 x1 x2 x3
    have hat : ∀ (w : World) (a : Option Addr) (c : Nat), (Instr.arrayAt 74 (.slice a 4 c)).run Tryz.prog w = .ok (.pointer a) w := fun w a c => run_arrayAt w 74 _ 4 a 4 c Tryz.underlying74 (Nat.le_refl _)
    clear hsp hL hm hdat hlen hfive h4
    go_enter Tryz.func121, Tryz.ntmps121
    go_wp2_with fail
    refine (Tryz.strings_SplitN s ⟨#[46]⟩ 5 m w (by omega) HM.out (by decide) (by omega) (by omega)).mono ?_
    rintro e w1 ⟨rfl, hw1⟩
    rw [HL.out] at hw1 ⊢
    have hb1 : Below w.heap.size w w1 := by rw [hw1]; exact (Below.refl _ _).alloc (Nat.le_refl _) _
    have c0 : w1.cell? ⟨w.heap.size, 0, none⟩ = some (.string x0) := by rw [hw1]; simp [Lib.cellsOf]
    have c1 : w1.cell? ⟨w.heap.size, 1, none⟩ = some (.string x1) := by rw [hw1]; simp [Lib.cellsOf]
    have c2 : w1.cell? ⟨w.heap.size, 2, none⟩ = some (.string x2) := by rw [hw1]; simp [Lib.cellsOf]
    have c3 : w1.cell? ⟨w.heap.size, 3, none⟩ = some (.string x3) := by rw [hw1]; simp [Lib.cellsOf]
    have HB1 := Lib.hid hb1; clear hw1 hb1
    simp only [List.length_cons, List.length_nil, Nat.zero_add, Nat.reduceAdd]
    go_wp2_with fail
    clear c0 c1 c2 c3 hat hcap
    go_loop [5, 18] (fun a i => ∃ k A : Nat, k ≤ 4 ∧ A < 256 ^ k ∧ i = .int .i64 k ∧ a = .int .i64 A ∧ Hid (Pa.parseD ((Pa.splitD s.data.toList).take k) 0 = some A)) (fun _ i => 4 - (intOf i).toNat)
    case atStart => exact ⟨0, 0, by omega, by omega, rfl, rfl, rfl⟩
    case round =>
      obtain ⟨k, A, hk, hA, rfl, rfl, HA⟩ := hrel
      have hA4 : A < 4294967296 := Nat.lt_of_lt_of_le hA (Nat.pow_le_pow_right (by omega) hk)
      by_cases hlt : k < 4
      · have hxk : ([x0, x1, x2, x3].getD k x0).data.toList = (Pa.splitD s.data.toList).getD k [] := by
          rw [HSP.out]
          match k, hlt with
          | 0, _ => rfl
          | 1, _ => rfl
          | 2, _ => rfl
          | 3, _ => rfl
        have hik := hi k hlt
        generalize [x0, x1, x2, x3].getD k x0 = xk at *
        have HXK := Lib.hid hxk; clear hxk hi
        have hmem : xk.data.toList ∈ Pa.splitD s.data.toList := by
          rw [HXK.out, List.getD_eq_getElem?_getD, List.getElem?_eq_getElem (by rw [HSP.out]; exact hlt)]
          exact List.getElem_mem _
        have HMEM := Lib.hid hmem; clear hmem
        cases hn : Pa.numL xk.data.toList 255 with
        | none =>
          have HN := Lib.hid (Pa.num_none hn)
          have HP := Lib.hid (Pa.par_none (Pa.parseL_bad HMEM.out hn))
          clear hn
          go_wp2_with fail
          refine (number_any _ 255 _ (by omega)).mono ?_
          rintro e w' ⟨rfl, rfl⟩
          rw [HN.out.1, HN.out.2]
          go_wp2_with fail
          go_ret2
          exact ⟨ret_intE HP.out.1.symm HP.out.2.symm, HB1.out⟩
        | some n =>
          have HN := Lib.hid (Pa.num_some hn)
          have hn255 := Pa.numL_le hn
          have hnext : Pa.parseD ((Pa.splitD s.data.toList).take (k + 1)) 0 = some (256 * A + n) := by
            have hl4 : k < (Pa.splitD s.data.toList).length := by rw [HSP.out]; exact hlt
            rw [Pa.parseD_take _ k hl4, HA.out]
            have : (Pa.splitD s.data.toList)[k] = xk.data.toList := by
              rw [HXK.out, List.getD_eq_getElem?_getD, List.getElem?_eq_getElem hl4]; rfl
            rw [this, hn]; rfl
          have HX := Lib.hid hnext
          clear hn hnext
          go_wp2_with fail
          refine (number_any _ 255 _ (by omega)).mono ?_
          rintro e w' ⟨rfl, rfl⟩
          rw [HN.out.1, HN.out.2]
          go_wp2_with fail
          go_round
          case rel =>
            refine ⟨k + 1, 256 * A + n, by omega, ?_, by go_num, ?_, HX⟩
            · rw [Nat.pow_succ]; omega
            · rw [Pa.or_join (A * 256) n 8 (by omega) (by omega) (by omega) (by omega) (by omega) (by omega)]
              go_num
          case measure => simp [intOf]; omega
      · obtain rfl : k = 4 := by omega
        have hp : Pa.parseL s.data.toList = some A := by
          have h := HA.out
          rw [List.take_of_length_le (by rw [HSP.out]; simp)] at h
          unfold Pa.parseL
          rw [if_pos (by rw [HSP.out]; rfl), h]
        have HP := Lib.hid (Pa.par_some hp)
        clear hp
        go_wp2_with fail
        go_ret2
        exact ⟨ret_intE HP.out.1.symm HP.out.2.symm, HB1.out⟩
  · have hp : Pa.parseL s.data.toList = none := by
      refine Pa.parseL_many ?_
      rcases hfive with h | ⟨_, h⟩
      · rw [← h, ← hlen]; exact h4
      · exact h
    have HP := Lib.hid (Pa.par_none hp)
    have hne : ((L.length : Int) != 4) = true := by rw [bne_iff_ne]; omega
    have HL := Lib.hid hL
    have HM := Lib.hid hm
    clear hp hL hm hdat hlen hfive h4
    go_enter Tryz.func121, Tryz.ntmps121
    go_wp2_with fail
    refine (Tryz.strings_SplitN s ⟨#[46]⟩ 5 m w (by omega) HM.out (by decide) (by omega) (by omega)).mono ?_
    rintro e w1 ⟨rfl, hw1⟩
    rw [HL.out] at hw1 ⊢
    have hb1 : Below w.heap.size w w1 := by rw [hw1]; exact (Below.refl _ _).alloc (Nat.le_refl _) _
    have HB1 := Lib.hid hb1; clear hw1 hb1
    go_wp2_with fail
    go_ret2
    exact ⟨ret_intE HP.out.1.symm HP.out.2.symm, HB1.out⟩

end Go.Proofs.YtgajoiijebbagaaGreatDoor
