/-
  The walks of addr.Parse and addr.ParsePrefix. Each contract says what the call returns and that what was there before it is unchanged. Conditions: the string is at most 1000000 bytes long; the library's variables read as its text lays them.
-/
import Derived.Test.YtcjemhjgpgnkiaaDoorWalkK
namespace Go.Proofs.YtcjemhjgpgnkiaaDoor
open Go.RowKit

theorem arr_index (x0 x1 x2 x3 : ByteArray) (k : Nat) (hk : k < 4) (w : World) :
    (Instr.index 49 (.agg #[.string x0, .string x1, .string x2, .string x3]) (.int .i64 k)).run Tryd.prog w = .ok (.string ([x0, x1, x2, x3].getD k x0)) w :=
  match k, hk with
  | 0, _ => by kernel_rfl
  | 1, _ => by kernel_rfl
  | 2, _ => by kernel_rfl
  | 3, _ => by kernel_rfl

theorem list_four {α : Type} (l : List α) (h : l.length = 4) : ∃ a b c d, l = [a, b, c, d] := by
  match l, h with
  | [a, b, c, d], _ => exact ⟨a, b, c, d, rfl⟩

set_option maxHeartbeats 400000 in
theorem parse_any (s : ByteArray) (w : World) (hs : s.size ≤ 1000000) (ok : Ok w) :
    Calls Tryd.prog 16 #[.string s] w fun e w' => e = .returned (.tuple #[.int .i64 (Pa.parV s.data.toList), .int .i64 (Pa.errB (Pa.parOk s.data.toList))]) ∧ Below w.heap.size w w' := by
  obtain ⟨_, ⟨m, hm⟩, _⟩ := ok
  have hdat : (Lib.splitB ⟨#[46]⟩ 0 (min 5 (s.size + 1) - 1) s).map (·.data.toList) = Lib.splitK [46] 0 (min 5 (s.data.toList.length + 1) - 1) s.data.toList := by
    rw [Lib.splitB_data, size_len]
  have hlen : (Lib.splitB ⟨#[46]⟩ 0 (min 5 (s.size + 1) - 1) s).length = (Lib.splitK [46] 0 (min 5 (s.data.toList.length + 1) - 1) s.data.toList).length := by
    rw [← hdat, List.length_map]
  have hfive := Pa.splitN_five s.data.toList
  have hcap := Lib.splitB_length_le ⟨#[46]⟩ 0 (min 5 (s.size + 1) - 1) s
  generalize hL : Lib.splitB ⟨#[46]⟩ 0 (min 5 (s.size + 1) - 1) s = L at *
  by_cases h4 : L.length = 4
  · obtain ⟨x0, x1, x2, x3, rfl⟩ := list_four L h4
    have hsp : Pa.splitD s.data.toList = [x0.data.toList, x1.data.toList, x2.data.toList, x3.data.toList] := by
      rcases hfive with h | ⟨h, _⟩
      · rw [← h, ← hdat]; rfl
      · exact absurd (by rw [← hlen]; rfl) h
    have HSP := Lib.hid hsp
    have HL := Lib.hid hL
    have HM := Lib.hid hm
    have hi := arr_index x0 x1 x2 x3
    have hat : ∀ (w : World) (a : Option Addr) (c : Nat), (Instr.arrayAt 49 (.slice a 4 c)).run Tryd.prog w = .ok (.pointer a) w := fun w a c => run_arrayAt w 49 _ 4 a 4 c Tryd.underlying49 (Nat.le_refl _)
    clear hsp hL hm hdat hlen hfive h4
    go_enter Tryd.func16, Tryd.ntmps16
    go_wp2_with fail
    refine (Tryd.strings_SplitN s ⟨#[46]⟩ 5 m w (by omega) HM.out (by decide) (by omega) (by omega)).mono ?_
    rintro e w1 ⟨rfl, hw1⟩
    rw [HL.out] at hw1 ⊢
    have hb1 : Below w.heap.size w w1 := by rw [hw1]; exact (Below.refl _ _).alloc (Nat.le_refl _) _
    have c0 : w1.cell? ⟨w.heap.size, 0, none⟩ = some (.string x0) := by rw [hw1]; simp [Lib.cellsOf]
    have c1 : w1.cell? ⟨w.heap.size, 1, none⟩ = some (.string x1) := by rw [hw1]; simp [Lib.cellsOf]
    have c2 : w1.cell? ⟨w.heap.size, 2, none⟩ = some (.string x2) := by rw [hw1]; simp [Lib.cellsOf]
    have c3 : w1.cell? ⟨w.heap.size, 3, none⟩ = some (.string x3) := by rw [hw1]; simp [Lib.cellsOf]
    have HB1 := Lib.hid hb1; clear hw1 hb1
    simp only [List.length_cons, List.length_nil, Nat.zero_add, Nat.reduceAdd]
    go_wp2_with fail
    clear c0 c1 c2 c3 hat hcap
    go_loop [5, 18] (fun a i => ∃ k A : Nat, k ≤ 4 ∧ A < 256 ^ k ∧ i = .int .i64 k ∧ a = .int .i64 A ∧ Hid (Pa.parseD ((Pa.splitD s.data.toList).take k) 0 = some A)) (fun _ i => 4 - (intOf i).toNat)
    case atStart => exact ⟨0, 0, by omega, by omega, rfl, rfl, rfl⟩
    case round =>
      obtain ⟨k, A, hk, hA, rfl, rfl, HA⟩ := hrel
      have hA4 : A < 4294967296 := Nat.lt_of_lt_of_le hA (Nat.pow_le_pow_right (by omega) hk)
      by_cases hlt : k < 4
      · have hxk : ([x0, x1, x2, x3].getD k x0).data.toList = (Pa.splitD s.data.toList).getD k [] := by
          rw [HSP.out]
          match k, hlt with
          | 0, _ => rfl
          | 1, _ => rfl
          | 2, _ => rfl
          | 3, _ => rfl
        have hik := hi k hlt
        generalize [x0, x1, x2, x3].getD k x0 = xk at *
        have HXK := Lib.hid hxk; clear hxk hi
        have hmem : xk.data.toList ∈ Pa.splitD s.data.toList := by
          rw [HXK.out, List.getD_eq_getElem?_getD, List.getElem?_eq_getElem (by rw [HSP.out]; exact hlt)]
          exact List.getElem_mem _
        have HMEM := Lib.hid hmem; clear hmem
        cases hn : Pa.numL xk.data.toList 255 with
        | none =>
          have HN := Lib.hid (Pa.num_none hn)
          have HP := Lib.hid (Pa.par_none (Pa.parseL_bad HMEM.out hn))
          clear hn
          go_wp2_with fail
          refine (number_any _ 255 _ (by omega)).mono ?_
          rintro e w' ⟨rfl, rfl⟩
          rw [HN.out.1, HN.out.2]
          go_wp2_with fail
          go_ret2
          exact ⟨ret_intE HP.out.1.symm HP.out.2.symm, HB1.out⟩
        | some n =>
          have HN := Lib.hid (Pa.num_some hn)
          have hn255 := Pa.numL_le hn
          have hnext : Pa.parseD ((Pa.splitD s.data.toList).take (k + 1)) 0 = some (256 * A + n) := by
            have hl4 : k < (Pa.splitD s.data.toList).length := by rw [HSP.out]; exact hlt
            rw [Pa.parseD_take _ k hl4, HA.out]
            have : (Pa.splitD s.data.toList)[k] = xk.data.toList := by
              rw [HXK.out, List.getD_eq_getElem?_getD, List.getElem?_eq_getElem hl4]; rfl
            rw [this, hn]; rfl
          have HX := Lib.hid hnext
          clear hn hnext
          go_wp2_with fail
          refine (number_any _ 255 _ (by omega)).mono ?_
          rintro e w' ⟨rfl, rfl⟩
          rw [HN.out.1, HN.out.2]
          go_wp2_with fail
          go_round
          case rel =>
            refine ⟨k + 1, 256 * A + n, by omega, ?_, by go_num, ?_, HX⟩
            · rw [Nat.pow_succ]; omega
            · rw [Pa.or_join (A * 256) n 8 (by omega) (by omega) (by omega) (by omega) (by omega) (by omega)]
              go_num
          case measure => simp [intOf]; omega
      · obtain rfl : k = 4 := by omega
        have hp : Pa.parseL s.data.toList = some A := by
          have h := HA.out
          rw [List.take_of_length_le (by rw [HSP.out]; simp)] at h
          unfold Pa.parseL
          rw [if_pos (by rw [HSP.out]; rfl), h]
        have HP := Lib.hid (Pa.par_some hp)
        clear hp
        go_wp2_with fail
        go_ret2
        exact ⟨ret_intE HP.out.1.symm HP.out.2.symm, HB1.out⟩
  · have hp : Pa.parseL s.data.toList = none := by
      refine Pa.parseL_many ?_
      rcases hfive with h | ⟨_, h⟩
      · rw [← h, ← hlen]; exact h4
      · exact h
    have HP := Lib.hid (Pa.par_none hp)
    have hne : ((L.length : Int) != 4) = true := by rw [bne_iff_ne]; omega
    have HL := Lib.hid hL
    have HM := Lib.hid hm
    clear hp hL hm hdat hlen hfive h4
    go_enter Tryd.func16, Tryd.ntmps16
    go_wp2_with fail
    refine (Tryd.strings_SplitN s ⟨#[46]⟩ 5 m w (by omega) HM.out (by decide) (by omega) (by omega)).mono ?_
    rintro e w1 ⟨rfl, hw1⟩
    rw [HL.out] at hw1 ⊢
    have hb1 : Below w.heap.size w w1 := by rw [hw1]; exact (Below.refl _ _).alloc (Nat.le_refl _) _
    have HB1 := Lib.hid hb1; clear hw1 hb1
    go_wp2_with fail
    go_ret2
    exact ⟨ret_intE HP.out.1.symm HP.out.2.symm, HB1.out⟩

/-- What ParsePrefix of the program does behind the slash. -/
theorem Pa.pp_prog {l x y : Pa.Bs} (h : Pa.parseP l = match Pa.parseL x, Pa.numL y 32 with
      | some a, some b => if Pa.validP a b then some (a, b) else none
      | _, _ => none) :
    (Pa.errB (Pa.parOk x) = 0 ∧ Pa.numOk y 32 = true ∧ Pa.validP (Pa.parV x) (Pa.numV y 32) = true ∧ Pa.ppA l = Pa.parV x ∧ Pa.ppB l = Pa.numV y 32 ∧ Pa.errB (Pa.ppOk l) = 0) ∨
    ((Pa.errB (Pa.parOk x) = 30 ∨ Pa.errB (Pa.parOk x) = 0 ∧ (Pa.numOk y 32 = false ∨ Pa.numOk y 32 = true ∧ Pa.validP (Pa.parV x) (Pa.numV y 32) = false)) ∧ Pa.ppA l = 0 ∧ Pa.ppB l = 0 ∧ Pa.errB (Pa.ppOk l) = 30) := by
  cases hx : Pa.parseL x with
  | none =>
    rw [hx] at h
    exact Or.inr ⟨Or.inl (Pa.par_none hx).2, Pa.pp_none h⟩
  | some a =>
    rw [hx] at h
    obtain ⟨e1, e2⟩ := Pa.par_some hx
    cases hy : Pa.numL y 32 with
    | none =>
      rw [hy] at h
      exact Or.inr ⟨Or.inr ⟨e2, Or.inl (Pa.num_none hy).2⟩, Pa.pp_none h⟩
    | some b =>
      rw [hy] at h
      rw [e1, (Pa.num_some hy).1]
      by_cases hv : Pa.validP a b = true
      · simp only [hv, if_true] at h
        have := Pa.pp_some h
        exact Or.inl ⟨e2, (Pa.num_some hy).2, hv, this⟩
      · have hv' : Pa.validP a b = false := by simpa using hv
        simp only [hv', Bool.false_eq_true, if_false] at h
        exact Or.inr ⟨Or.inr ⟨e2, Or.inr ⟨(Pa.num_some hy).2, hv'⟩⟩, Pa.pp_none h⟩

set_option maxHeartbeats 400000 in
theorem parsePrefix_any (s : ByteArray) (w : World) (hs : s.size ≤ 1000000) (ok : Ok w) :
    Calls Tryd.prog 18 #[.string s] w fun e w' => e = .returned (.tuple #[.agg #[.int .i64 (Pa.ppA s.data.toList), .int .i64 (Pa.ppB s.data.toList)], .int .i64 (Pa.errB (Pa.ppOk s.data.toList))]) ∧ Below w.heap.size w w' := by
  have OK := Lib.hid ok
  obtain ⟨hsz, ⟨m, hm⟩, _⟩ := ok
  have HM := Lib.hid hm; clear hm
  have hcut : (Lib.cut s.data.toList [47]).2.2 = false ∧ Pa.parseP s.data.toList = none ∨ (Lib.cut s.data.toList [47]).2.2 = true ∧ (Lib.cut s.data.toList [47]).1.length ≤ s.size ∧ Pa.parseP s.data.toList = (match Pa.parseL (Lib.cut s.data.toList [47]).1, Pa.numL (Lib.cut s.data.toList [47]).2.1 32 with
      | some a, some b => if Pa.validP a b then some (a, b) else none
      | _, _ => none) := by
    unfold Pa.parseP
    cases hc : (Lib.cut s.data.toList [47]).2.2 with
    | false => exact Or.inl ⟨rfl, by simp⟩
    | true =>
      refine Or.inr ⟨rfl, ?_, by cases Pa.parseL (Lib.cut s.data.toList [47]).1 <;> cases Pa.numL (Lib.cut s.data.toList [47]).2.1 32 <;> rfl⟩
      unfold Lib.cut
      split <;> simp <;> have := size_len s <;> omega
  generalize hX : (Lib.cut s.data.toList [47]).1 = X at *
  generalize hY : (Lib.cut s.data.toList [47]).2.1 = Y at *
  generalize hF : (Lib.cut s.data.toList [47]).2.2 = F at *
  have HX := Lib.hid hX; have HY := Lib.hid hY; have HF := Lib.hid hF; clear hX hY hF
  rcases hcut with ⟨rfl, hp⟩ | ⟨rfl, hXl, hp⟩
  · have HP := Lib.hid (Pa.pp_none hp); clear hp
    go_enter Tryd.func18, Tryd.ntmps18
    go_wp2_with fail
    refine (Tryd.strings_Cut s ⟨#[47]⟩ m _ (by omega) (cell_old _ (by omega) HM.out)).mono ?_
    rintro e w1 ⟨rfl, n, hw1⟩
    show _
    rw [HX.out, HY.out, HF.out]
    have hb1 : Below (w.alloc (.cells #[.int .i64 0, .int .i64 0] 23)).heap.size (w.alloc (.cells #[.int .i64 0, .int .i64 0] 23)) w1 := by rw [hw1]; exact below_drewN (Below.refl _ _) n
    have hz1 := hb1.size
    simp only [World.size_alloc] at hz1
    have d0 : w1.cell? ⟨w.heap.size, 0, none⟩ = some (.int .i64 0) := cell_below hb1 (by simp) (by simp)
    have d1 : w1.cell? ⟨w.heap.size, 1, none⟩ = some (.int .i64 0) := cell_below hb1 (by simp) (by simp)
    have f0 : w1.frozen? ⟨w.heap.size, 0, none⟩ = false := frozen_below hb1 (by simp) (by simp)
    have f1 : w1.frozen? ⟨w.heap.size, 1, none⟩ = false := frozen_below hb1 (by simp) (by simp)
    have HB1 := Lib.hid (below_on ((Below.refl _ _).alloc (Nat.le_refl _) _) hb1); clear hb1 hw1
    go_wp2_with fail
    refine bodyPost_ret (v := .tuple #[.agg #[.int .i64 0, .int .i64 0], .int .i64 30]) (by simp [results, Tryd.results18, go_sem, d0, d1]) rfl ⟨by rw [HP.out.1, HP.out.2.1, HP.out.2.2], ?_⟩
    exact (HB1.out.setCell (p := ⟨w.heap.size, 0, none⟩) (Nat.le_refl _) _).setCell (p := ⟨w.heap.size, 1, none⟩) (Nat.le_refl _) _
  · have HPP := Lib.hid (Pa.pp_prog hp); clear hp
    go_enter Tryd.func18, Tryd.ntmps18
    go_wp2_with fail
    refine (Tryd.strings_Cut s ⟨#[47]⟩ m _ (by omega) (cell_old _ (by omega) HM.out)).mono ?_
    rintro e w1 ⟨rfl, n, hw1⟩
    show _
    rw [HX.out, HY.out, HF.out]
    have hb1 : Below (w.alloc (.cells #[.int .i64 0, .int .i64 0] 23)).heap.size (w.alloc (.cells #[.int .i64 0, .int .i64 0] 23)) w1 := by rw [hw1]; exact below_drewN (Below.refl _ _) n
    have hz1 := hb1.size
    simp only [World.size_alloc] at hz1
    have d0 : w1.cell? ⟨w.heap.size, 0, none⟩ = some (.int .i64 0) := cell_below hb1 (by simp) (by simp)
    have d1 : w1.cell? ⟨w.heap.size, 1, none⟩ = some (.int .i64 0) := cell_below hb1 (by simp) (by simp)
    have f0 : w1.frozen? ⟨w.heap.size, 0, none⟩ = false := frozen_below hb1 (by simp) (by simp)
    have f1 : w1.frozen? ⟨w.heap.size, 1, none⟩ = false := frozen_below hb1 (by simp) (by simp)
    have HB1 := Lib.hid (below_on ((Below.refl _ _).alloc (Nat.le_refl _) _) hb1); clear hb1 hw1
    go_wp2_with fail
    refine (parse_any _ _ (by simp [ByteArray.size]; omega) (OK.out.below HB1.out)).mono ?_
    rintro e w2 ⟨rfl, hb2⟩
    have hz2 := hb2.size
    have d0' := cell_below hb2 (by omega) d0
    have d1' := cell_below hb2 (by omega) d1
    have f0' := frozen_below hb2 (by omega) f0
    have f1' := frozen_below hb2 (by omega) f1
    have hlw : w.heap.size < w2.heap.size := by omega
    have HB3 := Lib.hid (below_on HB1.out hb2); clear hb2 d0 d1 f0 f1
    go_wp2_with fail
    refine (number_any _ 32 _ (by omega)).mono ?_
    rintro e w' ⟨rfl, rfl⟩
    show _
    generalize hA : Pa.parV X = A at *
    generalize hB : Pa.numV Y 32 = B at *
    generalize hE : Pa.errB (Pa.parOk X) = E at *
    generalize hK : Pa.numOk Y 32 = K at *
    clear hA hB hE hK
    rcases HPP.out with ⟨rfl, rfl, hv, h1, h2, h3⟩ | ⟨rfl | ⟨rfl, rfl | ⟨rfl, hv⟩⟩, h1, h2, h3⟩
    all_goals
      have H1 := Lib.hid h1; have H2 := Lib.hid h2; have H3 := Lib.hid h3; clear h1 h2 h3
      go_wp2_with fail
    · refine (validPrefix_any _ _ _).mono ?_
      rintro e w3 ⟨rfl, hb3⟩
      have hz3 := hb3.size
      simp only [World.size_alloc] at hz3
      have d0 := cell_below hb3 (by simp; omega) (cell_old _ (by omega) d0')
      have d1 := cell_below hb3 (by simp; omega) (cell_old _ (by omega) d1')
      have f0 := frozen_below hb3 (by simp; omega) (frozen_old _ (by omega) f0')
      have f1 := frozen_below hb3 (by simp; omega) (frozen_old _ (by omega) f1')
      have g0 : w3.cell? ⟨w2.heap.size, 0, none⟩ = some (.int .i64 A) := cell_below hb3 (by simp) (by simp)
      have g1 : w3.cell? ⟨w2.heap.size, 1, none⟩ = some (.int .i64 B) := cell_below hb3 (by simp) (by simp)
      have HB4 := Lib.hid (below_on (HB3.out.alloc (by omega) _) hb3); clear hb3
      go_wp2_with fail
      refine bodyPost_ret (v := .tuple #[.agg #[.int .i64 A, .int .i64 B], .int .i64 0]) (by simp [results, Tryd.results18, go_sem, d0, d1]) rfl ⟨by rw [H1.out, H2.out, H3.out], ?_⟩
      exact (HB4.out.setCell (Nat.le_refl _) _).setCell (Nat.le_refl _) _
    · refine bodyPost_ret (v := .tuple #[.agg #[.int .i64 0, .int .i64 0], .int .i64 30]) (by simp [results, Tryd.results18, go_sem, d0', d1', hlw]) rfl ⟨by rw [H1.out, H2.out, H3.out], ?_⟩
      exact ((HB3.out.setCell (p := ⟨w.heap.size, 0, none⟩) (Nat.le_refl _) _).setCell (p := ⟨w.heap.size, 1, none⟩) (Nat.le_refl _) _).alloc (by simp; omega) _
    · refine bodyPost_ret (v := .tuple #[.agg #[.int .i64 0, .int .i64 0], .int .i64 30]) (by simp [results, Tryd.results18, go_sem, d0', d1', hlw]) rfl ⟨by rw [H1.out, H2.out, H3.out], ?_⟩
      exact ((HB3.out.setCell (p := ⟨w.heap.size, 0, none⟩) (Nat.le_refl _) _).setCell (p := ⟨w.heap.size, 1, none⟩) (Nat.le_refl _) _).alloc (by simp; omega) _
    · refine (validPrefix_any _ _ _).mono ?_
      rintro e w3 ⟨rfl, hb3⟩
      have hz3 := hb3.size
      simp only [World.size_alloc] at hz3
      have d0 := cell_below hb3 (by simp; omega) (cell_old _ (by omega) d0')
      have d1 := cell_below hb3 (by simp; omega) (cell_old _ (by omega) d1')
      have f0 := frozen_below hb3 (by simp; omega) (frozen_old _ (by omega) f0')
      have f1 := frozen_below hb3 (by simp; omega) (frozen_old _ (by omega) f1')
      have HB4 := Lib.hid (below_on (HB3.out.alloc (by omega) _) hb3); clear hb3
      go_wp2_with fail
      refine bodyPost_ret (v := .tuple #[.agg #[.int .i64 0, .int .i64 0], .int .i64 30]) (by simp [results, Tryd.results18, go_sem, d0, d1]) rfl ⟨by rw [H1.out, H2.out, H3.out], ?_⟩
      exact (HB4.out.setCell (Nat.le_refl _) _).setCell (Nat.le_refl _) _

end Go.Proofs.YtcjemhjgpgnkiaaDoor
