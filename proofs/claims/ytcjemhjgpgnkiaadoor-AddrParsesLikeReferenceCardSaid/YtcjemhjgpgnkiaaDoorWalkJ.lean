/-
  The walk of the reference's ParsePrefix. The contract says what the call returns and that what was there before it is unchanged. Conditions: the string is at most 1000000 bytes long.
-/
import Derived.Test.YtcjemhjgpgnkiaaDoorWalkI
namespace Go.Proofs.YtcjemhjgpgnkiaaDoor
open Go.RowKit

theorem frozen_below {w w' : World} {b k : Nat} (hw : Below w.heap.size w w') (hb : b < w.heap.size) (h : w.frozen? ⟨b, k, none⟩ = false) : w'.frozen? ⟨b, k, none⟩ = false := by
  rw [hw.frozen (p := ⟨b, k, none⟩) hb, h]

theorem frozen_old {w : World} (o : Obj) {b k : Nat} (hb : b < w.heap.size) (h : w.frozen? ⟨b, k, none⟩ = false) : (w.alloc o).frozen? ⟨b, k, none⟩ = false := by
  rw [World.frozen?_alloc_past o b k hb, h]

theorem Pa.parseP_at {l : Pa.Bs} {k : Nat} (hn : ∀ x ∈ l.take k, x ≠ 47) (hc : l[k]? = some 47) :
    Pa.parseP l = match Pa.parseL (l.take k), Pa.numL (l.drop (k + 1)) 32 with
      | some a, some b => if Pa.validP a b then some (a, b) else none
      | _, _ => none := by
  have e := Pa.cut_at (l.take k) (l.drop (k + 1)) 47 hn
  rw [← Pa.split_at l 47 k hc] at e
  unfold Pa.parseP
  rw [e]; rfl
theorem Pa.parseP_no {l : Pa.Bs} (hn : ∀ x ∈ l, x ≠ 47) : Pa.parseP l = none := by
  unfold Pa.parseP; rw [Pa.cut_none l 47 hn]; rfl
theorem Pa.parV_lo (l : Pa.Bs) : 0 ≤ Pa.parV l ∧ Pa.parV l ≤ 4294967295 := by
  unfold Pa.parV
  cases h : Pa.parseL l with
  | none => simp
  | some n => have := Pa.parseL_lt h; simp; omega
theorem Pa.numR_lo (l : Pa.Bs) (most : Nat) : -1 ≤ Pa.numR l most ∧ Pa.numR l most ≤ most := by
  unfold Pa.numR
  cases h : Pa.numL l most with
  | none => simp <;> omega
  | some n => have := Pa.numL_le h; simp <;> omega

/-- What ParsePrefix of the reference does behind the slash. -/
theorem Pa.pp_ref {l x y : Pa.Bs} (h : Pa.parseP l = match Pa.parseL x, Pa.numL y 32 with
      | some a, some b => if Pa.validP a b then some (a, b) else none
      | _, _ => none) :
    (Pa.errB (Pa.parOk x) = 0 ∧ Pa.validP (Pa.parV x) (Pa.numR y 32) = true ∧ Pa.ppA l = Pa.parV x ∧ Pa.ppB l = Pa.numR y 32 ∧ Pa.errB (Pa.ppOk l) = 0) ∨
    ((Pa.errB (Pa.parOk x) = 30 ∨ Pa.errB (Pa.parOk x) = 0 ∧ Pa.validP (Pa.parV x) (Pa.numR y 32) = false) ∧ Pa.ppA l = 0 ∧ Pa.ppB l = 0 ∧ Pa.errB (Pa.ppOk l) = 30) := by
  cases hx : Pa.parseL x with
  | none =>
    rw [hx] at h
    exact Or.inr ⟨Or.inl (Pa.par_none hx).2, Pa.pp_none h⟩
  | some a =>
    rw [hx] at h
    obtain ⟨e1, e2⟩ := Pa.par_some hx
    cases hy : Pa.numL y 32 with
    | none =>
      rw [hy] at h
      refine Or.inr ⟨Or.inr ⟨e2, ?_⟩, Pa.pp_none h⟩
      rw [Pa.numR_none hy, Bool.eq_false_iff]
      intro hv; have := Pa.validP_true.1 hv; omega
    | some b =>
      rw [hy] at h
      rw [e1, Pa.numR_some hy]
      by_cases hv : Pa.validP a b = true
      · simp only [hv, if_true] at h
        have := Pa.pp_some h
        exact Or.inl ⟨e2, hv, this⟩
      · have hv' : Pa.validP a b = false := by simpa using hv
        simp only [hv', Bool.false_eq_true, if_false] at h
        exact Or.inr ⟨Or.inr ⟨e2, hv'⟩, Pa.pp_none h⟩

set_option maxHeartbeats 400000 in
theorem refParsePrefix_any (s : ByteArray) (w : World) (hs : s.size ≤ 1000000) :
    Calls Tryd.prog 19 #[.string s] w fun e w' => e = .returned (.tuple #[.agg #[.int .i64 (Pa.ppA s.data.toList), .int .i64 (Pa.ppB s.data.toList)], .int .i64 (Pa.errB (Pa.ppOk s.data.toList))]) ∧ Below w.heap.size w w' := by
  go_enter Tryd.func19, Tryd.ntmps19
  go_wp2
  go_loop [4] (fun i => ∃ k : Nat, k ≤ s.size ∧ i = .int .i64 k ∧ Hid (∀ x ∈ s.data.toList.take k, x ≠ 47)) (fun i => s.size - (intOf i).toNat)
  case atStart => exact ⟨0, Nat.zero_le _, rfl, fun x hx => by simp at hx⟩
  case round =>
    obtain ⟨k, hk, rfl, HN⟩ := hrel
    by_cases hlt : k < s.size
    · by_cases hc : s[k] = 47
      · have hc' : ((s[k].toNat : Int) == 47) = true := by rw [hc]; rfl
        have hpp := Pa.pp_ref (Pa.parseP_at HN.out (by rw [Lib.data_getElem? s k hlt, hc]))
        have HPP := Lib.hid hpp; clear hpp hc
        go_wp2_with fail
        refine (refParse_any _ _ (by simp; omega)).mono ?_
        rintro e w1 ⟨rfl, hb1⟩
        rw [Lib.extract_from_zero]
        have hz := hb1.size
        simp only [World.size_alloc] at hz
        have d0 : w1.cell? ⟨w.heap.size, 0, none⟩ = some (.int .i64 0) := cell_below hb1 (by simp) (by simp)
        have d1 : w1.cell? ⟨w.heap.size, 1, none⟩ = some (.int .i64 0) := cell_below hb1 (by simp) (by simp)
        have f0 : w1.frozen? ⟨w.heap.size, 0, none⟩ = false := frozen_below hb1 (by simp) (by simp)
        have f1 : w1.frozen? ⟨w.heap.size, 1, none⟩ = false := frozen_below hb1 (by simp) (by simp)
        have HB1 := Lib.hid hb1; clear hb1
        go_wp2_with fail
        refine (refNumber_any _ 32 _ (by omega) (by simp; omega)).mono ?_
        rintro e w2 ⟨rfl, hb2⟩
        rw [Lib.extract_to_end]
        have hz2 := hb2.size
        have d0' := cell_below hb2 (by omega) d0
        have d1' := cell_below hb2 (by omega) d1
        have f0' := frozen_below hb2 (by omega) f0
        have f1' := frozen_below hb2 (by omega) f1
        have HB2 := Lib.hid hb2; clear hb2 d0 d1 f0 f1
        have hbB : Below w.heap.size w w2 := below_on (below_on ((Below.refl _ _).alloc (Nat.le_refl _) _) HB1.out) HB2.out
        have HBB := Lib.hid hbB; clear hbB
        generalize hX : Pa.parV (s.data.toList.take k) = X at *
        generalize hY : Pa.numR (s.data.toList.drop (k + 1)) 32 = Y at *
        generalize hE : Pa.errB (Pa.parOk (s.data.toList.take k)) = E at *
        clear hX hY hE
        rcases HPP.out with ⟨he, hv, h1, h2, h3⟩ | ⟨he | ⟨he, hv⟩, h1, h2, h3⟩
        · have H1 := Lib.hid h1; have H2 := Lib.hid h2; have H3 := Lib.hid h3; clear h1 h2 h3
          subst he
          go_wp2_with fail
          refine (refValidPrefix_any _ _ _).mono ?_
          rintro e w3 ⟨rfl, hb3⟩
          have hz3 := hb3.size
          simp only [World.size_alloc] at hz3
          have d0 := cell_below hb3 (by simp; omega) (cell_old _ (by omega) d0')
          have d1 := cell_below hb3 (by simp; omega) (cell_old _ (by omega) d1')
          have f0 := frozen_below hb3 (by simp; omega) (frozen_old _ (by omega) f0')
          have f1 := frozen_below hb3 (by simp; omega) (frozen_old _ (by omega) f1')
          have g0 : w3.cell? ⟨w2.heap.size, 0, none⟩ = some (.int .i64 X) := cell_below hb3 (by simp) (by simp)
          have g1 : w3.cell? ⟨w2.heap.size, 1, none⟩ = some (.int .i64 Y) := cell_below hb3 (by simp) (by simp)
          have hbB3 : Below w.heap.size w w3 := below_on (HBB.out.alloc (by omega) _) hb3
          have HBB3 := Lib.hid hbB3; clear hbB3 hb3
          go_wp2_with fail
          refine bodyPost_ret (v := .tuple #[.agg #[.int .i64 X, .int .i64 Y], .int .i64 0]) (by simp [results, Tryd.results19, go_sem, d0, d1]) rfl ⟨by rw [H1.out, H2.out, H3.out], ?_⟩
          exact (HBB3.out.setCell (Nat.le_refl _) _).setCell (Nat.le_refl _) _
        · have H1 := Lib.hid h1; have H2 := Lib.hid h2; have H3 := Lib.hid h3; clear h1 h2 h3
          subst he
          have hlw : w.heap.size < w2.heap.size := by omega
          go_wp2_with fail
          refine bodyPost_ret (v := .tuple #[.agg #[.int .i64 0, .int .i64 0], .int .i64 30]) (by simp [results, Tryd.results19, go_sem, d0', d1', hlw]) rfl ⟨by rw [H1.out, H2.out, H3.out], ?_⟩
          exact ((HBB.out.setCell (p := ⟨w.heap.size, 0, none⟩) (Nat.le_refl _) _).setCell (p := ⟨w.heap.size, 1, none⟩) (Nat.le_refl _) _).alloc (by simp; omega) _
        · have H1 := Lib.hid h1; have H2 := Lib.hid h2; have H3 := Lib.hid h3; clear h1 h2 h3
          subst he
          go_wp2_with fail
          refine (refValidPrefix_any _ _ _).mono ?_
          rintro e w3 ⟨rfl, hb3⟩
          have hz3 := hb3.size
          simp only [World.size_alloc] at hz3
          have d0 := cell_below hb3 (by simp; omega) (cell_old _ (by omega) d0')
          have d1 := cell_below hb3 (by simp; omega) (cell_old _ (by omega) d1')
          have f0 := frozen_below hb3 (by simp; omega) (frozen_old _ (by omega) f0')
          have f1 := frozen_below hb3 (by simp; omega) (frozen_old _ (by omega) f1')
          have hbB3 : Below w.heap.size w w3 := below_on (HBB.out.alloc (by omega) _) hb3
          have HBB3 := Lib.hid hbB3; clear hbB3 hb3
          go_wp2_with fail
          refine bodyPost_ret (v := .tuple #[.agg #[.int .i64 0, .int .i64 0], .int .i64 30]) (by simp [results, Tryd.results19, go_sem, d0, d1]) rfl ⟨by rw [H1.out, H2.out, H3.out], ?_⟩
          exact (HBB3.out.setCell (Nat.le_refl _) _).setCell (Nat.le_refl _) _
      · have hc' : ((s[k].toNat : Int) == 47) = false := by
          rw [beq_eq_false_iff_ne]; intro e; exact hc (UInt8.toNat_inj.1 (by simpa using (show s[k].toNat = 47 by omega)))
        have hn : ∀ x ∈ s.data.toList.take (k + 1), x ≠ 47 := by
          intro x hx
          rw [take_snoc s k hlt, List.mem_append] at hx
          rcases hx with hx | hx
          · exact HN.out x hx
          · simp at hx; rw [hx]; exact hc
        have HN' := Lib.hid hn; clear hn hc
        go_wp2
        go_round
        case rel => exact ⟨k + 1, by omega, by go_num, HN'⟩
        case measure => simp [intOf]; omega
    · have hke : s.data.toList.take k = s.data.toList := List.take_of_length_le (by rw [size_len]; omega)
      have hp := Pa.pp_none (Pa.parseP_no (l := s.data.toList) (by rw [← hke]; exact HN.out))
      have HP := Lib.hid hp; clear hp hke
      go_wp2
      refine bodyPost_ret (v := .tuple #[.agg #[.int .i64 0, .int .i64 0], .int .i64 30]) (by simp [results, Tryd.results19, go_sem]) rfl ⟨by rw [HP.out.1, HP.out.2.1, HP.out.2.2], ?_⟩
      exact (Below.refl _ _).alloc (Nat.le_refl _) _

end Go.Proofs.YtcjemhjgpgnkiaaDoor
