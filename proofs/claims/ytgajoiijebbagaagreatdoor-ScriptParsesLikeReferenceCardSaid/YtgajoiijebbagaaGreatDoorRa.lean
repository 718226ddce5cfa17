/-
  The walks of the document's side of names: label, Labels, ValidName. Each says what the call returns and that what was there before it is unchanged. Conditions: none.
-/
import Derived.Test.YtgajoiijebbagaaGreatDoorLn
import Derived.Test.YtgajoiijebbagaaGreatDoorGo
import Derived.Test.YtgajoiijebbagaaGreatDoorAc
import Derived.Test.YtgajoiijebbagaaGreatDoorRgP
import Derived.Laws.OwnMore
namespace Go.Proofs.YtgajoiijebbagaaGreatDoor
open Go.RowKit Go.Proofs

theorem Pa.inLab_int (c : UInt8) : Pa.inLab c = (decide (97 ≤ (c.toNat : Int) ∧ (c.toNat : Int) ≤ 122) || decide (48 ≤ (c.toNat : Int) ∧ (c.toNat : Int) ≤ 57) || decide ((c.toNat : Int) = 45)) := by
  unfold Pa.inLab
  have : (c = 45) ↔ ((c.toNat : Int) = 45) := ⟨fun h => by rw [h]; rfl, fun h => UInt8.toNat_inj.1 (by show c.toNat = 45; omega)⟩
  congr 1
  · congr 1 <;> (congr 1; simp only [eq_iff_iff]; omega)
  · simp only [this]
theorem u8_45 (c : UInt8) : c = 45 ↔ (c.toNat : Int) = 45 := ⟨fun h => by rw [h]; rfl, fun h => UInt8.toNat_inj.1 (by show c.toNat = 45; omega)⟩
theorem head_at (s : ByteArray) (h : 0 < s.size) : s.data.toList.head? = some s[0] := by
  rw [List.head?_eq_getElem?]; exact Lib.data_getElem? s 0 h
theorem last_at (s : ByteArray) (h : 0 < s.size) : s.data.toList.getLast? = some (s[s.size - 1]'(by omega)) := by
  rw [List.getLast?_eq_getElem?, size_len]; exact Lib.data_getElem? s (s.size - 1) (by omega)
theorem Pa.lab_false {x : Pa.Bs} (h : ¬ ((1 ≤ x.length ∧ x.length ≤ 20) ∧ x.head? ≠ some 45 ∧ x.getLast? ≠ some 45 ∧ ∀ c ∈ x, Pa.inLab c = true)) : Pa.labOk x = false := by
  rw [Bool.eq_false_iff]; exact fun e => h ((Pa.labOk_iff x).1 e)

set_option maxRecDepth 100000 in
set_option maxHeartbeats 800000 in
theorem refLabel_any (s : ByteArray) (w : World) : Calls Tryz.prog 75 #[.string s] w fun e w' => e = .returned (.bool (Pa.labOk s.data.toList)) ∧ w = w' := by
  by_cases h0 : s.size = 0
  · have hf : (s.size : Int) < 1 := by omega
    have HR := Lib.hid (Pa.lab_false (x := s.data.toList) (fun h => by have := h.1.1; rw [size_len] at this; omega))
    clear h0
    go_enter Tryz.func75, Tryz.ntmps75
    go_wp2
    go_ret
    exact ⟨ret_bool HR.out.symm, rfl⟩
  have hp : 0 < s.size := by omega
  have hf1 : ¬ (s.size : Int) < 1 := by omega
  by_cases h20 : 20 < s.size
  · have hf : 20 < (s.size : Int) := by omega
    have HR := Lib.hid (Pa.lab_false (x := s.data.toList) (fun h => by have := h.1.2; rw [size_len] at this; omega))
    clear h0 h20 hp
    go_enter Tryz.func75, Tryz.ntmps75
    go_wp2
    go_ret
    exact ⟨ret_bool HR.out.symm, rfl⟩
  have hf2 : ¬ 20 < (s.size : Int) := by omega
  by_cases hh : s[0] = 45
  · have hf : ((s[0].toNat : Int) == 45) = true := by rw [(u8_45 _).1 hh]; rfl
    have HR := Lib.hid (Pa.lab_false (x := s.data.toList) (fun h => h.2.1 (by rw [head_at s hp, hh])))
    clear h0 h20 hh
    go_enter Tryz.func75, Tryz.ntmps75
    go_wp2
    go_ret
    exact ⟨ret_bool HR.out.symm, rfl⟩
  have hf3 : ((s[0].toNat : Int) == 45) = false := by rw [beq_eq_false_iff_ne]; exact fun e => hh ((u8_45 _).2 e)
  have hlp : s.size - 1 < s.size := by omega
  have hsub : ((s.size : Int) - 1).toNat = s.size - 1 := by omega
  by_cases ht : s[s.size - 1] = 45
  · have hf : ((s[s.size - 1].toNat : Int) == 45) = true := by rw [(u8_45 _).1 ht]; rfl
    have HR := Lib.hid (Pa.lab_false (x := s.data.toList) (fun h => h.2.2.1 (by rw [last_at s hp, ht])))
    clear h0 h20 hh ht
    go_enter Tryz.func75, Tryz.ntmps75
    go_wp2
    go_ret
    exact ⟨ret_bool HR.out.symm, rfl⟩
  have hf4 : ((s[s.size - 1].toNat : Int) == 45) = false := by rw [beq_eq_false_iff_ne]; exact fun e => ht ((u8_45 _).2 e)
  have HOK := Lib.hid (fun (hall : ∀ c ∈ s.data.toList, Pa.inLab c = true) => (Pa.labOk_iff s.data.toList).2 ⟨⟨by rw [size_len]; omega, by rw [size_len]; omega⟩, by rw [head_at s hp]; simpa using hh, by rw [last_at s hp]; simpa using ht, hall⟩)
  clear hh ht h0 h20
  go_enter Tryz.func75, Tryz.ntmps75
  go_wp2
  go_loop [3] (fun i => ∃ k : Nat, k ≤ s.size ∧ i = .int .i64 k ∧ Hid (∀ c ∈ s.data.toList.take k, Pa.inLab c = true)) (fun i => s.size - (intOf i).toNat)
  case atStart => exact ⟨0, Nat.zero_le _, rfl, by simp [Hid]⟩
  case round =>
    obtain ⟨k, hk, rfl, HALL⟩ := hrel
    by_cases hlt : k < s.size
    · have hmem : s[k] ∈ s.data.toList := by rw [← byte_at s k hlt]; exact List.getElem_mem _
      have HN := Lib.hid (fun (h : Pa.inLab s[k] = true) => (show ∀ c ∈ s.data.toList.take (k + 1), Pa.inLab c = true from fun c hc => by
        rw [take_snoc s k hlt] at hc
        rcases List.mem_append.1 hc with h' | h'
        · exact HALL.out c h'
        · rw [List.mem_singleton.1 h']; exact h))
      have HB := Lib.hid (fun (h : Pa.inLab s[k] = false) => Pa.lab_false (x := s.data.toList) (fun h' => by rw [h'.2.2.2 _ hmem] at h; cases h))
      clear hmem
      have HI := Lib.hid (Pa.inLab_int s[k])
      rcases (by omega : (s[k].toNat : Int) < 45 ∨ (s[k].toNat : Int) = 45 ∨ 45 < (s[k].toNat : Int) ∧ (s[k].toNat : Int) < 48 ∨ 48 ≤ (s[k].toNat : Int) ∧ (s[k].toNat : Int) ≤ 57 ∨ 57 < (s[k].toNat : Int) ∧ (s[k].toNat : Int) < 97 ∨ 97 ≤ (s[k].toNat : Int) ∧ (s[k].toNat : Int) ≤ 122 ∨ 122 < (s[k].toNat : Int)) with hx | hx | hx | hx | hx | hx | hx
      · have HX : Hid (Pa.inLab s[k] = false) := by rw [Hid, HI.out]; simp; omega
        have f1 : ¬ (97 : Int) ≤ (s[k].toNat : Int) := by omega
        have f1' : (s[k].toNat : Int) < 97 := by omega
        have f2 : ¬ (48 : Int) ≤ (s[k].toNat : Int) := by omega
        have f2' : (s[k].toNat : Int) < 48 := by omega
        have f3 : (s[k].toNat : Int) ≤ 122 := by omega
        have f3' : ¬ 122 < (s[k].toNat : Int) := by omega
        have f4 : (s[k].toNat : Int) ≤ 57 := by omega
        have f4' : ¬ 57 < (s[k].toNat : Int) := by omega
        have f5 : ((s[k].toNat : Int) != 45) = true := by rw [bne_iff_ne]; omega
        clear hx HI
        go_wp2
        go_ret
        exact ⟨ret_bool (HB.out HX.out).symm, rfl⟩
      · have HX : Hid (Pa.inLab s[k] = true) := by rw [Hid, HI.out]; simp; omega
        have f1 : ¬ (97 : Int) ≤ (s[k].toNat : Int) := by omega
        have f1' : (s[k].toNat : Int) < 97 := by omega
        have f2 : ¬ (48 : Int) ≤ (s[k].toNat : Int) := by omega
        have f2' : (s[k].toNat : Int) < 48 := by omega
        have f3 : (s[k].toNat : Int) ≤ 122 := by omega
        have f3' : ¬ 122 < (s[k].toNat : Int) := by omega
        have f4 : (s[k].toNat : Int) ≤ 57 := by omega
        have f4' : ¬ 57 < (s[k].toNat : Int) := by omega
        have f5 : ((s[k].toNat : Int) != 45) = false := by rw [bne_eq_false_iff_eq]; omega
        clear hx HI
        go_wp2
        exact ⟨⟨k + 1, by omega, by go_num, HN.out HX.out⟩, by simp [intOf]; omega⟩
      · have HX : Hid (Pa.inLab s[k] = false) := by rw [Hid, HI.out]; simp; omega
        have f1 : ¬ (97 : Int) ≤ (s[k].toNat : Int) := by omega
        have f1' : (s[k].toNat : Int) < 97 := by omega
        have f2 : ¬ (48 : Int) ≤ (s[k].toNat : Int) := by omega
        have f2' : (s[k].toNat : Int) < 48 := by omega
        have f3 : (s[k].toNat : Int) ≤ 122 := by omega
        have f3' : ¬ 122 < (s[k].toNat : Int) := by omega
        have f4 : (s[k].toNat : Int) ≤ 57 := by omega
        have f4' : ¬ 57 < (s[k].toNat : Int) := by omega
        have f5 : ((s[k].toNat : Int) != 45) = true := by rw [bne_iff_ne]; omega
        clear hx HI
        go_wp2
        go_ret
        exact ⟨ret_bool (HB.out HX.out).symm, rfl⟩
      · have HX : Hid (Pa.inLab s[k] = true) := by rw [Hid, HI.out]; simp; omega
        have f1 : ¬ (97 : Int) ≤ (s[k].toNat : Int) := by omega
        have f1' : (s[k].toNat : Int) < 97 := by omega
        have f2 : (48 : Int) ≤ (s[k].toNat : Int) := by omega
        have f3 : (s[k].toNat : Int) ≤ 122 := by omega
        have f3' : ¬ 122 < (s[k].toNat : Int) := by omega
        have f4 : (s[k].toNat : Int) ≤ 57 := by omega
        have f4' : ¬ 57 < (s[k].toNat : Int) := by omega
        have f5 : ((s[k].toNat : Int) != 45) = true := by rw [bne_iff_ne]; omega
        clear hx HI
        go_wp2
        exact ⟨⟨k + 1, by omega, by go_num, HN.out HX.out⟩, by simp [intOf]; omega⟩
      · have HX : Hid (Pa.inLab s[k] = false) := by rw [Hid, HI.out]; simp; omega
        have f1 : ¬ (97 : Int) ≤ (s[k].toNat : Int) := by omega
        have f1' : (s[k].toNat : Int) < 97 := by omega
        have f2 : (48 : Int) ≤ (s[k].toNat : Int) := by omega
        have f3 : (s[k].toNat : Int) ≤ 122 := by omega
        have f3' : ¬ 122 < (s[k].toNat : Int) := by omega
        have f4 : ¬ (s[k].toNat : Int) ≤ 57 := by omega
        have f4' : 57 < (s[k].toNat : Int) := by omega
        have f5 : ((s[k].toNat : Int) != 45) = true := by rw [bne_iff_ne]; omega
        clear hx HI
        go_wp2
        go_ret
        exact ⟨ret_bool (HB.out HX.out).symm, rfl⟩
      · have HX : Hid (Pa.inLab s[k] = true) := by rw [Hid, HI.out]; simp; omega
        have f1 : (97 : Int) ≤ (s[k].toNat : Int) := by omega
        have f2 : (48 : Int) ≤ (s[k].toNat : Int) := by omega
        have f3 : (s[k].toNat : Int) ≤ 122 := by omega
        have f3' : ¬ 122 < (s[k].toNat : Int) := by omega
        have f4 : ¬ (s[k].toNat : Int) ≤ 57 := by omega
        have f4' : 57 < (s[k].toNat : Int) := by omega
        have f5 : ((s[k].toNat : Int) != 45) = true := by rw [bne_iff_ne]; omega
        clear hx HI
        go_wp2
        exact ⟨⟨k + 1, by omega, by go_num, HN.out HX.out⟩, by simp [intOf]; omega⟩
      · have HX : Hid (Pa.inLab s[k] = false) := by rw [Hid, HI.out]; simp; omega
        have f1 : (97 : Int) ≤ (s[k].toNat : Int) := by omega
        have f2 : (48 : Int) ≤ (s[k].toNat : Int) := by omega
        have f3 : ¬ (s[k].toNat : Int) ≤ 122 := by omega
        have f3' : 122 < (s[k].toNat : Int) := by omega
        have f4 : ¬ (s[k].toNat : Int) ≤ 57 := by omega
        have f4' : 57 < (s[k].toNat : Int) := by omega
        have f5 : ((s[k].toNat : Int) != 45) = true := by rw [bne_iff_ne]; omega
        clear hx HI
        go_wp2
        go_ret
        exact ⟨ret_bool (HB.out HX.out).symm, rfl⟩
    · have hke : s.data.toList.take k = s.data.toList := List.take_of_length_le (by rw [size_len]; omega)
      have HR := Lib.hid (HOK.out (by rw [← hke]; exact HALL.out))
      go_wp2
      go_ret
      exact ⟨ret_bool HR.out.symm, rfl⟩

theorem strs_set (P : List Pa.Bs) (cur x : Pa.Bs) : ((P ++ [cur]).map strV).set P.length (strV x) = (P ++ [x]).map strV := by
  rw [List.map_append, List.map_append, List.set_append_right _ _ (by simp)]
  simp
theorem one_sub (s : ByteArray) (k : Nat) (h : k < s.size) : s.extract k (k + 1) = ⟨[s[k]].toArray⟩ := by
  apply ByteArray.ext
  apply Array.toList_inj.1
  rw [extract_piece, Pa.piece_snoc s.data.toList k k (Nat.le_refl _) (by rw [size_len]; exact h), Pa.piece_self, byte_at s k h]; rfl

set_option maxRecDepth 100000 in
set_option maxHeartbeats 800000 in
theorem refLabels_any (s : ByteArray) (w : World) (hs : s.size ≤ 60) : Calls Tryz.prog 74 #[.string s] w fun e w' => ∃ v, e = .returned v ∧ StrsAt w' v (Pa.splitC 46 s.data.toList) ∧ Below w.heap.size w w' := by
  obtain ⟨i0, hi, hz0, hz1, hz2⟩ := info_parts infoS
  obtain ⟨L, hL⟩ : ∃ L, L = Pa.splitC 46 s.data.toList := ⟨_, rfl⟩
  rw [← hL]
  have HL := Lib.hid hL; clear hL
  go_enter Tryz.func74, Tryz.ntmps74
  go_wp2_with fail
  go_loopw [3, 4] (fun v i wr => ∃ (k g cap : Nat) (P : List Pa.Bs) (cur : Pa.Bs), k ≤ s.size ∧ i = .int .i64 k ∧ P.length ≤ k ∧ v = .slice (some ⟨g, 0, none⟩) (P.length + 1) cap ∧ Hid (Pa.Cuts 46 s.data.toList P cur (s.data.toList.drop k)) ∧ cur.length ≤ k ∧ wr.ownsRow w.heap.size 9 1 (.slice (some ⟨g, 0, none⟩) (P.length + 1) cap) (P.length + 1) ((P ++ [cur]).map strV) ∧ Below w.heap.size w wr) (fun _ i _ => s.size - (intOf i).toNat)
  case atStart => exact ⟨0, w.heap.size, 1, [], [], Nat.zero_le _, rfl, by simp, rfl, Pa.Cuts.start 46 _, by simp, owns_new w w.heap.size 9 #[strV []] (Nat.le_refl _) (by simp [maxLen]), (Below.refl _ _).alloc (Nat.le_refl _) _⟩
  case round =>
    obtain ⟨k, g, cap, P, cur, hk, rfl, hPk, rfl, HC, hck, hown, hB⟩ := hrel
    have hws := hB.size
    by_cases hlt : k < s.size
    · have hd := Pa.drop_at s.data.toList k (by rw [size_len]; exact hlt)
      rw [byte_at s k hlt] at hd
      by_cases hc : s[k] = 46
      · have hf : ((s[k].toNat : Int) == 46) = true := by rw [hc]; rfl
        have HN : Hid (Pa.Cuts 46 s.data.toList (P ++ [cur]) [] (s.data.toList.drop (k + 1))) := by
          have := HC.out; rw [hd, hc] at this; exact this.hit
        clear hd hc HC
        go_wp2_with (at_builtin; refine wpList_append_lies _ rfl (.tmp 16) (.tmp 17) 41 rfl w.heap.size 9 i0 (.string ⟨#[]⟩) 1 16 Tryz.underlying41 hi hz0 hz1 hz2 rfl (by decide) _ (P.length + 1) _ rfl (owns_same hown (fun g hg => Below.heap_alloc _ _ g (owns_lt hown hg))) ⟨wr.heap.size, 0, none⟩ 1 1 [strV []] rfl rfl (World.news_of_block (heap_alloc_new _ _)) (by simp [Value.oneCell', strV]) (by omega) (by unfold maxLen; omega) (by omega) (by simp; omega) (wr.heap.size + 1) (by simp) ?_; intro g1 cap1 w2 hown2 hgrow hat hlt2)
        have hBn : Below w.heap.size w w2 := (hB.alloc (by omega) _).grown hgrow (by simp; omega) (fun j hj => owns_base hown hj)
        have HO : Hid (w2.ownsRow w.heap.size 9 1 (.slice (some ⟨g1, 0, none⟩) (P.length + 1 + 1) cap1) (P.length + 1 + 1) (((P ++ [cur]) ++ [[]]).map strV)) := by
          rw [Hid, List.map_append]; exact hown2
        clear hgrow hat hown hown2
        go_roundw
        case rel => exact ⟨k + 1, g1, cap1, P ++ [cur], [], by omega, by go_num, by simp; omega, by simp, HN.out, by simp, by simpa using HO.out, hBn⟩
        case measure => simp [intOf]; omega
      · have hf : ((s[k].toNat : Int) == 46) = false := by
          rw [beq_eq_false_iff_ne]; intro e; exact hc (UInt8.toNat_inj.1 (by show s[k].toNat = 46; omega))
        have HN : Hid (Pa.Cuts 46 s.data.toList P (cur ++ [s[k]]) (s.data.toList.drop (k + 1))) := by
          have := HC.out; rw [hd] at this; exact this.miss hc
        clear hd hc HC
        have c0 : wr.cell? ⟨g, P.length, none⟩ = some (.string ⟨cur.toArray⟩) := by
          rw [hown.cellAt P.length (by omega)]; simp [strV]
        have f0 : wr.frozen? ⟨g, P.length, none⟩ = false := hown.frozenAt P.length
        have HST : Hid (∀ q, ((wr.drewN q).setCell ⟨g, P.length, none⟩ (strV (cur ++ [s[k]]))).ownsRow w.heap.size 9 1 (.slice (some ⟨g, 0, none⟩) (P.length + 1) cap) (P.length + 1) ((P ++ [cur ++ [s[k]]]).map strV)) := fun q => by
          have := ((owns_same (u' := wr.drewN q) hown (fun g' hg => (drewN_below wr q).block g' (owns_lt hown hg))).stored P.length (strV (cur ++ [s[k]]))).1
          rw [strs_set] at this
          exact this
        have hgb := owns_base hown rfl
        have b1 : (0 : Int) ≤ (P.length : Int) := by omega
        have b2 : (P.length : Int) < ((P.length + 1 : Nat) : Int) := by omega
        have b3 : (0 : Int) ≤ (k : Int) := by omega
        have b4 : (k : Int) ≤ (k : Int) + 1 := by omega
        have b5 : (k : Int) + 1 ≤ (s.size : Int) := by omega
        have r1 : IntKind.i64.wrap ((k : Int) + 1) = (k : Int) + 1 := IntWalk.i64_in _ (by omega)
        have r2 : IntKind.i64.wrap (((P.length + 1 : Nat) : Int) - 1) = (P.length : Int) := by rw [IntWalk.i64_in _ (by omega)]; omega
        have u1 : ((k : Int) + 1).toNat = k + 1 := by omega
        go_wp2_with fail
        refine wp_region_drew_tail 17 (by kernel_rfl) (by kernel_rfl) ?_
        simp only [List.take_succ_cons, List.take_zero, List.drop_succ_cons, List.drop_zero]
        repeat (go_big_quiet_step (fail))
        refine wpQuiet_nil ?_
        rintro _ ⟨q, rfl⟩
        go_wp2_with fail
        rw [one_sub s k hlt, app]
        exact ⟨⟨k + 1, g, cap, P, cur ++ [s[k]], by omega, by go_num, by omega, rfl, HN.out, by simp; omega, HST.out q, Below.setCell (p := ⟨g, P.length, none⟩) (hB.trans ((drewN_below wr q).mono hws)) hgb _⟩, by simp [intOf]; omega⟩
    · have hke : s.data.toList.drop k = [] := List.drop_of_length_le (by rw [size_len]; omega)
      have HF : Hid (L = P ++ [cur]) := by
        have := HC.out; rw [hke] at this; rw [Hid, HL.out]; exact this.done
      clear hke
      go_wp2
      go_ret
      refine ⟨_, rfl, ?_, hB⟩
      rw [HF.out]
      exact strsAt_own (by simp) hown

theorem Pa.splitC_length_le (c : UInt8) : ∀ l : Pa.Bs, (Pa.splitC c l).length ≤ l.length + 1
  | [] => by simp [Pa.splitC]
  | x :: r => by
    have := Pa.splitC_length_le c r
    unfold Pa.splitC
    split
    · simp; exact this
    · rw [Pa.glue_length _ _ (Pa.splitC_ne c r)]; simp; omega

set_option maxRecDepth 100000 in
theorem refName_any (s : ByteArray) (w : World) : Calls Tryz.prog 55 #[.string s] w fun e w' => e = .returned (.bool (Pa.nameOk s.data.toList)) ∧ Below w.heap.size w w' := by
  by_cases h60 : 60 < s.size
  · have hf : (60 : Int) < (s.size : Int) := by omega
    have HR : Hid (Pa.nameOk s.data.toList = false) := by
      rw [Hid, Pa.nameOk, decide_eq_false (by rw [size_len]; omega), Bool.false_and]
    clear h60
    go_enter Tryz.func55, Tryz.ntmps55
    go_wp2
    go_ret
    exact ⟨ret_bool HR.out.symm, Below.refl _ _⟩
  · have hf : ¬ (60 : Int) < (s.size : Int) := by omega
    have HR : Hid (Pa.nameOk s.data.toList = (Pa.splitC 46 s.data.toList).all Pa.labOk) := by
      rw [Hid, Pa.nameOk, decide_eq_true (by rw [size_len]; omega), Bool.true_and]
    have hlb := refLabels_any s w (by omega)
    have hle := Pa.splitC_length_le 46 s.data.toList
    rw [size_len] at hle
    obtain ⟨L, hL⟩ : ∃ L, L = Pa.splitC 46 s.data.toList := ⟨_, rfl⟩
    rw [← hL] at hlb HR hle
    clear hL h60
    go_enter Tryz.func55, Tryz.ntmps55
    go_wp2_with fail
    refine hlb.mono ?_
    rintro e w1 ⟨v, rfl, ⟨b, c, rfl, hlc, hbl, hcell⟩, hb1⟩
    have HCELL := Lib.hid hcell
    clear hcell hlb
    go_wp2
    go_loop [4] (fun i => ∃ k : Nat, k ≤ L.length ∧ i = .int .i64 k ∧ Hid (∀ x ∈ L.take k, Pa.labOk x = true)) (fun i => L.length - (intOf i).toNat)
    case atStart => exact ⟨0, Nat.zero_le _, rfl, by simp [Hid]⟩
    case round =>
      obtain ⟨k, hk, rfl, HA⟩ := hrel
      by_cases hlt : k < L.length
      · have c0 := HCELL.out k hlt
        have b1 : (0 : Int) ≤ (k : Int) := by omega
        have b2 : (k : Int) < (L.length : Int) := by omega
        have hlab := refLabel_any ⟨L[k].toArray⟩ w1
        rw [show (⟨L[k].toArray⟩ : ByteArray).data.toList = L[k] by simp] at hlab
        cases hx : Pa.labOk L[k] with
        | false =>
          rw [hx] at hlab
          have HF : Hid (L.all Pa.labOk = false) := by
            rw [Hid, Bool.eq_false_iff]
            intro e
            rw [List.all_eq_true.1 e _ (List.getElem_mem hlt)] at hx; cases hx
          clear hx
          go_wp2_with (go_at_call 75; refine hlab.mono ?_; rintro e w' ⟨rfl, rfl⟩)
          go_ret
          exact ⟨ret_bool (HR.out.trans HF.out).symm, hb1⟩
        | true =>
          rw [hx] at hlab
          have HN : Hid (∀ x ∈ L.take (k + 1), Pa.labOk x = true) := by
            rw [Hid, List.take_succ_eq_append_getElem hlt]
            intro x hxm
            rcases List.mem_append.1 hxm with h | h
            · exact HA.out x h
            · rw [List.mem_singleton.1 h]; exact hx
          clear hx
          go_wp2_with (go_at_call 75; refine hlab.mono ?_; rintro e w' ⟨rfl, rfl⟩)
          go_round
          case rel => exact ⟨k + 1, by omega, by go_num, HN.out⟩
          case measure => simp [intOf]; omega
      · have HT : Hid (L.all Pa.labOk = true) := by
          have := HA.out
          rw [List.take_of_length_le (by omega)] at this
          exact List.all_eq_true.2 this
        go_wp2
        go_ret
        exact ⟨ret_bool (HR.out.trans HT.out).symm, hb1⟩

end Go.Proofs.YtgajoiijebbagaaGreatDoor
