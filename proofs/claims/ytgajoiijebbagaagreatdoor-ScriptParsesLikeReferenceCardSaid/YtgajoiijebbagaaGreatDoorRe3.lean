/-
  The walks of the document's Line and Print: each says which text it gives, and that what was there is unchanged. Conditions: Line: the action is valid; the actions and their fates lie in memory.
-/
import Derived.Test.YtgajoiijebbagaaGreatDoorRe2
import Derived.Test.YtgajoiijebbagaaGreatDoorPr
import Derived.Test.YtgajoiijebbagaaGreatDoorLn
namespace Go.Proofs.YtgajoiijebbagaaGreatDoor
open Go.RowKit Go.Proofs

theorem Pa.join_callW {c : Pa.Cl} (h : Pa.okC c = true) (a b : Pa.Bs) : Lib.join (a :: b :: Pa.callW c) [32] = a ++ 32 :: (b ++ 32 :: Lib.join (Pa.callW c) [32]) := by
  have := Pa.callW_pos h
  cases hc : Pa.callW c with
  | nil => rw [hc] at this; simp at this
  | cons x r => rw [Pa.join_cons2, Pa.join_cons2]

set_option maxRecDepth 100000 in
set_option maxHeartbeats 800000 in
theorem refLine_1 (hh n : Int) (c : Pa.Cl) (fs : List Int) (s : ByteArray) (fv : Value) (w : World) (h0 : 0 ≤ hh ∧ hh ≤ 7) (hc : Pa.okC c = true) :
    Calls Tryz.prog 29 #[acV ⟨1, hh, c, n, fs, s⟩ fv] w fun e w' => e = .returned (.string ⟨(Lib.join (Pa.w_call :: Pa.num hh :: Pa.callW c) [32]).toArray⟩) ∧ Below w.heap.size w w' := by
  have hJ := Pa.join_callW hc Pa.w_call (Pa.num hh)
  have cH := fun u => refNum_any hh u (by omega) (by omega)
  have cW := fun u => refWords_any c u hc
  have lH := Pa.num_len (n := hh) (by omega)
  have lW := Nat.le_trans (Pa.join_len_le (Pa.callW c)) (Pa.callW_len hc)
  obtain ⟨R, hR⟩ : ∃ R, R = Lib.join (Pa.w_call :: Pa.num hh :: Pa.callW c) [32] := ⟨_, rfl⟩
  rw [← hR] at hJ ⊢
  obtain ⟨T, eT⟩ : ∃ T : ByteArray, T = ⟨(Lib.join (Pa.callW c) [32]).toArray⟩ := ⟨_, rfl⟩
  obtain ⟨N, eN⟩ : ∃ N : ByteArray, N = ⟨(Pa.num hh).toArray⟩ := ⟨_, rfl⟩
  have zT : T.size ≤ 5000 := by rw [eT, mk_size]; omega
  have zN : N.size ≤ 5000 := by rw [eN, mk_size]; omega
  rw [← eT] at cW
  rw [← eN] at cH
  have HR : Hid ((⟨#[99, 97, 108, 108, 32]⟩ : ByteArray) ++ N ++ ⟨#[32]⟩ ++ T = ⟨R.toArray⟩) := by
    rw [Hid, hJ, eN, eT]
    apply ByteArray.ext
    simp [ByteArray.data_append]
  have a0 := fun u => cat_run ⟨#[99, 97, 108, 108, 32]⟩ N u (by show 5 + N.size ≤ 9223372036854775807; omega)
  have a1 := fun u => cat_run (⟨#[99, 97, 108, 108, 32]⟩ ++ N) ⟨#[32]⟩ u (by simp only [ByteArray.size_append]; show 5 + N.size + 1 ≤ 9223372036854775807; omega)
  have a2 := fun u => cat_run (⟨#[99, 97, 108, 108, 32]⟩ ++ N ++ ⟨#[32]⟩) T u (by simp only [ByteArray.size_append]; show 5 + N.size + 1 + T.size ≤ 9223372036854775807; omega)
  clear hR hJ eT eN lH lW hc
  obtain ⟨x1, x2, x3, x4, x5, x6, x7, x8⟩ := c
  unfold clV at cW
  unfold acV
  simp only at cW ⊢
  go_enter Tryz.func29, Tryz.ntmps29
  go_wp2_with fail
  refine wp_region_below (by kernel_rfl) (by kernel_rfl) ?_
  intro W hW
  have hsz : w.heap.size < W.heap.size := by rw [hW]; simp
  have hBW : Below w.heap.size w W := by rw [hW]; exact (Below.refl _ _).alloc (Nat.le_refl _) _
  have d1 : ∀ x : Lat (Below W.heap.size W), x.u.cell? ⟨w.heap.size, 1, none⟩ = some (.int .i64 hh) := fun x => x.cell hsz (by rw [hW]; simp)
  have d2 : ∀ x : Lat (Below W.heap.size W), x.u.cell? ⟨w.heap.size, 2, none⟩ = some (.int .i64 x1) := fun x => x.cell hsz (by rw [hW]; simp)
  have d3 : ∀ x : Lat (Below W.heap.size W), x.u.cell? ⟨w.heap.size, 3, none⟩ = some (.int .i64 x2) := fun x => x.cell hsz (by rw [hW]; simp)
  have d4 : ∀ x : Lat (Below W.heap.size W), x.u.cell? ⟨w.heap.size, 4, none⟩ = some (.int .i64 x3) := fun x => x.cell hsz (by rw [hW]; simp)
  have d5 : ∀ x : Lat (Below W.heap.size W), x.u.cell? ⟨w.heap.size, 5, none⟩ = some (.int .i64 x4) := fun x => x.cell hsz (by rw [hW]; simp)
  have d6 : ∀ x : Lat (Below W.heap.size W), x.u.cell? ⟨w.heap.size, 6, none⟩ = some (.int .i64 x5) := fun x => x.cell hsz (by rw [hW]; simp)
  have d7 : ∀ x : Lat (Below W.heap.size W), x.u.cell? ⟨w.heap.size, 7, none⟩ = some (.string x6) := fun x => x.cell hsz (by rw [hW]; simp)
  have d8 : ∀ x : Lat (Below W.heap.size W), x.u.cell? ⟨w.heap.size, 8, none⟩ = some (.int .i64 x7) := fun x => x.cell hsz (by rw [hW]; simp)
  have d9 : ∀ x : Lat (Below W.heap.size W), x.u.cell? ⟨w.heap.size, 9, none⟩ = some (.int .i64 x8) := fun x => x.cell hsz (by rw [hW]; simp)
  clear hW
  repeat (go_big_quiet_step (first | (go_at_call 49; with_reducible exact Calls.below (cH _)) | (go_at_call 50; with_reducible exact Calls.below (cW _))))
  refine wpQuiet_nil ?_
  rintro u ⟨x, hx⟩
  have hu : Below W.heap.size W u := by rw [hx]; exact x.h
  clear hx d1 d2 d3 d4 d5 d6 d7 d8 d9
  go_wp2
  go_ret
  exact ⟨ret_sb HR.out, below_on hBW hu⟩

set_option maxRecDepth 100000 in
theorem refLine_2 (hh n : Int) (c : Pa.Cl) (fs : List Int) (s : ByteArray) (fv : Value) (w : World) (h0 : 0 ≤ n ∧ n ≤ 1000000) :
    Calls Tryz.prog 29 #[acV ⟨2, hh, c, n, fs, s⟩ fv] w fun e w' => e = .returned (.string ⟨(Lib.join [Pa.w_tick, Pa.num n] [32]).toArray⟩) ∧ Below w.heap.size w w' := by
  have cH := fun u => refNum_any n u (by omega) (by omega)
  have lH := Pa.num_len (n := n) (by omega)
  obtain ⟨R, hR⟩ : ∃ R, R = Lib.join [Pa.w_tick, Pa.num n] [32] := ⟨_, rfl⟩
  rw [← hR]
  obtain ⟨N, eN⟩ : ∃ N : ByteArray, N = ⟨(Pa.num n).toArray⟩ := ⟨_, rfl⟩
  have zN : N.size ≤ 5000 := by rw [eN, mk_size]; omega
  rw [← eN] at cH
  have HR : Hid ((⟨#[116, 105, 99, 107, 32]⟩ : ByteArray) ++ N = ⟨R.toArray⟩) := by
    rw [Hid, hR, eN, Pa.join_cons2, Lib.join_one]
    apply ByteArray.ext
    simp [ByteArray.data_append]
  have a0 := fun u => cat_run ⟨#[116, 105, 99, 107, 32]⟩ N u (by show 5 + N.size ≤ 9223372036854775807; omega)
  clear hR eN lH
  obtain ⟨x1, x2, x3, x4, x5, x6, x7, x8⟩ := c
  unfold acV
  simp only
  go_enter Tryz.func29, Tryz.ntmps29
  go_wp2_with (go_at_call 49; refine (cH _).mono ?_; rintro e u ⟨rfl, hb⟩)
  go_ret
  exact ⟨ret_sb HR.out, below_on ((Below.refl _ _).alloc (Nat.le_refl _) _) hb⟩

set_option maxRecDepth 100000 in
set_option maxHeartbeats 800000 in
theorem refLine_4 (hh n : Int) (c : Pa.Cl) (fs : List Int) (s : ByteArray) (fv : Value) (w : World) (h0 : 0 ≤ n ∧ n ≤ 7) (hs : s.size ≤ 1100) :
    Calls Tryz.prog 29 #[acV ⟨4, hh, c, n, fs, s⟩ fv] w fun e w' => e = .returned (.string ⟨(Lib.join [Pa.w_frame, Pa.num n, Pa.hexL s.data.toList] [32]).toArray⟩) ∧ Below w.heap.size w w' := by
  have cH := fun u => refNum_any n u (by omega) (by omega)
  have cX := fun u => refHex_any s u (by omega)
  have lH := Pa.num_len (n := n) (by omega)
  have lX := Pa.hexL_length s.data.toList
  rw [size_len] at lX
  obtain ⟨R, hR⟩ : ∃ R, R = Lib.join [Pa.w_frame, Pa.num n, Pa.hexL s.data.toList] [32] := ⟨_, rfl⟩
  rw [← hR]
  obtain ⟨T, eT⟩ : ∃ T : ByteArray, T = ⟨(Pa.hexL s.data.toList).toArray⟩ := ⟨_, rfl⟩
  obtain ⟨N, eN⟩ : ∃ N : ByteArray, N = ⟨(Pa.num n).toArray⟩ := ⟨_, rfl⟩
  have zT : T.size ≤ 5000 := by rw [eT, mk_size]; omega
  have zN : N.size ≤ 5000 := by rw [eN, mk_size]; omega
  rw [← eT] at cX
  rw [← eN] at cH
  have HR : Hid ((⟨#[102, 114, 97, 109, 101, 32]⟩ : ByteArray) ++ N ++ ⟨#[32]⟩ ++ T = ⟨R.toArray⟩) := by
    rw [Hid, hR, eN, eT, Pa.join_cons2, Pa.join_cons2, Lib.join_one]
    apply ByteArray.ext
    simp [ByteArray.data_append]
  have a0 := fun u => cat_run ⟨#[102, 114, 97, 109, 101, 32]⟩ N u (by show 6 + N.size ≤ 9223372036854775807; omega)
  have a1 := fun u => cat_run (⟨#[102, 114, 97, 109, 101, 32]⟩ ++ N) ⟨#[32]⟩ u (by simp only [ByteArray.size_append]; show 6 + N.size + 1 ≤ 9223372036854775807; omega)
  have a2 := fun u => cat_run (⟨#[102, 114, 97, 109, 101, 32]⟩ ++ N ++ ⟨#[32]⟩) T u (by simp only [ByteArray.size_append]; show 6 + N.size + 1 + T.size ≤ 9223372036854775807; omega)
  clear hR eT eN lH lX
  obtain ⟨x1, x2, x3, x4, x5, x6, x7, x8⟩ := c
  unfold acV
  simp only
  go_enter Tryz.func29, Tryz.ntmps29
  go_wp2_with fail
  refine wp_region_below (by kernel_rfl) (by kernel_rfl) ?_
  intro W hW
  have hsz : w.heap.size < W.heap.size := by rw [hW]; simp
  have hBW : Below w.heap.size w W := by rw [hW]; exact (Below.refl _ _).alloc (Nat.le_refl _) _
  have d1 : ∀ x : Lat (Below W.heap.size W), x.u.cell? ⟨w.heap.size, 10, none⟩ = some (.int .i64 n) := fun x => x.cell hsz (by rw [hW]; simp)
  have d2 : ∀ x : Lat (Below W.heap.size W), x.u.cell? ⟨w.heap.size, 12, none⟩ = some (.string s) := fun x => x.cell hsz (by rw [hW]; simp)
  clear hW
  repeat (go_big_quiet_step (first | (go_at_call 49; with_reducible exact Calls.below (cH _)) | (go_at_call 51; with_reducible exact Calls.below (cX _))))
  refine wpQuiet_nil ?_
  rintro u ⟨x, hx⟩
  have hu : Below W.heap.size W u := by rw [hx]; exact x.h
  clear hx d1 d2
  go_wp2
  go_ret
  exact ⟨ret_sb HR.out, below_on hBW hu⟩

theorem fates_join (fs : List Int) (k : Nat) (h : k < fs.length) : Lib.join (Pa.w_fates :: (fs.take (k + 1)).map Pa.num) [32] = Lib.join (Pa.w_fates :: (fs.take k).map Pa.num) [32] ++ 32 :: Pa.num fs[k] := by
  rw [List.take_succ_eq_append_getElem h, List.map_append, ← List.cons_append]
  exact Pa.join_snoc _ _ (by simp)

set_option maxRecDepth 100000 in
set_option maxHeartbeats 800000 in
theorem refLine_3 (hh n : Int) (c : Pa.Cl) (fs : List Int) (s : ByteArray) (fv : Value) (w : World) (hl : fs.length ≤ 64) (hall : ∀ f ∈ fs, 0 ≤ f ∧ f ≤ 24) (hf : Fs w fv fs) :
    Calls Tryz.prog 29 #[acV ⟨3, hh, c, n, fs, s⟩ fv] w fun e w' => e = .returned (.string ⟨(Lib.join (Pa.w_fates :: fs.map Pa.num) [32]).toArray⟩) ∧ Below w.heap.size w w' := by
  have HALL := Lib.hid hall; clear hall
  have HF := Lib.hid hf
  obtain ⟨va, ca, rfl, -⟩ := hf
  obtain ⟨x1, x2, x3, x4, x5, x6, x7, x8⟩ := c
  obtain ⟨R, hR⟩ : ∃ R, R = Lib.join (Pa.w_fates :: fs.map Pa.num) [32] := ⟨_, rfl⟩
  rw [← hR]
  have HR := Lib.hid hR; clear hR
  unfold acV
  simp only
  go_enter Tryz.func29, Tryz.ntmps29
  go_wp2_with fail
  obtain ⟨W, hW⟩ : ∃ W : World, W = w.alloc (.cells #[.int .i64 3, .int .i64 hh, .int .i64 x1, .int .i64 x2, .int .i64 x3, .int .i64 x4, .int .i64 x5, .string x6, .int .i64 x7, .int .i64 x8, .int .i64 n, .slice va fs.length ca, .string s] 27) := ⟨_, rfl⟩
  rw [← hW]
  have hsz : w.heap.size < W.heap.size := by rw [hW]; simp
  have hBW : Below w.heap.size w W := by rw [hW]; exact (Below.refl _ _).alloc (Nat.le_refl _) _
  have c11 : W.cell? ⟨w.heap.size, 11, none⟩ = some (.slice va fs.length ca) := by rw [hW]; simp
  have HFW := Lib.hid (HF.out.below hBW)
  clear hW HF
  go_loopw [3, 4] (fun v i wr => ∃ (k : Nat) (t : ByteArray), k ≤ fs.length ∧ i = .int .i64 k ∧ v = .string t ∧ Hid (t = ⟨(Lib.join (Pa.w_fates :: (fs.take k).map Pa.num) [32]).toArray⟩) ∧ t.size ≤ 5 + 8 * k ∧ Below W.heap.size W wr) (fun _ i _ => fs.length - (intOf i).toNat)
  case atStart => exact ⟨0, ⟨#[102, 97, 116, 101, 115]⟩, Nat.zero_le _, rfl, rfl, rfl, Nat.le_refl _, Below.refl _ _⟩
  case round =>
    obtain ⟨k, t, hk, rfl, rfl, HT, htl, hB⟩ := hrel
    have g11 := cell_below hB hsz c11
    by_cases hlt : k < fs.length
    · obtain ⟨va', ca', hv, hcs⟩ := HFW.out
      cases hv
      obtain ⟨b, o, rfl, hbl, hcell⟩ := hcs (fun e => by simp [e] at hlt)
      have hck := cell_below hB hbl (hcell k hlt)
      have hin := HALL.out fs[k] (List.getElem_mem hlt)
      clear hcell hcs
      have cH := fun u => refNum_any fs[k] u (by omega) (by omega)
      have lH := Pa.num_len (n := fs[k]) (by omega)
      obtain ⟨N, eN⟩ : ∃ N : ByteArray, N = ⟨(Pa.num fs[k]).toArray⟩ := ⟨_, rfl⟩
      have zN : N.size ≤ 7 := by rw [eN, mk_size]; omega
      rw [← eN] at cH
      have HN : Hid (t ++ ⟨#[32]⟩ ++ N = ⟨(Lib.join (Pa.w_fates :: (fs.take (k + 1)).map Pa.num) [32]).toArray⟩) := by
        rw [Hid, fates_join fs k hlt, HT.out, eN]
        apply ByteArray.ext
        simp [ByteArray.data_append]
      have a1 := fun u => cat_run t ⟨#[32]⟩ u (by show t.size + 1 ≤ 9223372036854775807; omega)
      have a2 := fun u => cat_run (t ++ ⟨#[32]⟩) N u (by rw [ByteArray.size_append]; show t.size + 1 + N.size ≤ 9223372036854775807; omega)
      have b1 : (0 : Int) ≤ (k : Int) := by omega
      have b2 : (k : Int) < (fs.length : Int) := by omega
      clear eN lH
      go_wp2_with (go_at_call 49; refine (cH _).mono ?_; rintro e u ⟨rfl, hb⟩)
      go_roundw
      case rel => exact ⟨k + 1, _, by omega, by go_num, rfl, HN.out, by rw [ByteArray.size_append, ByteArray.size_append]; show t.size + 1 + N.size ≤ 5 + 8 * (k + 1); omega, below_on hB hb⟩
      case measure => simp [intOf]; omega
    · have HE : Hid (t = ⟨R.toArray⟩) := by
        rw [Hid, HT.out, HR.out, List.take_of_length_le (by omega)]
      go_wp2
      go_ret
      exact ⟨ret_sb HE.out, below_on hBW hB⟩

/-- The document's line of every valid action. -/
theorem refLine_any (a : Pa.Ac) (fv : Value) (w : World) (h : Pa.okA a = true) (hf : Fs w fv a.fates) :
    Calls Tryz.prog 29 #[acV a fv] w fun e w' => e = .returned (.string ⟨(Pa.lineA a).toArray⟩) ∧ Below w.heap.size w w' := by
  obtain ⟨hk, -, ho⟩ := Pa.okA_parts h
  clear h
  obtain ⟨k, hh, c, n, fs, s⟩ := a
  simp only at hk ho hf
  unfold Pa.lineA
  rcases (by omega : k = 1 ∨ k = 2 ∨ k = 3 ∨ k = 4) with rfl | rfl | rfl | rfl
  · simp [Pa.inR_true] at ho
    rw [show Pa.lineW ⟨1, hh, c, n, fs, s⟩ = Pa.w_call :: Pa.num hh :: Pa.callW c by simp [Pa.lineW]]
    exact refLine_1 hh n c fs s fv w ho.1 ho.2
  · simp [Pa.inR_true] at ho
    rw [show Pa.lineW ⟨2, hh, c, n, fs, s⟩ = [Pa.w_tick, Pa.num n] by simp [Pa.lineW]]
    exact refLine_2 hh n c fs s fv w (by omega)
  · simp [Pa.okF, Pa.inR_true] at ho
    rw [show Pa.lineW ⟨3, hh, c, n, fs, s⟩ = Pa.w_fates :: fs.map Pa.num by simp [Pa.lineW]]
    exact refLine_3 hh n c fs s fv w ho.1 ho.2 hf
  · simp [Pa.inR_true] at ho
    rw [show Pa.lineW ⟨4, hh, c, n, fs, s⟩ = [Pa.w_frame, Pa.num n, Pa.hexL s.data.toList] by simp [Pa.lineW]]
    exact refLine_4 hh n c fs s fv w ho.1 ho.2

end Go.Proofs.YtgajoiijebbagaaGreatDoor
