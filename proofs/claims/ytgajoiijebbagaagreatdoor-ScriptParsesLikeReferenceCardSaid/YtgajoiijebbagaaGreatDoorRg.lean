/-
  The walks of the document's split, number, digit and bytes: each says what the call returns and that what was there is unchanged. Conditions: the text is at most a billion bytes long.
-/
import Derived.Test.YtgajoiijebbagaaGreatDoorRe
namespace Go.Proofs.YtgajoiijebbagaaGreatDoor
open Go.RowKit Go.Proofs

theorem sub_piece (s : ByteArray) (f k : Nat) : s.extract f k = ⟨(Pa.piece s.data.toList f k).toArray⟩ := by
  apply ByteArray.ext
  apply Array.toList_inj.1
  rw [extract_piece]

set_option maxRecDepth 100000 in
set_option maxHeartbeats 800000 in
theorem refSplit_any (s : ByteArray) (w : World) (hs : s.size ≤ 1000000000) : Calls Tryz.prog 63 #[.string s] w fun e w' => ∃ v, e = .returned v ∧ StrsAt w' v (Pa.splitC 32 s.data.toList) ∧ Below w.heap.size w w' := by
  obtain ⟨i0, hi, hz0, hz1, hz2⟩ := info_parts infoS
  obtain ⟨L, hL⟩ : ∃ L, L = Pa.splitC 32 s.data.toList := ⟨_, rfl⟩
  rw [← hL]
  have HL := Lib.hid hL; clear hL
  go_enter Tryz.func63, Tryz.ntmps63
  go_wp2_with fail
  go_loopw [3, 4, 5] (fun v g i wr => ∃ (k f : Nat) (P : List Pa.Bs), k ≤ s.size + 1 ∧ i = .int .i64 k ∧ g = .int .i64 f ∧ f ≤ k ∧ P.length ≤ k ∧ Hid ((k ≤ s.size → Pa.Cuts 32 s.data.toList P (Pa.piece s.data.toList f k) (s.data.toList.drop k)) ∧ (k = s.size + 1 → L = P ∧ 0 < P.length)) ∧ wr.ownsRow w.heap.size 9 1 v P.length (P.map strV) ∧ Below w.heap.size w wr) (fun _ _ i _ => s.size + 1 - (intOf i).toNat)
  case atStart => exact ⟨0, 0, [], Nat.zero_le _, rfl, rfl, Nat.le_refl _, by simp, ⟨fun _ => by rw [Pa.piece_self]; exact Pa.Cuts.start 32 _, fun h => by omega⟩, World.ownsRow_nil _ _ _ _, Below.refl _ _⟩
  case round =>
    obtain ⟨k, f, P, hk, rfl, rfl, hfk, hPk, HC, hown, hB⟩ := hrel
    have hws := hB.size
    by_cases hle : k ≤ s.size
    · have b0 : (k : Int) ≤ (s.size : Int) := by omega
      have b1 : (0 : Int) ≤ (f : Int) := by omega
      have b2 : (f : Int) ≤ (k : Int) := by omega
      by_cases heq : k = s.size
      · have hf1 : ((k : Int) == (s.size : Int)) = true := by rw [heq]; simp
        have HN : Hid (L = P ++ [Pa.piece s.data.toList f k]) := by
          have := HC.out.1 hle
          rw [List.drop_of_length_le (by rw [size_len]; omega)] at this
          rw [Hid, HL.out]; exact this.done
        have HEQ := Lib.hid heq
        clear HC heq
        have hsub := sub_piece s f k
        go_wp2_with (at_builtin; refine wpList_append_lies _ rfl (.tmp 22) (.tmp 27) 41 rfl w.heap.size 9 i0 (.string ⟨#[]⟩) 1 16 Tryz.underlying41 hi hz0 hz1 hz2 rfl (by decide) _ P.length _ rfl (owns_same hown (fun g hg => Below.heap_alloc _ _ g (owns_lt hown hg))) ⟨wr.heap.size, 0, none⟩ 1 1 [strV (Pa.piece s.data.toList f k)] rfl rfl (World.news_of_block (heap_alloc_new _ _)) (by simp [Value.oneCell', strV]) (by omega) (by unfold maxLen; omega) (by omega) (by simp; omega) (wr.heap.size + 1) (by simp) ?_; intro g1 cap1 w2 hown2 hgrow hat hlt2)
        have hBn : Below w.heap.size w w2 := (hB.alloc (by omega) _).grown hgrow (by simp; omega) (fun j hj => owns_base hown hj)
        have HO : Hid (w2.ownsRow w.heap.size 9 1 (.slice (some ⟨g1, 0, none⟩) (P.length + 1) cap1) (P ++ [Pa.piece s.data.toList f k]).length ((P ++ [Pa.piece s.data.toList f k]).map strV)) := by
          rw [Hid, List.map_append, List.length_append]; exact hown2
        clear hgrow hat hown hown2 hsub
        go_roundw
        case rel => exact ⟨k + 1, k + 1, P ++ [Pa.piece s.data.toList f k], by omega, by go_num, by go_num, Nat.le_refl _, by simp; omega, ⟨fun h => by have := HEQ.out; omega, fun _ => ⟨HN.out, by simp⟩⟩, HO.out, hBn⟩
        case measure => simp [intOf]; omega
      · have hf1 : ((k : Int) == (s.size : Int)) = false := by rw [beq_eq_false_iff_ne]; omega
        have hlt : k < s.size := by omega
        have b3 : (0 : Int) ≤ (k : Int) := by omega
        have b4 : (k : Int) < (s.size : Int) := by omega
        have hd := Pa.drop_at s.data.toList k (by rw [size_len]; exact hlt)
        rw [byte_at s k hlt] at hd
        have hC := HC.out.1 hle
        rw [hd] at hC
        clear heq HC hd
        by_cases hc : s[k] = 32
        · have hf2 : ((s[k].toNat : Int) == 32) = true := by rw [hc]; rfl
          have HN : Hid (Pa.Cuts 32 s.data.toList (P ++ [Pa.piece s.data.toList f k]) (Pa.piece s.data.toList (k + 1) (k + 1)) (s.data.toList.drop (k + 1))) := by
            rw [hc] at hC; rw [Hid, Pa.piece_self]; exact hC.hit
          clear hC hc
          have hsub := sub_piece s f k
          go_wp2_with (at_builtin; refine wpList_append_lies _ rfl (.tmp 22) (.tmp 27) 41 rfl w.heap.size 9 i0 (.string ⟨#[]⟩) 1 16 Tryz.underlying41 hi hz0 hz1 hz2 rfl (by decide) _ P.length _ rfl (owns_same hown (fun g hg => Below.heap_alloc _ _ g (owns_lt hown hg))) ⟨wr.heap.size, 0, none⟩ 1 1 [strV (Pa.piece s.data.toList f k)] rfl rfl (World.news_of_block (heap_alloc_new _ _)) (by simp [Value.oneCell', strV]) (by omega) (by unfold maxLen; omega) (by omega) (by simp; omega) (wr.heap.size + 1) (by simp) ?_; intro g1 cap1 w2 hown2 hgrow hat hlt2)
          have hBn : Below w.heap.size w w2 := (hB.alloc (by omega) _).grown hgrow (by simp; omega) (fun j hj => owns_base hown hj)
          have HO : Hid (w2.ownsRow w.heap.size 9 1 (.slice (some ⟨g1, 0, none⟩) (P.length + 1) cap1) (P ++ [Pa.piece s.data.toList f k]).length ((P ++ [Pa.piece s.data.toList f k]).map strV)) := by
            rw [Hid, List.map_append, List.length_append]; exact hown2
          clear hgrow hat hown hown2 hsub
          go_roundw
          case rel => exact ⟨k + 1, k + 1, P ++ [Pa.piece s.data.toList f k], by omega, by go_num, by go_num, Nat.le_refl _, by simp; omega, ⟨fun _ => HN.out, fun h => by omega⟩, HO.out, hBn⟩
          case measure => simp [intOf]; omega
        · have hf2 : ((s[k].toNat : Int) == 32) = false := by
            rw [beq_eq_false_iff_ne]; intro e; exact hc (UInt8.toNat_inj.1 (by show s[k].toNat = 32; omega))
          have HN : Hid (Pa.Cuts 32 s.data.toList P (Pa.piece s.data.toList f (k + 1)) (s.data.toList.drop (k + 1))) := by
            rw [Hid, Pa.piece_snoc _ _ _ hfk (by rw [size_len]; exact hlt), byte_at s k hlt]; exact hC.miss hc
          clear hC hc
          go_wp2
          go_roundw
          case rel => exact ⟨k + 1, f, P, by omega, by go_num, rfl, by omega, by omega, ⟨fun _ => HN.out, fun h => by omega⟩, hown, hB⟩
          case measure => simp [intOf]; omega
    · have hke : k = s.size + 1 := by omega
      have b0 : ¬ (k : Int) ≤ (s.size : Int) := by omega
      have HF := Lib.hid (HC.out.2 hke)
      clear hke HC
      obtain ⟨g, cap, rfl, _, _⟩ := hown.form HF.out.2
      go_wp2
      go_ret
      refine ⟨_, rfl, ?_, hB⟩
      rw [HF.out.1]
      exact strsAt_own rfl hown

theorem refNumber27_any (s : ByteArray) (w : World) (hs : s.size ≤ 9223372036854775807) : Calls Tryz.prog 64 #[.string s] w fun e w' => e = .returned (.int .i64 (Pa.numR s.data.toList 1000000)) ∧ Below w.heap.size w w' := by
  go_enter Tryz.func64, Tryz.ntmps64
  go_wp2_with (go_at_call 81; refine (refNumber_any s 1000000 _ (by decide) hs).mono ?_; rintro e w1 ⟨rfl, hb⟩)
  go_ret
  exact ⟨rfl, hb⟩

theorem refDigit_any (c : UInt8) (w : World) : Calls Tryz.prog 83 #[.int .u8 (c.toNat : Int)] w fun e w' => e = .returned (.int .i64 (Pa.digR c)) ∧ w = w' := by
  have hc := c.toNat_lt
  by_cases h1 : 48 ≤ c.toNat ∧ c.toNat ≤ 57
  · have HR : Hid (Pa.digR c = (c.toNat : Int) - 48) := by rw [Hid, Pa.digR, Pa.unhexd, if_pos h1]; simp only; omega
    have f1 : (48 : Int) ≤ (c.toNat : Int) := by omega
    have f2 : (c.toNat : Int) ≤ 57 := by omega
    clear h1
    go_enter Tryz.func83, Tryz.ntmps83
    go_wp2
    go_ret
    exact ⟨ret_int HR.out.symm, rfl⟩
  by_cases h2 : 97 ≤ c.toNat ∧ c.toNat ≤ 102
  · have HR : Hid (Pa.digR c = (c.toNat : Int) - 97 + 10) := by rw [Hid, Pa.digR, Pa.unhexd, if_neg h1, if_pos h2]; simp only; omega
    have f1 : (48 : Int) ≤ (c.toNat : Int) := by omega
    have f2 : ¬ (c.toNat : Int) ≤ 57 := by omega
    have f2' : 57 < (c.toNat : Int) := by omega
    have f3 : (97 : Int) ≤ (c.toNat : Int) := by omega
    have f4 : (c.toNat : Int) ≤ 102 := by omega
    clear h1 h2
    go_enter Tryz.func83, Tryz.ntmps83
    go_wp2
    go_ret
    exact ⟨ret_int HR.out.symm, rfl⟩
  · have HR : Hid (Pa.digR c = -1) := by rw [Hid, Pa.digR, Pa.unhexd, if_neg h1, if_neg h2]
    go_enter Tryz.func83, Tryz.ntmps83
    rcases (by omega : (c.toNat : Int) < 48 ∨ (57 < (c.toNat : Int) ∧ (c.toNat : Int) < 97) ∨ 102 < (c.toNat : Int)) with h | h | h
    · have f1 : ¬ (48 : Int) ≤ (c.toNat : Int) := by omega
      have f3 : ¬ (97 : Int) ≤ (c.toNat : Int) := by omega
      have f3' : (c.toNat : Int) < 97 := by omega
      clear h1 h2
      go_wp2
      go_ret
      exact ⟨ret_int HR.out.symm, rfl⟩
    · have f1 : (48 : Int) ≤ (c.toNat : Int) := by omega
      have f2 : ¬ (c.toNat : Int) ≤ 57 := by omega
      have f2' : 57 < (c.toNat : Int) := by omega
      have f3 : ¬ (97 : Int) ≤ (c.toNat : Int) := by omega
      have f3' : (c.toNat : Int) < 97 := by omega
      clear h1 h2 h
      go_wp2
      go_ret
      exact ⟨ret_int HR.out.symm, rfl⟩
    · have f1 : (48 : Int) ≤ (c.toNat : Int) := by omega
      have f2 : ¬ (c.toNat : Int) ≤ 57 := by omega
      have f2' : 57 < (c.toNat : Int) := by omega
      have f3 : (97 : Int) ≤ (c.toNat : Int) := by omega
      have f4 : ¬ (c.toNat : Int) ≤ 102 := by omega
      have f4' : 102 < (c.toNat : Int) := by omega
      clear h1 h2 h
      go_wp2
      go_ret
      exact ⟨ret_int HR.out.symm, rfl⟩

theorem unhexd_small {c : UInt8} {n : Nat} (h : Pa.unhexd c = some n) : n < 16 := by
  unfold Pa.unhexd at h
  split at h
  · cases h; omega
  split at h
  · cases h; omega
  · cases h
theorem ofNat_back {n : Nat} (h : n < 256) : ((UInt8.ofNat n).toNat : Int) = (n : Int) := by
  have : (UInt8.ofNat n).toNat = n := by simp; omega
  rw [this]
theorem ret_strB {s t : ByteArray} {a b : Bool} (h : s = t) (h' : a = b) : Ending.returned (.tuple #[.string s, .bool a]) = .returned (.tuple #[.string t, .bool b]) := by rw [h, h']
theorem ret_strB' {x y : Pa.Bs} {a b : Bool} (h : x = y) (h' : a = b) : Ending.returned (.tuple #[.string ⟨x.toArray⟩, .bool a]) = .returned (.tuple #[.string ⟨y.toArray⟩, .bool b]) := by rw [h, h']

/-- The bytes that the call owns, as a string. -/
theorem owns_conv {wr : World} {base : Nat} {v : Value} {k : Nat} {pre : Pa.Bs} (hown : wr.ownsRow base 5 1 v k (Lib.byteCells pre)) (hpl : pre.length = k) :
    ∃ (a : Option Addr) (cap : Nat), v = .slice a k cap ∧ (convert 40 9 (.slice a k cap)).run Tryz.prog wr = .ok (.string ⟨pre.toArray⟩) wr := by
  rcases hown.2 with ⟨h1, h2⟩ | ⟨g, cap, cur, h1, _⟩
  · subst h2
    obtain rfl : pre = [] := List.length_eq_zero_iff.1 hpl
    exact ⟨none, 0, h1, by simp [go_sem, convert]; rfl⟩
  · subst h1
    have hb := run_convert_bytes_back (P := Tryz.prog) wr 40 9 5 ⟨g, 0, none⟩ cap pre Tryz.underlying40 Tryz.underlying5 Tryz.underlying9 (fun j hj => hown.cells (g := g) rfl j _ (by simp [Lib.byteCells, hj]))
    rw [hpl] at hb
    exact ⟨_, cap, rfl, hb⟩

set_option maxRecDepth 100000 in
set_option maxHeartbeats 1000000 in
theorem refBytes_any (s : ByteArray) (w : World) (hs : s.size ≤ 1000000) :
    Calls Tryz.prog 66 #[.string s] w fun e w' => e = .returned (.tuple #[.string ⟨(Pa.bytesS s.data.toList).toArray⟩, .bool (Pa.bytesB s.data.toList)]) ∧ Below w.heap.size w w' := by
  obtain ⟨i0, hi, hz0, hz1, hz2⟩ := info_parts infoB
  obtain ⟨x, hx⟩ : ∃ x, x = s.data.toList := ⟨_, rfl⟩
  have hsz : s.size = x.length := by rw [hx]; rfl
  have hsl : s.toList = x := by rw [hx, ByteArray.toList_eq]
  rw [← hx]
  by_cases h45 : x = [45]
  · have e1 : (s.toList == [45]) = true := by rw [hsl, h45]; rfl
    have e2 : s.toList = [45] := by rw [hsl, h45]
    have HR : Hid (Pa.bytesS x = [] ∧ Pa.bytesB x = true) := by rw [Hid, h45]; exact Pa.bytes_dash
    clear h45 hx hsz hsl
    go_enter Tryz.func66, Tryz.ntmps66
    go_wp2
    go_ret2
    exact ⟨ret_strB' (x := []) HR.out.1.symm HR.out.2.symm, Below.refl _ _⟩
  have e1 : (s.toList == [45]) = false := by rw [hsl, beq_eq_false_iff_ne]; exact h45
  have e1' : ¬ s.toList = [45] := by rw [hsl]; exact h45
  have HZ := Lib.hid hsz
  have HBAD := Lib.hid (fun (h : Pa.prs x = none) => Pa.bytes_bad h45 h)
  have HGOOD := Lib.hid (fun (pre : Pa.Bs) (h : Pa.prs x = some pre) => Pa.bytes_good h45 h)
  have hbyte : ∀ (j : Nat) (h : j < s.size) (h' : j < x.length), x[j]'h' = s[j] := by
    subst hx; intro j h h'; rfl
  have HB := Lib.hid hbyte
  clear hbyte h45 hsl hsz hx
  go_enter Tryz.func66, Tryz.ntmps66
  go_wp2_with fail
  go_loopw [4, 5] (fun v i wr => ∃ (k : Nat) (pre : Pa.Bs), 2 * k ≤ s.size ∧ i = .int .i64 (2 * (k : Int)) ∧ Hid (Pa.PRelB x k pre) ∧ wr.ownsRow w.heap.size 5 1 v k (Lib.byteCells pre) ∧ Below w.heap.size w wr) (fun _ i _ => s.size - (intOf i).toNat)
  case atStart => exact ⟨0, [], by omega, rfl, Pa.PRelB.start x, World.ownsRow_nil _ _ _ _, Below.refl _ _⟩
  case round =>
    obtain ⟨k, pre, hk, rfl, HR, hown, hB⟩ := hrel
    have hws := hB.size
    by_cases hlt : 2 * k + 1 < s.size
    · have b1 : (0 : Int) ≤ 2 * (k : Int) := by omega
      have b2 : 2 * (k : Int) < (s.size : Int) := by omega
      have b3 : (0 : Int) ≤ 2 * (k : Int) + 1 := by omega
      have b4 : 2 * (k : Int) + 1 < (s.size : Int) := by omega
      have t1 : (2 * (k : Int)).toNat = 2 * k := by omega
      have t2 : (2 * (k : Int) + 1).toNat = 2 * k + 1 := by omega
      have hkx : 2 * k + 1 < x.length := by have := HZ.out; omega
      have e1x := HB.out (2 * k) (by omega) (by omega)
      have e2x := HB.out (2 * k + 1) hlt hkx
      have d1 := fun u => refDigit_any s[2 * k] u
      have d2 := fun u => refDigit_any s[2 * k + 1] u
      cases ha : Pa.unhexd s[2 * k] with
      | none =>
        rw [Pa.digR_none ha] at d1
        have HN := Lib.hid (HBAD.out (Pa.PRelB.bad HR.out hkx (.inl (by rw [e1x]; exact ha))))
        obtain ⟨z, hz⟩ : ∃ z, z = Pa.digR s[2 * k + 1] := ⟨_, rfl⟩
        rw [← hz] at d2
        clear e1x e2x ha hz
        go_wp2_with (go_at_call 83; first | (with_reducible refine (d1 _).mono ?_; rintro e w' ⟨rfl, rfl⟩) | (with_reducible refine (d2 _).mono ?_; rintro e w' ⟨rfl, rfl⟩))
        go_ret2
        exact ⟨ret_strB' (x := []) HN.out.1.symm HN.out.2.symm, hB⟩
      | some m =>
        rw [Pa.digR_some ha] at d1
        have hm := unhexd_small ha
        have m0 : ¬ (m : Int) < 0 := by omega
        cases hb : Pa.unhexd s[2 * k + 1] with
        | none =>
          rw [Pa.digR_none hb] at d2
          have HN := Lib.hid (HBAD.out (Pa.PRelB.bad HR.out hkx (.inr (by rw [e2x]; exact hb))))
          clear e1x e2x ha hb
          go_wp2_with (go_at_call 83; first | (with_reducible refine (d1 _).mono ?_; rintro e w' ⟨rfl, rfl⟩) | (with_reducible refine (d2 _).mono ?_; rintro e w' ⟨rfl, rfl⟩))
          go_ret2
          exact ⟨ret_strB' (x := []) HN.out.1.symm HN.out.2.symm, hB⟩
        | some n =>
          rw [Pa.digR_some hb] at d2
          have hn := unhexd_small hb
          have n0 : ¬ (n : Int) < 0 := by omega
          have HN := Lib.hid (Pa.PRelB.next HR.out hkx (by rw [e1x]; exact ha) (by rw [e2x]; exact hb))
          obtain ⟨c, hc⟩ : ∃ c : UInt8, c = UInt8.ofNat (16 * m + n) := ⟨_, rfl⟩
          have hcn : (16 * (m : Int) + (n : Int)) = (c.toNat : Int) := by rw [hc, ofNat_back (by omega)]; omega
          rw [← hc] at HN
          clear e1x e2x ha hb hc HR
          have hkl : k + 1 ≤ 1000000 := by omega
          go_wp2_with (first | (go_at_call 83; first | (with_reducible refine (d1 _).mono ?_; rintro e w' ⟨rfl, rfl⟩) | (with_reducible refine (d2 _).mono ?_; rintro e w' ⟨rfl, rfl⟩)) | (at_builtin; refine wpList_append_lies _ rfl (.tmp 32) (.tmp 38) 40 rfl w.heap.size 5 i0 (.int .u8 0) 1 1 Tryz.underlying40 hi hz0 hz1 hz2 rfl (by decide) _ k _ rfl (owns_same hown (fun g hg => Below.heap_alloc _ _ g (owns_lt hown hg))) ⟨wr.heap.size, 0, none⟩ 1 1 [.int .u8 (c.toNat : Int)] rfl rfl (World.news_of_block (heap_alloc_new _ _)) (by simp [Value.oneCell']) (by omega) (by unfold maxLen; omega) (by omega) (by simp; omega) (wr.heap.size + 1) (by simp) ?_; intro g cap w2 hown2 hgrow hat hlt2))
          have hBn : Below w.heap.size w w2 := (hB.alloc hws _).grown hgrow (by simp; omega) (fun j hj => owns_base hown hj)
          have HO := Lib.hid (bytes_own hown2)
          clear hgrow hat hown hown2
          go_roundw
          case rel => exact ⟨k + 1, pre ++ [c], by omega, by go_num, HN.out, HO.out, hBn⟩
          case measure => simp [intOf]; omega
    · have HD := Lib.hid (HGOOD.out pre (Pa.PRelB.done HR.out (by have := HZ.out; omega)))
      have hpl : pre.length = k := HR.out.1
      have b4 : ¬ 2 * (k : Int) + 1 < (s.size : Int) := by omega
      obtain ⟨a, cap, hv, hcv⟩ := owns_conv hown hpl
      subst hv
      have hx2 := HZ.out
      clear hpl hown
      by_cases hev : s.size % 2 = 0
      · have f1 : ((s.size : Int) % 2 == 0) = true := by simp; omega
        have HE : Hid (Pa.bytesB x = decide (0 < s.size)) := by
          rw [Hid, HD.out.2, ← hx2, decide_eq_true hev, Bool.true_and]
        clear hev hx2
        go_wp2
        go_ret2
        exact ⟨ret_strB' HD.out.1.symm HE.out.symm, hB⟩
      · have f1 : ((s.size : Int) % 2 == 0) = false := by simp; omega
        have HE : Hid (Pa.bytesB x = false) := by
          rw [Hid, HD.out.2, ← hx2, decide_eq_false hev, Bool.false_and]
        clear hev hx2
        go_wp2
        go_ret2
        exact ⟨ret_strB' HD.out.1.symm HE.out.symm, hB⟩

end Go.Proofs.YtgajoiijebbagaaGreatDoor
