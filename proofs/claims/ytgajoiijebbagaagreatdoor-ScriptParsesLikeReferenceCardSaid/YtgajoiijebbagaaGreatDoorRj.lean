/-
  The walk of the document's Parse: it says which actions it reads, or at which line it stops, and that what was there is unchanged. Conditions: the text is at most a million bytes long.
-/
import Derived.Test.YtgajoiijebbagaaGreatDoorRi
import Derived.Test.YtgajoiijebbagaaGreatDoorPs
namespace Go.Proofs.YtgajoiijebbagaaGreatDoor
open Go.RowKit Go.Proofs

theorem Pa.drop_line (l : Pa.Bs) (f k : Nat) (hf : f ≤ k) (h : k < l.length) (hc : l[k] = 10) : l.drop f = Pa.piece l f k ++ 10 :: l.drop (k + 1) := by
  have e : l.drop f = (l.drop f).take (k - f) ++ (l.drop f).drop (k - f) := (List.take_append_drop _ _).symm
  rw [List.drop_drop, show f + (k - f) = k by omega, Pa.drop_at l k h, hc] at e
  exact e
theorem Pa.drop_open (l : Pa.Bs) (f k : Nat) (h : l.length ≤ k) : l.drop f = Pa.piece l f k := by
  unfold Pa.piece
  rw [List.take_of_length_le (by rw [List.length_drop]; omega)]

set_option linter.unusedSimpArgs false in
set_option maxRecDepth 100000 in
set_option maxHeartbeats 4000000 in
theorem refParse27_any (s : ByteArray) (w : World) (hs : s.size ≤ 1000000) : Calls Tryz.prog 19 #[.string s] w (ROut (Pa.parseT s.data.toList) w) := by
  obtain ⟨i0, hi0, hz0, hz1⟩ : ∃ i0, Tryz.prog.info? 27 = some i0 ∧ i0.zero = some (.agg #[.int .i64 0, .int .i64 0, .int .i64 0, .int .i64 0, .int .i64 0, .int .i64 0, .int .i64 0, .string ⟨#[]⟩, .int .i64 0, .int .i64 0, .int .i64 0, .slice none 0 0, .string ⟨#[]⟩]) ∧ i0.size = 13 := by
    have h := infoA
    obtain ⟨i, h1, h2⟩ := Option.map_eq_some_iff.1 h
    exact ⟨i, h1, (Prod.mk.inj h2).1, (Prod.mk.inj h2).2⟩
  have hz2 : i0.bytes = 136 := by
    have h := bytesA; rw [hi0] at h; exact Option.some.inj h
  obtain ⟨R, hR⟩ : ∃ R, R = Pa.parseT s.data.toList := ⟨_, rfl⟩
  rw [← hR]
  have HR0 := Lib.hid hR; clear hR
  go_enter Tryz.func19, Tryz.ntmps19
  go_wp2_with fail
  go_loopw [5, 6] (fun v fr wr => ∃ (f : Nat) (l : List (Pa.Ac × Value)), fr = .int .i64 f ∧ f ≤ s.size ∧ Hid (R = Pa.parseK (l.map Prod.fst) (Pa.splitC 10 (s.data.toList.drop f))) ∧ l.length ≤ 100 ∧ OwnA w.heap.size wr v l ∧ Below w.heap.size w wr) (fun _ fr _ => s.size - (intOf fr).toNat)
  case atStart => exact ⟨0, [], rfl, Nat.zero_le _, by rw [Hid, HR0.out]; rfl, by simp, ⟨World.ownsRow_nil _ _ _ _, by simp⟩, Below.refl _ _⟩
  case round =>
  obtain ⟨f, l, rfl, hf, HP, h100, hO, hB⟩ := hrel
  clear HR0
  obtain ⟨vp, vc, rfl⟩ := owns_slice hO.1
  obtain ⟨W, rfl⟩ : ∃ W, W = wr := ⟨wr, rfl⟩
  by_cases hlt : f < s.size
  · have b0 : (f : Int) < (s.size : Int) := by omega
    go_wp2_with fail
    go_loopw [7] (fun tv wi => ∃ k : Nat, tv = .int .i64 k ∧ f ≤ k ∧ k ≤ s.size ∧ Hid (∀ x ∈ Pa.piece s.data.toList f k, x ≠ 10) ∧ Below W.heap.size W wi) (fun tv _ => s.size - (intOf tv).toNat)
    case atStart => exact ⟨f, rfl, Nat.le_refl _, hf, by rw [Hid, Pa.piece_self]; simp, Below.refl _ _⟩
    case round =>
    obtain ⟨k, rfl, hfk, hks, HN, hbi⟩ := hrel
    obtain ⟨Wi, rfl⟩ : ∃ Wi, Wi = wr := ⟨wr, rfl⟩
    have b1 : (0 : Int) ≤ (f : Int) := by omega
    have b2 : (f : Int) ≤ (k : Int) := by omega
    have b3 : (k : Int) ≤ (s.size : Int) := by omega
    have b4 : (0 : Int) ≤ (k : Int) := by omega
    obtain ⟨t, ht⟩ : ∃ t, t = Pa.piece s.data.toList f k := ⟨_, rfl⟩
    obtain ⟨T, hT⟩ : ∃ T : ByteArray, T = ⟨t.toArray⟩ := ⟨_, rfl⟩
    have hsub : s.extract f k = T := by rw [sub_piece, hT, ht]
    have hTs : T.size ≤ 1000000 := by
      rw [hT, mk_size, ht]; have := Pa.piece_len s.data.toList f k; omega
    have hpa := fun u => refParsed_any T u hTs
    rw [show T.data.toList = t by rw [hT]] at hpa
    have hOi := hO.below hbi
    have hBi := below_on hB hbi
    by_cases hkl : k < s.size
    · have b5 : (k : Int) < (s.size : Int) := by omega
      by_cases hc : s[k] = 10
      · have f0 : ((s[k].toNat : Int) != 10) = false := by rw [hc]; rfl
        have hkl2 : k < s.data.toList.length := by rw [size_len]; exact hkl
        have hde := Pa.drop_line s.data.toList f k hfk hkl2 (by rw [byte_at s k hkl]; exact hc)
        have hno := HN.out
        rw [← ht] at hde hno
        have hkl' := HP.out
        rw [hde, Pa.parseK_line _ _ _ hno, Pa.parseLine_R] at hkl'
        have HK := Lib.hid hkl'
        have e1 : ((k : Int) == (s.size : Int)) = false := by rw [beq_eq_false_iff_ne]; omega
        clear hkl' hde hno hT ht HN HP
        cases hok : Pa.okR t with
        | false =>
          have HR : Hid (R = .inl l.length) := by
            have := HK.out; rw [hok] at this; rw [Hid]; simpa using this
          rw [hok] at hpa
          clear HK
          go_wp2_with fail
          refine (hpa _).mono ?_
          rintro e w2 ⟨fv, rfl, ⟨va, ca, rfl, -⟩, -, hb2⟩
          have hB2 := below_on hBi hb2
          clear hpa hsub
          unfold acV
          go_wp2
          refine bodyPost_ret (v := .tuple #[.slice none 0 0, .int .i64 l.length, .int .i64 270]) (by simp [results, Tryz.results19, go_sem]) rfl (ROut.no HR.out ⟨by simp, ?_⟩)
          exact hB2.alloc hB2.size _
        | true =>
          rw [hok] at hpa
          obtain ⟨a, ha⟩ : ∃ a, a = (Pa.rawR t).1 := ⟨_, rfl⟩
          have hfl : a.fates.length ≤ 64 := by
            have h := hok
            simp only [Pa.okR, Bool.and_eq_true] at h
            rw [ha]; exact Pa.okA_fates h.1.2
          rw [← ha] at hpa
          by_cases hfull : l.length = 100
          · have HR : Hid (R = .inl l.length) := by
              have := HK.out; rw [hok] at this; rw [Hid]; simpa [hfull] using this
            have HL := Lib.hid (show (l.length : Int) = 100 by omega)
            have hf1 : ((l.length : Int) == 100) = true := by rw [hfull]; rfl
            clear HK ha hfull
            go_wp2_with fail
            refine (hpa _).mono ?_
            rintro e w2 ⟨fv, rfl, ⟨va, ca, rfl, -⟩, -, hb2⟩
            have hB2 := below_on hBi hb2
            clear hpa hsub
            unfold acV
            go_wp2
            refine bodyPost_ret (v := .tuple #[.slice none 0 0, .int .i64 l.length, .int .i64 270]) (by simp [results, Tryz.results19, go_sem, HL.out]) rfl (ROut.no HR.out ⟨by simp, ?_⟩)
            exact hB2.alloc hB2.size _
          · have HR : Hid (R = Pa.parseK ((l.map Prod.fst) ++ [a]) (Pa.splitC 10 (s.data.toList.drop (k + 1)))) := by
              have := HK.out; rw [hok] at this; rw [Hid, ha]; simpa [hfull] using this
            have hf1 : ((l.length : Int) == 100) = false := by rw [beq_eq_false_iff_ne]; omega
            have hl99 : l.length + 1 ≤ 100 := by omega
            clear HK ha hfull
            obtain ⟨y1, y2, ⟨z1, z2, z3, z4, z5, z6, z7, z8⟩, y3, fs, y5⟩ := a
            go_wp2_with fail
            refine (hpa _).mono ?_
            rintro e w2 ⟨fv, rfl, hfs, hfr, hb2⟩
            have HFS := Lib.hid hfs
            obtain ⟨va, ca, rfl, _⟩ := hfs
            have hB2 := below_on hBi hb2
            have hO2 := owns_below hOi.1 hb2
            clear hpa hsub
            unfold acV
            have hnews : ∀ j u, (acCells ⟨y1, y2, ⟨z1, z2, z3, z4, z5, z6, z7, z8⟩, y3, fs, y5⟩ (.slice va fs.length ca))[j]? = some u → ((w2.alloc (.cells #[.int .i64 y1, .int .i64 y2, .int .i64 z1, .int .i64 z2, .int .i64 z3, .int .i64 z4, .int .i64 z5, .string z6, .int .i64 z7, .int .i64 z8, .int .i64 y3, .slice va fs.length ca, .string y5] 27)).alloc (.cells #[.int .i64 y1, .int .i64 y2, .int .i64 z1, .int .i64 z2, .int .i64 z3, .int .i64 z4, .int .i64 z5, .string z6, .int .i64 z7, .int .i64 z8, .int .i64 y3, .slice va fs.length ca, .string y5] 27)).cell? ((⟨w2.heap.size + 1, 0, none⟩ : Addr).add j) = some u := by
              have := World.news_of_block (heap_alloc_new (w2.alloc (.cells #[.int .i64 y1, .int .i64 y2, .int .i64 z1, .int .i64 z2, .int .i64 z3, .int .i64 z4, .int .i64 z5, .string z6, .int .i64 z7, .int .i64 z8, .int .i64 y3, .slice va fs.length ca, .string y5] 27)) (.cells #[.int .i64 y1, .int .i64 y2, .int .i64 z1, .int .i64 z2, .int .i64 z3, .int .i64 z4, .int .i64 z5, .string z6, .int .i64 z7, .int .i64 z8, .int .i64 y3, .slice va fs.length ca, .string y5] 27))
              rw [World.size_alloc] at this
              exact this
            have hw2s := hB2.size
            go_wp2_with (at_builtin; refine wpList_append_lies _ rfl (.tmp 50) (.tmp 52) 29 rfl w.heap.size 27 i0 _ 13 136 Tryz.underlying29 hi0 hz0 hz1 hz2 rfl (by decide) _ l.length _ rfl (owns_below hO2 (((Below.refl _ _).alloc (Nat.le_refl _) _).alloc (by simp) _)) ⟨w2.heap.size + 1, 0, none⟩ 1 1 (acCells ⟨y1, y2, ⟨z1, z2, z3, z4, z5, z6, z7, z8⟩, y3, fs, y5⟩ (.slice va fs.length ca)) rfl rfl hnews (by simp [acCells, Value.oneCell']) (by omega) (by unfold maxLen; omega) (by omega) (by simp; omega) (w2.heap.size + 1 + 1) (by simp) ?_; intro g1 cap1 w6 hown6 hgrow hat hlt6)
            have hOn := OwnA.push (a := ⟨y1, y2, ⟨z1, z2, z3, z4, z5, z6, z7, z8⟩, y3, fs, y5⟩) hOi hb2 HFS.out (Nat.le_trans hfl (by omega)) hfr hown6 hgrow hat
            have hBn : Below w.heap.size w w6 := ((hB2.alloc hw2s _).alloc (by simp; omega) _).grown hgrow (by simp; omega) (fun k e => owns_base hOi.1 e)
            clear hgrow hown6 hat hnews hO2
            go_roundw
            case rel => exact ⟨k + 1, l ++ [(⟨y1, y2, ⟨z1, z2, z3, z4, z5, z6, z7, z8⟩, y3, fs, y5⟩, .slice va fs.length ca)], by go_num, by omega, by rw [List.map_append]; exact HR.out, by simpa using hl99, hOn, hBn⟩
            case measure => simp [intOf]; omega
      · have f0 : ((s[k].toNat : Int) != 10) = true := by
          rw [bne_iff_ne]; intro e; exact hc (UInt8.toNat_inj.1 (by show s[k].toNat = 10; omega))
        have HN2 : Hid (∀ x ∈ Pa.piece s.data.toList f (k + 1), x ≠ 10) := by
          rw [Hid, Pa.piece_snoc _ _ _ hfk (by rw [size_len]; exact hkl), byte_at s k hkl]
          intro x hx
          rcases List.mem_append.1 hx with h | h
          · exact HN.out x h
          · rw [List.mem_singleton.1 h]; exact hc
        clear HN hpa hsub hT ht hc HP
        go_wp2
        go_roundw
        case rel => exact ⟨k + 1, by go_num, by omega, by omega, HN2.out, hbi⟩
        case measure => simp [intOf]; omega
    · have b5 : ¬ (k : Int) < (s.size : Int) := by omega
      have hke : k = s.size := by omega
      have e1 : ((k : Int) == (s.size : Int)) = true := by rw [hke]; simp
      have HR : Hid (R = .inl l.length) := by
        have hde := Pa.drop_open s.data.toList f k (by rw [size_len]; omega)
        have := HP.out
        rw [hde, Pa.parseK_open _ (by intro e; have h2 := congrArg List.length e; rw [← hde, List.length_drop, size_len] at h2; simp at h2; omega) HN.out] at this
        rw [Hid]; simpa using this
      clear HN HP hT ht hke
      cases hok : Pa.okR t with
      | false =>
        rw [hok] at hpa
        go_wp2_with fail
        refine (hpa _).mono ?_
        rintro e w2 ⟨fv, rfl, ⟨va, ca, rfl, -⟩, -, hb2⟩
        have hB2 := below_on hBi hb2
        clear hpa hsub
        unfold acV
        go_wp2
        refine bodyPost_ret (v := .tuple #[.slice none 0 0, .int .i64 l.length, .int .i64 270]) (by simp [results, Tryz.results19, go_sem]) rfl (ROut.no HR.out ⟨by simp, ?_⟩)
        exact hB2.alloc hB2.size _
      | true =>
        rw [hok] at hpa
        go_wp2_with fail
        refine (hpa _).mono ?_
        rintro e w2 ⟨fv, rfl, ⟨va, ca, rfl, -⟩, -, hb2⟩
        have hB2 := below_on hBi hb2
        clear hpa hsub
        unfold acV
        go_wp2
        refine bodyPost_ret (v := .tuple #[.slice none 0 0, .int .i64 l.length, .int .i64 270]) (by simp [results, Tryz.results19, go_sem]) rfl (ROut.no HR.out ⟨by simp, ?_⟩)
        exact hB2.alloc hB2.size _
  · have b0 : ¬ (f : Int) < (s.size : Int) := by omega
    have HR : Hid (R = .inr (l.map Prod.fst)) := by
      have := HP.out
      rw [List.drop_of_length_le (by rw [size_len]; omega), Pa.parseK_end] at this
      exact this
    go_wp2
    refine bodyPost_ret (v := .tuple #[_, .int .i64 0, .int .i64 0]) (by simp [results, Tryz.results19, go_sem]) rfl (ROut.yes HR.out ⟨_, rfl, hO.acts, hB⟩)

end Go.Proofs.YtgajoiijebbagaaGreatDoor
