/-
  The walk of the script's action: call and the other kinds. Conditions: the library's variables read as laid.
-/
import Derived.Test.YtgajoiijebbagaaGreatDoorAa
/-! The walk of script.action, way 'call'. Conditions: the text is at most 8000 bytes long; the library's variables read as laid. -/
namespace Go.Proofs.YtgajoiijebbagaaGreatDoor
open Go.RowKit Go.Proofs

set_option maxRecDepth 100000 in
set_option maxHeartbeats 4000000 in
theorem act_call (x : Pa.Bs) (r : List Pa.Bs) (w : World) (ok : Ok w) (hx : x.length ≤ 8000) (hs : Pa.splitC 32 x = Pa.w_call :: r) : Calls Tryz.prog 39 #[.string ⟨x.toArray⟩] w (AOut x w) := by
  have hraw := Pa.rawP_at hx hs
  rw [if_pos rfl] at hraw
  have hsp := fun u ok => split_any x u ok (by omega)
  have hst := StR.start x ((w.alloc (.cells #[.int .i64 0, .int .i64 0, .int .i64 0, .int .i64 0, .int .i64 0, .int .i64 0, .int .i64 0, .string ⟨#[]⟩, .int .i64 0, .int .i64 0, .int .i64 0, .slice none 0 0, .string ⟨#[]⟩] 27)).alloc (.cells #[.bool false] 4)) hx (by have := ok.1; simp; omega)
  rw [hs] at hsp hst
  clear hs
  simp only [World.size_alloc, List.map_cons, List.length_cons] at hst
  obtain ⟨t, ht⟩ : ∃ t : ByteArray, t = ⟨x.toArray⟩ := ⟨_, rfl⟩
  have hsz : ¬ 8000 < (t.size : Int) := by rw [ht]; simp [ByteArray.size]; omega
  rw [← ht] at hsp ⊢
  have HT := Lib.hid ht; clear ht
  have h4 := ok.1
  have hmf : ∀ (fn : Fn) (first cap : Array Value) (w : World), (Instr.makeFunc fn first cap).run Tryz.prog w = .ok (.func fn first cap) w := fun _ _ _ _ => rfl
  have hB0 : Below w.heap.size w ((w.alloc (.cells #[.int .i64 0, .int .i64 0, .int .i64 0, .int .i64 0, .int .i64 0, .int .i64 0, .int .i64 0, .string ⟨#[]⟩, .int .i64 0, .int .i64 0, .int .i64 0, .slice none 0 0, .string ⟨#[]⟩] 27)).alloc (.cells #[.bool false] 4)) := ((Below.refl _ _).alloc (Nat.le_refl _) _).alloc (by simp) _
  have q1 : RowAt w.heap.size (acCells ⟨0, 0, ⟨0, 0, 0, 0, 0, ⟨#[]⟩, 0, 0⟩, 0, [], ⟨#[]⟩⟩ (.slice none 0 0)) _ := (act_alloc w).1
  have q2 := (act_alloc w).2
  cases hr : Pa.rdNum r with
  | none =>
    have HR := Lib.hid (Pa.parse_none (x := x) (by rw [hraw, hr]; rfl))
    have HN := Lib.hid hr
    clear hr hraw
    go_enter_defers Tryz.func39, Tryz.ntmps39
    go_wp2_with fail
    refine (hsp _ (ok.below hB0)).mono ?_
    rintro e u ⟨rfl, rfl⟩
    go_wp2_with fail
    refine (word_some _ _ _ r _ hst).mono ?_
    rintro e w2 ⟨rfl, s2, k2⟩
    have hB2 : Below w.heap.size w w2 := Kp.up (below_on hB0 (((Below.refl _ _).alloc (Nat.le_refl _) _).alloc (by simp) _)) k2 (by simp; omega) (by intro k hk; show ¬ k = _; omega)
    have ok2 := ok.below hB2
    have p1 := (q1.below (((Below.refl _ _).alloc (Nat.le_refl _) _).alloc (by simp) _)).kp k2 (by show ¬ _ = _; omega)
    have p2 := (q2.below (((Below.refl _ _).alloc (Nat.le_refl _) _).alloc (by simp) _)).kp k2 (by show ¬ _ = _; omega)
    clear k2 q1 q2 hst hsp
    go_wp2_with fail
    refine (rnum_no _ _ r _ ok2 s2 HN.out).mono ?_
    rintro e w3 ⟨rfl, k3⟩
    have hB3 := Kp.up hB2 k3 (by have := hB2.size; omega) (by intro k hk; show ¬ k = _; omega)
    have r1 := p1.kp k3 (by show ¬ _ = _; omega)
    have r2 := p2.kp k3 (by show ¬ _ = _; omega)
    go_wp2
    exact door_bad HR.out rfl rfl rfl r1 r2 hB3
  | some p =>
    obtain ⟨n, r1⟩ := p
    have HN := Lib.hid hr
    cases hq : Pa.rdCall r1 with
    | none =>
      have HR := Lib.hid (Pa.parse_none (x := x) (by rw [hraw, hr]; simp [hq]))
      have hcl := fun (rb wb : Nat) (w : World) (ok : Ok w) (h : StR rb wb r1 w) => call_any rb wb r1 w ok h
      rw [hq] at hcl
      clear hr hraw hq
      go_enter_defers Tryz.func39, Tryz.ntmps39
      go_wp2_with fail
      refine (hsp _ (ok.below hB0)).mono ?_
      rintro e u ⟨rfl, rfl⟩
      go_wp2_with fail
      refine (word_some _ _ _ r _ hst).mono ?_
      rintro e w2 ⟨rfl, s2, k2⟩
      have hB2 : Below w.heap.size w w2 := Kp.up (below_on hB0 (((Below.refl _ _).alloc (Nat.le_refl _) _).alloc (by simp) _)) k2 (by simp; omega) (by intro k hk; show ¬ k = _; omega)
      have ok2 := ok.below hB2
      have p1 := (q1.below (((Below.refl _ _).alloc (Nat.le_refl _) _).alloc (by simp) _)).kp k2 (by show ¬ _ = _; omega)
      have p2 := (q2.below (((Below.refl _ _).alloc (Nat.le_refl _) _).alloc (by simp) _)).kp k2 (by show ¬ _ = _; omega)
      clear k2 q1 q2 hst hsp
      go_wp2_with fail
      refine (rnum_yes _ _ r n r1 _ s2 HN.out).mono ?_
      rintro e w3 ⟨rfl, s3, k3⟩
      have hB3 := Kp.up hB2 k3 (by have := hB2.size; omega) (by intro k hk; show ¬ k = _; omega)
      have p1_3 := p1.kp k3 (by show ¬ _ = _; omega)
      have p2_3 := p2.kp k3 (by show ¬ _ = _; omega)
      have ok3 := ok.below hB3
      clear k3 s2 p1 p2 hB2 ok2
      go_wp2_with fail
      refine (hcl _ _ _ ok3 s3).mono ?_
      rintro e w4 ⟨rfl, k4⟩
      have hB4 := Kp.up hB3 k4 (by have := hB3.size; omega) (by intro k hk; show ¬ k = _; omega)
      have r1 := p1_3.kp k4 (by show ¬ _ = _; omega)
      have r2 := p2_3.kp k4 (by show ¬ _ = _; omega)
      go_wp2
      exact door_bad HR.out rfl rfl rfl r1 r2 hB4
    | some p =>
      obtain ⟨⟨y1, y2, y3, y4, y5, y6, y7, y8⟩, r2⟩ := p
      have HA : Hid (Pa.rawP x = some ⟨1, n, ⟨y1, y2, y3, y4, y5, y6, y7, y8⟩, 0, [], ⟨#[]⟩⟩) := by rw [Hid, hraw, hr]; simp [hq, Pa.a0]
      have hcl := fun (rb wb : Nat) (w : World) (ok : Ok w) (h : StR rb wb r1 w) => call_any rb wb r1 w ok h
      rw [hq] at hcl
      clear hr hraw hq
      go_enter_defers Tryz.func39, Tryz.ntmps39
      go_wp2_with fail
      refine (hsp _ (ok.below hB0)).mono ?_
      rintro e u ⟨rfl, rfl⟩
      go_wp2_with fail
      refine (word_some _ _ _ r _ hst).mono ?_
      rintro e w2 ⟨rfl, s2, k2⟩
      have hB2 : Below w.heap.size w w2 := Kp.up (below_on hB0 (((Below.refl _ _).alloc (Nat.le_refl _) _).alloc (by simp) _)) k2 (by simp; omega) (by intro k hk; show ¬ k = _; omega)
      have ok2 := ok.below hB2
      have p1 := (q1.below (((Below.refl _ _).alloc (Nat.le_refl _) _).alloc (by simp) _)).kp k2 (by show ¬ _ = _; omega)
      have p2 := (q2.below (((Below.refl _ _).alloc (Nat.le_refl _) _).alloc (by simp) _)).kp k2 (by show ¬ _ = _; omega)
      clear k2 q1 q2 hst hsp
      go_wp2_with fail
      refine (rnum_yes _ _ r n r1 _ s2 HN.out).mono ?_
      rintro e w3 ⟨rfl, s3, k3⟩
      have hB3 := Kp.up hB2 k3 (by have := hB2.size; omega) (by intro k hk; show ¬ k = _; omega)
      have p1_3 := p1.kp k3 (by show ¬ _ = _; omega)
      have p2_3 := p2.kp k3 (by show ¬ _ = _; omega)
      have ok3 := ok.below hB3
      clear k3 s2 p1 p2 hB2 ok2
      go_wp2_with fail
      refine (hcl _ _ _ ok3 s3).mono ?_
      rintro e w4 ⟨rfl, s4, k4⟩
      have hB4 := Kp.up hB3 k4 (by have := hB3.size; omega) (by intro k hk; show ¬ k = _; omega)
      have p1_4 := p1_3.kp k4 (by show ¬ _ = _; omega)
      have p2_4 := p2_3.kp k4 (by show ¬ _ = _; omega)
      have ok4 := ok.below hB4
      clear k4 s3 p1_3 p2_3 hB3 ok3
      clear hcl
      unfold clV
      have ⟨c0, cf0⟩ := p1_4.2 0 _ rfl
      have ⟨c1, cf1⟩ := p1_4.2 1 _ rfl
      have ⟨c2, cf2⟩ := p1_4.2 2 _ rfl
      have ⟨c3, cf3⟩ := p1_4.2 3 _ rfl
      have ⟨c4, cf4⟩ := p1_4.2 4 _ rfl
      have ⟨c5, cf5⟩ := p1_4.2 5 _ rfl
      have ⟨c6, cf6⟩ := p1_4.2 6 _ rfl
      have ⟨c7, cf7⟩ := p1_4.2 7 _ rfl
      have ⟨c8, cf8⟩ := p1_4.2 8 _ rfl
      have ⟨c9, cf9⟩ := p1_4.2 9 _ rfl
      have ⟨c10, cf10⟩ := p1_4.2 10 _ rfl
      have ⟨c11, cf11⟩ := p1_4.2 11 _ rfl
      have ⟨c12, cf12⟩ := p1_4.2 12 _ rfl
      go_wp2_with fail
      have pV : RowAt w.heap.size (acCells ⟨1, n, ⟨y1, y2, y3, y4, y5, y6, y7, y8⟩, 0, [], ⟨#[]⟩⟩ (.slice none 0 0)) ((((((((((w4.setCell ⟨w.heap.size, 0, none⟩ (.int .i64 1)).setCell ⟨w.heap.size, 1, none⟩ (.int .i64 n)).setCell ⟨w.heap.size, 2, none⟩ (.int .i64 y1)).setCell ⟨w.heap.size, 3, none⟩ (.int .i64 y2)).setCell ⟨w.heap.size, 4, none⟩ (.int .i64 y3)).setCell ⟨w.heap.size, 5, none⟩ (.int .i64 y4)).setCell ⟨w.heap.size, 6, none⟩ (.int .i64 y5)).setCell ⟨w.heap.size, 7, none⟩ (.string y6)).setCell ⟨w.heap.size, 8, none⟩ (.int .i64 y7)).setCell ⟨w.heap.size, 9, none⟩ (.int .i64 y8)) := ((((((((((p1_4.set 0 (by simp [acCells]) (.int .i64 1)).set 1 (by simp [acCells]) (.int .i64 n)).set 2 (by simp [acCells]) (.int .i64 y1)).set 3 (by simp [acCells]) (.int .i64 y2)).set 4 (by simp [acCells]) (.int .i64 y3)).set 5 (by simp [acCells]) (.int .i64 y4)).set 6 (by simp [acCells]) (.int .i64 y5)).set 7 (by simp [acCells]) (.string y6)).set 8 (by simp [acCells]) (.int .i64 y7)).set 9 (by simp [acCells]) (.int .i64 y8))
      have pW : RowAt (w.heap.size + 1) [.bool false] ((((((((((w4.setCell ⟨w.heap.size, 0, none⟩ (.int .i64 1)).setCell ⟨w.heap.size, 1, none⟩ (.int .i64 n)).setCell ⟨w.heap.size, 2, none⟩ (.int .i64 y1)).setCell ⟨w.heap.size, 3, none⟩ (.int .i64 y2)).setCell ⟨w.heap.size, 4, none⟩ (.int .i64 y3)).setCell ⟨w.heap.size, 5, none⟩ (.int .i64 y4)).setCell ⟨w.heap.size, 6, none⟩ (.int .i64 y5)).setCell ⟨w.heap.size, 7, none⟩ (.string y6)).setCell ⟨w.heap.size, 8, none⟩ (.int .i64 y7)).setCell ⟨w.heap.size, 9, none⟩ (.int .i64 y8)) := ((((((((((p2_4.kp (Kp.set _ w.heap.size 0 (.int .i64 1)) (by show ¬ _ = _; omega)).kp (Kp.set _ w.heap.size 1 (.int .i64 n)) (by show ¬ _ = _; omega)).kp (Kp.set _ w.heap.size 2 (.int .i64 y1)) (by show ¬ _ = _; omega)).kp (Kp.set _ w.heap.size 3 (.int .i64 y2)) (by show ¬ _ = _; omega)).kp (Kp.set _ w.heap.size 4 (.int .i64 y3)) (by show ¬ _ = _; omega)).kp (Kp.set _ w.heap.size 5 (.int .i64 y4)) (by show ¬ _ = _; omega)).kp (Kp.set _ w.heap.size 6 (.int .i64 y5)) (by show ¬ _ = _; omega)).kp (Kp.set _ w.heap.size 7 (.string y6)) (by show ¬ _ = _; omega)).kp (Kp.set _ w.heap.size 8 (.int .i64 y7)) (by show ¬ _ = _; omega)).kp (Kp.set _ w.heap.size 9 (.int .i64 y8)) (by show ¬ _ = _; omega))
      have hBV : Below w.heap.size w ((((((((((w4.setCell ⟨w.heap.size, 0, none⟩ (.int .i64 1)).setCell ⟨w.heap.size, 1, none⟩ (.int .i64 n)).setCell ⟨w.heap.size, 2, none⟩ (.int .i64 y1)).setCell ⟨w.heap.size, 3, none⟩ (.int .i64 y2)).setCell ⟨w.heap.size, 4, none⟩ (.int .i64 y3)).setCell ⟨w.heap.size, 5, none⟩ (.int .i64 y4)).setCell ⟨w.heap.size, 6, none⟩ (.int .i64 y5)).setCell ⟨w.heap.size, 7, none⟩ (.string y6)).setCell ⟨w.heap.size, 8, none⟩ (.int .i64 y7)).setCell ⟨w.heap.size, 9, none⟩ (.int .i64 y8)) := ((((((((((hB4.setCell (p := ⟨w.heap.size, 0, none⟩) (Nat.le_refl _) (.int .i64 1)).setCell (p := ⟨w.heap.size, 1, none⟩) (Nat.le_refl _) (.int .i64 n)).setCell (p := ⟨w.heap.size, 2, none⟩) (Nat.le_refl _) (.int .i64 y1)).setCell (p := ⟨w.heap.size, 3, none⟩) (Nat.le_refl _) (.int .i64 y2)).setCell (p := ⟨w.heap.size, 4, none⟩) (Nat.le_refl _) (.int .i64 y3)).setCell (p := ⟨w.heap.size, 5, none⟩) (Nat.le_refl _) (.int .i64 y4)).setCell (p := ⟨w.heap.size, 6, none⟩) (Nat.le_refl _) (.int .i64 y5)).setCell (p := ⟨w.heap.size, 7, none⟩) (Nat.le_refl _) (.string y6)).setCell (p := ⟨w.heap.size, 8, none⟩) (Nat.le_refl _) (.int .i64 y7)).setCell (p := ⟨w.heap.size, 9, none⟩) (Nat.le_refl _) (.int .i64 y8))
      refine (validAct_any ⟨1, n, ⟨y1, y2, y3, y4, y5, y6, y7, y8⟩, 0, [], ⟨#[]⟩⟩ (.slice none 0 0) _ (ok.below hBV) name_any (Fs.nil _) (by simp)).mono ?_
      rintro e w8 ⟨rfl, hb8⟩
      have pX := pV.below hb8
      have pY := pW.below hb8
      have hBX := below_on hBV hb8
      clear c0 cf0 c1 cf1 c2 cf2 c3 cf3 c4 cf4 c5 cf5 c6 cf6 c7 cf7 c8 cf8 c9 cf9 c10 cf10 c11 cf11 c12 cf12
      clear pV pW hBV hb8
      have ⟨d0, df0⟩ := pX.2 0 _ rfl
      have ⟨d1, df1⟩ := pX.2 1 _ rfl
      have ⟨d2, df2⟩ := pX.2 2 _ rfl
      have ⟨d3, df3⟩ := pX.2 3 _ rfl
      have ⟨d4, df4⟩ := pX.2 4 _ rfl
      have ⟨d5, df5⟩ := pX.2 5 _ rfl
      have ⟨d6, df6⟩ := pX.2 6 _ rfl
      have ⟨d7, df7⟩ := pX.2 7 _ rfl
      have ⟨d8, df8⟩ := pX.2 8 _ rfl
      have ⟨d9, df9⟩ := pX.2 9 _ rfl
      have ⟨d10, df10⟩ := pX.2 10 _ rfl
      have ⟨d11, df11⟩ := pX.2 11 _ rfl
      have ⟨d12, df12⟩ := pX.2 12 _ rfl
      cases hok : Pa.okA ⟨1, n, ⟨y1, y2, y3, y4, y5, y6, y7, y8⟩, 0, [], ⟨#[]⟩⟩ with
      | false =>
        have HR := Lib.hid (Pa.parse_not HA.out (by rw [hok]; simp))
        clear hok
        go_wp2
        exact door_bad HR.out rfl rfl rfl pX pY hBX
      | true =>
        have hL := line_any ⟨1, n, ⟨y1, y2, y3, y4, y5, y6, y7, y8⟩, 0, [], ⟨#[]⟩⟩ (.slice none 0 0) w8 (ok.below hBX) hok (Fs.nil _)
        by_cases hln : Pa.lineA ⟨1, n, ⟨y1, y2, y3, y4, y5, y6, y7, y8⟩, 0, [], ⟨#[]⟩⟩ = x
        · rw [hln, ← HT.out] at hL
          have HR := Lib.hid (Pa.parseLine_some.2 ⟨hok, hln⟩)
          clear hok hln
          go_wp2_with fail
          refine hL.mono ?_
          rintro e w9 ⟨rfl, hb9⟩
          have pZ := pX.below hb9
          have pU := pY.below hb9
          have hBZ := below_on hBX hb9
          clear hL hb9 hBX pX pY
          clear d0 df0 d1 df1 d2 df2 d3 df3 d4 df4 d5 df5 d6 df6 d7 df7 d8 df8 d9 df9 d10 df10 d11 df11 d12 df12
          have ⟨e0, ef0⟩ := pZ.2 0 _ rfl
          have ⟨e1, ef1⟩ := pZ.2 1 _ rfl
          have ⟨e2, ef2⟩ := pZ.2 2 _ rfl
          have ⟨e3, ef3⟩ := pZ.2 3 _ rfl
          have ⟨e4, ef4⟩ := pZ.2 4 _ rfl
          have ⟨e5, ef5⟩ := pZ.2 5 _ rfl
          have ⟨e6, ef6⟩ := pZ.2 6 _ rfl
          have ⟨e7, ef7⟩ := pZ.2 7 _ rfl
          have ⟨e8, ef8⟩ := pZ.2 8 _ rfl
          have ⟨e9, ef9⟩ := pZ.2 9 _ rfl
          have ⟨e10, ef10⟩ := pZ.2 10 _ rfl
          have ⟨e11, ef11⟩ := pZ.2 11 _ rfl
          have ⟨e12, ef12⟩ := pZ.2 12 _ rfl
          have ⟨g0, gf0⟩ := pU.2 0 _ rfl
          go_wp2
          have hrw := RowAt.rewr pZ pU
          have hBR := hBZ.trans ((rewr_kp w.heap.size ⟨1, n, ⟨y1, y2, y3, y4, y5, y6, y7, y8⟩, 0, [], ⟨#[]⟩⟩ (.slice none 0 0) w9).below hBZ.size (by intro k hk; omega))
          show bodyPostD _ _ _ _ _ (rewr w.heap.size ⟨1, n, ⟨y1, y2, y3, y4, y5, y6, y7, y8⟩, 0, [], ⟨#[]⟩⟩ (.slice none 0 0) w9)
          exact door_good (a := ⟨1, n, ⟨y1, y2, y3, y4, y5, y6, y7, y8⟩, 0, [], ⟨#[]⟩⟩) (fv := (.slice none 0 0)) HR.out rfl rfl hrw.1 hrw.2 (Fs.nil _) (fun b h => by cases h) hBR
        · obtain ⟨L, hLe⟩ : ∃ L : ByteArray, L = ⟨(Pa.lineA ⟨1, n, ⟨y1, y2, y3, y4, y5, y6, y7, y8⟩, 0, [], ⟨#[]⟩⟩).toArray⟩ := ⟨_, rfl⟩
          rw [← hLe] at hL
          have n1 : ¬ L.toList = t.toList := by rw [hLe, HT.out]; exact bytes_two _ _ hln
          have n2 : (L.toList == t.toList) = false := by rw [beq_eq_false_iff_ne]; exact n1
          have HR := Lib.hid (Pa.parse_not HA.out (fun h => hln h.2))
          clear hok hln hLe
          go_wp2_with fail
          refine hL.mono ?_
          rintro e w9 ⟨rfl, hb9⟩
          go_wp2
          exact door_bad HR.out rfl rfl rfl (pX.below hb9) (pY.below hb9) (below_on hBX hb9)

end Go.Proofs.YtgajoiijebbagaaGreatDoor

/-! The walk of script.action, way 'other'. Conditions: the text is at most 8000 bytes long; the library's variables read as laid. -/
namespace Go.Proofs.YtgajoiijebbagaaGreatDoor
open Go.RowKit Go.Proofs

set_option maxRecDepth 100000 in
set_option maxHeartbeats 4000000 in
theorem act_other (x : Pa.Bs) (v : Pa.Bs) (n1 : v ≠ Pa.w_call) (n2 : v ≠ Pa.w_tick) (n3 : v ≠ Pa.w_fates) (n4 : v ≠ Pa.w_frame) (r : List Pa.Bs) (w : World) (ok : Ok w) (hx : x.length ≤ 8000) (hs : Pa.splitC 32 x = v :: r) : Calls Tryz.prog 39 #[.string ⟨x.toArray⟩] w (AOut x w) := by
  have hraw := Pa.rawP_at hx hs
  rw [if_neg n1, if_neg n2, if_neg n3, if_neg n4] at hraw
  have hsp := fun u ok => split_any x u ok (by omega)
  have hst := StR.start x ((w.alloc (.cells #[.int .i64 0, .int .i64 0, .int .i64 0, .int .i64 0, .int .i64 0, .int .i64 0, .int .i64 0, .string ⟨#[]⟩, .int .i64 0, .int .i64 0, .int .i64 0, .slice none 0 0, .string ⟨#[]⟩] 27)).alloc (.cells #[.bool false] 4)) hx (by have := ok.1; simp; omega)
  rw [hs] at hsp hst
  clear hs
  simp only [World.size_alloc, List.map_cons, List.length_cons] at hst
  obtain ⟨t, ht⟩ : ∃ t : ByteArray, t = ⟨x.toArray⟩ := ⟨_, rfl⟩
  have hsz : ¬ 8000 < (t.size : Int) := by rw [ht]; simp [ByteArray.size]; omega
  rw [← ht] at hsp ⊢
  have HT := Lib.hid ht; clear ht
  have h4 := ok.1
  have hmf : ∀ (fn : Fn) (first cap : Array Value) (w : World), (Instr.makeFunc fn first cap).run Tryz.prog w = .ok (.func fn first cap) w := fun _ _ _ _ => rfl
  have hB0 : Below w.heap.size w ((w.alloc (.cells #[.int .i64 0, .int .i64 0, .int .i64 0, .int .i64 0, .int .i64 0, .int .i64 0, .int .i64 0, .string ⟨#[]⟩, .int .i64 0, .int .i64 0, .int .i64 0, .slice none 0 0, .string ⟨#[]⟩] 27)).alloc (.cells #[.bool false] 4)) := ((Below.refl _ _).alloc (Nat.le_refl _) _).alloc (by simp) _
  have q1 : RowAt w.heap.size (acCells ⟨0, 0, ⟨0, 0, 0, 0, 0, ⟨#[]⟩, 0, 0⟩, 0, [], ⟨#[]⟩⟩ (.slice none 0 0)) _ := (act_alloc w).1
  have q2 := (act_alloc w).2
  have HR := Lib.hid (Pa.parse_not hraw (by intro h; exact absurd h.1 (by decide)))
  clear hraw
  obtain ⟨s, hse⟩ : ∃ s : ByteArray, s = ⟨v.toArray⟩ := ⟨_, rfl⟩
  have hsl : s.toList = v := by rw [hse, ByteArray.toList_eq]
  have hword := word_some _ _ _ r _ hst
  rw [← hse] at hword
  have m0 : ¬ s.toList = [99, 97, 108, 108] := by rw [hsl]; exact n1
  have o0 : (s.toList == [99, 97, 108, 108]) = false := by rw [beq_eq_false_iff_ne]; exact m0
  have m1 : ¬ s.toList = [116, 105, 99, 107] := by rw [hsl]; exact n2
  have o1 : (s.toList == [116, 105, 99, 107]) = false := by rw [beq_eq_false_iff_ne]; exact m1
  have m2 : ¬ s.toList = [102, 97, 116, 101, 115] := by rw [hsl]; exact n3
  have o2 : (s.toList == [102, 97, 116, 101, 115]) = false := by rw [beq_eq_false_iff_ne]; exact m2
  have m3 : ¬ s.toList = [102, 114, 97, 109, 101] := by rw [hsl]; exact n4
  have o3 : (s.toList == [102, 114, 97, 109, 101]) = false := by rw [beq_eq_false_iff_ne]; exact m3
  clear hse hsl n1 n2 n3 n4
  go_enter_defers Tryz.func39, Tryz.ntmps39
  go_wp2_with fail
  refine (hsp _ (ok.below hB0)).mono ?_
  rintro e u ⟨rfl, rfl⟩
  go_wp2_with fail
  refine hword.mono ?_
  rintro e w2 ⟨rfl, s2, k2⟩
  have hB2 : Below w.heap.size w w2 := Kp.up (below_on hB0 (((Below.refl _ _).alloc (Nat.le_refl _) _).alloc (by simp) _)) k2 (by simp; omega) (by intro k hk; show ¬ k = _; omega)
  have ok2 := ok.below hB2
  have p1 := (q1.below (((Below.refl _ _).alloc (Nat.le_refl _) _).alloc (by simp) _)).kp k2 (by show ¬ _ = _; omega)
  have p2 := (q2.below (((Below.refl _ _).alloc (Nat.le_refl _) _).alloc (by simp) _)).kp k2 (by show ¬ _ = _; omega)
  clear k2 q1 q2 hst hsp hword
  have ⟨c0, cf0⟩ := p1.2 0 _ rfl
  have ⟨c1, cf1⟩ := p1.2 1 _ rfl
  have ⟨c2, cf2⟩ := p1.2 2 _ rfl
  have ⟨c3, cf3⟩ := p1.2 3 _ rfl
  have ⟨c4, cf4⟩ := p1.2 4 _ rfl
  have ⟨c5, cf5⟩ := p1.2 5 _ rfl
  have ⟨c6, cf6⟩ := p1.2 6 _ rfl
  have ⟨c7, cf7⟩ := p1.2 7 _ rfl
  have ⟨c8, cf8⟩ := p1.2 8 _ rfl
  have ⟨c9, cf9⟩ := p1.2 9 _ rfl
  have ⟨c10, cf10⟩ := p1.2 10 _ rfl
  have ⟨c11, cf11⟩ := p1.2 11 _ rfl
  have ⟨c12, cf12⟩ := p1.2 12 _ rfl
  go_wp2_with fail
  refine (validAct_any ⟨0, 0, ⟨0, 0, 0, 0, 0, ⟨#[]⟩, 0, 0⟩, 0, [], ⟨#[]⟩⟩ (.slice none 0 0) _ ok2 name_any (Fs.nil _) (by simp)).mono ?_
  rintro e w8 ⟨rfl, hb8⟩
  have hok : Pa.okA ⟨0, 0, ⟨0, 0, 0, 0, 0, ⟨#[]⟩, 0, 0⟩, 0, [], ⟨#[]⟩⟩ = false := by decide
  rw [hok]
  clear hok
  go_wp2
  exact door_bad HR.out rfl rfl rfl (p1.below hb8) (p2.below hb8) (below_on hB2 hb8)

end Go.Proofs.YtgajoiijebbagaaGreatDoor
