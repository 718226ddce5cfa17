/-
  The walks of the document's needs, call, fates and Valid: each says what the call returns and that what was there is unchanged. Conditions: the fates lie in memory.
-/
import Derived.Test.YtgajoiijebbagaaGreatDoorRa
import Derived.Test.YtgajoiijebbagaaGreatDoorPr
namespace Go.Proofs.YtgajoiijebbagaaGreatDoor
open Go.RowKit Go.Proofs

theorem neqCall (k1 k2 a1 a2 b1 b2 c1 c2 d1 d2 g1 g2 h1 h2 : Int) (s1 s2 : ByteArray) (w : World) : (binOp .neq 24 (.agg #[.int .i64 k1, .int .i64 a1, .int .i64 b1, .int .i64 c1, .int .i64 d1, .string s1, .int .i64 g1, .int .i64 h1])
    (.agg #[.int .i64 k2, .int .i64 a2, .int .i64 b2, .int .i64 c2, .int .i64 d2, .string s2, .int .i64 g2, .int .i64 h2])).run Tryz.prog w = .ok (.bool (!decide ((⟨k1, a1, b1, c1, d1, s1, g1, h1⟩ : Pa.Cl) = ⟨k2, a2, b2, c2, d2, s2, g2, h2⟩))) w := by
  rw [run_neq_struct, run_equalIn_struct w 9999 _ _ _ (by kernel_rfl) (by kernel_rfl)]
  simp only [Program.fieldsOf, Tryz.underlying24]
  simp [go_sem, Op.eqFields, part]
  have hs : s1.toList = s2.toList ↔ s1 = s2 := bytes_iff s1 s2
  simp only [hs]
  repeat' split
  all_goals simp_all

set_option linter.unusedSimpArgs false in
set_option maxRecDepth 100000 in
set_option maxHeartbeats 2000000 in
theorem needs_any (c : Pa.Cl) (w : World) : Calls Tryz.prog 53 #[clV c] w fun e w' => e = .returned (clV (Pa.needC c)) ∧ Below w.heap.size w w' := by
  obtain ⟨k, so, ad, po, n, s, he, ms⟩ := c
  by_cases hk : 1 ≤ k ∧ k ≤ 13
  · rcases Pa.kind_cases hk with rfl | rfl | rfl | rfl | rfl | rfl | rfl | rfl | rfl | rfl | rfl | rfl | rfl
    all_goals
      clear hk
      unfold clV
      go_enter Tryz.func53, Tryz.ntmps53
      go_wp2
      refine bodyPost_ret (v := clV (Pa.needC _)) (by simp [results, Tryz.results53, go_sem, Pa.needC, clV, Pa.c0]) rfl ⟨rfl, ?_⟩
      repeat (first | exact Below.refl _ _ | refine Below.setCell ?_ (by simp) _ | refine Below.alloc ?_ (by simp) _ | apply Below.drew)
  · have k1 : (k == 1) = false := by rw [beq_eq_false_iff_ne]; omega
    have k2 : (k == 2) = false := by rw [beq_eq_false_iff_ne]; omega
    have k3 : (k == 3) = false := by rw [beq_eq_false_iff_ne]; omega
    have k4 : (k == 4) = false := by rw [beq_eq_false_iff_ne]; omega
    have k6 : (k == 6) = false := by rw [beq_eq_false_iff_ne]; omega
    have k7 : (k == 7) = false := by rw [beq_eq_false_iff_ne]; omega
    have k10 : (k == 10) = false := by rw [beq_eq_false_iff_ne]; omega
    have k12 : (k == 12) = false := by rw [beq_eq_false_iff_ne]; omega
    have k13 : (k == 13) = false := by rw [beq_eq_false_iff_ne]; omega
    have hn : Pa.needC ⟨k, so, ad, po, n, s, he, ms⟩ = ⟨k, so, 0, 0, 0, ⟨#[]⟩, 0, 0⟩ := by
      simp only [beq_eq_false_iff_ne] at k1 k2 k3 k4 k6 k7 k10 k12 k13
      simp [Pa.needC, Pa.c0, k1, k2, k3, k4, k6, k7, k10, k12, k13]
    have HN := Lib.hid hn; clear hn hk
    unfold clV
    go_enter Tryz.func53, Tryz.ntmps53
    go_wp2
    refine bodyPost_ret (v := clV ⟨k, so, 0, 0, 0, ⟨#[]⟩, 0, 0⟩) (by simp [results, Tryz.results53, go_sem, clV]) rfl ⟨by rw [HN.out]; rfl, ?_⟩
    repeat (first | exact Below.refl _ _ | refine Below.setCell ?_ (by simp) _ | refine Below.alloc ?_ (by simp) _ | apply Below.drew)

theorem refFates_any (v : Value) (xs : List Int) (w : World) (hv : Fs w v xs) (hl : xs.length ≤ 9223372036854775807) :
    Calls Tryz.prog 36 #[v] w fun e w' => e = .returned (.bool (Pa.okF xs)) ∧ w = w' := by
  have HV := Lib.hid hv
  obtain ⟨va, ca, rfl, -⟩ := hv
  go_enter Tryz.func36, Tryz.ntmps36
  go_wp2
  go_loop [3] (fun i => ∃ k : Nat, k ≤ xs.length ∧ i = .int .i64 k ∧ Hid (Pa.allF (xs.take k) = true)) (fun i => xs.length - (intOf i).toNat)
  case atStart => exact ⟨0, Nat.zero_le _, rfl, rfl⟩
  case round =>
    obtain ⟨k, hk, rfl, HA⟩ := hrel
    by_cases hlt : k < xs.length
    · obtain ⟨va', ca', hv, hcs⟩ := HV.out
      cases hv
      obtain ⟨b, o, rfl, hbl, hcell⟩ := hcs (fun e => by simp [e] at hlt)
      have c0 := hcell k hlt
      clear hcell hcs
      have b1 : (0 : Int) ≤ (k : Int) := by omega
      have b2 : (k : Int) < (xs.length : Int) := by omega
      have hw := refWithin_any xs[k] 0 24
      cases hin : Pa.inR xs[k] 0 24 with
      | false =>
        have HR : Hid (Pa.okF xs = false) := by
          rw [Hid, Bool.eq_false_iff]
          intro e
          simp only [Pa.okF, Bool.and_eq_true, List.all_eq_true] at e
          have := e.2 _ (List.getElem_mem hlt)
          rw [hin] at this; cases this
        rw [hin] at hw
        clear hin
        go_wp2_with (go_at_call 34; refine (hw _).mono ?_; rintro e w' ⟨rfl, rfl⟩)
        go_ret
        exact ⟨ret_bool HR.out.symm, rfl⟩
      | true =>
        have HN : Hid (Pa.allF (xs.take (k + 1)) = true) := by rw [Hid, Pa.allF_snoc xs k hlt, HA.out, hin]; rfl
        rw [hin] at hw
        clear hin
        go_wp2_with (go_at_call 34; refine (hw _).mono ?_; rintro e w' ⟨rfl, rfl⟩)
        go_round
        case rel => exact ⟨k + 1, by omega, by go_num, HN.out⟩
        case measure => simp [intOf]; omega
    · have HR : Hid (Pa.okF xs = decide ((xs.length : Int) ≤ 64)) := by
        have := HA.out
        rw [List.take_of_length_le (by omega)] at this
        unfold Pa.allF at this
        rw [Hid, Pa.okF, this, Bool.and_true]
        by_cases h : xs.length ≤ 64
        · rw [decide_eq_true h, decide_eq_true (by omega)]
        · rw [decide_eq_false h, decide_eq_false (by omega)]
      go_wp2
      go_ret
      exact ⟨ret_bool HR.out.symm, rfl⟩

/-- The document's test of a call's fields, step by step. -/
theorem Pa.okC_six (c : Pa.Cl) : Pa.okC c = (Pa.inR c.kind 1 13 && (decide (c = Pa.needC c) && (Pa.inR c.sock 0 1000000 && (Pa.inR c.n 0 1000000 && (Pa.inR c.port 0 65535 && (Pa.validB c.addr &&
  (if c.kind = 1 then decide (c.n = 6 ∨ c.n = 17) else if c.kind = 12 then Pa.nameOk c.s.data.toList else decide (c.s.size ≤ 2100)))))))) := by
  unfold Pa.okC; simp only [Bool.and_assoc]

set_option linter.unusedSimpArgs false in
set_option maxRecDepth 100000 in
set_option maxHeartbeats 1000000 in
theorem refCall_0 (k so ad po n he ms : Int) (s : ByteArray) (w : World) (h1 : Pa.inR k 1 13 = false) :
    Calls Tryz.prog 35 #[clV ⟨k, so, ad, po, n, s, he, ms⟩] w fun e w' => e = .returned (.bool false) ∧ Below w.heap.size w w' := by
  obtain ⟨d, hd⟩ : ∃ d, d = Pa.needC ⟨k, so, ad, po, n, s, he, ms⟩ := ⟨_, rfl⟩
  have hnd := fun (u : World) => needs_any ⟨k, so, ad, po, n, s, he, ms⟩ u
  rw [← hd] at hnd
  clear hd
  obtain ⟨d1, d2, d3, d4, d5, d6, d7, d8⟩ := d
  have hq := neqCall k d1 so d2 ad d3 po d4 n d5 he d7 ms d8 s d6
  have w1 := fun (u : World) => refWithin_any k 1 13 u
  rw [h1] at w1
  clear h1
  unfold clV at hnd ⊢
  go_enter Tryz.func35, Tryz.ntmps35
  go_wp2_with fail
  refine wp_region_below (by kernel_rfl) (by kernel_rfl) ?_
  intro W hW
  have hsz : w.heap.size < W.heap.size := by rw [hW]; simp
  have hBW : Below w.heap.size w W := by rw [hW]; exact (Below.refl _ _).alloc (Nat.le_refl _) _
  have c0 : ∀ x : Lat (Below W.heap.size W), x.u.cell? ⟨w.heap.size, 0, none⟩ = some (.int .i64 k) := fun x => x.cell hsz (by rw [hW]; simp)
  have c1 : ∀ x : Lat (Below W.heap.size W), x.u.cell? ⟨w.heap.size, 1, none⟩ = some (.int .i64 so) := fun x => x.cell hsz (by rw [hW]; simp)
  have c2 : ∀ x : Lat (Below W.heap.size W), x.u.cell? ⟨w.heap.size, 2, none⟩ = some (.int .i64 ad) := fun x => x.cell hsz (by rw [hW]; simp)
  have c3 : ∀ x : Lat (Below W.heap.size W), x.u.cell? ⟨w.heap.size, 3, none⟩ = some (.int .i64 po) := fun x => x.cell hsz (by rw [hW]; simp)
  have c4 : ∀ x : Lat (Below W.heap.size W), x.u.cell? ⟨w.heap.size, 4, none⟩ = some (.int .i64 n) := fun x => x.cell hsz (by rw [hW]; simp)
  have c5 : ∀ x : Lat (Below W.heap.size W), x.u.cell? ⟨w.heap.size, 5, none⟩ = some (.string s) := fun x => x.cell hsz (by rw [hW]; simp)
  have c6 : ∀ x : Lat (Below W.heap.size W), x.u.cell? ⟨w.heap.size, 6, none⟩ = some (.int .i64 he) := fun x => x.cell hsz (by rw [hW]; simp)
  have c7 : ∀ x : Lat (Below W.heap.size W), x.u.cell? ⟨w.heap.size, 7, none⟩ = some (.int .i64 ms) := fun x => x.cell hsz (by rw [hW]; simp)
  clear hW
  repeat (go_big_quiet_step (first | (go_at_call 34; first | with_reducible exact Calls.same (w1 _)) | (go_at_call 53; with_reducible exact Calls.below (hnd _)) | fail))
  refine wpQuiet_nil ?_
  rintro u ⟨x, hx⟩
  have hu : Below W.heap.size W u := by rw [hx]; exact x.h
  clear hx c0 c1 c2 c3 c4 c5 c6 c7 hnd
  go_wp2
  go_ret
  exact ⟨rfl, below_on hBW hu⟩

set_option linter.unusedSimpArgs false in
set_option maxRecDepth 100000 in
set_option maxHeartbeats 1000000 in
theorem refCall_1 (k so ad po n he ms : Int) (s : ByteArray) (w : World) (h1 : Pa.inR k 1 13 = true) (h2 : decide (⟨k, so, ad, po, n, s, he, ms⟩ = Pa.needC ⟨k, so, ad, po, n, s, he, ms⟩) = false) :
    Calls Tryz.prog 35 #[clV ⟨k, so, ad, po, n, s, he, ms⟩] w fun e w' => e = .returned (.bool false) ∧ Below w.heap.size w w' := by
  obtain ⟨d, hd⟩ : ∃ d, d = Pa.needC ⟨k, so, ad, po, n, s, he, ms⟩ := ⟨_, rfl⟩
  rw [← hd] at h2
  have hnd := fun (u : World) => needs_any ⟨k, so, ad, po, n, s, he, ms⟩ u
  rw [← hd] at hnd
  clear hd
  obtain ⟨d1, d2, d3, d4, d5, d6, d7, d8⟩ := d
  have hq := neqCall k d1 so d2 ad d3 po d4 n d5 he d7 ms d8 s d6
  rw [h2] at hq
  have w1 := fun (u : World) => refWithin_any k 1 13 u
  rw [h1] at w1
  clear h1 h2
  unfold clV at hnd ⊢
  go_enter Tryz.func35, Tryz.ntmps35
  go_wp2_with fail
  refine wp_region_below (by kernel_rfl) (by kernel_rfl) ?_
  intro W hW
  have hsz : w.heap.size < W.heap.size := by rw [hW]; simp
  have hBW : Below w.heap.size w W := by rw [hW]; exact (Below.refl _ _).alloc (Nat.le_refl _) _
  have c0 : ∀ x : Lat (Below W.heap.size W), x.u.cell? ⟨w.heap.size, 0, none⟩ = some (.int .i64 k) := fun x => x.cell hsz (by rw [hW]; simp)
  have c1 : ∀ x : Lat (Below W.heap.size W), x.u.cell? ⟨w.heap.size, 1, none⟩ = some (.int .i64 so) := fun x => x.cell hsz (by rw [hW]; simp)
  have c2 : ∀ x : Lat (Below W.heap.size W), x.u.cell? ⟨w.heap.size, 2, none⟩ = some (.int .i64 ad) := fun x => x.cell hsz (by rw [hW]; simp)
  have c3 : ∀ x : Lat (Below W.heap.size W), x.u.cell? ⟨w.heap.size, 3, none⟩ = some (.int .i64 po) := fun x => x.cell hsz (by rw [hW]; simp)
  have c4 : ∀ x : Lat (Below W.heap.size W), x.u.cell? ⟨w.heap.size, 4, none⟩ = some (.int .i64 n) := fun x => x.cell hsz (by rw [hW]; simp)
  have c5 : ∀ x : Lat (Below W.heap.size W), x.u.cell? ⟨w.heap.size, 5, none⟩ = some (.string s) := fun x => x.cell hsz (by rw [hW]; simp)
  have c6 : ∀ x : Lat (Below W.heap.size W), x.u.cell? ⟨w.heap.size, 6, none⟩ = some (.int .i64 he) := fun x => x.cell hsz (by rw [hW]; simp)
  have c7 : ∀ x : Lat (Below W.heap.size W), x.u.cell? ⟨w.heap.size, 7, none⟩ = some (.int .i64 ms) := fun x => x.cell hsz (by rw [hW]; simp)
  clear hW
  repeat (go_big_quiet_step (first | (go_at_call 34; first | with_reducible exact Calls.same (w1 _)) | (go_at_call 53; with_reducible exact Calls.below (hnd _)) | fail))
  refine wpQuiet_nil ?_
  rintro u ⟨x, hx⟩
  have hu : Below W.heap.size W u := by rw [hx]; exact x.h
  clear hx c0 c1 c2 c3 c4 c5 c6 c7 hnd
  go_wp2
  go_ret
  exact ⟨rfl, below_on hBW hu⟩

set_option linter.unusedSimpArgs false in
set_option maxRecDepth 100000 in
set_option maxHeartbeats 1000000 in
theorem refCall_2 (k so ad po n he ms : Int) (s : ByteArray) (w : World) (h1 : Pa.inR k 1 13 = true) (h2 : decide (⟨k, so, ad, po, n, s, he, ms⟩ = Pa.needC ⟨k, so, ad, po, n, s, he, ms⟩) = true) (h3 : Pa.inR so 0 1000000 = false) :
    Calls Tryz.prog 35 #[clV ⟨k, so, ad, po, n, s, he, ms⟩] w fun e w' => e = .returned (.bool false) ∧ Below w.heap.size w w' := by
  obtain ⟨d, hd⟩ : ∃ d, d = Pa.needC ⟨k, so, ad, po, n, s, he, ms⟩ := ⟨_, rfl⟩
  rw [← hd] at h2
  have hnd := fun (u : World) => needs_any ⟨k, so, ad, po, n, s, he, ms⟩ u
  rw [← hd] at hnd
  clear hd
  obtain ⟨d1, d2, d3, d4, d5, d6, d7, d8⟩ := d
  have hq := neqCall k d1 so d2 ad d3 po d4 n d5 he d7 ms d8 s d6
  rw [h2] at hq
  have w1 := fun (u : World) => refWithin_any k 1 13 u
  rw [h1] at w1
  have w3 := fun (u : World) => refWithin_any so 0 1000000 u
  rw [h3] at w3
  clear h1 h2 h3
  unfold clV at hnd ⊢
  go_enter Tryz.func35, Tryz.ntmps35
  go_wp2_with fail
  refine wp_region_below (by kernel_rfl) (by kernel_rfl) ?_
  intro W hW
  have hsz : w.heap.size < W.heap.size := by rw [hW]; simp
  have hBW : Below w.heap.size w W := by rw [hW]; exact (Below.refl _ _).alloc (Nat.le_refl _) _
  have c0 : ∀ x : Lat (Below W.heap.size W), x.u.cell? ⟨w.heap.size, 0, none⟩ = some (.int .i64 k) := fun x => x.cell hsz (by rw [hW]; simp)
  have c1 : ∀ x : Lat (Below W.heap.size W), x.u.cell? ⟨w.heap.size, 1, none⟩ = some (.int .i64 so) := fun x => x.cell hsz (by rw [hW]; simp)
  have c2 : ∀ x : Lat (Below W.heap.size W), x.u.cell? ⟨w.heap.size, 2, none⟩ = some (.int .i64 ad) := fun x => x.cell hsz (by rw [hW]; simp)
  have c3 : ∀ x : Lat (Below W.heap.size W), x.u.cell? ⟨w.heap.size, 3, none⟩ = some (.int .i64 po) := fun x => x.cell hsz (by rw [hW]; simp)
  have c4 : ∀ x : Lat (Below W.heap.size W), x.u.cell? ⟨w.heap.size, 4, none⟩ = some (.int .i64 n) := fun x => x.cell hsz (by rw [hW]; simp)
  have c5 : ∀ x : Lat (Below W.heap.size W), x.u.cell? ⟨w.heap.size, 5, none⟩ = some (.string s) := fun x => x.cell hsz (by rw [hW]; simp)
  have c6 : ∀ x : Lat (Below W.heap.size W), x.u.cell? ⟨w.heap.size, 6, none⟩ = some (.int .i64 he) := fun x => x.cell hsz (by rw [hW]; simp)
  have c7 : ∀ x : Lat (Below W.heap.size W), x.u.cell? ⟨w.heap.size, 7, none⟩ = some (.int .i64 ms) := fun x => x.cell hsz (by rw [hW]; simp)
  clear hW
  repeat (go_big_quiet_step (first | (go_at_call 34; first | with_reducible exact Calls.same (w1 _) | with_reducible exact Calls.same (w3 _)) | (go_at_call 53; with_reducible exact Calls.below (hnd _)) | fail))
  refine wpQuiet_nil ?_
  rintro u ⟨x, hx⟩
  have hu : Below W.heap.size W u := by rw [hx]; exact x.h
  clear hx c0 c1 c2 c3 c4 c5 c6 c7 hnd
  go_wp2
  go_ret
  exact ⟨rfl, below_on hBW hu⟩

set_option linter.unusedSimpArgs false in
set_option maxRecDepth 100000 in
set_option maxHeartbeats 1000000 in
theorem refCall_3 (k so ad po n he ms : Int) (s : ByteArray) (w : World) (h1 : Pa.inR k 1 13 = true) (h2 : decide (⟨k, so, ad, po, n, s, he, ms⟩ = Pa.needC ⟨k, so, ad, po, n, s, he, ms⟩) = true) (h3 : Pa.inR so 0 1000000 = true) (h4 : Pa.inR n 0 1000000 = false) :
    Calls Tryz.prog 35 #[clV ⟨k, so, ad, po, n, s, he, ms⟩] w fun e w' => e = .returned (.bool false) ∧ Below w.heap.size w w' := by
  obtain ⟨d, hd⟩ : ∃ d, d = Pa.needC ⟨k, so, ad, po, n, s, he, ms⟩ := ⟨_, rfl⟩
  rw [← hd] at h2
  have hnd := fun (u : World) => needs_any ⟨k, so, ad, po, n, s, he, ms⟩ u
  rw [← hd] at hnd
  clear hd
  obtain ⟨d1, d2, d3, d4, d5, d6, d7, d8⟩ := d
  have hq := neqCall k d1 so d2 ad d3 po d4 n d5 he d7 ms d8 s d6
  rw [h2] at hq
  have w1 := fun (u : World) => refWithin_any k 1 13 u
  rw [h1] at w1
  have w3 := fun (u : World) => refWithin_any so 0 1000000 u
  rw [h3] at w3
  have w4 := fun (u : World) => refWithin_any n 0 1000000 u
  rw [h4] at w4
  clear h1 h2 h3 h4
  unfold clV at hnd ⊢
  go_enter Tryz.func35, Tryz.ntmps35
  go_wp2_with fail
  refine wp_region_below (by kernel_rfl) (by kernel_rfl) ?_
  intro W hW
  have hsz : w.heap.size < W.heap.size := by rw [hW]; simp
  have hBW : Below w.heap.size w W := by rw [hW]; exact (Below.refl _ _).alloc (Nat.le_refl _) _
  have c0 : ∀ x : Lat (Below W.heap.size W), x.u.cell? ⟨w.heap.size, 0, none⟩ = some (.int .i64 k) := fun x => x.cell hsz (by rw [hW]; simp)
  have c1 : ∀ x : Lat (Below W.heap.size W), x.u.cell? ⟨w.heap.size, 1, none⟩ = some (.int .i64 so) := fun x => x.cell hsz (by rw [hW]; simp)
  have c2 : ∀ x : Lat (Below W.heap.size W), x.u.cell? ⟨w.heap.size, 2, none⟩ = some (.int .i64 ad) := fun x => x.cell hsz (by rw [hW]; simp)
  have c3 : ∀ x : Lat (Below W.heap.size W), x.u.cell? ⟨w.heap.size, 3, none⟩ = some (.int .i64 po) := fun x => x.cell hsz (by rw [hW]; simp)
  have c4 : ∀ x : Lat (Below W.heap.size W), x.u.cell? ⟨w.heap.size, 4, none⟩ = some (.int .i64 n) := fun x => x.cell hsz (by rw [hW]; simp)
  have c5 : ∀ x : Lat (Below W.heap.size W), x.u.cell? ⟨w.heap.size, 5, none⟩ = some (.string s) := fun x => x.cell hsz (by rw [hW]; simp)
  have c6 : ∀ x : Lat (Below W.heap.size W), x.u.cell? ⟨w.heap.size, 6, none⟩ = some (.int .i64 he) := fun x => x.cell hsz (by rw [hW]; simp)
  have c7 : ∀ x : Lat (Below W.heap.size W), x.u.cell? ⟨w.heap.size, 7, none⟩ = some (.int .i64 ms) := fun x => x.cell hsz (by rw [hW]; simp)
  clear hW
  repeat (go_big_quiet_step (first | (go_at_call 34; first | with_reducible exact Calls.same (w1 _) | with_reducible exact Calls.same (w3 _) | with_reducible exact Calls.same (w4 _)) | (go_at_call 53; with_reducible exact Calls.below (hnd _)) | fail))
  refine wpQuiet_nil ?_
  rintro u ⟨x, hx⟩
  have hu : Below W.heap.size W u := by rw [hx]; exact x.h
  clear hx c0 c1 c2 c3 c4 c5 c6 c7 hnd
  go_wp2
  go_ret
  exact ⟨rfl, below_on hBW hu⟩

set_option linter.unusedSimpArgs false in
set_option maxRecDepth 100000 in
set_option maxHeartbeats 1000000 in
theorem refCall_4 (k so ad po n he ms : Int) (s : ByteArray) (w : World) (h1 : Pa.inR k 1 13 = true) (h2 : decide (⟨k, so, ad, po, n, s, he, ms⟩ = Pa.needC ⟨k, so, ad, po, n, s, he, ms⟩) = true) (h3 : Pa.inR so 0 1000000 = true) (h4 : Pa.inR n 0 1000000 = true) (h5 : Pa.inR po 0 65535 = false) :
    Calls Tryz.prog 35 #[clV ⟨k, so, ad, po, n, s, he, ms⟩] w fun e w' => e = .returned (.bool false) ∧ Below w.heap.size w w' := by
  obtain ⟨d, hd⟩ : ∃ d, d = Pa.needC ⟨k, so, ad, po, n, s, he, ms⟩ := ⟨_, rfl⟩
  rw [← hd] at h2
  have hnd := fun (u : World) => needs_any ⟨k, so, ad, po, n, s, he, ms⟩ u
  rw [← hd] at hnd
  clear hd
  obtain ⟨d1, d2, d3, d4, d5, d6, d7, d8⟩ := d
  have hq := neqCall k d1 so d2 ad d3 po d4 n d5 he d7 ms d8 s d6
  rw [h2] at hq
  have w1 := fun (u : World) => refWithin_any k 1 13 u
  rw [h1] at w1
  have w3 := fun (u : World) => refWithin_any so 0 1000000 u
  rw [h3] at w3
  have w4 := fun (u : World) => refWithin_any n 0 1000000 u
  rw [h4] at w4
  have w5 := fun (u : World) => refWithin_any po 0 65535 u
  rw [h5] at w5
  clear h1 h2 h3 h4 h5
  unfold clV at hnd ⊢
  go_enter Tryz.func35, Tryz.ntmps35
  go_wp2_with fail
  refine wp_region_below (by kernel_rfl) (by kernel_rfl) ?_
  intro W hW
  have hsz : w.heap.size < W.heap.size := by rw [hW]; simp
  have hBW : Below w.heap.size w W := by rw [hW]; exact (Below.refl _ _).alloc (Nat.le_refl _) _
  have c0 : ∀ x : Lat (Below W.heap.size W), x.u.cell? ⟨w.heap.size, 0, none⟩ = some (.int .i64 k) := fun x => x.cell hsz (by rw [hW]; simp)
  have c1 : ∀ x : Lat (Below W.heap.size W), x.u.cell? ⟨w.heap.size, 1, none⟩ = some (.int .i64 so) := fun x => x.cell hsz (by rw [hW]; simp)
  have c2 : ∀ x : Lat (Below W.heap.size W), x.u.cell? ⟨w.heap.size, 2, none⟩ = some (.int .i64 ad) := fun x => x.cell hsz (by rw [hW]; simp)
  have c3 : ∀ x : Lat (Below W.heap.size W), x.u.cell? ⟨w.heap.size, 3, none⟩ = some (.int .i64 po) := fun x => x.cell hsz (by rw [hW]; simp)
  have c4 : ∀ x : Lat (Below W.heap.size W), x.u.cell? ⟨w.heap.size, 4, none⟩ = some (.int .i64 n) := fun x => x.cell hsz (by rw [hW]; simp)
  have c5 : ∀ x : Lat (Below W.heap.size W), x.u.cell? ⟨w.heap.size, 5, none⟩ = some (.string s) := fun x => x.cell hsz (by rw [hW]; simp)
  have c6 : ∀ x : Lat (Below W.heap.size W), x.u.cell? ⟨w.heap.size, 6, none⟩ = some (.int .i64 he) := fun x => x.cell hsz (by rw [hW]; simp)
  have c7 : ∀ x : Lat (Below W.heap.size W), x.u.cell? ⟨w.heap.size, 7, none⟩ = some (.int .i64 ms) := fun x => x.cell hsz (by rw [hW]; simp)
  clear hW
  repeat (go_big_quiet_step (first | (go_at_call 34; first | with_reducible exact Calls.same (w1 _) | with_reducible exact Calls.same (w3 _) | with_reducible exact Calls.same (w4 _) | with_reducible exact Calls.same (w5 _)) | (go_at_call 53; with_reducible exact Calls.below (hnd _)) | fail))
  refine wpQuiet_nil ?_
  rintro u ⟨x, hx⟩
  have hu : Below W.heap.size W u := by rw [hx]; exact x.h
  clear hx c0 c1 c2 c3 c4 c5 c6 c7 hnd
  go_wp2
  go_ret
  exact ⟨rfl, below_on hBW hu⟩

set_option linter.unusedSimpArgs false in
set_option maxRecDepth 100000 in
set_option maxHeartbeats 1000000 in
theorem refCall_5 (k so ad po n he ms : Int) (s : ByteArray) (w : World) (h1 : Pa.inR k 1 13 = true) (h2 : decide (⟨k, so, ad, po, n, s, he, ms⟩ = Pa.needC ⟨k, so, ad, po, n, s, he, ms⟩) = true) (h3 : Pa.inR so 0 1000000 = true) (h4 : Pa.inR n 0 1000000 = true) (h5 : Pa.inR po 0 65535 = true) (h6 : Pa.validB ad = false) :
    Calls Tryz.prog 35 #[clV ⟨k, so, ad, po, n, s, he, ms⟩] w fun e w' => e = .returned (.bool false) ∧ Below w.heap.size w w' := by
  obtain ⟨d, hd⟩ : ∃ d, d = Pa.needC ⟨k, so, ad, po, n, s, he, ms⟩ := ⟨_, rfl⟩
  rw [← hd] at h2
  have hnd := fun (u : World) => needs_any ⟨k, so, ad, po, n, s, he, ms⟩ u
  rw [← hd] at hnd
  clear hd
  obtain ⟨d1, d2, d3, d4, d5, d6, d7, d8⟩ := d
  have hq := neqCall k d1 so d2 ad d3 po d4 n d5 he d7 ms d8 s d6
  rw [h2] at hq
  have w1 := fun (u : World) => refWithin_any k 1 13 u
  rw [h1] at w1
  have w3 := fun (u : World) => refWithin_any so 0 1000000 u
  rw [h3] at w3
  have w4 := fun (u : World) => refWithin_any n 0 1000000 u
  rw [h4] at w4
  have w5 := fun (u : World) => refWithin_any po 0 65535 u
  rw [h5] at w5
  have w6 := fun (u : World) => refValid_any ad u
  rw [h6] at w6
  clear h1 h2 h3 h4 h5 h6
  unfold clV at hnd ⊢
  go_enter Tryz.func35, Tryz.ntmps35
  go_wp2_with fail
  refine wp_region_below (by kernel_rfl) (by kernel_rfl) ?_
  intro W hW
  have hsz : w.heap.size < W.heap.size := by rw [hW]; simp
  have hBW : Below w.heap.size w W := by rw [hW]; exact (Below.refl _ _).alloc (Nat.le_refl _) _
  have c0 : ∀ x : Lat (Below W.heap.size W), x.u.cell? ⟨w.heap.size, 0, none⟩ = some (.int .i64 k) := fun x => x.cell hsz (by rw [hW]; simp)
  have c1 : ∀ x : Lat (Below W.heap.size W), x.u.cell? ⟨w.heap.size, 1, none⟩ = some (.int .i64 so) := fun x => x.cell hsz (by rw [hW]; simp)
  have c2 : ∀ x : Lat (Below W.heap.size W), x.u.cell? ⟨w.heap.size, 2, none⟩ = some (.int .i64 ad) := fun x => x.cell hsz (by rw [hW]; simp)
  have c3 : ∀ x : Lat (Below W.heap.size W), x.u.cell? ⟨w.heap.size, 3, none⟩ = some (.int .i64 po) := fun x => x.cell hsz (by rw [hW]; simp)
  have c4 : ∀ x : Lat (Below W.heap.size W), x.u.cell? ⟨w.heap.size, 4, none⟩ = some (.int .i64 n) := fun x => x.cell hsz (by rw [hW]; simp)
  have c5 : ∀ x : Lat (Below W.heap.size W), x.u.cell? ⟨w.heap.size, 5, none⟩ = some (.string s) := fun x => x.cell hsz (by rw [hW]; simp)
  have c6 : ∀ x : Lat (Below W.heap.size W), x.u.cell? ⟨w.heap.size, 6, none⟩ = some (.int .i64 he) := fun x => x.cell hsz (by rw [hW]; simp)
  have c7 : ∀ x : Lat (Below W.heap.size W), x.u.cell? ⟨w.heap.size, 7, none⟩ = some (.int .i64 ms) := fun x => x.cell hsz (by rw [hW]; simp)
  clear hW
  repeat (go_big_quiet_step (first | (go_at_call 34; first | with_reducible exact Calls.same (w1 _) | with_reducible exact Calls.same (w3 _) | with_reducible exact Calls.same (w4 _) | with_reducible exact Calls.same (w5 _)) | (go_at_call 53; with_reducible exact Calls.below (hnd _)) | (go_at_call 54; with_reducible exact Calls.same (w6 _))))
  refine wpQuiet_nil ?_
  rintro u ⟨x, hx⟩
  have hu : Below W.heap.size W u := by rw [hx]; exact x.h
  clear hx c0 c1 c2 c3 c4 c5 c6 c7 hnd
  go_wp2
  go_ret
  exact ⟨rfl, below_on hBW hu⟩

set_option linter.unusedSimpArgs false in
set_option maxRecDepth 100000 in
set_option maxHeartbeats 1000000 in
theorem refCall_6 (k so ad po n he ms : Int) (s : ByteArray) (w : World) (h1 : Pa.inR k 1 13 = true) (h2 : decide (⟨k, so, ad, po, n, s, he, ms⟩ = Pa.needC ⟨k, so, ad, po, n, s, he, ms⟩) = true) (h3 : Pa.inR so 0 1000000 = true) (h4 : Pa.inR n 0 1000000 = true) (h5 : Pa.inR po 0 65535 = true) (h6 : Pa.validB ad = true) :
    Calls Tryz.prog 35 #[clV ⟨k, so, ad, po, n, s, he, ms⟩] w fun e w' => e = .returned (.bool (if k = 1 then decide (n = 6 ∨ n = 17) else if k = 12 then Pa.nameOk s.data.toList else decide (s.size ≤ 2100))) ∧ Below w.heap.size w w' := by
  obtain ⟨d, hd⟩ : ∃ d, d = Pa.needC ⟨k, so, ad, po, n, s, he, ms⟩ := ⟨_, rfl⟩
  rw [← hd] at h2
  have hnd := fun (u : World) => needs_any ⟨k, so, ad, po, n, s, he, ms⟩ u
  rw [← hd] at hnd
  clear hd
  obtain ⟨d1, d2, d3, d4, d5, d6, d7, d8⟩ := d
  have hq := neqCall k d1 so d2 ad d3 po d4 n d5 he d7 ms d8 s d6
  rw [h2] at hq
  have w1 := fun (u : World) => refWithin_any k 1 13 u
  rw [h1] at w1
  have w3 := fun (u : World) => refWithin_any so 0 1000000 u
  rw [h3] at w3
  have w4 := fun (u : World) => refWithin_any n 0 1000000 u
  rw [h4] at w4
  have w5 := fun (u : World) => refWithin_any po 0 65535 u
  rw [h5] at w5
  have w6 := fun (u : World) => refValid_any ad u
  rw [h6] at w6
  clear h1 h2 h3 h4 h5 h6
  unfold clV at hnd ⊢
  go_enter Tryz.func35, Tryz.ntmps35
  go_wp2_with fail
  refine wp_region_below (by kernel_rfl) (by kernel_rfl) ?_
  intro W hW
  have hsz : w.heap.size < W.heap.size := by rw [hW]; simp
  have hBW : Below w.heap.size w W := by rw [hW]; exact (Below.refl _ _).alloc (Nat.le_refl _) _
  have c0 : ∀ x : Lat (Below W.heap.size W), x.u.cell? ⟨w.heap.size, 0, none⟩ = some (.int .i64 k) := fun x => x.cell hsz (by rw [hW]; simp)
  have c1 : ∀ x : Lat (Below W.heap.size W), x.u.cell? ⟨w.heap.size, 1, none⟩ = some (.int .i64 so) := fun x => x.cell hsz (by rw [hW]; simp)
  have c2 : ∀ x : Lat (Below W.heap.size W), x.u.cell? ⟨w.heap.size, 2, none⟩ = some (.int .i64 ad) := fun x => x.cell hsz (by rw [hW]; simp)
  have c3 : ∀ x : Lat (Below W.heap.size W), x.u.cell? ⟨w.heap.size, 3, none⟩ = some (.int .i64 po) := fun x => x.cell hsz (by rw [hW]; simp)
  have c4 : ∀ x : Lat (Below W.heap.size W), x.u.cell? ⟨w.heap.size, 4, none⟩ = some (.int .i64 n) := fun x => x.cell hsz (by rw [hW]; simp)
  have c5 : ∀ x : Lat (Below W.heap.size W), x.u.cell? ⟨w.heap.size, 5, none⟩ = some (.string s) := fun x => x.cell hsz (by rw [hW]; simp)
  have c6 : ∀ x : Lat (Below W.heap.size W), x.u.cell? ⟨w.heap.size, 6, none⟩ = some (.int .i64 he) := fun x => x.cell hsz (by rw [hW]; simp)
  have c7 : ∀ x : Lat (Below W.heap.size W), x.u.cell? ⟨w.heap.size, 7, none⟩ = some (.int .i64 ms) := fun x => x.cell hsz (by rw [hW]; simp)
  clear hW
  repeat (go_big_quiet_step (first | (go_at_call 34; first | with_reducible exact Calls.same (w1 _) | with_reducible exact Calls.same (w3 _) | with_reducible exact Calls.same (w4 _) | with_reducible exact Calls.same (w5 _)) | (go_at_call 53; with_reducible exact Calls.below (hnd _)) | (go_at_call 54; with_reducible exact Calls.same (w6 _))))
  refine wpQuiet_nil ?_
  rintro u ⟨x, hx⟩
  have hu : Below W.heap.size W u := by rw [hx]; exact x.h
  have g0 := c0 x
  have g4 := c4 x
  have g5 := c5 x
  rw [← hx] at g0 g4 g5
  have hbu := below_on hBW hu
  clear hx c0 c1 c2 c3 c4 c5 c6 c7 hnd
  by_cases e1 : k = 1
  · subst e1
    go_wp2
    all_goals
      go_ret
      exact ⟨ret_bool (by by_cases h6 : n = 6 <;> by_cases h17 : n = 17 <;> simp_all), hbu⟩
  · have t1 : (k == 1) = false := by rw [beq_eq_false_iff_ne]; exact e1
    have E1 := Lib.hid e1; clear e1
    by_cases e2 : k = 12
    · subst e2
      go_wp2_with (go_at_call 55; refine (refName_any s _).mono ?_; rintro e u2 ⟨rfl, hb2⟩)
      go_ret
      exact ⟨rfl, below_on hbu hb2⟩
    · have t2 : (k == 12) = false := by rw [beq_eq_false_iff_ne]; exact e2
      have E2 := Lib.hid e2; clear e2
      go_wp2
      go_ret
      refine ⟨ret_bool ?_, hbu⟩
      by_cases h : s.size ≤ 2100
      · rw [decide_eq_true h, decide_eq_true (by omega)]
      · rw [decide_eq_false h, decide_eq_false (by omega)]

theorem refCall_any (c : Pa.Cl) (w : World) : Calls Tryz.prog 35 #[clV c] w fun e w' => e = .returned (.bool (Pa.okC c)) ∧ Below w.heap.size w w' := by
  have hok := Pa.okC_six c
  obtain ⟨k, so, ad, po, n, s, he, ms⟩ := c
  rw [hok]
  simp only
  clear hok
  cases h1 : Pa.inR k 1 13 with
  | false => exact refCall_0 k so ad po n he ms s w  h1
  | true =>
  rw [Bool.true_and]
  cases h2 : decide (⟨k, so, ad, po, n, s, he, ms⟩ = Pa.needC ⟨k, so, ad, po, n, s, he, ms⟩) with
  | false => exact refCall_1 k so ad po n he ms s w h1 h2
  | true =>
  rw [Bool.true_and]
  cases h3 : Pa.inR so 0 1000000 with
  | false => exact refCall_2 k so ad po n he ms s w h1 h2 h3
  | true =>
  rw [Bool.true_and]
  cases h4 : Pa.inR n 0 1000000 with
  | false => exact refCall_3 k so ad po n he ms s w h1 h2 h3 h4
  | true =>
  rw [Bool.true_and]
  cases h5 : Pa.inR po 0 65535 with
  | false => exact refCall_4 k so ad po n he ms s w h1 h2 h3 h4 h5
  | true =>
  rw [Bool.true_and]
  cases h6 : Pa.validB ad with
  | false => exact refCall_5 k so ad po n he ms s w h1 h2 h3 h4 h5 h6
  | true =>
  rw [Bool.true_and]
  exact refCall_6 k so ad po n he ms s w h1 h2 h3 h4 h5 h6

/-- The document's Valid for an action of a known kind. -/
theorem Pa.okA_1 (hh n : Int) (c : Pa.Cl) (fs : List Int) (s : ByteArray) : Pa.okA ⟨1, hh, c, n, fs, s⟩ = (decide ((⟨1, hh, c, n, fs, s⟩ : Pa.Ac) = ⟨1, hh, c, 0, [], ⟨#[]⟩⟩) && (Pa.inR hh 0 7 && Pa.okC c)) := by
  simp [Pa.okA, Pa.needA, Pa.a0, Pa.inR]
theorem Pa.okA_2 (hh n : Int) (c : Pa.Cl) (fs : List Int) (s : ByteArray) : Pa.okA ⟨2, hh, c, n, fs, s⟩ = (decide ((⟨2, hh, c, n, fs, s⟩ : Pa.Ac) = ⟨2, 0, Pa.c0, n, [], ⟨#[]⟩⟩) && Pa.inR n 1 500) := by
  simp [Pa.okA, Pa.needA, Pa.a0, Pa.inR]
theorem Pa.okA_3 (hh n : Int) (c : Pa.Cl) (fs : List Int) (s : ByteArray) : Pa.okA ⟨3, hh, c, n, fs, s⟩ = (decide ((⟨3, hh, c, n, [], s⟩ : Pa.Ac) = ⟨3, 0, Pa.c0, 0, [], ⟨#[]⟩⟩) && Pa.okF fs) := by
  simp [Pa.okA, Pa.needA, Pa.a0, Pa.inR]
theorem Pa.okA_4 (hh n : Int) (c : Pa.Cl) (fs : List Int) (s : ByteArray) : Pa.okA ⟨4, hh, c, n, fs, s⟩ = (decide ((⟨4, hh, c, n, fs, s⟩ : Pa.Ac) = ⟨4, 0, Pa.c0, n, [], s⟩) && (Pa.inR n 0 7 && decide (s.size ≤ 1100))) := by
  simp [Pa.okA, Pa.needA, Pa.a0, Pa.inR]

end Go.Proofs.YtgajoiijebbagaaGreatDoor
