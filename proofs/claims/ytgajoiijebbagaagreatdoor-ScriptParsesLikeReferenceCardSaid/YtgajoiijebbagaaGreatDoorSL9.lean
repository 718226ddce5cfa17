/-
  The walk of the statement ScriptParsesLikeReference: it returns true for every input, and what was there is unchanged. Conditions: the library's variables read as laid, the raw actions and the numbers lie in memory.
-/
import Derived.Test.YtgajoiijebbagaaGreatDoorRj
import Derived.Test.YtgajoiijebbagaaGreatDoorSL10
import Derived.BigRegion
namespace Go.Proofs.YtgajoiijebbagaaGreatDoor
open Go.RowKit Go.Proofs

def someL : List Pa.Bs := [[116, 105, 99, 107, 32, 49, 10], [116, 105, 99, 107, 32, 48, 10], [116, 105, 99, 107, 32, 53, 48, 49, 10], [102, 97, 116, 101, 115, 10], [102, 97, 116, 101, 115, 32, 50, 52, 32, 50, 53, 10], [102, 114, 97, 109, 101, 32, 55, 32, 45, 10], [102, 114, 97, 109, 101, 32, 56, 32, 45, 10], [102, 114, 97, 109, 101, 32, 48, 32, 48, 10], [102, 114, 97, 109, 101, 32, 48, 32, 48, 65, 10], [99, 97, 108, 108, 32, 48, 32, 115, 111, 99, 107, 101, 116, 32, 116, 99, 112, 10], [99, 97, 108, 108, 32, 48, 32, 115, 111, 99, 107, 101, 116, 32, 105, 99, 109, 112, 10], [99, 97, 108, 108, 32, 56, 32, 97, 99, 99, 101, 112, 116, 32, 49, 10], [99, 97, 108, 108, 32, 55, 32, 98, 105, 110, 100, 32, 48, 32, 54, 53, 53, 51, 54, 10], [99, 97, 108, 108, 32, 48, 32, 99, 111, 110, 110, 101, 99, 116, 32, 49, 32, 49, 48, 46, 48, 46, 48, 46, 49, 32, 56, 48, 10], [99, 97, 108, 108, 32, 48, 32, 99, 111, 110, 110, 101, 99, 116, 32, 49, 32, 49, 48, 46, 48, 46, 49, 32, 56, 48, 10], [99, 97, 108, 108, 32, 48, 32, 115, 101, 110, 100, 32, 49, 10], [99, 97, 108, 108, 32, 48, 32, 110, 97, 109, 101, 32, 97, 46, 46, 98, 10], [99, 97, 108, 108, 32, 48, 32, 112, 105, 110, 103, 32, 49, 46, 50, 46, 51, 46, 52, 10], [99, 97, 108, 108, 32, 48, 10], [10], [99, 97, 108, 108, 32, 48, 32, 119, 104, 97, 116, 32, 49, 10], [99, 97, 108, 108, 32, 48, 32, 115, 104, 117, 116, 32, 49, 32, 50, 10]]
def someC : Array Value := (someL.map fun t => Value.string ⟨t.toArray⟩).toArray
theorem some_len : someL.length = 22 := rfl
theorem some_small : ∀ t ∈ someL, t.length ≤ 40 := by decide
theorem some_at (w : World) (k : Int) (h0 : 0 ≤ k) (h1 : k < 22) : ∃ x : ByteArray, x.size ≤ 40 ∧ (w.alloc (.cells someC 9)).cell? ⟨w.heap.size, k.toNat, none⟩ = some (.string x) := by
  have hk : k.toNat < someL.length := by rw [some_len]; omega
  refine ⟨⟨someL[k.toNat].toArray⟩, ?_, ?_⟩
  · rw [mk_size]; exact some_small _ (List.getElem_mem hk)
  · rw [World.cell?_alloc_at _ _ _ _ rfl]
    simp [someC, List.getElem?_eq_getElem hk]

/-- What the document's Print gives for a generated script. -/
theorem refPrint_gen (l : List Pa.Rw) (v : Value) (w : World) (hv : Acts w v (Pa.scriptOf l)) :
    Calls Tryz.prog 13 #[v] w fun e w' => e = .returned (.tuple #[.string ⟨(Pa.textA (Pa.scriptOf l)).toArray⟩, .int .i64 0]) ∧ Below w.heap.size w w' := by
  have h := refPrint_any (Pa.scriptOf l) v w hv (Nat.le_trans (Pa.scriptOf_len l) (by omega))
  unfold POut at h
  rw [(Pa.print_script l).1, (Pa.print_script l).2] at h
  exact h

theorem nine_at (u : World) (l : List ByteArray) (hl : ∀ x ∈ l, x.size ≤ 1000000) (j : Nat) (h : j < l.length) : ∃ U : ByteArray, U.size ≤ 1000000 ∧ (u.alloc (.cells (l.map Value.string).toArray 9)).cell? ⟨u.heap.size, j, none⟩ = some (.string U) := by
  refine ⟨l[j], hl _ (List.getElem_mem h), ?_⟩
  rw [World.cell?_alloc_at _ _ _ _ rfl]
  simp [List.getElem?_eq_getElem h]

/-- What the first loop leaves: some text. -/
def Cut9 (W : World) (s16 : Value) (wx : World) : Prop := ∃ P : ByteArray, s16 = .string P ∧ P.size ≤ 480 ∧ Below W.heap.size W wx

set_option linter.unusedSimpArgs false in
set_option maxRecDepth 100000 in
set_option maxHeartbeats 4000000 in
theorem law9 (l : List Pa.Rw) (v : Value) (pos : Int) (sgn : Int) (xs : List Int) (u : Value) (s : ByteArray) (w : World) (ok : Ok w) (hv : Raws w v l) (h0 : -9223372036854775808 ≤ pos) (h1 : pos ≤ 9223372036854775807) (_ : 0 ≤ sgn) (_ : sgn ≤ 255)
    (hu : Fs w u xs) (_ : xs.length ≤ 9223372036854775807) (hxn : ∀ f ∈ xs, -9223372036854775808 ≤ f ∧ f ≤ 9223372036854775807) (hs : s.size ≤ 9223372036854775807) :
    Calls Tryz.prog 4 #[v, .int .i64 pos, .int .u8 sgn, u, .string s] w fun e w' => e = .returned (.bool true) ∧ Below w.heap.size w w' := by
  obtain ⟨few, hfew⟩ : ∃ few, s.extract 0 (min (s.size : Int) 200).toNat = few := ⟨_, rfl⟩
  have hfl : few.size ≤ 200 := by rw [← hfew]; simp; omega
  have hsc := script_any l v
  have hp1 := refPrint_gen l
  have hta := Pa.script_len l
  obtain ⟨A, hA⟩ : ∃ A, A = Pa.scriptOf l := ⟨_, rfl⟩
  rw [← hA] at hsc hp1 hta
  clear hA
  obtain ⟨t, ht⟩ : ∃ t : ByteArray, t = ⟨(Pa.textA A).toArray⟩ := ⟨_, rfl⟩
  have hts : t.size ≤ 160020 := by rw [ht, mk_size]; exact hta
  rw [← ht] at hp1
  clear ht hta
  have hpi := Pa.pick_in pos (n := (t.size : Int) + 1) (by omega)
  obtain ⟨k, hk⟩ : ∃ k : Nat, Pa.pickI pos ((t.size : Int) + 1) = (k : Int) := ⟨(Pa.pickI pos ((t.size : Int) + 1)).toNat, by omega⟩
  have hpk := fun W => pick27_any pos ((t.size : Int) + 1) W h0 h1 (by omega) (by omega)
  rw [hk] at hpk hpi
  have p0 : (0 : Int) ≤ (k : Int) := by omega
  have p1 : (k : Int) ≤ (t.size : Int) := by omega
  have r1 : IntKind.i64.wrap ((k : Int) + 1) = (k : Int) + 1 := IntWalk.i64_in _ (by omega)
  have r2 : wrap64 ((k : Int) + 1) = (k : Int) + 1 := by unfold wrap64; omega
  obtain ⟨M, hM⟩ : ∃ M : Nat, min ((k : Int) + 1) (t.size : Int) = (M : Int) := ⟨min (k + 1) t.size, by omega⟩
  have M0 : (0 : Int) ≤ (M : Int) := by omega
  have M1 : (M : Int) ≤ (t.size : Int) := by omega
  obtain ⟨T1, hT1⟩ : ∃ T1, t.extract 0 k = T1 := ⟨_, rfl⟩
  obtain ⟨T2, hT2⟩ : ∃ T2, t.extract k t.size = T2 := ⟨_, rfl⟩
  obtain ⟨T3, hT3⟩ : ∃ T3, t.extract M t.size = T3 := ⟨_, rfl⟩
  have s1 : T1.size ≤ 160020 := by rw [← hT1]; simp; omega
  have s2 : T2.size ≤ 160020 := by rw [← hT2]; simp; omega
  have s3 : T3.size ≤ 160020 := by rw [← hT3]; simp; omega
  have n1 : ¬ 9223372036854775807 < T1.size + 1 := by omega
  have n2 : ¬ 9223372036854775807 < T1.size + 1 + T2.size := by omega
  have n3 : ¬ 9223372036854775807 < T1.size + 1 + T3.size := by omega
  have n4 : ¬ 9223372036854775807 < T1.size + T3.size := by omega
  have HV := Lib.hid hv; have HU := Lib.hid hu; have HXN := Lib.hid hxn
  obtain ⟨va, vc, fv0, rfl, -⟩ := hv
  obtain ⟨ua, uc, rfl, -⟩ := hu
  clear hxn hk hpi
  go_enter Tryz.func4, Tryz.ntmps4
  go_wp2_with fail
  refine (examples_any w ok).mono ?_
  rintro e w1 ⟨rfl, hb1⟩
  go_wp2_with fail
  refine (hsc w1 (HV.out.below hb1)).mono ?_
  rintro e w2 ⟨r1, rfl, hA2, hb2⟩
  have hB2 := below_on hb1 hb2
  have hp2 := hp1 _ w2 hA2
  obtain ⟨a1, c1, fv1, rfl, hc1, -⟩ := hA2
  go_wp2_with fail
  refine hp2.mono ?_
  rintro e w3 ⟨rfl, hb3⟩
  have hB3 := below_on hB2 hb3
  clear hp1 hp2 hsc hb1 hb2 hb3 hB2
  go_wp2_with fail
  refine (hpk w3).mono ?_
  rintro e w4 ⟨rfl, rfl⟩
  have hcv := conv1 w3 sgn
  clear hpk
  obtain ⟨sg, hsg⟩ : ∃ sg : ByteArray, sg = ⟨#[UInt8.ofNat sgn.toNat]⟩ := ⟨_, rfl⟩
  have hsgs : sg.size = 1 := by rw [hsg]; rfl
  rw [← hsg] at hcv
  clear hsg
  go_upto_region 8 with fail
  have hB4 : Below w.heap.size w (w3.alloc (.cells #[.int .u8 sgn] 5)) := hB3.alloc hB3.size _
  obtain ⟨w5, hw5⟩ : ∃ w5 : World, w5 = w3.alloc (.cells #[.int .u8 sgn] 5) := ⟨_, rfl⟩
  rw [← hw5] at hB4 ⊢
  clear hw5 hcv hB3
  go_upto_block 0 with fail
  go_cut [16] (fun s16 wx => Cut9 w5 s16 wx)
  case first =>
    go_wp2_with fail
    go_loopw [16, 18] (fun pv iv wr => ∃ (i : Nat) (P : ByteArray), iv = .int .i64 i ∧ i ≤ 12 ∧ pv = .string P ∧ P.size ≤ 40 * i ∧ Hid (∀ k : Int, 0 ≤ k → k < 22 → ∃ x : ByteArray, x.size ≤ 40 ∧ wr.cell? ⟨w5.heap.size, k.toNat, none⟩ = some (.string x)) ∧ w5.heap.size < wr.heap.size ∧ Below w5.heap.size w5 wr) (fun _ iv _ => 12 - (intOf iv).toNat)
    case atStart => exact ⟨0, ⟨#[]⟩, rfl, by omega, rfl, by decide, fun k k0 k1 => some_at w5 k k0 k1, by simp, (Below.refl _ _).alloc (Nat.le_refl _) _⟩
    case round =>
      obtain ⟨i, P, rfl, hi, rfl, hP, HC, hlt, hb⟩ := hrel
      by_cases hx : i < xs.length
      · have f1 : (i : Int) < (xs.length : Int) := by omega
        by_cases h12 : i < 12
        · have f2 : (i : Int) < 12 := by omega
          obtain ⟨ua', uc', he, hcs⟩ := (HU.out.below hB4).below hb
          cases he
          obtain ⟨b, o, rfl, hbl, hcell⟩ := hcs (fun e => by simp [e] at hx)
          have hc := hcell i hx
          have hxi := HXN.out _ (List.getElem_mem hx)
          obtain ⟨x, hxx⟩ : ∃ x, x = xs[i] := ⟨_, rfl⟩
          rw [← hxx] at hc hxi
          have hpk := pick27_any x 22 wr hxi.1 hxi.2 (by decide) (by decide)
          have hpi := Pa.pick_in x (n := 22) (by decide)
          obtain ⟨y, hy, hyc⟩ := HC.out _ hpi.1 hpi.2
          obtain ⟨q, hq⟩ : ∃ q, q = Pa.pickI x 22 := ⟨_, rfl⟩
          rw [← hq] at hpk hpi hyc
          have q0 := hpi.1
          have q1 := hpi.2
          have i0 : (0 : Int) ≤ (i : Int) := by omega
          clear hcs hcell hxx hq hpi hxi
          go_wp2_with (go_at_call 11; refine hpk.mono ?_; rintro e w' ⟨rfl, rfl⟩)
          go_roundw
          case rel => exact ⟨i + 1, P ++ y, by go_num, by omega, rfl, by rw [ByteArray.size_append]; omega, HC.out, hlt, hb⟩
          case measure => simp [intOf]; omega
        · have f2 : ¬ (i : Int) < 12 := by omega
          go_wp2_with fail
          go_meet
          exact ⟨P, rfl, by omega, hb⟩
      · have f1 : ¬ (i : Int) < (xs.length : Int) := by omega
        go_wp2_with fail
        go_meet
        exact ⟨P, rfl, by omega, hb⟩
  case rest =>
  obtain ⟨Wx, rfl⟩ : ∃ Wx, Wx = wc := ⟨wc, rfl⟩
  obtain ⟨P, rfl, hP, hbx⟩ := hcut
  have hBx := below_on hB4 hbx
  clear hbx hB4
  go_upto_region 14 with fail
  have HLL : Hid (∀ x ∈ [t, T1 ++ sg ++ T2, T1 ++ sg ++ T3, T1 ++ T3, T1, P, t ++ P, few, P ++ few], x.size ≤ 1000000) := by
    intro x hx
    simp only [List.mem_cons, List.not_mem_nil, or_false] at hx
    rcases hx with rfl | rfl | rfl | rfl | rfl | rfl | rfl | rfl | rfl
    all_goals (try simp only [ByteArray.size_append]); omega
  have n5 : ¬ 9223372036854775807 < t.size + P.size := by omega
  have n6 : ¬ 9223372036854775807 < P.size + few.size := by omega
  clear HV HU HXN
  refine wp_region_G (fun _ => True) 45 (by kernel_rfl) ?_
  have hBd : Below w.heap.size w Wx.drew := below_on hBx (Below.refl _ _).drew
  generalize Wx.drew = u at *
  refine anyG_pure (i := 0) (oi := ⟨some 73, _, _, _, _, _⟩) (v := ?_) rfl (by kernel_rfl) (fun _ _ _ h => h) (Or.inl ⟨by rfl, ?yld⟩) (fun _ => trivial) ?_
  case yld => intro w' _; go_simp; try (with_reducible rfl)
  try simp only [Act.put, List.setIfInBounds_toArray, List.set_cons_zero, List.set_cons_succ]
  refine anyG_pure (i := 1) (oi := ⟨some 74, _, _, _, _, _⟩) (v := ?_) rfl (by kernel_rfl) (fun _ _ _ h => h) (Or.inl ⟨by rfl, ?yld⟩) (fun _ => trivial) ?_
  case yld => intro w' _; go_simp; try (with_reducible rfl)
  try simp only [Act.put, List.setIfInBounds_toArray, List.set_cons_zero, List.set_cons_succ]
  refine anyG_pure (i := 2) (oi := ⟨some 75, _, _, _, _, _⟩) (v := ?_) rfl (by kernel_rfl) (fun _ _ _ h => h) (Or.inl ⟨by rfl, ?yld⟩) (fun _ => trivial) ?_
  case yld => intro w' _; go_simp; try (with_reducible rfl)
  try simp only [Act.put, List.setIfInBounds_toArray, List.set_cons_zero, List.set_cons_succ]
  refine anyG_pure (i := 3) (oi := ⟨some 76, _, _, _, _, _⟩) (v := ?_) rfl (by kernel_rfl) (fun _ _ _ h => h) (Or.inl ⟨by rfl, ?yld⟩) (fun _ => trivial) ?_
  case yld => intro w' _; go_simp; try (with_reducible rfl)
  try simp only [Act.put, List.setIfInBounds_toArray, List.set_cons_zero, List.set_cons_succ]
  refine anyG_pure (i := 4) (oi := ⟨some 77, _, _, _, _, _⟩) (v := ?_) rfl (by kernel_rfl) (fun _ _ _ h => h) (Or.inl ⟨by rfl, ?yld⟩) (fun _ => trivial) ?_
  case yld => intro w' _; go_simp; try (with_reducible rfl)
  try simp only [Act.put, List.setIfInBounds_toArray, List.set_cons_zero, List.set_cons_succ]
  refine anyG_pure (i := 5) (oi := ⟨some 78, _, _, _, _, _⟩) (v := ?_) rfl (by kernel_rfl) (fun _ _ _ h => h) (Or.inl ⟨by rfl, ?yld⟩) (fun _ => trivial) ?_
  case yld => intro w' _; go_simp; try (with_reducible rfl)
  try simp only [Act.put, List.setIfInBounds_toArray, List.set_cons_zero, List.set_cons_succ]
  refine anyG_pure (i := 6) (oi := ⟨some 79, _, _, _, _, _⟩) (v := ?_) rfl (by kernel_rfl) (fun _ _ _ h => h) (Or.inl ⟨by rfl, ?yld⟩) (fun _ => trivial) ?_
  case yld => intro w' _; go_simp; try (with_reducible rfl)
  try simp only [Act.put, List.setIfInBounds_toArray, List.set_cons_zero, List.set_cons_succ]
  refine anyG_pure (i := 7) (oi := ⟨some 80, _, _, _, _, _⟩) (v := ?_) rfl (by kernel_rfl) (fun _ _ _ h => h) (Or.inl ⟨by rfl, ?yld⟩) (fun _ => trivial) ?_
  case yld => intro w' _; go_simp; try (with_reducible rfl)
  try simp only [Act.put, List.setIfInBounds_toArray, List.set_cons_zero, List.set_cons_succ]
  refine anyG_pure (i := 8) (oi := ⟨some 81, _, _, _, _, _⟩) (v := ?_) rfl (by kernel_rfl) (fun _ _ _ h => h) (Or.inl ⟨by rfl, ?yld⟩) (fun _ => trivial) ?_
  case yld => intro w' _; go_simp; try (with_reducible rfl)
  try simp only [Act.put, List.setIfInBounds_toArray, List.set_cons_zero, List.set_cons_succ]
  refine anyG_pure (i := 9) (oi := ⟨some 82, _, _, _, _, _⟩) (v := ?_) rfl (by kernel_rfl) (fun _ _ _ h => h) (Or.inl ⟨by rfl, ?yld⟩) (fun _ => trivial) ?_
  case yld => intro w' _; go_simp; try (with_reducible rfl)
  try simp only [Act.put, List.setIfInBounds_toArray, List.set_cons_zero, List.set_cons_succ]
  refine anyG_pure (i := 10) (oi := ⟨some 83, _, _, _, _, _⟩) (v := ?_) rfl (by kernel_rfl) (fun _ _ _ h => h) (Or.inl ⟨by rfl, ?yld⟩) (fun _ => trivial) ?_
  case yld => intro w' _; go_simp; try (with_reducible rfl)
  try simp only [Act.put, List.setIfInBounds_toArray, List.set_cons_zero, List.set_cons_succ]
  refine anyG_pure (i := 11) (oi := ⟨some 84, _, _, _, _, _⟩) (v := ?_) rfl (by kernel_rfl) (fun _ _ _ h => h) (Or.inl ⟨by rfl, ?yld⟩) (fun _ => trivial) ?_
  case yld => intro w' _; go_simp; try (with_reducible rfl)
  try simp only [Act.put, List.setIfInBounds_toArray, List.set_cons_zero, List.set_cons_succ]
  refine anyG_pure (i := 12) (oi := ⟨some 85, _, _, _, _, _⟩) (v := ?_) rfl (by kernel_rfl) (fun _ _ _ h => h) (Or.inl ⟨by rfl, ?yld⟩) (fun _ => trivial) ?_
  case yld => intro w' _; go_simp; try (with_reducible rfl)
  try simp only [Act.put, List.setIfInBounds_toArray, List.set_cons_zero, List.set_cons_succ]
  refine anyG_pure (i := 13) (oi := ⟨some 86, _, _, _, _, _⟩) (v := ?_) rfl (by kernel_rfl) (fun _ _ _ h => h) (Or.inl ⟨by rfl, ?yld⟩) (fun _ => trivial) ?_
  case yld => intro w' _; go_simp; try (with_reducible rfl)
  try simp only [Act.put, List.setIfInBounds_toArray, List.set_cons_zero, List.set_cons_succ]
  refine anyG_pure (i := 14) (oi := ⟨some 87, _, _, _, _, _⟩) (v := ?_) rfl (by kernel_rfl) (fun _ _ _ h => h) (Or.inl ⟨by rfl, ?yld⟩) (fun _ => trivial) ?_
  case yld => intro w' _; go_simp; try (with_reducible rfl)
  try simp only [Act.put, List.setIfInBounds_toArray, List.set_cons_zero, List.set_cons_succ]
  refine anyG_pure (i := 15) (oi := ⟨some 88, _, _, _, _, _⟩) (v := ?_) rfl (by kernel_rfl) (fun _ _ _ h => h) (Or.inl ⟨by rfl, ?yld⟩) (fun _ => trivial) ?_
  case yld => intro w' _; go_simp; try (with_reducible rfl)
  try simp only [Act.put, List.setIfInBounds_toArray, List.set_cons_zero, List.set_cons_succ]
  refine anyG_pure (i := 16) (oi := ⟨some 89, _, _, _, _, _⟩) (v := ?_) rfl (by kernel_rfl) (fun _ _ _ h => h) (Or.inl ⟨by rfl, ?yld⟩) (fun _ => trivial) ?_
  case yld => intro w' _; go_simp; try (with_reducible rfl)
  try simp only [Act.put, List.setIfInBounds_toArray, List.set_cons_zero, List.set_cons_succ]
  refine anyG_pure (i := 17) (oi := ⟨some 90, _, _, _, _, _⟩) (v := ?_) rfl (by kernel_rfl) (fun _ _ _ h => h) (Or.inl ⟨by rfl, ?yld⟩) (fun _ => trivial) ?_
  case yld => intro w' _; go_simp; try (with_reducible rfl)
  try simp only [Act.put, List.setIfInBounds_toArray, List.set_cons_zero, List.set_cons_succ]
  refine anyG_pure (i := 18) (oi := ⟨some 91, _, _, _, _, _⟩) (v := ?_) rfl (by kernel_rfl) (fun _ _ _ h => h) (Or.inl ⟨by rfl, ?yld⟩) (fun _ => trivial) ?_
  case yld => intro w' _; go_simp; try (with_reducible rfl)
  try simp only [Act.put, List.setIfInBounds_toArray, List.set_cons_zero, List.set_cons_succ]
  refine anyG_pure (i := 19) (oi := ⟨some 92, _, _, _, _, _⟩) (v := ?_) rfl (by kernel_rfl) (fun _ _ _ h => h) (Or.inl ⟨by rfl, ?yld⟩) (fun _ => trivial) ?_
  case yld => intro w' _; go_simp; try (with_reducible rfl)
  try simp only [Act.put, List.setIfInBounds_toArray, List.set_cons_zero, List.set_cons_succ]
  refine anyG_pure (i := 20) (oi := ⟨some 93, _, _, _, _, _⟩) (v := ?_) rfl (by kernel_rfl) (fun _ _ _ h => h) (Or.inl ⟨by rfl, ?yld⟩) (fun _ => trivial) ?_
  case yld => intro w' _; go_simp; try (with_reducible rfl)
  try simp only [Act.put, List.setIfInBounds_toArray, List.set_cons_zero, List.set_cons_succ]
  refine anyG_pure (i := 21) (oi := ⟨some 94, _, _, _, _, _⟩) (v := ?_) rfl (by kernel_rfl) (fun _ _ _ h => h) (Or.inl ⟨by rfl, ?yld⟩) (fun _ => trivial) ?_
  case yld => intro w' _; go_simp; try (with_reducible rfl)
  try simp only [Act.put, List.setIfInBounds_toArray, List.set_cons_zero, List.set_cons_succ]
  refine anyG_pure (i := 22) (oi := ⟨some 95, _, _, _, _, _⟩) (v := ?_) rfl (by kernel_rfl) (fun _ _ _ h => h) (Or.inl ⟨by rfl, ?yld⟩) (fun _ => trivial) ?_
  case yld => intro w' _; go_simp; try (with_reducible rfl)
  try simp only [Act.put, List.setIfInBounds_toArray, List.set_cons_zero, List.set_cons_succ]
  refine anyG_pure (i := 23) (oi := ⟨some 96, _, _, _, _, _⟩) (v := ?_) rfl (by kernel_rfl) (fun _ _ _ h => h) (Or.inl ⟨by rfl, ?yld⟩) (fun _ => trivial) ?_
  case yld => intro w' _; go_simp; try (with_reducible rfl)
  try simp only [Act.put, List.setIfInBounds_toArray, List.set_cons_zero, List.set_cons_succ]
  refine anyG_pure (i := 24) (oi := ⟨some 97, _, _, _, _, _⟩) (v := ?_) rfl (by kernel_rfl) (fun _ _ _ h => h) (Or.inl ⟨by rfl, ?yld⟩) (fun _ => trivial) ?_
  case yld => intro w' _; go_simp; try (with_reducible rfl)
  try simp only [Act.put, List.setIfInBounds_toArray, List.set_cons_zero, List.set_cons_succ]
  refine anyG_pure (i := 25) (oi := ⟨some 98, _, _, _, _, _⟩) (v := ?_) rfl (by kernel_rfl) (fun _ _ _ h => h) (Or.inl ⟨by rfl, ?yld⟩) (fun _ => trivial) ?_
  case yld => intro w' _; go_simp; try (with_reducible rfl)
  try simp only [Act.put, List.setIfInBounds_toArray, List.set_cons_zero, List.set_cons_succ]
  refine anyG_pure (i := 26) (oi := ⟨some 99, _, _, _, _, _⟩) (v := ?_) rfl (by kernel_rfl) (fun _ _ _ h => h) (Or.inl ⟨by rfl, ?yld⟩) (fun _ => trivial) ?_
  case yld => intro w' _; go_simp; try (with_reducible rfl)
  try simp only [Act.put, List.setIfInBounds_toArray, List.set_cons_zero, List.set_cons_succ]
  refine anyG_pure (i := 27) (oi := ⟨some 100, _, _, _, _, _⟩) (v := ?_) rfl (by kernel_rfl) (fun _ _ _ h => h) (Or.inl ⟨by rfl, ?yld⟩) (fun _ => trivial) ?_
  case yld => intro w' _; go_simp; try (with_reducible rfl)
  try simp only [Act.put, List.setIfInBounds_toArray, List.set_cons_zero, List.set_cons_succ]
  refine anyG_pure (i := 28) (oi := ⟨some 101, _, _, _, _, _⟩) (v := ?_) rfl (by kernel_rfl) (fun _ _ _ h => h) (Or.inl ⟨by rfl, ?yld⟩) (fun _ => trivial) ?_
  case yld => intro w' _; go_simp; try (with_reducible rfl)
  try simp only [Act.put, List.setIfInBounds_toArray, List.set_cons_zero, List.set_cons_succ]
  refine anyG_pure (i := 29) (oi := ⟨some 102, _, _, _, _, _⟩) (v := ?_) rfl (by kernel_rfl) (fun _ _ _ h => h) (Or.inl ⟨by rfl, ?yld⟩) (fun _ => trivial) ?_
  case yld => intro w' _; go_simp; try (with_reducible rfl)
  try simp only [Act.put, List.setIfInBounds_toArray, List.set_cons_zero, List.set_cons_succ]
  refine anyG_pure (i := 30) (oi := ⟨some 103, _, _, _, _, _⟩) (v := ?_) rfl (by kernel_rfl) (fun _ _ _ h => h) (Or.inl ⟨by rfl, ?yld⟩) (fun _ => trivial) ?_
  case yld => intro w' _; go_simp; try (with_reducible rfl)
  try simp only [Act.put, List.setIfInBounds_toArray, List.set_cons_zero, List.set_cons_succ]
  refine anyG_pure (i := 31) (oi := ⟨some 104, _, _, _, _, _⟩) (v := ?_) rfl (by kernel_rfl) (fun _ _ _ h => h) (Or.inl ⟨by rfl, ?yld⟩) (fun _ => trivial) ?_
  case yld => intro w' _; go_simp; try (with_reducible rfl)
  try simp only [Act.put, List.setIfInBounds_toArray, List.set_cons_zero, List.set_cons_succ]
  refine anyG_pure (i := 32) (oi := ⟨some 105, _, _, _, _, _⟩) (v := ?_) rfl (by kernel_rfl) (fun _ _ _ h => h) (Or.inl ⟨by rfl, ?yld⟩) (fun _ => trivial) ?_
  case yld => intro w' _; go_simp; try (with_reducible rfl)
  try simp only [Act.put, List.setIfInBounds_toArray, List.set_cons_zero, List.set_cons_succ]
  refine anyG_pure (i := 33) (oi := ⟨some 106, _, _, _, _, _⟩) (v := ?_) rfl (by kernel_rfl) (fun _ _ _ h => h) (Or.inl ⟨by rfl, ?yld⟩) (fun _ => trivial) ?_
  case yld => intro w' _; go_simp; try (with_reducible rfl)
  try simp only [Act.put, List.setIfInBounds_toArray, List.set_cons_zero, List.set_cons_succ]
  refine anyG_pure (i := 34) (oi := ⟨some 107, _, _, _, _, _⟩) (v := ?_) rfl (by kernel_rfl) (fun _ _ _ h => h) (Or.inl ⟨by rfl, ?yld⟩) (fun _ => trivial) ?_
  case yld => intro w' _; go_simp; try (with_reducible rfl)
  try simp only [Act.put, List.setIfInBounds_toArray, List.set_cons_zero, List.set_cons_succ]
  refine anyG_pure (i := 35) (oi := ⟨some 108, _, _, _, _, _⟩) (v := ?_) rfl (by kernel_rfl) (fun _ _ _ h => h) (Or.inl ⟨by rfl, ?yld⟩) (fun _ => trivial) ?_
  case yld => intro w' _; go_simp; try (with_reducible rfl)
  try simp only [Act.put, List.setIfInBounds_toArray, List.set_cons_zero, List.set_cons_succ]
  refine anyG_pure (i := 36) (oi := ⟨some 109, _, _, _, _, _⟩) (v := ?_) rfl (by kernel_rfl) (fun _ _ _ h => h) (Or.inl ⟨by rfl, ?yld⟩) (fun _ => trivial) ?_
  case yld => intro w' _; go_simp; try (with_reducible rfl)
  try simp only [Act.put, List.setIfInBounds_toArray, List.set_cons_zero, List.set_cons_succ]
  refine anyG_pure (i := 37) (oi := ⟨some 110, _, _, _, _, _⟩) (v := ?_) rfl (by kernel_rfl) (fun _ _ _ h => h) (Or.inl ⟨by rfl, ?yld⟩) (fun _ => trivial) ?_
  case yld => intro w' _; go_simp; try (with_reducible rfl)
  try simp only [Act.put, List.setIfInBounds_toArray, List.set_cons_zero, List.set_cons_succ]
  refine anyG_pure (i := 38) (oi := ⟨some 111, _, _, _, _, _⟩) (v := ?_) rfl (by kernel_rfl) (fun _ _ _ h => h) (Or.inl ⟨by rfl, ?yld⟩) (fun _ => trivial) ?_
  case yld => intro w' _; go_simp; try (with_reducible rfl)
  try simp only [Act.put, List.setIfInBounds_toArray, List.set_cons_zero, List.set_cons_succ]
  refine anyG_pure (i := 39) (oi := ⟨some 112, _, _, _, _, _⟩) (v := ?_) rfl (by kernel_rfl) (fun _ _ _ h => h) (Or.inl ⟨by rfl, ?yld⟩) (fun _ => trivial) ?_
  case yld => intro w' _; go_simp; try (with_reducible rfl)
  try simp only [Act.put, List.setIfInBounds_toArray, List.set_cons_zero, List.set_cons_succ]
  refine anyG_pure (i := 40) (oi := ⟨some 113, _, _, _, _, _⟩) (v := ?_) rfl (by kernel_rfl) (fun _ _ _ h => h) (Or.inl ⟨by rfl, ?yld⟩) (fun _ => trivial) ?_
  case yld => intro w' _; go_simp; try (with_reducible rfl)
  try simp only [Act.put, List.setIfInBounds_toArray, List.set_cons_zero, List.set_cons_succ]
  refine anyG_pure (i := 41) (oi := ⟨some 114, _, _, _, _, _⟩) (v := ?_) rfl (by kernel_rfl) (fun _ _ _ h => h) (Or.inl ⟨by rfl, ?yld⟩) (fun _ => trivial) ?_
  case yld => intro w' _; go_simp; try (with_reducible rfl)
  try simp only [Act.put, List.setIfInBounds_toArray, List.set_cons_zero, List.set_cons_succ]
  refine anyG_pure (i := 42) (oi := ⟨some 115, _, _, _, _, _⟩) (v := ?_) rfl (by kernel_rfl) (fun _ _ _ h => h) (Or.inl ⟨by rfl, ?yld⟩) (fun _ => trivial) ?_
  case yld => intro w' _; go_simp; try (with_reducible rfl)
  try simp only [Act.put, List.setIfInBounds_toArray, List.set_cons_zero, List.set_cons_succ]
  refine anyG_pure (i := 43) (oi := ⟨some 116, _, _, _, _, _⟩) (v := ?_) rfl (by kernel_rfl) (fun _ _ _ h => h) (Or.inl ⟨by rfl, ?yld⟩) (fun _ => trivial) ?_
  case yld => intro w' _; go_simp; try (with_reducible rfl)
  try simp only [Act.put, List.setIfInBounds_toArray, List.set_cons_zero, List.set_cons_succ]
  refine anyG_pure (i := 44) (oi := ⟨some 117, _, _, _, _, _⟩) (v := ?_) rfl (by kernel_rfl) (fun _ _ _ h => h) (Or.inl ⟨by rfl, ?yld⟩) (fun _ => trivial) ?_
  case yld => intro w' _; go_simp; try (with_reducible rfl)
  try simp only [Act.put, List.setIfInBounds_toArray, List.set_cons_zero, List.set_cons_succ]
  refine anyG_pure (i := 47) (oi := ⟨some 120, _, _, _, _, _⟩) (v := ?_) rfl (by kernel_rfl) (fun _ _ _ h => h) (Or.inl ⟨by rfl, ?yld⟩) (fun _ => trivial) ?_
  case yld => intro w' _; go_simp; try (with_reducible rfl)
  try simp only [Act.put, List.setIfInBounds_toArray, List.set_cons_zero, List.set_cons_succ]
  refine anyG_one (i := 45) (o := ⟨some 118, _, _, _, _, _⟩) (by kernel_rfl) (by rfl) (by rfl) ?_
  go_simp
  refine behG_mk (fun _ => trivial) ?_
  try simp only [Act.put, List.setIfInBounds_toArray, List.set_cons_zero, List.set_cons_succ]
  refine anyG_one (i := 46) (o := ⟨some 119, _, _, _, _, _⟩) (by kernel_rfl) (by rfl) (by rfl) ?_
  go_simp
  refine behG_mk (fun _ => trivial) (anyG_done (by kernel_rfl) ?_)
  try simp only [Act.put, List.setIfInBounds_toArray, List.set_cons_zero, List.set_cons_succ]
  have hn9 := nine_at u [t, T1 ++ sg ++ T2, T1 ++ sg ++ T3, T1 ++ T3, T1, P, t ++ P, few, P ++ few] HLL.out
  obtain ⟨Wy, hWy⟩ : ∃ Wy : World, Wy = u.alloc (.cells #[.string t, .string (T1 ++ sg ++ T2), .string (T1 ++ sg ++ T3), .string (T1 ++ T3), .string T1, .string P, .string (t ++ P), .string few, .string (P ++ few)] 9) := ⟨_, rfl⟩
  have HG : Hid (∀ j (h : j < 9), ∃ U : ByteArray, U.size ≤ 1000000 ∧ Wy.cell? ⟨u.heap.size, j, none⟩ = some (.string U)) := fun j h => by rw [hWy]; exact hn9 j h
  have hBy : Below w.heap.size w Wy := by rw [hWy]; exact hBd.alloc hBd.size _
  have hul : u.heap.size < Wy.heap.size := by rw [hWy]; simp
  rw [← hWy]
  clear hWy hn9 HLL hBd
  have okk := ok.below hBy
  go_wp2_with fail
  go_loopw [120] (fun jv wr => ∃ j : Nat, jv = .int .i64 j ∧ j ≤ 9 ∧ Below Wy.heap.size Wy wr) (fun jv _ => 9 - (intOf jv).toNat)
  case atStart => exact ⟨0, rfl, Nat.zero_le _, Below.refl _ _⟩
  case round =>
    obtain ⟨j, rfl, hj9, hbr⟩ := hrel
    by_cases hj : j < 9
    · obtain ⟨U, hU, hc⟩ := HG.out j hj
      have hc := cell_below hbr hul hc
      have hp1 := parse_script U.data.toList wr (okk.below hbr) (by rw [size_len]; omega)
      rw [Pa.str_back] at hp1
      have hp2 := fun W => refParse27_any U W hU
      have b1 : (0 : Int) ≤ (j : Int) := by omega
      have b2 : (j : Int) < 9 := by omega
      have hsz : ∀ d, Pa.parseT U.data.toList = .inr d → d.length ≤ 1000000 := fun d hd => by have := (Pa.parseT_inr hd).2.1; omega
      obtain ⟨R, hR⟩ : ∃ R, R = Pa.parseT U.data.toList := ⟨_, rfl⟩
      rw [← hR] at hp1 hp2 hsz
      clear hR
      cases R with
      | inl n =>
        unfold ROut at hp1 hp2
        go_wp2_with fail
        refine hp1.mono ?_
        rintro e w1 ⟨rfl, hb1⟩
        go_wp2_with fail
        refine (hp2 _).mono ?_
        rintro e w2 ⟨rfl, hb2⟩
        have m1 := Calls.eqv (v' := .bool true) (by simp) (sameActs_any [] [] _ _ w2 (Acts.nil _) (Acts.nil _) (by decide) (by decide))
        clear hp1 hp2 hc hsz
        go_wp2_with (go_at_call 20; refine m1.mono ?_; rintro e w3 ⟨rfl, hb3⟩)
        go_roundw
        case rel => exact ⟨j + 1, by go_num, by omega, below_on (below_on (below_on hbr hb1) hb2) hb3⟩
        case measure => simp [intOf]; omega
      | inr d =>
        unfold ROut at hp1 hp2
        have hd := hsz d rfl
        go_wp2_with fail
        refine hp1.mono ?_
        rintro e w1 ⟨r1, rfl, hA1, hb1⟩
        have HA1 := Lib.hid hA1
        obtain ⟨a1, c1, fv1, rfl, -⟩ := hA1
        go_wp2_with fail
        refine (hp2 _).mono ?_
        rintro e w2 ⟨r2, rfl, hA2, hb2⟩
        have HA2 := Lib.hid hA2
        obtain ⟨a2, c2, fv2, rfl, -⟩ := hA2
        have m1 := Calls.eqv (v' := .bool true) (by simp) (sameActs_any d d _ _ w2 (HA1.out.below hb2) HA2.out hd hd)
        clear hp1 hp2 hc hsz
        go_wp2_with (go_at_call 20; refine m1.mono ?_; rintro e w3 ⟨rfl, hb3⟩)
        go_roundw
        case rel => exact ⟨j + 1, by go_num, by omega, below_on (below_on (below_on hbr hb1) hb2) hb3⟩
        case measure => simp [intOf]; omega
    · have b2 : ¬ (j : Int) < 9 := by omega
      go_wp2
      go_ret
      exact ⟨rfl, below_on hBy hbr⟩

end Go.Proofs.YtgajoiijebbagaaGreatDoor
