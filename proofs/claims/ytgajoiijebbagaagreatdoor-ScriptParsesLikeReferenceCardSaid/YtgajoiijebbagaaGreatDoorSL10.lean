/-
  The walk of the statement ScriptRoundTrip: it returns true for every input, and what was there is unchanged. Conditions: the library's variables read as laid, the raw actions lie in memory.
-/
import Derived.Test.YtgajoiijebbagaaGreatDoorGe5
namespace Go.Proofs.YtgajoiijebbagaaGreatDoor
open Go.RowKit Go.Proofs

theorem Acts.nil (w : World) : Acts w (.slice none 0 0) [] := ⟨none, 0, fun _ => .nilIface, rfl, by simp, fun j hj => by simp at hj, fun h => absurd rfl h⟩
theorem Pa.print_script (l : List Pa.Rw) : Pa.prS (Pa.scriptOf l) = Pa.textA (Pa.scriptOf l) ∧ Pa.prE (Pa.scriptOf l) = 0 := Pa.pr_some (Pa.printA_some (Pa.scriptOf_ok l) (Nat.le_trans (Pa.scriptOf_len l) (by omega)))
theorem Pa.script_len (l : List Pa.Rw) : (Pa.textA (Pa.scriptOf l)).length ≤ 160020 := by
  have h1 := Pa.text_len (Pa.scriptOf l) (Pa.scriptOf_ok l)
  have h2 := Pa.scriptOf_len l
  omega
/-- What Print gives for a generated script. -/
theorem print_gen (l : List Pa.Rw) (v : Value) (w : World) (ok : Ok w) (hv : Acts w v (Pa.scriptOf l)) :
    Calls Tryz.prog 12 #[v] w fun e w' => e = .returned (.tuple #[.string ⟨(Pa.textA (Pa.scriptOf l)).toArray⟩, .int .i64 0]) ∧ Below w.heap.size w w' := by
  have h := print_any (Pa.scriptOf l) v w ok hv (Nat.le_trans (Pa.scriptOf_len l) (by omega))
  unfold POut at h
  rw [(Pa.print_script l).1, (Pa.print_script l).2] at h
  exact h

set_option maxRecDepth 100000 in
set_option maxHeartbeats 1000000 in
theorem law10 (l : List Pa.Rw) (v : Value) (m : List Pa.Rw) (u : Value) (s : ByteArray) (w : World) (ok : Ok w) (hv : Raws w v l) (hu : Raws w u m) (hs : s.size ≤ 9223372036854775807) :
    Calls Tryz.prog 5 #[v, u, .string s] w fun e w' => e = .returned (.bool true) ∧ Below w.heap.size w w' := by
  obtain ⟨few, hfew⟩ : ∃ few, s.extract 0 (min (s.size : Int) 200).toNat = few := ⟨_, rfl⟩
  have hfl : few.size ≤ 200 := by rw [← hfew]; simp; omega
  have hsc := script_any l v
  have hsd := script_any m u
  have hp1 := print_gen l
  have hp2 := print_gen m
  have hq := fun (W : World) (ok : Ok W) => parse_script (Pa.textA (Pa.scriptOf l)) W ok (by have := Pa.script_len l; omega)
  rw [Pa.parseT_text (Pa.scriptOf_ok l) (Nat.le_trans (Pa.scriptOf_len l) (by omega))] at hq
  have hinj := Pa.textA_inj (Pa.scriptOf l) (Pa.scriptOf m) (Pa.scriptOf_ok l) (Pa.scriptOf_ok m) (Nat.le_trans (Pa.scriptOf_len l) (by omega)) (Nat.le_trans (Pa.scriptOf_len m) (by omega))
  have hll := Pa.scriptOf_len l
  have hlm := Pa.scriptOf_len m
  have hf := fun (W : World) (ok : Ok W) => parse_script few.data.toList W ok (by rw [size_len]; omega)
  rw [Pa.str_back] at hf
  obtain ⟨A, hA⟩ : ∃ A, A = Pa.scriptOf l := ⟨_, rfl⟩
  obtain ⟨B, hB⟩ : ∃ B, B = Pa.scriptOf m := ⟨_, rfl⟩
  rw [← hA] at hsc hp1 hq hinj hll
  rw [← hB] at hsd hp2 hinj hlm
  obtain ⟨t1, ht1⟩ : ∃ t1 : ByteArray, t1 = ⟨(Pa.textA A).toArray⟩ := ⟨_, rfl⟩
  obtain ⟨t2, ht2⟩ : ∃ t2 : ByteArray, t2 = ⟨(Pa.textA B).toArray⟩ := ⟨_, rfl⟩
  rw [← ht1] at hp1 hq
  rw [← ht2] at hp2
  have hb12 : (t1.toList == t2.toList) = decide (A = B) := by
    rw [bytes_beq, ht1, ht2]
    by_cases h : A = B
    · subst h; simp
    · have : ¬ Pa.textA A = Pa.textA B := fun e => h (hinj e)
      simp [h, this]
  have HV := Lib.hid hv; have HU := Lib.hid hu
  obtain ⟨va, vc, fv0, rfl, -⟩ := hv
  obtain ⟨ua, uc, fu0, rfl, -⟩ := hu
  clear hinj hA hB ht1 ht2
  go_enter Tryz.func5, Tryz.ntmps5
  go_wp2_with fail
  refine (examples_any w ok).mono ?_
  rintro e w1 ⟨rfl, hb1⟩
  go_wp2_with fail
  refine (hsc w1 (HV.out.below hb1)).mono ?_
  rintro e w2 ⟨r1, rfl, hA2, hb2⟩
  have hB2 := below_on hb1 hb2
  have HA2 := Lib.hid hA2
  obtain ⟨a1, c1, fv1, rfl, hc1, -⟩ := hA2
  go_wp2_with fail
  refine (hsd w2 (HU.out.below hB2)).mono ?_
  rintro e w3 ⟨r2, rfl, hA3, hb3⟩
  have hB3 := below_on hB2 hb3
  have hb3 := Lib.hid (HA2.out.below hb3)
  have HA3 := Lib.hid hA3
  obtain ⟨a2, c2, fv2, rfl, hc2, -⟩ := hA3
  go_wp2_with fail
  refine (hp1 _ w3 (ok.below hB3) hb3.out).mono ?_
  rintro e w4 ⟨rfl, hb4⟩
  have hB4 := below_on hB3 hb4
  go_wp2_with fail
  refine (hp2 _ w4 (ok.below hB4) (HA3.out.below hb4)).mono ?_
  rintro e w5 ⟨rfl, hb5⟩
  have hB5 := below_on hB4 hb5
  go_wp2_with fail
  refine (hq w5 (ok.below hB5)).mono ?_
  rintro e w6 ⟨r3, rfl, hA6, hb6⟩
  have hB6 := below_on hB5 hb6
  have HA6 := Lib.hid hA6
  obtain ⟨a3, c3, fv3, rfl, hc3, -⟩ := hA6
  have h36 := below_on (below_on hb4 hb5) hb6
  have K1 := Lib.hid (hb3.out.below h36)
  have K2 := Lib.hid (HA3.out.below h36)
  clear hsc hsd hp1 hp2 hq hb1 hb2 hb3 hb4 hb5 hb6 h36 HA2 HA3 hB2 hB3 hB4 hB5
  go_wp2_with fail
  refine (hf w6 (ok.below hB6)).mono ?_
  intro e w7 hw7
  cases hpar : Pa.parseT few.data.toList with
  | inl n =>
    rw [hpar] at hw7
    obtain ⟨rfl, hb7⟩ := hw7
    have hB7 := below_on hB6 hb7
    have hpn := print_any [] (.slice none 0 0) w7 (ok.below hB7) (Acts.nil _) (by decide)
    unfold POut at hpn
    go_wp2_with fail
    refine hpn.mono ?_
    rintro e w8 ⟨rfl, hb8⟩
    have hB8 := below_on hB7 hb8
    have k1 := (K1.out.below hb7).below hb8
    have k2 := (K2.out.below hb7).below hb8
    have k3 := (HA6.out.below hb7).below hb8
    have m1 := fun W (hb : Below w8.heap.size w8 W) => Calls.eqv (v' := .bool true) (by simp) (sameActs_any A A _ _ W (k1.below hb) (k3.below hb) (by omega) (by omega))
    have m2 := fun W (hb : Below w8.heap.size w8 W) => sameActs_any A B _ _ W (k1.below hb) (k2.below hb) (by omega) (by omega)
    clear hf hpn hb7 hb8 K1 K2 HA6
    go_wp2_with (go_at_call 20; first | (with_reducible refine (m1 _ (Below.refl _ _)).mono ?_; rintro e w9 ⟨rfl, hb9⟩) | (with_reducible refine (m2 _ hb9).mono ?_; rintro e w10 ⟨rfl, hb10⟩))
    go_ret
    exact ⟨rfl, below_on (below_on hB8 hb9) hb10⟩
  | inr d =>
    rw [hpar] at hw7
    obtain ⟨r4, rfl, hA7, hb7⟩ := hw7
    have hB7 := below_on hB6 hb7
    obtain ⟨hd1, hd2, hd3⟩ := Pa.parseT_inr hpar
    have hpn := print_any d r4 w7 (ok.below hB7) hA7 (by omega)
    unfold POut at hpn
    rw [(Pa.pr_some (Pa.printA_some hd1 hd2)).1, (Pa.pr_some (Pa.printA_some hd1 hd2)).2, hd3, Pa.str_back] at hpn
    obtain ⟨a4, c4, fv4, rfl, hc4, -⟩ := hA7
    clear hpar hd3 hd1
    go_wp2_with fail
    refine hpn.mono ?_
    rintro e w8 ⟨rfl, hb8⟩
    have hB8 := below_on hB7 hb8
    have k1 := (K1.out.below hb7).below hb8
    have k2 := (K2.out.below hb7).below hb8
    have k3 := (HA6.out.below hb7).below hb8
    have m1 := fun W (hb : Below w8.heap.size w8 W) => Calls.eqv (v' := .bool true) (by simp) (sameActs_any A A _ _ W (k1.below hb) (k3.below hb) (by omega) (by omega))
    have m2 := fun W (hb : Below w8.heap.size w8 W) => sameActs_any A B _ _ W (k1.below hb) (k2.below hb) (by omega) (by omega)
    clear hf hpn hb7 hb8 K1 K2 HA6
    go_wp2_with (go_at_call 20; first | (with_reducible refine (m1 _ (Below.refl _ _)).mono ?_; rintro e w9 ⟨rfl, hb9⟩) | (with_reducible refine (m2 _ hb9).mono ?_; rintro e w10 ⟨rfl, hb10⟩))
    go_ret
    exact ⟨rfl, below_on (below_on hB8 hb9) hb10⟩

end Go.Proofs.YtgajoiijebbagaaGreatDoor
