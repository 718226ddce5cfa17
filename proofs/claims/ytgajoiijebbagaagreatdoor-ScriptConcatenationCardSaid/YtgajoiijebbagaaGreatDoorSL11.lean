/-
  The walk of the statement ScriptConcatenation: it returns true for every input, and what was there is unchanged. Conditions: the library's variables read as laid, the raw actions lie in memory.
-/
import Derived.Test.YtgajoiijebbagaaGreatDoorAp
import Derived.Test.YtgajoiijebbagaaGreatDoorSL10
import Derived.Test.YtgajoiijebbagaaGreatDoorRfQ
namespace Go.Proofs.YtgajoiijebbagaaGreatDoor
open Go.RowKit Go.Proofs

def wrongC : Array Value := (Pa.wrongL.map fun t => Value.string ⟨(t ++ [10]).toArray⟩).toArray

theorem wrong_at (w : World) (k : Int) (h0 : 0 ≤ k) (h1 : k < 13) : ∃ t ∈ Pa.wrongL, (w.alloc (.cells wrongC 9)).cell? ⟨w.heap.size, k.toNat, none⟩ = some (.string ⟨(t ++ [10]).toArray⟩) := by
  have hk : k.toNat < Pa.wrongL.length := by rw [Pa.wrong_len]; omega
  refine ⟨Pa.wrongL[k.toNat], List.getElem_mem hk, ?_⟩
  rw [World.cell?_alloc_at _ _ _ _ rfl]
  simp [wrongC, List.getElem?_eq_getElem hk]

set_option maxRecDepth 100000 in
set_option maxHeartbeats 1000000 in
theorem law11 (l : List Pa.Rw) (v : Value) (m : List Pa.Rw) (u : Value) (which : Int) (w : World) (ok : Ok w) (hv : Raws w v l) (hu : Raws w u m) (h0 : -9223372036854775808 ≤ which) (h1 : which ≤ 9223372036854775807) :
    Calls Tryz.prog 6 #[v, u, .int .i64 which] w fun e w' => e = .returned (.bool true) ∧ Below w.heap.size w w' := by
  have hsc := script_any l v
  have hsd := script_any m u
  have hp1 := print_gen l
  have hp2 := print_gen m
  have okA := Pa.scriptOf_ok l
  have okB := Pa.scriptOf_ok m
  have hll := Pa.scriptOf_len l
  have hlm := Pa.scriptOf_len m
  have hta := Pa.script_len l
  have htb := Pa.script_len m
  have hpk := pick27_any which 13
  have hpi := Pa.pick_in which (n := 13) (by decide)
  obtain ⟨A, hA⟩ : ∃ A, A = Pa.scriptOf l := ⟨_, rfl⟩
  obtain ⟨B, hB⟩ : ∃ B, B = Pa.scriptOf m := ⟨_, rfl⟩
  rw [← hA] at hsc hp1 hll hta okA
  rw [← hB] at hsd hp2 hlm htb okB
  have hpc := fun V W ok hV => print_any (A ++ B) V W ok hV (by simp; omega)
  unfold POut at hpc
  rw [(Pa.pr_some (Pa.print_both okA okB hll hlm)).1, (Pa.pr_some (Pa.print_both okA okB hll hlm)).2] at hpc
  obtain ⟨t1, ht1⟩ : ∃ t1 : ByteArray, t1 = ⟨(Pa.textA A).toArray⟩ := ⟨_, rfl⟩
  obtain ⟨t2, ht2⟩ : ∃ t2 : ByteArray, t2 = ⟨(Pa.textA B).toArray⟩ := ⟨_, rfl⟩
  have hcat : (⟨(Pa.textA A ++ Pa.textA B).toArray⟩ : ByteArray) = t1 ++ t2 := by rw [ht1, ht2, app]
  have hw1 : ∀ t ∈ Pa.wrongL, ∀ W, Ok W → Calls Tryz.prog 18 #[.string (t1 ++ ⟨(t ++ [10]).toArray⟩ ++ t2)] W fun e W' => e = .returned (.tuple #[.slice none 0 0, .int .i64 A.length, .int .i64 270]) ∧ Below W.heap.size W W' := fun t ht W ok => by
    have h := parse_script (Pa.textA A ++ (t ++ [10]) ++ Pa.textA B) W ok (by have := Pa.wrong_small t ht; simp; omega)
    rw [Pa.parse_wrong (Pa.textA B) okA (by omega) ht] at h
    rw [ht1, ht2, app, app]
    exact h
  have hw2 : ∀ W, Ok W → Calls Tryz.prog 18 #[.string (t1 ++ ⟨#[116, 105, 99, 107, 32, 49]⟩)] W fun e W' => e = .returned (.tuple #[.slice none 0 0, .int .i64 A.length, .int .i64 270]) ∧ Below W.heap.size W W' := fun W ok => by
    have h := parse_script (Pa.textA A ++ [116, 105, 99, 107, 32, 49]) W ok (by simp; omega)
    rw [Pa.parse_tick1 okA (by omega)] at h
    rw [ht1, show (⟨#[116, 105, 99, 107, 32, 49]⟩ : ByteArray) = ⟨[116, 105, 99, 107, 32, 49].toArray⟩ from rfl, app]
    exact h
  rw [← ht1] at hp1
  rw [← ht2] at hp2
  rw [hcat] at hpc
  have HV := Lib.hid hv; have HU := Lib.hid hu
  obtain ⟨va, vc, fv0, rfl, -⟩ := hv
  obtain ⟨ua, uc, fu0, rfl, -⟩ := hu
  have ht1s : t1.size ≤ 200000 := by rw [ht1]; simp [ByteArray.size]; omega
  have ht2s : t2.size ≤ 200000 := by rw [ht2]; simp [ByteArray.size]; omega
  clear hA hB ht1 ht2 hta htb hcat okA okB
  go_enter Tryz.func6, Tryz.ntmps6
  go_wp2_with fail
  refine (examples_any w ok).mono ?_
  rintro e w1 ⟨rfl, hb1⟩
  go_wp2_with fail
  refine (hsc w1 (HV.out.below hb1)).mono ?_
  rintro e w2 ⟨r1, rfl, hA2, hb2⟩
  have hB2 := below_on hb1 hb2
  have HA2 := Lib.hid hA2
  obtain ⟨a1, c1, fv1, rfl, hc1, -⟩ := hA2
  go_wp2_with fail
  refine (hsd w2 (HU.out.below hB2)).mono ?_
  rintro e w3 ⟨r2, rfl, hA3, hb3⟩
  have hB3 := below_on hB2 hb3
  have hb3 := Lib.hid (HA2.out.below hb3)
  have HA3 := Lib.hid hA3
  obtain ⟨a2, c2, fv2, rfl, hc2, -⟩ := hA3
  go_wp2_with fail
  refine (hp1 _ w3 (ok.below hB3) hb3.out).mono ?_
  rintro e w4 ⟨rfl, hb4⟩
  have hB4 := below_on hB3 hb4
  go_wp2_with fail
  refine (hp2 _ w4 (ok.below hB4) (HA3.out.below hb4)).mono ?_
  rintro e w5 ⟨rfl, hb5⟩
  have hB5 := below_on hB4 hb5
  have h35 := below_on hb4 hb5
  obtain ⟨lp, hlp, K1⟩ := (hb3.out.below h35).pairs
  obtain ⟨lq, hlq, K2⟩ := (HA3.out.below h35).pairs
  have HL1 := Lib.hid (show lp.length ≤ 20 by rw [← hlp] at hll; simpa using hll)
  have HL2 := Lib.hid (show lq.length ≤ 20 by rw [← hlq] at hlm; simpa using hlm)
  have HM := Lib.hid (show (lp ++ lq).map Prod.fst = A ++ B by rw [List.map_append, hlp, hlq])
  clear hlp hlq
  clear hsc hsd hp1 hp2 hb1 hb2 hb3 hb4 hb5 h35 HA2 HA3 hB2 hB3 hB4
  have hap : ∀ p6 c6 w6, OwnA w5.heap.size w6 (.slice p6 lp.length c6) lp → ∀ p ∈ lq, p.1.fates ≠ [] → ∀ b, p.2.ownBlock = some b → (Value.slice p6 lp.length c6).ownBlock ≠ some b := fun p6 c6 w6 hO6 p hp hn b hb e => by
    obtain ⟨a, c, h3, -, h5, -⟩ := K2
    have := (h5 p hp).1.lt hn hb
    have := owns_base hO6.1 e
    omega
  have hkb : ∀ w6, Kp (fun k => (Value.slice none 0 0).ownBlock = some k) w5 w6 → Below w5.heap.size w5 w6 := fun w6 hk6 => hk6.below (Nat.le_refl _) (fun k hk e => by cases e)
  go_wp2_with (at_builtin; first
    | (refine wpList_append_acts (by rfl) (.const (.slice none 0 0)) (.tmp 41) (by rfl) w5.heap.size (Nat.le_refl _) (.slice none 0 0) [] (by rfl) (OwnA.nil _ _) _ lp (by rfl) K1 (fun p hp h0 b hb e => by cases e) (by have := HL1.out; simp; omega) ?_; intro p6 c6 w6 hO6 hk6; simp only [List.nil_append, List.length_nil, Nat.zero_add] at hO6 ⊢; have hb6 := hkb w6 hk6; have K2' := K2.below hb6)
    | (refine wpList_append_acts (by rfl) (.tmp 42) (.tmp 43) (by rfl) w5.heap.size hb6.size (.slice p6 lp.length c6) lp (by rfl) hO6 _ lq (by rfl) K2' (hap _ _ _ hO6) (by have := HL1.out; have := HL2.out; omega) ?_; intro p7 c7 w7 hO7 hk7))
  have hb7 : Below w5.heap.size w5 w7 := Kp.up hb6 hk7 hb6.size (fun k hk e => by have := owns_base hO6.1 e; omega)
  have hB7 := below_on hB5 hb7
  refine (hpc _ w7 (ok.below hB7) (by have := hO7.acts; rw [HM.out] at this; exact this)).mono ?_
  rintro e w8 ⟨rfl, hb8⟩
  have hB8 := below_on hB7 hb8
  clear hpc hO6 hO7 hk6 hk7 hb6 hb7 hb8 hap hkb K1 K2 K2'
  go_wp2_with fail
  refine (hpk _ h0 h1 (by decide) (by decide)).mono ?_
  rintro e w9 ⟨rfl, hw9⟩
  obtain ⟨t, ht, hcell⟩ := wrong_at w8 (Pa.pickI which 13) hpi.1 hpi.2
  have hc9 : w9.cell? ⟨w8.heap.size, (Pa.pickI which 13).toNat, none⟩ = some (.string ⟨(t ++ [10]).toArray⟩) := by rw [← hw9]; exact hcell
  have hB9 : Below w.heap.size w w9 := by rw [← hw9]; exact hB8.alloc hB8.size _
  have hq1 := hw1 t ht
  obtain ⟨ww, hww⟩ : ∃ ww : ByteArray, ww = ⟨(t ++ [10]).toArray⟩ := ⟨_, rfl⟩
  rw [← hww] at hc9 hq1
  have hws : ww.size ≤ 100 := by have := Pa.wrong_small t ht; rw [hww]; simp [ByteArray.size]; omega
  have b1 := hpi.1
  have b2 := hpi.2
  clear hcell hw9 hw1 hpk hpi hww ht
  go_wp2_with fail
  refine (hq1 _ (ok.below hB9)).mono ?_
  rintro e w10 ⟨rfl, hb10⟩
  have hB10 := below_on hB9 hb10
  go_wp2_with fail
  refine (hw2 _ (ok.below hB10)).mono ?_
  rintro e w11 ⟨rfl, hb11⟩
  have hB11 := below_on hB10 hb11
  go_wp2_with fail
  go_ret
  exact ⟨rfl, hB11⟩

end Go.Proofs.YtgajoiijebbagaaGreatDoor
