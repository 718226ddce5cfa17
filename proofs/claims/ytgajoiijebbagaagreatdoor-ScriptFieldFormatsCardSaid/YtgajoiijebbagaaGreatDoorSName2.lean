/-
  The walk of dns.ValidName: for every string it says whether it is a valid name. Conditions: the library's variables read as laid.
-/
import Derived.Test.YtgajoiijebbagaaGreatDoorSName1
import Derived.Test.YtgajoiijebbagaaGreatDoorSWalkD
import Derived.WalkMore
namespace Go.Proofs.YtgajoiijebbagaaGreatDoor
open Go.RowKit Go.Proofs Go.Shelf
attribute [local go_sem] Oper.semAt_some

theorem wpIn_scope_wide {P : Program} {n : Nat} {c : Code} {Q : Exit → Act → World → Prop} {a : Act} {w : World} (h : c.wpIn Fence.wide n P (Exit.noGoto Q) a w) : (Code.scope c).wpIn Fence.wide n P Q a w := wpIn_wide.2 (wp_scope_straight (wpIn_wide.1 h))
theorem cell_new_q (w : World) (v : Value) (t : TypeId) : (w.alloc (.cells #[v] t)).cell? ⟨w.heap.size, 0, none⟩ = some v ∧ (w.alloc (.cells #[v] t)).frozen? ⟨w.heap.size, 0, none⟩ = false := ⟨by simp, by simp⟩
theorem Pa.labOk_iff (x : Pa.Bs) : Pa.labOk x = true ↔ (1 ≤ x.length ∧ x.length ≤ 20) ∧ x.head? ≠ some 45 ∧ x.getLast? ≠ some 45 ∧ ∀ c ∈ x, Pa.inLab c = true := by
  simp [Pa.labOk, and_assoc]

set_option maxRecDepth 100000 in
set_option maxHeartbeats 4000000 in
theorem name_small (s : ByteArray) (w : World) (ok : Ok w) (hs : s.size ≤ 60) :
    Calls Tryz.prog 22 #[.string s] w fun e w' => e = .returned (.bool (Pa.nameOk s.data.toList)) ∧ Below w.heap.size w w' := by
  have h60 : ¬ 60 < (s.size : Int) := by omega
  refine (callsIn_wide (n := 6)).1 ?_
  refine callsIn_of_wp_marks Tryz.func22 rfl trivial ?_ rfl
  simp only [Tryz.ntmps22, List.size_toArray, List.length_cons, List.length_nil, Nat.reduceAdd, Nat.reduceSub, Array.replicate_succ, Array.replicate_zero, List.push_toArray, List.append_toArray, List.nil_append, List.cons_append]
  gi_wp2
  refine wpIn_scope_wide ?_
  gi_wp2
  refine wpIn_label ?_
  gi_wp2_with (refine ⟨trivial, ?_⟩; gi_at_call 43; refine (callsIn_wide.2 (labels_any s _)).mono ?_; rintro e w' ⟨rfl, rfl⟩)
  have hs0 := cell_new_q w (.bool true) 4
  have hb0 := cell_new_q (w.alloc (.cells #[.bool true] 4)) (.string s) 9
  rw [World.size_alloc] at hb0
  have hB0 : Below w.heap.size w ((w.alloc (.cells #[.bool true] 4)).alloc (.cells #[.string s] 9)) := ((Below.refl _ w).alloc (Nat.le_refl _) _).alloc (by simp) _
  refine wpIn_rangeFunc_ownF rfl (by decide) (gf := 69) (lb := #[.pointer (some ⟨w.heap.size + 1, 0, none⟩)]) rfl trivial (enters_of Tryz.func69 (by kernel_rfl) rfl)
    (labels_stops 5 (by decide) (w.heap.size + 1) w.heap.size s.data.toList (by rw [size_len]; omega) _ (ok.below hB0) ok.1 (by simp) (by simp; omega) hb0.1) belowK_t (belowK_b (by simp; omega)) (Below.refl _ _) (fun _ => rfl)
    (fun pre W => ((∀ x ∈ pre, Pa.labOk x = true) ∧ W.cell? ⟨w.heap.size, 0, none⟩ = some (.bool true) ∧ W.frozen? ⟨w.heap.size, 0, none⟩ = false) ∧ Below w.heap.size w W)
    (fun c pre W => (c = .exit 0 ∧ (∃ x ∈ pre, Pa.labOk x = false) ∧ W.cell? ⟨w.heap.size, 0, none⟩ = some (.bool false)) ∧ Below w.heap.size w W)
    (OwnFrom.and (Own.from (fun s A B row hs hg hr => ⟨hs.1, cell_kept hs.2.1 hg hr, (frozen_kept hs.2.1 hg hr).trans hs.2.2⟩) _) (ownFrom_below (Nat.le_refl _) (by simp; omega)))
    (fun c => OwnFrom.and (Own.from (fun s A B row hs hg hr => ⟨hs.1, hs.2.1, cell_kept hs.2.2 hg hr⟩) _) (ownFrom_below (Nat.le_refl _) (by simp; omega)))
    ⟨⟨by simp, cell_old _ (by simp) hs0.1, frozen_old _ (by simp) hs0.2⟩, hB0⟩
    (fun x => { tmps := #[.string s, undef, .bool false, .pointer (some ⟨w.heap.size, 0, none⟩), .string ⟨x.toArray⟩, undef, undef, .string s, .int .i64 s.size, .bool (decide (60 < (s.size : Int))), .string s, .func (.func 69) #[] #[.pointer (some ⟨w.heap.size + 1, 0, none⟩)], .string ⟨x.toArray⟩, undef, undef, undef, undef, undef, undef, undef, undef, undef, undef, undef, undef, undef, undef, undef, undef, undef, undef, undef, undef, undef, undef, undef, undef, undef, undef, undef, undef, undef, undef, undef], defers := [] }) ?assign ?body ?done ?stop
  case assign =>
    intro l x W K hK
    gi_wp2
    exact hK
  case body =>
    rintro l pre x W ⟨⟨hp, hcr, hfr⟩, hB⟩ _
    obtain ⟨t, ht⟩ : ∃ t : ByteArray, t = ⟨x.toArray⟩ := ⟨_, rfl⟩
    have htl : t.data.toList = x := by rw [ht]
    rw [← ht]
    clear ht
    have hset : ∀ b, KeepsOthers W (W.setCell ⟨w.heap.size, 0, none⟩ (.bool b)) := fun b => KeepsOthers.setCell _ _ _
    have hbad : Hid (Pa.labOk x = false → (∃ y ∈ pre ++ [x], Pa.labOk y = false) ∧ (W.setCell ⟨w.heap.size, 0, none⟩ (.bool false)).cell? ⟨w.heap.size, 0, none⟩ = some (.bool false) ∧ Below w.heap.size w (W.setCell ⟨w.heap.size, 0, none⟩ (.bool false))) := fun h =>
      ⟨⟨x, by simp, h⟩, World.cell?_setCell_same' _ _ _ (by rw [hcr]; rfl), hB.setCell (p := ⟨w.heap.size, 0, none⟩) (Nat.le_refl _) _⟩
    have HSET := Lib.hid hset; clear hset
    subst htl
    by_cases hlen : 1 ≤ t.size ∧ t.size ≤ 20
    · obtain ⟨hl1, hl20⟩ := hlen
      have g1 : ¬ (t.size : Int) < 1 := by omega
      have g2 : ¬ 20 < (t.size : Int) := by omega
      have hh0 : t.data.toList.head? = some t[0] := by
        rw [List.head?_eq_getElem?, List.getElem?_eq_getElem (by rw [size_len]; omega)]; rfl
      have hhl : t.data.toList.getLast? = some t[t.size - 1] := by
        rw [List.getLast?_eq_getElem?, size_len, List.getElem?_eq_getElem (by rw [size_len]; omega)]; rfl
      have q0 : (0 : Int) < (t.size : Int) := by omega
      have q1 : (0 : Int) ≤ (t.size : Int) - 1 := by omega
      have q2 : (t.size : Int) - 1 < (t.size : Int) := by omega
      have q3 : ((t.size : Int) - 1).toNat = t.size - 1 := by omega
      by_cases e0 : t[0] = 45
      · have HF : Hid (Pa.labOk t.data.toList = false) := by
          rw [Hid, Bool.eq_false_iff]; intro h
          exact ((Pa.labOk_iff _).1 h).2.1 (by rw [hh0, e0])
        have e0' : ((t[0].toNat : Int) == 45) = true := by rw [e0]; rfl
        clear hh0 hhl e0 q3
        gi_wp2
        have hbd := hbad.out HF.out; exact ⟨HSET.out _, ⟨rfl, hbd.1, hbd.2.1⟩, hbd.2.2⟩
      have e0' : ((t[0].toNat : Int) == 45) = false := by
        rw [beq_eq_false_iff_ne]; intro h; exact e0 (UInt8.toNat_inj.1 (by show t[0].toNat = 45; omega))
      by_cases e1 : t[t.size - 1] = 45
      · have HF : Hid (Pa.labOk t.data.toList = false) := by
          rw [Hid, Bool.eq_false_iff]; intro h
          exact ((Pa.labOk_iff _).1 h).2.2.1 (by rw [hhl, e1])
        have e1' : ((t[t.size - 1].toNat : Int) == 45) = true := by rw [e1]; rfl
        clear hh0 hhl e0 e1
        gi_wp2
        have hbd := hbad.out HF.out; exact ⟨HSET.out _, ⟨rfl, hbd.1, hbd.2.1⟩, hbd.2.2⟩
      have e1' : ((t[t.size - 1].toNat : Int) == 45) = false := by
        rw [beq_eq_false_iff_ne]; intro h; exact e1 (UInt8.toNat_inj.1 (by show t[t.size - 1].toNat = 45; omega))
      have HL : Hid ((∀ c ∈ t.data.toList, Pa.inLab c = true) → Pa.labOk t.data.toList = true) := fun h =>
        (Pa.labOk_iff _).2 ⟨by rw [size_len]; exact ⟨hl1, hl20⟩, by rw [hh0]; intro h; exact e0 (Option.some.inj h), by rw [hhl]; intro h; exact e1 (Option.some.inj h), h⟩
      clear hh0 hhl e0 e1
      gi_wp2
      gi_loop [34] (fun i => ∃ k : Nat, k ≤ t.size ∧ i = .int .i64 k ∧ Hid (∀ c ∈ t.data.toList.take k, Pa.inLab c = true)) (fun i => t.size - (intOf i).toNat)
      case atStart => exact ⟨0, Nat.zero_le _, rfl, fun c hc => by simp at hc⟩
      case round =>
        obtain ⟨k, hk, rfl, HK⟩ := hrel
        by_cases hlt : k < t.size
        · have b1 : (0 : Int) ≤ (k : Int) := by omega
          have b2 : (k : Int) < (t.size : Int) := by omega
          have hmem : t[k] ∈ t.data.toList := by
            have := List.getElem_mem (l := t.data.toList) (n := k) (by rw [size_len]; exact hlt)
            exact this
          by_cases hin : Pa.inLab t[k] = true
          · have hne : (!Pa.inLab t[k]) = false := by rw [hin]; rfl
            have HK2 : Hid (∀ c ∈ t.data.toList.take (k + 1), Pa.inLab c = true) := by
              rw [Hid, List.take_succ_eq_append_getElem (by rw [size_len]; exact hlt)]
              intro c hc
              rcases List.mem_append.1 hc with hc | hc
              · exact HK.out c hc
              · simp at hc; subst hc; exact hin
            clear hin HK hmem
            gi_wp2_with (refine ⟨trivial, ?_⟩; gi_at_call 44; refine (CallsIn.inRound l (callsIn_wide.2 (inLabel_any t[k] _))).mono ?_; rintro e w' ⟨rfl, rfl⟩)
            go_round
            case rel => exact ⟨k + 1, by omega, by go_num, HK2.out⟩
            case measure => simp [intOf]; omega
          · have hne : (!Pa.inLab t[k]) = true := by simpa using hin
            have HF : Hid (Pa.labOk t.data.toList = false) := by
              rw [Hid, Bool.eq_false_iff]; intro h
              exact hin (((Pa.labOk_iff _).1 h).2.2.2 _ hmem)
            clear hin HK hmem
            gi_wp2_with (refine ⟨trivial, ?_⟩; gi_at_call 44; refine (CallsIn.inRound l (callsIn_wide.2 (inLabel_any t[k] _))).mono ?_; rintro e w' ⟨rfl, rfl⟩)
            have hbd := hbad.out HF.out; exact ⟨HSET.out _, ⟨rfl, hbd.1, hbd.2.1⟩, hbd.2.2⟩
        · have hke : t.data.toList.take k = t.data.toList := List.take_of_length_le (by rw [size_len]; omega)
          rw [hke] at HK
          have HLT := Lib.hid (HL.out HK.out)
          clear hke
          gi_wp2
          refine ⟨KeepsOthers.refl _, Below.refl _ _, ⟨fun y hy => ?_, hcr, hfr⟩, hB⟩
          rcases List.mem_append.1 hy with hy | hy
          · exact hp y hy
          · simp at hy; subst hy; exact HLT.out
    · have hf : Pa.labOk t.data.toList = false := by
        rw [Bool.eq_false_iff]; intro h
        exact hlen (by have := ((Pa.labOk_iff _).1 h).1; rwa [size_len] at this)
      have HF := Lib.hid hf; clear hf
      by_cases h1 : (t.size : Int) < 1
      · gi_wp2
        have hbd := hbad.out HF.out; exact ⟨HSET.out _, ⟨rfl, hbd.1, hbd.2.1⟩, hbd.2.2⟩
      · have h20 : 20 < (t.size : Int) := by omega
        clear hlen
        gi_wp2
        have hbd := hbad.out HF.out; exact ⟨HSET.out _, ⟨rfl, hbd.1, hbd.2.1⟩, hbd.2.2⟩
  case done =>
    rintro D ys W hD rfl ⟨⟨hall, hcr, hfr⟩, hB⟩ hK
    have HN : Hid (Pa.nameOk s.data.toList = true) := by
      simp only [Hid, Pa.nameOk, Bool.and_eq_true, decide_eq_true_eq, List.all_eq_true]
      exact ⟨by rw [size_len]; exact hs, hall⟩
    clear hall
    gi_wp2
    refine ⟨by simp, .inl ⟨_, _, rfl, run_takeDeferred hK, ?_⟩⟩
    exact ⟨_, results_tmp rfl _ _ _, by rw [HN.out]; rfl, hB.trans (belowK_b (w := w) (Nat.le_refl _) W D _ _ (by simp at hD; omega) hK rfl rfl)⟩
  case stop =>
    rintro D c pre W hD hpre ⟨⟨rfl, hbad, hcr⟩, hB⟩ hK
    have HN : Hid (Pa.nameOk s.data.toList = false) := by
      obtain ⟨x, hx, hf⟩ := hbad
      rw [Hid, Bool.eq_false_iff]; intro h
      simp only [Pa.nameOk, Bool.and_eq_true, List.all_eq_true] at h
      rw [h.2 x (hpre.subset hx)] at hf; cases hf
    clear hbad hpre
    gi_wp2
    refine ⟨by simp, .inl ⟨_, _, rfl, run_takeDeferred hK, ?_⟩⟩
    exact ⟨_, results_tmp rfl _ _ _, by rw [HN.out]; rfl, hB.trans (belowK_b (w := w) (Nat.le_refl _) W D _ _ (by simp at hD; omega) hK rfl rfl)⟩

/-- dns.ValidName, at every string. -/
theorem name_any : NameC := by
  intro s w ok
  by_cases hs : s.size ≤ 60
  · exact name_small s w ok hs
  · have h60 : 60 < (s.size : Int) := by omega
    have HN : Hid (Pa.nameOk s.data.toList = false) := by
      rw [Hid, Bool.eq_false_iff]; intro h
      simp only [Pa.nameOk, Bool.and_eq_true, decide_eq_true_eq] at h
      exact hs h.1
    go_enter Tryz.func22, Tryz.ntmps22
    go_wp2
    go_step3
    go_wp2
    rw [Exit.noGoto_ret]
    go_ret
    exact ⟨by rw [HN.out]; rfl, Below.refl _ _⟩

end Go.Proofs.YtgajoiijebbagaaGreatDoor
