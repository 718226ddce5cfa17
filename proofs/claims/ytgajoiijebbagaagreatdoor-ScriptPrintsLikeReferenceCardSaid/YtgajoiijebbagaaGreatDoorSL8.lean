/-
  The walk of the statement ScriptPrintsLikeReference: it returns true for every input, and what was there is unchanged. Conditions: the library's variables read as laid, the arguments lie in memory.
-/
import Derived.Test.YtgajoiijebbagaaGreatDoorCu3
import Derived.Test.YtgajoiijebbagaaGreatDoorSL10
import Derived.Test.YtgajoiijebbagaaGreatDoorRe4
import Derived.Deep.RegionHeld3
import Derived.Deep.DeepCutAuto
import Derived.Deep.CutBlock
namespace Go.Proofs.YtgajoiijebbagaaGreatDoor
open Go.RowKit Go.Proofs

/-- What the joined list leaves. -/
def Cut7 (W4 : World) (s15 : Value) (wx : World) : Prop := ∃ L : List Pa.Ac, Acts wx s15 L ∧ L.length ≤ 21 ∧ Below W4.heap.size W4 wx

/-- What the long list leaves. -/
def Cut1 (W : World) (s16 : Value) (wx : World) : Prop := ∃ L : List Pa.Ac, Acts wx s16 L ∧ L.length ≤ 110 ∧ Below W.heap.size W wx
/-- What the five lists leave. -/
def Cut13 (W : World) (s81 s82 s83 : Value) (wx : World) : Prop := ∃ (g : Nat) (Ls : List (Value × List Pa.Ac)), s81 = .slice (some ⟨g, 0, none⟩) 5 5 ∧ s82 = .int .i64 5 ∧ s83 = .int .i64 0 ∧ Ls.length = 5 ∧ g < wx.heap.size ∧
  (∀ (j : Nat) (h : j < Ls.length), wx.cell? ⟨g, j, none⟩ = some Ls[j].1) ∧ (∀ p ∈ Ls, Acts wx p.1 p.2 ∧ p.2.length ≤ 110) ∧ Below W.heap.size W wx

/-- What the four actions leave. -/
def Cut30 (W : World) (Ys : List (Pa.Ac × Value)) (s145 s146 s147 : Value) (wx : World) : Prop := s146 = .int .i64 4 ∧ s147 = .int .i64 0 ∧ (∃ g : Nat, s145 = .slice (some ⟨g, 0, none⟩) 4 4) ∧ Acts wx s145 (Ys.map Prod.fst) ∧ Below W.heap.size W wx

theorem cut13_mk {W u : World} {v0 v1 v2 v3 v4 : Value} {l0 l1 l2 l3 l4 : List Pa.Ac} (t : TypeId) (h0 : Acts u v0 l0 ∧ l0.length ≤ 110) (h1 : Acts u v1 l1 ∧ l1.length ≤ 110) (h2 : Acts u v2 l2 ∧ l2.length ≤ 110) (h3 : Acts u v3 l3 ∧ l3.length ≤ 110) (h4 : Acts u v4 l4 ∧ l4.length ≤ 110) (hb : Below W.heap.size W u) :
    Cut13 W (.slice (some ⟨u.heap.size, 0, none⟩) 5 5) (.int .i64 5) (.int .i64 0) (u.alloc (.cells #[v0, v1, v2, v3, v4] t)) := by
  have hal : Below u.heap.size u (u.alloc (.cells #[v0, v1, v2, v3, v4] t)) := (Below.refl _ _).alloc (Nat.le_refl _) _
  refine ⟨u.heap.size, [(v0, l0), (v1, l1), (v2, l2), (v3, l3), (v4, l4)], rfl, rfl, rfl, rfl, by simp, fun j hj => ?_, fun p hp => ?_, below_on hb hal⟩
  · rw [World.cell?_alloc_at _ _ _ _ rfl]
    match j, hj with
    | 0, _ => rfl
    | 1, _ => rfl
    | 2, _ => rfl
    | 3, _ => rfl
    | 4, _ => rfl
    | j + 5, h => exact absurd h (by show ¬ (j + 5 < 5); omega)
  · simp only [List.mem_cons, List.not_mem_nil, or_false] at hp
    rcases hp with rfl | rfl | rfl | rfl | rfl
    · exact ⟨h0.1.below hal, h0.2⟩
    · exact ⟨h1.1.below hal, h1.2⟩
    · exact ⟨h2.1.below hal, h2.2⟩
    · exact ⟨h3.1.below hal, h3.2⟩
    · exact ⟨h4.1.below hal, h4.2⟩

set_option maxRecDepth 100000 in
set_option maxHeartbeats 16000000 in
theorem law8 (l : List Pa.Rw) (v : Value) (m : List Pa.Rw) (u : Value) (odd : Pa.Ac) (fv : Value) (at_ many : Int) (w : World) (ok : Ok w) (hv : Raws w v l) (hu : Raws w u m) (hf : FsC w fv odd.fates) (hfl : odd.fates.length ≤ 9223372036854775807) (ho : odd.s.size ≤ 9223372036854775807 ∧ odd.call.s.size ≤ 9223372036854775807)
    (h0 : -9223372036854775808 ≤ at_) (h1 : at_ ≤ 9223372036854775807) (m0 : 0 ≤ many) (m1 : many ≤ 255) :
    Calls Tryz.prog 3 #[v, u, acV odd fv, .int .i64 at_, .int .u8 many] w fun e w' => e = .returned (.bool true) ∧ Below w.heap.size w w' := by
  have hsc := script_any l v
  have hsd := script_any m u
  have hll := Pa.scriptOf_len l
  have hlm := Pa.scriptOf_len m
  obtain ⟨A, hA⟩ : ∃ A, A = Pa.scriptOf l := ⟨_, rfl⟩
  obtain ⟨B, hB⟩ : ∃ B, B = Pa.scriptOf m := ⟨_, rfl⟩
  rw [← hA] at hsc hll
  rw [← hB] at hsd hlm
  clear hA hB
  have hcut := fun (W : World) (hb : Below w.heap.size w W) => cut_any odd fv W ⟨hf.1.below hb, hf.2⟩ hfl ho
  have hRl : (Pa.cutA odd).fates.length ≤ 70 := by simp [Pa.cutA]; omega
  obtain ⟨⟨r1, r2, ⟨q1, q2, q3, q4, q5, q6, q7, q8⟩, r3, rf, r5⟩, hR⟩ : ∃ R, R = Pa.cutA odd := ⟨_, rfl⟩
  rw [← hR] at hcut hRl
  simp only at hRl
  clear hR
  have HV := Lib.hid hv; have HU := Lib.hid hu
  obtain ⟨va, vc, fv0, rfl, -⟩ := hv
  obtain ⟨ua, uc, fu0, rfl, -⟩ := hu
  obtain ⟨-, fa, fc, rfl, -⟩ := hf
  obtain ⟨o1, o2, ⟨z1, z2, z3, z4, z5, z6, z7, z8⟩, o3, ofs, o5⟩ := odd
  unfold acV at hcut ⊢
  simp only at hcut ⊢
  clear ho hfl
  go_enter Tryz.func3, Tryz.ntmps3
  go_wp2_with fail
  obtain ⟨W0, hW0⟩ : ∃ W0 : World, W0 = w.alloc (.cells #[.int .i64 o1, .int .i64 o2, .int .i64 z1, .int .i64 z2, .int .i64 z3, .int .i64 z4, .int .i64 z5, .string z6, .int .i64 z7, .int .i64 z8, .int .i64 o3, .slice fa ofs.length fc, .string o5] 27) := ⟨_, rfl⟩
  rw [← hW0]
  have hb0 : Below w.heap.size w W0 := by rw [hW0]; exact (Below.refl _ _).alloc (Nat.le_refl _) _
  have hr0 : RowAt w.heap.size (#[.int .i64 o1, .int .i64 o2, .int .i64 z1, .int .i64 z2, .int .i64 z3, .int .i64 z4, .int .i64 z5, .string z6, .int .i64 z7, .int .i64 z8, .int .i64 o3, .slice fa ofs.length fc, .string o5] : Array Value).toList W0 := by rw [hW0]; exact RowAt.new w _ _
  clear hW0
  refine (examples_any W0 (ok.below hb0)).mono ?_
  rintro e w1 ⟨rfl, hb1⟩
  have hB1 := below_on hb0 hb1
  go_wp2_with fail
  refine (hsc w1 (HV.out.below hB1)).mono ?_
  rintro e w2 ⟨rv, rfl, hA2, hb2⟩
  have hB2 := below_on hB1 hb2
  have HA2 := Lib.hid hA2
  obtain ⟨a1, c1, fv1, rfl, hc1, -⟩ := hA2
  obtain ⟨⟨p0, p1, p2, p3, p4, p5, p6, p7, p8, p9, p10, p11, p12⟩, -⟩ := ((hr0.below hb1).below hb2).all13
  clear hr0 hsc
  go_wp2_with fail
  refine (hcut w2 hB2).mono ?_
  rintro e w3 ⟨gv, rfl, hgf, hgr, hb3⟩
  have hB3 := below_on hB2 hb3
  have HGF := Lib.hid hgf; have HGR := Lib.hid hgr
  obtain ⟨ga, gc, rfl, -⟩ := hgf
  clear hcut hgr p0 p1 p2 p3 p4 p5 p6 p7 p8 p9 p10 p11 p12
  have hpk := pick27_any at_ ((A.length : Int) + 1)
  have hpi := Pa.pick_in at_ (n := (A.length : Int) + 1) (by omega)
  obtain ⟨k, hk⟩ : ∃ k : Nat, Pa.pickI at_ ((A.length : Int) + 1) = (k : Int) := ⟨(Pa.pickI at_ ((A.length : Int) + 1)).toNat, by omega⟩
  rw [hk] at hpk hpi
  have hkl : k ≤ A.length := by omega
  clear hk hpi
  go_wp2_with fail
  obtain ⟨W4, hW4⟩ : ∃ W4 : World, W4 = w3.alloc (.cells #[.int .i64 r1, .int .i64 r2, .int .i64 q1, .int .i64 q2, .int .i64 q3, .int .i64 q4, .int .i64 q5, .string q6, .int .i64 q7, .int .i64 q8, .int .i64 r3, .slice ga rf.length gc, .string r5] 27) := ⟨_, rfl⟩
  rw [← hW4]
  have hb4 : Below w3.heap.size w3 W4 := by rw [hW4]; exact (Below.refl _ _).alloc (Nat.le_refl _) _
  have hB4 := below_on hB3 hb4
  obtain ⟨G, hG⟩ : ∃ G, G = w3.heap.size := ⟨_, rfl⟩
  have hr4 : RowAt G (#[.int .i64 r1, .int .i64 r2, .int .i64 q1, .int .i64 q2, .int .i64 q3, .int .i64 q4, .int .i64 q5, .string q6, .int .i64 q7, .int .i64 q8, .int .i64 r3, .slice ga rf.length gc, .string r5] : Array Value).toList W4 := by rw [hW4, hG]; exact RowAt.new w3 _ _
  rw [← hG]
  have HG : Hid (G = w3.heap.size) := hG
  clear hW4 hG
  refine (hpk W4 h0 h1 (by omega) (by omega)).mono ?_
  rintro e w5 ⟨rfl, rfl⟩
  obtain ⟨lp, hlp, KA⟩ := ((HA2.out.below hb3).below hb4).pairs
  have hlpl : lp.length = A.length := by rw [← hlp]; simp
  have KT : ActP W4 (.slice a1 k c1) (lp.take k) := by
    obtain ⟨a, c, h, _, h'⟩ := KA.take k (by omega)
    injection h with e1 e2 e3
    subst e1 e3; exact h'
  have hgf := (HGF.out.below hb4)
  have HKD : Hid (∀ a' c', A.length - k ≤ c' → (k < A.length → a' = a1.map (·.add (k * 13))) → ActP W4 (.slice a' (A.length - k) c') (lp.drop k)) := fun a' c' h1 h2 => by
    have KA' := KA
    rw [← hlpl] at KA' h1 h2 ⊢
    exact KA'.drop k (by omega) a' c' h1 h2
  have KD : ActP W4 (.slice (if c1 = k then a1 else Option.map (fun x => x.add (k * 13)) a1) (A.length - k) (c1 - k)) (lp.drop k) := HKD.out _ _ (by omega) (fun h => by rw [if_neg (by omega)])
  have HLP := Lib.hid hlp; have HLL := Lib.hid hlpl
  clear HKD
  obtain ⟨ad, hif⟩ : ∃ ad, (if c1 = k then a1 else Option.map (fun x => x.add (k * 13)) a1) = ad := ⟨_, rfl⟩
  rw [hif] at KD
  clear hpk hlp hlpl
  obtain ⟨lt, hlt⟩ : ∃ lt, lt = lp.take k := ⟨_, rfl⟩
  obtain ⟨ld, hld⟩ : ∃ ld, ld = lp.drop k := ⟨_, rfl⟩
  rw [← hlt] at KT
  rw [← hld] at KD
  have HLT : Hid (lt.length = k ∧ ld.length = A.length - k ∧ lt ++ ld = lp) := by
    rw [Hid, hlt, hld]; have := HLL.out; refine ⟨by simp; omega, by simp; omega, List.take_append_drop _ _⟩
  clear hlt hld
  have b1 : (0 : Int) ≤ (k : Int) := by omega
  have b2 : (k : Int) ≤ (c1 : Int) := by omega
  have b3 : (k : Int) ≤ (A.length : Int) := by omega
  have hGl : G < W4.heap.size := hr4.1
  have HRL : Hid ((⟨r1, r2, ⟨q1, q2, q3, q4, q5, q6, q7, q8⟩, r3, rf, r5⟩ : Pa.Ac).fates.length ≤ 9223372036854775807) := by show rf.length ≤ _; omega
  have HAP : Hid (∀ p6 c6 w6 n6 xs, World.ownsRow w6 W4.heap.size 27 13 (.slice p6 lt.length c6) n6 xs → ∀ p ∈ [((⟨r1, r2, ⟨q1, q2, q3, q4, q5, q6, q7, q8⟩, r3, rf, r5⟩ : Pa.Ac), Value.slice ga rf.length gc)], p.1.fates ≠ [] → ∀ b, p.2.ownBlock = some b → (Value.slice p6 lt.length c6).ownBlock ≠ some b) := fun p6 c6 w6 n6 xs hO p hp hn b hb e => by
    rw [List.mem_singleton.1 hp] at hn hb
    have := hgf.lt hn hb
    have := owns_base hO e
    omega
  have HAP2 : Hid (∀ p6 c6 w6 n6 xs, World.ownsRow w6 W4.heap.size 27 13 (.slice p6 (lt.length + 1) c6) n6 xs → ∀ p ∈ ld, p.1.fates ≠ [] → ∀ b, p.2.ownBlock = some b → (Value.slice p6 (lt.length + 1) c6).ownBlock ≠ some b) := fun p6 c6 w6 n6 xs hO p hp hn b hb e => by
    obtain ⟨a, c, h3, -, h5, -⟩ := KA
    have := (h5 p (by rw [← HLT.out.2.2]; exact List.mem_append_right _ hp)).1.lt hn hb
    have := owns_base hO e
    omega
  have KS : Hid (∀ w' : World, Below W4.heap.size W4 w' → Below W4.heap.size W4 w' ∧ w'.cell? ⟨G, 0, none⟩ = some (.int .i64 r1) ∧ w'.cell? ⟨G, 1, none⟩ = some (.int .i64 r2) ∧ w'.cell? ⟨G, 2, none⟩ = some (.int .i64 q1) ∧ w'.cell? ⟨G, 3, none⟩ = some (.int .i64 q2) ∧ w'.cell? ⟨G, 4, none⟩ = some (.int .i64 q3) ∧ w'.cell? ⟨G, 5, none⟩ = some (.int .i64 q4) ∧ w'.cell? ⟨G, 6, none⟩ = some (.int .i64 q5) ∧ w'.cell? ⟨G, 7, none⟩ = some (.string q6) ∧ w'.cell? ⟨G, 8, none⟩ = some (.int .i64 q7) ∧ w'.cell? ⟨G, 9, none⟩ = some (.int .i64 q8) ∧ w'.cell? ⟨G, 10, none⟩ = some (.int .i64 r3) ∧ w'.cell? ⟨G, 11, none⟩ = some (.slice ga rf.length gc) ∧ w'.cell? ⟨G, 12, none⟩ = some (.string r5)) := fun w' hb => by
    obtain ⟨⟨c0, c1, c2, c3, c4, c5, c6, c7, c8, c9, c10, c11, c12⟩, -⟩ := (hr4.below hb).all13
    exact ⟨hb, c0, c1, c2, c3, c4, c5, c6, c7, c8, c9, c10, c11, c12⟩
  go_upto_region 7 with fail
  go_cut [15] (fun s15 wx => Cut7 W4 s15 wx)
  case first =>
   go_region_held3 (fun w' => Below W4.heap.size W4 w' ∧ w'.cell? ⟨G, 0, none⟩ = some (.int .i64 r1) ∧ w'.cell? ⟨G, 1, none⟩ = some (.int .i64 r2) ∧ w'.cell? ⟨G, 2, none⟩ = some (.int .i64 q1) ∧ w'.cell? ⟨G, 3, none⟩ = some (.int .i64 q2) ∧ w'.cell? ⟨G, 4, none⟩ = some (.int .i64 q3) ∧ w'.cell? ⟨G, 5, none⟩ = some (.int .i64 q4) ∧ w'.cell? ⟨G, 6, none⟩ = some (.int .i64 q5) ∧ w'.cell? ⟨G, 7, none⟩ = some (.string q6) ∧ w'.cell? ⟨G, 8, none⟩ = some (.int .i64 q7) ∧ w'.cell? ⟨G, 9, none⟩ = some (.int .i64 q8) ∧ w'.cell? ⟨G, 10, none⟩ = some (.int .i64 r3) ∧ w'.cell? ⟨G, 11, none⟩ = some (.slice ga rf.length gc) ∧ w'.cell? ⟨G, 12, none⟩ = some (.string r5))
    ((refine KS.out _ ?_; first | exact (Below.refl _ _).drew | exact Below.alloc (‹Below W4.heap.size W4 _ ∧ _›).1 (‹Below W4.heap.size W4 _ ∧ _›).1.size _ | exact Kp.up (‹Below W4.heap.size W4 _ ∧ _›).1 hk6 (‹Below W4.heap.size W4 _ ∧ _›).1.size (fun j hj e => by cases e) | exact Kp.up (‹Below W4.heap.size W4 _ ∧ _›).1 hk7 (‹Below W4.heap.size W4 _ ∧ _›).1.size (fun j hj e => by have := owns_base hO6.1 e; omega) | exact Kp.up (‹Below W4.heap.size W4 _ ∧ _›).1 hk8 (‹Below W4.heap.size W4 _ ∧ _›).1.size (fun j hj e => by have := owns_base hO7.1 e; omega)))
    (first
      | (refine step_append_acts (o := ⟨some 44, _, _, _, _, _⟩) (by rfl) (.const (.slice none 0 0)) (.tmp 43) (by rfl) W4.heap.size (‹Below W4.heap.size W4 _ ∧ _›).1.size (.slice none 0 0) [] (by rfl) (OwnA.nil _ _) _ lt (by rfl) (KT.below (‹Below W4.heap.size W4 _ ∧ _›).1) (fun p hp h0 b hb e => by cases e) (by have := HLT.out; simp; omega) ?_; intro p6 c6 w6 hO6 hk6; have hb6 : Below W4.heap.size W4 w6 := Kp.up (‹Below W4.heap.size W4 _ ∧ _›).1 hk6 (‹Below W4.heap.size W4 _ ∧ _›).1.size (fun j hj e => by cases e); simp only [List.nil_append, List.length_nil, Nat.zero_add] at hO6 ⊢)
      | (refine step_append_acts (o := ⟨some 47, _, _, _, _, _⟩) (w := World.alloc w6 _) (by rfl) (.tmp 44) (.tmp 46) (by rfl) W4.heap.size (‹Below W4.heap.size W4 _ ∧ _›).1.size (.slice p6 lt.length c6) lt (by rfl) (hO6.below ((Below.refl _ _).alloc (Nat.le_refl _) _)) _ [((⟨r1, r2, ⟨q1, q2, q3, q4, q5, q6, q7, q8⟩, r3, rf, r5⟩ : Pa.Ac), .slice ga rf.length gc)] (by rfl) (ActP.one w6 (⟨r1, r2, ⟨q1, q2, q3, q4, q5, q6, q7, q8⟩, r3, rf, r5⟩ : Pa.Ac) (.slice ga rf.length gc) (hgf.below hb6) HRL.out) (HAP.out _ _ _ _ _ hO6.1) (by have := HLT.out; simp; omega) ?_; intro p7 c7 w7 hO7 hk7; simp only [List.length_cons, List.length_nil, Nat.zero_add] at hO7 ⊢)
      | (refine step_append_acts (o := ⟨some 47, _, _, _, _, _⟩) (by rfl) (.tmp 44) (.tmp 46) (by rfl) W4.heap.size (‹Below W4.heap.size W4 _ ∧ _›).1.size (.slice p6 lt.length c6) lt (by rfl) hO6 _ [((⟨r1, r2, ⟨q1, q2, q3, q4, q5, q6, q7, q8⟩, r3, rf, r5⟩ : Pa.Ac), .slice ga rf.length gc)] (by rfl) ((ActP.one _ (⟨r1, r2, ⟨q1, q2, q3, q4, q5, q6, q7, q8⟩, r3, rf, r5⟩ : Pa.Ac) (.slice ga rf.length gc) (hgf.below (Below.refl _ _).drew) HRL.out).below (hk6.below (Nat.le_refl _) (fun j hj e => by cases e))) (HAP.out _ _ _ _ _ hO6.1) (by have := HLT.out; simp; omega) ?_; intro p7 c7 w7 hO7 hk7; simp only [List.length_cons, List.length_nil, Nat.zero_add] at hO7 ⊢)
      | (refine step_append_acts (o := ⟨some 51, _, _, _, _, _⟩) (by rfl) (.tmp 47) (.tmp 50) (by rfl) W4.heap.size (‹Below W4.heap.size W4 _ ∧ _›).1.size (.slice p7 (lt.length + 1) c7) (lt ++ [((⟨r1, r2, ⟨q1, q2, q3, q4, q5, q6, q7, q8⟩, r3, rf, r5⟩ : Pa.Ac), .slice ga rf.length gc)]) (by rfl) hO7 _ ld (by rfl) (KD.below (‹Below W4.heap.size W4 _ ∧ _›).1) (HAP2.out _ _ _ _ _ hO7.1) (by have := HLT.out; simp; omega) ?_; intro p8 c8 w8 hO8 hk8))
   all_goals
    have hb8 := (‹Below W4.heap.size W4 w8 ∧ _›).1
    go_wp2_with fail
    go_meet
    refine ⟨(lt ++ [((⟨r1, r2, ⟨q1, q2, q3, q4, q5, q6, q7, q8⟩, r3, rf, r5⟩ : Pa.Ac), Value.slice ga rf.length gc)] ++ ld).map Prod.fst, ?_, ?_, hb8⟩
    · have h := hO8.acts
      simp only [List.length_append, List.length_cons, List.length_nil, Nat.zero_add] at h
      exact h
    · have := HLT.out; simp; omega
  case rest =>
  obtain ⟨W8, rfl⟩ : ∃ W8, W8 = wc := ⟨wc, rfl⟩
  obtain ⟨L3, hL3, hl3, hb8⟩ := hcut
  have HL3 := Lib.hid hL3
  obtain ⟨a3, c3, fv3, rfl, hc3, -⟩ := hL3
  have hB8 := below_on hB4 hb8
  have hr8 := hr4.below hb8
  have HA8 := Lib.hid (((HA2.out.below hb3).below hb4).below hb8)
  have HG8 := Lib.hid (hgf.below hb8)
  clear KS HAP HAP2 hif KD KT KA HLT HLP HLL hr4 hGl hgf
  have M0 : 0 ≤ many % 110 := Int.emod_nonneg _ (by decide)
  have M1 : many % 110 < 110 := Int.emod_lt_of_pos _ (by decide)
  go_upto_block 0 with fail
  go_cut [16] (fun s16 wx => Cut1 W8 s16 wx)
  case first =>
    go_wp2_with fail
    go_loopw [16, 17] (fun lo iv wr => ∃ (i : Nat) (lq : List (Pa.Ac × Value)), iv = .int .i64 i ∧ i ≤ 110 ∧ lq.length = i ∧ OwnA W8.heap.size wr lo lq ∧ Below W8.heap.size W8 wr) (fun _ iv _ => 111 - (intOf iv).toNat)
    case atStart => exact ⟨0, [], rfl, Nat.zero_le _, rfl, OwnA.nil _ _, Below.refl _ _⟩
    case round =>
      obtain ⟨i, lq, rfl, hi, hlq, hO, hBr⟩ := hrel
      subst hlq
      obtain ⟨vp, vq, rfl⟩ := owns_slice hO.1
      by_cases hM : (lq.length : Int) < many % 110
      · by_cases hA0 : 0 < A.length
        · obtain ⟨a1', c1', fvA, hv', hcA, hfs, hcs⟩ := HA8.out
          cases hv'
          obtain ⟨b, o, rfl, hbl, hcell⟩ := hcs (fun e => by simp [e] at hA0)
          obtain ⟨j, hj⟩ : ∃ j : Nat, (lq.length : Int) % (A.length : Int) = (j : Int) := ⟨lq.length % A.length, by omega⟩
          have hjA : j < A.length := by have := Int.emod_lt_of_pos (lq.length : Int) (show (0 : Int) < (A.length : Int) by omega); omega
          obtain ⟨hf1, hx1⟩ := hfs j hjA
          have HF1 := Lib.hid hf1
          have g : ∀ (i : Nat) (u : Value), (acCells A[j] (fvA j))[i]? = some u → wr.cell? ⟨b, o + j * 13 + i, none⟩ = some u := fun i u hu => cell_below hBr hbl (hcell j hjA i u hu)
          have e0 := g 0 _ rfl
          have e1 := g 1 _ rfl
          have e2 := g 2 _ rfl
          have e3 := g 3 _ rfl
          have e4 := g 4 _ rfl
          have e5 := g 5 _ rfl
          have e6 := g 6 _ rfl
          have e7 := g 7 _ rfl
          have e8 := g 8 _ rfl
          have e9 := g 9 _ rfl
          have e10 := g 10 _ rfl
          have e11 := g 11 _ rfl
          have e12 := g 12 _ rfl
          rw [Nat.add_zero] at e0
          obtain ⟨⟨y1, y2, ⟨x1, x2, x3, x4, x5, x6, x7, x8⟩, y3, fs, y5⟩, hy⟩ : ∃ y, y = A[j] := ⟨_, rfl⟩
          rw [← hy] at e0 e1 e2 e3 e4 e5 e6 e7 e8 e9 e10 e12 HF1 hx1
          clear hy
          obtain ⟨f, hf⟩ : ∃ f, f = fvA j := ⟨_, rfl⟩
          rw [← hf] at e11 HF1
          clear hf hf1 g hcell hcs hfs
          simp only at HF1 hx1 e0 e1 e2 e3 e4 e5 e6 e7 e8 e9 e10 e12
          have HF0 := HF1
          have hfA := HF1.out
          obtain ⟨ya, yc, rfl, -⟩ := hfA
          have b1' : (0 : Int) ≤ (j : Int) := by omega
          have b2' : (j : Int) < (A.length : Int) := by omega
          have hws := hBr.size
          go_wp2_with (at_builtin; refine wpList_append_acts (by rfl) (.tmp 64) (.tmp 72) (by rfl) W8.heap.size (by simp; omega) (.slice vp lq.length vq) lq (by rfl) (hO.below ((Below.refl _ _).alloc (Nat.le_refl _) _)) _ [((⟨y1, y2, ⟨x1, x2, x3, x4, x5, x6, x7, x8⟩, y3, fs, y5⟩ : Pa.Ac), .slice ya fs.length yc)] (by rfl) (ActP.one wr _ _ (HF1.out.below hBr) hx1) (fun p hp hn b hb e => by rw [List.mem_singleton.1 hp] at hn hb; have h1 := HF1.out.lt hn hb; have h2 := owns_base hO.1 e; omega) (by simp; omega) ?_; intro p6 c6 w6 hO6 hk6; simp only [List.length_cons, List.length_nil, Nat.zero_add] at hO6 ⊢)
          have hb6 : Below W8.heap.size W8 w6 := Kp.up (hBr.alloc hws _) hk6 (by simp; omega) (fun j hj e => by have := owns_base hO.1 e; omega)
          clear e0 e1 e2 e3 e4 e5 e6 e7 e8 e9 e10 e11 e12 hk6
          go_roundw
          case rel => exact ⟨lq.length + 1, _, by go_num, by omega, by simp, hO6, hb6⟩
          case measure => simp [intOf]; omega
        · have hA1 : ¬ (0 : Int) < (A.length : Int) := by omega
          go_wp2_with fail
          go_meet
          exact ⟨_, hO.acts, by simp; omega, hBr⟩
      · go_wp2_with fail
        go_meet
        exact ⟨_, hO.acts, by simp; omega, hBr⟩
  case rest =>
  obtain ⟨W9, rfl⟩ : ∃ W9, W9 = wc := ⟨wc, rfl⟩
  obtain ⟨L4, hL4, hl4, hb9⟩ := hcut
  have HL4 := Lib.hid hL4
  obtain ⟨a4, c4, fv4, rfl, hc4, -⟩ := hL4
  have hB9 := below_on hB8 hb9
  have hr9 := hr8.below hb9
  have HA9 := Lib.hid (HA8.out.below hb9)
  have HL9 := Lib.hid (HL3.out.below hb9)
  have hg9 := HG8.out.below hb9
  have HRL : Hid ((⟨r1, r2, ⟨q1, q2, q3, q4, q5, q6, q7, q8⟩, r3, rf, r5⟩ : Pa.Ac).fates.length ≤ 9223372036854775807) := by show rf.length ≤ _; omega
  have KS : Hid (∀ w' : World, Below W9.heap.size W9 w' → Below W9.heap.size W9 w' ∧ w'.cell? ⟨G, 0, none⟩ = some (.int .i64 r1) ∧ w'.cell? ⟨G, 1, none⟩ = some (.int .i64 r2) ∧ w'.cell? ⟨G, 2, none⟩ = some (.int .i64 q1) ∧ w'.cell? ⟨G, 3, none⟩ = some (.int .i64 q2) ∧ w'.cell? ⟨G, 4, none⟩ = some (.int .i64 q3) ∧ w'.cell? ⟨G, 5, none⟩ = some (.int .i64 q4) ∧ w'.cell? ⟨G, 6, none⟩ = some (.int .i64 q5) ∧ w'.cell? ⟨G, 7, none⟩ = some (.string q6) ∧ w'.cell? ⟨G, 8, none⟩ = some (.int .i64 q7) ∧ w'.cell? ⟨G, 9, none⟩ = some (.int .i64 q8) ∧ w'.cell? ⟨G, 10, none⟩ = some (.int .i64 r3) ∧ w'.cell? ⟨G, 11, none⟩ = some (.slice ga rf.length gc) ∧ w'.cell? ⟨G, 12, none⟩ = some (.string r5)) := fun w' hb => by
    obtain ⟨⟨c0, c1, c2, c3, c4, c5, c6, c7, c8, c9, c10, c11, c12⟩, -⟩ := (hr9.below hb).all13
    exact ⟨hb, c0, c1, c2, c3, c4, c5, c6, c7, c8, c9, c10, c11, c12⟩
  clear hr8 HA8 HL3 HG8
  go_upto_region 13 with fail
  go_cut [81, 82, 83] (fun s81 s82 s83 wx => Cut13 W9 s81 s82 s83 wx)
  case first =>
    go_region_held3 (fun w' => Below W9.heap.size W9 w' ∧ w'.cell? ⟨G, 0, none⟩ = some (.int .i64 r1) ∧ w'.cell? ⟨G, 1, none⟩ = some (.int .i64 r2) ∧ w'.cell? ⟨G, 2, none⟩ = some (.int .i64 q1) ∧ w'.cell? ⟨G, 3, none⟩ = some (.int .i64 q2) ∧ w'.cell? ⟨G, 4, none⟩ = some (.int .i64 q3) ∧ w'.cell? ⟨G, 5, none⟩ = some (.int .i64 q4) ∧ w'.cell? ⟨G, 6, none⟩ = some (.int .i64 q5) ∧ w'.cell? ⟨G, 7, none⟩ = some (.string q6) ∧ w'.cell? ⟨G, 8, none⟩ = some (.int .i64 q7) ∧ w'.cell? ⟨G, 9, none⟩ = some (.int .i64 q8) ∧ w'.cell? ⟨G, 10, none⟩ = some (.int .i64 r3) ∧ w'.cell? ⟨G, 11, none⟩ = some (.slice ga rf.length gc) ∧ w'.cell? ⟨G, 12, none⟩ = some (.string r5))
      ((refine KS.out _ ?_; first | exact (Below.refl _ _).drew | exact below_on (‹Below W9.heap.size W9 _ ∧ _›).1 (by assumption) | exact Below.alloc (‹Below W9.heap.size W9 _ ∧ _›).1 (‹Below W9.heap.size W9 _ ∧ _›).1.size _))
      (first
        | (go_at_call 9; refine (hsd _ (HU.out.below (below_on hB9 (‹Below W9.heap.size W9 _ ∧ _›).1))).mono ?_; rintro e w10 ⟨rv, rfl, hAm, hb10⟩; have hbm := below_on (‹Below W9.heap.size W9 _ ∧ _›).1 hb10; have HAM := Lib.hid hAm; obtain ⟨am, cm, fvm, rfl, hcm, -⟩ := hAm))
    · go_wp2_with fail
      go_meet
      have h := cut13_mk (W := W9) 29 ⟨(HA9.out.below hbm).below ((Below.refl _ _).alloc (Nat.le_refl _) _), by omega⟩ ⟨HAM.out.below ((Below.refl _ _).alloc (Nat.le_refl _) _), by omega⟩ ⟨(HL9.out.below hbm).below ((Below.refl _ _).alloc (Nat.le_refl _) _), by omega⟩ ⟨(HL4.out.below hbm).below ((Below.refl _ _).alloc (Nat.le_refl _) _), by omega⟩ ⟨(ActP.one w10 (⟨r1, r2, ⟨q1, q2, q3, q4, q5, q6, q7, q8⟩, r3, rf, r5⟩ : Pa.Ac) (.slice ga rf.length gc) (hg9.below hbm) HRL.out).acts, by simp⟩ (below_on hbm ((Below.refl _ _).alloc (Nat.le_refl _) _))
      rw [World.size_alloc] at h
      exact h
    · go_wp2_with fail
      go_meet
      exact cut13_mk _ ⟨HA9.out.below hbm, by omega⟩ ⟨HAM.out, by omega⟩ ⟨HL9.out.below hbm, by omega⟩ ⟨HL4.out.below hbm, by omega⟩ ⟨((ActP.one W9.drew (⟨r1, r2, ⟨q1, q2, q3, q4, q5, q6, q7, q8⟩, r3, rf, r5⟩ : Pa.Ac) (.slice ga rf.length gc) (hg9.below (Below.refl _ _).drew) HRL.out).below hb10).acts, by simp⟩ hbm
  case rest =>
  obtain ⟨Wx, rfl⟩ : ∃ Wx, Wx = wc := ⟨wc, rfl⟩
  obtain ⟨g, Ls, rfl, rfl, rfl, hL5, hgl, hgc, hLs, hbx⟩ := hcut
  have hBx := below_on hB9 hbx
  have hrx := hr9.below hbx
  have HAx := Lib.hid (HA9.out.below hbx)
  have hgx := hg9.below hbx
  have HGC := Lib.hid hgc; have HLS := Lib.hid hLs; have HL5 := Lib.hid hL5
  clear KS hr9 HA9 HL9 HL4 hg9 hsd hgc hLs hL5
  go_wp2_with fail
  go_loopw [83] (fun jv wr => ∃ j : Nat, jv = .int .i64 j ∧ j ≤ 5 ∧ Below Wx.heap.size Wx wr) (fun jv _ => 5 - (intOf jv).toNat)
  case atStart => exact ⟨0, rfl, Nat.zero_le _, Below.refl _ _⟩
  case round =>
    obtain ⟨j, rfl, hj5, hbr⟩ := hrel
    by_cases hj : j < 5
    · as_aux_lemma =>
        have hjl : j < Ls.length := by have := HL5.out; omega
        have ec := cell_below hbr hgl (HGC.out j hjl)
        obtain ⟨hac, hle⟩ := HLS.out Ls[j] (List.getElem_mem hjl)
        have hac := hac.below hbr
        obtain ⟨⟨y, L⟩, hy⟩ : ∃ y, y = Ls[j] := ⟨_, rfl⟩
        rw [← hy] at ec hac hle
        clear hy
        simp only at ec hac hle
        have HAC := Lib.hid hac
        obtain ⟨ya, yc, yf, rfl, hyc, -⟩ := hac
        have hp1 := print_any L _ wr ((ok.below hBx).below hbr) HAC.out (by omega)
        have hp2 := fun u (hb : Below wr.heap.size wr u) => refPrint_any L _ u (HAC.out.below hb) (by omega)
        unfold POut at hp1 hp2
        obtain ⟨S, hS⟩ : ∃ S : ByteArray, S = ⟨(Pa.prS L).toArray⟩ := ⟨_, rfl⟩
        obtain ⟨E, hE⟩ : ∃ E : Int, E = Pa.prE L := ⟨_, rfl⟩
        rw [← hS, ← hE] at hp1 hp2
        clear hS hE
        have b1 : (0 : Int) ≤ (j : Int) := by omega
        have b2 : (j : Int) < 5 := by omega
        go_wp2_with fail
        refine hp1.mono ?_
        rintro e w11 ⟨rfl, hb11⟩
        go_wp2_with fail
        refine (hp2 _ hb11).mono ?_
        rintro e w12 ⟨rfl, hb12⟩
        clear hp1 hp2 ec
        go_wp2
        go_roundw
        case rel => exact ⟨j + 1, by go_num, by omega, below_on hbr (below_on hb11 hb12)⟩
        case measure => simp [intOf]; omega
    · have b2 : ¬ (j : Int) < 5 := by omega
      obtain rfl : j = 5 := by omega
      go_wp2_with fail
      go_loopw [24] (fun iv w3 => ∃ i : Nat, iv = .int .i64 i ∧ i ≤ A.length ∧ Below Wx.heap.size Wx w3) (fun iv _ => A.length - (intOf iv).toNat)
      case atStart => exact ⟨0, rfl, Nat.zero_le _, hbr⟩
      case round =>
      obtain ⟨i, rfl, hiA, hb3x⟩ := hrel
      obtain ⟨w3, rfl⟩ : ∃ w3, w3 = wr := ⟨wr, rfl⟩
      by_cases hiL : i < A.length
      · obtain ⟨a1', c1', fvA, hv', hcA, hfs, hcs⟩ := HAx.out
        cases hv'
        obtain ⟨b, o, rfl, hbl, hcell⟩ := hcs (fun e => by simp [e] at hiL)
        obtain ⟨hf1, hx1⟩ := hfs i hiL
        have HF1 := Lib.hid (hf1.below hb3x)
        have hblw : b < w3.heap.size := Nat.lt_of_lt_of_le hbl hb3x.size
        have g : ∀ (k : Nat) (u : Value), (acCells A[i] (fvA i))[k]? = some u → w3.cell? ⟨b, o + i * 13 + k, none⟩ = some u := fun k u hu => cell_below hb3x hbl (hcell i hiL k u hu)
        have e0 := g 0 _ rfl
        have e1 := g 1 _ rfl
        have e2 := g 2 _ rfl
        have e3 := g 3 _ rfl
        have e4 := g 4 _ rfl
        have e5 := g 5 _ rfl
        have e6 := g 6 _ rfl
        have e7 := g 7 _ rfl
        have e8 := g 8 _ rfl
        have e9 := g 9 _ rfl
        have e10 := g 10 _ rfl
        have e11 := g 11 _ rfl
        have e12 := g 12 _ rfl
        rw [Nat.add_zero] at e0
        obtain ⟨⟨y1, y2, ⟨x1, x2, x3, x4, x5, x6, x7, x8⟩, y3, fs, y5⟩, hy⟩ : ∃ y, y = A[i] := ⟨_, rfl⟩
        rw [← hy] at e0 e1 e2 e3 e4 e5 e6 e7 e8 e9 e10 e12 HF1 hx1
        clear hy
        obtain ⟨f, hf⟩ : ∃ f, f = fvA i := ⟨_, rfl⟩
        rw [← hf] at e11 HF1
        clear hf hf1 g hcell hcs hfs
        simp only at HF1 hx1 e0 e1 e2 e3 e4 e5 e6 e7 e8 e9 e10 e12
        have hfA := HF1.out
        obtain ⟨ya, yc, rfl, -⟩ := hfA
        obtain ⟨⟨c0, c1', c2, c3', c4', c5, c6, c7, c8, c9, c10, c11, c12⟩, -⟩ := (hrx.below hb3x).all13
        have b1' : (0 : Int) ≤ (i : Int) := by omega
        have b2' : (i : Int) < (A.length : Int) := by omega
        have hGw : G < w3.heap.size := Nat.lt_of_lt_of_le hrx.1 hb3x.size
        have n1 : ¬ G = w3.heap.size := by omega
        have n2 : ¬ G = w3.heap.size + 1 := by omega
        have n3 : ¬ b = w3.heap.size := by omega
        have n4 : ¬ b = w3.heap.size + 1 := by omega
        go_upto_region 30 with fail
        obtain ⟨Wy, hWy⟩ : ∃ Wy : World, Wy = (w3.alloc (.cells #[.int .i64 y1, .int .i64 y2, .int .i64 x1, .int .i64 x2, .int .i64 x3, .int .i64 q4, .int .i64 x5, .string x6, .int .i64 x7, .int .i64 x8, .int .i64 r3, .slice ya fs.length yc, .string y5] 27)).alloc (.cells #[.int .i64 y1, .int .i64 y2, .int .i64 x1, .int .i64 x2, .int .i64 x3, .int .i64 x4, .int .i64 x5, .string x6, .int .i64 q7, .int .i64 q8, .int .i64 y3, .slice ya fs.length yc, .string y5] 27) := ⟨_, rfl⟩
        rw [← hWy]
        have hby : Below w3.heap.size w3 Wy := by rw [hWy]; exact ((Below.refl _ _).alloc (Nat.le_refl _) _).alloc (by simp) _
        have rN : RowAt w3.heap.size (#[.int .i64 y1, .int .i64 y2, .int .i64 x1, .int .i64 x2, .int .i64 x3, .int .i64 q4, .int .i64 x5, .string x6, .int .i64 x7, .int .i64 x8, .int .i64 r3, .slice ya fs.length yc, .string y5] : Array Value).toList Wy := by rw [hWy]; exact (RowAt.new w3 _ _).below ((Below.refl _ _).alloc (Nat.le_refl _) _)
        have rO : RowAt (w3.heap.size + 1) (#[.int .i64 y1, .int .i64 y2, .int .i64 x1, .int .i64 x2, .int .i64 x3, .int .i64 x4, .int .i64 x5, .string x6, .int .i64 q7, .int .i64 q8, .int .i64 y3, .slice ya fs.length yc, .string y5] : Array Value).toList Wy := by
          have h := RowAt.new (w3.alloc (.cells #[.int .i64 y1, .int .i64 y2, .int .i64 x1, .int .i64 x2, .int .i64 x3, .int .i64 q4, .int .i64 x5, .string x6, .int .i64 x7, .int .i64 x8, .int .i64 r3, .slice ya fs.length yc, .string y5] 27)) #[.int .i64 y1, .int .i64 y2, .int .i64 x1, .int .i64 x2, .int .i64 x3, .int .i64 x4, .int .i64 x5, .string x6, .int .i64 q7, .int .i64 q8, .int .i64 y3, .slice ya fs.length yc, .string y5] 27
          rw [World.size_alloc] at h; rw [hWy]; exact h
        have rR := (hrx.below hb3x).below hby
        have hbWy : b < Wy.heap.size := Nat.lt_of_lt_of_le hblw hby.size
        have HFy := Lib.hid (HF1.out.below hby)
        have hgy := (hgx.below hb3x).below hby
        have HCA : Hid (∀ w' : World, Below Wy.heap.size Wy w' → w'.cell? ⟨b, o + i * 13, none⟩ = some (.int .i64 y1) ∧ w'.cell? ⟨b, o + i * 13 + 1, none⟩ = some (.int .i64 y2) ∧ w'.cell? ⟨b, o + i * 13 + 2, none⟩ = some (.int .i64 x1) ∧ w'.cell? ⟨b, o + i * 13 + 3, none⟩ = some (.int .i64 x2) ∧ w'.cell? ⟨b, o + i * 13 + 4, none⟩ = some (.int .i64 x3) ∧ w'.cell? ⟨b, o + i * 13 + 5, none⟩ = some (.int .i64 x4) ∧ w'.cell? ⟨b, o + i * 13 + 6, none⟩ = some (.int .i64 x5) ∧ w'.cell? ⟨b, o + i * 13 + 7, none⟩ = some (.string x6) ∧ w'.cell? ⟨b, o + i * 13 + 8, none⟩ = some (.int .i64 x7) ∧ w'.cell? ⟨b, o + i * 13 + 9, none⟩ = some (.int .i64 x8) ∧ w'.cell? ⟨b, o + i * 13 + 10, none⟩ = some (.int .i64 y3) ∧ w'.cell? ⟨b, o + i * 13 + 11, none⟩ = some (.slice ya fs.length yc) ∧ w'.cell? ⟨b, o + i * 13 + 12, none⟩ = some (.string y5)) := fun w' hb => ⟨cell_below hb hbWy (cell_below hby hblw e0), cell_below hb hbWy (cell_below hby hblw e1), cell_below hb hbWy (cell_below hby hblw e2), cell_below hb hbWy (cell_below hby hblw e3), cell_below hb hbWy (cell_below hby hblw e4), cell_below hb hbWy (cell_below hby hblw e5), cell_below hb hbWy (cell_below hby hblw e6), cell_below hb hbWy (cell_below hby hblw e7), cell_below hb hbWy (cell_below hby hblw e8), cell_below hb hbWy (cell_below hby hblw e9), cell_below hb hbWy (cell_below hby hblw e10), cell_below hb hbWy (cell_below hby hblw e11), cell_below hb hbWy (cell_below hby hblw e12)⟩
        have KS : Hid (∀ w' : World, Below Wy.heap.size Wy w' → Below Wy.heap.size Wy w' ∧ w'.cell? ⟨b, o + i * 13, none⟩ = some (.int .i64 y1) ∧ w'.cell? ⟨b, o + i * 13 + 1, none⟩ = some (.int .i64 y2) ∧ w'.cell? ⟨b, o + i * 13 + 2, none⟩ = some (.int .i64 x1) ∧ w'.cell? ⟨b, o + i * 13 + 3, none⟩ = some (.int .i64 x2) ∧ w'.cell? ⟨b, o + i * 13 + 4, none⟩ = some (.int .i64 x3) ∧ w'.cell? ⟨b, o + i * 13 + 5, none⟩ = some (.int .i64 x4) ∧ w'.cell? ⟨b, o + i * 13 + 6, none⟩ = some (.int .i64 x5) ∧ w'.cell? ⟨b, o + i * 13 + 7, none⟩ = some (.string x6) ∧ w'.cell? ⟨b, o + i * 13 + 8, none⟩ = some (.int .i64 x7) ∧ w'.cell? ⟨b, o + i * 13 + 9, none⟩ = some (.int .i64 x8) ∧ w'.cell? ⟨b, o + i * 13 + 10, none⟩ = some (.int .i64 y3) ∧ w'.cell? ⟨b, o + i * 13 + 11, none⟩ = some (.slice ya fs.length yc) ∧ w'.cell? ⟨b, o + i * 13 + 12, none⟩ = some (.string y5) ∧ w'.cell? ⟨w3.heap.size, 0, none⟩ = some (.int .i64 y1) ∧ w'.cell? ⟨w3.heap.size, 1, none⟩ = some (.int .i64 y2) ∧ w'.cell? ⟨w3.heap.size, 2, none⟩ = some (.int .i64 x1) ∧ w'.cell? ⟨w3.heap.size, 3, none⟩ = some (.int .i64 x2) ∧ w'.cell? ⟨w3.heap.size, 4, none⟩ = some (.int .i64 x3) ∧ w'.cell? ⟨w3.heap.size, 5, none⟩ = some (.int .i64 q4) ∧ w'.cell? ⟨w3.heap.size, 6, none⟩ = some (.int .i64 x5) ∧ w'.cell? ⟨w3.heap.size, 7, none⟩ = some (.string x6) ∧ w'.cell? ⟨w3.heap.size, 8, none⟩ = some (.int .i64 x7) ∧ w'.cell? ⟨w3.heap.size, 9, none⟩ = some (.int .i64 x8) ∧ w'.cell? ⟨w3.heap.size, 10, none⟩ = some (.int .i64 r3) ∧ w'.cell? ⟨w3.heap.size, 11, none⟩ = some (.slice ya fs.length yc) ∧ w'.cell? ⟨w3.heap.size, 12, none⟩ = some (.string y5) ∧ w'.cell? ⟨w3.heap.size + 1, 0, none⟩ = some (.int .i64 y1) ∧ w'.cell? ⟨w3.heap.size + 1, 1, none⟩ = some (.int .i64 y2) ∧ w'.cell? ⟨w3.heap.size + 1, 2, none⟩ = some (.int .i64 x1) ∧ w'.cell? ⟨w3.heap.size + 1, 3, none⟩ = some (.int .i64 x2) ∧ w'.cell? ⟨w3.heap.size + 1, 4, none⟩ = some (.int .i64 x3) ∧ w'.cell? ⟨w3.heap.size + 1, 5, none⟩ = some (.int .i64 x4) ∧ w'.cell? ⟨w3.heap.size + 1, 6, none⟩ = some (.int .i64 x5) ∧ w'.cell? ⟨w3.heap.size + 1, 7, none⟩ = some (.string x6) ∧ w'.cell? ⟨w3.heap.size + 1, 8, none⟩ = some (.int .i64 q7) ∧ w'.cell? ⟨w3.heap.size + 1, 9, none⟩ = some (.int .i64 q8) ∧ w'.cell? ⟨w3.heap.size + 1, 10, none⟩ = some (.int .i64 y3) ∧ w'.cell? ⟨w3.heap.size + 1, 11, none⟩ = some (.slice ya fs.length yc) ∧ w'.cell? ⟨w3.heap.size + 1, 12, none⟩ = some (.string y5) ∧ w'.cell? ⟨G, 0, none⟩ = some (.int .i64 r1) ∧ w'.cell? ⟨G, 1, none⟩ = some (.int .i64 r2) ∧ w'.cell? ⟨G, 2, none⟩ = some (.int .i64 q1) ∧ w'.cell? ⟨G, 3, none⟩ = some (.int .i64 q2) ∧ w'.cell? ⟨G, 4, none⟩ = some (.int .i64 q3) ∧ w'.cell? ⟨G, 5, none⟩ = some (.int .i64 q4) ∧ w'.cell? ⟨G, 6, none⟩ = some (.int .i64 q5) ∧ w'.cell? ⟨G, 7, none⟩ = some (.string q6) ∧ w'.cell? ⟨G, 8, none⟩ = some (.int .i64 q7) ∧ w'.cell? ⟨G, 9, none⟩ = some (.int .i64 q8) ∧ w'.cell? ⟨G, 10, none⟩ = some (.int .i64 r3) ∧ w'.cell? ⟨G, 11, none⟩ = some (.slice ga rf.length gc) ∧ w'.cell? ⟨G, 12, none⟩ = some (.string r5)) := fun w' hb => by
          obtain ⟨p0, p1, p2, p3, p4, p5, p6, p7, p8, p9, p10, p11, p12⟩ := HCA.out w' hb
          obtain ⟨⟨s0, s1, s2, s3, s4, s5, s6, s7, s8, s9, s10, s11, s12⟩, -⟩ := (rN.below hb).all13
          obtain ⟨⟨d0, d1, d2, d3, d4, d5, d6, d7, d8, d9, d10, d11, d12⟩, -⟩ := (rO.below hb).all13
          obtain ⟨⟨g0, g1, g2, g3, g4, g5, g6, g7, g8, g9, g10, g11, g12⟩, -⟩ := (rR.below hb).all13
          exact ⟨hb, p0, p1, p2, p3, p4, p5, p6, p7, p8, p9, p10, p11, p12, s0, s1, s2, s3, s4, s5, s6, s7, s8, s9, s10, s11, s12, d0, d1, d2, d3, d4, d5, d6, d7, d8, d9, d10, d11, d12, g0, g1, g2, g3, g4, g5, g6, g7, g8, g9, g10, g11, g12⟩
        clear hWy e0 e1 e2 e3 e4 e5 e6 e7 e8 e9 e10 e11 e12 c0 c1' c2 c3' c4' c5 c6 c7 c8 c9 c10 c11 c12 n1 n2 n3 n4
        go_cut [145, 146, 147] (fun s145 s146 s147 wx => Cut30 Wy [((⟨y1, y2, ⟨x1, x2, x3, x4, x5, x6, x7, x8⟩, y3, fs, y5⟩ : Pa.Ac), .slice ya fs.length yc), ((⟨y1, y2, ⟨x1, x2, x3, q4, x5, x6, x7, x8⟩, r3, fs, y5⟩ : Pa.Ac), .slice ya fs.length yc), ((⟨y1, y2, ⟨x1, x2, x3, x4, x5, x6, q7, q8⟩, y3, fs, y5⟩ : Pa.Ac), .slice ya fs.length yc), ((⟨r1, r2, ⟨q1, q2, q3, q4, q5, q6, q7, q8⟩, r3, rf, r5⟩ : Pa.Ac), .slice ga rf.length gc)] s145 s146 s147 wx)
        case first =>
          go_region_held3 (fun w' => Below Wy.heap.size Wy w' ∧ w'.cell? ⟨b, o + i * 13, none⟩ = some (.int .i64 y1) ∧ w'.cell? ⟨b, o + i * 13 + 1, none⟩ = some (.int .i64 y2) ∧ w'.cell? ⟨b, o + i * 13 + 2, none⟩ = some (.int .i64 x1) ∧ w'.cell? ⟨b, o + i * 13 + 3, none⟩ = some (.int .i64 x2) ∧ w'.cell? ⟨b, o + i * 13 + 4, none⟩ = some (.int .i64 x3) ∧ w'.cell? ⟨b, o + i * 13 + 5, none⟩ = some (.int .i64 x4) ∧ w'.cell? ⟨b, o + i * 13 + 6, none⟩ = some (.int .i64 x5) ∧ w'.cell? ⟨b, o + i * 13 + 7, none⟩ = some (.string x6) ∧ w'.cell? ⟨b, o + i * 13 + 8, none⟩ = some (.int .i64 x7) ∧ w'.cell? ⟨b, o + i * 13 + 9, none⟩ = some (.int .i64 x8) ∧ w'.cell? ⟨b, o + i * 13 + 10, none⟩ = some (.int .i64 y3) ∧ w'.cell? ⟨b, o + i * 13 + 11, none⟩ = some (.slice ya fs.length yc) ∧ w'.cell? ⟨b, o + i * 13 + 12, none⟩ = some (.string y5) ∧ w'.cell? ⟨w3.heap.size, 0, none⟩ = some (.int .i64 y1) ∧ w'.cell? ⟨w3.heap.size, 1, none⟩ = some (.int .i64 y2) ∧ w'.cell? ⟨w3.heap.size, 2, none⟩ = some (.int .i64 x1) ∧ w'.cell? ⟨w3.heap.size, 3, none⟩ = some (.int .i64 x2) ∧ w'.cell? ⟨w3.heap.size, 4, none⟩ = some (.int .i64 x3) ∧ w'.cell? ⟨w3.heap.size, 5, none⟩ = some (.int .i64 q4) ∧ w'.cell? ⟨w3.heap.size, 6, none⟩ = some (.int .i64 x5) ∧ w'.cell? ⟨w3.heap.size, 7, none⟩ = some (.string x6) ∧ w'.cell? ⟨w3.heap.size, 8, none⟩ = some (.int .i64 x7) ∧ w'.cell? ⟨w3.heap.size, 9, none⟩ = some (.int .i64 x8) ∧ w'.cell? ⟨w3.heap.size, 10, none⟩ = some (.int .i64 r3) ∧ w'.cell? ⟨w3.heap.size, 11, none⟩ = some (.slice ya fs.length yc) ∧ w'.cell? ⟨w3.heap.size, 12, none⟩ = some (.string y5) ∧ w'.cell? ⟨w3.heap.size + 1, 0, none⟩ = some (.int .i64 y1) ∧ w'.cell? ⟨w3.heap.size + 1, 1, none⟩ = some (.int .i64 y2) ∧ w'.cell? ⟨w3.heap.size + 1, 2, none⟩ = some (.int .i64 x1) ∧ w'.cell? ⟨w3.heap.size + 1, 3, none⟩ = some (.int .i64 x2) ∧ w'.cell? ⟨w3.heap.size + 1, 4, none⟩ = some (.int .i64 x3) ∧ w'.cell? ⟨w3.heap.size + 1, 5, none⟩ = some (.int .i64 x4) ∧ w'.cell? ⟨w3.heap.size + 1, 6, none⟩ = some (.int .i64 x5) ∧ w'.cell? ⟨w3.heap.size + 1, 7, none⟩ = some (.string x6) ∧ w'.cell? ⟨w3.heap.size + 1, 8, none⟩ = some (.int .i64 q7) ∧ w'.cell? ⟨w3.heap.size + 1, 9, none⟩ = some (.int .i64 q8) ∧ w'.cell? ⟨w3.heap.size + 1, 10, none⟩ = some (.int .i64 y3) ∧ w'.cell? ⟨w3.heap.size + 1, 11, none⟩ = some (.slice ya fs.length yc) ∧ w'.cell? ⟨w3.heap.size + 1, 12, none⟩ = some (.string y5) ∧ w'.cell? ⟨G, 0, none⟩ = some (.int .i64 r1) ∧ w'.cell? ⟨G, 1, none⟩ = some (.int .i64 r2) ∧ w'.cell? ⟨G, 2, none⟩ = some (.int .i64 q1) ∧ w'.cell? ⟨G, 3, none⟩ = some (.int .i64 q2) ∧ w'.cell? ⟨G, 4, none⟩ = some (.int .i64 q3) ∧ w'.cell? ⟨G, 5, none⟩ = some (.int .i64 q4) ∧ w'.cell? ⟨G, 6, none⟩ = some (.int .i64 q5) ∧ w'.cell? ⟨G, 7, none⟩ = some (.string q6) ∧ w'.cell? ⟨G, 8, none⟩ = some (.int .i64 q7) ∧ w'.cell? ⟨G, 9, none⟩ = some (.int .i64 q8) ∧ w'.cell? ⟨G, 10, none⟩ = some (.int .i64 r3) ∧ w'.cell? ⟨G, 11, none⟩ = some (.slice ga rf.length gc) ∧ w'.cell? ⟨G, 12, none⟩ = some (.string r5))
            ((refine KS.out _ ?_; first | exact (Below.refl _ _).drew | exact Below.alloc (‹Below Wy.heap.size Wy _ ∧ _›).1 (‹Below Wy.heap.size Wy _ ∧ _›).1.size _))
            (fail)
          all_goals
            go_wp2_with fail
            go_meet
            have h := acts_new Wy (rowCells [((⟨y1, y2, ⟨x1, x2, x3, x4, x5, x6, x7, x8⟩, y3, fs, y5⟩ : Pa.Ac), .slice ya fs.length yc), ((⟨y1, y2, ⟨x1, x2, x3, q4, x5, x6, x7, x8⟩, r3, fs, y5⟩ : Pa.Ac), .slice ya fs.length yc), ((⟨y1, y2, ⟨x1, x2, x3, x4, x5, x6, q7, q8⟩, y3, fs, y5⟩ : Pa.Ac), .slice ya fs.length yc), ((⟨r1, r2, ⟨q1, q2, q3, q4, q5, q6, q7, q8⟩, r3, rf, r5⟩ : Pa.Ac), .slice ga rf.length gc)]).toArray [((⟨y1, y2, ⟨x1, x2, x3, x4, x5, x6, x7, x8⟩, y3, fs, y5⟩ : Pa.Ac), .slice ya fs.length yc), ((⟨y1, y2, ⟨x1, x2, x3, q4, x5, x6, x7, x8⟩, r3, fs, y5⟩ : Pa.Ac), .slice ya fs.length yc), ((⟨y1, y2, ⟨x1, x2, x3, x4, x5, x6, q7, q8⟩, y3, fs, y5⟩ : Pa.Ac), .slice ya fs.length yc), ((⟨r1, r2, ⟨q1, q2, q3, q4, q5, q6, q7, q8⟩, r3, rf, r5⟩ : Pa.Ac), .slice ga rf.length gc)] 4 rfl (by simp) (by
              intro p hp
              simp only [List.mem_cons, List.not_mem_nil, or_false] at hp
              rcases hp with rfl | rfl | rfl | rfl
              · exact ⟨HFy.out, hx1⟩
              · exact ⟨HFy.out, hx1⟩
              · exact ⟨HFy.out, hx1⟩
              · exact ⟨hgy, HRL.out⟩)
            exact ⟨rfl, rfl, ⟨_, rfl⟩, h.below (Below.refl _ _).drew, ((Below.refl _ _).alloc (Nat.le_refl _) _).drew⟩
        case rest =>
        obtain ⟨Wz, rfl⟩ : ∃ Wz, Wz = wc := ⟨wc, rfl⟩
        obtain ⟨rfl, rfl, ⟨g4, rfl⟩, hYs, hbz⟩ := hcut
        have HYs : Hid (Acts Wz (.slice (some ⟨g4, 0, none⟩) 4 4) [(⟨y1, y2, ⟨x1, x2, x3, x4, x5, x6, x7, x8⟩, y3, fs, y5⟩ : Pa.Ac), (⟨y1, y2, ⟨x1, x2, x3, q4, x5, x6, x7, x8⟩, r3, fs, y5⟩ : Pa.Ac), (⟨y1, y2, ⟨x1, x2, x3, x4, x5, x6, q7, q8⟩, y3, fs, y5⟩ : Pa.Ac), (⟨r1, r2, ⟨q1, q2, q3, q4, q5, q6, q7, q8⟩, r3, rf, r5⟩ : Pa.Ac)]) := hYs
        have rRz := rR.below hbz
        have HFz := Lib.hid (HFy.out.below hbz)
        have hgz := hgy.below hbz
        have hBz := below_on (below_on (below_on hBx hb3x) hby) hbz
        obtain ⟨L5, hL5⟩ : ∃ L5 : List Pa.Ac, L5 = [(⟨y1, y2, ⟨x1, x2, x3, x4, x5, x6, x7, x8⟩, y3, fs, y5⟩ : Pa.Ac), (⟨y1, y2, ⟨x1, x2, x3, q4, x5, x6, x7, x8⟩, r3, fs, y5⟩ : Pa.Ac), (⟨y1, y2, ⟨x1, x2, x3, x4, x5, x6, q7, q8⟩, y3, fs, y5⟩ : Pa.Ac), (⟨r1, r2, ⟨q1, q2, q3, q4, q5, q6, q7, q8⟩, r3, rf, r5⟩ : Pa.Ac)] := ⟨_, rfl⟩
        have hL4 : L5.length = 4 := by rw [hL5]; rfl
        rw [← hL5] at HYs
        have HL54 := Lib.hid hL4
        have bz : b < Wz.heap.size := Nat.lt_of_lt_of_le hbWy hbz.size
        obtain ⟨hz0, hz1, hz2, hz3, hz4, hz5, hz6, hz7, hz8, hz9, hz10, hz11, hz12⟩ := HCA.out Wz hbz
        clear hL5 hL4 hYs KS HCA rN rO rR hgy HFy
        go_wp2_with fail
        go_loopw [147] (fun jv wr => ∃ j : Nat, jv = .int .i64 j ∧ j ≤ 4 ∧ Below Wz.heap.size Wz wr) (fun jv _ => 4 - (intOf jv).toNat)
        case atStart => exact ⟨0, rfl, Nat.zero_le _, Below.refl _ _⟩
        case round =>
          obtain ⟨j, rfl, hj4, hbr4⟩ := hrel
          obtain ⟨w4, rfl⟩ : ∃ w4, w4 = wr := ⟨wr, rfl⟩
          by_cases hj : j < 4
          · as_aux_lemma =>
              have hjl : j < L5.length := by have := HL54.out; omega
              obtain ⟨a', c', fvY, hv', hcY, hfs, hcs⟩ := HYs.out.below hbr4
              obtain ⟨b', o', hbo, hblY, hcell⟩ := hcs (fun e => by simp [e] at hjl)
              injection hv' with hv1 hv2 hv3
              rw [← hv1] at hbo
              injection hbo with hbo
              injection hbo with hb1 hb2 hb3
              subst hb1 hb2
              obtain ⟨hf1, hxj⟩ := hfs j hjl
              have HFY := Lib.hid hf1
              have g : ∀ (k : Nat) (u : Value), (acCells L5[j] (fvY j))[k]? = some u → w4.cell? ⟨g4, 0 + j * 13 + k, none⟩ = some u := fun k u hu => hcell j hjl k u hu
              have e0 := g 0 _ rfl
              have e1 := g 1 _ rfl
              have e2 := g 2 _ rfl
              have e3 := g 3 _ rfl
              have e4 := g 4 _ rfl
              have e5 := g 5 _ rfl
              have e6 := g 6 _ rfl
              have e7 := g 7 _ rfl
              have e8 := g 8 _ rfl
              have e9 := g 9 _ rfl
              have e10 := g 10 _ rfl
              have e11 := g 11 _ rfl
              have e12 := g 12 _ rfl
              simp only [Nat.add_zero, Nat.zero_add] at e0 e1 e2 e3 e4 e5 e6 e7 e8 e9 e10 e11 e12
              obtain ⟨⟨t1, t2, ⟨v1, v2, v3, v4, v5, v6, v7, v8⟩, t3, tf, t5⟩, hy⟩ : ∃ y, y = L5[j] := ⟨_, rfl⟩
              rw [← hy] at e0 e1 e2 e3 e4 e5 e6 e7 e8 e9 e10 e12 HFY hxj
              clear hy
              obtain ⟨f, hf⟩ : ∃ f, f = fvY j := ⟨_, rfl⟩
              rw [← hf] at e11 HFY
              clear hf hf1 g hcell hcs hfs hv1 hv2 hv3
              simp only at HFY hxj e0 e1 e2 e3 e4 e5 e6 e7 e8 e9 e10 e12
              have hfA := HFY.out
              obtain ⟨ta, tc, rfl, -⟩ := hfA
              have b1' : (0 : Int) ≤ (j : Int) := by omega
              have b2' : (j : Int) < 4 := by omega
              go_upto_region 33 with fail
              refine wp_region_below (by kernel_rfl) (by kernel_rfl) ?_
              intro Wq hWq
              have hbq : Below w4.heap.size w4 Wq := by rw [hWq]; exact (Below.refl _ _).alloc (Nat.le_refl _) _
              have qyr : RowAt w4.heap.size (#[.int .i64 t1, .int .i64 t2, .int .i64 v1, .int .i64 v2, .int .i64 v3, .int .i64 v4, .int .i64 v5, .string v6, .int .i64 v7, .int .i64 v8, .int .i64 t3, .slice ta tf.length tc, .string t5] : Array Value).toList Wq := by rw [hWq]; exact RowAt.new w4 _ _
              have qyl := qyr.1
              have qrr := (rRz.below hbr4).below hbq
              have qrl := qrr.1
              have abl : b < Wq.heap.size := Nat.lt_of_lt_of_le (Nat.lt_of_lt_of_le bz hbr4.size) hbq.size
              have bz4 : b < w4.heap.size := Nat.lt_of_lt_of_le bz hbr4.size
              have ha0 := cell_below hbq bz4 (cell_below hbr4 bz hz0)
              have ha1 := cell_below hbq bz4 (cell_below hbr4 bz hz1)
              have ha2 := cell_below hbq bz4 (cell_below hbr4 bz hz2)
              have ha3 := cell_below hbq bz4 (cell_below hbr4 bz hz3)
              have ha4 := cell_below hbq bz4 (cell_below hbr4 bz hz4)
              have ha5 := cell_below hbq bz4 (cell_below hbr4 bz hz5)
              have ha6 := cell_below hbq bz4 (cell_below hbr4 bz hz6)
              have ha7 := cell_below hbq bz4 (cell_below hbr4 bz hz7)
              have ha8 := cell_below hbq bz4 (cell_below hbr4 bz hz8)
              have ha9 := cell_below hbq bz4 (cell_below hbr4 bz hz9)
              have ha10 := cell_below hbq bz4 (cell_below hbr4 bz hz10)
              have ha11 := cell_below hbq bz4 (cell_below hbr4 bz hz11)
              have ha12 := cell_below hbq bz4 (cell_below hbr4 bz hz12)
              have okq := ((ok.below hBz).below hbr4).below hbq
              have HFq := Lib.hid (HFY.out.below hbq)
              have HAq := Lib.hid ((HFz.out.below hbr4).below hbq)
              have HRq := Lib.hid ((hgz.below hbr4).below hbq)
              have k1 := fun (x : Lat (Below Wq.heap.size Wq)) => validAct_any (⟨t1, t2, ⟨v1, v2, v3, v4, v5, v6, v7, v8⟩, t3, tf, t5⟩ : Pa.Ac) (.slice ta tf.length tc) x.u (okq.below x.h) name_any (HFq.out.below x.h) hxj
              have k2 := fun (x : Lat (Below Wq.heap.size Wq)) => refAct_any (⟨t1, t2, ⟨v1, v2, v3, v4, v5, v6, v7, v8⟩, t3, tf, t5⟩ : Pa.Ac) (.slice ta tf.length tc) x.u (HFq.out.below x.h) hxj
              have k3 := fun (x : Lat (Below Wq.heap.size Wq)) => same_any (⟨t1, t2, ⟨v1, v2, v3, v4, v5, v6, v7, v8⟩, t3, tf, t5⟩ : Pa.Ac) (⟨y1, y2, ⟨x1, x2, x3, x4, x5, x6, x7, x8⟩, y3, fs, y5⟩ : Pa.Ac) (.slice ta tf.length tc) (.slice ya fs.length yc) x.u (HFq.out.below x.h) (HAq.out.below x.h) hxj hx1
              have k4 := fun (x : Lat (Below Wq.heap.size Wq)) => refSame_any (⟨t1, t2, ⟨v1, v2, v3, v4, v5, v6, v7, v8⟩, t3, tf, t5⟩ : Pa.Ac) (⟨y1, y2, ⟨x1, x2, x3, x4, x5, x6, x7, x8⟩, y3, fs, y5⟩ : Pa.Ac) (.slice ta tf.length tc) (.slice ya fs.length yc) x.u (HFq.out.below x.h) (HAq.out.below x.h) hxj hx1
              have k5 := fun (x : Lat (Below Wq.heap.size Wq)) => same_any (⟨r1, r2, ⟨q1, q2, q3, q4, q5, q6, q7, q8⟩, r3, rf, r5⟩ : Pa.Ac) (⟨t1, t2, ⟨v1, v2, v3, v4, v5, v6, v7, v8⟩, t3, tf, t5⟩ : Pa.Ac) (.slice ga rf.length gc) (.slice ta tf.length tc) x.u (HRq.out.below x.h) (HFq.out.below x.h) HRL.out hxj
              have k6 := fun (x : Lat (Below Wq.heap.size Wq)) => refSame_any (⟨r1, r2, ⟨q1, q2, q3, q4, q5, q6, q7, q8⟩, r3, rf, r5⟩ : Pa.Ac) (⟨t1, t2, ⟨v1, v2, v3, v4, v5, v6, v7, v8⟩, t3, tf, t5⟩ : Pa.Ac) (.slice ga rf.length gc) (.slice ta tf.length tc) x.u (HRq.out.below x.h) (HFq.out.below x.h) HRL.out hxj
              obtain ⟨B1, hB1'⟩ : ∃ B1 : Bool, B1 = Pa.okA (⟨t1, t2, ⟨v1, v2, v3, v4, v5, v6, v7, v8⟩, t3, tf, t5⟩ : Pa.Ac) := ⟨_, rfl⟩
              obtain ⟨B2, hB2'⟩ : ∃ B2 : Bool, B2 = decide ((⟨t1, t2, ⟨v1, v2, v3, v4, v5, v6, v7, v8⟩, t3, tf, t5⟩ : Pa.Ac) = (⟨y1, y2, ⟨x1, x2, x3, x4, x5, x6, x7, x8⟩, y3, fs, y5⟩ : Pa.Ac)) := ⟨_, rfl⟩
              obtain ⟨B3, hB3'⟩ : ∃ B3 : Bool, B3 = decide ((⟨r1, r2, ⟨q1, q2, q3, q4, q5, q6, q7, q8⟩, r3, rf, r5⟩ : Pa.Ac) = (⟨t1, t2, ⟨v1, v2, v3, v4, v5, v6, v7, v8⟩, t3, tf, t5⟩ : Pa.Ac)) := ⟨_, rfl⟩
              rw [← hB1'] at k1 k2
              rw [← hB2'] at k3 k4
              rw [← hB3'] at k5 k6
              clear hB1' hB2' hB3' hWq e0 e1 e2 e3 e4 e5 e6 e7 e8 e9 e10 e11 e12
              unfold acV at k1 k2 k3 k4 k5 k6
              simp only at k1 k2 k3 k4 k5 k6
              have qy0 : ∀ x : Lat (Below Wq.heap.size Wq), x.u.cell? ⟨w4.heap.size, 0, none⟩ = some (.int .i64 t1) := fun x => x.cell qyl (qyr.2 0 _ rfl).1
              have qy1 : ∀ x : Lat (Below Wq.heap.size Wq), x.u.cell? ⟨w4.heap.size, 1, none⟩ = some (.int .i64 t2) := fun x => x.cell qyl (qyr.2 1 _ rfl).1
              have qy2 : ∀ x : Lat (Below Wq.heap.size Wq), x.u.cell? ⟨w4.heap.size, 2, none⟩ = some (.int .i64 v1) := fun x => x.cell qyl (qyr.2 2 _ rfl).1
              have qy3 : ∀ x : Lat (Below Wq.heap.size Wq), x.u.cell? ⟨w4.heap.size, 3, none⟩ = some (.int .i64 v2) := fun x => x.cell qyl (qyr.2 3 _ rfl).1
              have qy4 : ∀ x : Lat (Below Wq.heap.size Wq), x.u.cell? ⟨w4.heap.size, 4, none⟩ = some (.int .i64 v3) := fun x => x.cell qyl (qyr.2 4 _ rfl).1
              have qy5 : ∀ x : Lat (Below Wq.heap.size Wq), x.u.cell? ⟨w4.heap.size, 5, none⟩ = some (.int .i64 v4) := fun x => x.cell qyl (qyr.2 5 _ rfl).1
              have qy6 : ∀ x : Lat (Below Wq.heap.size Wq), x.u.cell? ⟨w4.heap.size, 6, none⟩ = some (.int .i64 v5) := fun x => x.cell qyl (qyr.2 6 _ rfl).1
              have qy7 : ∀ x : Lat (Below Wq.heap.size Wq), x.u.cell? ⟨w4.heap.size, 7, none⟩ = some (.string v6) := fun x => x.cell qyl (qyr.2 7 _ rfl).1
              have qy8 : ∀ x : Lat (Below Wq.heap.size Wq), x.u.cell? ⟨w4.heap.size, 8, none⟩ = some (.int .i64 v7) := fun x => x.cell qyl (qyr.2 8 _ rfl).1
              have qy9 : ∀ x : Lat (Below Wq.heap.size Wq), x.u.cell? ⟨w4.heap.size, 9, none⟩ = some (.int .i64 v8) := fun x => x.cell qyl (qyr.2 9 _ rfl).1
              have qy10 : ∀ x : Lat (Below Wq.heap.size Wq), x.u.cell? ⟨w4.heap.size, 10, none⟩ = some (.int .i64 t3) := fun x => x.cell qyl (qyr.2 10 _ rfl).1
              have qy11 : ∀ x : Lat (Below Wq.heap.size Wq), x.u.cell? ⟨w4.heap.size, 11, none⟩ = some (.slice ta tf.length tc) := fun x => x.cell qyl (qyr.2 11 _ rfl).1
              have qy12 : ∀ x : Lat (Below Wq.heap.size Wq), x.u.cell? ⟨w4.heap.size, 12, none⟩ = some (.string t5) := fun x => x.cell qyl (qyr.2 12 _ rfl).1
              have qr0 : ∀ x : Lat (Below Wq.heap.size Wq), x.u.cell? ⟨G, 0, none⟩ = some (.int .i64 r1) := fun x => x.cell qrl (qrr.2 0 _ rfl).1
              have qr1 : ∀ x : Lat (Below Wq.heap.size Wq), x.u.cell? ⟨G, 1, none⟩ = some (.int .i64 r2) := fun x => x.cell qrl (qrr.2 1 _ rfl).1
              have qr2 : ∀ x : Lat (Below Wq.heap.size Wq), x.u.cell? ⟨G, 2, none⟩ = some (.int .i64 q1) := fun x => x.cell qrl (qrr.2 2 _ rfl).1
              have qr3 : ∀ x : Lat (Below Wq.heap.size Wq), x.u.cell? ⟨G, 3, none⟩ = some (.int .i64 q2) := fun x => x.cell qrl (qrr.2 3 _ rfl).1
              have qr4 : ∀ x : Lat (Below Wq.heap.size Wq), x.u.cell? ⟨G, 4, none⟩ = some (.int .i64 q3) := fun x => x.cell qrl (qrr.2 4 _ rfl).1
              have qr5 : ∀ x : Lat (Below Wq.heap.size Wq), x.u.cell? ⟨G, 5, none⟩ = some (.int .i64 q4) := fun x => x.cell qrl (qrr.2 5 _ rfl).1
              have qr6 : ∀ x : Lat (Below Wq.heap.size Wq), x.u.cell? ⟨G, 6, none⟩ = some (.int .i64 q5) := fun x => x.cell qrl (qrr.2 6 _ rfl).1
              have qr7 : ∀ x : Lat (Below Wq.heap.size Wq), x.u.cell? ⟨G, 7, none⟩ = some (.string q6) := fun x => x.cell qrl (qrr.2 7 _ rfl).1
              have qr8 : ∀ x : Lat (Below Wq.heap.size Wq), x.u.cell? ⟨G, 8, none⟩ = some (.int .i64 q7) := fun x => x.cell qrl (qrr.2 8 _ rfl).1
              have qr9 : ∀ x : Lat (Below Wq.heap.size Wq), x.u.cell? ⟨G, 9, none⟩ = some (.int .i64 q8) := fun x => x.cell qrl (qrr.2 9 _ rfl).1
              have qr10 : ∀ x : Lat (Below Wq.heap.size Wq), x.u.cell? ⟨G, 10, none⟩ = some (.int .i64 r3) := fun x => x.cell qrl (qrr.2 10 _ rfl).1
              have qr11 : ∀ x : Lat (Below Wq.heap.size Wq), x.u.cell? ⟨G, 11, none⟩ = some (.slice ga rf.length gc) := fun x => x.cell qrl (qrr.2 11 _ rfl).1
              have qr12 : ∀ x : Lat (Below Wq.heap.size Wq), x.u.cell? ⟨G, 12, none⟩ = some (.string r5) := fun x => x.cell qrl (qrr.2 12 _ rfl).1
              have qa0 : ∀ x : Lat (Below Wq.heap.size Wq), x.u.cell? ⟨b, o + i * 13, none⟩ = some (.int .i64 y1) := fun x => x.cell abl ha0
              have qa1 : ∀ x : Lat (Below Wq.heap.size Wq), x.u.cell? ⟨b, o + i * 13 + 1, none⟩ = some (.int .i64 y2) := fun x => x.cell abl ha1
              have qa2 : ∀ x : Lat (Below Wq.heap.size Wq), x.u.cell? ⟨b, o + i * 13 + 2, none⟩ = some (.int .i64 x1) := fun x => x.cell abl ha2
              have qa3 : ∀ x : Lat (Below Wq.heap.size Wq), x.u.cell? ⟨b, o + i * 13 + 3, none⟩ = some (.int .i64 x2) := fun x => x.cell abl ha3
              have qa4 : ∀ x : Lat (Below Wq.heap.size Wq), x.u.cell? ⟨b, o + i * 13 + 4, none⟩ = some (.int .i64 x3) := fun x => x.cell abl ha4
              have qa5 : ∀ x : Lat (Below Wq.heap.size Wq), x.u.cell? ⟨b, o + i * 13 + 5, none⟩ = some (.int .i64 x4) := fun x => x.cell abl ha5
              have qa6 : ∀ x : Lat (Below Wq.heap.size Wq), x.u.cell? ⟨b, o + i * 13 + 6, none⟩ = some (.int .i64 x5) := fun x => x.cell abl ha6
              have qa7 : ∀ x : Lat (Below Wq.heap.size Wq), x.u.cell? ⟨b, o + i * 13 + 7, none⟩ = some (.string x6) := fun x => x.cell abl ha7
              have qa8 : ∀ x : Lat (Below Wq.heap.size Wq), x.u.cell? ⟨b, o + i * 13 + 8, none⟩ = some (.int .i64 x7) := fun x => x.cell abl ha8
              have qa9 : ∀ x : Lat (Below Wq.heap.size Wq), x.u.cell? ⟨b, o + i * 13 + 9, none⟩ = some (.int .i64 x8) := fun x => x.cell abl ha9
              have qa10 : ∀ x : Lat (Below Wq.heap.size Wq), x.u.cell? ⟨b, o + i * 13 + 10, none⟩ = some (.int .i64 y3) := fun x => x.cell abl ha10
              have qa11 : ∀ x : Lat (Below Wq.heap.size Wq), x.u.cell? ⟨b, o + i * 13 + 11, none⟩ = some (.slice ya fs.length yc) := fun x => x.cell abl ha11
              have qa12 : ∀ x : Lat (Below Wq.heap.size Wq), x.u.cell? ⟨b, o + i * 13 + 12, none⟩ = some (.string y5) := fun x => x.cell abl ha12
              clear qyr qrr ha0 ha1 ha2 ha3 ha4 ha5 ha6 ha7 ha8 ha9 ha10 ha11 ha12
              repeat (go_big_quiet_step (first | (go_at_call 14; with_reducible exact Calls.below (k1 _)) | (go_at_call 15; with_reducible exact Calls.below (k2 _)) | (go_at_call 16; first | with_reducible exact Calls.below (k3 _) | with_reducible exact Calls.below (k5 _)) | (go_at_call 17; first | with_reducible exact Calls.below (k4 _) | with_reducible exact Calls.below (k6 _))))
              refine wpQuiet_nil ?_
              rintro u5 ⟨x, hx⟩
              have hu5 : Below Wq.heap.size Wq u5 := by rw [hx]; exact x.h
              clear hx k1 k2 k3 k4 k5 k6
              go_wp2
              go_roundw
              case rel => exact ⟨j + 1, by go_num, by omega, below_on hbr4 (below_on hbq hu5)⟩
              case measure => simp [intOf]; omega
          · have b2' : ¬ (j : Int) < 4 := by omega
            obtain rfl : j = 4 := by omega
            go_wp2
            go_roundw
            case rel => exact ⟨i + 1, by go_num, by omega, below_on hb3x (below_on hby (below_on hbz hbr4))⟩
            case measure => simp [intOf]; omega
      · as_aux_lemma =>
          obtain rfl : i = A.length := by omega
          have b2' : ¬ (A.length : Int) < (A.length : Int) := by omega
          go_wp2_with fail
          refine wp_region_below (by kernel_rfl) (by kernel_rfl) ?_
          intro Wq hWq
          have hbq : Below w3.heap.size w3 Wq := by rw [hWq]; exact Below.refl _ _
          have qrr := (hrx.below hb3x).below hbq
          have qrl := qrr.1
          have okq := ((ok.below hBx).below hb3x).below hbq
          have HRq := Lib.hid ((hgx.below hb3x).below hbq)
          have k1 := fun (x : Lat (Below Wq.heap.size Wq)) => validAct_any (⟨r1, r2, ⟨q1, q2, q3, q4, q5, q6, q7, q8⟩, r3, rf, r5⟩ : Pa.Ac) (.slice ga rf.length gc) x.u (okq.below x.h) name_any (HRq.out.below x.h) HRL.out
          have k2 := fun (x : Lat (Below Wq.heap.size Wq)) => refAct_any (⟨r1, r2, ⟨q1, q2, q3, q4, q5, q6, q7, q8⟩, r3, rf, r5⟩ : Pa.Ac) (.slice ga rf.length gc) x.u (HRq.out.below x.h) HRL.out
          obtain ⟨B1, hB1'⟩ : ∃ B1 : Bool, B1 = Pa.okA (⟨r1, r2, ⟨q1, q2, q3, q4, q5, q6, q7, q8⟩, r3, rf, r5⟩ : Pa.Ac) := ⟨_, rfl⟩
          rw [← hB1'] at k1 k2
          clear hB1' hWq
          unfold acV at k1 k2
          simp only at k1 k2
          have qr0 : ∀ x : Lat (Below Wq.heap.size Wq), x.u.cell? ⟨G, 0, none⟩ = some (.int .i64 r1) := fun x => x.cell qrl (qrr.2 0 _ rfl).1
          have qr1 : ∀ x : Lat (Below Wq.heap.size Wq), x.u.cell? ⟨G, 1, none⟩ = some (.int .i64 r2) := fun x => x.cell qrl (qrr.2 1 _ rfl).1
          have qr2 : ∀ x : Lat (Below Wq.heap.size Wq), x.u.cell? ⟨G, 2, none⟩ = some (.int .i64 q1) := fun x => x.cell qrl (qrr.2 2 _ rfl).1
          have qr3 : ∀ x : Lat (Below Wq.heap.size Wq), x.u.cell? ⟨G, 3, none⟩ = some (.int .i64 q2) := fun x => x.cell qrl (qrr.2 3 _ rfl).1
          have qr4 : ∀ x : Lat (Below Wq.heap.size Wq), x.u.cell? ⟨G, 4, none⟩ = some (.int .i64 q3) := fun x => x.cell qrl (qrr.2 4 _ rfl).1
          have qr5 : ∀ x : Lat (Below Wq.heap.size Wq), x.u.cell? ⟨G, 5, none⟩ = some (.int .i64 q4) := fun x => x.cell qrl (qrr.2 5 _ rfl).1
          have qr6 : ∀ x : Lat (Below Wq.heap.size Wq), x.u.cell? ⟨G, 6, none⟩ = some (.int .i64 q5) := fun x => x.cell qrl (qrr.2 6 _ rfl).1
          have qr7 : ∀ x : Lat (Below Wq.heap.size Wq), x.u.cell? ⟨G, 7, none⟩ = some (.string q6) := fun x => x.cell qrl (qrr.2 7 _ rfl).1
          have qr8 : ∀ x : Lat (Below Wq.heap.size Wq), x.u.cell? ⟨G, 8, none⟩ = some (.int .i64 q7) := fun x => x.cell qrl (qrr.2 8 _ rfl).1
          have qr9 : ∀ x : Lat (Below Wq.heap.size Wq), x.u.cell? ⟨G, 9, none⟩ = some (.int .i64 q8) := fun x => x.cell qrl (qrr.2 9 _ rfl).1
          have qr10 : ∀ x : Lat (Below Wq.heap.size Wq), x.u.cell? ⟨G, 10, none⟩ = some (.int .i64 r3) := fun x => x.cell qrl (qrr.2 10 _ rfl).1
          have qr11 : ∀ x : Lat (Below Wq.heap.size Wq), x.u.cell? ⟨G, 11, none⟩ = some (.slice ga rf.length gc) := fun x => x.cell qrl (qrr.2 11 _ rfl).1
          have qr12 : ∀ x : Lat (Below Wq.heap.size Wq), x.u.cell? ⟨G, 12, none⟩ = some (.string r5) := fun x => x.cell qrl (qrr.2 12 _ rfl).1
          clear qrr
          repeat (go_big_quiet_step (first | (go_at_call 14; with_reducible exact Calls.below (k1 _)) | (go_at_call 15; with_reducible exact Calls.below (k2 _))))
          refine wpQuiet_nil ?_
          rintro u5 ⟨x, hx⟩
          have hu5 : Below Wq.heap.size Wq u5 := by rw [hx]; exact x.h
          clear hx k1 k2
          go_wp2
          go_ret
          exact ⟨ret_bool (by simp), below_on hBx (below_on hb3x (below_on hbq hu5))⟩

end Go.Proofs.YtgajoiijebbagaaGreatDoor
