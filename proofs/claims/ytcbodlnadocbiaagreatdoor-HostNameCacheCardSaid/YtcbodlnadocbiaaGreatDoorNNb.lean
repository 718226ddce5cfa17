/-
  The law on remembered names: the loop's hops. Conditions: none.
-/
import Derived.Test.YtcbodlnadocbiaaGreatDoorNNs
import Derived.Test.YtcbodlnadocbiaaGreatDoorNAxF
import Derived.Test.YtcbodlnadocbiaaGreatDoorNNh0
import Derived.Test.YtcbodlnadocbiaaGreatDoorNNh1
namespace Go.Proofs.YtcbodlnadocbiaaGreatDoor
open Go Go.Ax Go.RowKit Go.Proofs

theorem hL : Hop specF GN 200 17 (s1.am 8000) 5 [(22, .lit 1)] [8, 9, 10, 11, 12, 13, 14, 15, 63, 56, 58, 60, 67, 65, 431, 612, 62, 61, 52, 50, 51, 1600, 254, 48, 47, 358, 55, 53, 54, 285, 112, 105, 107, 109, 116, 114, 1172, 1353, 111, 110, 101, 100, 99, 98, 777, 104, 102, 178, 179, 181, 103, 136, 803, 156, 1209, 119, 117, 118, 123, 1618, 1614, 16, 19, 20, 21, 70, 71, 72, 960] sL := by unfold Hop; kernel_rfl
theorem hLa : HopV specF GN 200 17 (sL.am 8000) 0 true 0 [] [8, 9, 10, 11, 12, 13, 14, 15, 63, 56, 58, 60, 67, 65, 431, 612, 62, 61, 52, 50, 51, 1600, 254, 48, 47, 358, 55, 53, 54, 285, 112, 105, 107, 109, 116, 114, 1172, 1353, 111, 110, 101, 100, 99, 98, 777, 104, 102, 178, 179, 181, 103, 136, 803, 156, 1209, 119, 117, 118, 123, 1618, 1614, 16, 19, 20, 21, 70, 71, 72, 960] sLa := by unfold HopV; kernel_rfl
theorem hLb : HopV specF GN 200 17 (sL.am 8000) 0 false 0 [] [8, 9, 10, 11, 12, 13, 14, 15, 63, 56, 58, 60, 67, 65, 431, 612, 62, 61, 52, 50, 51, 1600, 254, 48, 47, 358, 55, 53, 54, 285, 112, 105, 107, 109, 116, 114, 1172, 1353, 111, 110, 101, 100, 99, 98, 777, 104, 102, 178, 179, 181, 103, 136, 803, 156, 1209, 119, 117, 118, 123, 1618, 1614, 16, 19, 20, 21, 70, 71, 72, 960] sLX := by unfold HopV; kernel_rfl
theorem h1a : HopV specF GN 200 17 (sL1.am 8000) 2 true 2 [(22, (.bin .add .i64 (.var 22) (.lit (.ofNat 1))))] [8, 9, 10, 11, 12, 13, 14, 15, 63, 56, 58, 60, 67, 65, 431, 612, 62, 61, 52, 50, 51, 1600, 254, 48, 47, 358, 55, 53, 54, 285, 112, 105, 107, 109, 116, 114, 1172, 1353, 111, 110, 101, 100, 99, 98, 777, 104, 102, 178, 179, 181, 103, 136, 803, 156, 1209, 119, 117, 118, 123, 1618, 1614, 16, 19, 20, 21, 70, 71, 72, 960] sL := by unfold HopV; kernel_rfl
theorem h1b : HopV specF GN 200 17 (sL1.am 8000) 2 false 2 [(22, (.bin .add .i64 (.var 22) (.lit (.ofNat 1))))] [8, 9, 10, 11, 12, 13, 14, 15, 63, 56, 58, 60, 67, 65, 431, 612, 62, 61, 52, 50, 51, 1600, 254, 48, 47, 358, 55, 53, 54, 285, 112, 105, 107, 109, 116, 114, 1172, 1353, 111, 110, 101, 100, 99, 98, 777, 104, 102, 178, 179, 181, 103, 136, 803, 156, 1209, 119, 117, 118, 123, 1618, 1614, 16, 19, 20, 21, 70, 71, 72, 960] sD := by unfold HopV; kernel_rfl
theorem hDa : HopV specF GN 200 17 (sD.am 8000) 0 true 0 [] [8, 9, 10, 11, 12, 13, 14, 15, 63, 56, 58, 60, 67, 65, 431, 612, 62, 61, 52, 50, 51, 1600, 254, 48, 47, 358, 55, 53, 54, 285, 112, 105, 107, 109, 116, 114, 1172, 1353, 111, 110, 101, 100, 99, 98, 777, 104, 102, 178, 179, 181, 103, 136, 803, 156, 1209, 119, 117, 118, 123, 1618, 1614, 16, 19, 20, 21, 70, 71, 72, 960] sDa := by unfold HopV; kernel_rfl
theorem hDb : HopV specF GN 200 17 (sD.am 8000) 0 false 0 [] [8, 9, 10, 11, 12, 13, 14, 15, 63, 56, 58, 60, 67, 65, 431, 612, 62, 61, 52, 50, 51, 1600, 254, 48, 47, 358, 55, 53, 54, 285, 112, 105, 107, 109, 116, 114, 1172, 1353, 111, 110, 101, 100, 99, 98, 777, 104, 102, 178, 179, 181, 103, 136, 803, 156, 1209, 119, 117, 118, 123, 1618, 1614, 16, 19, 20, 21, 70, 71, 72, 960] sDX := by unfold HopV; kernel_rfl
theorem hD1 : Hop specF GN 200 17 (sD1.am 8000) 3 [(22, (.bin .add .i64 (.var 22) (.lit (.ofNat 1))))] [8, 9, 10, 11, 12, 13, 14, 15, 63, 56, 58, 60, 67, 65, 431, 612, 62, 61, 52, 50, 51, 1600, 254, 48, 47, 358, 55, 53, 54, 285, 112, 105, 107, 109, 116, 114, 1172, 1353, 111, 110, 101, 100, 99, 98, 777, 104, 102, 178, 179, 181, 103, 136, 803, 156, 1209, 119, 117, 118, 123, 1618, 1614, 16, 19, 20, 21, 70, 71, 72, 960] sDQ := by unfold Hop; kernel_rfl
theorem hLX : exploreP specF GN 200 4 (fun c v => (Sp.lit true).chk c v) 17 3 [] (sLX.am 8000) = true := by kernel_rfl
theorem hDX : exploreP specF GN 200 4 (fun c v => (Sp.lit true).chk c v) 17 3 [] (sDX.am 8000) = true := by kernel_rfl
end Go.Proofs.YtcbodlnadocbiaaGreatDoor

/-! The law on remembered names: it holds over a memory in which the packages' errors are laid. Conditions: none. -/
namespace Go.Proofs.YtcbodlnadocbiaaGreatDoor
open Go Go.Ax Go.RowKit Go.Proofs

section
variable {n0 : Nat} {w0 : World} {cs0 : List Frame}
abbrev Good (s : AM) : Prop := ∀ X m, Sim Tryz.prog GN n0 w0 cs0 X s m → EndsTrue Tryz.prog n0 w0 cs0 4 m
theorem sumsN_all : SumsOK Tryz.prog GN n0 := sumsL_ok sumsN_ok n0
theorem ng_GN : 0 < GN.T.ng := errs_pos
theorem good_hop {s : AM} {j room : Nat} {σ : Sb} {keep : List Nat} {t : St} (hh : Hop specF GN 200 17 s j σ keep t) (he : Good (n0 := n0) (w0 := w0) (cs0 := cs0) (t.am room)) : Good (n0 := n0) (w0 := w0) (cs0 := cs0) s :=
  fun _ _ h => Hop.ends tab_right ifs_right sumsN_all ng_GN hh he h
theorem good_LX : Good (n0 := n0) (w0 := w0) (cs0 := cs0) (sLX.am 8000) := fun _ _ h => EndsTrue.of_explore tab_right ifs_right sumsN_all specF_ok hLX h
theorem good_DX : Good (n0 := n0) (w0 := w0) (cs0 := cs0) (sDX.am 8000) := fun _ _ h => EndsTrue.of_explore tab_right ifs_right sumsN_all specF_ok hDX h

theorem fact_lss {a b : E} {v : Bool} {ρ : Val} (h : (Fact.mk .lss a b v).ok ρ) : decide (a.den ρ < b.den ρ) = v := h
theorem fact_leq {a b : E} {ρ : Val} (h : (Fact.mk .leq a b true).ok ρ) : a.den ρ ≤ b.den ρ := of_decide_eq_true h
theorem fact_geq {a b : E} {ρ : Val} (h : (Fact.mk .geq a b true).ok ρ) : b.den ρ ≤ a.den ρ := of_decide_eq_true h
theorem leq_fact {a b : E} {ρ : Val} (h : a.den ρ ≤ b.den ρ) : (Fact.mk .leq a b true).ok ρ := decide_eq_true h
theorem b_bound {ρ : Val} (h : (fB true).ok ρ) : ρ.int 22 ≤ 89 := by
  have hp := pickZ_has (n := 90) (by decide) (ρ.int 15)
  have h' : ρ.int 22 < IntKind.i64.wrap ((1 : Int) + pickZ 90 (ρ.int 15)) := of_decide_eq_true h
  rw [wrap64_def] at h'
  omega
theorem plus_den {ρ : Val} {k : Nat} (h0 : 1 ≤ ρ.int 22) (h1 : ρ.int 22 ≤ 90) (hk : k ≤ 8) : (E.bin .add .i64 (.var 22) (.lit (.ofNat k))).den ρ = ρ.int 22 + k := by
  show IntKind.i64.wrap (ρ.int 22 + (k : Int)) = _
  rw [wrap64_def]
  omega
theorem u_next {ρ : Val} (h : (fU 7 false).ok ρ) (h0 : 1 ≤ ρ.int 22) (h1 : ρ.int 22 ≤ 90) : (fU 8 false).ok ρ := by
  have e7 := plus_den (k := 7) h0 h1 (by decide)
  have e8 := plus_den (k := 8) h0 h1 (by decide)
  have g := fact_lss h
  rw [e7] at g
  show decide (_ < _) = false
  rw [e8]
  generalize uE.den ρ = u at g ⊢
  simp only [decide_eq_false_iff_not] at g ⊢
  omega
theorem fA_ok : ∀ f ∈ fA, f.a.okB [22, 13, 14, 15] = true ∧ f.b.okB [22, 13, 14, 15] = true := by
  intro f hf
  have h := List.all_eq_true.1 (show fA.all (fun f => f.a.okB [22, 13, 14, 15] && f.b.okB [22, 13, 14, 15]) = true from rfl) f hf
  rw [Bool.and_eq_true] at h
  exact h
theorem mem_L : 22 ∈ sL.vs := by
  show 22 ∈ [22, 13, 14, 15]
  decide
theorem mem_D : 22 ∈ sD.vs := by
  show 22 ∈ [22, 13, 14, 15]
  decide
abbrev sP : Sb := [(22, (.bin .add .i64 (.var 22) (.lit (.ofNat 1))))]
theorem step_int {K : Nat → Bool} {vs : List Nat} {Z : Ext} (hm : 22 ∈ vs) (h0 : 1 ≤ Z.ρ.int 22) (h1 : Z.ρ.int 22 ≤ 90) : (castX sP vs K Z).ρ.int 22 = Z.ρ.int 22 + 1 :=
  (castX_int hm).trans (plus_den (k := 1) h0 h1 (by decide))

/-- A round behind the record's end. -/
theorem good_Dstep (X : Ext) (m : Machine) (h : Sim Tryz.prog GN n0 w0 cs0 X (sD.am 8000) m)
    (k : ∀ Y m', Y.ρ.int 22 = X.ρ.int 22 + 1 → Y.ρ.int 22 ≤ 90 → Sim Tryz.prog GN n0 w0 cs0 Y (sD.am 8000) m' → EndsTrue Tryz.prog n0 w0 cs0 4 m') : EndsTrue Tryz.prog n0 w0 cs0 4 m := by
  rcases HopV.sim (room := 8000) tab_right ifs_right sumsN_all specF_ok ng_GN hDa hDb h with ⟨Y, m1, st, hle, hs⟩ | ⟨Y, m1, st, hle, hs⟩
  · have gB : (fB true).ok _ := hs.fact (List.Mem.head _)
    have gU : (fU 8 false).ok _ := hs.fact (List.Mem.tail _ (List.Mem.head _))
    have gL : fLo.ok _ := hs.fact (List.Mem.tail _ (List.Mem.tail _ (List.Mem.head _)))
    have hb := b_bound gB
    have hs1 : Sim Tryz.prog GN n0 w0 cs0 _ (sD1.am 8000) m1 := hs.facts (t := sDa) (fs := sD1.fs) fun f hf => by
      have hf' : f ∈ fB true :: fU 8 false :: fLo :: fHi 89 :: fA := hf
      rcases List.mem_cons.1 hf' with rfl | hf
      · exact ⟨gB, rfl, rfl⟩
      rcases List.mem_cons.1 hf with rfl | hf
      · exact ⟨gU, rfl, rfl⟩
      rcases List.mem_cons.1 hf with rfl | hf
      · exact ⟨gL, rfl, rfl⟩
      rcases List.mem_cons.1 hf with rfl | hf
      · exact ⟨leq_fact hb, rfl, rfl⟩
      · exact ⟨hs.fact (List.Mem.tail _ (List.Mem.tail _ (List.Mem.tail _ (List.Mem.tail _ hf)))), fA_ok f hf⟩
    have y1 : ∀ K : Nat → Bool, (castX [] sDa.vs K Y).ρ.int 22 = X.ρ.int 22 := fun K => (castX_int (σ := []) (K := K) mem_D).trans (h.le_int hle (i := 22) mem_D)
    obtain ⟨Z, m2, st2, hle2, hq⟩ := Hop.sim (room := 8000) tab_right ifs_right sumsN_all specF_ok ng_GN hD1 hs1
    have z1 := (hs1.le_int hle2 (i := 22) mem_D).trans (y1 _)
    have hlo : (1 : Int) ≤ X.ρ.int 22 := Int.le_trans (fact_geq gL) (Int.le_of_eq (y1 _))
    have hhi : X.ρ.int 22 ≤ 89 := Int.le_trans (Int.le_of_eq (y1 _).symm) hb
    have zi : ∀ K : Nat → Bool, (castX sP sDQ.vs K Z).ρ.int 22 = X.ρ.int 22 + 1 := fun K => (step_int (K := K) (vs := sDQ.vs) mem_D (by omega) (by omega)).trans (congrArg (· + 1) z1)
    have gU7 : (fU 7 false).ok _ := hq.fact (List.Mem.head _)
    have gL' : fLo.ok _ := hq.fact (List.Mem.tail _ (List.Mem.head _))
    have gH' : (fHi 90).ok _ := hq.fact (List.Mem.tail _ (List.Mem.tail _ (List.Mem.head _)))
    have hq1 : Sim Tryz.prog GN n0 w0 cs0 _ (sD.am 8000) m2 := hq.facts (t := sDQ) (fs := sD.fs) fun f hf => by
      have hf' : f ∈ fU 8 false :: fLo :: fHi 90 :: fA := hf
      rcases List.mem_cons.1 hf' with rfl | hf
      · exact ⟨u_next gU7 (fact_geq gL') (fact_leq gH'), rfl, rfl⟩
      rcases List.mem_cons.1 hf with rfl | hf
      · exact ⟨gL', rfl, rfl⟩
      rcases List.mem_cons.1 hf with rfl | hf
      · exact ⟨gH', rfl, rfl⟩
      · exact ⟨hq.fact (List.Mem.tail _ (List.Mem.tail _ (List.Mem.tail _ hf))), fA_ok f hf⟩
    exact .of_steps (st.trans st2) (k _ _ (zi _) (fact_leq gH') hq1)
  · exact .of_steps st (good_DX _ _ hs)
theorem good_D (d : Nat) : ∀ X m, (90 - X.ρ.int 22).toNat ≤ d → Sim Tryz.prog GN n0 w0 cs0 X (sD.am 8000) m → EndsTrue Tryz.prog n0 w0 cs0 4 m := by
  induction d with
  | zero => exact fun X m e h => good_Dstep X m h fun _ _ _ _ _ => by omega
  | succ d ih => exact fun X m e h => good_Dstep X m h fun Y m' e' f' h' => ih Y m' (by omega) h'

/-- A round ahead of the record's end. -/
theorem good_Lstep (X : Ext) (m : Machine) (h : Sim Tryz.prog GN n0 w0 cs0 X (sL.am 8000) m)
    (k : ∀ Y m', Y.ρ.int 22 = X.ρ.int 22 + 1 → Y.ρ.int 22 ≤ 90 → Sim Tryz.prog GN n0 w0 cs0 Y (sL.am 8000) m' → EndsTrue Tryz.prog n0 w0 cs0 4 m') : EndsTrue Tryz.prog n0 w0 cs0 4 m := by
  rcases HopV.sim (room := 8000) tab_right ifs_right sumsN_all specF_ok ng_GN hLa hLb h with ⟨Y, m1, st, hle, hs⟩ | ⟨Y, m1, st, hle, hs⟩
  · have gB : (fB true).ok _ := hs.fact (List.Mem.head _)
    have gU : (fU 8 true).ok _ := hs.fact (List.Mem.tail _ (List.Mem.head _))
    have gL : fLo.ok _ := hs.fact (List.Mem.tail _ (List.Mem.tail _ (List.Mem.head _)))
    have hb := b_bound gB
    have hs1 : Sim Tryz.prog GN n0 w0 cs0 _ (sL1.am 8000) m1 := hs.facts (t := sLa) (fs := sL1.fs) fun f hf => by
      have hf' : f ∈ fB true :: fU 8 true :: fLo :: fHi 89 :: fA := hf
      rcases List.mem_cons.1 hf' with rfl | hf
      · exact ⟨gB, rfl, rfl⟩
      rcases List.mem_cons.1 hf with rfl | hf
      · exact ⟨gU, rfl, rfl⟩
      rcases List.mem_cons.1 hf with rfl | hf
      · exact ⟨gL, rfl, rfl⟩
      rcases List.mem_cons.1 hf with rfl | hf
      · exact ⟨leq_fact hb, rfl, rfl⟩
      · exact ⟨hs.fact (List.Mem.tail _ (List.Mem.tail _ (List.Mem.tail _ (List.Mem.tail _ hf)))), fA_ok f hf⟩
    have y1 : ∀ K : Nat → Bool, (castX [] sLa.vs K Y).ρ.int 22 = X.ρ.int 22 := fun K => (castX_int (σ := []) (K := K) mem_L).trans (h.le_int hle (i := 22) mem_L)
    have hlo : (1 : Int) ≤ X.ρ.int 22 := Int.le_trans (fact_geq gL) (Int.le_of_eq (y1 _))
    have hhi : X.ρ.int 22 ≤ 89 := Int.le_trans (Int.le_of_eq (y1 _).symm) hb
    rcases HopV.sim (room := 8000) tab_right ifs_right sumsN_all specF_ok ng_GN h1a h1b hs1 with ⟨Z, m2, st2, hle2, hq⟩ | ⟨Z, m2, st2, hle2, hq⟩
    · have z1 := (hs1.le_int hle2 (i := 22) mem_L).trans (y1 _)
      have zi : ∀ K : Nat → Bool, (castX sP sL.vs K Z).ρ.int 22 = X.ρ.int 22 + 1 := fun K => (step_int (K := K) (vs := sL.vs) mem_L (by omega) (by omega)).trans (congrArg (· + 1) z1)
      have gH' : (fHi 90).ok _ := hq.fact (List.Mem.tail _ (List.Mem.tail _ (List.Mem.head _)))
      exact .of_steps (st.trans st2) (k _ _ (zi _) (fact_leq gH') hq)
    · exact .of_steps (st.trans st2) (good_D _ _ _ (Nat.le_refl _) hq)
  · exact .of_steps st (good_LX _ _ hs)
theorem good_L (d : Nat) : ∀ X m, (90 - X.ρ.int 22).toNat ≤ d → Sim Tryz.prog GN n0 w0 cs0 X (sL.am 8000) m → EndsTrue Tryz.prog n0 w0 cs0 4 m := by
  induction d with
  | zero => exact fun X m e h => good_Lstep X m h fun _ _ _ _ _ => by omega
  | succ d ih => exact fun X m e h => good_Lstep X m h fun Y m' e' f' h' => ih Y m' (by omega) h'
theorem good_s00 : Good (n0 := n0) (w0 := w0) (cs0 := cs0) s00 :=
  good_hop h0 <| good_hop h1 <| good_hop hL fun X m h => good_L _ X m (Nat.le_refl _) h
end
theorem law_told : ToldE Tryz.prog errs 4 [spI, spI, spI] (.lit true) :=
  toldE_of_sim tab_right errs_ng errs_pos s00_ok fun h => good_s00 _ _ h
end Go.Proofs.YtcbodlnadocbiaaGreatDoor
