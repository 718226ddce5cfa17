/-
  The law on expiring entries holds over a memory in which the packages' errors are laid: from hop to hop. Conditions: none.
-/
import Derived.Test.YtbpkijkinoligaaGreatDoorHopA
import Derived.Test.YtbpkijkinoligaaGreatDoorHopB
import Derived.Test.YtbpkijkinoligaaGreatDoorHopC
import Derived.Test.YtbpkijkinoligaaGreatDoorHopD
import Derived.Test.YtbpkijkinoligaaGreatDoorHopE
namespace Go.Proofs.YtbpkijkinoligaaGreatDoor
open Go Go.Ax Go.RowKit Go.Proofs

section
variable {n0 : Nat} {w0 : World} {cs0 : List Frame}
abbrev Good (s : AM) : Prop := ∀ X m, Sim Tryz.prog GA n0 w0 cs0 X s m → EndsTrue Tryz.prog n0 w0 cs0 4 m
theorem sumsA_all : SumsOK Tryz.prog GA n0 := sumsL_ok sumsA_ok n0
theorem ng_GA : 0 < GA.T.ng := errs_pos
theorem good_hop {s : AM} {j room : Nat} {σ : Sb} {keep : List Nat} {t : St} (hh : Hop specF GA 200 17 s j σ keep t) (he : Good (n0 := n0) (w0 := w0) (cs0 := cs0) (t.am room)) : Good (n0 := n0) (w0 := w0) (cs0 := cs0) s :=
  fun _ _ h => Hop.ends tab_right ifs_right sumsA_all ng_GA hh he h

/-- The last ping. -/
theorem good_G : Good (n0 := n0) (w0 := w0) (cs0 := cs0) (sG.am 8000) :=
  good_hop hC0 <| good_hop hC1 <| good_hop hC2 <| good_hop hC3 <| good_hop hC4 <| good_hop hC5 <| good_hop hC6 fun _ _ h =>
    EndsTrue.of_explore tab_right ifs_right sumsA_all specF_ok hZ h

theorem fact_lss {a b : E} {ρ : Val} (h : (Fact.mk .lss a b true).ok ρ) : a.den ρ < b.den ρ := of_decide_eq_true h
theorem fact_leq {a b : E} {ρ : Val} (h : (Fact.mk .leq a b true).ok ρ) : a.den ρ ≤ b.den ρ := of_decide_eq_true h
theorem fact_geq {a b : E} {ρ : Val} (h : (Fact.mk .geq a b true).ok ρ) : b.den ρ ≤ a.den ρ := of_decide_eq_true h
theorem leq_fact {a b : E} {ρ : Val} (h : a.den ρ ≤ b.den ρ) : (Fact.mk .leq a b true).ok ρ := decide_eq_true h
theorem geq_fact {a b : E} {ρ : Val} (h : b.den ρ ≤ a.den ρ) : (Fact.mk .geq a b true).ok ρ := decide_eq_true h
theorem pk_bound {ρ : Val} {i j : Nat} (h : (Fact.mk .lss (.var i) (.bin .add .i64 (.lit (.ofNat 20)) (.pk 20 (.var j))) true).ok ρ) : ρ.int i ≤ 38 := by
  have hp := pickZ_has (n := 20) (by decide) (ρ.int j)
  have h' : ρ.int i < IntKind.i64.wrap ((20 : Int) + pickZ 20 (ρ.int j)) := fact_lss h
  rw [wrap64_def] at h'
  omega

abbrev s1P : Sb := [(1909, (.bin .add .i64 (.var 1909) (.lit (.ofNat 1)))), (1910, (.var 1909)), (1908, (.bin .add .i64 (.var 1908) (.lit (.ofNat 1))))]
abbrev k1P : List Nat := [8, 9, 10, 11, 12, 13, 14, 115, 113, 59, 52, 54, 56, 63, 61, 339, 58, 57, 48, 47, 46, 45, 242, 51, 49, 50, 166, 1727, 108, 101, 103, 105, 112, 110, 1070, 107, 106, 97, 96, 95, 94, 904, 100, 98, 99, 114, 119]
abbrev k2P : List Nat := [8, 9, 10, 11, 12, 13, 14, 115, 113, 59, 52, 54, 56, 63, 61, 339, 58, 57, 48, 47, 46, 45, 242, 51, 49, 50, 166, 1727, 108, 101, 103, 105, 112, 110, 1070, 107, 106, 97, 96, 95, 94, 904, 100, 98, 99, 114, 119]
theorem sG_eq : ({ sF with fs := sG.fs } : St) = sG := rfl
theorem den_succ {ρ : Val} {i : Nat} {x : Int} (h : ρ.int i = x) (h0 : 0 ≤ x) (h1 : x ≤ 1000) : (E.bin .add .i64 (.var i) (.lit (.ofNat 1))).den ρ = x + 1 := by
  show IntKind.i64.wrap (ρ.int i + (1 : Int)) = x + 1
  rw [wrap64_def]
  omega
theorem mem_vP : ∀ i ∈ [1909, 1910, 1908], i ∈ sP.vs := by
  show ∀ i ∈ [1909, 1910, 1908], i ∈ [1909, 1910, 1908, 1907, 1906, 13, 14]
  decide
theorem mem_vF : 1908 ∈ sF.vs := by
  show 1908 ∈ [1909, 1910, 1908, 1907, 1906, 13, 14]
  decide

theorem good_F (X : Ext) (m : Machine) (a : 10 ≤ X.ρ.int 1908) (b : X.ρ.int 1908 ≤ 29) (h : Sim Tryz.prog GA n0 w0 cs0 X (sF.am 8000) m) : EndsTrue Tryz.prog n0 w0 cs0 4 m := by
  refine good_G X m ?_
  rw [← sG_eq]
  refine h.facts fun f hf => ?_
  have g1 := h.fact (List.Mem.head _)
  have g2 := h.fact (List.Mem.tail _ (List.Mem.head _))
  have g3 := h.fact (List.Mem.tail _ (List.Mem.tail _ (List.Mem.head _)))
  have g4 := h.fact (List.Mem.tail _ (List.Mem.tail _ (List.Mem.tail _ (List.Mem.head _))))
  rcases hf with _ | ⟨_, _ | ⟨_, _ | ⟨_, _ | ⟨_, _ | ⟨_, _ | ⟨_, hf⟩⟩⟩⟩⟩⟩
  · exact ⟨geq_fact a, rfl, rfl⟩
  · exact ⟨leq_fact b, rfl, rfl⟩
  · exact ⟨g1, rfl, rfl⟩
  · exact ⟨g2, rfl, rfl⟩
  · exact ⟨g3, rfl, rfl⟩
  · exact ⟨g4, rfl, rfl⟩
  · cases hf

/-- One round of the second loop. -/
theorem good_Pstep (X : Ext) (m : Machine) (a : X.ρ.int 1909 = X.ρ.int 1910 + 1) (b : X.ρ.int 1908 = X.ρ.int 1909 - 10) (c : 20 ≤ X.ρ.int 1909) (h : Sim Tryz.prog GA n0 w0 cs0 X (sP.am 8000) m)
    (k : ∀ Y m', Y.ρ.int 1909 = Y.ρ.int 1910 + 1 → Y.ρ.int 1908 = Y.ρ.int 1909 - 10 → 20 ≤ Y.ρ.int 1909 → Y.ρ.int 1909 = X.ρ.int 1909 + 1 → Y.ρ.int 1909 ≤ 39 → Sim Tryz.prog GA n0 w0 cs0 Y (sP.am 8000) m' → EndsTrue Tryz.prog n0 w0 cs0 4 m') : EndsTrue Tryz.prog n0 w0 cs0 4 m := by
  have hbe := pk_bound (h.fact (List.Mem.head _))
  rcases HopV.sim (room := 8000) tab_right ifs_right sumsA_all specF_ok ng_GA hP1 hP2 h with ⟨Y, m', st, hle, hs⟩ | ⟨Y, m', st, hle, hs⟩
  · refine .of_steps st (k _ _ ?_ ?_ ?_ ?_ ?_ hs)
    all_goals
      have y1 := h.le_int hle (i := 1909) (mem_vP _ (by decide))
      have y3 := h.le_int hle (i := 1908) (mem_vP _ (by decide))
      have hb2 := pk_bound (hs.fact (List.Mem.head _))
      have c1 := castX_int (σ := s1P) (K := keepK GA.T.ng k1P) (X := Y) (mem_vP 1909 (by decide))
      have c2 := castX_int (σ := s1P) (K := keepK GA.T.ng k1P) (X := Y) (mem_vP 1910 (by decide))
      have c3 := castX_int (σ := s1P) (K := keepK GA.T.ng k1P) (X := Y) (mem_vP 1908 (by decide))
      have e2 : (s1P.at 1910).den Y.ρ = X.ρ.int 1909 := y1
      have hb3 : X.ρ.int 1909 ≤ 38 := by rw [← e2, ← c2]; exact hb2
      have e1 : (s1P.at 1909).den Y.ρ = X.ρ.int 1909 + 1 := den_succ y1 (by omega) (by omega)
      have e3 : (s1P.at 1908).den Y.ρ = X.ρ.int 1908 + 1 := den_succ y3 (by omega) (by omega)
      rw [e1] at c1
      rw [e2] at c2
      rw [e3] at c3
    · exact c1.trans (congrArg (· + 1) c2.symm)
    · exact c3.trans (Eq.trans (by omega) (congrArg (· - 10) c1.symm))
    · exact Int.le_trans (by omega) (Int.le_of_eq c1.symm)
    · exact c1
    · exact Int.le_trans (Int.le_of_eq c1) (by omega)
  · have y3 := h.le_int hle (i := 1908) (mem_vP _ (by decide))
    have c3 := castX_int (σ := []) (K := keepK GA.T.ng k2P) (X := Y) mem_vF
    have e3 : (Sb.at [] 1908).den Y.ρ = X.ρ.int 1908 := y3
    rw [e3] at c3
    exact .of_steps st (good_F _ _ (Int.le_trans (by omega) (Int.le_of_eq c3.symm)) (Int.le_trans (Int.le_of_eq c3) (by omega)) hs)

/-- The second loop, behind its twentieth round. -/
theorem good_P (d : Nat) : ∀ X m, X.ρ.int 1909 = X.ρ.int 1910 + 1 → X.ρ.int 1908 = X.ρ.int 1909 - 10 → 20 ≤ X.ρ.int 1909 → (39 - X.ρ.int 1909).toNat ≤ d →
    Sim Tryz.prog GA n0 w0 cs0 X (sP.am 8000) m → EndsTrue Tryz.prog n0 w0 cs0 4 m := by
  induction d with
  | zero => exact fun X m a b c e h => good_Pstep X m a b c h fun _ _ _ _ _ _ _ _ => by omega
  | succ d ih => exact fun X m a b c e h => good_Pstep X m a b c h fun Y m' a' b' c' e' f' h' => ih Y m' a' b' c' (by omega) h'

theorem mem_vB : 1907 ∈ sB2.vs := by
  show 1907 ∈ [1907, 1906, 13, 14]
  decide
theorem good_B2 : Good (n0 := n0) (w0 := w0) (cs0 := cs0) (sB2.am 8000) := by
  intro X m h
  obtain ⟨Y, m', st, hle, hs⟩ := Hop.sim (room := 8000) tab_right ifs_right sumsA_all specF_ok ng_GA hP0 h
  have f1 : (590 : Int) ≤ X.ρ.int 1907 := fact_geq (h.fact (List.Mem.head _))
  have f2 : X.ρ.int 1907 ≤ (590 : Int) := fact_leq (h.fact (List.Mem.tail _ (List.Mem.head _)))
  have y := h.le_int hle (i := 1907) mem_vB
  have e1 : (E.lit (.ofNat 20)).den Y.ρ = 20 := rfl
  have e2 : (E.lit (.ofNat 19)).den Y.ρ = 19 := rfl
  have e3 : (E.bin .add .i64 (.var 1907) (.lit (.negSucc 579))).den Y.ρ = 10 := by
    show IntKind.i64.wrap (Y.ρ.int 1907 + (-580 : Int)) = 10
    rw [wrap64_def]
    omega
  refine .of_steps st (good_P 39 _ _ ?_ ?_ ?_ ?_ hs)
  all_goals simp only [castX_int (mem_vP 1909 (by decide)), castX_int (mem_vP 1908 (by decide)), castX_int (mem_vP 1910 (by decide))]
  · exact e1.trans (congrArg (· + 1) e2.symm)
  · exact e3.trans (congrArg (· - 10) e1.symm)
  · exact Int.le_of_eq e1.symm
  · have : ∀ x : Int, x = 20 → (39 - x).toNat ≤ 39 := fun x hx => by omega
    exact this _ e1
theorem good_E : Good (n0 := n0) (w0 := w0) (cs0 := cs0) (sE.am 8000) := good_hop hB0 <| good_hop hB1 <| good_hop hB2 good_B2

/-- The first loop, behind its seventh round. -/
theorem mem_vT : 1905 ∈ sT.vs := by
  show 1905 ∈ [1905, 1906, 13, 14]
  decide
theorem good_Tstep (X : Ext) (m : Machine) (h : Sim Tryz.prog GA n0 w0 cs0 X (sT.am 8000) m)
    (k : ∀ Y m', Y.ρ.int 1905 = X.ρ.int 1905 + 1 → Y.ρ.int 1905 ≤ 589 → Sim Tryz.prog GA n0 w0 cs0 Y (sT.am 8000) m' → EndsTrue Tryz.prog n0 w0 cs0 4 m') : EndsTrue Tryz.prog n0 w0 cs0 4 m := by
  have f1 : (7 : Int) ≤ X.ρ.int 1905 := fact_geq (h.fact (List.Mem.head _))
  have f2 : X.ρ.int 1905 ≤ (589 : Int) := fact_leq (h.fact (List.Mem.tail _ (List.Mem.head _)))
  rcases HopV.sim (room := 8000) tab_right ifs_right sumsA_all specF_ok ng_GA hT1 hT2 h with ⟨Y, m', st, hle, hs⟩ | ⟨Y, m', st, hle, hs⟩
  · have y := h.le_int hle (i := 1905) mem_vT
    have e := den_succ y (by omega) (by omega)
    have g2 := hs.fact (List.Mem.tail _ (List.Mem.head _))
    refine .of_steps st (k _ _ ?_ ?_ hs)
    · rw [castX_int mem_vT]
      exact e
    · exact fact_leq g2
  · exact .of_steps st (good_E _ _ hs)
theorem good_T (d : Nat) : ∀ X m, (589 - X.ρ.int 1905).toNat ≤ d → Sim Tryz.prog GA n0 w0 cs0 X (sT.am 8000) m → EndsTrue Tryz.prog n0 w0 cs0 4 m := by
  induction d with
  | zero => exact fun X m e h => good_Tstep X m h fun _ _ _ _ _ => by omega
  | succ d ih => exact fun X m e h => good_Tstep X m h fun Y m' e' f' h' => ih Y m' (by omega) h'
theorem good_s00 : Good (n0 := n0) (w0 := w0) (cs0 := cs0) s00 :=
  good_hop hA0 <| good_hop hA1 <| good_hop hA2 <| good_hop hA3 <| good_hop hA4 <| good_hop hA5 <| good_hop hA6 <| good_hop hT0 fun X m h => good_T _ X m (Nat.le_refl _) h
end
theorem arp_told : ToldE Tryz.prog errs 4 [spI, spI] (.lit true) :=
  toldE_of_sim tab_right errs_ng errs_pos s00_ok fun h => good_s00 _ _ h
end Go.Proofs.YtbpkijkinoligaaGreatDoor
