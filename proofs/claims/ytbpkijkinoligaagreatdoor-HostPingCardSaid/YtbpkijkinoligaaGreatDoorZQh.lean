/-
  The law on pings: how a state comes to the next one, whoever pings next. Conditions: none.
-/
import Derived.Test.YtbpkijkinoligaaGreatDoorZQs
namespace Go.Proofs.YtbpkijkinoligaaGreatDoor
open Go Go.Ax Go.RowKit Go.Proofs

section
variable {n0 : Nat} {w0 : World} {cs0 : List Frame} {pl : Ax.Place} {n : Nat}
theorem sumsP_all : SumsOK Tryz.prog GP n0 := sumsL_ok sumsP_ok n0
theorem ng_GP : 0 < GP.T.ng := errs_pos
abbrev PSim (n0 : Nat) (w0 : World) (cs0 : List Frame) (X : Ext) (s : AM) (m : Machine) : Prop := Sim Tryz.prog GP n0 w0 cs0 X s m
abbrev PEnds (n0 : Nat) (w0 : World) (cs0 : List Frame) (m : Machine) : Prop := EndsTrue Tryz.prog n0 w0 cs0 3 m

/-- A hop: the slice lies where it lay, the letters stand for what the terms say. -/
theorem hopS {s : AM} {j : Nat} {σ : Sb} {k : List Nat} {t : St} (hh : Hop specF GP 200 17 s j σ k t) (h13 : keepK GP.T.ng k 13 = true) {X : Ext} {m : Machine} (hX : X.μ 13 = some pl) (h : PSim n0 w0 cs0 X s m) :
    ∃ (X' Y : Ext) (m' : Machine), Steps Tryz.prog m m' ∧ X'.μ 13 = some pl ∧ (∀ x ∈ t.vs, X'.ρ.int x = (σ.at x).den Y.ρ) ∧ (∀ y ∈ s.ctx.vs, Y.ρ.int y = X.ρ.int y) ∧ PSim n0 w0 cs0 X' (t.am 8000) m' := by
  obtain ⟨Y, m', st, hle, hs⟩ := Hop.sim (room := 8000) tab_right ifs_right sumsP_all specF_ok ng_GP hh h
  refine ⟨_, Y, m', st, ?_, fun x hx => castX_int hx, fun y hy => h.le_int hle hy, hs⟩
  simp only [castX, if_pos h13]
  exact hle.μ _ _ hX
/-- A hop that leaves the letters as they are. -/
theorem hopI {s : AM} {j : Nat} {k : List Nat} {t : St} (hh : Hop specF GP 200 17 s j [] k t) (h13 : keepK GP.T.ng k 13 = true) (hv : ∀ x ∈ t.vs, x ∈ s.ctx.vs) {X : Ext} {m : Machine} (hX : X.μ 13 = some pl) (h : PSim n0 w0 cs0 X s m) :
    ∃ X' m', Steps Tryz.prog m m' ∧ X'.μ 13 = some pl ∧ (∀ x ∈ t.vs, X'.ρ.int x = X.ρ.int x) ∧ PSim n0 w0 cs0 X' (t.am 8000) m' := by
  obtain ⟨X', Y, m', st, h1, h2, h3, hs⟩ := hopS hh h13 hX h
  exact ⟨X', m', st, h1, fun x hx => (h2 x hx).trans (h3 x (hv x hx)), hs⟩

/-- The facts under which a ping is made. -/
def fsOf (nu : E) (st : Bool) (lets : List Nat) (base : List Fact) : List Fact :=
  ⟨.lss, nu, .var 17, true⟩ :: ((bif st then [⟨.lss, nu, .lit (.ofNat 8), true⟩, ⟨.geq, nu, .lit (.ofNat 1), true⟩] else []) ++ ((lets.flatMap fun x => [⟨.geq, .var x, .lit (.ofNat 0), true⟩, ⟨.leq, .var x, .lit (.ofNat 63), true⟩]) ++ base))

/-- A class of states: at the question, at the reading, behind it. -/
structure Kl where
  e : St
  i : St
  g : Bool → St
  fs : List Fact
  k : List Nat
  nu : E
  st : Bool
  lets : List Nat

/-- What the letters hold after ν pings. -/
def Inv (lets : List Nat) (ν : Int) (X : Ext) : Prop := ∀ x ∈ lets, 0 ≤ X.ρ.int x ∧ X.ρ.int x ≤ 9 * ν
/-- From the question on all is well. -/
def GoodE (n0 : Nat) (w0 : World) (cs0 : List Frame) (pl : Ax.Place) (n : Nat) (c : Kl) (ν : Int) : Prop :=
  ∀ X m, X.μ 13 = some pl → X.ρ.int 17 = (n : Int) → c.nu.den X.ρ = ν → Inv c.lets ν X → PSim n0 w0 cs0 X (c.e.am 8000) m → PEnds n0 w0 cs0 m

noncomputable def subB (l l' : List Nat) : Bool := l.all fun x => l'.any (Nat.beq x)
theorem subB_mem {l l' : List Nat} (h : subB l l' = true) {x : Nat} (hx : x ∈ l) : x ∈ l' := any_beq (List.all_eq_true.1 h x hx)
/-- A number or a letter. -/
def okN0 (e : E) (vs : List Nat) : Bool :=
  match e with
  | .lit _ => true
  | .var x => vs.any (Nat.beq x)
  | _ => false
noncomputable def Kl.okB (c : Kl) : Bool :=
  keepK GP.T.ng c.k 13 && (subB (17 :: c.lets) c.e.vs && (subB c.e.vs c.i.vs && (subB c.i.vs c.e.vs && (subB c.i.vs (c.g true).vs && (subB c.i.vs (c.g false).vs && (subB (c.g true).vs c.i.vs && (subB (c.g false).vs c.i.vs &&
    (c.nu.okB c.e.vs && (okN0 c.nu c.e.vs && c.e.fs.all (fun f => f.a.okB c.e.vs && f.b.okB c.e.vs))))))))))

/-- A letter's new value is bounded as the old ones were. -/
def okT (lets : List Nat) : E → Bool
  | .lit (.ofNat c) => Nat.ble c 9
  | .var y => lets.any (Nat.beq y)
  | .bin .add .i64 (.var y) (.lit (.ofNat c)) => lets.any (Nat.beq y) && Nat.ble c 9
  | _ => false
theorem okT_sound {lets : List Nat} {e : E} {ρ : Val} {ν : Int} (h : okT lets e = true) (h0 : 0 ≤ ν) (h8 : ν ≤ 8) (hi : ∀ x ∈ lets, 0 ≤ ρ.int x ∧ ρ.int x ≤ 9 * ν) : 0 ≤ e.den ρ ∧ e.den ρ ≤ 9 * (ν + 1) := by
  unfold okT at h
  split at h
  · rename_i c
    have hc : c ≤ 9 := by simpa using h
    simp only [E.den, Int.ofNat_eq_natCast]
    omega
  · rename_i y
    have := hi y (any_beq h)
    simp only [E.den]
    omega
  · rename_i y c
    simp only [Bool.and_eq_true] at h
    have := hi y (any_beq h.1)
    have hc : c ≤ 9 := by simpa using h.2
    simp only [E.den, binZ, Int.ofNat_eq_natCast]
    rw [wrap64_def]
    omega
  · cases h
/-- The number of pings grows by one. -/
def okN (nu nu' : E) (σ : Sb) (vs : List Nat) : Bool :=
  match nu' with
  | .lit (.ofNat m) => (match nu with
    | .lit (.ofNat k) => Nat.beq m (k + 1)
    | _ => false)
  | .var x => vs.any (Nat.beq x) && (match nu, σ.at x with
    | .lit (.ofNat k), .lit (.ofNat m) => Nat.beq m (k + 1)
    | .var y, .bin .add .i64 (.var y') (.lit (.ofNat c)) => Nat.beq y y' && Nat.beq c 1
    | _, _ => false)
  | _ => false
theorem okN_sound {nu nu' : E} {σ : Sb} {vs : List Nat} {ρ ρ' : Val} {ν : Int} (h : okN nu nu' σ vs = true) (h0 : 0 ≤ ν) (h8 : ν ≤ 8) (hn : nu.den ρ = ν) (hc : ∀ x ∈ vs, ρ'.int x = (σ.at x).den ρ) : nu'.den ρ' = ν + 1 := by
  unfold okN at h
  split at h
  · rename_i m
    split at h
    · rename_i k
      have : m = k + 1 := by simpa using h
      simp only [E.den, Int.ofNat_eq_natCast] at hn ⊢
      omega
    · cases h
  · rename_i x
    simp only [Bool.and_eq_true] at h
    have hx := hc x (any_beq h.1)
    obtain ⟨-, h⟩ := h
    simp only [E.den]
    split at h
    · rename_i k m hm
      have : m = k + 1 := by simpa using h
      rw [hm] at hx
      simp only [E.den, Int.ofNat_eq_natCast] at hn hx
      omega
    · rename_i y y' c hm
      simp only [Bool.and_eq_true, Nat.beq_eq] at h
      obtain ⟨rfl, rfl⟩ := h
      rw [hm] at hx
      simp only [E.den, binZ, Int.ofNat_eq_natCast] at hn hx
      rw [wrap64_def] at hx
      omega
    · cases h
  · cases h
/-- From a class to the next one. -/
noncomputable def linkB (c c' : Kl) (σ : Sb) : Bool :=
  keepK GP.T.ng c'.k 13 && (okN c.nu c'.nu σ c'.e.vs && ((c'.lets.all fun x => c'.e.vs.any (Nat.beq x) && okT c.lets (σ.at x)) && (c'.e.vs.any (Nat.beq 17) && (σ.at 17).same (.var 17))))

theorem fact_lss' {a b : E} {ρ : Val} (h : a.den ρ < b.den ρ) : (Fact.mk .lss a b true).ok ρ := decide_eq_true h
theorem fact_leq' {a b : E} {ρ : Val} (h : a.den ρ ≤ b.den ρ) : (Fact.mk .leq a b true).ok ρ := decide_eq_true h
theorem fact_geq' {a b : E} {ρ : Val} (h : b.den ρ ≤ a.den ρ) : (Fact.mk .geq a b true).ok ρ := decide_eq_true h
theorem fact_of {c : Kl} {ν : Int} {X : Ext} {m : Machine} (hok : c.okB = true) (h0 : 0 ≤ ν) (h1 : c.st = true → 1 ≤ ν) (h8 : ν < 8) (hn : ν < n) (h17 : X.ρ.int 17 = (n : Int)) (hnu : c.nu.den X.ρ = ν) (hI : Inv c.lets ν X) (h : PSim n0 w0 cs0 X (c.e.am 8000) m) :
    ∀ f ∈ fsOf c.nu c.st c.lets c.e.fs, f.ok X.ρ ∧ f.a.okB c.e.vs = true ∧ f.b.okB c.e.vs = true := by
  simp only [Kl.okB, Bool.and_eq_true] at hok
  obtain ⟨-, b1, -, -, -, -, -, -, b2, -, b3⟩ := hok
  have hv17 : (E.var 17).okB c.e.vs = true := by
    have := List.all_eq_true.1 b1 17 (by simp)
    exact this
  intro f hf
  unfold fsOf at hf
  rcases List.mem_cons.1 hf with rfl | hf
  · refine ⟨?_, b2, hv17⟩
    simp only [Fact.ok, cmpZ, E.den, hnu, h17, decide_eq_true_eq]
    exact hn
  · rcases List.mem_append.1 hf with hf | hf
    · cases hst : c.st with
      | false => rw [hst] at hf; cases hf
      | true =>
        rw [hst] at hf
        have := h1 hst
        rcases hf with _ | ⟨_, _ | ⟨_, hf⟩⟩
        · exact ⟨fact_lss' (by rw [hnu]; exact h8), b2, rfl⟩
        · exact ⟨fact_geq' (by rw [hnu]; exact this), b2, rfl⟩
        · cases hf
    · rcases List.mem_append.1 hf with hf | hf
      · obtain ⟨x, hx, hf⟩ := List.mem_flatMap.1 hf
        have hb := hI x hx
        have hvx : (E.var x).okB c.e.vs = true := by
          have := List.all_eq_true.1 b1 x (by simp [hx])
          exact this
        rcases hf with _ | ⟨_, _ | ⟨_, hf⟩⟩
        · exact ⟨fact_geq' hb.1, hvx, rfl⟩
        · exact ⟨fact_leq' (by show X.ρ.int x ≤ (63 : Int); omega), hvx, rfl⟩
        · cases hf
      · have hb := List.all_eq_true.1 b3 f hf
        simp only [Bool.and_eq_true] at hb
        exact ⟨h.fact hf, hb.1, hb.2⟩

/-- The number of pings, seen by letters that agree. -/
theorem den_agree_int : ∀ {e : E} {vs : List Nat} {ρ ρ' : Val}, okN0 e vs = true → (∀ x ∈ vs, ρ'.int x = ρ.int x) → e.den ρ' = e.den ρ
  | .lit _, _, _, _, _, _ => rfl
  | .var x, _, _, _, h, hv => hv x (any_beq h)
  | .len _, _, _, _, h, _ => by cases h
  | .byte _ _, _, _, _, h, _ => by cases h
  | .bin _ _ _ _, _, _, _, h, _ => by cases h
  | .cnv _ _, _, _, _, h, _ => by cases h
  | .pk _ _, _, _, _, h, _ => by cases h
  | .cons _ _, _, _, _, h, _ => by cases h
  | .tv _ _ _ _, _, _, _, h, _ => by cases h
  | .fn _ _, _, _, _, h, _ => by cases h

theorem ops9_two : ∃ o1 o2 : Oper, ops9.drop 2 = [o1, o2] ∧ o1.guard = none ∧ o2.guard = none ∧ o1.dst = some 43 ∧ o2.dst = some 44 ∧ o1.op = .indexAddr 22 (.tmp 41) (.tmp 42) ∧ o2.op = .load 4 (.tmp 43) :=
  ⟨_, _, rfl, rfl, rfl, rfl, rfl, rfl, rfl⟩
theorem ty_bools : GP.T.ty 22 = some ti22 := by kernel_rfl
theorem ty_bool : GP.T.ty 4 = some ti4 := by kernel_rfl

/-- One ping. -/
theorem step {c cF cT : Kl} {σF σT : Sb}
    (hi : Hop specF GP 200 17 (({ c.e with fs := c.fs } : St).am 8000) 1 [] c.k c.i)
    (hg : ∀ (i : Nat) (b : Bool), Hop specF GP 200 17 (readS (c.i.am 8000) ops9 2 43 44 13 i b) 0 [] c.k (c.g b))
    (hF : Hop specF GP 200 17 ((c.g false).am 8000) 15 σF cF.k cF.e)
    (hT : Hop specF GP 200 17 ((c.g true).am 8000) 15 σT cT.k cT.e)
    (hx : exploreP specF GP 200 3 (fun c v => (Sp.lit true).chk c v) 17 3 [] (({ c.e with fs := ⟨.lss, c.nu, .var 17, false⟩ :: c.e.fs } : St).am 8000) = true)
    (hy : c.st = false ∨ exploreP specF GP 200 3 (fun c v => (Sp.lit true).chk c v) 17 3 [] (({ c.e with fs := ⟨.lss, c.nu, .var 17, true⟩ :: ⟨.lss, c.nu, .lit (.ofNat 8), false⟩ :: c.e.fs } : St).am 8000) = true)
    (hok : c.okB = true) (hfs : c.fs = fsOf c.nu c.st c.lets c.e.fs) (hcur : c.i.cur = .reg ops9 2 (ops9.drop 2)) (h41 : (c.i.am 8000).fr.tm.get 41 = some (.wslice 13 0 0 1 17)) (h42 : (c.i.am 8000).fr.tm.get 42 = some (.int .i64 c.nu)) (hnt : c.i.nt = 101)
    (hlF : linkB c cF σF = true) (hlT : linkB c cT σT = true)
    (hin : pl.blk < n0) (hcell : ∀ i, i < n → ∃ β, w0.cell? ⟨pl.blk, pl.base + i, none⟩ = some (.bool β))
    {ν : Int} (h0 : 0 ≤ ν) (h1 : c.st = true → 1 ≤ ν) (h8 : ν ≤ 8) (hst : c.st = false → ν < 8)
    (gF : ν < 8 → GoodE n0 w0 cs0 pl n cF (ν + 1)) (gT : ν < 8 → GoodE n0 w0 cs0 pl n cT (ν + 1)) : GoodE n0 w0 cs0 pl n c ν := by
  intro X m hX h17 hnu hI h
  have hok' := hok
  simp only [Kl.okB, Bool.and_eq_true] at hok'
  obtain ⟨b0, b1, b2, b3, b4, b5, b6, b7, b8, bn, b9⟩ := hok'
  have hv17 : 17 ∈ c.e.vs := subB_mem b1 (by simp)
  have hvl : ∀ x ∈ c.lets, x ∈ c.e.vs := fun x hx => subB_mem b1 (by simp [hx])
  have base : ∀ f ∈ c.e.fs, f.ok X.ρ ∧ f.a.okB c.e.vs = true ∧ f.b.okB c.e.vs = true := fun f hf => by
    have hb := List.all_eq_true.1 b9 f hf
    simp only [Bool.and_eq_true] at hb
    exact ⟨h.fact hf, hb.1, hb.2⟩
  have hvar : (E.var 17).okB c.e.vs = true := List.all_eq_true.1 b1 17 (by simp)
  by_cases hL : ν < n
  · by_cases h7 : ν < 8
    · have hs := h.facts (fact_of hok h0 h1 h7 hL h17 hnu hI h)
      rw [← hfs] at hs
      obtain ⟨X1, m1, st1, hX1, hv1, hs1⟩ := hopI hi b0 (fun x hx => subB_mem b3 hx) hX hs
      have hag : ∀ x ∈ c.e.vs, X1.ρ.int x = X.ρ.int x := fun x hx => hv1 x (subB_mem b2 hx)
      have hnu1 : c.nu.den X1.ρ = ν := by
        rw [← hnu]
        exact den_agree_int bn hag
      obtain ⟨o1, o2, q1, q2, q3, q4, q5, q6, q7⟩ := ops9_two
      have h17' : X1.ρ.int 17 = (n : Int) := (hag 17 hv17).trans h17
      obtain ⟨i, β, Z, m2, st2, hle2, hs2⟩ := hs1.readW tab_right ifs_right (s := c.i.am 8000) rfl (ops := ops9) (k := 2) (o1 := o1) (o2 := o2) (by show c.i.cur = _; rw [hcur, q1]) q2 q3 q4 q5 (by show 43 < c.i.nt; rw [hnt]; decide) (by show 44 < c.i.nt; rw [hnt]; decide) q6 q7 ty_bools rfl ty_bool rfl ty_bool rfl h41 h42 (by rw [hnu1]; exact h0) (by rw [hnu1, h17']; exact hL) hX1 hin h17' hcell
      have hX2 : Z.μ 13 = some pl := hle2.μ _ _ hX1
      have hv2 : ∀ x ∈ c.i.vs, Z.ρ.int x = X1.ρ.int x := fun x hx => hs1.le_int hle2 hx
      obtain ⟨X3, m3, st3, hX3, hv3, hs3⟩ := hopI (hg i β) b0 (fun x hx => by
        show x ∈ c.i.vs
        cases β
        · exact subB_mem b7 hx
        · exact subB_mem b6 hx) hX2 hs2
      have hag3 : ∀ x ∈ c.e.vs, X3.ρ.int x = X.ρ.int x := fun x hx => by
        have hxi : x ∈ c.i.vs := subB_mem b2 hx
        have hxg : x ∈ (c.g β).vs := by cases β; exact subB_mem b5 hxi; exact subB_mem b4 hxi
        rw [hv3 x hxg, hv2 x hxi, hag x hx]
      have fin : ∀ {c' : Kl} {σ : Sb}, Hop specF GP 200 17 ((c.g β).am 8000) 15 σ c'.k c'.e → linkB c c' σ = true → GoodE n0 w0 cs0 pl n c' (ν + 1) → PEnds n0 w0 cs0 m3 := by
        intro c' σ hh hl hgood
        simp only [linkB, Bool.and_eq_true] at hl
        obtain ⟨l1, l2, l3, l4, l5⟩ := hl
        obtain ⟨X4, Y, m4, st4, hX4, hv4, hy4, hs4⟩ := hopS hh l1 hX3 hs3
        have hY : ∀ x ∈ c.e.vs, Y.ρ.int x = X.ρ.int x := fun x hx => by
          have hxi : x ∈ c.i.vs := subB_mem b2 hx
          have hxg : x ∈ (c.g β).vs := by cases β; exact subB_mem b5 hxi; exact subB_mem b4 hxi
          exact (hy4 x hxg).trans (hag3 x hx)
        refine .of_steps st4 (hgood X4 m4 hX4 ?_ ?_ ?_ hs4)
        · rw [hv4 17 (any_beq l4), E.same_sound l5]
          exact (hY 17 hv17).trans h17
        · refine okN_sound l2 h0 h8 (ρ := Y.ρ) ?_ hv4
          rw [← hnu]
          exact den_agree_int bn hY
        · intro x hx
          have hb := List.all_eq_true.1 l3 x hx
          simp only [Bool.and_eq_true] at hb
          rw [hv4 x (any_beq hb.1)]
          exact okT_sound hb.2 h0 h8 fun y hy => by rw [hY y (hvl y hy)]; exact hI y hy
      refine .of_steps (st1.trans (st2.trans st3)) ?_
      cases β
      · exact fin hF hlF (gF h7)
      · exact fin hT hlT (gT h7)
    · rcases hy with hy | hy
      · exact absurd (hst hy) h7
      · refine EndsTrue.of_explore tab_right ifs_right sumsP_all specF_ok hy (h.facts (t := c.e) fun f hf => ?_)
        rcases List.mem_cons.1 hf with rfl | hf
        · refine ⟨?_, b8, hvar⟩
          simp only [Fact.ok, cmpZ, E.den, hnu, h17, decide_eq_true_eq]
          exact hL
        · rcases List.mem_cons.1 hf with rfl | hf
          · refine ⟨?_, b8, rfl⟩
            simp only [Fact.ok, cmpZ, E.den, hnu, Int.ofNat_eq_natCast, decide_eq_false_iff_not]
            omega
          · exact base f hf
  · refine EndsTrue.of_explore tab_right ifs_right sumsP_all specF_ok hx (h.facts (t := c.e) fun f hf => ?_)
    rcases List.mem_cons.1 hf with rfl | hf
    · refine ⟨?_, b8, hvar⟩
      simp only [Fact.ok, cmpZ, E.den, hnu, h17, decide_eq_false_iff_not]
      exact hL
    · exact base f hf
end
end Go.Proofs.YtbpkijkinoligaaGreatDoor

/-! The law on pings: the steps between its states (Q). Conditions: none. -/
namespace Go.Proofs.YtbpkijkinoligaaGreatDoor
open Go Go.Ax Go.RowKit Go.Proofs

theorem hQ : Hop specF GP 200 17 p00 7 [] [8, 9, 10, 11, 12, 13, 14, 118, 116, 62, 55, 57, 59, 66, 64, 61, 60, 51, 50, 49, 48, 54, 52, 53, 111, 104, 106, 108, 115, 113, 110, 109, 100, 99, 98, 97, 103, 101, 102, 117, 122] eZ := by unfold Hop; kernel_rfl
theorem hZi : Hop specF GP 200 17 (({ eZ with fs := iZ.fs } : St).am 8000) 1 [] [8, 9, 10, 11, 12, 13, 14, 118, 116, 62, 55, 57, 59, 66, 64, 61, 60, 51, 50, 49, 48, 54, 52, 53, 111, 104, 106, 108, 115, 113, 110, 109, 100, 99, 98, 97, 103, 101, 102, 117, 122] iZ := by unfold Hop; kernel_rfl
theorem hZg (n : Nat) (b : Bool) : Hop specF GP 200 17 (readS (iZ.am 8000) ops9 2 43 44 13 n b) 0 [] [8, 9, 10, 11, 12, 13, 14, 118, 116, 62, 55, 57, 59, 66, 64, 61, 60, 51, 50, 49, 48, 54, 52, 53, 111, 104, 106, 108, 115, 113, 110, 109, 100, 99, 98, 97, 103, 101, 102, 117, 122] (gZ b) := by cases b <;> (unfold Hop; kernel_rfl)
theorem hZx : exploreP specF GP 200 3 (fun c v => (Sp.lit true).chk c v) 17 3 [] (({ eZ with fs := ⟨.lss, .lit (.ofNat 0), .var 17, false⟩ :: eZ.fs } : St).am 8000) = true := by kernel_rfl
end Go.Proofs.YtbpkijkinoligaaGreatDoor

/-! The law on pings: the steps between its states (A1). Conditions: none. -/
namespace Go.Proofs.YtbpkijkinoligaaGreatDoor
open Go Go.Ax Go.RowKit Go.Proofs

theorem hA1i : Hop specF GP 200 17 (({ eA1 with fs := fsA1 } : St).am 8000) 1 [] [8, 9, 10, 11, 12, 13, 14, 118, 116, 62, 55, 57, 59, 66, 64, 298, 495, 61, 60, 51, 50, 49, 48, 225, 54, 52, 53, 169, 111, 104, 106, 108, 115, 113, 846, 1135, 110, 109, 100, 99, 98, 97, 724, 103, 101, 102, 117, 122] iA1 := by unfold Hop; kernel_rfl
theorem hA1g (n : Nat) (c : Bool) : Hop specF GP 200 17 (readS (iA1.am 8000) ops9 2 43 44 13 n c) 0 [] [8, 9, 10, 11, 12, 13, 14, 118, 116, 62, 55, 57, 59, 66, 64, 298, 495, 61, 60, 51, 50, 49, 48, 225, 54, 52, 53, 169, 111, 104, 106, 108, 115, 113, 846, 1135, 110, 109, 100, 99, 98, 97, 724, 103, 101, 102, 117, 122] (gA1 c) := by cases c <;> (unfold Hop; kernel_rfl)
theorem hA1x : exploreP specF GP 200 3 (fun c v => (Sp.lit true).chk c v) 17 3 [] (({ eA1 with fs := ⟨.lss, (.lit (.ofNat 1)), .var 17, false⟩ :: eA1.fs } : St).am 8000) = true := by kernel_rfl
end Go.Proofs.YtbpkijkinoligaaGreatDoor

/-! The law on pings: the steps between its states (B1). Conditions: none. -/
namespace Go.Proofs.YtbpkijkinoligaaGreatDoor
open Go Go.Ax Go.RowKit Go.Proofs

theorem hB1i : Hop specF GP 200 17 (({ eB1 with fs := fsB1 } : St).am 8000) 1 [] [8, 9, 10, 11, 12, 13, 14, 118, 116, 62, 55, 57, 59, 66, 64, 845, 1134, 61, 60, 51, 50, 49, 48, 723, 54, 52, 53, 111, 104, 106, 108, 115, 113, 298, 496, 110, 109, 100, 99, 98, 97, 225, 103, 101, 102, 169, 117, 122] iB1 := by unfold Hop; kernel_rfl
theorem hB1g (n : Nat) (c : Bool) : Hop specF GP 200 17 (readS (iB1.am 8000) ops9 2 43 44 13 n c) 0 [] [8, 9, 10, 11, 12, 13, 14, 118, 116, 62, 55, 57, 59, 66, 64, 845, 1134, 61, 60, 51, 50, 49, 48, 723, 54, 52, 53, 111, 104, 106, 108, 115, 113, 298, 496, 110, 109, 100, 99, 98, 97, 225, 103, 101, 102, 169, 117, 122] (gB1 c) := by cases c <;> (unfold Hop; kernel_rfl)
theorem hB1x : exploreP specF GP 200 3 (fun c v => (Sp.lit true).chk c v) 17 3 [] (({ eB1 with fs := ⟨.lss, (.lit (.ofNat 1)), .var 17, false⟩ :: eB1.fs } : St).am 8000) = true := by kernel_rfl
end Go.Proofs.YtbpkijkinoligaaGreatDoor

/-! The law on pings: the steps between its states (A). Conditions: none. -/
namespace Go.Proofs.YtbpkijkinoligaaGreatDoor
open Go Go.Ax Go.RowKit Go.Proofs

theorem hAi : Hop specF GP 200 17 (({ eA with fs := fsA } : St).am 8000) 1 [] [8, 9, 10, 11, 12, 13, 14, 118, 116, 62, 55, 57, 59, 66, 64, 298, 495, 61, 60, 51, 50, 49, 48, 225, 54, 52, 53, 169, 111, 104, 106, 108, 115, 113, 846, 1135, 110, 109, 100, 99, 98, 97, 724, 103, 101, 102, 117, 122] iA := by unfold Hop; kernel_rfl
theorem hAg (n : Nat) (c : Bool) : Hop specF GP 200 17 (readS (iA.am 8000) ops9 2 43 44 13 n c) 0 [] [8, 9, 10, 11, 12, 13, 14, 118, 116, 62, 55, 57, 59, 66, 64, 298, 495, 61, 60, 51, 50, 49, 48, 225, 54, 52, 53, 169, 111, 104, 106, 108, 115, 113, 846, 1135, 110, 109, 100, 99, 98, 97, 724, 103, 101, 102, 117, 122] (gA c) := by cases c <;> (unfold Hop; kernel_rfl)
theorem hAx : exploreP specF GP 200 3 (fun c v => (Sp.lit true).chk c v) 17 3 [] (({ eA with fs := ⟨.lss, (.var 20), .var 17, false⟩ :: eA.fs } : St).am 8000) = true := by kernel_rfl
theorem hAy : exploreP specF GP 200 3 (fun c v => (Sp.lit true).chk c v) 17 3 [] (({ eA with fs := ⟨.lss, (.var 20), .var 17, true⟩ :: ⟨.lss, (.var 20), .lit (.ofNat 8), false⟩ :: eA.fs } : St).am 8000) = true := by kernel_rfl
end Go.Proofs.YtbpkijkinoligaaGreatDoor

/-! The law on pings: the steps between its states (B). Conditions: none. -/
namespace Go.Proofs.YtbpkijkinoligaaGreatDoor
open Go Go.Ax Go.RowKit Go.Proofs

theorem hBi : Hop specF GP 200 17 (({ eB with fs := fsB } : St).am 8000) 1 [] [8, 9, 10, 11, 12, 13, 14, 118, 116, 62, 55, 57, 59, 66, 64, 845, 1134, 61, 60, 51, 50, 49, 48, 723, 54, 52, 53, 111, 104, 106, 108, 115, 113, 298, 496, 110, 109, 100, 99, 98, 97, 225, 103, 101, 102, 169, 117, 122] iB := by unfold Hop; kernel_rfl
theorem hBg (n : Nat) (c : Bool) : Hop specF GP 200 17 (readS (iB.am 8000) ops9 2 43 44 13 n c) 0 [] [8, 9, 10, 11, 12, 13, 14, 118, 116, 62, 55, 57, 59, 66, 64, 845, 1134, 61, 60, 51, 50, 49, 48, 723, 54, 52, 53, 111, 104, 106, 108, 115, 113, 298, 496, 110, 109, 100, 99, 98, 97, 225, 103, 101, 102, 169, 117, 122] (gB c) := by cases c <;> (unfold Hop; kernel_rfl)
theorem hBx : exploreP specF GP 200 3 (fun c v => (Sp.lit true).chk c v) 17 3 [] (({ eB with fs := ⟨.lss, (.var 20), .var 17, false⟩ :: eB.fs } : St).am 8000) = true := by kernel_rfl
theorem hBy : exploreP specF GP 200 3 (fun c v => (Sp.lit true).chk c v) 17 3 [] (({ eB with fs := ⟨.lss, (.var 20), .var 17, true⟩ :: ⟨.lss, (.var 20), .lit (.ofNat 8), false⟩ :: eB.fs } : St).am 8000) = true := by kernel_rfl
end Go.Proofs.YtbpkijkinoligaaGreatDoor

/-! The law on pings: the steps between its states (C0). Conditions: none. -/
namespace Go.Proofs.YtbpkijkinoligaaGreatDoor
open Go Go.Ax Go.RowKit Go.Proofs

theorem hC0i : Hop specF GP 200 17 (({ eC0 with fs := fsC0 } : St).am 8000) 1 [] [8, 9, 10, 11, 12, 13, 14, 118, 116, 62, 55, 57, 59, 66, 64, 298, 495, 61, 60, 51, 50, 49, 48, 225, 54, 52, 53, 169, 111, 104, 106, 108, 115, 113, 846, 1135, 110, 109, 100, 99, 98, 97, 724, 103, 101, 102, 1746, 117, 122] iC0 := by unfold Hop; kernel_rfl
theorem hC0g (n : Nat) (c : Bool) : Hop specF GP 200 17 (readS (iC0.am 8000) ops9 2 43 44 13 n c) 0 [] [8, 9, 10, 11, 12, 13, 14, 118, 116, 62, 55, 57, 59, 66, 64, 298, 495, 61, 60, 51, 50, 49, 48, 225, 54, 52, 53, 169, 111, 104, 106, 108, 115, 113, 846, 1135, 110, 109, 100, 99, 98, 97, 724, 103, 101, 102, 1746, 117, 122] (gC0 c) := by cases c <;> (unfold Hop; kernel_rfl)
theorem hC0x : exploreP specF GP 200 3 (fun c v => (Sp.lit true).chk c v) 17 3 [] (({ eC0 with fs := ⟨.lss, (.var 20), .var 17, false⟩ :: eC0.fs } : St).am 8000) = true := by kernel_rfl
theorem hC0y : exploreP specF GP 200 3 (fun c v => (Sp.lit true).chk c v) 17 3 [] (({ eC0 with fs := ⟨.lss, (.var 20), .var 17, true⟩ :: ⟨.lss, (.var 20), .lit (.ofNat 8), false⟩ :: eC0.fs } : St).am 8000) = true := by kernel_rfl
end Go.Proofs.YtbpkijkinoligaaGreatDoor

/-! The law on pings: the steps between its states (C1). Conditions: none. -/
namespace Go.Proofs.YtbpkijkinoligaaGreatDoor
open Go Go.Ax Go.RowKit Go.Proofs

theorem hC1i : Hop specF GP 200 17 (({ eC1 with fs := fsC1 } : St).am 8000) 1 [] [8, 9, 10, 11, 12, 13, 14, 118, 116, 62, 55, 57, 59, 66, 64, 298, 495, 61, 60, 51, 50, 49, 48, 225, 54, 52, 53, 169, 111, 104, 106, 108, 115, 113, 846, 1135, 110, 109, 100, 99, 98, 97, 724, 103, 101, 102, 1746, 117, 122] iC1 := by unfold Hop; kernel_rfl
theorem hC1g (n : Nat) (c : Bool) : Hop specF GP 200 17 (readS (iC1.am 8000) ops9 2 43 44 13 n c) 0 [] [8, 9, 10, 11, 12, 13, 14, 118, 116, 62, 55, 57, 59, 66, 64, 298, 495, 61, 60, 51, 50, 49, 48, 225, 54, 52, 53, 169, 111, 104, 106, 108, 115, 113, 846, 1135, 110, 109, 100, 99, 98, 97, 724, 103, 101, 102, 1746, 117, 122] (gC1 c) := by cases c <;> (unfold Hop; kernel_rfl)
theorem hC1x : exploreP specF GP 200 3 (fun c v => (Sp.lit true).chk c v) 17 3 [] (({ eC1 with fs := ⟨.lss, (.var 20), .var 17, false⟩ :: eC1.fs } : St).am 8000) = true := by kernel_rfl
theorem hC1y : exploreP specF GP 200 3 (fun c v => (Sp.lit true).chk c v) 17 3 [] (({ eC1 with fs := ⟨.lss, (.var 20), .var 17, true⟩ :: ⟨.lss, (.var 20), .lit (.ofNat 8), false⟩ :: eC1.fs } : St).am 8000) = true := by kernel_rfl
end Go.Proofs.YtbpkijkinoligaaGreatDoor

/-! The law on pings: the steps between its states (D0). Conditions: none. -/
namespace Go.Proofs.YtbpkijkinoligaaGreatDoor
open Go Go.Ax Go.RowKit Go.Proofs

theorem hD0i : Hop specF GP 200 17 (({ eD0 with fs := fsD0 } : St).am 8000) 1 [] [8, 9, 10, 11, 12, 13, 14, 118, 116, 62, 55, 57, 59, 66, 64, 845, 1134, 61, 60, 51, 50, 49, 48, 723, 54, 52, 53, 1746, 111, 104, 106, 108, 115, 113, 298, 496, 110, 109, 100, 99, 98, 97, 225, 103, 101, 102, 169, 117, 122] iD0 := by unfold Hop; kernel_rfl
theorem hD0g (n : Nat) (c : Bool) : Hop specF GP 200 17 (readS (iD0.am 8000) ops9 2 43 44 13 n c) 0 [] [8, 9, 10, 11, 12, 13, 14, 118, 116, 62, 55, 57, 59, 66, 64, 845, 1134, 61, 60, 51, 50, 49, 48, 723, 54, 52, 53, 1746, 111, 104, 106, 108, 115, 113, 298, 496, 110, 109, 100, 99, 98, 97, 225, 103, 101, 102, 169, 117, 122] (gD0 c) := by cases c <;> (unfold Hop; kernel_rfl)
theorem hD0x : exploreP specF GP 200 3 (fun c v => (Sp.lit true).chk c v) 17 3 [] (({ eD0 with fs := ⟨.lss, (.var 20), .var 17, false⟩ :: eD0.fs } : St).am 8000) = true := by kernel_rfl
theorem hD0y : exploreP specF GP 200 3 (fun c v => (Sp.lit true).chk c v) 17 3 [] (({ eD0 with fs := ⟨.lss, (.var 20), .var 17, true⟩ :: ⟨.lss, (.var 20), .lit (.ofNat 8), false⟩ :: eD0.fs } : St).am 8000) = true := by kernel_rfl
end Go.Proofs.YtbpkijkinoligaaGreatDoor

/-! The law on pings: the steps between its states (D1). Conditions: none. -/
namespace Go.Proofs.YtbpkijkinoligaaGreatDoor
open Go Go.Ax Go.RowKit Go.Proofs

theorem hD1i : Hop specF GP 200 17 (({ eD1 with fs := fsD1 } : St).am 8000) 1 [] [8, 9, 10, 11, 12, 13, 14, 118, 116, 62, 55, 57, 59, 66, 64, 845, 1134, 61, 60, 51, 50, 49, 48, 723, 54, 52, 53, 1746, 111, 104, 106, 108, 115, 113, 298, 496, 110, 109, 100, 99, 98, 97, 225, 103, 101, 102, 169, 117, 122] iD1 := by unfold Hop; kernel_rfl
theorem hD1g (n : Nat) (c : Bool) : Hop specF GP 200 17 (readS (iD1.am 8000) ops9 2 43 44 13 n c) 0 [] [8, 9, 10, 11, 12, 13, 14, 118, 116, 62, 55, 57, 59, 66, 64, 845, 1134, 61, 60, 51, 50, 49, 48, 723, 54, 52, 53, 1746, 111, 104, 106, 108, 115, 113, 298, 496, 110, 109, 100, 99, 98, 97, 225, 103, 101, 102, 169, 117, 122] (gD1 c) := by cases c <;> (unfold Hop; kernel_rfl)
theorem hD1x : exploreP specF GP 200 3 (fun c v => (Sp.lit true).chk c v) 17 3 [] (({ eD1 with fs := ⟨.lss, (.var 20), .var 17, false⟩ :: eD1.fs } : St).am 8000) = true := by kernel_rfl
theorem hD1y : exploreP specF GP 200 3 (fun c v => (Sp.lit true).chk c v) 17 3 [] (({ eD1 with fs := ⟨.lss, (.var 20), .var 17, true⟩ :: ⟨.lss, (.var 20), .lit (.ofNat 8), false⟩ :: eD1.fs } : St).am 8000) = true := by kernel_rfl
end Go.Proofs.YtbpkijkinoligaaGreatDoor
