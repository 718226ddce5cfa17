/-
  THE ABSTRACT EXECUTOR, 52: a state seen as another one, in which numbers are letters and what is not needed is forgotten. Conditions: none.
-/
import Derived.Test.YthfllbmlhhkhmaaGreatDoorIAxE
namespace Go.Ax
open Go.RowKit
abbrev Sb := List (Nat × E)
def Sb.at (σ : Sb) (i : Nat) : E :=
  match σ with
  | [] => .var i
  | p :: σ => bif Nat.beq p.1 i then p.2 else Sb.at σ i
noncomputable def addS (k : IntKind) (a b : E) : E :=
  match k, a, b with
  | .i64, .lit p, .lit q => sInt (wrapK .i64 (p + q)) fun n => .lit n
  | k, a, b => E.addN k a b
theorem addS_den {k : IntKind} {a b : E} {ρ : Val} : (addS k a b).den ρ = binZ .add k (a.den ρ) (b.den ρ) := by
  unfold addS
  split
  · simp only [sInt_eq, E.den, binZ, wrapK_eq]
  · exact E.addN_den
noncomputable def binS (op : BinOp) (k : IntKind) (a b : E) : E :=
  match op with
  | .add => addS k a b
  | .sub => E.subN k a b
  | op => .bin op k a b
theorem binS_den {op : BinOp} {k : IntKind} {a b : E} {ρ : Val} : (binS op k a b).den ρ = binZ op k (a.den ρ) (b.den ρ) := by
  unfold binS
  split
  · exact addS_den
  · exact E.subN_den
  · rfl
noncomputable def E.sub (σ : Sb) : E → E
  | .lit n => .lit n
  | .var i => σ.at i
  | .len i => .len i
  | .byte i a => .byte i (a.sub σ)
  | .bin op k a b => binS op k (a.sub σ) (b.sub σ)
  | .cnv k a => .cnv k (a.sub σ)
  | .pk n a => .pk n (a.sub σ)
  | .cons a t => .cons (a.sub σ) (t.sub σ)
  | .tv i lo hi t => .tv i (lo.sub σ) (hi.sub σ) (t.sub σ)
  | .fn k t => .fn k (t.sub σ)
  | .mn a b => .mn (a.sub σ) (b.sub σ)
structure Cast (σ : Sb) (vs : List Nat) (K : Nat → Bool) (X X' : Ext) : Prop where
  letters : ∀ i ∈ vs, X'.dom i ∧ X'.ρ.int i = (σ.at i).den X.ρ ∧ X'.ρ.str i = X.ρ.str i
  kept : ∀ b, K b = true → X'.μ b = X.μ b
theorem E.okB_mem {vs : List Nat} : ∀ {e : E} {n : Nat → Prop}, e.okB vs = true → (∀ i ∈ vs, n i) → e.ok n := fun {_ _} h hn => E.okB_ok hn h
theorem sub_den {σ : Sb} {vs : List Nat} {K : Nat → Bool} {X X' : Ext} (hc : Cast σ vs K X X') : ∀ {e : E}, e.ok (· ∈ vs) → (e.sub σ).den X.ρ = e.den X'.ρ
  | .lit _, _ => rfl
  | .var i, h => (hc.letters i h).2.1.symm
  | .len i, h => by simp only [E.sub, E.den, (hc.letters i h).2.2]
  | .byte i a, h => by simp only [E.sub, E.den, (hc.letters i h.1).2.2, sub_den hc h.2]
  | .bin _ _ a b, h => by simp only [E.sub, E.den, binS_den, sub_den hc h.1, sub_den hc h.2]
  | .cnv _ a, h => by simp only [E.sub, E.den, sub_den (e := a) hc h]
  | .pk _ a, h => by simp only [E.sub, E.den, sub_den (e := a) hc h]
  | .cons _ _, h => by simp only [E.sub, E.den, sub_den hc h.1, sub_den hc h.2]
  | .tv i _ _ _, h => by simp only [E.sub, E.den, (hc.letters i h.1).2.2, sub_den hc h.2.1, sub_den hc h.2.2.1, sub_den hc h.2.2.2]
  | .fn _ t, h => by simp only [E.sub, E.den, sub_den (e := t) hc h]
  | .mn _ _, h => by simp only [E.sub, E.den, sub_den hc h.1, sub_den hc h.2]
noncomputable def E.subP (σ : Sb) : E → E
  | .lit n => .lit n
  | .var i => σ.at i
  | .len i => .len i
  | .byte i a => .byte i (a.subP σ)
  | .bin op k a b => .bin op k (a.subP σ) (b.subP σ)
  | .cnv k a => .cnv k (a.subP σ)
  | .pk n a => .pk n (a.subP σ)
  | .cons a t => .cons (a.subP σ) (t.subP σ)
  | .tv i lo hi t => .tv i (lo.subP σ) (hi.subP σ) (t.subP σ)
  | .fn k t => .fn k (t.subP σ)
  | .mn a b => .mn (a.subP σ) (b.subP σ)
theorem subP_den {σ : Sb} {vs : List Nat} {K : Nat → Bool} {X X' : Ext} (hc : Cast σ vs K X X') : ∀ {e : E}, e.ok (· ∈ vs) → (e.subP σ).den X.ρ = e.den X'.ρ
  | .lit _, _ => rfl
  | .var i, h => (hc.letters i h).2.1.symm
  | .len i, h => by simp only [E.subP, E.den, (hc.letters i h).2.2]
  | .byte i a, h => by simp only [E.subP, E.den, (hc.letters i h.1).2.2, subP_den hc h.2]
  | .bin _ _ a b, h => by simp only [E.subP, E.den, subP_den hc h.1, subP_den hc h.2]
  | .cnv _ a, h => by simp only [E.subP, E.den, subP_den (e := a) hc h]
  | .pk _ a, h => by simp only [E.subP, E.den, subP_den (e := a) hc h]
  | .cons _ _, h => by simp only [E.subP, E.den, subP_den hc h.1, subP_den hc h.2]
  | .tv i _ _ _, h => by simp only [E.subP, E.den, (hc.letters i h.1).2.2, subP_den hc h.2.1, subP_den hc h.2.2.1, subP_den hc h.2.2.2]
  | .fn _ t, h => by simp only [E.subP, E.den, subP_den (e := t) hc h]
  | .mn _ _, h => by simp only [E.subP, E.den, subP_den hc h.1, subP_den hc h.2]
noncomputable def chkE (σ : Sb) (vs : List Nat) (e e' : E) : Bool := (e.same (e'.sub σ) || e.same (e'.subP σ)) && e'.okB vs
theorem chkE_sound {σ : Sb} {vs : List Nat} {K : Nat → Bool} {X X' : Ext} (hc : Cast σ vs K X X') {e e' : E} (h : chkE σ vs e e' = true) : e'.ok X'.dom ∧ e.den X.ρ = e'.den X'.ρ := by
  simp only [chkE, Bool.and_eq_true, Bool.or_eq_true] at h
  have hok : e'.ok (· ∈ vs) := E.okB_mem h.2 fun i hi => hi
  refine ⟨E.ok_mono (fun i hi => (hc.letters i hi).1) hok, ?_⟩
  rcases h.1 with h1 | h1
  · rw [E.same_sound h1, sub_den hc hok]
  · rw [E.same_sound h1, subP_den hc hok]
noncomputable def chkS (σ : Sb) (vs : List Nat) : List E → List E → Bool
  | [], [] => true
  | e :: l, e' :: l' => chkE σ vs e e' && chkS σ vs l l'
  | _, _ => false
theorem chkS_sound {σ : Sb} {vs : List Nat} {K : Nat → Bool} {X X' : Ext} (hc : Cast σ vs K X X') : ∀ {l l' : List E}, chkS σ vs l l' = true → S.okN X.dom X.ρ l → S.okN X'.dom X'.ρ l' ∧ S.bytes X'.ρ l' = S.bytes X.ρ l
  | [], [], _, _ => ⟨fun t ht => (by cases ht), rfl⟩
  | [], _ :: _, h, _ => by simp [chkS] at h
  | _ :: _, [], h, _ => by simp [chkS] at h
  | e :: l, e' :: l', h, hl => by
    simp only [chkS, Bool.and_eq_true] at h
    obtain ⟨h1, h2⟩ := chkE_sound hc h.1
    obtain ⟨h3, h4⟩ := chkS_sound hc h.2 fun t ht => hl t (by simp [ht])
    have hb := hl e (by simp)
    refine ⟨fun t ht => ?_, ?_⟩
    · rcases List.mem_cons.1 ht with rfl | ht
      · exact ⟨h1, by rw [← h2]; exact hb.2⟩
      · exact h3 t ht
    · simp only [S.bytes, List.map_cons] at h4 ⊢
      rw [h2, h4]
noncomputable def chkB (σ : Sb) (vs : List Nat) : List E → List E → Bool
  | [], [] => true
  | e :: l, e' :: l' => chkE σ vs e e' && chkB σ vs l l'
  | _, _ => false
theorem chkB_sound {σ : Sb} {vs : List Nat} {K : Nat → Bool} {X X' : Ext} (hc : Cast σ vs K X X') : ∀ {l l' : List E}, chkB σ vs l l' = true → (∀ t ∈ l', t.ok X'.dom) ∧ S.bytes X.ρ l = S.bytes X'.ρ l' ∧ l.length = l'.length
  | [], [], _ => ⟨fun t ht => (by cases ht), rfl, rfl⟩
  | [], _ :: _, h => by simp [chkB] at h
  | _ :: _, [], h => by simp [chkB] at h
  | e :: l, e' :: l', h => by
    simp only [chkB, Bool.and_eq_true] at h
    obtain ⟨h1, h2⟩ := chkE_sound hc h.1
    obtain ⟨h3, h4, h5⟩ := chkB_sound hc h.2
    refine ⟨fun t ht => ?_, ?_, by simp [h5]⟩
    · rcases List.mem_cons.1 ht with rfl | ht
      · exact h1
      · exact h3 t ht
    · simp only [S.bytes, List.map_cons] at h4 ⊢
      rw [h2, h4]
noncomputable def chkT (σ : Sb) (vs : List Nat) : ST → ST → Bool
  | .var i, .var j => Nat.beq i j && vs.any (Nat.beq j)
  | .bs l, .bs m => chkB σ vs l m
  | .cat a b, .cat c d => chkT σ vs a c && chkT σ vs b d
  | .sub a l h, .sub b l' h' => chkT σ vs a b && (chkE σ vs l l' && chkE σ vs h h')
  | _, _ => false
theorem chkT_sound {σ : Sb} {vs : List Nat} {K : Nat → Bool} {X X' : Ext} (hc : Cast σ vs K X X') : ∀ {s t : ST}, chkT σ vs s t = true → t.ok X'.dom ∧ s.den X.ρ = t.den X'.ρ ∧ s.len.den X.ρ = t.len.den X'.ρ
  | .var i, t, h => by
    cases t <;> simp only [chkT, Bool.false_eq_true, Bool.and_eq_true, Nat.beq_eq] at h
    obtain ⟨rfl, h2⟩ := h
    obtain ⟨g1, -, g3⟩ := hc.letters i (any_beq h2)
    exact ⟨g1, g3.symm, by simp only [ST.len, E.den, g3]⟩
  | .bs l, t, h => by
    cases t <;> simp only [chkT, Bool.false_eq_true] at h
    obtain ⟨g1, g2, g3⟩ := chkB_sound hc h
    exact ⟨g1, g2, by simp only [ST.len, E.den, g3]⟩
  | .cat a b, t, h => by
    cases t <;> simp only [chkT, Bool.false_eq_true, Bool.and_eq_true] at h
    obtain ⟨a1, a2, a3⟩ := chkT_sound hc h.1
    obtain ⟨b1, b2, b3⟩ := chkT_sound hc h.2
    exact ⟨⟨a1, b1⟩, by simp only [ST.den, a2, b2], by simp only [ST.len, E.den, a3, b3]⟩
  | .sub a l u, t, h => by
    cases t <;> simp only [chkT, Bool.false_eq_true, Bool.and_eq_true] at h
    obtain ⟨a1, a2, a3⟩ := chkT_sound hc h.1
    obtain ⟨b1, b2⟩ := chkE_sound hc h.2.1
    obtain ⟨c1, c2⟩ := chkE_sound hc h.2.2
    exact ⟨⟨a1, b1, c1⟩, by simp only [ST.den, a2, b2, c2], by simp only [ST.len, E.den, b2, c2]⟩
def anyA : AV → Bool
  | .agg _ | .tuple _ | .bool _ | .nilIface => false
  | _ => true
theorem anyA_rel {X X' : Ext} {a : AV} {v : Value} (h : anyA a = true) (r : a.rel X v) : AV.any.rel X' v := by
  suffices vany v = true by simpa only [AV.rel] using this
  cases a <;> simp only [AV.rel, anyA, Bool.false_eq_true] at h r <;>
    first
      | (subst r; rfl)
      | exact r
      | (obtain ⟨_, rfl⟩ := r; rfl)
      | (obtain ⟨_, _, rfl⟩ := r; rfl)
      | (obtain ⟨_, _, _, _, rfl, _⟩ := r; rfl)
      | (obtain ⟨_, _, rfl, _⟩ := r; rfl)
      | (obtain ⟨_, rfl, _⟩ := r; rfl)
      | (obtain ⟨_, _, _, _, rfl, _⟩ := r; rfl)
mutual
noncomputable def chkA (σ : Sb) (vs : List Nat) (K : Nat → Bool) : AV → AV → Bool
  | .bool a, .bool b => a == b
  | .int j e, .int k e' => Nat.beq (kN j) (kN k) && chkE σ vs e e'
  | .str l, .str l' => chkS σ vs l l'
  | .sstr s, .sstr t => chkT σ vs s t
  | .ptr b o, .ptr b' o' => Nat.beq b b' && (Nat.beq o o' && K b)
  | .nilptr, .nilptr => true
  | .slice b o n c s x, .slice b' o' n' c' s' x' => Nat.beq b b' && (Nat.beq o o' && (Nat.beq n n' && (Nat.beq c c' && (Nat.beq s s' && (x == x' && K b)))))
  | .nilslice, .nilslice => true
  | .map r, .map r' => Nat.beq r r' && K r
  | .nilmap, .nilmap => true
  | .func f a c, .func f' a' c' => Nat.beq f f' && (chkL σ vs K a a' && chkL σ vs K c c')
  | .nilFunc, .nilFunc => true
  | .iface t a, .iface t' a' => Nat.beq t t' && chkA σ vs K a a'
  | .nilIface, .nilIface => true
  | .agg l, .agg l' => chkL σ vs K l l'
  | .tuple l, .tuple l' => chkL σ vs K l l'
  | .wslice b o n s l, .wslice b' o' n' s' l' => Nat.beq b b' && (Nat.beq o o' && (Nat.beq n n' && (Nat.beq s s' && (K b && (chkE σ vs (.var l) (.var l'))))))
  | a, .any => anyA a
  | _, _ => false
noncomputable def chkL (σ : Sb) (vs : List Nat) (K : Nat → Bool) : List AV → List AV → Bool
  | [], [] => true
  | a :: l, a' :: l' => chkA σ vs K a a' && chkL σ vs K l l'
  | _, _ => false
end
section
variable {σ : Sb} {vs : List Nat} {K : Nat → Bool} {X X' : Ext}
mutual
theorem chkA_sound (hc : Cast σ vs K X X') : ∀ {a a' : AV} {v : Value}, chkA σ vs K a a' = true → a.rel X v → a'.rel X' v
  | .bool a, a', v, h, r => by cases a' <;> simp only [chkA, Bool.false_eq_true, beq_iff_eq] at h <;> (try exact anyA_rel h r); subst h; simpa only [AV.rel] using r
  | .int j e, a', v, h, r => by
    cases a' <;> simp only [chkA, Bool.false_eq_true, Bool.and_eq_true] at h <;> (try exact anyA_rel h r)
    obtain ⟨h1, h2⟩ := chkE_sound hc h.2
    simp only [AV.rel] at r ⊢
    rw [← kN_inj h.1, ← h2]
    exact ⟨h1, r.2⟩
  | .str l, a', v, h, r => by
    cases a' <;> simp only [chkA, Bool.false_eq_true] at h <;> (try exact anyA_rel h r)
    simp only [AV.rel] at r ⊢
    obtain ⟨h1, h2⟩ := chkS_sound hc h r.1
    rw [h2]
    exact ⟨h1, r.2⟩
  | .sstr s, a', v, h, r => by
    cases a' <;> simp only [chkA, Bool.false_eq_true] at h <;> (try exact anyA_rel h r)
    simp only [AV.rel] at r ⊢
    obtain ⟨h1, h2, h3⟩ := chkT_sound hc h
    refine ⟨h1, ?_, by rw [← h2]; exact r.2.2⟩
    have := r.2.1
    unfold ST.fit at this ⊢
    rw [← h2, ← h3]
    exact this
  | .ptr b o, a', v, h, r => by
    cases a' <;> simp only [chkA, Bool.false_eq_true, Bool.and_eq_true, Nat.beq_eq] at h <;> (try exact anyA_rel h r)
    obtain ⟨rfl, rfl, hk⟩ := h
    simp only [AV.rel] at r ⊢
    rw [hc.kept _ hk]
    exact r
  | .nilptr, a', v, h, r => by cases a' <;> simp only [chkA, Bool.false_eq_true] at h <;> (try exact anyA_rel h r); simpa only [AV.rel] using r
  | .slice b o n c s x, a', v, h, r => by
    cases a' <;> simp only [chkA, Bool.false_eq_true, Bool.and_eq_true, Nat.beq_eq, beq_iff_eq] at h <;> (try exact anyA_rel h r)
    obtain ⟨rfl, rfl, rfl, rfl, rfl, rfl, hk⟩ := h
    simp only [AV.rel] at r ⊢
    rw [hc.kept _ hk]
    exact r
  | .nilslice, a', v, h, r => by cases a' <;> simp only [chkA, Bool.false_eq_true] at h <;> (try exact anyA_rel h r); simpa only [AV.rel] using r
  | .wslice b o n s l, a', v, h, r => by
    cases a' <;> simp only [chkA, Bool.false_eq_true, Bool.and_eq_true, Nat.beq_eq] at h <;> (try exact anyA_rel h r)
    obtain ⟨rfl, rfl, rfl, rfl, hk, hl⟩ := h
    simp only [AV.rel] at r ⊢
    rw [hc.kept _ hk]
    obtain ⟨p, len, c, h1, h2, h3, h4, h5, h6, h7⟩ := r
    obtain ⟨k1, k2⟩ := chkE_sound hc hl
    exact ⟨p, len, c, h1, h2, h3, h4, h5, k1, k2.symm.trans h7⟩
  | .map q, a', v, h, r => by
    cases a' <;> simp only [chkA, Bool.false_eq_true, Bool.and_eq_true, Nat.beq_eq] at h <;> (try exact anyA_rel h r)
    obtain ⟨rfl, hk⟩ := h
    simp only [AV.rel] at r ⊢
    rw [hc.kept _ hk]
    exact r
  | .nilmap, a', v, h, r => by cases a' <;> simp only [chkA, Bool.false_eq_true] at h <;> (try exact anyA_rel h r); simpa only [AV.rel] using r
  | .func f a c, a', v, h, r => by
    cases a' <;> simp only [chkA, Bool.false_eq_true, Bool.and_eq_true, Nat.beq_eq] at h <;> (try exact anyA_rel h r)
    obtain ⟨rfl, h1, h2⟩ := h
    simp only [AV.rel] at r ⊢
    obtain ⟨x, y, e, r1, r2⟩ := r
    exact ⟨x, y, e, chkL_sound hc h1 r1, chkL_sound hc h2 r2⟩
  | .yield l, a', v, h, r => by cases a' <;> simp [chkA] at h <;> (try exact anyA_rel h r)
  | .nilFunc, a', v, h, r => by cases a' <;> simp only [chkA, Bool.false_eq_true] at h <;> (try exact anyA_rel h r); simpa only [AV.rel] using r
  | .iface t a, a', v, h, r => by
    cases a' <;> simp only [chkA, Bool.false_eq_true, Bool.and_eq_true, Nat.beq_eq] at h <;> (try exact anyA_rel h r)
    obtain ⟨rfl, h1⟩ := h
    simp only [AV.rel] at r ⊢
    obtain ⟨u, e, r1⟩ := r
    exact ⟨u, e, chkA_sound hc h1 r1⟩
  | .nilIface, a', v, h, r => by cases a' <;> simp only [chkA, Bool.false_eq_true] at h <;> (try exact anyA_rel h r); simpa only [AV.rel] using r
  | .agg l, a', v, h, r => by
    cases a' <;> simp only [chkA, Bool.false_eq_true] at h <;> (try exact anyA_rel h r)
    simp only [AV.rel] at r ⊢
    obtain ⟨u, e, r1⟩ := r
    exact ⟨u, e, chkL_sound hc h r1⟩
  | .tuple l, a', v, h, r => by
    cases a' <;> simp only [chkA, Bool.false_eq_true] at h <;> (try exact anyA_rel h r)
    simp only [AV.rel] at r ⊢
    obtain ⟨u, e, r1⟩ := r
    exact ⟨u, e, chkL_sound hc h r1⟩
  | .any, a', v, h, r => by cases a' <;> simp only [chkA, Bool.false_eq_true] at h <;> exact anyA_rel h r
theorem chkL_sound (hc : Cast σ vs K X X') : ∀ {l l' : List AV} {us : List Value}, chkL σ vs K l l' = true → AV.rels X l us → AV.rels X' l' us
  | [], l', us, h, r => by cases l' <;> simp only [chkL, Bool.false_eq_true] at h; rw [rels_nil] at r ⊢; exact r
  | a :: l, l', us, h, r => by
    cases l' <;> simp only [chkL, Bool.false_eq_true, Bool.and_eq_true] at h
    obtain ⟨v, us', rfl, r1, r2⟩ := rels_cons.1 r
    rw [rels_cons_cons]
    exact ⟨chkA_sound hc h.1 r1, chkL_sound hc h.2 r2⟩
end
end
end Go.Ax
namespace Go.Ax
open Go.RowKit
end Go.Ax
namespace Go.Ax
open Go.RowKit
section
variable {P : Program} {G : Env} {n0 : Nat} {w0 : World} {cs0 : List Frame}
def EndsTrue (P : Program) (n0 : Nat) (w0 : World) (cs0 : List Frame) (f : FuncId) (m : Machine) : Prop :=
  ∃ fr w, Steps P m (lone fr cs0 w) ∧ Below n0 w0 w ∧ fr.fn = f ∧ fr.leaving P w (.returned (.bool true))
theorem EndsTrue.of_steps {f : FuncId} {m m' : Machine} (h : Steps P m m') (e : EndsTrue P n0 w0 cs0 f m') : EndsTrue P n0 w0 cs0 f m := by
  obtain ⟨fr, w, a, b⟩ := e
  exact ⟨fr, w, h.trans a, b⟩
end
end Go.Ax
namespace Go.Ax
open Go.RowKit
section
variable {P : Program} {G : Env} {n0 : Nat} {w0 : World} {cs0 : List Frame}
end
end Go.Ax
namespace Go.Ax
open Go.RowKit
noncomputable def instD (sps : List Sp) (n : Nat) : InL :=
  match Sp.instL sps n with
  | some r => r
  | none => ⟨[], 0, [], []⟩
section
variable {P : Program} {G : Env}
variable {n0 : Nat} {w0 : World} {cs0 : List Frame}
end
end Go.Ax
