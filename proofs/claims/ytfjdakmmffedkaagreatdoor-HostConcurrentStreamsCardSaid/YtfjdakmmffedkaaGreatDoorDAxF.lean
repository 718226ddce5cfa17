/-
  THE ABSTRACT EXECUTOR, 52: a state seen as another one, in which numbers are letters and what is not needed is forgotten. Conditions: none.
-/
import Derived.Test.YtfjdakmmffedkaaGreatDoorDAxE
namespace Go.Ax
open Go.RowKit
abbrev Sb := List (Nat × E)
def Sb.at (σ : Sb) (i : Nat) : E :=
  match σ with
  | [] => .var i
  | p :: σ => bif Nat.beq p.1 i then p.2 else Sb.at σ i
noncomputable def addS (k : IntKind) (a b : E) : E :=
  match k, a, b with
  | .i64, .lit p, .lit q => sInt (wrapK .i64 (p + q)) fun n => .lit n
  | k, a, b => E.addN k a b
theorem addS_den {k : IntKind} {a b : E} {ρ : Val} : (addS k a b).den ρ = binZ .add k (a.den ρ) (b.den ρ) := by
  unfold addS
  split
  · simp only [sInt_eq, E.den, binZ, wrapK_eq]
  · exact E.addN_den
noncomputable def binS (op : BinOp) (k : IntKind) (a b : E) : E :=
  match op with
  | .add => addS k a b
  | .sub => E.subN k a b
  | op => .bin op k a b
theorem binS_den {op : BinOp} {k : IntKind} {a b : E} {ρ : Val} : (binS op k a b).den ρ = binZ op k (a.den ρ) (b.den ρ) := by
  unfold binS
  split
  · exact addS_den
  · exact E.subN_den
  · rfl
noncomputable def E.sub (σ : Sb) : E → E
  | .lit n => .lit n
  | .var i => σ.at i
  | .len i => .len i
  | .byte i a => .byte i (a.sub σ)
  | .bin op k a b => binS op k (a.sub σ) (b.sub σ)
  | .cnv k a => .cnv k (a.sub σ)
  | .pk n a => .pk n (a.sub σ)
  | .cons a t => .cons (a.sub σ) (t.sub σ)
  | .tv i lo hi t => .tv i (lo.sub σ) (hi.sub σ) (t.sub σ)
  | .fn k t => .fn k (t.sub σ)
  | .mn a b => .mn (a.sub σ) (b.sub σ)
structure Cast (σ : Sb) (vs : List Nat) (K : Nat → Bool) (X X' : Ext) : Prop where
  letters : ∀ i ∈ vs, X'.dom i ∧ X'.ρ.int i = (σ.at i).den X.ρ ∧ X'.ρ.str i = X.ρ.str i
  kept : ∀ b, K b = true → X'.μ b = X.μ b
theorem E.okB_mem {vs : List Nat} : ∀ {e : E} {n : Nat → Prop}, e.okB vs = true → (∀ i ∈ vs, n i) → e.ok n := fun {_ _} h hn => E.okB_ok hn h
theorem sub_den {σ : Sb} {vs : List Nat} {K : Nat → Bool} {X X' : Ext} (hc : Cast σ vs K X X') : ∀ {e : E}, e.ok (· ∈ vs) → (e.sub σ).den X.ρ = e.den X'.ρ
  | .lit _, _ => rfl
  | .var i, h => (hc.letters i h).2.1.symm
  | .len i, h => by simp only [E.sub, E.den, (hc.letters i h).2.2]
  | .byte i a, h => by simp only [E.sub, E.den, (hc.letters i h.1).2.2, sub_den hc h.2]
  | .bin _ _ a b, h => by simp only [E.sub, E.den, binS_den, sub_den hc h.1, sub_den hc h.2]
  | .cnv _ a, h => by simp only [E.sub, E.den, sub_den (e := a) hc h]
  | .pk _ a, h => by simp only [E.sub, E.den, sub_den (e := a) hc h]
  | .cons _ _, h => by simp only [E.sub, E.den, sub_den hc h.1, sub_den hc h.2]
  | .tv i _ _ _, h => by simp only [E.sub, E.den, (hc.letters i h.1).2.2, sub_den hc h.2.1, sub_den hc h.2.2.1, sub_den hc h.2.2.2]
  | .fn _ t, h => by simp only [E.sub, E.den, sub_den (e := t) hc h]
  | .mn _ _, h => by simp only [E.sub, E.den, sub_den hc h.1, sub_den hc h.2]
noncomputable def chkE (σ : Sb) (vs : List Nat) (e e' : E) : Bool := e.same (e'.sub σ) && e'.okB vs
theorem chkE_sound {σ : Sb} {vs : List Nat} {K : Nat → Bool} {X X' : Ext} (hc : Cast σ vs K X X') {e e' : E} (h : chkE σ vs e e' = true) : e'.ok X'.dom ∧ e.den X.ρ = e'.den X'.ρ := by
  simp only [chkE, Bool.and_eq_true] at h
  have hok : e'.ok (· ∈ vs) := E.okB_mem h.2 fun i hi => hi
  refine ⟨E.ok_mono (fun i hi => (hc.letters i hi).1) hok, ?_⟩
  rw [E.same_sound h.1, sub_den hc hok]
noncomputable def chkS (σ : Sb) (vs : List Nat) : List E → List E → Bool
  | [], [] => true
  | e :: l, e' :: l' => chkE σ vs e e' && chkS σ vs l l'
  | _, _ => false
theorem chkS_sound {σ : Sb} {vs : List Nat} {K : Nat → Bool} {X X' : Ext} (hc : Cast σ vs K X X') : ∀ {l l' : List E}, chkS σ vs l l' = true → S.okN X.dom X.ρ l → S.okN X'.dom X'.ρ l' ∧ S.bytes X'.ρ l' = S.bytes X.ρ l
  | [], [], _, _ => ⟨fun t ht => (by cases ht), rfl⟩
  | [], _ :: _, h, _ => by simp [chkS] at h
  | _ :: _, [], h, _ => by simp [chkS] at h
  | e :: l, e' :: l', h, hl => by
    simp only [chkS, Bool.and_eq_true] at h
    obtain ⟨h1, h2⟩ := chkE_sound hc h.1
    obtain ⟨h3, h4⟩ := chkS_sound hc h.2 fun t ht => hl t (by simp [ht])
    have hb := hl e (by simp)
    refine ⟨fun t ht => ?_, ?_⟩
    · rcases List.mem_cons.1 ht with rfl | ht
      · exact ⟨h1, by rw [← h2]; exact hb.2⟩
      · exact h3 t ht
    · simp only [S.bytes, List.map_cons] at h4 ⊢
      rw [h2, h4]
noncomputable def chkB (σ : Sb) (vs : List Nat) : List E → List E → Bool
  | [], [] => true
  | e :: l, e' :: l' => chkE σ vs e e' && chkB σ vs l l'
  | _, _ => false
theorem chkB_sound {σ : Sb} {vs : List Nat} {K : Nat → Bool} {X X' : Ext} (hc : Cast σ vs K X X') : ∀ {l l' : List E}, chkB σ vs l l' = true → (∀ t ∈ l', t.ok X'.dom) ∧ S.bytes X.ρ l = S.bytes X'.ρ l' ∧ l.length = l'.length
  | [], [], _ => ⟨fun t ht => (by cases ht), rfl, rfl⟩
  | [], _ :: _, h => by simp [chkB] at h
  | _ :: _, [], h => by simp [chkB] at h
  | e :: l, e' :: l', h => by
    simp only [chkB, Bool.and_eq_true] at h
    obtain ⟨h1, h2⟩ := chkE_sound hc h.1
    obtain ⟨h3, h4, h5⟩ := chkB_sound hc h.2
    refine ⟨fun t ht => ?_, ?_, by simp [h5]⟩
    · rcases List.mem_cons.1 ht with rfl | ht
      · exact h1
      · exact h3 t ht
    · simp only [S.bytes, List.map_cons] at h4 ⊢
      rw [h2, h4]
noncomputable def chkT (σ : Sb) (vs : List Nat) : ST → ST → Bool
  | .var i, .var j => Nat.beq i j && vs.any (Nat.beq j)
  | .bs l, .bs m => chkB σ vs l m
  | .cat a b, .cat c d => chkT σ vs a c && chkT σ vs b d
  | .sub a l h, .sub b l' h' => chkT σ vs a b && (chkE σ vs l l' && chkE σ vs h h')
  | _, _ => false
theorem chkT_sound {σ : Sb} {vs : List Nat} {K : Nat → Bool} {X X' : Ext} (hc : Cast σ vs K X X') : ∀ {s t : ST}, chkT σ vs s t = true → t.ok X'.dom ∧ s.den X.ρ = t.den X'.ρ ∧ s.len.den X.ρ = t.len.den X'.ρ
  | .var i, t, h => by
    cases t <;> simp only [chkT, Bool.false_eq_true, Bool.and_eq_true, Nat.beq_eq] at h
    obtain ⟨rfl, h2⟩ := h
    obtain ⟨g1, -, g3⟩ := hc.letters i (any_beq h2)
    exact ⟨g1, g3.symm, by simp only [ST.len, E.den, g3]⟩
  | .bs l, t, h => by
    cases t <;> simp only [chkT, Bool.false_eq_true] at h
    obtain ⟨g1, g2, g3⟩ := chkB_sound hc h
    exact ⟨g1, g2, by simp only [ST.len, E.den, g3]⟩
  | .cat a b, t, h => by
    cases t <;> simp only [chkT, Bool.false_eq_true, Bool.and_eq_true] at h
    obtain ⟨a1, a2, a3⟩ := chkT_sound hc h.1
    obtain ⟨b1, b2, b3⟩ := chkT_sound hc h.2
    exact ⟨⟨a1, b1⟩, by simp only [ST.den, a2, b2], by simp only [ST.len, E.den, a3, b3]⟩
  | .sub a l u, t, h => by
    cases t <;> simp only [chkT, Bool.false_eq_true, Bool.and_eq_true] at h
    obtain ⟨a1, a2, a3⟩ := chkT_sound hc h.1
    obtain ⟨b1, b2⟩ := chkE_sound hc h.2.1
    obtain ⟨c1, c2⟩ := chkE_sound hc h.2.2
    exact ⟨⟨a1, b1, c1⟩, by simp only [ST.den, a2, b2, c2], by simp only [ST.len, E.den, b2, c2]⟩
def anyA : AV → Bool
  | .agg _ | .tuple _ | .bool _ | .nilIface => false
  | _ => true
theorem anyA_rel {X X' : Ext} {a : AV} {v : Value} (h : anyA a = true) (r : a.rel X v) : AV.any.rel X' v := by
  suffices vany v = true by simpa only [AV.rel] using this
  cases a <;> simp only [AV.rel, anyA, Bool.false_eq_true] at h r <;>
    first
      | (subst r; rfl)
      | exact r
      | (obtain ⟨_, rfl⟩ := r; rfl)
      | (obtain ⟨_, _, rfl⟩ := r; rfl)
      | (obtain ⟨_, _, _, _, rfl, _⟩ := r; rfl)
      | (obtain ⟨_, _, rfl, _⟩ := r; rfl)
      | (obtain ⟨_, rfl, _⟩ := r; rfl)
      | (obtain ⟨_, _, _, _, rfl, _⟩ := r; rfl)
mutual
noncomputable def chkA (σ : Sb) (vs : List Nat) (K : Nat → Bool) : AV → AV → Bool
  | .bool a, .bool b => a == b
  | .int j e, .int k e' => Nat.beq (kN j) (kN k) && chkE σ vs e e'
  | .str l, .str l' => chkS σ vs l l'
  | .sstr s, .sstr t => chkT σ vs s t
  | .ptr b o, .ptr b' o' => Nat.beq b b' && (Nat.beq o o' && K b)
  | .nilptr, .nilptr => true
  | .slice b o n c s x, .slice b' o' n' c' s' x' => Nat.beq b b' && (Nat.beq o o' && (Nat.beq n n' && (Nat.beq c c' && (Nat.beq s s' && (x == x' && K b)))))
  | .nilslice, .nilslice => true
  | .map r, .map r' => Nat.beq r r' && K r
  | .nilmap, .nilmap => true
  | .func f a c, .func f' a' c' => Nat.beq f f' && (chkL σ vs K a a' && chkL σ vs K c c')
  | .nilFunc, .nilFunc => true
  | .iface t a, .iface t' a' => Nat.beq t t' && chkA σ vs K a a'
  | .nilIface, .nilIface => true
  | .agg l, .agg l' => chkL σ vs K l l'
  | .tuple l, .tuple l' => chkL σ vs K l l'
  | .wslice b o n s l, .wslice b' o' n' s' l' => Nat.beq b b' && (Nat.beq o o' && (Nat.beq n n' && (Nat.beq s s' && (K b && (chkE σ vs (.var l) (.var l'))))))
  | a, .any => anyA a
  | _, _ => false
noncomputable def chkL (σ : Sb) (vs : List Nat) (K : Nat → Bool) : List AV → List AV → Bool
  | [], [] => true
  | a :: l, a' :: l' => chkA σ vs K a a' && chkL σ vs K l l'
  | _, _ => false
end
section
variable {σ : Sb} {vs : List Nat} {K : Nat → Bool} {X X' : Ext}
mutual
theorem chkA_sound (hc : Cast σ vs K X X') : ∀ {a a' : AV} {v : Value}, chkA σ vs K a a' = true → a.rel X v → a'.rel X' v
  | .bool a, a', v, h, r => by cases a' <;> simp only [chkA, Bool.false_eq_true, beq_iff_eq] at h <;> (try exact anyA_rel h r); subst h; simpa only [AV.rel] using r
  | .int j e, a', v, h, r => by
    cases a' <;> simp only [chkA, Bool.false_eq_true, Bool.and_eq_true] at h <;> (try exact anyA_rel h r)
    obtain ⟨h1, h2⟩ := chkE_sound hc h.2
    simp only [AV.rel] at r ⊢
    rw [← kN_inj h.1, ← h2]
    exact ⟨h1, r.2⟩
  | .str l, a', v, h, r => by
    cases a' <;> simp only [chkA, Bool.false_eq_true] at h <;> (try exact anyA_rel h r)
    simp only [AV.rel] at r ⊢
    obtain ⟨h1, h2⟩ := chkS_sound hc h r.1
    rw [h2]
    exact ⟨h1, r.2⟩
  | .sstr s, a', v, h, r => by
    cases a' <;> simp only [chkA, Bool.false_eq_true] at h <;> (try exact anyA_rel h r)
    simp only [AV.rel] at r ⊢
    obtain ⟨h1, h2, h3⟩ := chkT_sound hc h
    refine ⟨h1, ?_, by rw [← h2]; exact r.2.2⟩
    have := r.2.1
    unfold ST.fit at this ⊢
    rw [← h2, ← h3]
    exact this
  | .ptr b o, a', v, h, r => by
    cases a' <;> simp only [chkA, Bool.false_eq_true, Bool.and_eq_true, Nat.beq_eq] at h <;> (try exact anyA_rel h r)
    obtain ⟨rfl, rfl, hk⟩ := h
    simp only [AV.rel] at r ⊢
    rw [hc.kept _ hk]
    exact r
  | .nilptr, a', v, h, r => by cases a' <;> simp only [chkA, Bool.false_eq_true] at h <;> (try exact anyA_rel h r); simpa only [AV.rel] using r
  | .slice b o n c s x, a', v, h, r => by
    cases a' <;> simp only [chkA, Bool.false_eq_true, Bool.and_eq_true, Nat.beq_eq, beq_iff_eq] at h <;> (try exact anyA_rel h r)
    obtain ⟨rfl, rfl, rfl, rfl, rfl, rfl, hk⟩ := h
    simp only [AV.rel] at r ⊢
    rw [hc.kept _ hk]
    exact r
  | .nilslice, a', v, h, r => by cases a' <;> simp only [chkA, Bool.false_eq_true] at h <;> (try exact anyA_rel h r); simpa only [AV.rel] using r
  | .wslice b o n s l, a', v, h, r => by
    cases a' <;> simp only [chkA, Bool.false_eq_true, Bool.and_eq_true, Nat.beq_eq] at h <;> (try exact anyA_rel h r)
    obtain ⟨rfl, rfl, rfl, rfl, hk, hl⟩ := h
    simp only [AV.rel] at r ⊢
    rw [hc.kept _ hk]
    obtain ⟨p, len, c, h1, h2, h3, h4, h5, h6, h7⟩ := r
    obtain ⟨k1, k2⟩ := chkE_sound hc hl
    exact ⟨p, len, c, h1, h2, h3, h4, h5, k1, k2.symm.trans h7⟩
  | .map q, a', v, h, r => by
    cases a' <;> simp only [chkA, Bool.false_eq_true, Bool.and_eq_true, Nat.beq_eq] at h <;> (try exact anyA_rel h r)
    obtain ⟨rfl, hk⟩ := h
    simp only [AV.rel] at r ⊢
    rw [hc.kept _ hk]
    exact r
  | .nilmap, a', v, h, r => by cases a' <;> simp only [chkA, Bool.false_eq_true] at h <;> (try exact anyA_rel h r); simpa only [AV.rel] using r
  | .func f a c, a', v, h, r => by
    cases a' <;> simp only [chkA, Bool.false_eq_true, Bool.and_eq_true, Nat.beq_eq] at h <;> (try exact anyA_rel h r)
    obtain ⟨rfl, h1, h2⟩ := h
    simp only [AV.rel] at r ⊢
    obtain ⟨x, y, e, r1, r2⟩ := r
    exact ⟨x, y, e, chkL_sound hc h1 r1, chkL_sound hc h2 r2⟩
  | .yield l, a', v, h, r => by cases a' <;> simp [chkA] at h <;> (try exact anyA_rel h r)
  | .nilFunc, a', v, h, r => by cases a' <;> simp only [chkA, Bool.false_eq_true] at h <;> (try exact anyA_rel h r); simpa only [AV.rel] using r
  | .iface t a, a', v, h, r => by
    cases a' <;> simp only [chkA, Bool.false_eq_true, Bool.and_eq_true, Nat.beq_eq] at h <;> (try exact anyA_rel h r)
    obtain ⟨rfl, h1⟩ := h
    simp only [AV.rel] at r ⊢
    obtain ⟨u, e, r1⟩ := r
    exact ⟨u, e, chkA_sound hc h1 r1⟩
  | .nilIface, a', v, h, r => by cases a' <;> simp only [chkA, Bool.false_eq_true] at h <;> (try exact anyA_rel h r); simpa only [AV.rel] using r
  | .agg l, a', v, h, r => by
    cases a' <;> simp only [chkA, Bool.false_eq_true] at h <;> (try exact anyA_rel h r)
    simp only [AV.rel] at r ⊢
    obtain ⟨u, e, r1⟩ := r
    exact ⟨u, e, chkL_sound hc h r1⟩
  | .tuple l, a', v, h, r => by
    cases a' <;> simp only [chkA, Bool.false_eq_true] at h <;> (try exact anyA_rel h r)
    simp only [AV.rel] at r ⊢
    obtain ⟨u, e, r1⟩ := r
    exact ⟨u, e, chkL_sound hc h r1⟩
  | .any, a', v, h, r => by cases a' <;> simp only [chkA, Bool.false_eq_true] at h <;> exact anyA_rel h r
theorem chkL_sound (hc : Cast σ vs K X X') : ∀ {l l' : List AV} {us : List Value}, chkL σ vs K l l' = true → AV.rels X l us → AV.rels X' l' us
  | [], l', us, h, r => by cases l' <;> simp only [chkL, Bool.false_eq_true] at h; rw [rels_nil] at r ⊢; exact r
  | a :: l, l', us, h, r => by
    cases l' <;> simp only [chkL, Bool.false_eq_true, Bool.and_eq_true] at h
    obtain ⟨v, us', rfl, r1, r2⟩ := rels_cons.1 r
    rw [rels_cons_cons]
    exact ⟨chkA_sound hc h.1 r1, chkL_sound hc h.2 r2⟩
end
noncomputable def chkM (σ : Sb) (vs : List Nat) (K : Nat → Bool) : List (AV × AV × Nat) → List (AV × AV × Nat) → Bool
  | [], [] => true
  | a :: l, b :: l' => chkA σ vs K a.1 b.1 && (chkA σ vs K a.2.1 b.2.1 && (Nat.beq a.2.2 b.2.2 && chkM σ vs K l l'))
  | _, _ => false
theorem chkM_sound (hc : Cast σ vs K X X') : ∀ {l l' : List (AV × AV × Nat)} {es : List MapEntry}, chkM σ vs K l l' = true → entriesRel X l es → entriesRel X' l' es
  | [], l', es, h, r => by cases l' <;> simp only [chkM, Bool.false_eq_true] at h; exact r
  | a :: l, l', es, h, r => by
    cases l' <;> simp only [chkM, Bool.false_eq_true, Bool.and_eq_true, Nat.beq_eq] at h
    obtain ⟨e, es', rfl, r1, r2, r3, r4⟩ := r
    exact ⟨e, es', rfl, chkA_sound hc h.1 r1, chkA_sound hc h.2.1 r2, by rw [r3, h.2.2.1], chkM_sound hc h.2.2.2 r4⟩
noncomputable def chkP (σ : Sb) (vs : List Nat) (K : Nat → Bool) : List (AV × AV) → List (AV × AV) → Bool
  | [], [] => true
  | a :: l, b :: l' => chkA σ vs K a.1 b.1 && (chkA σ vs K a.2 b.2 && chkP σ vs K l l')
  | _, _ => false
theorem chkP_sound (hc : Cast σ vs K X X') : ∀ {l l' : List (AV × AV)} {es : List MapEntry}, chkP σ vs K l l' = true → pairsRel X l es → pairsRel X' l' es
  | [], l', es, h, r => by cases l' <;> simp only [chkP, Bool.false_eq_true] at h; exact r
  | a :: l, l', es, h, r => by
    cases l' <;> simp only [chkP, Bool.false_eq_true, Bool.and_eq_true] at h
    obtain ⟨e, es', rfl, r1, r2, r4⟩ := r
    exact ⟨e, es', rfl, chkA_sound hc h.1 r1, chkA_sound hc h.2.1 r2, chkP_sound hc h.2.2 r4⟩
noncomputable def chkO (σ : Sb) (vs : List Nat) (K : Nat → Bool) : AObj → AObj → Bool
  | .cells cs el ex pl ro, .cells cs' el' ex' pl' ro' => Nat.beq el el' && (ex == ex' && (pl == pl' && (ro == ro' && chkL σ vs K cs cs')))
  | .map es c, .map es' c' => Nat.beq c c' && chkM σ vs K es es'
  | .lmap es, .lmap es' => chkP σ vs K es es'
  | .pre s n el, .pre s' n' el' => Nat.beq n n' && (Nat.beq el el' && chkA σ vs K (.sstr s) (.sstr s'))
  | _, _ => false
theorem chkL_length {l l' : List AV} (h : chkL σ vs K l l' = true) : l'.length = l.length := by
  induction l generalizing l' with
  | nil => cases l' <;> simp [chkL] at h; rfl
  | cons a l ih =>
    cases l' with
    | nil => simp [chkL] at h
    | cons a' l' => simp only [chkL, Bool.and_eq_true] at h; simp [ih h.2]
theorem chkL_get {l l' : List AV} (h : chkL σ vs K l l' = true) {i : Nat} {a' : AV} (e : l'[i]? = some a') : ∃ a, l[i]? = some a ∧ chkA σ vs K a a' = true := by
  induction l generalizing l' i with
  | nil => cases l' <;> simp [chkL] at h; simp at e
  | cons a l ih =>
    cases l' with
    | nil => simp [chkL] at h
    | cons b l' =>
      simp only [chkL, Bool.and_eq_true] at h
      cases i with
      | zero => simp at e; subst e; exact ⟨a, rfl, h.1⟩
      | succ i => simpa using ih h.2 (by simpa using e)
theorem chkO_sound (hc : Cast σ vs K X X') {o o' : AObj} {p : Place} {ob : Option Obj} (h : chkO σ vs K o o' = true) (r : ORel X o p ob) : ORel X' o' p ob ∧ o'.live = o.live ∧ o'.rw = o.rw := by
  cases o <;> cases o' <;> simp only [chkO, Bool.false_eq_true, Bool.and_eq_true, Nat.beq_eq, beq_iff_eq] at h
  · obtain ⟨rfl, rfl, rfl, rfl, h⟩ := h
    obtain ⟨c, fr, h1, h2, h3, h4, h5, h6⟩ := r
    refine ⟨⟨c, fr, h1, h2, by rw [chkL_length h]; exact h3, by rw [chkL_length h]; exact h4, fun i a hi => ?_, h6⟩, rfl, rfl⟩
    obtain ⟨b, hb, hr⟩ := chkL_get h hi
    obtain ⟨v, hv, r1⟩ := h5 i b hb
    exact ⟨v, hv, chkA_sound hc hr r1⟩
  · obtain ⟨rfl, h⟩ := h
    obtain ⟨es', h1, h2⟩ := r
    exact ⟨⟨es', h1, chkM_sound hc h h2⟩, rfl, rfl⟩
  · obtain ⟨es', cl, l, h1, h2, h3⟩ := r
    exact ⟨⟨es', cl, l, h1, chkP_sound hc h h2, h3⟩, rfl, rfl⟩
  · rename_i s n el s' n' el'
    obtain ⟨rfl, rfl, h⟩ := h
    obtain ⟨h1, h2, h3, h4, h5, c, h6, h7, h8⟩ := r
    have hs := chkA_sound hc h (show (AV.sstr s).rel X (.string ⟨(s.den X.ρ).toArray⟩) by simp only [AV.rel]; exact ⟨h1, h2, trivial⟩)
    simp only [AV.rel] at hs
    obtain ⟨k1, k2, k3⟩ := hs
    have e : s.den X.ρ = s'.den X'.ρ := by simpa using k3
    exact ⟨⟨k1, k2, h3, h4, by rw [← e]; exact h5, c, h6, h7, by rw [← e]; exact h8⟩, rfl, rfl⟩
theorem chkO_firm {o o' : AObj} (h : chkO σ vs K o o' = true) : o'.firm = o.firm := by
  cases o <;> cases o' <;> simp only [chkO, Bool.false_eq_true, Bool.and_eq_true, Nat.beq_eq, beq_iff_eq] at h
  · obtain ⟨-, -, rfl, rfl, -⟩ := h; rfl
  all_goals rfl
end
end Go.Ax
namespace Go.Ax
open Go.RowKit
noncomputable def memL (n : Nat) : List (Nat × AObj) → Tr AObj
  | [] => .sk n
  | e :: l => (memL n l).set e.1 e.2
theorem memL_get {n : Nat} : ∀ {l : List (Nat × AObj)} {b : Nat} {o : AObj}, (memL n l).get b = some o → (b, o) ∈ l
  | [], b, o, h => by simp [memL] at h
  | e :: l, b, o, h => by
    simp only [memL] at h
    rw [Tr.get_set] at h
    by_cases hb : b = e.1
    · subst hb
      simp at h
      subst h
      simp
    · rw [if_neg hb] at h
      exact List.mem_cons_of_mem _ (memL_get h)
noncomputable def chkHo (σ : Sb) (vs : List Nat) (K : Nat → Bool) (x : Option AObj) (o' : AObj) : Bool :=
  match x with
  | some o => chkO σ vs K o o'
  | none => false
noncomputable def chkH (σ : Sb) (vs : List Nat) (K : Nat → Bool) (H : Tr AObj) : List (Nat × AObj) → Bool
  | [] => true
  | e :: l => K e.1 && (chkHo σ vs K (H.get e.1) e.2 && chkH σ vs K H l)
theorem chkH_mem {σ : Sb} {vs : List Nat} {K : Nat → Bool} {H : Tr AObj} : ∀ {l : List (Nat × AObj)}, chkH σ vs K H l = true → ∀ e ∈ l, K e.1 = true ∧ ∃ o, H.get e.1 = some o ∧ chkO σ vs K o e.2 = true
  | [], _, e, he => by cases he
  | a :: l, h, e, he => by
    simp only [chkH, Bool.and_eq_true] at h
    rcases List.mem_cons.1 he with rfl | he
    · refine ⟨h.1, ?_⟩
      have h2 := h.2.1
      unfold chkHo at h2
      split at h2
      · rename_i o ho; exact ⟨o, ho, h2⟩
      · cases h2
    · exact chkH_mem h.2.2 e he
theorem HRel.recast {X X' : Ext} {n0 : Nat} {H : Tr AObj} {w : World} {σ : Sb} {vs : List Nat} {K : Nat → Bool} {l : List (Nat × AObj)} {room : Nat} (h : HRel X n0 H w) (hc : Cast σ vs K X X') (hlt : ∀ b p, X'.μ b = some p → p.blk < w.heap.size) (hk : chkH σ vs K H l = true) : HRel X' n0 (memL room l) w := by
  have base : ∀ b o' p, (memL room l).get b = some o' → X'.μ b = some p → X.μ b = some p ∧ ∃ o, H.get b = some o ∧ chkO σ vs K o o' = true := fun b o' p hb hp => by
    obtain ⟨k1, o, k2, k3⟩ := chkH_mem hk _ (memL_get hb)
    exact ⟨by rw [← hc.kept b k1]; exact hp, o, k2, k3⟩
  refine ⟨fun b o' p hb hp => ?_, fun b b' o1 o2 p p' hb hb' l1 l2 hp hp' e => ?_, hlt, fun b o' p hb hr hp => ?_⟩
  · obtain ⟨g1, o, g2, g3⟩ := base b o' p hb hp
    exact (chkO_sound hc g3 (h.obj b o p g2 g1)).1
  · obtain ⟨g1, o, g2, g3⟩ := base b o1 p hb hp
    obtain ⟨g4, q, g5, g6⟩ := base b' o2 p' hb' hp'
    have e1 := (chkO_sound hc g3 (h.obj b o p g2 g1)).2.1
    exact h.inj b b' o q p p' g2 g5 (by rw [← e1]; exact l1) (by rw [← chkO_firm g6]; exact l2) g1 g4 e
  · obtain ⟨g1, o, g2, g3⟩ := base b o' p hb hp
    have e1 := (chkO_sound hc g3 (h.obj b o p g2 g1)).2.2
    exact h.own b o p g2 (by rw [← e1]; exact hr) g1
noncomputable def chkTm (σ : Sb) (vs : List Nat) (K : Nat → Bool) (tm : Tr AV) : Nat → List AV → Bool
  | _, [] => true
  | i, a :: l => chkA σ vs K ((tm.get i).getD .undef) a && sNat (i + 1) fun j => chkTm σ vs K tm j l
theorem chkTm_get {σ : Sb} {vs : List Nat} {K : Nat → Bool} {tm : Tr AV} : ∀ {l : List AV} {i t : Nat} {a : AV}, chkTm σ vs K tm i l = true → l[t]? = some a → chkA σ vs K ((tm.get (i + t)).getD .undef) a = true
  | [], i, t, a, _, h => by simp at h
  | b :: l, i, t, a, h, e => by
    simp only [chkTm, sNat_eq, Bool.and_eq_true] at h
    cases t with
    | zero => simp at e; subst e; simpa using h.1
    | succ t =>
      have := chkTm_get h.2 (t := t) (by simpa using e)
      rw [show i + (t + 1) = i + 1 + t by omega]
      exact this
theorem tmRel.recast {X X' : Ext} {σ : Sb} {vs : List Nat} {K : Nat → Bool} {nt : Nat} {tm : Tr AV} {tmps : Array Value} {l : List AV} (hc : Cast σ vs K X X') (h : tmRel X nt tm tmps) (hk : chkTm σ vs K tm 0 l = true) (hl : l.length = nt) : tmRel X' nt (setArgs 0 l (.sk nt)) tmps := by
  refine ⟨h.1, fun t => ?_⟩
  rw [setArgs_get (X := X')]
  simp only [Nat.not_lt_zero, if_false, Nat.sub_zero]
  cases ht : l[t]? with
  | some a =>
    simp only [Option.getD_some]
    have := chkTm_get hk ht
    rw [Nat.zero_add] at this
    exact chkA_sound hc this (h.2 t)
  | none =>
    have hge : nt ≤ t := by
      rw [← hl]
      exact List.getElem?_eq_none_iff.1 ht
    have hu : tmps.getD t undef = undef := by
      have : tmps[t]? = none := Array.getElem?_eq_none_iff.2 (by rw [h.1]; exact hge)
      simp [Array.getD_eq_getD_getElem?, this]
    rw [hu]
    simp
    exact undef_rel X'
def plainI : AItem → Bool
  | .inRangeFunc _ | .endRangeFunc _ => false
  | _ => true
theorem isRel_plain {X X' : Ext} : ∀ {as : List AItem} {is : List Item}, as.all plainI = true → isRel X as is → isRel X' as is
  | [], _, _, r => r
  | a :: as, is, h, ⟨i, is', e, h1, h2⟩ => by
    simp only [List.all_cons, Bool.and_eq_true] at h
    refine ⟨i, is', e, ?_, isRel_plain h.2 h2⟩
    cases a <;> simp only [plainI, Bool.false_eq_true] at h <;> simp only [iRel] at * <;> first | exact h1 | (exact h.1.elim)
def noDraw : ACur → Bool
  | .draw .. => false
  | _ => true
def castX (σ : Sb) (vs : List Nat) (K : Nat → Bool) (X : Ext) : Ext :=
  ⟨fun b => if K b = true then X.μ b else if b ∈ vs then X.μ 0 else none, ⟨fun i => if i ∈ vs then (σ.at i).den X.ρ else 0, X.ρ.str⟩⟩
theorem Sim.recast {P : Program} {G : Env} {n0 : Nat} {w0 : World} {cs0 : List Frame} {X : Ext} {s : AM} {m : Machine} {σ : Sb} {vs : List Nat} {K : Nat → Bool} {tms : List AV} {l : List (Nat × AObj)} {room next' : Nat} {c' : Ctx} (h : Sim P G n0 w0 cs0 X s m)
    (hcs : s.cs = []) (hret : s.fr.ret = false) (hdef : s.fr.defers = []) (hro : s.fr.ro = none) (hcur : noDraw s.fr.cur = true) (htodo : s.fr.todo.all plainI = true) (htm : chkTm σ vs K s.fr.tm 0 tms = true) (hlen : tms.length = s.fr.nt) (hH : chkH σ vs K s.H l = true)
    (hng : 0 < G.T.ng) (hKg : ∀ b, b < G.T.ng → K b = true) (hKn : ∀ b, next' ≤ b → K b = false) (hvn : ∀ i ∈ vs, i < next') (hvd : ∀ i ∈ vs, K i = true → X.dom i)
    (hctx : c'.okN (castX σ vs K X).dom (castX σ vs K X).ρ) :
    Sim P G n0 w0 cs0 (castX σ vs K X) ⟨⟨s.fr.fn, s.fr.nt, setArgs 0 tms (.sk s.fr.nt), s.fr.cur, s.fr.todo, [], false, none⟩, [], memL room l, next', c'⟩ m := by
  obtain ⟨fr, cs, w, rfl, hF, hall, hHr, hB, h0⟩ := h.ex
  obtain ⟨k0, hk0⟩ := h.globs 0 hng
  have hc : Cast σ vs K X (castX σ vs K X) := by
    refine ⟨fun i hi => ⟨?_, by simp only [castX, if_pos hi], rfl⟩, fun b hb => by simp only [castX, if_pos hb]⟩
    by_cases hk : K i = true
    · obtain ⟨p, hp⟩ := hvd i hi hk
      exact ⟨p, by simp only [castX, if_pos hk, hp]⟩
    · exact ⟨_, by simp only [castX, if_neg hk, if_pos hi]; exact hk0⟩
  have hlt : ∀ b p, (castX σ vs K X).μ b = some p → p.blk < w.heap.size := fun b p hp => by
    simp only [castX] at hp
    split at hp
    · exact hHr.lt b p hp
    · split at hp
      · exact hHr.lt 0 p hp
      · cases hp
  rw [hcs] at hall
  simp only [susAll] at hall
  subst hall
  refine ⟨⟨fr, [], w, rfl, ?_, rfl, HRel.recast hHr hc hlt hH, hB, h0⟩, hctx, fun g hg => ?_, fun b hb => ?_, ?_⟩
  · obtain ⟨hb, h'⟩ := hF
    rw [hret] at h'
    refine ⟨⟨hb.fn, hb.kind, ?_, ?_⟩, ?_⟩
    · have := hb.ro
      rw [hro] at this
      exact this
    · have := hb.defers
      rw [hdef] at this
      exact this
    · obtain ⟨hm, is, his, hcur'⟩ := h'
      refine ⟨hm, is, isRel_plain htodo his, ?_⟩
      cases hcc : s.fr.cur with
      | none =>
        rw [hcc] at hcur'
        exact ⟨hcur'.1, tmRel.recast hc hcur'.2 htm hlen⟩
      | reg ops k rest =>
        rw [hcc] at hcur'
        exact ⟨hcur'.1, hcur'.2.1, tmRel.recast hc hcur'.2.2 htm hlen⟩
      | draw ops done rest pa => rw [hcc] at hcur; cases hcur
  · obtain ⟨n, hn⟩ := h.globs g hg
    exact ⟨n, by simp only [castX, if_pos (hKg g hg)]; exact hn⟩
  · simp only [castX]
    have hb' : next' ≤ b := hb
    rw [if_neg (by rw [hKn b hb']; simp), if_neg (fun hm => by have := hvn b hm; omega)]
  · cases hcc : s.fr.cur with
    | none => simp [idsOf]
    | reg ops k rest => simp [idsOf]
    | draw ops done rest pa => rw [hcc] at hcur; cases hcur
noncomputable def leafT (spec : Spec) (G : Env) (n : Nat) (s : AM) : RunR :=
  RunR.rec (motive := fun _ => RunR) (fun s => match s.cs with
    | [] => .stop s
    | _ => .go s) (fun s => .stop s) (leaf spec G n s)
noncomputable def runT (spec : Spec) (G : Env) (n : Nat) (k : Nat) : AM → RunR :=
  Nat.rec (motive := fun _ => AM → RunR) (fun s => leafT spec G n s)
    (fun _ ih s => RunR.rec (motive := fun _ => RunR) (fun s => ih s) (fun s => .stop s) (ih s)) k
theorem leafT_ok {spec : Spec} {G : Env} (hs : SpecOK G spec) (n : Nat) (s : AM) : AReach G s (leafT spec G n s).state := by
  have h := runF_ok hs n 0 s
  have e : runF spec G n 0 s = leaf spec G n s := rfl
  rw [e] at h
  unfold leafT
  cases hl : leaf spec G n s with
  | stop t => rw [hl] at h; exact h
  | go t =>
    rw [hl] at h
    simp only
    split <;> exact h
theorem runT_ok {spec : Spec} {G : Env} (hs : SpecOK G spec) (n : Nat) : ∀ (k : Nat) (s : AM), AReach G s (runT spec G n k s).state
  | 0, s => leafT_ok hs n s
  | k + 1, s => by
    have h := runT_ok hs n k s
    have e : runT spec G n (k + 1) s = RunR.rec (motive := fun _ => RunR) (fun s => runT spec G n k s) (fun s => .stop s) (runT spec G n k s) := rfl
    rw [e]
    cases hr : runT spec G n k s with
    | stop t => rw [hr] at h; exact h
    | go t =>
      rw [hr] at h
      exact h.trans (runT_ok hs n k t)
noncomputable def runTN (spec : Spec) (G : Env) (n k : Nat) : Nat → AM → AM
  | 0, s => s
  | j + 1, s => runTN spec G n k j (runT spec G n k s).state
theorem runTN_ok {spec : Spec} {G : Env} (hs : SpecOK G spec) (n k : Nat) : ∀ (j : Nat) (s : AM), AReach G s (runTN spec G n k j s)
  | 0, s => .refl s
  | j + 1, s => (runT_ok hs n k s).trans (runTN_ok hs n k j _)
end Go.Ax
namespace Go.Ax
open Go.RowKit
noncomputable def eqO (x : Option Bool) (v : Bool) : Bool :=
  match x with
  | some r => r == v
  | none => false
noncomputable def chkFs (σ : Sb) (vs : List Nat) (c : Ctx) : List Fact → Bool
  | [] => true
  | f :: l => isCmp f.op && (eqO (E.cmp c f.op (f.a.sub σ) (f.b.sub σ)) f.val && (f.a.okB vs && (f.b.okB vs && chkFs σ vs c l)))
theorem chkFs_sound {σ : Sb} {vs : List Nat} {K : Nat → Bool} {X X' : Ext} {c : Ctx} (hC : Cast σ vs K X X') (hc : c.okN X.dom X.ρ) : ∀ {fs : List Fact}, chkFs σ vs c fs = true → (⟨fs, vs⟩ : Ctx).okN X'.dom X'.ρ
  | [], _ => ⟨fun i hi => (hC.letters i hi).1, fun f hf => (by cases hf)⟩
  | f :: l, h => by
    simp only [chkFs, Bool.and_eq_true] at h
    obtain ⟨h1, h2, h3, h4, h5⟩ := h
    refine ⟨fun i hi => (hC.letters i hi).1, fun g hg => ?_⟩
    rcases List.mem_cons.1 hg with rfl | hg
    · have ha : g.a.ok (· ∈ vs) := E.okB_mem h3 fun i hi => hi
      have hb : g.b.ok (· ∈ vs) := E.okB_mem h4 fun i hi => hi
      have hcmp : E.cmp c g.op (g.a.sub σ) (g.b.sub σ) = some g.val := by
        unfold eqO at h2
        split at h2
        · rename_i r hr
          have : r = g.val := by simpa using h2
          rw [hr, this]
        · cases h2
      have := E.cmp_sound h1 hcmp hc
      rw [sub_den hC ha, sub_den hC hb] at this
      exact ⟨this, E.ok_mono (fun i hi => (hC.letters i hi).1) ha, E.ok_mono (fun i hi => (hC.letters i hi).1) hb⟩
    · exact (chkFs_sound hC hc h5).2 g hg
def keepK (ng : Nat) (keep : List Nat) (b : Nat) : Bool := Nat.blt b ng || keep.any (Nat.beq b)
def emptyB {α : Type} : List α → Bool
  | [] => true
  | _ => false
def noneB {α : Type} : Option α → Bool
  | none => true
  | _ => false
structure St where
  fn : Nat
  nt : Nat
  cur : ACur
  todo : List AItem
  tms : List AV
  l : List (Nat × AObj)
  next : Nat
  fs : List Fact
  vs : List Nat
noncomputable def St.am (t : St) (room : Nat) : AM := ⟨⟨t.fn, t.nt, setArgs 0 t.tms (.sk t.nt), t.cur, t.todo, [], false, none⟩, [], memL room t.l, t.next, ⟨t.fs, t.vs⟩⟩
noncomputable def hopB (σ : Sb) (keep : List Nat) (ng : Nat) (t : St) (s : AM) : Bool :=
  emptyB s.cs && (!s.fr.ret && (emptyB s.fr.defers && (noneB s.fr.ro && (noDraw s.fr.cur && (s.fr.todo.all plainI && (chkTm σ t.vs (keepK ng keep) s.fr.tm 0 t.tms && (Nat.beq t.tms.length s.fr.nt && (chkH σ t.vs (keepK ng keep) s.H t.l && (chkFs σ t.vs s.ctx t.fs &&
    (Nat.ble ng t.next && (keep.all (fun b => Nat.blt b t.next) && (t.vs.all (fun i => Nat.blt i t.next) && t.vs.all (fun i => !keepK ng keep i || s.ctx.vs.any (Nat.beq i))))))))))))))
def Hop (spec : Spec) (G : Env) (n k : Nat) (s : AM) (j : Nat) (σ : Sb) (keep : List Nat) (t : St) : Prop :=
  (AM.rec (motive := fun _ => Nat × Nat × ACur × List AItem × Bool) (fun fr cs H nx c => AFrame.rec (motive := fun _ => Nat × Nat × ACur × List AItem × Bool) (fun fn nt tm cur todo defers ret ro =>
    (fn, nt, cur, todo, hopB σ keep G.T.ng t ⟨⟨fn, nt, tm, cur, todo, defers, ret, ro⟩, cs, H, nx, c⟩)) fr) (runTN spec G n k j s)) = (t.fn, t.nt, t.cur, t.todo, true)
section
variable {P : Program} {G : Env} {n0 : Nat} {w0 : World} {cs0 : List Frame}
theorem hop_sim {X : Ext} {s : AM} {m : Machine} {σ : Sb} {keep : List Nat} {t : St} {room : Nat} (h : Sim P G n0 w0 cs0 X s m) (hng : 0 < G.T.ng) (h1 : s.fr.fn = t.fn) (h2 : s.fr.nt = t.nt) (h3 : s.fr.cur = t.cur) (h4 : s.fr.todo = t.todo) (hb : hopB σ keep G.T.ng t s = true) :
    Sim P G n0 w0 cs0 (castX σ t.vs (keepK G.T.ng keep) X) (t.am room) m := by
  simp only [hopB, Bool.and_eq_true, Bool.not_eq_true', List.all_eq_true, Nat.ble_eq, Nat.blt_eq, Nat.beq_eq, Bool.or_eq_true] at hb
  obtain ⟨b1, b2, b3, b4, b5, b6, b7, b8, b9, b10, b11, b12, b13, b14⟩ := hb
  have hcs : s.cs = [] := by cases hh : s.cs with
    | nil => rfl
    | cons a l => rw [hh] at b1; cases b1
  have hdef : s.fr.defers = [] := by cases hh : s.fr.defers with
    | nil => rfl
    | cons a l => rw [hh] at b3; cases b3
  have hro : s.fr.ro = none := by cases hh : s.fr.ro with
    | none => rfl
    | some a => rw [hh] at b4; cases b4
  have hKn : ∀ b, t.next ≤ b → keepK G.T.ng keep b = false := fun b hb => by
    unfold keepK
    rw [Bool.or_eq_false_iff]
    refine ⟨?_, ?_⟩
    · cases hh : Nat.blt b G.T.ng with
      | false => rfl
      | true => rw [Nat.blt_eq] at hh; omega
    · rw [List.any_eq_false]
      intro c hc he
      have : b = c := by simpa using he
      subst this
      have := b12 b hc
      omega
  have hvd : ∀ i ∈ t.vs, keepK G.T.ng keep i = true → X.dom i := fun i hi hk => by
    rcases b14 i hi with h' | h'
    · rw [hk] at h'; cases h'
    · exact h.ctx.1 i (any_beq h')
  obtain ⟨k0, hk0⟩ := h.globs 0 hng
  have hC : Cast σ t.vs (keepK G.T.ng keep) X (castX σ t.vs (keepK G.T.ng keep) X) := by
    refine ⟨fun i hi => ⟨?_, by simp only [castX, if_pos hi], rfl⟩, fun b hb => by simp only [castX, if_pos hb]⟩
    by_cases hk : keepK G.T.ng keep i = true
    · obtain ⟨p, hp⟩ := hvd i hi hk
      exact ⟨p, by simp only [castX, if_pos hk, hp]⟩
    · exact ⟨_, by simp only [castX, if_neg hk, if_pos hi]; exact hk0⟩
  have := Sim.recast (room := room) (next' := t.next) (c' := ⟨t.fs, t.vs⟩) h hcs b2 hdef hro b5 (List.all_eq_true.2 b6) b7 b8 b9 hng (fun b hb => by unfold keepK; rw [show Nat.blt b G.T.ng = true from by rw [Nat.blt_eq]; exact hb]; rfl) hKn b13 hvd (chkFs_sound hC h.ctx b10)
  rw [h1, h2, h3, h4] at this
  exact this
theorem Hop.sim (hT : G.T.OK P) (hI : TabI.OK P G.I) (hS : SumsOK P G n0) {spec : Spec} (hsp : SpecOK G spec) (hng : 0 < G.T.ng) {X : Ext} {s : AM} {m : Machine} {n k room j : Nat} {σ : Sb} {keep : List Nat} {t : St} (hh : Hop spec G n k s j σ keep t) (h : Sim P G n0 w0 cs0 X s m) :
    ∃ Y m', Steps P m m' ∧ X.le Y ∧ Sim P G n0 w0 cs0 (castX σ t.vs (keepK G.T.ng keep) Y) (t.am room) m' := by
  obtain ⟨Y, m', st, hle, h1⟩ := areach_sound hT hI hS (runTN_ok hsp n k j s) h
  refine ⟨Y, m', st, hle, ?_⟩
  unfold Hop at hh
  generalize runTN spec G n k j s = s1 at hh h1
  obtain ⟨⟨fn, nt, tm, cur, todo, defers, ret, ro⟩, cs, H, nx, c⟩ := s1
  simp only [Prod.mk.injEq] at hh
  obtain ⟨e1, e2, e3, e4, e5⟩ := hh
  exact hop_sim h1 hng e1 e2 e3 e4 e5
def EndsTrue (P : Program) (n0 : Nat) (w0 : World) (cs0 : List Frame) (f : FuncId) (m : Machine) : Prop :=
  ∃ fr w, Steps P m (lone fr cs0 w) ∧ Below n0 w0 w ∧ fr.fn = f ∧ fr.leaving P w (.returned (.bool true))
theorem EndsTrue.of_steps {f : FuncId} {m m' : Machine} (h : Steps P m m') (e : EndsTrue P n0 w0 cs0 f m') : EndsTrue P n0 w0 cs0 f m := by
  obtain ⟨fr, w, a, b⟩ := e
  exact ⟨fr, w, h.trans a, b⟩
theorem EndsTrue.of_explore (hT : G.T.OK P) (hI : TabI.OK P G.I) (hS : SumsOK P G n0) {spec : Spec} (hsp : SpecOK G spec) {n k d : Nat} {f : FuncId} {X : Ext} {s : AM} {m : Machine} (he : exploreP spec G n f (fun c v => (Sp.lit true).chk c v) k d [] s = true) (h : Sim P G n0 w0 cs0 X s m) : EndsTrue P n0 w0 cs0 f m := by
  rw [exploreP_nil] at he
  obtain ⟨Y, fr, w, c, v, u, a1, a2, a3, a4, a5, a6, a7, a8⟩ := exploreQ_sound hT hI hS hsp d he h
  have hu := Sp.chk_sound a3 a4 a5
  simp only [Sp.has] at hu
  subst hu
  exact ⟨fr, w, a1, a6, a7, a8⟩
end
end Go.Ax
namespace Go.Ax
open Go.RowKit
noncomputable def answer (G : Env) (v : Bool) (s : AM) : AM :=
  match astep G s with
  | .ask op a b => { s with ctx := s.ctx.add ⟨op, a, b, v⟩ }
  | _ => s
noncomputable def asksB (G : Env) (s : AM) : Bool :=
  match astep G s with
  | .ask _ a b => a.okB s.ctx.vs && b.okB s.ctx.vs
  | _ => false
def HopV (spec : Spec) (G : Env) (n k : Nat) (s : AM) (j : Nat) (v : Bool) (i : Nat) (σ : Sb) (keep : List Nat) (t : St) : Prop :=
  (AM.rec (motive := fun _ => Bool × Nat × Nat × ACur × List AItem × Bool) (fun fr cs H nx c => (asksB G ⟨fr, cs, H, nx, c⟩,
    AM.rec (motive := fun _ => Nat × Nat × ACur × List AItem × Bool) (fun fr cs H nx c => AFrame.rec (motive := fun _ => Nat × Nat × ACur × List AItem × Bool) (fun fn nt tm cur todo defers ret ro =>
      (fn, nt, cur, todo, hopB σ keep G.T.ng t ⟨⟨fn, nt, tm, cur, todo, defers, ret, ro⟩, cs, H, nx, c⟩)) fr) (runTN spec G n k i (answer G v ⟨fr, cs, H, nx, c⟩)))) (runTN spec G n k j s)) = (true, t.fn, t.nt, t.cur, t.todo, true)
section
variable {P : Program} {G : Env} {n0 : Nat} {w0 : World} {cs0 : List Frame}
theorem HopV.sim (hT : G.T.OK P) (hI : TabI.OK P G.I) (hS : SumsOK P G n0) {spec : Spec} (hsp : SpecOK G spec) (hng : 0 < G.T.ng) {X : Ext} {s : AM} {m : Machine} {n k room j i1 i2 : Nat} {σ1 σ2 : Sb} {keep1 keep2 : List Nat} {t1 t2 : St} (h1 : HopV spec G n k s j true i1 σ1 keep1 t1) (h2 : HopV spec G n k s j false i2 σ2 keep2 t2) (h : Sim P G n0 w0 cs0 X s m) :
    (∃ Y m', Steps P m m' ∧ X.le Y ∧ Sim P G n0 w0 cs0 (castX σ1 t1.vs (keepK G.T.ng keep1) Y) (t1.am room) m') ∨ (∃ Y m', Steps P m m' ∧ X.le Y ∧ Sim P G n0 w0 cs0 (castX σ2 t2.vs (keepK G.T.ng keep2) Y) (t2.am room) m') := by
  obtain ⟨Y, m', st, hle, hs⟩ := areach_sound hT hI hS (runTN_ok hsp n k j s) h
  unfold HopV at h1 h2
  generalize runTN spec G n k j s = s1 at h1 h2 hs
  obtain ⟨fr, cs, H, nx, c⟩ := s1
  simp only [Prod.mk.injEq] at h1 h2
  obtain ⟨ha, h1⟩ := h1
  obtain ⟨-, h2⟩ := h2
  unfold asksB at ha
  cases hask : astep G ⟨fr, cs, H, nx, c⟩ with
  | next s' => rw [hask] at ha; cases ha
  | fin => rw [hask] at ha; cases ha
  | fail w => rw [hask] at ha; cases ha
  | ask op a b =>
    rw [hask] at ha
    simp only [Bool.and_eq_true] at ha
    obtain ⟨v, hv⟩ := hs.ask op ha.1 ha.2
    have go : ∀ {v : Bool} {i : Nat} {σ : Sb} {keep : List Nat} {t : St}, Sim P G n0 w0 cs0 Y { (⟨fr, cs, H, nx, c⟩ : AM) with ctx := c.add ⟨op, a, b, v⟩ } m' →
        AM.rec (motive := fun _ => Nat × Nat × ACur × List AItem × Bool) (fun fr cs H nx c => AFrame.rec (motive := fun _ => Nat × Nat × ACur × List AItem × Bool) (fun fn nt tm cur todo defers ret ro =>
          (fn, nt, cur, todo, hopB σ keep G.T.ng t ⟨⟨fn, nt, tm, cur, todo, defers, ret, ro⟩, cs, H, nx, c⟩)) fr) (runTN spec G n k i (answer G v ⟨fr, cs, H, nx, c⟩)) = (t.fn, t.nt, t.cur, t.todo, true) →
        ∃ Y' m'', Steps P m m'' ∧ X.le Y' ∧ Sim P G n0 w0 cs0 (castX σ t.vs (keepK G.T.ng keep) Y') (t.am room) m'' := by
      intro v i σ keep t hv hq
      have e : answer G v ⟨fr, cs, H, nx, c⟩ = { (⟨fr, cs, H, nx, c⟩ : AM) with ctx := c.add ⟨op, a, b, v⟩ } := by unfold answer; rw [hask]
      rw [e] at hq
      obtain ⟨Z, m2, st2, hle2, hs2⟩ := areach_sound hT hI hS (runTN_ok hsp n k i _) hv
      refine ⟨Z, m2, st.trans st2, hle.trans hle2, ?_⟩
      generalize runTN spec G n k i { (⟨fr, cs, H, nx, c⟩ : AM) with ctx := c.add ⟨op, a, b, v⟩ } = s2 at hq hs2
      obtain ⟨⟨fn, nt, tm, cur, todo, defers, ret, ro⟩, cs2, H2, nx2, c2⟩ := s2
      simp only [Prod.mk.injEq] at hq
      obtain ⟨e1, e2, e3, e4, e5⟩ := hq
      exact hop_sim hs2 hng e1 e2 e3 e4 e5
    cases v with
    | true => exact .inl (go hv (by simpa only [Prod.mk.injEq] using h1))
    | false => exact .inr (go hv (by simpa only [Prod.mk.injEq] using h2))
end
end Go.Ax
namespace Go.Ax
open Go.RowKit
noncomputable def instD (sps : List Sp) (n : Nat) : InL :=
  match Sp.instL sps n with
  | some r => r
  | none => ⟨[], 0, [], []⟩
noncomputable def startD (G : Env) (E : Errs) (f : FuncId) (args : List Sp) (room : Nat) : AM :=
  match start G f (instD args (E.ng + E.m)).v (errH room E.T E.t E.d E.l) (instD args (E.ng + E.m)).next ⟨(instD args (E.ng + E.m)).fs, (instD args (E.ng + E.m)).vs⟩ with
  | some s => s
  | none => ⟨⟨0, 0, .e, .none, [], [], false, none⟩, [], .e, 0, ⟨[], []⟩⟩
noncomputable def someB {α : Type} : Option α → Bool
  | some _ => true
  | none => false
noncomputable def startB (G : Env) (E : Errs) (f : FuncId) (args : List Sp) (room : Nat) : Bool :=
  someB (Sp.instL args (E.ng + E.m)) && someB (start G f (instD args (E.ng + E.m)).v (errH room E.T E.t E.d E.l) (instD args (E.ng + E.m)).next ⟨(instD args (E.ng + E.m)).fs, (instD args (E.ng + E.m)).vs⟩)
section
variable {P : Program} {G : Env}
theorem toldE_of_sim (hT : G.T.OK P) {E : Errs} (hE : E.ng = G.T.ng) (hng : 0 < E.ng) {f : FuncId} {args : List Sp} {room : Nat} (hb : startB G E f args room = true)
    (he : ∀ {n0 : Nat} {w0 : World} {cs0 : List Frame} {X : Ext} {m : Machine}, Sim P G n0 w0 cs0 X (startD G E f args room) m → EndsTrue P n0 w0 cs0 f m) : ToldE P E f args (.lit true) := by
  intro w A N vs hl hv cs
  simp only [startB, Bool.and_eq_true] at hb
  obtain ⟨hb1, hb2⟩ := hb
  have hi : Sp.instL args (E.ng + E.m) = some (instD args (E.ng + E.m)) := by
    unfold instD
    cases hh : Sp.instL args (E.ng + E.m) with
    | none => rw [hh] at hb1; cases hb1
    | some r => rfl
  have hs : start G f (instD args (E.ng + E.m)).v (errH room E.T E.t E.d E.l) (instD args (E.ng + E.m)).next ⟨(instD args (E.ng + E.m)).fs, (instD args (E.ng + E.m)).vs⟩ = some (startD G E f args room) := by
    unfold startD
    split
    · rename_i s hh; exact hh
    · rename_i hh; rw [hh] at hb2; cases hb2
  generalize instD args (E.ng + E.m) = r at hi hs
  generalize startD G E f args room = s at hs he
  have h00 : 0 < w.heap.size := Nat.lt_of_lt_of_le hng hl.sz
  obtain ⟨Y, hN, hr⟩ := Sp.instL_sound (p := ⟨0, 0, 0⟩) (X := errX E A N) hi hv (fun b hb => by simp only [errX]; rw [if_neg (by omega), if_neg (by omega)])
  have hold : ∀ b, b < E.ng → Y.μ b = some ⟨b, 0, N b⟩ := fun b hb => by rw [hN.old b (by omega)]; simp only [errX]; rw [if_pos hb]
  have hptr : ∀ b, E.ng ≤ b → b < E.ng + E.m → Y.μ b = some ⟨(A b).block, (A b).off, 0⟩ := fun b h1 h2 => by rw [hN.old b h2]; simp only [errX]; rw [if_neg (by omega), if_pos h2]
  have hH : HRel Y w.heap.size (errH room E.T E.t E.d E.l) w := errH_HRel hl hold hptr fun b p hp => by
    by_cases h1 : b < E.ng
    · rw [hold b h1] at hp
      cases hp
      exact Nat.lt_of_lt_of_le h1 hl.sz
    · by_cases h2 : b < E.ng + E.m
      · rw [hptr b (by omega) h2] at hp
        cases hp
        exact hl.lt b (by omega) h2
      · by_cases h3 : b < r.next
        · rw [hN.new b (by omega) h3] at hp
          cases hp
          exact h00
        · rw [hN.free b (by omega)] at hp; cases hp
  have hg : Y.globs G.T.ng := fun g hg => ⟨N g, hold g (by omega)⟩
  have hsim : Sim P G w.heap.size w cs Y s (lone (Frame.enter P f vs .normal) cs w) := by
    unfold start at hs
    split at hs
    · cases hs
    · rename_i fn hfn
      split at hs
      · cases hs
      · rename_i b hb
        cases hs
        have hP := (hT.funcs f fn hfn).1
        refine ⟨⟨Frame.enter P f vs .normal, [], w, rfl, ⟨⟨rfl, rfl, rfl, rfl⟩, rfl, [.code b], ⟨_, _, rfl, rfl, rfl⟩, ?_, ?_⟩, rfl, hH, Below.refl _ _, Nat.le_refl _⟩, ⟨hN.vs, hN.fs⟩, hg, hN.free, ?_⟩
        · simp [Frame.enter, hP, hb]
        · have := enter_tm (k := fn.ntmps) hr
          simpa [Frame.enter, hP] using this
        · simp [idsOf]
  obtain ⟨fr, w', a1, a2, a3, a4⟩ := he hsim
  exact ⟨.returned (.bool true), w', fr, ⟨_, rfl, by simp only [Sp.has], a2⟩, a1, a3, a4⟩
variable {n0 : Nat} {w0 : World} {cs0 : List Frame}
theorem Hop.ends (hT : G.T.OK P) (hI : TabI.OK P G.I) (hS : SumsOK P G n0) (hng : 0 < G.T.ng) {f : FuncId} {s : AM} {n k room j : Nat} {σ : Sb} {keep : List Nat} {t : St} (hh : Hop specF G n k s j σ keep t)
    (he : ∀ X m, Sim P G n0 w0 cs0 X (t.am room) m → EndsTrue P n0 w0 cs0 f m) {X : Ext} {m : Machine} (h : Sim P G n0 w0 cs0 X s m) : EndsTrue P n0 w0 cs0 f m := by
  obtain ⟨Y, m', st, -, hs⟩ := Hop.sim hT hI hS specF_ok hng hh h
  exact .of_steps st (he _ _ hs)
end
end Go.Ax
