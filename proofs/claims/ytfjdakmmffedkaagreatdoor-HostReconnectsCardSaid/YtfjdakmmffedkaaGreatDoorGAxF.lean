/-
 THE ABSTRACT EXECUTOR, 52: a state seen as another one, in which numbers are letters and what is not needed is forgotten. Conditions: none.
-/
import Derived.Test.YtfjdakmmffedkaaGreatDoorGAxE
namespace Go.Ax
open Go.RowKit
abbrev Sb := List (Nat × E)
def Sb.at (U : Sb) (i : Nat) : E :=
 match U with
 | [] => .var i
 | p :: U => bif Nat.beq p.1 i then p.2 else Sb.at U i
noncomputable def addS (k : IntKind) (a b : E) : E :=
 match k, a, b with
 | .i64, .lit p, .lit q => Q11 (ZM .i64 (p + q)) λ n => .lit n
 | k, a, b => E.addN k a b
theorem Qgn {k : IntKind} {a b : E} {O : Val} : (addS k a b).den O = Zo .add k (a.den O) (b.den O) := by
 unfold addS
 split
 . simp only [sInt_eq, E.den, Zo, wrapK_eq]
 . exact E.Q9w
noncomputable def binS (op : BinOp) (k : IntKind) (a b : E) : E :=
 match op with
 | .add => addS k a b
 | .sub => E.Qji k a b
 | op => .bin op k a b
theorem Qgk {op : BinOp} {k : IntKind} {a b : E} {O : Val} : (binS op k a b).den O = Zo op k (a.den O) (b.den O) := by
 unfold binS
 split
 . exact Qgn
 . exact E.Q8r
 . rfl
noncomputable def E.sub (U : Sb) : E -> E
 | .lit n => .lit n
 | .var i => U.at i
 | .len i => .len i
 | .byte i a => .byte i (a.sub U)
 | .bin op k a b => binS op k (a.sub U) (b.sub U)
 | .cnv k a => .cnv k (a.sub U)
 | .pk n a => .pk n (a.sub U)
 | .cons a t => .cons (a.sub U) (t.sub U)
 | .tv i lo hi t => .tv i (lo.sub U) (hi.sub U) (t.sub U)
 | .fn k t => .fn k (t.sub U)
 | .mn a b => .mn (a.sub U) (b.sub U)
structure Cast (U : Sb) (vs : List Nat) (K : Nat -> Bool) (X X' : Ext) : Prop where
 letters : ∀ i ∈ vs, X'.dom i /\ X'.O.int i = (U.at i).den X.O /\ X'.O.str i = X.O.str i
 kept : ∀ b, K b = true -> X'.V b = X.V b
theorem E.Q7l {vs : List Nat} : ∀ {e : E} {n : Nat -> Prop}, e.okB vs = true -> (∀ i ∈ vs, n i) -> e.ok n := λ {_ _} h hn => E.Zu hn h
theorem Zc {U : Sb} {vs : List Nat} {K : Nat -> Bool} {X X' : Ext} (hc : Cast U vs K X X') : ∀ {e : E}, e.ok (. ∈ vs) -> (e.sub U).den X.O = e.den X'.O
 | .lit _, _ => rfl
 | .var i, h => (hc.letters i h).2.1.symm
 | .len i, h => by simp only [E.sub, E.den, (hc.letters i h).2.2]
 | .byte i a, h => by simp only [E.sub, E.den, (hc.letters i h.1).2.2, Zc hc h.2]
 | .bin _ _ a b, h => by simp only [E.sub, E.den, Qgk, Zc hc h.1, Zc hc h.2]
 | .cnv _ a, h => by simp only [E.sub, E.den, Zc (e := a) hc h]
 | .pk _ a, h => by simp only [E.sub, E.den, Zc (e := a) hc h]
 | .cons _ _, h => by simp only [E.sub, E.den, Zc hc h.1, Zc hc h.2]
 | .tv i _ _ _, h => by simp only [E.sub, E.den, (hc.letters i h.1).2.2, Zc hc h.2.1, Zc hc h.2.2.1, Zc hc h.2.2.2]
 | .fn _ t, h => by simp only [E.sub, E.den, Zc (e := t) hc h]
 | .mn _ _, h => by simp only [E.sub, E.den, Zc hc h.1, Zc hc h.2]
noncomputable def Qga (U : Sb) (vs : List Nat) (e e' : E) : Bool := e.same (e'.sub U) && e'.okB vs
theorem Zy {U : Sb} {vs : List Nat} {K : Nat -> Bool} {X X' : Ext} (hc : Cast U vs K X X') {e e' : E} (h : Qga U vs e e' = true) : e'.ok X'.dom /\ e.den X.O = e'.den X'.O := by
 simp only [Qga, Bool.and_eq_true] at h
 have hok : e'.ok (. ∈ vs) := E.Q7l h.2 λ i hi => hi
 refine ⟨E.Qi (λ i hi => (hc.letters i hi).1) hok, ?_⟩
 rw [E.Q5 h.1, Zc hc hok]
noncomputable def Qjr (U : Sb) (vs : List Nat) : List E -> List E -> Bool
 | [], [] => true
 | e :: l, e' :: l' => Qga U vs e e' && Qjr U vs l l'
 | _, _ => false
theorem Q2a {U : Sb} {vs : List Nat} {K : Nat -> Bool} {X X' : Ext} (hc : Cast U vs K X X') : ∀ {l l' : List E}, Qjr U vs l l' = true -> S.okN X.dom X.O l -> S.okN X'.dom X'.O l' /\ S.bytes X'.O l' = S.bytes X.O l
 | [], [], _, _ => ⟨λ t ht => (by cases ht), rfl⟩
 | [], _ :: _, h, _ => by simp [Qjr] at h
 | _ :: _, [], h, _ => by simp [Qjr] at h
 | e :: l, e' :: l', h, hl => by
  simp only [Qjr, Bool.and_eq_true] at h
  obtain ⟨h1, h2⟩ := Zy hc h.1
  obtain ⟨h3, h4⟩ := Q2a hc h.2 λ t ht => hl t (by simp [ht])
  have hb := hl e (by simp)
  refine ⟨λ t ht => ?_, ?_⟩
  . rcases List.mem_cons.1 ht with rfl | ht
    . exact ⟨h1, by rw [<- h2]; exact hb.2⟩
    . exact h3 t ht
  . simp only [S.bytes, List.map_cons] at h4 ⊢
    rw [h2, h4]
noncomputable def Qjs (U : Sb) (vs : List Nat) : List E -> List E -> Bool
 | [], [] => true
 | e :: l, e' :: l' => Qga U vs e e' && Qjs U vs l l'
 | _, _ => false
theorem Q2d {U : Sb} {vs : List Nat} {K : Nat -> Bool} {X X' : Ext} (hc : Cast U vs K X X') : ∀ {l l' : List E}, Qjs U vs l l' = true -> (∀ t ∈ l', t.ok X'.dom) /\ S.bytes X.O l = S.bytes X'.O l' /\ l.length = l'.length
 | [], [], _ => ⟨λ t ht => (by cases ht), rfl, rfl⟩
 | [], _ :: _, h => by simp [Qjs] at h
 | _ :: _, [], h => by simp [Qjs] at h
 | e :: l, e' :: l', h => by
  simp only [Qjs, Bool.and_eq_true] at h
  obtain ⟨h1, h2⟩ := Zy hc h.1
  obtain ⟨h3, h4, h5⟩ := Q2d hc h.2
  refine ⟨λ t ht => ?_, ?_, by simp [h5]⟩
  . rcases List.mem_cons.1 ht with rfl | ht
    . exact h1
    . exact h3 t ht
  . simp only [S.bytes, List.map_cons] at h4 ⊢
    rw [h2, h4]
noncomputable def Qg8 (U : Sb) (vs : List Nat) : ST -> ST -> Bool
 | .var i, .var j => Nat.beq i j && vs.any (Nat.beq j)
 | .bs l, .bs m => Qjs U vs l m
 | .cat a b, .cat c d => Qg8 U vs a c && Qg8 U vs b d
 | .sub a l h, .sub b l' h' => Qg8 U vs a b && (Qga U vs l l' && Qga U vs h h')
 | _, _ => false
theorem JL {U : Sb} {vs : List Nat} {K : Nat -> Bool} {X X' : Ext} (hc : Cast U vs K X X') : ∀ {s t : ST}, Qg8 U vs s t = true -> t.ok X'.dom /\ s.den X.O = t.den X'.O /\ s.len.den X.O = t.len.den X'.O
 | .var i, t, h => by
  cases t <;> simp only [Qg8, Bool.false_eq_true, Bool.and_eq_true, Nat.beq_eq] at h
  obtain ⟨rfl, h2⟩ := h
  obtain ⟨g1, -, g3⟩ := hc.letters i (any_beq h2)
  exact ⟨g1, g3.symm, by simp only [ST.len, E.den, g3]⟩
 | .bs l, t, h => by
  cases t <;> simp only [Qg8, Bool.false_eq_true] at h
  obtain ⟨g1, g2, g3⟩ := Q2d hc h
  exact ⟨g1, g2, by simp only [ST.len, E.den, g3]⟩
 | .cat a b, t, h => by
  cases t <;> simp only [Qg8, Bool.false_eq_true, Bool.and_eq_true] at h
  obtain ⟨a1, a2, a3⟩ := JL hc h.1
  obtain ⟨b1, b2, b3⟩ := JL hc h.2
  exact ⟨⟨a1, b1⟩, by simp only [ST.den, a2, b2], by simp only [ST.len, E.den, a3, b3]⟩
 | .sub a l u, t, h => by
  cases t <;> simp only [Qg8, Bool.false_eq_true, Bool.and_eq_true] at h
  obtain ⟨a1, a2, a3⟩ := JL hc h.1
  obtain ⟨b1, b2⟩ := Zy hc h.2.1
  obtain ⟨c1, c2⟩ := Zy hc h.2.2
  exact ⟨⟨a1, b1, c1⟩, by simp only [ST.den, a2, b2, c2], by simp only [ST.len, E.den, b2, c2]⟩
def anyA : AV -> Bool
 | .agg _ | .tuple _ | .bool _ | .nilIface => false
 | _ => true
theorem Qz {X X' : Ext} {a : AV} {v : Value} (h : anyA a = true) (r : a.rel X v) : AV.any.rel X' v := by
 suffices vany v = true by simpa only [AV.rel] using this
 cases a <;> simp only [AV.rel, anyA, Bool.false_eq_true] at h r <;>
  first
   | (subst r; rfl)
   | exact r
   | (obtain ⟨_, rfl⟩ := r; rfl)
   | (obtain ⟨_, _, rfl⟩ := r; rfl)
   | (obtain ⟨_, _, _, _, rfl, _⟩ := r; rfl)
   | (obtain ⟨_, _, rfl, _⟩ := r; rfl)
   | (obtain ⟨_, rfl, _⟩ := r; rfl)
   | (obtain ⟨_, _, _, _, rfl, _⟩ := r; rfl)
mutual
noncomputable def J5 (U : Sb) (vs : List Nat) (K : Nat -> Bool) : AV -> AV -> Bool
 | .bool a, .bool b => a == b
 | .int j e, .int k e' => Nat.beq (kN j) (kN k) && Qga U vs e e'
 | .str l, .str l' => Qjr U vs l l'
 | .sstr s, .sstr t => Qg8 U vs s t
 | .ptr b o, .ptr b' o' => Nat.beq b b' && (Nat.beq o o' && K b)
 | .nilptr, .nilptr => true
 | .slice b o n c s x, .slice b' o' n' c' s' x' => Nat.beq b b' && (Nat.beq o o' && (Nat.beq n n' && (Nat.beq c c' && (Nat.beq s s' && (x == x' && K b)))))
 | .nilslice, .nilslice => true
 | .map r, .map r' => Nat.beq r r' && K r
 | .nilmap, .nilmap => true
 | .func f a c, .func f' a' c' => Nat.beq f f' && (zL U vs K a a' && zL U vs K c c')
 | .nilFunc, .nilFunc => true
 | .iface t a, .iface t' a' => Nat.beq t t' && J5 U vs K a a'
 | .nilIface, .nilIface => true
 | .agg l, .agg l' => zL U vs K l l'
 | .tuple l, .tuple l' => zL U vs K l l'
 | .wslice b o n s l, .wslice b' o' n' s' l' => Nat.beq b b' && (Nat.beq o o' && (Nat.beq n n' && (Nat.beq s s' && (K b && (Qga U vs (.var l) (.var l'))))))
 | a, .any => anyA a
 | _, _ => false
noncomputable def zL (U : Sb) (vs : List Nat) (K : Nat -> Bool) : List AV -> List AV -> Bool
 | [], [] => true
 | a :: l, a' :: l' => J5 U vs K a a' && zL U vs K l l'
 | _, _ => false
end
section
variable {U : Sb} {vs : List Nat} {K : Nat -> Bool} {X X' : Ext}
mutual
theorem Ql (hc : Cast U vs K X X') : ∀ {a a' : AV} {v : Value}, J5 U vs K a a' = true -> a.rel X v -> a'.rel X' v
 | .bool a, a', v, h, r => by cases a' <;> simp only [J5, Bool.false_eq_true, beq_iff_eq] at h <;> (try exact Qz h r); subst h; simpa only [AV.rel] using r
 | .int j e, a', v, h, r => by
  cases a' <;> simp only [J5, Bool.false_eq_true, Bool.and_eq_true] at h <;> (try exact Qz h r)
  obtain ⟨h1, h2⟩ := Zy hc h.2
  simp only [AV.rel] at r ⊢
  rw [<- Q09 h.1, <- h2]
  exact ⟨h1, r.2⟩
 | .str l, a', v, h, r => by
  cases a' <;> simp only [J5, Bool.false_eq_true] at h <;> (try exact Qz h r)
  simp only [AV.rel] at r ⊢
  obtain ⟨h1, h2⟩ := Q2a hc h r.1
  rw [h2]
  exact ⟨h1, r.2⟩
 | .sstr s, a', v, h, r => by
  cases a' <;> simp only [J5, Bool.false_eq_true] at h <;> (try exact Qz h r)
  simp only [AV.rel] at r ⊢
  obtain ⟨h1, h2, h3⟩ := JL hc h
  refine ⟨h1, ?_, by rw [<- h2]; exact r.2.2⟩
  have := r.2.1
  unfold ST.fit at this ⊢
  rw [<- h2, <- h3]
  exact this
 | .ptr b o, a', v, h, r => by
  cases a' <;> simp only [J5, Bool.false_eq_true, Bool.and_eq_true, Nat.beq_eq] at h <;> (try exact Qz h r)
  obtain ⟨rfl, rfl, hk⟩ := h
  simp only [AV.rel] at r ⊢
  rw [hc.kept _ hk]
  exact r
 | .nilptr, a', v, h, r => by cases a' <;> simp only [J5, Bool.false_eq_true] at h <;> (try exact Qz h r); simpa only [AV.rel] using r
 | .slice b o n c s x, a', v, h, r => by
  cases a' <;> simp only [J5, Bool.false_eq_true, Bool.and_eq_true, Nat.beq_eq, beq_iff_eq] at h <;> (try exact Qz h r)
  obtain ⟨rfl, rfl, rfl, rfl, rfl, rfl, hk⟩ := h
  simp only [AV.rel] at r ⊢
  rw [hc.kept _ hk]
  exact r
 | .nilslice, a', v, h, r => by cases a' <;> simp only [J5, Bool.false_eq_true] at h <;> (try exact Qz h r); simpa only [AV.rel] using r
 | .wslice b o n s l, a', v, h, r => by
  cases a' <;> simp only [J5, Bool.false_eq_true, Bool.and_eq_true, Nat.beq_eq] at h <;> (try exact Qz h r)
  obtain ⟨rfl, rfl, rfl, rfl, hk, hl⟩ := h
  simp only [AV.rel] at r ⊢
  rw [hc.kept _ hk]
  obtain ⟨p, len, c, h1, h2, h3, h4, h5, h6, h7⟩ := r
  obtain ⟨k1, k2⟩ := Zy hc hl
  exact ⟨p, len, c, h1, h2, h3, h4, h5, k1, k2.symm.trans h7⟩
 | .map q, a', v, h, r => by
  cases a' <;> simp only [J5, Bool.false_eq_true, Bool.and_eq_true, Nat.beq_eq] at h <;> (try exact Qz h r)
  obtain ⟨rfl, hk⟩ := h
  simp only [AV.rel] at r ⊢
  rw [hc.kept _ hk]
  exact r
 | .nilmap, a', v, h, r => by cases a' <;> simp only [J5, Bool.false_eq_true] at h <;> (try exact Qz h r); simpa only [AV.rel] using r
 | .func f a c, a', v, h, r => by
  cases a' <;> simp only [J5, Bool.false_eq_true, Bool.and_eq_true, Nat.beq_eq] at h <;> (try exact Qz h r)
  obtain ⟨rfl, h1, h2⟩ := h
  simp only [AV.rel] at r ⊢
  obtain ⟨x, y, e, r1, r2⟩ := r
  exact ⟨x, y, e, QL hc h1 r1, QL hc h2 r2⟩
 | .yield l, a', v, h, r => by cases a' <;> simp [J5] at h <;> (try exact Qz h r)
 | .nilFunc, a', v, h, r => by cases a' <;> simp only [J5, Bool.false_eq_true] at h <;> (try exact Qz h r); simpa only [AV.rel] using r
 | .iface t a, a', v, h, r => by
  cases a' <;> simp only [J5, Bool.false_eq_true, Bool.and_eq_true, Nat.beq_eq] at h <;> (try exact Qz h r)
  obtain ⟨rfl, h1⟩ := h
  simp only [AV.rel] at r ⊢
  obtain ⟨u, e, r1⟩ := r
  exact ⟨u, e, Ql hc h1 r1⟩
 | .nilIface, a', v, h, r => by cases a' <;> simp only [J5, Bool.false_eq_true] at h <;> (try exact Qz h r); simpa only [AV.rel] using r
 | .agg l, a', v, h, r => by
  cases a' <;> simp only [J5, Bool.false_eq_true] at h <;> (try exact Qz h r)
  simp only [AV.rel] at r ⊢
  obtain ⟨u, e, r1⟩ := r
  exact ⟨u, e, QL hc h r1⟩
 | .tuple l, a', v, h, r => by
  cases a' <;> simp only [J5, Bool.false_eq_true] at h <;> (try exact Qz h r)
  simp only [AV.rel] at r ⊢
  obtain ⟨u, e, r1⟩ := r
  exact ⟨u, e, QL hc h r1⟩
 | .any, a', v, h, r => by cases a' <;> simp only [J5, Bool.false_eq_true] at h <;> exact Qz h r
theorem QL (hc : Cast U vs K X X') : ∀ {l l' : List AV} {us : List Value}, zL U vs K l l' = true -> AV.QE X l us -> AV.QE X' l' us
 | [], l', us, h, r => by cases l' <;> simp only [zL, Bool.false_eq_true] at h; rw [rels_nil] at r ⊢; exact r
 | a :: l, l', us, h, r => by
  cases l' <;> simp only [zL, Bool.false_eq_true, Bool.and_eq_true] at h
  obtain ⟨v, us', rfl, r1, r2⟩ := Q9.1 r
  rw [rels_cons_cons]
  exact ⟨Ql hc h.1 r1, QL hc h.2 r2⟩
end
noncomputable def Qlt (U : Sb) (vs : List Nat) (K : Nat -> Bool) : List (AV × AV × Nat) -> List (AV × AV × Nat) -> Bool
 | [], [] => true
 | a :: l, b :: l' => J5 U vs K a.1 b.1 && (J5 U vs K a.2.1 b.2.1 && (Nat.beq a.2.2 b.2.2 && Qlt U vs K l l'))
 | _, _ => false
theorem Q2c (hc : Cast U vs K X X') : ∀ {l l' : List (AV × AV × Nat)} {es : List MapEntry}, Qlt U vs K l l' = true -> Q8 X l es -> Q8 X' l' es
 | [], l', es, h, r => by cases l' <;> simp only [Qlt, Bool.false_eq_true] at h; exact r
 | a :: l, l', es, h, r => by
  cases l' <;> simp only [Qlt, Bool.false_eq_true, Bool.and_eq_true, Nat.beq_eq] at h
  obtain ⟨e, es', rfl, r1, r2, r3, r4⟩ := r
  exact ⟨e, es', rfl, Ql hc h.1 r1, Ql hc h.2.1 r2, by rw [r3, h.2.2.1], Q2c hc h.2.2.2 r4⟩
noncomputable def Qls (U : Sb) (vs : List Nat) (K : Nat -> Bool) : List (AV × AV) -> List (AV × AV) -> Bool
 | [], [] => true
 | a :: l, b :: l' => J5 U vs K a.1 b.1 && (J5 U vs K a.2 b.2 && Qls U vs K l l')
 | _, _ => false
theorem Q2b (hc : Cast U vs K X X') : ∀ {l l' : List (AV × AV)} {es : List MapEntry}, Qls U vs K l l' = true -> ZB X l es -> ZB X' l' es
 | [], l', es, h, r => by cases l' <;> simp only [Qls, Bool.false_eq_true] at h; exact r
 | a :: l, l', es, h, r => by
  cases l' <;> simp only [Qls, Bool.false_eq_true, Bool.and_eq_true] at h
  obtain ⟨e, es', rfl, r1, r2, r4⟩ := r
  exact ⟨e, es', rfl, Ql hc h.1 r1, Ql hc h.2.1 r2, Q2b hc h.2.2 r4⟩
noncomputable def Qj3 (U : Sb) (vs : List Nat) (K : Nat -> Bool) : Q7 -> Q7 -> Bool
 | .cells cs el ex pl ro, .cells cs' el' ex' pl' ro' => Nat.beq el el' && (ex == ex' && (pl == pl' && (ro == ro' && zL U vs K cs cs')))
 | .map es c, .map es' c' => Nat.beq c c' && Qlt U vs K es es'
 | .lmap es, .lmap es' => Qls U vs K es es'
 | .pre s n el, .pre s' n' el' => Nat.beq n n' && (Nat.beq el el' && J5 U vs K (.sstr s) (.sstr s'))
 | _, _ => false
theorem Q0o {l l' : List AV} (h : zL U vs K l l' = true) : l'.length = l.length := by
 induction l generalizing l' with
 | nil => cases l' <;> simp [zL] at h; rfl
 | cons a l ih =>
  cases l' with
  | nil => simp [zL] at h
  | cons a' l' => simp only [zL, Bool.and_eq_true] at h; simp [ih h.2]
theorem Qg9 {l l' : List AV} (h : zL U vs K l l' = true) {i : Nat} {a' : AV} (e : l'[i]? = some a') : ∃ a, l[i]? = some a /\ J5 U vs K a a' = true := by
 induction l generalizing l' i with
 | nil => cases l' <;> simp [zL] at h; simp at e
 | cons a l ih =>
  cases l' with
  | nil => simp [zL] at h
  | cons b l' =>
   simp only [zL, Bool.and_eq_true] at h
   cases i with
   | zero => simp at e; subst e; exact ⟨a, rfl, h.1⟩
   | succ i => simpa using ih h.2 (by simpa using e)
theorem jd (hc : Cast U vs K X X') {o o' : Q7} {p : Place} {ob : Option Obj} (h : Qj3 U vs K o o' = true) (r : zK X o p ob) : zK X' o' p ob /\ o'.live = o.live /\ o'.rw = o.rw := by
 cases o <;> cases o' <;> simp only [Qj3, Bool.false_eq_true, Bool.and_eq_true, Nat.beq_eq, beq_iff_eq] at h
 . obtain ⟨rfl, rfl, rfl, rfl, h⟩ := h
   obtain ⟨c, fr, h1, h2, h3, h4, h5, h6⟩ := r
   refine ⟨⟨c, fr, h1, h2, by rw [Q0o h]; exact h3, by rw [Q0o h]; exact h4, λ i a hi => ?_, h6⟩, rfl, rfl⟩
   obtain ⟨b, hb, hr⟩ := Qg9 h hi
   obtain ⟨v, hv, r1⟩ := h5 i b hb
   exact ⟨v, hv, Ql hc hr r1⟩
 . obtain ⟨rfl, h⟩ := h
   obtain ⟨es', h1, h2⟩ := r
   exact ⟨⟨es', h1, Q2c hc h h2⟩, rfl, rfl⟩
 . obtain ⟨es', cl, l, h1, h2, h3⟩ := r
   exact ⟨⟨es', cl, l, h1, Q2b hc h h2, h3⟩, rfl, rfl⟩
 . rename_i s n el s' n' el'
   obtain ⟨rfl, rfl, h⟩ := h
   obtain ⟨h1, h2, h3, h4, h5, c, h6, h7, h8⟩ := r
   have hs := Ql hc h (show (AV.sstr s).rel X (.string ⟨(s.den X.O).toArray⟩) by simp only [AV.rel]; exact ⟨h1, h2, trivial⟩)
   simp only [AV.rel] at hs
   obtain ⟨k1, k2, k3⟩ := hs
   have e : s.den X.O = s'.den X'.O := by simpa using k3
   exact ⟨⟨k1, k2, h3, h4, by rw [<- e]; exact h5, c, h6, h7, by rw [<- e]; exact h8⟩, rfl, rfl⟩
theorem Qds {o o' : Q7} (h : Qj3 U vs K o o' = true) : o'.Q3k = o.Q3k := by
 cases o <;> cases o' <;> simp only [Qj3, Bool.false_eq_true, Bool.and_eq_true, Nat.beq_eq, beq_iff_eq] at h
 . obtain ⟨-, -, rfl, rfl, -⟩ := h; rfl
 all_goals rfl
end
end Go.Ax
namespace Go.Ax
open Go.RowKit
noncomputable def Qas (n : Nat) : List (Nat × Q7) -> Tr Q7
 | [] => .sk n
 | e :: l => (Qas n l).set e.1 e.2
theorem JF {n : Nat} : ∀ {l : List (Nat × Q7)} {b : Nat} {o : Q7}, (Qas n l).get b = some o -> (b, o) ∈ l
 | [], b, o, h => by simp [Qas] at h
 | e :: l, b, o, h => by
  simp only [Qas] at h
  rw [Tr.QX] at h
  by_cases hb : b = e.1
  . subst hb
    simp at h
    subst h
    simp
  . rw [if_neg hb] at h
    exact List.mem_cons_of_mem _ (JF h)
noncomputable def Qlu (U : Sb) (vs : List Nat) (K : Nat -> Bool) (x : Option Q7) (o' : Q7) : Bool :=
 match x with
 | some o => Qj3 U vs K o o'
 | none => false
noncomputable def Qj4 (U : Sb) (vs : List Nat) (K : Nat -> Bool) (H : Tr Q7) : List (Nat × Q7) -> Bool
 | [] => true
 | e :: l => K e.1 && (Qlu U vs K (H.get e.1) e.2 && Qj4 U vs K H l)
theorem Q9o {U : Sb} {vs : List Nat} {K : Nat -> Bool} {H : Tr Q7} : ∀ {l : List (Nat × Q7)}, Qj4 U vs K H l = true -> ∀ e ∈ l, K e.1 = true /\ ∃ o, H.get e.1 = some o /\ Qj3 U vs K o e.2 = true
 | [], _, e, he => by cases he
 | a :: l, h, e, he => by
  simp only [Qj4, Bool.and_eq_true] at h
  rcases List.mem_cons.1 he with rfl | he
  . refine ⟨h.1, ?_⟩
    have h2 := h.2.1
    unfold Qlu at h2
    split at h2
    . rename_i o ho; exact ⟨o, ho, h2⟩
    . cases h2
  . exact Q9o h.2.2 e he
theorem Qk.Y3 {X X' : Ext} {n0 : Nat} {H : Tr Q7} {w : World} {U : Sb} {vs : List Nat} {K : Nat -> Bool} {l : List (Nat × Q7)} {room : Nat} (h : Qk X n0 H w) (hc : Cast U vs K X X') (hlt : ∀ b p, X'.V b = some p -> p.blk < w.heap.size) (hk : Qj4 U vs K H l = true) : Qk X' n0 (Qas room l) w := by
 have base : ∀ b o' p, (Qas room l).get b = some o' -> X'.V b = some p -> X.V b = some p /\ ∃ o, H.get b = some o /\ Qj3 U vs K o o' = true := λ b o' p hb hp => by
  obtain ⟨k1, o, k2, k3⟩ := Q9o hk _ (JF hb)
  exact ⟨by rw [<- hc.kept b k1]; exact hp, o, k2, k3⟩
 refine ⟨λ b o' p hb hp => ?_, λ b b' o1 o2 p p' hb hb' l1 l2 hp hp' e => ?_, hlt, λ b o' p hb hr hp => ?_⟩
 . obtain ⟨g1, o, g2, g3⟩ := base b o' p hb hp
   exact (jd hc g3 (h.obj b o p g2 g1)).1
 . obtain ⟨g1, o, g2, g3⟩ := base b o1 p hb hp
   obtain ⟨g4, q, g5, g6⟩ := base b' o2 p' hb' hp'
   have e1 := (jd hc g3 (h.obj b o p g2 g1)).2.1
   exact h.inj b b' o q p p' g2 g5 (by rw [<- e1]; exact l1) (by rw [<- Qds g6]; exact l2) g1 g4 e
 . obtain ⟨g1, o, g2, g3⟩ := base b o' p hb hp
   have e1 := (jd hc g3 (h.obj b o p g2 g1)).2.2
   exact h.own b o p g2 (by rw [<- e1]; exact hr) g1
noncomputable def Qb8 (U : Sb) (vs : List Nat) (K : Nat -> Bool) (tm : Tr AV) : Nat -> List AV -> Bool
 | _, [] => true
 | i, a :: l => J5 U vs K ((tm.get i).getD .undef) a && QB (i + 1) λ j => Qb8 U vs K tm j l
theorem Q67 {U : Sb} {vs : List Nat} {K : Nat -> Bool} {tm : Tr AV} : ∀ {l : List AV} {i t : Nat} {a : AV}, Qb8 U vs K tm i l = true -> l[t]? = some a -> J5 U vs K ((tm.get (i + t)).getD .undef) a = true
 | [], i, t, a, _, h => by simp at h
 | b :: l, i, t, a, h, e => by
  simp only [Qb8, sNat_eq, Bool.and_eq_true] at h
  cases t with
  | zero => simp at e; subst e; simpa using h.1
  | succ t =>
   have := Q67 h.2 (t := t) (by simpa using e)
   rw [show i + (t + 1) = i + 1 + t by omega]
   exact this
theorem QN.Y3 {X X' : Ext} {U : Sb} {vs : List Nat} {K : Nat -> Bool} {nt : Nat} {tm : Tr AV} {tmps : Array Value} {l : List AV} (hc : Cast U vs K X X') (h : QN X nt tm tmps) (hk : Qb8 U vs K tm 0 l = true) (hl : l.length = nt) : QN X' nt (setArgs 0 l (.sk nt)) tmps := by
 refine ⟨h.1, λ t => ?_⟩
 rw [YS (X := X')]
 simp only [Nat.not_lt_zero, if_false, Nat.sub_zero]
 cases ht : l[t]? with
 | some a =>
  simp only [Option.getD_some]
  have := Q67 hk ht
  rw [Nat.zero_add] at this
  exact Ql hc this (h.2 t)
 | none =>
  have hge : nt <= t := by
   rw [<- hl]
   exact List.getElem?_eq_none_iff.1 ht
  have hu : tmps.getD t undef = undef := by
   have : tmps[t]? = none := Array.getElem?_eq_none_iff.2 (by rw [h.1]; exact hge)
   simp [Array.getD_eq_getD_getElem?, this]
  rw [hu]
  simp
  exact Qq X'
def Q5b : Qw -> Bool
 | .inRangeFunc _ | .endRangeFunc _ => false
 | _ => true
theorem Y6 {X X' : Ext} : ∀ {as : List Qw} {is : List Item}, as.all Q5b = true -> YZ X as is -> YZ X' as is
 | [], _, _, r => r
 | a :: as, is, h, ⟨i, is', e, h1, h2⟩ => by
  simp only [List.all_cons, Bool.and_eq_true] at h
  refine ⟨i, is', e, ?_, Y6 h.2 h2⟩
  cases a <;> simp only [Q5b, Bool.false_eq_true] at h <;> simp only [Qft] at * <;> first | exact h1 | (exact h.1.elim)
def Q01 : Q8k -> Bool
 | .draw .. => false
 | _ => true
def QZ (U : Sb) (vs : List Nat) (K : Nat -> Bool) (X : Ext) : Ext :=
 ⟨λ b => if K b = true then X.V b else if b ∈ vs then X.V 0 else none, ⟨λ i => if i ∈ vs then (U.at i).den X.O else 0, X.O.str⟩⟩
theorem Sim.Y3 {P : Program} {G : Env} {n0 : Nat} {w0 : World} {cs0 : List Frame} {X : Ext} {s : AM} {m : Machine} {U : Sb} {vs : List Nat} {K : Nat -> Bool} {tms : List AV} {l : List (Nat × Q7)} {room next' : Nat} {c' : Ctx} (h : Sim P G n0 w0 cs0 X s m)
 (hcs : s.cs = []) (hret : s.fr.ret = false) (hdef : s.fr.defers = []) (hro : s.fr.ro = none) (hcur : Q01 s.fr.cur = true) (htodo : s.fr.todo.all Q5b = true) (htm : Qb8 U vs K s.fr.tm 0 tms = true) (hlen : tms.length = s.fr.nt) (hH : Qj4 U vs K s.H l = true)
 (hng : 0 < G.T.ng) (hKg : ∀ b, b < G.T.ng -> K b = true) (hKn : ∀ b, next' <= b -> K b = false) (hvn : ∀ i ∈ vs, i < next') (hvd : ∀ i ∈ vs, K i = true -> X.dom i)
 (hctx : c'.okN (QZ U vs K X).dom (QZ U vs K X).O) :
 Sim P G n0 w0 cs0 (QZ U vs K X) ⟨⟨s.fr.fn, s.fr.nt, setArgs 0 tms (.sk s.fr.nt), s.fr.cur, s.fr.todo, [], false, none⟩, [], Qas room l, next', c'⟩ m := by
 obtain ⟨fr, cs, w, rfl, hF, hall, hHr, hB, h0⟩ := h.ex
 obtain ⟨k0, hk0⟩ := h.Qn 0 hng
 have hc : Cast U vs K X (QZ U vs K X) := by
  refine ⟨λ i hi => ⟨?_, by simp only [QZ, if_pos hi], rfl⟩, λ b hb => by simp only [QZ, if_pos hb]⟩
  by_cases hk : K i = true
  . obtain ⟨p, hp⟩ := hvd i hi hk
    exact ⟨p, by simp only [QZ, if_pos hk, hp]⟩
  . exact ⟨_, by simp only [QZ, if_neg hk, if_pos hi]; exact hk0⟩
 have hlt : ∀ b p, (QZ U vs K X).V b = some p -> p.blk < w.heap.size := λ b p hp => by
  simp only [QZ] at hp
  split at hp
  . exact hHr.lt b p hp
  . split at hp
    . exact hHr.lt 0 p hp
    . cases hp
 rw [hcs] at hall
 simp only [ZG] at hall
 subst hall
 refine ⟨⟨fr, [], w, rfl, ?_, rfl, Qk.Y3 hHr hc hlt hH, hB, h0⟩, hctx, λ g hg => ?_, λ b hb => ?_, ?_⟩
 . obtain ⟨hb, h'⟩ := hF
   rw [hret] at h'
   refine ⟨⟨hb.fn, hb.kind, ?_, ?_⟩, ?_⟩
   . have := hb.ro
     rw [hro] at this
     exact this
   . have := hb.defers
     rw [hdef] at this
     exact this
   . obtain ⟨hm, is, his, hcur'⟩ := h'
     refine ⟨hm, is, Y6 htodo his, ?_⟩
     cases hcc : s.fr.cur with
     | none =>
      rw [hcc] at hcur'
      exact ⟨hcur'.1, QN.Y3 hc hcur'.2 htm hlen⟩
     | reg ops k rest =>
      rw [hcc] at hcur'
      exact ⟨hcur'.1, hcur'.2.1, QN.Y3 hc hcur'.2.2 htm hlen⟩
     | draw ops done rest pa => rw [hcc] at hcur; cases hcur
 . obtain ⟨n, hn⟩ := h.Qn g hg
   exact ⟨n, by simp only [QZ, if_pos (hKg g hg)]; exact hn⟩
 . simp only [QZ]
   have hb' : next' <= b := hb
   rw [if_neg (by rw [hKn b hb']; simp), if_neg (λ hm => by have := hvn b hm; omega)]
 . cases hcc : s.fr.cur with
   | none => simp [Qu]
   | reg ops k rest => simp [Qu]
   | draw ops done rest pa => rw [hcc] at hcur; cases hcur
end Go.Ax
namespace Go.Ax
open Go.RowKit
noncomputable def eqO (x : Option Bool) (v : Bool) : Bool :=
 match x with
 | some r => r == v
 | none => false
noncomputable def Qdt (U : Sb) (vs : List Nat) (c : Ctx) : List Fact -> Bool
 | [] => true
 | f :: l => Q5m f.op && (eqO (E.cmp c f.op (f.a.sub U) (f.b.sub U)) f.val && (f.a.okB vs && (f.b.okB vs && Qdt U vs c l)))
theorem qG {U : Sb} {vs : List Nat} {K : Nat -> Bool} {X X' : Ext} {c : Ctx} (hC : Cast U vs K X X') (hc : c.okN X.dom X.O) : ∀ {fs : List Fact}, Qdt U vs c fs = true -> (⟨fs, vs⟩ : Ctx).okN X'.dom X'.O
 | [], _ => ⟨λ i hi => (hC.letters i hi).1, λ f hf => (by cases hf)⟩
 | f :: l, h => by
  simp only [Qdt, Bool.and_eq_true] at h
  obtain ⟨h1, h2, h3, h4, h5⟩ := h
  refine ⟨λ i hi => (hC.letters i hi).1, λ g hg => ?_⟩
  rcases List.mem_cons.1 hg with rfl | hg
  . have ha : g.a.ok (. ∈ vs) := E.Q7l h3 λ i hi => hi
    have hb : g.b.ok (. ∈ vs) := E.Q7l h4 λ i hi => hi
    have hcmp : E.cmp c g.op (g.a.sub U) (g.b.sub U) = some g.val := by
     unfold eqO at h2
     split at h2
     . rename_i r hr
       have : r = g.val := by simpa using h2
       rw [hr, this]
     . cases h2
    have := E.Qb h1 hcmp hc
    rw [Zc hC ha, Zc hC hb] at this
    exact ⟨this, E.Qi (λ i hi => (hC.letters i hi).1) ha, E.Qi (λ i hi => (hC.letters i hi).1) hb⟩
  . exact (qG hC hc h5).2 g hg
def Z5 (ng : Nat) (keep : List Nat) (b : Nat) : Bool := Nat.blt b ng || keep.any (Nat.beq b)
def Qdf {α : Type} : List α -> Bool
 | [] => true
 | _ => false
def Qko {α : Type} : Option α -> Bool
 | none => true
 | _ => false
structure St where
 fn : Nat
 nt : Nat
 cur : Q8k
 todo : List Qw
 tms : List AV
 l : List (Nat × Q7)
 next : Nat
 fs : List Fact
 vs : List Nat
noncomputable def St.am (t : St) (room : Nat) : AM := ⟨⟨t.fn, t.nt, setArgs 0 t.tms (.sk t.nt), t.cur, t.todo, [], false, none⟩, [], Qas room t.l, t.next, ⟨t.fs, t.vs⟩⟩
section
variable {P : Program} {G : Env} {n0 : Nat} {w0 : World} {cs0 : List Frame}
def ZF (P : Program) (n0 : Nat) (w0 : World) (cs0 : List Frame) (f : FuncId) (m : Machine) : Prop :=
 ∃ fr w, Steps P m (lone fr cs0 w) /\ Below n0 w0 w /\ fr.fn = f /\ fr.leaving P w (.returned (.bool true))
theorem ZF.of_steps {f : FuncId} {m m' : Machine} (h : Steps P m m') (e : ZF P n0 w0 cs0 f m') : ZF P n0 w0 cs0 f m := by
 obtain ⟨fr, w, a, b⟩ := e
 exact ⟨fr, w, h.trans a, b⟩
theorem ZF.Qjm (hT : G.T.OK P) (hI : JB.OK P G.I) (hS : Yq P G n0) {spec : Spec} (hsp : Yr G spec) {n k d : Nat} {f : FuncId} {X : Ext} {s : AM} {m : Machine} (he : Yl spec G n f (λ c v => (Sp.lit true).chk c v) k d [] s = true) (h : Sim P G n0 w0 cs0 X s m) : ZF P n0 w0 cs0 f m := by
 rw [Jp] at he
 obtain ⟨Y, fr, w, c, v, u, a1, a2, a3, a4, a5, a6, a7, a8⟩ := ZC hT hI hS hsp d he h
 have hu := Sp.zA a3 a4 a5
 simp only [Sp.has] at hu
 subst hu
 exact ⟨fr, w, a1, a6, a7, a8⟩
end
end Go.Ax
namespace Go.Ax
open Go.RowKit
section
variable {P : Program} {G : Env} {n0 : Nat} {w0 : World} {cs0 : List Frame}
end
end Go.Ax
namespace Go.Ax
open Go.RowKit
noncomputable def someB {α : Type} : Option α -> Bool
 | some _ => true
 | none => false
section
variable {P : Program} {G : Env}
variable {n0 : Nat} {w0 : World} {cs0 : List Frame}
end
end Go.Ax
