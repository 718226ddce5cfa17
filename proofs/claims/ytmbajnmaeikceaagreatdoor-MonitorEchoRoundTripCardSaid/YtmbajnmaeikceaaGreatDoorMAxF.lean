/-
 THE ABSTRACT EXECUTOR, 52: a state seen as another one, in which numbers are letters and what is not needed is forgotten. Conditions: none.
-/
import Derived.Test.YtmbajnmaeikceaaGreatDoorMAxE
namespace Go.Ax
open Go.RowKit
abbrev Sb := List (Nat × E)
def Sb.at (U : Sb) (i : Nat) : E :=
 match U with
 | [] => .var i
 | p :: U => bif Nat.beq p.1 i then p.2 else Sb.at U i
noncomputable def addS (k : IntKind) (a b : E) : E :=
 match k, a, b with
 | .i64, .lit p, .lit q => yw (ZY .i64 (p + q)) λ n => .lit n
 | k, a, b => E.addN k a b
theorem Qi5 {k : IntKind} {a b : E} {O : Val} : (addS k a b).den O = Zk .add k (a.den O) (b.den O) := by
 unfold addS
 split
 . simp only [sInt_eq, E.den, Zk, wrapK_eq]
 . exact E.Qay
noncomputable def binS (op : BinOp) (k : IntKind) (a b : E) : E :=
 match op with
 | .add => addS k a b
 | .sub => E.Ql2 k a b
 | op => .bin op k a b
theorem Qi2 {op : BinOp} {k : IntKind} {a b : E} {O : Val} : (binS op k a b).den O = Zk op k (a.den O) (b.den O) := by
 unfold binS
 split
 . exact Qi5
 . exact E.Q9m
 . rfl
noncomputable def E.sub (U : Sb) : E -> E
 | .lit n => .lit n
 | .var i => U.at i
 | .len i => .len i
 | .byte i a => .byte i (a.sub U)
 | .bin op k a b => binS op k (a.sub U) (b.sub U)
 | .cnv k a => .cnv k (a.sub U)
 | .pk n a => .pk n (a.sub U)
 | .cons a t => .cons (a.sub U) (t.sub U)
 | .tv i lo hi t => .tv i (lo.sub U) (hi.sub U) (t.sub U)
 | .fn k t => .fn k (t.sub U)
 | .mn a b => .mn (a.sub U) (b.sub U)
structure Cast (U : Sb) (vs : List Nat) (K : Nat -> Bool) (X X' : Ext) : Prop where
 letters : ∀ i ∈ vs, X'.dom i /\ X'.O.int i = (U.at i).den X.O /\ X'.O.str i = X.O.str i
 kept : ∀ b, K b = true -> X'.V b = X.V b
theorem E.Q8f {vs : List Nat} : ∀ {e : E} {n : Nat -> Prop}, e.okB vs = true -> (∀ i ∈ vs, n i) -> e.ok n := λ {_ _} h hn => E.ZG hn h
theorem Zh {U : Sb} {vs : List Nat} {K : Nat -> Bool} {X X' : Ext} (hc : Cast U vs K X X') : ∀ {e : E}, e.ok (. ∈ vs) -> (e.sub U).den X.O = e.den X'.O
 | .lit _, _ => rfl
 | .var i, h => (hc.letters i h).2.1.symm
 | .len i, h => by simp only [E.sub, E.den, (hc.letters i h).2.2]
 | .byte i a, h => by simp only [E.sub, E.den, (hc.letters i h.1).2.2, Zh hc h.2]
 | .bin _ _ a b, h => by simp only [E.sub, E.den, Qi2, Zh hc h.1, Zh hc h.2]
 | .cnv _ a, h => by simp only [E.sub, E.den, Zh (e := a) hc h]
 | .pk _ a, h => by simp only [E.sub, E.den, Zh (e := a) hc h]
 | .cons _ _, h => by simp only [E.sub, E.den, Zh hc h.1, Zh hc h.2]
 | .tv i _ _ _, h => by simp only [E.sub, E.den, (hc.letters i h.1).2.2, Zh hc h.2.1, Zh hc h.2.2.1, Zh hc h.2.2.2]
 | .fn _ t, h => by simp only [E.sub, E.den, Zh (e := t) hc h]
 | .mn _ _, h => by simp only [E.sub, E.den, Zh hc h.1, Zh hc h.2]
noncomputable def E.yJ (U : Sb) : E -> E
 | .lit n => .lit n
 | .var i => U.at i
 | .len i => .len i
 | .byte i a => .byte i (a.yJ U)
 | .bin op k a b => .bin op k (a.yJ U) (b.yJ U)
 | .cnv k a => .cnv k (a.yJ U)
 | .pk n a => .pk n (a.yJ U)
 | .cons a t => .cons (a.yJ U) (t.yJ U)
 | .tv i lo hi t => .tv i (lo.yJ U) (hi.yJ U) (t.yJ U)
 | .fn k t => .fn k (t.yJ U)
 | .mn a b => .mn (a.yJ U) (b.yJ U)
theorem Z0 {U : Sb} {vs : List Nat} {K : Nat -> Bool} {X X' : Ext} (hc : Cast U vs K X X') : ∀ {e : E}, e.ok (. ∈ vs) -> (e.yJ U).den X.O = e.den X'.O
 | .lit _, _ => rfl
 | .var i, h => (hc.letters i h).2.1.symm
 | .len i, h => by simp only [E.yJ, E.den, (hc.letters i h).2.2]
 | .byte i a, h => by simp only [E.yJ, E.den, (hc.letters i h.1).2.2, Z0 hc h.2]
 | .bin _ _ a b, h => by simp only [E.yJ, E.den, Z0 hc h.1, Z0 hc h.2]
 | .cnv _ a, h => by simp only [E.yJ, E.den, Z0 (e := a) hc h]
 | .pk _ a, h => by simp only [E.yJ, E.den, Z0 (e := a) hc h]
 | .cons _ _, h => by simp only [E.yJ, E.den, Z0 hc h.1, Z0 hc h.2]
 | .tv i _ _ _, h => by simp only [E.yJ, E.den, (hc.letters i h.1).2.2, Z0 hc h.2.1, Z0 hc h.2.2.1, Z0 hc h.2.2.2]
 | .fn _ t, h => by simp only [E.yJ, E.den, Z0 (e := t) hc h]
 | .mn _ _, h => by simp only [E.yJ, E.den, Z0 hc h.1, Z0 hc h.2]
noncomputable def Qhs (U : Sb) (vs : List Nat) (e e' : E) : Bool := (e.same (e'.sub U) || e.same (e'.yJ U)) && e'.okB vs
theorem ZO {U : Sb} {vs : List Nat} {K : Nat -> Bool} {X X' : Ext} (hc : Cast U vs K X X') {e e' : E} (h : Qhs U vs e e' = true) : e'.ok X'.dom /\ e.den X.O = e'.den X'.O := by
 simp only [Qhs, Bool.and_eq_true, Bool.or_eq_true] at h
 have hok : e'.ok (. ∈ vs) := E.Q8f h.2 λ i hi => hi
 refine ⟨E.Ql (λ i hi => (hc.letters i hi).1) hok, ?_⟩
 rcases h.1 with h1 | h1
 . rw [E.Q5 h1, Zh hc hok]
 . rw [E.Q5 h1, Z0 hc hok]
noncomputable def Qlb (U : Sb) (vs : List Nat) : List E -> List E -> Bool
 | [], [] => true
 | e :: l, e' :: l' => Qhs U vs e e' && Qlb U vs l l'
 | _, _ => false
theorem Q2z {U : Sb} {vs : List Nat} {K : Nat -> Bool} {X X' : Ext} (hc : Cast U vs K X X') : ∀ {l l' : List E}, Qlb U vs l l' = true -> S.okN X.dom X.O l -> S.okN X'.dom X'.O l' /\ S.bytes X'.O l' = S.bytes X.O l
 | [], [], _, _ => ⟨λ t ht => (by cases ht), rfl⟩
 | [], _ :: _, h, _ => by simp [Qlb] at h
 | _ :: _, [], h, _ => by simp [Qlb] at h
 | e :: l, e' :: l', h, hl => by
  simp only [Qlb, Bool.and_eq_true] at h
  obtain ⟨h1, h2⟩ := ZO hc h.1
  obtain ⟨h3, h4⟩ := Q2z hc h.2 λ t ht => hl t (by simp [ht])
  have hb := hl e (by simp)
  refine ⟨λ t ht => ?_, ?_⟩
  . rcases List.mem_cons.1 ht with rfl | ht
    . exact ⟨h1, by rw [<- h2]; exact hb.2⟩
    . exact h3 t ht
  . simp only [S.bytes, List.map_cons] at h4 ⊢
    rw [h2, h4]
noncomputable def Qlc (U : Sb) (vs : List Nat) : List E -> List E -> Bool
 | [], [] => true
 | e :: l, e' :: l' => Qhs U vs e e' && Qlc U vs l l'
 | _, _ => false
theorem Q32 {U : Sb} {vs : List Nat} {K : Nat -> Bool} {X X' : Ext} (hc : Cast U vs K X X') : ∀ {l l' : List E}, Qlc U vs l l' = true -> (∀ t ∈ l', t.ok X'.dom) /\ S.bytes X.O l = S.bytes X'.O l' /\ l.length = l'.length
 | [], [], _ => ⟨λ t ht => (by cases ht), rfl, rfl⟩
 | [], _ :: _, h => by simp [Qlc] at h
 | _ :: _, [], h => by simp [Qlc] at h
 | e :: l, e' :: l', h => by
  simp only [Qlc, Bool.and_eq_true] at h
  obtain ⟨h1, h2⟩ := ZO hc h.1
  obtain ⟨h3, h4, h5⟩ := Q32 hc h.2
  refine ⟨λ t ht => ?_, ?_, by simp [h5]⟩
  . rcases List.mem_cons.1 ht with rfl | ht
    . exact h1
    . exact h3 t ht
  . simp only [S.bytes, List.map_cons] at h4 ⊢
    rw [h2, h4]
noncomputable def Qhq (U : Sb) (vs : List Nat) : ST -> ST -> Bool
 | .var i, .var j => Nat.beq i j && vs.any (Nat.beq j)
 | .bs l, .bs m => Qlc U vs l m
 | .cat a b, .cat c d => Qhq U vs a c && Qhq U vs b d
 | .sub a l h, .sub b l' h' => Qhq U vs a b && (Qhs U vs l l' && Qhs U vs h h')
 | _, _ => false
theorem JX {U : Sb} {vs : List Nat} {K : Nat -> Bool} {X X' : Ext} (hc : Cast U vs K X X') : ∀ {s t : ST}, Qhq U vs s t = true -> t.ok X'.dom /\ s.den X.O = t.den X'.O /\ s.len.den X.O = t.len.den X'.O
 | .var i, t, h => by
  cases t <;> simp only [Qhq, Bool.false_eq_true, Bool.and_eq_true, Nat.beq_eq] at h
  obtain ⟨rfl, h2⟩ := h
  obtain ⟨g1, -, g3⟩ := hc.letters i (any_beq h2)
  exact ⟨g1, g3.symm, by simp only [ST.len, E.den, g3]⟩
 | .bs l, t, h => by
  cases t <;> simp only [Qhq, Bool.false_eq_true] at h
  obtain ⟨g1, g2, g3⟩ := Q32 hc h
  exact ⟨g1, g2, by simp only [ST.len, E.den, g3]⟩
 | .cat a b, t, h => by
  cases t <;> simp only [Qhq, Bool.false_eq_true, Bool.and_eq_true] at h
  obtain ⟨a1, a2, a3⟩ := JX hc h.1
  obtain ⟨b1, b2, b3⟩ := JX hc h.2
  exact ⟨⟨a1, b1⟩, by simp only [ST.den, a2, b2], by simp only [ST.len, E.den, a3, b3]⟩
 | .sub a l u, t, h => by
  cases t <;> simp only [Qhq, Bool.false_eq_true, Bool.and_eq_true] at h
  obtain ⟨a1, a2, a3⟩ := JX hc h.1
  obtain ⟨b1, b2⟩ := ZO hc h.2.1
  obtain ⟨c1, c2⟩ := ZO hc h.2.2
  exact ⟨⟨a1, b1, c1⟩, by simp only [ST.den, a2, b2, c2], by simp only [ST.len, E.den, b2, c2]⟩
def anyA : AV -> Bool
 | .agg _ | .tuple _ | .bool _ | .nilIface | .top => false
 | _ => true
theorem QD {X X' : Ext} {a : AV} {v : Value} (h : anyA a = true) (r : a.rel X v) : AV.any.rel X' v := by
 suffices Qiw v = true by simpa only [AV.rel] using this
 cases a <;> simp only [AV.rel, anyA, Bool.false_eq_true] at h r <;>
  first
   | (subst r; rfl)
   | exact r
   | (obtain ⟨_, rfl⟩ := r; rfl)
   | (obtain ⟨_, _, rfl⟩ := r; rfl)
   | (obtain ⟨_, _, _, _, rfl | ⟨rfl, _⟩, _⟩ := r <;> rfl)
   | (obtain ⟨_, _, _, _, rfl, _⟩ := r; rfl)
   | (obtain ⟨_, _, rfl, _⟩ := r; rfl)
   | (obtain ⟨_, rfl, _⟩ := r; rfl)
   | (obtain ⟨_, _, _, _, rfl | ⟨rfl, _⟩, _⟩ := r <;> rfl)
   | (obtain ⟨_, _, _, _, rfl, _⟩ := r; rfl)
def topA : AV -> Bool
 | .agg _ => false
 | _ => true
theorem Q7x {v : Value} (h : Qiw v = true) : vtop v = true := by cases v <;> first | rfl | cases h
theorem Qx {X X' : Ext} {a : AV} {v : Value} (h : topA a = true) (r : a.rel X v) : AV.top.rel X' v := by
 suffices vtop v = true by simpa only [AV.rel] using this
 cases a <;> simp only [AV.rel, topA, Bool.false_eq_true] at h r <;>
  first
   | (subst r; rfl)
   | exact Q7x r
   | exact r
   | (obtain ⟨_, rfl⟩ := r; rfl)
   | (obtain ⟨_, _, rfl⟩ := r; rfl)
   | (obtain ⟨_, _, _, _, rfl | ⟨rfl, _⟩, _⟩ := r <;> rfl)
   | (obtain ⟨_, _, _, _, rfl, _⟩ := r; rfl)
   | (obtain ⟨_, _, rfl, _⟩ := r; rfl)
   | (obtain ⟨_, rfl, _⟩ := r; rfl)
   | (obtain ⟨_, _, _, _, rfl | ⟨rfl, _⟩, _⟩ := r <;> rfl)
   | (obtain ⟨_, _, _, _, rfl, _⟩ := r; rfl)
mutual
noncomputable def YS (U : Sb) (vs : List Nat) (K : Nat -> Bool) : AV -> AV -> Bool
 | .bool a, .bool b => a == b
 | .int j e, .int k e' => Nat.beq (kN j) (kN k) && Qhs U vs e e'
 | .str l, .str l' => Qlb U vs l l'
 | .sstr s, .sstr t => Qhq U vs s t
 | .ptr b o, .ptr b' o' => Nat.beq b b' && (Nat.beq o o' && K b)
 | .nilptr, .nilptr => true
 | .slice b o n c s x, .slice b' o' n' c' s' x' => Nat.beq b b' && (Nat.beq o o' && (Nat.beq n n' && (Nat.beq c c' && (Nat.beq s s' && (x == x' && K b)))))
 | .nilslice, .nilslice => true
 | .map r, .map r' => Nat.beq r r' && K r
 | .nilmap, .nilmap => true
 | .func f a c, .func f' a' c' => Nat.beq f f' && (jB U vs K a a' && jB U vs K c c')
 | .nilFunc, .nilFunc => true
 | .iface t a, .iface t' a' => Nat.beq t t' && YS U vs K a a'
 | .nilIface, .nilIface => true
 | .agg l, .agg l' => jB U vs K l l'
 | .tuple l, .tuple l' => jB U vs K l l'
 | .wslice b o n s l, .wslice b' o' n' s' l' => Nat.beq b b' && (Nat.beq o o' && (Nat.beq n n' && (Nat.beq s s' && (K b && (Qhs U vs (.var l) (.var l'))))))
 | a, .any => anyA a
 | a, .top => topA a
 | _, _ => false
noncomputable def jB (U : Sb) (vs : List Nat) (K : Nat -> Bool) : List AV -> List AV -> Bool
 | [], [] => true
 | a :: l, a' :: l' => YS U vs K a a' && jB U vs K l l'
 | _, _ => false
end
section
variable {U : Sb} {vs : List Nat} {K : Nat -> Bool} {X X' : Ext}
mutual
theorem Qn (hc : Cast U vs K X X') : ∀ {a a' : AV} {v : Value}, YS U vs K a a' = true -> a.rel X v -> a'.rel X' v
 | .bool a, a', v, h, r => by cases a' <;> simp only [YS, Bool.false_eq_true, beq_iff_eq] at h <;> (try exact QD h r) <;> (try exact Qx h r); subst h; simpa only [AV.rel] using r
 | .int j e, a', v, h, r => by
  cases a' <;> simp only [YS, Bool.false_eq_true, Bool.and_eq_true] at h <;> (try exact QD h r) <;> (try exact Qx h r)
  obtain ⟨h1, h2⟩ := ZO hc h.2
  simp only [AV.rel] at r ⊢
  rw [<- Q0r h.1, <- h2]
  exact ⟨h1, r.2⟩
 | .str l, a', v, h, r => by
  cases a' <;> simp only [YS, Bool.false_eq_true] at h <;> (try exact QD h r) <;> (try exact Qx h r)
  simp only [AV.rel] at r ⊢
  obtain ⟨h1, h2⟩ := Q2z hc h r.1
  rw [h2]
  exact ⟨h1, r.2⟩
 | .sstr s, a', v, h, r => by
  cases a' <;> simp only [YS, Bool.false_eq_true] at h <;> (try exact QD h r) <;> (try exact Qx h r)
  simp only [AV.rel] at r ⊢
  obtain ⟨h1, h2, h3⟩ := JX hc h
  refine ⟨h1, ?_, by rw [<- h2]; exact r.2.2⟩
  have := r.2.1
  unfold ST.fit at this ⊢
  rw [<- h2, <- h3]
  exact this
 | .ptr b o, a', v, h, r => by
  cases a' <;> simp only [YS, Bool.false_eq_true, Bool.and_eq_true, Nat.beq_eq] at h <;> (try exact QD h r) <;> (try exact Qx h r)
  obtain ⟨rfl, rfl, hk⟩ := h
  simp only [AV.rel] at r ⊢
  rw [hc.kept _ hk]
  exact r
 | .nilptr, a', v, h, r => by cases a' <;> simp only [YS, Bool.false_eq_true] at h <;> (try exact QD h r) <;> (try exact Qx h r); simpa only [AV.rel] using r
 | .slice b o n c s x, a', v, h, r => by
  cases a' <;> simp only [YS, Bool.false_eq_true, Bool.and_eq_true, Nat.beq_eq, beq_iff_eq] at h <;> (try exact QD h r) <;> (try exact Qx h r)
  obtain ⟨rfl, rfl, rfl, rfl, rfl, rfl, hk⟩ := h
  simp only [AV.rel] at r ⊢
  rw [hc.kept _ hk]
  exact r
 | .nilslice, a', v, h, r => by cases a' <;> simp only [YS, Bool.false_eq_true] at h <;> (try exact QD h r) <;> (try exact Qx h r); simpa only [AV.rel] using r
 | .wslice b o n s l, a', v, h, r => by
  cases a' <;> simp only [YS, Bool.false_eq_true, Bool.and_eq_true, Nat.beq_eq] at h <;> (try exact QD h r) <;> (try exact Qx h r)
  obtain ⟨rfl, rfl, rfl, rfl, hk, hl⟩ := h
  simp only [AV.rel] at r ⊢
  rw [hc.kept _ hk]
  obtain ⟨p, len, c, h1, h2, h3, h4, h5, h6, h7⟩ := r
  obtain ⟨k1, k2⟩ := ZO hc hl
  exact ⟨p, len, c, h1, h2, h3, h4, h5, k1, k2.symm.trans h7⟩
 | .map q, a', v, h, r => by
  cases a' <;> simp only [YS, Bool.false_eq_true, Bool.and_eq_true, Nat.beq_eq] at h <;> (try exact QD h r) <;> (try exact Qx h r)
  obtain ⟨rfl, hk⟩ := h
  simp only [AV.rel] at r ⊢
  rw [hc.kept _ hk]
  exact r
 | .nilmap, a', v, h, r => by cases a' <;> simp only [YS, Bool.false_eq_true] at h <;> (try exact QD h r) <;> (try exact Qx h r); simpa only [AV.rel] using r
 | .func f a c, a', v, h, r => by
  cases a' <;> simp only [YS, Bool.false_eq_true, Bool.and_eq_true, Nat.beq_eq] at h <;> (try exact QD h r) <;> (try exact Qx h r)
  obtain ⟨rfl, h1, h2⟩ := h
  simp only [AV.rel] at r ⊢
  obtain ⟨x, y, e, r1, r2⟩ := r
  exact ⟨x, y, e, QS hc h1 r1, QS hc h2 r2⟩
 | .yield l, a', v, h, r => by cases a' <;> simp [YS] at h <;> (try exact QD h r) <;> (try exact Qx h r)
 | .nilFunc, a', v, h, r => by cases a' <;> simp only [YS, Bool.false_eq_true] at h <;> (try exact QD h r) <;> (try exact Qx h r); simpa only [AV.rel] using r
 | .iface t a, a', v, h, r => by
  cases a' <;> simp only [YS, Bool.false_eq_true, Bool.and_eq_true, Nat.beq_eq] at h <;> (try exact QD h r) <;> (try exact Qx h r)
  obtain ⟨rfl, h1⟩ := h
  simp only [AV.rel] at r ⊢
  obtain ⟨u, e, r1⟩ := r
  exact ⟨u, e, Qn hc h1 r1⟩
 | .nilIface, a', v, h, r => by cases a' <;> simp only [YS, Bool.false_eq_true] at h <;> (try exact QD h r) <;> (try exact Qx h r); simpa only [AV.rel] using r
 | .agg l, a', v, h, r => by
  cases a' <;> simp only [YS, Bool.false_eq_true] at h <;> (try exact QD h r) <;> (try exact Qx h r)
  simp only [AV.rel] at r ⊢
  obtain ⟨u, e, r1⟩ := r
  exact ⟨u, e, QS hc h r1⟩
 | .tuple l, a', v, h, r => by
  cases a' <;> simp only [YS, Bool.false_eq_true] at h <;> (try exact QD h r) <;> (try exact Qx h r)
  simp only [AV.rel] at r ⊢
  obtain ⟨u, e, r1⟩ := r
  exact ⟨u, e, QS hc h r1⟩
 | .any, a', v, h, r => by cases a' <;> simp only [YS, Bool.false_eq_true] at h <;> first | exact QD h r | exact Qx h r
 | .top, a', v, h, r => by cases a' <;> simp only [YS, Bool.false_eq_true] at h <;> first | exact Qx h r | cases h
theorem QS (hc : Cast U vs K X X') : ∀ {l l' : List AV} {us : List Value}, jB U vs K l l' = true -> AV.QI X l us -> AV.QI X' l' us
 | [], l', us, h, r => by cases l' <;> simp only [jB, Bool.false_eq_true] at h; rw [rels_nil] at r ⊢; exact r
 | a :: l, l', us, h, r => by
  cases l' <;> simp only [jB, Bool.false_eq_true, Bool.and_eq_true] at h
  obtain ⟨v, us', rfl, r1, r2⟩ := Q8.1 r
  rw [rels_cons_cons]
  exact ⟨Qn hc h.1 r1, QS hc h.2 r2⟩
end
noncomputable def Qni (U : Sb) (vs : List Nat) (K : Nat -> Bool) : List (AV × AV × Nat) -> List (AV × AV × Nat) -> Bool
 | [], [] => true
 | a :: l, b :: l' => YS U vs K a.1 b.1 && (YS U vs K a.2.1 b.2.1 && (Nat.beq a.2.2 b.2.2 && Qni U vs K l l'))
 | _, _ => false
theorem Q31 (hc : Cast U vs K X X') : ∀ {l l' : List (AV × AV × Nat)} {es : List MapEntry}, Qni U vs K l l' = true -> Q9 X l es -> Q9 X' l' es
 | [], l', es, h, r => by cases l' <;> simp only [Qni, Bool.false_eq_true] at h; exact r
 | a :: l, l', es, h, r => by
  cases l' <;> simp only [Qni, Bool.false_eq_true, Bool.and_eq_true, Nat.beq_eq] at h
  obtain ⟨e, es', rfl, r1, r2, r3, r4⟩ := r
  exact ⟨e, es', rfl, Qn hc h.1 r1, Qn hc h.2.1 r2, by rw [r3, h.2.2.1], Q31 hc h.2.2.2 r4⟩
noncomputable def Qnh (U : Sb) (vs : List Nat) (K : Nat -> Bool) : List (AV × AV) -> List (AV × AV) -> Bool
 | [], [] => true
 | a :: l, b :: l' => YS U vs K a.1 b.1 && (YS U vs K a.2 b.2 && Qnh U vs K l l')
 | _, _ => false
theorem Q30 (hc : Cast U vs K X X') : ∀ {l l' : List (AV × AV)} {es : List MapEntry}, Qnh U vs K l l' = true -> ZQ X l es -> ZQ X' l' es
 | [], l', es, h, r => by cases l' <;> simp only [Qnh, Bool.false_eq_true] at h; exact r
 | a :: l, l', es, h, r => by
  cases l' <;> simp only [Qnh, Bool.false_eq_true, Bool.and_eq_true] at h
  obtain ⟨e, es', rfl, r1, r2, r4⟩ := r
  exact ⟨e, es', rfl, Qn hc h.1 r1, Qn hc h.2.1 r2, Q30 hc h.2.2 r4⟩
noncomputable def Qir (U : Sb) (vs : List Nat) (K : Nat -> Bool) : Q6 -> Q6 -> Bool
 | .cells cs el ex pl ro, .cells cs' el' ex' pl' ro' => Nat.beq el el' && (ex == ex' && (pl == pl' && (ro == ro' && jB U vs K cs cs')))
 | .map es c, .map es' c' => Nat.beq c c' && Qni U vs K es es'
 | .lmap es, .lmap es' => Qnh U vs K es es'
 | .pre s n el, .pre s' n' el' => Nat.beq n n' && (Nat.beq el el' && YS U vs K (.sstr s) (.sstr s'))
 | _, _ => false
theorem Q19 {l l' : List AV} (h : jB U vs K l l' = true) : l'.length = l.length := by
 induction l generalizing l' with
 | nil => cases l' <;> simp [jB] at h; rfl
 | cons a l ih =>
  cases l' with
  | nil => simp [jB] at h
  | cons a' l' => simp only [jB, Bool.and_eq_true] at h; simp [ih h.2]
theorem Qhr {l l' : List AV} (h : jB U vs K l l' = true) {i : Nat} {a' : AV} (e : l'[i]? = some a') : ∃ a, l[i]? = some a /\ YS U vs K a a' = true := by
 induction l generalizing l' i with
 | nil => cases l' <;> simp [jB] at h; simp at e
 | cons a l ih =>
  cases l' with
  | nil => simp [jB] at h
  | cons b l' =>
   simp only [jB, Bool.and_eq_true] at h
   cases i with
   | zero => simp at e; subst e; exact ⟨a, rfl, h.1⟩
   | succ i => simpa using ih h.2 (by simpa using e)
theorem JY (hc : Cast U vs K X X') {o o' : Q6} {p : Place} {ob : Option Obj} (h : Qir U vs K o o' = true) (r : zX X o p ob) : zX X' o' p ob /\ o'.live = o.live /\ o'.rw = o.rw := by
 cases o <;> cases o' <;> simp only [Qir, Bool.false_eq_true, Bool.and_eq_true, Nat.beq_eq, beq_iff_eq] at h
 . obtain ⟨rfl, rfl, rfl, rfl, h⟩ := h
   obtain ⟨c, fr, h1, h2, h3, h4, h5, h6⟩ := r
   refine ⟨⟨c, fr, h1, h2, by rw [Q19 h]; exact h3, by rw [Q19 h]; exact h4, λ i a hi => ?_, h6⟩, rfl, rfl⟩
   obtain ⟨b, hb, hr⟩ := Qhr h hi
   obtain ⟨v, hv, r1⟩ := h5 i b hb
   exact ⟨v, hv, Qn hc hr r1⟩
 . obtain ⟨rfl, h⟩ := h
   obtain ⟨es', h1, h2⟩ := r
   exact ⟨⟨es', h1, Q31 hc h h2⟩, rfl, rfl⟩
 . obtain ⟨es', cl, l, h1, h2, h3⟩ := r
   exact ⟨⟨es', cl, l, h1, Q30 hc h h2, h3⟩, rfl, rfl⟩
 . rename_i s n el s' n' el'
   obtain ⟨rfl, rfl, h⟩ := h
   obtain ⟨h1, h2, h3, h4, h5, c, h6, h7, h8⟩ := r
   have hs := Qn hc h (show (AV.sstr s).rel X (.string ⟨(s.den X.O).toArray⟩) by simp only [AV.rel]; exact ⟨h1, h2, trivial⟩)
   simp only [AV.rel] at hs
   obtain ⟨k1, k2, k3⟩ := hs
   have e : s.den X.O = s'.den X'.O := by simpa using k3
   exact ⟨⟨k1, k2, h3, h4, by rw [<- e]; exact h5, c, h6, h7, by rw [<- e]; exact h8⟩, rfl, rfl⟩
theorem Q6w {o o' : Q6} (h : Qir U vs K o o' = true) : o'.Q56 = o.Q56 := by
 cases o <;> cases o' <;> simp only [Qir, Bool.false_eq_true, Bool.and_eq_true, Nat.beq_eq, beq_iff_eq] at h
 . obtain ⟨-, -, rfl, rfl, -⟩ := h; rfl
 all_goals rfl
end
end Go.Ax
namespace Go.Ax
open Go.RowKit
noncomputable def Q55 (n : Nat) : List (Nat × Q6) -> Tr Q6
 | [] => .sk n
 | e :: l => (Q55 n l).set e.1 e.2
theorem JQ {n : Nat} : ∀ {l : List (Nat × Q6)} {b : Nat} {o : Q6}, (Q55 n l).get b = some o -> (b, o) ∈ l
 | [], b, o, h => by simp [Q55] at h
 | e :: l, b, o, h => by
  simp only [Q55] at h
  rw [Tr.Zq] at h
  by_cases hb : b = e.1
  . subst hb
    simp at h
    subst h
    simp
  . rw [if_neg hb] at h
    exact List.mem_cons_of_mem _ (JQ h)
noncomputable def Qnj (U : Sb) (vs : List Nat) (K : Nat -> Bool) (x : Option Q6) (o' : Q6) : Bool :=
 match x with
 | some o => Qir U vs K o o'
 | none => false
noncomputable def Qis (U : Sb) (vs : List Nat) (K : Nat -> Bool) (H : Tr Q6) : List (Nat × Q6) -> Bool
 | [] => true
 | e :: l => K e.1 && (Qnj U vs K (H.get e.1) e.2 && Qis U vs K H l)
theorem Qaq {U : Sb} {vs : List Nat} {K : Nat -> Bool} {H : Tr Q6} : ∀ {l : List (Nat × Q6)}, Qis U vs K H l = true -> ∀ e ∈ l, K e.1 = true /\ ∃ o, H.get e.1 = some o /\ Qir U vs K o e.2 = true
 | [], _, e, he => by cases he
 | a :: l, h, e, he => by
  simp only [Qis, Bool.and_eq_true] at h
  rcases List.mem_cons.1 he with rfl | he
  . refine ⟨h.1, ?_⟩
    have h2 := h.2.1
    unfold Qnj at h2
    split at h2
    . rename_i o ho; exact ⟨o, ho, h2⟩
    . cases h2
  . exact Qaq h.2.2 e he
theorem Qo.Y4 {X X' : Ext} {n0 : Nat} {H : Tr Q6} {w : World} {U : Sb} {vs : List Nat} {K : Nat -> Bool} {l : List (Nat × Q6)} {room : Nat} (h : Qo X n0 H w) (hc : Cast U vs K X X') (hlt : ∀ b p, X'.V b = some p -> p.blk < w.heap.size) (hk : Qis U vs K H l = true) : Qo X' n0 (Q55 room l) w := by
 have base : ∀ b o' p, (Q55 room l).get b = some o' -> X'.V b = some p -> X.V b = some p /\ ∃ o, H.get b = some o /\ Qir U vs K o o' = true := λ b o' p hb hp => by
  obtain ⟨k1, o, k2, k3⟩ := Qaq hk _ (JQ hb)
  exact ⟨by rw [<- hc.kept b k1]; exact hp, o, k2, k3⟩
 refine ⟨λ b o' p hb hp => ?_, λ b b' o1 o2 p p' hb hb' l1 l2 hp hp' e => ?_, hlt, λ b o' p hb hr hp => ?_⟩
 . obtain ⟨g1, o, g2, g3⟩ := base b o' p hb hp
   exact (JY hc g3 (h.obj b o p g2 g1)).1
 . obtain ⟨g1, o, g2, g3⟩ := base b o1 p hb hp
   obtain ⟨g4, q, g5, g6⟩ := base b' o2 p' hb' hp'
   have e1 := (JY hc g3 (h.obj b o p g2 g1)).2.1
   exact h.inj b b' o q p p' g2 g5 (by rw [<- e1]; exact l1) (by rw [<- Q6w g6]; exact l2) g1 g4 e
 . obtain ⟨g1, o, g2, g3⟩ := base b o' p hb hp
   have e1 := (JY hc g3 (h.obj b o p g2 g1)).2.2
   exact h.own b o p g2 (by rw [<- e1]; exact hr) g1
noncomputable def Q93 (U : Sb) (vs : List Nat) (K : Nat -> Bool) (tm : Tr AV) : Nat -> List AV -> Bool
 | _, [] => true
 | i, a :: l => YS U vs K ((tm.get i).getD .undef) a && QC (i + 1) λ j => Q93 U vs K tm j l
theorem Q6v {U : Sb} {vs : List Nat} {K : Nat -> Bool} {tm : Tr AV} : ∀ {l : List AV} {i t : Nat} {a : AV}, Q93 U vs K tm i l = true -> l[t]? = some a -> YS U vs K ((tm.get (i + t)).getD .undef) a = true
 | [], i, t, a, _, h => by simp at h
 | b :: l, i, t, a, h, e => by
  simp only [Q93, sNat_eq, Bool.and_eq_true] at h
  cases t with
  | zero => simp at e; subst e; simpa using h.1
  | succ t =>
   have := Q6v h.2 (t := t) (by simpa using e)
   rw [show i + (t + 1) = i + 1 + t by omega]
   exact this
theorem QB.Y4 {X X' : Ext} {U : Sb} {vs : List Nat} {K : Nat -> Bool} {nt : Nat} {tm : Tr AV} {tmps : Array Value} {l : List AV} (hc : Cast U vs K X X') (h : QB X nt tm tmps) (hk : Q93 U vs K tm 0 l = true) (hl : l.length = nt) : QB X' nt (setArgs 0 l (.sk nt)) tmps := by
 refine ⟨h.1, λ t => ?_⟩
 rw [J2 (X := X')]
 simp only [Nat.not_lt_zero, if_false, Nat.sub_zero]
 cases ht : l[t]? with
 | some a =>
  simp only [Option.getD_some]
  have := Q6v hk ht
  rw [Nat.zero_add] at this
  exact Qn hc this (h.2 t)
 | none =>
  have hge : nt <= t := by
   rw [<- hl]
   exact List.getElem?_eq_none_iff.1 ht
  have hu : tmps.getD t undef = undef := by
   have : tmps[t]? = none := Array.getElem?_eq_none_iff.2 (by rw [h.1]; exact hge)
   simp [Array.getD_eq_getD_getElem?, this]
  rw [hu]
  simp
  exact Qu X'
def Q2c : Qj -> Bool
 | .inRangeFunc _ | .endRangeFunc _ => false
 | _ => true
theorem ZJ {X X' : Ext} : ∀ {as : List Qj} {is : List Item}, as.all Q2c = true -> Y8 X as is -> Y8 X' as is
 | [], _, _, r => r
 | a :: as, is, h, ⟨i, is', e, h1, h2⟩ => by
  simp only [List.all_cons, Bool.and_eq_true] at h
  refine ⟨i, is', e, ?_, ZJ h.2 h2⟩
  cases a <;> simp only [Q2c, Bool.false_eq_true] at h <;> simp only [Qfy] at * <;> first | exact h1 | (exact h.1.elim)
def qp : zY -> Bool
 | .draw .. => false
 | _ => true
def QT (U : Sb) (vs : List Nat) (K : Nat -> Bool) (X : Ext) : Ext :=
 ⟨λ b => if K b = true then X.V b else if b ∈ vs then X.V 0 else none, ⟨λ i => if i ∈ vs then (U.at i).den X.O else 0, X.O.str⟩⟩
theorem Sim.Y4 {P : Program} {G : Env} {n0 : Nat} {w0 : World} {cs0 : List Frame} {X : Ext} {s : AM} {m : Machine} {U : Sb} {vs : List Nat} {K : Nat -> Bool} {tms : List AV} {l : List (Nat × Q6)} {room next' : Nat} {c' : Ctx} (h : Sim P G n0 w0 cs0 X s m)
 (hcs : s.cs = []) (hret : s.fr.ret = false) (hdef : s.fr.defers = []) (hro : s.fr.ro = none) (hcur : qp s.fr.cur = true) (htodo : s.fr.todo.all Q2c = true) (htm : Q93 U vs K s.fr.tm 0 tms = true) (hlen : tms.length = s.fr.nt) (hH : Qis U vs K s.H l = true)
 (hng : 0 < G.T.ng) (hKg : ∀ b, b < G.T.ng -> K b = true) (hKn : ∀ b, next' <= b -> K b = false) (hvn : ∀ i ∈ vs, i < next') (hvd : ∀ i ∈ vs, K i = true -> X.dom i)
 (hctx : c'.okN (QT U vs K X).dom (QT U vs K X).O) :
 Sim P G n0 w0 cs0 (QT U vs K X) ⟨⟨s.fr.fn, s.fr.nt, setArgs 0 tms (.sk s.fr.nt), s.fr.cur, s.fr.todo, [], false, none⟩, [], Q55 room l, next', c'⟩ m := by
 obtain ⟨fr, cs, w, rfl, hF, hall, hHr, hB, h0⟩ := h.ex
 obtain ⟨k0, hk0⟩ := h.Qt 0 hng
 have hc : Cast U vs K X (QT U vs K X) := by
  refine ⟨λ i hi => ⟨?_, by simp only [QT, if_pos hi], rfl⟩, λ b hb => by simp only [QT, if_pos hb]⟩
  by_cases hk : K i = true
  . obtain ⟨p, hp⟩ := hvd i hi hk
    exact ⟨p, by simp only [QT, if_pos hk, hp]⟩
  . exact ⟨_, by simp only [QT, if_neg hk, if_pos hi]; exact hk0⟩
 have hlt : ∀ b p, (QT U vs K X).V b = some p -> p.blk < w.heap.size := λ b p hp => by
  simp only [QT] at hp
  split at hp
  . exact hHr.lt b p hp
  . split at hp
    . exact hHr.lt 0 p hp
    . cases hp
 rw [hcs] at hall
 simp only [QU] at hall
 subst hall
 refine ⟨⟨fr, [], w, rfl, ?_, rfl, Qo.Y4 hHr hc hlt hH, hB, h0⟩, hctx, λ g hg => ?_, λ b hb => ?_, ?_⟩
 . obtain ⟨hb, h'⟩ := hF
   rw [hret] at h'
   refine ⟨⟨hb.fn, hb.kind, ?_, ?_⟩, ?_⟩
   . have := hb.ro
     rw [hro] at this
     exact this
   . have := hb.defers
     rw [hdef] at this
     exact this
   . obtain ⟨hm, is, his, hcur'⟩ := h'
     refine ⟨hm, is, ZJ htodo his, ?_⟩
     cases hcc : s.fr.cur with
     | none =>
      rw [hcc] at hcur'
      exact ⟨hcur'.1, QB.Y4 hc hcur'.2 htm hlen⟩
     | reg ops k rest =>
      rw [hcc] at hcur'
      exact ⟨hcur'.1, hcur'.2.1, QB.Y4 hc hcur'.2.2 htm hlen⟩
     | draw ops done rest pa => rw [hcc] at hcur; cases hcur
 . obtain ⟨n, hn⟩ := h.Qt g hg
   exact ⟨n, by simp only [QT, if_pos (hKg g hg)]; exact hn⟩
 . simp only [QT]
   have hb' : next' <= b := hb
   rw [if_neg (by rw [hKn b hb']; simp), if_neg (λ hm => by have := hvn b hm; omega)]
 . cases hcc : s.fr.cur with
   | none => simp [Qm]
   | reg ops k rest => simp [Qm]
   | draw ops done rest pa => rw [hcc] at hcur; cases hcur
noncomputable def Qk0 (spec : Spec) (G : Env) (n : Nat) (s : AM) : YH :=
 YH.rec (motive := λ _ => YH) (λ s => match s.cs with
  | [] => .stop s
  | _ => .go s) (λ s => .stop s) (leaf spec G n s)
noncomputable def runT (spec : Spec) (G : Env) (n : Nat) (k : Nat) : AM -> YH :=
 Nat.rec (motive := λ _ => AM -> YH) (λ s => Qk0 spec G n s)
  (λ _ ih s => YH.rec (motive := λ _ => YH) (λ s => ih s) (λ s => .stop s) (ih s)) k
theorem Qh5 {spec : Spec} {G : Env} (hs : ZH G spec) (n : Nat) (s : AM) : Z6 G s (Qk0 spec G n s).state := by
 have h := Q05 hs n 0 s
 have e : Qfw spec G n 0 s = leaf spec G n s := rfl
 rw [e] at h
 unfold Qk0
 cases hl : leaf spec G n s with
 | stop t => rw [hl] at h; exact h
 | go t =>
  rw [hl] at h
  simp only
  split <;> exact h
theorem Q86 {spec : Spec} {G : Env} (hs : ZH G spec) (n : Nat) : ∀ (k : Nat) (s : AM), Z6 G s (runT spec G n k s).state
 | 0, s => Qh5 hs n s
 | k + 1, s => by
  have h := Q86 hs n k s
  have e : runT spec G n (k + 1) s = YH.rec (motive := λ _ => YH) (λ s => runT spec G n k s) (λ s => .stop s) (runT spec G n k s) := rfl
  rw [e]
  cases hr : runT spec G n k s with
  | stop t => rw [hr] at h; exact h
  | go t =>
   rw [hr] at h
   exact h.trans (Q86 hs n k t)
noncomputable def Q3s (spec : Spec) (G : Env) (n k : Nat) : Nat -> AM -> AM
 | 0, s => s
 | j + 1, s => Q3s spec G n k j (runT spec G n k s).state
theorem yL {spec : Spec} {G : Env} (hs : ZH G spec) (n k : Nat) : ∀ (j : Nat) (s : AM), Z6 G s (Q3s spec G n k j s)
 | 0, s => .refl s
 | j + 1, s => (Q86 hs n k s).trans (yL hs n k j _)
end Go.Ax
namespace Go.Ax
open Go.RowKit
noncomputable def eqO (x : Option Bool) (v : Bool) : Bool :=
 match x with
 | some r => r == v
 | none => false
noncomputable def Qc9 (U : Sb) (vs : List Nat) (c : Ctx) : List Fact -> Bool
 | [] => true
 | f :: l => Q69 f.op && (eqO (E.cmp c f.op (f.a.sub U) (f.b.sub U)) f.val && (f.a.okB vs && (f.b.okB vs && Qc9 U vs c l)))
theorem Je {U : Sb} {vs : List Nat} {K : Nat -> Bool} {X X' : Ext} {c : Ctx} (hC : Cast U vs K X X') (hc : c.okN X.dom X.O) : ∀ {fs : List Fact}, Qc9 U vs c fs = true -> (⟨fs, vs⟩ : Ctx).okN X'.dom X'.O
 | [], _ => ⟨λ i hi => (hC.letters i hi).1, λ f hf => (by cases hf)⟩
 | f :: l, h => by
  simp only [Qc9, Bool.and_eq_true] at h
  obtain ⟨h1, h2, h3, h4, h5⟩ := h
  refine ⟨λ i hi => (hC.letters i hi).1, λ g hg => ?_⟩
  rcases List.mem_cons.1 hg with rfl | hg
  . have ha : g.a.ok (. ∈ vs) := E.Q8f h3 λ i hi => hi
    have hb : g.b.ok (. ∈ vs) := E.Q8f h4 λ i hi => hi
    have hcmp : E.cmp c g.op (g.a.sub U) (g.b.sub U) = some g.val := by
     unfold eqO at h2
     split at h2
     . rename_i r hr
       have : r = g.val := by simpa using h2
       rw [hr, this]
     . cases h2
    have := E.Qf h1 hcmp hc
    rw [Zh hC ha, Zh hC hb] at this
    exact ⟨this, E.Ql (λ i hi => (hC.letters i hi).1) ha, E.Ql (λ i hi => (hC.letters i hi).1) hb⟩
  . exact (Je hC hc h5).2 g hg
def QJ (ng : Nat) (keep : List Nat) (b : Nat) : Bool := Nat.blt b ng || keep.any (Nat.beq b)
def Qaj {α : Type} : List α -> Bool
 | [] => true
 | _ => false
def Qjs {α : Type} : Option α -> Bool
 | none => true
 | _ => false
structure St where
 fn : Nat
 nt : Nat
 cur : zY
 todo : List Qj
 tms : List AV
 l : List (Nat × Q6)
 next : Nat
 fs : List Fact
 vs : List Nat
noncomputable def St.am (t : St) (room : Nat) : AM := ⟨⟨t.fn, t.nt, setArgs 0 t.tms (.sk t.nt), t.cur, t.todo, [], false, none⟩, [], Q55 room t.l, t.next, ⟨t.fs, t.vs⟩⟩
noncomputable def Qms (U : Sb) (keep : List Nat) (ng : Nat) (t : St) (s : AM) : Bool :=
 Qaj s.cs && (!s.fr.ret && (Qaj s.fr.defers && (Qjs s.fr.ro && (qp s.fr.cur && (s.fr.todo.all Q2c && (Q93 U t.vs (QJ ng keep) s.fr.tm 0 t.tms && (Nat.beq t.tms.length s.fr.nt && (Qis U t.vs (QJ ng keep) s.H t.l && (Qc9 U t.vs s.ctx t.fs &&
  (Nat.ble ng t.next && (keep.all (λ b => Nat.blt b t.next) && (t.vs.all (λ i => Nat.blt i t.next) && t.vs.all (λ i => !QJ ng keep i || s.ctx.vs.any (Nat.beq i))))))))))))))
def Hop (spec : Spec) (G : Env) (n k : Nat) (s : AM) (j : Nat) (U : Sb) (keep : List Nat) (t : St) : Prop :=
 (AM.rec (motive := λ _ => Nat × Nat × zY × List Qj × Bool) (λ fr cs H nx c => Qg.rec (motive := λ _ => Nat × Nat × zY × List Qj × Bool) (λ fn nt tm cur todo defers ret ro =>
  (fn, nt, cur, todo, Qms U keep G.T.ng t ⟨⟨fn, nt, tm, cur, todo, defers, ret, ro⟩, cs, H, nx, c⟩)) fr) (Q3s spec G n k j s)) = (t.fn, t.nt, t.cur, t.todo, true)
section
variable {P : Program} {G : Env} {n0 : Nat} {w0 : World} {cs0 : List Frame}
theorem Qei {X : Ext} {s : AM} {m : Machine} {U : Sb} {keep : List Nat} {t : St} {room : Nat} (h : Sim P G n0 w0 cs0 X s m) (hng : 0 < G.T.ng) (h1 : s.fr.fn = t.fn) (h2 : s.fr.nt = t.nt) (h3 : s.fr.cur = t.cur) (h4 : s.fr.todo = t.todo) (hb : Qms U keep G.T.ng t s = true) :
 Sim P G n0 w0 cs0 (QT U t.vs (QJ G.T.ng keep) X) (t.am room) m := by
 simp only [Qms, Bool.and_eq_true, Bool.not_eq_true', List.all_eq_true, Nat.ble_eq, Nat.blt_eq, Nat.beq_eq, Bool.or_eq_true] at hb
 obtain ⟨b1, b2, b3, b4, b5, b6, b7, b8, b9, b10, b11, b12, b13, b14⟩ := hb
 have hcs : s.cs = [] := by cases hh : s.cs with
  | nil => rfl
  | cons a l => rw [hh] at b1; cases b1
 have hdef : s.fr.defers = [] := by cases hh : s.fr.defers with
  | nil => rfl
  | cons a l => rw [hh] at b3; cases b3
 have hro : s.fr.ro = none := by cases hh : s.fr.ro with
  | none => rfl
  | some a => rw [hh] at b4; cases b4
 have hKn : ∀ b, t.next <= b -> QJ G.T.ng keep b = false := λ b hb => by
  unfold QJ
  rw [Bool.or_eq_false_iff]
  refine ⟨?_, ?_⟩
  . cases hh : Nat.blt b G.T.ng with
    | false => rfl
    | true => rw [Nat.blt_eq] at hh; omega
  . rw [List.any_eq_false]
    intro c hc he
    have : b = c := by simpa using he
    subst this
    have := b12 b hc
    omega
 have hvd : ∀ i ∈ t.vs, QJ G.T.ng keep i = true -> X.dom i := λ i hi hk => by
  rcases b14 i hi with h' | h'
  . rw [hk] at h'; cases h'
  . exact h.ctx.1 i (any_beq h')
 obtain ⟨k0, hk0⟩ := h.Qt 0 hng
 have hC : Cast U t.vs (QJ G.T.ng keep) X (QT U t.vs (QJ G.T.ng keep) X) := by
  refine ⟨λ i hi => ⟨?_, by simp only [QT, if_pos hi], rfl⟩, λ b hb => by simp only [QT, if_pos hb]⟩
  by_cases hk : QJ G.T.ng keep i = true
  . obtain ⟨p, hp⟩ := hvd i hi hk
    exact ⟨p, by simp only [QT, if_pos hk, hp]⟩
  . exact ⟨_, by simp only [QT, if_neg hk, if_pos hi]; exact hk0⟩
 have := Sim.Y4 (room := room) (next' := t.next) (c' := ⟨t.fs, t.vs⟩) h hcs b2 hdef hro b5 (List.all_eq_true.2 b6) b7 b8 b9 hng (λ b hb => by unfold QJ; rw [show Nat.blt b G.T.ng = true from by rw [Nat.blt_eq]; exact hb]; rfl) hKn b13 hvd (Je hC h.ctx b10)
 rw [h1, h2, h3, h4] at this
 exact this
theorem Hop.sim (hT : G.T.OK P) (hI : Js.OK P G.I) (hS : ZX P G n0) {spec : Spec} (hsp : ZH G spec) (hng : 0 < G.T.ng) {X : Ext} {s : AM} {m : Machine} {n k room j : Nat} {U : Sb} {keep : List Nat} {t : St} (hh : Hop spec G n k s j U keep t) (h : Sim P G n0 w0 cs0 X s m) :
 ∃ Y m', Steps P m m' /\ X.le Y /\ Sim P G n0 w0 cs0 (QT U t.vs (QJ G.T.ng keep) Y) (t.am room) m' := by
 obtain ⟨Y, m', st, hle, h1⟩ := Zw hT hI hS (yL hsp n k j s) h
 refine ⟨Y, m', st, hle, ?_⟩
 unfold Hop at hh
 generalize Q3s spec G n k j s = s1 at hh h1
 obtain ⟨⟨fn, nt, tm, cur, todo, defers, ret, ro⟩, cs, H, nx, c⟩ := s1
 simp only [Prod.mk.injEq] at hh
 obtain ⟨e1, e2, e3, e4, e5⟩ := hh
 exact Qei h1 hng e1 e2 e3 e4 e5
def Zo (P : Program) (n0 : Nat) (w0 : World) (cs0 : List Frame) (f : FuncId) (m : Machine) : Prop :=
 ∃ fr w, Steps P m (lone fr cs0 w) /\ Below n0 w0 w /\ fr.fn = f /\ fr.leaving P w (.returned (.bool true))
theorem Zo.of_steps {f : FuncId} {m m' : Machine} (h : Steps P m m') (e : Zo P n0 w0 cs0 f m') : Zo P n0 w0 cs0 f m := by
 obtain ⟨fr, w, a, b⟩ := e
 exact ⟨fr, w, h.trans a, b⟩
theorem Zo.Ql6 (hT : G.T.OK P) (hI : Js.OK P G.I) (hS : ZX P G n0) {spec : Spec} (hsp : ZH G spec) {n k d : Nat} {f : FuncId} {X : Ext} {s : AM} {m : Machine} (he : Jc spec G n f (λ c v => (Sp.lit true).chk c v) k d [] s = true) (h : Sim P G n0 w0 cs0 X s m) : Zo P n0 w0 cs0 f m := by
 rw [jW] at he
 obtain ⟨Y, fr, w, c, v, u, a1, a2, a3, a4, a5, a6, a7, a8⟩ := YB hT hI hS hsp d he h
 have hu := Sp.Q18 a3 a4 a5
 simp only [Sp.has] at hu
 subst hu
 exact ⟨fr, w, a1, a6, a7, a8⟩
end
end Go.Ax
namespace Go.Ax
open Go.RowKit
noncomputable def answer (G : Env) (v : Bool) (s : AM) : AM :=
 match ZF G s with
 | .ask op a b => { s with ctx := s.ctx.add ⟨op, a, b, v⟩ }
 | _ => s
noncomputable def Qnn (G : Env) (s : AM) : Bool :=
 match ZF G s with
 | .ask _ a b => a.okB s.ctx.vs && b.okB s.ctx.vs
 | _ => false
def HopV (spec : Spec) (G : Env) (n k : Nat) (s : AM) (j : Nat) (v : Bool) (i : Nat) (U : Sb) (keep : List Nat) (t : St) : Prop :=
 (AM.rec (motive := λ _ => Bool × Nat × Nat × zY × List Qj × Bool) (λ fr cs H nx c => (Qnn G ⟨fr, cs, H, nx, c⟩,
  AM.rec (motive := λ _ => Nat × Nat × zY × List Qj × Bool) (λ fr cs H nx c => Qg.rec (motive := λ _ => Nat × Nat × zY × List Qj × Bool) (λ fn nt tm cur todo defers ret ro =>
   (fn, nt, cur, todo, Qms U keep G.T.ng t ⟨⟨fn, nt, tm, cur, todo, defers, ret, ro⟩, cs, H, nx, c⟩)) fr) (Q3s spec G n k i (answer G v ⟨fr, cs, H, nx, c⟩)))) (Q3s spec G n k j s)) = (true, t.fn, t.nt, t.cur, t.todo, true)
section
variable {P : Program} {G : Env} {n0 : Nat} {w0 : World} {cs0 : List Frame}
theorem HopV.sim (hT : G.T.OK P) (hI : Js.OK P G.I) (hS : ZX P G n0) {spec : Spec} (hsp : ZH G spec) (hng : 0 < G.T.ng) {X : Ext} {s : AM} {m : Machine} {n k room j i1 i2 : Nat} {σ1 σ2 : Sb} {keep1 keep2 : List Nat} {t1 t2 : St} (h1 : HopV spec G n k s j true i1 σ1 keep1 t1) (h2 : HopV spec G n k s j false i2 σ2 keep2 t2) (h : Sim P G n0 w0 cs0 X s m) :
 (∃ Y m', Steps P m m' /\ X.le Y /\ Sim P G n0 w0 cs0 (QT σ1 t1.vs (QJ G.T.ng keep1) Y) (t1.am room) m') \/ (∃ Y m', Steps P m m' /\ X.le Y /\ Sim P G n0 w0 cs0 (QT σ2 t2.vs (QJ G.T.ng keep2) Y) (t2.am room) m') := by
 obtain ⟨Y, m', st, hle, hs⟩ := Zw hT hI hS (yL hsp n k j s) h
 unfold HopV at h1 h2
 generalize Q3s spec G n k j s = s1 at h1 h2 hs
 obtain ⟨fr, cs, H, nx, c⟩ := s1
 simp only [Prod.mk.injEq] at h1 h2
 obtain ⟨ha, h1⟩ := h1
 obtain ⟨-, h2⟩ := h2
 unfold Qnn at ha
 cases hask : ZF G ⟨fr, cs, H, nx, c⟩ with
 | next s' => rw [hask] at ha; cases ha
 | fin => rw [hask] at ha; cases ha
 | fail w => rw [hask] at ha; cases ha
 | ask op a b =>
  rw [hask] at ha
  simp only [Bool.and_eq_true] at ha
  obtain ⟨v, hv⟩ := hs.ask op ha.1 ha.2
  have go : ∀ {v : Bool} {i : Nat} {U : Sb} {keep : List Nat} {t : St}, Sim P G n0 w0 cs0 Y { (⟨fr, cs, H, nx, c⟩ : AM) with ctx := c.add ⟨op, a, b, v⟩ } m' ->
   AM.rec (motive := λ _ => Nat × Nat × zY × List Qj × Bool) (λ fr cs H nx c => Qg.rec (motive := λ _ => Nat × Nat × zY × List Qj × Bool) (λ fn nt tm cur todo defers ret ro =>
    (fn, nt, cur, todo, Qms U keep G.T.ng t ⟨⟨fn, nt, tm, cur, todo, defers, ret, ro⟩, cs, H, nx, c⟩)) fr) (Q3s spec G n k i (answer G v ⟨fr, cs, H, nx, c⟩)) = (t.fn, t.nt, t.cur, t.todo, true) ->
   ∃ Y' m'', Steps P m m'' /\ X.le Y' /\ Sim P G n0 w0 cs0 (QT U t.vs (QJ G.T.ng keep) Y') (t.am room) m'' := by
   intro v i U keep t hv hq
   have e : answer G v ⟨fr, cs, H, nx, c⟩ = { (⟨fr, cs, H, nx, c⟩ : AM) with ctx := c.add ⟨op, a, b, v⟩ } := by unfold answer; rw [hask]
   rw [e] at hq
   obtain ⟨Z, m2, st2, hle2, hs2⟩ := Zw hT hI hS (yL hsp n k i _) hv
   refine ⟨Z, m2, st.trans st2, hle.trans hle2, ?_⟩
   generalize Q3s spec G n k i { (⟨fr, cs, H, nx, c⟩ : AM) with ctx := c.add ⟨op, a, b, v⟩ } = s2 at hq hs2
   obtain ⟨⟨fn, nt, tm, cur, todo, defers, ret, ro⟩, cs2, H2, nx2, c2⟩ := s2
   simp only [Prod.mk.injEq] at hq
   obtain ⟨e1, e2, e3, e4, e5⟩ := hq
   exact Qei hs2 hng e1 e2 e3 e4 e5
  cases v with
  | true => exact .inl (go hv (by simpa only [Prod.mk.injEq] using h1))
  | false => exact .inr (go hv (by simpa only [Prod.mk.injEq] using h2))
end
end Go.Ax
namespace Go.Ax
open Go.RowKit
noncomputable def qL (sps : List Sp) (n : Nat) : InL :=
 match Sp.Q1v sps n with
 | some r => r
 | none => ⟨[], 0, [], []⟩
noncomputable def Q9o (G : Env) (E : Qb4) (f : FuncId) (args : List Sp) (room : Nat) : AM :=
 match start G f (qL args (E.ng + E.m)).v (Qhf room E.T E.t E.d E.l) (qL args (E.ng + E.m)).next ⟨(qL args (E.ng + E.m)).fs, (qL args (E.ng + E.m)).vs⟩ with
 | some s => s
 | none => ⟨⟨0, 0, .e, .none, [], [], false, none⟩, [], .e, 0, ⟨[], []⟩⟩
noncomputable def Qlv {α : Type} : Option α -> Bool
 | some _ => true
 | none => false
noncomputable def Qie (G : Env) (E : Qb4) (f : FuncId) (args : List Sp) (room : Nat) : Bool :=
 Qlv (Sp.Q1v args (E.ng + E.m)) && Qlv (start G f (qL args (E.ng + E.m)).v (Qhf room E.T E.t E.d E.l) (qL args (E.ng + E.m)).next ⟨(qL args (E.ng + E.m)).fs, (qL args (E.ng + E.m)).vs⟩)
section
variable {P : Program} {G : Env}
theorem Qic (hT : G.T.OK P) {E : Qb4} (hE : E.ng = G.T.ng) (hng : 0 < E.ng) {f : FuncId} {args : List Sp} {room : Nat} (hb : Qie G E f args room = true)
 (he : ∀ {n0 : Nat} {w0 : World} {cs0 : List Frame} {X : Ext} {m : Machine}, Sim P G n0 w0 cs0 X (Q9o G E f args room) m -> Zo P n0 w0 cs0 f m) : Qns P E f args (.lit true) := by
 intro w A N vs hl hv cs
 simp only [Qie, Bool.and_eq_true] at hb
 obtain ⟨hb1, hb2⟩ := hb
 have hi : Sp.Q1v args (E.ng + E.m) = some (qL args (E.ng + E.m)) := by
  unfold qL
  cases hh : Sp.Q1v args (E.ng + E.m) with
  | none => rw [hh] at hb1; cases hb1
  | some r => rfl
 have hs : start G f (qL args (E.ng + E.m)).v (Qhf room E.T E.t E.d E.l) (qL args (E.ng + E.m)).next ⟨(qL args (E.ng + E.m)).fs, (qL args (E.ng + E.m)).vs⟩ = some (Q9o G E f args room) := by
  unfold Q9o
  split
  . rename_i s hh; exact hh
  . rename_i hh; rw [hh] at hb2; cases hb2
 generalize qL args (E.ng + E.m) = r at hi hs
 generalize Q9o G E f args room = s at hs he
 have h00 : 0 < w.heap.size := Nat.lt_of_lt_of_le hng hl.sz
 obtain ⟨Y, hN, hr⟩ := Sp.J8 (p := ⟨0, 0, 0⟩) (X := errX E A N) hi hv (λ b hb => by simp only [errX]; rw [if_neg (by omega), if_neg (by omega)])
 have hold : ∀ b, b < E.ng -> Y.V b = some ⟨b, 0, N b⟩ := λ b hb => by rw [hN.old b (by omega)]; simp only [errX]; rw [if_pos hb]
 have hptr : ∀ b, E.ng <= b -> b < E.ng + E.m -> Y.V b = some ⟨(A b).block, (A b).off, 0⟩ := λ b h1 h2 => by rw [hN.old b h2]; simp only [errX]; rw [if_neg (by omega), if_pos h2]
 have hH : Qo Y w.heap.size (Qhf room E.T E.t E.d E.l) w := Qet hl hold hptr λ b p hp => by
  by_cases h1 : b < E.ng
  . rw [hold b h1] at hp
    cases hp
    exact Nat.lt_of_lt_of_le h1 hl.sz
  . by_cases h2 : b < E.ng + E.m
    . rw [hptr b (by omega) h2] at hp
      cases hp
      exact hl.lt b (by omega) h2
    . by_cases h3 : b < r.next
      . rw [hN.new b (by omega) h3] at hp
        cases hp
        exact h00
      . rw [hN.free b (by omega)] at hp; cases hp
 have hg : Y.Qt G.T.ng := λ g hg => ⟨N g, hold g (by omega)⟩
 have hsim : Sim P G w.heap.size w cs Y s (lone (Frame.enter P f vs .normal) cs w) := by
  unfold start at hs
  split at hs
  . cases hs
  . rename_i fn hfn
    split at hs
    . cases hs
    . rename_i b hb
      cases hs
      have hP := (hT.funcs f fn hfn).1
      refine ⟨⟨Frame.enter P f vs .normal, [], w, rfl, ⟨⟨rfl, rfl, rfl, rfl⟩, rfl, [.code b], ⟨_, _, rfl, rfl, rfl⟩, ?_, ?_⟩, rfl, hH, Below.refl _ _, Nat.le_refl _⟩, ⟨hN.vs, hN.fs⟩, hg, hN.free, ?_⟩
      . simp [Frame.enter, hP, hb]
      . have := Q4d (k := fn.ntmps) hr
        simpa [Frame.enter, hP] using this
      . simp [Qm]
 obtain ⟨fr, w', a1, a2, a3, a4⟩ := he hsim
 exact ⟨.returned (.bool true), w', fr, ⟨_, rfl, by simp only [Sp.has], a2⟩, a1, a3, a4⟩
variable {n0 : Nat} {w0 : World} {cs0 : List Frame}
theorem Hop.ends (hT : G.T.OK P) (hI : Js.OK P G.I) (hS : ZX P G n0) (hng : 0 < G.T.ng) {f : FuncId} {s : AM} {n k room j : Nat} {U : Sb} {keep : List Nat} {t : St} (hh : Hop Q80 G n k s j U keep t)
 (he : ∀ X m, Sim P G n0 w0 cs0 X (t.am room) m -> Zo P n0 w0 cs0 f m) {X : Ext} {m : Machine} (h : Sim P G n0 w0 cs0 X s m) : Zo P n0 w0 cs0 f m := by
 obtain ⟨Y, m', st, -, hs⟩ := Hop.sim hT hI hS Q3n hng hh h
 exact .of_steps st (he _ _ hs)
end
end Go.Ax
