/-
 THE ABSTRACT EXECUTOR, 57: texts as terms; numbers written into texts and read out of them, and functions of texts, known as a whole. Conditions: none.
-/
import Derived.Test.YtmjjaldodkokbaaGreatDoorHAxF
import Derived.Laws.AppendOwn
import Derived.MapKept
import Derived.Lib.MakeNoZero
import Derived.Lib.Bytealg
import Derived.Laws.IdiomRangeMap
import Derived.Test.YtmjjaldodkokbaaGreatDoorHAxE
import Derived.Lib.BufferWrite
namespace Go.Ax
open Go.RowKit
noncomputable def sE {β : Type} (e : E) (k : E -> β) : β :=
 match e with
 | .lit n => k (.lit n)
 | .var i => k (.var i)
 | .len i => k (.len i)
 | .byte i a => k (.byte i a)
 | .bin op j a b => k (.bin op j a b)
 | .cnv j a => k (.cnv j a)
 | .pk n a => k (.pk n a)
 | .cons a t => k (.cons a t)
 | .tv i lo hi t => k (.tv i lo hi t)
 | .fn n t => k (.fn n t)
 | .mn a b => k (.mn a b)
@[simp] theorem sE_eq {β : Type} (e : E) (k : E -> β) : sE e k = k e := by cases e <;> rfl
noncomputable def Q7m : List E -> E
 | [] => .lit (.ofNat 1)
 | a :: l => sE (Q7m l) λ t => .cons a t
theorem Q58 {O : Val} : ∀ l : List E, (Q7m l).den O = JN (S.bytes O l) 1
 | [] => rfl
 | a :: l => by
  simp only [Q7m, sE_eq, E.den, Q58 l]
  rfl
theorem Q95 {n : Nat -> Prop} : ∀ {l : List E}, (∀ t ∈ l, t.ok n) -> (Q7m l).ok n
 | [], _ => trivial
 | a :: l, h => by
  simp only [Q7m, sE_eq]
  exact ⟨h a (by simp), Q95 λ t ht => h t (by simp [ht])⟩
theorem Jq {P : Program} {G : Env} {n0 : Nat} {f : FuncId} {S : Ctx -> Tr Q7 -> Nat -> List AV -> D SR}
 (h : ∀ (c : Ctx) (X : Ext) (H : Tr Q7) (next : Nat) (w : World) (args : List AV) (vs : Array Value) (r : SR), S c H next args = .ok r -> c.okN X.dom X.O -> AV.QI X args vs.toList ->
  r.H = H /\ r.next = next /\ r.ctx = c /\ ∃ u, r.v.rel X u /\ Calls P f vs w (λ e w' => e = .returned u /\ Below w.heap.size w w')) : Y0 P G n0 f S := by
 intro c X H next w args vs r hr hc hg hH h0 hfr hargs fr cs
 obtain ⟨e1, e2, e3, u, hu, hcall⟩ := h c X H next w args vs r hr hc hargs
 obtain ⟨u', w', ⟨rfl, hB⟩, hst⟩ := QU (q := λ v w' => v = u /\ Below w.heap.size w w') (hcall.mono λ e w' he => ⟨u, he.1, rfl, he.2⟩) fr cs
 refine ⟨X, u', w', hst, Ext.le.refl X, hu, ?_, hB.mono h0, λ b hb _ => ⟨hb, by rw [e1]⟩, by rw [e2]; exact Nat.le_refl _, λ b hb => hfr b (by rw [e2] at hb; exact hb), by rw [e3]; exact hc⟩
 rw [e1]
 exact ⟨λ b o p ho hp => by rw [hB.block _ (hH.lt _ _ hp)]; exact hH.obj b o p ho hp, hH.inj, λ b p hp => Nat.lt_of_lt_of_le (hH.lt b p hp) hB.size, hH.own⟩
def Qjz (n : E) (j : Nat) : E := .cnv .u8 (.bin .shr .i64 n (.lit (.ofNat (8 * j))))
noncomputable def Qmr (n : Nat) (j : Nat) : E := QD (Nat.mod (Nat.div n (Nat.pow 256 j)) 256) λ m => .lit (.ofNat m)
def Q6v (z : Int) (j : Nat) : UInt8 := UInt8.ofNat (IntKind.u8.wrap (z.fdiv (2 ^ (8 * j)))).toNat
noncomputable def Qeq (n : E) (j : Nat) : E :=
 match n with
 | .lit (.ofNat n) => Qmr n j
 | n => QD (8 * j) λ p => .cnv .u8 (.bin .shr .i64 n (.lit (.ofNat p)))
theorem yR (n : Int) : IntKind.u8.wrap n = n % 256 := by
 simp [IntKind.wrap, IntKind.bits, IntKind.signed]
theorem Q8n {n : E} {j : Nat} {O : Val} {d : Nat -> Prop} (hn : n.ok d) (hj : j < 4) : (Qeq n j).ok d /\ (Qeq n j).den O = IntKind.u8.wrap ((n.den O).fdiv (2 ^ (8 * j))) := by
 unfold Qeq
 split
 . rename_i m
   refine ⟨trivial, ?_⟩
   simp only [Qmr, sNat_eq, E.den]
   rw [yR]
   have e : (2 : Int) ^ (8 * j) = ((256 ^ j : Nat) : Int) := by rw [Int.pow_mul]; simp
   rw [e, Int.ofNat_eq_natCast, Int.ofNat_eq_natCast, Int.fdiv_eq_ediv_of_nonneg _ (Int.natCast_nonneg _)]
   show ((m / 256 ^ j % 256 : Nat) : Int) = _
   rw [Int.natCast_emod, Int.natCast_ediv]
   rfl
 . simp only [sNat_eq]
   refine ⟨⟨hn, trivial⟩, ?_⟩
   simp only [E.den, Zr]
   have : min ((Int.ofNat (8 * j)).toNat) IntKind.i64.bits = 8 * j := by
    simp only [Int.ofNat_eq_natCast, Int.toNat_natCast, IntKind.bits]
    omega
   rw [this]
noncomputable def Qb7 (n : E) : Nat -> List E
 | 0 => []
 | j + 1 => sE (Qeq n j) λ b => b :: Qb7 n j
def Zw (z : Int) : Nat -> List UInt8
 | 0 => []
 | j + 1 => Q6v z j :: Zw z j
theorem Q0b {n : E} {O : Val} {d : Nat -> Prop} (hn : n.ok d) : ∀ {k : Nat}, k <= 4 -> S.okN d O (Qb7 n k) /\ S.bytes O (Qb7 n k) = Zw (n.den O) k
 | 0, _ => ⟨λ t ht => (by cases ht), rfl⟩
 | j + 1, h => by
  obtain ⟨h1, h2⟩ := Q0b (O := O) hn (k := j) (by omega)
  obtain ⟨h3, h4⟩ := Q8n (O := O) hn (j := j) (by omega)
  simp only [Qb7, sE_eq]
  constructor
  . intro t ht
    rcases List.mem_cons.1 ht with rfl | ht
    . rw [h4, yR]
      exact ⟨h3, by omega, by omega⟩
    . exact h1 t ht
  . show UInt8.ofNat ((Qeq n j).den O).toNat :: S.bytes O (Qb7 n j) = _
    rw [h4, h2]; rfl
noncomputable def Qd8 (b : Nat) : Sum := λ c H next as =>
 match as with
 | [.int .i64 n, .int .i64 (.lit (.ofNat k))] => bif Nat.ble 1 k && Nat.ble k 4 then
  QD (Nat.pow 256 k) λ m =>
  match E.cmp c .lss n (.lit (.ofNat 0)) with
  | none => .ask .lss n (.lit (.ofNat 0))
  | some true => .ok ⟨.tuple [.str [], .int .i64 (.lit (.ofNat b))], H, next, c⟩
  | some false => match E.cmp c .lss n (.lit (.ofNat m)) with
   | none => .ask .lss n (.lit (.ofNat m))
   | some false => .ok ⟨.tuple [.str [], .int .i64 (.lit (.ofNat b))], H, next, c⟩
   | some true => .ok ⟨.tuple [.str (Qb7 n k), .int .i64 (.lit (.ofNat 0))], H, next, c⟩
  else .fail
 | _ => .fail
theorem Qd7 {P : Program} {G : Env} {n0 : Nat} {f : FuncId} {b : Nat}
 (h1 : ∀ (z : Int) (k : Nat) (w : World), 1 <= k -> k <= 4 -> 0 <= z -> z < 256 ^ k -> Calls P f #[.int .i64 z, .int .i64 k] w λ e w' => e = .returned (.tuple #[.string ⟨(Zw z k).toArray⟩, .int .i64 0]) /\ Below w.heap.size w w')
 (h2 : ∀ (z : Int) (k : Nat) (w : World), 1 <= k -> k <= 4 -> (z < 0 \/ 256 ^ k <= z) -> Calls P f #[.int .i64 z, .int .i64 k] w λ e w' => e = .returned (.tuple #[.string ⟨#[]⟩, .int .i64 b]) /\ Below w.heap.size w w') : Y0 P G n0 f (Qd8 b) := by
 refine Jq λ c X H next w args vs r hr hc hargs => ?_
 unfold Qd8 at hr
 split at hr
 . rename_i n k
   cases hb : (Nat.ble 1 k && Nat.ble k 4) with
   | false => rw [hb] at hr; cases hr
   | true =>
    rw [hb] at hr
    simp only [Bool.and_eq_true, Nat.ble_eq] at hb
    simp only [cond_true, sNat_eq] at hr
    obtain ⟨u, vs', e1, g1, g2⟩ := Qa.1 hargs
    obtain ⟨v, vs'', rfl, g3, g4⟩ := Qa.1 g2
    have := rels_nil.1 g4
    subst this
    simp only [AV.rel] at g1 g3
    obtain ⟨k1, rfl⟩ := g1
    obtain ⟨-, rfl⟩ := g3
    have hvs : vs = #[.int .i64 (n.den X.O), .int .i64 k] := by rw [<- Array.toList_inj]; exact e1
    subst hvs
    have pw : ((Nat.pow 256 k : Nat) : Int) = 256 ^ k := by simp
    have bad : ∀ r, (n.den X.O < 0 \/ 256 ^ k <= n.den X.O) -> (.ok ⟨.tuple [.str [], .int .i64 (.lit (.ofNat b))], H, next, c⟩ : D SR) = .ok r -> r.H = H /\ r.next = next /\ r.ctx = c /\ ∃ u, r.v.rel X u /\ Calls P f #[.int .i64 (n.den X.O), .int .i64 k] w (λ e w' => e = .returned u /\ Below w.heap.size w w') := by
     intro r hz hr
     cases hr
     refine ⟨rfl, rfl, rfl, _, ?_, h2 _ k w hb.1 hb.2 hz⟩
     simp only [AV.rel]
     refine ⟨_, rfl, ?_⟩
     simp only [rels_cons_cons, rels_nil, AV.rel]
     exact ⟨⟨λ t ht => (by cases ht), rfl⟩, ⟨trivial, rfl⟩, trivial⟩
    split at hr
    . cases hr
    . rename_i hq
      have := E.Qb rfl hq hc
      simp only [Yl, decide_eq_true_eq] at this
      exact bad r (.inl this) hr
    . rename_i hq
      have q0 := E.Qb rfl hq hc
      simp only [Yl, decide_eq_false_iff_not] at q0
      have q0' : 0 <= n.den X.O := by
       have e0 : (E.lit (Int.ofNat 0)).den X.O = 0 := rfl
       rw [e0] at q0; omega
      split at hr
      . cases hr
      . rename_i hq2
        have q1 := E.Qb rfl hq2 hc
        simp only [Yl, decide_eq_false_iff_not] at q1
        refine bad r (.inr ?_) hr
        have e0 : (E.lit (Int.ofNat (Nat.pow 256 k))).den X.O = ((Nat.pow 256 k : Nat) : Int) := rfl
        rw [e0, pw] at q1; omega
      . rename_i hq2
        have q1 := E.Qb rfl hq2 hc
        simp only [Yl, decide_eq_true_eq] at q1
        have e0 : (E.lit (Int.ofNat (Nat.pow 256 k))).den X.O = ((Nat.pow 256 k : Nat) : Int) := rfl
        rw [e0, pw] at q1
        cases hr
        obtain ⟨s1, s2⟩ := Q0b (O := X.O) k1 hb.2
        refine ⟨rfl, rfl, rfl, _, ?_, h1 _ k w hb.1 hb.2 q0' q1⟩
        simp only [AV.rel]
        refine ⟨_, rfl, ?_⟩
        simp only [rels_cons_cons, rels_nil, AV.rel]
        exact ⟨⟨s1, by rw [s2]⟩, ⟨trivial, rfl⟩, trivial⟩
 . cases hr
def Q9m (l : List UInt8) : Nat := l.foldl (λ n b => n * 256 + b.toNat) 0
def Q89 : Nat -> List E -> Option Nat
 | n, [] => some n
 | n, .lit (.ofNat b) :: l => Q89 (n * 256 + b) l
 | _, _ => none
def Qk4 (n : E) : Nat -> List E -> Bool
 | 0, [] => true
 | j + 1, e :: l => e.same (Qjz n j) && Qk4 n j l
 | _, _ => false
noncomputable def getE (c : Ctx) (l : List E) : Option E :=
 match l with
 | .cnv .u8 (.bin .shr .i64 n (.lit p)) :: m => bif Qk4 n (m.length + 1) (.cnv .u8 (.bin .shr .i64 n (.lit p)) :: m) && (match (E.ivL c.fs n).lo, (E.ivL c.fs n).hi with
  | some lo, some hi => ile 0 lo && ilt hi (.ofNat (Nat.pow 256 (m.length + 1)))
  | _, _ => false) then some n else none
 | l => match Q89 0 l with
  | some n => QD n λ n => some (.lit (.ofNat n))
  | none => none
theorem Q2f {O : Val} {d : Nat -> Prop} : ∀ {l : List E} {n m : Nat}, Q89 n l = some m -> S.okN d O l -> (S.bytes O l).foldl (λ n b => n * 256 + b.toNat) n = m
 | [], n, m, h, _ => by simp only [Q89, Option.some.injEq] at h; subst h; rfl
 | .lit (.ofNat b) :: l, n, m, h, hk => by
  simp only [Q89] at h
  have ih := Q2f h λ t ht => hk t (by simp [ht])
  have hb := (hk (.lit (.ofNat b)) (by simp)).2.2
  simp only [E.den, Int.ofNat_eq_natCast] at hb
  show (S.bytes O l).foldl _ (n * 256 + (UInt8.ofNat ((E.lit (.ofNat b)).den O).toNat).toNat) = m
  have e : (UInt8.ofNat ((E.lit (.ofNat b)).den O).toNat).toNat = b := by
   show (UInt8.ofNat (Int.ofNat b).toNat).toNat = b
   simp
   omega
  rw [e]
  exact ih
 | .lit (.negSucc _) :: _, _, _, h, _ => by simp [Q89] at h
 | .var _ :: _, _, _, h, _ => by simp [Q89] at h
 | .len _ :: _, _, _, h, _ => by simp [Q89] at h
 | .byte _ _ :: _, _, _, h, _ => by simp [Q89] at h
 | .bin _ _ _ _ :: _, _, _, h, _ => by simp [Q89] at h
 | .cnv _ _ :: _, _, _, h, _ => by simp [Q89] at h
 | .pk _ _ :: _, _, _, h, _ => by simp [Q89] at h
 | .cons _ _ :: _, _, _, h, _ => by simp [Q89] at h
 | .tv _ _ _ _ :: _, _, _, h, _ => by simp [Q89] at h
 | .fn _ _ :: _, _, _, h, _ => by simp [Q89] at h
theorem Qer {n : E} {j : Nat} {O : Val} (hj : j < 4) : (Qjz n j).den O = IntKind.u8.wrap ((n.den O).fdiv (2 ^ (8 * j))) := by
 simp only [Qjz, E.den, Zr]
 have : min ((Int.ofNat (8 * j)).toNat) IntKind.i64.bits = 8 * j := by
  simp only [Int.ofNat_eq_natCast, Int.toNat_natCast, IntKind.bits]
  omega
 rw [this]
theorem Q38 {O : Val} {n : E} : ∀ {l : List E} {k : Nat}, Qk4 n k l = true -> k <= 4 -> S.bytes O l = Zw (n.den O) k
 | [], 0, _, _ => rfl
 | [], _ + 1, h, _ => by simp [Qk4] at h
 | _ :: _, 0, h, _ => by simp [Qk4] at h
 | e :: l, j + 1, h, hk => by
  simp only [Qk4, Bool.and_eq_true] at h
  have := E.Q5 h.1
  show UInt8.ofNat (e.den O).toNat :: S.bytes O l = _
  rw [this, Qer (by omega), Q38 h.2 (by omega)]
  rfl
theorem Q2z {z : Nat} : ∀ {k a : Nat}, k <= 4 -> (Zw z k).foldl (λ n b => n * 256 + b.toNat) a = a * 256 ^ k + z % 256 ^ k
 | 0, a, _ => by simp [Zw]; omega
 | j + 1, a, h => by
  have ih := λ a => Q2z (z := z) (k := j) (a := a) (by omega)
  show (Zw z j).foldl _ (a * 256 + (Q6v z j).toNat) = _
  rw [ih]
  have e : (Q6v z j).toNat = z / 256 ^ j % 256 := by
   unfold Q6v
   rw [yR]
   have e : (2 : Int) ^ (8 * j) = ((256 ^ j : Nat) : Int) := by rw [Int.pow_mul]; simp
   rw [e, Int.fdiv_eq_ediv_of_nonneg _ (Int.natCast_nonneg _)]
   have e2 : ((z : Int) / ((256 ^ j : Nat) : Int) % 256).toNat = z / 256 ^ j % 256 := by
    rw [<- Int.natCast_ediv]; omega
   rw [e2]
   simp
  rw [e]
  have h1 := Nat.div_add_mod (z % 256 ^ (j + 1)) (256 ^ j)
  have h2 : z % 256 ^ (j + 1) / 256 ^ j = z / 256 ^ j % 256 := by
   rw [Nat.pow_succ, Nat.mod_mul_right_div_self]
  have h3 : z % 256 ^ (j + 1) % 256 ^ j = z % 256 ^ j := by
   rw [Nat.pow_succ, Nat.mod_mul_right_mod]
  rw [h2, h3] at h1
  rw [<- h1, Nat.pow_succ, Nat.add_mul, Nat.mul_assoc, Nat.mul_comm 256 (256 ^ j), Nat.mul_comm (256 ^ j) (z / 256 ^ j % 256)]
  omega
theorem Q2n {c : Ctx} {O : Val} {d : Nat -> Prop} {l : List E} {e : E} (h : getE c l = some e) (hl : l.length <= 4) (hk : S.okN d O l) (hc : c.okN d O) : e.ok d /\ e.den O = (Q9m (S.bytes O l) : Int) := by
 unfold getE at h
 split at h
 . rename_i n p m
   cases hb : (Qk4 n (m.length + 1) (.cnv .u8 (.bin .shr .i64 n (.lit p)) :: m) && (match (E.ivL c.fs n).lo, (E.ivL c.fs n).hi with
    | some lo, some hi => ile 0 lo && ilt hi (.ofNat (Nat.pow 256 (m.length + 1)))
    | _, _ => false)) with
   | false => rw [hb] at h; cases h
   | true =>
    rw [hb] at h
    simp only [cond_true, Option.some.injEq] at h
    subst h
    simp only [Bool.and_eq_true] at hb
    have hv := E.Q60 hc.2 n
    have hn : n.ok d := (hk (.cnv .u8 (.bin .shr .i64 n (.lit p))) (by simp)).1.1
    refine ⟨hn, ?_⟩
    have hs := Q38 (O := O) hb.1 (by simpa using hl)
    obtain ⟨-, hb⟩ := hb
    split at hb
    . rename_i lo hi e1 e2
      simp only [Bool.and_eq_true, QL, zJ, decide_eq_true_eq] at hb
      have a1 := hv.1 _ e1
      have a2 := hv.2 _ e2
      obtain ⟨z, hz⟩ : ∃ z : Nat, n.den O = z := ⟨(n.den O).toNat, by omega⟩
      rw [hs, hz]
      have hlt : z < 256 ^ (m.length + 1) := by
       have q : (Int.ofNat (Nat.pow 256 (m.length + 1))) = ((256 ^ (m.length + 1) : Nat) : Int) := rfl
       rw [q] at hb; omega
      have := Q2z (z := z) (k := m.length + 1) (a := 0) (by simpa using hl)
      unfold Q9m
      rw [this, Nat.mod_eq_of_lt hlt]
      omega
    . cases hb
 . split at h
   . rename_i n hn
     rw [sNat_eq] at h
     cases h
     refine ⟨trivial, ?_⟩
     have := Q2f (O := O) hn hk
     simp only [E.den, Q9m, this, Int.ofNat_eq_natCast]
   . cases h
noncomputable def Q9x (b : Nat) : Sum := λ c H next as =>
 match as with
 | [.str s, .int .i64 (.lit (.ofNat i)), .int .i64 (.lit (.ofNat k))] => bif Nat.ble 1 k && Nat.ble k 4 && Nat.ble s.length 1099511627776 && Nat.ble i 1099511627776 then
  bif Nat.ble (i + k) s.length then
   match getE c ((s.drop i).take k) with
   | some e => .ok ⟨.tuple [.int .i64 e, .int .i64 (.lit (.ofNat 0))], H, next, c⟩
   | none => .fail
  else .ok ⟨.tuple [.int .i64 (.lit (.ofNat 0)), .int .i64 (.lit (.ofNat b))], H, next, c⟩
  else .fail
 | _ => .fail
theorem Qe3 {P : Program} {G : Env} {n0 : Nat} {f : FuncId} {b : Nat}
 (h1 : ∀ (s : ByteArray) (i k : Nat) (w : World), 1 <= k -> k <= 4 -> s.size <= 1099511627776 -> i + k <= s.size -> Calls P f #[.string s, .int .i64 i, .int .i64 k] w λ e w' => e = .returned (.tuple #[.int .i64 (Q9m ((s.data.toList.drop i).take k)), .int .i64 0]) /\ Below w.heap.size w w')
 (h2 : ∀ (s : ByteArray) (i k : Nat) (w : World), 1 <= k -> k <= 4 -> s.size <= 1099511627776 -> i <= 1099511627776 -> s.size < i + k -> Calls P f #[.string s, .int .i64 i, .int .i64 k] w λ e w' => e = .returned (.tuple #[.int .i64 0, .int .i64 b]) /\ Below w.heap.size w w') : Y0 P G n0 f (Q9x b) := by
 refine Jq λ c X H next w args vs r hr hc hargs => ?_
 unfold Q9x at hr
 split at hr
 . rename_i s i k
   cases hb : (Nat.ble 1 k && Nat.ble k 4 && Nat.ble s.length 1099511627776 && Nat.ble i 1099511627776) with
   | false => rw [hb] at hr; cases hr
   | true =>
    rw [hb] at hr
    simp only [Bool.and_eq_true, Nat.ble_eq] at hb
    simp only [cond_true] at hr
    obtain ⟨u, vs', e1, g1, g2⟩ := Qa.1 hargs
    obtain ⟨v, vs'', rfl, g3, g4⟩ := Qa.1 g2
    obtain ⟨v2, vs3, rfl, g5, g6⟩ := Qa.1 g4
    have := rels_nil.1 g6
    subst this
    simp only [AV.rel] at g1 g3 g5
    obtain ⟨k1, rfl⟩ := g1
    obtain ⟨-, rfl⟩ := g3
    obtain ⟨-, rfl⟩ := g5
    have hvs : vs = #[.string ⟨(S.bytes X.O s).toArray⟩, .int .i64 i, .int .i64 k] := by rw [<- Array.toList_inj]; exact e1
    subst hvs
    have hsz : (⟨(S.bytes X.O s).toArray⟩ : ByteArray).size = s.length := by
     show (S.bytes X.O s).toArray.size = _
     simp [S.bytes]
    cases hle : Nat.ble (i + k) s.length with
    | true =>
     rw [hle] at hr
     simp only [cond_true] at hr
     have hle' : i + k <= s.length := by simpa using hle
     split at hr
     . rename_i e he
       cases hr
       have hkk : S.okN X.dom X.O ((s.drop i).take k) := λ t ht => k1 t (List.mem_of_mem_drop (List.mem_of_mem_take ht))
       obtain ⟨a1, a2⟩ := Q2n he (by simp only [List.length_take]; omega) hkk hc
       refine ⟨rfl, rfl, rfl, _, ?_, h1 _ i k w hb.1.1.1 hb.1.1.2 (by rw [hsz]; exact hb.1.2) (by rw [hsz]; exact hle')⟩
       simp only [AV.rel]
       refine ⟨_, rfl, ?_⟩
       simp only [rels_cons_cons, rels_nil, AV.rel]
       refine ⟨⟨a1, ?_⟩, ⟨trivial, rfl⟩, trivial⟩
       rw [a2]
       have : S.bytes X.O ((s.drop i).take k) = ((S.bytes X.O s).drop i).take k := by simp [S.bytes, List.map_take, List.map_drop]
       rw [this]
     . cases hr
    | false =>
     rw [hle] at hr
     simp only [cond_false] at hr
     cases hr
     have hle' : ¬ i + k <= s.length := λ hh => by rw [Nat.ble_eq_true_of_le hh] at hle; cases hle
     refine ⟨rfl, rfl, rfl, _, ?_, h2 _ i k w hb.1.1.1 hb.1.1.2 (by rw [hsz]; exact hb.1.2) hb.2 (by rw [hsz]; omega)⟩
     simp only [AV.rel]
     refine ⟨_, rfl, ?_⟩
     simp only [rels_cons_cons, rels_nil, AV.rel]
     exact ⟨⟨trivial, rfl⟩, ⟨trivial, rfl⟩, trivial⟩
 . cases hr
end Go.Ax
namespace Go.Ax
open Go.RowKit
noncomputable def Qlx (c : Ctx) (k : E) : List E -> D (List E)
 | [] => .ok [k]
 | a :: l => match E.cmp c .lss k a with
  | none => .ask .lss k a
  | some true => .ok (k :: a :: l)
  | some false => match E.cmp c .gtr k a with
   | some true => (Qlx c k l).bind λ r => .ok (a :: r)
   | _ => .fail
noncomputable def Qcs (c : Ctx) : List E -> D (List E)
 | [] => .ok []
 | k :: l => (Qcs c l).bind λ r => Qlx c k r
abbrev Q51 (O : Val) (l : List E) : List Int := l.map (·.den O)
theorem Q2l {c : Ctx} {d : Nat -> Prop} {O : Val} (hc : c.okN d O) {k : E} : ∀ {l r : List E}, Qlx c k l = .ok r -> (Q51 O l).Pairwise (. < ·) -> (Q51 O r).Pairwise (. < ·) /\ (Q51 O r).Perm (k.den O :: Q51 O l) /\ ∀ e ∈ r, e = k \/ e ∈ l
 | [], r, h, _ => by
  simp only [Qlx] at h
  cases h
  exact ⟨by simp, .refl _, λ e he => .inl (by simpa using he)⟩
 | a :: l, r, h, hp => by
  simp only [Qlx] at h
  have hp' := List.pairwise_cons.1 (show (a.den O :: Q51 O l).Pairwise (. < ·) from hp)
  split at h
  . cases h
  . rename_i hq
    have q := E.Qb rfl hq hc
    simp only [Yl, decide_eq_true_eq] at q
    cases h
    refine ⟨List.pairwise_cons.2 ⟨λ x hx => ?_, hp⟩, .refl _, λ e he => by simpa using he⟩
    rcases List.mem_cons.1 (show x ∈ a.den O :: Q51 O l from hx) with hx | hx
    . show k.den O < x
      rw [hx]
      exact q
    . have := hp'.1 x hx
      show k.den O < x
      omega
  . split at h
    . rename_i hq
      have q := E.Qb rfl hq hc
      have q' : a.den O < k.den O := by simpa [Yl] using q
      obtain ⟨r', h1, h2⟩ := D.bind_ok h
      cases h2
      obtain ⟨i1, i2, i3⟩ := Q2l hc h1 hp'.2
      refine ⟨List.pairwise_cons.2 ⟨λ x hx => ?_, i1⟩, ?_, λ e he => ?_⟩
      . rcases List.mem_cons.1 (i2.mem_iff.1 hx) with rfl | hx
        . exact q'
        . exact hp'.1 x hx
      . exact (List.Perm.cons _ i2).trans (.swap _ _ _)
      . rcases List.mem_cons.1 he with rfl | he
        . exact .inr (by simp)
        . rcases i3 e he with h | h
          . exact .inl h
          . exact .inr (by simp [h])
    . cases h
theorem Q00 {c : Ctx} {d : Nat -> Prop} {O : Val} (hc : c.okN d O) : ∀ {l r : List E}, Qcs c l = .ok r -> (Q51 O r).Pairwise (. < ·) /\ (Q51 O r).Perm (Q51 O l) /\ ∀ e ∈ r, e ∈ l
 | [], r, h => by
  simp only [Qcs] at h
  cases h
  exact ⟨by simp, .refl _, λ e he => he⟩
 | k :: l, r, h => by
  simp only [Qcs] at h
  obtain ⟨r', h1, h2⟩ := D.bind_ok h
  obtain ⟨i1, i2, i3⟩ := Q00 hc h1
  obtain ⟨j1, j2, j3⟩ := Q2l hc h2 i1
  refine ⟨j1, j2.trans (List.Perm.cons _ i2), λ e he => ?_⟩
  rcases j3 e he with rfl | he
  . simp
  . simp [i3 e he]
noncomputable def Qfc (c : Ctx) (e : E) : Bool :=
 match (E.iv c.fs e).lo, (E.iv c.fs e).hi with
 | some lo, some hi => ile (.negSucc 9223372036854775807) lo && ile hi (.ofNat 9223372036854775807)
 | _, _ => false
theorem Q7l {c : Ctx} {d : Nat -> Prop} {O : Val} (hc : c.okN d O) {e : E} (h : Qfc c e = true) : -9223372036854775808 <= e.den O /\ e.den O <= 9223372036854775807 := by
 unfold Qfc at h
 have hv := E.Qd hc.2 e
 split at h
 . rename_i lo hi e1 e2
   simp only [Bool.and_eq_true, QL] at h
   have a1 := hv.1 _ e1
   have a2 := hv.2 _ e2
   have b1 : (Int.negSucc 9223372036854775807) = -9223372036854775808 := rfl
   have b2 : (Int.ofNat 9223372036854775807) = 9223372036854775807 := rfl
   rw [b1, b2] at h
   omega
 . cases h
noncomputable def Qdq (c : Ctx) : List (AV × AV × Nat) -> Option (List E)
 | [] => some []
 | x :: l => match x.1 with
  | .int .i64 e => bif Qfc c e then (match Qdq c l with
   | some r => some (e :: r)
   | none => none) else none
  | _ => none
def Q5a (clock : Nat) : Nat -> List (AV × AV × Nat) -> Bool
 | _, [] => true
 | lo, x :: l => Nat.ble lo x.2.2 && (Nat.blt x.2.2 clock && Q5a clock (x.2.2 + 1) l)
theorem Q0n {c : Ctx} {X : Ext} (hc : c.okN X.dom X.O) : ∀ {l : List (AV × AV × Nat)} {es : List MapEntry} {ks : List E}, Qdq c l = some ks -> Q8 X l es -> es.map (·.key) = (Q51 X.O ks).map (Value.int .i64) /\ (∀ e ∈ ks, e.ok X.dom) /\ ∀ z ∈ Q51 X.O ks, -9223372036854775808 <= z /\ z <= 9223372036854775807
 | [], es, ks, h, hr => by
  simp only [Qdq, Option.some.injEq] at h
  subst h
  have : es = [] := hr
  subst this
  exact ⟨rfl, λ e he => (by cases he), λ z hz => (by cases hz)⟩
 | x :: l, es, ks, h, hr => by
  obtain ⟨e, es', rfl, r1, -, -, r4⟩ := hr
  simp only [Qdq] at h
  split at h
  . rename_i k hk
    cases hw : Qfc c k with
    | false => rw [hw] at h; cases h
    | true =>
     rw [hw] at h
     simp only [cond_true] at h
     split at h
     . rename_i r hr'
       cases h
       obtain ⟨i1, i2, i3⟩ := Q0n hc hr' r4
       rw [hk] at r1
       simp only [AV.rel] at r1
       refine ⟨by simp only [List.map_cons, r1.2, i1, Q51], λ y hy => ?_, λ z hz => ?_⟩
       . rcases List.mem_cons.1 hy with rfl | hy
         . exact r1.1
         . exact i2 y hy
       . rcases List.mem_cons.1 (show z ∈ k.den X.O :: Q51 X.O r from hz) with rfl | hz
         . exact Q7l hc hw
         . exact i3 z hz
     . cases h
  . cases h
theorem jJ {X : Ext} {clock : Nat} : ∀ {l : List (AV × AV × Nat)} {es : List MapEntry} {lo : Nat}, Q5a clock lo l = true -> Q8 X l es -> (∀ x ∈ es, lo <= x.born /\ x.born < clock) /\ (es.map (·.born)).Nodup
 | [], es, lo, _, hr => by
  have : es = [] := hr
  subst this
  exact ⟨λ x hx => (by cases hx), by simp⟩
 | x :: l, es, lo, h, hr => by
  obtain ⟨e, es', rfl, -, -, r3, r4⟩ := hr
  simp only [Q5a, Bool.and_eq_true, Nat.ble_eq, Nat.blt_eq] at h
  obtain ⟨i1, i2⟩ := jJ h.2.2 r4
  refine ⟨λ y hy => ?_, ?_⟩
  . rcases List.mem_cons.1 hy with rfl | hy
    . rw [r3]; exact ⟨h.1, h.2.1⟩
    . have := i1 y hy; omega
  . rw [List.map_cons, List.nodup_cons]
    refine ⟨λ hm => ?_, i2⟩
    obtain ⟨y, hy, hb⟩ := List.mem_map.1 hm
    have := (i1 y hy).1
    omega
noncomputable def zk (T : TypeId) (gs : List Nat) : Sum := λ c H next as =>
 match as with
 | [.func g [] [.ptr cb 0]] => bif gs.any (Nat.beq g) then
  match H.get cb with
  | some (.cells [.map r] _ true _ _) => match H.get r with
   | some (.map es clock) => bif Nat.ble es.length 1000000 && Q5a clock 0 es then
    match Qdq c es with
    | some ks => (Qcs c ks).bind λ l => match l with
     | [] => .ok ⟨.nilslice, H, next, c⟩
     | e :: l => QD (next + 1) λ nx => QD (e :: l).length λ n => .ok ⟨.slice next 0 n n 1 false, H.set next (.cells ((e :: l).map (.int .i64)) T false true false), nx, c⟩
    | none => .fail
    else .fail
   | _ => .fail
  | some (.cells [.nilmap] _ true _ _) => .ok ⟨.nilslice, H, next, c⟩
  | _ => .fail
  else .fail
 | _ => .fail
theorem Q3k {ss l : List Int} (hp : ss.Perm l) (hl : l.Pairwise (. < ·)) : ss.mergeSort (λ x y => decide (x <= y)) = l := by
 have tr : ∀ a b c : Int, decide (a <= b) = true -> decide (b <= c) = true -> decide (a <= c) = true := λ a b c h1 h2 => by simp only [decide_eq_true_eq] at *; omega
 have to : ∀ a b : Int, (decide (a <= b) || decide (b <= a)) = true := λ a b => by simp only [Bool.or_eq_true, decide_eq_true_eq]; omega
 refine List.Perm.eq_of_pairwise (le := λ a b => decide (a <= b) = true) (λ a b _ _ h1 h2 => by simp only [decide_eq_true_eq] at h1 h2; omega) (List.pairwise_mergeSort tr to ss) (hl.imp λ {a b} h => by simp only [decide_eq_true_eq]; omega) ((List.mergeSort_perm ss _).trans hp)
theorem Q5e {P : Program} {G : Env} {n0 : Nat} {f : FuncId} {T : TypeId} {gs : List Nat}
 (h1 : ∀ (g b Bm clock : Nat) (es : Array MapEntry) (ks : List Int) (w : World), g ∈ gs -> Bm < w.heap.size -> w.cell? ⟨Bm, 0, none⟩ = some (.map (some b)) -> w.heap[b]? = some (.map es clock) -> es.size <= 1000000 -> MapKept.Stamped es clock -> es.toList.map (·.key) = ks.map (Value.int .i64) -> (∀ z ∈ ks, -9223372036854775808 <= z /\ z <= 9223372036854775807) ->
  Calls P f #[.func (.func g) #[] #[.pointer (some ⟨Bm, 0, none⟩)]] w λ e w' => ∃ (v : Value) (ss : List Int), e = .returned v /\ ss.Perm ks /\ w'.ownsRow w.heap.size T 1 v ss.length ((ss.mergeSort (λ x y => decide (x <= y))).map (Value.int .i64)) /\ (v = .slice none 0 0 ↔ ss = []) /\ Below w.heap.size w w')
 (h2 : ∀ (g Bm : Nat) (w : World), g ∈ gs -> Bm < w.heap.size -> w.cell? ⟨Bm, 0, none⟩ = some (.map none) ->
  Calls P f #[.func (.func g) #[] #[.pointer (some ⟨Bm, 0, none⟩)]] w λ e w' => e = .returned (.slice none 0 0) /\ Below w.heap.size w w') : Y0 P G n0 f (zk T gs) := by
 intro c X H next w args vs r hr hc hg hH h0 hfr hargs fr cs
 unfold zk at hr
 split at hr
 case h_2 => cases hr
 rename_i g cb
 cases hgs : gs.any (Nat.beq g) with
 | false => rw [hgs] at hr; cases hr
 | true =>
  rw [hgs] at hr
  simp only [cond_true] at hr
  have hmem : g ∈ gs := any_beq hgs
  obtain ⟨u, vs', e1, g1, g2⟩ := Qa.1 hargs
  have := rels_nil.1 g2
  subst this
  simp only [AV.rel] at g1
  obtain ⟨as', cs', rfl, g3, g4⟩ := g1
  have ha : as' = #[] := by rw [<- Array.toList_inj]; exact rels_nil.1 g3
  subst ha
  obtain ⟨u, us, e2, g5, g6⟩ := Qa.1 g4
  have := rels_nil.1 g6
  subst this
  simp only [AV.rel] at g5
  obtain ⟨p, hp, rfl⟩ := g5
  have hcs : cs' = #[.pointer (some ⟨p.blk, p.base + 0, none⟩)] := by rw [<- Array.toList_inj]; exact e2
  subst hcs
  have hvs : vs = #[.func (.func g) #[] #[.pointer (some ⟨p.blk, p.base + 0, none⟩)]] := by rw [<- Array.toList_inj]; exact e1
  subst hvs
  have hblk := hH.lt _ _ hp
  split at hr
  . rename_i q el pl ro ho
    have hbase : p.base = 0 := by
     obtain ⟨_, _, _, _, _, hx, _⟩ := hH.obj _ _ _ ho hp
     exact (hx rfl).1
    obtain ⟨mv, hmv, hrel⟩ := hH.cell ho hp (i := 0) (a := .map q) rfl
    rw [hbase] at hmv ⊢
    simp only [AV.rel] at hrel
    obtain ⟨pm, hpm, rfl⟩ := hrel
    split at hr
    . rename_i es clock hmap
      obtain ⟨es', hes, hent⟩ := hH.obj _ _ _ hmap hpm
      cases hb : (Nat.ble es.length 1000000 && Q5a clock 0 es) with
      | false => rw [hb] at hr; cases hr
      | true =>
       rw [hb] at hr
       simp only [Bool.and_eq_true, Nat.ble_eq] at hb
       simp only [cond_true] at hr
       split at hr
       . rename_i ks hks
         obtain ⟨l, hl, hr⟩ := D.bind_ok hr
         obtain ⟨s1, s2, s3⟩ := Q00 hc hl
         obtain ⟨k1, k2, k3⟩ := Q0n hc hks hent
         obtain ⟨t1, t2⟩ := jJ hb.2 hent
         have hlen : es'.size <= 1000000 := by
          have : es'.toList.length = es.length := by
           have : ∀ {xs : List (AV × AV × Nat)} {ys : List MapEntry}, Q8 X xs ys -> ys.length = xs.length := by
            intro xs
            induction xs with
            | nil => intro ys h; have : ys = [] := h; subst this; rfl
            | cons x xs ih => intro ys h; obtain ⟨y, ys', rfl, _, _, _, h4⟩ := h; simp [ih h4]
           exact this hent
          have h3 : es'.size = es'.toList.length := by simp
          omega
         have hnd : (es'.toList.map (·.key)).Nodup := by
          rw [k1]
          have hn1 : (Q51 X.O l).Nodup := s1.imp λ {a b} h => by omega
          have hn2 : (Q51 X.O ks).Nodup := s2.nodup_iff.1 hn1
          exact List.Pairwise.map (Value.int .i64) (λ a b e h => e (by simpa using h)) hn2
         obtain ⟨u, w', ⟨v, ss, rfl, q1, q2, q3, q4⟩, st⟩ := QU ((h1 g pm.blk p.blk clock es' _ w hmem hblk (by simpa using hmv) hes hlen ⟨λ x hx => (t1 x hx).2, t2, hnd⟩ k1 k3).mono (λ e w' ⟨v, ss, a1, a2, a3, a4, a5⟩ => (⟨v, a1, v, ss, rfl, a2, a3, a4, a5⟩ : ∃ u, e = .returned u /\ ∃ v ss, u = v /\ ss.Perm (Q51 X.O ks) /\ w'.ownsRow w.heap.size T 1 v ss.length ((ss.mergeSort (λ x y => decide (x <= y))).map (Value.int .i64)) /\ (v = .slice none 0 0 ↔ ss = []) /\ Below w.heap.size w w'))) fr cs
         have hsort : ss.mergeSort (λ x y => decide (x <= y)) = Q51 X.O l := Q3k (q1.trans s2.symm) s1
         have hsl : ss.length = l.length := by
          have := (q1.trans s2.symm).length_eq
          simpa using this
         rw [hsort] at q2
         split at hr
         . cases hr
           have hss : ss = [] := List.eq_nil_of_length_eq_zero (by simpa using hsl)
           have := q3.2 hss
           subst this
           exact ⟨X, _, w', st, Ext.le.refl X, by simp only [AV.rel], hH.grow q4, q4.mono h0, λ b hb _ => ⟨hb, rfl⟩, Nat.le_refl _, hfr, hc⟩
         . rename_i e l
           simp only [sNat_eq] at hr
           cases hr
           obtain ⟨-, ⟨rfl, hz⟩ | ⟨gb, cap, cur, rfl, b1, b2, b3, b4, b5, b6⟩⟩ := q2
           . rw [hz] at hsl; simp at hsl
           . have hgb : gb < w'.heap.size := (Array.getElem?_eq_some_iff.1 b2).1
             have un := hfr next (Nat.le_refl _)
             have hle : X.le (X.add next ⟨gb, 0, cur.size⟩) := Ext.Zi un
             have hn : ss.length <= cur.size := by omega
             refine ⟨X.add next ⟨gb, 0, cur.size⟩, _, w', st, hle, ?_, (hH.grow q4).place un hgb (by show n0 <= gb; omega) (λ i q hq he => ?_) ?_, q4.mono h0, λ b hb hlt => ⟨?_, ?_⟩, by simp only; omega, λ b hb => ?_, Ctx.Q1p hc hle⟩
             . simp only [AV.rel]
               refine ⟨_, 0, cap, Ext.add_same _ _ _, ?_, Nat.le_refl _, ?_, ?_, λ _ => rfl, λ h => (by cases h)⟩
               . rw [hsl]
               . rw [<- hsl]; exact b3
               . simp only; omega
             . have := hH.lt i q hq
               simp only at he
               omega
             . refine ⟨cur, (0, 0), ⟨T, b2, .inr rfl⟩, rfl, ?_, λ h => (by cases h), λ i a hi => ?_, .inr (.inr rfl), λ _ => rfl⟩
               . simp only [List.length_map, Nat.zero_add]; rw [<- hsl]; exact hn
               . rw [List.getElem?_map] at hi
                 cases hx : (e :: l)[i]? with
                 | none => rw [hx] at hi; cases hi
                 | some x =>
                  rw [hx] at hi
                  simp only [Option.map_some, Option.some.injEq] at hi
                  subst hi
                  refine ⟨.int .i64 (x.den X.O), ?_, ?_⟩
                  . have hb6 := congrArg (·[i]?) b6
                    simp only [Nat.mul_one, List.getElem?_map, hx, Option.map_some, Q51] at hb6
                    have hlt : i < ss.length := by rw [hsl]; exact (List.getElem?_eq_some_iff.1 hx).1
                    rw [List.getElem?_take, if_pos hlt, Array.getElem?_toList] at hb6
                    simpa using hb6
                  . simp only [AV.rel]
                    have hxk : x ∈ ks := s3 x (List.mem_of_getElem? hx)
                    have hok := k2 x hxk
                    exact ⟨E.Qi hle.dom hok, by rw [E.Qc hle.O hok]⟩
             . rw [Ext.Zf (by omega)]; exact hb
             . exact Tr.Q0 _ _ (by omega)
             . have hb' : next + 1 <= b := hb
               rw [Ext.Zf (by omega)]; exact hfr b (by omega)
       . cases hr
    . cases hr
  . rename_i el pl ro ho
    cases hr
    have hbase : p.base = 0 := by
     obtain ⟨_, _, _, _, _, hx, _⟩ := hH.obj _ _ _ ho hp
     exact (hx rfl).1
    obtain ⟨mv, hmv, hrel⟩ := hH.cell ho hp (i := 0) (a := .nilmap) rfl
    rw [hbase] at hmv ⊢
    simp only [AV.rel] at hrel
    subst hrel
    obtain ⟨u, w', ⟨rfl, q4⟩, st⟩ := QU ((h2 g p.blk w hmem hblk (by simpa using hmv)).mono (λ e w' ⟨a1, a2⟩ => (⟨_, a1, rfl, a2⟩ : ∃ u, e = .returned u /\ u = Value.slice none 0 0 /\ Below w.heap.size w w'))) fr cs
    exact ⟨X, _, w', st, Ext.le.refl X, by simp only [AV.rel], hH.grow q4, q4.mono h0, λ b hb _ => ⟨hb, rfl⟩, Nat.le_refl _, hfr, hc⟩
  . cases hr
end Go.Ax
namespace Go.Ax
open Go.RowKit
end Go.Ax
namespace Go.Ax
open Go.RowKit
theorem Q7t {P : Program} {w : World} {t : TypeId} {ms : Array (String × TypeId)} (ht : P.underlying t = some (.interface ms)) : (binOp .neq t .nilIface .nilIface).run P w = .ok (.bool false) w := by
 have hu := run_underlying (P := P) ht w
 have h : (Op.equalIn (9999 + 1) t .nilIface .nilIface).run P w = .ok true w := by
  unfold Op.equalIn
  simp [hu]
 unfold binOp
 simp only [Op.equal, Op.maxDepth, Sem.run_bind]
 rw [show (10000 : Nat) = 9999 + 1 from rfl, h]
 rfl
abbrev dfr (f : FuncId) (td : List Item) (tm : Array Value) (md : FrameMode) : Frame := { fn := f, tmps := tm, todo := td, defers := [], mode := md, kind := .deferred }
theorem Qm4 {f : FuncId} {ops : Array Oper} {i d : Nat} {l : List Nat} {k : List Item} {tm : Array Value} {v : Value} {o : Oper} (ho : ops[i]? = some o) (hd : o.dst = some d) :
 (dfr f (.inRegion ops (i :: l) :: k) tm .run).finish v = dfr f (.inRegion ops l :: k) (tm.setIfInBounds d v) .run := by simp [Frame.finish, ho, hd]
theorem yS {o : Oper} {y : Nat -> Option Bool} (h : o.guard = none) : Region.wanted o y = true := by
 unfold Region.wanted; rw [h]
section
variable {P : Program} {f : FuncId} {c : Frame} {cs : List Frame} {w : World}
theorem Q2r {ops : Array Oper} {i d : Nat} {l : List Nat} {k : List Item} {tm : Array Value} {o : Oper} (hc : c.mode = .returning) (ho : ops[i]? = some o) (hg : o.guard = none) (hd : o.dst = some d)
 (hp : o.op = .call { callee := .builtin .recover, args := #[], argTypes := #[] })
 (h' : Steps P (lone (dfr f (.inRegion ops l :: k) (tm.setIfInBounds d .nilIface) .run) (c :: cs) w) (lone c cs w)) : Steps P (lone (dfr f (.inRegion ops (i :: l) :: k) tm .run) (c :: cs) w) (lone c cs w) := by
 have h := Qax (P := P) (fr := dfr f (.inRegion ops (i :: l) :: k) tm .run) (cs := cs) (w := w) (w' := w) (o := o) rfl rfl ho (yS hg) rfl hc rfl (by unfold execOp; rw [hp]; simp [resolve, invoke, builtin])
 rw [Qm4 ho hd] at h
 exact .head h h'
theorem Qa4 {ops : Array Oper} {i d : Nat} {l : List Nat} {k : List Item} {tm : Array Value} {o : Oper} {v : Value} (ho : ops[i]? = some o) (hg : o.guard = none) (hd : o.dst = some d)
 (hn : ∀ c, o.op ≠ .defer c) (hr : (execOp (evC tm) o).run P w = .ok (.value v) w)
 (h' : Steps P (lone (dfr f (.inRegion ops l :: k) (tm.setIfInBounds d v) .run) (c :: cs) w) (lone c cs w)) : Steps P (lone (dfr f (.inRegion ops (i :: l) :: k) tm .run) (c :: cs) w) (lone c cs w) := by
 have h := ze (P := P) (fr := dfr f (.inRegion ops (i :: l) :: k) tm .run) (cs := c :: cs) (w := w) (w' := w) (o := o) (v := v) rfl rfl ho (yS hg) hn hr
 rw [Qm4 ho hd] at h
 exact .head h h'
theorem Qea {a b : Code} {k : List Item} {tm : Array Value} (h' : Steps P (lone (dfr f (.code a :: .code b :: k) tm .run) (c :: cs) w) (lone c cs w)) : Steps P (lone (dfr f (.code (.seq a b) :: k) tm .run) (c :: cs) w) (lone c cs w) :=
 .head (Qhr rfl rfl) h'
theorem Q15 {id : Nat} {a b : Oper} {k : List Item} {tm : Array Value} (h' : Steps P (lone (dfr f (.inRegion #[a, b] [0, 1] :: k) tm .run) (c :: cs) w) (lone c cs w)) : Steps P (lone (dfr f (.code (.region id #[a, b] false) :: k) tm .run) (c :: cs) w) (lone c cs w) :=
 .head (Q5b rfl rfl) h'
theorem Qeb {ops : Array Oper} {k : List Item} {tm : Array Value} (h' : Steps P (lone (dfr f k tm .run) (c :: cs) w) (lone c cs w)) : Steps P (lone (dfr f (.inRegion ops [] :: k) tm .run) (c :: cs) w) (lone c cs w) :=
 .head (Yp rfl rfl) h'
theorem Qa5 {d : Nat} {a : Code} {tm : Array Value} {fn : Func} (hc : c.mode = .returning) (hf : P.funcs[f]? = some fn) (hr : fn.results = #[]) (hd : evC tm (.tmp d) = .bool false) :
 Steps P (lone (dfr f [.code (.cond (.tmp d) a .skip)] tm .run) (c :: cs) w) (lone c cs w) := by
 refine .head (Q7p (t := false) rfl rfl hd) (.head (Qcm rfl rfl) (.head (Qht rfl rfl rfl) (.one (Qaw (v := .tuple #[]) (w' := w) rfl rfl rfl hc hf ?_))))
 unfold results
 rw [hr]
 simp
theorem Qa2 {tm : Array Value} {o : Oper} {t : TypeId} {x : Nat} {ms : Array (String × TypeId)} (ht : P.underlying t = some (.interface ms)) (hp : o.op = .binOp .neq t (.tmp x) (.const .nilIface) t) (hx : evC tm (.tmp x) = .nilIface) : (execOp (evC tm) o).run P w = .ok (.value (.bool false)) w := by
 have hx' : tm.getD x undef = .nilIface := hx
 unfold execOp; rw [hp]
 simp only [evC, hx', Sem.run_bind, Jt (P := P) (w := w) (op := .neq) (t := t) (xo := .tmp x) (yo := .const .nilIface) rfl, Result.andThen_ok, Q7t ht, Sem.run_pure]
theorem noopA {fn : Func} {i0 i1 : Nat} {o0 o1 o2 o3 : Oper} {c1 : Code} {t : TypeId} {ms : Array (String × TypeId)} (ht : P.underlying t = some (.interface ms)) (hf : P.funcs[f]? = some fn) (hcall : ∀ args w, (callFunc f args).run P w = .ok (.enter f args) w)
 (hb : fn.body = some (.seq (.region i0 #[o0, o1] false) (.seq (.region i1 #[o2, o3] false) (.cond (.tmp 5) c1 .skip)))) (hr : fn.results = #[]) (hn : 6 <= fn.ntmps)
 (p0 : o0.op = .call { callee := .builtin .recover, args := #[], argTypes := #[] }) (d0 : o0.dst = some 3) (g0 : o0.guard = none)
 (p1 : o1.op = .assign (.tmp 3)) (d1 : o1.dst = some 2) (g1 : o1.guard = none)
 (p2 : o2.op = .move (.tmp 2)) (d2 : o2.dst = some 4) (g2 : o2.guard = none)
 (p3 : o3.op = .binOp .neq t (.tmp 4) (.const .nilIface) t) (d3 : o3.dst = some 5) (g3 : o3.guard = none) : Q3b P f := by
 refine ⟨hcall, λ c cs w args hc => ?_⟩
 have he : Frame.enter P f args .deferred = dfr f [.code (.seq (.region i0 #[o0, o1] false) (.seq (.region i1 #[o2, o3] false) (.cond (.tmp 5) c1 .skip)))] (args ++ Array.replicate (fn.ntmps - args.size) undef) .run := by
  simp [Frame.enter, hf, hb]
 rw [he]
 generalize hT : args ++ Array.replicate (fn.ntmps - args.size) undef = T
 have hs : 6 <= T.size := by rw [<- hT]; simp; omega
 clear hT he
 refine Qea (Q15 (Q2r hc rfl g0 d0 p0 (Qa4 (o := o1) (v := .nilIface) rfl g1 d1 (λ cc e => by rw [p1] at e; cases e) ?_ (Qeb (Qea (Q15 (Qa4 (o := o2) (v := .nilIface) rfl g2 d2 (λ cc e => by rw [p2] at e; cases e) ?_ (Qa4 (o := o3) (v := .bool false) rfl g3 d3 (λ cc e => by rw [p3] at e; cases e) (Qa2 ht p3 ?_) (Qeb (Qa5 hc hf hr ?_))))))))))
 . unfold execOp; rw [p1]; simp [evC, show 3 < T.size by omega]
 . unfold execOp; rw [p2]; simp [evC, show 2 < T.size by omega]
 . simp [evC, show 4 < T.size by omega]
 . simp [evC, show 5 < T.size by omega]
theorem noopB {fn : Func} {i0 : Nat} {o0 o1 : Oper} {c1 : Code} {t : TypeId} {ms : Array (String × TypeId)} (ht : P.underlying t = some (.interface ms)) (hf : P.funcs[f]? = some fn) (hcall : ∀ args w, (callFunc f args).run P w = .ok (.enter f args) w)
 (hb : fn.body = some (.seq (.region i0 #[o0, o1] false) (.cond (.tmp 3) c1 .skip))) (hr : fn.results = #[]) (hn : 5 <= fn.ntmps)
 (p0 : o0.op = .call { callee := .builtin .recover, args := #[], argTypes := #[] }) (d0 : o0.dst = some 2) (g0 : o0.guard = none)
 (p3 : o1.op = .binOp .neq t (.tmp 2) (.const .nilIface) t) (d3 : o1.dst = some 3) (g3 : o1.guard = none) : Q3b P f := by
 refine ⟨hcall, λ c cs w args hc => ?_⟩
 have he : Frame.enter P f args .deferred = dfr f [.code (.seq (.region i0 #[o0, o1] false) (.cond (.tmp 3) c1 .skip))] (args ++ Array.replicate (fn.ntmps - args.size) undef) .run := by
  simp [Frame.enter, hf, hb]
 rw [he]
 generalize hT : args ++ Array.replicate (fn.ntmps - args.size) undef = T
 have hs : 5 <= T.size := by rw [<- hT]; simp; omega
 clear hT he
 refine Qea (Q15 (Q2r hc rfl g0 d0 p0 (Qa4 (o := o1) (v := .bool false) rfl g3 d3 (λ cc e => by rw [p3] at e; cases e) (Qa2 ht p3 ?_) (Qeb (Qa5 hc hf hr ?_)))))
 . simp [evC, show 2 < T.size by omega]
 . simp [evC, show 3 < T.size by omega]
end
end Go.Ax
namespace Go.Ax
open Go.RowKit
noncomputable def yO (ts : List (Nat × Nat)) : Sum := λ c H next args =>
 match args with
 | [.ptr b 0] => match H.get b with
  | some (.cells (.nilptr :: ys) el true pl false) => bif ts.any (λ q => Nat.beq q.1 el && Nat.beq q.2 (ys.length + 1)) then .ok ⟨.tuple [], H.set b (.cells (.ptr b 0 :: ys) el true pl false), next, c⟩ else .fail
  | some (.cells (.ptr b' 0 :: _) _ true _ _) => bif Nat.beq b' b then .ok ⟨.tuple [], H, next, c⟩ else .fail
  | _ => .fail
 | _ => .fail
theorem Q8l {P : Program} {G : Env} {n0 : Nat} {f : FuncId} {ts : List (Nat × Nat)}
 (hfresh : ∀ q ∈ ts, ∀ (b : Nat) (w : World), w.cell? ⟨b, 0, none⟩ = some (.pointer none) -> w.shape? b = some (q.1, q.2) -> w.frozen? ⟨b, 0, none⟩ = false ->
  Calls P f #[.pointer (some ⟨b, 0, none⟩)] w λ e w' => e = .returned (.tuple #[]) /\ w' = w.setCell ⟨b, 0, none⟩ (.pointer (some ⟨b, 0, none⟩)))
 (hused : ∀ (b : Nat) (w : World), w.cell? ⟨b, 0, none⟩ = some (.pointer (some ⟨b, 0, none⟩)) -> Calls P f #[.pointer (some ⟨b, 0, none⟩)] w λ e w' => e = .returned (.tuple #[]) /\ w' = w) :
 Y0 P G n0 f (yO ts) := by
 intro c X H next w args vs r h hc hg hH h0 hfr hargs fr cs
 unfold yO at h
 split at h
 . rename_i b
   obtain ⟨v, vs', hvs, hv, hnil⟩ := hargs
   simp only [AV.rel] at hv
   obtain ⟨p, hp, rfl⟩ := hv
   have hnil' : vs' = [] := hnil
   subst hnil'
   have hva : vs = #[.pointer (some ⟨p.blk, p.base + 0, none⟩)] := by rw [<- Array.toList_inj]; exact hvs
   subst hva
   split at h
   . rename_i ys el pl hb
     cases ht : ts.any (λ q => Nat.beq q.1 el && Nat.beq q.2 (ys.length + 1)) with
     | false => rw [ht] at h; cases h
     | true =>
      rw [ht] at h
      cases h
      obtain ⟨q, hq, hqe⟩ := List.any_eq_true.1 ht
      simp only [Bool.and_eq_true, Nat.beq_eq] at hqe
      obtain ⟨cc, frz, ⟨el', h1, mel⟩, h2, h3, h4, h5, h6⟩ := hH.obj _ _ p hb hp
      have mel' := mel.resolve_left (by simp)
      rw [mel'] at h1
      obtain ⟨hb0, hn2⟩ := h4 rfl
      obtain ⟨v, hcell, hvr⟩ := hH.cell (i := 0) hb hp rfl
      simp only [AV.rel] at hvr
      subst hvr
      rw [hb0] at hcell ⊢
      have hsh : w.shape? p.blk = some (q.1, q.2) := by
       simp only [World.shape?, h1, h2, hn2, hqe.1, hqe.2]
       rfl
      have hfz := hH.notFrozen (i := 0) hb hp (by rw [hb0, hn2]; simp)
      rw [hb0] at hfz
      have hst := hH.store (i := 0) (a := .ptr b 0) (v := .pointer (some ⟨p.blk, 0, none⟩)) hb hp (by simp) (by simp only [AV.rel]; exact ⟨p, hp, by rw [hb0]⟩)
      rw [hb0] at hst
      refine ⟨X, .tuple #[], _, JC (hfresh q hq p.blk w hcell hsh hfz) fr cs, Ext.le.refl X, Qr X, hst, ?_, λ d hd _ => ⟨hd, Tr.Q0 _ _ (QK hp hd)⟩, Nat.le_refl _, hfr, hc⟩
      have hown := hH.own b _ p hb rfl hp
      exact ⟨rfl, rfl, rfl, by simp [World.setCell], λ k hk => Below.heap_setCell _ _ _ _ (by simp only; omega)⟩
   . rename_i b' _ el pl ro hb
     cases ht : Nat.beq b' b with
     | false => rw [ht] at h; cases h
     | true =>
      rw [ht] at h
      cases h
      have hbb : b' = b := by simpa using ht
      subst hbb
      obtain ⟨cc, frz, ⟨el', h1, mel⟩, h2, h3, h4, h5, h6⟩ := hH.obj _ _ p hb hp
      obtain ⟨hb0, hn2⟩ := h4 rfl
      obtain ⟨v, hcell, hvr⟩ := hH.cell (i := 0) hb hp rfl
      simp only [AV.rel] at hvr
      obtain ⟨p', hp', rfl⟩ := hvr
      rw [hp] at hp'
      cases hp'
      rw [hb0] at hcell ⊢
      exact ⟨X, .tuple #[], w, JC (hused p.blk w hcell) fr cs, Ext.le.refl X, Qr X, hH, Below.refl _ _, λ d hd _ => ⟨hd, rfl⟩, Nat.le_refl _, hfr, hc⟩
   . cases h
 . cases h
end Go.Ax
namespace Go.Ax
open Go.RowKit
theorem run_next_at {P : Program} (w : World) (ty : TypeId) (r bm since c0 : Nat) (seen : Array Nat) (es : Array MapEntry) (clock : Nat) (hr : w.heap[r]? = some (.mapIter (some bm) since seen c0)) (hb : w.heap[bm]? = some (.map es clock)) (hold : ∀ x ∈ es.toList, x.born < since) (hsc : since <= c0) :
 ((leftOf es seen).size = 0 /\ (Instr.next (.pointer (some ⟨r, 0, none⟩)) false ty).run P w = .ok (.tuple #[.bool false]) w) \/
 ∃ e ∈ (leftOf es seen).toList, ∃ d, (Instr.next (.pointer (some ⟨r, 0, none⟩)) false ty).run P w = .ok (.tuple #[.bool true, e.key, e.val]) { w with heap := w.heap.setIfInBounds r (.mapIter (some bm) since (seen.push e.born) clock), drawn := d } := by
 have g1 := Qj (P := P) hr (by simp)
 have g2 := Qj (P := P) hb (by simp)
 simp only [Instr.next, Sem.run_bind, g1, g2, Result.andThen_ok, next_test_false seen es since c0 hold hsc, Bool.false_eq_true, if_false]
 have hmem : ∀ x ∈ (leftOf es seen).toList, x.born < since := λ x hx => hold x (mem_left hx).1
 unfold leftOf at hmem ⊢
 generalize Array.filter (λ e => !seen.contains e.born) es = L at hmem ⊢
 have e1 : L.filter (λ x => decide (x.born < since)) = L := Array.filter_eq_self.2 (λ x hx => by simpa using hmem x (by simpa using hx))
 have e2 : L.filter (λ x => decide (x.born >= since)) = #[] := by
  rw [Array.filter_eq_empty_iff]
  intro x hx
  have := hmem x (by simpa using hx)
  simp
  omega
 simp only [e1, e2, Array.append_empty]
 by_cases h0 : L.size = 0
 . left
   have : L = #[] := Array.eq_empty_of_size_eq_zero h0
   subst this
   refine ⟨rfl, ?_⟩
   simp [choose, Sem.run, Question.forced]
 . right
   have hne : L.isEmpty = false := by simp [Array.isEmpty, h0]
   simp only [hne, Bool.false_eq_true, if_false, Array.empty_append, Array.size_map]
   have hch : ∃ (j : Nat) (d : Nat), j < L.size /\ (choose (Question.mapNext L.size)).run P w = .ok j { w with drawn := d } := by
    by_cases hf : L.size <= 1
    . exact ⟨0, w.drawn, by omega, by simp [choose, Sem.run, Question.forced, hf]⟩
    . exact ⟨_, w.drawn + 1, Nat.mod_lt _ (by omega), by
       simp only [choose, Sem.run, Question.forced, decide_eq_true_eq, hf, if_false, Question.cut]; rfl⟩
   obtain ⟨j, d, hj, hrun⟩ := hch
   refine ⟨L[j], by simp, d, ?_⟩
   have g3 := QY (P := P) (w := { w with drawn := d }) (o' := .mapIter (some bm) since (seen.push L[j].born) clock) hr (by simp)
   simp only [hrun, Array.getElem?_map, Array.getElem?_eq_getElem hj, Option.map_some, Sem.run_bind, Result.andThen_ok, g3]
   rfl
theorem run_entry_at {P : Program} (w : World) (r bm since : Nat) (seen : Array Nat) (es : Array MapEntry) (clock c0 : Nat) (e : MapEntry) (hr : w.heap[r]? = some (.mapIter (some bm) since (seen.push e.born) c0)) (hb : w.heap[bm]? = some (.map es clock)) (he : e ∈ es.toList) (hn : (es.toList.map (·.born)).Nodup) (hc : c0 = clock) :
 (Instr.entry (.pointer (some ⟨r, 0, none⟩))).run P w = .ok (.tuple #[e.key, e.val]) w := by
 subst hc
 have g1 := Qj (P := P) hr (by simp)
 have g2 := Qj (P := P) hb (by simp)
 have hf : es.find? (·.born == e.born) = some e := by rw [<- Array.find?_toList]; exact find_born e es.toList hn he
 simp only [Instr.entry, Sem.run_bind, g1, g2, Result.andThen_ok, Array.back?_push, bne_self_eq_false, Bool.false_eq_true, if_false, hf]
 rfl
end Go.Ax
namespace Go.Ax
open Go.RowKit
theorem Q4l {k : IntKind} {a b r : E} {O : Val} (h : E.arith .sub k a b = some r) : r.den O = k.wrap (a.den O - b.den O) := by
 unfold E.arith at h
 split at h <;> simp only [Option.some.injEq, reduceCtorEq, E.litS_eq, wrapK_eq] at h <;> subst h <;> first
  | rfl
  | (rw [E.Q3h]; rfl)
  | exact absurd ‹BinOp.sub = BinOp.add› (by decide)
  | exact absurd ‹BinOp.sub = BinOp.mul› (by decide)
noncomputable def Qgn (x : AV × AV × Nat) : Bool :=
 match x.1, x.2.1 with
 | .agg [.int .i64 _, .int .i64 _, .int .i64 _, .int .i64 _, .int .i64 _], .agg [.int .i64 _, .int .i64 _] => true
 | _, _ => false
noncomputable def Qgk (x : AV × AV × Nat) : E :=
 match x.2.1 with
 | .agg [.int .i64 l, _] => l
 | _ => .lit 0
noncomputable def Q9y (c : Ctx) (now l : E) : D Bool :=
 match E.cmp c .gtr now l with
 | some false => .ok true
 | _ => match E.conv .u64 now, E.conv .u64 l with
  | some a, some b => match E.arith .sub .u64 a b with
   | some d => match E.cmp c .gtr d (.lit (.ofNat 400)) with
    | some false => .ok true
    | some true => .ok false
    | none => .ask .gtr d (.lit (.ofNat 400))
   | none => .ok false
  | _, _ => .ok false
noncomputable def yL (c : Ctx) (now : E) : List (AV × AV × Nat) -> D Bool
 | [] => .ok true
 | x :: l => match Q9y c now (Qgk x) with
  | .ok true => yL c now l
  | r => r
def Q5u : List Nat -> Bool
 | [] => true
 | x :: l => !l.any (Nat.beq x) && Q5u l
theorem jN : ∀ {l : List Nat}, Q5u l = true -> l.Nodup
 | [], _ => List.nodup_nil
 | x :: l, h => by
  simp only [Q5u, Bool.and_eq_true, Bool.not_eq_true'] at h
  refine List.nodup_cons.2 ⟨λ hx => ?_, jN h.2⟩
  have : l.any (Nat.beq x) = true := List.any_eq_true.2 ⟨x, hx, by simp⟩
  rw [this] at h
  cases h.1
theorem Q66 {n : Nat -> Prop} {c : Ctx} {O : Val} {now l : E} (hc : c.okN n O) (h : Q9y c now l = .ok true) :
 (decide (now.den O > l.den O) && decide (IntKind.u64.wrap (IntKind.u64.wrap (now.den O) - IntKind.u64.wrap (l.den O)) > 400)) = false := by
 unfold Q9y at h
 split at h
 . rename_i h1
   have := E.Qb rfl h1 hc
   simp only [Yl] at this
   rw [this]
   rfl
 . split at h
   . rename_i a b ha hb
     split at h
     . rename_i d hd
       split at h
       . rename_i h2
         have t := E.Qb rfl h2 hc
         simp only [Yl, E.den] at t
         rw [Q4l hd, <- E.JO (O := O) ha, <- E.JO (O := O) hb] at t
         rw [Bool.and_eq_false_iff, decide_eq_false_iff_not, decide_eq_false_iff_not]
         exact .inr (of_decide_eq_false t)
       . cases h
       . cases h
     . cases h
   . cases h
theorem qm {n : Nat -> Prop} {c : Ctx} {O : Val} {now : E} (hc : c.okN n O) : ∀ {l : List (AV × AV × Nat)}, yL c now l = .ok true -> ∀ x ∈ l, Q9y c now (Qgk x) = .ok true
 | [], _, x, hx => by cases hx
 | y :: l, h, x, hx => by
  unfold yL at h
  split at h
  . rename_i hy
    rcases List.mem_cons.1 hx with rfl | hx
    . exact hy
    . exact qm hc h x hx
  . rename_i r hr
    rw [h] at hr
    exact absurd rfl (hr ·)
theorem J8 {X : Ext} : ∀ {xs : List (AV × AV × Nat)} {es : List MapEntry}, Q8 X xs es -> ∀ e ∈ es, ∃ x ∈ xs, x.1.rel X e.key /\ x.2.1.rel X e.val /\ e.born = x.2.2
 | [], es, h, e, he => by simp only [Q8] at h; subst h; cases he
 | x :: xs, es, ⟨e', es', h1, h2, h3, h4, h5⟩, e, he => by
  subst h1
  rcases List.mem_cons.1 he with rfl | he
  . exact ⟨x, by simp, h2, h3, h4⟩
  . obtain ⟨y, hy, k⟩ := J8 h5 e he
    exact ⟨y, by simp [hy], k⟩
theorem jR {X : Ext} : ∀ {xs : List (AV × AV × Nat)} {es : List MapEntry}, Q8 X xs es -> es.map (·.born) = xs.map (·.2.2)
 | [], es, h => by simp only [Q8] at h; subst h; rfl
 | x :: xs, es, ⟨e', es', h1, h2, h3, h4, h5⟩ => by
  subst h1
  simp only [List.map_cons, h4, jR h5]
noncomputable def Q0y : Sum := λ c H next as =>
 match as with
 | [.ptr F o, .int .i64 now] => match H.get F with
  | some (.cells cs _ _ _ _) => match cs[o + 1]? with
   | some (.map m) => match H.get m with
    | some (.map es clock) => bif es.all Qgn && (es.all (λ x => Nat.blt x.2.2 clock) && Q5u (es.map (·.2.2))) then
     (match yL c now es with
     | .ok true => .ok ⟨.tuple [], H, next, c⟩
     | .ask op a b => .ask op a b
     | _ => .fail) else .fail
    | _ => .fail
   | _ => .fail
  | _ => .fail
 | _ => .fail
theorem Q6a {P : Program} {G : Env} {n0 : Nat} {f : FuncId}
 (h : ∀ (F o mb : Nat) (now : Int) (es : Array MapEntry) (clock : Nat) (w : World), w.cell? ⟨F, o + 1, none⟩ = some (.map (some mb)) -> w.heap[mb]? = some (.map es clock) -> (∀ x ∈ es.toList, x.born < clock) -> (es.toList.map (·.born)).Nodup ->
  (∀ x ∈ es.toList, ∃ a b c d e : Int, x.key = .agg #[.int .i64 a, .int .i64 b, .int .i64 c, .int .i64 d, .int .i64 e]) ->
  (∀ x ∈ es.toList, ∃ l n : Int, x.val = .agg #[.int .i64 l, .int .i64 n] /\ (decide (now > l) && decide (IntKind.u64.wrap (IntKind.u64.wrap now - IntKind.u64.wrap l) > 400)) = false) ->
  Calls P f #[.pointer (some ⟨F, o, none⟩), .int .i64 now] w λ e w' => e = .returned (.tuple #[]) /\ Below w.heap.size w w') : Y0 P G n0 f Q0y := by
 intro c X H next w args vs r hr hc hg hH h0 hfr hargs fr cs
 unfold Q0y at hr
 split at hr
 . rename_i F o now
   split at hr
   . rename_i cells el ex pl ro hF
     split at hr
     . rename_i m hm
       split at hr
       . rename_i es clock hes
         cases hb : (es.all Qgn && (es.all (λ x => Nat.blt x.2.2 clock) && Q5u (es.map (·.2.2)))) with
         | false => rw [hb] at hr; cases hr
         | true =>
          rw [hb] at hr
          simp only [cond_true] at hr
          split at hr
          . rename_i hfresh
            cases hr
            simp only [Bool.and_eq_true] at hb
            obtain ⟨b1, b2, b3⟩ := hb
            obtain ⟨u, vs', e1, g1, g2⟩ := Qa.1 hargs
            obtain ⟨v, vs'', rfl, g3, g4⟩ := Qa.1 g2
            have := rels_nil.1 g4
            subst this
            simp only [AV.rel] at g1 g3
            obtain ⟨p, hp, rfl⟩ := g1
            obtain ⟨k2, rfl⟩ := g3
            have hvs : vs = #[.pointer (some ⟨p.blk, p.base + o, none⟩), .int .i64 (now.den X.O)] := by rw [<- Array.toList_inj]; exact e1
            subst hvs
            obtain ⟨vm, hcell, hvr⟩ := hH.cell (i := o + 1) hF hp hm
            simp only [AV.rel] at hvr
            obtain ⟨pm, hpm, rfl⟩ := hvr
            obtain ⟨es', hmap, hrel⟩ := hH.obj _ _ pm hes hpm
            have hcall := h p.blk (p.base + o) pm.blk (now.den X.O) es' clock w (by rw [Nat.add_assoc]; exact hcell) hmap
             (λ x hx => by
              obtain ⟨y, hy, -, -, hborn⟩ := J8 hrel x hx
              rw [hborn]
              have := List.all_eq_true.1 b2 y hy
              simpa using this)
             (by rw [jR hrel]; exact jN b3)
             (λ x hx => by
              obtain ⟨y, hy, hk, -, -⟩ := J8 hrel x hx
              have := List.all_eq_true.1 b1 y hy
              unfold Qgn at this
              split at this
              . rename_i e1 e2 e3 e4 e5 f1 f2 q1 q2
                rw [q1] at hk
                simp only [AV.rel] at hk
                obtain ⟨ws, hw1, hw2⟩ := hk
                obtain ⟨v1, l1, r1, a1, hw2⟩ := Qa.1 hw2
                obtain ⟨v2, l2, r2, a2, hw2⟩ := Qa.1 hw2
                obtain ⟨v3, l3, r3, a3, hw2⟩ := Qa.1 hw2
                obtain ⟨v4, l4, r4, a4, hw2⟩ := Qa.1 hw2
                obtain ⟨v5, l5, r5, a5, hw2⟩ := Qa.1 hw2
                have r6 := rels_nil.1 hw2
                subst r6 r5 r4 r3 r2
                simp only [AV.rel] at a1 a2 a3 a4 a5
                refine ⟨e1.den X.O, e2.den X.O, e3.den X.O, e4.den X.O, e5.den X.O, ?_⟩
                rw [hw1]
                congr 1
                rw [<- Array.toList_inj, r1, a1.2, a2.2, a3.2, a4.2, a5.2]
              . cases this)
             (λ x hx => by
              obtain ⟨y, hy, -, hv, -⟩ := J8 hrel x hx
              have hfl := List.all_eq_true.1 b1 y hy
              have hfr := Q66 (O := X.O) hc (qm hc hfresh y hy)
              unfold Qgn at hfl
              split at hfl
              . rename_i e1 e2 e3 e4 e5 f1 f2 q1 q2
                have hl : Qgk y = f1 := by unfold Qgk; rw [q2]
                rw [q2] at hv
                simp only [AV.rel] at hv
                obtain ⟨ws, hw1, hw2⟩ := hv
                obtain ⟨v1, l1, r1, a1, hw2⟩ := Qa.1 hw2
                obtain ⟨v2, l2, r2, a2, hw2⟩ := Qa.1 hw2
                have r6 := rels_nil.1 hw2
                subst r6 r2
                simp only [AV.rel] at a1 a2
                refine ⟨f1.den X.O, f2.den X.O, ?_, by rw [<- hl]; exact hfr⟩
                rw [hw1]
                congr 1
                rw [<- Array.toList_inj, r1, a1.2, a2.2]
              . cases hfl)
            obtain ⟨u, w', ⟨rfl, hB⟩, st⟩ := QU (q := λ v w' => v = .tuple #[] /\ Below w.heap.size w w') (hcall.mono λ e w' he => ⟨.tuple #[], he.1, rfl, he.2⟩) fr cs
            exact ⟨X, .tuple #[], w', st, Ext.le.refl X, Qr X, ⟨λ b o p ho hp => by rw [hB.block _ (hH.lt _ _ hp)]; exact hH.obj b o p ho hp, hH.inj, λ b p hp => Nat.lt_of_lt_of_le (hH.lt b p hp) hB.size, hH.own⟩, hB.mono h0, λ b hb _ => ⟨hb, rfl⟩, Nat.le_refl _, hfr, hc⟩
          . cases hr
          . cases hr
       . cases hr
     . cases hr
   . cases hr
 . cases hr
end Go.Ax
namespace Go.Ax
open Go.RowKit
structure Fr where
 fn : Nat
 nt : Nat
 cur : Q1n
 todo : List Qt
 tms : List AV
noncomputable def Fr.af (f : Fr) : Qk := ⟨f.fn, f.nt, setArgs 0 f.tms (.sk f.nt), f.cur, f.todo, [], false, none⟩
structure StC where
 fr : Fr
 cs : List Fr
 l : List (Nat × Q7)
 next : Nat
 fs : List Fact
 vs : List Nat
noncomputable def StC.am (t : StC) (room : Nat) : AM := ⟨t.fr.af, t.cs.map Fr.af, Qbe room t.l, t.next, ⟨t.fs, t.vs⟩⟩
noncomputable def curB : Q1n -> Bool
 | .draw ops done rest pa => match rest, pa with
  | (i, _) :: _, [] => Nat.beq (Nat.land done (((Q8o ops 0 (.sk ops.length)).get i).getD 0)) done
  | _, _ => false
 | _ => true
theorem Q6i {ops : List Oper} {done : Nat} {rest : List (Nat × List Nat)} {pa : List (Nat × Nat)} (h : curB (.draw ops done rest pa) = true) : ∃ i rc rest', rest = (i, rc) :: rest' /\ pa = [] /\ Nat.land done (((Q8o ops 0 (.sk ops.length)).get i).getD 0) = done := by
 cases rest with
 | nil => simp [curB] at h
 | cons q r =>
  obtain ⟨i, rc⟩ := q
  cases pa with
  | nil => exact ⟨i, rc, r, rfl, rfl, Nat.eq_of_beq_eq_true h⟩
  | cons => simp [curB] at h
noncomputable def frB (U : Sb) (vs : List Nat) (K : Nat -> Bool) (a : Qk) (f : Fr) : Bool :=
 !a.ret && (Q6e a.defers && (Qj5 a.ro && (curB a.cur && (a.todo.all Q27 && (Q8m U vs K a.tm 0 f.tms && Nat.beq f.tms.length a.nt)))))
noncomputable def Qjn (U : Sb) (vs : List Nat) (K : Nat -> Bool) : List Qk -> List Fr -> Bool
 | [], [] => true
 | a :: as, f :: fs => frB U vs K a f && Qjn U vs K as fs
 | _, _ => false
section
variable {P : Program} {G : Env} {n0 : Nat} {H H' : Tr Q7} {X X' : Ext} {U : Sb} {vs : List Nat} {K : Nat -> Bool} {a : Qk} {t : Fr} {f : Frame}
theorem Q9z (hk : frB U vs K a t = true) (h1 : a.fn = t.fn) (h : Q4z P X a f) : Q4z P X' t.af f := by
 simp only [frB, Bool.and_eq_true, Bool.not_eq_true'] at hk
 obtain ⟨b1, b2, b3, -⟩ := hk
 have hdef : a.defers = [] := by cases hh : a.defers with
  | nil => rfl
  | cons a l => rw [hh] at b2; cases b2
 have hro : a.ro = none := by cases hh : a.ro with
  | none => rfl
  | some a => rw [hh] at b3; cases b3
 refine ⟨h.fn.trans h1, h.kind, ?_, ?_⟩
 . have := h.ro
   rw [hro] at this
   exact this
 . have := h.defers
   rw [hdef] at this
   exact this
theorem Qhm.Y4 (hc : Cast U vs K X X') (hk : frB U vs K a t = true) (b4 : Q2c a.cur = true) (h1 : a.fn = t.fn) (h2 : a.nt = t.nt) (h3 : a.cur = t.cur) (h4 : a.todo = t.todo) (h : Qhm P G X n0 H a f) : Qhm P G X' n0 H' t.af f /\ Qv t.af = [] := by
 have hb := Q9z (X' := X') hk h1 h.1
 simp only [frB, Bool.and_eq_true, Bool.not_eq_true', Nat.beq_eq] at hk
 obtain ⟨b1, -, -, -, b5, b6, b7⟩ := hk
 obtain ⟨-, h'⟩ := h
 rw [b1] at h'
 obtain ⟨hm, is, his, hcur'⟩ := h'
 have htm : ∀ {tmps}, QW X a.nt a.tm tmps -> QW X' t.af.nt t.af.tm tmps := λ h => by
  have := QW.Y4 hc h b6 b7
  rw [h2] at this
  exact this
 have hids : Qv t.af = [] := by
  show Qv t.af = []
  unfold Qv
  show (match t.cur with | .draw _ _ _ pa => pa.map (·.2) | _ => []) = []
  rw [<- h3]
  cases hcc : a.cur with
  | draw ops done rest pa => rw [hcc] at b4; cases b4
  | _ => rfl
 refine ⟨⟨hb, hm, is, ?_, ?_⟩, hids⟩
 . show J5 X' t.todo is
   rw [<- h4]
   exact Yh b5 his
 . show match t.cur with
    | .none => _
    | .reg ops k rest => _
    | .draw ops done rest pa => _
   rw [<- h3]
   cases hcc : a.cur with
   | none => rw [hcc] at hcur'; exact ⟨hcur'.1, htm hcur'.2⟩
   | reg ops k rest => rw [hcc] at hcur'; exact ⟨hcur'.1, hcur'.2.1, htm hcur'.2.2⟩
   | draw ops done rest pa => rw [hcc] at b4; cases b4
theorem Qan.Y4 (hc : Cast U vs K X X') (hk : frB U vs K a t = true) (h1 : a.fn = t.fn) (h2 : a.nt = t.nt) (h3 : a.cur = t.cur) (h4 : a.todo = t.todo) (h : Qan P G X n0 H a f) : Qan P G X' n0 H' t.af f /\ Qv t.af = [] := by
 have hb := Q9z (X' := X') hk h1 h.1
 simp only [frB, Bool.and_eq_true, Bool.not_eq_true', Nat.beq_eq] at hk
 obtain ⟨b1, -, -, b4, b5, b6, b7⟩ := hk
 obtain ⟨-, -, hm, is, his, hcur'⟩ := h
 have htm : ∀ {tmps}, QW X a.nt a.tm tmps -> QW X' t.af.nt t.af.tm tmps := λ h => by
  have := QW.Y4 hc h b6 b7
  rw [h2] at this
  exact this
 have hids : Qv t.af = [] := by
  unfold Qv
  show (match t.cur with | .draw _ _ _ pa => pa.map (·.2) | _ => []) = []
  rw [<- h3]
  cases hcc : a.cur with
  | draw ops done rest pa =>
   rw [hcc] at b4
   obtain ⟨-, -, -, -, rfl, -⟩ := Q6i b4
   rfl
  | _ => rfl
 refine ⟨⟨hb, rfl, hm, is, ?_, ?_⟩, hids⟩
 . show J5 X' t.todo is
   rw [<- h4]
   exact Yh b5 his
 . show match t.cur with
    | .none => _
    | .reg ops k rest => _
    | .draw ops done rest pa => _
   rw [<- h3]
   cases hcc : a.cur with
   | none => rw [hcc] at hcur'; exact ⟨hcur'.1, htm hcur'.2⟩
   | reg ops k rest => rw [hcc] at hcur'; exact ⟨hcur'.1, hcur'.2.1, hcur'.2.2.1, htm hcur'.2.2.2⟩
   | draw ops done rest pa =>
    rw [hcc] at hcur' b4
    obtain ⟨A, fuel, tp, listed, i, rc, rest', o, g1, g2, g3, g4, g5, g6, g7, g8, D⟩ := hcur'
    subst g2
    have hall : ∀ j, done.testBit j = true -> Lst listed j := λ j hj => by
     obtain ⟨i', rc', r', e, -, hl⟩ := Q6i b4
     cases e
     refine D.before g3 g8 ?_
     have : (Nat.land done (((Q8o ops 0 (.sk ops.length)).get i).getD 0)).testBit j = true := by rw [hl]; exact hj
     change (done &&& _).testBit j = true at this
     rw [Nat.testBit_and, Bool.and_eq_true] at this
     exact this.2
    have htm' : QW X' t.af.nt t.af.tm f.tmps := htm ⟨D.tmr.1, λ u => D.tmr.2 u λ j oj hj hl _ => absurd (hall j hj) hl⟩
    exact ⟨A, fuel, tp, listed, i, rc, rest', o, g1, rfl, g3, g4, g5, g6, g7, g8, D.size, D.sub, D.closed, D.plan, D.light, D.looks, D.inRange, ⟨htm'.1, λ u _ => htm'.2 u⟩, λ j oj hj hl _ => absurd (hall j hj) hl⟩
end
abbrev sk4 (a : Qk) : Nat × Nat × Q1n × List Qt := (a.fn, a.nt, a.cur, a.todo)
abbrev Fr.sk4 (a : Fr) : Nat × Nat × Q1n × List Qt := (a.fn, a.nt, a.cur, a.todo)
theorem ZO.Y4 {P : Program} {G : Env} {n0 : Nat} {H H' : Tr Q7} {X X' : Ext} {U : Sb} {vs : List Nat} {K : Nat -> Bool} (hc : Cast U vs K X X') : ∀ {as : List Qk} {ts : List Fr} {cs : List Frame}, Qjn U vs K as ts = true -> as.map sk4 = ts.map Fr.sk4 -> ZO P G X n0 H as cs -> ZO P G X' n0 H' (ts.map Fr.af) cs /\ (ts.map Fr.af).flatMap Qv = []
 | [], ts, cs, hk, e, h => by
  cases ts with
  | nil => exact ⟨h, rfl⟩
  | cons t ts => simp [Qjn] at hk
 | a :: as, ts, cs, hk, e, h => by
  cases ts with
  | nil => simp [Qjn] at hk
  | cons t ts =>
   simp only [Qjn, Bool.and_eq_true] at hk
   simp only [List.map_cons, List.cons.injEq] at e
   obtain ⟨e1, e2⟩ := e
   simp only [sk4, Fr.sk4, Prod.mk.injEq] at e1
   obtain ⟨f, fs, rfl, h1, h2⟩ := h
   obtain ⟨k1, k2⟩ := Qan.Y4 (H' := H') hc hk.1 e1.1 e1.2.1 e1.2.2.1 e1.2.2.2 h1
   obtain ⟨k3, k4⟩ := ZO.Y4 hc hk.2 e2 h2
   refine ⟨⟨f, fs, rfl, k1, k3⟩, ?_⟩
   simp only [List.map_cons, List.flatMap_cons, k2, k4, List.append_nil]
theorem Sim.Qiu {P : Program} {G : Env} {n0 : Nat} {w0 : World} {cs0 : List Frame} {X : Ext} {s : AM} {m : Machine} {U : Sb} {K : Nat -> Bool} {t : StC} {room : Nat} (h : Sim P G n0 w0 cs0 X s m)
 (hf : frB U t.vs K s.fr t.fr = true) (hnd : Q2c s.fr.cur = true) (hfs : Qjn U t.vs K s.cs t.cs = true) (e0 : sk4 s.fr = t.fr.sk4) (e1 : s.cs.map sk4 = t.cs.map Fr.sk4) (hH : Qi3 U t.vs K s.H t.l = true)
 (hng : 0 < G.T.ng) (hKg : ∀ b, b < G.T.ng -> K b = true) (hKn : ∀ b, t.next <= b -> K b = false) (hvn : ∀ i ∈ t.vs, i < t.next) (hvd : ∀ i ∈ t.vs, K i = true -> X.dom i)
 (hctx : (⟨t.fs, t.vs⟩ : Ctx).okN (QF U t.vs K X).dom (QF U t.vs K X).O) : Sim P G n0 w0 cs0 (QF U t.vs K X) (t.am room) m := by
 obtain ⟨fr, cs, w, rfl, hF, hall, hHr, hB, h0⟩ := h.ex
 obtain ⟨k0, hk0⟩ := h.Ql 0 hng
 have hc : Cast U t.vs K X (QF U t.vs K X) := by
  refine ⟨λ i hi => ⟨?_, by simp only [QF, if_pos hi], rfl⟩, λ b hb => by simp only [QF, if_pos hb]⟩
  by_cases hk : K i = true
  . obtain ⟨p, hp⟩ := hvd i hi hk
    exact ⟨p, by simp only [QF, if_pos hk, hp]⟩
  . exact ⟨_, by simp only [QF, if_neg hk, if_pos hi]; exact hk0⟩
 have hlt : ∀ b p, (QF U t.vs K X).V b = some p -> p.blk < w.heap.size := λ b p hp => by
  simp only [QF] at hp
  split at hp
  . exact hHr.lt b p hp
  . split at hp
    . exact hHr.lt 0 p hp
    . cases hp
 simp only [sk4, Fr.sk4, Prod.mk.injEq] at e0
 obtain ⟨g1, g2⟩ := Qhm.Y4 (H' := Qbe room t.l) hc hf hnd e0.1 e0.2.1 e0.2.2.1 e0.2.2.2 hF
 obtain ⟨g3, g4⟩ := ZO.Y4 (H' := Qbe room t.l) hc hfs e1 hall
 refine ⟨⟨fr, cs, w, rfl, g1, g3, Qp.Y4 hHr hc hlt hH, hB, h0⟩, hctx, λ g hg => ?_, λ b hb => ?_, ?_⟩
 . obtain ⟨n, hn⟩ := h.Ql g hg
   exact ⟨n, by simp only [QF, if_pos (hKg g hg)]; exact hn⟩
 . simp only [QF]
   have hb' : t.next <= b := hb
   rw [if_neg (by rw [hKn b hb']; simp), if_neg (λ hm => by have := hvn b hm; omega)]
 . have e : (t.am room).fr :: (t.am room).cs = t.fr.af :: t.cs.map Fr.af := rfl
   rw [e, List.flatMap_cons, g2, g4]
   simp
def Qcu : Nat -> List Qk -> Bool
 | _, [] => true
 | 0, _ :: _ => false
 | L + 1, _ :: l => Qcu L l
noncomputable def Qje (L : Nat) (spec : Spec) (G : Env) (n : Nat) (s : AM) : Jp :=
 Jp.rec (motive := λ _ => Jp) (λ s => Bool.rec (motive := λ _ => Jp) (.go s) (.stop s) (Qcu L s.cs)) (λ s => .stop s) (leaf spec G n s)
noncomputable def Qio (L : Nat) (spec : Spec) (G : Env) (n : Nat) (k : Nat) : AM -> Jp :=
 Nat.rec (motive := λ _ => AM -> Jp) (λ s => Qje L spec G n s)
  (λ _ ih s => Jp.rec (motive := λ _ => Jp) (λ s => ih s) (λ s => .stop s) (ih s)) k
theorem Qgj {L : Nat} {spec : Spec} {G : Env} (hs : ZE G spec) (n : Nat) (s : AM) : Z6 G s (Qje L spec G n s).state := by
 have h := Q03 hs n 0 s
 have e : Qfa spec G n 0 s = leaf spec G n s := rfl
 rw [e] at h
 unfold Qje
 cases hl : leaf spec G n s with
 | stop t => rw [hl] at h; exact h
 | go t =>
  rw [hl] at h
  simp only
  cases Qcu L t.cs <;> exact h
theorem Q7v {L : Nat} {spec : Spec} {G : Env} (hs : ZE G spec) (n : Nat) : ∀ (k : Nat) (s : AM), Z6 G s (Qio L spec G n k s).state
 | 0, s => Qgj hs n s
 | k + 1, s => by
  have h := Q7v (L := L) hs n k s
  have e : Qio L spec G n (k + 1) s = Jp.rec (motive := λ _ => Jp) (λ s => Qio L spec G n k s) (λ s => .stop s) (Qio L spec G n k s) := rfl
  rw [e]
  cases hr : Qio L spec G n k s with
  | stop t => rw [hr] at h; exact h
  | go t =>
   rw [hr] at h
   exact h.trans (Q7v hs n k t)
noncomputable def Qkd (L : Nat) (spec : Spec) (G : Env) (n k i : Nat) : AM -> AM :=
 Nat.rec (motive := λ _ => AM -> AM) (λ s => AM.rec (motive := λ _ => AM) (λ fr cs H nx c => ⟨fr, cs, H, nx, c⟩) (Qio L spec G n k s).state)
  (λ _ ih s => AM.rec (motive := λ _ => AM) (λ fr cs H nx c => ih ⟨fr, cs, H, nx, c⟩) (ih s)) i
theorem Q7y {L : Nat} {spec : Spec} {G : Env} (hs : ZE G spec) (n k : Nat) : ∀ (i : Nat) (s : AM), Z6 G s (Qkd L spec G n k i s)
 | 0, s => by
  have h := Q7v (L := L) hs n k s
  have e : Qkd L spec G n k 0 s = AM.rec (motive := λ _ => AM) (λ fr cs H nx c => ⟨fr, cs, H, nx, c⟩) (Qio L spec G n k s).state := rfl
  rw [e]
  exact h
 | i + 1, s => by
  have h := Q7y (L := L) hs n k i s
  have e : Qkd L spec G n k (i + 1) s = AM.rec (motive := λ _ => AM) (λ fr cs H nx c => Qkd L spec G n k i ⟨fr, cs, H, nx, c⟩) (Qkd L spec G n k i s) := rfl
  rw [e]
  exact h.trans (Q7y hs n k i _)
noncomputable def Q7x (L : Nat) (spec : Spec) (G : Env) (n k : Nat) : List Nat -> AM -> AM
 | [], s => s
 | i :: l, s => AM.rec (motive := λ _ => AM) (λ fr cs H nx c => Q7x L spec G n k l ⟨fr, cs, H, nx, c⟩) (Qkd L spec G n k i s)
theorem yG {L : Nat} {spec : Spec} {G : Env} (hs : ZE G spec) (n k : Nat) : ∀ (l : List Nat) (s : AM), Z6 G s (Q7x L spec G n k l s)
 | [], s => .refl s
 | i :: l, s => (Q7y hs n k i s).trans (yG hs n k l _)
noncomputable def Qgm (U : Sb) (keep : List Nat) (ng : Nat) (t : StC) (s : AM) : Bool :=
 Q2c s.fr.cur && (frB U t.vs (Qy ng keep) s.fr t.fr && (Qjn U t.vs (Qy ng keep) s.cs t.cs && (Qi3 U t.vs (Qy ng keep) s.H t.l && (Qbu U t.vs s.ctx t.fs &&
  (Nat.ble ng t.next && (keep.all (λ b => Nat.blt b t.next) && (t.vs.all (λ i => Nat.blt i t.next) && t.vs.all (λ i => !Qy ng keep i || s.ctx.vs.any (Nat.beq i)))))))))
def Qc8 (L : Nat) (spec : Spec) (G : Env) (n k : Nat) (s : AM) (j : List Nat) (U : Sb) (keep : List Nat) (t : StC) : Prop :=
 (AM.rec (motive := λ _ => (Nat × Nat × Q1n × List Qt) × List (Nat × Nat × Q1n × List Qt) × Bool) (λ fr cs H nx c => (sk4 fr, cs.map sk4, Qgm U keep G.T.ng t ⟨fr, cs, H, nx, c⟩)) (Q7x L spec G n k j s)) = (t.fr.sk4, t.cs.map Fr.sk4, true)
section
variable {P : Program} {G : Env} {n0 : Nat} {w0 : World} {cs0 : List Frame}
theorem Q9v {X : Ext} {s : AM} {m : Machine} {U : Sb} {keep : List Nat} {t : StC} {room : Nat} (h : Sim P G n0 w0 cs0 X s m) (hng : 0 < G.T.ng) (h1 : sk4 s.fr = t.fr.sk4) (h2 : s.cs.map sk4 = t.cs.map Fr.sk4) (hb : Qgm U keep G.T.ng t s = true) :
 Sim P G n0 w0 cs0 (QF U t.vs (Qy G.T.ng keep) X) (t.am room) m := by
 simp only [Qgm, Bool.and_eq_true, List.all_eq_true, Nat.ble_eq, Nat.blt_eq, Bool.or_eq_true, Bool.not_eq_true'] at hb
 obtain ⟨b6, b7, b8, b9, b10, b11, b12, b13, b14⟩ := hb
 have hKn : ∀ b, t.next <= b -> Qy G.T.ng keep b = false := λ b hb => by
  unfold Qy
  rw [Bool.or_eq_false_iff]
  refine ⟨?_, ?_⟩
  . cases hh : Nat.blt b G.T.ng with
    | false => rfl
    | true => rw [Nat.blt_eq] at hh; omega
  . rw [List.any_eq_false]
    intro c hc he
    have : b = c := by simpa using he
    subst this
    have := b12 b hc
    omega
 have hvd : ∀ i ∈ t.vs, Qy G.T.ng keep i = true -> X.dom i := λ i hi hk => by
  rcases b14 i hi with h' | h'
  . rw [hk] at h'; cases h'
  . exact h.ctx.1 i (any_beq h')
 obtain ⟨k0, hk0⟩ := h.Ql 0 hng
 have hC : Cast U t.vs (Qy G.T.ng keep) X (QF U t.vs (Qy G.T.ng keep) X) := by
  refine ⟨λ i hi => ⟨?_, by simp only [QF, if_pos hi], rfl⟩, λ b hb => by simp only [QF, if_pos hb]⟩
  by_cases hk : Qy G.T.ng keep i = true
  . obtain ⟨p, hp⟩ := hvd i hi hk
    exact ⟨p, by simp only [QF, if_pos hk, hp]⟩
  . exact ⟨_, by simp only [QF, if_neg hk, if_pos hi]; exact hk0⟩
 exact Sim.Qiu h b7 b6 b8 h1 h2 b9 hng (λ b hb => by unfold Qy; rw [show Nat.blt b G.T.ng = true from by rw [Nat.blt_eq]; exact hb]; rfl) hKn b13 hvd (J9 hC h.ctx b10)
theorem Qc8.sim (hT : G.T.OK P) (hI : YU.OK P G.I) (hS : ZC P G n0) (hng : 0 < G.T.ng) {L : Nat} {X : Ext} {s : AM} {m : Machine} {n k room : Nat} {j : List Nat} {U : Sb} {keep : List Nat} {t : StC} (hh : Qc8 L jX G n k s j U keep t) (h : Sim P G n0 w0 cs0 X s m) :
 ∃ Y m', Steps P m m' /\ X.le Y /\ Sim P G n0 w0 cs0 (QF U t.vs (Qy G.T.ng keep) Y) (t.am room) m' := by
 obtain ⟨Y, m', st, hle, h1⟩ := Za hT hI hS (yG (L := L) zf n k j s) h
 refine ⟨Y, m', st, hle, ?_⟩
 unfold Qc8 at hh
 generalize Q7x L jX G n k j s = s1 at hh h1
 obtain ⟨fr, cs, H, nx, c⟩ := s1
 simp only [Prod.mk.injEq] at hh
 exact Q9v h1 hng (by simp only [sk4, Fr.sk4, Prod.mk.injEq]; exact hh.1) hh.2.1 hh.2.2
theorem Qc8.ends (hT : G.T.OK P) (hI : YU.OK P G.I) (hS : ZC P G n0) (hng : 0 < G.T.ng) {L : Nat} {f : FuncId} {s : AM} {n k room : Nat} {j : List Nat} {U : Sb} {keep : List Nat} {t : StC} (hh : Qc8 L jX G n k s j U keep t)
 (he : ∀ X m, Sim P G n0 w0 cs0 X (t.am room) m -> Z5 P n0 w0 cs0 f m) {X : Ext} {m : Machine} (h : Sim P G n0 w0 cs0 X s m) : Z5 P n0 w0 cs0 f m := by
 obtain ⟨Y, m', st, -, hs⟩ := Qc8.sim hT hI hS hng hh h
 exact .of_steps st (he _ _ hs)
theorem Sim.partC {X : Ext} {t : StC} {room : Nat} {m : Machine} (h : Sim P G n0 w0 cs0 X (t.am room) m) (op : BinOp) (a b : E) (ha : a.okB t.vs = true) (hb : b.okB t.vs = true) :
 Sim P G n0 w0 cs0 X ({ t with fs := ⟨op, a, b, true⟩ :: t.fs }.am room) m \/ Sim P G n0 w0 cs0 X ({ t with fs := ⟨op, a, b, false⟩ :: t.fs }.am room) m := by
 have key : ∀ v, (Fact.mk op a b v).ok X.O -> Sim P G n0 w0 cs0 X ({ t with fs := ⟨op, a, b, v⟩ :: t.fs }.am room) m := λ v hv => by
  refine ⟨h.ex, ⟨h.ctx.1, λ f hm => ?_⟩, h.Ql, h.fresh, h.ids⟩
  rcases List.mem_cons.1 hm with rfl | hm
  . exact ⟨hv, E.Zu h.ctx.1 ha, E.Zu h.ctx.1 hb⟩
  . exact h.ctx.2 f hm
 have hdec : (Fact.mk op a b true).ok X.O \/ (Fact.mk op a b false).ok X.O := by
  unfold Fact.ok
  cases Yl op (a.den X.O) (b.den X.O) <;> simp
 rcases hdec with h' | h'
 . exact .inl (key _ h')
 . exact .inr (key _ h')
end
end Go.Ax
namespace Go.Ax
open Go.RowKit
end Go.Ax
namespace Go.Ax
open Go.RowKit
noncomputable def Q1t (r : Nat) : Nat := bif Nat.beq (Nat.mod r 2) 1 then Nat.xor (Nat.div r 2) 3988292384 else Nat.div r 2
theorem Qgs (r : Nat) : Q1t r = YR r := by
 unfold Q1t YR
 cases h : Nat.beq (Nat.mod r 2) 1 with
 | true => rw [if_pos (show r % 2 = 1 from Nat.eq_of_beq_eq_true h)]; rfl
 | false => rw [if_neg (λ e => by rw [show Nat.mod r 2 = r % 2 from rfl, e] at h; cases h)]; rfl
noncomputable def crc8 {β : Type} (r : Nat) (k : Nat -> β) : β :=
 QD (Q1t r) λ r => QD (Q1t r) λ r => QD (Q1t r) λ r => QD (Q1t r) λ r => QD (Q1t r) λ r => QD (Q1t r) λ r => QD (Q1t r) λ r => QD (Q1t r) k
theorem Qju {β : Type} (r : Nat) (k : Nat -> β) : crc8 r k = k (Nat.repeat YR 8 r) := by
 simp only [crc8, sNat_eq, Qgs, Nat.repeat]
noncomputable def crcE : List E -> Nat -> Option Nat
 | [], r => some r
 | .lit (.ofNat b) :: l, r => crc8 (Nat.xor r (Nat.mod b 256)) λ r => crcE l r
 | _ :: _, _ => none
theorem Q2s {O : Val} : ∀ {l : List E} {r m : Nat}, crcE l r = some m -> (S.bytes O l).foldl Yk r = m
 | [], r, m, h => by cases h; rfl
 | e :: l, r, m, h => by
  unfold crcE at h
  split at h
  . rename_i h1; cases h1
  . rename_i b l' r' h1
    cases h1
    rw [Qju] at h
    rw [<- Q2s (O := O) h]
    simp only [S.bytes, List.map_cons, List.foldl_cons, Yk, E.den]
    congr 2
  . cases h
noncomputable def ckE : List E -> Nat -> Option Nat
 | [], n => some n
 | [.lit (.ofNat a)], n => QD (Nat.add n (Nat.mul (Nat.mod a 256) 256)) some
 | .lit (.ofNat a) :: .lit (.ofNat b) :: l, n => QD (Nat.add n (Nat.add (Nat.mul (Nat.mod a 256) 256) (Nat.mod b 256))) λ n => ckE l n
 | _, _ => none
theorem Q6m {O : Val} : ∀ {l : List E} {n m : Nat}, ckE l n = some m -> n + Q7e (S.bytes O l) = m
 | l, n, m, h => by
  unfold ckE at h
  split at h
  . cases h; simp [S.bytes, Q7e]
  . rename_i a
    simp only [sNat_eq, Option.some.injEq] at h
    subst h
    simp only [S.bytes, List.map_cons, List.map_nil, Q7e, E.den, Int.ofNat_eq_natCast, Int.toNat_natCast, UInt8.toNat_ofNat']
    rfl
  . rename_i a b l'
    rw [sNat_eq] at h
    have := Q6m (O := O) h
    simp only [S.bytes, List.map_cons, Q7e, E.den, Int.ofNat_eq_natCast, Int.toNat_natCast, UInt8.toNat_ofNat'] at this ⊢
    rw [<- this]
    show n + (a % 256 * 256 + b % 256 + _) = n + (a % 256 * 256 + b % 256) + _
    omega
  . cases h
noncomputable def Qgf (k : Nat) (s : List E) : Option Nat :=
 match k with
 | 0 => match crcE s 4294967295 with
  | some r => QD (Nat.mod (Nat.xor r 4294967295) 4294967296) some
  | none => none
 | _ => match ckE s 0 with
  | some n => QD (Nat.mod (Nat.sub 65535 (jm n n)) 65536) some
  | none => none
theorem Q88 {O : Val} {k : Nat} {s : List E} {m : Nat} (h : Qgf k s = some m) : fnZ k (JN (S.bytes O s) 1) = m := by
 unfold Qgf at h
 split at h
 . split at h
   . rename_i r hr
     simp only [sNat_eq, Option.some.injEq] at h
     subst h
     show ((Qki (Qc7 (JN (S.bytes O s) 1).toNat (JN (S.bytes O s) 1).toNat) % 4294967296 : Nat) : Int) = _
     rw [yN]
     unfold Qki
     rw [Q2s hr]
     rfl
   . cases h
 . rename_i k' hk'
   split at h
   . rename_i n hn
     simp only [sNat_eq, Option.some.injEq] at h
     subst h
     have e : ∀ z, fnZ k z = ((Qkj (Qc7 z.toNat z.toNat) % 65536 : Nat) : Int) := by
      intro z
      cases k with
      | zero => exact absurd rfl (hk' ·)
      | succ k => rfl
     rw [e, yN]
     unfold Qkj
     have := Q6m (O := O) hn
     rw [Nat.zero_add] at this
     rw [this]
     rfl
   . cases h
noncomputable def Qa1 (k : Nat) : Sum := λ c H next as =>
 match as with
 | [.str s] => bif Nat.ble s.length 1099511627776 then (match Qgf k s with
  | some m => QD m λ m => .ok ⟨.int .i64 (.lit (.ofNat m)), H, next, c⟩
  | none => sE (Q7m s) λ t => .ok ⟨.int .i64 (.fn k t), H, next, c⟩) else .fail
 | _ => .fail
theorem Qe7 {P : Program} {G : Env} {n0 : Nat} {f : FuncId} {k : Nat}
 (h : ∀ (s : ByteArray) (w : World), s.size <= 1099511627776 -> Calls P f #[.string s] w λ e w' => e = .returned (.int .i64 (fnZ k (JN s.data.toList 1))) /\ Below w.heap.size w w') : Y0 P G n0 f (Qa1 k) := by
 refine Jq λ c X H next w args vs r hr hc hargs => ?_
 unfold Qa1 at hr
 split at hr
 . rename_i s
   cases hb : Nat.ble s.length 1099511627776 with
   | false => rw [hb] at hr; cases hr
   | true =>
    rw [hb] at hr
    obtain ⟨u, vs', e1, h1, h2⟩ := Qa.1 hargs
    have := rels_nil.1 h2
    subst this
    simp only [AV.rel] at h1
    obtain ⟨k1, rfl⟩ := h1
    have hvs : vs = #[.string ⟨(S.bytes X.O s).toArray⟩] := by rw [<- Array.toList_inj]; exact e1
    subst hvs
    have hcall := h ⟨(S.bytes X.O s).toArray⟩ w (by show (S.bytes X.O s).toArray.size <= _; simp only [List.size_toArray, S.bytes, List.length_map]; simpa using hb)
    simp only [cond_true] at hr
    cases hl : Qgf k s with
    | some m =>
     rw [hl] at hr
     simp only [sNat_eq] at hr
     cases hr
     refine ⟨rfl, rfl, rfl, .int .i64 (m : Int), ?_, ?_⟩
     . simp only [AV.rel]
       exact ⟨trivial, rfl⟩
     . rw [<- Q88 (O := X.O) hl]
       exact hcall
    | none =>
     rw [hl] at hr
     simp only [sE_eq] at hr
     cases hr
     refine ⟨rfl, rfl, rfl, .int .i64 ((E.fn k (Q7m s)).den X.O), ?_, ?_⟩
     . simp only [AV.rel]
       exact ⟨Q95 λ t ht => (k1 t ht).1, trivial⟩
     . simp only [E.den, Q58]
       exact hcall
 . cases hr
end Go.Ax
namespace Go.Ax
open Go.RowKit
theorem Y0.or {P : Program} {G : Env} {n0 : Nat} {f : FuncId} {S S' : Sum} (h : Y0 P G n0 f S) (h' : Y0 P G n0 f S') {T : Sum} (hT : ∀ c H next as r, T c H next as = .ok r -> S c H next as = .ok r \/ S' c H next as = .ok r) : Y0 P G n0 f T := by
 intro c X H next w args vs r hr
 rcases hT _ _ _ _ _ hr with e | e
 . exact h c X H next w args vs r e
 . exact h' c X H next w args vs r e
noncomputable def Qe6 (k : Nat) : Sum := λ c H next as =>
 match as with
 | [.sstr s] => match s.pcs with
  | some p => bif s.small c then sE (Q57 (norm p)) λ t => .ok ⟨.int .i64 (.fn k t), H, next, c⟩ else .fail
  | none => .fail
 | _ => .fail
noncomputable def Qa0 (k : Nat) : Sum := λ c H next as =>
 match as with
 | [.sstr s] => Qe6 k c H next [.sstr s]
 | as => Qa1 k c H next as
theorem Q69 {P : Program} {G : Env} {n0 : Nat} {f : FuncId} {k : Nat}
 (h : ∀ (s : ByteArray) (w : World), s.size <= 1099511627776 -> Calls P f #[.string s] w λ e w' => e = .returned (.int .i64 (fnZ k (JN s.data.toList 1))) /\ Below w.heap.size w w') : Y0 P G n0 f (Qa0 k) := by
 refine Y0.or (S := Qe6 k) (S' := Qa1 k) ?_ (Qe7 h) λ c H next as r hr => ?_
 . refine Jq λ c X H next w args vs r hr hc hargs => ?_
   unfold Qe6 at hr
   split at hr
   . rename_i s
     split at hr
     . rename_i p hp
       cases hb : s.small c with
       | false => rw [hb] at hr; cases hr
       | true =>
        rw [hb] at hr
        simp only [cond_true, sE_eq] at hr
        cases hr
        obtain ⟨u, vs', e1, h1, h2⟩ := Qa.1 hargs
        have := rels_nil.1 h2
        subst this
        simp only [AV.rel] at h1
        obtain ⟨k1, k2, rfl⟩ := h1
        have hvs : vs = #[.string ⟨(s.den X.O).toArray⟩] := by rw [<- Array.toList_inj]; exact e1
        subst hvs
        have hl := ST.YX hb hc k2
        obtain ⟨p1, p2⟩ := ST.YK (O := X.O) hp k1
        refine ⟨rfl, rfl, rfl, .int .i64 ((E.fn k (Q57 (norm p))).den X.O), ?_, ?_⟩
        . simp only [AV.rel]
          exact ⟨Q3f (Q3t p1), trivial⟩
        . have := h ⟨(s.den X.O).toArray⟩ w (by show (s.den X.O).toArray.size <= _; simp only [List.size_toArray]; omega)
          simp only [E.den, yU, Yv, p2]
          exact this
     . cases hr
   . cases hr
 . unfold Qa0 at hr
   split at hr
   . exact .inl hr
   . exact .inr hr
noncomputable def Q8c (b : Nat) : Sum := λ c H next as =>
 match as with
 | [.sstr s, .int .i64 a, .int .i64 (.lit (.ofNat k))] => bif Nat.ble 1 k && Nat.ble k 4 && s.small c then
  match s.pcs with
  | some p => bif p.all (Pc.good c) then
   match Q5y c p with
   | some L => match E.plus c L (-(.ofNat k)) with
    | some M => match E.cmp c .lss a (.lit 0) with
     | some false => match E.cmp c .gtr a M with
      | some true => match E.cmp c .leq a (.lit 1099511627776) with
       | some true => .ok ⟨.tuple [.int .i64 (.lit (.ofNat 0)), .int .i64 (.lit (.ofNat b))], H, next, c⟩
       | _ => .fail
      | some false => match Qfb c a p with
       | some (_, g) => match norm g with
        | .b m :: _ => bif Nat.ble k m.length && (m.take k).all E.isByte then
         (match getE c (m.take k) with
         | some e => .ok ⟨.tuple [.int .i64 e, .int .i64 (.lit (.ofNat 0))], H, next, c⟩
         | none => .fail) else .fail
        | _ => .fail
       | none => .fail
      | none => .ask .gtr a M
     | _ => .fail
    | none => .fail
   | none => .fail
   else .fail
  | none => .fail
  else .fail
 | _ => .fail
noncomputable def Q8d (b : Nat) : Sum := λ c H next as =>
 match as with
 | .sstr s :: r => Q8c b c H next (.sstr s :: r)
 | as => Q9x b c H next as
theorem Qbm {P : Program} {G : Env} {n0 : Nat} {f : FuncId} {b : Nat}
 (h1 : ∀ (s : ByteArray) (i k : Nat) (w : World), 1 <= k -> k <= 4 -> s.size <= 1099511627776 -> i + k <= s.size -> Calls P f #[.string s, .int .i64 i, .int .i64 k] w λ e w' => e = .returned (.tuple #[.int .i64 (Q9m ((s.data.toList.drop i).take k)), .int .i64 0]) /\ Below w.heap.size w w')
 (h2 : ∀ (s : ByteArray) (i k : Nat) (w : World), 1 <= k -> k <= 4 -> s.size <= 1099511627776 -> i <= 1099511627776 -> s.size < i + k -> Calls P f #[.string s, .int .i64 i, .int .i64 k] w λ e w' => e = .returned (.tuple #[.int .i64 0, .int .i64 b]) /\ Below w.heap.size w w') : Y0 P G n0 f (Q8d b) := by
 refine Y0.or (S := Q8c b) (S' := Q9x b) ?_ (Qe3 h1 h2) λ c H next as r hr => ?_
 . refine Jq λ c X H next w args vs r hr hc hargs => ?_
   unfold Q8c at hr
   split at hr
   . rename_i s a k
     cases hb : (Nat.ble 1 k && Nat.ble k 4 && s.small c) with
     | false => rw [hb] at hr; cases hr
     | true =>
      rw [hb] at hr
      simp only [Bool.and_eq_true, Nat.ble_eq] at hb
      simp only [cond_true] at hr
      obtain ⟨u, vs', e1, g1, g2⟩ := Qa.1 hargs
      obtain ⟨v, vs'', rfl, g3, g4⟩ := Qa.1 g2
      obtain ⟨v2, vs3, rfl, g5, g6⟩ := Qa.1 g4
      have := rels_nil.1 g6
      subst this
      simp only [AV.rel] at g1 g3 g5
      obtain ⟨k1, k2, rfl⟩ := g1
      obtain ⟨ka, rfl⟩ := g3
      obtain ⟨-, rfl⟩ := g5
      have hl := ST.YX hb.2 hc k2
      have hvs : vs = #[.string ⟨(s.den X.O).toArray⟩, .int .i64 (a.den X.O), .int .i64 k] := by rw [<- Array.toList_inj]; exact e1
      subst hvs
      have hsz : (⟨(s.den X.O).toArray⟩ : ByteArray).size = (s.den X.O).length := by
       show (s.den X.O).toArray.size = _
       simp
      split at hr
      . rename_i p hp
        obtain ⟨p1, p2⟩ := ST.YK (O := X.O) hp k1
        cases hg : p.all (Pc.good c) with
        | false => rw [hg] at hr; cases hr
        | true =>
         rw [hg] at hr
         simp only [cond_true] at hr
         split at hr
         . rename_i L hL
           obtain ⟨L1, L2⟩ := Yf hc hL p1 (all_good hc hg)
           split at hr
           . rename_i M hM
             obtain ⟨M1, M2⟩ := E.Y9 hM hc L1
             rw [L2, p2] at M2
             split at hr
             . rename_i hz
               have z0 : ¬ (a.den X.O < 0) := of_decide_eq_false (E.Qb rfl hz hc)
               obtain ⟨i, hi⟩ : ∃ i : Nat, a.den X.O = i := ⟨(a.den X.O).toNat, by omega⟩
               rw [hi]
               split at hr
               . rename_i hgt
                 have z1 := E.Qb rfl hgt hc
                 simp only [Yl, decide_eq_true_eq] at z1
                 split at hr
                 . rename_i hbig
                   have z2 : a.den X.O <= 1099511627776 := of_decide_eq_true (E.Qb rfl hbig hc)
                   cases hr
                   simp only [Int.ofNat_eq_natCast] at M2
                   refine ⟨rfl, rfl, rfl, _, ?_, h2 _ i k w hb.1.1 hb.1.2 (by rw [hsz]; omega) (by omega) (by rw [hsz]; omega)⟩
                   simp only [AV.rel]
                   refine ⟨_, rfl, ?_⟩
                   simp only [rels_cons_cons, rels_nil, AV.rel]
                   exact ⟨⟨trivial, rfl⟩, ⟨trivial, rfl⟩, trivial⟩
                 . cases hr
               . rename_i hgt
                 have z1 := E.Qb rfl hgt hc
                 simp only [Yl, decide_eq_false_iff_not] at z1
                 simp only [Int.ofNat_eq_natCast] at M2
                 split at hr
                 . rename_i f0 g hcut
                   obtain ⟨a1, a2, a3, a4, a5, a6⟩ := Ya hc hcut ka p1 (all_good hc hg)
                   split at hr
                   . rename_i m g' hn
                     cases hk : (Nat.ble k m.length && (m.take k).all E.isByte) with
                     | false => rw [hk] at hr; cases hr
                     | true =>
                      rw [hk] at hr
                      simp only [Bool.and_eq_true, Nat.ble_eq] at hk
                      simp only [cond_true] at hr
                      split at hr
                      . rename_i e he
                        cases hr
                        have hok := Q3t a2
                        rw [hn] at hok
                        have hm : (Pc.b m).ok X.dom := hok _ (by simp)
                        have hkk : S.okN X.dom X.O (m.take k) := λ t ht => ⟨hm t (List.mem_of_mem_take ht), E.ZT (List.all_eq_true.1 hk.2 t ht) _⟩
                        obtain ⟨q1, q2⟩ := Q2n he (by simp only [List.length_take]; omega) hkk hc
                        refine ⟨rfl, rfl, rfl, _, ?_, h1 _ i k w hb.1.1 hb.1.2 (by rw [hsz]; omega) (by rw [hsz]; omega)⟩
                        simp only [AV.rel]
                        refine ⟨_, rfl, ?_⟩
                        simp only [rels_cons_cons, rels_nil, AV.rel]
                        refine ⟨⟨q1, ?_⟩, ⟨trivial, rfl⟩, trivial⟩
                        rw [q2]
                        have hgd := Yv (O := X.O) g
                        rw [hn, Q9] at hgd
                        have e2 : (s.den X.O).drop i = Jk X.O g := by
                         rw [<- p2, a5]
                         have : i = (Jk X.O f0).length := by omega
                         rw [this, List.drop_left]
                        rw [e2, <- hgd]
                        simp only [Pc.den]
                        rw [List.take_append_of_le_length (by simp [S.bytes]; omega)]
                        simp [S.bytes, List.map_take]
                      . cases hr
                   . cases hr
                 . cases hr
               . cases hr
             . cases hr
           . cases hr
         . cases hr
      . cases hr
   . cases hr
 . unfold Q8d at hr
   split at hr
   . exact .inl hr
   . exact .inr hr
end Go.Ax
namespace Go.Ax
open Go.RowKit
end Go.Ax
namespace Go.Ax
open Go.RowKit
structure Kept (b : Nat) (pl : Place) (avs : List AV) (vals : List Value) (X : Ext) : Prop where
 V : X.V b = some pl
 r : AV.QI X avs vals
section
variable {P : Program} {G : Env} {n0 : Nat} {w0 : World} {cs0 : List Frame}
theorem Qc8.simV (hT : G.T.OK P) (hI : YU.OK P G.I) (hS : ZC P G n0) (hng : 0 < G.T.ng) {L : Nat} {X : Ext} {s : AM} {m : Machine} {n k room : Nat} {j : List Nat} {U : Sb} {keep : List Nat} {t : StC} {b : Nat} {pl : Place} {avs avs' : List AV} {vals : List Value}
 (hk : Qy G.T.ng keep b = true) (hch : zV U t.vs (Qy G.T.ng keep) avs avs' = true) (hh : Qc8 L jX G n k s j U keep t) (hX : Kept b pl avs vals X) (h : Sim P G n0 w0 cs0 X s m) :
 ∃ Y m', Steps P m m' /\ Kept b pl avs' vals Y /\ Sim P G n0 w0 cs0 Y (t.am room) m' := by
 obtain ⟨Y, m', st, hle, h1⟩ := Za hT hI hS (yG (L := L) zf n k j s) h
 unfold Qc8 at hh
 generalize Q7x L jX G n k j s = s1 at hh h1
 obtain ⟨fr, cs, H, nx, c⟩ := s1
 simp only [Prod.mk.injEq] at hh
 refine ⟨_, m', st, ?_, Q9v h1 hng (by simp only [sk4, Fr.sk4, Prod.mk.injEq]; exact hh.1) hh.2.1 hh.2.2⟩
 have hb := hh.2.2
 simp only [Qgm, Bool.and_eq_true, List.all_eq_true, Nat.ble_eq, Nat.blt_eq, Bool.or_eq_true, Bool.not_eq_true'] at hb
 obtain ⟨-, -, -, -, -, -, -, -, b14⟩ := hb
 have hvd : ∀ i ∈ t.vs, Qy G.T.ng keep i = true -> Y.dom i := λ i hi hk => by
  rcases b14 i hi with h' | h'
  . rw [hk] at h'; cases h'
  . exact h1.ctx.1 i (any_beq h')
 obtain ⟨k0, hk0⟩ := h1.Ql 0 hng
 have hC : Cast U t.vs (Qy G.T.ng keep) Y (QF U t.vs (Qy G.T.ng keep) Y) := by
  refine ⟨λ i hi => ⟨?_, by simp only [QF, if_pos hi], rfl⟩, λ b hb => by simp only [QF, if_pos hb]⟩
  by_cases hk : Qy G.T.ng keep i = true
  . obtain ⟨p, hp⟩ := hvd i hi hk
    exact ⟨p, by simp only [QF, if_pos hk, hp]⟩
  . exact ⟨_, by simp only [QF, if_neg hk, if_pos hi]; exact hk0⟩
 exact ⟨by simp only [QF, if_pos hk]; exact hle.V _ _ hX.V, QT hC hch (AV.Zz hle _ _ hX.r)⟩
theorem Qc8.endsV (hT : G.T.OK P) (hI : YU.OK P G.I) (hS : ZC P G n0) (hng : 0 < G.T.ng) {L : Nat} {f : FuncId} {s : AM} {n k room : Nat} {j : List Nat} {U : Sb} {keep : List Nat} {t : StC} {b : Nat} {pl : Place} {avs avs' : List AV} {vals : List Value}
 (hk : Qy G.T.ng keep b = true) (hch : zV U t.vs (Qy G.T.ng keep) avs avs' = true) (hh : Qc8 L jX G n k s j U keep t)
 (he : ∀ X m, Kept b pl avs' vals X -> Sim P G n0 w0 cs0 X (t.am room) m -> Z5 P n0 w0 cs0 f m) {X : Ext} {m : Machine} (hX : Kept b pl avs vals X) (h : Sim P G n0 w0 cs0 X s m) : Z5 P n0 w0 cs0 f m := by
 obtain ⟨Y, m', st, hY, hs⟩ := Qc8.simV hT hI hS hng hk hch hh hX h
 exact .of_steps st (he _ _ hY hs)
end
end Go.Ax
namespace Go.Ax
open Go.RowKit
noncomputable def Qfz (H : Tr Q7) (b n : Nat) : Option (ST × TypeId) :=
 match H.get b with
 | some (.cells cs el true true false) => bif Nat.beq cs.length n then some (.bs [], el) else none
 | some (.pre s m el) => bif Nat.beq m n then some (s, el) else none
 | _ => none
theorem Q0c {X : Ext} {n0 : Nat} {H : Tr Q7} {w : World} (hH : Qp X n0 H w) {b n : Nat} {s : ST} {el : TypeId} {p : Place} (h : Qfz H b n = some (s, el)) (hp : X.V b = some p) :
 zW X (.pre s n el) p w.heap[p.blk]? /\ ∃ o, H.get b = some o /\ o.rw = true := by
 unfold Qfz at h
 split at h
 . rename_i cs el' hb
   cases hl : Nat.beq cs.length n with
   | false => rw [hl] at h; cases h
   | true =>
    rw [hl] at h
    cases h
    have hl : cs.length = n := by simpa using hl
    obtain ⟨c, fr, ⟨el2, h1, mel⟩, h2, h3, h4, h5, h6, h7⟩ := hH.obj b _ p hb hp
    have mel' := mel.resolve_left (by simp)
    subst mel'
    have hfr := h7 rfl
    subst hfr
    obtain ⟨g1, g2⟩ := h4 rfl
    refine ⟨⟨λ t ht => (by cases ht), by simp [ST.fit, ST.len, E.den, ST.den, S.bytes], g1, by omega, by simp [ST.den, S.bytes], c, h1, by omega, λ i b hi => (by simp [ST.den, S.bytes] at hi)⟩, _, hb, rfl⟩
 . rename_i s' m el' hb
   cases hl : Nat.beq m n with
   | false => rw [hl] at h; cases h
   | true =>
    rw [hl] at h
    cases h
    have hl : m = n := by simpa using hl
    subst hl
    exact ⟨hH.obj b _ p hb hp, _, hb, rfl⟩
 . cases h
noncomputable def Q8f : Sum := λ c H next as =>
 match as with
 | [.ptr x 0, .int .i64 off, t] => match Qhp t, H.get x with
  | some st, some (.cells (.slice b 0 n cap 1 true :: _) _ true _ false) => bif (Nat.beq cap n && (Nat.ble n 100000 && !Nat.beq x b)) then
   match Qfz H b n with
   | some (p, el) => match Qls c p, Qls c st with
    | some lp, some ls => match E.cmp c .eql off lp, E.cmp c .lss off (.lit (.ofNat n)), E.Qk9 c off ls with
     | some true, some true, some e => bif leC c e (.lit (.ofNat n)) then .ok ⟨.undef, H.set b (.pre (.cat p st) n el), next, c⟩ else .fail
     | _, _, _ => .fail
    | _, _ => .fail
   | none => .fail
   else .fail
  | _, _ => .fail
 | _ => .fail
theorem Qbp {P : Program} {G : Env} {n0 : Nat} {f : FuncId}
 (h : ∀ (bx br n off : Nat) (s : ByteArray) (w : World) (c : Array Value) (t : TypeId), w.cell? ⟨bx, 0, none⟩ = some (.slice (some ⟨br, 0, none⟩) n n) -> w.heap[br]? = some (.cells c t (0, 0)) -> c.size = n -> off + s.size <= n -> off < n -> bx ≠ br ->
  Calls P f #[.pointer (some ⟨bx, 0, none⟩), .int .i64 off, .string s] w λ e w' => e = .returned (.tuple #[]) /\ (w'.heap = (w.setRow br (c.toList.take off ++ Lib.byteCells s.data.toList ++ c.toList.drop (off + s.size)).toArray).heap /\ w'.os = w.os /\ w'.tape = w.tape /\ w'.output = w.output)) :
 Y0 P G n0 f Q8f := by
 intro c X H next w as vs r hr hc hg hH h0 hfr hargs fr cs
 unfold Q8f at hr
 split at hr
 case h_2 => cases hr
 rename_i x off t
 split at hr
 case h_2 => cases hr
 rename_i st b n cap rest elx plx hst hbx
 cases hb1 : (Nat.beq cap n && (Nat.ble n 100000 && !Nat.beq x b)) with
 | false => rw [hb1] at hr; cases hr
 | true =>
 rw [hb1] at hr
 simp only [Bool.and_eq_true, Nat.beq_eq, Nat.ble_eq, Bool.not_eq_true'] at hb1
 obtain ⟨rfl, hn, hxb⟩ := hb1
 have hxb : x ≠ b := λ e => by subst e; simp at hxb
 simp only [cond_true] at hr
 split at hr
 case h_2 => cases hr
 rename_i p el hpre
 split at hr
 case h_2 => cases hr
 rename_i lp ls hlp hls
 split at hr
 case h_2 => cases hr
 rename_i e hc1 hc2 hsum
 cases hle : leC c e (.lit (.ofNat cap)) with
 | false => rw [hle] at hr; cases hr
 | true =>
 rw [hle] at hr
 cases hr
 -- the arguments
 obtain ⟨u, vs', e1, g1, g2⟩ := Qa.1 hargs
 obtain ⟨v, vs'', rfl, g3, g4⟩ := Qa.1 g2
 obtain ⟨z, vs3, rfl, g5, g6⟩ := Qa.1 g4
 have := rels_nil.1 g6
 subst this
 simp only [AV.rel] at g1 g3
 obtain ⟨px, hpx, rfl⟩ := g1
 obtain ⟨ko, rfl⟩ := g3
 obtain ⟨s1, s2, rfl⟩ := z8 hst g5
 obtain ⟨cx, frx, ⟨elx', x1, -⟩, x2, x3, x4, x5, -⟩ := hH.obj x _ px hbx hpx
 obtain ⟨hx0, -⟩ := x4 rfl
 obtain ⟨rv, hcell, hrv⟩ := hH.cell (i := 0) hbx hpx rfl
 simp only [AV.rel] at hrv
 obtain ⟨pb, o', cc, hpb, rfl, -, -, -, ho', hcc⟩ := hrv
 have hcc : cap = cc := (hcc trivial).symm
 subst hcc
 obtain ⟨hP, ob, hbo, hrw⟩ := Q0c hH hpre hpb
 obtain ⟨p1, p2, p3, p4, p5, cb, p6, p7, p8⟩ := hP
 have ho' : o' = pb.base + 0 := ho' (.inr trivial)
 rw [p3] at ho'
 subst ho'
 rw [hx0] at hcell
 have l1 := (JL (O := X.O) hc hlp p1).2
 have l2 := (JL (O := X.O) hc hls s1).2
 have c1 := E.Qb (O := X.O) rfl hc1 hc
 have c2 := E.Qb (O := X.O) rfl hc2 hc
 have c3 := (E.JJ (O := X.O) hsum hc ko (JL (O := X.O) hc hls s1).1).2
 have c4 := Zj (O := X.O) hle hc
 simp only [Yl, E.den, beq_iff_eq] at c1 c2 c4
 have c1 : off.den X.O = lp.den X.O := by simpa using c1
 have c2 : off.den X.O < (cap : Int) := of_decide_eq_true c2
 have c4 : e.den X.O <= (cap : Int) := c4
 generalize hk : (p.den X.O).length = k at *
 have hoff : off.den X.O = (k : Int) := by rw [c1, l1]
 have hfit : k + (st.den X.O).length <= cap := by rw [c3, hoff, l2] at c4; omega
 have hne : px.blk ≠ pb.blk := λ he => hxb (hH.inj x b _ _ px pb hbx hbo rfl (Q7.Qd0 hrw) hpx hpb he)
 have hvs : vs = #[.pointer (some ⟨px.blk, 0, none⟩), .int .i64 (k : Int), .string ⟨(st.den X.O).toArray⟩] := by
  rw [<- Array.toList_inj, e1, hx0, hoff]
 subst hvs
 have hsz : (⟨(st.den X.O).toArray⟩ : ByteArray).size = (st.den X.O).length := by show (st.den X.O).toArray.size = _; simp
 obtain ⟨u, w', ⟨rfl, k1, k2, k3, k4⟩, k5⟩ := QU (q := λ v w' => v = .tuple #[] /\ (w'.heap = (w.setRow pb.blk (cb.toList.take k ++ Lib.byteCells (st.den X.O).toArray.toList ++ cb.toList.drop (k + (st.den X.O).length)).toArray).heap /\ w'.os = w.os /\ w'.tape = w.tape /\ w'.output = w.output))
  ((h px.blk pb.blk cap k ⟨(st.den X.O).toArray⟩ w cb el hcell p6 p7 (by rw [hsz]; exact hfit) (by omega) hne).mono λ e w' ⟨he, hq⟩ => ⟨_, he, rfl, by rw [hsz] at hq; exact hq⟩) fr cs
 have hlt := hH.lt b pb hpb
 have hown := hH.own b _ pb hbo hrw hpb
 have hat : w'.heap[pb.blk]? = some (.cells (cb.toList.take k ++ Lib.byteCells (st.den X.O).toArray.toList ++ cb.toList.drop (k + (st.den X.O).length)).toArray el (0, 0)) := by
  rw [k1]
  exact setRow_heap w pb.blk _ _ _ _ p6
 have hoth : ∀ i, i ≠ pb.blk -> w'.heap[i]? = w.heap[i]? := λ i hi => by
  rw [k1]
  unfold World.setRow
  simp only [Array.getElem?_modify, if_neg (show ¬ pb.blk = i from λ e => hi e.symm)]
 have hsize : w'.heap.size = w.heap.size := by rw [k1]; simp [World.setRow]
 have hbl : (Lib.byteCells (st.den X.O).toArray.toList).length = (st.den X.O).length := by simp [Lib.byteCells]
 have hbl2 : (Lib.byteCells (st.den X.O)).length = (st.den X.O).length := by simp [Lib.byteCells]
 have hcl : cb.toList.length = cap := by simpa using p7
 refine ⟨X, _, w', k5, Ext.le.refl X, Qr X, ?_, ⟨k2, k3, k4, Nat.le_of_eq hsize.symm, λ i hi => hoth i (by omega)⟩, λ d hd _ => ⟨hd, Tr.Q0 _ _ (QK hpb hd)⟩, Nat.le_refl _, hfr, hc⟩
 refine hH.change hbo hrw hpb hsize hoth ?_
 rw [hat]
 refine ⟨⟨p1, s1⟩, ST.Q41 p2 s2 (by rw [hk]; omega) (by omega), p3, p4, ?_, _, rfl, ?_, λ i y hi => ?_⟩
 . simp only [ST.den, List.length_append, hk]; exact hfit
 . simp only [List.size_toArray, List.length_append, List.length_take, List.length_drop, hbl, hcl]; omega
 . simp only [ST.den] at hi
   have htk : (cb.toList.take k).length = k := by simp only [List.length_take, hcl]; omega
   simp only [List.getElem?_toArray]
   by_cases hik : i < k
   . rw [List.getElem?_append_left (by omega)] at hi
     rw [List.append_assoc, List.getElem?_append_left (by omega), List.getElem?_take, if_pos hik, Array.getElem?_toList]
     exact p8 i y hi
   . rw [List.getElem?_append_right (by omega), hk] at hi
     have hlt2 : i - k < (st.den X.O).length := (List.getElem?_eq_some_iff.1 hi).1
     rw [List.append_assoc, List.getElem?_append_right (by omega), htk, List.getElem?_append_left (by omega)]
     simp [Lib.byteCells, hi]
noncomputable def Q3g (c : Ctx) (H : Tr Q7) (next x b n : Nat) (rd nx : E) (rest : List AV) (el : TypeId) (pl : Bool) (p : ST) (q : E) : D SR :=
 match E.cmp c .leq q (.lit 0) with
 | some true => .ok ⟨.str [], H, next, c⟩
 | some false => match E.Qk9 c rd q with
  | some hi => match E.cmp c .lss rd (.lit (.ofNat n)), Qg5 c p rd hi with
   | some true, some v => .ok ⟨v, H.set x (.cells (.slice b 0 n n 1 true :: .int .i64 hi :: .int .i64 nx :: rest) el true pl false), next, c⟩
   | _, _ => .fail
  | none => .fail
 | none => .ask .leq q (.lit 0)
noncomputable def Q7n : Sum := λ c H next as =>
 match as with
 | [.ptr x 0, .int .i64 a] => match H.get x with
  | some (.cells (.slice b 0 n cap 1 true :: .int .i64 rd :: .int .i64 nx :: rest) el true pl false) => bif (Nat.beq cap n && (Nat.ble n 100000 && !Nat.beq x b)) then
   match Qfz H b n with
   | some (p, _) => match E.cmp c .leq (.lit 0) rd, E.cmp c .leq rd nx, E.cmp c .leq nx (.lit (.ofNat 1000000)), E.Qkc c nx rd with
    | some true, some true, some true, some av => match E.cmp c .leq a av with
     | some true => Q3g c H next x b n rd nx rest el pl p a
     | some false => Q3g c H next x b n rd nx rest el pl p av
     | none => match E.askN c .leq a av with | (o, y, z) => .ask o y z
    | _, _, _, _ => .fail
   | none => .fail
   else .fail
  | _ => .fail
 | _ => .fail
structure Qi5 (P : Program) (f : FuncId) : Prop where
 part : ∀ (bx br n rd nx m : Nat) (a : Int) (w : World) (c : Array Value) (t : TypeId) (l : List UInt8), w.cell? ⟨bx, 0, none⟩ = some (.slice (some ⟨br, 0, none⟩) n n) -> w.cell? ⟨bx, 1, none⟩ = some (.int .i64 rd) -> w.cell? ⟨bx, 2, none⟩ = some (.int .i64 nx) ->
  w.frozen? ⟨bx, 1, none⟩ = false -> w.heap[br]? = some (.cells c t (0, 0)) -> c.size = n -> 0 < m -> rd + m <= nx -> rd + m <= n -> rd < n -> n <= 100000 -> l.length = m -> (∀ j y, l[j]? = some y -> c[rd + j]? = some (.int .u8 y.toNat)) -> bx < w.heap.size -> nx <= 1000000000 ->
  (a = m \/ ((m : Int) < a /\ nx - rd = m)) ->
  Calls P f #[.pointer (some ⟨bx, 0, none⟩), .int .i64 a] w λ e w' => e = .returned (.string ⟨l.toArray⟩) /\ (w.setCell ⟨bx, 1, none⟩ (.int .i64 ((rd + m : Nat) : Int))).heap.size <= w'.heap.size /\ (∀ k, k < w.heap.size -> w'.heap[k]? = (w.setCell ⟨bx, 1, none⟩ (.int .i64 ((rd + m : Nat) : Int))).heap[k]?) /\ w'.os = w.os /\ w'.tape = w.tape /\ w'.output = w.output
 zero : ∀ (bx rd nx : Nat) (a : Int) (w : World), w.cell? ⟨bx, 1, none⟩ = some (.int .i64 rd) -> w.cell? ⟨bx, 2, none⟩ = some (.int .i64 nx) -> rd <= nx -> nx <= 1000000000 -> min a ((nx - rd : Nat) : Int) <= 0 ->
  Calls P f #[.pointer (some ⟨bx, 0, none⟩), .int .i64 a] w λ e w' => e = .returned (.string ⟨#[]⟩) /\ w'.heap = w.heap /\ w'.os = w.os /\ w'.tape = w.tape /\ w'.output = w.output
theorem Qar {P : Program} {G : Env} {n0 : Nat} {f : FuncId} (h : Qi5 P f) : Y0 P G n0 f Q7n := by
 intro c X H next w as vs r hr hc hg hH h0 hfr hargs fr cs
 unfold Q7n at hr
 split at hr
 case h_2 => cases hr
 rename_i x a
 split at hr
 case h_2 => cases hr
 rename_i b n cap rd nx rest elx plx hbx
 cases hb1 : (Nat.beq cap n && (Nat.ble n 100000 && !Nat.beq x b)) with
 | false => rw [hb1] at hr; cases hr
 | true =>
 rw [hb1] at hr
 simp only [Bool.and_eq_true, Nat.beq_eq, Nat.ble_eq, Bool.not_eq_true'] at hb1
 obtain ⟨hcn, hn, hxb⟩ := hb1
 subst hcn
 simp only [cond_true] at hr
 split at hr
 case h_2 => cases hr
 rename_i p el hpre
 split at hr
 case h_2 => cases hr
 rename_i av hq1 hq2 hq3 hsub
 -- the arguments
 obtain ⟨u, vs', e1, g1, g2⟩ := Qa.1 hargs
 obtain ⟨v, vs'', rfl, g3, g4⟩ := Qa.1 g2
 have := rels_nil.1 g4
 subst this
 simp only [AV.rel] at g1 g3
 obtain ⟨px, hpx, rfl⟩ := g1
 obtain ⟨ko, rfl⟩ := g3
 obtain ⟨cx, frx, ⟨elx', x1, -⟩, x2, x3, x4, x5, -⟩ := hH.obj x _ px hbx hpx
 obtain ⟨hx0, hx1⟩ := x4 rfl
 obtain ⟨rv, hcell, hrv⟩ := hH.cell (i := 0) hbx hpx rfl
 obtain ⟨r1, hcell1, hr1⟩ := hH.cell (i := 1) hbx hpx rfl
 obtain ⟨r2, hcell2, hr2⟩ := hH.cell (i := 2) hbx hpx rfl
 simp only [AV.rel] at hrv hr1 hr2
 obtain ⟨pb, o', cc, hpb, rfl, -, -, -, ho', hcc⟩ := hrv
 obtain ⟨kr, rfl⟩ := hr1
 obtain ⟨kn, rfl⟩ := hr2
 have hcc : cap = cc := (hcc trivial).symm
 subst hcc
 obtain ⟨hP, ob, hbo, hrw⟩ := Q0c hH hpre hpb
 obtain ⟨p1, p2, p3, p4, p5, cb, p6, p7, p8⟩ := hP
 have ho' : o' = pb.base + 0 := ho' (.inr trivial)
 rw [p3] at ho'
 subst ho'
 rw [hx0] at hcell hcell1 hcell2
 simp only [Nat.zero_add] at hcell hcell1 hcell2
 have c1 : (0 : Int) <= rd.den X.O := of_decide_eq_true (E.Qb (O := X.O) rfl hq1 hc)
 have c2 : rd.den X.O <= nx.den X.O := of_decide_eq_true (E.Qb (O := X.O) rfl hq2 hc)
 have c3 : nx.den X.O <= (1000000 : Int) := of_decide_eq_true (E.Qb (O := X.O) rfl hq3 hc)
 obtain ⟨s1, s2⟩ := E.JK (O := X.O) hsub hc kn kr
 obtain ⟨r0, hr0⟩ : ∃ r0 : Nat, rd.den X.O = r0 := ⟨(rd.den X.O).toNat, by omega⟩
 obtain ⟨n1, hn1⟩ : ∃ n1 : Nat, nx.den X.O = n1 := ⟨(nx.den X.O).toNat, by omega⟩
 rw [hr0] at hcell1
 rw [hn1] at hcell2
 have hvs : vs = #[.pointer (some ⟨px.blk, 0, none⟩), .int .i64 (a.den X.O)] := by
  rw [<- Array.toList_inj, e1, hx0]
 subst hvs
 have hlt := hH.lt x px hpx
 have hown := hH.own x _ px hbx rfl hpx
 -- the two ways
 have key : ∀ q : E, q.ok X.dom -> min (a.den X.O) ((n1 - r0 : Nat) : Int) = q.den X.O -> (a.den X.O = q.den X.O \/ (q.den X.O < a.den X.O /\ ((n1 - r0 : Nat) : Int) = q.den X.O)) -> Q3g c H next x b cap rd nx rest elx plx p q = .ok r ->
  ∃ Y u w', Steps P (lone (Frame.enter P f #[.pointer (some ⟨px.blk, 0, none⟩), .int .i64 (a.den X.O)] .normal) (fr :: cs) w) (lone (fr.finish u) cs w') /\ X.le Y /\ r.v.rel Y u /\ Qp Y n0 r.H w' /\ Below n0 w w' /\
   (∀ b, X.V b = none -> b < next -> Y.V b = none /\ r.H.get b = H.get b) /\ next <= r.next /\ (∀ b, r.next <= b -> Y.V b = none) /\ r.ctx.okN Y.dom Y.O := by
  intro q hqo hmin hor hf
  unfold Q3g at hf
  split at hf
  . rename_i hz
    cases hf
    have hz : q.den X.O <= 0 := of_decide_eq_true (E.Qb (O := X.O) rfl hz hc)
    obtain ⟨u, w', ⟨rfl, k1, k2, k3, k4⟩, k5⟩ := QU (q := λ v w' => v = .string ⟨#[]⟩ /\ w'.heap = w.heap /\ w'.os = w.os /\ w'.tape = w.tape /\ w'.output = w.output)
     ((h.zero px.blk r0 n1 (a.den X.O) w hcell1 hcell2 (by omega) (by omega) (by rw [hmin]; exact hz)).mono λ e w' ⟨he, hq⟩ => ⟨_, he, rfl, hq⟩) fr cs
    refine ⟨X, _, w', k5, Ext.le.refl X, ?_, hH.of_heap k1, ⟨k2, k3, k4, by rw [k1]; exact Nat.le_refl _, λ i _ => by rw [k1]⟩, λ d hd _ => ⟨hd, rfl⟩, Nat.le_refl _, hfr, hc⟩
    simp only [AV.rel]
    exact ⟨λ t ht => (by cases ht), rfl⟩
  . rename_i hz
    have hz : ¬ q.den X.O <= 0 := of_decide_eq_false (E.Qb (O := X.O) rfl hz hc)
    split at hf
    case h_2 => cases hf
    rename_i hi hsum
    split at hf
    case h_2 => cases hf
    rename_i vv hq4 hpart
    cases hf
    obtain ⟨t1, t2⟩ := E.JJ (O := X.O) hsum hc kr hqo
    have c4 : rd.den X.O < (cap : Int) := of_decide_eq_true (E.Qb (O := X.O) rfl hq4 hc)
    obtain ⟨-, d2, d3, d4⟩ := Q0f hc hpart p1 kr t1
    obtain ⟨m, hm⟩ : ∃ m : Nat, q.den X.O = m := ⟨(q.den X.O).toNat, by omega⟩
    rw [hm] at hmin hor t2
    rw [hr0] at t2 d2 d4 c4
    have thi : hi.den X.O = ((r0 + m : Nat) : Int) := by rw [t2]; omega
    rw [thi] at d3 d4
    have e2 : ((r0 + m : Nat) : Int).toNat - (r0 : Int).toNat = m := by omega
    rw [e2, Int.toNat_natCast] at d4
    generalize hl : ((p.den X.O).drop r0).take m = l at d4
    have hll : l.length = m := by rw [<- hl]; simp only [List.length_take, List.length_drop]; omega
    have hcellb : ∀ j y, l[j]? = some y -> cb[r0 + j]? = some (.int .u8 y.toNat) := by
     intro j y hj
     rw [<- hl, List.getElem?_take] at hj
     split at hj
     . rw [List.getElem?_drop] at hj
       exact p8 _ y hj
     . cases hj
    have hfz := hH.notFrozen (i := 1) hbx hpx (by simp only [List.length_cons] at hx1; omega)
    rw [hx0] at hfz
    simp only [Nat.zero_add] at hfz
    obtain ⟨u, w', ⟨rfl, k1, k2, k3, k4, k6⟩, k5⟩ := QU (q := λ v w' => v = .string ⟨l.toArray⟩ /\ (w.setCell ⟨px.blk, 1, none⟩ (.int .i64 ((r0 + m : Nat) : Int))).heap.size <= w'.heap.size /\ (∀ k, k < w.heap.size -> w'.heap[k]? = (w.setCell ⟨px.blk, 1, none⟩ (.int .i64 ((r0 + m : Nat) : Int))).heap[k]?) /\ w'.os = w.os /\ w'.tape = w.tape /\ w'.output = w.output)
     ((h.part px.blk pb.blk cap r0 n1 m (a.den X.O) w cb el l hcell hcell1 hcell2 hfz p6 p7 (by omega) (by omega) (by omega) (by omega) hn hll hcellb hlt (by omega) (by rcases hor with hor | ⟨o1, o2⟩ <;> first | exact .inl hor | exact .inr ⟨o1, by omega⟩)).mono λ e w' ⟨he, hq⟩ => ⟨_, he, rfl, hq⟩) fr cs
    have hst := hH.store (i := 1) (a := .int .i64 hi) (v := .int .i64 ((r0 + m : Nat) : Int)) hbx hpx (by simp) (by simp only [AV.rel]; exact ⟨t1, by rw [thi]⟩)
    rw [hx0] at hst
    simp only [Nat.zero_add] at hst
    have hsz : (w.setCell ⟨px.blk, 1, none⟩ (.int .i64 ((r0 + m : Nat) : Int))).heap.size = w.heap.size := by simp [World.setCell]
    refine ⟨X, _, w', k5, Ext.le.refl X, d4, ?_, ⟨k3, k4, k6, by omega, λ i hi => ?_⟩, λ d hd _ => ⟨hd, Tr.Q0 _ _ (QK hpx hd)⟩, Nat.le_refl _, hfr, hc⟩
    . exact hst.grow ⟨k3, k4, k6, k1, λ i hi => k2 i (by omega)⟩
    . rw [k2 i (by omega), Below.heap_setCell _ _ _ _ (by simp only; omega)]
  . cases hf
 have hav : av.den X.O = ((n1 - r0 : Nat) : Int) := by rw [s2, hn1, hr0]; omega
 split at hr
 . rename_i hle
   have hle : a.den X.O <= av.den X.O := of_decide_eq_true (E.Qb (O := X.O) rfl hle hc)
   exact key a ko (by omega) (.inl rfl) hr
 . rename_i hle
   have hle : ¬ a.den X.O <= av.den X.O := of_decide_eq_false (E.Qb (O := X.O) rfl hle hc)
   exact key av s1 (by omega) (.inr ⟨by omega, hav.symm⟩) hr
 . cases hr
noncomputable def Q7o : Sum := λ c H next as =>
 match as with
 | [.int .i64 _, .int .i64 (.lit _)] => .fail
 | [.int .i64 _z, .int .i64 e] => match (E.iv c.fs e).lo, (E.iv c.fs e).hi with
  | some lo, some hi => bif ieq hi 0 && ile 0 lo then .ok ⟨.str [], H, next, c⟩ else bif ile 0 lo && ile hi 100000 && Q67 H next (next + 1) 64 then
   QD (next + 1) λ m => .ok ⟨.sstr (.var next), H, m, ⟨⟨.eql, .len next, e, true⟩ :: ⟨.leq, .len next, .lit hi, true⟩ :: ⟨.geq, .len next, .lit lo, true⟩ :: c.fs, next :: c.vs⟩⟩ else .fail
  | _, _ => .fail
 | _ => .fail
theorem Qau {P : Program} {G : Env} {n0 : Nat} (hng : 0 < G.T.ng) {f : FuncId}
 (h : ∀ (z : Int) (n : Nat) (w : World), n <= 100000 -> Calls P f #[.int .i64 z, .int .i64 n] w λ e w' => (∃ s : ByteArray, e = .returned (.string s) /\ s.size = n) /\ Below w.heap.size w w') : Y0 P G n0 f Q7o := by
 intro c X H next w as vs r hr hc hg hH h0 hfr hargs fr cs
 unfold Q7o at hr
 split at hr
 . cases hr
 . rename_i z e _
   split at hr
   . rename_i lo hi hlo hhi
     have hiv0 := E.Qd hc.2 e
     have l10 := hiv0.1 _ hlo
     have l20 := hiv0.2 _ hhi
     cases hz0 : (ieq hi 0 && ile 0 lo) with
     | true =>
      rw [hz0] at hr
      cases hr
      simp only [Bool.and_eq_true, QL] at hz0
      have hz1 := Q40 hz0.1
      obtain ⟨u, vs', e1, g1, g2⟩ := Qa.1 hargs
      obtain ⟨v, vs'', rfl, g3, g4⟩ := Qa.1 g2
      have := rels_nil.1 g4
      subst this
      simp only [AV.rel] at g1 g3
      obtain ⟨-, rfl⟩ := g1
      obtain ⟨-, rfl⟩ := g3
      have he0 : e.den X.O = ((0 : Nat) : Int) := by omega
      have hvs : vs = #[.int .i64 (z.den X.O), .int .i64 ((0 : Nat) : Int)] := by rw [<- Array.toList_inj, <- he0]; exact e1
      subst hvs
      obtain ⟨u, w', ⟨⟨s, rfl, hs⟩, g3⟩, g1⟩ := QU (q := λ v w' => (∃ s : ByteArray, v = .string s /\ s.size = 0) /\ Below w.heap.size w w') ((h (z.den X.O) 0 w (by omega)).mono λ e w' ⟨⟨s, he, hs⟩, hB⟩ => ⟨_, he, ⟨s, rfl, hs⟩, hB⟩) fr cs
      refine ⟨X, _, w', g1, Ext.le.refl X, ?_, hH.grow g3, g3.mono h0, λ d hd _ => ⟨hd, rfl⟩, Nat.le_refl _, hfr, hc⟩
      simp only [AV.rel]
      refine ⟨λ t ht => (by cases ht), ?_⟩
      obtain ⟨d⟩ := s
      have : d = #[] := by
       have hd : d.size = 0 := hs
       simpa using hd
      rw [this]
      rfl
     | false =>
     rw [hz0] at hr
     simp only [cond_false] at hr
     cases hb : (ile 0 lo && ile hi 100000 && Q67 H next (next + 1) 64) with
     | false => rw [hb] at hr; cases hr
     | true =>
      rw [hb] at hr
      simp only [cond_true, sNat_eq] at hr
      cases hr
      simp only [Bool.and_eq_true, QL] at hb
      have hfree := qL hb.2
      have hiv := E.Qd hc.2 e
      have l1 := hiv.1 _ hlo
      have l2 := hiv.2 _ hhi
      obtain ⟨u, vs', e1, g1, g2⟩ := Qa.1 hargs
      obtain ⟨v, vs'', rfl, g3, g4⟩ := Qa.1 g2
      have := rels_nil.1 g4
      subst this
      simp only [AV.rel] at g1 g3
      obtain ⟨-, rfl⟩ := g1
      obtain ⟨ke, rfl⟩ := g3
      obtain ⟨m, hm⟩ : ∃ m : Nat, e.den X.O = m := ⟨(e.den X.O).toNat, by omega⟩
      have hvs : vs = #[.int .i64 (z.den X.O), .int .i64 m] := by rw [<- Array.toList_inj, <- hm]; exact e1
      subst hvs
      obtain ⟨u, w', ⟨⟨s, rfl, hs⟩, g3⟩, g1⟩ := QU (q := λ v w' => (∃ s : ByteArray, v = .string s /\ s.size = m) /\ Below w.heap.size w w') ((h (z.den X.O) m w (by omega)).mono λ e w' ⟨⟨s, he, hs⟩, hB⟩ => ⟨_, he, ⟨s, rfl, hs⟩, hB⟩) fr cs
      obtain ⟨n, hn⟩ := hg 0 hng
      have hdn : ¬ X.dom next := λ ⟨p, hp⟩ => by rw [hfr _ (Nat.le_refl _)] at hp; cases hp
      have hag : Val.agree X.dom X.O (X.letter next ⟨0, 0, n⟩ 0 s.data.toList).O := λ i hi => by
       have : i ≠ next := λ he => hdn (he ▸ hi)
       simp only [Ext.letter, if_neg this, and_self]
      have hd : (X.letter next ⟨0, 0, n⟩ 0 s.data.toList).dom next := ⟨⟨0, 0, n⟩, by simp [Ext.letter]⟩
      have hdm : ∀ i, X.dom i -> (X.letter next ⟨0, 0, n⟩ 0 s.data.toList).dom i := λ i ⟨p, hp⟩ => ⟨p, by
       have : i ≠ next := λ he => hdn (he ▸ ⟨p, hp⟩)
       simp only [Ext.letter, if_neg this]
       exact hp⟩
      have hlen : (E.len next).den (X.letter next ⟨0, 0, n⟩ 0 s.data.toList).O = m := by
       simp only [E.den, Ext.letter, if_true]
       have : s.data.toList.length = s.size := by simp
       rw [this, hs]
      have hN : New X (X.letter next ⟨0, 0, n⟩ 0 s.data.toList) ⟨0, 0, n⟩ next (next + 1) [⟨.eql, .len next, e, true⟩, ⟨.leq, .len next, .lit hi, true⟩, ⟨.geq, .len next, .lit lo, true⟩] [next] := by
       refine Ext.ji hfr λ f hf => ?_
       simp only [List.mem_cons, List.not_mem_nil, or_false] at hf
       rcases hf with rfl | rfl | rfl
       . refine ⟨?_, hd, E.Qi hdm ke⟩
         simp only [Fact.ok, Yl]
         rw [hlen, E.Qc hag ke, hm]
         simp
       . refine ⟨?_, hd, trivial⟩
         simp only [Fact.ok, Yl]
         rw [hlen]
         refine decide_eq_true ?_
         show (m : Int) <= hi
         omega
       . refine ⟨?_, hd, trivial⟩
         simp only [Fact.ok, Yl]
         rw [hlen]
         refine decide_eq_true ?_
         show lo <= (m : Int)
         omega
      have h0' : (0 : Nat) < w.heap.size := by
       have := hH.lt _ _ hn
       simpa using this
      refine ⟨_, _, w', g1, hN.le, ?_, ?_, g3.mono h0, λ b hb hlt => ⟨by rw [hN.old b hlt]; exact hb, rfl⟩, hN.nm, hN.free, ?_⟩
      . simp only [AV.rel]
        refine ⟨hd, ?_, ?_⟩
        . simp [ST.fit, ST.len, E.den, ST.den, Ext.letter]
        . simp [ST.den, Ext.letter]
      . have hold : ∀ b o p, H.get b = some o -> (X.letter next ⟨0, 0, n⟩ 0 s.data.toList).V b = some p -> X.V b = some p := by
         intro b o p ho hp
         by_cases h1 : b < next
         . rw [<- hN.old b h1]; exact hp
         . by_cases h2 : b < next + 1
           . rw [hfree b (by omega) h2] at ho; cases ho
           . rw [hN.free b (by omega)] at hp; cases hp
        refine ⟨λ b o p ho hp => ?_, λ b b' o o' p p' ho ho' hl hl' hp hp' he => hH.inj b b' o o' p p' ho ho' hl hl' (hold b o p ho hp) (hold b' o' p' ho' hp') he, λ b p hp => ?_, λ b o p ho hr hp => hH.own b o p ho hr (hold b o p ho hp)⟩
        . have hp' := hold b o p ho hp
          rw [g3.block _ (hH.lt _ _ hp')]
          exact Zl hN.le (hH.obj b o p ho hp')
        . refine Nat.lt_of_lt_of_le ?_ g3.size
          by_cases h1 : b < next
          . exact hH.lt b p (by rw [<- hN.old b h1]; exact hp)
          . by_cases h2 : b < next + 1
            . rw [hN.new b (by omega) h2] at hp
              cases hp
              exact h0'
            . rw [hN.free b (by omega)] at hp; cases hp
      . refine ⟨λ i hi => ?_, λ fa hf => ?_⟩
        . rcases List.mem_cons.1 hi with rfl | hi
          . exact hd
          . exact hN.le.dom _ (hc.1 i hi)
        . have hf' : fa ∈ [⟨.eql, .len next, e, true⟩, ⟨.leq, .len next, .lit hi, true⟩, ⟨.geq, .len next, .lit lo, true⟩] ++ c.fs := hf
          rcases List.mem_append.1 hf' with hf | hf
          . exact hN.fs fa hf
          . exact Facts.Q3r hN.le.dom hN.le.O hc.2 fa hf
   . cases hr
 . cases hr
end Go.Ax
namespace Go.Ax
open Go.RowKit
def Q9i : List (Nat × Nat) -> Nat -> Nat
 | [], b => b
 | p :: l, b => bif Nat.beq p.1 b then p.2 else Q9i l b
theorem Q9h {n : Nat} : ∀ {l : List (Nat × Nat)}, l.all (λ p => Nat.ble n p.1) = true -> ∀ {b : Nat}, b < n -> Q9i l b = b
 | [], _, _, _ => rfl
 | p :: l, h, b, hb => by
  simp only [List.all_cons, Bool.and_eq_true, Nat.ble_eq] at h
  simp only [Q9i]
  rw [show Nat.beq p.1 b = false from by rw [Bool.eq_false_iff]; intro e; rw [Nat.beq_eq] at e; omega]
  exact Q9h h.2 hb
structure Q20 (U : Sb) (vs : List Nat) (K : Nat -> Bool) (π : Nat -> Nat) (X X' : Ext) : Prop where
 letters : ∀ i ∈ vs, X'.dom i /\ X'.O.int i = (U.at i).den X.O /\ X'.O.str i = X.O.str i
 kept : ∀ b, K b = true -> X'.V b = X.V (π b)
theorem Q20.cast {U : Sb} {vs : List Nat} {K : Nat -> Bool} {π : Nat -> Nat} {X X' : Ext} (h : Q20 U vs K π X X') : Cast U vs (λ _ => false) X X' := ⟨h.letters, λ _ h => by cases h⟩
mutual
noncomputable def rkA (U : Sb) (vs : List Nat) (K : Nat -> Bool) (π : Nat -> Nat) (a a' : AV) : Bool :=
 match a with
 | .ptr b o => match a' with
  | .ptr b' o' => Nat.beq b (π b') && (Nat.beq o o' && K b')
  | a' => Ja U vs (λ _ => false) (.ptr b o) a'
 | .slice b o n c s x => match a' with
  | .slice b' o' n' c' s' x' => Nat.beq b (π b') && (Nat.beq o o' && (Nat.beq n n' && (Nat.beq c c' && (Nat.beq s s' && (x == x' && K b')))))
  | a' => Ja U vs (λ _ => false) (.slice b o n c s x) a'
 | .map r => match a' with
  | .map r' => Nat.beq r (π r') && K r'
  | a' => Ja U vs (λ _ => false) (.map r) a'
 | .wslice b o n s l => match a' with
  | .wslice b' o' n' s' l' => Nat.beq b (π b') && (Nat.beq o o' && (Nat.beq n n' && (Nat.beq s s' && (K b' && Qh1 U vs (.var l) (.var l')))))
  | a' => Ja U vs (λ _ => false) (.wslice b o n s l) a'
 | .func f x c => match a' with
  | .func f' x' c' => Nat.beq f f' && (rkL U vs K π x x' && rkL U vs K π c c')
  | a' => Ja U vs (λ _ => false) (.func f x c) a'
 | .iface t x => match a' with
  | .iface t' x' => Nat.beq t t' && rkA U vs K π x x'
  | a' => Ja U vs (λ _ => false) (.iface t x) a'
 | .agg l => match a' with
  | .agg l' => rkL U vs K π l l'
  | a' => Ja U vs (λ _ => false) (.agg l) a'
 | .tuple l => match a' with
  | .tuple l' => rkL U vs K π l l'
  | a' => Ja U vs (λ _ => false) (.tuple l) a'
 | a => Ja U vs (λ _ => false) a a'
noncomputable def rkL (U : Sb) (vs : List Nat) (K : Nat -> Bool) (π : Nat -> Nat) (l l' : List AV) : Bool :=
 match l with
 | [] => match l' with
  | [] => true
  | _ => false
 | a :: l => match l' with
  | [] => false
  | a' :: l' => rkA U vs K π a a' && rkL U vs K π l l'
end
section
variable {U : Sb} {vs : List Nat} {K : Nat -> Bool} {π : Nat -> Nat} {X X' : Ext}
mutual
theorem ZQ (hc : Q20 U vs K π X X') : ∀ {a a' : AV} {v : Value}, rkA U vs K π a a' = true -> a.rel X v -> a'.rel X' v
 | .ptr b o, a', v, h, r => by
  cases a' <;> simp only [rkA] at h <;> (try exact Qn hc.cast h r)
  simp only [Bool.and_eq_true, Nat.beq_eq] at h
  obtain ⟨rfl, rfl, hk⟩ := h
  simp only [AV.rel] at r ⊢
  rw [hc.kept _ hk]
  exact r
 | .slice b o n c s x, a', v, h, r => by
  cases a' <;> simp only [rkA] at h <;> (try exact Qn hc.cast h r)
  simp only [Bool.and_eq_true, Nat.beq_eq, beq_iff_eq] at h
  obtain ⟨rfl, rfl, rfl, rfl, rfl, rfl, hk⟩ := h
  simp only [AV.rel] at r ⊢
  rw [hc.kept _ hk]
  exact r
 | .map q, a', v, h, r => by
  cases a' <;> simp only [rkA] at h <;> (try exact Qn hc.cast h r)
  simp only [Bool.and_eq_true, Nat.beq_eq] at h
  obtain ⟨rfl, hk⟩ := h
  simp only [AV.rel] at r ⊢
  rw [hc.kept _ hk]
  exact r
 | .wslice b o n s l, a', v, h, r => by
  cases a' <;> simp only [rkA] at h <;> (try exact Qn hc.cast h r)
  simp only [Bool.and_eq_true, Nat.beq_eq] at h
  obtain ⟨rfl, rfl, rfl, rfl, hk, hl⟩ := h
  simp only [AV.rel] at r ⊢
  rw [hc.kept _ hk]
  obtain ⟨p, len, c, h1, h2, h3, h4, h5, h6, h7⟩ := r
  obtain ⟨k1, k2⟩ := ZJ hc.cast hl
  exact ⟨p, len, c, h1, h2, h3, h4, h5, k1, k2.symm.trans h7⟩
 | .func f a c, a', v, h, r => by
  cases a' <;> simp only [rkA] at h <;> (try exact Qn hc.cast h r)
  simp only [Bool.and_eq_true, Nat.beq_eq] at h
  obtain ⟨rfl, h1, h2⟩ := h
  simp only [AV.rel] at r ⊢
  obtain ⟨x, y, e, r1, r2⟩ := r
  exact ⟨x, y, e, YJ hc h1 r1, YJ hc h2 r2⟩
 | .iface t a, a', v, h, r => by
  cases a' <;> simp only [rkA] at h <;> (try exact Qn hc.cast h r)
  simp only [Bool.and_eq_true, Nat.beq_eq] at h
  obtain ⟨rfl, h1⟩ := h
  simp only [AV.rel] at r ⊢
  obtain ⟨u, e, r1⟩ := r
  exact ⟨u, e, ZQ hc h1 r1⟩
 | .agg l, a', v, h, r => by
  cases a' <;> simp only [rkA] at h <;> (try exact Qn hc.cast h r)
  simp only [AV.rel] at r ⊢
  obtain ⟨u, e, r1⟩ := r
  exact ⟨u, e, YJ hc h r1⟩
 | .tuple l, a', v, h, r => by
  cases a' <;> simp only [rkA] at h <;> (try exact Qn hc.cast h r)
  simp only [AV.rel] at r ⊢
  obtain ⟨u, e, r1⟩ := r
  exact ⟨u, e, YJ hc h r1⟩
 | .bool _, a', v, h, r | .int _ _, a', v, h, r | .str _, a', v, h, r | .sstr _, a', v, h, r | .nilptr, a', v, h, r | .nilslice, a', v, h, r | .nilmap, a', v, h, r | .yield _, a', v, h, r | .nilFunc, a', v, h, r | .nilIface, a', v, h, r | .any, a', v, h, r => by
  simp only [rkA] at h; exact Qn hc.cast h r
theorem YJ (hc : Q20 U vs K π X X') : ∀ {l l' : List AV} {us : List Value}, rkL U vs K π l l' = true -> AV.QI X l us -> AV.QI X' l' us
 | [], l', us, h, r => by cases l' <;> simp only [rkL, Bool.false_eq_true] at h; rw [rels_nil] at r ⊢; exact r
 | a :: l, l', us, h, r => by
  cases l' <;> simp only [rkL, Bool.false_eq_true, Bool.and_eq_true] at h
  obtain ⟨v, us', rfl, r1, r2⟩ := Qa.1 r
  rw [rels_cons_cons]
  exact ⟨ZQ hc h.1 r1, YJ hc h.2 r2⟩
end
noncomputable def rkM (U : Sb) (vs : List Nat) (K : Nat -> Bool) (π : Nat -> Nat) : List (AV × AV × Nat) -> List (AV × AV × Nat) -> Bool
 | [], [] => true
 | a :: l, b :: l' => rkA U vs K π a.1 b.1 && (rkA U vs K π a.2.1 b.2.1 && (Nat.beq a.2.2 b.2.2 && rkM U vs K π l l'))
 | _, _ => false
theorem Q5l (hc : Q20 U vs K π X X') : ∀ {l l' : List (AV × AV × Nat)} {es : List MapEntry}, rkM U vs K π l l' = true -> Q8 X l es -> Q8 X' l' es
 | [], l', es, h, r => by cases l' <;> simp only [rkM, Bool.false_eq_true] at h; exact r
 | a :: l, l', es, h, r => by
  cases l' <;> simp only [rkM, Bool.false_eq_true, Bool.and_eq_true, Nat.beq_eq] at h
  obtain ⟨e, es', rfl, r1, r2, r3, r4⟩ := r
  exact ⟨e, es', rfl, ZQ hc h.1 r1, ZQ hc h.2.1 r2, by rw [r3, h.2.2.1], Q5l hc h.2.2.2 r4⟩
noncomputable def rkP (U : Sb) (vs : List Nat) (K : Nat -> Bool) (π : Nat -> Nat) : List (AV × AV) -> List (AV × AV) -> Bool
 | [], [] => true
 | a :: l, b :: l' => rkA U vs K π a.1 b.1 && (rkA U vs K π a.2 b.2 && rkP U vs K π l l')
 | _, _ => false
theorem Q5k (hc : Q20 U vs K π X X') : ∀ {l l' : List (AV × AV)} {es : List MapEntry}, rkP U vs K π l l' = true -> ZL X l es -> ZL X' l' es
 | [], l', es, h, r => by cases l' <;> simp only [rkP, Bool.false_eq_true] at h; exact r
 | a :: l, l', es, h, r => by
  cases l' <;> simp only [rkP, Bool.false_eq_true, Bool.and_eq_true] at h
  obtain ⟨e, es', rfl, r1, r2, r4⟩ := r
  exact ⟨e, es', rfl, ZQ hc h.1 r1, ZQ hc h.2.1 r2, Q5k hc h.2.2 r4⟩
noncomputable def rkO (U : Sb) (vs : List Nat) (K : Nat -> Bool) (π : Nat -> Nat) : Q7 -> Q7 -> Bool
 | .cells cs el ex pl ro, .cells cs' el' ex' pl' ro' => Nat.beq el el' && (ex == ex' && (pl == pl' && (ro == ro' && rkL U vs K π cs cs')))
 | .map es c, .map es' c' => Nat.beq c c' && rkM U vs K π es es'
 | .lmap es, .lmap es' => rkP U vs K π es es'
 | .map [] _, .lmap [] => true
 | _, _ => false
theorem Q25 {l l' : List AV} (h : rkL U vs K π l l' = true) : l'.length = l.length := by
 induction l generalizing l' with
 | nil => cases l' <;> simp [rkL] at h; rfl
 | cons a l ih =>
  cases l' with
  | nil => simp [rkL] at h
  | cons a' l' => simp only [rkL, Bool.and_eq_true] at h; simp [ih h.2]
theorem Qiq {l l' : List AV} (h : rkL U vs K π l l' = true) {i : Nat} {a' : AV} (e : l'[i]? = some a') : ∃ a, l[i]? = some a /\ rkA U vs K π a a' = true := by
 induction l generalizing l' i with
 | nil => cases l' <;> simp [rkL] at h; simp at e
 | cons a l ih =>
  cases l' with
  | nil => simp [rkL] at h
  | cons b l' =>
   simp only [rkL, Bool.and_eq_true] at h
   cases i with
   | zero => simp at e; subst e; exact ⟨a, rfl, h.1⟩
   | succ i => simpa using ih h.2 (by simpa using e)
theorem Q04 (hc : Q20 U vs K π X X') {o o' : Q7} {p : Place} {ob : Option Obj} (h : rkO U vs K π o o' = true) (r : zW X o p ob) : zW X' o' p ob /\ o'.live = o.live /\ o'.rw = o.rw := by
 unfold rkO at h
 split at h <;> (try simp only [Bool.false_eq_true, Bool.and_eq_true, Nat.beq_eq, beq_iff_eq] at h)
 . obtain ⟨rfl, rfl, rfl, rfl, h⟩ := h
   obtain ⟨c, fr, h1, h2, h3, h4, h5, h6⟩ := r
   refine ⟨⟨c, fr, h1, h2, by rw [Q25 h]; exact h3, by rw [Q25 h]; exact h4, λ i a hi => ?_, h6⟩, rfl, rfl⟩
   obtain ⟨b, hb, hr⟩ := Qiq h hi
   obtain ⟨v, hv, r1⟩ := h5 i b hb
   exact ⟨v, hv, ZQ hc hr r1⟩
 . obtain ⟨rfl, h⟩ := h
   obtain ⟨es', h1, h2⟩ := r
   exact ⟨⟨es', h1, Q5l hc h h2⟩, rfl, rfl⟩
 . obtain ⟨es', cl, l, h1, h2, h3⟩ := r
   exact ⟨⟨es', cl, l, h1, Q5k hc h h2, h3⟩, rfl, rfl⟩
 . obtain ⟨es', h1, h2⟩ := r
   exact ⟨⟨es', _, [], h1, rfl, by rw [h2]⟩, rfl, rfl⟩
theorem Qfu {o o' : Q7} (h : rkO U vs K π o o' = true) : o'.Q7f = o.Q7f := by
 unfold rkO at h
 split at h <;> (try simp only [Bool.false_eq_true, Bool.and_eq_true, Nat.beq_eq, beq_iff_eq] at h)
 . obtain ⟨-, -, rfl, rfl, -⟩ := h; rfl
 all_goals rfl
noncomputable def rkHo (U : Sb) (vs : List Nat) (K : Nat -> Bool) (π : Nat -> Nat) (x : Option Q7) (o' : Q7) : Bool :=
 match x with
 | some o => rkO U vs K π o o'
 | none => false
noncomputable def rkH (U : Sb) (vs : List Nat) (K : Nat -> Bool) (π : Nat -> Nat) (H : Tr Q7) : List (Nat × Q7) -> Bool
 | [] => true
 | e :: l => K e.1 && (rkHo U vs K π (H.get (π e.1)) e.2 && (l.all (λ f => !Nat.beq (π e.1) (π f.1)) && rkH U vs K π H l))
theorem Qd4 {H : Tr Q7} : ∀ {l : List (Nat × Q7)}, rkH U vs K π H l = true -> ∀ e ∈ l, K e.1 = true /\ ∃ o, H.get (π e.1) = some o /\ rkO U vs K π o e.2 = true
 | [], _, e, he => by cases he
 | a :: l, h, e, he => by
  simp only [rkH, Bool.and_eq_true] at h
  rcases List.mem_cons.1 he with rfl | he
  . refine ⟨h.1, ?_⟩
    have h2 := h.2.1
    unfold rkHo at h2
    split at h2
    . rename_i o ho; exact ⟨o, ho, h2⟩
    . cases h2
  . exact Qd4 h.2.2.2 e he
theorem Qd5 {H : Tr Q7} : ∀ {l : List (Nat × Q7)}, rkH U vs K π H l = true -> ∀ e ∈ l, ∀ f ∈ l, π e.1 = π f.1 -> e.1 = f.1
 | [], _, e, he, _, _, _ => by cases he
 | a :: l, h, e, he, f, hf, heq => by
  simp only [rkH, Bool.and_eq_true, List.all_eq_true, Bool.not_eq_true'] at h
  have no : ∀ g ∈ l, π a.1 ≠ π g.1 := λ g hg e => by
   have := h.2.2.1 g hg
   rw [e] at this
   simp at this
  rcases List.mem_cons.1 he with e1 | e1 <;> rcases List.mem_cons.1 hf with f1 | f1
  . rw [e1, f1]
  . rw [e1] at heq; exact absurd heq (no f f1)
  . rw [f1] at heq; exact absurd heq.symm (no e e1)
  . exact Qd5 h.2.2.2 e e1 f f1 heq
theorem Qp.Q80 {n0 : Nat} {H : Tr Q7} {w : World} {l : List (Nat × Q7)} {room : Nat} (h : Qp X n0 H w) (hc : Q20 U vs K π X X') (hlt : ∀ b p, X'.V b = some p -> p.blk < w.heap.size) (hk : rkH U vs K π H l = true) : Qp X' n0 (Qbe room l) w := by
 have base : ∀ b o' p, (Qbe room l).get b = some o' -> X'.V b = some p -> X.V (π b) = some p /\ ∃ o, H.get (π b) = some o /\ rkO U vs K π o o' = true := λ b o' p hb hp => by
  obtain ⟨k1, o, k2, k3⟩ := Qd4 hk _ (zD hb)
  exact ⟨by rw [<- hc.kept b k1]; exact hp, o, k2, k3⟩
 refine ⟨λ b o' p hb hp => ?_, λ b b' o1 o2 p p' hb hb' l1 l2 hp hp' e => ?_, hlt, λ b o' p hb hr hp => ?_⟩
 . obtain ⟨g1, o, g2, g3⟩ := base b o' p hb hp
   exact (Q04 hc g3 (h.obj _ o p g2 g1)).1
 . obtain ⟨g1, o, g2, g3⟩ := base b o1 p hb hp
   obtain ⟨g4, q, g5, g6⟩ := base b' o2 p' hb' hp'
   have e1 := (Q04 hc g3 (h.obj _ o p g2 g1)).2.1
   exact Qd5 hk _ (zD hb) _ (zD hb') (h.inj _ _ o q p p' g2 g5 (by rw [<- e1]; exact l1) (by rw [<- Qfu g6]; exact l2) g1 g4 e)
 . obtain ⟨g1, o, g2, g3⟩ := base b o' p hb hp
   have e1 := (Q04 hc g3 (h.obj _ o p g2 g1)).2.2
   exact h.own _ o p g2 (by rw [<- e1]; exact hr) g1
noncomputable def Ql4 (U : Sb) (vs : List Nat) (K : Nat -> Bool) (π : Nat -> Nat) (tm : Tr AV) : Nat -> List AV -> Bool
 | _, [] => true
 | i, a :: l => rkA U vs K π ((tm.get i).getD .undef) a && QD (i + 1) λ j => Ql4 U vs K π tm j l
theorem Q9j {tm : Tr AV} : ∀ {l : List AV} {i t : Nat} {a : AV}, Ql4 U vs K π tm i l = true -> l[t]? = some a -> rkA U vs K π ((tm.get (i + t)).getD .undef) a = true
 | [], i, t, a, _, h => by simp at h
 | b :: l, i, t, a, h, e => by
  simp only [Ql4, sNat_eq, Bool.and_eq_true] at h
  cases t with
  | zero => simp at e; subst e; simpa using h.1
  | succ t =>
   have := Q9j h.2 (t := t) (by simpa using e)
   rw [show i + (t + 1) = i + 1 + t by omega]
   exact this
theorem QW.Q80 {nt : Nat} {tm : Tr AV} {tmps : Array Value} {l : List AV} (hc : Q20 U vs K π X X') (h : QW X nt tm tmps) (hk : Ql4 U vs K π tm 0 l = true) (hl : l.length = nt) : QW X' nt (setArgs 0 l (.sk nt)) tmps := by
 refine ⟨h.1, λ t => ?_⟩
 rw [YZ (X := X')]
 simp only [Nat.not_lt_zero, if_false, Nat.sub_zero]
 cases ht : l[t]? with
 | some a =>
  simp only [Option.getD_some]
  have := Q9j hk ht
  rw [Nat.zero_add] at this
  exact ZQ hc this (h.2 t)
 | none =>
  have hge : nt <= t := by
   rw [<- hl]
   exact List.getElem?_eq_none_iff.1 ht
  have hu : tmps.getD t undef = undef := by
   have : tmps[t]? = none := Array.getElem?_eq_none_iff.2 (by rw [h.1]; exact hge)
   simp [Array.getD_eq_getD_getElem?, this]
  rw [hu]
  simp
  exact Qr X'
end
def yg (U : Sb) (vs : List Nat) (K : Nat -> Bool) (π : Nat -> Nat) (X : Ext) : Ext :=
 ⟨λ b => if K b = true then X.V (π b) else if b ∈ vs then X.V 0 else none, ⟨λ i => if i ∈ vs then (U.at i).den X.O else 0, X.O.str⟩⟩
noncomputable def Qlz (U : Sb) (keep : List Nat) (π : List (Nat × Nat)) (ng : Nat) (t : StC) (s : AM) : Bool :=
 Q6e s.cs && (!s.fr.ret && (Q6e s.fr.defers && (Qj5 s.fr.ro && (Q2c s.fr.cur && (s.fr.todo.all Q27 && (Ql4 U t.vs (Qy ng keep) (Q9i π) s.fr.tm 0 t.fr.tms && (Nat.beq t.fr.tms.length s.fr.nt && (rkH U t.vs (Qy ng keep) (Q9i π) s.H t.l && (Qbu U t.vs s.ctx t.fs &&
  (Nat.ble ng t.next && (keep.all (λ b => Nat.blt b t.next) && (t.vs.all (λ i => Nat.blt i t.next) && (t.vs.all (λ i => !Qy ng keep i || s.ctx.vs.any (Nat.beq (Q9i π i))) && π.all (λ p => Nat.ble ng p.1))))))))))))))
def HopR (L : Nat) (spec : Spec) (G : Env) (n k : Nat) (s : AM) (j : List Nat) (U : Sb) (keep : List Nat) (π : List (Nat × Nat)) (t : StC) : Prop :=
 (AM.rec (motive := λ _ => (Nat × Nat × Q1n × List Qt) × Bool) (λ fr cs H nx c => (sk4 fr, Qlz U keep π G.T.ng t ⟨fr, cs, H, nx, c⟩)) (Q7x L spec G n k j s)) = (t.fr.sk4, true)
section
variable {P : Program} {G : Env} {n0 : Nat} {w0 : World} {cs0 : List Frame}
theorem HopR.endsV (hT : G.T.OK P) (hI : YU.OK P G.I) (hS : ZC P G n0) (hng : 0 < G.T.ng) {L : Nat} {f : FuncId} {s : AM} {n k room : Nat} {j : List Nat} {U : Sb} {keep : List Nat} {π : List (Nat × Nat)} {t : StC} {b : Nat} {pl : Place} {avs avs' : List AV} {vals : List Value}
 (hk : Qy G.T.ng keep b = true) (hπ : Q9i π b = b) (ht : t.cs = []) (hch : rkL U t.vs (Qy G.T.ng keep) (Q9i π) avs avs' = true) (hh : HopR L jX G n k s j U keep π t)
 (he : ∀ X m, Kept b pl avs' vals X -> Sim P G n0 w0 cs0 X (t.am room) m -> Z5 P n0 w0 cs0 f m) {X : Ext} {m : Machine} (hX : Kept b pl avs vals X) (h : Sim P G n0 w0 cs0 X s m) : Z5 P n0 w0 cs0 f m := by
 obtain ⟨Y, m', st, hle, h1⟩ := Za hT hI hS (yG (L := L) zf n k j s) h
 unfold HopR at hh
 generalize Q7x L jX G n k j s = s1 at hh h1
 obtain ⟨fr1, cs1, H1, nx1, c1⟩ := s1
 simp only [Prod.mk.injEq] at hh
 obtain ⟨e0, hb⟩ := hh
 simp only [Qlz, Bool.and_eq_true, Bool.not_eq_true', List.all_eq_true, Nat.ble_eq, Nat.blt_eq, Nat.beq_eq, Bool.or_eq_true] at hb
 obtain ⟨b1, b2, b3, b4, b5, b6, b7, b8, b9, b10, b11, b12, b13, b14, b15⟩ := hb
 have hcs : cs1 = [] := by cases cs1 with
  | nil => rfl
  | cons a l => cases b1
 subst hcs
 have hdef : fr1.defers = [] := by cases hh : fr1.defers with
  | nil => rfl
  | cons a l => rw [hh] at b3; cases b3
 have hro : fr1.ro = none := by cases hh : fr1.ro with
  | none => rfl
  | some a => rw [hh] at b4; cases b4
 have hlow : ∀ g, g < G.T.ng -> Q9i π g = g := λ g hg => Q9h (n := G.T.ng) (List.all_eq_true.2 λ p hp => by rw [Nat.ble_eq]; exact b15 p hp) hg
 have hKg : ∀ b, b < G.T.ng -> Qy G.T.ng keep b = true := λ b hb => by unfold Qy; rw [show Nat.blt b G.T.ng = true from by rw [Nat.blt_eq]; exact hb]; rfl
 have hKn : ∀ b, t.next <= b -> Qy G.T.ng keep b = false := λ b hb => by
  unfold Qy
  rw [Bool.or_eq_false_iff]
  refine ⟨?_, ?_⟩
  . cases hh : Nat.blt b G.T.ng with
    | false => rfl
    | true => rw [Nat.blt_eq] at hh; omega
  . rw [List.any_eq_false]
    intro c hc he
    have : b = c := by simpa using he
    subst this
    have := b12 b hc
    omega
 obtain ⟨fr, fs, w, rfl, hF, hall, hHr, hB, h0⟩ := h1.ex
 obtain ⟨k0, hk0⟩ := h1.Ql 0 hng
 have hc : Q20 U t.vs (Qy G.T.ng keep) (Q9i π) Y (yg U t.vs (Qy G.T.ng keep) (Q9i π) Y) := by
  refine ⟨λ i hi => ⟨?_, by simp only [yg, if_pos hi], rfl⟩, λ b hb => by simp only [yg, if_pos hb]⟩
  by_cases hk : Qy G.T.ng keep i = true
  . obtain ⟨p, hp⟩ := (b14 i hi).elim (λ h' => by rw [hk] at h'; cases h') λ h' => h1.ctx.1 _ (any_beq h')
    exact ⟨p, by simp only [yg, if_pos hk, hp]⟩
  . exact ⟨_, by simp only [yg, if_neg hk, if_pos hi]; exact hk0⟩
 have hlt : ∀ b p, (yg U t.vs (Qy G.T.ng keep) (Q9i π) Y).V b = some p -> p.blk < w.heap.size := λ b p hp => by
  simp only [yg] at hp
  split at hp
  . exact hHr.lt _ p hp
  . split at hp
    . exact hHr.lt 0 p hp
    . cases hp
 have hall : fs = [] := hall
 subst hall
 refine .of_steps st (he (yg U t.vs (Qy G.T.ng keep) (Q9i π) Y) _ ⟨?_, YJ hc hch (AV.Zz hle _ _ hX.r)⟩ ⟨⟨fr, [], w, rfl, ?_, ?_, Qp.Q80 hHr hc hlt b9, hB, h0⟩, J9 hc.cast h1.ctx b10, λ g hg => ?_, λ b hb => ?_, ?_⟩)
 . simp only [yg, if_pos hk, hπ]
   exact hle.V _ _ hX.V
 . obtain ⟨hb, h'⟩ := hF
   simp only [b2] at h'
   have hn : t.fr.tms.length = t.fr.nt := by rw [b8, e0.2.1]
   have htm : ∀ {tmps}, QW Y fr1.nt fr1.tm tmps -> QW (yg U t.vs (Qy G.T.ng keep) (Q9i π) Y) t.fr.nt (setArgs 0 t.fr.tms (.sk t.fr.nt)) tmps := λ h => by
    have := QW.Q80 hc h b7 b8
    rw [e0.2.1] at this
    exact this
   refine ⟨⟨by rw [hb.fn]; exact e0.1, hb.kind, ?_, ?_⟩, ?_⟩
   . have := hb.ro
     rw [hro] at this
     exact this
   . have := hb.defers
     rw [hdef] at this
     exact this
   . obtain ⟨hm, is, his, hcur'⟩ := h'
     refine ⟨hm, is, ?_, ?_⟩
     . show J5 _ t.fr.todo is
       rw [<- e0.2.2.2]
       exact Yh (List.all_eq_true.2 b6) his
     . show match t.fr.cur with
        | .none => _
        | .reg ops k rest => _
        | .draw ops done rest pa => _
       rw [<- e0.2.2.1]
       cases hcc : fr1.cur with
       | none => simp only [hcc] at hcur'; exact ⟨hcur'.1, htm hcur'.2⟩
       | reg ops k rest => simp only [hcc] at hcur'; exact ⟨hcur'.1, hcur'.2.1, htm hcur'.2.2⟩
       | draw ops done rest pa => rw [hcc] at b5; cases b5
 . show ZO P G _ n0 _ (t.cs.map Fr.af) []
   rw [ht]
   rfl
 . obtain ⟨n, hn⟩ := h1.Ql g hg
   exact ⟨n, by simp only [yg, if_pos (hKg g hg), hlow g hg]; exact hn⟩
 . simp only [yg]
   have hb' : t.next <= b := hb
   rw [if_neg (by rw [hKn b hb']; simp), if_neg (λ hm => by have := b13 b hm; omega)]
 . have e : (t.am room).fr :: (t.am room).cs = t.fr.af :: t.cs.map Fr.af := rfl
   rw [e, ht]
   have : Qv t.fr.af = [] := by
    unfold Qv
    show (match t.fr.cur with | .draw _ _ _ pa => pa.map (·.2) | _ => []) = []
    rw [<- e0.2.2.1]
    cases hcc : fr1.cur with
    | draw ops done rest pa => rw [hcc] at b5; cases b5
    | _ => rfl
   simp [this]
end
end Go.Ax
namespace Go.Ax
open Go.RowKit
noncomputable def E.rn (u v : Nat) : E -> E
 | .lit n => .lit n
 | .var i => bif Nat.beq i u then .var v else .var i
 | .len i => .len i
 | .byte i a => .byte i (a.rn u v)
 | .bin op k a b => .bin op k (a.rn u v) (b.rn u v)
 | .cnv k a => .cnv k (a.rn u v)
 | .pk n a => .pk n (a.rn u v)
 | .cons a t => .cons (a.rn u v) (t.rn u v)
 | .tv i lo hi t => .tv i (lo.rn u v) (hi.rn u v) (t.rn u v)
 | .fn k t => .fn k (t.rn u v)
 | .mn a b => .mn (a.rn u v) (b.rn u v)
theorem E.Yr {u v : Nat} {O : Val} (h : O.int u = O.int v) : ∀ e : E, (e.rn u v).den O = e.den O
 | .lit _ => rfl
 | .var i => by
  simp only [E.rn]
  cases hb : Nat.beq i u with
  | true => rw [Nat.beq_eq] at hb; subst hb; simp only [cond_true, E.den, h]
  | false => rfl
 | .len _ => rfl
 | .byte i a => by simp only [E.rn, E.den, E.Yr h a]
 | .bin _ _ a b => by simp only [E.rn, E.den, E.Yr h a, E.Yr h b]
 | .cnv _ a => by simp only [E.rn, E.den, E.Yr h a]
 | .pk _ a => by simp only [E.rn, E.den, E.Yr h a]
 | .cons a t => by simp only [E.rn, E.den, E.Yr h a, E.Yr h t]
 | .tv i a b t => by simp only [E.rn, E.den, E.Yr h a, E.Yr h b, E.Yr h t]
 | .fn _ t => by simp only [E.rn, E.den, E.Yr h t]
 | .mn a b => by simp only [E.rn, E.den, E.Yr h a, E.Yr h b]
theorem E.qD {u v : Nat} {d : Nat -> Prop} (hv : d v) : ∀ {e : E}, e.ok d -> (e.rn u v).ok d
 | .lit _, _ => trivial
 | .var i, h => by
  simp only [E.rn]
  cases Nat.beq i u with
  | true => exact hv
  | false => exact h
 | .len _, h => h
 | .byte _ _, h => ⟨h.1, E.qD hv h.2⟩
 | .bin _ _ _ _, h => ⟨E.qD hv h.1, E.qD hv h.2⟩
 | .cnv _ a, h => E.qD (e := a) hv h
 | .pk _ a, h => E.qD (e := a) hv h
 | .cons _ _, h => ⟨E.qD hv h.1, E.qD hv h.2⟩
 | .tv _ _ _ _, h => ⟨h.1, E.qD hv h.2.1, E.qD hv h.2.2.1, E.qD hv h.2.2.2⟩
 | .fn _ t, h => E.qD (e := t) hv h
 | .mn _ _, h => ⟨E.qD hv h.1, E.qD hv h.2⟩
noncomputable def Fact.rn (u v : Nat) (f : Fact) : Fact := ⟨f.op, f.a.rn u v, f.b.rn u v, f.val⟩
section
variable {P : Program} {G : Env} {n0 : Nat} {w0 : World} {cs0 : List Frame}
theorem Sim.pickC {X : Ext} {t : StC} {l l' : List Fact} {room : Nat} {m : Machine} (ps : List Nat) (hp : ps.map (λ i => l[i]?) = l'.map some) (h : Sim P G n0 w0 cs0 X ({ t with fs := l }.am room) m) : Sim P G n0 w0 cs0 X ({ t with fs := l' }.am room) m := by
 refine ⟨h.ex, ⟨h.ctx.1, λ f hm => h.ctx.2 f ?_⟩, h.Ql, h.fresh, h.ids⟩
 have h1 : some f ∈ ps.map (λ i => l[i]?) := by rw [hp]; exact List.mem_map.2 ⟨f, hm, rfl⟩
 obtain ⟨i, -, hi⟩ := List.mem_map.1 h1
 exact List.mem_of_getElem? hi
theorem Sim.derC {X : Ext} {t : StC} {l : List Fact} {room : Nat} {m : Machine} {op : BinOp} {a b : E} {v : Bool} (hop : Q3y op = true) (hc : E.cmp ⟨l, t.vs⟩ op a b = some v) (ha : a.okB t.vs = true) (hb : b.okB t.vs = true) (h : Sim P G n0 w0 cs0 X ({ t with fs := l }.am room) m) :
 Sim P G n0 w0 cs0 X ({ t with fs := ⟨op, a, b, v⟩ :: l }.am room) m := by
 refine ⟨h.ex, ⟨h.ctx.1, λ f hm => ?_⟩, h.Ql, h.fresh, h.ids⟩
 rcases List.mem_cons.1 hm with rfl | hm
 . exact ⟨E.Qb hop hc h.ctx, E.Zu h.ctx.1 ha, E.Zu h.ctx.1 hb⟩
 . exact h.ctx.2 f hm
theorem Sim.twinC {X : Ext} {t : StC} {l : List Fact} {room : Nat} {m : Machine} {u v : Nat} (hv : t.vs.any (Nat.beq v) = true) (he : (⟨.eql, .var v, .var u, true⟩ : Fact) ∈ l) (h : Sim P G n0 w0 cs0 X ({ t with fs := l }.am room) m) :
 Sim P G n0 w0 cs0 X ({ t with fs := l.map (Fact.rn u v) ++ l }.am room) m := by
 have hd : X.dom v := h.ctx.1 v (any_beq hv)
 have hq : X.O.int u = X.O.int v := by
  have h1 := (h.ctx.2 _ he).1
  simp only [Fact.ok, Yl, E.den, beq_iff_eq] at h1
  exact h1.symm
 refine ⟨h.ex, ⟨h.ctx.1, λ f hm => ?_⟩, h.Ql, h.fresh, h.ids⟩
 rcases List.mem_append.1 hm with hm | hm
 . obtain ⟨g, hg, rfl⟩ := List.mem_map.1 hm
   obtain ⟨g1, g2, g3⟩ := h.ctx.2 g hg
   refine ⟨?_, E.qD hd g2, E.qD hd g3⟩
   simp only [Fact.ok, Fact.rn, E.Yr hq]
   exact g1
 . exact h.ctx.2 f hm
end
end Go.Ax
