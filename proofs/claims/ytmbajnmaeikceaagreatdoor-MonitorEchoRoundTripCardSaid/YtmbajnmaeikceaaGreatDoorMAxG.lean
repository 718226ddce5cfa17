/-
 THE ABSTRACT EXECUTOR, 57: texts as terms; numbers written into texts and read out of them, and functions of texts, known as a whole. Conditions: none.
-/
import Derived.Test.YtmbajnmaeikceaaGreatDoorMAxF
import Derived.Laws.AppendOwn
import Derived.MapKept
import Derived.Lib.MakeNoZero
import Derived.Lib.Bytealg
import Derived.Laws.IdiomRangeMap
import Derived.Test.YtmbajnmaeikceaaGreatDoorMAxE
namespace Go.Ax
open Go.RowKit
noncomputable def sE {β : Type} (e : E) (k : E -> β) : β :=
 match e with
 | .lit n => k (.lit n)
 | .var i => k (.var i)
 | .len i => k (.len i)
 | .byte i a => k (.byte i a)
 | .bin op j a b => k (.bin op j a b)
 | .cnv j a => k (.cnv j a)
 | .pk n a => k (.pk n a)
 | .cons a t => k (.cons a t)
 | .tv i lo hi t => k (.tv i lo hi t)
 | .fn n t => k (.fn n t)
 | .mn a b => k (.mn a b)
@[simp] theorem sE_eq {β : Type} (e : E) (k : E -> β) : sE e k = k e := by cases e <;> rfl
noncomputable def Q7y : List E -> E
 | [] => .lit (.ofNat 1)
 | a :: l => sE (Q7y l) λ t => .cons a t
theorem Q5d {O : Val} : ∀ l : List E, (Q7y l).den O = Jt (S.bytes O l) 1
 | [] => rfl
 | a :: l => by
  simp only [Q7y, sE_eq, E.den, Q5d l]
  rfl
theorem Q9k {n : Nat -> Prop} : ∀ {l : List E}, (∀ t ∈ l, t.ok n) -> (Q7y l).ok n
 | [], _ => trivial
 | a :: l, h => by
  simp only [Q7y, sE_eq]
  exact ⟨h a (by simp), Q9k λ t ht => h t (by simp [ht])⟩
theorem Ju {P : Program} {G : Env} {n0 : Nat} {f : FuncId} {S : Ctx -> Tr Q6 -> Nat -> List AV -> D SR}
 (h : ∀ (c : Ctx) (X : Ext) (H : Tr Q6) (next : Nat) (w : World) (args : List AV) (vs : Array Value) (r : SR), S c H next args = .ok r -> c.okN X.dom X.O -> AV.QI X args vs.toList ->
  r.H = H /\ r.next = next /\ r.ctx = c /\ ∃ u, r.v.rel X u /\ Calls P f vs w (λ e w' => e = .returned u /\ Below w.heap.size w w')) : ZE P G n0 f S := by
 intro c X H next w args vs r hr hc hg hH h0 hfr hargs fr cs
 obtain ⟨e1, e2, e3, u, hu, hcall⟩ := h c X H next w args vs r hr hc hargs
 obtain ⟨u', w', ⟨rfl, hB⟩, hst⟩ := Ze (q := λ v w' => v = u /\ Below w.heap.size w w') (hcall.mono λ e w' he => ⟨u, he.1, rfl, he.2⟩) fr cs
 refine ⟨X, u', w', hst, Ext.le.refl X, hu, ?_, hB.mono h0, λ b hb _ => ⟨hb, by rw [e1]⟩, by rw [e2]; exact Nat.le_refl _, λ b hb => hfr b (by rw [e2] at hb; exact hb), by rw [e3]; exact hc⟩
 rw [e1]
 exact ⟨λ b o p ho hp => by rw [hB.block _ (hH.lt _ _ hp)]; exact hH.obj b o p ho hp, hH.inj, λ b p hp => Nat.lt_of_lt_of_le (hH.lt b p hp) hB.size, hH.own⟩
def Qks (n : E) (j : Nat) : E := .cnv .u8 (.bin .shr .i64 n (.lit (.ofNat (8 * j))))
noncomputable def Qnl (n : Nat) (j : Nat) : E := QC (Nat.mod (Nat.div n (Nat.pow 256 j)) 256) λ m => .lit (.ofNat m)
def Q74 (z : Int) (j : Nat) : UInt8 := UInt8.ofNat (IntKind.u8.wrap (z.fdiv (2 ^ (8 * j)))).toNat
noncomputable def Qfc (n : E) (j : Nat) : E :=
 match n with
 | .lit (.ofNat n) => Qnl n j
 | n => QC (8 * j) λ p => .cnv .u8 (.bin .shr .i64 n (.lit (.ofNat p)))
theorem yV (n : Int) : IntKind.u8.wrap n = n % 256 := by
 simp [IntKind.wrap, IntKind.bits, IntKind.signed]
theorem Q94 {n : E} {j : Nat} {O : Val} {d : Nat -> Prop} (hn : n.ok d) (hj : j < 4) : (Qfc n j).ok d /\ (Qfc n j).den O = IntKind.u8.wrap ((n.den O).fdiv (2 ^ (8 * j))) := by
 unfold Qfc
 split
 . rename_i m
   refine ⟨trivial, ?_⟩
   simp only [Qnl, sNat_eq, E.den]
   rw [yV]
   have e : (2 : Int) ^ (8 * j) = ((256 ^ j : Nat) : Int) := by rw [Int.pow_mul]; simp
   rw [e, Int.ofNat_eq_natCast, Int.ofNat_eq_natCast, Int.fdiv_eq_ediv_of_nonneg _ (Int.natCast_nonneg _)]
   show ((m / 256 ^ j % 256 : Nat) : Int) = _
   rw [Int.natCast_emod, Int.natCast_ediv]
   rfl
 . simp only [sNat_eq]
   refine ⟨⟨hn, trivial⟩, ?_⟩
   simp only [E.den, Zk]
   have : min ((Int.ofNat (8 * j)).toNat) IntKind.i64.bits = 8 * j := by
    simp only [Int.ofNat_eq_natCast, Int.toNat_natCast, IntKind.bits]
    omega
   rw [this]
noncomputable def Qbn (n : E) : Nat -> List E
 | 0 => []
 | j + 1 => sE (Qfc n j) λ b => b :: Qbn n j
def Zv (z : Int) : Nat -> List UInt8
 | 0 => []
 | j + 1 => Q74 z j :: Zv z j
theorem Q0c {n : E} {O : Val} {d : Nat -> Prop} (hn : n.ok d) : ∀ {k : Nat}, k <= 4 -> S.okN d O (Qbn n k) /\ S.bytes O (Qbn n k) = Zv (n.den O) k
 | 0, _ => ⟨λ t ht => (by cases ht), rfl⟩
 | j + 1, h => by
  obtain ⟨h1, h2⟩ := Q0c (O := O) hn (k := j) (by omega)
  obtain ⟨h3, h4⟩ := Q94 (O := O) hn (j := j) (by omega)
  simp only [Qbn, sE_eq]
  constructor
  . intro t ht
    rcases List.mem_cons.1 ht with rfl | ht
    . rw [h4, yV]
      exact ⟨h3, by omega, by omega⟩
    . exact h1 t ht
  . show UInt8.ofNat ((Qfc n j).den O).toNat :: S.bytes O (Qbn n j) = _
    rw [h4, h2]; rfl
noncomputable def Qdn (b : Nat) : Sum := λ c H next as =>
 match as with
 | [.int .i64 n, .int .i64 (.lit (.ofNat k))] => bif Nat.ble 1 k && Nat.ble k 4 then
  QC (Nat.pow 256 k) λ m =>
  match E.cmp c .lss n (.lit (.ofNat 0)) with
  | none => .ask .lss n (.lit (.ofNat 0))
  | some true => .ok ⟨.tuple [.str [], .int .i64 (.lit (.ofNat b))], H, next, c⟩
  | some false => match E.cmp c .lss n (.lit (.ofNat m)) with
   | none => .ask .lss n (.lit (.ofNat m))
   | some false => .ok ⟨.tuple [.str [], .int .i64 (.lit (.ofNat b))], H, next, c⟩
   | some true => .ok ⟨.tuple [.str (Qbn n k), .int .i64 (.lit (.ofNat 0))], H, next, c⟩
  else .fail
 | _ => .fail
theorem Qdm {P : Program} {G : Env} {n0 : Nat} {f : FuncId} {b : Nat}
 (h1 : ∀ (z : Int) (k : Nat) (w : World), 1 <= k -> k <= 4 -> 0 <= z -> z < 256 ^ k -> Calls P f #[.int .i64 z, .int .i64 k] w λ e w' => e = .returned (.tuple #[.string ⟨(Zv z k).toArray⟩, .int .i64 0]) /\ Below w.heap.size w w')
 (h2 : ∀ (z : Int) (k : Nat) (w : World), 1 <= k -> k <= 4 -> (z < 0 \/ 256 ^ k <= z) -> Calls P f #[.int .i64 z, .int .i64 k] w λ e w' => e = .returned (.tuple #[.string ⟨#[]⟩, .int .i64 b]) /\ Below w.heap.size w w') : ZE P G n0 f (Qdn b) := by
 refine Ju λ c X H next w args vs r hr hc hargs => ?_
 unfold Qdn at hr
 split at hr
 . rename_i n k
   cases hb : (Nat.ble 1 k && Nat.ble k 4) with
   | false => rw [hb] at hr; cases hr
   | true =>
    rw [hb] at hr
    simp only [Bool.and_eq_true, Nat.ble_eq] at hb
    simp only [cond_true, sNat_eq] at hr
    obtain ⟨u, vs', e1, g1, g2⟩ := Q8.1 hargs
    obtain ⟨v, vs'', rfl, g3, g4⟩ := Q8.1 g2
    have := rels_nil.1 g4
    subst this
    simp only [AV.rel] at g1 g3
    obtain ⟨k1, rfl⟩ := g1
    obtain ⟨-, rfl⟩ := g3
    have hvs : vs = #[.int .i64 (n.den X.O), .int .i64 k] := by rw [<- Array.toList_inj]; exact e1
    subst hvs
    have pw : ((Nat.pow 256 k : Nat) : Int) = 256 ^ k := by simp
    have bad : ∀ r, (n.den X.O < 0 \/ 256 ^ k <= n.den X.O) -> (.ok ⟨.tuple [.str [], .int .i64 (.lit (.ofNat b))], H, next, c⟩ : D SR) = .ok r -> r.H = H /\ r.next = next /\ r.ctx = c /\ ∃ u, r.v.rel X u /\ Calls P f #[.int .i64 (n.den X.O), .int .i64 k] w (λ e w' => e = .returned u /\ Below w.heap.size w w') := by
     intro r hz hr
     cases hr
     refine ⟨rfl, rfl, rfl, _, ?_, h2 _ k w hb.1 hb.2 hz⟩
     simp only [AV.rel]
     refine ⟨_, rfl, ?_⟩
     simp only [rels_cons_cons, rels_nil, AV.rel]
     exact ⟨⟨λ t ht => (by cases ht), rfl⟩, ⟨trivial, rfl⟩, trivial⟩
    split at hr
    . cases hr
    . rename_i hq
      have := E.Qf rfl hq hc
      simp only [YD, decide_eq_true_eq] at this
      exact bad r (.inl this) hr
    . rename_i hq
      have q0 := E.Qf rfl hq hc
      simp only [YD, decide_eq_false_iff_not] at q0
      have q0' : 0 <= n.den X.O := by
       have e0 : (E.lit (Int.ofNat 0)).den X.O = 0 := rfl
       rw [e0] at q0; omega
      split at hr
      . cases hr
      . rename_i hq2
        have q1 := E.Qf rfl hq2 hc
        simp only [YD, decide_eq_false_iff_not] at q1
        refine bad r (.inr ?_) hr
        have e0 : (E.lit (Int.ofNat (Nat.pow 256 k))).den X.O = ((Nat.pow 256 k : Nat) : Int) := rfl
        rw [e0, pw] at q1; omega
      . rename_i hq2
        have q1 := E.Qf rfl hq2 hc
        simp only [YD, decide_eq_true_eq] at q1
        have e0 : (E.lit (Int.ofNat (Nat.pow 256 k))).den X.O = ((Nat.pow 256 k : Nat) : Int) := rfl
        rw [e0, pw] at q1
        cases hr
        obtain ⟨s1, s2⟩ := Q0c (O := X.O) k1 hb.2
        refine ⟨rfl, rfl, rfl, _, ?_, h1 _ k w hb.1 hb.2 q0' q1⟩
        simp only [AV.rel]
        refine ⟨_, rfl, ?_⟩
        simp only [rels_cons_cons, rels_nil, AV.rel]
        exact ⟨⟨s1, by rw [s2]⟩, ⟨trivial, rfl⟩, trivial⟩
 . cases hr
def Qa1 (l : List UInt8) : Nat := l.foldl (λ n b => n * 256 + b.toNat) 0
def Q8l : Nat -> List E -> Option Nat
 | n, [] => some n
 | n, .lit (.ofNat b) :: l => Q8l (n * 256 + b) l
 | _, _ => none
def Qkx (n : E) : Nat -> List E -> Bool
 | 0, [] => true
 | j + 1, e :: l => e.same (Qks n j) && Qkx n j l
 | _, _ => false
noncomputable def getE (c : Ctx) (l : List E) : Option E :=
 match l with
 | .cnv .u8 (.bin .shr .i64 n (.lit p)) :: m => bif Qkx n (m.length + 1) (.cnv .u8 (.bin .shr .i64 n (.lit p)) :: m) && (match (E.ivL c.fs n).lo, (E.ivL c.fs n).hi with
  | some lo, some hi => ile 0 lo && ilt hi (.ofNat (Nat.pow 256 (m.length + 1)))
  | _, _ => false) then some n else none
 | l => match Q8l 0 l with
  | some n => QC n λ n => some (.lit (.ofNat n))
  | none => none
theorem Q2k {O : Val} {d : Nat -> Prop} : ∀ {l : List E} {n m : Nat}, Q8l n l = some m -> S.okN d O l -> (S.bytes O l).foldl (λ n b => n * 256 + b.toNat) n = m
 | [], n, m, h, _ => by simp only [Q8l, Option.some.injEq] at h; subst h; rfl
 | .lit (.ofNat b) :: l, n, m, h, hk => by
  simp only [Q8l] at h
  have ih := Q2k h λ t ht => hk t (by simp [ht])
  have hb := (hk (.lit (.ofNat b)) (by simp)).2.2
  simp only [E.den, Int.ofNat_eq_natCast] at hb
  show (S.bytes O l).foldl _ (n * 256 + (UInt8.ofNat ((E.lit (.ofNat b)).den O).toNat).toNat) = m
  have e : (UInt8.ofNat ((E.lit (.ofNat b)).den O).toNat).toNat = b := by
   show (UInt8.ofNat (Int.ofNat b).toNat).toNat = b
   simp
   omega
  rw [e]
  exact ih
 | .lit (.negSucc _) :: _, _, _, h, _ => by simp [Q8l] at h
 | .var _ :: _, _, _, h, _ => by simp [Q8l] at h
 | .len _ :: _, _, _, h, _ => by simp [Q8l] at h
 | .byte _ _ :: _, _, _, h, _ => by simp [Q8l] at h
 | .bin _ _ _ _ :: _, _, _, h, _ => by simp [Q8l] at h
 | .cnv _ _ :: _, _, _, h, _ => by simp [Q8l] at h
 | .pk _ _ :: _, _, _, h, _ => by simp [Q8l] at h
 | .cons _ _ :: _, _, _, h, _ => by simp [Q8l] at h
 | .tv _ _ _ _ :: _, _, _, h, _ => by simp [Q8l] at h
 | .fn _ _ :: _, _, _, h, _ => by simp [Q8l] at h
theorem Qfd {n : E} {j : Nat} {O : Val} (hj : j < 4) : (Qks n j).den O = IntKind.u8.wrap ((n.den O).fdiv (2 ^ (8 * j))) := by
 simp only [Qks, E.den, Zk]
 have : min ((Int.ofNat (8 * j)).toNat) IntKind.i64.bits = 8 * j := by
  simp only [Int.ofNat_eq_natCast, Int.toNat_natCast, IntKind.bits]
  omega
 rw [this]
theorem Q3c {O : Val} {n : E} : ∀ {l : List E} {k : Nat}, Qkx n k l = true -> k <= 4 -> S.bytes O l = Zv (n.den O) k
 | [], 0, _, _ => rfl
 | [], _ + 1, h, _ => by simp [Qkx] at h
 | _ :: _, 0, h, _ => by simp [Qkx] at h
 | e :: l, j + 1, h, hk => by
  simp only [Qkx, Bool.and_eq_true] at h
  have := E.Q5 h.1
  show UInt8.ofNat (e.den O).toNat :: S.bytes O l = _
  rw [this, Qfd (by omega), Q3c h.2 (by omega)]
  rfl
theorem Q34 {z : Nat} : ∀ {k a : Nat}, k <= 4 -> (Zv z k).foldl (λ n b => n * 256 + b.toNat) a = a * 256 ^ k + z % 256 ^ k
 | 0, a, _ => by simp [Zv]; omega
 | j + 1, a, h => by
  have ih := λ a => Q34 (z := z) (k := j) (a := a) (by omega)
  show (Zv z j).foldl _ (a * 256 + (Q74 z j).toNat) = _
  rw [ih]
  have e : (Q74 z j).toNat = z / 256 ^ j % 256 := by
   unfold Q74
   rw [yV]
   have e : (2 : Int) ^ (8 * j) = ((256 ^ j : Nat) : Int) := by rw [Int.pow_mul]; simp
   rw [e, Int.fdiv_eq_ediv_of_nonneg _ (Int.natCast_nonneg _)]
   have e2 : ((z : Int) / ((256 ^ j : Nat) : Int) % 256).toNat = z / 256 ^ j % 256 := by
    rw [<- Int.natCast_ediv]; omega
   rw [e2]
   simp
  rw [e]
  have h1 := Nat.div_add_mod (z % 256 ^ (j + 1)) (256 ^ j)
  have h2 : z % 256 ^ (j + 1) / 256 ^ j = z / 256 ^ j % 256 := by
   rw [Nat.pow_succ, Nat.mod_mul_right_div_self]
  have h3 : z % 256 ^ (j + 1) % 256 ^ j = z % 256 ^ j := by
   rw [Nat.pow_succ, Nat.mod_mul_right_mod]
  rw [h2, h3] at h1
  rw [<- h1, Nat.pow_succ, Nat.add_mul, Nat.mul_assoc, Nat.mul_comm 256 (256 ^ j), Nat.mul_comm (256 ^ j) (z / 256 ^ j % 256)]
  omega
theorem Q2s {c : Ctx} {O : Val} {d : Nat -> Prop} {l : List E} {e : E} (h : getE c l = some e) (hl : l.length <= 4) (hk : S.okN d O l) (hc : c.okN d O) : e.ok d /\ e.den O = (Qa1 (S.bytes O l) : Int) := by
 unfold getE at h
 split at h
 . rename_i n p m
   cases hb : (Qkx n (m.length + 1) (.cnv .u8 (.bin .shr .i64 n (.lit p)) :: m) && (match (E.ivL c.fs n).lo, (E.ivL c.fs n).hi with
    | some lo, some hi => ile 0 lo && ilt hi (.ofNat (Nat.pow 256 (m.length + 1)))
    | _, _ => false)) with
   | false => rw [hb] at h; cases h
   | true =>
    rw [hb] at h
    simp only [cond_true, Option.some.injEq] at h
    subst h
    simp only [Bool.and_eq_true] at hb
    have hv := E.Q67 hc.2 n
    have hn : n.ok d := (hk (.cnv .u8 (.bin .shr .i64 n (.lit p))) (by simp)).1.1
    refine ⟨hn, ?_⟩
    have hs := Q3c (O := O) hb.1 (by simpa using hl)
    obtain ⟨-, hb⟩ := hb
    split at hb
    . rename_i lo hi e1 e2
      simp only [Bool.and_eq_true, QO, JD, decide_eq_true_eq] at hb
      have a1 := hv.1 _ e1
      have a2 := hv.2 _ e2
      obtain ⟨z, hz⟩ : ∃ z : Nat, n.den O = z := ⟨(n.den O).toNat, by omega⟩
      rw [hs, hz]
      have hlt : z < 256 ^ (m.length + 1) := by
       have q : (Int.ofNat (Nat.pow 256 (m.length + 1))) = ((256 ^ (m.length + 1) : Nat) : Int) := rfl
       rw [q] at hb; omega
      have := Q34 (z := z) (k := m.length + 1) (a := 0) (by simpa using hl)
      unfold Qa1
      rw [this, Nat.mod_eq_of_lt hlt]
      omega
    . cases hb
 . split at h
   . rename_i n hn
     rw [sNat_eq] at h
     cases h
     refine ⟨trivial, ?_⟩
     have := Q2k (O := O) hn hk
     simp only [E.den, Qa1, this, Int.ofNat_eq_natCast]
   . cases h
noncomputable def Qab (b : Nat) : Sum := λ c H next as =>
 match as with
 | [.str s, .int .i64 (.lit (.ofNat i)), .int .i64 (.lit (.ofNat k))] => bif Nat.ble 1 k && Nat.ble k 4 && Nat.ble s.length 1099511627776 && Nat.ble i 1099511627776 then
  bif Nat.ble (i + k) s.length then
   match getE c ((s.drop i).take k) with
   | some e => .ok ⟨.tuple [.int .i64 e, .int .i64 (.lit (.ofNat 0))], H, next, c⟩
   | none => .fail
  else .ok ⟨.tuple [.int .i64 (.lit (.ofNat 0)), .int .i64 (.lit (.ofNat b))], H, next, c⟩
  else .fail
 | _ => .fail
theorem Qen {P : Program} {G : Env} {n0 : Nat} {f : FuncId} {b : Nat}
 (h1 : ∀ (s : ByteArray) (i k : Nat) (w : World), 1 <= k -> k <= 4 -> s.size <= 1099511627776 -> i + k <= s.size -> Calls P f #[.string s, .int .i64 i, .int .i64 k] w λ e w' => e = .returned (.tuple #[.int .i64 (Qa1 ((s.data.toList.drop i).take k)), .int .i64 0]) /\ Below w.heap.size w w')
 (h2 : ∀ (s : ByteArray) (i k : Nat) (w : World), 1 <= k -> k <= 4 -> s.size <= 1099511627776 -> i <= 1099511627776 -> s.size < i + k -> Calls P f #[.string s, .int .i64 i, .int .i64 k] w λ e w' => e = .returned (.tuple #[.int .i64 0, .int .i64 b]) /\ Below w.heap.size w w') : ZE P G n0 f (Qab b) := by
 refine Ju λ c X H next w args vs r hr hc hargs => ?_
 unfold Qab at hr
 split at hr
 . rename_i s i k
   cases hb : (Nat.ble 1 k && Nat.ble k 4 && Nat.ble s.length 1099511627776 && Nat.ble i 1099511627776) with
   | false => rw [hb] at hr; cases hr
   | true =>
    rw [hb] at hr
    simp only [Bool.and_eq_true, Nat.ble_eq] at hb
    simp only [cond_true] at hr
    obtain ⟨u, vs', e1, g1, g2⟩ := Q8.1 hargs
    obtain ⟨v, vs'', rfl, g3, g4⟩ := Q8.1 g2
    obtain ⟨v2, vs3, rfl, g5, g6⟩ := Q8.1 g4
    have := rels_nil.1 g6
    subst this
    simp only [AV.rel] at g1 g3 g5
    obtain ⟨k1, rfl⟩ := g1
    obtain ⟨-, rfl⟩ := g3
    obtain ⟨-, rfl⟩ := g5
    have hvs : vs = #[.string ⟨(S.bytes X.O s).toArray⟩, .int .i64 i, .int .i64 k] := by rw [<- Array.toList_inj]; exact e1
    subst hvs
    have hsz : (⟨(S.bytes X.O s).toArray⟩ : ByteArray).size = s.length := by
     show (S.bytes X.O s).toArray.size = _
     simp [S.bytes]
    cases hle : Nat.ble (i + k) s.length with
    | true =>
     rw [hle] at hr
     simp only [cond_true] at hr
     have hle' : i + k <= s.length := by simpa using hle
     split at hr
     . rename_i e he
       cases hr
       have hkk : S.okN X.dom X.O ((s.drop i).take k) := λ t ht => k1 t (List.mem_of_mem_drop (List.mem_of_mem_take ht))
       obtain ⟨a1, a2⟩ := Q2s he (by simp only [List.length_take]; omega) hkk hc
       refine ⟨rfl, rfl, rfl, _, ?_, h1 _ i k w hb.1.1.1 hb.1.1.2 (by rw [hsz]; exact hb.1.2) (by rw [hsz]; exact hle')⟩
       simp only [AV.rel]
       refine ⟨_, rfl, ?_⟩
       simp only [rels_cons_cons, rels_nil, AV.rel]
       refine ⟨⟨a1, ?_⟩, ⟨trivial, rfl⟩, trivial⟩
       rw [a2]
       have : S.bytes X.O ((s.drop i).take k) = ((S.bytes X.O s).drop i).take k := by simp [S.bytes, List.map_take, List.map_drop]
       rw [this]
     . cases hr
    | false =>
     rw [hle] at hr
     simp only [cond_false] at hr
     cases hr
     have hle' : ¬ i + k <= s.length := λ hh => by rw [Nat.ble_eq_true_of_le hh] at hle; cases hle
     refine ⟨rfl, rfl, rfl, _, ?_, h2 _ i k w hb.1.1.1 hb.1.1.2 (by rw [hsz]; exact hb.1.2) hb.2 (by rw [hsz]; omega)⟩
     simp only [AV.rel]
     refine ⟨_, rfl, ?_⟩
     simp only [rels_cons_cons, rels_nil, AV.rel]
     exact ⟨⟨trivial, rfl⟩, ⟨trivial, rfl⟩, trivial⟩
 . cases hr
end Go.Ax
namespace Go.Ax
open Go.RowKit
noncomputable def Qmq (c : Ctx) (k : E) : List E -> D (List E)
 | [] => .ok [k]
 | a :: l => match E.cmp c .lss k a with
  | none => .ask .lss k a
  | some true => .ok (k :: a :: l)
  | some false => match E.cmp c .gtr k a with
   | some true => (Qmq c k l).bind λ r => .ok (a :: r)
   | _ => .fail
noncomputable def Qd7 (c : Ctx) : List E -> D (List E)
 | [] => .ok []
 | k :: l => (Qd7 c l).bind λ r => Qmq c k r
abbrev Q57 (O : Val) (l : List E) : List Int := l.map (·.den O)
theorem Q2q {c : Ctx} {d : Nat -> Prop} {O : Val} (hc : c.okN d O) {k : E} : ∀ {l r : List E}, Qmq c k l = .ok r -> (Q57 O l).Pairwise (. < ·) -> (Q57 O r).Pairwise (. < ·) /\ (Q57 O r).Perm (k.den O :: Q57 O l) /\ ∀ e ∈ r, e = k \/ e ∈ l
 | [], r, h, _ => by
  simp only [Qmq] at h
  cases h
  exact ⟨by simp, .refl _, λ e he => .inl (by simpa using he)⟩
 | a :: l, r, h, hp => by
  simp only [Qmq] at h
  have hp' := List.pairwise_cons.1 (show (a.den O :: Q57 O l).Pairwise (. < ·) from hp)
  split at h
  . cases h
  . rename_i hq
    have q := E.Qf rfl hq hc
    simp only [YD, decide_eq_true_eq] at q
    cases h
    refine ⟨List.pairwise_cons.2 ⟨λ x hx => ?_, hp⟩, .refl _, λ e he => by simpa using he⟩
    rcases List.mem_cons.1 (show x ∈ a.den O :: Q57 O l from hx) with hx | hx
    . show k.den O < x
      rw [hx]
      exact q
    . have := hp'.1 x hx
      show k.den O < x
      omega
  . split at h
    . rename_i hq
      have q := E.Qf rfl hq hc
      have q' : a.den O < k.den O := by simpa [YD] using q
      obtain ⟨r', h1, h2⟩ := D.bind_ok h
      cases h2
      obtain ⟨i1, i2, i3⟩ := Q2q hc h1 hp'.2
      refine ⟨List.pairwise_cons.2 ⟨λ x hx => ?_, i1⟩, ?_, λ e he => ?_⟩
      . rcases List.mem_cons.1 (i2.mem_iff.1 hx) with rfl | hx
        . exact q'
        . exact hp'.1 x hx
      . exact (List.Perm.cons _ i2).trans (.swap _ _ _)
      . rcases List.mem_cons.1 he with rfl | he
        . exact .inr (by simp)
        . rcases i3 e he with h | h
          . exact .inl h
          . exact .inr (by simp [h])
    . cases h
theorem Q02 {c : Ctx} {d : Nat -> Prop} {O : Val} (hc : c.okN d O) : ∀ {l r : List E}, Qd7 c l = .ok r -> (Q57 O r).Pairwise (. < ·) /\ (Q57 O r).Perm (Q57 O l) /\ ∀ e ∈ r, e ∈ l
 | [], r, h => by
  simp only [Qd7] at h
  cases h
  exact ⟨by simp, .refl _, λ e he => he⟩
 | k :: l, r, h => by
  simp only [Qd7] at h
  obtain ⟨r', h1, h2⟩ := D.bind_ok h
  obtain ⟨i1, i2, i3⟩ := Q02 hc h1
  obtain ⟨j1, j2, j3⟩ := Q2q hc h2 i1
  refine ⟨j1, j2.trans (List.Perm.cons _ i2), λ e he => ?_⟩
  rcases j3 e he with rfl | he
  . simp
  . simp [i3 e he]
noncomputable def Qg0 (c : Ctx) (e : E) : Bool :=
 match (E.iv c.fs e).lo, (E.iv c.fs e).hi with
 | some lo, some hi => ile (.negSucc 9223372036854775807) lo && ile hi (.ofNat 9223372036854775807)
 | _, _ => false
theorem Q7w {c : Ctx} {d : Nat -> Prop} {O : Val} (hc : c.okN d O) {e : E} (h : Qg0 c e = true) : -9223372036854775808 <= e.den O /\ e.den O <= 9223372036854775807 := by
 unfold Qg0 at h
 have hv := E.Qc hc.2 e
 split at h
 . rename_i lo hi e1 e2
   simp only [Bool.and_eq_true, QO] at h
   have a1 := hv.1 _ e1
   have a2 := hv.2 _ e2
   have b1 : (Int.negSucc 9223372036854775807) = -9223372036854775808 := rfl
   have b2 : (Int.ofNat 9223372036854775807) = 9223372036854775807 := rfl
   rw [b1, b2] at h
   omega
 . cases h
noncomputable def Qe7 (c : Ctx) : List (AV × AV × Nat) -> Option (List E)
 | [] => some []
 | x :: l => match x.1 with
  | .int .i64 e => bif Qg0 c e then (match Qe7 c l with
   | some r => some (e :: r)
   | none => none) else none
  | _ => none
def Q5g (clock : Nat) : Nat -> List (AV × AV × Nat) -> Bool
 | _, [] => true
 | lo, x :: l => Nat.ble lo x.2.2 && (Nat.blt x.2.2 clock && Q5g clock (x.2.2 + 1) l)
theorem Q0o {c : Ctx} {X : Ext} (hc : c.okN X.dom X.O) : ∀ {l : List (AV × AV × Nat)} {es : List MapEntry} {ks : List E}, Qe7 c l = some ks -> Q9 X l es -> es.map (·.key) = (Q57 X.O ks).map (Value.int .i64) /\ (∀ e ∈ ks, e.ok X.dom) /\ ∀ z ∈ Q57 X.O ks, -9223372036854775808 <= z /\ z <= 9223372036854775807
 | [], es, ks, h, hr => by
  simp only [Qe7, Option.some.injEq] at h
  subst h
  have : es = [] := hr
  subst this
  exact ⟨rfl, λ e he => (by cases he), λ z hz => (by cases hz)⟩
 | x :: l, es, ks, h, hr => by
  obtain ⟨e, es', rfl, r1, -, -, r4⟩ := hr
  simp only [Qe7] at h
  split at h
  . rename_i k hk
    cases hw : Qg0 c k with
    | false => rw [hw] at h; cases h
    | true =>
     rw [hw] at h
     simp only [cond_true] at h
     split at h
     . rename_i r hr'
       cases h
       obtain ⟨i1, i2, i3⟩ := Q0o hc hr' r4
       rw [hk] at r1
       simp only [AV.rel] at r1
       refine ⟨by simp only [List.map_cons, r1.2, i1, Q57], λ y hy => ?_, λ z hz => ?_⟩
       . rcases List.mem_cons.1 hy with rfl | hy
         . exact r1.1
         . exact i2 y hy
       . rcases List.mem_cons.1 (show z ∈ k.den X.O :: Q57 X.O r from hz) with rfl | hz
         . exact Q7w hc hw
         . exact i3 z hz
     . cases h
  . cases h
theorem jM {X : Ext} {clock : Nat} : ∀ {l : List (AV × AV × Nat)} {es : List MapEntry} {lo : Nat}, Q5g clock lo l = true -> Q9 X l es -> (∀ x ∈ es, lo <= x.born /\ x.born < clock) /\ (es.map (·.born)).Nodup
 | [], es, lo, _, hr => by
  have : es = [] := hr
  subst this
  exact ⟨λ x hx => (by cases hx), by simp⟩
 | x :: l, es, lo, h, hr => by
  obtain ⟨e, es', rfl, -, -, r3, r4⟩ := hr
  simp only [Q5g, Bool.and_eq_true, Nat.ble_eq, Nat.blt_eq] at h
  obtain ⟨i1, i2⟩ := jM h.2.2 r4
  refine ⟨λ y hy => ?_, ?_⟩
  . rcases List.mem_cons.1 hy with rfl | hy
    . rw [r3]; exact ⟨h.1, h.2.1⟩
    . have := i1 y hy; omega
  . rw [List.map_cons, List.nodup_cons]
    refine ⟨λ hm => ?_, i2⟩
    obtain ⟨y, hy, hb⟩ := List.mem_map.1 hm
    have := (i1 y hy).1
    omega
noncomputable def zn (T : TypeId) (gs : List Nat) : Sum := λ c H next as =>
 match as with
 | [.func g [] [.ptr cb 0]] => bif gs.any (Nat.beq g) then
  match H.get cb with
  | some (.cells [.map r] _ true _ _) => match H.get r with
   | some (.map es clock) => bif Nat.ble es.length 1000000 && Q5g clock 0 es then
    match Qe7 c es with
    | some ks => (Qd7 c ks).bind λ l => match l with
     | [] => .ok ⟨.nilslice, H, next, c⟩
     | e :: l => QC (next + 1) λ nx => QC (e :: l).length λ n => .ok ⟨.slice next 0 n n 1 false, H.set next (.cells ((e :: l).map (.int .i64)) T false true false), nx, c⟩
    | none => .fail
    else .fail
   | _ => .fail
  | some (.cells [.nilmap] _ true _ _) => .ok ⟨.nilslice, H, next, c⟩
  | _ => .fail
  else .fail
 | _ => .fail
theorem Q3o {ss l : List Int} (hp : ss.Perm l) (hl : l.Pairwise (. < ·)) : ss.mergeSort (λ x y => decide (x <= y)) = l := by
 have tr : ∀ a b c : Int, decide (a <= b) = true -> decide (b <= c) = true -> decide (a <= c) = true := λ a b c h1 h2 => by simp only [decide_eq_true_eq] at *; omega
 have to : ∀ a b : Int, (decide (a <= b) || decide (b <= a)) = true := λ a b => by simp only [Bool.or_eq_true, decide_eq_true_eq]; omega
 refine List.Perm.eq_of_pairwise (le := λ a b => decide (a <= b) = true) (λ a b _ _ h1 h2 => by simp only [decide_eq_true_eq] at h1 h2; omega) (List.pairwise_mergeSort tr to ss) (hl.imp λ {a b} h => by simp only [decide_eq_true_eq]; omega) ((List.mergeSort_perm ss _).trans hp)
theorem Q5k {P : Program} {G : Env} {n0 : Nat} {f : FuncId} {T : TypeId} {gs : List Nat}
 (h1 : ∀ (g b Bm clock : Nat) (es : Array MapEntry) (ks : List Int) (w : World), g ∈ gs -> Bm < w.heap.size -> w.cell? ⟨Bm, 0, none⟩ = some (.map (some b)) -> w.heap[b]? = some (.map es clock) -> es.size <= 1000000 -> MapKept.Stamped es clock -> es.toList.map (·.key) = ks.map (Value.int .i64) -> (∀ z ∈ ks, -9223372036854775808 <= z /\ z <= 9223372036854775807) ->
  Calls P f #[.func (.func g) #[] #[.pointer (some ⟨Bm, 0, none⟩)]] w λ e w' => ∃ (v : Value) (ss : List Int), e = .returned v /\ ss.Perm ks /\ w'.ownsRow w.heap.size T 1 v ss.length ((ss.mergeSort (λ x y => decide (x <= y))).map (Value.int .i64)) /\ (v = .slice none 0 0 ↔ ss = []) /\ Below w.heap.size w w')
 (h2 : ∀ (g Bm : Nat) (w : World), g ∈ gs -> Bm < w.heap.size -> w.cell? ⟨Bm, 0, none⟩ = some (.map none) ->
  Calls P f #[.func (.func g) #[] #[.pointer (some ⟨Bm, 0, none⟩)]] w λ e w' => e = .returned (.slice none 0 0) /\ Below w.heap.size w w') : ZE P G n0 f (zn T gs) := by
 intro c X H next w args vs r hr hc hg hH h0 hfr hargs fr cs
 unfold zn at hr
 split at hr
 case h_2 => cases hr
 rename_i g cb
 cases hgs : gs.any (Nat.beq g) with
 | false => rw [hgs] at hr; cases hr
 | true =>
  rw [hgs] at hr
  simp only [cond_true] at hr
  have hmem : g ∈ gs := any_beq hgs
  obtain ⟨u, vs', e1, g1, g2⟩ := Q8.1 hargs
  have := rels_nil.1 g2
  subst this
  simp only [AV.rel] at g1
  obtain ⟨as', cs', rfl, g3, g4⟩ := g1
  have ha : as' = #[] := by rw [<- Array.toList_inj]; exact rels_nil.1 g3
  subst ha
  obtain ⟨u, us, e2, g5, g6⟩ := Q8.1 g4
  have := rels_nil.1 g6
  subst this
  simp only [AV.rel] at g5
  obtain ⟨p, hp, rfl⟩ := g5
  have hcs : cs' = #[.pointer (some ⟨p.blk, p.base + 0, none⟩)] := by rw [<- Array.toList_inj]; exact e2
  subst hcs
  have hvs : vs = #[.func (.func g) #[] #[.pointer (some ⟨p.blk, p.base + 0, none⟩)]] := by rw [<- Array.toList_inj]; exact e1
  subst hvs
  have hblk := hH.lt _ _ hp
  split at hr
  . rename_i q el pl ro ho
    have hbase : p.base = 0 := by
     obtain ⟨_, _, _, _, _, hx, _⟩ := hH.obj _ _ _ ho hp
     exact (hx rfl).1
    obtain ⟨mv, hmv, hrel⟩ := hH.cell ho hp (i := 0) (a := .map q) rfl
    rw [hbase] at hmv ⊢
    simp only [AV.rel] at hrel
    obtain ⟨pm, hpm, rfl⟩ := hrel
    split at hr
    . rename_i es clock hmap
      obtain ⟨es', hes, hent⟩ := hH.obj _ _ _ hmap hpm
      cases hb : (Nat.ble es.length 1000000 && Q5g clock 0 es) with
      | false => rw [hb] at hr; cases hr
      | true =>
       rw [hb] at hr
       simp only [Bool.and_eq_true, Nat.ble_eq] at hb
       simp only [cond_true] at hr
       split at hr
       . rename_i ks hks
         obtain ⟨l, hl, hr⟩ := D.bind_ok hr
         obtain ⟨s1, s2, s3⟩ := Q02 hc hl
         obtain ⟨k1, k2, k3⟩ := Q0o hc hks hent
         obtain ⟨t1, t2⟩ := jM hb.2 hent
         have hlen : es'.size <= 1000000 := by
          have : es'.toList.length = es.length := by
           have : ∀ {xs : List (AV × AV × Nat)} {ys : List MapEntry}, Q9 X xs ys -> ys.length = xs.length := by
            intro xs
            induction xs with
            | nil => intro ys h; have : ys = [] := h; subst this; rfl
            | cons x xs ih => intro ys h; obtain ⟨y, ys', rfl, _, _, _, h4⟩ := h; simp [ih h4]
           exact this hent
          have h3 : es'.size = es'.toList.length := by simp
          omega
         have hnd : (es'.toList.map (·.key)).Nodup := by
          rw [k1]
          have hn1 : (Q57 X.O l).Nodup := s1.imp λ {a b} h => by omega
          have hn2 : (Q57 X.O ks).Nodup := s2.nodup_iff.1 hn1
          exact List.Pairwise.map (Value.int .i64) (λ a b e h => e (by simpa using h)) hn2
         obtain ⟨u, w', ⟨v, ss, rfl, q1, q2, q3, q4⟩, st⟩ := Ze ((h1 g pm.blk p.blk clock es' _ w hmem hblk (by simpa using hmv) hes hlen ⟨λ x hx => (t1 x hx).2, t2, hnd⟩ k1 k3).mono (λ e w' ⟨v, ss, a1, a2, a3, a4, a5⟩ => (⟨v, a1, v, ss, rfl, a2, a3, a4, a5⟩ : ∃ u, e = .returned u /\ ∃ v ss, u = v /\ ss.Perm (Q57 X.O ks) /\ w'.ownsRow w.heap.size T 1 v ss.length ((ss.mergeSort (λ x y => decide (x <= y))).map (Value.int .i64)) /\ (v = .slice none 0 0 ↔ ss = []) /\ Below w.heap.size w w'))) fr cs
         have hsort : ss.mergeSort (λ x y => decide (x <= y)) = Q57 X.O l := Q3o (q1.trans s2.symm) s1
         have hsl : ss.length = l.length := by
          have := (q1.trans s2.symm).length_eq
          simpa using this
         rw [hsort] at q2
         split at hr
         . cases hr
           have hss : ss = [] := List.eq_nil_of_length_eq_zero (by simpa using hsl)
           have := q3.2 hss
           subst this
           exact ⟨X, _, w', st, Ext.le.refl X, by simp only [AV.rel], hH.grow q4, q4.mono h0, λ b hb _ => ⟨hb, rfl⟩, Nat.le_refl _, hfr, hc⟩
         . rename_i e l
           simp only [sNat_eq] at hr
           cases hr
           obtain ⟨-, ⟨rfl, hz⟩ | ⟨gb, cap, cur, rfl, b1, b2, b3, b4, b5, b6⟩⟩ := q2
           . rw [hz] at hsl; simp at hsl
           . have hgb : gb < w'.heap.size := (Array.getElem?_eq_some_iff.1 b2).1
             have un := hfr next (Nat.le_refl _)
             have hle : X.le (X.add next ⟨gb, 0, cur.size⟩) := Ext.Zf un
             have hn : ss.length <= cur.size := by omega
             refine ⟨X.add next ⟨gb, 0, cur.size⟩, _, w', st, hle, ?_, (hH.grow q4).place un hgb (by show n0 <= gb; omega) (λ i q hq he => ?_) ?_, q4.mono h0, λ b hb hlt => ⟨?_, ?_⟩, by simp only; omega, λ b hb => ?_, Ctx.Q0f hc hle⟩
             . simp only [AV.rel]
               refine ⟨_, 0, cap, Ext.add_same _ _ _, ?_, Nat.le_refl _, ?_, ?_, λ _ => rfl, λ h => (by cases h)⟩
               . rw [hsl]
               . rw [<- hsl]; exact b3
               . simp only; omega
             . have := hH.lt i q hq
               simp only at he
               omega
             . refine ⟨cur, (0, 0), ⟨T, b2, .inr rfl⟩, rfl, ?_, λ h => (by cases h), λ i a hi => ?_, .inr (.inr rfl), λ _ => rfl⟩
               . simp only [List.length_map, Nat.zero_add]; rw [<- hsl]; exact hn
               . rw [List.getElem?_map] at hi
                 cases hx : (e :: l)[i]? with
                 | none => rw [hx] at hi; cases hi
                 | some x =>
                  rw [hx] at hi
                  simp only [Option.map_some, Option.some.injEq] at hi
                  subst hi
                  refine ⟨.int .i64 (x.den X.O), ?_, ?_⟩
                  . have hb6 := congrArg (·[i]?) b6
                    simp only [Nat.mul_one, List.getElem?_map, hx, Option.map_some, Q57] at hb6
                    have hlt : i < ss.length := by rw [hsl]; exact (List.getElem?_eq_some_iff.1 hx).1
                    rw [List.getElem?_take, if_pos hlt, Array.getElem?_toList] at hb6
                    simpa using hb6
                  . simp only [AV.rel]
                    have hxk : x ∈ ks := s3 x (List.mem_of_getElem? hx)
                    have hok := k2 x hxk
                    exact ⟨E.Ql hle.dom hok, by rw [E.Qb hle.O hok]⟩
             . rw [Ext.Z5 (by omega)]; exact hb
             . exact Tr.Q0 _ _ (by omega)
             . have hb' : next + 1 <= b := hb
               rw [Ext.Z5 (by omega)]; exact hfr b (by omega)
       . cases hr
    . cases hr
  . rename_i el pl ro ho
    cases hr
    have hbase : p.base = 0 := by
     obtain ⟨_, _, _, _, _, hx, _⟩ := hH.obj _ _ _ ho hp
     exact (hx rfl).1
    obtain ⟨mv, hmv, hrel⟩ := hH.cell ho hp (i := 0) (a := .nilmap) rfl
    rw [hbase] at hmv ⊢
    simp only [AV.rel] at hrel
    subst hrel
    obtain ⟨u, w', ⟨rfl, q4⟩, st⟩ := Ze ((h2 g p.blk w hmem hblk (by simpa using hmv)).mono (λ e w' ⟨a1, a2⟩ => (⟨_, a1, rfl, a2⟩ : ∃ u, e = .returned u /\ u = Value.slice none 0 0 /\ Below w.heap.size w w'))) fr cs
    exact ⟨X, _, w', st, Ext.le.refl X, by simp only [AV.rel], hH.grow q4, q4.mono h0, λ b hb _ => ⟨hb, rfl⟩, Nat.le_refl _, hfr, hc⟩
  . cases hr
end Go.Ax
namespace Go.Ax
open Go.RowKit
theorem Q2x : ∀ (n t : Nat) (acc : Array Value), (∀ v ∈ acc.toList, Qiw v = true) -> ∀ v ∈ (Extern.BytealgMakeNoZero.digits n t acc).toList, Qiw v = true
 | 0, _, _, h => h
 | n + 1, t, acc, h => by
  rw [Extern.BytealgMakeNoZero.digits]
  refine Q2x n _ _ λ v hv => ?_
  simp only [Array.toList_push, List.mem_append, List.mem_singleton] at hv
  rcases hv with hv | rfl
  . exact h v hv
  . rfl
theorem Qj9 {P : Program} (w : World) (ps : Array TypeId) (t e : TypeId) (ht : P.underlying t = some (.slice e)) (n : Nat) (hn : n <= 281474976710656) :
 ∃ cs : Array Value, (Extern.BytealgMakeNoZero.makeNoZero ps #[t] #[.int .i64 n]).run P w = .ok (.slice (some ⟨w.heap.size, 0, none⟩) n cs.size) (grown w (.cells cs e) (w.drawn + 2)) /\ n <= cs.size /\ ∀ v ∈ cs.toList, Qiw v = true := by
 have hdef : Extern.BytealgMakeNoZero.makeNoZero ps #[t] #[.int .i64 n] =
  (do
   let .slice elem <- underlying t | stuck "bytealg.MakeNoZero: slice type expected"
   if (n : Int) < 0 || (n : Int) > 2 ^ 48 then runtimePanic (.error "makeslice: len out of range")
   let cap <- choose (.appendCap (n : Int).toNat 0 elem)
   askRoom cap
   let bytes <- choose (.extern "internal/bytealg.MakeNoZero.bytes" 0)
   let a <- newRow elem (Extern.BytealgMakeNoZero.digits cap bytes #[])
   pure (.slice (some a) (n : Int).toNat cap)) := rfl
 refine ⟨Extern.BytealgMakeNoZero.digits (grownCap w n 0 e) ((Question.extern "internal/bytealg.MakeNoZero.bytes" 0).cut (w.tape (w.drawn + 1) (.extern "internal/bytealg.MakeNoZero.bytes" 0))) #[], ?_, ?_, Q2x _ _ _ (by simp)⟩
 . rw [hdef]
   have h1 : ¬ (n : Int) < 0 := by omega
   have h2 : ¬ (281474976710656 : Int) < (n : Int) := by omega
   simp [run_underlying ht, h1, h2, Question.forced, newRow, Lib.size_digits, grownCap]
   rfl
 . rw [Lib.size_digits]
   simpa using grownCap_ge w n 0 e
noncomputable def Qdy (u8 : TypeId) : Sum := λ c H next as =>
 match as with
 | [.int .i64 (.lit (.ofNat m))] => bif Nat.ble 1 m && Nat.ble m 1099511627776 then
  QC (next + 1) λ n => .ok ⟨.slice next 0 m m 1 false, H.set next (.cells (List.replicate m .any) u8 false true false), n, c⟩ else .fail
 | _ => .fail
theorem Qdx {P : Program} {G : Env} {n0 : Nat} {f : FuncId} {u8 t : TypeId} {ps : Array TypeId} (ht : P.underlying t = some (.slice u8))
 (h : ∀ (args : Array Value) (w : World), (callFunc f args).run P w = ((Extern.BytealgMakeNoZero.makeNoZero ps #[t] args).run P w).andThen λ v w' => .ok (.value v) w') : Qfv P G n0 f (Qdy u8) := by
 intro c X H next w args vs r hr hc hg hH h0 hfr hargs
 unfold Qdy at hr
 split at hr
 . rename_i m
   cases hb : (Nat.ble 1 m && Nat.ble m 1099511627776) with
   | false => rw [hb] at hr; cases hr
   | true =>
    rw [hb] at hr
    simp only [Bool.and_eq_true, Nat.ble_eq] at hb
    simp only [cond_true, sNat_eq] at hr
    cases hr
    obtain ⟨u, vs', e1, g1, g2⟩ := Q8.1 hargs
    have := rels_nil.1 g2
    subst this
    simp only [AV.rel] at g1
    obtain ⟨-, rfl⟩ := g1
    have hvs : vs = #[.int .i64 (m : Int)] := by rw [<- Array.toList_inj]; exact e1
    subst hvs
    obtain ⟨cs, hrun, hle, hall⟩ := Qj9 (P := P) w ps t u8 ht m (by omega)
    have hbn : X.V next = none := hfr next (Nat.le_refl _)
    have hX : X.le (X.add next ⟨w.heap.size, 0, cs.size⟩) := Ext.Zf hbn
    refine ⟨X.add next ⟨w.heap.size, 0, cs.size⟩, _, _, by rw [h, hrun]; rfl, hX, ?_, ?_, below_grown h0 _ _, λ b hb' hlt => ⟨by rw [Ext.Z5 (by omega)]; exact hb', Tr.Q0 _ _ (by omega)⟩, Nat.le_succ _, λ b hb' => by rw [Ext.Z5 (by simp only at hb'; omega)]; exact hfr b (by simp only at hb'; omega), ?_⟩
    . simp only [AV.rel]
      exact ⟨_, 0, cs.size, Ext.add_same _ _ _, rfl, Nat.le_refl _, hle, by simp, λ _ => by simp, λ hf => by cases hf⟩
    . refine (hH.alloc h0 _ hbn (.cells cs u8) cs.size ?_).of_heap rfl
      refine ⟨cs, (0, 0), ⟨_, rfl, .inr rfl⟩, rfl, by simpa using hle, (λ hf => by cases hf), λ i a hi => ?_, .inr (.inr rfl), λ _ => rfl⟩
      rw [List.getElem?_replicate] at hi
      split at hi
      . rename_i hlt
        cases hi
        have hlt' : i < cs.size := by omega
        refine ⟨cs[i], by simp [hlt'], ?_⟩
        simp only [AV.rel]
        exact hall _ (by simp)
      . cases hi
    . exact Ctx.Q0f hc hX
 . cases hr
def Q63 : List E -> Option (List Nat)
 | [] => some []
 | .lit (.ofNat n) :: l => match Q63 l with | some m => some (n :: m) | none => none
 | _ :: _ => none
theorem JB : ∀ {l : List E} {m : List Nat} {O : Val}, Q63 l = some m -> S.bytes O l = m.map UInt8.ofNat
 | [], m, O, h => by cases h; rfl
 | e :: l, m, O, h => by
  unfold Q63 at h
  split at h
  . rename_i h1; cases h1
  . rename_i n l' h1
    cases h1
    split at h
    . rename_i m' hm
      cases h
      have := JB (O := O) hm
      show UInt8.ofNat ((E.lit (.ofNat n)).den O).toNat :: S.bytes O l = _
      rw [this]
      rfl
    . cases h
  . cases h
def Qfx (b : Nat) : List Nat -> Nat -> Option Nat
 | [], _ => none
 | n :: l, i => bif Nat.beq (n % 256) b then some i else Qfx b l (i + 1)
noncomputable def Qeg : Sum := λ c H next as =>
 match as with
 | [.str s, .int .u8 (.lit (.ofNat b))] => match Q63 s with
  | some l => bif Nat.ble b 255 then (match Qfx b l 0 with
   | some i => QC i λ i => .ok ⟨.int .i64 (.lit (.ofNat i)), H, next, c⟩
   | none => .ok ⟨.int .i64 (.lit (.negSucc 0)), H, next, c⟩) else .fail
  | none => .fail
 | _ => .fail
theorem Q6d {b : Nat} : ∀ {l : List Nat} {i : Nat}, Qfx b l i = none -> ∀ n ∈ l, n % 256 ≠ b
 | [], _, _, n, hn => by cases hn
 | m :: l, i, h, n, hn => by
  unfold Qfx at h
  cases hb : Nat.beq (m % 256) b with
  | true => rw [hb] at h; cases h
  | false =>
   rw [hb] at h
   rcases List.mem_cons.1 hn with rfl | hn
   . intro e; rw [e] at hb; simp at hb
   . exact Q6d h n hn
theorem Q6c {b : Nat} : ∀ {l : List Nat} {i j : Nat}, Qfx b l i = some j -> i <= j /\ (∃ n, l[j - i]? = some n /\ n % 256 = b) /\ ∀ k < j - i, ∀ n, l[k]? = some n -> n % 256 ≠ b
 | [], _, _, h => by cases h
 | m :: l, i, j, h => by
  unfold Qfx at h
  cases hb : Nat.beq (m % 256) b with
  | true =>
   rw [hb] at h
   cases h
   refine ⟨Nat.le_refl _, ⟨m, by simp, by simpa using hb⟩, λ k hk => by omega⟩
  | false =>
   rw [hb] at h
   simp only [cond_false] at h
   obtain ⟨h1, ⟨n, h2, h3⟩, h4⟩ := Q6c h
   refine ⟨by omega, ⟨n, by rw [show j - i = (j - (i + 1)) + 1 by omega, List.getElem?_cons_succ]; exact h2, h3⟩, λ k hk n hn => ?_⟩
   cases k with
   | zero => simp at hn; subst hn; intro e; rw [e] at hb; simp at hb
   | succ k => simp at hn; exact h4 k (by omega) n hn
theorem Q46 (l : List Nat) (b : Nat) (hb : b <= 255) : firstIdx ⟨(l.map UInt8.ofNat).toArray⟩ (UInt8.ofNat b) = match Qfx b l 0 with | some i => (i : Int) | none => -1 := by
 have hsz : ({ data := (l.map UInt8.ofNat).toArray } : ByteArray).size = l.length := by
  show (l.map UInt8.ofNat).toArray.size = _; simp
 have hget : ∀ (i n : Nat), l[i]? = some n -> (({ data := (l.map UInt8.ofNat).toArray } : ByteArray)[i]! == UInt8.ofNat b) = (n % 256 == b) := by
  intro i n hn
  have hi : i < l.length := (List.getElem?_eq_some_iff.1 hn).1
  have e : l[i] = n := (List.getElem?_eq_some_iff.1 hn).2
  have e1 : ({ data := (l.map UInt8.ofNat).toArray } : ByteArray)[i]! = UInt8.ofNat n := by
   rw [getElem!_pos _ i (by rw [hsz]; exact hi)]
   show (l.map UInt8.ofNat).toArray[i]'(by simpa using hi) = _
   simp [e]
  rw [e1, Bool.eq_iff_iff]
  simp only [beq_iff_eq]
  constructor
  . intro h
    have := congrArg UInt8.toNat h
    simp at this
    omega
  . intro h
    apply UInt8.toNat_inj.1
    simp
    omega
 unfold firstIdx
 rw [hsz]
 cases hx : Qfx b l 0 with
 | none =>
  have hn : (List.range l.length).find? (λ i => ({ data := (l.map UInt8.ofNat).toArray } : ByteArray)[i]! == UInt8.ofNat b) = none := by
   rw [List.find?_eq_none]
   intro i hi
   have hi' : i < l.length := List.mem_range.1 hi
   rw [hget i l[i] (List.getElem?_eq_getElem hi')]
   have := Q6d hx l[i] (List.getElem_mem hi')
   simpa using this
  rw [hn]
 | some j =>
  obtain ⟨-, ⟨n, h2, h3⟩, h4⟩ := Q6c hx
  simp only [Nat.sub_zero] at h2 h4
  have hj : j < l.length := (List.getElem?_eq_some_iff.1 h2).1
  have hn : (List.range l.length).find? (λ i => ({ data := (l.map UInt8.ofNat).toArray } : ByteArray)[i]! == UInt8.ofNat b) = some j := by
   rw [List.find?_range_eq_some]
   refine ⟨by rw [hget j n h2]; simpa using h3, by simpa using hj, λ k hk => ?_⟩
   have hk' : k < l.length := by omega
   rw [hget k l[k] (List.getElem?_eq_getElem hk')]
   have := h4 k hk l[k] (List.getElem?_eq_getElem hk')
   simpa using this
  rw [hn]
theorem Qef {P : Program} {G : Env} {n0 : Nat} {f : FuncId}
 (h : ∀ (args : Array Value) (w : World), (callFunc f args).run P w = ((Extern.BytealgIndexByte.indexByte args).run P w).andThen λ v w' => .ok (.value v) w') : Qfv P G n0 f Qeg := by
 intro c X H next w args vs r hr hc hg hH h0 hfr hargs
 unfold Qeg at hr
 split at hr
 . rename_i s b
   split at hr
   . rename_i l hl
     cases hb : Nat.ble b 255 with
     | false => rw [hb] at hr; cases hr
     | true =>
      rw [hb] at hr
      simp only [cond_true] at hr
      obtain ⟨u, vs', e1, g1, g2⟩ := Q8.1 hargs
      obtain ⟨v, vs'', rfl, g3, g4⟩ := Q8.1 g2
      have := rels_nil.1 g4
      subst this
      simp only [AV.rel] at g1 g3
      obtain ⟨-, rfl⟩ := g1
      obtain ⟨-, rfl⟩ := g3
      have hvs : vs = #[.string ⟨(S.bytes X.O s).toArray⟩, .int .u8 (b : Int)] := by rw [<- Array.toList_inj]; exact e1
      subst hvs
      have hrun : (callFunc f #[.string ⟨(S.bytes X.O s).toArray⟩, .int .u8 (b : Int)]).run P w = .ok (.value (.int .i64 (match Qfx b l 0 with | some i => (i : Int) | none => -1))) w := by
       rw [h, run_indexByte_string, JB hl]
       have e : ((b : Int).toNat.toUInt8) = UInt8.ofNat b := by simp
       rw [e, Q46 l b (by simpa using hb)]
       rfl
      cases hx : Qfx b l 0 with
      | some i =>
       rw [hx] at hr hrun
       simp only [sNat_eq] at hr
       cases hr
       exact ⟨X, _, w, hrun, Ext.le.refl X, by simp only [AV.rel]; exact ⟨trivial, rfl⟩, hH, Below.refl _ _, λ b hb _ => ⟨hb, rfl⟩, Nat.le_refl _, hfr, hc⟩
      | none =>
       rw [hx] at hr hrun
       cases hr
       exact ⟨X, _, w, hrun, Ext.le.refl X, by simp only [AV.rel]; exact ⟨trivial, rfl⟩, hH, Below.refl _ _, λ b hb _ => ⟨hb, rfl⟩, Nat.le_refl _, hfr, hc⟩
   . cases hr
 . cases hr
end Go.Ax
namespace Go.Ax
open Go.RowKit
theorem Q85 {P : Program} {w : World} {t : TypeId} {ms : Array (String × TypeId)} (ht : P.underlying t = some (.interface ms)) : (binOp .neq t .nilIface .nilIface).run P w = .ok (.bool false) w := by
 have hu := run_underlying (P := P) ht w
 have h : (Op.equalIn (9999 + 1) t .nilIface .nilIface).run P w = .ok true w := by
  unfold Op.equalIn
  simp [hu]
 unfold binOp
 simp only [Op.equal, Op.maxDepth, Sem.run_bind]
 rw [show (10000 : Nat) = 9999 + 1 from rfl, h]
 rfl
abbrev dfr (f : FuncId) (td : List Item) (tm : Array Value) (md : FrameMode) : Frame := { fn := f, tmps := tm, todo := td, defers := [], mode := md, kind := .deferred }
theorem Qmw {f : FuncId} {ops : Array Oper} {i d : Nat} {l : List Nat} {k : List Item} {tm : Array Value} {v : Value} {o : Oper} (ho : ops[i]? = some o) (hd : o.dst = some d) :
 (dfr f (.inRegion ops (i :: l) :: k) tm .run).finish v = dfr f (.inRegion ops l :: k) (tm.setIfInBounds d v) .run := by simp [Frame.finish, ho, hd]
theorem yX {o : Oper} {y : Nat -> Option Bool} (h : o.guard = none) : Region.wanted o y = true := by
 unfold Region.wanted; rw [h]
section
variable {P : Program} {f : FuncId} {c : Frame} {cs : List Frame} {w : World}
theorem Q2w {ops : Array Oper} {i d : Nat} {l : List Nat} {k : List Item} {tm : Array Value} {o : Oper} (hc : c.mode = .returning) (ho : ops[i]? = some o) (hg : o.guard = none) (hd : o.dst = some d)
 (hp : o.op = .call { callee := .builtin .recover, args := #[], argTypes := #[] })
 (h' : Steps P (lone (dfr f (.inRegion ops l :: k) (tm.setIfInBounds d .nilIface) .run) (c :: cs) w) (lone c cs w)) : Steps P (lone (dfr f (.inRegion ops (i :: l) :: k) tm .run) (c :: cs) w) (lone c cs w) := by
 have h := Qbc (P := P) (fr := dfr f (.inRegion ops (i :: l) :: k) tm .run) (cs := cs) (w := w) (w' := w) (o := o) rfl rfl ho (yX hg) rfl hc rfl (by unfold execOp; rw [hp]; simp [resolve, invoke, builtin])
 rw [Qmw ho hd] at h
 exact .head h h'
theorem Qak {ops : Array Oper} {i d : Nat} {l : List Nat} {k : List Item} {tm : Array Value} {o : Oper} {v : Value} (ho : ops[i]? = some o) (hg : o.guard = none) (hd : o.dst = some d)
 (hn : ∀ c, o.op ≠ .defer c) (hr : (execOp (evC tm) o).run P w = .ok (.value v) w)
 (h' : Steps P (lone (dfr f (.inRegion ops l :: k) (tm.setIfInBounds d v) .run) (c :: cs) w) (lone c cs w)) : Steps P (lone (dfr f (.inRegion ops (i :: l) :: k) tm .run) (c :: cs) w) (lone c cs w) := by
 have h := zk (P := P) (fr := dfr f (.inRegion ops (i :: l) :: k) tm .run) (cs := c :: cs) (w := w) (w' := w) (o := o) (v := v) rfl rfl ho (yX hg) hn hr
 rw [Qmw ho hd] at h
 exact .head h h'
theorem Qeu {a b : Code} {k : List Item} {tm : Array Value} (h' : Steps P (lone (dfr f (.code a :: .code b :: k) tm .run) (c :: cs) w) (lone c cs w)) : Steps P (lone (dfr f (.code (.seq a b) :: k) tm .run) (c :: cs) w) (lone c cs w) :=
 .head (Qif rfl rfl) h'
theorem Q15 {id : Nat} {a b : Oper} {k : List Item} {tm : Array Value} (h' : Steps P (lone (dfr f (.inRegion #[a, b] [0, 1] :: k) tm .run) (c :: cs) w) (lone c cs w)) : Steps P (lone (dfr f (.code (.region id #[a, b] false) :: k) tm .run) (c :: cs) w) (lone c cs w) :=
 .head (Q5h rfl rfl) h'
theorem Qev {ops : Array Oper} {k : List Item} {tm : Array Value} (h' : Steps P (lone (dfr f k tm .run) (c :: cs) w) (lone c cs w)) : Steps P (lone (dfr f (.inRegion ops [] :: k) tm .run) (c :: cs) w) (lone c cs w) :=
 .head (Yr rfl rfl) h'
theorem Qal {d : Nat} {a : Code} {tm : Array Value} {fn : Func} (hc : c.mode = .returning) (hf : P.funcs[f]? = some fn) (hr : fn.results = #[]) (hd : evC tm (.tmp d) = .bool false) :
 Steps P (lone (dfr f [.code (.cond (.tmp d) a .skip)] tm .run) (c :: cs) w) (lone c cs w) := by
 refine .head (Q7z (t := false) rfl rfl hd) (.head (Qd0 rfl rfl) (.head (Qih rfl rfl rfl) (.one (Qbb (v := .tuple #[]) (w' := w) rfl rfl rfl hc hf ?_))))
 unfold results
 rw [hr]
 simp
theorem Qah {tm : Array Value} {o : Oper} {t : TypeId} {x : Nat} {ms : Array (String × TypeId)} (ht : P.underlying t = some (.interface ms)) (hp : o.op = .binOp .neq t (.tmp x) (.const .nilIface) t) (hx : evC tm (.tmp x) = .nilIface) : (execOp (evC tm) o).run P w = .ok (.value (.bool false)) w := by
 have hx' : tm.getD x undef = .nilIface := hx
 unfold execOp; rw [hp]
 simp only [evC, hx', Sem.run_bind, Jy (P := P) (w := w) (op := .neq) (t := t) (xo := .tmp x) (yo := .const .nilIface) rfl, Result.andThen_ok, Q85 ht, Sem.run_pure]
theorem noopA {fn : Func} {i0 i1 : Nat} {o0 o1 o2 o3 : Oper} {c1 : Code} {t : TypeId} {ms : Array (String × TypeId)} (ht : P.underlying t = some (.interface ms)) (hf : P.funcs[f]? = some fn) (hcall : ∀ args w, (callFunc f args).run P w = .ok (.enter f args) w)
 (hb : fn.body = some (.seq (.region i0 #[o0, o1] false) (.seq (.region i1 #[o2, o3] false) (.cond (.tmp 5) c1 .skip)))) (hr : fn.results = #[]) (hn : 6 <= fn.ntmps)
 (p0 : o0.op = .call { callee := .builtin .recover, args := #[], argTypes := #[] }) (d0 : o0.dst = some 3) (g0 : o0.guard = none)
 (p1 : o1.op = .assign (.tmp 3)) (d1 : o1.dst = some 2) (g1 : o1.guard = none)
 (p2 : o2.op = .move (.tmp 2)) (d2 : o2.dst = some 4) (g2 : o2.guard = none)
 (p3 : o3.op = .binOp .neq t (.tmp 4) (.const .nilIface) t) (d3 : o3.dst = some 5) (g3 : o3.guard = none) : Q3f P f := by
 refine ⟨hcall, λ c cs w args hc => ?_⟩
 have he : Frame.enter P f args .deferred = dfr f [.code (.seq (.region i0 #[o0, o1] false) (.seq (.region i1 #[o2, o3] false) (.cond (.tmp 5) c1 .skip)))] (args ++ Array.replicate (fn.ntmps - args.size) undef) .run := by
  simp [Frame.enter, hf, hb]
 rw [he]
 generalize hT : args ++ Array.replicate (fn.ntmps - args.size) undef = T
 have hs : 6 <= T.size := by rw [<- hT]; simp; omega
 clear hT he
 refine Qeu (Q15 (Q2w hc rfl g0 d0 p0 (Qak (o := o1) (v := .nilIface) rfl g1 d1 (λ cc e => by rw [p1] at e; cases e) ?_ (Qev (Qeu (Q15 (Qak (o := o2) (v := .nilIface) rfl g2 d2 (λ cc e => by rw [p2] at e; cases e) ?_ (Qak (o := o3) (v := .bool false) rfl g3 d3 (λ cc e => by rw [p3] at e; cases e) (Qah ht p3 ?_) (Qev (Qal hc hf hr ?_))))))))))
 . unfold execOp; rw [p1]; simp [evC, show 3 < T.size by omega]
 . unfold execOp; rw [p2]; simp [evC, show 2 < T.size by omega]
 . simp [evC, show 4 < T.size by omega]
 . simp [evC, show 5 < T.size by omega]
theorem noopB {fn : Func} {i0 : Nat} {o0 o1 : Oper} {c1 : Code} {t : TypeId} {ms : Array (String × TypeId)} (ht : P.underlying t = some (.interface ms)) (hf : P.funcs[f]? = some fn) (hcall : ∀ args w, (callFunc f args).run P w = .ok (.enter f args) w)
 (hb : fn.body = some (.seq (.region i0 #[o0, o1] false) (.cond (.tmp 3) c1 .skip))) (hr : fn.results = #[]) (hn : 5 <= fn.ntmps)
 (p0 : o0.op = .call { callee := .builtin .recover, args := #[], argTypes := #[] }) (d0 : o0.dst = some 2) (g0 : o0.guard = none)
 (p3 : o1.op = .binOp .neq t (.tmp 2) (.const .nilIface) t) (d3 : o1.dst = some 3) (g3 : o1.guard = none) : Q3f P f := by
 refine ⟨hcall, λ c cs w args hc => ?_⟩
 have he : Frame.enter P f args .deferred = dfr f [.code (.seq (.region i0 #[o0, o1] false) (.cond (.tmp 3) c1 .skip))] (args ++ Array.replicate (fn.ntmps - args.size) undef) .run := by
  simp [Frame.enter, hf, hb]
 rw [he]
 generalize hT : args ++ Array.replicate (fn.ntmps - args.size) undef = T
 have hs : 5 <= T.size := by rw [<- hT]; simp; omega
 clear hT he
 refine Qeu (Q15 (Q2w hc rfl g0 d0 p0 (Qak (o := o1) (v := .bool false) rfl g3 d3 (λ cc e => by rw [p3] at e; cases e) (Qah ht p3 ?_) (Qev (Qal hc hf hr ?_)))))
 . simp [evC, show 2 < T.size by omega]
 . simp [evC, show 3 < T.size by omega]
end
end Go.Ax
namespace Go.Ax
open Go.RowKit
noncomputable def yS (ts : List (Nat × Nat)) : Sum := λ c H next args =>
 match args with
 | [.ptr b 0] => match H.get b with
  | some (.cells (.nilptr :: ys) el true pl false) => bif ts.any (λ q => Nat.beq q.1 el && Nat.beq q.2 (ys.length + 1)) then .ok ⟨.tuple [], H.set b (.cells (.ptr b 0 :: ys) el true pl false), next, c⟩ else .fail
  | some (.cells (.ptr b' 0 :: _) _ true _ _) => bif Nat.beq b' b then .ok ⟨.tuple [], H, next, c⟩ else .fail
  | _ => .fail
 | _ => .fail
theorem Q91 {P : Program} {G : Env} {n0 : Nat} {f : FuncId} {ts : List (Nat × Nat)}
 (hfresh : ∀ q ∈ ts, ∀ (b : Nat) (w : World), w.cell? ⟨b, 0, none⟩ = some (.pointer none) -> w.shape? b = some (q.1, q.2) -> w.frozen? ⟨b, 0, none⟩ = false ->
  Calls P f #[.pointer (some ⟨b, 0, none⟩)] w λ e w' => e = .returned (.tuple #[]) /\ w' = w.setCell ⟨b, 0, none⟩ (.pointer (some ⟨b, 0, none⟩)))
 (hused : ∀ (b : Nat) (w : World), w.cell? ⟨b, 0, none⟩ = some (.pointer (some ⟨b, 0, none⟩)) -> Calls P f #[.pointer (some ⟨b, 0, none⟩)] w λ e w' => e = .returned (.tuple #[]) /\ w' = w) :
 ZE P G n0 f (yS ts) := by
 intro c X H next w args vs r h hc hg hH h0 hfr hargs fr cs
 unfold yS at h
 split at h
 . rename_i b
   obtain ⟨v, vs', hvs, hv, hnil⟩ := hargs
   simp only [AV.rel] at hv
   obtain ⟨p, hp, rfl⟩ := hv
   have hnil' : vs' = [] := hnil
   subst hnil'
   have hva : vs = #[.pointer (some ⟨p.blk, p.base + 0, none⟩)] := by rw [<- Array.toList_inj]; exact hvs
   subst hva
   split at h
   . rename_i ys el pl hb
     cases ht : ts.any (λ q => Nat.beq q.1 el && Nat.beq q.2 (ys.length + 1)) with
     | false => rw [ht] at h; cases h
     | true =>
      rw [ht] at h
      cases h
      obtain ⟨q, hq, hqe⟩ := List.any_eq_true.1 ht
      simp only [Bool.and_eq_true, Nat.beq_eq] at hqe
      obtain ⟨cc, frz, ⟨el', h1, mel⟩, h2, h3, h4, h5, h6⟩ := hH.obj _ _ p hb hp
      have mel' := mel.resolve_left (by simp)
      rw [mel'] at h1
      obtain ⟨hb0, hn2⟩ := h4 rfl
      obtain ⟨v, hcell, hvr⟩ := hH.cell (i := 0) hb hp rfl
      simp only [AV.rel] at hvr
      subst hvr
      rw [hb0] at hcell ⊢
      have hsh : w.shape? p.blk = some (q.1, q.2) := by
       simp only [World.shape?, h1, h2, hn2, hqe.1, hqe.2]
       rfl
      have hfz := hH.notFrozen (i := 0) hb hp (by rw [hb0, hn2]; simp)
      rw [hb0] at hfz
      have hst := hH.store (i := 0) (a := .ptr b 0) (v := .pointer (some ⟨p.blk, 0, none⟩)) hb hp (by simp) (by simp only [AV.rel]; exact ⟨p, hp, by rw [hb0]⟩)
      rw [hb0] at hst
      refine ⟨X, .tuple #[], _, JI (hfresh q hq p.blk w hcell hsh hfz) fr cs, Ext.le.refl X, Qu X, hst, ?_, λ d hd _ => ⟨hd, Tr.Q0 _ _ (QW hp hd)⟩, Nat.le_refl _, hfr, hc⟩
      have hown := hH.own b _ p hb rfl hp
      exact ⟨rfl, rfl, rfl, by simp [World.setCell], λ k hk => Below.heap_setCell _ _ _ _ (by simp only; omega)⟩
   . rename_i b' _ el pl ro hb
     cases ht : Nat.beq b' b with
     | false => rw [ht] at h; cases h
     | true =>
      rw [ht] at h
      cases h
      have hbb : b' = b := by simpa using ht
      subst hbb
      obtain ⟨cc, frz, ⟨el', h1, mel⟩, h2, h3, h4, h5, h6⟩ := hH.obj _ _ p hb hp
      obtain ⟨hb0, hn2⟩ := h4 rfl
      obtain ⟨v, hcell, hvr⟩ := hH.cell (i := 0) hb hp rfl
      simp only [AV.rel] at hvr
      obtain ⟨p', hp', rfl⟩ := hvr
      rw [hp] at hp'
      cases hp'
      rw [hb0] at hcell ⊢
      exact ⟨X, .tuple #[], w, JI (hused p.blk w hcell) fr cs, Ext.le.refl X, Qu X, hH, Below.refl _ _, λ d hd _ => ⟨hd, rfl⟩, Nat.le_refl _, hfr, hc⟩
   . cases h
 . cases h
end Go.Ax
namespace Go.Ax
open Go.RowKit
theorem run_next_at {P : Program} (w : World) (ty : TypeId) (r bm since c0 : Nat) (seen : Array Nat) (es : Array MapEntry) (clock : Nat) (hr : w.heap[r]? = some (.mapIter (some bm) since seen c0)) (hb : w.heap[bm]? = some (.map es clock)) (hold : ∀ x ∈ es.toList, x.born < since) (hsc : since <= c0) :
 ((leftOf es seen).size = 0 /\ (Instr.next (.pointer (some ⟨r, 0, none⟩)) false ty).run P w = .ok (.tuple #[.bool false]) w) \/
 ∃ e ∈ (leftOf es seen).toList, ∃ d, (Instr.next (.pointer (some ⟨r, 0, none⟩)) false ty).run P w = .ok (.tuple #[.bool true, e.key, e.val]) { w with heap := w.heap.setIfInBounds r (.mapIter (some bm) since (seen.push e.born) clock), drawn := d } := by
 have g1 := Qk (P := P) hr (by simp)
 have g2 := Qk (P := P) hb (by simp)
 simp only [Instr.next, Sem.run_bind, g1, g2, Result.andThen_ok, next_test_false seen es since c0 hold hsc, Bool.false_eq_true, if_false]
 have hmem : ∀ x ∈ (leftOf es seen).toList, x.born < since := λ x hx => hold x (mem_left hx).1
 unfold leftOf at hmem ⊢
 generalize Array.filter (λ e => !seen.contains e.born) es = L at hmem ⊢
 have e1 : L.filter (λ x => decide (x.born < since)) = L := Array.filter_eq_self.2 (λ x hx => by simpa using hmem x (by simpa using hx))
 have e2 : L.filter (λ x => decide (x.born >= since)) = #[] := by
  rw [Array.filter_eq_empty_iff]
  intro x hx
  have := hmem x (by simpa using hx)
  simp
  omega
 simp only [e1, e2, Array.append_empty]
 by_cases h0 : L.size = 0
 . left
   have : L = #[] := Array.eq_empty_of_size_eq_zero h0
   subst this
   refine ⟨rfl, ?_⟩
   simp [choose, Sem.run, Question.forced]
 . right
   have hne : L.isEmpty = false := by simp [Array.isEmpty, h0]
   simp only [hne, Bool.false_eq_true, if_false, Array.empty_append, Array.size_map]
   have hch : ∃ (j : Nat) (d : Nat), j < L.size /\ (choose (Question.mapNext L.size)).run P w = .ok j { w with drawn := d } := by
    by_cases hf : L.size <= 1
    . exact ⟨0, w.drawn, by omega, by simp [choose, Sem.run, Question.forced, hf]⟩
    . exact ⟨_, w.drawn + 1, Nat.mod_lt _ (by omega), by
       simp only [choose, Sem.run, Question.forced, decide_eq_true_eq, hf, if_false, Question.cut]; rfl⟩
   obtain ⟨j, d, hj, hrun⟩ := hch
   refine ⟨L[j], by simp, d, ?_⟩
   have g3 := QY (P := P) (w := { w with drawn := d }) (o' := .mapIter (some bm) since (seen.push L[j].born) clock) hr (by simp)
   simp only [hrun, Array.getElem?_map, Array.getElem?_eq_getElem hj, Option.map_some, Sem.run_bind, Result.andThen_ok, g3]
   rfl
theorem run_entry_at {P : Program} (w : World) (r bm since : Nat) (seen : Array Nat) (es : Array MapEntry) (clock c0 : Nat) (e : MapEntry) (hr : w.heap[r]? = some (.mapIter (some bm) since (seen.push e.born) c0)) (hb : w.heap[bm]? = some (.map es clock)) (he : e ∈ es.toList) (hn : (es.toList.map (·.born)).Nodup) (hc : c0 = clock) :
 (Instr.entry (.pointer (some ⟨r, 0, none⟩))).run P w = .ok (.tuple #[e.key, e.val]) w := by
 subst hc
 have g1 := Qk (P := P) hr (by simp)
 have g2 := Qk (P := P) hb (by simp)
 have hf : es.find? (·.born == e.born) = some e := by rw [<- Array.find?_toList]; exact find_born e es.toList hn he
 simp only [Instr.entry, Sem.run_bind, g1, g2, Result.andThen_ok, Array.back?_push, bne_self_eq_false, Bool.false_eq_true, if_false, hf]
 rfl
end Go.Ax
namespace Go.Ax
open Go.RowKit
theorem Q4q {k : IntKind} {a b r : E} {O : Val} (h : E.arith .sub k a b = some r) : r.den O = k.wrap (a.den O - b.den O) := by
 unfold E.arith at h
 split at h <;> simp only [Option.some.injEq, reduceCtorEq, E.litS_eq, wrapK_eq] at h <;> subst h <;> first
  | rfl
  | (rw [E.Q3k]; rfl)
  | exact absurd ‹BinOp.sub = BinOp.add› (by decide)
  | exact absurd ‹BinOp.sub = BinOp.mul› (by decide)
noncomputable def Qhc (x : AV × AV × Nat) : Bool :=
 match x.1, x.2.1 with
 | .agg [.int .i64 _, .int .i64 _, .int .i64 _, .int .i64 _, .int .i64 _], .agg [.int .i64 _, .int .i64 _] => true
 | _, _ => false
noncomputable def Qh7 (x : AV × AV × Nat) : E :=
 match x.2.1 with
 | .agg [.int .i64 l, _] => l
 | _ => .lit 0
noncomputable def Qac (c : Ctx) (now l : E) : D Bool :=
 match E.cmp c .gtr now l with
 | some false => .ok true
 | _ => match E.conv .u64 now, E.conv .u64 l with
  | some a, some b => match E.arith .sub .u64 a b with
   | some d => match E.cmp c .gtr d (.lit (.ofNat 400)) with
    | some false => .ok true
    | some true => .ok false
    | none => .ask .gtr d (.lit (.ofNat 400))
   | none => .ok false
  | _, _ => .ok false
noncomputable def yQ (c : Ctx) (now : E) : List (AV × AV × Nat) -> D Bool
 | [] => .ok true
 | x :: l => match Qac c now (Qh7 x) with
  | .ok true => yQ c now l
  | r => r
def Q60 : List Nat -> Bool
 | [] => true
 | x :: l => !l.any (Nat.beq x) && Q60 l
theorem jS : ∀ {l : List Nat}, Q60 l = true -> l.Nodup
 | [], _ => List.nodup_nil
 | x :: l, h => by
  simp only [Q60, Bool.and_eq_true, Bool.not_eq_true'] at h
  refine List.nodup_cons.2 ⟨λ hx => ?_, jS h.2⟩
  have : l.any (Nat.beq x) = true := List.any_eq_true.2 ⟨x, hx, by simp⟩
  rw [this] at h
  cases h.1
theorem Q6i {n : Nat -> Prop} {c : Ctx} {O : Val} {now l : E} (hc : c.okN n O) (h : Qac c now l = .ok true) :
 (decide (now.den O > l.den O) && decide (IntKind.u64.wrap (IntKind.u64.wrap (now.den O) - IntKind.u64.wrap (l.den O)) > 400)) = false := by
 unfold Qac at h
 split at h
 . rename_i h1
   have := E.Qf rfl h1 hc
   simp only [YD] at this
   rw [this]
   rfl
 . split at h
   . rename_i a b ha hb
     split at h
     . rename_i d hd
       split at h
       . rename_i h2
         have t := E.Qf rfl h2 hc
         simp only [YD, E.den] at t
         rw [Q4q hd, <- E.JV (O := O) ha, <- E.JV (O := O) hb] at t
         rw [Bool.and_eq_false_iff, decide_eq_false_iff_not, decide_eq_false_iff_not]
         exact .inr (of_decide_eq_false t)
       . cases h
       . cases h
     . cases h
   . cases h
theorem qy {n : Nat -> Prop} {c : Ctx} {O : Val} {now : E} (hc : c.okN n O) : ∀ {l : List (AV × AV × Nat)}, yQ c now l = .ok true -> ∀ x ∈ l, Qac c now (Qh7 x) = .ok true
 | [], _, x, hx => by cases hx
 | y :: l, h, x, hx => by
  unfold yQ at h
  split at h
  . rename_i hy
    rcases List.mem_cons.1 hx with rfl | hx
    . exact hy
    . exact qy hc h x hx
  . rename_i r hr
    rw [h] at hr
    exact absurd rfl (hr ·)
theorem Jd {X : Ext} : ∀ {xs : List (AV × AV × Nat)} {es : List MapEntry}, Q9 X xs es -> ∀ e ∈ es, ∃ x ∈ xs, x.1.rel X e.key /\ x.2.1.rel X e.val /\ e.born = x.2.2
 | [], es, h, e, he => by simp only [Q9] at h; subst h; cases he
 | x :: xs, es, ⟨e', es', h1, h2, h3, h4, h5⟩, e, he => by
  subst h1
  rcases List.mem_cons.1 he with rfl | he
  . exact ⟨x, by simp, h2, h3, h4⟩
  . obtain ⟨y, hy, k⟩ := Jd h5 e he
    exact ⟨y, by simp [hy], k⟩
theorem jX {X : Ext} : ∀ {xs : List (AV × AV × Nat)} {es : List MapEntry}, Q9 X xs es -> es.map (·.born) = xs.map (·.2.2)
 | [], es, h => by simp only [Q9] at h; subst h; rfl
 | x :: xs, es, ⟨e', es', h1, h2, h3, h4, h5⟩ => by
  subst h1
  simp only [List.map_cons, h4, jX h5]
noncomputable def Q0y : Sum := λ c H next as =>
 match as with
 | [.ptr F o, .int .i64 now] => match H.get F with
  | some (.cells cs _ _ _ _) => match cs[o + 1]? with
   | some (.map m) => match H.get m with
    | some (.map es clock) => bif es.all Qhc && (es.all (λ x => Nat.blt x.2.2 clock) && Q60 (es.map (·.2.2))) then
     (match yQ c now es with
     | .ok true => .ok ⟨.tuple [], H, next, c⟩
     | .ask op a b => .ask op a b
     | _ => .fail) else .fail
    | _ => .fail
   | _ => .fail
  | _ => .fail
 | _ => .fail
theorem Q6m {P : Program} {G : Env} {n0 : Nat} {f : FuncId}
 (h : ∀ (F o mb : Nat) (now : Int) (es : Array MapEntry) (clock : Nat) (w : World), w.cell? ⟨F, o + 1, none⟩ = some (.map (some mb)) -> w.heap[mb]? = some (.map es clock) -> (∀ x ∈ es.toList, x.born < clock) -> (es.toList.map (·.born)).Nodup ->
  (∀ x ∈ es.toList, ∃ a b c d e : Int, x.key = .agg #[.int .i64 a, .int .i64 b, .int .i64 c, .int .i64 d, .int .i64 e]) ->
  (∀ x ∈ es.toList, ∃ l n : Int, x.val = .agg #[.int .i64 l, .int .i64 n] /\ (decide (now > l) && decide (IntKind.u64.wrap (IntKind.u64.wrap now - IntKind.u64.wrap l) > 400)) = false) ->
  Calls P f #[.pointer (some ⟨F, o, none⟩), .int .i64 now] w λ e w' => e = .returned (.tuple #[]) /\ Below w.heap.size w w') : ZE P G n0 f Q0y := by
 intro c X H next w args vs r hr hc hg hH h0 hfr hargs fr cs
 unfold Q0y at hr
 split at hr
 . rename_i F o now
   split at hr
   . rename_i cells el ex pl ro hF
     split at hr
     . rename_i m hm
       split at hr
       . rename_i es clock hes
         cases hb : (es.all Qhc && (es.all (λ x => Nat.blt x.2.2 clock) && Q60 (es.map (·.2.2)))) with
         | false => rw [hb] at hr; cases hr
         | true =>
          rw [hb] at hr
          simp only [cond_true] at hr
          split at hr
          . rename_i hfresh
            cases hr
            simp only [Bool.and_eq_true] at hb
            obtain ⟨b1, b2, b3⟩ := hb
            obtain ⟨u, vs', e1, g1, g2⟩ := Q8.1 hargs
            obtain ⟨v, vs'', rfl, g3, g4⟩ := Q8.1 g2
            have := rels_nil.1 g4
            subst this
            simp only [AV.rel] at g1 g3
            obtain ⟨p, hp, rfl⟩ := g1
            obtain ⟨k2, rfl⟩ := g3
            have hvs : vs = #[.pointer (some ⟨p.blk, p.base + o, none⟩), .int .i64 (now.den X.O)] := by rw [<- Array.toList_inj]; exact e1
            subst hvs
            obtain ⟨vm, hcell, hvr⟩ := hH.cell (i := o + 1) hF hp hm
            simp only [AV.rel] at hvr
            obtain ⟨pm, hpm, rfl⟩ := hvr
            obtain ⟨es', hmap, hrel⟩ := hH.obj _ _ pm hes hpm
            have hcall := h p.blk (p.base + o) pm.blk (now.den X.O) es' clock w (by rw [Nat.add_assoc]; exact hcell) hmap
             (λ x hx => by
              obtain ⟨y, hy, -, -, hborn⟩ := Jd hrel x hx
              rw [hborn]
              have := List.all_eq_true.1 b2 y hy
              simpa using this)
             (by rw [jX hrel]; exact jS b3)
             (λ x hx => by
              obtain ⟨y, hy, hk, -, -⟩ := Jd hrel x hx
              have := List.all_eq_true.1 b1 y hy
              unfold Qhc at this
              split at this
              . rename_i e1 e2 e3 e4 e5 f1 f2 q1 q2
                rw [q1] at hk
                simp only [AV.rel] at hk
                obtain ⟨ws, hw1, hw2⟩ := hk
                obtain ⟨v1, l1, r1, a1, hw2⟩ := Q8.1 hw2
                obtain ⟨v2, l2, r2, a2, hw2⟩ := Q8.1 hw2
                obtain ⟨v3, l3, r3, a3, hw2⟩ := Q8.1 hw2
                obtain ⟨v4, l4, r4, a4, hw2⟩ := Q8.1 hw2
                obtain ⟨v5, l5, r5, a5, hw2⟩ := Q8.1 hw2
                have r6 := rels_nil.1 hw2
                subst r6 r5 r4 r3 r2
                simp only [AV.rel] at a1 a2 a3 a4 a5
                refine ⟨e1.den X.O, e2.den X.O, e3.den X.O, e4.den X.O, e5.den X.O, ?_⟩
                rw [hw1]
                congr 1
                rw [<- Array.toList_inj, r1, a1.2, a2.2, a3.2, a4.2, a5.2]
              . cases this)
             (λ x hx => by
              obtain ⟨y, hy, -, hv, -⟩ := Jd hrel x hx
              have hfl := List.all_eq_true.1 b1 y hy
              have hfr := Q6i (O := X.O) hc (qy hc hfresh y hy)
              unfold Qhc at hfl
              split at hfl
              . rename_i e1 e2 e3 e4 e5 f1 f2 q1 q2
                have hl : Qh7 y = f1 := by unfold Qh7; rw [q2]
                rw [q2] at hv
                simp only [AV.rel] at hv
                obtain ⟨ws, hw1, hw2⟩ := hv
                obtain ⟨v1, l1, r1, a1, hw2⟩ := Q8.1 hw2
                obtain ⟨v2, l2, r2, a2, hw2⟩ := Q8.1 hw2
                have r6 := rels_nil.1 hw2
                subst r6 r2
                simp only [AV.rel] at a1 a2
                refine ⟨f1.den X.O, f2.den X.O, ?_, by rw [<- hl]; exact hfr⟩
                rw [hw1]
                congr 1
                rw [<- Array.toList_inj, r1, a1.2, a2.2]
              . cases hfl)
            obtain ⟨u, w', ⟨rfl, hB⟩, st⟩ := Ze (q := λ v w' => v = .tuple #[] /\ Below w.heap.size w w') (hcall.mono λ e w' he => ⟨.tuple #[], he.1, rfl, he.2⟩) fr cs
            exact ⟨X, .tuple #[], w', st, Ext.le.refl X, Qu X, ⟨λ b o p ho hp => by rw [hB.block _ (hH.lt _ _ hp)]; exact hH.obj b o p ho hp, hH.inj, λ b p hp => Nat.lt_of_lt_of_le (hH.lt b p hp) hB.size, hH.own⟩, hB.mono h0, λ b hb _ => ⟨hb, rfl⟩, Nat.le_refl _, hfr, hc⟩
          . cases hr
          . cases hr
       . cases hr
     . cases hr
   . cases hr
 . cases hr
end Go.Ax
namespace Go.Ax
open Go.RowKit
structure Fr where
 fn : Nat
 nt : Nat
 cur : zY
 todo : List Qj
 tms : List AV
noncomputable def Fr.af (f : Fr) : Qg := ⟨f.fn, f.nt, setArgs 0 f.tms (.sk f.nt), f.cur, f.todo, [], false, none⟩
structure StC where
 fr : Fr
 cs : List Fr
 l : List (Nat × Q6)
 next : Nat
 fs : List Fact
 vs : List Nat
noncomputable def StC.am (t : StC) (room : Nat) : AM := ⟨t.fr.af, t.cs.map Fr.af, Q55 room t.l, t.next, ⟨t.fs, t.vs⟩⟩
noncomputable def Qn0 : zY -> Bool
 | .draw ops done rest pa => match rest, pa with
  | (i, _) :: _, [] => Nat.beq (Nat.land done (((Q4n ops 0 (.sk ops.length)).get i).getD 0)) done
  | _, _ => false
 | _ => true
theorem zN {ops : List Oper} {done : Nat} {rest : List (Nat × List Nat)} {pa : List (Nat × Nat)} (h : Qn0 (.draw ops done rest pa) = true) : ∃ i rc rest', rest = (i, rc) :: rest' /\ pa = [] /\ Nat.land done (((Q4n ops 0 (.sk ops.length)).get i).getD 0) = done := by
 cases rest with
 | nil => simp [Qn0] at h
 | cons q r =>
  obtain ⟨i, rc⟩ := q
  cases pa with
  | nil => exact ⟨i, rc, r, rfl, rfl, Nat.eq_of_beq_eq_true h⟩
  | cons => simp [Qn0] at h
noncomputable def frB (U : Sb) (vs : List Nat) (K : Nat -> Bool) (a : Qg) (f : Fr) : Bool :=
 !a.ret && (Qaj a.defers && (Qjs a.ro && (Qn0 a.cur && (a.todo.all Q2c && (Q93 U vs K a.tm 0 f.tms && Nat.beq f.tms.length a.nt)))))
noncomputable def Qkd (U : Sb) (vs : List Nat) (K : Nat -> Bool) : List Qg -> List Fr -> Bool
 | [], [] => true
 | a :: as, f :: fs => frB U vs K a f && Qkd U vs K as fs
 | _, _ => false
section
variable {P : Program} {G : Env} {n0 : Nat} {H H' : Tr Q6} {X X' : Ext} {U : Sb} {vs : List Nat} {K : Nat -> Bool} {a : Qg} {t : Fr} {f : Frame}
theorem Qae (hk : frB U vs K a t = true) (h1 : a.fn = t.fn) (h : jI P X a f) : jI P X' t.af f := by
 simp only [frB, Bool.and_eq_true, Bool.not_eq_true'] at hk
 obtain ⟨b1, b2, b3, -⟩ := hk
 have hdef : a.defers = [] := by cases hh : a.defers with
  | nil => rfl
  | cons a l => rw [hh] at b2; cases b2
 have hro : a.ro = none := by cases hh : a.ro with
  | none => rfl
  | some a => rw [hh] at b3; cases b3
 refine ⟨h.fn.trans h1, h.kind, ?_, ?_⟩
 . have := h.ro
   rw [hro] at this
   exact this
 . have := h.defers
   rw [hdef] at this
   exact this
theorem Q7r.Y4 (hc : Cast U vs K X X') (hk : frB U vs K a t = true) (b4 : qp a.cur = true) (h1 : a.fn = t.fn) (h2 : a.nt = t.nt) (h3 : a.cur = t.cur) (h4 : a.todo = t.todo) (h : Q7r P G X n0 H a f) : Q7r P G X' n0 H' t.af f /\ Qm t.af = [] := by
 have hb := Qae (X' := X') hk h1 h.1
 simp only [frB, Bool.and_eq_true, Bool.not_eq_true', Nat.beq_eq] at hk
 obtain ⟨b1, -, -, -, b5, b6, b7⟩ := hk
 obtain ⟨-, h'⟩ := h
 rw [b1] at h'
 obtain ⟨hm, is, his, hcur'⟩ := h'
 have htm : ∀ {tmps}, QB X a.nt a.tm tmps -> QB X' t.af.nt t.af.tm tmps := λ h => by
  have := QB.Y4 hc h b6 b7
  rw [h2] at this
  exact this
 have hids : Qm t.af = [] := by
  show Qm t.af = []
  unfold Qm
  show (match t.cur with | .draw _ _ _ pa => pa.map (·.2) | _ => []) = []
  rw [<- h3]
  cases hcc : a.cur with
  | draw ops done rest pa => rw [hcc] at b4; cases b4
  | _ => rfl
 refine ⟨⟨hb, hm, is, ?_, ?_⟩, hids⟩
 . show Y8 X' t.todo is
   rw [<- h4]
   exact ZJ b5 his
 . show match t.cur with
    | .none => _
    | .reg ops k rest => _
    | .draw ops done rest pa => _
   rw [<- h3]
   cases hcc : a.cur with
   | none => rw [hcc] at hcur'; exact ⟨hcur'.1, htm hcur'.2⟩
   | reg ops k rest => rw [hcc] at hcur'; exact ⟨hcur'.1, hcur'.2.1, htm hcur'.2.2⟩
   | draw ops done rest pa => rw [hcc] at b4; cases b4
theorem Q1s.Y4 (hc : Cast U vs K X X') (hk : frB U vs K a t = true) (h1 : a.fn = t.fn) (h2 : a.nt = t.nt) (h3 : a.cur = t.cur) (h4 : a.todo = t.todo) (h : Q1s P G X n0 H a f) : Q1s P G X' n0 H' t.af f /\ Qm t.af = [] := by
 have hb := Qae (X' := X') hk h1 h.1
 simp only [frB, Bool.and_eq_true, Bool.not_eq_true', Nat.beq_eq] at hk
 obtain ⟨b1, -, -, b4, b5, b6, b7⟩ := hk
 obtain ⟨-, -, hm, is, his, hcur'⟩ := h
 have htm : ∀ {tmps}, QB X a.nt a.tm tmps -> QB X' t.af.nt t.af.tm tmps := λ h => by
  have := QB.Y4 hc h b6 b7
  rw [h2] at this
  exact this
 have hids : Qm t.af = [] := by
  unfold Qm
  show (match t.cur with | .draw _ _ _ pa => pa.map (·.2) | _ => []) = []
  rw [<- h3]
  cases hcc : a.cur with
  | draw ops done rest pa =>
   rw [hcc] at b4
   obtain ⟨-, -, -, -, rfl, -⟩ := zN b4
   rfl
  | _ => rfl
 refine ⟨⟨hb, rfl, hm, is, ?_, ?_⟩, hids⟩
 . show Y8 X' t.todo is
   rw [<- h4]
   exact ZJ b5 his
 . show match t.cur with
    | .none => _
    | .reg ops k rest => _
    | .draw ops done rest pa => _
   rw [<- h3]
   cases hcc : a.cur with
   | none => rw [hcc] at hcur'; exact ⟨hcur'.1, htm hcur'.2⟩
   | reg ops k rest => rw [hcc] at hcur'; exact ⟨hcur'.1, hcur'.2.1, hcur'.2.2.1, htm hcur'.2.2.2⟩
   | draw ops done rest pa =>
    rw [hcc] at hcur' b4
    obtain ⟨A, fuel, tp, listed, i, rc, rest', o, g1, g2, g3, g4, g5, g6, g7, g8, D⟩ := hcur'
    subst g2
    have hall : ∀ j, done.testBit j = true -> Lst listed j := λ j hj => by
     obtain ⟨i', rc', r', e, -, hl⟩ := zN b4
     cases e
     refine D.before g3 g8 ?_
     have : (Nat.land done (((Q4n ops 0 (.sk ops.length)).get i).getD 0)).testBit j = true := by rw [hl]; exact hj
     change (done &&& _).testBit j = true at this
     rw [Nat.testBit_and, Bool.and_eq_true] at this
     exact this.2
    have htm' : QB X' t.af.nt t.af.tm f.tmps := htm ⟨D.tmr.1, λ u => D.tmr.2 u λ j oj hj hl _ => absurd (hall j hj) hl⟩
    exact ⟨A, fuel, tp, listed, i, rc, rest', o, g1, rfl, g3, g4, g5, g6, g7, g8, D.size, D.sub, D.closed, D.plan, D.light, D.looks, D.inRange, ⟨htm'.1, λ u _ => htm'.2 u⟩, λ j oj hj hl _ => absurd (hall j hj) hl⟩
end
abbrev sk4 (a : Qg) : Nat × Nat × zY × List Qj := (a.fn, a.nt, a.cur, a.todo)
abbrev Fr.sk4 (a : Fr) : Nat × Nat × zY × List Qj := (a.fn, a.nt, a.cur, a.todo)
theorem QU.Y4 {P : Program} {G : Env} {n0 : Nat} {H H' : Tr Q6} {X X' : Ext} {U : Sb} {vs : List Nat} {K : Nat -> Bool} (hc : Cast U vs K X X') : ∀ {as : List Qg} {ts : List Fr} {cs : List Frame}, Qkd U vs K as ts = true -> as.map sk4 = ts.map Fr.sk4 -> QU P G X n0 H as cs -> QU P G X' n0 H' (ts.map Fr.af) cs /\ (ts.map Fr.af).flatMap Qm = []
 | [], ts, cs, hk, e, h => by
  cases ts with
  | nil => exact ⟨h, rfl⟩
  | cons t ts => simp [Qkd] at hk
 | a :: as, ts, cs, hk, e, h => by
  cases ts with
  | nil => simp [Qkd] at hk
  | cons t ts =>
   simp only [Qkd, Bool.and_eq_true] at hk
   simp only [List.map_cons, List.cons.injEq] at e
   obtain ⟨e1, e2⟩ := e
   simp only [sk4, Fr.sk4, Prod.mk.injEq] at e1
   obtain ⟨f, fs, rfl, h1, h2⟩ := h
   obtain ⟨k1, k2⟩ := Q1s.Y4 (H' := H') hc hk.1 e1.1 e1.2.1 e1.2.2.1 e1.2.2.2 h1
   obtain ⟨k3, k4⟩ := QU.Y4 hc hk.2 e2 h2
   refine ⟨⟨f, fs, rfl, k1, k3⟩, ?_⟩
   simp only [List.map_cons, List.flatMap_cons, k2, k4, List.append_nil]
theorem Sim.Qji {P : Program} {G : Env} {n0 : Nat} {w0 : World} {cs0 : List Frame} {X : Ext} {s : AM} {m : Machine} {U : Sb} {K : Nat -> Bool} {t : StC} {room : Nat} (h : Sim P G n0 w0 cs0 X s m)
 (hf : frB U t.vs K s.fr t.fr = true) (hnd : qp s.fr.cur = true) (hfs : Qkd U t.vs K s.cs t.cs = true) (e0 : sk4 s.fr = t.fr.sk4) (e1 : s.cs.map sk4 = t.cs.map Fr.sk4) (hH : Qis U t.vs K s.H t.l = true)
 (hng : 0 < G.T.ng) (hKg : ∀ b, b < G.T.ng -> K b = true) (hKn : ∀ b, t.next <= b -> K b = false) (hvn : ∀ i ∈ t.vs, i < t.next) (hvd : ∀ i ∈ t.vs, K i = true -> X.dom i)
 (hctx : (⟨t.fs, t.vs⟩ : Ctx).okN (QT U t.vs K X).dom (QT U t.vs K X).O) : Sim P G n0 w0 cs0 (QT U t.vs K X) (t.am room) m := by
 obtain ⟨fr, cs, w, rfl, hF, hall, hHr, hB, h0⟩ := h.ex
 obtain ⟨k0, hk0⟩ := h.Qt 0 hng
 have hc : Cast U t.vs K X (QT U t.vs K X) := by
  refine ⟨λ i hi => ⟨?_, by simp only [QT, if_pos hi], rfl⟩, λ b hb => by simp only [QT, if_pos hb]⟩
  by_cases hk : K i = true
  . obtain ⟨p, hp⟩ := hvd i hi hk
    exact ⟨p, by simp only [QT, if_pos hk, hp]⟩
  . exact ⟨_, by simp only [QT, if_neg hk, if_pos hi]; exact hk0⟩
 have hlt : ∀ b p, (QT U t.vs K X).V b = some p -> p.blk < w.heap.size := λ b p hp => by
  simp only [QT] at hp
  split at hp
  . exact hHr.lt b p hp
  . split at hp
    . exact hHr.lt 0 p hp
    . cases hp
 simp only [sk4, Fr.sk4, Prod.mk.injEq] at e0
 obtain ⟨g1, g2⟩ := Q7r.Y4 (H' := Q55 room t.l) hc hf hnd e0.1 e0.2.1 e0.2.2.1 e0.2.2.2 hF
 obtain ⟨g3, g4⟩ := QU.Y4 (H' := Q55 room t.l) hc hfs e1 hall
 refine ⟨⟨fr, cs, w, rfl, g1, g3, Qo.Y4 hHr hc hlt hH, hB, h0⟩, hctx, λ g hg => ?_, λ b hb => ?_, ?_⟩
 . obtain ⟨n, hn⟩ := h.Qt g hg
   exact ⟨n, by simp only [QT, if_pos (hKg g hg)]; exact hn⟩
 . simp only [QT]
   have hb' : t.next <= b := hb
   rw [if_neg (by rw [hKn b hb']; simp), if_neg (λ hm => by have := hvn b hm; omega)]
 . have e : (t.am room).fr :: (t.am room).cs = t.fr.af :: t.cs.map Fr.af := rfl
   rw [e, List.flatMap_cons, g2, g4]
   simp
def Qd9 : Nat -> List Qg -> Bool
 | _, [] => true
 | 0, _ :: _ => false
 | L + 1, _ :: l => Qd9 L l
noncomputable def Qk1 (L : Nat) (spec : Spec) (G : Env) (n : Nat) (s : AM) : YH :=
 YH.rec (motive := λ _ => YH) (λ s => Bool.rec (motive := λ _ => YH) (.go s) (.stop s) (Qd9 L s.cs)) (λ s => .stop s) (leaf spec G n s)
noncomputable def Qja (L : Nat) (spec : Spec) (G : Env) (n : Nat) (k : Nat) : AM -> YH :=
 Nat.rec (motive := λ _ => AM -> YH) (λ s => Qk1 L spec G n s)
  (λ _ ih s => YH.rec (motive := λ _ => YH) (λ s => ih s) (λ s => .stop s) (ih s)) k
theorem Qh6 {L : Nat} {spec : Spec} {G : Env} (hs : ZH G spec) (n : Nat) (s : AM) : Z6 G s (Qk1 L spec G n s).state := by
 have h := Q05 hs n 0 s
 have e : Qfw spec G n 0 s = leaf spec G n s := rfl
 rw [e] at h
 unfold Qk1
 cases hl : leaf spec G n s with
 | stop t => rw [hl] at h; exact h
 | go t =>
  rw [hl] at h
  simp only
  cases Qd9 L t.cs <;> exact h
theorem Q87 {L : Nat} {spec : Spec} {G : Env} (hs : ZH G spec) (n : Nat) : ∀ (k : Nat) (s : AM), Z6 G s (Qja L spec G n k s).state
 | 0, s => Qh6 hs n s
 | k + 1, s => by
  have h := Q87 (L := L) hs n k s
  have e : Qja L spec G n (k + 1) s = YH.rec (motive := λ _ => YH) (λ s => Qja L spec G n k s) (λ s => .stop s) (Qja L spec G n k s) := rfl
  rw [e]
  cases hr : Qja L spec G n k s with
  | stop t => rw [hr] at h; exact h
  | go t =>
   rw [hr] at h
   exact h.trans (Q87 hs n k t)
noncomputable def Ql4 (L : Nat) (spec : Spec) (G : Env) (n k i : Nat) : AM -> AM :=
 Nat.rec (motive := λ _ => AM -> AM) (λ s => AM.rec (motive := λ _ => AM) (λ fr cs H nx c => ⟨fr, cs, H, nx, c⟩) (Qja L spec G n k s).state)
  (λ _ ih s => AM.rec (motive := λ _ => AM) (λ fr cs H nx c => ih ⟨fr, cs, H, nx, c⟩) (ih s)) i
theorem Q8a {L : Nat} {spec : Spec} {G : Env} (hs : ZH G spec) (n k : Nat) : ∀ (i : Nat) (s : AM), Z6 G s (Ql4 L spec G n k i s)
 | 0, s => by
  have h := Q87 (L := L) hs n k s
  have e : Ql4 L spec G n k 0 s = AM.rec (motive := λ _ => AM) (λ fr cs H nx c => ⟨fr, cs, H, nx, c⟩) (Qja L spec G n k s).state := rfl
  rw [e]
  exact h
 | i + 1, s => by
  have h := Q8a (L := L) hs n k i s
  have e : Ql4 L spec G n k (i + 1) s = AM.rec (motive := λ _ => AM) (λ fr cs H nx c => Ql4 L spec G n k i ⟨fr, cs, H, nx, c⟩) (Ql4 L spec G n k i s) := rfl
  rw [e]
  exact h.trans (Q8a hs n k i _)
noncomputable def Qdj (L : Nat) (spec : Spec) (G : Env) (n k : Nat) : List Nat -> AM -> AM
 | [], s => s
 | i :: l, s => AM.rec (motive := λ _ => AM) (λ fr cs H nx c => Qdj L spec G n k l ⟨fr, cs, H, nx, c⟩) (Ql4 L spec G n k i s)
theorem Q3t {L : Nat} {spec : Spec} {G : Env} (hs : ZH G spec) (n k : Nat) : ∀ (l : List Nat) (s : AM), Z6 G s (Qdj L spec G n k l s)
 | [], s => .refl s
 | i :: l, s => (Q8a hs n k i s).trans (Q3t hs n k l _)
noncomputable def Qk7 (U : Sb) (keep : List Nat) (ng : Nat) (t : StC) (s : AM) : Bool :=
 qp s.fr.cur && (frB U t.vs (QJ ng keep) s.fr t.fr && (Qkd U t.vs (QJ ng keep) s.cs t.cs && (Qis U t.vs (QJ ng keep) s.H t.l && (Qc9 U t.vs s.ctx t.fs &&
  (Nat.ble ng t.next && (keep.all (λ b => Nat.blt b t.next) && (t.vs.all (λ i => Nat.blt i t.next) && t.vs.all (λ i => !QJ ng keep i || s.ctx.vs.any (Nat.beq i)))))))))
def Qlf (L : Nat) (spec : Spec) (G : Env) (n k : Nat) (s : AM) (j : List Nat) (U : Sb) (keep : List Nat) (t : StC) : Prop :=
 (AM.rec (motive := λ _ => (Nat × Nat × zY × List Qj) × List (Nat × Nat × zY × List Qj) × Bool) (λ fr cs H nx c => (sk4 fr, cs.map sk4, Qk7 U keep G.T.ng t ⟨fr, cs, H, nx, c⟩)) (Qdj L spec G n k j s)) = (t.fr.sk4, t.cs.map Fr.sk4, true)
section
variable {P : Program} {G : Env} {n0 : Nat} {w0 : World} {cs0 : List Frame}
theorem Qhb {X : Ext} {s : AM} {m : Machine} {U : Sb} {keep : List Nat} {t : StC} {room : Nat} (h : Sim P G n0 w0 cs0 X s m) (hng : 0 < G.T.ng) (h1 : sk4 s.fr = t.fr.sk4) (h2 : s.cs.map sk4 = t.cs.map Fr.sk4) (hb : Qk7 U keep G.T.ng t s = true) :
 Sim P G n0 w0 cs0 (QT U t.vs (QJ G.T.ng keep) X) (t.am room) m := by
 simp only [Qk7, Bool.and_eq_true, List.all_eq_true, Nat.ble_eq, Nat.blt_eq, Bool.or_eq_true, Bool.not_eq_true'] at hb
 obtain ⟨b6, b7, b8, b9, b10, b11, b12, b13, b14⟩ := hb
 have hKn : ∀ b, t.next <= b -> QJ G.T.ng keep b = false := λ b hb => by
  unfold QJ
  rw [Bool.or_eq_false_iff]
  refine ⟨?_, ?_⟩
  . cases hh : Nat.blt b G.T.ng with
    | false => rfl
    | true => rw [Nat.blt_eq] at hh; omega
  . rw [List.any_eq_false]
    intro c hc he
    have : b = c := by simpa using he
    subst this
    have := b12 b hc
    omega
 have hvd : ∀ i ∈ t.vs, QJ G.T.ng keep i = true -> X.dom i := λ i hi hk => by
  rcases b14 i hi with h' | h'
  . rw [hk] at h'; cases h'
  . exact h.ctx.1 i (any_beq h')
 obtain ⟨k0, hk0⟩ := h.Qt 0 hng
 have hC : Cast U t.vs (QJ G.T.ng keep) X (QT U t.vs (QJ G.T.ng keep) X) := by
  refine ⟨λ i hi => ⟨?_, by simp only [QT, if_pos hi], rfl⟩, λ b hb => by simp only [QT, if_pos hb]⟩
  by_cases hk : QJ G.T.ng keep i = true
  . obtain ⟨p, hp⟩ := hvd i hi hk
    exact ⟨p, by simp only [QT, if_pos hk, hp]⟩
  . exact ⟨_, by simp only [QT, if_neg hk, if_pos hi]; exact hk0⟩
 exact Sim.Qji h b7 b6 b8 h1 h2 b9 hng (λ b hb => by unfold QJ; rw [show Nat.blt b G.T.ng = true from by rw [Nat.blt_eq]; exact hb]; rfl) hKn b13 hvd (Je hC h.ctx b10)
theorem Qlf.sim (hT : G.T.OK P) (hI : Js.OK P G.I) (hS : ZX P G n0) (hng : 0 < G.T.ng) {L : Nat} {X : Ext} {s : AM} {m : Machine} {n k room : Nat} {j : List Nat} {U : Sb} {keep : List Nat} {t : StC} (hh : Qlf L Q80 G n k s j U keep t) (h : Sim P G n0 w0 cs0 X s m) :
 ∃ Y m', Steps P m m' /\ X.le Y /\ Sim P G n0 w0 cs0 (QT U t.vs (QJ G.T.ng keep) Y) (t.am room) m' := by
 obtain ⟨Y, m', st, hle, h1⟩ := Zw hT hI hS (Q3t (L := L) Q3n n k j s) h
 refine ⟨Y, m', st, hle, ?_⟩
 unfold Qlf at hh
 generalize Qdj L Q80 G n k j s = s1 at hh h1
 obtain ⟨fr, cs, H, nx, c⟩ := s1
 simp only [Prod.mk.injEq] at hh
 exact Qhb h1 hng (by simp only [sk4, Fr.sk4, Prod.mk.injEq]; exact hh.1) hh.2.1 hh.2.2
theorem Qlf.ends (hT : G.T.OK P) (hI : Js.OK P G.I) (hS : ZX P G n0) (hng : 0 < G.T.ng) {L : Nat} {f : FuncId} {s : AM} {n k room : Nat} {j : List Nat} {U : Sb} {keep : List Nat} {t : StC} (hh : Qlf L Q80 G n k s j U keep t)
 (he : ∀ X m, Sim P G n0 w0 cs0 X (t.am room) m -> Zo P n0 w0 cs0 f m) {X : Ext} {m : Machine} (h : Sim P G n0 w0 cs0 X s m) : Zo P n0 w0 cs0 f m := by
 obtain ⟨Y, m', st, -, hs⟩ := Qlf.sim hT hI hS hng hh h
 exact .of_steps st (he _ _ hs)
end
end Go.Ax
namespace Go.Ax
open Go.RowKit
noncomputable def Qcv (args : List Sp) (res : Sp) : Sum := λ c H next as =>
 match as with
 | [.int _ (.lit _)] => .fail
 | as => Q5f args res c H next as
theorem Qcu {P : Program} {G : Env} {n0 : Nat} {f : FuncId} {args : List Sp} {res : Sp} (h : ZE P G n0 f (Q5f args res)) : ZE P G n0 f (Qcv args res) := by
 intro c X H next w as vs r hr
 unfold Qcv at hr
 split at hr
 . cases hr
 . exact h c X H next w as vs r hr
end Go.Ax
namespace Go.Ax
open Go.RowKit
noncomputable def Q1y (r : Nat) : Nat := bif Nat.beq (Nat.mod r 2) 1 then Nat.xor (Nat.div r 2) 3988292384 else Nat.div r 2
theorem Qhj (r : Nat) : Q1y r = YR r := by
 unfold Q1y YR
 cases h : Nat.beq (Nat.mod r 2) 1 with
 | true => rw [if_pos (show r % 2 = 1 from Nat.eq_of_beq_eq_true h)]; rfl
 | false => rw [if_neg (λ e => by rw [show Nat.mod r 2 = r % 2 from rfl, e] at h; cases h)]; rfl
noncomputable def crc8 {β : Type} (r : Nat) (k : Nat -> β) : β :=
 QC (Q1y r) λ r => QC (Q1y r) λ r => QC (Q1y r) λ r => QC (Q1y r) λ r => QC (Q1y r) λ r => QC (Q1y r) λ r => QC (Q1y r) λ r => QC (Q1y r) k
theorem Qkm {β : Type} (r : Nat) (k : Nat -> β) : crc8 r k = k (Nat.repeat YR 8 r) := by
 simp only [crc8, sNat_eq, Qhj, Nat.repeat]
noncomputable def crcE : List E -> Nat -> Option Nat
 | [], r => some r
 | .lit (.ofNat b) :: l, r => crc8 (Nat.xor r (Nat.mod b 256)) λ r => crcE l r
 | _ :: _, _ => none
theorem Q2y {O : Val} : ∀ {l : List E} {r m : Nat}, crcE l r = some m -> (S.bytes O l).foldl Ym r = m
 | [], r, m, h => by cases h; rfl
 | e :: l, r, m, h => by
  unfold crcE at h
  split at h
  . rename_i h1; cases h1
  . rename_i b l' r' h1
    cases h1
    rw [Qkm] at h
    rw [<- Q2y (O := O) h]
    simp only [S.bytes, List.map_cons, List.foldl_cons, Ym, E.den]
    congr 2
  . cases h
noncomputable def ckE : List E -> Nat -> Option Nat
 | [], n => some n
 | [.lit (.ofNat a)], n => QC (Nat.add n (Nat.mul (Nat.mod a 256) 256)) some
 | .lit (.ofNat a) :: .lit (.ofNat b) :: l, n => QC (Nat.add n (Nat.add (Nat.mul (Nat.mod a 256) 256) (Nat.mod b 256))) λ n => ckE l n
 | _, _ => none
theorem Q6u {O : Val} : ∀ {l : List E} {n m : Nat}, ckE l n = some m -> n + Q7p (S.bytes O l) = m
 | l, n, m, h => by
  unfold ckE at h
  split at h
  . cases h; simp [S.bytes, Q7p]
  . rename_i a
    simp only [sNat_eq, Option.some.injEq] at h
    subst h
    simp only [S.bytes, List.map_cons, List.map_nil, Q7p, E.den, Int.ofNat_eq_natCast, Int.toNat_natCast, UInt8.toNat_ofNat']
    rfl
  . rename_i a b l'
    rw [sNat_eq] at h
    have := Q6u (O := O) h
    simp only [S.bytes, List.map_cons, Q7p, E.den, Int.ofNat_eq_natCast, Int.toNat_natCast, UInt8.toNat_ofNat'] at this ⊢
    rw [<- this]
    show n + (a % 256 * 256 + b % 256 + _) = n + (a % 256 * 256 + b % 256) + _
    omega
  . cases h
noncomputable def Qh2 (k : Nat) (s : List E) : Option Nat :=
 match k with
 | 0 => match crcE s 4294967295 with
  | some r => QC (Nat.mod (Nat.xor r 4294967295) 4294967296) some
  | none => none
 | 2 => none
 | _ => match ckE s 0 with
  | some n => QC (Nat.mod (Nat.sub 65535 (jw n n)) 65536) some
  | none => none
theorem Q8k {O : Val} {k : Nat} {s : List E} {m : Nat} (h : Qh2 k s = some m) : fnZ k (Jt (S.bytes O s) 1) = m := by
 unfold Qh2 at h
 split at h
 . split at h
   . rename_i r hr
     simp only [sNat_eq, Option.some.injEq] at h
     subst h
     show ((Qkl (Qam (Jt (S.bytes O s) 1).toNat (Jt (S.bytes O s) 1).toNat) % 4294967296 : Nat) : Int) = _
     rw [JU]
     unfold Qkl
     rw [Q2y hr]
     rfl
   . cases h
 . cases h
 . rename_i k0 h0 h2
   split at h
   . rename_i n hn
     simp only [sNat_eq, Option.some.injEq] at h
     subst h
     have e : ∀ z, fnZ k z = ((Qkq (Qam z.toNat z.toNat) % 65536 : Nat) : Int) := by
      intro z
      match k, h0, h2 with
      | 0, h0, _ => exact absurd rfl h0
      | 1, _, _ => rfl
      | 2, _, h2 => exact absurd rfl h2
      | k + 3, _, _ => rfl
     rw [e, JU]
     unfold Qkq
     have := Q6u (O := O) hn
     rw [Nat.zero_add] at this
     rw [this]
     rfl
   . cases h
noncomputable def Qag (k : Nat) : Sum := λ c H next as =>
 match as with
 | [.str s] => bif Nat.ble s.length 1099511627776 then (match Qh2 k s with
  | some m => QC m λ m => .ok ⟨.int .i64 (.lit (.ofNat m)), H, next, c⟩
  | none => sE (Q7y s) λ t => .ok ⟨.int .i64 (.fn k t), H, next, c⟩) else .fail
 | _ => .fail
theorem Qes {P : Program} {G : Env} {n0 : Nat} {f : FuncId} {k : Nat}
 (h : ∀ (s : ByteArray) (w : World), s.size <= 1099511627776 -> Calls P f #[.string s] w λ e w' => e = .returned (.int .i64 (fnZ k (Jt s.data.toList 1))) /\ Below w.heap.size w w') : ZE P G n0 f (Qag k) := by
 refine Ju λ c X H next w args vs r hr hc hargs => ?_
 unfold Qag at hr
 split at hr
 . rename_i s
   cases hb : Nat.ble s.length 1099511627776 with
   | false => rw [hb] at hr; cases hr
   | true =>
    rw [hb] at hr
    obtain ⟨u, vs', e1, h1, h2⟩ := Q8.1 hargs
    have := rels_nil.1 h2
    subst this
    simp only [AV.rel] at h1
    obtain ⟨k1, rfl⟩ := h1
    have hvs : vs = #[.string ⟨(S.bytes X.O s).toArray⟩] := by rw [<- Array.toList_inj]; exact e1
    subst hvs
    have hcall := h ⟨(S.bytes X.O s).toArray⟩ w (by show (S.bytes X.O s).toArray.size <= _; simp only [List.size_toArray, S.bytes, List.length_map]; simpa using hb)
    simp only [cond_true] at hr
    cases hl : Qh2 k s with
    | some m =>
     rw [hl] at hr
     simp only [sNat_eq] at hr
     cases hr
     refine ⟨rfl, rfl, rfl, .int .i64 (m : Int), ?_, ?_⟩
     . simp only [AV.rel]
       exact ⟨trivial, rfl⟩
     . rw [<- Q8k (O := X.O) hl]
       exact hcall
    | none =>
     rw [hl] at hr
     simp only [sE_eq] at hr
     cases hr
     refine ⟨rfl, rfl, rfl, .int .i64 ((E.fn k (Q7y s)).den X.O), ?_, ?_⟩
     . simp only [AV.rel]
       exact ⟨Q9k λ t ht => (k1 t ht).1, trivial⟩
     . simp only [E.den, Q5d]
       exact hcall
 . cases hr
end Go.Ax
namespace Go.Ax
open Go.RowKit
theorem Qb8 {P : Program} {G : Env} {n0 : Nat} {f : FuncId} {S : Ctx -> Tr Q6 -> Nat -> List AV -> D SR}
 (h : ∀ (c : Ctx) (X : Ext) (H : Tr Q6) (next : Nat) (w : World) (args : List AV) (vs : Array Value) (r : SR), S c H next args = .ok r -> c.okN X.dom X.O -> Qo X n0 H w -> AV.QI X args vs.toList ->
  r.H = H /\ r.next = next /\ r.ctx = c /\ ∃ u, r.v.rel X u /\ Calls P f vs w (λ e w' => e = .returned u /\ Below w.heap.size w w')) : ZE P G n0 f S := by
 intro c X H next w args vs r hr hc hg hH h0 hfr hargs fr cs
 obtain ⟨e1, e2, e3, u, hu, hcall⟩ := h c X H next w args vs r hr hc hH hargs
 obtain ⟨u', w', ⟨rfl, hB⟩, hst⟩ := Ze (q := λ v w' => v = u /\ Below w.heap.size w w') (hcall.mono λ e w' he => ⟨u, he.1, rfl, he.2⟩) fr cs
 refine ⟨X, u', w', hst, Ext.le.refl X, hu, ?_, hB.mono h0, λ b hb _ => ⟨hb, by rw [e1]⟩, by rw [e2]; exact Nat.le_refl _, λ b hb => hfr b (by rw [e2] at hb; exact hb), by rw [e3]; exact hc⟩
 rw [e1]
 exact ⟨λ b o p ho hp => by rw [hB.block _ (hH.lt _ _ hp)]; exact hH.obj b o p ho hp, hH.inj, λ b p hp => Nat.lt_of_lt_of_le (hH.lt b p hp) hB.size, hH.own⟩
theorem ZE.or {P : Program} {G : Env} {n0 : Nat} {f : FuncId} {S S' : Sum} (h : ZE P G n0 f S) (h' : ZE P G n0 f S') {T : Sum} (hT : ∀ c H next as r, T c H next as = .ok r -> S c H next as = .ok r \/ S' c H next as = .ok r) : ZE P G n0 f T := by
 intro c X H next w args vs r hr
 rcases hT _ _ _ _ _ hr with e | e
 . exact h c X H next w args vs r e
 . exact h' c X H next w args vs r e
noncomputable def Qer (k : Nat) : Sum := λ c H next as =>
 match as with
 | [.sstr s] => match s.pcs with
  | some p => bif s.small c then sE (yu (norm p)) λ t => .ok ⟨.int .i64 (.fn k t), H, next, c⟩ else .fail
  | none => .fail
 | _ => .fail
noncomputable def Qaf (k : Nat) : Sum := λ c H next as =>
 match as with
 | [.sstr s] => Qer k c H next [.sstr s]
 | as => Qag k c H next as
theorem Q6l {P : Program} {G : Env} {n0 : Nat} {f : FuncId} {k : Nat}
 (h : ∀ (s : ByteArray) (w : World), s.size <= 1099511627776 -> Calls P f #[.string s] w λ e w' => e = .returned (.int .i64 (fnZ k (Jt s.data.toList 1))) /\ Below w.heap.size w w') : ZE P G n0 f (Qaf k) := by
 refine ZE.or (S := Qer k) (S' := Qag k) ?_ (Qes h) λ c H next as r hr => ?_
 . refine Ju λ c X H next w args vs r hr hc hargs => ?_
   unfold Qer at hr
   split at hr
   . rename_i s
     split at hr
     . rename_i p hp
       cases hb : s.small c with
       | false => rw [hb] at hr; cases hr
       | true =>
        rw [hb] at hr
        simp only [cond_true, sE_eq] at hr
        cases hr
        obtain ⟨u, vs', e1, h1, h2⟩ := Q8.1 hargs
        have := rels_nil.1 h2
        subst this
        simp only [AV.rel] at h1
        obtain ⟨k1, k2, rfl⟩ := h1
        have hvs : vs = #[.string ⟨(s.den X.O).toArray⟩] := by rw [<- Array.toList_inj]; exact e1
        subst hvs
        have hl := ST.YZ hb hc k2
        obtain ⟨p1, p2⟩ := ST.Zz (O := X.O) hp k1
        refine ⟨rfl, rfl, rfl, .int .i64 ((E.fn k (yu (norm p))).den X.O), ?_, ?_⟩
        . simp only [AV.rel]
          exact ⟨Q3j (Q3y p1), trivial⟩
        . have := h ⟨(s.den X.O).toArray⟩ w (by show (s.den X.O).toArray.size <= _; simp only [List.size_toArray]; omega)
          simp only [E.den, zf, Y7, p2]
          exact this
     . cases hr
   . cases hr
 . unfold Qaf at hr
   split at hr
   . exact .inl hr
   . exact .inr hr
noncomputable def Q8r (b : Nat) : Sum := λ c H next as =>
 match as with
 | [.sstr s, .int .i64 a, .int .i64 (.lit (.ofNat k))] => bif Nat.ble 1 k && Nat.ble k 4 && s.small c then
  match s.pcs with
  | some p => bif p.all (Pc.good c) then
   match Q65 c p with
   | some L => match E.plus c L (-(.ofNat k)) with
    | some M => match E.cmp c .lss a (.lit 0) with
     | some false => match E.cmp c .gtr a M with
      | some true => match E.cmp c .leq a (.lit 1099511627776) with
       | some true => .ok ⟨.tuple [.int .i64 (.lit (.ofNat 0)), .int .i64 (.lit (.ofNat b))], H, next, c⟩
       | _ => .fail
      | some false => match Qfz c a p with
       | some (_, g) => match norm g with
        | .b m :: _ => bif Nat.ble k m.length && (m.take k).all E.isByte then
         (match getE c (m.take k) with
         | some e => .ok ⟨.tuple [.int .i64 e, .int .i64 (.lit (.ofNat 0))], H, next, c⟩
         | none => .fail) else .fail
        | _ => .fail
       | none => .fail
      | none => .ask .gtr a M
     | _ => .fail
    | none => .fail
   | none => .fail
   else .fail
  | none => .fail
  else .fail
 | _ => .fail
noncomputable def Q8s (b : Nat) : Sum := λ c H next as =>
 match as with
 | .sstr s :: r => Q8r b c H next (.sstr s :: r)
 | as => Qab b c H next as
theorem Qc1 {P : Program} {G : Env} {n0 : Nat} {f : FuncId} {b : Nat}
 (h1 : ∀ (s : ByteArray) (i k : Nat) (w : World), 1 <= k -> k <= 4 -> s.size <= 1099511627776 -> i + k <= s.size -> Calls P f #[.string s, .int .i64 i, .int .i64 k] w λ e w' => e = .returned (.tuple #[.int .i64 (Qa1 ((s.data.toList.drop i).take k)), .int .i64 0]) /\ Below w.heap.size w w')
 (h2 : ∀ (s : ByteArray) (i k : Nat) (w : World), 1 <= k -> k <= 4 -> s.size <= 1099511627776 -> i <= 1099511627776 -> s.size < i + k -> Calls P f #[.string s, .int .i64 i, .int .i64 k] w λ e w' => e = .returned (.tuple #[.int .i64 0, .int .i64 b]) /\ Below w.heap.size w w') : ZE P G n0 f (Q8s b) := by
 refine ZE.or (S := Q8r b) (S' := Qab b) ?_ (Qen h1 h2) λ c H next as r hr => ?_
 . refine Ju λ c X H next w args vs r hr hc hargs => ?_
   unfold Q8r at hr
   split at hr
   . rename_i s a k
     cases hb : (Nat.ble 1 k && Nat.ble k 4 && s.small c) with
     | false => rw [hb] at hr; cases hr
     | true =>
      rw [hb] at hr
      simp only [Bool.and_eq_true, Nat.ble_eq] at hb
      simp only [cond_true] at hr
      obtain ⟨u, vs', e1, g1, g2⟩ := Q8.1 hargs
      obtain ⟨v, vs'', rfl, g3, g4⟩ := Q8.1 g2
      obtain ⟨v2, vs3, rfl, g5, g6⟩ := Q8.1 g4
      have := rels_nil.1 g6
      subst this
      simp only [AV.rel] at g1 g3 g5
      obtain ⟨k1, k2, rfl⟩ := g1
      obtain ⟨ka, rfl⟩ := g3
      obtain ⟨-, rfl⟩ := g5
      have hl := ST.YZ hb.2 hc k2
      have hvs : vs = #[.string ⟨(s.den X.O).toArray⟩, .int .i64 (a.den X.O), .int .i64 k] := by rw [<- Array.toList_inj]; exact e1
      subst hvs
      have hsz : (⟨(s.den X.O).toArray⟩ : ByteArray).size = (s.den X.O).length := by
       show (s.den X.O).toArray.size = _
       simp
      split at hr
      . rename_i p hp
        obtain ⟨p1, p2⟩ := ST.Zz (O := X.O) hp k1
        cases hg : p.all (Pc.good c) with
        | false => rw [hg] at hr; cases hr
        | true =>
         rw [hg] at hr
         simp only [cond_true] at hr
         split at hr
         . rename_i L hL
           obtain ⟨L1, L2⟩ := Yj hc hL p1 (all_good hc hg)
           split at hr
           . rename_i M hM
             obtain ⟨M1, M2⟩ := E.Yb hM hc L1
             rw [L2, p2] at M2
             split at hr
             . rename_i hz
               have z0 : ¬ (a.den X.O < 0) := of_decide_eq_false (E.Qf rfl hz hc)
               obtain ⟨i, hi⟩ : ∃ i : Nat, a.den X.O = i := ⟨(a.den X.O).toNat, by omega⟩
               rw [hi]
               split at hr
               . rename_i hgt
                 have z1 := E.Qf rfl hgt hc
                 simp only [YD, decide_eq_true_eq] at z1
                 split at hr
                 . rename_i hbig
                   have z2 : a.den X.O <= 1099511627776 := of_decide_eq_true (E.Qf rfl hbig hc)
                   cases hr
                   simp only [Int.ofNat_eq_natCast] at M2
                   refine ⟨rfl, rfl, rfl, _, ?_, h2 _ i k w hb.1.1 hb.1.2 (by rw [hsz]; omega) (by omega) (by rw [hsz]; omega)⟩
                   simp only [AV.rel]
                   refine ⟨_, rfl, ?_⟩
                   simp only [rels_cons_cons, rels_nil, AV.rel]
                   exact ⟨⟨trivial, rfl⟩, ⟨trivial, rfl⟩, trivial⟩
                 . cases hr
               . rename_i hgt
                 have z1 := E.Qf rfl hgt hc
                 simp only [YD, decide_eq_false_iff_not] at z1
                 simp only [Int.ofNat_eq_natCast] at M2
                 split at hr
                 . rename_i f0 g hcut
                   obtain ⟨a1, a2, a3, a4, a5, a6⟩ := Yc hc hcut ka p1 (all_good hc hg)
                   split at hr
                   . rename_i m g' hn
                     cases hk : (Nat.ble k m.length && (m.take k).all E.isByte) with
                     | false => rw [hk] at hr; cases hr
                     | true =>
                      rw [hk] at hr
                      simp only [Bool.and_eq_true, Nat.ble_eq] at hk
                      simp only [cond_true] at hr
                      split at hr
                      . rename_i e he
                        cases hr
                        have hok := Q3y a2
                        rw [hn] at hok
                        have hm : (Pc.b m).ok X.dom := hok _ (by simp)
                        have hkk : S.okN X.dom X.O (m.take k) := λ t ht => ⟨hm t (List.mem_of_mem_take ht), E.ZV (List.all_eq_true.1 hk.2 t ht) _⟩
                        obtain ⟨q1, q2⟩ := Q2s he (by simp only [List.length_take]; omega) hkk hc
                        refine ⟨rfl, rfl, rfl, _, ?_, h1 _ i k w hb.1.1 hb.1.2 (by rw [hsz]; omega) (by rw [hsz]; omega)⟩
                        simp only [AV.rel]
                        refine ⟨_, rfl, ?_⟩
                        simp only [rels_cons_cons, rels_nil, AV.rel]
                        refine ⟨⟨q1, ?_⟩, ⟨trivial, rfl⟩, trivial⟩
                        rw [q2]
                        have hgd := Y7 (O := X.O) g
                        rw [hn, Qa] at hgd
                        have e2 : (s.den X.O).drop i = YV X.O g := by
                         rw [<- p2, a5]
                         have : i = (YV X.O f0).length := by omega
                         rw [this, List.drop_left]
                        rw [e2, <- hgd]
                        simp only [Pc.den]
                        rw [List.take_append_of_le_length (by simp [S.bytes]; omega)]
                        simp [S.bytes, List.map_take]
                      . cases hr
                   . cases hr
                 . cases hr
               . cases hr
             . cases hr
           . cases hr
         . cases hr
      . cases hr
   . cases hr
 . unfold Q8s at hr
   split at hr
   . exact .inl hr
   . exact .inr hr
noncomputable def pcsL : List AV -> Option (List Pc)
 | [] => some []
 | a :: l => match Qid a with
  | none => none
  | some s => match s.pcs with
   | none => none
   | some p => match pcsL l with
    | some q => some (p ++ q)
    | none => none
theorem Q2e {X : Ext} : ∀ {l : List AV} {p : List Pc}, pcsL l = some p -> ∀ {vs : List Value}, AV.QI X l vs -> rok X.dom p /\ ∃ xs : List ByteArray, vs = xs.map .string /\ YV X.O p = (xs.map (·.data.toList)).flatten /\ xs.length = l.length
 | [], p, h, vs, hv => by
  cases h
  have := rels_nil.1 hv
  subst this
  exact ⟨(λ x hx => by cases hx), [], rfl, rfl, rfl⟩
 | a :: l, p, h, vs, hv => by
  obtain ⟨u, vs', rfl, h1, h2⟩ := Q8.1 hv
  simp only [pcsL] at h
  split at h
  . cases h
  . rename_i s hs
    split at h
    . cases h
    . rename_i q hq
      split at h
      . rename_i q' hq'
        cases h
        obtain ⟨s1, s2, rfl⟩ := ze hs h1
        obtain ⟨g1, g2⟩ := ST.Zz (O := X.O) hq s1
        obtain ⟨k1, xs, rfl, k2, k3⟩ := Q2e hq' h2
        refine ⟨λ x hx => ?_, ⟨(s.den X.O).toArray⟩ :: xs, rfl, ?_, by simp [k3]⟩
        . rcases List.mem_append.1 hx with hx | hx
          . exact g1 x hx
          . exact k1 x hx
        . rw [qH, g2, k2]
          simp
      . cases h
noncomputable def Q8n : Sum := λ c H next as =>
 match as with
 | [.slice b o n _ es _, .str []] => bif Nat.beq es 1 && Nat.ble n 1000000 && Nat.blt 0 n then
  match H.get b with
  | some (.cells cs _ _ _ _) => bif Nat.ble (o + n) cs.length then
   match pcsL ((cs.drop o).take n) with
   | some p => bif p.all (Pc.good c) && Q29 c p then
    (match avR c p with
    | some v => .ok ⟨v, H, next, c⟩
    | none => .fail) else .fail
   | none => .fail
   else .fail
  | _ => .fail
  else .fail
 | _ => .fail
theorem Qby {P : Program} {G : Env} {n0 : Nat} {f : FuncId}
 (h : ∀ (bk o c : Nat) (xs : List ByteArray) (w : World), (∀ (j : Nat) x, xs[j]? = some x -> w.cell? ⟨bk, o + j, none⟩ = some (.string x)) -> bk < w.heap.size -> xs.length <= 140737488355328 -> xs.length <= c -> ((xs.map (·.data.toList)).flatten).length <= 140737488355328 ->
  Calls P f #[.slice (some ⟨bk, o, none⟩) xs.length c, .string ⟨#[]⟩] w λ e w' => e = .returned (.string ⟨((xs.map (·.data.toList)).flatten).toArray⟩) /\ Below w.heap.size w w') : ZE P G n0 f Q8n := by
 refine Qb8 λ c X H next w args vs r hr hc hH hargs => ?_
 unfold Q8n at hr
 split at hr
 . rename_i b o n cap es ex
   cases hb : (Nat.beq es 1 && Nat.ble n 1000000 && Nat.blt 0 n) with
   | false => rw [hb] at hr; cases hr
   | true =>
    rw [hb] at hr
    simp only [cond_true] at hr
    simp only [Bool.and_eq_true, Nat.ble_eq, Nat.blt_eq, Nat.beq_eq] at hb
    obtain ⟨⟨rfl, hb2⟩, hb3⟩ := hb
    obtain ⟨u, vs', e1, g1, g2⟩ := Q8.1 hargs
    obtain ⟨v, vs'', rfl, g3, g4⟩ := Q8.1 g2
    have := rels_nil.1 g4
    subst this
    simp only [AV.rel] at g1 g3
    obtain ⟨p, o', cc, m1, rfl, m2, m3, m4, m5, m6⟩ := g1
    obtain ⟨-, rfl⟩ := g3
    have ho := m5 (.inl (by omega))
    split at hr
    . rename_i cs el xx pl ro hget
      cases hle : Nat.ble (o + n) cs.length with
      | false => rw [hle] at hr; cases hr
      | true =>
       rw [hle] at hr
       simp only [cond_true] at hr
       rw [Nat.ble_eq] at hle
       split at hr
       . rename_i q hq
         cases hg : (q.all (Pc.good c) && Q29 c q) with
         | false => rw [hg] at hr; cases hr
         | true =>
          rw [hg] at hr
          simp only [cond_true] at hr
          rw [Bool.and_eq_true] at hg
          split at hr
          . rename_i v hv
            cases hr
            obtain ⟨cc', fr, ⟨el', b1, bel⟩, b2, b3, b4, b5, b6, b7⟩ := hH.obj _ _ _ hget m1
            -- the cells
            obtain ⟨vl, hvl1, hvl2⟩ : ∃ vl : List Value, AV.QI X ((cs.drop o).take n) vl /\ ∀ j, j < n -> cc'[p.base + (o + j)]? = vl[j]? := by
             have key : ∀ (l : List AV) (k : Nat), (∀ j x, l[j]? = some x -> ∃ v, cc'[p.base + (k + j)]? = some v /\ x.rel X v) -> ∃ vl : List Value, AV.QI X l vl /\ ∀ j, j < l.length -> cc'[p.base + (k + j)]? = vl[j]? := by
              intro l
              induction l with
              | nil => exact λ k _ => ⟨[], rfl, λ j hj => by simp at hj⟩
              | cons x l ih =>
               intro k hk
               obtain ⟨v0, a1, a2⟩ := hk 0 x rfl
               obtain ⟨vl, a3, a4⟩ := ih (k + 1) λ j x hx => by
                obtain ⟨v, q1, q2⟩ := hk (j + 1) x (by simpa using hx)
                exact ⟨v, by rw [<- q1]; congr 1; omega, q2⟩
               refine ⟨v0 :: vl, ⟨v0, vl, rfl, a2, a3⟩, λ j hj => ?_⟩
               cases j with
               | zero => simpa using a1
               | succ j =>
                have := a4 j (by simpa using hj)
                rw [List.getElem?_cons_succ, <- this]
                congr 1
                omega
             obtain ⟨vl, a1, a2⟩ := key ((cs.drop o).take n) o λ j x hx => by
              have hj : j < n := by
               obtain ⟨h', -⟩ := List.getElem?_eq_some_iff.1 hx
               simp only [List.length_take] at h'
               omega
              rw [List.getElem?_take, if_pos hj, List.getElem?_drop] at hx
              obtain ⟨v, q1, q2⟩ := b5 (o + j) x hx
              exact ⟨v, q1, q2⟩
             exact ⟨vl, a1, λ j hj => a2 j (by simp only [List.length_take, List.length_drop]; omega)⟩
            obtain ⟨r1, xs, rfl, r2, r3⟩ := Q2e hq hvl1
            have hn : xs.length = n := by
             rw [r3]
             simp only [List.length_take, List.length_drop]
             omega
            have hsane := all_good hc hg.1
            have hshort := jN hc hg.2 r1 hsane
            rw [r2] at hshort
            have hvs : vs = #[.slice (some ⟨p.blk, o', none⟩) xs.length cc, .string ⟨(S.bytes X.O []).toArray⟩] := by rw [<- Array.toList_inj, hn]; exact e1
            subst hvs
            refine ⟨rfl, rfl, rfl, .string ⟨(YV X.O q).toArray⟩, Q77 hc hv r1 hsane, ?_⟩
            rw [r2]
            refine h p.blk o' cc xs w (λ j x hx => ?_) (hH.lt _ _ m1) (by omega) (by omega) (by omega)
            have hj : j < n := by
             obtain ⟨h', -⟩ := List.getElem?_eq_some_iff.1 hx
             rw [<- hn]
             exact h'
            have e3 := hvl2 j hj
            rw [List.getElem?_map, hx, Option.map_some] at e3
            unfold World.cell?
            simp only [b1]
            rw [ho, Nat.add_assoc]
            exact e3
          . cases hr
       . cases hr
    . cases hr
 . cases hr
end Go.Ax
namespace Go.Ax
open Go.RowKit
end Go.Ax
namespace Go.Ax
open Go.RowKit
section
variable {P : Program} {G : Env} {n0 : Nat} {w0 : World} {cs0 : List Frame}
end
end Go.Ax
namespace Go.Ax
open Go.RowKit
noncomputable def Qko (b : Nat) : List Nat -> Nat -> Nat
 | [], k => k
 | n :: l, k => bif Nat.beq (n % 256) b then QC (k + 1) (Qko b l) else Qko b l k
noncomputable def Qf5 : Sum := λ c H next as =>
 match as with
 | [.str s, .int .u8 (.lit (.ofNat b))] => match Q63 s with
  | some l => bif Nat.ble b 255 then QC (Qko b l 0) λ i => .ok ⟨.int .i64 (.lit (.ofNat i)), H, next, c⟩ else .fail
  | none => .fail
 | _ => .fail
theorem Q92 {b : Nat} (hb : b <= 255) : ∀ (l : List Nat) (k : Nat), Qko b l k = k + ((l.map UInt8.ofNat).filter (. == UInt8.ofNat b)).length
 | [], k => by simp [Qko]
 | n :: l, k => by
  have e : (UInt8.ofNat n == UInt8.ofNat b) = Nat.beq (n % 256) b := by
   rw [Bool.eq_iff_iff, beq_iff_eq, Nat.beq_eq]
   rw [<- UInt8.toNat_inj]
   simp only [UInt8.toNat_ofNat']
   omega
  unfold Qko
  simp only [List.map_cons, List.filter_cons, e]
  cases Nat.beq (n % 256) b with
  | true => simp only [cond_true, sNat_eq, Q92 hb l, if_true, List.length_cons]; omega
  | false => simp only [cond_false, Q92 hb l, Bool.false_eq_true, if_false]
theorem Qf4 {P : Program} {G : Env} {n0 : Nat} {f : FuncId}
 (h : ∀ (args : Array Value) (w : World), (callFunc f args).run P w = ((Extern.BytealgCount.count args).run P w).andThen λ v w' => .ok (.value v) w') : Qfv P G n0 f Qf5 := by
 intro c X H next w args vs r hr hc hg hH h0 hfr hargs
 unfold Qf5 at hr
 split at hr
 . rename_i s b
   split at hr
   . rename_i l hl
     cases hb : Nat.ble b 255 with
     | false => rw [hb] at hr; cases hr
     | true =>
      rw [hb] at hr
      simp only [cond_true, sNat_eq] at hr
      cases hr
      obtain ⟨u, vs', e1, g1, g2⟩ := Q8.1 hargs
      obtain ⟨v, vs'', rfl, g3, g4⟩ := Q8.1 g2
      have := rels_nil.1 g4
      subst this
      simp only [AV.rel] at g1 g3
      obtain ⟨-, rfl⟩ := g1
      obtain ⟨-, rfl⟩ := g3
      have hvs : vs = #[.string ⟨(S.bytes X.O s).toArray⟩, .int .u8 (b : Int)] := by rw [<- Array.toList_inj]; exact e1
      subst hvs
      have hrun : (callFunc f #[.string ⟨(S.bytes X.O s).toArray⟩, .int .u8 (b : Int)]).run P w = .ok (.value (.int .i64 (Qko b l 0 : Nat))) w := by
       rw [h, Lib.run_countString, JB hl]
       have e : ((b : Int).toNat.toUInt8) = UInt8.ofNat b := by simp
       rw [e, Q92 (by simpa using hb)]
       simp [Lib.countByte, List.count_eq_length_filter]
      exact ⟨X, _, w, hrun, Ext.le.refl X, by simp only [AV.rel]; exact ⟨trivial, rfl⟩, hH, Below.refl _ _, λ b hb _ => ⟨hb, rfl⟩, Nat.le_refl _, hfr, hc⟩
   . cases hr
 . cases hr
end Go.Ax
namespace Go.Ax
open Go.RowKit
def Q89 : List (Nat × Nat) -> Nat -> Nat
 | [], b => b
 | p :: l, b => bif Nat.beq p.1 b then p.2 else Q89 l b
theorem Q9t {n : Nat} : ∀ {l : List (Nat × Nat)}, l.all (λ p => Nat.ble n p.1) = true -> ∀ {b : Nat}, b < n -> Q89 l b = b
 | [], _, _, _ => rfl
 | p :: l, h, b, hb => by
  simp only [List.all_cons, Bool.and_eq_true, Nat.ble_eq] at h
  simp only [Q89]
  rw [show Nat.beq p.1 b = false from by rw [Bool.eq_false_iff]; intro e; rw [Nat.beq_eq] at e; omega]
  exact Q9t h.2 hb
structure Yp (U : Sb) (vs : List Nat) (K : Nat -> Bool) (π : Nat -> Nat) (X X' : Ext) : Prop where
 letters : ∀ i ∈ vs, X'.dom i /\ X'.O.int i = (U.at i).den X.O /\ X'.O.str i = X.O.str i
 kept : ∀ b, K b = true -> X'.V b = X.V (π b)
theorem Yp.cast {U : Sb} {vs : List Nat} {K : Nat -> Bool} {π : Nat -> Nat} {X X' : Ext} (h : Yp U vs K π X X') : Cast U vs (λ _ => false) X X' := ⟨h.letters, λ _ h => by cases h⟩
mutual
noncomputable def rkA (U : Sb) (vs : List Nat) (K : Nat -> Bool) (π : Nat -> Nat) (a a' : AV) : Bool :=
 match a with
 | .ptr b o => match a' with
  | .ptr b' o' => Nat.beq b (π b') && (Nat.beq o o' && K b')
  | a' => YS U vs (λ _ => false) (.ptr b o) a'
 | .slice b o n c s x => match a' with
  | .slice b' o' n' c' s' x' => Nat.beq b (π b') && (Nat.beq o o' && (Nat.beq n n' && (Nat.beq c c' && (Nat.beq s s' && (x == x' && K b')))))
  | a' => YS U vs (λ _ => false) (.slice b o n c s x) a'
 | .map r => match a' with
  | .map r' => Nat.beq r (π r') && K r'
  | a' => YS U vs (λ _ => false) (.map r) a'
 | .wslice b o n s l => match a' with
  | .wslice b' o' n' s' l' => Nat.beq b (π b') && (Nat.beq o o' && (Nat.beq n n' && (Nat.beq s s' && (K b' && Qhs U vs (.var l) (.var l')))))
  | a' => YS U vs (λ _ => false) (.wslice b o n s l) a'
 | .func f x c => match a' with
  | .func f' x' c' => Nat.beq f f' && (rkL U vs K π x x' && rkL U vs K π c c')
  | a' => YS U vs (λ _ => false) (.func f x c) a'
 | .iface t x => match a' with
  | .iface t' x' => Nat.beq t t' && rkA U vs K π x x'
  | a' => YS U vs (λ _ => false) (.iface t x) a'
 | .yield b => match a' with
  | .yield b' => Nat.beq b (π b') && K b'
  | a' => YS U vs (λ _ => false) (.yield b) a'
 | .agg l => match a' with
  | .agg l' => rkL U vs K π l l'
  | a' => YS U vs (λ _ => false) (.agg l) a'
 | .tuple l => match a' with
  | .tuple l' => rkL U vs K π l l'
  | a' => YS U vs (λ _ => false) (.tuple l) a'
 | a => YS U vs (λ _ => false) a a'
noncomputable def rkL (U : Sb) (vs : List Nat) (K : Nat -> Bool) (π : Nat -> Nat) (l l' : List AV) : Bool :=
 match l with
 | [] => match l' with
  | [] => true
  | _ => false
 | a :: l => match l' with
  | [] => false
  | a' :: l' => rkA U vs K π a a' && rkL U vs K π l l'
end
section
variable {U : Sb} {vs : List Nat} {K : Nat -> Bool} {π : Nat -> Nat} {X X' : Ext}
mutual
theorem ZT (hc : Yp U vs K π X X') : ∀ {a a' : AV} {v : Value}, rkA U vs K π a a' = true -> a.rel X v -> a'.rel X' v
 | .ptr b o, a', v, h, r => by
  cases a' <;> simp only [rkA] at h <;> (try exact Qn hc.cast h r)
  simp only [Bool.and_eq_true, Nat.beq_eq] at h
  obtain ⟨rfl, rfl, hk⟩ := h
  simp only [AV.rel] at r ⊢
  rw [hc.kept _ hk]
  exact r
 | .slice b o n c s x, a', v, h, r => by
  cases a' <;> simp only [rkA] at h <;> (try exact Qn hc.cast h r)
  simp only [Bool.and_eq_true, Nat.beq_eq, beq_iff_eq] at h
  obtain ⟨rfl, rfl, rfl, rfl, rfl, rfl, hk⟩ := h
  simp only [AV.rel] at r ⊢
  rw [hc.kept _ hk]
  exact r
 | .map q, a', v, h, r => by
  cases a' <;> simp only [rkA] at h <;> (try exact Qn hc.cast h r)
  simp only [Bool.and_eq_true, Nat.beq_eq] at h
  obtain ⟨rfl, hk⟩ := h
  simp only [AV.rel] at r ⊢
  rw [hc.kept _ hk]
  exact r
 | .wslice b o n s l, a', v, h, r => by
  cases a' <;> simp only [rkA] at h <;> (try exact Qn hc.cast h r)
  simp only [Bool.and_eq_true, Nat.beq_eq] at h
  obtain ⟨rfl, rfl, rfl, rfl, hk, hl⟩ := h
  simp only [AV.rel] at r ⊢
  rw [hc.kept _ hk]
  obtain ⟨p, len, c, h1, h2, h3, h4, h5, h6, h7⟩ := r
  obtain ⟨k1, k2⟩ := ZO hc.cast hl
  exact ⟨p, len, c, h1, h2, h3, h4, h5, k1, k2.symm.trans h7⟩
 | .func f a c, a', v, h, r => by
  cases a' <;> simp only [rkA] at h <;> (try exact Qn hc.cast h r)
  simp only [Bool.and_eq_true, Nat.beq_eq] at h
  obtain ⟨rfl, h1, h2⟩ := h
  simp only [AV.rel] at r ⊢
  obtain ⟨x, y, e, r1, r2⟩ := r
  exact ⟨x, y, e, Jz hc h1 r1, Jz hc h2 r2⟩
 | .iface t a, a', v, h, r => by
  cases a' <;> simp only [rkA] at h <;> (try exact Qn hc.cast h r)
  simp only [Bool.and_eq_true, Nat.beq_eq] at h
  obtain ⟨rfl, h1⟩ := h
  simp only [AV.rel] at r ⊢
  obtain ⟨u, e, r1⟩ := r
  exact ⟨u, e, ZT hc h1 r1⟩
 | .agg l, a', v, h, r => by
  cases a' <;> simp only [rkA] at h <;> (try exact Qn hc.cast h r)
  simp only [AV.rel] at r ⊢
  obtain ⟨u, e, r1⟩ := r
  exact ⟨u, e, Jz hc h r1⟩
 | .tuple l, a', v, h, r => by
  cases a' <;> simp only [rkA] at h <;> (try exact Qn hc.cast h r)
  simp only [AV.rel] at r ⊢
  obtain ⟨u, e, r1⟩ := r
  exact ⟨u, e, Jz hc h r1⟩
 | .yield b, a', v, h, r => by
  cases a' <;> simp only [rkA] at h <;> (try exact Qn hc.cast h r)
  simp only [Bool.and_eq_true, Nat.beq_eq] at h
  obtain ⟨rfl, hk⟩ := h
  simp only [AV.rel] at r ⊢
  rw [hc.kept _ hk]
  exact r
 | .bool _, a', v, h, r | .int _ _, a', v, h, r | .str _, a', v, h, r | .sstr _, a', v, h, r | .nilptr, a', v, h, r | .nilslice, a', v, h, r | .nilmap, a', v, h, r | .nilFunc, a', v, h, r | .nilIface, a', v, h, r | .any, a', v, h, r | .top, a', v, h, r => by
  simp only [rkA] at h; exact Qn hc.cast h r
theorem Jz (hc : Yp U vs K π X X') : ∀ {l l' : List AV} {us : List Value}, rkL U vs K π l l' = true -> AV.QI X l us -> AV.QI X' l' us
 | [], l', us, h, r => by cases l' <;> simp only [rkL, Bool.false_eq_true] at h; rw [rels_nil] at r ⊢; exact r
 | a :: l, l', us, h, r => by
  cases l' <;> simp only [rkL, Bool.false_eq_true, Bool.and_eq_true] at h
  obtain ⟨v, us', rfl, r1, r2⟩ := Q8.1 r
  rw [rels_cons_cons]
  exact ⟨ZT hc h.1 r1, Jz hc h.2 r2⟩
end
noncomputable def rkM (U : Sb) (vs : List Nat) (K : Nat -> Bool) (π : Nat -> Nat) : List (AV × AV × Nat) -> List (AV × AV × Nat) -> Bool
 | [], [] => true
 | a :: l, b :: l' => rkA U vs K π a.1 b.1 && (rkA U vs K π a.2.1 b.2.1 && (Nat.beq a.2.2 b.2.2 && rkM U vs K π l l'))
 | _, _ => false
theorem Q5q (hc : Yp U vs K π X X') : ∀ {l l' : List (AV × AV × Nat)} {es : List MapEntry}, rkM U vs K π l l' = true -> Q9 X l es -> Q9 X' l' es
 | [], l', es, h, r => by cases l' <;> simp only [rkM, Bool.false_eq_true] at h; exact r
 | a :: l, l', es, h, r => by
  cases l' <;> simp only [rkM, Bool.false_eq_true, Bool.and_eq_true, Nat.beq_eq] at h
  obtain ⟨e, es', rfl, r1, r2, r3, r4⟩ := r
  exact ⟨e, es', rfl, ZT hc h.1 r1, ZT hc h.2.1 r2, by rw [r3, h.2.2.1], Q5q hc h.2.2.2 r4⟩
noncomputable def rkP (U : Sb) (vs : List Nat) (K : Nat -> Bool) (π : Nat -> Nat) : List (AV × AV) -> List (AV × AV) -> Bool
 | [], [] => true
 | a :: l, b :: l' => rkA U vs K π a.1 b.1 && (rkA U vs K π a.2 b.2 && rkP U vs K π l l')
 | _, _ => false
theorem Q5p (hc : Yp U vs K π X X') : ∀ {l l' : List (AV × AV)} {es : List MapEntry}, rkP U vs K π l l' = true -> ZQ X l es -> ZQ X' l' es
 | [], l', es, h, r => by cases l' <;> simp only [rkP, Bool.false_eq_true] at h; exact r
 | a :: l, l', es, h, r => by
  cases l' <;> simp only [rkP, Bool.false_eq_true, Bool.and_eq_true] at h
  obtain ⟨e, es', rfl, r1, r2, r4⟩ := r
  exact ⟨e, es', rfl, ZT hc h.1 r1, ZT hc h.2.1 r2, Q5p hc h.2.2 r4⟩
noncomputable def rkO (U : Sb) (vs : List Nat) (K : Nat -> Bool) (π : Nat -> Nat) : Q6 -> Q6 -> Bool
 | .cells cs el ex pl ro, .cells cs' el' ex' pl' ro' => Nat.beq el el' && (ex == ex' && (pl == pl' && (ro == ro' && rkL U vs K π cs cs')))
 | .map es c, .map es' c' => Nat.beq c c' && rkM U vs K π es es'
 | .lmap es, .lmap es' => rkP U vs K π es es'
 | .map [] _, .lmap [] => true
 | _, _ => false
theorem Q2b {l l' : List AV} (h : rkL U vs K π l l' = true) : l'.length = l.length := by
 induction l generalizing l' with
 | nil => cases l' <;> simp [rkL] at h; rfl
 | cons a l ih =>
  cases l' with
  | nil => simp [rkL] at h
  | cons a' l' => simp only [rkL, Bool.and_eq_true] at h; simp [ih h.2]
theorem Qjd {l l' : List AV} (h : rkL U vs K π l l' = true) {i : Nat} {a' : AV} (e : l'[i]? = some a') : ∃ a, l[i]? = some a /\ rkA U vs K π a a' = true := by
 induction l generalizing l' i with
 | nil => cases l' <;> simp [rkL] at h; simp at e
 | cons a l ih =>
  cases l' with
  | nil => simp [rkL] at h
  | cons b l' =>
   simp only [rkL, Bool.and_eq_true] at h
   cases i with
   | zero => simp at e; subst e; exact ⟨a, rfl, h.1⟩
   | succ i => simpa using ih h.2 (by simpa using e)
theorem zx (hc : Yp U vs K π X X') {o o' : Q6} {p : Place} {ob : Option Obj} (h : rkO U vs K π o o' = true) (r : zX X o p ob) : zX X' o' p ob /\ o'.live = o.live /\ o'.rw = o.rw := by
 unfold rkO at h
 split at h <;> (try simp only [Bool.false_eq_true, Bool.and_eq_true, Nat.beq_eq, beq_iff_eq] at h)
 . obtain ⟨rfl, rfl, rfl, rfl, h⟩ := h
   obtain ⟨c, fr, h1, h2, h3, h4, h5, h6⟩ := r
   refine ⟨⟨c, fr, h1, h2, by rw [Q2b h]; exact h3, by rw [Q2b h]; exact h4, λ i a hi => ?_, h6⟩, rfl, rfl⟩
   obtain ⟨b, hb, hr⟩ := Qjd h hi
   obtain ⟨v, hv, r1⟩ := h5 i b hb
   exact ⟨v, hv, ZT hc hr r1⟩
 . obtain ⟨rfl, h⟩ := h
   obtain ⟨es', h1, h2⟩ := r
   exact ⟨⟨es', h1, Q5q hc h h2⟩, rfl, rfl⟩
 . obtain ⟨es', cl, l, h1, h2, h3⟩ := r
   exact ⟨⟨es', cl, l, h1, Q5p hc h h2, h3⟩, rfl, rfl⟩
 . obtain ⟨es', h1, h2⟩ := r
   exact ⟨⟨es', _, [], h1, rfl, by rw [h2]⟩, rfl, rfl⟩
theorem Q9v {o o' : Q6} (h : rkO U vs K π o o' = true) : o'.Q56 = o.Q56 := by
 unfold rkO at h
 split at h <;> (try simp only [Bool.false_eq_true, Bool.and_eq_true, Nat.beq_eq, beq_iff_eq] at h)
 . obtain ⟨-, -, rfl, rfl, -⟩ := h; rfl
 all_goals rfl
noncomputable def rkHo (U : Sb) (vs : List Nat) (K : Nat -> Bool) (π : Nat -> Nat) (x : Option Q6) (o' : Q6) : Bool :=
 match x with
 | some o => rkO U vs K π o o'
 | none => false
noncomputable def rkH (U : Sb) (vs : List Nat) (K : Nat -> Bool) (π : Nat -> Nat) (H : Tr Q6) : List (Nat × Q6) -> Bool
 | [] => true
 | e :: l => K e.1 && (rkHo U vs K π (H.get (π e.1)) e.2 && (l.all (λ f => !Nat.beq (π e.1) (π f.1)) && rkH U vs K π H l))
theorem Qdh {H : Tr Q6} : ∀ {l : List (Nat × Q6)}, rkH U vs K π H l = true -> ∀ e ∈ l, K e.1 = true /\ ∃ o, H.get (π e.1) = some o /\ rkO U vs K π o e.2 = true
 | [], _, e, he => by cases he
 | a :: l, h, e, he => by
  simp only [rkH, Bool.and_eq_true] at h
  rcases List.mem_cons.1 he with rfl | he
  . refine ⟨h.1, ?_⟩
    have h2 := h.2.1
    unfold rkHo at h2
    split at h2
    . rename_i o ho; exact ⟨o, ho, h2⟩
    . cases h2
  . exact Qdh h.2.2.2 e he
theorem Qdi {H : Tr Q6} : ∀ {l : List (Nat × Q6)}, rkH U vs K π H l = true -> ∀ e ∈ l, ∀ f ∈ l, π e.1 = π f.1 -> e.1 = f.1
 | [], _, e, he, _, _, _ => by cases he
 | a :: l, h, e, he, f, hf, heq => by
  simp only [rkH, Bool.and_eq_true, List.all_eq_true, Bool.not_eq_true'] at h
  have no : ∀ g ∈ l, π a.1 ≠ π g.1 := λ g hg e => by
   have := h.2.2.1 g hg
   rw [e] at this
   simp at this
  rcases List.mem_cons.1 he with e1 | e1 <;> rcases List.mem_cons.1 hf with f1 | f1
  . rw [e1, f1]
  . rw [e1] at heq; exact absurd heq (no f f1)
  . rw [f1] at heq; exact absurd heq.symm (no e e1)
  . exact Qdi h.2.2.2 e e1 f f1 heq
theorem Qo.Yg {n0 : Nat} {H : Tr Q6} {w : World} {l : List (Nat × Q6)} {room : Nat} (h : Qo X n0 H w) (hc : Yp U vs K π X X') (hlt : ∀ b p, X'.V b = some p -> p.blk < w.heap.size) (hk : rkH U vs K π H l = true) : Qo X' n0 (Q55 room l) w := by
 have base : ∀ b o' p, (Q55 room l).get b = some o' -> X'.V b = some p -> X.V (π b) = some p /\ ∃ o, H.get (π b) = some o /\ rkO U vs K π o o' = true := λ b o' p hb hp => by
  obtain ⟨k1, o, k2, k3⟩ := Qdh hk _ (JQ hb)
  exact ⟨by rw [<- hc.kept b k1]; exact hp, o, k2, k3⟩
 refine ⟨λ b o' p hb hp => ?_, λ b b' o1 o2 p p' hb hb' l1 l2 hp hp' e => ?_, hlt, λ b o' p hb hr hp => ?_⟩
 . obtain ⟨g1, o, g2, g3⟩ := base b o' p hb hp
   exact (zx hc g3 (h.obj _ o p g2 g1)).1
 . obtain ⟨g1, o, g2, g3⟩ := base b o1 p hb hp
   obtain ⟨g4, q, g5, g6⟩ := base b' o2 p' hb' hp'
   have e1 := (zx hc g3 (h.obj _ o p g2 g1)).2.1
   exact Qdi hk _ (JQ hb) _ (JQ hb') (h.inj _ _ o q p p' g2 g5 (by rw [<- e1]; exact l1) (by rw [<- Q9v g6]; exact l2) g1 g4 e)
 . obtain ⟨g1, o, g2, g3⟩ := base b o' p hb hp
   have e1 := (zx hc g3 (h.obj _ o p g2 g1)).2.2
   exact h.own _ o p g2 (by rw [<- e1]; exact hr) g1
noncomputable def Qjc (U : Sb) (vs : List Nat) (K : Nat -> Bool) (π : Nat -> Nat) (tm : Tr AV) : Nat -> List AV -> Bool
 | _, [] => true
 | i, a :: l => rkA U vs K π ((tm.get i).getD .undef) a && QC (i + 1) λ j => Qjc U vs K π tm j l
theorem Q9u {tm : Tr AV} : ∀ {l : List AV} {i t : Nat} {a : AV}, Qjc U vs K π tm i l = true -> l[t]? = some a -> rkA U vs K π ((tm.get (i + t)).getD .undef) a = true
 | [], i, t, a, _, h => by simp at h
 | b :: l, i, t, a, h, e => by
  simp only [Qjc, sNat_eq, Bool.and_eq_true] at h
  cases t with
  | zero => simp at e; subst e; simpa using h.1
  | succ t =>
   have := Q9u h.2 (t := t) (by simpa using e)
   rw [show i + (t + 1) = i + 1 + t by omega]
   exact this
theorem QB.Yg {nt : Nat} {tm : Tr AV} {tmps : Array Value} {l : List AV} (hc : Yp U vs K π X X') (h : QB X nt tm tmps) (hk : Qjc U vs K π tm 0 l = true) (hl : l.length = nt) : QB X' nt (setArgs 0 l (.sk nt)) tmps := by
 refine ⟨h.1, λ t => ?_⟩
 rw [J2 (X := X')]
 simp only [Nat.not_lt_zero, if_false, Nat.sub_zero]
 cases ht : l[t]? with
 | some a =>
  simp only [Option.getD_some]
  have := Q9u hk ht
  rw [Nat.zero_add] at this
  exact ZT hc this (h.2 t)
 | none =>
  have hge : nt <= t := by
   rw [<- hl]
   exact List.getElem?_eq_none_iff.1 ht
  have hu : tmps.getD t undef = undef := by
   have : tmps[t]? = none := Array.getElem?_eq_none_iff.2 (by rw [h.1]; exact hge)
   simp [Array.getD_eq_getD_getElem?, this]
  rw [hu]
  simp
  exact Qu X'
end
def Q1b (U : Sb) (vs : List Nat) (K : Nat -> Bool) (π : Nat -> Nat) (X : Ext) : Ext :=
 ⟨λ b => if K b = true then X.V (π b) else if b ∈ vs then X.V 0 else none, ⟨λ i => if i ∈ vs then (U.at i).den X.O else 0, X.O.str⟩⟩
section
variable {P : Program} {G : Env} {n0 : Nat} {w0 : World} {cs0 : List Frame}
end
end Go.Ax
namespace Go.Ax
open Go.RowKit
section
variable {P : Program} {G : Env} {n0 : Nat} {w0 : World} {cs0 : List Frame}
end
end Go.Ax
namespace Go.Ax
open Go.RowKit
end Go.Ax
namespace Go.Ax
open Go.RowKit
noncomputable def Qke (U : Sb) (vs : List Nat) (K : Nat -> Bool) (π : Nat -> Nat) (a : Qg) (f : Fr) : Bool :=
 !a.ret && (Qaj a.defers && (Qjs a.ro && (Qn0 a.cur && (a.todo.all Q2c && (Qjc U vs K π a.tm 0 f.tms && Nat.beq f.tms.length a.nt)))))
noncomputable def Qep (U : Sb) (vs : List Nat) (K : Nat -> Bool) (π : Nat -> Nat) : List Qg -> List Fr -> Bool
 | [], [] => true
 | a :: as, f :: fs => Qke U vs K π a f && Qep U vs K π as fs
 | _, _ => false
section
variable {P : Program} {G : Env} {n0 : Nat} {H H' : Tr Q6} {X X' : Ext} {U : Sb} {vs : List Nat} {K : Nat -> Bool} {π : Nat -> Nat} {a : Qg} {t : Fr} {f : Frame}
theorem Q6j (hk : Qke U vs K π a t = true) (h1 : a.fn = t.fn) (h : jI P X a f) : jI P X' t.af f := by
 simp only [Qke, Bool.and_eq_true, Bool.not_eq_true'] at hk
 obtain ⟨b1, b2, b3, -⟩ := hk
 have hdef : a.defers = [] := by cases hh : a.defers with
  | nil => rfl
  | cons a l => rw [hh] at b2; cases b2
 have hro : a.ro = none := by cases hh : a.ro with
  | none => rfl
  | some a => rw [hh] at b3; cases b3
 refine ⟨h.fn.trans h1, h.kind, ?_, ?_⟩
 . have := h.ro
   rw [hro] at this
   exact this
 . have := h.defers
   rw [hdef] at this
   exact this
theorem Q7r.Yg (hc : Yp U vs K π X X') (hk : Qke U vs K π a t = true) (b4 : qp a.cur = true) (h1 : a.fn = t.fn) (h2 : a.nt = t.nt) (h3 : a.cur = t.cur) (h4 : a.todo = t.todo) (h : Q7r P G X n0 H a f) : Q7r P G X' n0 H' t.af f /\ Qm t.af = [] := by
 have hb := Q6j (X' := X') hk h1 h.1
 simp only [Qke, Bool.and_eq_true, Bool.not_eq_true', Nat.beq_eq] at hk
 obtain ⟨b1, -, -, -, b5, b6, b7⟩ := hk
 obtain ⟨-, h'⟩ := h
 rw [b1] at h'
 obtain ⟨hm, is, his, hcur'⟩ := h'
 have htm : ∀ {tmps}, QB X a.nt a.tm tmps -> QB X' t.af.nt t.af.tm tmps := λ h => by
  have := QB.Yg hc h b6 b7
  rw [h2] at this
  exact this
 have hids : Qm t.af = [] := by
  show Qm t.af = []
  unfold Qm
  show (match t.cur with | .draw _ _ _ pa => pa.map (·.2) | _ => []) = []
  rw [<- h3]
  cases hcc : a.cur with
  | draw ops done rest pa => rw [hcc] at b4; cases b4
  | _ => rfl
 refine ⟨⟨hb, hm, is, ?_, ?_⟩, hids⟩
 . show Y8 X' t.todo is
   rw [<- h4]
   exact ZJ b5 his
 . show match t.cur with
    | .none => _
    | .reg ops k rest => _
    | .draw ops done rest pa => _
   rw [<- h3]
   cases hcc : a.cur with
   | none => rw [hcc] at hcur'; exact ⟨hcur'.1, htm hcur'.2⟩
   | reg ops k rest => rw [hcc] at hcur'; exact ⟨hcur'.1, hcur'.2.1, htm hcur'.2.2⟩
   | draw ops done rest pa => rw [hcc] at b4; cases b4
theorem Q1s.Yg (hc : Yp U vs K π X X') (hk : Qke U vs K π a t = true) (h1 : a.fn = t.fn) (h2 : a.nt = t.nt) (h3 : a.cur = t.cur) (h4 : a.todo = t.todo) (h : Q1s P G X n0 H a f) : Q1s P G X' n0 H' t.af f /\ Qm t.af = [] := by
 have hb := Q6j (X' := X') hk h1 h.1
 simp only [Qke, Bool.and_eq_true, Bool.not_eq_true', Nat.beq_eq] at hk
 obtain ⟨b1, -, -, b4, b5, b6, b7⟩ := hk
 obtain ⟨-, -, hm, is, his, hcur'⟩ := h
 have htm : ∀ {tmps}, QB X a.nt a.tm tmps -> QB X' t.af.nt t.af.tm tmps := λ h => by
  have := QB.Yg hc h b6 b7
  rw [h2] at this
  exact this
 have hids : Qm t.af = [] := by
  unfold Qm
  show (match t.cur with | .draw _ _ _ pa => pa.map (·.2) | _ => []) = []
  rw [<- h3]
  cases hcc : a.cur with
  | draw ops done rest pa =>
   rw [hcc] at b4
   obtain ⟨-, -, -, -, rfl, -⟩ := zN b4
   rfl
  | _ => rfl
 refine ⟨⟨hb, rfl, hm, is, ?_, ?_⟩, hids⟩
 . show Y8 X' t.todo is
   rw [<- h4]
   exact ZJ b5 his
 . show match t.cur with
    | .none => _
    | .reg ops k rest => _
    | .draw ops done rest pa => _
   rw [<- h3]
   cases hcc : a.cur with
   | none => rw [hcc] at hcur'; exact ⟨hcur'.1, htm hcur'.2⟩
   | reg ops k rest => rw [hcc] at hcur'; exact ⟨hcur'.1, hcur'.2.1, hcur'.2.2.1, htm hcur'.2.2.2⟩
   | draw ops done rest pa =>
    rw [hcc] at hcur' b4
    obtain ⟨A, fuel, tp, listed, i, rc, rest', o, g1, g2, g3, g4, g5, g6, g7, g8, D⟩ := hcur'
    subst g2
    have hall : ∀ j, done.testBit j = true -> Lst listed j := λ j hj => by
     obtain ⟨i', rc', r', e, -, hl⟩ := zN b4
     cases e
     refine D.before g3 g8 ?_
     have : (Nat.land done (((Q4n ops 0 (.sk ops.length)).get i).getD 0)).testBit j = true := by rw [hl]; exact hj
     change (done &&& _).testBit j = true at this
     rw [Nat.testBit_and, Bool.and_eq_true] at this
     exact this.2
    have htm' : QB X' t.af.nt t.af.tm f.tmps := htm ⟨D.tmr.1, λ u => D.tmr.2 u λ j oj hj hl _ => absurd (hall j hj) hl⟩
    exact ⟨A, fuel, tp, listed, i, rc, rest', o, g1, rfl, g3, g4, g5, g6, g7, g8, D.size, D.sub, D.closed, D.plan, D.light, D.looks, D.inRange, ⟨htm'.1, λ u _ => htm'.2 u⟩, λ j oj hj hl _ => absurd (hall j hj) hl⟩
end
theorem QU.Yg {P : Program} {G : Env} {n0 : Nat} {H H' : Tr Q6} {X X' : Ext} {U : Sb} {vs : List Nat} {K : Nat -> Bool} {π : Nat -> Nat} (hc : Yp U vs K π X X') : ∀ {as : List Qg} {ts : List Fr} {cs : List Frame}, Qep U vs K π as ts = true -> as.map sk4 = ts.map Fr.sk4 -> QU P G X n0 H as cs -> QU P G X' n0 H' (ts.map Fr.af) cs /\ (ts.map Fr.af).flatMap Qm = []
 | [], ts, cs, hk, e, h => by
  cases ts with
  | nil => exact ⟨h, rfl⟩
  | cons t ts => simp [Qep] at hk
 | a :: as, ts, cs, hk, e, h => by
  cases ts with
  | nil => simp [Qep] at hk
  | cons t ts =>
   simp only [Qep, Bool.and_eq_true] at hk
   simp only [List.map_cons, List.cons.injEq] at e
   obtain ⟨e1, e2⟩ := e
   simp only [sk4, Fr.sk4, Prod.mk.injEq] at e1
   obtain ⟨f, fs, rfl, h1, h2⟩ := h
   obtain ⟨k1, k2⟩ := Q1s.Yg (H' := H') hc hk.1 e1.1 e1.2.1 e1.2.2.1 e1.2.2.2 h1
   obtain ⟨k3, k4⟩ := QU.Yg hc hk.2 e2 h2
   refine ⟨⟨f, fs, rfl, k1, k3⟩, ?_⟩
   simp only [List.map_cons, List.flatMap_cons, k2, k4, List.append_nil]
section
variable {P : Program} {G : Env} {n0 : Nat} {w0 : World} {cs0 : List Frame}
end
end Go.Ax
namespace Go.Ax
open Go.RowKit
structure FrG where
 fr : Fr
 df : List ADf
 ro : Option Nat
noncomputable def FrG.af (f : FrG) : Qg := { f.fr.af with defers := f.df, ro := f.ro }
structure LpG where
 st : LoopState
 pending : Option Code
 fn : Nat
 nt : Nat
 tms : List AV
 params : Array Tmp
 assign : Code
 body : Code
 d : Nat
abbrev Qnu := LoopState × Option Code × Nat × Nat × Array Tmp × Code × Code
abbrev LpG.key (g : LpG) : Qnu := (g.st, g.pending, g.fn, g.nt, g.params, g.assign, g.body)
inductive ObG where
 | o (o : Q6)
 | lp (g : LpG)
 | df
noncomputable def ObG.ob : ObG -> Q6
 | .o q => q
 | .lp g => .loop g.st g.pending g.fn g.nt (setArgs 0 g.tms (.sk g.nt)) g.params g.assign g.body g.d
 | .df => .defs
structure StG where
 fr : FrG
 cs : List FrG
 l : List (Nat × ObG)
 next : Nat
 fs : List Fact
 vs : List Nat
noncomputable def StG.am (t : StG) (room : Nat) : AM := ⟨t.fr.af, t.cs.map FrG.af, Q55 room (t.l.map λ q => (q.1, q.2.ob)), t.next, ⟨t.fs, t.vs⟩⟩
def erC : zY -> zY
 | .draw ops done rest _ => .draw ops done rest []
 | c => c
theorem Qc6 {c : zY} (h : qp c = true) : erC c = c := by cases c <;> first | rfl | (simp [qp] at h)
noncomputable def curG : zY -> Bool
 | .draw ops done rest _ => match rest with
  | (i, _) :: _ => Nat.beq (Nat.land done (((Q4n ops 0 (.sk ops.length)).get i).getD 0)) done
  | _ => false
 | _ => true
theorem Qey {ops : List Oper} {done : Nat} {rest : List (Nat × List Nat)} {pa : List (Nat × Nat)} (h : curG (.draw ops done rest pa) = true) : ∃ i rc rest', rest = (i, rc) :: rest' /\ Nat.land done (((Q4n ops 0 (.sk ops.length)).get i).getD 0) = done := by
 cases rest with
 | nil => simp [curG] at h
 | cons q r =>
  obtain ⟨i, rc⟩ := q
  exact ⟨i, rc, r, rfl, Nat.eq_of_beq_eq_true h⟩
def erI : Qj -> Qj
 | .inRangeFunc _ => .inRangeFunc 0
 | .endRangeFunc _ => .endRangeFunc 0
 | i => i
noncomputable def Qb6 (K : Nat -> Bool) (π : Nat -> Nat) : List Qj -> List Qj -> Bool
 | [], [] => true
 | a :: as, b :: bs => (match a with
  | .inRangeFunc l => (match b with | .inRangeFunc l' => Nat.beq l (π l') && K l' | _ => false)
  | .endRangeFunc l => (match b with | .endRangeFunc l' => Nat.beq l (π l') && K l' | _ => false)
  | _ => true) && Qb6 K π as bs
 | _, _ => false
noncomputable def dfB (K : Nat -> Bool) (π : Nat -> Nat) : List ADf -> List ADf -> Bool
 | [], [] => true
 | a :: as, b :: bs => (match a with
  | .mark r => (match b with | .mark r' => Nat.beq r (π r') && K r' | _ => false)
  | .nop f => (match b with | .nop f' => Nat.beq f f' | _ => false)) && dfB K π as bs
 | _, _ => false
noncomputable def roGB (K : Nat -> Bool) (π : Nat -> Nat) : Option Nat -> Option Nat -> Bool
 | none, none => true
 | some l, some l' => Nat.beq l (π l') && K l'
 | _, _ => false
noncomputable def frG (U : Sb) (vs : List Nat) (K : Nat -> Bool) (π : Nat -> Nat) (a : Qg) (f : FrG) : Bool :=
 !a.ret && (dfB K π a.defers f.df && (roGB K π a.ro f.ro && (curG a.cur && (Qb6 K π a.todo f.fr.todo && (Qjc U vs K π a.tm 0 f.fr.tms && Nat.beq f.fr.tms.length a.nt)))))
noncomputable def Qla (U : Sb) (vs : List Nat) (K : Nat -> Bool) (π : Nat -> Nat) : List Qg -> List FrG -> Bool
 | [], [] => true
 | a :: as, f :: fs => frG U vs K π a f && Qla U vs K π as fs
 | _, _ => false
noncomputable def rkG (U : Sb) (vs : List Nat) (K : Nat -> Bool) (π : Nat -> Nat) (o : Q6) : ObG -> Bool
 | .o o' => rkO U vs K π o o' || (match o, o' with | .pre s n el, .pre s' n' el' => Qir U vs (λ _ => false) (.pre s n el) (.pre s' n' el') | _, _ => false)
 | .lp g => (match o with
  | .loop _ _ _ nt tm _ _ _ d => Nat.beq d (π g.d) && (K g.d && (Qjc U vs K π tm 0 g.tms && Nat.beq g.tms.length nt))
  | _ => false)
 | .df => (match o with | .defs => true | _ => false)
def Ql8 : Option Q6 -> Option Qnu
 | some (.loop st p fn nt _ ps as bd _) => some (st, p, fn, nt, ps, as, bd)
 | _ => none
noncomputable def Q43 (H : Tr Q6) (π : Nat -> Nat) : List (Nat × ObG) -> List (Option Qnu)
 | [] => []
 | q :: l => match q.2 with
  | .lp _ => Ql8 (H.get (π q.1)) :: Q43 H π l
  | _ => Q43 H π l
def Q44 : List (Nat × ObG) -> List (Option Qnu)
 | [] => []
 | q :: l => match q.2 with
  | .lp g => some g.key :: Q44 l
  | _ => Q44 l
section
variable {P : Program} {G : Env} {n0 : Nat} {H H' : Tr Q6} {X X' : Ext} {U : Sb} {vs : List Nat} {K : Nat -> Bool} {π : Nat -> Nat}
theorem Q8o (hc : Yp U vs K π X X') : ∀ {as bs : List Qj} {is : List Item}, Qb6 K π as bs = true -> as.map erI = bs.map erI -> Y8 X as is -> Y8 X' bs is
 | [], bs, is, h, e, r => by
  cases bs with
  | nil => exact r
  | cons b bs => simp [Qb6] at h
 | a :: as, bs, is, h, e, ⟨i, is', e1, h1, h2⟩ => by
  cases bs with
  | nil => simp [Qb6] at h
  | cons b bs =>
   simp only [Qb6, Bool.and_eq_true] at h
   simp only [List.map_cons, List.cons.injEq] at e
   refine ⟨i, is', e1, ?_, Q8o hc h.2 e.2 h2⟩
   obtain ⟨h3, -⟩ := h
   obtain ⟨e3, -⟩ := e
   cases a <;> cases b <;> simp only [erI, Qj.code.injEq, Qj.inBlock.injEq, Qj.inLoop.injEq, Qj.inScope.injEq, reduceCtorEq] at e3 <;> first
    | (subst e3; exact h1)
    | exact h1
    | (simp only [Bool.and_eq_true, Nat.beq_eq] at h3
       obtain ⟨rfl, hk⟩ := h3
       simp only [Qfy] at h1 ⊢
       obtain ⟨p, hp, e4⟩ := h1
       exact ⟨p, by rw [hc.kept _ hk]; exact hp, e4⟩)
theorem Q8z (hc : Yp U vs K π X X') : ∀ {as bs : List ADf} {ds : List Deferred}, dfB K π as bs = true -> Q16 P X as ds -> Q16 P X' bs ds
 | [], bs, ds, h, r => by
  cases bs with
  | nil => exact r
  | cons b bs => simp [dfB] at h
 | .mark r0 :: as, bs, ds, h, r => by
  cases bs with
  | nil => simp [dfB] at h
  | cons b bs =>
   simp only [dfB, Bool.and_eq_true] at h
   cases b with
   | mark r' =>
    obtain ⟨h1, h2⟩ := h
    simp only [Bool.and_eq_true, Nat.beq_eq] at h1
    obtain ⟨rfl, hk⟩ := h1
    obtain ⟨p, ds', e1, e2, e3⟩ := r
    exact ⟨p, ds', by rw [hc.kept _ hk]; exact e1, e2, Q8z hc h2 e3⟩
   | nop f => simp at h
 | .nop f :: as, bs, ds, h, r => by
  cases bs with
  | nil => simp [dfB] at h
  | cons b bs =>
   simp only [dfB, Bool.and_eq_true] at h
   cases b with
   | mark r' => simp at h
   | nop f' =>
    obtain ⟨h1, h2⟩ := h
    simp only [Nat.beq_eq] at h1
    subst h1
    obtain ⟨e0, cap, args, ds', e2, e3⟩ := r
    exact ⟨e0, cap, args, ds', e2, Q8z hc h2 e3⟩
variable {a : Qg} {t : FrG} {f : Frame}
theorem Qad (hc : Yp U vs K π X X') (hk : frG U vs K π a t = true) (h1 : a.fn = t.fr.fn) (h : jI P X a f) : jI P X' t.af f := by
 simp only [frG, Bool.and_eq_true, Bool.not_eq_true'] at hk
 obtain ⟨b1, b2, b3, -⟩ := hk
 refine ⟨h.fn.trans h1, h.kind, ?_, Q8z hc b2 h.defers⟩
 have := h.ro
 show match t.ro with
  | none => _
  | some l => _
 cases ha : a.ro with
 | none =>
  rw [ha] at this b3
  cases ht : t.ro with
  | none => exact this
  | some l => rw [ht] at b3; simp [roGB] at b3
 | some l =>
  rw [ha] at this b3
  cases ht : t.ro with
  | none => rw [ht] at b3; simp [roGB] at b3
  | some l' =>
   rw [ht] at b3
   simp only [roGB, Bool.and_eq_true, Nat.beq_eq] at b3
   obtain ⟨rfl, hk⟩ := b3
   obtain ⟨p, hp, e⟩ := this
   exact ⟨p, by rw [hc.kept _ hk]; exact hp, e⟩
theorem Q7r.JA (hc : Yp U vs K π X X') (hk : frG U vs K π a t = true) (b4 : qp a.cur = true) (h1 : a.fn = t.fr.fn) (h2 : a.nt = t.fr.nt) (h3 : erC a.cur = t.fr.cur) (h4 : a.todo.map erI = t.fr.todo.map erI) (h : Q7r P G X n0 H a f) : Q7r P G X' n0 H' t.af f /\ Qm t.af = [] := by
 rw [Qc6 b4] at h3
 have hb := Qad hc hk h1 h.1
 simp only [frG, Bool.and_eq_true, Bool.not_eq_true', Nat.beq_eq] at hk
 obtain ⟨b1, -, -, -, b5, b6, b7⟩ := hk
 obtain ⟨-, h'⟩ := h
 rw [b1] at h'
 obtain ⟨hm, is, his, hcur'⟩ := h'
 have htm : ∀ {tmps}, QB X a.nt a.tm tmps -> QB X' t.af.nt t.af.tm tmps := λ h => by
  have := QB.Yg hc h b6 b7
  rw [h2] at this
  exact this
 have hids : Qm t.af = [] := by
  show Qm t.af = []
  unfold Qm
  show (match t.fr.cur with | .draw _ _ _ pa => pa.map (·.2) | _ => []) = []
  rw [<- h3]
  cases hcc : a.cur with
  | draw ops done rest pa => rw [hcc] at b4; cases b4
  | _ => rfl
 refine ⟨⟨hb, hm, is, ?_, ?_⟩, hids⟩
 . show Y8 X' t.fr.todo is
   exact Q8o hc b5 h4 his
 . show match t.fr.cur with
    | .none => _
    | .reg ops k rest => _
    | .draw ops done rest pa => _
   rw [<- h3]
   cases hcc : a.cur with
   | none => rw [hcc] at hcur'; exact ⟨hcur'.1, htm hcur'.2⟩
   | reg ops k rest => rw [hcc] at hcur'; exact ⟨hcur'.1, hcur'.2.1, htm hcur'.2.2⟩
   | draw ops done rest pa => rw [hcc] at b4; cases b4
theorem Q1s.JA (hc : Yp U vs K π X X') (hk : frG U vs K π a t = true) (h1 : a.fn = t.fr.fn) (h2 : a.nt = t.fr.nt) (h3 : erC a.cur = t.fr.cur) (h4 : a.todo.map erI = t.fr.todo.map erI) (h : Q1s P G X n0 H a f) : Q1s P G X' n0 H' t.af f /\ Qm t.af = [] := by
 have hb := Qad hc hk h1 h.1
 simp only [frG, Bool.and_eq_true, Bool.not_eq_true', Nat.beq_eq] at hk
 obtain ⟨b1, -, -, b4, b5, b6, b7⟩ := hk
 obtain ⟨-, -, hm, is, his, hcur'⟩ := h
 have htm : ∀ {tmps}, QB X a.nt a.tm tmps -> QB X' t.af.nt t.af.tm tmps := λ h => by
  have := QB.Yg hc h b6 b7
  rw [h2] at this
  exact this
 have hids : Qm t.af = [] := by
  unfold Qm
  show (match t.fr.cur with | .draw _ _ _ pa => pa.map (·.2) | _ => []) = []
  rw [<- h3]
  cases hcc : a.cur with
  | draw ops done rest pa => rfl
  | _ => rfl
 refine ⟨⟨hb, rfl, hm, is, ?_, ?_⟩, hids⟩
 . show Y8 X' t.fr.todo is
   exact Q8o hc b5 h4 his
 . show match t.fr.cur with
    | .none => _
    | .reg ops k rest => _
    | .draw ops done rest pa => _
   rw [<- h3]
   cases hcc : a.cur with
   | none => rw [hcc] at hcur'; exact ⟨hcur'.1, htm hcur'.2⟩
   | reg ops k rest => rw [hcc] at hcur'; exact ⟨hcur'.1, hcur'.2.1, hcur'.2.2.1, htm hcur'.2.2.2⟩
   | draw ops done rest pa =>
    rw [hcc] at hcur' b4
    show ∃ (A : Array Oper) (fuel tp : Nat) (listed : Array Bool) (i : Nat) (rc : List Nat) (rest' : List (Nat × List Nat)) (o : Oper), _
    obtain ⟨A, fuel, tp, listed, i, rc, rest', o, g1, g2, g3, g4, g5, g6, g7, g8, D⟩ := hcur'
    subst g2
    have hall : ∀ j, done.testBit j = true -> Lst listed j := λ j hj => by
     obtain ⟨i', rc', r', e, hl⟩ := Qey b4
     cases e
     refine D.before g3 g8 ?_
     have : (Nat.land done (((Q4n ops 0 (.sk ops.length)).get i).getD 0)).testBit j = true := by rw [hl]; exact hj
     change (done &&& _).testBit j = true at this
     rw [Nat.testBit_and, Bool.and_eq_true] at this
     exact this.2
    have htm' : QB X' t.af.nt t.af.tm f.tmps := htm ⟨D.tmr.1, λ u => D.tmr.2 u λ j oj hj hl _ => absurd (hall j hj) hl⟩
    exact ⟨A, fuel, tp, listed, i, rc, rest', o, g1, rfl, g3, g4, g5, g6, g7, g8, D.size, D.sub, D.closed, D.plan, D.light, D.looks, D.inRange, ⟨htm'.1, λ u _ => htm'.2 u⟩, λ j oj hj hl _ => absurd (hall j hj) hl⟩
theorem Q06 (hc : Yp U vs K π X X') {o : Q6} {g : ObG} {p : Place} {ob : Option Obj} (h : rkG U vs K π o g = true) (hkey : ∀ q, g = .lp q -> Ql8 (some o) = some q.key) (r : zX X o p ob) : zX X' g.ob p ob /\ g.ob.live = o.live /\ g.ob.rw = o.rw := by
 cases g with
 | o o' =>
  simp only [rkG, Bool.or_eq_true] at h
  rcases h with h | h
  . exact zx hc h r
  . split at h
    . obtain ⟨k1, k2, k3⟩ := JY hc.cast h r
      exact ⟨k1, k2, k3⟩
    . cases h
 | lp g =>
  have hk := hkey g rfl
  simp only [rkG] at h
  split at h
  . simp only [Ql8, Option.some.injEq, LpG.key, Prod.mk.injEq] at hk
    obtain ⟨e1, e2, e3, e4, e5, e6, e7⟩ := hk
    subst e1 e2 e3 e4 e5 e6 e7
    simp only [Bool.and_eq_true, Nat.beq_eq] at h
    obtain ⟨rfl, hkd, h1, h2⟩ := h
    obtain ⟨tmps, d', k1, k2, q, k3, k4⟩ := r
    exact ⟨⟨tmps, d', k1, QB.Yg hc k2 h1 h2, q, by rw [hc.kept _ hkd]; exact k3, k4⟩, rfl, rfl⟩
  . cases h
 | df =>
  simp only [rkG] at h
  split at h
  . exact ⟨r, rfl, rfl⟩
  . cases h
theorem Qgj {o : Q6} {g : ObG} (h : rkG U vs K π o g = true) : g.ob.Q56 = o.Q56 := by
 cases g with
 | o o' =>
  simp only [rkG, Bool.or_eq_true] at h
  rcases h with h | h
  . exact Q9v h
  . split at h
    . exact Q6w h
    . cases h
 | lp g =>
  simp only [rkG] at h
  split at h
  . rfl
  . cases h
 | df =>
  simp only [rkG] at h
  split at h
  . rfl
  . cases h
noncomputable def Qly (U : Sb) (vs : List Nat) (K : Nat -> Bool) (π : Nat -> Nat) (x : Option Q6) (g : ObG) : Bool :=
 match x with
 | some o => rkG U vs K π o g
 | none => false
noncomputable def Qje (U : Sb) (vs : List Nat) (K : Nat -> Bool) (π : Nat -> Nat) (H : Tr Q6) : List (Nat × ObG) -> Bool
 | [] => true
 | e :: l => K e.1 && (Qly U vs K π (H.get (π e.1)) e.2 && (l.all (λ f => !Nat.beq (π e.1) (π f.1)) && Qje U vs K π H l))
theorem Q9w {H : Tr Q6} : ∀ {l : List (Nat × ObG)}, Qje U vs K π H l = true -> Q43 H π l = Q44 l -> ∀ e ∈ l, K e.1 = true /\ ∃ o, H.get (π e.1) = some o /\ rkG U vs K π o e.2 = true /\ ∀ q, e.2 = .lp q -> Ql8 (some o) = some q.key
 | [], _, _, e, he => by cases he
 | a :: l, h, hk, e, he => by
  simp only [Qje, Bool.and_eq_true] at h
  obtain ⟨b, g⟩ := a
  have hk2 : Q43 H π l = Q44 l /\ ∀ q, g = .lp q -> Ql8 (H.get (π b)) = some q.key := by
   cases g with
   | lp q0 =>
    simp only [Q43, Q44, List.cons.injEq] at hk
    exact ⟨hk.2, λ q e => by cases e; exact hk.1⟩
   | o o' => simp only [Q43, Q44] at hk; exact ⟨hk, λ q e => by cases e⟩
   | df => simp only [Q43, Q44] at hk; exact ⟨hk, λ q e => by cases e⟩
  rcases List.mem_cons.1 he with rfl | he
  . refine ⟨h.1, ?_⟩
    have h2 := h.2.1
    unfold Qly at h2
    split at h2
    . rename_i o ho; exact ⟨o, ho, h2, λ q e => by rw [<- ho]; exact hk2.2 q e⟩
    . cases h2
  . exact Q9w h.2.2.2 hk2.1 e he
theorem Q9x {H : Tr Q6} : ∀ {l : List (Nat × ObG)}, Qje U vs K π H l = true -> ∀ e ∈ l, ∀ f ∈ l, π e.1 = π f.1 -> e.1 = f.1
 | [], _, e, he, _, _, _ => by cases he
 | a :: l, h, e, he, f, hf, heq => by
  simp only [Qje, Bool.and_eq_true, List.all_eq_true, Bool.not_eq_true'] at h
  have no : ∀ g ∈ l, π a.1 ≠ π g.1 := λ g hg e => by
   have := h.2.2.1 g hg
   rw [e] at this
   simp at this
  rcases List.mem_cons.1 he with e1 | e1 <;> rcases List.mem_cons.1 hf with f1 | f1
  . rw [e1, f1]
  . rw [e1] at heq; exact absurd heq (no f f1)
  . rw [f1] at heq; exact absurd heq.symm (no e e1)
  . exact Q9x h.2.2.2 e e1 f f1 heq
theorem Qo.JA {w : World} {l : List (Nat × ObG)} {room : Nat} (h : Qo X n0 H w) (hc : Yp U vs K π X X') (hlt : ∀ b p, X'.V b = some p -> p.blk < w.heap.size) (hk : Qje U vs K π H l = true) (hkey : Q43 H π l = Q44 l) : Qo X' n0 (Q55 room (l.map λ q => (q.1, q.2.ob))) w := by
 have base : ∀ b o' p, (Q55 room (l.map λ q => (q.1, q.2.ob))).get b = some o' -> X'.V b = some p -> X.V (π b) = some p /\ ∃ g, (b, g) ∈ l /\ o' = g.ob /\ ∃ o, H.get (π b) = some o /\ rkG U vs K π o g = true /\ ∀ q, g = .lp q -> Ql8 (some o) = some q.key := λ b o' p hb hp => by
  obtain ⟨⟨b', g⟩, hm, e⟩ := List.mem_map.1 (JQ hb)
  simp only [Prod.mk.injEq] at e
  obtain ⟨rfl, rfl⟩ := e
  obtain ⟨k1, o, k2, k3, k4⟩ := Q9w hk hkey _ hm
  exact ⟨by rw [<- hc.kept b' k1]; exact hp, g, hm, rfl, o, k2, k3, k4⟩
 refine ⟨λ b o' p hb hp => ?_, λ b b' o1 o2 p p' hb hb' l1 l2 hp hp' e => ?_, hlt, λ b o' p hb hr hp => ?_⟩
 . obtain ⟨g1, g, -, rfl, o, g2, g3, g4⟩ := base b o' p hb hp
   exact (Q06 hc g3 g4 (h.obj _ o p g2 g1)).1
 . obtain ⟨g1, g, gm, rfl, o, g2, g3, g4⟩ := base b o1 p hb hp
   obtain ⟨g5, g', gm', rfl, q, g6, g7, g8⟩ := base b' o2 p' hb' hp'
   have e1 := (Q06 hc g3 g4 (h.obj _ o p g2 g1)).2.1
   exact Q9x hk _ gm _ gm' (h.inj _ _ o q p p' g2 g6 (by rw [<- e1]; exact l1) (by rw [<- Qgj g7]; exact l2) g1 g5 e)
 . obtain ⟨g1, g, -, rfl, o, g2, g3, g4⟩ := base b o' p hb hp
   have e1 := (Q06 hc g3 g4 (h.obj _ o p g2 g1)).2.2
   exact h.own _ o p g2 (by rw [<- e1]; exact hr) g1
end
abbrev sk4G (a : Qg) : Nat × Nat × zY × List Qj := (a.fn, a.nt, erC a.cur, a.todo.map erI)
abbrev FrG.sk4 (a : FrG) : Nat × Nat × zY × List Qj := (a.fr.fn, a.fr.nt, a.fr.cur, a.fr.todo.map erI)
theorem QU.JA {P : Program} {G : Env} {n0 : Nat} {H H' : Tr Q6} {X X' : Ext} {U : Sb} {vs : List Nat} {K : Nat -> Bool} {π : Nat -> Nat} (hc : Yp U vs K π X X') : ∀ {as : List Qg} {ts : List FrG} {cs : List Frame}, Qla U vs K π as ts = true -> as.map sk4G = ts.map FrG.sk4 -> QU P G X n0 H as cs -> QU P G X' n0 H' (ts.map FrG.af) cs /\ (ts.map FrG.af).flatMap Qm = []
 | [], ts, cs, hk, e, h => by
  cases ts with
  | nil => exact ⟨h, rfl⟩
  | cons t ts => simp [Qla] at hk
 | a :: as, ts, cs, hk, e, h => by
  cases ts with
  | nil => simp [Qla] at hk
  | cons t ts =>
   simp only [Qla, Bool.and_eq_true] at hk
   simp only [List.map_cons, List.cons.injEq] at e
   obtain ⟨e1, e2⟩ := e
   simp only [sk4G, FrG.sk4, Prod.mk.injEq] at e1
   obtain ⟨f, fs, rfl, h1, h2⟩ := h
   obtain ⟨k1, k2⟩ := Q1s.JA (H' := H') hc hk.1 e1.1 e1.2.1 e1.2.2.1 e1.2.2.2 h1
   obtain ⟨k3, k4⟩ := QU.JA hc hk.2 e2 h2
   refine ⟨⟨f, fs, rfl, k1, k3⟩, ?_⟩
   simp only [List.map_cons, List.flatMap_cons, k2, k4, List.append_nil]
noncomputable def Qmr (U : Sb) (keep : List Nat) (π : List (Nat × Nat)) (ng : Nat) (t : StG) (s : AM) : Bool :=
 qp s.fr.cur && (frG U t.vs (QJ ng keep) (Q89 π) s.fr t.fr && (Qla U t.vs (QJ ng keep) (Q89 π) s.cs t.cs && (Qje U t.vs (QJ ng keep) (Q89 π) s.H t.l && (Qc9 U t.vs s.ctx t.fs &&
  (Nat.ble ng t.next && (keep.all (λ b => Nat.blt b t.next) && (t.vs.all (λ i => Nat.blt i t.next) && (t.vs.all (λ i => !QJ ng keep i || s.ctx.vs.any (Nat.beq (Q89 π i))) && π.all (λ p => Nat.ble ng p.1)))))))))
abbrev GKey := (Nat × Nat × zY × List Qj) × List (Nat × Nat × zY × List Qj) × List (Option Qnu) × Bool
noncomputable def Qk6 (U : Sb) (keep : List Nat) (π : List (Nat × Nat)) (ng : Nat) (t : StG) (s : AM) : GKey :=
 AM.rec (motive := λ _ => GKey) (λ fr cs H nx c => (sk4G fr, cs.map sk4G, Q43 H (Q89 π) t.l, Qmr U keep π ng t ⟨fr, cs, H, nx, c⟩)) s
def StG.key (t : StG) : GKey := (t.fr.sk4, t.cs.map FrG.sk4, Q44 t.l, true)
def HopG (L : Nat) (spec : Spec) (G : Env) (n k : Nat) (s : AM) (j : List Nat) (U : Sb) (keep : List Nat) (π : List (Nat × Nat)) (t : StG) : Prop :=
 Qk6 U keep π G.T.ng t (Qdj L spec G n k j s) = t.key
section
variable {P : Program} {G : Env} {n0 : Nat} {w0 : World} {cs0 : List Frame}
theorem Qha {Y : Ext} {s : AM} {m : Machine} {U : Sb} {keep : List Nat} {π : List (Nat × Nat)} {t : StG} {room : Nat} (h1 : Sim P G n0 w0 cs0 Y s m) (hng : 0 < G.T.ng) (hh : Qk6 U keep π G.T.ng t s = t.key) :
 Sim P G n0 w0 cs0 (Q1b U t.vs (QJ G.T.ng keep) (Q89 π) Y) (t.am room) m /\ Yp U t.vs (QJ G.T.ng keep) (Q89 π) Y (Q1b U t.vs (QJ G.T.ng keep) (Q89 π) Y) := by
 obtain ⟨fr1, cs1, H1, nx1, c1⟩ := s
 simp only [Qk6, StG.key, Prod.mk.injEq] at hh
 obtain ⟨e0, e1, ek, hb⟩ := hh
 simp only [Qmr, Bool.and_eq_true, List.all_eq_true, Nat.ble_eq, Nat.blt_eq, Bool.or_eq_true, Bool.not_eq_true'] at hb
 obtain ⟨b5, b6, b8, b9, b10, b11, b12, b13, b14, b15⟩ := hb
 have hlow : ∀ g, g < G.T.ng -> Q89 π g = g := λ g hg => Q9t (n := G.T.ng) (List.all_eq_true.2 λ p hp => by rw [Nat.ble_eq]; exact b15 p hp) hg
 have hKg : ∀ b, b < G.T.ng -> QJ G.T.ng keep b = true := λ b hb => by unfold QJ; rw [show Nat.blt b G.T.ng = true from by rw [Nat.blt_eq]; exact hb]; rfl
 have hKn : ∀ b, t.next <= b -> QJ G.T.ng keep b = false := λ b hb => by
  unfold QJ
  rw [Bool.or_eq_false_iff]
  refine ⟨?_, ?_⟩
  . cases hh : Nat.blt b G.T.ng with
    | false => rfl
    | true => rw [Nat.blt_eq] at hh; omega
  . rw [List.any_eq_false]
    intro c hc he
    have : b = c := by simpa using he
    subst this
    have := b12 b hc
    omega
 obtain ⟨fr, fs, w, rfl, hF, hall, hHr, hB, h0⟩ := h1.ex
 obtain ⟨k0, hk0⟩ := h1.Qt 0 hng
 have hc : Yp U t.vs (QJ G.T.ng keep) (Q89 π) Y (Q1b U t.vs (QJ G.T.ng keep) (Q89 π) Y) := by
  refine ⟨λ i hi => ⟨?_, by simp only [Q1b, if_pos hi], rfl⟩, λ b hb => by simp only [Q1b, if_pos hb]⟩
  by_cases hk : QJ G.T.ng keep i = true
  . obtain ⟨p, hp⟩ := (b14 i hi).elim (λ h' => by rw [hk] at h'; cases h') λ h' => h1.ctx.1 _ (any_beq h')
    exact ⟨p, by simp only [Q1b, if_pos hk, hp]⟩
  . exact ⟨_, by simp only [Q1b, if_neg hk, if_pos hi]; exact hk0⟩
 have hlt : ∀ b p, (Q1b U t.vs (QJ G.T.ng keep) (Q89 π) Y).V b = some p -> p.blk < w.heap.size := λ b p hp => by
  simp only [Q1b] at hp
  split at hp
  . exact hHr.lt _ p hp
  . split at hp
    . exact hHr.lt 0 p hp
    . cases hp
 obtain ⟨g1, g2⟩ := Q7r.JA (H' := Q55 room (t.l.map λ q => (q.1, q.2.ob))) hc b6 b5 e0.1 e0.2.1 e0.2.2.1 e0.2.2.2 hF
 obtain ⟨g3, g4⟩ := QU.JA (H' := Q55 room (t.l.map λ q => (q.1, q.2.ob))) hc b8 e1 hall
 refine ⟨⟨⟨fr, fs, w, rfl, g1, g3, Qo.JA hHr hc hlt b9 ek, hB, h0⟩, Je hc.cast h1.ctx b10, λ g hg => ?_, λ b hb => ?_, ?_⟩, hc⟩
 . obtain ⟨n, hn⟩ := h1.Qt g hg
   exact ⟨n, by simp only [Q1b, if_pos (hKg g hg), hlow g hg]; exact hn⟩
 . simp only [Q1b]
   have hb' : t.next <= b := hb
   rw [if_neg (by rw [hKn b hb']; simp), if_neg (λ hm => by have := b13 b hm; omega)]
 . have e : (t.am room).fr :: (t.am room).cs = t.fr.af :: t.cs.map FrG.af := rfl
   rw [e, List.flatMap_cons, g2, g4]
   simp
theorem HopG.ends (hT : G.T.OK P) (hI : Js.OK P G.I) (hS : ZX P G n0) (hng : 0 < G.T.ng) {L : Nat} {f : FuncId} {s : AM} {n k room : Nat} {j : List Nat} {U : Sb} {keep : List Nat} {π : List (Nat × Nat)} {t : StG} (hh : HopG L Q80 G n k s j U keep π t)
 (he : ∀ X m, Sim P G n0 w0 cs0 X (t.am room) m -> Zo P n0 w0 cs0 f m) {X : Ext} {m : Machine} (h : Sim P G n0 w0 cs0 X s m) : Zo P n0 w0 cs0 f m := by
 obtain ⟨Y, m', st, -, h1⟩ := Zw hT hI hS (Q3t (L := L) Q3n n k j s) h
 exact .of_steps st (he _ _ (Qha (room := room) h1 hng hh).1)
theorem Sim.partA {X : Ext} {s : AM} {m : Machine} (h : Sim P G n0 w0 cs0 X s m) (op : BinOp) (a b : E) (ha : a.okB s.ctx.vs = true) (hb : b.okB s.ctx.vs = true) :
 Sim P G n0 w0 cs0 X { s with ctx := ⟨⟨op, a, b, true⟩ :: s.ctx.fs, s.ctx.vs⟩ } m \/ Sim P G n0 w0 cs0 X { s with ctx := ⟨⟨op, a, b, false⟩ :: s.ctx.fs, s.ctx.vs⟩ } m := by
 have key : ∀ v, (Fact.mk op a b v).ok X.O -> Sim P G n0 w0 cs0 X { s with ctx := ⟨⟨op, a, b, v⟩ :: s.ctx.fs, s.ctx.vs⟩ } m := λ v hv => by
  refine ⟨h.ex, ⟨h.ctx.1, λ f hm => ?_⟩, h.Qt, h.fresh, h.ids⟩
  rcases List.mem_cons.1 hm with rfl | hm
  . exact ⟨hv, E.ZG h.ctx.1 ha, E.ZG h.ctx.1 hb⟩
  . exact h.ctx.2 f hm
 have hdec : (Fact.mk op a b true).ok X.O \/ (Fact.mk op a b false).ok X.O := by
  unfold Fact.ok
  cases YD op (a.den X.O) (b.den X.O) <;> simp
 rcases hdec with h' | h'
 . exact .inl (key _ h')
 . exact .inr (key _ h')
end
end Go.Ax
namespace Go.Ax
open Go.RowKit
noncomputable def endM (G : Env) (f : FuncId) (q : AV -> Tr Q6 -> Bool) (k : Nat) (s : AM) : Bool :=
 match run G k s with
 | .go _ => false
 | .stop s => match ZF G s with
  | .fin => s.fr.ret && Nat.beq s.fr.fn f && (match G.T.funcs.get s.fr.fn with
   | some fn => match Jj G.T s.H fn s.fr.tm with
    | some v => q v s.H
    | none => false
   | none => false)
  | _ => false
section
variable {P : Program} {G : Env} {n0 : Nat} {X : Ext}
theorem callsM (hT : G.T.OK P) (hI : Js.OK P G.I) (hS : ZX P G n0) {f : FuncId} {args : List AV} {vs : Array Value} {H : Tr Q6} {next : Nat} {c : Ctx} {q : AV -> Tr Q6 -> Bool} {k : Nat} {s : AM} {w : World} (hs : start G f args H next c = some s) (he : endM G f q k s = true)
 (hargs : AV.QI X args vs.toList) (hH : Qo X n0 H w) (h0 : n0 <= w.heap.size) (hc : c.okN X.dom X.O) (hg : X.Qt G.T.ng) (hfr : ∀ b, next <= b -> X.V b = none) :
 Calls P f vs w (λ e w' => ∃ Y v u M, X.le Y /\ q v M = true /\ v.rel Y u /\ e = .returned u /\ Qo Y n0 M w' /\ Below n0 w w') := by
 intro cs
 have hsim : Sim P G n0 w cs X s (lone (Frame.enter P f vs .normal) cs w) := by
  unfold start at hs
  split at hs
  . cases hs
  . rename_i fn hfn
    split at hs
    . cases hs
    . rename_i b hb
      cases hs
      have hP := (hT.funcs f fn hfn).1
      refine ⟨⟨Frame.enter P f vs .normal, [], w, rfl, ⟨⟨rfl, rfl, rfl, rfl⟩, rfl, [.code b], ⟨_, _, rfl, rfl, rfl⟩, ?_, ?_⟩, rfl, hH, Below.refl _ _, h0⟩, hc, hg, hfr, ?_⟩
      . simp [Frame.enter, hP, hb]
      . have := Q4d (k := fn.ntmps) hargs
        simpa [Frame.enter, hP] using this
      . simp [Qm]
 unfold endM at he
 have hr := Q03 hT hI hS k hsim
 split at he
 . cases he
 . rename_i s1 hs1
   rw [hs1] at hr
   obtain ⟨Y, m1, st, hle, h1⟩ := hr
   simp only [YH.state] at h1
   split at he
   . rename_i hfin
     simp only [Bool.and_eq_true, Nat.beq_eq] at he
     obtain ⟨⟨hret, hf⟩, he⟩ := he
     split at he
     . rename_i fn hfn
       split at he
       . rename_i v hv
         have hend : s1.fr.ret = true /\ s1.fr.defers = [] /\ s1.cs = [] := by
          unfold ZF at hfin
          rw [hret] at hfin
          simp only at hfin
          split at hfin
          . cases hfin
          . split at hfin <;> cases hfin
          . rename_i hd
            split at hfin
            . rename_i hcs
              exact ⟨hret, hd, hcs⟩
            . split at hfin
              . cases hfin
              . split at hfin
                . cases hfin
                . split at hfin <;> cases hfin
         obtain ⟨e1, e2, e3⟩ := hend
         obtain ⟨fr, cs', w', rfl, hF, hall, hH', hB, h0'⟩ := h1.ex
         rw [e3] at hall
         simp only [QU] at hall
         subst hall
         obtain ⟨hb, h'⟩ := hF
         rw [e1] at h'
         simp only at h'
         obtain ⟨hm, htm, hcur⟩ := h'
         have hdf := hb.defers
         rw [e2] at hdf
         simp only [Q16] at hdf
         obtain ⟨u, hu, hr⟩ := J3 (P := P) hT hH' htm hv
         exact ⟨.returned u, w', fr, ⟨Y, v, u, s1.H, hle, he, hr, rfl, hH', hB⟩, st, hb.fn.trans hf, hm, hdf, hb.kind, fn, by rw [hb.fn]; exact (hT.funcs _ _ hfn).1, hu⟩
       . cases he
     . cases he
   . cases he
end
theorem Qnm {ng n0 room : Nat} {w : World} (h : ng <= w.heap.size) : Qo (Ext.base ng) n0 (.sk room) w := by
 refine ⟨λ b o p hb => by simp at hb, λ b b' o o' p p' hb => by simp at hb, λ b p hp => ?_, λ b o p hb => by simp at hb⟩
 simp only [Ext.base] at hp
 split at hp
 . rename_i hlt
   cases hp
   show b < _
   omega
 . cases hp
noncomputable def isC (n : Nat) : E -> Bool
 | .lit (.ofNat m) => Nat.beq m n
 | _ => false
theorem Q6a {n : Nat} {e : E} (h : isC n e = true) : e = .lit (n : Int) := by
 unfold isC at h
 split at h
 . simp only [Nat.beq_eq] at h; subst h; rfl
 . cases h
noncomputable def Q3q (z : AV) : Sum := λ c H next as =>
 match as with
 | [.str [a, b, d, e, f]] => bif isC 115 a && (isC 108 b && (isC 101 d && (isC 101 e && isC 112 f))) then .ok ⟨.tuple [z, .bool false], H, next, c⟩ else .fail
 | _ => .fail
def Qii : ByteArray := ⟨#[115, 108, 101, 101, 112]⟩
theorem Q81 {P : Program} {G : Env} {n0 : Nat} {f : FuncId} {z : AV} {zv : Value} (hz : ∀ X : Ext, z.rel X zv)
 (h : ∀ w : World, G.T.ng <= w.heap.size -> Calls P f #[.string Qii] w λ e w' => e = .returned (.tuple #[zv, .bool false]) /\ Below w.heap.size w w') : ZE P G n0 f (Q3q z) := by
 intro c X H next w args vs r hr hc hg hH h0 hfr hargs fr cs
 unfold Q3q at hr
 split at hr
 . rename_i a b d e f'
   cases hb : isC 115 a && (isC 108 b && (isC 101 d && (isC 101 e && isC 112 f'))) with
   | false => rw [hb] at hr; cases hr
   | true =>
    rw [hb] at hr
    cases hr
    simp only [Bool.and_eq_true] at hb
    obtain ⟨h1, h2, h3, h4, h5⟩ := hb
    have := Q6a h1; have := Q6a h2; have := Q6a h3; have := Q6a h4; have := Q6a h5
    subst_vars
    obtain ⟨u, vs', e1, g1, g2⟩ := Q8.1 hargs
    have := rels_nil.1 g2
    subst this
    simp only [AV.rel] at g1
    obtain ⟨-, rfl⟩ := g1
    have hvs : vs = #[.string Qii] := by
     rw [<- Array.toList_inj, e1]
     rfl
    subst hvs
    have hsz : G.T.ng <= w.heap.size := by
     rcases Nat.eq_zero_or_pos G.T.ng with hz | hz
     . omega
     . obtain ⟨n, hn⟩ := hg (G.T.ng - 1) (by omega)
       have := hH.lt _ _ hn
       simp only at this
       omega
    obtain ⟨u, w', ⟨rfl, hB⟩, st⟩ := Ze (q := λ v w' => v = .tuple #[zv, .bool false] /\ Below w.heap.size w w') ((h w hsz).mono λ e w' he => ⟨_, he.1, rfl, he.2⟩) fr cs
    exact ⟨X, _, w', st, Ext.le.refl X, by simp only [AV.rel]; exact ⟨_, rfl, Q8.2 ⟨_, _, rfl, hz X, Q8.2 ⟨_, _, rfl, by simp only [AV.rel], rels_nil.2 rfl⟩⟩⟩, hH.grow hB, hB.mono h0, λ b hb _ => ⟨hb, rfl⟩, Nat.le_refl _, hfr, hc⟩
 . cases hr
end Go.Ax
