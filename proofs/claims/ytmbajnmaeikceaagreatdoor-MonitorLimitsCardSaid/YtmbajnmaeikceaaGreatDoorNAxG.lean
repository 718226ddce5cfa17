/-
 THE ABSTRACT EXECUTOR, 57: texts as terms; numbers written into texts and read out of them, and functions of texts, known as a whole. Conditions: none.
-/
import Derived.Test.YtmbajnmaeikceaaGreatDoorNAxF
import Derived.Laws.AppendOwn
import Derived.MapKept
import Derived.Lib.MakeNoZero
import Derived.Lib.Bytealg
import Derived.Laws.IdiomRangeMap
import Derived.Test.YtmbajnmaeikceaaGreatDoorNAxE
namespace Go.Ax
open Go.RowKit
noncomputable def sE {β : Type} (e : E) (k : E -> β) : β :=
 match e with
 | .lit n => k (.lit n)
 | .var i => k (.var i)
 | .len i => k (.len i)
 | .byte i a => k (.byte i a)
 | .bin op j a b => k (.bin op j a b)
 | .cnv j a => k (.cnv j a)
 | .pk n a => k (.pk n a)
 | .cons a t => k (.cons a t)
 | .tv i lo hi t => k (.tv i lo hi t)
 | .fn n t => k (.fn n t)
 | .mn a b => k (.mn a b)
@[simp] theorem sE_eq {β : Type} (e : E) (k : E -> β) : sE e k = k e := by cases e <;> rfl
noncomputable def Q87 : List E -> E
 | [] => .lit (.ofNat 1)
 | a :: l => sE (Q87 l) λ t => .cons a t
theorem Q5l {O : Val} : ∀ l : List E, (Q87 l).den O = Jy (S.bytes O l) 1
 | [] => rfl
 | a :: l => by
  simp only [Q87, sE_eq, E.den, Q5l l]
  rfl
theorem Q9r {n : Nat -> Prop} : ∀ {l : List E}, (∀ t ∈ l, t.ok n) -> (Q87 l).ok n
 | [], _ => trivial
 | a :: l, h => by
  simp only [Q87, sE_eq]
  exact ⟨h a (by simp), Q9r λ t ht => h t (by simp [ht])⟩
theorem Jz {P : Program} {G : Env} {n0 : Nat} {f : FuncId} {S : Ctx -> Tr Q7 -> Nat -> List AV -> D SR}
 (h : ∀ (c : Ctx) (X : Ext) (H : Tr Q7) (next : Nat) (w : World) (args : List AV) (vs : Array Value) (r : SR), S c H next args = .ok r -> c.okN X.dom X.O -> AV.QI X args vs.toList ->
  r.H = H /\ r.next = next /\ r.ctx = c /\ ∃ u, r.v.rel X u /\ Calls P f vs w (λ e w' => e = .returned u /\ Below w.heap.size w w')) : Zw P G n0 f S := by
 intro c X H next w args vs r hr hc hg hH h0 hfr hargs fr cs
 obtain ⟨e1, e2, e3, u, hu, hcall⟩ := h c X H next w args vs r hr hc hargs
 obtain ⟨u', w', ⟨rfl, hB⟩, hst⟩ := Z5 (q := λ v w' => v = u /\ Below w.heap.size w w') (hcall.mono λ e w' he => ⟨u, he.1, rfl, he.2⟩) fr cs
 refine ⟨X, u', w', hst, Ext.le.refl X, hu, ?_, hB.mono h0, λ b hb _ => ⟨hb, by rw [e1]⟩, by rw [e2]; exact Nat.le_refl _, λ b hb => hfr b (by rw [e2] at hb; exact hb), by rw [e3]; exact hc⟩
 rw [e1]
 exact ⟨λ b o p ho hp => by rw [hB.block _ (hH.lt _ _ hp)]; exact hH.obj b o p ho hp, hH.inj, λ b p hp => Nat.lt_of_lt_of_le (hH.lt b p hp) hB.size, hH.own⟩
def Qld (n : E) (j : Nat) : E := .cnv .u8 (.bin .shr .i64 n (.lit (.ofNat (8 * j))))
noncomputable def Qod (n : Nat) (j : Nat) : E := QE (Nat.mod (Nat.div n (Nat.pow 256 j)) 256) λ m => .lit (.ofNat m)
def Q7d (z : Int) (j : Nat) : UInt8 := UInt8.ofNat (IntKind.u8.wrap (z.fdiv (2 ^ (8 * j)))).toNat
noncomputable def Qfs (n : E) (j : Nat) : E :=
 match n with
 | .lit (.ofNat n) => Qod n j
 | n => QE (8 * j) λ p => .cnv .u8 (.bin .shr .i64 n (.lit (.ofNat p)))
theorem Q08 (n : Int) : IntKind.u8.wrap n = n % 256 := by
 simp [IntKind.wrap, IntKind.bits, IntKind.signed]
theorem Q9b {n : E} {j : Nat} {O : Val} {d : Nat -> Prop} (hn : n.ok d) (hj : j < 4) : (Qfs n j).ok d /\ (Qfs n j).den O = IntKind.u8.wrap ((n.den O).fdiv (2 ^ (8 * j))) := by
 unfold Qfs
 split
 . rename_i m
   refine ⟨trivial, ?_⟩
   simp only [Qod, sNat_eq, E.den]
   rw [Q08]
   have e : (2 : Int) ^ (8 * j) = ((256 ^ j : Nat) : Int) := by rw [Int.pow_mul]; simp
   rw [e, Int.ofNat_eq_natCast, Int.ofNat_eq_natCast, Int.fdiv_eq_ediv_of_nonneg _ (Int.natCast_nonneg _)]
   show ((m / 256 ^ j % 256 : Nat) : Int) = _
   rw [Int.natCast_emod, Int.natCast_ediv]
   rfl
 . simp only [sNat_eq]
   refine ⟨⟨hn, trivial⟩, ?_⟩
   simp only [E.den, Zm]
   have : min ((Int.ofNat (8 * j)).toNat) IntKind.i64.bits = 8 * j := by
    simp only [Int.ofNat_eq_natCast, Int.toNat_natCast, IntKind.bits]
    omega
   rw [this]
noncomputable def Qbx (n : E) : Nat -> List E
 | 0 => []
 | j + 1 => sE (Qfs n j) λ b => b :: Qbx n j
def Zz (z : Int) : Nat -> List UInt8
 | 0 => []
 | j + 1 => Q7d z j :: Zz z j
theorem Q0o {n : E} {O : Val} {d : Nat -> Prop} (hn : n.ok d) : ∀ {k : Nat}, k <= 4 -> S.okN d O (Qbx n k) /\ S.bytes O (Qbx n k) = Zz (n.den O) k
 | 0, _ => ⟨λ t ht => (by cases ht), rfl⟩
 | j + 1, h => by
  obtain ⟨h1, h2⟩ := Q0o (O := O) hn (k := j) (by omega)
  obtain ⟨h3, h4⟩ := Q9b (O := O) hn (j := j) (by omega)
  simp only [Qbx, sE_eq]
  constructor
  . intro t ht
    rcases List.mem_cons.1 ht with rfl | ht
    . rw [h4, Q08]
      exact ⟨h3, by omega, by omega⟩
    . exact h1 t ht
  . show UInt8.ofNat ((Qfs n j).den O).toNat :: S.bytes O (Qbx n j) = _
    rw [h4, h2]; rfl
noncomputable def Qdz (b : Nat) : Sum := λ c H next as =>
 match as with
 | [.int .i64 n, .int .i64 (.lit (.ofNat k))] => bif Nat.ble 1 k && Nat.ble k 4 then
  QE (Nat.pow 256 k) λ m =>
  match E.cmp c .lss n (.lit (.ofNat 0)) with
  | none => .ask .lss n (.lit (.ofNat 0))
  | some true => .ok ⟨.tuple [.str [], .int .i64 (.lit (.ofNat b))], H, next, c⟩
  | some false => match E.cmp c .lss n (.lit (.ofNat m)) with
   | none => .ask .lss n (.lit (.ofNat m))
   | some false => .ok ⟨.tuple [.str [], .int .i64 (.lit (.ofNat b))], H, next, c⟩
   | some true => .ok ⟨.tuple [.str (Qbx n k), .int .i64 (.lit (.ofNat 0))], H, next, c⟩
  else .fail
 | _ => .fail
theorem Qdy {P : Program} {G : Env} {n0 : Nat} {f : FuncId} {b : Nat}
 (h1 : ∀ (z : Int) (k : Nat) (w : World), 1 <= k -> k <= 4 -> 0 <= z -> z < 256 ^ k -> Calls P f #[.int .i64 z, .int .i64 k] w λ e w' => e = .returned (.tuple #[.string ⟨(Zz z k).toArray⟩, .int .i64 0]) /\ Below w.heap.size w w')
 (h2 : ∀ (z : Int) (k : Nat) (w : World), 1 <= k -> k <= 4 -> (z < 0 \/ 256 ^ k <= z) -> Calls P f #[.int .i64 z, .int .i64 k] w λ e w' => e = .returned (.tuple #[.string ⟨#[]⟩, .int .i64 b]) /\ Below w.heap.size w w') : Zw P G n0 f (Qdz b) := by
 refine Jz λ c X H next w args vs r hr hc hargs => ?_
 unfold Qdz at hr
 split at hr
 . rename_i n k
   cases hb : (Nat.ble 1 k && Nat.ble k 4) with
   | false => rw [hb] at hr; cases hr
   | true =>
    rw [hb] at hr
    simp only [Bool.and_eq_true, Nat.ble_eq] at hb
    simp only [cond_true, sNat_eq] at hr
    obtain ⟨u, vs', e1, g1, g2⟩ := Q8.1 hargs
    obtain ⟨v, vs'', rfl, g3, g4⟩ := Q8.1 g2
    have := rels_nil.1 g4
    subst this
    simp only [AV.rel] at g1 g3
    obtain ⟨k1, rfl⟩ := g1
    obtain ⟨-, rfl⟩ := g3
    have hvs : vs = #[.int .i64 (n.den X.O), .int .i64 k] := by rw [<- Array.toList_inj]; exact e1
    subst hvs
    have pw : ((Nat.pow 256 k : Nat) : Int) = 256 ^ k := by simp
    have bad : ∀ r, (n.den X.O < 0 \/ 256 ^ k <= n.den X.O) -> (.ok ⟨.tuple [.str [], .int .i64 (.lit (.ofNat b))], H, next, c⟩ : D SR) = .ok r -> r.H = H /\ r.next = next /\ r.ctx = c /\ ∃ u, r.v.rel X u /\ Calls P f #[.int .i64 (n.den X.O), .int .i64 k] w (λ e w' => e = .returned u /\ Below w.heap.size w w') := by
     intro r hz hr
     cases hr
     refine ⟨rfl, rfl, rfl, _, ?_, h2 _ k w hb.1 hb.2 hz⟩
     simp only [AV.rel]
     refine ⟨_, rfl, ?_⟩
     simp only [rels_cons_cons, rels_nil, AV.rel]
     exact ⟨⟨λ t ht => (by cases ht), rfl⟩, ⟨trivial, rfl⟩, trivial⟩
    split at hr
    . cases hr
    . rename_i hq
      have := E.Qf rfl hq hc
      simp only [Y3, decide_eq_true_eq] at this
      exact bad r (.inl this) hr
    . rename_i hq
      have q0 := E.Qf rfl hq hc
      simp only [Y3, decide_eq_false_iff_not] at q0
      have q0' : 0 <= n.den X.O := by
       have e0 : (E.lit (Int.ofNat 0)).den X.O = 0 := rfl
       rw [e0] at q0; omega
      split at hr
      . cases hr
      . rename_i hq2
        have q1 := E.Qf rfl hq2 hc
        simp only [Y3, decide_eq_false_iff_not] at q1
        refine bad r (.inr ?_) hr
        have e0 : (E.lit (Int.ofNat (Nat.pow 256 k))).den X.O = ((Nat.pow 256 k : Nat) : Int) := rfl
        rw [e0, pw] at q1; omega
      . rename_i hq2
        have q1 := E.Qf rfl hq2 hc
        simp only [Y3, decide_eq_true_eq] at q1
        have e0 : (E.lit (Int.ofNat (Nat.pow 256 k))).den X.O = ((Nat.pow 256 k : Nat) : Int) := rfl
        rw [e0, pw] at q1
        cases hr
        obtain ⟨s1, s2⟩ := Q0o (O := X.O) k1 hb.2
        refine ⟨rfl, rfl, rfl, _, ?_, h1 _ k w hb.1 hb.2 q0' q1⟩
        simp only [AV.rel]
        refine ⟨_, rfl, ?_⟩
        simp only [rels_cons_cons, rels_nil, AV.rel]
        exact ⟨⟨s1, by rw [s2]⟩, ⟨trivial, rfl⟩, trivial⟩
 . cases hr
def Qa8 (l : List UInt8) : Nat := l.foldl (λ n b => n * 256 + b.toNat) 0
def Q8s : Nat -> List E -> Option Nat
 | n, [] => some n
 | n, .lit (.ofNat b) :: l => Q8s (n * 256 + b) l
 | _, _ => none
def Qli (n : E) : Nat -> List E -> Bool
 | 0, [] => true
 | j + 1, e :: l => e.same (Qld n j) && Qli n j l
 | _, _ => false
noncomputable def getE (c : Ctx) (l : List E) : Option E :=
 match l with
 | .cnv .u8 (.bin .shr .i64 n (.lit p)) :: m => bif Qli n (m.length + 1) (.cnv .u8 (.bin .shr .i64 n (.lit p)) :: m) && (match (E.ivL c.fs n).lo, (E.ivL c.fs n).hi with
  | some lo, some hi => ile 0 lo && ilt hi (.ofNat (Nat.pow 256 (m.length + 1)))
  | _, _ => false) then some n else none
 | l => match Q8s 0 l with
  | some n => QE n λ n => some (.lit (.ofNat n))
  | none => none
theorem Q2w {O : Val} {d : Nat -> Prop} : ∀ {l : List E} {n m : Nat}, Q8s n l = some m -> S.okN d O l -> (S.bytes O l).foldl (λ n b => n * 256 + b.toNat) n = m
 | [], n, m, h, _ => by simp only [Q8s, Option.some.injEq] at h; subst h; rfl
 | .lit (.ofNat b) :: l, n, m, h, hk => by
  simp only [Q8s] at h
  have ih := Q2w h λ t ht => hk t (by simp [ht])
  have hb := (hk (.lit (.ofNat b)) (by simp)).2.2
  simp only [E.den, Int.ofNat_eq_natCast] at hb
  show (S.bytes O l).foldl _ (n * 256 + (UInt8.ofNat ((E.lit (.ofNat b)).den O).toNat).toNat) = m
  have e : (UInt8.ofNat ((E.lit (.ofNat b)).den O).toNat).toNat = b := by
   show (UInt8.ofNat (Int.ofNat b).toNat).toNat = b
   simp
   omega
  rw [e]
  exact ih
 | .lit (.negSucc _) :: _, _, _, h, _ => by simp [Q8s] at h
 | .var _ :: _, _, _, h, _ => by simp [Q8s] at h
 | .len _ :: _, _, _, h, _ => by simp [Q8s] at h
 | .byte _ _ :: _, _, _, h, _ => by simp [Q8s] at h
 | .bin _ _ _ _ :: _, _, _, h, _ => by simp [Q8s] at h
 | .cnv _ _ :: _, _, _, h, _ => by simp [Q8s] at h
 | .pk _ _ :: _, _, _, h, _ => by simp [Q8s] at h
 | .cons _ _ :: _, _, _, h, _ => by simp [Q8s] at h
 | .tv _ _ _ _ :: _, _, _, h, _ => by simp [Q8s] at h
 | .fn _ _ :: _, _, _, h, _ => by simp [Q8s] at h
theorem Qft {n : E} {j : Nat} {O : Val} (hj : j < 4) : (Qld n j).den O = IntKind.u8.wrap ((n.den O).fdiv (2 ^ (8 * j))) := by
 simp only [Qld, E.den, Zm]
 have : min ((Int.ofNat (8 * j)).toNat) IntKind.i64.bits = 8 * j := by
  simp only [Int.ofNat_eq_natCast, Int.toNat_natCast, IntKind.bits]
  omega
 rw [this]
theorem Q3n {O : Val} {n : E} : ∀ {l : List E} {k : Nat}, Qli n k l = true -> k <= 4 -> S.bytes O l = Zz (n.den O) k
 | [], 0, _, _ => rfl
 | [], _ + 1, h, _ => by simp [Qli] at h
 | _ :: _, 0, h, _ => by simp [Qli] at h
 | e :: l, j + 1, h, hk => by
  simp only [Qli, Bool.and_eq_true] at h
  have := E.Q5 h.1
  show UInt8.ofNat (e.den O).toNat :: S.bytes O l = _
  rw [this, Qft (by omega), Q3n h.2 (by omega)]
  rfl
theorem Q3f {z : Nat} : ∀ {k a : Nat}, k <= 4 -> (Zz z k).foldl (λ n b => n * 256 + b.toNat) a = a * 256 ^ k + z % 256 ^ k
 | 0, a, _ => by simp [Zz]; omega
 | j + 1, a, h => by
  have ih := λ a => Q3f (z := z) (k := j) (a := a) (by omega)
  show (Zz z j).foldl _ (a * 256 + (Q7d z j).toNat) = _
  rw [ih]
  have e : (Q7d z j).toNat = z / 256 ^ j % 256 := by
   unfold Q7d
   rw [Q08]
   have e : (2 : Int) ^ (8 * j) = ((256 ^ j : Nat) : Int) := by rw [Int.pow_mul]; simp
   rw [e, Int.fdiv_eq_ediv_of_nonneg _ (Int.natCast_nonneg _)]
   have e2 : ((z : Int) / ((256 ^ j : Nat) : Int) % 256).toNat = z / 256 ^ j % 256 := by
    rw [<- Int.natCast_ediv]; omega
   rw [e2]
   simp
  rw [e]
  have h1 := Nat.div_add_mod (z % 256 ^ (j + 1)) (256 ^ j)
  have h2 : z % 256 ^ (j + 1) / 256 ^ j = z / 256 ^ j % 256 := by
   rw [Nat.pow_succ, Nat.mod_mul_right_div_self]
  have h3 : z % 256 ^ (j + 1) % 256 ^ j = z % 256 ^ j := by
   rw [Nat.pow_succ, Nat.mod_mul_right_mod]
  rw [h2, h3] at h1
  rw [<- h1, Nat.pow_succ, Nat.add_mul, Nat.mul_assoc, Nat.mul_comm 256 (256 ^ j), Nat.mul_comm (256 ^ j) (z / 256 ^ j % 256)]
  omega
theorem Q33 {c : Ctx} {O : Val} {d : Nat -> Prop} {l : List E} {e : E} (h : getE c l = some e) (hl : l.length <= 4) (hk : S.okN d O l) (hc : c.okN d O) : e.ok d /\ e.den O = (Qa8 (S.bytes O l) : Int) := by
 unfold getE at h
 split at h
 . rename_i n p m
   cases hb : (Qli n (m.length + 1) (.cnv .u8 (.bin .shr .i64 n (.lit p)) :: m) && (match (E.ivL c.fs n).lo, (E.ivL c.fs n).hi with
    | some lo, some hi => ile 0 lo && ilt hi (.ofNat (Nat.pow 256 (m.length + 1)))
    | _, _ => false)) with
   | false => rw [hb] at h; cases h
   | true =>
    rw [hb] at h
    simp only [cond_true, Option.some.injEq] at h
    subst h
    simp only [Bool.and_eq_true] at hb
    have hv := E.Q6g hc.2 n
    have hn : n.ok d := (hk (.cnv .u8 (.bin .shr .i64 n (.lit p))) (by simp)).1.1
    refine ⟨hn, ?_⟩
    have hs := Q3n (O := O) hb.1 (by simpa using hl)
    obtain ⟨-, hb⟩ := hb
    split at hb
    . rename_i lo hi e1 e2
      simp only [Bool.and_eq_true, QO, JI, decide_eq_true_eq] at hb
      have a1 := hv.1 _ e1
      have a2 := hv.2 _ e2
      obtain ⟨z, hz⟩ : ∃ z : Nat, n.den O = z := ⟨(n.den O).toNat, by omega⟩
      rw [hs, hz]
      have hlt : z < 256 ^ (m.length + 1) := by
       have q : (Int.ofNat (Nat.pow 256 (m.length + 1))) = ((256 ^ (m.length + 1) : Nat) : Int) := rfl
       rw [q] at hb; omega
      have := Q3f (z := z) (k := m.length + 1) (a := 0) (by simpa using hl)
      unfold Qa8
      rw [this, Nat.mod_eq_of_lt hlt]
      omega
    . cases hb
 . split at h
   . rename_i n hn
     rw [sNat_eq] at h
     cases h
     refine ⟨trivial, ?_⟩
     have := Q2w (O := O) hn hk
     simp only [E.den, Qa8, this, Int.ofNat_eq_natCast]
   . cases h
noncomputable def Qak (b : Nat) : Sum := λ c H next as =>
 match as with
 | [.str s, .int .i64 (.lit (.ofNat i)), .int .i64 (.lit (.ofNat k))] => bif Nat.ble 1 k && Nat.ble k 4 && Nat.ble s.length 1099511627776 && Nat.ble i 1099511627776 then
  bif Nat.ble (i + k) s.length then
   match getE c ((s.drop i).take k) with
   | some e => .ok ⟨.tuple [.int .i64 e, .int .i64 (.lit (.ofNat 0))], H, next, c⟩
   | none => .fail
  else .ok ⟨.tuple [.int .i64 (.lit (.ofNat 0)), .int .i64 (.lit (.ofNat b))], H, next, c⟩
  else .fail
 | _ => .fail
theorem Qf4 {P : Program} {G : Env} {n0 : Nat} {f : FuncId} {b : Nat}
 (h1 : ∀ (s : ByteArray) (i k : Nat) (w : World), 1 <= k -> k <= 4 -> s.size <= 1099511627776 -> i + k <= s.size -> Calls P f #[.string s, .int .i64 i, .int .i64 k] w λ e w' => e = .returned (.tuple #[.int .i64 (Qa8 ((s.data.toList.drop i).take k)), .int .i64 0]) /\ Below w.heap.size w w')
 (h2 : ∀ (s : ByteArray) (i k : Nat) (w : World), 1 <= k -> k <= 4 -> s.size <= 1099511627776 -> i <= 1099511627776 -> s.size < i + k -> Calls P f #[.string s, .int .i64 i, .int .i64 k] w λ e w' => e = .returned (.tuple #[.int .i64 0, .int .i64 b]) /\ Below w.heap.size w w') : Zw P G n0 f (Qak b) := by
 refine Jz λ c X H next w args vs r hr hc hargs => ?_
 unfold Qak at hr
 split at hr
 . rename_i s i k
   cases hb : (Nat.ble 1 k && Nat.ble k 4 && Nat.ble s.length 1099511627776 && Nat.ble i 1099511627776) with
   | false => rw [hb] at hr; cases hr
   | true =>
    rw [hb] at hr
    simp only [Bool.and_eq_true, Nat.ble_eq] at hb
    simp only [cond_true] at hr
    obtain ⟨u, vs', e1, g1, g2⟩ := Q8.1 hargs
    obtain ⟨v, vs'', rfl, g3, g4⟩ := Q8.1 g2
    obtain ⟨v2, vs3, rfl, g5, g6⟩ := Q8.1 g4
    have := rels_nil.1 g6
    subst this
    simp only [AV.rel] at g1 g3 g5
    obtain ⟨k1, rfl⟩ := g1
    obtain ⟨-, rfl⟩ := g3
    obtain ⟨-, rfl⟩ := g5
    have hvs : vs = #[.string ⟨(S.bytes X.O s).toArray⟩, .int .i64 i, .int .i64 k] := by rw [<- Array.toList_inj]; exact e1
    subst hvs
    have hsz : (⟨(S.bytes X.O s).toArray⟩ : ByteArray).size = s.length := by
     show (S.bytes X.O s).toArray.size = _
     simp [S.bytes]
    cases hle : Nat.ble (i + k) s.length with
    | true =>
     rw [hle] at hr
     simp only [cond_true] at hr
     have hle' : i + k <= s.length := by simpa using hle
     split at hr
     . rename_i e he
       cases hr
       have hkk : S.okN X.dom X.O ((s.drop i).take k) := λ t ht => k1 t (List.mem_of_mem_drop (List.mem_of_mem_take ht))
       obtain ⟨a1, a2⟩ := Q33 he (by simp only [List.length_take]; omega) hkk hc
       refine ⟨rfl, rfl, rfl, _, ?_, h1 _ i k w hb.1.1.1 hb.1.1.2 (by rw [hsz]; exact hb.1.2) (by rw [hsz]; exact hle')⟩
       simp only [AV.rel]
       refine ⟨_, rfl, ?_⟩
       simp only [rels_cons_cons, rels_nil, AV.rel]
       refine ⟨⟨a1, ?_⟩, ⟨trivial, rfl⟩, trivial⟩
       rw [a2]
       have : S.bytes X.O ((s.drop i).take k) = ((S.bytes X.O s).drop i).take k := by simp [S.bytes, List.map_take, List.map_drop]
       rw [this]
     . cases hr
    | false =>
     rw [hle] at hr
     simp only [cond_false] at hr
     cases hr
     have hle' : ¬ i + k <= s.length := λ hh => by rw [Nat.ble_eq_true_of_le hh] at hle; cases hle
     refine ⟨rfl, rfl, rfl, _, ?_, h2 _ i k w hb.1.1.1 hb.1.1.2 (by rw [hsz]; exact hb.1.2) hb.2 (by rw [hsz]; omega)⟩
     simp only [AV.rel]
     refine ⟨_, rfl, ?_⟩
     simp only [rels_cons_cons, rels_nil, AV.rel]
     exact ⟨⟨trivial, rfl⟩, ⟨trivial, rfl⟩, trivial⟩
 . cases hr
end Go.Ax
namespace Go.Ax
open Go.RowKit
noncomputable def Qni (c : Ctx) (k : E) : List E -> D (List E)
 | [] => .ok [k]
 | a :: l => match E.cmp c .lss k a with
  | none => .ask .lss k a
  | some true => .ok (k :: a :: l)
  | some false => match E.cmp c .gtr k a with
   | some true => (Qni c k l).bind λ r => .ok (a :: r)
   | _ => .fail
noncomputable def Qdk (c : Ctx) : List E -> D (List E)
 | [] => .ok []
 | k :: l => (Qdk c l).bind λ r => Qni c k r
abbrev Q5f (O : Val) (l : List E) : List Int := l.map (·.den O)
theorem Q31 {c : Ctx} {d : Nat -> Prop} {O : Val} (hc : c.okN d O) {k : E} : ∀ {l r : List E}, Qni c k l = .ok r -> (Q5f O l).Pairwise (. < ·) -> (Q5f O r).Pairwise (. < ·) /\ (Q5f O r).Perm (k.den O :: Q5f O l) /\ ∀ e ∈ r, e = k \/ e ∈ l
 | [], r, h, _ => by
  simp only [Qni] at h
  cases h
  exact ⟨by simp, .refl _, λ e he => .inl (by simpa using he)⟩
 | a :: l, r, h, hp => by
  simp only [Qni] at h
  have hp' := List.pairwise_cons.1 (show (a.den O :: Q5f O l).Pairwise (. < ·) from hp)
  split at h
  . cases h
  . rename_i hq
    have q := E.Qf rfl hq hc
    simp only [Y3, decide_eq_true_eq] at q
    cases h
    refine ⟨List.pairwise_cons.2 ⟨λ x hx => ?_, hp⟩, .refl _, λ e he => by simpa using he⟩
    rcases List.mem_cons.1 (show x ∈ a.den O :: Q5f O l from hx) with hx | hx
    . show k.den O < x
      rw [hx]
      exact q
    . have := hp'.1 x hx
      show k.den O < x
      omega
  . split at h
    . rename_i hq
      have q := E.Qf rfl hq hc
      have q' : a.den O < k.den O := by simpa [Y3] using q
      obtain ⟨r', h1, h2⟩ := D.bind_ok h
      cases h2
      obtain ⟨i1, i2, i3⟩ := Q31 hc h1 hp'.2
      refine ⟨List.pairwise_cons.2 ⟨λ x hx => ?_, i1⟩, ?_, λ e he => ?_⟩
      . rcases List.mem_cons.1 (i2.mem_iff.1 hx) with rfl | hx
        . exact q'
        . exact hp'.1 x hx
      . exact (List.Perm.cons _ i2).trans (.swap _ _ _)
      . rcases List.mem_cons.1 he with rfl | he
        . exact .inr (by simp)
        . rcases i3 e he with h | h
          . exact .inl h
          . exact .inr (by simp [h])
    . cases h
theorem Q0e {c : Ctx} {d : Nat -> Prop} {O : Val} (hc : c.okN d O) : ∀ {l r : List E}, Qdk c l = .ok r -> (Q5f O r).Pairwise (. < ·) /\ (Q5f O r).Perm (Q5f O l) /\ ∀ e ∈ r, e ∈ l
 | [], r, h => by
  simp only [Qdk] at h
  cases h
  exact ⟨by simp, .refl _, λ e he => he⟩
 | k :: l, r, h => by
  simp only [Qdk] at h
  obtain ⟨r', h1, h2⟩ := D.bind_ok h
  obtain ⟨i1, i2, i3⟩ := Q0e hc h1
  obtain ⟨j1, j2, j3⟩ := Q31 hc h2 i1
  refine ⟨j1, j2.trans (List.Perm.cons _ i2), λ e he => ?_⟩
  rcases j3 e he with rfl | he
  . simp
  . simp [i3 e he]
noncomputable def Qgh (c : Ctx) (e : E) : Bool :=
 match (E.iv c.fs e).lo, (E.iv c.fs e).hi with
 | some lo, some hi => ile (.negSucc 9223372036854775807) lo && ile hi (.ofNat 9223372036854775807)
 | _, _ => false
theorem Q85 {c : Ctx} {d : Nat -> Prop} {O : Val} (hc : c.okN d O) {e : E} (h : Qgh c e = true) : -9223372036854775808 <= e.den O /\ e.den O <= 9223372036854775807 := by
 unfold Qgh at h
 have hv := E.Qb hc.2 e
 split at h
 . rename_i lo hi e1 e2
   simp only [Bool.and_eq_true, QO] at h
   have a1 := hv.1 _ e1
   have a2 := hv.2 _ e2
   have b1 : (Int.negSucc 9223372036854775807) = -9223372036854775808 := rfl
   have b2 : (Int.ofNat 9223372036854775807) = 9223372036854775807 := rfl
   rw [b1, b2] at h
   omega
 . cases h
noncomputable def Qem (c : Ctx) : List (AV × AV × Nat) -> Option (List E)
 | [] => some []
 | x :: l => match x.1 with
  | .int .i64 e => bif Qgh c e then (match Qem c l with
   | some r => some (e :: r)
   | none => none) else none
  | _ => none
def Q5o (clock : Nat) : Nat -> List (AV × AV × Nat) -> Bool
 | _, [] => true
 | lo, x :: l => Nat.ble lo x.2.2 && (Nat.blt x.2.2 clock && Q5o clock (x.2.2 + 1) l)
theorem Q10 {c : Ctx} {X : Ext} (hc : c.okN X.dom X.O) : ∀ {l : List (AV × AV × Nat)} {es : List MapEntry} {ks : List E}, Qem c l = some ks -> Q9 X l es -> es.map (·.key) = (Q5f X.O ks).map (Value.int .i64) /\ (∀ e ∈ ks, e.ok X.dom) /\ ∀ z ∈ Q5f X.O ks, -9223372036854775808 <= z /\ z <= 9223372036854775807
 | [], es, ks, h, hr => by
  simp only [Qem, Option.some.injEq] at h
  subst h
  have : es = [] := hr
  subst this
  exact ⟨rfl, λ e he => (by cases he), λ z hz => (by cases hz)⟩
 | x :: l, es, ks, h, hr => by
  obtain ⟨e, es', rfl, r1, -, -, r4⟩ := hr
  simp only [Qem] at h
  split at h
  . rename_i k hk
    cases hw : Qgh c k with
    | false => rw [hw] at h; cases h
    | true =>
     rw [hw] at h
     simp only [cond_true] at h
     split at h
     . rename_i r hr'
       cases h
       obtain ⟨i1, i2, i3⟩ := Q10 hc hr' r4
       rw [hk] at r1
       simp only [AV.rel] at r1
       refine ⟨by simp only [List.map_cons, r1.2, i1, Q5f], λ y hy => ?_, λ z hz => ?_⟩
       . rcases List.mem_cons.1 hy with rfl | hy
         . exact r1.1
         . exact i2 y hy
       . rcases List.mem_cons.1 (show z ∈ k.den X.O :: Q5f X.O r from hz) with rfl | hz
         . exact Q85 hc hw
         . exact i3 z hz
     . cases h
  . cases h
theorem jW {X : Ext} {clock : Nat} : ∀ {l : List (AV × AV × Nat)} {es : List MapEntry} {lo : Nat}, Q5o clock lo l = true -> Q9 X l es -> (∀ x ∈ es, lo <= x.born /\ x.born < clock) /\ (es.map (·.born)).Nodup
 | [], es, lo, _, hr => by
  have : es = [] := hr
  subst this
  exact ⟨λ x hx => (by cases hx), by simp⟩
 | x :: l, es, lo, h, hr => by
  obtain ⟨e, es', rfl, -, -, r3, r4⟩ := hr
  simp only [Q5o, Bool.and_eq_true, Nat.ble_eq, Nat.blt_eq] at h
  obtain ⟨i1, i2⟩ := jW h.2.2 r4
  refine ⟨λ y hy => ?_, ?_⟩
  . rcases List.mem_cons.1 hy with rfl | hy
    . rw [r3]; exact ⟨h.1, h.2.1⟩
    . have := i1 y hy; omega
  . rw [List.map_cons, List.nodup_cons]
    refine ⟨λ hm => ?_, i2⟩
    obtain ⟨y, hy, hb⟩ := List.mem_map.1 hm
    have := (i1 y hy).1
    omega
noncomputable def zA (T : TypeId) (gs : List Nat) : Sum := λ c H next as =>
 match as with
 | [.func g [] [.ptr cb 0]] => bif gs.any (Nat.beq g) then
  match H.get cb with
  | some (.cells [.map r] _ true _ _) => match H.get r with
   | some (.map es clock) => bif Nat.ble es.length 1000000 && Q5o clock 0 es then
    match Qem c es with
    | some ks => (Qdk c ks).bind λ l => match l with
     | [] => .ok ⟨.nilslice, H, next, c⟩
     | e :: l => QE (next + 1) λ nx => QE (e :: l).length λ n => .ok ⟨.slice next 0 n n 1 false, H.set next (.cells ((e :: l).map (.int .i64)) T false true false), nx, c⟩
    | none => .fail
    else .fail
   | _ => .fail
  | some (.cells [.nilmap] _ true _ _) => .ok ⟨.nilslice, H, next, c⟩
  | _ => .fail
  else .fail
 | _ => .fail
theorem Q3y {ss l : List Int} (hp : ss.Perm l) (hl : l.Pairwise (. < ·)) : ss.mergeSort (λ x y => decide (x <= y)) = l := by
 have tr : ∀ a b c : Int, decide (a <= b) = true -> decide (b <= c) = true -> decide (a <= c) = true := λ a b c h1 h2 => by simp only [decide_eq_true_eq] at *; omega
 have to : ∀ a b : Int, (decide (a <= b) || decide (b <= a)) = true := λ a b => by simp only [Bool.or_eq_true, decide_eq_true_eq]; omega
 refine List.Perm.eq_of_pairwise (le := λ a b => decide (a <= b) = true) (λ a b _ _ h1 h2 => by simp only [decide_eq_true_eq] at h1 h2; omega) (List.pairwise_mergeSort tr to ss) (hl.imp λ {a b} h => by simp only [decide_eq_true_eq]; omega) ((List.mergeSort_perm ss _).trans hp)
theorem Q5s {P : Program} {G : Env} {n0 : Nat} {f : FuncId} {T : TypeId} {gs : List Nat}
 (h1 : ∀ (g b Bm clock : Nat) (es : Array MapEntry) (ks : List Int) (w : World), g ∈ gs -> Bm < w.heap.size -> w.cell? ⟨Bm, 0, none⟩ = some (.map (some b)) -> w.heap[b]? = some (.map es clock) -> es.size <= 1000000 -> MapKept.Stamped es clock -> es.toList.map (·.key) = ks.map (Value.int .i64) -> (∀ z ∈ ks, -9223372036854775808 <= z /\ z <= 9223372036854775807) ->
  Calls P f #[.func (.func g) #[] #[.pointer (some ⟨Bm, 0, none⟩)]] w λ e w' => ∃ (v : Value) (ss : List Int), e = .returned v /\ ss.Perm ks /\ w'.ownsRow w.heap.size T 1 v ss.length ((ss.mergeSort (λ x y => decide (x <= y))).map (Value.int .i64)) /\ (v = .slice none 0 0 ↔ ss = []) /\ Below w.heap.size w w')
 (h2 : ∀ (g Bm : Nat) (w : World), g ∈ gs -> Bm < w.heap.size -> w.cell? ⟨Bm, 0, none⟩ = some (.map none) ->
  Calls P f #[.func (.func g) #[] #[.pointer (some ⟨Bm, 0, none⟩)]] w λ e w' => e = .returned (.slice none 0 0) /\ Below w.heap.size w w') : Zw P G n0 f (zA T gs) := by
 intro c X H next w args vs r hr hc hg hH h0 hfr hargs fr cs
 unfold zA at hr
 split at hr
 case h_2 => cases hr
 rename_i g cb
 cases hgs : gs.any (Nat.beq g) with
 | false => rw [hgs] at hr; cases hr
 | true =>
  rw [hgs] at hr
  simp only [cond_true] at hr
  have hmem : g ∈ gs := any_beq hgs
  obtain ⟨u, vs', e1, g1, g2⟩ := Q8.1 hargs
  have := rels_nil.1 g2
  subst this
  simp only [AV.rel] at g1
  obtain ⟨as', cs', rfl, g3, g4⟩ := g1
  have ha : as' = #[] := by rw [<- Array.toList_inj]; exact rels_nil.1 g3
  subst ha
  obtain ⟨u, us, e2, g5, g6⟩ := Q8.1 g4
  have := rels_nil.1 g6
  subst this
  simp only [AV.rel] at g5
  obtain ⟨p, hp, rfl⟩ := g5
  have hcs : cs' = #[.pointer (some ⟨p.blk, p.base + 0, none⟩)] := by rw [<- Array.toList_inj]; exact e2
  subst hcs
  have hvs : vs = #[.func (.func g) #[] #[.pointer (some ⟨p.blk, p.base + 0, none⟩)]] := by rw [<- Array.toList_inj]; exact e1
  subst hvs
  have hblk := hH.lt _ _ hp
  split at hr
  . rename_i q el pl ro ho
    have hbase : p.base = 0 := by
     obtain ⟨_, _, _, _, _, hx, _⟩ := hH.obj _ _ _ ho hp
     exact (hx rfl).1
    obtain ⟨mv, hmv, hrel⟩ := hH.cell ho hp (i := 0) (a := .map q) rfl
    rw [hbase] at hmv ⊢
    simp only [AV.rel] at hrel
    obtain ⟨pm, hpm, rfl⟩ := hrel
    split at hr
    . rename_i es clock hmap
      obtain ⟨es', hes, hent⟩ := hH.obj _ _ _ hmap hpm
      cases hb : (Nat.ble es.length 1000000 && Q5o clock 0 es) with
      | false => rw [hb] at hr; cases hr
      | true =>
       rw [hb] at hr
       simp only [Bool.and_eq_true, Nat.ble_eq] at hb
       simp only [cond_true] at hr
       split at hr
       . rename_i ks hks
         obtain ⟨l, hl, hr⟩ := D.bind_ok hr
         obtain ⟨s1, s2, s3⟩ := Q0e hc hl
         obtain ⟨k1, k2, k3⟩ := Q10 hc hks hent
         obtain ⟨t1, t2⟩ := jW hb.2 hent
         have hlen : es'.size <= 1000000 := by
          have : es'.toList.length = es.length := by
           have : ∀ {xs : List (AV × AV × Nat)} {ys : List MapEntry}, Q9 X xs ys -> ys.length = xs.length := by
            intro xs
            induction xs with
            | nil => intro ys h; have : ys = [] := h; subst this; rfl
            | cons x xs ih => intro ys h; obtain ⟨y, ys', rfl, _, _, _, h4⟩ := h; simp [ih h4]
           exact this hent
          have h3 : es'.size = es'.toList.length := by simp
          omega
         have hnd : (es'.toList.map (·.key)).Nodup := by
          rw [k1]
          have hn1 : (Q5f X.O l).Nodup := s1.imp λ {a b} h => by omega
          have hn2 : (Q5f X.O ks).Nodup := s2.nodup_iff.1 hn1
          exact List.Pairwise.map (Value.int .i64) (λ a b e h => e (by simpa using h)) hn2
         obtain ⟨u, w', ⟨v, ss, rfl, q1, q2, q3, q4⟩, st⟩ := Z5 ((h1 g pm.blk p.blk clock es' _ w hmem hblk (by simpa using hmv) hes hlen ⟨λ x hx => (t1 x hx).2, t2, hnd⟩ k1 k3).mono (λ e w' ⟨v, ss, a1, a2, a3, a4, a5⟩ => (⟨v, a1, v, ss, rfl, a2, a3, a4, a5⟩ : ∃ u, e = .returned u /\ ∃ v ss, u = v /\ ss.Perm (Q5f X.O ks) /\ w'.ownsRow w.heap.size T 1 v ss.length ((ss.mergeSort (λ x y => decide (x <= y))).map (Value.int .i64)) /\ (v = .slice none 0 0 ↔ ss = []) /\ Below w.heap.size w w'))) fr cs
         have hsort : ss.mergeSort (λ x y => decide (x <= y)) = Q5f X.O l := Q3y (q1.trans s2.symm) s1
         have hsl : ss.length = l.length := by
          have := (q1.trans s2.symm).length_eq
          simpa using this
         rw [hsort] at q2
         split at hr
         . cases hr
           have hss : ss = [] := List.eq_nil_of_length_eq_zero (by simpa using hsl)
           have := q3.2 hss
           subst this
           exact ⟨X, _, w', st, Ext.le.refl X, by simp only [AV.rel], hH.grow q4, q4.mono h0, λ b hb _ => ⟨hb, rfl⟩, Nat.le_refl _, hfr, hc⟩
         . rename_i e l
           simp only [sNat_eq] at hr
           cases hr
           obtain ⟨-, ⟨rfl, hz⟩ | ⟨gb, cap, cur, rfl, b1, b2, b3, b4, b5, b6⟩⟩ := q2
           . rw [hz] at hsl; simp at hsl
           . have hgb : gb < w'.heap.size := (Array.getElem?_eq_some_iff.1 b2).1
             have un := hfr next (Nat.le_refl _)
             have hle : X.le (X.add next ⟨gb, 0, cur.size⟩) := Ext.Zk un
             have hn : ss.length <= cur.size := by omega
             refine ⟨X.add next ⟨gb, 0, cur.size⟩, _, w', st, hle, ?_, (hH.grow q4).place un hgb (by show n0 <= gb; omega) (λ i q hq he => ?_) ?_, q4.mono h0, λ b hb hlt => ⟨?_, ?_⟩, by simp only; omega, λ b hb => ?_, Ctx.Q0r hc hle⟩
             . simp only [AV.rel]
               refine ⟨_, 0, cap, Ext.add_same _ _ _, ?_, Nat.le_refl _, ?_, ?_, λ _ => rfl, λ h => (by cases h)⟩
               . rw [hsl]
               . rw [<- hsl]; exact b3
               . simp only; omega
             . have := hH.lt i q hq
               simp only at he
               omega
             . refine ⟨cur, (0, 0), ⟨T, b2, .inr rfl⟩, rfl, ?_, λ h => (by cases h), λ i a hi => ?_, .inr (.inr rfl), λ _ => rfl⟩
               . simp only [List.length_map, Nat.zero_add]; rw [<- hsl]; exact hn
               . rw [List.getElem?_map] at hi
                 cases hx : (e :: l)[i]? with
                 | none => rw [hx] at hi; cases hi
                 | some x =>
                  rw [hx] at hi
                  simp only [Option.map_some, Option.some.injEq] at hi
                  subst hi
                  refine ⟨.int .i64 (x.den X.O), ?_, ?_⟩
                  . have hb6 := congrArg (·[i]?) b6
                    simp only [Nat.mul_one, List.getElem?_map, hx, Option.map_some, Q5f] at hb6
                    have hlt : i < ss.length := by rw [hsl]; exact (List.getElem?_eq_some_iff.1 hx).1
                    rw [List.getElem?_take, if_pos hlt, Array.getElem?_toList] at hb6
                    simpa using hb6
                  . simp only [AV.rel]
                    have hxk : x ∈ ks := s3 x (List.mem_of_getElem? hx)
                    have hok := k2 x hxk
                    exact ⟨E.Ql hle.dom hok, by rw [E.Qc hle.O hok]⟩
             . rw [Ext.Z9 (by omega)]; exact hb
             . exact Tr.Q0 _ _ (by omega)
             . have hb' : next + 1 <= b := hb
               rw [Ext.Z9 (by omega)]; exact hfr b (by omega)
       . cases hr
    . cases hr
  . rename_i el pl ro ho
    cases hr
    have hbase : p.base = 0 := by
     obtain ⟨_, _, _, _, _, hx, _⟩ := hH.obj _ _ _ ho hp
     exact (hx rfl).1
    obtain ⟨mv, hmv, hrel⟩ := hH.cell ho hp (i := 0) (a := .nilmap) rfl
    rw [hbase] at hmv ⊢
    simp only [AV.rel] at hrel
    subst hrel
    obtain ⟨u, w', ⟨rfl, q4⟩, st⟩ := Z5 ((h2 g p.blk w hmem hblk (by simpa using hmv)).mono (λ e w' ⟨a1, a2⟩ => (⟨_, a1, rfl, a2⟩ : ∃ u, e = .returned u /\ u = Value.slice none 0 0 /\ Below w.heap.size w w'))) fr cs
    exact ⟨X, _, w', st, Ext.le.refl X, by simp only [AV.rel], hH.grow q4, q4.mono h0, λ b hb _ => ⟨hb, rfl⟩, Nat.le_refl _, hfr, hc⟩
  . cases hr
end Go.Ax
namespace Go.Ax
open Go.RowKit
theorem Q38 : ∀ (n t : Nat) (acc : Array Value), (∀ v ∈ acc.toList, Qjf v = true) -> ∀ v ∈ (Extern.BytealgMakeNoZero.digits n t acc).toList, Qjf v = true
 | 0, _, _, h => h
 | n + 1, t, acc, h => by
  rw [Extern.BytealgMakeNoZero.digits]
  refine Q38 n _ _ λ v hv => ?_
  simp only [Array.toList_push, List.mem_append, List.mem_singleton] at hv
  rcases hv with hv | rfl
  . exact h v hv
  . rfl
theorem Qjs {P : Program} (w : World) (ps : Array TypeId) (t e : TypeId) (ht : P.underlying t = some (.slice e)) (n : Nat) (hn : n <= 281474976710656) :
 ∃ cs : Array Value, (Extern.BytealgMakeNoZero.makeNoZero ps #[t] #[.int .i64 n]).run P w = .ok (.slice (some ⟨w.heap.size, 0, none⟩) n cs.size) (grown w (.cells cs e) (w.drawn + 2)) /\ n <= cs.size /\ ∀ v ∈ cs.toList, Qjf v = true := by
 have hdef : Extern.BytealgMakeNoZero.makeNoZero ps #[t] #[.int .i64 n] =
  (do
   let .slice elem <- underlying t | stuck "bytealg.MakeNoZero: slice type expected"
   if (n : Int) < 0 || (n : Int) > 2 ^ 48 then runtimePanic (.error "makeslice: len out of range")
   let cap <- choose (.appendCap (n : Int).toNat 0 elem)
   askRoom cap
   let bytes <- choose (.extern "internal/bytealg.MakeNoZero.bytes" 0)
   let a <- newRow elem (Extern.BytealgMakeNoZero.digits cap bytes #[])
   pure (.slice (some a) (n : Int).toNat cap)) := rfl
 refine ⟨Extern.BytealgMakeNoZero.digits (grownCap w n 0 e) ((Question.extern "internal/bytealg.MakeNoZero.bytes" 0).cut (w.tape (w.drawn + 1) (.extern "internal/bytealg.MakeNoZero.bytes" 0))) #[], ?_, ?_, Q38 _ _ _ (by simp)⟩
 . rw [hdef]
   have h1 : ¬ (n : Int) < 0 := by omega
   have h2 : ¬ (281474976710656 : Int) < (n : Int) := by omega
   simp [run_underlying ht, h1, h2, Question.forced, newRow, Lib.size_digits, grownCap]
   rfl
 . rw [Lib.size_digits]
   simpa using grownCap_ge w n 0 e
noncomputable def Qec (u8 : TypeId) : Sum := λ c H next as =>
 match as with
 | [.int .i64 (.lit (.ofNat m))] => bif Nat.ble 1 m && Nat.ble m 1099511627776 then
  QE (next + 1) λ n => .ok ⟨.slice next 0 m m 1 false, H.set next (.cells (List.replicate m .any) u8 false true false), n, c⟩ else .fail
 | _ => .fail
theorem Qeb {P : Program} {G : Env} {n0 : Nat} {f : FuncId} {u8 t : TypeId} {ps : Array TypeId} (ht : P.underlying t = some (.slice u8))
 (h : ∀ (args : Array Value) (w : World), (callFunc f args).run P w = ((Extern.BytealgMakeNoZero.makeNoZero ps #[t] args).run P w).andThen λ v w' => .ok (.value v) w') : Qgb P G n0 f (Qec u8) := by
 intro c X H next w args vs r hr hc hg hH h0 hfr hargs
 unfold Qec at hr
 split at hr
 . rename_i m
   cases hb : (Nat.ble 1 m && Nat.ble m 1099511627776) with
   | false => rw [hb] at hr; cases hr
   | true =>
    rw [hb] at hr
    simp only [Bool.and_eq_true, Nat.ble_eq] at hb
    simp only [cond_true, sNat_eq] at hr
    cases hr
    obtain ⟨u, vs', e1, g1, g2⟩ := Q8.1 hargs
    have := rels_nil.1 g2
    subst this
    simp only [AV.rel] at g1
    obtain ⟨-, rfl⟩ := g1
    have hvs : vs = #[.int .i64 (m : Int)] := by rw [<- Array.toList_inj]; exact e1
    subst hvs
    obtain ⟨cs, hrun, hle, hall⟩ := Qjs (P := P) w ps t u8 ht m (by omega)
    have hbn : X.V next = none := hfr next (Nat.le_refl _)
    have hX : X.le (X.add next ⟨w.heap.size, 0, cs.size⟩) := Ext.Zk hbn
    refine ⟨X.add next ⟨w.heap.size, 0, cs.size⟩, _, _, by rw [h, hrun]; rfl, hX, ?_, ?_, below_grown h0 _ _, λ b hb' hlt => ⟨by rw [Ext.Z9 (by omega)]; exact hb', Tr.Q0 _ _ (by omega)⟩, Nat.le_succ _, λ b hb' => by rw [Ext.Z9 (by simp only at hb'; omega)]; exact hfr b (by simp only at hb'; omega), ?_⟩
    . simp only [AV.rel]
      exact ⟨_, 0, cs.size, Ext.add_same _ _ _, rfl, Nat.le_refl _, hle, by simp, λ _ => by simp, λ hf => by cases hf⟩
    . refine (hH.alloc h0 _ hbn (.cells cs u8) cs.size ?_).of_heap rfl
      refine ⟨cs, (0, 0), ⟨_, rfl, .inr rfl⟩, rfl, by simpa using hle, (λ hf => by cases hf), λ i a hi => ?_, .inr (.inr rfl), λ _ => rfl⟩
      rw [List.getElem?_replicate] at hi
      split at hi
      . rename_i hlt
        cases hi
        have hlt' : i < cs.size := by omega
        refine ⟨cs[i], by simp [hlt'], ?_⟩
        simp only [AV.rel]
        exact hall _ (by simp)
      . cases hi
    . exact Ctx.Q0r hc hX
 . cases hr
def Q6c : List E -> Option (List Nat)
 | [] => some []
 | .lit (.ofNat n) :: l => match Q6c l with | some m => some (n :: m) | none => none
 | _ :: _ => none
theorem JG : ∀ {l : List E} {m : List Nat} {O : Val}, Q6c l = some m -> S.bytes O l = m.map UInt8.ofNat
 | [], m, O, h => by cases h; rfl
 | e :: l, m, O, h => by
  unfold Q6c at h
  split at h
  . rename_i h1; cases h1
  . rename_i n l' h1
    cases h1
    split at h
    . rename_i m' hm
      cases h
      have := JG (O := O) hm
      show UInt8.ofNat ((E.lit (.ofNat n)).den O).toNat :: S.bytes O l = _
      rw [this]
      rfl
    . cases h
  . cases h
def Qge (b : Nat) : List Nat -> Nat -> Option Nat
 | [], _ => none
 | n :: l, i => bif Nat.beq (n % 256) b then some i else Qge b l (i + 1)
noncomputable def Qex : Sum := λ c H next as =>
 match as with
 | [.str s, .int .u8 (.lit (.ofNat b))] => match Q6c s with
  | some l => bif Nat.ble b 255 then (match Qge b l 0 with
   | some i => QE i λ i => .ok ⟨.int .i64 (.lit (.ofNat i)), H, next, c⟩
   | none => .ok ⟨.int .i64 (.lit (.negSucc 0)), H, next, c⟩) else .fail
  | none => .fail
 | _ => .fail
theorem Q6m {b : Nat} : ∀ {l : List Nat} {i : Nat}, Qge b l i = none -> ∀ n ∈ l, n % 256 ≠ b
 | [], _, _, n, hn => by cases hn
 | m :: l, i, h, n, hn => by
  unfold Qge at h
  cases hb : Nat.beq (m % 256) b with
  | true => rw [hb] at h; cases h
  | false =>
   rw [hb] at h
   rcases List.mem_cons.1 hn with rfl | hn
   . intro e; rw [e] at hb; simp at hb
   . exact Q6m h n hn
theorem Q6l {b : Nat} : ∀ {l : List Nat} {i j : Nat}, Qge b l i = some j -> i <= j /\ (∃ n, l[j - i]? = some n /\ n % 256 = b) /\ ∀ k < j - i, ∀ n, l[k]? = some n -> n % 256 ≠ b
 | [], _, _, h => by cases h
 | m :: l, i, j, h => by
  unfold Qge at h
  cases hb : Nat.beq (m % 256) b with
  | true =>
   rw [hb] at h
   cases h
   refine ⟨Nat.le_refl _, ⟨m, by simp, by simpa using hb⟩, λ k hk => by omega⟩
  | false =>
   rw [hb] at h
   simp only [cond_false] at h
   obtain ⟨h1, ⟨n, h2, h3⟩, h4⟩ := Q6l h
   refine ⟨by omega, ⟨n, by rw [show j - i = (j - (i + 1)) + 1 by omega, List.getElem?_cons_succ]; exact h2, h3⟩, λ k hk n hn => ?_⟩
   cases k with
   | zero => simp at hn; subst hn; intro e; rw [e] at hb; simp at hb
   | succ k => simp at hn; exact h4 k (by omega) n hn
theorem Q4g (l : List Nat) (b : Nat) (hb : b <= 255) : firstIdx ⟨(l.map UInt8.ofNat).toArray⟩ (UInt8.ofNat b) = match Qge b l 0 with | some i => (i : Int) | none => -1 := by
 have hsz : ({ data := (l.map UInt8.ofNat).toArray } : ByteArray).size = l.length := by
  show (l.map UInt8.ofNat).toArray.size = _; simp
 have hget : ∀ (i n : Nat), l[i]? = some n -> (({ data := (l.map UInt8.ofNat).toArray } : ByteArray)[i]! == UInt8.ofNat b) = (n % 256 == b) := by
  intro i n hn
  have hi : i < l.length := (List.getElem?_eq_some_iff.1 hn).1
  have e : l[i] = n := (List.getElem?_eq_some_iff.1 hn).2
  have e1 : ({ data := (l.map UInt8.ofNat).toArray } : ByteArray)[i]! = UInt8.ofNat n := by
   rw [getElem!_pos _ i (by rw [hsz]; exact hi)]
   show (l.map UInt8.ofNat).toArray[i]'(by simpa using hi) = _
   simp [e]
  rw [e1, Bool.eq_iff_iff]
  simp only [beq_iff_eq]
  constructor
  . intro h
    have := congrArg UInt8.toNat h
    simp at this
    omega
  . intro h
    apply UInt8.toNat_inj.1
    simp
    omega
 unfold firstIdx
 rw [hsz]
 cases hx : Qge b l 0 with
 | none =>
  have hn : (List.range l.length).find? (λ i => ({ data := (l.map UInt8.ofNat).toArray } : ByteArray)[i]! == UInt8.ofNat b) = none := by
   rw [List.find?_eq_none]
   intro i hi
   have hi' : i < l.length := List.mem_range.1 hi
   rw [hget i l[i] (List.getElem?_eq_getElem hi')]
   have := Q6m hx l[i] (List.getElem_mem hi')
   simpa using this
  rw [hn]
 | some j =>
  obtain ⟨-, ⟨n, h2, h3⟩, h4⟩ := Q6l hx
  simp only [Nat.sub_zero] at h2 h4
  have hj : j < l.length := (List.getElem?_eq_some_iff.1 h2).1
  have hn : (List.range l.length).find? (λ i => ({ data := (l.map UInt8.ofNat).toArray } : ByteArray)[i]! == UInt8.ofNat b) = some j := by
   rw [List.find?_range_eq_some]
   refine ⟨by rw [hget j n h2]; simpa using h3, by simpa using hj, λ k hk => ?_⟩
   have hk' : k < l.length := by omega
   rw [hget k l[k] (List.getElem?_eq_getElem hk')]
   have := h4 k hk l[k] (List.getElem?_eq_getElem hk')
   simpa using this
  rw [hn]
theorem Qew {P : Program} {G : Env} {n0 : Nat} {f : FuncId}
 (h : ∀ (args : Array Value) (w : World), (callFunc f args).run P w = ((Extern.BytealgIndexByte.indexByte args).run P w).andThen λ v w' => .ok (.value v) w') : Qgb P G n0 f Qex := by
 intro c X H next w args vs r hr hc hg hH h0 hfr hargs
 unfold Qex at hr
 split at hr
 . rename_i s b
   split at hr
   . rename_i l hl
     cases hb : Nat.ble b 255 with
     | false => rw [hb] at hr; cases hr
     | true =>
      rw [hb] at hr
      simp only [cond_true] at hr
      obtain ⟨u, vs', e1, g1, g2⟩ := Q8.1 hargs
      obtain ⟨v, vs'', rfl, g3, g4⟩ := Q8.1 g2
      have := rels_nil.1 g4
      subst this
      simp only [AV.rel] at g1 g3
      obtain ⟨-, rfl⟩ := g1
      obtain ⟨-, rfl⟩ := g3
      have hvs : vs = #[.string ⟨(S.bytes X.O s).toArray⟩, .int .u8 (b : Int)] := by rw [<- Array.toList_inj]; exact e1
      subst hvs
      have hrun : (callFunc f #[.string ⟨(S.bytes X.O s).toArray⟩, .int .u8 (b : Int)]).run P w = .ok (.value (.int .i64 (match Qge b l 0 with | some i => (i : Int) | none => -1))) w := by
       rw [h, run_indexByte_string, JG hl]
       have e : ((b : Int).toNat.toUInt8) = UInt8.ofNat b := by simp
       rw [e, Q4g l b (by simpa using hb)]
       rfl
      cases hx : Qge b l 0 with
      | some i =>
       rw [hx] at hr hrun
       simp only [sNat_eq] at hr
       cases hr
       exact ⟨X, _, w, hrun, Ext.le.refl X, by simp only [AV.rel]; exact ⟨trivial, rfl⟩, hH, Below.refl _ _, λ b hb _ => ⟨hb, rfl⟩, Nat.le_refl _, hfr, hc⟩
      | none =>
       rw [hx] at hr hrun
       cases hr
       exact ⟨X, _, w, hrun, Ext.le.refl X, by simp only [AV.rel]; exact ⟨trivial, rfl⟩, hH, Below.refl _ _, λ b hb _ => ⟨hb, rfl⟩, Nat.le_refl _, hfr, hc⟩
   . cases hr
 . cases hr
end Go.Ax
namespace Go.Ax
open Go.RowKit
theorem Q8d {P : Program} {w : World} {t : TypeId} {ms : Array (String × TypeId)} (ht : P.underlying t = some (.interface ms)) : (binOp .neq t .nilIface .nilIface).run P w = .ok (.bool false) w := by
 have hu := run_underlying (P := P) ht w
 have h : (Op.equalIn (9999 + 1) t .nilIface .nilIface).run P w = .ok true w := by
  unfold Op.equalIn
  simp [hu]
 unfold binOp
 simp only [Op.equal, Op.maxDepth, Sem.run_bind]
 rw [show (10000 : Nat) = 9999 + 1 from rfl, h]
 rfl
abbrev dfr (f : FuncId) (td : List Item) (tm : Array Value) (md : FrameMode) : Frame := { fn := f, tmps := tm, todo := td, defers := [], mode := md, kind := .deferred }
theorem Qno {f : FuncId} {ops : Array Oper} {i d : Nat} {l : List Nat} {k : List Item} {tm : Array Value} {v : Value} {o : Oper} (ho : ops[i]? = some o) (hd : o.dst = some d) :
 (dfr f (.inRegion ops (i :: l) :: k) tm .run).finish v = dfr f (.inRegion ops l :: k) (tm.setIfInBounds d v) .run := by simp [Frame.finish, ho, hd]
theorem Q09 {o : Oper} {y : Nat -> Option Bool} (h : o.guard = none) : Region.wanted o y = true := by
 unfold Region.wanted; rw [h]
section
variable {P : Program} {f : FuncId} {c : Frame} {cs : List Frame} {w : World}
theorem Q37 {ops : Array Oper} {i d : Nat} {l : List Nat} {k : List Item} {tm : Array Value} {o : Oper} (hc : c.mode = .returning) (ho : ops[i]? = some o) (hg : o.guard = none) (hd : o.dst = some d)
 (hp : o.op = .call { callee := .builtin .recover, args := #[], argTypes := #[] })
 (h' : Steps P (lone (dfr f (.inRegion ops l :: k) (tm.setIfInBounds d .nilIface) .run) (c :: cs) w) (lone c cs w)) : Steps P (lone (dfr f (.inRegion ops (i :: l) :: k) tm .run) (c :: cs) w) (lone c cs w) := by
 have h := Qbm (P := P) (fr := dfr f (.inRegion ops (i :: l) :: k) tm .run) (cs := cs) (w := w) (w' := w) (o := o) rfl rfl ho (Q09 hg) rfl hc rfl (by unfold execOp; rw [hp]; simp [resolve, invoke, builtin])
 rw [Qno ho hd] at h
 exact .head h h'
theorem Qau {ops : Array Oper} {i d : Nat} {l : List Nat} {k : List Item} {tm : Array Value} {o : Oper} {v : Value} (ho : ops[i]? = some o) (hg : o.guard = none) (hd : o.dst = some d)
 (hn : ∀ c, o.op ≠ .defer c) (hr : (execOp (evC tm) o).run P w = .ok (.value v) w)
 (h' : Steps P (lone (dfr f (.inRegion ops l :: k) (tm.setIfInBounds d v) .run) (c :: cs) w) (lone c cs w)) : Steps P (lone (dfr f (.inRegion ops (i :: l) :: k) tm .run) (c :: cs) w) (lone c cs w) := by
 have h := zw (P := P) (fr := dfr f (.inRegion ops (i :: l) :: k) tm .run) (cs := c :: cs) (w := w) (w' := w) (o := o) (v := v) rfl rfl ho (Q09 hg) hn hr
 rw [Qno ho hd] at h
 exact .head h h'
theorem Qfa {a b : Code} {k : List Item} {tm : Array Value} (h' : Steps P (lone (dfr f (.code a :: .code b :: k) tm .run) (c :: cs) w) (lone c cs w)) : Steps P (lone (dfr f (.code (.seq a b) :: k) tm .run) (c :: cs) w) (lone c cs w) :=
 .head (Qiv rfl rfl) h'
theorem Q1j {id : Nat} {a b : Oper} {k : List Item} {tm : Array Value} (h' : Steps P (lone (dfr f (.inRegion #[a, b] [0, 1] :: k) tm .run) (c :: cs) w) (lone c cs w)) : Steps P (lone (dfr f (.code (.region id #[a, b] false) :: k) tm .run) (c :: cs) w) (lone c cs w) :=
 .head (Q5p rfl rfl) h'
theorem Qfb {ops : Array Oper} {k : List Item} {tm : Array Value} (h' : Steps P (lone (dfr f k tm .run) (c :: cs) w) (lone c cs w)) : Steps P (lone (dfr f (.inRegion ops [] :: k) tm .run) (c :: cs) w) (lone c cs w) :=
 .head (Yz rfl rfl) h'
theorem Qav {d : Nat} {a : Code} {tm : Array Value} {fn : Func} (hc : c.mode = .returning) (hf : P.funcs[f]? = some fn) (hr : fn.results = #[]) (hd : evC tm (.tmp d) = .bool false) :
 Steps P (lone (dfr f [.code (.cond (.tmp d) a .skip)] tm .run) (c :: cs) w) (lone c cs w) := by
 refine .head (Q88 (t := false) rfl rfl hd) (.head (Qdd rfl rfl) (.head (Qix rfl rfl rfl) (.one (Qbl (v := .tuple #[]) (w' := w) rfl rfl rfl hc hf ?_))))
 unfold results
 rw [hr]
 simp
theorem Qaq {tm : Array Value} {o : Oper} {t : TypeId} {x : Nat} {ms : Array (String × TypeId)} (ht : P.underlying t = some (.interface ms)) (hp : o.op = .binOp .neq t (.tmp x) (.const .nilIface) t) (hx : evC tm (.tmp x) = .nilIface) : (execOp (evC tm) o).run P w = .ok (.value (.bool false)) w := by
 have hx' : tm.getD x undef = .nilIface := hx
 unfold execOp; rw [hp]
 simp only [evC, hx', Sem.run_bind, JD (P := P) (w := w) (op := .neq) (t := t) (xo := .tmp x) (yo := .const .nilIface) rfl, Result.andThen_ok, Q8d ht, Sem.run_pure]
theorem noopA {fn : Func} {i0 i1 : Nat} {o0 o1 o2 o3 : Oper} {c1 : Code} {t : TypeId} {ms : Array (String × TypeId)} (ht : P.underlying t = some (.interface ms)) (hf : P.funcs[f]? = some fn) (hcall : ∀ args w, (callFunc f args).run P w = .ok (.enter f args) w)
 (hb : fn.body = some (.seq (.region i0 #[o0, o1] false) (.seq (.region i1 #[o2, o3] false) (.cond (.tmp 5) c1 .skip)))) (hr : fn.results = #[]) (hn : 6 <= fn.ntmps)
 (p0 : o0.op = .call { callee := .builtin .recover, args := #[], argTypes := #[] }) (d0 : o0.dst = some 3) (g0 : o0.guard = none)
 (p1 : o1.op = .assign (.tmp 3)) (d1 : o1.dst = some 2) (g1 : o1.guard = none)
 (p2 : o2.op = .move (.tmp 2)) (d2 : o2.dst = some 4) (g2 : o2.guard = none)
 (p3 : o3.op = .binOp .neq t (.tmp 4) (.const .nilIface) t) (d3 : o3.dst = some 5) (g3 : o3.guard = none) : Q3q P f := by
 refine ⟨hcall, λ c cs w args hc => ?_⟩
 have he : Frame.enter P f args .deferred = dfr f [.code (.seq (.region i0 #[o0, o1] false) (.seq (.region i1 #[o2, o3] false) (.cond (.tmp 5) c1 .skip)))] (args ++ Array.replicate (fn.ntmps - args.size) undef) .run := by
  simp [Frame.enter, hf, hb]
 rw [he]
 generalize hT : args ++ Array.replicate (fn.ntmps - args.size) undef = T
 have hs : 6 <= T.size := by rw [<- hT]; simp; omega
 clear hT he
 refine Qfa (Q1j (Q37 hc rfl g0 d0 p0 (Qau (o := o1) (v := .nilIface) rfl g1 d1 (λ cc e => by rw [p1] at e; cases e) ?_ (Qfb (Qfa (Q1j (Qau (o := o2) (v := .nilIface) rfl g2 d2 (λ cc e => by rw [p2] at e; cases e) ?_ (Qau (o := o3) (v := .bool false) rfl g3 d3 (λ cc e => by rw [p3] at e; cases e) (Qaq ht p3 ?_) (Qfb (Qav hc hf hr ?_))))))))))
 . unfold execOp; rw [p1]; simp [evC, show 3 < T.size by omega]
 . unfold execOp; rw [p2]; simp [evC, show 2 < T.size by omega]
 . simp [evC, show 4 < T.size by omega]
 . simp [evC, show 5 < T.size by omega]
theorem noopB {fn : Func} {i0 : Nat} {o0 o1 : Oper} {c1 : Code} {t : TypeId} {ms : Array (String × TypeId)} (ht : P.underlying t = some (.interface ms)) (hf : P.funcs[f]? = some fn) (hcall : ∀ args w, (callFunc f args).run P w = .ok (.enter f args) w)
 (hb : fn.body = some (.seq (.region i0 #[o0, o1] false) (.cond (.tmp 3) c1 .skip))) (hr : fn.results = #[]) (hn : 5 <= fn.ntmps)
 (p0 : o0.op = .call { callee := .builtin .recover, args := #[], argTypes := #[] }) (d0 : o0.dst = some 2) (g0 : o0.guard = none)
 (p3 : o1.op = .binOp .neq t (.tmp 2) (.const .nilIface) t) (d3 : o1.dst = some 3) (g3 : o1.guard = none) : Q3q P f := by
 refine ⟨hcall, λ c cs w args hc => ?_⟩
 have he : Frame.enter P f args .deferred = dfr f [.code (.seq (.region i0 #[o0, o1] false) (.cond (.tmp 3) c1 .skip))] (args ++ Array.replicate (fn.ntmps - args.size) undef) .run := by
  simp [Frame.enter, hf, hb]
 rw [he]
 generalize hT : args ++ Array.replicate (fn.ntmps - args.size) undef = T
 have hs : 5 <= T.size := by rw [<- hT]; simp; omega
 clear hT he
 refine Qfa (Q1j (Q37 hc rfl g0 d0 p0 (Qau (o := o1) (v := .bool false) rfl g3 d3 (λ cc e => by rw [p3] at e; cases e) (Qaq ht p3 ?_) (Qfb (Qav hc hf hr ?_)))))
 . simp [evC, show 2 < T.size by omega]
 . simp [evC, show 3 < T.size by omega]
end
end Go.Ax
namespace Go.Ax
open Go.RowKit
noncomputable def Q05 (ts : List (Nat × Nat)) : Sum := λ c H next args =>
 match args with
 | [.ptr b 0] => match H.get b with
  | some (.cells (.nilptr :: ys) el true pl false) => bif ts.any (λ q => Nat.beq q.1 el && Nat.beq q.2 (ys.length + 1)) then .ok ⟨.tuple [], H.set b (.cells (.ptr b 0 :: ys) el true pl false), next, c⟩ else .fail
  | some (.cells (.ptr b' 0 :: _) _ true _ _) => bif Nat.beq b' b then .ok ⟨.tuple [], H, next, c⟩ else .fail
  | _ => .fail
 | _ => .fail
theorem Q97 {P : Program} {G : Env} {n0 : Nat} {f : FuncId} {ts : List (Nat × Nat)}
 (hfresh : ∀ q ∈ ts, ∀ (b : Nat) (w : World), w.cell? ⟨b, 0, none⟩ = some (.pointer none) -> w.shape? b = some (q.1, q.2) -> w.frozen? ⟨b, 0, none⟩ = false ->
  Calls P f #[.pointer (some ⟨b, 0, none⟩)] w λ e w' => e = .returned (.tuple #[]) /\ w' = w.setCell ⟨b, 0, none⟩ (.pointer (some ⟨b, 0, none⟩)))
 (hused : ∀ (b : Nat) (w : World), w.cell? ⟨b, 0, none⟩ = some (.pointer (some ⟨b, 0, none⟩)) -> Calls P f #[.pointer (some ⟨b, 0, none⟩)] w λ e w' => e = .returned (.tuple #[]) /\ w' = w) :
 Zw P G n0 f (Q05 ts) := by
 intro c X H next w args vs r h hc hg hH h0 hfr hargs fr cs
 unfold Q05 at h
 split at h
 . rename_i b
   obtain ⟨v, vs', hvs, hv, hnil⟩ := hargs
   simp only [AV.rel] at hv
   obtain ⟨p, hp, rfl⟩ := hv
   have hnil' : vs' = [] := hnil
   subst hnil'
   have hva : vs = #[.pointer (some ⟨p.blk, p.base + 0, none⟩)] := by rw [<- Array.toList_inj]; exact hvs
   subst hva
   split at h
   . rename_i ys el pl hb
     cases ht : ts.any (λ q => Nat.beq q.1 el && Nat.beq q.2 (ys.length + 1)) with
     | false => rw [ht] at h; cases h
     | true =>
      rw [ht] at h
      cases h
      obtain ⟨q, hq, hqe⟩ := List.any_eq_true.1 ht
      simp only [Bool.and_eq_true, Nat.beq_eq] at hqe
      obtain ⟨cc, frz, ⟨el', h1, mel⟩, h2, h3, h4, h5, h6⟩ := hH.obj _ _ p hb hp
      have mel' := mel.resolve_left (by simp)
      rw [mel'] at h1
      obtain ⟨hb0, hn2⟩ := h4 rfl
      obtain ⟨v, hcell, hvr⟩ := hH.cell (i := 0) hb hp rfl
      simp only [AV.rel] at hvr
      subst hvr
      rw [hb0] at hcell ⊢
      have hsh : w.shape? p.blk = some (q.1, q.2) := by
       simp only [World.shape?, h1, h2, hn2, hqe.1, hqe.2]
       rfl
      have hfz := hH.notFrozen (i := 0) hb hp (by rw [hb0, hn2]; simp)
      rw [hb0] at hfz
      have hst := hH.store (i := 0) (a := .ptr b 0) (v := .pointer (some ⟨p.blk, 0, none⟩)) hb hp (by simp) (by simp only [AV.rel]; exact ⟨p, hp, by rw [hb0]⟩)
      rw [hb0] at hst
      refine ⟨X, .tuple #[], _, JN (hfresh q hq p.blk w hcell hsh hfz) fr cs, Ext.le.refl X, Qw X, hst, ?_, λ d hd _ => ⟨hd, Tr.Q0 _ _ (QY hp hd)⟩, Nat.le_refl _, hfr, hc⟩
      have hown := hH.own b _ p hb rfl hp
      exact ⟨rfl, rfl, rfl, by simp [World.setCell], λ k hk => Below.heap_setCell _ _ _ _ (by simp only; omega)⟩
   . rename_i b' _ el pl ro hb
     cases ht : Nat.beq b' b with
     | false => rw [ht] at h; cases h
     | true =>
      rw [ht] at h
      cases h
      have hbb : b' = b := by simpa using ht
      subst hbb
      obtain ⟨cc, frz, ⟨el', h1, mel⟩, h2, h3, h4, h5, h6⟩ := hH.obj _ _ p hb hp
      obtain ⟨hb0, hn2⟩ := h4 rfl
      obtain ⟨v, hcell, hvr⟩ := hH.cell (i := 0) hb hp rfl
      simp only [AV.rel] at hvr
      obtain ⟨p', hp', rfl⟩ := hvr
      rw [hp] at hp'
      cases hp'
      rw [hb0] at hcell ⊢
      exact ⟨X, .tuple #[], w, JN (hused p.blk w hcell) fr cs, Ext.le.refl X, Qw X, hH, Below.refl _ _, λ d hd _ => ⟨hd, rfl⟩, Nat.le_refl _, hfr, hc⟩
   . cases h
 . cases h
end Go.Ax
namespace Go.Ax
open Go.RowKit
theorem run_next_at {P : Program} (w : World) (ty : TypeId) (r bm since c0 : Nat) (seen : Array Nat) (es : Array MapEntry) (clock : Nat) (hr : w.heap[r]? = some (.mapIter (some bm) since seen c0)) (hb : w.heap[bm]? = some (.map es clock)) (hold : ∀ x ∈ es.toList, x.born < since) (hsc : since <= c0) :
 ((leftOf es seen).size = 0 /\ (Instr.next (.pointer (some ⟨r, 0, none⟩)) false ty).run P w = .ok (.tuple #[.bool false]) w) \/
 ∃ e ∈ (leftOf es seen).toList, ∃ d, (Instr.next (.pointer (some ⟨r, 0, none⟩)) false ty).run P w = .ok (.tuple #[.bool true, e.key, e.val]) { w with heap := w.heap.setIfInBounds r (.mapIter (some bm) since (seen.push e.born) clock), drawn := d } := by
 have g1 := Qk (P := P) hr (by simp)
 have g2 := Qk (P := P) hb (by simp)
 simp only [Instr.next, Sem.run_bind, g1, g2, Result.andThen_ok, next_test_false seen es since c0 hold hsc, Bool.false_eq_true, if_false]
 have hmem : ∀ x ∈ (leftOf es seen).toList, x.born < since := λ x hx => hold x (mem_left hx).1
 unfold leftOf at hmem ⊢
 generalize Array.filter (λ e => !seen.contains e.born) es = L at hmem ⊢
 have e1 : L.filter (λ x => decide (x.born < since)) = L := Array.filter_eq_self.2 (λ x hx => by simpa using hmem x (by simpa using hx))
 have e2 : L.filter (λ x => decide (x.born >= since)) = #[] := by
  rw [Array.filter_eq_empty_iff]
  intro x hx
  have := hmem x (by simpa using hx)
  simp
  omega
 simp only [e1, e2, Array.append_empty]
 by_cases h0 : L.size = 0
 . left
   have : L = #[] := Array.eq_empty_of_size_eq_zero h0
   subst this
   refine ⟨rfl, ?_⟩
   simp [choose, Sem.run, Question.forced]
 . right
   have hne : L.isEmpty = false := by simp [Array.isEmpty, h0]
   simp only [hne, Bool.false_eq_true, if_false, Array.empty_append, Array.size_map]
   have hch : ∃ (j : Nat) (d : Nat), j < L.size /\ (choose (Question.mapNext L.size)).run P w = .ok j { w with drawn := d } := by
    by_cases hf : L.size <= 1
    . exact ⟨0, w.drawn, by omega, by simp [choose, Sem.run, Question.forced, hf]⟩
    . exact ⟨_, w.drawn + 1, Nat.mod_lt _ (by omega), by
       simp only [choose, Sem.run, Question.forced, decide_eq_true_eq, hf, if_false, Question.cut]; rfl⟩
   obtain ⟨j, d, hj, hrun⟩ := hch
   refine ⟨L[j], by simp, d, ?_⟩
   have g3 := Z0 (P := P) (w := { w with drawn := d }) (o' := .mapIter (some bm) since (seen.push L[j].born) clock) hr (by simp)
   simp only [hrun, Array.getElem?_map, Array.getElem?_eq_getElem hj, Option.map_some, Sem.run_bind, Result.andThen_ok, g3]
   rfl
theorem run_entry_at {P : Program} (w : World) (r bm since : Nat) (seen : Array Nat) (es : Array MapEntry) (clock c0 : Nat) (e : MapEntry) (hr : w.heap[r]? = some (.mapIter (some bm) since (seen.push e.born) c0)) (hb : w.heap[bm]? = some (.map es clock)) (he : e ∈ es.toList) (hn : (es.toList.map (·.born)).Nodup) (hc : c0 = clock) :
 (Instr.entry (.pointer (some ⟨r, 0, none⟩))).run P w = .ok (.tuple #[e.key, e.val]) w := by
 subst hc
 have g1 := Qk (P := P) hr (by simp)
 have g2 := Qk (P := P) hb (by simp)
 have hf : es.find? (·.born == e.born) = some e := by rw [<- Array.find?_toList]; exact find_born e es.toList hn he
 simp only [Instr.entry, Sem.run_bind, g1, g2, Result.andThen_ok, Array.back?_push, bne_self_eq_false, Bool.false_eq_true, if_false, hf]
 rfl
end Go.Ax
namespace Go.Ax
open Go.RowKit
theorem Q4z {k : IntKind} {a b r : E} {O : Val} (h : E.arith .sub k a b = some r) : r.den O = k.wrap (a.den O - b.den O) := by
 unfold E.arith at h
 split at h <;> simp only [Option.some.injEq, reduceCtorEq, E.litS_eq, wrapK_eq] at h <;> subst h <;> first
  | rfl
  | (rw [E.Q3v]; rfl)
  | exact absurd ‹BinOp.sub = BinOp.add› (by decide)
  | exact absurd ‹BinOp.sub = BinOp.mul› (by decide)
noncomputable def Qhs (x : AV × AV × Nat) : Bool :=
 match x.1, x.2.1 with
 | .agg [.int .i64 _, .int .i64 _, .int .i64 _, .int .i64 _, .int .i64 _], .agg [.int .i64 _, .int .i64 _] => true
 | _, _ => false
noncomputable def Qho (x : AV × AV × Nat) : E :=
 match x.2.1 with
 | .agg [.int .i64 l, _] => l
 | _ => .lit 0
noncomputable def Qal (c : Ctx) (now l : E) : D Bool :=
 match E.cmp c .gtr now l with
 | some false => .ok true
 | _ => match E.conv .u64 now, E.conv .u64 l with
  | some a, some b => match E.arith .sub .u64 a b with
   | some d => match E.cmp c .gtr d (.lit (.ofNat 400)) with
    | some false => .ok true
    | some true => .ok false
    | none => .ask .gtr d (.lit (.ofNat 400))
   | none => .ok false
  | _, _ => .ok false
noncomputable def Q02 (c : Ctx) (now : E) : List (AV × AV × Nat) -> D Bool
 | [] => .ok true
 | x :: l => match Qal c now (Qho x) with
  | .ok true => Q02 c now l
  | r => r
def Q69 : List Nat -> Bool
 | [] => true
 | x :: l => !l.any (Nat.beq x) && Q69 l
theorem yh : ∀ {l : List Nat}, Q69 l = true -> l.Nodup
 | [], _ => List.nodup_nil
 | x :: l, h => by
  simp only [Q69, Bool.and_eq_true, Bool.not_eq_true'] at h
  refine List.nodup_cons.2 ⟨λ hx => ?_, yh h.2⟩
  have : l.any (Nat.beq x) = true := List.any_eq_true.2 ⟨x, hx, by simp⟩
  rw [this] at h
  cases h.1
theorem Q6r {n : Nat -> Prop} {c : Ctx} {O : Val} {now l : E} (hc : c.okN n O) (h : Qal c now l = .ok true) :
 (decide (now.den O > l.den O) && decide (IntKind.u64.wrap (IntKind.u64.wrap (now.den O) - IntKind.u64.wrap (l.den O)) > 400)) = false := by
 unfold Qal at h
 split at h
 . rename_i h1
   have := E.Qf rfl h1 hc
   simp only [Y3] at this
   rw [this]
   rfl
 . split at h
   . rename_i a b ha hb
     split at h
     . rename_i d hd
       split at h
       . rename_i h2
         have t := E.Qf rfl h2 hc
         simp only [Y3, E.den] at t
         rw [Q4z hd, <- E.qd (O := O) ha, <- E.qd (O := O) hb] at t
         rw [Bool.and_eq_false_iff, decide_eq_false_iff_not, decide_eq_false_iff_not]
         exact .inr (of_decide_eq_false t)
       . cases h
       . cases h
     . cases h
   . cases h
theorem qE {n : Nat -> Prop} {c : Ctx} {O : Val} {now : E} (hc : c.okN n O) : ∀ {l : List (AV × AV × Nat)}, Q02 c now l = .ok true -> ∀ x ∈ l, Qal c now (Qho x) = .ok true
 | [], _, x, hx => by cases hx
 | y :: l, h, x, hx => by
  unfold Q02 at h
  split at h
  . rename_i hy
    rcases List.mem_cons.1 hx with rfl | hx
    . exact hy
    . exact qE hc h x hx
  . rename_i r hr
    rw [h] at hr
    exact absurd rfl (hr ·)
theorem Jj {X : Ext} : ∀ {xs : List (AV × AV × Nat)} {es : List MapEntry}, Q9 X xs es -> ∀ e ∈ es, ∃ x ∈ xs, x.1.rel X e.key /\ x.2.1.rel X e.val /\ e.born = x.2.2
 | [], es, h, e, he => by simp only [Q9] at h; subst h; cases he
 | x :: xs, es, ⟨e', es', h1, h2, h3, h4, h5⟩, e, he => by
  subst h1
  rcases List.mem_cons.1 he with rfl | he
  . exact ⟨x, by simp, h2, h3, h4⟩
  . obtain ⟨y, hy, k⟩ := Jj h5 e he
    exact ⟨y, by simp [hy], k⟩
theorem yA {X : Ext} : ∀ {xs : List (AV × AV × Nat)} {es : List MapEntry}, Q9 X xs es -> es.map (·.born) = xs.map (·.2.2)
 | [], es, h => by simp only [Q9] at h; subst h; rfl
 | x :: xs, es, ⟨e', es', h1, h2, h3, h4, h5⟩ => by
  subst h1
  simp only [List.map_cons, h4, yA h5]
noncomputable def Q1b : Sum := λ c H next as =>
 match as with
 | [.ptr F o, .int .i64 now] => match H.get F with
  | some (.cells cs _ _ _ _) => match cs[o + 1]? with
   | some (.map m) => match H.get m with
    | some (.map es clock) => bif es.all Qhs && (es.all (λ x => Nat.blt x.2.2 clock) && Q69 (es.map (·.2.2))) then
     (match Q02 c now es with
     | .ok true => .ok ⟨.tuple [], H, next, c⟩
     | .ask op a b => .ask op a b
     | _ => .fail) else .fail
    | _ => .fail
   | _ => .fail
  | _ => .fail
 | _ => .fail
theorem Q6v {P : Program} {G : Env} {n0 : Nat} {f : FuncId}
 (h : ∀ (F o mb : Nat) (now : Int) (es : Array MapEntry) (clock : Nat) (w : World), w.cell? ⟨F, o + 1, none⟩ = some (.map (some mb)) -> w.heap[mb]? = some (.map es clock) -> (∀ x ∈ es.toList, x.born < clock) -> (es.toList.map (·.born)).Nodup ->
  (∀ x ∈ es.toList, ∃ a b c d e : Int, x.key = .agg #[.int .i64 a, .int .i64 b, .int .i64 c, .int .i64 d, .int .i64 e]) ->
  (∀ x ∈ es.toList, ∃ l n : Int, x.val = .agg #[.int .i64 l, .int .i64 n] /\ (decide (now > l) && decide (IntKind.u64.wrap (IntKind.u64.wrap now - IntKind.u64.wrap l) > 400)) = false) ->
  Calls P f #[.pointer (some ⟨F, o, none⟩), .int .i64 now] w λ e w' => e = .returned (.tuple #[]) /\ Below w.heap.size w w') : Zw P G n0 f Q1b := by
 intro c X H next w args vs r hr hc hg hH h0 hfr hargs fr cs
 unfold Q1b at hr
 split at hr
 . rename_i F o now
   split at hr
   . rename_i cells el ex pl ro hF
     split at hr
     . rename_i m hm
       split at hr
       . rename_i es clock hes
         cases hb : (es.all Qhs && (es.all (λ x => Nat.blt x.2.2 clock) && Q69 (es.map (·.2.2)))) with
         | false => rw [hb] at hr; cases hr
         | true =>
          rw [hb] at hr
          simp only [cond_true] at hr
          split at hr
          . rename_i hfresh
            cases hr
            simp only [Bool.and_eq_true] at hb
            obtain ⟨b1, b2, b3⟩ := hb
            obtain ⟨u, vs', e1, g1, g2⟩ := Q8.1 hargs
            obtain ⟨v, vs'', rfl, g3, g4⟩ := Q8.1 g2
            have := rels_nil.1 g4
            subst this
            simp only [AV.rel] at g1 g3
            obtain ⟨p, hp, rfl⟩ := g1
            obtain ⟨k2, rfl⟩ := g3
            have hvs : vs = #[.pointer (some ⟨p.blk, p.base + o, none⟩), .int .i64 (now.den X.O)] := by rw [<- Array.toList_inj]; exact e1
            subst hvs
            obtain ⟨vm, hcell, hvr⟩ := hH.cell (i := o + 1) hF hp hm
            simp only [AV.rel] at hvr
            obtain ⟨pm, hpm, rfl⟩ := hvr
            obtain ⟨es', hmap, hrel⟩ := hH.obj _ _ pm hes hpm
            have hcall := h p.blk (p.base + o) pm.blk (now.den X.O) es' clock w (by rw [Nat.add_assoc]; exact hcell) hmap
             (λ x hx => by
              obtain ⟨y, hy, -, -, hborn⟩ := Jj hrel x hx
              rw [hborn]
              have := List.all_eq_true.1 b2 y hy
              simpa using this)
             (by rw [yA hrel]; exact yh b3)
             (λ x hx => by
              obtain ⟨y, hy, hk, -, -⟩ := Jj hrel x hx
              have := List.all_eq_true.1 b1 y hy
              unfold Qhs at this
              split at this
              . rename_i e1 e2 e3 e4 e5 f1 f2 q1 q2
                rw [q1] at hk
                simp only [AV.rel] at hk
                obtain ⟨ws, hw1, hw2⟩ := hk
                obtain ⟨v1, l1, r1, a1, hw2⟩ := Q8.1 hw2
                obtain ⟨v2, l2, r2, a2, hw2⟩ := Q8.1 hw2
                obtain ⟨v3, l3, r3, a3, hw2⟩ := Q8.1 hw2
                obtain ⟨v4, l4, r4, a4, hw2⟩ := Q8.1 hw2
                obtain ⟨v5, l5, r5, a5, hw2⟩ := Q8.1 hw2
                have r6 := rels_nil.1 hw2
                subst r6 r5 r4 r3 r2
                simp only [AV.rel] at a1 a2 a3 a4 a5
                refine ⟨e1.den X.O, e2.den X.O, e3.den X.O, e4.den X.O, e5.den X.O, ?_⟩
                rw [hw1]
                congr 1
                rw [<- Array.toList_inj, r1, a1.2, a2.2, a3.2, a4.2, a5.2]
              . cases this)
             (λ x hx => by
              obtain ⟨y, hy, -, hv, -⟩ := Jj hrel x hx
              have hfl := List.all_eq_true.1 b1 y hy
              have hfr := Q6r (O := X.O) hc (qE hc hfresh y hy)
              unfold Qhs at hfl
              split at hfl
              . rename_i e1 e2 e3 e4 e5 f1 f2 q1 q2
                have hl : Qho y = f1 := by unfold Qho; rw [q2]
                rw [q2] at hv
                simp only [AV.rel] at hv
                obtain ⟨ws, hw1, hw2⟩ := hv
                obtain ⟨v1, l1, r1, a1, hw2⟩ := Q8.1 hw2
                obtain ⟨v2, l2, r2, a2, hw2⟩ := Q8.1 hw2
                have r6 := rels_nil.1 hw2
                subst r6 r2
                simp only [AV.rel] at a1 a2
                refine ⟨f1.den X.O, f2.den X.O, ?_, by rw [<- hl]; exact hfr⟩
                rw [hw1]
                congr 1
                rw [<- Array.toList_inj, r1, a1.2, a2.2]
              . cases hfl)
            obtain ⟨u, w', ⟨rfl, hB⟩, st⟩ := Z5 (q := λ v w' => v = .tuple #[] /\ Below w.heap.size w w') (hcall.mono λ e w' he => ⟨.tuple #[], he.1, rfl, he.2⟩) fr cs
            exact ⟨X, .tuple #[], w', st, Ext.le.refl X, Qw X, ⟨λ b o p ho hp => by rw [hB.block _ (hH.lt _ _ hp)]; exact hH.obj b o p ho hp, hH.inj, λ b p hp => Nat.lt_of_lt_of_le (hH.lt b p hp) hB.size, hH.own⟩, hB.mono h0, λ b hb _ => ⟨hb, rfl⟩, Nat.le_refl _, hfr, hc⟩
          . cases hr
          . cases hr
       . cases hr
     . cases hr
   . cases hr
 . cases hr
end Go.Ax
namespace Go.Ax
open Go.RowKit
structure Fr where
 fn : Nat
 nt : Nat
 cur : zm
 todo : List Qj
 tms : List AV
noncomputable def Fr.af (f : Fr) : Qg := ⟨f.fn, f.nt, setArgs 0 f.tms (.sk f.nt), f.cur, f.todo, [], false, none⟩
structure StC where
 fr : Fr
 cs : List Fr
 l : List (Nat × Q7)
 next : Nat
 fs : List Fact
 vs : List Nat
noncomputable def StC.am (t : StC) (room : Nat) : AM := ⟨t.fr.af, t.cs.map Fr.af, Q2u room t.l, t.next, ⟨t.fs, t.vs⟩⟩
noncomputable def Qns : zm -> Bool
 | .draw ops done rest pa => match rest, pa with
  | (i, _) :: _, [] => Nat.beq (Nat.land done (((Q4w ops 0 (.sk ops.length)).get i).getD 0)) done
  | _, _ => false
 | _ => true
theorem zV {ops : List Oper} {done : Nat} {rest : List (Nat × List Nat)} {pa : List (Nat × Nat)} (h : Qns (.draw ops done rest pa) = true) : ∃ i rc rest', rest = (i, rc) :: rest' /\ pa = [] /\ Nat.land done (((Q4w ops 0 (.sk ops.length)).get i).getD 0) = done := by
 cases rest with
 | nil => simp [Qns] at h
 | cons q r =>
  obtain ⟨i, rc⟩ := q
  cases pa with
  | nil => exact ⟨i, rc, r, rfl, rfl, Nat.eq_of_beq_eq_true h⟩
  | cons => simp [Qns] at h
noncomputable def frB (U : Sb) (vs : List Nat) (K : Nat -> Bool) (a : Qg) (f : Fr) : Bool :=
 !a.ret && (Qat a.defers && (Qkc a.ro && (Qns a.cur && (a.todo.all Q2o && (Q99 U vs K a.tm 0 f.tms && Nat.beq f.tms.length a.nt)))))
noncomputable def Qkx (U : Sb) (vs : List Nat) (K : Nat -> Bool) : List Qg -> List Fr -> Bool
 | [], [] => true
 | a :: as, f :: fs => frB U vs K a f && Qkx U vs K as fs
 | _, _ => false
section
variable {P : Program} {G : Env} {n0 : Nat} {H H' : Tr Q7} {X X' : Ext} {U : Sb} {vs : List Nat} {K : Nat -> Bool} {a : Qg} {t : Fr} {f : Frame}
theorem Qan (hk : frB U vs K a t = true) (h1 : a.fn = t.fn) (h : jT P X a f) : jT P X' t.af f := by
 simp only [frB, Bool.and_eq_true, Bool.not_eq_true'] at hk
 obtain ⟨b1, b2, b3, -⟩ := hk
 have hdef : a.defers = [] := by cases hh : a.defers with
  | nil => rfl
  | cons a l => rw [hh] at b2; cases b2
 have hro : a.ro = none := by cases hh : a.ro with
  | none => rfl
  | some a => rw [hh] at b3; cases b3
 refine ⟨h.fn.trans h1, h.kind, ?_, ?_⟩
 . have := h.ro
   rw [hro] at this
   exact this
 . have := h.defers
   rw [hdef] at this
   exact this
theorem Q7y.Y8 (hc : Cast U vs K X X') (hk : frB U vs K a t = true) (b4 : JF a.cur = true) (h1 : a.fn = t.fn) (h2 : a.nt = t.nt) (h3 : a.cur = t.cur) (h4 : a.todo = t.todo) (h : Q7y P G X n0 H a f) : Q7y P G X' n0 H' t.af f /\ Qm t.af = [] := by
 have hb := Qan (X' := X') hk h1 h.1
 simp only [frB, Bool.and_eq_true, Bool.not_eq_true', Nat.beq_eq] at hk
 obtain ⟨b1, -, -, -, b5, b6, b7⟩ := hk
 obtain ⟨-, h'⟩ := h
 rw [b1] at h'
 obtain ⟨hm, is, his, hcur'⟩ := h'
 have htm : ∀ {tmps}, QD X a.nt a.tm tmps -> QD X' t.af.nt t.af.tm tmps := λ h => by
  have := QD.Y8 hc h b6 b7
  rw [h2] at this
  exact this
 have hids : Qm t.af = [] := by
  show Qm t.af = []
  unfold Qm
  show (match t.cur with | .draw _ _ _ pa => pa.map (·.2) | _ => []) = []
  rw [<- h3]
  cases hcc : a.cur with
  | draw ops done rest pa => rw [hcc] at b4; cases b4
  | _ => rfl
 refine ⟨⟨hb, hm, is, ?_, ?_⟩, hids⟩
 . show Yc X' t.todo is
   rw [<- h4]
   exact ZM b5 his
 . show match t.cur with
    | .none => _
    | .reg ops k rest => _
    | .draw ops done rest pa => _
   rw [<- h3]
   cases hcc : a.cur with
   | none => rw [hcc] at hcur'; exact ⟨hcur'.1, htm hcur'.2⟩
   | reg ops k rest => rw [hcc] at hcur'; exact ⟨hcur'.1, hcur'.2.1, htm hcur'.2.2⟩
   | draw ops done rest pa => rw [hcc] at b4; cases b4
theorem Q23.Y8 (hc : Cast U vs K X X') (hk : frB U vs K a t = true) (h1 : a.fn = t.fn) (h2 : a.nt = t.nt) (h3 : a.cur = t.cur) (h4 : a.todo = t.todo) (h : Q23 P G X n0 H a f) : Q23 P G X' n0 H' t.af f /\ Qm t.af = [] := by
 have hb := Qan (X' := X') hk h1 h.1
 simp only [frB, Bool.and_eq_true, Bool.not_eq_true', Nat.beq_eq] at hk
 obtain ⟨b1, -, -, b4, b5, b6, b7⟩ := hk
 obtain ⟨-, -, hm, is, his, hcur'⟩ := h
 have htm : ∀ {tmps}, QD X a.nt a.tm tmps -> QD X' t.af.nt t.af.tm tmps := λ h => by
  have := QD.Y8 hc h b6 b7
  rw [h2] at this
  exact this
 have hids : Qm t.af = [] := by
  unfold Qm
  show (match t.cur with | .draw _ _ _ pa => pa.map (·.2) | _ => []) = []
  rw [<- h3]
  cases hcc : a.cur with
  | draw ops done rest pa =>
   rw [hcc] at b4
   obtain ⟨-, -, -, -, rfl, -⟩ := zV b4
   rfl
  | _ => rfl
 refine ⟨⟨hb, rfl, hm, is, ?_, ?_⟩, hids⟩
 . show Yc X' t.todo is
   rw [<- h4]
   exact ZM b5 his
 . show match t.cur with
    | .none => _
    | .reg ops k rest => _
    | .draw ops done rest pa => _
   rw [<- h3]
   cases hcc : a.cur with
   | none => rw [hcc] at hcur'; exact ⟨hcur'.1, htm hcur'.2⟩
   | reg ops k rest => rw [hcc] at hcur'; exact ⟨hcur'.1, hcur'.2.1, hcur'.2.2.1, htm hcur'.2.2.2⟩
   | draw ops done rest pa =>
    rw [hcc] at hcur' b4
    obtain ⟨A, fuel, tp, listed, i, rc, rest', o, g1, g2, g3, g4, g5, g6, g7, g8, D⟩ := hcur'
    subst g2
    have hall : ∀ j, done.testBit j = true -> Lst listed j := λ j hj => by
     obtain ⟨i', rc', r', e, -, hl⟩ := zV b4
     cases e
     refine D.before g3 g8 ?_
     have : (Nat.land done (((Q4w ops 0 (.sk ops.length)).get i).getD 0)).testBit j = true := by rw [hl]; exact hj
     change (done &&& _).testBit j = true at this
     rw [Nat.testBit_and, Bool.and_eq_true] at this
     exact this.2
    have htm' : QD X' t.af.nt t.af.tm f.tmps := htm ⟨D.tmr.1, λ u => D.tmr.2 u λ j oj hj hl _ => absurd (hall j hj) hl⟩
    exact ⟨A, fuel, tp, listed, i, rc, rest', o, g1, rfl, g3, g4, g5, g6, g7, g8, D.size, D.sub, D.closed, D.plan, D.light, D.looks, D.inRange, ⟨htm'.1, λ u _ => htm'.2 u⟩, λ j oj hj hl _ => absurd (hall j hj) hl⟩
end
abbrev sk4 (a : Qg) : Nat × Nat × zm × List Qj := (a.fn, a.nt, a.cur, a.todo)
abbrev Fr.sk4 (a : Fr) : Nat × Nat × zm × List Qj := (a.fn, a.nt, a.cur, a.todo)
theorem QU.Y8 {P : Program} {G : Env} {n0 : Nat} {H H' : Tr Q7} {X X' : Ext} {U : Sb} {vs : List Nat} {K : Nat -> Bool} (hc : Cast U vs K X X') : ∀ {as : List Qg} {ts : List Fr} {cs : List Frame}, Qkx U vs K as ts = true -> as.map sk4 = ts.map Fr.sk4 -> QU P G X n0 H as cs -> QU P G X' n0 H' (ts.map Fr.af) cs /\ (ts.map Fr.af).flatMap Qm = []
 | [], ts, cs, hk, e, h => by
  cases ts with
  | nil => exact ⟨h, rfl⟩
  | cons t ts => simp [Qkx] at hk
 | a :: as, ts, cs, hk, e, h => by
  cases ts with
  | nil => simp [Qkx] at hk
  | cons t ts =>
   simp only [Qkx, Bool.and_eq_true] at hk
   simp only [List.map_cons, List.cons.injEq] at e
   obtain ⟨e1, e2⟩ := e
   simp only [sk4, Fr.sk4, Prod.mk.injEq] at e1
   obtain ⟨f, fs, rfl, h1, h2⟩ := h
   obtain ⟨k1, k2⟩ := Q23.Y8 (H' := H') hc hk.1 e1.1 e1.2.1 e1.2.2.1 e1.2.2.2 h1
   obtain ⟨k3, k4⟩ := QU.Y8 hc hk.2 e2 h2
   refine ⟨⟨f, fs, rfl, k1, k3⟩, ?_⟩
   simp only [List.map_cons, List.flatMap_cons, k2, k4, List.append_nil]
theorem Sim.Qk1 {P : Program} {G : Env} {n0 : Nat} {w0 : World} {cs0 : List Frame} {X : Ext} {s : AM} {m : Machine} {U : Sb} {K : Nat -> Bool} {t : StC} {room : Nat} (h : Sim P G n0 w0 cs0 X s m)
 (hf : frB U t.vs K s.fr t.fr = true) (hnd : JF s.fr.cur = true) (hfs : Qkx U t.vs K s.cs t.cs = true) (e0 : sk4 s.fr = t.fr.sk4) (e1 : s.cs.map sk4 = t.cs.map Fr.sk4) (hH : Qjb U t.vs K s.H t.l = true)
 (hng : 0 < G.T.ng) (hKg : ∀ b, b < G.T.ng -> K b = true) (hKn : ∀ b, t.next <= b -> K b = false) (hvn : ∀ i ∈ t.vs, i < t.next) (hvd : ∀ i ∈ t.vs, K i = true -> X.dom i)
 (hctx : (⟨t.fs, t.vs⟩ : Ctx).okN (QJ U t.vs K X).dom (QJ U t.vs K X).O) : Sim P G n0 w0 cs0 (QJ U t.vs K X) (t.am room) m := by
 obtain ⟨fr, cs, w, rfl, hF, hall, hHr, hB, h0⟩ := h.ex
 obtain ⟨k0, hk0⟩ := h.Qo 0 hng
 have hc : Cast U t.vs K X (QJ U t.vs K X) := by
  refine ⟨λ i hi => ⟨?_, by simp only [QJ, if_pos hi], rfl⟩, λ b hb => by simp only [QJ, if_pos hb]⟩
  by_cases hk : K i = true
  . obtain ⟨p, hp⟩ := hvd i hi hk
    exact ⟨p, by simp only [QJ, if_pos hk, hp]⟩
  . exact ⟨_, by simp only [QJ, if_neg hk, if_pos hi]; exact hk0⟩
 have hlt : ∀ b p, (QJ U t.vs K X).V b = some p -> p.blk < w.heap.size := λ b p hp => by
  simp only [QJ] at hp
  split at hp
  . exact hHr.lt b p hp
  . split at hp
    . exact hHr.lt 0 p hp
    . cases hp
 simp only [sk4, Fr.sk4, Prod.mk.injEq] at e0
 obtain ⟨g1, g2⟩ := Q7y.Y8 (H' := Q2u room t.l) hc hf hnd e0.1 e0.2.1 e0.2.2.1 e0.2.2.2 hF
 obtain ⟨g3, g4⟩ := QU.Y8 (H' := Q2u room t.l) hc hfs e1 hall
 refine ⟨⟨fr, cs, w, rfl, g1, g3, Qn.Y8 hHr hc hlt hH, hB, h0⟩, hctx, λ g hg => ?_, λ b hb => ?_, ?_⟩
 . obtain ⟨n, hn⟩ := h.Qo g hg
   exact ⟨n, by simp only [QJ, if_pos (hKg g hg)]; exact hn⟩
 . simp only [QJ]
   have hb' : t.next <= b := hb
   rw [if_neg (by rw [hKn b hb']; simp), if_neg (λ hm => by have := hvn b hm; omega)]
 . have e : (t.am room).fr :: (t.am room).cs = t.fr.af :: t.cs.map Fr.af := rfl
   rw [e, List.flatMap_cons, g2, g4]
   simp
def Qdm : Nat -> List Qg -> Bool
 | _, [] => true
 | 0, _ :: _ => false
 | L + 1, _ :: l => Qdm L l
noncomputable def Qkm (L : Nat) (spec : Spec) (G : Env) (n : Nat) (s : AM) : YN :=
 YN.rec (motive := λ _ => YN) (λ s => Bool.rec (motive := λ _ => YN) (.go s) (.stop s) (Qdm L s.cs)) (λ s => .stop s) (leaf spec G n s)
noncomputable def Qjt (L : Nat) (spec : Spec) (G : Env) (n : Nat) (k : Nat) : AM -> YN :=
 Nat.rec (motive := λ _ => AM -> YN) (λ s => Qkm L spec G n s)
  (λ _ ih s => YN.rec (motive := λ _ => YN) (λ s => ih s) (λ s => .stop s) (ih s)) k
theorem Qhn {L : Nat} {spec : Spec} {G : Env} (hs : ZJ G spec) (n : Nat) (s : AM) : Za G s (Qkm L spec G n s).state := by
 have h := Q0h hs n 0 s
 have e : Qgc spec G n 0 s = leaf spec G n s := rfl
 rw [e] at h
 unfold Qkm
 cases hl : leaf spec G n s with
 | stop t => rw [hl] at h; exact h
 | go t =>
  rw [hl] at h
  simp only
  cases Qdm L t.cs <;> exact h
theorem Q8f {L : Nat} {spec : Spec} {G : Env} (hs : ZJ G spec) (n : Nat) : ∀ (k : Nat) (s : AM), Za G s (Qjt L spec G n k s).state
 | 0, s => Qhn hs n s
 | k + 1, s => by
  have h := Q8f (L := L) hs n k s
  have e : Qjt L spec G n (k + 1) s = YN.rec (motive := λ _ => YN) (λ s => Qjt L spec G n k s) (λ s => .stop s) (Qjt L spec G n k s) := rfl
  rw [e]
  cases hr : Qjt L spec G n k s with
  | stop t => rw [hr] at h; exact h
  | go t =>
   rw [hr] at h
   exact h.trans (Q8f hs n k t)
noncomputable def Qlq (L : Nat) (spec : Spec) (G : Env) (n k i : Nat) : AM -> AM :=
 Nat.rec (motive := λ _ => AM -> AM) (λ s => AM.rec (motive := λ _ => AM) (λ fr cs H nx c => ⟨fr, cs, H, nx, c⟩) (Qjt L spec G n k s).state)
  (λ _ ih s => AM.rec (motive := λ _ => AM) (λ fr cs H nx c => ih ⟨fr, cs, H, nx, c⟩) (ih s)) i
theorem Q8h {L : Nat} {spec : Spec} {G : Env} (hs : ZJ G spec) (n k : Nat) : ∀ (i : Nat) (s : AM), Za G s (Qlq L spec G n k i s)
 | 0, s => by
  have h := Q8f (L := L) hs n k s
  have e : Qlq L spec G n k 0 s = AM.rec (motive := λ _ => AM) (λ fr cs H nx c => ⟨fr, cs, H, nx, c⟩) (Qjt L spec G n k s).state := rfl
  rw [e]
  exact h
 | i + 1, s => by
  have h := Q8h (L := L) hs n k i s
  have e : Qlq L spec G n k (i + 1) s = AM.rec (motive := λ _ => AM) (λ fr cs H nx c => Qlq L spec G n k i ⟨fr, cs, H, nx, c⟩) (Qlq L spec G n k i s) := rfl
  rw [e]
  exact h.trans (Q8h hs n k i _)
noncomputable def Q61 (L : Nat) (spec : Spec) (G : Env) (n k : Nat) : List Nat -> AM -> AM
 | [], s => s
 | i :: l, s => AM.rec (motive := λ _ => AM) (λ fr cs H nx c => Q61 L spec G n k l ⟨fr, cs, H, nx, c⟩) (Qlq L spec G n k i s)
theorem JY {L : Nat} {spec : Spec} {G : Env} (hs : ZJ G spec) (n k : Nat) : ∀ (l : List Nat) (s : AM), Za G s (Q61 L spec G n k l s)
 | [], s => .refl s
 | i :: l, s => (Q8h hs n k i s).trans (JY hs n k l _)
noncomputable def Qhr (U : Sb) (keep : List Nat) (ng : Nat) (t : StC) (s : AM) : Bool :=
 JF s.fr.cur && (frB U t.vs (Qq ng keep) s.fr t.fr && (Qkx U t.vs (Qq ng keep) s.cs t.cs && (Qjb U t.vs (Qq ng keep) s.H t.l && (Q9a U t.vs s.ctx t.fs &&
  (Nat.ble ng t.next && (keep.all (λ b => Nat.blt b t.next) && (t.vs.all (λ i => Nat.blt i t.next) && t.vs.all (λ i => !Qq ng keep i || s.ctx.vs.any (Nat.beq i)))))))))
def Qiq (L : Nat) (spec : Spec) (G : Env) (n k : Nat) (s : AM) (j : List Nat) (U : Sb) (keep : List Nat) (t : StC) : Prop :=
 (AM.rec (motive := λ _ => (Nat × Nat × zm × List Qj) × List (Nat × Nat × zm × List Qj) × Bool) (λ fr cs H nx c => (sk4 fr, cs.map sk4, Qhr U keep G.T.ng t ⟨fr, cs, H, nx, c⟩)) (Q61 L spec G n k j s)) = (t.fr.sk4, t.cs.map Fr.sk4, true)
section
variable {P : Program} {G : Env} {n0 : Nat} {w0 : World} {cs0 : List Frame}
theorem Qai {X : Ext} {s : AM} {m : Machine} {U : Sb} {keep : List Nat} {t : StC} {room : Nat} (h : Sim P G n0 w0 cs0 X s m) (hng : 0 < G.T.ng) (h1 : sk4 s.fr = t.fr.sk4) (h2 : s.cs.map sk4 = t.cs.map Fr.sk4) (hb : Qhr U keep G.T.ng t s = true) :
 Sim P G n0 w0 cs0 (QJ U t.vs (Qq G.T.ng keep) X) (t.am room) m := by
 simp only [Qhr, Bool.and_eq_true, List.all_eq_true, Nat.ble_eq, Nat.blt_eq, Bool.or_eq_true, Bool.not_eq_true'] at hb
 obtain ⟨b6, b7, b8, b9, b10, b11, b12, b13, b14⟩ := hb
 have hKn : ∀ b, t.next <= b -> Qq G.T.ng keep b = false := λ b hb => by
  unfold Qq
  rw [Bool.or_eq_false_iff]
  refine ⟨?_, ?_⟩
  . cases hh : Nat.blt b G.T.ng with
    | false => rfl
    | true => rw [Nat.blt_eq] at hh; omega
  . rw [List.any_eq_false]
    intro c hc he
    have : b = c := by simpa using he
    subst this
    have := b12 b hc
    omega
 have hvd : ∀ i ∈ t.vs, Qq G.T.ng keep i = true -> X.dom i := λ i hi hk => by
  rcases b14 i hi with h' | h'
  . rw [hk] at h'; cases h'
  . exact h.ctx.1 i (any_beq h')
 obtain ⟨k0, hk0⟩ := h.Qo 0 hng
 have hC : Cast U t.vs (Qq G.T.ng keep) X (QJ U t.vs (Qq G.T.ng keep) X) := by
  refine ⟨λ i hi => ⟨?_, by simp only [QJ, if_pos hi], rfl⟩, λ b hb => by simp only [QJ, if_pos hb]⟩
  by_cases hk : Qq G.T.ng keep i = true
  . obtain ⟨p, hp⟩ := hvd i hi hk
    exact ⟨p, by simp only [QJ, if_pos hk, hp]⟩
  . exact ⟨_, by simp only [QJ, if_neg hk, if_pos hi]; exact hk0⟩
 exact Sim.Qk1 h b7 b6 b8 h1 h2 b9 hng (λ b hb => by unfold Qq; rw [show Nat.blt b G.T.ng = true from by rw [Nat.blt_eq]; exact hb]; rfl) hKn b13 hvd (Yt hC h.ctx b10)
theorem Qiq.sim (hT : G.T.OK P) (hI : YH.OK P G.I) (hS : Zg P G n0) (hng : 0 < G.T.ng) {L : Nat} {X : Ext} {s : AM} {m : Machine} {n k room : Nat} {j : List Nat} {U : Sb} {keep : List Nat} {t : StC} (hh : Qiq L zx G n k s j U keep t) (h : Sim P G n0 w0 cs0 X s m) :
 ∃ Y m', Steps P m m' /\ X.le Y /\ Sim P G n0 w0 cs0 (QJ U t.vs (Qq G.T.ng keep) Y) (t.am room) m' := by
 obtain ⟨Y, m', st, hle, h1⟩ := QN hT hI hS (JY (L := L) J6 n k j s) h
 refine ⟨Y, m', st, hle, ?_⟩
 unfold Qiq at hh
 generalize Q61 L zx G n k j s = s1 at hh h1
 obtain ⟨fr, cs, H, nx, c⟩ := s1
 simp only [Prod.mk.injEq] at hh
 exact Qai h1 hng (by simp only [sk4, Fr.sk4, Prod.mk.injEq]; exact hh.1) hh.2.1 hh.2.2
theorem Qiq.ends (hT : G.T.OK P) (hI : YH.OK P G.I) (hS : Zg P G n0) (hng : 0 < G.T.ng) {L : Nat} {f : FuncId} {s : AM} {n k room : Nat} {j : List Nat} {U : Sb} {keep : List Nat} {t : StC} (hh : Qiq L zx G n k s j U keep t)
 (he : ∀ X m, Sim P G n0 w0 cs0 X (t.am room) m -> Qt P n0 w0 cs0 f m) {X : Ext} {m : Machine} (h : Sim P G n0 w0 cs0 X s m) : Qt P n0 w0 cs0 f m := by
 obtain ⟨Y, m', st, -, hs⟩ := Qiq.sim hT hI hS hng hh h
 exact .of_steps st (he _ _ hs)
end
end Go.Ax
namespace Go.Ax
open Go.RowKit
noncomputable def Qd7 (args : List Sp) (res : Sp) : Sum := λ c H next as =>
 match as with
 | [.int _ (.lit _)] => .fail
 | as => Q5n args res c H next as
theorem Qd6 {P : Program} {G : Env} {n0 : Nat} {f : FuncId} {args : List Sp} {res : Sp} (h : Zw P G n0 f (Q5n args res)) : Zw P G n0 f (Qd7 args res) := by
 intro c X H next w as vs r hr
 unfold Qd7 at hr
 split at hr
 . cases hr
 . exact h c X H next w as vs r hr
end Go.Ax
namespace Go.Ax
open Go.RowKit
noncomputable def Q2a (r : Nat) : Nat := bif Nat.beq (Nat.mod r 2) 1 then Nat.xor (Nat.div r 2) 3988292384 else Nat.div r 2
theorem Qhz (r : Nat) : Q2a r = YX r := by
 unfold Q2a YX
 cases h : Nat.beq (Nat.mod r 2) 1 with
 | true => rw [if_pos (show r % 2 = 1 from Nat.eq_of_beq_eq_true h)]; rfl
 | false => rw [if_neg (λ e => by rw [show Nat.mod r 2 = r % 2 from rfl, e] at h; cases h)]; rfl
noncomputable def crc8 {β : Type} (r : Nat) (k : Nat -> β) : β :=
 QE (Q2a r) λ r => QE (Q2a r) λ r => QE (Q2a r) λ r => QE (Q2a r) λ r => QE (Q2a r) λ r => QE (Q2a r) λ r => QE (Q2a r) λ r => QE (Q2a r) k
theorem Ql6 {β : Type} (r : Nat) (k : Nat -> β) : crc8 r k = k (Nat.repeat YX 8 r) := by
 simp only [crc8, sNat_eq, Qhz, Nat.repeat]
noncomputable def crcE : List E -> Nat -> Option Nat
 | [], r => some r
 | .lit (.ofNat b) :: l, r => crc8 (Nat.xor r (Nat.mod b 256)) λ r => crcE l r
 | _ :: _, _ => none
theorem Q39 {O : Val} : ∀ {l : List E} {r m : Nat}, crcE l r = some m -> (S.bytes O l).foldl Yr r = m
 | [], r, m, h => by cases h; rfl
 | e :: l, r, m, h => by
  unfold crcE at h
  split at h
  . rename_i h1; cases h1
  . rename_i b l' r' h1
    cases h1
    rw [Ql6] at h
    rw [<- Q39 (O := O) h]
    simp only [S.bytes, List.map_cons, List.foldl_cons, Yr, E.den]
    congr 2
  . cases h
noncomputable def ckE : List E -> Nat -> Option Nat
 | [], n => some n
 | [.lit (.ofNat a)], n => QE (Nat.add n (Nat.mul (Nat.mod a 256) 256)) some
 | .lit (.ofNat a) :: .lit (.ofNat b) :: l, n => QE (Nat.add n (Nat.add (Nat.mul (Nat.mod a 256) 256) (Nat.mod b 256))) λ n => ckE l n
 | _, _ => none
theorem Q73 {O : Val} : ∀ {l : List E} {n m : Nat}, ckE l n = some m -> n + Q7z (S.bytes O l) = m
 | l, n, m, h => by
  unfold ckE at h
  split at h
  . cases h; simp [S.bytes, Q7z]
  . rename_i a
    simp only [sNat_eq, Option.some.injEq] at h
    subst h
    simp only [S.bytes, List.map_cons, List.map_nil, Q7z, E.den, Int.ofNat_eq_natCast, Int.toNat_natCast, UInt8.toNat_ofNat']
    rfl
  . rename_i a b l'
    rw [sNat_eq] at h
    have := Q73 (O := O) h
    simp only [S.bytes, List.map_cons, Q7z, E.den, Int.ofNat_eq_natCast, Int.toNat_natCast, UInt8.toNat_ofNat'] at this ⊢
    rw [<- this]
    show n + (a % 256 * 256 + b % 256 + _) = n + (a % 256 * 256 + b % 256) + _
    omega
  . cases h
noncomputable def Qhj (k : Nat) (s : List E) : Option Nat :=
 match k with
 | 0 => match crcE s 4294967295 with
  | some r => QE (Nat.mod (Nat.xor r 4294967295) 4294967296) some
  | none => none
 | 2 => none
 | _ => match ckE s 0 with
  | some n => QE (Nat.mod (Nat.sub 65535 (jI n n)) 65536) some
  | none => none
theorem Q8r {O : Val} {k : Nat} {s : List E} {m : Nat} (h : Qhj k s = some m) : fnZ k (Jy (S.bytes O s) 1) = m := by
 unfold Qhj at h
 split at h
 . split at h
   . rename_i r hr
     simp only [sNat_eq, Option.some.injEq] at h
     subst h
     show ((Ql5 (Qaw (Jy (S.bytes O s) 1).toNat (Jy (S.bytes O s) 1).toNat) % 4294967296 : Nat) : Int) = _
     rw [qc]
     unfold Ql5
     rw [Q39 hr]
     rfl
   . cases h
 . cases h
 . rename_i k0 h0 h2
   split at h
   . rename_i n hn
     simp only [sNat_eq, Option.some.injEq] at h
     subst h
     have e : ∀ z, fnZ k z = ((Qlb (Qaw z.toNat z.toNat) % 65536 : Nat) : Int) := by
      intro z
      match k, h0, h2 with
      | 0, h0, _ => exact absurd rfl h0
      | 1, _, _ => rfl
      | 2, _, h2 => exact absurd rfl h2
      | k + 3, _, _ => rfl
     rw [e, qc]
     unfold Qlb
     have := Q73 (O := O) hn
     rw [Nat.zero_add] at this
     rw [this]
     rfl
   . cases h
noncomputable def Qap (k : Nat) : Sum := λ c H next as =>
 match as with
 | [.str s] => bif Nat.ble s.length 1099511627776 then (match Qhj k s with
  | some m => QE m λ m => .ok ⟨.int .i64 (.lit (.ofNat m)), H, next, c⟩
  | none => sE (Q87 s) λ t => .ok ⟨.int .i64 (.fn k t), H, next, c⟩) else .fail
 | _ => .fail
theorem Qf8 {P : Program} {G : Env} {n0 : Nat} {f : FuncId} {k : Nat}
 (h : ∀ (s : ByteArray) (w : World), s.size <= 1099511627776 -> Calls P f #[.string s] w λ e w' => e = .returned (.int .i64 (fnZ k (Jy s.data.toList 1))) /\ Below w.heap.size w w') : Zw P G n0 f (Qap k) := by
 refine Jz λ c X H next w args vs r hr hc hargs => ?_
 unfold Qap at hr
 split at hr
 . rename_i s
   cases hb : Nat.ble s.length 1099511627776 with
   | false => rw [hb] at hr; cases hr
   | true =>
    rw [hb] at hr
    obtain ⟨u, vs', e1, h1, h2⟩ := Q8.1 hargs
    have := rels_nil.1 h2
    subst this
    simp only [AV.rel] at h1
    obtain ⟨k1, rfl⟩ := h1
    have hvs : vs = #[.string ⟨(S.bytes X.O s).toArray⟩] := by rw [<- Array.toList_inj]; exact e1
    subst hvs
    have hcall := h ⟨(S.bytes X.O s).toArray⟩ w (by show (S.bytes X.O s).toArray.size <= _; simp only [List.size_toArray, S.bytes, List.length_map]; simpa using hb)
    simp only [cond_true] at hr
    cases hl : Qhj k s with
    | some m =>
     rw [hl] at hr
     simp only [sNat_eq] at hr
     cases hr
     refine ⟨rfl, rfl, rfl, .int .i64 (m : Int), ?_, ?_⟩
     . simp only [AV.rel]
       exact ⟨trivial, rfl⟩
     . rw [<- Q8r (O := X.O) hl]
       exact hcall
    | none =>
     rw [hl] at hr
     simp only [sE_eq] at hr
     cases hr
     refine ⟨rfl, rfl, rfl, .int .i64 ((E.fn k (Q87 s)).den X.O), ?_, ?_⟩
     . simp only [AV.rel]
       exact ⟨Q9r λ t ht => (k1 t ht).1, trivial⟩
     . simp only [E.den, Q5l]
       exact hcall
 . cases hr
end Go.Ax
namespace Go.Ax
open Go.RowKit
theorem Q2h {P : Program} {G : Env} {n0 : Nat} {f : FuncId} {S : Ctx -> Tr Q7 -> Nat -> List AV -> D SR}
 (h : ∀ (c : Ctx) (X : Ext) (H : Tr Q7) (next : Nat) (w : World) (args : List AV) (vs : Array Value) (r : SR), S c H next args = .ok r -> c.okN X.dom X.O -> Qn X n0 H w -> AV.QI X args vs.toList ->
  r.H = H /\ r.next = next /\ r.ctx = c /\ ∃ u, r.v.rel X u /\ Calls P f vs w (λ e w' => e = .returned u /\ Below w.heap.size w w')) : Zw P G n0 f S := by
 intro c X H next w args vs r hr hc hg hH h0 hfr hargs fr cs
 obtain ⟨e1, e2, e3, u, hu, hcall⟩ := h c X H next w args vs r hr hc hH hargs
 obtain ⟨u', w', ⟨rfl, hB⟩, hst⟩ := Z5 (q := λ v w' => v = u /\ Below w.heap.size w w') (hcall.mono λ e w' he => ⟨u, he.1, rfl, he.2⟩) fr cs
 refine ⟨X, u', w', hst, Ext.le.refl X, hu, ?_, hB.mono h0, λ b hb _ => ⟨hb, by rw [e1]⟩, by rw [e2]; exact Nat.le_refl _, λ b hb => hfr b (by rw [e2] at hb; exact hb), by rw [e3]; exact hc⟩
 rw [e1]
 exact ⟨λ b o p ho hp => by rw [hB.block _ (hH.lt _ _ hp)]; exact hH.obj b o p ho hp, hH.inj, λ b p hp => Nat.lt_of_lt_of_le (hH.lt b p hp) hB.size, hH.own⟩
theorem Zw.or {P : Program} {G : Env} {n0 : Nat} {f : FuncId} {S S' : Sum} (h : Zw P G n0 f S) (h' : Zw P G n0 f S') {T : Sum} (hT : ∀ c H next as r, T c H next as = .ok r -> S c H next as = .ok r \/ S' c H next as = .ok r) : Zw P G n0 f T := by
 intro c X H next w args vs r hr
 rcases hT _ _ _ _ _ hr with e | e
 . exact h c X H next w args vs r e
 . exact h' c X H next w args vs r e
noncomputable def Qf7 (k : Nat) : Sum := λ c H next as =>
 match as with
 | [.sstr s] => match s.pcs with
  | some p => bif s.small c then sE (yH (norm p)) λ t => .ok ⟨.int .i64 (.fn k t), H, next, c⟩ else .fail
  | none => .fail
 | _ => .fail
noncomputable def Qao (k : Nat) : Sum := λ c H next as =>
 match as with
 | [.sstr s] => Qf7 k c H next [.sstr s]
 | as => Qap k c H next as
theorem Q6u {P : Program} {G : Env} {n0 : Nat} {f : FuncId} {k : Nat}
 (h : ∀ (s : ByteArray) (w : World), s.size <= 1099511627776 -> Calls P f #[.string s] w λ e w' => e = .returned (.int .i64 (fnZ k (Jy s.data.toList 1))) /\ Below w.heap.size w w') : Zw P G n0 f (Qao k) := by
 refine Zw.or (S := Qf7 k) (S' := Qap k) ?_ (Qf8 h) λ c H next as r hr => ?_
 . refine Jz λ c X H next w args vs r hr hc hargs => ?_
   unfold Qf7 at hr
   split at hr
   . rename_i s
     split at hr
     . rename_i p hp
       cases hb : s.small c with
       | false => rw [hb] at hr; cases hr
       | true =>
        rw [hb] at hr
        simp only [cond_true, sE_eq] at hr
        cases hr
        obtain ⟨u, vs', e1, h1, h2⟩ := Q8.1 hargs
        have := rels_nil.1 h2
        subst this
        simp only [AV.rel] at h1
        obtain ⟨k1, k2, rfl⟩ := h1
        have hvs : vs = #[.string ⟨(s.den X.O).toArray⟩] := by rw [<- Array.toList_inj]; exact e1
        subst hvs
        have hl := ST.J7 hb hc k2
        obtain ⟨p1, p2⟩ := ST.ZE (O := X.O) hp k1
        refine ⟨rfl, rfl, rfl, .int .i64 ((E.fn k (yH (norm p))).den X.O), ?_, ?_⟩
        . simp only [AV.rel]
          exact ⟨Q3u (Q47 p1), trivial⟩
        . have := h ⟨(s.den X.O).toArray⟩ w (by show (s.den X.O).toArray.size <= _; simp only [List.size_toArray]; omega)
          simp only [E.den, zq, Yb, p2]
          exact this
     . cases hr
   . cases hr
 . unfold Qao at hr
   split at hr
   . exact .inl hr
   . exact .inr hr
noncomputable def Q8y (b : Nat) : Sum := λ c H next as =>
 match as with
 | [.sstr s, .int .i64 a, .int .i64 (.lit (.ofNat k))] => bif Nat.ble 1 k && Nat.ble k 4 && s.small c then
  match s.pcs with
  | some p => bif p.all (Pc.good c) then
   match Q6e c p with
   | some L => match E.plus c L (-(.ofNat k)) with
    | some M => match E.cmp c .lss a (.lit 0) with
     | some false => match E.cmp c .gtr a M with
      | some true => match E.cmp c .leq a (.lit 1099511627776) with
       | some true => .ok ⟨.tuple [.int .i64 (.lit (.ofNat 0)), .int .i64 (.lit (.ofNat b))], H, next, c⟩
       | _ => .fail
      | some false => match Qgg c a p with
       | some (_, g) => match norm g with
        | .b m :: _ => bif Nat.ble k m.length && (m.take k).all E.isByte then
         (match getE c (m.take k) with
         | some e => .ok ⟨.tuple [.int .i64 e, .int .i64 (.lit (.ofNat 0))], H, next, c⟩
         | none => .fail) else .fail
        | _ => .fail
       | none => .fail
      | none => .ask .gtr a M
     | _ => .fail
    | none => .fail
   | none => .fail
   else .fail
  | none => .fail
  else .fail
 | _ => .fail
noncomputable def Q8z (b : Nat) : Sum := λ c H next as =>
 match as with
 | .sstr s :: r => Q8y b c H next (.sstr s :: r)
 | as => Qak b c H next as
theorem Qcb {P : Program} {G : Env} {n0 : Nat} {f : FuncId} {b : Nat}
 (h1 : ∀ (s : ByteArray) (i k : Nat) (w : World), 1 <= k -> k <= 4 -> s.size <= 1099511627776 -> i + k <= s.size -> Calls P f #[.string s, .int .i64 i, .int .i64 k] w λ e w' => e = .returned (.tuple #[.int .i64 (Qa8 ((s.data.toList.drop i).take k)), .int .i64 0]) /\ Below w.heap.size w w')
 (h2 : ∀ (s : ByteArray) (i k : Nat) (w : World), 1 <= k -> k <= 4 -> s.size <= 1099511627776 -> i <= 1099511627776 -> s.size < i + k -> Calls P f #[.string s, .int .i64 i, .int .i64 k] w λ e w' => e = .returned (.tuple #[.int .i64 0, .int .i64 b]) /\ Below w.heap.size w w') : Zw P G n0 f (Q8z b) := by
 refine Zw.or (S := Q8y b) (S' := Qak b) ?_ (Qf4 h1 h2) λ c H next as r hr => ?_
 . refine Jz λ c X H next w args vs r hr hc hargs => ?_
   unfold Q8y at hr
   split at hr
   . rename_i s a k
     cases hb : (Nat.ble 1 k && Nat.ble k 4 && s.small c) with
     | false => rw [hb] at hr; cases hr
     | true =>
      rw [hb] at hr
      simp only [Bool.and_eq_true, Nat.ble_eq] at hb
      simp only [cond_true] at hr
      obtain ⟨u, vs', e1, g1, g2⟩ := Q8.1 hargs
      obtain ⟨v, vs'', rfl, g3, g4⟩ := Q8.1 g2
      obtain ⟨v2, vs3, rfl, g5, g6⟩ := Q8.1 g4
      have := rels_nil.1 g6
      subst this
      simp only [AV.rel] at g1 g3 g5
      obtain ⟨k1, k2, rfl⟩ := g1
      obtain ⟨ka, rfl⟩ := g3
      obtain ⟨-, rfl⟩ := g5
      have hl := ST.J7 hb.2 hc k2
      have hvs : vs = #[.string ⟨(s.den X.O).toArray⟩, .int .i64 (a.den X.O), .int .i64 k] := by rw [<- Array.toList_inj]; exact e1
      subst hvs
      have hsz : (⟨(s.den X.O).toArray⟩ : ByteArray).size = (s.den X.O).length := by
       show (s.den X.O).toArray.size = _
       simp
      split at hr
      . rename_i p hp
        obtain ⟨p1, p2⟩ := ST.ZE (O := X.O) hp k1
        cases hg : p.all (Pc.good c) with
        | false => rw [hg] at hr; cases hr
        | true =>
         rw [hg] at hr
         simp only [cond_true] at hr
         split at hr
         . rename_i L hL
           obtain ⟨L1, L2⟩ := Yo hc hL p1 (all_good hc hg)
           split at hr
           . rename_i M hM
             obtain ⟨M1, M2⟩ := E.Yg hM hc L1
             rw [L2, p2] at M2
             split at hr
             . rename_i hz
               have z0 : ¬ (a.den X.O < 0) := of_decide_eq_false (E.Qf rfl hz hc)
               obtain ⟨i, hi⟩ : ∃ i : Nat, a.den X.O = i := ⟨(a.den X.O).toNat, by omega⟩
               rw [hi]
               split at hr
               . rename_i hgt
                 have z1 := E.Qf rfl hgt hc
                 simp only [Y3, decide_eq_true_eq] at z1
                 split at hr
                 . rename_i hbig
                   have z2 : a.den X.O <= 1099511627776 := of_decide_eq_true (E.Qf rfl hbig hc)
                   cases hr
                   simp only [Int.ofNat_eq_natCast] at M2
                   refine ⟨rfl, rfl, rfl, _, ?_, h2 _ i k w hb.1.1 hb.1.2 (by rw [hsz]; omega) (by omega) (by rw [hsz]; omega)⟩
                   simp only [AV.rel]
                   refine ⟨_, rfl, ?_⟩
                   simp only [rels_cons_cons, rels_nil, AV.rel]
                   exact ⟨⟨trivial, rfl⟩, ⟨trivial, rfl⟩, trivial⟩
                 . cases hr
               . rename_i hgt
                 have z1 := E.Qf rfl hgt hc
                 simp only [Y3, decide_eq_false_iff_not] at z1
                 simp only [Int.ofNat_eq_natCast] at M2
                 split at hr
                 . rename_i f0 g hcut
                   obtain ⟨a1, a2, a3, a4, a5, a6⟩ := Yh hc hcut ka p1 (all_good hc hg)
                   split at hr
                   . rename_i m g' hn
                     cases hk : (Nat.ble k m.length && (m.take k).all E.isByte) with
                     | false => rw [hk] at hr; cases hr
                     | true =>
                      rw [hk] at hr
                      simp only [Bool.and_eq_true, Nat.ble_eq] at hk
                      simp only [cond_true] at hr
                      split at hr
                      . rename_i e he
                        cases hr
                        have hok := Q47 a2
                        rw [hn] at hok
                        have hm : (Pc.b m).ok X.dom := hok _ (by simp)
                        have hkk : S.okN X.dom X.O (m.take k) := λ t ht => ⟨hm t (List.mem_of_mem_take ht), E.Y0 (List.all_eq_true.1 hk.2 t ht) _⟩
                        obtain ⟨q1, q2⟩ := Q33 he (by simp only [List.length_take]; omega) hkk hc
                        refine ⟨rfl, rfl, rfl, _, ?_, h1 _ i k w hb.1.1 hb.1.2 (by rw [hsz]; omega) (by rw [hsz]; omega)⟩
                        simp only [AV.rel]
                        refine ⟨_, rfl, ?_⟩
                        simp only [rels_cons_cons, rels_nil, AV.rel]
                        refine ⟨⟨q1, ?_⟩, ⟨trivial, rfl⟩, trivial⟩
                        rw [q2]
                        have hgd := Yb (O := X.O) g
                        rw [hn, Qa] at hgd
                        have e2 : (s.den X.O).drop i = J4 X.O g := by
                         rw [<- p2, a5]
                         have : i = (J4 X.O f0).length := by omega
                         rw [this, List.drop_left]
                        rw [e2, <- hgd]
                        simp only [Pc.den]
                        rw [List.take_append_of_le_length (by simp [S.bytes]; omega)]
                        simp [S.bytes, List.map_take]
                      . cases hr
                   . cases hr
                 . cases hr
               . cases hr
             . cases hr
           . cases hr
         . cases hr
      . cases hr
   . cases hr
 . unfold Q8z at hr
   split at hr
   . exact .inl hr
   . exact .inr hr
noncomputable def Qmw : List AV -> Option (List Pc)
 | [] => some []
 | a :: l => match Qit a with
  | none => none
  | some s => match s.pcs with
   | none => none
   | some p => match Qmw l with
    | some q => some (p ++ q)
    | none => none
theorem jr {X : Ext} : ∀ {l : List AV} {p : List Pc}, Qmw l = some p -> ∀ {vs : List Value}, AV.QI X l vs -> rok X.dom p /\ ∃ xs : List ByteArray, vs = xs.map .string /\ J4 X.O p = (xs.map (·.data.toList)).flatten /\ xs.length = l.length
 | [], p, h, vs, hv => by
  cases h
  have := rels_nil.1 hv
  subst this
  exact ⟨(λ x hx => by cases hx), [], rfl, rfl, rfl⟩
 | a :: l, p, h, vs, hv => by
  obtain ⟨u, vs', rfl, h1, h2⟩ := Q8.1 hv
  simp only [Qmw] at h
  split at h
  . cases h
  . rename_i s hs
    split at h
    . cases h
    . rename_i q hq
      split at h
      . rename_i q' hq'
        cases h
        obtain ⟨s1, s2, rfl⟩ := zo hs h1
        obtain ⟨g1, g2⟩ := ST.ZE (O := X.O) hq s1
        obtain ⟨k1, xs, rfl, k2, k3⟩ := jr hq' h2
        refine ⟨λ x hx => ?_, ⟨(s.den X.O).toArray⟩ :: xs, rfl, ?_, by simp [k3]⟩
        . rcases List.mem_append.1 hx with hx | hx
          . exact g1 x hx
          . exact k1 x hx
        . rw [qN, g2, k2]
          simp
      . cases h
noncomputable def Q8u : Sum := λ c H next as =>
 match as with
 | [.slice b o n _ es _, .str []] => bif Nat.beq es 1 && Nat.ble n 1000000 && Nat.blt 0 n then
  match H.get b with
  | some (.cells cs _ _ _ _) => bif Nat.ble (o + n) cs.length then
   match Qmw ((cs.drop o).take n) with
   | some p => bif p.all (Pc.good c) && jX c p then
    (match avR c p with
    | some v => .ok ⟨v, H, next, c⟩
    | none => .fail) else .fail
   | none => .fail
   else .fail
  | _ => .fail
  else .fail
 | _ => .fail
theorem Qc8 {P : Program} {G : Env} {n0 : Nat} {f : FuncId}
 (h : ∀ (bk o c : Nat) (xs : List ByteArray) (w : World), (∀ (j : Nat) x, xs[j]? = some x -> w.cell? ⟨bk, o + j, none⟩ = some (.string x)) -> bk < w.heap.size -> xs.length <= 140737488355328 -> xs.length <= c -> ((xs.map (·.data.toList)).flatten).length <= 140737488355328 ->
  Calls P f #[.slice (some ⟨bk, o, none⟩) xs.length c, .string ⟨#[]⟩] w λ e w' => e = .returned (.string ⟨((xs.map (·.data.toList)).flatten).toArray⟩) /\ Below w.heap.size w w') : Zw P G n0 f Q8u := by
 refine Q2h λ c X H next w args vs r hr hc hH hargs => ?_
 unfold Q8u at hr
 split at hr
 . rename_i b o n cap es ex
   cases hb : (Nat.beq es 1 && Nat.ble n 1000000 && Nat.blt 0 n) with
   | false => rw [hb] at hr; cases hr
   | true =>
    rw [hb] at hr
    simp only [cond_true] at hr
    simp only [Bool.and_eq_true, Nat.ble_eq, Nat.blt_eq, Nat.beq_eq] at hb
    obtain ⟨⟨rfl, hb2⟩, hb3⟩ := hb
    obtain ⟨u, vs', e1, g1, g2⟩ := Q8.1 hargs
    obtain ⟨v, vs'', rfl, g3, g4⟩ := Q8.1 g2
    have := rels_nil.1 g4
    subst this
    simp only [AV.rel] at g1 g3
    obtain ⟨p, o', cc, m1, rfl, m2, m3, m4, m5, m6⟩ := g1
    obtain ⟨-, rfl⟩ := g3
    have ho := m5 (.inl (by omega))
    split at hr
    . rename_i cs el xx pl ro hget
      cases hle : Nat.ble (o + n) cs.length with
      | false => rw [hle] at hr; cases hr
      | true =>
       rw [hle] at hr
       simp only [cond_true] at hr
       rw [Nat.ble_eq] at hle
       split at hr
       . rename_i q hq
         cases hg : (q.all (Pc.good c) && jX c q) with
         | false => rw [hg] at hr; cases hr
         | true =>
          rw [hg] at hr
          simp only [cond_true] at hr
          rw [Bool.and_eq_true] at hg
          split at hr
          . rename_i v hv
            cases hr
            obtain ⟨cc', fr, ⟨el', b1, bel⟩, b2, b3, b4, b5, b6, b7⟩ := hH.obj _ _ _ hget m1
            -- the cells
            obtain ⟨vl, hvl1, hvl2⟩ : ∃ vl : List Value, AV.QI X ((cs.drop o).take n) vl /\ ∀ j, j < n -> cc'[p.base + (o + j)]? = vl[j]? := by
             have key : ∀ (l : List AV) (k : Nat), (∀ j x, l[j]? = some x -> ∃ v, cc'[p.base + (k + j)]? = some v /\ x.rel X v) -> ∃ vl : List Value, AV.QI X l vl /\ ∀ j, j < l.length -> cc'[p.base + (k + j)]? = vl[j]? := by
              intro l
              induction l with
              | nil => exact λ k _ => ⟨[], rfl, λ j hj => by simp at hj⟩
              | cons x l ih =>
               intro k hk
               obtain ⟨v0, a1, a2⟩ := hk 0 x rfl
               obtain ⟨vl, a3, a4⟩ := ih (k + 1) λ j x hx => by
                obtain ⟨v, q1, q2⟩ := hk (j + 1) x (by simpa using hx)
                exact ⟨v, by rw [<- q1]; congr 1; omega, q2⟩
               refine ⟨v0 :: vl, ⟨v0, vl, rfl, a2, a3⟩, λ j hj => ?_⟩
               cases j with
               | zero => simpa using a1
               | succ j =>
                have := a4 j (by simpa using hj)
                rw [List.getElem?_cons_succ, <- this]
                congr 1
                omega
             obtain ⟨vl, a1, a2⟩ := key ((cs.drop o).take n) o λ j x hx => by
              have hj : j < n := by
               obtain ⟨h', -⟩ := List.getElem?_eq_some_iff.1 hx
               simp only [List.length_take] at h'
               omega
              rw [List.getElem?_take, if_pos hj, List.getElem?_drop] at hx
              obtain ⟨v, q1, q2⟩ := b5 (o + j) x hx
              exact ⟨v, q1, q2⟩
             exact ⟨vl, a1, λ j hj => a2 j (by simp only [List.length_take, List.length_drop]; omega)⟩
            obtain ⟨r1, xs, rfl, r2, r3⟩ := jr hq hvl1
            have hn : xs.length = n := by
             rw [r3]
             simp only [List.length_take, List.length_drop]
             omega
            have hsane := all_good hc hg.1
            have hshort := JA hc hg.2 r1 hsane
            rw [r2] at hshort
            have hvs : vs = #[.slice (some ⟨p.blk, o', none⟩) xs.length cc, .string ⟨(S.bytes X.O []).toArray⟩] := by rw [<- Array.toList_inj, hn]; exact e1
            subst hvs
            refine ⟨rfl, rfl, rfl, .string ⟨(J4 X.O q).toArray⟩, Q7g hc hv r1 hsane, ?_⟩
            rw [r2]
            refine h p.blk o' cc xs w (λ j x hx => ?_) (hH.lt _ _ m1) (by omega) (by omega) (by omega)
            have hj : j < n := by
             obtain ⟨h', -⟩ := List.getElem?_eq_some_iff.1 hx
             rw [<- hn]
             exact h'
            have e3 := hvl2 j hj
            rw [List.getElem?_map, hx, Option.map_some] at e3
            unfold World.cell?
            simp only [b1]
            rw [ho, Nat.add_assoc]
            exact e3
          . cases hr
       . cases hr
    . cases hr
 . cases hr
end Go.Ax
namespace Go.Ax
open Go.RowKit
end Go.Ax
namespace Go.Ax
open Go.RowKit
section
variable {P : Program} {G : Env} {n0 : Nat} {w0 : World} {cs0 : List Frame}
end
end Go.Ax
namespace Go.Ax
open Go.RowKit
noncomputable def Ql8 (b : Nat) : List Nat -> Nat -> Nat
 | [], k => k
 | n :: l, k => bif Nat.beq (n % 256) b then QE (k + 1) (Ql8 b l) else Ql8 b l k
noncomputable def Qfl : Sum := λ c H next as =>
 match as with
 | [.str s, .int .u8 (.lit (.ofNat b))] => match Q6c s with
  | some l => bif Nat.ble b 255 then QE (Ql8 b l 0) λ i => .ok ⟨.int .i64 (.lit (.ofNat i)), H, next, c⟩ else .fail
  | none => .fail
 | _ => .fail
theorem Q98 {b : Nat} (hb : b <= 255) : ∀ (l : List Nat) (k : Nat), Ql8 b l k = k + ((l.map UInt8.ofNat).filter (. == UInt8.ofNat b)).length
 | [], k => by simp [Ql8]
 | n :: l, k => by
  have e : (UInt8.ofNat n == UInt8.ofNat b) = Nat.beq (n % 256) b := by
   rw [Bool.eq_iff_iff, beq_iff_eq, Nat.beq_eq]
   rw [<- UInt8.toNat_inj]
   simp only [UInt8.toNat_ofNat']
   omega
  unfold Ql8
  simp only [List.map_cons, List.filter_cons, e]
  cases Nat.beq (n % 256) b with
  | true => simp only [cond_true, sNat_eq, Q98 hb l, if_true, List.length_cons]; omega
  | false => simp only [cond_false, Q98 hb l, Bool.false_eq_true, if_false]
theorem Qfk {P : Program} {G : Env} {n0 : Nat} {f : FuncId}
 (h : ∀ (args : Array Value) (w : World), (callFunc f args).run P w = ((Extern.BytealgCount.count args).run P w).andThen λ v w' => .ok (.value v) w') : Qgb P G n0 f Qfl := by
 intro c X H next w args vs r hr hc hg hH h0 hfr hargs
 unfold Qfl at hr
 split at hr
 . rename_i s b
   split at hr
   . rename_i l hl
     cases hb : Nat.ble b 255 with
     | false => rw [hb] at hr; cases hr
     | true =>
      rw [hb] at hr
      simp only [cond_true, sNat_eq] at hr
      cases hr
      obtain ⟨u, vs', e1, g1, g2⟩ := Q8.1 hargs
      obtain ⟨v, vs'', rfl, g3, g4⟩ := Q8.1 g2
      have := rels_nil.1 g4
      subst this
      simp only [AV.rel] at g1 g3
      obtain ⟨-, rfl⟩ := g1
      obtain ⟨-, rfl⟩ := g3
      have hvs : vs = #[.string ⟨(S.bytes X.O s).toArray⟩, .int .u8 (b : Int)] := by rw [<- Array.toList_inj]; exact e1
      subst hvs
      have hrun : (callFunc f #[.string ⟨(S.bytes X.O s).toArray⟩, .int .u8 (b : Int)]).run P w = .ok (.value (.int .i64 (Ql8 b l 0 : Nat))) w := by
       rw [h, Lib.run_countString, JG hl]
       have e : ((b : Int).toNat.toUInt8) = UInt8.ofNat b := by simp
       rw [e, Q98 (by simpa using hb)]
       simp [Lib.countByte, List.count_eq_length_filter]
      exact ⟨X, _, w, hrun, Ext.le.refl X, by simp only [AV.rel]; exact ⟨trivial, rfl⟩, hH, Below.refl _ _, λ b hb _ => ⟨hb, rfl⟩, Nat.le_refl _, hfr, hc⟩
   . cases hr
 . cases hr
end Go.Ax
namespace Go.Ax
open Go.RowKit
def zG : List (Nat × Nat) -> Nat -> Nat
 | [], b => b
 | p :: l, b => bif Nat.beq p.1 b then p.2 else zG l b
theorem Q43 {n : Nat} : ∀ {l : List (Nat × Nat)}, l.all (λ p => Nat.ble n p.1) = true -> ∀ {b : Nat}, b < n -> zG l b = b
 | [], _, _, _ => rfl
 | p :: l, h, b, hb => by
  simp only [List.all_cons, Bool.and_eq_true, Nat.ble_eq] at h
  simp only [zG]
  rw [show Nat.beq p.1 b = false from by rw [Bool.eq_false_iff]; intro e; rw [Nat.beq_eq] at e; omega]
  exact Q43 h.2 hb
structure Yx (U : Sb) (vs : List Nat) (K : Nat -> Bool) (π : Nat -> Nat) (X X' : Ext) : Prop where
 letters : ∀ i ∈ vs, X'.dom i /\ X'.O.int i = (U.at i).den X.O /\ X'.O.str i = X.O.str i
 kept : ∀ b, K b = true -> X'.V b = X.V (π b)
theorem Yx.cast {U : Sb} {vs : List Nat} {K : Nat -> Bool} {π : Nat -> Nat} {X X' : Ext} (h : Yx U vs K π X X') : Cast U vs (λ _ => false) X X' := ⟨h.letters, λ _ h => by cases h⟩
mutual
noncomputable def rkA (U : Sb) (vs : List Nat) (K : Nat -> Bool) (π : Nat -> Nat) (a a' : AV) : Bool :=
 match a with
 | .ptr b o => match a' with
  | .ptr b' o' => Nat.beq b (π b') && (Nat.beq o o' && K b')
  | a' => YZ U vs (λ _ => false) (.ptr b o) a'
 | .slice b o n c s x => match a' with
  | .slice b' o' n' c' s' x' => Nat.beq b (π b') && (Nat.beq o o' && (Nat.beq n n' && (Nat.beq c c' && (Nat.beq s s' && (x == x' && K b')))))
  | a' => YZ U vs (λ _ => false) (.slice b o n c s x) a'
 | .map r => match a' with
  | .map r' => Nat.beq r (π r') && K r'
  | a' => YZ U vs (λ _ => false) (.map r) a'
 | .wslice b o n s l => match a' with
  | .wslice b' o' n' s' l' => Nat.beq b (π b') && (Nat.beq o o' && (Nat.beq n n' && (Nat.beq s s' && (K b' && Qi8 U vs (.var l) (.var l')))))
  | a' => YZ U vs (λ _ => false) (.wslice b o n s l) a'
 | .func f x c => match a' with
  | .func f' x' c' => Nat.beq f f' && (rkL U vs K π x x' && rkL U vs K π c c')
  | a' => YZ U vs (λ _ => false) (.func f x c) a'
 | .iface t x => match a' with
  | .iface t' x' => Nat.beq t t' && rkA U vs K π x x'
  | a' => YZ U vs (λ _ => false) (.iface t x) a'
 | .yield b => match a' with
  | .yield b' => Nat.beq b (π b') && K b'
  | a' => YZ U vs (λ _ => false) (.yield b) a'
 | .agg l => match a' with
  | .agg l' => rkL U vs K π l l'
  | a' => YZ U vs (λ _ => false) (.agg l) a'
 | .tuple l => match a' with
  | .tuple l' => rkL U vs K π l l'
  | a' => YZ U vs (λ _ => false) (.tuple l) a'
 | a => YZ U vs (λ _ => false) a a'
noncomputable def rkL (U : Sb) (vs : List Nat) (K : Nat -> Bool) (π : Nat -> Nat) (l l' : List AV) : Bool :=
 match l with
 | [] => match l' with
  | [] => true
  | _ => false
 | a :: l => match l' with
  | [] => false
  | a' :: l' => rkA U vs K π a a' && rkL U vs K π l l'
end
section
variable {U : Sb} {vs : List Nat} {K : Nat -> Bool} {π : Nat -> Nat} {X X' : Ext}
mutual
theorem ZX (hc : Yx U vs K π X X') : ∀ {a a' : AV} {v : Value}, rkA U vs K π a a' = true -> a.rel X v -> a'.rel X' v
 | .ptr b o, a', v, h, r => by
  cases a' <;> simp only [rkA] at h <;> (try exact Qp hc.cast h r)
  simp only [Bool.and_eq_true, Nat.beq_eq] at h
  obtain ⟨rfl, rfl, hk⟩ := h
  simp only [AV.rel] at r ⊢
  rw [hc.kept _ hk]
  exact r
 | .slice b o n c s x, a', v, h, r => by
  cases a' <;> simp only [rkA] at h <;> (try exact Qp hc.cast h r)
  simp only [Bool.and_eq_true, Nat.beq_eq, beq_iff_eq] at h
  obtain ⟨rfl, rfl, rfl, rfl, rfl, rfl, hk⟩ := h
  simp only [AV.rel] at r ⊢
  rw [hc.kept _ hk]
  exact r
 | .map q, a', v, h, r => by
  cases a' <;> simp only [rkA] at h <;> (try exact Qp hc.cast h r)
  simp only [Bool.and_eq_true, Nat.beq_eq] at h
  obtain ⟨rfl, hk⟩ := h
  simp only [AV.rel] at r ⊢
  rw [hc.kept _ hk]
  exact r
 | .wslice b o n s l, a', v, h, r => by
  cases a' <;> simp only [rkA] at h <;> (try exact Qp hc.cast h r)
  simp only [Bool.and_eq_true, Nat.beq_eq] at h
  obtain ⟨rfl, rfl, rfl, rfl, hk, hl⟩ := h
  simp only [AV.rel] at r ⊢
  rw [hc.kept _ hk]
  obtain ⟨p, len, c, h1, h2, h3, h4, h5, h6, h7⟩ := r
  obtain ⟨k1, k2⟩ := ZR hc.cast hl
  exact ⟨p, len, c, h1, h2, h3, h4, h5, k1, k2.symm.trans h7⟩
 | .func f a c, a', v, h, r => by
  cases a' <;> simp only [rkA] at h <;> (try exact Qp hc.cast h r)
  simp only [Bool.and_eq_true, Nat.beq_eq] at h
  obtain ⟨rfl, h1, h2⟩ := h
  simp only [AV.rel] at r ⊢
  obtain ⟨x, y, e, r1, r2⟩ := r
  exact ⟨x, y, e, Yl hc h1 r1, Yl hc h2 r2⟩
 | .iface t a, a', v, h, r => by
  cases a' <;> simp only [rkA] at h <;> (try exact Qp hc.cast h r)
  simp only [Bool.and_eq_true, Nat.beq_eq] at h
  obtain ⟨rfl, h1⟩ := h
  simp only [AV.rel] at r ⊢
  obtain ⟨u, e, r1⟩ := r
  exact ⟨u, e, ZX hc h1 r1⟩
 | .agg l, a', v, h, r => by
  cases a' <;> simp only [rkA] at h <;> (try exact Qp hc.cast h r)
  simp only [AV.rel] at r ⊢
  obtain ⟨u, e, r1⟩ := r
  exact ⟨u, e, Yl hc h r1⟩
 | .tuple l, a', v, h, r => by
  cases a' <;> simp only [rkA] at h <;> (try exact Qp hc.cast h r)
  simp only [AV.rel] at r ⊢
  obtain ⟨u, e, r1⟩ := r
  exact ⟨u, e, Yl hc h r1⟩
 | .yield b, a', v, h, r => by
  cases a' <;> simp only [rkA] at h <;> (try exact Qp hc.cast h r)
  simp only [Bool.and_eq_true, Nat.beq_eq] at h
  obtain ⟨rfl, hk⟩ := h
  simp only [AV.rel] at r ⊢
  rw [hc.kept _ hk]
  exact r
 | .bool _, a', v, h, r | .int _ _, a', v, h, r | .str _, a', v, h, r | .sstr _, a', v, h, r | .nilptr, a', v, h, r | .nilslice, a', v, h, r | .nilmap, a', v, h, r | .nilFunc, a', v, h, r | .nilIface, a', v, h, r | .any, a', v, h, r | .top, a', v, h, r => by
  simp only [rkA] at h; exact Qp hc.cast h r
theorem Yl (hc : Yx U vs K π X X') : ∀ {l l' : List AV} {us : List Value}, rkL U vs K π l l' = true -> AV.QI X l us -> AV.QI X' l' us
 | [], l', us, h, r => by cases l' <;> simp only [rkL, Bool.false_eq_true] at h; rw [rels_nil] at r ⊢; exact r
 | a :: l, l', us, h, r => by
  cases l' <;> simp only [rkL, Bool.false_eq_true, Bool.and_eq_true] at h
  obtain ⟨v, us', rfl, r1, r2⟩ := Q8.1 r
  rw [rels_cons_cons]
  exact ⟨ZX hc h.1 r1, Yl hc h.2 r2⟩
end
noncomputable def rkM (U : Sb) (vs : List Nat) (K : Nat -> Bool) (π : Nat -> Nat) : List (AV × AV × Nat) -> List (AV × AV × Nat) -> Bool
 | [], [] => true
 | a :: l, b :: l' => rkA U vs K π a.1 b.1 && (rkA U vs K π a.2.1 b.2.1 && (Nat.beq a.2.2 b.2.2 && rkM U vs K π l l'))
 | _, _ => false
theorem Q5y (hc : Yx U vs K π X X') : ∀ {l l' : List (AV × AV × Nat)} {es : List MapEntry}, rkM U vs K π l l' = true -> Q9 X l es -> Q9 X' l' es
 | [], l', es, h, r => by cases l' <;> simp only [rkM, Bool.false_eq_true] at h; exact r
 | a :: l, l', es, h, r => by
  cases l' <;> simp only [rkM, Bool.false_eq_true, Bool.and_eq_true, Nat.beq_eq] at h
  obtain ⟨e, es', rfl, r1, r2, r3, r4⟩ := r
  exact ⟨e, es', rfl, ZX hc h.1 r1, ZX hc h.2.1 r2, by rw [r3, h.2.2.1], Q5y hc h.2.2.2 r4⟩
noncomputable def rkP (U : Sb) (vs : List Nat) (K : Nat -> Bool) (π : Nat -> Nat) : List (AV × AV) -> List (AV × AV) -> Bool
 | [], [] => true
 | a :: l, b :: l' => rkA U vs K π a.1 b.1 && (rkA U vs K π a.2 b.2 && rkP U vs K π l l')
 | _, _ => false
theorem Q5x (hc : Yx U vs K π X X') : ∀ {l l' : List (AV × AV)} {es : List MapEntry}, rkP U vs K π l l' = true -> ZU X l es -> ZU X' l' es
 | [], l', es, h, r => by cases l' <;> simp only [rkP, Bool.false_eq_true] at h; exact r
 | a :: l, l', es, h, r => by
  cases l' <;> simp only [rkP, Bool.false_eq_true, Bool.and_eq_true] at h
  obtain ⟨e, es', rfl, r1, r2, r4⟩ := r
  exact ⟨e, es', rfl, ZX hc h.1 r1, ZX hc h.2.1 r2, Q5x hc h.2.2 r4⟩
noncomputable def rkO (U : Sb) (vs : List Nat) (K : Nat -> Bool) (π : Nat -> Nat) : Q7 -> Q7 -> Bool
 | .cells cs el ex pl ro, .cells cs' el' ex' pl' ro' => Nat.beq el el' && (ex == ex' && (pl == pl' && (ro == ro' && rkL U vs K π cs cs')))
 | .map es c, .map es' c' => Nat.beq c c' && rkM U vs K π es es'
 | .lmap es, .lmap es' => rkP U vs K π es es'
 | .map [] _, .lmap [] => true
 | _, _ => false
theorem Q2n {l l' : List AV} (h : rkL U vs K π l l' = true) : l'.length = l.length := by
 induction l generalizing l' with
 | nil => cases l' <;> simp [rkL] at h; rfl
 | cons a l ih =>
  cases l' with
  | nil => simp [rkL] at h
  | cons a' l' => simp only [rkL, Bool.and_eq_true] at h; simp [ih h.2]
theorem Qjw {l l' : List AV} (h : rkL U vs K π l l' = true) {i : Nat} {a' : AV} (e : l'[i]? = some a') : ∃ a, l[i]? = some a /\ rkA U vs K π a a' = true := by
 induction l generalizing l' i with
 | nil => cases l' <;> simp [rkL] at h; simp at e
 | cons a l ih =>
  cases l' with
  | nil => simp [rkL] at h
  | cons b l' =>
   simp only [rkL, Bool.and_eq_true] at h
   cases i with
   | zero => simp at e; subst e; exact ⟨a, rfl, h.1⟩
   | succ i => simpa using ih h.2 (by simpa using e)
theorem zH (hc : Yx U vs K π X X') {o o' : Q7} {p : Place} {ob : Option Obj} (h : rkO U vs K π o o' = true) (r : jf X o p ob) : jf X' o' p ob /\ o'.live = o.live /\ o'.rw = o.rw := by
 unfold rkO at h
 split at h <;> (try simp only [Bool.false_eq_true, Bool.and_eq_true, Nat.beq_eq, beq_iff_eq] at h)
 . obtain ⟨rfl, rfl, rfl, rfl, h⟩ := h
   obtain ⟨c, fr, h1, h2, h3, h4, h5, h6⟩ := r
   refine ⟨⟨c, fr, h1, h2, by rw [Q2n h]; exact h3, by rw [Q2n h]; exact h4, λ i a hi => ?_, h6⟩, rfl, rfl⟩
   obtain ⟨b, hb, hr⟩ := Qjw h hi
   obtain ⟨v, hv, r1⟩ := h5 i b hb
   exact ⟨v, hv, ZX hc hr r1⟩
 . obtain ⟨rfl, h⟩ := h
   obtain ⟨es', h1, h2⟩ := r
   exact ⟨⟨es', h1, Q5y hc h h2⟩, rfl, rfl⟩
 . obtain ⟨es', cl, l, h1, h2, h3⟩ := r
   exact ⟨⟨es', cl, l, h1, Q5x hc h h2, h3⟩, rfl, rfl⟩
 . obtain ⟨es', h1, h2⟩ := r
   exact ⟨⟨es', _, [], h1, rfl, by rw [h2]⟩, rfl, rfl⟩
theorem Qa1 {o o' : Q7} (h : rkO U vs K π o o' = true) : o'.Q5e = o.Q5e := by
 unfold rkO at h
 split at h <;> (try simp only [Bool.false_eq_true, Bool.and_eq_true, Nat.beq_eq, beq_iff_eq] at h)
 . obtain ⟨-, -, rfl, rfl, -⟩ := h; rfl
 all_goals rfl
noncomputable def rkHo (U : Sb) (vs : List Nat) (K : Nat -> Bool) (π : Nat -> Nat) (x : Option Q7) (o' : Q7) : Bool :=
 match x with
 | some o => rkO U vs K π o o'
 | none => false
noncomputable def rkH (U : Sb) (vs : List Nat) (K : Nat -> Bool) (π : Nat -> Nat) (H : Tr Q7) : List (Nat × Q7) -> Bool
 | [] => true
 | e :: l => K e.1 && (rkHo U vs K π (H.get (π e.1)) e.2 && (l.all (λ f => !Nat.beq (π e.1) (π f.1)) && rkH U vs K π H l))
theorem Qdu {H : Tr Q7} : ∀ {l : List (Nat × Q7)}, rkH U vs K π H l = true -> ∀ e ∈ l, K e.1 = true /\ ∃ o, H.get (π e.1) = some o /\ rkO U vs K π o e.2 = true
 | [], _, e, he => by cases he
 | a :: l, h, e, he => by
  simp only [rkH, Bool.and_eq_true] at h
  rcases List.mem_cons.1 he with rfl | he
  . refine ⟨h.1, ?_⟩
    have h2 := h.2.1
    unfold rkHo at h2
    split at h2
    . rename_i o ho; exact ⟨o, ho, h2⟩
    . cases h2
  . exact Qdu h.2.2.2 e he
theorem Qdv {H : Tr Q7} : ∀ {l : List (Nat × Q7)}, rkH U vs K π H l = true -> ∀ e ∈ l, ∀ f ∈ l, π e.1 = π f.1 -> e.1 = f.1
 | [], _, e, he, _, _, _ => by cases he
 | a :: l, h, e, he, f, hf, heq => by
  simp only [rkH, Bool.and_eq_true, List.all_eq_true, Bool.not_eq_true'] at h
  have no : ∀ g ∈ l, π a.1 ≠ π g.1 := λ g hg e => by
   have := h.2.2.1 g hg
   rw [e] at this
   simp at this
  rcases List.mem_cons.1 he with e1 | e1 <;> rcases List.mem_cons.1 hf with f1 | f1
  . rw [e1, f1]
  . rw [e1] at heq; exact absurd heq (no f f1)
  . rw [f1] at heq; exact absurd heq.symm (no e e1)
  . exact Qdv h.2.2.2 e e1 f f1 heq
theorem Qn.ZC {n0 : Nat} {H : Tr Q7} {w : World} {l : List (Nat × Q7)} {room : Nat} (h : Qn X n0 H w) (hc : Yx U vs K π X X') (hlt : ∀ b p, X'.V b = some p -> p.blk < w.heap.size) (hk : rkH U vs K π H l = true) : Qn X' n0 (Q2u room l) w := by
 have base : ∀ b o' p, (Q2u room l).get b = some o' -> X'.V b = some p -> X.V (π b) = some p /\ ∃ o, H.get (π b) = some o /\ rkO U vs K π o o' = true := λ b o' p hb hp => by
  obtain ⟨k1, o, k2, k3⟩ := Qdu hk _ (JZ hb)
  exact ⟨by rw [<- hc.kept b k1]; exact hp, o, k2, k3⟩
 refine ⟨λ b o' p hb hp => ?_, λ b b' o1 o2 p p' hb hb' l1 l2 hp hp' e => ?_, hlt, λ b o' p hb hr hp => ?_⟩
 . obtain ⟨g1, o, g2, g3⟩ := base b o' p hb hp
   exact (zH hc g3 (h.obj _ o p g2 g1)).1
 . obtain ⟨g1, o, g2, g3⟩ := base b o1 p hb hp
   obtain ⟨g4, q, g5, g6⟩ := base b' o2 p' hb' hp'
   have e1 := (zH hc g3 (h.obj _ o p g2 g1)).2.1
   exact Qdv hk _ (JZ hb) _ (JZ hb') (h.inj _ _ o q p p' g2 g5 (by rw [<- e1]; exact l1) (by rw [<- Qa1 g6]; exact l2) g1 g4 e)
 . obtain ⟨g1, o, g2, g3⟩ := base b o' p hb hp
   have e1 := (zH hc g3 (h.obj _ o p g2 g1)).2.2
   exact h.own _ o p g2 (by rw [<- e1]; exact hr) g1
noncomputable def Qjv (U : Sb) (vs : List Nat) (K : Nat -> Bool) (π : Nat -> Nat) (tm : Tr AV) : Nat -> List AV -> Bool
 | _, [] => true
 | i, a :: l => rkA U vs K π ((tm.get i).getD .undef) a && QE (i + 1) λ j => Qjv U vs K π tm j l
theorem Qa0 {tm : Tr AV} : ∀ {l : List AV} {i t : Nat} {a : AV}, Qjv U vs K π tm i l = true -> l[t]? = some a -> rkA U vs K π ((tm.get (i + t)).getD .undef) a = true
 | [], i, t, a, _, h => by simp at h
 | b :: l, i, t, a, h, e => by
  simp only [Qjv, sNat_eq, Bool.and_eq_true] at h
  cases t with
  | zero => simp at e; subst e; simpa using h.1
  | succ t =>
   have := Qa0 h.2 (t := t) (by simpa using e)
   rw [show i + (t + 1) = i + 1 + t by omega]
   exact this
theorem QD.ZC {nt : Nat} {tm : Tr AV} {tmps : Array Value} {l : List AV} (hc : Yx U vs K π X X') (h : QD X nt tm tmps) (hk : Qjv U vs K π tm 0 l = true) (hl : l.length = nt) : QD X' nt (setArgs 0 l (.sk nt)) tmps := by
 refine ⟨h.1, λ t => ?_⟩
 rw [J8 (X := X')]
 simp only [Nat.not_lt_zero, if_false, Nat.sub_zero]
 cases ht : l[t]? with
 | some a =>
  simp only [Option.getD_some]
  have := Qa0 hk ht
  rw [Nat.zero_add] at this
  exact ZX hc this (h.2 t)
 | none =>
  have hge : nt <= t := by
   rw [<- hl]
   exact List.getElem?_eq_none_iff.1 ht
  have hu : tmps.getD t undef = undef := by
   have : tmps[t]? = none := Array.getElem?_eq_none_iff.2 (by rw [h.1]; exact hge)
   simp [Array.getD_eq_getD_getElem?, this]
  rw [hu]
  simp
  exact Qw X'
end
def Yu (U : Sb) (vs : List Nat) (K : Nat -> Bool) (π : Nat -> Nat) (X : Ext) : Ext :=
 ⟨λ b => if K b = true then X.V (π b) else if b ∈ vs then X.V 0 else none, ⟨λ i => if i ∈ vs then (U.at i).den X.O else 0, X.O.str⟩⟩
section
variable {P : Program} {G : Env} {n0 : Nat} {w0 : World} {cs0 : List Frame}
end
end Go.Ax
namespace Go.Ax
open Go.RowKit
section
variable {P : Program} {G : Env} {n0 : Nat} {w0 : World} {cs0 : List Frame}
end
end Go.Ax
namespace Go.Ax
open Go.RowKit
end Go.Ax
namespace Go.Ax
open Go.RowKit
noncomputable def Qj6 (U : Sb) (vs : List Nat) (K : Nat -> Bool) (π : Nat -> Nat) (a : Qg) (f : Fr) : Bool :=
 !a.ret && (Qat a.defers && (Qkc a.ro && (Qns a.cur && (a.todo.all Q2o && (Qjv U vs K π a.tm 0 f.tms && Nat.beq f.tms.length a.nt)))))
noncomputable def Qcc (U : Sb) (vs : List Nat) (K : Nat -> Bool) (π : Nat -> Nat) : List Qg -> List Fr -> Bool
 | [], [] => true
 | a :: as, f :: fs => Qj6 U vs K π a f && Qcc U vs K π as fs
 | _, _ => false
section
variable {P : Program} {G : Env} {n0 : Nat} {H H' : Tr Q7} {X X' : Ext} {U : Sb} {vs : List Nat} {K : Nat -> Bool} {π : Nat -> Nat} {a : Qg} {t : Fr} {f : Frame}
theorem Q6s (hk : Qj6 U vs K π a t = true) (h1 : a.fn = t.fn) (h : jT P X a f) : jT P X' t.af f := by
 simp only [Qj6, Bool.and_eq_true, Bool.not_eq_true'] at hk
 obtain ⟨b1, b2, b3, -⟩ := hk
 have hdef : a.defers = [] := by cases hh : a.defers with
  | nil => rfl
  | cons a l => rw [hh] at b2; cases b2
 have hro : a.ro = none := by cases hh : a.ro with
  | none => rfl
  | some a => rw [hh] at b3; cases b3
 refine ⟨h.fn.trans h1, h.kind, ?_, ?_⟩
 . have := h.ro
   rw [hro] at this
   exact this
 . have := h.defers
   rw [hdef] at this
   exact this
theorem Q7y.ZC (hc : Yx U vs K π X X') (hk : Qj6 U vs K π a t = true) (b4 : JF a.cur = true) (h1 : a.fn = t.fn) (h2 : a.nt = t.nt) (h3 : a.cur = t.cur) (h4 : a.todo = t.todo) (h : Q7y P G X n0 H a f) : Q7y P G X' n0 H' t.af f /\ Qm t.af = [] := by
 have hb := Q6s (X' := X') hk h1 h.1
 simp only [Qj6, Bool.and_eq_true, Bool.not_eq_true', Nat.beq_eq] at hk
 obtain ⟨b1, -, -, -, b5, b6, b7⟩ := hk
 obtain ⟨-, h'⟩ := h
 rw [b1] at h'
 obtain ⟨hm, is, his, hcur'⟩ := h'
 have htm : ∀ {tmps}, QD X a.nt a.tm tmps -> QD X' t.af.nt t.af.tm tmps := λ h => by
  have := QD.ZC hc h b6 b7
  rw [h2] at this
  exact this
 have hids : Qm t.af = [] := by
  show Qm t.af = []
  unfold Qm
  show (match t.cur with | .draw _ _ _ pa => pa.map (·.2) | _ => []) = []
  rw [<- h3]
  cases hcc : a.cur with
  | draw ops done rest pa => rw [hcc] at b4; cases b4
  | _ => rfl
 refine ⟨⟨hb, hm, is, ?_, ?_⟩, hids⟩
 . show Yc X' t.todo is
   rw [<- h4]
   exact ZM b5 his
 . show match t.cur with
    | .none => _
    | .reg ops k rest => _
    | .draw ops done rest pa => _
   rw [<- h3]
   cases hcc : a.cur with
   | none => rw [hcc] at hcur'; exact ⟨hcur'.1, htm hcur'.2⟩
   | reg ops k rest => rw [hcc] at hcur'; exact ⟨hcur'.1, hcur'.2.1, htm hcur'.2.2⟩
   | draw ops done rest pa => rw [hcc] at b4; cases b4
theorem Q23.ZC (hc : Yx U vs K π X X') (hk : Qj6 U vs K π a t = true) (h1 : a.fn = t.fn) (h2 : a.nt = t.nt) (h3 : a.cur = t.cur) (h4 : a.todo = t.todo) (h : Q23 P G X n0 H a f) : Q23 P G X' n0 H' t.af f /\ Qm t.af = [] := by
 have hb := Q6s (X' := X') hk h1 h.1
 simp only [Qj6, Bool.and_eq_true, Bool.not_eq_true', Nat.beq_eq] at hk
 obtain ⟨b1, -, -, b4, b5, b6, b7⟩ := hk
 obtain ⟨-, -, hm, is, his, hcur'⟩ := h
 have htm : ∀ {tmps}, QD X a.nt a.tm tmps -> QD X' t.af.nt t.af.tm tmps := λ h => by
  have := QD.ZC hc h b6 b7
  rw [h2] at this
  exact this
 have hids : Qm t.af = [] := by
  unfold Qm
  show (match t.cur with | .draw _ _ _ pa => pa.map (·.2) | _ => []) = []
  rw [<- h3]
  cases hcc : a.cur with
  | draw ops done rest pa =>
   rw [hcc] at b4
   obtain ⟨-, -, -, -, rfl, -⟩ := zV b4
   rfl
  | _ => rfl
 refine ⟨⟨hb, rfl, hm, is, ?_, ?_⟩, hids⟩
 . show Yc X' t.todo is
   rw [<- h4]
   exact ZM b5 his
 . show match t.cur with
    | .none => _
    | .reg ops k rest => _
    | .draw ops done rest pa => _
   rw [<- h3]
   cases hcc : a.cur with
   | none => rw [hcc] at hcur'; exact ⟨hcur'.1, htm hcur'.2⟩
   | reg ops k rest => rw [hcc] at hcur'; exact ⟨hcur'.1, hcur'.2.1, hcur'.2.2.1, htm hcur'.2.2.2⟩
   | draw ops done rest pa =>
    rw [hcc] at hcur' b4
    obtain ⟨A, fuel, tp, listed, i, rc, rest', o, g1, g2, g3, g4, g5, g6, g7, g8, D⟩ := hcur'
    subst g2
    have hall : ∀ j, done.testBit j = true -> Lst listed j := λ j hj => by
     obtain ⟨i', rc', r', e, -, hl⟩ := zV b4
     cases e
     refine D.before g3 g8 ?_
     have : (Nat.land done (((Q4w ops 0 (.sk ops.length)).get i).getD 0)).testBit j = true := by rw [hl]; exact hj
     change (done &&& _).testBit j = true at this
     rw [Nat.testBit_and, Bool.and_eq_true] at this
     exact this.2
    have htm' : QD X' t.af.nt t.af.tm f.tmps := htm ⟨D.tmr.1, λ u => D.tmr.2 u λ j oj hj hl _ => absurd (hall j hj) hl⟩
    exact ⟨A, fuel, tp, listed, i, rc, rest', o, g1, rfl, g3, g4, g5, g6, g7, g8, D.size, D.sub, D.closed, D.plan, D.light, D.looks, D.inRange, ⟨htm'.1, λ u _ => htm'.2 u⟩, λ j oj hj hl _ => absurd (hall j hj) hl⟩
end
theorem QU.ZC {P : Program} {G : Env} {n0 : Nat} {H H' : Tr Q7} {X X' : Ext} {U : Sb} {vs : List Nat} {K : Nat -> Bool} {π : Nat -> Nat} (hc : Yx U vs K π X X') : ∀ {as : List Qg} {ts : List Fr} {cs : List Frame}, Qcc U vs K π as ts = true -> as.map sk4 = ts.map Fr.sk4 -> QU P G X n0 H as cs -> QU P G X' n0 H' (ts.map Fr.af) cs /\ (ts.map Fr.af).flatMap Qm = []
 | [], ts, cs, hk, e, h => by
  cases ts with
  | nil => exact ⟨h, rfl⟩
  | cons t ts => simp [Qcc] at hk
 | a :: as, ts, cs, hk, e, h => by
  cases ts with
  | nil => simp [Qcc] at hk
  | cons t ts =>
   simp only [Qcc, Bool.and_eq_true] at hk
   simp only [List.map_cons, List.cons.injEq] at e
   obtain ⟨e1, e2⟩ := e
   simp only [sk4, Fr.sk4, Prod.mk.injEq] at e1
   obtain ⟨f, fs, rfl, h1, h2⟩ := h
   obtain ⟨k1, k2⟩ := Q23.ZC (H' := H') hc hk.1 e1.1 e1.2.1 e1.2.2.1 e1.2.2.2 h1
   obtain ⟨k3, k4⟩ := QU.ZC hc hk.2 e2 h2
   refine ⟨⟨f, fs, rfl, k1, k3⟩, ?_⟩
   simp only [List.map_cons, List.flatMap_cons, k2, k4, List.append_nil]
noncomputable def Qj4 (U : Sb) (keep : List Nat) (π : List (Nat × Nat)) (ng : Nat) (t : StC) (s : AM) : Bool :=
 JF s.fr.cur && (Qj6 U t.vs (Qq ng keep) (zG π) s.fr t.fr && (Qcc U t.vs (Qq ng keep) (zG π) s.cs t.cs && (rkH U t.vs (Qq ng keep) (zG π) s.H t.l && (Q9a U t.vs s.ctx t.fs &&
  (Nat.ble ng t.next && (keep.all (λ b => Nat.blt b t.next) && (t.vs.all (λ i => Nat.blt i t.next) && (t.vs.all (λ i => !Qq ng keep i || s.ctx.vs.any (Nat.beq (zG π i))) && π.all (λ p => Nat.ble ng p.1)))))))))
def Qlm (L : Nat) (spec : Spec) (G : Env) (n k : Nat) (s : AM) (j : List Nat) (U : Sb) (keep : List Nat) (π : List (Nat × Nat)) (t : StC) : Prop :=
 (AM.rec (motive := λ _ => (Nat × Nat × zm × List Qj) × List (Nat × Nat × zm × List Qj) × Bool) (λ fr cs H nx c => (sk4 fr, cs.map sk4, Qj4 U keep π G.T.ng t ⟨fr, cs, H, nx, c⟩)) (Q61 L spec G n k j s)) = (t.fr.sk4, t.cs.map Fr.sk4, true)
structure Qcw (bs : List (Nat × Place)) (avs : List AV) (vals : List Value) (X : Ext) : Prop where
 V : ∀ q ∈ bs, X.V q.1 = some q.2
 r : AV.QI X avs vals
section
variable {P : Program} {G : Env} {n0 : Nat} {w0 : World} {cs0 : List Frame}
theorem Qlm.Ql0 (hT : G.T.OK P) (hI : YH.OK P G.I) (hS : Zg P G n0) (hng : 0 < G.T.ng) {L : Nat} {f : FuncId} {s : AM} {n k room : Nat} {j : List Nat} {U : Sb} {keep : List Nat} {π : List (Nat × Nat)} {t : StC} {bs bs' : List (Nat × Place)} {avs avs' : List AV} {vals : List Value}
 (hk : ∀ q ∈ bs', q ∈ bs /\ Qq G.T.ng keep q.1 = true /\ zG π q.1 = q.1) (hch : rkL U t.vs (Qq G.T.ng keep) (zG π) avs avs' = true) (hh : Qlm L zx G n k s j U keep π t)
 (he : ∀ X m, Qcw bs' avs' vals X -> Sim P G n0 w0 cs0 X (t.am room) m -> Qt P n0 w0 cs0 f m) {X : Ext} {m : Machine} (hX : Qcw bs avs vals X) (h : Sim P G n0 w0 cs0 X s m) : Qt P n0 w0 cs0 f m := by
 obtain ⟨Y, m', st, hle, h1⟩ := QN hT hI hS (JY (L := L) J6 n k j s) h
 unfold Qlm at hh
 generalize Q61 L zx G n k j s = s1 at hh h1
 obtain ⟨fr1, cs1, H1, nx1, c1⟩ := s1
 simp only [Prod.mk.injEq] at hh
 obtain ⟨e0, e1, hb⟩ := hh
 simp only [Qj4, Bool.and_eq_true, List.all_eq_true, Nat.ble_eq, Nat.blt_eq, Bool.or_eq_true, Bool.not_eq_true'] at hb
 obtain ⟨b5, b6, b8, b9, b10, b11, b12, b13, b14, b15⟩ := hb
 have hlow : ∀ g, g < G.T.ng -> zG π g = g := λ g hg => Q43 (n := G.T.ng) (List.all_eq_true.2 λ p hp => by rw [Nat.ble_eq]; exact b15 p hp) hg
 have hKg : ∀ b, b < G.T.ng -> Qq G.T.ng keep b = true := λ b hb => by unfold Qq; rw [show Nat.blt b G.T.ng = true from by rw [Nat.blt_eq]; exact hb]; rfl
 have hKn : ∀ b, t.next <= b -> Qq G.T.ng keep b = false := λ b hb => by
  unfold Qq
  rw [Bool.or_eq_false_iff]
  refine ⟨?_, ?_⟩
  . cases hh : Nat.blt b G.T.ng with
    | false => rfl
    | true => rw [Nat.blt_eq] at hh; omega
  . rw [List.any_eq_false]
    intro c hc he
    have : b = c := by simpa using he
    subst this
    have := b12 b hc
    omega
 obtain ⟨fr, fs, w, rfl, hF, hall, hHr, hB, h0⟩ := h1.ex
 obtain ⟨k0, hk0⟩ := h1.Qo 0 hng
 have hc : Yx U t.vs (Qq G.T.ng keep) (zG π) Y (Yu U t.vs (Qq G.T.ng keep) (zG π) Y) := by
  refine ⟨λ i hi => ⟨?_, by simp only [Yu, if_pos hi], rfl⟩, λ b hb => by simp only [Yu, if_pos hb]⟩
  by_cases hk : Qq G.T.ng keep i = true
  . obtain ⟨p, hp⟩ := (b14 i hi).elim (λ h' => by rw [hk] at h'; cases h') λ h' => h1.ctx.1 _ (any_beq h')
    exact ⟨p, by simp only [Yu, if_pos hk, hp]⟩
  . exact ⟨_, by simp only [Yu, if_neg hk, if_pos hi]; exact hk0⟩
 have hlt : ∀ b p, (Yu U t.vs (Qq G.T.ng keep) (zG π) Y).V b = some p -> p.blk < w.heap.size := λ b p hp => by
  simp only [Yu] at hp
  split at hp
  . exact hHr.lt _ p hp
  . split at hp
    . exact hHr.lt 0 p hp
    . cases hp
 obtain ⟨g1, g2⟩ := Q7y.ZC (H' := Q2u room t.l) hc b6 b5 e0.1 e0.2.1 e0.2.2.1 e0.2.2.2 hF
 obtain ⟨g3, g4⟩ := QU.ZC (H' := Q2u room t.l) hc b8 e1 hall
 refine .of_steps st (he (Yu U t.vs (Qq G.T.ng keep) (zG π) Y) _ ⟨λ q hq => ?_, Yl hc hch (AV.Zp hle _ _ hX.r)⟩ ⟨⟨fr, fs, w, rfl, g1, g3, Qn.ZC hHr hc hlt b9, hB, h0⟩, Yt hc.cast h1.ctx b10, λ g hg => ?_, λ b hb => ?_, ?_⟩)
 . obtain ⟨q1, q2, q3⟩ := hk q hq
   simp only [Yu, if_pos q2, q3]
   exact hle.V _ _ (hX.V q q1)
 . obtain ⟨n, hn⟩ := h1.Qo g hg
   exact ⟨n, by simp only [Yu, if_pos (hKg g hg), hlow g hg]; exact hn⟩
 . simp only [Yu]
   have hb' : t.next <= b := hb
   rw [if_neg (by rw [hKn b hb']; simp), if_neg (λ hm => by have := b13 b hm; omega)]
 . have e : (t.am room).fr :: (t.am room).cs = t.fr.af :: t.cs.map Fr.af := rfl
   rw [e, List.flatMap_cons, g2, g4]
   simp
theorem Qiq.Ql0 (hT : G.T.OK P) (hI : YH.OK P G.I) (hS : Zg P G n0) (hng : 0 < G.T.ng) {L : Nat} {f : FuncId} {s : AM} {n k room : Nat} {j : List Nat} {U : Sb} {keep : List Nat} {t : StC} {bs bs' : List (Nat × Place)} {avs avs' : List AV} {vals : List Value}
 (hk : ∀ q ∈ bs', q ∈ bs /\ Qq G.T.ng keep q.1 = true) (hch : jg U t.vs (Qq G.T.ng keep) avs avs' = true) (hh : Qiq L zx G n k s j U keep t)
 (he : ∀ X m, Qcw bs' avs' vals X -> Sim P G n0 w0 cs0 X (t.am room) m -> Qt P n0 w0 cs0 f m) {X : Ext} {m : Machine} (hX : Qcw bs avs vals X) (h : Sim P G n0 w0 cs0 X s m) : Qt P n0 w0 cs0 f m := by
 obtain ⟨Y, m', st, hle, h1⟩ := QN hT hI hS (JY (L := L) J6 n k j s) h
 unfold Qiq at hh
 generalize Q61 L zx G n k j s = s1 at hh h1
 obtain ⟨fr, cs, H, nx, c⟩ := s1
 simp only [Prod.mk.injEq] at hh
 have hb := hh.2.2
 refine .of_steps st (he _ _ ⟨λ q hq => ?_, ?_⟩ (Qai h1 hng (by simp only [sk4, Fr.sk4, Prod.mk.injEq]; exact hh.1) hh.2.1 hb))
 . obtain ⟨q1, q2⟩ := hk q hq
   simp only [QJ, if_pos q2]
   exact hle.V _ _ (hX.V q q1)
 . simp only [Qhr, Bool.and_eq_true, List.all_eq_true, Nat.ble_eq, Nat.blt_eq, Bool.or_eq_true, Bool.not_eq_true'] at hb
   obtain ⟨-, -, -, -, -, -, -, -, b14⟩ := hb
   have hvd : ∀ i ∈ t.vs, Qq G.T.ng keep i = true -> Y.dom i := λ i hi hk => by
    rcases b14 i hi with h' | h'
    . rw [hk] at h'; cases h'
    . exact h1.ctx.1 i (any_beq h')
   obtain ⟨k0, hk0⟩ := h1.Qo 0 hng
   have hC : Cast U t.vs (Qq G.T.ng keep) Y (QJ U t.vs (Qq G.T.ng keep) Y) := by
    refine ⟨λ i hi => ⟨?_, by simp only [QJ, if_pos hi], rfl⟩, λ b hb => by simp only [QJ, if_pos hb]⟩
    by_cases hk : Qq G.T.ng keep i = true
    . obtain ⟨p, hp⟩ := hvd i hi hk
      exact ⟨p, by simp only [QJ, if_pos hk, hp]⟩
    . exact ⟨_, by simp only [QJ, if_neg hk, if_pos hi]; exact hk0⟩
   exact QM hC hch (AV.Zp hle _ _ hX.r)
end
end Go.Ax
namespace Go.Ax
open Go.RowKit
structure FrG where
 fr : Fr
 df : List ADf
 ro : Option Nat
noncomputable def FrG.af (f : FrG) : Qg := { f.fr.af with defers := f.df, ro := f.ro }
structure LpG where
 st : LoopState
 pending : Option Code
 fn : Nat
 nt : Nat
 tms : List AV
 params : Array Tmp
 assign : Code
 body : Code
 d : Nat
abbrev Qom := LoopState × Option Code × Nat × Nat × Array Tmp × Code × Code
abbrev LpG.key (g : LpG) : Qom := (g.st, g.pending, g.fn, g.nt, g.params, g.assign, g.body)
inductive ObG where
 | o (o : Q7)
 | lp (g : LpG)
 | df
noncomputable def ObG.ob : ObG -> Q7
 | .o q => q
 | .lp g => .loop g.st g.pending g.fn g.nt (setArgs 0 g.tms (.sk g.nt)) g.params g.assign g.body g.d
 | .df => .defs
structure StG where
 fr : FrG
 cs : List FrG
 l : List (Nat × ObG)
 next : Nat
 fs : List Fact
 vs : List Nat
noncomputable def StG.am (t : StG) (room : Nat) : AM := ⟨t.fr.af, t.cs.map FrG.af, Q2u room (t.l.map λ q => (q.1, q.2.ob)), t.next, ⟨t.fs, t.vs⟩⟩
def erC : zm -> zm
 | .draw ops done rest _ => .draw ops done rest []
 | c => c
theorem Qch {c : zm} (h : JF c = true) : erC c = c := by cases c <;> first | rfl | (simp [JF] at h)
noncomputable def curG : zm -> Bool
 | .draw ops done rest _ => match rest with
  | (i, _) :: _ => Nat.beq (Nat.land done (((Q4w ops 0 (.sk ops.length)).get i).getD 0)) done
  | _ => false
 | _ => true
theorem Qfe {ops : List Oper} {done : Nat} {rest : List (Nat × List Nat)} {pa : List (Nat × Nat)} (h : curG (.draw ops done rest pa) = true) : ∃ i rc rest', rest = (i, rc) :: rest' /\ Nat.land done (((Q4w ops 0 (.sk ops.length)).get i).getD 0) = done := by
 cases rest with
 | nil => simp [curG] at h
 | cons q r =>
  obtain ⟨i, rc⟩ := q
  exact ⟨i, rc, r, rfl, Nat.eq_of_beq_eq_true h⟩
def erI : Qj -> Qj
 | .inRangeFunc _ => .inRangeFunc 0
 | .endRangeFunc _ => .endRangeFunc 0
 | i => i
noncomputable def Qbh (K : Nat -> Bool) (π : Nat -> Nat) : List Qj -> List Qj -> Bool
 | [], [] => true
 | a :: as, b :: bs => (match a with
  | .inRangeFunc l => (match b with | .inRangeFunc l' => Nat.beq l (π l') && K l' | _ => false)
  | .endRangeFunc l => (match b with | .endRangeFunc l' => Nat.beq l (π l') && K l' | _ => false)
  | _ => true) && Qbh K π as bs
 | _, _ => false
noncomputable def dfB (K : Nat -> Bool) (π : Nat -> Nat) : List ADf -> List ADf -> Bool
 | [], [] => true
 | a :: as, b :: bs => (match a with
  | .mark r => (match b with | .mark r' => Nat.beq r (π r') && K r' | _ => false)
  | .nop f => (match b with | .nop f' => Nat.beq f f' | _ => false)) && dfB K π as bs
 | _, _ => false
noncomputable def roGB (K : Nat -> Bool) (π : Nat -> Nat) : Option Nat -> Option Nat -> Bool
 | none, none => true
 | some l, some l' => Nat.beq l (π l') && K l'
 | _, _ => false
noncomputable def frG (U : Sb) (vs : List Nat) (K : Nat -> Bool) (π : Nat -> Nat) (a : Qg) (f : FrG) : Bool :=
 !a.ret && (dfB K π a.defers f.df && (roGB K π a.ro f.ro && (curG a.cur && (Qbh K π a.todo f.fr.todo && (Qjv U vs K π a.tm 0 f.fr.tms && Nat.beq f.fr.tms.length a.nt)))))
noncomputable def Qly (U : Sb) (vs : List Nat) (K : Nat -> Bool) (π : Nat -> Nat) : List Qg -> List FrG -> Bool
 | [], [] => true
 | a :: as, f :: fs => frG U vs K π a f && Qly U vs K π as fs
 | _, _ => false
noncomputable def rkG (U : Sb) (vs : List Nat) (K : Nat -> Bool) (π : Nat -> Nat) (o : Q7) : ObG -> Bool
 | .o o' => rkO U vs K π o o' || (match o, o' with | .pre s n el, .pre s' n' el' => Qja U vs (λ _ => false) (.pre s n el) (.pre s' n' el') | _, _ => false)
 | .lp g => (match o with
  | .loop _ _ _ nt tm _ _ _ d => Nat.beq d (π g.d) && (K g.d && (Qjv U vs K π tm 0 g.tms && Nat.beq g.tms.length nt))
  | _ => false)
 | .df => (match o with | .defs => true | _ => false)
def Qlu : Option Q7 -> Option Qom
 | some (.loop st p fn nt _ ps as bd _) => some (st, p, fn, nt, ps, as, bd)
 | _ => none
noncomputable def Q4c (H : Tr Q7) (π : Nat -> Nat) : List (Nat × ObG) -> List (Option Qom)
 | [] => []
 | q :: l => match q.2 with
  | .lp _ => Qlu (H.get (π q.1)) :: Q4c H π l
  | _ => Q4c H π l
def Q4d : List (Nat × ObG) -> List (Option Qom)
 | [] => []
 | q :: l => match q.2 with
  | .lp g => some g.key :: Q4d l
  | _ => Q4d l
section
variable {P : Program} {G : Env} {n0 : Nat} {H H' : Tr Q7} {X X' : Ext} {U : Sb} {vs : List Nat} {K : Nat -> Bool} {π : Nat -> Nat}
theorem Q8v (hc : Yx U vs K π X X') : ∀ {as bs : List Qj} {is : List Item}, Qbh K π as bs = true -> as.map erI = bs.map erI -> Yc X as is -> Yc X' bs is
 | [], bs, is, h, e, r => by
  cases bs with
  | nil => exact r
  | cons b bs => simp [Qbh] at h
 | a :: as, bs, is, h, e, ⟨i, is', e1, h1, h2⟩ => by
  cases bs with
  | nil => simp [Qbh] at h
  | cons b bs =>
   simp only [Qbh, Bool.and_eq_true] at h
   simp only [List.map_cons, List.cons.injEq] at e
   refine ⟨i, is', e1, ?_, Q8v hc h.2 e.2 h2⟩
   obtain ⟨h3, -⟩ := h
   obtain ⟨e3, -⟩ := e
   cases a <;> cases b <;> simp only [erI, Qj.code.injEq, Qj.inBlock.injEq, Qj.inLoop.injEq, Qj.inScope.injEq, reduceCtorEq] at e3 <;> first
    | (subst e3; exact h1)
    | exact h1
    | (simp only [Bool.and_eq_true, Nat.beq_eq] at h3
       obtain ⟨rfl, hk⟩ := h3
       simp only [Qgf] at h1 ⊢
       obtain ⟨p, hp, e4⟩ := h1
       exact ⟨p, by rw [hc.kept _ hk]; exact hp, e4⟩)
theorem Q95 (hc : Yx U vs K π X X') : ∀ {as bs : List ADf} {ds : List Deferred}, dfB K π as bs = true -> Q1k P X as ds -> Q1k P X' bs ds
 | [], bs, ds, h, r => by
  cases bs with
  | nil => exact r
  | cons b bs => simp [dfB] at h
 | .mark r0 :: as, bs, ds, h, r => by
  cases bs with
  | nil => simp [dfB] at h
  | cons b bs =>
   simp only [dfB, Bool.and_eq_true] at h
   cases b with
   | mark r' =>
    obtain ⟨h1, h2⟩ := h
    simp only [Bool.and_eq_true, Nat.beq_eq] at h1
    obtain ⟨rfl, hk⟩ := h1
    obtain ⟨p, ds', e1, e2, e3⟩ := r
    exact ⟨p, ds', by rw [hc.kept _ hk]; exact e1, e2, Q95 hc h2 e3⟩
   | nop f => simp at h
 | .nop f :: as, bs, ds, h, r => by
  cases bs with
  | nil => simp [dfB] at h
  | cons b bs =>
   simp only [dfB, Bool.and_eq_true] at h
   cases b with
   | mark r' => simp at h
   | nop f' =>
    obtain ⟨h1, h2⟩ := h
    simp only [Nat.beq_eq] at h1
    subst h1
    obtain ⟨e0, cap, args, ds', e2, e3⟩ := r
    exact ⟨e0, cap, args, ds', e2, Q95 hc h2 e3⟩
variable {a : Qg} {t : FrG} {f : Frame}
theorem Qam (hc : Yx U vs K π X X') (hk : frG U vs K π a t = true) (h1 : a.fn = t.fr.fn) (h : jT P X a f) : jT P X' t.af f := by
 simp only [frG, Bool.and_eq_true, Bool.not_eq_true'] at hk
 obtain ⟨b1, b2, b3, -⟩ := hk
 refine ⟨h.fn.trans h1, h.kind, ?_, Q95 hc b2 h.defers⟩
 have := h.ro
 show match t.ro with
  | none => _
  | some l => _
 cases ha : a.ro with
 | none =>
  rw [ha] at this b3
  cases ht : t.ro with
  | none => exact this
  | some l => rw [ht] at b3; simp [roGB] at b3
 | some l =>
  rw [ha] at this b3
  cases ht : t.ro with
  | none => rw [ht] at b3; simp [roGB] at b3
  | some l' =>
   rw [ht] at b3
   simp only [roGB, Bool.and_eq_true, Nat.beq_eq] at b3
   obtain ⟨rfl, hk⟩ := b3
   obtain ⟨p, hp, e⟩ := this
   exact ⟨p, by rw [hc.kept _ hk]; exact hp, e⟩
theorem Q7y.JE (hc : Yx U vs K π X X') (hk : frG U vs K π a t = true) (b4 : JF a.cur = true) (h1 : a.fn = t.fr.fn) (h2 : a.nt = t.fr.nt) (h3 : erC a.cur = t.fr.cur) (h4 : a.todo.map erI = t.fr.todo.map erI) (h : Q7y P G X n0 H a f) : Q7y P G X' n0 H' t.af f /\ Qm t.af = [] := by
 rw [Qch b4] at h3
 have hb := Qam hc hk h1 h.1
 simp only [frG, Bool.and_eq_true, Bool.not_eq_true', Nat.beq_eq] at hk
 obtain ⟨b1, -, -, -, b5, b6, b7⟩ := hk
 obtain ⟨-, h'⟩ := h
 rw [b1] at h'
 obtain ⟨hm, is, his, hcur'⟩ := h'
 have htm : ∀ {tmps}, QD X a.nt a.tm tmps -> QD X' t.af.nt t.af.tm tmps := λ h => by
  have := QD.ZC hc h b6 b7
  rw [h2] at this
  exact this
 have hids : Qm t.af = [] := by
  show Qm t.af = []
  unfold Qm
  show (match t.fr.cur with | .draw _ _ _ pa => pa.map (·.2) | _ => []) = []
  rw [<- h3]
  cases hcc : a.cur with
  | draw ops done rest pa => rw [hcc] at b4; cases b4
  | _ => rfl
 refine ⟨⟨hb, hm, is, ?_, ?_⟩, hids⟩
 . show Yc X' t.fr.todo is
   exact Q8v hc b5 h4 his
 . show match t.fr.cur with
    | .none => _
    | .reg ops k rest => _
    | .draw ops done rest pa => _
   rw [<- h3]
   cases hcc : a.cur with
   | none => rw [hcc] at hcur'; exact ⟨hcur'.1, htm hcur'.2⟩
   | reg ops k rest => rw [hcc] at hcur'; exact ⟨hcur'.1, hcur'.2.1, htm hcur'.2.2⟩
   | draw ops done rest pa => rw [hcc] at b4; cases b4
theorem Q23.JE (hc : Yx U vs K π X X') (hk : frG U vs K π a t = true) (h1 : a.fn = t.fr.fn) (h2 : a.nt = t.fr.nt) (h3 : erC a.cur = t.fr.cur) (h4 : a.todo.map erI = t.fr.todo.map erI) (h : Q23 P G X n0 H a f) : Q23 P G X' n0 H' t.af f /\ Qm t.af = [] := by
 have hb := Qam hc hk h1 h.1
 simp only [frG, Bool.and_eq_true, Bool.not_eq_true', Nat.beq_eq] at hk
 obtain ⟨b1, -, -, b4, b5, b6, b7⟩ := hk
 obtain ⟨-, -, hm, is, his, hcur'⟩ := h
 have htm : ∀ {tmps}, QD X a.nt a.tm tmps -> QD X' t.af.nt t.af.tm tmps := λ h => by
  have := QD.ZC hc h b6 b7
  rw [h2] at this
  exact this
 have hids : Qm t.af = [] := by
  unfold Qm
  show (match t.fr.cur with | .draw _ _ _ pa => pa.map (·.2) | _ => []) = []
  rw [<- h3]
  cases hcc : a.cur with
  | draw ops done rest pa => rfl
  | _ => rfl
 refine ⟨⟨hb, rfl, hm, is, ?_, ?_⟩, hids⟩
 . show Yc X' t.fr.todo is
   exact Q8v hc b5 h4 his
 . show match t.fr.cur with
    | .none => _
    | .reg ops k rest => _
    | .draw ops done rest pa => _
   rw [<- h3]
   cases hcc : a.cur with
   | none => rw [hcc] at hcur'; exact ⟨hcur'.1, htm hcur'.2⟩
   | reg ops k rest => rw [hcc] at hcur'; exact ⟨hcur'.1, hcur'.2.1, hcur'.2.2.1, htm hcur'.2.2.2⟩
   | draw ops done rest pa =>
    rw [hcc] at hcur' b4
    show ∃ (A : Array Oper) (fuel tp : Nat) (listed : Array Bool) (i : Nat) (rc : List Nat) (rest' : List (Nat × List Nat)) (o : Oper), _
    obtain ⟨A, fuel, tp, listed, i, rc, rest', o, g1, g2, g3, g4, g5, g6, g7, g8, D⟩ := hcur'
    subst g2
    have hall : ∀ j, done.testBit j = true -> Lst listed j := λ j hj => by
     obtain ⟨i', rc', r', e, hl⟩ := Qfe b4
     cases e
     refine D.before g3 g8 ?_
     have : (Nat.land done (((Q4w ops 0 (.sk ops.length)).get i).getD 0)).testBit j = true := by rw [hl]; exact hj
     change (done &&& _).testBit j = true at this
     rw [Nat.testBit_and, Bool.and_eq_true] at this
     exact this.2
    have htm' : QD X' t.af.nt t.af.tm f.tmps := htm ⟨D.tmr.1, λ u => D.tmr.2 u λ j oj hj hl _ => absurd (hall j hj) hl⟩
    exact ⟨A, fuel, tp, listed, i, rc, rest', o, g1, rfl, g3, g4, g5, g6, g7, g8, D.size, D.sub, D.closed, D.plan, D.light, D.looks, D.inRange, ⟨htm'.1, λ u _ => htm'.2 u⟩, λ j oj hj hl _ => absurd (hall j hj) hl⟩
theorem Q0i (hc : Yx U vs K π X X') {o : Q7} {g : ObG} {p : Place} {ob : Option Obj} (h : rkG U vs K π o g = true) (hkey : ∀ q, g = .lp q -> Qlu (some o) = some q.key) (r : jf X o p ob) : jf X' g.ob p ob /\ g.ob.live = o.live /\ g.ob.rw = o.rw := by
 cases g with
 | o o' =>
  simp only [rkG, Bool.or_eq_true] at h
  rcases h with h | h
  . exact zH hc h r
  . split at h
    . obtain ⟨k1, k2, k3⟩ := qj hc.cast h r
      exact ⟨k1, k2, k3⟩
    . cases h
 | lp g =>
  have hk := hkey g rfl
  simp only [rkG] at h
  split at h
  . simp only [Qlu, Option.some.injEq, LpG.key, Prod.mk.injEq] at hk
    obtain ⟨e1, e2, e3, e4, e5, e6, e7⟩ := hk
    subst e1 e2 e3 e4 e5 e6 e7
    simp only [Bool.and_eq_true, Nat.beq_eq] at h
    obtain ⟨rfl, hkd, h1, h2⟩ := h
    obtain ⟨tmps, d', k1, k2, q, k3, k4⟩ := r
    exact ⟨⟨tmps, d', k1, QD.ZC hc k2 h1 h2, q, by rw [hc.kept _ hkd]; exact k3, k4⟩, rfl, rfl⟩
  . cases h
 | df =>
  simp only [rkG] at h
  split at h
  . exact ⟨r, rfl, rfl⟩
  . cases h
theorem Qh0 {o : Q7} {g : ObG} (h : rkG U vs K π o g = true) : g.ob.Q5e = o.Q5e := by
 cases g with
 | o o' =>
  simp only [rkG, Bool.or_eq_true] at h
  rcases h with h | h
  . exact Qa1 h
  . split at h
    . exact Q75 h
    . cases h
 | lp g =>
  simp only [rkG] at h
  split at h
  . rfl
  . cases h
 | df =>
  simp only [rkG] at h
  split at h
  . rfl
  . cases h
noncomputable def Qmn (U : Sb) (vs : List Nat) (K : Nat -> Bool) (π : Nat -> Nat) (x : Option Q7) (g : ObG) : Bool :=
 match x with
 | some o => rkG U vs K π o g
 | none => false
noncomputable def Qjx (U : Sb) (vs : List Nat) (K : Nat -> Bool) (π : Nat -> Nat) (H : Tr Q7) : List (Nat × ObG) -> Bool
 | [] => true
 | e :: l => K e.1 && (Qmn U vs K π (H.get (π e.1)) e.2 && (l.all (λ f => !Nat.beq (π e.1) (π f.1)) && Qjx U vs K π H l))
theorem Qa2 {H : Tr Q7} : ∀ {l : List (Nat × ObG)}, Qjx U vs K π H l = true -> Q4c H π l = Q4d l -> ∀ e ∈ l, K e.1 = true /\ ∃ o, H.get (π e.1) = some o /\ rkG U vs K π o e.2 = true /\ ∀ q, e.2 = .lp q -> Qlu (some o) = some q.key
 | [], _, _, e, he => by cases he
 | a :: l, h, hk, e, he => by
  simp only [Qjx, Bool.and_eq_true] at h
  obtain ⟨b, g⟩ := a
  have hk2 : Q4c H π l = Q4d l /\ ∀ q, g = .lp q -> Qlu (H.get (π b)) = some q.key := by
   cases g with
   | lp q0 =>
    simp only [Q4c, Q4d, List.cons.injEq] at hk
    exact ⟨hk.2, λ q e => by cases e; exact hk.1⟩
   | o o' => simp only [Q4c, Q4d] at hk; exact ⟨hk, λ q e => by cases e⟩
   | df => simp only [Q4c, Q4d] at hk; exact ⟨hk, λ q e => by cases e⟩
  rcases List.mem_cons.1 he with rfl | he
  . refine ⟨h.1, ?_⟩
    have h2 := h.2.1
    unfold Qmn at h2
    split at h2
    . rename_i o ho; exact ⟨o, ho, h2, λ q e => by rw [<- ho]; exact hk2.2 q e⟩
    . cases h2
  . exact Qa2 h.2.2.2 hk2.1 e he
theorem Qa3 {H : Tr Q7} : ∀ {l : List (Nat × ObG)}, Qjx U vs K π H l = true -> ∀ e ∈ l, ∀ f ∈ l, π e.1 = π f.1 -> e.1 = f.1
 | [], _, e, he, _, _, _ => by cases he
 | a :: l, h, e, he, f, hf, heq => by
  simp only [Qjx, Bool.and_eq_true, List.all_eq_true, Bool.not_eq_true'] at h
  have no : ∀ g ∈ l, π a.1 ≠ π g.1 := λ g hg e => by
   have := h.2.2.1 g hg
   rw [e] at this
   simp at this
  rcases List.mem_cons.1 he with e1 | e1 <;> rcases List.mem_cons.1 hf with f1 | f1
  . rw [e1, f1]
  . rw [e1] at heq; exact absurd heq (no f f1)
  . rw [f1] at heq; exact absurd heq.symm (no e e1)
  . exact Qa3 h.2.2.2 e e1 f f1 heq
theorem Qn.JE {w : World} {l : List (Nat × ObG)} {room : Nat} (h : Qn X n0 H w) (hc : Yx U vs K π X X') (hlt : ∀ b p, X'.V b = some p -> p.blk < w.heap.size) (hk : Qjx U vs K π H l = true) (hkey : Q4c H π l = Q4d l) : Qn X' n0 (Q2u room (l.map λ q => (q.1, q.2.ob))) w := by
 have base : ∀ b o' p, (Q2u room (l.map λ q => (q.1, q.2.ob))).get b = some o' -> X'.V b = some p -> X.V (π b) = some p /\ ∃ g, (b, g) ∈ l /\ o' = g.ob /\ ∃ o, H.get (π b) = some o /\ rkG U vs K π o g = true /\ ∀ q, g = .lp q -> Qlu (some o) = some q.key := λ b o' p hb hp => by
  obtain ⟨⟨b', g⟩, hm, e⟩ := List.mem_map.1 (JZ hb)
  simp only [Prod.mk.injEq] at e
  obtain ⟨rfl, rfl⟩ := e
  obtain ⟨k1, o, k2, k3, k4⟩ := Qa2 hk hkey _ hm
  exact ⟨by rw [<- hc.kept b' k1]; exact hp, g, hm, rfl, o, k2, k3, k4⟩
 refine ⟨λ b o' p hb hp => ?_, λ b b' o1 o2 p p' hb hb' l1 l2 hp hp' e => ?_, hlt, λ b o' p hb hr hp => ?_⟩
 . obtain ⟨g1, g, -, rfl, o, g2, g3, g4⟩ := base b o' p hb hp
   exact (Q0i hc g3 g4 (h.obj _ o p g2 g1)).1
 . obtain ⟨g1, g, gm, rfl, o, g2, g3, g4⟩ := base b o1 p hb hp
   obtain ⟨g5, g', gm', rfl, q, g6, g7, g8⟩ := base b' o2 p' hb' hp'
   have e1 := (Q0i hc g3 g4 (h.obj _ o p g2 g1)).2.1
   exact Qa3 hk _ gm _ gm' (h.inj _ _ o q p p' g2 g6 (by rw [<- e1]; exact l1) (by rw [<- Qh0 g7]; exact l2) g1 g5 e)
 . obtain ⟨g1, g, -, rfl, o, g2, g3, g4⟩ := base b o' p hb hp
   have e1 := (Q0i hc g3 g4 (h.obj _ o p g2 g1)).2.2
   exact h.own _ o p g2 (by rw [<- e1]; exact hr) g1
end
abbrev sk4G (a : Qg) : Nat × Nat × zm × List Qj := (a.fn, a.nt, erC a.cur, a.todo.map erI)
abbrev FrG.sk4 (a : FrG) : Nat × Nat × zm × List Qj := (a.fr.fn, a.fr.nt, a.fr.cur, a.fr.todo.map erI)
theorem QU.JE {P : Program} {G : Env} {n0 : Nat} {H H' : Tr Q7} {X X' : Ext} {U : Sb} {vs : List Nat} {K : Nat -> Bool} {π : Nat -> Nat} (hc : Yx U vs K π X X') : ∀ {as : List Qg} {ts : List FrG} {cs : List Frame}, Qly U vs K π as ts = true -> as.map sk4G = ts.map FrG.sk4 -> QU P G X n0 H as cs -> QU P G X' n0 H' (ts.map FrG.af) cs /\ (ts.map FrG.af).flatMap Qm = []
 | [], ts, cs, hk, e, h => by
  cases ts with
  | nil => exact ⟨h, rfl⟩
  | cons t ts => simp [Qly] at hk
 | a :: as, ts, cs, hk, e, h => by
  cases ts with
  | nil => simp [Qly] at hk
  | cons t ts =>
   simp only [Qly, Bool.and_eq_true] at hk
   simp only [List.map_cons, List.cons.injEq] at e
   obtain ⟨e1, e2⟩ := e
   simp only [sk4G, FrG.sk4, Prod.mk.injEq] at e1
   obtain ⟨f, fs, rfl, h1, h2⟩ := h
   obtain ⟨k1, k2⟩ := Q23.JE (H' := H') hc hk.1 e1.1 e1.2.1 e1.2.2.1 e1.2.2.2 h1
   obtain ⟨k3, k4⟩ := QU.JE hc hk.2 e2 h2
   refine ⟨⟨f, fs, rfl, k1, k3⟩, ?_⟩
   simp only [List.map_cons, List.flatMap_cons, k2, k4, List.append_nil]
noncomputable def Qnj (U : Sb) (keep : List Nat) (π : List (Nat × Nat)) (ng : Nat) (t : StG) (s : AM) : Bool :=
 JF s.fr.cur && (frG U t.vs (Qq ng keep) (zG π) s.fr t.fr && (Qly U t.vs (Qq ng keep) (zG π) s.cs t.cs && (Qjx U t.vs (Qq ng keep) (zG π) s.H t.l && (Q9a U t.vs s.ctx t.fs &&
  (Nat.ble ng t.next && (keep.all (λ b => Nat.blt b t.next) && (t.vs.all (λ i => Nat.blt i t.next) && (t.vs.all (λ i => !Qq ng keep i || s.ctx.vs.any (Nat.beq (zG π i))) && π.all (λ p => Nat.ble ng p.1)))))))))
abbrev GKey := (Nat × Nat × zm × List Qj) × List (Nat × Nat × zm × List Qj) × List (Option Qom) × Bool
noncomputable def Qkr (U : Sb) (keep : List Nat) (π : List (Nat × Nat)) (ng : Nat) (t : StG) (s : AM) : GKey :=
 AM.rec (motive := λ _ => GKey) (λ fr cs H nx c => (sk4G fr, cs.map sk4G, Q4c H (zG π) t.l, Qnj U keep π ng t ⟨fr, cs, H, nx, c⟩)) s
def StG.key (t : StG) : GKey := (t.fr.sk4, t.cs.map FrG.sk4, Q4d t.l, true)
def Qm3 (L : Nat) (spec : Spec) (G : Env) (n k : Nat) (s : AM) (j : List Nat) (U : Sb) (keep : List Nat) (π : List (Nat × Nat)) (t : StG) : Prop :=
 Qkr U keep π G.T.ng t (Q61 L spec G n k j s) = t.key
section
variable {P : Program} {G : Env} {n0 : Nat} {w0 : World} {cs0 : List Frame}
theorem Qah {Y : Ext} {s : AM} {m : Machine} {U : Sb} {keep : List Nat} {π : List (Nat × Nat)} {t : StG} {room : Nat} (h1 : Sim P G n0 w0 cs0 Y s m) (hng : 0 < G.T.ng) (hh : Qkr U keep π G.T.ng t s = t.key) :
 Sim P G n0 w0 cs0 (Yu U t.vs (Qq G.T.ng keep) (zG π) Y) (t.am room) m /\ Yx U t.vs (Qq G.T.ng keep) (zG π) Y (Yu U t.vs (Qq G.T.ng keep) (zG π) Y) := by
 obtain ⟨fr1, cs1, H1, nx1, c1⟩ := s
 simp only [Qkr, StG.key, Prod.mk.injEq] at hh
 obtain ⟨e0, e1, ek, hb⟩ := hh
 simp only [Qnj, Bool.and_eq_true, List.all_eq_true, Nat.ble_eq, Nat.blt_eq, Bool.or_eq_true, Bool.not_eq_true'] at hb
 obtain ⟨b5, b6, b8, b9, b10, b11, b12, b13, b14, b15⟩ := hb
 have hlow : ∀ g, g < G.T.ng -> zG π g = g := λ g hg => Q43 (n := G.T.ng) (List.all_eq_true.2 λ p hp => by rw [Nat.ble_eq]; exact b15 p hp) hg
 have hKg : ∀ b, b < G.T.ng -> Qq G.T.ng keep b = true := λ b hb => by unfold Qq; rw [show Nat.blt b G.T.ng = true from by rw [Nat.blt_eq]; exact hb]; rfl
 have hKn : ∀ b, t.next <= b -> Qq G.T.ng keep b = false := λ b hb => by
  unfold Qq
  rw [Bool.or_eq_false_iff]
  refine ⟨?_, ?_⟩
  . cases hh : Nat.blt b G.T.ng with
    | false => rfl
    | true => rw [Nat.blt_eq] at hh; omega
  . rw [List.any_eq_false]
    intro c hc he
    have : b = c := by simpa using he
    subst this
    have := b12 b hc
    omega
 obtain ⟨fr, fs, w, rfl, hF, hall, hHr, hB, h0⟩ := h1.ex
 obtain ⟨k0, hk0⟩ := h1.Qo 0 hng
 have hc : Yx U t.vs (Qq G.T.ng keep) (zG π) Y (Yu U t.vs (Qq G.T.ng keep) (zG π) Y) := by
  refine ⟨λ i hi => ⟨?_, by simp only [Yu, if_pos hi], rfl⟩, λ b hb => by simp only [Yu, if_pos hb]⟩
  by_cases hk : Qq G.T.ng keep i = true
  . obtain ⟨p, hp⟩ := (b14 i hi).elim (λ h' => by rw [hk] at h'; cases h') λ h' => h1.ctx.1 _ (any_beq h')
    exact ⟨p, by simp only [Yu, if_pos hk, hp]⟩
  . exact ⟨_, by simp only [Yu, if_neg hk, if_pos hi]; exact hk0⟩
 have hlt : ∀ b p, (Yu U t.vs (Qq G.T.ng keep) (zG π) Y).V b = some p -> p.blk < w.heap.size := λ b p hp => by
  simp only [Yu] at hp
  split at hp
  . exact hHr.lt _ p hp
  . split at hp
    . exact hHr.lt 0 p hp
    . cases hp
 obtain ⟨g1, g2⟩ := Q7y.JE (H' := Q2u room (t.l.map λ q => (q.1, q.2.ob))) hc b6 b5 e0.1 e0.2.1 e0.2.2.1 e0.2.2.2 hF
 obtain ⟨g3, g4⟩ := QU.JE (H' := Q2u room (t.l.map λ q => (q.1, q.2.ob))) hc b8 e1 hall
 refine ⟨⟨⟨fr, fs, w, rfl, g1, g3, Qn.JE hHr hc hlt b9 ek, hB, h0⟩, Yt hc.cast h1.ctx b10, λ g hg => ?_, λ b hb => ?_, ?_⟩, hc⟩
 . obtain ⟨n, hn⟩ := h1.Qo g hg
   exact ⟨n, by simp only [Yu, if_pos (hKg g hg), hlow g hg]; exact hn⟩
 . simp only [Yu]
   have hb' : t.next <= b := hb
   rw [if_neg (by rw [hKn b hb']; simp), if_neg (λ hm => by have := b13 b hm; omega)]
 . have e : (t.am room).fr :: (t.am room).cs = t.fr.af :: t.cs.map FrG.af := rfl
   rw [e, List.flatMap_cons, g2, g4]
   simp
theorem Qm3.Ql0 (hT : G.T.OK P) (hI : YH.OK P G.I) (hS : Zg P G n0) (hng : 0 < G.T.ng) {L : Nat} {f : FuncId} {s : AM} {n k room : Nat} {j : List Nat} {U : Sb} {keep : List Nat} {π : List (Nat × Nat)} {t : StG} {bs bs' : List (Nat × Place)} {avs avs' : List AV} {vals : List Value}
 (hk : ∀ q ∈ bs', q ∈ bs /\ Qq G.T.ng keep q.1 = true /\ zG π q.1 = q.1) (hch : rkL U t.vs (Qq G.T.ng keep) (zG π) avs avs' = true) (hh : Qm3 L zx G n k s j U keep π t)
 (he : ∀ X m, Qcw bs' avs' vals X -> Sim P G n0 w0 cs0 X (t.am room) m -> Qt P n0 w0 cs0 f m) {X : Ext} {m : Machine} (hX : Qcw bs avs vals X) (h : Sim P G n0 w0 cs0 X s m) : Qt P n0 w0 cs0 f m := by
 obtain ⟨Y, m', st, hle, h1⟩ := QN hT hI hS (JY (L := L) J6 n k j s) h
 obtain ⟨h2, hc⟩ := Qah (room := room) h1 hng hh
 refine .of_steps st (he _ _ ⟨λ q hq => ?_, Yl hc hch (AV.Zp hle _ _ hX.r)⟩ h2)
 obtain ⟨q1, q2, q3⟩ := hk q hq
 simp only [Yu, if_pos q2, q3]
 exact hle.V _ _ (hX.V q q1)
theorem Qm3.ends (hT : G.T.OK P) (hI : YH.OK P G.I) (hS : Zg P G n0) (hng : 0 < G.T.ng) {L : Nat} {f : FuncId} {s : AM} {n k room : Nat} {j : List Nat} {U : Sb} {keep : List Nat} {π : List (Nat × Nat)} {t : StG} (hh : Qm3 L zx G n k s j U keep π t)
 (he : ∀ X m, Sim P G n0 w0 cs0 X (t.am room) m -> Qt P n0 w0 cs0 f m) {X : Ext} {m : Machine} (h : Sim P G n0 w0 cs0 X s m) : Qt P n0 w0 cs0 f m := by
 obtain ⟨Y, m', st, -, h1⟩ := QN hT hI hS (JY (L := L) J6 n k j s) h
 exact .of_steps st (he _ _ (Qah (room := room) h1 hng hh).1)
theorem Sim.Qe7 {X : Ext} {s : AM} {m : Machine} (h : Sim P G n0 w0 cs0 X s m) (op : BinOp) (a b : E) (ha : a.okB s.ctx.vs = true) (hb : b.okB s.ctx.vs = true) :
 Sim P G n0 w0 cs0 X { s with ctx := ⟨⟨op, a, b, true⟩ :: s.ctx.fs, s.ctx.vs⟩ } m \/ Sim P G n0 w0 cs0 X { s with ctx := ⟨⟨op, a, b, false⟩ :: s.ctx.fs, s.ctx.vs⟩ } m := by
 have key : ∀ v, (Fact.mk op a b v).ok X.O -> Sim P G n0 w0 cs0 X { s with ctx := ⟨⟨op, a, b, v⟩ :: s.ctx.fs, s.ctx.vs⟩ } m := λ v hv => by
  refine ⟨h.ex, ⟨h.ctx.1, λ f hm => ?_⟩, h.Qo, h.fresh, h.ids⟩
  rcases List.mem_cons.1 hm with rfl | hm
  . exact ⟨hv, E.ZF h.ctx.1 ha, E.ZF h.ctx.1 hb⟩
  . exact h.ctx.2 f hm
 have hdec : (Fact.mk op a b true).ok X.O \/ (Fact.mk op a b false).ok X.O := by
  unfold Fact.ok
  cases Y3 op (a.den X.O) (b.den X.O) <;> simp
 rcases hdec with h' | h'
 . exact .inl (key _ h')
 . exact .inr (key _ h')
end
end Go.Ax
namespace Go.Ax
open Go.RowKit
noncomputable def endM (G : Env) (f : FuncId) (q : AV -> Tr Q7 -> Bool) (k : Nat) (s : AM) : Bool :=
 match run G k s with
 | .go _ => false
 | .stop s => match ZK G s with
  | .fin => s.fr.ret && Nat.beq s.fr.fn f && (match G.T.funcs.get s.fr.fn with
   | some fn => match Jp G.T s.H fn s.fr.tm with
    | some v => q v s.H
    | none => false
   | none => false)
  | _ => false
section
variable {P : Program} {G : Env} {n0 : Nat} {X : Ext}
theorem callsM (hT : G.T.OK P) (hI : YH.OK P G.I) (hS : Zg P G n0) {f : FuncId} {args : List AV} {vs : Array Value} {H : Tr Q7} {next : Nat} {c : Ctx} {q : AV -> Tr Q7 -> Bool} {k : Nat} {s : AM} {w : World} (hs : start G f args H next c = some s) (he : endM G f q k s = true)
 (hargs : AV.QI X args vs.toList) (hH : Qn X n0 H w) (h0 : n0 <= w.heap.size) (hc : c.okN X.dom X.O) (hg : X.Qo G.T.ng) (hfr : ∀ b, next <= b -> X.V b = none) :
 Calls P f vs w (λ e w' => ∃ Y v u M, X.le Y /\ q v M = true /\ v.rel Y u /\ e = .returned u /\ Qn Y n0 M w' /\ Below n0 w w') := by
 intro cs
 have hsim : Sim P G n0 w cs X s (lone (Frame.enter P f vs .normal) cs w) := by
  unfold start at hs
  split at hs
  . cases hs
  . rename_i fn hfn
    split at hs
    . cases hs
    . rename_i b hb
      cases hs
      have hP := (hT.funcs f fn hfn).1
      refine ⟨⟨Frame.enter P f vs .normal, [], w, rfl, ⟨⟨rfl, rfl, rfl, rfl⟩, rfl, [.code b], ⟨_, _, rfl, rfl, rfl⟩, ?_, ?_⟩, rfl, hH, Below.refl _ _, h0⟩, hc, hg, hfr, ?_⟩
      . simp [Frame.enter, hP, hb]
      . have := Q04 (k := fn.ntmps) hargs
        simpa [Frame.enter, hP] using this
      . simp [Qm]
 unfold endM at he
 have hr := Q0f hT hI hS k hsim
 split at he
 . cases he
 . rename_i s1 hs1
   rw [hs1] at hr
   obtain ⟨Y, m1, st, hle, h1⟩ := hr
   simp only [YN.state] at h1
   split at he
   . rename_i hfin
     simp only [Bool.and_eq_true, Nat.beq_eq] at he
     obtain ⟨⟨hret, hf⟩, he⟩ := he
     split at he
     . rename_i fn hfn
       split at he
       . rename_i v hv
         have hend : s1.fr.ret = true /\ s1.fr.defers = [] /\ s1.cs = [] := by
          unfold ZK at hfin
          rw [hret] at hfin
          simp only at hfin
          split at hfin
          . cases hfin
          . split at hfin <;> cases hfin
          . rename_i hd
            split at hfin
            . rename_i hcs
              exact ⟨hret, hd, hcs⟩
            . split at hfin
              . cases hfin
              . split at hfin
                . cases hfin
                . split at hfin <;> cases hfin
         obtain ⟨e1, e2, e3⟩ := hend
         obtain ⟨fr, cs', w', rfl, hF, hall, hH', hB, h0'⟩ := h1.ex
         rw [e3] at hall
         simp only [QU] at hall
         subst hall
         obtain ⟨hb, h'⟩ := hF
         rw [e1] at h'
         simp only at h'
         obtain ⟨hm, htm, hcur⟩ := h'
         have hdf := hb.defers
         rw [e2] at hdf
         simp only [Q1k] at hdf
         obtain ⟨u, hu, hr⟩ := J9 (P := P) hT hH' htm hv
         exact ⟨.returned u, w', fr, ⟨Y, v, u, s1.H, hle, he, hr, rfl, hH', hB⟩, st, hb.fn.trans hf, hm, hdf, hb.kind, fn, by rw [hb.fn]; exact (hT.funcs _ _ hfn).1, hu⟩
       . cases he
     . cases he
   . cases he
end
theorem Qoe {ng n0 room : Nat} {w : World} (h : ng <= w.heap.size) : Qn (Ext.base ng) n0 (.sk room) w := by
 refine ⟨λ b o p hb => by simp at hb, λ b b' o o' p p' hb => by simp at hb, λ b p hp => ?_, λ b o p hb => by simp at hb⟩
 simp only [Ext.base] at hp
 split at hp
 . rename_i hlt
   cases hp
   show b < _
   omega
 . cases hp
noncomputable def isC (n : Nat) : E -> Bool
 | .lit (.ofNat m) => Nat.beq m n
 | _ => false
theorem Q6j {n : Nat} {e : E} (h : isC n e = true) : e = .lit (n : Int) := by
 unfold isC at h
 split at h
 . simp only [Nat.beq_eq] at h; subst h; rfl
 . cases h
noncomputable def Q40 (z : AV) : Sum := λ c H next as =>
 match as with
 | [.str [a, b, d, e, f]] => bif isC 115 a && (isC 108 b && (isC 101 d && (isC 101 e && isC 112 f))) then .ok ⟨.tuple [z, .bool false], H, next, c⟩ else .fail
 | _ => .fail
def Qiy : ByteArray := ⟨#[115, 108, 101, 101, 112]⟩
theorem Q89 {P : Program} {G : Env} {n0 : Nat} {f : FuncId} {z : AV} {zv : Value} (hz : ∀ X : Ext, z.rel X zv)
 (h : ∀ w : World, G.T.ng <= w.heap.size -> Calls P f #[.string Qiy] w λ e w' => e = .returned (.tuple #[zv, .bool false]) /\ Below w.heap.size w w') : Zw P G n0 f (Q40 z) := by
 intro c X H next w args vs r hr hc hg hH h0 hfr hargs fr cs
 unfold Q40 at hr
 split at hr
 . rename_i a b d e f'
   cases hb : isC 115 a && (isC 108 b && (isC 101 d && (isC 101 e && isC 112 f'))) with
   | false => rw [hb] at hr; cases hr
   | true =>
    rw [hb] at hr
    cases hr
    simp only [Bool.and_eq_true] at hb
    obtain ⟨h1, h2, h3, h4, h5⟩ := hb
    have := Q6j h1; have := Q6j h2; have := Q6j h3; have := Q6j h4; have := Q6j h5
    subst_vars
    obtain ⟨u, vs', e1, g1, g2⟩ := Q8.1 hargs
    have := rels_nil.1 g2
    subst this
    simp only [AV.rel] at g1
    obtain ⟨-, rfl⟩ := g1
    have hvs : vs = #[.string Qiy] := by
     rw [<- Array.toList_inj, e1]
     rfl
    subst hvs
    have hsz : G.T.ng <= w.heap.size := by
     rcases Nat.eq_zero_or_pos G.T.ng with hz | hz
     . omega
     . obtain ⟨n, hn⟩ := hg (G.T.ng - 1) (by omega)
       have := hH.lt _ _ hn
       simp only at this
       omega
    obtain ⟨u, w', ⟨rfl, hB⟩, st⟩ := Z5 (q := λ v w' => v = .tuple #[zv, .bool false] /\ Below w.heap.size w w') ((h w hsz).mono λ e w' he => ⟨_, he.1, rfl, he.2⟩) fr cs
    exact ⟨X, _, w', st, Ext.le.refl X, by simp only [AV.rel]; exact ⟨_, rfl, Q8.2 ⟨_, _, rfl, hz X, Q8.2 ⟨_, _, rfl, by simp only [AV.rel], rels_nil.2 rfl⟩⟩⟩, hH.grow hB, hB.mono h0, λ b hb _ => ⟨hb, rfl⟩, Nat.le_refl _, hfr, hc⟩
 . cases hr
end Go.Ax
namespace Go.Ax
open Go.RowKit
noncomputable def Qeo : Sum := λ c H next as =>
 match as with
 | [.slice b o n _ es _, .str [.lit (.ofNat 32)]] => bif Nat.beq es 1 && Nat.ble n 1000 && Nat.blt 0 n then
  match H.get b with
  | some (.cells cs _ _ _ _) => bif Nat.ble (o + n) cs.length then
   match Qmw ((cs.drop o).take n) with
   | some p => bif p.all (Pc.good c) && jX c p then .ok ⟨.any, H, next, c⟩ else .fail
   | none => .fail
   else .fail
  | _ => .fail
  else .fail
 | _ => .fail
theorem Qlv {P : Program} {G : Env} {n0 : Nat} {f : FuncId} {J : List ByteArray -> ByteArray}
 (h : ∀ (bk o c : Nat) (xs : List ByteArray) (w : World), (∀ (j : Nat) x, xs[j]? = some x -> w.cell? ⟨bk, o + j, none⟩ = some (.string x)) -> bk < w.heap.size -> xs.length <= 1000 -> xs.length <= c -> ((xs.map (·.data.toList)).flatten).length <= 549755813888 ->
  Calls P f #[.slice (some ⟨bk, o, none⟩) xs.length c, .string ⟨#[32]⟩] w λ e w' => e = .returned (.string (J xs)) /\ Below w.heap.size w w') : Zw P G n0 f Qeo := by
 refine Q2h λ c X H next w args vs r hr hc hH hargs => ?_
 unfold Qeo at hr
 split at hr
 . rename_i b o n cap es ex
   cases hb : (Nat.beq es 1 && Nat.ble n 1000 && Nat.blt 0 n) with
   | false => rw [hb] at hr; cases hr
   | true =>
    rw [hb] at hr
    simp only [cond_true] at hr
    simp only [Bool.and_eq_true, Nat.ble_eq, Nat.blt_eq, Nat.beq_eq] at hb
    obtain ⟨⟨rfl, hb2⟩, hb3⟩ := hb
    obtain ⟨u, vs', e1, g1, g2⟩ := Q8.1 hargs
    obtain ⟨v, vs'', rfl, g3, g4⟩ := Q8.1 g2
    have := rels_nil.1 g4
    subst this
    simp only [AV.rel] at g1 g3
    obtain ⟨p, o', cc, m1, rfl, m2, m3, m4, m5, m6⟩ := g1
    obtain ⟨-, rfl⟩ := g3
    have ho := m5 (.inl (by omega))
    split at hr
    . rename_i cs el xx pl ro hget
      cases hle : Nat.ble (o + n) cs.length with
      | false => rw [hle] at hr; cases hr
      | true =>
       rw [hle] at hr
       simp only [cond_true] at hr
       rw [Nat.ble_eq] at hle
       split at hr
       . rename_i q hq
         cases hg : (q.all (Pc.good c) && jX c q) with
         | false => rw [hg] at hr; cases hr
         | true =>
          rw [hg] at hr
          simp only [cond_true] at hr
          rw [Bool.and_eq_true] at hg
          . cases hr
            obtain ⟨cc', fr, ⟨el', b1, bel⟩, b2, b3, b4, b5, b6, b7⟩ := hH.obj _ _ _ hget m1
            -- the cells
            obtain ⟨vl, hvl1, hvl2⟩ : ∃ vl : List Value, AV.QI X ((cs.drop o).take n) vl /\ ∀ j, j < n -> cc'[p.base + (o + j)]? = vl[j]? := by
             have key : ∀ (l : List AV) (k : Nat), (∀ j x, l[j]? = some x -> ∃ v, cc'[p.base + (k + j)]? = some v /\ x.rel X v) -> ∃ vl : List Value, AV.QI X l vl /\ ∀ j, j < l.length -> cc'[p.base + (k + j)]? = vl[j]? := by
              intro l
              induction l with
              | nil => exact λ k _ => ⟨[], rfl, λ j hj => by simp at hj⟩
              | cons x l ih =>
               intro k hk
               obtain ⟨v0, a1, a2⟩ := hk 0 x rfl
               obtain ⟨vl, a3, a4⟩ := ih (k + 1) λ j x hx => by
                obtain ⟨v, q1, q2⟩ := hk (j + 1) x (by simpa using hx)
                exact ⟨v, by rw [<- q1]; congr 1; omega, q2⟩
               refine ⟨v0 :: vl, ⟨v0, vl, rfl, a2, a3⟩, λ j hj => ?_⟩
               cases j with
               | zero => simpa using a1
               | succ j =>
                have := a4 j (by simpa using hj)
                rw [List.getElem?_cons_succ, <- this]
                congr 1
                omega
             obtain ⟨vl, a1, a2⟩ := key ((cs.drop o).take n) o λ j x hx => by
              have hj : j < n := by
               obtain ⟨h', -⟩ := List.getElem?_eq_some_iff.1 hx
               simp only [List.length_take] at h'
               omega
              rw [List.getElem?_take, if_pos hj, List.getElem?_drop] at hx
              obtain ⟨v, q1, q2⟩ := b5 (o + j) x hx
              exact ⟨v, q1, q2⟩
             exact ⟨vl, a1, λ j hj => a2 j (by simp only [List.length_take, List.length_drop]; omega)⟩
            obtain ⟨r1, xs, rfl, r2, r3⟩ := jr hq hvl1
            have hn : xs.length = n := by
             rw [r3]
             simp only [List.length_take, List.length_drop]
             omega
            have hsane := all_good hc hg.1
            have hshort := JA hc hg.2 r1 hsane
            rw [r2] at hshort
            have hvs : vs = #[.slice (some ⟨p.blk, o', none⟩) xs.length cc, .string ⟨#[32]⟩] := by rw [<- Array.toList_inj, hn]; exact e1
            subst hvs
            refine ⟨rfl, rfl, rfl, .string (J xs), by simp only [AV.rel]; rfl, ?_⟩
            refine h p.blk o' cc xs w (λ j x hx => ?_) (hH.lt _ _ m1) (by omega) (by omega) (by omega)
            have hj : j < n := by
             obtain ⟨h', -⟩ := List.getElem?_eq_some_iff.1 hx
             rw [<- hn]
             exact h'
            have e3 := hvl2 j hj
            rw [List.getElem?_map, hx, Option.map_some] at e3
            unfold World.cell?
            simp only [b1]
            rw [ho, Nat.add_assoc]
            exact e3
       . cases hr
    . cases hr
 . cases hr
def powN : List Nat := [1, 10, 100, 1000, 10000, 100000, 1000000, 10000000, 100000000, 1000000000, 10000000000, 100000000000, 1000000000000, 10000000000000, 100000000000000, 1000000000000000, 10000000000000000, 100000000000000000, 1000000000000000000, 10000000000000000000]
noncomputable def Qa6 (t : TypeId) : Q7 := .cells (powN.map λ n => .int .u64 (.lit (.ofNat n))) t false false true
noncomputable def Qci : List AV -> List Nat -> Bool
 | [], [] => true
 | .int .u64 (.lit (.ofNat m)) :: l, n :: r => Nat.beq m n && Qci l r
 | _, _ => false
theorem Qas : ∀ {l : List AV} {r : List Nat}, Qci l r = true -> l = r.map λ n => .int .u64 (.lit (.ofNat n))
 | [], [], _ => rfl
 | [], _ :: _, h => by simp [Qci] at h
 | a :: l, [], h => by unfold Qci at h; split at h <;> simp_all
 | a :: l, n :: r, h => by
  unfold Qci at h
  split at h
  . rename_i e; cases e
  . rename_i m l' n' r' e1 e2
    cases e1; cases e2
    simp only [Bool.and_eq_true, Nat.beq_eq] at h
    obtain ⟨rfl, h⟩ := h
    rw [Qas h]; rfl
  . cases h
noncomputable def Qmu (g t : Nat) (H : Tr Q7) : Bool :=
 match H.get g with
 | some (.cells cs el ex pl ro) => Nat.beq el t && (!ex && (!pl && (ro && Qci cs powN)))
 | _ => false
theorem Qk6 {g t : Nat} {H : Tr Q7} (h : Qmu g t H = true) : H.get g = some (Qa6 t) := by
 unfold Qmu at h
 split at h
 . rename_i cs el ex pl ro hg
   simp only [Bool.and_eq_true, Nat.beq_eq, Bool.not_eq_true'] at h
   obtain ⟨rfl, rfl, rfl, rfl, h⟩ := h
   rw [hg, Qas h]; rfl
 . cases h
noncomputable def Qgd (g t : Nat) : Tr Q7 := (Tr.sk 200).set g (Qa6 t)
theorem Qe0 {X : Ext} {n0 n1 g t : Nat} {H : Tr Q7} {w : World} (h : Qn X n0 H w) (hb : Qmu g t H = true) : Qn X n1 (Qgd g t) w := by
 have hget : ∀ b o, (Qgd g t).get b = some o -> b = g /\ o = Qa6 t := λ b o hb => by
  unfold Qgd at hb
  rw [Tr.Z6] at hb
  by_cases hbg : b = g
  . rw [if_pos hbg] at hb; cases hb; exact ⟨hbg, rfl⟩
  . rw [if_neg hbg] at hb; simp at hb
 have hH := Qk6 hb
 refine ⟨λ b o p ho hp => ?_, λ b b' o o' p p' ho ho' _ _ _ _ _ => ?_, h.lt, λ b o p ho hr _ => ?_⟩
 . obtain ⟨rfl, rfl⟩ := hget b o ho
   exact h.obj _ _ p hH hp
 . rw [(hget b o ho).1, (hget b' o' ho').1]
 . obtain ⟨rfl, rfl⟩ := hget b o ho
   cases hr
noncomputable def Qes (g t : Nat) : Sum := λ c H next as =>
 match as with
 | [.int .i64 (.lit _)] => .fail
 | [.int .i64 e] => match (E.iv c.fs e).lo, (E.iv c.fs e).hi with
  | some lo, some hi => bif ile 0 lo && ile hi 600 && Qmu g t H && Q4f H next (next + 1) 64 then
   QE (next + 1) λ m => .ok ⟨.sstr (.var next), H, m, ⟨⟨.leq, .len next, .lit 4, true⟩ :: ⟨.geq, .len next, .lit 0, true⟩ :: c.fs, next :: c.vs⟩⟩ else .fail
  | _, _ => .fail
 | _ => .fail
theorem Qlw {P : Program} {G : Env} {n0 : Nat} (hng : 0 < G.T.ng) {f : FuncId} {g t : Nat}
 (h : ∀ (n : Nat) (X : Ext) (w : World), n <= 600 -> Qn X w.heap.size (Qgd g t) w -> X.Qo G.T.ng -> Calls P f #[.int .i64 n] w λ e w' => (∃ s : ByteArray, e = .returned (.string s) /\ s.size <= 4) /\ Below w.heap.size w w') : Zw P G n0 f (Qes g t) := by
 intro c X H next w as vs r hr hc hg hH h0 hfr hargs fr cs
 unfold Qes at hr
 split at hr
 . cases hr
 . rename_i e _
   split at hr
   . rename_i lo hi hlo hhi
     cases hb : (ile 0 lo && ile hi 600 && Qmu g t H && Q4f H next (next + 1) 64) with
     | false => rw [hb] at hr; cases hr
     | true =>
      rw [hb] at hr
      simp only [cond_true, sNat_eq] at hr
      cases hr
      simp only [Bool.and_eq_true, QO] at hb
      have hfree := Jg hb.2
      have hiv := E.Qb hc.2 e
      have l1 := hiv.1 _ hlo
      have l2 := hiv.2 _ hhi
      obtain ⟨u, vs', e1, g1, g2⟩ := Q8.1 hargs
      have := rels_nil.1 g2
      subst this
      simp only [AV.rel] at g1
      obtain ⟨ke, rfl⟩ := g1
      obtain ⟨m, hm⟩ : ∃ m : Nat, e.den X.O = m := ⟨(e.den X.O).toNat, by omega⟩
      have hvs : vs = #[.int .i64 m] := by rw [<- Array.toList_inj, <- hm]; exact e1
      subst hvs
      have g0 := hng
      obtain ⟨u, w', ⟨⟨s, rfl, hs⟩, g3⟩, g1⟩ := Z5 (q := λ v w' => (∃ s : ByteArray, v = .string s /\ s.size <= 4) /\ Below w.heap.size w w') ((h m X w (by omega) (Qe0 hH hb.1.2) hg).mono λ e w' ⟨⟨s, he, hs⟩, hB⟩ => ⟨_, he, ⟨s, rfl, hs⟩, hB⟩) fr cs
      obtain ⟨n, hn⟩ := hg 0 hng
      have hdn : ¬ X.dom next := λ ⟨p, hp⟩ => by rw [hfr _ (Nat.le_refl _)] at hp; cases hp
      have hag : Val.agree X.dom X.O (X.letter next ⟨0, 0, n⟩ 0 s.data.toList).O := λ i hi => by
       have : i ≠ next := λ he => hdn (he ▸ hi)
       simp only [Ext.letter, if_neg this, and_self]
      have hd : (X.letter next ⟨0, 0, n⟩ 0 s.data.toList).dom next := ⟨⟨0, 0, n⟩, by simp [Ext.letter]⟩
      have hdm : ∀ i, X.dom i -> (X.letter next ⟨0, 0, n⟩ 0 s.data.toList).dom i := λ i ⟨p, hp⟩ => ⟨p, by
       have : i ≠ next := λ he => hdn (he ▸ ⟨p, hp⟩)
       simp only [Ext.letter, if_neg this]
       exact hp⟩
      have hlen : (E.len next).den (X.letter next ⟨0, 0, n⟩ 0 s.data.toList).O = (s.size : Nat) := by
       simp only [E.den, Ext.letter, if_true]
       have : s.data.toList.length = s.size := by simp
       rw [this]
      have hN : New X (X.letter next ⟨0, 0, n⟩ 0 s.data.toList) ⟨0, 0, n⟩ next (next + 1) [⟨.leq, .len next, .lit 4, true⟩, ⟨.geq, .len next, .lit 0, true⟩] [next] := by
       refine Ext.jE hfr λ f hf => ?_
       simp only [List.mem_cons, List.not_mem_nil, or_false] at hf
       rcases hf with rfl | rfl
       . refine ⟨?_, hd, trivial⟩
         simp only [Fact.ok, Y3]
         rw [hlen]
         refine decide_eq_true ?_
         show ((s.size : Nat) : Int) <= 4
         omega
       . refine ⟨?_, hd, trivial⟩
         simp only [Fact.ok, Y3]
         rw [hlen]
         refine decide_eq_true ?_
         show (0 : Int) <= ((s.size : Nat) : Int)
         omega
      have h0' : (0 : Nat) < w.heap.size := by
       have := hH.lt _ _ hn
       simpa using this
      refine ⟨_, _, w', g1, hN.le, ?_, ?_, g3.mono h0, λ b hb hlt => ⟨by rw [hN.old b hlt]; exact hb, rfl⟩, hN.nm, hN.free, ?_⟩
      . simp only [AV.rel]
        refine ⟨hd, ?_, ?_⟩
        . simp [ST.fit, ST.len, E.den, ST.den, Ext.letter]
        . simp [ST.den, Ext.letter]
      . have hold : ∀ b o p, H.get b = some o -> (X.letter next ⟨0, 0, n⟩ 0 s.data.toList).V b = some p -> X.V b = some p := by
         intro b o p ho hp
         by_cases h1 : b < next
         . rw [<- hN.old b h1]; exact hp
         . by_cases h2 : b < next + 1
           . rw [hfree b (by omega) h2] at ho; cases ho
           . rw [hN.free b (by omega)] at hp; cases hp
        refine ⟨λ b o p ho hp => ?_, λ b b' o o' p p' ho ho' hl hl' hp hp' he => hH.inj b b' o o' p p' ho ho' hl hl' (hold b o p ho hp) (hold b' o' p' ho' hp') he, λ b p hp => ?_, λ b o p ho hr hp => hH.own b o p ho hr (hold b o p ho hp)⟩
        . have hp' := hold b o p ho hp
          rw [g3.block _ (hH.lt _ _ hp')]
          exact Zh hN.le (hH.obj b o p ho hp')
        . refine Nat.lt_of_lt_of_le ?_ g3.size
          by_cases h1 : b < next
          . exact hH.lt b p (by rw [<- hN.old b h1]; exact hp)
          . by_cases h2 : b < next + 1
            . rw [hN.new b (by omega) h2] at hp
              cases hp
              exact h0'
            . rw [hN.free b (by omega)] at hp; cases hp
      . refine ⟨λ i hi => ?_, λ fa hf => ?_⟩
        . rcases List.mem_cons.1 hi with rfl | hi
          . exact hd
          . exact hN.le.dom _ (hc.1 i hi)
        . have hf' : fa ∈ [⟨.leq, .len next, .lit 4, true⟩, ⟨.geq, .len next, .lit 0, true⟩] ++ c.fs := hf
          rcases List.mem_append.1 hf' with hf | hf
          . exact hN.fs fa hf
          . exact Facts.yX hN.le.dom hN.le.O hc.2 fa hf
   . cases hr
 . cases hr
end Go.Ax
namespace Go.Ax
open Go.RowKit
noncomputable abbrev jl (i : Nat) : Sb := [(i, .bin .add .i64 (.var i) (.lit (.ofNat 1)))]
abbrev Q25 (a : E) (i : Nat) : E := .bin .add .i64 a (.var i)
theorem Qdc {a : E} {i : Nat} {O : Val} (ha : a.sub (jl i) = a) : ((Q25 a i).sub (jl i)).den O = IntKind.i64.wrap ((Q25 a i).den O + 1) := by
 have e : (Q25 a i).sub (jl i) = addS .i64 (a.sub (jl i)) (Sb.at (jl i) i) := rfl
 have e2 : Sb.at (jl i) i = .bin .add .i64 (.var i) (.lit (.ofNat 1)) := by simp [Sb.at]
 rw [e, ha, e2, Qb8]
 simp only [E.den, Zm]
 rw [Yk, JX, Int.add_assoc]
 rfl
section
variable {P : Program} {G : Env} {n0 : Nat} {w0 : World} {cs0 : List Frame}
theorem Qm8 (hT : G.T.OK P) (hI : YH.OK P G.I) (hS : Zg P G n0) (hng : 0 < G.T.ng) {L : Nat} {f : FuncId} {n k room i M N : Nat} {j keep : List Nat} {t : StG} {a : E}
 (hMN : N = M + 1) (hN : N < 1000000) (ha : a.sub (jl i) = a) (hok : (Q25 a i).okB t.vs = true) (hok2 : ((Q25 a i).sub (jl i)).okB t.vs = true) (hle : (⟨.leq, Q25 a i, .lit (.ofNat N), true⟩ : Fact) ∈ t.fs)
 (ha0 : ∀ O, 0 <= a.den O /\ a.den O <= 1000) (hoi : (E.var i).okB t.vs = true) (hi0 : (⟨.geq, .var i, .lit (.ofNat 0), true⟩ : Fact) ∈ t.fs) (hi1 : (⟨.leq, .var i, .lit (.ofNat N), true⟩ : Fact) ∈ t.fs)
 (hchk : rkL (jl i) t.vs (Qq G.T.ng keep) (zG []) [.int .i64 ((Q25 a i).sub (jl i))] [.int .i64 (Q25 a i)] = true)
 (hop : Qm3 L zx G n k ({ t with fs := ⟨.leq, .var i, .lit (.ofNat M), true⟩ :: ⟨.leq, Q25 a i, .lit (.ofNat M), true⟩ :: ⟨.eql, Q25 a i, .lit (.ofNat N), false⟩ :: t.fs }.am room) j (jl i) keep [] t)
 (last : ∀ X m, Sim P G n0 w0 cs0 X ({ t with fs := ⟨.eql, Q25 a i, .lit (.ofNat N), true⟩ :: t.fs }.am room) m -> Qt P n0 w0 cs0 f m) :
 ∀ X m, Sim P G n0 w0 cs0 X (t.am room) m -> Qt P n0 w0 cs0 f m := by
 have key : ∀ (q : Nat) (X : Ext) (m : Machine), (Q25 a i).den X.O = (N : Int) - q -> Sim P G n0 w0 cs0 X (t.am room) m -> Qt P n0 w0 cs0 f m := by
  intro q
  induction q with
  | zero =>
   intro X m hn h
   rcases Sim.Qe7 h .eql (Q25 a i) (.lit (.ofNat N)) hok rfl with h' | h'
   . exact last X m h'
   . exfalso
     have hf := (h'.ctx.2 _ (List.mem_cons_self ..)).1
     simp only [Fact.ok, Y3] at hf
     have hf2 := of_decide_eq_false hf
     exact hf2 (by rw [hn]; simp [E.den])
  | succ q ih =>
   intro X m hn h
   rcases Sim.Qe7 h .eql (Q25 a i) (.lit (.ofNat N)) hok rfl with h' | h'
   . exfalso
     have hf := (h'.ctx.2 _ (List.mem_cons_self ..)).1
     simp only [Fact.ok, Y3] at hf
     have hf2 := of_decide_eq_true hf
     rw [hn] at hf2
     simp only [E.den] at hf2
     have : (Int.ofNat N : Int) = N := rfl
     omega
   . rcases Sim.Qe7 h' .leq (Q25 a i) (.lit (.ofNat M)) hok rfl with h2 | h2
     . have b1 := (h.ctx.2 _ hi0).1
       have b2 := (h.ctx.2 _ hi1).1
       have b3 := (h2.ctx.2 _ (List.mem_cons_self ..)).1
       simp only [Fact.ok, Y3] at b1 b2 b3
       have b1 := of_decide_eq_true b1
       have b2 := of_decide_eq_true b2
       have b3 := of_decide_eq_true b3
       rcases Sim.Qe7 h2 .leq (.var i) (.lit (.ofNat M)) hoi rfl with h2 | h2
       rotate_left
       . exfalso
         have b4 := (h2.ctx.2 _ (List.mem_cons_self ..)).1
         simp only [Fact.ok, Y3] at b4
         have b4 := of_decide_eq_false b4
         have b5 := ha0 X.O
         simp only [E.den, Zm] at b1 b2 b3 b4
         rw [Q6] at b3
         have e1 : (Int.ofNat M : Int) = M := rfl
         have e2 : (Int.ofNat N : Int) = N := rfl
         have e3 : (Int.ofNat 0 : Int) = 0 := rfl
         omega
       refine Qm3.Ql0 hT hI hS hng (room := room) (bs := []) (bs' := []) (avs := [.int .i64 ((Q25 a i).sub (jl i))]) (avs' := [.int .i64 (Q25 a i)]) (vals := [.int .i64 ((N : Int) - q)]) (λ q hq => (by cases hq)) hchk hop (λ X' m' hX' hs => ?_) ⟨λ q hq => (by cases hq), ?_⟩ h2
       . refine ih X' m' ?_ hs
         obtain ⟨v, vs, e1, e2, -⟩ := hX'.r
         cases e1
         simp only [AV.rel] at e2
         exact (Value.int.inj e2.2.symm).2
       . refine ⟨_, [], rfl, ?_, rfl⟩
         simp only [AV.rel]
         refine ⟨E.ZF h.ctx.1 hok2, ?_⟩
         have e : ((Q25 a i).sub (jl i)).den X.O = (N : Int) - q := by
          have hlo : -9223372036854775808 <= (Q25 a i).den X.O := by
           simp only [E.den, Zm]
           rw [Q6]
           omega
          rw [hn] at hlo
          rw [Qdc ha, hn, Q6]
          omega
         rw [e]
     . exfalso
       have hf := (h2.ctx.2 _ (List.mem_cons_self ..)).1
       simp only [Fact.ok, Y3] at hf
       have hf2 := of_decide_eq_false hf
       refine hf2 ?_
       rw [hn]
       simp only [E.den]
       show (N : Int) - ((q + 1 : Nat) : Int) <= (M : Int)
       omega
 intro X m h
 have hf := (h.ctx.2 _ hle).1
 simp only [Fact.ok, Y3] at hf
 have hf2 := of_decide_eq_true hf
 have hf3 : (Q25 a i).den X.O <= (N : Int) := hf2
 exact key ((N : Int) - (Q25 a i).den X.O).toNat X m (by omega) h
noncomputable def upF (a : E) (fs : List Fact) : Nat -> List Fact
 | 0 => fs
 | c + 1 => ⟨.gtr, a, .lit (.ofNat c), true⟩ :: upF a fs c
noncomputable def clT (a : E) (t : StG) (c : Nat) : StG := { t with fs := upF a t.fs c }
noncomputable def clF (a : E) (t : StG) (c : Nat) : StG := { t with fs := ⟨.gtr, a, .lit (.ofNat c), false⟩ :: upF a t.fs c }
theorem Qla {f : FuncId} {room C : Nat} {t : StG} {a : E} (hok : a.okB t.vs = true)
 (h1 : ∀ c, c < C -> ∀ X m, Sim P G n0 w0 cs0 X ((clF a t c).am room) m -> Qt P n0 w0 cs0 f m)
 (h2 : ∀ X m, Sim P G n0 w0 cs0 X ((clT a t C).am room) m -> Qt P n0 w0 cs0 f m) : ∀ X m, Sim P G n0 w0 cs0 X (t.am room) m -> Qt P n0 w0 cs0 f m := by
 have key : ∀ q c, c + q = C -> ∀ X m, Sim P G n0 w0 cs0 X ((clT a t c).am room) m -> Qt P n0 w0 cs0 f m := by
  intro q
  induction q with
  | zero => intro c hc; obtain rfl : c = C := by omega
            exact h2
  | succ q ih =>
   intro c hc X m h
   rcases Sim.Qe7 h .gtr a (.lit (.ofNat c)) hok rfl with h' | h'
   . exact ih (c + 1) (by omega) X m h'
   . exact h1 c (by omega) X m h'
 exact key C 0 (by omega)
end
noncomputable def kpG (es : List Nat) (t : StG) : List Nat := es ++ t.vs ++ t.l.map Prod.fst
noncomputable def kpGx (es : List Nat) (i : Nat) (t : StG) : List Nat := es ++ t.vs.filter (λ v => !Nat.beq v i) ++ t.l.map Prod.fst
end Go.Ax
namespace Go.Ax
open Go.RowKit
noncomputable def Qiz (v : AV) : Bool := match v with
 | .str l => Nat.ble l.length 4
 | _ => false
noncomputable def oneB (G : Env) (f g t n k d m : Nat) : Bool :=
 match start G f [.int .i64 (.lit (.ofNat m))] (Qgd g t) G.T.ng ⟨[], []⟩ with
 | some s => Yd zx G n f (λ _ v => Qiz v) k d s
 | none => false
noncomputable def Qkh (G : Env) (f g t n k d lo : Nat) : Nat -> Bool
 | 0 => true
 | q + 1 => oneB G f g t n k d (lo + q) && Qkh G f g t n k d lo q
theorem Qee {G : Env} {f g t n k d lo : Nat} : ∀ {q : Nat}, Qkh G f g t n k d lo q = true -> ∀ m, lo <= m -> m < lo + q -> oneB G f g t n k d m = true
 | 0, _, m, h1, h2 => by omega
 | q + 1, h, m, h1, h2 => by
  simp only [Qkh, Bool.and_eq_true] at h
  by_cases e : m = lo + q
  . rw [e]; exact h.1
  . exact Qee h.2 m h1 (by omega)
theorem Qmy {P : Program} {G : Env} (hT : G.T.OK P) (hI : YH.OK P G.I) (hS : ∀ n0, Zg P G n0) {f g t n k d m : Nat} (hg : g < G.T.ng) (hb : oneB G f g t n k d m = true) {X : Ext} {w : World} (hH : Qn X w.heap.size (Qgd g t) w) (hX : X.Qo G.T.ng) :
 Calls P f #[.int .i64 m] w λ e w' => (∃ s : ByteArray, e = .returned (.string s) /\ s.size <= 4) /\ Below w.heap.size w w' := by
 unfold oneB at hb
 split at hb
 . rename_i s hs
   let Y : Ext := ⟨λ b => if b < G.T.ng then X.V b else none, X.O⟩
   have hget : ∀ b o, (Qgd g t).get b = some o -> b = g := λ b o hb => by
    unfold Qgd at hb
    rw [Tr.Z6] at hb
    by_cases hbg : b = g
    . exact hbg
    . rw [if_neg hbg] at hb; simp at hb
   have hμ : ∀ b p, Y.V b = some p -> X.V b = some p := λ b p hp => by
    simp only [Y] at hp
    split at hp
    . exact hp
    . cases hp
   have hle : Y.V g = X.V g := if_pos hg
   have hH' : Qn Y w.heap.size (Qgd g t) w := by
    refine ⟨λ b o p ho hp => ?_, λ b b' o o' p p' ho ho' _ _ _ _ _ => ?_, λ b p hp => hH.lt b p (hμ b p hp), λ b o p ho hr hp => hH.own b o p ho hr (hμ b p hp)⟩
    . have hbg := hget b o ho
      subst hbg
      have ho2 : o = Qa6 t := by
       unfold Qgd at ho
       rw [Tr.Z6, if_pos rfl] at ho
       exact (Option.some.inj ho).symm
      subst ho2
      have hO := hH.obj b _ p ho (hμ b p hp)
      obtain ⟨cc, fr, b1, b2, b3, b4, b5, b6, b7⟩ := hO
      refine ⟨cc, fr, b1, b2, b3, b4, λ i x hx => ?_, b6, b7⟩
      obtain ⟨v, q1, q2⟩ := b5 i x hx
      refine ⟨v, q1, ?_⟩
      simp only [List.getElem?_map, Option.map_eq_some_iff] at hx
      obtain ⟨z, -, rfl⟩ := hx
      simp only [AV.rel] at q2 ⊢
      exact ⟨trivial, q2.2⟩
    . rw [hget b o ho, hget b' o' ho']
   have hg' : Y.Qo G.T.ng := λ b hb => by
    obtain ⟨q, hq⟩ := hX b hb
    exact ⟨q, by show (if b < G.T.ng then X.V b else none) = _; rw [if_pos hb]; exact hq⟩
   refine (jM (X := Y) hT hI (hS w.heap.size) J6 hs hb (vs := #[.int .i64 m]) ?_ hH' (Nat.le_refl _) ⟨λ i hi => (by cases hi), λ f hf => (by cases hf)⟩ hg' (λ b hb => if_neg (by omega))).mono λ e w' ⟨Z, c, v, u, a1, a2, a3, a4, he, a5⟩ => ⟨?_, a5⟩
   . exact ⟨_, [], rfl, by simp only [AV.rel]; exact ⟨trivial, rfl⟩, rfl⟩
   . subst he
     unfold Qiz at a3
     split at a3
     . rename_i l
       simp only [AV.rel] at a4
       obtain ⟨-, rfl⟩ := a4
       refine ⟨_, rfl, ?_⟩
       rw [Nat.ble_eq] at a3
       simpa [S.bytes, ByteArray.size] using a3
     . cases a3
 . cases hb
end Go.Ax
