/-
  THE ABSTRACT EXECUTOR, 57: texts as terms; numbers written into texts and read out of them, and functions of texts, known as a whole. Conditions: none.
-/
import Derived.Test.YtcbodlnadocbiaaGreatDoorZAxF
import Derived.Laws.AppendOwn
import Derived.MapKept
namespace Go.Ax
open Go.RowKit

/-- The term first, then what is to be done with it. -/
noncomputable def sE {β : Type} (e : E) (k : E → β) : β :=
  match e with
  | .lit n => k (.lit n)
  | .var i => k (.var i)
  | .len i => k (.len i)
  | .byte i a => k (.byte i a)
  | .bin op j a b => k (.bin op j a b)
  | .cnv j a => k (.cnv j a)
  | .pk n a => k (.pk n a)
  | .cons a t => k (.cons a t)
  | .tv i lo hi t => k (.tv i lo hi t)
  | .fn n t => k (.fn n t)
@[simp] theorem sE_eq {β : Type} (e : E) (k : E → β) : sE e k = k e := by cases e <;> rfl

/-- A text as a term. -/
noncomputable def textE : List E → E
  | [] => .lit (.ofNat 1)
  | a :: l => sE (textE l) fun t => .cons a t
theorem textE_den {ρ : Val} : ∀ l : List E, (textE l).den ρ = encB (S.bytes ρ l) 1
  | [] => rfl
  | a :: l => by
    simp only [textE, sE_eq, E.den, textE_den l]
    rfl
theorem textE_ok {n : Nat → Prop} : ∀ {l : List E}, (∀ t ∈ l, t.ok n) → (textE l).ok n
  | [], _ => trivial
  | a :: l, h => by
    simp only [textE, sE_eq]
    exact ⟨h a (by simp), textE_ok fun t ht => h t (by simp [ht])⟩

/-- A function of memory that only adds to it. -/
theorem sum_quiet {P : Program} {G : Env} {n0 : Nat} {f : FuncId} {S : Ctx → Tr AObj → Nat → List AV → D SR}
    (h : ∀ (c : Ctx) (X : Ext) (H : Tr AObj) (next : Nat) (w : World) (args : List AV) (vs : Array Value) (r : SR), S c H next args = .ok r → c.okN X.dom X.ρ → AV.rels X args vs.toList →
      r.H = H ∧ r.next = next ∧ r.ctx = c ∧ ∃ u, r.v.rel X u ∧ Calls P f vs w (fun e w' => e = .returned u ∧ Below w.heap.size w w')) : SumOK P G n0 f S := by
  intro c X H next w args vs r hr hc hg hH h0 hfr hargs fr cs
  obtain ⟨e1, e2, e3, u, hu, hcall⟩ := h c X H next w args vs r hr hc hargs
  obtain ⟨u', w', ⟨rfl, hB⟩, hst⟩ := calls_back (q := fun v w' => v = u ∧ Below w.heap.size w w') (hcall.mono fun e w' he => ⟨u, he.1, rfl, he.2⟩) fr cs
  refine ⟨X, u', w', hst, Ext.le.refl X, hu, ?_, hB.mono h0, fun b hb _ => ⟨hb, by rw [e1]⟩, by rw [e2]; exact Nat.le_refl _, fun b hb => hfr b (by rw [e2] at hb; exact hb), by rw [e3]; exact hc⟩
  rw [e1]
  exact ⟨fun b o p ho hp => by rw [hB.block _ (hH.lt _ _ hp)]; exact hH.obj b o p ho hp, hH.inj, fun b p hp => Nat.lt_of_lt_of_le (hH.lt b p hp) hB.size, hH.own⟩

/-! a function of a text -/
noncomputable def fnSum (k : Nat) : Sum := fun c H next as =>
  match as with
  | [.str s] => bif Nat.ble s.length 1099511627776 then sE (textE s) fun t => .ok ⟨.int .i64 (.fn k t), H, next, c⟩ else .fail
  | _ => .fail
theorem fnSum_ok {P : Program} {G : Env} {n0 : Nat} {f : FuncId} {k : Nat}
    (h : ∀ (s : ByteArray) (w : World), s.size ≤ 1099511627776 → Calls P f #[.string s] w fun e w' => e = .returned (.int .i64 (fnZ k (encB s.data.toList 1))) ∧ Below w.heap.size w w') : SumOK P G n0 f (fnSum k) := by
  refine sum_quiet fun c X H next w args vs r hr hc hargs => ?_
  unfold fnSum at hr
  split at hr
  · rename_i s
    cases hb : Nat.ble s.length 1099511627776 with
    | false => rw [hb] at hr; cases hr
    | true =>
      rw [hb] at hr
      simp only [cond_true, sE_eq] at hr
      cases hr
      obtain ⟨u, vs', e1, h1, h2⟩ := rels_cons.1 hargs
      have := rels_nil.1 h2
      subst this
      simp only [AV.rel] at h1
      obtain ⟨k1, rfl⟩ := h1
      have hvs : vs = #[.string ⟨(S.bytes X.ρ s).toArray⟩] := by rw [← Array.toList_inj]; exact e1
      subst hvs
      refine ⟨rfl, rfl, rfl, .int .i64 ((E.fn k (textE s)).den X.ρ), ?_, ?_⟩
      · simp only [AV.rel]
        exact ⟨textE_ok fun t ht => (k1 t ht).1, trivial⟩
      · have := h ⟨(S.bytes X.ρ s).toArray⟩ w (by show (S.bytes X.ρ s).toArray.size ≤ _; simp only [List.size_toArray, S.bytes, List.length_map]; simpa using hb)
        simp only [E.den, textE_den]
        exact this
  · cases hr

/-! numbers in texts -/

/-- The byte of a number that holds its bits from 8 j on. -/
def byteS (n : E) (j : Nat) : E := .cnv .u8 (.bin .shr .i64 n (.lit (.ofNat (8 * j))))
noncomputable def byteL (n : Nat) (j : Nat) : E := sNat (Nat.mod (Nat.div n (Nat.pow 256 j)) 256) fun m => .lit (.ofNat m)
/-- The same for numbers. -/
def byteZ (z : Int) (j : Nat) : UInt8 := UInt8.ofNat (IntKind.u8.wrap (z.fdiv (2 ^ (8 * j)))).toNat
noncomputable def byteT (n : E) (j : Nat) : E :=
  match n with
  | .lit (.ofNat n) => byteL n j
  | n => sNat (8 * j) fun p => .cnv .u8 (.bin .shr .i64 n (.lit (.ofNat p)))
theorem wrapU8 (n : Int) : IntKind.u8.wrap n = n % 256 := by
  simp [IntKind.wrap, IntKind.bits, IntKind.signed]
theorem byteT_sound {n : E} {j : Nat} {ρ : Val} {d : Nat → Prop} (hn : n.ok d) (hj : j < 4) : (byteT n j).ok d ∧ (byteT n j).den ρ = IntKind.u8.wrap ((n.den ρ).fdiv (2 ^ (8 * j))) := by
  unfold byteT
  split
  · rename_i m
    refine ⟨trivial, ?_⟩
    simp only [byteL, sNat_eq, E.den]
    rw [wrapU8]
    have e : (2 : Int) ^ (8 * j) = ((256 ^ j : Nat) : Int) := by rw [Int.pow_mul]; simp
    rw [e, Int.ofNat_eq_natCast, Int.ofNat_eq_natCast, Int.fdiv_eq_ediv_of_nonneg _ (Int.natCast_nonneg _)]
    show ((m / 256 ^ j % 256 : Nat) : Int) = _
    rw [Int.natCast_emod, Int.natCast_ediv]
    rfl
  · simp only [sNat_eq]
    refine ⟨⟨hn, trivial⟩, ?_⟩
    simp only [E.den, binZ]
    have : min ((Int.ofNat (8 * j)).toNat) IntKind.i64.bits = 8 * j := by
      simp only [Int.ofNat_eq_natCast, Int.toNat_natCast, IntKind.bits]
      omega
    rw [this]

/-- The bytes of a number, k of them. -/
noncomputable def putBs (n : E) : Nat → List E
  | 0 => []
  | j + 1 => sE (byteT n j) fun b => b :: putBs n j
def bytesZ (z : Int) : Nat → List UInt8
  | 0 => []
  | j + 1 => byteZ z j :: bytesZ z j
theorem putBs_sound {n : E} {ρ : Val} {d : Nat → Prop} (hn : n.ok d) : ∀ {k : Nat}, k ≤ 4 → S.okN d ρ (putBs n k) ∧ S.bytes ρ (putBs n k) = bytesZ (n.den ρ) k
  | 0, _ => ⟨fun t ht => (by cases ht), rfl⟩
  | j + 1, h => by
    obtain ⟨h1, h2⟩ := putBs_sound (ρ := ρ) hn (k := j) (by omega)
    obtain ⟨h3, h4⟩ := byteT_sound (ρ := ρ) hn (j := j) (by omega)
    simp only [putBs, sE_eq]
    constructor
    · intro t ht
      rcases List.mem_cons.1 ht with rfl | ht
      · rw [h4, wrapU8]
        exact ⟨h3, by omega, by omega⟩
      · exact h1 t ht
    · show UInt8.ofNat ((byteT n j).den ρ).toNat :: S.bytes ρ (putBs n j) = _
      rw [h4, h2]; rfl

/-- Put: the number's bytes, or the error b. -/
noncomputable def putSum (b : Nat) : Sum := fun c H next as =>
  match as with
  | [.int .i64 n, .int .i64 (.lit (.ofNat k))] => bif Nat.ble 1 k && Nat.ble k 4 then
      sNat (Nat.pow 256 k) fun m =>
      match E.cmp c .lss n (.lit (.ofNat 0)) with
      | none => .ask .lss n (.lit (.ofNat 0))
      | some true => .ok ⟨.tuple [.str [], .int .i64 (.lit (.ofNat b))], H, next, c⟩
      | some false => match E.cmp c .lss n (.lit (.ofNat m)) with
        | none => .ask .lss n (.lit (.ofNat m))
        | some false => .ok ⟨.tuple [.str [], .int .i64 (.lit (.ofNat b))], H, next, c⟩
        | some true => .ok ⟨.tuple [.str (putBs n k), .int .i64 (.lit (.ofNat 0))], H, next, c⟩
    else .fail
  | _ => .fail
theorem putSum_ok {P : Program} {G : Env} {n0 : Nat} {f : FuncId} {b : Nat}
    (h1 : ∀ (z : Int) (k : Nat) (w : World), 1 ≤ k → k ≤ 4 → 0 ≤ z → z < 256 ^ k → Calls P f #[.int .i64 z, .int .i64 k] w fun e w' => e = .returned (.tuple #[.string ⟨(bytesZ z k).toArray⟩, .int .i64 0]) ∧ Below w.heap.size w w')
    (h2 : ∀ (z : Int) (k : Nat) (w : World), 1 ≤ k → k ≤ 4 → (z < 0 ∨ 256 ^ k ≤ z) → Calls P f #[.int .i64 z, .int .i64 k] w fun e w' => e = .returned (.tuple #[.string ⟨#[]⟩, .int .i64 b]) ∧ Below w.heap.size w w') : SumOK P G n0 f (putSum b) := by
  refine sum_quiet fun c X H next w args vs r hr hc hargs => ?_
  unfold putSum at hr
  split at hr
  · rename_i n k
    cases hb : (Nat.ble 1 k && Nat.ble k 4) with
    | false => rw [hb] at hr; cases hr
    | true =>
      rw [hb] at hr
      simp only [Bool.and_eq_true, Nat.ble_eq] at hb
      simp only [cond_true, sNat_eq] at hr
      obtain ⟨u, vs', e1, g1, g2⟩ := rels_cons.1 hargs
      obtain ⟨v, vs'', rfl, g3, g4⟩ := rels_cons.1 g2
      have := rels_nil.1 g4
      subst this
      simp only [AV.rel] at g1 g3
      obtain ⟨k1, rfl⟩ := g1
      obtain ⟨-, rfl⟩ := g3
      have hvs : vs = #[.int .i64 (n.den X.ρ), .int .i64 k] := by rw [← Array.toList_inj]; exact e1
      subst hvs
      have pw : ((Nat.pow 256 k : Nat) : Int) = 256 ^ k := by simp
      have bad : ∀ r, (n.den X.ρ < 0 ∨ 256 ^ k ≤ n.den X.ρ) → (.ok ⟨.tuple [.str [], .int .i64 (.lit (.ofNat b))], H, next, c⟩ : D SR) = .ok r → r.H = H ∧ r.next = next ∧ r.ctx = c ∧ ∃ u, r.v.rel X u ∧ Calls P f #[.int .i64 (n.den X.ρ), .int .i64 k] w (fun e w' => e = .returned u ∧ Below w.heap.size w w') := by
        intro r hz hr
        cases hr
        refine ⟨rfl, rfl, rfl, _, ?_, h2 _ k w hb.1 hb.2 hz⟩
        simp only [AV.rel]
        refine ⟨_, rfl, ?_⟩
        simp only [rels_cons_cons, rels_nil, AV.rel]
        exact ⟨⟨fun t ht => (by cases ht), rfl⟩, ⟨trivial, rfl⟩, trivial⟩
      split at hr
      · cases hr
      · rename_i hq
        have := E.cmp_sound rfl hq hc
        simp only [cmpZ, decide_eq_true_eq] at this
        exact bad r (.inl this) hr
      · rename_i hq
        have q0 := E.cmp_sound rfl hq hc
        simp only [cmpZ, decide_eq_false_iff_not] at q0
        have q0' : 0 ≤ n.den X.ρ := by
          have e0 : (E.lit (Int.ofNat 0)).den X.ρ = 0 := rfl
          rw [e0] at q0; omega
        split at hr
        · cases hr
        · rename_i hq2
          have q1 := E.cmp_sound rfl hq2 hc
          simp only [cmpZ, decide_eq_false_iff_not] at q1
          refine bad r (.inr ?_) hr
          have e0 : (E.lit (Int.ofNat (Nat.pow 256 k))).den X.ρ = ((Nat.pow 256 k : Nat) : Int) := rfl
          rw [e0, pw] at q1; omega
        · rename_i hq2
          have q1 := E.cmp_sound rfl hq2 hc
          simp only [cmpZ, decide_eq_true_eq] at q1
          have e0 : (E.lit (Int.ofNat (Nat.pow 256 k))).den X.ρ = ((Nat.pow 256 k : Nat) : Int) := rfl
          rw [e0, pw] at q1
          cases hr
          obtain ⟨s1, s2⟩ := putBs_sound (ρ := X.ρ) k1 hb.2
          refine ⟨rfl, rfl, rfl, _, ?_, h1 _ k w hb.1 hb.2 q0' q1⟩
          simp only [AV.rel]
          refine ⟨_, rfl, ?_⟩
          simp only [rels_cons_cons, rels_nil, AV.rel]
          exact ⟨⟨s1, by rw [s2]⟩, ⟨trivial, rfl⟩, trivial⟩
  · cases hr

/-! reading -/
def numB (l : List UInt8) : Nat := l.foldl (fun n b => n * 256 + b.toNat) 0
/-- All bytes are written out. -/
def litB : Nat → List E → Option Nat
  | n, [] => some n
  | n, .lit (.ofNat b) :: l => litB (n * 256 + b) l
  | _, _ => none
/-- Are these the bytes of n? -/
def allB (n : E) : Nat → List E → Bool
  | 0, [] => true
  | j + 1, e :: l => e.same (byteS n j) && allB n j l
  | _, _ => false
/-- The number that lies in bytes. -/
noncomputable def getE (c : Ctx) (l : List E) : Option E :=
  match l with
  | .cnv .u8 (.bin .shr .i64 n (.lit p)) :: m => bif allB n (m.length + 1) (.cnv .u8 (.bin .shr .i64 n (.lit p)) :: m) && (match (E.iv c.fs n).lo, (E.iv c.fs n).hi with
      | some lo, some hi => ile 0 lo && ilt hi (.ofNat (Nat.pow 256 (m.length + 1)))
      | _, _ => false) then some n else none
  | l => match litB 0 l with
    | some n => sNat n fun n => some (.lit (.ofNat n))
    | none => none

theorem litB_sound {ρ : Val} {d : Nat → Prop} : ∀ {l : List E} {n m : Nat}, litB n l = some m → S.okN d ρ l → (S.bytes ρ l).foldl (fun n b => n * 256 + b.toNat) n = m
  | [], n, m, h, _ => by simp only [litB, Option.some.injEq] at h; subst h; rfl
  | .lit (.ofNat b) :: l, n, m, h, hk => by
    simp only [litB] at h
    have ih := litB_sound h fun t ht => hk t (by simp [ht])
    have hb := (hk (.lit (.ofNat b)) (by simp)).2.2
    simp only [E.den, Int.ofNat_eq_natCast] at hb
    show (S.bytes ρ l).foldl _ (n * 256 + (UInt8.ofNat ((E.lit (.ofNat b)).den ρ).toNat).toNat) = m
    have e : (UInt8.ofNat ((E.lit (.ofNat b)).den ρ).toNat).toNat = b := by
      show (UInt8.ofNat (Int.ofNat b).toNat).toNat = b
      simp
      omega
    rw [e]
    exact ih
  | .lit (.negSucc _) :: _, _, _, h, _ => by simp [litB] at h
  | .var _ :: _, _, _, h, _ => by simp [litB] at h
  | .len _ :: _, _, _, h, _ => by simp [litB] at h
  | .byte _ _ :: _, _, _, h, _ => by simp [litB] at h
  | .bin _ _ _ _ :: _, _, _, h, _ => by simp [litB] at h
  | .cnv _ _ :: _, _, _, h, _ => by simp [litB] at h
  | .pk _ _ :: _, _, _, h, _ => by simp [litB] at h
  | .cons _ _ :: _, _, _, h, _ => by simp [litB] at h
  | .tv _ _ _ _ :: _, _, _, h, _ => by simp [litB] at h
  | .fn _ _ :: _, _, _, h, _ => by simp [litB] at h

theorem byteS_den {n : E} {j : Nat} {ρ : Val} (hj : j < 4) : (byteS n j).den ρ = IntKind.u8.wrap ((n.den ρ).fdiv (2 ^ (8 * j))) := by
  simp only [byteS, E.den, binZ]
  have : min ((Int.ofNat (8 * j)).toNat) IntKind.i64.bits = 8 * j := by
    simp only [Int.ofNat_eq_natCast, Int.toNat_natCast, IntKind.bits]
    omega
  rw [this]
theorem allB_sound {ρ : Val} {n : E} : ∀ {l : List E} {k : Nat}, allB n k l = true → k ≤ 4 → S.bytes ρ l = bytesZ (n.den ρ) k
  | [], 0, _, _ => rfl
  | [], _ + 1, h, _ => by simp [allB] at h
  | _ :: _, 0, h, _ => by simp [allB] at h
  | e :: l, j + 1, h, hk => by
    simp only [allB, Bool.and_eq_true] at h
    have := E.same_sound h.1
    show UInt8.ofNat (e.den ρ).toNat :: S.bytes ρ l = _
    rw [this, byteS_den (by omega), allB_sound h.2 (by omega)]
    rfl
theorem bytesZ_num {z : Nat} : ∀ {k a : Nat}, k ≤ 4 → (bytesZ z k).foldl (fun n b => n * 256 + b.toNat) a = a * 256 ^ k + z % 256 ^ k
  | 0, a, _ => by simp [bytesZ]; omega
  | j + 1, a, h => by
    have ih := fun a => bytesZ_num (z := z) (k := j) (a := a) (by omega)
    show (bytesZ z j).foldl _ (a * 256 + (byteZ z j).toNat) = _
    rw [ih]
    have e : (byteZ z j).toNat = z / 256 ^ j % 256 := by
      unfold byteZ
      rw [wrapU8]
      have e : (2 : Int) ^ (8 * j) = ((256 ^ j : Nat) : Int) := by rw [Int.pow_mul]; simp
      rw [e, Int.fdiv_eq_ediv_of_nonneg _ (Int.natCast_nonneg _)]
      have e2 : ((z : Int) / ((256 ^ j : Nat) : Int) % 256).toNat = z / 256 ^ j % 256 := by
        rw [← Int.natCast_ediv]; omega
      rw [e2]
      simp
    rw [e]
    have h1 := Nat.div_add_mod (z % 256 ^ (j + 1)) (256 ^ j)
    have h2 : z % 256 ^ (j + 1) / 256 ^ j = z / 256 ^ j % 256 := by
      rw [Nat.pow_succ, Nat.mod_mul_right_div_self]
    have h3 : z % 256 ^ (j + 1) % 256 ^ j = z % 256 ^ j := by
      rw [Nat.pow_succ, Nat.mod_mul_right_mod]
    rw [h2, h3] at h1
    rw [← h1, Nat.pow_succ, Nat.add_mul, Nat.mul_assoc, Nat.mul_comm 256 (256 ^ j), Nat.mul_comm (256 ^ j) (z / 256 ^ j % 256)]
    omega
theorem getE_sound {c : Ctx} {ρ : Val} {d : Nat → Prop} {l : List E} {e : E} (h : getE c l = some e) (hl : l.length ≤ 4) (hk : S.okN d ρ l) (hc : c.okN d ρ) : e.ok d ∧ e.den ρ = (numB (S.bytes ρ l) : Int) := by
  unfold getE at h
  split at h
  · rename_i n p m
    cases hb : (allB n (m.length + 1) (.cnv .u8 (.bin .shr .i64 n (.lit p)) :: m) && (match (E.iv c.fs n).lo, (E.iv c.fs n).hi with
      | some lo, some hi => ile 0 lo && ilt hi (.ofNat (Nat.pow 256 (m.length + 1)))
      | _, _ => false)) with
    | false => rw [hb] at h; cases h
    | true =>
      rw [hb] at h
      simp only [cond_true, Option.some.injEq] at h
      subst h
      simp only [Bool.and_eq_true] at hb
      have hv := E.iv_sound hc.2 n
      have hn : n.ok d := (hk (.cnv .u8 (.bin .shr .i64 n (.lit p))) (by simp)).1.1
      refine ⟨hn, ?_⟩
      have hs := allB_sound (ρ := ρ) hb.1 (by simpa using hl)
      obtain ⟨-, hb⟩ := hb
      split at hb
      · rename_i lo hi e1 e2
        simp only [Bool.and_eq_true, ile_iff, ilt_eq, decide_eq_true_eq] at hb
        have a1 := hv.1 _ e1
        have a2 := hv.2 _ e2
        obtain ⟨z, hz⟩ : ∃ z : Nat, n.den ρ = z := ⟨(n.den ρ).toNat, by omega⟩
        rw [hs, hz]
        have hlt : z < 256 ^ (m.length + 1) := by
          have q : (Int.ofNat (Nat.pow 256 (m.length + 1))) = ((256 ^ (m.length + 1) : Nat) : Int) := rfl
          rw [q] at hb; omega
        have := bytesZ_num (z := z) (k := m.length + 1) (a := 0) (by simpa using hl)
        unfold numB
        rw [this, Nat.mod_eq_of_lt hlt]
        omega
      · cases hb
  · split at h
    · rename_i n hn
      rw [sNat_eq] at h
      cases h
      refine ⟨trivial, ?_⟩
      have := litB_sound (ρ := ρ) hn hk
      simp only [E.den, numB, this, Int.ofNat_eq_natCast]
    · cases h

/-- Get: the number in bytes, or the error b. -/
noncomputable def getSum (b : Nat) : Sum := fun c H next as =>
  match as with
  | [.str s, .int .i64 (.lit (.ofNat i)), .int .i64 (.lit (.ofNat k))] => bif Nat.ble 1 k && Nat.ble k 4 && Nat.ble s.length 1099511627776 && Nat.ble i 1099511627776 then
      bif Nat.ble (i + k) s.length then
        match getE c ((s.drop i).take k) with
        | some e => .ok ⟨.tuple [.int .i64 e, .int .i64 (.lit (.ofNat 0))], H, next, c⟩
        | none => .fail
      else .ok ⟨.tuple [.int .i64 (.lit (.ofNat 0)), .int .i64 (.lit (.ofNat b))], H, next, c⟩
    else .fail
  | _ => .fail
theorem getSum_ok {P : Program} {G : Env} {n0 : Nat} {f : FuncId} {b : Nat}
    (h1 : ∀ (s : ByteArray) (i k : Nat) (w : World), 1 ≤ k → k ≤ 4 → s.size ≤ 1099511627776 → i + k ≤ s.size → Calls P f #[.string s, .int .i64 i, .int .i64 k] w fun e w' => e = .returned (.tuple #[.int .i64 (numB ((s.data.toList.drop i).take k)), .int .i64 0]) ∧ Below w.heap.size w w')
    (h2 : ∀ (s : ByteArray) (i k : Nat) (w : World), 1 ≤ k → k ≤ 4 → s.size ≤ 1099511627776 → i ≤ 1099511627776 → s.size < i + k → Calls P f #[.string s, .int .i64 i, .int .i64 k] w fun e w' => e = .returned (.tuple #[.int .i64 0, .int .i64 b]) ∧ Below w.heap.size w w') : SumOK P G n0 f (getSum b) := by
  refine sum_quiet fun c X H next w args vs r hr hc hargs => ?_
  unfold getSum at hr
  split at hr
  · rename_i s i k
    cases hb : (Nat.ble 1 k && Nat.ble k 4 && Nat.ble s.length 1099511627776 && Nat.ble i 1099511627776) with
    | false => rw [hb] at hr; cases hr
    | true =>
      rw [hb] at hr
      simp only [Bool.and_eq_true, Nat.ble_eq] at hb
      simp only [cond_true] at hr
      obtain ⟨u, vs', e1, g1, g2⟩ := rels_cons.1 hargs
      obtain ⟨v, vs'', rfl, g3, g4⟩ := rels_cons.1 g2
      obtain ⟨v2, vs3, rfl, g5, g6⟩ := rels_cons.1 g4
      have := rels_nil.1 g6
      subst this
      simp only [AV.rel] at g1 g3 g5
      obtain ⟨k1, rfl⟩ := g1
      obtain ⟨-, rfl⟩ := g3
      obtain ⟨-, rfl⟩ := g5
      have hvs : vs = #[.string ⟨(S.bytes X.ρ s).toArray⟩, .int .i64 i, .int .i64 k] := by rw [← Array.toList_inj]; exact e1
      subst hvs
      have hsz : (⟨(S.bytes X.ρ s).toArray⟩ : ByteArray).size = s.length := by
        show (S.bytes X.ρ s).toArray.size = _
        simp [S.bytes]
      cases hle : Nat.ble (i + k) s.length with
      | true =>
        rw [hle] at hr
        simp only [cond_true] at hr
        have hle' : i + k ≤ s.length := by simpa using hle
        split at hr
        · rename_i e he
          cases hr
          have hkk : S.okN X.dom X.ρ ((s.drop i).take k) := fun t ht => k1 t (List.mem_of_mem_drop (List.mem_of_mem_take ht))
          obtain ⟨a1, a2⟩ := getE_sound he (by simp only [List.length_take]; omega) hkk hc
          refine ⟨rfl, rfl, rfl, _, ?_, h1 _ i k w hb.1.1.1 hb.1.1.2 (by rw [hsz]; exact hb.1.2) (by rw [hsz]; exact hle')⟩
          simp only [AV.rel]
          refine ⟨_, rfl, ?_⟩
          simp only [rels_cons_cons, rels_nil, AV.rel]
          refine ⟨⟨a1, ?_⟩, ⟨trivial, rfl⟩, trivial⟩
          rw [a2]
          have : S.bytes X.ρ ((s.drop i).take k) = ((S.bytes X.ρ s).drop i).take k := by simp [S.bytes, List.map_take, List.map_drop]
          rw [this]
        · cases hr
      | false =>
        rw [hle] at hr
        simp only [cond_false] at hr
        cases hr
        have hle' : ¬ i + k ≤ s.length := fun hh => by rw [Nat.ble_eq_true_of_le hh] at hle; cases hle
        refine ⟨rfl, rfl, rfl, _, ?_, h2 _ i k w hb.1.1.1 hb.1.1.2 (by rw [hsz]; exact hb.1.2) hb.2 (by rw [hsz]; omega)⟩
        simp only [AV.rel]
        refine ⟨_, rfl, ?_⟩
        simp only [rels_cons_cons, rels_nil, AV.rel]
        exact ⟨⟨trivial, rfl⟩, ⟨trivial, rfl⟩, trivial⟩
  · cases hr

end Go.Ax

/-! THE ABSTRACT EXECUTOR, 59: the keys of a map, sorted: what slices.Sorted(maps.Keys(m)) comes to, in whatever order the keys come. Conditions: none. -/
namespace Go.Ax
open Go.RowKit

/-- A number is put into a rising list; asks where it belongs. -/
noncomputable def insE (c : Ctx) (k : E) : List E → D (List E)
  | [] => .ok [k]
  | a :: l => match E.cmp c .lss k a with
    | none => .ask .lss k a
    | some true => .ok (k :: a :: l)
    | some false => match E.cmp c .gtr k a with
      | some true => (insE c k l).bind fun r => .ok (a :: r)
      | _ => .fail
noncomputable def sortE (c : Ctx) : List E → D (List E)
  | [] => .ok []
  | k :: l => (sortE c l).bind fun r => insE c k r

abbrev dens (ρ : Val) (l : List E) : List Int := l.map (·.den ρ)
theorem insE_sound {c : Ctx} {d : Nat → Prop} {ρ : Val} (hc : c.okN d ρ) {k : E} : ∀ {l r : List E}, insE c k l = .ok r → (dens ρ l).Pairwise (· < ·) → (dens ρ r).Pairwise (· < ·) ∧ (dens ρ r).Perm (k.den ρ :: dens ρ l) ∧ ∀ e ∈ r, e = k ∨ e ∈ l
  | [], r, h, _ => by
    simp only [insE] at h
    cases h
    exact ⟨by simp, .refl _, fun e he => .inl (by simpa using he)⟩
  | a :: l, r, h, hp => by
    simp only [insE] at h
    have hp' := List.pairwise_cons.1 (show (a.den ρ :: dens ρ l).Pairwise (· < ·) from hp)
    split at h
    · cases h
    · rename_i hq
      have q := E.cmp_sound rfl hq hc
      simp only [cmpZ, decide_eq_true_eq] at q
      cases h
      refine ⟨List.pairwise_cons.2 ⟨fun x hx => ?_, hp⟩, .refl _, fun e he => by simpa using he⟩
      rcases List.mem_cons.1 (show x ∈ a.den ρ :: dens ρ l from hx) with hx | hx
      · show k.den ρ < x
        rw [hx]
        exact q
      · have := hp'.1 x hx
        show k.den ρ < x
        omega
    · split at h
      · rename_i hq
        have q := E.cmp_sound rfl hq hc
        have q' : a.den ρ < k.den ρ := by simpa [cmpZ] using q
        obtain ⟨r', h1, h2⟩ := D.bind_ok h
        cases h2
        obtain ⟨i1, i2, i3⟩ := insE_sound hc h1 hp'.2
        refine ⟨List.pairwise_cons.2 ⟨fun x hx => ?_, i1⟩, ?_, fun e he => ?_⟩
        · rcases List.mem_cons.1 (i2.mem_iff.1 hx) with rfl | hx
          · exact q'
          · exact hp'.1 x hx
        · exact (List.Perm.cons _ i2).trans (.swap _ _ _)
        · rcases List.mem_cons.1 he with rfl | he
          · exact .inr (by simp)
          · rcases i3 e he with h | h
            · exact .inl h
            · exact .inr (by simp [h])
      · cases h
theorem sortE_sound {c : Ctx} {d : Nat → Prop} {ρ : Val} (hc : c.okN d ρ) : ∀ {l r : List E}, sortE c l = .ok r → (dens ρ r).Pairwise (· < ·) ∧ (dens ρ r).Perm (dens ρ l) ∧ ∀ e ∈ r, e ∈ l
  | [], r, h => by
    simp only [sortE] at h
    cases h
    exact ⟨by simp, .refl _, fun e he => he⟩
  | k :: l, r, h => by
    simp only [sortE] at h
    obtain ⟨r', h1, h2⟩ := D.bind_ok h
    obtain ⟨i1, i2, i3⟩ := sortE_sound hc h1
    obtain ⟨j1, j2, j3⟩ := insE_sound hc h2 i1
    refine ⟨j1, j2.trans (List.Perm.cons _ i2), fun e he => ?_⟩
    rcases j3 e he with rfl | he
    · simp
    · simp [i3 e he]

noncomputable def wideB (c : Ctx) (e : E) : Bool :=
  match (E.iv c.fs e).lo, (E.iv c.fs e).hi with
  | some lo, some hi => ile (.negSucc 9223372036854775807) lo && ile hi (.ofNat 9223372036854775807)
  | _, _ => false
theorem wideB_sound {c : Ctx} {d : Nat → Prop} {ρ : Val} (hc : c.okN d ρ) {e : E} (h : wideB c e = true) : -9223372036854775808 ≤ e.den ρ ∧ e.den ρ ≤ 9223372036854775807 := by
  unfold wideB at h
  have hv := E.iv_sound hc.2 e
  split at h
  · rename_i lo hi e1 e2
    simp only [Bool.and_eq_true, ile_iff] at h
    have a1 := hv.1 _ e1
    have a2 := hv.2 _ e2
    have b1 : (Int.negSucc 9223372036854775807) = -9223372036854775808 := rfl
    have b2 : (Int.ofNat 9223372036854775807) = 9223372036854775807 := rfl
    rw [b1, b2] at h
    omega
  · cases h
/-- The keys, if they are numbers. -/
noncomputable def keysE (c : Ctx) : List (AV × AV × Nat) → Option (List E)
  | [] => some []
  | x :: l => match x.1 with
    | .int .i64 e => bif wideB c e then (match keysE c l with
      | some r => some (e :: r)
      | none => none) else none
    | _ => none
/-- The entries came one behind the other. -/
def stampB (clock : Nat) : Nat → List (AV × AV × Nat) → Bool
  | _, [] => true
  | lo, x :: l => Nat.ble lo x.2.2 && (Nat.blt x.2.2 clock && stampB clock (x.2.2 + 1) l)
theorem keysE_sound {c : Ctx} {X : Ext} (hc : c.okN X.dom X.ρ) : ∀ {l : List (AV × AV × Nat)} {es : List MapEntry} {ks : List E}, keysE c l = some ks → entriesRel X l es → es.map (·.key) = (dens X.ρ ks).map (Value.int .i64) ∧ (∀ e ∈ ks, e.ok X.dom) ∧ ∀ z ∈ dens X.ρ ks, -9223372036854775808 ≤ z ∧ z ≤ 9223372036854775807
  | [], es, ks, h, hr => by
    simp only [keysE, Option.some.injEq] at h
    subst h
    have : es = [] := hr
    subst this
    exact ⟨rfl, fun e he => (by cases he), fun z hz => (by cases hz)⟩
  | x :: l, es, ks, h, hr => by
    obtain ⟨e, es', rfl, r1, -, -, r4⟩ := hr
    simp only [keysE] at h
    split at h
    · rename_i k hk
      cases hw : wideB c k with
      | false => rw [hw] at h; cases h
      | true =>
        rw [hw] at h
        simp only [cond_true] at h
        split at h
        · rename_i r hr'
          cases h
          obtain ⟨i1, i2, i3⟩ := keysE_sound hc hr' r4
          rw [hk] at r1
          simp only [AV.rel] at r1
          refine ⟨by simp only [List.map_cons, r1.2, i1, dens], fun y hy => ?_, fun z hz => ?_⟩
          · rcases List.mem_cons.1 hy with rfl | hy
            · exact r1.1
            · exact i2 y hy
          · rcases List.mem_cons.1 (show z ∈ k.den X.ρ :: dens X.ρ r from hz) with rfl | hz
            · exact wideB_sound hc hw
            · exact i3 z hz
        · cases h
    · cases h
theorem stampB_sound {X : Ext} {clock : Nat} : ∀ {l : List (AV × AV × Nat)} {es : List MapEntry} {lo : Nat}, stampB clock lo l = true → entriesRel X l es → (∀ x ∈ es, lo ≤ x.born ∧ x.born < clock) ∧ (es.map (·.born)).Nodup
  | [], es, lo, _, hr => by
    have : es = [] := hr
    subst this
    exact ⟨fun x hx => (by cases hx), by simp⟩
  | x :: l, es, lo, h, hr => by
    obtain ⟨e, es', rfl, -, -, r3, r4⟩ := hr
    simp only [stampB, Bool.and_eq_true, Nat.ble_eq, Nat.blt_eq] at h
    obtain ⟨i1, i2⟩ := stampB_sound h.2.2 r4
    refine ⟨fun y hy => ?_, ?_⟩
    · rcases List.mem_cons.1 hy with rfl | hy
      · rw [r3]; exact ⟨h.1, h.2.1⟩
      · have := i1 y hy; omega
    · rw [List.map_cons, List.nodup_cons]
      refine ⟨fun hm => ?_, i2⟩
      obtain ⟨y, hy, hb⟩ := List.mem_map.1 hm
      have := (i1 y hy).1
      omega

noncomputable def sortedSum (T : TypeId) (gs : List Nat) : Sum := fun c H next as =>
  match as with
  | [.func g [] [.ptr cb 0]] => bif gs.any (Nat.beq g) then
      match H.get cb with
      | some (.cells [.map r] _ true _ _) => match H.get r with
        | some (.map es clock) => bif Nat.ble es.length 1000000 && stampB clock 0 es then
            match keysE c es with
            | some ks => (sortE c ks).bind fun l => match l with
              | [] => .ok ⟨.nilslice, H, next, c⟩
              | e :: l => sNat (next + 1) fun nx => sNat (e :: l).length fun n => .ok ⟨.slice next 0 n n 1 false, H.set next (.cells ((e :: l).map (.int .i64)) T false true false), nx, c⟩
            | none => .fail
          else .fail
        | _ => .fail
      | some (.cells [.nilmap] _ true _ _) => .ok ⟨.nilslice, H, next, c⟩
      | _ => .fail
    else .fail
  | _ => .fail

theorem sorted_unique {ss l : List Int} (hp : ss.Perm l) (hl : l.Pairwise (· < ·)) : ss.mergeSort (fun x y => decide (x ≤ y)) = l := by
  have tr : ∀ a b c : Int, decide (a ≤ b) = true → decide (b ≤ c) = true → decide (a ≤ c) = true := fun a b c h1 h2 => by simp only [decide_eq_true_eq] at *; omega
  have to : ∀ a b : Int, (decide (a ≤ b) || decide (b ≤ a)) = true := fun a b => by simp only [Bool.or_eq_true, decide_eq_true_eq]; omega
  refine List.Perm.eq_of_pairwise (le := fun a b => decide (a ≤ b) = true) (fun a b _ _ h1 h2 => by simp only [decide_eq_true_eq] at h1 h2; omega) (List.pairwise_mergeSort tr to ss) (hl.imp fun {a b} h => by simp only [decide_eq_true_eq]; omega) ((List.mergeSort_perm ss _).trans hp)

theorem sortedSum_ok {P : Program} {G : Env} {n0 : Nat} {f : FuncId} {T : TypeId} {gs : List Nat}
    (h1 : ∀ (g b Bm clock : Nat) (es : Array MapEntry) (ks : List Int) (w : World), g ∈ gs → Bm < w.heap.size → w.cell? ⟨Bm, 0, none⟩ = some (.map (some b)) → w.heap[b]? = some (.map es clock) → es.size ≤ 1000000 → MapKept.Stamped es clock → es.toList.map (·.key) = ks.map (Value.int .i64) → (∀ z ∈ ks, -9223372036854775808 ≤ z ∧ z ≤ 9223372036854775807) →
      Calls P f #[.func (.func g) #[] #[.pointer (some ⟨Bm, 0, none⟩)]] w fun e w' => ∃ (v : Value) (ss : List Int), e = .returned v ∧ ss.Perm ks ∧ w'.ownsRow w.heap.size T 1 v ss.length ((ss.mergeSort (fun x y => decide (x ≤ y))).map (Value.int .i64)) ∧ (v = .slice none 0 0 ↔ ss = []) ∧ Below w.heap.size w w')
    (h2 : ∀ (g Bm : Nat) (w : World), g ∈ gs → Bm < w.heap.size → w.cell? ⟨Bm, 0, none⟩ = some (.map none) →
      Calls P f #[.func (.func g) #[] #[.pointer (some ⟨Bm, 0, none⟩)]] w fun e w' => e = .returned (.slice none 0 0) ∧ Below w.heap.size w w') : SumOK P G n0 f (sortedSum T gs) := by
  intro c X H next w args vs r hr hc hg hH h0 hfr hargs fr cs
  unfold sortedSum at hr
  split at hr
  case h_2 => cases hr
  rename_i g cb
  cases hgs : gs.any (Nat.beq g) with
  | false => rw [hgs] at hr; cases hr
  | true =>
    rw [hgs] at hr
    simp only [cond_true] at hr
    have hmem : g ∈ gs := any_beq hgs
    obtain ⟨u, vs', e1, g1, g2⟩ := rels_cons.1 hargs
    have := rels_nil.1 g2
    subst this
    simp only [AV.rel] at g1
    obtain ⟨as', cs', rfl, g3, g4⟩ := g1
    have ha : as' = #[] := by rw [← Array.toList_inj]; exact rels_nil.1 g3
    subst ha
    obtain ⟨u, us, e2, g5, g6⟩ := rels_cons.1 g4
    have := rels_nil.1 g6
    subst this
    simp only [AV.rel] at g5
    obtain ⟨p, hp, rfl⟩ := g5
    have hcs : cs' = #[.pointer (some ⟨p.blk, p.base + 0, none⟩)] := by rw [← Array.toList_inj]; exact e2
    subst hcs
    have hvs : vs = #[.func (.func g) #[] #[.pointer (some ⟨p.blk, p.base + 0, none⟩)]] := by rw [← Array.toList_inj]; exact e1
    subst hvs
    have hblk := hH.lt _ _ hp
    split at hr
    · rename_i q el pl ro ho
      have hbase : p.base = 0 := by
        obtain ⟨_, _, _, _, _, hx, _⟩ := hH.obj _ _ _ ho hp
        exact (hx rfl).1
      obtain ⟨mv, hmv, hrel⟩ := hH.cell ho hp (i := 0) (a := .map q) rfl
      rw [hbase] at hmv ⊢
      simp only [AV.rel] at hrel
      obtain ⟨pm, hpm, rfl⟩ := hrel
      split at hr
      · rename_i es clock hmap
        obtain ⟨es', hes, hent⟩ := hH.obj _ _ _ hmap hpm
        cases hb : (Nat.ble es.length 1000000 && stampB clock 0 es) with
        | false => rw [hb] at hr; cases hr
        | true =>
          rw [hb] at hr
          simp only [Bool.and_eq_true, Nat.ble_eq] at hb
          simp only [cond_true] at hr
          split at hr
          · rename_i ks hks
            obtain ⟨l, hl, hr⟩ := D.bind_ok hr
            obtain ⟨s1, s2, s3⟩ := sortE_sound hc hl
            obtain ⟨k1, k2, k3⟩ := keysE_sound hc hks hent
            obtain ⟨t1, t2⟩ := stampB_sound hb.2 hent
            have hlen : es'.size ≤ 1000000 := by
              have : es'.toList.length = es.length := by
                have : ∀ {xs : List (AV × AV × Nat)} {ys : List MapEntry}, entriesRel X xs ys → ys.length = xs.length := by
                  intro xs
                  induction xs with
                  | nil => intro ys h; have : ys = [] := h; subst this; rfl
                  | cons x xs ih => intro ys h; obtain ⟨y, ys', rfl, _, _, _, h4⟩ := h; simp [ih h4]
                exact this hent
              have h3 : es'.size = es'.toList.length := by simp
              omega
            have hnd : (es'.toList.map (·.key)).Nodup := by
              rw [k1]
              have hn1 : (dens X.ρ l).Nodup := s1.imp fun {a b} h => by omega
              have hn2 : (dens X.ρ ks).Nodup := s2.nodup_iff.1 hn1
              exact List.Pairwise.map (Value.int .i64) (fun a b e h => e (by simpa using h)) hn2
            obtain ⟨u, w', ⟨v, ss, rfl, q1, q2, q3, q4⟩, st⟩ := calls_back ((h1 g pm.blk p.blk clock es' _ w hmem hblk (by simpa using hmv) hes hlen ⟨fun x hx => (t1 x hx).2, t2, hnd⟩ k1 k3).mono (fun e w' ⟨v, ss, a1, a2, a3, a4, a5⟩ => (⟨v, a1, v, ss, rfl, a2, a3, a4, a5⟩ : ∃ u, e = .returned u ∧ ∃ v ss, u = v ∧ ss.Perm (dens X.ρ ks) ∧ w'.ownsRow w.heap.size T 1 v ss.length ((ss.mergeSort (fun x y => decide (x ≤ y))).map (Value.int .i64)) ∧ (v = .slice none 0 0 ↔ ss = []) ∧ Below w.heap.size w w'))) fr cs
            have hsort : ss.mergeSort (fun x y => decide (x ≤ y)) = dens X.ρ l := sorted_unique (q1.trans s2.symm) s1
            have hsl : ss.length = l.length := by
              have := (q1.trans s2.symm).length_eq
              simpa using this
            rw [hsort] at q2
            split at hr
            · cases hr
              have hss : ss = [] := List.eq_nil_of_length_eq_zero (by simpa using hsl)
              have := q3.2 hss
              subst this
              exact ⟨X, _, w', st, Ext.le.refl X, by simp only [AV.rel], hH.grow q4, q4.mono h0, fun b hb _ => ⟨hb, rfl⟩, Nat.le_refl _, hfr, hc⟩
            · rename_i e l
              simp only [sNat_eq] at hr
              cases hr
              obtain ⟨-, ⟨rfl, hz⟩ | ⟨gb, cap, cur, rfl, b1, b2, b3, b4, b5, b6⟩⟩ := q2
              · rw [hz] at hsl; simp at hsl
              · have hgb : gb < w'.heap.size := (Array.getElem?_eq_some_iff.1 b2).1
                have un := hfr next (Nat.le_refl _)
                have hle : X.le (X.add next ⟨gb, 0, cur.size⟩) := Ext.le_add un
                have hn : ss.length ≤ cur.size := by omega
                refine ⟨X.add next ⟨gb, 0, cur.size⟩, _, w', st, hle, ?_, (hH.grow q4).place un hgb (by show n0 ≤ gb; omega) (fun i q hq he => ?_) ?_, q4.mono h0, fun b hb hlt => ⟨?_, ?_⟩, by simp only; omega, fun b hb => ?_, Ctx.ok_le hc hle⟩
                · simp only [AV.rel]
                  refine ⟨_, 0, cap, Ext.add_same _ _ _, ?_, Nat.le_refl _, ?_, ?_, fun _ => rfl, fun h => (by cases h)⟩
                  · rw [hsl]
                  · rw [← hsl]; exact b3
                  · simp only; omega
                · have := hH.lt i q hq
                  simp only at he
                  omega
                · refine ⟨cur, (0, 0), ⟨T, b2, .inr rfl⟩, rfl, ?_, fun h => (by cases h), fun i a hi => ?_, .inr (.inr rfl), fun _ => rfl⟩
                  · simp only [List.length_map, Nat.zero_add]; rw [← hsl]; exact hn
                  · rw [List.getElem?_map] at hi
                    cases hx : (e :: l)[i]? with
                    | none => rw [hx] at hi; cases hi
                    | some x =>
                      rw [hx] at hi
                      simp only [Option.map_some, Option.some.injEq] at hi
                      subst hi
                      refine ⟨.int .i64 (x.den X.ρ), ?_, ?_⟩
                      · have hb6 := congrArg (·[i]?) b6
                        simp only [Nat.mul_one, List.getElem?_map, hx, Option.map_some, dens] at hb6
                        have hlt : i < ss.length := by rw [hsl]; exact (List.getElem?_eq_some_iff.1 hx).1
                        rw [List.getElem?_take, if_pos hlt, Array.getElem?_toList] at hb6
                        simpa using hb6
                      · simp only [AV.rel]
                        have hxk : x ∈ ks := s3 x (List.mem_of_getElem? hx)
                        have hok := k2 x hxk
                        exact ⟨E.ok_mono hle.dom hok, by rw [E.den_agree hle.ρ hok]⟩
                · rw [Ext.add_ne (by omega)]; exact hb
                · exact Tr.get_set_ne _ _ (by omega)
                · have hb' : next + 1 ≤ b := hb
                  rw [Ext.add_ne (by omega)]; exact hfr b (by omega)
          · cases hr
      · cases hr
    · rename_i el pl ro ho
      cases hr
      have hbase : p.base = 0 := by
        obtain ⟨_, _, _, _, _, hx, _⟩ := hH.obj _ _ _ ho hp
        exact (hx rfl).1
      obtain ⟨mv, hmv, hrel⟩ := hH.cell ho hp (i := 0) (a := .nilmap) rfl
      rw [hbase] at hmv ⊢
      simp only [AV.rel] at hrel
      subst hrel
      obtain ⟨u, w', ⟨rfl, q4⟩, st⟩ := calls_back ((h2 g p.blk w hmem hblk (by simpa using hmv)).mono (fun e w' ⟨a1, a2⟩ => (⟨_, a1, rfl, a2⟩ : ∃ u, e = .returned u ∧ u = Value.slice none 0 0 ∧ Below w.heap.size w w'))) fr cs
      exact ⟨X, _, w', st, Ext.le.refl X, by simp only [AV.rel], hH.grow q4, q4.mono h0, fun b hb _ => ⟨hb, rfl⟩, Nat.le_refl _, hfr, hc⟩
    · cases hr
end Go.Ax
