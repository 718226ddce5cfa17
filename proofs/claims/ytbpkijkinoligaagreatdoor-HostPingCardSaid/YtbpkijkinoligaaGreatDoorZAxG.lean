/-
  THE ABSTRACT EXECUTOR, 57: texts as terms; numbers written into texts and read out of them, and functions of texts, known as a whole. Conditions: none.
-/
import Derived.Test.YtbpkijkinoligaaGreatDoorZAxF
namespace Go.Ax
open Go.RowKit

/-- The term first, then what is to be done with it. -/
noncomputable def sE {β : Type} (e : E) (k : E → β) : β :=
  match e with
  | .lit n => k (.lit n)
  | .var i => k (.var i)
  | .len i => k (.len i)
  | .byte i a => k (.byte i a)
  | .bin op j a b => k (.bin op j a b)
  | .cnv j a => k (.cnv j a)
  | .pk n a => k (.pk n a)
  | .cons a t => k (.cons a t)
  | .tv i lo hi t => k (.tv i lo hi t)
  | .fn n t => k (.fn n t)
@[simp] theorem sE_eq {β : Type} (e : E) (k : E → β) : sE e k = k e := by cases e <;> rfl

/-- A text as a term. -/
noncomputable def textE : List E → E
  | [] => .lit (.ofNat 1)
  | a :: l => sE (textE l) fun t => .cons a t
theorem textE_den {ρ : Val} : ∀ l : List E, (textE l).den ρ = encB (S.bytes ρ l) 1
  | [] => rfl
  | a :: l => by
    simp only [textE, sE_eq, E.den, textE_den l]
    rfl
theorem textE_ok {n : Nat → Prop} : ∀ {l : List E}, (∀ t ∈ l, t.ok n) → (textE l).ok n
  | [], _ => trivial
  | a :: l, h => by
    simp only [textE, sE_eq]
    exact ⟨h a (by simp), textE_ok fun t ht => h t (by simp [ht])⟩

/-- A function of memory that only adds to it. -/
theorem sum_quiet {P : Program} {G : Env} {n0 : Nat} {f : FuncId} {S : Ctx → Tr AObj → Nat → List AV → D SR}
    (h : ∀ (c : Ctx) (X : Ext) (H : Tr AObj) (next : Nat) (w : World) (args : List AV) (vs : Array Value) (r : SR), S c H next args = .ok r → c.okN X.dom X.ρ → AV.rels X args vs.toList →
      r.H = H ∧ r.next = next ∧ r.ctx = c ∧ ∃ u, r.v.rel X u ∧ Calls P f vs w (fun e w' => e = .returned u ∧ Below w.heap.size w w')) : SumOK P G n0 f S := by
  intro c X H next w args vs r hr hc hg hH h0 hfr hargs fr cs
  obtain ⟨e1, e2, e3, u, hu, hcall⟩ := h c X H next w args vs r hr hc hargs
  obtain ⟨u', w', ⟨rfl, hB⟩, hst⟩ := calls_back (q := fun v w' => v = u ∧ Below w.heap.size w w') (hcall.mono fun e w' he => ⟨u, he.1, rfl, he.2⟩) fr cs
  refine ⟨X, u', w', hst, Ext.le.refl X, hu, ?_, hB.mono h0, fun b hb _ => ⟨hb, by rw [e1]⟩, by rw [e2]; exact Nat.le_refl _, fun b hb => hfr b (by rw [e2] at hb; exact hb), by rw [e3]; exact hc⟩
  rw [e1]
  exact ⟨fun b o p ho hp => by rw [hB.block _ (hH.lt _ _ hp)]; exact hH.obj b o p ho hp, hH.inj, fun b p hp => Nat.lt_of_lt_of_le (hH.lt b p hp) hB.size, hH.own⟩

/-! a function of a text -/
noncomputable def fnSum (k : Nat) : Sum := fun c H next as =>
  match as with
  | [.str s] => bif Nat.ble s.length 1099511627776 then sE (textE s) fun t => .ok ⟨.int .i64 (.fn k t), H, next, c⟩ else .fail
  | _ => .fail
theorem fnSum_ok {P : Program} {G : Env} {n0 : Nat} {f : FuncId} {k : Nat}
    (h : ∀ (s : ByteArray) (w : World), s.size ≤ 1099511627776 → Calls P f #[.string s] w fun e w' => e = .returned (.int .i64 (fnZ k (encB s.data.toList 1))) ∧ Below w.heap.size w w') : SumOK P G n0 f (fnSum k) := by
  refine sum_quiet fun c X H next w args vs r hr hc hargs => ?_
  unfold fnSum at hr
  split at hr
  · rename_i s
    cases hb : Nat.ble s.length 1099511627776 with
    | false => rw [hb] at hr; cases hr
    | true =>
      rw [hb] at hr
      simp only [cond_true, sE_eq] at hr
      cases hr
      obtain ⟨u, vs', e1, h1, h2⟩ := rels_cons.1 hargs
      have := rels_nil.1 h2
      subst this
      simp only [AV.rel] at h1
      obtain ⟨k1, rfl⟩ := h1
      have hvs : vs = #[.string ⟨(S.bytes X.ρ s).toArray⟩] := by rw [← Array.toList_inj]; exact e1
      subst hvs
      refine ⟨rfl, rfl, rfl, .int .i64 ((E.fn k (textE s)).den X.ρ), ?_, ?_⟩
      · simp only [AV.rel]
        exact ⟨textE_ok fun t ht => (k1 t ht).1, trivial⟩
      · have := h ⟨(S.bytes X.ρ s).toArray⟩ w (by show (S.bytes X.ρ s).toArray.size ≤ _; simp only [List.size_toArray, S.bytes, List.length_map]; simpa using hb)
        simp only [E.den, textE_den]
        exact this
  · cases hr

/-! numbers in texts -/

/-- The byte of a number that holds its bits from 8 j on. -/
def byteS (n : E) (j : Nat) : E := .cnv .u8 (.bin .shr .i64 n (.lit (.ofNat (8 * j))))
noncomputable def byteL (n : Nat) (j : Nat) : E := sNat (Nat.mod (Nat.div n (Nat.pow 256 j)) 256) fun m => .lit (.ofNat m)
/-- The same for numbers. -/
def byteZ (z : Int) (j : Nat) : UInt8 := UInt8.ofNat (IntKind.u8.wrap (z.fdiv (2 ^ (8 * j)))).toNat
noncomputable def byteT (n : E) (j : Nat) : E :=
  match n with
  | .lit (.ofNat n) => byteL n j
  | n => sNat (8 * j) fun p => .cnv .u8 (.bin .shr .i64 n (.lit (.ofNat p)))
theorem wrapU8 (n : Int) : IntKind.u8.wrap n = n % 256 := by
  simp [IntKind.wrap, IntKind.bits, IntKind.signed]
theorem byteT_sound {n : E} {j : Nat} {ρ : Val} {d : Nat → Prop} (hn : n.ok d) (hj : j < 4) : (byteT n j).ok d ∧ (byteT n j).den ρ = IntKind.u8.wrap ((n.den ρ).fdiv (2 ^ (8 * j))) := by
  unfold byteT
  split
  · rename_i m
    refine ⟨trivial, ?_⟩
    simp only [byteL, sNat_eq, E.den]
    rw [wrapU8]
    have e : (2 : Int) ^ (8 * j) = ((256 ^ j : Nat) : Int) := by rw [Int.pow_mul]; simp
    rw [e, Int.ofNat_eq_natCast, Int.ofNat_eq_natCast, Int.fdiv_eq_ediv_of_nonneg _ (Int.natCast_nonneg _)]
    show ((m / 256 ^ j % 256 : Nat) : Int) = _
    rw [Int.natCast_emod, Int.natCast_ediv]
    rfl
  · simp only [sNat_eq]
    refine ⟨⟨hn, trivial⟩, ?_⟩
    simp only [E.den, binZ]
    have : min ((Int.ofNat (8 * j)).toNat) IntKind.i64.bits = 8 * j := by
      simp only [Int.ofNat_eq_natCast, Int.toNat_natCast, IntKind.bits]
      omega
    rw [this]

/-- The bytes of a number, k of them. -/
noncomputable def putBs (n : E) : Nat → List E
  | 0 => []
  | j + 1 => sE (byteT n j) fun b => b :: putBs n j
def bytesZ (z : Int) : Nat → List UInt8
  | 0 => []
  | j + 1 => byteZ z j :: bytesZ z j
theorem putBs_sound {n : E} {ρ : Val} {d : Nat → Prop} (hn : n.ok d) : ∀ {k : Nat}, k ≤ 4 → S.okN d ρ (putBs n k) ∧ S.bytes ρ (putBs n k) = bytesZ (n.den ρ) k
  | 0, _ => ⟨fun t ht => (by cases ht), rfl⟩
  | j + 1, h => by
    obtain ⟨h1, h2⟩ := putBs_sound (ρ := ρ) hn (k := j) (by omega)
    obtain ⟨h3, h4⟩ := byteT_sound (ρ := ρ) hn (j := j) (by omega)
    simp only [putBs, sE_eq]
    constructor
    · intro t ht
      rcases List.mem_cons.1 ht with rfl | ht
      · rw [h4, wrapU8]
        exact ⟨h3, by omega, by omega⟩
      · exact h1 t ht
    · show UInt8.ofNat ((byteT n j).den ρ).toNat :: S.bytes ρ (putBs n j) = _
      rw [h4, h2]; rfl

/-- Put: the number's bytes, or the error b. -/
noncomputable def putSum (b : Nat) : Sum := fun c H next as =>
  match as with
  | [.int .i64 n, .int .i64 (.lit (.ofNat k))] => bif Nat.ble 1 k && Nat.ble k 4 then
      sNat (Nat.pow 256 k) fun m =>
      match E.cmp c .lss n (.lit (.ofNat 0)) with
      | none => .ask .lss n (.lit (.ofNat 0))
      | some true => .ok ⟨.tuple [.str [], .int .i64 (.lit (.ofNat b))], H, next, c⟩
      | some false => match E.cmp c .lss n (.lit (.ofNat m)) with
        | none => .ask .lss n (.lit (.ofNat m))
        | some false => .ok ⟨.tuple [.str [], .int .i64 (.lit (.ofNat b))], H, next, c⟩
        | some true => .ok ⟨.tuple [.str (putBs n k), .int .i64 (.lit (.ofNat 0))], H, next, c⟩
    else .fail
  | _ => .fail
theorem putSum_ok {P : Program} {G : Env} {n0 : Nat} {f : FuncId} {b : Nat}
    (h1 : ∀ (z : Int) (k : Nat) (w : World), 1 ≤ k → k ≤ 4 → 0 ≤ z → z < 256 ^ k → Calls P f #[.int .i64 z, .int .i64 k] w fun e w' => e = .returned (.tuple #[.string ⟨(bytesZ z k).toArray⟩, .int .i64 0]) ∧ Below w.heap.size w w')
    (h2 : ∀ (z : Int) (k : Nat) (w : World), 1 ≤ k → k ≤ 4 → (z < 0 ∨ 256 ^ k ≤ z) → Calls P f #[.int .i64 z, .int .i64 k] w fun e w' => e = .returned (.tuple #[.string ⟨#[]⟩, .int .i64 b]) ∧ Below w.heap.size w w') : SumOK P G n0 f (putSum b) := by
  refine sum_quiet fun c X H next w args vs r hr hc hargs => ?_
  unfold putSum at hr
  split at hr
  · rename_i n k
    cases hb : (Nat.ble 1 k && Nat.ble k 4) with
    | false => rw [hb] at hr; cases hr
    | true =>
      rw [hb] at hr
      simp only [Bool.and_eq_true, Nat.ble_eq] at hb
      simp only [cond_true, sNat_eq] at hr
      obtain ⟨u, vs', e1, g1, g2⟩ := rels_cons.1 hargs
      obtain ⟨v, vs'', rfl, g3, g4⟩ := rels_cons.1 g2
      have := rels_nil.1 g4
      subst this
      simp only [AV.rel] at g1 g3
      obtain ⟨k1, rfl⟩ := g1
      obtain ⟨-, rfl⟩ := g3
      have hvs : vs = #[.int .i64 (n.den X.ρ), .int .i64 k] := by rw [← Array.toList_inj]; exact e1
      subst hvs
      have pw : ((Nat.pow 256 k : Nat) : Int) = 256 ^ k := by simp
      have bad : ∀ r, (n.den X.ρ < 0 ∨ 256 ^ k ≤ n.den X.ρ) → (.ok ⟨.tuple [.str [], .int .i64 (.lit (.ofNat b))], H, next, c⟩ : D SR) = .ok r → r.H = H ∧ r.next = next ∧ r.ctx = c ∧ ∃ u, r.v.rel X u ∧ Calls P f #[.int .i64 (n.den X.ρ), .int .i64 k] w (fun e w' => e = .returned u ∧ Below w.heap.size w w') := by
        intro r hz hr
        cases hr
        refine ⟨rfl, rfl, rfl, _, ?_, h2 _ k w hb.1 hb.2 hz⟩
        simp only [AV.rel]
        refine ⟨_, rfl, ?_⟩
        simp only [rels_cons_cons, rels_nil, AV.rel]
        exact ⟨⟨fun t ht => (by cases ht), rfl⟩, ⟨trivial, rfl⟩, trivial⟩
      split at hr
      · cases hr
      · rename_i hq
        have := E.cmp_sound rfl hq hc
        simp only [cmpZ, decide_eq_true_eq] at this
        exact bad r (.inl this) hr
      · rename_i hq
        have q0 := E.cmp_sound rfl hq hc
        simp only [cmpZ, decide_eq_false_iff_not] at q0
        have q0' : 0 ≤ n.den X.ρ := by
          have e0 : (E.lit (Int.ofNat 0)).den X.ρ = 0 := rfl
          rw [e0] at q0; omega
        split at hr
        · cases hr
        · rename_i hq2
          have q1 := E.cmp_sound rfl hq2 hc
          simp only [cmpZ, decide_eq_false_iff_not] at q1
          refine bad r (.inr ?_) hr
          have e0 : (E.lit (Int.ofNat (Nat.pow 256 k))).den X.ρ = ((Nat.pow 256 k : Nat) : Int) := rfl
          rw [e0, pw] at q1; omega
        · rename_i hq2
          have q1 := E.cmp_sound rfl hq2 hc
          simp only [cmpZ, decide_eq_true_eq] at q1
          have e0 : (E.lit (Int.ofNat (Nat.pow 256 k))).den X.ρ = ((Nat.pow 256 k : Nat) : Int) := rfl
          rw [e0, pw] at q1
          cases hr
          obtain ⟨s1, s2⟩ := putBs_sound (ρ := X.ρ) k1 hb.2
          refine ⟨rfl, rfl, rfl, _, ?_, h1 _ k w hb.1 hb.2 q0' q1⟩
          simp only [AV.rel]
          refine ⟨_, rfl, ?_⟩
          simp only [rels_cons_cons, rels_nil, AV.rel]
          exact ⟨⟨s1, by rw [s2]⟩, ⟨trivial, rfl⟩, trivial⟩
  · cases hr

/-! reading -/
def numB (l : List UInt8) : Nat := l.foldl (fun n b => n * 256 + b.toNat) 0
/-- All bytes are written out. -/
def litB : Nat → List E → Option Nat
  | n, [] => some n
  | n, .lit (.ofNat b) :: l => litB (n * 256 + b) l
  | _, _ => none
/-- Are these the bytes of n? -/
def allB (n : E) : Nat → List E → Bool
  | 0, [] => true
  | j + 1, e :: l => e.same (byteS n j) && allB n j l
  | _, _ => false
/-- The number that lies in bytes. -/
noncomputable def getE (c : Ctx) (l : List E) : Option E :=
  match l with
  | .cnv .u8 (.bin .shr .i64 n (.lit p)) :: m => bif allB n (m.length + 1) (.cnv .u8 (.bin .shr .i64 n (.lit p)) :: m) && (match (E.iv c.fs n).lo, (E.iv c.fs n).hi with
      | some lo, some hi => ile 0 lo && ilt hi (.ofNat (Nat.pow 256 (m.length + 1)))
      | _, _ => false) then some n else none
  | l => match litB 0 l with
    | some n => sNat n fun n => some (.lit (.ofNat n))
    | none => none

theorem litB_sound {ρ : Val} {d : Nat → Prop} : ∀ {l : List E} {n m : Nat}, litB n l = some m → S.okN d ρ l → (S.bytes ρ l).foldl (fun n b => n * 256 + b.toNat) n = m
  | [], n, m, h, _ => by simp only [litB, Option.some.injEq] at h; subst h; rfl
  | .lit (.ofNat b) :: l, n, m, h, hk => by
    simp only [litB] at h
    have ih := litB_sound h fun t ht => hk t (by simp [ht])
    have hb := (hk (.lit (.ofNat b)) (by simp)).2.2
    simp only [E.den, Int.ofNat_eq_natCast] at hb
    show (S.bytes ρ l).foldl _ (n * 256 + (UInt8.ofNat ((E.lit (.ofNat b)).den ρ).toNat).toNat) = m
    have e : (UInt8.ofNat ((E.lit (.ofNat b)).den ρ).toNat).toNat = b := by
      show (UInt8.ofNat (Int.ofNat b).toNat).toNat = b
      simp
      omega
    rw [e]
    exact ih
  | .lit (.negSucc _) :: _, _, _, h, _ => by simp [litB] at h
  | .var _ :: _, _, _, h, _ => by simp [litB] at h
  | .len _ :: _, _, _, h, _ => by simp [litB] at h
  | .byte _ _ :: _, _, _, h, _ => by simp [litB] at h
  | .bin _ _ _ _ :: _, _, _, h, _ => by simp [litB] at h
  | .cnv _ _ :: _, _, _, h, _ => by simp [litB] at h
  | .pk _ _ :: _, _, _, h, _ => by simp [litB] at h
  | .cons _ _ :: _, _, _, h, _ => by simp [litB] at h
  | .tv _ _ _ _ :: _, _, _, h, _ => by simp [litB] at h
  | .fn _ _ :: _, _, _, h, _ => by simp [litB] at h

theorem byteS_den {n : E} {j : Nat} {ρ : Val} (hj : j < 4) : (byteS n j).den ρ = IntKind.u8.wrap ((n.den ρ).fdiv (2 ^ (8 * j))) := by
  simp only [byteS, E.den, binZ]
  have : min ((Int.ofNat (8 * j)).toNat) IntKind.i64.bits = 8 * j := by
    simp only [Int.ofNat_eq_natCast, Int.toNat_natCast, IntKind.bits]
    omega
  rw [this]
theorem allB_sound {ρ : Val} {n : E} : ∀ {l : List E} {k : Nat}, allB n k l = true → k ≤ 4 → S.bytes ρ l = bytesZ (n.den ρ) k
  | [], 0, _, _ => rfl
  | [], _ + 1, h, _ => by simp [allB] at h
  | _ :: _, 0, h, _ => by simp [allB] at h
  | e :: l, j + 1, h, hk => by
    simp only [allB, Bool.and_eq_true] at h
    have := E.same_sound h.1
    show UInt8.ofNat (e.den ρ).toNat :: S.bytes ρ l = _
    rw [this, byteS_den (by omega), allB_sound h.2 (by omega)]
    rfl
theorem bytesZ_num {z : Nat} : ∀ {k a : Nat}, k ≤ 4 → (bytesZ z k).foldl (fun n b => n * 256 + b.toNat) a = a * 256 ^ k + z % 256 ^ k
  | 0, a, _ => by simp [bytesZ]; omega
  | j + 1, a, h => by
    have ih := fun a => bytesZ_num (z := z) (k := j) (a := a) (by omega)
    show (bytesZ z j).foldl _ (a * 256 + (byteZ z j).toNat) = _
    rw [ih]
    have e : (byteZ z j).toNat = z / 256 ^ j % 256 := by
      unfold byteZ
      rw [wrapU8]
      have e : (2 : Int) ^ (8 * j) = ((256 ^ j : Nat) : Int) := by rw [Int.pow_mul]; simp
      rw [e, Int.fdiv_eq_ediv_of_nonneg _ (Int.natCast_nonneg _)]
      have e2 : ((z : Int) / ((256 ^ j : Nat) : Int) % 256).toNat = z / 256 ^ j % 256 := by
        rw [← Int.natCast_ediv]; omega
      rw [e2]
      simp
    rw [e]
    have h1 := Nat.div_add_mod (z % 256 ^ (j + 1)) (256 ^ j)
    have h2 : z % 256 ^ (j + 1) / 256 ^ j = z / 256 ^ j % 256 := by
      rw [Nat.pow_succ, Nat.mod_mul_right_div_self]
    have h3 : z % 256 ^ (j + 1) % 256 ^ j = z % 256 ^ j := by
      rw [Nat.pow_succ, Nat.mod_mul_right_mod]
    rw [h2, h3] at h1
    rw [← h1, Nat.pow_succ, Nat.add_mul, Nat.mul_assoc, Nat.mul_comm 256 (256 ^ j), Nat.mul_comm (256 ^ j) (z / 256 ^ j % 256)]
    omega
theorem getE_sound {c : Ctx} {ρ : Val} {d : Nat → Prop} {l : List E} {e : E} (h : getE c l = some e) (hl : l.length ≤ 4) (hk : S.okN d ρ l) (hc : c.okN d ρ) : e.ok d ∧ e.den ρ = (numB (S.bytes ρ l) : Int) := by
  unfold getE at h
  split at h
  · rename_i n p m
    cases hb : (allB n (m.length + 1) (.cnv .u8 (.bin .shr .i64 n (.lit p)) :: m) && (match (E.iv c.fs n).lo, (E.iv c.fs n).hi with
      | some lo, some hi => ile 0 lo && ilt hi (.ofNat (Nat.pow 256 (m.length + 1)))
      | _, _ => false)) with
    | false => rw [hb] at h; cases h
    | true =>
      rw [hb] at h
      simp only [cond_true, Option.some.injEq] at h
      subst h
      simp only [Bool.and_eq_true] at hb
      have hv := E.iv_sound hc.2 n
      have hn : n.ok d := (hk (.cnv .u8 (.bin .shr .i64 n (.lit p))) (by simp)).1.1
      refine ⟨hn, ?_⟩
      have hs := allB_sound (ρ := ρ) hb.1 (by simpa using hl)
      obtain ⟨-, hb⟩ := hb
      split at hb
      · rename_i lo hi e1 e2
        simp only [Bool.and_eq_true, ile_iff, ilt_eq, decide_eq_true_eq] at hb
        have a1 := hv.1 _ e1
        have a2 := hv.2 _ e2
        obtain ⟨z, hz⟩ : ∃ z : Nat, n.den ρ = z := ⟨(n.den ρ).toNat, by omega⟩
        rw [hs, hz]
        have hlt : z < 256 ^ (m.length + 1) := by
          have q : (Int.ofNat (Nat.pow 256 (m.length + 1))) = ((256 ^ (m.length + 1) : Nat) : Int) := rfl
          rw [q] at hb; omega
        have := bytesZ_num (z := z) (k := m.length + 1) (a := 0) (by simpa using hl)
        unfold numB
        rw [this, Nat.mod_eq_of_lt hlt]
        omega
      · cases hb
  · split at h
    · rename_i n hn
      rw [sNat_eq] at h
      cases h
      refine ⟨trivial, ?_⟩
      have := litB_sound (ρ := ρ) hn hk
      simp only [E.den, numB, this, Int.ofNat_eq_natCast]
    · cases h

/-- Get: the number in bytes, or the error b. -/
noncomputable def getSum (b : Nat) : Sum := fun c H next as =>
  match as with
  | [.str s, .int .i64 (.lit (.ofNat i)), .int .i64 (.lit (.ofNat k))] => bif Nat.ble 1 k && Nat.ble k 4 && Nat.ble s.length 1099511627776 && Nat.ble i 1099511627776 then
      bif Nat.ble (i + k) s.length then
        match getE c ((s.drop i).take k) with
        | some e => .ok ⟨.tuple [.int .i64 e, .int .i64 (.lit (.ofNat 0))], H, next, c⟩
        | none => .fail
      else .ok ⟨.tuple [.int .i64 (.lit (.ofNat 0)), .int .i64 (.lit (.ofNat b))], H, next, c⟩
    else .fail
  | _ => .fail
theorem getSum_ok {P : Program} {G : Env} {n0 : Nat} {f : FuncId} {b : Nat}
    (h1 : ∀ (s : ByteArray) (i k : Nat) (w : World), 1 ≤ k → k ≤ 4 → s.size ≤ 1099511627776 → i + k ≤ s.size → Calls P f #[.string s, .int .i64 i, .int .i64 k] w fun e w' => e = .returned (.tuple #[.int .i64 (numB ((s.data.toList.drop i).take k)), .int .i64 0]) ∧ Below w.heap.size w w')
    (h2 : ∀ (s : ByteArray) (i k : Nat) (w : World), 1 ≤ k → k ≤ 4 → s.size ≤ 1099511627776 → i ≤ 1099511627776 → s.size < i + k → Calls P f #[.string s, .int .i64 i, .int .i64 k] w fun e w' => e = .returned (.tuple #[.int .i64 0, .int .i64 b]) ∧ Below w.heap.size w w') : SumOK P G n0 f (getSum b) := by
  refine sum_quiet fun c X H next w args vs r hr hc hargs => ?_
  unfold getSum at hr
  split at hr
  · rename_i s i k
    cases hb : (Nat.ble 1 k && Nat.ble k 4 && Nat.ble s.length 1099511627776 && Nat.ble i 1099511627776) with
    | false => rw [hb] at hr; cases hr
    | true =>
      rw [hb] at hr
      simp only [Bool.and_eq_true, Nat.ble_eq] at hb
      simp only [cond_true] at hr
      obtain ⟨u, vs', e1, g1, g2⟩ := rels_cons.1 hargs
      obtain ⟨v, vs'', rfl, g3, g4⟩ := rels_cons.1 g2
      obtain ⟨v2, vs3, rfl, g5, g6⟩ := rels_cons.1 g4
      have := rels_nil.1 g6
      subst this
      simp only [AV.rel] at g1 g3 g5
      obtain ⟨k1, rfl⟩ := g1
      obtain ⟨-, rfl⟩ := g3
      obtain ⟨-, rfl⟩ := g5
      have hvs : vs = #[.string ⟨(S.bytes X.ρ s).toArray⟩, .int .i64 i, .int .i64 k] := by rw [← Array.toList_inj]; exact e1
      subst hvs
      have hsz : (⟨(S.bytes X.ρ s).toArray⟩ : ByteArray).size = s.length := by
        show (S.bytes X.ρ s).toArray.size = _
        simp [S.bytes]
      cases hle : Nat.ble (i + k) s.length with
      | true =>
        rw [hle] at hr
        simp only [cond_true] at hr
        have hle' : i + k ≤ s.length := by simpa using hle
        split at hr
        · rename_i e he
          cases hr
          have hkk : S.okN X.dom X.ρ ((s.drop i).take k) := fun t ht => k1 t (List.mem_of_mem_drop (List.mem_of_mem_take ht))
          obtain ⟨a1, a2⟩ := getE_sound he (by simp only [List.length_take]; omega) hkk hc
          refine ⟨rfl, rfl, rfl, _, ?_, h1 _ i k w hb.1.1.1 hb.1.1.2 (by rw [hsz]; exact hb.1.2) (by rw [hsz]; exact hle')⟩
          simp only [AV.rel]
          refine ⟨_, rfl, ?_⟩
          simp only [rels_cons_cons, rels_nil, AV.rel]
          refine ⟨⟨a1, ?_⟩, ⟨trivial, rfl⟩, trivial⟩
          rw [a2]
          have : S.bytes X.ρ ((s.drop i).take k) = ((S.bytes X.ρ s).drop i).take k := by simp [S.bytes, List.map_take, List.map_drop]
          rw [this]
        · cases hr
      | false =>
        rw [hle] at hr
        simp only [cond_false] at hr
        cases hr
        have hle' : ¬ i + k ≤ s.length := fun hh => by rw [Nat.ble_eq_true_of_le hh] at hle; cases hle
        refine ⟨rfl, rfl, rfl, _, ?_, h2 _ i k w hb.1.1.1 hb.1.1.2 (by rw [hsz]; exact hb.1.2) hb.2 (by rw [hsz]; omega)⟩
        simp only [AV.rel]
        refine ⟨_, rfl, ?_⟩
        simp only [rels_cons_cons, rels_nil, AV.rel]
        exact ⟨⟨trivial, rfl⟩, ⟨trivial, rfl⟩, trivial⟩
  · cases hr

end Go.Ax

/-! THE ABSTRACT EXECUTOR, 58: a slice of unknown length and content, read at an unknown place by hand; hops that keep where it lies; a first state with such a slice. Conditions: none. -/
namespace Go.Ax
open Go.RowKit

section
variable {P : Program} {G : Env} {n0 : Nat} {w0 : World} {cs0 : List Frame}

/-- An operation carried out by hand: it changes nothing, and its value is as told. -/
theorem Sim.hand (hT : G.T.OK P) (hI : TabI.OK P G.I) {X : Ext} {s : AM} {m : Machine} (h : Sim P G n0 w0 cs0 X s m) (hret : s.fr.ret = false) {ops : List Oper} {k : Nat} {o : Oper} {rest : List Oper} (hc : s.fr.cur = .reg ops k (o :: rest)) (hg : o.guard = none) (hd : ∀ c, o.op ≠ .defer c) {d : Nat} (hdst : o.dst = some d) (hlt : d < s.fr.nt) {v : AV}
    (hx : ∀ (ρc : Operand → Value) (w : World), (∀ x ∈ o.op.operands.toList, ∀ a, ev G.T.ng s.fr.tm x = some a → a.rel X (ρc x)) → Below n0 w0 w → ∃ u, (execOp ρc o).run P w = .ok (.value u) w ∧ v.rel X u) :
    ∃ Y m', Steps P m m' ∧ X.le Y ∧ Sim P G n0 w0 cs0 Y { s with fr := { s.fr with tm := s.fr.tm.set d v, cur := .reg ops (k + 1) rest } } m' := by
  obtain ⟨f, cs, w, rfl, hS⟩ := sim_reg h hret hc
  obtain ⟨A, i, l, is, -, -, -, -, hops, -⟩ := hS.at_
  obtain ⟨u, h1, h2⟩ := hx (evC f.tmps) w hops hS.below
  refine adv_op hT hI hS (r := ⟨v, s.H, s.next⟩) (by unfold awant; rw [hg]) hd ⟨X, u, w, .inl h1, Ext.le.refl X, h2, hS.mem, Below.refl _ _, fun b hb _ => ⟨hb, rfl⟩, Nat.le_refl _, hS.fresh⟩ ?_
  unfold advance afinish
  have hb : Nat.blt d s.fr.nt = true := by rw [Nat.blt_eq]; exact hlt
  simp only [hc, aput, hdst, hb, cond_true, sNat_eq]

/-- The state behind the reading. -/
noncomputable def readS (s : AM) (ops : List Oper) (k d1 d2 b n : Nat) (β : Bool) : AM := { s with fr := { s.fr with tm := (s.fr.tm.set d1 (.ptr b n)).set d2 (.bool β), cur := .reg ops (k + 1 + 1) [] } }

/-- A truth value is read out of a slice of unknown length. -/
theorem Sim.readW (hT : G.T.OK P) (hI : TabI.OK P G.I) {X : Ext} {s : AM} {m : Machine} (h : Sim P G n0 w0 cs0 X s m) (hret : s.fr.ret = false) {ops : List Oper} {k : Nat} {o1 o2 : Oper} (hc : s.fr.cur = .reg ops k [o1, o2])
    (hg1 : o1.guard = none) (hg2 : o2.guard = none) {d1 d2 a c t1 t2 te b li : Nat} {e : E} (hd1 : o1.dst = some d1) (hd2 : o2.dst = some d2) (hl1 : d1 < s.fr.nt) (hl2 : d2 < s.fr.nt)
    (ho1 : o1.op = .indexAddr t1 (.tmp a) (.tmp c)) (ho2 : o2.op = .load t2 (.tmp d1)) {ti ei t2i : TI} (ht1 : G.T.ty t1 = some ti) (hts : ti.desc = .slice te) (hte : G.T.ty te = some ei) (hes : ei.size = 1) (ht2 : G.T.ty t2 = some t2i) (h2a : isAggD t2i.desc = false)
    (ha : s.fr.tm.get a = some (.wslice b 0 0 1 li)) (hi : s.fr.tm.get c = some (.int .i64 e)) (h0 : 0 ≤ e.den X.ρ) (hlt : e.den X.ρ < X.ρ.int li)
    {pl : Place} (hpl : X.μ b = some pl) (hin : pl.blk < n0) {n : Nat} (hn : X.ρ.int li = n) (hcell : ∀ i, i < n → ∃ β, w0.cell? ⟨pl.blk, pl.base + i, none⟩ = some (.bool β)) :
    ∃ i β Y m', Steps P m m' ∧ X.le Y ∧ Sim P G n0 w0 cs0 Y (readS s ops k d1 d2 b i β) m' := by
  obtain ⟨i, hi'⟩ : ∃ i : Nat, e.den X.ρ = i := ⟨(e.den X.ρ).toNat, by omega⟩
  have hin' : i < n := by omega
  obtain ⟨β, hβ⟩ := hcell i hin'
  obtain ⟨Y, m1, st1, hle1, hs1⟩ := h.hand hT hI hret hc hg1 (fun q hq => by rw [ho1] at hq; cases hq) hd1 hl1 (v := .ptr b i) (fun ρc w hops _ => by
    rw [ho1] at hops
    have r1 := hops (.tmp a) (by simp [Op.operands]) (.wslice b 0 0 1 li) (by simp only [ev, ha, Option.getD_some])
    have r2 := hops (.tmp c) (by simp [Op.operands]) (.int .i64 e) (by simp only [ev, hi, Option.getD_some])
    simp only [AV.rel] at r1 r2
    obtain ⟨p, len, cp, hp, e1, -, hlc, hsz, -, hlen⟩ := r1
    obtain ⟨-, e2⟩ := r2
    rw [hpl] at hp
    cases hp
    have hil : i < len := by omega
    refine ⟨.pointer (some ⟨pl.blk, pl.base + i, none⟩), ?_, ?_⟩
    · simp only [execOp, ho1, e1, e2, hi']
      simp [Instr.indexAt, asIntOf, Tab.run_und hT ht1, hts, Tab.run_size hT hte, hes, add_none, hil]
    · simp only [AV.rel]
      exact ⟨pl, hpl, rfl⟩)
  obtain ⟨Z, m2, st2, hle2, hs2⟩ := hs1.hand hT hI (o := o2) (rest := []) (by exact hret) rfl hg2 (fun q hq => by rw [ho2] at hq; cases hq) hd2 (by exact hl2) (v := .bool β) (fun ρc w hops hb => by
    rw [ho2] at hops
    have r1 := hops (.tmp d1) (by simp [Op.operands]) (.ptr b i) (by simp only [ev, Tr.get_set, if_true, Option.getD_some])
    simp only [AV.rel] at r1
    obtain ⟨p, hp, e1⟩ := r1
    rw [hle1.μ _ _ hpl] at hp
    cases hp
    refine ⟨.bool β, ?_, by simp only [AV.rel]⟩
    have hv : w.cell? ⟨pl.blk, pl.base + i, none⟩ = some (.bool β) := by rw [hb.cell (p := ⟨pl.blk, pl.base + i, none⟩) hin, hβ]
    simp only [execOp, ho2, e1]
    simp only [Instr.loadAt, Instr.sureAddr, loadVar, pure_bind, Sem.run_bind, Tab.run_isAgg hT ht2, h2a, Result.andThen_ok]
    simp [hv])
  exact ⟨i, β, Z, m2, st1.trans st2, hle1.trans hle2, hs2⟩

/-- Behind a hop, when from there on all is well; the place of the slice is kept. -/
theorem Hop.endsK (hT : G.T.OK P) (hI : TabI.OK P G.I) (hS : SumsOK P G n0) (hng : 0 < G.T.ng) {f : FuncId} {s : AM} {n k room j : Nat} {σ : Sb} {keep : List Nat} {t : St} {b : Nat} {pl : Place} (hb : keepK G.T.ng keep b = true) (hh : Hop specF G n k s j σ keep t)
    (he : ∀ X m, X.μ b = some pl → Sim P G n0 w0 cs0 X (t.am room) m → EndsTrue P n0 w0 cs0 f m) {X : Ext} {m : Machine} (hX : X.μ b = some pl) (h : Sim P G n0 w0 cs0 X s m) : EndsTrue P n0 w0 cs0 f m := by
  obtain ⟨Y, m', st, hle, hs⟩ := Hop.sim hT hI hS specF_ok hng hh h
  exact .of_steps st (he _ _ (by simp only [castX, if_pos hb]; exact hle.μ _ _ hX) hs)
end

/-- The first state of a function that is handed one object. -/
noncomputable def instX (sps : List Sp) (mk : Nat → List AV → Option (List AV × AObj)) (b : Nat) : InL × List AV × AObj :=
  match Sp.instL sps (b + 1) with
  | some r => match mk b r.v with
    | some q => (r, q)
    | none => (⟨[], 0, [], []⟩, [], .dead)
  | none => (⟨[], 0, [], []⟩, [], .dead)
noncomputable def startX (G : Env) (E : Errs) (f : FuncId) (sps : List Sp) (mk : Nat → List AV → Option (List AV × AObj)) (room : Nat) : AM :=
  match start G f (instX sps mk (E.ng + E.m)).2.1 ((errH room E.T E.t E.l).set (E.ng + E.m) (instX sps mk (E.ng + E.m)).2.2) (instX sps mk (E.ng + E.m)).1.next ⟨(instX sps mk (E.ng + E.m)).1.fs, (instX sps mk (E.ng + E.m)).1.vs⟩ with
  | some s => s
  | none => ⟨⟨0, 0, .e, .none, [], [], false, none⟩, [], .e, 0, ⟨[], []⟩⟩
noncomputable def startXB (G : Env) (E : Errs) (f : FuncId) (sps : List Sp) (mk : Nat → List AV → Option (List AV × AObj)) (room : Nat) : Bool :=
  (match Sp.instL sps (E.ng + E.m + 1) with
  | some r => (match mk (E.ng + E.m) r.v with
    | some q => !q.2.rw
    | none => false)
  | none => false) &&
  someB (start G f (instX sps mk (E.ng + E.m)).2.1 ((errH room E.T E.t E.l).set (E.ng + E.m) (instX sps mk (E.ng + E.m)).2.2) (instX sps mk (E.ng + E.m)).1.next ⟨(instX sps mk (E.ng + E.m)).1.fs, (instX sps mk (E.ng + E.m)).1.vs⟩)

theorem told_of_simX {P : Program} {G : Env} (hT : G.T.OK P) {E : Errs} (hE : E.ng = G.T.ng) (hng : 0 < E.ng) {f : FuncId} {sps : List Sp} {mk : Nat → List AV → Option (List AV × AObj)} {room : Nat} (hb : startXB G E f sps mk room = true)
    {w : World} {A : Nat → Addr} {N : Nat → Nat} {vals : List Value} {vs : Array Value} {pl : Place} (hl : Laid E A N w) (hv : Sp.hasL sps vals) (hpl : pl.blk < w.heap.size)
    (hne : ∀ (l : List AV) (args : List AV) (o : AObj), mk (E.ng + E.m) l = some (args, o) → o.live = true → ∀ e ∈ E.l, pl.blk ≠ e.1)
    (hmk : ∀ (Y : Ext) (l : List AV) (args : List AV) (o : AObj), AV.rels Y l vals → Y.μ (E.ng + E.m) = some pl → mk (E.ng + E.m) l = some (args, o) → AV.rels Y args vs.toList ∧ ORel Y o pl w.heap[pl.blk]?)
    (he : ∀ {cs0 : List Frame} {X : Ext} {m : Machine}, X.μ (E.ng + E.m) = some pl → AV.rels X (instX sps mk (E.ng + E.m)).2.1 vs.toList → Sim P G w.heap.size w cs0 X (startX G E f sps mk room) m → EndsTrue P w.heap.size w cs0 f m) :
    Calls P f vs w (fun e w' => ∃ u, e = .returned u ∧ (Sp.lit true).has u ∧ Below w.heap.size w w') := by
  intro cs
  unfold startXB at hb
  simp only [Bool.and_eq_true] at hb
  obtain ⟨hb1, hb2⟩ := hb
  obtain ⟨r, q, hi, hq, hrw, hx⟩ : ∃ r q, Sp.instL sps (E.ng + E.m + 1) = some r ∧ mk (E.ng + E.m) r.v = some q ∧ q.2.rw = false ∧ instX sps mk (E.ng + E.m) = (r, q) := by
    split at hb1
    · rename_i r hr
      split at hb1
      · rename_i q hq
        refine ⟨r, q, hr, hq, by simpa using hb1, ?_⟩
        unfold instX
        simp only [hr, hq]
      · cases hb1
    · cases hb1
  have hs : start G f q.1 ((errH room E.T E.t E.l).set (E.ng + E.m) q.2) r.next ⟨r.fs, r.vs⟩ = some (startX G E f sps mk room) := by
    unfold startX
    rw [hx] at hb2 ⊢
    simp only at hb2 ⊢
    split
    · rename_i s hh; exact hh
    · rename_i hh; rw [hh] at hb2; cases hb2
  generalize startX G E f sps mk room = s at hs he
  obtain ⟨args, o⟩ := q
  simp only at hs hrw
  have h00 : 0 < w.heap.size := Nat.lt_of_lt_of_le hng hl.sz
  obtain ⟨Y, hN, hr⟩ := Sp.instL_sound (p := ⟨0, 0, 0⟩) (X := (errX E A N).add (E.ng + E.m) pl) hi hv (fun b hb => by rw [Ext.add_ne (by omega)]; simp only [errX]; rw [if_neg (by omega), if_neg (by omega)])
  have hold : ∀ b, b < E.ng → Y.μ b = some ⟨b, 0, N b⟩ := fun b hb => by rw [hN.old b (by omega), Ext.add_ne (by omega)]; simp only [errX]; rw [if_pos hb]
  have hptr : ∀ b, E.ng ≤ b → b < E.ng + E.m → Y.μ b = some ⟨(A b).block, (A b).off, 0⟩ := fun b h1 h2 => by rw [hN.old b (by omega), Ext.add_ne (by omega)]; simp only [errX]; rw [if_neg (by omega), if_pos h2]
  have hmine : Y.μ (E.ng + E.m) = some pl := by rw [hN.old _ (by omega), Ext.add_same]
  obtain ⟨hargs, hobj⟩ := hmk Y r.v args o hr hmine hq
  have hl1 : ∀ e ∈ E.l, e.1 < E.ng := fun e he => (hl.at_ e he).1
  have hget : ∀ b ob, ((errH room E.T E.t E.l).set (E.ng + E.m) o).get b = some ob → (b = E.ng + E.m ∧ ob = o) ∨ ∃ id, (b, id) ∈ E.l ∧ ob = .cells [.iface E.T (.ptr id 0)] E.t false false true := fun b ob h => by
    rw [Tr.get_set] at h
    by_cases e : b = E.ng + E.m
    · rw [if_pos e] at h; cases h; exact .inl ⟨e, rfl⟩
    · rw [if_neg e] at h; exact .inr (errH_get h)
  have hH : HRel Y w.heap.size ((errH room E.T E.t E.l).set (E.ng + E.m) o) w := by
    refine ⟨fun b ob p hb hp => ?_, fun b b' o1 o2 p p' hb hb' l1 l2 hp hp' e => ?_, fun b p hp => ?_, fun b ob p hb hw hp => ?_⟩
    · rcases hget b ob hb with ⟨rfl, rfl⟩ | ⟨id, hm, rfl⟩
      · rw [hmine] at hp; cases hp; exact hobj
      · obtain ⟨a1, a2, a3, a3', a4, c, fr, el, a5, a6, a7⟩ := hl.at_ _ hm
        simp only at a1 a2 a3 a3' a4 a5 a6 a7
        rw [hold b a1] at hp
        cases hp
        refine ⟨c, fr, ⟨_, a5, .inl rfl⟩, a6, by simp only [List.length_singleton]; omega, fun h => (by cases h), fun i x hx => ?_, .inl rfl, fun h => (by cases h)⟩
        cases i with
        | zero =>
          simp only [List.getElem?_cons_zero, Option.some.injEq] at hx
          subst hx
          refine ⟨_, by simpa using a7, ?_⟩
          simp only [AV.rel]
          refine ⟨_, rfl, _, hptr id a2 a3, ?_⟩
          simp only [Nat.add_zero]
          rw [← a4]
        | succ i => simp at hx
    · rcases hget b o1 hb with ⟨rfl, rfl⟩ | ⟨id, hm, rfl⟩ <;> rcases hget b' o2 hb' with ⟨rfl, rfl⟩ | ⟨id', hm', rfl⟩
      · rfl
      · rw [hmine] at hp
        rw [hold b' (hl1 _ hm')] at hp'
        cases hp
        cases hp'
        exact absurd e (hne r.v args _ hq l1 _ hm')
      · rw [hmine] at hp'
        rw [hold b (hl1 _ hm)] at hp
        cases hp
        cases hp'
        exact absurd e.symm (hne r.v args _ hq l2 _ hm)
      · rw [hold b (hl1 _ hm)] at hp
        rw [hold b' (hl1 _ hm')] at hp'
        cases hp
        cases hp'
        exact e
    · by_cases h1 : b < E.ng
      · rw [hold b h1] at hp
        cases hp
        exact Nat.lt_of_lt_of_le h1 hl.sz
      · by_cases h2 : b < E.ng + E.m
        · rw [hptr b (by omega) h2] at hp
          cases hp
          exact hl.lt b (by omega) h2
        · by_cases h4 : b = E.ng + E.m
          · subst h4; rw [hmine] at hp; cases hp; exact hpl
          · by_cases h3 : b < r.next
            · rw [hN.new b (by omega) h3] at hp
              cases hp
              exact h00
            · rw [hN.free b (by omega)] at hp; cases hp
    · rcases hget b ob hb with ⟨rfl, rfl⟩ | ⟨id, hm, rfl⟩
      · rw [hrw] at hw; cases hw
      · cases hw
  have hg : Y.globs G.T.ng := fun g hg => ⟨N g, hold g (by omega)⟩
  have hsim : Sim P G w.heap.size w cs Y s (lone (Frame.enter P f vs .normal) cs w) := by
    unfold start at hs
    split at hs
    · cases hs
    · rename_i fn hfn
      split at hs
      · cases hs
      · rename_i b hb
        cases hs
        have hP := (hT.funcs f fn hfn).1
        refine ⟨⟨Frame.enter P f vs .normal, [], w, rfl, ⟨⟨rfl, rfl, rfl, rfl⟩, rfl, [.code b], ⟨_, _, rfl, rfl, rfl⟩, ?_, ?_⟩, rfl, hH, Below.refl _ _, Nat.le_refl _⟩, ⟨hN.vs, hN.fs⟩, hg, hN.free, ?_⟩
        · simp [Frame.enter, hP, hb]
        · have := enter_tm (k := fn.ntmps) hargs
          simpa [Frame.enter, hP] using this
        · simp [idsOf]
  obtain ⟨fr, w', a1, a2, a3, a4⟩ := he hmine (by rw [hx]; exact hargs) hsim
  exact ⟨.returned (.bool true), w', fr, ⟨_, rfl, by simp only [Sp.has], a2⟩, a1, a3, a4⟩
end Go.Ax
