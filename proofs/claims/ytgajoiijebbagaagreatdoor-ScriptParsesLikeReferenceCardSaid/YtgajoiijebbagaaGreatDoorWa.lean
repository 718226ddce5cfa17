/-
  Tools for the walks, and the walks of the address side's small functions. Conditions: as each says.
-/
import Derived.WalkKit
import Derived.WalkSpells
import Derived.WalkLawsBesides
import Derived.Deep.QuietTactic
import Derived.BigQuiet
import Derived.Lib.Hide
import Derived.StillTail
import Derived.Test.YtgajoiijebbagaaGreatDoorPln
import Derived.Test.YtgajoiijebbagaaGreatDoorProg
import Derived.Laws.BitsLemmas
import Derived.Laws.BitsAllLaws
import Derived.Lib.QuoteBits
/-! A law for a statement whose order Go leaves open and whose operations only read what was there, while its calls may make new memory: one walk in the order of the text serves every order (the guide's 'wp_region_quiet' at a class of worlds). Conditions: none. -/
namespace Go.Proofs.YtgajoiijebbagaaGreatDoor
open Go Go.RowKit

/-- A world that meets S. -/
structure Lat (S : World → Prop) where
  u : World
  h : S u

theorem Lat.mk_eq {S : World → Prop} {u : World} (h : S u) : ∃ x : Lat S, u = x.u := ⟨⟨u, h⟩, rfl⟩

theorem wp_region_lat {P : Program} (S : World → Prop) {id : Nat} {Q : Exit → Act → World → Prop} {a : Act} {w : World} {l : List Oper} (hm : P.follows .mixedOrders = true) (hB : Region.lexB .any l.toArray = true) (hS : S w.drew)
    (h : wpQuiet P l.toArray (fun w' => ∃ x : Lat S, w' = x.u) (fun a' => ∀ w', (∃ x : Lat S, w' = x.u) → Q .normal a' w') l a) : (Code.region id l.toArray true).wp P Q a w :=
  wp_region_quiet (C := fun w' => ∃ x : Lat S, w' = x.u) hm hB ⟨⟨_, hS⟩, rfl⟩ (by simpa using h)

/-- A contract at a call inside such a statement. -/
theorem Calls.lat {P : Program} {f : FuncId} {args : Array Value} {S : World → Prop} {x : Lat S} {v : Value} {R : Ending → World → Prop}
    (h : Calls P f args x.u R) (hv : ∀ e w', R e w' → e = .returned v ∧ S w') : Calls P f args x.u fun e w'' => e = .returned v ∧ ∃ y : Lat S, w'' = y.u :=
  h.mono fun e w' hr => ⟨(hv e w' hr).1, ⟨w', (hv e w' hr).2⟩, rfl⟩

/-- Below w's end nothing has changed. -/
theorem below_on {w u u' : World} (h : Below w.heap.size w u) (k : Below u.heap.size u u') : Below w.heap.size w u' := h.trans (k.mono h.size)
theorem bcell {W w1 : World} (hb : Below W.heap.size W w1) : (∀ b o, b < W.heap.size → w1.cell? ⟨b, o, none⟩ = W.cell? ⟨b, o, none⟩) ∧ (∀ b o, b < W.heap.size → w1.frozen? ⟨b, o, none⟩ = W.frozen? ⟨b, o, none⟩) :=
  ⟨fun b o h => hb.cell (p := ⟨b, o, none⟩) h, fun b o h => hb.frozen (p := ⟨b, o, none⟩) h⟩
/-- A cell that holds v, in every later world. -/
theorem Lat.cell {w : World} (x : Lat (Below w.heap.size w)) {b o : Nat} {v : Value} (hb : b < w.heap.size) (h : w.cell? ⟨b, o, none⟩ = some v) : x.u.cell? ⟨b, o, none⟩ = some v := by rw [x.h.cell (p := ⟨b, o, none⟩) hb, h]

theorem cell_old {w : World} (o : Obj) {b k : Nat} {v : Value} (hb : b < w.heap.size) (h : w.cell? ⟨b, k, none⟩ = some v) : (w.alloc o).cell? ⟨b, k, none⟩ = some v := by
  rw [((Below.refl w.heap.size w).alloc (Nat.le_refl _) o).cell (p := ⟨b, k, none⟩) hb, h]
theorem cell_below {w w' : World} {b k : Nat} {v : Value} (hw : Below w.heap.size w w') (hb : b < w.heap.size) (h : w.cell? ⟨b, k, none⟩ = some v) : w'.cell? ⟨b, k, none⟩ = some v := by
  rw [hw.cell (p := ⟨b, k, none⟩) hb, h]
/-- The same law at the class 'what was there is unchanged', the world behind a name. -/
theorem wp_region_below {P : Program} {id : Nat} {Q : Exit → Act → World → Prop} {a : Act} {w : World} {l : List Oper} (hm : P.follows .mixedOrders = true) (hB : Region.lexB .any l.toArray = true)
    (h : ∀ W, W = w → wpQuiet P l.toArray (fun w' => ∃ x : Lat (Below W.heap.size W), w' = x.u) (fun a' => ∀ w', (∃ x : Lat (Below W.heap.size W), w' = x.u) → Q .normal a' w') l a) : (Code.region id l.toArray true).wp P Q a w :=
  wp_region_lat (Below w.heap.size w) hm hB (Below.refl _ _).drew (h w rfl)
instance latBelow (W : World) : Nonempty (Lat (Below W.heap.size W)) := ⟨⟨W, Below.refl _ _⟩⟩
/-- A contract that makes memory, or draws, or does neither, at a call inside such a statement. -/
theorem Calls.below {P : Program} {f : FuncId} {args : Array Value} {W : World} {x : Lat (Below W.heap.size W)} {v : Value}
    (h : Calls P f args x.u fun e w' => e = .returned v ∧ Below x.u.heap.size x.u w') : Calls P f args x.u fun e w'' => e = .returned v ∧ ∃ y : Lat (Below W.heap.size W), w'' = y.u :=
  h.mono fun _ w' hr => ⟨hr.1, ⟨w', below_on x.h hr.2⟩, rfl⟩
theorem Calls.same {P : Program} {f : FuncId} {args : Array Value} {W : World} {x : Lat (Below W.heap.size W)} {v : Value}
    (h : Calls P f args x.u fun e w' => e = .returned v ∧ x.u = w') : Calls P f args x.u fun e w'' => e = .returned v ∧ ∃ y : Lat (Below W.heap.size W), w'' = y.u :=
  h.mono fun _ _ hr => ⟨hr.1, x, hr.2.symm⟩

theorem Calls.eqv {P : Program} {f : FuncId} {args : Array Value} {w : World} {v v' : Value} {R : World → Prop} (e : v = v') (h : Calls P f args w fun e w' => e = .returned v ∧ R w') : Calls P f args w fun e w' => e = .returned v' ∧ R w' := e ▸ h

end Go.Proofs.YtgajoiijebbagaaGreatDoor

/-! A second law for a statement whose order Go leaves open: its first n operations only read what was there, and its calls may make new memory; the rest (a store, an append) comes behind them, one by one, in every order. One walk in the order of the text serves every order. Conditions: none. -/
namespace Go.Proofs.YtgajoiijebbagaaGreatDoor
open Go Go.RowKit

section
variable {P : Program} {ops : Array Oper} {md : Region.Mode} {C : World → Prop}

/-- Whatever order is picked for the head's operations, from here on. -/
def anyHead (P : Program) (md : Region.Mode) (ops : Array Oper) (C : World → Prop) (n : Nat) (L : Array Bool → Act → Prop) : Nat → Array Bool → Act → Prop
  | 0, listed, a => L listed a
  | f + 1, listed, a => Region.ready md ops listed ≠ [] ∧ ∀ i ∈ Region.ready md ops listed, i < n ∧ qOp P ops C i (anyHead P md ops C n L f (listed.setIfInBounds i true)) a

theorem wpAny_of_anyHead {n g : Nat} {L : Array Bool → Act → Prop} {Q' : Exit → Act → World → Prop} (hL : ∀ listed a w, C w → L listed a → wpAny P md ops Q' g listed a w) :
    ∀ (f : Nat) (listed : Array Bool) (a : Act) (w : World), C w → anyHead P md ops C n L f listed a → wpAny P md ops Q' (f + g) listed a w
  | 0, _, _, _, hw, h => by rw [Nat.zero_add]; exact hL _ _ _ hw h
  | f + 1, _, _, _, hw, h => by
    rw [Nat.add_right_comm]
    exact ⟨fun h0 => absurd h0 h.1, fun i hi => wpOp_of_qOp hw (fun a' w' hw' h' => wpAny_of_anyHead hL f _ a' w' hw' h') (h.2 i hi).2⟩

/-- An operation of the head that may come up now may be taken first. -/
theorem anyHead_first {n i : Nat} {oi : Oper} {v : Value} {L : Array Bool → Act → Prop} (hi : ops[i]? = some oi) (hsel : ∀ (j : Nat) (o : Oper) cs b, ops[j]? = some o → o.op ≠ .select cs b)
    (hs : Region.sinkB md ops n = true) (hc : Region.chainB md ops n = true) (hn : n < ops.size) (hin : i < n)
    (hdone : ∀ listed a, L listed a → ∀ j ∈ Region.ready md ops listed, n ≤ j) :
    ∀ (f : Nat) (listed : Array Bool) (a : Act), HeadInv md ops n listed →
      (∀ j oj, ops[j]? = some oj → j ≠ i → listed.getD j true = false → (∀ e ∈ oj.after, Region.binds md e = true → e.on ≠ i) → oi.apart ops oj = true) →
      i ∈ Region.ready md ops listed → YieldsIn P ops C oi v a →
      anyHead P md ops C n L f (listed.setIfInBounds i true) (a.put oi.dst v) → anyHead P md ops C n L (f + 1) listed a := by
  intro f
  induction f with
  | zero =>
    intro listed a inv _ hr hy H
    refine ⟨fun h => (by rw [h] at hr; cases hr), fun j hj => ?_⟩
    have hjn : j < n := Classical.byContradiction fun h => tail_waits hs hc hn inv _ i rfl hin (mem_ready.1 hr).1 j (by omega) hj
    refine ⟨hjn, ?_⟩
    by_cases hji : j = i
    · subst hji; exact hy.qOp hi H
    · have := hdone _ _ H j (ready_mono hj hji)
      omega
  | succ f ih =>
    intro listed a inv hfree hr hy H
    have hun := (mem_ready.1 hr).1
    refine ⟨fun h => (by rw [h] at hr; cases hr), fun j hj => ?_⟩
    have hjn : j < n := Classical.byContradiction fun h => tail_waits hs hc hn inv _ i rfl hin hun j (by omega) hj
    refine ⟨hjn, ?_⟩
    by_cases hji : j = i
    · subst hji; exact hy.qOp hi H
    · have h1 := (H.2 j (ready_mono hj hji)).2
      obtain ⟨hjun, oj, hoj, hall⟩ := mem_ready.1 hj
      have hnot : ∀ e ∈ oj.after, Region.binds md e = true → e.on ≠ i := fun e he hb heq => by
        have h1 := hall e he hb
        rw [heq, getD_both hun] at h1
        cases h1
      have h2 := qOp_put hoj (hfree j oj hoj hji hjun hnot) (fun cs b => hsel i oi cs b hi) (fun cs b => hsel j oj cs b hoj) hy h1
      refine qOp_mono (fun a' h3 => ih (listed.setIfInBounds j true) a' (inv.set hj hjn) (fun k ok hk hki hun hno => hfree k ok hk hki ?_ hno) (ready_mono hr (Ne.symm hji)) h3.1 ?_) h2
      · by_cases hjk : j = k
        · subst hjk; exact hjun
        · rw [getD_set_ne true hjk] at hun; exact hun
      · rw [Array.setIfInBounds_comm _ _ hji]
        exact h3.2

theorem anyHead_lex {n g : Nat} {Lq : Act → Prop} (hsel : Region.noSelect ops = true) (hs : Region.sinkB md ops n = true) (hc : Region.chainB md ops n = true) (hn : n < ops.size) :
    ∀ (l : List Oper) (k : Nat) (listed : Array Bool) (a : Act), (∀ j, j < l.length → l[j]? = ops[k + j]?) → k + l.length = n → HeadInv md ops n listed →
    Region.lexHead md ops g l.length k listed = true → wpQuiet P ops C Lq l a →
    anyHead P md ops C n (fun listed' a' => Region.seqB md ops g n listed' = true ∧ Lq a') l.length listed a
  | [], k, _, _, _, hk, _, hB, h => by
    obtain rfl : k = n := by simpa using hk
    exact ⟨by simpa [Region.lexHead] using hB, h⟩
  | o :: l, k, listed, a, hl, hk, inv, hB, h => by
    have h0 : ops[k]? = some o := by simpa using (hl 0 (by simp)).symm
    simp only [List.length_cons, Region.lexHead, Bool.and_eq_true] at hB hk
    obtain ⟨⟨hr, hf⟩, hB'⟩ := hB
    have hr' : k ∈ Region.ready md ops listed := by simpa using hr
    have hst : qOp P ops C k (wpQuiet P ops C Lq l) a := by unfold qOp; simp only [h0]; exact h
    obtain ⟨v, hy, hK⟩ := yieldsIn_of_qOp h0 hst
    exact anyHead_first h0 (Region.noSelect_spec hsel) hs hc hn (by omega) (fun listed' a' hL => seqB_ready hL.1) l.length listed a inv (Region.free_spec h0 hf) hr' hy
      (anyHead_lex hsel hs hc hn l (k + 1) _ _ (fun j hj => by have := hl (j + 1) (by simp; omega); simpa [Nat.add_assoc, Nat.add_comm 1 j] using this) (by omega) (inv.set hr' (by omega)) hB' hK)

/-- THE LAW, at any class of worlds. -/
theorem wp_region_quiet_tail {id : Nat} {Q : Exit → Act → World → Prop} {a : Act} {w : World} {l : List Oper} (n : Nat) (hm : P.follows .mixedOrders = true) (hB : Region.lexTailB .any l.toArray n = true) (hC : C w.drew)
    (h : wpQuiet P l.toArray C (fun a' => ∀ w', C w' → wpList P l.toArray Q (l.drop n) a' w') (l.take n) a) : (Code.region id l.toArray true).wp P Q a w := by
  simp only [Region.lexTailB, Bool.and_eq_true, decide_eq_true_eq] at hB
  obtain ⟨⟨⟨⟨hsel, hn⟩, hs⟩, hc⟩, hlex⟩ := hB
  have hn' : n < l.length := by simpa using hn
  have htl : (l.take n).length = n := by simp; omega
  have hdl : (l.drop n).length = l.toArray.size - n := by simp
  have inv0 : HeadInv .any l.toArray n (Array.replicate l.toArray.size false) :=
    ⟨by simp, fun j oj _ hl => (by rw [getD_replicate_false] at hl; cases hl), fun t _ ht => getD_in (by simpa using ht) (getD_replicate_false _ _)⟩
  have H := anyHead_lex (md := .any) (g := l.toArray.size - n) hsel hs hc hn (l.take n) 0 _ a (fun j hj => by
    have hj' : j < n := by rw [htl] at hj; exact hj
    simp [hj']) (by simpa using htl) inv0 (by rw [htl]; exact hlex) h
  refine wp_region_any hm ?_
  have := wpAny_of_anyHead (Q' := Q) (g := l.toArray.size - n) (fun listed a' w' hw' hL => by
    have := wpAny_of_seq (md := .any) (Q' := Q) (l.drop n) n listed a' w' (fun j => by simp [List.getElem?_drop]) (by rw [hdl]; exact hL.1) (hL.2 w' hw')
    rwa [hdl] at this) _ _ _ _ hC H
  rw [htl, show n + (l.toArray.size - n) = l.toArray.size by omega] at this
  exact this
end

/-- The same at the class 'the world after some draws'. -/
theorem wp_region_drew_tail {P : Program} {id : Nat} {Q : Exit → Act → World → Prop} {a : Act} {w : World} {l : List Oper} (n : Nat) (hm : P.follows .mixedOrders = true) (hB : Region.lexTailB .any l.toArray n = true)
    (h : wpQuiet P l.toArray (fun w' => ∃ k, w' = w.drewN k) (fun a' => ∀ w', (∃ k, w' = w.drewN k) → wpList P l.toArray Q (l.drop n) a' w') (l.take n) a) : (Code.region id l.toArray true).wp P Q a w :=
  wp_region_quiet_tail (C := fun w' => ∃ k, w' = w.drewN k) n hm hB ⟨1, rfl⟩ h
/-- The same at the class 'what was there is unchanged', the world behind a name. -/
theorem wp_region_below_tail {P : Program} {id : Nat} {Q : Exit → Act → World → Prop} {a : Act} {w : World} {l : List Oper} (n : Nat) (hm : P.follows .mixedOrders = true) (hB : Region.lexTailB .any l.toArray n = true)
    (h : ∀ W, W = w → wpQuiet P l.toArray (fun w' => ∃ x : Lat (Below W.heap.size W), w' = x.u) (fun a' => ∀ w', (∃ x : Lat (Below W.heap.size W), w' = x.u) → wpList P l.toArray Q (l.drop n) a' w') (l.take n) a) : (Code.region id l.toArray true).wp P Q a w :=
  wp_region_quiet_tail (C := fun w' => ∃ x : Lat (Below w.heap.size w), w' = x.u) n hm hB ⟨⟨_, (Below.refl _ _).drew⟩, rfl⟩ (h w rfl)

end Go.Proofs.YtgajoiijebbagaaGreatDoor

/-! The walks of the functions on addresses and prefixes that only compute: Valid, pick, size, NetOf, host, ValidPrefix, Contains, Last (of the program and of the reference). Each contract says what the call returns and that what was there before it is unchanged. Conditions: integers are 64-bit. -/
namespace Go.Proofs.YtgajoiijebbagaaGreatDoor
open Go.RowKit

theorem ret_bool {a b : Bool} (h : a = b) : Ending.returned (.bool a) = .returned (.bool b) := by rw [h]
theorem ret_int {k : IntKind} {a b : Int} (h : a = b) : Ending.returned (.int k a) = .returned (.int k b) := by rw [h]

set_option maxHeartbeats 400000 in
theorem valid_any (a : Int) (w : World) : Calls Tryz.prog 23 #[.int .i64 a] w fun e w' => e = .returned (.bool (Pa.validB a)) ∧ w = w' := by
  by_cases h0 : 0 ≤ a
  · have hd : decide (0 ≤ a) = true := by simpa using h0
    go_enter Tryz.func23, Tryz.ntmps23
    go_wp2
    go_ret
    exact ⟨ret_bool (by simp [Pa.validB, h0]), rfl⟩
  · have hn : Pa.validB a = false := by rw [Pa.validB_false]; omega
    have HN := Lib.hid hn; clear hn
    have hd : decide (0 ≤ a) = false := by simpa using h0
    go_enter Tryz.func23, Tryz.ntmps23
    go_wp2
    go_ret
    exact ⟨ret_bool HN.out.symm, rfl⟩

set_option maxHeartbeats 400000 in
theorem refValid_any (a : Int) (w : World) : Calls Tryz.prog 54 #[.int .i64 a] w fun e w' => e = .returned (.bool (Pa.validB a)) ∧ w = w' := by
  by_cases h0 : 0 ≤ a
  · have hd : decide (0 ≤ a) = true := by simpa using h0
    go_enter Tryz.func54, Tryz.ntmps54
    go_wp2
    go_ret
    exact ⟨ret_bool (by simp [Pa.validB, h0]), rfl⟩
  · have hn : Pa.validB a = false := by rw [Pa.validB_false]; omega
    have HN := Lib.hid hn; clear hn
    have hd : decide (0 ≤ a) = false := by simpa using h0
    go_enter Tryz.func54, Tryz.ntmps54
    go_wp2
    go_ret
    exact ⟨ret_bool HN.out.symm, rfl⟩

end Go.Proofs.YtgajoiijebbagaaGreatDoor

/-! Bit operations on 64-bit integers that are not negative, as arithmetic: masks of low bits. Conditions: as each says. -/
namespace Go.Proofs.YtgajoiijebbagaaGreatDoor.Pa
open Go

theorem wraps_i64 (n : Int) (h₀ : 0 ≤ n) (h₁ : n < 2 ^ 62) : IntKind.i64.wrap n = n := by rw [IntKind.wrap_i64]; omega
theorem and_mask (x : Int) (i : Nat) (hi : i ≤ 62) (h0 : 0 ≤ x) (h1 : x < 2 ^ 62) : bits .and .i64 x (2 ^ i - 1) = x % 2 ^ i :=
  bits_mask .i64 62 (by decide) wraps_i64 i hi x h0 h1
theorem or_join (x y : Int) (i : Nat) (hx₀ : 0 ≤ x) (hx : x % 2 ^ i = 0) (hx₁ : x < 2 ^ 62) (hy₀ : 0 ≤ y) (hy : y < 2 ^ i) (hy₁ : y < 2 ^ 62) : bits .or .i64 x y = x + y :=
  bits_join .i64 62 (by decide) wraps_i64 i x y hx₀ hx hx₁ hy₀ hy hy₁
end Go.Proofs.YtgajoiijebbagaaGreatDoor.Pa

/-! The walks of NetOf, host, ValidPrefix, Contains, Last (of the program). Each contract says what the call returns and that what was there before it is unchanged. Conditions: integers are 64-bit. -/
namespace Go.Proofs.YtgajoiijebbagaaGreatDoor
open Go.RowKit

end Go.Proofs.YtgajoiijebbagaaGreatDoor

/-! The walks of Last and NetOf, and of the reference's ValidPrefix, Contains and Last. Each contract says what the call returns and that what was there before it is unchanged. Conditions: integers are 64-bit. -/
namespace Go.Proofs.YtgajoiijebbagaaGreatDoor
open Go.RowKit

end Go.Proofs.YtgajoiijebbagaaGreatDoor

/-! The walks of Last and NetOf, and of the reference's Contains and Last. Each contract says what the call returns and that what was there before it is unchanged. Conditions: integers are 64-bit. -/
namespace Go.Proofs.YtgajoiijebbagaaGreatDoor
open Go.RowKit

end Go.Proofs.YtgajoiijebbagaaGreatDoor

/-! The walks of the reference's Digits, Number, Format and FormatPrefix. Each contract says what the call returns and that what was there before it is unchanged. Conditions: integers are 64-bit. -/
namespace Go.Proofs.YtgajoiijebbagaaGreatDoor
open Go.RowKit

theorem ret_str {a b : List UInt8} (h : a = b) : Ending.returned (.string ⟨a.toArray⟩) = .returned (.string ⟨b.toArray⟩) := by rw [h]

theorem Pa.dig_len : ∀ n : Nat, (Pa.dig n).length ≤ n + 1 := by
  intro n
  induction n using Nat.strongRecOn with
  | _ n ih =>
    by_cases h : n < 10
    · rw [Pa.dig_small h]; simp
    · have := ih (n / 10) (by omega)
      rw [Pa.dig_big h, List.length_append]; simp; omega

/-- string([]byte{c}). -/
theorem conv1 (w : World) (n : Int) : (convert 40 9 (.slice (some ⟨w.heap.size, 0, none⟩) 1 1)).run Tryz.prog (w.alloc (.cells #[.int .u8 n] 5)) = .ok (.string ⟨#[UInt8.ofNat n.toNat]⟩) (w.alloc (.cells #[.int .u8 n] 5)) :=
  run_convert_bytes_arg _ 40 5 Tryz.underlying40 Tryz.underlying5 _ 0 1 1 [n] rfl (by
    intro i hi
    obtain rfl : i = 0 := by omega
    simp) 9 Tryz.underlying9

set_option maxHeartbeats 400000 in
theorem digits_small (n : Int) (w : World) (h0 : 0 ≤ n) (h1 : n < 10) :
    Calls Tryz.prog 72 #[.int .i64 n] w fun e w' => e = .returned (.string ⟨(Pa.dig n.toNat).toArray⟩) ∧ Below w.heap.size w w' := by
  have hcv := conv1
  go_enter Tryz.func72, Tryz.ntmps72
  go_wp2_with fail
  go_ret
  refine ⟨?_, (Below.refl _ _).alloc (Nat.le_refl _) _⟩
  refine ret_str (a := [UInt8.ofNat (48 + n % 10).toNat]) ?_
  rw [Pa.dig_small (by omega), show (48 + n % 10).toNat = 48 + n.toNat by omega]

set_option maxHeartbeats 400000 in
theorem digits_big (n : Int) (w : World) (h0 : 10 ≤ n) (h1 : n ≤ 9223372036854775807) (ih : ∀ w, Calls Tryz.prog 72 #[.int .i64 (n / 10)] w fun e w' => e = .returned (.string ⟨(Pa.dig (n / 10).toNat).toArray⟩) ∧ Below w.heap.size w w') :
    Calls Tryz.prog 72 #[.int .i64 n] w fun e w' => e = .returned (.string ⟨(Pa.dig n.toNat).toArray⟩) ∧ Below w.heap.size w w' := by
  have IH := Lib.hid ih; clear ih
  have hd := Pa.dig_big (n := n.toNat) (by omega)
  have HD := Lib.hid hd; clear hd
  have hcv := conv1
  go_enter Tryz.func72, Tryz.ntmps72
  go_wp2_with fail
  refine (IH.out _).mono ?_
  rintro e w1 ⟨rfl, hb⟩
  have hl := Pa.dig_len (n / 10).toNat
  have hl2 : (Pa.dig (n / 10).toNat).length + 1 ≤ 9223372036854775807 := by omega
  go_wp2_with fail
  go_ret
  refine ⟨?_, below_on ((Below.refl _ _).alloc (Nat.le_refl _) _) hb⟩
  rw [HD.out, show n.toNat / 10 = (n / 10).toNat by omega, show 48 + n.toNat % 10 = (48 + n % 10).toNat by omega]
  rfl

theorem digits_any : ∀ (k : Nat) (n : Int) (w : World), n.toNat = k → 0 ≤ n → n ≤ 9223372036854775807 →
    Calls Tryz.prog 72 #[.int .i64 n] w fun e w' => e = .returned (.string ⟨(Pa.dig n.toNat).toArray⟩) ∧ Below w.heap.size w w' := by
  intro k
  induction k using Nat.strongRecOn with
  | _ k ih =>
    intro n w hk h0 h1
    by_cases h : n < 10
    · exact digits_small n w h0 h
    · exact digits_big n w (by omega) h1 (fun w => ih (n / 10).toNat (by omega) (n / 10) w rfl (by omega) (by omega))
theorem digits (n : Int) (w : World) (h0 : 0 ≤ n) (h1 : n ≤ 9223372036854775807) :
    Calls Tryz.prog 72 #[.int .i64 n] w fun e w' => e = .returned (.string ⟨(Pa.dig n.toNat).toArray⟩) ∧ Below w.heap.size w w' := digits_any n.toNat n w rfl h0 h1

end Go.Proofs.YtgajoiijebbagaaGreatDoor

/-! The walks of the reference's Format and FormatPrefix. Each contract says what the call returns and that what was there before it is unchanged. Conditions: integers are 64-bit. -/
namespace Go.Proofs.YtgajoiijebbagaaGreatDoor
open Go.RowKit

theorem ret_strE {s t : ByteArray} {n m : Int} (h : s = t) (h' : n = m) : Ending.returned (.tuple #[.string s, .int .i64 n]) = .returned (.tuple #[.string t, .int .i64 m]) := by rw [h, h']
theorem app (a b : List UInt8) : ((⟨a.toArray⟩ : ByteArray) ++ (⟨b.toArray⟩ : ByteArray)) = ⟨(a ++ b).toArray⟩ := by
  apply ByteArray.ext
  rw [ByteArray.data_append]
  simp

set_option maxHeartbeats 400000 in
theorem refFormat_any (a : Int) (w : World) :
    Calls Tryz.prog 87 #[.int .i64 a] w fun e w' => e = .returned (.tuple #[.string ⟨(Pa.fmtS a).toArray⟩, .int .i64 (Pa.errB (Pa.validB a))]) ∧ Below w.heap.size w w' := by
  cases hv : Pa.validB a with
  | false =>
    have hf : Pa.fmtS a = [] := by unfold Pa.fmtS; rw [hv]; rfl
    have HF := Lib.hid hf; clear hf
    go_enter Tryz.func87, Tryz.ntmps87
    go_wp2_with (go_at_call 54; refine (refValid_any _ _).mono ?_; rintro e w' ⟨rfl, rfl⟩)
    go_ret2
    refine ⟨?_, Below.refl _ _⟩
    rw [HF.out]; rfl
  | true =>
    obtain ⟨h0, h1⟩ := Pa.validB_true.1 hv
    have hf : Pa.fmtS a = Pa.fmtL a := by unfold Pa.fmtS; rw [hv]; rfl
    have HF := Lib.hid hf; clear hf
    have o0 : Pa.oct a 0 = (a / 16777216).toNat := by unfold Pa.oct; simp only [Nat.reduceSub, Nat.reducePow]; omega
    have o1 : Pa.oct a 1 = (a / 65536 % 256).toNat := by unfold Pa.oct; simp only [Nat.reduceSub, Nat.reducePow]; omega
    have o2 : Pa.oct a 2 = (a / 256 % 256).toNat := by unfold Pa.oct; simp only [Nat.reduceSub, Nat.reducePow]; omega
    have o3 : Pa.oct a 3 = (a % 256).toNat := by unfold Pa.oct; simp only [Nat.reduceSub, Nat.reducePow]; omega
    have O0 := Lib.hid o0; have O1 := Lib.hid o1; have O2 := Lib.hid o2; have O3 := Lib.hid o3; clear o0 o1 o2 o3
    have l0 := Pa.dig_length (n := (a / 16777216).toNat) (by omega)
    have l1 := Pa.dig_length (n := (a / 65536 % 256).toNat) (by omega)
    have l2 := Pa.dig_length (n := (a / 256 % 256).toNat) (by omega)
    have l3 := Pa.dig_length (n := (a % 256).toNat) (by omega)
    go_enter Tryz.func87, Tryz.ntmps87
    go_wp2_with (go_at_call 54; refine (refValid_any _ _).mono ?_; rintro e w' ⟨rfl, rfl⟩)
    refine (digits _ _ (by omega) (by omega)).mono ?_
    rintro e w1 ⟨rfl, hb1⟩
    have B1 := Lib.hid hb1; clear hb1
    go_wp2_with fail
    refine (digits _ _ (by omega) (by omega)).mono ?_
    rintro e w2 ⟨rfl, hb2⟩
    have B2 := Lib.hid hb2; clear hb2
    go_wp2_with fail
    refine (digits _ _ (by omega) (by omega)).mono ?_
    rintro e w3 ⟨rfl, hb3⟩
    have B3 := Lib.hid hb3; clear hb3
    go_wp2_with fail
    refine (digits _ _ (by omega) (by omega)).mono ?_
    rintro e w4 ⟨rfl, hb4⟩
    have B4 := Lib.hid hb4; clear hb4
    go_wp2_with fail
    go_ret2
    refine ⟨?_, below_on (below_on (below_on B1.out B2.out) B3.out) B4.out⟩
    refine ret_strE ?_ rfl
    rw [HF.out]
    unfold Pa.fmtL
    rw [O0.out, O1.out, O2.out, O3.out, app _ [46], app, app _ [46], app, app _ [46], app]
    simp

end Go.Proofs.YtgajoiijebbagaaGreatDoor

/-! The walks of addr.number and of the reference's Number. Each contract says what the call returns and that what was there before it is unchanged. Conditions: integers are 64-bit; the greatest number asked for is below 1000. -/
namespace Go.Proofs.YtgajoiijebbagaaGreatDoor
open Go.RowKit

def Pa.numV (l : Pa.Bs) (most : Nat) : Int := match Pa.numL l most with | some n => n | none => 0
def Pa.numOk (l : Pa.Bs) (most : Nat) : Bool := (Pa.numL l most).isSome
theorem Pa.num_none {l : Pa.Bs} {most : Nat} (h : Pa.numL l most = none) : Pa.numV l most = 0 ∧ Pa.numOk l most = false := by simp [Pa.numV, Pa.numOk, h]
theorem Pa.num_some {l : Pa.Bs} {most n : Nat} (h : Pa.numL l most = some n) : Pa.numV l most = n ∧ Pa.numOk l most = true := by simp [Pa.numV, Pa.numOk, h]
theorem ret_intB {a b : Int} {x y : Bool} (h : a = b) (h' : x = y) : Ending.returned (.tuple #[.int .i64 a, .bool x]) = .returned (.tuple #[.int .i64 b, .bool y]) := by rw [h, h']

theorem take_snoc (s : ByteArray) (k : Nat) (h : k < s.size) : s.data.toList.take (k + 1) = s.data.toList.take k ++ [s[k]] := by
  rw [List.take_succ_eq_append_getElem (by simpa using h)]; rfl

theorem str_empty {s : ByteArray} (h : s.size = 0) : s.toList = [] := by
  rw [ByteArray.toList_eq]; exact List.length_eq_zero_iff.1 (by simpa using h)
theorem str_ne {s : ByteArray} (h : s.size ≠ 0) : ¬ s.toList = [] := by
  rw [ByteArray.toList_eq]; intro e; apply h; have := congrArg List.length e; simpa using this
theorem str_isEmpty {s : ByteArray} (h : s.size ≠ 0) : s.toList.isEmpty = false := by
  have := str_ne h
  cases e : s.toList with
  | nil => exact absurd e this
  | cons a b => rfl
theorem size_len (s : ByteArray) : s.data.toList.length = s.size := rfl

theorem Pa.val_three (l : Pa.Bs) (h : l.all Pa.isD = true) (hl : l.length ≤ 3) : Pa.val l ≤ 999 := by
  have := Pa.val_lt l h
  have : 10 ^ l.length ≤ 10 ^ 3 := Nat.pow_le_pow_right (by omega) hl
  omega

theorem Pa.all_snoc (l : Pa.Bs) (c : UInt8) : (l ++ [c]).all Pa.isD = (l.all Pa.isD && Pa.isD c) := by simp
theorem Pa.bad_at {s : ByteArray} {k : Nat} (h : k < s.size) (hc : Pa.isD s[k] = false) : s.data.toList.all Pa.isD = false := by
  rw [Bool.eq_false_iff]
  intro ha
  have hl : k < s.data.toList.length := by rw [size_len]; exact h
  have := List.all_eq_true.1 ha _ (List.getElem_mem hl)
  have e : s.data.toList[k] = s[k] := rfl
  rw [e, hc] at this
  cases this
theorem Pa.isD_low {c : UInt8} (h : (c.toNat : Int) < 48) : Pa.isD c = false := by rw [Bool.eq_false_iff]; intro e; have := (Pa.isD_iff c).1 e; omega
theorem Pa.isD_high {c : UInt8} (h : 57 < (c.toNat : Int)) : Pa.isD c = false := by rw [Bool.eq_false_iff]; intro e; have := (Pa.isD_iff c).1 e; omega
theorem Pa.isD_mid {c : UInt8} (h : 48 ≤ (c.toNat : Int)) (h' : (c.toNat : Int) ≤ 57) : Pa.isD c = true := by rw [Pa.isD_iff]; omega

set_option maxHeartbeats 400000 in
theorem number_none (s : ByteArray) (most : Nat) (w : World) (h : s.size = 0 ∨ 3 < s.size ∨ 1 < s.size ∧ ∃ h : 0 < s.size, s[0] = 48) (hn : Pa.numL s.data.toList most = none) :
    Calls Tryz.prog 132 #[.string s, .int .i64 most] w fun e w' => e = .returned (.tuple #[.int .i64 (Pa.numV s.data.toList most), .bool (Pa.numOk s.data.toList most)]) ∧ w = w' := by
  have hv := (Pa.num_none hn).1
  have hk := (Pa.num_none hn).2
  have HV := Lib.hid hv; have HK := Lib.hid hk; clear hv hk hn
  by_cases h0 : s.size = 0
  · have he := str_empty h0
    clear h h0
    go_enter Tryz.func132, Tryz.ntmps132
    go_wp2
    go_ret2
    exact ⟨ret_intB HV.out.symm HK.out.symm, rfl⟩
  · have he := str_ne h0
    have he' := str_isEmpty h0
    by_cases h3 : 3 < s.size
    · clear h
      have h3' : decide (3 < (s.size : Int)) = true := by simp; omega
      go_enter Tryz.func132, Tryz.ntmps132
      go_wp2
      go_ret2
      exact ⟨ret_intB HV.out.symm HK.out.symm, rfl⟩
    · have h1 : 1 < s.size := by omega
      have hp : 0 < s.size := by omega
      have hz : s[0] = 48 := by rcases h with h | h | ⟨_, _, h⟩ <;> first | omega | exact h
      clear h h0
      have h3' : decide (3 < (s.size : Int)) = false := by simp; omega
      have h1' : decide (1 < (s.size : Int)) = true := by simp; omega
      have hb : ((s[0].toNat : Int) == 48) = true := by rw [hz]; rfl
      clear hz
      go_enter Tryz.func132, Tryz.ntmps132
      go_wp2
      go_ret2
      exact ⟨ret_intB HV.out.symm HK.out.symm, rfl⟩

set_option maxHeartbeats 400000 in
theorem number_loop (s : ByteArray) (most : Nat) (w : World) (_hm : most < 1000) (h0 : s.size ≠ 0) (h3 : s.size ≤ 3) (hz : 1 < s.size → ∀ h : 0 < s.size, s[0] ≠ 48) :
    Calls Tryz.prog 132 #[.string s, .int .i64 most] w fun e w' => e = .returned (.tuple #[.int .i64 (Pa.numV s.data.toList most), .bool (Pa.numOk s.data.toList most)]) ∧ w = w' := by
  have he := str_ne h0
  have he' := str_isEmpty h0
  have hp : 0 < s.size := by omega
  have h3' : decide (3 < (s.size : Int)) = false := by simp; omega
  have hb : 1 < s.size → ((s[0].toNat : Int) == 48) = false := fun h => by
    rw [beq_eq_false_iff_ne]
    intro e
    exact hz h hp (UInt8.toNat_inj.1 (by simpa using (show s[0].toNat = 48 by omega)))
  have hzz : ∀ t, s.data.toList = 48 :: t → t = [] := by
    intro t e
    by_cases h1 : 1 < s.size
    · exfalso
      apply hz h1 hp
      have : s.data.toList[0]? = some s[0] := Lib.data_getElem? s 0 hp
      rw [e] at this
      simpa using this.symm
    · have := congrArg List.length e
      rw [size_len, List.length_cons] at this
      exact List.length_eq_zero_iff.1 (by omega)
  have HZZ := Lib.hid hzz; have HE := Lib.hid h0
  clear hz h0 hzz
  by_cases h1 : 1 < s.size
  all_goals
    first
    | (have h1' : decide (1 < (s.size : Int)) = true := by simp; omega
       have hb' := hb h1)
    | have h1' : decide (1 < (s.size : Int)) = false := by simp; omega
    clear hb
    go_enter Tryz.func132, Tryz.ntmps132
    go_wp2
    go_loop [6, 27] (fun n i => ∃ k : Nat, k ≤ s.size ∧ i = .int .i64 k ∧ n = .int .i64 ((Pa.val (s.data.toList.take k) : Nat) : Int) ∧ (s.data.toList.take k).all Pa.isD = true) (fun _ i => s.size - (intOf i).toNat)
    case atStart => exact ⟨0, Nat.zero_le _, rfl, rfl, rfl⟩
    case round =>
      obtain ⟨k, hk, rfl, rfl, hall⟩ := hrel
      have hv := Pa.val_three _ hall (by rw [List.length_take]; have := size_len s; omega)
      have HALL := Lib.hid hall; clear hall
      by_cases hlt : k < s.size
      · go_wp2
        · have h48 : 48 ≤ (s[k].toNat : Int) := by assumption
          have hc : (s[k].toNat : Int) < 48 ∨ 57 < (s[k].toNat : Int) := by assumption
          go_ret2
          have hn := Pa.num_none (Pa.numL_bad (most := most) (Pa.bad_at hlt (Pa.isD_high (by omega))))
          exact ⟨ret_intB hn.1.symm hn.2.symm, rfl⟩
        · have hc : 48 ≤ (s[k].toNat : Int) ∧ (s[k].toNat : Int) ≤ 57 := by assumption
          go_round
          case rel =>
            refine ⟨k + 1, by omega, by go_num, ?_, ?_⟩
            · rw [take_snoc s k hlt, Pa.val_snoc]
              go_num
            · rw [take_snoc s k hlt, Pa.all_snoc, HALL.out, Pa.isD_mid hc.1 hc.2]; rfl
          case measure => simp [intOf]; omega
        · have hc : (s[k].toNat : Int) < 48 := by assumption
          go_ret2
          have hn := Pa.num_none (Pa.numL_bad (most := most) (Pa.bad_at hlt (Pa.isD_low hc)))
          exact ⟨ret_intB hn.1.symm hn.2.symm, rfl⟩
      · have hke : s.data.toList.take k = s.data.toList := List.take_of_length_le (by rw [size_len]; omega)
        rw [hke] at hv HALL ⊢
        clear hke
        have hne : s.data.toList ≠ [] := fun e => HE.out (by rw [← size_len, e]; rfl)
        by_cases hle : Pa.val s.data.toList ≤ most
        · have hn := Pa.num_some (Pa.numL_good HALL.out hne HZZ.out hle)
          have HN := Lib.hid hn; clear hn
          go_wp2
          go_ret2
          exact ⟨ret_intB HN.out.1.symm HN.out.2.symm, rfl⟩
        · have hn := Pa.num_none (Pa.numL_big (l := s.data.toList) (most := most) (by omega))
          have HN := Lib.hid hn; clear hn
          go_wp2
          go_ret2
          exact ⟨ret_intB HN.out.1.symm HN.out.2.symm, rfl⟩

theorem number_any (s : ByteArray) (most : Nat) (w : World) (hm : most < 1000) :
    Calls Tryz.prog 132 #[.string s, .int .i64 most] w fun e w' => e = .returned (.tuple #[.int .i64 (Pa.numV s.data.toList most), .bool (Pa.numOk s.data.toList most)]) ∧ w = w' := by
  by_cases h0 : s.size = 0
  · refine number_none s most w (Or.inl h0) ?_
    rw [show s.data.toList = [] from List.length_eq_zero_iff.1 (by rw [size_len]; exact h0)]
    exact Pa.numL_nil most
  · by_cases h3 : 3 < s.size
    · exact number_none s most w (Or.inr (Or.inl h3)) (Pa.numL_long hm (by rw [size_len]; exact h3))
    · by_cases hz : 1 < s.size ∧ ∃ h : 0 < s.size, s[0] = 48
      · refine number_none s most w (Or.inr (Or.inr hz)) ?_
        obtain ⟨h1, hp, e⟩ := hz
        have h' : s.data.toList[0]? = some s[0] := Lib.data_getElem? s 0 hp
        cases hl : s.data.toList with
        | nil => have := congrArg List.length hl; rw [size_len] at this; exact absurd this h0
        | cons c t =>
          rw [hl] at h'
          obtain rfl : c = 48 := by rw [← e]; simpa using h'
          refine Pa.numL_zero fun ht => ?_
          subst ht
          have := congrArg List.length hl; rw [size_len] at this; simp at this; omega
      · exact number_loop s most w hm h0 (by omega) (fun h1 h e => hz ⟨h1, h, e⟩)

end Go.Proofs.YtgajoiijebbagaaGreatDoor
