/-
  A law for a statement whose order Go leaves open and that ends in one last operation (a store) which waits for all others: an operation that yields its value in every world that meets S may be taken first, and S need not hold behind the last operation. Conditions: none.
-/
import Derived.OrdersHeld
import Derived.Test.YtgajoiijebbagaaGreatDoorWa
namespace Go.Proofs.YtgajoiijebbagaaGreatDoor
open Go Go.RowKit

section
variable {P : Program} {ops : Array Oper} {Q : Exit → Act → World → Prop} {md : Region.Mode} {S : World → Prop} {z : Nat}

/-- Whatever order is picked from here on; S holds behind each operation ahead of number z. -/
def anyG (P : Program) (md : Region.Mode) (ops : Array Oper) (Q : Exit → Act → World → Prop) (S : World → Prop) (z : Nat) : Nat → Array Bool → Act → World → Prop
  | 0, listed, a, w => Region.ready md ops listed = [] ∧ Q .normal a w
  | fuel + 1, listed, a, w => (Region.ready md ops listed = [] → Q .normal a w) ∧
    ∀ i ∈ Region.ready md ops listed, wpOp P ops Q i (fun a' w' => ((listed.setIfInBounds i true).getD z true = false → S w') ∧ anyG P md ops Q S z fuel (listed.setIfInBounds i true) a' w') a w

theorem any_of_anyG : ∀ (fuel : Nat) (listed : Array Bool) (a : Act) (w : World), anyG P md ops Q S z fuel listed a w → wpAny P md ops Q fuel listed a w
  | 0, _, _, _, h => h
  | fuel + 1, _, _, _, h => ⟨h.1, fun i hi => wpOp_mono (fun a' w' h' => any_of_anyG fuel _ a' w' h'.2) (h.2 i hi)⟩

theorem anyG_first {i : Nat} {oi oz : Oper} {v : Value} (hi : ops[i]? = some oi) (hz : ops[z]? = some oz) (hzi : ∃ e ∈ oz.after, Region.binds md e = true ∧ e.on = i) (hsel : ∀ (j : Nat) (o : Oper) cs b, ops[j]? = some o → o.op ≠ .select cs b)
    (hQ : ∀ c a w, Q (.panic c) (a.put oi.dst v) w → Q (.panic c) a w) :
    ∀ (fuel : Nat) (listed : Array Bool) (a : Act) (w : World),
      (∀ j oj, ops[j]? = some oj → j ≠ i → listed.getD j true = false → (∀ e ∈ oj.after, Region.binds md e = true → e.on ≠ i) → oi.apart ops oj = true) →
      listed.getD z true = false → z ≠ i → i ∈ Region.ready md ops listed → YieldsIf P ops S oi v a → S w →
      anyG P md ops Q S z fuel (listed.setIfInBounds i true) (a.put oi.dst v) w → anyG P md ops Q S z (fuel + 1) listed a w := by
  intro fuel
  induction fuel with
  | zero =>
    intro listed a w _ _ _ hr hy hS H
    refine ⟨fun h => (by rw [h] at hr; cases hr), fun j hj => ?_⟩
    by_cases hji : j = i
    · subst hji; exact hy.wpOp hi hS ⟨fun _ => hS, H⟩
    · have := ready_mono hj hji
      rw [H.1] at this
      cases this
  | succ fuel ih =>
    intro listed a w hfree hlz hzne hr hy hS H
    refine ⟨fun h => (by rw [h] at hr; cases hr), fun j hj => ?_⟩
    by_cases hji : j = i
    · subst hji; exact hy.wpOp hi hS ⟨fun _ => hS, H⟩
    · have h1 := H.2 j (ready_mono hj hji)
      obtain ⟨hjun, oj, hoj, hall⟩ := mem_ready.1 hj
      have hnot : ∀ e ∈ oj.after, Region.binds md e = true → e.on ≠ i := fun e he hb heq => by
        have h1 := hall e he hb
        have h0 := (mem_ready.1 hr).1
        rw [heq] at h1
        rcases Nat.lt_or_ge i listed.size with h' | h'
        · simp [h'] at h0 h1; rw [h0] at h1; cases h1
        · simp [Array.getElem?_eq_none h'] at h1
      have hjz : j ≠ z := fun e => by
        subst e
        obtain ⟨e, he, hb, hon⟩ := hzi
        rw [hz] at hoj
        cases hoj
        exact hnot e he hb hon
      have hlz' : (listed.setIfInBounds j true).getD z true = false := by rw [getD_set_ne true hjz]; exact hlz
      have hlz2 : ((listed.setIfInBounds i true).setIfInBounds j true).getD z true = false := by
        rw [getD_set_ne true hjz, getD_set_ne true (Ne.symm hzne)]; exact hlz
      have h2 := wpOp_putIf hoj (hfree j oj hoj hji hjun hnot) (fun cs b => hsel i oi cs b hi) (fun cs b => hsel j oj cs b hoj) hQ hy h1
      have hfree' : ∀ k ok, ops[k]? = some ok → k ≠ i → (listed.setIfInBounds j true).getD k true = false →
          (∀ e ∈ ok.after, Region.binds md e = true → e.on ≠ i) → oi.apart ops ok = true := fun k ok hk hki hun hno => by
        refine hfree k ok hk hki ?_ hno
        by_cases hjk : j = k
        · subst hjk; exact hjun
        · rw [getD_set_ne true hjk] at hun; exact hun
      refine wpOp_mono (fun a' w' h3 => ⟨fun _ => h3.2.1 hlz2, ih (listed.setIfInBounds j true) a' w' hfree' hlz' hzne (ready_mono hr (Ne.symm hji)) h3.1 (h3.2.1 hlz2) ?_⟩) h2
      rw [Array.setIfInBounds_comm _ _ hji]
      exact h3.2.2

/-- The side conditions of taking number i first, to be reckoned. -/
def takeB (md : Region.Mode) (ops : Array Oper) (listed : Array Bool) (z i : Nat) : Bool :=
  Region.noSelect ops && Region.free md ops listed i && (Region.ready md ops listed).contains i && decide (z ≠ i) && !(listed.getD z true) &&
  (match ops[z]? with | some o => o.after.any fun e => Region.binds md e && decide (e.on = i) | none => false)

theorem anyG_take {i : Nat} {oi : Oper} {v : Value} {fuel : Nat} {listed : Array Bool} {a : Act} {w : World} (hi : ops[i]? = some oi) (hB : takeB md ops listed z i = true)
    (hQ : ∀ c a w, Q (.panic c) (a.put oi.dst v) w → Q (.panic c) a w) (hy : YieldsIf P ops S oi v a) (hS : S w)
    (h : anyG P md ops Q S z fuel (listed.setIfInBounds i true) (a.put oi.dst v) w) : anyG P md ops Q S z (fuel + 1) listed a w := by
  simp only [takeB, Bool.and_eq_true, decide_eq_true_eq] at hB
  obtain ⟨⟨⟨⟨⟨h1, h2⟩, h3⟩, h4⟩, h5⟩, h6⟩ := hB
  cases hz : ops[z]? with
  | none => rw [hz] at h6; simp at h6
  | some oz =>
    rw [hz] at h6
    simp only [Array.any_eq_true, Bool.and_eq_true, decide_eq_true_eq] at h6
    obtain ⟨k, hk, hb, ho⟩ := h6
    exact anyG_first hi hz ⟨_, Array.getElem_mem hk, hb, ho⟩ (Region.noSelect_spec h1) hQ fuel listed a w (Region.free_spec hi h2) (by simpa using h5) h4 (by simpa using h3) hy hS h

/-- What is to be shown behind number i. -/
def behG (P : Program) (md : Region.Mode) (ops : Array Oper) (Q : Exit → Act → World → Prop) (S : World → Prop) (z fuel : Nat) (listed : Array Bool) (a : Act) (w : World) : Prop := (listed.getD z true = false → S w) ∧ anyG P md ops Q S z fuel listed a w
theorem behG_mk {fuel : Nat} {listed : Array Bool} {a : Act} {w : World} (h : listed.getD z true = false → S w) (h' : anyG P md ops Q S z fuel listed a w) : behG P md ops Q S z fuel listed a w := ⟨h, h'⟩

/-- One alone may come up. -/
theorem anyG_one {i : Nat} {o : Oper} {fuel : Nat} {listed : Array Bool} {a : Act} {w : World} (hr : Region.ready md ops listed = [i]) (hi : ops[i]? = some o) (hg : o.guard = none)
    (h : o.wp P a w (behG P md ops Q S z fuel (listed.setIfInBounds i true)) Q) : anyG P md ops Q S z (fuel + 1) listed a w := by
  refine ⟨fun h0 => (by rw [hr] at h0; cases h0), fun j hj => ?_⟩
  rw [hr, List.mem_singleton] at hj
  subst hj
  unfold wpOp
  simp only [hi]
  have hw : Region.wanted o (yielded ops a.tmps) = true := by simp [Region.wanted, hg]
  rw [if_pos hw]
  exact Or.inl h

theorem anyG_done {listed : Array Bool} {a : Act} {w : World} {fuel : Nat} (hr : Region.ready md ops listed = []) (h : Q .normal a w) : anyG P md ops Q S z fuel listed a w := by
  cases fuel with
  | zero => exact ⟨hr, h⟩
  | succ f => exact ⟨fun _ => h, by rw [hr]; simp⟩

theorem wp_region_G (S : World → Prop) (z : Nat) {id : Nat} {a : Act} {w : World} (hm : P.follows .mixedOrders = true)
    (h : anyG P .any ops Q S z ops.size (Array.replicate ops.size false) a w.drew) : (Code.region id ops true).wp P Q a w :=
  wp_region_any hm (any_of_anyG _ _ _ _ h)
end

end Go.Proofs.YtgajoiijebbagaaGreatDoor
