/-
  A law for a statement whose order Go leaves open and whose operations only read what was there, while its calls may make new memory: one walk in the order of the text serves every order (the guide's 'wp_region_quiet' at a class of worlds). Conditions: none.
-/
import Derived.WalkKit
import Derived.WalkSpells
import Derived.WalkLawsBesides
import Derived.Deep.QuietTactic
import Derived.BigQuiet
import Derived.Lib.Hide
namespace Go.Proofs.YtgajoiijebbagaaGreatDoor
open Go Go.RowKit

/-- A world that meets S. -/
structure Lat (S : World → Prop) where
  u : World
  h : S u

theorem Lat.mk_eq {S : World → Prop} {u : World} (h : S u) : ∃ x : Lat S, u = x.u := ⟨⟨u, h⟩, rfl⟩

theorem wp_region_lat {P : Program} (S : World → Prop) {id : Nat} {Q : Exit → Act → World → Prop} {a : Act} {w : World} {l : List Oper} (hm : P.follows .mixedOrders = true) (hB : Region.lexB .any l.toArray = true) (hS : S w.drew)
    (h : wpQuiet P l.toArray (fun w' => ∃ x : Lat S, w' = x.u) (fun a' => ∀ w', (∃ x : Lat S, w' = x.u) → Q .normal a' w') l a) : (Code.region id l.toArray true).wp P Q a w :=
  wp_region_quiet (C := fun w' => ∃ x : Lat S, w' = x.u) hm hB ⟨⟨_, hS⟩, rfl⟩ (by simpa using h)

/-- A contract at a call inside such a statement. -/
theorem Calls.lat {P : Program} {f : FuncId} {args : Array Value} {S : World → Prop} {x : Lat S} {v : Value} {R : Ending → World → Prop}
    (h : Calls P f args x.u R) (hv : ∀ e w', R e w' → e = .returned v ∧ S w') : Calls P f args x.u fun e w'' => e = .returned v ∧ ∃ y : Lat S, w'' = y.u :=
  h.mono fun e w' hr => ⟨(hv e w' hr).1, ⟨w', (hv e w' hr).2⟩, rfl⟩

/-- Below w's end nothing has changed. -/
theorem below_on {w u u' : World} (h : Below w.heap.size w u) (k : Below u.heap.size u u') : Below w.heap.size w u' := h.trans (k.mono h.size)
theorem bcell {W w1 : World} (hb : Below W.heap.size W w1) : (∀ b o, b < W.heap.size → w1.cell? ⟨b, o, none⟩ = W.cell? ⟨b, o, none⟩) ∧ (∀ b o, b < W.heap.size → w1.frozen? ⟨b, o, none⟩ = W.frozen? ⟨b, o, none⟩) :=
  ⟨fun b o h => hb.cell (p := ⟨b, o, none⟩) h, fun b o h => hb.frozen (p := ⟨b, o, none⟩) h⟩
/-- A cell that holds v, in every later world. -/
theorem Lat.cell {w : World} (x : Lat (Below w.heap.size w)) {b o : Nat} {v : Value} (hb : b < w.heap.size) (h : w.cell? ⟨b, o, none⟩ = some v) : x.u.cell? ⟨b, o, none⟩ = some v := by rw [x.h.cell (p := ⟨b, o, none⟩) hb, h]

theorem cell_old {w : World} (o : Obj) {b k : Nat} {v : Value} (hb : b < w.heap.size) (h : w.cell? ⟨b, k, none⟩ = some v) : (w.alloc o).cell? ⟨b, k, none⟩ = some v := by
  rw [((Below.refl w.heap.size w).alloc (Nat.le_refl _) o).cell (p := ⟨b, k, none⟩) hb, h]
theorem cell_below {w w' : World} {b k : Nat} {v : Value} (hw : Below w.heap.size w w') (hb : b < w.heap.size) (h : w.cell? ⟨b, k, none⟩ = some v) : w'.cell? ⟨b, k, none⟩ = some v := by
  rw [hw.cell (p := ⟨b, k, none⟩) hb, h]
/-- The same law at the class 'what was there is unchanged', the world behind a name. -/
theorem wp_region_below {P : Program} {id : Nat} {Q : Exit → Act → World → Prop} {a : Act} {w : World} {l : List Oper} (hm : P.follows .mixedOrders = true) (hB : Region.lexB .any l.toArray = true)
    (h : ∀ W, W = w → wpQuiet P l.toArray (fun w' => ∃ x : Lat (Below W.heap.size W), w' = x.u) (fun a' => ∀ w', (∃ x : Lat (Below W.heap.size W), w' = x.u) → Q .normal a' w') l a) : (Code.region id l.toArray true).wp P Q a w :=
  wp_region_lat (Below w.heap.size w) hm hB (Below.refl _ _).drew (h w rfl)
instance latBelow (W : World) : Nonempty (Lat (Below W.heap.size W)) := ⟨⟨W, Below.refl _ _⟩⟩
/-- A contract that makes memory, or draws, or does neither, at a call inside such a statement. -/
theorem Calls.below {P : Program} {f : FuncId} {args : Array Value} {W : World} {x : Lat (Below W.heap.size W)} {v : Value}
    (h : Calls P f args x.u fun e w' => e = .returned v ∧ Below x.u.heap.size x.u w') : Calls P f args x.u fun e w'' => e = .returned v ∧ ∃ y : Lat (Below W.heap.size W), w'' = y.u :=
  h.mono fun _ w' hr => ⟨hr.1, ⟨w', below_on x.h hr.2⟩, rfl⟩
theorem Calls.same {P : Program} {f : FuncId} {args : Array Value} {W : World} {x : Lat (Below W.heap.size W)} {v : Value}
    (h : Calls P f args x.u fun e w' => e = .returned v ∧ x.u = w') : Calls P f args x.u fun e w'' => e = .returned v ∧ ∃ y : Lat (Below W.heap.size W), w'' = y.u :=
  h.mono fun _ _ hr => ⟨hr.1, x, hr.2.symm⟩

theorem Calls.eqv {P : Program} {f : FuncId} {args : Array Value} {w : World} {v v' : Value} {R : World → Prop} (e : v = v') (h : Calls P f args w fun e w' => e = .returned v ∧ R w') : Calls P f args w fun e w' => e = .returned v' ∧ R w' := e ▸ h

end Go.Proofs.YtgajoiijebbagaaGreatDoor
