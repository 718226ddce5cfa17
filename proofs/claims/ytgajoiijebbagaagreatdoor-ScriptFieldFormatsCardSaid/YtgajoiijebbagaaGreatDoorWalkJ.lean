/-
  The walk of the reference's ParsePrefix. The contract says what the call returns and that what was there before it is unchanged. Conditions: the string is at most 1000000 bytes long.
-/
import Derived.Test.YtgajoiijebbagaaGreatDoorWalkI
namespace Go.Proofs.YtgajoiijebbagaaGreatDoor
open Go.RowKit

theorem frozen_below {w w' : World} {b k : Nat} (hw : Below w.heap.size w w') (hb : b < w.heap.size) (h : w.frozen? ⟨b, k, none⟩ = false) : w'.frozen? ⟨b, k, none⟩ = false := by
  rw [hw.frozen (p := ⟨b, k, none⟩) hb, h]

theorem frozen_old {w : World} (o : Obj) {b k : Nat} (hb : b < w.heap.size) (h : w.frozen? ⟨b, k, none⟩ = false) : (w.alloc o).frozen? ⟨b, k, none⟩ = false := by
  rw [World.frozen?_alloc_past o b k hb, h]

end Go.Proofs.YtgajoiijebbagaaGreatDoor
