/-
  The law on pings holds over a memory in which the packages' errors are laid. Conditions: none.
-/
import Derived.Test.YtbpkijkinoligaaGreatDoorZQh
import Derived.Test.YtbpkijkinoligaaGreatDoorZPa
import Derived.Test.YtbpkijkinoligaaGreatDoorZPb
import Derived.Test.YtbpkijkinoligaaGreatDoorZPc
import Derived.Test.YtbpkijkinoligaaGreatDoorZPd
import Derived.Test.YtbpkijkinoligaaGreatDoorZPe
import Derived.Test.YtbpkijkinoligaaGreatDoorZPf
import Derived.Test.YtbpkijkinoligaaGreatDoorZPg
import Derived.Test.YtbpkijkinoligaaGreatDoorZPh
import Derived.Test.YtbpkijkinoligaaGreatDoorZPi
namespace Go.Proofs.YtbpkijkinoligaaGreatDoor
open Go Go.Ax Go.RowKit Go.Proofs

noncomputable def kZ : Kl := ⟨eZ, iZ, gZ, iZ.fs, [8, 9, 10, 11, 12, 13, 14, 118, 116, 62, 55, 57, 59, 66, 64, 61, 60, 51, 50, 49, 48, 54, 52, 53, 111, 104, 106, 108, 115, 113, 110, 109, 100, 99, 98, 97, 103, 101, 102, 117, 122], .lit (.ofNat 0), false, []⟩
noncomputable def kA1 : Kl := ⟨eA1, iA1, gA1, fsA1, [8, 9, 10, 11, 12, 13, 14, 118, 116, 62, 55, 57, 59, 66, 64, 298, 495, 61, 60, 51, 50, 49, 48, 225, 54, 52, 53, 169, 111, 104, 106, 108, 115, 113, 846, 1135, 110, 109, 100, 99, 98, 97, 724, 103, 101, 102, 117, 122], .lit (.ofNat 1), false, []⟩
noncomputable def kB1 : Kl := ⟨eB1, iB1, gB1, fsB1, [8, 9, 10, 11, 12, 13, 14, 118, 116, 62, 55, 57, 59, 66, 64, 845, 1134, 61, 60, 51, 50, 49, 48, 723, 54, 52, 53, 111, 104, 106, 108, 115, 113, 298, 496, 110, 109, 100, 99, 98, 97, 225, 103, 101, 102, 169, 117, 122], .lit (.ofNat 1), false, []⟩
noncomputable def kA : Kl := ⟨eA, iA, gA, fsA, [8, 9, 10, 11, 12, 13, 14, 118, 116, 62, 55, 57, 59, 66, 64, 298, 495, 61, 60, 51, 50, 49, 48, 225, 54, 52, 53, 169, 111, 104, 106, 108, 115, 113, 846, 1135, 110, 109, 100, 99, 98, 97, 724, 103, 101, 102, 117, 122], .var 20, true, [20, 21, 22]⟩
noncomputable def kB : Kl := ⟨eB, iB, gB, fsB, [8, 9, 10, 11, 12, 13, 14, 118, 116, 62, 55, 57, 59, 66, 64, 845, 1134, 61, 60, 51, 50, 49, 48, 723, 54, 52, 53, 111, 104, 106, 108, 115, 113, 298, 496, 110, 109, 100, 99, 98, 97, 225, 103, 101, 102, 169, 117, 122], .var 20, true, [20, 21, 22]⟩
noncomputable def kC0 : Kl := ⟨eC0, iC0, gC0, fsC0, [8, 9, 10, 11, 12, 13, 14, 118, 116, 62, 55, 57, 59, 66, 64, 298, 495, 61, 60, 51, 50, 49, 48, 225, 54, 52, 53, 169, 111, 104, 106, 108, 115, 113, 846, 1135, 110, 109, 100, 99, 98, 97, 724, 103, 101, 102, 1746, 117, 122], .var 20, true, [20, 21, 22, 23, 24]⟩
noncomputable def kC1 : Kl := ⟨eC1, iC1, gC1, fsC1, [8, 9, 10, 11, 12, 13, 14, 118, 116, 62, 55, 57, 59, 66, 64, 298, 495, 61, 60, 51, 50, 49, 48, 225, 54, 52, 53, 169, 111, 104, 106, 108, 115, 113, 846, 1135, 110, 109, 100, 99, 98, 97, 724, 103, 101, 102, 1746, 117, 122], .var 20, true, [20, 21, 22, 23, 24]⟩
noncomputable def kD0 : Kl := ⟨eD0, iD0, gD0, fsD0, [8, 9, 10, 11, 12, 13, 14, 118, 116, 62, 55, 57, 59, 66, 64, 845, 1134, 61, 60, 51, 50, 49, 48, 723, 54, 52, 53, 1746, 111, 104, 106, 108, 115, 113, 298, 496, 110, 109, 100, 99, 98, 97, 225, 103, 101, 102, 169, 117, 122], .var 20, true, [20, 21, 22, 23, 24]⟩
noncomputable def kD1 : Kl := ⟨eD1, iD1, gD1, fsD1, [8, 9, 10, 11, 12, 13, 14, 118, 116, 62, 55, 57, 59, 66, 64, 845, 1134, 61, 60, 51, 50, 49, 48, 723, 54, 52, 53, 1746, 111, 104, 106, 108, 115, 113, 298, 496, 110, 109, 100, 99, 98, 97, 225, 103, 101, 102, 169, 117, 122], .var 20, true, [20, 21, 22, 23, 24]⟩

section
variable {n0 : Nat} {w0 : World} {cs0 : List Frame} {pl : Ax.Place} {n : Nat}
theorem nextZ (hin : pl.blk < n0) (hcell : ∀ i, i < n → ∃ β, w0.cell? ⟨pl.blk, pl.base + i, none⟩ = some (.bool β)) {ν : Int} (h0 : 0 ≤ ν) (h1 : kZ.st = true → 1 ≤ ν) (h8 : ν ≤ 8) (hst : kZ.st = false → ν < 8)
    (gF : ν < 8 → GoodE n0 w0 cs0 pl n kA1 (ν + 1)) (gT : ν < 8 → GoodE n0 w0 cs0 pl n kB1 (ν + 1)) : GoodE n0 w0 cs0 pl n kZ ν :=
  step (c := kZ) (cF := kA1) (cT := kB1) (σF := sgZf) (σT := sgZt) hZi hZg hZf hZt hZx (.inl rfl) (by kernel_rfl) rfl rfl (by kernel_rfl) (by kernel_rfl) rfl (by kernel_rfl) (by kernel_rfl) hin hcell h0 h1 h8 hst gF gT
theorem nextA1 (hin : pl.blk < n0) (hcell : ∀ i, i < n → ∃ β, w0.cell? ⟨pl.blk, pl.base + i, none⟩ = some (.bool β)) {ν : Int} (h0 : 0 ≤ ν) (h1 : kA1.st = true → 1 ≤ ν) (h8 : ν ≤ 8) (hst : kA1.st = false → ν < 8)
    (gF : ν < 8 → GoodE n0 w0 cs0 pl n kA (ν + 1)) (gT : ν < 8 → GoodE n0 w0 cs0 pl n kC1 (ν + 1)) : GoodE n0 w0 cs0 pl n kA1 ν :=
  step (c := kA1) (cF := kA) (cT := kC1) (σF := sgA1f) (σT := sgA1t) hA1i hA1g hA1f hA1t hA1x (.inl rfl) (by kernel_rfl) rfl rfl (by kernel_rfl) (by kernel_rfl) rfl (by kernel_rfl) (by kernel_rfl) hin hcell h0 h1 h8 hst gF gT
theorem nextB1 (hin : pl.blk < n0) (hcell : ∀ i, i < n → ∃ β, w0.cell? ⟨pl.blk, pl.base + i, none⟩ = some (.bool β)) {ν : Int} (h0 : 0 ≤ ν) (h1 : kB1.st = true → 1 ≤ ν) (h8 : ν ≤ 8) (hst : kB1.st = false → ν < 8)
    (gF : ν < 8 → GoodE n0 w0 cs0 pl n kD0 (ν + 1)) (gT : ν < 8 → GoodE n0 w0 cs0 pl n kB (ν + 1)) : GoodE n0 w0 cs0 pl n kB1 ν :=
  step (c := kB1) (cF := kD0) (cT := kB) (σF := sgB1f) (σT := sgB1t) hB1i hB1g hB1f hB1t hB1x (.inl rfl) (by kernel_rfl) rfl rfl (by kernel_rfl) (by kernel_rfl) rfl (by kernel_rfl) (by kernel_rfl) hin hcell h0 h1 h8 hst gF gT
theorem nextA (hin : pl.blk < n0) (hcell : ∀ i, i < n → ∃ β, w0.cell? ⟨pl.blk, pl.base + i, none⟩ = some (.bool β)) {ν : Int} (h0 : 0 ≤ ν) (h1 : kA.st = true → 1 ≤ ν) (h8 : ν ≤ 8) (hst : kA.st = false → ν < 8)
    (gF : ν < 8 → GoodE n0 w0 cs0 pl n kA (ν + 1)) (gT : ν < 8 → GoodE n0 w0 cs0 pl n kC1 (ν + 1)) : GoodE n0 w0 cs0 pl n kA ν :=
  step (c := kA) (cF := kA) (cT := kC1) (σF := sgAf) (σT := sgAt) hAi hAg hAf hAt hAx (.inr hAy) (by kernel_rfl) rfl rfl (by kernel_rfl) (by kernel_rfl) rfl (by kernel_rfl) (by kernel_rfl) hin hcell h0 h1 h8 hst gF gT
theorem nextB (hin : pl.blk < n0) (hcell : ∀ i, i < n → ∃ β, w0.cell? ⟨pl.blk, pl.base + i, none⟩ = some (.bool β)) {ν : Int} (h0 : 0 ≤ ν) (h1 : kB.st = true → 1 ≤ ν) (h8 : ν ≤ 8) (hst : kB.st = false → ν < 8)
    (gF : ν < 8 → GoodE n0 w0 cs0 pl n kD0 (ν + 1)) (gT : ν < 8 → GoodE n0 w0 cs0 pl n kB (ν + 1)) : GoodE n0 w0 cs0 pl n kB ν :=
  step (c := kB) (cF := kD0) (cT := kB) (σF := sgBf) (σT := sgBt) hBi hBg hBf hBt hBx (.inr hBy) (by kernel_rfl) rfl rfl (by kernel_rfl) (by kernel_rfl) rfl (by kernel_rfl) (by kernel_rfl) hin hcell h0 h1 h8 hst gF gT
theorem nextC0 (hin : pl.blk < n0) (hcell : ∀ i, i < n → ∃ β, w0.cell? ⟨pl.blk, pl.base + i, none⟩ = some (.bool β)) {ν : Int} (h0 : 0 ≤ ν) (h1 : kC0.st = true → 1 ≤ ν) (h8 : ν ≤ 8) (hst : kC0.st = false → ν < 8)
    (gF : ν < 8 → GoodE n0 w0 cs0 pl n kC0 (ν + 1)) (gT : ν < 8 → GoodE n0 w0 cs0 pl n kC1 (ν + 1)) : GoodE n0 w0 cs0 pl n kC0 ν :=
  step (c := kC0) (cF := kC0) (cT := kC1) (σF := sgC0f) (σT := sgC0t) hC0i hC0g hC0f hC0t hC0x (.inr hC0y) (by kernel_rfl) rfl rfl (by kernel_rfl) (by kernel_rfl) rfl (by kernel_rfl) (by kernel_rfl) hin hcell h0 h1 h8 hst gF gT
theorem nextC1 (hin : pl.blk < n0) (hcell : ∀ i, i < n → ∃ β, w0.cell? ⟨pl.blk, pl.base + i, none⟩ = some (.bool β)) {ν : Int} (h0 : 0 ≤ ν) (h1 : kC1.st = true → 1 ≤ ν) (h8 : ν ≤ 8) (hst : kC1.st = false → ν < 8)
    (gF : ν < 8 → GoodE n0 w0 cs0 pl n kC0 (ν + 1)) (gT : ν < 8 → GoodE n0 w0 cs0 pl n kC1 (ν + 1)) : GoodE n0 w0 cs0 pl n kC1 ν :=
  step (c := kC1) (cF := kC0) (cT := kC1) (σF := sgC1f) (σT := sgC1t) hC1i hC1g hC1f hC1t hC1x (.inr hC1y) (by kernel_rfl) rfl rfl (by kernel_rfl) (by kernel_rfl) rfl (by kernel_rfl) (by kernel_rfl) hin hcell h0 h1 h8 hst gF gT
theorem nextD0 (hin : pl.blk < n0) (hcell : ∀ i, i < n → ∃ β, w0.cell? ⟨pl.blk, pl.base + i, none⟩ = some (.bool β)) {ν : Int} (h0 : 0 ≤ ν) (h1 : kD0.st = true → 1 ≤ ν) (h8 : ν ≤ 8) (hst : kD0.st = false → ν < 8)
    (gF : ν < 8 → GoodE n0 w0 cs0 pl n kD0 (ν + 1)) (gT : ν < 8 → GoodE n0 w0 cs0 pl n kD1 (ν + 1)) : GoodE n0 w0 cs0 pl n kD0 ν :=
  step (c := kD0) (cF := kD0) (cT := kD1) (σF := sgD0f) (σT := sgD0t) hD0i hD0g hD0f hD0t hD0x (.inr hD0y) (by kernel_rfl) rfl rfl (by kernel_rfl) (by kernel_rfl) rfl (by kernel_rfl) (by kernel_rfl) hin hcell h0 h1 h8 hst gF gT
theorem nextD1 (hin : pl.blk < n0) (hcell : ∀ i, i < n → ∃ β, w0.cell? ⟨pl.blk, pl.base + i, none⟩ = some (.bool β)) {ν : Int} (h0 : 0 ≤ ν) (h1 : kD1.st = true → 1 ≤ ν) (h8 : ν ≤ 8) (hst : kD1.st = false → ν < 8)
    (gF : ν < 8 → GoodE n0 w0 cs0 pl n kD0 (ν + 1)) (gT : ν < 8 → GoodE n0 w0 cs0 pl n kD1 (ν + 1)) : GoodE n0 w0 cs0 pl n kD1 ν :=
  step (c := kD1) (cF := kD0) (cT := kD1) (σF := sgD1f) (σT := sgD1t) hD1i hD1g hD1f hD1t hD1x (.inr hD1y) (by kernel_rfl) rfl rfl (by kernel_rfl) (by kernel_rfl) rfl (by kernel_rfl) (by kernel_rfl) hin hcell h0 h1 h8 hst gF gT
theorem good_all (hin : pl.blk < n0) (hcell : ∀ i, i < n → ∃ β, w0.cell? ⟨pl.blk, pl.base + i, none⟩ = some (.bool β)) (d : Nat) : ∀ ν : Int, 1 ≤ ν → ν ≤ 8 → (8 - ν).toNat ≤ d →
    GoodE n0 w0 cs0 pl n kA ν ∧ GoodE n0 w0 cs0 pl n kB ν ∧ GoodE n0 w0 cs0 pl n kC0 ν ∧ GoodE n0 w0 cs0 pl n kC1 ν ∧ GoodE n0 w0 cs0 pl n kD0 ν ∧ GoodE n0 w0 cs0 pl n kD1 ν := by
  induction d with
  | zero =>
    intro ν h1 h8 hd
    have hv : ¬ ν < 8 := by omega
    exact ⟨nextA hin hcell (by omega) (fun _ => h1) h8 (fun h => (by cases h)) (fun h => absurd h hv) (fun h => absurd h hv), nextB hin hcell (by omega) (fun _ => h1) h8 (fun h => (by cases h)) (fun h => absurd h hv) (fun h => absurd h hv), nextC0 hin hcell (by omega) (fun _ => h1) h8 (fun h => (by cases h)) (fun h => absurd h hv) (fun h => absurd h hv), nextC1 hin hcell (by omega) (fun _ => h1) h8 (fun h => (by cases h)) (fun h => absurd h hv) (fun h => absurd h hv), nextD0 hin hcell (by omega) (fun _ => h1) h8 (fun h => (by cases h)) (fun h => absurd h hv) (fun h => absurd h hv), nextD1 hin hcell (by omega) (fun _ => h1) h8 (fun h => (by cases h)) (fun h => absurd h hv) (fun h => absurd h hv)⟩
  | succ d ih =>
    intro ν h1 h8 hd
    have ih' := fun (h : ν < 8) => ih (ν + 1) (by omega) (by omega) (by omega)
    exact ⟨nextA hin hcell (by omega) (fun _ => h1) h8 (fun h => (by cases h)) (fun h => (ih' h).1) (fun h => (ih' h).2.2.2.1),
      nextB hin hcell (by omega) (fun _ => h1) h8 (fun h => (by cases h)) (fun h => (ih' h).2.2.2.2.1) (fun h => (ih' h).2.1),
      nextC0 hin hcell (by omega) (fun _ => h1) h8 (fun h => (by cases h)) (fun h => (ih' h).2.2.1) (fun h => (ih' h).2.2.2.1),
      nextC1 hin hcell (by omega) (fun _ => h1) h8 (fun h => (by cases h)) (fun h => (ih' h).2.2.1) (fun h => (ih' h).2.2.2.1),
      nextD0 hin hcell (by omega) (fun _ => h1) h8 (fun h => (by cases h)) (fun h => (ih' h).2.2.2.2.1) (fun h => (ih' h).2.2.2.2.2),
      nextD1 hin hcell (by omega) (fun _ => h1) h8 (fun h => (by cases h)) (fun h => (ih' h).2.2.2.2.1) (fun h => (ih' h).2.2.2.2.2)⟩
theorem goodA1 (hin : pl.blk < n0) (hcell : ∀ i, i < n → ∃ β, w0.cell? ⟨pl.blk, pl.base + i, none⟩ = some (.bool β)) : GoodE n0 w0 cs0 pl n kA1 (0 + 1) :=
  nextA1 hin hcell (by omega) (fun h => (by cases h)) (by omega) (fun _ => (by omega)) (fun _ => (good_all hin hcell 7 (0 + 1 + 1) (by omega) (by omega) (by omega)).1) (fun _ => (good_all hin hcell 7 (0 + 1 + 1) (by omega) (by omega) (by omega)).2.2.2.1)
theorem goodB1 (hin : pl.blk < n0) (hcell : ∀ i, i < n → ∃ β, w0.cell? ⟨pl.blk, pl.base + i, none⟩ = some (.bool β)) : GoodE n0 w0 cs0 pl n kB1 (0 + 1) :=
  nextB1 hin hcell (by omega) (fun h => (by cases h)) (by omega) (fun _ => (by omega)) (fun _ => (good_all hin hcell 7 (0 + 1 + 1) (by omega) (by omega) (by omega)).2.2.2.2.1) (fun _ => (good_all hin hcell 7 (0 + 1 + 1) (by omega) (by omega) (by omega)).2.1)
theorem goodZ (hin : pl.blk < n0) (hcell : ∀ i, i < n → ∃ β, w0.cell? ⟨pl.blk, pl.base + i, none⟩ = some (.bool β)) : GoodE n0 w0 cs0 pl n kZ 0 :=
  nextZ hin hcell (by omega) (fun h => (by cases h)) (by omega) (fun _ => (by omega)) (fun _ => goodA1 hin hcell) (fun _ => goodB1 hin hcell)
theorem good_p00 (hin : pl.blk < n0) (hcell : ∀ i, i < n → ∃ β, w0.cell? ⟨pl.blk, pl.base + i, none⟩ = some (.bool β)) {X : Ext} {m : Machine} (hX : X.μ 13 = some pl) (h17 : X.ρ.int 17 = (n : Int)) (h : PSim n0 w0 cs0 X p00 m) : PEnds n0 w0 cs0 m := by
  obtain ⟨X', m', st, h1, h2, hs⟩ := hopI hQ (by kernel_rfl) (fun x hx => hx) hX h
  have hv17 : 17 ∈ eZ.vs := any_beq (i := 17) (vs := eZ.vs) (by kernel_rfl)
  exact .of_steps st (goodZ hin hcell X' m' h1 ((h2 17 hv17).trans h17) rfl (fun x hx => (by cases hx)) hs)
end

/-- A slice of truth values that an argument is. -/
inductive Bools (W : World) : Value → Prop
  | none : Bools W (.slice none 0 0)
  | some (blk off len cap : Nat) (hb : blk < W.heap.size) (hl : len ≤ cap) (hm : (cap : Int) ≤ 9223372036854775807) (hc : ∀ i, i < len → ∃ β, W.cell? ⟨blk, off + i, Option.none⟩ = Option.some (.bool β)) : Bools W (.slice (Option.some ⟨blk, off, Option.none⟩) len cap)

theorem mem_args : (instX pingS mkWho (errs.ng + errs.m)).2.1 = [.int .i64 (.var 14), .int .i64 (.var 15), .int .i64 (.var 16), .wslice 13 0 0 1 17] := by kernel_rfl
theorem wb13 : errs.ng + errs.m = 13 := by kernel_rfl
theorem ping_any {W : World} {A : Nat → Addr} {v0 v1 v2 v3 : Value} (hl : Laid errs A (fun _ => 1) W) (h0 : spI.has v0) (h1 : spI.has v1) (h2 : spI.has v2) (h3 : Bools W v3) :
    Calls Tryz.prog 3 #[v0, v1, v2, v3] W (fun e w' => ∃ u, e = .returned u ∧ (Sp.lit true).has u ∧ Below W.heap.size W w') := by
  have h00 : 0 < W.heap.size := Nat.lt_of_lt_of_le errs_pos hl.sz
  cases h3 with
  | none =>
    refine told_of_firstX (G := GP) tab_right ifs_right (fun _ => sumsP_all) errs_ng errs_pos ping_nil hl (vals := [v0, v1, v2]) ?_ (pl := ⟨0, 0, 0⟩) h00 ?_ ?_
    · simp only [Sp.hasL]
      exact ⟨v0, _, rfl, h0, v1, _, rfl, h1, v2, _, rfl, h2, rfl⟩
    · intro l args o hq hlive
      unfold mkNone at hq
      split at hq
      · cases hq; cases hlive
      · cases hq
    · intro Y l args o hr hmu hq
      unfold mkNone at hq
      split at hq
      · cases hq
        simp only [rels_cons_cons, rels_nil, and_true] at hr ⊢
        obtain ⟨r0, r1, r2⟩ := hr
        exact ⟨⟨r0, r1, r2, by simp only [AV.rel]⟩, trivial⟩
      · cases hq
  | some blk off len cap hb hle hm hc =>
    refine told_of_simX (G := GP) tab_right errs_ng errs_pos p00_ok hl (vals := [v0, v1, v2, .int .i64 len]) ?_ (pl := ⟨blk, off, off + cap⟩) hb ?_ ?_ ?_
    · simp only [pingS, Sp.hasL]
      exact ⟨v0, _, rfl, h0, v1, _, rfl, h1, v2, _, rfl, h2, _, _, rfl, by simp only [Sp.has]; exact ⟨len, rfl, by omega, by omega⟩, rfl⟩
    · intro l args o hq hlive
      unfold mkWho at hq
      split at hq
      · cases hq; cases hlive
      · cases hq
    · intro Y l args o hr hmu hq
      unfold mkWho at hq
      split at hq
      · cases hq
        simp only [rels_cons_cons, rels_nil, and_true] at hr ⊢
        obtain ⟨r0, r1, r2, r3⟩ := hr
        simp only [AV.rel] at r3
        obtain ⟨k1, k2⟩ := r3
        simp only [E.den, Value.int.injEq, true_and] at k2
        refine ⟨⟨r0, r1, r2, ?_⟩, trivial⟩
        simp only [AV.rel]
        exact ⟨_, len, cap, hmu, rfl, by omega, hle, by simp only; omega, k1, k2.symm⟩
      · cases hq
    · intro cs0 X m hX hargs hs
      rw [mem_args] at hargs
      rw [wb13] at hX
      simp only [rels_cons_cons, rels_nil, and_true] at hargs
      obtain ⟨-, -, -, r3⟩ := hargs
      simp only [AV.rel] at r3
      obtain ⟨p, len', c', -, e1, -, -, -, -, e2⟩ := r3
      obtain ⟨-, e3, -⟩ := Value.slice.inj e1
      rw [← e3] at e2
      exact good_p00 (pl := ⟨blk, off, off + cap⟩) (n := len) hb hc hX e2 hs
end Go.Proofs.YtbpkijkinoligaaGreatDoor
