/-
  How the arguments of the statements that take raw actions are read: a slice of raw actions in memory, a slice of integers. Conditions: none.
-/
import Derived.Test.YtgajoiijebbagaaGreatDoorGe5
import Derived.Test.YtgajoiijebbagaaGreatDoorFrame
import Derived.Deep.Slices
import Derived.Deep.Fields
import Derived.ChangeSame
import Derived.WideKeyArgs
import Derived.Carry
namespace Go.Proofs.YtgajoiijebbagaaGreatDoor
open Go.ChangeShapes Go.WideShapes Go.ChangeAt Go.RowKit Go.Joins Go.Deep

section
variable {H : Type} {enc : TypeId × Value → H} {W : World} {base : Nat} {spare : Nat → Bool} {held : Bool}

theorem addr_plain {w : World} {a : Addr} {v : Value} (h : w.cell? a = some v) : a = ⟨a.block, a.off, none⟩ ∧ a.block < w.heap.size := by
  obtain ⟨b, o, s⟩ := a
  unfold World.cell? at h
  split at h
  · rename_i hb
    cases s with
    | none => exact ⟨rfl, (Array.getElem?_eq_some_iff.1 hb).1⟩
    | some x => simp at h
  · cases h
theorem addr_add' (b o j : Nat) : (⟨b, o, none⟩ : Addr).add j = ⟨b, o + j, none⟩ := by unfold Addr.add; split <;> simp_all

/-- A slice of integers. -/
theorem fs_of {fuel : Nat} {cs : List Value} {x : DataW H × List MemPlace} (h : DataW.trod enc Tryz.prog W base spare held fuel 25 cs = some x) :
    ∃ (v : Value) (xs : List Int), cs = [v] ∧ Fs W v xs ∧ xs.length ≤ 9223372036854775807 ∧ ∀ f ∈ xs, -9223372036854775808 ≤ f ∧ f ≤ 9223372036854775807 := by
  rcases open_ints Tryz.underlying25 Tryz.underlying3 (by kernel_rfl) h with ⟨rfl, -⟩ | ⟨a, len, cap, zs, rfl, -, hl, hm, hz, -, hcell, hwz⟩
  · exact ⟨_, [], rfl, Fs.nil _, by simp, by simp⟩
  · have hzl : len ≤ zs.length := by rw [hz]; split <;> omega
    have htl : (zs.take len).length = len := by simp; omega
    unfold maxLen at hm
    refine ⟨_, zs.take len, rfl, ⟨some a, cap, by rw [htl], fun h0 => ?_⟩, by omega, fun f hf => bounds_i64 (hwz f (List.mem_of_mem_take hf))⟩
    have h1 : 0 < len := by
      rcases Nat.eq_zero_or_pos len with e | e
      · subst e; simp at h0
      · exact e
    have hc0 := hcell 0 (by omega)
    rw [show a.add 0 = a from by simp [Addr.add]] at hc0
    obtain ⟨ha, hb⟩ := addr_plain hc0
    refine ⟨a.block, a.off, by rw [← ha], hb, fun j hj => ?_⟩
    have hj' : j < len := by rw [htl] at hj; exact hj
    have := hcell j (by omega)
    rw [ha, addr_add'] at this
    rw [this, List.getElem_take, List.getD_eq_getElem?_getD, List.getElem?_eq_getElem (by omega)]; rfl

/-- One field of a struct of one-cell fields. -/
theorem field_of {fs : Array Field} {N n : Nat} {t : TypeId} {a : Addr} {i : Nat} {cs' : List Value} {y : DataW H × List MemPlace} (he : Tryz.prog.underlying t = some (.struct fs)) (hone : oneCellFields Tryz.prog fs = true) (hN : N = fs.size) (hc : W.cells? base (a.add (i * N)) N = some cs') (h : DataW.trod enc Tryz.prog W base spare held n t cs' = some y) :
    ∃ n', ∀ (j : Nat) (f : Field), fs[j]? = some f → ∃ (v : Value) (y : DataW H × List MemPlace), W.cell? (a.add (i * N + j)) = some v ∧ DataW.trod enc Tryz.prog W base spare held n' f.type [v] = some y := by
  obtain ⟨ys, n', -, -, hlen, hyl, hf⟩ := DataW.trod_struct he h
  obtain ⟨_, hcl, hat⟩ := World.cells?_some hc
  refine ⟨n', fun j f hj => ?_⟩
  obtain ⟨ho, hk⟩ := hone_of hone j f hj
  have hjl : j < fs.size := (Array.getElem?_eq_some_iff.1 hj).1
  have hcell := hat j (by omega)
  have hv : cs'[j]? = some (cs'[j]'(by omega)) := List.getElem?_eq_getElem (by omega)
  have h1 := hf j f hj
  rw [ho, hk] at h1
  have hone' : (cs'.drop j).take 1 = [cs'[j]'(by omega)] := by
    rw [List.drop_eq_getElem_cons (by omega)]
    rfl
  rw [hone', List.getElem?_eq_getElem (by omega)] at h1
  refine ⟨_, _, ?_, h1⟩
  rw [← Go.Deep.add_add, hcell, hv]

/-- One raw action in memory. -/
theorem raw_of {n : Nat} {a : Addr} {i : Nat} {cs' : List Value} {y : DataW H × List MemPlace} (hc : W.cells? base (a.add (i * 9)) 9 = some cs') (h : DataW.trod enc Tryz.prog W base spare held n 54 cs' = some y) :
    ∃ (x : Pa.Rw) (fv : Value), Fs W fv x.fates ∧ RwOk x ∧ ∀ (j : Nat) u, (rwCells x fv)[j]? = some u → W.cell? (a.add (i * 9 + j)) = some u := by
  obtain ⟨n', hfd⟩ := field_of Tryz.underlying54 (by kernel_rfl) rfl hc h
  obtain ⟨v0, y0, m0, t0⟩ := hfd 0 _ rfl
  obtain ⟨x0, e0, -, b0⟩ := DataW.trod_int Tryz.underlying3 t0
  cases e0
  obtain ⟨v1, y1, m1, t1⟩ := hfd 1 _ rfl
  obtain ⟨x1, e1, -, b1⟩ := DataW.trod_int Tryz.underlying3 t1
  cases e1
  obtain ⟨v2, y2, m2, t2⟩ := hfd 2 _ rfl
  obtain ⟨x2, e2, -, b2⟩ := DataW.trod_int Tryz.underlying3 t2
  cases e2
  obtain ⟨v3, y3, m3, t3⟩ := hfd 3 _ rfl
  obtain ⟨x3, e3, -, b3⟩ := DataW.trod_int Tryz.underlying3 t3
  cases e3
  obtain ⟨v4, y4, m4, t4⟩ := hfd 4 _ rfl
  obtain ⟨x4, e4, -, b4⟩ := DataW.trod_int Tryz.underlying3 t4
  cases e4
  obtain ⟨v5, y5, m5, t5⟩ := hfd 5 _ rfl
  obtain ⟨x5, e5, -, b5⟩ := DataW.trod_int Tryz.underlying3 t5
  cases e5
  obtain ⟨v6, y6, m6, t6⟩ := hfd 6 _ rfl
  obtain ⟨x6, e6, -, b6⟩ := DataW.trod_int Tryz.underlying3 t6
  cases e6
  obtain ⟨v7, y7, m7, t7⟩ := hfd 7 _ rfl
  obtain ⟨fv, xs, e7, hfs, hxl, hxb⟩ := fs_of t7
  cases e7
  obtain ⟨v8, y8, m8, t8⟩ := hfd 8 _ rfl
  obtain ⟨s, e8, -, b8⟩ := DataW.trod_string Tryz.underlying9 t8
  cases e8
  refine ⟨⟨x0, x1, x2, x3, x4, x5, x6, xs, s⟩, v7, hfs, ⟨bounds_i64 b0, bounds_i64 b1, bounds_i64 b2, bounds_i64 b3, bounds_i64 b4, bounds_i64 b5, bounds_i64 b6, len_of b8, hxl, hxb⟩, fun j u hu => ?_⟩
  match j, hu with
  | 0, hu => cases hu; exact m0
  | 1, hu => cases hu; exact m1
  | 2, hu => cases hu; exact m2
  | 3, hu => cases hu; exact m3
  | 4, hu => cases hu; exact m4
  | 5, hu => cases hu; exact m5
  | 6, hu => cases hu; exact m6
  | 7, hu => cases hu; exact m7
  | 8, hu => cases hu; exact m8
  | j + 9, hu => simp [rwCells] at hu

set_option maxRecDepth 100000 in
/-- A slice of raw actions. -/
theorem raws_of {v : Value} {d : DataW H} {p : List MemPlace} {r : Reach} {b0 : Nat} (hv : Value.okWide Tryz.prog W r b0 22 v) (h : DataW.Trod enc Tryz.prog W base spare held 22 v d p) : ∃ l, Raws W v l := by
  obtain ⟨a0, len, cap, rfl⟩ := okWide_slice Tryz.underlying22 hv
  obtain ⟨fuel, hf⟩ := h
  rcases open_slice Tryz.underlying22 hf with ⟨hcs, -⟩ | ⟨a, len', cap', m, n, D, Pl, hcs, -, hl, hm, hmm, -, hi⟩
  · have : Value.slice a0 len cap = .slice none 0 0 := by simpa [Value.cells] using hcs
    cases this
    exact ⟨[], none, 0, fun _ => .nilIface, rfl, fun j hj => by simp at hj, fun h => absurd rfl h⟩
  · have : Value.slice a0 len cap = .slice (some a) len' cap' := by simpa [Value.cells] using hcs
    cases this
    have hc9 : Tryz.prog.cellsOf 54 = 9 := by kernel_rfl
    rw [hc9] at hi
    have hml : len ≤ m := by rw [hmm]; split <;> omega
    have hX : ∀ i, ∃ q : Pa.Rw × Value, i < len → Fs W q.2 q.1.fates ∧ RwOk q.1 ∧ ∀ (j : Nat) u, (rwCells q.1 q.2)[j]? = some u → W.cell? (a.add (i * 9 + j)) = some u := fun i => by
      by_cases h : i < len
      · obtain ⟨cs', hc, ht⟩ := hi i (by omega)
        obtain ⟨x, fv, h1⟩ := raw_of hc ht
        exact ⟨(x, fv), fun _ => h1⟩
      · exact ⟨(⟨0, 0, 0, 0, 0, 0, 0, [], ⟨#[]⟩⟩, .nilIface), fun h' => absurd h' h⟩
    obtain ⟨X, hX⟩ := Classical.axiomOfChoice hX
    have hg : ∀ (j : Nat) (h : j < ((List.range len).map fun i => (X i).1).length), ((List.range len).map fun i => (X i).1)[j] = (X j).1 := fun j h => by simp
    refine ⟨(List.range len).map fun i => (X i).1, some a, cap, fun j => (X j).2, by simp, fun j hj => ?_, fun h0 => ?_⟩
    · rw [hg j hj]
      have hj' : j < len := by simpa using hj
      exact ⟨(hX j hj').1, (hX j hj').2.1⟩
    · have h1 : 0 < len := by
        rcases Nat.eq_zero_or_pos len with e | e
        · subst e; simp at h0
        · exact e
      have hc0 := (hX 0 h1).2.2 0 _ rfl
      rw [show a.add (0 * 9 + 0) = a from by simp [Addr.add]] at hc0
      obtain ⟨ha, hb⟩ := addr_plain hc0
      refine ⟨a.block, a.off, by rw [← ha], hb, fun j hj i u hu => ?_⟩
      rw [hg j hj] at hu
      have hj' : j < len := by simpa using hj
      have := (hX j hj').2.2 i u hu
      rw [ha, addr_add', ← Nat.add_assoc] at this
      exact this

/-- An argument reads behind the call as it did before it. -/
theorem stays {t : TypeId} {W' : World} {sp' : Nat → Bool} {v : Value} {d : DataW H} {ps before : List MemPlace} (hr : Tryz.prog.readableRec t = true) (hrow : t < Tryz.prog.types.size) (h : DataW.Trod enc Tryz.prog W 0 (fun _ => true) true t v d ps) (hb : Below W.heap.size W W') (hlt : ∀ x ∈ ps, x.block < W.heap.size) (hin : ∀ x ∈ ps, x ∈ before) (hs : ∀ p ∈ before, sp' p.block = true) : DataW.Trod enc Tryz.prog W' 0 sp' true t v d ps :=
  WideElems.Trod_stays (show laidOutB Tryz.prog = true from by kernel_rfl) hr hrow h (fun x hx => hb.same (hlt x hx)) (fun x hx => hs x (hin x hx))
end

end Go.Proofs.YtgajoiijebbagaaGreatDoor
