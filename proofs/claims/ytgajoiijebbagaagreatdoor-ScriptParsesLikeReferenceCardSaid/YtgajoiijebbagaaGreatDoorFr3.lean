/-
  How a slice of integers and an action by value are read as arguments of a statement. Conditions: none.
-/
import Derived.Test.YtgajoiijebbagaaGreatDoorFr2
import Derived.Test.YtgajoiijebbagaaGreatDoorCu2
namespace Go.Proofs.YtgajoiijebbagaaGreatDoor
open Go.ChangeShapes Go.WideShapes Go.ChangeAt Go.RowKit Go.Joins Go.Deep

section
variable {H : Type} {enc : TypeId × Value → H} {W : World} {base : Nat} {spare : Nat → Bool} {held : Bool}

set_option maxRecDepth 100000 in
/-- A slice of integers. -/
theorem ints_of {v : Value} {d : DataW H} {p : List MemPlace} {r : Reach} {b0 : Nat} (hv : Value.okWide Tryz.prog W r b0 25 v) (h : DataW.Trod enc Tryz.prog W base spare held 25 v d p) :
    ∃ xs : List Int, Fs W v xs ∧ xs.length ≤ 9223372036854775807 ∧ ∀ f ∈ xs, -9223372036854775808 ≤ f ∧ f ≤ 9223372036854775807 := by
  obtain ⟨a0, len, cap, rfl⟩ := okWide_slice Tryz.underlying25 hv
  obtain ⟨fuel, hf⟩ := h
  obtain ⟨v, xs, hcs, h1, h2, h3⟩ := fs_of hf
  have : Value.slice a0 len cap = v := by simpa [Value.cells] using hcs
  subst this
  exact ⟨xs, h1, h2, h3⟩

theorem cap_of {fuel : Nat} {cs : List Value} {x : DataW H × List MemPlace} (h : DataW.trod enc Tryz.prog W base spare held fuel 25 cs = some x) : ∃ a len cap, cs = [.slice a len cap] ∧ len ≤ cap := by
  rcases open_ints Tryz.underlying25 Tryz.underlying3 (by kernel_rfl) h with ⟨rfl, -⟩ | ⟨a, len, cap, zs, rfl, -, hl, -⟩
  · exact ⟨_, _, _, rfl, Nat.le_refl _⟩
  · exact ⟨_, _, _, rfl, hl⟩

theorem list13 {α : Type} (l : List α) (h : l.length = 13) : ∃ a b c d e f g h i j k m n, l = [a, b, c, d, e, f, g, h, i, j, k, m, n] := by
  match l, h with
  | [a, b, c, d, e, f, g, h, i, j, k, m, n], _ => exact ⟨_, _, _, _, _, _, _, _, _, _, _, _, _, rfl⟩

/-- The lengths of an action's strings. -/
def AcOk (a : Pa.Ac) : Prop := a.s.size ≤ 9223372036854775807 ∧ a.call.s.size ≤ 9223372036854775807

theorem cI : Tryz.prog.cellsOf 3 = 1 := by kernel_rfl
theorem cS : Tryz.prog.cellsOf 9 = 1 := by kernel_rfl
theorem cF : Tryz.prog.cellsOf 25 = 1 := by kernel_rfl
theorem cC : Tryz.prog.cellsOf 24 = 8 := by kernel_rfl
theorem cA : Tryz.prog.cellsOf 27 = 13 := by kernel_rfl

set_option maxRecDepth 100000 in
/-- An action by value. -/
theorem act_of {v : Value} {d : DataW H} {p : List MemPlace} {r : Reach} {b0 : Nat} (hv : Value.okWide Tryz.prog W r b0 27 v) (h : DataW.Trod enc Tryz.prog W base spare held 27 v d p) :
    ∃ (a : Pa.Ac) (fv : Value), v = acV a fv ∧ FsC W fv a.fates ∧ a.fates.length ≤ 9223372036854775807 ∧ AcOk a := by
  obtain ⟨cs, rfl, hcs⟩ := okWide_struct Tryz.underlying27 hv
  rw [cA] at hcs
  obtain ⟨l⟩ := cs
  obtain ⟨c0, c1, c2, c3, c4, c5, c6, c7, c8, c9, c10, c11, c12, rfl⟩ := list13 l hcs
  obtain ⟨fuel, hf⟩ := h
  have hf : DataW.trod enc Tryz.prog W base spare held fuel 27 [c0, c1, c2, c3, c4, c5, c6, c7, c8, c9, c10, c11, c12] = some (d, p) := by simpa [Value.cells] using hf
  obtain ⟨xs, n, -, -, -, hxl, hfd⟩ := DataW.trod_struct Tryz.underlying27 hf
  have hx : xs.length = 6 := hxl
  have t0 : DataW.trod enc Tryz.prog W base spare held n 3 (([c0, c1, c2, c3, c4, c5, c6, c7, c8, c9, c10, c11, c12].drop 0).take (Tryz.prog.cellsOf 3)) = xs[0]? := hfd 0 _ rfl
  have t1 : DataW.trod enc Tryz.prog W base spare held n 3 (([c0, c1, c2, c3, c4, c5, c6, c7, c8, c9, c10, c11, c12].drop 1).take (Tryz.prog.cellsOf 3)) = xs[1]? := hfd 1 _ rfl
  have t2 : DataW.trod enc Tryz.prog W base spare held n 24 (([c0, c1, c2, c3, c4, c5, c6, c7, c8, c9, c10, c11, c12].drop 2).take (Tryz.prog.cellsOf 24)) = xs[2]? := hfd 2 _ rfl
  have t3 : DataW.trod enc Tryz.prog W base spare held n 3 (([c0, c1, c2, c3, c4, c5, c6, c7, c8, c9, c10, c11, c12].drop 10).take (Tryz.prog.cellsOf 3)) = xs[3]? := hfd 3 _ rfl
  have t4 : DataW.trod enc Tryz.prog W base spare held n 25 (([c0, c1, c2, c3, c4, c5, c6, c7, c8, c9, c10, c11, c12].drop 11).take (Tryz.prog.cellsOf 25)) = xs[4]? := hfd 4 _ rfl
  have t5 : DataW.trod enc Tryz.prog W base spare held n 9 (([c0, c1, c2, c3, c4, c5, c6, c7, c8, c9, c10, c11, c12].drop 12).take (Tryz.prog.cellsOf 9)) = xs[5]? := hfd 5 _ rfl
  rw [List.getElem?_eq_getElem (by omega)] at t0 t1 t2 t3 t4 t5
  rw [cI] at t0 t1 t3
  rw [cC] at t2
  rw [cF] at t4
  rw [cS] at t5
  obtain ⟨x0, e0, -, -⟩ := DataW.trod_int Tryz.underlying3 t0
  obtain ⟨x1, e1, -, -⟩ := DataW.trod_int Tryz.underlying3 t1
  obtain ⟨x3, e3, -, -⟩ := DataW.trod_int Tryz.underlying3 t3
  obtain ⟨fv, zs, e4, hfs, hzl, -⟩ := fs_of t4
  obtain ⟨ga, gl, gc, e4', hgc⟩ := cap_of t4
  obtain ⟨x5, e5, -, b5⟩ := DataW.trod_string Tryz.underlying9 t5
  obtain ⟨ys, n', -, -, -, hyl, hgd⟩ := DataW.trod_struct Tryz.underlying24 t2
  have hy : ys.length = 8 := hyl
  have s0 : DataW.trod enc Tryz.prog W base spare held n' 3 (((([c0, c1, c2, c3, c4, c5, c6, c7, c8, c9, c10, c11, c12].drop 2).take 8).drop 0).take (Tryz.prog.cellsOf 3)) = ys[0]? := hgd 0 _ rfl
  have s1 : DataW.trod enc Tryz.prog W base spare held n' 3 (((([c0, c1, c2, c3, c4, c5, c6, c7, c8, c9, c10, c11, c12].drop 2).take 8).drop 1).take (Tryz.prog.cellsOf 3)) = ys[1]? := hgd 1 _ rfl
  have s2 : DataW.trod enc Tryz.prog W base spare held n' 3 (((([c0, c1, c2, c3, c4, c5, c6, c7, c8, c9, c10, c11, c12].drop 2).take 8).drop 2).take (Tryz.prog.cellsOf 3)) = ys[2]? := hgd 2 _ rfl
  have s3 : DataW.trod enc Tryz.prog W base spare held n' 3 (((([c0, c1, c2, c3, c4, c5, c6, c7, c8, c9, c10, c11, c12].drop 2).take 8).drop 3).take (Tryz.prog.cellsOf 3)) = ys[3]? := hgd 3 _ rfl
  have s4 : DataW.trod enc Tryz.prog W base spare held n' 3 (((([c0, c1, c2, c3, c4, c5, c6, c7, c8, c9, c10, c11, c12].drop 2).take 8).drop 4).take (Tryz.prog.cellsOf 3)) = ys[4]? := hgd 4 _ rfl
  have s5 : DataW.trod enc Tryz.prog W base spare held n' 9 (((([c0, c1, c2, c3, c4, c5, c6, c7, c8, c9, c10, c11, c12].drop 2).take 8).drop 5).take (Tryz.prog.cellsOf 9)) = ys[5]? := hgd 5 _ rfl
  have s6 : DataW.trod enc Tryz.prog W base spare held n' 3 (((([c0, c1, c2, c3, c4, c5, c6, c7, c8, c9, c10, c11, c12].drop 2).take 8).drop 6).take (Tryz.prog.cellsOf 3)) = ys[6]? := hgd 6 _ rfl
  have s7 : DataW.trod enc Tryz.prog W base spare held n' 3 (((([c0, c1, c2, c3, c4, c5, c6, c7, c8, c9, c10, c11, c12].drop 2).take 8).drop 7).take (Tryz.prog.cellsOf 3)) = ys[7]? := hgd 7 _ rfl
  rw [List.getElem?_eq_getElem (by omega)] at s0 s1 s2 s3 s4 s5 s6 s7
  rw [cI] at s0 s1 s2 s3 s4 s6 s7
  rw [cS] at s5
  obtain ⟨z0, f0, -, -⟩ := DataW.trod_int Tryz.underlying3 s0
  obtain ⟨z1, f1, -, -⟩ := DataW.trod_int Tryz.underlying3 s1
  obtain ⟨z2, f2, -, -⟩ := DataW.trod_int Tryz.underlying3 s2
  obtain ⟨z3, f3, -, -⟩ := DataW.trod_int Tryz.underlying3 s3
  obtain ⟨z4, f4, -, -⟩ := DataW.trod_int Tryz.underlying3 s4
  obtain ⟨z5, f5, -, b6⟩ := DataW.trod_string Tryz.underlying9 s5
  obtain ⟨z6, f6, -, -⟩ := DataW.trod_int Tryz.underlying3 s6
  obtain ⟨z7, f7, -, -⟩ := DataW.trod_int Tryz.underlying3 s7
  have hfc : FsC W fv zs := by
    rw [e4] at e4'
    cases e4'
    obtain ⟨a, c, h1, h2⟩ := hfs
    cases h1
    exact ⟨⟨_, _, rfl, h2⟩, _, _, rfl, hgc⟩
  cases e0; cases e1; cases e3; cases e4; cases e5; cases f0; cases f1; cases f2; cases f3; cases f4; cases f5; cases f6; cases f7
  exact ⟨⟨x0, x1, ⟨z0, z1, z2, z3, z4, z5, z6, z7⟩, x3, zs, x5⟩, c11, rfl, hfc, hzl, len_of b5, len_of b6⟩
end

end Go.Proofs.YtgajoiijebbagaaGreatDoor
