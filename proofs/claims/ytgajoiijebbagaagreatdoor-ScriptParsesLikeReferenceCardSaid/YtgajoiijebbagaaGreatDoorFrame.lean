/-
  What all rows of this seat need around the walks: the world of the witness, in which the listed tables are laid; what the row's list gives the walks; how a prefix by value is read. Conditions: none.
-/
import Derived.Test.YtgajoiijebbagaaGreatDoorCards
import Derived.Test.YtgajoiijebbagaaGreatDoorTie
import Derived.Test.YtgajoiijebbagaaGreatDoorWc
import Derived.ProofKit
import Derived.OpenShut
import Derived.Deep.DeepHandedRow
import Derived.Lib.LaidTab
import Derived.Lib.SmallJoins
import Derived.Stop.LaidErr
import Derived.Shelf.LaysM
namespace Go.Proofs.YtgajoiijebbagaaGreatDoor
open Go.ChangeShapes Go.WideShapes Go.ChangeAt Go.RowKit Go.Joins

theorem own : ownKnob Tryz.prog.godebug = none := by kernel_rfl

theorem len_of {s : ByteArray} (h : s.size ≤ maxLen) : s.size ≤ 9223372036854775807 := by unfold maxLen at h; omega

/-- The list of every row of this seat. -/
abbrev laidL : List (String × DataW Unit) := Rows.scriptFieldFormatsRow.laid

theorem gPowType : (Tryz.prog.globals[1]?).map (·.type) = some 142 := by kernel_rfl
theorem cellsPow : Tryz.prog.cellsOf 142 = 20 := by kernel_rfl
theorem cellsU64 : Tryz.prog.cellsOf 124 = 1 := by kernel_rfl
theorem powData : (Rows.laid_internal_strconv_uint64pow10 : DataW Unit) = Lib.tabData .u64 Lib.pow10Tab := by kernel_rfl

theorem gES : Tryz.prog.globalNamed "strconv.ErrSyntax" = some 2 := by kernel_rfl
theorem gESType : (Tryz.prog.globals[2]?).map (·.type) = some 59 := by kernel_rfl
theorem gER : Tryz.prog.globalNamed "strconv.ErrRange" = some 3 := by kernel_rfl
theorem gERType : (Tryz.prog.globals[3]?).map (·.type) = some 59 := by kernel_rfl
theorem star : "*" ++ "errors.errorString" = "*errors.errorString" := by decide
theorem rowE (u : TypeId) (h : Tryz.prog.typeName? 3 u = some "*errors.errorString") : u = 159 :=
  typeName_ptr_named (nm := "errors.errorString") (by rw [star]; kernel_rfl) (by kernel_rfl) (by decide) u (by rw [star]; exact h)
theorem cellsES : Tryz.prog.cellsOf 161 = 1 := by kernel_rfl
theorem cellsStr : Tryz.prog.cellsOf 9 = 1 := by kernel_rfl

theorem ok_of {W : World} (h : laidMetH Tryz.prog laidL W) (hs : W.ShapedOpen Tryz.prog) : Ok W := by
  have h1 : laidMet Tryz.prog laidL W := h
  have h2 := h1.tail.tail
  have h3 : laidMet Tryz.prog (("internal/strconv.uint64pow10", Lib.tabData .u64 Lib.pow10Tab) :: [("unicode/utf8.acceptRanges", Rows.laid_unicode_utf8_acceptRanges), ("strconv.ErrRange", Rows.laid_strconv_ErrRange), ("strconv.ErrSyntax", Rows.laid_strconv_ErrSyntax), ("unicode/utf8.first", Rows.laid_unicode_utf8_first)]) W := by
    rw [← powData]; exact h2
  have ht : Lib.TabIs Tryz.prog W "internal/strconv.uint64pow10" .u64 Lib.pow10Tab := Lib.tabIs_of_head gPow gPowType Tryz.underlying142 Tryz.underlying124 cellsU64 cellsPow h3
  have h4 : laidMet Tryz.prog (("strconv.ErrRange", Rows.laid_strconv_ErrRange) :: [("strconv.ErrSyntax", Rows.laid_strconv_ErrSyntax), ("unicode/utf8.first", Rows.laid_unicode_utf8_first)]) W := h3.tail.tail
  obtain ⟨a1, s1, hv1, -, -, -⟩ := laid_sentinel h4 gER gERType Tryz.underlying59 rowE Tryz.underlying159 Tryz.underlying161 rfl rfl Tryz.underlying9 cellsES cellsStr
  obtain ⟨a2, s2, hv2, -, -, -⟩ := laid_sentinel h4.tail gES gESType Tryz.underlying59 rowE Tryz.underlying159 Tryz.underlying161 rfl rfl Tryz.underlying9 cellsES cellsStr
  have c1 : W.cell? ⟨3, 0, none⟩ = some (.iface 159 (.pointer (some a1))) := by have h0 := World.var?_cell gER hv1 0; simpa using h0
  have c2 : W.cell? ⟨2, 0, none⟩ = some (.iface 159 (.pointer (some a2))) := by have h0 := World.var?_cell gES hv2 0; simpa using h0
  obtain ⟨m, hm⟩ := Go.Proofs.cell_of_shapedOpen_int (P := Tryz.prog) (g := 0) (zero := #[.int .i64 0]) (t := 3) hs (of_decide_eq_true (by kernel_rfl)) (by kernel_rfl) rfl (by kernel_rfl) (by kernel_rfl) Tryz.underlying3
  have : ∀ (g : Nat) v, W.cell? ⟨g, 0, none⟩ = some v → g < W.heap.size := fun g v hv => by
    rcases Nat.lt_or_ge g W.heap.size with h | h
    · exact h
    · simp [World.cell?, Array.getElem?_eq_none h] at hv
  have z0 := this _ _ (ht.cell gPow 0 (by decide))
  have z1 := this _ _ c1
  have z2 := this _ _ c2
  have z3 := this _ _ hm
  exact ⟨by omega, ⟨m, hm⟩, ht, ⟨_, _, c2⟩, ⟨_, _, c1⟩⟩

section
variable {H : Type} {enc : TypeId × Value → H} {P : Program}
/-- The row's last step where what was there is unchanged below the old end. -/
theorem post_of_below {f : Func} {s : ChangeSpec} {apart fresh handsOn again : Bool} {W W' : World} {args : Array Value} {v : Value} {ds gs : List (DataW H)} {before pa pv : List MemPlace}
    (hW : DataW.Whole enc P f.params.toList s.vars apart W args.toList ds gs before)
    (hres : ∀ (b : Nat) (sp : Nat → Bool) (hd : Bool), DataW.TrodAll enc P W' b sp hd f.resultTypes.toList (v.resultList f.resultTypes.size) (s.fn H (ds ++ gs)).results [])
    (hargs : ∀ sp : Nat → Bool, (∀ p ∈ before, sp p.block = true) → DataW.TrodAll enc P W' 0 sp true f.params.toList args.toList (s.fn H (ds ++ gs)).args pa)
    (hvars : ∀ sp : Nat → Bool, (∀ p ∈ before, sp p.block = true) → DataW.TrodVars enc P W' sp s.vars (s.fn H (ds ++ gs)).vars pv)
    (hps : before = pa ++ pv) (hb : Below W.heap.size W W')
    (hok : ∀ (j : Nat) (t : TypeId) (r : Value), f.resultTypes[j]? = some t → (v.resultList f.resultTypes.size)[j]? = some r → Value.okWide P W' .any 0 t r) :
    s.post enc P f apart fresh handsOn again W args v W' := by
  have hlt : ∀ p ∈ before, p.block < W.heap.size := fun p hp => hW.lt p hp
  have hold : ∀ p ∈ before, (fun b => decide (b < W.heap.size)) p.block = true := fun p hp => by simpa using hlt p hp
  refine ⟨ds, gs, before, [], pa, pv, hW, hres _ _ _, hargs _ hold, hvars _ hold, World.keptBut_mono (fun p hp => ⟨hp, ?_⟩) (hb.frame (· ∈ before)), fun _ => ?_⟩
  · rw [hps, List.mem_append] at hp
    exact Or.inr hp
  · obtain ⟨_, _, _, _, _, hz, hn⟩ := hW
    refine ⟨hok, _, _, ([] ++ pa) ++ pv, ⟨[] ++ pa, pv, trodAll_append (hargs _ (fun _ _ => rfl)) (hres _ _ _), hvars _ (fun _ _ => rfl), rfl, ?_, ?_⟩, ?_⟩
    · intro b off hp
      have hin : MemPlace.cell b off ∈ before := by rw [hps]; simpa using hp
      rw [hb.frozen (hlt _ hin)]
      exact hz b off hin
    · intro ha
      have := hn ha
      rw [hps] at this
      simpa using this
    · intro p hp _
      rw [hps]
      simpa using hp
end

/-- THE WITNESS's WORLD: the settled one, the listed tables holding what their initialisers lay. -/
def lay (g : Nat) (cs : Array Value) (h : Array Obj) : Array Obj := h.modify g fun
  | .cells _ t fr => .cells cs t fr
  | o => o
def numsOf {H : Type} : DataW H → List Value
  | .agg l => l.map fun | .lit (.int k n) => Value.int k n | _ => undef
  | _ => []
def pairsOf {H : Type} : DataW H → List Value
  | .agg l => (l.map numsOf).flatten
  | _ => []
abbrev rangeS : ByteArray := { data := #[118, 97, 108, 117, 101, 32, 111, 117, 116, 32, 111, 102, 32, 114, 97, 110, 103, 101] }
abbrev syntaxS : ByteArray := { data := #[105, 110, 118, 97, 108, 105, 100, 32, 115, 121, 110, 116, 97, 120] }
noncomputable def low : Nat := (World.holding Tryz.prog default ⟨#[], #[], []⟩).heap.size
noncomputable def laidHeap (h : Array Obj) : Array Obj :=
  lay 1 (numsOf (H := Unit) Rows.laid_internal_strconv_uint64pow10).toArray
  (lay 4 (numsOf Rows.laid_unicode_utf8_first).toArray
  (lay 5 (pairsOf (H := Unit) Rows.laid_unicode_utf8_acceptRanges).toArray
  (lay 3 #[.iface 159 (.pointer (some ⟨low, 0, none⟩))]
  (lay 2 #[.iface 159 (.pointer (some ⟨low + 1, 0, none⟩))]
  (lay 6 (numsOf (H := Unit) Rows.laid_math_bits_deBruijn32tab).toArray
  (lay 7 (numsOf (H := Unit) Rows.laid_math_bits_deBruijn64tab).toArray h))))))
noncomputable def laidWorld (os : Os) : World :=
  let w0 := World.holding Tryz.prog os ⟨#[.cells #[.string rangeS] 161, .cells #[.string syntaxS] 161], #[], []⟩
  { w0 with heap := laidHeap w0.heap }
set_option maxRecDepth 100000 in
theorem laid_met (os : Os) (args : Array Value) : laidMet Tryz.prog laidL ((laidWorld os).forCall (fun _ _ => 0) ⟨#[], args, []⟩).memory :=
  laidMet_of_run' 8 (by kernel_rfl) (by kernel_rfl)

end Go.Proofs.YtgajoiijebbagaaGreatDoor
