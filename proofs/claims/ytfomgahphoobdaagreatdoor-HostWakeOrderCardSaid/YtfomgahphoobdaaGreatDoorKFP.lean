/-
  The tie of the listed variables to the program's text, one closed fact a text (the given Tie text makes all in one declaration, which takes more memory than there is here). Conditions: none.
-/
import Derived.Test.YtfomgahphoobdaaGreatDoorKT1
import Derived.Test.YtfomgahphoobdaaGreatDoorKT2
import Derived.Test.YtfomgahphoobdaaGreatDoorKT3
import Derived.Test.YtfomgahphoobdaaGreatDoorKT4
import Derived.Test.YtfomgahphoobdaaGreatDoorKT5
import Derived.Test.YtfomgahphoobdaaGreatDoorKT6
import Derived.LaidByTextLater
import Derived.SevenTiedAt
import Derived.Test.YtfomgahphoobdaaGreatDoorKFA
import Derived.Test.YtfomgahphoobdaaGreatDoorKWb
import Derived.Test.YtfomgahphoobdaaGreatDoorKAxE
import Derived.Test.YtfomgahphoobdaaGreatDoorCards
import Derived.Test.YtfomgahphoobdaaGreatDoorKJ6
import Derived.Lib.LaidTab
import Derived.Lib.SmallJoins
import Derived.Stop.LaidErr
import Derived.ProofKit
import Derived.SliceStrings
import Derived.OpenShut
import Derived.Deep.DeepHandedRow
import Derived.ChangeSame
import Derived.WideKeyArgs
import Derived.Carry
namespace Go.Proofs.YtfomgahphoobdaaGreatDoor
open Go
theorem tie' : Tryz.prog.laidByTextLater laidAll laidKindsAll true :=
  Program.laidByTextLater_by_run_h 400 8 tie_a1 tie_a2 tie_a3 tie_a4 tie_a5 tie_a6 tie_hd tie_h1 tie_h2 tie_h3
theorem row_tie' : Rows.hostWakeOrderRow.laidByTextAt .later Tryz.pinned laidKindsAll true :=
  OpenClaim.laidByTextAt_later rfl rfl tie' noOwnUnsafe'
end Go.Proofs.YtfomgahphoobdaaGreatDoor

/-! THE LAW HostWakeOrder: for every input the call returns true, and the argument reads afterwards as it read before; the tied card. Conditions: those of the given row (the listed variables are laid, which the card ties to the program's text). -/
namespace Go.Proofs.YtfomgahphoobdaaGreatDoor
open Go.ChangeShapes Go.WideShapes Go.ChangeAt Go.RowKit Go.Joins
theorem own : ownKnob Tryz.prog.godebug = none := by kernel_rfl
section
variable {H : Type} {enc : TypeId × Value → H} {P : Program}
theorem post_of_below {f : Func} {s : ChangeSpec} {apart fresh handsOn again : Bool} {W W' : World} {args : Array Value} {v : Value} {ds gs : List (DataW H)} {before pa pv : List MemPlace}
    (hW : DataW.Whole enc P f.params.toList s.vars apart W args.toList ds gs before)
    (hres : ∀ (b : Nat) (sp : Nat → Bool) (hd : Bool), DataW.TrodAll enc P W' b sp hd f.resultTypes.toList (v.resultList f.resultTypes.size) (s.fn H (ds ++ gs)).results [])
    (hargs : ∀ sp : Nat → Bool, (∀ p ∈ before, sp p.block = true) → DataW.TrodAll enc P W' 0 sp true f.params.toList args.toList (s.fn H (ds ++ gs)).args pa)
    (hvars : ∀ sp : Nat → Bool, (∀ p ∈ before, sp p.block = true) → DataW.TrodVars enc P W' sp s.vars (s.fn H (ds ++ gs)).vars pv)
    (hps : before = pa ++ pv) (hb : Below W.heap.size W W')
    (hok : ∀ (j : Nat) (t : TypeId) (r : Value), f.resultTypes[j]? = some t → (v.resultList f.resultTypes.size)[j]? = some r → Value.okWide P W' .any 0 t r) :
    s.post enc P f apart fresh handsOn again W args v W' := by
  have hlt : ∀ p ∈ before, p.block < W.heap.size := fun p hp => hW.lt p hp
  have hold : ∀ p ∈ before, (fun b => decide (b < W.heap.size)) p.block = true := fun p hp => by simpa using hlt p hp
  refine ⟨ds, gs, before, [], pa, pv, hW, hres _ _ _, hargs _ hold, hvars _ hold, World.keptBut_mono (fun p hp => ⟨hp, ?_⟩) (hb.frame (· ∈ before)), fun _ => ?_⟩
  · rw [hps, List.mem_append] at hp
    exact Or.inr hp
  · obtain ⟨_, _, _, _, _, hz, hn⟩ := hW
    refine ⟨hok, _, _, ([] ++ pa) ++ pv, ⟨[] ++ pa, pv, trodAll_append (hargs _ (fun _ _ => rfl)) (hres _ _ _), hvars _ (fun _ _ => rfl), rfl, ?_, ?_⟩, ?_⟩
    · intro b off hp
      have hin : MemPlace.cell b off ∈ before := by rw [hps]; simpa using hp
      rw [hb.frozen (hlt _ hin)]
      exact hz b off hin
    · intro ha
      have := hn ha
      rw [hps] at this
      simpa using this
    · intro p hp _
      rw [hps]
      simpa using hp
end
section
variable {H : Type} {enc : TypeId × Value → H} {W : World}
theorem stays {t : TypeId} {W' : World} {sp' : Nat → Bool} {v : Value} {d : DataW H} {ps before : List MemPlace} (hr : Tryz.prog.readableRec t = true) (hrow : t < Tryz.prog.types.size) (h : DataW.Trod enc Tryz.prog W 0 (fun _ => true) true t v d ps) (hb : Below W.heap.size W W') (hlt : ∀ x ∈ ps, x.block < W.heap.size) (hin : ∀ x ∈ ps, x ∈ before) (hs : ∀ p ∈ before, sp' p.block = true) : DataW.Trod enc Tryz.prog W' 0 sp' true t v d ps :=
  WideElems.Trod_stays laid_out hr hrow h (fun x hx => hb.same (hlt x hx)) (fun x hx => hs x (hin x hx))
end
section
variable {v : Value} {base : Nat} {W : World}
set_option maxRecDepth 100000 in
theorem int_has (h : Value.okWide Tryz.prog W .any base 3 v) : Ax.spI.has v := by
  have h' : Cell.okWide Tryz.prog W .any base 3 v := by
    unfold Value.okWide at h
    rw [Tryz.underlying3] at h
    exact h
  exact Ax.has_of_cell h' (show Ax.spTy Tryz.prog 3 = some Ax.spI by kernel_rfl)
end
theorem cells_string : Tryz.prog.cellsOf 9 = 1 := by kernel_rfl
theorem eight : Tryz.prog.globals.size = 8 := by kernel_rfl
theorem row_triples : Tryz.prog.cellTypes Tryz.prog.depth 756 = some (List.replicate 48 3) := by kernel_rfl
section
variable {W : World} {bk off cap : Nat}
set_option maxRecDepth 100000 in
theorem not_var (hS : W.ShapedOpen Tryz.prog) {row cells : Nat} (hsh : W.shape? bk = some (row, cells)) (hlies : liesAt Tryz.prog Tryz.prog.depth row (cells / Tryz.prog.cellsOf row) off 9 cap = true) (h0 : 0 < cap)
    (hc : ∀ i, i < cap → ∃ s, W.cell? ⟨bk, off + i, none⟩ = some (.string s)) : 8 ≤ bk := by
  rcases Nat.lt_or_ge bk 8 with hlt | h
  · exfalso
    have hg : bk < Tryz.prog.globals.size := by rw [eight]; exact hlt
    have one : ∀ zero t, ((begin Tryz.prog (fun _ _ => 0) default).world.heap[bk]?).bind Obj.row? = some (zero, t) → zero.size = 1 → liesAt Tryz.prog Tryz.prog.depth t (1 / Tryz.prog.cellsOf t) 0 9 1 = false → False := fun zero t hr hz hl => by
      obtain ⟨cs, h1, h2, -⟩ := hS.1 bk zero t hg hr
      have e : cs.size = 1 := h2.trans hz
      obtain ⟨s, hs⟩ := hc (cap - 1) (by omega)
      unfold World.shape? at hsh
      simp only [h1, Option.some.injEq, Prod.mk.injEq] at hsh
      obtain ⟨rfl, rfl⟩ := hsh
      unfold World.cell? at hs
      simp only [h1, Option.isSome_none, Bool.false_eq_true, if_false] at hs
      have hi := (Array.getElem?_eq_some_iff.1 hs).1
      have e1 : off = 0 := by omega
      have e2 : cap = 1 := by omega
      subst e1
      subst e2
      rw [e, hl] at hlies
      cases hlies
    have : bk = 0 ∨ bk = 1 ∨ bk = 2 ∨ bk = 3 ∨ bk = 4 ∨ bk = 5 ∨ bk = 6 ∨ bk = 7 := by omega
    rcases this with rfl | rfl | rfl | rfl | rfl | rfl | rfl | rfl
    · exact one #[.nilIface] 266 (by kernel_rfl) rfl (by kernel_rfl)
    · exact one #[.nilIface] 380 (by kernel_rfl) rfl (by kernel_rfl)
    · exact one #[.nilIface] 266 (by kernel_rfl) rfl (by kernel_rfl)
    · exact one #[.nilIface] 266 (by kernel_rfl) rfl (by kernel_rfl)
    · exact one #[.nilIface] 266 (by kernel_rfl) rfl (by kernel_rfl)
    · exact one #[.nilIface] 266 (by kernel_rfl) rfl (by kernel_rfl)
    · obtain ⟨cs, h1, -, h3⟩ := hS.1 6 (Array.replicate 48 (.int .i64 0)) 756 hg (by kernel_rfl)
      obtain ⟨ts, e1, -, e3⟩ := h3 (by kernel_rfl)
      rw [row_triples] at e1
      cases e1
      obtain ⟨s, hs⟩ := hc 0 h0
      unfold World.cell? at hs
      simp only [h1, Option.isSome_none, Bool.false_eq_true, if_false] at hs
      obtain ⟨u, hu, hok⟩ := e3 _ _ hs
      rw [List.getElem?_replicate] at hu
      split at hu
      · cases hu
        unfold Cell.ok at hok
        rw [Tryz.underlying3] at hok
        exact hok
      · cases hu
    · exact one #[.int .i64 0] 3 (by kernel_rfl) rfl (by kernel_rfl)
  · exact h
end
section
variable {H : Type} {enc : TypeId × Value → H} {W : World} {base : Nat}
set_option maxRecDepth 100000 in
theorem texts_of {v : Value} {d : DataW H} {p : List MemPlace} {b0 : Nat} (hS : W.ShapedOpen Tryz.prog) (hv : Value.okWide Tryz.prog W .any b0 58 v) (h : DataW.Trod enc Tryz.prog W base (fun _ => true) true 58 v d p) : WkTexts W v := by
  obtain ⟨a0, len, cap, rfl⟩ := okWide_slice Tryz.underlying58 hv
  obtain ⟨fuel, hf⟩ := h
  have hf' : DataW.trod enc Tryz.prog W base (fun _ => true) true fuel 58 [.slice a0 len cap] = some (d, p) := by simpa [Value.cells] using hf
  rcases Go.ChangeShapes.open_strings Tryz.underlying58 Tryz.underlying9 cells_string hf' with ⟨e, -⟩ | ⟨a, len', cap', ss, e, -, hl, hm, hss, -, hcell, hsz⟩
  · cases e
    exact .none
  · cases e
    have hplace : a.spot = none ∧ ∃ row cells, W.shape? a.block = some (row, cells) ∧ liesAt Tryz.prog Tryz.prog.depth row (cells / Tryz.prog.cellsOf row) a.off 9 cap = true := by
      have hv' : Cell.okWide Tryz.prog W .any b0 58 (.slice (some a) len cap) := by
        unfold Value.okWide at hv
        rw [Tryz.underlying58] at hv
        exact hv
      unfold Cell.okWide at hv'
      rw [Tryz.underlying58] at hv'
      simp only at hv'
      unfold Cell.ok at hv'
      rw [Tryz.underlying58] at hv'
      obtain ⟨_, _, _, g1, row, cells, g2, g3⟩ := hv'
      exact ⟨g1, row, cells, g2, g3⟩
    obtain ⟨bk, off, sp⟩ := a
    obtain ⟨g1, row, cells, g2, g3⟩ := hplace
    simp only at g1 g2 g3
    subst g1
    simp only [if_true] at hss
    have hb : bk < W.heap.size := by
      unfold World.shape? at g2
      split at g2
      · rename_i hh
        exact (Array.getElem?_eq_some_iff.1 hh).1
      · cases g2
    have hc : ∀ i, i < cap → W.cell? ⟨bk, off + i, none⟩ = some (.string (ss.getD i ByteArray.empty)) := fun i hi => by
      have := hcell i (by omega)
      unfold Addr.add at this
      split at this
      · rename_i h0
        subst h0
        simpa using this
      · exact this
    have hs : ∀ i, (ss.getD i ByteArray.empty).size ≤ 9223372036854775807 := fun i => by
      rw [List.getD_eq_getElem?_getD]
      cases hh : ss[i]? with
      | none => exact Nat.zero_le _
      | some s =>
        have := hsz s (List.mem_of_getElem? hh)
        unfold maxLen at this
        simp only [Option.getD_some]
        omega
    have hm' : (cap : Int) ≤ 9223372036854775807 := by unfold maxLen at hm; omega
    rcases Nat.eq_zero_or_pos cap with rfl | h0
    · exact .some bk off len 0 off _ hb hl hm' hs (Nat.le_refl _) (fun i hi => absurd hi (by omega)) (fun h => absurd h (by omega))
    · have hlast := hc (cap - 1) (by omega)
      unfold World.cell? at hlast
      split at hlast
      · rename_i c el fr hh
        simp only [Option.isSome_none, Bool.false_eq_true, if_false] at hlast
        have hi := (Array.getElem?_eq_some_iff.1 hlast).1
        exact .some bk off len cap c.size _ hb hl hm' hs (by omega) (fun i hi => hc i (by omega)) (fun _ => ⟨not_var hS g2 g3 h0 (fun i hi => ⟨_, hc i hi⟩), c, el, fr, hh, rfl⟩)
      · cases hlast
end
section
variable {v : Value} {base : Nat} {W : World}
set_option maxRecDepth 100000 in
theorem bool_has (h : Value.okWide Tryz.prog W .any base 4 v) : ∃ β, v = .bool β := by
  have h' : Cell.okWide Tryz.prog W .any base 4 v := by
    unfold Value.okWide at h
    rw [Tryz.underlying4] at h
    exact h
  have := Ax.has_of_cell h' (show Ax.spTy Tryz.prog 4 = some Ax.Sp.bool by kernel_rfl)
  simpa only [Ax.Sp.has] using this
end
namespace hostWakeOrder
open Go.ChangeMaps (open_string shut_string)
set_option maxRecDepth 100000 in
set_option maxHeartbeats 1000000 in
theorem contract (H : Type) (enc : TypeId × Value → H) (W : World) (base : Nat) (args : Array Value) (ds gs : List (DataW H)) (before : List MemPlace)
    (hval : ∀ (j : Nat) t v, Tryz.f4.params[j]? = some t → args[j]? = some v → Value.okWide Tryz.prog W .any base t v)
    (hW : DataW.Whole enc Tryz.prog Tryz.f4.params.toList Rows.hostWakeOrderSpec.vars false W args.toList ds gs before) (hL : laidMetH Tryz.prog Rows.hostWakeOrderRow.laid W) (hS : W.ShapedOpen Tryz.prog) :
    Calls Tryz.prog 4 args W fun e W' => ∃ v, e = .returned v ∧ Rows.hostWakeOrderSpec.post enc Tryz.prog Tryz.f4 false true false false W args v W' := by
  obtain ⟨A, N0, hok⟩ := laid_first hL hS
  have hW' := hW
  obtain ⟨p, q, hA0, hV, rfl, hfz, hnd⟩ := hW
  have hA : DataW.TrodAll enc Tryz.prog W 0 (fun _ => true) true Tryz.f4.params.toList args.toList ds p := hA0
  rw [Tryz.params4] at hA hval
  obtain ⟨v0, vs0, d0, ds0, p0, q0, hargs, rfl, rfl, h0, r0⟩ := trodAll_cons hA
  obtain ⟨v1, vs1, d1, ds1, p1, q1, rfl, rfl, rfl, h1, r1⟩ := trodAll_cons r0
  obtain ⟨v2, vs2, d2, ds2, p2, q2, rfl, rfl, rfl, h2, r2⟩ := trodAll_cons r1
  obtain ⟨rfl, rfl, rfl⟩ := trodAll_nil r2
  obtain rfl : args = #[v0, v1, v2] := by cases args; simp_all
  obtain ⟨rfl, rfl⟩ := trodVars_none hV
  have hlt := hW'.lt
  have g0 := texts_of hS (hval 0 58 v0 rfl rfl) h0
  have g1 := int_has (hval 1 3 v1 rfl rfl)
  obtain ⟨β, rfl⟩ := bool_has (hval 2 4 v2 rfl rfl)
  clear hA0
  refine (wk_any β hok g0 g1).mono fun e W' ⟨u, he, hu, hb⟩ => ?_
  simp only [Ax.Sp.has] at hu
  subst hu
  subst he
  exact ⟨_, rfl, post_of_below (pa := (p0 ++ (p1 ++ (p2 ++ [])))) (pv := []) hW' (fun _ _ _ => trodAll_cons_mk (shut_bool Tryz.underlying4 _) trodAll_mk0) (fun _ hsp => (trodAll_cons_mk (stays (before := _) (by kernel_rfl) (of_decide_eq_true (by kernel_rfl)) h0 hb (fun x hx => hlt x (by simp [hx])) (fun x hx => by simp [hx]) hsp) (trodAll_cons_mk (stays (before := _) (by kernel_rfl) (of_decide_eq_true (by kernel_rfl)) h1 hb (fun x hx => hlt x (by simp [hx])) (fun x hx => by simp [hx]) hsp) (trodAll_cons_mk (stays (before := _) (by kernel_rfl) (of_decide_eq_true (by kernel_rfl)) h2 hb (fun x hx => hlt x (by simp [hx])) (fun x hx => by simp [hx]) hsp) trodAll_mk0)))) (fun _ _ => rfl) (by simp) hb (ok_one (by kernel_rfl) rfl (okWide_bool_mk Tryz.underlying4 _))⟩
abbrev zeroArgs : Array Value := #[.slice none 0 0, .int .i64 0, .bool false]
abbrev zeroData {H : Type} : List (DataW H) := [.nil, .lit (.int .i64 0), .lit (.bool false)]
set_option maxRecDepth 100000 in
theorem reads (os : Os) {H : Type} (enc : TypeId × Value → H) : ∃ places, DataW.whole enc Tryz.prog ((laidWorld os).forCall (fun _ _ => 0) ⟨#[], zeroArgs, []⟩).memory Tryz.f4.params.toList Rows.hostWakeOrderSpec.vars false zeroArgs.toList 8 = some (zeroData, [], places) :=
  ⟨[], by kernel_rfl⟩
set_option maxRecDepth 100000 in
theorem lifted (os : Os) (started : os.Started) (H : Type) (enc : TypeId × Value → H) (F : Stop.Interp) :
    ReturnsInHanded {} Tryz.checked os 4 .any ((OpenSpec.ofChange Rows.hostWakeOrderSpec).preRow enc Tryz.prog Tryz.f4 Rows.hostWakeOrderRow.domain false Rows.hostWakeOrderRow.laid) (((OpenSpec.ofChange Rows.hostWakeOrderSpec).at F).post enc Tryz.prog Tryz.f4 false true false false) := by
  obtain ⟨places, hx⟩ := reads os enc
  refine returnsInHanded_of_row (C := Tryz.checked) (s := OpenSpec.ofChange Rows.hostWakeOrderSpec) own started j_inits Tryz.func4
    (witness_row_at (enc := enc) (C := Tryz.checked) false (laidWorld os) zeroArgs rfl (by kernel_rfl) (by kernel_rfl) (by kernel_rfl)
      (OpenSpec.preRow_of_cond 8 hx (by kernel_rfl) (fun k hk => by cases hk) (by kernel_rfl) (laid_met os _))) ?_
  intro W base args ds gs before hval hW _ _ _ hL hS _
  exact contract H enc W base args ds gs before hval hW hL hS
set_option maxRecDepth 100000 in
theorem said : Rows.HostWakeOrderSaid :=
  OpenClaim.holds_of_cond 4 Tryz.f4 rfl rfl rfl rfl rfl rfl rfl ⟨rfl, rfl, rfl, rfl, rfl⟩ rfl rfl rfl rfl rfl j_func Tryz.func4 joined
    (of_decide_eq_true (by kernel_rfl)) (by unfold Func.isWrapper; first | (rw [if_pos (by decide +kernel)]; kernel_rfl) | (rw [if_neg (by decide +kernel)]; exact ⟨rfl, rfl⟩))
    (fun os started H enc _ F => by rw [OpenClaim.pre_eq_preRow]; exact lifted os started H enc F)
set_option maxRecDepth 100000 in
theorem plain (f : FuncId) (fn : Func) (hf : Tryz.pinned.checked.prog.funcNamed "stagepost/stagepostlaw25.HostWakeOrder" = some f) (hfn : Tryz.pinned.checked.prog.funcs[f]? = some fn) :
    true = Tryz.pinned.checked.prog.looks [] ∧ ∀ (j : Nat) t, fn.params[j]? = some t → Tryz.pinned.checked.prog.wantsStandIn t = false := by
  obtain rfl : f = 4 := Option.some.inj (j_func.symm.trans hf) |>.symm
  obtain rfl : fn = Tryz.f4 := (Option.some.inj (Tryz.func4.symm.trans hfn)).symm
  refine ⟨j_looks, fun j t ht => ?_⟩
  rw [Tryz.params4] at ht
  have hm := Array.mem_of_getElem? ht
  simp only [List.mem_toArray, List.mem_cons, List.not_mem_nil, or_false] at hm
  rcases hm with rfl | rfl | rfl
  · exact (show Tryz.prog.wantsStandIn 58 = false by kernel_rfl)
  · exact (show Tryz.prog.wantsStandIn 3 = false by kernel_rfl)
  · exact (show Tryz.prog.wantsStandIn 4 = false by kernel_rfl)
set_option maxRecDepth 100000 in
theorem card : Rows.HostWakeOrderCardSaid :=
  Claim7.holds_tied_plain_at .later [] _ _ _ _ said (fun _ h => by cases h) j_wfText (fun _ h => by cases h) row_tie' rfl ⟨rfl, rfl⟩ j_mainIs rfl plain goes_ok
end hostWakeOrder
end Go.Proofs.YtfomgahphoobdaaGreatDoor
