/-
 The tie of the listed variables to the program's text, one closed fact a text (the given Tie text makes all in one declaration, which takes more memory than there is here). Conditions: none.
-/
import Derived.Test.YtfjdakmmffedkaaGreatDoorGT1
import Derived.Test.YtfjdakmmffedkaaGreatDoorGT2
import Derived.Test.YtfjdakmmffedkaaGreatDoorGT3
import Derived.Test.YtfjdakmmffedkaaGreatDoorGT4
import Derived.Test.YtfjdakmmffedkaaGreatDoorGT5
import Derived.Test.YtfjdakmmffedkaaGreatDoorGT6
import Derived.LaidByTextLater
import Derived.SevenTiedAt
import Derived.Test.YtfjdakmmffedkaaGreatDoorGFA
import Derived.Test.YtfjdakmmffedkaaGreatDoorGRb
import Derived.Test.YtfjdakmmffedkaaGreatDoorGAxE
import Derived.Test.YtfjdakmmffedkaaGreatDoorCards
import Derived.Test.YtfjdakmmffedkaaGreatDoorGJ6
import Derived.Lib.LaidTab
import Derived.Lib.SmallJoins
import Derived.Stop.LaidErr
import Derived.ProofKit
import Derived.SliceStrings
import Derived.OpenShut
import Derived.Deep.DeepHandedRow
import Derived.ChangeSame
import Derived.WideKeyArgs
import Derived.Carry
namespace Go.Proofs.YtfjdakmmffedkaaGreatDoor
open Go
theorem tie' : Tryz.prog.laidByTextLater laidAll Qn1 true :=
 Program.laidByTextLater_by_run_h 400 8 Qzb Qza Qz9 Qz8 Qz7 Qz6 Qz2 Qz5 Qz4 Qz3
theorem row_tie' : Rows.hostReconnectsRow.laidByTextAt .later Tryz.pinned Qn1 true :=
 OpenClaim.laidByTextAt_later rfl rfl tie' Qph
end Go.Proofs.YtfjdakmmffedkaaGreatDoor
namespace Go.Proofs.YtfjdakmmffedkaaGreatDoor
open Go.ChangeShapes Go.WideShapes Go.ChangeAt Go.RowKit Go.Joins
theorem own : ownKnob Tryz.prog.godebug = none := by kernel_rfl
section
variable {H : Type} {enc : TypeId × Value -> H} {P : Program}
theorem post_of_below {f : Func} {s : ChangeSpec} {apart fresh handsOn again : Bool} {W W' : World} {args : Array Value} {v : Value} {ds gs : List (DataW H)} {before pa pv : List MemPlace}
 (hW : DataW.Whole enc P f.params.toList s.vars apart W args.toList ds gs before)
 (hres : ∀ (b : Nat) (sp : Nat -> Bool) (hd : Bool), DataW.TrodAll enc P W' b sp hd f.resultTypes.toList (v.resultList f.resultTypes.size) (s.fn H (ds ++ gs)).results [])
 (hargs : ∀ sp : Nat -> Bool, (∀ p ∈ before, sp p.block = true) -> DataW.TrodAll enc P W' 0 sp true f.params.toList args.toList (s.fn H (ds ++ gs)).args pa)
 (hvars : ∀ sp : Nat -> Bool, (∀ p ∈ before, sp p.block = true) -> DataW.TrodVars enc P W' sp s.vars (s.fn H (ds ++ gs)).vars pv)
 (hps : before = pa ++ pv) (hb : Below W.heap.size W W')
 (hok : ∀ (j : Nat) (t : TypeId) (r : Value), f.resultTypes[j]? = some t -> (v.resultList f.resultTypes.size)[j]? = some r -> Value.okWide P W' .any 0 t r) :
 s.post enc P f apart fresh handsOn again W args v W' := by
 have hlt : ∀ p ∈ before, p.block < W.heap.size := λ p hp => hW.lt p hp
 have hold : ∀ p ∈ before, (λ b => decide (b < W.heap.size)) p.block = true := λ p hp => by simpa using hlt p hp
 refine ⟨ds, gs, before, [], pa, pv, hW, hres _ _ _, hargs _ hold, hvars _ hold, World.keptBut_mono (λ p hp => ⟨hp, ?_⟩) (hb.frame (. ∈ before)), λ _ => ?_⟩
 . rw [hps, List.mem_append] at hp
   exact Or.inr hp
 . obtain ⟨_, _, _, _, _, hz, hn⟩ := hW
   refine ⟨hok, _, _, ([] ++ pa) ++ pv, ⟨[] ++ pa, pv, trodAll_append (hargs _ (λ _ _ => rfl)) (hres _ _ _), hvars _ (λ _ _ => rfl), rfl, ?_, ?_⟩, ?_⟩
   . intro b off hp
     have hin : MemPlace.cell b off ∈ before := by rw [hps]; simpa using hp
     rw [hb.frozen (hlt _ hin)]
     exact hz b off hin
   . intro ha
     have := hn ha
     rw [hps] at this
     simpa using this
   . intro p hp _
     rw [hps]
     simpa using hp
end
section
variable {H : Type} {enc : TypeId × Value -> H} {W : World}
theorem stays {t : TypeId} {W' : World} {sp' : Nat -> Bool} {v : Value} {d : DataW H} {ps before : List MemPlace} (hr : Tryz.prog.readableRec t = true) (hrow : t < Tryz.prog.types.size) (h : DataW.Trod enc Tryz.prog W 0 (λ _ => true) true t v d ps) (hb : Below W.heap.size W W') (hlt : ∀ x ∈ ps, x.block < W.heap.size) (hin : ∀ x ∈ ps, x ∈ before) (hs : ∀ p ∈ before, sp' p.block = true) : DataW.Trod enc Tryz.prog W' 0 sp' true t v d ps :=
 WideElems.Trod_stays Qqf hr hrow h (λ x hx => hb.same (hlt x hx)) (λ x hx => hs x (hin x hx))
end
section
variable {v : Value} {base : Nat} {W : World}
set_option maxRecDepth 100000 in
theorem int_has (h : Value.okWide Tryz.prog W .any base 3 v) : Ax.spI.has v := by
 have h' : Cell.okWide Tryz.prog W .any base 3 v := by
  unfold Value.okWide at h
  rw [Tryz.underlying3] at h
  exact h
 exact Ax.Qio h' (show Ax.spTy Tryz.prog 3 = some Ax.spI by kernel_rfl)
end
theorem cells_int : Tryz.prog.cellsOf 3 = 1 := by kernel_rfl
section
variable {H : Type} {enc : TypeId × Value -> H} {W : World} {base : Nat}
set_option maxRecDepth 100000 in
theorem ints_of {v : Value} {d : DataW H} {p : List MemPlace} {b0 : Nat} (hv : Value.okWide Tryz.prog W .any b0 47 v) (h : DataW.Trod enc Tryz.prog W base (λ _ => true) true 47 v d p) : Qqg W v := by
 obtain ⟨a0, len, cap, rfl⟩ := okWide_slice Tryz.underlying47 hv
 obtain ⟨fuel, hf⟩ := h
 have hf' : DataW.trod enc Tryz.prog W base (λ _ => true) true fuel 47 [.slice a0 len cap] = some (d, p) := by simpa [Value.cells] using hf
 rcases open_ints Tryz.underlying47 Tryz.underlying3 cells_int hf' with ⟨e, -⟩ | ⟨a, len', cap', zs, e, -, hl, hm, hz, -, hcell, hwz⟩
 . cases e
   exact .none
 . cases e
   simp only [if_true] at hz
   have hplace : a.spot = none /\ a.block < W.heap.size := by
    have hv' : Cell.okWide Tryz.prog W .any b0 47 (.slice (some a) len cap) := by
     unfold Value.okWide at hv
     rw [Tryz.underlying47] at hv
     exact hv
    unfold Cell.okWide at hv'
    rw [Tryz.underlying47] at hv'
    simp only at hv'
    unfold Cell.ok at hv'
    rw [Tryz.underlying47] at hv'
    obtain ⟨_, _, _, g1, row, cells, g2, _⟩ := hv'
    refine ⟨g1, ?_⟩
    unfold World.shape? at g2
    split at g2
    . rename_i hh
      exact (Array.getElem?_eq_some_iff.1 hh).1
    . cases g2
   obtain ⟨bk, off, sp⟩ := a
   obtain ⟨g1, g2⟩ := hplace
   simp only at g1 g2
   subst g1
   have hm' : (cap : Int) <= 9223372036854775807 := by unfold maxLen at hm; omega
   have hc : ∀ i, i < cap -> W.cell? ⟨bk, off + i, none⟩ = some (.int .i64 (zs.getD i 0)) := λ i hi => by
    have := hcell i (by omega)
    unfold Addr.add at this
    split at this
    . rename_i h0
      subst h0
      simpa using this
    . exact this
   have hs : ∀ i, -9223372036854775808 <= zs.getD i 0 /\ zs.getD i 0 <= 9223372036854775807 := λ i => by
    rw [List.getD_eq_getElem?_getD]
    cases hh : zs[i]? with
    | none => simp only [Option.getD_none]; omega
    | some z => exact bounds_i64 (hwz z (List.mem_of_getElem? hh))
   rcases Nat.eq_zero_or_pos cap with rfl | h0
   . exact .some bk off len 0 off _ g2 hl hm' hs (Nat.le_refl _) (λ i hi => absurd hi (by omega)) (λ h => absurd h (by omega))
   . have hlast := hc (cap - 1) (by omega)
     unfold World.cell? at hlast
     split at hlast
     . rename_i c el fr hh
       simp only [Option.isSome_none, Bool.false_eq_true, if_false] at hlast
       have hi := (Array.getElem?_eq_some_iff.1 hlast).1
       exact .some bk off len cap c.size _ g2 hl hm' hs (by omega) (λ i hi => hc i (by omega)) (λ _ => ⟨c, el, fr, hh, rfl⟩)
     . cases hlast
end
namespace hostReconnects
open Go.ChangeMaps (open_string shut_string)
set_option maxRecDepth 100000 in
set_option maxHeartbeats 1000000 in
theorem contract (H : Type) (enc : TypeId × Value -> H) (W : World) (base : Nat) (args : Array Value) (ds gs : List (DataW H)) (before : List MemPlace)
 (hval : ∀ (j : Nat) t v, Tryz.f4.params[j]? = some t -> args[j]? = some v -> Value.okWide Tryz.prog W .any base t v)
 (hW : DataW.Whole enc Tryz.prog Tryz.f4.params.toList Rows.hostReconnectsSpec.vars false W args.toList ds gs before) (hL : laidMetH Tryz.prog Rows.hostReconnectsRow.laid W) (hS : W.ShapedOpen Tryz.prog) :
 Calls Tryz.prog 4 args W λ e W' => ∃ v, e = .returned v /\ Rows.hostReconnectsSpec.post enc Tryz.prog Tryz.f4 false true false false W args v W' := by
 obtain ⟨A, N0, hok⟩ := Qrk hL hS
 have hW' := hW
 obtain ⟨p, q, hA0, hV, rfl, hfz, hnd⟩ := hW
 have hA : DataW.TrodAll enc Tryz.prog W 0 (λ _ => true) true Tryz.f4.params.toList args.toList ds p := hA0
 rw [Tryz.params4] at hA hval
 obtain ⟨v0, vs0, d0, ds0, p0, q0, hargs, rfl, rfl, h0, r0⟩ := trodAll_cons hA
 obtain ⟨v1, vs1, d1, ds1, p1, q1, rfl, rfl, rfl, h1, r1⟩ := trodAll_cons r0
 obtain ⟨rfl, rfl, rfl⟩ := trodAll_nil r1
 obtain rfl : args = #[v0, v1] := by cases args; simp_all
 obtain ⟨rfl, rfl⟩ := trodVars_none hV
 have hlt := hW'.lt
 have g0 := int_has (hval 0 3 v0 rfl rfl)
 have g1 := ints_of (hval 1 47 v1 rfl rfl) h1
 clear hA0
 refine (Z59 hok g0 g1).mono λ e W' ⟨u, he, hu, hb⟩ => ?_
 simp only [Ax.Sp.has] at hu
 subst hu
 subst he
 exact ⟨_, rfl, post_of_below (pa := (p0 ++ (p1 ++ []))) (pv := []) hW' (λ _ _ _ => trodAll_cons_mk (shut_bool Tryz.underlying4 _) trodAll_mk0) (λ _ hsp => (trodAll_cons_mk (stays (before := _) (by kernel_rfl) (of_decide_eq_true (by kernel_rfl)) h0 hb (λ x hx => hlt x (by simp [hx])) (λ x hx => by simp [hx]) hsp) (trodAll_cons_mk (stays (before := _) (by kernel_rfl) (of_decide_eq_true (by kernel_rfl)) h1 hb (λ x hx => hlt x (by simp [hx])) (λ x hx => by simp [hx]) hsp) trodAll_mk0))) (λ _ _ => rfl) (by simp) hb (ok_one (by kernel_rfl) rfl (okWide_bool_mk Tryz.underlying4 _))⟩
abbrev zeroArgs : Array Value := #[.int .i64 0, .slice none 0 0]
abbrev zeroData {H : Type} : List (DataW H) := [.lit (.int .i64 0), .nil]
set_option maxRecDepth 100000 in
theorem reads (os : Os) {H : Type} (enc : TypeId × Value -> H) : ∃ places, DataW.whole enc Tryz.prog ((Qn0 os).forCall (λ _ _ => 0) ⟨#[], zeroArgs, []⟩).memory Tryz.f4.params.toList Rows.hostReconnectsSpec.vars false zeroArgs.toList 8 = some (zeroData, [], places) :=
 ⟨[], by kernel_rfl⟩
set_option maxRecDepth 100000 in
theorem lifted (os : Os) (started : os.Started) (H : Type) (enc : TypeId × Value -> H) (F : Stop.Interp) :
 ReturnsInHanded {} Tryz.checked os 4 .any ((OpenSpec.ofChange Rows.hostReconnectsSpec).preRow enc Tryz.prog Tryz.f4 Rows.hostReconnectsRow.domain false Rows.hostReconnectsRow.laid) (((OpenSpec.ofChange Rows.hostReconnectsSpec).at F).post enc Tryz.prog Tryz.f4 false true false false) := by
 obtain ⟨places, hx⟩ := reads os enc
 refine returnsInHanded_of_row (C := Tryz.checked) (s := OpenSpec.ofChange Rows.hostReconnectsSpec) own started Qyl Tryz.func4
  (witness_row_at (enc := enc) (C := Tryz.checked) false (Qn0 os) zeroArgs rfl (by kernel_rfl) (by kernel_rfl) (by kernel_rfl)
   (OpenSpec.preRow_of_cond 8 hx (by kernel_rfl) (λ k hk => by cases hk) (by kernel_rfl) (Qvc os _))) ?_
 intro W base args ds gs before hval hW _ _ _ hL hS _
 exact contract H enc W base args ds gs before hval hW hL hS
set_option maxRecDepth 100000 in
theorem said : Rows.HostReconnectsSaid :=
 OpenClaim.holds_of_cond 4 Tryz.f4 rfl rfl rfl rfl rfl rfl rfl ⟨rfl, rfl, rfl, rfl, rfl⟩ rfl rfl rfl rfl rfl Qt5 Tryz.func4 joined
  (of_decide_eq_true (by kernel_rfl)) (by unfold Func.isWrapper; first | (rw [if_pos (by decide +kernel)]; kernel_rfl) | (rw [if_neg (by decide +kernel)]; exact ⟨rfl, rfl⟩))
  (λ os started H enc _ F => by rw [OpenClaim.pre_eq_preRow]; exact lifted os started H enc F)
set_option maxRecDepth 100000 in
theorem plain (f : FuncId) (fn : Func) (hf : Tryz.pinned.checked.prog.funcNamed "stagepost/stagepostlaw25.HostReconnects" = some f) (hfn : Tryz.pinned.checked.prog.funcs[f]? = some fn) :
 true = Tryz.pinned.checked.prog.looks [] /\ ∀ (j : Nat) t, fn.params[j]? = some t -> Tryz.pinned.checked.prog.wantsStandIn t = false := by
 obtain rfl : f = 4 := Option.some.inj (Qt5.symm.trans hf) |>.symm
 obtain rfl : fn = Tryz.f4 := (Option.some.inj (Tryz.func4.symm.trans hfn)).symm
 refine ⟨Qyj, λ j t ht => ?_⟩
 rw [Tryz.params4] at ht
 have hm := Array.mem_of_getElem? ht
 simp only [List.mem_toArray, List.mem_cons, List.not_mem_nil, or_false] at hm
 rcases hm with rfl | rfl
 . exact (show Tryz.prog.wantsStandIn 3 = false by kernel_rfl)
 . exact (show Tryz.prog.wantsStandIn 47 = false by kernel_rfl)
set_option maxRecDepth 100000 in
theorem card : Rows.HostReconnectsCardSaid :=
 Claim7.holds_tied_plain_at .later [] _ _ _ _ said (λ _ h => by cases h) Qve (λ _ h => by cases h) row_tie' rfl ⟨rfl, rfl⟩ Qvk rfl plain Qyp
end hostReconnects
end Go.Proofs.YtfjdakmmffedkaaGreatDoor
