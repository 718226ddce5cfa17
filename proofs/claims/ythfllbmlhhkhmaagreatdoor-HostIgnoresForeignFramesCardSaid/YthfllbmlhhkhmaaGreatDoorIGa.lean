/-
  slices.Sorted(maps.Keys(m)) at the two map types of the program: the keys, sorted, in new memory. Conditions: none.
-/
import Derived.Test.YthfllbmlhhkhmaaGreatDoorILz
import Derived.Test.YthfllbmlhhkhmaaGreatDoorIAxG
import Derived.Test.YthfllbmlhhkhmaaGreatDoorISC
import Derived.Test.YthfllbmlhhkhmaaGreatDoorIAxE
import Derived.Test.YthfllbmlhhkhmaaGreatDoorIAxF
import Derived.Test.YthfllbmlhhkhmaaGreatDoorITabsOK
import Derived.Test.YthfllbmlhhkhmaaGreatDoorIWA
import Derived.Test.YthfllbmlhhkhmaaGreatDoorIWB
import Derived.Test.YthfllbmlhhkhmaaGreatDoorIEx
namespace Go.Proofs.YthfllbmlhhkhmaaGreatDoor
open Go Go.RowKit Go.Maps Go.Sort Go.Shelf Go.Proofs
theorem sortsA (m : Nat) : AnyZI.SortsIn Tryz.prog Tryz.sortedA_ren Fence.wide m :=
  ⟨fun blk off cap ss W hH hblk hsz => callsIn_wide.2 (AnyM.slices_Sort_int Tryz.sortA blk off cap ss W hH hblk hsz),
   fun p cap W => callsIn_wide.2 (AnyM.slices_Sort_int_none Tryz.sortA p cap W)⟩
abbrev valR : Value → Option (DataW Unit × List MemPlace) := fun _ => some (.nil, [])
theorem rd_int {x : MapEntry} {z : Int} (h : x.key = .int .i64 z) (h1 : -9223372036854775808 ≤ z) (h2 : z ≤ 9223372036854775807) : WideElems.rd Tryz.prog 3 valR x = some (.int .i64 z, .nil) := by
  have hk : keyOf Tryz.prog 3 x.key = some (.int .i64 z) := by
    rw [h]
    exact keyOf_int_mk Tryz.underlying3 (by simp [Lit.wf, IntKind.min, IntKind.max, IntKind.signed, IntKind.bits]; omega)
  simp only [WideElems.rd, hk, Option.bind_some, Option.map_some]
theorem owns_ints {w : World} {b clock : Nat} {es : Array MapEntry} {ks : List Int} (hb : w.heap[b]? = some (.map es clock)) (hs : es.size ≤ 1000000) (hst : MapKept.Stamped es clock) (hk : es.toList.map (·.key) = ks.map (Value.int .i64)) (hw : ∀ z ∈ ks, -9223372036854775808 ≤ z ∧ z ≤ 9223372036854775807) :
    ∃ D0 : DataW Unit, w.ownsMap Tryz.prog 3 valR b es.size D0 ∧ (intKeys D0).Perm ks ∧ Maps.size D0 = es.size := by
  have hall : ∀ {l : List MapEntry} {ks : List Int}, l.map (·.key) = ks.map (Value.int .i64) → (∀ z ∈ ks, -9223372036854775808 ≤ z ∧ z ≤ 9223372036854775807) → l.map (WideElems.rg Tryz.prog 3 valR) = ks.map (fun z => (Lit.int .i64 z, DataW.nil)) ∧ ∀ x ∈ l, ∃ y, WideElems.rd Tryz.prog 3 valR x = some y := by
    intro l
    induction l with
    | nil => intro ks h _; cases ks with
      | nil => exact ⟨rfl, fun x hx => (by cases hx)⟩
      | cons z ks => simp at h
    | cons x l ih =>
      intro ks h hw
      cases ks with
      | nil => simp at h
      | cons z ks =>
        simp only [List.map_cons, List.cons.injEq] at h
        obtain ⟨i1, i2⟩ := ih h.2 fun y hy => hw y (by simp [hy])
        have hz := hw z (by simp)
        have hr := rd_int h.1 hz.1 hz.2
        refine ⟨by simp only [List.map_cons, WideElems.rg, hr, Option.getD_some]; rw [← i1], fun y hy => ?_⟩
        rcases List.mem_cons.1 hy with rfl | hy
        · exact ⟨_, hr⟩
        · exact i2 y hy
  obtain ⟨a1, a2⟩ := hall hk hw
  refine ⟨_, ⟨es, clock, hb, ⟨by unfold maxLen; omega, hst, a2⟩, Nat.le_refl _, rfl⟩, ?_, ?_⟩
  · simp only [intKeys]
    rw [a1]
    have hp := (WideShapes.sorted_perm (H := Unit) (ks.map (fun z => (Lit.int .i64 z, DataW.nil)))).map (fun p => Go.intOf p.1)
    refine hp.trans ?_
    rw [List.map_map]
    have : ((fun p : Lit × DataW Unit => Go.intOf p.1) ∘ fun z => (Lit.int .i64 z, DataW.nil)) = id := by funext z; rfl
    rw [this, List.map_id]
  · simp only [Maps.size]
    rw [(WideShapes.sorted_perm _).length_eq]
    simp
theorem sorted_of {g Bm : Nat} {w : World} {n : Nat} {S : List Int → Prop} (hn : n ≤ 1000000) (eg : ∀ args w, (callFunc g args).run Tryz.prog w = .ok (.enter g args) w) (hseq : SeqGives Fence.wide 2 Tryz.prog g #[.pointer (some ⟨Bm, 0, none⟩)] encZ S n w) :
    Calls Tryz.prog 223 #[.func (.func g) #[] #[.pointer (some ⟨Bm, 0, none⟩)]] w fun e w' => ∃ (v : Value) (ss : List Int), e = .returned v ∧ S ss ∧ w'.ownsRow w.heap.size 3 1 v ss.length ((ss.mergeSort (fun x y => decide (x ≤ y))).map (Value.int .i64)) ∧ (v = .slice none 0 0 ↔ ss = []) ∧ Below w.heap.size w w' :=
  (callsIn_wide (n := 5)).1 (AnyZI.sorted_in Tryz.sortedA Fence.wide 5 trivial trivial trivial trivial rfl (by omega) (sortsA _) Tryz.call320 g #[.pointer (some ⟨Bm, 0, none⟩)] trivial eg S n (by unfold maxLen; omega) (by omega) w hseq)
def keyFs : List Nat := [321, 341]
theorem sortedKeys_ok (G : Ax.Env) (n0 : Nat) : Ax.SumOK Tryz.prog G n0 223 (Ax.sortedSum 3 keyFs) := by
  refine Ax.sortedSum_ok (fun g b Bm clock es ks w hg hBm hm hb hs hst hk hw => ?_) (fun g Bm w hg hBm hm => ?_)
  · obtain ⟨D0, h1, h2, h3⟩ := owns_ints hb hs hst hk hw
    have hs' : Maps.size D0 ≤ 1000000 := by rw [h3]; exact hs
    rcases List.mem_cons.1 hg with rfl | hg
    · refine (sorted_of hs' Tryz.call321 (AnyZI.keys_gives (ρ := Tryz.keysA_ren) { Tryz.keysA with } Fence.wide 2 trivial rfl (by omega) Bm b _ D0 w hBm hm h1)).mono ?_
      rintro e w' ⟨v, ss, a1, a2, a3⟩
      exact ⟨v, ss, a1, a2.trans h2, a3⟩
    · rcases List.mem_cons.1 hg with rfl | hg
      · refine (sorted_of hs' Tryz.call341 (AnyZI.keys_gives (ρ := Tryz.keysB_ren) { Tryz.keysB with } Fence.wide 2 trivial rfl (by omega) Bm b _ D0 w hBm hm h1)).mono ?_
        rintro e w' ⟨v, ss, a1, a2, a3⟩
        exact ⟨v, ss, a1, a2.trans h2, a3⟩
      · cases hg
  · rcases List.mem_cons.1 hg with rfl | hg
    · refine (sorted_of (n := 0) (by omega) Tryz.call321 (AnyZI.keys_gives_nil (ρ := Tryz.keysA_ren) { Tryz.keysA with } Fence.wide 2 trivial rfl Bm w hBm hm)).mono ?_
      rintro e w' ⟨v, ss, a1, a2, a3, a4, a5⟩
      obtain rfl := a4.2 a2
      exact ⟨a1, a5⟩
    · rcases List.mem_cons.1 hg with rfl | hg
      · refine (sorted_of (n := 0) (by omega) Tryz.call341 (AnyZI.keys_gives_nil (ρ := Tryz.keysB_ren) { Tryz.keysB with } Fence.wide 2 trivial rfl Bm w hBm hm)).mono ?_
        rintro e w' ⟨v, ss, a1, a2, a3, a4, a5⟩
        obtain rfl := a4.2 a2
        exact ⟨a1, a5⟩
      · cases hg
end Go.Proofs.YthfllbmlhhkhmaaGreatDoor
namespace Go.Proofs.YthfllbmlhhkhmaaGreatDoor
open Go Go.Ax Go.RowKit Go.Proofs
theorem liesWriter : liesAt Tryz.prog Tryz.prog.depth 560 (3 / Tryz.prog.cellsOf 560) 0 411 1 = true := by kernel_rfl
set_option maxHeartbeats 1000000 in
set_option maxRecDepth 100000 in
theorem copyCheck_inWriter (b : Nat) (w : World) (h0 : w.cell? ⟨b, 0, none⟩ = some (.pointer none)) (hsh : w.shape? b = some (560, 3)) (hfz : w.frozen? ⟨b, 0, none⟩ = false) :
    Calls Tryz.prog 322 #[.pointer (some ⟨b, 0, none⟩)] w fun e w' => e = .returned (.tuple #[]) ∧ w' = w.setCell ⟨b, 0, none⟩ (.pointer (some ⟨b, 0, none⟩)) := by
  obtain ⟨j, hj, hjs⟩ := Option.map_eq_some_iff.1 sizeBuilder
  go_enter Go.Proofs.Tryz.func322, Go.Proofs.Tryz.ntmps322
  go_wp2
  rw [Lib.run_to_unsafe w ⟨b, 0, none⟩ Tryz.underlying409 Tryz.underlying530 hj (by rw [hjs]; decide) hsh (Nat.zero_lt_succ 2)]
  simp only [Result.andThen]
  rw [Oper.upon_value]
  go_wp2
  rw [run_callFunc_extern Tryz.func437 (by kernel_rfl) (by kernel_rfl) (by kernel_rfl) (e := Extern.AbiNoEscape.same) (by kernel_rfl)]
  rw [Lib.run_noEscape]
  simp only [Result.andThen]
  rw [Oper.upon_value]
  go_wp2
  rw [Lib.run_from_unsafe w ⟨b, 0, none⟩ Tryz.underlying530 Tryz.underlying409 hj hsh liesWriter]
  simp only [Result.andThen]
  rw [Oper.upon_value]
  go_wp2
  go_end0
  exact ⟨rfl, rfl⟩
abbrev builders : List (Nat × Nat) := [(411, 2), (560, 3)]
theorem copyCheckL_ok (G : Env) (n0 : Nat) : SumOK Tryz.prog G n0 322 (copySumL builders) := copySumL_ok (fun q hq b w h0 hs hf => by
  rcases List.mem_cons.1 hq with rfl | hq
  · exact copyCheck_fresh b w h0 hs hf
  rcases List.mem_cons.1 hq with rfl | hq
  · exact copyCheck_inWriter b w h0 hs hf
  · cases hq) copyCheck_used
end Go.Proofs.YthfllbmlhhkhmaaGreatDoor
namespace Go.Proofs.YthfllbmlhhkhmaaGreatDoor
open Go Go.Ax Go.RowKit Go.Proofs
noncomputable def errs : Errs := ⟨8, 5, 805, 256, [(0, 8), (1, 9), (2, 10), (4, 11), (5, 12)],
  [(6, 751, [0, 1, 1, 0, 2, 2, 1, 3, 3, 1, 2, 2, 1, 5, 0, 2, 4, 3, 2, 5, 4, 2, 6, 6, 3, 5, 4, 3, 6, 6, 4, 7, 5, 4, 6, 7, 5, 6, 9, 6, 5, 8, 7, 7, 9, 8, 7, 0])]⟩
theorem errs_ng : errs.ng = tab.ng := rfl
theorem errs_pos : 0 < errs.ng := by show 0 < 8; decide
theorem errs_in : errs.inB = true := by kernel_rfl
def sl : List Nat → Code → Code
  | [], c => c
  | i :: p, .seq a b => bif Nat.beq i 0 then sl p a else sl p b
  | i :: p, .cond _ a b => bif Nat.beq i 0 then sl p a else sl p b
  | _ :: p, .block _ b => sl p b
  | _ :: p, .loop b => sl p b
  | _ :: p, .scope b => sl p b
  | i :: p, .rangeFunc _ _ a b => bif Nat.beq i 0 then sl p a else sl p b
  | _, c => c
def sk (n : Nat) (p : List Nat) (c : Code) : Code := sl (List.replicate n 1 ++ p) c
end Go.Proofs.YthfllbmlhhkhmaaGreatDoor
namespace Go.Proofs.YthfllbmlhhkhmaaGreatDoor
open Go Go.Ax Go.RowKit Go.Proofs
noncomputable def sumsB : List (Nat × Sum) := [(7, pickSum), (322, copySumL builders), (330, rulesSum),
  (225, putSum 10), (187, getSumR 10), (311, fnSumR 1), (127, fnSumR 0), (223, sortedSum 3 keyFs), (376, expireSum)]
theorem sumsB_ok : AllS Tryz.prog tab sumsB :=
  .cons (fun _ _ _ => pickSum_ok fun z n w h0 h1 h2 h3 => pick25_any z n w h0 h1 h2 h3) Tryz.call7 <|
  .cons (fun G n0 _ => copyCheckL_ok G n0) Tryz.call322 <|
  .cons (fun G n0 _ => rulesSum_ok G n0) Tryz.call330 <|
  .cons (fun _ _ _ => putSum_ok (fun z k w a b c d => put_any z k w a b c d) (fun z k w a b c => put_bad z k w a b c)) Tryz.call225 <|
  .cons (fun _ _ _ => getSumR_ok (fun s i k w a b c d => get_any s i k w a b c d) (fun s i k w a b c d e => get_bad s i k w a b c d e)) Tryz.call187 <|
  .cons (fun _ _ _ => fnSumR_ok fun s w h => checksum_any s w h) Tryz.call311 <|
  .cons (fun _ _ _ => fnSumR_ok fun s w h => crc32_any s w h) Tryz.call127 <|
  .cons (fun G n0 _ => sortedKeys_ok G n0) Tryz.call223 <|
  .cons (fun _ _ _ => expireSum_ok fun F o mb now es clock w a b c d e f => expire_any F o mb now es clock w a b c d e f) Tryz.call376 .nil
noncomputable def GB : Env := ⟨tab, ifs, sumsL sumsB⟩
end Go.Proofs.YthfllbmlhhkhmaaGreatDoor
