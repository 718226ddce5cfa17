/-
  slices.Sorted(maps.Keys(m)) at the two map types of the program: the keys, sorted, in new memory. Conditions: none.
-/
import Derived.Test.YtcbodlnadocbiaaGreatDoorZLz
import Derived.Test.YtcbodlnadocbiaaGreatDoorZAxG
import Derived.Test.YtcbodlnadocbiaaGreatDoorZSE
import Derived.Test.YtcbodlnadocbiaaGreatDoorZWA
import Derived.Test.YtcbodlnadocbiaaGreatDoorZWB
namespace Go.Proofs.YtcbodlnadocbiaaGreatDoor
open Go Go.RowKit Go.Maps Go.Sort Go.Shelf Go.Proofs

theorem sortsA (m : Nat) : AnyZI.SortsIn Tryz.prog Tryz.sortedA_ren Fence.wide m :=
  ⟨fun blk off cap ss W hH hblk hsz => callsIn_wide.2 (AnyM.slices_Sort_int Tryz.sortA blk off cap ss W hH hblk hsz),
   fun p cap W => callsIn_wide.2 (AnyM.slices_Sort_int_none Tryz.sortA p cap W)⟩

abbrev valR : Value → Option (DataW Unit × List MemPlace) := fun _ => some (.nil, [])
theorem rd_int {x : MapEntry} {z : Int} (h : x.key = .int .i64 z) (h1 : -9223372036854775808 ≤ z) (h2 : z ≤ 9223372036854775807) : WideElems.rd Tryz.prog 3 valR x = some (.int .i64 z, .nil) := by
  have hk : keyOf Tryz.prog 3 x.key = some (.int .i64 z) := by
    rw [h]
    exact keyOf_int_mk Tryz.underlying3 (by simp [Lit.wf, IntKind.min, IntKind.max, IntKind.signed, IntKind.bits]; omega)
  simp only [WideElems.rd, hk, Option.bind_some, Option.map_some]

/-- A map's block reads as a map of numbers. -/
theorem owns_ints {w : World} {b clock : Nat} {es : Array MapEntry} {ks : List Int} (hb : w.heap[b]? = some (.map es clock)) (hs : es.size ≤ 1000000) (hst : MapKept.Stamped es clock) (hk : es.toList.map (·.key) = ks.map (Value.int .i64)) (hw : ∀ z ∈ ks, -9223372036854775808 ≤ z ∧ z ≤ 9223372036854775807) :
    ∃ D0 : DataW Unit, w.ownsMap Tryz.prog 3 valR b es.size D0 ∧ (intKeys D0).Perm ks ∧ Maps.size D0 = es.size := by
  have hall : ∀ {l : List MapEntry} {ks : List Int}, l.map (·.key) = ks.map (Value.int .i64) → (∀ z ∈ ks, -9223372036854775808 ≤ z ∧ z ≤ 9223372036854775807) → l.map (WideElems.rg Tryz.prog 3 valR) = ks.map (fun z => (Lit.int .i64 z, DataW.nil)) ∧ ∀ x ∈ l, ∃ y, WideElems.rd Tryz.prog 3 valR x = some y := by
    intro l
    induction l with
    | nil => intro ks h _; cases ks with
      | nil => exact ⟨rfl, fun x hx => (by cases hx)⟩
      | cons z ks => simp at h
    | cons x l ih =>
      intro ks h hw
      cases ks with
      | nil => simp at h
      | cons z ks =>
        simp only [List.map_cons, List.cons.injEq] at h
        obtain ⟨i1, i2⟩ := ih h.2 fun y hy => hw y (by simp [hy])
        have hz := hw z (by simp)
        have hr := rd_int h.1 hz.1 hz.2
        refine ⟨by simp only [List.map_cons, WideElems.rg, hr, Option.getD_some]; rw [← i1], fun y hy => ?_⟩
        rcases List.mem_cons.1 hy with rfl | hy
        · exact ⟨_, hr⟩
        · exact i2 y hy
  obtain ⟨a1, a2⟩ := hall hk hw
  refine ⟨_, ⟨es, clock, hb, ⟨by unfold maxLen; omega, hst, a2⟩, Nat.le_refl _, rfl⟩, ?_, ?_⟩
  · simp only [intKeys]
    rw [a1]
    have hp := (WideShapes.sorted_perm (H := Unit) (ks.map (fun z => (Lit.int .i64 z, DataW.nil)))).map (fun p => Go.intOf p.1)
    refine hp.trans ?_
    rw [List.map_map]
    have : ((fun p : Lit × DataW Unit => Go.intOf p.1) ∘ fun z => (Lit.int .i64 z, DataW.nil)) = id := by funext z; rfl
    rw [this, List.map_id]
  · simp only [Maps.size]
    rw [(WideShapes.sorted_perm _).length_eq]
    simp

theorem sorted_of {g Bm : Nat} {w : World} {n : Nat} {S : List Int → Prop} (hn : n ≤ 1000000) (eg : ∀ args w, (callFunc g args).run Tryz.prog w = .ok (.enter g args) w) (hseq : SeqGives Fence.wide 2 Tryz.prog g #[.pointer (some ⟨Bm, 0, none⟩)] encZ S n w) :
    Calls Tryz.prog 179 #[.func (.func g) #[] #[.pointer (some ⟨Bm, 0, none⟩)]] w fun e w' => ∃ (v : Value) (ss : List Int), e = .returned v ∧ S ss ∧ w'.ownsRow w.heap.size 3 1 v ss.length ((ss.mergeSort (fun x y => decide (x ≤ y))).map (Value.int .i64)) ∧ (v = .slice none 0 0 ↔ ss = []) ∧ Below w.heap.size w w' :=
  (callsIn_wide (n := 5)).1 (AnyZI.sorted_in Tryz.sortedA Fence.wide 5 trivial trivial trivial trivial rfl (by omega) (sortsA _) Tryz.call275 g #[.pointer (some ⟨Bm, 0, none⟩)] trivial eg S n (by unfold maxLen; omega) (by omega) w hseq)

def keyFs : List Nat := [276, 296]
theorem sortedKeys_ok (G : Ax.Env) (n0 : Nat) : Ax.SumOK Tryz.prog G n0 179 (Ax.sortedSum 3 keyFs) := by
  refine Ax.sortedSum_ok (fun g b Bm clock es ks w hg hBm hm hb hs hst hk hw => ?_) (fun g Bm w hg hBm hm => ?_)
  · obtain ⟨D0, h1, h2, h3⟩ := owns_ints hb hs hst hk hw
    have hs' : Maps.size D0 ≤ 1000000 := by rw [h3]; exact hs
    rcases List.mem_cons.1 hg with rfl | hg
    · refine (sorted_of hs' Tryz.call276 (AnyZI.keys_gives (ρ := Tryz.keysA_ren) { Tryz.keysA with } Fence.wide 2 trivial rfl (by omega) Bm b _ D0 w hBm hm h1)).mono ?_
      rintro e w' ⟨v, ss, a1, a2, a3⟩
      exact ⟨v, ss, a1, a2.trans h2, a3⟩
    · rcases List.mem_cons.1 hg with rfl | hg
      · refine (sorted_of hs' Tryz.call296 (AnyZI.keys_gives (ρ := Tryz.keysB_ren) { Tryz.keysB with } Fence.wide 2 trivial rfl (by omega) Bm b _ D0 w hBm hm h1)).mono ?_
        rintro e w' ⟨v, ss, a1, a2, a3⟩
        exact ⟨v, ss, a1, a2.trans h2, a3⟩
      · cases hg
  · rcases List.mem_cons.1 hg with rfl | hg
    · refine (sorted_of (n := 0) (by omega) Tryz.call276 (AnyZI.keys_gives_nil (ρ := Tryz.keysA_ren) { Tryz.keysA with } Fence.wide 2 trivial rfl Bm w hBm hm)).mono ?_
      rintro e w' ⟨v, ss, a1, a2, a3, a4, a5⟩
      obtain rfl := a4.2 a2
      exact ⟨a1, a5⟩
    · rcases List.mem_cons.1 hg with rfl | hg
      · refine (sorted_of (n := 0) (by omega) Tryz.call296 (AnyZI.keys_gives_nil (ρ := Tryz.keysB_ren) { Tryz.keysB with } Fence.wide 2 trivial rfl Bm w hBm hm)).mono ?_
        rintro e w' ⟨v, ss, a1, a2, a3, a4, a5⟩
        obtain rfl := a4.2 a2
        exact ⟨a1, a5⟩
      · cases hg
end Go.Proofs.YtcbodlnadocbiaaGreatDoor

/-! The law on expiring packets: what is known of the functions as a whole. Conditions: none. -/
namespace Go.Proofs.YtcbodlnadocbiaaGreatDoor
open Go Go.Ax Go.RowKit Go.Proofs

noncomputable def sumsR : List (Nat × Sum) := [(5, sumE errs [] (.lit true)), (8, pickSum), (277, copySum 356), (285, rulesSum),
  (181, putSum 10), (143, getSum 10), (266, fnSum 1), (90, fnSum 0), (179, sortedSum 3 keyFs)]
theorem sumsR_ok : AllS Tryz.prog tab sumsR :=
  .cons (fun _ _ h => sumE_ok (errs_ng.trans (congrArg Tab.ng h.symm)) errs_pos errs_in sane_told) Tryz.call5 <|
  .cons (fun _ _ _ => pickSum_ok fun z n w h0 h1 h2 h3 => pick25_any z n w h0 h1 h2 h3) Tryz.call8 <|
  .cons (fun G n0 _ => copyCheckSum_ok G n0) Tryz.call277 <|
  .cons (fun G n0 _ => rulesSum_ok G n0) Tryz.call285 <|
  .cons (fun _ _ _ => putSum_ok (fun z k w a b c d => put_any z k w a b c d) (fun z k w a b c => put_bad z k w a b c)) Tryz.call181 <|
  .cons (fun _ _ _ => getSum_ok (fun s i k w a b c d => get_any s i k w a b c d) (fun s i k w a b c d e => get_bad s i k w a b c d e)) Tryz.call143 <|
  .cons (fun _ _ _ => fnSum_ok fun s w h => checksum_any s w h) Tryz.call266 <|
  .cons (fun _ _ _ => fnSum_ok fun s w h => crc32_any s w h) Tryz.call90 <|
  .cons (fun G n0 _ => sortedKeys_ok G n0) Tryz.call179 .nil
noncomputable def GR : Env := ⟨tab, ifs, sumsL sumsR⟩

/-- A part of a code. -/
def sel : List Nat → Code → Code
  | [], c => c
  | i :: p, .seq a b => bif Nat.beq i 0 then sel p a else sel p b
  | i :: p, .cond _ a b => bif Nat.beq i 0 then sel p a else sel p b
  | _ :: p, .block _ b => sel p b
  | _ :: p, .loop b => sel p b
  | _ :: p, .scope b => sel p b
  | i :: p, .rangeFunc _ _ a b => bif Nat.beq i 0 then sel p a else sel p b
  | _, c => c
def opsOf : Code → List Oper
  | .region _ ops _ => ops.toList
  | _ => []
noncomputable def body : Code := match Tryz.f3.body with | some b => b | none => .skip

end Go.Proofs.YtcbodlnadocbiaaGreatDoor
