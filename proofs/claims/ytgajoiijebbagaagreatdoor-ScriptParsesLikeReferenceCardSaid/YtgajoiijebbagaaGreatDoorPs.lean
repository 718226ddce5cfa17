/-
  The walks of script.Parse and of the examples. Conditions: the library's variables read as laid.
-/
import Derived.Test.YtgajoiijebbagaaGreatDoorAc
import Derived.Test.YtgajoiijebbagaaGreatDoorPr
import Derived.Test.YtgajoiijebbagaaGreatDoorPln
/-! The walk of script.Parse. It says which actions it reads, or at which line it stops, and that what was there is unchanged. Conditions: the text is at most a billion bytes long; the library's variables read as laid. -/
namespace Go.Proofs.YtgajoiijebbagaaGreatDoor
open Go.RowKit Go.Proofs

theorem infoA : (Tryz.prog.info? 27).map (fun i => (i.zero, i.size)) = some (some (.agg #[.int .i64 0, .int .i64 0, .int .i64 0, .int .i64 0, .int .i64 0, .int .i64 0, .int .i64 0, .string ⟨#[]⟩, .int .i64 0, .int .i64 0, .int .i64 0, .slice none 0 0, .string ⟨#[]⟩]), 13) := by kernel_rfl
theorem bytesA : (Tryz.prog.info? 27).map (fun i => i.bytes) = some 136 := by kernel_rfl

def rowCells (l : List (Pa.Ac × Value)) : List Value := l.flatMap fun p => acCells p.1 p.2
theorem rowCells_len : ∀ l : List (Pa.Ac × Value), (rowCells l).length = l.length * 13
  | [] => rfl
  | p :: l => by
    have := rowCells_len l
    simp only [rowCells, List.flatMap_cons, List.length_append, List.length_cons] at this ⊢
    rw [this]; simp [acCells]; omega
theorem rowCells_at : ∀ (l : List (Pa.Ac × Value)) (j : Nat) (h : j < l.length) (i : Nat), i < 13 → (rowCells l)[j * 13 + i]? = (acCells l[j].1 l[j].2)[i]?
  | [], j, h, _, _ => by simp at h
  | p :: l, 0, _, i, hi => by
    show (acCells p.1 p.2 ++ rowCells l)[0 * 13 + i]? = _
    rw [Nat.zero_mul, Nat.zero_add, List.getElem?_append_left (by simpa [acCells] using hi)]; rfl
  | p :: l, j + 1, h, i, hi => by
    show (acCells p.1 p.2 ++ rowCells l)[(j + 1) * 13 + i]? = _
    have e : (j + 1) * 13 + i = (acCells p.1 p.2).length + (j * 13 + i) := by simp [acCells]; omega
    rw [e, List.getElem?_append_right (by omega), Nat.add_sub_cancel_left]
    exact rowCells_at l j (by simpa using h) i hi

/-- The actions that the call has collected in v. -/
def OwnA (base : Nat) (w : World) (v : Value) (l : List (Pa.Ac × Value)) : Prop := w.ownsRow base 27 13 v l.length (rowCells l) ∧ ∀ p ∈ l, Fs w p.2 p.1.fates ∧ p.1.fates.length ≤ 9223372036854775807 ∧ (p.1.fates ≠ [] → ∀ b, p.2.ownBlock = some b → v.ownBlock ≠ some b)

theorem Fs.kp {S : Nat → Prop} {w w' : World} {v : Value} {xs : List Int} (h : Fs w v xs) (hk : Kp S w w') (hs : xs ≠ [] → ∀ b, v.ownBlock = some b → ¬ S b) : Fs w' v xs := by
  obtain ⟨a, c, h1, h2⟩ := h
  refine ⟨a, c, h1, fun h0 => ?_⟩
  obtain ⟨b, o, h3, h4, h5⟩ := h2 h0
  exact ⟨b, o, h3, Nat.lt_of_lt_of_le h4 hk.size, fun j hj => by rw [hk.cell h4 (hs h0 b (by rw [h1, h3]; rfl))]; exact h5 j hj⟩

theorem OwnA.below {base : Nat} {w w' : World} {v : Value} {l : List (Pa.Ac × Value)} (h : OwnA base w v l) (hb : Below w.heap.size w w') : OwnA base w' v l :=
  ⟨owns_below h.1 hb, fun p hp => ⟨(h.2 p hp).1.below hb, (h.2 p hp).2⟩⟩

theorem OwnA.acts {base : Nat} {w : World} {v : Value} {l : List (Pa.Ac × Value)} (h : OwnA base w v l) : Acts w v (l.map Prod.fst) := by
  obtain ⟨ho, hf⟩ := h
  have hfs : ∀ (j : Nat) (h : j < (l.map Prod.fst).length), Fs w ((fun j => ((l[j]?).map (·.2)).getD .nilIface) j) (l.map Prod.fst)[j].fates ∧ (l.map Prod.fst)[j].fates.length ≤ 9223372036854775807 := by
    intro j hj
    have hj' : j < l.length := by simpa using hj
    have := hf l[j] (List.getElem_mem hj')
    simp only [List.getElem?_eq_getElem hj', Option.map_some, Option.getD_some, List.getElem_map]
    exact ⟨this.1, this.2.1⟩
  rcases ho.2 with ⟨rfl, h0⟩ | ⟨g, cap, cur, rfl, h1, h2, h3, _⟩
  · refine ⟨none, 0, _, by simp [h0], by simp [h0], hfs, fun hne => ?_⟩
    exact absurd (List.map_eq_nil_iff.2 (List.length_eq_zero_iff.1 h0)) hne
  · refine ⟨some ⟨g, 0, none⟩, cap, _, by simp, by simpa using h3, hfs, fun _ => ⟨g, 0, rfl, (Array.getElem?_eq_some_iff.1 h2).1, fun j hj i u hu => ?_⟩⟩
    have hj' : j < l.length := by simpa using hj
    simp only [List.getElem?_eq_getElem hj', Option.map_some, Option.getD_some, List.getElem_map] at hu
    have hi : i < 13 := by
      rcases Nat.lt_or_ge i 13 with h | h
      · exact h
      · rw [List.getElem?_eq_none (by simp [acCells]; omega)] at hu; cases hu
    have := ho.cells (g := g) rfl (j * 13 + i) u (by rw [rowCells_at l j hj' i hi]; exact hu)
    rw [addr_add] at this
    rw [Nat.zero_add]; exact this

theorem owns_slice {u : World} {base : Nat} {e : TypeId} {size n : Nat} {v : Value} {xs : List Value} (h : u.ownsRow base e size v n xs) : ∃ p c, v = .slice p n c := by
  rcases h.2 with ⟨rfl, rfl⟩ | ⟨g', cap, cur, rfl, _⟩
  · exact ⟨none, 0, rfl⟩
  · exact ⟨_, cap, rfl⟩

theorem Fs.lt {w : World} {v : Value} {xs : List Int} (h : Fs w v xs) (h0 : xs ≠ []) {b : Nat} (hb : v.ownBlock = some b) : b < w.heap.size := by
  obtain ⟨a, c, rfl, h2⟩ := h
  obtain ⟨b', o, rfl, h4, _⟩ := h2 h0
  cases hb; exact h4

theorem rowCells_snoc (l : List (Pa.Ac × Value)) (a : Pa.Ac) (f : Value) : rowCells (l ++ [(a, f)]) = rowCells l ++ acCells a f := by simp [rowCells]

theorem OwnA.push {base : Nat} {w1 w2 w6 : World} {v fv : Value} {l : List (Pa.Ac × Value)} {a : Pa.Ac} {O O' : Obj} {g1 cap1 : Nat} (hO : OwnA base w1 v l) (hb : Below w1.heap.size w1 w2) (hfs : Fs w2 fv a.fates) (hl : a.fates.length ≤ 9223372036854775807)
    (hfr : ∀ b, fv.ownBlock = some b → w1.heap.size ≤ b) (hown : w6.ownsRow base 27 13 (.slice (some ⟨g1, 0, none⟩) (l.length + 1) cap1) (l.length + 1) (rowCells l ++ acCells a fv)) (hg : ((w2.alloc O).alloc O').grownBy w6 v.ownBlock) (hat : v.ownBlock = some g1 ∨ g1 = w2.heap.size + 1 + 1) :
    OwnA base w6 (.slice (some ⟨g1, 0, none⟩) (l.length + 1) cap1) (l ++ [(a, fv)]) := by
  have hba := ((Below.refl w2.heap.size w2).alloc (Nat.le_refl _) O).alloc (by simp) O'
  have kg := Kp.of_grown hg
  refine ⟨by rw [rowCells_snoc, List.length_append]; exact hown, fun p hp => ?_⟩
  rcases List.mem_append.1 hp with hp | hp
  · obtain ⟨h1, h2, h3⟩ := hO.2 p hp
    have h1' := h1.below hb
    refine ⟨(h1'.below hba).kp kg (fun h0 b hb' e => h3 h0 b hb' e), h2, fun h0 b hb' e => ?_⟩
    cases e
    rcases hat with h | h
    · exact h3 h0 _ hb' h
    · have : g1 < w2.heap.size := h1'.lt h0 hb'
      omega
  · simp only [List.mem_singleton] at hp
    subst hp
    refine ⟨(hfs.below hba).kp kg (fun h0 b hb' e => ?_), hl, fun h0 b hb' e => ?_⟩
    · have := hfr b hb'; have := owns_lt hO.1 e; omega
    · cases e
      rcases hat with h | h
      · have h5 : w1.heap.size ≤ g1 := hfr _ hb'
        have h6 : g1 < w1.heap.size := owns_lt hO.1 h
        omega
      · have : g1 < w2.heap.size := hfs.lt h0 hb'
        omega

theorem Pa.okA_fates {a : Pa.Ac} (h : Pa.okA a = true) : a.fates.length ≤ 64 := by
  obtain ⟨hk, hn, ho⟩ := Pa.okA_parts h
  by_cases h3 : a.kind = 3
  · rw [if_neg (by omega), if_neg (by omega), if_pos h3] at ho
    simp only [Pa.okF, Bool.and_eq_true, decide_eq_true_eq] at ho
    exact ho.1
  · rw [hn]
    have : (Pa.needA a).fates = [] := by
      unfold Pa.needA
      split
      · rfl
      split
      · rfl
      first | rfl | (rw [if_neg h3]; rfl)
    rw [this]; simp

/-- What Parse ends in. -/
def ROut (r : Nat ⊕ List Pa.Ac) (w : World) (e : Ending) (w' : World) : Prop :=
  match r with
  | .inl n => e = .returned (.tuple #[.slice none 0 0, .int .i64 n, .int .i64 270]) ∧ Below w.heap.size w w'
  | .inr l => ∃ v, e = .returned (.tuple #[v, .int .i64 0, .int .i64 0]) ∧ Acts w' v l ∧ Below w.heap.size w w'
theorem ROut.no {r : Nat ⊕ List Pa.Ac} {n : Nat} {w : World} {e : Ending} {w' : World} (hr : r = .inl n) (h : e = .returned (.tuple #[.slice none 0 0, .int .i64 n, .int .i64 270]) ∧ Below w.heap.size w w') : ROut r w e w' := by
  unfold ROut; rw [hr]; exact h
theorem ROut.yes {r : Nat ⊕ List Pa.Ac} {l : List Pa.Ac} {w : World} {e : Ending} {w' : World} (hr : r = .inr l) (h : ∃ v, e = .returned (.tuple #[v, .int .i64 0, .int .i64 0]) ∧ Acts w' v l ∧ Below w.heap.size w w') : ROut r w e w' := by
  unfold ROut; rw [hr]; exact h

theorem cutLine (s : Pa.Bs) (w : World) (ok : Ok w) (hs : s.length ≤ 1000000000) :
    Calls Tryz.prog 38 #[.string ⟨s.toArray⟩, .string ⟨#[10]⟩] w fun e w' => e = .returned (.tuple #[.string ⟨(Lib.cut s [10]).1.toArray⟩, .string ⟨(Lib.cut s [10]).2.1.toArray⟩, .bool (Lib.cut s [10]).2.2]) ∧ Below w.heap.size w w' := by
  obtain ⟨_, ⟨m, hm⟩, _⟩ := ok
  have := Tryz.strings_Cut ⟨s.toArray⟩ ⟨#[10]⟩ m w (by simp [ByteArray.size]; omega) hm
  refine (by simpa using this : Calls _ _ _ w fun e w' => e = .returned (.tuple #[.string ⟨(Lib.cut s [10]).1.toArray⟩, .string ⟨(Lib.cut s [10]).2.1.toArray⟩, .bool (Lib.cut s [10]).2.2]) ∧ ∃ n, w' = w.drewN n).mono fun e w' h => ⟨h.1, ?_⟩
  obtain ⟨n, rfl⟩ := h.2
  exact drewN_below w n

set_option maxRecDepth 100000 in
set_option maxHeartbeats 4000000 in
theorem parse_script (s : Pa.Bs) (w : World) (ok : Ok w) (hs : s.length ≤ 1000000000) : Calls Tryz.prog 18 #[.string ⟨s.toArray⟩] w (ROut (Pa.parseT s) w) := by
  obtain ⟨i0, hi0, hz0, hz1⟩ : ∃ i0, Tryz.prog.info? 27 = some i0 ∧ i0.zero = some (.agg #[.int .i64 0, .int .i64 0, .int .i64 0, .int .i64 0, .int .i64 0, .int .i64 0, .int .i64 0, .string ⟨#[]⟩, .int .i64 0, .int .i64 0, .int .i64 0, .slice none 0 0, .string ⟨#[]⟩]) ∧ i0.size = 13 := by
    have h := infoA
    obtain ⟨i, h1, h2⟩ := Option.map_eq_some_iff.1 h
    exact ⟨i, h1, (Prod.mk.inj h2).1, (Prod.mk.inj h2).2⟩
  have hz2 : i0.bytes = 136 := by
    have h := bytesA; rw [hi0] at h; exact Option.some.inj h
  go_enter Tryz.func18, Tryz.ntmps18
  go_wp2_with fail
  go_loopw [0, 5] (fun x v wr => ∃ (rest : Pa.Bs) (l : List (Pa.Ac × Value)), x = .string ⟨rest.toArray⟩ ∧ Hid (Pa.parseT s = Pa.parseK (l.map Prod.fst) (Pa.splitC 10 rest)) ∧ rest.length ≤ s.length ∧ l.length ≤ 100 ∧ OwnA w.heap.size wr v l ∧ Below w.heap.size w wr) (fun x _ _ => strSize x)
  case atStart => exact ⟨s, [], rfl, rfl, Nat.le_refl _, by simp, ⟨World.ownsRow_nil _ _ _ _, by simp⟩, Below.refl _ _⟩
  case round =>
    obtain ⟨rest, l, rfl, HP, hl, h100, hO, hB⟩ := hrel
    obtain ⟨vp, vc, rfl⟩ := owns_slice hO.1
    have okr := ok.below hB
    by_cases h0 : rest = []
    · subst h0
      have HR := Lib.hid (HP.out.trans (Pa.parseK_end _))
      go_wp2
      refine bodyPost_ret (v := .tuple #[_, .int .i64 0, .int .i64 0]) (by simp [results, Tryz.results18, go_sem]) rfl (ROut.yes HR.out ⟨_, rfl, hO.acts, hB⟩)
    · have hrl : rest.length ≤ 1000000000 := by omega
      have hcut := cutLine rest wr okr hrl
      obtain ⟨t0, ht0⟩ : ∃ t0 : ByteArray, t0 = ⟨rest.toArray⟩ := ⟨_, rfl⟩
      have htl : t0.toList = rest := by rw [ht0, ByteArray.toList_eq]
      have m1 : ¬ t0.toList = [] := by rw [htl]; exact h0
      have m2 : t0.toList.isEmpty = false := by rw [htl]; cases rest with | nil => exact absurd rfl h0 | cons _ _ => rfl
      rw [← ht0] at hcut ⊢
      clear htl
      have HT0 := Lib.hid ht0; clear ht0
      rcases Pa.index_cases rest 10 with ⟨-, hno⟩ | ⟨i, -, hi, hat, hno⟩
      · rw [Pa.cut_none rest 10 hno, ← HT0.out] at hcut
        have HR := Lib.hid (HP.out.trans (Pa.parseK_open _ h0 hno))
        have hact := fun (w : World) (ok : Ok w) => action_any rest w ok hrl
        rw [← HT0.out] at hact
        clear hno h0
        go_wp2_with fail
        refine hcut.mono ?_
        rintro e w1 ⟨rfl, hb1⟩
        have hB1 := below_on hB hb1
        have hO1 := hO.below hb1
        go_wp2_with fail
        refine (hact _ (ok.below hB1)).mono ?_
        intro e w2 hw2
        have hvw : ∃ (a : Pa.Ac) (va : Option Addr) (n ca : Nat) (bo : Bool), e = .returned (.tuple #[acV a (.slice va n ca), .bool bo]) ∧ Below w1.heap.size w1 w2 := by
          unfold AOut at hw2
          split at hw2
          · obtain ⟨fv, h1, ⟨va, ca, rfl, _⟩, _, h3⟩ := hw2
            exact ⟨_, va, _, ca, true, h1, h3⟩
          · exact ⟨_, none, 0, 0, false, hw2.1, hw2.2⟩
        obtain ⟨a, va, n, ca, bo, rfl, hb2⟩ := hvw
        have hB2 := below_on hB1 hb2
        clear hw2 hact hcut
        unfold acV
        go_wp2
        refine bodyPost_ret (v := .tuple #[.slice none 0 0, .int .i64 l.length, .int .i64 270]) (by simp [results, Tryz.results18, go_sem]) rfl (ROut.no HR.out ⟨by simp, ?_⟩)
        exact hB2.alloc hB2.size _
      · obtain ⟨x, hx⟩ : ∃ x, x = rest.take i := ⟨_, rfl⟩
        obtain ⟨r, hr⟩ : ∃ r, r = rest.drop (i + 1) := ⟨_, rfl⟩
        have hsp := Pa.split_at rest 10 i hat
        rw [← hx] at hno
        rw [← hx, ← hr] at hsp
        have hxl : x.length ≤ 1000000000 := by rw [hx]; have := List.length_take_le i rest; omega
        have hrr : r.length < rest.length := by rw [hsp]; simp; omega
        have hce := Pa.cut_at x r 10 hno
        rw [← hsp] at hce
        rw [hce] at hcut
        have hkl := Pa.parseK_line (l.map Prod.fst) x r hno
        rw [← hsp] at hkl
        have HKL := Lib.hid (HP.out.trans hkl)
        have hact := fun (w : World) (ok : Ok w) => action_any x w ok hxl
        clear hx hr hsp hno hce hkl hat hi h0
        cases hp : Pa.parseLine x with
        | none =>
          have HR : Hid (Pa.parseT s = .inl l.length) := by
            have := HKL.out; rw [hp] at this; rw [Hid]; simpa using this
          go_wp2_with fail
          refine hcut.mono ?_
          rintro e w1 ⟨rfl, hb1⟩
          have hB1 := below_on hB hb1
          go_wp2_with fail
          refine (hact _ (ok.below hB1)).mono ?_
          intro e w2 hw2
          unfold AOut at hw2
          rw [hp] at hw2
          obtain ⟨rfl, hb2⟩ := hw2
          have hB2 := below_on hB1 hb2
          clear hact hcut hp HKL
          unfold acV
          simp only [Pa.a0, Pa.c0]
          go_wp2
          refine bodyPost_ret (v := .tuple #[.slice none 0 0, .int .i64 l.length, .int .i64 270]) (by simp [results, Tryz.results18, go_sem]) rfl (ROut.no HR.out ⟨by simp, ?_⟩)
          exact hB2.alloc hB2.size _
        | some a =>
          have hok := (Pa.parseLine_some.1 hp).1
          have hfl := Pa.okA_fates hok
          by_cases hfull : l.length = 100
          · have HR : Hid (Pa.parseT s = .inl l.length) := by
              have := HKL.out; rw [hp] at this; rw [Hid]; simpa [hfull] using this
            have HL := Lib.hid (show (l.length : Int) = 100 by omega)
            have hf1 : ((l.length : Int) == 100) = true := by rw [hfull]; rfl
            go_wp2_with fail
            refine hcut.mono ?_
            rintro e w1 ⟨rfl, hb1⟩
            have hB1 := below_on hB hb1
            go_wp2_with fail
            refine (hact _ (ok.below hB1)).mono ?_
            intro e w2 hw2
            unfold AOut at hw2
            rw [hp] at hw2
            obtain ⟨fv, rfl, ⟨va, ca, rfl, _⟩, _, hb2⟩ := hw2
            have hB2 := below_on hB1 hb2
            clear hact hcut hp HKL hfull
            unfold acV
            go_wp2
            refine bodyPost_ret (v := .tuple #[.slice none 0 0, .int .i64 l.length, .int .i64 270]) (by simp [results, Tryz.results18, go_sem, HL.out]) rfl (ROut.no HR.out ⟨by simp, ?_⟩)
            exact hB2.alloc hB2.size _
          · have HR : Hid (Pa.parseT s = Pa.parseK ((l.map Prod.fst) ++ [a]) (Pa.splitC 10 r)) := by
              have := HKL.out; rw [hp] at this; rw [Hid]; simpa [hfull] using this
            have hf1 : ((l.length : Int) == 100) = false := by rw [beq_eq_false_iff_ne]; omega
            have hl99 : l.length + 1 ≤ 100 := by omega
            obtain ⟨y1, y2, ⟨z1, z2, z3, z4, z5, z6, z7, z8⟩, y3, fs, y5⟩ := a
            go_wp2_with fail
            refine hcut.mono ?_
            rintro e w1 ⟨rfl, hb1⟩
            have hB1 := below_on hB hb1
            have hO1 := hO.below hb1
            go_wp2_with fail
            refine (hact _ (ok.below hB1)).mono ?_
            intro e w2 hw2
            unfold AOut at hw2
            rw [hp] at hw2
            obtain ⟨fv, rfl, hfs, hfr, hb2⟩ := hw2
            have HFS := Lib.hid hfs
            obtain ⟨va, ca, rfl, _⟩ := hfs
            have hB2 := below_on hB1 hb2
            have hO2 := owns_below hO1.1 hb2
            clear hact hcut hp HKL hfull
            unfold acV
            have hnews : ∀ j u, (acCells ⟨y1, y2, ⟨z1, z2, z3, z4, z5, z6, z7, z8⟩, y3, fs, y5⟩ (.slice va fs.length ca))[j]? = some u → ((w2.alloc (.cells #[.int .i64 y1, .int .i64 y2, .int .i64 z1, .int .i64 z2, .int .i64 z3, .int .i64 z4, .int .i64 z5, .string z6, .int .i64 z7, .int .i64 z8, .int .i64 y3, .slice va fs.length ca, .string y5] 27)).alloc (.cells #[.int .i64 y1, .int .i64 y2, .int .i64 z1, .int .i64 z2, .int .i64 z3, .int .i64 z4, .int .i64 z5, .string z6, .int .i64 z7, .int .i64 z8, .int .i64 y3, .slice va fs.length ca, .string y5] 27)).cell? ((⟨w2.heap.size + 1, 0, none⟩ : Addr).add j) = some u := by
              have := World.news_of_block (heap_alloc_new (w2.alloc (.cells #[.int .i64 y1, .int .i64 y2, .int .i64 z1, .int .i64 z2, .int .i64 z3, .int .i64 z4, .int .i64 z5, .string z6, .int .i64 z7, .int .i64 z8, .int .i64 y3, .slice va fs.length ca, .string y5] 27)) (.cells #[.int .i64 y1, .int .i64 y2, .int .i64 z1, .int .i64 z2, .int .i64 z3, .int .i64 z4, .int .i64 z5, .string z6, .int .i64 z7, .int .i64 z8, .int .i64 y3, .slice va fs.length ca, .string y5] 27))
              rw [World.size_alloc] at this
              exact this
            have hw2s := hB2.size
            go_wp2_with (at_builtin; refine wpList_append_lies _ rfl (.tmp 37) (.tmp 39) 29 rfl w.heap.size 27 i0 _ 13 136 Tryz.underlying29 hi0 hz0 hz1 hz2 rfl (by decide) _ l.length _ rfl (owns_below hO2 (((Below.refl _ _).alloc (Nat.le_refl _) _).alloc (by simp) _)) ⟨w2.heap.size + 1, 0, none⟩ 1 1 (acCells ⟨y1, y2, ⟨z1, z2, z3, z4, z5, z6, z7, z8⟩, y3, fs, y5⟩ (.slice va fs.length ca)) rfl rfl hnews (by simp [acCells, Value.oneCell']) (by omega) (by unfold maxLen; omega) (by omega) (by simp; omega) (w2.heap.size + 1 + 1) (by simp) ?_; intro g1 cap1 w6 hown6 hgrow hat hlt6)
            have hOn := OwnA.push (a := ⟨y1, y2, ⟨z1, z2, z3, z4, z5, z6, z7, z8⟩, y3, fs, y5⟩) hO1 hb2 HFS.out (Nat.le_trans hfl (by omega)) hfr hown6 hgrow hat
            have hBn : Below w.heap.size w w6 := ((hB2.alloc hw2s _).alloc (by simp; omega) _).grown hgrow (by simp; omega) (fun k e => owns_base hO1.1 e)
            refine ⟨⟨r, l ++ [(⟨y1, y2, ⟨z1, z2, z3, z4, z5, z6, z7, z8⟩, y3, fs, y5⟩, .slice va fs.length ca)], rfl, ?_, by omega, by simpa using hl99, hOn, hBn⟩, ?_⟩
            · rw [List.map_append]; exact HR.out
            · rw [HT0.out]; simpa [strSize, ByteArray.size] using hrr

end Go.Proofs.YtgajoiijebbagaaGreatDoor

/-! The walk of the examples that every statement of this seat checks first: it returns true, and what was there is unchanged. Conditions: the library's variables read as laid. -/
namespace Go.Proofs.YtgajoiijebbagaaGreatDoor
open Go.RowKit Go.Proofs

theorem acts_new (u : World) (cs : Array Value) (l : List (Pa.Ac × Value)) (n : Nat) (hn : n = l.length) (hc : cs.toList = rowCells l) (hf : ∀ p ∈ l, Fs u p.2 p.1.fates ∧ p.1.fates.length ≤ 9223372036854775807) :
    Acts (u.alloc (.cells cs 27)) (.slice (some ⟨u.heap.size, 0, none⟩) n n) (l.map Prod.fst) := by
  subst hn
  refine ⟨_, l.length, fun j => ((l[j]?).map (·.2)).getD .nilIface, by simp, by simp, fun j hj => ?_, fun _ => ⟨u.heap.size, 0, rfl, by simp, fun j hj i v hv => ?_⟩⟩
  · have hj' : j < l.length := by simpa using hj
    have := hf l[j] (List.getElem_mem hj')
    simp only [List.getElem?_eq_getElem hj', Option.map_some, Option.getD_some, List.getElem_map]
    exact ⟨this.1.below ((Below.refl _ _).alloc (Nat.le_refl _) _), this.2⟩
  · have hj' : j < l.length := by simpa using hj
    simp only [List.getElem?_eq_getElem hj', Option.map_some, Option.getD_some, List.getElem_map] at hv
    have hi : i < 13 := by
      rcases Nat.lt_or_ge i 13 with h | h
      · exact h
      · rw [List.getElem?_eq_none (by simp [acCells]; omega)] at hv; cases hv
    rw [Nat.zero_add, World.cell?_alloc_at _ _ _ _ rfl]
    have : cs[j * 13 + i]? = cs.toList[j * 13 + i]? := by simp
    rw [this, hc, rowCells_at l j hj' i hi]; exact hv

theorem fs_new (u : World) (cs : Array Value) (l : List Int) (n : Nat) (hn : n = l.length) (hc : cs.toList = l.map (Value.int .i64)) : Fs (u.alloc (.cells cs 3)) (.slice (some ⟨u.heap.size, 0, none⟩) n n) l := by
  subst hn
  refine ⟨_, l.length, rfl, fun _ => ⟨u.heap.size, 0, rfl, by simp, fun j hj => ?_⟩⟩
  rw [Nat.zero_add, World.cell?_alloc_at _ _ _ _ rfl]
  have : cs[j]? = cs.toList[j]? := by simp
  rw [this, hc]; simp [hj]

/-- The example's actions, with their fates' values. -/
def exP (w : World) : List (Pa.Ac × Value) := [(⟨1, 1, ⟨4, 2, 167772161, 80, 0, ⟨#[]⟩, 0, 0⟩, 0, [], ⟨#[]⟩⟩, (.slice none 0 0)), (⟨3, 0, ⟨0, 0, 0, 0, 0, ⟨#[]⟩, 0, 0⟩, 0, [0, 1, 5], ⟨#[]⟩⟩, (.slice (some ⟨w.heap.size, 0, none⟩) 3 3)), (⟨4, 0, ⟨0, 0, 0, 0, 0, ⟨#[]⟩, 0, 0⟩, 0, [], ⟨#[0, 255]⟩⟩, (.slice none 0 0)), (⟨1, 0, ⟨6, 1, 0, 0, 0, ⟨#[]⟩, 0, 0⟩, 0, [], ⟨#[]⟩⟩, (.slice none 0 0)), (⟨2, 0, ⟨0, 0, 0, 0, 0, ⟨#[]⟩, 0, 0⟩, 500, [], ⟨#[]⟩⟩, (.slice none 0 0))]
theorem exP_fst (w : World) : (exP w).map Prod.fst = Pa.exL := rfl

set_option maxRecDepth 100000 in
set_option maxHeartbeats 4000000 in
theorem examples_any (w : World) (ok : Ok w) : Calls Tryz.prog 8 #[] w fun e w' => e = .returned (.bool true) ∧ Below w.heap.size w w' := by
  have hp := fun (v : Value) (W : World) (ok : Ok W) (h : Acts W v Pa.exL) => print_any Pa.exL v W ok h (by decide)
  unfold POut at hp
  rw [(Pa.pr_some Pa.ex_print).1, (Pa.pr_some Pa.ex_print).2] at hp
  have hq := fun (v : Value) (W : World) (ok : Ok W) (h : Acts W v [Pa.a0]) => print_any [Pa.a0] v W ok h (by decide)
  unfold POut at hq
  rw [(Pa.pr_none Pa.ex_none).1, (Pa.pr_none Pa.ex_none).2] at hq
  have hr := fun (W : World) (ok : Ok W) => parse_script Pa.exT W ok (by decide)
  rw [Pa.ex_parse] at hr
  have hs := fun (W : World) (ok : Ok W) => parse_script [116, 105, 99, 107, 32, 49, 10, 116, 105, 99, 107, 32, 48, 49, 10] W ok (by decide)
  rw [Pa.ex_at] at hs
  have ht := fun (W : World) (ok : Ok W) => parse_script [116, 105, 99, 107, 32, 49] W ok (by decide)
  rw [Pa.ex_open] at ht
  unfold ROut at hr hs ht
  unfold Pa.exT at hp hr
  go_enter Tryz.func8, Tryz.ntmps8
  go_wp2_with fail
  have hf0 := fs_new w #[.int .i64 0, .int .i64 1, .int .i64 5] [0, 1, 5] 3 rfl rfl
  have ha0 := acts_new (w.alloc (.cells #[.int .i64 0, .int .i64 1, .int .i64 5] 3)) (rowCells (exP w)).toArray (exP w) 5 rfl (by simp) (by
    intro p hp
    simp only [exP, List.mem_cons, List.not_mem_nil, or_false] at hp
    rcases hp with rfl | rfl | rfl | rfl | rfl
    · exact ⟨Fs.nil _, by decide⟩
    · exact ⟨hf0, by show 3 ≤ 9223372036854775807; omega⟩
    · exact ⟨Fs.nil _, by decide⟩
    · exact ⟨Fs.nil _, by decide⟩
    · exact ⟨Fs.nil _, by decide⟩)
  rw [World.size_alloc, exP_fst] at ha0
  have hB0 : Below w.heap.size w ((w.alloc (.cells #[.int .i64 0, .int .i64 1, .int .i64 5] 3)).alloc (.cells (rowCells (exP w)).toArray 27)) := ((Below.refl _ _).alloc (Nat.le_refl _) _).alloc (by simp) _
  refine (hp _ _ (ok.below hB0) ha0).mono ?_
  rintro e w1 ⟨rfl, hb1⟩
  have hB1 := below_on hB0 hb1
  have ha1 := ha0.below hb1
  clear hp
  go_wp2_with fail
  refine (hr _ (ok.below hB1)).mono ?_
  rintro e w2 ⟨v, rfl, hv, hb2⟩
  have hB2 := below_on hB1 hb2
  have ha2 := ha1.below hb2
  go_wp2_with fail
  refine (hs _ (ok.below hB2)).mono ?_
  rintro e w3 ⟨rfl, hb3⟩
  have hB3 := below_on hB2 hb3
  go_wp2_with fail
  refine (ht _ (ok.below hB3)).mono ?_
  rintro e w4 ⟨rfl, hb4⟩
  have hB4 := below_on hB3 hb4
  go_wp2_with fail
  have hz0 := acts_new w4 #[.int .i64 0, .int .i64 0, .int .i64 0, .int .i64 0, .int .i64 0, .int .i64 0, .int .i64 0, .string ⟨#[]⟩, .int .i64 0, .int .i64 0, .int .i64 0, .slice none 0 0, .string ⟨#[]⟩] [(⟨0, 0, ⟨0, 0, 0, 0, 0, ⟨#[]⟩, 0, 0⟩, 0, [], ⟨#[]⟩⟩, .slice none 0 0)] 1 rfl rfl (by
    intro p hp
    simp only [List.mem_cons, List.not_mem_nil, or_false] at hp
    subst hp
    exact ⟨Fs.nil _, by decide⟩)
  have hB4' := hB4.alloc hB4.size (.cells #[.int .i64 0, .int .i64 0, .int .i64 0, .int .i64 0, .int .i64 0, .int .i64 0, .int .i64 0, .string ⟨#[]⟩, .int .i64 0, .int .i64 0, .int .i64 0, .slice none 0 0, .string ⟨#[]⟩] 27)
  refine (hq _ _ (ok.below hB4') hz0).mono ?_
  rintro e w5 ⟨rfl, hb5⟩
  have hB5 := below_on hB4' hb5
  have hab : Below w2.heap.size w2 w5 := below_on (below_on (below_on (Below.refl _ _) hb3) hb4) (below_on ((Below.refl _ _).alloc (Nat.le_refl _) _) hb5)
  have ha5 := ha2.below hab
  have hv5 := hv.below hab
  have hr0 : RowAt (w.heap.size + 1) (rowCells (exP w)) ((w.alloc (.cells #[.int .i64 0, .int .i64 1, .int .i64 5] 3)).alloc (.cells (rowCells (exP w)).toArray 27)) := by
    have := RowAt.new (w.alloc (.cells #[.int .i64 0, .int .i64 1, .int .i64 5] 3)) (rowCells (exP w)).toArray 27
    rw [World.size_alloc] at this; exact this
  have hr5 := ((hr0.below hb1).below hb2).below hab
  have hf5 := (((hf0.below ((Below.refl _ _).alloc (Nat.le_refl _) _)).below hb1).below hb2).below hab
  clear hq hr hs ht hz0 ha0 ha1 ha2 hv hr0 hf0 hb1 hb2 hb3 hb4 hb5 hab hB0 hB1 hB2 hB3 hB4 hB4'
  have k1 := fun (x : Lat (Below w5.heap.size w5)) => Calls.eqv (v' := .bool true) (by simp) (sameActs_any Pa.exL Pa.exL _ v x.u (ha5.below x.h) (hv5.below x.h) (by decide) (by decide))
  have k2 := fun (x : Lat (Below w5.heap.size w5)) => Calls.eqv (v' := .bool true) (congrArg Value.bool (by decide)) (validAct_any ⟨1, 1, ⟨4, 2, 167772161, 80, 0, ⟨#[]⟩, 0, 0⟩, 0, [], ⟨#[]⟩⟩ (.slice none 0 0) x.u ((ok.below hB5).below x.h) name_any (Fs.nil _) (by decide))
  have k3 := fun (x : Lat (Below w5.heap.size w5)) => Calls.eqv (v' := .bool false) (congrArg Value.bool (by decide)) (validAct_any ⟨0, 0, ⟨0, 0, 0, 0, 0, ⟨#[]⟩, 0, 0⟩, 0, [], ⟨#[]⟩⟩ (.slice none 0 0) x.u ((ok.below hB5).below x.h) name_any (Fs.nil _) (by decide))
  have k4 := fun (x : Lat (Below w5.heap.size w5)) => Calls.eqv (v' := .bool true) (congrArg Value.bool (by decide)) (same_any ⟨1, 1, ⟨4, 2, 167772161, 80, 0, ⟨#[]⟩, 0, 0⟩, 0, [], ⟨#[]⟩⟩ ⟨1, 1, ⟨4, 2, 167772161, 80, 0, ⟨#[]⟩, 0, 0⟩, 0, [], ⟨#[]⟩⟩ (.slice none 0 0) (.slice none 0 0) x.u (Fs.nil _) (Fs.nil _) (by decide) (by decide))
  have k5 := fun (x : Lat (Below w5.heap.size w5)) => Calls.eqv (v' := .bool false) (congrArg Value.bool (by decide)) (same_any ⟨1, 1, ⟨4, 2, 167772161, 80, 0, ⟨#[]⟩, 0, 0⟩, 0, [], ⟨#[]⟩⟩ ⟨3, 0, ⟨0, 0, 0, 0, 0, ⟨#[]⟩, 0, 0⟩, 0, [0, 1, 5], ⟨#[]⟩⟩ (.slice none 0 0) (.slice (some ⟨w.heap.size, 0, none⟩) 3 3) x.u (Fs.nil _) (hf5.below x.h) (by decide) (by decide))
  have c0 : ∀ x : Lat (Below w5.heap.size w5), x.u.cell? ⟨w.heap.size + 1, 0, none⟩ = _ := fun x => x.cell hr5.1 (hr5.2 0 _ rfl).1
  have c1 : ∀ x : Lat (Below w5.heap.size w5), x.u.cell? ⟨w.heap.size + 1, 1, none⟩ = _ := fun x => x.cell hr5.1 (hr5.2 1 _ rfl).1
  have c2 : ∀ x : Lat (Below w5.heap.size w5), x.u.cell? ⟨w.heap.size + 1, 2, none⟩ = _ := fun x => x.cell hr5.1 (hr5.2 2 _ rfl).1
  have c3 : ∀ x : Lat (Below w5.heap.size w5), x.u.cell? ⟨w.heap.size + 1, 3, none⟩ = _ := fun x => x.cell hr5.1 (hr5.2 3 _ rfl).1
  have c4 : ∀ x : Lat (Below w5.heap.size w5), x.u.cell? ⟨w.heap.size + 1, 4, none⟩ = _ := fun x => x.cell hr5.1 (hr5.2 4 _ rfl).1
  have c5 : ∀ x : Lat (Below w5.heap.size w5), x.u.cell? ⟨w.heap.size + 1, 5, none⟩ = _ := fun x => x.cell hr5.1 (hr5.2 5 _ rfl).1
  have c6 : ∀ x : Lat (Below w5.heap.size w5), x.u.cell? ⟨w.heap.size + 1, 6, none⟩ = _ := fun x => x.cell hr5.1 (hr5.2 6 _ rfl).1
  have c7 : ∀ x : Lat (Below w5.heap.size w5), x.u.cell? ⟨w.heap.size + 1, 7, none⟩ = _ := fun x => x.cell hr5.1 (hr5.2 7 _ rfl).1
  have c8 : ∀ x : Lat (Below w5.heap.size w5), x.u.cell? ⟨w.heap.size + 1, 8, none⟩ = _ := fun x => x.cell hr5.1 (hr5.2 8 _ rfl).1
  have c9 : ∀ x : Lat (Below w5.heap.size w5), x.u.cell? ⟨w.heap.size + 1, 9, none⟩ = _ := fun x => x.cell hr5.1 (hr5.2 9 _ rfl).1
  have c10 : ∀ x : Lat (Below w5.heap.size w5), x.u.cell? ⟨w.heap.size + 1, 10, none⟩ = _ := fun x => x.cell hr5.1 (hr5.2 10 _ rfl).1
  have c11 : ∀ x : Lat (Below w5.heap.size w5), x.u.cell? ⟨w.heap.size + 1, 11, none⟩ = _ := fun x => x.cell hr5.1 (hr5.2 11 _ rfl).1
  have c12 : ∀ x : Lat (Below w5.heap.size w5), x.u.cell? ⟨w.heap.size + 1, 12, none⟩ = _ := fun x => x.cell hr5.1 (hr5.2 12 _ rfl).1
  have c13 : ∀ x : Lat (Below w5.heap.size w5), x.u.cell? ⟨w.heap.size + 1, 13, none⟩ = _ := fun x => x.cell hr5.1 (hr5.2 13 _ rfl).1
  have c14 : ∀ x : Lat (Below w5.heap.size w5), x.u.cell? ⟨w.heap.size + 1, 14, none⟩ = _ := fun x => x.cell hr5.1 (hr5.2 14 _ rfl).1
  have c15 : ∀ x : Lat (Below w5.heap.size w5), x.u.cell? ⟨w.heap.size + 1, 15, none⟩ = _ := fun x => x.cell hr5.1 (hr5.2 15 _ rfl).1
  have c16 : ∀ x : Lat (Below w5.heap.size w5), x.u.cell? ⟨w.heap.size + 1, 16, none⟩ = _ := fun x => x.cell hr5.1 (hr5.2 16 _ rfl).1
  have c17 : ∀ x : Lat (Below w5.heap.size w5), x.u.cell? ⟨w.heap.size + 1, 17, none⟩ = _ := fun x => x.cell hr5.1 (hr5.2 17 _ rfl).1
  have c18 : ∀ x : Lat (Below w5.heap.size w5), x.u.cell? ⟨w.heap.size + 1, 18, none⟩ = _ := fun x => x.cell hr5.1 (hr5.2 18 _ rfl).1
  have c19 : ∀ x : Lat (Below w5.heap.size w5), x.u.cell? ⟨w.heap.size + 1, 19, none⟩ = _ := fun x => x.cell hr5.1 (hr5.2 19 _ rfl).1
  have c20 : ∀ x : Lat (Below w5.heap.size w5), x.u.cell? ⟨w.heap.size + 1, 20, none⟩ = _ := fun x => x.cell hr5.1 (hr5.2 20 _ rfl).1
  have c21 : ∀ x : Lat (Below w5.heap.size w5), x.u.cell? ⟨w.heap.size + 1, 21, none⟩ = _ := fun x => x.cell hr5.1 (hr5.2 21 _ rfl).1
  have c22 : ∀ x : Lat (Below w5.heap.size w5), x.u.cell? ⟨w.heap.size + 1, 22, none⟩ = _ := fun x => x.cell hr5.1 (hr5.2 22 _ rfl).1
  have c23 : ∀ x : Lat (Below w5.heap.size w5), x.u.cell? ⟨w.heap.size + 1, 23, none⟩ = _ := fun x => x.cell hr5.1 (hr5.2 23 _ rfl).1
  have c24 : ∀ x : Lat (Below w5.heap.size w5), x.u.cell? ⟨w.heap.size + 1, 24, none⟩ = _ := fun x => x.cell hr5.1 (hr5.2 24 _ rfl).1
  have c25 : ∀ x : Lat (Below w5.heap.size w5), x.u.cell? ⟨w.heap.size + 1, 25, none⟩ = _ := fun x => x.cell hr5.1 (hr5.2 25 _ rfl).1
  simp only [acV] at k2 k3 k4 k5
  go_wp2_with fail
  simp only [List.append_eq, List.cons_append, List.nil_append]
  refine wp_region_below (by kernel_rfl) (by kernel_rfl) ?_
  intro W hW
  subst hW
  repeat (go_big_quiet_step (first | (go_at_call 20; with_reducible exact Calls.below (k1 _)) | (go_at_call 14; first | with_reducible exact Calls.below (k2 _) | with_reducible exact Calls.below (k3 _)) | (go_at_call 16; first | with_reducible exact Calls.below (k4 _) | with_reducible exact Calls.below (k5 _))))
  refine wpQuiet_nil ?_
  rintro u ⟨x, hx⟩
  have hu : Below W.heap.size W u := by rw [hx]; exact x.h
  clear hx
  go_wp2
  go_ret
  exact ⟨rfl, below_on hB5 hu⟩

end Go.Proofs.YtgajoiijebbagaaGreatDoor
