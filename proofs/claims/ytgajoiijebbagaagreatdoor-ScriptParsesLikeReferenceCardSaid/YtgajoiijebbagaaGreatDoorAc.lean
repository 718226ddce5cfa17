/-
  The walk of the script's action: fates, and the whole. Conditions: the library's variables read as laid.
-/
import Derived.Test.YtgajoiijebbagaaGreatDoorAa
import Derived.Deep.RegionHeld3
import Derived.Deep.RegionWith
import Derived.Test.YtgajoiijebbagaaGreatDoorAb
/-! The walk of script.action, way 'fates'. Conditions: the text is at most 8000 bytes long; the library's variables read as laid. -/
namespace Go.Proofs.YtgajoiijebbagaaGreatDoor
open Go.RowKit Go.Proofs

theorem infoI : (Tryz.prog.info? 3).map (fun i => (i.zero, i.size, i.bytes)) = some (some (.int .i64 0), 1, 8) := by kernel_rfl

/-- What the loop over the fates has, l read, r left. -/
def FRel (r0 : List Pa.Bs) (l : List Int) (r : List Pa.Bs) : Prop := Pa.rdFates r0 = (Pa.rdFates r).map fun m => l ++ m
theorem FRel.next {r0 : List Pa.Bs} {l : List Int} {v : Pa.Bs} {r : List Pa.Bs} {n : Int} (h : FRel r0 l (v :: r)) (hn : Lib.atoiAll v = .ok n) : FRel r0 (l ++ [n]) r := by
  unfold FRel at h ⊢
  rw [h, Pa.rdFates, hn]
  simp only [Option.map_map]
  congr 1
  funext m
  simp
theorem FRel.bad {r0 : List Pa.Bs} {l : List Int} {v : Pa.Bs} {r : List Pa.Bs} (h : FRel r0 l (v :: r)) (hn : ∀ n, Lib.atoiAll v ≠ .ok n) : Pa.rdFates r0 = none := by
  rw [h, Pa.rdFates]
  rcases ha : Lib.atoiAll v with n | _ | _
  · exact absurd ha (hn n)
  · rfl
  · rfl
theorem FRel.done {r0 : List Pa.Bs} {l : List Int} (h : FRel r0 l []) : Pa.rdFates r0 = some l := by rw [h]; simp [Pa.rdFates]

theorem owns_below {w w' : World} {base : Nat} {e : TypeId} {size n : Nat} {v : Value} {xs : List Value} (h : w.ownsRow base e size v n xs) (hb : Below w.heap.size w w') : w'.ownsRow base e size v n xs :=
  owns_same h (fun g hg => hb.block g (owns_lt h hg))
theorem owns_kp {S : Nat → Prop} {w w' : World} {base : Nat} {e : TypeId} {size n : Nat} {v : Value} {xs : List Value} (h : w.ownsRow base e size v n xs) (hb : Kp S w w') (hs : ∀ g, base ≤ g → ¬ S g) : w'.ownsRow base e size v n xs :=
  owns_same h (fun g hg => hb.block g (owns_lt h hg) (hs g (owns_base h hg)))
theorem fs_own {w : World} {base : Nat} {v : Value} {l : List Int} (h : w.ownsRow base 3 1 v l.length (l.map (Value.int .i64))) : Fs w v l := by
  rcases h.2 with ⟨rfl, h0⟩ | ⟨g, cap, cur, rfl, _, h2, _⟩
  · obtain rfl := List.length_eq_zero_iff.1 h0
    exact Fs.nil _
  · refine ⟨_, cap, rfl, fun _ => ⟨g, 0, rfl, (Array.getElem?_eq_some_iff.1 h2).1, fun j hj => ?_⟩⟩
    have := h.cells (g := g) rfl j (.int .i64 l[j]) (by simp [hj])
    rw [addr_add] at this
    rw [Nat.zero_add]; exact this

theorem any_mk {P : Program} {ops : Array Oper} {Q : Exit → Act → World → Prop} {f : Nat} {listed : Array Bool} {a : Act} {w : World} (l : List Nat) (hr : Region.ready .any ops listed = l) (hne : l ≠ []) (h : ∀ i ∈ l, wpOp P ops Q i (wpAny P .any ops Q f (listed.setIfInBounds i true)) a w) : wpAny P .any ops Q (f + 1) listed a w :=
  ⟨fun e => absurd (hr ▸ e) hne, fun i hi => h i (hr ▸ hi)⟩
theorem op_val {P : Program} {ops : Array Oper} {Q : Exit → Act → World → Prop} {i : Nat} {K : Act → World → Prop} {a : Act} {w : World} {o : Oper} (ho : ops[i]? = some o) (hg : o.guard = none) (h : o.wp P a w K Q) : wpOp P ops Q i K a w := by
  unfold wpOp; rw [ho]; simp [Region.wanted, hg]; exact Or.inl h

theorem Kp.of_grown {w w' : World} {row : Option Nat} (hg : w.grownBy w' row) : Kp (fun k => row = some k) w w' := ⟨hg.os, hg.tape, hg.output, hg.size, fun k hk hs => hg.block k hk (fun e => hs e.symm)⟩

theorem fates_mid {B : Nat} {l : List Int} {fv : Value} {cs : List Value} {w5 w6 : World} {o : Obj} (hP : RowAt B cs w5) (hO : w5.ownsRow (B + 4) 3 1 fv l.length (l.map (Value.int .i64))) (hg : (w5.alloc o).grownBy w6 fv.ownBlock) : RowAt B cs w6 :=
  (hP.below ((Below.refl _ _).alloc (Nat.le_refl _) _)).kp (Kp.of_grown hg) (fun e => by have := owns_base hO e; omega)

/-- What one round leaves. -/
theorem fates_step {w w5 w6 : World} {l : List Int} {n : Int} {fv : Value} {r : List Pa.Bs} {o : Obj} {g1 cap1 : Nat} (hP : RowAt w.heap.size (acCells ⟨3, 0, ⟨0, 0, 0, 0, 0, ⟨#[]⟩, 0, 0⟩, 0, l, ⟨#[]⟩⟩ fv) w5) (hQ : RowAt (w.heap.size + 1) [.bool false] w5) (hS : StR (w.heap.size + 1 + 1 + 1) (w.heap.size + 1 + 1) r w5) (hB : Below w.heap.size w w5)
    (hO : w5.ownsRow (w.heap.size + 4) 3 1 fv l.length (l.map (Value.int .i64))) (hown : w6.ownsRow (w.heap.size + 4) 3 1 (.slice (some ⟨g1, 0, none⟩) (l.length + 1) cap1) (l.length + 1) (l.map (Value.int .i64) ++ [.int .i64 n])) (hg : (w5.alloc o).grownBy w6 fv.ownBlock) :
    StR (w.heap.size + 1 + 1 + 1) (w.heap.size + 1 + 1) r (w6.setCell ⟨w.heap.size, 11, none⟩ (.slice (some ⟨g1, 0, none⟩) (l.length + 1) cap1)) ∧
    RowAt w.heap.size (acCells ⟨3, 0, ⟨0, 0, 0, 0, 0, ⟨#[]⟩, 0, 0⟩, 0, l ++ [n], ⟨#[]⟩⟩ (.slice (some ⟨g1, 0, none⟩) (l.length + 1) cap1)) (w6.setCell ⟨w.heap.size, 11, none⟩ (.slice (some ⟨g1, 0, none⟩) (l.length + 1) cap1)) ∧
    RowAt (w.heap.size + 1) [.bool false] (w6.setCell ⟨w.heap.size, 11, none⟩ (.slice (some ⟨g1, 0, none⟩) (l.length + 1) cap1)) ∧
    (w6.setCell ⟨w.heap.size, 11, none⟩ (.slice (some ⟨g1, 0, none⟩) (l.length + 1) cap1)).ownsRow (w.heap.size + 4) 3 1 (.slice (some ⟨g1, 0, none⟩) (l.length + 1) cap1) (l ++ [n]).length ((l ++ [n]).map (Value.int .i64)) ∧
    Below w.heap.size w (w6.setCell ⟨w.heap.size, 11, none⟩ (.slice (some ⟨g1, 0, none⟩) (l.length + 1) cap1)) := by
  have hb := (Below.refl w5.heap.size w5).alloc (Nat.le_refl _) o
  have kg := Kp.of_grown hg
  have nb : ∀ k, k < w.heap.size + 4 → ¬ fv.ownBlock = some k := fun k hk e => by have := owns_base hO e; omega
  have ks := Kp.set w6 w.heap.size 11 (.slice (some ⟨g1, 0, none⟩) (l.length + 1) cap1)
  refine ⟨((hS.below hb).kept kg (nb _ (by omega)) (nb _ (by omega))).kept ks (by show ¬ _ = _; omega) (by show ¬ _ = _; omega), ((hP.below hb).kp kg (nb _ (by omega))).set 11 (by simp [acCells]) _, (((hQ.below hb).kp kg (nb _ (by omega))).kp ks (by show ¬ _ = _; omega)), ?_, ?_⟩
  · rw [List.length_append, List.length_singleton, List.map_append]
    exact owns_kp hown ks (by intro g hg; show ¬ g = _; omega)
  · exact (hB.trans ((hb.mono hB.size).trans (kg.below (Nat.le_trans hB.size hb.size) (fun k hk => nb k (by omega))))).setCell (p := ⟨w.heap.size, 11, none⟩) (Nat.le_refl _) _

def wordsLeft (rb : Nat) (w : World) : Nat := match w.cell? ⟨rb, 0, none⟩ with
  | some (.slice _ n _) => n
  | _ => 0
theorem wordsLeft_eq {rb wb : Nat} {ws : List Pa.Bs} {w : World} (h : StR rb wb ws w) : wordsLeft rb w = ws.length := by
  obtain ⟨_, _, _, _, _, o, c, h6, _⟩ := h
  unfold wordsLeft; rw [h6]

set_option maxRecDepth 100000 in
set_option maxHeartbeats 4000000 in
theorem act_fates (x : Pa.Bs) (r : List Pa.Bs) (w : World) (ok : Ok w) (hx : x.length ≤ 8000) (hs : Pa.splitC 32 x = Pa.w_fates :: r) : Calls Tryz.prog 39 #[.string ⟨x.toArray⟩] w (AOut x w) := by
  have hraw := Pa.rawP_at hx hs
  rw [if_neg (by decide), if_neg (by decide), if_pos rfl] at hraw
  have hsp := fun u ok => split_any x u ok (by omega)
  have hst := StR.start x ((w.alloc (.cells #[.int .i64 0, .int .i64 0, .int .i64 0, .int .i64 0, .int .i64 0, .int .i64 0, .int .i64 0, .string ⟨#[]⟩, .int .i64 0, .int .i64 0, .int .i64 0, .slice none 0 0, .string ⟨#[]⟩] 27)).alloc (.cells #[.bool false] 4)) hx (by have := ok.1; simp; omega)
  rw [hs] at hsp hst
  have HSP := Lib.hid hs; clear hs
  simp only [World.size_alloc, List.map_cons, List.length_cons] at hst
  obtain ⟨t, ht⟩ : ∃ t : ByteArray, t = ⟨x.toArray⟩ := ⟨_, rfl⟩
  have hsz : ¬ 8000 < (t.size : Int) := by rw [ht]; simp [ByteArray.size]; omega
  rw [← ht] at hsp ⊢
  have HT := Lib.hid ht; clear ht
  have h4 := ok.1
  have hmf : ∀ (fn : Fn) (first cap : Array Value) (w : World), (Instr.makeFunc fn first cap).run Tryz.prog w = .ok (.func fn first cap) w := fun _ _ _ _ => rfl
  have hB0 : Below w.heap.size w ((w.alloc (.cells #[.int .i64 0, .int .i64 0, .int .i64 0, .int .i64 0, .int .i64 0, .int .i64 0, .int .i64 0, .string ⟨#[]⟩, .int .i64 0, .int .i64 0, .int .i64 0, .slice none 0 0, .string ⟨#[]⟩] 27)).alloc (.cells #[.bool false] 4)) := ((Below.refl _ _).alloc (Nat.le_refl _) _).alloc (by simp) _
  have q1 : RowAt w.heap.size (acCells ⟨0, 0, ⟨0, 0, 0, 0, 0, ⟨#[]⟩, 0, 0⟩, 0, [], ⟨#[]⟩⟩ (.slice none 0 0)) _ := (act_alloc w).1
  have q2 := (act_alloc w).2
  obtain ⟨i0, hi0, hz0, hz1, hz2⟩ := info_parts infoI
  have hrl : r.length ≤ 8001 := by
    have h2 := (Pa.split_len 32 x).1
    rw [HSP.out] at h2; simp at h2; omega
  have HRAW := Lib.hid hraw; clear hraw
  go_enter_defers Tryz.func39, Tryz.ntmps39
  go_wp2_with fail
  refine (hsp _ (ok.below hB0)).mono ?_
  rintro e u ⟨rfl, rfl⟩
  go_wp2_with fail
  refine (word_some _ _ _ r _ hst).mono ?_
  rintro e w2 ⟨rfl, s2, k2⟩
  have hB2 : Below w.heap.size w w2 := Kp.up (below_on hB0 (((Below.refl _ _).alloc (Nat.le_refl _) _).alloc (by simp) _)) k2 (by simp; omega) (by intro k hk; show ¬ k = _; omega)
  have ok2 := ok.below hB2
  have p1 := (q1.below (((Below.refl _ _).alloc (Nat.le_refl _) _).alloc (by simp) _)).kp k2 (by show ¬ _ = _; omega)
  have p2 := (q2.below (((Below.refl _ _).alloc (Nat.le_refl _) _).alloc (by simp) _)).kp k2 (by show ¬ _ = _; omega)
  clear k2 q1 q2 hst hsp
  have ⟨c0, cf0⟩ := p1.2 0 _ rfl
  have ⟨c1, cf1⟩ := p1.2 1 _ rfl
  have ⟨c2, cf2⟩ := p1.2 2 _ rfl
  have ⟨c3, cf3⟩ := p1.2 3 _ rfl
  have ⟨c4, cf4⟩ := p1.2 4 _ rfl
  have ⟨c5, cf5⟩ := p1.2 5 _ rfl
  have ⟨c6, cf6⟩ := p1.2 6 _ rfl
  have ⟨c7, cf7⟩ := p1.2 7 _ rfl
  have ⟨c8, cf8⟩ := p1.2 8 _ rfl
  have ⟨c9, cf9⟩ := p1.2 9 _ rfl
  have ⟨c10, cf10⟩ := p1.2 10 _ rfl
  have ⟨c11, cf11⟩ := p1.2 11 _ rfl
  have ⟨c12, cf12⟩ := p1.2 12 _ rfl
  go_wp2_with fail
  have t1 : RowAt w.heap.size (acCells ⟨3, 0, ⟨0, 0, 0, 0, 0, ⟨#[]⟩, 0, 0⟩, 0, [], ⟨#[]⟩⟩ (.slice none 0 0)) (w2.setCell ⟨w.heap.size, 0, none⟩ (.int .i64 3)) := p1.set 0 (by simp [acCells]) (.int .i64 3)
  have t2 : RowAt (w.heap.size + 1) [.bool false] (w2.setCell ⟨w.heap.size, 0, none⟩ (.int .i64 3)) := p2.kp (Kp.set _ w.heap.size 0 (.int .i64 3)) (by show ¬ _ = _; omega)
  have t3 : Below w.heap.size w (w2.setCell ⟨w.heap.size, 0, none⟩ (.int .i64 3)) := hB2.setCell (p := ⟨w.heap.size, 0, none⟩) (Nat.le_refl _) (.int .i64 3)
  have t4 := s2.wr (cb := w.heap.size) (by omega) (by omega) 0 (.int .i64 3)
  clear c0 cf0 c1 cf1 c2 cf2 c3 cf3 c4 cf4 c5 cf5 c6 cf6 c7 cf7 c8 cf8 c9 cf9 c10 cf10 c11 cf11 c12 cf12
  clear p1 p2 hB2 s2 ok2
  obtain ⟨w3, hw3⟩ : ∃ w3 : World, w3 = w2.setCell ⟨w.heap.size, 0, none⟩ (.int .i64 3) := ⟨_, rfl⟩
  rw [← hw3] at t1 t2 t3 t4 ⊢
  clear hw3
  go_loopw [35] (fun _ wr => ∃ (l : List Int) (r1 : List Pa.Bs) (fv : Value), Hid (FRel r l r1) ∧ l.length + r1.length = r.length ∧ StR (w.heap.size + 1 + 1 + 1) (w.heap.size + 1 + 1) r1 wr ∧ RowAt w.heap.size (acCells ⟨3, 0, ⟨0, 0, 0, 0, 0, ⟨#[]⟩, 0, 0⟩, 0, l, ⟨#[]⟩⟩ fv) wr ∧ RowAt (w.heap.size + 1) [.bool false] wr ∧ wr.ownsRow (w.heap.size + 4) 3 1 fv l.length (l.map (Value.int .i64)) ∧ Below w.heap.size w wr) (fun _ wr => wordsLeft (w.heap.size + 1 + 1 + 1) wr)
  case atStart => exact ⟨[], r, .slice none 0 0, (by simp [Hid, FRel]), by simp, t4, t1, t2, World.ownsRow_nil _ _ _ _, t3⟩
  case round =>
    obtain ⟨l, r1, fv, HF, hlen, hS, hP, hQ, hO, hB⟩ := hrel
    cases r1 with
    | nil =>
      obtain ⟨va, ca, hfe, -⟩ := fs_own hO
      subst hfe
      obtain ⟨_, hrb, _, _, _, o, c, hcell, _, _, _⟩ := hS
      simp only [List.length_nil] at hcell
      have HA : Hid (Pa.rawP x = some ⟨3, 0, ⟨0, 0, 0, 0, 0, ⟨#[]⟩, 0, 0⟩, 0, l, ⟨#[]⟩⟩) := by rw [Hid, HRAW.out, FRel.done HF.out]; rfl
      have hll : l.length ≤ 9223372036854775807 := by simp at hlen; omega
      have ⟨c0, cf0⟩ := hP.2 0 _ rfl
      have ⟨c1, cf1⟩ := hP.2 1 _ rfl
      have ⟨c2, cf2⟩ := hP.2 2 _ rfl
      have ⟨c3, cf3⟩ := hP.2 3 _ rfl
      have ⟨c4, cf4⟩ := hP.2 4 _ rfl
      have ⟨c5, cf5⟩ := hP.2 5 _ rfl
      have ⟨c6, cf6⟩ := hP.2 6 _ rfl
      have ⟨c7, cf7⟩ := hP.2 7 _ rfl
      have ⟨c8, cf8⟩ := hP.2 8 _ rfl
      have ⟨c9, cf9⟩ := hP.2 9 _ rfl
      have ⟨c10, cf10⟩ := hP.2 10 _ rfl
      have ⟨c11, cf11⟩ := hP.2 11 _ rfl
      have ⟨c12, cf12⟩ := hP.2 12 _ rfl
      go_wp2_with fail
      refine (validAct_any ⟨3, 0, ⟨0, 0, 0, 0, 0, ⟨#[]⟩, 0, 0⟩, 0, l, ⟨#[]⟩⟩ (.slice va l.length ca) _ (ok.below hB) name_any (fs_own hO) hll).mono ?_
      rintro e w8 ⟨rfl, hb8⟩
      have pX := hP.below hb8
      have pY := hQ.below hb8
      have hBX := below_on hB hb8
      have hOX := owns_below hO hb8
      clear c0 cf0 c1 cf1 c2 cf2 c3 cf3 c4 cf4 c5 cf5 c6 cf6 c7 cf7 c8 cf8 c9 cf9 c10 cf10 c11 cf11 c12 cf12
      clear hP hQ hO hB hb8
      have ⟨d0, df0⟩ := pX.2 0 _ rfl
      have ⟨d1, df1⟩ := pX.2 1 _ rfl
      have ⟨d2, df2⟩ := pX.2 2 _ rfl
      have ⟨d3, df3⟩ := pX.2 3 _ rfl
      have ⟨d4, df4⟩ := pX.2 4 _ rfl
      have ⟨d5, df5⟩ := pX.2 5 _ rfl
      have ⟨d6, df6⟩ := pX.2 6 _ rfl
      have ⟨d7, df7⟩ := pX.2 7 _ rfl
      have ⟨d8, df8⟩ := pX.2 8 _ rfl
      have ⟨d9, df9⟩ := pX.2 9 _ rfl
      have ⟨d10, df10⟩ := pX.2 10 _ rfl
      have ⟨d11, df11⟩ := pX.2 11 _ rfl
      have ⟨d12, df12⟩ := pX.2 12 _ rfl
      cases hok : Pa.okA ⟨3, 0, ⟨0, 0, 0, 0, 0, ⟨#[]⟩, 0, 0⟩, 0, l, ⟨#[]⟩⟩ with
      | false =>
        have HR := Lib.hid (Pa.parse_not HA.out (by rw [hok]; simp))
        clear hok
        go_wp2
        exact door_bad HR.out rfl rfl rfl pX pY hBX
      | true =>
        have hL := line_any ⟨3, 0, ⟨0, 0, 0, 0, 0, ⟨#[]⟩, 0, 0⟩, 0, l, ⟨#[]⟩⟩ (.slice va l.length ca) w8 (ok.below hBX) hok (fs_own hOX)
        by_cases hln : Pa.lineA ⟨3, 0, ⟨0, 0, 0, 0, 0, ⟨#[]⟩, 0, 0⟩, 0, l, ⟨#[]⟩⟩ = x
        · rw [hln, ← HT.out] at hL
          have HR := Lib.hid (Pa.parseLine_some.2 ⟨hok, hln⟩)
          clear hok hln
          go_wp2_with fail
          refine hL.mono ?_
          rintro e w9 ⟨rfl, hb9⟩
          have pZ := pX.below hb9
          have pU := pY.below hb9
          have hBZ := below_on hBX hb9
          have hOZ := owns_below hOX hb9
          clear hL hb9 hBX pX pY hOX
          clear d0 df0 d1 df1 d2 df2 d3 df3 d4 df4 d5 df5 d6 df6 d7 df7 d8 df8 d9 df9 d10 df10 d11 df11 d12 df12
          have ⟨e0, ef0⟩ := pZ.2 0 _ rfl
          have ⟨e1, ef1⟩ := pZ.2 1 _ rfl
          have ⟨e2, ef2⟩ := pZ.2 2 _ rfl
          have ⟨e3, ef3⟩ := pZ.2 3 _ rfl
          have ⟨e4, ef4⟩ := pZ.2 4 _ rfl
          have ⟨e5, ef5⟩ := pZ.2 5 _ rfl
          have ⟨e6, ef6⟩ := pZ.2 6 _ rfl
          have ⟨e7, ef7⟩ := pZ.2 7 _ rfl
          have ⟨e8, ef8⟩ := pZ.2 8 _ rfl
          have ⟨e9, ef9⟩ := pZ.2 9 _ rfl
          have ⟨e10, ef10⟩ := pZ.2 10 _ rfl
          have ⟨e11, ef11⟩ := pZ.2 11 _ rfl
          have ⟨e12, ef12⟩ := pZ.2 12 _ rfl
          have ⟨g0, gf0⟩ := pU.2 0 _ rfl
          go_wp2
          have hrw := RowAt.rewr pZ pU
          have hBR := hBZ.trans ((rewr_kp w.heap.size ⟨3, 0, ⟨0, 0, 0, 0, 0, ⟨#[]⟩, 0, 0⟩, 0, l, ⟨#[]⟩⟩ (.slice va l.length ca) w9).below hBZ.size (by intro k hk; omega))
          have hOR := owns_kp hOZ (rewr_kp w.heap.size ⟨3, 0, ⟨0, 0, 0, 0, 0, ⟨#[]⟩, 0, 0⟩, 0, l, ⟨#[]⟩⟩ (.slice va l.length ca) w9) (by intro g hg; omega)
          show bodyPostD _ _ _ _ _ (rewr w.heap.size ⟨3, 0, ⟨0, 0, 0, 0, 0, ⟨#[]⟩, 0, 0⟩, 0, l, ⟨#[]⟩⟩ (.slice va l.length ca) w9)
          exact door_good (a := ⟨3, 0, ⟨0, 0, 0, 0, 0, ⟨#[]⟩, 0, 0⟩, 0, l, ⟨#[]⟩⟩) (fv := (.slice va l.length ca)) HR.out rfl rfl hrw.1 hrw.2 (fs_own hOR) (fun b h => by have := owns_base hOR h; omega) hBR
        · obtain ⟨L, hLe⟩ : ∃ L : ByteArray, L = ⟨(Pa.lineA ⟨3, 0, ⟨0, 0, 0, 0, 0, ⟨#[]⟩, 0, 0⟩, 0, l, ⟨#[]⟩⟩).toArray⟩ := ⟨_, rfl⟩
          rw [← hLe] at hL
          have n1 : ¬ L.toList = t.toList := by rw [hLe, HT.out]; exact bytes_two _ _ hln
          have n2 : (L.toList == t.toList) = false := by rw [beq_eq_false_iff_ne]; exact n1
          have HR := Lib.hid (Pa.parse_not HA.out (fun h => hln h.2))
          clear hok hln hLe
          go_wp2_with fail
          refine hL.mono ?_
          rintro e w9 ⟨rfl, hb9⟩
          go_wp2
          exact door_bad HR.out rfl rfl rfl (pX.below hb9) (pY.below hb9) (below_on hBX hb9)
    | cons v r2 =>
      have hS' := hS
      obtain ⟨_, hrb, _, _, _, o, c, hcell, _, _, _⟩ := hS'
      simp only [List.length_cons] at hcell
      have okr := ok.below hB
      have ⟨f11, ff11⟩ := hP.2 11 _ rfl
      cases ha : Pa.rdNum (v :: r2) with
      | none =>
        have HR := Lib.hid (Pa.parse_none (x := x) (by rw [HRAW.out, FRel.bad HF.out (Pa.rdNum_none ha)]; rfl))
        have HN := Lib.hid ha; clear ha
        go_wp2
        have kU : ∀ {w5 : World}, Kp (· = w.heap.size + 1 + 1 + 1) wr.drew w5 → RowAt w.heap.size (acCells ⟨3, 0, ⟨0, 0, 0, 0, 0, ⟨#[]⟩, 0, 0⟩, 0, l, ⟨#[]⟩⟩ fv) w5 ∧ RowAt (w.heap.size + 1) [.bool false] w5 ∧ Below w.heap.size w w5 := fun {w5} k5 =>
          ⟨(hP.below (Below.refl _ _).drew).kp k5 (by show ¬ _ = _; omega), (hQ.below (Below.refl _ _).drew).kp k5 (by show ¬ _ = _; omega), Kp.up hB.drew k5 (by have := hB.size; exact this) (by intro k hk; show ¬ k = _; omega)⟩
        have KU : Hid (∀ w5 : World, Kp (· = w.heap.size + 1 + 1 + 1) wr.drew w5 → RowAt w.heap.size (acCells ⟨3, 0, ⟨0, 0, 0, 0, 0, ⟨#[]⟩, 0, 0⟩, 0, l, ⟨#[]⟩⟩ fv) w5 ∧ RowAt (w.heap.size + 1) [.bool false] w5 ∧ Below w.heap.size w w5) := fun _ h => kU h
        have HC := Lib.hid (rnum_no (w.heap.size + 1 + 1 + 1) (w.heap.size + 1 + 1) (v :: r2) wr.drew (okr.below (Below.refl _ _).drew) (hS.below (Below.refl _ _).drew) HN.out)
        clear kU
        refine wp_region_any (by kernel_rfl) ?_
        show wpAny _ _ _ _ (7 + 1) _ _ _
        refine any_mk (f := 7) [0, 2] (by kernel_rfl) (by simp) ?_
        intro i hi
        simp only [List.mem_cons, List.not_mem_nil, or_false] at hi
        rcases hi with rfl | rfl
        · refine op_val (by rfl) (by rfl) ?_
          go_simp
          refine any_mk (f := 6) [1, 2] (by kernel_rfl) (by simp) ?_
          intro i hi
          simp only [List.mem_cons, List.not_mem_nil, or_false] at hi
          rcases hi with rfl | rfl
          · refine op_val (by rfl) (by rfl) ?_
            go_simp
            refine any_mk (f := 5) [2] (by kernel_rfl) (by simp) ?_
            intro i hi
            simp only [List.mem_cons, List.not_mem_nil, or_false] at hi
            subst hi
            refine op_val (by rfl) (by rfl) ?_
            go_simp
            refine any_mk (f := 4) [3] (by kernel_rfl) (by simp) ?_
            intro i hi
            simp only [List.mem_cons, List.not_mem_nil, or_false] at hi
            subst hi
            refine op_val (by rfl) (by rfl) ?_
            go_simp
            refine HC.out.mono ?_
            rintro e w5 ⟨rfl, k5⟩
            exact door_bad HR.out rfl rfl rfl (KU.out _ k5).1 (KU.out _ k5).2.1 (KU.out _ k5).2.2
          · refine op_val (by rfl) (by rfl) ?_
            go_simp
            refine any_mk (f := 5) [1, 3] (by kernel_rfl) (by simp) ?_
            intro i hi
            simp only [List.mem_cons, List.not_mem_nil, or_false] at hi
            rcases hi with rfl | rfl
            · refine op_val (by rfl) (by rfl) ?_
              go_simp
              refine any_mk (f := 4) [3] (by kernel_rfl) (by simp) ?_
              intro i hi
              simp only [List.mem_cons, List.not_mem_nil, or_false] at hi
              subst hi
              refine op_val (by rfl) (by rfl) ?_
              go_simp
              refine HC.out.mono ?_
              rintro e w5 ⟨rfl, k5⟩
              exact door_bad HR.out rfl rfl rfl (KU.out _ k5).1 (KU.out _ k5).2.1 (KU.out _ k5).2.2
            · refine op_val (by rfl) (by rfl) ?_
              go_simp
              refine HC.out.mono ?_
              rintro e w5 ⟨rfl, k5⟩
              exact door_bad HR.out rfl rfl rfl (KU.out _ k5).1 (KU.out _ k5).2.1 (KU.out _ k5).2.2
        · refine op_val (by rfl) (by rfl) ?_
          go_simp
          refine any_mk (f := 6) [0, 3] (by kernel_rfl) (by simp) ?_
          intro i hi
          simp only [List.mem_cons, List.not_mem_nil, or_false] at hi
          rcases hi with rfl | rfl
          · refine op_val (by rfl) (by rfl) ?_
            go_simp
            refine any_mk (f := 5) [1, 3] (by kernel_rfl) (by simp) ?_
            intro i hi
            simp only [List.mem_cons, List.not_mem_nil, or_false] at hi
            rcases hi with rfl | rfl
            · refine op_val (by rfl) (by rfl) ?_
              go_simp
              refine any_mk (f := 4) [3] (by kernel_rfl) (by simp) ?_
              intro i hi
              simp only [List.mem_cons, List.not_mem_nil, or_false] at hi
              subst hi
              refine op_val (by rfl) (by rfl) ?_
              go_simp
              refine HC.out.mono ?_
              rintro e w5 ⟨rfl, k5⟩
              exact door_bad HR.out rfl rfl rfl (KU.out _ k5).1 (KU.out _ k5).2.1 (KU.out _ k5).2.2
            · refine op_val (by rfl) (by rfl) ?_
              go_simp
              refine HC.out.mono ?_
              rintro e w5 ⟨rfl, k5⟩
              exact door_bad HR.out rfl rfl rfl (KU.out _ k5).1 (KU.out _ k5).2.1 (KU.out _ k5).2.2
          · refine op_val (by rfl) (by rfl) ?_
            go_simp
            refine HC.out.mono ?_
            rintro e w5 ⟨rfl, k5⟩
            exact door_bad HR.out rfl rfl rfl (KU.out _ k5).1 (KU.out _ k5).2.1 (KU.out _ k5).2.2
      | some p =>
        obtain ⟨n, r3⟩ := p
        obtain ⟨v', hv', han⟩ := Pa.rdNum_some ha
        cases hv'
        have HX := Lib.hid (FRel.next HF.out han)
        have KU : Hid (∀ w5 : World, Kp (· = w.heap.size + 1 + 1 + 1) wr.drew w5 → RowAt w.heap.size (acCells ⟨3, 0, ⟨0, 0, 0, 0, 0, ⟨#[]⟩, 0, 0⟩, 0, l, ⟨#[]⟩⟩ fv) w5 ∧ RowAt (w.heap.size + 1) [.bool false] w5 ∧ Below w.heap.size w w5 ∧ w5.ownsRow (w.heap.size + 4) 3 1 fv l.length (l.map (Value.int .i64))) := fun w5 k5 =>
          ⟨(hP.below (Below.refl _ _).drew).kp k5 (by show ¬ _ = _; omega), (hQ.below (Below.refl _ _).drew).kp k5 (by show ¬ _ = _; omega), Kp.up hB.drew k5 (by have := hB.size; exact this) (by intro k hk; show ¬ k = _; omega), owns_kp (owns_below hO (Below.refl _ _).drew) k5 (by intro g hg; show ¬ g = _; omega)⟩
        have HC := Lib.hid (rnum_yes (w.heap.size + 1 + 1 + 1) (w.heap.size + 1 + 1) (v :: r2) n r2 wr.drew (hS.below (Below.refl _ _).drew) ha)
        clear ha han HF
        have hll : l.length ≤ 8001 := by omega
        go_wp2
        refine wp_region_any (by kernel_rfl) ?_
        show wpAny _ _ _ _ (7 + 1) _ _ _
        refine any_mk (f := 7) [0, 2] (by kernel_rfl) (by simp) ?_
        intro i hi
        simp only [List.mem_cons, List.not_mem_nil, or_false] at hi
        rcases hi with rfl | rfl
        · refine op_val (by rfl) (by rfl) ?_
          go_simp
          refine any_mk (f := 6) [1, 2] (by kernel_rfl) (by simp) ?_
          intro i hi
          simp only [List.mem_cons, List.not_mem_nil, or_false] at hi
          rcases hi with rfl | rfl
          · refine op_val (by rfl) (by rfl) ?_
            go_simp
            refine any_mk (f := 5) [2] (by kernel_rfl) (by simp) ?_
            intro i hi
            simp only [List.mem_cons, List.not_mem_nil, or_false] at hi
            subst hi
            refine op_val (by rfl) (by rfl) ?_
            go_simp
            refine any_mk (f := 4) [3] (by kernel_rfl) (by simp) ?_
            intro i hi
            simp only [List.mem_cons, List.not_mem_nil, or_false] at hi
            subst hi
            refine op_val (by rfl) (by rfl) ?_
            go_simp
            refine HC.out.mono ?_
            rintro e w5 ⟨rfl, s5, k5⟩
            obtain ⟨hP5, hQ5, hB5, hO5⟩ := KU.out _ k5
            have g11 := (hP5.2 11 _ rfl).1
            have h11 : (w5.alloc (.cells #[.int .i64 n] 3)).cell? ⟨w.heap.size, 11, none⟩ = some fv := cell_old _ hP5.1 g11
            refine any_mk (f := 3) [4] (by kernel_rfl) (by simp) ?_
            intro i hi
            simp only [List.mem_cons, List.not_mem_nil, or_false] at hi
            subst hi
            refine op_val (by rfl) (by rfl) ?_
            go_simp
            refine any_mk (f := 2) [5] (by kernel_rfl) (by simp) ?_
            intro i hi
            simp only [List.mem_cons, List.not_mem_nil, or_false] at hi
            subst hi
            refine op_val (by rfl) (by rfl) ?_
            refine wp_append_lies _ (.tmp 42) (.tmp 45) 25 (by rfl) (w.heap.size + 4) 3 i0 (.int .i64 0) 1 8 Tryz.underlying25 hi0 hz0 hz1 hz2 (by rfl) (by decide) fv l.length (l.map (Value.int .i64)) (by rfl) (owns_below hO5 ((Below.refl _ _).alloc (Nat.le_refl _) _)) ⟨w5.heap.size, 0, none⟩ 1 1 [.int .i64 n] (by rfl) (by rfl) (World.news_of_block (heap_alloc_new _ _)) (by simp [Value.oneCell']) (by omega) (by unfold maxLen; omega) (by omega) (by have := s5.rbl; simp; omega) (w5.heap.size + 1) (by simp) ?_
            intro g1 cap1 w6 hown6 hgrow hat hlt6
            have G := Lib.hid (fates_step (n := n) hP5 hQ5 s5 hB5 hO5 hown6 hgrow)
            have ⟨z11, zf11⟩ := (fates_mid hP5 hO5 hgrow).2 11 _ rfl
            clear hown6 hgrow hat g11 h11
            go_simp
            refine any_mk (f := 1) [6] (by kernel_rfl) (by simp) ?_
            intro i hi
            simp only [List.mem_cons, List.not_mem_nil, or_false] at hi
            subst hi
            refine op_val (by rfl) (by rfl) ?_
            go_simp
            refine any_mk (f := 0) [7] (by kernel_rfl) (by simp) ?_
            intro i hi
            simp only [List.mem_cons, List.not_mem_nil, or_false] at hi
            subst hi
            refine op_val (by rfl) (by rfl) ?_
            go_simp
            refine ⟨by kernel_rfl, ?_⟩
            clear HC
            go_wp2
            go_roundw
            case rel => exact ⟨l ++ [n], r2, .slice (some ⟨g1, 0, none⟩) (l.length + 1) cap1, HX.out, by simp at hlen ⊢; omega, G.out.1, G.out.2.1, G.out.2.2.1, G.out.2.2.2.1, G.out.2.2.2.2⟩
            case measure => rw [wordsLeft_eq hS, wordsLeft_eq G.out.1]; simp
          · refine op_val (by rfl) (by rfl) ?_
            go_simp
            refine any_mk (f := 5) [1, 3] (by kernel_rfl) (by simp) ?_
            intro i hi
            simp only [List.mem_cons, List.not_mem_nil, or_false] at hi
            rcases hi with rfl | rfl
            · refine op_val (by rfl) (by rfl) ?_
              go_simp
              refine any_mk (f := 4) [3] (by kernel_rfl) (by simp) ?_
              intro i hi
              simp only [List.mem_cons, List.not_mem_nil, or_false] at hi
              subst hi
              refine op_val (by rfl) (by rfl) ?_
              go_simp
              refine HC.out.mono ?_
              rintro e w5 ⟨rfl, s5, k5⟩
              obtain ⟨hP5, hQ5, hB5, hO5⟩ := KU.out _ k5
              have g11 := (hP5.2 11 _ rfl).1
              have h11 : (w5.alloc (.cells #[.int .i64 n] 3)).cell? ⟨w.heap.size, 11, none⟩ = some fv := cell_old _ hP5.1 g11
              refine any_mk (f := 3) [4] (by kernel_rfl) (by simp) ?_
              intro i hi
              simp only [List.mem_cons, List.not_mem_nil, or_false] at hi
              subst hi
              refine op_val (by rfl) (by rfl) ?_
              go_simp
              refine any_mk (f := 2) [5] (by kernel_rfl) (by simp) ?_
              intro i hi
              simp only [List.mem_cons, List.not_mem_nil, or_false] at hi
              subst hi
              refine op_val (by rfl) (by rfl) ?_
              refine wp_append_lies _ (.tmp 42) (.tmp 45) 25 (by rfl) (w.heap.size + 4) 3 i0 (.int .i64 0) 1 8 Tryz.underlying25 hi0 hz0 hz1 hz2 (by rfl) (by decide) fv l.length (l.map (Value.int .i64)) (by rfl) (owns_below hO5 ((Below.refl _ _).alloc (Nat.le_refl _) _)) ⟨w5.heap.size, 0, none⟩ 1 1 [.int .i64 n] (by rfl) (by rfl) (World.news_of_block (heap_alloc_new _ _)) (by simp [Value.oneCell']) (by omega) (by unfold maxLen; omega) (by omega) (by have := s5.rbl; simp; omega) (w5.heap.size + 1) (by simp) ?_
              intro g1 cap1 w6 hown6 hgrow hat hlt6
              have G := Lib.hid (fates_step (n := n) hP5 hQ5 s5 hB5 hO5 hown6 hgrow)
              have ⟨z11, zf11⟩ := (fates_mid hP5 hO5 hgrow).2 11 _ rfl
              clear hown6 hgrow hat g11 h11
              go_simp
              refine any_mk (f := 1) [6] (by kernel_rfl) (by simp) ?_
              intro i hi
              simp only [List.mem_cons, List.not_mem_nil, or_false] at hi
              subst hi
              refine op_val (by rfl) (by rfl) ?_
              go_simp
              refine any_mk (f := 0) [7] (by kernel_rfl) (by simp) ?_
              intro i hi
              simp only [List.mem_cons, List.not_mem_nil, or_false] at hi
              subst hi
              refine op_val (by rfl) (by rfl) ?_
              go_simp
              refine ⟨by kernel_rfl, ?_⟩
              clear HC
              go_wp2
              go_roundw
              case rel => exact ⟨l ++ [n], r2, .slice (some ⟨g1, 0, none⟩) (l.length + 1) cap1, HX.out, by simp at hlen ⊢; omega, G.out.1, G.out.2.1, G.out.2.2.1, G.out.2.2.2.1, G.out.2.2.2.2⟩
              case measure => rw [wordsLeft_eq hS, wordsLeft_eq G.out.1]; simp
            · refine op_val (by rfl) (by rfl) ?_
              go_simp
              refine HC.out.mono ?_
              rintro e w5 ⟨rfl, s5, k5⟩
              obtain ⟨hP5, hQ5, hB5, hO5⟩ := KU.out _ k5
              have g11 := (hP5.2 11 _ rfl).1
              have h11 : (w5.alloc (.cells #[.int .i64 n] 3)).cell? ⟨w.heap.size, 11, none⟩ = some fv := cell_old _ hP5.1 g11
              refine any_mk (f := 4) [1, 4] (by kernel_rfl) (by simp) ?_
              intro i hi
              simp only [List.mem_cons, List.not_mem_nil, or_false] at hi
              rcases hi with rfl | rfl
              · refine op_val (by rfl) (by rfl) ?_
                go_simp
                refine any_mk (f := 3) [4] (by kernel_rfl) (by simp) ?_
                intro i hi
                simp only [List.mem_cons, List.not_mem_nil, or_false] at hi
                subst hi
                refine op_val (by rfl) (by rfl) ?_
                go_simp
                refine any_mk (f := 2) [5] (by kernel_rfl) (by simp) ?_
                intro i hi
                simp only [List.mem_cons, List.not_mem_nil, or_false] at hi
                subst hi
                refine op_val (by rfl) (by rfl) ?_
                refine wp_append_lies _ (.tmp 42) (.tmp 45) 25 (by rfl) (w.heap.size + 4) 3 i0 (.int .i64 0) 1 8 Tryz.underlying25 hi0 hz0 hz1 hz2 (by rfl) (by decide) fv l.length (l.map (Value.int .i64)) (by rfl) (owns_below hO5 ((Below.refl _ _).alloc (Nat.le_refl _) _)) ⟨w5.heap.size, 0, none⟩ 1 1 [.int .i64 n] (by rfl) (by rfl) (World.news_of_block (heap_alloc_new _ _)) (by simp [Value.oneCell']) (by omega) (by unfold maxLen; omega) (by omega) (by have := s5.rbl; simp; omega) (w5.heap.size + 1) (by simp) ?_
                intro g1 cap1 w6 hown6 hgrow hat hlt6
                have G := Lib.hid (fates_step (n := n) hP5 hQ5 s5 hB5 hO5 hown6 hgrow)
                have ⟨z11, zf11⟩ := (fates_mid hP5 hO5 hgrow).2 11 _ rfl
                clear hown6 hgrow hat g11 h11
                go_simp
                refine any_mk (f := 1) [6] (by kernel_rfl) (by simp) ?_
                intro i hi
                simp only [List.mem_cons, List.not_mem_nil, or_false] at hi
                subst hi
                refine op_val (by rfl) (by rfl) ?_
                go_simp
                refine any_mk (f := 0) [7] (by kernel_rfl) (by simp) ?_
                intro i hi
                simp only [List.mem_cons, List.not_mem_nil, or_false] at hi
                subst hi
                refine op_val (by rfl) (by rfl) ?_
                go_simp
                refine ⟨by kernel_rfl, ?_⟩
                clear HC
                go_wp2
                go_roundw
                case rel => exact ⟨l ++ [n], r2, .slice (some ⟨g1, 0, none⟩) (l.length + 1) cap1, HX.out, by simp at hlen ⊢; omega, G.out.1, G.out.2.1, G.out.2.2.1, G.out.2.2.2.1, G.out.2.2.2.2⟩
                case measure => rw [wordsLeft_eq hS, wordsLeft_eq G.out.1]; simp
              · refine op_val (by rfl) (by rfl) ?_
                go_simp
                refine any_mk (f := 3) [1] (by kernel_rfl) (by simp) ?_
                intro i hi
                simp only [List.mem_cons, List.not_mem_nil, or_false] at hi
                subst hi
                refine op_val (by rfl) (by rfl) ?_
                go_simp
                refine any_mk (f := 2) [5] (by kernel_rfl) (by simp) ?_
                intro i hi
                simp only [List.mem_cons, List.not_mem_nil, or_false] at hi
                subst hi
                refine op_val (by rfl) (by rfl) ?_
                refine wp_append_lies _ (.tmp 42) (.tmp 45) 25 (by rfl) (w.heap.size + 4) 3 i0 (.int .i64 0) 1 8 Tryz.underlying25 hi0 hz0 hz1 hz2 (by rfl) (by decide) fv l.length (l.map (Value.int .i64)) (by rfl) (owns_below hO5 ((Below.refl _ _).alloc (Nat.le_refl _) _)) ⟨w5.heap.size, 0, none⟩ 1 1 [.int .i64 n] (by rfl) (by rfl) (World.news_of_block (heap_alloc_new _ _)) (by simp [Value.oneCell']) (by omega) (by unfold maxLen; omega) (by omega) (by have := s5.rbl; simp; omega) (w5.heap.size + 1) (by simp) ?_
                intro g1 cap1 w6 hown6 hgrow hat hlt6
                have G := Lib.hid (fates_step (n := n) hP5 hQ5 s5 hB5 hO5 hown6 hgrow)
                have ⟨z11, zf11⟩ := (fates_mid hP5 hO5 hgrow).2 11 _ rfl
                clear hown6 hgrow hat g11 h11
                go_simp
                refine any_mk (f := 1) [6] (by kernel_rfl) (by simp) ?_
                intro i hi
                simp only [List.mem_cons, List.not_mem_nil, or_false] at hi
                subst hi
                refine op_val (by rfl) (by rfl) ?_
                go_simp
                refine any_mk (f := 0) [7] (by kernel_rfl) (by simp) ?_
                intro i hi
                simp only [List.mem_cons, List.not_mem_nil, or_false] at hi
                subst hi
                refine op_val (by rfl) (by rfl) ?_
                go_simp
                refine ⟨by kernel_rfl, ?_⟩
                clear HC
                go_wp2
                go_roundw
                case rel => exact ⟨l ++ [n], r2, .slice (some ⟨g1, 0, none⟩) (l.length + 1) cap1, HX.out, by simp at hlen ⊢; omega, G.out.1, G.out.2.1, G.out.2.2.1, G.out.2.2.2.1, G.out.2.2.2.2⟩
                case measure => rw [wordsLeft_eq hS, wordsLeft_eq G.out.1]; simp
        · refine op_val (by rfl) (by rfl) ?_
          go_simp
          refine any_mk (f := 6) [0, 3] (by kernel_rfl) (by simp) ?_
          intro i hi
          simp only [List.mem_cons, List.not_mem_nil, or_false] at hi
          rcases hi with rfl | rfl
          · refine op_val (by rfl) (by rfl) ?_
            go_simp
            refine any_mk (f := 5) [1, 3] (by kernel_rfl) (by simp) ?_
            intro i hi
            simp only [List.mem_cons, List.not_mem_nil, or_false] at hi
            rcases hi with rfl | rfl
            · refine op_val (by rfl) (by rfl) ?_
              go_simp
              refine any_mk (f := 4) [3] (by kernel_rfl) (by simp) ?_
              intro i hi
              simp only [List.mem_cons, List.not_mem_nil, or_false] at hi
              subst hi
              refine op_val (by rfl) (by rfl) ?_
              go_simp
              refine HC.out.mono ?_
              rintro e w5 ⟨rfl, s5, k5⟩
              obtain ⟨hP5, hQ5, hB5, hO5⟩ := KU.out _ k5
              have g11 := (hP5.2 11 _ rfl).1
              have h11 : (w5.alloc (.cells #[.int .i64 n] 3)).cell? ⟨w.heap.size, 11, none⟩ = some fv := cell_old _ hP5.1 g11
              refine any_mk (f := 3) [4] (by kernel_rfl) (by simp) ?_
              intro i hi
              simp only [List.mem_cons, List.not_mem_nil, or_false] at hi
              subst hi
              refine op_val (by rfl) (by rfl) ?_
              go_simp
              refine any_mk (f := 2) [5] (by kernel_rfl) (by simp) ?_
              intro i hi
              simp only [List.mem_cons, List.not_mem_nil, or_false] at hi
              subst hi
              refine op_val (by rfl) (by rfl) ?_
              refine wp_append_lies _ (.tmp 42) (.tmp 45) 25 (by rfl) (w.heap.size + 4) 3 i0 (.int .i64 0) 1 8 Tryz.underlying25 hi0 hz0 hz1 hz2 (by rfl) (by decide) fv l.length (l.map (Value.int .i64)) (by rfl) (owns_below hO5 ((Below.refl _ _).alloc (Nat.le_refl _) _)) ⟨w5.heap.size, 0, none⟩ 1 1 [.int .i64 n] (by rfl) (by rfl) (World.news_of_block (heap_alloc_new _ _)) (by simp [Value.oneCell']) (by omega) (by unfold maxLen; omega) (by omega) (by have := s5.rbl; simp; omega) (w5.heap.size + 1) (by simp) ?_
              intro g1 cap1 w6 hown6 hgrow hat hlt6
              have G := Lib.hid (fates_step (n := n) hP5 hQ5 s5 hB5 hO5 hown6 hgrow)
              have ⟨z11, zf11⟩ := (fates_mid hP5 hO5 hgrow).2 11 _ rfl
              clear hown6 hgrow hat g11 h11
              go_simp
              refine any_mk (f := 1) [6] (by kernel_rfl) (by simp) ?_
              intro i hi
              simp only [List.mem_cons, List.not_mem_nil, or_false] at hi
              subst hi
              refine op_val (by rfl) (by rfl) ?_
              go_simp
              refine any_mk (f := 0) [7] (by kernel_rfl) (by simp) ?_
              intro i hi
              simp only [List.mem_cons, List.not_mem_nil, or_false] at hi
              subst hi
              refine op_val (by rfl) (by rfl) ?_
              go_simp
              refine ⟨by kernel_rfl, ?_⟩
              clear HC
              go_wp2
              go_roundw
              case rel => exact ⟨l ++ [n], r2, .slice (some ⟨g1, 0, none⟩) (l.length + 1) cap1, HX.out, by simp at hlen ⊢; omega, G.out.1, G.out.2.1, G.out.2.2.1, G.out.2.2.2.1, G.out.2.2.2.2⟩
              case measure => rw [wordsLeft_eq hS, wordsLeft_eq G.out.1]; simp
            · refine op_val (by rfl) (by rfl) ?_
              go_simp
              refine HC.out.mono ?_
              rintro e w5 ⟨rfl, s5, k5⟩
              obtain ⟨hP5, hQ5, hB5, hO5⟩ := KU.out _ k5
              have g11 := (hP5.2 11 _ rfl).1
              have h11 : (w5.alloc (.cells #[.int .i64 n] 3)).cell? ⟨w.heap.size, 11, none⟩ = some fv := cell_old _ hP5.1 g11
              refine any_mk (f := 4) [1, 4] (by kernel_rfl) (by simp) ?_
              intro i hi
              simp only [List.mem_cons, List.not_mem_nil, or_false] at hi
              rcases hi with rfl | rfl
              · refine op_val (by rfl) (by rfl) ?_
                go_simp
                refine any_mk (f := 3) [4] (by kernel_rfl) (by simp) ?_
                intro i hi
                simp only [List.mem_cons, List.not_mem_nil, or_false] at hi
                subst hi
                refine op_val (by rfl) (by rfl) ?_
                go_simp
                refine any_mk (f := 2) [5] (by kernel_rfl) (by simp) ?_
                intro i hi
                simp only [List.mem_cons, List.not_mem_nil, or_false] at hi
                subst hi
                refine op_val (by rfl) (by rfl) ?_
                refine wp_append_lies _ (.tmp 42) (.tmp 45) 25 (by rfl) (w.heap.size + 4) 3 i0 (.int .i64 0) 1 8 Tryz.underlying25 hi0 hz0 hz1 hz2 (by rfl) (by decide) fv l.length (l.map (Value.int .i64)) (by rfl) (owns_below hO5 ((Below.refl _ _).alloc (Nat.le_refl _) _)) ⟨w5.heap.size, 0, none⟩ 1 1 [.int .i64 n] (by rfl) (by rfl) (World.news_of_block (heap_alloc_new _ _)) (by simp [Value.oneCell']) (by omega) (by unfold maxLen; omega) (by omega) (by have := s5.rbl; simp; omega) (w5.heap.size + 1) (by simp) ?_
                intro g1 cap1 w6 hown6 hgrow hat hlt6
                have G := Lib.hid (fates_step (n := n) hP5 hQ5 s5 hB5 hO5 hown6 hgrow)
                have ⟨z11, zf11⟩ := (fates_mid hP5 hO5 hgrow).2 11 _ rfl
                clear hown6 hgrow hat g11 h11
                go_simp
                refine any_mk (f := 1) [6] (by kernel_rfl) (by simp) ?_
                intro i hi
                simp only [List.mem_cons, List.not_mem_nil, or_false] at hi
                subst hi
                refine op_val (by rfl) (by rfl) ?_
                go_simp
                refine any_mk (f := 0) [7] (by kernel_rfl) (by simp) ?_
                intro i hi
                simp only [List.mem_cons, List.not_mem_nil, or_false] at hi
                subst hi
                refine op_val (by rfl) (by rfl) ?_
                go_simp
                refine ⟨by kernel_rfl, ?_⟩
                clear HC
                go_wp2
                go_roundw
                case rel => exact ⟨l ++ [n], r2, .slice (some ⟨g1, 0, none⟩) (l.length + 1) cap1, HX.out, by simp at hlen ⊢; omega, G.out.1, G.out.2.1, G.out.2.2.1, G.out.2.2.2.1, G.out.2.2.2.2⟩
                case measure => rw [wordsLeft_eq hS, wordsLeft_eq G.out.1]; simp
              · refine op_val (by rfl) (by rfl) ?_
                go_simp
                refine any_mk (f := 3) [1] (by kernel_rfl) (by simp) ?_
                intro i hi
                simp only [List.mem_cons, List.not_mem_nil, or_false] at hi
                subst hi
                refine op_val (by rfl) (by rfl) ?_
                go_simp
                refine any_mk (f := 2) [5] (by kernel_rfl) (by simp) ?_
                intro i hi
                simp only [List.mem_cons, List.not_mem_nil, or_false] at hi
                subst hi
                refine op_val (by rfl) (by rfl) ?_
                refine wp_append_lies _ (.tmp 42) (.tmp 45) 25 (by rfl) (w.heap.size + 4) 3 i0 (.int .i64 0) 1 8 Tryz.underlying25 hi0 hz0 hz1 hz2 (by rfl) (by decide) fv l.length (l.map (Value.int .i64)) (by rfl) (owns_below hO5 ((Below.refl _ _).alloc (Nat.le_refl _) _)) ⟨w5.heap.size, 0, none⟩ 1 1 [.int .i64 n] (by rfl) (by rfl) (World.news_of_block (heap_alloc_new _ _)) (by simp [Value.oneCell']) (by omega) (by unfold maxLen; omega) (by omega) (by have := s5.rbl; simp; omega) (w5.heap.size + 1) (by simp) ?_
                intro g1 cap1 w6 hown6 hgrow hat hlt6
                have G := Lib.hid (fates_step (n := n) hP5 hQ5 s5 hB5 hO5 hown6 hgrow)
                have ⟨z11, zf11⟩ := (fates_mid hP5 hO5 hgrow).2 11 _ rfl
                clear hown6 hgrow hat g11 h11
                go_simp
                refine any_mk (f := 1) [6] (by kernel_rfl) (by simp) ?_
                intro i hi
                simp only [List.mem_cons, List.not_mem_nil, or_false] at hi
                subst hi
                refine op_val (by rfl) (by rfl) ?_
                go_simp
                refine any_mk (f := 0) [7] (by kernel_rfl) (by simp) ?_
                intro i hi
                simp only [List.mem_cons, List.not_mem_nil, or_false] at hi
                subst hi
                refine op_val (by rfl) (by rfl) ?_
                go_simp
                refine ⟨by kernel_rfl, ?_⟩
                clear HC
                go_wp2
                go_roundw
                case rel => exact ⟨l ++ [n], r2, .slice (some ⟨g1, 0, none⟩) (l.length + 1) cap1, HX.out, by simp at hlen ⊢; omega, G.out.1, G.out.2.1, G.out.2.2.1, G.out.2.2.2.1, G.out.2.2.2.2⟩
                case measure => rw [wordsLeft_eq hS, wordsLeft_eq G.out.1]; simp
          · refine op_val (by rfl) (by rfl) ?_
            go_simp
            refine HC.out.mono ?_
            rintro e w5 ⟨rfl, s5, k5⟩
            obtain ⟨hP5, hQ5, hB5, hO5⟩ := KU.out _ k5
            have g11 := (hP5.2 11 _ rfl).1
            have h11 : (w5.alloc (.cells #[.int .i64 n] 3)).cell? ⟨w.heap.size, 11, none⟩ = some fv := cell_old _ hP5.1 g11
            refine any_mk (f := 5) [0, 4] (by kernel_rfl) (by simp) ?_
            intro i hi
            simp only [List.mem_cons, List.not_mem_nil, or_false] at hi
            rcases hi with rfl | rfl
            · refine op_val (by rfl) (by rfl) ?_
              go_simp
              refine any_mk (f := 4) [1, 4] (by kernel_rfl) (by simp) ?_
              intro i hi
              simp only [List.mem_cons, List.not_mem_nil, or_false] at hi
              rcases hi with rfl | rfl
              · refine op_val (by rfl) (by rfl) ?_
                go_simp
                refine any_mk (f := 3) [4] (by kernel_rfl) (by simp) ?_
                intro i hi
                simp only [List.mem_cons, List.not_mem_nil, or_false] at hi
                subst hi
                refine op_val (by rfl) (by rfl) ?_
                go_simp
                refine any_mk (f := 2) [5] (by kernel_rfl) (by simp) ?_
                intro i hi
                simp only [List.mem_cons, List.not_mem_nil, or_false] at hi
                subst hi
                refine op_val (by rfl) (by rfl) ?_
                refine wp_append_lies _ (.tmp 42) (.tmp 45) 25 (by rfl) (w.heap.size + 4) 3 i0 (.int .i64 0) 1 8 Tryz.underlying25 hi0 hz0 hz1 hz2 (by rfl) (by decide) fv l.length (l.map (Value.int .i64)) (by rfl) (owns_below hO5 ((Below.refl _ _).alloc (Nat.le_refl _) _)) ⟨w5.heap.size, 0, none⟩ 1 1 [.int .i64 n] (by rfl) (by rfl) (World.news_of_block (heap_alloc_new _ _)) (by simp [Value.oneCell']) (by omega) (by unfold maxLen; omega) (by omega) (by have := s5.rbl; simp; omega) (w5.heap.size + 1) (by simp) ?_
                intro g1 cap1 w6 hown6 hgrow hat hlt6
                have G := Lib.hid (fates_step (n := n) hP5 hQ5 s5 hB5 hO5 hown6 hgrow)
                have ⟨z11, zf11⟩ := (fates_mid hP5 hO5 hgrow).2 11 _ rfl
                clear hown6 hgrow hat g11 h11
                go_simp
                refine any_mk (f := 1) [6] (by kernel_rfl) (by simp) ?_
                intro i hi
                simp only [List.mem_cons, List.not_mem_nil, or_false] at hi
                subst hi
                refine op_val (by rfl) (by rfl) ?_
                go_simp
                refine any_mk (f := 0) [7] (by kernel_rfl) (by simp) ?_
                intro i hi
                simp only [List.mem_cons, List.not_mem_nil, or_false] at hi
                subst hi
                refine op_val (by rfl) (by rfl) ?_
                go_simp
                refine ⟨by kernel_rfl, ?_⟩
                clear HC
                go_wp2
                go_roundw
                case rel => exact ⟨l ++ [n], r2, .slice (some ⟨g1, 0, none⟩) (l.length + 1) cap1, HX.out, by simp at hlen ⊢; omega, G.out.1, G.out.2.1, G.out.2.2.1, G.out.2.2.2.1, G.out.2.2.2.2⟩
                case measure => rw [wordsLeft_eq hS, wordsLeft_eq G.out.1]; simp
              · refine op_val (by rfl) (by rfl) ?_
                go_simp
                refine any_mk (f := 3) [1] (by kernel_rfl) (by simp) ?_
                intro i hi
                simp only [List.mem_cons, List.not_mem_nil, or_false] at hi
                subst hi
                refine op_val (by rfl) (by rfl) ?_
                go_simp
                refine any_mk (f := 2) [5] (by kernel_rfl) (by simp) ?_
                intro i hi
                simp only [List.mem_cons, List.not_mem_nil, or_false] at hi
                subst hi
                refine op_val (by rfl) (by rfl) ?_
                refine wp_append_lies _ (.tmp 42) (.tmp 45) 25 (by rfl) (w.heap.size + 4) 3 i0 (.int .i64 0) 1 8 Tryz.underlying25 hi0 hz0 hz1 hz2 (by rfl) (by decide) fv l.length (l.map (Value.int .i64)) (by rfl) (owns_below hO5 ((Below.refl _ _).alloc (Nat.le_refl _) _)) ⟨w5.heap.size, 0, none⟩ 1 1 [.int .i64 n] (by rfl) (by rfl) (World.news_of_block (heap_alloc_new _ _)) (by simp [Value.oneCell']) (by omega) (by unfold maxLen; omega) (by omega) (by have := s5.rbl; simp; omega) (w5.heap.size + 1) (by simp) ?_
                intro g1 cap1 w6 hown6 hgrow hat hlt6
                have G := Lib.hid (fates_step (n := n) hP5 hQ5 s5 hB5 hO5 hown6 hgrow)
                have ⟨z11, zf11⟩ := (fates_mid hP5 hO5 hgrow).2 11 _ rfl
                clear hown6 hgrow hat g11 h11
                go_simp
                refine any_mk (f := 1) [6] (by kernel_rfl) (by simp) ?_
                intro i hi
                simp only [List.mem_cons, List.not_mem_nil, or_false] at hi
                subst hi
                refine op_val (by rfl) (by rfl) ?_
                go_simp
                refine any_mk (f := 0) [7] (by kernel_rfl) (by simp) ?_
                intro i hi
                simp only [List.mem_cons, List.not_mem_nil, or_false] at hi
                subst hi
                refine op_val (by rfl) (by rfl) ?_
                go_simp
                refine ⟨by kernel_rfl, ?_⟩
                clear HC
                go_wp2
                go_roundw
                case rel => exact ⟨l ++ [n], r2, .slice (some ⟨g1, 0, none⟩) (l.length + 1) cap1, HX.out, by simp at hlen ⊢; omega, G.out.1, G.out.2.1, G.out.2.2.1, G.out.2.2.2.1, G.out.2.2.2.2⟩
                case measure => rw [wordsLeft_eq hS, wordsLeft_eq G.out.1]; simp
            · refine op_val (by rfl) (by rfl) ?_
              go_simp
              refine any_mk (f := 4) [0] (by kernel_rfl) (by simp) ?_
              intro i hi
              simp only [List.mem_cons, List.not_mem_nil, or_false] at hi
              subst hi
              refine op_val (by rfl) (by rfl) ?_
              go_simp
              refine any_mk (f := 3) [1] (by kernel_rfl) (by simp) ?_
              intro i hi
              simp only [List.mem_cons, List.not_mem_nil, or_false] at hi
              subst hi
              refine op_val (by rfl) (by rfl) ?_
              go_simp
              refine any_mk (f := 2) [5] (by kernel_rfl) (by simp) ?_
              intro i hi
              simp only [List.mem_cons, List.not_mem_nil, or_false] at hi
              subst hi
              refine op_val (by rfl) (by rfl) ?_
              refine wp_append_lies _ (.tmp 42) (.tmp 45) 25 (by rfl) (w.heap.size + 4) 3 i0 (.int .i64 0) 1 8 Tryz.underlying25 hi0 hz0 hz1 hz2 (by rfl) (by decide) fv l.length (l.map (Value.int .i64)) (by rfl) (owns_below hO5 ((Below.refl _ _).alloc (Nat.le_refl _) _)) ⟨w5.heap.size, 0, none⟩ 1 1 [.int .i64 n] (by rfl) (by rfl) (World.news_of_block (heap_alloc_new _ _)) (by simp [Value.oneCell']) (by omega) (by unfold maxLen; omega) (by omega) (by have := s5.rbl; simp; omega) (w5.heap.size + 1) (by simp) ?_
              intro g1 cap1 w6 hown6 hgrow hat hlt6
              have G := Lib.hid (fates_step (n := n) hP5 hQ5 s5 hB5 hO5 hown6 hgrow)
              have ⟨z11, zf11⟩ := (fates_mid hP5 hO5 hgrow).2 11 _ rfl
              clear hown6 hgrow hat g11 h11
              go_simp
              refine any_mk (f := 1) [6] (by kernel_rfl) (by simp) ?_
              intro i hi
              simp only [List.mem_cons, List.not_mem_nil, or_false] at hi
              subst hi
              refine op_val (by rfl) (by rfl) ?_
              go_simp
              refine any_mk (f := 0) [7] (by kernel_rfl) (by simp) ?_
              intro i hi
              simp only [List.mem_cons, List.not_mem_nil, or_false] at hi
              subst hi
              refine op_val (by rfl) (by rfl) ?_
              go_simp
              refine ⟨by kernel_rfl, ?_⟩
              clear HC
              go_wp2
              go_roundw
              case rel => exact ⟨l ++ [n], r2, .slice (some ⟨g1, 0, none⟩) (l.length + 1) cap1, HX.out, by simp at hlen ⊢; omega, G.out.1, G.out.2.1, G.out.2.2.1, G.out.2.2.2.1, G.out.2.2.2.2⟩
              case measure => rw [wordsLeft_eq hS, wordsLeft_eq G.out.1]; simp

end Go.Proofs.YtgajoiijebbagaaGreatDoor

/-! The walk of script.action, at every text. Conditions: the text is at most a billion bytes long; the library's variables read as laid. -/
namespace Go.Proofs.YtgajoiijebbagaaGreatDoor
open Go.RowKit Go.Proofs

/-- script.action: the valid action whose line the text is, if there is one. -/
theorem action_any (x : Pa.Bs) (w : World) (ok : Ok w) (hx : x.length ≤ 1000000000) : Calls Tryz.prog 39 #[.string ⟨x.toArray⟩] w (AOut x w) := by
  by_cases h8 : 8000 < x.length
  · exact act_long x w hx h8
  cases hs : Pa.splitC 32 x with
  | nil => exact absurd hs (Pa.splitC_ne 32 x)
  | cons v r =>
    by_cases n1 : v = Pa.w_call
    · subst n1; exact act_call x r w ok (by omega) hs
    by_cases n2 : v = Pa.w_tick
    · subst n2; exact act_tick x r w ok (by omega) hs
    by_cases n3 : v = Pa.w_fates
    · subst n3; exact act_fates x r w ok (by omega) hs
    by_cases n4 : v = Pa.w_frame
    · subst n4; exact act_frame x r w ok (by omega) hs
    exact act_other x v n1 n2 n3 n4 r w ok (by omega) hs

end Go.Proofs.YtgajoiijebbagaaGreatDoor
