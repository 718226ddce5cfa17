/-
  The walk of the generator Script: it returns the generated actions in new memory, and what was there before it is unchanged. Conditions: the raw actions lie in memory, their numbers are numbers of 64 bits.
-/
import Derived.Test.YtgajoiijebbagaaGreatDoorGe4
namespace Go.Proofs.YtgajoiijebbagaaGreatDoor
open Go.RowKit Go.Proofs

def rwCells (x : Pa.Rw) (fv : Value) : List Value := [.int .i64 x.kind, .int .i64 x.call, .int .i64 x.host, .int .i64 x.sock, .int .i64 x.addr, .int .i64 x.port, .int .i64 x.n, fv, .string x.s]
/-- A slice value that holds these raw actions. -/
def Raws (w : World) (v : Value) (l : List Pa.Rw) : Prop := ∃ (a : Option Addr) (c : Nat) (fv : Nat → Value), v = .slice a l.length c ∧
  (∀ (j : Nat) (h : j < l.length), Fs w (fv j) l[j].fates ∧ RwOk l[j]) ∧
  (l ≠ [] → ∃ b o, a = some ⟨b, o, none⟩ ∧ b < w.heap.size ∧ ∀ (j : Nat) (h : j < l.length) (i : Nat) u, (rwCells l[j] (fv j))[i]? = some u → w.cell? ⟨b, o + j * 9 + i, none⟩ = some u)
theorem Raws.below {w w' : World} {v : Value} {l : List Pa.Rw} (h : Raws w v l) (hb : Below w.heap.size w w') : Raws w' v l := by
  obtain ⟨a, c, fv, h1, h3, h4⟩ := h
  refine ⟨a, c, fv, h1, fun j hj => ⟨(h3 j hj).1.below hb, (h3 j hj).2⟩, fun h0 => ?_⟩
  obtain ⟨b, o, h5, h6, h7⟩ := h4 h0
  exact ⟨b, o, h5, Nat.lt_of_lt_of_le h6 hb.size, fun j hj i u hu => cell_below hb h6 (h7 j hj i u hu)⟩

theorem OwnA.push1 {base : Nat} {w1 w2 w6 : World} {v fv : Value} {l : List (Pa.Ac × Value)} {a : Pa.Ac} {O : Obj} {g1 cap1 : Nat} (hO : OwnA base w1 v l) (hb : Below w1.heap.size w1 w2) (hfs : Fs w2 fv a.fates) (hl : a.fates.length ≤ 9223372036854775807)
    (hfr : ∀ b, fv.ownBlock = some b → w1.heap.size ≤ b) (hown : w6.ownsRow base 27 13 (.slice (some ⟨g1, 0, none⟩) (l.length + 1) cap1) (l.length + 1) (rowCells l ++ acCells a fv)) (hg : (w2.alloc O).grownBy w6 v.ownBlock) (hat : v.ownBlock = some g1 ∨ g1 = w2.heap.size + 1) :
    OwnA base w6 (.slice (some ⟨g1, 0, none⟩) (l.length + 1) cap1) (l ++ [(a, fv)]) := by
  have hba := (Below.refl w2.heap.size w2).alloc (Nat.le_refl _) O
  have kg := Kp.of_grown hg
  refine ⟨by rw [rowCells_snoc, List.length_append]; exact hown, fun p hp => ?_⟩
  rcases List.mem_append.1 hp with hp | hp
  · obtain ⟨h1, h2, h3⟩ := hO.2 p hp
    have h1' := h1.below hb
    refine ⟨(h1'.below hba).kp kg (fun h0 b hb' e => h3 h0 b hb' e), h2, fun h0 b hb' e => ?_⟩
    cases e
    rcases hat with h | h
    · exact h3 h0 _ hb' h
    · have : g1 < w2.heap.size := h1'.lt h0 hb'
      omega
  · simp only [List.mem_singleton] at hp
    subst hp
    refine ⟨(hfs.below hba).kp kg (fun h0 b hb' e => ?_), hl, fun h0 b hb' e => ?_⟩
    · have := hfr b hb'; have := owns_lt hO.1 e; omega
    · cases e
      rcases hat with h | h
      · have h5 : w1.heap.size ≤ g1 := hfr _ hb'
        have h6 : g1 < w1.heap.size := owns_lt hO.1 h
        omega
      · have : g1 < w2.heap.size := hfs.lt h0 hb'
        omega

theorem take_map {l : List Pa.Rw} {lp : List (Pa.Ac × Value)} {k : Nat} {gv : Value} (h : lp.map Prod.fst = (l.take k).map Pa.actOf) (hk : k < l.length) : (lp ++ [(Pa.actOf l[k], gv)]).map Prod.fst = (l.take (k + 1)).map Pa.actOf := by
  rw [List.take_succ_eq_append_getElem hk, List.map_append, List.map_append, h]; rfl

theorem infoAct : ∃ i0, Tryz.prog.info? 27 = some i0 ∧ i0.zero = some (.agg #[.int .i64 0, .int .i64 0, .int .i64 0, .int .i64 0, .int .i64 0, .int .i64 0, .int .i64 0, .string ⟨#[]⟩, .int .i64 0, .int .i64 0, .int .i64 0, .slice none 0 0, .string ⟨#[]⟩]) ∧ i0.size = 13 ∧ i0.bytes = 136 := by
  have h := infoA
  obtain ⟨i, h1, h2⟩ := Option.map_eq_some_iff.1 h
  refine ⟨i, h1, (Prod.mk.inj h2).1, (Prod.mk.inj h2).2, ?_⟩
  have h := bytesA; rw [h1] at h; exact Option.some.inj h

set_option maxRecDepth 100000 in
set_option maxHeartbeats 800000 in
theorem script_any (l : List Pa.Rw) (v : Value) (w : World) (hv : Raws w v l) :
    Calls Tryz.prog 9 #[v] w fun e w' => ∃ r, e = .returned r ∧ Acts w' r (Pa.scriptOf l) ∧ Below w.heap.size w w' := by
  obtain ⟨i0, hi0, hz0, hz1, hz2⟩ := infoAct
  have HV := Lib.hid hv
  obtain ⟨va, vc, fv0, rfl, -⟩ := hv
  obtain ⟨L, hL⟩ : ∃ L, L = Pa.scriptOf l := ⟨_, rfl⟩
  rw [← hL]
  have HL := Lib.hid hL
  clear hL
  go_enter Tryz.func9, Tryz.ntmps9
  go_wp2_with fail
  go_loopw [3, 4] (fun r i wr => ∃ (k : Nat) (lp : List (Pa.Ac × Value)), k ≤ l.length ∧ k ≤ 20 ∧ i = .int .i64 k ∧ lp.length = k ∧ Hid (lp.map Prod.fst = (l.take k).map Pa.actOf) ∧ OwnA w.heap.size wr r lp ∧ Below w.heap.size w wr) (fun _ i _ => 20 - (intOf i).toNat)
  case atStart => exact ⟨0, [], Nat.zero_le _, Nat.zero_le _, rfl, rfl, rfl, ⟨World.ownsRow_nil _ _ _ _, by simp⟩, Below.refl _ _⟩
  case round =>
    obtain ⟨k, lp, hk1, hk2, rfl, hlp, HM, hO, hB⟩ := hrel
    subst hlp
    obtain ⟨vp, vq, rfl⟩ := owns_slice hO.1
    by_cases hlt : lp.length < l.length
    · by_cases h20 : lp.length < 20
      · obtain ⟨va', vc', fv, hv, hfs, hcs⟩ := HV.out.below hB
        cases hv
        obtain ⟨b, o, rfl, hbl, hcell⟩ := hcs (fun e => by simp [e] at hlt)
        obtain ⟨hf1, hx1⟩ := hfs lp.length hlt
        have ha := actOf_any l[lp.length] (fv lp.length) wr hx1 hf1
        have hfl := Pa.okA_fates (Pa.actOf_ok l[lp.length])
        have HN := Lib.hid (fun gv => take_map (gv := gv) HM.out hlt)
        obtain ⟨⟨y1, y2, ⟨z1, z2, z3, z4, z5, z6, z7, z8⟩, y3, fs, y5⟩, hA⟩ : ∃ A, A = Pa.actOf l[lp.length] := ⟨_, rfl⟩
        rw [← hA] at ha hfl HN
        have g : ∀ (j : Nat) (u : Value), (rwCells l[lp.length] (fv lp.length))[j]? = some u → wr.cell? ⟨b, o + lp.length * 9 + j, none⟩ = some u := fun j u hu => hcell lp.length hlt j u hu
        have p0 := g 0 _ rfl
        have p1 := g 1 _ rfl
        have p2 := g 2 _ rfl
        have p3 := g 3 _ rfl
        have p4 := g 4 _ rfl
        have p5 := g 5 _ rfl
        have p6 := g 6 _ rfl
        have p7 := g 7 _ rfl
        have p8 := g 8 _ rfl
        simp only [Nat.add_zero] at p0
        have b1' : (0 : Int) ≤ (lp.length : Int) := by omega
        have b2' : (lp.length : Int) < (l.length : Int) := by omega
        have b3' : (lp.length : Int) < 20 := by omega
        unfold rwV at ha
        clear g hcell hcs hfs hA hx1 hf1
        go_wp2_with fail
        refine ha.mono ?_
        rintro e w2 ⟨gv, rfl, hfs2, hfr2, hb2⟩
        have HFS := Lib.hid hfs2
        obtain ⟨ga, gc, rfl, -⟩ := hfs2
        have hB2 := below_on hB hb2
        have hO2 := owns_below hO.1 hb2
        have hw2s := hB2.size
        clear p0 p1 p2 p3 p4 p5 p6 p7 p8 ha
        unfold acV
        simp only at HFS hfl
        go_wp2_with (at_builtin; refine wpList_append_lies _ rfl (.tmp 15) (.tmp 21) 29 rfl w.heap.size 27 i0 _ 13 136 Tryz.underlying29 hi0 hz0 hz1 hz2 rfl (by decide) _ lp.length _ rfl (owns_below hO2 ((Below.refl _ _).alloc (Nat.le_refl _) _)) ⟨w2.heap.size, 0, none⟩ 1 1 (acCells ⟨y1, y2, ⟨z1, z2, z3, z4, z5, z6, z7, z8⟩, y3, fs, y5⟩ (.slice ga fs.length gc)) rfl rfl (World.news_of_block (heap_alloc_new _ _)) (by simp [acCells, Value.oneCell']) (by omega) (by unfold maxLen; omega) (by omega) (by simp; omega) (w2.heap.size + 1) (by simp) ?_; intro g1 cap1 w6 hown6 hgrow hat hlt6)
        have hOn := OwnA.push1 (a := ⟨y1, y2, ⟨z1, z2, z3, z4, z5, z6, z7, z8⟩, y3, fs, y5⟩) hO hb2 HFS.out (by show fs.length ≤ _; omega) hfr2 hown6 hgrow hat
        have hBn : Below w.heap.size w w6 := (hB2.alloc hw2s _).grown hgrow (by simp; omega) (fun _ e => owns_base hO.1 e)
        have HON := Lib.hid hOn
        clear hOn hown6 hgrow hat hO hO2 HFS
        go_roundw
        case rel => exact ⟨lp.length + 1, lp ++ [(⟨y1, y2, ⟨z1, z2, z3, z4, z5, z6, z7, z8⟩, y3, fs, y5⟩, .slice ga fs.length gc)], by omega, by omega, by go_num, by simp, Lib.hid (HN.out (.slice ga fs.length gc)), HON.out, hBn⟩
        case measure => simp [intOf]; omega
      · have hf1 : (lp.length : Int) < (l.length : Int) := by omega
        have hf2 : ¬ (lp.length : Int) < 20 := by omega
        have hE : lp.map Prod.fst = L := by rw [HL.out, HM.out, Pa.scriptOf, (by omega : lp.length = 20)]
        have HE := Lib.hid hE; clear hE
        go_wp2
        go_ret
        exact ⟨_, rfl, HE.out ▸ hO.acts, hB⟩
    · have hf1 : ¬ (lp.length : Int) < (l.length : Int) := by omega
      have hE : lp.map Prod.fst = L := by rw [HL.out, HM.out, Pa.scriptOf, List.take_of_length_le (by omega), List.take_of_length_le (by omega)]
      have HE := Lib.hid hE; clear hE
      go_wp2
      go_ret
      exact ⟨_, rfl, HE.out ▸ hO.acts, hB⟩

end Go.Proofs.YtgajoiijebbagaaGreatDoor
