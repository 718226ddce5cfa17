/-
  THE LAW ScriptFieldFormats: for every input the call returns true, and each argument reads afterwards as it read before; the tied card. Conditions: those of the given row (the listed library tables are laid, which the card ties to the program's text).
-/
import Derived.Test.YtgajoiijebbagaaGreatDoorSPrint
import Derived.Test.YtgajoiijebbagaaGreatDoorSPlainD
import Derived.Test.YtgajoiijebbagaaGreatDoorSParse
import Derived.Test.YtgajoiijebbagaaGreatDoorFrame
/-! The walks of the document's Same and SameActs. Conditions: the fates and the actions lie in memory. -/
namespace Go.Proofs.YtgajoiijebbagaaGreatDoor
open Go.RowKit Go.Proofs

theorem take_next {xs ys : List Int} {k : Nat} (h : xs.take k = ys.take k) (h1 : k < xs.length) (h2 : k < ys.length) (he : xs[k] = ys[k]) : xs.take (k + 1) = ys.take (k + 1) := by
  rw [List.take_succ_eq_append_getElem h1, List.take_succ_eq_append_getElem h2, h, he]

set_option maxRecDepth 100000 in
set_option maxHeartbeats 2000000 in
theorem refSame_any (a b : Pa.Ac) (fa fb : Value) (w : World) (ha : Fs w fa a.fates) (hb : Fs w fb b.fates) (hl : a.fates.length ≤ 9223372036854775807) (hl' : b.fates.length ≤ 9223372036854775807) :
    Calls Tryz.prog 17 #[acV a fa, acV b fb] w fun e w' => e = .returned (.bool (decide (a = b))) ∧ Below w.heap.size w w' := by
  have hq := eqCall
  have HA := Lib.hid ha; have HB := Lib.hid hb
  unfold acV
  obtain ⟨va, ca, rfl, -⟩ := ha
  obtain ⟨vb, cb, rfl, -⟩ := hb
  obtain ⟨k1, h1, ⟨x1, x2, x3, x4, x5, x6, x7, x8⟩, n1, f1, s1⟩ := a
  obtain ⟨k2, h2, ⟨y1, y2, y3, y4, y5, y6, y7, y8⟩, n2, f2, s2⟩ := b
  simp only at HA HB hl hl'
  by_cases hlen : f1.length = f2.length
  · have hn1 : ((f1.length : Int) != (f2.length : Int)) = false := by rw [hlen]; simp
    have HLEN := Lib.hid hlen; clear hlen
    go_enter Tryz.func17, Tryz.ntmps17
    go_wp2_with fail
    have r1 : RowAt w.heap.size #[.int .i64 k1, .int .i64 h1, .int .i64 x1, .int .i64 x2, .int .i64 x3, .int .i64 x4, .int .i64 x5, .string x6, .int .i64 x7, .int .i64 x8, .int .i64 n1, .slice va f1.length ca, .string s1].toList ((w.alloc (.cells #[.int .i64 k1, .int .i64 h1, .int .i64 x1, .int .i64 x2, .int .i64 x3, .int .i64 x4, .int .i64 x5, .string x6, .int .i64 x7, .int .i64 x8, .int .i64 n1, .slice va f1.length ca, .string s1] 27)).alloc (.cells #[.int .i64 k2, .int .i64 h2, .int .i64 y1, .int .i64 y2, .int .i64 y3, .int .i64 y4, .int .i64 y5, .string y6, .int .i64 y7, .int .i64 y8, .int .i64 n2, .slice vb f2.length cb, .string s2] 27)) := (RowAt.new w #[.int .i64 k1, .int .i64 h1, .int .i64 x1, .int .i64 x2, .int .i64 x3, .int .i64 x4, .int .i64 x5, .string x6, .int .i64 x7, .int .i64 x8, .int .i64 n1, .slice va f1.length ca, .string s1] 27).below ((Below.refl _ _).alloc (Nat.le_refl _) _)
    have r2 : RowAt (w.heap.size + 1) #[.int .i64 k2, .int .i64 h2, .int .i64 y1, .int .i64 y2, .int .i64 y3, .int .i64 y4, .int .i64 y5, .string y6, .int .i64 y7, .int .i64 y8, .int .i64 n2, .slice vb f2.length cb, .string s2].toList ((w.alloc (.cells #[.int .i64 k1, .int .i64 h1, .int .i64 x1, .int .i64 x2, .int .i64 x3, .int .i64 x4, .int .i64 x5, .string x6, .int .i64 x7, .int .i64 x8, .int .i64 n1, .slice va f1.length ca, .string s1] 27)).alloc (.cells #[.int .i64 k2, .int .i64 h2, .int .i64 y1, .int .i64 y2, .int .i64 y3, .int .i64 y4, .int .i64 y5, .string y6, .int .i64 y7, .int .i64 y8, .int .i64 n2, .slice vb f2.length cb, .string s2] 27)) := by
      have := RowAt.new (w.alloc (.cells #[.int .i64 k1, .int .i64 h1, .int .i64 x1, .int .i64 x2, .int .i64 x3, .int .i64 x4, .int .i64 x5, .string x6, .int .i64 x7, .int .i64 x8, .int .i64 n1, .slice va f1.length ca, .string s1] 27)) #[.int .i64 k2, .int .i64 h2, .int .i64 y1, .int .i64 y2, .int .i64 y3, .int .i64 y4, .int .i64 y5, .string y6, .int .i64 y7, .int .i64 y8, .int .i64 n2, .slice vb f2.length cb, .string s2] 27
      rw [World.size_alloc] at this; exact this
    have hB0 : Below w.heap.size w ((w.alloc (.cells #[.int .i64 k1, .int .i64 h1, .int .i64 x1, .int .i64 x2, .int .i64 x3, .int .i64 x4, .int .i64 x5, .string x6, .int .i64 x7, .int .i64 x8, .int .i64 n1, .slice va f1.length ca, .string s1] 27)).alloc (.cells #[.int .i64 k2, .int .i64 h2, .int .i64 y1, .int .i64 y2, .int .i64 y3, .int .i64 y4, .int .i64 y5, .string y6, .int .i64 y7, .int .i64 y8, .int .i64 n2, .slice vb f2.length cb, .string s2] 27)) := ((Below.refl _ _).alloc (Nat.le_refl _) _).alloc (by simp) _
    obtain ⟨W, hW⟩ : ∃ W : World, W = ((w.alloc (.cells #[.int .i64 k1, .int .i64 h1, .int .i64 x1, .int .i64 x2, .int .i64 x3, .int .i64 x4, .int .i64 x5, .string x6, .int .i64 x7, .int .i64 x8, .int .i64 n1, .slice va f1.length ca, .string s1] 27)).alloc (.cells #[.int .i64 k2, .int .i64 h2, .int .i64 y1, .int .i64 y2, .int .i64 y3, .int .i64 y4, .int .i64 y5, .string y6, .int .i64 y7, .int .i64 y8, .int .i64 n2, .slice vb f2.length cb, .string s2] 27)) := ⟨_, rfl⟩
    rw [← hW] at r1 r2 hB0 ⊢
    clear hW
    have hFA := HA.out.below hB0
    have hFB := HB.out.below hB0
    have HFA := Lib.hid hFA; have HFB := Lib.hid hFB; clear hFA hFB HA HB
    go_loopw [5] (fun i wr => ∃ k : Nat, k ≤ f1.length ∧ i = .int .i64 k ∧ Hid (f1.take k = f2.take k) ∧ Below W.heap.size W wr) (fun i _ => f1.length - (intOf i).toNat)
    case atStart => exact ⟨0, Nat.zero_le _, rfl, rfl, Below.refl _ _⟩
    case round =>
      obtain ⟨k, hk, rfl, HT, hB⟩ := hrel
      have q1 := r1.below hB
      have q2 := r2.below hB
      have c11 := (q1.2 11 _ rfl).1
      have d11 := (q2.2 11 _ rfl).1
      have hBw := hB0.trans (hB.mono hB0.size)
      by_cases hlt : k < f1.length
      · have hlt2 : k < f2.length := by have := HLEN.out; omega
        obtain ⟨va', ca', hv, hcs⟩ := HFA.out.below hB
        cases hv
        obtain ⟨b1, o1, rfl, hbl1, hcell1⟩ := hcs (fun e => by simp [e] at hlt)
        obtain ⟨vb', cb', hv, hcs2⟩ := HFB.out.below hB
        cases hv
        obtain ⟨b2, o2, rfl, hbl2, hcell2⟩ := hcs2 (fun e => by simp [e] at hlt2)
        have e1 := hcell1 k hlt
        have e2 := hcell2 k hlt2
        clear hcell1 hcell2 hcs hcs2
        have b1 : (0 : Int) ≤ (k : Int) := by omega
        have b2 : (k : Int) < (f1.length : Int) := by omega
        have b3 : (k : Int) < (f2.length : Int) := by omega
        go_wp2
        go_quiet (fail)
        by_cases heq : f1[k] = f2[k]
        · have hne : (f1[k] != f2[k]) = false := by rw [heq]; simp
          have HX := Lib.hid (take_next HT.out hlt hlt2 heq)
          clear heq
          go_wp2
          go_roundw
          case rel => exact ⟨k + 1, by omega, by go_num, HX.out, below_on hB (drewN_below _ _)⟩
          case measure => simp [intOf]; omega
        · have hne : (f1[k] != f2[k]) = true := by rw [bne_iff_ne]; exact heq
          have HX := Lib.hid heq; clear heq
          go_wp2
          go_ret
          refine ⟨ret_bool ?_, below_on hBw (drewN_below _ _)⟩
          symm
          rw [decide_eq_false_iff_not]
          intro h
          cases h
          exact HX.out rfl
      · have HE : Hid (f1 = f2) := by
          have := HT.out
          rw [List.take_of_length_le (by omega), List.take_of_length_le (by have := HLEN.out; omega)] at this
          exact this
        have c0 := (q1.2 0 _ rfl).1
        have c1 := (q1.2 1 _ rfl).1
        have c2 := (q1.2 2 _ rfl).1
        have c3 := (q1.2 3 _ rfl).1
        have c4 := (q1.2 4 _ rfl).1
        have c5 := (q1.2 5 _ rfl).1
        have c6 := (q1.2 6 _ rfl).1
        have c7 := (q1.2 7 _ rfl).1
        have c8 := (q1.2 8 _ rfl).1
        have c9 := (q1.2 9 _ rfl).1
        have c10 := (q1.2 10 _ rfl).1
        have c12 := (q1.2 12 _ rfl).1
        have d0 := (q2.2 0 _ rfl).1
        have d1 := (q2.2 1 _ rfl).1
        have d2 := (q2.2 2 _ rfl).1
        have d3 := (q2.2 3 _ rfl).1
        have d4 := (q2.2 4 _ rfl).1
        have d5 := (q2.2 5 _ rfl).1
        have d6 := (q2.2 6 _ rfl).1
        have d7 := (q2.2 7 _ rfl).1
        have d8 := (q2.2 8 _ rfl).1
        have d9 := (q2.2 9 _ rfl).1
        have d10 := (q2.2 10 _ rfl).1
        have d12 := (q2.2 12 _ rfl).1
        go_wp2
        all_goals first
          | (go_ret; exact ⟨rfl, hBw⟩)
          | (go_ret; refine ⟨ret_bool ?_, hBw⟩; rw [HE.out, bytes_beq]; simp)
  · have hn1 : ((f1.length : Int) != (f2.length : Int)) = true := by rw [bne_iff_ne]; omega
    have HLEN := Lib.hid hlen; clear hlen
    go_enter Tryz.func17, Tryz.ntmps17
    go_wp2
    go_ret
    refine ⟨ret_bool ?_, ((Below.refl _ _).alloc (Nat.le_refl _) _).alloc (by simp) _⟩
    symm
    rw [decide_eq_false_iff_not]
    intro h
    exact HLEN.out (by cases h; rfl)

theorem acts_take {l m : List Pa.Ac} {k : Nat} (h : l.take k = m.take k) (h1 : k < l.length) (h2 : k < m.length) (he : l[k] = m[k]) : l.take (k + 1) = m.take (k + 1) := by
  rw [List.take_succ_eq_append_getElem h1, List.take_succ_eq_append_getElem h2, h, he]

set_option maxRecDepth 100000 in
set_option maxHeartbeats 2000000 in
/-- The document's SameActs: whether two scripts are equal. -/
theorem sameActs_any (l m : List Pa.Ac) (v u : Value) (w : World) (hv : Acts w v l) (hu : Acts w u m) (hl : l.length ≤ 1000000) (hm : m.length ≤ 1000000) :
    Calls Tryz.prog 20 #[v, u] w fun e w' => e = .returned (.bool (decide (l = m))) ∧ Below w.heap.size w w' := by
  have HV := Lib.hid hv; have HU := Lib.hid hu
  obtain ⟨a1, c1, fv1, rfl, hlc1, -⟩ := hv
  obtain ⟨a2, c2, fv2, rfl, hlc2, -⟩ := hu
  by_cases hlen : l.length = m.length
  · have hn1 : ((l.length : Int) != (m.length : Int)) = false := by rw [hlen]; simp
    have HLEN := Lib.hid hlen; clear hlen
    go_enter Tryz.func20, Tryz.ntmps20
    go_wp2_with fail
    go_loopw [5] (fun i wr => ∃ k : Nat, k ≤ l.length ∧ i = .int .i64 k ∧ Hid (l.take k = m.take k) ∧ Below w.heap.size w wr) (fun i _ => l.length - (intOf i).toNat)
    case atStart => exact ⟨0, Nat.zero_le _, rfl, rfl, Below.refl _ _⟩
    case round =>
      obtain ⟨k, hk, rfl, HT, hB⟩ := hrel
      by_cases hlt : k < l.length
      · have hlt2 : k < m.length := by have := HLEN.out; omega
        obtain ⟨a1', c1', fv1, hv, _, hfs1, hcs1⟩ := HV.out.below hB
        cases hv
        obtain ⟨a2', c2', fv2, hv, _, hfs2, hcs2⟩ := HU.out.below hB
        cases hv
        obtain ⟨b1, o1, rfl, hbl1, hcell1⟩ := hcs1 (fun e => by simp [e] at hlt)
        obtain ⟨b2, o2, rfl, hbl2, hcell2⟩ := hcs2 (fun e => by simp [e] at hlt2)
        have hs := fun (x : Lat (Below wr.heap.size wr)) => refSame_any l[k] m[k] (fv1 k) (fv2 k) x.u ((hfs1 k hlt).1.below x.h) ((hfs2 k hlt2).1.below x.h) (hfs1 k hlt).2 (hfs2 k hlt2).2
        have g1 : ∀ (j : Nat) (u : Value), (acCells l[k] (fv1 k))[j]? = some u → ∀ x : Lat (Below wr.heap.size wr), x.u.cell? ⟨b1, o1 + k * 13 + j, none⟩ = some u := fun j u hu x => x.cell hbl1 (hcell1 k hlt j u hu)
        have g2 : ∀ (j : Nat) (u : Value), (acCells m[k] (fv2 k))[j]? = some u → ∀ x : Lat (Below wr.heap.size wr), x.u.cell? ⟨b2, o2 + k * 13 + j, none⟩ = some u := fun j u hu x => x.cell hbl2 (hcell2 k hlt2 j u hu)
        have p0 := g1 0 _ rfl
        have q0 := g2 0 _ rfl
        have p1 := g1 1 _ rfl
        have q1 := g2 1 _ rfl
        have p2 := g1 2 _ rfl
        have q2 := g2 2 _ rfl
        have p3 := g1 3 _ rfl
        have q3 := g2 3 _ rfl
        have p4 := g1 4 _ rfl
        have q4 := g2 4 _ rfl
        have p5 := g1 5 _ rfl
        have q5 := g2 5 _ rfl
        have p6 := g1 6 _ rfl
        have q6 := g2 6 _ rfl
        have p7 := g1 7 _ rfl
        have q7 := g2 7 _ rfl
        have p8 := g1 8 _ rfl
        have q8 := g2 8 _ rfl
        have p9 := g1 9 _ rfl
        have q9 := g2 9 _ rfl
        have p10 := g1 10 _ rfl
        have q10 := g2 10 _ rfl
        have p11 := g1 11 _ rfl
        have q11 := g2 11 _ rfl
        have p12 := g1 12 _ rfl
        have q12 := g2 12 _ rfl
        simp only [Nat.add_zero] at p0 q0
        clear g1 g2 hcell1 hcell2 hcs1 hcs2 hfs1 hfs2
        have b1' : (0 : Int) ≤ (k : Int) := by omega
        have b2' : (k : Int) < (l.length : Int) := by omega
        have b3' : (k : Int) < (m.length : Int) := by omega
        by_cases heq : l[k] = m[k]
        · have HN := Lib.hid (acts_take HT.out hlt hlt2 heq)
          have hd : decide (l[k] = m[k]) = true := by simpa using heq
          simp only [hd] at hs
          have HX := Lib.hid heq
          clear hd heq
          unfold acV at hs
          go_wp2
          refine wp_region_below (by kernel_rfl) (by kernel_rfl) ?_
          intro W hW
          subst hW
          repeat (go_big_quiet_step ((go_at_call 17; exact Calls.below (hs _))))
          refine wpQuiet_nil ?_
          rintro u ⟨x, hx⟩
          have hu : Below W.heap.size W u := by rw [hx]; exact x.h
          clear hx x hs p0 q0 p1 q1 p2 q2 p3 q3 p4 q4 p5 q5 p6 q6 p7 q7 p8 q8 p9 q9 p10 q10 p11 q11 p12 q12
          go_wp2
          go_roundw
          case rel => exact ⟨k + 1, by omega, by go_num, HN.out, below_on hB hu⟩
          case measure => simp [intOf]; omega
        · skip
          have hd : decide (l[k] = m[k]) = false := by simpa using heq
          simp only [hd] at hs
          have HX := Lib.hid heq
          clear hd heq
          unfold acV at hs
          go_wp2
          refine wp_region_below (by kernel_rfl) (by kernel_rfl) ?_
          intro W hW
          subst hW
          repeat (go_big_quiet_step ((go_at_call 17; exact Calls.below (hs _))))
          refine wpQuiet_nil ?_
          rintro u ⟨x, hx⟩
          have hu : Below W.heap.size W u := by rw [hx]; exact x.h
          clear hx x hs p0 q0 p1 q1 p2 q2 p3 q3 p4 q4 p5 q5 p6 q6 p7 q7 p8 q8 p9 q9 p10 q10 p11 q11 p12 q12
          go_wp2
          go_ret
          refine ⟨ret_bool ?_, below_on hB hu⟩
          symm
          rw [decide_eq_false_iff_not]
          intro h
          subst h
          exact HX.out rfl
      · have HE : Hid (l = m) := by
          have := HT.out
          rw [List.take_of_length_le (by omega), List.take_of_length_le (by have := HLEN.out; omega)] at this
          exact this
        go_wp2
        go_ret
        exact ⟨ret_bool (by rw [HE.out]; simp), hB⟩
  · have hn1 : ((l.length : Int) != (m.length : Int)) = true := by rw [bne_iff_ne]; omega
    have HLEN := Lib.hid hlen; clear hlen
    go_enter Tryz.func20, Tryz.ntmps20
    go_wp2
    go_ret
    refine ⟨ret_bool ?_, Below.refl _ _⟩
    symm
    rw [decide_eq_false_iff_not]
    intro h
    exact HLEN.out (by rw [h])

end Go.Proofs.YtgajoiijebbagaaGreatDoor

/-! PLAIN FACTS ON THE CHAPTER's EXAMPLES: what the five actions print, and where two texts stop. Conditions: none. -/
namespace Go.Proofs.YtgajoiijebbagaaGreatDoor.Pa

def exL : List Ac := [⟨1, 1, ⟨4, 2, 167772161, 80, 0, ⟨#[]⟩, 0, 0⟩, 0, [], ⟨#[]⟩⟩, ⟨3, 0, ⟨0, 0, 0, 0, 0, ⟨#[]⟩, 0, 0⟩, 0, [0, 1, 5], ⟨#[]⟩⟩, ⟨4, 0, ⟨0, 0, 0, 0, 0, ⟨#[]⟩, 0, 0⟩, 0, [], ⟨#[0, 255]⟩⟩, ⟨1, 0, ⟨6, 1, 0, 0, 0, ⟨#[]⟩, 0, 0⟩, 0, [], ⟨#[]⟩⟩, ⟨2, 0, ⟨0, 0, 0, 0, 0, ⟨#[]⟩, 0, 0⟩, 500, [], ⟨#[]⟩⟩]
def exT : Bs := [99, 97, 108, 108, 32, 49, 32, 99, 111, 110, 110, 101, 99, 116, 32, 50, 32, 49, 48, 46, 48, 46, 48, 46, 49, 32, 56, 48, 10, 102, 97, 116, 101, 115, 32, 48, 32, 49, 32, 53, 10, 102, 114, 97, 109, 101, 32, 48, 32, 48, 48, 102, 102, 10, 99, 97, 108, 108, 32, 48, 32, 115, 101, 110, 100, 32, 49, 32, 45, 10, 116, 105, 99, 107, 32, 53, 48, 48, 10]

theorem d0 : dig 0 = [48] := by rw [dig_small (by decide)]; rfl
theorem d1 : dig 1 = [49] := by rw [dig_small (by decide)]; rfl
theorem d2 : dig 2 = [50] := by rw [dig_small (by decide)]; rfl
theorem d5 : dig 5 = [53] := by rw [dig_small (by decide)]; rfl
theorem d10 : dig 10 = [49, 48] := by rw [dig_big (by decide), show 10 / 10 = 1 from rfl, d1]; rfl
theorem d80 : dig 80 = [56, 48] := by rw [dig_big (by decide), dig_small (by decide)]; rfl
theorem d500 : dig 500 = [53, 48, 48] := by rw [dig_big (by decide), dig_big (by decide), dig_small (by decide)]; rfl

theorem ex_ok : ∀ a ∈ exL, okA a = true := by decide
theorem ex_text : textA exL = exT := by
  have o0 : oct 167772161 0 = 10 := by decide
  have o1 : oct 167772161 1 = 0 := by decide
  have o2 : oct 167772161 2 = 0 := by decide
  have o3 : oct 167772161 3 = 1 := by decide
  have hv : validB 167772161 = true := by decide
  simp [textA, exL, lineA, lineW, callW, num, fmtS, hv, fmtL, o0, o1, o2, o3, d0, d1, d2, d5, d10, d80, d500, hexL, hexs, hex2, hexd, Lib.join_cons, Lib.joinTail, exT]

theorem ex_print : printA exL = some exT := by rw [printA_some ex_ok (by decide), ex_text]
theorem ex_parse : parseT exT = .inr exL := by rw [← ex_text]; exact parseT_text ex_ok (by decide)
theorem ex_a0 : okA a0 = false := by decide
theorem ex_none : printA [a0] = none := by
  unfold printA; rw [if_neg]; rintro ⟨_, h⟩; simp [ex_a0] at h

theorem tick1 : okA ⟨2, 0, ⟨0, 0, 0, 0, 0, ⟨#[]⟩, 0, 0⟩, 1, [], ⟨#[]⟩⟩ = true ∧ lineA ⟨2, 0, ⟨0, 0, 0, 0, 0, ⟨#[]⟩, 0, 0⟩, 1, [], ⟨#[]⟩⟩ = [116, 105, 99, 107, 32, 49] := by
  refine ⟨by decide, ?_⟩
  simp [lineA, lineW, num, d1, Lib.join_cons, Lib.joinTail]
theorem tick01 : parseLine [116, 105, 99, 107, 32, 48, 49] = none := by
  cases h : parseLine [116, 105, 99, 107, 32, 48, 49] with
  | none => rfl
  | some a =>
    obtain ⟨h1, h2⟩ := parseLine_some.1 h
    have hr := rawP_ok h1
    rw [h2] at hr
    have he : rawP [116, 105, 99, 107, 32, 48, 49] = some ⟨2, 0, ⟨0, 0, 0, 0, 0, ⟨#[]⟩, 0, 0⟩, 1, [], ⟨#[]⟩⟩ := by decide +kernel
    rw [he] at hr
    cases hr
    rw [tick1.2] at h2
    exact absurd h2 (by decide)
theorem ex_at : parseT [116, 105, 99, 107, 32, 49, 10, 116, 105, 99, 107, 32, 48, 49, 10] = .inl 1 := by
  have h := parseT_bad (l := [⟨2, 0, ⟨0, 0, 0, 0, 0, ⟨#[]⟩, 0, 0⟩, 1, [], ⟨#[]⟩⟩]) [] (by simpa using tick1.1) (by decide) (t := [116, 105, 99, 107, 32, 48, 49]) (by decide) tick01
  simpa [textA, tick1.2] using h
theorem ex_open : parseT [116, 105, 99, 107, 32, 49] = .inl 0 := parseK_open [] (by simp) (by decide)

end Go.Proofs.YtgajoiijebbagaaGreatDoor.Pa

/-! The walk of the examples that every statement of this seat checks first: it returns true, and what was there is unchanged. Conditions: the library's variables read as laid. -/
namespace Go.Proofs.YtgajoiijebbagaaGreatDoor
open Go.RowKit Go.Proofs

theorem acts_new (u : World) (cs : Array Value) (l : List (Pa.Ac × Value)) (n : Nat) (hn : n = l.length) (hc : cs.toList = rowCells l) (hf : ∀ p ∈ l, Fs u p.2 p.1.fates ∧ p.1.fates.length ≤ 9223372036854775807) :
    Acts (u.alloc (.cells cs 27)) (.slice (some ⟨u.heap.size, 0, none⟩) n n) (l.map Prod.fst) := by
  subst hn
  refine ⟨_, l.length, fun j => ((l[j]?).map (·.2)).getD .nilIface, by simp, by simp, fun j hj => ?_, fun _ => ⟨u.heap.size, 0, rfl, by simp, fun j hj i v hv => ?_⟩⟩
  · have hj' : j < l.length := by simpa using hj
    have := hf l[j] (List.getElem_mem hj')
    simp only [List.getElem?_eq_getElem hj', Option.map_some, Option.getD_some, List.getElem_map]
    exact ⟨this.1.below ((Below.refl _ _).alloc (Nat.le_refl _) _), this.2⟩
  · have hj' : j < l.length := by simpa using hj
    simp only [List.getElem?_eq_getElem hj', Option.map_some, Option.getD_some, List.getElem_map] at hv
    have hi : i < 13 := by
      rcases Nat.lt_or_ge i 13 with h | h
      · exact h
      · rw [List.getElem?_eq_none (by simp [acCells]; omega)] at hv; cases hv
    rw [Nat.zero_add, World.cell?_alloc_at _ _ _ _ rfl]
    have : cs[j * 13 + i]? = cs.toList[j * 13 + i]? := by simp
    rw [this, hc, rowCells_at l j hj' i hi]; exact hv

theorem fs_new (u : World) (cs : Array Value) (l : List Int) (n : Nat) (hn : n = l.length) (hc : cs.toList = l.map (Value.int .i64)) : Fs (u.alloc (.cells cs 3)) (.slice (some ⟨u.heap.size, 0, none⟩) n n) l := by
  subst hn
  refine ⟨_, l.length, rfl, fun _ => ⟨u.heap.size, 0, rfl, by simp, fun j hj => ?_⟩⟩
  rw [Nat.zero_add, World.cell?_alloc_at _ _ _ _ rfl]
  have : cs[j]? = cs.toList[j]? := by simp
  rw [this, hc]; simp [hj]

/-- The example's actions, with their fates' values. -/
def exP (w : World) : List (Pa.Ac × Value) := [(⟨1, 1, ⟨4, 2, 167772161, 80, 0, ⟨#[]⟩, 0, 0⟩, 0, [], ⟨#[]⟩⟩, (.slice none 0 0)), (⟨3, 0, ⟨0, 0, 0, 0, 0, ⟨#[]⟩, 0, 0⟩, 0, [0, 1, 5], ⟨#[]⟩⟩, (.slice (some ⟨w.heap.size, 0, none⟩) 3 3)), (⟨4, 0, ⟨0, 0, 0, 0, 0, ⟨#[]⟩, 0, 0⟩, 0, [], ⟨#[0, 255]⟩⟩, (.slice none 0 0)), (⟨1, 0, ⟨6, 1, 0, 0, 0, ⟨#[]⟩, 0, 0⟩, 0, [], ⟨#[]⟩⟩, (.slice none 0 0)), (⟨2, 0, ⟨0, 0, 0, 0, 0, ⟨#[]⟩, 0, 0⟩, 500, [], ⟨#[]⟩⟩, (.slice none 0 0))]
theorem exP_fst (w : World) : (exP w).map Prod.fst = Pa.exL := rfl

set_option maxRecDepth 100000 in
set_option maxHeartbeats 4000000 in
theorem examples_any (w : World) (ok : Ok w) : Calls Tryz.prog 8 #[] w fun e w' => e = .returned (.bool true) ∧ Below w.heap.size w w' := by
  have hp := fun (v : Value) (W : World) (ok : Ok W) (h : Acts W v Pa.exL) => print_any Pa.exL v W ok h (by decide)
  unfold POut at hp
  rw [(Pa.pr_some Pa.ex_print).1, (Pa.pr_some Pa.ex_print).2] at hp
  have hq := fun (v : Value) (W : World) (ok : Ok W) (h : Acts W v [Pa.a0]) => print_any [Pa.a0] v W ok h (by decide)
  unfold POut at hq
  rw [(Pa.pr_none Pa.ex_none).1, (Pa.pr_none Pa.ex_none).2] at hq
  have hr := fun (W : World) (ok : Ok W) => parse_script Pa.exT W ok (by decide)
  rw [Pa.ex_parse] at hr
  have hs := fun (W : World) (ok : Ok W) => parse_script [116, 105, 99, 107, 32, 49, 10, 116, 105, 99, 107, 32, 48, 49, 10] W ok (by decide)
  rw [Pa.ex_at] at hs
  have ht := fun (W : World) (ok : Ok W) => parse_script [116, 105, 99, 107, 32, 49] W ok (by decide)
  rw [Pa.ex_open] at ht
  unfold ROut at hr hs ht
  unfold Pa.exT at hp hr
  go_enter Tryz.func8, Tryz.ntmps8
  go_wp2_with fail
  have hf0 := fs_new w #[.int .i64 0, .int .i64 1, .int .i64 5] [0, 1, 5] 3 rfl rfl
  have ha0 := acts_new (w.alloc (.cells #[.int .i64 0, .int .i64 1, .int .i64 5] 3)) (rowCells (exP w)).toArray (exP w) 5 rfl (by simp) (by
    intro p hp
    simp only [exP, List.mem_cons, List.not_mem_nil, or_false] at hp
    rcases hp with rfl | rfl | rfl | rfl | rfl
    · exact ⟨Fs.nil _, by decide⟩
    · exact ⟨hf0, by show 3 ≤ 9223372036854775807; omega⟩
    · exact ⟨Fs.nil _, by decide⟩
    · exact ⟨Fs.nil _, by decide⟩
    · exact ⟨Fs.nil _, by decide⟩)
  rw [World.size_alloc, exP_fst] at ha0
  have hB0 : Below w.heap.size w ((w.alloc (.cells #[.int .i64 0, .int .i64 1, .int .i64 5] 3)).alloc (.cells (rowCells (exP w)).toArray 27)) := ((Below.refl _ _).alloc (Nat.le_refl _) _).alloc (by simp) _
  refine (hp _ _ (ok.below hB0) ha0).mono ?_
  rintro e w1 ⟨rfl, hb1⟩
  have hB1 := below_on hB0 hb1
  have ha1 := ha0.below hb1
  clear hp
  go_wp2_with fail
  refine (hr _ (ok.below hB1)).mono ?_
  rintro e w2 ⟨v, rfl, hv, hb2⟩
  have hB2 := below_on hB1 hb2
  have ha2 := ha1.below hb2
  go_wp2_with fail
  refine (hs _ (ok.below hB2)).mono ?_
  rintro e w3 ⟨rfl, hb3⟩
  have hB3 := below_on hB2 hb3
  go_wp2_with fail
  refine (ht _ (ok.below hB3)).mono ?_
  rintro e w4 ⟨rfl, hb4⟩
  have hB4 := below_on hB3 hb4
  go_wp2_with fail
  have hz0 := acts_new w4 #[.int .i64 0, .int .i64 0, .int .i64 0, .int .i64 0, .int .i64 0, .int .i64 0, .int .i64 0, .string ⟨#[]⟩, .int .i64 0, .int .i64 0, .int .i64 0, .slice none 0 0, .string ⟨#[]⟩] [(⟨0, 0, ⟨0, 0, 0, 0, 0, ⟨#[]⟩, 0, 0⟩, 0, [], ⟨#[]⟩⟩, .slice none 0 0)] 1 rfl rfl (by
    intro p hp
    simp only [List.mem_cons, List.not_mem_nil, or_false] at hp
    subst hp
    exact ⟨Fs.nil _, by decide⟩)
  have hB4' := hB4.alloc hB4.size (.cells #[.int .i64 0, .int .i64 0, .int .i64 0, .int .i64 0, .int .i64 0, .int .i64 0, .int .i64 0, .string ⟨#[]⟩, .int .i64 0, .int .i64 0, .int .i64 0, .slice none 0 0, .string ⟨#[]⟩] 27)
  refine (hq _ _ (ok.below hB4') hz0).mono ?_
  rintro e w5 ⟨rfl, hb5⟩
  have hB5 := below_on hB4' hb5
  have hab : Below w2.heap.size w2 w5 := below_on (below_on (below_on (Below.refl _ _) hb3) hb4) (below_on ((Below.refl _ _).alloc (Nat.le_refl _) _) hb5)
  have ha5 := ha2.below hab
  have hv5 := hv.below hab
  have hr0 : RowAt (w.heap.size + 1) (rowCells (exP w)) ((w.alloc (.cells #[.int .i64 0, .int .i64 1, .int .i64 5] 3)).alloc (.cells (rowCells (exP w)).toArray 27)) := by
    have := RowAt.new (w.alloc (.cells #[.int .i64 0, .int .i64 1, .int .i64 5] 3)) (rowCells (exP w)).toArray 27
    rw [World.size_alloc] at this; exact this
  have hr5 := ((hr0.below hb1).below hb2).below hab
  have hf5 := (((hf0.below ((Below.refl _ _).alloc (Nat.le_refl _) _)).below hb1).below hb2).below hab
  clear hq hr hs ht hz0 ha0 ha1 ha2 hv hr0 hf0 hb1 hb2 hb3 hb4 hb5 hab hB0 hB1 hB2 hB3 hB4 hB4'
  have k1 := fun (x : Lat (Below w5.heap.size w5)) => Calls.eqv (v' := .bool true) (by simp) (sameActs_any Pa.exL Pa.exL _ v x.u (ha5.below x.h) (hv5.below x.h) (by decide) (by decide))
  have k2 := fun (x : Lat (Below w5.heap.size w5)) => Calls.eqv (v' := .bool true) (congrArg Value.bool (by decide)) (validAct_any ⟨1, 1, ⟨4, 2, 167772161, 80, 0, ⟨#[]⟩, 0, 0⟩, 0, [], ⟨#[]⟩⟩ (.slice none 0 0) x.u ((ok.below hB5).below x.h) name_any (Fs.nil _) (by decide))
  have k3 := fun (x : Lat (Below w5.heap.size w5)) => Calls.eqv (v' := .bool false) (congrArg Value.bool (by decide)) (validAct_any ⟨0, 0, ⟨0, 0, 0, 0, 0, ⟨#[]⟩, 0, 0⟩, 0, [], ⟨#[]⟩⟩ (.slice none 0 0) x.u ((ok.below hB5).below x.h) name_any (Fs.nil _) (by decide))
  have k4 := fun (x : Lat (Below w5.heap.size w5)) => Calls.eqv (v' := .bool true) (congrArg Value.bool (by decide)) (same_any ⟨1, 1, ⟨4, 2, 167772161, 80, 0, ⟨#[]⟩, 0, 0⟩, 0, [], ⟨#[]⟩⟩ ⟨1, 1, ⟨4, 2, 167772161, 80, 0, ⟨#[]⟩, 0, 0⟩, 0, [], ⟨#[]⟩⟩ (.slice none 0 0) (.slice none 0 0) x.u (Fs.nil _) (Fs.nil _) (by decide) (by decide))
  have k5 := fun (x : Lat (Below w5.heap.size w5)) => Calls.eqv (v' := .bool false) (congrArg Value.bool (by decide)) (same_any ⟨1, 1, ⟨4, 2, 167772161, 80, 0, ⟨#[]⟩, 0, 0⟩, 0, [], ⟨#[]⟩⟩ ⟨3, 0, ⟨0, 0, 0, 0, 0, ⟨#[]⟩, 0, 0⟩, 0, [0, 1, 5], ⟨#[]⟩⟩ (.slice none 0 0) (.slice (some ⟨w.heap.size, 0, none⟩) 3 3) x.u (Fs.nil _) (hf5.below x.h) (by decide) (by decide))
  have c0 : ∀ x : Lat (Below w5.heap.size w5), x.u.cell? ⟨w.heap.size + 1, 0, none⟩ = _ := fun x => x.cell hr5.1 (hr5.2 0 _ rfl).1
  have c1 : ∀ x : Lat (Below w5.heap.size w5), x.u.cell? ⟨w.heap.size + 1, 1, none⟩ = _ := fun x => x.cell hr5.1 (hr5.2 1 _ rfl).1
  have c2 : ∀ x : Lat (Below w5.heap.size w5), x.u.cell? ⟨w.heap.size + 1, 2, none⟩ = _ := fun x => x.cell hr5.1 (hr5.2 2 _ rfl).1
  have c3 : ∀ x : Lat (Below w5.heap.size w5), x.u.cell? ⟨w.heap.size + 1, 3, none⟩ = _ := fun x => x.cell hr5.1 (hr5.2 3 _ rfl).1
  have c4 : ∀ x : Lat (Below w5.heap.size w5), x.u.cell? ⟨w.heap.size + 1, 4, none⟩ = _ := fun x => x.cell hr5.1 (hr5.2 4 _ rfl).1
  have c5 : ∀ x : Lat (Below w5.heap.size w5), x.u.cell? ⟨w.heap.size + 1, 5, none⟩ = _ := fun x => x.cell hr5.1 (hr5.2 5 _ rfl).1
  have c6 : ∀ x : Lat (Below w5.heap.size w5), x.u.cell? ⟨w.heap.size + 1, 6, none⟩ = _ := fun x => x.cell hr5.1 (hr5.2 6 _ rfl).1
  have c7 : ∀ x : Lat (Below w5.heap.size w5), x.u.cell? ⟨w.heap.size + 1, 7, none⟩ = _ := fun x => x.cell hr5.1 (hr5.2 7 _ rfl).1
  have c8 : ∀ x : Lat (Below w5.heap.size w5), x.u.cell? ⟨w.heap.size + 1, 8, none⟩ = _ := fun x => x.cell hr5.1 (hr5.2 8 _ rfl).1
  have c9 : ∀ x : Lat (Below w5.heap.size w5), x.u.cell? ⟨w.heap.size + 1, 9, none⟩ = _ := fun x => x.cell hr5.1 (hr5.2 9 _ rfl).1
  have c10 : ∀ x : Lat (Below w5.heap.size w5), x.u.cell? ⟨w.heap.size + 1, 10, none⟩ = _ := fun x => x.cell hr5.1 (hr5.2 10 _ rfl).1
  have c11 : ∀ x : Lat (Below w5.heap.size w5), x.u.cell? ⟨w.heap.size + 1, 11, none⟩ = _ := fun x => x.cell hr5.1 (hr5.2 11 _ rfl).1
  have c12 : ∀ x : Lat (Below w5.heap.size w5), x.u.cell? ⟨w.heap.size + 1, 12, none⟩ = _ := fun x => x.cell hr5.1 (hr5.2 12 _ rfl).1
  have c13 : ∀ x : Lat (Below w5.heap.size w5), x.u.cell? ⟨w.heap.size + 1, 13, none⟩ = _ := fun x => x.cell hr5.1 (hr5.2 13 _ rfl).1
  have c14 : ∀ x : Lat (Below w5.heap.size w5), x.u.cell? ⟨w.heap.size + 1, 14, none⟩ = _ := fun x => x.cell hr5.1 (hr5.2 14 _ rfl).1
  have c15 : ∀ x : Lat (Below w5.heap.size w5), x.u.cell? ⟨w.heap.size + 1, 15, none⟩ = _ := fun x => x.cell hr5.1 (hr5.2 15 _ rfl).1
  have c16 : ∀ x : Lat (Below w5.heap.size w5), x.u.cell? ⟨w.heap.size + 1, 16, none⟩ = _ := fun x => x.cell hr5.1 (hr5.2 16 _ rfl).1
  have c17 : ∀ x : Lat (Below w5.heap.size w5), x.u.cell? ⟨w.heap.size + 1, 17, none⟩ = _ := fun x => x.cell hr5.1 (hr5.2 17 _ rfl).1
  have c18 : ∀ x : Lat (Below w5.heap.size w5), x.u.cell? ⟨w.heap.size + 1, 18, none⟩ = _ := fun x => x.cell hr5.1 (hr5.2 18 _ rfl).1
  have c19 : ∀ x : Lat (Below w5.heap.size w5), x.u.cell? ⟨w.heap.size + 1, 19, none⟩ = _ := fun x => x.cell hr5.1 (hr5.2 19 _ rfl).1
  have c20 : ∀ x : Lat (Below w5.heap.size w5), x.u.cell? ⟨w.heap.size + 1, 20, none⟩ = _ := fun x => x.cell hr5.1 (hr5.2 20 _ rfl).1
  have c21 : ∀ x : Lat (Below w5.heap.size w5), x.u.cell? ⟨w.heap.size + 1, 21, none⟩ = _ := fun x => x.cell hr5.1 (hr5.2 21 _ rfl).1
  have c22 : ∀ x : Lat (Below w5.heap.size w5), x.u.cell? ⟨w.heap.size + 1, 22, none⟩ = _ := fun x => x.cell hr5.1 (hr5.2 22 _ rfl).1
  have c23 : ∀ x : Lat (Below w5.heap.size w5), x.u.cell? ⟨w.heap.size + 1, 23, none⟩ = _ := fun x => x.cell hr5.1 (hr5.2 23 _ rfl).1
  have c24 : ∀ x : Lat (Below w5.heap.size w5), x.u.cell? ⟨w.heap.size + 1, 24, none⟩ = _ := fun x => x.cell hr5.1 (hr5.2 24 _ rfl).1
  have c25 : ∀ x : Lat (Below w5.heap.size w5), x.u.cell? ⟨w.heap.size + 1, 25, none⟩ = _ := fun x => x.cell hr5.1 (hr5.2 25 _ rfl).1
  simp only [acV] at k2 k3 k4 k5
  go_wp2_with fail
  simp only [List.append_eq, List.cons_append, List.nil_append]
  refine wp_region_below (by kernel_rfl) (by kernel_rfl) ?_
  intro W hW
  subst hW
  repeat (go_big_quiet_step (first | (go_at_call 20; with_reducible exact Calls.below (k1 _)) | (go_at_call 14; first | with_reducible exact Calls.below (k2 _) | with_reducible exact Calls.below (k3 _)) | (go_at_call 16; first | with_reducible exact Calls.below (k4 _) | with_reducible exact Calls.below (k5 _))))
  refine wpQuiet_nil ?_
  rintro u ⟨x, hx⟩
  have hu : Below W.heap.size W u := by rw [hx]; exact x.h
  clear hx
  go_wp2
  go_ret
  exact ⟨rfl, below_on hB5 hu⟩

end Go.Proofs.YtgajoiijebbagaaGreatDoor

/-! PLAIN FACTS FOR THE STATEMENT ScriptFieldFormats: the three actions, when they are valid, and their lines. Conditions: the host's number is from 0 to 7. -/
namespace Go.Proofs.YtgajoiijebbagaaGreatDoor.Pa

def pingA (h a : Int) : Ac := ⟨1, h, ⟨13, 0, a, 0, 0, ⟨#[]⟩, 0, 0⟩, 0, [], ⟨#[]⟩⟩
def askA (h : Int) (s : ByteArray) : Ac := ⟨1, h, ⟨12, 0, 0, 0, 0, s, 0, 0⟩, 0, [], ⟨#[]⟩⟩
def sendA (h : Int) (s : ByteArray) : Ac := ⟨1, h, ⟨6, 3, 0, 0, 0, s, 0, 0⟩, 0, [], ⟨#[]⟩⟩

theorem inR_in {n lo hi : Int} (h : lo ≤ n ∧ n ≤ hi) : inR n lo hi = true := inR_true.2 h
theorem ok_ping {h a : Int} (hh : 0 ≤ h ∧ h ≤ 7) : okA (pingA h a) = validB a := by
  have e : inR h 0 7 = true := inR_in hh
  have e1 : okC ⟨13, 0, a, 0, 0, ⟨#[]⟩, 0, 0⟩ = validB a := by simp [okC, needC, c0, inR, ByteArray.size]
  show (true && decide (pingA h a = needA (pingA h a)) && (inR h 0 7 && okC ⟨13, 0, a, 0, 0, ⟨#[]⟩, 0, 0⟩)) = _
  rw [e, e1]; simp [pingA, needA, a0]
theorem ok_ask {h : Int} {s : ByteArray} (hh : 0 ≤ h ∧ h ≤ 7) : okA (askA h s) = nameOk s.data.toList := by
  have e : inR h 0 7 = true := inR_in hh
  have h2 : validB 0 = true := by decide
  have e1 : okC ⟨12, 0, 0, 0, 0, s, 0, 0⟩ = nameOk s.data.toList := by simp [okC, needC, c0, inR, h2]
  show (true && decide (askA h s = needA (askA h s)) && (inR h 0 7 && okC ⟨12, 0, 0, 0, 0, s, 0, 0⟩)) = _
  rw [e, e1]; simp [askA, needA, a0]
theorem ok_send {h : Int} {s : ByteArray} (hh : 0 ≤ h ∧ h ≤ 7) (hs : s.size ≤ 200) : okA (sendA h s) = true := by
  have e : inR h 0 7 = true := inR_in hh
  have h2 : validB 0 = true := by decide
  have h4 : s.size ≤ 2100 := by omega
  have e1 : okC ⟨6, 3, 0, 0, 0, s, 0, 0⟩ = true := by simp [okC, needC, c0, inR, h2, h4]
  show (true && decide (sendA h s = needA (sendA h s)) && (inR h 0 7 && okC ⟨6, 3, 0, 0, 0, s, 0, 0⟩)) = _
  rw [e, e1]; simp [sendA, needA, a0]

theorem dig1c {h : Int} (hh : 0 ≤ h ∧ h ≤ 7) : dig h.toNat = [UInt8.ofNat (48 + h.toNat)] := dig_small (by omega)
theorem line_ping {h a : Int} (hh : 0 ≤ h ∧ h ≤ 7) : lineA (pingA h a) = [99, 97, 108, 108, 32] ++ [UInt8.ofNat (48 + h.toNat)] ++ [32, 112, 105, 110, 103, 32] ++ fmtS a := by
  simp [lineA, lineW, pingA, callW, num, dig1c hh, Lib.join_cons, Lib.joinTail]
theorem line_ask {h : Int} {s : ByteArray} (hh : 0 ≤ h ∧ h ≤ 7) : lineA (askA h s) = [99, 97, 108, 108, 32] ++ [UInt8.ofNat (48 + h.toNat)] ++ [32, 110, 97, 109, 101, 32] ++ s.data.toList := by
  simp [lineA, lineW, askA, callW, num, dig1c hh, Lib.join_cons, Lib.joinTail]
theorem line_send {h : Int} {s : ByteArray} (hh : 0 ≤ h ∧ h ≤ 7) : lineA (sendA h s) = [99, 97, 108, 108, 32] ++ [UInt8.ofNat (48 + h.toNat)] ++ [32, 115, 101, 110, 100, 32, 51, 32] ++ hexL s.data.toList := by
  have d3 : dig 3 = [51] := by rw [dig_small (by decide)]; rfl
  simp [lineA, lineW, sendA, callW, num, dig1c hh, d3, Lib.join_cons, Lib.joinTail]

theorem print_one {x : Ac} (h : okA x = true) : printA [x] = some (lineA x ++ [10]) := by
  rw [printA_some (by simpa using h) (by simp)]; simp [textA]
theorem print_bad {x : Ac} (h : okA x = false) : printA [x] = none := by
  unfold printA; rw [if_neg]; rintro ⟨_, h'⟩; simp [h] at h'

end Go.Proofs.YtgajoiijebbagaaGreatDoor.Pa

/-! The walk of the statement ScriptFieldFormats: it returns true for every input, and what was there is unchanged. Conditions: the library's variables read as laid. -/
namespace Go.Proofs.YtgajoiijebbagaaGreatDoor
open Go.RowKit Go.Proofs

theorem run_one (u : World) (c : UInt8) : (convert 40 9 (.slice (some ⟨u.heap.size, 0, none⟩) 1 1)).run Tryz.prog (u.alloc (.cells #[.int .u8 (c.toNat : Int)] 5)) = .ok (.string ⟨#[c]⟩) (u.alloc (.cells #[.int .u8 (c.toNat : Int)] 5)) :=
  run_convert_bytes_back (P := Tryz.prog) (u.alloc (.cells #[.int .u8 (c.toNat : Int)] 5)) 40 9 5 ⟨u.heap.size, 0, none⟩ 1 [c] Tryz.underlying40 Tryz.underlying5 Tryz.underlying9 (fun j hj => by
    obtain rfl : j = 0 := by simp at hj; omega
    rw [addr_add]; simp)

theorem cat_ping {h a : Int} {c : UInt8} (hr : 0 ≤ h ∧ h ≤ 7) (hc : c = UInt8.ofNat (48 + h.toNat)) : Pa.lineA (Pa.pingA h a) ++ [10] = (ByteArray.mk #[99, 97, 108, 108, 32] ++ ByteArray.mk #[c] ++ ByteArray.mk #[32, 112, 105, 110, 103, 32] ++ ByteArray.mk (List.toArray (Pa.fmtS a)) ++ ByteArray.mk #[10]).toList := by
  rw [ByteArray.toList_eq, Pa.line_ping hr, hc]; simp
theorem cat_ask {h : Int} {s : ByteArray} {c : UInt8} (hr : 0 ≤ h ∧ h ≤ 7) (hc : c = UInt8.ofNat (48 + h.toNat)) : Pa.lineA (Pa.askA h s) ++ [10] = (ByteArray.mk #[99, 97, 108, 108, 32] ++ ByteArray.mk #[c] ++ ByteArray.mk #[32, 110, 97, 109, 101, 32] ++ s ++ ByteArray.mk #[10]).toList := by
  rw [ByteArray.toList_eq, Pa.line_ask hr, hc]; simp
theorem cat_send {h : Int} {s : ByteArray} {c : UInt8} (hr : 0 ≤ h ∧ h ≤ 7) (hc : c = UInt8.ofNat (48 + h.toNat)) (hs : s.toList = []) : Pa.lineA (Pa.sendA h s) ++ [10] = (ByteArray.mk #[99, 97, 108, 108, 32] ++ ByteArray.mk #[c] ++ ByteArray.mk #[32, 115, 101, 110, 100, 32, 51, 32, 45, 10]).toList := by
  rw [ByteArray.toList_eq] at hs
  rw [ByteArray.toList_eq, Pa.line_send hr, hc, Pa.hexL, if_pos hs]; simp
theorem len_send {h : Int} {s : ByteArray} (hr : 0 ≤ h ∧ h ≤ 7) (hs : ¬ s.toList = []) : (!s.toList.isEmpty && ((Pa.lineA (Pa.sendA h s)).length : Int) + 1 == 15 + 2 * (s.size : Int)) = true := by
  have e : s.toList.isEmpty = false := by simpa using hs
  rw [ByteArray.toList_eq] at hs
  have e2 : (Pa.lineA (Pa.sendA h s)).length = 14 + 2 * s.size := by
    rw [Pa.line_send hr, Pa.hexL, if_neg hs]
    simp only [List.length_append, Pa.hexs_length, List.length_cons, List.length_nil]
    have e3 : s.data.toList.length = s.size := by rw [Array.length_toList]; rfl
    rw [e3]
  rw [e, e2]; simp; omega

set_option maxRecDepth 100000 in
set_option maxHeartbeats 8000000 in
theorem law12 (a : Int) (s b : ByteArray) (host : Int) (w : World) (ok : Ok w) (h0 : 0 ≤ host) (h1 : host ≤ 255) (hs : s.size ≤ 9223372036854775807) (hb : b.size ≤ 9223372036854775807) :
    Calls Tryz.prog 7 #[.int .i64 a, .string s, .string b, .int .u8 host] w fun e w' => e = .returned (.bool true) ∧ Below w.heap.size w w' := by
  obtain ⟨h, hh⟩ : ∃ h, host % 8 = h := ⟨_, rfl⟩
  have hr : 0 ≤ h ∧ h ≤ 7 := by omega
  obtain ⟨few, hfew⟩ : ∃ few, s.extract 0 (min (s.size : Int) 70).toNat = few := ⟨_, rfl⟩
  obtain ⟨byts, hbyts⟩ : ∃ byts, b.extract 0 (min (b.size : Int) 200).toNat = byts := ⟨_, rfl⟩
  have hbl : byts.size ≤ 200 := by rw [← hbyts]; simp; omega
  obtain ⟨c, hc⟩ : ∃ c : UInt8, 48 + h = (c.toNat : Int) ∧ c = UInt8.ofNat (48 + h.toNat) := ⟨_, by
    have : (UInt8.ofNat (48 + h.toNat)).toNat = 48 + h.toNat := by simp; omega
    rw [this]; omega, rfl⟩
  obtain ⟨hc1, hc2⟩ := hc
  have HC2 := Lib.hid hc2; clear hc2
  go_enter Tryz.func7, Tryz.ntmps7
  go_wp2_with fail
  refine (examples_any w ok).mono ?_
  rintro e w1 ⟨rfl, hb1⟩
  have hcv : ∀ o1 o2 o3 : Obj, (convert 40 9 (.slice (some ⟨w1.heap.size + 1 + 1 + 1, 0, none⟩) 1 1)).run Tryz.prog ((((w1.alloc o1).alloc o2).alloc o3).alloc (.cells #[.int .u8 (c.toNat : Int)] 5)) = .ok (.string ⟨#[c]⟩) ((((w1.alloc o1).alloc o2).alloc o3).alloc (.cells #[.int .u8 (c.toNat : Int)] 5)) := fun o1 o2 o3 => by
    have := run_one (((w1.alloc o1).alloc o2).alloc o3) c
    simpa only [World.size_alloc] using this
  go_wp2_with fail
  clear hcv
  have hBU : Below w1.heap.size w1 ((((w1.alloc (.cells #[.int .i64 1, .int .i64 h, .int .i64 13, .int .i64 0, .int .i64 a, .int .i64 0, .int .i64 0, .string ⟨#[]⟩, .int .i64 0, .int .i64 0, .int .i64 0, .slice none 0 0, .string ⟨#[]⟩] 27)).alloc (.cells #[.int .i64 1, .int .i64 h, .int .i64 12, .int .i64 0, .int .i64 0, .int .i64 0, .int .i64 0, .string few, .int .i64 0, .int .i64 0, .int .i64 0, .slice none 0 0, .string ⟨#[]⟩] 27)).alloc (.cells #[.int .i64 1, .int .i64 h, .int .i64 6, .int .i64 3, .int .i64 0, .int .i64 0, .int .i64 0, .string byts, .int .i64 0, .int .i64 0, .int .i64 0, .slice none 0 0, .string ⟨#[]⟩] 27)).alloc (.cells #[.int .u8 (c.toNat : Int)] 5)) := ((((Below.refl _ _).alloc (Nat.le_refl _) _).alloc (by simp) _).alloc (by simp; omega) _).alloc (by simp; omega) _
  have r1 : RowAt w1.heap.size (acCells (Pa.pingA h a) (.slice none 0 0)) ((((w1.alloc (.cells #[.int .i64 1, .int .i64 h, .int .i64 13, .int .i64 0, .int .i64 a, .int .i64 0, .int .i64 0, .string ⟨#[]⟩, .int .i64 0, .int .i64 0, .int .i64 0, .slice none 0 0, .string ⟨#[]⟩] 27)).alloc (.cells #[.int .i64 1, .int .i64 h, .int .i64 12, .int .i64 0, .int .i64 0, .int .i64 0, .int .i64 0, .string few, .int .i64 0, .int .i64 0, .int .i64 0, .slice none 0 0, .string ⟨#[]⟩] 27)).alloc (.cells #[.int .i64 1, .int .i64 h, .int .i64 6, .int .i64 3, .int .i64 0, .int .i64 0, .int .i64 0, .string byts, .int .i64 0, .int .i64 0, .int .i64 0, .slice none 0 0, .string ⟨#[]⟩] 27)).alloc (.cells #[.int .u8 (c.toNat : Int)] 5)) := ((((RowAt.new w1 #[.int .i64 1, .int .i64 h, .int .i64 13, .int .i64 0, .int .i64 a, .int .i64 0, .int .i64 0, .string ⟨#[]⟩, .int .i64 0, .int .i64 0, .int .i64 0, .slice none 0 0, .string ⟨#[]⟩] 27).below ((Below.refl _ _).alloc (Nat.le_refl _) _)).below ((Below.refl _ _).alloc (Nat.le_refl _) _)).below ((Below.refl _ _).alloc (Nat.le_refl _) _))
  have r2 : RowAt (w1.heap.size + 1) (acCells (Pa.askA h few) (.slice none 0 0)) ((((w1.alloc (.cells #[.int .i64 1, .int .i64 h, .int .i64 13, .int .i64 0, .int .i64 a, .int .i64 0, .int .i64 0, .string ⟨#[]⟩, .int .i64 0, .int .i64 0, .int .i64 0, .slice none 0 0, .string ⟨#[]⟩] 27)).alloc (.cells #[.int .i64 1, .int .i64 h, .int .i64 12, .int .i64 0, .int .i64 0, .int .i64 0, .int .i64 0, .string few, .int .i64 0, .int .i64 0, .int .i64 0, .slice none 0 0, .string ⟨#[]⟩] 27)).alloc (.cells #[.int .i64 1, .int .i64 h, .int .i64 6, .int .i64 3, .int .i64 0, .int .i64 0, .int .i64 0, .string byts, .int .i64 0, .int .i64 0, .int .i64 0, .slice none 0 0, .string ⟨#[]⟩] 27)).alloc (.cells #[.int .u8 (c.toNat : Int)] 5)) := by
    have := RowAt.new (w1.alloc (.cells #[.int .i64 1, .int .i64 h, .int .i64 13, .int .i64 0, .int .i64 a, .int .i64 0, .int .i64 0, .string ⟨#[]⟩, .int .i64 0, .int .i64 0, .int .i64 0, .slice none 0 0, .string ⟨#[]⟩] 27)) #[.int .i64 1, .int .i64 h, .int .i64 12, .int .i64 0, .int .i64 0, .int .i64 0, .int .i64 0, .string few, .int .i64 0, .int .i64 0, .int .i64 0, .slice none 0 0, .string ⟨#[]⟩] 27
    rw [World.size_alloc] at this
    exact ((this.below ((Below.refl _ _).alloc (Nat.le_refl _) _)).below ((Below.refl _ _).alloc (Nat.le_refl _) _))
  have r3 : RowAt (w1.heap.size + 1 + 1) (acCells (Pa.sendA h byts) (.slice none 0 0)) ((((w1.alloc (.cells #[.int .i64 1, .int .i64 h, .int .i64 13, .int .i64 0, .int .i64 a, .int .i64 0, .int .i64 0, .string ⟨#[]⟩, .int .i64 0, .int .i64 0, .int .i64 0, .slice none 0 0, .string ⟨#[]⟩] 27)).alloc (.cells #[.int .i64 1, .int .i64 h, .int .i64 12, .int .i64 0, .int .i64 0, .int .i64 0, .int .i64 0, .string few, .int .i64 0, .int .i64 0, .int .i64 0, .slice none 0 0, .string ⟨#[]⟩] 27)).alloc (.cells #[.int .i64 1, .int .i64 h, .int .i64 6, .int .i64 3, .int .i64 0, .int .i64 0, .int .i64 0, .string byts, .int .i64 0, .int .i64 0, .int .i64 0, .slice none 0 0, .string ⟨#[]⟩] 27)).alloc (.cells #[.int .u8 (c.toNat : Int)] 5)) := by
    have := RowAt.new ((w1.alloc (.cells #[.int .i64 1, .int .i64 h, .int .i64 13, .int .i64 0, .int .i64 a, .int .i64 0, .int .i64 0, .string ⟨#[]⟩, .int .i64 0, .int .i64 0, .int .i64 0, .slice none 0 0, .string ⟨#[]⟩] 27)).alloc (.cells #[.int .i64 1, .int .i64 h, .int .i64 12, .int .i64 0, .int .i64 0, .int .i64 0, .int .i64 0, .string few, .int .i64 0, .int .i64 0, .int .i64 0, .slice none 0 0, .string ⟨#[]⟩] 27)) #[.int .i64 1, .int .i64 h, .int .i64 6, .int .i64 3, .int .i64 0, .int .i64 0, .int .i64 0, .string byts, .int .i64 0, .int .i64 0, .int .i64 0, .slice none 0 0, .string ⟨#[]⟩] 27
    rw [World.size_alloc, World.size_alloc] at this
    exact this.below ((Below.refl _ _).alloc (Nat.le_refl _) _)
  have hB1 := below_on hb1 hBU
  refine (format_any a _ (ok.below hB1)).mono ?_
  rintro e w2 ⟨rfl, hb2⟩
  have hB2 := below_on hB1 hb2
  have r1 := r1.below hb2
  have r2 := r2.below hb2
  have r3 := r3.below hb2
  clear hb1 hBU hb2 hB1
  have p0 := (r1.2 0 _ rfl).1
  have p1 := (r1.2 1 _ rfl).1
  have p2 := (r1.2 2 _ rfl).1
  have p3 := (r1.2 3 _ rfl).1
  have p4 := (r1.2 4 _ rfl).1
  have p5 := (r1.2 5 _ rfl).1
  have p6 := (r1.2 6 _ rfl).1
  have p7 := (r1.2 7 _ rfl).1
  have p8 := (r1.2 8 _ rfl).1
  have p9 := (r1.2 9 _ rfl).1
  have p10 := (r1.2 10 _ rfl).1
  have p11 := (r1.2 11 _ rfl).1
  have p12 := (r1.2 12 _ rfl).1
  simp only [Pa.pingA] at p0 p1 p2 p3 p4 p5 p6 p7 p8 p9 p10 p12
  go_wp2_with fail
  refine (print_any [Pa.pingA h a] _ _ (ok.below (hB2.alloc hB2.size _)) (acts_new w2 #[.int .i64 1, .int .i64 h, .int .i64 13, .int .i64 0, .int .i64 a, .int .i64 0, .int .i64 0, .string ⟨#[]⟩, .int .i64 0, .int .i64 0, .int .i64 0, .slice none 0 0, .string ⟨#[]⟩] [(Pa.pingA h a, (.slice none 0 0))] 1 rfl rfl (by simp [Pa.pingA, Fs.nil])) (by simp)).mono ?_
  rintro e w3 ⟨rfl, hb3⟩
  have hB3 := below_on (hB2.alloc hB2.size _) hb3
  have hbb := below_on ((Below.refl w2.heap.size w2).alloc (Nat.le_refl _) (.cells #[.int .i64 1, .int .i64 h, .int .i64 13, .int .i64 0, .int .i64 a, .int .i64 0, .int .i64 0, .string ⟨#[]⟩, .int .i64 0, .int .i64 0, .int .i64 0, .slice none 0 0, .string ⟨#[]⟩] 27)) hb3
  have r1 := r1.below hbb
  have r2 := r2.below hbb
  have r3 := r3.below hbb
  clear hb3 hbb hB2 p0 p1 p2 p3 p4 p5 p6 p7 p8 p9 p10 p11 p12
  have p0 := (r2.2 0 _ rfl).1
  have p1 := (r2.2 1 _ rfl).1
  have p2 := (r2.2 2 _ rfl).1
  have p3 := (r2.2 3 _ rfl).1
  have p4 := (r2.2 4 _ rfl).1
  have p5 := (r2.2 5 _ rfl).1
  have p6 := (r2.2 6 _ rfl).1
  have p7 := (r2.2 7 _ rfl).1
  have p8 := (r2.2 8 _ rfl).1
  have p9 := (r2.2 9 _ rfl).1
  have p10 := (r2.2 10 _ rfl).1
  have p11 := (r2.2 11 _ rfl).1
  have p12 := (r2.2 12 _ rfl).1
  simp only [Pa.askA] at p0 p1 p2 p3 p4 p5 p6 p7 p8 p9 p10 p12
  go_wp2_with fail
  refine (print_any [Pa.askA h few] _ _ (ok.below (hB3.alloc hB3.size _)) (acts_new w3 #[.int .i64 1, .int .i64 h, .int .i64 12, .int .i64 0, .int .i64 0, .int .i64 0, .int .i64 0, .string few, .int .i64 0, .int .i64 0, .int .i64 0, .slice none 0 0, .string ⟨#[]⟩] [(Pa.askA h few, (.slice none 0 0))] 1 rfl rfl (by simp [Pa.askA, Fs.nil])) (by simp)).mono ?_
  rintro e w4 ⟨rfl, hb4⟩
  have hB4 := below_on (hB3.alloc hB3.size _) hb4
  have hbb := below_on ((Below.refl w3.heap.size w3).alloc (Nat.le_refl _) (.cells #[.int .i64 1, .int .i64 h, .int .i64 12, .int .i64 0, .int .i64 0, .int .i64 0, .int .i64 0, .string few, .int .i64 0, .int .i64 0, .int .i64 0, .slice none 0 0, .string ⟨#[]⟩] 27)) hb4
  have r1 := r1.below hbb
  have r3 := r3.below hbb
  clear hb4 hbb hB3 r2 p0 p1 p2 p3 p4 p5 p6 p7 p8 p9 p10 p11 p12
  have p0 := (r3.2 0 _ rfl).1
  have p1 := (r3.2 1 _ rfl).1
  have p2 := (r3.2 2 _ rfl).1
  have p3 := (r3.2 3 _ rfl).1
  have p4 := (r3.2 4 _ rfl).1
  have p5 := (r3.2 5 _ rfl).1
  have p6 := (r3.2 6 _ rfl).1
  have p7 := (r3.2 7 _ rfl).1
  have p8 := (r3.2 8 _ rfl).1
  have p9 := (r3.2 9 _ rfl).1
  have p10 := (r3.2 10 _ rfl).1
  have p11 := (r3.2 11 _ rfl).1
  have p12 := (r3.2 12 _ rfl).1
  simp only [Pa.sendA] at p0 p1 p2 p3 p4 p5 p6 p7 p8 p9 p10 p12
  go_wp2_with fail
  refine (print_any [Pa.sendA h byts] _ _ (ok.below (hB4.alloc hB4.size _)) (acts_new w4 #[.int .i64 1, .int .i64 h, .int .i64 6, .int .i64 3, .int .i64 0, .int .i64 0, .int .i64 0, .string byts, .int .i64 0, .int .i64 0, .int .i64 0, .slice none 0 0, .string ⟨#[]⟩] [(Pa.sendA h byts, (.slice none 0 0))] 1 rfl rfl (by simp [Pa.sendA, Fs.nil])) (by simp)).mono ?_
  rintro e w5 ⟨rfl, hb5⟩
  have hB5 := below_on (hB4.alloc hB4.size _) hb5
  have hbb := below_on ((Below.refl w4.heap.size w4).alloc (Nat.le_refl _) (.cells #[.int .i64 1, .int .i64 h, .int .i64 6, .int .i64 3, .int .i64 0, .int .i64 0, .int .i64 0, .string byts, .int .i64 0, .int .i64 0, .int .i64 0, .slice none 0 0, .string ⟨#[]⟩] 27)) hb5
  have r1 := r1.below hbb
  clear hb5 hbb hB4 r3 p0 p1 p2 p3 p4 p5 p6 p7 p8 p9 p10 p11 p12
  have q3 := Pa.pr_some (Pa.print_one (Pa.ok_send (s := byts) hr hbl))
  have hvl := validAct_any (Pa.pingA h a) (.slice none 0 0)
  rw [Pa.ok_ping hr] at hvl
  simp only [acV, Pa.pingA] at hvl
  have hfl := Pa.fmtS_len a
  have hfw : few.size ≤ 70 := by rw [← hfew]; simp; omega
  have E1 := Lib.hid (cat_ping (a := a) hr HC2)
  have E2 := Lib.hid (cat_ask (s := few) hr HC2)
  have E3 := Lib.hid (fun hz => cat_send (s := byts) hr HC2 hz)
  have E4 := Lib.hid (fun hz => len_send (h := h) (s := byts) hr hz)
  have hnm := name_any few
  have hvd := valid_any a
  cases hv : Pa.validB a with
  | true =>
    have q1 := Pa.pr_some (Pa.print_one ((Pa.ok_ping (a := a) hr).trans hv))
    cases hn : Pa.nameOk few.data.toList with
    | true =>
      have q2 := Pa.pr_some (Pa.print_one ((Pa.ok_ask (s := few) hr).trans hn))
      have he : Pa.errB true = 0 := rfl
      rw [hn] at hnm
      rw [hv] at hvl hvd
      rw [q1.1, q1.2, q2.1, q2.2, q3.1, q3.2]
      clear q1 q2 q3
      go_wp2_with (first | (go_at_call 22; refine (hnm _ (ok.below hB5)).mono ?_; rintro e w6 ⟨rfl, hb6⟩; have r1' := r1.below hb6; have hB6 := below_on hB5 hb6; have p0 := (r1'.2 0 _ rfl).1; have p1 := (r1'.2 1 _ rfl).1; have p2 := (r1'.2 2 _ rfl).1; have p3 := (r1'.2 3 _ rfl).1; have p4 := (r1'.2 4 _ rfl).1; have p5 := (r1'.2 5 _ rfl).1; have p6 := (r1'.2 6 _ rfl).1; have p7 := (r1'.2 7 _ rfl).1; have p8 := (r1'.2 8 _ rfl).1; have p9 := (r1'.2 9 _ rfl).1; have p10 := (r1'.2 10 _ rfl).1; have p11 := (r1'.2 11 _ rfl).1; have p12 := (r1'.2 12 _ rfl).1; simp only [Pa.pingA] at p0 p1 p2 p3 p4 p5 p6 p7 p8 p9 p10 p12) | (go_at_call 14; refine (hvl _ (ok.below hB6) name_any (Fs.nil _) (by simp)).mono ?_; rintro e w7 ⟨rfl, hb7⟩; have hB7 := below_on hB6 hb7; clear r1' p0 p1 p2 p3 p4 p5 p6 p7 p8 p9 p10 p11 p12) | (go_at_call 23; refine (hvd _).mono ?_; rintro e w8 ⟨rfl, rfl⟩))
      all_goals first | (exfalso; omega) | (exfalso; rename_i hx; exact hx E1) | (exfalso; rename_i hx; rw [show Pa.lineA (Pa.askA h few) ++ [10] = _ from E2] at hx; simp at hx; done) | (exfalso; rename_i hz hx; exact hx (E3 hz)) | (go_ret; exact ⟨rfl, hB7⟩) | (rename_i hz; go_ret; exact ⟨congrArg (fun b => Ending.returned (Value.bool b)) (E4 hz), hB7⟩)
    | false =>
      have q2 := Pa.pr_none (Pa.print_bad ((Pa.ok_ask (s := few) hr).trans hn))
      have he : Pa.errB true = 0 := rfl
      rw [hn] at hnm
      rw [hv] at hvl hvd
      rw [q1.1, q1.2, q2.1, q2.2, q3.1, q3.2]
      clear q1 q2 q3
      go_wp2_with (first | (go_at_call 22; refine (hnm _ (ok.below hB5)).mono ?_; rintro e w6 ⟨rfl, hb6⟩; have r1' := r1.below hb6; have hB6 := below_on hB5 hb6; have p0 := (r1'.2 0 _ rfl).1; have p1 := (r1'.2 1 _ rfl).1; have p2 := (r1'.2 2 _ rfl).1; have p3 := (r1'.2 3 _ rfl).1; have p4 := (r1'.2 4 _ rfl).1; have p5 := (r1'.2 5 _ rfl).1; have p6 := (r1'.2 6 _ rfl).1; have p7 := (r1'.2 7 _ rfl).1; have p8 := (r1'.2 8 _ rfl).1; have p9 := (r1'.2 9 _ rfl).1; have p10 := (r1'.2 10 _ rfl).1; have p11 := (r1'.2 11 _ rfl).1; have p12 := (r1'.2 12 _ rfl).1; simp only [Pa.pingA] at p0 p1 p2 p3 p4 p5 p6 p7 p8 p9 p10 p12) | (go_at_call 14; refine (hvl _ (ok.below hB6) name_any (Fs.nil _) (by simp)).mono ?_; rintro e w7 ⟨rfl, hb7⟩; have hB7 := below_on hB6 hb7; clear r1' p0 p1 p2 p3 p4 p5 p6 p7 p8 p9 p10 p11 p12) | (go_at_call 23; refine (hvd _).mono ?_; rintro e w8 ⟨rfl, rfl⟩))
      all_goals first | (exfalso; omega) | (exfalso; rename_i hx; exact hx E1) | (exfalso; rename_i hx; rw [show Pa.lineA (Pa.askA h few) ++ [10] = _ from E2] at hx; simp at hx; done) | (exfalso; rename_i hz hx; exact hx (E3 hz)) | (go_ret; exact ⟨rfl, hB7⟩) | (rename_i hz; go_ret; exact ⟨congrArg (fun b => Ending.returned (Value.bool b)) (E4 hz), hB7⟩)
  | false =>
    have q1 := Pa.pr_none (Pa.print_bad ((Pa.ok_ping (a := a) hr).trans hv))
    cases hn : Pa.nameOk few.data.toList with
    | true =>
      have q2 := Pa.pr_some (Pa.print_one ((Pa.ok_ask (s := few) hr).trans hn))
      have he : Pa.errB false = 30 := rfl
      rw [hn] at hnm
      rw [hv] at hvl hvd
      rw [q1.1, q1.2, q2.1, q2.2, q3.1, q3.2]
      clear q1 q2 q3
      go_wp2_with (first | (go_at_call 22; refine (hnm _ (ok.below hB5)).mono ?_; rintro e w6 ⟨rfl, hb6⟩; have r1' := r1.below hb6; have hB6 := below_on hB5 hb6; have p0 := (r1'.2 0 _ rfl).1; have p1 := (r1'.2 1 _ rfl).1; have p2 := (r1'.2 2 _ rfl).1; have p3 := (r1'.2 3 _ rfl).1; have p4 := (r1'.2 4 _ rfl).1; have p5 := (r1'.2 5 _ rfl).1; have p6 := (r1'.2 6 _ rfl).1; have p7 := (r1'.2 7 _ rfl).1; have p8 := (r1'.2 8 _ rfl).1; have p9 := (r1'.2 9 _ rfl).1; have p10 := (r1'.2 10 _ rfl).1; have p11 := (r1'.2 11 _ rfl).1; have p12 := (r1'.2 12 _ rfl).1; simp only [Pa.pingA] at p0 p1 p2 p3 p4 p5 p6 p7 p8 p9 p10 p12) | (go_at_call 14; refine (hvl _ (ok.below hB6) name_any (Fs.nil _) (by simp)).mono ?_; rintro e w7 ⟨rfl, hb7⟩; have hB7 := below_on hB6 hb7; clear r1' p0 p1 p2 p3 p4 p5 p6 p7 p8 p9 p10 p11 p12) | (go_at_call 23; refine (hvd _).mono ?_; rintro e w8 ⟨rfl, rfl⟩))
      all_goals first | (exfalso; omega) | (exfalso; rename_i hx; exact hx E1) | (exfalso; rename_i hx; rw [show Pa.lineA (Pa.askA h few) ++ [10] = _ from E2] at hx; simp at hx; done) | (exfalso; rename_i hz hx; exact hx (E3 hz)) | (go_ret; exact ⟨rfl, hB7⟩) | (rename_i hz; go_ret; exact ⟨congrArg (fun b => Ending.returned (Value.bool b)) (E4 hz), hB7⟩)
    | false =>
      have q2 := Pa.pr_none (Pa.print_bad ((Pa.ok_ask (s := few) hr).trans hn))
      have he : Pa.errB false = 30 := rfl
      rw [hn] at hnm
      rw [hv] at hvl hvd
      rw [q1.1, q1.2, q2.1, q2.2, q3.1, q3.2]
      clear q1 q2 q3
      go_wp2_with (first | (go_at_call 22; refine (hnm _ (ok.below hB5)).mono ?_; rintro e w6 ⟨rfl, hb6⟩; have r1' := r1.below hb6; have hB6 := below_on hB5 hb6; have p0 := (r1'.2 0 _ rfl).1; have p1 := (r1'.2 1 _ rfl).1; have p2 := (r1'.2 2 _ rfl).1; have p3 := (r1'.2 3 _ rfl).1; have p4 := (r1'.2 4 _ rfl).1; have p5 := (r1'.2 5 _ rfl).1; have p6 := (r1'.2 6 _ rfl).1; have p7 := (r1'.2 7 _ rfl).1; have p8 := (r1'.2 8 _ rfl).1; have p9 := (r1'.2 9 _ rfl).1; have p10 := (r1'.2 10 _ rfl).1; have p11 := (r1'.2 11 _ rfl).1; have p12 := (r1'.2 12 _ rfl).1; simp only [Pa.pingA] at p0 p1 p2 p3 p4 p5 p6 p7 p8 p9 p10 p12) | (go_at_call 14; refine (hvl _ (ok.below hB6) name_any (Fs.nil _) (by simp)).mono ?_; rintro e w7 ⟨rfl, hb7⟩; have hB7 := below_on hB6 hb7; clear r1' p0 p1 p2 p3 p4 p5 p6 p7 p8 p9 p10 p11 p12) | (go_at_call 23; refine (hvd _).mono ?_; rintro e w8 ⟨rfl, rfl⟩))
      all_goals first | (exfalso; omega) | (exfalso; rename_i hx; exact hx E1) | (exfalso; rename_i hx; rw [show Pa.lineA (Pa.askA h few) ++ [10] = _ from E2] at hx; simp at hx; done) | (exfalso; rename_i hz hx; exact hx (E3 hz)) | (go_ret; exact ⟨rfl, hB7⟩) | (rename_i hz; go_ret; exact ⟨congrArg (fun b => Ending.returned (Value.bool b)) (E4 hz), hB7⟩)

end Go.Proofs.YtgajoiijebbagaaGreatDoor

/-! THE LAW ScriptFieldFormats: for every input the call returns true, and each argument reads afterwards as it read before; the tied card. Conditions: those of the given row (the listed library tables are laid, which the card ties to the program's text). -/
namespace Go.Proofs.YtgajoiijebbagaaGreatDoor.scriptFieldFormats
open Go.ChangeShapes Go.WideShapes Go.ChangeAt Go.RowKit Go.Joins
open Go.ChangeMaps (open_string shut_string)

set_option maxRecDepth 100000 in
theorem contract (H : Type) (enc : TypeId × Value → H) (W : World) (base : Nat) (args : Array Value) (ds gs : List (DataW H)) (before : List MemPlace)
    (hval : ∀ (j : Nat) t v, Tryz.f7.params[j]? = some t → args[j]? = some v → Value.okWide Tryz.prog W .any base t v)
    (hW : DataW.Whole enc Tryz.prog Tryz.f7.params.toList Rows.scriptFieldFormatsSpec.vars false W args.toList ds gs before) (hL : laidMetH Tryz.prog Rows.scriptFieldFormatsRow.laid W) (hS : W.ShapedOpen Tryz.prog) :
    Calls Tryz.prog 7 args W fun e W' => ∃ v, e = .returned v ∧ Rows.scriptFieldFormatsSpec.post enc Tryz.prog Tryz.f7 false true false false W args v W' := by
  have hok := ok_of hL hS
  have hW' := hW
  obtain ⟨p, q, hA0, hV, rfl, hfz, hnd⟩ := hW
  have hA : DataW.TrodAll enc Tryz.prog W 0 (fun _ => true) true Tryz.f7.params.toList args.toList ds p := hA0
  rw [Tryz.params7] at hA hval
  obtain ⟨v0, vs0, d0, ds0, p0, q0, hargs, rfl, rfl, h0, r0⟩ := trodAll_cons hA
  obtain ⟨v1, vs1, d1, ds1, p1, q1, rfl, rfl, rfl, h1, r1⟩ := trodAll_cons r0
  obtain ⟨v2, vs2, d2, ds2, p2, q2, rfl, rfl, rfl, h2, r2⟩ := trodAll_cons r1
  obtain ⟨v3, vs3, d3, ds3, p3, q3, rfl, rfl, rfl, h3, r3⟩ := trodAll_cons r2
  obtain ⟨rfl, rfl, rfl⟩ := trodAll_nil r3
  obtain rfl : args = #[v0, v1, v2, v3] := by cases args; simp_all
  obtain ⟨rfl, rfl⟩ := trodVars_none hV
  obtain ⟨x0, rfl, rfl, rfl, wx0⟩ := open_int Tryz.underlying3 (hval 0 3 v0 rfl rfl) h0
  have bx0 := bounds_i64 wx0
  obtain ⟨x1, rfl, rfl, rfl, wx1⟩ := open_string Tryz.underlying9 (hval 1 9 v1 rfl rfl) h1
  obtain ⟨x2, rfl, rfl, rfl, wx2⟩ := open_string Tryz.underlying9 (hval 2 9 v2 rfl rfl) h2
  obtain ⟨x3, rfl, rfl, rfl, wx3⟩ := open_int Tryz.underlying5 (hval 3 5 v3 rfl rfl) h3
  have bx3 := bounds_u8 wx3
  clear hA0
  simp only [List.append_nil] at hW'
  refine (law12 x0 x1 x2 x3 W hok bx3.1 bx3.2 (len_of wx1) (len_of wx2)).mono fun e W' ⟨he, hb⟩ => ?_
  subst he
  exact ⟨_, rfl, post_of_below (pa := []) (pv := []) hW' (fun _ _ _ => trodAll_cons_mk (shut_bool Tryz.underlying4 _) trodAll_mk0) (fun _ _ => (trodAll_cons_mk (shut_int Tryz.underlying3 wx0) (trodAll_cons_mk (shut_string Tryz.underlying9 wx1) (trodAll_cons_mk (shut_string Tryz.underlying9 wx2) (trodAll_cons_mk (shut_int Tryz.underlying5 wx3) trodAll_mk0))))) (fun _ _ => rfl) rfl hb (ok_one (by kernel_rfl) rfl (okWide_bool_mk Tryz.underlying4 _))⟩

set_option maxRecDepth 100000 in
theorem reads (os : Os) {H : Type} (enc : TypeId × Value → H) : ∃ places, DataW.whole enc Tryz.prog ((laidWorld os).forCall (fun _ _ => 0) ⟨#[], #[.int .i64 0, .string ⟨#[]⟩, .string ⟨#[]⟩, .int .u8 0], []⟩).memory Tryz.f7.params.toList Rows.scriptFieldFormatsSpec.vars false (#[Value.int .i64 0, .string ⟨#[]⟩, .string ⟨#[]⟩, .int .u8 0] : Array Value).toList 8 = some ([.lit (.int .i64 0), .lit (.string []), .lit (.string []), .lit (.int .u8 0)], [], places) :=
  ⟨[], by kernel_rfl⟩

set_option maxRecDepth 100000 in
theorem lifted (os : Os) (started : os.Started) (H : Type) (enc : TypeId × Value → H) (F : Stop.Interp) :
    ReturnsInHanded {} Tryz.checked os 7 .any ((OpenSpec.ofChange Rows.scriptFieldFormatsSpec).preRow enc Tryz.prog Tryz.f7 Rows.scriptFieldFormatsRow.domain false Rows.scriptFieldFormatsRow.laid) (((OpenSpec.ofChange Rows.scriptFieldFormatsSpec).at F).post enc Tryz.prog Tryz.f7 false true false false) := by
  obtain ⟨places, hx⟩ := reads os enc
  refine returnsInHanded_of_row (C := Tryz.checked) (s := OpenSpec.ofChange Rows.scriptFieldFormatsSpec) own started (by kernel_rfl) Tryz.func7
    (witness_row_at (enc := enc) (C := Tryz.checked) false (laidWorld os) #[.int .i64 0, .string ⟨#[]⟩, .string ⟨#[]⟩, .int .u8 0] rfl (by kernel_rfl) (by kernel_rfl) (by kernel_rfl)
      (OpenSpec.preRow_of_cond 8 hx (by kernel_rfl) (fun k hk => by cases hk) (by kernel_rfl) (laid_met os _))) ?_
  intro W base args ds gs before hval hW _ _ _ hL hS _
  exact contract H enc W base args ds gs before hval hW hL hS

theorem said : Rows.ScriptFieldFormatsSaid :=
  OpenClaim.holds_of_cond 7 Tryz.f7 rfl rfl rfl rfl rfl rfl rfl ⟨rfl, rfl, rfl, rfl, rfl⟩ rfl rfl rfl rfl rfl (by kernel_rfl) Tryz.func7 (by kernel_rfl)
    (of_decide_eq_true (by kernel_rfl)) (by unfold Func.isWrapper; first | (rw [if_pos (by decide +kernel)]; kernel_rfl) | (rw [if_neg (by decide +kernel)]; exact ⟨rfl, rfl⟩))
    (fun os started H enc _ F => by rw [OpenClaim.pre_eq_preRow]; exact lifted os started H enc F)

/-- No parameter wants a stand-in; the program's own looks are off: what the card asks. -/
theorem plain (f : FuncId) (fn : Func) (hf : Tryz.pinned.checked.prog.funcNamed "stagepost/stagepostlaw27.ScriptFieldFormats" = some f) (hfn : Tryz.pinned.checked.prog.funcs[f]? = some fn) :
    true = Tryz.pinned.checked.prog.looks [] ∧ ∀ (j : Nat) t, fn.params[j]? = some t → Tryz.pinned.checked.prog.wantsStandIn t = false := by
  obtain rfl : f = 7 := Option.some.inj ((show Tryz.prog.funcNamed "stagepost/stagepostlaw27.ScriptFieldFormats" = some 7 by kernel_rfl).symm.trans hf) |>.symm
  obtain rfl : fn = Tryz.f7 := (Option.some.inj (Tryz.func7.symm.trans hfn)).symm
  refine ⟨by kernel_rfl, fun j t ht => ?_⟩
  rw [Tryz.params7] at ht
  have hm := Array.mem_of_getElem? ht
  simp only [List.mem_toArray, List.mem_cons, List.not_mem_nil, or_false] at hm
  rcases hm with rfl | rfl | rfl | rfl
  · exact (show Tryz.prog.wantsStandIn 3 = false by kernel_rfl)
  · exact (show Tryz.prog.wantsStandIn 9 = false by kernel_rfl)
  · exact (show Tryz.prog.wantsStandIn 9 = false by kernel_rfl)
  · exact (show Tryz.prog.wantsStandIn 5 = false by kernel_rfl)

/-- THE CARD. -/
theorem card : Rows.ScriptFieldFormatsCardSaid :=
  Claim7.holds_tied_plain_at .later [] _ _ _ _ said (fun _ h => by cases h) (by kernel_rfl) (fun _ h => by cases h) scriptFieldFormats_row_tie rfl ⟨rfl, rfl⟩ (by kernel_rfl) rfl plain (by kernel_rfl)
end Go.Proofs.YtgajoiijebbagaaGreatDoor.scriptFieldFormats
