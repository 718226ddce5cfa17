/-
  The walk of the document's Print: it gives the same text and the same error as the program's, and what was there is unchanged. Conditions: the actions lie in memory.
-/
import Derived.Test.YtgajoiijebbagaaGreatDoorRe3
import Derived.Test.YtgajoiijebbagaaGreatDoorRb2
namespace Go.Proofs.YtgajoiijebbagaaGreatDoor
open Go.RowKit Go.Proofs

set_option maxRecDepth 100000 in
set_option maxHeartbeats 1000000 in
theorem refPrint_any (l : List Pa.Ac) (v : Value) (w : World) (hv : Acts w v l) (hmax : l.length ≤ 9223372036854775807) : Calls Tryz.prog 13 #[v] w (POut l w) := by
  have HV := Lib.hid hv
  obtain ⟨a, c, fv0, rfl, hlc, -, -⟩ := hv
  by_cases h100 : 100 < (l.length : Int)
  · have HN : Hid (Pa.printA l = none) := by
      rw [Hid, Pa.printA, if_neg (by intro h; omega)]
    go_enter Tryz.func13, Tryz.ntmps13
    go_wp2
    go_ret2
    exact POut.no HN.out ⟨rfl, Below.refl _ _⟩
  · go_enter Tryz.func13, Tryz.ntmps13
    go_wp2_with fail
    go_loopw [4, 5] (fun o i wr => ∃ (k : Nat) (t : ByteArray), k ≤ l.length ∧ i = .int .i64 k ∧ o = .string t ∧ Hid (∀ y ∈ l.take k, Pa.okA y = true) ∧ Hid (t = ⟨(Pa.textA (l.take k)).toArray⟩) ∧ t.size ≤ 8001 * k ∧ Below w.heap.size w wr) (fun _ i _ => l.length - (intOf i).toNat)
    case atStart => exact ⟨0, ⟨#[]⟩, Nat.zero_le _, rfl, rfl, fun y hy => by simp at hy, rfl, Nat.zero_le _, Below.refl _ _⟩
    case round =>
      obtain ⟨k, t, hk, rfl, rfl, HK, HT, htl, hB⟩ := hrel
      by_cases hlt : k < l.length
      · obtain ⟨a', c', fv, hv, _, hfs, hcs⟩ := HV.out.below hB
        cases hv
        obtain ⟨b, o, rfl, hbl, hcell⟩ := hcs (fun e => by simp [e] at hlt)
        obtain ⟨hfk, hlk⟩ := hfs k hlt
        have g : ∀ (j : Nat) (u : Value), (acCells l[k] (fv k))[j]? = some u → wr.cell? ⟨b, o + k * 13 + j, none⟩ = some u := fun j u hu => hcell k hlt j u hu
        have p0 := g 0 _ rfl
        have p1 := g 1 _ rfl
        have p2 := g 2 _ rfl
        have p3 := g 3 _ rfl
        have p4 := g 4 _ rfl
        have p5 := g 5 _ rfl
        have p6 := g 6 _ rfl
        have p7 := g 7 _ rfl
        have p8 := g 8 _ rfl
        have p9 := g 9 _ rfl
        have p10 := g 10 _ rfl
        have p11 := g 11 _ rfl
        have p12 := g 12 _ rfl
        rw [Nat.add_zero] at p0
        have hval := refAct_any l[k] (fv k) wr hfk hlk
        have hmem : l[k] ∈ l := List.getElem_mem hlt
        have htk : l.take (k + 1) = l.take k ++ [l[k]] := List.take_succ_eq_append_getElem hlt
        have hlin := fun (u : World) (hu : Below wr.heap.size wr u) (h : Pa.okA l[k] = true) => refLine_any l[k] (fv k) u h (hfk.below hu)
        clear g hcell hcs hfs hfk
        obtain ⟨y, hy⟩ : ∃ y, y = l[k] := ⟨_, rfl⟩
        rw [← hy] at p0 p1 p2 p3 p4 p5 p6 p7 p8 p9 p10 p12 hlk hmem htk hval hlin
        clear hy
        obtain ⟨f, hf⟩ : ∃ f, f = fv k := ⟨_, rfl⟩
        rw [← hf] at p11 hval hlin
        clear hf
        have HM := Lib.hid hmem; have HTK := Lib.hid htk; clear hmem htk
        have b1 : (0 : Int) ≤ (k : Int) := by omega
        have b2 : (k : Int) < (l.length : Int) := by omega
        unfold acV at hval hlin
        go_wp2_with fail
        refine hval.mono ?_
        rintro e w4 ⟨rfl, hb4⟩
        have hB4 := below_on hB hb4
        cases hok : Pa.okA y with
        | false =>
          have HN : Hid (Pa.printA l = none) := by
            rw [Hid, Pa.printA, if_neg]
            rintro ⟨_, h⟩
            rw [List.all_eq_true] at h
            rw [h y HM.out] at hok; cases hok
          clear hok hval hlin p0 p1 p2 p3 p4 p5 p6 p7 p8 p9 p10 p11 p12
          go_wp2
          go_ret2
          exact POut.no HN.out ⟨rfl, hB4⟩
        | true =>
          have HOK := Lib.hid hok
          have q0 := cell_below hb4 hbl p0
          have q1 := cell_below hb4 hbl p1
          have q2 := cell_below hb4 hbl p2
          have q3 := cell_below hb4 hbl p3
          have q4 := cell_below hb4 hbl p4
          have q5 := cell_below hb4 hbl p5
          have q6 := cell_below hb4 hbl p6
          have q7 := cell_below hb4 hbl p7
          have q8 := cell_below hb4 hbl p8
          have q9 := cell_below hb4 hbl p9
          have q10 := cell_below hb4 hbl p10
          have q11 := cell_below hb4 hbl p11
          have q12 := cell_below hb4 hbl p12
          have hln := hlin w4 hb4 hok
          have hll := Pa.line_len hok
          obtain ⟨N, eN⟩ : ∃ N : ByteArray, N = ⟨(Pa.lineA y).toArray⟩ := ⟨_, rfl⟩
          have zN : N.size ≤ 8000 := by rw [eN, mk_size]; omega
          rw [← eN] at hln
          have HN : Hid (t ++ N ++ ⟨#[10]⟩ = ⟨(Pa.textA (l.take (k + 1))).toArray⟩) := by
            rw [Hid, HTK.out, Pa.textA_snoc, HT.out, eN]
            apply ByteArray.ext
            simp [ByteArray.data_append]
          have HK2 : Hid (∀ z ∈ l.take (k + 1), Pa.okA z = true) := by
            rw [Hid, HTK.out]
            intro z hz
            rcases List.mem_append.1 hz with hz | hz
            · exact HK.out z hz
            · simp at hz; subst hz; exact hok
          have hk100 : k < 100 := by omega
          have a1 := fun u => cat_run t N u (by omega)
          have a2 := fun u => cat_run (t ++ N) ⟨#[10]⟩ u (by rw [ByteArray.size_append]; show t.size + N.size + 1 ≤ 9223372036854775807; omega)
          clear hok eN hll hval hlin p0 p1 p2 p3 p4 p5 p6 p7 p8 p9 p10 p11 p12 HOK
          go_wp2_with fail
          refine hln.mono ?_
          rintro e w5 ⟨rfl, hb5⟩
          clear hln q0 q1 q2 q3 q4 q5 q6 q7 q8 q9 q10 q11 q12
          go_wp2
          go_roundw
          case rel => exact ⟨k + 1, _, by omega, by go_num, rfl, HK2.out, HN.out, by rw [ByteArray.size_append, ByteArray.size_append]; show t.size + N.size + 1 ≤ 8001 * (k + 1); omega, below_on hB4 hb5⟩
          case measure => simp [intOf]; omega
      · have hke : l.take k = l := List.take_of_length_le (by omega)
        rw [hke] at HK HT
        have HP : Hid (Pa.printA l = some (Pa.textA l)) := Pa.printA_some HK.out (by omega)
        clear hke
        go_wp2
        go_ret2
        exact POut.yes HP.out ⟨ret_strE HT.out rfl, hB⟩

end Go.Proofs.YtgajoiijebbagaaGreatDoor
