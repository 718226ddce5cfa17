/-
  The walks of dns.inLabel, dns.labels and its iterator: the parts of a name between its dots, in their order. Conditions: the string is at most a million bytes long.
-/
import Derived.Test.YtgajoiijebbagaaGreatDoorSWalkB
import Derived.RangeFuncNested
import Derived.RangeFuncBound
import Derived.RangeFuncCalls
import Derived.RangeFuncLeaves
import Derived.RangeFuncFrom
import Derived.Shelf.Abstract
import Derived.Shelf.RegionOpen
import Derived.WalkKit
import Derived.OwnWalkIn
import Derived.TacticsInMore
import Derived.LoopNIn
import Derived.LoopIn
namespace Go.Proofs.YtgajoiijebbagaaGreatDoor
open Go.RowKit Go.Proofs Go.Shelf
attribute [local go_sem] Oper.semAt_some

theorem inLabel_any (c : UInt8) (w : World) : Calls Tryz.prog 44 #[.int .u8 (c.toNat : Int)] w fun e w' => e = .returned (.bool (Pa.inLab c)) ∧ w = w' := by
  have hi : Pa.inLab c = (decide (97 ≤ (c.toNat : Int) ∧ (c.toNat : Int) ≤ 122) || decide (48 ≤ (c.toNat : Int) ∧ (c.toNat : Int) ≤ 57) || decide ((c.toNat : Int) = 45)) := by
    unfold Pa.inLab
    have : (c = 45) ↔ ((c.toNat : Int) = 45) := ⟨fun h => by rw [h]; rfl, fun h => UInt8.toNat_inj.1 (by show c.toNat = 45; omega)⟩
    congr 1
    · congr 1 <;> (congr 1; simp only [eq_iff_iff]; omega)
    · simp only [this]
  rw [hi]
  have HI := Lib.hid hi; clear hi
  generalize (c.toNat : Int) = n
  go_enter Tryz.func44, Tryz.ntmps44
  go_wp2
  all_goals
    go_ret
    exact ⟨ret_bool (by first | rfl | (rw [Bool.eq_iff_iff]; simp; done) | (rw [Bool.eq_iff_iff]; simp; omega)), rfl⟩

theorem labels_any (s : ByteArray) (w : World) : Calls Tryz.prog 43 #[.string s] w fun e w' => e = .returned (.func (.func 69) #[] #[.pointer (some ⟨w.heap.size, 0, none⟩)]) ∧ w' = w.alloc (.cells #[.string s] 9) := by
  have hmf : ∀ (fn : Fn) (first cap : Array Value) (w : World), (Instr.makeFunc fn first cap).run Tryz.prog w = .ok (.func fn first cap) w := fun _ _ _ _ => rfl
  go_enter Tryz.func43, Tryz.ntmps43
  go_wp2
  go_ret
  exact ⟨rfl, rfl⟩

def strSize : Value → Nat | .string s => s.size | _ => 0

theorem cutDot (s : Pa.Bs) (w : World) (ok : Ok w) (hs : s.length ≤ 1000000) :
    Calls Tryz.prog 38 #[.string ⟨s.toArray⟩, .string ⟨#[46]⟩] w fun e w' => e = .returned (.tuple #[.string ⟨(Lib.cut s [46]).1.toArray⟩, .string ⟨(Lib.cut s [46]).2.1.toArray⟩, .bool (Lib.cut s [46]).2.2]) ∧ ∃ n, w' = w.drewN n := by
  obtain ⟨_, ⟨m, hm⟩, _⟩ := ok
  have := Tryz.strings_Cut ⟨s.toArray⟩ ⟨#[46]⟩ m w (by simp [ByteArray.size]; omega) hm
  simpa using this

theorem grown_drewN (w : World) (n : Nat) : w.grownBy (w.drewN n) none := ⟨rfl, rfl, rfl, Nat.le_refl _, fun _ _ _ => rfl⟩

set_option maxRecDepth 100000 in
set_option maxHeartbeats 2000000 in
/-- The iterator: the parts of s, in their order. -/
theorem labels_stops (n : Nat) (hn : 1 ≤ n) (Bn n0 : Nat) (s : Pa.Bs) (hs : s.length ≤ 1000000) (w : World) (ok : Ok w) (h4 : 4 ≤ n0) (hBw : Bn < w.heap.size) (hn0 : n0 ≤ w.heap.size) (hc : w.cell? ⟨Bn, 0, none⟩ = some (.string ⟨s.toArray⟩)) :
    SeqStopsK Fence.wide n Tryz.prog 69 #[.pointer (some ⟨Bn, 0, none⟩)] (fun x : Pa.Bs => #[.string ⟨x.toArray⟩]) (Below n0) (fun xs => xs = Pa.splitC 46 s) (fun pre => pre <+: Pa.splitC 46 s) ((Pa.splitC 46 s).length) w := by
  intro l J Jx W hW hJ hJx hY h0
  have hcW : W.cell? ⟨Bn, 0, none⟩ = some (.string ⟨s.toArray⟩) := cell_below hW hBw hc
  refine callsIn_of_wp Tryz.func69 rfl trivial ?_ rfl
  simp only [Tryz.ntmps69, List.size_toArray, List.length_cons, List.length_nil, Nat.reduceAdd, Nat.reduceSub, Array.replicate_succ, Array.replicate_zero, List.push_toArray, List.append_toArray, List.nil_append, List.cons_append]
  gi_wp2
  gi_loopw [3] (fun v wr => ∃ pre rest : _, v = .string ⟨rest.toArray⟩ ∧ Hid (Pa.splitC 46 s = pre ++ Pa.splitC 46 rest) ∧ rest.length ≤ s.length ∧ J pre wr ∧ Below n0 W wr ∧ Ok wr)
    (fun v _ => strSize v)
  case atStart => exact ⟨[], s, rfl, rfl, Nat.le_refl _, h0, Below.refl _ _, ok.below hW⟩
  case round =>
    obtain ⟨pre, rest, rfl, HS, hl, hJs, hB, okr⟩ := hrel
    have hlr : rest.length ≤ 1000000 := by omega
    have hpl : pre.length < (Pa.splitC 46 s).length := by
      rw [HS.out, List.length_append]
      have := List.length_pos_iff.2 (Pa.splitC_ne 46 rest)
      omega
    have hcut := cutDot rest wr okr hlr
    rcases Pa.index_cases rest 46 with ⟨-, hno⟩ | ⟨i, -, hi, hat, hno⟩
    · rw [Pa.cut_none rest 46 hno] at hcut
      have HN : Hid (Pa.splitC 46 s = pre ++ [rest]) := by rw [Hid, HS.out, Pa.splitC_none 46 rest hno]
      clear hno
      gi_wp2_with (refine ⟨trivial, ?_⟩; gi_at_call 38; refine (callsIn_wide.2 hcut).mono ?_; rintro e w' ⟨rfl, q, rfl⟩; obtain ⟨fn, tmps, assign, body, hy, hR⟩ := hY pre rest (wr.drewN q) (hJ pre wr _ none hJs (grown_drewN wr q) (fun r e => by cases e)) hpl)
      refine hR.mono ?_
      rintro e W3 (⟨rfl, hJ3, hk3⟩ | ⟨rfl, hJx3⟩)
      · gi_wp2
        refine bodyPost_ret (results_none rfl _ _ _) rfl ?_
        exact ⟨⟨_, rfl⟩, .inl ⟨pre ++ [rest], HN.out.symm, hJ3⟩⟩
      · gi_wp2
        refine bodyPost_ret (results_none rfl _ _ _) rfl ?_
        exact ⟨⟨_, rfl⟩, .inr ⟨pre ++ [rest], by rw [HN.out]; exact List.prefix_refl _, hJx3⟩⟩
    · obtain ⟨x, hx⟩ : ∃ x, x = rest.take i := ⟨_, rfl⟩
      obtain ⟨r, hr⟩ : ∃ r, r = rest.drop (i + 1) := ⟨_, rfl⟩
      have hsp := Pa.split_at rest 46 i hat
      rw [← hx] at hno
      rw [← hx, ← hr] at hsp
      have hrl : r.length < rest.length := by rw [hsp]; simp; omega
      have hce := Pa.cut_at x r 46 hno
      rw [← hsp] at hce
      rw [hce] at hcut
      have HN : Hid (Pa.splitC 46 s = pre ++ [x] ++ Pa.splitC 46 r) := by
        rw [Hid, HS.out, hsp, Pa.splitC_append 46 x r hno]; simp
      clear hno hx hr hsp hce hat hi
      gi_wp2_with (refine ⟨trivial, ?_⟩; gi_at_call 38; refine (callsIn_wide.2 hcut).mono ?_; rintro e w' ⟨rfl, q, rfl⟩; obtain ⟨fn, tmps, assign, body, hy, hR⟩ := hY pre x (wr.drewN q) (hJ pre wr _ none hJs (grown_drewN wr q) (fun r e => by cases e)) hpl)
      refine hR.mono ?_
      rintro e W3 (⟨rfl, hJ3, hk3⟩ | ⟨rfl, hJx3⟩)
      · gi_wp2
        go_roundw
        case rel => exact ⟨pre ++ [x], r, rfl, HN.out, by omega, hJ3, (hB.trans ((drewN_below wr q).mono (Nat.le_trans (Nat.le_trans hn0 hW.size) hB.size))).trans hk3, okr.kept ((((drewN_below wr q).mono okr.1)).trans (hk3.mono h4))⟩
        case measure => simp [strSize, ByteArray.size]; omega
      · gi_wp2
        refine bodyPost_ret (results_none rfl _ _ _) rfl ?_
        exact ⟨⟨_, rfl⟩, .inr ⟨pre ++ [x], by rw [HN.out]; exact List.prefix_append _ _, hJx3⟩⟩

end Go.Proofs.YtgajoiijebbagaaGreatDoor
