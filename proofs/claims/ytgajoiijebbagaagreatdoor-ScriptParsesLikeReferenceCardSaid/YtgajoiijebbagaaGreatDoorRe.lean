/-
  The walks of the document's hex, addr, num and words: each says which text it gives, and that what was there is unchanged. Conditions: as each says.
-/
import Derived.Test.YtgajoiijebbagaaGreatDoorRa
namespace Go.Proofs.YtgajoiijebbagaaGreatDoor
open Go.RowKit Go.Proofs

theorem cat_run (x y : ByteArray) (u : World) (h : x.size + y.size ≤ 9223372036854775807) : (Op.stringOp .add x y).run Tryz.prog u = .ok (.string (x ++ y)) u := by
  have : ¬ ((x.size + y.size : Nat) : Int) > IntKind.i64.max := by
    have : IntKind.i64.max = 9223372036854775807 := by decide
    omega
  simp only [Op.stringOp]
  rw [if_neg this]
  rfl

theorem ret_sb {a b : ByteArray} (h : a = b) : Ending.returned (.string a) = .returned (.string b) := by rw [h]

theorem refNum_any (n : Int) (w : World) (h0 : 0 ≤ n) (h1 : n ≤ 9223372036854775807) : Calls Tryz.prog 49 #[.int .i64 n] w fun e w' => e = .returned (.string ⟨(Pa.num n).toArray⟩) ∧ Below w.heap.size w w' := by
  go_enter Tryz.func49, Tryz.ntmps49
  go_wp2_with (go_at_call 72; refine (digits n _ h0 h1).mono ?_; rintro e w1 ⟨rfl, hb⟩)
  go_ret
  exact ⟨rfl, hb⟩

theorem refAddr_any (a : Int) (w : World) : Calls Tryz.prog 73 #[.int .i64 a] w fun e w' => e = .returned (.string ⟨(Pa.fmtS a).toArray⟩) ∧ Below w.heap.size w w' := by
  go_enter Tryz.func73, Tryz.ntmps73
  go_wp2_with (go_at_call 87; refine (refFormat_any a _).mono ?_; rintro e w1 ⟨rfl, hb⟩)
  go_ret
  exact ⟨rfl, hb⟩

theorem hexSub (m : Nat) (h : m < 16) : hexD.extract m (m + 1) = ⟨[Pa.hexd m].toArray⟩ := by
  have : ∀ k : Fin 16, hexD.extract k.val (k.val + 1) = ⟨[Pa.hexd k.val].toArray⟩ := by decide +kernel
  exact this ⟨m, h⟩
theorem hexs_snoc (s : ByteArray) (k : Nat) (h : k < s.size) : Pa.hexs (s.data.toList.take (k + 1)) = Pa.hexs (s.data.toList.take k) ++ [Pa.hexd (s[k].toNat / 16)] ++ [Pa.hexd (s[k].toNat % 16)] := by
  rw [take_snoc s k h]; simp [Pa.hexs, Pa.hex2]

set_option maxRecDepth 100000 in
set_option maxHeartbeats 1000000 in
theorem refHex_any (s : ByteArray) (w : World) (hs : s.size ≤ 1000000) :
    Calls Tryz.prog 51 #[.string s] w fun e w' => e = .returned (.string ⟨(Pa.hexL s.data.toList).toArray⟩) ∧ Below w.heap.size w w' := by
  by_cases h0 : s.size = 0
  · have he := str_empty h0
    have hh : Pa.hexL s.data.toList = [45] := by rw [← ByteArray.toList_eq, he]; rfl
    have HH := Lib.hid hh; clear hh
    go_enter Tryz.func51, Tryz.ntmps51
    go_wp2
    go_ret
    exact ⟨by rw [HH.out]; rfl, Below.refl _ _⟩
  · have he := str_ne h0
    have he' := str_isEmpty h0
    have HH : Hid (Pa.hexL s.data.toList = Pa.hexs s.data.toList) := by
      rw [Hid, Pa.hexL, if_neg]; intro e; rw [← ByteArray.toList_eq] at e; exact he e
    go_enter Tryz.func51, Tryz.ntmps51
    go_wp2
    go_loopw [4, 5] (fun v i wr => ∃ (k : Nat) (t : ByteArray), k ≤ s.size ∧ i = .int .i64 k ∧ v = .string t ∧ Hid (t = ⟨(Pa.hexs (s.data.toList.take k)).toArray⟩) ∧ t.size ≤ 2 * k ∧ Below w.heap.size w wr) (fun _ i _ => s.size - (intOf i).toNat)
    case atStart => exact ⟨0, ⟨#[]⟩, Nat.zero_le _, rfl, rfl, rfl, Nat.zero_le _, Below.refl _ _⟩
    case round =>
      obtain ⟨k, t, hk, rfl, rfl, HT, htl, hB⟩ := hrel
      by_cases hlt : k < s.size
      · have hb := s[k].toNat_lt
        obtain ⟨p, hp⟩ : ∃ p : Nat, p = s[k].toNat / 16 := ⟨_, rfl⟩
        obtain ⟨q, hq⟩ : ∃ q : Nat, q = s[k].toNat % 16 := ⟨_, rfl⟩
        have hp16 : p < 16 := by omega
        have hq16 : q < 16 := by omega
        have ep : (s[k].toNat : Int) / 16 = (p : Int) := by omega
        have eq : (s[k].toNat : Int) % 16 = (q : Int) := by omega
        have HN := Lib.hid (hexs_snoc s k hlt)
        rw [← hp, ← hq] at HN
        clear hp hq
        have x1 := hexSub p hp16
        have x2 := hexSub q hq16
        have b1 : (0 : Int) ≤ (p : Int) := by omega
        have b2 : (p : Int) ≤ (p : Int) + 1 := by omega
        have b3 : (p : Int) + 1 ≤ 16 := by omega
        have b4 : (0 : Int) ≤ (q : Int) := by omega
        have b5 : (q : Int) ≤ (q : Int) + 1 := by omega
        have b6 : (q : Int) + 1 ≤ 16 := by omega
        have u1 : ((p : Int) + 1).toNat = p + 1 := by omega
        have u2 : ((q : Int) + 1).toNat = q + 1 := by omega
        have r1 : IntKind.i64.wrap ((p : Int) + 1) = (p : Int) + 1 := IntWalk.i64_in _ (by omega)
        have r2 : IntKind.i64.wrap ((q : Int) + 1) = (q : Int) + 1 := IntWalk.i64_in _ (by omega)
        have a1 := fun u => cat_run t ⟨[Pa.hexd p].toArray⟩ u (by show t.size + 1 ≤ 9223372036854775807; omega)
        have a2 := fun u => cat_run (t ++ ⟨[Pa.hexd p].toArray⟩) ⟨[Pa.hexd q].toArray⟩ u (by rw [ByteArray.size_append]; show t.size + 1 + 1 ≤ 9223372036854775807; omega)
        have HS : Hid (t ++ ⟨[Pa.hexd p].toArray⟩ ++ ⟨[Pa.hexd q].toArray⟩ = ⟨(Pa.hexs (s.data.toList.take (k + 1))).toArray⟩) := by
          rw [Hid, HT.out, app, app, HN.out]
        go_wp2
        go_quiet (fail)
        clear r1 r2 x1 x2 a1 a2 u1 u2
        go_wp2
        go_roundw
        case rel => exact ⟨k + 1, _, by omega, by go_num, rfl, HS.out, by rw [ByteArray.size_append, ByteArray.size_append]; show t.size + 1 + 1 ≤ 2 * (k + 1); omega, hB.trans ((drewN_below wr nq).mono hB.size)⟩
        case measure => simp [intOf]; omega
      · have HF : Hid (t = ⟨(Pa.hexs s.data.toList).toArray⟩) := by
          rw [Hid, HT.out, List.take_of_length_le (by rw [size_len]; omega)]
        go_wp2
        go_ret
        exact ⟨ret_sb (by rw [HF.out, HH.out]), hB⟩

end Go.Proofs.YtgajoiijebbagaaGreatDoor
