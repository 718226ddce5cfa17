/-
  The walks of script.within, the document's within, the predicate of script.Valid on fates, slices.IndexFunc and slices.ContainsFunc at it. Conditions: as each says.
-/
import Derived.Test.YtgajoiijebbagaaGreatDoorWalkL
import Derived.Test.YtgajoiijebbagaaGreatDoorSPlainC
import Derived.Test.YtgajoiijebbagaaGreatDoorSBuild
namespace Go.Proofs.YtgajoiijebbagaaGreatDoor
open Go.RowKit Go.Proofs

set_option maxHeartbeats 400000 in
theorem within_any (n lo hi : Int) (w : World) : Calls Tryz.prog 30 #[.int .i64 n, .int .i64 lo, .int .i64 hi] w fun e w' => e = .returned (.bool (Pa.inR n lo hi)) ∧ w = w' := by
  by_cases h0 : lo ≤ n
  · go_enter Tryz.func30, Tryz.ntmps30
    go_wp2
    go_ret
    exact ⟨ret_bool (by simp [Pa.inR, h0]), rfl⟩
  · have hn : Pa.inR n lo hi = false := by rw [Pa.inR_false]; omega
    have HN := Lib.hid hn; clear hn
    go_enter Tryz.func30, Tryz.ntmps30
    go_wp2
    go_ret
    exact ⟨ret_bool HN.out.symm, rfl⟩

set_option maxHeartbeats 400000 in
theorem refWithin_any (n lo hi : Int) (w : World) : Calls Tryz.prog 34 #[.int .i64 n, .int .i64 lo, .int .i64 hi] w fun e w' => e = .returned (.bool (Pa.inR n lo hi)) ∧ w = w' := by
  by_cases h0 : lo ≤ n
  · go_enter Tryz.func34, Tryz.ntmps34
    go_wp2
    go_ret
    exact ⟨ret_bool (by simp [Pa.inR, h0]), rfl⟩
  · have hn : Pa.inR n lo hi = false := by rw [Pa.inR_false]; omega
    have HN := Lib.hid hn; clear hn
    go_enter Tryz.func34, Tryz.ntmps34
    go_wp2
    go_ret
    exact ⟨ret_bool HN.out.symm, rfl⟩

theorem fate_any (n : Int) (w : World) : Calls Tryz.prog 33 #[.int .i64 n] w fun e w' => e = .returned (.bool (!Pa.inR n 0 24)) ∧ w = w' := by
  go_enter Tryz.func33, Tryz.ntmps33
  go_wp2_with (go_at_call 30; refine (within_any _ _ _ _).mono ?_; rintro e w' ⟨rfl, rfl⟩)
  go_ret
  exact ⟨rfl, rfl⟩

def Pa.allF (xs : List Int) : Bool := xs.all fun f => Pa.inR f 0 24
theorem Pa.allF_snoc (xs : List Int) (k : Nat) (h : k < xs.length) : Pa.allF (xs.take (k + 1)) = (Pa.allF (xs.take k) && Pa.inR xs[k] 0 24) := by
  unfold Pa.allF; rw [List.take_add_one, List.all_append, List.getElem?_eq_getElem h]; simp
/-- A slice value that holds these integers. -/
def Fs (w : World) (v : Value) (xs : List Int) : Prop := ∃ (a : Option Addr) (c : Nat), v = .slice a xs.length c ∧ (xs ≠ [] → ∃ b o, a = some ⟨b, o, none⟩ ∧ b < w.heap.size ∧ ∀ (j : Nat) (h : j < xs.length), w.cell? ⟨b, o + j, none⟩ = some (.int .i64 xs[j]))
theorem Fs.below {w w' : World} {v : Value} {xs : List Int} (h : Fs w v xs) (hb : Below w.heap.size w w') : Fs w' v xs := by
  obtain ⟨a, c, h1, h2⟩ := h
  refine ⟨a, c, h1, fun h0 => ?_⟩
  obtain ⟨b, o, h3, h4, h5⟩ := h2 h0
  exact ⟨b, o, h3, Nat.lt_of_lt_of_le h4 hb.size, fun j hj => cell_below hb h4 (h5 j hj)⟩

set_option maxHeartbeats 400000 in
theorem indexFunc_any (v : Value) (xs : List Int) (w : World) (hv : Fs w v xs) (hl : xs.length ≤ 9223372036854775807) :
    Calls Tryz.prog 52 #[v, .func (.func 33) #[] #[]] w fun e w' => (∃ i : Int, e = .returned (.int .i64 i) ∧ (0 ≤ i ↔ Pa.allF xs = false)) ∧ w = w' := by
  obtain ⟨a, c, rfl, hc⟩ := hv
  go_enter Tryz.func52, Tryz.ntmps52
  go_wp2
  go_loop [8] (fun i => ∃ k : Nat, k ≤ xs.length ∧ i = .int .i64 k ∧ Pa.allF (xs.take k) = true) (fun i => xs.length - (intOf i).toNat)
  case atStart => exact ⟨0, Nat.zero_le _, rfl, rfl⟩
  case round =>
    obtain ⟨k, hk, rfl, hall⟩ := hrel
    have HALL := Lib.hid hall; clear hall
    by_cases hlt : k < xs.length
    · obtain ⟨b, o, rfl, hb, hcell⟩ := hc (fun e => by simp [e] at hlt)
      have hck := hcell k hlt
      by_cases hx : Pa.inR xs[k] 0 24 = true
      · have hne : (!Pa.inR xs[k] 0 24) = false := by rw [hx]; rfl
        have HX := Lib.hid hx; clear hx
        go_wp2_with (go_at_call 33; refine (fate_any _ _).mono ?_; rintro e w' ⟨rfl, rfl⟩)
        go_round
        case rel =>
          refine ⟨k + 1, by omega, by go_num, ?_⟩
          rw [Pa.allF_snoc _ _ hlt, HALL.out, HX.out]; rfl
        case measure => simp [intOf]; omega
      · have hf : Pa.allF xs = false := by
          rw [Bool.eq_false_iff]; intro h; exact hx (List.all_eq_true.1 h _ (List.getElem_mem hlt))
        have hne : (!Pa.inR xs[k] 0 24) = true := by simpa using hx
        have HF := Lib.hid hf; clear hf hx
        go_wp2_with (go_at_call 33; refine (fate_any _ _).mono ?_; rintro e w' ⟨rfl, rfl⟩)
        go_ret
        exact ⟨⟨_, rfl, by rw [HF.out]; simp⟩, rfl⟩
    · have hke : xs.take k = xs := List.take_of_length_le (by omega)
      rw [hke] at HALL
      go_wp2
      go_ret
      exact ⟨⟨_, rfl, by rw [HALL.out]; simp⟩, rfl⟩

set_option maxHeartbeats 400000 in
theorem containsFunc_any (v : Value) (xs : List Int) (w : World) (hv : Fs w v xs) (hl : xs.length ≤ 9223372036854775807) :
    Calls Tryz.prog 32 #[v, .func (.func 33) #[] #[]] w fun e w' => e = .returned (.bool (!Pa.allF xs)) ∧ w = w' := by
  go_enter Tryz.func32, Tryz.ntmps32
  go_wp2_with (go_at_call 52; refine (indexFunc_any _ xs _ hv hl).mono ?_; rintro e w' ⟨⟨i, rfl, hi⟩, rfl⟩)
  go_ret
  refine ⟨ret_bool ?_, rfl⟩
  cases h : Pa.allF xs <;> simp_all

end Go.Proofs.YtgajoiijebbagaaGreatDoor
