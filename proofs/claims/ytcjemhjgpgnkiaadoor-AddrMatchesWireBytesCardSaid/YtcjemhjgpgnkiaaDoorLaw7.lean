/-
  The walk of the law AddrMatchesWireBytes: it returns true. Conditions: integers are 64-bit; the library's variables read as its text lays them.
-/
import Derived.Test.YtcjemhjgpgnkiaaDoorWalkM
import Derived.Test.YtcjemhjgpgnkiaaDoorPlainD
import Derived.Test.YtcjemhjgpgnkiaaDoorWire
namespace Go.Proofs.YtcjemhjgpgnkiaaDoor
open Go.RowKit

theorem conv2 (w : World) (o : Obj) (n : Int) : (convert 32 9 (.slice (some ⟨w.heap.size + 1, 0, none⟩) 1 1)).run Tryd.prog ((w.alloc o).alloc (.cells #[.int .u8 n] 5)) = .ok (.string ⟨#[UInt8.ofNat n.toNat]⟩) ((w.alloc o).alloc (.cells #[.int .u8 n] 5)) := by
  have h := conv1 (w.alloc o) n
  rwa [World.size_alloc] at h
theorem conv3 (w : World) (o p : Obj) (n : Int) : (convert 32 9 (.slice (some ⟨w.heap.size + 1 + 1, 0, none⟩) 1 1)).run Tryd.prog (((w.alloc o).alloc p).alloc (.cells #[.int .u8 n] 5)) = .ok (.string ⟨#[UInt8.ofNat n.toNat]⟩) (((w.alloc o).alloc p).alloc (.cells #[.int .u8 n] 5)) := by
  have h := conv2 (w.alloc o) p n
  rwa [World.size_alloc] at h
theorem bA (N : Nat) (h : N < 256) : (48 : UInt8) + UInt8.ofNat N % 10 = UInt8.ofNat (48 + N % 10) := by
  apply UInt8.toNat_inj.1
  simp
  omega
theorem bC (N : Nat) (h : N < 256) : (48 : UInt8) + UInt8.ofNat N / 100 = UInt8.ofNat (48 + N / 100) := by
  apply UInt8.toNat_inj.1
  simp
  omega
theorem bB (m : Nat) : (48 : UInt8) + UInt8.ofNat m = UInt8.ofNat (48 + m) := by
  rw [UInt8.ofNat_add]; rfl
theorem app1 (a : List UInt8) (x : UInt8) : ((⟨a.toArray⟩ : ByteArray) ++ (⟨#[x]⟩ : ByteArray)) = ⟨(a ++ [x]).toArray⟩ := app a [x]

/-- What the law has written behind k rounds. -/
def Pa.upTo (x : Int) : Nat → Pa.Bs
  | 0 => []
  | k + 1 => Pa.upTo x k ++ (if k = 0 then [] else [46]) ++ Pa.dig (Pa.oct x k)
theorem Pa.upTo_len (x : Int) : ∀ k : Nat, (Pa.upTo x k).length ≤ 4 * k
  | 0 => by simp [Pa.upTo]
  | k + 1 => by
    have := Pa.upTo_len x k
    have := Pa.dig_length (n := Pa.oct x k) (by have := Pa.oct_lt x k; omega)
    have h : (if k = 0 then ([] : Pa.Bs) else [46]).length ≤ 1 := by split <;> simp
    simp only [Pa.upTo, List.length_append]; omega
theorem Pa.upTo_four (x : Int) : Pa.upTo x 4 = Pa.fmtL x := by simp [Pa.upTo, Pa.fmtL]

theorem Pa.dig_two {n : Nat} (h1 : 10 ≤ n) (h2 : n < 100) : Pa.dig n = [UInt8.ofNat (48 + n / 10 % 10), UInt8.ofNat (48 + n % 10)] := by
  rw [Pa.dig_big (by omega), Pa.dig_small (by omega), show n / 10 % 10 = n / 10 by omega]; rfl
theorem Pa.dig_three {n : Nat} (h1 : 100 ≤ n) (h2 : n < 1000) : Pa.dig n = [UInt8.ofNat (48 + n / 100), UInt8.ofNat (48 + n / 10 % 10), UInt8.ofNat (48 + n % 10)] := by
  rw [Pa.dig_big (by omega), Pa.dig_two (by omega) (by omega), show n / 10 / 10 % 10 = n / 100 by omega]; rfl

set_option maxHeartbeats 2000000 in
set_option maxRecDepth 100000 in
theorem law7 (a : Int) (w : World) (ok : Ok w) (a0 : -9223372036854775808 ≤ a) (a1 : a ≤ 9223372036854775807) :
    Calls Tryd.prog 9 #[.int .i64 a] w fun e w' => e = .returned (.bool true) ∧ Below w.heap.size w w' := by
  have K0 := Lib.hid ok; clear ok
  have hcv1 := conv1; have hcv2 := conv2; have hcv3 := conv3
  go_enter Tryd.func9, Tryd.ntmps9
  go_wp2_with fail
  refine (examples_any _ K0.out).mono ?_
  rintro e' w1 ⟨rfl, hb⟩
  have B1 := Lib.hid hb
  have K1 := Lib.hid (K0.out.below hb)
  clear hb
  go_wp2_with fail
  refine (pick_any a 4294967296 _ a0 a1 (by omega) (by omega)).mono ?_
  rintro e' w' ⟨rfl, rfl⟩
  have x0 := Pa.pickI_lo a 4294967296 (by omega)
  have x1 := Pa.pickI_hi a 4294967296 (by omega)
  generalize hX : Pa.pickI a 4294967296 = X at *
  clear hX a0 a1
  go_wp2_with fail
  refine (put4 X _ (by omega) (by omega)).mono ?_
  rintro e' w2 ⟨rfl, hb⟩
  have B2 := Lib.hid (below_on B1.out hb)
  have K2 := Lib.hid (K0.out.below B2.out)
  clear hb
  generalize hS : (⟨#[UInt8.ofNat (Pa.oct X 0), UInt8.ofNat (Pa.oct X 1), UInt8.ofNat (Pa.oct X 2), UInt8.ofNat (Pa.oct X 3)]⟩ : ByteArray) = S
  have hsz : S.size = 4 := by rw [← hS]; rfl
  have hsi : ∀ (k : Nat) (h : k < S.size), S[k].toNat = Pa.oct X k := by
    subst hS
    intro k h
    have hk : k < 4 := h
    match k, hk with
    | 0, _ => show (UInt8.ofNat (Pa.oct X 0)).toNat = _; have := Pa.oct_lt X 0; simp; omega
    | 1, _ => show (UInt8.ofNat (Pa.oct X 1)).toNat = _; have := Pa.oct_lt X 1; simp; omega
    | 2, _ => show (UInt8.ofNat (Pa.oct X 2)).toNat = _; have := Pa.oct_lt X 2; simp; omega
    | 3, _ => show (UInt8.ofNat (Pa.oct X 3)).toNat = _; have := Pa.oct_lt X 3; simp; omega
  have HSZ := Lib.hid hsz; have HSI := Lib.hid hsi
  clear hS hsz hsi
  have hvx : Pa.validB X = true := Pa.validB_true.2 ⟨by omega, by omega⟩
  have hfx : Pa.fmtS X = Pa.fmtL X := by unfold Pa.fmtS; rw [hvx]; rfl
  have g1 : Pa.errB (Pa.validB X) = 0 := by rw [hvx]; rfl
  have g3 : Pa.parV (Pa.fmtL X) = X ∧ Pa.errB (Pa.parOk (Pa.fmtL X)) = 0 := by
    have := Pa.par_some (Pa.parse_fmt hvx)
    exact ⟨by rw [this.1]; omega, this.2⟩
  have G1 := Lib.hid g1; have G3 := Lib.hid g3; have GF := Lib.hid hfx
  clear g1 g3 hfx hvx
  go_wp2_with fail
  refine (format_any X _ K2.out).mono ?_
  rintro e' w3 ⟨rfl, hb⟩
  rw [G1.out, GF.out]
  have B3 := Lib.hid (below_on B2.out hb)
  clear hb
  go_wp2_with fail
  go_loopw [9, 10] (fun t i wr => ∃ k : Nat, k ≤ 4 ∧ i = .int .i64 k ∧ t = .string ⟨(Pa.upTo X k).toArray⟩ ∧ Below w.heap.size w wr) (fun _ i _ => 4 - (intOf i).toNat)
  case atStart => exact ⟨0, by omega, rfl, rfl, B3.out⟩
  case round =>
    obtain ⟨k, hk, rfl, rfl, hb⟩ := hrel
    have HB := Lib.hid hb; clear hb
    have hl := Pa.upTo_len X k
    by_cases hlt : k < 4
    · have hks : k < S.size := by rw [HSZ.out]; exact hlt
      have ho := Pa.oct_lt X k
      have hup : Pa.upTo X (k + 1) = Pa.upTo X k ++ (if k = 0 then [] else [46]) ++ Pa.dig (Pa.oct X k) := rfl
      have HUP := Lib.hid hup; clear hup
      go_wp2_with fail
      refine (get1 S k _ hks (by rw [HSZ.out]; omega)).mono ?_
      rintro e' w4 ⟨rfl, hb⟩
      rw [HSI.out k hks]
      have HB4 := Lib.hid (below_on HB.out hb)
      clear hb hks
      generalize hN : Pa.oct X k = N at *
      have hN' := Lib.hid hN; clear hN
      have hd1 : decide ((N : Int) < 0) = false := by simp
      have hd2 : decide (255 < (N : Int)) = false := by simp; omega
      generalize hU : Pa.upTo X k = U at *
      have hU' := Lib.hid hU; clear hU
      by_cases hk0 : k = 0
      · have hd3 : decide (0 < (k : Int)) = false := by simp; omega
        by_cases hn1 : N < 10
        · have hdg := Pa.dig_small hn1
          have HDG := Lib.hid hdg; clear hdg
          go_wp2_with fail
          go_roundw
          case rel => exact ⟨k + 1, by omega, by go_num, by rw [HUP.out, HDG.out]; rw [if_pos hk0, show 48 + N = 48 + N % 10 by omega, ← bA N ho]; simp [app1], (HB4.out.alloc HB4.out.size _)⟩
          case measure => simp [intOf]; omega
        · by_cases hn2 : N < 100
          · have hdg := Pa.dig_two (n := N) (by omega) hn2
            have HDG := Lib.hid hdg; clear hdg
            go_wp2_with fail
            go_roundw
            case rel => exact ⟨k + 1, by omega, by go_num, by rw [HUP.out, HDG.out]; rw [if_pos hk0, ← bA N ho, ← bB (N / 10 % 10)]; simp [app1], ((HB4.out.alloc HB4.out.size _).alloc (by simp; have := HB4.out.size; omega) _)⟩
            case measure => simp [intOf]; omega
          · have hdg := Pa.dig_three (n := N) (by omega) (by omega)
            have HDG := Lib.hid hdg; clear hdg
            go_wp2_with fail
            go_roundw
            case rel => exact ⟨k + 1, by omega, by go_num, by rw [HUP.out, HDG.out]; rw [if_pos hk0, ← bA N ho, ← bB (N / 10 % 10), ← bC N ho]; simp [app1], (((HB4.out.alloc HB4.out.size _).alloc (by simp; have := HB4.out.size; omega) _).alloc (by simp; have := HB4.out.size; omega) _)⟩
            case measure => simp [intOf]; omega
      · have hd3 : decide (0 < (k : Int)) = true := by simp; omega
        by_cases hn1 : N < 10
        · have hdg := Pa.dig_small hn1
          have HDG := Lib.hid hdg; clear hdg
          go_wp2_with fail
          go_roundw
          case rel => exact ⟨k + 1, by omega, by go_num, by rw [HUP.out, HDG.out]; rw [if_neg hk0, show 48 + N = 48 + N % 10 by omega, ← bA N ho]; simp [app1], (HB4.out.alloc HB4.out.size _)⟩
          case measure => simp [intOf]; omega
        · by_cases hn2 : N < 100
          · have hdg := Pa.dig_two (n := N) (by omega) hn2
            have HDG := Lib.hid hdg; clear hdg
            go_wp2_with fail
            go_roundw
            case rel => exact ⟨k + 1, by omega, by go_num, by rw [HUP.out, HDG.out]; rw [if_neg hk0, ← bA N ho, ← bB (N / 10 % 10)]; simp [app1], ((HB4.out.alloc HB4.out.size _).alloc (by simp; have := HB4.out.size; omega) _)⟩
            case measure => simp [intOf]; omega
          · have hdg := Pa.dig_three (n := N) (by omega) (by omega)
            have HDG := Lib.hid hdg; clear hdg
            go_wp2_with fail
            go_roundw
            case rel => exact ⟨k + 1, by omega, by go_num, by rw [HUP.out, HDG.out]; rw [if_neg hk0, ← bA N ho, ← bB (N / 10 % 10), ← bC N ho]; simp [app1], (((HB4.out.alloc HB4.out.size _).alloc (by simp; have := HB4.out.size; omega) _).alloc (by simp; have := HB4.out.size; omega) _)⟩
            case measure => simp [intOf]; omega
    · obtain rfl : k = 4 := by omega
      rw [Pa.upTo_four] at hl ⊢
      go_wp2_with fail
      refine (parse_any _ _ (by simp [ByteArray.size]; omega) (K0.out.below HB.out)).mono ?_
      rintro e' w5 ⟨rfl, hb⟩
      rw [G3.out.1, G3.out.2]
      have B5 := Lib.hid (below_on HB.out hb)
      clear hb
      go_wp2_with fail
      go_ret
      exact ⟨rfl, B5.out⟩

end Go.Proofs.YtcjemhjgpgnkiaaDoor
