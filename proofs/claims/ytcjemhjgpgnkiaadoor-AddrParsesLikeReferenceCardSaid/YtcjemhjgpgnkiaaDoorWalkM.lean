/-
  The walk of the law's own examples: they hold. Conditions: the library's variables read as its text lays them.
-/
import Derived.Test.YtcjemhjgpgnkiaaDoorWalkL
namespace Go.Proofs.YtcjemhjgpgnkiaaDoor
open Go.RowKit

theorem Pa.dig10 : Pa.dig 10 = [49, 48] := by rw [Pa.dig_big (by omega), Pa.dig_small (by omega)]; rfl
theorem Pa.dig0 : Pa.dig 0 = [48] := by rw [Pa.dig_small (by omega)]; rfl
theorem Pa.dig1 : Pa.dig 1 = [49] := by rw [Pa.dig_small (by omega)]; rfl
theorem Pa.dig8 : Pa.dig 8 = [56] := by rw [Pa.dig_small (by omega)]; rfl
theorem Pa.fmt_ex (a : Int) (p q r s : Nat) (h : Pa.oct a 0 = p ∧ Pa.oct a 1 = q ∧ Pa.oct a 2 = r ∧ Pa.oct a 3 = s) : Pa.fmtL a = Pa.dig p ++ 46 :: (Pa.dig q ++ 46 :: (Pa.dig r ++ 46 :: Pa.dig s)) := by
  unfold Pa.fmtL; rw [h.1, h.2.1, h.2.2.1, h.2.2.2]

def str1 : ByteArray := ⟨#[49, 48, 46, 48, 46, 48, 46, 49]⟩
theorem Pa.ex1 : Pa.fmtS 167772161 = ([49, 48, 46, 48, 46, 48, 46, 49] : Pa.Bs) := by
  unfold Pa.fmtS; rw [if_pos (by decide), Pa.fmt_ex 167772161 10 0 0 1 (by decide), Pa.dig10, Pa.dig0, Pa.dig1]; rfl
theorem Pa.ex2 : Pa.parseL ([49, 48, 46, 48, 46, 48, 46, 49] : Pa.Bs) = some 167772161 := by
  have h := Pa.parse_fmt (a := 167772161) (by decide)
  rw [show Pa.fmtL 167772161 = ([49, 48, 46, 48, 46, 48, 46, 49] : Pa.Bs) by rw [← Pa.ex1]; rfl] at h
  exact h
theorem Pa.ex3f : Pa.fmtP 167772160 8 = ([49, 48, 46, 48, 46, 48, 46, 48, 47, 56] : Pa.Bs) := by
  unfold Pa.fmtP; rw [if_pos (by decide), Pa.fmt_ex 167772160 10 0 0 0 (by decide), show (8 : Int).toNat = 8 from rfl, Pa.dig10, Pa.dig0, Pa.dig8]; rfl
theorem Pa.ex3 : Pa.parseP ([49, 48, 46, 48, 46, 48, 46, 48, 47, 56] : Pa.Bs) = some (167772160, 8) := by
  have h := Pa.parse_fmtP (a := 167772160) (b := 8) (by decide)
  rw [Pa.ex3f] at h
  exact h
theorem Pa.ex5 : Pa.parseP ([49, 48, 46, 48, 46, 48, 46, 49, 47, 56] : Pa.Bs) = none := by
  rw [Pa.parseP_at (k := 8) (by decide) (by decide)]
  rw [show List.take 8 ([49, 48, 46, 48, 46, 48, 46, 49, 47, 56] : Pa.Bs) = ([49, 48, 46, 48, 46, 48, 46, 49] : Pa.Bs) from rfl, Pa.ex2]
  rw [show List.drop (8 + 1) ([49, 48, 46, 48, 46, 48, 46, 49, 47, 56] : Pa.Bs) = Pa.dig 8 by rw [Pa.dig8]; rfl, Pa.numL_dig (by omega)]
  rfl
theorem Pa.ex6 : Pa.parseL ([49, 46, 50, 46, 51] : Pa.Bs) = none := Pa.parseL_many (by decide)
theorem Pa.ex7 : Pa.parseL ([48, 49, 46, 50, 46, 51, 46, 52] : Pa.Bs) = none := Pa.parseL_bad (x := [48, 49]) (by decide) (Pa.numL_zero (by decide))
theorem Pa.ex8 : Pa.parseL ([49, 46, 50, 46, 51, 46, 50, 53, 54] : Pa.Bs) = none := Pa.parseL_bad (x := [50, 53, 54]) (by decide) (Pa.numL_big (by decide))

theorem exF1 (w : World) (ok : Ok w) : Calls Tryd.prog 20 #[.int .i64 167772161] w fun e w' => e = .returned (.tuple #[.string ⟨#[49, 48, 46, 48, 46, 48, 46, 49]⟩, .int .i64 0]) ∧ Below w.heap.size w w' := by
  have h := format_any 167772161 w ok
  rw [Pa.ex1] at h
  exact h
theorem exF2 (w : World) (ok : Ok w) : Calls Tryd.prog 20 #[.int .i64 (-1)] w fun e w' => e = .returned (.tuple #[.string ⟨#[]⟩, .int .i64 30]) ∧ Below w.heap.size w w' := format_any (-1) w ok
theorem exP (s : ByteArray) (l : Pa.Bs) (w : World) (ok : Ok w) (hs : s.data.toList = l) (hl : s.size ≤ 1000000) (h : Pa.parseL l = none) : Calls Tryd.prog 16 #[.string s] w fun e w' => e = .returned (.tuple #[.int .i64 0, .int .i64 30]) ∧ Below w.heap.size w w' := by
  have h' := parse_any s w hl ok
  rw [hs, (Pa.par_none h).1, (Pa.par_none h).2] at h'
  exact h'
theorem exP1 (w : World) (ok : Ok w) : Calls Tryd.prog 16 #[.string ⟨#[49, 48, 46, 48, 46, 48, 46, 49]⟩] w fun e w' => e = .returned (.tuple #[.int .i64 167772161, .int .i64 0]) ∧ Below w.heap.size w w' := by
  have h' := parse_any ⟨#[49, 48, 46, 48, 46, 48, 46, 49]⟩ w (by decide) ok
  rw [show (⟨#[49, 48, 46, 48, 46, 48, 46, 49]⟩ : ByteArray).data.toList = ([49, 48, 46, 48, 46, 48, 46, 49] : Pa.Bs) from rfl, (Pa.par_some Pa.ex2).1, (Pa.par_some Pa.ex2).2] at h'
  exact h'
theorem exPP1 (w : World) (ok : Ok w) : Calls Tryd.prog 18 #[.string ⟨#[49, 48, 46, 48, 46, 48, 46, 48, 47, 56]⟩] w fun e w' => e = .returned (.tuple #[.agg #[.int .i64 167772160, .int .i64 8], .int .i64 0]) ∧ Below w.heap.size w w' := by
  have h' := parsePrefix_any ⟨#[49, 48, 46, 48, 46, 48, 46, 48, 47, 56]⟩ w (by decide) ok
  have e := Pa.pp_some Pa.ex3
  rw [show (⟨#[49, 48, 46, 48, 46, 48, 46, 48, 47, 56]⟩ : ByteArray).data.toList = ([49, 48, 46, 48, 46, 48, 46, 48, 47, 56] : Pa.Bs) from rfl, e.1, e.2.1, e.2.2] at h'
  exact h'
theorem exPP2 (w : World) (ok : Ok w) : Calls Tryd.prog 18 #[.string ⟨#[49, 48, 46, 48, 46, 48, 46, 49, 47, 56]⟩] w fun e w' => e = .returned (.tuple #[.agg #[.int .i64 0, .int .i64 0], .int .i64 30]) ∧ Below w.heap.size w w' := by
  have h' := parsePrefix_any ⟨#[49, 48, 46, 48, 46, 48, 46, 49, 47, 56]⟩ w (by decide) ok
  have e := Pa.pp_none Pa.ex5
  rw [show (⟨#[49, 48, 46, 48, 46, 48, 46, 49, 47, 56]⟩ : ByteArray).data.toList = ([49, 48, 46, 48, 46, 48, 46, 49, 47, 56] : Pa.Bs) from rfl, e.1, e.2.1, e.2.2] at h'
  exact h'
theorem exFP (w : World) (ok : Ok w) : Calls Tryd.prog 21 #[.agg #[.int .i64 167772160, .int .i64 8]] w fun e w' => e = .returned (.tuple #[.string ⟨#[49, 48, 46, 48, 46, 48, 46, 48, 47, 56]⟩, .int .i64 0]) ∧ Below w.heap.size w w' := by
  have h := formatPrefix_any 167772160 8 w ok
  rw [Pa.ex3f, show Pa.validP 167772160 8 = true by decide] at h
  exact h
theorem exC1 (w : World) : Calls Tryd.prog 24 #[.agg #[.int .i64 167772160, .int .i64 8], .int .i64 167772161] w fun e w' => e = .returned (.bool true) ∧ Below w.heap.size w w' := Calls.eqv (congrArg Value.bool (by decide)) (contains_any 167772160 8 167772161 w)
theorem exC2 (w : World) : Calls Tryd.prog 24 #[.agg #[.int .i64 167772160, .int .i64 8], .int .i64 184549376] w fun e w' => e = .returned (.bool false) ∧ Below w.heap.size w w' := Calls.eqv (congrArg Value.bool (by decide)) (contains_any 167772160 8 184549376 w)
theorem exL (w : World) : Calls Tryd.prog 22 #[.agg #[.int .i64 167772160, .int .i64 8]] w fun e w' => e = .returned (.int .i64 184549375) ∧ Below w.heap.size w w' := Calls.eqv (congrArg (Value.int .i64) (by decide)) (last_any 167772160 8 w)
theorem exV1 (w : World) : Calls Tryd.prog 27 #[.int .i64 0] w fun e w' => e = .returned (.bool true) ∧ w = w' := valid_any 0 w
theorem exV2 (w : World) : Calls Tryd.prog 27 #[.int .i64 4294967295] w fun e w' => e = .returned (.bool true) ∧ w = w' := valid_any 4294967295 w
theorem exV3 (w : World) : Calls Tryd.prog 27 #[.int .i64 4294967296] w fun e w' => e = .returned (.bool false) ∧ w = w' := valid_any 4294967296 w
theorem exVP1 (w : World) : Calls Tryd.prog 23 #[.agg #[.int .i64 167772160, .int .i64 8]] w fun e w' => e = .returned (.bool true) ∧ Below w.heap.size w w' := Calls.eqv (congrArg Value.bool (by decide)) (validPrefix_any 167772160 8 w)
theorem exVP2 (w : World) : Calls Tryd.prog 23 #[.agg #[.int .i64 1, .int .i64 0]] w fun e w' => e = .returned (.bool false) ∧ Below w.heap.size w w' := Calls.eqv (congrArg Value.bool (by decide)) (validPrefix_any 1 0 w)

set_option maxHeartbeats 1000000 in
set_option maxRecDepth 100000 in
theorem examples_any (w : World) (ok : Ok w) : Calls Tryd.prog 10 #[] w fun e w' => e = .returned (.bool true) ∧ Below w.heap.size w w' := by
  have K0 := Lib.hid ok; clear ok
  have B0 := Lib.hid (Below.refl w.heap.size w)
  go_enter Tryd.func10, Tryd.ntmps10
  go_wp2_with fail
  refine (exF1 _ K0.out).mono ?_
  rintro e w1 ⟨rfl, hb⟩
  have B1 := Lib.hid (below_on B0.out hb)
  have K1 := Lib.hid (K0.out.below B1.out)
  clear hb
  go_wp2_with fail
  refine (exP1 _ K1.out).mono ?_
  rintro e w2 ⟨rfl, hb⟩
  have B2 := Lib.hid (below_on B1.out hb)
  have K2 := Lib.hid (K0.out.below B2.out)
  clear hb
  go_wp2_with fail
  refine (exPP1 _ K2.out).mono ?_
  rintro e w3 ⟨rfl, hb⟩
  have B3 := Lib.hid (below_on B2.out hb)
  have K3 := Lib.hid (K0.out.below B3.out)
  clear hb
  have A3 := Lib.hid (K3.out.below (((Below.refl _ _).alloc (Nat.le_refl _) (.cells #[.int .i64 167772160, .int .i64 8] 23))))
  go_wp2_with fail
  refine (exFP _ A3.out).mono ?_
  rintro e w4 ⟨rfl, hb⟩
  have z4 := hb.size
  simp only [World.size_alloc] at z4
  have c40 : w4.cell? ⟨w3.heap.size, 0, none⟩ = some (.int .i64 167772160) := cell_below hb (by simp) (by simp)
  have c41 : w4.cell? ⟨w3.heap.size, 1, none⟩ = some (.int .i64 8) := cell_below hb (by simp) (by simp)
  have B4 := Lib.hid (below_on (B3.out.alloc B3.out.size _) hb)
  have K4 := Lib.hid (K0.out.below B4.out)
  clear hb
  go_wp2_with fail
  refine (exPP2 _ K4.out).mono ?_
  rintro e w5 ⟨rfl, hb⟩
  have z5 := hb.size
  have c50 := cell_below hb (by omega) c40
  have c51 := cell_below hb (by omega) c41
  clear c40 c41
  have B5 := Lib.hid (below_on B4.out hb)
  have K5 := Lib.hid (K0.out.below B5.out)
  clear hb
  have A5 := Lib.hid (K5.out.below (((Below.refl _ _).alloc (Nat.le_refl _) (.cells #[.int .i64 0, .int .i64 0] 23))))
  go_wp2_with fail
  refine (exP ⟨#[49, 46, 50, 46, 51]⟩ ([49, 46, 50, 46, 51] : Pa.Bs) _ A5.out rfl (by decide) Pa.ex6).mono ?_
  rintro e w6 ⟨rfl, hb⟩
  have z6 := hb.size
  simp only [World.size_alloc] at z6
  have c60 := cell_below hb (by simp; omega) (cell_old _ (by omega) c50)
  have c61 := cell_below hb (by simp; omega) (cell_old _ (by omega) c51)
  clear c50 c51
  have B6 := Lib.hid (below_on (B5.out.alloc B5.out.size _) hb)
  have K6 := Lib.hid (K0.out.below B6.out)
  clear hb
  go_wp2_with fail
  refine (exP ⟨#[48, 49, 46, 50, 46, 51, 46, 52]⟩ ([48, 49, 46, 50, 46, 51, 46, 52] : Pa.Bs) _ K6.out rfl (by decide) Pa.ex7).mono ?_
  rintro e w7 ⟨rfl, hb⟩
  have z7 := hb.size
  have c70 := cell_below hb (by omega) c60
  have c71 := cell_below hb (by omega) c61
  clear c60 c61
  have B7 := Lib.hid (below_on B6.out hb)
  have K7 := Lib.hid (K0.out.below B7.out)
  clear hb
  go_wp2_with fail
  refine (exP ⟨#[49, 46, 50, 46, 51, 46, 50, 53, 54]⟩ ([49, 46, 50, 46, 51, 46, 50, 53, 54] : Pa.Bs) _ K7.out rfl (by decide) Pa.ex8).mono ?_
  rintro e w8 ⟨rfl, hb⟩
  have z8 := hb.size
  have c80 := cell_below hb (by omega) c70
  have c81 := cell_below hb (by omega) c71
  clear c70 c71
  have B8 := Lib.hid (below_on B7.out hb)
  have K8 := Lib.hid (K0.out.below B8.out)
  clear hb
  go_wp2_with fail
  refine (exF2 _ K8.out).mono ?_
  rintro e w9 ⟨rfl, hb⟩
  have z9 := hb.size
  have c90 := cell_below hb (by omega) c80
  have c91 := cell_below hb (by omega) c81
  clear c80 c81
  have B9 := Lib.hid (below_on B8.out hb)
  have K9 := Lib.hid (K0.out.below B9.out)
  clear hb
  go_wp2_with fail
  refine (exC1 _).mono ?_
  rintro e w10 ⟨rfl, hb⟩
  have z10 := hb.size
  have c100 := cell_below hb (by omega) c90
  have c101 := cell_below hb (by omega) c91
  clear c90 c91
  have B10 := Lib.hid (below_on B9.out hb)
  have K10 := Lib.hid (K0.out.below B10.out)
  clear hb
  go_wp2_with fail
  refine (exC2 _).mono ?_
  rintro e w11 ⟨rfl, hb⟩
  have z11 := hb.size
  have c110 := cell_below hb (by omega) c100
  have c111 := cell_below hb (by omega) c101
  clear c100 c101
  have B11 := Lib.hid (below_on B10.out hb)
  have K11 := Lib.hid (K0.out.below B11.out)
  clear hb
  go_wp2_with fail
  refine (exL _).mono ?_
  rintro e w12 ⟨rfl, hb⟩
  have z12 := hb.size
  have c120 := cell_below hb (by omega) c110
  have c121 := cell_below hb (by omega) c111
  clear c110 c111
  have B12 := Lib.hid (below_on B11.out hb)
  have K12 := Lib.hid (K0.out.below B12.out)
  clear hb
  go_wp2_with fail
  refine (exV1 _).mono ?_
  rintro e w' ⟨rfl, rfl⟩
  go_wp2_with fail
  refine (exV2 _).mono ?_
  rintro e w' ⟨rfl, rfl⟩
  go_wp2_with fail
  refine (exV3 _).mono ?_
  rintro e w' ⟨rfl, rfl⟩
  go_wp2_with fail
  refine (exVP1 _).mono ?_
  rintro e w13 ⟨rfl, hb⟩
  have z13 := hb.size
  have c130 := cell_below hb (by omega) c120
  have c131 := cell_below hb (by omega) c121
  clear c120 c121
  have B13 := Lib.hid (below_on B12.out hb)
  have K13 := Lib.hid (K0.out.below B13.out)
  clear hb
  go_wp2_with fail
  refine (exVP2 _).mono ?_
  rintro e w14 ⟨rfl, hb⟩
  have z14 := hb.size
  have c140 := cell_below hb (by omega) c130
  have c141 := cell_below hb (by omega) c131
  clear c130 c131
  have B14 := Lib.hid (below_on B13.out hb)
  have K14 := Lib.hid (K0.out.below B14.out)
  clear hb
  go_wp2_with fail
  go_ret
  exact ⟨rfl, B14.out⟩

end Go.Proofs.YtcjemhjgpgnkiaaDoor
