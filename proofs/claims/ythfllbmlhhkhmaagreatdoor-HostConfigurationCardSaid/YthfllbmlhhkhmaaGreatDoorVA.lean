/-
  Prefixes of addresses: when they are valid and what they hold, in the program and in the document. Conditions: none.
-/
import Derived.Test.YthfllbmlhhkhmaaGreatDoorProg
import Derived.Laws.BitsLemmas
import Derived.Laws.BitsAllLaws
import Derived.Lib.QuoteBits
import Derived.WalkKit
import Derived.WalkSpells
import Derived.WalkLawsBesides
import Derived.Deep.QuietTactic
import Derived.BigQuiet
import Derived.Lib.Hide
import Derived.Test.YthfllbmlhhkhmaaGreatDoorAxE
namespace Go.Proofs.YthfllbmlhhkhmaaGreatDoor.Pa

def validB (a : Int) : Bool := decide (0 ≤ a ∧ a ≤ 4294967295)

theorem validB_true {a : Int} : validB a = true ↔ 0 ≤ a ∧ a ≤ 4294967295 := by simp [validB]

theorem validB_false {a : Int} : validB a = false ↔ ¬ (0 ≤ a ∧ a ≤ 4294967295) := by simp [validB]

end Go.Proofs.YthfllbmlhhkhmaaGreatDoor.Pa

namespace Go.Proofs.YthfllbmlhhkhmaaGreatDoor.Pa

/-! ## splitting at dots -/

def pw (b : Int) : Nat := 2 ^ (32 - b).toNat

theorem pw_pos (b : Int) : 1 ≤ pw b := Nat.one_le_two_pow

def validP (a b : Int) : Bool := validB a && decide (0 ≤ b ∧ b ≤ 32) && decide (a % (pw b : Int) = 0)

def containsP (a b x : Int) : Bool := validP a b && validB x && decide (x / (pw b : Int) = a / (pw b : Int))

theorem validP_true {a b : Int} : validP a b = true ↔ (0 ≤ a ∧ a ≤ 4294967295) ∧ (0 ≤ b ∧ b ≤ 32) ∧ a % (pw b : Int) = 0 := by
  simp [validP, validB, and_assoc]

def pwr (k : Nat) : Nat := 2 ^ k

theorem pwr_succ (k : Nat) : pwr (k + 1) = 2 * pwr k := by unfold pwr; rw [Nat.pow_succ, Nat.mul_comm]

theorem pwr_le (k : Nat) (h : k ≤ 32) : pwr k ≤ 4294967296 := Nat.pow_le_pow_right (by omega : 0 < 2) h

theorem pwr_pw (m : Nat) (h : m ≤ 32) : pwr (32 - m) = pw (m : Int) := by unfold pwr pw; congr 1; omega

/-! ## the last bits -/

theorem pw_dvd (b : Int) (h0 : 0 ≤ b) (h1 : b ≤ 32) : (4294967296 : Int) % (pw b : Int) = 0 := by
  obtain ⟨n, rfl⟩ := Int.eq_ofNat_of_zero_le h0
  have : ∀ n : Nat, n ≤ 32 → (4294967296 : Int) % (pw n : Int) = 0 := by decide
  exact this n (by omega)

theorem pw_le (b : Int) (h0 : 0 ≤ b) (h1 : b ≤ 32) : pw b ≤ 4294967296 := by
  obtain ⟨n, rfl⟩ := Int.eq_ofNat_of_zero_le h0
  have : ∀ n : Nat, n ≤ 32 → pw n ≤ 4294967296 := by decide
  exact this n (by omega)

theorem pw_succ (b : Int) (h0 : 0 ≤ b) (h1 : b < 32) : pw b = 2 * pw (b + 1) := by
  unfold pw
  rw [show (32 - b).toNat = (32 - (b + 1)).toNat + 1 by omega, Nat.pow_succ, Nat.mul_comm]

end Go.Proofs.YthfllbmlhhkhmaaGreatDoor.Pa

namespace Go.Proofs.YthfllbmlhhkhmaaGreatDoor.Pa

open Go

theorem wraps_i64 (n : Int) (h₀ : 0 ≤ n) (h₁ : n < 2 ^ 62) : IntKind.i64.wrap n = n := by rw [IntKind.wrap_i64]; omega

theorem and_mask (x : Int) (i : Nat) (hi : i ≤ 62) (h0 : 0 ≤ x) (h1 : x < 2 ^ 62) : bits .and .i64 x (2 ^ i - 1) = x % 2 ^ i :=
  bits_mask .i64 62 (by decide) wraps_i64 i hi x h0 h1

theorem or_join (x y : Int) (i : Nat) (hx₀ : 0 ≤ x) (hx : x % 2 ^ i = 0) (hx₁ : x < 2 ^ 62) (hy₀ : 0 ≤ y) (hy : y < 2 ^ i) (hy₁ : y < 2 ^ 62) : bits .or .i64 x y = x + y :=
  bits_join .i64 62 (by decide) wraps_i64 i x y hx₀ hx hx₁ hy₀ hy hy₁

theorem andNot_mask (x : Int) (i : Nat) (hi : i ≤ 62) (h0 : 0 ≤ x) (h1 : x < 2 ^ 62) : bits .andNot .i64 x (2 ^ i - 1) = x - x % 2 ^ i := by
  obtain ⟨n, rfl⟩ := Int.eq_ofNat_of_zero_le h0
  have hn : n < 2 ^ 62 := by exact_mod_cast h1
  have hpos : 0 < 2 ^ i := Nat.two_pow_pos i
  have hp : 2 ^ i ≤ 2 ^ 62 := Nat.pow_le_pow_right (by decide) hi
  have hc : ((2 : Int) ^ i - 1) = ((2 ^ i - 1 : Nat) : Int) := by rw [Int.natCast_sub hpos]; simp
  rw [hc]
  show IntKind.i64.wrap ((BitVec.ofInt 64 (n : Int) &&& ~~~BitVec.ofInt 64 ((2 ^ i - 1 : Nat) : Int)).toNat : Int) = _
  rw [BitVec.toNat_and, BitVec.toNat_not, ofInt_u64 n (by omega), ofInt_u64 (2 ^ i - 1) (by omega)]
  have e : 2 ^ 64 - 1 - (2 ^ i - 1) = 2 ^ 64 - 2 ^ i := by omega
  rw [e, nat_midmask 64 i n (by omega), Nat.mod_eq_of_lt (show n < 2 ^ 64 by omega)]
  have hd := Nat.div_add_mod n (2 ^ i)
  have hm : n / 2 ^ i * 2 ^ i = n - n % 2 ^ i := by rw [Nat.mul_comm]; omega
  rw [hm, Lib.wrap_i64_small _ (by omega)]
  have : n % 2 ^ i ≤ n := Nat.mod_le _ _
  rw [Int.natCast_sub this]
  simp

theorem pw_int (b : Int) : (pw b : Int) = 2 ^ (32 - b).toNat := by unfold pw; simp

theorem pwBound (x : Int) (h : x ≤ 4294967296) : x < 2 ^ 62 := by omega

theorem and_pw (a b : Int) (h : 0 ≤ a ∧ a ≤ 4294967295) (_b0 : 0 ≤ b) (_b1 : b ≤ 32) : bits .and .i64 a ((pw b : Int) - 1) = a % (pw b : Int) := by
  rw [pw_int]; exact and_mask a _ (by omega) h.1 (by omega)

theorem andNot_pw (a b : Int) (h : 0 ≤ a ∧ a ≤ 4294967295) (_b0 : 0 ≤ b) (_b1 : b ≤ 32) : bits .andNot .i64 a ((pw b : Int) - 1) = a - a % (pw b : Int) := by
  rw [pw_int]; exact andNot_mask a _ (by omega) h.1 (by omega)

theorem validP_eq (a b : Int) (hv : validB a = true) (b0 : 0 ≤ b) (b1 : b ≤ 32) : (bits .and .i64 a ((pw b : Int) - 1) == 0) = validP a b := by
  have h := validB_true.1 hv
  rw [and_pw a b h b0 b1, Bool.eq_iff_iff, beq_iff_eq, validP_true]
  exact ⟨fun e => ⟨h, ⟨b0, b1⟩, e⟩, fun e => e.2.2⟩

theorem containsP_eq (a b x : Int) (hp : validP a b = true) (hv : validB x = true) : (bits .andNot .i64 x ((pw b : Int) - 1) == a) = containsP a b x := by
  have hx := validB_true.1 hv
  obtain ⟨ha, hb, hz⟩ := validP_true.1 hp
  have h1 : (1 : Int) ≤ (pw b : Int) := by have := pw_pos b; omega
  rw [andNot_pw x b hx hb.1 hb.2, Bool.eq_iff_iff, beq_iff_eq]
  simp only [containsP, hp, hv, Bool.true_and, decide_eq_true_eq]
  have d1 := Int.mul_ediv_add_emod x (pw b : Int)
  have d2 := Int.mul_ediv_add_emod a (pw b : Int)
  generalize (pw b : Int) = p at *
  constructor
  · intro e
    have : p * (x / p) = p * (a / p) := by omega
    exact Int.eq_of_mul_eq_mul_left (by omega) this
  · intro e
    rw [e] at d1; omega

theorem refValidP_eq (a b : Int) (hv : validB a = true) (b0 : 0 ≤ b) (b1 : b ≤ 32) : (a % (pw b : Int) == 0) = validP a b := by
  have h := validB_true.1 hv
  rw [Bool.eq_iff_iff, beq_iff_eq, validP_true]
  exact ⟨fun e => ⟨h, ⟨b0, b1⟩, e⟩, fun e => e.2.2⟩

theorem refContainsP_eq (a b x : Int) (hp : validP a b = true) (hv : validB x = true) : (x / (pw b : Int) == a / (pw b : Int)) = containsP a b x := by
  rw [Bool.eq_iff_iff, beq_iff_eq]
  simp [containsP, hp, hv]

end Go.Proofs.YthfllbmlhhkhmaaGreatDoor.Pa

namespace Go.Proofs.YthfllbmlhhkhmaaGreatDoor

open Go Go.RowKit

/-- A world that meets S. -/
structure Lat (S : World → Prop) where
  u : World
  h : S u

theorem Lat.mk_eq {S : World → Prop} {u : World} (h : S u) : ∃ x : Lat S, u = x.u := ⟨⟨u, h⟩, rfl⟩

theorem wp_region_lat {P : Program} (S : World → Prop) {id : Nat} {Q : Exit → Act → World → Prop} {a : Act} {w : World} {l : List Oper} (hm : P.follows .mixedOrders = true) (hB : Region.lexB .any l.toArray = true) (hS : S w.drew)
    (h : wpQuiet P l.toArray (fun w' => ∃ x : Lat S, w' = x.u) (fun a' => ∀ w', (∃ x : Lat S, w' = x.u) → Q .normal a' w') l a) : (Code.region id l.toArray true).wp P Q a w :=
  wp_region_quiet (C := fun w' => ∃ x : Lat S, w' = x.u) hm hB ⟨⟨_, hS⟩, rfl⟩ (by simpa using h)

/-- A contract at a call inside such a statement. -/
theorem Calls.lat {P : Program} {f : FuncId} {args : Array Value} {S : World → Prop} {x : Lat S} {v : Value} {R : Ending → World → Prop}
    (h : Calls P f args x.u R) (hv : ∀ e w', R e w' → e = .returned v ∧ S w') : Calls P f args x.u fun e w'' => e = .returned v ∧ ∃ y : Lat S, w'' = y.u :=
  h.mono fun e w' hr => ⟨(hv e w' hr).1, ⟨w', (hv e w' hr).2⟩, rfl⟩

/-- Below w's end nothing has changed. -/
theorem below_on {w u u' : World} (h : Below w.heap.size w u) (k : Below u.heap.size u u') : Below w.heap.size w u' := h.trans (k.mono h.size)

theorem bcell {W w1 : World} (hb : Below W.heap.size W w1) : (∀ b o, b < W.heap.size → w1.cell? ⟨b, o, none⟩ = W.cell? ⟨b, o, none⟩) ∧ (∀ b o, b < W.heap.size → w1.frozen? ⟨b, o, none⟩ = W.frozen? ⟨b, o, none⟩) :=
  ⟨fun b o h => hb.cell (p := ⟨b, o, none⟩) h, fun b o h => hb.frozen (p := ⟨b, o, none⟩) h⟩

/-- A cell that holds v, in every later world. -/
theorem Lat.cell {w : World} (x : Lat (Below w.heap.size w)) {b o : Nat} {v : Value} (hb : b < w.heap.size) (h : w.cell? ⟨b, o, none⟩ = some v) : x.u.cell? ⟨b, o, none⟩ = some v := by rw [x.h.cell (p := ⟨b, o, none⟩) hb, h]

theorem cell_old {w : World} (o : Obj) {b k : Nat} {v : Value} (hb : b < w.heap.size) (h : w.cell? ⟨b, k, none⟩ = some v) : (w.alloc o).cell? ⟨b, k, none⟩ = some v := by
  rw [((Below.refl w.heap.size w).alloc (Nat.le_refl _) o).cell (p := ⟨b, k, none⟩) hb, h]

theorem cell_below {w w' : World} {b k : Nat} {v : Value} (hw : Below w.heap.size w w') (hb : b < w.heap.size) (h : w.cell? ⟨b, k, none⟩ = some v) : w'.cell? ⟨b, k, none⟩ = some v := by
  rw [hw.cell (p := ⟨b, k, none⟩) hb, h]

/-- The same law at the class 'what was there is unchanged', the world behind a name. -/
theorem wp_region_below {P : Program} {id : Nat} {Q : Exit → Act → World → Prop} {a : Act} {w : World} {l : List Oper} (hm : P.follows .mixedOrders = true) (hB : Region.lexB .any l.toArray = true)
    (h : ∀ W, W = w → wpQuiet P l.toArray (fun w' => ∃ x : Lat (Below W.heap.size W), w' = x.u) (fun a' => ∀ w', (∃ x : Lat (Below W.heap.size W), w' = x.u) → Q .normal a' w') l a) : (Code.region id l.toArray true).wp P Q a w :=
  wp_region_lat (Below w.heap.size w) hm hB (Below.refl _ _).drew (h w rfl)

instance latBelow (W : World) : Nonempty (Lat (Below W.heap.size W)) := ⟨⟨W, Below.refl _ _⟩⟩

/-- A contract that makes memory, or draws, or does neither, at a call inside such a statement. -/
theorem Calls.below {P : Program} {f : FuncId} {args : Array Value} {W : World} {x : Lat (Below W.heap.size W)} {v : Value}
    (h : Calls P f args x.u fun e w' => e = .returned v ∧ Below x.u.heap.size x.u w') : Calls P f args x.u fun e w'' => e = .returned v ∧ ∃ y : Lat (Below W.heap.size W), w'' = y.u :=
  h.mono fun _ w' hr => ⟨hr.1, ⟨w', below_on x.h hr.2⟩, rfl⟩

theorem Calls.same {P : Program} {f : FuncId} {args : Array Value} {W : World} {x : Lat (Below W.heap.size W)} {v : Value}
    (h : Calls P f args x.u fun e w' => e = .returned v ∧ x.u = w') : Calls P f args x.u fun e w'' => e = .returned v ∧ ∃ y : Lat (Below W.heap.size W), w'' = y.u :=
  h.mono fun _ _ hr => ⟨hr.1, x, hr.2.symm⟩

theorem Calls.eqv {P : Program} {f : FuncId} {args : Array Value} {w : World} {v v' : Value} {R : World → Prop} (e : v = v') (h : Calls P f args w fun e w' => e = .returned v ∧ R w') : Calls P f args w fun e w' => e = .returned v' ∧ R w' := e ▸ h

end Go.Proofs.YthfllbmlhhkhmaaGreatDoor

namespace Go.Proofs.YthfllbmlhhkhmaaGreatDoor

open Go.RowKit

theorem Pa.open_eq (b : Int) (b0 : 0 ≤ b) (b1 : b ≤ 32) : wrap64 (wrap64 (2 ^ (32 - b).toNat) - 1) = (Pa.pw b : Int) - 1 := by
  have h := Pa.pw_le b b0 b1
  have h' := Pa.pw_pos b
  have e : (2 : Int) ^ (32 - b).toNat = (Pa.pw b : Int) := by unfold Pa.pw; simp
  generalize Pa.pw b = p at *
  rw [e, IntWalk.wrap64_in (p : Int) ⟨by omega, by omega⟩, IntWalk.wrap64_in _ ⟨by omega, by omega⟩]

theorem ret_bool {a b : Bool} (h : a = b) : Ending.returned (.bool a) = .returned (.bool b) := by rw [h]

theorem ret_int {k : IntKind} {a b : Int} (h : a = b) : Ending.returned (.int k a) = .returned (.int k b) := by rw [h]

set_option maxHeartbeats 400000 in
theorem valid_any (a : Int) (w : World) : Calls Tryz.prog 271 #[.int .i64 a] w fun e w' => e = .returned (.bool (Pa.validB a)) ∧ w = w' := by
  by_cases h0 : 0 ≤ a
  · have hd : decide (0 ≤ a) = true := by simpa using h0
    go_enter Tryz.func271, Tryz.ntmps271
    go_wp2
    go_ret
    exact ⟨ret_bool (by simp [Pa.validB, h0]), rfl⟩
  · have hn : Pa.validB a = false := by rw [Pa.validB_false]; omega
    have HN := Lib.hid hn; clear hn
    have hd : decide (0 ≤ a) = false := by simpa using h0
    go_enter Tryz.func271, Tryz.ntmps271
    go_wp2
    go_ret
    exact ⟨ret_bool HN.out.symm, rfl⟩

set_option maxHeartbeats 400000 in
theorem refValid_any (a : Int) (w : World) : Calls Tryz.prog 117 #[.int .i64 a] w fun e w' => e = .returned (.bool (Pa.validB a)) ∧ w = w' := by
  by_cases h0 : 0 ≤ a
  · have hd : decide (0 ≤ a) = true := by simpa using h0
    go_enter Tryz.func117, Tryz.ntmps117
    go_wp2
    go_ret
    exact ⟨ret_bool (by simp [Pa.validB, h0]), rfl⟩
  · have hn : Pa.validB a = false := by rw [Pa.validB_false]; omega
    have HN := Lib.hid hn; clear hn
    have hd : decide (0 ≤ a) = false := by simpa using h0
    go_enter Tryz.func117, Tryz.ntmps117
    go_wp2
    go_ret
    exact ⟨ret_bool HN.out.symm, rfl⟩

set_option maxHeartbeats 400000 in
theorem size_any (b : Int) (w : World) (b0 : 0 ≤ b) (b1 : b ≤ 32) :
    Calls Tryz.prog 274 #[.int .i64 b] w fun e w' => e = .returned (.int .i64 (Pa.pw b : Int)) ∧ w = w' := by
  obtain ⟨m, rfl⟩ := Int.eq_ofNat_of_zero_le b0
  go_enter Tryz.func274, Tryz.ntmps274
  go_wp2
  go_loop [3, 4] (fun n i => ∃ k : Nat, m ≤ k ∧ k ≤ 32 ∧ i = .int .i64 k ∧ n = .int .i64 ((Pa.pwr (k - m) : Nat) : Int)) (fun _ i => 32 - (intOf i).toNat)
  case atStart => exact ⟨m, Nat.le_refl _, by omega, rfl, by rw [Nat.sub_self]; rfl⟩
  case round =>
    obtain ⟨k, hk0, hk, rfl, rfl⟩ := hrel
    have hb := Pa.pwr_le (k - m) (by omega)
    by_cases hlt : k < 32
    · have hs := Pa.pwr_succ (k - m)
      have HS := Lib.hid hs; clear hs
      go_wp2
      go_round
      case rel => exact ⟨k + 1, by omega, by omega, by go_num, by rw [show k + 1 - m = k - m + 1 by omega, HS.out]; go_num⟩
      case measure => simp [intOf]; omega
    · go_wp2
      go_ret
      exact ⟨ret_int (by rw [show k = 32 by omega]; exact congrArg Nat.cast (Pa.pwr_pw m (by omega))), rfl⟩

end Go.Proofs.YthfllbmlhhkhmaaGreatDoor

namespace Go.Proofs.YthfllbmlhhkhmaaGreatDoor

open Go.RowKit

set_option maxHeartbeats 400000 in
theorem open_any (b : Int) (blk : Nat) (w : World) (b0 : 0 ≤ b) (b1 : b ≤ 32) (h1 : w.cell? ⟨blk, 1, none⟩ = some (.int .i64 b)) :
    Calls Tryz.prog 371 #[.pointer (some ⟨blk, 0, none⟩)] w fun e w' => e = .returned (.int .i64 ((Pa.pw b : Int) - 1)) ∧ w = w' := by
  go_enter Tryz.func371, Tryz.ntmps371
  go_wp2
  go_ret
  exact ⟨ret_int (Pa.open_eq b b0 b1), rfl⟩

set_option maxHeartbeats 400000 in
theorem host_any (a b : Int) (w : World) :
    Calls Tryz.prog 272 #[.agg #[.int .i64 a, .int .i64 b]] w fun e w' => e = .returned (.func (.func 371) #[] #[.pointer (some ⟨w.heap.size, 0, none⟩)]) ∧ w.alloc (.cells #[.int .i64 a, .int .i64 b] 23) = w' := by
  go_enter Tryz.func272, Tryz.ntmps272
  go_wp2
  go_ret
  exact ⟨rfl, rfl⟩

set_option maxHeartbeats 400000 in
theorem validPrefix_bad (a b : Int) (w : World) (h : ¬ (Pa.validB a = true ∧ 0 ≤ b ∧ b ≤ 32)) :
    Calls Tryz.prog 171 #[.agg #[.int .i64 a, .int .i64 b]] w fun e w' => e = .returned (.bool (Pa.validP a b)) ∧ Below w.heap.size w w' := by
  have hf : Pa.validP a b = false := by
    rw [Bool.eq_false_iff]; intro hv; apply h
    have := Pa.validP_true.1 hv
    exact ⟨Pa.validB_true.2 this.1, this.2.1.1, this.2.1.2⟩
  have HF := Lib.hid hf; clear hf
  cases hv : Pa.validB a with
  | false =>
    go_enter Tryz.func171, Tryz.ntmps171
    go_wp2_with (go_at_call 271; refine (valid_any _ _).mono ?_; rintro e w' ⟨rfl, rfl⟩)
    go_ret
    exact ⟨ret_bool HF.out.symm, (Below.refl _ _).alloc (Nat.le_refl _) _⟩
  | true =>
    have hb : ¬ (0 ≤ b ∧ b ≤ 32) := fun hb => h ⟨hv, hb⟩
    clear h
    by_cases hb0 : b < 0
    · have hd : decide (b < 0) = true := by simpa using hb0
      go_enter Tryz.func171, Tryz.ntmps171
      go_wp2_with (go_at_call 271; refine (valid_any _ _).mono ?_; rintro e w' ⟨rfl, rfl⟩)
      go_ret
      exact ⟨ret_bool HF.out.symm, (Below.refl _ _).alloc (Nat.le_refl _) _⟩
    · have hd : decide (b < 0) = false := by simpa using hb0
      have hb2 : 32 < b := by omega
      have hd2 : decide (32 < b) = true := by simpa using hb2
      clear hb
      go_enter Tryz.func171, Tryz.ntmps171
      go_wp2_with (go_at_call 271; refine (valid_any _ _).mono ?_; rintro e w' ⟨rfl, rfl⟩)
      go_ret
      exact ⟨ret_bool HF.out.symm, (Below.refl _ _).alloc (Nat.le_refl _) _⟩

set_option maxHeartbeats 400000 in
theorem validPrefix_good (a b : Int) (w : World) (hv : Pa.validB a = true) (b0 : 0 ≤ b) (b1 : b ≤ 32) :
    Calls Tryz.prog 171 #[.agg #[.int .i64 a, .int .i64 b]] w fun e w' => e = .returned (.bool (Pa.validP a b)) ∧ Below w.heap.size w w' := by
  have hd : decide (b < 0) = false := by simp; omega
  have hd2 : decide (32 < b) = false := by simp; omega
  go_enter Tryz.func171, Tryz.ntmps171
  go_wp2_with (first
    | (go_at_call 271; refine (valid_any _ _).mono ?_; rintro e w' ⟨rfl, rfl⟩)
    | (go_at_call 272; refine (host_any _ _ _).mono ?_; rintro e w' ⟨rfl, rfl⟩))
  have HV := Lib.hid hv; clear hv hd hd2
  refine wp_region_below (by kernel_rfl) (by kernel_rfl) ?_
  intro W hW
  have c0 : ∀ x : Lat (Below W.heap.size W), x.u.cell? ⟨w.heap.size, 0, none⟩ = some (.int .i64 a) := fun x => x.cell (by rw [hW]; simp <;> omega) (by rw [hW]; simp)
  have c1 : ∀ x : Lat (Below W.heap.size W), x.u.cell? ⟨w.heap.size + 1, 1, none⟩ = some (.int .i64 b) := fun x => x.cell (by rw [hW]; simp <;> omega) (by rw [hW]; simp)
  have HW := Lib.hid hW; clear hW
  repeat (go_big_quiet_step ((go_at_call 371; exact Calls.same (open_any b _ _ b0 b1 (c1 _)))))
  refine wpQuiet_nil ?_
  rintro _ ⟨x, rfl⟩
  go_wp2
  go_ret
  have hbW : Below w.heap.size w W := by rw [HW.out]; exact ((Below.refl _ _).alloc (Nat.le_refl _) _).alloc (by simp) _
  exact ⟨ret_bool (Pa.validP_eq a b HV.out b0 b1), below_on hbW x.h⟩

theorem validPrefix_any (a b : Int) (w : World) :
    Calls Tryz.prog 171 #[.agg #[.int .i64 a, .int .i64 b]] w fun e w' => e = .returned (.bool (Pa.validP a b)) ∧ Below w.heap.size w w' := by
  by_cases h : Pa.validB a = true ∧ 0 ≤ b ∧ b ≤ 32
  · exact validPrefix_good a b w h.1 h.2.1 h.2.2
  · exact validPrefix_bad a b w h

set_option maxHeartbeats 400000 in
theorem contains_bad (a b c : Int) (w : World) (h : ¬ (Pa.validP a b = true ∧ Pa.validB c = true)) :
    Calls Tryz.prog 172 #[.agg #[.int .i64 a, .int .i64 b], .int .i64 c] w fun e w' => e = .returned (.bool (Pa.containsP a b c)) ∧ Below w.heap.size w w' := by
  have hf : Pa.containsP a b c = false := by
    unfold Pa.containsP
    cases h1 : Pa.validP a b <;> cases h2 : Pa.validB c <;> simp_all
  have HF := Lib.hid hf; clear hf
  cases hv : Pa.validP a b with
  | false =>
    clear h
    go_enter Tryz.func172, Tryz.ntmps172
    go_wp2_with (go_at_call 171; refine (validPrefix_any _ _ _).mono ?_; rintro e w' ⟨rfl, hb⟩)
    go_ret
    exact ⟨ret_bool HF.out.symm, below_on ((Below.refl _ _).alloc (Nat.le_refl _) _) hb⟩
  | true =>
    have hc : Pa.validB c = false := by cases h2 : Pa.validB c <;> simp_all
    clear h
    go_enter Tryz.func172, Tryz.ntmps172
    go_wp2_with (first | (go_at_call 171; refine (validPrefix_any _ _ _).mono ?_; rintro e w' ⟨rfl, hb⟩) | (go_at_call 271; refine (valid_any _ _).mono ?_; rintro e w' ⟨rfl, rfl⟩))
    go_ret
    exact ⟨ret_bool HF.out.symm, below_on ((Below.refl _ _).alloc (Nat.le_refl _) _) hb⟩

set_option maxHeartbeats 400000 in
theorem contains_good (a b c : Int) (w : World) (hv : Pa.validP a b = true) (hc : Pa.validB c = true) :
    Calls Tryz.prog 172 #[.agg #[.int .i64 a, .int .i64 b], .int .i64 c] w fun e w' => e = .returned (.bool (Pa.containsP a b c)) ∧ Below w.heap.size w w' := by
  obtain ⟨_, ⟨b0, b1⟩, _⟩ := Pa.validP_true.1 hv
  go_enter Tryz.func172, Tryz.ntmps172
  go_wp2_with fail
  refine (validPrefix_any _ _ _).mono ?_
  rintro e w1 ⟨rfl, hb⟩
  have hz := hb.size
  simp only [World.size_alloc] at hz
  have d0 : w1.cell? ⟨w.heap.size, 0, none⟩ = some (.int .i64 a) := cell_below hb (by simp) (by simp)
  have d1 : w1.cell? ⟨w.heap.size, 1, none⟩ = some (.int .i64 b) := cell_below hb (by simp) (by simp)
  have HB := Lib.hid hb; clear hb
  go_wp2_with (first | (go_at_call 271; refine (valid_any _ _).mono ?_; rintro e w' ⟨rfl, rfl⟩) | (go_at_call 272; refine (host_any _ _ _).mono ?_; rintro e w' ⟨rfl, rfl⟩))
  have HV := Lib.hid hv; have HC := Lib.hid hc; clear hv hc
  refine wp_region_below (by kernel_rfl) (by kernel_rfl) ?_
  intro W hW
  have c0 : ∀ x : Lat (Below W.heap.size W), x.u.cell? ⟨w.heap.size, 0, none⟩ = some (.int .i64 a) := fun x => x.cell (by rw [hW]; simp <;> omega) (by rw [hW]; exact cell_old _ (by omega) d0)
  have c1 : ∀ x : Lat (Below W.heap.size W), x.u.cell? ⟨w1.heap.size, 1, none⟩ = some (.int .i64 b) := fun x => x.cell (by rw [hW]; simp <;> omega) (by rw [hW]; simp)
  have HW := Lib.hid hW; clear hW
  repeat (go_big_quiet_step ((go_at_call 371; exact Calls.same (open_any b _ _ b0 b1 (c1 _)))))
  refine wpQuiet_nil ?_
  rintro _ ⟨x, rfl⟩
  go_wp2
  go_ret
  have hbW : Below w.heap.size w W := by rw [HW.out]; exact (below_on ((Below.refl _ _).alloc (Nat.le_refl _) _) HB.out).alloc (by omega) _
  exact ⟨ret_bool (Pa.containsP_eq a b c HV.out HC.out), below_on hbW x.h⟩

theorem contains_any (a b c : Int) (w : World) :
    Calls Tryz.prog 172 #[.agg #[.int .i64 a, .int .i64 b], .int .i64 c] w fun e w' => e = .returned (.bool (Pa.containsP a b c)) ∧ Below w.heap.size w w' := by
  by_cases h : Pa.validP a b = true ∧ Pa.validB c = true
  · exact contains_good a b c w h.1 h.2
  · exact contains_bad a b c w h

end Go.Proofs.YthfllbmlhhkhmaaGreatDoor

namespace Go.Proofs.YthfllbmlhhkhmaaGreatDoor

open Go.RowKit

set_option maxHeartbeats 400000 in
theorem refValidPrefix_n1 (a b : Int) (w : World) (hv : Pa.validB a = false) :
    Calls Tryz.prog 177 #[.agg #[.int .i64 a, .int .i64 b]] w fun e w' => e = .returned (.bool (Pa.validP a b)) ∧ Below w.heap.size w w' := by
  have HV := Lib.hid hv; clear hv
  go_enter Tryz.func177, Tryz.ntmps177
  go_wp2
  refine wp_region_below (by kernel_rfl) (by kernel_rfl) ?_
  intro W hW
  have c0 : ∀ x : Lat (Below W.heap.size W), x.u.cell? ⟨w.heap.size, 0, none⟩ = some (.int .i64 a) := fun x => x.cell (by rw [hW]; simp <;> omega) (by rw [hW]; simp)
  have c1 : ∀ x : Lat (Below W.heap.size W), x.u.cell? ⟨w.heap.size, 1, none⟩ = some (.int .i64 b) := fun x => x.cell (by rw [hW]; simp <;> omega) (by rw [hW]; simp)
  have HW := Lib.hid hW; clear hW
  repeat (go_big_quiet_step ((go_at_call 117; exact Calls.same (Calls.eqv (congrArg Value.bool HV.out) (refValid_any a _)))))
  refine wpQuiet_nil ?_
  rintro _ ⟨x, rfl⟩
  go_wp2
  go_ret
  have hbW : Below w.heap.size w W := by rw [HW.out]; exact (Below.refl _ _).alloc (Nat.le_refl _) _
  exact ⟨ret_bool (by rw [Pa.validP, HV.out]; rfl), below_on hbW x.h⟩

set_option maxHeartbeats 400000 in
theorem refValidPrefix_n2 (a b : Int) (w : World) (hv : Pa.validB a = true) (b0 : b < 0) :
    Calls Tryz.prog 177 #[.agg #[.int .i64 a, .int .i64 b]] w fun e w' => e = .returned (.bool (Pa.validP a b)) ∧ Below w.heap.size w w' := by
  have hd : decide (0 ≤ b) = false := by simp; omega
  have hf : Pa.validP a b = false := by rw [Bool.eq_false_iff]; intro h; have := Pa.validP_true.1 h; omega
  have HF := Lib.hid hf; clear hf
  have HV := Lib.hid hv; clear hv
  go_enter Tryz.func177, Tryz.ntmps177
  go_wp2
  refine wp_region_below (by kernel_rfl) (by kernel_rfl) ?_
  intro W hW
  have c0 : ∀ x : Lat (Below W.heap.size W), x.u.cell? ⟨w.heap.size, 0, none⟩ = some (.int .i64 a) := fun x => x.cell (by rw [hW]; simp <;> omega) (by rw [hW]; simp)
  have c1 : ∀ x : Lat (Below W.heap.size W), x.u.cell? ⟨w.heap.size, 1, none⟩ = some (.int .i64 b) := fun x => x.cell (by rw [hW]; simp <;> omega) (by rw [hW]; simp)
  have HW := Lib.hid hW; clear hW
  repeat (go_big_quiet_step ((go_at_call 117; exact Calls.same (Calls.eqv (congrArg Value.bool HV.out) (refValid_any a _)))))
  refine wpQuiet_nil ?_
  rintro _ ⟨x, rfl⟩
  go_wp2
  go_ret
  have hbW : Below w.heap.size w W := by rw [HW.out]; exact (Below.refl _ _).alloc (Nat.le_refl _) _
  exact ⟨ret_bool HF.out.symm, below_on hbW x.h⟩

set_option maxHeartbeats 400000 in
theorem refValidPrefix_n3 (a b : Int) (w : World) (hv : Pa.validB a = true) (b0 : 0 ≤ b) (b1 : 32 < b) :
    Calls Tryz.prog 177 #[.agg #[.int .i64 a, .int .i64 b]] w fun e w' => e = .returned (.bool (Pa.validP a b)) ∧ Below w.heap.size w w' := by
  have hd : decide (0 ≤ b) = true := by simp; omega
  have hd2 : decide (b ≤ 32) = false := by simp; omega
  have hf : Pa.validP a b = false := by rw [Bool.eq_false_iff]; intro h; have := Pa.validP_true.1 h; omega
  have HF := Lib.hid hf; clear hf
  have HV := Lib.hid hv; clear hv
  go_enter Tryz.func177, Tryz.ntmps177
  go_wp2
  refine wp_region_below (by kernel_rfl) (by kernel_rfl) ?_
  intro W hW
  have c0 : ∀ x : Lat (Below W.heap.size W), x.u.cell? ⟨w.heap.size, 0, none⟩ = some (.int .i64 a) := fun x => x.cell (by rw [hW]; simp <;> omega) (by rw [hW]; simp)
  have c1 : ∀ x : Lat (Below W.heap.size W), x.u.cell? ⟨w.heap.size, 1, none⟩ = some (.int .i64 b) := fun x => x.cell (by rw [hW]; simp <;> omega) (by rw [hW]; simp)
  have HW := Lib.hid hW; clear hW
  repeat (go_big_quiet_step ((go_at_call 117; exact Calls.same (Calls.eqv (congrArg Value.bool HV.out) (refValid_any a _)))))
  refine wpQuiet_nil ?_
  rintro _ ⟨x, rfl⟩
  go_wp2
  go_ret
  have hbW : Below w.heap.size w W := by rw [HW.out]; exact (Below.refl _ _).alloc (Nat.le_refl _) _
  exact ⟨ret_bool HF.out.symm, below_on hbW x.h⟩

set_option maxHeartbeats 400000 in
theorem refValidPrefix_yes (a b : Int) (w : World) (hv : Pa.validB a = true) (b0 : 0 ≤ b) (b1 : b ≤ 32) :
    Calls Tryz.prog 177 #[.agg #[.int .i64 a, .int .i64 b]] w fun e w' => e = .returned (.bool (Pa.validP a b)) ∧ Below w.heap.size w w' := by
  have hd : decide (0 ≤ b) = true := by simp; omega
  have hd2 : decide (b ≤ 32) = true := by simp; omega
  have hp1 := Pa.pw_pos b
  have hp2 := Pa.pw_le b b0 b1
  have ha0 : 0 ≤ a := (Pa.validB_true.1 hv).1
  have ha1 : a ≤ 4294967295 := (Pa.validB_true.1 hv).2
  have HV := Lib.hid hv; clear hv
  go_enter Tryz.func177, Tryz.ntmps177
  go_wp2
  refine wp_region_below (by kernel_rfl) (by kernel_rfl) ?_
  intro W hW
  have c0 : ∀ x : Lat (Below W.heap.size W), x.u.cell? ⟨w.heap.size, 0, none⟩ = some (.int .i64 a) := fun x => x.cell (by rw [hW]; simp <;> omega) (by rw [hW]; simp)
  have c1 : ∀ x : Lat (Below W.heap.size W), x.u.cell? ⟨w.heap.size, 1, none⟩ = some (.int .i64 b) := fun x => x.cell (by rw [hW]; simp <;> omega) (by rw [hW]; simp)
  have HW := Lib.hid hW; clear hW
  repeat (go_big_quiet_step (first
    | (go_at_call 117; exact Calls.same (Calls.eqv (congrArg Value.bool HV.out) (refValid_any a _)))
    | (go_at_call 274; exact Calls.same (size_any b _ b0 b1))))
  refine wpQuiet_nil ?_
  rintro _ ⟨x, rfl⟩
  go_wp2
  go_ret
  have hbW : Below w.heap.size w W := by rw [HW.out]; exact (Below.refl _ _).alloc (Nat.le_refl _) _
  exact ⟨ret_bool (Pa.refValidP_eq a b HV.out b0 b1), below_on hbW x.h⟩

theorem refValidPrefix_any (a b : Int) (w : World) :
    Calls Tryz.prog 177 #[.agg #[.int .i64 a, .int .i64 b]] w fun e w' => e = .returned (.bool (Pa.validP a b)) ∧ Below w.heap.size w w' := by
  cases hv : Pa.validB a with
  | false => exact refValidPrefix_n1 a b w hv
  | true =>
    by_cases h0 : b < 0
    · exact refValidPrefix_n2 a b w hv h0
    · by_cases h1 : 32 < b
      · exact refValidPrefix_n3 a b w hv (by omega) h1
      · exact refValidPrefix_yes a b w hv (by omega) (by omega)

end Go.Proofs.YthfllbmlhhkhmaaGreatDoor

namespace Go.Proofs.YthfllbmlhhkhmaaGreatDoor

open Go.RowKit

theorem Pa.emod_le_self {x p : Int} (hx : 0 ≤ x) (hp : 0 ≤ p) : x % p ≤ x := by
  have := Int.mul_ediv_add_emod x p
  have h := Int.mul_nonneg hp (Int.ediv_nonneg hx hp)
  omega

set_option maxHeartbeats 400000 in
theorem refContains_n1 (a b c : Int) (w : World) (hp : Pa.validP a b = false) :
    Calls Tryz.prog 178 #[.agg #[.int .i64 a, .int .i64 b], .int .i64 c] w fun e w' => e = .returned (.bool (Pa.containsP a b c)) ∧ Below w.heap.size w w' := by
  have HP := Lib.hid hp; clear hp
  go_enter Tryz.func178, Tryz.ntmps178
  go_wp2
  refine wp_region_below (by kernel_rfl) (by kernel_rfl) ?_
  intro W hW
  have c0 : ∀ x : Lat (Below W.heap.size W), x.u.cell? ⟨w.heap.size, 0, none⟩ = some (.int .i64 a) := fun x => x.cell (by rw [hW]; simp <;> omega) (by rw [hW]; simp)
  have c1 : ∀ x : Lat (Below W.heap.size W), x.u.cell? ⟨w.heap.size, 1, none⟩ = some (.int .i64 b) := fun x => x.cell (by rw [hW]; simp <;> omega) (by rw [hW]; simp)
  have HW := Lib.hid hW; clear hW
  repeat (go_big_quiet_step (first
    | (go_at_call 177; exact Calls.below (Calls.eqv (congrArg Value.bool HP.out) (refValidPrefix_any a b _)))))
  refine wpQuiet_nil ?_
  rintro _ ⟨x, rfl⟩
  go_wp2
  go_ret
  have hbW : Below w.heap.size w W := by rw [HW.out]; exact (Below.refl _ _).alloc (Nat.le_refl _) _
  exact ⟨ret_bool (by rw [Pa.containsP, HP.out]; rfl), below_on hbW x.h⟩

set_option maxHeartbeats 400000 in
theorem refContains_n2 (a b c : Int) (w : World) (hp : Pa.validP a b = true) (hc : Pa.validB c = false) :
    Calls Tryz.prog 178 #[.agg #[.int .i64 a, .int .i64 b], .int .i64 c] w fun e w' => e = .returned (.bool (Pa.containsP a b c)) ∧ Below w.heap.size w w' := by
  have HP := Lib.hid hp; clear hp
  have HC := Lib.hid hc; clear hc
  go_enter Tryz.func178, Tryz.ntmps178
  go_wp2
  refine wp_region_below (by kernel_rfl) (by kernel_rfl) ?_
  intro W hW
  have c0 : ∀ x : Lat (Below W.heap.size W), x.u.cell? ⟨w.heap.size, 0, none⟩ = some (.int .i64 a) := fun x => x.cell (by rw [hW]; simp <;> omega) (by rw [hW]; simp)
  have c1 : ∀ x : Lat (Below W.heap.size W), x.u.cell? ⟨w.heap.size, 1, none⟩ = some (.int .i64 b) := fun x => x.cell (by rw [hW]; simp <;> omega) (by rw [hW]; simp)
  have HW := Lib.hid hW; clear hW
  repeat (go_big_quiet_step (first
    | (go_at_call 177; exact Calls.below (Calls.eqv (congrArg Value.bool HP.out) (refValidPrefix_any a b _)))
    | (go_at_call 117; exact Calls.same (Calls.eqv (congrArg Value.bool HC.out) (refValid_any c _)))))
  refine wpQuiet_nil ?_
  rintro _ ⟨x, rfl⟩
  go_wp2
  go_ret
  have hbW : Below w.heap.size w W := by rw [HW.out]; exact (Below.refl _ _).alloc (Nat.le_refl _) _
  exact ⟨ret_bool (by rw [Pa.containsP, HP.out, HC.out]; rfl), below_on hbW x.h⟩

set_option maxHeartbeats 400000 in
theorem refContains_yes (a b c : Int) (w : World) (hp : Pa.validP a b = true) (hc : Pa.validB c = true) :
    Calls Tryz.prog 178 #[.agg #[.int .i64 a, .int .i64 b], .int .i64 c] w fun e w' => e = .returned (.bool (Pa.containsP a b c)) ∧ Below w.heap.size w w' := by
  obtain ⟨⟨ha0, ha1⟩, ⟨b0, b1⟩, _⟩ := Pa.validP_true.1 hp
  have hp1 := Pa.pw_pos b
  have hp2 := Pa.pw_le b b0 b1
  have hc0 : 0 ≤ c := (Pa.validB_true.1 hc).1
  have hc1 : c ≤ 4294967295 := (Pa.validB_true.1 hc).2
  have HP := Lib.hid hp; clear hp
  have HC := Lib.hid hc; clear hc
  go_enter Tryz.func178, Tryz.ntmps178
  go_wp2
  refine wp_region_below (by kernel_rfl) (by kernel_rfl) ?_
  intro W hW
  have c0 : ∀ x : Lat (Below W.heap.size W), x.u.cell? ⟨w.heap.size, 0, none⟩ = some (.int .i64 a) := fun x => x.cell (by rw [hW]; simp <;> omega) (by rw [hW]; simp)
  have c1 : ∀ x : Lat (Below W.heap.size W), x.u.cell? ⟨w.heap.size, 1, none⟩ = some (.int .i64 b) := fun x => x.cell (by rw [hW]; simp <;> omega) (by rw [hW]; simp)
  have HW := Lib.hid hW; clear hW
  repeat (go_big_quiet_step (first
    | (go_at_call 177; exact Calls.below (Calls.eqv (congrArg Value.bool HP.out) (refValidPrefix_any a b _)))
    | (go_at_call 117; exact Calls.same (Calls.eqv (congrArg Value.bool HC.out) (refValid_any c _)))
    | (go_at_call 274; exact Calls.same (size_any b _ b0 b1))))
  refine wpQuiet_nil ?_
  rintro _ ⟨x, rfl⟩
  go_wp2
  go_ret
  have hbW : Below w.heap.size w W := by rw [HW.out]; exact (Below.refl _ _).alloc (Nat.le_refl _) _
  exact ⟨ret_bool (Pa.refContainsP_eq a b c HP.out HC.out), below_on hbW x.h⟩

theorem refContains_any (a b c : Int) (w : World) :
    Calls Tryz.prog 178 #[.agg #[.int .i64 a, .int .i64 b], .int .i64 c] w fun e w' => e = .returned (.bool (Pa.containsP a b c)) ∧ Below w.heap.size w w' := by
  cases hp : Pa.validP a b with
  | false => exact refContains_n1 a b c w hp
  | true =>
    cases hc : Pa.validB c with
    | false => exact refContains_n2 a b c w hp hc
    | true => exact refContains_yes a b c w hp hc

end Go.Proofs.YthfllbmlhhkhmaaGreatDoor

/-! Prefixes of addresses as summaries of the executor: the program's function and the document's ask the same questions. Conditions: none. -/
namespace Go.Proofs.YthfllbmlhhkhmaaGreatDoor
open Go Go.Ax Go.RowKit Go.Proofs

/-- Is it so? Asked, if it is not known. -/
noncomputable def tst (c : Ctx) (op : BinOp) (a b : E) : D Bool :=
  match E.cmp c op a b with
  | some r => .ok r
  | none => .ask op a b
noncomputable def andD (x y : D Bool) : D Bool :=
  match x with
  | .ok true => y
  | .ok false => .ok false
  | .ask op a b => .ask op a b
  | .fail => .fail
theorem tst_ok {c : Ctx} {X : Ext} {op : BinOp} {a b : E} {r : Bool} (hop : isCmp op = true) (hc : c.okN X.dom X.ρ) (h : tst c op a b = .ok r) : cmpZ op (a.den X.ρ) (b.den X.ρ) = r := by
  unfold tst at h
  split at h
  · rename_i e
    cases h
    exact E.cmp_sound hop e hc
  · cases h
theorem andD_ok {x y : D Bool} {r : Bool} (h : andD x y = .ok r) : (x = .ok true ∧ y = .ok r) ∨ (x = .ok false ∧ r = false) := by
  unfold andD at h
  split at h
  · exact .inl ⟨rfl, h⟩
  · cases h; exact .inr ⟨rfl, rfl⟩
  · cases h
  · cases h

noncomputable def pwE (b : E) : E :=
  match b with
  | .lit n => .lit (2 ^ (32 - n).toNat)
  | b => .bin .shl .i64 (.lit 1) (.bin .sub .i64 (.lit 32) b)
noncomputable def remE (a b : E) : E :=
  match a, b with
  | .lit x, .lit y => .lit (x.tmod y)
  | a, b => .bin .rem .i64 a b
noncomputable def quoE (a b : E) : E :=
  match a, b with
  | .lit x, .lit y => .lit (x.tdiv y)
  | a, b => .bin .quo .i64 a b

theorem pw_eq (z : Int) (h0 : 0 ≤ z) (h1 : z ≤ 32) : binZ .shl .i64 1 (binZ .sub .i64 32 z) = (Pa.pw z : Int) := by
  have hk : binZ .sub .i64 32 z = 32 - z := by
    simp only [binZ]
    exact Ax.wrap_within (k := .i64) (by show (-9223372036854775808 : Int) ≤ _; omega) (by show _ ≤ (9223372036854775807 : Int); omega)
  have hp := Pa.pw_le z h0 h1
  have hq := Pa.pw_pos z
  have hm : min (32 - z).toNat IntKind.i64.bits = (32 - z).toNat := by
    have : IntKind.i64.bits = 64 := rfl
    rw [this]
    omega
  have he : (1 : Int) * 2 ^ (32 - z).toNat = (Pa.pw z : Int) := by unfold Pa.pw; simp
  rw [hk]
  simp only [binZ]
  rw [hm, he]
  exact Ax.wrap_within (k := .i64) (by show (-9223372036854775808 : Int) ≤ _; omega) (by show _ ≤ (9223372036854775807 : Int); omega)
theorem pwE_den {b : E} {ρ : Val} (h0 : 0 ≤ b.den ρ) (h1 : b.den ρ ≤ 32) : (pwE b).den ρ = (Pa.pw (b.den ρ) : Int) := by
  unfold pwE
  split
  · rename_i n
    simp only [E.den]
    unfold Pa.pw
    simp
  · simp only [E.den]
    exact pw_eq _ h0 h1
theorem remE_den {a b : E} {ρ : Val} : (remE a b).den ρ = (a.den ρ).tmod (b.den ρ) := by
  unfold remE
  split <;> simp only [E.den, binZ]
theorem quoE_den {a b : E} {ρ : Val} (h0 : 0 ≤ a.den ρ) (h1 : a.den ρ ≤ 4294967295) (hb : 1 ≤ b.den ρ) : (quoE a b).den ρ = a.den ρ / b.den ρ := by
  have key : ∀ x y : Int, 0 ≤ x → x ≤ 4294967295 → 1 ≤ y → x.tdiv y = x / y ∧ 0 ≤ x / y ∧ x / y ≤ 4294967295 := fun x y h0 h1 hy => by
    have e : x.tdiv y = x / y := Int.tdiv_eq_ediv_of_nonneg h0
    have := Int.ediv_nonneg h0 (show 0 ≤ y by omega)
    have := Int.ediv_le_self y h0
    exact ⟨e, by omega, by omega⟩
  unfold quoE
  split
  · rename_i x y
    simp only [E.den] at *
    exact (key x y h0 h1 hb).1
  · simp only [E.den, binZ]
    obtain ⟨e, e0, e1⟩ := key _ _ h0 h1 hb
    rw [e]
    exact Ax.wrap_within (k := .i64) (by show (-9223372036854775808 : Int) ≤ _; omega) (by show _ ≤ (9223372036854775807 : Int); omega)

noncomputable def vpD (c : Ctx) (a b : E) : D Bool :=
  andD (tst c .geq a (.lit 0)) (andD (tst c .leq a (.lit 4294967295)) (andD (tst c .geq b (.lit 0)) (andD (tst c .leq b (.lit 32)) (tst c .eql (remE a (pwE b)) (.lit 0)))))
theorem vpD_ok {c : Ctx} {X : Ext} {a b : E} {r : Bool} (hc : c.okN X.dom X.ρ) (h : vpD c a b = .ok r) : Pa.validP (a.den X.ρ) (b.den X.ρ) = r := by
  unfold vpD at h
  have lit0 : (E.lit 0).den X.ρ = 0 := rfl
  have fls : (¬ ((0 ≤ a.den X.ρ ∧ a.den X.ρ ≤ 4294967295) ∧ (0 ≤ b.den X.ρ ∧ b.den X.ρ ≤ 32))) → Pa.validP (a.den X.ρ) (b.den X.ρ) = false := fun hn => by
    cases hv : Pa.validP (a.den X.ρ) (b.den X.ρ) with
    | false => rfl
    | true => rw [Pa.validP_true] at hv; exact absurd ⟨hv.1, hv.2.1⟩ hn
  rcases andD_ok h with ⟨h1, h⟩ | ⟨h1, rfl⟩
  rotate_left
  · have this : ¬ (a.den X.ρ ≥ 0) := of_decide_eq_false (tst_ok rfl hc h1)
    exact fls (by omega)
  have g1 : a.den X.ρ ≥ 0 := of_decide_eq_true (tst_ok rfl hc h1)
  rcases andD_ok h with ⟨h2, h⟩ | ⟨h2, rfl⟩
  rotate_left
  · have this : ¬ (a.den X.ρ ≤ 4294967295) := of_decide_eq_false (tst_ok rfl hc h2)
    exact fls (by omega)
  have g2 : a.den X.ρ ≤ 4294967295 := of_decide_eq_true (tst_ok rfl hc h2)
  rcases andD_ok h with ⟨h3, h⟩ | ⟨h3, rfl⟩
  rotate_left
  · have this : ¬ (b.den X.ρ ≥ 0) := of_decide_eq_false (tst_ok rfl hc h3)
    exact fls (by omega)
  have g3 : b.den X.ρ ≥ 0 := of_decide_eq_true (tst_ok rfl hc h3)
  rcases andD_ok h with ⟨h4, h⟩ | ⟨h4, rfl⟩
  rotate_left
  · have this : ¬ (b.den X.ρ ≤ 32) := of_decide_eq_false (tst_ok rfl hc h4)
    exact fls (by omega)
  have g4 : b.den X.ρ ≤ 32 := of_decide_eq_true (tst_ok rfl hc h4)
  have g5 := tst_ok rfl hc h
  simp only [cmpZ, lit0] at g5
  rw [remE_den, pwE_den (by omega) (by omega), Int.tmod_eq_emod_of_nonneg (by omega)] at g5
  rw [← g5, Bool.eq_iff_iff, Pa.validP_true, beq_iff_eq]
  exact ⟨fun h => h.2.2, fun h => ⟨⟨by omega, by omega⟩, ⟨by omega, by omega⟩, h⟩⟩

noncomputable def ctD (c : Ctx) (a b x : E) : D Bool :=
  andD (vpD c a b) (andD (tst c .geq x (.lit 0)) (andD (tst c .leq x (.lit 4294967295)) (tst c .eql (quoE x (pwE b)) (quoE a (pwE b)))))
theorem ctD_ok {c : Ctx} {X : Ext} {a b x : E} {r : Bool} (hc : c.okN X.dom X.ρ) (h : ctD c a b x = .ok r) : Pa.containsP (a.den X.ρ) (b.den X.ρ) (x.den X.ρ) = r := by
  unfold ctD at h
  have fls : (¬ (0 ≤ x.den X.ρ ∧ x.den X.ρ ≤ 4294967295)) → Pa.containsP (a.den X.ρ) (b.den X.ρ) (x.den X.ρ) = false := fun hn => by
    have : Pa.validB (x.den X.ρ) = false := Pa.validB_false.2 hn
    unfold Pa.containsP
    rw [this]
    simp
  rcases andD_ok h with ⟨h1, h⟩ | ⟨h1, rfl⟩
  rotate_left
  · have := vpD_ok hc h1
    unfold Pa.containsP
    rw [this]
    rfl
  have g1 := vpD_ok hc h1
  rcases andD_ok h with ⟨h2, h⟩ | ⟨h2, rfl⟩
  rotate_left
  · have this : ¬ (x.den X.ρ ≥ 0) := of_decide_eq_false (tst_ok rfl hc h2)
    exact fls (by omega)
  have g2 : x.den X.ρ ≥ 0 := of_decide_eq_true (tst_ok rfl hc h2)
  rcases andD_ok h with ⟨h3, h⟩ | ⟨h3, rfl⟩
  rotate_left
  · have this : ¬ (x.den X.ρ ≤ 4294967295) := of_decide_eq_false (tst_ok rfl hc h3)
    exact fls (by omega)
  have g3 : x.den X.ρ ≤ 4294967295 := of_decide_eq_true (tst_ok rfl hc h3)
  have g4 := tst_ok rfl hc h
  have hv := Pa.validP_true.1 g1
  have hp := Pa.pw_pos (b.den X.ρ)
  have e := pwE_den (b := b) (ρ := X.ρ) hv.2.1.1 hv.2.1.2
  simp only [cmpZ] at g4
  rw [quoE_den (by omega) (by omega) (by rw [e]; omega), quoE_den hv.1.1 hv.1.2 (by rw [e]; omega), e] at g4
  unfold Pa.containsP
  rw [g1, Pa.validB_true.2 ⟨by omega, by omega⟩, ← g4]
  simp only [Bool.true_and]
  rw [Bool.eq_iff_iff]
  simp

noncomputable def vpSum : Sum := fun c H next l =>
  match l with
  | [.agg [.int .i64 a, .int .i64 b]] => (match vpD c a b with
    | .ok r => .ok ⟨.bool r, H, next, c⟩
    | .ask op x y => .ask op x y
    | .fail => .fail)
  | _ => .fail
noncomputable def ctSum : Sum := fun c H next l =>
  match l with
  | [.agg [.int .i64 a, .int .i64 b], .int .i64 x] => (match ctD c a b x with
    | .ok r => .ok ⟨.bool r, H, next, c⟩
    | .ask op x y => .ask op x y
    | .fail => .fail)
  | _ => .fail

theorem vpSum_ok {P : Program} {G : Env} {n0 : Nat} {f : FuncId} (h : ∀ (a b : Int) (w : World), Calls P f #[.agg #[.int .i64 a, .int .i64 b]] w fun e w' => e = .returned (.bool (Pa.validP a b)) ∧ Below w.heap.size w w') : SumOK P G n0 f vpSum := by
  intro c X H next w l vs r hr hc hg hH h0 hfr hargs fr cs
  unfold vpSum at hr
  split at hr
  · rename_i a b
    split at hr
    · rename_i q hq
      cases hr
      obtain ⟨v, vs', e1, h1, h2⟩ := rels_cons.1 hargs
      have h2' := rels_nil.1 h2
      subst h2'
      simp only [AV.rel] at h1
      obtain ⟨ars, rfl, h3⟩ := h1
      obtain ⟨va, r1, e2, h4, h5⟩ := rels_cons.1 h3
      obtain ⟨vb, r2, rfl, h6, h7⟩ := rels_cons.1 h5
      have h7' := rels_nil.1 h7
      subst h7'
      simp only [AV.rel] at h4 h6
      obtain ⟨_, rfl⟩ := h4
      obtain ⟨_, rfl⟩ := h6
      have has : ars = #[.int .i64 (a.den X.ρ), .int .i64 (b.den X.ρ)] := by rw [← Array.toList_inj]; exact e2
      subst has
      have hvs : vs = #[.agg #[.int .i64 (a.den X.ρ), .int .i64 (b.den X.ρ)]] := by rw [← Array.toList_inj]; exact e1
      subst hvs
      obtain ⟨u, w', ⟨rfl, hb⟩, st⟩ := calls_back ((h (a.den X.ρ) (b.den X.ρ) w).mono fun e w' ⟨h1, h2⟩ => (⟨_, h1, rfl, h2⟩ : ∃ u, e = .returned u ∧ u = .bool (Pa.validP (a.den X.ρ) (b.den X.ρ)) ∧ Below w.heap.size w w')) fr cs
      refine ⟨X, _, w', st, Ext.le.refl X, ?_, hH.grow hb, hb.mono h0, fun d hd _ => ⟨hd, rfl⟩, Nat.le_refl _, hfr, hc⟩
      simp only [AV.rel]
      rw [vpD_ok hc hq]
    · cases hr
    · cases hr
  · cases hr

theorem ctSum_ok {P : Program} {G : Env} {n0 : Nat} {f : FuncId} (h : ∀ (a b x : Int) (w : World), Calls P f #[.agg #[.int .i64 a, .int .i64 b], .int .i64 x] w fun e w' => e = .returned (.bool (Pa.containsP a b x)) ∧ Below w.heap.size w w') : SumOK P G n0 f ctSum := by
  intro c X H next w l vs r hr hc hg hH h0 hfr hargs fr cs
  unfold ctSum at hr
  split at hr
  · rename_i a b x
    split at hr
    · rename_i q hq
      cases hr
      obtain ⟨v, vs', e1, h1, h2⟩ := rels_cons.1 hargs
      obtain ⟨vx, vs'', rfl, h8, h9⟩ := rels_cons.1 h2
      have h9' := rels_nil.1 h9
      subst h9'
      simp only [AV.rel] at h1 h8
      obtain ⟨_, rfl⟩ := h8
      obtain ⟨ars, rfl, h3⟩ := h1
      obtain ⟨va, r1, e2, h4, h5⟩ := rels_cons.1 h3
      obtain ⟨vb, r2, rfl, h6, h7⟩ := rels_cons.1 h5
      have h7' := rels_nil.1 h7
      subst h7'
      simp only [AV.rel] at h4 h6
      obtain ⟨_, rfl⟩ := h4
      obtain ⟨_, rfl⟩ := h6
      have has : ars = #[.int .i64 (a.den X.ρ), .int .i64 (b.den X.ρ)] := by rw [← Array.toList_inj]; exact e2
      subst has
      have hvs : vs = #[.agg #[.int .i64 (a.den X.ρ), .int .i64 (b.den X.ρ)], .int .i64 (x.den X.ρ)] := by rw [← Array.toList_inj]; exact e1
      subst hvs
      obtain ⟨u, w', ⟨rfl, hb⟩, st⟩ := calls_back ((h (a.den X.ρ) (b.den X.ρ) (x.den X.ρ) w).mono fun e w' ⟨h1, h2⟩ => (⟨_, h1, rfl, h2⟩ : ∃ u, e = .returned u ∧ u = .bool (Pa.containsP (a.den X.ρ) (b.den X.ρ) (x.den X.ρ)) ∧ Below w.heap.size w w')) fr cs
      refine ⟨X, _, w', st, Ext.le.refl X, ?_, hH.grow hb, hb.mono h0, fun d hd _ => ⟨hd, rfl⟩, Nat.le_refl _, hfr, hc⟩
      simp only [AV.rel]
      rw [ctD_ok hc hq]
    · cases hr
    · cases hr
  · cases hr

end Go.Proofs.YthfllbmlhhkhmaaGreatDoor
