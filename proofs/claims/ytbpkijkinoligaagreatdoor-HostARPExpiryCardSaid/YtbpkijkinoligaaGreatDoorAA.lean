/-
  A choice below a number, by the laws' own function. Conditions: none.
-/
import Derived.Test.YtbpkijkinoligaaGreatDoorProg
import Derived.Test.YtbpkijkinoligaaGreatDoorAxE
import Derived.WalkKit
import Derived.WalkSpells
import Derived.WalkMore
import Derived.WalkLawsBesides
import Derived.Deep.QuietTactic
import Derived.BigQuiet
import Derived.Lib.Hide
import Derived.Laws.BitsLemmas
import Derived.Test.YtbpkijkinoligaaGreatDoorSE
import Derived.Test.YtbpkijkinoligaaGreatDoorAxF
namespace Go.Proofs.YtbpkijkinoligaaGreatDoor
open Go.RowKit Go.Proofs

theorem pick25_any (c : Int) (n : Nat) (w : World) (c0 : -9223372036854775808 ≤ c) (c1 : c ≤ 9223372036854775807) (n0 : 1 ≤ n) (n1 : n ≤ 9223372036854775807) :
    Calls Tryz.prog 8 #[.int .i64 c, .int .i64 n] w fun e w' => e = .returned (.int .i64 (Ax.pickZ n c)) ∧ w' = w := by
  by_cases h : c < 0
  · go_enter Tryz.func8, Tryz.ntmps8
    go_wp2
    go_ret
    exact ⟨by rw [Ax.pickZ, if_pos h, Int.neg_tmod]; rfl, rfl⟩
  · go_enter Tryz.func8, Tryz.ntmps8
    go_wp2
    go_ret
    exact ⟨by rw [Ax.pickZ, if_neg (by omega), Int.tmod_eq_emod_of_nonneg (by omega)]; rfl, rfl⟩
end Go.Proofs.YtbpkijkinoligaaGreatDoor

/-! The law on expiring entries: what is known of the functions as a whole. Conditions: none. -/
namespace Go.Proofs.YtbpkijkinoligaaGreatDoor
open Go Go.Ax Go.RowKit Go.Proofs

noncomputable def sumsA : List (Nat × Sum) := [(5, sumE errs [] (.lit true)), (8, pickSum), (271, copySum 350), (279, rulesSum)]
theorem sumsA_ok : AllS Tryz.prog tab sumsA :=
  .cons (fun _ _ h => sumE_ok (errs_ng.trans (congrArg Tab.ng h.symm)) errs_pos errs_in sane_told) Tryz.call5 <|
  .cons (fun _ _ _ => pickSum_ok fun z n w h0 h1 h2 h3 => pick25_any z n w h0 h1 h2 h3) Tryz.call8 <|
  .cons (fun G n0 _ => copyCheckSum_ok G n0) Tryz.call271 <|
  .cons (fun G n0 _ => rulesSum_ok G n0) Tryz.call279 .nil
noncomputable def GA : Env := ⟨tab, ifs, sumsL sumsA⟩

/-- A part of a code. -/
def sel : List Nat → Code → Code
  | [], c => c
  | i :: p, .seq a b => bif Nat.beq i 0 then sel p a else sel p b
  | i :: p, .cond _ a b => bif Nat.beq i 0 then sel p a else sel p b
  | _ :: p, .block _ b => sel p b
  | _ :: p, .loop b => sel p b
  | _ :: p, .scope b => sel p b
  | i :: p, .rangeFunc _ _ a b => bif Nat.beq i 0 then sel p a else sel p b
  | _, c => c
def opsOf : Code → List Oper
  | .region _ ops _ => ops.toList
  | _ => []
noncomputable def body : Code := match Tryz.f4.body with | some b => b | none => .skip
end Go.Proofs.YtbpkijkinoligaaGreatDoor
