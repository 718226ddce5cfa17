/-
  The law on pings: what is known of the functions as a whole, how the arguments are laid. Conditions: none.
-/
import Derived.Test.YtbpkijkinoligaaGreatDoorZSE
import Derived.Test.YtbpkijkinoligaaGreatDoorZWA
import Derived.Test.YtbpkijkinoligaaGreatDoorZWB
import Derived.Test.YtbpkijkinoligaaGreatDoorZAxG
namespace Go.Proofs.YtbpkijkinoligaaGreatDoor
open Go Go.Ax Go.RowKit Go.Proofs

noncomputable def sumsP : List (Nat × Sum) := [(5, sumE errs [] (.lit true)), (8, pickSum), (271, copySum 350), (279, rulesSum),
  (175, putSum 10), (137, getSum 10), (260, fnSum 1), (86, fnSum 0)]
theorem sumsP_ok : AllS Tryz.prog tab sumsP :=
  .cons (fun _ _ h => sumE_ok (errs_ng.trans (congrArg Tab.ng h.symm)) errs_pos errs_in sane_told) Tryz.call5 <|
  .cons (fun _ _ _ => pickSum_ok fun z n w h0 h1 h2 h3 => pick25_any z n w h0 h1 h2 h3) Tryz.call8 <|
  .cons (fun G n0 _ => copyCheckSum_ok G n0) Tryz.call271 <|
  .cons (fun G n0 _ => rulesSum_ok G n0) Tryz.call279 <|
  .cons (fun _ _ _ => putSum_ok (fun z k w a b c d => put_any z k w a b c d) (fun z k w a b c => put_bad z k w a b c)) Tryz.call175 <|
  .cons (fun _ _ _ => getSum_ok (fun s i k w a b c d => get_any s i k w a b c d) (fun s i k w a b c d e => get_bad s i k w a b c d e)) Tryz.call137 <|
  .cons (fun _ _ _ => fnSum_ok fun s w h => checksum_any s w h) Tryz.call260 <|
  .cons (fun _ _ _ => fnSum_ok fun s w h => crc32_any s w h) Tryz.call86 .nil
noncomputable def GP : Env := ⟨tab, ifs, sumsL sumsP⟩

/-- A part of a code. -/
def sel : List Nat → Code → Code
  | [], c => c
  | i :: p, .seq a b => bif Nat.beq i 0 then sel p a else sel p b
  | i :: p, .cond _ a b => bif Nat.beq i 0 then sel p a else sel p b
  | _ :: p, .block _ b => sel p b
  | _ :: p, .loop b => sel p b
  | _ :: p, .scope b => sel p b
  | i :: p, .rangeFunc _ _ a b => bif Nat.beq i 0 then sel p a else sel p b
  | _, c => c
def opsOf : Code → List Oper
  | .region _ ops _ => ops.toList
  | _ => []
noncomputable def body : Code := match Tryz.f3.body with | some b => b | none => .skip

/-- How the arguments are laid: three numbers, a slice of unknown length. -/
def pingS : List Sp := [spI, spI, spI, .int .i64 0 9223372036854775807]
def mkWho (b : Nat) : List AV → Option (List AV × AObj)
  | [m, o, s, .int .i64 (.var l)] => some ([m, o, s, .wslice b 0 0 1 l], .dead)
  | _ => none
def mkNone (_ : Nat) : List AV → Option (List AV × AObj)
  | [m, o, s] => some ([m, o, s, .nilslice], .dead)
  | _ => none
theorem ping_nil : firstX GP errs 3 [spI, spI, spI] mkNone (.lit true) 1000 200 14 5 [] = true := by kernel_rfl
end Go.Proofs.YtbpkijkinoligaaGreatDoor
