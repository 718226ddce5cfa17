/-
  The configuration's law: what is known of the functions as a whole, how the arguments are laid. Conditions: none.
-/
import Derived.Test.YthfllbmlhhkhmaaGreatDoorSE
import Derived.Test.YthfllbmlhhkhmaaGreatDoorSA
import Derived.Test.YthfllbmlhhkhmaaGreatDoorVA
namespace Go.Proofs.YthfllbmlhhkhmaaGreatDoor
open Go Go.Ax Go.RowKit Go.Proofs

noncomputable def sumsC : List (Nat × Sum) := [(5, sumE errs [] (.lit true)), (7, pickSum), (171, vpSum), (177, vpSum), (172, ctSum), (178, ctSum), (322, copySum 411), (330, rulesSum)]
theorem sumsC_ok : AllS Tryz.prog tab sumsC :=
  .cons (fun _ _ h => sumE_ok (errs_ng.trans (congrArg Tab.ng h.symm)) errs_pos errs_in sane_told) Tryz.call5 <|
  .cons (fun _ _ _ => pickSum_ok fun z n w h0 h1 h2 h3 => pick25_any z n w h0 h1 h2 h3) Tryz.call7 <|
  .cons (fun _ _ _ => vpSum_ok validPrefix_any) Tryz.call171 <|
  .cons (fun _ _ _ => vpSum_ok refValidPrefix_any) Tryz.call177 <|
  .cons (fun _ _ _ => ctSum_ok contains_any) Tryz.call172 <|
  .cons (fun _ _ _ => ctSum_ok refContains_any) Tryz.call178 <|
  .cons (fun G n0 _ => copyCheckSum_ok G n0) Tryz.call322 <|
  .cons (fun G n0 _ => rulesSum_ok G n0) Tryz.call330 .nil
noncomputable def GC : Env := ⟨tab, ifs, sumsL sumsC⟩

def ifaceS : Sp := .agg [spI, spI, spI, spI, spI]
def routeS : Sp := .agg [spI, spI, spI, spI]
def ruleS (a b : Bool) : Sp := .agg [.lit a, spI, spI, spI, spI, spI, .lit b]
def cfgS (a b : Bool) : List Sp := [ifaceS, routeS, ruleS a b, spI, spI]
/-- No servers. -/
def mkNil (_ : Nat) : List AV → Option (List AV × AObj)
  | [f, r, ru, se, wh] => some ([f, r, .nilslice, ru, se, wh], .dead)
  | _ => none
/-- An empty slice that is not nil. -/
def mkZero (b : Nat) : List AV → Option (List AV × AObj)
  | [f, r, ru, se, wh] => some ([f, r, .slice b 0 0 0 1 false, ru, se, wh], .dead)
  | _ => none
/-- m servers. -/
def mkLen (m b : Nat) : List AV → Option (List AV × AObj)
  | f :: r :: ru :: se :: wh :: els => some ([f, r, .slice b 0 m m 1 false, ru, se, wh], .cells els 3 false false true)
  | _ => none
/-- More than six servers. -/
def mkMany (b : Nat) : List AV → Option (List AV × AObj)
  | [f, r, ru, se, wh, .int .i64 (.var l), a1, a2, a3, a4, a5, a6] => some ([f, r, .wslice b 0 6 1 l, ru, se, wh], .cells [a1, a2, a3, a4, a5, a6] 3 false false true)
  | _ => none
def manyS : Sp := .int .i64 7 9223372036854775807
end Go.Proofs.YthfllbmlhhkhmaaGreatDoor
