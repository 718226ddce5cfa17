/-
  The two functions that take a text for a frame, the program's and the document's: each ends at every text of at most 200 bytes; what the program's takes is a frame in the plain sense, and what is a frame in that sense the document's takes. Conditions: none.
-/
import Derived.Test.YthfllbmlhhkhmaaGreatDoorIGa
import Derived.Test.YthfllbmlhhkhmaaGreatDoorIRa
import Derived.Test.YthfllbmlhhkhmaaGreatDoorIIs
import Derived.Test.YthfllbmlhhkhmaaGreatDoorIWB
import Derived.Test.YthfllbmlhhkhmaaGreatDoorIAxF
import Derived.Test.YthfllbmlhhkhmaaGreatDoorIAxG
namespace Go.Proofs.YthfllbmlhhkhmaaGreatDoor
open Go Go.Ax Go.RowKit Go.Proofs
noncomputable def sumsD : List (Nat × Sum) := [(49, fnSumR 0), (111, putSum 10), (143, getSumW 10), (187, getSumW 10), (127, fnSumR 0), (122, isSum)]
theorem sumsD_ok : AllS Tryz.prog tab sumsD :=
  .cons (fun _ _ _ => fnSumR_ok fun s w h => (refCrc_any s w h).mono fun e w' ⟨h1, h2⟩ => ⟨h1, by rw [h2]; exact Below.refl _ _⟩) Tryz.call49 <|
  .cons (fun _ _ _ => putSum_ok (fun z k w a b c d => rput_any z k w a b c d) (fun z k w a b c => rput_bad z k w a b c)) Tryz.call111 <|
  .cons (fun _ _ _ => getSumW_ok (fun s i k w a b c d => rget_any s i k w a b c d) (fun s i k w a b c d e => rget_bad s i k w a b c d e)) Tryz.call143 <|
  .cons (fun _ _ _ => getSumW_ok (fun s i k w a b c d => get_any s i k w a b c d) (fun s i k w a b c d e => get_bad s i k w a b c d e)) Tryz.call187 <|
  .cons (fun _ _ _ => fnSumR_ok fun s w h => crc32_any s w h) Tryz.call127 <|
  .cons (fun _ _ _ => isSum_ok) Tryz.call122 .nil
noncomputable def GD : Env := ⟨tab, ifs, sumsL sumsD⟩
def resS : Sp := .tup [.agg [spI, spI, spI, .str 70000], .int .i64 0 1000]
theorem l_run : firstP GD errs 56 [.str 200] resS 1000 200 17 40 [] = true := by kernel_rfl
theorem l_told : ToldE Tryz.prog errs 56 [.str 200] resS :=
  toldE_of_firstP (G := GD) tab_right ifs_right (sumsL_ok sumsD_ok) errs_ng errs_pos l_run
theorem r_run : firstP GD errs 17 [.str 200] resS 1000 200 17 40 [] = true := by kernel_rfl
theorem r_told : ToldE Tryz.prog errs 17 [.str 200] resS :=
  toldE_of_firstP (G := GD) tab_right ifs_right (sumsL_ok sumsD_ok) errs_ng errs_pos r_run
abbrev bq (e : E) : E := .byte 13 e
abbrev lq (n : Nat) : E := .lit (.ofNat n)
abbrev adq (a b : E) : E := .bin .add .i64 a b
abbrev mlq (a : E) : E := .bin .mul .i64 a (lq 256)
abbrev offq : E := adq (adq (lq 7) (mlq (bq (lq 5)))) (bq (lq 6))
abbrev h01 : E := adq (mlq (bq (lq 0))) (bq (lq 1))
abbrev h23 : E := adq (mlq (bq (lq 2))) (bq (lq 3))
abbrev n4q : E := adq (mlq (adq (mlq (adq (mlq (bq offq)) (bq (adq offq (lq 1))))) (bq (adq offq (lq 2))))) (bq (adq offq (lq 3)))
abbrev fnq : E := .fn 0 (.tv 13 (lq 0) offq (lq 1))
def yes (x : Option Bool) : Bool := match x with | some b => b | none => false
def plA : AV → Bool
  | .int _ _ | .str _ | .sstr _ => true
  | _ => false
noncomputable def qL (c : Ctx) (v : AV) : Bool :=
  match v with
  | .tuple [.agg [a, b, d, e], .int .i64 (.lit (.ofNat n))] => plA a && (plA b && (plA d && (plA e && (bif Nat.beq n 40 then true else
      yes (E.cmp c .eql (.len 13) (adq offq (lq 4))) && (yes (E.cmp c .geq h01 (lq 1)) && (yes (E.cmp c .geq h23 (lq 1)) && (yes (E.cmp c .leq h23 (lq 65534)) && (yes (E.cmp c .leq (.len 13) (lq 200)) &&
        ((yes (E.cmp c .eql (bq (lq 4)) (lq 1)) || yes (E.cmp c .eql (bq (lq 4)) (lq 2))) && yes (E.cmp c .eql n4q fnq))))))))))
  | _ => false
noncomputable def runQ (f : FuncId) (xs : List AV) (r : InL) (q : Ctx → AV → Bool) : Bool :=
  match Go.Ax.start GD f xs (errH 1000 errs.T errs.t errs.d errs.l) r.next ⟨r.fs, r.vs⟩ with
  | some s => exploreQ specF GD 200 f q 17 40 s
  | none => false
theorem l_q : runQ 56 (instD [.str 200] 13).v (instD [.str 200] 13) qL = true := by kernel_rfl
end Go.Proofs.YthfllbmlhhkhmaaGreatDoor
