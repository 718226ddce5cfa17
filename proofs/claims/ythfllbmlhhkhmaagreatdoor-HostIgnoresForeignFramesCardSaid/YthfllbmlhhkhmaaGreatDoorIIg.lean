/-
  FrameOf, the generator of a third party's frames, ends with a text of at most 1000 bytes for every input, and nothing that was there is changed. Conditions: none.
-/
import Derived.Test.YthfllbmlhhkhmaaGreatDoorIQC
import Derived.Test.YthfllbmlhhkhmaaGreatDoorIQD
import Derived.Test.YthfllbmlhhkhmaaGreatDoorILg
import Derived.Test.YthfllbmlhhkhmaaGreatDoorISy
namespace Go.Proofs.YthfllbmlhhkhmaaGreatDoor
open Go Go.Ax Go.RowKit Go.Proofs
theorem fr_fffffttfff : partP G3 15 [frameRawS] (.str 1000) 400 200 14 80 [false, false, false, false, false, true, true, false, false, false] = true := partP_both (p := [false, false, false, false, false, true, true, false, false, false]) fr_fffffttffft fr_fffffttffff
theorem fr_fffffttff : partP G3 15 [frameRawS] (.str 1000) 400 200 14 80 [false, false, false, false, false, true, true, false, false] = true := partP_both (p := [false, false, false, false, false, true, true, false, false]) fr_fffffttfft fr_fffffttfff
theorem fr_fffffttf : partP G3 15 [frameRawS] (.str 1000) 400 200 14 80 [false, false, false, false, false, true, true, false] = true := partP_both (p := [false, false, false, false, false, true, true, false]) fr_fffffttft fr_fffffttff
theorem fr_ffffftt : partP G3 15 [frameRawS] (.str 1000) 400 200 14 80 [false, false, false, false, false, true, true] = true := partP_both (p := [false, false, false, false, false, true, true]) fr_fffffttt fr_fffffttf
theorem fr_ffffftffff : partP G3 15 [frameRawS] (.str 1000) 400 200 14 80 [false, false, false, false, false, true, false, false, false, false] = true := partP_both (p := [false, false, false, false, false, true, false, false, false, false]) fr_ffffftfffft fr_ffffftfffff
theorem fr_ffffftfff : partP G3 15 [frameRawS] (.str 1000) 400 200 14 80 [false, false, false, false, false, true, false, false, false] = true := partP_both (p := [false, false, false, false, false, true, false, false, false]) fr_ffffftffft fr_ffffftffff
theorem fr_ffffftff : partP G3 15 [frameRawS] (.str 1000) 400 200 14 80 [false, false, false, false, false, true, false, false] = true := partP_both (p := [false, false, false, false, false, true, false, false]) fr_ffffftfft fr_ffffftfff
theorem fr_ffffftf : partP G3 15 [frameRawS] (.str 1000) 400 200 14 80 [false, false, false, false, false, true, false] = true := partP_both (p := [false, false, false, false, false, true, false]) fr_ffffftft fr_ffffftff
theorem fr_ffffft : partP G3 15 [frameRawS] (.str 1000) 400 200 14 80 [false, false, false, false, false, true] = true := partP_both (p := [false, false, false, false, false, true]) fr_ffffftt fr_ffffftf
theorem fr_fffff : partP G3 15 [frameRawS] (.str 1000) 400 200 14 80 [false, false, false, false, false] = true := partP_both (p := [false, false, false, false, false]) fr_ffffft fr_ffffff
theorem fr_ffff : partP G3 15 [frameRawS] (.str 1000) 400 200 14 80 [false, false, false, false] = true := partP_both (p := [false, false, false, false]) fr_fffft fr_fffff
theorem fr_fff : partP G3 15 [frameRawS] (.str 1000) 400 200 14 80 [false, false, false] = true := partP_both (p := [false, false, false]) fr_ffft fr_ffff
theorem fr_ff : partP G3 15 [frameRawS] (.str 1000) 400 200 14 80 [false, false] = true := partP_both (p := [false, false]) fr_fft fr_fff
theorem fr_f : partP G3 15 [frameRawS] (.str 1000) 400 200 14 80 [false] = true := partP_both (p := [false]) fr_ft fr_ff
theorem fr_all : partP G3 15 [frameRawS] (.str 1000) 400 200 14 80 [] = true := partP_both (p := []) fr_t fr_f
theorem frameOf_told : Ax.Told Tryz.prog tab.ng 15 [frameRawS] (.str 1000) :=
  told_of_partP (G := G3) tab_right ifs_right (sumsL_ok sums3_ok) ng_pos fr_all
end Go.Proofs.YthfllbmlhhkhmaaGreatDoor
namespace Go.Proofs.YthfllbmlhhkhmaaGreatDoor
open Go Go.Ax Go.RowKit Go.Proofs
noncomputable def sumsI : List (Nat × Sum) := (5, sumE errs [] (.lit true)) :: (15, sumSp [frameRawS] (.str 1000)) :: (56, decS false 40 errs resS) :: (17, decS true 0 errs resS) ::
  (49, fnSumR 0) :: (111, putSum 10) :: (143, getSumW 10) :: sumsB
theorem sumsI_ok : AllS Tryz.prog tab sumsI :=
  .cons (fun _ _ h => sumE_ok (errs_ng.trans (congrArg Tab.ng h.symm)) errs_pos errs_in sane_told) Tryz.call5 <|
  .cons (AllS.told ng_pos frameOf_told) Tryz.call15 <|
  .cons (fun _ _ h => decS_ok (errs_ng.trans (congrArg Tab.ng h.symm)) errs_pos errs_in l_told fun s w A N a b c => l_exact s w A N a b c) Tryz.call56 <|
  .cons (fun _ _ h => decS_ok (errs_ng.trans (congrArg Tab.ng h.symm)) errs_pos errs_in r_told fun s w A N a b c => r_exact s w A N a b c) Tryz.call17 <|
  .cons (fun _ _ _ => fnSumR_ok fun s w h => (refCrc_any s w h).mono fun e w' ⟨h1, h2⟩ => ⟨h1, by rw [h2]; exact Below.refl _ _⟩) Tryz.call49 <|
  .cons (fun _ _ _ => putSum_ok (fun z k w a b c d => rput_any z k w a b c d) (fun z k w a b c => rput_bad z k w a b c)) Tryz.call111 <|
  .cons (fun _ _ _ => getSumW_ok (fun s i k w a b c d => rget_any s i k w a b c d) (fun s i k w a b c d e => rget_bad s i k w a b c d e)) Tryz.call143 sumsB_ok
noncomputable def GI : Env := ⟨tab, ifs, sumsL sumsI⟩
def hiS : List Sp := [frameRawS, .str big, spI, spI]
theorem ignores_run : firstP GI errs 4 hiS (.lit true) 1000 200 17 10 [] = true := by kernel_rfl
theorem ignores_told : ToldE Tryz.prog errs 4 hiS (.lit true) :=
  toldE_of_firstP (G := GI) tab_right ifs_right (sumsL_ok sumsI_ok) errs_ng errs_pos ignores_run
end Go.Proofs.YthfllbmlhhkhmaaGreatDoor
