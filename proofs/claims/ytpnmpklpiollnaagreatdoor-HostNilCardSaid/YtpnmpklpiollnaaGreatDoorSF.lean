/-
  FrameOf, the generator of a third party's frames, returns a text for every input, and nothing that was there is changed. Conditions: none.
-/
import Derived.Test.YtpnmpklpiollnaaGreatDoorS3a
import Derived.Test.YtpnmpklpiollnaaGreatDoorS3b
import Derived.Test.YtpnmpklpiollnaaGreatDoorS3c
import Derived.Test.YtpnmpklpiollnaaGreatDoorS3d
import Derived.Test.YtpnmpklpiollnaaGreatDoorS3e
import Derived.Test.YtpnmpklpiollnaaGreatDoorS3f
import Derived.Test.YtpnmpklpiollnaaGreatDoorSE
namespace Go.Proofs.YtpnmpklpiollnaaGreatDoor
open Go Go.Ax Go.RowKit
theorem fr_tffffft : partP G3 6 [frameRawS] (.str 5000) 400 200 14 80 [true, false, false, false, false, false, true] = true := partP_both (p := [true, false, false, false, false, false, true]) fr_tffffftt fr_tffffftf
theorem fr_tfffff : partP G3 6 [frameRawS] (.str 5000) 400 200 14 80 [true, false, false, false, false, false] = true := partP_both (p := [true, false, false, false, false, false]) fr_tffffft fr_tffffff
theorem fr_tffff : partP G3 6 [frameRawS] (.str 5000) 400 200 14 80 [true, false, false, false, false] = true := partP_both (p := [true, false, false, false, false]) fr_tfffft fr_tfffff
theorem fr_tfff : partP G3 6 [frameRawS] (.str 5000) 400 200 14 80 [true, false, false, false] = true := partP_both (p := [true, false, false, false]) fr_tffft fr_tffff
theorem fr_tff : partP G3 6 [frameRawS] (.str 5000) 400 200 14 80 [true, false, false] = true := partP_both (p := [true, false, false]) fr_tfft fr_tfff
theorem fr_tf : partP G3 6 [frameRawS] (.str 5000) 400 200 14 80 [true, false] = true := partP_both (p := [true, false]) fr_tft fr_tff
theorem fr_t : partP G3 6 [frameRawS] (.str 5000) 400 200 14 80 [true] = true := partP_both (p := [true]) fr_tt fr_tf
theorem fr_fffffft : partP G3 6 [frameRawS] (.str 5000) 400 200 14 80 [false, false, false, false, false, false, true] = true := partP_both (p := [false, false, false, false, false, false, true]) fr_fffffftt fr_fffffftf
theorem fr_ffffff : partP G3 6 [frameRawS] (.str 5000) 400 200 14 80 [false, false, false, false, false, false] = true := partP_both (p := [false, false, false, false, false, false]) fr_fffffft fr_fffffff
theorem fr_fffff : partP G3 6 [frameRawS] (.str 5000) 400 200 14 80 [false, false, false, false, false] = true := partP_both (p := [false, false, false, false, false]) fr_ffffft fr_ffffff
theorem fr_ffff : partP G3 6 [frameRawS] (.str 5000) 400 200 14 80 [false, false, false, false] = true := partP_both (p := [false, false, false, false]) fr_fffft fr_fffff
theorem fr_fff : partP G3 6 [frameRawS] (.str 5000) 400 200 14 80 [false, false, false] = true := partP_both (p := [false, false, false]) fr_ffft fr_ffff
theorem fr_ff : partP G3 6 [frameRawS] (.str 5000) 400 200 14 80 [false, false] = true := partP_both (p := [false, false]) fr_fft fr_fff
theorem fr_f : partP G3 6 [frameRawS] (.str 5000) 400 200 14 80 [false] = true := partP_both (p := [false]) fr_ft fr_ff
theorem fr_all : partP G3 6 [frameRawS] (.str 5000) 400 200 14 80 [] = true := partP_both (p := []) fr_t fr_f
theorem frameOf_told : Ax.Told Tryz.prog tab.ng 6 [frameRawS] (.str 5000) :=
  told_of_partP (G := G3) tab_right ifs_right (sumsL_ok sums3_ok) ng_pos fr_all
end Go.Proofs.YtpnmpklpiollnaaGreatDoor

/-! The law's own function, explored: a nil host yields zero values and ErrNil, whatever is asked of it. Conditions: none. -/
namespace Go.Proofs.YtpnmpklpiollnaaGreatDoor
open Go Go.Ax Go.RowKit Go.Proofs

noncomputable def sumsN : List (Nat × Sum) := [(4, sumE errs [] (.lit true)), (6, sumSp [frameRawS] (.str 5000)), (9, sumSp [callRawS] callS)]
theorem sumsN_ok : AllS Tryz.prog tab sumsN :=
  .cons (fun _ _ h => sumE_ok (errs_ng.trans (congrArg Tab.ng h.symm)) errs_pos errs_in sane_told) Tryz.call4 <|
  .cons (AllS.told ng_pos frameOf_told) Tryz.call6 <|
  .cons (AllS.told ng_pos callOf_told) Tryz.call9 .nil
noncomputable def GN : Env := ⟨tab, ifs, sumsL sumsN⟩
def stepS : Sp := .agg [.int .u8 0 255, spI, spI, spI, spI, spI, .str big, spI, spI, spI, spI, spI, spI, .str big, .int .u8 0 255, spI, spI, spI, spI, .str big, spI, spI, spI, spI, spI, spI, .str big, spI, spI]
theorem nil_run : firstP GN errs 3 [stepS] (.lit true) 1000 200 17 8 [] = true := by kernel_rfl
theorem nil_told : ToldE Tryz.prog errs 3 [stepS] (.lit true) :=
  toldE_of_firstP (G := GN) tab_right ifs_right (sumsL_ok sumsN_ok) errs_ng errs_pos nil_run
end Go.Proofs.YtpnmpklpiollnaaGreatDoor
