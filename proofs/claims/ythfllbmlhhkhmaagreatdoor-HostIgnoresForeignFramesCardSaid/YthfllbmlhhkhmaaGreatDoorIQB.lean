/-
  The generators of the host laws, explored: each encoder of the document ends with a short text for short arguments, and nothing that was there is changed. Conditions: none.
-/
import Derived.Test.YthfllbmlhhkhmaaGreatDoorIQA
namespace Go.Proofs.YthfllbmlhhkhmaaGreatDoor
open Go Go.Ax Go.RowKit Go.Proofs
theorem ng_pos : 0 < tab.ng := by show 0 < 8; decide
theorem checksum_told : Ax.Told Tryz.prog tab.ng 46 [.str 1099511627776] (.int .i64 0 65535) := by
  intro w vs _ hv
  obtain ⟨a, rfl, ha⟩ := hasL_one hv
  simp only [Sp.has] at ha
  obtain ⟨s, rfl, hs⟩ := ha
  refine (refChecksum_any s w hs).mono ?_
  rintro e w' ⟨r, rfl, r0, r1, rfl⟩
  refine ⟨_, rfl, ?_, Below.refl _ _⟩
  simp only [Sp.has]
  exact ⟨r, rfl, r0, r1⟩
theorem crc_told : Ax.Told Tryz.prog tab.ng 49 [.str 1099511627776] (.int .i64 0 4294967295) := by
  intro w vs _ hv
  obtain ⟨a, rfl, ha⟩ := hasL_one hv
  simp only [Sp.has] at ha
  obtain ⟨s, rfl, hs⟩ := ha
  refine (refCrc_any s w hs).mono ?_
  rintro e w' ⟨rfl, rfl⟩
  refine ⟨_, rfl, ?_, Below.refl _ _⟩
  simp only [Sp.has]
  exact ⟨_, rfl, (fnZ_has 0 _).1, (fnZ_has 0 _).2.1⟩
noncomputable def sums1 : List (Nat × Sum) := [(7, pickSum), (112, pickSum), (46, sumSp [.str 1099511627776] (.int .i64 0 65535)), (49, sumSp [.str 1099511627776] (.int .i64 0 4294967295))]
theorem sums1_ok : AllS Tryz.prog tab sums1 :=
  .cons (fun _ _ _ => pickSum_ok fun z n w => pick25_any z n w) Tryz.call7 <|
  .cons (fun _ _ _ => pickSum_ok fun z n w => pick05_any z n w) Tryz.call112 <|
  .cons (AllS.told ng_pos checksum_told) Tryz.call46 <|
  .cons (AllS.told ng_pos crc_told) Tryz.call49 .nil
noncomputable def G1 : Env := ⟨tab, ifs, sumsL sums1⟩
def enc (m : Nat) : Sp := .tup [.str m, .int .i64 0 1000]
def arpS : Sp := .agg [spI, spI, spI, spI, spI]
def pktS : Sp := .agg [spI, spI, spI, spI, spI, .bool, .bool, spI, .str 700]
def segS : Sp := .agg [spI, spI, spI, spI, .bool, .bool, .bool, .bool, spI, spI, .bool, .nils, .str 100]
def icmS : Sp := .agg [spI, spI, spI, .str 600]
def frmS : Sp := .agg [spI, spI, spI, .str 900]
def udpS : Sp := .agg [spI, spI, .str 100]
theorem enc05 : Ax.Told Tryz.prog tab.ng 21 [arpS] (enc 500) :=
  told_of_parts (G := G1) (room := 400) (n := 200) (k := 14) (d := 80) tab_right ifs_right (sumsL_ok sums1_ok) ng_pos (by kernel_rfl)
theorem enc08 : Ax.Told Tryz.prog tab.ng 13 [icmS] (enc 700) :=
  told_of_parts (G := G1) (room := 400) (n := 200) (k := 14) (d := 80) tab_right ifs_right (sumsL_ok sums1_ok) ng_pos (by kernel_rfl)
theorem enc10 : Ax.Told Tryz.prog tab.ng 54 [spI, spI, udpS] (enc 300) :=
  told_of_parts (G := G1) (room := 400) (n := 200) (k := 14) (d := 80) tab_right ifs_right (sumsL_ok sums1_ok) ng_pos (by kernel_rfl)
theorem enc04 : Ax.Told Tryz.prog tab.ng 14 [frmS] (enc 1000) :=
  told_of_parts (G := G1) (room := 400) (n := 200) (k := 14) (d := 80) tab_right ifs_right (sumsL_ok sums1_ok) ng_pos (by kernel_rfl)
theorem enc06 : Ax.Told Tryz.prog tab.ng 11 [pktS] (enc 900) :=
  told_of_parts (G := G1) (room := 400) (n := 200) (k := 14) (d := 80) tab_right ifs_right (sumsL_ok sums1_ok) ng_pos (by kernel_rfl)
theorem enc11 : Ax.Told Tryz.prog tab.ng 55 [spI, spI, segS] (enc 300) :=
  told_of_parts (G := G1) (room := 400) (n := 200) (k := 14) (d := 80) tab_right ifs_right (sumsL_ok sums1_ok) ng_pos (by kernel_rfl)
noncomputable def sums2 : List (Nat × Sum) := (21, sumSp [arpS] (enc 500)) :: (13, sumSp [icmS] (enc 700)) :: (54, sumSp [spI, spI, udpS] (enc 300)) :: (14, sumSp [frmS] (enc 1000)) :: (11, sumSp [pktS] (enc 900)) :: (55, sumSp [spI, spI, segS] (enc 300)) :: sums1
theorem sums2_ok : AllS Tryz.prog tab sums2 :=
  .cons (AllS.told ng_pos enc05) Tryz.call21 <|
  .cons (AllS.told ng_pos enc08) Tryz.call13 <|
  .cons (AllS.told ng_pos enc10) Tryz.call54 <|
  .cons (AllS.told ng_pos enc04) Tryz.call14 <|
  .cons (AllS.told ng_pos enc06) Tryz.call11 <|
  .cons (AllS.told ng_pos enc11) Tryz.call55 sums1_ok
noncomputable def G2 : Env := ⟨tab, ifs, sumsL sums2⟩
def big : Nat := 9223372036854775807
def arpCallS : Sp := .agg [.int .u8 0 255, spI, spI, spI, spI, .str big, spI, spI, spI, spI, spI, spI]
def frameRawS : Sp := .agg [spI, spI, spI, spI, spI, spI, .str big, .int .u8 0 255, spI, spI, spI, spI, .str big, spI, spI, spI, spI, spI, spI]
theorem frame_told : Ax.Told Tryz.prog tab.ng 51 [.str 900, spI, spI] (.str 1000) :=
  told_of_parts (G := G2) (room := 400) (n := 200) (k := 14) (d := 80) tab_right ifs_right (sumsL_ok sums2_ok) ng_pos (by kernel_rfl)
theorem message_told : Ax.Told Tryz.prog tab.ng 50 [arpCallS] arpS :=
  told_of_parts (G := G2) (room := 400) (n := 200) (k := 14) (d := 80) tab_right ifs_right (sumsL_ok sums2_ok) ng_pos (by kernel_rfl)
end Go.Proofs.YthfllbmlhhkhmaaGreatDoor
namespace Go.Proofs.YthfllbmlhhkhmaaGreatDoor
open Go Go.Ax Go.RowKit Go.Proofs
noncomputable def sums3 : List (Nat × Sum) := (51, sumSp [.str 900, spI, spI] (.str 1000)) :: (50, sumSp [arpCallS] arpS) :: sums2
theorem sums3_ok : AllS Tryz.prog tab sums3 :=
  .cons (AllS.told ng_pos frame_told) Tryz.call51 <|
  .cons (AllS.told ng_pos message_told) Tryz.call50 sums2_ok
noncomputable def G3 : Env := ⟨tab, ifs, sumsL sums3⟩
end Go.Proofs.YthfllbmlhhkhmaaGreatDoor
