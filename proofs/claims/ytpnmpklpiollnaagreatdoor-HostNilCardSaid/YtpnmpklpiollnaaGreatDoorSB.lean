/-
  The generators of the host laws, explored: each encoder of the document, FrameOf and CallOf return for every input, and nothing that was there is changed. Conditions: none.
-/
import Derived.Test.YtpnmpklpiollnaaGreatDoorSA
import Derived.Test.YtpnmpklpiollnaaGreatDoorTabsOK
import Derived.Test.YtpnmpklpiollnaaGreatDoorAxE
namespace Go.Proofs.YtpnmpklpiollnaaGreatDoor
open Go Go.Ax Go.RowKit

theorem ng_pos : 0 < tab.ng := by show 0 < 8; decide

theorem checksum_told : Ax.Told Tryz.prog tab.ng 105 [.str 1099511627776] (.int .i64 0 65535) := by
  intro w vs _ hv
  obtain ⟨a, rfl, ha⟩ := hasL_one hv
  simp only [Sp.has] at ha
  obtain ⟨s, rfl, hs⟩ := ha
  refine (refChecksum_any s w hs).mono ?_
  rintro e w' ⟨r, rfl, r0, r1, rfl⟩
  refine ⟨_, rfl, ?_, Below.refl _ _⟩
  simp only [Sp.has]
  exact ⟨r, rfl, r0, r1⟩
theorem crc_told : Ax.Told Tryz.prog tab.ng 76 [.str 1099511627776] (.int .i64 0 4294967295) := by
  intro w vs _ hv
  obtain ⟨a, rfl, ha⟩ := hasL_one hv
  simp only [Sp.has] at ha
  obtain ⟨s, rfl, hs⟩ := ha
  refine (refCRC32_any s w hs).mono ?_
  rintro e w' ⟨r, rfl, r0, r1, rfl⟩
  refine ⟨_, rfl, ?_, Below.refl _ _⟩
  simp only [Sp.has]
  exact ⟨r, rfl, r0, r1⟩

noncomputable def sums1 : List (Nat × Sum) := [(28, pickSum), (101, pickSum), (105, sumSp [.str 1099511627776] (.int .i64 0 65535)), (76, sumSp [.str 1099511627776] (.int .i64 0 4294967295))]
theorem sums1_ok : AllS Tryz.prog tab sums1 :=
  .cons (fun _ _ _ => pickSum_ok fun z n w => pick25_any z n w) Tryz.call28 <|
  .cons (fun _ _ _ => pickSum_ok fun z n w => pick05_any z n w) Tryz.call101 <|
  .cons (AllS.told ng_pos checksum_told) Tryz.call105 <|
  .cons (AllS.told ng_pos crc_told) Tryz.call76 .nil
noncomputable def G1 : Env := ⟨tab, ifs, sumsL sums1⟩

def enc (m : Nat) : Sp := .tup [.str m, .int .i64 0 1000]
def arpS : Sp := .agg [spI, spI, spI, spI, spI]
def pktS : Sp := .agg [spI, spI, spI, spI, spI, .bool, .bool, spI, .str 1048576]
def segS : Sp := .agg [spI, spI, spI, spI, .bool, .bool, .bool, .bool, spI, spI, .bool, .nils, .str 1048576]
def icmS : Sp := .agg [spI, spI, spI, .str 1048576]
def frmS : Sp := .agg [spI, spI, spI, .str 2000000]
def udpS : Sp := .agg [spI, spI, .str 1048576]

theorem enc05 : Ax.Told Tryz.prog tab.ng 18 [arpS] (enc 1000) :=
  told_of_parts (G := G1) (room := 400) (n := 200) (k := 14) (d := 80) tab_right ifs_right (sumsL_ok sums1_ok) ng_pos (by kernel_rfl)
theorem enc08 : Ax.Told Tryz.prog tab.ng 31 [icmS] (enc 2000) :=
  told_of_parts (G := G1) (room := 400) (n := 200) (k := 14) (d := 80) tab_right ifs_right (sumsL_ok sums1_ok) ng_pos (by kernel_rfl)
theorem enc10 : Ax.Told Tryz.prog tab.ng 34 [spI, spI, udpS] (enc 5000) :=
  told_of_parts (G := G1) (room := 400) (n := 200) (k := 14) (d := 80) tab_right ifs_right (sumsL_ok sums1_ok) ng_pos (by kernel_rfl)
theorem enc04 : Ax.Told Tryz.prog tab.ng 19 [frmS] (enc 2000) :=
  told_of_parts (G := G1) (room := 400) (n := 200) (k := 14) (d := 80) tab_right ifs_right (sumsL_ok sums1_ok) ng_pos (by kernel_rfl)
theorem enc06 : Ax.Told Tryz.prog tab.ng 36 [pktS] (enc 1100000) :=
  told_of_parts (G := G1) (room := 400) (n := 200) (k := 14) (d := 80) tab_right ifs_right (sumsL_ok sums1_ok) ng_pos (by kernel_rfl)
theorem enc11 : Ax.Told Tryz.prog tab.ng 35 [spI, spI, segS] (enc 5000) :=
  told_of_parts (G := G1) (room := 400) (n := 200) (k := 14) (d := 80) tab_right ifs_right (sumsL_ok sums1_ok) ng_pos (by kernel_rfl)

noncomputable def sums2 : List (Nat × Sum) := (18, sumSp [arpS] (enc 1000)) :: (31, sumSp [icmS] (enc 2000)) :: (34, sumSp [spI, spI, udpS] (enc 5000)) :: (19, sumSp [frmS] (enc 2000)) :: (36, sumSp [pktS] (enc 1100000)) :: (35, sumSp [spI, spI, segS] (enc 5000)) :: sums1
theorem sums2_ok : AllS Tryz.prog tab sums2 :=
  .cons (AllS.told ng_pos enc05) Tryz.call18 <|
  .cons (AllS.told ng_pos enc08) Tryz.call31 <|
  .cons (AllS.told ng_pos enc10) Tryz.call34 <|
  .cons (AllS.told ng_pos enc04) Tryz.call19 <|
  .cons (AllS.told ng_pos enc06) Tryz.call36 <|
  .cons (AllS.told ng_pos enc11) Tryz.call35 sums1_ok
noncomputable def G2 : Env := ⟨tab, ifs, sumsL sums2⟩
def big : Nat := 9223372036854775807
def arpCallS : Sp := .agg [.int .u8 0 255, spI, spI, spI, spI, .str big, spI, spI, spI, spI, spI, spI]
def frameRawS : Sp := .agg [spI, spI, spI, spI, spI, spI, .str big, .int .u8 0 255, spI, spI, spI, spI, .str big, spI, spI, spI, spI, spI, spI]
def callRawS : Sp := .agg [spI, spI, spI, spI, spI, .str big]
def callS : Sp := .agg [spI, spI, spI, spI, spI, .str big, spI, spI]
theorem frame_told : Ax.Told Tryz.prog tab.ng 30 [.str 2000000, spI, spI] (.str 5000) :=
  told_of_parts (G := G2) (room := 400) (n := 200) (k := 14) (d := 80) tab_right ifs_right (sumsL_ok sums2_ok) ng_pos (by kernel_rfl)
theorem message_told : Ax.Told Tryz.prog tab.ng 29 [arpCallS] arpS :=
  told_of_parts (G := G2) (room := 400) (n := 200) (k := 14) (d := 80) tab_right ifs_right (sumsL_ok sums2_ok) ng_pos (by kernel_rfl)
theorem callOf_told : Ax.Told Tryz.prog tab.ng 9 [callRawS] callS :=
  told_of_parts (G := G2) (room := 400) (n := 200) (k := 14) (d := 80) tab_right ifs_right (sumsL_ok sums2_ok) ng_pos (by kernel_rfl)

end Go.Proofs.YtpnmpklpiollnaaGreatDoor

/-! FrameOf, the generator of a third party's frames, explored: it returns a text for every input, and nothing that was there is changed. Conditions: none. -/
namespace Go.Proofs.YtpnmpklpiollnaaGreatDoor
open Go Go.Ax Go.RowKit

noncomputable def sums3 : List (Nat × Sum) := (30, sumSp [.str 2000000, spI, spI] (.str 5000)) :: (29, sumSp [arpCallS] arpS) :: sums2
theorem sums3_ok : AllS Tryz.prog tab sums3 :=
  .cons (AllS.told ng_pos frame_told) Tryz.call30 <|
  .cons (AllS.told ng_pos message_told) Tryz.call29 sums2_ok
noncomputable def G3 : Env := ⟨tab, ifs, sumsL sums3⟩
end Go.Proofs.YtpnmpklpiollnaaGreatDoor
