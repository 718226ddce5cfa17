/-
  The law on the order of waking: 1 waiting calls, one datagram after the other. Conditions: none.
-/
import Derived.Test.YtfomgahphoobdaaGreatDoorKSy
namespace Go.Proofs.YtfomgahphoobdaaGreatDoor
open Go Go.Ax Go.RowKit Go.Proofs
theorem wke1T : exploreP specF GF 200 4 (fun c v => (Sp.lit true).chk c v) 17 3 [] (wf (wkM true wkw) (⟨.lss, .var 14, .lit (.ofNat 1), true⟩ :: wkA1)) = true := by kernel_rfl
theorem wkv1Tt : HopC 0 specF GF 200 17 (wf (wkM true wkw) (⟨.lss, .lit (.ofNat 6), .var 14, true⟩ :: ⟨.lss, .var 14, .lit (.ofNat 1), false⟩ :: wkA1)) [0] [(22, .lit (.ofNat 6))] [8, 9, 10, 11, 12, 13, 14, 15, 16, 17, 18, 19, 20, 21, 122, 120, 66, 59, 61, 63, 70, 68, 422, 604, 65, 64, 55, 54, 53, 52, 349, 58, 56, 57, 221, 293, 241, 1404, 115, 108, 110, 112, 119, 117, 937, 1194, 114, 113, 104, 103, 102, 101, 818, 107, 105, 181, 182, 184, 106, 139, 1650, 159, 121, 126, 208] (wkN1 true wkw) := by unfold HopC; kernel_rfl
theorem wkv1Tf : HopC 0 specF GF 200 17 (wf (wkM true wkw) (⟨.lss, .lit (.ofNat 6), .var 14, false⟩ :: ⟨.lss, .var 14, .lit (.ofNat 1), false⟩ :: wkA1)) [0] [(22, .var 14)] [8, 9, 10, 11, 12, 13, 14, 15, 16, 17, 18, 19, 20, 21, 122, 120, 66, 59, 61, 63, 70, 68, 422, 604, 65, 64, 55, 54, 53, 52, 349, 58, 56, 57, 221, 293, 241, 1404, 115, 108, 110, 112, 119, 117, 937, 1194, 114, 113, 104, 103, 102, 101, 818, 107, 105, 181, 182, 184, 106, 139, 1650, 159, 121, 126, 208] (wkN1 true wkw) := by unfold HopC; kernel_rfl
theorem wkz1T1 : exploreP specF GF 200 4 (fun c v => (Sp.lit true).chk c v) 17 3 [] (wr (wkN1 true wkw) 1 (wkex 1 (wkX wkA1))) = true := by kernel_rfl
theorem wkh1T2 : HopC 0 specF GF 200 17 (wr (wkN1 true wkw) 2 (wkup 2 (wkX wkA1))) [5, 2, 1] [] [8, 9, 10, 11, 12, 13, 14, 15, 16, 17, 18, 19, 20, 21, 122, 120, 66, 59, 61, 63, 70, 68, 422, 604, 65, 64, 55, 54, 53, 52, 349, 58, 56, 1721, 1722, 1724, 57, 221, 293, 241, 2253, 115, 108, 110, 112, 119, 117, 937, 1194, 114, 113, 104, 103, 102, 101, 818, 107, 105, 181, 182, 184, 106, 139, 2340, 159, 121, 126, 2063, 208] wkK1 := by unfold HopC; kernel_rfl
theorem wkz1T2 : exploreP specF GF 200 4 (fun c v => (Sp.lit true).chk c v) 17 3 [] (wr wkK1 2 (wkex 2 (wkX wkA1))) = true := by kernel_rfl
theorem wkz1T3 : exploreP specF GF 200 4 (fun c v => (Sp.lit true).chk c v) 17 3 [] (wr wkK1 3 (wkex 3 (wkX wkA1))) = true := by kernel_rfl
theorem wkh1T4 : HopC 0 specF GF 200 17 (wr wkK1 4 (wkup 4 (wkX wkA1))) [5, 2, 1, 0] [] [8, 9, 10, 11, 12, 13, 14, 15, 16, 17, 18, 19, 20, 21, 122, 120, 66, 59, 61, 63, 70, 68, 422, 604, 65, 64, 55, 54, 53, 52, 349, 58, 56, 1721, 1722, 1724, 57, 221, 293, 241, 2979, 115, 108, 110, 112, 119, 117, 937, 1194, 114, 113, 104, 103, 102, 101, 818, 107, 105, 181, 182, 184, 106, 139, 3066, 159, 121, 126, 2063, 208] wkL1 := by unfold HopC; kernel_rfl
theorem wkz1T4 : exploreP specF GF 200 4 (fun c v => (Sp.lit true).chk c v) 17 3 [] (wr wkL1 4 (wkex 4 (wkX wkA1))) = true := by kernel_rfl
theorem wkz1T5 : exploreP specF GF 200 4 (fun c v => (Sp.lit true).chk c v) 17 3 [] (wr wkL1 5 (wkex 5 (wkX wkA1))) = true := by kernel_rfl
theorem wkz1T6 : exploreP specF GF 200 4 (fun c v => (Sp.lit true).chk c v) 17 3 [] (wr wkL1 6 (wkup 6 (wkX wkA1))) = true := by kernel_rfl
end Go.Proofs.YtfomgahphoobdaaGreatDoor
