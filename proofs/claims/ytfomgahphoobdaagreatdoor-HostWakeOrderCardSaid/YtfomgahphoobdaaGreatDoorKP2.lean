/-
  The law on the order of waking: 2 waiting calls, one datagram after the other. Conditions: none.
-/
import Derived.Test.YtfomgahphoobdaaGreatDoorKSy
namespace Go.Proofs.YtfomgahphoobdaaGreatDoor
open Go Go.Ax Go.RowKit Go.Proofs
theorem wke2T : exploreP specF GF 200 4 (fun c v => (Sp.lit true).chk c v) 17 3 [] (wf (wkM true wkw) (⟨.lss, .var 14, .lit (.ofNat 1), true⟩ :: wkA2)) = true := by kernel_rfl
theorem wkv2Tt : HopC 0 specF GF 200 17 (wf (wkM true wkw) (⟨.lss, .lit (.ofNat 6), .var 14, true⟩ :: ⟨.lss, .var 14, .lit (.ofNat 1), false⟩ :: wkA2)) [1] [(22, .lit (.ofNat 6))] [8, 9, 10, 11, 12, 13, 14, 15, 16, 17, 18, 19, 20, 21, 122, 120, 66, 59, 61, 63, 70, 68, 422, 604, 65, 64, 55, 54, 53, 52, 349, 58, 56, 57, 221, 293, 241, 1404, 115, 108, 110, 112, 119, 117, 937, 1194, 114, 113, 104, 103, 102, 101, 818, 107, 105, 181, 182, 184, 106, 139, 1694, 159, 121, 126, 208] (wkN2 true wkw) := by unfold HopC; kernel_rfl
theorem wkv2Tf : HopC 0 specF GF 200 17 (wf (wkM true wkw) (⟨.lss, .lit (.ofNat 6), .var 14, false⟩ :: ⟨.lss, .var 14, .lit (.ofNat 1), false⟩ :: wkA2)) [1] [(22, .var 14)] [8, 9, 10, 11, 12, 13, 14, 15, 16, 17, 18, 19, 20, 21, 122, 120, 66, 59, 61, 63, 70, 68, 422, 604, 65, 64, 55, 54, 53, 52, 349, 58, 56, 57, 221, 293, 241, 1404, 115, 108, 110, 112, 119, 117, 937, 1194, 114, 113, 104, 103, 102, 101, 818, 107, 105, 181, 182, 184, 106, 139, 1694, 159, 121, 126, 208] (wkN2 true wkw) := by unfold HopC; kernel_rfl
theorem wkz2T1 : exploreP specF GF 200 4 (fun c v => (Sp.lit true).chk c v) 17 3 [] (wr (wkN2 true wkw) 1 (wkex 1 (wkX wkA2))) = true := by kernel_rfl
theorem wkh2T2 : HopC 0 specF GF 200 17 (wr (wkN2 true wkw) 2 (wkup 2 (wkX wkA2))) [5, 2, 1] [] [8, 9, 10, 11, 12, 13, 14, 15, 16, 17, 18, 19, 20, 21, 122, 120, 66, 59, 61, 63, 70, 68, 422, 604, 65, 64, 55, 54, 53, 52, 349, 58, 56, 1765, 1766, 1768, 57, 221, 293, 241, 2311, 115, 108, 110, 112, 119, 117, 937, 1194, 114, 113, 104, 103, 102, 101, 818, 107, 105, 181, 182, 184, 106, 139, 2398, 159, 121, 126, 2499, 208, 2121, 2426] wkK2 := by unfold HopC; kernel_rfl
theorem wkz2T2 : exploreP specF GF 200 4 (fun c v => (Sp.lit true).chk c v) 17 3 [] (wr wkK2 2 (wkex 2 (wkX wkA2))) = true := by kernel_rfl
theorem wkz2T3 : exploreP specF GF 200 4 (fun c v => (Sp.lit true).chk c v) 17 3 [] (wr wkK2 3 (wkex 3 (wkX wkA2))) = true := by kernel_rfl
theorem wkh2T4 : HopC 0 specF GF 200 17 (wr wkK2 4 (wkup 4 (wkX wkA2))) [5, 2, 1, 0] [] [8, 9, 10, 11, 12, 13, 14, 15, 16, 17, 18, 19, 20, 21, 122, 120, 66, 59, 61, 63, 70, 68, 422, 604, 65, 64, 55, 54, 53, 52, 349, 58, 56, 1765, 1766, 1768, 57, 221, 293, 241, 3052, 115, 108, 110, 112, 119, 117, 937, 1194, 114, 113, 104, 103, 102, 101, 818, 107, 105, 181, 182, 184, 106, 139, 3139, 159, 121, 126, 2499, 208] wkL2 := by unfold HopC; kernel_rfl
theorem wkz2T4 : exploreP specF GF 200 4 (fun c v => (Sp.lit true).chk c v) 17 3 [] (wr wkL2 4 (wkex 4 (wkX wkA2))) = true := by kernel_rfl
theorem wkz2T5 : exploreP specF GF 200 4 (fun c v => (Sp.lit true).chk c v) 17 3 [] (wr wkL2 5 (wkex 5 (wkX wkA2))) = true := by kernel_rfl
theorem wkz2T6 : exploreP specF GF 200 4 (fun c v => (Sp.lit true).chk c v) 17 3 [] (wr wkL2 6 (wkup 6 (wkX wkA2))) = true := by kernel_rfl
end Go.Proofs.YtfomgahphoobdaaGreatDoor
