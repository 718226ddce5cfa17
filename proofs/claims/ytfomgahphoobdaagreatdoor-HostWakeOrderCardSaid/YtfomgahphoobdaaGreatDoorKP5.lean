/-
  The law on the order of waking: 5 waiting calls, one datagram after the other. Conditions: none.
-/
import Derived.Test.YtfomgahphoobdaaGreatDoorKSy
namespace Go.Proofs.YtfomgahphoobdaaGreatDoor
open Go Go.Ax Go.RowKit Go.Proofs
theorem wke5T : exploreP specF GF 200 4 (fun c v => (Sp.lit true).chk c v) 17 3 [] (wf (wkM true wkw) (⟨.lss, .var 14, .lit (.ofNat 1), true⟩ :: wkA5)) = true := by kernel_rfl
theorem wkv5Tt : HopC 0 specF GF 200 17 (wf (wkM true wkw) (⟨.lss, .lit (.ofNat 6), .var 14, true⟩ :: ⟨.lss, .var 14, .lit (.ofNat 1), false⟩ :: wkA5)) [2, 0] [(22, .lit (.ofNat 6))] [8, 9, 10, 11, 12, 13, 14, 15, 16, 17, 18, 19, 20, 21, 122, 120, 66, 59, 61, 63, 70, 68, 422, 604, 65, 64, 55, 54, 53, 52, 349, 58, 56, 57, 221, 293, 241, 1404, 115, 108, 110, 112, 119, 117, 937, 1194, 114, 113, 104, 103, 102, 101, 818, 107, 105, 181, 182, 184, 106, 139, 1868, 159, 121, 126, 208] (wkN5 true wkw) := by unfold HopC; kernel_rfl
theorem wkv5Tf : HopC 0 specF GF 200 17 (wf (wkM true wkw) (⟨.lss, .lit (.ofNat 6), .var 14, false⟩ :: ⟨.lss, .var 14, .lit (.ofNat 1), false⟩ :: wkA5)) [2, 0] [(22, .var 14)] [8, 9, 10, 11, 12, 13, 14, 15, 16, 17, 18, 19, 20, 21, 122, 120, 66, 59, 61, 63, 70, 68, 422, 604, 65, 64, 55, 54, 53, 52, 349, 58, 56, 57, 221, 293, 241, 1404, 115, 108, 110, 112, 119, 117, 937, 1194, 114, 113, 104, 103, 102, 101, 818, 107, 105, 181, 182, 184, 106, 139, 1868, 159, 121, 126, 208] (wkN5 true wkw) := by unfold HopC; kernel_rfl
theorem wkz5T1 : exploreP specF GF 200 4 (fun c v => (Sp.lit true).chk c v) 17 3 [] (wr (wkN5 true wkw) 1 (wkex 1 (wkX wkA5))) = true := by kernel_rfl
theorem wkh5T2 : HopC 0 specF GF 200 17 (wr (wkN5 true wkw) 2 (wkup 2 (wkX wkA5))) [5, 2, 1] [] [8, 9, 10, 11, 12, 13, 14, 15, 16, 17, 18, 19, 20, 21, 122, 120, 66, 59, 61, 63, 70, 68, 422, 604, 65, 64, 55, 54, 53, 52, 349, 58, 56, 1939, 1940, 1942, 57, 221, 293, 241, 2527, 115, 108, 110, 112, 119, 117, 937, 1194, 114, 113, 104, 103, 102, 101, 818, 107, 105, 181, 182, 184, 106, 139, 2614, 2748, 159, 121, 126, 2757, 208, 2337, 2663] wkK5 := by unfold HopC; kernel_rfl
theorem wkz5T2 : exploreP specF GF 200 4 (fun c v => (Sp.lit true).chk c v) 17 3 [] (wr wkK5 2 (wkex 2 (wkX wkA5))) = true := by kernel_rfl
theorem wkz5T3 : exploreP specF GF 200 4 (fun c v => (Sp.lit true).chk c v) 17 3 [] (wr wkK5 3 (wkex 3 (wkX wkA5))) = true := by kernel_rfl
theorem wkh5T4 : HopC 0 specF GF 200 17 (wr wkK5 4 (wkup 4 (wkX wkA5))) [5, 2, 1, 0] [] [8, 9, 10, 11, 12, 13, 14, 15, 16, 17, 18, 19, 20, 21, 122, 120, 66, 59, 61, 63, 70, 68, 422, 604, 65, 64, 55, 54, 53, 52, 349, 58, 56, 1939, 1940, 1942, 57, 221, 293, 241, 3353, 115, 108, 110, 112, 119, 117, 937, 1194, 114, 113, 104, 103, 102, 101, 818, 107, 105, 181, 182, 184, 106, 139, 3440, 3546, 159, 121, 126, 3555, 208, 3163, 3475] wkL5 := by unfold HopC; kernel_rfl
theorem wkz5T4 : exploreP specF GF 200 4 (fun c v => (Sp.lit true).chk c v) 17 3 [] (wr wkL5 4 (wkex 4 (wkX wkA5))) = true := by kernel_rfl
theorem wkz5T5 : exploreP specF GF 200 4 (fun c v => (Sp.lit true).chk c v) 17 3 [] (wr wkL5 5 (wkex 5 (wkX wkA5))) = true := by kernel_rfl
theorem wkz5T6 : exploreP specF GF 200 4 (fun c v => (Sp.lit true).chk c v) 17 3 [] (wr wkL5 6 (wkup 6 (wkX wkA5))) = true := by kernel_rfl
end Go.Proofs.YtfomgahphoobdaaGreatDoor
