/-
  The law on the order of waking: 3 waiting calls, one datagram after the other. Conditions: none.
-/
import Derived.Test.YtfomgahphoobdaaGreatDoorKSy
namespace Go.Proofs.YtfomgahphoobdaaGreatDoor
open Go Go.Ax Go.RowKit Go.Proofs
theorem wke3T : exploreP specF GF 200 4 (fun c v => (Sp.lit true).chk c v) 17 3 [] (wf (wkM true wkw) (⟨.lss, .var 14, .lit (.ofNat 1), true⟩ :: wkA3)) = true := by kernel_rfl
theorem wkv3Tt : HopC 0 specF GF 200 17 (wf (wkM true wkw) (⟨.lss, .lit (.ofNat 6), .var 14, true⟩ :: ⟨.lss, .var 14, .lit (.ofNat 1), false⟩ :: wkA3)) [1, 0] [(22, .lit (.ofNat 6))] [8, 9, 10, 11, 12, 13, 14, 15, 16, 17, 18, 19, 20, 21, 122, 120, 66, 59, 61, 63, 70, 68, 422, 604, 65, 64, 55, 54, 53, 52, 349, 58, 56, 57, 221, 293, 241, 1404, 115, 108, 110, 112, 119, 117, 937, 1194, 114, 113, 104, 103, 102, 101, 818, 107, 105, 181, 182, 184, 106, 139, 1745, 159, 121, 126, 208] (wkN3 true wkw) := by unfold HopC; kernel_rfl
theorem wkv3Tf : HopC 0 specF GF 200 17 (wf (wkM true wkw) (⟨.lss, .lit (.ofNat 6), .var 14, false⟩ :: ⟨.lss, .var 14, .lit (.ofNat 1), false⟩ :: wkA3)) [1, 0] [(22, .var 14)] [8, 9, 10, 11, 12, 13, 14, 15, 16, 17, 18, 19, 20, 21, 122, 120, 66, 59, 61, 63, 70, 68, 422, 604, 65, 64, 55, 54, 53, 52, 349, 58, 56, 57, 221, 293, 241, 1404, 115, 108, 110, 112, 119, 117, 937, 1194, 114, 113, 104, 103, 102, 101, 818, 107, 105, 181, 182, 184, 106, 139, 1745, 159, 121, 126, 208] (wkN3 true wkw) := by unfold HopC; kernel_rfl
theorem wkz3T1 : exploreP specF GF 200 4 (fun c v => (Sp.lit true).chk c v) 17 3 [] (wr (wkN3 true wkw) 1 (wkex 1 (wkX wkA3))) = true := by kernel_rfl
theorem wkh3T2 : HopC 0 specF GF 200 17 (wr (wkN3 true wkw) 2 (wkup 2 (wkX wkA3))) [5, 2, 1] [] [8, 9, 10, 11, 12, 13, 14, 15, 16, 17, 18, 19, 20, 21, 122, 120, 66, 59, 61, 63, 70, 68, 422, 604, 65, 64, 55, 54, 53, 52, 349, 58, 56, 1816, 1817, 1819, 57, 221, 293, 241, 2376, 115, 108, 110, 112, 119, 117, 937, 1194, 114, 113, 104, 103, 102, 101, 818, 107, 105, 181, 182, 184, 106, 139, 2463, 2569, 159, 121, 126, 2578, 208, 2186, 2498] wkK3 := by unfold HopC; kernel_rfl
theorem wkz3T2 : exploreP specF GF 200 4 (fun c v => (Sp.lit true).chk c v) 17 3 [] (wr wkK3 2 (wkex 2 (wkX wkA3))) = true := by kernel_rfl
theorem wkz3T3 : exploreP specF GF 200 4 (fun c v => (Sp.lit true).chk c v) 17 3 [] (wr wkK3 3 (wkex 3 (wkX wkA3))) = true := by kernel_rfl
theorem wkh3T4 : HopC 0 specF GF 200 17 (wr wkK3 4 (wkup 4 (wkX wkA3))) [5, 2, 1, 0] [] [8, 9, 10, 11, 12, 13, 14, 15, 16, 17, 18, 19, 20, 21, 122, 120, 66, 59, 61, 63, 70, 68, 422, 604, 65, 64, 55, 54, 53, 52, 349, 58, 56, 1816, 1817, 1819, 57, 221, 293, 241, 3146, 115, 108, 110, 112, 119, 117, 937, 1194, 114, 113, 104, 103, 102, 101, 818, 107, 105, 181, 182, 184, 106, 139, 3233, 159, 121, 126, 2956, 208] wkL3 := by unfold HopC; kernel_rfl
theorem wkz3T4 : exploreP specF GF 200 4 (fun c v => (Sp.lit true).chk c v) 17 3 [] (wr wkL3 4 (wkex 4 (wkX wkA3))) = true := by kernel_rfl
theorem wkz3T5 : exploreP specF GF 200 4 (fun c v => (Sp.lit true).chk c v) 17 3 [] (wr wkL3 5 (wkex 5 (wkX wkA3))) = true := by kernel_rfl
theorem wkz3T6 : exploreP specF GF 200 4 (fun c v => (Sp.lit true).chk c v) 17 3 [] (wr wkL3 6 (wkup 6 (wkX wkA3))) = true := by kernel_rfl
end Go.Proofs.YtfomgahphoobdaaGreatDoor
