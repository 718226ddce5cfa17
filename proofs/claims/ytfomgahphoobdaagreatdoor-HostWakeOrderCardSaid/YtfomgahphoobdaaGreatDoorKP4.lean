/-
  The law on the order of waking: 4 waiting calls, one datagram after the other. Conditions: none.
-/
import Derived.Test.YtfomgahphoobdaaGreatDoorKSy
namespace Go.Proofs.YtfomgahphoobdaaGreatDoor
open Go Go.Ax Go.RowKit Go.Proofs
theorem wke4T : exploreP specF GF 200 4 (fun c v => (Sp.lit true).chk c v) 17 3 [] (wf (wkM true wkw) (⟨.lss, .var 14, .lit (.ofNat 1), true⟩ :: wkA4)) = true := by kernel_rfl
theorem wkv4Tt : HopC 0 specF GF 200 17 (wf (wkM true wkw) (⟨.lss, .lit (.ofNat 6), .var 14, true⟩ :: ⟨.lss, .var 14, .lit (.ofNat 1), false⟩ :: wkA4)) [2] [(22, .lit (.ofNat 6))] [8, 9, 10, 11, 12, 13, 14, 15, 16, 17, 18, 19, 20, 21, 122, 120, 66, 59, 61, 63, 70, 68, 422, 604, 65, 64, 55, 54, 53, 52, 349, 58, 56, 57, 221, 293, 241, 1404, 115, 108, 110, 112, 119, 117, 937, 1194, 114, 113, 104, 103, 102, 101, 818, 107, 105, 181, 182, 184, 106, 139, 1803, 159, 121, 126, 208] (wkN4 true wkw) := by unfold HopC; kernel_rfl
theorem wkv4Tf : HopC 0 specF GF 200 17 (wf (wkM true wkw) (⟨.lss, .lit (.ofNat 6), .var 14, false⟩ :: ⟨.lss, .var 14, .lit (.ofNat 1), false⟩ :: wkA4)) [2] [(22, .var 14)] [8, 9, 10, 11, 12, 13, 14, 15, 16, 17, 18, 19, 20, 21, 122, 120, 66, 59, 61, 63, 70, 68, 422, 604, 65, 64, 55, 54, 53, 52, 349, 58, 56, 57, 221, 293, 241, 1404, 115, 108, 110, 112, 119, 117, 937, 1194, 114, 113, 104, 103, 102, 101, 818, 107, 105, 181, 182, 184, 106, 139, 1803, 159, 121, 126, 208] (wkN4 true wkw) := by unfold HopC; kernel_rfl
theorem wkz4T1 : exploreP specF GF 200 4 (fun c v => (Sp.lit true).chk c v) 17 3 [] (wr (wkN4 true wkw) 1 (wkex 1 (wkX wkA4))) = true := by kernel_rfl
theorem wkh4T2 : HopC 0 specF GF 200 17 (wr (wkN4 true wkw) 2 (wkup 2 (wkX wkA4))) [5, 2, 1] [] [8, 9, 10, 11, 12, 13, 14, 15, 16, 17, 18, 19, 20, 21, 122, 120, 66, 59, 61, 63, 70, 68, 422, 604, 65, 64, 55, 54, 53, 52, 349, 58, 56, 1874, 1875, 1877, 57, 221, 293, 241, 2448, 115, 108, 110, 112, 119, 117, 937, 1194, 114, 113, 104, 103, 102, 101, 818, 107, 105, 181, 182, 184, 106, 139, 2535, 2655, 159, 121, 126, 2664, 208, 2258, 2577] wkK4 := by unfold HopC; kernel_rfl
theorem wkz4T2 : exploreP specF GF 200 4 (fun c v => (Sp.lit true).chk c v) 17 3 [] (wr wkK4 2 (wkex 2 (wkX wkA4))) = true := by kernel_rfl
theorem wkz4T3 : exploreP specF GF 200 4 (fun c v => (Sp.lit true).chk c v) 17 3 [] (wr wkK4 3 (wkex 3 (wkX wkA4))) = true := by kernel_rfl
theorem wkh4T4 : HopC 0 specF GF 200 17 (wr wkK4 4 (wkup 4 (wkX wkA4))) [5, 2, 1, 0] [] [8, 9, 10, 11, 12, 13, 14, 15, 16, 17, 18, 19, 20, 21, 122, 120, 66, 59, 61, 63, 70, 68, 422, 604, 65, 64, 55, 54, 53, 52, 349, 58, 56, 1874, 1875, 1877, 57, 221, 293, 241, 3246, 115, 108, 110, 112, 119, 117, 937, 1194, 114, 113, 104, 103, 102, 101, 818, 107, 105, 181, 182, 184, 106, 139, 3333, 159, 121, 126, 3434, 208, 3056, 3361] wkL4 := by unfold HopC; kernel_rfl
theorem wkz4T4 : exploreP specF GF 200 4 (fun c v => (Sp.lit true).chk c v) 17 3 [] (wr wkL4 4 (wkex 4 (wkX wkA4))) = true := by kernel_rfl
theorem wkz4T5 : exploreP specF GF 200 4 (fun c v => (Sp.lit true).chk c v) 17 3 [] (wr wkL4 5 (wkex 5 (wkX wkA4))) = true := by kernel_rfl
theorem wkz4T6 : exploreP specF GF 200 4 (fun c v => (Sp.lit true).chk c v) 17 3 [] (wr wkL4 6 (wkup 6 (wkX wkA4))) = true := by kernel_rfl
end Go.Proofs.YtfomgahphoobdaaGreatDoor
