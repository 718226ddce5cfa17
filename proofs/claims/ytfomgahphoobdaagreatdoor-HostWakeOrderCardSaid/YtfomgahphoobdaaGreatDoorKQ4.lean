/-
  The law on the order of waking: 4 waiting calls, all datagrams at once. Conditions: none.
-/
import Derived.Test.YtfomgahphoobdaaGreatDoorKSy
namespace Go.Proofs.YtfomgahphoobdaaGreatDoor
open Go Go.Ax Go.RowKit Go.Proofs
theorem wke4F : exploreP specF GF 200 4 (fun c v => (Sp.lit true).chk c v) 17 3 [] (wf (wkM false wkw) (⟨.lss, .var 14, .lit (.ofNat 1), true⟩ :: wkA4)) = true := by kernel_rfl
theorem wkv4Ft : HopC 0 specF GF 200 17 (wf (wkM false wkw) (⟨.lss, .lit (.ofNat 6), .var 14, true⟩ :: ⟨.lss, .var 14, .lit (.ofNat 1), false⟩ :: wkA4)) [2] [(22, .lit (.ofNat 6))] [8, 9, 10, 11, 12, 13, 14, 15, 16, 17, 18, 19, 20, 21, 122, 120, 66, 59, 61, 63, 70, 68, 422, 604, 65, 64, 55, 54, 53, 52, 349, 58, 56, 57, 221, 293, 241, 1404, 115, 108, 110, 112, 119, 117, 937, 1194, 114, 113, 104, 103, 102, 101, 818, 107, 105, 181, 182, 184, 106, 139, 1803, 159, 121, 126, 208] (wkN4 false wkw) := by unfold HopC; kernel_rfl
theorem wkv4Ff : HopC 0 specF GF 200 17 (wf (wkM false wkw) (⟨.lss, .lit (.ofNat 6), .var 14, false⟩ :: ⟨.lss, .var 14, .lit (.ofNat 1), false⟩ :: wkA4)) [2] [(22, .var 14)] [8, 9, 10, 11, 12, 13, 14, 15, 16, 17, 18, 19, 20, 21, 122, 120, 66, 59, 61, 63, 70, 68, 422, 604, 65, 64, 55, 54, 53, 52, 349, 58, 56, 57, 221, 293, 241, 1404, 115, 108, 110, 112, 119, 117, 937, 1194, 114, 113, 104, 103, 102, 101, 818, 107, 105, 181, 182, 184, 106, 139, 1803, 159, 121, 126, 208] (wkN4 false wkw) := by unfold HopC; kernel_rfl
theorem wkz4F1 : exploreP specF GF 200 4 (fun c v => (Sp.lit true).chk c v) 17 3 [] (wr (wkN4 false wkw) 1 (wkex 1 (wkX wkA4))) = true := by kernel_rfl
theorem wkh4F2 : HopC 0 specF GF 200 17 (wr (wkN4 false wkw) 2 (wkup 2 (wkX wkA4))) [5, 1] [] [8, 9, 10, 11, 12, 13, 14, 15, 16, 17, 18, 19, 20, 21, 122, 120, 66, 59, 61, 63, 70, 68, 422, 604, 65, 64, 55, 54, 53, 52, 349, 58, 56, 1874, 1875, 1877, 57, 221, 293, 241, 2209, 2204, 115, 108, 110, 112, 119, 117, 937, 1194, 114, 113, 104, 103, 102, 101, 818, 107, 105, 181, 182, 184, 106, 139, 1803, 159, 121, 126, 208] wkP4 := by unfold HopC; kernel_rfl
theorem wkz4F2 : exploreP specF GF 200 4 (fun c v => (Sp.lit true).chk c v) 17 3 [] (wr wkP4 2 (wkex 2 (wkX wkA4))) = true := by kernel_rfl
theorem wkz4F3 : exploreP specF GF 200 4 (fun c v => (Sp.lit true).chk c v) 17 3 [] (wr wkP4 3 (wkex 3 (wkX wkA4))) = true := by kernel_rfl
theorem wkh4F4 : HopC 0 specF GF 200 17 (wr wkP4 4 (wkup 4 (wkX wkA4))) [5, 1, 0] [] [8, 9, 10, 11, 12, 13, 14, 15, 16, 17, 18, 19, 20, 21, 122, 120, 66, 59, 61, 63, 70, 68, 422, 604, 65, 64, 55, 54, 53, 52, 349, 58, 56, 1874, 1875, 1877, 57, 221, 293, 241, 2589, 2584, 115, 108, 110, 112, 119, 117, 937, 1194, 114, 113, 104, 103, 102, 101, 818, 107, 105, 181, 182, 184, 106, 139, 1803, 159, 121, 126, 208] wkR4 := by unfold HopC; kernel_rfl
theorem wkz4F4 : exploreP specF GF 200 4 (fun c v => (Sp.lit true).chk c v) 17 3 [] (wr wkR4 4 (wkex 4 (wkX wkA4))) = true := by kernel_rfl
theorem wkz4F5 : exploreP specF GF 200 4 (fun c v => (Sp.lit true).chk c v) 17 3 [] (wr wkR4 5 (wkex 5 (wkX wkA4))) = true := by kernel_rfl
theorem wkz4F6 : exploreP specF GF 200 4 (fun c v => (Sp.lit true).chk c v) 17 3 [] (wr wkR4 6 (wkup 6 (wkX wkA4))) = true := by kernel_rfl
end Go.Proofs.YtfomgahphoobdaaGreatDoor
