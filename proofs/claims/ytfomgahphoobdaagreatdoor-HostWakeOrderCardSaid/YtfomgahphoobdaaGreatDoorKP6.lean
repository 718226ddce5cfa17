/-
  The law on the order of waking: 6 waiting calls, one datagram after the other. Conditions: none.
-/
import Derived.Test.YtfomgahphoobdaaGreatDoorKSy
namespace Go.Proofs.YtfomgahphoobdaaGreatDoor
open Go Go.Ax Go.RowKit Go.Proofs
theorem wke6T : exploreP specF GF 200 4 (fun c v => (Sp.lit true).chk c v) 17 3 [] (wf (wkM true wkw) (⟨.lss, .var 14, .lit (.ofNat 1), true⟩ :: wkA6)) = true := by kernel_rfl
theorem wkv6Tt : HopC 0 specF GF 200 17 (wf (wkM true wkw) (⟨.lss, .lit (.ofNat 6), .var 14, true⟩ :: ⟨.lss, .var 14, .lit (.ofNat 1), false⟩ :: wkA6)) [2, 1] [(22, .lit (.ofNat 6))] [8, 9, 10, 11, 12, 13, 14, 15, 16, 17, 18, 19, 20, 21, 122, 120, 66, 59, 61, 63, 70, 68, 422, 604, 65, 64, 55, 54, 53, 52, 349, 58, 56, 57, 221, 293, 241, 1404, 115, 108, 110, 112, 119, 117, 937, 1194, 114, 113, 104, 103, 102, 101, 818, 107, 105, 181, 182, 184, 106, 139, 1940, 159, 121, 126, 208] (wkN6 true wkw) := by unfold HopC; kernel_rfl
theorem wkv6Tf : HopC 0 specF GF 200 17 (wf (wkM true wkw) (⟨.lss, .lit (.ofNat 6), .var 14, false⟩ :: ⟨.lss, .var 14, .lit (.ofNat 1), false⟩ :: wkA6)) [2, 1] [(22, .var 14)] [8, 9, 10, 11, 12, 13, 14, 15, 16, 17, 18, 19, 20, 21, 122, 120, 66, 59, 61, 63, 70, 68, 422, 604, 65, 64, 55, 54, 53, 52, 349, 58, 56, 57, 221, 293, 241, 1404, 115, 108, 110, 112, 119, 117, 937, 1194, 114, 113, 104, 103, 102, 101, 818, 107, 105, 181, 182, 184, 106, 139, 1940, 159, 121, 126, 208] (wkN6 true wkw) := by unfold HopC; kernel_rfl
theorem wkz6T1 : exploreP specF GF 200 4 (fun c v => (Sp.lit true).chk c v) 17 3 [] (wr (wkN6 true wkw) 1 (wkex 1 (wkX wkA6))) = true := by kernel_rfl
theorem wkh6T2 : HopC 0 specF GF 200 17 (wr (wkN6 true wkw) 2 (wkup 2 (wkX wkA6))) [5, 2, 1] [] [8, 9, 10, 11, 12, 13, 14, 15, 16, 17, 18, 19, 20, 21, 122, 120, 66, 59, 61, 63, 70, 68, 422, 604, 65, 64, 55, 54, 53, 52, 349, 58, 56, 2011, 2012, 2014, 57, 221, 293, 241, 2613, 115, 108, 110, 112, 119, 117, 937, 1194, 114, 113, 104, 103, 102, 101, 818, 107, 105, 181, 182, 184, 106, 139, 2700, 2848, 159, 121, 126, 2857, 208, 2423, 2756] wkK6 := by unfold HopC; kernel_rfl
theorem wkz6T2 : exploreP specF GF 200 4 (fun c v => (Sp.lit true).chk c v) 17 3 [] (wr wkK6 2 (wkex 2 (wkX wkA6))) = true := by kernel_rfl
theorem wkz6T3 : exploreP specF GF 200 4 (fun c v => (Sp.lit true).chk c v) 17 3 [] (wr wkK6 3 (wkex 3 (wkX wkA6))) = true := by kernel_rfl
theorem wkh6T4 : HopC 0 specF GF 200 17 (wr wkK6 4 (wkup 4 (wkX wkA6))) [5, 2, 1, 0] [] [8, 9, 10, 11, 12, 13, 14, 15, 16, 17, 18, 19, 20, 21, 122, 120, 66, 59, 61, 63, 70, 68, 422, 604, 65, 64, 55, 54, 53, 52, 349, 58, 56, 2011, 2012, 2014, 57, 221, 293, 241, 3467, 115, 108, 110, 112, 119, 117, 937, 1194, 114, 113, 104, 103, 102, 101, 818, 107, 105, 181, 182, 184, 106, 139, 3554, 3674, 159, 121, 126, 3683, 208, 3277, 3596] wkL6 := by unfold HopC; kernel_rfl
theorem wkz6T4 : exploreP specF GF 200 4 (fun c v => (Sp.lit true).chk c v) 17 3 [] (wr wkL6 4 (wkex 4 (wkX wkA6))) = true := by kernel_rfl
theorem wkz6T5 : exploreP specF GF 200 4 (fun c v => (Sp.lit true).chk c v) 17 3 [] (wr wkL6 5 (wkex 5 (wkX wkA6))) = true := by kernel_rfl
theorem wkz6T6 : exploreP specF GF 200 4 (fun c v => (Sp.lit true).chk c v) 17 3 [] (wr wkL6 6 (wkup 6 (wkX wkA6))) = true := by kernel_rfl
end Go.Proofs.YtfomgahphoobdaaGreatDoor
