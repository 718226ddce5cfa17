/-
 The law on echo requests: the hop to state 6. Conditions: none.
-/
import Derived.Test.YtmbajnmaeikceaaGreatDoorMUs
namespace Go.Proofs.YtmbajnmaeikceaaGreatDoor
open Go Go.Ax Go.RowKit Go.Proofs
theorem uh6:HopG 5 Q80 GM 200 17 (us5.am 8000) [9,8,7,6,5,3,1,0] [] [16,17,18,19,20,45,41,21,22,23,24,25,3197,114,109,111,118,116,328,543,113,112,105,103,104,101,100,271,108,106,107,217,3198,3193,76,162,156,151,153,160,158,867,1132,155,154,147,146,145,144,764,150,148,149,174,172,175,3192,181,180,177,176,2998,178,2487,31,26,30,46,36,40,38,42,44,48,47] [] us6:=by unfold HopG;kernel_rfl
end Go.Proofs.YtmbajnmaeikceaaGreatDoor
namespace Go.Proofs.YtmbajnmaeikceaaGreatDoor
open Go Go.Ax Go.RowKit Go.Proofs
theorem uz6:Jc Q80 GM 200 4 (λc v=>(Sp.lit true).chk c v) 17 3 [] (us6.am 8000)=true:=by kernel_rfl
end Go.Proofs.YtmbajnmaeikceaaGreatDoor
namespace Go.Proofs.YtmbajnmaeikceaaGreatDoor
open Go Go.Ax Go.RowKit Go.Proofs
theorem uh7:HopG 5 Q80 GM 200 17 (us0f.am 8000) [9,8,7,5,3,2,0] [] [16,17,18,19,20,45,41,21,22,23,24,25,82,231,131,124,126,128,135,133,435,684,130,129,120,118,119,116,115,364,123,121,122,310,701,184,177,179,181,188,186,183,182,173,172,171,170,176,174,175,221,216,218,229,223,227,220,219,212,211,210,215,213,214,253,247,251,664,653,662,254,652,260,259,256,255,484,257,485,31,26,30,51,36,46,40,38,47,48,44,49,54,52,53] [] us7:=by unfold HopG;kernel_rfl
end Go.Proofs.YtmbajnmaeikceaaGreatDoor
namespace Go.Proofs.YtmbajnmaeikceaaGreatDoor
open Go Go.Ax Go.RowKit Go.Proofs
theorem uh8:HopG 5 Q80 GM 200 17 (us7.am 8000) [9,7,6,5,4,3,1] [] [16,17,18,19,20,45,41,21,22,23,24,25,260,259,256,255,484,257,254,82,231,131,124,126,128,135,133,435,684,130,129,120,118,119,116,115,364,123,121,122,310,184,177,179,181,188,186,183,182,173,172,171,170,176,174,175,221,216,218,229,223,227,929,931,930,220,219,212,211,210,215,213,214,253,247,251,1137,485,31,1228,26,30,51,36,46,40,38,47,48,44,49,54,52,53] [] us8:=by unfold HopG;kernel_rfl
end Go.Proofs.YtmbajnmaeikceaaGreatDoor
