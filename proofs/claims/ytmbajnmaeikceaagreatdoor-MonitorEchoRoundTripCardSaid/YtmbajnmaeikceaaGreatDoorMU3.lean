/-
 The law on echo requests: the hop to state 3. Conditions: none.
-/
import Derived.Test.YtmbajnmaeikceaaGreatDoorMUs
namespace Go.Proofs.YtmbajnmaeikceaaGreatDoor
open Go Go.Ax Go.RowKit Go.Proofs
theorem uh3:HopG 5 Q80 GM 200 17 (us2.am 8000) [9,8,7,6,5,4,2,1] [] [16,17,18,19,20,45,41,21,22,23,24,25,1646,156,151,153,160,158,867,1132,155,154,147,146,145,144,764,150,148,149,1647,1615,76,162,114,109,111,118,116,328,543,113,112,105,103,104,101,100,271,108,106,107,217,174,172,175,1614,181,180,177,176,1420,178,378,31,26,30,46,36,40,38,42,44,48,47] [] us3:=by unfold HopG;kernel_rfl
end Go.Proofs.YtmbajnmaeikceaaGreatDoor
namespace Go.Proofs.YtmbajnmaeikceaaGreatDoor
open Go Go.Ax Go.RowKit Go.Proofs
theorem uh4:HopG 5 Q80 GM 200 17 (us3.am 8000) [10,8,4,3,2] [] [16,17,18,19,20,45,41,21,22,23,24,25,2131,114,109,111,118,116,328,543,113,112,105,103,104,101,100,271,108,106,107,217,2132,2127,76,162,156,151,153,160,158,867,1132,155,154,147,146,145,144,764,150,148,149,174,172,175,2126,181,180,177,176,1420,178,378,31,26,30,46,36,40,38,42,44,48,47] [] us4:=by unfold HopG;kernel_rfl
end Go.Proofs.YtmbajnmaeikceaaGreatDoor
namespace Go.Proofs.YtmbajnmaeikceaaGreatDoor
open Go Go.Ax Go.RowKit Go.Proofs
theorem uh5:HopG 5 Q80 GM 200 17 (us4.am 8000) [9,7,5,4,1,0] [] [16,17,18,19,20,45,41,21,22,23,24,25,76,162,114,109,111,118,116,328,543,113,112,105,103,104,101,100,271,108,106,107,217,156,151,153,160,158,867,1132,155,154,147,146,145,144,764,150,148,149,2727,174,172,2502,2491,2500,175,2490,181,180,177,176,2486,178,2487,31,26,30,46,36,40,38,42,44,48,47] [] us5:=by unfold HopG;kernel_rfl
end Go.Proofs.YtmbajnmaeikceaaGreatDoor
