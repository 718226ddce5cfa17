/-
 The law on echo requests: the hop to state 0. Conditions: none.
-/
import Derived.Test.YtmbajnmaeikceaaGreatDoorMUs
namespace Go.Proofs.YtmbajnmaeikceaaGreatDoor
open Go Go.Ax Go.RowKit Go.Proofs
theorem uh0:HopG 5 Q80 GM 200 17 u00 [2] [] [16,17,18,19,20,21,22,23,24,25,26] [] us0:=by unfold HopG;kernel_rfl
end Go.Proofs.YtmbajnmaeikceaaGreatDoor
namespace Go.Proofs.YtmbajnmaeikceaaGreatDoor
open Go Go.Ax Go.RowKit Go.Proofs
theorem uh1:HopG 5 Q80 GM 200 17 (us0t.am 8000) [9,8,7,1,0] [] [16,17,18,19,20,45,41,21,22,23,24,25,181,180,177,176,377,178,175,76,162,114,109,111,118,116,328,543,113,112,105,103,104,101,100,271,108,106,107,217,156,151,153,160,158,155,154,147,146,145,144,150,148,149,174,172,568,378,31,624,26,30,46,36,40,38,42,44,48,47] [] us1:=by unfold HopG;kernel_rfl
end Go.Proofs.YtmbajnmaeikceaaGreatDoor
namespace Go.Proofs.YtmbajnmaeikceaaGreatDoor
open Go Go.Ax Go.RowKit Go.Proofs
theorem uh2:HopG 5 Q80 GM 200 17 (us1.am 8000) [8,7,6,5,4,3,2,1,0] [] [16,17,18,19,20,45,41,21,22,23,24,25,1100,76,162,114,109,111,118,116,328,543,113,112,105,103,104,101,100,271,108,106,107,217,156,151,153,160,158,867,1132,155,154,147,146,145,144,764,150,148,149,174,172,1157,175,1099,181,180,177,176,377,178,378,31,26,30,46,36,40,38,42,44,48,47] [] us2:=by unfold HopG;kernel_rfl
end Go.Proofs.YtmbajnmaeikceaaGreatDoor
