/-
 A name is looked up: hops, part 5. Conditions: none.
-/
import Derived.Test.YtmjjaldodkokbaaGreatDoorLUs
namespace Go.Proofs.YtmjjaldodkokbaaGreatDoor
open Go Go.Ax Go.RowKit Go.Proofs
theorem Z8k:Hq 0 (rd Z6b) [4,1] Qpt:=by unfold Hq HopC;kernel_rfl
theorem Z8j:Hq 0 (rd Z6a) [4,1] Qz0:=by unfold Hq HopC;kernel_rfl
theorem Zft:Hq 0 (rd Z69) [4,1] Z6l:=by unfold Hq HopC;kernel_rfl
theorem hU43y:Hq 8 (Z6l.am 8000) [9,8,6,3,1] Qol:=by unfold Hq HopC;kernel_rfl
theorem hU44n:Hq 8 (Qyk.am 8000) [11,9,8,7,4,3,1,0] Qp3:=by unfold Hq HopC;kernel_rfl
theorem Ze3:Hq 0 (wf Qop (yF true::Qop.fs)) [0] Qqm:=by unfold Hq HopC;kernel_rfl
theorem Z8i:Hq 0 (rd Qyl) [4,1] Qr1:=by unfold Hq HopC;kernel_rfl
theorem Z8h:Hq 3 (Qr1.am 8000) [7,5,3,0] Qyz:=by unfold Hq HopC;kernel_rfl
theorem Z8g:Hq 0 (Qyz.am 8000) [1,0] Qyy:=by unfold Hq HopC;kernel_rfl
theorem Z8f:Hq 0 (rd Z68) [4,1] Qps:=by unfold Hq HopC;kernel_rfl
theorem Z8e:Hq 0 (rd Z67) [4,1] Qyx:=by unfold Hq HopC;kernel_rfl
theorem Zfs:Hq 0 (rd Z66) [4,1] Qyw:=by unfold Hq HopC;kernel_rfl
theorem hU44y:Hq 8 (Qyw.am 8000) [9,8,6,3,1] Qp2:=by unfold Hq HopC;kernel_rfl
theorem hL00:Hq 0 (rd sF0) [4,1] sL00:=by unfold Hq HopC;kernel_rfl
theorem hL10:Hq 0 (rd sF1) [4,1] sL10:=by unfold Hq HopC;kernel_rfl
theorem hL20:Hq 0 (rd sF2) [4,1] sL20:=by unfold Hq HopC;kernel_rfl
theorem hL30:Hq 0 (rd sF3) [4,1] sL30:=by unfold Hq HopC;kernel_rfl
theorem hL40:Hq 0 (rd sF4) [4,1] sL40:=by unfold Hq HopC;kernel_rfl
end Go.Proofs.YtmjjaldodkokbaaGreatDoor
