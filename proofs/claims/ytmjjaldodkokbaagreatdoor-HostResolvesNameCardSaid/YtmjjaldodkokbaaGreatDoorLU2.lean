/-
 A name is looked up: hops, part 3. Conditions: none.
-/
import Derived.Test.YtmjjaldodkokbaaGreatDoorLUs
namespace Go.Proofs.YtmjjaldodkokbaaGreatDoor
open Go Go.Ax Go.RowKit Go.Proofs
theorem hU32n:Hq 8 (Z65.am 8000) [11,9,8,7,4,3,1,0] Qs2:=by unfold Hq HopC;kernel_rfl
theorem Zex:Hq 0 (wf Qqv (yF true::Qqv.fs)) [0] Qqr:=by unfold Hq HopC;kernel_rfl
theorem Z97:Hq 0 (rd Qyt) [4,1] Qrq:=by unfold Hq HopC;kernel_rfl
theorem Z96:Hq 3 (Qrq.am 8000) [7,5,3,0] Qzd:=by unfold Hq HopC;kernel_rfl
theorem Z95:Hq 0 (Qzd.am 8000) [1,0] Qzc:=by unfold Hq HopC;kernel_rfl
theorem Z94:Hq 0 (rd Z6i) [4,1] Qpv:=by unfold Hq HopC;kernel_rfl
theorem Z93:Hq 0 (rd Z6h) [4,1] Qzb:=by unfold Hq HopC;kernel_rfl
theorem Zfx:Hq 0 (rd Z6g) [4,1] Z6o:=by unfold Hq HopC;kernel_rfl
theorem hU32y:Hq 8 (Z6o.am 8000) [9,8,6,3,1] Qs1:=by unfold Hq HopC;kernel_rfl
theorem hU33n:Hq 8 (Qx3.am 8000) [11,9,8,7,4,3,1,0] Qs0:=by unfold Hq HopC;kernel_rfl
theorem Zer:Hq 0 (wf Qqd (yF true::Qqd.fs)) [0] Qq9:=by unfold Hq HopC;kernel_rfl
theorem Z92:Hq 0 (rd Qx6) [4,1] Qqf:=by unfold Hq HopC;kernel_rfl
theorem Z91:Hq 3 (Qqf.am 8000) [7,5,3,0] Qsp:=by unfold Hq HopC;kernel_rfl
theorem Z90:Hq 0 (Qsp.am 8000) [1,0] Qza:=by unfold Hq HopC;kernel_rfl
theorem Z8z:Hq 0 (rd Qys) [4,1] Qpl:=by unfold Hq HopC;kernel_rfl
theorem Z8y:Hq 0 (rd Qx5) [4,1] Qz9:=by unfold Hq HopC;kernel_rfl
theorem Zfw:Hq 0 (rd Qyr) [4,1] Qxe:=by unfold Hq HopC;kernel_rfl
theorem hU33y:Hq 8 (Qxe.am 8000) [9,8,6,3,1] Qrz:=by unfold Hq HopC;kernel_rfl
theorem hU41n:Hq 8 (Qre.am 8000) [11,9,8,7,4,3,1,0] Qr7:=by unfold Hq HopC;kernel_rfl
theorem Zel:Hq 0 (wf Qqy (yF true::Qqy.fs)) [0] Qqq:=by unfold Hq HopC;kernel_rfl
end Go.Proofs.YtmjjaldodkokbaaGreatDoor
