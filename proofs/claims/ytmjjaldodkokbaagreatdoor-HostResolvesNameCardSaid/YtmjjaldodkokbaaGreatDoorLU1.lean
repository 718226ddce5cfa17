/-
 A name is looked up: hops, part 2. Conditions: none.
-/
import Derived.Test.YtmjjaldodkokbaaGreatDoorLUs
namespace Go.Proofs.YtmjjaldodkokbaaGreatDoor
open Go Go.Ax Go.RowKit Go.Proofs
theorem Z9i:Hq 0 (rd Z6k) [4,1] Qzj:=by unfold Hq HopC;kernel_rfl
theorem Zg0:Hq 0 (rd Qxb) [4,1] Z6q:=by unfold Hq HopC;kernel_rfl
theorem hU21y:Hq 8 (Z6q.am 8000) [9,8,6,3,1] Z0j:=by unfold Hq HopC;kernel_rfl
theorem hU22n:Hq 8 (Qs6.am 8000) [11,9,8,7,4,3,1,0] Z0i:=by unfold Hq HopC;kernel_rfl
theorem Zf9:Hq 0 (wf Qql (yF true::Qql.fs)) [0] Qq4:=by unfold Hq HopC;kernel_rfl
theorem Z9h:Hq 0 (rd Qse) [4,1] Qq6:=by unfold Hq HopC;kernel_rfl
theorem Z9g:Hq 3 (Qq6.am 8000) [7,5,3,0] Qrr:=by unfold Hq HopC;kernel_rfl
theorem Z9f:Hq 0 (Qrr.am 8000) [1,0] Qzi:=by unfold Hq HopC;kernel_rfl
theorem Z9e:Hq 0 (rd Qxa) [4,1] Qpe:=by unfold Hq HopC;kernel_rfl
theorem Z9d:Hq 0 (rd Qrl) [4,1] Qzh:=by unfold Hq HopC;kernel_rfl
theorem Zfz:Hq 0 (rd Qx9) [4,1] Qsg:=by unfold Hq HopC;kernel_rfl
theorem hU22y:Hq 8 (Qsg.am 8000) [9,8,6,3,1] Z0h:=by unfold Hq HopC;kernel_rfl
theorem hU31n:Hq 8 (Qs5.am 8000) [11,9,8,7,4,3,1,0] Qs3:=by unfold Hq HopC;kernel_rfl
theorem Zf3:Hq 0 (wf Qr8 (yF true::Qr8.fs)) [0] Qqs:=by unfold Hq HopC;kernel_rfl
theorem Z9c:Hq 0 (rd Qsc) [4,1] Qqg:=by unfold Hq HopC;kernel_rfl
theorem Z9b:Hq 3 (Qqg.am 8000) [7,5,3,0] Qzg:=by unfold Hq HopC;kernel_rfl
theorem Z9a:Hq 0 (Qzg.am 8000) [1,0] Qzf:=by unfold Hq HopC;kernel_rfl
theorem Z99:Hq 0 (rd Qx8) [4,1] Qpd:=by unfold Hq HopC;kernel_rfl
theorem Z98:Hq 0 (rd Z6j) [4,1] Qze:=by unfold Hq HopC;kernel_rfl
theorem Zfy:Hq 0 (rd Qrk) [4,1] Z6p:=by unfold Hq HopC;kernel_rfl
theorem hU31y:Hq 8 (Z6p.am 8000) [9,8,6,3,1] Qyj:=by unfold Hq HopC;kernel_rfl
end Go.Proofs.YtmjjaldodkokbaaGreatDoor
