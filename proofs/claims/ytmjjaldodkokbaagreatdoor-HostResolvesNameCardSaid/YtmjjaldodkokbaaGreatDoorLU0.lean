/-
 A name is looked up: hops, part 1. Conditions: none.
-/
import Derived.Test.YtmjjaldodkokbaaGreatDoorLUs
namespace Go.Proofs.YtmjjaldodkokbaaGreatDoor
open Go Go.Ax Go.RowKit Go.Proofs
theorem hQ:HopC 0 Q81 GF 200 17 rn00 [3,2,1] [] (qkq (14::15::sQ.vs) sQ) sQ:=by unfold HopC;kernel_rfl
theorem Zfr:Hq 0 (wf Qq8 (yF true::Qq8.fs)) [0] Qpp:=by unfold Hq HopC;kernel_rfl
theorem Z9x:Hq 0 (rd Qrn) [4,1] Qpw:=by unfold Hq HopC;kernel_rfl
theorem Z9w:Hq 3 (Qpw.am 8000) [7,5,3,0] Qoo:=by unfold Hq HopC;kernel_rfl
theorem Z9v:Hq 0 (Qoo.am 8000) [1,0] Qp1:=by unfold Hq HopC;kernel_rfl
theorem Z9u:Hq 0 (rd Qqz) [4,1] Qp5:=by unfold Hq HopC;kernel_rfl
theorem Z9t:Hq 0 (rd Qpo) [4,1] Qp0:=by unfold Hq HopC;kernel_rfl
theorem Z9s:Hq 0 (rd Qrm) [4,1] Qqh:=by unfold Hq HopC;kernel_rfl
theorem Zfl:Hq 0 (wf Qq2 (yF true::Qq2.fs)) [0] Qpc:=by unfold Hq HopC;kernel_rfl
theorem Z9r:Hq 0 (rd Qpj) [4,1] Qou:=by unfold Hq HopC;kernel_rfl
theorem Z9q:Hq 3 (Qou.am 8000) [7,5,3,0] Qr3:=by unfold Hq HopC;kernel_rfl
theorem Z9p:Hq 0 (Qr3.am 8000) [1,0] Qp8:=by unfold Hq HopC;kernel_rfl
theorem Z9o:Hq 0 (rd Qpr) [4,1] Qoq:=by unfold Hq HopC;kernel_rfl
theorem Z9n:Hq 0 (rd Qpn) [4,1] Qp7:=by unfold Hq HopC;kernel_rfl
theorem hU11y:Hq 0 (rd Qpi) [4,1] Qoz:=by unfold Hq HopC;kernel_rfl
theorem hU21n:Hq 8 (Qs7.am 8000) [11,9,8,7,4,3,1,0] Qqw:=by unfold Hq HopC;kernel_rfl
theorem Zff:Hq 0 (wf Qrh (yF true::Qrh.fs)) [0] Qqt:=by unfold Hq HopC;kernel_rfl
theorem Z9m:Hq 0 (rd Qxc) [4,1] Qr2:=by unfold Hq HopC;kernel_rfl
theorem Z9l:Hq 3 (Qr2.am 8000) [7,5,3,0] Qzl:=by unfold Hq HopC;kernel_rfl
theorem Z9k:Hq 0 (Qzl.am 8000) [1,0] Qzk:=by unfold Hq HopC;kernel_rfl
theorem Z9j:Hq 0 (rd Qyv) [4,1] Qpm:=by unfold Hq HopC;kernel_rfl
end Go.Proofs.YtmjjaldodkokbaaGreatDoor
