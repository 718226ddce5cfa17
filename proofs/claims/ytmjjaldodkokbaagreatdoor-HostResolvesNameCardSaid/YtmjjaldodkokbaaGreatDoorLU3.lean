/-
 A name is looked up: hops, part 4. Conditions: none.
-/
import Derived.Test.YtmjjaldodkokbaaGreatDoorLUs
namespace Go.Proofs.YtmjjaldodkokbaaGreatDoor
open Go Go.Ax Go.RowKit Go.Proofs
theorem Z8x:Hq 0 (rd Qri) [4,1] Qq5:=by unfold Hq HopC;kernel_rfl
theorem Z8w:Hq 3 (Qq5.am 8000) [7,5,3,0] Qz8:=by unfold Hq HopC;kernel_rfl
theorem Z8v:Hq 0 (Qz8.am 8000) [1,0] Qz7:=by unfold Hq HopC;kernel_rfl
theorem Z8u:Hq 0 (rd Qsb) [4,1] Qp6:=by unfold Hq HopC;kernel_rfl
theorem Z8t:Hq 0 (rd Z6f) [4,1] Qz6:=by unfold Hq HopC;kernel_rfl
theorem Zfv:Hq 0 (rd Qqp) [4,1] Z6n:=by unfold Hq HopC;kernel_rfl
theorem hU41y:Hq 8 (Z6n.am 8000) [9,8,6,3,1] Qxi:=by unfold Hq HopC;kernel_rfl
theorem hU42n:Hq 8 (Z64.am 8000) [11,9,8,7,4,3,1,0] Qq1:=by unfold Hq HopC;kernel_rfl
theorem Zef:Hq 0 (wf Qp9 (yF true::Qp9.fs)) [0] Qqo:=by unfold Hq HopC;kernel_rfl
theorem Z8s:Hq 0 (rd Qyp) [4,1] Qrp:=by unfold Hq HopC;kernel_rfl
theorem Z8r:Hq 3 (Qrp.am 8000) [7,5,3,0] Qz5:=by unfold Hq HopC;kernel_rfl
theorem Z8q:Hq 0 (Qz5.am 8000) [1,0] Qz4:=by unfold Hq HopC;kernel_rfl
theorem Z8p:Hq 0 (rd Z6e) [4,1] Qpu:=by unfold Hq HopC;kernel_rfl
theorem Z8o:Hq 0 (rd Z6d) [4,1] Qz3:=by unfold Hq HopC;kernel_rfl
theorem Zfu:Hq 0 (rd Z6c) [4,1] Z6m:=by unfold Hq HopC;kernel_rfl
theorem hU42y:Hq 8 (Z6m.am 8000) [9,8,6,3,1] Qq0:=by unfold Hq HopC;kernel_rfl
theorem hU43n:Hq 8 (Z63.am 8000) [11,9,8,7,4,3,1,0] Qom:=by unfold Hq HopC;kernel_rfl
theorem Ze9:Hq 0 (wf Qoi (yF true::Qoi.fs)) [0] Qqn:=by unfold Hq HopC;kernel_rfl
theorem Z8n:Hq 0 (rd Qyn) [4,1] Qro:=by unfold Hq HopC;kernel_rfl
theorem Z8m:Hq 3 (Qro.am 8000) [7,5,3,0] Qz2:=by unfold Hq HopC;kernel_rfl
theorem Z8l:Hq 0 (Qz2.am 8000) [1,0] Qz1:=by unfold Hq HopC;kernel_rfl
end Go.Proofs.YtmjjaldodkokbaaGreatDoor
