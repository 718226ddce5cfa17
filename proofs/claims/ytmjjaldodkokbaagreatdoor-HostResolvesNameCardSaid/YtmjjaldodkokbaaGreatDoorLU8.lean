/-
 A name is looked up: hops, part 9. Conditions: none.
-/
import Derived.Test.YtmjjaldodkokbaaGreatDoorLUs
namespace Go.Proofs.YtmjjaldodkokbaaGreatDoor
open Go Go.Ax Go.RowKit Go.Proofs
theorem Zej:HD 0 (rd Qrj) [4,2,0] [(501,1164),(502,1279),(503,1296)] Qri:=by unfold HD Qll;kernel_rfl
theorem Zei:HD 0 (Qz7.am 8000) [5,1] [(500,501),(501,2328),(502,2330),(503,2329),(504,1487),(505,1509),(506,2365),(507,2360),(508,2116),(509,2104)] Qsb:=by unfold HD Qll;kernel_rfl
theorem Zeh:HD 0 (Qp6.am 8000) [1,0] [(506,1447),(507,508),(508,509)] Z6f:=by unfold HD Qll;kernel_rfl
theorem Zeg:HD 0 (Qz6.am 8000) [1,0] [(502,1180),(503,504),(504,505),(505,1432),(506,507),(507,508)] Qqp:=by unfold HD Qll;kernel_rfl
theorem Zdf:HD 0 (wf Qp9 (yF false::Qp9.fs)) [2,1,0] [(500,650),(501,731),(502,742)] Qx2:=by unfold HD Qll;kernel_rfl
theorem Zde:HD 0 (Qx2.am 8000) [5,2,0] [(501,1180),(502,1182),(503,1181),(504,840),(505,862),(506,1217),(507,1212),(508,968),(509,956)] Z64:=by unfold HD Qll;kernel_rfl
theorem Zee:HD 0 (rd Qqo) [4,2,0] [(501,885),(502,1002),(503,1013)] Qyq:=by unfold HD Qll;kernel_rfl
theorem Zed:HD 0 (rd Qyq) [4,2,0] [(501,1164),(502,1279),(503,1296)] Qyp:=by unfold HD Qll;kernel_rfl
theorem Zec:HD 0 (Qz4.am 8000) [5,1] [(500,501),(501,2328),(502,2330),(503,2329),(504,1487),(505,1509),(506,2365),(507,2360),(508,2116),(509,2104)] Z6e:=by unfold HD Qll;kernel_rfl
theorem Zeb:HD 0 (Qpu.am 8000) [1,0] [(506,1447),(507,508),(508,509)] Z6d:=by unfold HD Qll;kernel_rfl
theorem Zea:HD 0 (Qz3.am 8000) [1,0] [(502,1180),(503,504),(504,505),(505,1432),(506,507),(507,508)] Z6c:=by unfold HD Qll;kernel_rfl
theorem Zdd:HD 0 (wf Qoi (yF false::Qoi.fs)) [2,1,0] [(500,650),(501,731),(502,742)] Qx1:=by unfold HD Qll;kernel_rfl
theorem Zdc:HD 0 (Qx1.am 8000) [5,2,0] [(501,1180),(502,1182),(503,1181),(504,840),(505,862),(506,1217),(507,1212),(508,968),(509,956)] Z63:=by unfold HD Qll;kernel_rfl
theorem Ze8:HD 0 (rd Qqn) [4,2,0] [(501,885),(502,1002),(503,1013)] Qyo:=by unfold HD Qll;kernel_rfl
theorem Ze7:HD 0 (rd Qyo) [4,2,0] [(501,1164),(502,1279),(503,1296)] Qyn:=by unfold HD Qll;kernel_rfl
theorem Ze6:HD 0 (Qz1.am 8000) [5,1] [(500,501),(501,2328),(502,2330),(503,2329),(504,1487),(505,1509),(506,2365),(507,2360),(508,2116),(509,2104)] Z6b:=by unfold HD Qll;kernel_rfl
theorem Ze5:HD 0 (Qpt.am 8000) [1,0] [(506,1447),(507,508),(508,509)] Z6a:=by unfold HD Qll;kernel_rfl
theorem Ze4:HD 0 (Qz0.am 8000) [1,0] [(502,1180),(503,504),(504,505),(505,1432),(506,507),(507,508)] Z69:=by unfold HD Qll;kernel_rfl
theorem Zdb:HD 0 (wf Qop (yF false::Qop.fs)) [2,1,0] [(500,650),(501,731),(502,742)] Qx0:=by unfold HD Qll;kernel_rfl
end Go.Proofs.YtmjjaldodkokbaaGreatDoor
