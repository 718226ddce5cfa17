/-
 A name is looked up: hops, part 7. Conditions: none.
-/
import Derived.Test.YtmjjaldodkokbaaGreatDoorLUs
namespace Go.Proofs.YtmjjaldodkokbaaGreatDoor
open Go Go.Ax Go.RowKit Go.Proofs
theorem Zfe:HD 0 (rd Qqt) [4,2,0] [(501,885),(502,1002),(503,1013)] Qxd:=by unfold HD Qll;kernel_rfl
theorem Zfd:HD 0 (rd Qxd) [4,2,0] [(501,1164),(502,1279),(503,1296)] Qxc:=by unfold HD Qll;kernel_rfl
theorem Zfc:HD 0 (Qzk.am 8000) [5,1] [(500,501),(501,2312),(502,2314),(503,2313),(504,1487),(505,1509),(506,2349),(507,2344),(508,2116),(509,2104)] Qyv:=by unfold HD Qll;kernel_rfl
theorem Zfb:HD 0 (Qpm.am 8000) [1,0] [(506,1447),(507,508),(508,509)] Z6k:=by unfold HD Qll;kernel_rfl
theorem Zfa:HD 0 (Qzj.am 8000) [1,0] [(502,1180),(503,504),(504,505),(505,1432),(506,507),(507,508)] Qxb:=by unfold HD Qll;kernel_rfl
theorem Zdp:HD 0 (wf Qql (yF false::Qql.fs)) [2,1,0] [(500,650),(501,731),(502,742)] Qrg:=by unfold HD Qll;kernel_rfl
theorem Zdo:HD 0 (Qrg.am 8000) [5,2,0] [(501,1164),(502,1166),(503,1165),(504,840),(505,862),(506,1201),(507,1196),(508,968),(509,956)] Qs6:=by unfold HD Qll;kernel_rfl
theorem Zf8:HD 0 (rd Qq4) [4,2,0] [(501,885),(502,1002),(503,1013)] Qsf:=by unfold HD Qll;kernel_rfl
theorem Zf7:HD 0 (rd Qsf) [4,2,0] [(501,1164),(502,1279),(503,1296)] Qse:=by unfold HD Qll;kernel_rfl
theorem Zf6:HD 0 (Qzi.am 8000) [5,1] [(500,501),(501,2312),(502,2314),(503,2313),(504,1487),(505,1509),(506,2349),(507,2344),(508,2116),(509,2104)] Qxa:=by unfold HD Qll;kernel_rfl
theorem Zf5:HD 0 (Qpe.am 8000) [1,0] [(506,1447),(507,508),(508,509)] Qrl:=by unfold HD Qll;kernel_rfl
theorem Zf4:HD 0 (Qzh.am 8000) [1,0] [(502,1180),(503,504),(504,505),(505,1432),(506,507),(507,508)] Qx9:=by unfold HD Qll;kernel_rfl
theorem Zdn:HD 0 (wf Qr8 (yF false::Qr8.fs)) [2,1,0] [(500,650),(501,731),(502,742)] Qrf:=by unfold HD Qll;kernel_rfl
theorem Zdm:HD 0 (Qrf.am 8000) [5,2,0] [(501,1172),(502,1174),(503,1173),(504,840),(505,862),(506,1209),(507,1204),(508,968),(509,956)] Qs5:=by unfold HD Qll;kernel_rfl
theorem Zf2:HD 0 (rd Qqs) [4,2,0] [(501,885),(502,1002),(503,1013)] Qsd:=by unfold HD Qll;kernel_rfl
theorem Zf1:HD 0 (rd Qsd) [4,2,0] [(501,1164),(502,1279),(503,1296)] Qsc:=by unfold HD Qll;kernel_rfl
theorem Zf0:HD 0 (Qzf.am 8000) [5,1] [(500,501),(501,2320),(502,2322),(503,2321),(504,1487),(505,1509),(506,2357),(507,2352),(508,2116),(509,2104)] Qx8:=by unfold HD Qll;kernel_rfl
theorem Zez:HD 0 (Qpd.am 8000) [1,0] [(506,1447),(507,508),(508,509)] Z6j:=by unfold HD Qll;kernel_rfl
theorem Zey:HD 0 (Qze.am 8000) [1,0] [(502,1180),(503,504),(504,505),(505,1432),(506,507),(507,508)] Qrk:=by unfold HD Qll;kernel_rfl
end Go.Proofs.YtmjjaldodkokbaaGreatDoor
