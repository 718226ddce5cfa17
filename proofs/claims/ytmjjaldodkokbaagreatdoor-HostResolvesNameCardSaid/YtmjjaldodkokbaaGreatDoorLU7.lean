/-
 A name is looked up: hops, part 8. Conditions: none.
-/
import Derived.Test.YtmjjaldodkokbaaGreatDoorLUs
namespace Go.Proofs.YtmjjaldodkokbaaGreatDoor
open Go Go.Ax Go.RowKit Go.Proofs
theorem Zdl:HD 0 (wf Qqv (yF false::Qqv.fs)) [2,1,0] [(500,650),(501,731),(502,742)] Qx4:=by unfold HD Qll;kernel_rfl
theorem Zdk:HD 0 (Qx4.am 8000) [5,2,0] [(501,1172),(502,1174),(503,1173),(504,840),(505,862),(506,1209),(507,1204),(508,968),(509,956)] Z65:=by unfold HD Qll;kernel_rfl
theorem Zew:HD 0 (rd Qqr) [4,2,0] [(501,885),(502,1002),(503,1013)] Qyu:=by unfold HD Qll;kernel_rfl
theorem Zev:HD 0 (rd Qyu) [4,2,0] [(501,1164),(502,1279),(503,1296)] Qyt:=by unfold HD Qll;kernel_rfl
theorem Zeu:HD 0 (Qzc.am 8000) [5,1] [(500,501),(501,2320),(502,2322),(503,2321),(504,1487),(505,1509),(506,2357),(507,2352),(508,2116),(509,2104)] Z6i:=by unfold HD Qll;kernel_rfl
theorem Zet:HD 0 (Qpv.am 8000) [1,0] [(506,1447),(507,508),(508,509)] Z6h:=by unfold HD Qll;kernel_rfl
theorem Zes:HD 0 (Qzb.am 8000) [1,0] [(502,1180),(503,504),(504,505),(505,1432),(506,507),(507,508)] Z6g:=by unfold HD Qll;kernel_rfl
theorem Zdj:HD 0 (wf Qqd (yF false::Qqd.fs)) [2,1,0] [(500,650),(501,731),(502,742)] Qs4:=by unfold HD Qll;kernel_rfl
theorem Zdi:HD 0 (Qs4.am 8000) [5,2,0] [(501,1172),(502,1174),(503,1173),(504,840),(505,862),(506,1209),(507,1204),(508,968),(509,956)] Qx3:=by unfold HD Qll;kernel_rfl
theorem Zeq:HD 0 (rd Qq9) [4,2,0] [(501,885),(502,1002),(503,1013)] Qx7:=by unfold HD Qll;kernel_rfl
theorem Zep:HD 0 (rd Qx7) [4,2,0] [(501,1164),(502,1279),(503,1296)] Qx6:=by unfold HD Qll;kernel_rfl
theorem Zeo:HD 0 (Qza.am 8000) [5,1] [(500,501),(501,2320),(502,2322),(503,2321),(504,1487),(505,1509),(506,2357),(507,2352),(508,2116),(509,2104)] Qys:=by unfold HD Qll;kernel_rfl
theorem Zen:HD 0 (Qpl.am 8000) [1,0] [(506,1447),(507,508),(508,509)] Qx5:=by unfold HD Qll;kernel_rfl
theorem Zem:HD 0 (Qz9.am 8000) [1,0] [(502,1180),(503,504),(504,505),(505,1432),(506,507),(507,508)] Qyr:=by unfold HD Qll;kernel_rfl
theorem Zdh:HD 0 (wf Qqy (yF false::Qqy.fs)) [2,1,0] [(500,650),(501,731),(502,742)] Qqx:=by unfold HD Qll;kernel_rfl
theorem Zdg:HD 0 (Qqx.am 8000) [5,2,0] [(501,1180),(502,1182),(503,1181),(504,840),(505,862),(506,1217),(507,1212),(508,968),(509,956)] Qre:=by unfold HD Qll;kernel_rfl
theorem Zek:HD 0 (rd Qqq) [4,2,0] [(501,885),(502,1002),(503,1013)] Qrj:=by unfold HD Qll;kernel_rfl
end Go.Proofs.YtmjjaldodkokbaaGreatDoor
