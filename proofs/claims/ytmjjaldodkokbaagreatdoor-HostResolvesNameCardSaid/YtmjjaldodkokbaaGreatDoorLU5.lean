/-
 A name is looked up: hops, part 6. Conditions: none.
-/
import Derived.Test.YtmjjaldodkokbaaGreatDoorLUs
namespace Go.Proofs.YtmjjaldodkokbaaGreatDoor
open Go Go.Ax Go.RowKit Go.Proofs
theorem Zdx:HD 0 (wf Qq8 (yF false::Qq8.fs)) [2,1,0] [(500,650),(501,731),(502,742)] Qq7:=by unfold HD Qll;kernel_rfl
theorem Zdw:HD 0 (Qq7.am 8000) [5,2,0] [(501,1148),(502,1150),(503,1149),(504,840),(505,862),(506,1185),(507,1180),(508,968),(509,956)] Qqk:=by unfold HD Qll;kernel_rfl
theorem Zdv:HD 0 (Qqk.am 8000) [2,1] [(502,913),(503,504),(504,505),(505,998),(506,508),(507,509)] Qsa:=by unfold HD Qll;kernel_rfl
theorem Zfq:HD 0 (rd Qpp) [4,2,0] [(501,885),(502,1002),(503,1013)] Qr0:=by unfold HD Qll;kernel_rfl
theorem Zfp:HD 0 (rd Qr0) [4,2,0] [(501,1164),(502,1279),(503,1296)] Qrn:=by unfold HD Qll;kernel_rfl
theorem Zfo:HD 0 (Qp1.am 8000) [5,1] [(500,501),(501,2296),(502,2298),(503,2297),(504,1487),(505,1509),(506,2333),(507,2328),(508,2116),(509,2104)] Qqz:=by unfold HD Qll;kernel_rfl
theorem Zfn:HD 0 (Qp5.am 8000) [1,0] [(506,1447),(507,508),(508,509)] Qpo:=by unfold HD Qll;kernel_rfl
theorem Zfm:HD 0 (Qp0.am 8000) [1,0] [(502,1180),(503,504),(504,505),(505,1432),(506,507),(507,508)] Qrm:=by unfold HD Qll;kernel_rfl
theorem hF0:HD 0 (Qqh.am 8000) [1,0] [(501,1271),(502,1281),(503,501),(504,502),(505,503),(506,504),(507,506),(508,507)] sF0:=by unfold HD Qll;kernel_rfl
theorem Zdu:HD 0 (wf Qq2 (yF false::Qq2.fs)) [2,1,0] [(500,650),(501,731),(502,742)] Qph:=by unfold HD Qll;kernel_rfl
theorem Zdt:HD 0 (Qph.am 8000) [5,2,0] [(501,1156),(502,1158),(503,1157),(504,840),(505,862),(506,1193),(507,1188),(508,968),(509,956)] Qpg:=by unfold HD Qll;kernel_rfl
theorem Zds:HD 0 (Qpg.am 8000) [2,1] [(502,913),(503,504),(504,505),(505,998),(506,508),(507,509)] Qs9:=by unfold HD Qll;kernel_rfl
theorem Zfk:HD 0 (rd Qpc) [4,2,0] [(501,885),(502,1002),(503,1013)] Qpk:=by unfold HD Qll;kernel_rfl
theorem Zfj:HD 0 (rd Qpk) [4,2,0] [(501,1164),(502,1279),(503,1296)] Qpj:=by unfold HD Qll;kernel_rfl
theorem Zfi:HD 0 (Qp8.am 8000) [5,1] [(500,501),(501,2304),(502,2306),(503,2305),(504,1487),(505,1509),(506,2341),(507,2336),(508,2116),(509,2104)] Qpr:=by unfold HD Qll;kernel_rfl
theorem Zfh:HD 0 (Qoq.am 8000) [1,0] [(506,1447),(507,508),(508,509)] Qpn:=by unfold HD Qll;kernel_rfl
theorem Zfg:HD 0 (Qp7.am 8000) [1,0] [(502,1180),(503,504),(504,505),(505,1432),(506,507),(507,508)] Qpi:=by unfold HD Qll;kernel_rfl
theorem Zdr:HD 0 (wf Qrh (yF false::Qrh.fs)) [2,1,0] [(500,650),(501,731),(502,742)] Qs8:=by unfold HD Qll;kernel_rfl
theorem Zdq:HD 0 (Qs8.am 8000) [5,2,0] [(501,1164),(502,1166),(503,1165),(504,840),(505,862),(506,1201),(507,1196),(508,968),(509,956)] Qs7:=by unfold HD Qll;kernel_rfl
end Go.Proofs.YtmjjaldodkokbaaGreatDoor
