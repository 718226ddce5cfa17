/-
 The law on hosts that have sent nothing: ways from its states, carried out. Conditions: none.
-/
import Derived.Test.YtmfeholdlgfpbaaGreatDoorEDs
namespace Go.Proofs.YtmfeholdlgfpbaaGreatDoor
open Go Go.Ax Go.RowKit Go.Proofs
theorem Qth:dTP 10 dh2 Qqu 20 [true,true,true,true,true] Qr4 [1,2,0,1,2,0,0,1,2,0]:=by unfold dTP Qon;kernel_rfl
theorem Qw6:dTP 10 dh2 Qqm 20 [false,true,true] Qr0 [0,0,0,0,0,0,0]:=by unfold dTP Qon;kernel_rfl
theorem Qzh:dTP 10 dh0 Qss 21 [true] (Qqc.am 8000) [0,0,0,0,0,0,0,0,0,0,0,0,0,0,0,0,0,0]:=by unfold dTP Qon;kernel_rfl
theorem Qvm:dTP 10 dh0 Qsr 21 [false,false,true] (Qqb.am 8000) [0,0,0,0,0,0,0,0,0,0,0,0,0,0,0,0,0,0]:=by unfold dTP Qon;kernel_rfl
theorem Qva:dTP 10 dh0 Qsl 21 [false,false,true] (Qq5.am 8000) [0,0,0,0,0,0,0,0,0,0,0,0,0,0,0,0,0,0]:=by unfold dTP Qon;kernel_rfl
theorem Quy:dTP 10 dh0 Qsf 21 [false,false,true] (Qpz.am 8000) [0,0,0,0,0,0,0,0,0,0,0,0,0,0,0,0,0,0]:=by unfold dTP Qon;kernel_rfl
theorem Qum:dTP 10 dh0 Qs9 21 [false,false,true] (Qpt.am 8000) [0,0,0,0,0,0,0,0,0,0,0,0,0,0,0,0,0,0]:=by unfold dTP Qon;kernel_rfl
theorem Qve:dTP 10 dh0 Qsn 21 [false,false,true] (Qq7.am 8000) [0,0,0,0,0,0,0,0,0,0,0,0,0,0,0,0,0,0]:=by unfold dTP Qon;kernel_rfl
theorem Quq:dTP 10 dh0 Qsb 21 [false,false,true] (Qpv.am 8000) [0,0,0,0,0,0,0,0,0,0,0,0,0,0,0,0,0,0]:=by unfold dTP Qon;kernel_rfl
theorem Z9m:dTP 10 dh0 Z6a 8 [] (Z49.am 8000) [0,0,0,0,0,0,0,0,0,0]:=by unfold dTP Qon;kernel_rfl
theorem Qy2:dTP 10 dh0 Qub 12 [false,false,false] (Qwl.am 8000) [0,0,0,0,0,0,0,0,0,0,0,0]:=by unfold dTP Qon;kernel_rfl
theorem Qxi:dTP 10 dh0 Qu6 12 [false,false,false] (Qwh.am 8000) [0,0,0,0,0,0,0,0,0,0,0,0]:=by unfold dTP Qon;kernel_rfl
theorem Z40:dTP 9 dh2 Z0t 7 [] Z25 [11,10,9,8,7,6,5,4,3]:=by unfold dTP Qon;kernel_rfl
theorem Z3p:dTP 9 dh2 Z0i 7 [] Z1u [10,9,8,7,6,5,4,3,2]:=by unfold dTP Qon;kernel_rfl
theorem Z3d:dTP 9 dh2 Z06 7 [] Z1i [11,10,9,8,7,6,5,4,3]:=by unfold dTP Qon;kernel_rfl
theorem Z31:dTP 9 dh2 Qzu 7 [] Z16 [10,9,8,7,6,5,4,3,2]:=by unfold dTP Qon;kernel_rfl
theorem Qt4:dTP 10 dh2 Qqm 20 [true,true,true,true,true,true] Qr0 [0,0,0,1,0]:=by unfold dTP Qon;kernel_rfl
theorem Qtl:dTP 10 dh2 Qqv 20 [true,true,true,true,false] Qr5 [0,0,0,0]:=by unfold dTP Qon;kernel_rfl
theorem Qw5:dTP 10 dh2 Qqm 20 [true,true,false] Qr0 [0,0,0,0]:=by unfold dTP Qon;kernel_rfl
theorem Zk7:dTP 10 dh2 Qqy 20 [false,false,false,false,true,true,false,false] Qr8 [4,4,4,4,4,4,4,4,4,4,4,4,4,4,4,4,4,4,4,4,4,4,4,4,4,4,4,4,4,4,4,4,4,4,4,4,4,4,4,4,4,4,4,4,4,4,4,4,4,4,4,4,4,4,4,4,4,4,4,4]:=by unfold dTP Qon;kernel_rfl
theorem Zjt:dTP 10 dh2 Qqv 20 [false,false,false,false,true,false,false,false] Qr5 [4,4,4,4,4,4,4,4,4,4,4,4,4,4,4,4,4,4,4,4,4,4,4,4,4,4,4,4,4,4,4,4,4,4,4,4,4,4,4,4,4,4,4,4,4,4,4,4,4,4,4,4,4,4,4,4,4,4,4,4]:=by unfold dTP Qon;kernel_rfl
theorem Zkg:dTP 10 dh2 Qqv 20 [false,false,false,false,true,true,true] Qr5 [4,4,4,4,4,4,4,4,4,4,4,4,4,4,4,4,4,4,4,4]:=by unfold dTP Qon;kernel_rfl
theorem Zk4:dTP 10 dh2 Qqx 20 [false,false,false,false,true,false,false,true] Qr7 [4,4,4,4,4,4,4,4,4,4,4,4,4,4,4,4,4,4,4,4]:=by unfold dTP Qon;kernel_rfl
theorem Zjg:dTP 10 dh2 Qqt 20 [false,false,false,false,true,false,false,true] Qr3 [3,3,3,3,3,3,3,3,3,3,3,3,3,3,3,3,3,3,3,3]:=by unfold dTP Qon;kernel_rfl
theorem Qxl:dTP 10 dh0 Qsj 21 [false,true] (Qq3.am 8000) [0]:=by unfold dTP Qon;kernel_rfl
theorem Qx6:dTP 10 dh0 Qsa 21 [false,true] (Qpu.am 8000) [0]:=by unfold dTP Qon;kernel_rfl
theorem Zl2:dTP 10 dh2 Qqw 20 [false,false,false,true] Qr6 [2,2,2,2,2,2,2,2,2,2,2,2,2,2,2,2,2,2,2,2,2,2,2,2,2]:=by unfold dTP Qon;kernel_rfl
theorem Zl6:dTP 10 dh2 Qqt 20 [false,false,true] Qr3 [2,2,2,2,2,2,2,2,2,2,2,2,2,2,2,2,2,2,2,2,2,2,2,2,2]:=by unfold dTP Qon;kernel_rfl
theorem Zku:dTP 10 dh2 Qqw 20 [false,false,false,false,false] Qr6 [4]:=by unfold dTP Qon;kernel_rfl
end Go.Proofs.YtmfeholdlgfpbaaGreatDoor
