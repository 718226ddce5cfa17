/-
 The law on hosts that have sent nothing: ways from its states, carried out. Conditions: none.
-/
import Derived.Test.YtmfeholdlgfpbaaGreatDoorEDs
namespace Go.Proofs.YtmfeholdlgfpbaaGreatDoor
open Go Go.Ax Go.RowKit Go.Proofs
theorem Qts:dTP 10 dh2 Qqx 20 [true,true,true,true,true] Qr7 [1,2,0,1,2,0,0,1,2,0]:=by unfold dTP Qon;kernel_rfl
theorem Qvs:dTP 10 dh2 Qqt 20 [false,true,false] Qr3 [0,0,0,0,0,0,0]:=by unfold dTP Qon;kernel_rfl
theorem Qzg:dTP 10 dh0 Qsr 21 [true] (Qqb.am 8000) [0,0,0,0,0,0,0,0,0,0,0,0,0,0,0,0,0,0]:=by unfold dTP Qon;kernel_rfl
theorem Qvi:dTP 10 dh0 Qsp 21 [false,false,true] (Qq9.am 8000) [0,0,0,0,0,0,0,0,0,0,0,0,0,0,0,0,0,0]:=by unfold dTP Qon;kernel_rfl
theorem Qv6:dTP 10 dh0 Qsj 21 [false,false,true] (Qq3.am 8000) [0,0,0,0,0,0,0,0,0,0,0,0,0,0,0,0,0,0]:=by unfold dTP Qon;kernel_rfl
theorem Quu:dTP 10 dh0 Qsd 21 [false,false,true] (Qpx.am 8000) [0,0,0,0,0,0,0,0,0,0,0,0,0,0,0,0,0,0]:=by unfold dTP Qon;kernel_rfl
theorem Qui:dTP 10 dh0 Qs7 21 [false,false,true] (Qpr.am 8000) [0,0,0,0,0,0,0,0,0,0,0,0,0,0,0,0,0,0]:=by unfold dTP Qon;kernel_rfl
theorem Qv8:dTP 10 dh0 Qsk 21 [false,false,true] (Qq4.am 8000) [0,0,0,0,0,0,0,0,0,0,0,0,0,0,0,0,0,0]:=by unfold dTP Qon;kernel_rfl
theorem Quk:dTP 10 dh0 Qs8 21 [false,false,true] (Qps.am 8000) [0,0,0,0,0,0,0,0,0,0,0,0,0,0,0,0,0,0]:=by unfold dTP Qon;kernel_rfl
theorem Z9g:dTP 10 dh0 Z64 8 [] (Z43.am 8000) [0,0,0,0,0,0,0,0,0,0]:=by unfold dTP Qon;kernel_rfl
theorem Qxx:dTP 10 dh0 Qu9 12 [false,false,false] (Qwk.am 8000) [0,0,0,0,0,0,0,0,0,0,0,0]:=by unfold dTP Qon;kernel_rfl
theorem Qxd:dTP 10 dh0 Qu5 12 [false,false,false] (Qwg.am 8000) [0,0,0,0,0,0,0,0,0,0,0,0]:=by unfold dTP Qon;kernel_rfl
theorem Z3x:dTP 9 dh2 Z0q 7 [] Z22 [11,10,9,8,7,6,5,4,3]:=by unfold dTP Qon;kernel_rfl
theorem Z3m:dTP 9 dh2 Z0f 7 [] Z1r [10,9,8,7,6,5,4,3,2]:=by unfold dTP Qon;kernel_rfl
theorem Z3a:dTP 9 dh2 Z03 7 [] Z1f [11,10,9,8,7,6,5,4,3]:=by unfold dTP Qon;kernel_rfl
theorem Z2y:dTP 9 dh2 Qzr 7 [] Z13 [10,9,8,7,6,5,4,3,2]:=by unfold dTP Qon;kernel_rfl
theorem Qt8:dTP 10 dh2 Qqx 20 [true,true,true,false,true,false] Qr7 [0,0,0,0]:=by unfold dTP Qon;kernel_rfl
theorem Qtw:dTP 10 dh2 Qqy 20 [true,true,true,true,false] Qr8 [0,0,0,0]:=by unfold dTP Qon;kernel_rfl
theorem Qtj:dTP 10 dh2 Qqu 20 [true,true,true,false,false] Qr4 [0,0,0,0]:=by unfold dTP Qon;kernel_rfl
theorem Qyb:dTP 10 dh2 Qqw 20 [true,false] Qr6 [0,0,0,0]:=by unfold dTP Qon;kernel_rfl
theorem Zjv:dTP 10 dh2 Qqw 20 [false,false,false,false,true,true,false,false] Qr6 [3,3,3,3,3,3,3,3,3,3,3,3,3,3,3,3,3,3,3,3,3,3,3,3,3,3,3,3,3,3,3,3,3,3,3,3,3,3,3,3,3,3,3,3,3,3,3,3,3,3,3,3,3,3,3,3,3,3,3,3]:=by unfold dTP Qon;kernel_rfl
theorem Zjh:dTP 10 dh2 Qqt 20 [false,false,false,false,true,false,false,false] Qr3 [3,3,3,3,3,3,3,3,3,3,3,3,3,3,3,3,3,3,3,3,3,3,3,3,3,3,3,3,3,3,3,3,3,3,3,3,3,3,3,3,3,3,3,3,3,3,3,3,3,3,3,3,3,3,3,3,3,3,3,3]:=by unfold dTP Qon;kernel_rfl
theorem Zk0:dTP 10 dh2 Qqm 20 [false,false,false,false,true,false,false,true] Qr0 [3,3,3,3,3,3,3,3,3,3,3,3,3,3,3,3,3,3,3,3]:=by unfold dTP Qon;kernel_rfl
theorem Qxz:dTP 10 dh0 Qsr 21 [false,true] (Qqb.am 8000) [0]:=by unfold dTP Qon;kernel_rfl
theorem Qxk:dTP 10 dh0 Qsi 21 [false,true] (Qq2.am 8000) [0]:=by unfold dTP Qon;kernel_rfl
theorem Qx5:dTP 10 dh0 Qs9 21 [false,true] (Qpt.am 8000) [0]:=by unfold dTP Qon;kernel_rfl
theorem Zl1:dTP 10 dh2 Qqv 20 [false,false,false,true] Qr5 [3,3,3,3,3,3,3,3,3,3,3,3,3,3,3,3,3,3,3,3,3,3,3,3,3]:=by unfold dTP Qon;kernel_rfl
theorem Zii:dTP 8 dh1 Zir 5 [] (Zat.am 8000) [0]:=by unfold dTP Qon;kernel_rfl
theorem Zkt:dTP 10 dh2 Qqv 20 [false,false,false,false,false] Qr5 [5]:=by unfold dTP Qon;kernel_rfl
end Go.Proofs.YtmfeholdlgfpbaaGreatDoor
