/-
 The law on hosts that have sent nothing: ways from its states, carried out. Conditions: none.
-/
import Derived.Test.YtmfeholdlgfpbaaGreatDoorEDs
namespace Go.Proofs.YtmfeholdlgfpbaaGreatDoor
open Go Go.Ax Go.RowKit Go.Proofs
theorem Qtv:dTP 10 dh2 Qqy 20 [true,true,true,true,true] Qr8 [1,2,0,1,2,0,0,1,2,0]:=by unfold dTP Qon;kernel_rfl
theorem Qvv:dTP 10 dh2 Qql 20 [false,true,false] Qqz [0,0,0,0,0,0,0]:=by unfold dTP Qon;kernel_rfl
theorem Qvp:dTP 10 dh0 Qss 21 [false,false,false] (Qqc.am 8000) [0,0,0,0,0,0,0,0,0,0,0,0,0,0,0,0,0,0]:=by unfold dTP Qon;kernel_rfl
theorem Qzd:dTP 10 dh0 Qsp 21 [true] (Qq9.am 8000) [0,0,0,0,0,0,0,0,0,0,0,0,0,0,0,0,0,0]:=by unfold dTP Qon;kernel_rfl
theorem Qz5:dTP 10 dh0 Qsj 21 [true] (Qq3.am 8000) [0,0,0,0,0,0,0,0,0,0,0,0,0,0,0,0,0,0]:=by unfold dTP Qon;kernel_rfl
theorem Qyx:dTP 10 dh0 Qsd 21 [true] (Qpx.am 8000) [0,0,0,0,0,0,0,0,0,0,0,0,0,0,0,0,0,0]:=by unfold dTP Qon;kernel_rfl
theorem Qyp:dTP 10 dh0 Qs7 21 [true] (Qpr.am 8000) [0,0,0,0,0,0,0,0,0,0,0,0,0,0,0,0,0,0]:=by unfold dTP Qon;kernel_rfl
theorem Qz7:dTP 10 dh0 Qsk 21 [true] (Qq4.am 8000) [0,0,0,0,0,0,0,0,0,0,0,0,0,0,0,0,0,0]:=by unfold dTP Qon;kernel_rfl
theorem Qyr:dTP 10 dh0 Qs8 21 [true] (Qps.am 8000) [0,0,0,0,0,0,0,0,0,0,0,0,0,0,0,0,0,0]:=by unfold dTP Qon;kernel_rfl
theorem Z9i:dTP 10 dh0 Z66 8 [] (Z45.am 8000) [0,0,0,0,0,0,0,0,0,0]:=by unfold dTP Qon;kernel_rfl
theorem Qxw:dTP 10 dh0 Qu9 12 [false,false,true] (Qwk.am 8000) [0,0,0,0,0,0,0,0,0,0,0,0]:=by unfold dTP Qon;kernel_rfl
theorem Qxc:dTP 10 dh0 Qu5 12 [false,false,true] (Qwg.am 8000) [0,0,0,0,0,0,0,0,0,0,0,0]:=by unfold dTP Qon;kernel_rfl
theorem Z3y:dTP 9 dh2 Z0r 7 [] Z23 [11,10,9,8,7,6,5,4,3]:=by unfold dTP Qon;kernel_rfl
theorem Z3n:dTP 9 dh2 Z0g 7 [] Z1s [10,9,8,7,6,5,4,3,2]:=by unfold dTP Qon;kernel_rfl
theorem Z3b:dTP 9 dh2 Z04 7 [] Z1g [11,10,9,8,7,6,5,4,3]:=by unfold dTP Qon;kernel_rfl
theorem Z2z:dTP 9 dh2 Qzs 7 [] Z14 [10,9,8,7,6,5,4,3,2]:=by unfold dTP Qon;kernel_rfl
theorem Qta:dTP 10 dh2 Qqy 20 [true,true,true,false,true,false] Qr8 [0,0,0,0]:=by unfold dTP Qon;kernel_rfl
theorem Qsu:dTP 10 dh2 Qqt 20 [true,true,true,false,true,false] Qr3 [0,0,0,0]:=by unfold dTP Qon;kernel_rfl
theorem Qtf:dTP 10 dh2 Qql 20 [true,true,true,true,false] Qqz [0,0,0,0]:=by unfold dTP Qon;kernel_rfl
theorem Qvz:dTP 10 dh2 Qqv 20 [true,true,false] Qr5 [0,0,0,0]:=by unfold dTP Qon;kernel_rfl
theorem Zjr:dTP 10 dh2 Qqv 20 [false,false,false,false,true,true,false,false] Qr5 [4,4,4,4,4,4,4,4,4,4,4,4,4,4,4,4,4,4,4,4,4,4,4,4,4,4,4,4,4,4,4,4,4,4,4,4,4,4,4,4,4,4,4,4,4,4,4,4,4,4,4,4,4,4,4,4,4,4,4,4]:=by unfold dTP Qon;kernel_rfl
theorem Zko:dTP 10 dh2 Qqy 20 [false,false,false,false,true,true,true] Qr8 [4,4,4,4,4,4,4,4,4,4,4,4,4,4,4,4,4,4,4,4]:=by unfold dTP Qon;kernel_rfl
theorem Zjm:dTP 10 dh2 Qqu 20 [false,false,false,false,true,true,false,true] Qr4 [4,4,4,4,4,4,4,4,4,4,4,4,4,4,4,4,4,4,4,4]:=by unfold dTP Qon;kernel_rfl
theorem Zjw:dTP 10 dh2 Qqw 20 [false,false,false,false,true,false,false,true] Qr6 [3,3,3,3,3,3,3,3,3,3,3,3,3,3,3,3,3,3,3,3]:=by unfold dTP Qon;kernel_rfl
theorem Qzi:dTP 10 dh0 Qub 12 [false,true] (Qwl.am 8000) [0]:=by unfold dTP Qon;kernel_rfl
theorem Qz6:dTP 10 dh0 Qu7 12 [false,true] (Qwi.am 8000) [0]:=by unfold dTP Qon;kernel_rfl
theorem Qyu:dTP 10 dh0 Qu4 12 [false,true] (Qwf.am 8000) [0]:=by unfold dTP Qon;kernel_rfl
theorem Zkz:dTP 10 dh2 Qql 20 [false,false,false,true] Qqz [2,2,2,2,2,2,2,2,2,2,2,2,2,2,2,2,2,2,2,2,2,2,2,2,2]:=by unfold dTP Qon;kernel_rfl
theorem Zig:dTP 8 dh1 Zio 5 [] (Zas.am 8000) [0]:=by unfold dTP Qon;kernel_rfl
theorem Zkr:dTP 10 dh2 Qql 20 [false,false,false,false,false] Qqz [4]:=by unfold dTP Qon;kernel_rfl
end Go.Proofs.YtmfeholdlgfpbaaGreatDoor
