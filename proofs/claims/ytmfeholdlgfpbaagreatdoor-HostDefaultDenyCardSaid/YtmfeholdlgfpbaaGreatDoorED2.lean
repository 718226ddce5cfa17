/-
 The law on hosts that have sent nothing: ways from its states, carried out. Conditions: none.
-/
import Derived.Test.YtmfeholdlgfpbaaGreatDoorEDs
namespace Go.Proofs.YtmfeholdlgfpbaaGreatDoor
open Go Go.Ax Go.RowKit Go.Proofs
theorem Qtn:dTP 10 dh2 Qqw 20 [true,true,true,true,true] Qr6 [0,1,0,0,1,0,0,0,1,0]:=by unfold dTP Qon;kernel_rfl
theorem Qwc:dTP 10 dh2 Qqy 20 [false,true,true] Qr8 [0,0,0,0,0,0,0]:=by unfold dTP Qon;kernel_rfl
theorem Qt5:dTP 10 dh2 Qqm 20 [true,true,true,true,true,false] Qr0 [0,0,0,1,0,0,0,0,1,0,0]:=by unfold dTP Qon;kernel_rfl
theorem Qvj:dTP 10 dh0 Qsp 21 [false,false,false] (Qq9.am 8000) [0,0,0,0,0,0,0,0,0,0,0,0,0,0,0,0,0,0]:=by unfold dTP Qon;kernel_rfl
theorem Qv7:dTP 10 dh0 Qsj 21 [false,false,false] (Qq3.am 8000) [0,0,0,0,0,0,0,0,0,0,0,0,0,0,0,0,0,0]:=by unfold dTP Qon;kernel_rfl
theorem Quv:dTP 10 dh0 Qsd 21 [false,false,false] (Qpx.am 8000) [0,0,0,0,0,0,0,0,0,0,0,0,0,0,0,0,0,0]:=by unfold dTP Qon;kernel_rfl
theorem Quj:dTP 10 dh0 Qs7 21 [false,false,false] (Qpr.am 8000) [0,0,0,0,0,0,0,0,0,0,0,0,0,0,0,0,0,0]:=by unfold dTP Qon;kernel_rfl
theorem Qv9:dTP 10 dh0 Qsk 21 [false,false,false] (Qq4.am 8000) [0,0,0,0,0,0,0,0,0,0,0,0,0,0,0,0,0,0]:=by unfold dTP Qon;kernel_rfl
theorem Qul:dTP 10 dh0 Qs8 21 [false,false,false] (Qps.am 8000) [0,0,0,0,0,0,0,0,0,0,0,0,0,0,0,0,0,0]:=by unfold dTP Qon;kernel_rfl
theorem Z9t:dTP 10 dh0 Z6h 7 [] (Z4g.am 8000) [0,0,0,0,0,0,0]:=by unfold dTP Qon;kernel_rfl
theorem Z2p:dTP 10 dh0 Qub 12 [true] (Qwl.am 8000) [0,0,0,0,0,0,0,0,0,0,0,0]:=by unfold dTP Qon;kernel_rfl
theorem Z2l:dTP 10 dh0 Qu6 12 [true] (Qwh.am 8000) [0,0,0,0,0,0,0,0,0,0,0,0]:=by unfold dTP Qon;kernel_rfl
theorem dpSt_:dTP 12 dh0 dlSt 3 [] (dS true) [0]:=by unfold dTP Qon;kernel_rfl
theorem Z3l:dTP 9 dh2 Z0e 7 [] Z1q [10,9,8,7,6,5,4,3,2]:=by unfold dTP Qon;kernel_rfl
theorem Z39:dTP 9 dh2 Z02 7 [] Z1e [11,10,9,8,7,6,5,4,3]:=by unfold dTP Qon;kernel_rfl
theorem Z2x:dTP 9 dh2 Qzq 7 [] Z12 [10,9,8,7,6,5,4,3,2]:=by unfold dTP Qon;kernel_rfl
theorem Qs4:dTP 10 dh2 Qqm 20 [true,true,true,false,true,true,false] Qr0 [0,0,0,0]:=by unfold dTP Qon;kernel_rfl
theorem Qtx:dTP 10 dh2 Qqy 20 [true,true,true,false,false] Qr8 [0,0,0,0]:=by unfold dTP Qon;kernel_rfl
theorem Qtg:dTP 10 dh2 Qql 20 [true,true,true,false,false] Qqz [0,0,0,0]:=by unfold dTP Qon;kernel_rfl
theorem Qy9:dTP 10 dh2 Qqv 20 [true,false] Qr5 [0,0,0,0]:=by unfold dTP Qon;kernel_rfl
theorem Zjn:dTP 10 dh2 Qqu 20 [false,false,false,false,true,true,false,false] Qr4 [4,4,4,4,4,4,4,4,4,4,4,4,4,4,4,4,4,4,4,4,4,4,4,4,4,4,4,4,4,4,4,4,4,4,4,4,4,4,4,4,4,4,4,4,4,4,4,4,4,4,4,4,4,4,4,4,4,4,4,4]:=by unfold dTP Qon;kernel_rfl
theorem Zk6:dTP 10 dh2 Qqy 20 [false,false,false,false,true,true,false,true] Qr8 [4,4,4,4,4,4,4,4,4,4,4,4,4,4,4,4,4,4,4,4]:=by unfold dTP Qon;kernel_rfl
theorem Zkc:dTP 10 dh2 Qql 20 [false,false,false,false,true,true,true] Qqz [3,3,3,3,3,3,3,3,3,3,3,3,3,3,3,3,3,3,3,3]:=by unfold dTP Qon;kernel_rfl
theorem Zkh:dTP 10 dh2 Qqv 20 [false,false,false,false,true,false,true] Qr5 [4,4,4,4,4,4,4,4,4,4,4,4,4,4,4,4,4,4,4,4]:=by unfold dTP Qon;kernel_rfl
theorem Qxv:dTP 10 dh0 Qsp 21 [false,true] (Qq9.am 8000) [0]:=by unfold dTP Qon;kernel_rfl
theorem Qxg:dTP 10 dh0 Qsg 21 [false,true] (Qq0.am 8000) [0]:=by unfold dTP Qon;kernel_rfl
theorem Qx1:dTP 10 dh0 Qs7 21 [false,true] (Qpr.am 8000) [0]:=by unfold dTP Qon;kernel_rfl
theorem Zky:dTP 10 dh2 Qqt 20 [false,false,false,true] Qr3 [2,2,2,2,2,2,2,2,2,2,2,2,2,2,2,2,2,2,2,2,2,2,2,2,2]:=by unfold dTP Qon;kernel_rfl
theorem Zie:dTP 8 dh1 Zim 5 [] (Zar.am 8000) [0]:=by unfold dTP Qon;kernel_rfl
theorem Zkq:dTP 10 dh2 Qqt 20 [false,false,false,false,false] Qr3 [4]:=by unfold dTP Qon;kernel_rfl
end Go.Proofs.YtmfeholdlgfpbaaGreatDoor
