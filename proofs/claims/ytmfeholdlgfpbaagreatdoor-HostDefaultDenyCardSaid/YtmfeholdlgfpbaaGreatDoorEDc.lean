/-
 The law on hosts that have sent nothing: ways from its states, carried out. Conditions: none.
-/
import Derived.Test.YtmfeholdlgfpbaaGreatDoorEDs
namespace Go.Proofs.YtmfeholdlgfpbaaGreatDoor
open Go Go.Ax Go.RowKit Go.Proofs
theorem Qst:dTP 10 dh2 Qqt 20 [true,true,true,false,true,true] Qr3 [0,0,0,0,0,1,0,0,1,0,0,0,1,0]:=by unfold dTP Qon;kernel_rfl
theorem Qvy:dTP 10 dh2 Qqu 20 [false,true,false] Qr4 [0,0,0,0,0,0,0]:=by unfold dTP Qon;kernel_rfl
theorem Qs1:dTP 10 dh2 Qql 20 [true,true,true,false,true,true,true] Qqz [0,0,0,1,0,0,0,0,1,0,0,0,0,0,1,0]:=by unfold dTP Qon;kernel_rfl
theorem Qvh:dTP 10 dh0 Qso 21 [false,false,false] (Qq8.am 8000) [0,0,0,0,0,0,0,0,0,0,0,0,0,0,0,0,0,0]:=by unfold dTP Qon;kernel_rfl
theorem Qv5:dTP 10 dh0 Qsi 21 [false,false,false] (Qq2.am 8000) [0,0,0,0,0,0,0,0,0,0,0,0,0,0,0,0,0,0]:=by unfold dTP Qon;kernel_rfl
theorem Qut:dTP 10 dh0 Qsc 21 [false,false,false] (Qpw.am 8000) [0,0,0,0,0,0,0,0,0,0,0,0,0,0,0,0,0,0]:=by unfold dTP Qon;kernel_rfl
theorem Quh:dTP 10 dh0 Qs6 21 [false,false,false] (Qpq.am 8000) [0,0,0,0,0,0,0,0,0,0,0,0,0,0,0,0,0,0]:=by unfold dTP Qon;kernel_rfl
theorem Qv3:dTP 10 dh0 Qsh 21 [false,false,false] (Qq1.am 8000) [0,0,0,0,0,0,0,0,0,0,0,0,0,0,0,0,0,0]:=by unfold dTP Qon;kernel_rfl
theorem Quf:dTP 10 dh0 Qs5 21 [false,false,false] (Qpp.am 8000) [0,0,0,0,0,0,0,0,0,0,0,0,0,0,0,0,0,0]:=by unfold dTP Qon;kernel_rfl
theorem Z9n:dTP 10 dh0 Z6b 7 [] (Z4a.am 8000) [0,0,0,0,0,0,0]:=by unfold dTP Qon;kernel_rfl
theorem Qxr:dTP 10 dh0 Qu8 12 [false,false,true] (Qwj.am 8000) [0,0,0,0,0,0,0,0,0,0,0,0]:=by unfold dTP Qon;kernel_rfl
theorem Qx7:dTP 10 dh0 Qu4 12 [false,false,true] (Qwf.am 8000) [0,0,0,0,0,0,0,0,0,0,0,0]:=by unfold dTP Qon;kernel_rfl
theorem Z3v:dTP 9 dh2 Z0o 7 [] Z20 [11,10,9,8,7,6,5,4,3]:=by unfold dTP Qon;kernel_rfl
theorem Z3j:dTP 9 dh2 Z0c 7 [] Z1o [10,9,8,7,6,5,4,3,2]:=by unfold dTP Qon;kernel_rfl
theorem Z37:dTP 9 dh2 Z00 7 [] Z1c [11,10,9,8,7,6,5,4,3]:=by unfold dTP Qon;kernel_rfl
theorem Z2v:dTP 9 dh2 Qzo 7 [] Z10 [10,9,8,7,6,5,4,3,2]:=by unfold dTP Qon;kernel_rfl
theorem Qt3:dTP 10 dh2 Qqw 20 [true,true,true,false,true,false] Qr6 [0,0,0,0]:=by unfold dTP Qon;kernel_rfl
theorem Qtu:dTP 10 dh2 Qqx 20 [true,true,true,false,false] Qr7 [0,0,0,0]:=by unfold dTP Qon;kernel_rfl
theorem Qte:dTP 10 dh2 Qqt 20 [true,true,true,false,false] Qr3 [0,0,0,0]:=by unfold dTP Qon;kernel_rfl
theorem Qy7:dTP 10 dh2 Qqu 20 [true,false] Qr4 [0,0,0,0]:=by unfold dTP Qon;kernel_rfl
theorem Zjf:dTP 10 dh2 Qqt 20 [false,false,false,false,true,true,false,false] Qr3 [3,3,3,3,3,3,3,3,3,3,3,3,3,3,3,3,3,3,3,3,3,3,3,3,3,3,3,3,3,3,3,3,3,3,3,3,3,3,3,3,3,3,3,3,3,3,3,3,3,3,3,3,3,3,3,3,3,3,3,3]:=by unfold dTP Qon;kernel_rfl
theorem Zk2:dTP 10 dh2 Qqx 20 [false,false,false,false,true,true,false,true] Qr7 [4,4,4,4,4,4,4,4,4,4,4,4,4,4,4,4,4,4,4,4]:=by unfold dTP Qon;kernel_rfl
theorem Zka:dTP 10 dh2 Qqt 20 [false,false,false,false,true,true,true] Qr3 [3,3,3,3,3,3,3,3,3,3,3,3,3,3,3,3,3,3,3,3]:=by unfold dTP Qon;kernel_rfl
theorem Zkf:dTP 10 dh2 Qqu 20 [false,false,false,false,true,false,true] Qr4 [4,4,4,4,4,4,4,4,4,4,4,4,4,4,4,4,4,4,4,4]:=by unfold dTP Qon;kernel_rfl
theorem Qxt:dTP 10 dh0 Qsn 21 [false,true] (Qq7.am 8000) [0]:=by unfold dTP Qon;kernel_rfl
theorem Qxe:dTP 10 dh0 Qse 21 [false,true] (Qpy.am 8000) [0]:=by unfold dTP Qon;kernel_rfl
theorem Qwz:dTP 10 dh0 Qs5 21 [false,true] (Qpp.am 8000) [0]:=by unfold dTP Qon;kernel_rfl
theorem Zla:dTP 10 dh2 Qqw 20 [false,false,true] Qr6 [2,2,2,2,2,2,2,2,2,2,2,2,2,2,2,2,2,2,2,2,2,2,2,2,2]:=by unfold dTP Qon;kernel_rfl
theorem Zif:dTP 8 dh1 Zin 4 [] (dBt0.am 8000) [0]:=by unfold dTP Qon;kernel_rfl
end Go.Proofs.YtmfeholdlgfpbaaGreatDoor
