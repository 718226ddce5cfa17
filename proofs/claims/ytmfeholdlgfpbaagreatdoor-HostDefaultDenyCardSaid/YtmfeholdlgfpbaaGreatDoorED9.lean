/-
 The law on hosts that have sent nothing: ways from its states, carried out. Conditions: none.
-/
import Derived.Test.YtmfeholdlgfpbaaGreatDoorEDs
namespace Go.Proofs.YtmfeholdlgfpbaaGreatDoor
open Go Go.Ax Go.RowKit Go.Proofs
theorem Qt0:dTP 10 dh2 Qqv 20 [true,true,true,false,true,true] Qr5 [0,0,0,0,0,2,0,0,2,0,0,0,2,0]:=by unfold dTP Qon;kernel_rfl
theorem Qw4:dTP 10 dh2 Qqw 20 [false,true,false] Qr6 [0,0,0,0,0,0,0]:=by unfold dTP Qon;kernel_rfl
theorem Qvr:dTP 10 dh2 Qqt 20 [false,true,true] Qr3 [0,0,0,0,0,0,0]:=by unfold dTP Qon;kernel_rfl
theorem Qz8:dTP 10 dh0 Qsl 21 [true] (Qq5.am 8000) [0,0,0,0,0,0,0,0,0,0,0,0,0,0,0,0,0,0]:=by unfold dTP Qon;kernel_rfl
theorem Qz0:dTP 10 dh0 Qsf 21 [true] (Qpz.am 8000) [0,0,0,0,0,0,0,0,0,0,0,0,0,0,0,0,0,0]:=by unfold dTP Qon;kernel_rfl
theorem Qys:dTP 10 dh0 Qs9 21 [true] (Qpt.am 8000) [0,0,0,0,0,0,0,0,0,0,0,0,0,0,0,0,0,0]:=by unfold dTP Qon;kernel_rfl
theorem Qzb:dTP 10 dh0 Qsn 21 [true] (Qq7.am 8000) [0,0,0,0,0,0,0,0,0,0,0,0,0,0,0,0,0,0]:=by unfold dTP Qon;kernel_rfl
theorem Qyv:dTP 10 dh0 Qsb 21 [true] (Qpv.am 8000) [0,0,0,0,0,0,0,0,0,0,0,0,0,0,0,0,0,0]:=by unfold dTP Qon;kernel_rfl
theorem Z9o:dTP 10 dh0 Z6c 8 [] (Z4b.am 8000) [0,0,0,0,0,0,0,0,0,0]:=by unfold dTP Qon;kernel_rfl
theorem Z9f:dTP 10 dh0 Z63 7 [] (Z42.am 8000) [0,0,0,0,0,0,0]:=by unfold dTP Qon;kernel_rfl
theorem Qxn:dTP 10 dh0 Qu7 12 [false,false,false] (Qwi.am 8000) [0,0,0,0,0,0,0,0,0,0,0,0]:=by unfold dTP Qon;kernel_rfl
theorem Qx3:dTP 10 dh0 Qu3 12 [false,false,false] (Qwe.am 8000) [0,0,0,0,0,0,0,0,0,0,0,0]:=by unfold dTP Qon;kernel_rfl
theorem Z3r:dTP 9 dh2 Z0k 7 [] Z1w [11,10,9,8,7,6,5,4,3]:=by unfold dTP Qon;kernel_rfl
theorem Z3f:dTP 9 dh2 Z08 7 [] Z1k [10,9,8,7,6,5,4,3,2]:=by unfold dTP Qon;kernel_rfl
theorem Z33:dTP 9 dh2 Qzw 7 [] Z18 [11,10,9,8,7,6,5,4,3]:=by unfold dTP Qon;kernel_rfl
theorem Z2r:dTP 9 dh2 Qzk 7 [] Z0w [10,9,8,7,6,5,4,3,2]:=by unfold dTP Qon;kernel_rfl
theorem Qsx:dTP 10 dh2 Qql 20 [true,true,true,false,true,false] Qqz [0,0,0,0]:=by unfold dTP Qon;kernel_rfl
theorem Qtp:dTP 10 dh2 Qqw 20 [true,true,true,false,false] Qr6 [0,0,0,0]:=by unfold dTP Qon;kernel_rfl
theorem Qyf:dTP 10 dh2 Qqx 20 [true,false] Qr7 [0,0,0,0]:=by unfold dTP Qon;kernel_rfl
theorem Qy3:dTP 10 dh2 Qqt 20 [true,false] Qr3 [0,0,0,0]:=by unfold dTP Qon;kernel_rfl
theorem Zjx:dTP 10 dh2 Qqw 20 [false,false,false,false,true,false,false,false] Qr6 [3,3,3,3,3,3,3,3,3,3,3,3,3,3,3,3,3,3,3,3,3,3,3,3,3,3,3,3,3,3,3,3,3,3,3,3,3,3,3,3,3,3,3,3,3,3,3,3,3,3,3,3,3,3,3,3,3,3,3,3]:=by unfold dTP Qon;kernel_rfl
theorem Zju:dTP 10 dh2 Qqw 20 [false,false,false,false,true,true,false,true] Qr6 [3,3,3,3,3,3,3,3,3,3,3,3,3,3,3,3,3,3,3,3]:=by unfold dTP Qon;kernel_rfl
theorem Zkn:dTP 10 dh2 Qqx 20 [false,false,false,false,true,false,true] Qr7 [4,4,4,4,4,4,4,4,4,4,4,4,4,4,4,4,4,4,4,4]:=by unfold dTP Qon;kernel_rfl
theorem Zjk:dTP 10 dh2 Qql 20 [false,false,false,false,true,false,false,true] Qqz [3,3,3,3,3,3,3,3,3,3,3,3,3,3,3,3,3,3,3,3]:=by unfold dTP Qon;kernel_rfl
theorem Qxp:dTP 10 dh0 Qsl 21 [false,true] (Qq5.am 8000) [0]:=by unfold dTP Qon;kernel_rfl
theorem Qxa:dTP 10 dh0 Qsc 21 [false,true] (Qpw.am 8000) [0]:=by unfold dTP Qon;kernel_rfl
theorem Zl5:dTP 10 dh2 Qqy 20 [false,false,false,true] Qr8 [3,3,3,3,3,3,3,3,3,3,3,3,3,3,3,3,3,3,3,3,3,3,3,3,3]:=by unfold dTP Qon;kernel_rfl
theorem Zld:dTP 10 dh2 Qqy 20 [false,false,true] Qr8 [3,3,3,3,3,3,3,3,3,3,3,3,3,3,3,3,3,3,3,3,3,3,3,3,3]:=by unfold dTP Qon;kernel_rfl
theorem Zid:dTP 8 dh1 Zil 5 [] (Zaj.am 8000) [0]:=by unfold dTP Qon;kernel_rfl
end Go.Proofs.YtmfeholdlgfpbaaGreatDoor
