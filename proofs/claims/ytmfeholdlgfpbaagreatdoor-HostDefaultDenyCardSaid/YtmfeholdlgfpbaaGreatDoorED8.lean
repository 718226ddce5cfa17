/-
 The law on hosts that have sent nothing: ways from its states, carried out. Conditions: none.
-/
import Derived.Test.YtmfeholdlgfpbaaGreatDoorEDs
namespace Go.Proofs.YtmfeholdlgfpbaaGreatDoor
open Go Go.Ax Go.RowKit Go.Proofs
theorem Qt2:dTP 10 dh2 Qqw 20 [true,true,true,false,true,true] Qr6 [0,0,0,0,0,1,0,0,1,0,0,0,1,0]:=by unfold dTP Qon;kernel_rfl
theorem Qw7:dTP 10 dh2 Qqm 20 [false,true,false] Qr0 [0,0,0,0,0,0,0]:=by unfold dTP Qon;kernel_rfl
theorem Qvu:dTP 10 dh2 Qql 20 [false,true,true] Qqz [0,0,0,0,0,0,0]:=by unfold dTP Qon;kernel_rfl
theorem Qvd:dTP 10 dh0 Qsm 21 [false,false,false] (Qq6.am 8000) [0,0,0,0,0,0,0,0,0,0,0,0,0,0,0,0,0,0]:=by unfold dTP Qon;kernel_rfl
theorem Qv1:dTP 10 dh0 Qsg 21 [false,false,false] (Qq0.am 8000) [0,0,0,0,0,0,0,0,0,0,0,0,0,0,0,0,0,0]:=by unfold dTP Qon;kernel_rfl
theorem Qup:dTP 10 dh0 Qsa 21 [false,false,false] (Qpu.am 8000) [0,0,0,0,0,0,0,0,0,0,0,0,0,0,0,0,0,0]:=by unfold dTP Qon;kernel_rfl
theorem Qvl:dTP 10 dh0 Qsq 21 [false,false,false] (Qqa.am 8000) [0,0,0,0,0,0,0,0,0,0,0,0,0,0,0,0,0,0]:=by unfold dTP Qon;kernel_rfl
theorem Qux:dTP 10 dh0 Qse 21 [false,false,false] (Qpy.am 8000) [0,0,0,0,0,0,0,0,0,0,0,0,0,0,0,0,0,0]:=by unfold dTP Qon;kernel_rfl
theorem Z9q:dTP 10 dh0 Z6e 8 [] (Z4d.am 8000) [0,0,0,0,0,0,0,0,0,0]:=by unfold dTP Qon;kernel_rfl
theorem Z9h:dTP 10 dh0 Z65 7 [] (Z44.am 8000) [0,0,0,0,0,0,0]:=by unfold dTP Qon;kernel_rfl
theorem Qxm:dTP 10 dh0 Qu7 12 [false,false,true] (Qwi.am 8000) [0,0,0,0,0,0,0,0,0,0,0,0]:=by unfold dTP Qon;kernel_rfl
theorem Qx2:dTP 10 dh0 Qu3 12 [false,false,true] (Qwe.am 8000) [0,0,0,0,0,0,0,0,0,0,0,0]:=by unfold dTP Qon;kernel_rfl
theorem Z3s:dTP 9 dh2 Z0l 7 [] Z1x [11,10,9,8,7,6,5,4,3]:=by unfold dTP Qon;kernel_rfl
theorem Z3g:dTP 9 dh2 Z09 7 [] Z1l [10,9,8,7,6,5,4,3,2]:=by unfold dTP Qon;kernel_rfl
theorem Z34:dTP 9 dh2 Qzx 7 [] Z19 [11,10,9,8,7,6,5,4,3]:=by unfold dTP Qon;kernel_rfl
theorem Z2s:dTP 9 dh2 Qzl 7 [] Z0x [10,9,8,7,6,5,4,3,2]:=by unfold dTP Qon;kernel_rfl
theorem Qs2:dTP 10 dh2 Qql 20 [true,true,true,false,true,true,false] Qqz [0,0,0,0]:=by unfold dTP Qon;kernel_rfl
theorem Qto:dTP 10 dh2 Qqw 20 [true,true,true,true,false] Qr6 [0,0,0,0]:=by unfold dTP Qon;kernel_rfl
theorem Qw8:dTP 10 dh2 Qqx 20 [true,true,false] Qr7 [0,0,0,0]:=by unfold dTP Qon;kernel_rfl
theorem Qvq:dTP 10 dh2 Qqt 20 [true,true,false] Qr3 [0,0,0,0]:=by unfold dTP Qon;kernel_rfl
theorem Zk1:dTP 10 dh2 Qqm 20 [false,false,false,false,true,false,false,false] Qr0 [3,3,3,3,3,3,3,3,3,3,3,3,3,3,3,3,3,3,3,3,3,3,3,3,3,3,3,3,3,3,3,3,3,3,3,3,3,3,3,3,3,3,3,3,3,3,3,3,3,3,3,3,3,3,3,3,3,3,3,3]:=by unfold dTP Qon;kernel_rfl
theorem Zki:dTP 10 dh2 Qqw 20 [false,false,false,false,true,true,true] Qr6 [3,3,3,3,3,3,3,3,3,3,3,3,3,3,3,3,3,3,3,3]:=by unfold dTP Qon;kernel_rfl
theorem Zk8:dTP 10 dh2 Qqy 20 [false,false,false,false,true,false,false,true] Qr8 [4,4,4,4,4,4,4,4,4,4,4,4,4,4,4,4,4,4,4,4]:=by unfold dTP Qon;kernel_rfl
theorem Zkd:dTP 10 dh2 Qql 20 [false,false,false,false,true,false,true] Qqz [3,3,3,3,3,3,3,3,3,3,3,3,3,3,3,3,3,3,3,3]:=by unfold dTP Qon;kernel_rfl
theorem Qxq:dTP 10 dh0 Qsm 21 [false,true] (Qq6.am 8000) [0]:=by unfold dTP Qon;kernel_rfl
theorem Qxb:dTP 10 dh0 Qsd 21 [false,true] (Qpx.am 8000) [0]:=by unfold dTP Qon;kernel_rfl
theorem dpSf_:dTP 9 dh0 dlSf 3 [] (dS false) [0]:=by unfold dTP Qon;kernel_rfl
theorem Zl9:dTP 10 dh2 Qqv 20 [false,false,true] Qr5 [3,3,3,3,3,3,3,3,3,3,3,3,3,3,3,3,3,3,3,3,3,3,3,3,3]:=by unfold dTP Qon;kernel_rfl
theorem Zkx:dTP 10 dh2 Qqy 20 [false,false,false,false,false] Qr8 [5]:=by unfold dTP Qon;kernel_rfl
end Go.Proofs.YtmfeholdlgfpbaaGreatDoor
