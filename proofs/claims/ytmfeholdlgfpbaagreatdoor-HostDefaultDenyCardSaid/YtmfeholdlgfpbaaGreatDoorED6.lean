/-
 The law on hosts that have sent nothing: ways from its states, carried out. Conditions: none.
-/
import Derived.Test.YtmfeholdlgfpbaaGreatDoorEDs
namespace Go.Proofs.YtmfeholdlgfpbaaGreatDoor
open Go Go.Ax Go.RowKit Go.Proofs
theorem Qt9:dTP 10 dh2 Qqy 20 [true,true,true,false,true,true] Qr8 [0,0,0,0,0,2,0,0,2,0,0,0,2,0]:=by unfold dTP Qon;kernel_rfl
theorem Qwd:dTP 10 dh2 Qqy 20 [false,true,false] Qr8 [0,0,0,0,0,0,0]:=by unfold dTP Qon;kernel_rfl
theorem Qw0:dTP 10 dh2 Qqv 20 [false,true,true] Qr5 [0,0,0,0,0,0,0]:=by unfold dTP Qon;kernel_rfl
theorem Qz9:dTP 10 dh0 Qsm 21 [true] (Qq6.am 8000) [0,0,0,0,0,0,0,0,0,0,0,0,0,0,0,0,0,0]:=by unfold dTP Qon;kernel_rfl
theorem Qz1:dTP 10 dh0 Qsg 21 [true] (Qq0.am 8000) [0,0,0,0,0,0,0,0,0,0,0,0,0,0,0,0,0,0]:=by unfold dTP Qon;kernel_rfl
theorem Qyt:dTP 10 dh0 Qsa 21 [true] (Qpu.am 8000) [0,0,0,0,0,0,0,0,0,0,0,0,0,0,0,0,0,0]:=by unfold dTP Qon;kernel_rfl
theorem Qzf:dTP 10 dh0 Qsq 21 [true] (Qqa.am 8000) [0,0,0,0,0,0,0,0,0,0,0,0,0,0,0,0,0,0]:=by unfold dTP Qon;kernel_rfl
theorem Qyz:dTP 10 dh0 Qse 21 [true] (Qpy.am 8000) [0,0,0,0,0,0,0,0,0,0,0,0,0,0,0,0,0,0]:=by unfold dTP Qon;kernel_rfl
theorem Z9u:dTP 10 dh0 Z6i 8 [] (Z4h.am 8000) [0,0,0,0,0,0,0,0,0,0]:=by unfold dTP Qon;kernel_rfl
theorem Z9l:dTP 10 dh0 Z69 7 [] (Z48.am 8000) [0,0,0,0,0,0,0]:=by unfold dTP Qon;kernel_rfl
theorem Qxs:dTP 10 dh0 Qu8 12 [false,false,false] (Qwj.am 8000) [0,0,0,0,0,0,0,0,0,0,0,0]:=by unfold dTP Qon;kernel_rfl
theorem Qx8:dTP 10 dh0 Qu4 12 [false,false,false] (Qwf.am 8000) [0,0,0,0,0,0,0,0,0,0,0,0]:=by unfold dTP Qon;kernel_rfl
theorem Z3u:dTP 9 dh2 Z0n 7 [] Z1z [11,10,9,8,7,6,5,4,3]:=by unfold dTP Qon;kernel_rfl
theorem Z3i:dTP 9 dh2 Z0b 7 [] Z1n [10,9,8,7,6,5,4,3,2]:=by unfold dTP Qon;kernel_rfl
theorem Z36:dTP 9 dh2 Qzz 7 [] Z1b [11,10,9,8,7,6,5,4,3]:=by unfold dTP Qon;kernel_rfl
theorem Z2u:dTP 9 dh2 Qzn 7 [] Z0z [10,9,8,7,6,5,4,3,2]:=by unfold dTP Qon;kernel_rfl
theorem Qt1:dTP 10 dh2 Qqv 20 [true,true,true,false,true,false] Qr5 [0,0,0,0]:=by unfold dTP Qon;kernel_rfl
theorem Qtq:dTP 10 dh2 Qqm 20 [true,true,true,true,false] Qr0 [0,0,0,0]:=by unfold dTP Qon;kernel_rfl
theorem Qwb:dTP 10 dh2 Qqy 20 [true,true,false] Qr8 [0,0,0,0]:=by unfold dTP Qon;kernel_rfl
theorem Qvt:dTP 10 dh2 Qql 20 [true,true,false] Qqz [0,0,0,0]:=by unfold dTP Qon;kernel_rfl
theorem Zk9:dTP 10 dh2 Qqy 20 [false,false,false,false,true,false,false,false] Qr8 [4,4,4,4,4,4,4,4,4,4,4,4,4,4,4,4,4,4,4,4,4,4,4,4,4,4,4,4,4,4,4,4,4,4,4,4,4,4,4,4,4,4,4,4,4,4,4,4,4,4,4,4,4,4,4,4,4,4,4,4]:=by unfold dTP Qon;kernel_rfl
theorem Zkk:dTP 10 dh2 Qqm 20 [false,false,false,false,true,true,true] Qr0 [3,3,3,3,3,3,3,3,3,3,3,3,3,3,3,3,3,3,3,3]:=by unfold dTP Qon;kernel_rfl
theorem Zje:dTP 10 dh2 Qqt 20 [false,false,false,false,true,true,false,true] Qr3 [3,3,3,3,3,3,3,3,3,3,3,3,3,3,3,3,3,3,3,3]:=by unfold dTP Qon;kernel_rfl
theorem Zkb:dTP 10 dh2 Qqt 20 [false,false,false,false,true,false,true] Qr3 [3,3,3,3,3,3,3,3,3,3,3,3,3,3,3,3,3,3,3,3]:=by unfold dTP Qon;kernel_rfl
theorem Qxo:dTP 10 dh0 Qsk 21 [false,true] (Qq4.am 8000) [0]:=by unfold dTP Qon;kernel_rfl
theorem Qx9:dTP 10 dh0 Qsb 21 [false,true] (Qpv.am 8000) [0]:=by unfold dTP Qon;kernel_rfl
theorem Zl4:dTP 10 dh2 Qqx 20 [false,false,false,true] Qr7 [3,3,3,3,3,3,3,3,3,3,3,3,3,3,3,3,3,3,3,3,3,3,3,3,3]:=by unfold dTP Qon;kernel_rfl
theorem Zlc:dTP 10 dh2 Qqx 20 [false,false,true] Qr7 [3,3,3,3,3,3,3,3,3,3,3,3,3,3,3,3,3,3,3,3,3,3,3,3,3]:=by unfold dTP Qon;kernel_rfl
theorem Zic:dTP 8 dh1 Zik 5 [] (Zaq.am 8000) [0]:=by unfold dTP Qon;kernel_rfl
end Go.Proofs.YtmfeholdlgfpbaaGreatDoor
