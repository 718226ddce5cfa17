/-
 The law on hosts that have sent nothing: ways from its states, carried out. Conditions: none.
-/
import Derived.Test.YtmfeholdlgfpbaaGreatDoorEDs
namespace Go.Proofs.YtmfeholdlgfpbaaGreatDoor
open Go Go.Ax Go.RowKit Go.Proofs
theorem Qtk:dTP 10 dh2 Qqv 20 [true,true,true,true,true] Qr5 [1,2,0,1,2,0,0,1,2,0]:=by unfold dTP Qon;kernel_rfl
theorem Qw9:dTP 10 dh2 Qqx 20 [false,true,true] Qr7 [0,0,0,0,0,0,0]:=by unfold dTP Qon;kernel_rfl
theorem Qsw:dTP 10 dh2 Qql 20 [true,true,true,true,true,false] Qqz [0,0,0,1,0,0,0,0,1,0,0]:=by unfold dTP Qon;kernel_rfl
theorem Qzc:dTP 10 dh0 Qso 21 [true] (Qq8.am 8000) [0,0,0,0,0,0,0,0,0,0,0,0,0,0,0,0,0,0]:=by unfold dTP Qon;kernel_rfl
theorem Qz4:dTP 10 dh0 Qsi 21 [true] (Qq2.am 8000) [0,0,0,0,0,0,0,0,0,0,0,0,0,0,0,0,0,0]:=by unfold dTP Qon;kernel_rfl
theorem Qyw:dTP 10 dh0 Qsc 21 [true] (Qpw.am 8000) [0,0,0,0,0,0,0,0,0,0,0,0,0,0,0,0,0,0]:=by unfold dTP Qon;kernel_rfl
theorem Qyo:dTP 10 dh0 Qs6 21 [true] (Qpq.am 8000) [0,0,0,0,0,0,0,0,0,0,0,0,0,0,0,0,0,0]:=by unfold dTP Qon;kernel_rfl
theorem Qz3:dTP 10 dh0 Qsh 21 [true] (Qq1.am 8000) [0,0,0,0,0,0,0,0,0,0,0,0,0,0,0,0,0,0]:=by unfold dTP Qon;kernel_rfl
theorem Qyn:dTP 10 dh0 Qs5 21 [true] (Qpp.am 8000) [0,0,0,0,0,0,0,0,0,0,0,0,0,0,0,0,0,0]:=by unfold dTP Qon;kernel_rfl
theorem Z9r:dTP 10 dh0 Z6f 7 [] (Z4e.am 8000) [0,0,0,0,0,0,0]:=by unfold dTP Qon;kernel_rfl
theorem Qy1:dTP 10 dh0 Qub 12 [false,false,true] (Qwl.am 8000) [0,0,0,0,0,0,0,0,0,0,0,0]:=by unfold dTP Qon;kernel_rfl
theorem Qxh:dTP 10 dh0 Qu6 12 [false,false,true] (Qwh.am 8000) [0,0,0,0,0,0,0,0,0,0,0,0]:=by unfold dTP Qon;kernel_rfl
theorem Z41:dTP 9 dh2 Z0u 7 [] Z26 [11,10,9,8,7,6,5,4,3]:=by unfold dTP Qon;kernel_rfl
theorem Z3q:dTP 9 dh2 Z0j 7 [] Z1v [11,10,9,8,7,6,5,4,3]:=by unfold dTP Qon;kernel_rfl
theorem Z3e:dTP 9 dh2 Z07 7 [] Z1j [10,9,8,7,6,5,4,3,2]:=by unfold dTP Qon;kernel_rfl
theorem Z32:dTP 9 dh2 Qzv 7 [] Z17 [11,10,9,8,7,6,5,4,3]:=by unfold dTP Qon;kernel_rfl
theorem Z2q:dTP 9 dh2 Qzj 7 [] Z0v [10,9,8,7,6,5,4,3,2]:=by unfold dTP Qon;kernel_rfl
theorem Qti:dTP 10 dh2 Qqu 20 [true,true,true,true,false] Qr4 [0,0,0,0]:=by unfold dTP Qon;kernel_rfl
theorem Qw2:dTP 10 dh2 Qqw 20 [true,true,false] Qr6 [0,0,0,0]:=by unfold dTP Qon;kernel_rfl
theorem Zjz:dTP 10 dh2 Qqm 20 [false,false,false,false,true,true,false,false] Qr0 [3,3,3,3,3,3,3,3,3,3,3,3,3,3,3,3,3,3,3,3,3,3,3,3,3,3,3,3,3,3,3,3,3,3,3,3,3,3,3,3,3,3,3,3,3,3,3,3,3,3,3,3,3,3,3,3,3,3,3,3]:=by unfold dTP Qon;kernel_rfl
theorem Zjl:dTP 10 dh2 Qql 20 [false,false,false,false,true,false,false,false] Qqz [3,3,3,3,3,3,3,3,3,3,3,3,3,3,3,3,3,3,3,3,3,3,3,3,3,3,3,3,3,3,3,3,3,3,3,3,3,3,3,3,3,3,3,3,3,3,3,3,3,3,3,3,3,3,3,3,3,3,3,3]:=by unfold dTP Qon;kernel_rfl
theorem Zke:dTP 10 dh2 Qqu 20 [false,false,false,false,true,true,true] Qr4 [4,4,4,4,4,4,4,4,4,4,4,4,4,4,4,4,4,4,4,4]:=by unfold dTP Qon;kernel_rfl
theorem Zkj:dTP 10 dh2 Qqw 20 [false,false,false,false,true,false,true] Qr6 [3,3,3,3,3,3,3,3,3,3,3,3,3,3,3,3,3,3,3,3]:=by unfold dTP Qon;kernel_rfl
theorem Qxy:dTP 10 dh0 Qsq 21 [false,true] (Qqa.am 8000) [0]:=by unfold dTP Qon;kernel_rfl
theorem Qxj:dTP 10 dh0 Qsh 21 [false,true] (Qq1.am 8000) [0]:=by unfold dTP Qon;kernel_rfl
theorem Qx4:dTP 10 dh0 Qs8 21 [false,true] (Qps.am 8000) [0]:=by unfold dTP Qon;kernel_rfl
theorem Zl0:dTP 10 dh2 Qqu 20 [false,false,false,true] Qr4 [3,3,3,3,3,3,3,3,3,3,3,3,3,3,3,3,3,3,3,3,3,3,3,3,3]:=by unfold dTP Qon;kernel_rfl
theorem Zih:dTP 8 dh1 Ziq 5 [] (Zak.am 8000) [0]:=by unfold dTP Qon;kernel_rfl
theorem Zks:dTP 10 dh2 Qqu 20 [false,false,false,false,false] Qr4 [5]:=by unfold dTP Qon;kernel_rfl
end Go.Proofs.YtmfeholdlgfpbaaGreatDoor
