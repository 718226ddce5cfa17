/-
 The law on hosts that have sent nothing: ways from its states, carried out. Conditions: none.
-/
import Derived.Test.YtmfeholdlgfpbaaGreatDoorEDs
namespace Go.Proofs.YtmfeholdlgfpbaaGreatDoor
open Go Go.Ax Go.RowKit Go.Proofs
theorem Qsy:dTP 10 dh2 Qqu 20 [true,true,true,false,true,true] Qr4 [0,0,0,0,0,2,0,0,2,0,0,0,2,0]:=by unfold dTP Qon;kernel_rfl
theorem Qw1:dTP 10 dh2 Qqv 20 [false,true,false] Qr5 [0,0,0,0,0,0,0]:=by unfold dTP Qon;kernel_rfl
theorem Qs3:dTP 10 dh2 Qqm 20 [true,true,true,false,true,true,true] Qr0 [0,0,0,1,0,0,0,0,1,0,0,0,0,0,1,0]:=by unfold dTP Qon;kernel_rfl
theorem Qvg:dTP 10 dh0 Qso 21 [false,false,true] (Qq8.am 8000) [0,0,0,0,0,0,0,0,0,0,0,0,0,0,0,0,0,0]:=by unfold dTP Qon;kernel_rfl
theorem Qv4:dTP 10 dh0 Qsi 21 [false,false,true] (Qq2.am 8000) [0,0,0,0,0,0,0,0,0,0,0,0,0,0,0,0,0,0]:=by unfold dTP Qon;kernel_rfl
theorem Qus:dTP 10 dh0 Qsc 21 [false,false,true] (Qpw.am 8000) [0,0,0,0,0,0,0,0,0,0,0,0,0,0,0,0,0,0]:=by unfold dTP Qon;kernel_rfl
theorem Qug:dTP 10 dh0 Qs6 21 [false,false,true] (Qpq.am 8000) [0,0,0,0,0,0,0,0,0,0,0,0,0,0,0,0,0,0]:=by unfold dTP Qon;kernel_rfl
theorem Qv2:dTP 10 dh0 Qsh 21 [false,false,true] (Qq1.am 8000) [0,0,0,0,0,0,0,0,0,0,0,0,0,0,0,0,0,0]:=by unfold dTP Qon;kernel_rfl
theorem Que:dTP 10 dh0 Qs5 21 [false,false,true] (Qpp.am 8000) [0,0,0,0,0,0,0,0,0,0,0,0,0,0,0,0,0,0]:=by unfold dTP Qon;kernel_rfl
theorem Z9p:dTP 10 dh0 Z6d 7 [] (Z4c.am 8000) [0,0,0,0,0,0,0]:=by unfold dTP Qon;kernel_rfl
theorem Z2n:dTP 10 dh0 Qu8 12 [true] (Qwj.am 8000) [0,0,0,0,0,0,0,0,0,0,0,0]:=by unfold dTP Qon;kernel_rfl
theorem Z2j:dTP 10 dh0 Qu4 12 [true] (Qwf.am 8000) [0,0,0,0,0,0,0,0,0,0,0,0]:=by unfold dTP Qon;kernel_rfl
theorem Z3w:dTP 9 dh2 Z0p 7 [] Z21 [11,10,9,8,7,6,5,4,3]:=by unfold dTP Qon;kernel_rfl
theorem Z3k:dTP 9 dh2 Z0d 7 [] Z1p [10,9,8,7,6,5,4,3,2]:=by unfold dTP Qon;kernel_rfl
theorem Z38:dTP 9 dh2 Z01 7 [] Z1d [11,10,9,8,7,6,5,4,3]:=by unfold dTP Qon;kernel_rfl
theorem Z2w:dTP 9 dh2 Qzp 7 [] Z11 [10,9,8,7,6,5,4,3,2]:=by unfold dTP Qon;kernel_rfl
theorem Qt6:dTP 10 dh2 Qqm 20 [true,true,true,false,true,false] Qr0 [0,0,0,0]:=by unfold dTP Qon;kernel_rfl
theorem Qtt:dTP 10 dh2 Qqx 20 [true,true,true,true,false] Qr7 [0,0,0,0]:=by unfold dTP Qon;kernel_rfl
theorem Qtd:dTP 10 dh2 Qqt 20 [true,true,true,true,false] Qr3 [0,0,0,0]:=by unfold dTP Qon;kernel_rfl
theorem Qvw:dTP 10 dh2 Qqu 20 [true,true,false] Qr4 [0,0,0,0]:=by unfold dTP Qon;kernel_rfl
theorem Zjj:dTP 10 dh2 Qql 20 [false,false,false,false,true,true,false,false] Qqz [3,3,3,3,3,3,3,3,3,3,3,3,3,3,3,3,3,3,3,3,3,3,3,3,3,3,3,3,3,3,3,3,3,3,3,3,3,3,3,3,3,3,3,3,3,3,3,3,3,3,3,3,3,3,3,3,3,3,3,3]:=by unfold dTP Qon;kernel_rfl
theorem Zkm:dTP 10 dh2 Qqx 20 [false,false,false,false,true,true,true] Qr7 [4,4,4,4,4,4,4,4,4,4,4,4,4,4,4,4,4,4,4,4]:=by unfold dTP Qon;kernel_rfl
theorem Zji:dTP 10 dh2 Qql 20 [false,false,false,false,true,true,false,true] Qqz [3,3,3,3,3,3,3,3,3,3,3,3,3,3,3,3,3,3,3,3]:=by unfold dTP Qon;kernel_rfl
theorem Zjs:dTP 10 dh2 Qqv 20 [false,false,false,false,true,false,false,true] Qr5 [4,4,4,4,4,4,4,4,4,4,4,4,4,4,4,4,4,4,4,4]:=by unfold dTP Qon;kernel_rfl
theorem Qxu:dTP 10 dh0 Qso 21 [false,true] (Qq8.am 8000) [0]:=by unfold dTP Qon;kernel_rfl
theorem Qxf:dTP 10 dh0 Qsf 21 [false,true] (Qpz.am 8000) [0]:=by unfold dTP Qon;kernel_rfl
theorem Qx0:dTP 10 dh0 Qs6 21 [false,true] (Qpq.am 8000) [0]:=by unfold dTP Qon;kernel_rfl
theorem Zlb:dTP 10 dh2 Qqm 20 [false,false,true] Qr0 [2,2,2,2,2,2,2,2,2,2,2,2,2,2,2,2,2,2,2,2,2,2,2,2,2]:=by unfold dTP Qon;kernel_rfl
theorem Zij:dTP 8 dh1 Zis 4 [] (dBf0.am 8000) [0]:=by unfold dTP Qon;kernel_rfl
end Go.Proofs.YtmfeholdlgfpbaaGreatDoor
