/-
 The law on hosts that have sent nothing: ways from its states, carried out. Conditions: none.
-/
import Derived.Test.YtmfeholdlgfpbaaGreatDoorEDs
namespace Go.Proofs.YtmfeholdlgfpbaaGreatDoor
open Go Go.Ax Go.RowKit Go.Proofs
theorem Qtc:dTP 10 dh2 Qqt 20 [true,true,true,true,true] Qr3 [0,1,0,0,1,0,0,0,1,0]:=by unfold dTP Qon;kernel_rfl
theorem Qw3:dTP 10 dh2 Qqw 20 [false,true,true] Qr6 [0,0,0,0,0,0,0]:=by unfold dTP Qon;kernel_rfl
theorem Qvo:dTP 10 dh0 Qss 21 [false,false,true] (Qqc.am 8000) [0,0,0,0,0,0,0,0,0,0,0,0,0,0,0,0,0,0]:=by unfold dTP Qon;kernel_rfl
theorem Qvn:dTP 10 dh0 Qsr 21 [false,false,false] (Qqb.am 8000) [0,0,0,0,0,0,0,0,0,0,0,0,0,0,0,0,0,0]:=by unfold dTP Qon;kernel_rfl
theorem Qvb:dTP 10 dh0 Qsl 21 [false,false,false] (Qq5.am 8000) [0,0,0,0,0,0,0,0,0,0,0,0,0,0,0,0,0,0]:=by unfold dTP Qon;kernel_rfl
theorem Quz:dTP 10 dh0 Qsf 21 [false,false,false] (Qpz.am 8000) [0,0,0,0,0,0,0,0,0,0,0,0,0,0,0,0,0,0]:=by unfold dTP Qon;kernel_rfl
theorem Qun:dTP 10 dh0 Qs9 21 [false,false,false] (Qpt.am 8000) [0,0,0,0,0,0,0,0,0,0,0,0,0,0,0,0,0,0]:=by unfold dTP Qon;kernel_rfl
theorem Qvf:dTP 10 dh0 Qsn 21 [false,false,false] (Qq7.am 8000) [0,0,0,0,0,0,0,0,0,0,0,0,0,0,0,0,0,0]:=by unfold dTP Qon;kernel_rfl
theorem Qur:dTP 10 dh0 Qsb 21 [false,false,false] (Qpv.am 8000) [0,0,0,0,0,0,0,0,0,0,0,0,0,0,0,0,0,0]:=by unfold dTP Qon;kernel_rfl
theorem Z9k:dTP 10 dh0 Z68 8 [] (Z47.am 8000) [0,0,0,0,0,0,0,0,0,0]:=by unfold dTP Qon;kernel_rfl
theorem Z2o:dTP 10 dh0 Qu9 12 [true] (Qwk.am 8000) [0,0,0,0,0,0,0,0,0,0,0,0]:=by unfold dTP Qon;kernel_rfl
theorem Z2k:dTP 10 dh0 Qu5 12 [true] (Qwg.am 8000) [0,0,0,0,0,0,0,0,0,0,0,0]:=by unfold dTP Qon;kernel_rfl
theorem Z3z:dTP 9 dh2 Z0s 7 [] Z24 [11,10,9,8,7,6,5,4,3]:=by unfold dTP Qon;kernel_rfl
theorem Z3o:dTP 9 dh2 Z0h 7 [] Z1t [10,9,8,7,6,5,4,3,2]:=by unfold dTP Qon;kernel_rfl
theorem Z3c:dTP 9 dh2 Z05 7 [] Z1h [11,10,9,8,7,6,5,4,3]:=by unfold dTP Qon;kernel_rfl
theorem Z30:dTP 9 dh2 Qzt 7 [] Z15 [10,9,8,7,6,5,4,3,2]:=by unfold dTP Qon;kernel_rfl
theorem Qsv:dTP 10 dh2 Qql 20 [true,true,true,true,true,true] Qqz [0,0,0,1,0]:=by unfold dTP Qon;kernel_rfl
theorem Qtm:dTP 10 dh2 Qqv 20 [true,true,true,false,false] Qr5 [0,0,0,0]:=by unfold dTP Qon;kernel_rfl
theorem Qyd:dTP 10 dh2 Qqm 20 [true,false] Qr0 [0,0,0,0]:=by unfold dTP Qon;kernel_rfl
theorem Zk3:dTP 10 dh2 Qqx 20 [false,false,false,false,true,true,false,false] Qr7 [4,4,4,4,4,4,4,4,4,4,4,4,4,4,4,4,4,4,4,4,4,4,4,4,4,4,4,4,4,4,4,4,4,4,4,4,4,4,4,4,4,4,4,4,4,4,4,4,4,4,4,4,4,4,4,4,4,4,4,4]:=by unfold dTP Qon;kernel_rfl
theorem Zjp:dTP 10 dh2 Qqu 20 [false,false,false,false,true,false,false,false] Qr4 [4,4,4,4,4,4,4,4,4,4,4,4,4,4,4,4,4,4,4,4,4,4,4,4,4,4,4,4,4,4,4,4,4,4,4,4,4,4,4,4,4,4,4,4,4,4,4,4,4,4,4,4,4,4,4,4,4,4,4,4]:=by unfold dTP Qon;kernel_rfl
theorem Zjq:dTP 10 dh2 Qqv 20 [false,false,false,false,true,true,false,true] Qr5 [4,4,4,4,4,4,4,4,4,4,4,4,4,4,4,4,4,4,4,4]:=by unfold dTP Qon;kernel_rfl
theorem Zkl:dTP 10 dh2 Qqm 20 [false,false,false,false,true,false,true] Qr0 [3,3,3,3,3,3,3,3,3,3,3,3,3,3,3,3,3,3,3,3]:=by unfold dTP Qon;kernel_rfl
theorem Qy0:dTP 10 dh0 Qss 21 [false,true] (Qqc.am 8000) [0]:=by unfold dTP Qon;kernel_rfl
theorem Qza:dTP 10 dh0 Qu8 12 [false,true] (Qwj.am 8000) [0]:=by unfold dTP Qon;kernel_rfl
theorem Qyy:dTP 10 dh0 Qu5 12 [false,true] (Qwg.am 8000) [0]:=by unfold dTP Qon;kernel_rfl
theorem Zl3:dTP 10 dh2 Qqm 20 [false,false,false,true] Qr0 [2,2,2,2,2,2,2,2,2,2,2,2,2,2,2,2,2,2,2,2,2,2,2,2,2]:=by unfold dTP Qon;kernel_rfl
theorem Zl7:dTP 10 dh2 Qql 20 [false,false,true] Qqz [2,2,2,2,2,2,2,2,2,2,2,2,2,2,2,2,2,2,2,2,2,2,2,2,2]:=by unfold dTP Qon;kernel_rfl
theorem Zkv:dTP 10 dh2 Qqm 20 [false,false,false,false,false] Qr0 [4]:=by unfold dTP Qon;kernel_rfl
end Go.Proofs.YtmfeholdlgfpbaaGreatDoor
