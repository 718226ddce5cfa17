/-
 The law on hosts that have sent nothing: ways from its states, carried out. Conditions: none.
-/
import Derived.Test.YtmfeholdlgfpbaaGreatDoorEDs
namespace Go.Proofs.YtmfeholdlgfpbaaGreatDoor
open Go Go.Ax Go.RowKit Go.Proofs
theorem Qt7:dTP 10 dh2 Qqx 20 [true,true,true,false,true,true] Qr7 [0,0,0,0,0,2,0,0,2,0,0,0,2,0]:=by unfold dTP Qon;kernel_rfl
theorem Qwa:dTP 10 dh2 Qqx 20 [false,true,false] Qr7 [0,0,0,0,0,0,0]:=by unfold dTP Qon;kernel_rfl
theorem Qvx:dTP 10 dh2 Qqu 20 [false,true,true] Qr4 [0,0,0,0,0,0,0]:=by unfold dTP Qon;kernel_rfl
theorem Qvc:dTP 10 dh0 Qsm 21 [false,false,true] (Qq6.am 8000) [0,0,0,0,0,0,0,0,0,0,0,0,0,0,0,0,0,0]:=by unfold dTP Qon;kernel_rfl
theorem Qv0:dTP 10 dh0 Qsg 21 [false,false,true] (Qq0.am 8000) [0,0,0,0,0,0,0,0,0,0,0,0,0,0,0,0,0,0]:=by unfold dTP Qon;kernel_rfl
theorem Quo:dTP 10 dh0 Qsa 21 [false,false,true] (Qpu.am 8000) [0,0,0,0,0,0,0,0,0,0,0,0,0,0,0,0,0,0]:=by unfold dTP Qon;kernel_rfl
theorem Qvk:dTP 10 dh0 Qsq 21 [false,false,true] (Qqa.am 8000) [0,0,0,0,0,0,0,0,0,0,0,0,0,0,0,0,0,0]:=by unfold dTP Qon;kernel_rfl
theorem Quw:dTP 10 dh0 Qse 21 [false,false,true] (Qpy.am 8000) [0,0,0,0,0,0,0,0,0,0,0,0,0,0,0,0,0,0]:=by unfold dTP Qon;kernel_rfl
theorem Z9s:dTP 10 dh0 Z6g 8 [] (Z4f.am 8000) [0,0,0,0,0,0,0,0,0,0]:=by unfold dTP Qon;kernel_rfl
theorem Z9j:dTP 10 dh0 Z67 7 [] (Z46.am 8000) [0,0,0,0,0,0,0]:=by unfold dTP Qon;kernel_rfl
theorem Z2m:dTP 10 dh0 Qu7 12 [true] (Qwi.am 8000) [0,0,0,0,0,0,0,0,0,0,0,0]:=by unfold dTP Qon;kernel_rfl
theorem Z2i:dTP 10 dh0 Qu3 12 [true] (Qwe.am 8000) [0,0,0,0,0,0,0,0,0,0,0,0]:=by unfold dTP Qon;kernel_rfl
theorem Z3t:dTP 9 dh2 Z0m 7 [] Z1y [11,10,9,8,7,6,5,4,3]:=by unfold dTP Qon;kernel_rfl
theorem Z3h:dTP 9 dh2 Z0a 7 [] Z1m [10,9,8,7,6,5,4,3,2]:=by unfold dTP Qon;kernel_rfl
theorem Z35:dTP 9 dh2 Qzy 7 [] Z1a [11,10,9,8,7,6,5,4,3]:=by unfold dTP Qon;kernel_rfl
theorem Z2t:dTP 9 dh2 Qzm 7 [] Z0y [10,9,8,7,6,5,4,3,2]:=by unfold dTP Qon;kernel_rfl
theorem Qsz:dTP 10 dh2 Qqu 20 [true,true,true,false,true,false] Qr4 [0,0,0,0]:=by unfold dTP Qon;kernel_rfl
theorem Qtr:dTP 10 dh2 Qqm 20 [true,true,true,false,false] Qr0 [0,0,0,0]:=by unfold dTP Qon;kernel_rfl
theorem Qyh:dTP 10 dh2 Qqy 20 [true,false] Qr8 [0,0,0,0]:=by unfold dTP Qon;kernel_rfl
theorem Qy5:dTP 10 dh2 Qql 20 [true,false] Qqz [0,0,0,0]:=by unfold dTP Qon;kernel_rfl
theorem Zk5:dTP 10 dh2 Qqx 20 [false,false,false,false,true,false,false,false] Qr7 [4,4,4,4,4,4,4,4,4,4,4,4,4,4,4,4,4,4,4,4,4,4,4,4,4,4,4,4,4,4,4,4,4,4,4,4,4,4,4,4,4,4,4,4,4,4,4,4,4,4,4,4,4,4,4,4,4,4,4,4]:=by unfold dTP Qon;kernel_rfl
theorem Zjy:dTP 10 dh2 Qqm 20 [false,false,false,false,true,true,false,true] Qr0 [3,3,3,3,3,3,3,3,3,3,3,3,3,3,3,3,3,3,3,3]:=by unfold dTP Qon;kernel_rfl
theorem Zkp:dTP 10 dh2 Qqy 20 [false,false,false,false,true,false,true] Qr8 [4,4,4,4,4,4,4,4,4,4,4,4,4,4,4,4,4,4,4,4]:=by unfold dTP Qon;kernel_rfl
theorem Zjo:dTP 10 dh2 Qqu 20 [false,false,false,false,true,false,false,true] Qr4 [4,4,4,4,4,4,4,4,4,4,4,4,4,4,4,4,4,4,4,4]:=by unfold dTP Qon;kernel_rfl
theorem Qze:dTP 10 dh0 Qu9 12 [false,true] (Qwk.am 8000) [0]:=by unfold dTP Qon;kernel_rfl
theorem Qz2:dTP 10 dh0 Qu6 12 [false,true] (Qwh.am 8000) [0]:=by unfold dTP Qon;kernel_rfl
theorem Qyq:dTP 10 dh0 Qu3 12 [false,true] (Qwe.am 8000) [0]:=by unfold dTP Qon;kernel_rfl
theorem Zl8:dTP 10 dh2 Qqu 20 [false,false,true] Qr4 [3,3,3,3,3,3,3,3,3,3,3,3,3,3,3,3,3,3,3,3,3,3,3,3,3]:=by unfold dTP Qon;kernel_rfl
theorem Zkw:dTP 10 dh2 Qqx 20 [false,false,false,false,false] Qr7 [5]:=by unfold dTP Qon;kernel_rfl
end Go.Proofs.YtmfeholdlgfpbaaGreatDoor
