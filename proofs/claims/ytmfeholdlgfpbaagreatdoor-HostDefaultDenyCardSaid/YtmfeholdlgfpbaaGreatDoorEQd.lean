/-
 The generators of the host laws, explored: two encoders of the document end with a short text for short arguments, and nothing that was there is changed. Conditions: none.
-/
import Derived.Test.YtmfeholdlgfpbaaGreatDoorEGa
import Derived.Test.YtmfeholdlgfpbaaGreatDoorEWB
import Derived.Test.YtmfeholdlgfpbaaGreatDoorEAxG
namespace Go.Proofs.YtmfeholdlgfpbaaGreatDoor
open Go Go.Ax Go.RowKit Go.Proofs
theorem Qrw:0<tab.ng:=by show 0<9;decide
theorem Qu0:Ax.Told Tryz.prog tab.ng 119 [.str 1099511627776] (.int .i64 0 65535):=by
 intro w vs _ hv;obtain ⟨a,rfl,ha⟩:=hasL_one hv;simp only [Sp.has] at ha;obtain ⟨s,rfl,hs⟩:=ha;refine (Qea s w hs).mono ?_
 rintro e w' ⟨r,rfl,r0,r1,rfl⟩
 refine ⟨_,rfl,?_,Below.refl _ _⟩;simp only [Sp.has];exact ⟨r,rfl,r0,r1⟩
theorem Z62:Ax.Told Tryz.prog tab.ng 64 [.str 1099511627776] (.int .i64 0 4294967295):=by
 intro w vs _ hv;obtain ⟨a,rfl,ha⟩:=hasL_one hv;simp only [Sp.has] at ha;obtain ⟨s,rfl,hs⟩:=ha;refine (Qlw s w hs).mono ?_
 rintro e w' ⟨rfl,rfl⟩
 refine ⟨_,rfl,?_,Below.refl _ _⟩;simp only [Sp.has];exact ⟨_,rfl,(Ql5 0 _).1,(Ql5 0 _).2.1⟩
noncomputable def Zh9:List (Nat×Sum):=[(9,Q8p),(115,Q8p),(119,Qc0 [.str 1099511627776] (.int .i64 0 65535)),(64,Qc0 [.str 1099511627776] (.int .i64 0 4294967295))]
theorem Qtb:Qgh Tryz.prog tab Zh9:=
 .cons (λ_ _ _=>Qce λz n w=>Qcf z n w) Tryz.call9<|
 .cons (λ_ _ _=>Qce λz n w=>Qly z n w) Tryz.call115<|
 .cons (Qgh.told Qrw Qu0) Tryz.call119<|
 .cons (Qgh.told Qrw Z62) Tryz.call64 .nil
noncomputable def G1:Env:=⟨tab,ifs,Qgt Zh9⟩
def enc (m:Nat):Sp:= .tup [.str m, .int .i64 0 1000]
def arpS:Sp:= .agg [spI,spI,spI,spI,spI]
def segS:Sp:= .agg [spI,spI,spI,spI, .bool, .bool, .bool, .bool,spI,spI, .bool, .nils, .str 100]
def udpS:Sp:= .agg [spI,spI, .str 100]
theorem enc10:Ax.Told Tryz.prog tab.ng 48 [spI,spI,udpS] (enc 300):=Qgr (G:=G1) (room:=400) (n:=200) (k:=14) (d:=80) Qqs Qr1 (Qgs Qtb) Qrw (by kernel_rfl)
theorem enc11:Ax.Told Tryz.prog tab.ng 49 [spI,spI,segS] (enc 300):=Qgr (G:=G1) (room:=400) (n:=200) (k:=14) (d:=80) Qqs Qr1 (Qgs Qtb) Qrw (by kernel_rfl)
def big:Nat:=9223372036854775807
def Qww:Sp:= .agg [.int .u8 0 255,spI,spI,spI,spI, .str big,spI,spI,spI,spI,spI,spI]
theorem Qu2:Ax.Told Tryz.prog tab.ng 43 [Qww] arpS:=Qgr (G:=G1) (room:=400) (n:=200) (k:=14) (d:=80) Qqs Qr1 (Qgs Qtb) Qrw (by kernel_rfl)
end Go.Proofs.YtmfeholdlgfpbaaGreatDoor
namespace Go.Proofs.YtmfeholdlgfpbaaGreatDoor
open Go Go.Ax Go.RowKit Go.Proofs
noncomputable def Zh8:List (Nat×Sum):=(4,sumE errs [] (.lit true))::(43,Qc0 [Qww] arpS)::(48,Qc0 [spI,spI,udpS] (enc 300))::(49,Qc0 [spI,spI,segS] (enc 300))::
 (64,Qay 0)::(119,Qay 1)::(132,Qed 10)::(52,Qfa 10)::(177,Qfa 10)::(102,Qnj)::Qmd
theorem Z28:Qgh Tryz.prog tab Zh8:=
 .cons (λ_ _ h=>sumE_ok (Ql7.trans (congrArg Tab.ng h.symm)) Qi8 errs_in Qmq) Tryz.call4<|
 .cons (Qgh.told Qrw Qu2) Tryz.call43<|
 .cons (Qgh.told Qrw enc10) Tryz.call48<|
 .cons (Qgh.told Qrw enc11) Tryz.call49<|
 .cons (λ_ _ _=>Q72 λs w h=>(Qlw s w h).mono λe w' ⟨h1,h2⟩=>⟨h1,by rw [h2];exact Below.refl _ _⟩) Tryz.call64<|
 .cons (λ_ _ _=>Q72 λs w h=>(Qlv s w h).mono λe w' ⟨h1,h2⟩=>⟨h1,by rw [h2];exact Below.refl _ _⟩) Tryz.call119<|
 .cons (λ_ _ _=>Qec (λz k w a b c d=>rput_any z k w a b c d) (λz k w a b c=>rput_bad z k w a b c)) Tryz.call132<|
 .cons (λ_ _ _=>Qm2 (λs i k w a b c d=>rget_any s i k w a b c d) (λs i k w a b c d e=>rget_bad s i k w a b c d e)) Tryz.call52<|
 .cons (λ_ _ _=>Qm2 (λs i k w a b c d=>Ql0 s i k w a b c d) (λs i k w a b c d e=>Qkz s i k w a b c d e)) Tryz.call177<|
 .cons (λ_ _ _=>isSum_ok) Tryz.call102 Qgu
noncomputable def GX:Env:=⟨tab,ifs,Qgt Zh8⟩
theorem Qyk {n0:Nat}:ZE Tryz.prog GX n0:=Qgs Z28 n0
def Zit:List Sp:=[.int .i64 0 9223372036854775807]
def mkD (b:Bool) (l:List AV):Option (List AV):=
 match l with
 |[.int _ (.var i)]=>some [.wslice 14 0 0 19 i, .bool b]
 |_=>none
noncomputable def dS (b:Bool):AM:=Qa2 GX errs 3 Zit (mkD b) 1000
theorem Ziv:Qdp GX errs 3 Zit (mkD false) 1000=true:=by kernel_rfl
theorem Ziu:Qdp GX errs 3 Zit (mkD true) 1000=true:=by kernel_rfl
def frD:List Sp:=[spI,spI,spI,spI,spI,spI, .str 9223372036854775807, .int .u8 0 255,spI,spI,spI,spI, .str 9223372036854775807,spI,spI,spI,spI,spI,spI]
end Go.Proofs.YtmfeholdlgfpbaaGreatDoor
