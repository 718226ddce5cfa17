/-
 The tie of the listed variables to the program's text: the list read in what the run leaves. Conditions: none.
-/
import Derived.Test.YtmbajnmaeikceaaGreatDoorNT4
import Derived.LaidOnce
namespace Go.Proofs.YtmbajnmaeikceaaGreatDoor
open Go
theorem Qrx:∀os,(DataW.laidRun Tryz.prog (Qpg os) 8 ((laidAll.filter λx=>x.2.handleName?.isNone).map (·.1))).map (·.1)=some (laidAll.filter λx=>x.2.handleName?.isNone):=λ_=>by kernel_rfl
theorem Qsa:∀os,(DataW.laidRun Tryz.prog (Qpg os) 8 ((laidAll.filter λx=>x.2.handleName?.isNone).map (·.1))).map (λx=>nodupBits 65 x.2 0&&laidRowsB Tryz.prog (Qpg os) x.2)=some true:=λ_=>by kernel_rfl
theorem Qwj:∀os tape,(DataW.laidRun Tryz.prog (varsWorld Tryz.prog 400 (varsId Tryz.prog) os tape).memory 8 ((laidAll.filter λx=>x.2.handleName?.isNone).map (·.1))).map (·.1)=some (laidAll.filter λx=>x.2.handleName?.isNone):=λos tape=>by rw [Qq4 os tape];exact Qrx os
theorem Qwi:∀os tape,(DataW.laidRun Tryz.prog (varsWorld Tryz.prog 400 (varsId Tryz.prog) os tape).memory 8 ((laidAll.filter λx=>x.2.handleName?.isNone).map (·.1))).map (λx=>decide x.2.Nodup&&laidRowsB Tryz.prog (varsWorld Tryz.prog 400 (varsId Tryz.prog) os tape).memory x.2)=some true:=λos tape=>by
 rw [Qq4 os tape];have h:=Qsa os;cases hx:DataW.laidRun Tryz.prog (Qpg os) 8 ((laidAll.filter λx=>x.2.handleName?.isNone).map (·.1)) with
 |none=>rw [hx] at h;cases h
 |some x=>rw [hx,Option.map_some,Option.some.injEq,Bool.and_eq_true] at h;rw [Option.map_some,h.2,decide_eq_true (nodupBits_sound h.1).1];rfl
end Go.Proofs.YtmbajnmaeikceaaGreatDoor
