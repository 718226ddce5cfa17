/-
 The tie of the listed variables to the program's text: the list read in what the run leaves. Conditions: none.
-/
import Derived.Test.YtmbajnmaeikceaaGreatDoorMT4
import Derived.LaidOnce
namespace Go.Proofs.YtmbajnmaeikceaaGreatDoor
open Go
theorem Qu0:∀os,(DataW.laidRun Tryz.prog (Qtw os) 8 ((laidAll.filter λx=>x.2.handleName?.isNone).map (·.1))).map (·.1)=some (laidAll.filter λx=>x.2.handleName?.isNone):=λ_=>by kernel_rfl
theorem Z22:∀os,(DataW.laidRun Tryz.prog (Qtw os) 8 ((laidAll.filter λx=>x.2.handleName?.isNone).map (·.1))).map (λx=>nodupBits 65 x.2 0&&laidRowsB Tryz.prog (Qtw os) x.2)=some true:=λ_=>by kernel_rfl
theorem Z27:∀os tape,(DataW.laidRun Tryz.prog (varsWorld Tryz.prog 400 (varsId Tryz.prog) os tape).memory 8 ((laidAll.filter λx=>x.2.handleName?.isNone).map (·.1))).map (·.1)=some (laidAll.filter λx=>x.2.handleName?.isNone):=λos tape=>by rw [Qty os tape];exact Qu0 os
theorem Z26:∀os tape,(DataW.laidRun Tryz.prog (varsWorld Tryz.prog 400 (varsId Tryz.prog) os tape).memory 8 ((laidAll.filter λx=>x.2.handleName?.isNone).map (·.1))).map (λx=>decide x.2.Nodup&&laidRowsB Tryz.prog (varsWorld Tryz.prog 400 (varsId Tryz.prog) os tape).memory x.2)=some true:=λos tape=>by
 rw [Qty os tape];have h:=Z22 os;cases hx:DataW.laidRun Tryz.prog (Qtw os) 8 ((laidAll.filter λx=>x.2.handleName?.isNone).map (·.1)) with
 |none=>rw [hx] at h;cases h
 |some x=>rw [hx,Option.map_some,Option.some.injEq,Bool.and_eq_true] at h;rw [Option.map_some,h.2,decide_eq_true (nodupBits_sound h.1).1];rfl
end Go.Proofs.YtmbajnmaeikceaaGreatDoor
