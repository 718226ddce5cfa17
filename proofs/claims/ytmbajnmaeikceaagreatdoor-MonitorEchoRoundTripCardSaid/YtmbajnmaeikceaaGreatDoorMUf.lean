/-
 The law on echo requests: the hop to state 15. Conditions: none.
-/
import Derived.Test.YtmbajnmaeikceaaGreatDoorMUs
namespace Go.Proofs.YtmbajnmaeikceaaGreatDoor
open Go Go.Ax Go.RowKit Go.Proofs
theorem uh15:HopG 5 Q80 GM 200 17 (us14.am 8000) [9,7,6,4,3,2,1] [] [16,17,18,19,20,45,41,21,22,23,24,25,5006,255,3922,256,4998,4992,4997,4999,260,259,257,254,82,231,131,124,126,128,135,133,435,684,130,129,120,118,119,116,115,364,123,121,122,310,184,177,179,181,188,186,1639,1978,183,182,173,172,171,170,1522,176,174,175,221,216,218,229,223,2227,2564,227,929,1266,220,219,212,211,210,215,213,214,253,247,251,3923,31,26,30,51,36,46,40,38,47,48,44,49,54,52,53] [] us15:=by unfold HopG;kernel_rfl
end Go.Proofs.YtmbajnmaeikceaaGreatDoor
namespace Go.Proofs.YtmbajnmaeikceaaGreatDoor
open Go Go.Ax Go.RowKit Go.Proofs
theorem uh16:HopG 5 Q80 GM 200 17 (us15.am 8000) [10,6,5,3,2,1,0] [] [16,17,18,19,20,45,41,21,22,23,24,25,254,82,231,131,124,126,128,135,133,435,684,130,129,120,118,119,116,115,364,123,121,122,310,184,177,179,181,188,186,1639,1978,183,182,173,172,171,170,1522,176,174,175,221,216,218,229,223,2227,2564,227,929,1266,220,219,212,211,210,215,213,214,253,247,251,5412,260,259,256,255,5010,257,3923,31,26,30,51,36,46,40,38,47,48,44,49,54,52,53] [] us16:=by unfold HopG;kernel_rfl
end Go.Proofs.YtmbajnmaeikceaaGreatDoor
namespace Go.Proofs.YtmbajnmaeikceaaGreatDoor
open Go Go.Ax Go.RowKit Go.Proofs
theorem uz16:Jc Q80 GM 200 4 (λc v=>(Sp.lit true).chk c v) 17 3 [] (us16.am 8000)=true:=by kernel_rfl
end Go.Proofs.YtmbajnmaeikceaaGreatDoor
