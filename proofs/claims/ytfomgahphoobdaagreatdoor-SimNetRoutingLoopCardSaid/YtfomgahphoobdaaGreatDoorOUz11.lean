/-
  The law on routing loops: the end from state 11. Conditions: none.
-/
import Derived.Test.YtfomgahphoobdaaGreatDoorOUs
namespace Go.Proofs.YtfomgahphoobdaaGreatDoor
open Go Go.Ax Go.RowKit Go.Proofs

theorem uz11 : exploreP specF GL 200 6 (fun c v => (Sp.lit true).chk c v) 17 3 [] (us11.am 8000) = true := by kernel_rfl
end Go.Proofs.YtfomgahphoobdaaGreatDoor
