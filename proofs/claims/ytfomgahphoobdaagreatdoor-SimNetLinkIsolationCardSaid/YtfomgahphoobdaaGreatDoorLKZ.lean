/-
  The law on isolated links: hop Z. Conditions: none.
-/
import Derived.Test.YtfomgahphoobdaaGreatDoorLKs
namespace Go.Proofs.YtfomgahphoobdaaGreatDoor
open Go Go.Ax Go.RowKit Go.Proofs

theorem khZ : exploreP specF GL 200 7 (fun c v => (Sp.lit true).chk c v) 17 12 [] (ks10f.am 8000) = true := by kernel_rfl
end Go.Proofs.YtfomgahphoobdaaGreatDoor

/-! The law on isolated links: one of two ways at state 9. Conditions: none. -/
namespace Go.Proofs.YtfomgahphoobdaaGreatDoor
open Go Go.Ax Go.RowKit Go.Proofs

theorem kx9 : exploreP specF GL 200 7 (fun c v => (Sp.lit true).chk c v) 17 12 [] (ks9t.am 8000) = true := by kernel_rfl
end Go.Proofs.YtfomgahphoobdaaGreatDoor

/-! The law on isolated links: one of two ways at state 10. Conditions: none. -/
namespace Go.Proofs.YtfomgahphoobdaaGreatDoor
open Go Go.Ax Go.RowKit Go.Proofs

theorem kx10 : exploreP specF GL 200 7 (fun c v => (Sp.lit true).chk c v) 17 12 [] (ks10t.am 8000) = true := by kernel_rfl
end Go.Proofs.YtfomgahphoobdaaGreatDoor
