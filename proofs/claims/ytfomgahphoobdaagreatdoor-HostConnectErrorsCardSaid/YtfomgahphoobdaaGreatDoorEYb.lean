/-
  The law on failed connections: it holds over a memory in which the packages' errors are laid. Conditions: none.
-/
import Derived.Test.YtfomgahphoobdaaGreatDoorEY0
import Derived.Test.YtfomgahphoobdaaGreatDoorEY2
import Derived.Test.YtfomgahphoobdaaGreatDoorEY4
import Derived.Test.YtfomgahphoobdaaGreatDoorEY6
import Derived.Test.YtfomgahphoobdaaGreatDoorEY8
import Derived.Test.YtfomgahphoobdaaGreatDoorEY10
namespace Go.Proofs.YtfomgahphoobdaaGreatDoor
open Go Go.Ax Go.RowKit Go.Proofs
section
variable {n0 : Nat} {w0 : World} {cs0 : List Frame}
theorem yhopF {L d N : Nat} {s : AM} {j : List Nat} {room : Nat} {σ : Sb} {keep : List Nat} {t : StC} (hh : HopF L specF GF 200 17 d N s j σ keep t) (he : ∀ X m, Sim Tryz.prog GF n0 w0 cs0 X (t.am room) m → EndsTrue Tryz.prog n0 w0 cs0 3 m) : ∀ X m, Sim Tryz.prog GF n0 w0 cs0 X s m → EndsTrue Tryz.prog n0 w0 cs0 3 m :=
  fun _ _ h => HopF.ends tab_right ifs_right fsums_all errs_pos hh he h
theorem yhop {s : AM} {j : List Nat} {room : Nat} {σ : Sb} {keep : List Nat} {t : StC} (hh : HopC 0 specF GF 200 17 s j σ keep t) (he : ∀ X m, Sim Tryz.prog GF n0 w0 cs0 X (t.am room) m → EndsTrue Tryz.prog n0 w0 cs0 3 m) : ∀ X m, Sim Tryz.prog GF n0 w0 cs0 X s m → EndsTrue Tryz.prog n0 w0 cs0 3 m :=
  fun _ _ h => HopC.ends tab_right ifs_right fsums_all errs_pos hh he h
theorem ygood : ∀ X m, Sim Tryz.prog GF n0 w0 cs0 X y00 m → EndsTrue Tryz.prog n0 w0 cs0 3 m :=
  yhop yh0 <| yhop yh1 <| yhop yh2 <| yhop yh3 <| yhopF yh4 <| yhopF yh5 <| yhop yh6 <| yhop yh7 <| yhop yh8 <| yhop yh9 <| yhop yh10 fun _ _ h => EndsTrue.of_explore tab_right ifs_right fsums_all specF_ok yhZ h
end
theorem conn_told : ToldE Tryz.prog errs 3 [spI, spI, spI, spI] (.lit true) :=
  toldE_of_sim tab_right errs_ng errs_pos y00_ok fun h => ygood _ _ h
end Go.Proofs.YtfomgahphoobdaaGreatDoor
