/-
  The law on routing loops: it holds over a memory in which the packages' errors are laid. Conditions: none.
-/
import Derived.Test.YtfomgahphoobdaaGreatDoorOU0
import Derived.Test.YtfomgahphoobdaaGreatDoorOU2
import Derived.Test.YtfomgahphoobdaaGreatDoorOU4
import Derived.Test.YtfomgahphoobdaaGreatDoorOU6
import Derived.Test.YtfomgahphoobdaaGreatDoorOU7
import Derived.Test.YtfomgahphoobdaaGreatDoorOU8
import Derived.Test.YtfomgahphoobdaaGreatDoorOU9
import Derived.Test.YtfomgahphoobdaaGreatDoorOU10
import Derived.Test.YtfomgahphoobdaaGreatDoorOU11
import Derived.Test.YtfomgahphoobdaaGreatDoorOUz11
namespace Go.Proofs.YtfomgahphoobdaaGreatDoor
open Go Go.Ax Go.RowKit Go.Proofs

section
variable {n0 : Nat} {w0 : World} {cs0 : List Frame}
theorem uhop {s : AM} {j : List Nat} {room : Nat} {σ : Sb} {keep : List Nat} {t : StC} (hh : HopC 0 specF GL 200 17 s j σ keep t) (he : ∀ X m, Sim Tryz.prog GL n0 w0 cs0 X (t.am room) m → EndsTrue Tryz.prog n0 w0 cs0 6 m) : ∀ X m, Sim Tryz.prog GL n0 w0 cs0 X s m → EndsTrue Tryz.prog n0 w0 cs0 6 m :=
  fun _ _ h => HopC.ends tab_right ifs_right ksums_all errs_pos hh he h
theorem ug_s11 : ∀ X m, Sim Tryz.prog GL n0 w0 cs0 X (us11.am 8000) m → EndsTrue Tryz.prog n0 w0 cs0 6 m :=
  fun _ _ h => EndsTrue.of_explore tab_right ifs_right ksums_all specF_ok uz11 h
theorem ug_s10 : ∀ X m, Sim Tryz.prog GL n0 w0 cs0 X (us10.am 8000) m → EndsTrue Tryz.prog n0 w0 cs0 6 m :=
  uhop uh11 ug_s11
theorem ug_s9 : ∀ X m, Sim Tryz.prog GL n0 w0 cs0 X (us9.am 8000) m → EndsTrue Tryz.prog n0 w0 cs0 6 m :=
  uhop uh10 ug_s10
theorem ug_s8 : ∀ X m, Sim Tryz.prog GL n0 w0 cs0 X (us8.am 8000) m → EndsTrue Tryz.prog n0 w0 cs0 6 m :=
  uhop uh9 ug_s9
theorem ug_sm8 : ∀ X m, Sim Tryz.prog GL n0 w0 cs0 X (usm8.am 8000) m → EndsTrue Tryz.prog n0 w0 cs0 6 m :=
  uhop uh8 ug_s8
theorem ug_s7 : ∀ X m, Sim Tryz.prog GL n0 w0 cs0 X (us7.am 8000) m → EndsTrue Tryz.prog n0 w0 cs0 6 m :=
  uhop uhm8 ug_sm8
theorem ug_sm7 : ∀ X m, Sim Tryz.prog GL n0 w0 cs0 X (usm7.am 8000) m → EndsTrue Tryz.prog n0 w0 cs0 6 m :=
  uhop uh7 ug_s7
theorem ug_s6 : ∀ X m, Sim Tryz.prog GL n0 w0 cs0 X (us6.am 8000) m → EndsTrue Tryz.prog n0 w0 cs0 6 m :=
  uhop uhm7 ug_sm7
theorem ug_s5 : ∀ X m, Sim Tryz.prog GL n0 w0 cs0 X (us5.am 8000) m → EndsTrue Tryz.prog n0 w0 cs0 6 m :=
  uhop uh6 ug_s6
theorem ug_s4 : ∀ X m, Sim Tryz.prog GL n0 w0 cs0 X (us4.am 8000) m → EndsTrue Tryz.prog n0 w0 cs0 6 m :=
  uhop uh5 ug_s5
theorem ug_s3 : ∀ X m, Sim Tryz.prog GL n0 w0 cs0 X (us3.am 8000) m → EndsTrue Tryz.prog n0 w0 cs0 6 m :=
  uhop uh4 ug_s4
theorem ug_s2 : ∀ X m, Sim Tryz.prog GL n0 w0 cs0 X (us2.am 8000) m → EndsTrue Tryz.prog n0 w0 cs0 6 m :=
  uhop uh3 ug_s3
theorem ug_s1 : ∀ X m, Sim Tryz.prog GL n0 w0 cs0 X (us1.am 8000) m → EndsTrue Tryz.prog n0 w0 cs0 6 m :=
  uhop uh2 ug_s2
theorem ug_s0 : ∀ X m, Sim Tryz.prog GL n0 w0 cs0 X (us0.am 8000) m → EndsTrue Tryz.prog n0 w0 cs0 6 m :=
  uhop uh1 ug_s1
theorem ug_s00 : ∀ X m, Sim Tryz.prog GL n0 w0 cs0 X u00 m → EndsTrue Tryz.prog n0 w0 cs0 6 m :=
  uhop uh0 ug_s0
end
theorem loop_told : ToldE Tryz.prog errs 6 [spI, spI] (.lit true) :=
  toldE_of_sim tab_right errs_ng errs_pos u00_ok fun h => ug_s00 _ _ h
end Go.Proofs.YtfomgahphoobdaaGreatDoor
