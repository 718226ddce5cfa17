/-
  The law on expiring packets: hop Z. Conditions: none.
-/
import Derived.Test.YtcbodlnadocbiaaGreatDoorZRs
import Derived.Test.YtcbodlnadocbiaaGreatDoorZRb
import Derived.Test.YtcbodlnadocbiaaGreatDoorZRc
import Derived.Test.YtcbodlnadocbiaaGreatDoorZRd
import Derived.Test.YtcbodlnadocbiaaGreatDoorZRe
import Derived.Test.YtcbodlnadocbiaaGreatDoorZRf
import Derived.Test.YtcbodlnadocbiaaGreatDoorZRg
import Derived.Test.YtcbodlnadocbiaaGreatDoorZRh
import Derived.Test.YtcbodlnadocbiaaGreatDoorZRi
import Derived.Test.YtcbodlnadocbiaaGreatDoorZRj
import Derived.Test.YtcbodlnadocbiaaGreatDoorZRk
import Derived.Test.YtcbodlnadocbiaaGreatDoorZRl
import Derived.Test.YtcbodlnadocbiaaGreatDoorZRm
namespace Go.Proofs.YtcbodlnadocbiaaGreatDoor
open Go Go.Ax Go.RowKit Go.Proofs

theorem hZ : exploreP specF GR 200 3 (fun c v => (Sp.lit true).chk c v) 17 3 [] (s11.am 8000) = true := by kernel_rfl
end Go.Proofs.YtcbodlnadocbiaaGreatDoor

/-! The law on expiring packets: it holds over a memory in which the packages' errors are laid. Conditions: none. -/
namespace Go.Proofs.YtcbodlnadocbiaaGreatDoor
open Go Go.Ax Go.RowKit Go.Proofs

section
variable {n0 : Nat} {w0 : World} {cs0 : List Frame}
abbrev Good (s : AM) : Prop := ∀ X m, Sim Tryz.prog GR n0 w0 cs0 X s m → EndsTrue Tryz.prog n0 w0 cs0 3 m
theorem sumsR_all : SumsOK Tryz.prog GR n0 := sumsL_ok sumsR_ok n0
theorem ng_GR : 0 < GR.T.ng := errs_pos
theorem good_hop {s : AM} {j room : Nat} {σ : Sb} {keep : List Nat} {t : St} (hh : Hop specF GR 200 17 s j σ keep t) (he : Good (n0 := n0) (w0 := w0) (cs0 := cs0) (t.am room)) : Good (n0 := n0) (w0 := w0) (cs0 := cs0) s :=
  fun _ _ h => Hop.ends tab_right ifs_right sumsR_all ng_GR hh he h
theorem good_s00 : Good (n0 := n0) (w0 := w0) (cs0 := cs0) s00 :=
  good_hop h0 <| good_hop h1 <| good_hop h2 <| good_hop h3 <| good_hop h4 <| good_hop h5 <| good_hop h6 <| good_hop h7 <| good_hop h8 <| good_hop h9 <| good_hop h10 <| good_hop h11 fun _ _ h => EndsTrue.of_explore tab_right ifs_right sumsR_all specF_ok hZ h
end
theorem law_told : ToldE Tryz.prog errs 3 [spI, spI] (.lit true) :=
  toldE_of_sim tab_right errs_ng errs_pos s00_ok fun h => good_s00 _ _ h
end Go.Proofs.YtcbodlnadocbiaaGreatDoor
