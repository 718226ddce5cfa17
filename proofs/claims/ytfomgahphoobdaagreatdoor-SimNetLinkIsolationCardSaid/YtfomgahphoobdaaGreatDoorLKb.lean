/-
  The law on isolated links: it holds over a memory in which the packages' errors are laid. Conditions: none.
-/
import Derived.Test.YtfomgahphoobdaaGreatDoorLK0
import Derived.Test.YtfomgahphoobdaaGreatDoorLK2
import Derived.Test.YtfomgahphoobdaaGreatDoorLK4
import Derived.Test.YtfomgahphoobdaaGreatDoorLK6
import Derived.Test.YtfomgahphoobdaaGreatDoorLK8
import Derived.Test.YtfomgahphoobdaaGreatDoorLKZ
namespace Go.Proofs.YtfomgahphoobdaaGreatDoor
open Go Go.Ax Go.RowKit Go.Proofs

section
variable {n0 : Nat} {w0 : World} {cs0 : List Frame}
theorem khop {s : AM} {j : List Nat} {room : Nat} {σ : Sb} {keep : List Nat} {t : StC} (hh : HopC 0 specF GL 200 17 s j σ keep t) (he : ∀ X m, Sim Tryz.prog GL n0 w0 cs0 X (t.am room) m → EndsTrue Tryz.prog n0 w0 cs0 7 m) : ∀ X m, Sim Tryz.prog GL n0 w0 cs0 X s m → EndsTrue Tryz.prog n0 w0 cs0 7 m :=
  fun _ _ h => HopC.ends tab_right ifs_right ksums_all errs_pos hh he h
theorem kpart {t : StC} {room : Nat} {op : BinOp} {a b : E} (ha : a.okB t.vs = true) (hb : b.okB t.vs = true)
    (h1 : ∀ X m, Sim Tryz.prog GL n0 w0 cs0 X ({ t with fs := ⟨op, a, b, true⟩ :: t.fs }.am room) m → EndsTrue Tryz.prog n0 w0 cs0 7 m) (h2 : ∀ X m, Sim Tryz.prog GL n0 w0 cs0 X ({ t with fs := ⟨op, a, b, false⟩ :: t.fs }.am room) m → EndsTrue Tryz.prog n0 w0 cs0 7 m) : ∀ X m, Sim Tryz.prog GL n0 w0 cs0 X (t.am room) m → EndsTrue Tryz.prog n0 w0 cs0 7 m :=
  fun X m h => (Sim.partC h op a b ha hb).elim (h1 X m) (h2 X m)
theorem kgood : ∀ X m, Sim Tryz.prog GL n0 w0 cs0 X k00 m → EndsTrue Tryz.prog n0 w0 cs0 7 m :=
  khop kh0 <| khop kh1 <| khop kh2 <| khop kh3 <| khop kh4 <| khop kh5 <| khop kh6 <| khop kh7 <| khop kh8 <| khop kh9 <| kpart (t := ks9) (op := .lss) (a := (.pk 20 (.var 18))) (b := (.lit (.ofNat 10))) (by rfl) (by rfl) (fun _ _ h => EndsTrue.of_explore tab_right ifs_right ksums_all specF_ok kx9 h) <| khop kh10 <| kpart (t := ks10) (op := .lss) (a := (.pk 20 (.var 18))) (b := (.lit (.ofNat 15))) (by rfl) (by rfl) (fun _ _ h => EndsTrue.of_explore tab_right ifs_right ksums_all specF_ok kx10 h) fun _ _ h => EndsTrue.of_explore tab_right ifs_right ksums_all specF_ok khZ h
end
theorem link_told : ToldE Tryz.prog errs 7 [rawS, spI] (.lit true) :=
  toldE_of_sim tab_right errs_ng errs_pos k00_ok fun h => kgood _ _ h
end Go.Proofs.YtfomgahphoobdaaGreatDoor
