/-
  Two streams at once: the law holds over a memory in which the packages' errors are laid. Conditions: none.
-/
import Derived.Test.YtfjdakmmffedkaaGreatDoorDV0
import Derived.Test.YtfjdakmmffedkaaGreatDoorDV1
import Derived.Test.YtfjdakmmffedkaaGreatDoorDV2
import Derived.Test.YtfjdakmmffedkaaGreatDoorDV3
import Derived.Test.YtfjdakmmffedkaaGreatDoorDV4
import Derived.Test.YtfjdakmmffedkaaGreatDoorDV5
import Derived.Test.YtfjdakmmffedkaaGreatDoorDV6
import Derived.Test.YtfjdakmmffedkaaGreatDoorDV7
namespace Go.Proofs.YtfjdakmmffedkaaGreatDoor
open Go Go.Ax Go.RowKit Go.Proofs
section
variable {n0 : Nat} {w0 : World} {cs0 : List Frame}
def CsG (n0 : Nat) (w0 : World) (cs0 : List Frame) (s : AM) : Prop := ∀ X m, Sim Tryz.prog GF n0 w0 cs0 X s m → EndsTrue Tryz.prog n0 w0 cs0 3 m
theorem cshop {L : Nat} {s : AM} {j : List Nat} {σ : Sb} {keep : List Nat} {t : StC} (hh : HopC L specF GF 200 17 s j σ keep t) (he : CsG n0 w0 cs0 (t.am 8000)) : CsG n0 w0 cs0 s :=
  fun _ _ h => HopC.ends tab_right ifs_right fsums_all errs_pos hh he h
theorem csfork {d N : Nat} {s : AM} {j : List Nat} {σ : Sb} {keep : List Nat} {t : StC} (hh : HopF 0 specF GF 200 17 d N s j σ keep t) (he : CsG n0 w0 cs0 (t.am 8000)) : CsG n0 w0 cs0 s :=
  fun _ _ h => HopF.ends tab_right ifs_right fsums_all errs_pos hh he h
theorem csend {s : AM} {d : Nat} (hz : exploreP specF GF 200 3 (fun c v => (Sp.lit true).chk c v) 17 d [] s = true) : CsG n0 w0 cs0 s :=
  fun _ _ h => EndsTrue.of_explore tab_right ifs_right fsums_all specF_ok hz h
theorem cspart {t : StC} {l : List Fact} {op : BinOp} {a b : E} (ha : a.okB t.vs = true) (hb : b.okB t.vs = true) (h1 : CsG n0 w0 cs0 (wf t (⟨op, a, b, true⟩ :: l))) (h2 : CsG n0 w0 cs0 (wf t (⟨op, a, b, false⟩ :: l))) :
    CsG n0 w0 cs0 (wf t l) :=
  fun X m h => (Sim.partC (t := { t with fs := l }) h op a b ha hb).elim (h1 X m) (h2 X m)
theorem csZ00 : CsG n0 w0 cs0 (wf sD0 (⟨.lss, .len 338, .lit (.ofNat 460), true⟩ :: sD0.fs)) := cshop hC000 <| cshop hC001 <| cshop hC002 <| cshop hC003 <| cshop hZ00 <| (csend z00)
theorem csZ01 : CsG n0 w0 cs0 (wf sD0 (⟨.lss, .len 338, .lit (.ofNat 461), true⟩ :: ⟨.lss, .len 338, .lit (.ofNat 460), false⟩ :: sD0.fs)) := cshop hC010 <| cshop hC011 <| cshop hC012 <| cshop hC013 <| cshop hZ01 <| (csend z01)
theorem csZ02 : CsG n0 w0 cs0 (wf sD0 (⟨.lss, .len 338, .lit (.ofNat 461), false⟩ :: ⟨.lss, .len 338, .lit (.ofNat 460), false⟩ :: sD0.fs)) := cshop hC020 <| cshop hC021 <| cshop hC022 <| cshop hC023 <| cshop hZ02 <| (show CsG n0 w0 cs0 (wf sZ02 sC020.fs) from cspart (t := sZ02) (op := .eql) (a := .len 338) (b := .lit (.ofNat 500)) (by rfl) (by rfl) (csend z02t) (csend z02f))
theorem csZ10 : CsG n0 w0 cs0 (wf sD1 (⟨.lss, .len 338, .lit (.ofNat 460), true⟩ :: sD1.fs)) := cshop hC100 <| cshop hC101 <| cshop hC102 <| cshop hC103 <| cshop hZ10 <| (csend z10)
theorem csZ11 : CsG n0 w0 cs0 (wf sD1 (⟨.lss, .len 338, .lit (.ofNat 461), true⟩ :: ⟨.lss, .len 338, .lit (.ofNat 460), false⟩ :: sD1.fs)) := cshop hC110 <| cshop hC111 <| cshop hC112 <| cshop hC113 <| cshop hZ11 <| (csend z11)
theorem csZ12 : CsG n0 w0 cs0 (wf sD1 (⟨.lss, .len 338, .lit (.ofNat 461), false⟩ :: ⟨.lss, .len 338, .lit (.ofNat 460), false⟩ :: sD1.fs)) := cshop hC120 <| cshop hC121 <| cshop hC122 <| cshop hC123 <| cshop hZ12 <| (show CsG n0 w0 cs0 (wf sZ12 sC120.fs) from cspart (t := sZ12) (op := .eql) (a := .len 338) (b := .lit (.ofNat 500)) (by rfl) (by rfl) (csend z12t) (csend z12f))
theorem csZ20 : CsG n0 w0 cs0 (wf sD2 (⟨.lss, .len 338, .lit (.ofNat 460), true⟩ :: sD2.fs)) := cshop hC200 <| cshop hC201 <| cshop hC202 <| cshop hC203 <| cshop hZ20 <| (csend z20)
theorem csZ21 : CsG n0 w0 cs0 (wf sD2 (⟨.lss, .len 338, .lit (.ofNat 461), true⟩ :: ⟨.lss, .len 338, .lit (.ofNat 460), false⟩ :: sD2.fs)) := cshop hC210 <| cshop hC211 <| cshop hC212 <| cshop hC213 <| cshop hZ21 <| (csend z21)
theorem csZ22 : CsG n0 w0 cs0 (wf sD2 (⟨.lss, .len 338, .lit (.ofNat 461), false⟩ :: ⟨.lss, .len 338, .lit (.ofNat 460), false⟩ :: sD2.fs)) := cshop hC220 <| cshop hC221 <| cshop hC222 <| cshop hC223 <| cshop hC224 <| cshop hZ22 <| (show CsG n0 w0 cs0 (wf sZ22 sC220.fs) from cspart (t := sZ22) (op := .eql) (a := .len 338) (b := .lit (.ofNat 500)) (by rfl) (by rfl) (csend z22t) (csend z22f))
theorem csD0 : CsG n0 w0 cs0 (wf sB (⟨.lss, .len 337, .lit (.ofNat 460), true⟩ :: sP0.fs)) := cshop hD0 <| show CsG n0 w0 cs0 (wf sD0 sD0.fs) from cspart (t := sD0) (op := .lss) (a := .len 338) (b := .lit (.ofNat 460)) (by rfl) (by rfl) (csZ00) (cspart (t := sD0) (op := .lss) (a := .len 338) (b := .lit (.ofNat 461)) (by rfl) (by rfl) (csZ01) (csZ02))
theorem csD1 : CsG n0 w0 cs0 (wf sB (⟨.lss, .len 337, .lit (.ofNat 461), true⟩ :: ⟨.lss, .len 337, .lit (.ofNat 460), false⟩ :: sP0.fs)) := cshop hD1 <| show CsG n0 w0 cs0 (wf sD1 sD1.fs) from cspart (t := sD1) (op := .lss) (a := .len 338) (b := .lit (.ofNat 460)) (by rfl) (by rfl) (csZ10) (cspart (t := sD1) (op := .lss) (a := .len 338) (b := .lit (.ofNat 461)) (by rfl) (by rfl) (csZ11) (csZ12))
theorem csD2 : CsG n0 w0 cs0 (wf sB (⟨.lss, .len 337, .lit (.ofNat 461), false⟩ :: ⟨.lss, .len 337, .lit (.ofNat 460), false⟩ :: sP0.fs)) := cshop hD2 <| show CsG n0 w0 cs0 (wf sD2 sD2.fs) from cspart (t := sD2) (op := .lss) (a := .len 338) (b := .lit (.ofNat 460)) (by rfl) (by rfl) (csZ20) (cspart (t := sD2) (op := .lss) (a := .len 338) (b := .lit (.ofNat 461)) (by rfl) (by rfl) (csZ21) (csZ22))
theorem csB : CsG n0 w0 cs0 (sB.am 8000) :=
  show CsG n0 w0 cs0 (wf sB sP0.fs) from
  cspart (t := sB) (op := .lss) (a := .len 337) (b := .lit (.ofNat 460)) (by rfl) (by rfl) (csD0) (cspart (t := sB) (op := .lss) (a := .len 337) (b := .lit (.ofNat 461)) (by rfl) (by rfl) (csD1) (csD2))
theorem csgood : CsG n0 w0 cs0 cs00 := cshop hP0 <| cshop hP <| csfork hF <| cshop hF0 <| cshop hF1 <| cshop hF2 <| cshop hF3 <| cshop hF4 <| cshop hF5 <| cshop hB <| csB
end
theorem streams_told : ToldE Tryz.prog errs 3 csS (.lit true) :=
  toldE_of_sim tab_right errs_ng errs_pos cs00_ok fun h => csgood _ _ h
end Go.Proofs.YtfjdakmmffedkaaGreatDoor
