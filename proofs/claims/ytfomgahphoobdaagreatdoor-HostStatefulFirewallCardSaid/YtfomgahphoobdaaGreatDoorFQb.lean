/-
  The law on filters: it holds over a memory in which the packages' errors are laid. Conditions: none.
-/
import Derived.Test.YtfomgahphoobdaaGreatDoorFQ0
import Derived.Test.YtfomgahphoobdaaGreatDoorFQ2
import Derived.Test.YtfomgahphoobdaaGreatDoorFQ3
import Derived.Test.YtfomgahphoobdaaGreatDoorFQ4
import Derived.Test.YtfomgahphoobdaaGreatDoorFQ5
namespace Go.Proofs.YtfomgahphoobdaaGreatDoor
open Go Go.Ax Go.RowKit Go.Proofs

section
variable {n0 : Nat} {w0 : World} {cs0 : List Frame}
theorem qhop {s : AM} {j : List Nat} {room : Nat} {σ : Sb} {keep : List Nat} {t : StC} (hh : HopC 0 specF GF 200 17 s j σ keep t) (he : ∀ X m, Sim Tryz.prog GF n0 w0 cs0 X (t.am room) m → EndsTrue Tryz.prog n0 w0 cs0 5 m) : ∀ X m, Sim Tryz.prog GF n0 w0 cs0 X s m → EndsTrue Tryz.prog n0 w0 cs0 5 m :=
  fun _ _ h => HopC.ends tab_right ifs_right fsums_all errs_pos hh he h
theorem qpart {t : StC} {room : Nat} {op : BinOp} {a b : E} (ha : a.okB t.vs = true) (hb : b.okB t.vs = true)
    (h1 : ∀ X m, Sim Tryz.prog GF n0 w0 cs0 X ({ t with fs := ⟨op, a, b, true⟩ :: t.fs }.am room) m → EndsTrue Tryz.prog n0 w0 cs0 5 m) (h2 : ∀ X m, Sim Tryz.prog GF n0 w0 cs0 X ({ t with fs := ⟨op, a, b, false⟩ :: t.fs }.am room) m → EndsTrue Tryz.prog n0 w0 cs0 5 m) : ∀ X m, Sim Tryz.prog GF n0 w0 cs0 X (t.am room) m → EndsTrue Tryz.prog n0 w0 cs0 5 m :=
  fun X m h => (Sim.partC h op a b ha hb).elim (h1 X m) (h2 X m)
theorem qg_s2 : ∀ X m, Sim Tryz.prog GF n0 w0 cs0 X (qs2.am 8000) m → EndsTrue Tryz.prog n0 w0 cs0 5 m :=
  fun _ _ h => EndsTrue.of_explore tab_right ifs_right fsums_all specF_ok qz2 h
theorem qg_s1tt : ∀ X m, Sim Tryz.prog GF n0 w0 cs0 X (qs1tt.am 8000) m → EndsTrue Tryz.prog n0 w0 cs0 5 m :=
  qhop qh2 qg_s2
theorem qg_s3 : ∀ X m, Sim Tryz.prog GF n0 w0 cs0 X (qs3.am 8000) m → EndsTrue Tryz.prog n0 w0 cs0 5 m :=
  fun _ _ h => EndsTrue.of_explore tab_right ifs_right fsums_all specF_ok qz3 h
theorem qg_s1tf : ∀ X m, Sim Tryz.prog GF n0 w0 cs0 X (qs1tf.am 8000) m → EndsTrue Tryz.prog n0 w0 cs0 5 m :=
  qhop qh3 qg_s3
theorem qg_s1t : ∀ X m, Sim Tryz.prog GF n0 w0 cs0 X (qs1t.am 8000) m → EndsTrue Tryz.prog n0 w0 cs0 5 m :=
  qpart (t := qs1t) (op := .eql) (a := (.bin .add .i64 (.pk 2 (.var 14)) (.lit (.ofNat 1)))) (b := (.lit (.ofNat 1))) (by rfl) (by rfl) qg_s1tt qg_s1tf
theorem qg_s4 : ∀ X m, Sim Tryz.prog GF n0 w0 cs0 X (qs4.am 8000) m → EndsTrue Tryz.prog n0 w0 cs0 5 m :=
  fun _ _ h => EndsTrue.of_explore tab_right ifs_right fsums_all specF_ok qz4 h
theorem qg_s1ft : ∀ X m, Sim Tryz.prog GF n0 w0 cs0 X (qs1ft.am 8000) m → EndsTrue Tryz.prog n0 w0 cs0 5 m :=
  qhop qh4 qg_s4
theorem qg_s5 : ∀ X m, Sim Tryz.prog GF n0 w0 cs0 X (qs5.am 8000) m → EndsTrue Tryz.prog n0 w0 cs0 5 m :=
  fun _ _ h => EndsTrue.of_explore tab_right ifs_right fsums_all specF_ok qz5 h
theorem qg_s1ff : ∀ X m, Sim Tryz.prog GF n0 w0 cs0 X (qs1ff.am 8000) m → EndsTrue Tryz.prog n0 w0 cs0 5 m :=
  qhop qh5 qg_s5
theorem qg_s1f : ∀ X m, Sim Tryz.prog GF n0 w0 cs0 X (qs1f.am 8000) m → EndsTrue Tryz.prog n0 w0 cs0 5 m :=
  qpart (t := qs1f) (op := .eql) (a := (.bin .add .i64 (.pk 2 (.var 14)) (.lit (.ofNat 1)))) (b := (.lit (.ofNat 1))) (by rfl) (by rfl) qg_s1ft qg_s1ff
theorem qg_s1 : ∀ X m, Sim Tryz.prog GF n0 w0 cs0 X (qs1.am 8000) m → EndsTrue Tryz.prog n0 w0 cs0 5 m :=
  qpart (t := qs1) (op := .lss) (a := (.bin .add .i64 (.pk 2 (.var 13)) (.lit (.ofNat 1)))) (b := (.lit (.ofNat 2))) (by rfl) (by rfl) qg_s1t qg_s1f
theorem qg_s0 : ∀ X m, Sim Tryz.prog GF n0 w0 cs0 X (qs0.am 8000) m → EndsTrue Tryz.prog n0 w0 cs0 5 m :=
  qhop qh1 qg_s1
theorem qg_s00 : ∀ X m, Sim Tryz.prog GF n0 w0 cs0 X q00 m → EndsTrue Tryz.prog n0 w0 cs0 5 m :=
  qhop qh0 qg_s0
end
theorem fire_told : ToldE Tryz.prog errs 5 [spI, spI, .str 9223372036854775807] (.lit true) :=
  toldE_of_sim tab_right errs_ng errs_pos q00_ok fun h => qg_s00 _ _ h
end Go.Proofs.YtfomgahphoobdaaGreatDoor
