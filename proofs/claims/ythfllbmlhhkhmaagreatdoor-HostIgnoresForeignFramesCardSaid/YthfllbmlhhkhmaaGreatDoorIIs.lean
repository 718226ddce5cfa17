/-
  errors.Is at an error and itself: true. Conditions: none.
-/
import Derived.Test.YthfllbmlhhkhmaaGreatDoorProg
import Derived.Test.YthfllbmlhhkhmaaGreatDoorIAxG
import Derived.WalkKit
import Derived.LaidEql
import Derived.Stop.Asserts
import Derived.RowKitTokens
namespace Go.Proofs.YthfllbmlhhkhmaaGreatDoor
open Go.RowKit Go.Extern.Stop Go.Stop Go.Extern Go.Proofs
theorem isTypeOf (v : Value) (w : World) : (Extern.ReflectliteType.typeOf #[.iface 805 v]).run Tryz.prog w = .ok (.iface 467 (.agg #[.pointer (some ⟨8, 805, none⟩)])) w := by kernel_rfl
theorem isCompCall (w : World) : (callFunc 709 #[.agg #[.pointer (some ⟨8, 805, none⟩)]]).run Tryz.prog w = .ok (.value (.bool true)) w := by
  have h32 := @run_callFunc_extern Tryz.prog 709 _ (Extern.ReflectliteType.method fun t => do Extern.Rtype.noPackHeld "Comparable" t; pure (.bool (← typeInfo t).comparable)) Tryz.func709 (by kernel_rfl) (by kernel_rfl) (by kernel_rfl) (by kernel_rfl)
  exact (h32 _ w).trans (by kernel_rfl)
theorem isMethodComparable (v : Value) (w : World) : (Go.method 976 467 v "Comparable").run Tryz.prog w = .ok (709, v) w := by kernel_rfl
theorem isComp : (Tryz.prog.info? 805).map (·.comparable) = some true := by kernel_rfl
theorem isSize : (Tryz.prog.info? 845).map (·.size) = some 1 := by kernel_rfl
set_option maxRecDepth 100000 in
set_option maxHeartbeats 1000000 in
theorem is_same (a : Addr) (w : World) :
    Calls Tryz.prog 122 #[.iface 805 (.pointer (some a)), .iface 805 (.pointer (some a))] w fun e w' => e = .returned (.bool true) ∧ w' = w := by
  obtain ⟨i, hi, hcmp⟩ := Option.map_eq_some_iff.1 isComp
  obtain ⟨j, hj, hjs⟩ := Option.map_eq_some_iff.1 isSize
  have h8 := @run_callFunc_extern Tryz.prog 185 _ Extern.ReflectliteType.typeOf Tryz.func185 (by kernel_rfl) (by kernel_rfl) (by kernel_rfl) (by kernel_rfl)
  have tT := isTypeOf
  have cT := isCompCall
  have mR := isMethodComparable
  have heq := run_eql_iface_ptr_same (P := Tryz.prog) w a Tryz.underlying256 Tryz.underlying805 hi hcmp hj
  go_enter Tryz.func122, Tryz.ntmps122
  go_wp2
  refine wp_loop_rounds 1 ?_
  rw [rounds_succ]
  go_wp2
  go_ret
  exact ⟨rfl, rfl⟩
set_option maxRecDepth 100000 in
theorem is_nil (b : Addr) (w : World) :
    Calls Tryz.prog 122 #[.nilIface, .iface 805 (.pointer (some b))] w fun e w' => e = .returned (.bool false) ∧ w' = w := by
  have hn := run_eql_iface_nil_left (P := Tryz.prog) w 805 (.pointer (some b)) Tryz.underlying256
  go_enter Tryz.func122, Tryz.ntmps122
  go_wp2
  go_ret
  exact ⟨rfl, rfl⟩
noncomputable def isSum : Ax.Sum := fun c H next xs =>
  match xs with
  | [.nilIface, .iface t' (.ptr _ 0)] => bif Nat.beq t' 805 then .ok ⟨.bool false, H, next, c⟩ else .fail
  | [.iface t (.ptr b 0), .iface t' (.ptr b' 0)] => bif Nat.beq t 805 && (Nat.beq t' 805 && Nat.beq b b') then .ok ⟨.bool true, H, next, c⟩ else .fail
  | _ => .fail
theorem isSum_ok {G : Ax.Env} {n0 : Nat} : Ax.SumOK Tryz.prog G n0 122 isSum := by
  refine Ax.sum_quiet fun c X H next w args vs r hr hc hargs => ?_
  unfold isSum at hr
  split at hr
  · rename_i t' b
    cases hb : Nat.beq t' 805 with
    | false => rw [hb] at hr; cases hr
    | true =>
      rw [hb] at hr
      cases hr
      rw [Nat.beq_eq] at hb
      subst hb
      obtain ⟨u, vs', e1, g1, g2⟩ := Ax.rels_cons.1 hargs
      obtain ⟨v, vs'', rfl, g3, g4⟩ := Ax.rels_cons.1 g2
      have := Ax.rels_nil.1 g4
      subst this
      simp only [Ax.AV.rel] at g1 g3
      subst g1
      obtain ⟨u2, rfl, p', hp', rfl⟩ := g3
      refine ⟨rfl, rfl, rfl, .bool false, by simp only [Ax.AV.rel], ?_⟩
      have hvs := (Array.toList_inj (ys := #[_, _])).1 e1
      subst hvs
      exact (is_nil _ w).mono fun e w' ⟨h1, h2⟩ => ⟨h1, by rw [h2]; exact Below.refl _ _⟩
  · rename_i t b t' b'
    cases hb : (Nat.beq t 805 && (Nat.beq t' 805 && Nat.beq b b')) with
    | false => rw [hb] at hr; cases hr
    | true =>
      rw [hb] at hr
      cases hr
      simp only [Bool.and_eq_true, Nat.beq_eq] at hb
      obtain ⟨rfl, rfl, rfl⟩ := hb
      obtain ⟨u, vs', e1, g1, g2⟩ := Ax.rels_cons.1 hargs
      obtain ⟨v, vs'', rfl, g3, g4⟩ := Ax.rels_cons.1 g2
      have := Ax.rels_nil.1 g4
      subst this
      simp only [Ax.AV.rel] at g1 g3
      obtain ⟨u1, rfl, p, hp, rfl⟩ := g1
      obtain ⟨u2, rfl, p', hp', rfl⟩ := g3
      have : p = p' := Option.some.inj (hp.symm.trans hp')
      subst this
      refine ⟨rfl, rfl, rfl, .bool true, by simp only [Ax.AV.rel], ?_⟩
      have hvs := (Array.toList_inj (ys := #[_, _])).1 e1
      subst hvs
      exact (is_same _ w).mono fun e w' ⟨h1, h2⟩ => ⟨h1, by rw [h2]; exact Below.refl _ _⟩
  · cases hr
end Go.Proofs.YthfllbmlhhkhmaaGreatDoor
