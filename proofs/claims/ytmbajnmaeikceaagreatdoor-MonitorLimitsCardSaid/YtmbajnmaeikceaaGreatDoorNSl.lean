/-
 script.action on the text 'sleep': its panic is recovered, a zero action and no. Conditions: none.
-/
import Derived.Test.YtmbajnmaeikceaaGreatDoorProg
import Derived.Test.YtmbajnmaeikceaaGreatDoorNTabsOK
import Derived.Test.YtmbajnmaeikceaaGreatDoorNAxG
import Derived.WalkKit
import Derived.WalkSpells
import Derived.WalkMore
import Derived.WalkLawsBesides
import Derived.Deep.QuietTactic
import Derived.BigQuiet
import Derived.Lib.Hide
import Derived.StillTail
import Derived.Laws.BitsLemmas
import Derived.IntWalk
import Derived.Carry
import Derived.Recover
namespace Go.Proofs.YtmbajnmaeikceaaGreatDoor
open Go Go.Ax Go.RowKit Go.Proofs
abbrev badP : List PanicEntry := [{ v := .iface 180 (.agg #[]), recovered := false }]
def Qpl : List Value := [.int .i64 0, .int .i64 0, .int .i64 0, .int .i64 0, .int .i64 0, .int .i64 0, .int .i64 0, .string ⟨#[]⟩, .int .i64 0, .int .i64 0, .int .i64 0, .slice none 0 0, .string ⟨#[]⟩]
structure Kp (S : Nat -> Prop) (w w' : World) : Prop where
 os : w'.os = w.os
 tape : w'.tape = w.tape
 output : w'.output = w.output
 size : w.heap.size <= w'.heap.size
 block : ∀ k, k < w.heap.size -> ¬ S k -> w'.heap[k]? = w.heap[k]?
theorem Kp.refl (S : Nat -> Prop) (w : World) : Kp S w w := ⟨rfl, rfl, rfl, Nat.le_refl _, λ _ _ _ => rfl⟩
theorem Kp.trans {S : Nat -> Prop} {a b c : World} (h : Kp S a b) (k : Kp S b c) : Kp S a c :=
 ⟨k.os.trans h.os, k.tape.trans h.tape, k.output.trans h.output, Nat.le_trans h.size k.size, λ i hi hs => (k.block i (Nat.lt_of_lt_of_le hi h.size) hs).trans (h.block i hi hs)⟩
theorem Kp.mono {S T : Nat -> Prop} {a b : World} (h : Kp S a b) (hs : ∀ k, k < a.heap.size -> S k -> T k) : Kp T a b := ⟨h.os, h.tape, h.output, h.size, λ k hk ht => h.block k hk λ hS => ht (hs k hk hS)⟩
theorem Kp.drew {S : Nat -> Prop} {a w : World} (h : Kp S a w) : Kp S a w.drew := ⟨h.os, h.tape, h.output, h.size, h.block⟩
theorem Kp.of_below {S : Nat -> Prop} {a b : World} (h : Below a.heap.size a b) : Kp S a b := ⟨h.os, h.tape, h.output, h.size, λ k hk _ => h.block k hk⟩
theorem Kp.on {S : Nat -> Prop} {a b c : World} (h : Kp S a b) (k : Below b.heap.size b c) : Kp S a c := h.trans (.of_below k)
theorem Kp.alloc {S : Nat -> Prop} {a w : World} (h : Kp S a w) (o : Obj) : Kp S a (w.alloc o) := h.on ((Below.refl _ _).alloc (Nat.le_refl _) o)
theorem Kp.setCell {S : Nat -> Prop} {a w : World} (h : Kp S a w) {p : Addr} (hp : S p.block \/ a.heap.size <= p.block) (u : Value) : Kp S a (w.setCell p u) := by
 refine ⟨h.os, h.tape, h.output, by simpa [World.setCell] using h.size, λ k hk hs => (Below.heap_setCell _ _ _ _ ?_).trans (h.block k hk hs)⟩
 rintro rfl
 rcases hp with hp | hp
 . exact hs hp
 . omega
theorem Kp.below {S : Nat -> Prop} {w w' : World} {B : Nat} (h : Kp S w w') (hB : B <= w.heap.size) (hs : ∀ k, k < B -> ¬ S k) : Below B w w' :=
 ⟨h.os, h.tape, h.output, h.size, λ k hk => h.block k (Nat.lt_of_lt_of_le hk hB) (hs k hk)⟩
theorem Kp.cell {S : Nat -> Prop} {w w' : World} (h : Kp S w w') {b o : Nat} (hb : b < w.heap.size) (hs : ¬ S b) : w'.cell? ⟨b, o, none⟩ = w.cell? ⟨b, o, none⟩ := World.cell?_of_block (w := w) (h.block b hb hs)
theorem Kp.frozen {S : Nat -> Prop} {w w' : World} (h : Kp S w w') {b o : Nat} (hb : b < w.heap.size) (hs : ¬ S b) : w'.frozen? ⟨b, o, none⟩ = w.frozen? ⟨b, o, none⟩ := World.frozen?_of_block (w := w) (h.block b hb hs)
theorem Kp.up {S : Nat -> Prop} {a w w' : World} {B : Nat} (h : Below B a w) (k : Kp S w w') (hB : B <= w.heap.size) (hs : ∀ k, k < B -> ¬ S k) : Below B a w' := h.trans (k.below hB hs)
theorem Kp.set (w : World) (b o : Nat) (v : Value) : Kp (. = b) w (w.setCell ⟨b, o, none⟩ v) := Kp.setCell (S := (. = b)) (Kp.refl _ _) (p := ⟨b, o, none⟩) (Or.inl (show b = b from rfl)) v
def Qow (b : Nat) (cs : List Value) (w : World) : Prop := b < w.heap.size /\ ∀ (j : Nat) u, cs[j]? = some u -> w.cell? ⟨b, j, none⟩ = some u /\ w.frozen? ⟨b, j, none⟩ = false
theorem Qow.kp {b : Nat} {cs : List Value} {w w' : World} {S : Nat -> Prop} (h : Qow b cs w) (k : Kp S w w') (hs : ¬ S b) : Qow b cs w' :=
 ⟨Nat.lt_of_lt_of_le h.1 k.size, λ j u hu => ⟨by rw [k.cell h.1 hs]; exact (h.2 j u hu).1, by rw [k.frozen h.1 hs]; exact (h.2 j u hu).2⟩⟩
theorem Qow.below {b : Nat} {cs : List Value} {w w' : World} (h : Qow b cs w) (k : Below w.heap.size w w') : Qow b cs w' := h.kp (S := λ _ => False) (.of_below k) id
theorem Qow.set {b : Nat} {cs : List Value} {w : World} (h : Qow b cs w) (j : Nat) (hj : j < cs.length) (v : Value) : Qow b (cs.set j v) (w.setCell ⟨b, j, none⟩ v) := by
 refine ⟨by simpa [World.setCell] using h.1, λ i u hu => ⟨?_, ?_⟩⟩
 . rw [List.getElem?_set] at hu
   by_cases hij : j = i
   . subst hij
     simp [hj] at hu
     subst hu
     exact World.cell?_setCell_same' _ _ _ (by rw [(h.2 j _ (List.getElem?_eq_getElem hj)).1]; rfl)
   . rw [if_neg hij] at hu
     rw [World.cell?_setCell_other _ _ _ _ (by intro e; cases e; exact hij rfl)]
     exact (h.2 i u hu).1
 . rw [World.frozen?_setCell]
   rw [List.getElem?_set] at hu
   by_cases hij : j = i
   . subst hij; exact (h.2 j _ (List.getElem?_eq_getElem hj)).2
   . rw [if_neg hij] at hu; exact (h.2 i u hu).2
theorem Qow.new (w : World) (cs : Array Value) (t : TypeId) : Qow w.heap.size cs.toList (w.alloc (.cells cs t)) :=
 ⟨by simp, λ j u hu => ⟨by rw [World.cell?_alloc_at _ _ _ _ rfl]; simpa using hu, by simp⟩⟩
def Qsc (B : Nat) (w : World) : World :=
 (((((((((((((w.setCell ⟨B, 0, none⟩ (.int .i64 0)).setCell ⟨B, 1, none⟩ (.int .i64 0)).setCell ⟨B, 2, none⟩ (.int .i64 0)).setCell ⟨B, 3, none⟩ (.int .i64 0)).setCell ⟨B, 4, none⟩ (.int .i64 0)).setCell ⟨B, 5, none⟩ (.int .i64 0)).setCell ⟨B, 6, none⟩ (.int .i64 0)).setCell ⟨B, 7, none⟩ (.string ⟨#[]⟩)).setCell ⟨B, 8, none⟩ (.int .i64 0)).setCell ⟨B, 9, none⟩ (.int .i64 0)).setCell ⟨B, 10, none⟩ (.int .i64 0)).setCell ⟨B, 11, none⟩ (.slice none 0 0)).setCell ⟨B, 12, none⟩ (.string ⟨#[]⟩)).setCell ⟨B + 1, 0, none⟩ (.bool false)
set_option maxHeartbeats 1000000 in
theorem Qph (B : Nat) (cs : List Value) (b : Bool) (u : TypeId) (pv : Value) (older : List PanicEntry) (w : World) (hl : cs.length = 13) (hc : Qow B cs w) (hb : Qow (B + 1) [.bool b] w) :
 CallsD Tryz.prog 64 #[.pointer (some ⟨B, 0, none⟩), .pointer (some ⟨B + 1, 0, none⟩)] (.panicking ({ v := .iface u pv, recovered := false } :: older)) w λ e u' w' =>
  e = .returned (.tuple #[]) /\ u' = .panicking ({ v := .iface u pv, recovered := true } :: older) /\ w' = Qsc B w := by
 obtain ⟨v0, v1, v2, v3, v4, v5, v6, v7, v8, v9, v10, v11, v12, rfl⟩ : ∃ v0 v1 v2 v3 v4 v5 v6 v7 v8 v9 v10 v11 v12, cs = [v0, v1, v2, v3, v4, v5, v6, v7, v8, v9, v10, v11, v12] := by
  match cs, hl with
  | [v0, v1, v2, v3, v4, v5, v6, v7, v8, v9, v10, v11, v12], _ => exact ⟨_, _, _, _, _, _, _, _, _, _, _, _, _, rfl⟩
 have ⟨e0, f0⟩ := hc.2 0 _ rfl
 have ⟨e1, f1⟩ := hc.2 1 _ rfl
 have ⟨e2, f2⟩ := hc.2 2 _ rfl
 have ⟨e3, f3⟩ := hc.2 3 _ rfl
 have ⟨e4, f4⟩ := hc.2 4 _ rfl
 have ⟨e5, f5⟩ := hc.2 5 _ rfl
 have ⟨e6, f6⟩ := hc.2 6 _ rfl
 have ⟨e7, f7⟩ := hc.2 7 _ rfl
 have ⟨e8, f8⟩ := hc.2 8 _ rfl
 have ⟨e9, f9⟩ := hc.2 9 _ rfl
 have ⟨e10, f10⟩ := hc.2 10 _ rfl
 have ⟨e11, f11⟩ := hc.2 11 _ rfl
 have ⟨e12, f12⟩ := hc.2 12 _ rfl
 have ⟨g0, k0⟩ := hb.2 0 _ rfl
 refine callsD_of_wpS Tryz.func64 rfl λ c₀ cs hu => ?_
 apply wpS_seq
 apply wpS_region
 simp [wpOpsS, go_sem, recoverD, hu, Tryz.ntmps64, Exit.thenS]
 refine wpS_cond (t := true) (by simp [Act.eval, Array.replicate]) ?_
 simp only [if_true]
 refine wpS_of_wp ?_
 show Code.wp _ _ _ { tmps := #[.pointer (some ⟨B, 0, none⟩), .pointer (some ⟨B + 1, 0, none⟩), .iface u pv, .bool true, undef], defers := [] } _
 go_wp2
 simp [bodyPostS, results, Tryz.results64, Qsc]
theorem Qow.Qsc {B : Nat} {cs : List Value} {b : Bool} {w : World} (hl : cs.length = 13) (hc : Qow B cs w) (hb : Qow (B + 1) [.bool b] w) : Qow B (Qpl) (Qsc B w) /\ Qow (B + 1) [.bool false] (Qsc B w) := by
 obtain ⟨v0, v1, v2, v3, v4, v5, v6, v7, v8, v9, v10, v11, v12, rfl⟩ : ∃ v0 v1 v2 v3 v4 v5 v6 v7 v8 v9 v10 v11 v12, cs = [v0, v1, v2, v3, v4, v5, v6, v7, v8, v9, v10, v11, v12] := by
  match cs, hl with
  | [v0, v1, v2, v3, v4, v5, v6, v7, v8, v9, v10, v11, v12], _ => exact ⟨_, _, _, _, _, _, _, _, _, _, _, _, _, rfl⟩
 have h13 := ((((((((((((hc.set 0 (by simp) (.int .i64 0)).set 1 (by simp) (.int .i64 0)).set 2 (by simp) (.int .i64 0)).set 3 (by simp) (.int .i64 0)).set 4 (by simp) (.int .i64 0)).set 5 (by simp) (.int .i64 0)).set 6 (by simp) (.int .i64 0)).set 7 (by simp) (.string ⟨#[]⟩)).set 8 (by simp) (.int .i64 0)).set 9 (by simp) (.int .i64 0)).set 10 (by simp) (.int .i64 0)).set 11 (by simp) (.slice none 0 0)).set 12 (by simp) (.string ⟨#[]⟩)
 have k13 : Kp (. = B) w _ := Kp.setCell (S := (. = B)) (Kp.setCell (S := (. = B)) (Kp.setCell (S := (. = B)) (Kp.setCell (S := (. = B)) (Kp.setCell (S := (. = B)) (Kp.setCell (S := (. = B)) (Kp.setCell (S := (. = B)) (Kp.setCell (S := (. = B)) (Kp.setCell (S := (. = B)) (Kp.setCell (S := (. = B)) (Kp.setCell (S := (. = B)) (Kp.setCell (S := (. = B)) (Kp.setCell (S := (. = B)) (Kp.refl (. = B) w) (p := ⟨B, 0, none⟩) (Or.inl (show B = B from rfl)) (.int .i64 0)) (p := ⟨B, 1, none⟩) (Or.inl (show B = B from rfl)) (.int .i64 0)) (p := ⟨B, 2, none⟩) (Or.inl (show B = B from rfl)) (.int .i64 0)) (p := ⟨B, 3, none⟩) (Or.inl (show B = B from rfl)) (.int .i64 0)) (p := ⟨B, 4, none⟩) (Or.inl (show B = B from rfl)) (.int .i64 0)) (p := ⟨B, 5, none⟩) (Or.inl (show B = B from rfl)) (.int .i64 0)) (p := ⟨B, 6, none⟩) (Or.inl (show B = B from rfl)) (.int .i64 0)) (p := ⟨B, 7, none⟩) (Or.inl (show B = B from rfl)) (.string ⟨#[]⟩)) (p := ⟨B, 8, none⟩) (Or.inl (show B = B from rfl)) (.int .i64 0)) (p := ⟨B, 9, none⟩) (Or.inl (show B = B from rfl)) (.int .i64 0)) (p := ⟨B, 10, none⟩) (Or.inl (show B = B from rfl)) (.int .i64 0)) (p := ⟨B, 11, none⟩) (Or.inl (show B = B from rfl)) (.slice none 0 0)) (p := ⟨B, 12, none⟩) (Or.inl (show B = B from rfl)) (.string ⟨#[]⟩)
 refine ⟨h13.kp (Kp.set _ (B + 1) 0 (.bool false)) (by show ¬ B = B + 1; omega), ?_⟩
 exact (hb.kp k13 (by show ¬ B + 1 = B; omega)).set 0 (by simp) (.bool false)
theorem Qry {B : Nat} {w w' : World} (h : Below B w w') : Below B w (Qsc B w') := by
 unfold Qsc
 iterate 14 refine Below.setCell ?_ (by simp) _
 exact h
theorem Qu7 {w W : World} {tmps : Array Value} {cs : List Value} {b : Bool} (h2 : tmps[2]? = some (.pointer (some ⟨w.heap.size, 0, none⟩))) (h3 : tmps[3]? = some (.pointer (some ⟨w.heap.size + 1, 0, none⟩)))
 (hl : cs.length = 13) (hc : Qow w.heap.size cs W) (hb : Qow (w.heap.size + 1) [.bool b] W) (hB : Below w.heap.size w W) :
 bodyPostD Tryz.prog Tryz.f45 (λ e w' => e = .returned (.tuple #[.agg Qpl.toArray, .bool false]) /\ Below w.heap.size w w') (.panic badP) { tmps := tmps, defers := [{ target := .fn (.func 64) #[.pointer (some ⟨w.heap.size, 0, none⟩), .pointer (some ⟨w.heap.size + 1, 0, none⟩)], args := #[] }] } W := by
 refine leaves_cons (f := 64) (args := #[.pointer (some ⟨w.heap.size, 0, none⟩), .pointer (some ⟨w.heap.size + 1, 0, none⟩)]) (by simp) (by simp [go_sem]) ?_
 refine (Qph w.heap.size cs b _ _ [] _ hl hc hb).mono ?_
 rintro e u' w'' ⟨rfl, rfl, rfl⟩
 obtain ⟨q1, q2⟩ := Qow.Qsc hl hc hb
 have hBw := Qry hB
 generalize Qsc w.heap.size W = V at q1 q2 hBw
 have e0 := (q1.2 0 _ rfl).1
 have e1 := (q1.2 1 _ rfl).1
 have e2 := (q1.2 2 _ rfl).1
 have e3 := (q1.2 3 _ rfl).1
 have e4 := (q1.2 4 _ rfl).1
 have e5 := (q1.2 5 _ rfl).1
 have e6 := (q1.2 6 _ rfl).1
 have e7 := (q1.2 7 _ rfl).1
 have e8 := (q1.2 8 _ rfl).1
 have e9 := (q1.2 9 _ rfl).1
 have e10 := (q1.2 10 _ rfl).1
 have e11 := (q1.2 11 _ rfl).1
 have e12 := (q1.2 12 _ rfl).1
 have e13 := (q2.2 0 _ rfl).1
 simp [Leaves, settle, results, Tryz.results45, go_sem, h2, h3, e0, e1, e2, e3, e4, e5, e6, e7, e8, e9, e10, e11, e12, e13]
 exact ⟨rfl, hBw⟩
theorem Qpq (w : World) : Qow w.heap.size (Qpl) ((w.alloc (.cells #[.int .i64 0, .int .i64 0, .int .i64 0, .int .i64 0, .int .i64 0, .int .i64 0, .int .i64 0, .string ⟨#[]⟩, .int .i64 0, .int .i64 0, .int .i64 0, .slice none 0 0, .string ⟨#[]⟩] 36)).alloc (.cells #[.bool false] 4)) /\
 Qow (w.heap.size + 1) [.bool false] ((w.alloc (.cells #[.int .i64 0, .int .i64 0, .int .i64 0, .int .i64 0, .int .i64 0, .int .i64 0, .int .i64 0, .string ⟨#[]⟩, .int .i64 0, .int .i64 0, .int .i64 0, .slice none 0 0, .string ⟨#[]⟩] 36)).alloc (.cells #[.bool false] 4)) := by
 refine ⟨(Qow.new w #[.int .i64 0, .int .i64 0, .int .i64 0, .int .i64 0, .int .i64 0, .int .i64 0, .int .i64 0, .string ⟨#[]⟩, .int .i64 0, .int .i64 0, .int .i64 0, .slice none 0 0, .string ⟨#[]⟩] 36).below ((Below.refl _ _).alloc (Nat.le_refl _) _), ?_⟩
 have := Qow.new (w.alloc (.cells #[.int .i64 0, .int .i64 0, .int .i64 0, .int .i64 0, .int .i64 0, .int .i64 0, .int .i64 0, .string ⟨#[]⟩, .int .i64 0, .int .i64 0, .int .i64 0, .slice none 0 0, .string ⟨#[]⟩] 36)) #[.bool false] 4
 rw [World.size_alloc] at this
 exact this
noncomputable def Z4b : List (Nat × Sum) := [(228, Qfl)]
theorem Qsd : Qcy Tryz.prog tab Z4b :=
 .ext (λ _ _ _ => Qfk λ args w => run_callFunc_extern Tryz.func228 (by kernel_rfl) (by kernel_rfl) (by kernel_rfl) (e := Extern.BytealgCount.count) (by kernel_rfl) args w) .nil
noncomputable def GS : Env := ⟨tab, ifs, Qgn Z4b⟩
abbrev cL (n : Nat) : E := .lit (.ofNat n)
noncomputable def Qu8 (v : AV) (M : Tr Q7) : Bool :=
 match v with
 | .slice b 0 1 1 1 true => match M.get b with
  | some (.cells [.str [a, b, d, e, f]] _ _ _ false) => isC 115 a && (isC 108 b && (isC 101 d && (isC 101 e && isC 112 f)))
  | _ => false
 | _ => false
noncomputable def runM (f : FuncId) (xs : List AV) (q : AV -> Tr Q7 -> Bool) : Bool :=
 match Go.Ax.start GS f xs (.sk 200) 100 ⟨[], []⟩ with
 | some s => endM GS f q 13 s
 | none => false
theorem Qs6 : runM 65 [.str [cL 115, cL 108, cL 101, cL 101, cL 112], .str [cL 32]] Qu8 = true := by kernel_rfl
noncomputable def noQ (v : AV) (_ : Tr Q7) : Bool :=
 match v with
 | .bool b => !b
 | _ => false
abbrev z0 : AV := .int .i64 (cL 0)
theorem Qs5 : runM 47 [.agg [z0, z0, z0, z0, z0, z0, z0, .str [], z0, z0, z0, .nilslice, .str []]] noQ = true := by kernel_rfl
theorem Qpi {f : FuncId} {xs : List AV} {q : AV -> Tr Q7 -> Bool} {vs : Array Value} (he : runM f xs q = true) (hargs : ∀ X : Ext, AV.QI X xs vs.toList) (w : World) (hw : tab.ng <= w.heap.size) :
 Calls Tryz.prog f vs w (λ e w' => ∃ Y v u M, q v M = true /\ v.rel Y u /\ e = .returned u /\ Qn Y w.heap.size M w' /\ Below w.heap.size w w') := by
 unfold runM at he
 split at he
 . rename_i s hs
   refine (callsM (X := Ext.base GS.T.ng) Qoq Qos (Qgm Qsd _) hs he (hargs _) (Qoe hw) (Nat.le_refl _) ⟨λ i hi => (by cases hi), λ f hf => (by cases hf)⟩ (λ g hg => ⟨0, if_pos (show g < GS.T.ng from hg)⟩) (λ b hb => ?_)).mono ?_
   . have : ¬ b < GS.T.ng := by have : GS.T.ng <= 100 := by decide
                                omega
     simp [Ext.base, this]
   . rintro e w' ⟨Y, v, u, M, -, h1, h2, h3, h4, h5⟩
     exact ⟨Y, v, u, M, h1, h2, h3, h4, h5⟩
 . cases he
theorem Qpr (w : World) (hw : tab.ng <= w.heap.size) :
 Calls Tryz.prog 65 #[.string Qiy, .string ⟨#[32]⟩] w λ e w' => ∃ wb o, e = .returned (.slice (some ⟨wb, o, none⟩) 1 1) /\ w.heap.size <= wb /\ wb < w'.heap.size /\ w'.cell? ⟨wb, o, none⟩ = some (.string Qiy) /\ Below w.heap.size w w' := by
 refine (Qpi (vs := #[.string Qiy, .string ⟨#[32]⟩]) Qs6 (λ X => ?_) w hw).mono ?_
 . refine Q8.2 ⟨_, _, rfl, ?_, Q8.2 ⟨_, _, rfl, ?_, rels_nil.2 rfl⟩⟩
   . simp only [AV.rel]
     refine ⟨λ t ht => ?_, rfl⟩
     simp only [List.mem_cons, List.not_mem_nil, or_false] at ht
     rcases ht with rfl | rfl | rfl | rfl | rfl <;> exact ⟨trivial, by simp [E.den], by simp [E.den]⟩
   . simp only [AV.rel]
     refine ⟨λ t ht => ?_, rfl⟩
     simp only [List.mem_cons, List.not_mem_nil, or_false] at ht
     subst ht
     exact ⟨trivial, by simp [E.den], by simp [E.den]⟩
 . rintro e w' ⟨Y, v, u, M, h1, h2, rfl, h4, h5⟩
   unfold Qu8 at h1
   split at h1
   . rename_i b
     split at h1
     . rename_i a1 a2 a3 a4 a5 el ex pl hM
       simp only [Bool.and_eq_true] at h1
       obtain ⟨k1, k2, k3, k4, k5⟩ := h1
       have := Q6j k1; have := Q6j k2; have := Q6j k3; have := Q6j k4; have := Q6j k5
       subst_vars
       simp only [AV.rel] at h2
       obtain ⟨p, o', c, hp, rfl, -, -, -, ho, hc⟩ := h2
       obtain ⟨c', fr, ⟨el', g1, -⟩, g2, g3, -, g5, -⟩ := h4.obj _ _ p hM hp
       obtain ⟨v0, g6, g7⟩ := g5 0 _ rfl
       simp only [AV.rel] at g7
       obtain ⟨-, rfl⟩ := g7
       obtain rfl := hc trivial
       refine ⟨p.blk, o', rfl, h4.own _ _ p hM rfl hp, h4.lt _ p hp, ?_, h5⟩
       rw [ho (by simp)]
       unfold World.cell?
       simp only [g1]
       exact g6
     . cases h1
   . cases h1
abbrev zeroV : AV := .agg [z0, z0, z0, z0, z0, z0, z0, .str [], z0, z0, z0, .nilslice, .str []]
theorem Qpo (X : Ext) : zeroV.rel X (.agg Qpl.toArray) := by
 have hz : z0.rel X (.int .i64 0) := by simp only [AV.rel]; exact ⟨trivial, rfl⟩
 have hs : (AV.str []).rel X (.string ⟨#[]⟩) := by simp only [AV.rel]; exact ⟨λ t ht => (by cases ht), rfl⟩
 have hn : AV.nilslice.rel X (.slice none 0 0) := by simp only [AV.rel]
 simp only [AV.rel]
 refine ⟨_, rfl, ?_⟩
 show AV.QI X _ Qpl
 unfold Qpl
 simp only [rels_cons_cons, rels_nil]
 exact ⟨hz, hz, hz, hz, hz, hz, hz, hs, hz, hz, hz, hn, hs, trivial⟩
theorem Qq8 (w : World) (hw : tab.ng <= w.heap.size) :
 Calls Tryz.prog 47 #[.agg Qpl.toArray] w λ e w' => e = .returned (.bool false) /\ Below w.heap.size w w' := by
 refine (Qpi (vs := #[.agg Qpl.toArray]) Qs5 (λ X => ?_) w hw).mono ?_
 . exact Q8.2 ⟨_, _, rfl, Qpo X, rels_nil.2 rfl⟩
 . rintro e w' ⟨Y, v, u, M, h1, h2, rfl, h4, h5⟩
   unfold noQ at h1
   split at h1
   . rename_i b
     have : b = false := by simpa using h1
     subst this
     simp only [AV.rel] at h2
     exact ⟨by rw [h2], h5⟩
   . cases h1
theorem Qq5 (rb wb o : Nat) (t : ByteArray) (w : World) (a5 : w.frozen? ⟨rb, 0, none⟩ = false) (a6 : w.cell? ⟨rb, 0, none⟩ = some (.slice (some ⟨wb, o, none⟩) 1 1)) (c0 : w.cell? ⟨wb, o, none⟩ = some (.string t)) :
 Calls Tryz.prog 66 #[.pointer (some ⟨rb, 0, none⟩)] w λ e w' => e = .returned (.string t) /\ Kp (. = rb) w w' := by
 have h0 : ((1 : Int) == 0) = false := rfl
 go_enter Tryz.func66, Tryz.ntmps66
 go_wp2
 go_ret
 exact ⟨rfl, Kp.set w rb 0 _⟩
set_option maxRecDepth 100000 in
set_option maxHeartbeats 4000000 in
theorem Qsb (w : World) (hw : tab.ng <= w.heap.size) : Calls Tryz.prog 45 #[.string Qiy] w λ e w' => e = .returned (.tuple #[.agg Qpl.toArray, .bool false]) /\ Below w.heap.size w w' := by
 have hsp := λ u h => Qpr u h
 obtain ⟨t, ht⟩ : ∃ t : ByteArray, t = Qiy := ⟨_, rfl⟩
 have hsz : ¬ 8000 < (t.size : Int) := by rw [ht]; decide
 have hsl : t.toList = [115, 108, 101, 101, 112] := by rw [ht, ByteArray.toList_eq]; rfl
 rw [<- ht] at hsp ⊢
 clear ht
 have hmf : ∀ (fn : Fn) (first cap : Array Value) (w : World), (Instr.makeFunc fn first cap).run Tryz.prog w = .ok (.func fn first cap) w := λ _ _ _ _ => rfl
 have hB0 : Below w.heap.size w ((w.alloc (.cells #[.int .i64 0, .int .i64 0, .int .i64 0, .int .i64 0, .int .i64 0, .int .i64 0, .int .i64 0, .string ⟨#[]⟩, .int .i64 0, .int .i64 0, .int .i64 0, .slice none 0 0, .string ⟨#[]⟩] 36)).alloc (.cells #[.bool false] 4)) := ((Below.refl _ _).alloc (Nat.le_refl _) _).alloc (by simp) _
 have q1 := (Qpq w).1
 have q2 := (Qpq w).2
 have m0 : ¬ t.toList = [99, 97, 108, 108] := by rw [hsl]; decide
 have o0 : (t.toList == [99, 97, 108, 108]) = false := by rw [beq_eq_false_iff_ne]; exact m0
 have m1 : ¬ t.toList = [116, 105, 99, 107] := by rw [hsl]; decide
 have o1 : (t.toList == [116, 105, 99, 107]) = false := by rw [beq_eq_false_iff_ne]; exact m1
 have m2 : ¬ t.toList = [102, 97, 116, 101, 115] := by rw [hsl]; decide
 have o2 : (t.toList == [102, 97, 116, 101, 115]) = false := by rw [beq_eq_false_iff_ne]; exact m2
 have m3 : ¬ t.toList = [102, 114, 97, 109, 101] := by rw [hsl]; decide
 have o3 : (t.toList == [102, 114, 97, 109, 101]) = false := by rw [beq_eq_false_iff_ne]; exact m3
 clear hsl
 go_enter_defers Tryz.func45, Tryz.ntmps45
 go_wp2_with fail
 refine (hsp _ (Nat.le_trans hw hB0.size)).mono ?_
 rintro e u ⟨wb, o, rfl, k1, k2, k3, k4⟩
 have hBu := hB0.trans (k4.mono hB0.size)
 have p1 := q1.below k4
 have p2 := q2.below k4
 clear q1 q2 hsp
 go_wp2_with fail
 refine (Qq5 u.heap.size wb o t _ (by simp) (by rw [World.cell?_alloc_at _ _ _ _ rfl]; rfl) ((World.cell?_of_block (w := u) (heap_alloc_old u _ k2)).trans k3)).mono ?_
 rintro e w2 ⟨rfl, kk⟩
 have hB2 : Below w.heap.size w w2 := Kp.up (hBu.alloc hBu.size _) kk (by have := hBu.size; simp; omega) (by intro k hk; have := hBu.size; show ¬ k = _; omega)
 have p1 := (p1.below ((Below.refl _ _).alloc (Nat.le_refl _) _)).kp kk (by have := p1.1; show ¬ _ = _; omega)
 have p2 := (p2.below ((Below.refl _ _).alloc (Nat.le_refl _) _)).kp kk (by have := p2.1; show ¬ _ = _; omega)
 clear kk k1 k2 k3 k4 hBu hB0
 have ⟨c0, cf0⟩ := p1.2 0 _ rfl
 have ⟨c1, cf1⟩ := p1.2 1 _ rfl
 have ⟨c2, cf2⟩ := p1.2 2 _ rfl
 have ⟨c3, cf3⟩ := p1.2 3 _ rfl
 have ⟨c4, cf4⟩ := p1.2 4 _ rfl
 have ⟨c5, cf5⟩ := p1.2 5 _ rfl
 have ⟨c6, cf6⟩ := p1.2 6 _ rfl
 have ⟨c7, cf7⟩ := p1.2 7 _ rfl
 have ⟨c8, cf8⟩ := p1.2 8 _ rfl
 have ⟨c9, cf9⟩ := p1.2 9 _ rfl
 have ⟨c10, cf10⟩ := p1.2 10 _ rfl
 have ⟨c11, cf11⟩ := p1.2 11 _ rfl
 have ⟨c12, cf12⟩ := p1.2 12 _ rfl
 go_wp2_with fail
 refine (Qq8 _ (Nat.le_trans hw hB2.size)).mono ?_
 rintro e w8 ⟨rfl, hb8⟩
 go_wp2
 exact Qu7 rfl rfl rfl (p1.below hb8) (p2.below hb8) (hB2.trans (hb8.mono hB2.size))
end Go.Proofs.YtmbajnmaeikceaaGreatDoor
