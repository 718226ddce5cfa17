/-
 slices.Sorted(maps.Keys(m)) at the two map types of the program: the keys, sorted, in new memory. Conditions: none.
-/
import Derived.Test.YtmjjaldodkokbaaGreatDoorHLz
import Derived.Test.YtmjjaldodkokbaaGreatDoorHAxG
import Derived.Test.YtmjjaldodkokbaaGreatDoorHSC
import Derived.Test.YtmjjaldodkokbaaGreatDoorHAxE
import Derived.Test.YtmjjaldodkokbaaGreatDoorHAxF
import Derived.Test.YtmjjaldodkokbaaGreatDoorHTabsOK
import Derived.Test.YtmjjaldodkokbaaGreatDoorHWA
import Derived.Test.YtmjjaldodkokbaaGreatDoorHWB
import Derived.Test.YtmjjaldodkokbaaGreatDoorHEx
namespace Go.Proofs.YtmjjaldodkokbaaGreatDoor
open Go Go.RowKit Go.Maps Go.Sort Go.Shelf Go.Proofs
theorem Qkz (m : Nat) : AnyZI.SortsIn Tryz.prog Tryz.yZ Fence.wide m :=
 ⟨λ blk off cap ss W hH hblk hsz => callsIn_wide.2 (AnyM.slices_Sort_int Tryz.Ql0 blk off cap ss W hH hblk hsz),
  λ p cap W => callsIn_wide.2 (AnyM.slices_Sort_int_none Tryz.Ql0 p cap W)⟩
abbrev valR : Value -> Option (DataW Unit × List MemPlace) := λ _ => some (.nil, [])
theorem Ql9 {x : MapEntry} {z : Int} (h : x.key = .int .i64 z) (h1 : -9223372036854775808 <= z) (h2 : z <= 9223372036854775807) : WideElems.rd Tryz.prog 3 valR x = some (.int .i64 z, .nil) := by
 have hk : keyOf Tryz.prog 3 x.key = some (.int .i64 z) := by
  rw [h]
  exact keyOf_int_mk Tryz.underlying3 (by simp [Lit.wf, IntKind.min, IntKind.max, IntKind.signed, IntKind.bits]; omega)
 simp only [WideElems.rd, hk, Option.bind_some, Option.map_some]
theorem Qdf {w : World} {b clock : Nat} {es : Array MapEntry} {ks : List Int} (hb : w.heap[b]? = some (.map es clock)) (hs : es.size <= 1000000) (hst : MapKept.Stamped es clock) (hk : es.toList.map (·.key) = ks.map (Value.int .i64)) (hw : ∀ z ∈ ks, -9223372036854775808 <= z /\ z <= 9223372036854775807) :
 ∃ D0 : DataW Unit, w.ownsMap Tryz.prog 3 valR b es.size D0 /\ (intKeys D0).Perm ks /\ Maps.size D0 = es.size := by
 have hall : ∀ {l : List MapEntry} {ks : List Int}, l.map (·.key) = ks.map (Value.int .i64) -> (∀ z ∈ ks, -9223372036854775808 <= z /\ z <= 9223372036854775807) -> l.map (WideElems.rg Tryz.prog 3 valR) = ks.map (λ z => (Lit.int .i64 z, DataW.nil)) /\ ∀ x ∈ l, ∃ y, WideElems.rd Tryz.prog 3 valR x = some y := by
  intro l
  induction l with
  | nil => intro ks h _; cases ks with
   | nil => exact ⟨rfl, λ x hx => (by cases hx)⟩
   | cons z ks => simp at h
  | cons x l ih =>
   intro ks h hw
   cases ks with
   | nil => simp at h
   | cons z ks =>
    simp only [List.map_cons, List.cons.injEq] at h
    obtain ⟨i1, i2⟩ := ih h.2 λ y hy => hw y (by simp [hy])
    have hz := hw z (by simp)
    have hr := Ql9 h.1 hz.1 hz.2
    refine ⟨by simp only [List.map_cons, WideElems.rg, hr, Option.getD_some]; rw [<- i1], λ y hy => ?_⟩
    rcases List.mem_cons.1 hy with rfl | hy
    . exact ⟨_, hr⟩
    . exact i2 y hy
 obtain ⟨a1, a2⟩ := hall hk hw
 refine ⟨_, ⟨es, clock, hb, ⟨by unfold maxLen; omega, hst, a2⟩, Nat.le_refl _, rfl⟩, ?_, ?_⟩
 . simp only [intKeys]
   rw [a1]
   have hp := (WideShapes.sorted_perm (H := Unit) (ks.map (λ z => (Lit.int .i64 z, DataW.nil)))).map (λ p => Go.intOf p.1)
   refine hp.trans ?_
   rw [List.map_map]
   have : ((λ p : Lit × DataW Unit => Go.intOf p.1) ∘ λ z => (Lit.int .i64 z, DataW.nil)) = id := by funext z; rfl
   rw [this, List.map_id]
 . simp only [Maps.size]
   rw [(WideShapes.sorted_perm _).length_eq]
   simp
theorem zi {g Bm : Nat} {w : World} {n : Nat} {S : List Int -> Prop} (hn : n <= 1000000) (eg : ∀ args w, (callFunc g args).run Tryz.prog w = .ok (.enter g args) w) (hseq : SeqGives Fence.wide 2 Tryz.prog g #[.pointer (some ⟨Bm, 0, none⟩)] encZ S n w) :
 Calls Tryz.prog 204 #[.func (.func g) #[] #[.pointer (some ⟨Bm, 0, none⟩)]] w λ e w' => ∃ (v : Value) (ss : List Int), e = .returned v /\ S ss /\ w'.ownsRow w.heap.size 3 1 v ss.length ((ss.mergeSort (λ x y => decide (x <= y))).map (Value.int .i64)) /\ (v = .slice none 0 0 ↔ ss = []) /\ Below w.heap.size w w' :=
 (callsIn_wide (n := 5)).1 (AnyZI.sorted_in Tryz.Qil Fence.wide 5 trivial trivial trivial trivial rfl (by omega) (Qkz _) Tryz.call298 g #[.pointer (some ⟨Bm, 0, none⟩)] trivial eg S n (by unfold maxLen; omega) (by omega) w hseq)
def Qlv : List Nat := [299, 319]
theorem Q3l (G : Ax.Env) (n0 : Nat) : Ax.Y0 Tryz.prog G n0 204 (Ax.zk 3 Qlv) := by
 refine Ax.Q5e (λ g b Bm clock es ks w hg hBm hm hb hs hst hk hw => ?_) (λ g Bm w hg hBm hm => ?_)
 . obtain ⟨D0, h1, h2, h3⟩ := Qdf hb hs hst hk hw
   have hs' : Maps.size D0 <= 1000000 := by rw [h3]; exact hs
   rcases List.mem_cons.1 hg with rfl | hg
   . refine (zi hs' Tryz.call299 (AnyZI.keys_gives (ρ := Tryz.Q0p) { Tryz.Qlu with } Fence.wide 2 trivial rfl (by omega) Bm b _ D0 w hBm hm h1)).mono ?_
     rintro e w' ⟨v, ss, a1, a2, a3⟩
     exact ⟨v, ss, a1, a2.trans h2, a3⟩
   . rcases List.mem_cons.1 hg with rfl | hg
     . refine (zi hs' Tryz.call319 (AnyZI.keys_gives (ρ := Tryz.Q0o) { Tryz.Qlt with } Fence.wide 2 trivial rfl (by omega) Bm b _ D0 w hBm hm h1)).mono ?_
       rintro e w' ⟨v, ss, a1, a2, a3⟩
       exact ⟨v, ss, a1, a2.trans h2, a3⟩
     . cases hg
 . rcases List.mem_cons.1 hg with rfl | hg
   . refine (zi (n := 0) (by omega) Tryz.call299 (AnyZI.keys_gives_nil (ρ := Tryz.Q0p) { Tryz.Qlu with } Fence.wide 2 trivial rfl Bm w hBm hm)).mono ?_
     rintro e w' ⟨v, ss, a1, a2, a3, a4, a5⟩
     obtain rfl := a4.2 a2
     exact ⟨a1, a5⟩
   . rcases List.mem_cons.1 hg with rfl | hg
     . refine (zi (n := 0) (by omega) Tryz.call319 (AnyZI.keys_gives_nil (ρ := Tryz.Q0o) { Tryz.Qlt with } Fence.wide 2 trivial rfl Bm w hBm hm)).mono ?_
       rintro e w' ⟨v, ss, a1, a2, a3, a4, a5⟩
       obtain rfl := a4.2 a2
       exact ⟨a1, a5⟩
     . cases hg
end Go.Proofs.YtmjjaldodkokbaaGreatDoor
namespace Go.Proofs.YtmjjaldodkokbaaGreatDoor
open Go Go.Ax Go.RowKit Go.Proofs
theorem Qbi : liesAt Tryz.prog Tryz.prog.depth 523 (3 / Tryz.prog.cellsOf 523) 0 393 1 = true := by kernel_rfl
set_option maxHeartbeats 1000000 in
set_option maxRecDepth 100000 in
theorem zM (b : Nat) (w : World) (h0 : w.cell? ⟨b, 0, none⟩ = some (.pointer none)) (hsh : w.shape? b = some (523, 3)) (hfz : w.frozen? ⟨b, 0, none⟩ = false) :
 Calls Tryz.prog 300 #[.pointer (some ⟨b, 0, none⟩)] w λ e w' => e = .returned (.tuple #[]) /\ w' = w.setCell ⟨b, 0, none⟩ (.pointer (some ⟨b, 0, none⟩)) := by
 obtain ⟨j, hj, hjs⟩ := Option.map_eq_some_iff.1 sizeBuilder
 go_enter Go.Proofs.Tryz.func300, Go.Proofs.Tryz.ntmps300
 go_wp2
 rw [Lib.run_to_unsafe w ⟨b, 0, none⟩ Tryz.underlying391 Tryz.underlying495 hj (by rw [hjs]; decide) hsh (Nat.zero_lt_succ 2)]
 simp only [Result.andThen]
 rw [Oper.upon_value]
 go_wp2
 rw [run_callFunc_extern Tryz.func414 (by kernel_rfl) (by kernel_rfl) (by kernel_rfl) (e := Extern.AbiNoEscape.same) (by kernel_rfl)]
 rw [Lib.run_noEscape]
 simp only [Result.andThen]
 rw [Oper.upon_value]
 go_wp2
 rw [Lib.run_from_unsafe w ⟨b, 0, none⟩ Tryz.underlying495 Tryz.underlying391 hj hsh Qbi]
 simp only [Result.andThen]
 rw [Oper.upon_value]
 go_wp2
 go_end0
 exact ⟨rfl, rfl⟩
abbrev builders : List (Nat × Nat) := [(393, 2), (523, 3)]
theorem Q4c (G : Env) (n0 : Nat) : Y0 Tryz.prog G n0 300 (yO builders) := Q8l (λ q hq b w h0 hs hf => by
 rcases List.mem_cons.1 hq with rfl | hq
 . exact Q16 b w h0 hs hf
 rcases List.mem_cons.1 hq with rfl | hq
 . exact zM b w h0 hs hf
 . cases hq) Q1u
end Go.Proofs.YtmjjaldodkokbaaGreatDoor
namespace Go.Proofs.YtmjjaldodkokbaaGreatDoor
open Go Go.Ax Go.RowKit Go.Proofs
noncomputable def errs : Q7g := ⟨8, 5, 770, 227, [(0, 8), (1, 9), (2, 10), (4, 11), (5, 12)],
 [(6, 715, [0, 1, 1, 0, 2, 2, 1, 3, 3, 1, 2, 2, 1, 5, 0, 2, 4, 3, 2, 5, 4, 2, 6, 6, 3, 5, 4, 3, 6, 6, 4, 7, 5, 4, 6, 7, 5, 6, 9, 6, 5, 8, 7, 7, 9, 8, 7, 0])]⟩
theorem Q8i : errs.ng = tab.ng := rfl
theorem Q47 : 0 < errs.ng := by show 0 < 8; decide
theorem Qjq : errs.inB = true := by kernel_rfl
def sl : List Nat -> Code -> Code
 | [], c => c
 | i :: p, .seq a b => bif Nat.beq i 0 then sl p a else sl p b
 | i :: p, .cond _ a b => bif Nat.beq i 0 then sl p a else sl p b
 | _ :: p, .block _ b => sl p b
 | _ :: p, .loop b => sl p b
 | _ :: p, .scope b => sl p b
 | i :: p, .rangeFunc _ _ a b => bif Nat.beq i 0 then sl p a else sl p b
 | _, c => c
def sk (n : Nat) (p : List Nat) (c : Code) : Code := sl (List.replicate n 1 ++ p) c
def opsOf : Code -> List Oper
 | .region _ ops _ => ops.toList
 | _ => []
noncomputable def rg (c : Code) (k : Nat) : Q1n := .reg (opsOf c) k ((opsOf c).drop k)
abbrev eL (n : Nat) : E := .lit (.ofNat n)
abbrev iL (n : Nat) : AV := .int .i64 (.lit (.ofNat n))
abbrev iB (n : Nat) : AV := .int .u8 (.lit (.ofNat n))
abbrev yy : AV := .any
abbrev uu : AV := .tuple []
def tL (l : List Nat) : AV := .str (l.map eL)
def aL (l : List Nat) : List AV := l.map iL
end Go.Proofs.YtmjjaldodkokbaaGreatDoor
namespace Go.Proofs.YtmjjaldodkokbaaGreatDoor
open Go Go.Ax Go.RowKit Go.Proofs
noncomputable def Qic : List (Nat × Sum) := [(6, Q81), (300, yO builders), (308, Q9g),
 (206, Qd8 10), (168, Q8d 10), (290, Qa0 1), (109, Qa0 0), (204, zk 3 Qlv), (354, Q0y)]
theorem Q98 : Qf9 Tryz.prog tab Qic :=
 .cons (λ _ _ _ => Qb8 λ z n w h0 h1 h2 h3 => Qb9 z n w h0 h1 h2 h3) Tryz.call6 <|
 .cons (λ G n0 _ => Q4c G n0) Tryz.call300 <|
 .cons (λ G n0 _ => Q7w G n0) Tryz.call308 <|
 .cons (λ _ _ _ => Qd7 (λ z k w a b c d => Qiy z k w a b c d) (λ z k w a b c => Qix z k w a b c)) Tryz.call206 <|
 .cons (λ _ _ _ => Qbm (λ s i k w a b c d => Qjk s i k w a b c d) (λ s i k w a b c d e => Qjj s i k w a b c d e)) Tryz.call168 <|
 .cons (λ _ _ _ => Q69 λ s w h => Q6o s w h) Tryz.call290 <|
 .cons (λ _ _ _ => Q69 λ s w h => Qef s w h) Tryz.call109 <|
 .cons (λ G n0 _ => Q3l G n0) Tryz.call204 <|
 .cons (λ _ _ _ => Q6a λ F o mb now es clock w a b c d e f => Qbq F o mb now es clock w a b c d e f) Tryz.call354 .nil
noncomputable def GB : Env := ⟨tab, ifs, Qcg Qic⟩
end Go.Proofs.YtmjjaldodkokbaaGreatDoor
