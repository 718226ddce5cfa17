/-
 slices.Sorted(maps.Keys(m)) at the two map types of the program: the keys, sorted, in new memory. Conditions: none.
-/
import Derived.Test.YtmbajnmaeikceaaGreatDoorNLz
import Derived.Test.YtmbajnmaeikceaaGreatDoorNAxG
import Derived.Test.YtmbajnmaeikceaaGreatDoorNSC
import Derived.Test.YtmbajnmaeikceaaGreatDoorNAxE
import Derived.Test.YtmbajnmaeikceaaGreatDoorNAxF
import Derived.Test.YtmbajnmaeikceaaGreatDoorNTabsOK
import Derived.Test.YtmbajnmaeikceaaGreatDoorNWA
import Derived.Test.YtmbajnmaeikceaaGreatDoorNWB
import Derived.Test.YtmbajnmaeikceaaGreatDoorNEx
import Derived.Test.YtmbajnmaeikceaaGreatDoorNSl
namespace Go.Proofs.YtmbajnmaeikceaaGreatDoor
open Go Go.RowKit Go.Maps Go.Sort Go.Shelf Go.Proofs
theorem Qmi (m : Nat) : AnyZI.SortsIn Tryz.prog Tryz.Q0d Fence.wide m :=
 ⟨λ blk off cap ss W hH hblk hsz => callsIn_wide.2 (AnyM.slices_Sort_int Tryz.Qmj blk off cap ss W hH hblk hsz),
  λ p cap W => callsIn_wide.2 (AnyM.slices_Sort_int_none Tryz.Qmj p cap W)⟩
abbrev valR : Value -> Option (DataW Unit × List MemPlace) := λ _ => some (.nil, [])
theorem Qmr {x : MapEntry} {z : Int} (h : x.key = .int .i64 z) (h1 : -9223372036854775808 <= z) (h2 : z <= 9223372036854775807) : WideElems.rd Tryz.prog 3 valR x = some (.int .i64 z, .nil) := by
 have hk : keyOf Tryz.prog 3 x.key = some (.int .i64 z) := by
  rw [h]
  exact keyOf_int_mk Tryz.underlying3 (by simp [Lit.wf, IntKind.min, IntKind.max, IntKind.signed, IntKind.bits]; omega)
 simp only [WideElems.rd, hk, Option.bind_some, Option.map_some]
theorem Qe8 {w : World} {b clock : Nat} {es : Array MapEntry} {ks : List Int} (hb : w.heap[b]? = some (.map es clock)) (hs : es.size <= 1000000) (hst : MapKept.Stamped es clock) (hk : es.toList.map (·.key) = ks.map (Value.int .i64)) (hw : ∀ z ∈ ks, -9223372036854775808 <= z /\ z <= 9223372036854775807) :
 ∃ D0 : DataW Unit, w.ownsMap Tryz.prog 3 valR b es.size D0 /\ (intKeys D0).Perm ks /\ Maps.size D0 = es.size := by
 have hall : ∀ {l : List MapEntry} {ks : List Int}, l.map (·.key) = ks.map (Value.int .i64) -> (∀ z ∈ ks, -9223372036854775808 <= z /\ z <= 9223372036854775807) -> l.map (WideElems.rg Tryz.prog 3 valR) = ks.map (λ z => (Lit.int .i64 z, DataW.nil)) /\ ∀ x ∈ l, ∃ y, WideElems.rd Tryz.prog 3 valR x = some y := by
  intro l
  induction l with
  | nil => intro ks h _; cases ks with
   | nil => exact ⟨rfl, λ x hx => (by cases hx)⟩
   | cons z ks => simp at h
  | cons x l ih =>
   intro ks h hw
   cases ks with
   | nil => simp at h
   | cons z ks =>
    simp only [List.map_cons, List.cons.injEq] at h
    obtain ⟨i1, i2⟩ := ih h.2 λ y hy => hw y (by simp [hy])
    have hz := hw z (by simp)
    have hr := Qmr h.1 hz.1 hz.2
    refine ⟨by simp only [List.map_cons, WideElems.rg, hr, Option.getD_some]; rw [<- i1], λ y hy => ?_⟩
    rcases List.mem_cons.1 hy with rfl | hy
    . exact ⟨_, hr⟩
    . exact i2 y hy
 obtain ⟨a1, a2⟩ := hall hk hw
 refine ⟨_, ⟨es, clock, hb, ⟨by unfold maxLen; omega, hst, a2⟩, Nat.le_refl _, rfl⟩, ?_, ?_⟩
 . simp only [intKeys]
   rw [a1]
   have hp := (WideShapes.sorted_perm (H := Unit) (ks.map (λ z => (Lit.int .i64 z, DataW.nil)))).map (λ p => Go.intOf p.1)
   refine hp.trans ?_
   rw [List.map_map]
   have : ((λ p : Lit × DataW Unit => Go.intOf p.1) ∘ λ z => (Lit.int .i64 z, DataW.nil)) = id := by funext z; rfl
   rw [this, List.map_id]
 . simp only [Maps.size]
   rw [(WideShapes.sorted_perm _).length_eq]
   simp
theorem zy {g Bm : Nat} {w : World} {n : Nat} {S : List Int -> Prop} (hn : n <= 1000000) (eg : ∀ args w, (callFunc g args).run Tryz.prog w = .ok (.enter g args) w) (hseq : SeqGives Fence.wide 2 Tryz.prog g #[.pointer (some ⟨Bm, 0, none⟩)] encZ S n w) :
 Calls Tryz.prog 265 #[.func (.func g) #[] #[.pointer (some ⟨Bm, 0, none⟩)]] w λ e w' => ∃ (v : Value) (ss : List Int), e = .returned v /\ S ss /\ w'.ownsRow w.heap.size 3 1 v ss.length ((ss.mergeSort (λ x y => decide (x <= y))).map (Value.int .i64)) /\ (v = .slice none 0 0 ↔ ss = []) /\ Below w.heap.size w w' :=
 (callsIn_wide (n := 5)).1 (AnyZI.sorted_in Tryz.Qjo Fence.wide 5 trivial trivial trivial trivial rfl (by omega) (Qmi _) Tryz.call367 g #[.pointer (some ⟨Bm, 0, none⟩)] trivial eg S n (by unfold maxLen; omega) (by omega) w hseq)
def Qng : List Nat := [368, 391]
theorem Q3z (G : Ax.Env) (n0 : Nat) : Ax.Zw Tryz.prog G n0 265 (Ax.zA 3 Qng) := by
 refine Ax.Q5s (λ g b Bm clock es ks w hg hBm hm hb hs hst hk hw => ?_) (λ g Bm w hg hBm hm => ?_)
 . obtain ⟨D0, h1, h2, h3⟩ := Qe8 hb hs hst hk hw
   have hs' : Maps.size D0 <= 1000000 := by rw [h3]; exact hs
   rcases List.mem_cons.1 hg with rfl | hg
   . refine (zy hs' Tryz.call368 (AnyZI.keys_gives (ρ := Tryz.Q12) { Tryz.Qnf with } Fence.wide 2 trivial rfl (by omega) Bm b _ D0 w hBm hm h1)).mono ?_
     rintro e w' ⟨v, ss, a1, a2, a3⟩
     exact ⟨v, ss, a1, a2.trans h2, a3⟩
   . rcases List.mem_cons.1 hg with rfl | hg
     . refine (zy hs' Tryz.call391 (AnyZI.keys_gives (ρ := Tryz.Q11) { Tryz.Qne with } Fence.wide 2 trivial rfl (by omega) Bm b _ D0 w hBm hm h1)).mono ?_
       rintro e w' ⟨v, ss, a1, a2, a3⟩
       exact ⟨v, ss, a1, a2.trans h2, a3⟩
     . cases hg
 . rcases List.mem_cons.1 hg with rfl | hg
   . refine (zy (n := 0) (by omega) Tryz.call368 (AnyZI.keys_gives_nil (ρ := Tryz.Q12) { Tryz.Qnf with } Fence.wide 2 trivial rfl Bm w hBm hm)).mono ?_
     rintro e w' ⟨v, ss, a1, a2, a3, a4, a5⟩
     obtain rfl := a4.2 a2
     exact ⟨a1, a5⟩
   . rcases List.mem_cons.1 hg with rfl | hg
     . refine (zy (n := 0) (by omega) Tryz.call391 (AnyZI.keys_gives_nil (ρ := Tryz.Q11) { Tryz.Qne with } Fence.wide 2 trivial rfl Bm w hBm hm)).mono ?_
       rintro e w' ⟨v, ss, a1, a2, a3, a4, a5⟩
       obtain rfl := a4.2 a2
       exact ⟨a1, a5⟩
     . cases hg
end Go.Proofs.YtmbajnmaeikceaaGreatDoor
namespace Go.Proofs.YtmbajnmaeikceaaGreatDoor
open Go Go.RowKit Go.Shelf Go.Proofs
theorem Q7e : Builder.Extra Tryz.prog Tryz.Q0z where
 sizeBuilder := by kernel_rfl
 liesBuilder := by kernel_rfl
 t5 := Tryz.underlying5
 a5 := Tryz.isAgg5
 z5 := Tryz.sizeOf5
 v5 := Tryz.zeroValue5
 infoByte := by kernel_rfl
 cellsByte := by kernel_rfl
 sizeByte := by kernel_rfl
 neB5 := by decide
theorem Qen : ∀ xs : List (List UInt8), Lib.join xs [] = xs.flatten
 | [] => rfl
 | x :: r => by
  rw [Lib.join_cons]
  simp [Lib.joinTail]
theorem Qhp (bk o c : Nat) (xs : List ByteArray) (w : World) (hcells : ∀ (j : Nat) x, xs[j]? = some x -> w.cell? ⟨bk, o + j, none⟩ = some (.string x))
 (hbk : bk < w.heap.size) (hN : xs.length <= 140737488355328) (hcap : xs.length <= c) (hlen : ((xs.map (·.data.toList)).flatten).length <= 140737488355328) :
 Calls Tryz.prog 20 #[.slice (some ⟨bk, o, none⟩) xs.length c, .string ⟨#[]⟩] w λ e w' => e = .returned (.string ⟨((xs.map (·.data.toList)).flatten).toArray⟩) /\ Below w.heap.size w w' := by
 have e : Lib.join (xs.map (·.data.toList)) (⟨#[]⟩ : ByteArray).data.toList = (xs.map (·.data.toList)).flatten := Qen _
 have := Any.strings_Join Tryz.Qkn Q7e bk o c xs ⟨#[]⟩ w hcells hbk hN hcap (by rw [e]; exact hlen)
 rw [e] at this
 exact this
end Go.Proofs.YtmbajnmaeikceaaGreatDoor
namespace Go.Proofs.YtmbajnmaeikceaaGreatDoor
open Go Go.Ax Go.RowKit Go.Proofs
theorem Qc5 : liesAt Tryz.prog Tryz.prog.depth 630 (3 / Tryz.prog.cellsOf 630) 0 106 1 = true := by kernel_rfl
set_option maxHeartbeats 1000000 in
set_option maxRecDepth 100000 in
theorem zW (b : Nat) (w : World) (h0 : w.cell? ⟨b, 0, none⟩ = some (.pointer none)) (hsh : w.shape? b = some (630, 3)) (hfz : w.frozen? ⟨b, 0, none⟩ = false) :
 Calls Tryz.prog 46 #[.pointer (some ⟨b, 0, none⟩)] w λ e w' => e = .returned (.tuple #[]) /\ w' = w.setCell ⟨b, 0, none⟩ (.pointer (some ⟨b, 0, none⟩)) := by
 obtain ⟨j, hj, hjs⟩ := Option.map_eq_some_iff.1 sizeBuilder
 go_enter Go.Proofs.Tryz.func46, Go.Proofs.Tryz.ntmps46
 go_wp2
 rw [Lib.run_to_unsafe w ⟨b, 0, none⟩ Tryz.underlying103 Tryz.underlying187 hj (by rw [hjs]; decide) hsh (Nat.zero_lt_succ 2)]
 simp only [Result.andThen]
 rw [Oper.upon_value]
 go_wp2
 rw [run_callFunc_extern Tryz.func71 (by kernel_rfl) (by kernel_rfl) (by kernel_rfl) (e := Extern.AbiNoEscape.same) (by kernel_rfl)]
 rw [Lib.run_noEscape]
 simp only [Result.andThen]
 rw [Oper.upon_value]
 go_wp2
 rw [Lib.run_from_unsafe w ⟨b, 0, none⟩ Tryz.underlying187 Tryz.underlying103 hj hsh Qc5]
 simp only [Result.andThen]
 rw [Oper.upon_value]
 go_wp2
 go_end0
 exact ⟨rfl, rfl⟩
abbrev builders : List (Nat × Nat) := [(106, 2), (630, 3)]
theorem Q4p (G : Env) (n0 : Nat) : Zw Tryz.prog G n0 46 (Q05 builders) := Q97 (λ q hq b w h0 hs hf => by
 rcases List.mem_cons.1 hq with rfl | hq
 . exact Q1l b w h0 hs hf
 rcases List.mem_cons.1 hq with rfl | hq
 . exact zW b w h0 hs hf
 . cases hq) Q2b
end Go.Proofs.YtmbajnmaeikceaaGreatDoor
namespace Go.Proofs.YtmbajnmaeikceaaGreatDoor
open Go Go.Ax Go.RowKit Go.Proofs
noncomputable def errs : Qbf := ⟨16, 5, 665, 113, [(2, 16), (10, 17), (11, 18), (12, 19), (14, 20)],
 [(1, 430, .nums .u64 [1, 10, 100, 1000, 10000, 100000, 1000000, 10000000, 100000000, 1000000000, 10000000000, 100000000000, 1000000000000, 10000000000000, 100000000000000, 1000000000000000, 10000000000000000, 100000000000000000, 1000000000000000000, 10000000000000000000]), (13, 841, .nums .i64 [0, 1, 1, 0, 2, 2, 1, 3, 3, 1, 2, 2, 1, 5, 0, 2, 4, 3, 2, 5, 4, 2, 6, 6, 3, 5, 4, 3, 6, 6, 4, 7, 5, 4, 6, 7, 5, 6, 9, 6, 5, 8, 7, 7, 9, 8, 7, 0])]⟩
theorem errs_ng : errs.ng = tab.ng := rfl
theorem Qhu : 0 < errs.ng := by show 0 < 16; decide
theorem errs_in : errs.inB = true := by kernel_rfl
def sl : List Nat -> Code -> Code
 | [], c => c
 | i :: p, .seq a b => bif Nat.beq i 0 then sl p a else sl p b
 | i :: p, .cond _ a b => bif Nat.beq i 0 then sl p a else sl p b
 | _ :: p, .block _ b => sl p b
 | _ :: p, .loop b => sl p b
 | _ :: p, .scope b => sl p b
 | i :: p, .rangeFunc _ _ a b => bif Nat.beq i 0 then sl p a else sl p b
 | _, c => c
def sk (n : Nat) (p : List Nat) (c : Code) : Code := sl (List.replicate n 1 ++ p) c
def opsOf : Code -> List Oper
 | .region _ ops _ => ops.toList
 | _ => []
noncomputable def rg (c : Code) (k : Nat) : zm := .reg (opsOf c) k ((opsOf c).drop k)
abbrev eL (n : Nat) : E := .lit (.ofNat n)
abbrev iL (n : Nat) : AV := .int .i64 (.lit (.ofNat n))
abbrev iV (n : Nat) : AV := .int .i64 (.var n)
abbrev yy : AV := .any
abbrev uu : AV := .tuple []
abbrev tt : AV := .top
def tL (l : List Nat) : AV := .str (l.map eL)
def aL (l : List Nat) : List AV := l.map iL
abbrev jL {α : Type} (l : List (List α)) : List α := l.flatten
abbrev rL {α : Type} (n : Nat) (a : α) : List α := List.replicate n a
def stl (l : List (Nat × AV)) (b : List AV) : List AV := l.foldr (λ p b => b.set p.1 p.2) b
end Go.Proofs.YtmbajnmaeikceaaGreatDoor
namespace Go.Proofs.YtmbajnmaeikceaaGreatDoor
open Go Go.Ax Go.RowKit Go.Proofs
noncomputable def Qm9 : List (Nat × Sum) := [(15, Q8j), (17, Qd7 [spI] (.int .i64 0 4294967295)), (46, Q05 builders), (380, Q9z),
 (268, Qdz 10), (272, Q8z 10), (330, Qao 1), (258, Qao 0), (265, zA 3 Qng), (86, Qec 5), (224, Qex), (454, Q1b), (20, Q8u), (228, Qfl), (45, Q40 zeroV)]
theorem Qgl : Qcy Tryz.prog tab Qm9 :=
 .cons (λ _ _ _ => Qby λ z n w h0 h1 h2 h3 => Qbz z n w h0 h1 h2 h3) Tryz.call15 <|
 .cons (λ G n0 h => Qd6 (Qcy.told (T := tab) Qhu (Qbw _) G n0 h)) Tryz.call17 <|
 .cons (λ G n0 _ => Q4p G n0) Tryz.call46 <|
 .cons (λ G n0 _ => Q8g G n0) Tryz.call380 <|
 .cons (λ _ _ _ => Qdy (λ z k w a b c d => Qk5 z k w a b c d) (λ z k w a b c => Qk4 z k w a b c)) Tryz.call268 <|
 .cons (λ _ _ _ => Qcb (λ s i k w a b c d => Qku s i k w a b c d) (λ s i k w a b c d e => Qkt s i k w a b c d e)) Tryz.call272 <|
 .cons (λ _ _ _ => Q6u λ s w h => Q76 s w h) Tryz.call330 <|
 .cons (λ _ _ _ => Q6u λ s w h => Qfg s w h) Tryz.call258 <|
 .cons (λ G n0 _ => Q3z G n0) Tryz.call265 <|
 .ext (λ _ _ _ => Qeb (ps := #[3]) (t := 104) Tryz.underlying104 λ args w => run_callFunc_extern Tryz.func86 (by kernel_rfl) (by kernel_rfl) (by kernel_rfl) (e := Extern.BytealgMakeNoZero.makeNoZero #[3] #[104]) (by kernel_rfl) args w) <|
 .ext (λ _ _ _ => Qew λ args w => run_callFunc_extern Tryz.func224 (by kernel_rfl) (by kernel_rfl) (by kernel_rfl) (e := Extern.BytealgIndexByte.indexByte) (by kernel_rfl) args w) <|
 .cons (λ _ _ _ => Q6v λ F o mb now es clock w a b c d e f => Qcf F o mb now es clock w a b c d e f) Tryz.call454 <|
 .cons (λ _ _ _ => Qc8 λ bk o c xs w a b d e f => Qhp bk o c xs w a b d e f) Tryz.call20 <|
 .ext (λ _ _ _ => Qfk λ args w => run_callFunc_extern Tryz.func228 (by kernel_rfl) (by kernel_rfl) (by kernel_rfl) (e := Extern.BytealgCount.count) (by kernel_rfl) args w) <|
 .cons (λ _ _ h => Q89 Qpo λ w hw => Qsb w (by rw [<- h]; exact hw)) Tryz.call45 .nil
noncomputable def GT : Env := ⟨tab, ifs, Qgn Qm9⟩
theorem Qm4 {n0 : Nat} : Zg Tryz.prog GT n0 := Qgm Qgl n0
end Go.Proofs.YtmbajnmaeikceaaGreatDoor
