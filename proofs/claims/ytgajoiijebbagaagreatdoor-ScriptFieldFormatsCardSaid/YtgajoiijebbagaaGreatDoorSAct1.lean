/-
  script.action's deferred function, and what happens at the function's end: behind a panic of a reader the results are wiped; behind a return they stand. Conditions: as each says.
-/
import Derived.Test.YtgajoiijebbagaaGreatDoorSRead6
import Derived.Test.YtgajoiijebbagaaGreatDoorSLine3
import Derived.Test.YtgajoiijebbagaaGreatDoorSName2
import Derived.Recover
namespace Go.Proofs.YtgajoiijebbagaaGreatDoor
open Go.RowKit Go.Proofs

def acCells (a : Pa.Ac) (fv : Value) : List Value := [.int .i64 a.kind, .int .i64 a.host, .int .i64 a.call.kind, .int .i64 a.call.sock, .int .i64 a.call.addr, .int .i64 a.call.port, .int .i64 a.call.n, .string a.call.s, .int .i64 a.call.here, .int .i64 a.call.mss, .int .i64 a.n, fv, .string a.s]

/-- The results wiped. -/
def wipe (B : Nat) (w : World) : World :=
  (((((((((((((w.setCell ⟨B, 0, none⟩ (.int .i64 0)).setCell ⟨B, 1, none⟩ (.int .i64 0)).setCell ⟨B, 2, none⟩ (.int .i64 0)).setCell ⟨B, 3, none⟩ (.int .i64 0)).setCell ⟨B, 4, none⟩ (.int .i64 0)).setCell ⟨B, 5, none⟩ (.int .i64 0)).setCell ⟨B, 6, none⟩ (.int .i64 0)).setCell ⟨B, 7, none⟩ (.string ⟨#[]⟩)).setCell ⟨B, 8, none⟩ (.int .i64 0)).setCell ⟨B, 9, none⟩ (.int .i64 0)).setCell ⟨B, 10, none⟩ (.int .i64 0)).setCell ⟨B, 11, none⟩ (.slice none 0 0)).setCell ⟨B, 12, none⟩ (.string ⟨#[]⟩)).setCell ⟨B + 1, 0, none⟩ (.bool false)

set_option maxHeartbeats 1000000 in
theorem catch_panicking (B : Nat) (cs : List Value) (b : Bool) (u : TypeId) (pv : Value) (older : List PanicEntry) (w : World) (hl : cs.length = 13) (hc : RowAt B cs w) (hb : RowAt (B + 1) [.bool b] w) :
    CallsD Tryz.prog 57 #[.pointer (some ⟨B, 0, none⟩), .pointer (some ⟨B + 1, 0, none⟩)] (.panicking ({ v := .iface u pv, recovered := false } :: older)) w fun e u' w' =>
      e = .returned (.tuple #[]) ∧ u' = .panicking ({ v := .iface u pv, recovered := true } :: older) ∧ w' = wipe B w := by
  obtain ⟨v0, v1, v2, v3, v4, v5, v6, v7, v8, v9, v10, v11, v12, rfl⟩ : ∃ v0 v1 v2 v3 v4 v5 v6 v7 v8 v9 v10 v11 v12, cs = [v0, v1, v2, v3, v4, v5, v6, v7, v8, v9, v10, v11, v12] := by
    match cs, hl with
    | [v0, v1, v2, v3, v4, v5, v6, v7, v8, v9, v10, v11, v12], _ => exact ⟨_, _, _, _, _, _, _, _, _, _, _, _, _, rfl⟩
  have ⟨e0, f0⟩ := hc.2 0 _ rfl
  have ⟨e1, f1⟩ := hc.2 1 _ rfl
  have ⟨e2, f2⟩ := hc.2 2 _ rfl
  have ⟨e3, f3⟩ := hc.2 3 _ rfl
  have ⟨e4, f4⟩ := hc.2 4 _ rfl
  have ⟨e5, f5⟩ := hc.2 5 _ rfl
  have ⟨e6, f6⟩ := hc.2 6 _ rfl
  have ⟨e7, f7⟩ := hc.2 7 _ rfl
  have ⟨e8, f8⟩ := hc.2 8 _ rfl
  have ⟨e9, f9⟩ := hc.2 9 _ rfl
  have ⟨e10, f10⟩ := hc.2 10 _ rfl
  have ⟨e11, f11⟩ := hc.2 11 _ rfl
  have ⟨e12, f12⟩ := hc.2 12 _ rfl
  have ⟨g0, k0⟩ := hb.2 0 _ rfl
  refine callsD_of_wpS Tryz.func57 rfl fun c₀ cs hu => ?_
  apply wpS_seq
  apply wpS_region
  simp [wpOpsS, go_sem, recoverD, hu, Tryz.ntmps57, Exit.thenS]
  refine wpS_cond (t := true) (by simp [Act.eval, Array.replicate]) ?_
  simp only [if_true]
  refine wpS_of_wp ?_
  show Code.wp _ _ _ { tmps := #[.pointer (some ⟨B, 0, none⟩), .pointer (some ⟨B + 1, 0, none⟩), .iface u pv, .bool true, undef], defers := [] } _
  go_wp2
  simp [bodyPostS, results, Tryz.results57, wipe]

theorem catch_idle (B : Nat) (w : World) :
    CallsD Tryz.prog 57 #[.pointer (some ⟨B, 0, none⟩), .pointer (some ⟨B + 1, 0, none⟩)] .returning w fun e u' w' => e = .returned (.tuple #[]) ∧ u' = .returning ∧ w' = w := by
  refine callsD_of_wpS Tryz.func57 rfl fun c₀ cs hu => ?_
  apply wpS_seq
  apply wpS_region
  simp [wpOpsS, go_sem, recoverD, hu, Tryz.ntmps57, Exit.thenS]
  refine wpS_cond (t := false) (by simp [Act.eval, Array.replicate]) ?_
  simp only [Bool.false_eq_true, if_false]
  refine wpS_of_wp (wp_skip ?_)
  cases c₀
  simp_all [bodyPostS, results, Tryz.results57]

theorem RowAt.wipe {B : Nat} {cs : List Value} {b : Bool} {w : World} (hl : cs.length = 13) (hc : RowAt B cs w) (hb : RowAt (B + 1) [.bool b] w) : RowAt B (acCells Pa.a0 (.slice none 0 0)) (wipe B w) ∧ RowAt (B + 1) [.bool false] (wipe B w) := by
  obtain ⟨v0, v1, v2, v3, v4, v5, v6, v7, v8, v9, v10, v11, v12, rfl⟩ : ∃ v0 v1 v2 v3 v4 v5 v6 v7 v8 v9 v10 v11 v12, cs = [v0, v1, v2, v3, v4, v5, v6, v7, v8, v9, v10, v11, v12] := by
    match cs, hl with
    | [v0, v1, v2, v3, v4, v5, v6, v7, v8, v9, v10, v11, v12], _ => exact ⟨_, _, _, _, _, _, _, _, _, _, _, _, _, rfl⟩
  have h13 := ((((((((((((hc.set 0 (by simp) (.int .i64 0)).set 1 (by simp) (.int .i64 0)).set 2 (by simp) (.int .i64 0)).set 3 (by simp) (.int .i64 0)).set 4 (by simp) (.int .i64 0)).set 5 (by simp) (.int .i64 0)).set 6 (by simp) (.int .i64 0)).set 7 (by simp) (.string ⟨#[]⟩)).set 8 (by simp) (.int .i64 0)).set 9 (by simp) (.int .i64 0)).set 10 (by simp) (.int .i64 0)).set 11 (by simp) (.slice none 0 0)).set 12 (by simp) (.string ⟨#[]⟩)
  have k13 : Kp (· = B) w _ := Kp.setCell (S := (· = B)) (Kp.setCell (S := (· = B)) (Kp.setCell (S := (· = B)) (Kp.setCell (S := (· = B)) (Kp.setCell (S := (· = B)) (Kp.setCell (S := (· = B)) (Kp.setCell (S := (· = B)) (Kp.setCell (S := (· = B)) (Kp.setCell (S := (· = B)) (Kp.setCell (S := (· = B)) (Kp.setCell (S := (· = B)) (Kp.setCell (S := (· = B)) (Kp.setCell (S := (· = B)) (Kp.refl (· = B) w) (p := ⟨B, 0, none⟩) (Or.inl (show B = B from rfl)) (.int .i64 0)) (p := ⟨B, 1, none⟩) (Or.inl (show B = B from rfl)) (.int .i64 0)) (p := ⟨B, 2, none⟩) (Or.inl (show B = B from rfl)) (.int .i64 0)) (p := ⟨B, 3, none⟩) (Or.inl (show B = B from rfl)) (.int .i64 0)) (p := ⟨B, 4, none⟩) (Or.inl (show B = B from rfl)) (.int .i64 0)) (p := ⟨B, 5, none⟩) (Or.inl (show B = B from rfl)) (.int .i64 0)) (p := ⟨B, 6, none⟩) (Or.inl (show B = B from rfl)) (.int .i64 0)) (p := ⟨B, 7, none⟩) (Or.inl (show B = B from rfl)) (.string ⟨#[]⟩)) (p := ⟨B, 8, none⟩) (Or.inl (show B = B from rfl)) (.int .i64 0)) (p := ⟨B, 9, none⟩) (Or.inl (show B = B from rfl)) (.int .i64 0)) (p := ⟨B, 10, none⟩) (Or.inl (show B = B from rfl)) (.int .i64 0)) (p := ⟨B, 11, none⟩) (Or.inl (show B = B from rfl)) (.slice none 0 0)) (p := ⟨B, 12, none⟩) (Or.inl (show B = B from rfl)) (.string ⟨#[]⟩)
  refine ⟨h13.kp (Kp.set _ (B + 1) 0 (.bool false)) (by show ¬ B = B + 1; omega), ?_⟩
  exact (hb.kp k13 (by show ¬ B + 1 = B; omega)).set 0 (by simp) (.bool false)

theorem below_wipe {B : Nat} {w w' : World} (h : Below B w w') : Below B w (wipe B w') := by
  unfold wipe
  iterate 14 refine Below.setCell ?_ (by simp) _
  exact h

/-- What script.action ends in. -/
def AOut (x : Pa.Bs) (w : World) (e : Ending) (w' : World) : Prop :=
  match Pa.parseLine x with
  | some a => ∃ fv, e = .returned (.tuple #[acV a fv, .bool true]) ∧ Fs w' fv a.fates ∧ (∀ b, fv.ownBlock = some b → w.heap.size ≤ b) ∧ Below w.heap.size w w'
  | none => e = .returned (.tuple #[acV Pa.a0 (.slice none 0 0), .bool false]) ∧ Below w.heap.size w w'
theorem AOut.yes {x : Pa.Bs} {a : Pa.Ac} {w : World} {e : Ending} {w' : World} (hr : Pa.parseLine x = some a) (h : ∃ fv, e = .returned (.tuple #[acV a fv, .bool true]) ∧ Fs w' fv a.fates ∧ (∀ b, fv.ownBlock = some b → w.heap.size ≤ b) ∧ Below w.heap.size w w') : AOut x w e w' := by
  unfold AOut; rw [hr]; exact h
theorem AOut.no {x : Pa.Bs} {w : World} {e : Ending} {w' : World} (hr : Pa.parseLine x = none) (h : e = .returned (.tuple #[acV Pa.a0 (.slice none 0 0), .bool false]) ∧ Below w.heap.size w w') : AOut x w e w' := by
  unfold AOut; rw [hr]; exact h

/-- At the door behind a panic of a reader. -/
theorem door_bad {x : Pa.Bs} {w W : World} {tmps : Array Value} {cs : List Value} {b : Bool} (hr : Pa.parseLine x = none) (h2 : tmps[2]? = some (.pointer (some ⟨w.heap.size, 0, none⟩))) (h3 : tmps[3]? = some (.pointer (some ⟨w.heap.size + 1, 0, none⟩)))
    (hl : cs.length = 13) (hc : RowAt w.heap.size cs W) (hb : RowAt (w.heap.size + 1) [.bool b] W) (hB : Below w.heap.size w W) :
    bodyPostD Tryz.prog Tryz.f39 (AOut x w) (.panic badP) { tmps := tmps, defers := [{ target := .fn (.func 57) #[.pointer (some ⟨w.heap.size, 0, none⟩), .pointer (some ⟨w.heap.size + 1, 0, none⟩)], args := #[] }] } W := by
  refine leaves_cons (f := 57) (args := #[.pointer (some ⟨w.heap.size, 0, none⟩), .pointer (some ⟨w.heap.size + 1, 0, none⟩)]) (by simp) (by simp [go_sem]) ?_
  refine (catch_panicking w.heap.size cs b _ _ [] _ hl hc hb).mono ?_
  rintro e u' w'' ⟨rfl, rfl, rfl⟩
  obtain ⟨q1, q2⟩ := RowAt.wipe hl hc hb
  have hBw := below_wipe hB
  generalize wipe w.heap.size W = V at q1 q2 hBw
  have e0 := (q1.2 0 _ rfl).1
  have e1 := (q1.2 1 _ rfl).1
  have e2 := (q1.2 2 _ rfl).1
  have e3 := (q1.2 3 _ rfl).1
  have e4 := (q1.2 4 _ rfl).1
  have e5 := (q1.2 5 _ rfl).1
  have e6 := (q1.2 6 _ rfl).1
  have e7 := (q1.2 7 _ rfl).1
  have e8 := (q1.2 8 _ rfl).1
  have e9 := (q1.2 9 _ rfl).1
  have e10 := (q1.2 10 _ rfl).1
  have e11 := (q1.2 11 _ rfl).1
  have e12 := (q1.2 12 _ rfl).1
  have e13 := (q2.2 0 _ rfl).1
  simp [Leaves, settle, results, Tryz.results39, go_sem, h2, h3, e0, e1, e2, e3, e4, e5, e6, e7, e8, e9, e10, e11, e12, e13]
  exact AOut.no hr ⟨rfl, hBw⟩

/-- At the door behind a return. -/
theorem door_good {x : Pa.Bs} {a : Pa.Ac} {fv : Value} {w W : World} {tmps : Array Value} (hr : Pa.parseLine x = some a) (h2 : tmps[2]? = some (.pointer (some ⟨w.heap.size, 0, none⟩))) (h3 : tmps[3]? = some (.pointer (some ⟨w.heap.size + 1, 0, none⟩)))
    (q1 : RowAt w.heap.size (acCells a fv) W) (q2 : RowAt (w.heap.size + 1) [.bool true] W) (hf : Fs W fv a.fates) (hfr : ∀ b, fv.ownBlock = some b → w.heap.size ≤ b) (hB : Below w.heap.size w W) :
    bodyPostD Tryz.prog Tryz.f39 (AOut x w) .ret { tmps := tmps, defers := [{ target := .fn (.func 57) #[.pointer (some ⟨w.heap.size, 0, none⟩), .pointer (some ⟨w.heap.size + 1, 0, none⟩)], args := #[] }] } W := by
  refine leaves_cons (f := 57) (args := #[.pointer (some ⟨w.heap.size, 0, none⟩), .pointer (some ⟨w.heap.size + 1, 0, none⟩)]) (by simp) (by simp [go_sem]) ?_
  refine (catch_idle w.heap.size _).mono ?_
  rintro e u' w'' ⟨rfl, rfl, rfl⟩
  have e0 := (q1.2 0 _ rfl).1
  have e1 := (q1.2 1 _ rfl).1
  have e2 := (q1.2 2 _ rfl).1
  have e3 := (q1.2 3 _ rfl).1
  have e4 := (q1.2 4 _ rfl).1
  have e5 := (q1.2 5 _ rfl).1
  have e6 := (q1.2 6 _ rfl).1
  have e7 := (q1.2 7 _ rfl).1
  have e8 := (q1.2 8 _ rfl).1
  have e9 := (q1.2 9 _ rfl).1
  have e10 := (q1.2 10 _ rfl).1
  have e11 := (q1.2 11 _ rfl).1
  have e12 := (q1.2 12 _ rfl).1
  have e13 := (q2.2 0 _ rfl).1
  simp [Leaves, settle, results, Tryz.results39, go_sem, h2, h3, e0, e1, e2, e3, e4, e5, e6, e7, e8, e9, e10, e11, e12, e13]
  exact AOut.yes hr ⟨fv, rfl, hf, hfr, hB⟩

end Go.Proofs.YtgajoiijebbagaaGreatDoor
