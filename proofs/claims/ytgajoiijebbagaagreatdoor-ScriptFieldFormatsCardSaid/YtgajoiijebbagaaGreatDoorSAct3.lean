/-
  The walk of script.action, way by way. Conditions: the text is at most 8000 bytes long; the library's variables read as laid.
-/
import Derived.Test.YtgajoiijebbagaaGreatDoorSAct2
namespace Go.Proofs.YtgajoiijebbagaaGreatDoor
open Go.RowKit Go.Proofs

/-- The results written once more, and 'ok' set. -/
def rewr (B : Nat) (a : Pa.Ac) (fv : Value) (w : World) : World :=
  (((((((((((((w.setCell ⟨B, 0, none⟩ (.int .i64 a.kind)).setCell ⟨B, 1, none⟩ (.int .i64 a.host)).setCell ⟨B, 2, none⟩ (.int .i64 a.call.kind)).setCell ⟨B, 3, none⟩ (.int .i64 a.call.sock)).setCell ⟨B, 4, none⟩ (.int .i64 a.call.addr)).setCell ⟨B, 5, none⟩ (.int .i64 a.call.port)).setCell ⟨B, 6, none⟩ (.int .i64 a.call.n)).setCell ⟨B, 7, none⟩ (.string a.call.s)).setCell ⟨B, 8, none⟩ (.int .i64 a.call.here)).setCell ⟨B, 9, none⟩ (.int .i64 a.call.mss)).setCell ⟨B, 10, none⟩ (.int .i64 a.n)).setCell ⟨B, 11, none⟩ fv).setCell ⟨B, 12, none⟩ (.string a.s)).setCell ⟨B + 1, 0, none⟩ (.bool true)

theorem rewr_kp (B : Nat) (a : Pa.Ac) (fv : Value) (w : World) : Kp (fun k => k = B ∨ k = B + 1) w (rewr B a fv w) := by
  unfold rewr
  iterate 14 refine Kp.setCell ?_ (by simp) _
  exact Kp.refl _ _

theorem RowAt.rewr {B : Nat} {a : Pa.Ac} {fv : Value} {b : Bool} {w : World} (hc : RowAt B (acCells a fv) w) (hb : RowAt (B + 1) [.bool b] w) : RowAt B (acCells a fv) (rewr B a fv w) ∧ RowAt (B + 1) [.bool true] (rewr B a fv w) := by
  have h13 := ((((((((((((hc.set 0 (by simp [acCells]) (.int .i64 a.kind)).set 1 (by simp [acCells]) (.int .i64 a.host)).set 2 (by simp [acCells]) (.int .i64 a.call.kind)).set 3 (by simp [acCells]) (.int .i64 a.call.sock)).set 4 (by simp [acCells]) (.int .i64 a.call.addr)).set 5 (by simp [acCells]) (.int .i64 a.call.port)).set 6 (by simp [acCells]) (.int .i64 a.call.n)).set 7 (by simp [acCells]) (.string a.call.s)).set 8 (by simp [acCells]) (.int .i64 a.call.here)).set 9 (by simp [acCells]) (.int .i64 a.call.mss)).set 10 (by simp [acCells]) (.int .i64 a.n)).set 11 (by simp [acCells]) fv).set 12 (by simp [acCells]) (.string a.s)
  refine ⟨h13.kp (Kp.set _ (B + 1) 0 (.bool true)) (by show ¬ B = B + 1; omega), ?_⟩
  have k13 : Kp (· = B) w ((((((((((((w.setCell ⟨B, 0, none⟩ (.int .i64 a.kind)).setCell ⟨B, 1, none⟩ (.int .i64 a.host)).setCell ⟨B, 2, none⟩ (.int .i64 a.call.kind)).setCell ⟨B, 3, none⟩ (.int .i64 a.call.sock)).setCell ⟨B, 4, none⟩ (.int .i64 a.call.addr)).setCell ⟨B, 5, none⟩ (.int .i64 a.call.port)).setCell ⟨B, 6, none⟩ (.int .i64 a.call.n)).setCell ⟨B, 7, none⟩ (.string a.call.s)).setCell ⟨B, 8, none⟩ (.int .i64 a.call.here)).setCell ⟨B, 9, none⟩ (.int .i64 a.call.mss)).setCell ⟨B, 10, none⟩ (.int .i64 a.n)).setCell ⟨B, 11, none⟩ fv |>.setCell ⟨B, 12, none⟩ (.string a.s)) := by
    iterate 13 refine Kp.setCell ?_ (by simp) _
    exact Kp.refl _ _
  exact (hb.kp k13 (by show ¬ B + 1 = B; omega)).set 0 (by simp) (.bool true)

theorem bytes_two (y x : Pa.Bs) (h : y ≠ x) : ¬ (⟨y.toArray⟩ : ByteArray).toList = (⟨x.toArray⟩ : ByteArray).toList := by
  rw [ByteArray.toList_eq, ByteArray.toList_eq]; simpa using h

theorem Pa.parse_not {x : Pa.Bs} {a : Pa.Ac} (h : Pa.rawP x = some a) (hn : ¬ (Pa.okA a = true ∧ Pa.lineA a = x)) : Pa.parseLine x = none := by
  unfold Pa.parseLine
  rw [h]
  simp only [Option.filter, Bool.and_eq_true, decide_eq_true_eq]
  rw [if_neg hn]
theorem Pa.parse_none {x : Pa.Bs} (h : Pa.rawP x = none) : Pa.parseLine x = none := by unfold Pa.parseLine; rw [h]; rfl
theorem Pa.rawP_at {x : Pa.Bs} {v : Pa.Bs} {r : List Pa.Bs} (hx : x.length ≤ 8000) (hs : Pa.splitC 32 x = v :: r) : Pa.rawP x =
    if v = Pa.w_call then (Pa.rdNum r).bind fun (h, r) => (Pa.rdCall r).map fun (c, _) => { Pa.a0 with kind := 1, host := h, call := c }
    else if v = Pa.w_tick then (Pa.rdNum r).map fun (n, _) => { Pa.a0 with kind := 2, n := n }
    else if v = Pa.w_fates then (Pa.rdFates r).map fun l => { Pa.a0 with kind := 3, fates := l }
    else if v = Pa.w_frame then (Pa.rdNum r).bind fun (n, r) => (Pa.rdBytes r).map fun (s, _) => { Pa.a0 with kind := 4, n := n, s := ⟨s.toArray⟩ }
    else some Pa.a0 := by
  unfold Pa.rawP
  rw [if_neg (by omega), hs]
  rfl

end Go.Proofs.YtgajoiijebbagaaGreatDoor
