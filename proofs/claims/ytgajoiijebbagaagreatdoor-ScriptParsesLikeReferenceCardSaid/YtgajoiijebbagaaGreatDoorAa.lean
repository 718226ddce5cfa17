/-
  The walk of the script's action: its parts, tick and frame. Conditions: the library's variables read as laid.
-/
import Derived.Test.YtgajoiijebbagaaGreatDoorRc
import Derived.Test.YtgajoiijebbagaaGreatDoorLn
import Derived.Recover
/-! script.action's deferred function, and what happens at the function's end: behind a panic of a reader the results are wiped; behind a return they stand. Conditions: as each says. -/
namespace Go.Proofs.YtgajoiijebbagaaGreatDoor
open Go.RowKit Go.Proofs

def acCells (a : Pa.Ac) (fv : Value) : List Value := [.int .i64 a.kind, .int .i64 a.host, .int .i64 a.call.kind, .int .i64 a.call.sock, .int .i64 a.call.addr, .int .i64 a.call.port, .int .i64 a.call.n, .string a.call.s, .int .i64 a.call.here, .int .i64 a.call.mss, .int .i64 a.n, fv, .string a.s]

/-- The results wiped. -/
def wipe (B : Nat) (w : World) : World :=
  (((((((((((((w.setCell ⟨B, 0, none⟩ (.int .i64 0)).setCell ⟨B, 1, none⟩ (.int .i64 0)).setCell ⟨B, 2, none⟩ (.int .i64 0)).setCell ⟨B, 3, none⟩ (.int .i64 0)).setCell ⟨B, 4, none⟩ (.int .i64 0)).setCell ⟨B, 5, none⟩ (.int .i64 0)).setCell ⟨B, 6, none⟩ (.int .i64 0)).setCell ⟨B, 7, none⟩ (.string ⟨#[]⟩)).setCell ⟨B, 8, none⟩ (.int .i64 0)).setCell ⟨B, 9, none⟩ (.int .i64 0)).setCell ⟨B, 10, none⟩ (.int .i64 0)).setCell ⟨B, 11, none⟩ (.slice none 0 0)).setCell ⟨B, 12, none⟩ (.string ⟨#[]⟩)).setCell ⟨B + 1, 0, none⟩ (.bool false)

set_option maxHeartbeats 1000000 in
theorem catch_panicking (B : Nat) (cs : List Value) (b : Bool) (u : TypeId) (pv : Value) (older : List PanicEntry) (w : World) (hl : cs.length = 13) (hc : RowAt B cs w) (hb : RowAt (B + 1) [.bool b] w) :
    CallsD Tryz.prog 57 #[.pointer (some ⟨B, 0, none⟩), .pointer (some ⟨B + 1, 0, none⟩)] (.panicking ({ v := .iface u pv, recovered := false } :: older)) w fun e u' w' =>
      e = .returned (.tuple #[]) ∧ u' = .panicking ({ v := .iface u pv, recovered := true } :: older) ∧ w' = wipe B w := by
  obtain ⟨v0, v1, v2, v3, v4, v5, v6, v7, v8, v9, v10, v11, v12, rfl⟩ : ∃ v0 v1 v2 v3 v4 v5 v6 v7 v8 v9 v10 v11 v12, cs = [v0, v1, v2, v3, v4, v5, v6, v7, v8, v9, v10, v11, v12] := by
    match cs, hl with
    | [v0, v1, v2, v3, v4, v5, v6, v7, v8, v9, v10, v11, v12], _ => exact ⟨_, _, _, _, _, _, _, _, _, _, _, _, _, rfl⟩
  have ⟨e0, f0⟩ := hc.2 0 _ rfl
  have ⟨e1, f1⟩ := hc.2 1 _ rfl
  have ⟨e2, f2⟩ := hc.2 2 _ rfl
  have ⟨e3, f3⟩ := hc.2 3 _ rfl
  have ⟨e4, f4⟩ := hc.2 4 _ rfl
  have ⟨e5, f5⟩ := hc.2 5 _ rfl
  have ⟨e6, f6⟩ := hc.2 6 _ rfl
  have ⟨e7, f7⟩ := hc.2 7 _ rfl
  have ⟨e8, f8⟩ := hc.2 8 _ rfl
  have ⟨e9, f9⟩ := hc.2 9 _ rfl
  have ⟨e10, f10⟩ := hc.2 10 _ rfl
  have ⟨e11, f11⟩ := hc.2 11 _ rfl
  have ⟨e12, f12⟩ := hc.2 12 _ rfl
  have ⟨g0, k0⟩ := hb.2 0 _ rfl
  refine callsD_of_wpS Tryz.func57 rfl fun c₀ cs hu => ?_
  apply wpS_seq
  apply wpS_region
  simp [wpOpsS, go_sem, recoverD, hu, Tryz.ntmps57, Exit.thenS]
  refine wpS_cond (t := true) (by simp [Act.eval, Array.replicate]) ?_
  simp only [if_true]
  refine wpS_of_wp ?_
  show Code.wp _ _ _ { tmps := #[.pointer (some ⟨B, 0, none⟩), .pointer (some ⟨B + 1, 0, none⟩), .iface u pv, .bool true, undef], defers := [] } _
  go_wp2
  simp [bodyPostS, results, Tryz.results57, wipe]

theorem catch_idle (B : Nat) (w : World) :
    CallsD Tryz.prog 57 #[.pointer (some ⟨B, 0, none⟩), .pointer (some ⟨B + 1, 0, none⟩)] .returning w fun e u' w' => e = .returned (.tuple #[]) ∧ u' = .returning ∧ w' = w := by
  refine callsD_of_wpS Tryz.func57 rfl fun c₀ cs hu => ?_
  apply wpS_seq
  apply wpS_region
  simp [wpOpsS, go_sem, recoverD, hu, Tryz.ntmps57, Exit.thenS]
  refine wpS_cond (t := false) (by simp [Act.eval, Array.replicate]) ?_
  simp only [Bool.false_eq_true, if_false]
  refine wpS_of_wp (wp_skip ?_)
  cases c₀
  simp_all [bodyPostS, results, Tryz.results57]

theorem RowAt.wipe {B : Nat} {cs : List Value} {b : Bool} {w : World} (hl : cs.length = 13) (hc : RowAt B cs w) (hb : RowAt (B + 1) [.bool b] w) : RowAt B (acCells Pa.a0 (.slice none 0 0)) (wipe B w) ∧ RowAt (B + 1) [.bool false] (wipe B w) := by
  obtain ⟨v0, v1, v2, v3, v4, v5, v6, v7, v8, v9, v10, v11, v12, rfl⟩ : ∃ v0 v1 v2 v3 v4 v5 v6 v7 v8 v9 v10 v11 v12, cs = [v0, v1, v2, v3, v4, v5, v6, v7, v8, v9, v10, v11, v12] := by
    match cs, hl with
    | [v0, v1, v2, v3, v4, v5, v6, v7, v8, v9, v10, v11, v12], _ => exact ⟨_, _, _, _, _, _, _, _, _, _, _, _, _, rfl⟩
  have h13 := ((((((((((((hc.set 0 (by simp) (.int .i64 0)).set 1 (by simp) (.int .i64 0)).set 2 (by simp) (.int .i64 0)).set 3 (by simp) (.int .i64 0)).set 4 (by simp) (.int .i64 0)).set 5 (by simp) (.int .i64 0)).set 6 (by simp) (.int .i64 0)).set 7 (by simp) (.string ⟨#[]⟩)).set 8 (by simp) (.int .i64 0)).set 9 (by simp) (.int .i64 0)).set 10 (by simp) (.int .i64 0)).set 11 (by simp) (.slice none 0 0)).set 12 (by simp) (.string ⟨#[]⟩)
  have k13 : Kp (· = B) w _ := Kp.setCell (S := (· = B)) (Kp.setCell (S := (· = B)) (Kp.setCell (S := (· = B)) (Kp.setCell (S := (· = B)) (Kp.setCell (S := (· = B)) (Kp.setCell (S := (· = B)) (Kp.setCell (S := (· = B)) (Kp.setCell (S := (· = B)) (Kp.setCell (S := (· = B)) (Kp.setCell (S := (· = B)) (Kp.setCell (S := (· = B)) (Kp.setCell (S := (· = B)) (Kp.setCell (S := (· = B)) (Kp.refl (· = B) w) (p := ⟨B, 0, none⟩) (Or.inl (show B = B from rfl)) (.int .i64 0)) (p := ⟨B, 1, none⟩) (Or.inl (show B = B from rfl)) (.int .i64 0)) (p := ⟨B, 2, none⟩) (Or.inl (show B = B from rfl)) (.int .i64 0)) (p := ⟨B, 3, none⟩) (Or.inl (show B = B from rfl)) (.int .i64 0)) (p := ⟨B, 4, none⟩) (Or.inl (show B = B from rfl)) (.int .i64 0)) (p := ⟨B, 5, none⟩) (Or.inl (show B = B from rfl)) (.int .i64 0)) (p := ⟨B, 6, none⟩) (Or.inl (show B = B from rfl)) (.int .i64 0)) (p := ⟨B, 7, none⟩) (Or.inl (show B = B from rfl)) (.string ⟨#[]⟩)) (p := ⟨B, 8, none⟩) (Or.inl (show B = B from rfl)) (.int .i64 0)) (p := ⟨B, 9, none⟩) (Or.inl (show B = B from rfl)) (.int .i64 0)) (p := ⟨B, 10, none⟩) (Or.inl (show B = B from rfl)) (.int .i64 0)) (p := ⟨B, 11, none⟩) (Or.inl (show B = B from rfl)) (.slice none 0 0)) (p := ⟨B, 12, none⟩) (Or.inl (show B = B from rfl)) (.string ⟨#[]⟩)
  refine ⟨h13.kp (Kp.set _ (B + 1) 0 (.bool false)) (by show ¬ B = B + 1; omega), ?_⟩
  exact (hb.kp k13 (by show ¬ B + 1 = B; omega)).set 0 (by simp) (.bool false)

theorem below_wipe {B : Nat} {w w' : World} (h : Below B w w') : Below B w (wipe B w') := by
  unfold wipe
  iterate 14 refine Below.setCell ?_ (by simp) _
  exact h

/-- What script.action ends in. -/
def AOut (x : Pa.Bs) (w : World) (e : Ending) (w' : World) : Prop :=
  match Pa.parseLine x with
  | some a => ∃ fv, e = .returned (.tuple #[acV a fv, .bool true]) ∧ Fs w' fv a.fates ∧ (∀ b, fv.ownBlock = some b → w.heap.size ≤ b) ∧ Below w.heap.size w w'
  | none => e = .returned (.tuple #[acV Pa.a0 (.slice none 0 0), .bool false]) ∧ Below w.heap.size w w'
theorem AOut.yes {x : Pa.Bs} {a : Pa.Ac} {w : World} {e : Ending} {w' : World} (hr : Pa.parseLine x = some a) (h : ∃ fv, e = .returned (.tuple #[acV a fv, .bool true]) ∧ Fs w' fv a.fates ∧ (∀ b, fv.ownBlock = some b → w.heap.size ≤ b) ∧ Below w.heap.size w w') : AOut x w e w' := by
  unfold AOut; rw [hr]; exact h
theorem AOut.no {x : Pa.Bs} {w : World} {e : Ending} {w' : World} (hr : Pa.parseLine x = none) (h : e = .returned (.tuple #[acV Pa.a0 (.slice none 0 0), .bool false]) ∧ Below w.heap.size w w') : AOut x w e w' := by
  unfold AOut; rw [hr]; exact h

/-- At the door behind a panic of a reader. -/
theorem door_bad {x : Pa.Bs} {w W : World} {tmps : Array Value} {cs : List Value} {b : Bool} (hr : Pa.parseLine x = none) (h2 : tmps[2]? = some (.pointer (some ⟨w.heap.size, 0, none⟩))) (h3 : tmps[3]? = some (.pointer (some ⟨w.heap.size + 1, 0, none⟩)))
    (hl : cs.length = 13) (hc : RowAt w.heap.size cs W) (hb : RowAt (w.heap.size + 1) [.bool b] W) (hB : Below w.heap.size w W) :
    bodyPostD Tryz.prog Tryz.f39 (AOut x w) (.panic badP) { tmps := tmps, defers := [{ target := .fn (.func 57) #[.pointer (some ⟨w.heap.size, 0, none⟩), .pointer (some ⟨w.heap.size + 1, 0, none⟩)], args := #[] }] } W := by
  refine leaves_cons (f := 57) (args := #[.pointer (some ⟨w.heap.size, 0, none⟩), .pointer (some ⟨w.heap.size + 1, 0, none⟩)]) (by simp) (by simp [go_sem]) ?_
  refine (catch_panicking w.heap.size cs b _ _ [] _ hl hc hb).mono ?_
  rintro e u' w'' ⟨rfl, rfl, rfl⟩
  obtain ⟨q1, q2⟩ := RowAt.wipe hl hc hb
  have hBw := below_wipe hB
  generalize wipe w.heap.size W = V at q1 q2 hBw
  have e0 := (q1.2 0 _ rfl).1
  have e1 := (q1.2 1 _ rfl).1
  have e2 := (q1.2 2 _ rfl).1
  have e3 := (q1.2 3 _ rfl).1
  have e4 := (q1.2 4 _ rfl).1
  have e5 := (q1.2 5 _ rfl).1
  have e6 := (q1.2 6 _ rfl).1
  have e7 := (q1.2 7 _ rfl).1
  have e8 := (q1.2 8 _ rfl).1
  have e9 := (q1.2 9 _ rfl).1
  have e10 := (q1.2 10 _ rfl).1
  have e11 := (q1.2 11 _ rfl).1
  have e12 := (q1.2 12 _ rfl).1
  have e13 := (q2.2 0 _ rfl).1
  simp [Leaves, settle, results, Tryz.results39, go_sem, h2, h3, e0, e1, e2, e3, e4, e5, e6, e7, e8, e9, e10, e11, e12, e13]
  exact AOut.no hr ⟨rfl, hBw⟩

/-- At the door behind a return. -/
theorem door_good {x : Pa.Bs} {a : Pa.Ac} {fv : Value} {w W : World} {tmps : Array Value} (hr : Pa.parseLine x = some a) (h2 : tmps[2]? = some (.pointer (some ⟨w.heap.size, 0, none⟩))) (h3 : tmps[3]? = some (.pointer (some ⟨w.heap.size + 1, 0, none⟩)))
    (q1 : RowAt w.heap.size (acCells a fv) W) (q2 : RowAt (w.heap.size + 1) [.bool true] W) (hf : Fs W fv a.fates) (hfr : ∀ b, fv.ownBlock = some b → w.heap.size ≤ b) (hB : Below w.heap.size w W) :
    bodyPostD Tryz.prog Tryz.f39 (AOut x w) .ret { tmps := tmps, defers := [{ target := .fn (.func 57) #[.pointer (some ⟨w.heap.size, 0, none⟩), .pointer (some ⟨w.heap.size + 1, 0, none⟩)], args := #[] }] } W := by
  refine leaves_cons (f := 57) (args := #[.pointer (some ⟨w.heap.size, 0, none⟩), .pointer (some ⟨w.heap.size + 1, 0, none⟩)]) (by simp) (by simp [go_sem]) ?_
  refine (catch_idle w.heap.size _).mono ?_
  rintro e u' w'' ⟨rfl, rfl, rfl⟩
  have e0 := (q1.2 0 _ rfl).1
  have e1 := (q1.2 1 _ rfl).1
  have e2 := (q1.2 2 _ rfl).1
  have e3 := (q1.2 3 _ rfl).1
  have e4 := (q1.2 4 _ rfl).1
  have e5 := (q1.2 5 _ rfl).1
  have e6 := (q1.2 6 _ rfl).1
  have e7 := (q1.2 7 _ rfl).1
  have e8 := (q1.2 8 _ rfl).1
  have e9 := (q1.2 9 _ rfl).1
  have e10 := (q1.2 10 _ rfl).1
  have e11 := (q1.2 11 _ rfl).1
  have e12 := (q1.2 12 _ rfl).1
  have e13 := (q2.2 0 _ rfl).1
  simp [Leaves, settle, results, Tryz.results39, go_sem, h2, h3, e0, e1, e2, e3, e4, e5, e6, e7, e8, e9, e10, e11, e12, e13]
  exact AOut.yes hr ⟨fv, rfl, hf, hfr, hB⟩

end Go.Proofs.YtgajoiijebbagaaGreatDoor

/-! The walk of script.action, way by way. Conditions: the text is at most a million bytes long; the library's variables read as laid. -/
namespace Go.Proofs.YtgajoiijebbagaaGreatDoor
open Go.RowKit Go.Proofs

theorem Pa.split_len (c : UInt8) : ∀ x : Pa.Bs, (Pa.splitC c x).length ≤ x.length + 1 ∧ ∀ y ∈ Pa.splitC c x, y.length ≤ x.length
  | [] => by simp [Pa.splitC]
  | b :: r => by
    obtain ⟨h1, h2⟩ := Pa.split_len c r
    rw [Pa.splitC]
    split
    · refine ⟨by simp; omega, fun y hy => ?_⟩
      rcases List.mem_cons.1 hy with rfl | hy
      · simp
      · have := h2 y hy; simp; omega
    · cases hs : Pa.splitC c r with
      | nil => exact absurd hs (Pa.splitC_ne c r)
      | cons v vs =>
        rw [hs] at h1 h2
        simp only [Pa.glue, List.length_cons] at h1 ⊢
        refine ⟨by omega, fun y hy => ?_⟩
        rcases List.mem_cons.1 hy with rfl | hy
        · have := h2 v (by simp); simp; omega
        · have := h2 y (by simp [hy]); omega

theorem act_alloc (w : World) : RowAt w.heap.size (acCells Pa.a0 (.slice none 0 0)) ((w.alloc (.cells #[.int .i64 0, .int .i64 0, .int .i64 0, .int .i64 0, .int .i64 0, .int .i64 0, .int .i64 0, .string ⟨#[]⟩, .int .i64 0, .int .i64 0, .int .i64 0, .slice none 0 0, .string ⟨#[]⟩] 27)).alloc (.cells #[.bool false] 4)) ∧
    RowAt (w.heap.size + 1) [.bool false] ((w.alloc (.cells #[.int .i64 0, .int .i64 0, .int .i64 0, .int .i64 0, .int .i64 0, .int .i64 0, .int .i64 0, .string ⟨#[]⟩, .int .i64 0, .int .i64 0, .int .i64 0, .slice none 0 0, .string ⟨#[]⟩] 27)).alloc (.cells #[.bool false] 4)) := by
  refine ⟨(RowAt.new w #[.int .i64 0, .int .i64 0, .int .i64 0, .int .i64 0, .int .i64 0, .int .i64 0, .int .i64 0, .string ⟨#[]⟩, .int .i64 0, .int .i64 0, .int .i64 0, .slice none 0 0, .string ⟨#[]⟩] 27).below ((Below.refl _ _).alloc (Nat.le_refl _) _), ?_⟩
  have := RowAt.new (w.alloc (.cells #[.int .i64 0, .int .i64 0, .int .i64 0, .int .i64 0, .int .i64 0, .int .i64 0, .int .i64 0, .string ⟨#[]⟩, .int .i64 0, .int .i64 0, .int .i64 0, .slice none 0 0, .string ⟨#[]⟩] 27)) #[.bool false] 4
  rw [World.size_alloc] at this
  exact this

theorem act_long (x : Pa.Bs) (w : World) (hx : x.length ≤ 1000000000) (hl : 8000 < x.length) : Calls Tryz.prog 39 #[.string ⟨x.toArray⟩] w (AOut x w) := by
  have hr : Pa.parseLine x = none := by
    unfold Pa.parseLine Pa.rawP; rw [if_pos hl]; rfl
  have HR := Lib.hid hr; clear hr
  obtain ⟨t, ht⟩ : ∃ t : ByteArray, t = ⟨x.toArray⟩ := ⟨_, rfl⟩
  have hsz : 8000 < (t.size : Int) := by rw [ht]; simp [ByteArray.size]; omega
  rw [← ht]; clear ht
  have hmf : ∀ (fn : Fn) (first cap : Array Value) (w : World), (Instr.makeFunc fn first cap).run Tryz.prog w = .ok (.func fn first cap) w := fun _ _ _ _ => rfl
  go_enter_defers Tryz.func39, Tryz.ntmps39
  go_wp2
  exact door_bad HR.out rfl rfl rfl (act_alloc w).1 (act_alloc w).2 (((Below.refl _ _).alloc (Nat.le_refl _) _).alloc (by simp) _)

theorem Pa.split_eq (c : UInt8) : ∀ (n : Nat) (l : Pa.Bs), l.length ≤ n → Lib.count l [c] + 1 = (Pa.splitC c l).length ∧ Lib.splitK [c] 0 (Lib.count l [c]) l = Pa.splitC c l := by
  intro n
  induction n with
  | zero =>
    intro l hl
    obtain rfl := List.length_eq_zero_iff.1 (Nat.le_zero.1 hl)
    rcases Pa.index_cases [] c with ⟨hi, _⟩ | ⟨i, _, hi, _⟩
    · rw [Lib.count_miss hi]; exact ⟨rfl, rfl⟩
    · simp at hi
  | succ n ih =>
    intro l hl
    rcases Pa.index_cases l c with ⟨hi, hn⟩ | ⟨i, hi, hil, hc, hn⟩
    · rw [Lib.count_miss hi, Pa.splitC_none c l hn]; exact ⟨rfl, rfl⟩
    · have e : Pa.splitC c l = l.take i :: Pa.splitC c (l.drop (i + 1)) := by
        conv => lhs; rw [Pa.split_at l c i hc, Pa.splitC_append c _ _ hn]
      obtain ⟨h1, h2⟩ := ih (l.drop (i + 1)) (by simp; omega)
      have hne : ¬ (Lib.index l [c] == -1) = true := by rw [hi]; simp
      rw [Lib.count_hit (by simp) hi, e, Nat.add_comm 1 (Lib.count _ _), Lib.splitK, if_neg hne, hi]
      simp only [List.length_cons, List.length_nil, Int.toNat_natCast, Nat.add_zero, Nat.zero_add]
      exact ⟨by rw [h1], by rw [h2]⟩

/-- strings.Split at a space. -/
theorem split_any (x : Pa.Bs) (w : World) (ok : Ok w) (hx : x.length ≤ 1000000) :
    Calls Tryz.prog 58 #[.string ⟨x.toArray⟩, .string ⟨#[32]⟩] w fun e w' => e = .returned (.slice (some ⟨w.heap.size, 0, none⟩) (Pa.splitC 32 x).length (Pa.splitC 32 x).length) ∧ w' = w.alloc (.cells ((Pa.splitC 32 x).map strV).toArray 9) := by
  obtain ⟨_, ⟨m, hm⟩, _⟩ := ok
  have := Tryz.strings_Split ⟨x.toArray⟩ ⟨#[32]⟩ m w (by simp [ByteArray.size]; omega) hm (by decide)
  obtain ⟨h1, h2⟩ := Pa.split_eq 32 x.length x (Nat.le_refl _)
  have hcnt : Lib.countB ⟨x.toArray⟩ ⟨#[32]⟩ = Lib.count x [32] := rfl
  have hdat := Lib.splitB_data ⟨#[32]⟩ 0 (Lib.count x [32]) ⟨x.toArray⟩
  have hcells : (Lib.splitB ⟨#[32]⟩ 0 (Lib.count x [32]) ⟨x.toArray⟩).map Value.string = (Pa.splitC 32 x).map strV := by
    have e : Pa.splitC 32 x = (Lib.splitB ⟨#[32]⟩ 0 (Lib.count x [32]) ⟨x.toArray⟩).map (·.data.toList) := by rw [hdat]; exact h2.symm
    rw [e, List.map_map]
    apply List.map_congr_left
    intro t _
    simp [strV]
  rw [hcnt, hcells, h1] at this
  exact this

/-- The reader that stands behind the split. -/
theorem StR.start (x : Pa.Bs) (u : World) (hx : x.length ≤ 8000) (h4 : 4 ≤ u.heap.size) :
    StR (u.heap.size + 1) u.heap.size (Pa.splitC 32 x) ((u.alloc (.cells ((Pa.splitC 32 x).map strV).toArray 9)).alloc (.cells #[.slice (some ⟨u.heap.size, 0, none⟩) (Pa.splitC 32 x).length (Pa.splitC 32 x).length] 93)) := by
  have hr := RowAt.new (u.alloc (.cells ((Pa.splitC 32 x).map strV).toArray 9)) #[.slice (some ⟨u.heap.size, 0, none⟩) (Pa.splitC 32 x).length (Pa.splitC 32 x).length] 93
  rw [World.size_alloc] at hr
  have h0 := hr.2 0 _ rfl
  obtain ⟨h1, h2⟩ := Pa.split_len 32 x
  refine ⟨by omega, by simp, by simp; omega, by omega, h0.2, 0, _, h0.1, Nat.le_refl _, ⟨by omega, fun y hy => Nat.le_trans (h2 y hy) (by omega)⟩, fun j hj => ?_⟩
  rw [Nat.zero_add]
  refine cell_old _ (by simp) ?_
  rw [World.cell?_alloc_at _ _ _ _ rfl]
  simp [hj, strV]

end Go.Proofs.YtgajoiijebbagaaGreatDoor

/-! The walk of script.action, way by way. Conditions: the text is at most 8000 bytes long; the library's variables read as laid. -/
namespace Go.Proofs.YtgajoiijebbagaaGreatDoor
open Go.RowKit Go.Proofs

/-- The results written once more, and 'ok' set. -/
def rewr (B : Nat) (a : Pa.Ac) (fv : Value) (w : World) : World :=
  (((((((((((((w.setCell ⟨B, 0, none⟩ (.int .i64 a.kind)).setCell ⟨B, 1, none⟩ (.int .i64 a.host)).setCell ⟨B, 2, none⟩ (.int .i64 a.call.kind)).setCell ⟨B, 3, none⟩ (.int .i64 a.call.sock)).setCell ⟨B, 4, none⟩ (.int .i64 a.call.addr)).setCell ⟨B, 5, none⟩ (.int .i64 a.call.port)).setCell ⟨B, 6, none⟩ (.int .i64 a.call.n)).setCell ⟨B, 7, none⟩ (.string a.call.s)).setCell ⟨B, 8, none⟩ (.int .i64 a.call.here)).setCell ⟨B, 9, none⟩ (.int .i64 a.call.mss)).setCell ⟨B, 10, none⟩ (.int .i64 a.n)).setCell ⟨B, 11, none⟩ fv).setCell ⟨B, 12, none⟩ (.string a.s)).setCell ⟨B + 1, 0, none⟩ (.bool true)

theorem rewr_kp (B : Nat) (a : Pa.Ac) (fv : Value) (w : World) : Kp (fun k => k = B ∨ k = B + 1) w (rewr B a fv w) := by
  unfold rewr
  iterate 14 refine Kp.setCell ?_ (by simp) _
  exact Kp.refl _ _

theorem RowAt.rewr {B : Nat} {a : Pa.Ac} {fv : Value} {b : Bool} {w : World} (hc : RowAt B (acCells a fv) w) (hb : RowAt (B + 1) [.bool b] w) : RowAt B (acCells a fv) (rewr B a fv w) ∧ RowAt (B + 1) [.bool true] (rewr B a fv w) := by
  have h13 := ((((((((((((hc.set 0 (by simp [acCells]) (.int .i64 a.kind)).set 1 (by simp [acCells]) (.int .i64 a.host)).set 2 (by simp [acCells]) (.int .i64 a.call.kind)).set 3 (by simp [acCells]) (.int .i64 a.call.sock)).set 4 (by simp [acCells]) (.int .i64 a.call.addr)).set 5 (by simp [acCells]) (.int .i64 a.call.port)).set 6 (by simp [acCells]) (.int .i64 a.call.n)).set 7 (by simp [acCells]) (.string a.call.s)).set 8 (by simp [acCells]) (.int .i64 a.call.here)).set 9 (by simp [acCells]) (.int .i64 a.call.mss)).set 10 (by simp [acCells]) (.int .i64 a.n)).set 11 (by simp [acCells]) fv).set 12 (by simp [acCells]) (.string a.s)
  refine ⟨h13.kp (Kp.set _ (B + 1) 0 (.bool true)) (by show ¬ B = B + 1; omega), ?_⟩
  have k13 : Kp (· = B) w ((((((((((((w.setCell ⟨B, 0, none⟩ (.int .i64 a.kind)).setCell ⟨B, 1, none⟩ (.int .i64 a.host)).setCell ⟨B, 2, none⟩ (.int .i64 a.call.kind)).setCell ⟨B, 3, none⟩ (.int .i64 a.call.sock)).setCell ⟨B, 4, none⟩ (.int .i64 a.call.addr)).setCell ⟨B, 5, none⟩ (.int .i64 a.call.port)).setCell ⟨B, 6, none⟩ (.int .i64 a.call.n)).setCell ⟨B, 7, none⟩ (.string a.call.s)).setCell ⟨B, 8, none⟩ (.int .i64 a.call.here)).setCell ⟨B, 9, none⟩ (.int .i64 a.call.mss)).setCell ⟨B, 10, none⟩ (.int .i64 a.n)).setCell ⟨B, 11, none⟩ fv |>.setCell ⟨B, 12, none⟩ (.string a.s)) := by
    iterate 13 refine Kp.setCell ?_ (by simp) _
    exact Kp.refl _ _
  exact (hb.kp k13 (by show ¬ B + 1 = B; omega)).set 0 (by simp) (.bool true)

theorem bytes_two (y x : Pa.Bs) (h : y ≠ x) : ¬ (⟨y.toArray⟩ : ByteArray).toList = (⟨x.toArray⟩ : ByteArray).toList := by
  rw [ByteArray.toList_eq, ByteArray.toList_eq]; simpa using h

theorem Pa.parse_not {x : Pa.Bs} {a : Pa.Ac} (h : Pa.rawP x = some a) (hn : ¬ (Pa.okA a = true ∧ Pa.lineA a = x)) : Pa.parseLine x = none := by
  unfold Pa.parseLine
  rw [h]
  simp only [Option.filter, Bool.and_eq_true, decide_eq_true_eq]
  rw [if_neg hn]
theorem Pa.parse_none {x : Pa.Bs} (h : Pa.rawP x = none) : Pa.parseLine x = none := by unfold Pa.parseLine; rw [h]; rfl
theorem Pa.rawP_at {x : Pa.Bs} {v : Pa.Bs} {r : List Pa.Bs} (hx : x.length ≤ 8000) (hs : Pa.splitC 32 x = v :: r) : Pa.rawP x =
    if v = Pa.w_call then (Pa.rdNum r).bind fun (h, r) => (Pa.rdCall r).map fun (c, _) => { Pa.a0 with kind := 1, host := h, call := c }
    else if v = Pa.w_tick then (Pa.rdNum r).map fun (n, _) => { Pa.a0 with kind := 2, n := n }
    else if v = Pa.w_fates then (Pa.rdFates r).map fun l => { Pa.a0 with kind := 3, fates := l }
    else if v = Pa.w_frame then (Pa.rdNum r).bind fun (n, r) => (Pa.rdBytes r).map fun (s, _) => { Pa.a0 with kind := 4, n := n, s := ⟨s.toArray⟩ }
    else some Pa.a0 := by
  unfold Pa.rawP
  rw [if_neg (by omega), hs]
  rfl

end Go.Proofs.YtgajoiijebbagaaGreatDoor

/-! The walk of script.action, way 'tick'. Conditions: the text is at most 8000 bytes long; the library's variables read as laid. -/
namespace Go.Proofs.YtgajoiijebbagaaGreatDoor
open Go.RowKit Go.Proofs

set_option maxRecDepth 100000 in
set_option maxHeartbeats 4000000 in
theorem act_tick (x : Pa.Bs) (r : List Pa.Bs) (w : World) (ok : Ok w) (hx : x.length ≤ 8000) (hs : Pa.splitC 32 x = Pa.w_tick :: r) : Calls Tryz.prog 39 #[.string ⟨x.toArray⟩] w (AOut x w) := by
  have hraw := Pa.rawP_at hx hs
  rw [if_neg (by decide), if_pos rfl] at hraw
  have hsp := fun u ok => split_any x u ok (by omega)
  have hst := StR.start x ((w.alloc (.cells #[.int .i64 0, .int .i64 0, .int .i64 0, .int .i64 0, .int .i64 0, .int .i64 0, .int .i64 0, .string ⟨#[]⟩, .int .i64 0, .int .i64 0, .int .i64 0, .slice none 0 0, .string ⟨#[]⟩] 27)).alloc (.cells #[.bool false] 4)) hx (by have := ok.1; simp; omega)
  rw [hs] at hsp hst
  clear hs
  simp only [World.size_alloc, List.map_cons, List.length_cons] at hst
  obtain ⟨t, ht⟩ : ∃ t : ByteArray, t = ⟨x.toArray⟩ := ⟨_, rfl⟩
  have hsz : ¬ 8000 < (t.size : Int) := by rw [ht]; simp [ByteArray.size]; omega
  rw [← ht] at hsp ⊢
  have HT := Lib.hid ht; clear ht
  have h4 := ok.1
  have hmf : ∀ (fn : Fn) (first cap : Array Value) (w : World), (Instr.makeFunc fn first cap).run Tryz.prog w = .ok (.func fn first cap) w := fun _ _ _ _ => rfl
  have hB0 : Below w.heap.size w ((w.alloc (.cells #[.int .i64 0, .int .i64 0, .int .i64 0, .int .i64 0, .int .i64 0, .int .i64 0, .int .i64 0, .string ⟨#[]⟩, .int .i64 0, .int .i64 0, .int .i64 0, .slice none 0 0, .string ⟨#[]⟩] 27)).alloc (.cells #[.bool false] 4)) := ((Below.refl _ _).alloc (Nat.le_refl _) _).alloc (by simp) _
  have q1 : RowAt w.heap.size (acCells ⟨0, 0, ⟨0, 0, 0, 0, 0, ⟨#[]⟩, 0, 0⟩, 0, [], ⟨#[]⟩⟩ (.slice none 0 0)) _ := (act_alloc w).1
  have q2 := (act_alloc w).2
  cases hr : Pa.rdNum r with
  | none =>
    have HR := Lib.hid (Pa.parse_none (x := x) (by rw [hraw, hr]; rfl))
    have HN := Lib.hid hr
    clear hr hraw
    go_enter_defers Tryz.func39, Tryz.ntmps39
    go_wp2_with fail
    refine (hsp _ (ok.below hB0)).mono ?_
    rintro e u ⟨rfl, rfl⟩
    go_wp2_with fail
    refine (word_some _ _ _ r _ hst).mono ?_
    rintro e w2 ⟨rfl, s2, k2⟩
    have hB2 : Below w.heap.size w w2 := Kp.up (below_on hB0 (((Below.refl _ _).alloc (Nat.le_refl _) _).alloc (by simp) _)) k2 (by simp; omega) (by intro k hk; show ¬ k = _; omega)
    have ok2 := ok.below hB2
    have p1 := (q1.below (((Below.refl _ _).alloc (Nat.le_refl _) _).alloc (by simp) _)).kp k2 (by show ¬ _ = _; omega)
    have p2 := (q2.below (((Below.refl _ _).alloc (Nat.le_refl _) _).alloc (by simp) _)).kp k2 (by show ¬ _ = _; omega)
    clear k2 q1 q2 hst hsp
    go_wp2_with fail
    refine (rnum_no _ _ r _ ok2 s2 HN.out).mono ?_
    rintro e w3 ⟨rfl, k3⟩
    have hB3 := Kp.up hB2 k3 (by have := hB2.size; omega) (by intro k hk; show ¬ k = _; omega)
    have r1 := p1.kp k3 (by show ¬ _ = _; omega)
    have r2 := p2.kp k3 (by show ¬ _ = _; omega)
    go_wp2
    exact door_bad HR.out rfl rfl rfl r1 r2 hB3
  | some p =>
    obtain ⟨n, r1⟩ := p
    have HA : Hid (Pa.rawP x = some ⟨2, 0, ⟨0, 0, 0, 0, 0, ⟨#[]⟩, 0, 0⟩, n, [], ⟨#[]⟩⟩) := by rw [Hid, hraw, hr]; rfl
    have HN := Lib.hid hr
    clear hr hraw
    go_enter_defers Tryz.func39, Tryz.ntmps39
    go_wp2_with fail
    refine (hsp _ (ok.below hB0)).mono ?_
    rintro e u ⟨rfl, rfl⟩
    go_wp2_with fail
    refine (word_some _ _ _ r _ hst).mono ?_
    rintro e w2 ⟨rfl, s2, k2⟩
    have hB2 : Below w.heap.size w w2 := Kp.up (below_on hB0 (((Below.refl _ _).alloc (Nat.le_refl _) _).alloc (by simp) _)) k2 (by simp; omega) (by intro k hk; show ¬ k = _; omega)
    have ok2 := ok.below hB2
    have p1 := (q1.below (((Below.refl _ _).alloc (Nat.le_refl _) _).alloc (by simp) _)).kp k2 (by show ¬ _ = _; omega)
    have p2 := (q2.below (((Below.refl _ _).alloc (Nat.le_refl _) _).alloc (by simp) _)).kp k2 (by show ¬ _ = _; omega)
    clear k2 q1 q2 hst hsp
    go_wp2_with fail
    refine (rnum_yes _ _ r n r1 _ s2 HN.out).mono ?_
    rintro e w3 ⟨rfl, s3, k3⟩
    have hB3 := Kp.up hB2 k3 (by have := hB2.size; omega) (by intro k hk; show ¬ k = _; omega)
    have p1_3 := p1.kp k3 (by show ¬ _ = _; omega)
    have p2_3 := p2.kp k3 (by show ¬ _ = _; omega)
    have ok3 := ok.below hB3
    clear k3 s2 p1 p2 hB2 ok2
    have ⟨c0, cf0⟩ := p1_3.2 0 _ rfl
    have ⟨c1, cf1⟩ := p1_3.2 1 _ rfl
    have ⟨c2, cf2⟩ := p1_3.2 2 _ rfl
    have ⟨c3, cf3⟩ := p1_3.2 3 _ rfl
    have ⟨c4, cf4⟩ := p1_3.2 4 _ rfl
    have ⟨c5, cf5⟩ := p1_3.2 5 _ rfl
    have ⟨c6, cf6⟩ := p1_3.2 6 _ rfl
    have ⟨c7, cf7⟩ := p1_3.2 7 _ rfl
    have ⟨c8, cf8⟩ := p1_3.2 8 _ rfl
    have ⟨c9, cf9⟩ := p1_3.2 9 _ rfl
    have ⟨c10, cf10⟩ := p1_3.2 10 _ rfl
    have ⟨c11, cf11⟩ := p1_3.2 11 _ rfl
    have ⟨c12, cf12⟩ := p1_3.2 12 _ rfl
    go_wp2_with fail
    have pV : RowAt w.heap.size (acCells ⟨2, 0, ⟨0, 0, 0, 0, 0, ⟨#[]⟩, 0, 0⟩, n, [], ⟨#[]⟩⟩ (.slice none 0 0)) ((w3.setCell ⟨w.heap.size, 0, none⟩ (.int .i64 2)).setCell ⟨w.heap.size, 10, none⟩ (.int .i64 n)) := ((p1_3.set 0 (by simp [acCells]) (.int .i64 2)).set 10 (by simp [acCells]) (.int .i64 n))
    have pW : RowAt (w.heap.size + 1) [.bool false] ((w3.setCell ⟨w.heap.size, 0, none⟩ (.int .i64 2)).setCell ⟨w.heap.size, 10, none⟩ (.int .i64 n)) := ((p2_3.kp (Kp.set _ w.heap.size 0 (.int .i64 2)) (by show ¬ _ = _; omega)).kp (Kp.set _ w.heap.size 10 (.int .i64 n)) (by show ¬ _ = _; omega))
    have hBV : Below w.heap.size w ((w3.setCell ⟨w.heap.size, 0, none⟩ (.int .i64 2)).setCell ⟨w.heap.size, 10, none⟩ (.int .i64 n)) := ((hB3.setCell (p := ⟨w.heap.size, 0, none⟩) (Nat.le_refl _) (.int .i64 2)).setCell (p := ⟨w.heap.size, 10, none⟩) (Nat.le_refl _) (.int .i64 n))
    refine (validAct_any ⟨2, 0, ⟨0, 0, 0, 0, 0, ⟨#[]⟩, 0, 0⟩, n, [], ⟨#[]⟩⟩ (.slice none 0 0) _ (ok.below hBV) name_any (Fs.nil _) (by simp)).mono ?_
    rintro e w8 ⟨rfl, hb8⟩
    have pX := pV.below hb8
    have pY := pW.below hb8
    have hBX := below_on hBV hb8
    clear c0 cf0 c1 cf1 c2 cf2 c3 cf3 c4 cf4 c5 cf5 c6 cf6 c7 cf7 c8 cf8 c9 cf9 c10 cf10 c11 cf11 c12 cf12
    clear pV pW hBV hb8
    have ⟨d0, df0⟩ := pX.2 0 _ rfl
    have ⟨d1, df1⟩ := pX.2 1 _ rfl
    have ⟨d2, df2⟩ := pX.2 2 _ rfl
    have ⟨d3, df3⟩ := pX.2 3 _ rfl
    have ⟨d4, df4⟩ := pX.2 4 _ rfl
    have ⟨d5, df5⟩ := pX.2 5 _ rfl
    have ⟨d6, df6⟩ := pX.2 6 _ rfl
    have ⟨d7, df7⟩ := pX.2 7 _ rfl
    have ⟨d8, df8⟩ := pX.2 8 _ rfl
    have ⟨d9, df9⟩ := pX.2 9 _ rfl
    have ⟨d10, df10⟩ := pX.2 10 _ rfl
    have ⟨d11, df11⟩ := pX.2 11 _ rfl
    have ⟨d12, df12⟩ := pX.2 12 _ rfl
    cases hok : Pa.okA ⟨2, 0, ⟨0, 0, 0, 0, 0, ⟨#[]⟩, 0, 0⟩, n, [], ⟨#[]⟩⟩ with
    | false =>
      have HR := Lib.hid (Pa.parse_not HA.out (by rw [hok]; simp))
      clear hok
      go_wp2
      exact door_bad HR.out rfl rfl rfl pX pY hBX
    | true =>
      have hL := line_any ⟨2, 0, ⟨0, 0, 0, 0, 0, ⟨#[]⟩, 0, 0⟩, n, [], ⟨#[]⟩⟩ (.slice none 0 0) w8 (ok.below hBX) hok (Fs.nil _)
      by_cases hln : Pa.lineA ⟨2, 0, ⟨0, 0, 0, 0, 0, ⟨#[]⟩, 0, 0⟩, n, [], ⟨#[]⟩⟩ = x
      · rw [hln, ← HT.out] at hL
        have HR := Lib.hid (Pa.parseLine_some.2 ⟨hok, hln⟩)
        clear hok hln
        go_wp2_with fail
        refine hL.mono ?_
        rintro e w9 ⟨rfl, hb9⟩
        have pZ := pX.below hb9
        have pU := pY.below hb9
        have hBZ := below_on hBX hb9
        clear hL hb9 hBX pX pY
        clear d0 df0 d1 df1 d2 df2 d3 df3 d4 df4 d5 df5 d6 df6 d7 df7 d8 df8 d9 df9 d10 df10 d11 df11 d12 df12
        have ⟨e0, ef0⟩ := pZ.2 0 _ rfl
        have ⟨e1, ef1⟩ := pZ.2 1 _ rfl
        have ⟨e2, ef2⟩ := pZ.2 2 _ rfl
        have ⟨e3, ef3⟩ := pZ.2 3 _ rfl
        have ⟨e4, ef4⟩ := pZ.2 4 _ rfl
        have ⟨e5, ef5⟩ := pZ.2 5 _ rfl
        have ⟨e6, ef6⟩ := pZ.2 6 _ rfl
        have ⟨e7, ef7⟩ := pZ.2 7 _ rfl
        have ⟨e8, ef8⟩ := pZ.2 8 _ rfl
        have ⟨e9, ef9⟩ := pZ.2 9 _ rfl
        have ⟨e10, ef10⟩ := pZ.2 10 _ rfl
        have ⟨e11, ef11⟩ := pZ.2 11 _ rfl
        have ⟨e12, ef12⟩ := pZ.2 12 _ rfl
        have ⟨g0, gf0⟩ := pU.2 0 _ rfl
        go_wp2
        have hrw := RowAt.rewr pZ pU
        have hBR := hBZ.trans ((rewr_kp w.heap.size ⟨2, 0, ⟨0, 0, 0, 0, 0, ⟨#[]⟩, 0, 0⟩, n, [], ⟨#[]⟩⟩ (.slice none 0 0) w9).below hBZ.size (by intro k hk; omega))
        show bodyPostD _ _ _ _ _ (rewr w.heap.size ⟨2, 0, ⟨0, 0, 0, 0, 0, ⟨#[]⟩, 0, 0⟩, n, [], ⟨#[]⟩⟩ (.slice none 0 0) w9)
        exact door_good (a := ⟨2, 0, ⟨0, 0, 0, 0, 0, ⟨#[]⟩, 0, 0⟩, n, [], ⟨#[]⟩⟩) (fv := (.slice none 0 0)) HR.out rfl rfl hrw.1 hrw.2 (Fs.nil _) (fun b h => by cases h) hBR
      · obtain ⟨L, hLe⟩ : ∃ L : ByteArray, L = ⟨(Pa.lineA ⟨2, 0, ⟨0, 0, 0, 0, 0, ⟨#[]⟩, 0, 0⟩, n, [], ⟨#[]⟩⟩).toArray⟩ := ⟨_, rfl⟩
        rw [← hLe] at hL
        have n1 : ¬ L.toList = t.toList := by rw [hLe, HT.out]; exact bytes_two _ _ hln
        have n2 : (L.toList == t.toList) = false := by rw [beq_eq_false_iff_ne]; exact n1
        have HR := Lib.hid (Pa.parse_not HA.out (fun h => hln h.2))
        clear hok hln hLe
        go_wp2_with fail
        refine hL.mono ?_
        rintro e w9 ⟨rfl, hb9⟩
        go_wp2
        exact door_bad HR.out rfl rfl rfl (pX.below hb9) (pY.below hb9) (below_on hBX hb9)

end Go.Proofs.YtgajoiijebbagaaGreatDoor

/-! The walk of script.action, way 'frame'. Conditions: the text is at most 8000 bytes long; the library's variables read as laid. -/
namespace Go.Proofs.YtgajoiijebbagaaGreatDoor
open Go.RowKit Go.Proofs

set_option maxRecDepth 100000 in
set_option maxHeartbeats 4000000 in
theorem act_frame (x : Pa.Bs) (r : List Pa.Bs) (w : World) (ok : Ok w) (hx : x.length ≤ 8000) (hs : Pa.splitC 32 x = Pa.w_frame :: r) : Calls Tryz.prog 39 #[.string ⟨x.toArray⟩] w (AOut x w) := by
  have hraw := Pa.rawP_at hx hs
  rw [if_neg (by decide), if_neg (by decide), if_neg (by decide), if_pos rfl] at hraw
  have hsp := fun u ok => split_any x u ok (by omega)
  have hst := StR.start x ((w.alloc (.cells #[.int .i64 0, .int .i64 0, .int .i64 0, .int .i64 0, .int .i64 0, .int .i64 0, .int .i64 0, .string ⟨#[]⟩, .int .i64 0, .int .i64 0, .int .i64 0, .slice none 0 0, .string ⟨#[]⟩] 27)).alloc (.cells #[.bool false] 4)) hx (by have := ok.1; simp; omega)
  rw [hs] at hsp hst
  clear hs
  simp only [World.size_alloc, List.map_cons, List.length_cons] at hst
  obtain ⟨t, ht⟩ : ∃ t : ByteArray, t = ⟨x.toArray⟩ := ⟨_, rfl⟩
  have hsz : ¬ 8000 < (t.size : Int) := by rw [ht]; simp [ByteArray.size]; omega
  rw [← ht] at hsp ⊢
  have HT := Lib.hid ht; clear ht
  have h4 := ok.1
  have hmf : ∀ (fn : Fn) (first cap : Array Value) (w : World), (Instr.makeFunc fn first cap).run Tryz.prog w = .ok (.func fn first cap) w := fun _ _ _ _ => rfl
  have hB0 : Below w.heap.size w ((w.alloc (.cells #[.int .i64 0, .int .i64 0, .int .i64 0, .int .i64 0, .int .i64 0, .int .i64 0, .int .i64 0, .string ⟨#[]⟩, .int .i64 0, .int .i64 0, .int .i64 0, .slice none 0 0, .string ⟨#[]⟩] 27)).alloc (.cells #[.bool false] 4)) := ((Below.refl _ _).alloc (Nat.le_refl _) _).alloc (by simp) _
  have q1 : RowAt w.heap.size (acCells ⟨0, 0, ⟨0, 0, 0, 0, 0, ⟨#[]⟩, 0, 0⟩, 0, [], ⟨#[]⟩⟩ (.slice none 0 0)) _ := (act_alloc w).1
  have q2 := (act_alloc w).2
  cases hr : Pa.rdNum r with
  | none =>
    have HR := Lib.hid (Pa.parse_none (x := x) (by rw [hraw, hr]; rfl))
    have HN := Lib.hid hr
    clear hr hraw
    go_enter_defers Tryz.func39, Tryz.ntmps39
    go_wp2_with fail
    refine (hsp _ (ok.below hB0)).mono ?_
    rintro e u ⟨rfl, rfl⟩
    go_wp2_with fail
    refine (word_some _ _ _ r _ hst).mono ?_
    rintro e w2 ⟨rfl, s2, k2⟩
    have hB2 : Below w.heap.size w w2 := Kp.up (below_on hB0 (((Below.refl _ _).alloc (Nat.le_refl _) _).alloc (by simp) _)) k2 (by simp; omega) (by intro k hk; show ¬ k = _; omega)
    have ok2 := ok.below hB2
    have p1 := (q1.below (((Below.refl _ _).alloc (Nat.le_refl _) _).alloc (by simp) _)).kp k2 (by show ¬ _ = _; omega)
    have p2 := (q2.below (((Below.refl _ _).alloc (Nat.le_refl _) _).alloc (by simp) _)).kp k2 (by show ¬ _ = _; omega)
    clear k2 q1 q2 hst hsp
    go_wp2_with fail
    refine (rnum_no _ _ r _ ok2 s2 HN.out).mono ?_
    rintro e w3 ⟨rfl, k3⟩
    have hB3 := Kp.up hB2 k3 (by have := hB2.size; omega) (by intro k hk; show ¬ k = _; omega)
    have r1 := p1.kp k3 (by show ¬ _ = _; omega)
    have r2 := p2.kp k3 (by show ¬ _ = _; omega)
    go_wp2
    exact door_bad HR.out rfl rfl rfl r1 r2 hB3
  | some p =>
    obtain ⟨n, r1⟩ := p
    have HN := Lib.hid hr
    cases hq : Pa.rdBytes r1 with
    | none =>
      have HR := Lib.hid (Pa.parse_none (x := x) (by rw [hraw, hr]; simp [hq]))
      have HQ := Lib.hid hq
      clear hr hraw hq
      go_enter_defers Tryz.func39, Tryz.ntmps39
      go_wp2_with fail
      refine (hsp _ (ok.below hB0)).mono ?_
      rintro e u ⟨rfl, rfl⟩
      go_wp2_with fail
      refine (word_some _ _ _ r _ hst).mono ?_
      rintro e w2 ⟨rfl, s2, k2⟩
      have hB2 : Below w.heap.size w w2 := Kp.up (below_on hB0 (((Below.refl _ _).alloc (Nat.le_refl _) _).alloc (by simp) _)) k2 (by simp; omega) (by intro k hk; show ¬ k = _; omega)
      have ok2 := ok.below hB2
      have p1 := (q1.below (((Below.refl _ _).alloc (Nat.le_refl _) _).alloc (by simp) _)).kp k2 (by show ¬ _ = _; omega)
      have p2 := (q2.below (((Below.refl _ _).alloc (Nat.le_refl _) _).alloc (by simp) _)).kp k2 (by show ¬ _ = _; omega)
      clear k2 q1 q2 hst hsp
      go_wp2_with fail
      refine (rnum_yes _ _ r n r1 _ s2 HN.out).mono ?_
      rintro e w3 ⟨rfl, s3, k3⟩
      have hB3 := Kp.up hB2 k3 (by have := hB2.size; omega) (by intro k hk; show ¬ k = _; omega)
      have p1_3 := p1.kp k3 (by show ¬ _ = _; omega)
      have p2_3 := p2.kp k3 (by show ¬ _ = _; omega)
      have ok3 := ok.below hB3
      clear k3 s2 p1 p2 hB2 ok2
      go_wp2_with fail
      refine (rbytes_no _ _ r1 _ s3 HQ.out).mono ?_
      rintro e w4 ⟨rfl, k4⟩
      have hB4 := Kp.up hB3 k4 (by have := hB3.size; omega) (by intro k hk; show ¬ k = _; omega)
      have r1 := p1_3.kp k4 (by show ¬ _ = _; omega)
      have r2 := p2_3.kp k4 (by show ¬ _ = _; omega)
      go_wp2
      exact door_bad HR.out rfl rfl rfl r1 r2 hB4
    | some p =>
      obtain ⟨b, r2⟩ := p
      have HA : Hid (Pa.rawP x = some ⟨4, 0, ⟨0, 0, 0, 0, 0, ⟨#[]⟩, 0, 0⟩, n, [], ⟨b.toArray⟩⟩) := by rw [Hid, hraw, hr]; simp [hq, Pa.a0, Pa.c0]
      have HQ := Lib.hid hq
      clear hr hraw hq
      go_enter_defers Tryz.func39, Tryz.ntmps39
      go_wp2_with fail
      refine (hsp _ (ok.below hB0)).mono ?_
      rintro e u ⟨rfl, rfl⟩
      go_wp2_with fail
      refine (word_some _ _ _ r _ hst).mono ?_
      rintro e w2 ⟨rfl, s2, k2⟩
      have hB2 : Below w.heap.size w w2 := Kp.up (below_on hB0 (((Below.refl _ _).alloc (Nat.le_refl _) _).alloc (by simp) _)) k2 (by simp; omega) (by intro k hk; show ¬ k = _; omega)
      have ok2 := ok.below hB2
      have p1 := (q1.below (((Below.refl _ _).alloc (Nat.le_refl _) _).alloc (by simp) _)).kp k2 (by show ¬ _ = _; omega)
      have p2 := (q2.below (((Below.refl _ _).alloc (Nat.le_refl _) _).alloc (by simp) _)).kp k2 (by show ¬ _ = _; omega)
      clear k2 q1 q2 hst hsp
      go_wp2_with fail
      refine (rnum_yes _ _ r n r1 _ s2 HN.out).mono ?_
      rintro e w3 ⟨rfl, s3, k3⟩
      have hB3 := Kp.up hB2 k3 (by have := hB2.size; omega) (by intro k hk; show ¬ k = _; omega)
      have p1_3 := p1.kp k3 (by show ¬ _ = _; omega)
      have p2_3 := p2.kp k3 (by show ¬ _ = _; omega)
      have ok3 := ok.below hB3
      clear k3 s2 p1 p2 hB2 ok2
      go_wp2_with fail
      refine (rbytes_yes _ _ r1 b r2 _ s3 HQ.out).mono ?_
      rintro e w4 ⟨rfl, s4, k4⟩
      have hB4 := Kp.up hB3 k4 (by have := hB3.size; omega) (by intro k hk; show ¬ k = _; omega)
      have p1_4 := p1_3.kp k4 (by show ¬ _ = _; omega)
      have p2_4 := p2_3.kp k4 (by show ¬ _ = _; omega)
      have ok4 := ok.below hB4
      clear k4 s3 p1_3 p2_3 hB3 ok3
      have ⟨c0, cf0⟩ := p1_4.2 0 _ rfl
      have ⟨c1, cf1⟩ := p1_4.2 1 _ rfl
      have ⟨c2, cf2⟩ := p1_4.2 2 _ rfl
      have ⟨c3, cf3⟩ := p1_4.2 3 _ rfl
      have ⟨c4, cf4⟩ := p1_4.2 4 _ rfl
      have ⟨c5, cf5⟩ := p1_4.2 5 _ rfl
      have ⟨c6, cf6⟩ := p1_4.2 6 _ rfl
      have ⟨c7, cf7⟩ := p1_4.2 7 _ rfl
      have ⟨c8, cf8⟩ := p1_4.2 8 _ rfl
      have ⟨c9, cf9⟩ := p1_4.2 9 _ rfl
      have ⟨c10, cf10⟩ := p1_4.2 10 _ rfl
      have ⟨c11, cf11⟩ := p1_4.2 11 _ rfl
      have ⟨c12, cf12⟩ := p1_4.2 12 _ rfl
      go_wp2_with fail
      have pV : RowAt w.heap.size (acCells ⟨4, 0, ⟨0, 0, 0, 0, 0, ⟨#[]⟩, 0, 0⟩, n, [], ⟨b.toArray⟩⟩ (.slice none 0 0)) (((w4.setCell ⟨w.heap.size, 0, none⟩ (.int .i64 4)).setCell ⟨w.heap.size, 10, none⟩ (.int .i64 n)).setCell ⟨w.heap.size, 12, none⟩ (.string ⟨b.toArray⟩)) := (((p1_4.set 0 (by simp [acCells]) (.int .i64 4)).set 10 (by simp [acCells]) (.int .i64 n)).set 12 (by simp [acCells]) (.string ⟨b.toArray⟩))
      have pW : RowAt (w.heap.size + 1) [.bool false] (((w4.setCell ⟨w.heap.size, 0, none⟩ (.int .i64 4)).setCell ⟨w.heap.size, 10, none⟩ (.int .i64 n)).setCell ⟨w.heap.size, 12, none⟩ (.string ⟨b.toArray⟩)) := (((p2_4.kp (Kp.set _ w.heap.size 0 (.int .i64 4)) (by show ¬ _ = _; omega)).kp (Kp.set _ w.heap.size 10 (.int .i64 n)) (by show ¬ _ = _; omega)).kp (Kp.set _ w.heap.size 12 (.string ⟨b.toArray⟩)) (by show ¬ _ = _; omega))
      have hBV : Below w.heap.size w (((w4.setCell ⟨w.heap.size, 0, none⟩ (.int .i64 4)).setCell ⟨w.heap.size, 10, none⟩ (.int .i64 n)).setCell ⟨w.heap.size, 12, none⟩ (.string ⟨b.toArray⟩)) := (((hB4.setCell (p := ⟨w.heap.size, 0, none⟩) (Nat.le_refl _) (.int .i64 4)).setCell (p := ⟨w.heap.size, 10, none⟩) (Nat.le_refl _) (.int .i64 n)).setCell (p := ⟨w.heap.size, 12, none⟩) (Nat.le_refl _) (.string ⟨b.toArray⟩))
      refine (validAct_any ⟨4, 0, ⟨0, 0, 0, 0, 0, ⟨#[]⟩, 0, 0⟩, n, [], ⟨b.toArray⟩⟩ (.slice none 0 0) _ (ok.below hBV) name_any (Fs.nil _) (by simp)).mono ?_
      rintro e w8 ⟨rfl, hb8⟩
      have pX := pV.below hb8
      have pY := pW.below hb8
      have hBX := below_on hBV hb8
      clear c0 cf0 c1 cf1 c2 cf2 c3 cf3 c4 cf4 c5 cf5 c6 cf6 c7 cf7 c8 cf8 c9 cf9 c10 cf10 c11 cf11 c12 cf12
      clear pV pW hBV hb8
      have ⟨d0, df0⟩ := pX.2 0 _ rfl
      have ⟨d1, df1⟩ := pX.2 1 _ rfl
      have ⟨d2, df2⟩ := pX.2 2 _ rfl
      have ⟨d3, df3⟩ := pX.2 3 _ rfl
      have ⟨d4, df4⟩ := pX.2 4 _ rfl
      have ⟨d5, df5⟩ := pX.2 5 _ rfl
      have ⟨d6, df6⟩ := pX.2 6 _ rfl
      have ⟨d7, df7⟩ := pX.2 7 _ rfl
      have ⟨d8, df8⟩ := pX.2 8 _ rfl
      have ⟨d9, df9⟩ := pX.2 9 _ rfl
      have ⟨d10, df10⟩ := pX.2 10 _ rfl
      have ⟨d11, df11⟩ := pX.2 11 _ rfl
      have ⟨d12, df12⟩ := pX.2 12 _ rfl
      cases hok : Pa.okA ⟨4, 0, ⟨0, 0, 0, 0, 0, ⟨#[]⟩, 0, 0⟩, n, [], ⟨b.toArray⟩⟩ with
      | false =>
        have HR := Lib.hid (Pa.parse_not HA.out (by rw [hok]; simp))
        clear hok
        go_wp2
        exact door_bad HR.out rfl rfl rfl pX pY hBX
      | true =>
        have hL := line_any ⟨4, 0, ⟨0, 0, 0, 0, 0, ⟨#[]⟩, 0, 0⟩, n, [], ⟨b.toArray⟩⟩ (.slice none 0 0) w8 (ok.below hBX) hok (Fs.nil _)
        by_cases hln : Pa.lineA ⟨4, 0, ⟨0, 0, 0, 0, 0, ⟨#[]⟩, 0, 0⟩, n, [], ⟨b.toArray⟩⟩ = x
        · rw [hln, ← HT.out] at hL
          have HR := Lib.hid (Pa.parseLine_some.2 ⟨hok, hln⟩)
          clear hok hln
          go_wp2_with fail
          refine hL.mono ?_
          rintro e w9 ⟨rfl, hb9⟩
          have pZ := pX.below hb9
          have pU := pY.below hb9
          have hBZ := below_on hBX hb9
          clear hL hb9 hBX pX pY
          clear d0 df0 d1 df1 d2 df2 d3 df3 d4 df4 d5 df5 d6 df6 d7 df7 d8 df8 d9 df9 d10 df10 d11 df11 d12 df12
          have ⟨e0, ef0⟩ := pZ.2 0 _ rfl
          have ⟨e1, ef1⟩ := pZ.2 1 _ rfl
          have ⟨e2, ef2⟩ := pZ.2 2 _ rfl
          have ⟨e3, ef3⟩ := pZ.2 3 _ rfl
          have ⟨e4, ef4⟩ := pZ.2 4 _ rfl
          have ⟨e5, ef5⟩ := pZ.2 5 _ rfl
          have ⟨e6, ef6⟩ := pZ.2 6 _ rfl
          have ⟨e7, ef7⟩ := pZ.2 7 _ rfl
          have ⟨e8, ef8⟩ := pZ.2 8 _ rfl
          have ⟨e9, ef9⟩ := pZ.2 9 _ rfl
          have ⟨e10, ef10⟩ := pZ.2 10 _ rfl
          have ⟨e11, ef11⟩ := pZ.2 11 _ rfl
          have ⟨e12, ef12⟩ := pZ.2 12 _ rfl
          have ⟨g0, gf0⟩ := pU.2 0 _ rfl
          go_wp2
          have hrw := RowAt.rewr pZ pU
          have hBR := hBZ.trans ((rewr_kp w.heap.size ⟨4, 0, ⟨0, 0, 0, 0, 0, ⟨#[]⟩, 0, 0⟩, n, [], ⟨b.toArray⟩⟩ (.slice none 0 0) w9).below hBZ.size (by intro k hk; omega))
          show bodyPostD _ _ _ _ _ (rewr w.heap.size ⟨4, 0, ⟨0, 0, 0, 0, 0, ⟨#[]⟩, 0, 0⟩, n, [], ⟨b.toArray⟩⟩ (.slice none 0 0) w9)
          exact door_good (a := ⟨4, 0, ⟨0, 0, 0, 0, 0, ⟨#[]⟩, 0, 0⟩, n, [], ⟨b.toArray⟩⟩) (fv := (.slice none 0 0)) HR.out rfl rfl hrw.1 hrw.2 (Fs.nil _) (fun b h => by cases h) hBR
        · obtain ⟨L, hLe⟩ : ∃ L : ByteArray, L = ⟨(Pa.lineA ⟨4, 0, ⟨0, 0, 0, 0, 0, ⟨#[]⟩, 0, 0⟩, n, [], ⟨b.toArray⟩⟩).toArray⟩ := ⟨_, rfl⟩
          rw [← hLe] at hL
          have n1 : ¬ L.toList = t.toList := by rw [hLe, HT.out]; exact bytes_two _ _ hln
          have n2 : (L.toList == t.toList) = false := by rw [beq_eq_false_iff_ne]; exact n1
          have HR := Lib.hid (Pa.parse_not HA.out (fun h => hln h.2))
          clear hok hln hLe
          go_wp2_with fail
          refine hL.mono ?_
          rintro e w9 ⟨rfl, hb9⟩
          go_wp2
          exact door_bad HR.out rfl rfl rfl (pX.below hb9) (pY.below hb9) (below_on hBX hb9)

end Go.Proofs.YtgajoiijebbagaaGreatDoor
