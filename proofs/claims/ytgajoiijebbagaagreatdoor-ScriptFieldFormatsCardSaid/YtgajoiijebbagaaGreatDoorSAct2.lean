/-
  The walk of script.action, way by way. Conditions: the text is at most a million bytes long; the library's variables read as laid.
-/
import Derived.Test.YtgajoiijebbagaaGreatDoorSAct1
namespace Go.Proofs.YtgajoiijebbagaaGreatDoor
open Go.RowKit Go.Proofs

theorem Pa.split_len (c : UInt8) : ∀ x : Pa.Bs, (Pa.splitC c x).length ≤ x.length + 1 ∧ ∀ y ∈ Pa.splitC c x, y.length ≤ x.length
  | [] => by simp [Pa.splitC]
  | b :: r => by
    obtain ⟨h1, h2⟩ := Pa.split_len c r
    rw [Pa.splitC]
    split
    · refine ⟨by simp; omega, fun y hy => ?_⟩
      rcases List.mem_cons.1 hy with rfl | hy
      · simp
      · have := h2 y hy; simp; omega
    · cases hs : Pa.splitC c r with
      | nil => exact absurd hs (Pa.splitC_ne c r)
      | cons v vs =>
        rw [hs] at h1 h2
        simp only [Pa.glue, List.length_cons] at h1 ⊢
        refine ⟨by omega, fun y hy => ?_⟩
        rcases List.mem_cons.1 hy with rfl | hy
        · have := h2 v (by simp); simp; omega
        · have := h2 y (by simp [hy]); omega

theorem act_alloc (w : World) : RowAt w.heap.size (acCells Pa.a0 (.slice none 0 0)) ((w.alloc (.cells #[.int .i64 0, .int .i64 0, .int .i64 0, .int .i64 0, .int .i64 0, .int .i64 0, .int .i64 0, .string ⟨#[]⟩, .int .i64 0, .int .i64 0, .int .i64 0, .slice none 0 0, .string ⟨#[]⟩] 27)).alloc (.cells #[.bool false] 4)) ∧
    RowAt (w.heap.size + 1) [.bool false] ((w.alloc (.cells #[.int .i64 0, .int .i64 0, .int .i64 0, .int .i64 0, .int .i64 0, .int .i64 0, .int .i64 0, .string ⟨#[]⟩, .int .i64 0, .int .i64 0, .int .i64 0, .slice none 0 0, .string ⟨#[]⟩] 27)).alloc (.cells #[.bool false] 4)) := by
  refine ⟨(RowAt.new w #[.int .i64 0, .int .i64 0, .int .i64 0, .int .i64 0, .int .i64 0, .int .i64 0, .int .i64 0, .string ⟨#[]⟩, .int .i64 0, .int .i64 0, .int .i64 0, .slice none 0 0, .string ⟨#[]⟩] 27).below ((Below.refl _ _).alloc (Nat.le_refl _) _), ?_⟩
  have := RowAt.new (w.alloc (.cells #[.int .i64 0, .int .i64 0, .int .i64 0, .int .i64 0, .int .i64 0, .int .i64 0, .int .i64 0, .string ⟨#[]⟩, .int .i64 0, .int .i64 0, .int .i64 0, .slice none 0 0, .string ⟨#[]⟩] 27)) #[.bool false] 4
  rw [World.size_alloc] at this
  exact this

theorem act_long (x : Pa.Bs) (w : World) (hx : x.length ≤ 1000000000) (hl : 8000 < x.length) : Calls Tryz.prog 39 #[.string ⟨x.toArray⟩] w (AOut x w) := by
  have hr : Pa.parseLine x = none := by
    unfold Pa.parseLine Pa.rawP; rw [if_pos hl]; rfl
  have HR := Lib.hid hr; clear hr
  obtain ⟨t, ht⟩ : ∃ t : ByteArray, t = ⟨x.toArray⟩ := ⟨_, rfl⟩
  have hsz : 8000 < (t.size : Int) := by rw [ht]; simp [ByteArray.size]; omega
  rw [← ht]; clear ht
  have hmf : ∀ (fn : Fn) (first cap : Array Value) (w : World), (Instr.makeFunc fn first cap).run Tryz.prog w = .ok (.func fn first cap) w := fun _ _ _ _ => rfl
  go_enter_defers Tryz.func39, Tryz.ntmps39
  go_wp2
  exact door_bad HR.out rfl rfl rfl (act_alloc w).1 (act_alloc w).2 (((Below.refl _ _).alloc (Nat.le_refl _) _).alloc (by simp) _)

theorem Pa.split_eq (c : UInt8) : ∀ (n : Nat) (l : Pa.Bs), l.length ≤ n → Lib.count l [c] + 1 = (Pa.splitC c l).length ∧ Lib.splitK [c] 0 (Lib.count l [c]) l = Pa.splitC c l := by
  intro n
  induction n with
  | zero =>
    intro l hl
    obtain rfl := List.length_eq_zero_iff.1 (Nat.le_zero.1 hl)
    rcases Pa.index_cases [] c with ⟨hi, _⟩ | ⟨i, _, hi, _⟩
    · rw [Lib.count_miss hi]; exact ⟨rfl, rfl⟩
    · simp at hi
  | succ n ih =>
    intro l hl
    rcases Pa.index_cases l c with ⟨hi, hn⟩ | ⟨i, hi, hil, hc, hn⟩
    · rw [Lib.count_miss hi, Pa.splitC_none c l hn]; exact ⟨rfl, rfl⟩
    · have e : Pa.splitC c l = l.take i :: Pa.splitC c (l.drop (i + 1)) := by
        conv => lhs; rw [Pa.split_at l c i hc, Pa.splitC_append c _ _ hn]
      obtain ⟨h1, h2⟩ := ih (l.drop (i + 1)) (by simp; omega)
      have hne : ¬ (Lib.index l [c] == -1) = true := by rw [hi]; simp
      rw [Lib.count_hit (by simp) hi, e, Nat.add_comm 1 (Lib.count _ _), Lib.splitK, if_neg hne, hi]
      simp only [List.length_cons, List.length_nil, Int.toNat_natCast, Nat.add_zero, Nat.zero_add]
      exact ⟨by rw [h1], by rw [h2]⟩

/-- strings.Split at a space. -/
theorem split_any (x : Pa.Bs) (w : World) (ok : Ok w) (hx : x.length ≤ 1000000) :
    Calls Tryz.prog 58 #[.string ⟨x.toArray⟩, .string ⟨#[32]⟩] w fun e w' => e = .returned (.slice (some ⟨w.heap.size, 0, none⟩) (Pa.splitC 32 x).length (Pa.splitC 32 x).length) ∧ w' = w.alloc (.cells ((Pa.splitC 32 x).map strV).toArray 9) := by
  obtain ⟨_, ⟨m, hm⟩, _⟩ := ok
  have := Tryz.strings_Split ⟨x.toArray⟩ ⟨#[32]⟩ m w (by simp [ByteArray.size]; omega) hm (by decide)
  obtain ⟨h1, h2⟩ := Pa.split_eq 32 x.length x (Nat.le_refl _)
  have hcnt : Lib.countB ⟨x.toArray⟩ ⟨#[32]⟩ = Lib.count x [32] := rfl
  have hdat := Lib.splitB_data ⟨#[32]⟩ 0 (Lib.count x [32]) ⟨x.toArray⟩
  have hcells : (Lib.splitB ⟨#[32]⟩ 0 (Lib.count x [32]) ⟨x.toArray⟩).map Value.string = (Pa.splitC 32 x).map strV := by
    have e : Pa.splitC 32 x = (Lib.splitB ⟨#[32]⟩ 0 (Lib.count x [32]) ⟨x.toArray⟩).map (·.data.toList) := by rw [hdat]; exact h2.symm
    rw [e, List.map_map]
    apply List.map_congr_left
    intro t _
    simp [strV]
  rw [hcnt, hcells, h1] at this
  exact this

/-- The reader that stands behind the split. -/
theorem StR.start (x : Pa.Bs) (u : World) (hx : x.length ≤ 8000) (h4 : 4 ≤ u.heap.size) :
    StR (u.heap.size + 1) u.heap.size (Pa.splitC 32 x) ((u.alloc (.cells ((Pa.splitC 32 x).map strV).toArray 9)).alloc (.cells #[.slice (some ⟨u.heap.size, 0, none⟩) (Pa.splitC 32 x).length (Pa.splitC 32 x).length] 93)) := by
  have hr := RowAt.new (u.alloc (.cells ((Pa.splitC 32 x).map strV).toArray 9)) #[.slice (some ⟨u.heap.size, 0, none⟩) (Pa.splitC 32 x).length (Pa.splitC 32 x).length] 93
  rw [World.size_alloc] at hr
  have h0 := hr.2 0 _ rfl
  obtain ⟨h1, h2⟩ := Pa.split_len 32 x
  refine ⟨by omega, by simp, by simp; omega, by omega, h0.2, 0, _, h0.1, Nat.le_refl _, ⟨by omega, fun y hy => Nat.le_trans (h2 y hy) (by omega)⟩, fun j hj => ?_⟩
  rw [Nat.zero_add]
  refine cell_old _ (by simp) ?_
  rw [World.cell?_alloc_at _ _ _ _ rfl]
  simp [hj, strV]

end Go.Proofs.YtgajoiijebbagaaGreatDoor
