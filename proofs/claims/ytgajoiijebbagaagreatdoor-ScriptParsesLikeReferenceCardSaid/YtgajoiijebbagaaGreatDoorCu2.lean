/-
  The walk of the generator cut: it returns the action with shortened strings and fates, and what was there before it is unchanged. Conditions: the fates lie in memory.
-/
import Derived.Test.YtgajoiijebbagaaGreatDoorCu
namespace Go.Proofs.YtgajoiijebbagaaGreatDoor
open Go.RowKit Go.Proofs

theorem RowAt.all13 {b : Nat} {w : World} {v0 v1 v2 v3 v4 v5 v6 v7 v8 v9 v10 v11 v12 : Value} (h : RowAt b [v0, v1, v2, v3, v4, v5, v6, v7, v8, v9, v10, v11, v12] w) :
    (w.cell? ⟨b, 0, none⟩ = some v0 ∧ w.cell? ⟨b, 1, none⟩ = some v1 ∧ w.cell? ⟨b, 2, none⟩ = some v2 ∧ w.cell? ⟨b, 3, none⟩ = some v3 ∧ w.cell? ⟨b, 4, none⟩ = some v4 ∧ w.cell? ⟨b, 5, none⟩ = some v5 ∧ w.cell? ⟨b, 6, none⟩ = some v6 ∧ w.cell? ⟨b, 7, none⟩ = some v7 ∧ w.cell? ⟨b, 8, none⟩ = some v8 ∧ w.cell? ⟨b, 9, none⟩ = some v9 ∧ w.cell? ⟨b, 10, none⟩ = some v10 ∧ w.cell? ⟨b, 11, none⟩ = some v11 ∧ w.cell? ⟨b, 12, none⟩ = some v12) ∧
    (w.frozen? ⟨b, 0, none⟩ = false ∧ w.frozen? ⟨b, 1, none⟩ = false ∧ w.frozen? ⟨b, 2, none⟩ = false ∧ w.frozen? ⟨b, 3, none⟩ = false ∧ w.frozen? ⟨b, 4, none⟩ = false ∧ w.frozen? ⟨b, 5, none⟩ = false ∧ w.frozen? ⟨b, 6, none⟩ = false ∧ w.frozen? ⟨b, 7, none⟩ = false ∧ w.frozen? ⟨b, 8, none⟩ = false ∧ w.frozen? ⟨b, 9, none⟩ = false ∧ w.frozen? ⟨b, 10, none⟩ = false ∧ w.frozen? ⟨b, 11, none⟩ = false ∧ w.frozen? ⟨b, 12, none⟩ = false) :=
  ⟨⟨(h.2 0 _ rfl).1, (h.2 1 _ rfl).1, (h.2 2 _ rfl).1, (h.2 3 _ rfl).1, (h.2 4 _ rfl).1, (h.2 5 _ rfl).1, (h.2 6 _ rfl).1, (h.2 7 _ rfl).1, (h.2 8 _ rfl).1, (h.2 9 _ rfl).1, (h.2 10 _ rfl).1, (h.2 11 _ rfl).1, (h.2 12 _ rfl).1⟩, ⟨(h.2 0 _ rfl).2, (h.2 1 _ rfl).2, (h.2 2 _ rfl).2, (h.2 3 _ rfl).2, (h.2 4 _ rfl).2, (h.2 5 _ rfl).2, (h.2 6 _ rfl).2, (h.2 7 _ rfl).2, (h.2 8 _ rfl).2, (h.2 9 _ rfl).2, (h.2 10 _ rfl).2, (h.2 11 _ rfl).2, (h.2 12 _ rfl).2⟩⟩

/-- A slice that holds these numbers, its length within its capacity. -/
def FsC (w : World) (v : Value) (xs : List Int) : Prop := Fs w v xs ∧ ∃ a c, v = .slice a xs.length c ∧ xs.length ≤ c

set_option maxRecDepth 100000 in
set_option maxHeartbeats 1000000 in
theorem cut_any (a : Pa.Ac) (fv : Value) (w : World) (hf : FsC w fv a.fates) (hl : a.fates.length ≤ 9223372036854775807) (ho : a.s.size ≤ 9223372036854775807 ∧ a.call.s.size ≤ 9223372036854775807) :
    Calls Tryz.prog 10 #[acV a fv] w fun e w' => ∃ gv, e = .returned (acV (Pa.cutA a) gv) ∧ Fs w' gv (Pa.cutA a).fates ∧ (∀ b, gv.ownBlock = some b → w.heap.size ≤ b) ∧ Below w.heap.size w w' := by
  obtain ⟨k, hh, ⟨x1, x2, x3, x4, x5, x6, x7, x8⟩, n, fs, s⟩ := a
  simp only at hf hl ho
  obtain ⟨ho1, ho2⟩ := ho
  obtain ⟨K, hK⟩ : ∃ K : Nat, min (fs.length : Int) 70 = (K : Int) := ⟨min fs.length 70, by omega⟩
  have hKl : K ≤ fs.length := by omega
  have hK70 : K ≤ 70 := by omega
  have HT : Hid (fs.take 70 = fs.take K) := by
    rw [Hid]
    by_cases h : fs.length ≤ 70
    · rw [List.take_of_length_le h, List.take_of_length_le (by omega)]
    · rw [show K = 70 by omega]
  obtain ⟨hf, va', ca', hv', hcap⟩ := hf
  obtain ⟨va, ca, hv, hft⟩ := hf.take K hKl
  rw [hv'] at hv
  cases hv
  subst hv'
  have HFT := Lib.hid hft; clear hft
  have hlen : (fs.take K).length = K := by simp; omega
  obtain ⟨fk, hfk⟩ : ∃ fk, fk = fs.take K := ⟨_, rfl⟩
  rw [← hfk] at HT HFT hlen
  have HLEN := Lib.hid hlen; clear hlen hfk
  obtain ⟨R, hR⟩ : ∃ R : Pa.Ac, R = Pa.cutA ⟨k, hh, ⟨x1, x2, x3, x4, x5, x6, x7, x8⟩, n, fs, s⟩ := ⟨_, rfl⟩
  rw [← hR]
  have HR : Hid (R = ⟨k, hh, ⟨x1, x2, x3, x4, x5, x6.extract 0 (min (x6.size : Int) 2110).toNat, x7, x8⟩, n, fk, s.extract 0 (min (s.size : Int) 1110).toNat⟩) := by
    rw [Hid, hR]; unfold Pa.cutA Pa.cutS; simp only [HT.out]
  clear hR
  unfold acV
  simp only
  go_enter Tryz.func10, Tryz.ntmps10
  cases va' with
  | none =>
    have h0 : fs.length = 0 := by
      rcases Nat.eq_zero_or_pos fs.length with h | h
      · exact h
      · obtain ⟨a, c, h1, h2⟩ := hf
        cases h1
        obtain ⟨b, o, h3, _⟩ := h2 (fun e => by simp [e] at h)
        cases h3
    have hK0 : K = 0 := by omega
    subst hK0
    have hmz : min (0 : Int) 70 = 0 := by decide
    clear hK
    have H0 := Lib.hid h0
    rw [h0]
    clear h0
    have HF0 : Hid (fk = []) := List.length_eq_zero_iff.1 HLEN.out
    go_wp2
    refine bodyPost_ret (v := acV ⟨k, hh, ⟨x1, x2, x3, x4, x5, x6.extract 0 (min (x6.size : Int) 2110).toNat, x7, x8⟩, n, [], s.extract 0 (min (s.size : Int) 1110).toNat⟩ (.slice none 0 0)) (by simp [results, Tryz.results10, go_sem, acV]) rfl ⟨.slice none 0 0, ?_, ?_, fun b hb => (by cases hb), ?_⟩
    · rw [HR.out, HF0.out]; rfl
    · rw [HR.out, HF0.out]; exact Fs.nil _
    · repeat (first | exact Below.refl _ _ | refine Below.setCell ?_ (by simp) _ | refine Below.alloc ?_ (by simp) _ | apply Below.drew)
  | some ad =>
    go_wp2_with ((at_builtin; refine wpList_append_ints rfl (.const (.slice none 0 0)) (.tmp 28) rfl rfl _ fk rfl (HFT.out.below (by repeat (first | exact Below.refl _ _ | refine Below.setCell ?_ (by simp) _ | refine Below.alloc ?_ (by simp) _ | apply Below.drew))) (by have := HLEN.out; omega) ?_; (rintro v w1 hfv hfr hb1; have HFV := Lib.hid hfv; have HFR := Lib.hid hfr; have HB1 := Lib.hid hb1; obtain ⟨ga, gc, rfl, -⟩ := hfv; have r1 : RowAt w.heap.size (#[.int .i64 k, .int .i64 hh, .int .i64 x1, .int .i64 x2, .int .i64 x3, .int .i64 x4, .int .i64 x5, .string (x6.extract 0 (min (x6.size : Int) 2110).toNat), .int .i64 x7, .int .i64 x8, .int .i64 n, .slice (some ad) fs.length ca', .string (s.extract 0 (min (s.size : Int) 1110).toNat)] : Array Value).toList w1 := ((RowAt.new w #[.int .i64 k, .int .i64 hh, .int .i64 x1, .int .i64 x2, .int .i64 x3, .int .i64 x4, .int .i64 x5, .string (x6.extract 0 (min (x6.size : Int) 2110).toNat), .int .i64 x7, .int .i64 x8, .int .i64 n, .slice (some ad) fs.length ca', .string (s.extract 0 (min (s.size : Int) 1110).toNat)] 27).below ((Below.refl _ _).alloc (Nat.le_refl _) _)).below hb1; have r2 : RowAt (w.heap.size + 1) (#[.int .i64 0, .int .i64 0, .int .i64 0, .int .i64 0, .int .i64 0, .int .i64 0, .int .i64 0, .string ⟨#[]⟩, .int .i64 0, .int .i64 0, .int .i64 0, .slice none 0 0, .string ⟨#[]⟩] : Array Value).toList w1 := (by have h := (RowAt.new (w.alloc (.cells #[.int .i64 k, .int .i64 hh, .int .i64 x1, .int .i64 x2, .int .i64 x3, .int .i64 x4, .int .i64 x5, .string (x6.extract 0 (min (x6.size : Int) 2110).toNat), .int .i64 x7, .int .i64 x8, .int .i64 n, .slice (some ad) fs.length ca', .string (s.extract 0 (min (s.size : Int) 1110).toNat)] 27)) #[.int .i64 0, .int .i64 0, .int .i64 0, .int .i64 0, .int .i64 0, .int .i64 0, .int .i64 0, .string ⟨#[]⟩, .int .i64 0, .int .i64 0, .int .i64 0, .slice none 0 0, .string ⟨#[]⟩] 27).below hb1; rw [World.size_alloc] at h; exact h); obtain ⟨⟨c0, c1, c2, c3, c4, c5, c6, c7, c8, c9, c10, c11, c12⟩, ⟨f0, f1, f2, f3, f4, f5, f6, f7, f8, f9, f10, f11, f12⟩⟩ := r1.all13; obtain ⟨⟨d0, d1, d2, d3, d4, d5, d6, d7, d8, d9, d10, d11, d12⟩, ⟨g0, g1, g2, g3, g4, g5, g6, g7, g8, g9, g10, g11, g12⟩⟩ := r2.all13; clear hfr hb1 r1 r2)))
    refine bodyPost_ret (v := acV ⟨k, hh, ⟨x1, x2, x3, x4, x5, x6.extract 0 (min (x6.size : Int) 2110).toNat, x7, x8⟩, n, fk, s.extract 0 (min (s.size : Int) 1110).toNat⟩ (.slice ga fk.length gc)) (by simp [results, Tryz.results10, go_sem, acV, d0, d1, d2, d3, d4, d5, d6, d7, d8, d9, d10, d11, d12]) rfl ⟨.slice ga fk.length gc, ?_, ?_, ?_, ?_⟩
    · rw [HR.out]; rfl
    · rw [HR.out]
      refine Fs.kp (S := fun k => k = w.heap.size ∨ k = w.heap.size + 1) HFV.out ?_ (fun _ b hb => by have := HFR.out b hb; simp at this; omega)
      repeat (with_reducible refine Kp.setCell ?_ (.inl (by simp)) _)
      exact Kp.refl _ _
    · intro b hb; have := HFR.out b hb; simp at this; omega
    · have hBw : Below w.heap.size w w1 := below_on (by repeat (first | exact Below.refl _ _ | refine Below.setCell ?_ (by simp) _ | refine Below.alloc ?_ (by simp) _ | apply Below.drew)) HB1.out
      repeat (with_reducible refine Below.setCell ?_ (by simp) _)
      exact hBw

end Go.Proofs.YtgajoiijebbagaaGreatDoor
