/-
  The walk of the document's called: the call that it reads out of words, and that what was there is unchanged. Conditions: there is a word; each is at most a million bytes long.
-/
import Derived.Test.YtgajoiijebbagaaGreatDoorRg
import Derived.Test.YtgajoiijebbagaaGreatDoorRe2
namespace Go.Proofs.YtgajoiijebbagaaGreatDoor
open Go.RowKit Go.Proofs

/-- A slice value that holds these strings, from some place on. -/
def StrsO (w : World) (v : Value) (ws : List Pa.Bs) : Prop := ∃ b o c, v = .slice (some ⟨b, o, none⟩) ws.length c ∧ b < w.heap.size ∧ ∀ (j : Nat) (h : j < ws.length), w.cell? ⟨b, o + j, none⟩ = some (.string ⟨ws[j].toArray⟩)
theorem StrsO.below {w w' : World} {v : Value} {ws : List Pa.Bs} (h : StrsO w v ws) (hb : Below w.heap.size w w') : StrsO w' v ws := by
  obtain ⟨b, o, c, h1, h3, h4⟩ := h
  exact ⟨b, o, c, h1, Nat.lt_of_lt_of_le h3 hb.size, fun j hj => cell_below hb h3 (h4 j hj)⟩
theorem RowAt.all8 {b : Nat} {w : World} {v0 v1 v2 v3 v4 v5 v6 v7 : Value} (h : RowAt b [v0, v1, v2, v3, v4, v5, v6, v7] w) :
    (w.cell? ⟨b, 0, none⟩ = some v0 ∧ w.cell? ⟨b, 1, none⟩ = some v1 ∧ w.cell? ⟨b, 2, none⟩ = some v2 ∧ w.cell? ⟨b, 3, none⟩ = some v3 ∧ w.cell? ⟨b, 4, none⟩ = some v4 ∧ w.cell? ⟨b, 5, none⟩ = some v5 ∧ w.cell? ⟨b, 6, none⟩ = some v6 ∧ w.cell? ⟨b, 7, none⟩ = some v7) ∧ (w.frozen? ⟨b, 0, none⟩ = false ∧ w.frozen? ⟨b, 1, none⟩ = false ∧ w.frozen? ⟨b, 2, none⟩ = false ∧ w.frozen? ⟨b, 3, none⟩ = false ∧ w.frozen? ⟨b, 4, none⟩ = false ∧ w.frozen? ⟨b, 5, none⟩ = false ∧ w.frozen? ⟨b, 6, none⟩ = false ∧ w.frozen? ⟨b, 7, none⟩ = false) :=
  ⟨⟨(h.2 0 _ rfl).1, (h.2 1 _ rfl).1, (h.2 2 _ rfl).1, (h.2 3 _ rfl).1, (h.2 4 _ rfl).1, (h.2 5 _ rfl).1, (h.2 6 _ rfl).1, (h.2 7 _ rfl).1⟩, ⟨(h.2 0 _ rfl).2, (h.2 1 _ rfl).2, (h.2 2 _ rfl).2, (h.2 3 _ rfl).2, (h.2 4 _ rfl).2, (h.2 5 _ rfl).2, (h.2 6 _ rfl).2, (h.2 7 _ rfl).2⟩⟩

def kindsC : Array Value := #[.string ⟨#[]⟩, .string ⟨#[115, 111, 99, 107, 101, 116]⟩, .string ⟨#[98, 105, 110, 100]⟩, .string ⟨#[108, 105, 115, 116, 101, 110]⟩, .string ⟨#[99, 111, 110, 110, 101, 99, 116]⟩, .string ⟨#[97, 99, 99, 101, 112, 116]⟩, .string ⟨#[115, 101, 110, 100]⟩, .string ⟨#[114, 101, 99, 118]⟩, .string ⟨#[115, 104, 117, 116]⟩, .string ⟨#[99, 108, 111, 115, 101]⟩, .string ⟨#[115, 101, 110, 100, 116, 111]⟩, .string ⟨#[114, 101, 99, 118, 102, 114, 111, 109]⟩, .string ⟨#[110, 97, 109, 101]⟩, .string ⟨#[112, 105, 110, 103]⟩]
def formsC : Array Value := #[.string ⟨#[]⟩, .string ⟨#[112]⟩, .string ⟨#[115, 116]⟩, .string ⟨#[115, 110]⟩, .string ⟨#[115, 97, 116]⟩, .string ⟨#[115]⟩, .string ⟨#[115, 104]⟩, .string ⟨#[115, 110]⟩, .string ⟨#[115]⟩, .string ⟨#[115]⟩, .string ⟨#[115, 97, 116, 104]⟩, .string ⟨#[115]⟩, .string ⟨#[100]⟩, .string ⟨#[97]⟩]
theorem kinds_at (i : Nat) (h : i < 14) : kindsC[i]? = some (.string ⟨((Pa.verbL[i]?).getD []).toArray⟩) := by
  match i, h with
  | 0, _ => rfl
  | 1, _ => rfl
  | 2, _ => rfl
  | 3, _ => rfl
  | 4, _ => rfl
  | 5, _ => rfl
  | 6, _ => rfl
  | 7, _ => rfl
  | 8, _ => rfl
  | 9, _ => rfl
  | 10, _ => rfl
  | 11, _ => rfl
  | 12, _ => rfl
  | 13, _ => rfl
theorem forms_at (i : Nat) (h : i < 14) : formsC[i]? = some (.string ⟨((Pa.formL[i]?).getD []).toArray⟩) := by
  match i, h with
  | 0, _ => rfl
  | 1, _ => rfl
  | 2, _ => rfl
  | 3, _ => rfl
  | 4, _ => rfl
  | 5, _ => rfl
  | 6, _ => rfl
  | 7, _ => rfl
  | 8, _ => rfl
  | 9, _ => rfl
  | 10, _ => rfl
  | 11, _ => rfl
  | 12, _ => rfl
  | 13, _ => rfl
theorem Pa.verb_some (i : Nat) (h : i < 14) : Pa.verbL[i]? = some ((Pa.verbL[i]?).getD []) := by
  rw [List.getElem?_eq_getElem (by exact h)]; rfl
theorem Pa.kindU_yes {x : Pa.Bs} {i : Nat} (h1 : 1 ≤ i) (h : i < 14) (hx : x = (Pa.verbL[i]?).getD []) : Pa.kindU x (i + 1) = i := by
  rw [Pa.kindU, if_pos ⟨h1, by rw [hx]; exact Pa.verb_some i h⟩]
theorem Pa.kindU_no {x : Pa.Bs} {i : Nat} (h : i < 14) (hx : ¬ x = (Pa.verbL[i]?).getD []) : Pa.kindU x (i + 1) = Pa.kindU x i := by
  rw [Pa.kindU, if_neg]
  rintro ⟨_, h2⟩
  rw [Pa.verb_some i h] at h2
  exact hx (Option.some.inj h2).symm

set_option maxRecDepth 100000 in
set_option maxHeartbeats 2000000 in
theorem refCalled_any (x0 : Pa.Bs) (r : List Pa.Bs) (v : Value) (w : World) (hv : StrsO w v (x0 :: r)) (hr : r.length ≤ 1000000) (hsz : ∀ x ∈ r, x.length ≤ 1000000) :
    Calls Tryz.prog 65 #[v] w fun e w' => e = .returned (clV (Pa.calledR (x0 :: r))) ∧ Below w.heap.size w w' := by
  obtain ⟨b, o, c, rfl, hbl, hcell⟩ := hv
  have hlen : (x0 :: r).length = r.length + 1 := rfl
  rw [hlen]
  have hc0 := hcell 0 (by simp)
  have HCL : Hid (∀ (j : Nat) (h : j < r.length), w.cell? ⟨b, o + (j + 1), none⟩ = some (.string ⟨r[j].toArray⟩)) := fun j h => hcell (j + 1) (by simp; omega)
  simp only [List.getElem_cons_zero, Nat.add_zero] at hc0
  have HSZ := Lib.hid hsz
  clear hcell hsz hlen
  obtain ⟨X0, hX0⟩ : ∃ X0 : ByteArray, X0 = ⟨x0.toArray⟩ := ⟨_, rfl⟩
  rw [← hX0] at hc0
  have HX0 := Lib.hid hX0; clear hX0
  go_enter Tryz.func65, Tryz.ntmps65
  go_wp2_with fail
  obtain ⟨W, hW⟩ : ∃ W : World, W = ((w.alloc (.cells #[.int .i64 0, .int .i64 0, .int .i64 0, .int .i64 0, .int .i64 0, .string ⟨#[]⟩, .int .i64 0, .int .i64 0] 24)).alloc (.cells #[.int .i64 0, .int .i64 0, .int .i64 0, .int .i64 0, .int .i64 0, .string ⟨#[]⟩, .int .i64 0, .int .i64 0] 24)).alloc (.cells #[.string ⟨#[]⟩, .string ⟨#[115, 111, 99, 107, 101, 116]⟩, .string ⟨#[98, 105, 110, 100]⟩, .string ⟨#[108, 105, 115, 116, 101, 110]⟩, .string ⟨#[99, 111, 110, 110, 101, 99, 116]⟩, .string ⟨#[97, 99, 99, 101, 112, 116]⟩, .string ⟨#[115, 101, 110, 100]⟩, .string ⟨#[114, 101, 99, 118]⟩, .string ⟨#[115, 104, 117, 116]⟩, .string ⟨#[99, 108, 111, 115, 101]⟩, .string ⟨#[115, 101, 110, 100, 116, 111]⟩, .string ⟨#[114, 101, 99, 118, 102, 114, 111, 109]⟩, .string ⟨#[110, 97, 109, 101]⟩, .string ⟨#[112, 105, 110, 103]⟩] 9) := ⟨_, rfl⟩
  rw [← hW]
  have hbW : Below w.heap.size w W := by rw [hW]; exact (((Below.refl _ _).alloc (Nat.le_refl _) _).alloc (by simp) _).alloc (by simp; omega) _
  have rRes : RowAt w.heap.size (#[.int .i64 0, .int .i64 0, .int .i64 0, .int .i64 0, .int .i64 0, .string ⟨#[]⟩, .int .i64 0, .int .i64 0] : Array Value).toList W := by rw [hW]; exact ((RowAt.new w _ _).below ((Below.refl _ _).alloc (Nat.le_refl _) _)).below ((Below.refl _ _).alloc (Nat.le_refl _) _)
  have rC : RowAt (w.heap.size + 1) (clCells Pa.c0) W := by
    have h := (RowAt.new (w.alloc (.cells #[.int .i64 0, .int .i64 0, .int .i64 0, .int .i64 0, .int .i64 0, .string ⟨#[]⟩, .int .i64 0, .int .i64 0] 24)) #[.int .i64 0, .int .i64 0, .int .i64 0, .int .i64 0, .int .i64 0, .string ⟨#[]⟩, .int .i64 0, .int .i64 0] 24).below (w' := W) (by rw [hW]; exact (Below.refl _ _).alloc (Nat.le_refl _) _)
    rw [World.size_alloc] at h; exact h
  have rK : RowAt (w.heap.size + 1 + 1) kindsC.toList W := by
    have h := RowAt.new ((w.alloc (.cells #[.int .i64 0, .int .i64 0, .int .i64 0, .int .i64 0, .int .i64 0, .string ⟨#[]⟩, .int .i64 0, .int .i64 0] 24)).alloc (.cells #[.int .i64 0, .int .i64 0, .int .i64 0, .int .i64 0, .int .i64 0, .string ⟨#[]⟩, .int .i64 0, .int .i64 0] 24)) kindsC 9
    rw [World.size_alloc, World.size_alloc] at h; rw [hW]; exact h
  clear hW
  go_loopw [5] (fun iv wr => ∃ i : Nat, iv = .int .i64 i ∧ 1 ≤ i ∧ i ≤ 14 ∧ Hid (RowAt (w.heap.size + 1) (clCells { Pa.c0 with kind := (Pa.kindU x0 i : Int) }) wr) ∧ Kp (fun k => k = w.heap.size + 1) W wr) (fun iv _ => 14 - (intOf iv).toNat)
  case atStart => exact ⟨1, rfl, Nat.le_refl _, by omega, rC, Kp.refl _ _⟩
  case round =>
    obtain ⟨i, rfl, hi1, hi14, hrow, hkp⟩ := hrel
    have c0 : wr.cell? ⟨b, o, none⟩ = some (.string X0) := by
      rw [hkp.cell (Nat.lt_of_lt_of_le hbl hbW.size) (by omega)]; exact cell_below hbW hbl hc0
    by_cases hi : i < 14
    · have ck : wr.cell? ⟨w.heap.size + 1 + 1, i, none⟩ = some (.string ⟨((Pa.verbL[i]?).getD []).toArray⟩) := by
        rw [hkp.cell rK.1 (by omega)]
        exact (rK.2 i _ (by rw [← kinds_at i hi]; simp)).1
      obtain ⟨V, hV⟩ : ∃ V : ByteArray, V = ⟨((Pa.verbL[i]?).getD []).toArray⟩ := ⟨_, rfl⟩
      rw [← hV] at ck
      have heq : (X0.toList == V.toList) = decide (x0 = (Pa.verbL[i]?).getD []) := by rw [HX0.out, hV]; exact str_eq_mk _ _
      have b1 : (0 : Int) ≤ (i : Int) := by omega
      have b2 : (i : Int) < 14 := by omega
      have b3 : (0 : Int) < ((r.length + 1 : Nat) : Int) := by omega
      by_cases hx : x0 = (Pa.verbL[i]?).getD []
      · rw [decide_eq_true hx] at heq
        have HN := Lib.hid (Pa.kindU_yes hi1 hi hx)
        clear hx hV
        obtain ⟨⟨m0, m1, m2, m3, m4, m5, m6, m7⟩, ⟨n0, n1, n2, n3, n4, n5, n6, n7⟩⟩ := hrow.out.all8
        go_wp2
        go_quiet (fail)
        go_wp2
        go_roundw
        case rel =>
          refine ⟨i + 1, by go_num, by omega, by omega, ?_, ?_⟩
          · rw [Hid, HN.out]; exact (hrow.out.below (drewN_below wr nq)).set 0 (by simp [clCells]) _
          · exact (hkp.on (drewN_below wr nq)).setCell (.inl rfl) _
        case measure => simp [intOf]; omega
      · rw [decide_eq_false hx] at heq
        have HN := Lib.hid (Pa.kindU_no hi hx)
        clear hx hV
        go_wp2
        go_quiet (fail)
        go_wp2
        go_roundw
        case rel =>
          refine ⟨i + 1, by go_num, by omega, by omega, ?_, ?_⟩
          · rw [Hid, HN.out]; exact hrow.out.below (drewN_below wr nq)
          · exact hkp.on (drewN_below wr nq)
        case measure => simp [intOf]; omega
    · obtain rfl : i = 14 := by omega
      have b2 : ¬ ((14 : Nat) : Int) < 14 := by omega
      obtain ⟨kk, hkk⟩ : ∃ kk : Nat, kk = Pa.kindU x0 14 := ⟨_, rfl⟩
      have hk13 : kk ≤ 13 := by rw [hkk]; exact Pa.kindU_lt x0 14
      have hform : Pa.formOf x0 = (Pa.formL[kk]?).getD [] := by rw [hkk]; rfl
      rw [← hkk] at hrow
      have hfat := forms_at kk (by omega)
      rw [← hform] at hfat
      obtain ⟨fo, hfo⟩ : ∃ fo : ByteArray, fo = ⟨(Pa.formOf x0).toArray⟩ := ⟨_, rfl⟩
      rw [← hfo] at hfat
      have hfsz : fo.size = (Pa.formOf x0).length := by rw [hfo]; exact mk_size _
      have hfby : ∀ (j : Nat) (h : j < fo.size) (h' : j < (Pa.formOf x0).length), (Pa.formOf x0)[j]'h' = fo[j] := by rw [hfo]; intro j h h'; rfl
      have HFB := Lib.hid hfby; have HFZ := Lib.hid hfsz
      have hres : Pa.calledR (x0 :: r) = if r.length + 1 ≠ 1 + fo.size then Pa.c0 else Pa.foldR { Pa.c0 with kind := (kk : Int) } (Pa.formOf x0) r := by
        rw [Pa.calledR, hfsz, hkk]; rfl
      have HRES := Lib.hid hres
      have hf4 : fo.size ≤ 4 := by
        rw [hfsz, hform]
        match kk, hk13 with
        | 0, _ => exact Nat.le_of_ble_eq_true rfl
        | 1, _ => exact Nat.le_of_ble_eq_true rfl
        | 2, _ => exact Nat.le_of_ble_eq_true rfl
        | 3, _ => exact Nat.le_of_ble_eq_true rfl
        | 4, _ => exact Nat.le_of_ble_eq_true rfl
        | 5, _ => exact Nat.le_of_ble_eq_true rfl
        | 6, _ => exact Nat.le_of_ble_eq_true rfl
        | 7, _ => exact Nat.le_of_ble_eq_true rfl
        | 8, _ => exact Nat.le_of_ble_eq_true rfl
        | 9, _ => exact Nat.le_of_ble_eq_true rfl
        | 10, _ => exact Nat.le_of_ble_eq_true rfl
        | 11, _ => exact Nat.le_of_ble_eq_true rfl
        | 12, _ => exact Nat.le_of_ble_eq_true rfl
        | 13, _ => exact Nat.le_of_ble_eq_true rfl
      clear hkk hform hfo hfsz hfby hres hi b2
      obtain ⟨⟨m0, m1, m2, m3, m4, m5, m6, m7⟩, ⟨n0, n1, n2, n3, n4, n5, n6, n7⟩⟩ := hrow.out.all8
      have hfc : ∀ u : World, (u.alloc (.cells #[.string ⟨#[]⟩, .string ⟨#[112]⟩, .string ⟨#[115, 116]⟩, .string ⟨#[115, 110]⟩, .string ⟨#[115, 97, 116]⟩, .string ⟨#[115]⟩, .string ⟨#[115, 104]⟩, .string ⟨#[115, 110]⟩, .string ⟨#[115]⟩, .string ⟨#[115]⟩, .string ⟨#[115, 97, 116, 104]⟩, .string ⟨#[115]⟩, .string ⟨#[100]⟩, .string ⟨#[97]⟩] 9)).cell? ⟨u.heap.size, kk, none⟩ = some (.string fo) := fun u => by
        rw [World.cell?_alloc_at _ _ _ _ rfl]; exact hfat
      have hfcw := hfc wr
      have bk0 : (0 : Int) ≤ (kk : Int) := by omega
      have bk1 : (kk : Int) < 14 := by omega
      have mm0 : (wr.alloc (.cells #[.string ⟨#[]⟩, .string ⟨#[112]⟩, .string ⟨#[115, 116]⟩, .string ⟨#[115, 110]⟩, .string ⟨#[115, 97, 116]⟩, .string ⟨#[115]⟩, .string ⟨#[115, 104]⟩, .string ⟨#[115, 110]⟩, .string ⟨#[115]⟩, .string ⟨#[115]⟩, .string ⟨#[115, 97, 116, 104]⟩, .string ⟨#[115]⟩, .string ⟨#[100]⟩, .string ⟨#[97]⟩] 9)).cell? ⟨w.heap.size + 1, 0, none⟩ = some (.int .i64 (kk : Int)) := cell_old _ hrow.out.1 m0
      have hne : ¬ w.heap.size + 1 = wr.heap.size := by have := hrow.out.1; omega
      go_upto_region 9 with fail
      obtain ⟨W5, hW5⟩ : ∃ W5 : World, W5 = wr.alloc (.cells #[.string ⟨#[]⟩, .string ⟨#[112]⟩, .string ⟨#[115, 116]⟩, .string ⟨#[115, 110]⟩, .string ⟨#[115, 97, 116]⟩, .string ⟨#[115]⟩, .string ⟨#[115, 104]⟩, .string ⟨#[115, 110]⟩, .string ⟨#[115]⟩, .string ⟨#[115]⟩, .string ⟨#[115, 97, 116, 104]⟩, .string ⟨#[115]⟩, .string ⟨#[100]⟩, .string ⟨#[97]⟩] 9) := ⟨_, rfl⟩
      rw [← hW5]
      have hb5 : Below wr.heap.size wr W5 := by rw [hW5]; exact (Below.refl _ _).alloc (Nat.le_refl _) _
      have row5 := hrow.out.below hb5
      have res5 := (rRes.kp hkp (by omega)).below hb5
      have hBr := Kp.up hbW hkp hbW.size (fun k hk e => by omega)
      have hB5 := below_on hBr hb5
      have HC5 : Hid (∀ (j : Nat) (h : j < r.length), W5.cell? ⟨b, o + (j + 1), none⟩ = some (.string ⟨r[j].toArray⟩)) := fun j h => cell_below hB5 hbl (HCL.out j h)
      have hb5l : b < W5.heap.size := Nat.lt_of_lt_of_le hbl hB5.size
      clear hW5 hfc hfcw hfat mm0 hne m0 m1 m2 m3 m4 m5 m6 m7 n0 n1 n2 n3 n4 n5 n6 n7 hrow rRes rC rK c0
      by_cases hlen : r.length = fo.size
      · have HR : Hid (Pa.calledR (x0 :: r) = Pa.foldR { Pa.c0 with kind := (kk : Int) } (Pa.formOf x0) r) := by
          rw [Hid, HRES.out, if_neg (by omega)]
        have hl1 : (((r.length : Int) + 1) != (1 + (fo.size : Int))) = false := by rw [bne_eq_false_iff_eq]; omega
        have HLEN := Lib.hid hlen
        clear hlen
        go_wp2_with fail
        go_loopw [7] (fun kv wr => ∃ k : Nat, kv = .int .i64 k ∧ k ≤ fo.size ∧ Hid (RowAt (w.heap.size + 1) (clCells (Pa.foldR { Pa.c0 with kind := (kk : Int) } ((Pa.formOf x0).take k) (r.take k))) wr) ∧ Kp (fun k => k = w.heap.size + 1) W5 wr) (fun kv _ => fo.size - (intOf kv).toNat)
        case atStart => exact ⟨0, rfl, Nat.zero_le _, row5, Kp.refl _ _⟩
        case round =>
          obtain ⟨k, rfl, hkf, hrow', hkp⟩ := hrel
          by_cases hk : k < fo.size
          · have hkr : k < r.length := by have := HLEN.out; omega
            have hkF : k < (Pa.formOf x0).length := by have := HFZ.out; omega
            have hcw : wr.cell? ⟨b, o + (k + 1), none⟩ = some (.string ⟨r[k].toArray⟩) := by rw [hkp.cell hb5l (by omega)]; exact HC5.out k hkr
            have hstep := Pa.foldR_snoc k { Pa.c0 with kind := (kk : Int) } (Pa.formOf x0) r hkF hkr
            rw [HFB.out k hk hkF] at hstep
            obtain ⟨⟨j1, j2, j3, j4, j5, j6, j7, j8⟩, hC⟩ : ∃ C, C = Pa.foldR { Pa.c0 with kind := (kk : Int) } ((Pa.formOf x0).take k) (r.take k) := ⟨_, rfl⟩
            rw [← hC] at hstep hrow'
            have HN := Lib.hid hstep
            clear hC hstep
            have hxs := HSZ.out r[k] (List.getElem_mem hkr)
            obtain ⟨X, hX⟩ : ∃ X : ByteArray, X = ⟨r[k].toArray⟩ := ⟨_, rfl⟩
            have hxd : X.data.toList = r[k] := by rw [hX]
            have hXs : X.size ≤ 1000000 := by rw [hX, mk_size]; exact hxs
            have cN := fun u => refNumber27_any X u (by omega)
            have cP := fun u => refParse_any X u hXs
            have cB := fun u => refBytes_any X u hXs
            rw [hxd] at cN cP cB
            rw [← hX] at hcw
            have HX := Lib.hid hX
            have HXL : Hid (X.toList = r[k]) := by rw [Hid, ByteArray.toList_eq, hxd]
            have b1 : (0 : Int) ≤ (k : Int) := by omega
            have b2 : (k : Int) < (fo.size : Int) := by omega
            have b3 : (0 : Int) ≤ (k : Int) + 1 := by omega
            have b4 : (k : Int) + 1 < (r.length : Int) + 1 := by omega
            have t1 : ((k : Int) + 1).toNat = k + 1 := by omega
            clear hX hxd hxs
            by_cases o112 : fo[k] = 112
            · have hcv := o112
              clear o112
              have q112 : ((fo[k].toNat : Int) == 112) = true := by rw [hcv]; rfl
              by_cases hw : r[k] = Pa.w_tcp
              · have HS : Hid (Pa.stepR (⟨j1, j2, j3, j4, j5, j6, j7, j8⟩ : Pa.Cl) fo[k] r[k] = ⟨j1, j2, j3, j4, 6, j6, j7, j8⟩) := by rw [Hid, Pa.stepR, hcv]; simp [hw]
                have w1 : (X.toList == [116, 99, 112]) = true := by rw [HXL.out, hw]; rfl
                have w2 : (X.toList == [117, 100, 112]) = false := by rw [HXL.out, hw]; rfl
                have w2' : ¬ X.toList = [117, 100, 112] := by rw [HXL.out, hw]; decide
                clear hcv
                obtain ⟨⟨m0, m1, m2, m3, m4, m5, m6, m7⟩, ⟨n0, n1, n2, n3, n4, n5, n6, n7⟩⟩ := hrow'.out.all8
                go_wp2
                go_roundw
                case rel => exact ⟨k + 1, by go_num, by omega, by rw [Hid, HN.out, HS.out]; exact hrow'.out.set 4 (by simp [clCells]) _, hkp.setCell (.inl rfl) _⟩
                case measure => simp [intOf]; omega
              by_cases hw2 : r[k] = Pa.w_udp
              · have HS : Hid (Pa.stepR (⟨j1, j2, j3, j4, j5, j6, j7, j8⟩ : Pa.Cl) fo[k] r[k] = ⟨j1, j2, j3, j4, 17, j6, j7, j8⟩) := by rw [Hid, Pa.stepR, hcv]; simp [hw2]
                have w1 : (X.toList == [116, 99, 112]) = false := by rw [HXL.out, hw2]; rfl
                have w1' : ¬ X.toList = [116, 99, 112] := by rw [HXL.out, hw2]; decide
                have w2 : (X.toList == [117, 100, 112]) = true := by rw [HXL.out, hw2]; rfl
                clear hcv
                obtain ⟨⟨m0, m1, m2, m3, m4, m5, m6, m7⟩, ⟨n0, n1, n2, n3, n4, n5, n6, n7⟩⟩ := hrow'.out.all8
                go_wp2
                go_roundw
                case rel => exact ⟨k + 1, by go_num, by omega, by rw [Hid, HN.out, HS.out]; exact hrow'.out.set 4 (by simp [clCells]) _, hkp.setCell (.inl rfl) _⟩
                case measure => simp [intOf]; omega
              · have HS : Hid (Pa.stepR (⟨j1, j2, j3, j4, j5, j6, j7, j8⟩ : Pa.Cl) fo[k] r[k] = ⟨j1, j2, j3, j4, j5, j6, j7, j8⟩) := by rw [Hid, Pa.stepR, hcv]; simp [hw, hw2]
                have w1 : (X.toList == [116, 99, 112]) = false := by rw [HXL.out, beq_eq_false_iff_ne]; exact hw
                have w1' : ¬ X.toList = [116, 99, 112] := by rw [HXL.out]; exact hw
                have w2 : (X.toList == [117, 100, 112]) = false := by rw [HXL.out, beq_eq_false_iff_ne]; exact hw2
                have w2' : ¬ X.toList = [117, 100, 112] := by rw [HXL.out]; exact hw2
                clear hcv
                obtain ⟨⟨m0, m1, m2, m3, m4, m5, m6, m7⟩, ⟨n0, n1, n2, n3, n4, n5, n6, n7⟩⟩ := hrow'.out.all8
                go_wp2
                go_roundw
                case rel => exact ⟨k + 1, by go_num, by omega, by rw [Hid, HN.out, HS.out]; exact hrow'.out, hkp⟩
                case measure => simp [intOf]; omega
            by_cases o115 : fo[k] = 115
            · have hcv := o115
              clear o115
              have HS : Hid (Pa.stepR (⟨j1, j2, j3, j4, j5, j6, j7, j8⟩ : Pa.Cl) fo[k] r[k] = ⟨j1, Pa.numR r[k] 1000000, j3, j4, j5, j6, j7, j8⟩) := by rw [Hid, Pa.stepR, hcv]; rfl
              have q112 : ((fo[k].toNat : Int) == 112) = false := by rw [hcv]; rfl
              have q115 : ((fo[k].toNat : Int) == 115) = true := by rw [hcv]; rfl
              clear hcv
              go_wp2_with (go_at_call 64; refine (cN _).mono ?_; rintro e u1 ⟨rfl, hb1⟩; obtain ⟨⟨m0, m1, m2, m3, m4, m5, m6, m7⟩, ⟨n0, n1, n2, n3, n4, n5, n6, n7⟩⟩ := (hrow'.out.below hb1).all8)
              go_roundw
              case rel => exact ⟨k + 1, by go_num, by omega, by rw [Hid, HN.out, HS.out]; exact (hrow'.out.below hb1).set 1 (by simp [clCells]) _, (hkp.on hb1).setCell (.inl rfl) _⟩
              case measure => simp [intOf]; omega
            by_cases o116 : fo[k] = 116
            · have hcv := o116
              clear o116
              have HS : Hid (Pa.stepR (⟨j1, j2, j3, j4, j5, j6, j7, j8⟩ : Pa.Cl) fo[k] r[k] = ⟨j1, j2, j3, Pa.numR r[k] 1000000, j5, j6, j7, j8⟩) := by rw [Hid, Pa.stepR, hcv]; rfl
              have q112 : ((fo[k].toNat : Int) == 112) = false := by rw [hcv]; rfl
              have q115 : ((fo[k].toNat : Int) == 115) = false := by rw [hcv]; rfl
              have q116 : ((fo[k].toNat : Int) == 116) = true := by rw [hcv]; rfl
              clear hcv
              go_wp2_with (go_at_call 64; refine (cN _).mono ?_; rintro e u1 ⟨rfl, hb1⟩; obtain ⟨⟨m0, m1, m2, m3, m4, m5, m6, m7⟩, ⟨n0, n1, n2, n3, n4, n5, n6, n7⟩⟩ := (hrow'.out.below hb1).all8)
              go_roundw
              case rel => exact ⟨k + 1, by go_num, by omega, by rw [Hid, HN.out, HS.out]; exact (hrow'.out.below hb1).set 3 (by simp [clCells]) _, (hkp.on hb1).setCell (.inl rfl) _⟩
              case measure => simp [intOf]; omega
            by_cases o110 : fo[k] = 110
            · have hcv := o110
              clear o110
              have HS : Hid (Pa.stepR (⟨j1, j2, j3, j4, j5, j6, j7, j8⟩ : Pa.Cl) fo[k] r[k] = ⟨j1, j2, j3, j4, Pa.numR r[k] 1000000, j6, j7, j8⟩) := by rw [Hid, Pa.stepR, hcv]; rfl
              have q112 : ((fo[k].toNat : Int) == 112) = false := by rw [hcv]; rfl
              have q115 : ((fo[k].toNat : Int) == 115) = false := by rw [hcv]; rfl
              have q116 : ((fo[k].toNat : Int) == 116) = false := by rw [hcv]; rfl
              have q110 : ((fo[k].toNat : Int) == 110) = true := by rw [hcv]; rfl
              clear hcv
              go_wp2_with (go_at_call 64; refine (cN _).mono ?_; rintro e u1 ⟨rfl, hb1⟩; obtain ⟨⟨m0, m1, m2, m3, m4, m5, m6, m7⟩, ⟨n0, n1, n2, n3, n4, n5, n6, n7⟩⟩ := (hrow'.out.below hb1).all8)
              go_roundw
              case rel => exact ⟨k + 1, by go_num, by omega, by rw [Hid, HN.out, HS.out]; exact (hrow'.out.below hb1).set 4 (by simp [clCells]) _, (hkp.on hb1).setCell (.inl rfl) _⟩
              case measure => simp [intOf]; omega
            by_cases o97 : fo[k] = 97
            · have hcv := o97
              clear o97
              have q112 : ((fo[k].toNat : Int) == 112) = false := by rw [hcv]; rfl
              have q115 : ((fo[k].toNat : Int) == 115) = false := by rw [hcv]; rfl
              have q116 : ((fo[k].toNat : Int) == 116) = false := by rw [hcv]; rfl
              have q110 : ((fo[k].toNat : Int) == 110) = false := by rw [hcv]; rfl
              have q97 : ((fo[k].toNat : Int) == 97) = true := by rw [hcv]; rfl
              cases hpo : Pa.parOk r[k] with
              | true =>
                have HS : Hid (Pa.stepR (⟨j1, j2, j3, j4, j5, j6, j7, j8⟩ : Pa.Cl) fo[k] r[k] = ⟨j1, j2, Pa.parV r[k], j4, j5, j6, j7, j8⟩) := by rw [Hid, Pa.stepR, hcv]; simp [hpo]
                rw [hpo] at cP
                clear hcv hpo
                go_wp2_with (go_at_call 82; refine (cP _).mono ?_; rintro e u1 ⟨rfl, hb1⟩; obtain ⟨⟨m0, m1, m2, m3, m4, m5, m6, m7⟩, ⟨n0, n1, n2, n3, n4, n5, n6, n7⟩⟩ := (hrow'.out.below hb1).all8)
                go_roundw
                case rel => exact ⟨k + 1, by go_num, by omega, by rw [Hid, HN.out, HS.out]; exact (hrow'.out.below hb1).set 2 (by simp [clCells]) _, (hkp.on hb1).setCell (.inl rfl) _⟩
                case measure => simp [intOf]; omega
              | false =>
                have HS : Hid (Pa.stepR (⟨j1, j2, j3, j4, j5, j6, j7, j8⟩ : Pa.Cl) fo[k] r[k] = ⟨j1, j2, -1, j4, j5, j6, j7, j8⟩) := by rw [Hid, Pa.stepR, hcv]; simp [hpo]
                rw [hpo] at cP
                clear hcv hpo
                go_wp2_with (go_at_call 82; refine (cP _).mono ?_; rintro e u1 ⟨rfl, hb1⟩; obtain ⟨⟨m0, m1, m2, m3, m4, m5, m6, m7⟩, ⟨n0, n1, n2, n3, n4, n5, n6, n7⟩⟩ := (hrow'.out.below hb1).all8)
                go_roundw
                case rel => exact ⟨k + 1, by go_num, by omega, by rw [Hid, HN.out, HS.out]; exact ((hrow'.out.below hb1).set 2 (by simp [clCells]) _).set 2 (by simp [clCells]) _, ((hkp.on hb1).setCell (.inl rfl) _).setCell (.inl rfl) _⟩
                case measure => simp [intOf]; omega
            by_cases o104 : fo[k] = 104
            · have hcv := o104
              clear o104
              have q112 : ((fo[k].toNat : Int) == 112) = false := by rw [hcv]; rfl
              have q115 : ((fo[k].toNat : Int) == 115) = false := by rw [hcv]; rfl
              have q116 : ((fo[k].toNat : Int) == 116) = false := by rw [hcv]; rfl
              have q110 : ((fo[k].toNat : Int) == 110) = false := by rw [hcv]; rfl
              have q97 : ((fo[k].toNat : Int) == 97) = false := by rw [hcv]; rfl
              have q104 : ((fo[k].toNat : Int) == 104) = true := by rw [hcv]; rfl
              cases hpo : Pa.bytesB r[k] with
              | true =>
                have HS : Hid (Pa.stepR (⟨j1, j2, j3, j4, j5, j6, j7, j8⟩ : Pa.Cl) fo[k] r[k] = ⟨j1, j2, j3, j4, j5, ⟨(Pa.bytesS r[k]).toArray⟩, j7, j8⟩) := by rw [Hid, Pa.stepR, hcv]; simp [hpo]
                rw [hpo] at cB
                clear hcv hpo
                go_wp2_with (go_at_call 66; refine (cB _).mono ?_; rintro e u1 ⟨rfl, hb1⟩; obtain ⟨⟨m0, m1, m2, m3, m4, m5, m6, m7⟩, ⟨n0, n1, n2, n3, n4, n5, n6, n7⟩⟩ := (hrow'.out.below hb1).all8)
                go_roundw
                case rel => exact ⟨k + 1, by go_num, by omega, by rw [Hid, HN.out, HS.out]; exact (hrow'.out.below hb1).set 5 (by simp [clCells]) _, (hkp.on hb1).setCell (.inl rfl) _⟩
                case measure => simp [intOf]; omega
              | false =>
                have HS : Hid (Pa.stepR (⟨j1, j2, j3, j4, j5, j6, j7, j8⟩ : Pa.Cl) fo[k] r[k] = ⟨j1, -1, j3, j4, j5, ⟨(Pa.bytesS r[k]).toArray⟩, j7, j8⟩) := by rw [Hid, Pa.stepR, hcv]; simp [hpo]
                rw [hpo] at cB
                clear hcv hpo
                go_wp2_with (go_at_call 66; refine (cB _).mono ?_; rintro e u1 ⟨rfl, hb1⟩; obtain ⟨⟨m0, m1, m2, m3, m4, m5, m6, m7⟩, ⟨n0, n1, n2, n3, n4, n5, n6, n7⟩⟩ := (hrow'.out.below hb1).all8)
                go_roundw
                case rel => exact ⟨k + 1, by go_num, by omega, by rw [Hid, HN.out, HS.out]; exact ((hrow'.out.below hb1).set 5 (by simp [clCells]) _).set 1 (by simp [clCells]) _, ((hkp.on hb1).setCell (.inl rfl) _).setCell (.inl rfl) _⟩
                case measure => simp [intOf]; omega
            have HS : Hid (Pa.stepR (⟨j1, j2, j3, j4, j5, j6, j7, j8⟩ : Pa.Cl) fo[k] r[k] = ⟨j1, j2, j3, j4, j5, X, j7, j8⟩) := by
              rw [Hid, Pa.stepR, if_neg o112, if_neg o115, if_neg o116, if_neg o110, if_neg o97, if_neg o104, HX.out]
            have q112 : ((fo[k].toNat : Int) == 112) = false := by rw [beq_eq_false_iff_ne]; intro e; exact o112 (UInt8.toNat_inj.1 (by show fo[k].toNat = 112; omega))
            have q115 : ((fo[k].toNat : Int) == 115) = false := by rw [beq_eq_false_iff_ne]; intro e; exact o115 (UInt8.toNat_inj.1 (by show fo[k].toNat = 115; omega))
            have q116 : ((fo[k].toNat : Int) == 116) = false := by rw [beq_eq_false_iff_ne]; intro e; exact o116 (UInt8.toNat_inj.1 (by show fo[k].toNat = 116; omega))
            have q110 : ((fo[k].toNat : Int) == 110) = false := by rw [beq_eq_false_iff_ne]; intro e; exact o110 (UInt8.toNat_inj.1 (by show fo[k].toNat = 110; omega))
            have q97 : ((fo[k].toNat : Int) == 97) = false := by rw [beq_eq_false_iff_ne]; intro e; exact o97 (UInt8.toNat_inj.1 (by show fo[k].toNat = 97; omega))
            have q104 : ((fo[k].toNat : Int) == 104) = false := by rw [beq_eq_false_iff_ne]; intro e; exact o104 (UInt8.toNat_inj.1 (by show fo[k].toNat = 104; omega))
            clear o112 o115 o116 o110 o97 o104
            obtain ⟨⟨m0, m1, m2, m3, m4, m5, m6, m7⟩, ⟨n0, n1, n2, n3, n4, n5, n6, n7⟩⟩ := hrow'.out.all8
            go_wp2
            go_roundw
            case rel => exact ⟨k + 1, by go_num, by omega, by rw [Hid, HN.out, HS.out]; exact hrow'.out.set 5 (by simp [clCells]) _, hkp.setCell (.inl rfl) _⟩
            case measure => simp [intOf]; omega
          · have hkE : k = fo.size := by omega
            have HE : Hid (Pa.foldR { Pa.c0 with kind := (kk : Int) } ((Pa.formOf x0).take k) (r.take k) = Pa.calledR (x0 :: r)) := by
              rw [Hid, HR.out, hkE, HFZ.out, Pa.foldR_all]
            rw [HE.out] at hrow'
            have b2 : ¬ (k : Int) < (fo.size : Int) := by omega
            obtain ⟨⟨j1, j2, j3, j4, j5, j6, j7, j8⟩, hC⟩ : ∃ C, C = Pa.calledR (x0 :: r) := ⟨_, rfl⟩
            rw [← hC] at hrow'
            have HC := Lib.hid hC
            clear hC HE hkE HR HRES
            obtain ⟨⟨m0, m1, m2, m3, m4, m5, m6, m7⟩, -⟩ := hrow'.out.all8
            obtain ⟨⟨d0, d1, d2, d3, d4, d5, d6, d7⟩, ⟨g0, g1, g2, g3, g4, g5, g6, g7⟩⟩ := (res5.kp hkp (by omega)).all8
            have hBe := Kp.up hB5 hkp hB5.size (fun k hk e => by omega)
            go_wp2
            refine bodyPost_ret (v := clV ⟨j1, j2, j3, j4, j5, j6, j7, j8⟩) (by simp [results, Tryz.results65, go_sem, clV, d0, d1, d2, d3, d4, d5, d6, d7]) rfl ⟨by rw [← HC.out], ?_⟩
            repeat (with_reducible refine Below.setCell ?_ (by simp) _)
            exact hBe
      · have HR : Hid (Pa.calledR (x0 :: r) = Pa.c0) := by rw [Hid, HRES.out, if_pos (by omega)]
        have hl1 : (((r.length : Int) + 1) != (1 + (fo.size : Int))) = true := by rw [bne_iff_ne]; omega
        clear hlen
        obtain ⟨⟨d0, d1, d2, d3, d4, d5, d6, d7⟩, ⟨g0, g1, g2, g3, g4, g5, g6, g7⟩⟩ := res5.all8
        go_wp2
        refine bodyPost_ret (v := clV Pa.c0) (by simp [results, Tryz.results65, go_sem, clV, Pa.c0, d0, d1, d2, d3, d4, d5, d6, d7]) rfl ⟨by rw [HR.out], ?_⟩
        repeat (with_reducible refine Below.setCell ?_ (by simp) _)
        exact hB5

end Go.Proofs.YtgajoiijebbagaaGreatDoor
