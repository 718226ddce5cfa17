/-
  The walk of the statement ScriptFieldFormats: it returns true for every input, and what was there is unchanged. Conditions: the library's variables read as laid.
-/
import Derived.Test.YtgajoiijebbagaaGreatDoorPs
import Derived.Test.YtgajoiijebbagaaGreatDoorPln
namespace Go.Proofs.YtgajoiijebbagaaGreatDoor
open Go.RowKit Go.Proofs

theorem run_one (u : World) (c : UInt8) : (convert 40 9 (.slice (some ⟨u.heap.size, 0, none⟩) 1 1)).run Tryz.prog (u.alloc (.cells #[.int .u8 (c.toNat : Int)] 5)) = .ok (.string ⟨#[c]⟩) (u.alloc (.cells #[.int .u8 (c.toNat : Int)] 5)) :=
  run_convert_bytes_back (P := Tryz.prog) (u.alloc (.cells #[.int .u8 (c.toNat : Int)] 5)) 40 9 5 ⟨u.heap.size, 0, none⟩ 1 [c] Tryz.underlying40 Tryz.underlying5 Tryz.underlying9 (fun j hj => by
    obtain rfl : j = 0 := by simp at hj; omega
    rw [addr_add]; simp)

theorem cat_ping {h a : Int} {c : UInt8} (hr : 0 ≤ h ∧ h ≤ 7) (hc : c = UInt8.ofNat (48 + h.toNat)) : Pa.lineA (Pa.pingA h a) ++ [10] = (ByteArray.mk #[99, 97, 108, 108, 32] ++ ByteArray.mk #[c] ++ ByteArray.mk #[32, 112, 105, 110, 103, 32] ++ ByteArray.mk (List.toArray (Pa.fmtS a)) ++ ByteArray.mk #[10]).toList := by
  rw [ByteArray.toList_eq, Pa.line_ping hr, hc]; simp
theorem cat_ask {h : Int} {s : ByteArray} {c : UInt8} (hr : 0 ≤ h ∧ h ≤ 7) (hc : c = UInt8.ofNat (48 + h.toNat)) : Pa.lineA (Pa.askA h s) ++ [10] = (ByteArray.mk #[99, 97, 108, 108, 32] ++ ByteArray.mk #[c] ++ ByteArray.mk #[32, 110, 97, 109, 101, 32] ++ s ++ ByteArray.mk #[10]).toList := by
  rw [ByteArray.toList_eq, Pa.line_ask hr, hc]; simp
theorem cat_send {h : Int} {s : ByteArray} {c : UInt8} (hr : 0 ≤ h ∧ h ≤ 7) (hc : c = UInt8.ofNat (48 + h.toNat)) (hs : s.toList = []) : Pa.lineA (Pa.sendA h s) ++ [10] = (ByteArray.mk #[99, 97, 108, 108, 32] ++ ByteArray.mk #[c] ++ ByteArray.mk #[32, 115, 101, 110, 100, 32, 51, 32, 45, 10]).toList := by
  rw [ByteArray.toList_eq] at hs
  rw [ByteArray.toList_eq, Pa.line_send hr, hc, Pa.hexL, if_pos hs]; simp
theorem len_send {h : Int} {s : ByteArray} (hr : 0 ≤ h ∧ h ≤ 7) (hs : ¬ s.toList = []) : (!s.toList.isEmpty && ((Pa.lineA (Pa.sendA h s)).length : Int) + 1 == 15 + 2 * (s.size : Int)) = true := by
  have e : s.toList.isEmpty = false := by simpa using hs
  rw [ByteArray.toList_eq] at hs
  have e2 : (Pa.lineA (Pa.sendA h s)).length = 14 + 2 * s.size := by
    rw [Pa.line_send hr, Pa.hexL, if_neg hs]
    simp only [List.length_append, Pa.hexs_length, List.length_cons, List.length_nil]
    have e3 : s.data.toList.length = s.size := by rw [Array.length_toList]; rfl
    rw [e3]
  rw [e, e2]; simp; omega

set_option maxRecDepth 100000 in
set_option maxHeartbeats 8000000 in
theorem law12 (a : Int) (s b : ByteArray) (host : Int) (w : World) (ok : Ok w) (h0 : 0 ≤ host) (h1 : host ≤ 255) (hs : s.size ≤ 9223372036854775807) (hb : b.size ≤ 9223372036854775807) :
    Calls Tryz.prog 7 #[.int .i64 a, .string s, .string b, .int .u8 host] w fun e w' => e = .returned (.bool true) ∧ Below w.heap.size w w' := by
  obtain ⟨h, hh⟩ : ∃ h, host % 8 = h := ⟨_, rfl⟩
  have hr : 0 ≤ h ∧ h ≤ 7 := by omega
  obtain ⟨few, hfew⟩ : ∃ few, s.extract 0 (min (s.size : Int) 70).toNat = few := ⟨_, rfl⟩
  obtain ⟨byts, hbyts⟩ : ∃ byts, b.extract 0 (min (b.size : Int) 200).toNat = byts := ⟨_, rfl⟩
  have hbl : byts.size ≤ 200 := by rw [← hbyts]; simp; omega
  obtain ⟨c, hc⟩ : ∃ c : UInt8, 48 + h = (c.toNat : Int) ∧ c = UInt8.ofNat (48 + h.toNat) := ⟨_, by
    have : (UInt8.ofNat (48 + h.toNat)).toNat = 48 + h.toNat := by simp; omega
    rw [this]; omega, rfl⟩
  obtain ⟨hc1, hc2⟩ := hc
  have HC2 := Lib.hid hc2; clear hc2
  go_enter Tryz.func7, Tryz.ntmps7
  go_wp2_with fail
  refine (examples_any w ok).mono ?_
  rintro e w1 ⟨rfl, hb1⟩
  have hcv : ∀ o1 o2 o3 : Obj, (convert 40 9 (.slice (some ⟨w1.heap.size + 1 + 1 + 1, 0, none⟩) 1 1)).run Tryz.prog ((((w1.alloc o1).alloc o2).alloc o3).alloc (.cells #[.int .u8 (c.toNat : Int)] 5)) = .ok (.string ⟨#[c]⟩) ((((w1.alloc o1).alloc o2).alloc o3).alloc (.cells #[.int .u8 (c.toNat : Int)] 5)) := fun o1 o2 o3 => by
    have := run_one (((w1.alloc o1).alloc o2).alloc o3) c
    simpa only [World.size_alloc] using this
  go_wp2_with fail
  clear hcv
  have hBU : Below w1.heap.size w1 ((((w1.alloc (.cells #[.int .i64 1, .int .i64 h, .int .i64 13, .int .i64 0, .int .i64 a, .int .i64 0, .int .i64 0, .string ⟨#[]⟩, .int .i64 0, .int .i64 0, .int .i64 0, .slice none 0 0, .string ⟨#[]⟩] 27)).alloc (.cells #[.int .i64 1, .int .i64 h, .int .i64 12, .int .i64 0, .int .i64 0, .int .i64 0, .int .i64 0, .string few, .int .i64 0, .int .i64 0, .int .i64 0, .slice none 0 0, .string ⟨#[]⟩] 27)).alloc (.cells #[.int .i64 1, .int .i64 h, .int .i64 6, .int .i64 3, .int .i64 0, .int .i64 0, .int .i64 0, .string byts, .int .i64 0, .int .i64 0, .int .i64 0, .slice none 0 0, .string ⟨#[]⟩] 27)).alloc (.cells #[.int .u8 (c.toNat : Int)] 5)) := ((((Below.refl _ _).alloc (Nat.le_refl _) _).alloc (by simp) _).alloc (by simp; omega) _).alloc (by simp; omega) _
  have r1 : RowAt w1.heap.size (acCells (Pa.pingA h a) (.slice none 0 0)) ((((w1.alloc (.cells #[.int .i64 1, .int .i64 h, .int .i64 13, .int .i64 0, .int .i64 a, .int .i64 0, .int .i64 0, .string ⟨#[]⟩, .int .i64 0, .int .i64 0, .int .i64 0, .slice none 0 0, .string ⟨#[]⟩] 27)).alloc (.cells #[.int .i64 1, .int .i64 h, .int .i64 12, .int .i64 0, .int .i64 0, .int .i64 0, .int .i64 0, .string few, .int .i64 0, .int .i64 0, .int .i64 0, .slice none 0 0, .string ⟨#[]⟩] 27)).alloc (.cells #[.int .i64 1, .int .i64 h, .int .i64 6, .int .i64 3, .int .i64 0, .int .i64 0, .int .i64 0, .string byts, .int .i64 0, .int .i64 0, .int .i64 0, .slice none 0 0, .string ⟨#[]⟩] 27)).alloc (.cells #[.int .u8 (c.toNat : Int)] 5)) := ((((RowAt.new w1 #[.int .i64 1, .int .i64 h, .int .i64 13, .int .i64 0, .int .i64 a, .int .i64 0, .int .i64 0, .string ⟨#[]⟩, .int .i64 0, .int .i64 0, .int .i64 0, .slice none 0 0, .string ⟨#[]⟩] 27).below ((Below.refl _ _).alloc (Nat.le_refl _) _)).below ((Below.refl _ _).alloc (Nat.le_refl _) _)).below ((Below.refl _ _).alloc (Nat.le_refl _) _))
  have r2 : RowAt (w1.heap.size + 1) (acCells (Pa.askA h few) (.slice none 0 0)) ((((w1.alloc (.cells #[.int .i64 1, .int .i64 h, .int .i64 13, .int .i64 0, .int .i64 a, .int .i64 0, .int .i64 0, .string ⟨#[]⟩, .int .i64 0, .int .i64 0, .int .i64 0, .slice none 0 0, .string ⟨#[]⟩] 27)).alloc (.cells #[.int .i64 1, .int .i64 h, .int .i64 12, .int .i64 0, .int .i64 0, .int .i64 0, .int .i64 0, .string few, .int .i64 0, .int .i64 0, .int .i64 0, .slice none 0 0, .string ⟨#[]⟩] 27)).alloc (.cells #[.int .i64 1, .int .i64 h, .int .i64 6, .int .i64 3, .int .i64 0, .int .i64 0, .int .i64 0, .string byts, .int .i64 0, .int .i64 0, .int .i64 0, .slice none 0 0, .string ⟨#[]⟩] 27)).alloc (.cells #[.int .u8 (c.toNat : Int)] 5)) := by
    have := RowAt.new (w1.alloc (.cells #[.int .i64 1, .int .i64 h, .int .i64 13, .int .i64 0, .int .i64 a, .int .i64 0, .int .i64 0, .string ⟨#[]⟩, .int .i64 0, .int .i64 0, .int .i64 0, .slice none 0 0, .string ⟨#[]⟩] 27)) #[.int .i64 1, .int .i64 h, .int .i64 12, .int .i64 0, .int .i64 0, .int .i64 0, .int .i64 0, .string few, .int .i64 0, .int .i64 0, .int .i64 0, .slice none 0 0, .string ⟨#[]⟩] 27
    rw [World.size_alloc] at this
    exact ((this.below ((Below.refl _ _).alloc (Nat.le_refl _) _)).below ((Below.refl _ _).alloc (Nat.le_refl _) _))
  have r3 : RowAt (w1.heap.size + 1 + 1) (acCells (Pa.sendA h byts) (.slice none 0 0)) ((((w1.alloc (.cells #[.int .i64 1, .int .i64 h, .int .i64 13, .int .i64 0, .int .i64 a, .int .i64 0, .int .i64 0, .string ⟨#[]⟩, .int .i64 0, .int .i64 0, .int .i64 0, .slice none 0 0, .string ⟨#[]⟩] 27)).alloc (.cells #[.int .i64 1, .int .i64 h, .int .i64 12, .int .i64 0, .int .i64 0, .int .i64 0, .int .i64 0, .string few, .int .i64 0, .int .i64 0, .int .i64 0, .slice none 0 0, .string ⟨#[]⟩] 27)).alloc (.cells #[.int .i64 1, .int .i64 h, .int .i64 6, .int .i64 3, .int .i64 0, .int .i64 0, .int .i64 0, .string byts, .int .i64 0, .int .i64 0, .int .i64 0, .slice none 0 0, .string ⟨#[]⟩] 27)).alloc (.cells #[.int .u8 (c.toNat : Int)] 5)) := by
    have := RowAt.new ((w1.alloc (.cells #[.int .i64 1, .int .i64 h, .int .i64 13, .int .i64 0, .int .i64 a, .int .i64 0, .int .i64 0, .string ⟨#[]⟩, .int .i64 0, .int .i64 0, .int .i64 0, .slice none 0 0, .string ⟨#[]⟩] 27)).alloc (.cells #[.int .i64 1, .int .i64 h, .int .i64 12, .int .i64 0, .int .i64 0, .int .i64 0, .int .i64 0, .string few, .int .i64 0, .int .i64 0, .int .i64 0, .slice none 0 0, .string ⟨#[]⟩] 27)) #[.int .i64 1, .int .i64 h, .int .i64 6, .int .i64 3, .int .i64 0, .int .i64 0, .int .i64 0, .string byts, .int .i64 0, .int .i64 0, .int .i64 0, .slice none 0 0, .string ⟨#[]⟩] 27
    rw [World.size_alloc, World.size_alloc] at this
    exact this.below ((Below.refl _ _).alloc (Nat.le_refl _) _)
  have hB1 := below_on hb1 hBU
  refine (format_any a _ (ok.below hB1)).mono ?_
  rintro e w2 ⟨rfl, hb2⟩
  have hB2 := below_on hB1 hb2
  have r1 := r1.below hb2
  have r2 := r2.below hb2
  have r3 := r3.below hb2
  clear hb1 hBU hb2 hB1
  have p0 := (r1.2 0 _ rfl).1
  have p1 := (r1.2 1 _ rfl).1
  have p2 := (r1.2 2 _ rfl).1
  have p3 := (r1.2 3 _ rfl).1
  have p4 := (r1.2 4 _ rfl).1
  have p5 := (r1.2 5 _ rfl).1
  have p6 := (r1.2 6 _ rfl).1
  have p7 := (r1.2 7 _ rfl).1
  have p8 := (r1.2 8 _ rfl).1
  have p9 := (r1.2 9 _ rfl).1
  have p10 := (r1.2 10 _ rfl).1
  have p11 := (r1.2 11 _ rfl).1
  have p12 := (r1.2 12 _ rfl).1
  simp only [Pa.pingA] at p0 p1 p2 p3 p4 p5 p6 p7 p8 p9 p10 p12
  go_wp2_with fail
  refine (print_any [Pa.pingA h a] _ _ (ok.below (hB2.alloc hB2.size _)) (acts_new w2 #[.int .i64 1, .int .i64 h, .int .i64 13, .int .i64 0, .int .i64 a, .int .i64 0, .int .i64 0, .string ⟨#[]⟩, .int .i64 0, .int .i64 0, .int .i64 0, .slice none 0 0, .string ⟨#[]⟩] [(Pa.pingA h a, (.slice none 0 0))] 1 rfl rfl (by simp [Pa.pingA, Fs.nil])) (by simp)).mono ?_
  rintro e w3 ⟨rfl, hb3⟩
  have hB3 := below_on (hB2.alloc hB2.size _) hb3
  have hbb := below_on ((Below.refl w2.heap.size w2).alloc (Nat.le_refl _) (.cells #[.int .i64 1, .int .i64 h, .int .i64 13, .int .i64 0, .int .i64 a, .int .i64 0, .int .i64 0, .string ⟨#[]⟩, .int .i64 0, .int .i64 0, .int .i64 0, .slice none 0 0, .string ⟨#[]⟩] 27)) hb3
  have r1 := r1.below hbb
  have r2 := r2.below hbb
  have r3 := r3.below hbb
  clear hb3 hbb hB2 p0 p1 p2 p3 p4 p5 p6 p7 p8 p9 p10 p11 p12
  have p0 := (r2.2 0 _ rfl).1
  have p1 := (r2.2 1 _ rfl).1
  have p2 := (r2.2 2 _ rfl).1
  have p3 := (r2.2 3 _ rfl).1
  have p4 := (r2.2 4 _ rfl).1
  have p5 := (r2.2 5 _ rfl).1
  have p6 := (r2.2 6 _ rfl).1
  have p7 := (r2.2 7 _ rfl).1
  have p8 := (r2.2 8 _ rfl).1
  have p9 := (r2.2 9 _ rfl).1
  have p10 := (r2.2 10 _ rfl).1
  have p11 := (r2.2 11 _ rfl).1
  have p12 := (r2.2 12 _ rfl).1
  simp only [Pa.askA] at p0 p1 p2 p3 p4 p5 p6 p7 p8 p9 p10 p12
  go_wp2_with fail
  refine (print_any [Pa.askA h few] _ _ (ok.below (hB3.alloc hB3.size _)) (acts_new w3 #[.int .i64 1, .int .i64 h, .int .i64 12, .int .i64 0, .int .i64 0, .int .i64 0, .int .i64 0, .string few, .int .i64 0, .int .i64 0, .int .i64 0, .slice none 0 0, .string ⟨#[]⟩] [(Pa.askA h few, (.slice none 0 0))] 1 rfl rfl (by simp [Pa.askA, Fs.nil])) (by simp)).mono ?_
  rintro e w4 ⟨rfl, hb4⟩
  have hB4 := below_on (hB3.alloc hB3.size _) hb4
  have hbb := below_on ((Below.refl w3.heap.size w3).alloc (Nat.le_refl _) (.cells #[.int .i64 1, .int .i64 h, .int .i64 12, .int .i64 0, .int .i64 0, .int .i64 0, .int .i64 0, .string few, .int .i64 0, .int .i64 0, .int .i64 0, .slice none 0 0, .string ⟨#[]⟩] 27)) hb4
  have r1 := r1.below hbb
  have r3 := r3.below hbb
  clear hb4 hbb hB3 r2 p0 p1 p2 p3 p4 p5 p6 p7 p8 p9 p10 p11 p12
  have p0 := (r3.2 0 _ rfl).1
  have p1 := (r3.2 1 _ rfl).1
  have p2 := (r3.2 2 _ rfl).1
  have p3 := (r3.2 3 _ rfl).1
  have p4 := (r3.2 4 _ rfl).1
  have p5 := (r3.2 5 _ rfl).1
  have p6 := (r3.2 6 _ rfl).1
  have p7 := (r3.2 7 _ rfl).1
  have p8 := (r3.2 8 _ rfl).1
  have p9 := (r3.2 9 _ rfl).1
  have p10 := (r3.2 10 _ rfl).1
  have p11 := (r3.2 11 _ rfl).1
  have p12 := (r3.2 12 _ rfl).1
  simp only [Pa.sendA] at p0 p1 p2 p3 p4 p5 p6 p7 p8 p9 p10 p12
  go_wp2_with fail
  refine (print_any [Pa.sendA h byts] _ _ (ok.below (hB4.alloc hB4.size _)) (acts_new w4 #[.int .i64 1, .int .i64 h, .int .i64 6, .int .i64 3, .int .i64 0, .int .i64 0, .int .i64 0, .string byts, .int .i64 0, .int .i64 0, .int .i64 0, .slice none 0 0, .string ⟨#[]⟩] [(Pa.sendA h byts, (.slice none 0 0))] 1 rfl rfl (by simp [Pa.sendA, Fs.nil])) (by simp)).mono ?_
  rintro e w5 ⟨rfl, hb5⟩
  have hB5 := below_on (hB4.alloc hB4.size _) hb5
  have hbb := below_on ((Below.refl w4.heap.size w4).alloc (Nat.le_refl _) (.cells #[.int .i64 1, .int .i64 h, .int .i64 6, .int .i64 3, .int .i64 0, .int .i64 0, .int .i64 0, .string byts, .int .i64 0, .int .i64 0, .int .i64 0, .slice none 0 0, .string ⟨#[]⟩] 27)) hb5
  have r1 := r1.below hbb
  clear hb5 hbb hB4 r3 p0 p1 p2 p3 p4 p5 p6 p7 p8 p9 p10 p11 p12
  have q3 := Pa.pr_some (Pa.print_one (Pa.ok_send (s := byts) hr hbl))
  have hvl := validAct_any (Pa.pingA h a) (.slice none 0 0)
  rw [Pa.ok_ping hr] at hvl
  simp only [acV, Pa.pingA] at hvl
  have hfl := Pa.fmtS_len a
  have hfw : few.size ≤ 70 := by rw [← hfew]; simp; omega
  have E1 := Lib.hid (cat_ping (a := a) hr HC2)
  have E2 := Lib.hid (cat_ask (s := few) hr HC2)
  have E3 := Lib.hid (fun hz => cat_send (s := byts) hr HC2 hz)
  have E4 := Lib.hid (fun hz => len_send (h := h) (s := byts) hr hz)
  have hnm := name_any few
  have hvd := valid_any a
  cases hv : Pa.validB a with
  | true =>
    have q1 := Pa.pr_some (Pa.print_one ((Pa.ok_ping (a := a) hr).trans hv))
    cases hn : Pa.nameOk few.data.toList with
    | true =>
      have q2 := Pa.pr_some (Pa.print_one ((Pa.ok_ask (s := few) hr).trans hn))
      have he : Pa.errB true = 0 := rfl
      rw [hn] at hnm
      rw [hv] at hvl hvd
      rw [q1.1, q1.2, q2.1, q2.2, q3.1, q3.2]
      clear q1 q2 q3
      go_wp2_with (first | (go_at_call 22; refine (hnm _ (ok.below hB5)).mono ?_; rintro e w6 ⟨rfl, hb6⟩; have r1' := r1.below hb6; have hB6 := below_on hB5 hb6; have p0 := (r1'.2 0 _ rfl).1; have p1 := (r1'.2 1 _ rfl).1; have p2 := (r1'.2 2 _ rfl).1; have p3 := (r1'.2 3 _ rfl).1; have p4 := (r1'.2 4 _ rfl).1; have p5 := (r1'.2 5 _ rfl).1; have p6 := (r1'.2 6 _ rfl).1; have p7 := (r1'.2 7 _ rfl).1; have p8 := (r1'.2 8 _ rfl).1; have p9 := (r1'.2 9 _ rfl).1; have p10 := (r1'.2 10 _ rfl).1; have p11 := (r1'.2 11 _ rfl).1; have p12 := (r1'.2 12 _ rfl).1; simp only [Pa.pingA] at p0 p1 p2 p3 p4 p5 p6 p7 p8 p9 p10 p12) | (go_at_call 14; refine (hvl _ (ok.below hB6) name_any (Fs.nil _) (by simp)).mono ?_; rintro e w7 ⟨rfl, hb7⟩; have hB7 := below_on hB6 hb7; clear r1' p0 p1 p2 p3 p4 p5 p6 p7 p8 p9 p10 p11 p12) | (go_at_call 23; refine (hvd _).mono ?_; rintro e w8 ⟨rfl, rfl⟩))
      all_goals first | (exfalso; omega) | (exfalso; rename_i hx; exact hx E1) | (exfalso; rename_i hx; rw [show Pa.lineA (Pa.askA h few) ++ [10] = _ from E2] at hx; simp at hx; done) | (exfalso; rename_i hz hx; exact hx (E3 hz)) | (go_ret; exact ⟨rfl, hB7⟩) | (rename_i hz; go_ret; exact ⟨congrArg (fun b => Ending.returned (Value.bool b)) (E4 hz), hB7⟩)
    | false =>
      have q2 := Pa.pr_none (Pa.print_bad ((Pa.ok_ask (s := few) hr).trans hn))
      have he : Pa.errB true = 0 := rfl
      rw [hn] at hnm
      rw [hv] at hvl hvd
      rw [q1.1, q1.2, q2.1, q2.2, q3.1, q3.2]
      clear q1 q2 q3
      go_wp2_with (first | (go_at_call 22; refine (hnm _ (ok.below hB5)).mono ?_; rintro e w6 ⟨rfl, hb6⟩; have r1' := r1.below hb6; have hB6 := below_on hB5 hb6; have p0 := (r1'.2 0 _ rfl).1; have p1 := (r1'.2 1 _ rfl).1; have p2 := (r1'.2 2 _ rfl).1; have p3 := (r1'.2 3 _ rfl).1; have p4 := (r1'.2 4 _ rfl).1; have p5 := (r1'.2 5 _ rfl).1; have p6 := (r1'.2 6 _ rfl).1; have p7 := (r1'.2 7 _ rfl).1; have p8 := (r1'.2 8 _ rfl).1; have p9 := (r1'.2 9 _ rfl).1; have p10 := (r1'.2 10 _ rfl).1; have p11 := (r1'.2 11 _ rfl).1; have p12 := (r1'.2 12 _ rfl).1; simp only [Pa.pingA] at p0 p1 p2 p3 p4 p5 p6 p7 p8 p9 p10 p12) | (go_at_call 14; refine (hvl _ (ok.below hB6) name_any (Fs.nil _) (by simp)).mono ?_; rintro e w7 ⟨rfl, hb7⟩; have hB7 := below_on hB6 hb7; clear r1' p0 p1 p2 p3 p4 p5 p6 p7 p8 p9 p10 p11 p12) | (go_at_call 23; refine (hvd _).mono ?_; rintro e w8 ⟨rfl, rfl⟩))
      all_goals first | (exfalso; omega) | (exfalso; rename_i hx; exact hx E1) | (exfalso; rename_i hx; rw [show Pa.lineA (Pa.askA h few) ++ [10] = _ from E2] at hx; simp at hx; done) | (exfalso; rename_i hz hx; exact hx (E3 hz)) | (go_ret; exact ⟨rfl, hB7⟩) | (rename_i hz; go_ret; exact ⟨congrArg (fun b => Ending.returned (Value.bool b)) (E4 hz), hB7⟩)
  | false =>
    have q1 := Pa.pr_none (Pa.print_bad ((Pa.ok_ping (a := a) hr).trans hv))
    cases hn : Pa.nameOk few.data.toList with
    | true =>
      have q2 := Pa.pr_some (Pa.print_one ((Pa.ok_ask (s := few) hr).trans hn))
      have he : Pa.errB false = 30 := rfl
      rw [hn] at hnm
      rw [hv] at hvl hvd
      rw [q1.1, q1.2, q2.1, q2.2, q3.1, q3.2]
      clear q1 q2 q3
      go_wp2_with (first | (go_at_call 22; refine (hnm _ (ok.below hB5)).mono ?_; rintro e w6 ⟨rfl, hb6⟩; have r1' := r1.below hb6; have hB6 := below_on hB5 hb6; have p0 := (r1'.2 0 _ rfl).1; have p1 := (r1'.2 1 _ rfl).1; have p2 := (r1'.2 2 _ rfl).1; have p3 := (r1'.2 3 _ rfl).1; have p4 := (r1'.2 4 _ rfl).1; have p5 := (r1'.2 5 _ rfl).1; have p6 := (r1'.2 6 _ rfl).1; have p7 := (r1'.2 7 _ rfl).1; have p8 := (r1'.2 8 _ rfl).1; have p9 := (r1'.2 9 _ rfl).1; have p10 := (r1'.2 10 _ rfl).1; have p11 := (r1'.2 11 _ rfl).1; have p12 := (r1'.2 12 _ rfl).1; simp only [Pa.pingA] at p0 p1 p2 p3 p4 p5 p6 p7 p8 p9 p10 p12) | (go_at_call 14; refine (hvl _ (ok.below hB6) name_any (Fs.nil _) (by simp)).mono ?_; rintro e w7 ⟨rfl, hb7⟩; have hB7 := below_on hB6 hb7; clear r1' p0 p1 p2 p3 p4 p5 p6 p7 p8 p9 p10 p11 p12) | (go_at_call 23; refine (hvd _).mono ?_; rintro e w8 ⟨rfl, rfl⟩))
      all_goals first | (exfalso; omega) | (exfalso; rename_i hx; exact hx E1) | (exfalso; rename_i hx; rw [show Pa.lineA (Pa.askA h few) ++ [10] = _ from E2] at hx; simp at hx; done) | (exfalso; rename_i hz hx; exact hx (E3 hz)) | (go_ret; exact ⟨rfl, hB7⟩) | (rename_i hz; go_ret; exact ⟨congrArg (fun b => Ending.returned (Value.bool b)) (E4 hz), hB7⟩)
    | false =>
      have q2 := Pa.pr_none (Pa.print_bad ((Pa.ok_ask (s := few) hr).trans hn))
      have he : Pa.errB false = 30 := rfl
      rw [hn] at hnm
      rw [hv] at hvl hvd
      rw [q1.1, q1.2, q2.1, q2.2, q3.1, q3.2]
      clear q1 q2 q3
      go_wp2_with (first | (go_at_call 22; refine (hnm _ (ok.below hB5)).mono ?_; rintro e w6 ⟨rfl, hb6⟩; have r1' := r1.below hb6; have hB6 := below_on hB5 hb6; have p0 := (r1'.2 0 _ rfl).1; have p1 := (r1'.2 1 _ rfl).1; have p2 := (r1'.2 2 _ rfl).1; have p3 := (r1'.2 3 _ rfl).1; have p4 := (r1'.2 4 _ rfl).1; have p5 := (r1'.2 5 _ rfl).1; have p6 := (r1'.2 6 _ rfl).1; have p7 := (r1'.2 7 _ rfl).1; have p8 := (r1'.2 8 _ rfl).1; have p9 := (r1'.2 9 _ rfl).1; have p10 := (r1'.2 10 _ rfl).1; have p11 := (r1'.2 11 _ rfl).1; have p12 := (r1'.2 12 _ rfl).1; simp only [Pa.pingA] at p0 p1 p2 p3 p4 p5 p6 p7 p8 p9 p10 p12) | (go_at_call 14; refine (hvl _ (ok.below hB6) name_any (Fs.nil _) (by simp)).mono ?_; rintro e w7 ⟨rfl, hb7⟩; have hB7 := below_on hB6 hb7; clear r1' p0 p1 p2 p3 p4 p5 p6 p7 p8 p9 p10 p11 p12) | (go_at_call 23; refine (hvd _).mono ?_; rintro e w8 ⟨rfl, rfl⟩))
      all_goals first | (exfalso; omega) | (exfalso; rename_i hx; exact hx E1) | (exfalso; rename_i hx; rw [show Pa.lineA (Pa.askA h few) ++ [10] = _ from E2] at hx; simp at hx; done) | (exfalso; rename_i hz hx; exact hx (E3 hz)) | (go_ret; exact ⟨rfl, hB7⟩) | (rename_i hz; go_ret; exact ⟨congrArg (fun b => Ending.returned (Value.bool b)) (E4 hz), hB7⟩)

end Go.Proofs.YtgajoiijebbagaaGreatDoor
