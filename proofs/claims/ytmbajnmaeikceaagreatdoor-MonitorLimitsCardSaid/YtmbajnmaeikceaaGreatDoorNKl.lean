/-
 strings.Join with a blank between the texts; strconv.Itoa up to 600. Conditions: none.
-/
import Derived.Test.YtmbajnmaeikceaaGreatDoorNGa
import Derived.Test.YtmbajnmaeikceaaGreatDoorNVs
import Derived.Test.YtmbajnmaeikceaaGreatDoorNAxG
namespace Go.Proofs.YtmbajnmaeikceaaGreatDoor
open Go Go.RowKit Go.Shelf Go.Proofs
theorem Qpv : ∀ r : List (List UInt8), (Lib.joinTail [32] r).length <= r.flatten.length + r.length
 | [] => by simp [Lib.joinTail]
 | x :: r => by
  have := Qpv r
  simp only [Lib.joinTail, List.map_cons, List.flatten_cons, List.length_append, List.length_cons, List.length_nil] at this ⊢
  omega
theorem Qtx : ∀ ys : List (List UInt8), (Lib.join ys [32]).length <= ys.flatten.length + ys.length
 | [] => by simp [Lib.join]
 | x :: r => by
  rw [Lib.join_cons]
  have := Qpv r
  simp only [List.length_append, List.flatten_cons, List.length_cons]
  omega
noncomputable def Z7z (xs : List ByteArray) : ByteArray := ⟨(Lib.join (xs.map (·.data.toList)) [32]).toArray⟩
theorem Qrs (bk o c : Nat) (xs : List ByteArray) (w : World) (hcells : ∀ (j : Nat) x, xs[j]? = some x -> w.cell? ⟨bk, o + j, none⟩ = some (.string x))
 (hbk : bk < w.heap.size) (hN : xs.length <= 1000) (hcap : xs.length <= c) (hlen : ((xs.map (·.data.toList)).flatten).length <= 549755813888) :
 Calls Tryz.prog 20 #[.slice (some ⟨bk, o, none⟩) xs.length c, .string ⟨#[32]⟩] w λ e w' => e = .returned (.string (Z7z xs)) /\ Below w.heap.size w w' := by
 have h1 := Qtx (xs.map (·.data.toList))
 rw [List.length_map] at h1
 exact Any.strings_Join Tryz.Qkn Q7e bk o c xs ⟨#[32]⟩ w hcells hbk (by omega) hcap (Nat.le_trans h1 (by omega))
end Go.Proofs.YtmbajnmaeikceaaGreatDoor
namespace Go.Proofs.YtmbajnmaeikceaaGreatDoor
open Go Go.Ax Go.RowKit Go.Proofs
noncomputable def Qpt : Sum := λ c H next l => match Q8u c H next l with
 | .ok r => .ok r
 | _ => Qeo c H next l
theorem Qrt {G : Env} {n0 : Nat} : Zw Tryz.prog G n0 20 Qpt := by
 refine Zw.or (Qc8 λ bk o c xs w a b d e f => Qhp bk o c xs w a b d e f) (Qlv (J := Z7z) λ bk o c xs w a b d e f => Qrs bk o c xs w a b d e f) λ c H next l r hr => ?_
 unfold Qpt at hr
 split at hr
 . rename_i r' h
   cases hr
   exact .inl h
 . exact .inr hr
theorem itoa0 : Qkh GT 37 1 430 200 17 3 0 200 = true := by kernel_rfl
theorem itoa1 : Qkh GT 37 1 430 200 17 3 200 200 = true := by kernel_rfl
theorem itoa2 : Qkh GT 37 1 430 200 17 3 400 201 = true := by kernel_rfl
theorem Qrw (n : Nat) (X : Ext) (w : World) (hn : n <= 600) (hH : Qn X w.heap.size (Qgd 1 430) w) (hX : X.Qo tab.ng) :
 Calls Tryz.prog 37 #[.int .i64 n] w λ e w' => (∃ s : ByteArray, e = .returned (.string s) /\ s.size <= 4) /\ Below w.heap.size w w' := by
 have h : oneB GT 37 1 430 200 17 3 n = true := by
  by_cases h1 : n < 200
  . exact Qee itoa0 n (Nat.zero_le _) (by omega)
  . by_cases h2 : n < 400
    . exact Qee itoa1 n (by omega) (by omega)
    . exact Qee itoa2 n (by omega) (by omega)
 exact Qmy Qoq Qos (λ _ => Qm4) (show 1 < tab.ng by decide) h hH hX
theorem Qq9 (c : Int) (n : Nat) (w : World) (c0 : -9223372036854775808 <= c) (c1 : c <= 9223372036854775807) (n0 : 1 <= n) (n1 : n <= 9223372036854775807) :
 Calls Tryz.prog 7 #[.int .i64 c, .int .i64 n] w λ e w' => e = .returned (.int .i64 (Ax.Q66 n c)) /\ w' = w := by
 by_cases h : c < 0
 . go_enter Tryz.func7, Tryz.ntmps7
   go_wp2
   go_ret
   exact ⟨by rw [Ax.Q66, if_pos h, Int.neg_tmod]; rfl, rfl⟩
 . go_enter Tryz.func7, Tryz.ntmps7
   go_wp2
   go_ret
   exact ⟨by rw [Ax.Q66, if_neg (by omega), Int.tmod_eq_emod_of_nonneg (by omega)]; rfl, rfl⟩
noncomputable def Z4d : List (Nat × Sum) := (37, Qes 1 430) :: (20, Qpt) :: (7, Q8j) :: Z4c
theorem Qsf : Qcy Tryz.prog tab Z4d :=
 .cons (λ _ _ h => Qlw (by rw [h]; exact (show 0 < tab.ng by decide)) λ n X w hn hH hX => Qrw n X w hn hH (by rw [h] at hX; exact hX)) Tryz.call37 <|
 .cons (λ _ _ _ => Qrt) Tryz.call20 <|
 .cons (λ _ _ _ => Qby λ z n w h0 h1 h2 h3 => Qq9 z n w h0 h1 h2 h3) Tryz.call7 Qse
noncomputable def GL : Env := ⟨tab, ifs, Qgn Z4d⟩
theorem Qou {n0 : Nat} : Zg Tryz.prog GL n0 := Qgm Qsf n0
end Go.Proofs.YtmbajnmaeikceaaGreatDoor
