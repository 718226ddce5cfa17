/-
  The walk of the document's words, kind by kind, and at every valid call: it says which text it gives, and that what was there is unchanged. Conditions: the call is valid.
-/
import Derived.Test.YtgajoiijebbagaaGreatDoorRe
import Derived.Test.YtgajoiijebbagaaGreatDoorLn
namespace Go.Proofs.YtgajoiijebbagaaGreatDoor
open Go.RowKit Go.Proofs

theorem mk_size (l : Pa.Bs) : (⟨l.toArray⟩ : ByteArray).size = l.length := by simp [ByteArray.size]

set_option maxRecDepth 100000 in
set_option maxHeartbeats 800000 in
theorem words_1 (so ad po n he ms : Int) (s : ByteArray) (w : World) :
    Calls Tryz.prog 50 #[clV ⟨1, so, ad, po, n, s, he, ms⟩] w fun e w' => e = .returned (.string ⟨(Lib.join (Pa.callW ⟨1, so, ad, po, n, s, he, ms⟩) [32]).toArray⟩) ∧ Below w.heap.size w w' := by
  have H6 : Hid (n = 6 → (Lib.join (Pa.callW ⟨1, so, ad, po, n, s, he, ms⟩) [32]) = [115, 111, 99, 107, 101, 116, 32, 116, 99, 112]) := fun h => by rw [show Pa.callW ⟨1, so, ad, po, n, s, he, ms⟩ = [Pa.w_socket, Pa.w_tcp] by simp [Pa.callW, h]]; rfl
  have H7 : Hid (n ≠ 6 → (Lib.join (Pa.callW ⟨1, so, ad, po, n, s, he, ms⟩) [32]) = [115, 111, 99, 107, 101, 116, 32, 117, 100, 112]) := fun h => by rw [show Pa.callW ⟨1, so, ad, po, n, s, he, ms⟩ = [Pa.w_socket, Pa.w_udp] by simp [Pa.callW, h]]; rfl
  obtain ⟨R, hR⟩ : ∃ R, R = (Lib.join (Pa.callW ⟨1, so, ad, po, n, s, he, ms⟩) [32]) := ⟨_, rfl⟩
  rw [← hR] at H6 H7 ⊢
  clear hR
  unfold clV
  by_cases h6 : n = 6
  · have HR := Lib.hid (H6.out h6)
    subst h6
    go_enter Tryz.func50, Tryz.ntmps50
    go_wp2
    go_ret
    exact ⟨ret_sb (by rw [HR.out]), (Below.refl _ _).alloc (Nat.le_refl _) _⟩
  · have HR := Lib.hid (H7.out h6)
    have hf : (n == 6) = false := by rw [beq_eq_false_iff_ne]; exact h6
    clear h6
    go_enter Tryz.func50, Tryz.ntmps50
    go_wp2
    go_ret
    exact ⟨ret_sb (by rw [HR.out]), (Below.refl _ _).alloc (Nat.le_refl _) _⟩

set_option maxRecDepth 100000 in
set_option maxHeartbeats 800000 in
theorem words_2 (so ad po n he ms : Int) (s : ByteArray) (w : World) (hs : 0 ≤ so ∧ so ≤ 1000000) (hp : 0 ≤ po ∧ po ≤ 65535) :
    Calls Tryz.prog 50 #[clV ⟨2, so, ad, po, n, s, he, ms⟩] w fun e w' => e = .returned (.string ⟨(Lib.join [Pa.w_bind, Pa.num so, Pa.num po] [32]).toArray⟩) ∧ Below w.heap.size w w' := by
  obtain ⟨R, hR⟩ : ∃ R, R = Lib.join [Pa.w_bind, Pa.num so, Pa.num po] [32] := ⟨_, rfl⟩
  rw [← hR]
  have cS := fun u => refNum_any so u (by omega) (by omega)
  have lS := Pa.num_len (n := so) (by omega)
  obtain ⟨S, eS⟩ : ∃ S : ByteArray, S = ⟨(Pa.num so).toArray⟩ := ⟨_, rfl⟩
  have zS : S.size ≤ 5000 := by rw [eS, mk_size]; omega
  rw [← eS] at cS
  have cP := fun u => refNum_any po u (by omega) (by omega)
  have lP := Pa.num_len (n := po) (by omega)
  obtain ⟨P, eP⟩ : ∃ P : ByteArray, P = ⟨(Pa.num po).toArray⟩ := ⟨_, rfl⟩
  have zP : P.size ≤ 5000 := by rw [eP, mk_size]; omega
  rw [← eP] at cP
  have HR : Hid (((((⟨#[98, 105, 110, 100, 32]⟩ : ByteArray) ++ S) ++ ⟨#[32]⟩) ++ P) = ⟨R.toArray⟩) := by
    rw [Hid, hR, eS, eP]
    simp only [Pa.join_cons2, Lib.join_one]
    apply ByteArray.ext
    simp [ByteArray.data_append]
  have a0 := fun u => cat_run ⟨#[98, 105, 110, 100, 32]⟩ S u (by show 5 + S.size ≤ 9223372036854775807; omega)
  have a1 := fun u => cat_run (⟨#[98, 105, 110, 100, 32]⟩ ++ S) ⟨#[32]⟩ u (by simp only [ByteArray.size_append]; show 5 + S.size + 1 ≤ 9223372036854775807; omega)
  have a2 := fun u => cat_run ((⟨#[98, 105, 110, 100, 32]⟩ ++ S) ++ ⟨#[32]⟩) P u (by simp only [ByteArray.size_append]; show 5 + S.size + 1 + P.size ≤ 9223372036854775807; omega)
  clear hR eS eP lS lP
  unfold clV
  go_enter Tryz.func50, Tryz.ntmps50
  go_wp2_with fail
  refine wp_region_below (by kernel_rfl) (by kernel_rfl) ?_
  intro W hW
  have hsz : w.heap.size < W.heap.size := by rw [hW]; simp
  have hBW : Below w.heap.size w W := by rw [hW]; exact (Below.refl _ _).alloc (Nat.le_refl _) _
  have d1 : ∀ x : Lat (Below W.heap.size W), x.u.cell? ⟨w.heap.size, 1, none⟩ = some (.int .i64 so) := fun x => x.cell hsz (by rw [hW]; simp)
  have d2 : ∀ x : Lat (Below W.heap.size W), x.u.cell? ⟨w.heap.size, 2, none⟩ = some (.int .i64 ad) := fun x => x.cell hsz (by rw [hW]; simp)
  have d3 : ∀ x : Lat (Below W.heap.size W), x.u.cell? ⟨w.heap.size, 3, none⟩ = some (.int .i64 po) := fun x => x.cell hsz (by rw [hW]; simp)
  have d4 : ∀ x : Lat (Below W.heap.size W), x.u.cell? ⟨w.heap.size, 4, none⟩ = some (.int .i64 n) := fun x => x.cell hsz (by rw [hW]; simp)
  have d5 : ∀ x : Lat (Below W.heap.size W), x.u.cell? ⟨w.heap.size, 5, none⟩ = some (.string s) := fun x => x.cell hsz (by rw [hW]; simp)
  clear hW
  repeat (go_big_quiet_step (first | (go_at_call 49; first | with_reducible exact Calls.below (cS _) | with_reducible exact Calls.below (cP _))))
  refine wpQuiet_nil ?_
  rintro u ⟨x, hx⟩
  have hu : Below W.heap.size W u := by rw [hx]; exact x.h
  clear hx d1 d2 d3 d4 d5
  go_wp2
  go_ret
  exact ⟨ret_sb HR.out, below_on hBW hu⟩

set_option maxRecDepth 100000 in
set_option maxHeartbeats 800000 in
theorem words_3 (so ad po n he ms : Int) (s : ByteArray) (w : World) (hs : 0 ≤ so ∧ so ≤ 1000000) (hn : 0 ≤ n ∧ n ≤ 1000000) :
    Calls Tryz.prog 50 #[clV ⟨3, so, ad, po, n, s, he, ms⟩] w fun e w' => e = .returned (.string ⟨(Lib.join [Pa.w_listen, Pa.num so, Pa.num n] [32]).toArray⟩) ∧ Below w.heap.size w w' := by
  obtain ⟨R, hR⟩ : ∃ R, R = Lib.join [Pa.w_listen, Pa.num so, Pa.num n] [32] := ⟨_, rfl⟩
  rw [← hR]
  have cS := fun u => refNum_any so u (by omega) (by omega)
  have lS := Pa.num_len (n := so) (by omega)
  obtain ⟨S, eS⟩ : ∃ S : ByteArray, S = ⟨(Pa.num so).toArray⟩ := ⟨_, rfl⟩
  have zS : S.size ≤ 5000 := by rw [eS, mk_size]; omega
  rw [← eS] at cS
  have cN := fun u => refNum_any n u (by omega) (by omega)
  have lN := Pa.num_len (n := n) (by omega)
  obtain ⟨N, eN⟩ : ∃ N : ByteArray, N = ⟨(Pa.num n).toArray⟩ := ⟨_, rfl⟩
  have zN : N.size ≤ 5000 := by rw [eN, mk_size]; omega
  rw [← eN] at cN
  have HR : Hid (((((⟨#[108, 105, 115, 116, 101, 110, 32]⟩ : ByteArray) ++ S) ++ ⟨#[32]⟩) ++ N) = ⟨R.toArray⟩) := by
    rw [Hid, hR, eS, eN]
    simp only [Pa.join_cons2, Lib.join_one]
    apply ByteArray.ext
    simp [ByteArray.data_append]
  have a0 := fun u => cat_run ⟨#[108, 105, 115, 116, 101, 110, 32]⟩ S u (by show 7 + S.size ≤ 9223372036854775807; omega)
  have a1 := fun u => cat_run (⟨#[108, 105, 115, 116, 101, 110, 32]⟩ ++ S) ⟨#[32]⟩ u (by simp only [ByteArray.size_append]; show 7 + S.size + 1 ≤ 9223372036854775807; omega)
  have a2 := fun u => cat_run ((⟨#[108, 105, 115, 116, 101, 110, 32]⟩ ++ S) ++ ⟨#[32]⟩) N u (by simp only [ByteArray.size_append]; show 7 + S.size + 1 + N.size ≤ 9223372036854775807; omega)
  clear hR eS eN lS lN
  unfold clV
  go_enter Tryz.func50, Tryz.ntmps50
  go_wp2_with fail
  refine wp_region_below (by kernel_rfl) (by kernel_rfl) ?_
  intro W hW
  have hsz : w.heap.size < W.heap.size := by rw [hW]; simp
  have hBW : Below w.heap.size w W := by rw [hW]; exact (Below.refl _ _).alloc (Nat.le_refl _) _
  have d1 : ∀ x : Lat (Below W.heap.size W), x.u.cell? ⟨w.heap.size, 1, none⟩ = some (.int .i64 so) := fun x => x.cell hsz (by rw [hW]; simp)
  have d2 : ∀ x : Lat (Below W.heap.size W), x.u.cell? ⟨w.heap.size, 2, none⟩ = some (.int .i64 ad) := fun x => x.cell hsz (by rw [hW]; simp)
  have d3 : ∀ x : Lat (Below W.heap.size W), x.u.cell? ⟨w.heap.size, 3, none⟩ = some (.int .i64 po) := fun x => x.cell hsz (by rw [hW]; simp)
  have d4 : ∀ x : Lat (Below W.heap.size W), x.u.cell? ⟨w.heap.size, 4, none⟩ = some (.int .i64 n) := fun x => x.cell hsz (by rw [hW]; simp)
  have d5 : ∀ x : Lat (Below W.heap.size W), x.u.cell? ⟨w.heap.size, 5, none⟩ = some (.string s) := fun x => x.cell hsz (by rw [hW]; simp)
  clear hW
  repeat (go_big_quiet_step (first | (go_at_call 49; first | with_reducible exact Calls.below (cS _) | with_reducible exact Calls.below (cN _))))
  refine wpQuiet_nil ?_
  rintro u ⟨x, hx⟩
  have hu : Below W.heap.size W u := by rw [hx]; exact x.h
  clear hx d1 d2 d3 d4 d5
  go_wp2
  go_ret
  exact ⟨ret_sb HR.out, below_on hBW hu⟩

set_option maxRecDepth 100000 in
set_option maxHeartbeats 800000 in
theorem words_4 (so ad po n he ms : Int) (s : ByteArray) (w : World) (hs : 0 ≤ so ∧ so ≤ 1000000) (hp : 0 ≤ po ∧ po ≤ 65535) :
    Calls Tryz.prog 50 #[clV ⟨4, so, ad, po, n, s, he, ms⟩] w fun e w' => e = .returned (.string ⟨(Lib.join [Pa.w_connect, Pa.num so, Pa.fmtS ad, Pa.num po] [32]).toArray⟩) ∧ Below w.heap.size w w' := by
  obtain ⟨R, hR⟩ : ∃ R, R = Lib.join [Pa.w_connect, Pa.num so, Pa.fmtS ad, Pa.num po] [32] := ⟨_, rfl⟩
  rw [← hR]
  have cS := fun u => refNum_any so u (by omega) (by omega)
  have lS := Pa.num_len (n := so) (by omega)
  obtain ⟨S, eS⟩ : ∃ S : ByteArray, S = ⟨(Pa.num so).toArray⟩ := ⟨_, rfl⟩
  have zS : S.size ≤ 5000 := by rw [eS, mk_size]; omega
  rw [← eS] at cS
  have cP := fun u => refNum_any po u (by omega) (by omega)
  have lP := Pa.num_len (n := po) (by omega)
  obtain ⟨P, eP⟩ : ∃ P : ByteArray, P = ⟨(Pa.num po).toArray⟩ := ⟨_, rfl⟩
  have zP : P.size ≤ 5000 := by rw [eP, mk_size]; omega
  rw [← eP] at cP
  have cA := fun u => refAddr_any ad u
  have lA := Pa.fmtS_len ad
  obtain ⟨A, eA⟩ : ∃ A : ByteArray, A = ⟨(Pa.fmtS ad).toArray⟩ := ⟨_, rfl⟩
  have zA : A.size ≤ 5000 := by rw [eA, mk_size]; omega
  rw [← eA] at cA
  have HR : Hid (((((((⟨#[99, 111, 110, 110, 101, 99, 116, 32]⟩ : ByteArray) ++ S) ++ ⟨#[32]⟩) ++ A) ++ ⟨#[32]⟩) ++ P) = ⟨R.toArray⟩) := by
    rw [Hid, hR, eS, eA, eP]
    simp only [Pa.join_cons2, Lib.join_one]
    apply ByteArray.ext
    simp [ByteArray.data_append]
  have a0 := fun u => cat_run ⟨#[99, 111, 110, 110, 101, 99, 116, 32]⟩ S u (by show 8 + S.size ≤ 9223372036854775807; omega)
  have a1 := fun u => cat_run (⟨#[99, 111, 110, 110, 101, 99, 116, 32]⟩ ++ S) ⟨#[32]⟩ u (by simp only [ByteArray.size_append]; show 8 + S.size + 1 ≤ 9223372036854775807; omega)
  have a2 := fun u => cat_run ((⟨#[99, 111, 110, 110, 101, 99, 116, 32]⟩ ++ S) ++ ⟨#[32]⟩) A u (by simp only [ByteArray.size_append]; show 8 + S.size + 1 + A.size ≤ 9223372036854775807; omega)
  have a3 := fun u => cat_run (((⟨#[99, 111, 110, 110, 101, 99, 116, 32]⟩ ++ S) ++ ⟨#[32]⟩) ++ A) ⟨#[32]⟩ u (by simp only [ByteArray.size_append]; show 8 + S.size + 1 + A.size + 1 ≤ 9223372036854775807; omega)
  have a4 := fun u => cat_run ((((⟨#[99, 111, 110, 110, 101, 99, 116, 32]⟩ ++ S) ++ ⟨#[32]⟩) ++ A) ++ ⟨#[32]⟩) P u (by simp only [ByteArray.size_append]; show 8 + S.size + 1 + A.size + 1 + P.size ≤ 9223372036854775807; omega)
  clear hR eS eA eP lS lA lP
  unfold clV
  go_enter Tryz.func50, Tryz.ntmps50
  go_wp2_with fail
  refine wp_region_below (by kernel_rfl) (by kernel_rfl) ?_
  intro W hW
  have hsz : w.heap.size < W.heap.size := by rw [hW]; simp
  have hBW : Below w.heap.size w W := by rw [hW]; exact (Below.refl _ _).alloc (Nat.le_refl _) _
  have d1 : ∀ x : Lat (Below W.heap.size W), x.u.cell? ⟨w.heap.size, 1, none⟩ = some (.int .i64 so) := fun x => x.cell hsz (by rw [hW]; simp)
  have d2 : ∀ x : Lat (Below W.heap.size W), x.u.cell? ⟨w.heap.size, 2, none⟩ = some (.int .i64 ad) := fun x => x.cell hsz (by rw [hW]; simp)
  have d3 : ∀ x : Lat (Below W.heap.size W), x.u.cell? ⟨w.heap.size, 3, none⟩ = some (.int .i64 po) := fun x => x.cell hsz (by rw [hW]; simp)
  have d4 : ∀ x : Lat (Below W.heap.size W), x.u.cell? ⟨w.heap.size, 4, none⟩ = some (.int .i64 n) := fun x => x.cell hsz (by rw [hW]; simp)
  have d5 : ∀ x : Lat (Below W.heap.size W), x.u.cell? ⟨w.heap.size, 5, none⟩ = some (.string s) := fun x => x.cell hsz (by rw [hW]; simp)
  clear hW
  repeat (go_big_quiet_step (first | (go_at_call 49; first | with_reducible exact Calls.below (cS _) | with_reducible exact Calls.below (cP _)) | (go_at_call 73; with_reducible exact Calls.below (cA _))))
  refine wpQuiet_nil ?_
  rintro u ⟨x, hx⟩
  have hu : Below W.heap.size W u := by rw [hx]; exact x.h
  clear hx d1 d2 d3 d4 d5
  go_wp2
  go_ret
  exact ⟨ret_sb HR.out, below_on hBW hu⟩

set_option maxRecDepth 100000 in
set_option maxHeartbeats 800000 in
theorem words_5 (so ad po n he ms : Int) (s : ByteArray) (w : World) (hs : 0 ≤ so ∧ so ≤ 1000000) :
    Calls Tryz.prog 50 #[clV ⟨5, so, ad, po, n, s, he, ms⟩] w fun e w' => e = .returned (.string ⟨(Lib.join [Pa.w_accept, Pa.num so] [32]).toArray⟩) ∧ Below w.heap.size w w' := by
  obtain ⟨R, hR⟩ : ∃ R, R = Lib.join [Pa.w_accept, Pa.num so] [32] := ⟨_, rfl⟩
  rw [← hR]
  have cS := fun u => refNum_any so u (by omega) (by omega)
  have lS := Pa.num_len (n := so) (by omega)
  obtain ⟨S, eS⟩ : ∃ S : ByteArray, S = ⟨(Pa.num so).toArray⟩ := ⟨_, rfl⟩
  have zS : S.size ≤ 5000 := by rw [eS, mk_size]; omega
  rw [← eS] at cS
  have HR : Hid (((⟨#[97, 99, 99, 101, 112, 116, 32]⟩ : ByteArray) ++ S) = ⟨R.toArray⟩) := by
    rw [Hid, hR, eS]
    simp only [Pa.join_cons2, Lib.join_one]
    apply ByteArray.ext
    simp [ByteArray.data_append]
  have a0 := fun u => cat_run ⟨#[97, 99, 99, 101, 112, 116, 32]⟩ S u (by show 7 + S.size ≤ 9223372036854775807; omega)
  clear hR eS lS
  unfold clV
  go_enter Tryz.func50, Tryz.ntmps50
  go_wp2_with (go_at_call 49; refine (cS _).mono ?_; rintro e u ⟨rfl, hb⟩)
  go_ret
  exact ⟨ret_sb HR.out, below_on ((Below.refl _ _).alloc (Nat.le_refl _) _) hb⟩

set_option maxRecDepth 100000 in
set_option maxHeartbeats 800000 in
theorem words_6 (so ad po n he ms : Int) (s : ByteArray) (w : World) (hs : 0 ≤ so ∧ so ≤ 1000000) (hx : s.size ≤ 2100) :
    Calls Tryz.prog 50 #[clV ⟨6, so, ad, po, n, s, he, ms⟩] w fun e w' => e = .returned (.string ⟨(Lib.join [Pa.w_send, Pa.num so, Pa.hexL s.data.toList] [32]).toArray⟩) ∧ Below w.heap.size w w' := by
  obtain ⟨R, hR⟩ : ∃ R, R = Lib.join [Pa.w_send, Pa.num so, Pa.hexL s.data.toList] [32] := ⟨_, rfl⟩
  rw [← hR]
  have cS := fun u => refNum_any so u (by omega) (by omega)
  have lS := Pa.num_len (n := so) (by omega)
  obtain ⟨S, eS⟩ : ∃ S : ByteArray, S = ⟨(Pa.num so).toArray⟩ := ⟨_, rfl⟩
  have zS : S.size ≤ 5000 := by rw [eS, mk_size]; omega
  rw [← eS] at cS
  have cX := fun u => refHex_any s u (by omega)
  have lX := Pa.hexL_length s.data.toList
  rw [size_len] at lX
  obtain ⟨X, eX⟩ : ∃ X : ByteArray, X = ⟨(Pa.hexL s.data.toList).toArray⟩ := ⟨_, rfl⟩
  have zX : X.size ≤ 5000 := by rw [eX, mk_size]; omega
  rw [← eX] at cX
  have HR : Hid (((((⟨#[115, 101, 110, 100, 32]⟩ : ByteArray) ++ S) ++ ⟨#[32]⟩) ++ X) = ⟨R.toArray⟩) := by
    rw [Hid, hR, eS, eX]
    simp only [Pa.join_cons2, Lib.join_one]
    apply ByteArray.ext
    simp [ByteArray.data_append]
  have a0 := fun u => cat_run ⟨#[115, 101, 110, 100, 32]⟩ S u (by show 5 + S.size ≤ 9223372036854775807; omega)
  have a1 := fun u => cat_run (⟨#[115, 101, 110, 100, 32]⟩ ++ S) ⟨#[32]⟩ u (by simp only [ByteArray.size_append]; show 5 + S.size + 1 ≤ 9223372036854775807; omega)
  have a2 := fun u => cat_run ((⟨#[115, 101, 110, 100, 32]⟩ ++ S) ++ ⟨#[32]⟩) X u (by simp only [ByteArray.size_append]; show 5 + S.size + 1 + X.size ≤ 9223372036854775807; omega)
  clear hR eS eX lS lX
  unfold clV
  go_enter Tryz.func50, Tryz.ntmps50
  go_wp2_with fail
  refine wp_region_below (by kernel_rfl) (by kernel_rfl) ?_
  intro W hW
  have hsz : w.heap.size < W.heap.size := by rw [hW]; simp
  have hBW : Below w.heap.size w W := by rw [hW]; exact (Below.refl _ _).alloc (Nat.le_refl _) _
  have d1 : ∀ x : Lat (Below W.heap.size W), x.u.cell? ⟨w.heap.size, 1, none⟩ = some (.int .i64 so) := fun x => x.cell hsz (by rw [hW]; simp)
  have d2 : ∀ x : Lat (Below W.heap.size W), x.u.cell? ⟨w.heap.size, 2, none⟩ = some (.int .i64 ad) := fun x => x.cell hsz (by rw [hW]; simp)
  have d3 : ∀ x : Lat (Below W.heap.size W), x.u.cell? ⟨w.heap.size, 3, none⟩ = some (.int .i64 po) := fun x => x.cell hsz (by rw [hW]; simp)
  have d4 : ∀ x : Lat (Below W.heap.size W), x.u.cell? ⟨w.heap.size, 4, none⟩ = some (.int .i64 n) := fun x => x.cell hsz (by rw [hW]; simp)
  have d5 : ∀ x : Lat (Below W.heap.size W), x.u.cell? ⟨w.heap.size, 5, none⟩ = some (.string s) := fun x => x.cell hsz (by rw [hW]; simp)
  clear hW
  repeat (go_big_quiet_step (first | (go_at_call 49; first | with_reducible exact Calls.below (cS _)) | (go_at_call 51; with_reducible exact Calls.below (cX _))))
  refine wpQuiet_nil ?_
  rintro u ⟨x, hx⟩
  have hu : Below W.heap.size W u := by rw [hx]; exact x.h
  clear hx d1 d2 d3 d4 d5
  go_wp2
  go_ret
  exact ⟨ret_sb HR.out, below_on hBW hu⟩

set_option maxRecDepth 100000 in
set_option maxHeartbeats 800000 in
theorem words_7 (so ad po n he ms : Int) (s : ByteArray) (w : World) (hs : 0 ≤ so ∧ so ≤ 1000000) (hn : 0 ≤ n ∧ n ≤ 1000000) :
    Calls Tryz.prog 50 #[clV ⟨7, so, ad, po, n, s, he, ms⟩] w fun e w' => e = .returned (.string ⟨(Lib.join [Pa.w_recv, Pa.num so, Pa.num n] [32]).toArray⟩) ∧ Below w.heap.size w w' := by
  obtain ⟨R, hR⟩ : ∃ R, R = Lib.join [Pa.w_recv, Pa.num so, Pa.num n] [32] := ⟨_, rfl⟩
  rw [← hR]
  have cS := fun u => refNum_any so u (by omega) (by omega)
  have lS := Pa.num_len (n := so) (by omega)
  obtain ⟨S, eS⟩ : ∃ S : ByteArray, S = ⟨(Pa.num so).toArray⟩ := ⟨_, rfl⟩
  have zS : S.size ≤ 5000 := by rw [eS, mk_size]; omega
  rw [← eS] at cS
  have cN := fun u => refNum_any n u (by omega) (by omega)
  have lN := Pa.num_len (n := n) (by omega)
  obtain ⟨N, eN⟩ : ∃ N : ByteArray, N = ⟨(Pa.num n).toArray⟩ := ⟨_, rfl⟩
  have zN : N.size ≤ 5000 := by rw [eN, mk_size]; omega
  rw [← eN] at cN
  have HR : Hid (((((⟨#[114, 101, 99, 118, 32]⟩ : ByteArray) ++ S) ++ ⟨#[32]⟩) ++ N) = ⟨R.toArray⟩) := by
    rw [Hid, hR, eS, eN]
    simp only [Pa.join_cons2, Lib.join_one]
    apply ByteArray.ext
    simp [ByteArray.data_append]
  have a0 := fun u => cat_run ⟨#[114, 101, 99, 118, 32]⟩ S u (by show 5 + S.size ≤ 9223372036854775807; omega)
  have a1 := fun u => cat_run (⟨#[114, 101, 99, 118, 32]⟩ ++ S) ⟨#[32]⟩ u (by simp only [ByteArray.size_append]; show 5 + S.size + 1 ≤ 9223372036854775807; omega)
  have a2 := fun u => cat_run ((⟨#[114, 101, 99, 118, 32]⟩ ++ S) ++ ⟨#[32]⟩) N u (by simp only [ByteArray.size_append]; show 5 + S.size + 1 + N.size ≤ 9223372036854775807; omega)
  clear hR eS eN lS lN
  unfold clV
  go_enter Tryz.func50, Tryz.ntmps50
  go_wp2_with fail
  refine wp_region_below (by kernel_rfl) (by kernel_rfl) ?_
  intro W hW
  have hsz : w.heap.size < W.heap.size := by rw [hW]; simp
  have hBW : Below w.heap.size w W := by rw [hW]; exact (Below.refl _ _).alloc (Nat.le_refl _) _
  have d1 : ∀ x : Lat (Below W.heap.size W), x.u.cell? ⟨w.heap.size, 1, none⟩ = some (.int .i64 so) := fun x => x.cell hsz (by rw [hW]; simp)
  have d2 : ∀ x : Lat (Below W.heap.size W), x.u.cell? ⟨w.heap.size, 2, none⟩ = some (.int .i64 ad) := fun x => x.cell hsz (by rw [hW]; simp)
  have d3 : ∀ x : Lat (Below W.heap.size W), x.u.cell? ⟨w.heap.size, 3, none⟩ = some (.int .i64 po) := fun x => x.cell hsz (by rw [hW]; simp)
  have d4 : ∀ x : Lat (Below W.heap.size W), x.u.cell? ⟨w.heap.size, 4, none⟩ = some (.int .i64 n) := fun x => x.cell hsz (by rw [hW]; simp)
  have d5 : ∀ x : Lat (Below W.heap.size W), x.u.cell? ⟨w.heap.size, 5, none⟩ = some (.string s) := fun x => x.cell hsz (by rw [hW]; simp)
  clear hW
  repeat (go_big_quiet_step (first | (go_at_call 49; first | with_reducible exact Calls.below (cS _) | with_reducible exact Calls.below (cN _))))
  refine wpQuiet_nil ?_
  rintro u ⟨x, hx⟩
  have hu : Below W.heap.size W u := by rw [hx]; exact x.h
  clear hx d1 d2 d3 d4 d5
  go_wp2
  go_ret
  exact ⟨ret_sb HR.out, below_on hBW hu⟩

set_option maxRecDepth 100000 in
set_option maxHeartbeats 800000 in
theorem words_8 (so ad po n he ms : Int) (s : ByteArray) (w : World) (hs : 0 ≤ so ∧ so ≤ 1000000) :
    Calls Tryz.prog 50 #[clV ⟨8, so, ad, po, n, s, he, ms⟩] w fun e w' => e = .returned (.string ⟨(Lib.join [Pa.w_shut, Pa.num so] [32]).toArray⟩) ∧ Below w.heap.size w w' := by
  obtain ⟨R, hR⟩ : ∃ R, R = Lib.join [Pa.w_shut, Pa.num so] [32] := ⟨_, rfl⟩
  rw [← hR]
  have cS := fun u => refNum_any so u (by omega) (by omega)
  have lS := Pa.num_len (n := so) (by omega)
  obtain ⟨S, eS⟩ : ∃ S : ByteArray, S = ⟨(Pa.num so).toArray⟩ := ⟨_, rfl⟩
  have zS : S.size ≤ 5000 := by rw [eS, mk_size]; omega
  rw [← eS] at cS
  have HR : Hid (((⟨#[115, 104, 117, 116, 32]⟩ : ByteArray) ++ S) = ⟨R.toArray⟩) := by
    rw [Hid, hR, eS]
    simp only [Pa.join_cons2, Lib.join_one]
    apply ByteArray.ext
    simp [ByteArray.data_append]
  have a0 := fun u => cat_run ⟨#[115, 104, 117, 116, 32]⟩ S u (by show 5 + S.size ≤ 9223372036854775807; omega)
  clear hR eS lS
  unfold clV
  go_enter Tryz.func50, Tryz.ntmps50
  go_wp2_with (go_at_call 49; refine (cS _).mono ?_; rintro e u ⟨rfl, hb⟩)
  go_ret
  exact ⟨ret_sb HR.out, below_on ((Below.refl _ _).alloc (Nat.le_refl _) _) hb⟩

set_option maxRecDepth 100000 in
set_option maxHeartbeats 800000 in
theorem words_9 (so ad po n he ms : Int) (s : ByteArray) (w : World) (hs : 0 ≤ so ∧ so ≤ 1000000) :
    Calls Tryz.prog 50 #[clV ⟨9, so, ad, po, n, s, he, ms⟩] w fun e w' => e = .returned (.string ⟨(Lib.join [Pa.w_close, Pa.num so] [32]).toArray⟩) ∧ Below w.heap.size w w' := by
  obtain ⟨R, hR⟩ : ∃ R, R = Lib.join [Pa.w_close, Pa.num so] [32] := ⟨_, rfl⟩
  rw [← hR]
  have cS := fun u => refNum_any so u (by omega) (by omega)
  have lS := Pa.num_len (n := so) (by omega)
  obtain ⟨S, eS⟩ : ∃ S : ByteArray, S = ⟨(Pa.num so).toArray⟩ := ⟨_, rfl⟩
  have zS : S.size ≤ 5000 := by rw [eS, mk_size]; omega
  rw [← eS] at cS
  have HR : Hid (((⟨#[99, 108, 111, 115, 101, 32]⟩ : ByteArray) ++ S) = ⟨R.toArray⟩) := by
    rw [Hid, hR, eS]
    simp only [Pa.join_cons2, Lib.join_one]
    apply ByteArray.ext
    simp [ByteArray.data_append]
  have a0 := fun u => cat_run ⟨#[99, 108, 111, 115, 101, 32]⟩ S u (by show 6 + S.size ≤ 9223372036854775807; omega)
  clear hR eS lS
  unfold clV
  go_enter Tryz.func50, Tryz.ntmps50
  go_wp2_with (go_at_call 49; refine (cS _).mono ?_; rintro e u ⟨rfl, hb⟩)
  go_ret
  exact ⟨ret_sb HR.out, below_on ((Below.refl _ _).alloc (Nat.le_refl _) _) hb⟩

set_option maxRecDepth 100000 in
set_option maxHeartbeats 800000 in
theorem words_10 (so ad po n he ms : Int) (s : ByteArray) (w : World) (hs : 0 ≤ so ∧ so ≤ 1000000) (hp : 0 ≤ po ∧ po ≤ 65535) (hx : s.size ≤ 2100) :
    Calls Tryz.prog 50 #[clV ⟨10, so, ad, po, n, s, he, ms⟩] w fun e w' => e = .returned (.string ⟨(Lib.join [Pa.w_sendto, Pa.num so, Pa.fmtS ad, Pa.num po, Pa.hexL s.data.toList] [32]).toArray⟩) ∧ Below w.heap.size w w' := by
  obtain ⟨R, hR⟩ : ∃ R, R = Lib.join [Pa.w_sendto, Pa.num so, Pa.fmtS ad, Pa.num po, Pa.hexL s.data.toList] [32] := ⟨_, rfl⟩
  rw [← hR]
  have cS := fun u => refNum_any so u (by omega) (by omega)
  have lS := Pa.num_len (n := so) (by omega)
  obtain ⟨S, eS⟩ : ∃ S : ByteArray, S = ⟨(Pa.num so).toArray⟩ := ⟨_, rfl⟩
  have zS : S.size ≤ 5000 := by rw [eS, mk_size]; omega
  rw [← eS] at cS
  have cP := fun u => refNum_any po u (by omega) (by omega)
  have lP := Pa.num_len (n := po) (by omega)
  obtain ⟨P, eP⟩ : ∃ P : ByteArray, P = ⟨(Pa.num po).toArray⟩ := ⟨_, rfl⟩
  have zP : P.size ≤ 5000 := by rw [eP, mk_size]; omega
  rw [← eP] at cP
  have cA := fun u => refAddr_any ad u
  have lA := Pa.fmtS_len ad
  obtain ⟨A, eA⟩ : ∃ A : ByteArray, A = ⟨(Pa.fmtS ad).toArray⟩ := ⟨_, rfl⟩
  have zA : A.size ≤ 5000 := by rw [eA, mk_size]; omega
  rw [← eA] at cA
  have cX := fun u => refHex_any s u (by omega)
  have lX := Pa.hexL_length s.data.toList
  rw [size_len] at lX
  obtain ⟨X, eX⟩ : ∃ X : ByteArray, X = ⟨(Pa.hexL s.data.toList).toArray⟩ := ⟨_, rfl⟩
  have zX : X.size ≤ 5000 := by rw [eX, mk_size]; omega
  rw [← eX] at cX
  have HR : Hid (((((((((⟨#[115, 101, 110, 100, 116, 111, 32]⟩ : ByteArray) ++ S) ++ ⟨#[32]⟩) ++ A) ++ ⟨#[32]⟩) ++ P) ++ ⟨#[32]⟩) ++ X) = ⟨R.toArray⟩) := by
    rw [Hid, hR, eS, eA, eP, eX]
    simp only [Pa.join_cons2, Lib.join_one]
    apply ByteArray.ext
    simp [ByteArray.data_append]
  have a0 := fun u => cat_run ⟨#[115, 101, 110, 100, 116, 111, 32]⟩ S u (by show 7 + S.size ≤ 9223372036854775807; omega)
  have a1 := fun u => cat_run (⟨#[115, 101, 110, 100, 116, 111, 32]⟩ ++ S) ⟨#[32]⟩ u (by simp only [ByteArray.size_append]; show 7 + S.size + 1 ≤ 9223372036854775807; omega)
  have a2 := fun u => cat_run ((⟨#[115, 101, 110, 100, 116, 111, 32]⟩ ++ S) ++ ⟨#[32]⟩) A u (by simp only [ByteArray.size_append]; show 7 + S.size + 1 + A.size ≤ 9223372036854775807; omega)
  have a3 := fun u => cat_run (((⟨#[115, 101, 110, 100, 116, 111, 32]⟩ ++ S) ++ ⟨#[32]⟩) ++ A) ⟨#[32]⟩ u (by simp only [ByteArray.size_append]; show 7 + S.size + 1 + A.size + 1 ≤ 9223372036854775807; omega)
  have a4 := fun u => cat_run ((((⟨#[115, 101, 110, 100, 116, 111, 32]⟩ ++ S) ++ ⟨#[32]⟩) ++ A) ++ ⟨#[32]⟩) P u (by simp only [ByteArray.size_append]; show 7 + S.size + 1 + A.size + 1 + P.size ≤ 9223372036854775807; omega)
  have a5 := fun u => cat_run (((((⟨#[115, 101, 110, 100, 116, 111, 32]⟩ ++ S) ++ ⟨#[32]⟩) ++ A) ++ ⟨#[32]⟩) ++ P) ⟨#[32]⟩ u (by simp only [ByteArray.size_append]; show 7 + S.size + 1 + A.size + 1 + P.size + 1 ≤ 9223372036854775807; omega)
  have a6 := fun u => cat_run ((((((⟨#[115, 101, 110, 100, 116, 111, 32]⟩ ++ S) ++ ⟨#[32]⟩) ++ A) ++ ⟨#[32]⟩) ++ P) ++ ⟨#[32]⟩) X u (by simp only [ByteArray.size_append]; show 7 + S.size + 1 + A.size + 1 + P.size + 1 + X.size ≤ 9223372036854775807; omega)
  clear hR eS eA eP eX lS lA lP lX
  unfold clV
  go_enter Tryz.func50, Tryz.ntmps50
  go_wp2_with fail
  refine wp_region_below (by kernel_rfl) (by kernel_rfl) ?_
  intro W hW
  have hsz : w.heap.size < W.heap.size := by rw [hW]; simp
  have hBW : Below w.heap.size w W := by rw [hW]; exact (Below.refl _ _).alloc (Nat.le_refl _) _
  have d1 : ∀ x : Lat (Below W.heap.size W), x.u.cell? ⟨w.heap.size, 1, none⟩ = some (.int .i64 so) := fun x => x.cell hsz (by rw [hW]; simp)
  have d2 : ∀ x : Lat (Below W.heap.size W), x.u.cell? ⟨w.heap.size, 2, none⟩ = some (.int .i64 ad) := fun x => x.cell hsz (by rw [hW]; simp)
  have d3 : ∀ x : Lat (Below W.heap.size W), x.u.cell? ⟨w.heap.size, 3, none⟩ = some (.int .i64 po) := fun x => x.cell hsz (by rw [hW]; simp)
  have d4 : ∀ x : Lat (Below W.heap.size W), x.u.cell? ⟨w.heap.size, 4, none⟩ = some (.int .i64 n) := fun x => x.cell hsz (by rw [hW]; simp)
  have d5 : ∀ x : Lat (Below W.heap.size W), x.u.cell? ⟨w.heap.size, 5, none⟩ = some (.string s) := fun x => x.cell hsz (by rw [hW]; simp)
  clear hW
  repeat (go_big_quiet_step (first | (go_at_call 49; first | with_reducible exact Calls.below (cS _) | with_reducible exact Calls.below (cP _)) | (go_at_call 73; with_reducible exact Calls.below (cA _)) | (go_at_call 51; with_reducible exact Calls.below (cX _))))
  refine wpQuiet_nil ?_
  rintro u ⟨x, hx⟩
  have hu : Below W.heap.size W u := by rw [hx]; exact x.h
  clear hx d1 d2 d3 d4 d5
  go_wp2
  go_ret
  exact ⟨ret_sb HR.out, below_on hBW hu⟩

set_option maxRecDepth 100000 in
set_option maxHeartbeats 800000 in
theorem words_11 (so ad po n he ms : Int) (s : ByteArray) (w : World) (hs : 0 ≤ so ∧ so ≤ 1000000) :
    Calls Tryz.prog 50 #[clV ⟨11, so, ad, po, n, s, he, ms⟩] w fun e w' => e = .returned (.string ⟨(Lib.join [Pa.w_recvfrom, Pa.num so] [32]).toArray⟩) ∧ Below w.heap.size w w' := by
  obtain ⟨R, hR⟩ : ∃ R, R = Lib.join [Pa.w_recvfrom, Pa.num so] [32] := ⟨_, rfl⟩
  rw [← hR]
  have cS := fun u => refNum_any so u (by omega) (by omega)
  have lS := Pa.num_len (n := so) (by omega)
  obtain ⟨S, eS⟩ : ∃ S : ByteArray, S = ⟨(Pa.num so).toArray⟩ := ⟨_, rfl⟩
  have zS : S.size ≤ 5000 := by rw [eS, mk_size]; omega
  rw [← eS] at cS
  have HR : Hid (((⟨#[114, 101, 99, 118, 102, 114, 111, 109, 32]⟩ : ByteArray) ++ S) = ⟨R.toArray⟩) := by
    rw [Hid, hR, eS]
    simp only [Pa.join_cons2, Lib.join_one]
    apply ByteArray.ext
    simp [ByteArray.data_append]
  have a0 := fun u => cat_run ⟨#[114, 101, 99, 118, 102, 114, 111, 109, 32]⟩ S u (by show 9 + S.size ≤ 9223372036854775807; omega)
  clear hR eS lS
  unfold clV
  go_enter Tryz.func50, Tryz.ntmps50
  go_wp2_with (go_at_call 49; refine (cS _).mono ?_; rintro e u ⟨rfl, hb⟩)
  go_ret
  exact ⟨ret_sb HR.out, below_on ((Below.refl _ _).alloc (Nat.le_refl _) _) hb⟩

set_option maxRecDepth 100000 in
set_option maxHeartbeats 800000 in
theorem words_12 (so ad po n he ms : Int) (s : ByteArray) (w : World) (hx : s.size ≤ 2100) :
    Calls Tryz.prog 50 #[clV ⟨12, so, ad, po, n, s, he, ms⟩] w fun e w' => e = .returned (.string ⟨(Lib.join [Pa.w_name, s.data.toList] [32]).toArray⟩) ∧ Below w.heap.size w w' := by
  obtain ⟨R, hR⟩ : ∃ R, R = Lib.join [Pa.w_name, s.data.toList] [32] := ⟨_, rfl⟩
  rw [← hR]
  have HR : Hid (((⟨#[110, 97, 109, 101, 32]⟩ : ByteArray) ++ s) = ⟨R.toArray⟩) := by
    rw [Hid, hR]
    simp only [Pa.join_cons2, Lib.join_one]
    apply ByteArray.ext
    simp [ByteArray.data_append]
  have a0 := fun u => cat_run ⟨#[110, 97, 109, 101, 32]⟩ s u (by show 5 + s.size ≤ 9223372036854775807; omega)
  clear hR
  unfold clV
  go_enter Tryz.func50, Tryz.ntmps50
  go_wp2
  go_ret
  exact ⟨ret_sb HR.out, (Below.refl _ _).alloc (Nat.le_refl _) _⟩

set_option maxRecDepth 100000 in
set_option maxHeartbeats 800000 in
theorem words_13 (so ad po n he ms : Int) (s : ByteArray) (w : World)  :
    Calls Tryz.prog 50 #[clV ⟨13, so, ad, po, n, s, he, ms⟩] w fun e w' => e = .returned (.string ⟨(Lib.join [Pa.w_ping, Pa.fmtS ad] [32]).toArray⟩) ∧ Below w.heap.size w w' := by
  obtain ⟨R, hR⟩ : ∃ R, R = Lib.join [Pa.w_ping, Pa.fmtS ad] [32] := ⟨_, rfl⟩
  rw [← hR]
  have cA := fun u => refAddr_any ad u
  have lA := Pa.fmtS_len ad
  obtain ⟨A, eA⟩ : ∃ A : ByteArray, A = ⟨(Pa.fmtS ad).toArray⟩ := ⟨_, rfl⟩
  have zA : A.size ≤ 5000 := by rw [eA, mk_size]; omega
  rw [← eA] at cA
  have HR : Hid (((⟨#[112, 105, 110, 103, 32]⟩ : ByteArray) ++ A) = ⟨R.toArray⟩) := by
    rw [Hid, hR, eA]
    simp only [Pa.join_cons2, Lib.join_one]
    apply ByteArray.ext
    simp [ByteArray.data_append]
  have a0 := fun u => cat_run ⟨#[112, 105, 110, 103, 32]⟩ A u (by show 5 + A.size ≤ 9223372036854775807; omega)
  clear hR eA lA
  unfold clV
  go_enter Tryz.func50, Tryz.ntmps50
  go_wp2_with (go_at_call 73; refine (cA _).mono ?_; rintro e u ⟨rfl, hb⟩)
  go_ret
  exact ⟨ret_sb HR.out, below_on ((Below.refl _ _).alloc (Nat.le_refl _) _) hb⟩

/-- The words of every valid call. -/
theorem refWords_any (c : Pa.Cl) (w : World) (h : Pa.okC c = true) :
    Calls Tryz.prog 50 #[clV c] w fun e w' => e = .returned (.string ⟨(Lib.join (Pa.callW c) [32]).toArray⟩) ∧ Below w.heap.size w w' := by
  obtain ⟨hk, -, hs, hn, hp, -, -⟩ := Pa.okC_parts h
  have hx := Pa.okC_size h
  clear h
  obtain ⟨k, so, ad, po, n, s, he, ms⟩ := c
  simp only at hk hs hn hp hx
  rcases Pa.kind_cases hk with rfl | rfl | rfl | rfl | rfl | rfl | rfl | rfl | rfl | rfl | rfl | rfl | rfl
  · exact words_1 so ad po n he ms s w
  · rw [show Pa.callW ⟨2, so, ad, po, n, s, he, ms⟩ = [Pa.w_bind, Pa.num so, Pa.num po] by simp [Pa.callW]]; exact words_2 so ad po n he ms s w hs hp
  · rw [show Pa.callW ⟨3, so, ad, po, n, s, he, ms⟩ = [Pa.w_listen, Pa.num so, Pa.num n] by simp [Pa.callW]]; exact words_3 so ad po n he ms s w hs hn
  · rw [show Pa.callW ⟨4, so, ad, po, n, s, he, ms⟩ = [Pa.w_connect, Pa.num so, Pa.fmtS ad, Pa.num po] by simp [Pa.callW]]; exact words_4 so ad po n he ms s w hs hp
  · rw [show Pa.callW ⟨5, so, ad, po, n, s, he, ms⟩ = [Pa.w_accept, Pa.num so] by simp [Pa.callW]]; exact words_5 so ad po n he ms s w hs
  · rw [show Pa.callW ⟨6, so, ad, po, n, s, he, ms⟩ = [Pa.w_send, Pa.num so, Pa.hexL s.data.toList] by simp [Pa.callW]]; exact words_6 so ad po n he ms s w hs hx
  · rw [show Pa.callW ⟨7, so, ad, po, n, s, he, ms⟩ = [Pa.w_recv, Pa.num so, Pa.num n] by simp [Pa.callW]]; exact words_7 so ad po n he ms s w hs hn
  · rw [show Pa.callW ⟨8, so, ad, po, n, s, he, ms⟩ = [Pa.w_shut, Pa.num so] by simp [Pa.callW]]; exact words_8 so ad po n he ms s w hs
  · rw [show Pa.callW ⟨9, so, ad, po, n, s, he, ms⟩ = [Pa.w_close, Pa.num so] by simp [Pa.callW]]; exact words_9 so ad po n he ms s w hs
  · rw [show Pa.callW ⟨10, so, ad, po, n, s, he, ms⟩ = [Pa.w_sendto, Pa.num so, Pa.fmtS ad, Pa.num po, Pa.hexL s.data.toList] by simp [Pa.callW]]; exact words_10 so ad po n he ms s w hs hp hx
  · rw [show Pa.callW ⟨11, so, ad, po, n, s, he, ms⟩ = [Pa.w_recvfrom, Pa.num so] by simp [Pa.callW]]; exact words_11 so ad po n he ms s w hs
  · rw [show Pa.callW ⟨12, so, ad, po, n, s, he, ms⟩ = [Pa.w_name, s.data.toList] by simp [Pa.callW]]; exact words_12 so ad po n he ms s w hx
  · rw [show Pa.callW ⟨13, so, ad, po, n, s, he, ms⟩ = [Pa.w_ping, Pa.fmtS ad] by simp [Pa.callW]]; exact words_13 so ad po n he ms s w 

end Go.Proofs.YtgajoiijebbagaaGreatDoor
