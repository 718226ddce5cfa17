/-
  PLAIN MATHEMATICS OF SCRIPTS, READING BACK: each reader gives back every valid action from its line; so both read the same, and the text of a script determines it. Conditions: none.
-/
import Derived.Test.YtgajoiijebbagaaGreatDoorSPlainB
namespace Go.Proofs.YtgajoiijebbagaaGreatDoor.Pa

theorem needC_eq {k so ad po n he ms : Int} {s : ByteArray} (h : (⟨k, so, ad, po, n, s, he, ms⟩ : Cl) = needC ⟨k, so, ad, po, n, s, he, ms⟩) : he = 0 ∧ ms = 0 ∧
    (k ∈ [1, 12, 13] → so = 0) ∧ (k ∉ [4, 10, 13] → ad = 0) ∧ (k ∉ [2, 4, 10] → po = 0) ∧ (k ∉ [1, 3, 7] → n = 0) ∧ (k ∉ [6, 10, 12] → s = ⟨#[]⟩) := by
  by_cases k1 : k = 1
  · subst k1; simp [needC, c0] at h ⊢; simp [h]
  by_cases k2 : k = 2
  · subst k2; simp [needC, c0] at h ⊢; simp [h]
  by_cases k3 : k = 3
  · subst k3; simp [needC, c0] at h ⊢; simp [h]
  by_cases k4 : k = 4
  · subst k4; simp [needC, c0] at h ⊢; simp [h]
  by_cases k6 : k = 6
  · subst k6; simp [needC, c0] at h ⊢; simp [h]
  by_cases k7 : k = 7
  · subst k7; simp [needC, c0] at h ⊢; simp [h]
  by_cases k10 : k = 10
  · subst k10; simp [needC, c0] at h ⊢; simp [h]
  by_cases k12 : k = 12
  · subst k12; simp [needC, c0] at h ⊢; simp [h]
  by_cases k13 : k = 13
  · subst k13; simp [needC, c0] at h ⊢; simp [h]
  simp [needC, c0, k1, k2, k3, k4, k6, k7, k10, k12, k13] at h ⊢; simp [h]

theorem rdCall_ok {c : Cl} (h : okC c = true) : rdCall (callW c) = some (c, []) := by
  obtain ⟨hk, hn, hs, hnn, hp, ha, ho⟩ := okC_parts h
  obtain ⟨k, so, ad, po, n, s, he, ms⟩ := c
  simp only at hk hs hnn hp ha ho
  obtain ⟨rfl, rfl, f1, f2, f3, f4, f5⟩ := needC_eq hn
  have e1 := fun r => num_ok hs.1 hs.2 r
  have e2 := fun r => num_ok hnn.1 hnn.2 r
  have e3 := fun r => num_ok hp.1 (by omega : po ≤ 1000000) r
  have e4 := fun r => addr_ok ha r
  have e5 := fun r => bytes_ok s.data.toList r
  rcases kind_cases hk with rfl | rfl | rfl | rfl | rfl | rfl | rfl | rfl | rfl | rfl | rfl | rfl | rfl
  · have hc : callW ⟨1, so, ad, po, n, s, 0, 0⟩ = [w_socket, if n = 6 then w_tcp else w_udp] := by simp [callW]
    have f1 := f1 (by decide)
    have f2 := f2 (by decide)
    have f3 := f3 (by decide)
    have f5 := f5 (by decide)
    subst f1 f2 f3 f5
    rw [hc]
    simp at ho
    rcases ho with rfl | rfl <;> rfl
  · have hc : callW ⟨2, so, ad, po, n, s, 0, 0⟩ = [w_bind, num so, num po] := by simp [callW]
    have f2 := f2 (by decide)
    have f4 := f4 (by decide)
    have f5 := f5 (by decide)
    subst f2 f4 f5
    rw [hc]
    show rdBind { c0 with kind := 2 } _ = _
    simp only [rdBind, e1, e3, Option.bind_some, Option.map_some]; rfl
  · have hc : callW ⟨3, so, ad, po, n, s, 0, 0⟩ = [w_listen, num so, num n] := by simp [callW]
    have f2 := f2 (by decide)
    have f3 := f3 (by decide)
    have f5 := f5 (by decide)
    subst f2 f3 f5
    rw [hc]
    show rdCount { c0 with kind := 3 } _ = _
    simp only [rdCount, e1, e2, Option.bind_some, Option.map_some]; rfl
  · have hc : callW ⟨4, so, ad, po, n, s, 0, 0⟩ = [w_connect, num so, fmtS ad, num po] := by simp [callW]
    have f4 := f4 (by decide)
    have f5 := f5 (by decide)
    subst f4 f5
    rw [hc]
    show rdPeer { c0 with kind := 4 } _ = _
    simp only [rdPeer, rdSock, rdAddress, e1, e3, e4, Option.bind_some, Option.map_some]; rfl
  · have hc : callW ⟨5, so, ad, po, n, s, 0, 0⟩ = [w_accept, num so] := by simp [callW]
    have f2 := f2 (by decide)
    have f3 := f3 (by decide)
    have f4 := f4 (by decide)
    have f5 := f5 (by decide)
    subst f2 f3 f4 f5
    rw [hc]
    show rdSock { c0 with kind := 5 } _ = _
    simp only [rdSock, e1, Option.map_some]; rfl
  · have hc : callW ⟨6, so, ad, po, n, s, 0, 0⟩ = [w_send, num so, hexL s.data.toList] := by simp [callW]
    have f2 := f2 (by decide)
    have f3 := f3 (by decide)
    have f4 := f4 (by decide)
    subst f2 f3 f4
    rw [hc]
    show rdData { c0 with kind := 6 } _ = _
    simp only [rdData, e1, e5, Option.bind_some, Option.map_some, str_back]; rfl
  · have hc : callW ⟨7, so, ad, po, n, s, 0, 0⟩ = [w_recv, num so, num n] := by simp [callW]
    have f2 := f2 (by decide)
    have f3 := f3 (by decide)
    have f5 := f5 (by decide)
    subst f2 f3 f5
    rw [hc]
    show rdCount { c0 with kind := 7 } _ = _
    simp only [rdCount, e1, e2, Option.bind_some, Option.map_some]; rfl
  · have hc : callW ⟨8, so, ad, po, n, s, 0, 0⟩ = [w_shut, num so] := by simp [callW]
    have f2 := f2 (by decide)
    have f3 := f3 (by decide)
    have f4 := f4 (by decide)
    have f5 := f5 (by decide)
    subst f2 f3 f4 f5
    rw [hc]
    show rdSock { c0 with kind := 8 } _ = _
    simp only [rdSock, e1, Option.map_some]; rfl
  · have hc : callW ⟨9, so, ad, po, n, s, 0, 0⟩ = [w_close, num so] := by simp [callW]
    have f2 := f2 (by decide)
    have f3 := f3 (by decide)
    have f4 := f4 (by decide)
    have f5 := f5 (by decide)
    subst f2 f3 f4 f5
    rw [hc]
    show rdSock { c0 with kind := 9 } _ = _
    simp only [rdSock, e1, Option.map_some]; rfl
  · have hc : callW ⟨10, so, ad, po, n, s, 0, 0⟩ = [w_sendto, num so, fmtS ad, num po, hexL s.data.toList] := by simp [callW]
    have f4 := f4 (by decide)
    subst f4
    rw [hc]
    show rdGram { c0 with kind := 10 } _ = _
    simp only [rdGram, rdPeer, rdSock, rdAddress, e1, e3, e4, e5, Option.bind_some, Option.map_some, str_back]; rfl
  · have hc : callW ⟨11, so, ad, po, n, s, 0, 0⟩ = [w_recvfrom, num so] := by simp [callW]
    have f2 := f2 (by decide)
    have f3 := f3 (by decide)
    have f4 := f4 (by decide)
    have f5 := f5 (by decide)
    subst f2 f3 f4 f5
    rw [hc]
    show rdSock { c0 with kind := 11 } _ = _
    simp only [rdSock, e1, Option.map_some]; rfl
  · have hc : callW ⟨12, so, ad, po, n, s, 0, 0⟩ = [w_name, s.data.toList] := by simp [callW]
    have f1 := f1 (by decide)
    have f2 := f2 (by decide)
    have f3 := f3 (by decide)
    have f4 := f4 (by decide)
    subst f1 f2 f3 f4
    rw [hc]
    show rdName { c0 with kind := 12 } [s.data.toList] = _
    simp only [rdName, rdWord, Option.map_some, str_back]; rfl
  · have hc : callW ⟨13, so, ad, po, n, s, 0, 0⟩ = [w_ping, fmtS ad] := by simp [callW]
    have f1 := f1 (by decide)
    have f3 := f3 (by decide)
    have f4 := f4 (by decide)
    have f5 := f5 (by decide)
    subst f1 f3 f4 f5
    rw [hc]
    show rdAddress { c0 with kind := 13 } _ = _
    simp only [rdAddress, e4, Option.map_some]; rfl

theorem rdFates_ok : ∀ l : List Int, (∀ f ∈ l, 0 ≤ f ∧ f ≤ 24) → rdFates (l.map num) = some l
  | [], _ => rfl
  | f :: r, h => by
    have hf := h f (by simp)
    rw [List.map_cons, rdFates, show num f = dig f.toNat from rfl, atoi_dig (by omega)]
    simp only [rdFates_ok r (fun g hg => h g (by simp [hg])), Option.map_some, Int.toNat_of_nonneg hf.1]

theorem okA_parts {a : Ac} (h : okA a = true) : (1 ≤ a.kind ∧ a.kind ≤ 4) ∧ a = needA a ∧
    (if a.kind = 1 then inR a.host 0 7 && okC a.call else if a.kind = 2 then inR a.n 1 500 else if a.kind = 3 then okF a.fates else inR a.n 0 7 && decide (a.s.size ≤ 1100)) = true := by
  simp only [okA, Bool.and_eq_true, inR_true, decide_eq_true_eq] at h
  exact ⟨h.1.1, h.1.2, h.2⟩

theorem rawP_ok {a : Ac} (h : okA a = true) : rawP (lineA a) = some a := by
  have hl := line_len h
  have hs := line_split h
  obtain ⟨hk, hn, ho⟩ := okA_parts h
  unfold rawP
  rw [if_neg (by omega), hs]
  obtain ⟨k, hh, c, n, fs, s⟩ := a
  simp only at hk ho
  rcases (by omega : k = 1 ∨ k = 2 ∨ k = 3 ∨ k = 4) with rfl | rfl | rfl | rfl
  · simp [needA, a0] at hn
    obtain ⟨rfl, rfl, rfl⟩ := hn
    simp [inR_true] at ho
    have hw : lineW ⟨1, hh, c, 0, [], ⟨#[]⟩⟩ = w_call :: num hh :: callW c := by simp [lineW]
    rw [hw]
    simp only [rdWord, Option.bind_some, if_true, num_ok ho.1.1 (by omega : hh ≤ 1000000), rdCall_ok ho.2, Option.map_some]; rfl
  · simp [needA, a0] at hn
    obtain ⟨rfl, rfl, rfl, rfl⟩ := hn
    simp [inR_true] at ho
    have hw : lineW ⟨2, 0, c0, n, [], ⟨#[]⟩⟩ = [w_tick, num n] := by simp [lineW]
    rw [hw]
    simp only [rdWord, Option.bind_some, if_true, num_ok (by omega : 0 ≤ n) (by omega : n ≤ 1000000), Option.map_some]; rfl
  · simp [needA, a0] at hn
    obtain ⟨rfl, rfl, rfl, rfl⟩ := hn
    simp [okF, inR_true] at ho
    have hw : lineW ⟨3, 0, c0, 0, fs, ⟨#[]⟩⟩ = w_fates :: fs.map num := by simp [lineW]
    rw [hw]
    simp only [rdWord, Option.bind_some, if_true, rdFates_ok fs ho.2, Option.map_some]; rfl
  · simp [needA, a0] at hn
    obtain ⟨rfl, rfl, rfl⟩ := hn
    simp [inR_true] at ho
    have hw : lineW ⟨4, 0, c0, n, [], s⟩ = [w_frame, num n, hexL s.data.toList] := by simp [lineW]
    rw [hw]
    simp only [rdWord, Option.bind_some, if_true, num_ok ho.1.1 (by omega : n ≤ 1000000), bytes_ok, Option.map_some, str_back]; rfl

theorem parseLine_some {t : Bs} {a : Ac} : parseLine t = some a ↔ okA a = true ∧ lineA a = t := by
  unfold parseLine
  constructor
  · intro h
    rw [Option.filter_eq_some_iff] at h
    simpa using h.2
  · rintro ⟨h, rfl⟩
    rw [rawP_ok h]
    simp [h]

theorem lineA_inj {a b : Ac} (ha : okA a = true) (hb : okA b = true) (h : lineA a = lineA b) : a = b := by
  have := rawP_ok ha; rw [h, rawP_ok hb] at this; exact (Option.some.inj this).symm

end Go.Proofs.YtgajoiijebbagaaGreatDoor.Pa
