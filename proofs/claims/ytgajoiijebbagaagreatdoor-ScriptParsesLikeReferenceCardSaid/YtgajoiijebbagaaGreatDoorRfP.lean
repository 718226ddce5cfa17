/-
  PLAIN FACTS about the document's reader of a line: it accepts exactly the lines that the program's reader accepts, with the same action. Conditions: none.
-/
import Derived.Test.YtgajoiijebbagaaGreatDoorPln
import Derived.Test.YtgajoiijebbagaaGreatDoorWb
namespace Go.Proofs.YtgajoiijebbagaaGreatDoor.Pa
set_option linter.unusedSimpArgs false

def digR (c : UInt8) : Int := match unhexd c with | some n => n | none => -1
def prs : Bs → Option Bs
  | c :: d :: r => match unhexd c, unhexd d with
    | some a, some b => (prs r).map fun l => UInt8.ofNat (16 * a + b) :: l
    | _, _ => none
  | _ => some []
def bytesS (w : Bs) : Bs := if w = [45] then [] else (prs w).getD []
def bytesB (w : Bs) : Bool := if w = [45] then true else (prs w).isSome && decide (w.length % 2 = 0) && decide (0 < w.length)

theorem prs_hexs : ∀ l : Bs, prs (hexs l) = some l
  | [] => rfl
  | c :: r => by
    have h1 : c.toNat / 16 < 16 := by have := c.toNat_lt; omega
    have h2 : c.toNat % 16 < 16 := by omega
    have e : hexs (c :: r) = hexd (c.toNat / 16) :: hexd (c.toNat % 16) :: hexs r := rfl
    rw [e, prs, unhexd_hexd h1, unhexd_hexd h2]
    simp only [prs_hexs r, Option.map_some]
    have : 16 * (c.toNat / 16) + c.toNat % 16 = c.toNat := by omega
    rw [this]; simp

theorem bytes_hexL (l : Bs) : bytesS (hexL l) = l ∧ bytesB (hexL l) = true := by
  unfold hexL
  split
  next h => subst h; exact ⟨rfl, rfl⟩
  next h =>
    have hne : hexs l ≠ [45] := by
      intro e
      have := congrArg List.length e
      rw [hexs_length] at this; simp at this; omega
    unfold bytesS bytesB
    rw [if_neg hne, if_neg hne, prs_hexs]
    refine ⟨rfl, ?_⟩
    have : 0 < l.length := List.length_pos_iff.2 h
    simp [hexs_length, h]
    exact this

def verbL : List Bs := [[], w_socket, w_bind, w_listen, w_connect, w_accept, w_send, w_recv, w_shut, w_close, w_sendto, w_recvfrom, w_name, w_ping]
/-- What the document's loop over the verbs has found below the k-th. -/
def kindU (w : Bs) : Nat → Nat
  | 0 => 0
  | k + 1 => if 1 ≤ k ∧ verbL[k]? = some w then k else kindU w k
def formL : List Bs := [[], [112], [115, 116], [115, 110], [115, 97, 116], [115], [115, 104], [115, 110], [115], [115], [115, 97, 116, 104], [115], [100], [97]]
def stepR (c : Cl) (f : UInt8) (w : Bs) : Cl :=
  if f = 112 then { c with n := if w = w_udp then 17 else if w = w_tcp then 6 else c.n }
  else if f = 115 then { c with sock := numR w 1000000 }
  else if f = 116 then { c with port := numR w 1000000 }
  else if f = 110 then { c with n := numR w 1000000 }
  else if f = 97 then { c with addr := if parOk w then parV w else -1 }
  else if f = 104 then { c with s := ⟨(bytesS w).toArray⟩, sock := if bytesB w then c.sock else -1 }
  else { c with s := ⟨w.toArray⟩ }
def foldR (c : Cl) : Bs → List Bs → Cl
  | f :: fs, w :: ws => foldR (stepR c f w) fs ws
  | _, _ => c
def formOf (w : Bs) : Bs := (formL[kindU w 14]?).getD []
def calledR : List Bs → Cl
  | [] => c0
  | w :: r => if (w :: r).length ≠ 1 + (formOf w).length then c0 else foldR { c0 with kind := kindU w 14 } (formOf w) r

theorem numR_num {n : Int} (h0 : 0 ≤ n) (h1 : n ≤ 1000000) : numR (num n) 1000000 = n := by
  unfold num
  rw [numR_some (numL_dig (n := n.toNat) (by omega))]; omega
theorem par_fmtS {a : Int} (h : validB a = true) : parOk (fmtS a) = true ∧ parV (fmtS a) = a := by
  have h2 := validB_true.1 h
  rw [fmtS_ok h]
  have := parse_fmt h
  simp only [parOk, parV, this, Option.isSome_some]
  exact ⟨trivial, by omega⟩

theorem k_socket : kindU w_socket 14 = 1 := by decide
theorem k_bind : kindU w_bind 14 = 2 := by decide
theorem k_listen : kindU w_listen 14 = 3 := by decide
theorem k_connect : kindU w_connect 14 = 4 := by decide
theorem k_accept : kindU w_accept 14 = 5 := by decide
theorem k_send : kindU w_send 14 = 6 := by decide
theorem k_recv : kindU w_recv 14 = 7 := by decide
theorem k_shut : kindU w_shut 14 = 8 := by decide
theorem k_close : kindU w_close 14 = 9 := by decide
theorem k_sendto : kindU w_sendto 14 = 10 := by decide
theorem k_recvfrom : kindU w_recvfrom 14 = 11 := by decide
theorem k_name : kindU w_name 14 = 12 := by decide
theorem k_ping : kindU w_ping 14 = 13 := by decide

theorem kindU_lt (w : Bs) : ∀ k, kindU w k ≤ k - 1
  | 0 => by simp [kindU]
  | k + 1 => by
    unfold kindU
    split
    · simp
    · have := kindU_lt w k; omega

theorem called_ok {c : Cl} (h : okC c = true) : calledR (callW c) = c := by
  obtain ⟨hk, hn, hs, hnn, hp, ha, ho⟩ := okC_parts h
  obtain ⟨k, so, ad, po, n, s, he, ms⟩ := c
  simp only at hk hs hnn hp ha ho
  obtain ⟨rfl, rfl, f1, f2, f3, f4, f5⟩ := needC_eq hn
  have n1 := numR_num hs.1 hs.2
  have n2 := numR_num hnn.1 hnn.2
  have n3 := numR_num hp.1 (by omega : po ≤ 1000000)
  obtain ⟨n4, n5⟩ := par_fmtS ha
  obtain ⟨n6, n7⟩ := bytes_hexL s.data.toList
  have n8 := str_back s
  clear h hn
  rcases kind_cases hk with rfl | rfl | rfl | rfl | rfl | rfl | rfl | rfl | rfl | rfl | rfl | rfl | rfl
  · have hc : callW ⟨1, so, ad, po, n, s, 0, 0⟩ = [w_socket, if n = 6 then w_tcp else w_udp] := by simp [callW]
    have f1 := f1 (by decide)
    have f2 := f2 (by decide)
    have f3 := f3 (by decide)
    have f5 := f5 (by decide)
    subst f1 f2 f3 f5
    rw [hc]
    simp at ho
    rcases ho with rfl | rfl <;> decide
  · have hc : callW ⟨2, so, ad, po, n, s, 0, 0⟩ = [w_bind, num so, num po] := by simp [callW]
    have f2 := f2 (by decide)
    have f4 := f4 (by decide)
    have f5 := f5 (by decide)
    subst f2 f4 f5
    rw [hc]
    simp only [calledR, formOf, k_bind, formL, List.length_cons, List.length_nil, List.getElem?_cons_succ, List.getElem?_cons_zero, Option.getD_some, foldR]
    simp [stepR, n1, n2, n3, n4, n5, n6, n7, n8, c0]
  · have hc : callW ⟨3, so, ad, po, n, s, 0, 0⟩ = [w_listen, num so, num n] := by simp [callW]
    have f2 := f2 (by decide)
    have f3 := f3 (by decide)
    have f5 := f5 (by decide)
    subst f2 f3 f5
    rw [hc]
    simp only [calledR, formOf, k_listen, formL, List.length_cons, List.length_nil, List.getElem?_cons_succ, List.getElem?_cons_zero, Option.getD_some, foldR]
    simp [stepR, n1, n2, n3, n4, n5, n6, n7, n8, c0]
  · have hc : callW ⟨4, so, ad, po, n, s, 0, 0⟩ = [w_connect, num so, fmtS ad, num po] := by simp [callW]
    have f4 := f4 (by decide)
    have f5 := f5 (by decide)
    subst f4 f5
    rw [hc]
    simp only [calledR, formOf, k_connect, formL, List.length_cons, List.length_nil, List.getElem?_cons_succ, List.getElem?_cons_zero, Option.getD_some, foldR]
    simp [stepR, n1, n2, n3, n4, n5, n6, n7, n8, c0]
  · have hc : callW ⟨5, so, ad, po, n, s, 0, 0⟩ = [w_accept, num so] := by simp [callW]
    have f2 := f2 (by decide)
    have f3 := f3 (by decide)
    have f4 := f4 (by decide)
    have f5 := f5 (by decide)
    subst f2 f3 f4 f5
    rw [hc]
    simp only [calledR, formOf, k_accept, formL, List.length_cons, List.length_nil, List.getElem?_cons_succ, List.getElem?_cons_zero, Option.getD_some, foldR]
    simp [stepR, n1, n2, n3, n4, n5, n6, n7, n8, c0]
  · have hc : callW ⟨6, so, ad, po, n, s, 0, 0⟩ = [w_send, num so, hexL s.data.toList] := by simp [callW]
    have f2 := f2 (by decide)
    have f3 := f3 (by decide)
    have f4 := f4 (by decide)
    subst f2 f3 f4
    rw [hc]
    simp only [calledR, formOf, k_send, formL, List.length_cons, List.length_nil, List.getElem?_cons_succ, List.getElem?_cons_zero, Option.getD_some, foldR]
    simp [stepR, n1, n2, n3, n4, n5, n6, n7, n8, c0]
  · have hc : callW ⟨7, so, ad, po, n, s, 0, 0⟩ = [w_recv, num so, num n] := by simp [callW]
    have f2 := f2 (by decide)
    have f3 := f3 (by decide)
    have f5 := f5 (by decide)
    subst f2 f3 f5
    rw [hc]
    simp only [calledR, formOf, k_recv, formL, List.length_cons, List.length_nil, List.getElem?_cons_succ, List.getElem?_cons_zero, Option.getD_some, foldR]
    simp [stepR, n1, n2, n3, n4, n5, n6, n7, n8, c0]
  · have hc : callW ⟨8, so, ad, po, n, s, 0, 0⟩ = [w_shut, num so] := by simp [callW]
    have f2 := f2 (by decide)
    have f3 := f3 (by decide)
    have f4 := f4 (by decide)
    have f5 := f5 (by decide)
    subst f2 f3 f4 f5
    rw [hc]
    simp only [calledR, formOf, k_shut, formL, List.length_cons, List.length_nil, List.getElem?_cons_succ, List.getElem?_cons_zero, Option.getD_some, foldR]
    simp [stepR, n1, n2, n3, n4, n5, n6, n7, n8, c0]
  · have hc : callW ⟨9, so, ad, po, n, s, 0, 0⟩ = [w_close, num so] := by simp [callW]
    have f2 := f2 (by decide)
    have f3 := f3 (by decide)
    have f4 := f4 (by decide)
    have f5 := f5 (by decide)
    subst f2 f3 f4 f5
    rw [hc]
    simp only [calledR, formOf, k_close, formL, List.length_cons, List.length_nil, List.getElem?_cons_succ, List.getElem?_cons_zero, Option.getD_some, foldR]
    simp [stepR, n1, n2, n3, n4, n5, n6, n7, n8, c0]
  · have hc : callW ⟨10, so, ad, po, n, s, 0, 0⟩ = [w_sendto, num so, fmtS ad, num po, hexL s.data.toList] := by simp [callW]
    have f4 := f4 (by decide)
    subst f4
    rw [hc]
    simp only [calledR, formOf, k_sendto, formL, List.length_cons, List.length_nil, List.getElem?_cons_succ, List.getElem?_cons_zero, Option.getD_some, foldR]
    simp [stepR, n1, n2, n3, n4, n5, n6, n7, n8, c0]
  · have hc : callW ⟨11, so, ad, po, n, s, 0, 0⟩ = [w_recvfrom, num so] := by simp [callW]
    have f2 := f2 (by decide)
    have f3 := f3 (by decide)
    have f4 := f4 (by decide)
    have f5 := f5 (by decide)
    subst f2 f3 f4 f5
    rw [hc]
    simp only [calledR, formOf, k_recvfrom, formL, List.length_cons, List.length_nil, List.getElem?_cons_succ, List.getElem?_cons_zero, Option.getD_some, foldR]
    simp [stepR, n1, n2, n3, n4, n5, n6, n7, n8, c0]
  · have hc : callW ⟨12, so, ad, po, n, s, 0, 0⟩ = [w_name, s.data.toList] := by simp [callW]
    have f1 := f1 (by decide)
    have f2 := f2 (by decide)
    have f3 := f3 (by decide)
    have f4 := f4 (by decide)
    subst f1 f2 f3 f4
    rw [hc]
    simp only [calledR, formOf, k_name, formL, List.length_cons, List.length_nil, List.getElem?_cons_succ, List.getElem?_cons_zero, Option.getD_some, foldR]
    simp [stepR, n1, n2, n3, n4, n5, n6, n7, n8, c0]
  · have hc : callW ⟨13, so, ad, po, n, s, 0, 0⟩ = [w_ping, fmtS ad] := by simp [callW]
    have f1 := f1 (by decide)
    have f3 := f3 (by decide)
    have f4 := f4 (by decide)
    have f5 := f5 (by decide)
    subst f1 f3 f4 f5
    rw [hc]
    simp only [calledR, formOf, k_ping, formL, List.length_cons, List.length_nil, List.getElem?_cons_succ, List.getElem?_cons_zero, Option.getD_some, foldR]
    simp [stepR, n1, n2, n3, n4, n5, n6, n7, n8, c0]

/-- What the document's reader makes of a line, and whether its bytes were well formed. -/
def rawR (t : Bs) : Ac × Bool :=
  match splitC 32 t with
  | [] => (a0, true)
  | w :: r =>
    if w = w_call ∧ 2 ≤ r.length then ({ a0 with kind := 1, host := numR (r.headD []) 1000000, call := calledR (r.drop 1) }, true)
    else if w = w_tick ∧ r.length = 1 then ({ a0 with kind := 2, n := numR (r.headD []) 1000000 }, true)
    else if w = w_frame ∧ r.length = 2 then ({ a0 with kind := 4, n := numR (r.headD []) 1000000, s := ⟨(bytesS ((r.drop 1).headD [])).toArray⟩ }, bytesB ((r.drop 1).headD []))
    else if w = w_fates then ({ a0 with kind := 3, fates := r.map fun x => numR x 1000000 }, true)
    else (a0, true)
def okR (t : Bs) : Bool := (rawR t).2 && okA (rawR t).1 && decide (lineA (rawR t).1 = t)

theorem fates_num : ∀ l : List Int, (∀ f ∈ l, 0 ≤ f ∧ f ≤ 24) → (l.map num).map (fun x => numR x 1000000) = l
  | [], _ => rfl
  | f :: r, h => by
    have hf := h f (by simp)
    rw [List.map_cons, List.map_cons, fates_num r (fun g hg => h g (by simp [hg])), numR_num hf.1 (by omega)]

theorem rawR_ok {a : Ac} (h : okA a = true) : rawR (lineA a) = (a, true) := by
  have hs := line_split h
  obtain ⟨hk, hn, ho⟩ := okA_parts h
  unfold rawR
  rw [hs]
  obtain ⟨k, hh, c, n, fs, s⟩ := a
  simp only at hk ho
  rcases (by omega : k = 1 ∨ k = 2 ∨ k = 3 ∨ k = 4) with rfl | rfl | rfl | rfl
  · simp [needA, a0] at hn
    obtain ⟨rfl, rfl, rfl⟩ := hn
    simp [inR_true] at ho
    have hw : lineW ⟨1, hh, c, 0, [], ⟨#[]⟩⟩ = w_call :: num hh :: callW c := by simp [lineW]
    have hlen : 1 ≤ (callW c).length := by
      have hk := (okC_parts ho.2).1
      obtain ⟨k, so, ad, po, n, s, he, ms⟩ := c
      simp only at hk
      rcases kind_cases hk with rfl | rfl | rfl | rfl | rfl | rfl | rfl | rfl | rfl | rfl | rfl | rfl | rfl <;> exact Nat.succ_le_succ (Nat.zero_le _)
    rw [hw]
    simp only [List.length_cons]
    rw [if_pos ⟨trivial, by omega⟩]
    simp [numR_num ho.1.1 (by omega : hh ≤ 1000000), called_ok ho.2, a0]
  · simp [needA, a0] at hn
    obtain ⟨rfl, rfl, rfl, rfl⟩ := hn
    simp [inR_true] at ho
    have hw : lineW ⟨2, 0, c0, n, [], ⟨#[]⟩⟩ = [w_tick, num n] := by simp [lineW]
    rw [hw]
    simp [numR_num (by omega : 0 ≤ n) (by omega : n ≤ 1000000), a0]
  · simp [needA, a0] at hn
    obtain ⟨rfl, rfl, rfl, rfl⟩ := hn
    simp [okF, inR_true] at ho
    have hw : lineW ⟨3, 0, c0, 0, fs, ⟨#[]⟩⟩ = w_fates :: fs.map num := by simp [lineW]
    rw [hw]
    have := fates_num fs (fun f hf => ho.2 f hf)
    simp only [a0, this]; simp
  · simp [needA, a0] at hn
    obtain ⟨rfl, rfl, rfl⟩ := hn
    simp [inR_true] at ho
    have hw : lineW ⟨4, 0, c0, n, [], s⟩ = [w_frame, num n, hexL s.data.toList] := by simp [lineW]
    obtain ⟨n6, n7⟩ := bytes_hexL s.data.toList
    have n8 := str_back s
    rw [hw]
    simp [numR_num (by omega : 0 ≤ n) (by omega : n ≤ 1000000), n6, n7, n8, a0]

theorem parseLine_R (t : Bs) : parseLine t = if okR t then some (rawR t).1 else none := by
  cases hp : parseLine t with
  | some a =>
    obtain ⟨h1, h2⟩ := parseLine_some.1 hp
    have := rawR_ok h1
    rw [h2] at this
    have hr : okR t = true := by unfold okR; rw [this]; simp [h1, h2]
    rw [hr, this]; simp
  | none =>
    split
    next h =>
      simp only [okR, Bool.and_eq_true, decide_eq_true_eq] at h
      rw [parseLine_some.2 ⟨h.1.2, h.2⟩] at hp
      cases hp
    next => rfl

end Go.Proofs.YtgajoiijebbagaaGreatDoor.Pa
