/-
  PLAIN MATHEMATICS OF SCRIPTS, READING: the readers of a line (the program's and the document's), and that each gives back every valid action from its line. Conditions: none.
-/
import Derived.Test.YtgajoiijebbagaaGreatDoorSPlainA
namespace Go.Proofs.YtgajoiijebbagaaGreatDoor.Pa

/-! ## the program's reader -/
abbrev Rd (α : Type) := Option (α × List Bs)
def rdWord : List Bs → Rd Bs
  | [] => none
  | w :: r => some (w, r)
def rdNum (ws : List Bs) : Rd Int := (rdWord ws).bind fun (w, r) => match Lib.atoiAll w with
  | .ok v => some (v, r)
  | _ => none
def rdBytes (ws : List Bs) : Rd Bs := (rdWord ws).bind fun (w, r) => (unhexL w).map fun b => (b, r)
def rdAddr (ws : List Bs) : Rd Int := (rdWord ws).bind fun (w, r) => (parseL w).map fun b => ((b : Int), r)

def rdProto (c : Cl) (ws : List Bs) : Rd Cl := (rdWord ws).map fun (w, r) => ({ c with n := if w = w_tcp then 6 else if w = w_udp then 17 else c.n }, r)
def rdSock (c : Cl) (ws : List Bs) : Rd Cl := (rdNum ws).map fun (n, r) => ({ c with sock := n }, r)
def rdBind (c : Cl) (ws : List Bs) : Rd Cl := (rdNum ws).bind fun (n, r) => (rdNum r).map fun (m, r) => ({ c with sock := n, port := m }, r)
def rdCount (c : Cl) (ws : List Bs) : Rd Cl := (rdNum ws).bind fun (n, r) => (rdNum r).map fun (m, r) => ({ c with sock := n, n := m }, r)
def rdData (c : Cl) (ws : List Bs) : Rd Cl := (rdNum ws).bind fun (n, r) => (rdBytes r).map fun (m, r) => ({ c with sock := n, s := ⟨m.toArray⟩ }, r)
def rdName (c : Cl) (ws : List Bs) : Rd Cl := (rdWord ws).map fun (w, r) => ({ c with s := ⟨w.toArray⟩ }, r)
def rdAddress (c : Cl) (ws : List Bs) : Rd Cl := (rdAddr ws).map fun (n, r) => ({ c with addr := n }, r)
def rdPeer (c : Cl) (ws : List Bs) : Rd Cl := (rdSock c ws).bind fun (c, r) => (rdAddress c r).bind fun (c, r) => (rdNum r).map fun (n, r) => ({ c with port := n }, r)
def rdGram (c : Cl) (ws : List Bs) : Rd Cl := (rdPeer c ws).bind fun (c, r) => (rdBytes r).map fun (m, r) => ({ c with s := ⟨m.toArray⟩ }, r)

/-- What a verb stands for: its kind and its reader. -/
def verbs : List (Bs × Int × (Cl → List Bs → Rd Cl)) :=
  [(w_socket, 1, rdProto), (w_bind, 2, rdBind), (w_listen, 3, rdCount), (w_connect, 4, rdPeer), (w_accept, 5, rdSock), (w_shut, 8, rdSock), (w_close, 9, rdSock),
   (w_recvfrom, 11, rdSock), (w_send, 6, rdData), (w_recv, 7, rdCount), (w_sendto, 10, rdGram), (w_name, 12, rdName), (w_ping, 13, rdAddress)]

def rdCall (ws : List Bs) : Rd Cl := (rdWord ws).bind fun (w, r) => match verbs.find? (fun v => v.1 == w) with
  | some (_, k, f) => f { c0 with kind := k } r
  | none => none

def rdFates : List Bs → Option (List Int)
  | [] => some []
  | w :: r => match Lib.atoiAll w with
    | .ok v => (rdFates r).map fun l => v :: l
    | _ => none

def rawP (t : Bs) : Option Ac :=
  if 8000 < t.length then none
  else (rdWord (splitC 32 t)).bind fun (w, r) =>
    if w = w_call then (rdNum r).bind fun (h, r) => (rdCall r).map fun (c, _) => { a0 with kind := 1, host := h, call := c }
    else if w = w_tick then (rdNum r).map fun (n, _) => { a0 with kind := 2, n := n }
    else if w = w_fates then (rdFates r).map fun l => { a0 with kind := 3, fates := l }
    else if w = w_frame then (rdNum r).bind fun (n, r) => (rdBytes r).map fun (s, _) => { a0 with kind := 4, n := n, s := ⟨s.toArray⟩ }
    else some a0

def parseLine (t : Bs) : Option Ac := (rawP t).filter fun a => okA a && decide (lineA a = t)

/-! ## what a valid action's words are -/
theorem decFrom_val : ∀ (l : Bs) (a : Nat), l.all isD = true → Lib.decFrom a l = some (l.foldl (fun n c => 10 * n + (c.toNat - 48)) a)
  | [], a, _ => rfl
  | c :: r, a, h => by
    simp only [List.all_cons, Bool.and_eq_true] at h
    have hc := (isD_iff c).1 h.1
    rw [Lib.decFrom, Lib.digitVal, if_pos hc]
    show Lib.decFrom (a * 10 + (c.toNat - 48)) r = _
    rw [decFrom_val r _ h.2, List.foldl_cons, Nat.mul_comm]

theorem nDigits_le : ∀ (k u : Nat), 1 ≤ k → u < 10 ^ k → Lib.nDigits u ≤ k
  | 0, _, h, _ => by omega
  | k + 1, u, _, h => by
    by_cases hu : u < 10
    · rw [Lib.nDigits_small hu]; omega
    · rw [Lib.nDigits_big hu]
      have hk : 1 ≤ k := by
        rcases Nat.eq_zero_or_pos k with rfl | h'
        · simp at h; omega
        · exact h'
      have := nDigits_le k (u / 10) hk (by rw [Nat.pow_succ] at h; omega)
      omega

theorem dig_len7 {n : Nat} (h : n ≤ 1000000) : (dig n).length ≤ 7 := by
  unfold dig; rw [Lib.decDigits_length]; exact nDigits_le 7 n (by omega) (by omega)

theorem atoi_dig {n : Nat} (h : n ≤ 1000000) : Lib.atoiAll (dig n) = .ok (n : Int) := by
  rw [Lib.atoiAll_short _ (by have := dig_len7 h; omega)]
  obtain ⟨h1, h2, h3, _⟩ := dig_spec n
  have hf := decFrom_val (dig n) 0 h1
  rw [show (dig n).foldl (fun n c => 10 * n + (c.toNat - 48)) 0 = n from h2] at hf
  cases hd : dig n with
  | nil => exact absurd hd h3
  | cons c r =>
    rw [hd] at hf h1
    simp only [List.all_cons, Bool.and_eq_true] at h1
    have hc := (isD_iff c).1 h1.1
    have h45 : (c == 45) = false := by rw [beq_eq_false_iff_ne]; rintro rfl; simp at hc
    have h43 : (c == 43) = false := by rw [beq_eq_false_iff_ne]; rintro rfl; simp at hc
    simp [Lib.atoi, h45, h43, Lib.decNat, hf, Lib.NumEnd.ofOption]

theorem num_ok {n : Int} (h0 : 0 ≤ n) (h1 : n ≤ 1000000) (r : List Bs) : rdNum (num n :: r) = some (n, r) := by
  show (match Lib.atoiAll (dig n.toNat) with | .ok v => some (v, r) | _ => none) = _
  rw [atoi_dig (by omega)]
  show some ((n.toNat : Int), r) = _
  rw [Int.toNat_of_nonneg h0]

theorem bytes_ok (l : Bs) (r : List Bs) : rdBytes (hexL l :: r) = some (l, r) := by
  show (unhexL (hexL l)).map _ = _
  rw [unhexL_hexL]; rfl

theorem fmtS_ok {a : Int} (h : validB a = true) : fmtS a = fmtL a := by unfold fmtS; rw [if_pos h]

theorem addr_ok {a : Int} (h : validB a = true) (r : List Bs) : rdAddr (fmtS a :: r) = some (a, r) := by
  simp only [rdAddr, rdWord, Option.bind_some]
  rw [fmtS_ok h, parse_fmt h]
  show some ((a.toNat : Int), r) = _
  rw [Int.toNat_of_nonneg (validB_true.1 h).1]

theorem str_back (s : ByteArray) : (⟨s.data.toList.toArray⟩ : ByteArray) = s := by cases s; simp

theorem dig_no {n : Nat} {c : UInt8} (h : isD c = false) : ∀ x ∈ dig n, x ≠ c := fun x hx e => by
  have := dig_mem n x hx; rw [e, h] at this; cases this

theorem fmtL_mem (a : Int) : ∀ x ∈ fmtL a, x ≠ 32 ∧ x ≠ 10 := by
  intro x hx
  have hd : ∀ n, x ∈ dig n → x ≠ 32 ∧ x ≠ 10 := fun n h => ⟨dig_no (by decide) x h, dig_no (by decide) x h⟩
  simp only [fmtL, List.mem_append, List.mem_cons] at hx
  rcases hx with h | rfl | h | rfl | h | rfl | h
  · exact hd _ h
  · decide
  · exact hd _ h
  · decide
  · exact hd _ h
  · decide
  · exact hd _ h

theorem okC_parts {c : Cl} (h : okC c = true) : (1 ≤ c.kind ∧ c.kind ≤ 13) ∧ c = needC c ∧ (0 ≤ c.sock ∧ c.sock ≤ 1000000) ∧ (0 ≤ c.n ∧ c.n ≤ 1000000) ∧ (0 ≤ c.port ∧ c.port ≤ 65535) ∧ validB c.addr = true ∧
    (if c.kind = 1 then decide (c.n = 6 ∨ c.n = 17) else if c.kind = 12 then nameOk c.s.data.toList else decide (c.s.size ≤ 2100)) = true := by
  simp only [okC, Bool.and_eq_true, inR_true, decide_eq_true_eq] at h
  obtain ⟨⟨⟨⟨⟨⟨h1, h2⟩, h3⟩, h4⟩, h5⟩, h6⟩, h7⟩ := h
  exact ⟨h1, h2, h3, h4, h5, h6, h7⟩

theorem kind_cases {k : Int} (h : 1 ≤ k ∧ k ≤ 13) : k = 1 ∨ k = 2 ∨ k = 3 ∨ k = 4 ∨ k = 5 ∨ k = 6 ∨ k = 7 ∨ k = 8 ∨ k = 9 ∨ k = 10 ∨ k = 11 ∨ k = 12 ∨ k = 13 := by omega

theorem callW_mem {c : Cl} (h : okC c = true) : ∀ w ∈ callW c, ∀ x ∈ w, x ≠ 32 ∧ x ≠ 10 := by
  obtain ⟨hk, -, -, -, -, ha, hs⟩ := okC_parts h
  have hd : ∀ n, ∀ x ∈ num n, x ≠ 32 ∧ x ≠ 10 := fun n x h => ⟨dig_no (by decide) x h, dig_no (by decide) x h⟩
  have hf : ∀ x ∈ fmtS c.addr, x ≠ 32 ∧ x ≠ 10 := by rw [fmtS_ok ha]; exact fmtL_mem _
  have hh := hexL_mem c.s.data.toList
  obtain ⟨k, so, ad, po, n, s, he, ms⟩ := c
  simp only at hk hs hf hh ha
  rcases kind_cases hk with rfl | rfl | rfl | rfl | rfl | rfl | rfl | rfl | rfl | rfl | rfl | rfl | rfl
  case inr.inr.inr.inr.inr.inr.inr.inr.inr.inr.inr.inl =>
    have hn := name_mem (s := s.data.toList) (by simpa using hs)
    intro w hw
    simp [callW] at hw
    rcases hw with rfl | rfl
    · decide
    · exact hn
  all_goals
    intro w hw
    simp [callW] at hw
    try split at hw
    all_goals
      rcases hw with rfl | rfl | rfl | rfl | rfl | rfl <;> first | decide | exact hd _ | exact hf | exact hh

theorem lineW_mem {a : Ac} (h : okA a = true) : ∀ w ∈ lineW a, ∀ x ∈ w, x ≠ 32 ∧ x ≠ 10 := by
  have hd : ∀ n, ∀ x ∈ num n, x ≠ 32 ∧ x ≠ 10 := fun n x h => ⟨dig_no (by decide) x h, dig_no (by decide) x h⟩
  simp only [okA, Bool.and_eq_true, inR_true, decide_eq_true_eq] at h
  obtain ⟨⟨hk, _⟩, hs⟩ := h
  intro w hw
  unfold lineW at hw
  by_cases h1 : a.kind = 1
  · rw [if_pos h1] at hw hs
    simp only [Bool.and_eq_true] at hs
    rcases List.mem_cons.1 hw with rfl | hw
    · decide
    rcases List.mem_cons.1 hw with rfl | hw
    · exact hd _
    · exact callW_mem hs.2 w hw
  rw [if_neg h1] at hw
  by_cases h2 : a.kind = 2
  · rw [if_pos h2] at hw
    simp only [List.mem_cons, List.not_mem_nil, or_false] at hw
    rcases hw with rfl | rfl
    · decide
    · exact hd _
  rw [if_neg h2] at hw
  by_cases h3 : a.kind = 3
  · rw [if_pos h3] at hw
    rcases List.mem_cons.1 hw with rfl | hw
    · decide
    obtain ⟨n, _, rfl⟩ := List.mem_map.1 hw
    exact hd _
  rw [if_neg h3] at hw
  simp only [List.mem_cons, List.not_mem_nil, or_false] at hw
  rcases hw with rfl | rfl | rfl
  · decide
  · exact hd _
  · exact hexL_mem _

theorem lineW_ne (a : Ac) : lineW a ≠ [] := by
  unfold lineW
  repeat' split
  all_goals simp

theorem line_split {a : Ac} (h : okA a = true) : splitC 32 (lineA a) = lineW a := splitC_join 32 _ (lineW_ne a) fun w hw x hx => (lineW_mem h w hw x hx).1

/-! ## lengths -/
theorem num_len {n : Int} (h : n ≤ 1000000) : (num n).length ≤ 7 := dig_len7 (by omega)
theorem fmtS_len (a : Int) : (fmtS a).length ≤ 15 := by unfold fmtS; split
                                                        · exact fmtL_length a
                                                        · simp
def wl (ws : List Bs) : Nat := (ws.map fun w => w.length + 1).sum
theorem join_len_le : ∀ ws : List Bs, (Lib.join ws [32]).length ≤ wl ws
  | [] => by simp [Lib.join_nil, wl]
  | [w] => by rw [Lib.join_one]; simp [wl]
  | w :: v :: r => by
    rw [join_cons2, List.length_append, List.length_cons]
    have := join_len_le (v :: r)
    simp only [wl, List.map_cons, List.sum_cons] at this ⊢
    omega

theorem callW_len {c : Cl} (h : okC c = true) : wl (callW c) ≤ 4300 := by
  obtain ⟨hk, hn, h3, h4, h5, ha, hs⟩ := okC_parts h
  have n1 := num_len h3.2
  have n2 := num_len h4.2
  have n3 := num_len (n := c.port) (by omega)
  have n4 := fmtS_len c.addr
  have n5 := hexL_length c.s.data.toList
  have hz : c.s.data.toList.length ≤ 2100 := by
    show c.s.size ≤ 2100
    by_cases k1 : c.kind = 1
    · rw [hn]; simp only [needC, k1, c0, if_true]; decide
    · rw [if_neg k1] at hs
      by_cases k2 : c.kind = 12
      · rw [if_pos k2] at hs
        simp only [nameOk, Bool.and_eq_true, decide_eq_true_eq] at hs
        have : c.s.size ≤ 60 := hs.1
        omega
      · rw [if_neg k2] at hs; simpa using hs
  obtain ⟨k, so, ad, po, n, s, he, ms⟩ := c
  simp only [Array.length_toList] at hk n1 n2 n3 n4 n5 hz
  have hz' : s.size ≤ 2100 := hz
  rcases kind_cases hk with rfl | rfl | rfl | rfl | rfl | rfl | rfl | rfl | rfl | rfl | rfl | rfl | rfl
  · by_cases h6 : n = 6
    · simp [callW, wl, h6]
    · simp [callW, wl, h6]
  all_goals
    simp [callW, wl]
    omega

theorem fates_len : ∀ l : List Int, (∀ f ∈ l, f ≤ 24) → wl (l.map num) ≤ 8 * l.length
  | [], _ => by simp [wl]
  | f :: r, h => by
    have h1 := num_len (n := f) (by have := h f (by simp); omega)
    have h2 := fates_len r (fun g hg => h g (by simp [hg]))
    simp only [wl, List.map_cons, List.sum_cons, List.length_cons] at h2 ⊢
    omega

theorem line_len {a : Ac} (h : okA a = true) : (lineA a).length ≤ 8000 := by
  refine Nat.le_trans (join_len_le _) ?_
  simp only [okA, Bool.and_eq_true, inR_true, decide_eq_true_eq] at h
  obtain ⟨⟨hk, _⟩, hs⟩ := h
  unfold lineW
  by_cases h1 : a.kind = 1
  · rw [if_pos h1] at hs ⊢
    simp only [Bool.and_eq_true, inR_true] at hs
    have h1 := callW_len hs.2
    have h2 := num_len (n := a.host) (by omega)
    simp only [wl, List.map_cons, List.sum_cons, List.length_cons, List.length_nil] at h1 ⊢
    omega
  rw [if_neg h1] at hs ⊢
  by_cases h2 : a.kind = 2
  · rw [if_pos h2] at hs ⊢
    simp only [inR_true] at hs
    have h2 := num_len (n := a.n) (by omega)
    simp only [wl, List.map_cons, List.map_nil, List.sum_cons, List.sum_nil, List.length_cons, List.length_nil] at h1 ⊢
    omega
  rw [if_neg h2] at hs ⊢
  by_cases h3 : a.kind = 3
  · rw [if_pos h3] at hs ⊢
    simp only [okF, Bool.and_eq_true, decide_eq_true_eq, List.all_eq_true, inR_true] at hs
    have := fates_len a.fates (fun f hf => (hs.2 f hf).2)
    simp only [wl, List.map_cons, List.sum_cons, List.length_cons, List.length_nil] at this ⊢
    omega
  rw [if_neg h3] at hs ⊢
  simp only [Bool.and_eq_true, inR_true, decide_eq_true_eq] at hs
  have h2 := num_len (n := a.n) (by omega)
  have h3 := hexL_length a.s.data.toList
  have h4 : a.s.data.toList.length ≤ 1100 := hs.2
  simp only [wl, List.map_cons, List.map_nil, List.sum_cons, List.sum_nil, List.length_cons, List.length_nil] at h1 ⊢
  omega

end Go.Proofs.YtgajoiijebbagaaGreatDoor.Pa
