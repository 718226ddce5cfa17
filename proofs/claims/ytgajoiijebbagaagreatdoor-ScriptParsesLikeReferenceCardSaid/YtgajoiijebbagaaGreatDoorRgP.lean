/-
  PLAIN FACTS for the loops of the document's printer and reader: splitting at a byte, joining words, hexadecimal bytes, the operands of a call. Conditions: none.
-/
import Derived.Test.YtgajoiijebbagaaGreatDoorRfP
namespace Go.Proofs.YtgajoiijebbagaaGreatDoor.Pa

theorem splitC_hit (c : UInt8) (r cur : Bs) : glue cur (splitC c (c :: r)) = cur :: splitC c r := by simp [splitC, glue]
theorem splitC_miss {c x : UInt8} (r cur : Bs) (h : x ≠ c) : glue cur (splitC c (x :: r)) = glue (cur ++ [x]) (splitC c r) := by
  rw [splitC, if_neg h, glue_glue]
theorem splitC_end (c : UInt8) (cur : Bs) : glue cur (splitC c []) = [cur] := by simp [splitC, glue]

/-- The document's loop over a text: P are the parts so far, cur the part that is open, r what is still unread. -/
def Cuts (c : UInt8) (s : Bs) (P : List Bs) (cur r : Bs) : Prop := splitC c s = P ++ glue cur (splitC c r)
theorem Cuts.start (c : UInt8) (s : Bs) : Cuts c s [] [] s := by unfold Cuts; rw [glue_nil _ (splitC_ne c s)]; rfl
theorem Cuts.hit {c : UInt8} {s : Bs} {P : List Bs} {cur r : Bs} (h : Cuts c s P cur (c :: r)) : Cuts c s (P ++ [cur]) [] r := by
  unfold Cuts at *; rw [h, splitC_hit, glue_nil _ (splitC_ne c r)]; simp
theorem Cuts.miss {c x : UInt8} {s : Bs} {P : List Bs} {cur r : Bs} (h : Cuts c s P cur (x :: r)) (hx : x ≠ c) : Cuts c s P (cur ++ [x]) r := by
  unfold Cuts at *; rw [h, splitC_miss _ _ hx]
theorem Cuts.done {c : UInt8} {s : Bs} {P : List Bs} {cur : Bs} (h : Cuts c s P cur []) : splitC c s = P ++ [cur] := by
  unfold Cuts at h; rw [h, splitC_end]

theorem piece_snoc (l : Bs) (f k : Nat) (hf : f ≤ k) (h : k < l.length) : piece l f (k + 1) = piece l f k ++ [l[k]] := by
  unfold piece
  rw [show k + 1 - f = (k - f) + 1 by omega, List.take_succ_eq_append_getElem (by rw [List.length_drop]; omega), List.getElem_drop]
  simp only [show f + (k - f) = k by omega]
theorem piece_self (l : Bs) (f : Nat) : piece l f f = [] := by unfold piece; simp
theorem piece_len (l : Bs) (f k : Nat) : (piece l f k).length ≤ k - f := by unfold piece; rw [List.length_take]; omega
theorem drop_at (l : Bs) (k : Nat) (h : k < l.length) : l.drop k = l[k] :: l.drop (k + 1) := List.drop_eq_getElem_cons h

/-- A word more. -/
theorem join_snoc : ∀ (l : List Bs) (x : Bs), l ≠ [] → Lib.join (l ++ [x]) [32] = Lib.join l [32] ++ 32 :: x
  | [], _, h => absurd rfl h
  | [a], x, _ => by rw [List.singleton_append, join_cons2, Lib.join_one, Lib.join_one]
  | a :: b :: r, x, _ => by
    rw [List.cons_append, List.cons_append, join_cons2, join_cons2, ← List.cons_append, join_snoc (b :: r) x (by simp)]; simp

/-- The document's loop over hexadecimal digits. -/
def PRelB (x : Bs) (k : Nat) (pre : Bs) : Prop := pre.length = k ∧ prs x = (prs (x.drop (2 * k))).map fun l => pre ++ l
theorem PRelB.start (x : Bs) : PRelB x 0 [] := ⟨rfl, by cases h : prs (x.drop (2 * 0)) <;> simp_all⟩
theorem two_at (x : Bs) (k : Nat) (h : 2 * k + 1 < x.length) : x.drop (2 * k) = x[2 * k] :: x[2 * k + 1] :: x.drop (2 * (k + 1)) := by
  rw [List.drop_eq_getElem_cons (by omega), List.drop_eq_getElem_cons h]; rfl
theorem PRelB.next {x : Bs} {k : Nat} {pre : Bs} (h : PRelB x k pre) (hk : 2 * k + 1 < x.length) {a b : Nat} (ha : unhexd x[2 * k] = some a) (hb : unhexd x[2 * k + 1] = some b) : PRelB x (k + 1) (pre ++ [UInt8.ofNat (16 * a + b)]) := by
  refine ⟨by rw [List.length_append, h.1]; rfl, ?_⟩
  rw [h.2, two_at x k hk, prs, ha, hb]
  cases prs (x.drop (2 * (k + 1))) <;> simp
theorem PRelB.bad {x : Bs} {k : Nat} {pre : Bs} (h : PRelB x k pre) (hk : 2 * k + 1 < x.length) (hn : unhexd x[2 * k] = none ∨ unhexd x[2 * k + 1] = none) : prs x = none := by
  rw [h.2, two_at x k hk, prs]
  rcases hn with hn | hn <;> rw [hn]
  · rfl
  · cases unhexd x[2 * k] <;> rfl
theorem PRelB.done {x : Bs} {k : Nat} {pre : Bs} (h : PRelB x k pre) (hk : x.length ≤ 2 * k + 1) : prs x = some pre := by
  rw [h.2]
  have : prs (x.drop (2 * k)) = some [] := by
    have hl : (x.drop (2 * k)).length ≤ 1 := by rw [List.length_drop]; omega
    match hd : x.drop (2 * k), hl with
    | [], _ => rfl
    | [c], _ => rfl
    | c :: d :: r, hl => simp at hl
  rw [this]; simp
theorem bytes_bad {x : Bs} (h0 : x ≠ [45]) (h : prs x = none) : bytesS x = [] ∧ bytesB x = false := by
  simp [bytesS, bytesB, h0, h]
theorem bytes_good {x pre : Bs} (h0 : x ≠ [45]) (h : prs x = some pre) : bytesS x = pre ∧ bytesB x = (decide (x.length % 2 = 0) && decide (0 < x.length)) := by
  simp [bytesS, bytesB, h0, h]
theorem bytes_dash : bytesS [45] = [] ∧ bytesB [45] = true := ⟨rfl, rfl⟩

theorem digR_some {c : UInt8} {n : Nat} (h : unhexd c = some n) : digR c = n := by simp [digR, h]
theorem digR_none {c : UInt8} (h : unhexd c = none) : digR c = -1 := by simp [digR, h]

/-- The k-th operand. -/
theorem foldR_at : ∀ (k : Nat) (c : Cl) (fs : Bs) (ws : List Bs), foldR c (fs.take k) (ws.take k) = foldR c (fs.take k) ws
  | 0, c, fs, ws => by simp [foldR]
  | k + 1, c, [], ws => by simp [foldR]
  | k + 1, c, f :: fs, [] => by simp [foldR]
  | k + 1, c, f :: fs, w :: ws => by simp only [List.take_succ_cons, foldR]; exact foldR_at k _ fs ws
theorem foldR_snoc : ∀ (k : Nat) (c : Cl) (fs : Bs) (ws : List Bs) (h : k < fs.length) (h' : k < ws.length), foldR c (fs.take (k + 1)) (ws.take (k + 1)) = stepR (foldR c (fs.take k) (ws.take k)) fs[k] ws[k]
  | 0, c, f :: fs, w :: ws, _, _ => by simp [foldR]
  | k + 1, c, f :: fs, w :: ws, h, h' => by
    simp only [List.take_succ_cons, foldR]
    exact foldR_snoc k _ fs ws (by simpa using h) (by simpa using h')
theorem foldR_all (c : Cl) (fs : Bs) (ws : List Bs) : foldR c (fs.take fs.length) (ws.take fs.length) = foldR c fs ws := by
  rw [foldR_at, List.take_length]

end Go.Proofs.YtgajoiijebbagaaGreatDoor.Pa
