/-
  PLAIN MATHEMATICS OF SCRIPTS: what chapter 27's functions compute, as Lean functions on lists of bytes, and the laws on them. No program in sight. Conditions: none.
-/
import Derived.Test.YtgajoiijebbagaaGreatDoorPlainB
import Derived.Lib.AtoiTie
import Derived.Lib.JoinLaws
namespace Go.Proofs.YtgajoiijebbagaaGreatDoor.Pa

/-! ## splitting at a byte -/
def splitC (c : UInt8) : Bs → List Bs
  | [] => [[]]
  | x :: r => if x = c then [] :: splitC c r else glue [x] (splitC c r)

theorem splitC_ne (c : UInt8) : ∀ l : Bs, splitC c l ≠ []
  | [] => by simp [splitC]
  | x :: r => by unfold splitC; split; · simp
                 · exact glue_ne _ _

theorem splitC_none (c : UInt8) : ∀ l : Bs, (∀ x ∈ l, x ≠ c) → splitC c l = [l]
  | [], _ => rfl
  | x :: r, h => by
    rw [splitC, if_neg (h x (by simp)), splitC_none c r (fun y hy => h y (by simp [hy]))]; rfl

theorem splitC_append (c : UInt8) : ∀ (l r : Bs), (∀ x ∈ l, x ≠ c) → splitC c (l ++ c :: r) = l :: splitC c r
  | [], r, _ => by simp [splitC]
  | x :: l, r, h => by
    rw [List.cons_append, splitC, if_neg (h x (by simp)), splitC_append c l r (fun y hy => h y (by simp [hy]))]; rfl

theorem join_cons2 (x y : Bs) (r : List Bs) (c : UInt8) : Lib.join (x :: y :: r) [c] = x ++ c :: Lib.join (y :: r) [c] := by
  rw [Lib.join_cons, Lib.join_cons]; simp [Lib.joinTail]

theorem splitC_join (c : UInt8) : ∀ (ws : List Bs), ws ≠ [] → (∀ w ∈ ws, ∀ x ∈ w, x ≠ c) → splitC c (Lib.join ws [c]) = ws
  | [], h, _ => absurd rfl h
  | [w], _, h => by rw [Lib.join_one]; exact splitC_none c w (h w (by simp))
  | w :: v :: r, _, h => by
    rw [join_cons2, splitC_append c w _ (h w (by simp)), splitC_join c (v :: r) (by simp) (fun u hu => h u (by simp only [List.mem_cons] at hu ⊢; exact Or.inr hu))]

theorem splitD_eq : ∀ l : Bs, splitD l = splitC 46 l
  | [] => rfl
  | x :: r => by
    by_cases h : x = 46
    · subst h; have := splitD_dot r []; rw [glue_nil _ (splitD_ne _)] at this; rw [this, splitD_eq r]; simp [splitC]
    · have := splitD_other x r [] h; rw [glue_nil _ (splitD_ne _)] at this; rw [this, splitD_eq r, splitC, if_neg h]; rfl

/-! ## hexadecimal -/
def hexd (n : Nat) : UInt8 := if n < 10 then UInt8.ofNat (48 + n) else UInt8.ofNat (87 + n)
def hex2 (c : UInt8) : Bs := [hexd (c.toNat / 16), hexd (c.toNat % 16)]
def hexs (l : Bs) : Bs := l.flatMap hex2
def hexL (l : Bs) : Bs := if l = [] then [45] else hexs l

theorem hexs_length (l : Bs) : (hexs l).length = 2 * l.length := by
  induction l with
  | nil => rfl
  | cons c r ih =>
    show (hex2 c ++ hexs r).length = _
    rw [List.length_append, ih]; simp [hex2]; omega

def unhexd (c : UInt8) : Option Nat := if 48 ≤ c.toNat ∧ c.toNat ≤ 57 then some (c.toNat - 48) else if 97 ≤ c.toNat ∧ c.toNat ≤ 102 then some (c.toNat - 87) else none
def unhexs : Bs → Option Bs
  | a :: b :: r => match unhexd a, unhexd b, unhexs r with
    | some x, some y, some t => some (UInt8.ofNat (16 * x + y) :: t)
    | _, _, _ => none
  | [] => some []
  | [_] => none
def unhexL (l : Bs) : Option Bs := if l = [45] then some [] else if l = [] then none else unhexs l

theorem unhexd_hexd {n : Nat} (h : n < 16) : unhexd (hexd n) = some n := by
  have : ∀ m : Fin 16, unhexd (hexd m.val) = some m.val := by decide
  exact this ⟨n, h⟩
theorem hexd_ne {n : Nat} (h : n < 16) : hexd n ≠ 45 ∧ hexd n ≠ 32 ∧ hexd n ≠ 10 := by
  have : ∀ m : Fin 16, hexd m.val ≠ 45 ∧ hexd m.val ≠ 32 ∧ hexd m.val ≠ 10 := by decide
  exact this ⟨n, h⟩

theorem unhexs_hexs : ∀ l : Bs, unhexs (hexs l) = some l
  | [] => rfl
  | c :: r => by
    show unhexs (hexd (c.toNat / 16) :: hexd (c.toNat % 16) :: hexs r) = _
    have hc := c.toNat_lt
    rw [unhexs, unhexd_hexd (by omega), unhexd_hexd (by omega), unhexs_hexs r]
    show some (UInt8.ofNat (16 * (c.toNat / 16) + c.toNat % 16) :: r) = _
    rw [show 16 * (c.toNat / 16) + c.toNat % 16 = c.toNat by omega, UInt8.ofNat_toNat]

theorem hexs_mem (l : Bs) : ∀ x ∈ hexs l, x ≠ 45 ∧ x ≠ 32 ∧ x ≠ 10 := by
  intro x hx
  obtain ⟨c, _, hc⟩ := List.mem_flatMap.1 hx
  have := c.toNat_lt
  simp only [hex2, List.mem_cons, List.not_mem_nil, or_false] at hc
  rcases hc with rfl | rfl
  · exact hexd_ne (by omega)
  · exact hexd_ne (by omega)

theorem hexs_nil {l : Bs} (h : hexs l = []) : l = [] := by
  have := hexs_length l; rw [h] at this
  exact List.length_eq_zero_iff.1 (by simp at this; omega)

theorem unhexL_hexL (l : Bs) : unhexL (hexL l) = some l := by
  unfold hexL
  by_cases h : l = []
  · subst h; rfl
  · rw [if_neg h, unhexL, if_neg, if_neg (fun e => h (hexs_nil e)), unhexs_hexs]
    intro e
    have := hexs_mem l 45 (by rw [e]; simp)
    exact this.1 rfl

theorem hexL_mem (l : Bs) : ∀ x ∈ hexL l, x ≠ 32 ∧ x ≠ 10 := by
  intro x hx
  unfold hexL at hx
  split at hx
  · simp at hx; subst hx; decide
  · exact (hexs_mem l x hx).2

theorem hexL_length (l : Bs) : (hexL l).length ≤ 2 * l.length + 1 := by
  unfold hexL; split
  · simp
  · rw [hexs_length]; omega

/-! ## names -/
def inLab (c : UInt8) : Bool := decide (97 ≤ c.toNat ∧ c.toNat ≤ 122) || decide (48 ≤ c.toNat ∧ c.toNat ≤ 57) || decide (c = 45)
def labOk (l : Bs) : Bool := decide (1 ≤ l.length ∧ l.length ≤ 20) && decide (l.head? ≠ some 45) && decide (l.getLast? ≠ some 45) && l.all inLab
def nameOk (s : Bs) : Bool := decide (s.length ≤ 60) && (splitC 46 s).all labOk

theorem mem_splitC (c : UInt8) : ∀ (l : Bs) (x : UInt8), x ∈ l → x ≠ c → ∃ w ∈ splitC c l, x ∈ w
  | [], x, h, _ => by simp at h
  | y :: r, x, h, hx => by
    rw [splitC]
    by_cases hy : y = c
    · rw [if_pos hy]
      have : x ∈ r := by
        rcases List.mem_cons.1 h with rfl | h
        · exact absurd hy hx
        · exact h
      obtain ⟨w, h1, h2⟩ := mem_splitC c r x this hx
      exact ⟨w, by simp [h1], h2⟩
    · rw [if_neg hy]
      cases hs : splitC c r with
      | nil => exact absurd hs (splitC_ne c r)
      | cons v vs =>
        rcases List.mem_cons.1 h with rfl | h
        · exact ⟨x :: v, by simp [glue], by simp⟩
        · obtain ⟨w, h1, h2⟩ := mem_splitC c r x h hx
          rw [hs] at h1
          rcases List.mem_cons.1 h1 with rfl | h1
          · exact ⟨y :: w, by simp [glue], by simp [h2]⟩
          · exact ⟨w, by simp [glue, h1], h2⟩

theorem name_mem {s : Bs} (h : nameOk s = true) : ∀ x ∈ s, x ≠ 32 ∧ x ≠ 10 := by
  intro x hx
  by_cases h46 : x = 46
  · subst h46; decide
  · obtain ⟨w, h1, h2⟩ := mem_splitC 46 s x hx h46
    simp only [nameOk, Bool.and_eq_true, List.all_eq_true] at h
    have := h.2 w h1
    simp only [labOk, Bool.and_eq_true, List.all_eq_true] at this
    have := this.2 x h2
    constructor <;> (rintro rfl; simp [inLab] at this)

/-! ## calls and actions -/
structure Cl where
  kind : Int
  sock : Int
  addr : Int
  port : Int
  n : Int
  s : ByteArray
  here : Int
  mss : Int
  deriving DecidableEq

structure Ac where
  kind : Int
  host : Int
  call : Cl
  n : Int
  fates : List Int
  s : ByteArray
  deriving DecidableEq

def c0 : Cl := ⟨0, 0, 0, 0, 0, ⟨#[]⟩, 0, 0⟩
def a0 : Ac := ⟨0, 0, c0, 0, [], ⟨#[]⟩⟩

def inR (n lo hi : Int) : Bool := decide (lo ≤ n ∧ n ≤ hi)
theorem inR_true {n lo hi : Int} : inR n lo hi = true ↔ lo ≤ n ∧ n ≤ hi := by simp [inR]
theorem inR_false {n lo hi : Int} : inR n lo hi = false ↔ ¬ (lo ≤ n ∧ n ≤ hi) := by simp [inR]

/-- c with the fields alone that its kind uses. -/
def needC (c : Cl) : Cl :=
  if c.kind = 1 then { c0 with kind := c.kind, n := c.n }
  else if c.kind = 2 then { c0 with kind := c.kind, sock := c.sock, port := c.port }
  else if c.kind = 3 ∨ c.kind = 7 then { c0 with kind := c.kind, sock := c.sock, n := c.n }
  else if c.kind = 4 then { c0 with kind := c.kind, sock := c.sock, addr := c.addr, port := c.port }
  else if c.kind = 6 then { c0 with kind := c.kind, sock := c.sock, s := c.s }
  else if c.kind = 10 then { c0 with kind := c.kind, sock := c.sock, addr := c.addr, port := c.port, s := c.s }
  else if c.kind = 12 then { c0 with kind := c.kind, s := c.s }
  else if c.kind = 13 then { c0 with kind := c.kind, addr := c.addr }
  else { c0 with kind := c.kind, sock := c.sock }

def okC (c : Cl) : Bool :=
  inR c.kind 1 13 && decide (c = needC c) && inR c.sock 0 1000000 && inR c.n 0 1000000 && inR c.port 0 65535 && validB c.addr &&
  (if c.kind = 1 then decide (c.n = 6 ∨ c.n = 17) else if c.kind = 12 then nameOk c.s.data.toList else decide (c.s.size ≤ 2100))

def okF (l : List Int) : Bool := decide (l.length ≤ 64) && l.all fun f => inR f 0 24

/-- The fields alone that its kind uses. -/
def needA (a : Ac) : Ac :=
  if a.kind = 1 then { a0 with kind := a.kind, host := a.host, call := a.call }
  else if a.kind = 2 then { a0 with kind := a.kind, n := a.n }
  else if a.kind = 3 then { a0 with kind := a.kind, fates := a.fates }
  else { a0 with kind := a.kind, n := a.n, s := a.s }

def okA (a : Ac) : Bool :=
  inR a.kind 1 4 && decide (a = needA a) &&
  (if a.kind = 1 then inR a.host 0 7 && okC a.call else if a.kind = 2 then inR a.n 1 500 else if a.kind = 3 then okF a.fates else inR a.n 0 7 && decide (a.s.size ≤ 1100))

def num (n : Int) : Bs := dig n.toNat
abbrev w_call : Bs := [99, 97, 108, 108]
abbrev w_tick : Bs := [116, 105, 99, 107]
abbrev w_fates : Bs := [102, 97, 116, 101, 115]
abbrev w_frame : Bs := [102, 114, 97, 109, 101]
abbrev w_socket : Bs := [115, 111, 99, 107, 101, 116]
abbrev w_bind : Bs := [98, 105, 110, 100]
abbrev w_listen : Bs := [108, 105, 115, 116, 101, 110]
abbrev w_connect : Bs := [99, 111, 110, 110, 101, 99, 116]
abbrev w_accept : Bs := [97, 99, 99, 101, 112, 116]
abbrev w_send : Bs := [115, 101, 110, 100]
abbrev w_recv : Bs := [114, 101, 99, 118]
abbrev w_shut : Bs := [115, 104, 117, 116]
abbrev w_close : Bs := [99, 108, 111, 115, 101]
abbrev w_sendto : Bs := [115, 101, 110, 100, 116, 111]
abbrev w_recvfrom : Bs := [114, 101, 99, 118, 102, 114, 111, 109]
abbrev w_name : Bs := [110, 97, 109, 101]
abbrev w_ping : Bs := [112, 105, 110, 103]
abbrev w_tcp : Bs := [116, 99, 112]
abbrev w_udp : Bs := [117, 100, 112]

def callW (c : Cl) : List Bs :=
  if c.kind = 1 then [w_socket, if c.n = 6 then w_tcp else w_udp]
  else if c.kind = 2 then [w_bind, num c.sock, num c.port]
  else if c.kind = 3 then [w_listen, num c.sock, num c.n]
  else if c.kind = 4 then [w_connect, num c.sock, fmtS c.addr, num c.port]
  else if c.kind = 5 then [w_accept, num c.sock]
  else if c.kind = 6 then [w_send, num c.sock, hexL c.s.data.toList]
  else if c.kind = 7 then [w_recv, num c.sock, num c.n]
  else if c.kind = 8 then [w_shut, num c.sock]
  else if c.kind = 9 then [w_close, num c.sock]
  else if c.kind = 10 then [w_sendto, num c.sock, fmtS c.addr, num c.port, hexL c.s.data.toList]
  else if c.kind = 11 then [w_recvfrom, num c.sock]
  else if c.kind = 12 then [w_name, c.s.data.toList]
  else [w_ping, fmtS c.addr]

def lineW (a : Ac) : List Bs :=
  if a.kind = 1 then w_call :: num a.host :: callW a.call
  else if a.kind = 2 then [w_tick, num a.n]
  else if a.kind = 3 then w_fates :: a.fates.map num
  else [w_frame, num a.n, hexL a.s.data.toList]

def lineA (a : Ac) : Bs := Lib.join (lineW a) [32]
def textA (l : List Ac) : Bs := l.flatMap fun a => lineA a ++ [10]
def printA (l : List Ac) : Option Bs := if l.length ≤ 100 ∧ l.all okA = true then some (textA l) else none

end Go.Proofs.YtgajoiijebbagaaGreatDoor.Pa
