/-
  The walks of script's readers of calls: proto, sock, binding, count, data, name, address, peer, datagram. Each says what it reads into the call, or that it panics, and that outside the reader's and the call's own variables nothing that was there has changed. Conditions: the words and the call lie in memory.
-/
import Derived.Test.YtgajoiijebbagaaGreatDoorSRead2
namespace Go.Proofs.YtgajoiijebbagaaGreatDoor
open Go.RowKit Go.Proofs

/-- Block b begins with these cells, which may be written. -/
def RowAt (b : Nat) (cs : List Value) (w : World) : Prop := b < w.heap.size ∧ ∀ (j : Nat) u, cs[j]? = some u → w.cell? ⟨b, j, none⟩ = some u ∧ w.frozen? ⟨b, j, none⟩ = false
theorem RowAt.kp {b : Nat} {cs : List Value} {w w' : World} {S : Nat → Prop} (h : RowAt b cs w) (k : Kp S w w') (hs : ¬ S b) : RowAt b cs w' :=
  ⟨Nat.lt_of_lt_of_le h.1 k.size, fun j u hu => ⟨by rw [k.cell h.1 hs]; exact (h.2 j u hu).1, by rw [k.frozen h.1 hs]; exact (h.2 j u hu).2⟩⟩
theorem RowAt.below {b : Nat} {cs : List Value} {w w' : World} (h : RowAt b cs w) (k : Below w.heap.size w w') : RowAt b cs w' := h.kp (S := fun _ => False) (.of_below k) id
theorem RowAt.set {b : Nat} {cs : List Value} {w : World} (h : RowAt b cs w) (j : Nat) (hj : j < cs.length) (v : Value) : RowAt b (cs.set j v) (w.setCell ⟨b, j, none⟩ v) := by
  refine ⟨by simpa [World.setCell] using h.1, fun i u hu => ⟨?_, ?_⟩⟩
  · rw [List.getElem?_set] at hu
    by_cases hij : j = i
    · subst hij
      simp [hj] at hu
      subst hu
      exact World.cell?_setCell_same' _ _ _ (by rw [(h.2 j _ (List.getElem?_eq_getElem hj)).1]; rfl)
    · rw [if_neg hij] at hu
      rw [World.cell?_setCell_other _ _ _ _ (by intro e; cases e; exact hij rfl)]
      exact (h.2 i u hu).1
  · rw [World.frozen?_setCell]
    rw [List.getElem?_set] at hu
    by_cases hij : j = i
    · subst hij; exact (h.2 j _ (List.getElem?_eq_getElem hj)).2
    · rw [if_neg hij] at hu; exact (h.2 i u hu).2
theorem RowAt.new (w : World) (cs : Array Value) (t : TypeId) : RowAt w.heap.size cs.toList (w.alloc (.cells cs t)) :=
  ⟨by simp, fun j u hu => ⟨by rw [World.cell?_alloc_at _ _ _ _ rfl]; simpa using hu, by simp⟩⟩

def clCells (c : Pa.Cl) : List Value := [.int .i64 c.kind, .int .i64 c.sock, .int .i64 c.addr, .int .i64 c.port, .int .i64 c.n, .string c.s, .int .i64 c.here, .int .i64 c.mss]

/-- What a reader of a call ends in. -/
def COut (rb wb cb : Nat) (r : Pa.Rd Pa.Cl) (w : World) (e : Ending) (w' : World) : Prop :=
  match r with
  | some (c, ws) => e = .returned (.tuple #[]) ∧ StR rb wb ws w' ∧ RowAt cb (clCells c) w' ∧ Kp (fun k => k = rb ∨ k = cb) w w'
  | none => e = .panicked badP ∧ Kp (fun k => k = rb ∨ k = cb) w w'
theorem COut.yes {rb wb cb : Nat} {r : Pa.Rd Pa.Cl} {c : Pa.Cl} {ws : List Pa.Bs} {w : World} {e : Ending} {w' : World} (hr : r = some (c, ws))
    (h : e = .returned (.tuple #[]) ∧ StR rb wb ws w' ∧ RowAt cb (clCells c) w' ∧ Kp (fun k => k = rb ∨ k = cb) w w') : COut rb wb cb r w e w' := by
  unfold COut; rw [hr]; exact h
theorem COut.no {rb wb cb : Nat} {r : Pa.Rd Pa.Cl} {w : World} {e : Ending} {w' : World} (hr : r = none) (h : e = .panicked badP ∧ Kp (fun k => k = rb ∨ k = cb) w w') : COut rb wb cb r w e w' := by
  unfold COut; rw [hr]; exact h

/-- The reader f computes rd. -/
def Reads (f : FuncId) (rd : Pa.Cl → List Pa.Bs → Pa.Rd Pa.Cl) : Prop := ∀ (rb wb cb : Nat) (c : Pa.Cl) (ws : List Pa.Bs) (w : World), Ok w → StR rb wb ws w → RowAt cb (clCells c) w → cb ≠ rb → cb ≠ wb → 4 ≤ cb →
  Calls Tryz.prog f #[.pointer (some ⟨rb, 0, none⟩), .pointer (some ⟨cb, 0, none⟩)] w (COut rb wb cb (rd c ws) w)

theorem Kp.two {rb cb : Nat} {w w' : World} (h : Kp (· = rb) w w') : Kp (fun k => k = rb ∨ k = cb) w w' := h.mono fun _ _ h => .inl h
theorem Kp.wr {rb cb : Nat} {w w' : World} (h : Kp (fun k => k = rb ∨ k = cb) w w') (j : Nat) (v : Value) : Kp (fun k => k = rb ∨ k = cb) w (w'.setCell ⟨cb, j, none⟩ v) := Kp.setCell (S := fun k => k = rb ∨ k = cb) h (p := ⟨cb, j, none⟩) (.inl (.inr rfl)) v
theorem StR.wr {rb wb cb : Nat} {ws : List Pa.Bs} {w : World} (h : StR rb wb ws w) (h1 : cb ≠ rb) (h2 : cb ≠ wb) (j : Nat) (v : Value) : StR rb wb ws (w.setCell ⟨cb, j, none⟩ v) := h.kept (Kp.set w cb j v) (fun e => h1 e.symm) (fun e => h2 e.symm)

theorem rsock : Reads 101 Pa.rdSock := by
  intro rb wb cb c ws w ok h hc h1 h2 h4
  cases hr : Pa.rdNum ws with
  | none =>
    have HR := Lib.hid hr; clear hr
    go_enter Tryz.func101, Tryz.ntmps101
    go_wp2_with (go_at_call 60; refine (rnum_no rb wb ws _ ok h HR.out).mono ?_; rintro e w1 ⟨rfl, k1⟩)
    exact ⟨rfl, COut.no (by simp [Pa.rdSock, HR.out]) ⟨rfl, k1.two⟩⟩
  | some p =>
    obtain ⟨n, r⟩ := p
    have HR := Lib.hid hr; clear hr
    go_enter Tryz.func101, Tryz.ntmps101
    go_wp2_with (go_at_call 60; refine (rnum_yes rb wb ws n r _ h HR.out).mono ?_; rintro e w1 ⟨rfl, s1, k1⟩; have hc1 := hc.kp k1 h1; have ⟨q1, q2⟩ := hc1.2 1 _ rfl)
    go_end0
    exact COut.yes (c := { c with sock := n }) (ws := r) (by simp [Pa.rdSock, HR.out]) ⟨rfl, s1.wr h1 h2 _ _, hc1.set 1 (by simp [clCells]) _, k1.two.wr _ _⟩

theorem rname : Reads 104 Pa.rdName := by
  intro rb wb cb c ws w ok h hc h1 h2 h4
  cases ws with
  | nil =>
    go_enter Tryz.func104, Tryz.ntmps104
    go_wp2_with (go_at_call 59; refine (word_none rb wb _ h).mono ?_; rintro e w1 ⟨rfl, k1⟩)
    exact ⟨rfl, COut.no rfl ⟨rfl, k1.two⟩⟩
  | cons x r =>
    go_enter Tryz.func104, Tryz.ntmps104
    go_wp2_with (go_at_call 59; refine (word_some rb wb x r _ h).mono ?_; rintro e w1 ⟨rfl, s1, k1⟩; have hc1 := hc.kp k1 h1; have ⟨q1, q2⟩ := hc1.2 5 _ rfl)
    go_end0
    exact COut.yes (c := { c with s := ⟨x.toArray⟩ }) (ws := r) rfl ⟨rfl, s1.wr h1 h2 _ _, hc1.set 5 (by simp [clCells]) _, k1.two.wr _ _⟩

theorem rproto : Reads 97 Pa.rdProto := by
  intro rb wb cb c ws w ok h hc h1 h2 h4
  cases ws with
  | nil =>
    go_enter Tryz.func97, Tryz.ntmps97
    go_wp2_with (go_at_call 59; refine (word_none rb wb _ h).mono ?_; rintro e w1 ⟨rfl, k1⟩)
    exact ⟨rfl, COut.no rfl ⟨rfl, k1.two⟩⟩
  | cons x r =>
    by_cases ht : x = Pa.w_tcp
    · subst ht
      go_enter Tryz.func97, Tryz.ntmps97
      go_wp2_with (go_at_call 59; refine (word_some rb wb _ r _ h).mono ?_; rintro e w1 ⟨rfl, s1, k1⟩; have hc1 := hc.kp k1 h1; have ⟨q1, q2⟩ := hc1.2 4 _ rfl)
      go_end0
      exact COut.yes (c := { c with n := 6 }) (ws := r) rfl ⟨rfl, s1.wr h1 h2 _ _, hc1.set 4 (by simp [clCells]) _, k1.two.wr _ _⟩
    by_cases hu : x = Pa.w_udp
    · subst hu
      go_enter Tryz.func97, Tryz.ntmps97
      go_wp2_with (go_at_call 59; refine (word_some rb wb _ r _ h).mono ?_; rintro e w1 ⟨rfl, s1, k1⟩; have hc1 := hc.kp k1 h1; have ⟨q1, q2⟩ := hc1.2 4 _ rfl)
      go_end0
      exact COut.yes (c := { c with n := 17 }) (ws := r) rfl ⟨rfl, s1.wr h1 h2 _ _, hc1.set 4 (by simp [clCells]) _, k1.two.wr _ _⟩
    · obtain ⟨s, hs⟩ : ∃ s : ByteArray, s = ⟨x.toArray⟩ := ⟨_, rfl⟩
      have hsl : s.toList = x := by rw [hs, ByteArray.toList_eq]
      have e1 : (s.toList == [116, 99, 112]) = false := by rw [hsl, beq_eq_false_iff_ne]; exact ht
      have e2 : (s.toList == [117, 100, 112]) = false := by rw [hsl, beq_eq_false_iff_ne]; exact hu
      have e1' : ¬ s.toList = [116, 99, 112] := by rw [hsl]; exact ht
      have e2' : ¬ s.toList = [117, 100, 112] := by rw [hsl]; exact hu
      have hword := word_some rb wb x r w h
      rw [← hs] at hword
      have HO : Hid (Pa.rdProto c (x :: r) = some (c, r)) := by simp [Hid, Pa.rdProto, Pa.rdWord, ht, hu]
      clear hs hsl ht hu
      go_enter Tryz.func97, Tryz.ntmps97
      go_wp2_with (go_at_call 59; refine hword.mono ?_; rintro e w1 ⟨rfl, s1, k1⟩)
      go_end0
      exact COut.yes HO.out ⟨rfl, s1, hc.kp k1 h1, k1.two⟩

theorem rbinding : Reads 98 Pa.rdBind := by
  intro rb wb cb c ws w ok h hc h1 h2 h4
  have hr4 := h.rb4
  cases hr : Pa.rdNum ws with
  | none =>
    have HR := Lib.hid hr; clear hr
    go_enter Tryz.func98, Tryz.ntmps98
    go_wp2_with (go_at_call 60; refine (rnum_no rb wb ws _ ok h HR.out).mono ?_; rintro e w1 ⟨rfl, k1⟩)
    exact ⟨rfl, COut.no (by simp [Pa.rdBind, HR.out]) ⟨rfl, k1.two⟩⟩
  | some p =>
    obtain ⟨n, r⟩ := p
    have HR := Lib.hid hr; clear hr
    cases hq : Pa.rdNum r with
    | none =>
      have HQ := Lib.hid hq; clear hq
      go_enter Tryz.func98, Tryz.ntmps98
      go_wp2_with fail
      refine (rnum_yes rb wb ws n r _ h HR.out).mono ?_
      rintro e w1 ⟨rfl, s1, k1⟩
      go_wp2_with fail
      refine (rnum_no rb wb r _ (ok.kp k1 (by intro k hk; show ¬ k = rb; omega)) s1 HQ.out).mono ?_
      rintro e w2 ⟨rfl, k2⟩
      go_wp2
      exact ⟨rfl, COut.no (by simp [Pa.rdBind, HR.out, HQ.out]) ⟨rfl, (k1.trans k2).two⟩⟩
    | some p =>
      obtain ⟨m, r2⟩ := p
      have HQ := Lib.hid hq; clear hq
      go_enter Tryz.func98, Tryz.ntmps98
      go_wp2_with fail
      refine (rnum_yes rb wb ws n r _ h HR.out).mono ?_
      rintro e w1 ⟨rfl, s1, k1⟩
      go_wp2_with fail
      refine (rnum_yes rb wb r m r2 _ s1 HQ.out).mono ?_
      rintro e w2 ⟨rfl, s2, k2⟩
      have hc2 := hc.kp (k1.trans k2) h1
      have ⟨q1, q2⟩ := hc2.2 1 _ rfl
      have ⟨q3, q4⟩ := hc2.2 3 _ rfl
      go_wp2
      go_end0
      exact COut.yes (c := { c with sock := n, port := m }) (ws := r2) (by simp [Pa.rdBind, HR.out, HQ.out]) ⟨rfl, (s2.wr h1 h2 _ _).wr h1 h2 _ _, (hc2.set 1 (by simp [clCells]) _).set 3 (by simp [clCells]) _, ((k1.trans k2).two.wr _ _).wr _ _⟩

theorem rcount : Reads 99 Pa.rdCount := by
  intro rb wb cb c ws w ok h hc h1 h2 h4
  have hr4 := h.rb4
  cases hr : Pa.rdNum ws with
  | none =>
    have HR := Lib.hid hr; clear hr
    go_enter Tryz.func99, Tryz.ntmps99
    go_wp2_with (go_at_call 60; refine (rnum_no rb wb ws _ ok h HR.out).mono ?_; rintro e w1 ⟨rfl, k1⟩)
    exact ⟨rfl, COut.no (by simp [Pa.rdCount, HR.out]) ⟨rfl, k1.two⟩⟩
  | some p =>
    obtain ⟨n, r⟩ := p
    have HR := Lib.hid hr; clear hr
    cases hq : Pa.rdNum r with
    | none =>
      have HQ := Lib.hid hq; clear hq
      go_enter Tryz.func99, Tryz.ntmps99
      go_wp2_with fail
      refine (rnum_yes rb wb ws n r _ h HR.out).mono ?_
      rintro e w1 ⟨rfl, s1, k1⟩
      go_wp2_with fail
      refine (rnum_no rb wb r _ (ok.kp k1 (by intro k hk; show ¬ k = rb; omega)) s1 HQ.out).mono ?_
      rintro e w2 ⟨rfl, k2⟩
      go_wp2
      exact ⟨rfl, COut.no (by simp [Pa.rdCount, HR.out, HQ.out]) ⟨rfl, (k1.trans k2).two⟩⟩
    | some p =>
      obtain ⟨m, r2⟩ := p
      have HQ := Lib.hid hq; clear hq
      go_enter Tryz.func99, Tryz.ntmps99
      go_wp2_with fail
      refine (rnum_yes rb wb ws n r _ h HR.out).mono ?_
      rintro e w1 ⟨rfl, s1, k1⟩
      go_wp2_with fail
      refine (rnum_yes rb wb r m r2 _ s1 HQ.out).mono ?_
      rintro e w2 ⟨rfl, s2, k2⟩
      have hc2 := hc.kp (k1.trans k2) h1
      have ⟨q1, q2⟩ := hc2.2 1 _ rfl
      have ⟨q3, q4⟩ := hc2.2 4 _ rfl
      go_wp2
      go_end0
      exact COut.yes (c := { c with sock := n, n := m }) (ws := r2) (by simp [Pa.rdCount, HR.out, HQ.out]) ⟨rfl, (s2.wr h1 h2 _ _).wr h1 h2 _ _, (hc2.set 1 (by simp [clCells]) _).set 4 (by simp [clCells]) _, ((k1.trans k2).two.wr _ _).wr _ _⟩

theorem rdata : Reads 102 Pa.rdData := by
  intro rb wb cb c ws w ok h hc h1 h2 h4
  cases hr : Pa.rdNum ws with
  | none =>
    have HR := Lib.hid hr; clear hr
    go_enter Tryz.func102, Tryz.ntmps102
    go_wp2_with (go_at_call 60; refine (rnum_no rb wb ws _ ok h HR.out).mono ?_; rintro e w1 ⟨rfl, k1⟩)
    exact ⟨rfl, COut.no (by simp [Pa.rdData, HR.out]) ⟨rfl, k1.two⟩⟩
  | some p =>
    obtain ⟨n, r⟩ := p
    have HR := Lib.hid hr; clear hr
    cases hq : Pa.rdBytes r with
    | none =>
      have HQ := Lib.hid hq; clear hq
      go_enter Tryz.func102, Tryz.ntmps102
      go_wp2_with fail
      refine (rnum_yes rb wb ws n r _ h HR.out).mono ?_
      rintro e w1 ⟨rfl, s1, k1⟩
      go_wp2_with fail
      refine (rbytes_no rb wb r _ s1 HQ.out).mono ?_
      rintro e w2 ⟨rfl, k2⟩
      go_wp2
      exact ⟨rfl, COut.no (by simp [Pa.rdData, HR.out, HQ.out]) ⟨rfl, (k1.trans k2).two⟩⟩
    | some p =>
      obtain ⟨m, r2⟩ := p
      have HQ := Lib.hid hq; clear hq
      go_enter Tryz.func102, Tryz.ntmps102
      go_wp2_with fail
      refine (rnum_yes rb wb ws n r _ h HR.out).mono ?_
      rintro e w1 ⟨rfl, s1, k1⟩
      go_wp2_with fail
      refine (rbytes_yes rb wb r m r2 _ s1 HQ.out).mono ?_
      rintro e w2 ⟨rfl, s2, k2⟩
      have hc2 := hc.kp (k1.trans k2) h1
      have ⟨q1, q2⟩ := hc2.2 1 _ rfl
      have ⟨q3, q4⟩ := hc2.2 5 _ rfl
      go_wp2
      go_end0
      exact COut.yes (c := { c with sock := n, s := ⟨m.toArray⟩ }) (ws := r2) (by simp [Pa.rdData, HR.out, HQ.out]) ⟨rfl, (s2.wr h1 h2 _ _).wr h1 h2 _ _, (hc2.set 1 (by simp [clCells]) _).set 5 (by simp [clCells]) _, ((k1.trans k2).two.wr _ _).wr _ _⟩

theorem raddress : Reads 105 Pa.rdAddress := by
  intro rb wb cb c ws w ok h hc h1 h2 h4
  have hr4 := h.rb4
  cases ws with
  | nil =>
    go_enter Tryz.func105, Tryz.ntmps105
    go_wp2_with (go_at_call 59; refine (word_none rb wb _ h).mono ?_; rintro e w1 ⟨rfl, k1⟩)
    exact ⟨rfl, COut.no rfl ⟨rfl, k1.two⟩⟩
  | cons x r =>
    have hx := h.len
    have hp := fun (w : World) (ok : Ok w) => parse_any ⟨x.toArray⟩ w (by simpa [ByteArray.size] using hx) ok
    cases hr : Pa.parseL x with
    | none =>
      have he := Pa.par_none hr
      simp only [he.1, he.2] at hp
      have HR : Hid (Pa.rdAddress c (x :: r) = none) := by simp [Hid, Pa.rdAddress, Pa.rdAddr, Pa.rdWord, hr]
      clear hr he
      go_enter Tryz.func105, Tryz.ntmps105
      go_wp2_with (first | (go_at_call 59; refine (word_some rb wb x r _ h).mono ?_; rintro e w1 ⟨rfl, s1, k1⟩) | (go_at_call 121; refine (hp _ (ok.kp k1 (by intro k hk; show ¬ k = rb; omega))).mono ?_; rintro e w2 ⟨rfl, k2⟩))
      exact ⟨rfl, COut.no HR.out ⟨rfl, (k1.on k2).two⟩⟩
    | some n =>
      have he := Pa.par_some hr
      simp only [he.1, he.2] at hp
      have HR : Hid (Pa.rdAddress c (x :: r) = some ({ c with addr := (n : Int) }, r)) := by simp [Hid, Pa.rdAddress, Pa.rdAddr, Pa.rdWord, hr]
      clear hr he
      go_enter Tryz.func105, Tryz.ntmps105
      go_wp2_with (first | (go_at_call 59; refine (word_some rb wb x r _ h).mono ?_; rintro e w1 ⟨rfl, s1, k1⟩) | (go_at_call 121; refine (hp _ (ok.kp k1 (by intro k hk; show ¬ k = rb; omega))).mono ?_; rintro e w2 ⟨rfl, k2⟩; have hc2 := hc.kp (k1.on k2) h1; have ⟨q1, q2⟩ := hc2.2 2 _ rfl))
      go_end0
      exact COut.yes HR.out ⟨rfl, (s1.below k2).wr h1 h2 _ _, hc2.set 2 (by simp [clCells]) _, (k1.on k2).two.wr _ _⟩

theorem ok_two {rb cb : Nat} {w w' : World} (ok : Ok w) (k : Kp (fun k => k = rb ∨ k = cb) w w') (h1 : 4 ≤ rb) (h2 : 4 ≤ cb) : Ok w' := ok.kp k (by intro k hk; omega)

theorem rpeer : Reads 100 Pa.rdPeer := by
  intro rb wb cb c ws w ok h hc h1 h2 h4
  have hr4 := h.rb4
  have H1 := rsock rb wb cb c ws w ok h hc h1 h2 h4
  cases hr : Pa.rdSock c ws with
  | none =>
    have HR := Lib.hid hr
    rw [hr] at H1; clear hr
    go_enter Tryz.func100, Tryz.ntmps100
    go_wp2_with (go_at_call 101; refine H1.mono ?_; rintro e w1 ⟨rfl, k1⟩)
    exact ⟨rfl, COut.no (by simp [Pa.rdPeer, HR.out]) ⟨rfl, k1⟩⟩
  | some p =>
    obtain ⟨c1, r⟩ := p
    have HR := Lib.hid hr
    rw [hr] at H1; clear hr
    cases hq : Pa.rdAddress c1 r with
    | none =>
      have HQ := Lib.hid hq; clear hq
      go_enter Tryz.func100, Tryz.ntmps100
      go_wp2_with fail
      refine H1.mono ?_
      rintro e w1 ⟨rfl, s1, c1', k1⟩
      go_wp2_with fail
      refine (raddress rb wb cb c1 r w1 (ok_two ok k1 hr4 h4) s1 c1' h1 h2 h4).mono ?_
      intro e w2 hw2
      rw [HQ.out] at hw2
      obtain ⟨rfl, k2⟩ := hw2
      go_wp2
      exact ⟨rfl, COut.no (by simp [Pa.rdPeer, HR.out, HQ.out]) ⟨rfl, k1.trans k2⟩⟩
    | some p =>
      obtain ⟨c2, r2⟩ := p
      have HQ := Lib.hid hq; clear hq
      cases hn : Pa.rdNum r2 with
      | none =>
        have HN := Lib.hid hn; clear hn
        go_enter Tryz.func100, Tryz.ntmps100
        go_wp2_with fail
        refine H1.mono ?_
        rintro e w1 ⟨rfl, s1, c1', k1⟩
        go_wp2_with fail
        refine (raddress rb wb cb c1 r w1 (ok_two ok k1 hr4 h4) s1 c1' h1 h2 h4).mono ?_
        intro e w2 hw2
        rw [HQ.out] at hw2
        obtain ⟨rfl, s2, c2', k2⟩ := hw2
        go_wp2_with fail
        refine (rnum_no rb wb r2 _ (ok_two ok (k1.trans k2) hr4 h4) s2 HN.out).mono ?_
        rintro e w3 ⟨rfl, k3⟩
        go_wp2
        exact ⟨rfl, COut.no (by simp [Pa.rdPeer, HR.out, HQ.out, HN.out]) ⟨rfl, (k1.trans k2).trans k3.two⟩⟩
      | some p =>
        obtain ⟨m, r3⟩ := p
        have HN := Lib.hid hn; clear hn
        go_enter Tryz.func100, Tryz.ntmps100
        go_wp2_with fail
        refine H1.mono ?_
        rintro e w1 ⟨rfl, s1, c1', k1⟩
        go_wp2_with fail
        refine (raddress rb wb cb c1 r w1 (ok_two ok k1 hr4 h4) s1 c1' h1 h2 h4).mono ?_
        intro e w2 hw2
        rw [HQ.out] at hw2
        obtain ⟨rfl, s2, c2', k2⟩ := hw2
        go_wp2_with fail
        refine (rnum_yes rb wb r2 m r3 _ s2 HN.out).mono ?_
        rintro e w3 ⟨rfl, s3, k3⟩
        have hc3 := c2'.kp k3 h1
        have ⟨q1, q2⟩ := hc3.2 3 _ rfl
        go_wp2
        go_end0
        exact COut.yes (c := { c2 with port := m }) (ws := r3) (by simp [Pa.rdPeer, HR.out, HQ.out, HN.out]) ⟨rfl, s3.wr h1 h2 _ _, hc3.set 3 (by simp [clCells]) _, ((k1.trans k2).trans k3.two).wr _ _⟩

theorem rgram : Reads 103 Pa.rdGram := by
  intro rb wb cb c ws w ok h hc h1 h2 h4
  have hr4 := h.rb4
  have H1 := rpeer rb wb cb c ws w ok h hc h1 h2 h4
  cases hr : Pa.rdPeer c ws with
  | none =>
    have HR := Lib.hid hr
    rw [hr] at H1; clear hr
    go_enter Tryz.func103, Tryz.ntmps103
    go_wp2_with (go_at_call 100; refine H1.mono ?_; rintro e w1 ⟨rfl, k1⟩)
    exact ⟨rfl, COut.no (by simp [Pa.rdGram, HR.out]) ⟨rfl, k1⟩⟩
  | some p =>
    obtain ⟨c1, r⟩ := p
    have HR := Lib.hid hr
    rw [hr] at H1; clear hr
    cases hq : Pa.rdBytes r with
    | none =>
      have HQ := Lib.hid hq; clear hq
      go_enter Tryz.func103, Tryz.ntmps103
      go_wp2_with fail
      refine H1.mono ?_
      rintro e w1 ⟨rfl, s1, c1', k1⟩
      go_wp2_with fail
      refine (rbytes_no rb wb r _ s1 HQ.out).mono ?_
      rintro e w2 ⟨rfl, k2⟩
      go_wp2
      exact ⟨rfl, COut.no (by simp [Pa.rdGram, HR.out, HQ.out]) ⟨rfl, k1.trans k2.two⟩⟩
    | some p =>
      obtain ⟨m, r2⟩ := p
      have HQ := Lib.hid hq; clear hq
      go_enter Tryz.func103, Tryz.ntmps103
      go_wp2_with fail
      refine H1.mono ?_
      rintro e w1 ⟨rfl, s1, c1', k1⟩
      go_wp2_with fail
      refine (rbytes_yes rb wb r m r2 _ s1 HQ.out).mono ?_
      rintro e w2 ⟨rfl, s2, k2⟩
      have hc2 := c1'.kp k2 h1
      have ⟨q1, q2⟩ := hc2.2 5 _ rfl
      go_wp2
      go_end0
      exact COut.yes (c := { c1 with s := ⟨m.toArray⟩ }) (ws := r2) (by simp [Pa.rdGram, HR.out, HQ.out]) ⟨rfl, s2.wr h1 h2 _ _, hc2.set 5 (by simp [clCells]) _, (k1.trans k2.two).wr _ _⟩

end Go.Proofs.YtgajoiijebbagaaGreatDoor
