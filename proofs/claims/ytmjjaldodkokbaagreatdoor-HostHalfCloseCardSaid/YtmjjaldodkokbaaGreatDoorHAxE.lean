/-
 THE ABSTRACT EXECUTOR, 39: the same machine, quicker for the kernel: statements and flow of control in one go. Conditions: none.
-/
import Derived.Test.YtmjjaldodkokbaaGreatDoorHAxD
import Derived.RowKit
import Derived.WideShapes
namespace Go.Ax
open Go.RowKit
inductive Box (α : Type) where
 | mk (a : α)
inductive RR where
 | mk (tm : Tr AV) (H : Tr Q7) (nx : Nat) (j : Nat) (rest : List Oper)
abbrev RK := Tr AV -> Tr Q7 -> Nat -> RR
abbrev RC := Ctx -> Tr AV -> Tr Q7 -> Nat -> RK -> RR -> RR
noncomputable def putB (nt : Nat) (dst : Option Nat) : Option (Box (Tr AV -> AV -> Tr AV)) :=
 match dst with
 | none => some (.mk λ tm _ => tm)
 | some d => bif Nat.blt d nt then some (.mk λ tm v => tm.set d v) else none
noncomputable def Qm1 (r : LR) : (Tr AV -> AV -> Tr AV) -> Tr AV -> Tr Q7 -> Nat -> RK -> RR :=
 match r with
 | .val v => λ put tm H nx k => k (put tm v) H nx
 | .ptr o => λ put tm H nx k => QD (nx + 1) λ n => k (put tm (.ptr nx 0)) (H.set nx o) n
 | .slc o len cap es ex => λ put tm H nx k => QD (nx + 1) λ n => k (put tm (.slice nx 0 len cap es ex)) (H.set nx o) n
 | .map => λ put tm H nx k => QD (nx + 1) λ n => k (put tm (.map nx)) (H.set nx (.map [] 0)) n
noncomputable def zK (d : D HR) : (Tr AV -> AV -> Tr AV) -> Tr AV -> RK -> RR -> RR :=
 match d with
 | .ok r => λ put tm k _ => HR.rec (motive := λ _ => RR) (λ v H n => k (put tm v) H n) r
 | .ask _ _ _ => λ _ _ _ z => z
 | .fail => λ _ _ _ z => z
noncomputable def yK (d : D LR) : Env -> Oper -> (Tr AV -> AV -> Tr AV) -> Ctx -> Tr AV -> Tr Q7 -> Nat -> RK -> RR -> RR :=
 match d with
 | .ok r => λ _ _ put _ tm H nx k _ => Qm1 r put tm H nx k
 | .ask _ _ _ => λ _ _ _ _ _ _ _ _ z => z
 | .fail => λ G o put c tm H nx k z => zK (ZF G c H nx (ev G.T.ng tm) o.op) put tm k z
noncomputable def Qm2 (G : Env) (o : Oper) (put : Tr AV -> AV -> Tr AV) : RC := λ c tm H nx k z =>
 yK (light G.T G.I c H (ev G.T.ng tm) o.op) G o put c tm H nx k z
inductive GI where
 | always
 | never
 | slot (d : Nat) (want : Bool)
def guardOf (ops : List Oper) (o : Oper) : GI :=
 match o.guard with
 | none => .always
 | some (j, want) => match opAt ops j with
  | none => .never
  | some g => match g.dst with
   | none => .never
   | some d => .slot d want
noncomputable def Qk0 (a : AV) : Bool -> RR -> RR -> RR :=
 match a with
 | .bool b => λ want y n => bif b == want then y else n
 | _ => λ _ _ n => n
noncomputable def Qev (v : Option AV) : Bool -> RR -> RR -> RR :=
 match v with
 | some a => λ want y n => Qk0 a want y n
 | none => λ _ _ n => n
noncomputable def Qe0 (gi : GI) (put : Tr AV -> AV -> Tr AV) (g : RC) : RC :=
 match gi with
 | .always => g
 | .never => λ _ tm H nx k _ => k (put tm .undef) H nx
 | .slot d want => λ c tm H nx k z => Qev (tm.get d) want (g c tm H nx k z) (k (put tm .undef) H nx)
noncomputable def Qe1 (gi : GI) (put : Tr AV -> AV -> Tr AV) (g : RC) : Box RC :=
 match gi with
 | .always => .mk g
 | .never => .mk λ _ tm H nx k _ => k (put tm .undef) H nx
 | .slot d want => .mk λ c tm H nx k z => Qev (tm.get d) want (g c tm H nx k z) (k (put tm .undef) H nx)
theorem Q63 (gi : GI) (put : Tr AV -> AV -> Tr AV) (g : RC) : Qe1 gi put g = .mk (Qe0 gi put g) := by cases gi <;> rfl
noncomputable def Qgx (spec : Env -> Nat -> Oper -> Option (Box RC)) (G : Env) (nt : Nat) (ops : List Oper) (o : Oper) : Box RC :=
 match putB nt o.dst with
 | none => .mk λ _ _ _ _ _ z => z
 | some (.mk put) => match spec G nt o with
  | some (.mk g) => Qe1 (guardOf ops o) put g
  | none => Qe1 (guardOf ops o) put (Qm2 G o put)
noncomputable def Qmj (o : Oper) (os : List Oper) (j : Nat) (g : Box RC) (h : Box (Ctx -> RK)) : Box (Ctx -> RK) :=
 match g, h with
 | .mk g, .mk h => .mk λ c tm H nx => g c tm H nx (h c) (.mk tm H nx j (o :: os))
noncomputable def Q4g (spec : Env -> Nat -> Oper -> Option (Box RC)) (G : Env) (nt : Nat) (ops : List Oper) : List Oper -> Nat -> Box (Ctx -> RK)
 | [], j => .mk λ _ tm H nx => .mk tm H nx j []
 | o :: os, j => Qmj o os j (Qgx spec G nt ops o) (Q4g spec G nt ops os (j + 1))
inductive Z6 (G : Env) : AM -> AM -> Prop where
 | refl (s : AM) : Z6 G s s
 | step {s s' t : AM} : ZY G s = .next s' -> Z6 G s' t -> Z6 G s t
theorem Z6.trans {G : Env} {s t u : AM} (h : Z6 G s t) (h' : Z6 G t u) : Z6 G s u := by
 induction h with
 | refl => exact h'
 | step e _ ih => exact .step e (ih h')
theorem Z6.one {G : Env} {s t : AM} (h : ZY G s = .next t) : Z6 G s t := .step h (.refl t)
structure Rest where
 fn : Nat
 nt : Nat
 defers : List ADf
 ro : Option Nat
 cs : List Qk
 ctx : Ctx
abbrev mkS (R : Rest) (tm : Tr AV) (cur : Q1n) (todo : List Qt) (H : Tr Q7) (nx : Nat) : AM :=
 ⟨⟨R.fn, R.nt, tm, cur, todo, R.defers, false, R.ro⟩, R.cs, H, nx, R.ctx⟩
def jW (G : Env) (nt : Nat) (ops : List Oper) (o : Oper) (c : Ctx) (tm : Tr AV) (H : Tr Q7) (nx : Nat) (tm' : Tr AV) (H' : Tr Q7) (nx' : Nat) : Prop :=
 ∀ (R : Rest) (todo : List Qt) (j : Nat) (rest : List Oper), R.nt = nt -> R.ctx = c -> ZY G (mkS R tm (.reg ops j (o :: rest)) todo H nx) = .next (mkS R tm' (.reg ops (j + 1) rest) todo H' nx')
def RCok (G : Env) (nt : Nat) (ops : List Oper) (o : Oper) (g : RC) : Prop :=
 ∀ c tm H nx (k : RK) (z : RR), g c tm H nx k z = z \/ ∃ tm' H' nx', jW G nt ops o c tm H nx tm' H' nx' /\ g c tm H nx k z = k tm' H' nx'
def QC (G : Env) (nt : Nat) (ops : List Oper) (o : Oper) (g : RC) : Prop :=
 ∀ c tm H nx (k : RK) (z : RR), QJ ops tm o = true -> g c tm H nx k z = z \/ ∃ tm' H' nx', jW G nt ops o c tm H nx tm' H' nx' /\ g c tm H nx k z = k tm' H' nx'
def Y1 (nt : Nat) (dst : Option Nat) (put : Tr AV -> AV -> Tr AV) : Prop := ∀ tm v, Qbx nt tm dst v = some (put tm v)
theorem zZ {nt : Nat} {dst : Option Nat} {put : Tr AV -> AV -> Tr AV} (h : putB nt dst = some (.mk put)) : Y1 nt dst put := by
 intro tm v
 unfold putB at h
 cases dst with
 | none => simp only [Option.some.injEq, Box.mk.injEq] at h; subst h; rfl
 | some d =>
  simp only at h
  cases hb : Nat.blt d nt with
  | false => rw [hb] at h; cases h
  | true => rw [hb] at h; simp only [cond_true, Option.some.injEq, Box.mk.injEq] at h; subst h; simp only [Qbx, hb, cond_true]
theorem Jh {G : Env} {R : Rest} {tm : Tr AV} {ops : List Oper} {j : Nat} {o : Oper} {rest : List Oper} {todo : List Qt} {H0 : Tr Q7} {nx0 : Nat} {put : Tr AV -> AV -> Tr AV} (hp : Y1 R.nt o.dst put) (v : AV) (H : Tr Q7) (nx : Nat) :
 advance G (mkS R tm (.reg ops j (o :: rest)) todo H0 nx0) ⟨v, H, nx⟩ = .next (mkS R (put tm v) (.reg ops (j + 1) rest) todo H nx) := by
 simp only [advance, Yn, hp tm v, sNat_eq]
theorem qF {G : Env} {nt : Nat} {ops : List Oper} {o : Oper} {put : Tr AV -> AV -> Tr AV} (hp : Y1 nt o.dst put) {c : Ctx} {tm : Tr AV} (H : Tr Q7) (nx : Nat) (hw : QJ ops tm o = false) : jW G nt ops o c tm H nx (put tm .undef) H nx := by
 intro R todo j rest hnt hc
 subst hnt
 simp only [ZY, hw, cond_false]
 exact Jh hp _ _ _
theorem Q29 {G : Env} {nt : Nat} {ops : List Oper} {o : Oper} {put : Tr AV -> AV -> Tr AV} (hp : Y1 nt o.dst put) {c : Ctx} {tm : Tr AV} {H : Tr Q7} (nx : Nat) (hw : QJ ops tm o = true) {v : AV}
 (h : light G.T G.I c H (ev G.T.ng tm) o.op = .ok (.val v)) : jW G nt ops o c tm H nx (put tm v) H nx := by
 intro R todo j rest hnt hc
 subst hnt
 subst hc
 simp only [ZY, hw, cond_true, h, LR.obj, LR.value]
 exact Jh hp _ _ _
theorem j6 {G : Env} {nt : Nat} {ops : List Oper} {o : Oper} {put : Tr AV -> AV -> Tr AV} (hp : Y1 nt o.dst put) {c : Ctx} {tm : Tr AV} {H : Tr Q7} (nx : Nat) (hw : QJ ops tm o = true) {r : LR} {ob : Q7}
 (h : light G.T G.I c H (ev G.T.ng tm) o.op = .ok r) (ho : r.obj = some ob) : jW G nt ops o c tm H nx (put tm (r.value nx)) (H.set nx ob) (nx + 1) := by
 intro R todo j rest hnt hc
 subst hnt
 subst hc
 simp only [ZY, hw, cond_true, h, ho, sNat_eq]
 exact Jh hp _ _ _
theorem jM {G : Env} {nt : Nat} {ops : List Oper} {o : Oper} {put : Tr AV -> AV -> Tr AV} (hp : Y1 nt o.dst put) {c : Ctx} {tm : Tr AV} {H : Tr Q7} (nx : Nat) (hw : QJ ops tm o = true) {r : HR}
 (h : light G.T G.I c H (ev G.T.ng tm) o.op = .fail) (ho : ZF G c H nx (ev G.T.ng tm) o.op = .ok r) : jW G nt ops o c tm H nx (put tm r.v) r.H r.next := by
 intro R todo j rest hnt hc
 subst hnt
 subst hc
 simp only [ZY, hw, cond_true, h, ho]
 exact Jh hp _ _ _
theorem Qe4 {G : Env} {nt : Nat} {ops : List Oper} {o : Oper} {put : Tr AV -> AV -> Tr AV} (hp : Y1 nt o.dst put) : QC G nt ops o (Qm2 G o put) := by
 intro c tm H nx k z hw
 unfold Qm2
 cases hl : light G.T G.I c H (ev G.T.ng tm) o.op with
 | ok r =>
  right
  cases r with
  | val v => exact ⟨_, _, _, Q29 hp nx hw hl, rfl⟩
  | ptr ob => exact ⟨_, _, _, j6 hp nx hw hl rfl, rfl⟩
  | slc ob len cap es ex => exact ⟨_, _, _, j6 hp nx hw hl rfl, rfl⟩
  | map => exact ⟨_, _, _, j6 hp nx hw hl rfl, rfl⟩
 | ask op a b => exact .inl rfl
 | fail =>
  cases hh : ZF G c H nx (ev G.T.ng tm) o.op with
  | ok r =>
   right
   refine ⟨_, _, _, jM hp nx hw hl hh, ?_⟩
   simp only [yK, hh, zK]
  | ask op a b => left; simp only [yK, hh, zK]
  | fail => left; simp only [yK, hh, zK]
theorem Q62 {G : Env} {nt : Nat} {ops : List Oper} {o : Oper} {put : Tr AV -> AV -> Tr AV} (hp : Y1 nt o.dst put) {g : RC} (hg : QC G nt ops o g) : RCok G nt ops o (Qe0 (guardOf ops o) put g) := by
 intro c tm H nx k z
 unfold guardOf
 cases hgd : o.guard with
 | none => exact hg c tm H nx k z (by simp only [QJ, hgd])
 | some p =>
  obtain ⟨j, want⟩ := p
  simp only
  cases hj : opAt ops j with
  | none =>
   right
   exact ⟨_, _, _, qF hp H nx (by simp only [QJ, hgd, hj]), rfl⟩
  | some q =>
   simp only
   cases hd : q.dst with
   | none =>
    right
    exact ⟨_, _, _, qF hp H nx (by simp only [QJ, hgd, hj, hd]), rfl⟩
   | some d =>
    simp only [Qe0]
    have hno : QJ ops tm o = false -> (k (put tm .undef) H nx = z \/ ∃ tm' H' nx', jW G nt ops o c tm H nx tm' H' nx' /\ k (put tm .undef) H nx = k tm' H' nx') := λ hw => .inr ⟨_, _, _, qF hp H nx hw, rfl⟩
    cases ht : tm.get d with
    | none => exact hno (by simp only [QJ, hgd, hj, hd, ht])
    | some a =>
     simp only [Qev]
     by_cases hb : ∃ b, a = .bool b
     . obtain ⟨b, rfl⟩ := hb
       simp only [Qk0]
       cases hw : (b == want) with
       | true => exact hg c tm H nx k z (by simp only [QJ, hgd, hj, hd, ht, hw])
       | false => exact hno (by simp only [QJ, hgd, hj, hd, ht, hw])
     . have e1 : Qk0 a want (g c tm H nx k z) (k (put tm .undef) H nx) = k (put tm .undef) H nx := by
        cases a <;> first | rfl | exact absurd ⟨_, rfl⟩ hb
       rw [e1]
       refine hno ?_
       simp only [QJ, hgd, hj, hd, ht]
       cases a <;> first | rfl | exact absurd ⟨_, rfl⟩ hb
def ZE (G : Env) (spec : Env -> Nat -> Oper -> Option (Box RC)) : Prop := ∀ nt ops o put g, spec G nt o = some (.mk g) -> Y1 nt o.dst put -> QC G nt ops o g
theorem Qgw {spec : Env -> Nat -> Oper -> Option (Box RC)} {G : Env} (hs : ZE G spec) {nt : Nat} {ops : List Oper} {o : Oper} {g : RC} (h : Qgx spec G nt ops o = .mk g) : RCok G nt ops o g := by
 unfold Qgx at h
 split at h
 . cases h; exact λ c tm H nx k z => .inl rfl
 . rename_i put hp
   split at h
   . rename_i g' hg'
     rw [Q63] at h
     cases h
     exact Q62 (zZ hp) (hs nt ops o put g' hg' (zZ hp))
   . rw [Q63] at h
     cases h
     exact Q62 (zZ hp) (Qe4 (zZ hp))
theorem Q4f {spec : Env -> Nat -> Oper -> Option (Box RC)} {G : Env} (hs : ZE G spec) {R : Rest} {ops : List Oper} {todo : List Qt} : ∀ (l : List Oper) (j : Nat) {h : Ctx -> RK}, Q4g spec G R.nt ops l j = .mk h -> ∀ (tm : Tr AV) (H : Tr Q7) (nx : Nat),
 ∃ tm' H' nx' j' rest, h R.ctx tm H nx = .mk tm' H' nx' j' rest /\ Z6 G (mkS R tm (.reg ops j l) todo H nx) (mkS R tm' (.reg ops j' rest) todo H' nx')
 | [], j, h, he, tm, H, nx => by
  simp only [Q4g, Box.mk.injEq] at he
  subst he
  exact ⟨_, _, _, _, _, rfl, .refl _⟩
 | o :: os, j, h, he, tm, H, nx => by
  simp only [Q4g] at he
  cases hg : Qgx spec G R.nt ops o with
  | mk g =>
   cases hh : Q4g spec G R.nt ops os (j + 1) with
   | mk h' =>
    rw [hg, hh] at he
    simp only [Qmj, Box.mk.injEq] at he
    subst he
    rcases Qgw hs hg R.ctx tm H nx (h' R.ctx) (.mk tm H nx j (o :: os)) with e | ⟨tm1, H1, nx1, hst, e⟩
    . exact ⟨_, _, _, _, _, e, .refl _⟩
    . obtain ⟨tm', H', nx', j', rest, e', hr⟩ := Q4f hs os (j + 1) hh tm1 H1 nx1
      exact ⟨_, _, _, _, _, e.trans e', .step (hst R todo j os rfl rfl) hr⟩
end Go.Ax
namespace Go.Ax
open Go.RowKit
inductive CR where
 | mk (tm : Tr AV) (cur : Q1n) (todo : List Qt) (H : Tr Q7) (nx : Nat)
abbrev CK := Tr AV -> List Qt -> Tr Q7 -> Nat -> CR
abbrev Spec := Env -> Nat -> Oper -> Option (Box RC)
noncomputable def Q4s (ops : List Oper) (k : List Qt) (ih : CK) (r : RR) : CR :=
 RR.rec (motive := λ _ => CR) (λ tm H nx j rest => List.rec (motive := λ _ => CR) (ih tm k H nx) (λ o os _ => .mk tm (.reg ops j (o :: os)) k H nx) rest) r
noncomputable def condK (v : AV) : CK -> List Qt -> Code -> Code -> CR -> Tr AV -> Tr Q7 -> Nat -> CR :=
 match v with
 | .bool b => λ ih k thn els _ tm H nx => Bool.rec (motive := λ _ => CR) (ih tm (.code els :: k) H nx) (ih tm (.code thn :: k) H nx) b
 | _ => λ _ _ _ _ z _ _ _ => z
noncomputable def Qmk (v : Option AV) : CK -> List Qt -> Code -> Code -> CR -> Tr AV -> Tr Q7 -> Nat -> CR :=
 match v with
 | some v => condK v
 | none => λ _ _ _ _ z _ _ _ => z
noncomputable def Qkp (v : Option (List Qt)) : CK -> CR -> Tr AV -> Tr Q7 -> Nat -> CR :=
 match v with
 | some k => λ ih _ tm H nx => ih tm k H nx
 | none => λ _ z _ _ _ => z
noncomputable def regK (draw : Bool) : Spec -> Env -> Nat -> Ctx -> CK -> List Qt -> List Oper -> CR -> Tr AV -> Tr Q7 -> Nat -> CR :=
 match draw with
 | true => λ _ _ _ _ _ _ _ z _ _ _ => z
 | false => λ spec G nt c ih k ops _ tm H nx => Box.rec (motive := λ _ => CR) (λ h => Q4s ops k ih (h c tm H nx)) (Q4g spec G nt ops ops 0)
noncomputable def Qei (cd : Code) : Spec -> Env -> Nat -> Ctx -> CK -> List Qt -> Tr AV -> Tr Q7 -> Nat -> CR :=
 match cd with
 | .skip => λ _ _ _ _ ih k tm H nx => ih tm k H nx
 | .label _ => λ _ _ _ _ ih k tm H nx => ih tm k H nx
 | .seq a b => λ _ _ _ _ ih k tm H nx => ih tm (.code a :: .code b :: k) H nx
 | .cond x thn els => λ _ G _ _ ih k tm H nx => Qmk (ev G.T.ng tm x) ih k thn els (.mk tm .none (.code (.cond x thn els) :: k) H nx) tm H nx
 | .block id body => λ _ _ _ _ ih k tm H nx => ih tm (.code body :: .inBlock id :: k) H nx
 | .loop body => λ _ _ _ _ ih k tm H nx => ih tm (.code body :: .inLoop body :: k) H nx
 | .scope body => λ _ _ _ _ ih k tm H nx => ih tm (.code body :: .inScope body :: k) H nx
 | .exit id => λ _ _ _ _ ih k tm H nx => Qkp (YE id k) ih (.mk tm .none (.code (.exit id) :: k) H nx) tm H nx
 | .goto l => λ _ _ _ _ ih k tm H nx => Qkp (YD l k) ih (.mk tm .none (.code (.goto l) :: k) H nx) tm H nx
 | .region id ops draw => λ spec G nt c ih k tm H nx => regK draw spec G nt c ih k ops.toList (.mk tm .none (.code (.region id ops draw) :: k) H nx) tm H nx
 | cd => λ _ _ _ _ _ k tm H nx => .mk tm .none (.code cd :: k) H nx
noncomputable def itemK (it : Qt) : Spec -> Env -> Nat -> Ctx -> CK -> List Qt -> Tr AV -> Tr Q7 -> Nat -> CR :=
 match it with
 | .code c => Qei c
 | .inBlock _ => λ _ _ _ _ ih k tm H nx => ih tm k H nx
 | .inScope _ => λ _ _ _ _ ih k tm H nx => ih tm k H nx
 | .inLoop body => λ _ _ _ _ ih k tm H nx => ih tm (.code body :: .inLoop body :: k) H nx
 | it => λ _ _ _ _ _ k tm H nx => .mk tm .none (it :: k) H nx
noncomputable def Qkq (todo : List Qt) : Spec -> Env -> Nat -> Ctx -> CK -> Tr AV -> Tr Q7 -> Nat -> CR :=
 match todo with
 | [] => λ _ _ _ _ _ tm H nx => .mk tm .none [] H nx
 | it :: k => λ spec G nt c ih tm H nx => itemK it spec G nt c ih k tm H nx
noncomputable def ctl (spec : Spec) (G : Env) (nt : Nat) (c : Ctx) (n : Nat) : CK :=
 Nat.rec (motive := λ _ => CK) (λ tm todo H nx => .mk tm .none todo H nx) (λ _ ih tm todo H nx => Qkq todo spec G nt c ih tm H nx) n
def Qmz (G : Env) (R : Rest) (f : CK) : Prop := ∀ tm todo H nx, ∃ tm' cur' todo' H' nx', f tm todo H nx = .mk tm' cur' todo' H' nx' /\ Z6 G (mkS R tm .none todo H nx) (mkS R tm' cur' todo' H' nx')
def Goes (G : Env) (R : Rest) (s : AM) (r : CR) : Prop := ∃ tm' cur' todo' H' nx', r = .mk tm' cur' todo' H' nx' /\ Z6 G s (mkS R tm' cur' todo' H' nx')
theorem Goes.ih {G : Env} {R : Rest} {f : CK} (h : Qmz G R f) {s : AM} {tm : Tr AV} {todo : List Qt} {H : Tr Q7} {nx : Nat} (hs : ZY G s = .next (mkS R tm .none todo H nx)) : Goes G R s (f tm todo H nx) := by
 obtain ⟨a, b, c, d, e, h1, h2⟩ := h tm todo H nx
 exact ⟨a, b, c, d, e, h1, .step hs h2⟩
theorem Goes.stay {G : Env} {R : Rest} (tm : Tr AV) (cur : Q1n) (todo : List Qt) (H : Tr Q7) (nx : Nat) : Goes G R (mkS R tm cur todo H nx) (.mk tm cur todo H nx) := ⟨_, _, _, _, _, rfl, .refl _⟩
theorem Q1f {G : Env} {R : Rest} {ih : CK} (hi : Qmz G R ih) {ops : List Oper} {k : List Qt} {s : AM} {tm : Tr AV} {H : Tr Q7} {nx j : Nat} {rest : List Oper} (hr : Z6 G s (mkS R tm (.reg ops j rest) k H nx)) : Goes G R s (Q4s ops k ih (.mk tm H nx j rest)) := by
 cases rest with
 | nil =>
  obtain ⟨a, b, c, d, e, h1, h2⟩ := hi tm k H nx
  refine ⟨a, b, c, d, e, h1, hr.trans (.step ?_ h2)⟩
  rfl
 | cons o os => exact ⟨_, _, _, _, _, rfl, hr⟩
theorem Qgv {G : Env} {R : Rest} {ih : CK} (hi : Qmz G R ih) {x : Operand} {thn els : Code} {k : List Qt} {tm : Tr AV} {H : Tr Q7} {nx : Nat} :
 Goes G R (mkS R tm .none (.code (.cond x thn els) :: k) H nx) (Qmk (ev G.T.ng tm x) ih k thn els (.mk tm .none (.code (.cond x thn els) :: k) H nx) tm H nx) := by
 cases hv : ev G.T.ng tm x with
 | none => exact Goes.stay _ _ _ _ _
 | some v =>
  cases v
  case bool b => cases b <;> exact Goes.ih hi (by simp only [ZY, hv])
  all_goals exact Goes.stay _ _ _ _ _
theorem Qgy {spec : Spec} {G : Env} (hs : ZE G spec) {R : Rest} {ih : CK} (hi : Qmz G R ih) (cd : Code) (k : List Qt) (tm : Tr AV) (H : Tr Q7) (nx : Nat) :
 Goes G R (mkS R tm .none (.code cd :: k) H nx) (Qei cd spec G R.nt R.ctx ih k tm H nx) := by
 cases cd with
 | skip => exact Goes.ih hi rfl
 | label l => exact Goes.ih hi rfl
 | seq a b => exact Goes.ih hi rfl
 | cond x thn els => exact Qgv hi
 | block id body => exact Goes.ih hi rfl
 | loop body => exact Goes.ih hi rfl
 | scope body => exact Goes.ih hi rfl
 | exit id =>
  simp only [Qei]
  cases he : YE id k with
  | none => exact Goes.stay _ _ _ _ _
  | some k' => exact Goes.ih hi (by simp only [ZY, he])
 | goto l =>
  simp only [Qei]
  cases he : YD l k with
  | none => exact Goes.stay _ _ _ _ _
  | some k' => exact Goes.ih hi (by simp only [ZY, he])
 | region id ops draw =>
  cases draw with
  | true => exact Goes.stay _ _ _ _ _
  | false =>
   simp only [Qei, regK]
   cases hc : Q4g spec G R.nt ops.toList ops.toList 0 with
   | mk h =>
    obtain ⟨tm', H', nx', j', rest, e, hr⟩ := Q4f hs (todo := k) ops.toList 0 hc tm H nx
    simp only [e]
    exact Q1f hi (.step rfl hr)
 | _ => exact Goes.stay _ _ _ _ _
theorem Qi1 {spec : Spec} {G : Env} (hs : ZE G spec) {R : Rest} : ∀ n, Qmz G R (ctl spec G R.nt R.ctx n)
 | 0, tm, todo, H, nx => Goes.stay _ _ _ _ _
 | n + 1, tm, todo, H, nx => by
  have hi := Qi1 hs n (R := R)
  have e : ctl spec G R.nt R.ctx (n + 1) tm todo H nx = Qkq todo spec G R.nt R.ctx (ctl spec G R.nt R.ctx n) tm H nx := rfl
  rw [e]
  cases todo with
  | nil => exact Goes.stay _ _ _ _ _
  | cons it k =>
   cases it with
   | code c => exact Qgy hs hi c k tm H nx
   | inBlock id => exact Goes.ih hi rfl
   | inScope b => exact Goes.ih hi rfl
   | inLoop b => exact Goes.ih hi rfl
   | _ => exact Goes.stay _ _ _ _ _
noncomputable def ofCR (r : CR) : Nat -> Nat -> List ADf -> Option Nat -> List Qk -> Ctx -> AM :=
 CR.rec (motive := λ _ => Nat -> Nat -> List ADf -> Option Nat -> List Qk -> Ctx -> AM) (λ tm cur todo H nx fn nt defers ro cs c => ⟨⟨fn, nt, tm, cur, todo, defers, false, ro⟩, cs, H, nx, c⟩) r
noncomputable def Qjp (cur : Q1n) : Spec -> Env -> Nat -> Ctx -> CK -> List Qt -> Tr AV -> Tr Q7 -> Nat -> CR :=
 match cur with
 | .none => λ _ _ _ _ ih k tm H nx => ih tm k H nx
 | .reg ops j rest => λ spec G nt c ih k tm H nx => Box.rec (motive := λ _ => CR) (λ h => Q4s ops k ih (h c tm H nx)) (Q4g spec G nt ops rest j)
 | cur => λ _ _ _ _ _ k tm H nx => .mk tm cur k H nx
noncomputable def fast (spec : Spec) (G : Env) (n : Nat) (s : AM) : AM :=
 AM.rec (motive := λ _ => AM) (λ fr cs H nx c => Qk.rec (motive := λ _ => AM) (λ fn nt tm cur todo defers ret ro =>
  Bool.rec (motive := λ _ => AM) (ofCR (Qjp cur spec G nt c (ctl spec G nt c n) todo tm H nx) fn nt defers ro cs c) ⟨⟨fn, nt, tm, cur, todo, defers, true, ro⟩, cs, H, nx, c⟩ ret) fr) s
theorem fast_ok {spec : Spec} {G : Env} (hs : ZE G spec) (n : Nat) (s : AM) : Z6 G s (fast spec G n s) := by
 obtain ⟨⟨fn, nt, tm, cur, todo, defers, ret, ro⟩, cs, H, nx, c⟩ := s
 cases ret with
 | true => exact .refl _
 | false =>
  have hi := Qi1 hs n (R := ⟨fn, nt, defers, ro, cs, c⟩)
  have key : ∀ {r}, Goes G ⟨fn, nt, defers, ro, cs, c⟩ ⟨⟨fn, nt, tm, cur, todo, defers, false, ro⟩, cs, H, nx, c⟩ r -> Z6 G ⟨⟨fn, nt, tm, cur, todo, defers, false, ro⟩, cs, H, nx, c⟩ (ofCR r fn nt defers ro cs c) := by
   rintro r ⟨a, b, c', d, e, rfl, h⟩
   exact h
  refine key ?_
  cases cur with
  | none => exact hi tm todo H nx
  | reg ops j rest =>
   simp only
   cases hc : Q4g spec G nt ops rest j with
   | mk h =>
    obtain ⟨tm', H', nx', j', rest', e, hr⟩ := Q4f hs (R := ⟨fn, nt, defers, ro, cs, c⟩) (todo := todo) rest j hc tm H nx
    simp only [e]
    exact Q1f hi hr
  | draw ops done rest pa => exact Goes.stay _ _ _ _ _
noncomputable def leaf (spec : Spec) (G : Env) (n : Nat) (s : AM) : Jp :=
 match ZY G s with
 | .next s' => AM.rec (motive := λ _ => Jp) (λ a b c d e => .go ⟨a, b, c, d, e⟩) (fast spec G n s')
 | _ => .stop s
noncomputable def Qfa (spec : Spec) (G : Env) (n : Nat) (k : Nat) : AM -> Jp :=
 Nat.rec (motive := λ _ => AM -> Jp) (λ s => leaf spec G n s)
  (λ _ ih s => Jp.rec (motive := λ _ => Jp) (λ s => ih s) (λ s => .stop s) (ih s)) k
theorem Q03 {spec : Spec} {G : Env} (hs : ZE G spec) (n : Nat) : ∀ (k : Nat) (s : AM), Z6 G s (Qfa spec G n k s).state
 | 0, s => by
  have e : Qfa spec G n 0 s = leaf spec G n s := rfl
  rw [e]
  unfold leaf
  split
  . rename_i s' h
    have : (AM.rec (motive := λ _ => Jp) (λ a b c d e => .go ⟨a, b, c, d, e⟩) (fast spec G n s') : Jp) = .go (fast spec G n s') := by cases fast spec G n s'; rfl
    rw [this]
    exact .step h (fast_ok hs n s')
  . exact .refl s
 | k + 1, s => by
  have e : Qfa spec G n (k + 1) s = Jp.rec (motive := λ _ => Jp) (λ s => Qfa spec G n k s) (λ s => .stop s) (Qfa spec G n k s) := rfl
  rw [e]
  have h1 := Q03 hs n k s
  cases hr : Qfa spec G n k s with
  | go s1 => rw [hr] at h1; exact h1.trans (Q03 hs n k s1)
  | stop s1 => rw [hr] at h1; exact h1
end Go.Ax
namespace Go.Ax
open Go.RowKit
noncomputable def Qj3 {β α : Type} (l : List α) : Nat -> (α -> β) -> β -> β :=
 List.rec (motive := λ _ => Nat -> (α -> β) -> β -> β) (λ _ _ z => z) (λ a _ ih i k z => Nat.rec (motive := λ _ => β) (k a) (λ j _ => ih j k z) i) l
theorem Q0g {β α : Type} : ∀ (l : List α) (i : Nat) (k : α -> β) (z : β), Qj3 l i k z = match l[i]? with | some a => k a | none => z
 | [], i, k, z => rfl
 | a :: l, 0, k, z => rfl
 | a :: l, i + 1, k, z => by
  have : Qj3 (a :: l) (i + 1) k z = Qj3 l i k z := rfl
  rw [this, Q0g l i k z]; simp
noncomputable def Ql3 {α : Type} (l : List α) : Nat -> α -> List α :=
 List.rec (motive := λ _ => Nat -> α -> List α) (λ _ _ => []) (λ a l ih i v => Nat.rec (motive := λ _ => List α) (v :: l) (λ j _ => a :: ih j v) i) l
theorem Qcx {α : Type} : ∀ (l : List α) (i : Nat) (v : α), Ql3 l i v = l.set i v
 | [], i, v => rfl
 | a :: l, 0, v => rfl
 | a :: l, i + 1, v => by
  have : Ql3 (a :: l) (i + 1) v = a :: Ql3 l i v := rfl
  rw [this, Qcx l i v]; rfl
noncomputable def lenR {α : Type} (l : List α) : Nat := List.rec (motive := λ _ => Nat) 0 (λ _ _ ih => Nat.succ ih) l
theorem Qdo {α : Type} : ∀ l : List α, lenR l = l.length
 | [] => rfl
 | _ :: l => congrArg Nat.succ (Qdo l)
abbrev LC := Ctx -> Tr Q7 -> (Operand -> Option AV) -> D LR
noncomputable def Q9t (G : Env) (op : Op) : Box LC :=
 match op with
 | .move x => .mk λ _ _ f => ZR (f x)
 | .assign x => .mk λ _ _ f => ZR (f x)
 | .pick q a b => .mk λ _ _ f => (D.of (f q)).bind λ q => match q with
  | .bool true => ZR (f a)
  | .bool false => ZR (f b)
  | _ => .fail
 | .alloc t => .mk λ _ _ _ => D.of (Qam G.T t)
 | .box t x => .mk λ _ _ f => (D.of (f x)).bind λ x => .ok (.ptr (.cells x.cellsOf t true true false))
 | .build t ps => .mk λ _ _ f => (D.of (Qhz f ps.toList)).bind λ ps => ZR (Qaj G.T t ps)
 | .buildSlice t n ps => .mk λ _ _ f => (D.of (Qhz f ps.toList)).bind λ ps => D.of (Ji G.T t n ps)
 | .load t x => .mk λ _ H f => (D.of (f x)).bind λ x => ZR (Q8v G.T H t x)
 | .nilCheck x => .mk λ _ _ f => (D.of (f x)).bind λ x => ZR (Qkm x)
 | .binOp op t x y _ => .mk λ c H f => (D.of (f x)).bind λ a => (D.of (f y)).bind λ b => mapD (Qal G.T c H (isK x || isK y) op t a b)
 | .unOp op _ x => .mk λ _ _ f => (D.of (f x)).bind λ x => ZR (aun op x)
 | .convert src dst x => .mk λ c H f => (D.of (f x)).bind λ x => match Q7b G.T src dst x with
  | some r => .ok r
  | none => ZR (Qf7 G.T c H src dst x)
 | .makeInterface t x => .mk λ _ _ f => (D.of (f x)).bind λ x => ZR (JY G.T t x)
 | .makeSlice t l k => .mk λ _ _ f => (D.of (f l)).bind λ l => (D.of (f k)).bind λ k => D.of (JX G.T t l k)
 | .slice t x lo hi mx => .mk λ c H f => (D.of (f x)).bind λ x => (D.of (evO f lo)).bind λ lo => (D.of (evO f hi)).bind λ hi => (D.of (evO f mx)).bind λ mx => ZR (orS (aslice G.T H t x lo hi mx) (Q4k G.T c t x lo hi mx))
 | .fieldAddr t x k => .mk λ _ _ f => (D.of (f x)).bind λ x => ZR (Yc G.T t x k)
 | .field t x k => .mk λ _ _ f => (D.of (f x)).bind λ x => ZR (Qaf G.T t x k)
 | .indexAddr t x ix => .mk λ c _ f => (D.of (f x)).bind λ x => (D.of (f ix)).bind λ ix => (Qi2 c ix).bind λ ix => ZR (Yb G.T t x ix)
 | .index t x ix => .mk λ c _ f => (D.of (f x)).bind λ x => (D.of (f ix)).bind λ ix => match Q1d G.T c t x ix with
  | some v => .ok (.val v)
  | none => (Qi2 c ix).bind λ ix => ZR (Q75 G.T t x ix)
 | .lookup t x ix ok => .mk λ c H f => (D.of (f x)).bind λ x => (D.of (f ix)).bind λ ix => mapD (Qhd G.T c H t x ix ok)
 | .typeAssert x _ a ok => .mk λ _ _ f => (D.of (f x)).bind λ x => ZR (Q4x G.T G.I x a ok)
 | .extract x k => .mk λ _ _ f => (D.of (f x)).bind λ x => ZR (zR x k)
 | .store _ _ _ => .mk λ _ _ _ => .fail
 | op => .mk λ c H f => light G.T G.I c H f op
theorem Qdn {G : Env} {op : Op} {g : LC} (h : Q9t G op = .mk g) (c : Ctx) (H : Tr Q7) (f : Operand -> Option AV) : g c H f = light G.T G.I c H f op := by
 unfold Q9t at h
 split at h <;> (simp only [Box.mk.injEq] at h; subst h; rfl)
noncomputable def Q9w (op : Op) : Box (Env -> Ctx -> Tr Q7 -> Nat -> (Operand -> Option AV) -> D HR) :=
 match op with
 | .store t a x => .mk λ G _ H nx f => match f a, f x with
  | some a, some x => D.of (Q6y G.T H nx t a x)
  | _, _ => .fail
 | op => .mk λ G c H nx f => ZF G c H nx f op
theorem Qdy {G : Env} {op : Op} {g : Env -> Ctx -> Tr Q7 -> Nat -> (Operand -> Option AV) -> D HR} (h : Q9w op = .mk g) (c : Ctx) (H : Tr Q7) (nx : Nat) (f : Operand -> Option AV) : g G c H nx f = ZF G c H nx f op := by
 unfold Q9w at h
 split at h <;> (simp only [Box.mk.injEq] at h; subst h; rfl)
noncomputable def Qhy (d : D LR) : (Tr AV -> AV -> Tr AV) -> Tr AV -> Tr Q7 -> Nat -> RK -> RR -> D HR -> RR :=
 match d with
 | .ok r => λ put tm H nx k _ _ => Qm1 r put tm H nx k
 | .ask _ _ _ => λ _ _ _ _ _ z _ => z
 | .fail => λ put tm _ _ k z d => zK d put tm k z
noncomputable def genB (G : Env) (o : Oper) (put : Tr AV -> AV -> Tr AV) : Box RC :=
 match Q9t G o.op, Q9w o.op with
 | .mk l, .mk h => .mk λ c tm H nx k z => Qhy (l c H (ev G.T.ng tm)) put tm H nx k z (h G c H nx (ev G.T.ng tm))
theorem Qjl {G : Env} {nt : Nat} {ops : List Oper} {o : Oper} {put : Tr AV -> AV -> Tr AV} (hp : Y1 nt o.dst put) {g : RC} (h : genB G o put = .mk g) : QC G nt ops o g := by
 unfold genB at h
 cases hl : Q9t G o.op with
 | mk l =>
  cases hh : Q9w o.op with
  | mk hv =>
   rw [hl, hh] at h
   simp only [Box.mk.injEq] at h
   subst h
   intro c tm H nx k z hw
   have e1 := Qdn hl c H (ev G.T.ng tm)
   have e2 := Qdy (G := G) hh c H nx (ev G.T.ng tm)
   have := Qe4 (G := G) hp c tm H nx k z hw (ops := ops)
   have e : Qm2 G o put c tm H nx k z = Qhy (l c H (ev G.T.ng tm)) put tm H nx k z (hv G c H nx (ev G.T.ng tm)) := by
    rw [e1, e2]
    unfold Qm2
    cases light G.T G.I c H (ev G.T.ng tm) o.op <;> rfl
   rw [e] at this
   exact this
abbrev RD := Tr AV -> (AV -> RR) -> RR
noncomputable def rdB (ng : Nat) (x : Operand) : Option (Box RD) :=
 match x with
 | .tmp t => some (.mk λ tm k => Option.rec (motive := λ _ => RR) (k .undef) k (tm.get t))
 | .const v => match ofV 6 v with
  | some a => some (.mk λ _ k => k a)
  | none => none
 | .global g => bif Nat.blt g ng then some (.mk λ _ k => k (.ptr g 0)) else none
 | .func f => some (.mk λ _ k => k (.func f [] []))
theorem Zt {ng : Nat} {x : Operand} {r : RD} (h : rdB ng x = some (.mk r)) (tm : Tr AV) : ∃ a, ev ng tm x = some a /\ ∀ k, r tm k = k a := by
 unfold rdB at h
 cases x with
 | tmp t =>
  simp only [Option.some.injEq, Box.mk.injEq] at h
  subst h
  refine ⟨_, rfl, λ k => ?_⟩
  simp only
  cases tm.get t <;> rfl
 | const v =>
  simp only at h
  cases hv : ofV 6 v with
  | none => rw [hv] at h; cases h
  | some a =>
   rw [hv] at h
   simp only [Option.some.injEq, Box.mk.injEq] at h
   subst h
   exact ⟨a, by simp only [ev, hv], λ k => rfl⟩
 | global g =>
  simp only at h
  cases hb : Nat.blt g ng with
  | false => rw [hb] at h; cases h
  | true =>
   rw [hb] at h
   simp only [cond_true, Option.some.injEq, Box.mk.injEq] at h
   subst h
   exact ⟨_, by simp only [ev, hb, cond_true], λ k => rfl⟩
 | func f =>
  simp only [Option.some.injEq, Box.mk.injEq] at h
  subst h
  exact ⟨_, rfl, λ k => rfl⟩
noncomputable def Qke (a : AV) : (Nat -> Nat -> RR) -> RR -> RR :=
 match a with
 | .ptr b o => λ f _ => f b o
 | _ => λ _ z => z
noncomputable def natE (e : E) : (Nat -> RR) -> RR -> RR :=
 match e with
 | .lit n => λ f z => Int.rec (motive := λ _ => RR) (λ m => f m) (λ _ => z) n
 | _ => λ _ z => z
noncomputable def Qjg (a : AV) : (IntKind -> Nat -> RR) -> RR -> RR :=
 match a with
 | .int k e => λ f z => natE e (f k) z
 | _ => λ _ z => z
theorem Q3p (a : AV) (f : Nat -> Nat -> RR) (z : RR) : Qke a f z = z \/ ∃ b o, a = .ptr b o /\ Qke a f z = f b o := by
 cases a
 case ptr b o => exact .inr ⟨b, o, rfl, rfl⟩
 all_goals exact .inl rfl
theorem Q0t (a : AV) (f : IntKind -> Nat -> RR) (z : RR) : Qjg a f z = z \/ ∃ k m, a = .int k (.lit (.ofNat m)) /\ Qjg a f z = f k m := by
 cases a
 case int k e =>
  cases e
  case lit n =>
   cases n with
   | ofNat m => exact .inr ⟨k, m, rfl, rfl⟩
   | negSucc m => exact .inl rfl
  all_goals exact .inl rfl
 all_goals exact .inl rfl
noncomputable def Qmq (o : Q7) : (List AV -> TypeId -> Bool -> Bool -> Bool -> RR) -> RR -> RR :=
 match o with
 | .cells cs el ex pl ro => λ f _ => f cs el ex pl ro
 | _ => λ _ z => z
noncomputable def Qaa (o : Option Q7) : (List AV -> TypeId -> Bool -> Bool -> Bool -> RR) -> RR -> RR :=
 match o with
 | some o => Qmq o
 | none => λ _ z => z
theorem Q6q (o : Option Q7) (f : List AV -> TypeId -> Bool -> Bool -> Bool -> RR) (z : RR) : Qaa o f z = z \/ ∃ cs el ex pl ro, o = some (.cells cs el ex pl ro) /\ Qaa o f z = f cs el ex pl ro := by
 cases o with
 | none => exact .inl rfl
 | some o =>
  cases o
  case cells cs el ex pl ro => exact .inr ⟨cs, el, ex, pl, ro, rfl, rfl⟩
  all_goals exact .inl rfl
noncomputable def qy (k : IntKind) : Nat :=
 IntKind.rec (motive := λ _ => Nat) 127 32767 2147483647 9223372036854775807 255 65535 4294967295 18446744073709551615 k
theorem qx {k : IntKind} {n : Nat} (h : Nat.ble n (qy k) = true) : Ze k (.ofNat n) = true := by
 cases k <;> first
  | exact h
  | (simp only [qy, Nat.ble_eq, Ze, Nat.ble_eq] at h ⊢; omega)
theorem Yo {k : IntKind} {n : Nat} (h : Nat.ble n (qy k) = true) : ZV k (.ofNat n) = .ofNat n := by
 unfold ZV; rw [qx h]; rfl
end Go.Ax
namespace Go.Ax
open Go.RowKit
noncomputable def moveB (ng : Nat) (x : Operand) (put : Tr AV -> AV -> Tr AV) (gen : RC) : Box RC :=
 match rdB ng x with
 | some (.mk r) => .mk λ _ tm H nx k _ => r tm λ a => k (put tm a) H nx
 | none => .mk gen
noncomputable def Qja (G : Env) (t : TypeId) (x : Operand) (put : Tr AV -> AV -> Tr AV) (gen : RC) : Box RC :=
 match rdB G.T.ng x, G.T.ty t with
 | some (.mk r), some ti => bif Q0s ti.desc then .mk gen else
  .mk λ c tm H nx k z => (λ zz => r tm λ a => Qke a (λ b o => Qaa (H.get b) (λ cs _ _ _ _ => Qj3 cs o (λ v => k (put tm v) H nx) zz) zz) zz) (gen c tm H nx k z)
 | _, _ => .mk gen
noncomputable def cellV (v : AV) : RR -> RR -> RR :=
 match v with
 | .agg _ => λ _ z => z
 | .tuple _ => λ _ z => z
 | _ => λ y _ => y
noncomputable def Qcl (G : Env) (t : TypeId) (a x : Operand) (put : Tr AV -> AV -> Tr AV) (gen : RC) : Box RC :=
 match rdB G.T.ng a, rdB G.T.ng x, G.T.ty t with
 | some (.mk r), some (.mk q), some ti => bif Nat.beq ti.size 1 then
  .mk λ c tm H nx k z => (λ zz => r tm λ a => q tm λ v => Qke a (λ b o => Qaa (H.get b) (λ cs el ex pl ro => Bool.rec (motive := λ _ => RR)
   (cellV v (Qj3 cs o (λ _ => k (put tm .undef) (H.set b (.cells (Ql3 cs o v) el ex pl false)) nx) zz) zz) zz ro) zz) zz) (gen c tm H nx k z)
  else .mk gen
 | _, _, _ => .mk gen
noncomputable def Qj7 (op : BinOp) : Option (Box (IntKind -> Nat -> Nat -> (AV -> RR) -> RR -> RR)) :=
 match op with
 | .add => some (.mk λ k m n f z => QD (Nat.add m n) λ r => Bool.rec (motive := λ _ => RR) z (f (.int k (.lit (.ofNat r)))) (Nat.ble r (qy k)))
 | .sub => some (.mk λ k m n f z => Bool.rec (motive := λ _ => RR) z (QD (Nat.sub m n) λ r => Bool.rec (motive := λ _ => RR) z (f (.int k (.lit (.ofNat r)))) (Nat.ble r (qy k))) (Nat.ble n m))
 | .mul => some (.mk λ k m n f z => QD (Nat.mul m n) λ r => Bool.rec (motive := λ _ => RR) z (f (.int k (.lit (.ofNat r)))) (Nat.ble r (qy k)))
 | .quo => some (.mk λ k m n f z => Bool.rec (motive := λ _ => RR) (QD (Nat.div m n) λ r => Bool.rec (motive := λ _ => RR) z (f (.int k (.lit (.ofNat r)))) (Nat.ble r (qy k))) z (Nat.beq n 0))
 | .rem => some (.mk λ k m n f z => Bool.rec (motive := λ _ => RR) (QD (Nat.mod m n) λ r => f (.int k (.lit (.ofNat r)))) z (Nat.beq n 0))
 | .and => some (.mk λ k m n f z => Bool.rec (motive := λ _ => RR) z (Bool.rec (motive := λ _ => RR) z (QD (Nat.land m n) λ r => Bool.rec (motive := λ _ => RR) z (f (.int k (.lit (.ofNat r)))) (Nat.ble r (qy k))) (Nat.ble n (qy k))) (Nat.ble m (qy k)))
 | .or => some (.mk λ k m n f z => Bool.rec (motive := λ _ => RR) z (Bool.rec (motive := λ _ => RR) z (QD (Nat.lor m n) λ r => Bool.rec (motive := λ _ => RR) z (f (.int k (.lit (.ofNat r)))) (Nat.ble r (qy k))) (Nat.ble n (qy k))) (Nat.ble m (qy k)))
 | .xor => some (.mk λ k m n f z => Bool.rec (motive := λ _ => RR) z (Bool.rec (motive := λ _ => RR) z (QD (Nat.xor m n) λ r => Bool.rec (motive := λ _ => RR) z (f (.int k (.lit (.ofNat r)))) (Nat.ble r (qy k))) (Nat.ble n (qy k))) (Nat.ble m (qy k)))
 | .eql => some (.mk λ _ m n f _ => f (.bool (Nat.beq m n)))
 | .neq => some (.mk λ _ m n f _ => f (.bool (not (Nat.beq m n))))
 | .lss => some (.mk λ _ m n f _ => f (.bool (Nat.blt m n)))
 | .leq => some (.mk λ _ m n f _ => f (.bool (not (Nat.blt n m))))
 | .gtr => some (.mk λ _ m n f _ => f (.bool (Nat.blt n m)))
 | .geq => some (.mk λ _ m n f _ => f (.bool (not (Nat.blt m n))))
 | _ => none
noncomputable def binB (ng : Nat) (op : BinOp) (x y : Operand) (put : Tr AV -> AV -> Tr AV) (gen : RC) : Box RC :=
 match rdB ng x, rdB ng y, Qj7 op with
 | some (.mk r), some (.mk q), some (.mk g) =>
  .mk λ c tm H nx k z => (λ zz => r tm λ a => q tm λ b => Qjg a (λ ka m => Qjg b (λ kb n => Bool.rec (motive := λ _ => RR) zz (g ka m n (λ v => k (put tm v) H nx) zz) (Nat.beq (kN ka) (kN kb))) zz) zz) (gen c tm H nx k z)
 | _, _, _ => .mk gen
noncomputable def Qeu (a : AV) : RR -> RR -> RR -> RR :=
 match a with
 | .bool b => λ y n _ => Bool.rec (motive := λ _ => RR) n y b
 | _ => λ _ _ z => z
noncomputable def Qiz (ng : Nat) (q x y : Operand) (put : Tr AV -> AV -> Tr AV) (gen : RC) : Box RC :=
 match rdB ng q, rdB ng x, rdB ng y with
 | some (.mk p), some (.mk r), some (.mk s) =>
  .mk λ c tm H nx k z => p tm λ b => Qeu b (r tm λ a => k (put tm a) H nx) (s tm λ a => k (put tm a) H nx) (gen c tm H nx k z)
 | _, _, _ => .mk gen
noncomputable def notB (ng : Nat) (x : Operand) (put : Tr AV -> AV -> Tr AV) (gen : RC) : Box RC :=
 match rdB ng x with
 | some (.mk r) => .mk λ c tm H nx k z => r tm λ a => Qeu a (k (put tm (.bool false)) H nx) (k (put tm (.bool true)) H nx) (gen c tm H nx k z)
 | none => .mk gen
noncomputable def Q42 (T : Tab) (s : TypeId) (f : Nat) : Option Nat :=
 match T.ty s with
 | some ti =>
  match ti.desc with
  | .struct fs =>
   match fs[f]? with
   | some fd =>
    match T.ty fd.type with
    | some fi => bif Nat.beq fi.size 0 then none else some fd.offset
    | none => none
   | none => none
  | _ => none
 | none => none
theorem Q8g {T : Tab} {s : TypeId} {f n : Nat} (h : Q42 T s f = some n) (b o : Nat) : Yc T s (.ptr b o) f = some (.ptr b (o + n)) := by
 unfold Q42 at h
 unfold Yc
 split at h
 . rename_i ti hti
   simp only [hti]
   split at h
   . rename_i fs hd
     simp only [hd]
     split at h
     . rename_i fd hf
       simp only [hf]
       split at h
       . rename_i fi hfi
         simp only [hfi]
         cases hz : Nat.beq fi.size 0 with
         | true => rw [hz] at h; cases h
         | false => rw [hz] at h; simp only [cond_false, Option.some.injEq] at h; subst h; rfl
       . cases h
     . cases h
   . cases h
 . cases h
noncomputable def jo (G : Env) (t : TypeId) (x : Operand) (f : Nat) (put : Tr AV -> AV -> Tr AV) (gen : RC) : Box RC :=
 match rdB G.T.ng x, Q42 G.T t f with
 | some (.mk r), some n => QD n λ n => .mk λ c tm H nx k z => r tm λ a => Qke a (λ b o => QD (Nat.add o n) λ o' => k (put tm (.ptr b o')) H nx) (gen c tm H nx k z)
 | _, _ => .mk gen
noncomputable def nilB (ng : Nat) (x : Operand) (put : Tr AV -> AV -> Tr AV) (gen : RC) : Box RC :=
 match rdB ng x with
 | some (.mk r) => .mk λ c tm H nx k z => r tm λ a => Qke a (λ _ _ => k (put tm a) H nx) (gen c tm H nx k z)
 | none => .mk gen
noncomputable def tupK (a : AV) : (List AV -> RR) -> RR -> RR :=
 match a with
 | .tuple vs => λ f _ => f vs
 | _ => λ _ z => z
noncomputable def Q45 (ng : Nat) (x : Operand) (i : Nat) (put : Tr AV -> AV -> Tr AV) (gen : RC) : Box RC :=
 match rdB ng x with
 | some (.mk r) => .mk λ c tm H nx k z => (λ zz => r tm λ a => tupK a (λ vs => Qj3 vs i (λ v => k (put tm v) H nx) zz) zz) (gen c tm H nx k z)
 | none => .mk gen
def intD (d : TypeDesc) : Option IntKind :=
 match d with
 | .int k => some k
 | _ => none
noncomputable def Qjv (G : Env) (s t : TypeId) (x : Operand) (put : Tr AV -> AV -> Tr AV) (gen : RC) : Box RC :=
 match rdB G.T.ng x, G.T.ty s, G.T.ty t with
 | some (.mk r), some _, some di => match intD di.desc with
  | some kd => QD (qy kd) λ top => .mk λ c tm H nx k z => (λ zz => r tm λ a => Qjg a (λ _ m => Bool.rec (motive := λ _ => RR) zz (k (put tm (.int kd (.lit (.ofNat m)))) H nx) (Nat.ble m top)) zz) (gen c tm H nx k z)
  | none => .mk gen
 | _, _, _ => .mk gen
def Q2j (d : TypeDesc) : Bool :=
 match d with
 | .string => true
 | _ => false
def yI (d : TypeDesc) : Option TypeId :=
 match d with
 | .slice e => some e
 | _ => none
noncomputable def strK (a : AV) : (List E -> RR) -> RR -> RR :=
 match a with
 | .str s => λ f _ => f s
 | _ => λ _ z => z
noncomputable def Q9d (a : AV) : (Nat -> Nat -> Nat -> RR) -> RR -> RR :=
 match a with
 | .slice b o len _ _ _ => λ f _ => f b o len
 | _ => λ _ z => z
noncomputable def indexB (G : Env) (t : TypeId) (x ix : Operand) (put : Tr AV -> AV -> Tr AV) (gen : RC) : Box RC :=
 match rdB G.T.ng x, rdB G.T.ng ix, G.T.ty t with
 | some (.mk r), some (.mk q), some ti => bif Q2j ti.desc then
  .mk λ c tm H nx k z => (λ zz => r tm λ a => q tm λ b => strK a (λ s => Qjg b (λ _ i => Qj3 s i (λ v => k (put tm (.int .u8 v)) H nx) zz) zz) zz) (gen c tm H nx k z)
  else .mk gen
 | _, _, _ => .mk gen
noncomputable def elemSize (T : Tab) (t : TypeId) : Option Nat :=
 match T.ty t with
 | some ti => match yI ti.desc with
  | some e => match T.ty e with
   | some ei => some ei.size
   | none => none
  | none => none
 | none => none
noncomputable def jk (G : Env) (t : TypeId) (x ix : Operand) (put : Tr AV -> AV -> Tr AV) (gen : RC) : Box RC :=
 match rdB G.T.ng x, rdB G.T.ng ix, elemSize G.T t with
 | some (.mk r), some (.mk q), some es => QD es λ es => .mk λ c tm H nx k z => (λ zz => r tm λ a => q tm λ b => Q9d a (λ bl o len => Qjg b (λ _ i =>
  Bool.rec (motive := λ _ => RR) zz (QD (Nat.add o (Nat.mul i es)) λ o' => k (put tm (.ptr bl o')) H nx) (Nat.blt i len)) zz) zz) (gen c tm H nx k z)
 | _, _, _ => .mk gen
noncomputable def lenB (G : Env) (cl : Call) (put : Tr AV -> AV -> Tr AV) (gen : RC) : Box RC :=
 match cl.callee, cl.argTypes.toList, cl.args.toList with
 | .builtin .len, [t], [x] => match rdB G.T.ng x, G.T.ty t with
  | some (.mk r), some ti => bif Q2j ti.desc then
   .mk λ c tm H nx k z => r tm λ a => strK a (λ s => QD (lenR s) λ n => k (put tm (.int .i64 (.lit (.ofNat n)))) H nx) (gen c tm H nx k z)
   else match yI ti.desc with
    | some _ => .mk λ c tm H nx k z => r tm λ a => Q9d a (λ _ _ n => k (put tm (.int .i64 (.lit (.ofNat n)))) H nx) (gen c tm H nx k z)
    | none => .mk gen
  | _, _ => .mk gen
 | _, _, _ => .mk gen
noncomputable def Qcq (G : Env) (op : Op) (put : Tr AV -> AV -> Tr AV) (gen : RC) : Box RC :=
 match op with
 | .move x => moveB G.T.ng x put gen
 | .assign x => moveB G.T.ng x put gen
 | .load t x => Qja G t x put gen
 | .store t a x => Qcl G t a x put gen
 | .binOp op _ x y _ => binB G.T.ng op x y put gen
 | .pick q x y => Qiz G.T.ng q x y put gen
 | .unOp op _ x => match op with
  | .not => notB G.T.ng x put gen
  | _ => .mk gen
 | .fieldAddr t x f => jo G t x f put gen
 | .nilCheck x => nilB G.T.ng x put gen
 | .extract x i => Q45 G.T.ng x i put gen
 | .convert s t x => Qjv G s t x put gen
 | .index t x ix => indexB G t x ix put gen
 | .indexAddr t x ix => jk G t x ix put gen
 | .call cl => lenB G cl put gen
 | _ => .mk gen
noncomputable def jX : Spec := λ G nt o =>
 match putB nt o.dst with
 | none => none
 | some (.mk put) => match genB G o put with
  | .mk gen => some (Qcq G o.op put gen)
end Go.Ax
namespace Go.Ax
open Go.RowKit
section
variable {G : Env} {nt : Nat} {ops : List Oper} {o : Oper} {put : Tr AV -> AV -> Tr AV} {gen g : RC}
def Fin (G : Env) (nt : Nat) (ops : List Oper) (o : Oper) (c : Ctx) (tm : Tr AV) (H : Tr Q7) (nx : Nat) (k : RK) (z r : RR) : Prop :=
 r = z \/ ∃ tm' H' nx', jW G nt ops o c tm H nx tm' H' nx' /\ r = k tm' H' nx'
theorem Zq (hp : Y1 nt o.dst put) {c : Ctx} {tm : Tr AV} {H : Tr Q7} {nx : Nat} {k : RK} {z : RR} (hw : QJ ops tm o = true) {v : AV}
 (h : light G.T G.I c H (ev G.T.ng tm) o.op = .ok (.val v)) : Fin G nt ops o c tm H nx k z (k (put tm v) H nx) :=
 .inr ⟨_, _, _, Q29 hp nx hw h, rfl⟩
theorem Q9o (hp : Y1 nt o.dst put) (hg : QC G nt ops o gen) {x : Operand} (hop : o.op = .move x \/ o.op = .assign x) (h : moveB G.T.ng x put gen = .mk g) : QC G nt ops o g := by
 unfold moveB at h
 split at h
 . rename_i r hr
   simp only [Box.mk.injEq] at h
   subst h
   intro c tm H nx k z hw
   obtain ⟨a, ha, hk⟩ := Zt hr tm
   simp only [hk]
   refine Zq hp hw ?_
   rcases hop with e | e <;> rw [e] <;> simp only [light, ha, ZR]
 . cases h; exact hg
theorem Qgd (hp : Y1 nt o.dst put) (hg : QC G nt ops o gen) {t : TypeId} {x : Operand} (hop : o.op = .load t x) (h : Qja G t x put gen = .mk g) : QC G nt ops o g := by
 unfold Qja at h
 split at h
 . rename_i r ti hr hti
   cases hd : Q0s ti.desc with
   | true => rw [hd] at h; cases h; exact hg
   | false =>
    rw [hd] at h
    simp only [cond_false, Box.mk.injEq] at h
    subst h
    intro c tm H nx k z hw
    have hz : Fin G nt ops o c tm H nx k z (gen c tm H nx k z) := hg c tm H nx k z hw
    obtain ⟨a, ha, hk⟩ := Zt hr tm
    simp only [hk]
    rcases Q3p a _ _ with e | ⟨b, p, rfl, e⟩ <;> rw [e]
    . exact hz
    rcases Q6q (H.get b) _ _ with e | ⟨cs, el, ex, pl, ro, hb, e⟩ <;> rw [e]
    . exact hz
    rw [Q0g]
    cases hv : cs[p]? with
    | none => exact hz
    | some v =>
     refine Zq hp hw ?_
     rw [hop]
     simp only [light, ha, D.of, D.bind, Q8v, hti, ZX, hb, hd, cond_false, hv, ZR]
 . cases h; exact hg
theorem Qh2 (v : AV) (y z : RR) : cellV v y z = z \/ v.cell = true /\ cellV v y z = y := by
 cases v <;> first | exact .inl rfl | exact .inr ⟨rfl, rfl⟩
theorem Q6p {v : AV} (h : v.cell = true) : v.cellsOf = [v] := by
 cases v <;> simp [AV.cell] at h <;> rfl
theorem Qck (hp : Y1 nt o.dst put) (hg : QC G nt ops o gen) {t : TypeId} {x y : Operand} (hop : o.op = .store t x y) (h : Qcl G t x y put gen = .mk g) : QC G nt ops o g := by
 unfold Qcl at h
 split at h
 . rename_i r q ti hr hq hti
   cases hd : Nat.beq ti.size 1 with
   | false => rw [hd] at h; cases h; exact hg
   | true =>
    rw [hd] at h
    simp only [cond_true, Box.mk.injEq] at h
    subst h
    intro c tm H nx k z hw
    have hz : Fin G nt ops o c tm H nx k z (gen c tm H nx k z) := hg c tm H nx k z hw
    obtain ⟨a, ha, hk⟩ := Zt hr tm
    obtain ⟨v, hv, hk2⟩ := Zt hq tm
    simp only [hk, hk2]
    rcases Q3p a _ _ with e | ⟨b, p, rfl, e⟩ <;> rw [e]
    . exact hz
    rcases Q6q (H.get b) _ _ with e | ⟨cs, el, ex, pl, ro, hb, e⟩ <;> rw [e]
    . exact hz
    cases ro with
    | true => exact hz
    | false =>
     simp only
     rcases Qh2 v _ _ with e | ⟨hc, e⟩ <;> rw [e]
     . exact hz
     rw [Q0g]
     cases hcs : cs[p]? with
     | none => exact hz
     | some u =>
      have hlt : p < cs.length := by
       rcases List.getElem?_eq_some_iff.1 hcs with ⟨h, _⟩
       exact h
      have hs1 : ti.size = 1 := by simpa using hd
      refine .inr ⟨_, _, _, jM hp nx hw (r := ⟨.undef, H.set b (.cells (Ql3 cs p v) el ex pl false), nx⟩) (by rw [hop]; rfl) ?_, rfl⟩
      rw [hop]
      have hble : Nat.ble (p + 1) cs.length = true := Nat.ble_eq_true_of_le hlt
      simp only [ZF, ha, hv, Q6y, hti, hb, Q6p hc, hs1, List.length_singleton, List.all_cons, List.all_nil, hc, Bool.and_true, hble, Y2, Qcx]
      rfl
 . cases h; exact hg
theorem Qga {op : BinOp} {gg : IntKind -> Nat -> Nat -> (AV -> RR) -> RR -> RR} (h : Qj7 op = some (.mk gg)) (k : IntKind) (m n : Nat) (f : AV -> RR) (z : RR) :
 gg k m n f z = z \/ ∃ v, gg k m n f z = f v /\ ∀ (T : Tab) (c : Ctx) (H : Tr Q7) (kx : Bool) (t : TypeId) (k' : IntKind), Nat.beq (kN k) (kN k') = true -> Qal T c H kx op t (.int k (.lit (.ofNat m))) (.int k' (.lit (.ofNat n))) = .ok v := by
 cases op <;> simp only [Qj7, Option.some.injEq, Box.mk.injEq, reduceCtorEq] at h <;> subst h <;> simp only [sNat_eq]
 case add =>
  cases hb : Nat.ble (Nat.add m n) (qy k) with
  | false => exact .inl rfl
  | true =>
   refine .inr ⟨_, rfl, λ T c H kx t k' hk => ?_⟩
   have e : (Int.ofNat m + Int.ofNat n : Int) = .ofNat (Nat.add m n) := rfl
   simp only [Qal, hk, cond_true, yx, E.jF, E.arith, D.of, D.bind, e, E.litS_eq, Yo hb]
 case sub =>
  cases hle : Nat.ble n m with
  | false => exact .inl rfl
  | true =>
   simp only
   cases hb : Nat.ble (Nat.sub m n) (qy k) with
   | false => exact .inl rfl
   | true =>
    refine .inr ⟨_, rfl, λ T c H kx t k' hk => ?_⟩
    have e : (Int.ofNat m - Int.ofNat n : Int) = .ofNat (Nat.sub m n) := (Int.ofNat_sub (Nat.le_of_ble_eq_true hle)).symm
    simp only [Qal, hk, cond_true, yx, E.jF, E.arith, D.of, D.bind, e, E.litS_eq, Yo hb]
 case mul =>
  cases hb : Nat.ble (Nat.mul m n) (qy k) with
  | false => exact .inl rfl
  | true =>
   refine .inr ⟨_, rfl, λ T c H kx t k' hk => ?_⟩
   have e : (Int.ofNat m * Int.ofNat n : Int) = .ofNat (Nat.mul m n) := rfl
   simp only [Qal, hk, cond_true, yx, E.jF, E.arith, D.of, D.bind, e, E.litS_eq, Yo hb]
 case quo =>
  cases hn : Nat.beq n 0 with
  | true => exact .inl rfl
  | false =>
   simp only
   cases hb : Nat.ble (Nat.div m n) (qy k) with
   | false => exact .inl rfl
   | true =>
    refine .inr ⟨_, rfl, λ T c H kx t k' hk => ?_⟩
    have e : (Int.ofNat m).tdiv (Int.ofNat n) = .ofNat (Nat.div m n) := rfl
    have h0 : ieq (Int.ofNat n) 0 = false := hn
    simp only [Qal, hk, cond_true, yx, E.divide, h0, cond_false, D.of, D.bind, e, E.litS_eq, Yo hb]
 case rem =>
  cases hn : Nat.beq n 0 with
  | true => exact .inl rfl
  | false =>
   refine .inr ⟨_, rfl, λ T c H kx t k' hk => ?_⟩
   have e : (Int.ofNat m).tmod (Int.ofNat n) = .ofNat (Nat.mod m n) := rfl
   have h0 : ieq (Int.ofNat n) 0 = false := hn
   simp only [Qal, hk, cond_true, yx, E.divide, h0, cond_false, D.of, D.bind, e, E.litS_eq]
 case and =>
  cases h1 : Nat.ble m (qy k) with
  | false => exact .inl rfl
  | true =>
   cases h2 : Nat.ble n (qy k) with
   | false => exact .inl rfl
   | true =>
    simp only
    cases hb : Nat.ble (Nat.land m n) (qy k) with
    | false => exact .inl rfl
    | true =>
     refine .inr ⟨_, rfl, λ T c H kx t k' hk => ?_⟩
     simp only [Qal, hk, cond_true, yx, E.bits, qx h1, qx h2, Bool.and_true, D.of, D.bind, E.litS_eq, Yo hb]
 case or =>
  cases h1 : Nat.ble m (qy k) with
  | false => exact .inl rfl
  | true =>
   cases h2 : Nat.ble n (qy k) with
   | false => exact .inl rfl
   | true =>
    simp only
    cases hb : Nat.ble (Nat.lor m n) (qy k) with
    | false => exact .inl rfl
    | true =>
     refine .inr ⟨_, rfl, λ T c H kx t k' hk => ?_⟩
     simp only [Qal, hk, cond_true, yx, E.bits, qx h1, qx h2, Bool.and_true, D.of, D.bind, E.litS_eq, Yo hb]
 case xor =>
  cases h1 : Nat.ble m (qy k) with
  | false => exact .inl rfl
  | true =>
   cases h2 : Nat.ble n (qy k) with
   | false => exact .inl rfl
   | true =>
    simp only
    cases hb : Nat.ble (Nat.xor m n) (qy k) with
    | false => exact .inl rfl
    | true =>
     refine .inr ⟨_, rfl, λ T c H kx t k' hk => ?_⟩
     simp only [Qal, hk, cond_true, yx, E.bits, qx h1, qx h2, Bool.and_true, D.of, D.bind, E.litS_eq, Yo hb]
 all_goals
  refine .inr ⟨_, rfl, λ T c H kx t k' hk => ?_⟩
  simp only [Qal, hk, cond_true, yx, E.cmp, Qml, ieq, ilt]
theorem Qk2 (hp : Y1 nt o.dst put) (hg : QC G nt ops o gen) {op : BinOp} {t t' : TypeId} {x y : Operand} (hop : o.op = .binOp op t x y t') (h : binB G.T.ng op x y put gen = .mk g) : QC G nt ops o g := by
 unfold binB at h
 split at h
 . rename_i r q gg hr hq hgg
   simp only [Box.mk.injEq] at h
   subst h
   intro c tm H nx k z hw
   have hz : Fin G nt ops o c tm H nx k z (gen c tm H nx k z) := hg c tm H nx k z hw
   obtain ⟨a, ha, hk⟩ := Zt hr tm
   obtain ⟨b, hb, hk2⟩ := Zt hq tm
   simp only [hk, hk2]
   rcases Q0t a _ _ with e | ⟨ka, m, rfl, e⟩ <;> rw [e]
   . exact hz
   rcases Q0t b _ _ with e | ⟨kb, n, rfl, e⟩ <;> rw [e]
   . exact hz
   cases hkk : Nat.beq (kN ka) (kN kb) with
   | false => exact hz
   | true =>
    simp only
    rcases Qga hgg ka m n (λ v => k (put tm v) H nx) (gen c tm H nx k z) with e | ⟨v, e, hv⟩ <;> rw [e]
    . exact hz
    refine Zq hp hw ?_
    rw [hop]
    simp only [light, ha, hb, D.of, D.bind, hv _ _ _ _ _ _ hkk, mapD]
 . cases h; exact hg
theorem Qac (a : AV) (y n z : RR) : Qeu a y n z = z \/ (a = .bool true /\ Qeu a y n z = y) \/ (a = .bool false /\ Qeu a y n z = n) := by
 cases a
 case bool b => cases b
                . exact .inr (.inr ⟨rfl, rfl⟩)
                . exact .inr (.inl ⟨rfl, rfl⟩)
 all_goals exact .inl rfl
theorem Qg2 (hp : Y1 nt o.dst put) (hg : QC G nt ops o gen) {q x y : Operand} (hop : o.op = .pick q x y) (h : Qiz G.T.ng q x y put gen = .mk g) : QC G nt ops o g := by
 unfold Qiz at h
 split at h
 . rename_i p r s hq hr hs
   simp only [Box.mk.injEq] at h
   subst h
   intro c tm H nx k z hw
   have hz : Fin G nt ops o c tm H nx k z (gen c tm H nx k z) := hg c tm H nx k z hw
   obtain ⟨b, hb, hk0⟩ := Zt hq tm
   obtain ⟨a1, ha1, hk1⟩ := Zt hr tm
   obtain ⟨a2, ha2, hk2⟩ := Zt hs tm
   simp only [hk0, hk1, hk2]
   rcases Qac b _ _ _ with e | ⟨rfl, e⟩ | ⟨rfl, e⟩ <;> rw [e]
   . exact hz
   . exact Zq hp hw (by rw [hop]; simp only [light, hb, D.of, D.bind, ha1, ZR])
   . exact Zq hp hw (by rw [hop]; simp only [light, hb, D.of, D.bind, ha2, ZR])
 . cases h; exact hg
theorem Qj4 (hp : Y1 nt o.dst put) (hg : QC G nt ops o gen) {x : Operand} {t : TypeId} (hop : o.op = .unOp .not t x) (h : notB G.T.ng x put gen = .mk g) : QC G nt ops o g := by
 unfold notB at h
 split at h
 . rename_i r hr
   simp only [Box.mk.injEq] at h
   subst h
   intro c tm H nx k z hw
   have hz : Fin G nt ops o c tm H nx k z (gen c tm H nx k z) := hg c tm H nx k z hw
   obtain ⟨a, ha, hk⟩ := Zt hr tm
   simp only [hk]
   rcases Qac a _ _ _ with e | ⟨rfl, e⟩ | ⟨rfl, e⟩ <;> rw [e]
   . exact hz
   . exact Zq hp hw (by rw [hop]; simp only [light, ha, D.of, D.bind, aun, ZR]; rfl)
   . exact Zq hp hw (by rw [hop]; simp only [light, ha, D.of, D.bind, aun, ZR]; rfl)
 . cases h; exact hg
theorem Q43 (hp : Y1 nt o.dst put) (hg : QC G nt ops o gen) {t : TypeId} {x : Operand} {f : Nat} (hop : o.op = .fieldAddr t x f) (h : jo G t x f put gen = .mk g) : QC G nt ops o g := by
 unfold jo at h
 split at h
 . rename_i r n hr hn
   simp only [sNat_eq, Box.mk.injEq] at h
   subst h
   intro c tm H nx k z hw
   have hz : Fin G nt ops o c tm H nx k z (gen c tm H nx k z) := hg c tm H nx k z hw
   obtain ⟨a, ha, hk⟩ := Zt hr tm
   simp only [hk]
   rcases Q3p a _ _ with e | ⟨b, p, rfl, e⟩ <;> rw [e]
   . exact hz
   try simp only [sNat_eq]
   exact Zq hp hw (by rw [hop]; simp only [light, ha, D.of, D.bind, Q8g hn, ZR]; rfl)
 . cases h; exact hg
theorem Qj6 (hp : Y1 nt o.dst put) (hg : QC G nt ops o gen) {x : Operand} (hop : o.op = .nilCheck x) (h : nilB G.T.ng x put gen = .mk g) : QC G nt ops o g := by
 unfold nilB at h
 split at h
 . rename_i r hr
   simp only [Box.mk.injEq] at h
   subst h
   intro c tm H nx k z hw
   have hz : Fin G nt ops o c tm H nx k z (gen c tm H nx k z) := hg c tm H nx k z hw
   obtain ⟨a, ha, hk⟩ := Zt hr tm
   simp only [hk]
   rcases Q3p a _ _ with e | ⟨b, p, rfl, e⟩ <;> rw [e]
   . exact hz
   exact Zq hp hw (by rw [hop]; simp only [light, ha, D.of, D.bind, Qkm, ZR])
 . cases h; exact hg
theorem Qi8 (a : AV) (f : List AV -> RR) (z : RR) : tupK a f z = z \/ ∃ vs, a = .tuple vs /\ tupK a f z = f vs := by
 cases a
 case tuple vs => exact .inr ⟨vs, rfl, rfl⟩
 all_goals exact .inl rfl
theorem Q8h (hp : Y1 nt o.dst put) (hg : QC G nt ops o gen) {x : Operand} {i : Nat} (hop : o.op = .extract x i) (h : Q45 G.T.ng x i put gen = .mk g) : QC G nt ops o g := by
 unfold Q45 at h
 split at h
 . rename_i r hr
   simp only [Box.mk.injEq] at h
   subst h
   intro c tm H nx k z hw
   have hz : Fin G nt ops o c tm H nx k z (gen c tm H nx k z) := hg c tm H nx k z hw
   obtain ⟨a, ha, hk⟩ := Zt hr tm
   simp only [hk]
   rcases Qi8 a _ _ with e | ⟨vs, rfl, e⟩ <;> rw [e]
   . exact hz
   rw [Q0g]
   cases hv : vs[i]? with
   | none => exact hz
   | some v => exact Zq hp hw (by rw [hop]; simp only [light, ha, D.of, D.bind, zR, hv, ZR])
 . cases h; exact hg
theorem Qjh {d : TypeDesc} {k : IntKind} (h : intD d = some k) : d = .int k := by
 cases d <;> simp [intD] at h; rw [h]
theorem Qgu (hp : Y1 nt o.dst put) (hg : QC G nt ops o gen) {s t : TypeId} {x : Operand} (hop : o.op = .convert s t x) (h : Qjv G s t x put gen = .mk g) : QC G nt ops o g := by
 unfold Qjv at h
 split at h
 . rename_i r si di hr hsi hdi
   split at h
   . rename_i kd hkd
     simp only [sNat_eq, Box.mk.injEq] at h
     subst h
     intro c tm H nx k z hw
     have hz : Fin G nt ops o c tm H nx k z (gen c tm H nx k z) := hg c tm H nx k z hw
     obtain ⟨a, ha, hk⟩ := Zt hr tm
     simp only [hk]
     rcases Q0t a _ _ with e | ⟨ka, m, rfl, e⟩ <;> rw [e]
     . exact hz
     cases hb : Nat.ble m (qy kd) with
     | false => exact hz
     | true =>
      have hd := Qjh hkd
      exact Zq hp hw (by rw [hop]; simp only [light, ha, D.of, D.bind, Q7b, hsi, hdi, Qf7, hd, E.Qeh, E.litS_eq, Yo hb, ZR])
   . cases h; exact hg
 . cases h; exact hg
theorem Q61 {d : TypeDesc} (h : Q2j d = true) : d = .string := by
 cases d <;> simp [Q2j] at h; rfl
theorem Q0r {d : TypeDesc} {e : TypeId} (h : yI d = some e) : d = .slice e := by
 cases d <;> simp [yI] at h; rw [h]
theorem Qcj (a : AV) (f : List E -> RR) (z : RR) : strK a f z = z \/ ∃ s, a = .str s /\ strK a f z = f s := by
 cases a
 case str s => exact .inr ⟨s, rfl, rfl⟩
 all_goals exact .inl rfl
theorem Q5f (a : AV) (f : Nat -> Nat -> Nat -> RR) (z : RR) : Q9d a f z = z \/ ∃ b o len cap es ex, a = .slice b o len cap es ex /\ Q9d a f z = f b o len := by
 cases a
 case slice b o len cap es ex => exact .inr ⟨b, o, len, cap, es, ex, rfl, rfl⟩
 all_goals exact .inl rfl
theorem Qdt (hp : Y1 nt o.dst put) (hg : QC G nt ops o gen) {t : TypeId} {x ix : Operand} (hop : o.op = .index t x ix) (h : indexB G t x ix put gen = .mk g) : QC G nt ops o g := by
 unfold indexB at h
 split at h
 . rename_i r q ti hr hq hti
   cases hd : Q2j ti.desc with
   | false => rw [hd] at h; cases h; exact hg
   | true =>
    rw [hd] at h
    simp only [cond_true, Box.mk.injEq] at h
    subst h
    intro c tm H nx k z hw
    have hz : Fin G nt ops o c tm H nx k z (gen c tm H nx k z) := hg c tm H nx k z hw
    obtain ⟨a, ha, hk⟩ := Zt hr tm
    obtain ⟨b, hb, hk2⟩ := Zt hq tm
    simp only [hk, hk2]
    rcases Qcj a _ _ with e | ⟨s, rfl, e⟩ <;> rw [e]
    . exact hz
    rcases Q0t b _ _ with e | ⟨kb, i, rfl, e⟩ <;> rw [e]
    . exact hz
    rw [Q0g]
    cases hv : s[i]? with
    | none => exact hz
    | some v => exact Zq hp hw (by rw [hop]; simp only [light, ha, hb, D.of, D.bind, Q1d, hti, Qi2, Q75, E.nat?, Q61 hd, hv, ZR])
 . cases h; exact hg
theorem Q8j {T : Tab} {t : TypeId} {es : Nat} (h : elemSize T t = some es) {b o len cap es' : Nat} {ex : Bool} {k : IntKind} {i : Nat} (hi : Nat.blt i len = true) :
 Yb T t (.slice b o len cap es' ex) (.int k (.lit (.ofNat i))) = some (.ptr b (o + i * es)) := by
 unfold elemSize at h
 split at h
 . rename_i ti hti
   split at h
   . rename_i e hd
     split at h
     . rename_i ei hei
       cases h
       simp only [Yb, E.nat?, hti, Q0r hd, hei, hi, cond_true, sNat_eq]
     . cases h
   . cases h
 . cases h
theorem Q3z (hp : Y1 nt o.dst put) (hg : QC G nt ops o gen) {t : TypeId} {x ix : Operand} (hop : o.op = .indexAddr t x ix) (h : jk G t x ix put gen = .mk g) : QC G nt ops o g := by
 unfold jk at h
 split at h
 . rename_i r q es hr hq hes
   simp only [sNat_eq, Box.mk.injEq] at h
   subst h
   intro c tm H nx k z hw
   have hz : Fin G nt ops o c tm H nx k z (gen c tm H nx k z) := hg c tm H nx k z hw
   obtain ⟨a, ha, hk⟩ := Zt hr tm
   obtain ⟨b, hb, hk2⟩ := Zt hq tm
   simp only [hk, hk2]
   rcases Q5f a _ _ with e | ⟨bl, p, len, cap, es', ex, rfl, e⟩ <;> rw [e]
   . exact hz
   rcases Q0t b _ _ with e | ⟨kb, i, rfl, e⟩ <;> rw [e]
   . exact hz
   cases hi : Nat.blt i len with
   | false => exact hz
   | true => exact Zq hp hw (by rw [hop]; simp only [light, ha, hb, D.of, D.bind, Qi2, Q8j hes hi, ZR]; rfl)
 . cases h; exact hg
theorem Qjc (hp : Y1 nt o.dst put) (hg : QC G nt ops o gen) {cl : Call} (hop : o.op = .call cl) (h : lenB G cl put gen = .mk g) : QC G nt ops o g := by
 unfold lenB at h
 split at h
 . rename_i t x hc hts hxs
   split at h
   . rename_i r ti hr hti
     cases hd : Q2j ti.desc with
     | true =>
      rw [hd] at h
      simp only [cond_true, Box.mk.injEq] at h
      subst h
      intro c tm H nx k z hw
      have hz : Fin G nt ops o c tm H nx k z (gen c tm H nx k z) := hg c tm H nx k z hw
      obtain ⟨a, ha, hk⟩ := Zt hr tm
      simp only [hk]
      rcases Qcj a _ _ with e | ⟨s, rfl, e⟩ <;> rw [e]
      . exact hz
      simp only [sNat_eq, Qdo]
      exact Zq hp hw (by rw [hop]; simp only [light, hc, hts, hxs, ha, D.of, D.bind, Qf4, Qmu, hti, Q61 hd, sNat_eq, ZR])
     | false =>
      rw [hd] at h
      simp only [cond_false] at h
      split at h
      . rename_i e hs
        simp only [Box.mk.injEq] at h
        subst h
        intro c tm H nx k z hw
        have hz : Fin G nt ops o c tm H nx k z (gen c tm H nx k z) := hg c tm H nx k z hw
        obtain ⟨a, ha, hk⟩ := Zt hr tm
        simp only [hk]
        rcases Q5f a _ _ with e | ⟨b, p, len, cap, es, ex, rfl, e⟩ <;> rw [e]
        . exact hz
        exact Zq hp hw (by rw [hop]; simp only [light, hc, hts, hxs, ha, D.of, D.bind, Qf4, Qmu, hti, Q0r hs, ZR])
      . cases h; exact hg
   . cases h; exact hg
 . cases h; exact hg
theorem Qcp (hp : Y1 nt o.dst put) (hg : QC G nt ops o gen) (h : Qcq G o.op put gen = .mk g) : QC G nt ops o g := by
 unfold Qcq at h
 split at h <;> rename_i hop
 . exact Q9o hp hg (.inl hop) h
 . exact Q9o hp hg (.inr hop) h
 . exact Qgd hp hg hop h
 . exact Qck hp hg hop h
 . exact Qk2 hp hg hop h
 . exact Qg2 hp hg hop h
 . split at h
   . exact Qj4 hp hg hop h
   . cases h; exact hg
 . exact Q43 hp hg hop h
 . exact Qj6 hp hg hop h
 . exact Q8h hp hg hop h
 . exact Qgu hp hg hop h
 . exact Qdt hp hg hop h
 . exact Q3z hp hg hop h
 . exact Qjc hp hg hop h
 . cases h; exact hg
end
theorem zf {G : Env} : ZE G jX := by
 intro nt ops o put g h hp
 unfold jX at h
 split at h
 . cases h
 . rename_i put' hp'
   cases hgen : genB G o put' with
   | mk gen =>
    rw [hgen] at h
    simp only [Option.some.injEq] at h
    exact Qcp (zZ hp') (Qjl (zZ hp') hgen) h
end Go.Ax
namespace Go.Ax
open Go.RowKit
section
variable {P : Program} {G : Env} {n0 : Nat} {w0 : World} {cs0 : List Frame} {X : Ext} {s : AM} {m : Machine}
theorem Za (hT : G.T.OK P) (hI : YU.OK P G.I) (hS : ZC P G n0) {s s' : AM} (h : Z6 G s s') : ∀ {X : Ext} {m : Machine}, Sim P G n0 w0 cs0 X s m -> Qhl P G n0 w0 cs0 X m s' := by
 induction h with
 | refl s => intro X m hs; exact ⟨X, m, .refl P _, Ext.le.refl X, hs⟩
 | step e _ ih =>
  intro X m hs
  obtain ⟨Y, m1, a, b, c⟩ := Q8r hT hI hS hs e
  exact Qhl.of_steps a b (ih c)
end
end Go.Ax
namespace Go.Ax
open Go.RowKit
inductive Sp where
 | int (k : IntKind) (lo hi : Int)
 | str (most : Nat)
 | bool
 | lit (b : Bool)
 | nils
 | agg (l : List Sp)
 | tup (l : List Sp)
mutual
def Sp.has : Sp -> Value -> Prop
 | .int k lo hi, v => ∃ n, v = .int k n /\ lo <= n /\ n <= hi
 | .str m, v => ∃ s : ByteArray, v = .string s /\ s.size <= m
 | .bool, v => ∃ b, v = .bool b
 | .lit b, v => v = .bool b
 | .nils, v => v = .slice none 0 0
 | .agg l, v => ∃ vs : Array Value, v = .agg vs /\ Sp.Qdz l vs.toList
 | .tup l, v => ∃ vs : Array Value, v = .tuple vs /\ Sp.Qdz l vs.toList
def Sp.Qdz : List Sp -> List Value -> Prop
 | [], vs => vs = []
 | s :: l, vs => ∃ v vs', vs = v :: vs' /\ s.has v /\ Sp.Qdz l vs'
end
mutual
noncomputable def Sp.chk (c : Ctx) : Sp -> AV -> Bool
 | .int k lo hi, .int j e => Nat.beq (kN j) (kN k) && (match (E.iv c.fs e).lo, (E.iv c.fs e).hi with | some l, some h => ile lo l && ile h hi | _, _ => false)
 | .str m, a => match Qhp a with
  | some s => (match (E.iv c.fs s.len).hi with | some h => ile h (.ofNat m) | none => false)
  | none => false
 | .bool, .bool _ => true
 | .lit b, .bool a => b == a
 | .nils, .nilslice => true
 | .agg l, .agg cs => Sp.zV c l cs
 | .tup l, .tuple cs => Sp.zV c l cs
 | _, _ => false
noncomputable def Sp.zV (c : Ctx) : List Sp -> List AV -> Bool
 | [], [] => true
 | s :: l, a :: as => s.chk c a && Sp.zV c l as
 | _, _ => false
end
mutual
theorem Sp.zN {c : Ctx} {X : Ext} (hc : c.okN X.dom X.O) : ∀ {sp : Sp} {a : AV} {v : Value}, sp.chk c a = true -> a.rel X v -> sp.has v
 | .int k lo hi, a, v, h, hr => by
  cases a <;> simp only [Sp.chk, Bool.false_eq_true, Bool.and_eq_true] at h
  rename_i j e
  obtain ⟨h1, h2⟩ := h
  simp only [AV.rel] at hr
  obtain ⟨_, rfl⟩ := hr
  have hv := E.Qd hc.2 e
  split at h2
  . rename_i l hh e1 e2
    simp only [Bool.and_eq_true, QL] at h2
    have := hv.1 _ e1
    have := hv.2 _ e2
    simp only [Sp.has]
    exact ⟨_, by rw [Q0q h1], by omega, by omega⟩
  . cases h2
 | .str m, a, v, h, hr => by
  have h' : (match Qhp a with
   | some s => (match (E.iv c.fs s.len).hi with | some h => ile h (.ofNat m) | none => false)
   | none => false) = true := by cases a <;> exact h
  split at h'
  . rename_i s hs
    obtain ⟨s1, s2, rfl⟩ := z8 hs hr
    split at h'
    . rename_i hh e
      rw [QL] at h'
      have := (E.Qd hc.2 s.len).2 _ e
      unfold ST.fit at s2
      simp only [Sp.has]
      refine ⟨_, rfl, ?_⟩
      show (s.den X.O).toArray.size <= m
      simp only [Int.ofNat_eq_natCast] at h'
      simp
      omega
    . cases h'
  . cases h'
 | .bool, a, v, h, hr => by
  cases a <;> simp only [Sp.chk, Bool.false_eq_true] at h
  simp only [AV.rel] at hr
  simp only [Sp.has]
  exact ⟨_, hr⟩
 | .lit b, a, v, h, hr => by
  cases a <;> simp only [Sp.chk, Bool.false_eq_true, beq_iff_eq] at h
  simp only [AV.rel] at hr
  simp only [Sp.has]
  rw [hr, h]
 | .nils, a, v, h, hr => by
  cases a <;> simp only [Sp.chk, Bool.false_eq_true] at h
  simp only [AV.rel] at hr
  simp only [Sp.has]
  exact hr
 | .agg l, a, v, h, hr => by
  cases a <;> simp only [Sp.chk, Bool.false_eq_true] at h
  simp only [AV.rel] at hr
  obtain ⟨vs, rfl, hr⟩ := hr
  simp only [Sp.has]
  exact ⟨vs, rfl, Sp.QT hc h hr⟩
 | .tup l, a, v, h, hr => by
  cases a <;> simp only [Sp.chk, Bool.false_eq_true] at h
  simp only [AV.rel] at hr
  obtain ⟨vs, rfl, hr⟩ := hr
  simp only [Sp.has]
  exact ⟨vs, rfl, Sp.QT hc h hr⟩
theorem Sp.QT {c : Ctx} {X : Ext} (hc : c.okN X.dom X.O) : ∀ {l : List Sp} {as : List AV} {vs : List Value}, Sp.zV c l as = true -> AV.QI X as vs -> Sp.Qdz l vs
 | [], as, vs, h, hr => by
  cases as <;> simp only [Sp.zV, Bool.false_eq_true] at h
  simp only [Sp.Qdz]
  exact rels_nil.1 hr
 | s :: l, as, vs, h, hr => by
  cases as <;> simp only [Sp.zV, Bool.false_eq_true, Bool.and_eq_true] at h
  obtain ⟨v, vs', rfl, h1, h2⟩ := Qa.1 hr
  simp only [Sp.Qdz]
  exact ⟨v, vs', rfl, Sp.zN hc h.1 h1, Sp.QT hc h.2 h2⟩
end
structure In where
 v : AV
 next : Nat
 fs : Facts
 vs : List Nat
structure InL where
 v : List AV
 next : Nat
 fs : Facts
 vs : List Nat
mutual
noncomputable def Sp.inst : Sp -> Nat -> Option In
 | .int k lo hi, n => QD (n + 1) λ m => some ⟨.int k (.var n), m, [⟨.geq, .var n, .lit lo, true⟩, ⟨.leq, .var n, .lit hi, true⟩], [n]⟩
 | .str most, n => QD (n + 1) λ m => some ⟨.sstr (.var n), m, [⟨.leq, .len n, .lit (.ofNat most), true⟩], [n]⟩
 | .bool, _ => none
 | .lit b, n => some ⟨.bool b, n, [], []⟩
 | .nils, n => some ⟨.nilslice, n, [], []⟩
 | .agg l, n => match Sp.Q0u l n with
  | some r => some ⟨.agg r.v, r.next, r.fs, r.vs⟩
  | none => none
 | .tup l, n => match Sp.Q0u l n with
  | some r => some ⟨.tuple r.v, r.next, r.fs, r.vs⟩
  | none => none
noncomputable def Sp.Q0u : List Sp -> Nat -> Option InL
 | [], n => some ⟨[], n, [], []⟩
 | s :: l, n => match s.inst n with
  | none => none
  | some a => match Sp.Q0u l a.next with
   | none => none
   | some r => some ⟨a.v :: r.v, r.next, a.fs ++ r.fs, a.vs ++ r.vs⟩
end
structure New (X Y : Ext) (p : Place) (n m : Nat) (fs : Facts) (vs : List Nat) : Prop where
 le : X.le Y
 nm : n <= m
 old : ∀ b, b < n -> Y.V b = X.V b
 new : ∀ b, n <= b -> b < m -> Y.V b = some p
 free : ∀ b, m <= b -> Y.V b = none
 fs : fs.okN Y.dom Y.O
 vs : ∀ i ∈ vs, Y.dom i
def Ext.letter (X : Ext) (n : Nat) (p : Place) (z : Int) (s : List UInt8) : Ext :=
 ⟨λ i => if i = n then some p else X.V i, ⟨λ i => if i = n then z else X.O.int i, λ i => if i = n then s else X.O.str i⟩⟩
theorem Ext.ji {X : Ext} {n : Nat} {p : Place} {z : Int} {s : List UInt8} (h : ∀ b, n <= b -> X.V b = none) {fs : Facts} (hf : fs.okN (X.letter n p z s).dom (X.letter n p z s).O) : New X (X.letter n p z s) p n (n + 1) fs [n] := by
 refine ⟨⟨λ b q hq => ?_, λ i hi => ?_⟩, by omega, λ b hb => ?_, λ b h1 h2 => ?_, λ b hb => ?_, hf, λ i hi => ?_⟩
 . have : b ≠ n := λ e => by subst e; rw [h _ (Nat.le_refl _)] at hq; cases hq
   simp only [Ext.letter, if_neg this]
   exact hq
 . obtain ⟨q, hq⟩ := hi
   have : i ≠ n := λ e => by subst e; rw [h _ (Nat.le_refl _)] at hq; cases hq
   simp only [Ext.letter, if_neg this, and_self]
 . simp only [Ext.letter, if_neg (show ¬ b = n by omega)]
 . simp only [Ext.letter, if_pos (show b = n by omega)]
 . simp only [Ext.letter, if_neg (show ¬ b = n by omega)]
   exact h b (by omega)
 . simp only [List.mem_singleton] at hi
   subst hi
   exact ⟨p, by simp [Ext.letter]⟩
theorem Facts.Q3r {d d' : Nat -> Prop} {O O' : Val} (hd : ∀ i, d i -> d' i) (ha : Val.agree d O O') {fs : Facts} (h : fs.okN d O) : fs.okN d' O' := λ f hf => by
 obtain ⟨h1, h2, h3⟩ := h f hf
 refine ⟨?_, E.Qi hd h2, E.Qi hd h3⟩
 unfold Fact.ok at *
 rw [E.Qc ha h2, E.Qc ha h3]
 exact h1
mutual
theorem Sp.Q2k {p : Place} : ∀ {sp : Sp} {n : Nat} {r : In} {X : Ext} {v : Value}, sp.inst n = some r -> sp.has v -> (∀ b, n <= b -> X.V b = none) -> ∃ Y, New X Y p n r.next r.fs r.vs /\ r.v.rel Y v
 | .int k lo hi, n, r, X, v, h, hv, hf => by
  simp only [Sp.inst, sNat_eq, Option.some.injEq] at h
  subst h
  simp only [Sp.has] at hv
  obtain ⟨z, rfl, h1, h2⟩ := hv
  refine ⟨X.letter n p z [], Ext.ji hf ?_, ?_⟩
  . intro f hm
    have hd : (X.letter n p z []).dom n := ⟨p, by simp [Ext.letter]⟩
    simp only [List.mem_cons, List.not_mem_nil, or_false] at hm
    rcases hm with rfl | rfl
    . exact ⟨by simp [Fact.ok, Yl, E.den, Ext.letter, h1], hd, trivial⟩
    . exact ⟨by simp [Fact.ok, Yl, E.den, Ext.letter, h2], hd, trivial⟩
  . simp only [AV.rel]
    exact ⟨⟨p, by simp [Ext.letter]⟩, by simp [E.den, Ext.letter]⟩
 | .str most, n, r, X, v, h, hv, hf => by
  simp only [Sp.inst, sNat_eq, Option.some.injEq] at h
  subst h
  simp only [Sp.has] at hv
  obtain ⟨s, rfl, h1⟩ := hv
  refine ⟨X.letter n p 0 s.data.toList, Ext.ji hf ?_, ?_⟩
  . intro f hm
    have hd : (X.letter n p 0 s.data.toList).dom n := ⟨p, by simp [Ext.letter]⟩
    simp only [List.mem_cons, List.not_mem_nil, or_false] at hm
    subst hm
    refine ⟨?_, hd, trivial⟩
    simp [Fact.ok, Yl, E.den, Ext.letter]
    exact h1
  . simp only [AV.rel]
    refine ⟨⟨p, by simp [Ext.letter]⟩, ?_, ?_⟩
    . simp [ST.fit, ST.len, E.den, ST.den, Ext.letter]
    . simp [ST.den, Ext.letter]
 | .bool, n, r, X, v, h, _, _ => by simp [Sp.inst] at h
 | .lit b, n, r, X, v, h, hv, hf => by
  simp only [Sp.inst, Option.some.injEq] at h
  subst h
  simp only [Sp.has] at hv
  exact ⟨X, ⟨Ext.le.refl X, Nat.le_refl _, λ _ _ => rfl, λ b h1 h2 => by simp only at h2; omega, hf, λ f hf => (by cases hf), λ i hi => (by cases hi)⟩, by simp only [AV.rel]; exact hv⟩
 | .nils, n, r, X, v, h, hv, hf => by
  simp only [Sp.inst, Option.some.injEq] at h
  subst h
  simp only [Sp.has] at hv
  exact ⟨X, ⟨Ext.le.refl X, Nat.le_refl _, λ _ _ => rfl, λ b h1 h2 => by simp only at h2; omega, hf, λ f hf => (by cases hf), λ i hi => (by cases hi)⟩, by simp only [AV.rel]; exact hv⟩
 | .agg l, n, r, X, v, h, hv, hf => by
  simp only [Sp.inst] at h
  split at h
  . rename_i q hq
    cases h
    simp only [Sp.has] at hv
    obtain ⟨vs, rfl, hv⟩ := hv
    obtain ⟨Y, h1, h2⟩ := Sp.Yi (p := p) hq hv hf
    exact ⟨Y, h1, by simp only [AV.rel]; exact ⟨vs, rfl, h2⟩⟩
  . cases h
 | .tup l, n, r, X, v, h, hv, hf => by
  simp only [Sp.inst] at h
  split at h
  . rename_i q hq
    cases h
    simp only [Sp.has] at hv
    obtain ⟨vs, rfl, hv⟩ := hv
    obtain ⟨Y, h1, h2⟩ := Sp.Yi (p := p) hq hv hf
    exact ⟨Y, h1, by simp only [AV.rel]; exact ⟨vs, rfl, h2⟩⟩
  . cases h
theorem Sp.Yi {p : Place} : ∀ {l : List Sp} {n : Nat} {r : InL} {X : Ext} {vs : List Value}, Sp.Q0u l n = some r -> Sp.Qdz l vs -> (∀ b, n <= b -> X.V b = none) -> ∃ Y, New X Y p n r.next r.fs r.vs /\ AV.QI Y r.v vs
 | [], n, r, X, vs, h, hv, hf => by
  simp only [Sp.Q0u, Option.some.injEq] at h
  subst h
  simp only [Sp.Qdz] at hv
  subst hv
  exact ⟨X, ⟨Ext.le.refl X, Nat.le_refl _, λ _ _ => rfl, λ b h1 h2 => by simp only at h2; omega, hf, λ f hf => (by cases hf), λ i hi => (by cases hi)⟩, by simp⟩
 | s :: l, n, r, X, vs, h, hv, hf => by
  simp only [Sp.Q0u] at h
  split at h
  . cases h
  . rename_i a ha
    split at h
    . cases h
    . rename_i q hq
      cases h
      simp only [Sp.Qdz] at hv
      obtain ⟨v, vs', rfl, hv1, hv2⟩ := hv
      obtain ⟨Y, n1, r1⟩ := Sp.Q2k (p := p) ha hv1 hf
      obtain ⟨Z, n2, r2⟩ := Sp.Yi (p := p) hq hv2 n1.free
      refine ⟨Z, ⟨n1.le.trans n2.le, Nat.le_trans n1.nm n2.nm, λ b hb => ?_, λ b h1 h2 => ?_, n2.free, λ f hm => ?_, λ i hi => ?_⟩, ?_⟩
      . rw [n2.old b (Nat.lt_of_lt_of_le hb n1.nm), n1.old b hb]
      . by_cases hb : b < a.next
        . rw [n2.old b hb]; exact n1.new b h1 hb
        . exact n2.new b (by omega) h2
      . rcases List.mem_append.1 hm with hm | hm
        . exact Facts.Q3r n2.le.dom n2.le.O n1.fs f hm
        . exact n2.fs f hm
      . rcases List.mem_append.1 hi with hi | hi
        . exact n2.le.dom _ (n1.vs i hi)
        . exact n2.vs i hi
      . simp only [rels_cons_cons]
        exact ⟨AV.Zm n2.le _ _ r1, r2⟩
end
mutual
def Sp.part : Sp -> List Sp
 | .bool => [.lit true, .lit false]
 | .agg l => (Sp.Qj0 l).map .agg
 | .tup l => (Sp.Qj0 l).map .tup
 | s => [s]
def Sp.Qj0 : List Sp -> List (List Sp)
 | [] => [[]]
 | s :: l => s.part.flatMap λ a => (Sp.Qj0 l).map λ as => a :: as
end
end Go.Ax
namespace Go.Ax
open Go.RowKit
noncomputable def Yw (spec : Spec) (G : Env) (n : Nat) (f : FuncId) (q : Ctx -> AV -> Bool) (k : Nat) : Nat -> AM -> Bool
 | 0, _ => false
 | d + 1, s => match Qfa spec G n k s with
  | .go _ => false
  | .stop s => match ZY G s with
   | .fin => s.fr.ret && Nat.beq s.fr.fn f && (match G.T.funcs.get s.fr.fn with
    | some fn => match JV G.T s.H fn s.fr.tm with
     | some v => q s.ctx v
     | none => false
    | none => false)
   | .ask op a b => a.okB s.ctx.vs && b.okB s.ctx.vs && (Yw spec G n f q k d { s with ctx := s.ctx.add ⟨op, a, b, true⟩ } && Yw spec G n f q k d { s with ctx := s.ctx.add ⟨op, a, b, false⟩ })
   | _ => false
section
variable {P : Program} {G : Env} {n0 : Nat} {w0 : World} {cs0 : List Frame} {X : Ext} {s : AM} {m : Machine}
def Qk8 (P : Program) (n0 : Nat) (w0 : World) (cs0 : List Frame) (f : FuncId) (q : Ctx -> AV -> Bool) (X : Ext) (m : Machine) : Prop :=
 ∃ Y fr w c v u, Steps P m (lone fr cs0 w) /\ X.le Y /\ c.okN Y.dom Y.O /\ q c v = true /\ v.rel Y u /\ Below n0 w0 w /\ fr.fn = f /\ fr.leaving P w (.returned u)
theorem ZM (hT : G.T.OK P) (hI : YU.OK P G.I) (hS : ZC P G n0) {spec : Spec} (hsp : ZE G spec) {n : Nat} {f : FuncId} {q : Ctx -> AV -> Bool} {k : Nat} : ∀ (d : Nat) {X : Ext} {s : AM} {m : Machine}, Yw spec G n f q k d s = true -> Sim P G n0 w0 cs0 X s m -> Qk8 P n0 w0 cs0 f q X m
 | 0, X, s, m, he, _ => by simp [Yw] at he
 | d + 1, X, s, m, he, h => by
  simp only [Yw] at he
  have hr := Za hT hI hS (Q03 hsp n k s) h
  split at he
  . cases he
  . rename_i s1 hs1
    rw [hs1] at hr
    obtain ⟨Y, m1, st, hle, h1⟩ := hr
    simp only [Jp.state] at h1
    have fin : ∀ {X' : Ext}, Y = X' -> Qk8 P n0 w0 cs0 f q X' m1 -> Qk8 P n0 w0 cs0 f q X m := by
     rintro X' rfl ⟨Z, fr, w, c, v, u, a1, a2, a3⟩
     exact ⟨Z, fr, w, c, v, u, st.trans a1, hle.trans a2, a3⟩
    split at he
    . rename_i hfin
      refine fin rfl ?_
      simp only [Bool.and_eq_true, Nat.beq_eq] at he
      obtain ⟨⟨hret, hf⟩, he⟩ := he
      split at he
      . rename_i fn hfn
        split at he
        . rename_i v hv
          -- the state is at its end
          have hend : s1.fr.ret = true /\ s1.fr.defers = [] /\ s1.cs = [] := by
           unfold ZY at hfin
           rw [hret] at hfin
           simp only at hfin
           split at hfin
           . cases hfin
           . split at hfin <;> cases hfin
           . rename_i hd
             split at hfin
             . rename_i hcs
               exact ⟨hret, hd, hcs⟩
             . split at hfin
               . cases hfin
               . split at hfin
                 . cases hfin
                 . split at hfin <;> cases hfin
          obtain ⟨e1, e2, e3⟩ := hend
          obtain ⟨fr, cs, w, rfl, hF, hall, hH, hB, h0⟩ := h1.ex
          rw [e3] at hall
          simp only [ZO] at hall
          subst hall
          obtain ⟨hb, h'⟩ := hF
          rw [e1] at h'
          simp only at h'
          obtain ⟨hm, htm, hcur⟩ := h'
          have hdf := hb.defers
          rw [e2] at hdf
          simp only [Q6f] at hdf
          obtain ⟨u, hu, hr⟩ := zu (P := P) hT hH htm hv
          exact ⟨Y, fr, w, s1.ctx, v, u, .refl P _, Ext.le.refl Y, h1.ctx, he, hr, hB, hb.fn.trans hf, hm, hdf, hb.kind, fn, by rw [hb.fn]; exact (hT.funcs _ _ hfn).1, hu⟩
        . cases he
      . cases he
    . rename_i op a b hask
      simp only [Bool.and_eq_true] at he
      obtain ⟨⟨ka, kb⟩, he⟩ := he
      obtain ⟨v, hv⟩ := h1.ask op ka kb
      refine fin rfl ?_
      cases v with
      | true => exact ZM hT hI hS hsp d he.1 hv
      | false => exact ZM hT hI hS hsp d he.2 hv
    . cases he
theorem jy (hT : G.T.OK P) (hI : YU.OK P G.I) (hS : ZC P G n0) {spec : Spec} (hsp : ZE G spec) {n : Nat} {f : FuncId} {args : List AV} {vs : Array Value} {H : Tr Q7} {next : Nat} {c : Ctx} {q : Ctx -> AV -> Bool} {k d : Nat} {s : AM} {w : World} (hs : start G f args H next c = some s) (he : Yw spec G n f q k d s = true)
 (hargs : AV.QI X args vs.toList) (hH : Qp X n0 H w) (h0 : n0 <= w.heap.size) (hc : c.okN X.dom X.O) (hg : X.Ql G.T.ng) (hfr : ∀ b, next <= b -> X.V b = none) :
 Calls P f vs w (λ e w' => ∃ Y c v u, X.le Y /\ c.okN Y.dom Y.O /\ q c v = true /\ v.rel Y u /\ e = .returned u /\ Below n0 w w') := by
 intro cs
 have hsim : Sim P G n0 w cs X s (lone (Frame.enter P f vs .normal) cs w) := by
  unfold start at hs
  split at hs
  . cases hs
  . rename_i fn hfn
    split at hs
    . cases hs
    . rename_i b hb
      cases hs
      have hP := (hT.funcs f fn hfn).1
      refine ⟨⟨Frame.enter P f vs .normal, [], w, rfl, ⟨⟨rfl, rfl, rfl, rfl⟩, rfl, [.code b], ⟨_, _, rfl, rfl, rfl⟩, ?_, ?_⟩, rfl, hH, Below.refl _ _, h0⟩, hc, hg, hfr, ?_⟩
      . simp [Frame.enter, hP, hb]
      . have := Q49 (k := fn.ntmps) hargs
        simpa [Frame.enter, hP] using this
      . simp [Qv]
 obtain ⟨Y, fr, w', c', v, u, a1, a2, a2', a3, a4, a5, a6, a7⟩ := ZM hT hI hS hsp d he hsim
 exact ⟨.returned u, w', fr, ⟨Y, c', v, u, a2, a2', a3, a4, rfl, a5⟩, a1, a6, a7⟩
end
def Ext.base (ng : Nat) : Ext := ⟨λ b => if b < ng then some ⟨b, 0, 0⟩ else none, ⟨λ _ => 0, λ _ => []⟩⟩
noncomputable def Q67 (H : Tr Q7) (n : Nat) (m : Nat) : Nat -> Bool
 | 0 => Nat.ble m n
 | k + 1 => bif Nat.ble m n then true else (match H.get n with | none => QD (n + 1) λ n => Q67 H n m k | some _ => false)
theorem qL {H : Tr Q7} {m : Nat} : ∀ {k n : Nat}, Q67 H n m k = true -> ∀ b, n <= b -> b < m -> H.get b = none
 | 0, n, h, b, h1, h2 => by simp only [Q67, Nat.ble_eq] at h; omega
 | k + 1, n, h, b, h1, h2 => by
  simp only [Q67, sNat_eq] at h
  cases hb : Nat.ble m n with
  | true => have : m <= n := by simpa using hb
            omega
  | false =>
   rw [hb] at h
   simp only [cond_false] at h
   split at h
   . rename_i hg
     by_cases e : b = n
     . subst e; exact hg
     . exact qL h b (by omega) h2
   . cases h
noncomputable def Qid (args : List Sp) (res : Sp) : Ctx -> Tr Q7 -> Nat -> List AV -> D SR := λ c H next as =>
 bif Sp.zV c args as then
  match res.inst next with
  | some r => bif Q67 H next r.next 64 then .ok ⟨r.v, H, r.next, ⟨r.fs ++ c.fs, r.vs ++ c.vs⟩⟩ else .fail
  | none => .fail
 else .fail
end Go.Ax
namespace Go.Ax
open Go.RowKit
abbrev Sum := Ctx -> Tr Q7 -> Nat -> List AV -> D SR
noncomputable def Qcg : List (Nat × Sum) -> Nat -> Option Sum
 | [], _ => none
 | p :: l, f => bif Nat.beq p.1 f then some p.2 else Qcg l f
def Qf9 (P : Program) (T : Tab) (l : List (Nat × Sum)) : Prop :=
 ∀ p ∈ l, ∀ (G : Env) (n0 : Nat), G.T = T -> Qmx P G n0 p.1 p.2
theorem Q97 {P : Program} {T : Tab} {I : List (TypeId × TypeId × Bool)} {l : List (Nat × Sum)} (h : Qf9 P T l) (n0 : Nat) : ZC P ⟨T, I, Qcg l⟩ n0 := by
 intro f S hf
 have : ∃ p ∈ l, p.1 = f /\ p.2 = S := by
  clear h
  induction l with
  | nil => cases hf
  | cons p l ih =>
   have hf' : (bif Nat.beq p.1 f then some p.2 else Qcg l f) = some S := hf
   cases hb : Nat.beq p.1 f with
   | true =>
    rw [hb] at hf'
    simp only [cond_true, Option.some.injEq] at hf'
    exact ⟨p, by simp, by simpa using hb, hf'⟩
   | false =>
    rw [hb] at hf'
    obtain ⟨q, h1, h2⟩ := ih hf'
    exact ⟨q, by simp [h1], h2⟩
 obtain ⟨p, hp, rfl, rfl⟩ := this
 exact h p hp _ n0 rfl
theorem Qf9.cons {P : Program} {T : Tab} {p : Nat × Sum} {l : List (Nat × Sum)} (h1 : ∀ (G : Env) (n0 : Nat), G.T = T -> Y0 P G n0 p.1 p.2) (h2 : ∀ args w, (callFunc p.1 args).run P w = .ok (.enter p.1 args) w) (h : Qf9 P T l) : Qf9 P T (p :: l) := by
 intro q hq
 rcases List.mem_cons.1 hq with rfl | hq
 . exact λ G n0 e => .inl ⟨h1 G n0 e, h2⟩
 . exact h q hq
theorem Qf9.ext {P : Program} {T : Tab} {p : Nat × Sum} {l : List (Nat × Sum)} (h1 : ∀ (G : Env) (n0 : Nat), G.T = T -> Qmy P G n0 p.1 p.2) (h : Qf9 P T l) : Qf9 P T (p :: l) := by
 intro q hq
 rcases List.mem_cons.1 hq with rfl | hq
 . exact λ G n0 e => .inr (h1 G n0 e)
 . exact h q hq
theorem Qf9.nil {P : Program} {T : Tab} : Qf9 P T [] := λ p hp => by cases hp
def spI : Sp := .int .i64 (-9223372036854775808) 9223372036854775807
noncomputable def Q81 : Sum := λ c H next as =>
 match as with
 | [.int _ (.lit _), _] => .fail
 | [.int .i64 e, .int .i64 (.lit (.ofNat n))] => bif Nat.ble 1 n && Nat.ble n 9223372036854775807 && spI.chk c (.int .i64 e) then .ok ⟨.int .i64 (.pk n e), H, next, c⟩ else .fail
 | _ => .fail
theorem Qb8 {P : Program} {G : Env} {n0 : Nat} {f : FuncId}
 (h : ∀ (z : Int) (n : Nat) (w : World), -9223372036854775808 <= z -> z <= 9223372036854775807 -> 1 <= n -> n <= 9223372036854775807 -> Calls P f #[.int .i64 z, .int .i64 n] w λ e w' => e = .returned (.int .i64 (Q5r n z)) /\ w' = w) : Y0 P G n0 f Q81 := by
 intro c X H next w as vs r hr hc hg hH h0 hfr hargs fr cs
 unfold Q81 at hr
 split at hr
 . cases hr
 . rename_i e n _
   cases hb : (Nat.ble 1 n && Nat.ble n 9223372036854775807 && spI.chk c (.int .i64 e)) with
   | false => rw [hb] at hr; cases hr
   | true =>
    rw [hb] at hr
    cases hr
    simp only [Bool.and_eq_true, Nat.ble_eq] at hb
    obtain ⟨u, vs', e1, h1, h2⟩ := Qa.1 hargs
    obtain ⟨v, vs'', rfl, h3, h4⟩ := Qa.1 h2
    have := rels_nil.1 h4
    subst this
    have hk := Sp.zN hc hb.2 h1
    simp only [AV.rel] at h1 h3
    obtain ⟨k1, rfl⟩ := h1
    obtain ⟨_, rfl⟩ := h3
    simp only [spI, Sp.has] at hk
    obtain ⟨z, hz, z0, z1⟩ := hk
    cases hz
    have hvs : vs = #[.int .i64 (e.den X.O), .int .i64 n] := by rw [<- Array.toList_inj]; exact e1
    subst hvs
    refine ⟨X, _, w, JC (h (e.den X.O) n w z0 z1 hb.1.1 hb.1.2) fr cs, Ext.le.refl X, ?_, hH, Below.refl _ _, λ b hb _ => ⟨hb, rfl⟩, Nat.le_refl _, hfr, hc⟩
    simp only [AV.rel]
    exact ⟨k1, rfl⟩
 . cases hr
end Go.Ax
namespace Go.Ax
open Go.RowKit
noncomputable def Yx (spec : Spec) (G : Env) (n : Nat) (f : FuncId) (q : Ctx -> AV -> Bool) (k : Nat) : Nat -> List Bool -> AM -> Bool
 | 0, _, _ => false
 | d + 1, p, s => match Qfa spec G n k s with
  | .go _ => false
  | .stop s => match ZY G s with
   | .fin => s.fr.ret && Nat.beq s.fr.fn f && (match G.T.funcs.get s.fr.fn with
    | some fn => match JV G.T s.H fn s.fr.tm with
     | some v => q s.ctx v
     | none => false
    | none => false)
   | .ask op a b => a.okB s.ctx.vs && b.okB s.ctx.vs && (match p with
    | [] => Yx spec G n f q k d [] { s with ctx := s.ctx.add ⟨op, a, b, true⟩ } && Yx spec G n f q k d [] { s with ctx := s.ctx.add ⟨op, a, b, false⟩ }
    | true :: p => Yx spec G n f q k d p { s with ctx := s.ctx.add ⟨op, a, b, true⟩ }
    | false :: p => Yx spec G n f q k d p { s with ctx := s.ctx.add ⟨op, a, b, false⟩ })
   | _ => false
theorem Jy {spec : Spec} {G : Env} {n : Nat} {f : FuncId} {q : Ctx -> AV -> Bool} {k : Nat} : ∀ (d : Nat) (s : AM), Yx spec G n f q k d [] s = Yw spec G n f q k d s
 | 0, _ => rfl
 | d + 1, s => by
  simp only [Yx, Yw]
  simp only [Jy d]
  all_goals rfl
end Go.Ax
namespace Go.Ax
open Go.RowKit
theorem Qp.place {X : Ext} {n0 : Nat} {H : Tr Q7} {w : World} (h : Qp X n0 H w) {b : Nat} {o : Q7} {p : Place} (hb : X.V b = none) (hlt : p.blk < w.heap.size) (hn : n0 <= p.blk) (hfr : ∀ i q, X.V i = some q -> q.blk ≠ p.blk)
 (hr : zW (X.add b p) o p w.heap[p.blk]?) : Qp (X.add b p) n0 (H.set b o) w := by
 have hle := Ext.Zi (p := p) hb
 have key : ∀ i q, (X.add b p).V i = some q -> (i = b /\ q = p) \/ (i ≠ b /\ X.V i = some q) := by
  intro i q hq
  by_cases e : i = b
  . subst e; rw [Ext.add_same] at hq; exact .inl ⟨rfl, (Option.some.inj hq).symm⟩
  . rw [Ext.Zf e] at hq; exact .inr ⟨e, hq⟩
 refine ⟨λ i o' q hi hq => ?_, λ i j o1 o2 q1 q2 hi hj l1 l2 hq1 hq2 e => ?_, λ i q hq => ?_, λ i o' q hi hl hq => ?_⟩
 . rcases key i q hq with ⟨rfl, rfl⟩ | ⟨e, hq'⟩
   . rw [Tr.get_set_same] at hi
     cases hi
     exact hr
   . rw [Tr.Q0 _ _ e] at hi
     exact Zl hle (h.obj i o' q hi hq')
 . rcases key i q1 hq1 with ⟨rfl, rfl⟩ | ⟨e1, hq1'⟩ <;> rcases key j q2 hq2 with ⟨rfl, rfl⟩ | ⟨e2, hq2'⟩
   . rfl
   . exact absurd e.symm (hfr _ _ hq2')
   . exact absurd e (hfr _ _ hq1')
   . rw [Tr.Q0 _ _ e1] at hi
     rw [Tr.Q0 _ _ e2] at hj
     exact h.inj i j o1 o2 q1 q2 hi hj l1 l2 hq1' hq2' e
 . rcases key i q hq with ⟨rfl, rfl⟩ | ⟨_, hq'⟩
   . exact hlt
   . exact h.lt i q hq'
 . rcases key i q hq with ⟨rfl, rfl⟩ | ⟨e, hq'⟩
   . exact hn
   . rw [Tr.Q0 _ _ e] at hi
     exact h.own i o' q hi hl hq'
theorem Qp.grow {X : Ext} {n0 : Nat} {H : Tr Q7} {w w' : World} (h : Qp X n0 H w) (hb : Below w.heap.size w w') : Qp X n0 H w' :=
 ⟨λ b o p hi hp => by rw [hb.block _ (h.lt _ _ hp)]; exact h.obj b o p hi hp, h.inj, λ b p hp => Nat.lt_of_lt_of_le (h.lt b p hp) hb.size, h.own⟩
theorem Q5s {α β : Type} {f : α -> β} {L' L : List β} (h : L'.Perm L) : ∀ es : List α, es.map f = L' -> ∃ l : List α, l.Perm es /\ l.map f = L := by
 induction h with
 | nil => intro es he; exact ⟨es, .refl _, he⟩
 | cons x _ ih =>
  intro es he
  cases es with
  | nil => simp at he
  | cons e es =>
   simp only [List.map_cons, List.cons.injEq] at he
   obtain ⟨l, h1, h2⟩ := ih es he.2
   exact ⟨e :: l, h1.cons e, by simp [he.1, h2]⟩
 | swap x y l =>
  intro es he
  match es, he with
  | a :: b :: es, he =>
   simp only [List.map_cons, List.cons.injEq] at he
   exact ⟨b :: a :: es, .swap _ _ _, by simp [he.1, he.2.1, he.2.2]⟩
 | trans _ _ ih1 ih2 =>
  intro es he
  obtain ⟨l, h1, h2⟩ := ih1 es he
  obtain ⟨l', h3, h4⟩ := ih2 l h2
  exact ⟨l', h3.trans h1, h4⟩
end Go.Ax
namespace Go.Ax
open Go.RowKit
structure Q7g where
 ng : Nat
 m : Nat
 T : TypeId
 t : TypeId
 l : List (Nat × Nat)
 d : List (Nat × TypeId × List Nat)
noncomputable def dObj (q : Nat × TypeId × List Nat) : Q7 := .cells (q.2.2.map λ n => .int .i64 (.lit (.ofNat n))) q.2.1 false false true
noncomputable def Qm6 (room : Nat) : List (Nat × TypeId × List Nat) -> Tr Q7
 | [] => .sk room
 | q :: l => (Qm6 room l).set q.1 (dObj q)
noncomputable def Qe9 (room : Nat) (T t : TypeId) (d : List (Nat × TypeId × List Nat)) : List (Nat × Nat) -> Tr Q7
 | [] => Qm6 room d
 | e :: l => (Qe9 room T t d l).set e.1 (.cells [.iface T (.ptr e.2 0)] t false false true)
structure Laid (E : Q7g) (A : Nat -> Addr) (N : Nat -> Nat) (w : World) : Prop where
 at_ : ∀ e ∈ E.l, e.1 < E.ng /\ E.ng <= e.2 /\ e.2 < E.ng + E.m /\ 0 < N e.1 /\ (A e.2).spot = none /\ ∃ c fr el, w.heap[e.1]? = some (.cells c el fr) /\ c.size = N e.1 /\ c[0]? = some (.iface E.T (.pointer (some (A e.2))))
 lt : ∀ b, E.ng <= b -> b < E.ng + E.m -> (A b).block < w.heap.size
 sz : E.ng <= w.heap.size
 dat : ∀ q ∈ E.d, q.1 < E.ng /\ ∃ c fr el, w.heap[q.1]? = some (.cells c el fr) /\ c.size = N q.1 /\ q.2.2.length <= c.size /\ ∀ (i n : Nat), q.2.2[i]? = some n -> c[i]? = some (.int .i64 (n : Int))
def Qi0 (E : Q7g) (A : Nat -> Addr) (N : Nat -> Nat) : Ext :=
 ⟨λ b => if b < E.ng then some ⟨b, 0, N b⟩ else if b < E.ng + E.m then some ⟨(A b).block, (A b).off, 0⟩ else none, ⟨λ _ => 0, λ _ => []⟩⟩
theorem Qa6 {room : Nat} : ∀ {d : List (Nat × TypeId × List Nat)} {b : Nat} {o : Q7}, (Qm6 room d).get b = some o -> ∃ q ∈ d, b = q.1 /\ o = dObj q
 | [], b, o, h => by simp [Qm6] at h
 | q :: l, b, o, h => by
  simp only [Qm6] at h
  rw [Tr.Zp] at h
  by_cases hb : b = q.1
  . subst hb
    simp at h
    exact ⟨q, by simp, rfl, h.symm⟩
  . rw [if_neg hb] at h
    obtain ⟨q', h1, h2⟩ := Qa6 h
    exact ⟨q', by simp [h1], h2⟩
theorem yM {room : Nat} {T t : TypeId} {d : List (Nat × TypeId × List Nat)} : ∀ {l : List (Nat × Nat)} {b : Nat} {o : Q7}, (Qe9 room T t d l).get b = some o -> (∃ id, (b, id) ∈ l /\ o = .cells [.iface T (.ptr id 0)] t false false true) \/ ∃ q ∈ d, b = q.1 /\ o = dObj q
 | [], b, o, h => .inr (Qa6 h)
 | e :: l, b, o, h => by
  simp only [Qe9] at h
  rw [Tr.Zp] at h
  by_cases hb : b = e.1
  . subst hb
    simp at h
    exact .inl ⟨e.2, by simp, h.symm⟩
  . rw [if_neg hb] at h
    rcases yM h with ⟨id, h1, h2⟩ | h1
    . exact .inl ⟨id, by simp [h1], h2⟩
    . exact .inr h1
theorem Q6c {E : Q7g} {A : Nat -> Addr} {N : Nat -> Nat} {w : World} (hl : Laid E A N w) {Y : Ext} {room : Nat} (hold : ∀ b, b < E.ng -> Y.V b = some ⟨b, 0, N b⟩) (hptr : ∀ b, E.ng <= b -> b < E.ng + E.m -> Y.V b = some ⟨(A b).block, (A b).off, 0⟩)
 (hlt : ∀ b p, Y.V b = some p -> p.blk < w.heap.size) : Qp Y w.heap.size (Qe9 room E.T E.t E.d E.l) w := by
 have hin : ∀ {b o}, (Qe9 room E.T E.t E.d E.l).get b = some o -> b < E.ng := λ hb => by
  rcases yM hb with ⟨id, hm, -⟩ | ⟨q, hq, rfl, -⟩
  . exact (hl.at_ _ hm).1
  . exact (hl.dat q hq).1
 refine ⟨λ b o p hb hp => ?_, λ b b' o o' p p' hb hb' _ _ hp hp' e => ?_, hlt, λ b o p hb hrw => ?_⟩
 . rw [hold b (hin hb)] at hp
   cases hp
   rcases yM hb with ⟨id, hm, rfl⟩ | ⟨q, hq, rfl, rfl⟩
   . obtain ⟨a1, a2, a3, a3', a4, c, fr, el, a5, a6, a7⟩ := hl.at_ _ hm
     simp only at a1 a2 a3 a3' a4 a5 a6 a7
     refine ⟨c, fr, ⟨_, a5, .inl rfl⟩, a6, by simp only [List.length_singleton]; omega, λ h => (by cases h), λ i x hx => ?_, .inl rfl, λ h => (by cases h)⟩
     cases i with
     | zero =>
      simp only [List.getElem?_cons_zero, Option.some.injEq] at hx
      subst hx
      refine ⟨_, by simpa using a7, ?_⟩
      simp only [AV.rel]
      refine ⟨_, rfl, _, hptr id a2 a3, ?_⟩
      simp only [Nat.add_zero]
      rw [<- a4]
     | succ i => simp at hx
   . obtain ⟨a1, c, fr, el, a5, a6, a7, a8⟩ := hl.dat q hq
     refine ⟨c, fr, ⟨_, a5, .inl rfl⟩, a6, by simp only [List.length_map]; omega, λ h => (by cases h), λ i x hx => ?_, .inl rfl, λ h => (by cases h)⟩
     simp only [List.getElem?_map, Option.map_eq_some_iff] at hx
     obtain ⟨n, hn, rfl⟩ := hx
     exact ⟨_, by simpa using a8 i n hn, by simp only [AV.rel]; exact ⟨trivial, rfl⟩⟩
 . rw [hold b (hin hb)] at hp
   rw [hold b' (hin hb')] at hp'
   cases hp
   cases hp'
   exact e
 . rcases yM hb with ⟨id, hm, rfl⟩ | ⟨q, hq, rfl, rfl⟩ <;> cases hrw
def Qhi (P : Program) (E : Q7g) (f : FuncId) (args : List Sp) (res : Sp) : Prop :=
 ∀ (w : World) (A : Nat -> Addr) (N : Nat -> Nat) (vs : Array Value), Laid E A N w -> Sp.Qdz args vs.toList -> Calls P f vs w (λ e w' => ∃ u, e = .returned u /\ res.has u /\ Below w.heap.size w w')
noncomputable def Qe8 (G : Env) (E : Q7g) (f : FuncId) (args : List Sp) (res : Sp) (room n k d : Nat) (p : List Bool) : Bool :=
 match Sp.Q0u args (E.ng + E.m) with
 | none => false
 | some r => match start G f r.v (Qe9 room E.T E.t E.d E.l) r.next ⟨r.fs, r.vs⟩ with
  | none => false
  | some s => Yx jX G n f (λ c v => res.chk c v) k d p s
theorem yT {P : Program} {G : Env} (hT : G.T.OK P) (hI : YU.OK P G.I) (hS : ∀ n0, ZC P G n0) {E : Q7g} (hE : E.ng = G.T.ng) (hng : 0 < E.ng) {f : FuncId} {args : List Sp} {res : Sp} {room n k d : Nat}
 (he : Qe8 G E f args res room n k d [] = true) : Qhi P E f args res := by
 intro w A N vs hl hv cs
 unfold Qe8 at he
 split at he
 . cases he
 . rename_i r hi
   split at he
   . cases he
   . rename_i s hs
     rw [Jy] at he
     have h00 : 0 < w.heap.size := Nat.lt_of_lt_of_le hng hl.sz
     obtain ⟨Y, hN, hr⟩ := Sp.Yi (p := ⟨0, 0, 0⟩) (X := Qi0 E A N) hi hv (λ b hb => by simp only [Qi0]; rw [if_neg (by omega), if_neg (by omega)])
     have hold : ∀ b, b < E.ng -> Y.V b = some ⟨b, 0, N b⟩ := λ b hb => by rw [hN.old b (by omega)]; simp only [Qi0]; rw [if_pos hb]
     have hptr : ∀ b, E.ng <= b -> b < E.ng + E.m -> Y.V b = some ⟨(A b).block, (A b).off, 0⟩ := λ b h1 h2 => by rw [hN.old b h2]; simp only [Qi0]; rw [if_neg (by omega), if_pos h2]
     have hH : Qp Y w.heap.size (Qe9 room E.T E.t E.d E.l) w := Q6c hl hold hptr λ b p hp => by
      by_cases h1 : b < E.ng
      . rw [hold b h1] at hp
        cases hp
        exact Nat.lt_of_lt_of_le h1 hl.sz
      . by_cases h2 : b < E.ng + E.m
        . rw [hptr b (by omega) h2] at hp
          cases hp
          exact hl.lt b (by omega) h2
        . by_cases h3 : b < r.next
          . rw [hN.new b (by omega) h3] at hp
            cases hp
            exact h00
          . rw [hN.free b (by omega)] at hp; cases hp
     have hg : Y.Ql G.T.ng := λ g hg => ⟨N g, hold g (by omega)⟩
     obtain ⟨e, w', fr, ⟨Z, c, v, u, a1, a2, a3, a4, rfl, a5⟩, a6⟩ := jy hT hI (hS _) zf hs he hr hH (Nat.le_refl _) (c := ⟨r.fs, r.vs⟩) ⟨hN.vs, hN.fs⟩ hg hN.free cs
     exact ⟨_, w', fr, ⟨u, rfl, Sp.zN a2 a3 a4, a5⟩, a6⟩
noncomputable def Qbr (T t : TypeId) (H : Tr Q7) : List (Nat × Nat) -> Bool
 | [] => true
 | e :: l => (match H.get e.1 with
  | some (.cells (.iface T' (.ptr b 0) :: _) t' _ _ _) => Nat.beq T' T && (Nat.beq t' t && Nat.beq b e.2)
  | _ => false) && Qbr T t H l
theorem Q6b {T t : TypeId} {H : Tr Q7} : ∀ {l : List (Nat × Nat)}, Qbr T t H l = true -> ∀ e ∈ l, ∃ r ex pl ro, H.get e.1 = some (.cells (.iface T (.ptr e.2 0) :: r) t ex pl ro)
 | [], _, e, he => by cases he
 | a :: l, h, e, he => by
  simp only [Qbr, Bool.and_eq_true] at h
  rcases List.mem_cons.1 he with rfl | he
  . obtain ⟨h1, -⟩ := h
    split at h1
    . rename_i T' b r t' ex pl ro hg
      simp only [Bool.and_eq_true, Nat.beq_eq] at h1
      obtain ⟨rfl, rfl, rfl⟩ := h1
      exact ⟨r, ex, pl, ro, hg⟩
    . cases h1
  . exact Q6b h.2 e he
noncomputable def Qge : List AV -> List Nat -> Bool
 | _, [] => true
 | .int .i64 (.lit (.ofNat m)) :: cs, n :: l => Nat.beq m n && Qge cs l
 | _, _ => false
theorem Q0l : ∀ {cs : List AV} {l : List Nat}, Qge cs l = true -> l.length <= cs.length /\ ∀ (i n : Nat), l[i]? = some n -> cs[i]? = some (.int .i64 (.lit (.ofNat n)))
 | cs, [], _ => ⟨by simp, λ i n h => by simp at h⟩
 | cs, n :: l, h => by
  unfold Qge at h
  split at h
  . rename_i h1; cases h1
  . rename_i m cs' n' l' h1
    cases h1
    simp only [Bool.and_eq_true, Nat.beq_eq] at h
    obtain ⟨rfl, h2⟩ := h
    obtain ⟨h3, h4⟩ := Q0l h2
    refine ⟨by simp; exact h3, λ i k hk => ?_⟩
    cases i with
    | zero => simp at hk; subst hk; rfl
    | succ i => simp at hk; simpa using h4 i k hk
  . cases h
noncomputable def datB (H : Tr Q7) (d : List (Nat × TypeId × List Nat)) : Bool :=
 d.all λ q => match H.get q.1 with
  | some (.cells cs _ _ _ _) => Qge cs q.2.2
  | _ => false
theorem Q8a {X : Ext} {n0 : Nat} {H : Tr Q7} {w : World} {E : Q7g} (hH : Qp X n0 H w) (hg : X.Ql E.ng) (hng : 0 < E.ng) (hB : Qbr E.T E.t H E.l = true) (hD : datB H E.d = true) (hdn : ∀ q ∈ E.d, q.1 < E.ng) (hin : ∀ e ∈ E.l, e.1 < E.ng /\ E.ng <= e.2 /\ e.2 < E.ng + E.m) : ∃ A N, Laid E A N w := by
 have hsz : E.ng <= w.heap.size := by
  obtain ⟨n, hn⟩ := hg (E.ng - 1) (by omega)
  have := hH.lt _ _ hn
  simp only at this
  omega
 refine ⟨λ b => match X.V b with | some p => ⟨p.blk, p.base, none⟩ | none => ⟨0, 0, none⟩, λ b => match X.V b with | some p => p.n | none => 0, λ e he => ?_, λ b h1 h2 => ?_, hsz, λ q hq => ?_⟩
 . obtain ⟨i1, i2, i3⟩ := hin e he
   obtain ⟨r, ex, pl, ro, hget⟩ := Q6b hB e he
   obtain ⟨n, hn⟩ := hg e.1 i1
   obtain ⟨c, fr, ⟨el', b1, bel⟩, b2, b3, b4, b5, b6, b7⟩ := hH.obj _ _ _ hget hn
   simp only at b1 b2 b3 b5 b6
   obtain ⟨v, c1, c2⟩ := b5 0 _ rfl
   simp only [AV.rel] at c2
   obtain ⟨u, rfl, p, hp, rfl⟩ := c2
   simp only [List.length_cons] at b3
   refine ⟨i1, i2, i3, ?_, ?_, c, fr, el', b1, ?_, ?_⟩
   . simp only [hn]; omega
   . simp only [hp]
   . simp only [hn]; exact b2
   . simp only [hp]; simpa using c1
 . cases hp : X.V b with
   | some p => simp only; exact hH.lt _ _ hp
   | none => simp only; omega
 . have hq1 := hdn q hq
   have hb := List.all_eq_true.1 hD q hq
   split at hb
   . rename_i cs el ex pl ro hget
     obtain ⟨n, hn⟩ := hg q.1 hq1
     obtain ⟨c, fr, ⟨el', b1, bel⟩, b2, b3, b4, b5, b6, b7⟩ := hH.obj _ _ _ hget hn
     simp only at b1 b2 b3 b5 b6
     obtain ⟨l1, l2⟩ := Q0l hb
     refine ⟨hq1, c, fr, el', b1, ?_, by omega, λ i k hk => ?_⟩
     . simp only [hn]; exact b2
     . obtain ⟨v, c1, c2⟩ := b5 i _ (l2 i k hk)
       simp only [AV.rel] at c2
       obtain ⟨-, rfl⟩ := c2
       simp only [Nat.zero_add] at c1
       exact c1
   . cases hb
noncomputable def sumE (E : Q7g) (args : List Sp) (res : Sp) : Sum := λ c H next as =>
 bif Qbr E.T E.t H E.l && datB H E.d then Qid args res c H next as else .fail
noncomputable def Q7g.inB (E : Q7g) : Bool := (E.l.all λ e => Nat.ble (e.1 + 1) E.ng && (Nat.ble E.ng e.2 && Nat.ble (e.2 + 1) (E.ng + E.m))) && E.d.all λ q => Nat.ble (q.1 + 1) E.ng
theorem Qas {P : Program} {G : Env} {n0 : Nat} (hng : 0 < G.T.ng) {f : FuncId} {args : List Sp} {res : Sp} {c : Ctx} {X : Ext} {H : Tr Q7} {next : Nat} {w : World} {as : List AV} {vs : Array Value} {r : SR}
 (h : Sp.Qdz args vs.toList -> Calls P f vs w (λ e w' => ∃ u, e = .returned u /\ res.has u /\ Below w.heap.size w w')) (hr : Qid args res c H next as = .ok r) (hc : c.okN X.dom X.O) (hg : X.Ql G.T.ng) (hH : Qp X n0 H w) (h0 : n0 <= w.heap.size) (hfr : ∀ b, next <= b -> X.V b = none) (hargs : AV.QI X as vs.toList)
 (fr : Frame) (cs : List Frame) : ∃ Y u w', Steps P (lone (Frame.enter P f vs .normal) (fr :: cs) w) (lone (fr.finish u) cs w') /\ X.le Y /\ r.v.rel Y u /\ Qp Y n0 r.H w' /\ Below n0 w w' /\
  (∀ b, X.V b = none -> b < next -> Y.V b = none /\ r.H.get b = H.get b) /\ next <= r.next /\ (∀ b, r.next <= b -> Y.V b = none) /\ r.ctx.okN Y.dom Y.O := by
 unfold Qid at hr
 cases hk : Sp.zV c args as with
 | false => rw [hk] at hr; cases hr
 | true =>
  rw [hk] at hr
  simp only [cond_true] at hr
  split at hr
  . rename_i q hq
    cases hb : Q67 H next q.next 64 with
    | false => rw [hb] at hr; cases hr
    | true =>
     rw [hb] at hr
     cases hr
     have hfree := qL hb
     have hhas := Sp.QT hc hk hargs
     obtain ⟨u, w', ⟨g2, g3⟩, g1⟩ := QU (h hhas) fr cs
     obtain ⟨n, hn⟩ := hg 0 hng
     obtain ⟨Y, hN, hrel⟩ := Sp.Q2k (p := ⟨0, 0, n⟩) hq g2 hfr
     have h0' : (0 : Nat) < w.heap.size := by
      have := hH.lt _ _ hn
      simpa using this
     refine ⟨Y, u, w', g1, hN.le, hrel, ?_, g3.mono h0, λ b hb hlt => ⟨by rw [hN.old b hlt]; exact hb, rfl⟩, hN.nm, hN.free, ?_⟩
     . have hold : ∀ b o p, H.get b = some o -> Y.V b = some p -> X.V b = some p := by
        intro b o p ho hp
        by_cases h1 : b < next
        . rw [<- hN.old b h1]; exact hp
        . by_cases h2 : b < q.next
          . rw [hfree b (by omega) h2] at ho; cases ho
          . rw [hN.free b (by omega)] at hp; cases hp
       refine ⟨λ b o p ho hp => ?_, λ b b' o o' p p' ho ho' hl hl' hp hp' he => hH.inj b b' o o' p p' ho ho' hl hl' (hold b o p ho hp) (hold b' o' p' ho' hp') he, λ b p hp => ?_, λ b o p ho hr hp => hH.own b o p ho hr (hold b o p ho hp)⟩
       . have hp' := hold b o p ho hp
         rw [g3.block _ (hH.lt _ _ hp')]
         exact Zl hN.le (hH.obj b o p ho hp')
       . refine Nat.lt_of_lt_of_le ?_ g3.size
         by_cases h1 : b < next
         . exact hH.lt b p (by rw [<- hN.old b h1]; exact hp)
         . by_cases h2 : b < q.next
           . rw [hN.new b (by omega) h2] at hp
             cases hp
             exact h0'
           . rw [hN.free b (by omega)] at hp; cases hp
     . refine ⟨λ i hi => ?_, λ fa hf => ?_⟩
       . rcases List.mem_append.1 hi with hi | hi
         . exact hN.vs i hi
         . exact hN.le.dom _ (hc.1 i hi)
       . rcases List.mem_append.1 hf with hf | hf
         . exact hN.fs fa hf
         . exact Facts.Q3r hN.le.dom hN.le.O hc.2 fa hf
  . cases hr
theorem Qie {P : Program} {G : Env} {n0 : Nat} {E : Q7g} (hE : E.ng = G.T.ng) (hng : 0 < E.ng) (hin : E.inB = true) {f : FuncId} {args : List Sp} {res : Sp} (h : Qhi P E f args res) : Y0 P G n0 f (sumE E args res) := by
 intro c X H next w as vs r hr hc hg hH h0 hfr hargs fr cs
 unfold sumE at hr
 cases hB : (Qbr E.T E.t H E.l && datB H E.d) with
 | false => rw [hB] at hr; cases hr
 | true =>
  rw [hB] at hr
  simp only [cond_true] at hr
  simp only [Bool.and_eq_true] at hB
  unfold Q7g.inB at hin
  rw [Bool.and_eq_true] at hin
  have hin' : ∀ e ∈ E.l, e.1 < E.ng /\ E.ng <= e.2 /\ e.2 < E.ng + E.m := λ e he => by
   have := List.all_eq_true.1 hin.1 e he
   simp only [Bool.and_eq_true, Nat.ble_eq] at this
   omega
  obtain ⟨A, N, hl⟩ := Q8a hH (by rw [hE]; exact hg) hng hB.1 hB.2 (λ q hq => by have := List.all_eq_true.1 hin.2 q hq; rw [Nat.ble_eq] at this; omega) hin'
  exact Qas (by omega) (h w A N vs hl) hr hc hg hH h0 hfr hargs fr cs
end Go.Ax
namespace Go.Ax
open Go.RowKit
def spTy (P : Program) (u : TypeId) : Option Sp :=
 match P.underlying u with
 | some (.int k) => some (.int k k.min k.max)
 | some .string => some (.str 9223372036854775807)
 | some .bool => some .bool
 | _ => none
theorem Qji {P : Program} {w : World} {r : _root_.Go.Reach} {base : Nat} {u : TypeId} {v : Value} {s : Sp} (h : Cell.okWide P w r base u v) (hs : spTy P u = some s) : s.has v := by
 unfold spTy at hs
 unfold Cell.okWide at h
 split at hs
 . rename_i k hk
   cases hs
   rw [hk] at h
   simp only at h
   unfold Cell.ok at h
   rw [hk] at h
   cases v <;> simp only at h
   rename_i k' n
   obtain ⟨rfl, h1, h2⟩ := h
   simp only [Sp.has]
   exact ⟨n, rfl, h1, h2⟩
 . rename_i hk
   cases hs
   rw [hk] at h
   simp only at h
   unfold Cell.ok at h
   rw [hk] at h
   cases v <;> simp only at h
   rename_i b
   simp only [Sp.has]
   refine ⟨b, rfl, ?_⟩
   have : IntKind.i64.max = 9223372036854775807 := rfl
   omega
 . rename_i hk
   cases hs
   rw [hk] at h
   simp only at h
   unfold Cell.ok at h
   rw [hk] at h
   cases v <;> simp only at h
   rename_i b
   simp only [Sp.has]
   exact ⟨b, rfl⟩
 . cases hs
end Go.Ax
