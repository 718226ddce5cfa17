/-
 THE ABSTRACT EXECUTOR, 39: the same machine, quicker for the kernel: statements and flow of control in one go. Conditions: none.
-/
import Derived.Test.YtmbajnmaeikceaaGreatDoorMAxD
import Derived.RowKit
import Derived.WideShapes
namespace Go.Ax
open Go.RowKit
inductive Box (α : Type) where
 | mk (a : α)
inductive RR where
 | mk (tm : Tr AV) (H : Tr Q6) (nx : Nat) (j : Nat) (rest : List Oper)
abbrev RK := Tr AV -> Tr Q6 -> Nat -> RR
abbrev RC := Ctx -> Tr AV -> Tr Q6 -> Nat -> RK -> RR -> RR
noncomputable def putB (nt : Nat) (dst : Option Nat) : Option (Box (Tr AV -> AV -> Tr AV)) :=
 match dst with
 | none => some (.mk λ tm _ => tm)
 | some d => bif Nat.blt d nt then some (.mk λ tm v => tm.set d v) else none
noncomputable def Qmu (r : LR) : (Tr AV -> AV -> Tr AV) -> Tr AV -> Tr Q6 -> Nat -> RK -> RR :=
 match r with
 | .val v => λ put tm H nx k => k (put tm v) H nx
 | .ptr o => λ put tm H nx k => QC (nx + 1) λ n => k (put tm (.ptr nx 0)) (H.set nx o) n
 | .slc o len cap es ex => λ put tm H nx k => QC (nx + 1) λ n => k (put tm (.slice nx 0 len cap es ex)) (H.set nx o) n
 | .map => λ put tm H nx k => QC (nx + 1) λ n => k (put tm (.map nx)) (H.set nx (.map [] 0)) n
noncomputable def zL (d : D HR) : (Tr AV -> AV -> Tr AV) -> Tr AV -> RK -> RR -> RR :=
 match d with
 | .ok r => λ put tm k _ => HR.rec (motive := λ _ => RR) (λ v H n => k (put tm v) H n) r
 | .ask _ _ _ => λ _ _ _ z => z
 | .fail => λ _ _ _ z => z
noncomputable def yP (d : D LR) : Env -> Oper -> (Tr AV -> AV -> Tr AV) -> Ctx -> Tr AV -> Tr Q6 -> Nat -> RK -> RR -> RR :=
 match d with
 | .ok r => λ _ _ put _ tm H nx k _ => Qmu r put tm H nx k
 | .ask _ _ _ => λ _ _ _ _ _ _ _ _ z => z
 | .fail => λ G o put c tm H nx k z => zL (ZK G c H nx (ev G.T.ng tm) o.op) put tm k z
noncomputable def Qmv (G : Env) (o : Oper) (put : Tr AV -> AV -> Tr AV) : RC := λ c tm H nx k z =>
 yP (light G.T G.I c H (ev G.T.ng tm) o.op) G o put c tm H nx k z
inductive GI where
 | always
 | never
 | slot (d : Nat) (want : Bool)
def guardOf (ops : List Oper) (o : Oper) : GI :=
 match o.guard with
 | none => .always
 | some (j, want) => match opAt ops j with
  | none => .never
  | some g => match g.dst with
   | none => .never
   | some d => .slot d want
noncomputable def Qkt (a : AV) : Bool -> RR -> RR -> RR -> RR :=
 match a with
 | .bool b => λ want y n _ => bif b == want then y else n
 | .top => λ _ _ _ z => z
 | _ => λ _ _ n _ => n
noncomputable def Qfh (v : Option AV) : Bool -> RR -> RR -> RR -> RR :=
 match v with
 | some a => λ want y n z => Qkt a want y n z
 | none => λ _ _ n _ => n
noncomputable def Qek (gi : GI) (put : Tr AV -> AV -> Tr AV) (g : RC) : RC :=
 match gi with
 | .always => g
 | .never => λ _ tm H nx k _ => k (put tm .undef) H nx
 | .slot d want => λ c tm H nx k z => Qfh (tm.get d) want (g c tm H nx k z) (k (put tm .undef) H nx) z
noncomputable def Qel (gi : GI) (put : Tr AV -> AV -> Tr AV) (g : RC) : Box RC :=
 match gi with
 | .always => .mk g
 | .never => .mk λ _ tm H nx k _ => k (put tm .undef) H nx
 | .slot d want => .mk λ c tm H nx k z => Qfh (tm.get d) want (g c tm H nx k z) (k (put tm .undef) H nx) z
theorem Q6f (gi : GI) (put : Tr AV -> AV -> Tr AV) (g : RC) : Qel gi put g = .mk (Qek gi put g) := by cases gi <;> rfl
noncomputable def Qho (spec : Env -> Nat -> Oper -> Option (Box RC)) (G : Env) (nt : Nat) (ops : List Oper) (o : Oper) : Box RC :=
 match putB nt o.dst with
 | none => .mk λ _ _ _ _ _ z => z
 | some (.mk put) => match spec G nt o with
  | some (.mk g) => Qel (guardOf ops o) put g
  | none => Qel (guardOf ops o) put (Qmv G o put)
noncomputable def Qnd (o : Oper) (os : List Oper) (j : Nat) (g : Box RC) (h : Box (Ctx -> RK)) : Box (Ctx -> RK) :=
 match g, h with
 | .mk g, .mk h => .mk λ c tm H nx => g c tm H nx (h c) (.mk tm H nx j (o :: os))
noncomputable def Q4k (spec : Env -> Nat -> Oper -> Option (Box RC)) (G : Env) (nt : Nat) (ops : List Oper) : List Oper -> Nat -> Box (Ctx -> RK)
 | [], j => .mk λ _ tm H nx => .mk tm H nx j []
 | o :: os, j => Qnd o os j (Qho spec G nt ops o) (Q4k spec G nt ops os (j + 1))
inductive Z6 (G : Env) : AM -> AM -> Prop where
 | refl (s : AM) : Z6 G s s
 | step {s s' t : AM} : ZF G s = .next s' -> Z6 G s' t -> Z6 G s t
theorem Z6.trans {G : Env} {s t u : AM} (h : Z6 G s t) (h' : Z6 G t u) : Z6 G s u := by
 induction h with
 | refl => exact h'
 | step e _ ih => exact .step e (ih h')
theorem Z6.one {G : Env} {s t : AM} (h : ZF G s = .next t) : Z6 G s t := .step h (.refl t)
structure Rest where
 fn : Nat
 nt : Nat
 defers : List ADf
 ro : Option Nat
 cs : List Qg
 ctx : Ctx
abbrev mkS (R : Rest) (tm : Tr AV) (cur : zY) (todo : List Qj) (H : Tr Q6) (nx : Nat) : AM :=
 ⟨⟨R.fn, R.nt, tm, cur, todo, R.defers, false, R.ro⟩, R.cs, H, nx, R.ctx⟩
def yj (G : Env) (nt : Nat) (ops : List Oper) (o : Oper) (c : Ctx) (tm : Tr AV) (H : Tr Q6) (nx : Nat) (tm' : Tr AV) (H' : Tr Q6) (nx' : Nat) : Prop :=
 ∀ (R : Rest) (todo : List Qj) (j : Nat) (rest : List Oper), R.nt = nt -> R.ctx = c -> ZF G (mkS R tm (.reg ops j (o :: rest)) todo H nx) = .next (mkS R tm' (.reg ops (j + 1) rest) todo H' nx')
def RCok (G : Env) (nt : Nat) (ops : List Oper) (o : Oper) (g : RC) : Prop :=
 ∀ c tm H nx (k : RK) (z : RR), g c tm H nx k z = z \/ ∃ tm' H' nx', yj G nt ops o c tm H nx tm' H' nx' /\ g c tm H nx k z = k tm' H' nx'
def QE (G : Env) (nt : Nat) (ops : List Oper) (o : Oper) (g : RC) : Prop :=
 ∀ c tm H nx (k : RK) (z : RR), QH ops tm o = true -> g c tm H nx k z = z \/ ∃ tm' H' nx', yj G nt ops o c tm H nx tm' H' nx' /\ g c tm H nx k z = k tm' H' nx'
def Y1 (nt : Nat) (dst : Option Nat) (put : Tr AV -> AV -> Tr AV) : Prop := ∀ tm v, Qcc nt tm dst v = some (put tm v)
theorem je {nt : Nat} {dst : Option Nat} {put : Tr AV -> AV -> Tr AV} (h : putB nt dst = some (.mk put)) : Y1 nt dst put := by
 intro tm v
 unfold putB at h
 cases dst with
 | none => simp only [Option.some.injEq, Box.mk.injEq] at h; subst h; rfl
 | some d =>
  simp only at h
  cases hb : Nat.blt d nt with
  | false => rw [hb] at h; cases h
  | true => rw [hb] at h; simp only [cond_true, Option.some.injEq, Box.mk.injEq] at h; subst h; simp only [Qcc, hb, cond_true]
theorem Jl {G : Env} {R : Rest} {tm : Tr AV} {ops : List Oper} {j : Nat} {o : Oper} {rest : List Oper} {todo : List Qj} {H0 : Tr Q6} {nx0 : Nat} {put : Tr AV -> AV -> Tr AV} (hp : Y1 R.nt o.dst put) (v : AV) (H : Tr Q6) (nx : Nat) :
 advance G (mkS R tm (.reg ops j (o :: rest)) todo H0 nx0) ⟨v, H, nx⟩ = .next (mkS R (put tm v) (.reg ops (j + 1) rest) todo H nx) := by
 simp only [advance, Yo, hp tm v, sNat_eq]
theorem qI {G : Env} {nt : Nat} {ops : List Oper} {o : Oper} {put : Tr AV -> AV -> Tr AV} (hp : Y1 nt o.dst put) {c : Ctx} {tm : Tr AV} (H : Tr Q6) (nx : Nat) (hw : QH ops tm o = false) (hk : jZ ops tm o = true) : yj G nt ops o c tm H nx (put tm .undef) H nx := by
 intro R todo j rest hnt hc
 subst hnt
 simp only [ZF, hw, hk, cond_false, cond_true]
 exact Jl hp _ _ _
theorem Q2f {G : Env} {nt : Nat} {ops : List Oper} {o : Oper} {put : Tr AV -> AV -> Tr AV} (hp : Y1 nt o.dst put) {c : Ctx} {tm : Tr AV} {H : Tr Q6} (nx : Nat) (hw : QH ops tm o = true) {v : AV}
 (h : light G.T G.I c H (ev G.T.ng tm) o.op = .ok (.val v)) : yj G nt ops o c tm H nx (put tm v) H nx := by
 intro R todo j rest hnt hc
 subst hnt
 subst hc
 simp only [ZF, hw, cond_true, h, LR.obj, LR.value]
 exact Jl hp _ _ _
theorem jg {G : Env} {nt : Nat} {ops : List Oper} {o : Oper} {put : Tr AV -> AV -> Tr AV} (hp : Y1 nt o.dst put) {c : Ctx} {tm : Tr AV} {H : Tr Q6} (nx : Nat) (hw : QH ops tm o = true) {r : LR} {ob : Q6}
 (h : light G.T G.I c H (ev G.T.ng tm) o.op = .ok r) (ho : r.obj = some ob) : yj G nt ops o c tm H nx (put tm (r.value nx)) (H.set nx ob) (nx + 1) := by
 intro R todo j rest hnt hc
 subst hnt
 subst hc
 simp only [ZF, hw, cond_true, h, ho, sNat_eq]
 exact Jl hp _ _ _
theorem jR {G : Env} {nt : Nat} {ops : List Oper} {o : Oper} {put : Tr AV -> AV -> Tr AV} (hp : Y1 nt o.dst put) {c : Ctx} {tm : Tr AV} {H : Tr Q6} (nx : Nat) (hw : QH ops tm o = true) {r : HR}
 (h : light G.T G.I c H (ev G.T.ng tm) o.op = .fail) (ho : ZK G c H nx (ev G.T.ng tm) o.op = .ok r) : yj G nt ops o c tm H nx (put tm r.v) r.H r.next := by
 intro R todo j rest hnt hc
 subst hnt
 subst hc
 simp only [ZF, hw, cond_true, h, ho]
 exact Jl hp _ _ _
theorem Qeo {G : Env} {nt : Nat} {ops : List Oper} {o : Oper} {put : Tr AV -> AV -> Tr AV} (hp : Y1 nt o.dst put) : QE G nt ops o (Qmv G o put) := by
 intro c tm H nx k z hw
 unfold Qmv
 cases hl : light G.T G.I c H (ev G.T.ng tm) o.op with
 | ok r =>
  right
  cases r with
  | val v => exact ⟨_, _, _, Q2f hp nx hw hl, rfl⟩
  | ptr ob => exact ⟨_, _, _, jg hp nx hw hl rfl, rfl⟩
  | slc ob len cap es ex => exact ⟨_, _, _, jg hp nx hw hl rfl, rfl⟩
  | map => exact ⟨_, _, _, jg hp nx hw hl rfl, rfl⟩
 | ask op a b => exact .inl rfl
 | fail =>
  cases hh : ZK G c H nx (ev G.T.ng tm) o.op with
  | ok r =>
   right
   refine ⟨_, _, _, jR hp nx hw hl hh, ?_⟩
   simp only [yP, hh, zL]
  | ask op a b => left; simp only [yP, hh, zL]
  | fail => left; simp only [yP, hh, zL]
theorem Q6e {G : Env} {nt : Nat} {ops : List Oper} {o : Oper} {put : Tr AV -> AV -> Tr AV} (hp : Y1 nt o.dst put) {g : RC} (hg : QE G nt ops o g) : RCok G nt ops o (Qek (guardOf ops o) put g) := by
 intro c tm H nx k z
 unfold guardOf
 cases hgd : o.guard with
 | none => exact hg c tm H nx k z (by simp only [QH, hgd])
 | some p =>
  obtain ⟨j, want⟩ := p
  simp only
  cases hj : opAt ops j with
  | none =>
   right
   exact ⟨_, _, _, qI hp H nx (by simp only [QH, hgd, hj]) (by simp only [jZ, hgd, hj]), rfl⟩
  | some q =>
   simp only
   cases hd : q.dst with
   | none =>
    right
    exact ⟨_, _, _, qI hp H nx (by simp only [QH, hgd, hj, hd]) (by simp only [jZ, hgd, hj, hd]), rfl⟩
   | some d =>
    simp only [Qek]
    have hno : QH ops tm o = false -> jZ ops tm o = true -> (k (put tm .undef) H nx = z \/ ∃ tm' H' nx', yj G nt ops o c tm H nx tm' H' nx' /\ k (put tm .undef) H nx = k tm' H' nx') := λ hw hk => .inr ⟨_, _, _, qI hp H nx hw hk, rfl⟩
    cases ht : tm.get d with
    | none => exact hno (by simp only [QH, hgd, hj, hd, ht]) (by simp only [jZ, hgd, hj, hd, ht])
    | some a =>
     simp only [Qfh]
     by_cases hb : ∃ b, a = .bool b
     . obtain ⟨b, rfl⟩ := hb
       simp only [Qkt]
       cases hw : (b == want) with
       | true => exact hg c tm H nx k z (by simp only [QH, hgd, hj, hd, ht, hw])
       | false => exact hno (by simp only [QH, hgd, hj, hd, ht, hw]) (by simp only [jZ, hgd, hj, hd, ht])
     . by_cases htp : a = .top
       . subst htp
         exact .inl rfl
       have e1 : Qkt a want (g c tm H nx k z) (k (put tm .undef) H nx) z = k (put tm .undef) H nx := by
        cases a <;> first | rfl | exact absurd ⟨_, rfl⟩ hb | exact absurd rfl htp
       rw [e1]
       refine hno ?_ ?_
       . simp only [QH, hgd, hj, hd, ht]
         cases a <;> first | rfl | exact absurd ⟨_, rfl⟩ hb
       . simp only [jZ, hgd, hj, hd, ht]
         cases a <;> first | rfl | exact absurd rfl htp
def ZH (G : Env) (spec : Env -> Nat -> Oper -> Option (Box RC)) : Prop := ∀ nt ops o put g, spec G nt o = some (.mk g) -> Y1 nt o.dst put -> QE G nt ops o g
theorem Qhn {spec : Env -> Nat -> Oper -> Option (Box RC)} {G : Env} (hs : ZH G spec) {nt : Nat} {ops : List Oper} {o : Oper} {g : RC} (h : Qho spec G nt ops o = .mk g) : RCok G nt ops o g := by
 unfold Qho at h
 split at h
 . cases h; exact λ c tm H nx k z => .inl rfl
 . rename_i put hp
   split at h
   . rename_i g' hg'
     rw [Q6f] at h
     cases h
     exact Q6e (je hp) (hs nt ops o put g' hg' (je hp))
   . rw [Q6f] at h
     cases h
     exact Q6e (je hp) (Qeo (je hp))
theorem Q4j {spec : Env -> Nat -> Oper -> Option (Box RC)} {G : Env} (hs : ZH G spec) {R : Rest} {ops : List Oper} {todo : List Qj} : ∀ (l : List Oper) (j : Nat) {h : Ctx -> RK}, Q4k spec G R.nt ops l j = .mk h -> ∀ (tm : Tr AV) (H : Tr Q6) (nx : Nat),
 ∃ tm' H' nx' j' rest, h R.ctx tm H nx = .mk tm' H' nx' j' rest /\ Z6 G (mkS R tm (.reg ops j l) todo H nx) (mkS R tm' (.reg ops j' rest) todo H' nx')
 | [], j, h, he, tm, H, nx => by
  simp only [Q4k, Box.mk.injEq] at he
  subst he
  exact ⟨_, _, _, _, _, rfl, .refl _⟩
 | o :: os, j, h, he, tm, H, nx => by
  simp only [Q4k] at he
  cases hg : Qho spec G R.nt ops o with
  | mk g =>
   cases hh : Q4k spec G R.nt ops os (j + 1) with
   | mk h' =>
    rw [hg, hh] at he
    simp only [Qnd, Box.mk.injEq] at he
    subst he
    rcases Qhn hs hg R.ctx tm H nx (h' R.ctx) (.mk tm H nx j (o :: os)) with e | ⟨tm1, H1, nx1, hst, e⟩
    . exact ⟨_, _, _, _, _, e, .refl _⟩
    . obtain ⟨tm', H', nx', j', rest, e', hr⟩ := Q4j hs os (j + 1) hh tm1 H1 nx1
      exact ⟨_, _, _, _, _, e.trans e', .step (hst R todo j os rfl rfl) hr⟩
end Go.Ax
namespace Go.Ax
open Go.RowKit
inductive CR where
 | mk (tm : Tr AV) (cur : zY) (todo : List Qj) (H : Tr Q6) (nx : Nat)
abbrev CK := Tr AV -> List Qj -> Tr Q6 -> Nat -> CR
abbrev Spec := Env -> Nat -> Oper -> Option (Box RC)
noncomputable def Q4x (ops : List Oper) (k : List Qj) (ih : CK) (r : RR) : CR :=
 RR.rec (motive := λ _ => CR) (λ tm H nx j rest => List.rec (motive := λ _ => CR) (ih tm k H nx) (λ o os _ => .mk tm (.reg ops j (o :: os)) k H nx) rest) r
noncomputable def condK (v : AV) : CK -> List Qj -> Code -> Code -> CR -> Tr AV -> Tr Q6 -> Nat -> CR :=
 match v with
 | .bool b => λ ih k thn els _ tm H nx => Bool.rec (motive := λ _ => CR) (ih tm (.code els :: k) H nx) (ih tm (.code thn :: k) H nx) b
 | _ => λ _ _ _ _ z _ _ _ => z
noncomputable def Qne (v : Option AV) : CK -> List Qj -> Code -> Code -> CR -> Tr AV -> Tr Q6 -> Nat -> CR :=
 match v with
 | some v => condK v
 | none => λ _ _ _ _ z _ _ _ => z
noncomputable def Qli (v : Option (List Qj)) : CK -> CR -> Tr AV -> Tr Q6 -> Nat -> CR :=
 match v with
 | some k => λ ih _ tm H nx => ih tm k H nx
 | none => λ _ z _ _ _ => z
noncomputable def regK (draw : Bool) : Spec -> Env -> Nat -> Ctx -> CK -> List Qj -> List Oper -> CR -> Tr AV -> Tr Q6 -> Nat -> CR :=
 match draw with
 | true => λ _ _ _ _ _ _ _ z _ _ _ => z
 | false => λ spec G nt c ih k ops _ tm H nx => Box.rec (motive := λ _ => CR) (λ h => Q4x ops k ih (h c tm H nx)) (Q4k spec G nt ops ops 0)
noncomputable def Qf3 (cd : Code) : Spec -> Env -> Nat -> Ctx -> CK -> List Qj -> Tr AV -> Tr Q6 -> Nat -> CR :=
 match cd with
 | .skip => λ _ _ _ _ ih k tm H nx => ih tm k H nx
 | .label _ => λ _ _ _ _ ih k tm H nx => ih tm k H nx
 | .seq a b => λ _ _ _ _ ih k tm H nx => ih tm (.code a :: .code b :: k) H nx
 | .cond x thn els => λ _ G _ _ ih k tm H nx => Qne (ev G.T.ng tm x) ih k thn els (.mk tm .none (.code (.cond x thn els) :: k) H nx) tm H nx
 | .block id body => λ _ _ _ _ ih k tm H nx => ih tm (.code body :: .inBlock id :: k) H nx
 | .loop body => λ _ _ _ _ ih k tm H nx => ih tm (.code body :: .inLoop body :: k) H nx
 | .scope body => λ _ _ _ _ ih k tm H nx => ih tm (.code body :: .inScope body :: k) H nx
 | .exit id => λ _ _ _ _ ih k tm H nx => Qli (YF id k) ih (.mk tm .none (.code (.exit id) :: k) H nx) tm H nx
 | .goto l => λ _ _ _ _ ih k tm H nx => Qli (YE l k) ih (.mk tm .none (.code (.goto l) :: k) H nx) tm H nx
 | .region id ops draw => λ spec G nt c ih k tm H nx => regK draw spec G nt c ih k ops.toList (.mk tm .none (.code (.region id ops draw) :: k) H nx) tm H nx
 | cd => λ _ _ _ _ _ k tm H nx => .mk tm .none (.code cd :: k) H nx
noncomputable def itemK (it : Qj) : Spec -> Env -> Nat -> Ctx -> CK -> List Qj -> Tr AV -> Tr Q6 -> Nat -> CR :=
 match it with
 | .code c => Qf3 c
 | .inBlock _ => λ _ _ _ _ ih k tm H nx => ih tm k H nx
 | .inScope _ => λ _ _ _ _ ih k tm H nx => ih tm k H nx
 | .inLoop body => λ _ _ _ _ ih k tm H nx => ih tm (.code body :: .inLoop body :: k) H nx
 | it => λ _ _ _ _ _ k tm H nx => .mk tm .none (it :: k) H nx
noncomputable def Qlj (todo : List Qj) : Spec -> Env -> Nat -> Ctx -> CK -> Tr AV -> Tr Q6 -> Nat -> CR :=
 match todo with
 | [] => λ _ _ _ _ _ tm H nx => .mk tm .none [] H nx
 | it :: k => λ spec G nt c ih tm H nx => itemK it spec G nt c ih k tm H nx
noncomputable def ctl (spec : Spec) (G : Env) (nt : Nat) (c : Ctx) (n : Nat) : CK :=
 Nat.rec (motive := λ _ => CK) (λ tm todo H nx => .mk tm .none todo H nx) (λ _ ih tm todo H nx => Qlj todo spec G nt c ih tm H nx) n
def Qnv (G : Env) (R : Rest) (f : CK) : Prop := ∀ tm todo H nx, ∃ tm' cur' todo' H' nx', f tm todo H nx = .mk tm' cur' todo' H' nx' /\ Z6 G (mkS R tm .none todo H nx) (mkS R tm' cur' todo' H' nx')
def Goes (G : Env) (R : Rest) (s : AM) (r : CR) : Prop := ∃ tm' cur' todo' H' nx', r = .mk tm' cur' todo' H' nx' /\ Z6 G s (mkS R tm' cur' todo' H' nx')
theorem Goes.ih {G : Env} {R : Rest} {f : CK} (h : Qnv G R f) {s : AM} {tm : Tr AV} {todo : List Qj} {H : Tr Q6} {nx : Nat} (hs : ZF G s = .next (mkS R tm .none todo H nx)) : Goes G R s (f tm todo H nx) := by
 obtain ⟨a, b, c, d, e, h1, h2⟩ := h tm todo H nx
 exact ⟨a, b, c, d, e, h1, .step hs h2⟩
theorem Goes.stay {G : Env} {R : Rest} (tm : Tr AV) (cur : zY) (todo : List Qj) (H : Tr Q6) (nx : Nat) : Goes G R (mkS R tm cur todo H nx) (.mk tm cur todo H nx) := ⟨_, _, _, _, _, rfl, .refl _⟩
theorem Q1k {G : Env} {R : Rest} {ih : CK} (hi : Qnv G R ih) {ops : List Oper} {k : List Qj} {s : AM} {tm : Tr AV} {H : Tr Q6} {nx j : Nat} {rest : List Oper} (hr : Z6 G s (mkS R tm (.reg ops j rest) k H nx)) : Goes G R s (Q4x ops k ih (.mk tm H nx j rest)) := by
 cases rest with
 | nil =>
  obtain ⟨a, b, c, d, e, h1, h2⟩ := hi tm k H nx
  refine ⟨a, b, c, d, e, h1, hr.trans (.step ?_ h2)⟩
  rfl
 | cons o os => exact ⟨_, _, _, _, _, rfl, hr⟩
theorem Qhm {G : Env} {R : Rest} {ih : CK} (hi : Qnv G R ih) {x : Operand} {thn els : Code} {k : List Qj} {tm : Tr AV} {H : Tr Q6} {nx : Nat} :
 Goes G R (mkS R tm .none (.code (.cond x thn els) :: k) H nx) (Qne (ev G.T.ng tm x) ih k thn els (.mk tm .none (.code (.cond x thn els) :: k) H nx) tm H nx) := by
 cases hv : ev G.T.ng tm x with
 | none => exact Goes.stay _ _ _ _ _
 | some v =>
  cases v
  case bool b => cases b <;> exact Goes.ih hi (by simp only [ZF, hv])
  all_goals exact Goes.stay _ _ _ _ _
theorem Qhp {spec : Spec} {G : Env} (hs : ZH G spec) {R : Rest} {ih : CK} (hi : Qnv G R ih) (cd : Code) (k : List Qj) (tm : Tr AV) (H : Tr Q6) (nx : Nat) :
 Goes G R (mkS R tm .none (.code cd :: k) H nx) (Qf3 cd spec G R.nt R.ctx ih k tm H nx) := by
 cases cd with
 | skip => exact Goes.ih hi rfl
 | label l => exact Goes.ih hi rfl
 | seq a b => exact Goes.ih hi rfl
 | cond x thn els => exact Qhm hi
 | block id body => exact Goes.ih hi rfl
 | loop body => exact Goes.ih hi rfl
 | scope body => exact Goes.ih hi rfl
 | exit id =>
  simp only [Qf3]
  cases he : YF id k with
  | none => exact Goes.stay _ _ _ _ _
  | some k' => exact Goes.ih hi (by simp only [ZF, he])
 | goto l =>
  simp only [Qf3]
  cases he : YE l k with
  | none => exact Goes.stay _ _ _ _ _
  | some k' => exact Goes.ih hi (by simp only [ZF, he])
 | region id ops draw =>
  cases draw with
  | true => exact Goes.stay _ _ _ _ _
  | false =>
   simp only [Qf3, regK]
   cases hc : Q4k spec G R.nt ops.toList ops.toList 0 with
   | mk h =>
    obtain ⟨tm', H', nx', j', rest, e, hr⟩ := Q4j hs (todo := k) ops.toList 0 hc tm H nx
    simp only [e]
    exact Q1k hi (.step rfl hr)
 | _ => exact Goes.stay _ _ _ _ _
theorem Qip {spec : Spec} {G : Env} (hs : ZH G spec) {R : Rest} : ∀ n, Qnv G R (ctl spec G R.nt R.ctx n)
 | 0, tm, todo, H, nx => Goes.stay _ _ _ _ _
 | n + 1, tm, todo, H, nx => by
  have hi := Qip hs n (R := R)
  have e : ctl spec G R.nt R.ctx (n + 1) tm todo H nx = Qlj todo spec G R.nt R.ctx (ctl spec G R.nt R.ctx n) tm H nx := rfl
  rw [e]
  cases todo with
  | nil => exact Goes.stay _ _ _ _ _
  | cons it k =>
   cases it with
   | code c => exact Qhp hs hi c k tm H nx
   | inBlock id => exact Goes.ih hi rfl
   | inScope b => exact Goes.ih hi rfl
   | inLoop b => exact Goes.ih hi rfl
   | _ => exact Goes.stay _ _ _ _ _
noncomputable def ofCR (r : CR) : Nat -> Nat -> List ADf -> Option Nat -> List Qg -> Ctx -> AM :=
 CR.rec (motive := λ _ => Nat -> Nat -> List ADf -> Option Nat -> List Qg -> Ctx -> AM) (λ tm cur todo H nx fn nt defers ro cs c => ⟨⟨fn, nt, tm, cur, todo, defers, false, ro⟩, cs, H, nx, c⟩) r
noncomputable def Qkg (cur : zY) : Spec -> Env -> Nat -> Ctx -> CK -> List Qj -> Tr AV -> Tr Q6 -> Nat -> CR :=
 match cur with
 | .none => λ _ _ _ _ ih k tm H nx => ih tm k H nx
 | .reg ops j rest => λ spec G nt c ih k tm H nx => Box.rec (motive := λ _ => CR) (λ h => Q4x ops k ih (h c tm H nx)) (Q4k spec G nt ops rest j)
 | cur => λ _ _ _ _ _ k tm H nx => .mk tm cur k H nx
noncomputable def fast (spec : Spec) (G : Env) (n : Nat) (s : AM) : AM :=
 AM.rec (motive := λ _ => AM) (λ fr cs H nx c => Qg.rec (motive := λ _ => AM) (λ fn nt tm cur todo defers ret ro =>
  Bool.rec (motive := λ _ => AM) (ofCR (Qkg cur spec G nt c (ctl spec G nt c n) todo tm H nx) fn nt defers ro cs c) ⟨⟨fn, nt, tm, cur, todo, defers, true, ro⟩, cs, H, nx, c⟩ ret) fr) s
theorem fast_ok {spec : Spec} {G : Env} (hs : ZH G spec) (n : Nat) (s : AM) : Z6 G s (fast spec G n s) := by
 obtain ⟨⟨fn, nt, tm, cur, todo, defers, ret, ro⟩, cs, H, nx, c⟩ := s
 cases ret with
 | true => exact .refl _
 | false =>
  have hi := Qip hs n (R := ⟨fn, nt, defers, ro, cs, c⟩)
  have key : ∀ {r}, Goes G ⟨fn, nt, defers, ro, cs, c⟩ ⟨⟨fn, nt, tm, cur, todo, defers, false, ro⟩, cs, H, nx, c⟩ r -> Z6 G ⟨⟨fn, nt, tm, cur, todo, defers, false, ro⟩, cs, H, nx, c⟩ (ofCR r fn nt defers ro cs c) := by
   rintro r ⟨a, b, c', d, e, rfl, h⟩
   exact h
  refine key ?_
  cases cur with
  | none => exact hi tm todo H nx
  | reg ops j rest =>
   simp only
   cases hc : Q4k spec G nt ops rest j with
   | mk h =>
    obtain ⟨tm', H', nx', j', rest', e, hr⟩ := Q4j hs (R := ⟨fn, nt, defers, ro, cs, c⟩) (todo := todo) rest j hc tm H nx
    simp only [e]
    exact Q1k hi hr
  | draw ops done rest pa => exact Goes.stay _ _ _ _ _
noncomputable def leaf (spec : Spec) (G : Env) (n : Nat) (s : AM) : YH :=
 match ZF G s with
 | .next s' => AM.rec (motive := λ _ => YH) (λ a b c d e => .go ⟨a, b, c, d, e⟩) (fast spec G n s')
 | _ => .stop s
noncomputable def Qfw (spec : Spec) (G : Env) (n : Nat) (k : Nat) : AM -> YH :=
 Nat.rec (motive := λ _ => AM -> YH) (λ s => leaf spec G n s)
  (λ _ ih s => YH.rec (motive := λ _ => YH) (λ s => ih s) (λ s => .stop s) (ih s)) k
theorem Q05 {spec : Spec} {G : Env} (hs : ZH G spec) (n : Nat) : ∀ (k : Nat) (s : AM), Z6 G s (Qfw spec G n k s).state
 | 0, s => by
  have e : Qfw spec G n 0 s = leaf spec G n s := rfl
  rw [e]
  unfold leaf
  split
  . rename_i s' h
    have : (AM.rec (motive := λ _ => YH) (λ a b c d e => .go ⟨a, b, c, d, e⟩) (fast spec G n s') : YH) = .go (fast spec G n s') := by cases fast spec G n s'; rfl
    rw [this]
    exact .step h (fast_ok hs n s')
  . exact .refl s
 | k + 1, s => by
  have e : Qfw spec G n (k + 1) s = YH.rec (motive := λ _ => YH) (λ s => Qfw spec G n k s) (λ s => .stop s) (Qfw spec G n k s) := rfl
  rw [e]
  have h1 := Q05 hs n k s
  cases hr : Qfw spec G n k s with
  | go s1 => rw [hr] at h1; exact h1.trans (Q05 hs n k s1)
  | stop s1 => rw [hr] at h1; exact h1
end Go.Ax
namespace Go.Ax
open Go.RowKit
noncomputable def Qjq {β α : Type} (l : List α) : Nat -> (α -> β) -> β -> β :=
 List.rec (motive := λ _ => Nat -> (α -> β) -> β -> β) (λ _ _ z => z) (λ a _ ih i k z => Nat.rec (motive := λ _ => β) (k a) (λ j _ => ih j k z) i) l
theorem Q0g {β α : Type} : ∀ (l : List α) (i : Nat) (k : α -> β) (z : β), Qjq l i k z = match l[i]? with | some a => k a | none => z
 | [], i, k, z => rfl
 | a :: l, 0, k, z => rfl
 | a :: l, i + 1, k, z => by
  have : Qjq (a :: l) (i + 1) k z = Qjq l i k z := rfl
  rw [this, Q0g l i k z]; simp
noncomputable def Qlx {α : Type} (l : List α) : Nat -> α -> List α :=
 List.rec (motive := λ _ => Nat -> α -> List α) (λ _ _ => []) (λ a l ih i v => Nat.rec (motive := λ _ => List α) (v :: l) (λ j _ => a :: ih j v) i) l
theorem Qdb {α : Type} : ∀ (l : List α) (i : Nat) (v : α), Qlx l i v = l.set i v
 | [], i, v => rfl
 | a :: l, 0, v => rfl
 | a :: l, i + 1, v => by
  have : Qlx (a :: l) (i + 1) v = a :: Qlx l i v := rfl
  rw [this, Qdb l i v]; rfl
noncomputable def lenR {α : Type} (l : List α) : Nat := List.rec (motive := λ _ => Nat) 0 (λ _ _ ih => Nat.succ ih) l
theorem Qe5 {α : Type} : ∀ l : List α, lenR l = l.length
 | [] => rfl
 | _ :: l => congrArg Nat.succ (Qe5 l)
abbrev LC := Ctx -> Tr Q6 -> (Operand -> Option AV) -> D LR
noncomputable def Qa8 (G : Env) (op : Op) : Box LC :=
 match op with
 | .move x => .mk λ _ _ f => ZU (f x)
 | .assign x => .mk λ _ _ f => ZU (f x)
 | .pick q a b => .mk λ _ _ f => (D.of (f q)).bind λ q => match q with
  | .bool true => ZU (f a)
  | .bool false => ZU (f b)
  | _ => .fail
 | .alloc t => .mk λ _ _ _ => D.of (Qb3 G.T t)
 | .box t x => .mk λ _ _ f => (D.of (f x)).bind λ x => .ok (.ptr (.cells x.cellsOf t true true false))
 | .build t ps => .mk λ _ _ f => (D.of (Qio f ps.toList)).bind λ ps => ZU (Qb0 G.T t ps)
 | .buildSlice t n ps => .mk λ _ _ f => (D.of (Qio f ps.toList)).bind λ ps => D.of (Jm G.T t n ps)
 | .load t x => .mk λ _ H f => (D.of (f x)).bind λ x => ZU (Q9a G.T H t x)
 | .nilCheck x => .mk λ _ _ f => (D.of (f x)).bind λ x => ZU (Qld x)
 | .binOp op t x y _ => .mk λ c H f => (D.of (f x)).bind λ a => (D.of (f y)).bind λ b => mapD (Qb2 G.T c H (isK x || isK y) op t a b)
 | .unOp op _ x => .mk λ _ _ f => (D.of (f x)).bind λ x => ZU (aun op x)
 | .convert src dst x => .mk λ c H f => (D.of (f x)).bind λ x => match Q7m G.T src dst x with
  | some r => .ok r
  | none => ZU (Qfs G.T c H src dst x)
 | .makeInterface t x => .mk λ _ _ f => (D.of (f x)).bind λ x => ZU (qd G.T t x)
 | .makeSlice t l k => .mk λ _ _ f => (D.of (f l)).bind λ l => (D.of (f k)).bind λ k => D.of (qc G.T t l k)
 | .slice t x lo hi mx => .mk λ c H f => (D.of (f x)).bind λ x => (D.of (evO f lo)).bind λ lo => (D.of (evO f hi)).bind λ hi => (D.of (evO f mx)).bind λ mx => ZU (orS (aslice G.T H t x lo hi mx) (Q4p G.T c t x lo hi mx))
 | .fieldAddr t x k => .mk λ _ _ f => (D.of (f x)).bind λ x => ZU (Ye G.T t x k)
 | .field t x k => .mk λ _ _ f => (D.of (f x)).bind λ x => ZU (Qaw G.T t x k)
 | .indexAddr t x ix => .mk λ c _ f => (D.of (f x)).bind λ x => (D.of (f ix)).bind λ ix => (Qiq c ix).bind λ ix => ZU (Yd G.T t x ix)
 | .index t x ix => .mk λ c _ f => (D.of (f x)).bind λ x => (D.of (f ix)).bind λ ix => match Q1i G.T c t x ix with
  | some v => .ok (.val v)
  | none => (Qiq c ix).bind λ ix => ZU (Q7g G.T t x ix)
 | .lookup t x ix ok => .mk λ c H f => (D.of (f x)).bind λ x => (D.of (f ix)).bind λ ix => mapD (Qi4 G.T c H t x ix ok)
 | .typeAssert x _ a ok => .mk λ _ _ f => (D.of (f x)).bind λ x => ZU (Q52 G.T G.I x a ok)
 | .extract x k => .mk λ _ _ f => (D.of (f x)).bind λ x => ZU (zT x k)
 | .store _ _ _ => .mk λ _ _ _ => .fail
 | op => .mk λ c H f => light G.T G.I c H f op
theorem Qe4 {G : Env} {op : Op} {g : LC} (h : Qa8 G op = .mk g) (c : Ctx) (H : Tr Q6) (f : Operand -> Option AV) : g c H f = light G.T G.I c H f op := by
 unfold Qa8 at h
 split at h <;> (simp only [Box.mk.injEq] at h; subst h; rfl)
noncomputable def Qaa (op : Op) : Box (Env -> Ctx -> Tr Q6 -> Nat -> (Operand -> Option AV) -> D HR) :=
 match op with
 | .store t a x => .mk λ G _ H nx f => match f a, f x with
  | some a, some x => D.of (Q79 G.T H nx t a x)
  | _, _ => .fail
 | op => .mk λ G c H nx f => ZK G c H nx f op
theorem Qej {G : Env} {op : Op} {g : Env -> Ctx -> Tr Q6 -> Nat -> (Operand -> Option AV) -> D HR} (h : Qaa op = .mk g) (c : Ctx) (H : Tr Q6) (nx : Nat) (f : Operand -> Option AV) : g G c H nx f = ZK G c H nx f op := by
 unfold Qaa at h
 split at h <;> (simp only [Box.mk.injEq] at h; subst h; rfl)
noncomputable def Qin (d : D LR) : (Tr AV -> AV -> Tr AV) -> Tr AV -> Tr Q6 -> Nat -> RK -> RR -> D HR -> RR :=
 match d with
 | .ok r => λ put tm H nx k _ _ => Qmu r put tm H nx k
 | .ask _ _ _ => λ _ _ _ _ _ z _ => z
 | .fail => λ put tm _ _ k z d => zL d put tm k z
noncomputable def genB (G : Env) (o : Oper) (put : Tr AV -> AV -> Tr AV) : Box RC :=
 match Qa8 G o.op, Qaa o.op with
 | .mk l, .mk h => .mk λ c tm H nx k z => Qin (l c H (ev G.T.ng tm)) put tm H nx k z (h G c H nx (ev G.T.ng tm))
theorem Qkb {G : Env} {nt : Nat} {ops : List Oper} {o : Oper} {put : Tr AV -> AV -> Tr AV} (hp : Y1 nt o.dst put) {g : RC} (h : genB G o put = .mk g) : QE G nt ops o g := by
 unfold genB at h
 cases hl : Qa8 G o.op with
 | mk l =>
  cases hh : Qaa o.op with
  | mk hv =>
   rw [hl, hh] at h
   simp only [Box.mk.injEq] at h
   subst h
   intro c tm H nx k z hw
   have e1 := Qe4 hl c H (ev G.T.ng tm)
   have e2 := Qej (G := G) hh c H nx (ev G.T.ng tm)
   have := Qeo (G := G) hp c tm H nx k z hw (ops := ops)
   have e : Qmv G o put c tm H nx k z = Qin (l c H (ev G.T.ng tm)) put tm H nx k z (hv G c H nx (ev G.T.ng tm)) := by
    rw [e1, e2]
    unfold Qmv
    cases light G.T G.I c H (ev G.T.ng tm) o.op <;> rfl
   rw [e] at this
   exact this
abbrev RD := Tr AV -> (AV -> RR) -> RR
noncomputable def rdB (ng : Nat) (x : Operand) : Option (Box RD) :=
 match x with
 | .tmp t => some (.mk λ tm k => Option.rec (motive := λ _ => RR) (k .undef) k (tm.get t))
 | .const v => match ofV 6 v with
  | some a => some (.mk λ _ k => k a)
  | none => none
 | .global g => bif Nat.blt g ng then some (.mk λ _ k => k (.ptr g 0)) else none
 | .func f => some (.mk λ _ k => k (.func f [] []))
theorem Zt {ng : Nat} {x : Operand} {r : RD} (h : rdB ng x = some (.mk r)) (tm : Tr AV) : ∃ a, ev ng tm x = some a /\ ∀ k, r tm k = k a := by
 unfold rdB at h
 cases x with
 | tmp t =>
  simp only [Option.some.injEq, Box.mk.injEq] at h
  subst h
  refine ⟨_, rfl, λ k => ?_⟩
  simp only
  cases tm.get t <;> rfl
 | const v =>
  simp only at h
  cases hv : ofV 6 v with
  | none => rw [hv] at h; cases h
  | some a =>
   rw [hv] at h
   simp only [Option.some.injEq, Box.mk.injEq] at h
   subst h
   exact ⟨a, by simp only [ev, hv], λ k => rfl⟩
 | global g =>
  simp only at h
  cases hb : Nat.blt g ng with
  | false => rw [hb] at h; cases h
  | true =>
   rw [hb] at h
   simp only [cond_true, Option.some.injEq, Box.mk.injEq] at h
   subst h
   exact ⟨_, by simp only [ev, hb, cond_true], λ k => rfl⟩
 | func f =>
  simp only [Option.some.injEq, Box.mk.injEq] at h
  subst h
  exact ⟨_, rfl, λ k => rfl⟩
noncomputable def Ql5 (a : AV) : (Nat -> Nat -> RR) -> RR -> RR :=
 match a with
 | .ptr b o => λ f _ => f b o
 | _ => λ _ z => z
noncomputable def natE (e : E) : (Nat -> RR) -> RR -> RR :=
 match e with
 | .lit n => λ f z => Int.rec (motive := λ _ => RR) (λ m => f m) (λ _ => z) n
 | _ => λ _ z => z
noncomputable def Qk4 (a : AV) : (IntKind -> Nat -> RR) -> RR -> RR :=
 match a with
 | .int k e => λ f z => natE e (f k) z
 | _ => λ _ z => z
theorem Q3u (a : AV) (f : Nat -> Nat -> RR) (z : RR) : Ql5 a f z = z \/ ∃ b o, a = .ptr b o /\ Ql5 a f z = f b o := by
 cases a
 case ptr b o => exact .inr ⟨b, o, rfl, rfl⟩
 all_goals exact .inl rfl
theorem Q0u (a : AV) (f : IntKind -> Nat -> RR) (z : RR) : Qk4 a f z = z \/ ∃ k m, a = .int k (.lit (.ofNat m)) /\ Qk4 a f z = f k m := by
 cases a
 case int k e =>
  cases e
  case lit n =>
   cases n with
   | ofNat m => exact .inr ⟨k, m, rfl, rfl⟩
   | negSucc m => exact .inl rfl
  all_goals exact .inl rfl
 all_goals exact .inl rfl
noncomputable def Qnk (o : Q6) : (List AV -> TypeId -> Bool -> Bool -> Bool -> RR) -> RR -> RR :=
 match o with
 | .cells cs el ex pl ro => λ f _ => f cs el ex pl ro
 | _ => λ _ z => z
noncomputable def Qar (o : Option Q6) : (List AV -> TypeId -> Bool -> Bool -> Bool -> RR) -> RR -> RR :=
 match o with
 | some o => Qnk o
 | none => λ _ z => z
theorem Q6z (o : Option Q6) (f : List AV -> TypeId -> Bool -> Bool -> Bool -> RR) (z : RR) : Qar o f z = z \/ ∃ cs el ex pl ro, o = some (.cells cs el ex pl ro) /\ Qar o f z = f cs el ex pl ro := by
 cases o with
 | none => exact .inl rfl
 | some o =>
  cases o
  case cells cs el ex pl ro => exact .inr ⟨cs, el, ex, pl, ro, rfl, rfl⟩
  all_goals exact .inl rfl
noncomputable def qD (k : IntKind) : Nat :=
 IntKind.rec (motive := λ _ => Nat) 127 32767 2147483647 9223372036854775807 255 65535 4294967295 18446744073709551615 k
theorem qC {k : IntKind} {n : Nat} (h : Nat.ble n (qD k) = true) : Zg k (.ofNat n) = true := by
 cases k <;> first
  | exact h
  | (simp only [qD, Nat.ble_eq, Zg, Nat.ble_eq] at h ⊢; omega)
theorem Yq {k : IntKind} {n : Nat} (h : Nat.ble n (qD k) = true) : ZY k (.ofNat n) = .ofNat n := by
 unfold ZY; rw [qC h]; rfl
end Go.Ax
namespace Go.Ax
open Go.RowKit
noncomputable def moveB (ng : Nat) (x : Operand) (put : Tr AV -> AV -> Tr AV) (gen : RC) : Box RC :=
 match rdB ng x with
 | some (.mk r) => .mk λ _ tm H nx k _ => r tm λ a => k (put tm a) H nx
 | none => .mk gen
noncomputable def Qjx (G : Env) (t : TypeId) (x : Operand) (put : Tr AV -> AV -> Tr AV) (gen : RC) : Box RC :=
 match rdB G.T.ng x, G.T.ty t with
 | some (.mk r), some ti => bif Q0t ti.desc then .mk gen else
  .mk λ c tm H nx k z => (λ zz => r tm λ a => Ql5 a (λ b o => Qar (H.get b) (λ cs _ _ _ _ => Qjq cs o (λ v => k (put tm v) H nx) zz) zz) zz) (gen c tm H nx k z)
 | _, _ => .mk gen
noncomputable def cellV (v : AV) : RR -> RR -> RR :=
 match v with
 | .agg _ => λ _ z => z
 | .tuple _ => λ _ z => z
 | .top => λ _ z => z
 | _ => λ y _ => y
noncomputable def Qcz (G : Env) (t : TypeId) (a x : Operand) (put : Tr AV -> AV -> Tr AV) (gen : RC) : Box RC :=
 match rdB G.T.ng a, rdB G.T.ng x, G.T.ty t with
 | some (.mk r), some (.mk q), some ti => bif Nat.beq ti.size 1 then
  .mk λ c tm H nx k z => (λ zz => r tm λ a => q tm λ v => Ql5 a (λ b o => Qar (H.get b) (λ cs el ex pl ro => Bool.rec (motive := λ _ => RR)
   (cellV v (Qjq cs o (λ _ => k (put tm .undef) (H.set b (.cells (Qlx cs o v) el ex pl false)) nx) zz) zz) zz ro) zz) zz) (gen c tm H nx k z)
  else .mk gen
 | _, _, _ => .mk gen
noncomputable def Qju (op : BinOp) : Option (Box (IntKind -> Nat -> Nat -> (AV -> RR) -> RR -> RR)) :=
 match op with
 | .add => some (.mk λ k m n f z => QC (Nat.add m n) λ r => Bool.rec (motive := λ _ => RR) z (f (.int k (.lit (.ofNat r)))) (Nat.ble r (qD k)))
 | .sub => some (.mk λ k m n f z => Bool.rec (motive := λ _ => RR) z (QC (Nat.sub m n) λ r => Bool.rec (motive := λ _ => RR) z (f (.int k (.lit (.ofNat r)))) (Nat.ble r (qD k))) (Nat.ble n m))
 | .mul => some (.mk λ k m n f z => QC (Nat.mul m n) λ r => Bool.rec (motive := λ _ => RR) z (f (.int k (.lit (.ofNat r)))) (Nat.ble r (qD k)))
 | .quo => some (.mk λ k m n f z => Bool.rec (motive := λ _ => RR) (QC (Nat.div m n) λ r => Bool.rec (motive := λ _ => RR) z (f (.int k (.lit (.ofNat r)))) (Nat.ble r (qD k))) z (Nat.beq n 0))
 | .rem => some (.mk λ k m n f z => Bool.rec (motive := λ _ => RR) (QC (Nat.mod m n) λ r => f (.int k (.lit (.ofNat r)))) z (Nat.beq n 0))
 | .and => some (.mk λ k m n f z => Bool.rec (motive := λ _ => RR) z (Bool.rec (motive := λ _ => RR) z (QC (Nat.land m n) λ r => Bool.rec (motive := λ _ => RR) z (f (.int k (.lit (.ofNat r)))) (Nat.ble r (qD k))) (Nat.ble n (qD k))) (Nat.ble m (qD k)))
 | .or => some (.mk λ k m n f z => Bool.rec (motive := λ _ => RR) z (Bool.rec (motive := λ _ => RR) z (QC (Nat.lor m n) λ r => Bool.rec (motive := λ _ => RR) z (f (.int k (.lit (.ofNat r)))) (Nat.ble r (qD k))) (Nat.ble n (qD k))) (Nat.ble m (qD k)))
 | .xor => some (.mk λ k m n f z => Bool.rec (motive := λ _ => RR) z (Bool.rec (motive := λ _ => RR) z (QC (Nat.xor m n) λ r => Bool.rec (motive := λ _ => RR) z (f (.int k (.lit (.ofNat r)))) (Nat.ble r (qD k))) (Nat.ble n (qD k))) (Nat.ble m (qD k)))
 | .eql => some (.mk λ _ m n f _ => f (.bool (Nat.beq m n)))
 | .neq => some (.mk λ _ m n f _ => f (.bool (not (Nat.beq m n))))
 | .lss => some (.mk λ _ m n f _ => f (.bool (Nat.blt m n)))
 | .leq => some (.mk λ _ m n f _ => f (.bool (not (Nat.blt n m))))
 | .gtr => some (.mk λ _ m n f _ => f (.bool (Nat.blt n m)))
 | .geq => some (.mk λ _ m n f _ => f (.bool (not (Nat.blt m n))))
 | _ => none
noncomputable def binB (ng : Nat) (op : BinOp) (x y : Operand) (put : Tr AV -> AV -> Tr AV) (gen : RC) : Box RC :=
 match rdB ng x, rdB ng y, Qju op with
 | some (.mk r), some (.mk q), some (.mk g) =>
  .mk λ c tm H nx k z => (λ zz => r tm λ a => q tm λ b => Qk4 a (λ ka m => Qk4 b (λ kb n => Bool.rec (motive := λ _ => RR) zz (g ka m n (λ v => k (put tm v) H nx) zz) (Nat.beq (kN ka) (kN kb))) zz) zz) (gen c tm H nx k z)
 | _, _, _ => .mk gen
noncomputable def Qfg (a : AV) : RR -> RR -> RR -> RR :=
 match a with
 | .bool b => λ y n _ => Bool.rec (motive := λ _ => RR) n y b
 | _ => λ _ _ z => z
noncomputable def Qjn (ng : Nat) (q x y : Operand) (put : Tr AV -> AV -> Tr AV) (gen : RC) : Box RC :=
 match rdB ng q, rdB ng x, rdB ng y with
 | some (.mk p), some (.mk r), some (.mk s) =>
  .mk λ c tm H nx k z => p tm λ b => Qfg b (r tm λ a => k (put tm a) H nx) (s tm λ a => k (put tm a) H nx) (gen c tm H nx k z)
 | _, _, _ => .mk gen
noncomputable def notB (ng : Nat) (x : Operand) (put : Tr AV -> AV -> Tr AV) (gen : RC) : Box RC :=
 match rdB ng x with
 | some (.mk r) => .mk λ c tm H nx k z => r tm λ a => Qfg a (k (put tm (.bool false)) H nx) (k (put tm (.bool true)) H nx) (gen c tm H nx k z)
 | none => .mk gen
noncomputable def Q47 (T : Tab) (s : TypeId) (f : Nat) : Option Nat :=
 match T.ty s with
 | some ti =>
  match ti.desc with
  | .struct fs =>
   match fs[f]? with
   | some fd =>
    match T.ty fd.type with
    | some fi => bif Nat.beq fi.size 0 then none else some fd.offset
    | none => none
   | none => none
  | _ => none
 | none => none
theorem Q8w {T : Tab} {s : TypeId} {f n : Nat} (h : Q47 T s f = some n) (b o : Nat) : Ye T s (.ptr b o) f = some (.ptr b (o + n)) := by
 unfold Q47 at h
 unfold Ye
 split at h
 . rename_i ti hti
   simp only [hti]
   split at h
   . rename_i fs hd
     simp only [hd]
     split at h
     . rename_i fd hf
       simp only [hf]
       split at h
       . rename_i fi hfi
         simp only [hfi]
         cases hz : Nat.beq fi.size 0 with
         | true => rw [hz] at h; cases h
         | false => rw [hz] at h; simp only [cond_false, Option.some.injEq] at h; subst h; rfl
       . cases h
     . cases h
   . cases h
 . cases h
noncomputable def jy (G : Env) (t : TypeId) (x : Operand) (f : Nat) (put : Tr AV -> AV -> Tr AV) (gen : RC) : Box RC :=
 match rdB G.T.ng x, Q47 G.T t f with
 | some (.mk r), some n => QC n λ n => .mk λ c tm H nx k z => r tm λ a => Ql5 a (λ b o => QC (Nat.add o n) λ o' => k (put tm (.ptr b o')) H nx) (gen c tm H nx k z)
 | _, _ => .mk gen
noncomputable def nilB (ng : Nat) (x : Operand) (put : Tr AV -> AV -> Tr AV) (gen : RC) : Box RC :=
 match rdB ng x with
 | some (.mk r) => .mk λ c tm H nx k z => r tm λ a => Ql5 a (λ _ _ => k (put tm a) H nx) (gen c tm H nx k z)
 | none => .mk gen
noncomputable def tupK (a : AV) : (List AV -> RR) -> RR -> RR :=
 match a with
 | .tuple vs => λ f _ => f vs
 | _ => λ _ z => z
noncomputable def Q4a (ng : Nat) (x : Operand) (i : Nat) (put : Tr AV -> AV -> Tr AV) (gen : RC) : Box RC :=
 match rdB ng x with
 | some (.mk r) => .mk λ c tm H nx k z => (λ zz => r tm λ a => tupK a (λ vs => Qjq vs i (λ v => k (put tm v) H nx) zz) zz) (gen c tm H nx k z)
 | none => .mk gen
def intD (d : TypeDesc) : Option IntKind :=
 match d with
 | .int k => some k
 | _ => none
noncomputable def Qkn (G : Env) (s t : TypeId) (x : Operand) (put : Tr AV -> AV -> Tr AV) (gen : RC) : Box RC :=
 match rdB G.T.ng x, G.T.ty s, G.T.ty t with
 | some (.mk r), some _, some di => match intD di.desc with
  | some kd => QC (qD kd) λ top => .mk λ c tm H nx k z => (λ zz => r tm λ a => Qk4 a (λ _ m => Bool.rec (motive := λ _ => RR) zz (k (put tm (.int kd (.lit (.ofNat m)))) H nx) (Nat.ble m top)) zz) (gen c tm H nx k z)
  | none => .mk gen
 | _, _, _ => .mk gen
def Q2p (d : TypeDesc) : Bool :=
 match d with
 | .string => true
 | _ => false
def yN (d : TypeDesc) : Option TypeId :=
 match d with
 | .slice e => some e
 | _ => none
noncomputable def strK (a : AV) : (List E -> RR) -> RR -> RR :=
 match a with
 | .str s => λ f _ => f s
 | _ => λ _ z => z
noncomputable def Q9q (a : AV) : (Nat -> Nat -> Nat -> RR) -> RR -> RR :=
 match a with
 | .slice b o len _ _ _ => λ f _ => f b o len
 | _ => λ _ z => z
noncomputable def indexB (G : Env) (t : TypeId) (x ix : Operand) (put : Tr AV -> AV -> Tr AV) (gen : RC) : Box RC :=
 match rdB G.T.ng x, rdB G.T.ng ix, G.T.ty t with
 | some (.mk r), some (.mk q), some ti => bif Q2p ti.desc then
  .mk λ c tm H nx k z => (λ zz => r tm λ a => q tm λ b => strK a (λ s => Qk4 b (λ _ i => Qjq s i (λ v => k (put tm (.int .u8 v)) H nx) zz) zz) zz) (gen c tm H nx k z)
  else .mk gen
 | _, _, _ => .mk gen
noncomputable def elemSize (T : Tab) (t : TypeId) : Option Nat :=
 match T.ty t with
 | some ti => match yN ti.desc with
  | some e => match T.ty e with
   | some ei => some ei.size
   | none => none
  | none => none
 | none => none
noncomputable def jr (G : Env) (t : TypeId) (x ix : Operand) (put : Tr AV -> AV -> Tr AV) (gen : RC) : Box RC :=
 match rdB G.T.ng x, rdB G.T.ng ix, elemSize G.T t with
 | some (.mk r), some (.mk q), some es => QC es λ es => .mk λ c tm H nx k z => (λ zz => r tm λ a => q tm λ b => Q9q a (λ bl o len => Qk4 b (λ _ i =>
  Bool.rec (motive := λ _ => RR) zz (QC (Nat.add o (Nat.mul i es)) λ o' => k (put tm (.ptr bl o')) H nx) (Nat.blt i len)) zz) zz) (gen c tm H nx k z)
 | _, _, _ => .mk gen
noncomputable def lenB (G : Env) (cl : Call) (put : Tr AV -> AV -> Tr AV) (gen : RC) : Box RC :=
 match cl.callee, cl.argTypes.toList, cl.args.toList with
 | .builtin .len, [t], [x] => match rdB G.T.ng x, G.T.ty t with
  | some (.mk r), some ti => bif Q2p ti.desc then
   .mk λ c tm H nx k z => r tm λ a => strK a (λ s => QC (lenR s) λ n => k (put tm (.int .i64 (.lit (.ofNat n)))) H nx) (gen c tm H nx k z)
   else match yN ti.desc with
    | some _ => .mk λ c tm H nx k z => r tm λ a => Q9q a (λ _ _ n => k (put tm (.int .i64 (.lit (.ofNat n)))) H nx) (gen c tm H nx k z)
    | none => .mk gen
  | _, _ => .mk gen
 | _, _, _ => .mk gen
noncomputable def Qd4 (G : Env) (op : Op) (put : Tr AV -> AV -> Tr AV) (gen : RC) : Box RC :=
 match op with
 | .move x => moveB G.T.ng x put gen
 | .assign x => moveB G.T.ng x put gen
 | .load t x => Qjx G t x put gen
 | .store t a x => Qcz G t a x put gen
 | .binOp op _ x y _ => binB G.T.ng op x y put gen
 | .pick q x y => Qjn G.T.ng q x y put gen
 | .unOp op _ x => match op with
  | .not => notB G.T.ng x put gen
  | _ => .mk gen
 | .fieldAddr t x f => jy G t x f put gen
 | .nilCheck x => nilB G.T.ng x put gen
 | .extract x i => Q4a G.T.ng x i put gen
 | .convert s t x => Qkn G s t x put gen
 | .index t x ix => indexB G t x ix put gen
 | .indexAddr t x ix => jr G t x ix put gen
 | .call cl => lenB G cl put gen
 | _ => .mk gen
noncomputable def Q80 : Spec := λ G nt o =>
 match putB nt o.dst with
 | none => none
 | some (.mk put) => match genB G o put with
  | .mk gen => some (Qd4 G o.op put gen)
end Go.Ax
namespace Go.Ax
open Go.RowKit
section
variable {G : Env} {nt : Nat} {ops : List Oper} {o : Oper} {put : Tr AV -> AV -> Tr AV} {gen g : RC}
def Fin (G : Env) (nt : Nat) (ops : List Oper) (o : Oper) (c : Ctx) (tm : Tr AV) (H : Tr Q6) (nx : Nat) (k : RK) (z r : RR) : Prop :=
 r = z \/ ∃ tm' H' nx', yj G nt ops o c tm H nx tm' H' nx' /\ r = k tm' H' nx'
theorem Zr (hp : Y1 nt o.dst put) {c : Ctx} {tm : Tr AV} {H : Tr Q6} {nx : Nat} {k : RK} {z : RR} (hw : QH ops tm o = true) {v : AV}
 (h : light G.T G.I c H (ev G.T.ng tm) o.op = .ok (.val v)) : Fin G nt ops o c tm H nx k z (k (put tm v) H nx) :=
 .inr ⟨_, _, _, Q2f hp nx hw h, rfl⟩
theorem Qa3 (hp : Y1 nt o.dst put) (hg : QE G nt ops o gen) {x : Operand} (hop : o.op = .move x \/ o.op = .assign x) (h : moveB G.T.ng x put gen = .mk g) : QE G nt ops o g := by
 unfold moveB at h
 split at h
 . rename_i r hr
   simp only [Box.mk.injEq] at h
   subst h
   intro c tm H nx k z hw
   obtain ⟨a, ha, hk⟩ := Zt hr tm
   simp only [hk]
   refine Zr hp hw ?_
   rcases hop with e | e <;> rw [e] <;> simp only [light, ha, ZU]
 . cases h; exact hg
theorem Qh0 (hp : Y1 nt o.dst put) (hg : QE G nt ops o gen) {t : TypeId} {x : Operand} (hop : o.op = .load t x) (h : Qjx G t x put gen = .mk g) : QE G nt ops o g := by
 unfold Qjx at h
 split at h
 . rename_i r ti hr hti
   cases hd : Q0t ti.desc with
   | true => rw [hd] at h; cases h; exact hg
   | false =>
    rw [hd] at h
    simp only [cond_false, Box.mk.injEq] at h
    subst h
    intro c tm H nx k z hw
    have hz : Fin G nt ops o c tm H nx k z (gen c tm H nx k z) := hg c tm H nx k z hw
    obtain ⟨a, ha, hk⟩ := Zt hr tm
    simp only [hk]
    rcases Q3u a _ _ with e | ⟨b, p, rfl, e⟩ <;> rw [e]
    . exact hz
    rcases Q6z (H.get b) _ _ with e | ⟨cs, el, ex, pl, ro, hb, e⟩ <;> rw [e]
    . exact hz
    rw [Q0g]
    cases hv : cs[p]? with
    | none => exact hz
    | some v =>
     refine Zr hp hw ?_
     rw [hop]
     simp only [light, ha, D.of, D.bind, Q9a, hti, Y0, hb, hd, cond_false, hv, ZU]
 . cases h; exact hg
theorem Qht (v : AV) (y z : RR) : cellV v y z = z \/ v.cell = true /\ cellV v y z = y := by
 cases v <;> first | exact .inl rfl | exact .inr ⟨rfl, rfl⟩
theorem Q6y {v : AV} (h : v.cell = true) : v.cellsOf = [v] := by
 cases v <;> simp [AV.cell] at h <;> rfl
theorem Qcy (hp : Y1 nt o.dst put) (hg : QE G nt ops o gen) {t : TypeId} {x y : Operand} (hop : o.op = .store t x y) (h : Qcz G t x y put gen = .mk g) : QE G nt ops o g := by
 unfold Qcz at h
 split at h
 . rename_i r q ti hr hq hti
   cases hd : Nat.beq ti.size 1 with
   | false => rw [hd] at h; cases h; exact hg
   | true =>
    rw [hd] at h
    simp only [cond_true, Box.mk.injEq] at h
    subst h
    intro c tm H nx k z hw
    have hz : Fin G nt ops o c tm H nx k z (gen c tm H nx k z) := hg c tm H nx k z hw
    obtain ⟨a, ha, hk⟩ := Zt hr tm
    obtain ⟨v, hv, hk2⟩ := Zt hq tm
    simp only [hk, hk2]
    rcases Q3u a _ _ with e | ⟨b, p, rfl, e⟩ <;> rw [e]
    . exact hz
    rcases Q6z (H.get b) _ _ with e | ⟨cs, el, ex, pl, ro, hb, e⟩ <;> rw [e]
    . exact hz
    cases ro with
    | true => exact hz
    | false =>
     simp only
     rcases Qht v _ _ with e | ⟨hc, e⟩ <;> rw [e]
     . exact hz
     rw [Q0g]
     cases hcs : cs[p]? with
     | none => exact hz
     | some u =>
      have hlt : p < cs.length := by
       rcases List.getElem?_eq_some_iff.1 hcs with ⟨h, _⟩
       exact h
      have hs1 : ti.size = 1 := by simpa using hd
      refine .inr ⟨_, _, _, jR hp nx hw (r := ⟨.undef, H.set b (.cells (Qlx cs p v) el ex pl false), nx⟩) (by rw [hop]; rfl) ?_, rfl⟩
      rw [hop]
      have hble : Nat.ble (p + 1) cs.length = true := Nat.ble_eq_true_of_le hlt
      simp only [ZK, ha, hv, Q79, hti, hb, Q6y hc, hs1, List.length_singleton, List.all_cons, List.all_nil, hc, Bool.and_true, hble, Y2, Qdb]
      rfl
 . cases h; exact hg
theorem Qgx {op : BinOp} {gg : IntKind -> Nat -> Nat -> (AV -> RR) -> RR -> RR} (h : Qju op = some (.mk gg)) (k : IntKind) (m n : Nat) (f : AV -> RR) (z : RR) :
 gg k m n f z = z \/ ∃ v, gg k m n f z = f v /\ ∀ (T : Tab) (c : Ctx) (H : Tr Q6) (kx : Bool) (t : TypeId) (k' : IntKind), Nat.beq (kN k) (kN k') = true -> Qb2 T c H kx op t (.int k (.lit (.ofNat m))) (.int k' (.lit (.ofNat n))) = .ok v := by
 cases op <;> simp only [Qju, Option.some.injEq, Box.mk.injEq, reduceCtorEq] at h <;> subst h <;> simp only [sNat_eq]
 case add =>
  cases hb : Nat.ble (Nat.add m n) (qD k) with
  | false => exact .inl rfl
  | true =>
   refine .inr ⟨_, rfl, λ T c H kx t k' hk => ?_⟩
   have e : (Int.ofNat m + Int.ofNat n : Int) = .ofNat (Nat.add m n) := rfl
   simp only [Qb2, hk, cond_true, yF, E.jG, E.arith, D.of, D.bind, e, E.litS_eq, Yq hb]
 case sub =>
  cases hle : Nat.ble n m with
  | false => exact .inl rfl
  | true =>
   simp only
   cases hb : Nat.ble (Nat.sub m n) (qD k) with
   | false => exact .inl rfl
   | true =>
    refine .inr ⟨_, rfl, λ T c H kx t k' hk => ?_⟩
    have e : (Int.ofNat m - Int.ofNat n : Int) = .ofNat (Nat.sub m n) := (Int.ofNat_sub (Nat.le_of_ble_eq_true hle)).symm
    simp only [Qb2, hk, cond_true, yF, E.jG, E.arith, D.of, D.bind, e, E.litS_eq, Yq hb]
 case mul =>
  cases hb : Nat.ble (Nat.mul m n) (qD k) with
  | false => exact .inl rfl
  | true =>
   refine .inr ⟨_, rfl, λ T c H kx t k' hk => ?_⟩
   have e : (Int.ofNat m * Int.ofNat n : Int) = .ofNat (Nat.mul m n) := rfl
   simp only [Qb2, hk, cond_true, yF, E.jG, E.arith, D.of, D.bind, e, E.litS_eq, Yq hb]
 case quo =>
  cases hn : Nat.beq n 0 with
  | true => exact .inl rfl
  | false =>
   simp only
   cases hb : Nat.ble (Nat.div m n) (qD k) with
   | false => exact .inl rfl
   | true =>
    refine .inr ⟨_, rfl, λ T c H kx t k' hk => ?_⟩
    have e : (Int.ofNat m).tdiv (Int.ofNat n) = .ofNat (Nat.div m n) := rfl
    have h0 : ieq (Int.ofNat n) 0 = false := hn
    simp only [Qb2, hk, cond_true, yF, E.divide, h0, cond_false, D.of, D.bind, e, E.litS_eq, Yq hb]
 case rem =>
  cases hn : Nat.beq n 0 with
  | true => exact .inl rfl
  | false =>
   refine .inr ⟨_, rfl, λ T c H kx t k' hk => ?_⟩
   have e : (Int.ofNat m).tmod (Int.ofNat n) = .ofNat (Nat.mod m n) := rfl
   have h0 : ieq (Int.ofNat n) 0 = false := hn
   simp only [Qb2, hk, cond_true, yF, E.divide, h0, cond_false, D.of, D.bind, e, E.litS_eq]
 case and =>
  cases h1 : Nat.ble m (qD k) with
  | false => exact .inl rfl
  | true =>
   cases h2 : Nat.ble n (qD k) with
   | false => exact .inl rfl
   | true =>
    simp only
    cases hb : Nat.ble (Nat.land m n) (qD k) with
    | false => exact .inl rfl
    | true =>
     refine .inr ⟨_, rfl, λ T c H kx t k' hk => ?_⟩
     simp only [Qb2, hk, cond_true, yF, E.bits, qC h1, qC h2, Bool.and_true, D.of, D.bind, E.litS_eq, Yq hb]
 case or =>
  cases h1 : Nat.ble m (qD k) with
  | false => exact .inl rfl
  | true =>
   cases h2 : Nat.ble n (qD k) with
   | false => exact .inl rfl
   | true =>
    simp only
    cases hb : Nat.ble (Nat.lor m n) (qD k) with
    | false => exact .inl rfl
    | true =>
     refine .inr ⟨_, rfl, λ T c H kx t k' hk => ?_⟩
     simp only [Qb2, hk, cond_true, yF, E.bits, qC h1, qC h2, Bool.and_true, D.of, D.bind, E.litS_eq, Yq hb]
 case xor =>
  cases h1 : Nat.ble m (qD k) with
  | false => exact .inl rfl
  | true =>
   cases h2 : Nat.ble n (qD k) with
   | false => exact .inl rfl
   | true =>
    simp only
    cases hb : Nat.ble (Nat.xor m n) (qD k) with
    | false => exact .inl rfl
    | true =>
     refine .inr ⟨_, rfl, λ T c H kx t k' hk => ?_⟩
     simp only [Qb2, hk, cond_true, yF, E.bits, qC h1, qC h2, Bool.and_true, D.of, D.bind, E.litS_eq, Yq hb]
 all_goals
  refine .inr ⟨_, rfl, λ T c H kx t k' hk => ?_⟩
  simp only [Qb2, hk, cond_true, yF, E.cmp, Qnf, ieq, ilt]
theorem Qkv (hp : Y1 nt o.dst put) (hg : QE G nt ops o gen) {op : BinOp} {t t' : TypeId} {x y : Operand} (hop : o.op = .binOp op t x y t') (h : binB G.T.ng op x y put gen = .mk g) : QE G nt ops o g := by
 unfold binB at h
 split at h
 . rename_i r q gg hr hq hgg
   simp only [Box.mk.injEq] at h
   subst h
   intro c tm H nx k z hw
   have hz : Fin G nt ops o c tm H nx k z (gen c tm H nx k z) := hg c tm H nx k z hw
   obtain ⟨a, ha, hk⟩ := Zt hr tm
   obtain ⟨b, hb, hk2⟩ := Zt hq tm
   simp only [hk, hk2]
   rcases Q0u a _ _ with e | ⟨ka, m, rfl, e⟩ <;> rw [e]
   . exact hz
   rcases Q0u b _ _ with e | ⟨kb, n, rfl, e⟩ <;> rw [e]
   . exact hz
   cases hkk : Nat.beq (kN ka) (kN kb) with
   | false => exact hz
   | true =>
    simp only
    rcases Qgx hgg ka m n (λ v => k (put tm v) H nx) (gen c tm H nx k z) with e | ⟨v, e, hv⟩ <;> rw [e]
    . exact hz
    refine Zr hp hw ?_
    rw [hop]
    simp only [light, ha, hb, D.of, D.bind, hv _ _ _ _ _ _ hkk, mapD]
 . cases h; exact hg
theorem Qat (a : AV) (y n z : RR) : Qfg a y n z = z \/ (a = .bool true /\ Qfg a y n z = y) \/ (a = .bool false /\ Qfg a y n z = n) := by
 cases a
 case bool b => cases b
                . exact .inr (.inr ⟨rfl, rfl⟩)
                . exact .inr (.inl ⟨rfl, rfl⟩)
 all_goals exact .inl rfl
theorem Qgq (hp : Y1 nt o.dst put) (hg : QE G nt ops o gen) {q x y : Operand} (hop : o.op = .pick q x y) (h : Qjn G.T.ng q x y put gen = .mk g) : QE G nt ops o g := by
 unfold Qjn at h
 split at h
 . rename_i p r s hq hr hs
   simp only [Box.mk.injEq] at h
   subst h
   intro c tm H nx k z hw
   have hz : Fin G nt ops o c tm H nx k z (gen c tm H nx k z) := hg c tm H nx k z hw
   obtain ⟨b, hb, hk0⟩ := Zt hq tm
   obtain ⟨a1, ha1, hk1⟩ := Zt hr tm
   obtain ⟨a2, ha2, hk2⟩ := Zt hs tm
   simp only [hk0, hk1, hk2]
   rcases Qat b _ _ _ with e | ⟨rfl, e⟩ | ⟨rfl, e⟩ <;> rw [e]
   . exact hz
   . exact Zr hp hw (by rw [hop]; simp only [light, hb, D.of, D.bind, ha1, ZU])
   . exact Zr hp hw (by rw [hop]; simp only [light, hb, D.of, D.bind, ha2, ZU])
 . cases h; exact hg
theorem Qjr (hp : Y1 nt o.dst put) (hg : QE G nt ops o gen) {x : Operand} {t : TypeId} (hop : o.op = .unOp .not t x) (h : notB G.T.ng x put gen = .mk g) : QE G nt ops o g := by
 unfold notB at h
 split at h
 . rename_i r hr
   simp only [Box.mk.injEq] at h
   subst h
   intro c tm H nx k z hw
   have hz : Fin G nt ops o c tm H nx k z (gen c tm H nx k z) := hg c tm H nx k z hw
   obtain ⟨a, ha, hk⟩ := Zt hr tm
   simp only [hk]
   rcases Qat a _ _ _ with e | ⟨rfl, e⟩ | ⟨rfl, e⟩ <;> rw [e]
   . exact hz
   . exact Zr hp hw (by rw [hop]; simp only [light, ha, D.of, D.bind, aun, ZU]; rfl)
   . exact Zr hp hw (by rw [hop]; simp only [light, ha, D.of, D.bind, aun, ZU]; rfl)
 . cases h; exact hg
theorem Q48 (hp : Y1 nt o.dst put) (hg : QE G nt ops o gen) {t : TypeId} {x : Operand} {f : Nat} (hop : o.op = .fieldAddr t x f) (h : jy G t x f put gen = .mk g) : QE G nt ops o g := by
 unfold jy at h
 split at h
 . rename_i r n hr hn
   simp only [sNat_eq, Box.mk.injEq] at h
   subst h
   intro c tm H nx k z hw
   have hz : Fin G nt ops o c tm H nx k z (gen c tm H nx k z) := hg c tm H nx k z hw
   obtain ⟨a, ha, hk⟩ := Zt hr tm
   simp only [hk]
   rcases Q3u a _ _ with e | ⟨b, p, rfl, e⟩ <;> rw [e]
   . exact hz
   try simp only [sNat_eq]
   exact Zr hp hw (by rw [hop]; simp only [light, ha, D.of, D.bind, Q8w hn, ZU]; rfl)
 . cases h; exact hg
theorem Qjt (hp : Y1 nt o.dst put) (hg : QE G nt ops o gen) {x : Operand} (hop : o.op = .nilCheck x) (h : nilB G.T.ng x put gen = .mk g) : QE G nt ops o g := by
 unfold nilB at h
 split at h
 . rename_i r hr
   simp only [Box.mk.injEq] at h
   subst h
   intro c tm H nx k z hw
   have hz : Fin G nt ops o c tm H nx k z (gen c tm H nx k z) := hg c tm H nx k z hw
   obtain ⟨a, ha, hk⟩ := Zt hr tm
   simp only [hk]
   rcases Q3u a _ _ with e | ⟨b, p, rfl, e⟩ <;> rw [e]
   . exact hz
   exact Zr hp hw (by rw [hop]; simp only [light, ha, D.of, D.bind, Qld, ZU])
 . cases h; exact hg
theorem Qix (a : AV) (f : List AV -> RR) (z : RR) : tupK a f z = z \/ ∃ vs, a = .tuple vs /\ tupK a f z = f vs := by
 cases a
 case tuple vs => exact .inr ⟨vs, rfl, rfl⟩
 all_goals exact .inl rfl
theorem Q8x (hp : Y1 nt o.dst put) (hg : QE G nt ops o gen) {x : Operand} {i : Nat} (hop : o.op = .extract x i) (h : Q4a G.T.ng x i put gen = .mk g) : QE G nt ops o g := by
 unfold Q4a at h
 split at h
 . rename_i r hr
   simp only [Box.mk.injEq] at h
   subst h
   intro c tm H nx k z hw
   have hz : Fin G nt ops o c tm H nx k z (gen c tm H nx k z) := hg c tm H nx k z hw
   obtain ⟨a, ha, hk⟩ := Zt hr tm
   simp only [hk]
   rcases Qix a _ _ with e | ⟨vs, rfl, e⟩ <;> rw [e]
   . exact hz
   rw [Q0g]
   cases hv : vs[i]? with
   | none => exact hz
   | some v => exact Zr hp hw (by rw [hop]; simp only [light, ha, D.of, D.bind, zT, hv, ZU])
 . cases h; exact hg
theorem Qk5 {d : TypeDesc} {k : IntKind} (h : intD d = some k) : d = .int k := by
 cases d <;> simp [intD] at h; rw [h]
theorem Qhl (hp : Y1 nt o.dst put) (hg : QE G nt ops o gen) {s t : TypeId} {x : Operand} (hop : o.op = .convert s t x) (h : Qkn G s t x put gen = .mk g) : QE G nt ops o g := by
 unfold Qkn at h
 split at h
 . rename_i r si di hr hsi hdi
   split at h
   . rename_i kd hkd
     simp only [sNat_eq, Box.mk.injEq] at h
     subst h
     intro c tm H nx k z hw
     have hz : Fin G nt ops o c tm H nx k z (gen c tm H nx k z) := hg c tm H nx k z hw
     obtain ⟨a, ha, hk⟩ := Zt hr tm
     simp only [hk]
     rcases Q0u a _ _ with e | ⟨ka, m, rfl, e⟩ <;> rw [e]
     . exact hz
     cases hb : Nat.ble m (qD kd) with
     | false => exact hz
     | true =>
      have hd := Qk5 hkd
      exact Zr hp hw (by rw [hop]; simp only [light, ha, D.of, D.bind, Q7m, hsi, hdi, Qfs, hd, E.Qf2, E.litS_eq, Yq hb, ZU])
   . cases h; exact hg
 . cases h; exact hg
theorem Q68 {d : TypeDesc} (h : Q2p d = true) : d = .string := by
 cases d <;> simp [Q2p] at h; rfl
theorem Q0s {d : TypeDesc} {e : TypeId} (h : yN d = some e) : d = .slice e := by
 cases d <;> simp [yN] at h; rw [h]
theorem Qcx (a : AV) (f : List E -> RR) (z : RR) : strK a f z = z \/ ∃ s, a = .str s /\ strK a f z = f s := by
 cases a
 case str s => exact .inr ⟨s, rfl, rfl⟩
 all_goals exact .inl rfl
theorem Q5l (a : AV) (f : Nat -> Nat -> Nat -> RR) (z : RR) : Q9q a f z = z \/ ∃ b o len cap es ex, a = .slice b o len cap es ex /\ Q9q a f z = f b o len := by
 cases a
 case slice b o len cap es ex => exact .inr ⟨b, o, len, cap, es, ex, rfl, rfl⟩
 all_goals exact .inl rfl
theorem Qec (hp : Y1 nt o.dst put) (hg : QE G nt ops o gen) {t : TypeId} {x ix : Operand} (hop : o.op = .index t x ix) (h : indexB G t x ix put gen = .mk g) : QE G nt ops o g := by
 unfold indexB at h
 split at h
 . rename_i r q ti hr hq hti
   cases hd : Q2p ti.desc with
   | false => rw [hd] at h; cases h; exact hg
   | true =>
    rw [hd] at h
    simp only [cond_true, Box.mk.injEq] at h
    subst h
    intro c tm H nx k z hw
    have hz : Fin G nt ops o c tm H nx k z (gen c tm H nx k z) := hg c tm H nx k z hw
    obtain ⟨a, ha, hk⟩ := Zt hr tm
    obtain ⟨b, hb, hk2⟩ := Zt hq tm
    simp only [hk, hk2]
    rcases Qcx a _ _ with e | ⟨s, rfl, e⟩ <;> rw [e]
    . exact hz
    rcases Q0u b _ _ with e | ⟨kb, i, rfl, e⟩ <;> rw [e]
    . exact hz
    rw [Q0g]
    cases hv : s[i]? with
    | none => exact hz
    | some v => exact Zr hp hw (by rw [hop]; simp only [light, ha, hb, D.of, D.bind, Q1i, hti, Qiq, Q7g, E.nat?, Q68 hd, hv, ZU])
 . cases h; exact hg
theorem Q8y {T : Tab} {t : TypeId} {es : Nat} (h : elemSize T t = some es) {b o len cap es' : Nat} {ex : Bool} {k : IntKind} {i : Nat} (hi : Nat.blt i len = true) :
 Yd T t (.slice b o len cap es' ex) (.int k (.lit (.ofNat i))) = some (.ptr b (o + i * es)) := by
 unfold elemSize at h
 split at h
 . rename_i ti hti
   split at h
   . rename_i e hd
     split at h
     . rename_i ei hei
       cases h
       simp only [Yd, E.nat?, hti, Q0s hd, hei, hi, cond_true, sNat_eq]
     . cases h
   . cases h
 . cases h
theorem Q45 (hp : Y1 nt o.dst put) (hg : QE G nt ops o gen) {t : TypeId} {x ix : Operand} (hop : o.op = .indexAddr t x ix) (h : jr G t x ix put gen = .mk g) : QE G nt ops o g := by
 unfold jr at h
 split at h
 . rename_i r q es hr hq hes
   simp only [sNat_eq, Box.mk.injEq] at h
   subst h
   intro c tm H nx k z hw
   have hz : Fin G nt ops o c tm H nx k z (gen c tm H nx k z) := hg c tm H nx k z hw
   obtain ⟨a, ha, hk⟩ := Zt hr tm
   obtain ⟨b, hb, hk2⟩ := Zt hq tm
   simp only [hk, hk2]
   rcases Q5l a _ _ with e | ⟨bl, p, len, cap, es', ex, rfl, e⟩ <;> rw [e]
   . exact hz
   rcases Q0u b _ _ with e | ⟨kb, i, rfl, e⟩ <;> rw [e]
   . exact hz
   cases hi : Nat.blt i len with
   | false => exact hz
   | true => exact Zr hp hw (by rw [hop]; simp only [light, ha, hb, D.of, D.bind, Qiq, Q8y hes hi, ZU]; rfl)
 . cases h; exact hg
theorem Qjz (hp : Y1 nt o.dst put) (hg : QE G nt ops o gen) {cl : Call} (hop : o.op = .call cl) (h : lenB G cl put gen = .mk g) : QE G nt ops o g := by
 unfold lenB at h
 split at h
 . rename_i t x hc hts hxs
   split at h
   . rename_i r ti hr hti
     cases hd : Q2p ti.desc with
     | true =>
      rw [hd] at h
      simp only [cond_true, Box.mk.injEq] at h
      subst h
      intro c tm H nx k z hw
      have hz : Fin G nt ops o c tm H nx k z (gen c tm H nx k z) := hg c tm H nx k z hw
      obtain ⟨a, ha, hk⟩ := Zt hr tm
      simp only [hk]
      rcases Qcx a _ _ with e | ⟨s, rfl, e⟩ <;> rw [e]
      . exact hz
      simp only [sNat_eq, Qe5]
      exact Zr hp hw (by rw [hop]; simp only [light, hc, hts, hxs, ha, D.of, D.bind, Qfp, Qnp, hti, Q68 hd, sNat_eq, ZU])
     | false =>
      rw [hd] at h
      simp only [cond_false] at h
      split at h
      . rename_i e hs
        simp only [Box.mk.injEq] at h
        subst h
        intro c tm H nx k z hw
        have hz : Fin G nt ops o c tm H nx k z (gen c tm H nx k z) := hg c tm H nx k z hw
        obtain ⟨a, ha, hk⟩ := Zt hr tm
        simp only [hk]
        rcases Q5l a _ _ with e | ⟨b, p, len, cap, es, ex, rfl, e⟩ <;> rw [e]
        . exact hz
        exact Zr hp hw (by rw [hop]; simp only [light, hc, hts, hxs, ha, D.of, D.bind, Qfp, Qnp, hti, Q0s hs, ZU])
      . cases h; exact hg
   . cases h; exact hg
 . cases h; exact hg
theorem Qd3 (hp : Y1 nt o.dst put) (hg : QE G nt ops o gen) (h : Qd4 G o.op put gen = .mk g) : QE G nt ops o g := by
 unfold Qd4 at h
 split at h <;> rename_i hop
 . exact Qa3 hp hg (.inl hop) h
 . exact Qa3 hp hg (.inr hop) h
 . exact Qh0 hp hg hop h
 . exact Qcy hp hg hop h
 . exact Qkv hp hg hop h
 . exact Qgq hp hg hop h
 . split at h
   . exact Qjr hp hg hop h
   . cases h; exact hg
 . exact Q48 hp hg hop h
 . exact Qjt hp hg hop h
 . exact Q8x hp hg hop h
 . exact Qhl hp hg hop h
 . exact Qec hp hg hop h
 . exact Q45 hp hg hop h
 . exact Qjz hp hg hop h
 . cases h; exact hg
end
theorem Q3n {G : Env} : ZH G Q80 := by
 intro nt ops o put g h hp
 unfold Q80 at h
 split at h
 . cases h
 . rename_i put' hp'
   cases hgen : genB G o put' with
   | mk gen =>
    rw [hgen] at h
    simp only [Option.some.injEq] at h
    exact Qd3 (je hp') (Qkb (je hp') hgen) h
end Go.Ax
namespace Go.Ax
open Go.RowKit
section
variable {P : Program} {G : Env} {n0 : Nat} {w0 : World} {cs0 : List Frame} {X : Ext} {s : AM} {m : Machine}
theorem Zw (hT : G.T.OK P) (hI : Js.OK P G.I) (hS : ZX P G n0) {s s' : AM} (h : Z6 G s s') : ∀ {X : Ext} {m : Machine}, Sim P G n0 w0 cs0 X s m -> Qfu P G n0 w0 cs0 X m s' := by
 induction h with
 | refl s => intro X m hs; exact ⟨X, m, .refl P _, Ext.le.refl X, hs⟩
 | step e _ ih =>
  intro X m hs
  obtain ⟨Y, m1, a, b, c⟩ := Q1d hT hI hS hs e
  exact Qfu.of_steps a b (ih c)
end
end Go.Ax
namespace Go.Ax
open Go.RowKit
inductive Sp where
 | int (k : IntKind) (lo hi : Int)
 | str (most : Nat)
 | bool
 | lit (b : Bool)
 | nils
 | agg (l : List Sp)
 | tup (l : List Sp)
mutual
def Sp.has : Sp -> Value -> Prop
 | .int k lo hi, v => ∃ n, v = .int k n /\ lo <= n /\ n <= hi
 | .str m, v => ∃ s : ByteArray, v = .string s /\ s.size <= m
 | .bool, v => ∃ b, v = .bool b
 | .lit b, v => v = .bool b
 | .nils, v => v = .slice none 0 0
 | .agg l, v => ∃ vs : Array Value, v = .agg vs /\ Sp.Q7q l vs.toList
 | .tup l, v => ∃ vs : Array Value, v = .tuple vs /\ Sp.Q7q l vs.toList
def Sp.Q7q : List Sp -> List Value -> Prop
 | [], vs => vs = []
 | s :: l, vs => ∃ v vs', vs = v :: vs' /\ s.has v /\ Sp.Q7q l vs'
end
mutual
noncomputable def Sp.chk (c : Ctx) : Sp -> AV -> Bool
 | .int k lo hi, .int j e => Nat.beq (kN j) (kN k) && (match (E.iv c.fs e).lo, (E.iv c.fs e).hi with | some l, some h => ile lo l && ile h hi | _, _ => false)
 | .str m, a => match Qid a with
  | some s => (match (E.iv c.fs s.len).hi with | some h => ile h (.ofNat m) | none => false)
  | none => false
 | .bool, .bool _ => true
 | .lit b, .bool a => b == a
 | .nils, .nilslice => true
 | .agg l, .agg cs => Sp.jB c l cs
 | .tup l, .tuple cs => Sp.jB c l cs
 | _, _ => false
noncomputable def Sp.jB (c : Ctx) : List Sp -> List AV -> Bool
 | [], [] => true
 | s :: l, a :: as => s.chk c a && Sp.jB c l as
 | _, _ => false
end
mutual
theorem Sp.Q18 {c : Ctx} {X : Ext} (hc : c.okN X.dom X.O) : ∀ {sp : Sp} {a : AV} {v : Value}, sp.chk c a = true -> a.rel X v -> sp.has v
 | .int k lo hi, a, v, h, hr => by
  cases a <;> simp only [Sp.chk, Bool.false_eq_true, Bool.and_eq_true] at h
  rename_i j e
  obtain ⟨h1, h2⟩ := h
  simp only [AV.rel] at hr
  obtain ⟨_, rfl⟩ := hr
  have hv := E.Qc hc.2 e
  split at h2
  . rename_i l hh e1 e2
    simp only [Bool.and_eq_true, QO] at h2
    have := hv.1 _ e1
    have := hv.2 _ e2
    simp only [Sp.has]
    exact ⟨_, by rw [Q0r h1], by omega, by omega⟩
  . cases h2
 | .str m, a, v, h, hr => by
  have h' : (match Qid a with
   | some s => (match (E.iv c.fs s.len).hi with | some h => ile h (.ofNat m) | none => false)
   | none => false) = true := by cases a <;> exact h
  split at h'
  . rename_i s hs
    obtain ⟨s1, s2, rfl⟩ := ze hs hr
    split at h'
    . rename_i hh e
      rw [QO] at h'
      have := (E.Qc hc.2 s.len).2 _ e
      unfold ST.fit at s2
      simp only [Sp.has]
      refine ⟨_, rfl, ?_⟩
      show (s.den X.O).toArray.size <= m
      simp only [Int.ofNat_eq_natCast] at h'
      simp
      omega
    . cases h'
  . cases h'
 | .bool, a, v, h, hr => by
  cases a <;> simp only [Sp.chk, Bool.false_eq_true] at h
  simp only [AV.rel] at hr
  simp only [Sp.has]
  exact ⟨_, hr⟩
 | .lit b, a, v, h, hr => by
  cases a <;> simp only [Sp.chk, Bool.false_eq_true, beq_iff_eq] at h
  simp only [AV.rel] at hr
  simp only [Sp.has]
  rw [hr, h]
 | .nils, a, v, h, hr => by
  cases a <;> simp only [Sp.chk, Bool.false_eq_true] at h
  simp only [AV.rel] at hr
  simp only [Sp.has]
  exact hr
 | .agg l, a, v, h, hr => by
  cases a <;> simp only [Sp.chk, Bool.false_eq_true] at h
  simp only [AV.rel] at hr
  obtain ⟨vs, rfl, hr⟩ := hr
  simp only [Sp.has]
  exact ⟨vs, rfl, Sp.QS hc h hr⟩
 | .tup l, a, v, h, hr => by
  cases a <;> simp only [Sp.chk, Bool.false_eq_true] at h
  simp only [AV.rel] at hr
  obtain ⟨vs, rfl, hr⟩ := hr
  simp only [Sp.has]
  exact ⟨vs, rfl, Sp.QS hc h hr⟩
theorem Sp.QS {c : Ctx} {X : Ext} (hc : c.okN X.dom X.O) : ∀ {l : List Sp} {as : List AV} {vs : List Value}, Sp.jB c l as = true -> AV.QI X as vs -> Sp.Q7q l vs
 | [], as, vs, h, hr => by
  cases as <;> simp only [Sp.jB, Bool.false_eq_true] at h
  simp only [Sp.Q7q]
  exact rels_nil.1 hr
 | s :: l, as, vs, h, hr => by
  cases as <;> simp only [Sp.jB, Bool.false_eq_true, Bool.and_eq_true] at h
  obtain ⟨v, vs', rfl, h1, h2⟩ := Q8.1 hr
  simp only [Sp.Q7q]
  exact ⟨v, vs', rfl, Sp.Q18 hc h.1 h1, Sp.QS hc h.2 h2⟩
end
structure In where
 v : AV
 next : Nat
 fs : Facts
 vs : List Nat
structure InL where
 v : List AV
 next : Nat
 fs : Facts
 vs : List Nat
mutual
noncomputable def Sp.inst : Sp -> Nat -> Option In
 | .int k lo hi, n => QC (n + 1) λ m => some ⟨.int k (.var n), m, [⟨.geq, .var n, .lit lo, true⟩, ⟨.leq, .var n, .lit hi, true⟩], [n]⟩
 | .str most, n => QC (n + 1) λ m => some ⟨.sstr (.var n), m, [⟨.leq, .len n, .lit (.ofNat most), true⟩], [n]⟩
 | .bool, _ => none
 | .lit b, n => some ⟨.bool b, n, [], []⟩
 | .nils, n => some ⟨.nilslice, n, [], []⟩
 | .agg l, n => match Sp.Q1v l n with
  | some r => some ⟨.agg r.v, r.next, r.fs, r.vs⟩
  | none => none
 | .tup l, n => match Sp.Q1v l n with
  | some r => some ⟨.tuple r.v, r.next, r.fs, r.vs⟩
  | none => none
noncomputable def Sp.Q1v : List Sp -> Nat -> Option InL
 | [], n => some ⟨[], n, [], []⟩
 | s :: l, n => match s.inst n with
  | none => none
  | some a => match Sp.Q1v l a.next with
   | none => none
   | some r => some ⟨a.v :: r.v, r.next, a.fs ++ r.fs, a.vs ++ r.vs⟩
end
structure New (X Y : Ext) (p : Place) (n m : Nat) (fs : Facts) (vs : List Nat) : Prop where
 le : X.le Y
 nm : n <= m
 old : ∀ b, b < n -> Y.V b = X.V b
 new : ∀ b, n <= b -> b < m -> Y.V b = some p
 free : ∀ b, m <= b -> Y.V b = none
 fs : fs.okN Y.dom Y.O
 vs : ∀ i ∈ vs, Y.dom i
def Ext.letter (X : Ext) (n : Nat) (p : Place) (z : Int) (s : List UInt8) : Ext :=
 ⟨λ i => if i = n then some p else X.V i, ⟨λ i => if i = n then z else X.O.int i, λ i => if i = n then s else X.O.str i⟩⟩
theorem Ext.Q2l {X : Ext} {n : Nat} {p : Place} {z : Int} {s : List UInt8} (h : ∀ b, n <= b -> X.V b = none) {fs : Facts} (hf : fs.okN (X.letter n p z s).dom (X.letter n p z s).O) : New X (X.letter n p z s) p n (n + 1) fs [n] := by
 refine ⟨⟨λ b q hq => ?_, λ i hi => ?_⟩, by omega, λ b hb => ?_, λ b h1 h2 => ?_, λ b hb => ?_, hf, λ i hi => ?_⟩
 . have : b ≠ n := λ e => by subst e; rw [h _ (Nat.le_refl _)] at hq; cases hq
   simp only [Ext.letter, if_neg this]
   exact hq
 . obtain ⟨q, hq⟩ := hi
   have : i ≠ n := λ e => by subst e; rw [h _ (Nat.le_refl _)] at hq; cases hq
   simp only [Ext.letter, if_neg this, and_self]
 . simp only [Ext.letter, if_neg (show ¬ b = n by omega)]
 . simp only [Ext.letter, if_pos (show b = n by omega)]
 . simp only [Ext.letter, if_neg (show ¬ b = n by omega)]
   exact h b (by omega)
 . simp only [List.mem_singleton] at hi
   subst hi
   exact ⟨p, by simp [Ext.letter]⟩
theorem Facts.Q3w {d d' : Nat -> Prop} {O O' : Val} (hd : ∀ i, d i -> d' i) (ha : Val.agree d O O') {fs : Facts} (h : fs.okN d O) : fs.okN d' O' := λ f hf => by
 obtain ⟨h1, h2, h3⟩ := h f hf
 refine ⟨?_, E.Ql hd h2, E.Ql hd h3⟩
 unfold Fact.ok at *
 rw [E.Qb ha h2, E.Qb ha h3]
 exact h1
mutual
theorem Sp.jq {p : Place} : ∀ {sp : Sp} {n : Nat} {r : In} {X : Ext} {v : Value}, sp.inst n = some r -> sp.has v -> (∀ b, n <= b -> X.V b = none) -> ∃ Y, New X Y p n r.next r.fs r.vs /\ r.v.rel Y v
 | .int k lo hi, n, r, X, v, h, hv, hf => by
  simp only [Sp.inst, sNat_eq, Option.some.injEq] at h
  subst h
  simp only [Sp.has] at hv
  obtain ⟨z, rfl, h1, h2⟩ := hv
  refine ⟨X.letter n p z [], Ext.Q2l hf ?_, ?_⟩
  . intro f hm
    have hd : (X.letter n p z []).dom n := ⟨p, by simp [Ext.letter]⟩
    simp only [List.mem_cons, List.not_mem_nil, or_false] at hm
    rcases hm with rfl | rfl
    . exact ⟨by simp [Fact.ok, YD, E.den, Ext.letter, h1], hd, trivial⟩
    . exact ⟨by simp [Fact.ok, YD, E.den, Ext.letter, h2], hd, trivial⟩
  . simp only [AV.rel]
    exact ⟨⟨p, by simp [Ext.letter]⟩, by simp [E.den, Ext.letter]⟩
 | .str most, n, r, X, v, h, hv, hf => by
  simp only [Sp.inst, sNat_eq, Option.some.injEq] at h
  subst h
  simp only [Sp.has] at hv
  obtain ⟨s, rfl, h1⟩ := hv
  refine ⟨X.letter n p 0 s.data.toList, Ext.Q2l hf ?_, ?_⟩
  . intro f hm
    have hd : (X.letter n p 0 s.data.toList).dom n := ⟨p, by simp [Ext.letter]⟩
    simp only [List.mem_cons, List.not_mem_nil, or_false] at hm
    subst hm
    refine ⟨?_, hd, trivial⟩
    simp [Fact.ok, YD, E.den, Ext.letter]
    exact h1
  . simp only [AV.rel]
    refine ⟨⟨p, by simp [Ext.letter]⟩, ?_, ?_⟩
    . simp [ST.fit, ST.len, E.den, ST.den, Ext.letter]
    . simp [ST.den, Ext.letter]
 | .bool, n, r, X, v, h, _, _ => by simp [Sp.inst] at h
 | .lit b, n, r, X, v, h, hv, hf => by
  simp only [Sp.inst, Option.some.injEq] at h
  subst h
  simp only [Sp.has] at hv
  exact ⟨X, ⟨Ext.le.refl X, Nat.le_refl _, λ _ _ => rfl, λ b h1 h2 => by simp only at h2; omega, hf, λ f hf => (by cases hf), λ i hi => (by cases hi)⟩, by simp only [AV.rel]; exact hv⟩
 | .nils, n, r, X, v, h, hv, hf => by
  simp only [Sp.inst, Option.some.injEq] at h
  subst h
  simp only [Sp.has] at hv
  exact ⟨X, ⟨Ext.le.refl X, Nat.le_refl _, λ _ _ => rfl, λ b h1 h2 => by simp only at h2; omega, hf, λ f hf => (by cases hf), λ i hi => (by cases hi)⟩, by simp only [AV.rel]; exact hv⟩
 | .agg l, n, r, X, v, h, hv, hf => by
  simp only [Sp.inst] at h
  split at h
  . rename_i q hq
    cases h
    simp only [Sp.has] at hv
    obtain ⟨vs, rfl, hv⟩ := hv
    obtain ⟨Y, h1, h2⟩ := Sp.J8 (p := p) hq hv hf
    exact ⟨Y, h1, by simp only [AV.rel]; exact ⟨vs, rfl, h2⟩⟩
  . cases h
 | .tup l, n, r, X, v, h, hv, hf => by
  simp only [Sp.inst] at h
  split at h
  . rename_i q hq
    cases h
    simp only [Sp.has] at hv
    obtain ⟨vs, rfl, hv⟩ := hv
    obtain ⟨Y, h1, h2⟩ := Sp.J8 (p := p) hq hv hf
    exact ⟨Y, h1, by simp only [AV.rel]; exact ⟨vs, rfl, h2⟩⟩
  . cases h
theorem Sp.J8 {p : Place} : ∀ {l : List Sp} {n : Nat} {r : InL} {X : Ext} {vs : List Value}, Sp.Q1v l n = some r -> Sp.Q7q l vs -> (∀ b, n <= b -> X.V b = none) -> ∃ Y, New X Y p n r.next r.fs r.vs /\ AV.QI Y r.v vs
 | [], n, r, X, vs, h, hv, hf => by
  simp only [Sp.Q1v, Option.some.injEq] at h
  subst h
  simp only [Sp.Q7q] at hv
  subst hv
  exact ⟨X, ⟨Ext.le.refl X, Nat.le_refl _, λ _ _ => rfl, λ b h1 h2 => by simp only at h2; omega, hf, λ f hf => (by cases hf), λ i hi => (by cases hi)⟩, by simp⟩
 | s :: l, n, r, X, vs, h, hv, hf => by
  simp only [Sp.Q1v] at h
  split at h
  . cases h
  . rename_i a ha
    split at h
    . cases h
    . rename_i q hq
      cases h
      simp only [Sp.Q7q] at hv
      obtain ⟨v, vs', rfl, hv1, hv2⟩ := hv
      obtain ⟨Y, n1, r1⟩ := Sp.jq (p := p) ha hv1 hf
      obtain ⟨Z, n2, r2⟩ := Sp.J8 (p := p) hq hv2 n1.free
      refine ⟨Z, ⟨n1.le.trans n2.le, Nat.le_trans n1.nm n2.nm, λ b hb => ?_, λ b h1 h2 => ?_, n2.free, λ f hm => ?_, λ i hi => ?_⟩, ?_⟩
      . rw [n2.old b (Nat.lt_of_lt_of_le hb n1.nm), n1.old b hb]
      . by_cases hb : b < a.next
        . rw [n2.old b hb]; exact n1.new b h1 hb
        . exact n2.new b (by omega) h2
      . rcases List.mem_append.1 hm with hm | hm
        . exact Facts.Q3w n2.le.dom n2.le.O n1.fs f hm
        . exact n2.fs f hm
      . rcases List.mem_append.1 hi with hi | hi
        . exact n2.le.dom _ (n1.vs i hi)
        . exact n2.vs i hi
      . simp only [rels_cons_cons]
        exact ⟨AV.Zm n2.le _ _ r1, r2⟩
end
end Go.Ax
namespace Go.Ax
open Go.RowKit
noncomputable def Jb (spec : Spec) (G : Env) (n : Nat) (f : FuncId) (q : Ctx -> AV -> Bool) (k : Nat) : Nat -> AM -> Bool
 | 0, _ => false
 | d + 1, s => match Qfw spec G n k s with
  | .go _ => false
  | .stop s => match ZF G s with
   | .fin => s.fr.ret && Nat.beq s.fr.fn f && (match G.T.funcs.get s.fr.fn with
    | some fn => match Jj G.T s.H fn s.fr.tm with
     | some v => q s.ctx v
     | none => false
    | none => false)
   | .ask op a b => a.okB s.ctx.vs && b.okB s.ctx.vs && (Jb spec G n f q k d { s with ctx := s.ctx.add ⟨op, a, b, true⟩ } && Jb spec G n f q k d { s with ctx := s.ctx.add ⟨op, a, b, false⟩ })
   | _ => false
section
variable {P : Program} {G : Env} {n0 : Nat} {w0 : World} {cs0 : List Frame} {X : Ext} {s : AM} {m : Machine}
def Ql1 (P : Program) (n0 : Nat) (w0 : World) (cs0 : List Frame) (f : FuncId) (q : Ctx -> AV -> Bool) (X : Ext) (m : Machine) : Prop :=
 ∃ Y fr w c v u, Steps P m (lone fr cs0 w) /\ X.le Y /\ c.okN Y.dom Y.O /\ q c v = true /\ v.rel Y u /\ Below n0 w0 w /\ fr.fn = f /\ fr.leaving P w (.returned u)
theorem YB (hT : G.T.OK P) (hI : Js.OK P G.I) (hS : ZX P G n0) {spec : Spec} (hsp : ZH G spec) {n : Nat} {f : FuncId} {q : Ctx -> AV -> Bool} {k : Nat} : ∀ (d : Nat) {X : Ext} {s : AM} {m : Machine}, Jb spec G n f q k d s = true -> Sim P G n0 w0 cs0 X s m -> Ql1 P n0 w0 cs0 f q X m
 | 0, X, s, m, he, _ => by simp [Jb] at he
 | d + 1, X, s, m, he, h => by
  simp only [Jb] at he
  have hr := Zw hT hI hS (Q05 hsp n k s) h
  split at he
  . cases he
  . rename_i s1 hs1
    rw [hs1] at hr
    obtain ⟨Y, m1, st, hle, h1⟩ := hr
    simp only [YH.state] at h1
    have fin : ∀ {X' : Ext}, Y = X' -> Ql1 P n0 w0 cs0 f q X' m1 -> Ql1 P n0 w0 cs0 f q X m := by
     rintro X' rfl ⟨Z, fr, w, c, v, u, a1, a2, a3⟩
     exact ⟨Z, fr, w, c, v, u, st.trans a1, hle.trans a2, a3⟩
    split at he
    . rename_i hfin
      refine fin rfl ?_
      simp only [Bool.and_eq_true, Nat.beq_eq] at he
      obtain ⟨⟨hret, hf⟩, he⟩ := he
      split at he
      . rename_i fn hfn
        split at he
        . rename_i v hv
          -- the state is at its end
          have hend : s1.fr.ret = true /\ s1.fr.defers = [] /\ s1.cs = [] := by
           unfold ZF at hfin
           rw [hret] at hfin
           simp only at hfin
           split at hfin
           . cases hfin
           . split at hfin <;> cases hfin
           . rename_i hd
             split at hfin
             . rename_i hcs
               exact ⟨hret, hd, hcs⟩
             . split at hfin
               . cases hfin
               . split at hfin
                 . cases hfin
                 . split at hfin <;> cases hfin
          obtain ⟨e1, e2, e3⟩ := hend
          obtain ⟨fr, cs, w, rfl, hF, hall, hH, hB, h0⟩ := h1.ex
          rw [e3] at hall
          simp only [QU] at hall
          subst hall
          obtain ⟨hb, h'⟩ := hF
          rw [e1] at h'
          simp only at h'
          obtain ⟨hm, htm, hcur⟩ := h'
          have hdf := hb.defers
          rw [e2] at hdf
          simp only [Q16] at hdf
          obtain ⟨u, hu, hr⟩ := J3 (P := P) hT hH htm hv
          exact ⟨Y, fr, w, s1.ctx, v, u, .refl P _, Ext.le.refl Y, h1.ctx, he, hr, hB, hb.fn.trans hf, hm, hdf, hb.kind, fn, by rw [hb.fn]; exact (hT.funcs _ _ hfn).1, hu⟩
        . cases he
      . cases he
    . rename_i op a b hask
      simp only [Bool.and_eq_true] at he
      obtain ⟨⟨ka, kb⟩, he⟩ := he
      obtain ⟨v, hv⟩ := h1.ask op ka kb
      refine fin rfl ?_
      cases v with
      | true => exact YB hT hI hS hsp d he.1 hv
      | false => exact YB hT hI hS hsp d he.2 hv
    . cases he
end
def Told (P : Program) (ng : Nat) (f : FuncId) (args : List Sp) (res : Sp) : Prop :=
 ∀ (w : World) (vs : Array Value), ng <= w.heap.size -> Sp.Q7q args vs.toList -> Calls P f vs w (λ e w' => ∃ u, e = .returned u /\ res.has u /\ Below w.heap.size w w')
def Ext.base (ng : Nat) : Ext := ⟨λ b => if b < ng then some ⟨b, 0, 0⟩ else none, ⟨λ _ => 0, λ _ => []⟩⟩
noncomputable def Q8t (H : Tr Q6) (n : Nat) (m : Nat) : Nat -> Bool
 | 0 => Nat.ble m n
 | k + 1 => bif Nat.ble m n then true else (match H.get n with | none => QC (n + 1) λ n => Q8t H n m k | some _ => false)
theorem qO {H : Tr Q6} {m : Nat} : ∀ {k n : Nat}, Q8t H n m k = true -> ∀ b, n <= b -> b < m -> H.get b = none
 | 0, n, h, b, h1, h2 => by simp only [Q8t, Nat.ble_eq] at h; omega
 | k + 1, n, h, b, h1, h2 => by
  simp only [Q8t, sNat_eq] at h
  cases hb : Nat.ble m n with
  | true => have : m <= n := by simpa using hb
            omega
  | false =>
   rw [hb] at h
   simp only [cond_false] at h
   split at h
   . rename_i hg
     by_cases e : b = n
     . subst e; exact hg
     . exact qO h b (by omega) h2
   . cases h
noncomputable def Q5f (args : List Sp) (res : Sp) : Ctx -> Tr Q6 -> Nat -> List AV -> D SR := λ c H next as =>
 bif Sp.jB c args as then
  match res.inst next with
  | some r => bif Q8t H next r.next 64 then .ok ⟨r.v, H, r.next, ⟨r.fs ++ c.fs, r.vs ++ c.vs⟩⟩ else .fail
  | none => .fail
 else .fail
theorem Qg7 {P : Program} {G : Env} {n0 : Nat} (hng : 0 < G.T.ng) {f : FuncId} {args : List Sp} {res : Sp} (h : Told P G.T.ng f args res) : ZE P G n0 f (Q5f args res) := by
 intro c X H next w as vs r hr hc hg hH h0 hfr hargs fr cs
 unfold Q5f at hr
 cases hk : Sp.jB c args as with
 | false => rw [hk] at hr; cases hr
 | true =>
  rw [hk] at hr
  simp only [cond_true] at hr
  split at hr
  . rename_i q hq
    cases hb : Q8t H next q.next 64 with
    | false => rw [hb] at hr; cases hr
    | true =>
     rw [hb] at hr
     cases hr
     have hfree := qO hb
     have hhas := Sp.QS hc hk hargs
     have hsz : G.T.ng <= w.heap.size := by
      obtain ⟨n, hn⟩ := hg (G.T.ng - 1) (by omega)
      have := hH.lt _ _ hn
      simp only at this
      omega
     have hcall := h w vs hsz hhas
     obtain ⟨u, w', ⟨g2, g3⟩, g1⟩ := Ze hcall fr cs
     obtain ⟨n, hn⟩ := hg 0 hng
     obtain ⟨Y, hN, hrel⟩ := Sp.jq (p := ⟨0, 0, n⟩) hq g2 hfr
     have h0' : (0 : Nat) < w.heap.size := by
      have := hH.lt _ _ hn
      simpa using this
     refine ⟨Y, u, w', g1, hN.le, hrel, ?_, g3.mono h0, λ b hb hlt => ⟨by rw [hN.old b hlt]; exact hb, rfl⟩, hN.nm, hN.free, ?_⟩
     . have hold : ∀ b o p, H.get b = some o -> Y.V b = some p -> X.V b = some p := by
        intro b o p ho hp
        by_cases h1 : b < next
        . rw [<- hN.old b h1]; exact hp
        . by_cases h2 : b < q.next
          . rw [hfree b (by omega) h2] at ho; cases ho
          . rw [hN.free b (by omega)] at hp; cases hp
       refine ⟨λ b o p ho hp => ?_, λ b b' o o' p p' ho ho' hl hl' hp hp' he => hH.inj b b' o o' p p' ho ho' hl hl' (hold b o p ho hp) (hold b' o' p' ho' hp') he, λ b p hp => ?_, λ b o p ho hr hp => hH.own b o p ho hr (hold b o p ho hp)⟩
       . have hp' := hold b o p ho hp
         rw [g3.block _ (hH.lt _ _ hp')]
         exact Zl hN.le (hH.obj b o p ho hp')
       . refine Nat.lt_of_lt_of_le ?_ g3.size
         by_cases h1 : b < next
         . exact hH.lt b p (by rw [<- hN.old b h1]; exact hp)
         . by_cases h2 : b < q.next
           . rw [hN.new b (by omega) h2] at hp
             cases hp
             exact h0'
           . rw [hN.free b (by omega)] at hp; cases hp
     . refine ⟨λ i hi => ?_, λ fa hf => ?_⟩
       . rcases List.mem_append.1 hi with hi | hi
         . exact hN.vs i hi
         . exact hN.le.dom _ (hc.1 i hi)
       . rcases List.mem_append.1 hf with hf | hf
         . exact hN.fs fa hf
         . exact Facts.Q3w hN.le.dom hN.le.O hc.2 fa hf
  . cases hr
end Go.Ax
namespace Go.Ax
open Go.RowKit
abbrev Sum := Ctx -> Tr Q6 -> Nat -> List AV -> D SR
noncomputable def Qg6 : List (Nat × Sum) -> Nat -> Option Sum
 | [], _ => none
 | p :: l, f => bif Nat.beq p.1 f then some p.2 else Qg6 l f
def Qcm (P : Program) (T : Tab) (l : List (Nat × Sum)) : Prop :=
 ∀ p ∈ l, ∀ (G : Env) (n0 : Nat), G.T = T -> Qnt P G n0 p.1 p.2
theorem Qg5 {P : Program} {T : Tab} {I : List (TypeId × TypeId × Bool)} {l : List (Nat × Sum)} (h : Qcm P T l) (n0 : Nat) : ZX P ⟨T, I, Qg6 l⟩ n0 := by
 intro f S hf
 have : ∃ p ∈ l, p.1 = f /\ p.2 = S := by
  clear h
  induction l with
  | nil => cases hf
  | cons p l ih =>
   have hf' : (bif Nat.beq p.1 f then some p.2 else Qg6 l f) = some S := hf
   cases hb : Nat.beq p.1 f with
   | true =>
    rw [hb] at hf'
    simp only [cond_true, Option.some.injEq] at hf'
    exact ⟨p, by simp, by simpa using hb, hf'⟩
   | false =>
    rw [hb] at hf'
    obtain ⟨q, h1, h2⟩ := ih hf'
    exact ⟨q, by simp [h1], h2⟩
 obtain ⟨p, hp, rfl, rfl⟩ := this
 exact h p hp _ n0 rfl
theorem Qcm.cons {P : Program} {T : Tab} {p : Nat × Sum} {l : List (Nat × Sum)} (h1 : ∀ (G : Env) (n0 : Nat), G.T = T -> ZE P G n0 p.1 p.2) (h2 : ∀ args w, (callFunc p.1 args).run P w = .ok (.enter p.1 args) w) (h : Qcm P T l) : Qcm P T (p :: l) := by
 intro q hq
 rcases List.mem_cons.1 hq with rfl | hq
 . exact λ G n0 e => .inl ⟨h1 G n0 e, h2⟩
 . exact h q hq
theorem Qcm.ext {P : Program} {T : Tab} {p : Nat × Sum} {l : List (Nat × Sum)} (h1 : ∀ (G : Env) (n0 : Nat), G.T = T -> Qfv P G n0 p.1 p.2) (h : Qcm P T l) : Qcm P T (p :: l) := by
 intro q hq
 rcases List.mem_cons.1 hq with rfl | hq
 . exact λ G n0 e => .inr (h1 G n0 e)
 . exact h q hq
theorem Qcm.nil {P : Program} {T : Tab} : Qcm P T [] := λ p hp => by cases hp
theorem Qcm.told {P : Program} {T : Tab} (hng : 0 < T.ng) {f : FuncId} {args : List Sp} {res : Sp} (h : Told P T.ng f args res) : ∀ (G : Env) (n0 : Nat), G.T = T -> ZE P G n0 f (Q5f args res) :=
 λ G n0 e => by
  subst e
  exact Qg7 hng h
def spI : Sp := .int .i64 (-9223372036854775808) 9223372036854775807
noncomputable def Q8c : Sum := λ c H next as =>
 match as with
 | [.int _ (.lit _), _] => .fail
 | [.int .i64 e, .int .i64 (.lit (.ofNat n))] => bif Nat.ble 1 n && Nat.ble n 9223372036854775807 && spI.chk c (.int .i64 e) then .ok ⟨.int .i64 (.pk n e), H, next, c⟩ else .fail
 | _ => .fail
theorem Qbo {P : Program} {G : Env} {n0 : Nat} {f : FuncId}
 (h : ∀ (z : Int) (n : Nat) (w : World), -9223372036854775808 <= z -> z <= 9223372036854775807 -> 1 <= n -> n <= 9223372036854775807 -> Calls P f #[.int .i64 z, .int .i64 n] w λ e w' => e = .returned (.int .i64 (Q5x n z)) /\ w' = w) : ZE P G n0 f Q8c := by
 intro c X H next w as vs r hr hc hg hH h0 hfr hargs fr cs
 unfold Q8c at hr
 split at hr
 . cases hr
 . rename_i e n _
   cases hb : (Nat.ble 1 n && Nat.ble n 9223372036854775807 && spI.chk c (.int .i64 e)) with
   | false => rw [hb] at hr; cases hr
   | true =>
    rw [hb] at hr
    cases hr
    simp only [Bool.and_eq_true, Nat.ble_eq] at hb
    obtain ⟨u, vs', e1, h1, h2⟩ := Q8.1 hargs
    obtain ⟨v, vs'', rfl, h3, h4⟩ := Q8.1 h2
    have := rels_nil.1 h4
    subst this
    have hk := Sp.Q18 hc hb.2 h1
    simp only [AV.rel] at h1 h3
    obtain ⟨k1, rfl⟩ := h1
    obtain ⟨_, rfl⟩ := h3
    simp only [spI, Sp.has] at hk
    obtain ⟨z, hz, z0, z1⟩ := hk
    cases hz
    have hvs : vs = #[.int .i64 (e.den X.O), .int .i64 n] := by rw [<- Array.toList_inj]; exact e1
    subst hvs
    refine ⟨X, _, w, JI (h (e.den X.O) n w z0 z1 hb.1.1 hb.1.2) fr cs, Ext.le.refl X, ?_, hH, Below.refl _ _, λ b hb _ => ⟨hb, rfl⟩, Nat.le_refl _, hfr, hc⟩
    simp only [AV.rel]
    exact ⟨k1, rfl⟩
 . cases hr
end Go.Ax
namespace Go.Ax
open Go.RowKit
noncomputable def Jc (spec : Spec) (G : Env) (n : Nat) (f : FuncId) (q : Ctx -> AV -> Bool) (k : Nat) : Nat -> List Bool -> AM -> Bool
 | 0, _, _ => false
 | d + 1, p, s => match Qfw spec G n k s with
  | .go _ => false
  | .stop s => match ZF G s with
   | .fin => s.fr.ret && Nat.beq s.fr.fn f && (match G.T.funcs.get s.fr.fn with
    | some fn => match Jj G.T s.H fn s.fr.tm with
     | some v => q s.ctx v
     | none => false
    | none => false)
   | .ask op a b => a.okB s.ctx.vs && b.okB s.ctx.vs && (match p with
    | [] => Jc spec G n f q k d [] { s with ctx := s.ctx.add ⟨op, a, b, true⟩ } && Jc spec G n f q k d [] { s with ctx := s.ctx.add ⟨op, a, b, false⟩ }
    | true :: p => Jc spec G n f q k d p { s with ctx := s.ctx.add ⟨op, a, b, true⟩ }
    | false :: p => Jc spec G n f q k d p { s with ctx := s.ctx.add ⟨op, a, b, false⟩ })
   | _ => false
theorem jW {spec : Spec} {G : Env} {n : Nat} {f : FuncId} {q : Ctx -> AV -> Bool} {k : Nat} : ∀ (d : Nat) (s : AM), Jc spec G n f q k d [] s = Jb spec G n f q k d s
 | 0, _ => rfl
 | d + 1, s => by
  simp only [Jc, Jb]
  simp only [jW d]
  all_goals rfl
end Go.Ax
namespace Go.Ax
open Go.RowKit
theorem Qo.place {X : Ext} {n0 : Nat} {H : Tr Q6} {w : World} (h : Qo X n0 H w) {b : Nat} {o : Q6} {p : Place} (hb : X.V b = none) (hlt : p.blk < w.heap.size) (hn : n0 <= p.blk) (hfr : ∀ i q, X.V i = some q -> q.blk ≠ p.blk)
 (hr : zX (X.add b p) o p w.heap[p.blk]?) : Qo (X.add b p) n0 (H.set b o) w := by
 have hle := Ext.Zf (p := p) hb
 have key : ∀ i q, (X.add b p).V i = some q -> (i = b /\ q = p) \/ (i ≠ b /\ X.V i = some q) := by
  intro i q hq
  by_cases e : i = b
  . subst e; rw [Ext.add_same] at hq; exact .inl ⟨rfl, (Option.some.inj hq).symm⟩
  . rw [Ext.Z5 e] at hq; exact .inr ⟨e, hq⟩
 refine ⟨λ i o' q hi hq => ?_, λ i j o1 o2 q1 q2 hi hj l1 l2 hq1 hq2 e => ?_, λ i q hq => ?_, λ i o' q hi hl hq => ?_⟩
 . rcases key i q hq with ⟨rfl, rfl⟩ | ⟨e, hq'⟩
   . rw [Tr.get_set_same] at hi
     cases hi
     exact hr
   . rw [Tr.Q0 _ _ e] at hi
     exact Zl hle (h.obj i o' q hi hq')
 . rcases key i q1 hq1 with ⟨rfl, rfl⟩ | ⟨e1, hq1'⟩ <;> rcases key j q2 hq2 with ⟨rfl, rfl⟩ | ⟨e2, hq2'⟩
   . rfl
   . exact absurd e.symm (hfr _ _ hq2')
   . exact absurd e (hfr _ _ hq1')
   . rw [Tr.Q0 _ _ e1] at hi
     rw [Tr.Q0 _ _ e2] at hj
     exact h.inj i j o1 o2 q1 q2 hi hj l1 l2 hq1' hq2' e
 . rcases key i q hq with ⟨rfl, rfl⟩ | ⟨_, hq'⟩
   . exact hlt
   . exact h.lt i q hq'
 . rcases key i q hq with ⟨rfl, rfl⟩ | ⟨e, hq'⟩
   . exact hn
   . rw [Tr.Q0 _ _ e] at hi
     exact h.own i o' q hi hl hq'
theorem Qo.grow {X : Ext} {n0 : Nat} {H : Tr Q6} {w w' : World} (h : Qo X n0 H w) (hb : Below w.heap.size w w') : Qo X n0 H w' :=
 ⟨λ b o p hi hp => by rw [hb.block _ (h.lt _ _ hp)]; exact h.obj b o p hi hp, h.inj, λ b p hp => Nat.lt_of_lt_of_le (h.lt b p hp) hb.size, h.own⟩
theorem Q5y {α β : Type} {f : α -> β} {L' L : List β} (h : L'.Perm L) : ∀ es : List α, es.map f = L' -> ∃ l : List α, l.Perm es /\ l.map f = L := by
 induction h with
 | nil => intro es he; exact ⟨es, .refl _, he⟩
 | cons x _ ih =>
  intro es he
  cases es with
  | nil => simp at he
  | cons e es =>
   simp only [List.map_cons, List.cons.injEq] at he
   obtain ⟨l, h1, h2⟩ := ih es he.2
   exact ⟨e :: l, h1.cons e, by simp [he.1, h2]⟩
 | swap x y l =>
  intro es he
  match es, he with
  | a :: b :: es, he =>
   simp only [List.map_cons, List.cons.injEq] at he
   exact ⟨b :: a :: es, .swap _ _ _, by simp [he.1, he.2.1, he.2.2]⟩
 | trans _ _ ih1 ih2 =>
  intro es he
  obtain ⟨l, h1, h2⟩ := ih1 es he
  obtain ⟨l', h3, h4⟩ := ih2 l h2
  exact ⟨l', h3.trans h1, h4⟩
end Go.Ax
namespace Go.Ax
open Go.RowKit
inductive DV where
 | nums (l : List Nat)
 | typ (R b o : Nat)
noncomputable def DV.inB (ng : Nat) : DV -> Bool
 | .nums _ => true
 | .typ _ b _ => Nat.ble (b + 1) ng
structure Qb4 where
 ng : Nat
 m : Nat
 T : TypeId
 t : TypeId
 l : List (Nat × Nat)
 d : List (Nat × TypeId × DV)
noncomputable def Qmz (q : Nat × TypeId × DV) : Q6 := match q.2.2 with
 | .nums l => .cells (l.map λ n => .int .i64 (.lit (.ofNat n))) q.2.1 false false true
 | .typ R b o => .cells [.iface R (.agg [.ptr b o])] q.2.1 false false true
theorem Qkj (q : Nat × TypeId × DV) : (Qmz q).rw = false := by unfold Qmz; split <;> rfl
def DV.laid (ng : Nat) (c : Array Value) : DV -> Prop
 | .nums l => l.length <= c.size /\ ∀ (i n : Nat), l[i]? = some n -> c[i]? = some (.int .i64 (n : Int))
 | .typ R b o => 0 < c.size /\ b < ng /\ c[0]? = some (.iface R (.agg #[.pointer (some ⟨b, o, none⟩)]))
noncomputable def Qmy (room : Nat) : List (Nat × TypeId × DV) -> Tr Q6
 | [] => .sk room
 | q :: l => (Qmy room l).set q.1 (Qmz q)
noncomputable def Qhf (room : Nat) (T t : TypeId) (d : List (Nat × TypeId × DV)) : List (Nat × Nat) -> Tr Q6
 | [] => Qmy room d
 | e :: l => (Qhf room T t d l).set e.1 (.cells [.iface T (.ptr e.2 0)] t false false true)
structure Laid (E : Qb4) (A : Nat -> Addr) (N : Nat -> Nat) (w : World) : Prop where
 at_ : ∀ e ∈ E.l, e.1 < E.ng /\ E.ng <= e.2 /\ e.2 < E.ng + E.m /\ 0 < N e.1 /\ (A e.2).spot = none /\ ∃ c fr el, w.heap[e.1]? = some (.cells c el fr) /\ c.size = N e.1 /\ c[0]? = some (.iface E.T (.pointer (some (A e.2))))
 lt : ∀ b, E.ng <= b -> b < E.ng + E.m -> (A b).block < w.heap.size
 sz : E.ng <= w.heap.size
 dat : ∀ q ∈ E.d, q.1 < E.ng /\ ∃ c fr el, w.heap[q.1]? = some (.cells c el fr) /\ c.size = N q.1 /\ q.2.2.laid E.ng c
def errX (E : Qb4) (A : Nat -> Addr) (N : Nat -> Nat) : Ext :=
 ⟨λ b => if b < E.ng then some ⟨b, 0, N b⟩ else if b < E.ng + E.m then some ⟨(A b).block, (A b).off, 0⟩ else none, ⟨λ _ => 0, λ _ => []⟩⟩
theorem Qan {room : Nat} : ∀ {d : List (Nat × TypeId × DV)} {b : Nat} {o : Q6}, (Qmy room d).get b = some o -> ∃ q ∈ d, b = q.1 /\ o = Qmz q
 | [], b, o, h => by simp [Qmy] at h
 | q :: l, b, o, h => by
  simp only [Qmy] at h
  rw [Tr.Zq] at h
  by_cases hb : b = q.1
  . subst hb
    simp at h
    exact ⟨q, by simp, rfl, h.symm⟩
  . rw [if_neg hb] at h
    obtain ⟨q', h1, h2⟩ := Qan h
    exact ⟨q', by simp [h1], h2⟩
theorem yR {room : Nat} {T t : TypeId} {d : List (Nat × TypeId × DV)} : ∀ {l : List (Nat × Nat)} {b : Nat} {o : Q6}, (Qhf room T t d l).get b = some o -> (∃ id, (b, id) ∈ l /\ o = .cells [.iface T (.ptr id 0)] t false false true) \/ ∃ q ∈ d, b = q.1 /\ o = Qmz q
 | [], b, o, h => .inr (Qan h)
 | e :: l, b, o, h => by
  simp only [Qhf] at h
  rw [Tr.Zq] at h
  by_cases hb : b = e.1
  . subst hb
    simp at h
    exact .inl ⟨e.2, by simp, h.symm⟩
  . rw [if_neg hb] at h
    rcases yR h with ⟨id, h1, h2⟩ | h1
    . exact .inl ⟨id, by simp [h1], h2⟩
    . exact .inr h1
theorem Qet {E : Qb4} {A : Nat -> Addr} {N : Nat -> Nat} {w : World} (hl : Laid E A N w) {Y : Ext} {room : Nat} (hold : ∀ b, b < E.ng -> Y.V b = some ⟨b, 0, N b⟩) (hptr : ∀ b, E.ng <= b -> b < E.ng + E.m -> Y.V b = some ⟨(A b).block, (A b).off, 0⟩)
 (hlt : ∀ b p, Y.V b = some p -> p.blk < w.heap.size) : Qo Y w.heap.size (Qhf room E.T E.t E.d E.l) w := by
 have hin : ∀ {b o}, (Qhf room E.T E.t E.d E.l).get b = some o -> b < E.ng := λ hb => by
  rcases yR hb with ⟨id, hm, -⟩ | ⟨q, hq, rfl, -⟩
  . exact (hl.at_ _ hm).1
  . exact (hl.dat q hq).1
 refine ⟨λ b o p hb hp => ?_, λ b b' o o' p p' hb hb' _ _ hp hp' e => ?_, hlt, λ b o p hb hrw => ?_⟩
 . rw [hold b (hin hb)] at hp
   cases hp
   rcases yR hb with ⟨id, hm, rfl⟩ | ⟨q, hq, rfl, rfl⟩
   . obtain ⟨a1, a2, a3, a3', a4, c, fr, el, a5, a6, a7⟩ := hl.at_ _ hm
     simp only at a1 a2 a3 a3' a4 a5 a6 a7
     refine ⟨c, fr, ⟨_, a5, .inl rfl⟩, a6, by simp only [List.length_singleton]; omega, λ h => (by cases h), λ i x hx => ?_, .inl rfl, λ h => (by cases h)⟩
     cases i with
     | zero =>
      simp only [List.getElem?_cons_zero, Option.some.injEq] at hx
      subst hx
      refine ⟨_, by simpa using a7, ?_⟩
      simp only [AV.rel]
      refine ⟨_, rfl, _, hptr id a2 a3, ?_⟩
      simp only [Nat.add_zero]
      rw [<- a4]
     | succ i => simp at hx
   . obtain ⟨a1, c, fr, el, a5, a6, a7⟩ := hl.dat q hq
     obtain ⟨g, t, dv⟩ := q
     simp only at a1 a5 a6
     cases dv with
     | nums ns =>
      obtain ⟨a7, a8⟩ := a7
      refine ⟨c, fr, ⟨_, a5, .inl rfl⟩, a6, by simp only [List.length_map]; omega, λ h => (by cases h), λ i x hx => ?_, .inl rfl, λ h => (by cases h)⟩
      simp only [List.getElem?_map, Option.map_eq_some_iff] at hx
      obtain ⟨n, hn, rfl⟩ := hx
      exact ⟨_, by simpa using a8 i n hn, by simp only [AV.rel]; exact ⟨trivial, rfl⟩⟩
     | typ R k o =>
      obtain ⟨a7, b1, a8⟩ := a7
      refine ⟨c, fr, ⟨_, a5, .inl rfl⟩, a6, by simp only [List.length_singleton]; omega, λ h => (by cases h), λ i x hx => ?_, .inl rfl, λ h => (by cases h)⟩
      cases i with
      | zero =>
       simp only [List.getElem?_cons_zero, Option.some.injEq] at hx
       subst hx
       refine ⟨_, by simpa using a8, ?_⟩
       simp only [AV.rel]
       exact ⟨_, rfl, _, rfl, _, [], rfl, ⟨_, hold k b1, by simp only [Nat.zero_add]⟩, rfl⟩
      | succ i => simp at hx
 . rw [hold b (hin hb)] at hp
   rw [hold b' (hin hb')] at hp'
   cases hp
   cases hp'
   exact e
 . rcases yR hb with ⟨id, hm, rfl⟩ | ⟨q, hq, rfl, rfl⟩
   . cases hrw
   . rw [Qkj] at hrw; cases hrw
def Qns (P : Program) (E : Qb4) (f : FuncId) (args : List Sp) (res : Sp) : Prop :=
 ∀ (w : World) (A : Nat -> Addr) (N : Nat -> Nat) (vs : Array Value), Laid E A N w -> Sp.Q7q args vs.toList -> Calls P f vs w (λ e w' => ∃ u, e = .returned u /\ res.has u /\ Below w.heap.size w w')
noncomputable def Qc5 (T t : TypeId) (H : Tr Q6) : List (Nat × Nat) -> Bool
 | [] => true
 | e :: l => (match H.get e.1 with
  | some (.cells (.iface T' (.ptr b 0) :: _) t' _ _ _) => Nat.beq T' T && (Nat.beq t' t && Nat.beq b e.2)
  | _ => false) && Qc5 T t H l
theorem Q6n {T t : TypeId} {H : Tr Q6} : ∀ {l : List (Nat × Nat)}, Qc5 T t H l = true -> ∀ e ∈ l, ∃ r ex pl ro, H.get e.1 = some (.cells (.iface T (.ptr e.2 0) :: r) t ex pl ro)
 | [], _, e, he => by cases he
 | a :: l, h, e, he => by
  simp only [Qc5, Bool.and_eq_true] at h
  rcases List.mem_cons.1 he with rfl | he
  . obtain ⟨h1, -⟩ := h
    split at h1
    . rename_i T' b r t' ex pl ro hg
      simp only [Bool.and_eq_true, Nat.beq_eq] at h1
      obtain ⟨rfl, rfl, rfl⟩ := h1
      exact ⟨r, ex, pl, ro, hg⟩
    . cases h1
  . exact Q6n h.2 e he
noncomputable def Qh1 : List AV -> List Nat -> Bool
 | _, [] => true
 | .int .i64 (.lit (.ofNat m)) :: cs, n :: l => Nat.beq m n && Qh1 cs l
 | _, _ => false
theorem Q0l : ∀ {cs : List AV} {l : List Nat}, Qh1 cs l = true -> l.length <= cs.length /\ ∀ (i n : Nat), l[i]? = some n -> cs[i]? = some (.int .i64 (.lit (.ofNat n)))
 | cs, [], _ => ⟨by simp, λ i n h => by simp at h⟩
 | cs, n :: l, h => by
  unfold Qh1 at h
  split at h
  . rename_i h1; cases h1
  . rename_i m cs' n' l' h1
    cases h1
    simp only [Bool.and_eq_true, Nat.beq_eq] at h
    obtain ⟨rfl, h2⟩ := h
    obtain ⟨h3, h4⟩ := Q0l h2
    refine ⟨by simp; exact h3, λ i k hk => ?_⟩
    cases i with
    | zero => simp at hk; subst hk; rfl
    | succ i => simp at hk; simpa using h4 i k hk
  . cases h
noncomputable def datB (H : Tr Q6) (d : List (Nat × TypeId × DV)) : Bool :=
 d.all λ q => match q.2.2, H.get q.1 with
  | .nums l, some (.cells cs _ _ _ _) => Qh1 cs l
  | .typ R b o, some (.cells (.iface R' (.agg [.ptr b' o']) :: _) _ _ _ _) => Nat.beq R' R && (Nat.beq b' b && Nat.beq o' o)
  | _, _ => false
theorem Q8m {X : Ext} {n0 : Nat} {H : Tr Q6} {w : World} {E : Qb4} (hH : Qo X n0 H w) (hg : X.Qt E.ng) (hng : 0 < E.ng) (hB : Qc5 E.T E.t H E.l = true) (hD : datB H E.d = true) (hdn : ∀ q ∈ E.d, q.1 < E.ng /\ q.2.2.inB E.ng = true) (hin : ∀ e ∈ E.l, e.1 < E.ng /\ E.ng <= e.2 /\ e.2 < E.ng + E.m) : ∃ A N, Laid E A N w := by
 have hsz : E.ng <= w.heap.size := by
  obtain ⟨n, hn⟩ := hg (E.ng - 1) (by omega)
  have := hH.lt _ _ hn
  simp only at this
  omega
 refine ⟨λ b => match X.V b with | some p => ⟨p.blk, p.base, none⟩ | none => ⟨0, 0, none⟩, λ b => match X.V b with | some p => p.n | none => 0, λ e he => ?_, λ b h1 h2 => ?_, hsz, λ q hq => ?_⟩
 . obtain ⟨i1, i2, i3⟩ := hin e he
   obtain ⟨r, ex, pl, ro, hget⟩ := Q6n hB e he
   obtain ⟨n, hn⟩ := hg e.1 i1
   obtain ⟨c, fr, ⟨el', b1, bel⟩, b2, b3, b4, b5, b6, b7⟩ := hH.obj _ _ _ hget hn
   simp only at b1 b2 b3 b5 b6
   obtain ⟨v, c1, c2⟩ := b5 0 _ rfl
   simp only [AV.rel] at c2
   obtain ⟨u, rfl, p, hp, rfl⟩ := c2
   simp only [List.length_cons] at b3
   refine ⟨i1, i2, i3, ?_, ?_, c, fr, el', b1, ?_, ?_⟩
   . simp only [hn]; omega
   . simp only [hp]
   . simp only [hn]; exact b2
   . simp only [hp]; simpa using c1
 . cases hp : X.V b with
   | some p => simp only; exact hH.lt _ _ hp
   | none => simp only; omega
 . obtain ⟨hq1, hq2⟩ := hdn q hq
   have hb := List.all_eq_true.1 hD q hq
   obtain ⟨g, t, dv⟩ := q
   simp only at hq1 hq2 hb
   split at hb
   . rename_i l cs el ex pl ro hget
     obtain ⟨n, hn⟩ := hg g hq1
     obtain ⟨c, fr, ⟨el', b1, bel⟩, b2, b3, b4, b5, b6, b7⟩ := hH.obj _ _ _ hget hn
     simp only at b1 b2 b3 b5 b6
     obtain ⟨l1, l2⟩ := Q0l hb
     refine ⟨hq1, c, fr, el', b1, ?_, by omega, λ i k hk => ?_⟩
     . simp only [hn]; exact b2
     . obtain ⟨v, c1, c2⟩ := b5 i _ (l2 i k hk)
       simp only [AV.rel] at c2
       obtain ⟨-, rfl⟩ := c2
       simp only [Nat.zero_add] at c1
       exact c1
   . rename_i R k o R' k' o' r el ex pl ro hget
     simp only [Bool.and_eq_true, Nat.beq_eq] at hb
     obtain ⟨rfl, rfl, rfl⟩ := hb
     simp only [DV.inB, Nat.ble_eq] at hq2
     obtain ⟨n, hn⟩ := hg g hq1
     obtain ⟨n', hn'⟩ := hg k' (by omega)
     obtain ⟨c, fr, ⟨el', b1, bel⟩, b2, b3, b4, b5, b6, b7⟩ := hH.obj _ _ _ hget hn
     simp only at b1 b2 b3 b5 b6
     obtain ⟨v, c1, c2⟩ := b5 0 _ rfl
     simp only [AV.rel] at c2
     obtain ⟨u, rfl, vs, rfl, c3⟩ := c2
     obtain ⟨x, xs, e1, c5, c4⟩ := Q8.1 c3
     simp only [AV.rel] at c5
     obtain ⟨p, hp, rfl⟩ := c5
     rw [hn'] at hp
     cases hp
     rw [rels_nil] at c4
     subst c4
     simp only [List.length_cons] at b3
     refine ⟨hq1, c, fr, el', b1, ?_, by omega, by omega, ?_⟩
     . simp only [hn]; exact b2
     . have : vs = #[.pointer (some ⟨k', o', none⟩)] := by
        apply Array.ext'
        rw [e1]
        simp only [Nat.zero_add]
       rw [this] at c1
       simpa using c1
   . cases hb
noncomputable def sumE (E : Qb4) (args : List Sp) (res : Sp) : Sum := λ c H next as =>
 bif Qc5 E.T E.t H E.l && datB H E.d then Q5f args res c H next as else .fail
noncomputable def Qb4.inB (E : Qb4) : Bool := (E.l.all λ e => Nat.ble (e.1 + 1) E.ng && (Nat.ble E.ng e.2 && Nat.ble (e.2 + 1) (E.ng + E.m))) && E.d.all λ q => Nat.ble (q.1 + 1) E.ng && q.2.2.inB E.ng
theorem Qb9 {P : Program} {G : Env} {n0 : Nat} (hng : 0 < G.T.ng) {f : FuncId} {args : List Sp} {res : Sp} {c : Ctx} {X : Ext} {H : Tr Q6} {next : Nat} {w : World} {as : List AV} {vs : Array Value} {r : SR}
 (h : Sp.Q7q args vs.toList -> Calls P f vs w (λ e w' => ∃ u, e = .returned u /\ res.has u /\ Below w.heap.size w w')) (hr : Q5f args res c H next as = .ok r) (hc : c.okN X.dom X.O) (hg : X.Qt G.T.ng) (hH : Qo X n0 H w) (h0 : n0 <= w.heap.size) (hfr : ∀ b, next <= b -> X.V b = none) (hargs : AV.QI X as vs.toList)
 (fr : Frame) (cs : List Frame) : ∃ Y u w', Steps P (lone (Frame.enter P f vs .normal) (fr :: cs) w) (lone (fr.finish u) cs w') /\ X.le Y /\ r.v.rel Y u /\ Qo Y n0 r.H w' /\ Below n0 w w' /\
  (∀ b, X.V b = none -> b < next -> Y.V b = none /\ r.H.get b = H.get b) /\ next <= r.next /\ (∀ b, r.next <= b -> Y.V b = none) /\ r.ctx.okN Y.dom Y.O := by
 unfold Q5f at hr
 cases hk : Sp.jB c args as with
 | false => rw [hk] at hr; cases hr
 | true =>
  rw [hk] at hr
  simp only [cond_true] at hr
  split at hr
  . rename_i q hq
    cases hb : Q8t H next q.next 64 with
    | false => rw [hb] at hr; cases hr
    | true =>
     rw [hb] at hr
     cases hr
     have hfree := qO hb
     have hhas := Sp.QS hc hk hargs
     obtain ⟨u, w', ⟨g2, g3⟩, g1⟩ := Ze (h hhas) fr cs
     obtain ⟨n, hn⟩ := hg 0 hng
     obtain ⟨Y, hN, hrel⟩ := Sp.jq (p := ⟨0, 0, n⟩) hq g2 hfr
     have h0' : (0 : Nat) < w.heap.size := by
      have := hH.lt _ _ hn
      simpa using this
     refine ⟨Y, u, w', g1, hN.le, hrel, ?_, g3.mono h0, λ b hb hlt => ⟨by rw [hN.old b hlt]; exact hb, rfl⟩, hN.nm, hN.free, ?_⟩
     . have hold : ∀ b o p, H.get b = some o -> Y.V b = some p -> X.V b = some p := by
        intro b o p ho hp
        by_cases h1 : b < next
        . rw [<- hN.old b h1]; exact hp
        . by_cases h2 : b < q.next
          . rw [hfree b (by omega) h2] at ho; cases ho
          . rw [hN.free b (by omega)] at hp; cases hp
       refine ⟨λ b o p ho hp => ?_, λ b b' o o' p p' ho ho' hl hl' hp hp' he => hH.inj b b' o o' p p' ho ho' hl hl' (hold b o p ho hp) (hold b' o' p' ho' hp') he, λ b p hp => ?_, λ b o p ho hr hp => hH.own b o p ho hr (hold b o p ho hp)⟩
       . have hp' := hold b o p ho hp
         rw [g3.block _ (hH.lt _ _ hp')]
         exact Zl hN.le (hH.obj b o p ho hp')
       . refine Nat.lt_of_lt_of_le ?_ g3.size
         by_cases h1 : b < next
         . exact hH.lt b p (by rw [<- hN.old b h1]; exact hp)
         . by_cases h2 : b < q.next
           . rw [hN.new b (by omega) h2] at hp
             cases hp
             exact h0'
           . rw [hN.free b (by omega)] at hp; cases hp
     . refine ⟨λ i hi => ?_, λ fa hf => ?_⟩
       . rcases List.mem_append.1 hi with hi | hi
         . exact hN.vs i hi
         . exact hN.le.dom _ (hc.1 i hi)
       . rcases List.mem_append.1 hf with hf | hf
         . exact hN.fs fa hf
         . exact Facts.Q3w hN.le.dom hN.le.O hc.2 fa hf
  . cases hr
theorem sumE_ok {P : Program} {G : Env} {n0 : Nat} {E : Qb4} (hE : E.ng = G.T.ng) (hng : 0 < E.ng) (hin : E.inB = true) {f : FuncId} {args : List Sp} {res : Sp} (h : Qns P E f args res) : ZE P G n0 f (sumE E args res) := by
 intro c X H next w as vs r hr hc hg hH h0 hfr hargs fr cs
 unfold sumE at hr
 cases hB : (Qc5 E.T E.t H E.l && datB H E.d) with
 | false => rw [hB] at hr; cases hr
 | true =>
  rw [hB] at hr
  simp only [cond_true] at hr
  simp only [Bool.and_eq_true] at hB
  unfold Qb4.inB at hin
  rw [Bool.and_eq_true] at hin
  have hin' : ∀ e ∈ E.l, e.1 < E.ng /\ E.ng <= e.2 /\ e.2 < E.ng + E.m := λ e he => by
   have := List.all_eq_true.1 hin.1 e he
   simp only [Bool.and_eq_true, Nat.ble_eq] at this
   omega
  obtain ⟨A, N, hl⟩ := Q8m hH (by rw [hE]; exact hg) hng hB.1 hB.2 (λ q hq => by have := List.all_eq_true.1 hin.2 q hq; rw [Bool.and_eq_true, Nat.ble_eq] at this; exact ⟨by omega, this.2⟩) hin'
  exact Qb9 (by omega) (h w A N vs hl) hr hc hg hH h0 hfr hargs fr cs
end Go.Ax
namespace Go.Ax
open Go.RowKit
def spTy (P : Program) (u : TypeId) : Option Sp :=
 match P.underlying u with
 | some (.int k) => some (.int k k.min k.max)
 | some .string => some (.str 9223372036854775807)
 | some .bool => some .bool
 | _ => none
theorem Q8q {P : Program} {w : World} {r : _root_.Go.Reach} {base : Nat} {u : TypeId} {v : Value} {s : Sp} (h : Cell.okWide P w r base u v) (hs : spTy P u = some s) : s.has v := by
 unfold spTy at hs
 unfold Cell.okWide at h
 split at hs
 . rename_i k hk
   cases hs
   rw [hk] at h
   simp only at h
   unfold Cell.ok at h
   rw [hk] at h
   cases v <;> simp only at h
   rename_i k' n
   obtain ⟨rfl, h1, h2⟩ := h
   simp only [Sp.has]
   exact ⟨n, rfl, h1, h2⟩
 . rename_i hk
   cases hs
   rw [hk] at h
   simp only at h
   unfold Cell.ok at h
   rw [hk] at h
   cases v <;> simp only at h
   rename_i b
   simp only [Sp.has]
   refine ⟨b, rfl, ?_⟩
   have : IntKind.i64.max = 9223372036854775807 := rfl
   omega
 . rename_i hk
   cases hs
   rw [hk] at h
   simp only at h
   unfold Cell.ok at h
   rw [hk] at h
   cases v <;> simp only at h
   rename_i b
   simp only [Sp.has]
   exact ⟨b, rfl⟩
 . cases hs
def Qd5 (P : Program) : List TypeId -> Option (List Sp)
 | [] => some []
 | u :: l => match spTy P u, Qd5 P l with
  | some s, some ss => some (s :: ss)
  | _, _ => none
theorem zK {P : Program} {w : World} {r : _root_.Go.Reach} {base : Nat} : ∀ {ts : List TypeId} {vs : List Value} {sps : List Sp}, vs.length = ts.length -> (∀ (i : Nat) (v : Value), vs[i]? = some v -> ∃ u, ts[i]? = some u /\ Cell.okWide P w r base u v) -> Qd5 P ts = some sps -> Sp.Q7q sps vs
 | [], vs, sps, hl, h, hs => by
  simp only [Qd5, Option.some.injEq] at hs
  subst hs
  simp only [Sp.Q7q]
  exact List.length_eq_zero_iff.1 hl
 | u :: ts, [], sps, hl, h, hs => by simp at hl
 | u :: ts, v :: vs, sps, hl, h, hs => by
  simp only [Qd5] at hs
  split at hs
  . rename_i s ss h1 h2
    cases hs
    simp only [Sp.Q7q]
    obtain ⟨u', e, hc⟩ := h 0 v rfl
    cases e
    exact ⟨v, vs, rfl, Q8q hc h1, zK (by simpa using hl) (λ i x hx => by simpa using h (i + 1) x (by simpa using hx)) h2⟩
  . cases hs
theorem Qk8 {P : Program} {w : World} {r : _root_.Go.Reach} {base : Nat} {t : TypeId} {v : Value} {fs : Array Field} {ts : List TypeId} {sps : List Sp} (h : Value.okWide P w r base t v) (ht : P.underlying t = some (.struct fs)) (hc : P.cellTypes P.depth t = some ts) (hn : P.cellsOf t = ts.length) (hs : Qd5 P ts = some sps) : (Sp.agg sps).has v := by
 simp only [Value.okWide, ht] at h
 obtain ⟨cs, rfl, h2, ts', h3, -, h4⟩ := h
 rw [hc] at h3
 cases h3
 simp only [Sp.has]
 have hl : cs.toList.length = ts.length := by rw [Array.length_toList, h2, hn]
 refine ⟨cs, rfl, zK (w := w) (r := r) (base := base) hl (λ i x hx => ?_) hs⟩
 have hi : i < ts.length := by
  have := (List.getElem?_eq_some_iff.1 hx).1
  omega
 obtain ⟨u, h5, h6⟩ := h4 i x (by simpa using hx)
 rw [Nat.mod_eq_of_lt hi] at h5
 exact ⟨u, h5, h6⟩
end Go.Ax
