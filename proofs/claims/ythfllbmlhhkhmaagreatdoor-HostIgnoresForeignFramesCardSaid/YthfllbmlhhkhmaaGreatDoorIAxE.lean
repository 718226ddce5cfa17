/-
  THE ABSTRACT EXECUTOR, 39: the same machine, quicker for the kernel: statements and flow of control in one go. Conditions: none.
-/
import Derived.Test.YthfllbmlhhkhmaaGreatDoorIAxD
import Derived.RowKit
import Derived.WideShapes
namespace Go.Ax
open Go.RowKit
inductive Box (α : Type) where
  | mk (a : α)
inductive RR where
  | mk (tm : Tr AV) (H : Tr AObj) (nx : Nat) (j : Nat) (rest : List Oper)
abbrev RK := Tr AV → Tr AObj → Nat → RR
abbrev RC := Ctx → Tr AV → Tr AObj → Nat → RK → RR → RR
noncomputable def putB (nt : Nat) (dst : Option Nat) : Option (Box (Tr AV → AV → Tr AV)) :=
  match dst with
  | none => some (.mk fun tm _ => tm)
  | some d => bif Nat.blt d nt then some (.mk fun tm v => tm.set d v) else none
noncomputable def genOk (r : LR) : (Tr AV → AV → Tr AV) → Tr AV → Tr AObj → Nat → RK → RR :=
  match r with
  | .val v => fun put tm H nx k => k (put tm v) H nx
  | .ptr o => fun put tm H nx k => sNat (nx + 1) fun n => k (put tm (.ptr nx 0)) (H.set nx o) n
  | .slc o len cap es ex => fun put tm H nx k => sNat (nx + 1) fun n => k (put tm (.slice nx 0 len cap es ex)) (H.set nx o) n
  | .map => fun put tm H nx k => sNat (nx + 1) fun n => k (put tm (.map nx)) (H.set nx (.map [] 0)) n
noncomputable def genHeavy (d : D HR) : (Tr AV → AV → Tr AV) → Tr AV → RK → RR → RR :=
  match d with
  | .ok r => fun put tm k _ => HR.rec (motive := fun _ => RR) (fun v H n => k (put tm v) H n) r
  | .ask _ _ _ => fun _ _ _ z => z
  | .fail => fun _ _ _ z => z
noncomputable def genLight (d : D LR) : Env → Oper → (Tr AV → AV → Tr AV) → Ctx → Tr AV → Tr AObj → Nat → RK → RR → RR :=
  match d with
  | .ok r => fun _ _ put _ tm H nx k _ => genOk r put tm H nx k
  | .ask _ _ _ => fun _ _ _ _ _ _ _ _ z => z
  | .fail => fun G o put c tm H nx k z => genHeavy (heavyOp G c H nx (ev G.T.ng tm) o.op) put tm k z
noncomputable def genC (G : Env) (o : Oper) (put : Tr AV → AV → Tr AV) : RC := fun c tm H nx k z =>
  genLight (light G.T G.I c H (ev G.T.ng tm) o.op) G o put c tm H nx k z
inductive GI where
  | always
  | never
  | slot (d : Nat) (want : Bool)
def guardOf (ops : List Oper) (o : Oper) : GI :=
  match o.guard with
  | none => .always
  | some (j, want) => match opAt ops j with
    | none => .never
    | some g => match g.dst with
      | none => .never
      | some d => .slot d want
noncomputable def boolV (a : AV) : Bool → RR → RR → RR :=
  match a with
  | .bool b => fun want y n => bif b == want then y else n
  | _ => fun _ _ n => n
noncomputable def boolAt (v : Option AV) : Bool → RR → RR → RR :=
  match v with
  | some a => fun want y n => boolV a want y n
  | none => fun _ _ n => n
noncomputable def guardC (gi : GI) (put : Tr AV → AV → Tr AV) (g : RC) : RC :=
  match gi with
  | .always => g
  | .never => fun _ tm H nx k _ => k (put tm .undef) H nx
  | .slot d want => fun c tm H nx k z => boolAt (tm.get d) want (g c tm H nx k z) (k (put tm .undef) H nx)
noncomputable def guardB (gi : GI) (put : Tr AV → AV → Tr AV) (g : RC) : Box RC :=
  match gi with
  | .always => .mk g
  | .never => .mk fun _ tm H nx k _ => k (put tm .undef) H nx
  | .slot d want => .mk fun c tm H nx k z => boolAt (tm.get d) want (g c tm H nx k z) (k (put tm .undef) H nx)
theorem guardB_eq (gi : GI) (put : Tr AV → AV → Tr AV) (g : RC) : guardB gi put g = .mk (guardC gi put g) := by cases gi <;> rfl
noncomputable def compO (spec : Env → Nat → Oper → Option (Box RC)) (G : Env) (nt : Nat) (ops : List Oper) (o : Oper) : Box RC :=
  match putB nt o.dst with
  | none => .mk fun _ _ _ _ _ z => z
  | some (.mk put) => match spec G nt o with
    | some (.mk g) => guardB (guardOf ops o) put g
    | none => guardB (guardOf ops o) put (genC G o put)
noncomputable def consB (o : Oper) (os : List Oper) (j : Nat) (g : Box RC) (h : Box (Ctx → RK)) : Box (Ctx → RK) :=
  match g, h with
  | .mk g, .mk h => .mk fun c tm H nx => g c tm H nx (h c) (.mk tm H nx j (o :: os))
noncomputable def compL (spec : Env → Nat → Oper → Option (Box RC)) (G : Env) (nt : Nat) (ops : List Oper) : List Oper → Nat → Box (Ctx → RK)
  | [], j => .mk fun _ tm H nx => .mk tm H nx j []
  | o :: os, j => consB o os j (compO spec G nt ops o) (compL spec G nt ops os (j + 1))
inductive AReach (G : Env) : AM → AM → Prop where
  | refl (s : AM) : AReach G s s
  | step {s s' t : AM} : astep G s = .next s' → AReach G s' t → AReach G s t
theorem AReach.trans {G : Env} {s t u : AM} (h : AReach G s t) (h' : AReach G t u) : AReach G s u := by
  induction h with
  | refl => exact h'
  | step e _ ih => exact .step e (ih h')
theorem AReach.one {G : Env} {s t : AM} (h : astep G s = .next t) : AReach G s t := .step h (.refl t)
structure Rest where
  fn : Nat
  nt : Nat
  defers : List ADf
  ro : Option Nat
  cs : List AFrame
  ctx : Ctx
abbrev mkS (R : Rest) (tm : Tr AV) (cur : ACur) (todo : List AItem) (H : Tr AObj) (nx : Nat) : AM :=
  ⟨⟨R.fn, R.nt, tm, cur, todo, R.defers, false, R.ro⟩, R.cs, H, nx, R.ctx⟩
def OpStep (G : Env) (nt : Nat) (ops : List Oper) (o : Oper) (c : Ctx) (tm : Tr AV) (H : Tr AObj) (nx : Nat) (tm' : Tr AV) (H' : Tr AObj) (nx' : Nat) : Prop :=
  ∀ (R : Rest) (todo : List AItem) (j : Nat) (rest : List Oper), R.nt = nt → R.ctx = c → astep G (mkS R tm (.reg ops j (o :: rest)) todo H nx) = .next (mkS R tm' (.reg ops (j + 1) rest) todo H' nx')
def RCok (G : Env) (nt : Nat) (ops : List Oper) (o : Oper) (g : RC) : Prop :=
  ∀ c tm H nx (k : RK) (z : RR), g c tm H nx k z = z ∨ ∃ tm' H' nx', OpStep G nt ops o c tm H nx tm' H' nx' ∧ g c tm H nx k z = k tm' H' nx'
def RCwant (G : Env) (nt : Nat) (ops : List Oper) (o : Oper) (g : RC) : Prop :=
  ∀ c tm H nx (k : RK) (z : RR), awant ops tm o = true → g c tm H nx k z = z ∨ ∃ tm' H' nx', OpStep G nt ops o c tm H nx tm' H' nx' ∧ g c tm H nx k z = k tm' H' nx'
def PutOK (nt : Nat) (dst : Option Nat) (put : Tr AV → AV → Tr AV) : Prop := ∀ tm v, aput nt tm dst v = some (put tm v)
theorem putB_ok {nt : Nat} {dst : Option Nat} {put : Tr AV → AV → Tr AV} (h : putB nt dst = some (.mk put)) : PutOK nt dst put := by
  intro tm v
  unfold putB at h
  cases dst with
  | none => simp only [Option.some.injEq, Box.mk.injEq] at h; subst h; rfl
  | some d =>
    simp only at h
    cases hb : Nat.blt d nt with
    | false => rw [hb] at h; cases h
    | true => rw [hb] at h; simp only [cond_true, Option.some.injEq, Box.mk.injEq] at h; subst h; simp only [aput, hb, cond_true]
theorem advance_reg {G : Env} {R : Rest} {tm : Tr AV} {ops : List Oper} {j : Nat} {o : Oper} {rest : List Oper} {todo : List AItem} {H0 : Tr AObj} {nx0 : Nat} {put : Tr AV → AV → Tr AV} (hp : PutOK R.nt o.dst put) (v : AV) (H : Tr AObj) (nx : Nat) :
    advance G (mkS R tm (.reg ops j (o :: rest)) todo H0 nx0) ⟨v, H, nx⟩ = .next (mkS R (put tm v) (.reg ops (j + 1) rest) todo H nx) := by
  simp only [advance, afinish, hp tm v, sNat_eq]
theorem opStep_skip {G : Env} {nt : Nat} {ops : List Oper} {o : Oper} {put : Tr AV → AV → Tr AV} (hp : PutOK nt o.dst put) {c : Ctx} {tm : Tr AV} (H : Tr AObj) (nx : Nat) (hw : awant ops tm o = false) : OpStep G nt ops o c tm H nx (put tm .undef) H nx := by
  intro R todo j rest hnt hc
  subst hnt
  simp only [astep, hw, cond_false]
  exact advance_reg hp _ _ _
theorem opStep_val {G : Env} {nt : Nat} {ops : List Oper} {o : Oper} {put : Tr AV → AV → Tr AV} (hp : PutOK nt o.dst put) {c : Ctx} {tm : Tr AV} {H : Tr AObj} (nx : Nat) (hw : awant ops tm o = true) {v : AV}
    (h : light G.T G.I c H (ev G.T.ng tm) o.op = .ok (.val v)) : OpStep G nt ops o c tm H nx (put tm v) H nx := by
  intro R todo j rest hnt hc
  subst hnt
  subst hc
  simp only [astep, hw, cond_true, h, LR.obj, LR.value]
  exact advance_reg hp _ _ _
theorem opStep_obj {G : Env} {nt : Nat} {ops : List Oper} {o : Oper} {put : Tr AV → AV → Tr AV} (hp : PutOK nt o.dst put) {c : Ctx} {tm : Tr AV} {H : Tr AObj} (nx : Nat) (hw : awant ops tm o = true) {r : LR} {ob : AObj}
    (h : light G.T G.I c H (ev G.T.ng tm) o.op = .ok r) (ho : r.obj = some ob) : OpStep G nt ops o c tm H nx (put tm (r.value nx)) (H.set nx ob) (nx + 1) := by
  intro R todo j rest hnt hc
  subst hnt
  subst hc
  simp only [astep, hw, cond_true, h, ho, sNat_eq]
  exact advance_reg hp _ _ _
theorem opStep_heavy {G : Env} {nt : Nat} {ops : List Oper} {o : Oper} {put : Tr AV → AV → Tr AV} (hp : PutOK nt o.dst put) {c : Ctx} {tm : Tr AV} {H : Tr AObj} (nx : Nat) (hw : awant ops tm o = true) {r : HR}
    (h : light G.T G.I c H (ev G.T.ng tm) o.op = .fail) (ho : heavyOp G c H nx (ev G.T.ng tm) o.op = .ok r) : OpStep G nt ops o c tm H nx (put tm r.v) r.H r.next := by
  intro R todo j rest hnt hc
  subst hnt
  subst hc
  simp only [astep, hw, cond_true, h, ho]
  exact advance_reg hp _ _ _
theorem genC_ok {G : Env} {nt : Nat} {ops : List Oper} {o : Oper} {put : Tr AV → AV → Tr AV} (hp : PutOK nt o.dst put) : RCwant G nt ops o (genC G o put) := by
  intro c tm H nx k z hw
  unfold genC
  cases hl : light G.T G.I c H (ev G.T.ng tm) o.op with
  | ok r =>
    right
    cases r with
    | val v => exact ⟨_, _, _, opStep_val hp nx hw hl, rfl⟩
    | ptr ob => exact ⟨_, _, _, opStep_obj hp nx hw hl rfl, rfl⟩
    | slc ob len cap es ex => exact ⟨_, _, _, opStep_obj hp nx hw hl rfl, rfl⟩
    | map => exact ⟨_, _, _, opStep_obj hp nx hw hl rfl, rfl⟩
  | ask op a b => exact .inl rfl
  | fail =>
    cases hh : heavyOp G c H nx (ev G.T.ng tm) o.op with
    | ok r =>
      right
      refine ⟨_, _, _, opStep_heavy hp nx hw hl hh, ?_⟩
      simp only [genLight, hh, genHeavy]
    | ask op a b => left; simp only [genLight, hh, genHeavy]
    | fail => left; simp only [genLight, hh, genHeavy]
theorem guardC_ok {G : Env} {nt : Nat} {ops : List Oper} {o : Oper} {put : Tr AV → AV → Tr AV} (hp : PutOK nt o.dst put) {g : RC} (hg : RCwant G nt ops o g) : RCok G nt ops o (guardC (guardOf ops o) put g) := by
  intro c tm H nx k z
  unfold guardOf
  cases hgd : o.guard with
  | none => exact hg c tm H nx k z (by simp only [awant, hgd])
  | some p =>
    obtain ⟨j, want⟩ := p
    simp only
    cases hj : opAt ops j with
    | none =>
      right
      exact ⟨_, _, _, opStep_skip hp H nx (by simp only [awant, hgd, hj]), rfl⟩
    | some q =>
      simp only
      cases hd : q.dst with
      | none =>
        right
        exact ⟨_, _, _, opStep_skip hp H nx (by simp only [awant, hgd, hj, hd]), rfl⟩
      | some d =>
        simp only [guardC]
        have hno : awant ops tm o = false → (k (put tm .undef) H nx = z ∨ ∃ tm' H' nx', OpStep G nt ops o c tm H nx tm' H' nx' ∧ k (put tm .undef) H nx = k tm' H' nx') := fun hw => .inr ⟨_, _, _, opStep_skip hp H nx hw, rfl⟩
        cases ht : tm.get d with
        | none => exact hno (by simp only [awant, hgd, hj, hd, ht])
        | some a =>
          simp only [boolAt]
          by_cases hb : ∃ b, a = .bool b
          · obtain ⟨b, rfl⟩ := hb
            simp only [boolV]
            cases hw : (b == want) with
            | true => exact hg c tm H nx k z (by simp only [awant, hgd, hj, hd, ht, hw])
            | false => exact hno (by simp only [awant, hgd, hj, hd, ht, hw])
          · have e1 : boolV a want (g c tm H nx k z) (k (put tm .undef) H nx) = k (put tm .undef) H nx := by
              cases a <;> first | rfl | exact absurd ⟨_, rfl⟩ hb
            rw [e1]
            refine hno ?_
            simp only [awant, hgd, hj, hd, ht]
            cases a <;> first | rfl | exact absurd ⟨_, rfl⟩ hb
def SpecOK (G : Env) (spec : Env → Nat → Oper → Option (Box RC)) : Prop := ∀ nt ops o put g, spec G nt o = some (.mk g) → PutOK nt o.dst put → RCwant G nt ops o g
theorem compO_ok {spec : Env → Nat → Oper → Option (Box RC)} {G : Env} (hs : SpecOK G spec) {nt : Nat} {ops : List Oper} {o : Oper} {g : RC} (h : compO spec G nt ops o = .mk g) : RCok G nt ops o g := by
  unfold compO at h
  split at h
  · cases h; exact fun c tm H nx k z => .inl rfl
  · rename_i put hp
    split at h
    · rename_i g' hg'
      rw [guardB_eq] at h
      cases h
      exact guardC_ok (putB_ok hp) (hs nt ops o put g' hg' (putB_ok hp))
    · rw [guardB_eq] at h
      cases h
      exact guardC_ok (putB_ok hp) (genC_ok (putB_ok hp))
theorem compL_ok {spec : Env → Nat → Oper → Option (Box RC)} {G : Env} (hs : SpecOK G spec) {R : Rest} {ops : List Oper} {todo : List AItem} : ∀ (l : List Oper) (j : Nat) {h : Ctx → RK}, compL spec G R.nt ops l j = .mk h → ∀ (tm : Tr AV) (H : Tr AObj) (nx : Nat),
    ∃ tm' H' nx' j' rest, h R.ctx tm H nx = .mk tm' H' nx' j' rest ∧ AReach G (mkS R tm (.reg ops j l) todo H nx) (mkS R tm' (.reg ops j' rest) todo H' nx')
  | [], j, h, he, tm, H, nx => by
    simp only [compL, Box.mk.injEq] at he
    subst he
    exact ⟨_, _, _, _, _, rfl, .refl _⟩
  | o :: os, j, h, he, tm, H, nx => by
    simp only [compL] at he
    cases hg : compO spec G R.nt ops o with
    | mk g =>
      cases hh : compL spec G R.nt ops os (j + 1) with
      | mk h' =>
        rw [hg, hh] at he
        simp only [consB, Box.mk.injEq] at he
        subst he
        rcases compO_ok hs hg R.ctx tm H nx (h' R.ctx) (.mk tm H nx j (o :: os)) with e | ⟨tm1, H1, nx1, hst, e⟩
        · exact ⟨_, _, _, _, _, e, .refl _⟩
        · obtain ⟨tm', H', nx', j', rest, e', hr⟩ := compL_ok hs os (j + 1) hh tm1 H1 nx1
          exact ⟨_, _, _, _, _, e.trans e', .step (hst R todo j os rfl rfl) hr⟩
end Go.Ax
namespace Go.Ax
open Go.RowKit
inductive CR where
  | mk (tm : Tr AV) (cur : ACur) (todo : List AItem) (H : Tr AObj) (nx : Nat)
abbrev CK := Tr AV → List AItem → Tr AObj → Nat → CR
abbrev Spec := Env → Nat → Oper → Option (Box RC)
noncomputable def afterReg (ops : List Oper) (k : List AItem) (ih : CK) (r : RR) : CR :=
  RR.rec (motive := fun _ => CR) (fun tm H nx j rest => List.rec (motive := fun _ => CR) (ih tm k H nx) (fun o os _ => .mk tm (.reg ops j (o :: os)) k H nx) rest) r
noncomputable def condK (v : AV) : CK → List AItem → Code → Code → CR → Tr AV → Tr AObj → Nat → CR :=
  match v with
  | .bool b => fun ih k thn els _ tm H nx => Bool.rec (motive := fun _ => CR) (ih tm (.code els :: k) H nx) (ih tm (.code thn :: k) H nx) b
  | _ => fun _ _ _ _ z _ _ _ => z
noncomputable def condO (v : Option AV) : CK → List AItem → Code → Code → CR → Tr AV → Tr AObj → Nat → CR :=
  match v with
  | some v => condK v
  | none => fun _ _ _ _ z _ _ _ => z
noncomputable def todoO (v : Option (List AItem)) : CK → CR → Tr AV → Tr AObj → Nat → CR :=
  match v with
  | some k => fun ih _ tm H nx => ih tm k H nx
  | none => fun _ z _ _ _ => z
noncomputable def regK (draw : Bool) : Spec → Env → Nat → Ctx → CK → List AItem → List Oper → CR → Tr AV → Tr AObj → Nat → CR :=
  match draw with
  | true => fun _ _ _ _ _ _ _ z _ _ _ => z
  | false => fun spec G nt c ih k ops _ tm H nx => Box.rec (motive := fun _ => CR) (fun h => afterReg ops k ih (h c tm H nx)) (compL spec G nt ops ops 0)
noncomputable def codeK (cd : Code) : Spec → Env → Nat → Ctx → CK → List AItem → Tr AV → Tr AObj → Nat → CR :=
  match cd with
  | .skip => fun _ _ _ _ ih k tm H nx => ih tm k H nx
  | .label _ => fun _ _ _ _ ih k tm H nx => ih tm k H nx
  | .seq a b => fun _ _ _ _ ih k tm H nx => ih tm (.code a :: .code b :: k) H nx
  | .cond x thn els => fun _ G _ _ ih k tm H nx => condO (ev G.T.ng tm x) ih k thn els (.mk tm .none (.code (.cond x thn els) :: k) H nx) tm H nx
  | .block id body => fun _ _ _ _ ih k tm H nx => ih tm (.code body :: .inBlock id :: k) H nx
  | .loop body => fun _ _ _ _ ih k tm H nx => ih tm (.code body :: .inLoop body :: k) H nx
  | .scope body => fun _ _ _ _ ih k tm H nx => ih tm (.code body :: .inScope body :: k) H nx
  | .exit id => fun _ _ _ _ ih k tm H nx => todoO (aexitTo id k) ih (.mk tm .none (.code (.exit id) :: k) H nx) tm H nx
  | .goto l => fun _ _ _ _ ih k tm H nx => todoO (agotoIn l k) ih (.mk tm .none (.code (.goto l) :: k) H nx) tm H nx
  | .region id ops draw => fun spec G nt c ih k tm H nx => regK draw spec G nt c ih k ops.toList (.mk tm .none (.code (.region id ops draw) :: k) H nx) tm H nx
  | cd => fun _ _ _ _ _ k tm H nx => .mk tm .none (.code cd :: k) H nx
noncomputable def itemK (it : AItem) : Spec → Env → Nat → Ctx → CK → List AItem → Tr AV → Tr AObj → Nat → CR :=
  match it with
  | .code c => codeK c
  | .inBlock _ => fun _ _ _ _ ih k tm H nx => ih tm k H nx
  | .inScope _ => fun _ _ _ _ ih k tm H nx => ih tm k H nx
  | .inLoop body => fun _ _ _ _ ih k tm H nx => ih tm (.code body :: .inLoop body :: k) H nx
  | it => fun _ _ _ _ _ k tm H nx => .mk tm .none (it :: k) H nx
noncomputable def todoK (todo : List AItem) : Spec → Env → Nat → Ctx → CK → Tr AV → Tr AObj → Nat → CR :=
  match todo with
  | [] => fun _ _ _ _ _ tm H nx => .mk tm .none [] H nx
  | it :: k => fun spec G nt c ih tm H nx => itemK it spec G nt c ih k tm H nx
noncomputable def ctl (spec : Spec) (G : Env) (nt : Nat) (c : Ctx) (n : Nat) : CK :=
  Nat.rec (motive := fun _ => CK) (fun tm todo H nx => .mk tm .none todo H nx) (fun _ ih tm todo H nx => todoK todo spec G nt c ih tm H nx) n
def CKok (G : Env) (R : Rest) (f : CK) : Prop := ∀ tm todo H nx, ∃ tm' cur' todo' H' nx', f tm todo H nx = .mk tm' cur' todo' H' nx' ∧ AReach G (mkS R tm .none todo H nx) (mkS R tm' cur' todo' H' nx')
def Goes (G : Env) (R : Rest) (s : AM) (r : CR) : Prop := ∃ tm' cur' todo' H' nx', r = .mk tm' cur' todo' H' nx' ∧ AReach G s (mkS R tm' cur' todo' H' nx')
theorem Goes.ih {G : Env} {R : Rest} {f : CK} (h : CKok G R f) {s : AM} {tm : Tr AV} {todo : List AItem} {H : Tr AObj} {nx : Nat} (hs : astep G s = .next (mkS R tm .none todo H nx)) : Goes G R s (f tm todo H nx) := by
  obtain ⟨a, b, c, d, e, h1, h2⟩ := h tm todo H nx
  exact ⟨a, b, c, d, e, h1, .step hs h2⟩
theorem Goes.stay {G : Env} {R : Rest} (tm : Tr AV) (cur : ACur) (todo : List AItem) (H : Tr AObj) (nx : Nat) : Goes G R (mkS R tm cur todo H nx) (.mk tm cur todo H nx) := ⟨_, _, _, _, _, rfl, .refl _⟩
theorem afterReg_ok {G : Env} {R : Rest} {ih : CK} (hi : CKok G R ih) {ops : List Oper} {k : List AItem} {s : AM} {tm : Tr AV} {H : Tr AObj} {nx j : Nat} {rest : List Oper} (hr : AReach G s (mkS R tm (.reg ops j rest) k H nx)) : Goes G R s (afterReg ops k ih (.mk tm H nx j rest)) := by
  cases rest with
  | nil =>
    obtain ⟨a, b, c, d, e, h1, h2⟩ := hi tm k H nx
    refine ⟨a, b, c, d, e, h1, hr.trans (.step ?_ h2)⟩
    rfl
  | cons o os => exact ⟨_, _, _, _, _, rfl, hr⟩
theorem condO_ok {G : Env} {R : Rest} {ih : CK} (hi : CKok G R ih) {x : Operand} {thn els : Code} {k : List AItem} {tm : Tr AV} {H : Tr AObj} {nx : Nat} :
    Goes G R (mkS R tm .none (.code (.cond x thn els) :: k) H nx) (condO (ev G.T.ng tm x) ih k thn els (.mk tm .none (.code (.cond x thn els) :: k) H nx) tm H nx) := by
  cases hv : ev G.T.ng tm x with
  | none => exact Goes.stay _ _ _ _ _
  | some v =>
    cases v
    case bool b => cases b <;> exact Goes.ih hi (by simp only [astep, hv])
    all_goals exact Goes.stay _ _ _ _ _
theorem codeK_ok {spec : Spec} {G : Env} (hs : SpecOK G spec) {R : Rest} {ih : CK} (hi : CKok G R ih) (cd : Code) (k : List AItem) (tm : Tr AV) (H : Tr AObj) (nx : Nat) :
    Goes G R (mkS R tm .none (.code cd :: k) H nx) (codeK cd spec G R.nt R.ctx ih k tm H nx) := by
  cases cd with
  | skip => exact Goes.ih hi rfl
  | label l => exact Goes.ih hi rfl
  | seq a b => exact Goes.ih hi rfl
  | cond x thn els => exact condO_ok hi
  | block id body => exact Goes.ih hi rfl
  | loop body => exact Goes.ih hi rfl
  | scope body => exact Goes.ih hi rfl
  | exit id =>
    simp only [codeK]
    cases he : aexitTo id k with
    | none => exact Goes.stay _ _ _ _ _
    | some k' => exact Goes.ih hi (by simp only [astep, he])
  | goto l =>
    simp only [codeK]
    cases he : agotoIn l k with
    | none => exact Goes.stay _ _ _ _ _
    | some k' => exact Goes.ih hi (by simp only [astep, he])
  | region id ops draw =>
    cases draw with
    | true => exact Goes.stay _ _ _ _ _
    | false =>
      simp only [codeK, regK]
      cases hc : compL spec G R.nt ops.toList ops.toList 0 with
      | mk h =>
        obtain ⟨tm', H', nx', j', rest, e, hr⟩ := compL_ok hs (todo := k) ops.toList 0 hc tm H nx
        simp only [e]
        exact afterReg_ok hi (.step rfl hr)
  | _ => exact Goes.stay _ _ _ _ _
theorem ctl_ok {spec : Spec} {G : Env} (hs : SpecOK G spec) {R : Rest} : ∀ n, CKok G R (ctl spec G R.nt R.ctx n)
  | 0, tm, todo, H, nx => Goes.stay _ _ _ _ _
  | n + 1, tm, todo, H, nx => by
    have hi := ctl_ok hs n (R := R)
    have e : ctl spec G R.nt R.ctx (n + 1) tm todo H nx = todoK todo spec G R.nt R.ctx (ctl spec G R.nt R.ctx n) tm H nx := rfl
    rw [e]
    cases todo with
    | nil => exact Goes.stay _ _ _ _ _
    | cons it k =>
      cases it with
      | code c => exact codeK_ok hs hi c k tm H nx
      | inBlock id => exact Goes.ih hi rfl
      | inScope b => exact Goes.ih hi rfl
      | inLoop b => exact Goes.ih hi rfl
      | _ => exact Goes.stay _ _ _ _ _
noncomputable def ofCR (r : CR) : Nat → Nat → List ADf → Option Nat → List AFrame → Ctx → AM :=
  CR.rec (motive := fun _ => Nat → Nat → List ADf → Option Nat → List AFrame → Ctx → AM) (fun tm cur todo H nx fn nt defers ro cs c => ⟨⟨fn, nt, tm, cur, todo, defers, false, ro⟩, cs, H, nx, c⟩) r
noncomputable def fastCur (cur : ACur) : Spec → Env → Nat → Ctx → CK → List AItem → Tr AV → Tr AObj → Nat → CR :=
  match cur with
  | .none => fun _ _ _ _ ih k tm H nx => ih tm k H nx
  | .reg ops j rest => fun spec G nt c ih k tm H nx => Box.rec (motive := fun _ => CR) (fun h => afterReg ops k ih (h c tm H nx)) (compL spec G nt ops rest j)
  | cur => fun _ _ _ _ _ k tm H nx => .mk tm cur k H nx
noncomputable def fast (spec : Spec) (G : Env) (n : Nat) (s : AM) : AM :=
  AM.rec (motive := fun _ => AM) (fun fr cs H nx c => AFrame.rec (motive := fun _ => AM) (fun fn nt tm cur todo defers ret ro =>
    Bool.rec (motive := fun _ => AM) (ofCR (fastCur cur spec G nt c (ctl spec G nt c n) todo tm H nx) fn nt defers ro cs c) ⟨⟨fn, nt, tm, cur, todo, defers, true, ro⟩, cs, H, nx, c⟩ ret) fr) s
theorem fast_ok {spec : Spec} {G : Env} (hs : SpecOK G spec) (n : Nat) (s : AM) : AReach G s (fast spec G n s) := by
  obtain ⟨⟨fn, nt, tm, cur, todo, defers, ret, ro⟩, cs, H, nx, c⟩ := s
  cases ret with
  | true => exact .refl _
  | false =>
    have hi := ctl_ok hs n (R := ⟨fn, nt, defers, ro, cs, c⟩)
    have key : ∀ {r}, Goes G ⟨fn, nt, defers, ro, cs, c⟩ ⟨⟨fn, nt, tm, cur, todo, defers, false, ro⟩, cs, H, nx, c⟩ r → AReach G ⟨⟨fn, nt, tm, cur, todo, defers, false, ro⟩, cs, H, nx, c⟩ (ofCR r fn nt defers ro cs c) := by
      rintro r ⟨a, b, c', d, e, rfl, h⟩
      exact h
    refine key ?_
    cases cur with
    | none => exact hi tm todo H nx
    | reg ops j rest =>
      simp only
      cases hc : compL spec G nt ops rest j with
      | mk h =>
        obtain ⟨tm', H', nx', j', rest', e, hr⟩ := compL_ok hs (R := ⟨fn, nt, defers, ro, cs, c⟩) (todo := todo) rest j hc tm H nx
        simp only [e]
        exact afterReg_ok hi hr
    | draw ops done rest pa => exact Goes.stay _ _ _ _ _
noncomputable def leaf (spec : Spec) (G : Env) (n : Nat) (s : AM) : RunR :=
  match astep G s with
  | .next s' => AM.rec (motive := fun _ => RunR) (fun a b c d e => .go ⟨a, b, c, d, e⟩) (fast spec G n s')
  | _ => .stop s
noncomputable def runF (spec : Spec) (G : Env) (n : Nat) (k : Nat) : AM → RunR :=
  Nat.rec (motive := fun _ => AM → RunR) (fun s => leaf spec G n s)
    (fun _ ih s => RunR.rec (motive := fun _ => RunR) (fun s => ih s) (fun s => .stop s) (ih s)) k
theorem runF_ok {spec : Spec} {G : Env} (hs : SpecOK G spec) (n : Nat) : ∀ (k : Nat) (s : AM), AReach G s (runF spec G n k s).state
  | 0, s => by
    have e : runF spec G n 0 s = leaf spec G n s := rfl
    rw [e]
    unfold leaf
    split
    · rename_i s' h
      have : (AM.rec (motive := fun _ => RunR) (fun a b c d e => .go ⟨a, b, c, d, e⟩) (fast spec G n s') : RunR) = .go (fast spec G n s') := by cases fast spec G n s'; rfl
      rw [this]
      exact .step h (fast_ok hs n s')
    · exact .refl s
  | k + 1, s => by
    have e : runF spec G n (k + 1) s = RunR.rec (motive := fun _ => RunR) (fun s => runF spec G n k s) (fun s => .stop s) (runF spec G n k s) := rfl
    rw [e]
    have h1 := runF_ok hs n k s
    cases hr : runF spec G n k s with
    | go s1 => rw [hr] at h1; exact h1.trans (runF_ok hs n k s1)
    | stop s1 => rw [hr] at h1; exact h1
end Go.Ax
namespace Go.Ax
open Go.RowKit
noncomputable def nthR {β α : Type} (l : List α) : Nat → (α → β) → β → β :=
  List.rec (motive := fun _ => Nat → (α → β) → β → β) (fun _ _ z => z) (fun a _ ih i k z => Nat.rec (motive := fun _ => β) (k a) (fun j _ => ih j k z) i) l
theorem nthR_eq {β α : Type} : ∀ (l : List α) (i : Nat) (k : α → β) (z : β), nthR l i k z = match l[i]? with | some a => k a | none => z
  | [], i, k, z => rfl
  | a :: l, 0, k, z => rfl
  | a :: l, i + 1, k, z => by
    have : nthR (a :: l) (i + 1) k z = nthR l i k z := rfl
    rw [this, nthR_eq l i k z]; simp
noncomputable def setR {α : Type} (l : List α) : Nat → α → List α :=
  List.rec (motive := fun _ => Nat → α → List α) (fun _ _ => []) (fun a l ih i v => Nat.rec (motive := fun _ => List α) (v :: l) (fun j _ => a :: ih j v) i) l
theorem setR_eq {α : Type} : ∀ (l : List α) (i : Nat) (v : α), setR l i v = l.set i v
  | [], i, v => rfl
  | a :: l, 0, v => rfl
  | a :: l, i + 1, v => by
    have : setR (a :: l) (i + 1) v = a :: setR l i v := rfl
    rw [this, setR_eq l i v]; rfl
noncomputable def lenR {α : Type} (l : List α) : Nat := List.rec (motive := fun _ => Nat) 0 (fun _ _ ih => Nat.succ ih) l
theorem lenR_eq {α : Type} : ∀ l : List α, lenR l = l.length
  | [] => rfl
  | _ :: l => congrArg Nat.succ (lenR_eq l)
abbrev LC := Ctx → Tr AObj → (Operand → Option AV) → D LR
noncomputable def lightC (G : Env) (op : Op) : Box LC :=
  match op with
  | .move x => .mk fun _ _ f => mapV (f x)
  | .assign x => .mk fun _ _ f => mapV (f x)
  | .pick q a b => .mk fun _ _ f => (D.of (f q)).bind fun q => match q with
    | .bool true => mapV (f a)
    | .bool false => mapV (f b)
    | _ => .fail
  | .alloc t => .mk fun _ _ _ => D.of (aalloc G.T t)
  | .box t x => .mk fun _ _ f => (D.of (f x)).bind fun x => .ok (.ptr (.cells x.cellsOf t true true false))
  | .build t ps => .mk fun _ _ f => (D.of (evps f ps.toList)).bind fun ps => mapV (abuild G.T t ps)
  | .buildSlice t n ps => .mk fun _ _ f => (D.of (evps f ps.toList)).bind fun ps => D.of (abuildSlice G.T t n ps)
  | .load t x => .mk fun _ H f => (D.of (f x)).bind fun x => mapV (aload G.T H t x)
  | .nilCheck x => .mk fun _ _ f => (D.of (f x)).bind fun x => mapV (anil x)
  | .binOp op t x y _ => .mk fun c H f => (D.of (f x)).bind fun a => (D.of (f y)).bind fun b => mapD (abin G.T c H (isK x || isK y) op t a b)
  | .unOp op _ x => .mk fun _ _ f => (D.of (f x)).bind fun x => mapV (aun op x)
  | .convert src dst x => .mk fun c H f => (D.of (f x)).bind fun x => match abytes G.T src dst x with
    | some r => .ok r
    | none => mapV (aconv G.T c H src dst x)
  | .makeInterface t x => .mk fun _ _ f => (D.of (f x)).bind fun x => mapV (amakeIface G.T t x)
  | .makeSlice t l k => .mk fun _ _ f => (D.of (f l)).bind fun l => (D.of (f k)).bind fun k => D.of (amakeSlice G.T t l k)
  | .slice t x lo hi mx => .mk fun c H f => (D.of (f x)).bind fun x => (D.of (evO f lo)).bind fun lo => (D.of (evO f hi)).bind fun hi => (D.of (evO f mx)).bind fun mx => mapV (orS (aslice G.T H t x lo hi mx) (asliceS G.T c t x lo hi mx))
  | .fieldAddr t x k => .mk fun _ _ f => (D.of (f x)).bind fun x => mapV (afieldAddr G.T t x k)
  | .field t x k => .mk fun _ _ f => (D.of (f x)).bind fun x => mapV (afield G.T t x k)
  | .indexAddr t x ix => .mk fun c _ f => (D.of (f x)).bind fun x => (D.of (f ix)).bind fun ix => (conc c ix).bind fun ix => mapV (aindexAddr G.T t x ix)
  | .index t x ix => .mk fun c _ f => (D.of (f x)).bind fun x => (D.of (f ix)).bind fun ix => match aindexS G.T c t x ix with
    | some v => .ok (.val v)
    | none => (conc c ix).bind fun ix => mapV (aindex G.T t x ix)
  | .lookup t x ix ok => .mk fun c H f => (D.of (f x)).bind fun x => (D.of (f ix)).bind fun ix => mapD (alook G.T c H t x ix ok)
  | .typeAssert x _ a ok => .mk fun _ _ f => (D.of (f x)).bind fun x => mapV (aassert G.T G.I x a ok)
  | .extract x k => .mk fun _ _ f => (D.of (f x)).bind fun x => mapV (aextract x k)
  | .store _ _ _ => .mk fun _ _ _ => .fail
  | op => .mk fun c H f => light G.T G.I c H f op
theorem lightC_ok {G : Env} {op : Op} {g : LC} (h : lightC G op = .mk g) (c : Ctx) (H : Tr AObj) (f : Operand → Option AV) : g c H f = light G.T G.I c H f op := by
  unfold lightC at h
  split at h <;> (simp only [Box.mk.injEq] at h; subst h; rfl)
noncomputable def heavyC (op : Op) : Box (Env → Ctx → Tr AObj → Nat → (Operand → Option AV) → D HR) :=
  match op with
  | .store t a x => .mk fun G _ H nx f => match f a, f x with
    | some a, some x => D.of (astore G.T H nx t a x)
    | _, _ => .fail
  | op => .mk fun G c H nx f => heavyOp G c H nx f op
theorem heavyC_ok {G : Env} {op : Op} {g : Env → Ctx → Tr AObj → Nat → (Operand → Option AV) → D HR} (h : heavyC op = .mk g) (c : Ctx) (H : Tr AObj) (nx : Nat) (f : Operand → Option AV) : g G c H nx f = heavyOp G c H nx f op := by
  unfold heavyC at h
  split at h <;> (simp only [Box.mk.injEq] at h; subst h; rfl)
noncomputable def gLight (d : D LR) : (Tr AV → AV → Tr AV) → Tr AV → Tr AObj → Nat → RK → RR → D HR → RR :=
  match d with
  | .ok r => fun put tm H nx k _ _ => genOk r put tm H nx k
  | .ask _ _ _ => fun _ _ _ _ _ z _ => z
  | .fail => fun put tm _ _ k z d => genHeavy d put tm k z
noncomputable def genB (G : Env) (o : Oper) (put : Tr AV → AV → Tr AV) : Box RC :=
  match lightC G o.op, heavyC o.op with
  | .mk l, .mk h => .mk fun c tm H nx k z => gLight (l c H (ev G.T.ng tm)) put tm H nx k z (h G c H nx (ev G.T.ng tm))
theorem genB_ok {G : Env} {nt : Nat} {ops : List Oper} {o : Oper} {put : Tr AV → AV → Tr AV} (hp : PutOK nt o.dst put) {g : RC} (h : genB G o put = .mk g) : RCwant G nt ops o g := by
  unfold genB at h
  cases hl : lightC G o.op with
  | mk l =>
    cases hh : heavyC o.op with
    | mk hv =>
      rw [hl, hh] at h
      simp only [Box.mk.injEq] at h
      subst h
      intro c tm H nx k z hw
      have e1 := lightC_ok hl c H (ev G.T.ng tm)
      have e2 := heavyC_ok (G := G) hh c H nx (ev G.T.ng tm)
      have := genC_ok (G := G) hp c tm H nx k z hw (ops := ops)
      have e : genC G o put c tm H nx k z = gLight (l c H (ev G.T.ng tm)) put tm H nx k z (hv G c H nx (ev G.T.ng tm)) := by
        rw [e1, e2]
        unfold genC
        cases light G.T G.I c H (ev G.T.ng tm) o.op <;> rfl
      rw [e] at this
      exact this
abbrev RD := Tr AV → (AV → RR) → RR
noncomputable def rdB (ng : Nat) (x : Operand) : Option (Box RD) :=
  match x with
  | .tmp t => some (.mk fun tm k => Option.rec (motive := fun _ => RR) (k .undef) k (tm.get t))
  | .const v => match ofV 6 v with
    | some a => some (.mk fun _ k => k a)
    | none => none
  | .global g => bif Nat.blt g ng then some (.mk fun _ k => k (.ptr g 0)) else none
  | .func f => some (.mk fun _ k => k (.func f [] []))
theorem rdB_ok {ng : Nat} {x : Operand} {r : RD} (h : rdB ng x = some (.mk r)) (tm : Tr AV) : ∃ a, ev ng tm x = some a ∧ ∀ k, r tm k = k a := by
  unfold rdB at h
  cases x with
  | tmp t =>
    simp only [Option.some.injEq, Box.mk.injEq] at h
    subst h
    refine ⟨_, rfl, fun k => ?_⟩
    simp only
    cases tm.get t <;> rfl
  | const v =>
    simp only at h
    cases hv : ofV 6 v with
    | none => rw [hv] at h; cases h
    | some a =>
      rw [hv] at h
      simp only [Option.some.injEq, Box.mk.injEq] at h
      subst h
      exact ⟨a, by simp only [ev, hv], fun k => rfl⟩
  | global g =>
    simp only at h
    cases hb : Nat.blt g ng with
    | false => rw [hb] at h; cases h
    | true =>
      rw [hb] at h
      simp only [cond_true, Option.some.injEq, Box.mk.injEq] at h
      subst h
      exact ⟨_, by simp only [ev, hb, cond_true], fun k => rfl⟩
  | func f =>
    simp only [Option.some.injEq, Box.mk.injEq] at h
    subst h
    exact ⟨_, rfl, fun k => rfl⟩
noncomputable def ptrK (a : AV) : (Nat → Nat → RR) → RR → RR :=
  match a with
  | .ptr b o => fun f _ => f b o
  | _ => fun _ z => z
noncomputable def natE (e : E) : (Nat → RR) → RR → RR :=
  match e with
  | .lit n => fun f z => Int.rec (motive := fun _ => RR) (fun m => f m) (fun _ => z) n
  | _ => fun _ z => z
noncomputable def intK (a : AV) : (IntKind → Nat → RR) → RR → RR :=
  match a with
  | .int k e => fun f z => natE e (f k) z
  | _ => fun _ z => z
theorem ptrK_eq (a : AV) (f : Nat → Nat → RR) (z : RR) : ptrK a f z = z ∨ ∃ b o, a = .ptr b o ∧ ptrK a f z = f b o := by
  cases a
  case ptr b o => exact .inr ⟨b, o, rfl, rfl⟩
  all_goals exact .inl rfl
theorem intK_eq (a : AV) (f : IntKind → Nat → RR) (z : RR) : intK a f z = z ∨ ∃ k m, a = .int k (.lit (.ofNat m)) ∧ intK a f z = f k m := by
  cases a
  case int k e =>
    cases e
    case lit n =>
      cases n with
      | ofNat m => exact .inr ⟨k, m, rfl, rfl⟩
      | negSucc m => exact .inl rfl
    all_goals exact .inl rfl
  all_goals exact .inl rfl
noncomputable def cellsO (o : AObj) : (List AV → TypeId → Bool → Bool → Bool → RR) → RR → RR :=
  match o with
  | .cells cs el ex pl ro => fun f _ => f cs el ex pl ro
  | _ => fun _ z => z
noncomputable def cellsK (o : Option AObj) : (List AV → TypeId → Bool → Bool → Bool → RR) → RR → RR :=
  match o with
  | some o => cellsO o
  | none => fun _ z => z
theorem cellsK_eq (o : Option AObj) (f : List AV → TypeId → Bool → Bool → Bool → RR) (z : RR) : cellsK o f z = z ∨ ∃ cs el ex pl ro, o = some (.cells cs el ex pl ro) ∧ cellsK o f z = f cs el ex pl ro := by
  cases o with
  | none => exact .inl rfl
  | some o =>
    cases o
    case cells cs el ex pl ro => exact .inr ⟨cs, el, ex, pl, ro, rfl, rfl⟩
    all_goals exact .inl rfl
noncomputable def topK (k : IntKind) : Nat :=
  IntKind.rec (motive := fun _ => Nat) 127 32767 2147483647 9223372036854775807 255 65535 4294967295 18446744073709551615 k
theorem topK_in {k : IntKind} {n : Nat} (h : Nat.ble n (topK k) = true) : inKind k (.ofNat n) = true := by
  cases k <;> first
    | exact h
    | (simp only [topK, Nat.ble_eq, inKind, Nat.ble_eq] at h ⊢; omega)
theorem wrap_top {k : IntKind} {n : Nat} (h : Nat.ble n (topK k) = true) : wrapK k (.ofNat n) = .ofNat n := by
  unfold wrapK; rw [topK_in h]; rfl
end Go.Ax
namespace Go.Ax
open Go.RowKit
noncomputable def moveB (ng : Nat) (x : Operand) (put : Tr AV → AV → Tr AV) (gen : RC) : Box RC :=
  match rdB ng x with
  | some (.mk r) => .mk fun _ tm H nx k _ => r tm fun a => k (put tm a) H nx
  | none => .mk gen
noncomputable def loadB (G : Env) (t : TypeId) (x : Operand) (put : Tr AV → AV → Tr AV) (gen : RC) : Box RC :=
  match rdB G.T.ng x, G.T.ty t with
  | some (.mk r), some ti => bif isAggD ti.desc then .mk gen else
      .mk fun c tm H nx k z => (fun zz => r tm fun a => ptrK a (fun b o => cellsK (H.get b) (fun cs _ _ _ _ => nthR cs o (fun v => k (put tm v) H nx) zz) zz) zz) (gen c tm H nx k z)
  | _, _ => .mk gen
noncomputable def cellV (v : AV) : RR → RR → RR :=
  match v with
  | .agg _ => fun _ z => z
  | .tuple _ => fun _ z => z
  | _ => fun y _ => y
noncomputable def storeB (G : Env) (t : TypeId) (a x : Operand) (put : Tr AV → AV → Tr AV) (gen : RC) : Box RC :=
  match rdB G.T.ng a, rdB G.T.ng x, G.T.ty t with
  | some (.mk r), some (.mk q), some ti => bif Nat.beq ti.size 1 then
      .mk fun c tm H nx k z => (fun zz => r tm fun a => q tm fun v => ptrK a (fun b o => cellsK (H.get b) (fun cs el ex pl ro => Bool.rec (motive := fun _ => RR)
        (cellV v (nthR cs o (fun _ => k (put tm .undef) (H.set b (.cells (setR cs o v) el ex pl false)) nx) zz) zz) zz ro) zz) zz) (gen c tm H nx k z)
      else .mk gen
  | _, _, _ => .mk gen
noncomputable def natOp (op : BinOp) : Option (Box (IntKind → Nat → Nat → (AV → RR) → RR → RR)) :=
  match op with
  | .add => some (.mk fun k m n f z => sNat (Nat.add m n) fun r => Bool.rec (motive := fun _ => RR) z (f (.int k (.lit (.ofNat r)))) (Nat.ble r (topK k)))
  | .sub => some (.mk fun k m n f z => Bool.rec (motive := fun _ => RR) z (sNat (Nat.sub m n) fun r => Bool.rec (motive := fun _ => RR) z (f (.int k (.lit (.ofNat r)))) (Nat.ble r (topK k))) (Nat.ble n m))
  | .mul => some (.mk fun k m n f z => sNat (Nat.mul m n) fun r => Bool.rec (motive := fun _ => RR) z (f (.int k (.lit (.ofNat r)))) (Nat.ble r (topK k)))
  | .quo => some (.mk fun k m n f z => Bool.rec (motive := fun _ => RR) (sNat (Nat.div m n) fun r => Bool.rec (motive := fun _ => RR) z (f (.int k (.lit (.ofNat r)))) (Nat.ble r (topK k))) z (Nat.beq n 0))
  | .rem => some (.mk fun k m n f z => Bool.rec (motive := fun _ => RR) (sNat (Nat.mod m n) fun r => f (.int k (.lit (.ofNat r)))) z (Nat.beq n 0))
  | .and => some (.mk fun k m n f z => Bool.rec (motive := fun _ => RR) z (Bool.rec (motive := fun _ => RR) z (sNat (Nat.land m n) fun r => Bool.rec (motive := fun _ => RR) z (f (.int k (.lit (.ofNat r)))) (Nat.ble r (topK k))) (Nat.ble n (topK k))) (Nat.ble m (topK k)))
  | .or => some (.mk fun k m n f z => Bool.rec (motive := fun _ => RR) z (Bool.rec (motive := fun _ => RR) z (sNat (Nat.lor m n) fun r => Bool.rec (motive := fun _ => RR) z (f (.int k (.lit (.ofNat r)))) (Nat.ble r (topK k))) (Nat.ble n (topK k))) (Nat.ble m (topK k)))
  | .xor => some (.mk fun k m n f z => Bool.rec (motive := fun _ => RR) z (Bool.rec (motive := fun _ => RR) z (sNat (Nat.xor m n) fun r => Bool.rec (motive := fun _ => RR) z (f (.int k (.lit (.ofNat r)))) (Nat.ble r (topK k))) (Nat.ble n (topK k))) (Nat.ble m (topK k)))
  | .eql => some (.mk fun _ m n f _ => f (.bool (Nat.beq m n)))
  | .neq => some (.mk fun _ m n f _ => f (.bool (not (Nat.beq m n))))
  | .lss => some (.mk fun _ m n f _ => f (.bool (Nat.blt m n)))
  | .leq => some (.mk fun _ m n f _ => f (.bool (not (Nat.blt n m))))
  | .gtr => some (.mk fun _ m n f _ => f (.bool (Nat.blt n m)))
  | .geq => some (.mk fun _ m n f _ => f (.bool (not (Nat.blt m n))))
  | _ => none
noncomputable def binB (ng : Nat) (op : BinOp) (x y : Operand) (put : Tr AV → AV → Tr AV) (gen : RC) : Box RC :=
  match rdB ng x, rdB ng y, natOp op with
  | some (.mk r), some (.mk q), some (.mk g) =>
      .mk fun c tm H nx k z => (fun zz => r tm fun a => q tm fun b => intK a (fun ka m => intK b (fun kb n => Bool.rec (motive := fun _ => RR) zz (g ka m n (fun v => k (put tm v) H nx) zz) (Nat.beq (kN ka) (kN kb))) zz) zz) (gen c tm H nx k z)
  | _, _, _ => .mk gen
noncomputable def boolK (a : AV) : RR → RR → RR → RR :=
  match a with
  | .bool b => fun y n _ => Bool.rec (motive := fun _ => RR) n y b
  | _ => fun _ _ z => z
noncomputable def pickB (ng : Nat) (q x y : Operand) (put : Tr AV → AV → Tr AV) (gen : RC) : Box RC :=
  match rdB ng q, rdB ng x, rdB ng y with
  | some (.mk p), some (.mk r), some (.mk s) =>
      .mk fun c tm H nx k z => p tm fun b => boolK b (r tm fun a => k (put tm a) H nx) (s tm fun a => k (put tm a) H nx) (gen c tm H nx k z)
  | _, _, _ => .mk gen
noncomputable def notB (ng : Nat) (x : Operand) (put : Tr AV → AV → Tr AV) (gen : RC) : Box RC :=
  match rdB ng x with
  | some (.mk r) => .mk fun c tm H nx k z => r tm fun a => boolK a (k (put tm (.bool false)) H nx) (k (put tm (.bool true)) H nx) (gen c tm H nx k z)
  | none => .mk gen
noncomputable def fieldOff (T : Tab) (s : TypeId) (f : Nat) : Option Nat :=
  match T.ty s with
  | some ti =>
    match ti.desc with
    | .struct fs =>
      match fs[f]? with
      | some fd =>
        match T.ty fd.type with
        | some fi => bif Nat.beq fi.size 0 then none else some fd.offset
        | none => none
      | none => none
    | _ => none
  | none => none
theorem fieldOff_eq {T : Tab} {s : TypeId} {f n : Nat} (h : fieldOff T s f = some n) (b o : Nat) : afieldAddr T s (.ptr b o) f = some (.ptr b (o + n)) := by
  unfold fieldOff at h
  unfold afieldAddr
  split at h
  · rename_i ti hti
    simp only [hti]
    split at h
    · rename_i fs hd
      simp only [hd]
      split at h
      · rename_i fd hf
        simp only [hf]
        split at h
        · rename_i fi hfi
          simp only [hfi]
          cases hz : Nat.beq fi.size 0 with
          | true => rw [hz] at h; cases h
          | false => rw [hz] at h; simp only [cond_false, Option.some.injEq] at h; subst h; rfl
        · cases h
      · cases h
    · cases h
  · cases h
noncomputable def fieldAddrB (G : Env) (t : TypeId) (x : Operand) (f : Nat) (put : Tr AV → AV → Tr AV) (gen : RC) : Box RC :=
  match rdB G.T.ng x, fieldOff G.T t f with
  | some (.mk r), some n => sNat n fun n => .mk fun c tm H nx k z => r tm fun a => ptrK a (fun b o => sNat (Nat.add o n) fun o' => k (put tm (.ptr b o')) H nx) (gen c tm H nx k z)
  | _, _ => .mk gen
noncomputable def nilB (ng : Nat) (x : Operand) (put : Tr AV → AV → Tr AV) (gen : RC) : Box RC :=
  match rdB ng x with
  | some (.mk r) => .mk fun c tm H nx k z => r tm fun a => ptrK a (fun _ _ => k (put tm a) H nx) (gen c tm H nx k z)
  | none => .mk gen
noncomputable def tupK (a : AV) : (List AV → RR) → RR → RR :=
  match a with
  | .tuple vs => fun f _ => f vs
  | _ => fun _ z => z
noncomputable def extractB (ng : Nat) (x : Operand) (i : Nat) (put : Tr AV → AV → Tr AV) (gen : RC) : Box RC :=
  match rdB ng x with
  | some (.mk r) => .mk fun c tm H nx k z => (fun zz => r tm fun a => tupK a (fun vs => nthR vs i (fun v => k (put tm v) H nx) zz) zz) (gen c tm H nx k z)
  | none => .mk gen
def intD (d : TypeDesc) : Option IntKind :=
  match d with
  | .int k => some k
  | _ => none
noncomputable def convB (G : Env) (s t : TypeId) (x : Operand) (put : Tr AV → AV → Tr AV) (gen : RC) : Box RC :=
  match rdB G.T.ng x, G.T.ty s, G.T.ty t with
  | some (.mk r), some _, some di => match intD di.desc with
    | some kd => sNat (topK kd) fun top => .mk fun c tm H nx k z => (fun zz => r tm fun a => intK a (fun _ m => Bool.rec (motive := fun _ => RR) zz (k (put tm (.int kd (.lit (.ofNat m)))) H nx) (Nat.ble m top)) zz) (gen c tm H nx k z)
    | none => .mk gen
  | _, _, _ => .mk gen
def isStrD (d : TypeDesc) : Bool :=
  match d with
  | .string => true
  | _ => false
def isSliceD (d : TypeDesc) : Option TypeId :=
  match d with
  | .slice e => some e
  | _ => none
noncomputable def strK (a : AV) : (List E → RR) → RR → RR :=
  match a with
  | .str s => fun f _ => f s
  | _ => fun _ z => z
noncomputable def sliceK (a : AV) : (Nat → Nat → Nat → RR) → RR → RR :=
  match a with
  | .slice b o len _ _ _ => fun f _ => f b o len
  | _ => fun _ z => z
noncomputable def indexB (G : Env) (t : TypeId) (x ix : Operand) (put : Tr AV → AV → Tr AV) (gen : RC) : Box RC :=
  match rdB G.T.ng x, rdB G.T.ng ix, G.T.ty t with
  | some (.mk r), some (.mk q), some ti => bif isStrD ti.desc then
      .mk fun c tm H nx k z => (fun zz => r tm fun a => q tm fun b => strK a (fun s => intK b (fun _ i => nthR s i (fun v => k (put tm (.int .u8 v)) H nx) zz) zz) zz) (gen c tm H nx k z)
      else .mk gen
  | _, _, _ => .mk gen
noncomputable def elemSize (T : Tab) (t : TypeId) : Option Nat :=
  match T.ty t with
  | some ti => match isSliceD ti.desc with
    | some e => match T.ty e with
      | some ei => some ei.size
      | none => none
    | none => none
  | none => none
noncomputable def indexAddrB (G : Env) (t : TypeId) (x ix : Operand) (put : Tr AV → AV → Tr AV) (gen : RC) : Box RC :=
  match rdB G.T.ng x, rdB G.T.ng ix, elemSize G.T t with
  | some (.mk r), some (.mk q), some es => sNat es fun es => .mk fun c tm H nx k z => (fun zz => r tm fun a => q tm fun b => sliceK a (fun bl o len => intK b (fun _ i =>
      Bool.rec (motive := fun _ => RR) zz (sNat (Nat.add o (Nat.mul i es)) fun o' => k (put tm (.ptr bl o')) H nx) (Nat.blt i len)) zz) zz) (gen c tm H nx k z)
  | _, _, _ => .mk gen
noncomputable def lenB (G : Env) (cl : Call) (put : Tr AV → AV → Tr AV) (gen : RC) : Box RC :=
  match cl.callee, cl.argTypes.toList, cl.args.toList with
  | .builtin .len, [t], [x] => match rdB G.T.ng x, G.T.ty t with
    | some (.mk r), some ti => bif isStrD ti.desc then
        .mk fun c tm H nx k z => r tm fun a => strK a (fun s => sNat (lenR s) fun n => k (put tm (.int .i64 (.lit (.ofNat n)))) H nx) (gen c tm H nx k z)
      else match isSliceD ti.desc with
        | some _ => .mk fun c tm H nx k z => r tm fun a => sliceK a (fun _ _ n => k (put tm (.int .i64 (.lit (.ofNat n)))) H nx) (gen c tm H nx k z)
        | none => .mk gen
    | _, _ => .mk gen
  | _, _, _ => .mk gen
noncomputable def specOp (G : Env) (op : Op) (put : Tr AV → AV → Tr AV) (gen : RC) : Box RC :=
  match op with
  | .move x => moveB G.T.ng x put gen
  | .assign x => moveB G.T.ng x put gen
  | .load t x => loadB G t x put gen
  | .store t a x => storeB G t a x put gen
  | .binOp op _ x y _ => binB G.T.ng op x y put gen
  | .pick q x y => pickB G.T.ng q x y put gen
  | .unOp op _ x => match op with
    | .not => notB G.T.ng x put gen
    | _ => .mk gen
  | .fieldAddr t x f => fieldAddrB G t x f put gen
  | .nilCheck x => nilB G.T.ng x put gen
  | .extract x i => extractB G.T.ng x i put gen
  | .convert s t x => convB G s t x put gen
  | .index t x ix => indexB G t x ix put gen
  | .indexAddr t x ix => indexAddrB G t x ix put gen
  | .call cl => lenB G cl put gen
  | _ => .mk gen
noncomputable def specF : Spec := fun G nt o =>
  match putB nt o.dst with
  | none => none
  | some (.mk put) => match genB G o put with
    | .mk gen => some (specOp G o.op put gen)
end Go.Ax
namespace Go.Ax
open Go.RowKit
section
variable {G : Env} {nt : Nat} {ops : List Oper} {o : Oper} {put : Tr AV → AV → Tr AV} {gen g : RC}
def Fin (G : Env) (nt : Nat) (ops : List Oper) (o : Oper) (c : Ctx) (tm : Tr AV) (H : Tr AObj) (nx : Nat) (k : RK) (z r : RR) : Prop :=
  r = z ∨ ∃ tm' H' nx', OpStep G nt ops o c tm H nx tm' H' nx' ∧ r = k tm' H' nx'
theorem fin_val (hp : PutOK nt o.dst put) {c : Ctx} {tm : Tr AV} {H : Tr AObj} {nx : Nat} {k : RK} {z : RR} (hw : awant ops tm o = true) {v : AV}
    (h : light G.T G.I c H (ev G.T.ng tm) o.op = .ok (.val v)) : Fin G nt ops o c tm H nx k z (k (put tm v) H nx) :=
  .inr ⟨_, _, _, opStep_val hp nx hw h, rfl⟩
theorem moveB_ok (hp : PutOK nt o.dst put) (hg : RCwant G nt ops o gen) {x : Operand} (hop : o.op = .move x ∨ o.op = .assign x) (h : moveB G.T.ng x put gen = .mk g) : RCwant G nt ops o g := by
  unfold moveB at h
  split at h
  · rename_i r hr
    simp only [Box.mk.injEq] at h
    subst h
    intro c tm H nx k z hw
    obtain ⟨a, ha, hk⟩ := rdB_ok hr tm
    simp only [hk]
    refine fin_val hp hw ?_
    rcases hop with e | e <;> rw [e] <;> simp only [light, ha, mapV]
  · cases h; exact hg
theorem loadB_ok (hp : PutOK nt o.dst put) (hg : RCwant G nt ops o gen) {t : TypeId} {x : Operand} (hop : o.op = .load t x) (h : loadB G t x put gen = .mk g) : RCwant G nt ops o g := by
  unfold loadB at h
  split at h
  · rename_i r ti hr hti
    cases hd : isAggD ti.desc with
    | true => rw [hd] at h; cases h; exact hg
    | false =>
      rw [hd] at h
      simp only [cond_false, Box.mk.injEq] at h
      subst h
      intro c tm H nx k z hw
      have hz : Fin G nt ops o c tm H nx k z (gen c tm H nx k z) := hg c tm H nx k z hw
      obtain ⟨a, ha, hk⟩ := rdB_ok hr tm
      simp only [hk]
      rcases ptrK_eq a _ _ with e | ⟨b, p, rfl, e⟩ <;> rw [e]
      · exact hz
      rcases cellsK_eq (H.get b) _ _ with e | ⟨cs, el, ex, pl, ro, hb, e⟩ <;> rw [e]
      · exact hz
      rw [nthR_eq]
      cases hv : cs[p]? with
      | none => exact hz
      | some v =>
        refine fin_val hp hw ?_
        rw [hop]
        simp only [light, ha, D.of, D.bind, aload, hti, cellsAt, hb, hd, cond_false, hv, mapV]
  · cases h; exact hg
theorem cellV_eq (v : AV) (y z : RR) : cellV v y z = z ∨ v.cell = true ∧ cellV v y z = y := by
  cases v <;> first | exact .inl rfl | exact .inr ⟨rfl, rfl⟩
theorem cellsOf_cell {v : AV} (h : v.cell = true) : v.cellsOf = [v] := by
  cases v <;> simp [AV.cell] at h <;> rfl
theorem storeB_ok (hp : PutOK nt o.dst put) (hg : RCwant G nt ops o gen) {t : TypeId} {x y : Operand} (hop : o.op = .store t x y) (h : storeB G t x y put gen = .mk g) : RCwant G nt ops o g := by
  unfold storeB at h
  split at h
  · rename_i r q ti hr hq hti
    cases hd : Nat.beq ti.size 1 with
    | false => rw [hd] at h; cases h; exact hg
    | true =>
      rw [hd] at h
      simp only [cond_true, Box.mk.injEq] at h
      subst h
      intro c tm H nx k z hw
      have hz : Fin G nt ops o c tm H nx k z (gen c tm H nx k z) := hg c tm H nx k z hw
      obtain ⟨a, ha, hk⟩ := rdB_ok hr tm
      obtain ⟨v, hv, hk2⟩ := rdB_ok hq tm
      simp only [hk, hk2]
      rcases ptrK_eq a _ _ with e | ⟨b, p, rfl, e⟩ <;> rw [e]
      · exact hz
      rcases cellsK_eq (H.get b) _ _ with e | ⟨cs, el, ex, pl, ro, hb, e⟩ <;> rw [e]
      · exact hz
      cases ro with
      | true => exact hz
      | false =>
        simp only
        rcases cellV_eq v _ _ with e | ⟨hc, e⟩ <;> rw [e]
        · exact hz
        rw [nthR_eq]
        cases hcs : cs[p]? with
        | none => exact hz
        | some u =>
          have hlt : p < cs.length := by
            rcases List.getElem?_eq_some_iff.1 hcs with ⟨h, _⟩
            exact h
          have hs1 : ti.size = 1 := by simpa using hd
          refine .inr ⟨_, _, _, opStep_heavy hp nx hw (r := ⟨.undef, H.set b (.cells (setR cs p v) el ex pl false), nx⟩) (by rw [hop]; rfl) ?_, rfl⟩
          rw [hop]
          have hble : Nat.ble (p + 1) cs.length = true := Nat.ble_eq_true_of_le hlt
          simp only [heavyOp, ha, hv, astore, hti, hb, cellsOf_cell hc, hs1, List.length_singleton, List.all_cons, List.all_nil, hc, Bool.and_true, hble, setAll, setR_eq]
          rfl
  · cases h; exact hg
theorem natOp_ok {op : BinOp} {gg : IntKind → Nat → Nat → (AV → RR) → RR → RR} (h : natOp op = some (.mk gg)) (k : IntKind) (m n : Nat) (f : AV → RR) (z : RR) :
    gg k m n f z = z ∨ ∃ v, gg k m n f z = f v ∧ ∀ (T : Tab) (c : Ctx) (H : Tr AObj) (kx : Bool) (t : TypeId) (k' : IntKind), Nat.beq (kN k) (kN k') = true → abin T c H kx op t (.int k (.lit (.ofNat m))) (.int k' (.lit (.ofNat n))) = .ok v := by
  cases op <;> simp only [natOp, Option.some.injEq, Box.mk.injEq, reduceCtorEq] at h <;> subst h <;> simp only [sNat_eq]
  case add =>
    cases hb : Nat.ble (Nat.add m n) (topK k) with
    | false => exact .inl rfl
    | true =>
      refine .inr ⟨_, rfl, fun T c H kx t k' hk => ?_⟩
      have e : (Int.ofNat m + Int.ofNat n : Int) = .ofNat (Nat.add m n) := rfl
      simp only [abin, hk, cond_true, aint2, E.arithC_lit, E.arith, D.of, D.bind, e, E.litS_eq, wrap_top hb]
  case sub =>
    cases hle : Nat.ble n m with
    | false => exact .inl rfl
    | true =>
      simp only
      cases hb : Nat.ble (Nat.sub m n) (topK k) with
      | false => exact .inl rfl
      | true =>
        refine .inr ⟨_, rfl, fun T c H kx t k' hk => ?_⟩
        have e : (Int.ofNat m - Int.ofNat n : Int) = .ofNat (Nat.sub m n) := (Int.ofNat_sub (Nat.le_of_ble_eq_true hle)).symm
        simp only [abin, hk, cond_true, aint2, E.arithC_lit, E.arith, D.of, D.bind, e, E.litS_eq, wrap_top hb]
  case mul =>
    cases hb : Nat.ble (Nat.mul m n) (topK k) with
    | false => exact .inl rfl
    | true =>
      refine .inr ⟨_, rfl, fun T c H kx t k' hk => ?_⟩
      have e : (Int.ofNat m * Int.ofNat n : Int) = .ofNat (Nat.mul m n) := rfl
      simp only [abin, hk, cond_true, aint2, E.arithC_lit, E.arith, D.of, D.bind, e, E.litS_eq, wrap_top hb]
  case quo =>
    cases hn : Nat.beq n 0 with
    | true => exact .inl rfl
    | false =>
      simp only
      cases hb : Nat.ble (Nat.div m n) (topK k) with
      | false => exact .inl rfl
      | true =>
        refine .inr ⟨_, rfl, fun T c H kx t k' hk => ?_⟩
        have e : (Int.ofNat m).tdiv (Int.ofNat n) = .ofNat (Nat.div m n) := rfl
        have h0 : ieq (Int.ofNat n) 0 = false := hn
        simp only [abin, hk, cond_true, aint2, E.divide, h0, cond_false, D.of, D.bind, e, E.litS_eq, wrap_top hb]
  case rem =>
    cases hn : Nat.beq n 0 with
    | true => exact .inl rfl
    | false =>
      refine .inr ⟨_, rfl, fun T c H kx t k' hk => ?_⟩
      have e : (Int.ofNat m).tmod (Int.ofNat n) = .ofNat (Nat.mod m n) := rfl
      have h0 : ieq (Int.ofNat n) 0 = false := hn
      simp only [abin, hk, cond_true, aint2, E.divide, h0, cond_false, D.of, D.bind, e, E.litS_eq]
  case and =>
    cases h1 : Nat.ble m (topK k) with
    | false => exact .inl rfl
    | true =>
      cases h2 : Nat.ble n (topK k) with
      | false => exact .inl rfl
      | true =>
        simp only
        cases hb : Nat.ble (Nat.land m n) (topK k) with
        | false => exact .inl rfl
        | true =>
          refine .inr ⟨_, rfl, fun T c H kx t k' hk => ?_⟩
          simp only [abin, hk, cond_true, aint2, E.bits, topK_in h1, topK_in h2, Bool.and_true, D.of, D.bind, E.litS_eq, wrap_top hb]
  case or =>
    cases h1 : Nat.ble m (topK k) with
    | false => exact .inl rfl
    | true =>
      cases h2 : Nat.ble n (topK k) with
      | false => exact .inl rfl
      | true =>
        simp only
        cases hb : Nat.ble (Nat.lor m n) (topK k) with
        | false => exact .inl rfl
        | true =>
          refine .inr ⟨_, rfl, fun T c H kx t k' hk => ?_⟩
          simp only [abin, hk, cond_true, aint2, E.bits, topK_in h1, topK_in h2, Bool.and_true, D.of, D.bind, E.litS_eq, wrap_top hb]
  case xor =>
    cases h1 : Nat.ble m (topK k) with
    | false => exact .inl rfl
    | true =>
      cases h2 : Nat.ble n (topK k) with
      | false => exact .inl rfl
      | true =>
        simp only
        cases hb : Nat.ble (Nat.xor m n) (topK k) with
        | false => exact .inl rfl
        | true =>
          refine .inr ⟨_, rfl, fun T c H kx t k' hk => ?_⟩
          simp only [abin, hk, cond_true, aint2, E.bits, topK_in h1, topK_in h2, Bool.and_true, D.of, D.bind, E.litS_eq, wrap_top hb]
  all_goals
    refine .inr ⟨_, rfl, fun T c H kx t k' hk => ?_⟩
    simp only [abin, hk, cond_true, aint2, E.cmp, cmpF, ieq, ilt]
theorem binB_ok (hp : PutOK nt o.dst put) (hg : RCwant G nt ops o gen) {op : BinOp} {t t' : TypeId} {x y : Operand} (hop : o.op = .binOp op t x y t') (h : binB G.T.ng op x y put gen = .mk g) : RCwant G nt ops o g := by
  unfold binB at h
  split at h
  · rename_i r q gg hr hq hgg
    simp only [Box.mk.injEq] at h
    subst h
    intro c tm H nx k z hw
    have hz : Fin G nt ops o c tm H nx k z (gen c tm H nx k z) := hg c tm H nx k z hw
    obtain ⟨a, ha, hk⟩ := rdB_ok hr tm
    obtain ⟨b, hb, hk2⟩ := rdB_ok hq tm
    simp only [hk, hk2]
    rcases intK_eq a _ _ with e | ⟨ka, m, rfl, e⟩ <;> rw [e]
    · exact hz
    rcases intK_eq b _ _ with e | ⟨kb, n, rfl, e⟩ <;> rw [e]
    · exact hz
    cases hkk : Nat.beq (kN ka) (kN kb) with
    | false => exact hz
    | true =>
      simp only
      rcases natOp_ok hgg ka m n (fun v => k (put tm v) H nx) (gen c tm H nx k z) with e | ⟨v, e, hv⟩ <;> rw [e]
      · exact hz
      refine fin_val hp hw ?_
      rw [hop]
      simp only [light, ha, hb, D.of, D.bind, hv _ _ _ _ _ _ hkk, mapD]
  · cases h; exact hg
theorem boolK_eq (a : AV) (y n z : RR) : boolK a y n z = z ∨ (a = .bool true ∧ boolK a y n z = y) ∨ (a = .bool false ∧ boolK a y n z = n) := by
  cases a
  case bool b => cases b
                 · exact .inr (.inr ⟨rfl, rfl⟩)
                 · exact .inr (.inl ⟨rfl, rfl⟩)
  all_goals exact .inl rfl
theorem pickB_ok (hp : PutOK nt o.dst put) (hg : RCwant G nt ops o gen) {q x y : Operand} (hop : o.op = .pick q x y) (h : pickB G.T.ng q x y put gen = .mk g) : RCwant G nt ops o g := by
  unfold pickB at h
  split at h
  · rename_i p r s hq hr hs
    simp only [Box.mk.injEq] at h
    subst h
    intro c tm H nx k z hw
    have hz : Fin G nt ops o c tm H nx k z (gen c tm H nx k z) := hg c tm H nx k z hw
    obtain ⟨b, hb, hk0⟩ := rdB_ok hq tm
    obtain ⟨a1, ha1, hk1⟩ := rdB_ok hr tm
    obtain ⟨a2, ha2, hk2⟩ := rdB_ok hs tm
    simp only [hk0, hk1, hk2]
    rcases boolK_eq b _ _ _ with e | ⟨rfl, e⟩ | ⟨rfl, e⟩ <;> rw [e]
    · exact hz
    · exact fin_val hp hw (by rw [hop]; simp only [light, hb, D.of, D.bind, ha1, mapV])
    · exact fin_val hp hw (by rw [hop]; simp only [light, hb, D.of, D.bind, ha2, mapV])
  · cases h; exact hg
theorem notB_ok (hp : PutOK nt o.dst put) (hg : RCwant G nt ops o gen) {x : Operand} {t : TypeId} (hop : o.op = .unOp .not t x) (h : notB G.T.ng x put gen = .mk g) : RCwant G nt ops o g := by
  unfold notB at h
  split at h
  · rename_i r hr
    simp only [Box.mk.injEq] at h
    subst h
    intro c tm H nx k z hw
    have hz : Fin G nt ops o c tm H nx k z (gen c tm H nx k z) := hg c tm H nx k z hw
    obtain ⟨a, ha, hk⟩ := rdB_ok hr tm
    simp only [hk]
    rcases boolK_eq a _ _ _ with e | ⟨rfl, e⟩ | ⟨rfl, e⟩ <;> rw [e]
    · exact hz
    · exact fin_val hp hw (by rw [hop]; simp only [light, ha, D.of, D.bind, aun, mapV]; rfl)
    · exact fin_val hp hw (by rw [hop]; simp only [light, ha, D.of, D.bind, aun, mapV]; rfl)
  · cases h; exact hg
theorem fieldAddrB_ok (hp : PutOK nt o.dst put) (hg : RCwant G nt ops o gen) {t : TypeId} {x : Operand} {f : Nat} (hop : o.op = .fieldAddr t x f) (h : fieldAddrB G t x f put gen = .mk g) : RCwant G nt ops o g := by
  unfold fieldAddrB at h
  split at h
  · rename_i r n hr hn
    simp only [sNat_eq, Box.mk.injEq] at h
    subst h
    intro c tm H nx k z hw
    have hz : Fin G nt ops o c tm H nx k z (gen c tm H nx k z) := hg c tm H nx k z hw
    obtain ⟨a, ha, hk⟩ := rdB_ok hr tm
    simp only [hk]
    rcases ptrK_eq a _ _ with e | ⟨b, p, rfl, e⟩ <;> rw [e]
    · exact hz
    try simp only [sNat_eq]
    exact fin_val hp hw (by rw [hop]; simp only [light, ha, D.of, D.bind, fieldOff_eq hn, mapV]; rfl)
  · cases h; exact hg
theorem nilB_ok (hp : PutOK nt o.dst put) (hg : RCwant G nt ops o gen) {x : Operand} (hop : o.op = .nilCheck x) (h : nilB G.T.ng x put gen = .mk g) : RCwant G nt ops o g := by
  unfold nilB at h
  split at h
  · rename_i r hr
    simp only [Box.mk.injEq] at h
    subst h
    intro c tm H nx k z hw
    have hz : Fin G nt ops o c tm H nx k z (gen c tm H nx k z) := hg c tm H nx k z hw
    obtain ⟨a, ha, hk⟩ := rdB_ok hr tm
    simp only [hk]
    rcases ptrK_eq a _ _ with e | ⟨b, p, rfl, e⟩ <;> rw [e]
    · exact hz
    exact fin_val hp hw (by rw [hop]; simp only [light, ha, D.of, D.bind, anil, mapV])
  · cases h; exact hg
theorem tupK_eq (a : AV) (f : List AV → RR) (z : RR) : tupK a f z = z ∨ ∃ vs, a = .tuple vs ∧ tupK a f z = f vs := by
  cases a
  case tuple vs => exact .inr ⟨vs, rfl, rfl⟩
  all_goals exact .inl rfl
theorem extractB_ok (hp : PutOK nt o.dst put) (hg : RCwant G nt ops o gen) {x : Operand} {i : Nat} (hop : o.op = .extract x i) (h : extractB G.T.ng x i put gen = .mk g) : RCwant G nt ops o g := by
  unfold extractB at h
  split at h
  · rename_i r hr
    simp only [Box.mk.injEq] at h
    subst h
    intro c tm H nx k z hw
    have hz : Fin G nt ops o c tm H nx k z (gen c tm H nx k z) := hg c tm H nx k z hw
    obtain ⟨a, ha, hk⟩ := rdB_ok hr tm
    simp only [hk]
    rcases tupK_eq a _ _ with e | ⟨vs, rfl, e⟩ <;> rw [e]
    · exact hz
    rw [nthR_eq]
    cases hv : vs[i]? with
    | none => exact hz
    | some v => exact fin_val hp hw (by rw [hop]; simp only [light, ha, D.of, D.bind, aextract, hv, mapV])
  · cases h; exact hg
theorem intD_eq {d : TypeDesc} {k : IntKind} (h : intD d = some k) : d = .int k := by
  cases d <;> simp [intD] at h; rw [h]
theorem convB_ok (hp : PutOK nt o.dst put) (hg : RCwant G nt ops o gen) {s t : TypeId} {x : Operand} (hop : o.op = .convert s t x) (h : convB G s t x put gen = .mk g) : RCwant G nt ops o g := by
  unfold convB at h
  split at h
  · rename_i r si di hr hsi hdi
    split at h
    · rename_i kd hkd
      simp only [sNat_eq, Box.mk.injEq] at h
      subst h
      intro c tm H nx k z hw
      have hz : Fin G nt ops o c tm H nx k z (gen c tm H nx k z) := hg c tm H nx k z hw
      obtain ⟨a, ha, hk⟩ := rdB_ok hr tm
      simp only [hk]
      rcases intK_eq a _ _ with e | ⟨ka, m, rfl, e⟩ <;> rw [e]
      · exact hz
      cases hb : Nat.ble m (topK kd) with
      | false => exact hz
      | true =>
        have hd := intD_eq hkd
        exact fin_val hp hw (by rw [hop]; simp only [light, ha, D.of, D.bind, abytes, hsi, hdi, aconv, hd, E.convC_lit, E.litS_eq, wrap_top hb, mapV])
    · cases h; exact hg
  · cases h; exact hg
theorem isStrD_eq {d : TypeDesc} (h : isStrD d = true) : d = .string := by
  cases d <;> simp [isStrD] at h; rfl
theorem isSliceD_eq {d : TypeDesc} {e : TypeId} (h : isSliceD d = some e) : d = .slice e := by
  cases d <;> simp [isSliceD] at h; rw [h]
theorem strK_eq (a : AV) (f : List E → RR) (z : RR) : strK a f z = z ∨ ∃ s, a = .str s ∧ strK a f z = f s := by
  cases a
  case str s => exact .inr ⟨s, rfl, rfl⟩
  all_goals exact .inl rfl
theorem sliceK_eq (a : AV) (f : Nat → Nat → Nat → RR) (z : RR) : sliceK a f z = z ∨ ∃ b o len cap es ex, a = .slice b o len cap es ex ∧ sliceK a f z = f b o len := by
  cases a
  case slice b o len cap es ex => exact .inr ⟨b, o, len, cap, es, ex, rfl, rfl⟩
  all_goals exact .inl rfl
theorem indexB_ok (hp : PutOK nt o.dst put) (hg : RCwant G nt ops o gen) {t : TypeId} {x ix : Operand} (hop : o.op = .index t x ix) (h : indexB G t x ix put gen = .mk g) : RCwant G nt ops o g := by
  unfold indexB at h
  split at h
  · rename_i r q ti hr hq hti
    cases hd : isStrD ti.desc with
    | false => rw [hd] at h; cases h; exact hg
    | true =>
      rw [hd] at h
      simp only [cond_true, Box.mk.injEq] at h
      subst h
      intro c tm H nx k z hw
      have hz : Fin G nt ops o c tm H nx k z (gen c tm H nx k z) := hg c tm H nx k z hw
      obtain ⟨a, ha, hk⟩ := rdB_ok hr tm
      obtain ⟨b, hb, hk2⟩ := rdB_ok hq tm
      simp only [hk, hk2]
      rcases strK_eq a _ _ with e | ⟨s, rfl, e⟩ <;> rw [e]
      · exact hz
      rcases intK_eq b _ _ with e | ⟨kb, i, rfl, e⟩ <;> rw [e]
      · exact hz
      rw [nthR_eq]
      cases hv : s[i]? with
      | none => exact hz
      | some v => exact fin_val hp hw (by rw [hop]; simp only [light, ha, hb, D.of, D.bind, aindexS, hti, conc, aindex, E.nat?, isStrD_eq hd, hv, mapV])
  · cases h; exact hg
theorem elemSize_eq {T : Tab} {t : TypeId} {es : Nat} (h : elemSize T t = some es) {b o len cap es' : Nat} {ex : Bool} {k : IntKind} {i : Nat} (hi : Nat.blt i len = true) :
    aindexAddr T t (.slice b o len cap es' ex) (.int k (.lit (.ofNat i))) = some (.ptr b (o + i * es)) := by
  unfold elemSize at h
  split at h
  · rename_i ti hti
    split at h
    · rename_i e hd
      split at h
      · rename_i ei hei
        cases h
        simp only [aindexAddr, E.nat?, hti, isSliceD_eq hd, hei, hi, cond_true, sNat_eq]
      · cases h
    · cases h
  · cases h
theorem indexAddrB_ok (hp : PutOK nt o.dst put) (hg : RCwant G nt ops o gen) {t : TypeId} {x ix : Operand} (hop : o.op = .indexAddr t x ix) (h : indexAddrB G t x ix put gen = .mk g) : RCwant G nt ops o g := by
  unfold indexAddrB at h
  split at h
  · rename_i r q es hr hq hes
    simp only [sNat_eq, Box.mk.injEq] at h
    subst h
    intro c tm H nx k z hw
    have hz : Fin G nt ops o c tm H nx k z (gen c tm H nx k z) := hg c tm H nx k z hw
    obtain ⟨a, ha, hk⟩ := rdB_ok hr tm
    obtain ⟨b, hb, hk2⟩ := rdB_ok hq tm
    simp only [hk, hk2]
    rcases sliceK_eq a _ _ with e | ⟨bl, p, len, cap, es', ex, rfl, e⟩ <;> rw [e]
    · exact hz
    rcases intK_eq b _ _ with e | ⟨kb, i, rfl, e⟩ <;> rw [e]
    · exact hz
    cases hi : Nat.blt i len with
    | false => exact hz
    | true => exact fin_val hp hw (by rw [hop]; simp only [light, ha, hb, D.of, D.bind, conc, elemSize_eq hes hi, mapV]; rfl)
  · cases h; exact hg
theorem lenB_ok (hp : PutOK nt o.dst put) (hg : RCwant G nt ops o gen) {cl : Call} (hop : o.op = .call cl) (h : lenB G cl put gen = .mk g) : RCwant G nt ops o g := by
  unfold lenB at h
  split at h
  · rename_i t x hc hts hxs
    split at h
    · rename_i r ti hr hti
      cases hd : isStrD ti.desc with
      | true =>
        rw [hd] at h
        simp only [cond_true, Box.mk.injEq] at h
        subst h
        intro c tm H nx k z hw
        have hz : Fin G nt ops o c tm H nx k z (gen c tm H nx k z) := hg c tm H nx k z hw
        obtain ⟨a, ha, hk⟩ := rdB_ok hr tm
        simp only [hk]
        rcases strK_eq a _ _ with e | ⟨s, rfl, e⟩ <;> rw [e]
        · exact hz
        simp only [sNat_eq, lenR_eq]
        exact fin_val hp hw (by rw [hop]; simp only [light, hc, hts, hxs, ha, D.of, D.bind, alenC, alen, hti, isStrD_eq hd, sNat_eq, mapV])
      | false =>
        rw [hd] at h
        simp only [cond_false] at h
        split at h
        · rename_i e hs
          simp only [Box.mk.injEq] at h
          subst h
          intro c tm H nx k z hw
          have hz : Fin G nt ops o c tm H nx k z (gen c tm H nx k z) := hg c tm H nx k z hw
          obtain ⟨a, ha, hk⟩ := rdB_ok hr tm
          simp only [hk]
          rcases sliceK_eq a _ _ with e | ⟨b, p, len, cap, es, ex, rfl, e⟩ <;> rw [e]
          · exact hz
          exact fin_val hp hw (by rw [hop]; simp only [light, hc, hts, hxs, ha, D.of, D.bind, alenC, alen, hti, isSliceD_eq hs, mapV])
        · cases h; exact hg
    · cases h; exact hg
  · cases h; exact hg
theorem specOp_ok (hp : PutOK nt o.dst put) (hg : RCwant G nt ops o gen) (h : specOp G o.op put gen = .mk g) : RCwant G nt ops o g := by
  unfold specOp at h
  split at h <;> rename_i hop
  · exact moveB_ok hp hg (.inl hop) h
  · exact moveB_ok hp hg (.inr hop) h
  · exact loadB_ok hp hg hop h
  · exact storeB_ok hp hg hop h
  · exact binB_ok hp hg hop h
  · exact pickB_ok hp hg hop h
  · split at h
    · exact notB_ok hp hg hop h
    · cases h; exact hg
  · exact fieldAddrB_ok hp hg hop h
  · exact nilB_ok hp hg hop h
  · exact extractB_ok hp hg hop h
  · exact convB_ok hp hg hop h
  · exact indexB_ok hp hg hop h
  · exact indexAddrB_ok hp hg hop h
  · exact lenB_ok hp hg hop h
  · cases h; exact hg
end
theorem specF_ok {G : Env} : SpecOK G specF := by
  intro nt ops o put g h hp
  unfold specF at h
  split at h
  · cases h
  · rename_i put' hp'
    cases hgen : genB G o put' with
    | mk gen =>
      rw [hgen] at h
      simp only [Option.some.injEq] at h
      exact specOp_ok (putB_ok hp') (genB_ok (putB_ok hp') hgen) h
end Go.Ax
namespace Go.Ax
open Go.RowKit
section
variable {P : Program} {G : Env} {n0 : Nat} {w0 : World} {cs0 : List Frame} {X : Ext} {s : AM} {m : Machine}
theorem areach_sound (hT : G.T.OK P) (hI : TabI.OK P G.I) (hS : SumsOK P G n0) {s s' : AM} (h : AReach G s s') : ∀ {X : Ext} {m : Machine}, Sim P G n0 w0 cs0 X s m → Owes P G n0 w0 cs0 X m s' := by
  induction h with
  | refl s => intro X m hs; exact ⟨X, m, .refl P _, Ext.le.refl X, hs⟩
  | step e _ ih =>
    intro X m hs
    obtain ⟨Y, m1, a, b, c⟩ := astep_sound hT hI hS hs e
    exact Owes.of_steps a b (ih c)
end
end Go.Ax
namespace Go.Ax
open Go.RowKit
inductive Sp where
  | int (k : IntKind) (lo hi : Int)
  | str (most : Nat)
  | bool
  | lit (b : Bool)
  | nils
  | agg (l : List Sp)
  | tup (l : List Sp)
mutual
def Sp.has : Sp → Value → Prop
  | .int k lo hi, v => ∃ n, v = .int k n ∧ lo ≤ n ∧ n ≤ hi
  | .str m, v => ∃ s : ByteArray, v = .string s ∧ s.size ≤ m
  | .bool, v => ∃ b, v = .bool b
  | .lit b, v => v = .bool b
  | .nils, v => v = .slice none 0 0
  | .agg l, v => ∃ vs : Array Value, v = .agg vs ∧ Sp.hasL l vs.toList
  | .tup l, v => ∃ vs : Array Value, v = .tuple vs ∧ Sp.hasL l vs.toList
def Sp.hasL : List Sp → List Value → Prop
  | [], vs => vs = []
  | s :: l, vs => ∃ v vs', vs = v :: vs' ∧ s.has v ∧ Sp.hasL l vs'
end
mutual
noncomputable def Sp.chk (c : Ctx) : Sp → AV → Bool
  | .int k lo hi, .int j e => Nat.beq (kN j) (kN k) && (match (E.iv c.fs e).lo, (E.iv c.fs e).hi with | some l, some h => ile lo l && ile h hi | _, _ => false)
  | .str m, a => match toST a with
    | some s => (match (E.iv c.fs s.len).hi with | some h => ile h (.ofNat m) | none => false)
    | none => false
  | .bool, .bool _ => true
  | .lit b, .bool a => b == a
  | .nils, .nilslice => true
  | .agg l, .agg cs => Sp.chkL c l cs
  | .tup l, .tuple cs => Sp.chkL c l cs
  | _, _ => false
noncomputable def Sp.chkL (c : Ctx) : List Sp → List AV → Bool
  | [], [] => true
  | s :: l, a :: as => s.chk c a && Sp.chkL c l as
  | _, _ => false
end
mutual
theorem Sp.chk_sound {c : Ctx} {X : Ext} (hc : c.okN X.dom X.ρ) : ∀ {sp : Sp} {a : AV} {v : Value}, sp.chk c a = true → a.rel X v → sp.has v
  | .int k lo hi, a, v, h, hr => by
    cases a <;> simp only [Sp.chk, Bool.false_eq_true, Bool.and_eq_true] at h
    rename_i j e
    obtain ⟨h1, h2⟩ := h
    simp only [AV.rel] at hr
    obtain ⟨_, rfl⟩ := hr
    have hv := E.iv_sound hc.2 e
    split at h2
    · rename_i l hh e1 e2
      simp only [Bool.and_eq_true, ile_iff] at h2
      have := hv.1 _ e1
      have := hv.2 _ e2
      simp only [Sp.has]
      exact ⟨_, by rw [kN_inj h1], by omega, by omega⟩
    · cases h2
  | .str m, a, v, h, hr => by
    have h' : (match toST a with
      | some s => (match (E.iv c.fs s.len).hi with | some h => ile h (.ofNat m) | none => false)
      | none => false) = true := by cases a <;> exact h
    split at h'
    · rename_i s hs
      obtain ⟨s1, s2, rfl⟩ := toST_rel hs hr
      split at h'
      · rename_i hh e
        rw [ile_iff] at h'
        have := (E.iv_sound hc.2 s.len).2 _ e
        unfold ST.fit at s2
        simp only [Sp.has]
        refine ⟨_, rfl, ?_⟩
        show (s.den X.ρ).toArray.size ≤ m
        simp only [Int.ofNat_eq_natCast] at h'
        simp
        omega
      · cases h'
    · cases h'
  | .bool, a, v, h, hr => by
    cases a <;> simp only [Sp.chk, Bool.false_eq_true] at h
    simp only [AV.rel] at hr
    simp only [Sp.has]
    exact ⟨_, hr⟩
  | .lit b, a, v, h, hr => by
    cases a <;> simp only [Sp.chk, Bool.false_eq_true, beq_iff_eq] at h
    simp only [AV.rel] at hr
    simp only [Sp.has]
    rw [hr, h]
  | .nils, a, v, h, hr => by
    cases a <;> simp only [Sp.chk, Bool.false_eq_true] at h
    simp only [AV.rel] at hr
    simp only [Sp.has]
    exact hr
  | .agg l, a, v, h, hr => by
    cases a <;> simp only [Sp.chk, Bool.false_eq_true] at h
    simp only [AV.rel] at hr
    obtain ⟨vs, rfl, hr⟩ := hr
    simp only [Sp.has]
    exact ⟨vs, rfl, Sp.chkL_sound hc h hr⟩
  | .tup l, a, v, h, hr => by
    cases a <;> simp only [Sp.chk, Bool.false_eq_true] at h
    simp only [AV.rel] at hr
    obtain ⟨vs, rfl, hr⟩ := hr
    simp only [Sp.has]
    exact ⟨vs, rfl, Sp.chkL_sound hc h hr⟩
theorem Sp.chkL_sound {c : Ctx} {X : Ext} (hc : c.okN X.dom X.ρ) : ∀ {l : List Sp} {as : List AV} {vs : List Value}, Sp.chkL c l as = true → AV.rels X as vs → Sp.hasL l vs
  | [], as, vs, h, hr => by
    cases as <;> simp only [Sp.chkL, Bool.false_eq_true] at h
    simp only [Sp.hasL]
    exact rels_nil.1 hr
  | s :: l, as, vs, h, hr => by
    cases as <;> simp only [Sp.chkL, Bool.false_eq_true, Bool.and_eq_true] at h
    obtain ⟨v, vs', rfl, h1, h2⟩ := rels_cons.1 hr
    simp only [Sp.hasL]
    exact ⟨v, vs', rfl, Sp.chk_sound hc h.1 h1, Sp.chkL_sound hc h.2 h2⟩
end
structure In where
  v : AV
  next : Nat
  fs : Facts
  vs : List Nat
structure InL where
  v : List AV
  next : Nat
  fs : Facts
  vs : List Nat
mutual
noncomputable def Sp.inst : Sp → Nat → Option In
  | .int k lo hi, n => sNat (n + 1) fun m => some ⟨.int k (.var n), m, [⟨.geq, .var n, .lit lo, true⟩, ⟨.leq, .var n, .lit hi, true⟩], [n]⟩
  | .str most, n => sNat (n + 1) fun m => some ⟨.sstr (.var n), m, [⟨.leq, .len n, .lit (.ofNat most), true⟩], [n]⟩
  | .bool, _ => none
  | .lit b, n => some ⟨.bool b, n, [], []⟩
  | .nils, n => some ⟨.nilslice, n, [], []⟩
  | .agg l, n => match Sp.instL l n with
    | some r => some ⟨.agg r.v, r.next, r.fs, r.vs⟩
    | none => none
  | .tup l, n => match Sp.instL l n with
    | some r => some ⟨.tuple r.v, r.next, r.fs, r.vs⟩
    | none => none
noncomputable def Sp.instL : List Sp → Nat → Option InL
  | [], n => some ⟨[], n, [], []⟩
  | s :: l, n => match s.inst n with
    | none => none
    | some a => match Sp.instL l a.next with
      | none => none
      | some r => some ⟨a.v :: r.v, r.next, a.fs ++ r.fs, a.vs ++ r.vs⟩
end
structure New (X Y : Ext) (p : Place) (n m : Nat) (fs : Facts) (vs : List Nat) : Prop where
  le : X.le Y
  nm : n ≤ m
  old : ∀ b, b < n → Y.μ b = X.μ b
  new : ∀ b, n ≤ b → b < m → Y.μ b = some p
  free : ∀ b, m ≤ b → Y.μ b = none
  fs : fs.okN Y.dom Y.ρ
  vs : ∀ i ∈ vs, Y.dom i
def Ext.letter (X : Ext) (n : Nat) (p : Place) (z : Int) (s : List UInt8) : Ext :=
  ⟨fun i => if i = n then some p else X.μ i, ⟨fun i => if i = n then z else X.ρ.int i, fun i => if i = n then s else X.ρ.str i⟩⟩
theorem Ext.letter_new {X : Ext} {n : Nat} {p : Place} {z : Int} {s : List UInt8} (h : ∀ b, n ≤ b → X.μ b = none) {fs : Facts} (hf : fs.okN (X.letter n p z s).dom (X.letter n p z s).ρ) : New X (X.letter n p z s) p n (n + 1) fs [n] := by
  refine ⟨⟨fun b q hq => ?_, fun i hi => ?_⟩, by omega, fun b hb => ?_, fun b h1 h2 => ?_, fun b hb => ?_, hf, fun i hi => ?_⟩
  · have : b ≠ n := fun e => by subst e; rw [h _ (Nat.le_refl _)] at hq; cases hq
    simp only [Ext.letter, if_neg this]
    exact hq
  · obtain ⟨q, hq⟩ := hi
    have : i ≠ n := fun e => by subst e; rw [h _ (Nat.le_refl _)] at hq; cases hq
    simp only [Ext.letter, if_neg this, and_self]
  · simp only [Ext.letter, if_neg (show ¬ b = n by omega)]
  · simp only [Ext.letter, if_pos (show b = n by omega)]
  · simp only [Ext.letter, if_neg (show ¬ b = n by omega)]
    exact h b (by omega)
  · simp only [List.mem_singleton] at hi
    subst hi
    exact ⟨p, by simp [Ext.letter]⟩
theorem Facts.okN_mono {d d' : Nat → Prop} {ρ ρ' : Val} (hd : ∀ i, d i → d' i) (ha : Val.agree d ρ ρ') {fs : Facts} (h : fs.okN d ρ) : fs.okN d' ρ' := fun f hf => by
  obtain ⟨h1, h2, h3⟩ := h f hf
  refine ⟨?_, E.ok_mono hd h2, E.ok_mono hd h3⟩
  unfold Fact.ok at *
  rw [E.den_agree ha h2, E.den_agree ha h3]
  exact h1
mutual
theorem Sp.inst_sound {p : Place} : ∀ {sp : Sp} {n : Nat} {r : In} {X : Ext} {v : Value}, sp.inst n = some r → sp.has v → (∀ b, n ≤ b → X.μ b = none) → ∃ Y, New X Y p n r.next r.fs r.vs ∧ r.v.rel Y v
  | .int k lo hi, n, r, X, v, h, hv, hf => by
    simp only [Sp.inst, sNat_eq, Option.some.injEq] at h
    subst h
    simp only [Sp.has] at hv
    obtain ⟨z, rfl, h1, h2⟩ := hv
    refine ⟨X.letter n p z [], Ext.letter_new hf ?_, ?_⟩
    · intro f hm
      have hd : (X.letter n p z []).dom n := ⟨p, by simp [Ext.letter]⟩
      simp only [List.mem_cons, List.not_mem_nil, or_false] at hm
      rcases hm with rfl | rfl
      · exact ⟨by simp [Fact.ok, cmpZ, E.den, Ext.letter, h1], hd, trivial⟩
      · exact ⟨by simp [Fact.ok, cmpZ, E.den, Ext.letter, h2], hd, trivial⟩
    · simp only [AV.rel]
      exact ⟨⟨p, by simp [Ext.letter]⟩, by simp [E.den, Ext.letter]⟩
  | .str most, n, r, X, v, h, hv, hf => by
    simp only [Sp.inst, sNat_eq, Option.some.injEq] at h
    subst h
    simp only [Sp.has] at hv
    obtain ⟨s, rfl, h1⟩ := hv
    refine ⟨X.letter n p 0 s.data.toList, Ext.letter_new hf ?_, ?_⟩
    · intro f hm
      have hd : (X.letter n p 0 s.data.toList).dom n := ⟨p, by simp [Ext.letter]⟩
      simp only [List.mem_cons, List.not_mem_nil, or_false] at hm
      subst hm
      refine ⟨?_, hd, trivial⟩
      simp [Fact.ok, cmpZ, E.den, Ext.letter]
      exact h1
    · simp only [AV.rel]
      refine ⟨⟨p, by simp [Ext.letter]⟩, ?_, ?_⟩
      · simp [ST.fit, ST.len, E.den, ST.den, Ext.letter]
      · simp [ST.den, Ext.letter]
  | .bool, n, r, X, v, h, _, _ => by simp [Sp.inst] at h
  | .lit b, n, r, X, v, h, hv, hf => by
    simp only [Sp.inst, Option.some.injEq] at h
    subst h
    simp only [Sp.has] at hv
    exact ⟨X, ⟨Ext.le.refl X, Nat.le_refl _, fun _ _ => rfl, fun b h1 h2 => by simp only at h2; omega, hf, fun f hf => (by cases hf), fun i hi => (by cases hi)⟩, by simp only [AV.rel]; exact hv⟩
  | .nils, n, r, X, v, h, hv, hf => by
    simp only [Sp.inst, Option.some.injEq] at h
    subst h
    simp only [Sp.has] at hv
    exact ⟨X, ⟨Ext.le.refl X, Nat.le_refl _, fun _ _ => rfl, fun b h1 h2 => by simp only at h2; omega, hf, fun f hf => (by cases hf), fun i hi => (by cases hi)⟩, by simp only [AV.rel]; exact hv⟩
  | .agg l, n, r, X, v, h, hv, hf => by
    simp only [Sp.inst] at h
    split at h
    · rename_i q hq
      cases h
      simp only [Sp.has] at hv
      obtain ⟨vs, rfl, hv⟩ := hv
      obtain ⟨Y, h1, h2⟩ := Sp.instL_sound (p := p) hq hv hf
      exact ⟨Y, h1, by simp only [AV.rel]; exact ⟨vs, rfl, h2⟩⟩
    · cases h
  | .tup l, n, r, X, v, h, hv, hf => by
    simp only [Sp.inst] at h
    split at h
    · rename_i q hq
      cases h
      simp only [Sp.has] at hv
      obtain ⟨vs, rfl, hv⟩ := hv
      obtain ⟨Y, h1, h2⟩ := Sp.instL_sound (p := p) hq hv hf
      exact ⟨Y, h1, by simp only [AV.rel]; exact ⟨vs, rfl, h2⟩⟩
    · cases h
theorem Sp.instL_sound {p : Place} : ∀ {l : List Sp} {n : Nat} {r : InL} {X : Ext} {vs : List Value}, Sp.instL l n = some r → Sp.hasL l vs → (∀ b, n ≤ b → X.μ b = none) → ∃ Y, New X Y p n r.next r.fs r.vs ∧ AV.rels Y r.v vs
  | [], n, r, X, vs, h, hv, hf => by
    simp only [Sp.instL, Option.some.injEq] at h
    subst h
    simp only [Sp.hasL] at hv
    subst hv
    exact ⟨X, ⟨Ext.le.refl X, Nat.le_refl _, fun _ _ => rfl, fun b h1 h2 => by simp only at h2; omega, hf, fun f hf => (by cases hf), fun i hi => (by cases hi)⟩, by simp⟩
  | s :: l, n, r, X, vs, h, hv, hf => by
    simp only [Sp.instL] at h
    split at h
    · cases h
    · rename_i a ha
      split at h
      · cases h
      · rename_i q hq
        cases h
        simp only [Sp.hasL] at hv
        obtain ⟨v, vs', rfl, hv1, hv2⟩ := hv
        obtain ⟨Y, n1, r1⟩ := Sp.inst_sound (p := p) ha hv1 hf
        obtain ⟨Z, n2, r2⟩ := Sp.instL_sound (p := p) hq hv2 n1.free
        refine ⟨Z, ⟨n1.le.trans n2.le, Nat.le_trans n1.nm n2.nm, fun b hb => ?_, fun b h1 h2 => ?_, n2.free, fun f hm => ?_, fun i hi => ?_⟩, ?_⟩
        · rw [n2.old b (Nat.lt_of_lt_of_le hb n1.nm), n1.old b hb]
        · by_cases hb : b < a.next
          · rw [n2.old b hb]; exact n1.new b h1 hb
          · exact n2.new b (by omega) h2
        · rcases List.mem_append.1 hm with hm | hm
          · exact Facts.okN_mono n2.le.dom n2.le.ρ n1.fs f hm
          · exact n2.fs f hm
        · rcases List.mem_append.1 hi with hi | hi
          · exact n2.le.dom _ (n1.vs i hi)
          · exact n2.vs i hi
        · simp only [rels_cons_cons]
          exact ⟨AV.rel_mono n2.le _ _ r1, r2⟩
end
mutual
def Sp.part : Sp → List Sp
  | .bool => [.lit true, .lit false]
  | .agg l => (Sp.partL l).map .agg
  | .tup l => (Sp.partL l).map .tup
  | s => [s]
def Sp.partL : List Sp → List (List Sp)
  | [] => [[]]
  | s :: l => s.part.flatMap fun a => (Sp.partL l).map fun as => a :: as
end
mutual
theorem Sp.part_has : ∀ {sp : Sp} {v : Value}, sp.has v → ∃ a ∈ sp.part, a.has v
  | .bool, v, h => by
    simp only [Sp.has] at h
    obtain ⟨b, rfl⟩ := h
    cases b
    · exact ⟨.lit false, by simp [Sp.part], by simp only [Sp.has]⟩
    · exact ⟨.lit true, by simp [Sp.part], by simp only [Sp.has]⟩
  | .agg l, v, h => by
    simp only [Sp.has] at h
    obtain ⟨vs, rfl, h⟩ := h
    obtain ⟨as, h1, h2⟩ := Sp.partL_has h
    exact ⟨.agg as, by simp only [Sp.part]; exact List.mem_map.2 ⟨as, h1, rfl⟩, by simp only [Sp.has]; exact ⟨vs, rfl, h2⟩⟩
  | .tup l, v, h => by
    simp only [Sp.has] at h
    obtain ⟨vs, rfl, h⟩ := h
    obtain ⟨as, h1, h2⟩ := Sp.partL_has h
    exact ⟨.tup as, by simp only [Sp.part]; exact List.mem_map.2 ⟨as, h1, rfl⟩, by simp only [Sp.has]; exact ⟨vs, rfl, h2⟩⟩
  | .int k lo hi, v, h => ⟨_, by simp [Sp.part], h⟩
  | .str m, v, h => ⟨_, by simp [Sp.part], h⟩
  | .lit b, v, h => ⟨_, by simp [Sp.part], h⟩
  | .nils, v, h => ⟨_, by simp [Sp.part], h⟩
theorem Sp.partL_has : ∀ {l : List Sp} {vs : List Value}, Sp.hasL l vs → ∃ as ∈ Sp.partL l, Sp.hasL as vs
  | [], vs, h => ⟨[], by simp [Sp.partL], h⟩
  | s :: l, vs, h => by
    simp only [Sp.hasL] at h
    obtain ⟨v, vs', rfl, h1, h2⟩ := h
    obtain ⟨a, g1, g2⟩ := Sp.part_has h1
    obtain ⟨as, g3, g4⟩ := Sp.partL_has h2
    refine ⟨a :: as, ?_, by simp only [Sp.hasL]; exact ⟨v, vs', rfl, g2, g4⟩⟩
    simp only [Sp.partL, List.mem_flatMap, List.mem_map]
    exact ⟨a, g1, as, g3, rfl⟩
end
end Go.Ax
namespace Go.Ax
open Go.RowKit
noncomputable def exploreQ (spec : Spec) (G : Env) (n : Nat) (f : FuncId) (q : Ctx → AV → Bool) (k : Nat) : Nat → AM → Bool
  | 0, _ => false
  | d + 1, s => match runF spec G n k s with
    | .go _ => false
    | .stop s => match astep G s with
      | .fin => s.fr.ret && Nat.beq s.fr.fn f && (match G.T.funcs.get s.fr.fn with
        | some fn => match aresults G.T s.H fn s.fr.tm with
          | some v => q s.ctx v
          | none => false
        | none => false)
      | .ask op a b => a.okB s.ctx.vs && b.okB s.ctx.vs && (exploreQ spec G n f q k d { s with ctx := s.ctx.add ⟨op, a, b, true⟩ } && exploreQ spec G n f q k d { s with ctx := s.ctx.add ⟨op, a, b, false⟩ })
      | _ => false
section
variable {P : Program} {G : Env} {n0 : Nat} {w0 : World} {cs0 : List Frame} {X : Ext} {s : AM} {m : Machine}
def EndsQ (P : Program) (n0 : Nat) (w0 : World) (cs0 : List Frame) (f : FuncId) (q : Ctx → AV → Bool) (X : Ext) (m : Machine) : Prop :=
  ∃ Y fr w c v u, Steps P m (lone fr cs0 w) ∧ X.le Y ∧ c.okN Y.dom Y.ρ ∧ q c v = true ∧ v.rel Y u ∧ Below n0 w0 w ∧ fr.fn = f ∧ fr.leaving P w (.returned u)
theorem exploreQ_sound (hT : G.T.OK P) (hI : TabI.OK P G.I) (hS : SumsOK P G n0) {spec : Spec} (hsp : SpecOK G spec) {n : Nat} {f : FuncId} {q : Ctx → AV → Bool} {k : Nat} : ∀ (d : Nat) {X : Ext} {s : AM} {m : Machine}, exploreQ spec G n f q k d s = true → Sim P G n0 w0 cs0 X s m → EndsQ P n0 w0 cs0 f q X m
  | 0, X, s, m, he, _ => by simp [exploreQ] at he
  | d + 1, X, s, m, he, h => by
    simp only [exploreQ] at he
    have hr := areach_sound hT hI hS (runF_ok hsp n k s) h
    split at he
    · cases he
    · rename_i s1 hs1
      rw [hs1] at hr
      obtain ⟨Y, m1, st, hle, h1⟩ := hr
      simp only [RunR.state] at h1
      have fin : ∀ {X' : Ext}, Y = X' → EndsQ P n0 w0 cs0 f q X' m1 → EndsQ P n0 w0 cs0 f q X m := by
        rintro X' rfl ⟨Z, fr, w, c, v, u, a1, a2, a3⟩
        exact ⟨Z, fr, w, c, v, u, st.trans a1, hle.trans a2, a3⟩
      split at he
      · rename_i hfin
        refine fin rfl ?_
        simp only [Bool.and_eq_true, Nat.beq_eq] at he
        obtain ⟨⟨hret, hf⟩, he⟩ := he
        split at he
        · rename_i fn hfn
          split at he
          · rename_i v hv
            -- the state is at its end
            have hend : s1.fr.ret = true ∧ s1.fr.defers = [] ∧ s1.cs = [] := by
              unfold astep at hfin
              rw [hret] at hfin
              simp only at hfin
              split at hfin
              · cases hfin
              · split at hfin <;> cases hfin
              · rename_i hd
                split at hfin
                · rename_i hcs
                  exact ⟨hret, hd, hcs⟩
                · split at hfin
                  · cases hfin
                  · split at hfin
                    · cases hfin
                    · split at hfin <;> cases hfin
            obtain ⟨e1, e2, e3⟩ := hend
            obtain ⟨fr, cs, w, rfl, hF, hall, hH, hB, h0⟩ := h1.ex
            rw [e3] at hall
            simp only [susAll] at hall
            subst hall
            obtain ⟨hb, h'⟩ := hF
            rw [e1] at h'
            simp only at h'
            obtain ⟨hm, htm, hcur⟩ := h'
            have hdf := hb.defers
            rw [e2] at hdf
            simp only [dsRel] at hdf
            obtain ⟨u, hu, hr⟩ := results_sound (P := P) hT hH htm hv
            exact ⟨Y, fr, w, s1.ctx, v, u, .refl P _, Ext.le.refl Y, h1.ctx, he, hr, hB, hb.fn.trans hf, hm, hdf, hb.kind, fn, by rw [hb.fn]; exact (hT.funcs _ _ hfn).1, hu⟩
          · cases he
        · cases he
      · rename_i op a b hask
        simp only [Bool.and_eq_true] at he
        obtain ⟨⟨ka, kb⟩, he⟩ := he
        obtain ⟨v, hv⟩ := h1.ask op ka kb
        refine fin rfl ?_
        cases v with
        | true => exact exploreQ_sound hT hI hS hsp d he.1 hv
        | false => exact exploreQ_sound hT hI hS hsp d he.2 hv
      · cases he
theorem calls_of_exploreQ (hT : G.T.OK P) (hI : TabI.OK P G.I) (hS : SumsOK P G n0) {spec : Spec} (hsp : SpecOK G spec) {n : Nat} {f : FuncId} {args : List AV} {vs : Array Value} {H : Tr AObj} {next : Nat} {c : Ctx} {q : Ctx → AV → Bool} {k d : Nat} {s : AM} {w : World} (hs : start G f args H next c = some s) (he : exploreQ spec G n f q k d s = true)
    (hargs : AV.rels X args vs.toList) (hH : HRel X n0 H w) (h0 : n0 ≤ w.heap.size) (hc : c.okN X.dom X.ρ) (hg : X.globs G.T.ng) (hfr : ∀ b, next ≤ b → X.μ b = none) :
    Calls P f vs w (fun e w' => ∃ Y c v u, X.le Y ∧ c.okN Y.dom Y.ρ ∧ q c v = true ∧ v.rel Y u ∧ e = .returned u ∧ Below n0 w w') := by
  intro cs
  have hsim : Sim P G n0 w cs X s (lone (Frame.enter P f vs .normal) cs w) := by
    unfold start at hs
    split at hs
    · cases hs
    · rename_i fn hfn
      split at hs
      · cases hs
      · rename_i b hb
        cases hs
        have hP := (hT.funcs f fn hfn).1
        refine ⟨⟨Frame.enter P f vs .normal, [], w, rfl, ⟨⟨rfl, rfl, rfl, rfl⟩, rfl, [.code b], ⟨_, _, rfl, rfl, rfl⟩, ?_, ?_⟩, rfl, hH, Below.refl _ _, h0⟩, hc, hg, hfr, ?_⟩
        · simp [Frame.enter, hP, hb]
        · have := enter_tm (k := fn.ntmps) hargs
          simpa [Frame.enter, hP] using this
        · simp [idsOf]
  obtain ⟨Y, fr, w', c', v, u, a1, a2, a2', a3, a4, a5, a6, a7⟩ := exploreQ_sound hT hI hS hsp d he hsim
  exact ⟨.returned u, w', fr, ⟨Y, c', v, u, a2, a2', a3, a4, rfl, a5⟩, a1, a6, a7⟩
end
def Told (P : Program) (ng : Nat) (f : FuncId) (args : List Sp) (res : Sp) : Prop :=
  ∀ (w : World) (vs : Array Value), ng ≤ w.heap.size → Sp.hasL args vs.toList → Calls P f vs w (fun e w' => ∃ u, e = .returned u ∧ res.has u ∧ Below w.heap.size w w')
def Ext.base (ng : Nat) : Ext := ⟨fun b => if b < ng then some ⟨b, 0, 0⟩ else none, ⟨fun _ => 0, fun _ => []⟩⟩
theorem told_of_explore {P : Program} {G : Env} (hT : G.T.OK P) (hI : TabI.OK P G.I) (hS : ∀ n0, SumsOK P G n0) (hng : 0 < G.T.ng) {f : FuncId} {args : List Sp} {res : Sp} {r : InL} {room n k d : Nat} {s : AM}
    (hi : Sp.instL args G.T.ng = some r) (hs : start G f r.v (.sk room) r.next ⟨r.fs, r.vs⟩ = some s) (he : exploreQ specF G n f (fun c v => res.chk c v) k d s = true) : Told P G.T.ng f args res := by
  intro w vs hw hv cs
  obtain ⟨Y, hN, hr⟩ := Sp.instL_sound (p := ⟨0, 0, 0⟩) (X := Ext.base G.T.ng) hi hv (fun b hb => by simp [Ext.base, Nat.not_lt.2 hb])
  have hH : HRel Y w.heap.size (.sk room) w := by
    refine ⟨fun b o p hb => by simp at hb, fun b b' o o' p p' hb => by simp at hb, fun b p hp => ?_, fun b o p hb => by simp at hb⟩
    by_cases h1 : b < G.T.ng
    · rw [hN.old b h1] at hp
      simp only [Ext.base, if_pos h1, Option.some.injEq] at hp
      subst hp
      exact Nat.lt_of_lt_of_le h1 hw
    · by_cases h2 : b < r.next
      · rw [hN.new b (by omega) h2] at hp
        cases hp
        exact Nat.lt_of_lt_of_le hng hw
      · rw [hN.free b (by omega)] at hp; cases hp
  have hg : Y.globs G.T.ng := fun g hg => ⟨0, by rw [hN.old g hg]; simp [Ext.base, hg]⟩
  obtain ⟨e, w', fr, ⟨Z, c, v, u, a1, a2, a3, a4, rfl, a5⟩, a6⟩ := calls_of_exploreQ hT hI (hS _) specF_ok hs he hr hH (Nat.le_refl _) (c := ⟨r.fs, r.vs⟩) ⟨hN.vs, hN.fs⟩ hg hN.free cs
  exact ⟨_, w', fr, ⟨u, rfl, Sp.chk_sound a2 a3 a4, a5⟩, a6⟩
theorem told_parts {P : Program} {ng : Nat} {f : FuncId} {args : List Sp} {res : Sp} (h : ∀ as ∈ Sp.partL args, Told P ng f as res) : Told P ng f args res := by
  intro w vs hw hv
  obtain ⟨as, h1, h2⟩ := Sp.partL_has hv
  exact h as h1 w vs hw h2
noncomputable def exploreParts (G : Env) (f : FuncId) (res : Sp) (room n k d : Nat) : List (List Sp) → Bool
  | [] => true
  | as :: l => (match Sp.instL as G.T.ng with
    | none => false
    | some r => match start G f r.v (.sk room) r.next ⟨r.fs, r.vs⟩ with
      | none => false
      | some s => exploreQ specF G n f (fun c v => res.chk c v) k d s) && exploreParts G f res room n k d l
theorem told_of_parts {P : Program} {G : Env} (hT : G.T.OK P) (hI : TabI.OK P G.I) (hS : ∀ n0, SumsOK P G n0) (hng : 0 < G.T.ng) {f : FuncId} {args : List Sp} {res : Sp} {room n k d : Nat}
    (he : exploreParts G f res room n k d (Sp.partL args) = true) : Told P G.T.ng f args res := by
  refine told_parts ?_
  generalize Sp.partL args = l at he
  induction l with
  | nil => intro as h; cases h
  | cons a l ih =>
    simp only [exploreParts, Bool.and_eq_true] at he
    intro as h
    rcases List.mem_cons.1 h with rfl | h
    · have h1 := he.1
      split at h1
      · cases h1
      · rename_i r hr
        split at h1
        · cases h1
        · rename_i s hs
          exact told_of_explore hT hI hS hng hr hs h1
    · exact ih he.2 as h
noncomputable def freeB (H : Tr AObj) (n : Nat) (m : Nat) : Nat → Bool
  | 0 => Nat.ble m n
  | k + 1 => bif Nat.ble m n then true else (match H.get n with | none => sNat (n + 1) fun n => freeB H n m k | some _ => false)
theorem freeB_sound {H : Tr AObj} {m : Nat} : ∀ {k n : Nat}, freeB H n m k = true → ∀ b, n ≤ b → b < m → H.get b = none
  | 0, n, h, b, h1, h2 => by simp only [freeB, Nat.ble_eq] at h; omega
  | k + 1, n, h, b, h1, h2 => by
    simp only [freeB, sNat_eq] at h
    cases hb : Nat.ble m n with
    | true => have : m ≤ n := by simpa using hb
              omega
    | false =>
      rw [hb] at h
      simp only [cond_false] at h
      split at h
      · rename_i hg
        by_cases e : b = n
        · subst e; exact hg
        · exact freeB_sound h b (by omega) h2
      · cases h
noncomputable def sumSp (args : List Sp) (res : Sp) : Ctx → Tr AObj → Nat → List AV → D SR := fun c H next as =>
  bif Sp.chkL c args as then
    match res.inst next with
    | some r => bif freeB H next r.next 64 then .ok ⟨r.v, H, r.next, ⟨r.fs ++ c.fs, r.vs ++ c.vs⟩⟩ else .fail
    | none => .fail
  else .fail
theorem sumSp_ok {P : Program} {G : Env} {n0 : Nat} (hng : 0 < G.T.ng) {f : FuncId} {args : List Sp} {res : Sp} (h : Told P G.T.ng f args res) : SumOK P G n0 f (sumSp args res) := by
  intro c X H next w as vs r hr hc hg hH h0 hfr hargs fr cs
  unfold sumSp at hr
  cases hk : Sp.chkL c args as with
  | false => rw [hk] at hr; cases hr
  | true =>
    rw [hk] at hr
    simp only [cond_true] at hr
    split at hr
    · rename_i q hq
      cases hb : freeB H next q.next 64 with
      | false => rw [hb] at hr; cases hr
      | true =>
        rw [hb] at hr
        cases hr
        have hfree := freeB_sound hb
        have hhas := Sp.chkL_sound hc hk hargs
        have hsz : G.T.ng ≤ w.heap.size := by
          obtain ⟨n, hn⟩ := hg (G.T.ng - 1) (by omega)
          have := hH.lt _ _ hn
          simp only at this
          omega
        have hcall := h w vs hsz hhas
        obtain ⟨u, w', ⟨g2, g3⟩, g1⟩ := calls_back hcall fr cs
        obtain ⟨n, hn⟩ := hg 0 hng
        obtain ⟨Y, hN, hrel⟩ := Sp.inst_sound (p := ⟨0, 0, n⟩) hq g2 hfr
        have h0' : (0 : Nat) < w.heap.size := by
          have := hH.lt _ _ hn
          simpa using this
        refine ⟨Y, u, w', g1, hN.le, hrel, ?_, g3.mono h0, fun b hb hlt => ⟨by rw [hN.old b hlt]; exact hb, rfl⟩, hN.nm, hN.free, ?_⟩
        · have hold : ∀ b o p, H.get b = some o → Y.μ b = some p → X.μ b = some p := by
            intro b o p ho hp
            by_cases h1 : b < next
            · rw [← hN.old b h1]; exact hp
            · by_cases h2 : b < q.next
              · rw [hfree b (by omega) h2] at ho; cases ho
              · rw [hN.free b (by omega)] at hp; cases hp
          refine ⟨fun b o p ho hp => ?_, fun b b' o o' p p' ho ho' hl hl' hp hp' he => hH.inj b b' o o' p p' ho ho' hl hl' (hold b o p ho hp) (hold b' o' p' ho' hp') he, fun b p hp => ?_, fun b o p ho hr hp => hH.own b o p ho hr (hold b o p ho hp)⟩
          · have hp' := hold b o p ho hp
            rw [g3.block _ (hH.lt _ _ hp')]
            exact ORel_mono hN.le (hH.obj b o p ho hp')
          · refine Nat.lt_of_lt_of_le ?_ g3.size
            by_cases h1 : b < next
            · exact hH.lt b p (by rw [← hN.old b h1]; exact hp)
            · by_cases h2 : b < q.next
              · rw [hN.new b (by omega) h2] at hp
                cases hp
                exact h0'
              · rw [hN.free b (by omega)] at hp; cases hp
        · refine ⟨fun i hi => ?_, fun fa hf => ?_⟩
          · rcases List.mem_append.1 hi with hi | hi
            · exact hN.vs i hi
            · exact hN.le.dom _ (hc.1 i hi)
          · rcases List.mem_append.1 hf with hf | hf
            · exact hN.fs fa hf
            · exact Facts.okN_mono hN.le.dom hN.le.ρ hc.2 fa hf
    · cases hr
end Go.Ax
namespace Go.Ax
open Go.RowKit
abbrev Sum := Ctx → Tr AObj → Nat → List AV → D SR
noncomputable def sumsL : List (Nat × Sum) → Nat → Option Sum
  | [], _ => none
  | p :: l, f => bif Nat.beq p.1 f then some p.2 else sumsL l f
def AllS (P : Program) (T : Tab) (l : List (Nat × Sum)) : Prop :=
  ∀ p ∈ l, ∀ (G : Env) (n0 : Nat), G.T = T → OneOK P G n0 p.1 p.2
theorem sumsL_ok {P : Program} {T : Tab} {I : List (TypeId × TypeId × Bool)} {l : List (Nat × Sum)} (h : AllS P T l) (n0 : Nat) : SumsOK P ⟨T, I, sumsL l⟩ n0 := by
  intro f S hf
  have : ∃ p ∈ l, p.1 = f ∧ p.2 = S := by
    clear h
    induction l with
    | nil => cases hf
    | cons p l ih =>
      have hf' : (bif Nat.beq p.1 f then some p.2 else sumsL l f) = some S := hf
      cases hb : Nat.beq p.1 f with
      | true =>
        rw [hb] at hf'
        simp only [cond_true, Option.some.injEq] at hf'
        exact ⟨p, by simp, by simpa using hb, hf'⟩
      | false =>
        rw [hb] at hf'
        obtain ⟨q, h1, h2⟩ := ih hf'
        exact ⟨q, by simp [h1], h2⟩
  obtain ⟨p, hp, rfl, rfl⟩ := this
  exact h p hp _ n0 rfl
theorem AllS.cons {P : Program} {T : Tab} {p : Nat × Sum} {l : List (Nat × Sum)} (h1 : ∀ (G : Env) (n0 : Nat), G.T = T → SumOK P G n0 p.1 p.2) (h2 : ∀ args w, (callFunc p.1 args).run P w = .ok (.enter p.1 args) w) (h : AllS P T l) : AllS P T (p :: l) := by
  intro q hq
  rcases List.mem_cons.1 hq with rfl | hq
  · exact fun G n0 e => .inl ⟨h1 G n0 e, h2⟩
  · exact h q hq
theorem AllS.ext {P : Program} {T : Tab} {p : Nat × Sum} {l : List (Nat × Sum)} (h1 : ∀ (G : Env) (n0 : Nat), G.T = T → ExtOK P G n0 p.1 p.2) (h : AllS P T l) : AllS P T (p :: l) := by
  intro q hq
  rcases List.mem_cons.1 hq with rfl | hq
  · exact fun G n0 e => .inr (h1 G n0 e)
  · exact h q hq
theorem AllS.nil {P : Program} {T : Tab} : AllS P T [] := fun p hp => by cases hp
theorem AllS.told {P : Program} {T : Tab} (hng : 0 < T.ng) {f : FuncId} {args : List Sp} {res : Sp} (h : Told P T.ng f args res) : ∀ (G : Env) (n0 : Nat), G.T = T → SumOK P G n0 f (sumSp args res) :=
  fun G n0 e => by
    subst e
    exact sumSp_ok hng h
def spI : Sp := .int .i64 (-9223372036854775808) 9223372036854775807
noncomputable def pickSum : Sum := fun c H next as =>
  match as with
  | [.int _ (.lit _), _] => .fail
  | [.int .i64 e, .int .i64 (.lit (.ofNat n))] => bif Nat.ble 1 n && Nat.ble n 9223372036854775807 && spI.chk c (.int .i64 e) then .ok ⟨.int .i64 (.pk n e), H, next, c⟩ else .fail
  | _ => .fail
theorem pickSum_ok {P : Program} {G : Env} {n0 : Nat} {f : FuncId}
    (h : ∀ (z : Int) (n : Nat) (w : World), -9223372036854775808 ≤ z → z ≤ 9223372036854775807 → 1 ≤ n → n ≤ 9223372036854775807 → Calls P f #[.int .i64 z, .int .i64 n] w fun e w' => e = .returned (.int .i64 (pickZ n z)) ∧ w' = w) : SumOK P G n0 f pickSum := by
  intro c X H next w as vs r hr hc hg hH h0 hfr hargs fr cs
  unfold pickSum at hr
  split at hr
  · cases hr
  · rename_i e n _
    cases hb : (Nat.ble 1 n && Nat.ble n 9223372036854775807 && spI.chk c (.int .i64 e)) with
    | false => rw [hb] at hr; cases hr
    | true =>
      rw [hb] at hr
      cases hr
      simp only [Bool.and_eq_true, Nat.ble_eq] at hb
      obtain ⟨u, vs', e1, h1, h2⟩ := rels_cons.1 hargs
      obtain ⟨v, vs'', rfl, h3, h4⟩ := rels_cons.1 h2
      have := rels_nil.1 h4
      subst this
      have hk := Sp.chk_sound hc hb.2 h1
      simp only [AV.rel] at h1 h3
      obtain ⟨k1, rfl⟩ := h1
      obtain ⟨_, rfl⟩ := h3
      simp only [spI, Sp.has] at hk
      obtain ⟨z, hz, z0, z1⟩ := hk
      cases hz
      have hvs : vs = #[.int .i64 (e.den X.ρ), .int .i64 n] := by rw [← Array.toList_inj]; exact e1
      subst hvs
      refine ⟨X, _, w, calls_finish (h (e.den X.ρ) n w z0 z1 hb.1.1 hb.1.2) fr cs, Ext.le.refl X, ?_, hH, Below.refl _ _, fun b hb _ => ⟨hb, rfl⟩, Nat.le_refl _, hfr, hc⟩
      simp only [AV.rel]
      exact ⟨k1, rfl⟩
  · cases hr
theorem hasL_one {s : Sp} {vs : Array Value} (h : Sp.hasL [s] vs.toList) : ∃ v, vs = #[v] ∧ s.has v := by
  simp only [Sp.hasL] at h
  obtain ⟨v, vs', e, h1, rfl⟩ := h
  exact ⟨v, by rw [← Array.toList_inj]; exact e, h1⟩
end Go.Ax
namespace Go.Ax
open Go.RowKit
noncomputable def exploreP (spec : Spec) (G : Env) (n : Nat) (f : FuncId) (q : Ctx → AV → Bool) (k : Nat) : Nat → List Bool → AM → Bool
  | 0, _, _ => false
  | d + 1, p, s => match runF spec G n k s with
    | .go _ => false
    | .stop s => match astep G s with
      | .fin => s.fr.ret && Nat.beq s.fr.fn f && (match G.T.funcs.get s.fr.fn with
        | some fn => match aresults G.T s.H fn s.fr.tm with
          | some v => q s.ctx v
          | none => false
        | none => false)
      | .ask op a b => a.okB s.ctx.vs && b.okB s.ctx.vs && (match p with
        | [] => exploreP spec G n f q k d [] { s with ctx := s.ctx.add ⟨op, a, b, true⟩ } && exploreP spec G n f q k d [] { s with ctx := s.ctx.add ⟨op, a, b, false⟩ }
        | true :: p => exploreP spec G n f q k d p { s with ctx := s.ctx.add ⟨op, a, b, true⟩ }
        | false :: p => exploreP spec G n f q k d p { s with ctx := s.ctx.add ⟨op, a, b, false⟩ })
      | _ => false
theorem exploreP_nil {spec : Spec} {G : Env} {n : Nat} {f : FuncId} {q : Ctx → AV → Bool} {k : Nat} : ∀ (d : Nat) (s : AM), exploreP spec G n f q k d [] s = exploreQ spec G n f q k d s
  | 0, _ => rfl
  | d + 1, s => by
    simp only [exploreP, exploreQ]
    simp only [exploreP_nil d]
    all_goals rfl
theorem exploreP_both {spec : Spec} {G : Env} {n : Nat} {f : FuncId} {q : Ctx → AV → Bool} {k : Nat} : ∀ (d : Nat) (p : List Bool) (s : AM), exploreP spec G n f q k d (p ++ [true]) s = true → exploreP spec G n f q k d (p ++ [false]) s = true → exploreP spec G n f q k d p s = true
  | 0, _, _, h, _ => by simp [exploreP] at h
  | d + 1, p, s, h1, h2 => by
    simp only [exploreP] at h1 h2 ⊢
    cases hs : runF spec G n k s with
    | go s' => rw [hs] at h1; cases h1
    | stop s' =>
      rw [hs] at h1 h2
      simp only at h1 h2 ⊢
      cases ha : astep G s' with
      | next t => rw [ha] at h1; cases h1
      | fail w => rw [ha] at h1; cases h1
      | fin => rw [ha] at h1; exact h1
      | ask op a b =>
        rw [ha] at h1 h2
        simp only at h1 h2 ⊢
        cases p with
        | nil =>
          simp only [List.nil_append, Bool.and_eq_true] at h1 h2 ⊢
          exact ⟨h1.1, h1.2, h2.2⟩
        | cons c p =>
          cases c with
          | true =>
            simp only [List.cons_append, Bool.and_eq_true] at h1 h2 ⊢
            exact ⟨h1.1, exploreP_both d p _ h1.2 h2.2⟩
          | false =>
            simp only [List.cons_append, Bool.and_eq_true] at h1 h2 ⊢
            exact ⟨h1.1, exploreP_both d p _ h1.2 h2.2⟩
noncomputable def partP (G : Env) (f : FuncId) (args : List Sp) (res : Sp) (room n k d : Nat) (p : List Bool) : Bool :=
  match Sp.instL args G.T.ng with
  | none => false
  | some r => match start G f r.v (.sk room) r.next ⟨r.fs, r.vs⟩ with
    | none => false
    | some s => exploreP specF G n f (fun c v => res.chk c v) k d p s
theorem partP_both {G : Env} {f : FuncId} {args : List Sp} {res : Sp} {room n k d : Nat} {p : List Bool} (h1 : partP G f args res room n k d (p ++ [true]) = true) (h2 : partP G f args res room n k d (p ++ [false]) = true) : partP G f args res room n k d p = true := by
  unfold partP at *
  split at h1
  · cases h1
  · rename_i r hr
    split at h1
    · cases h1
    · rename_i s hs
      rw [hr] at h2
      simp only [hs] at h2
      exact exploreP_both d p s h1 h2
theorem told_of_partP {P : Program} {G : Env} (hT : G.T.OK P) (hI : TabI.OK P G.I) (hS : ∀ n0, SumsOK P G n0) (hng : 0 < G.T.ng) {f : FuncId} {args : List Sp} {res : Sp} {room n k d : Nat}
    (he : partP G f args res room n k d [] = true) : Told P G.T.ng f args res := by
  unfold partP at he
  split at he
  · cases he
  · rename_i r hr
    split at he
    · cases he
    · rename_i s hs
      rw [exploreP_nil] at he
      exact told_of_explore hT hI hS hng hr hs he
end Go.Ax
namespace Go.Ax
open Go.RowKit
theorem HRel.place {X : Ext} {n0 : Nat} {H : Tr AObj} {w : World} (h : HRel X n0 H w) {b : Nat} {o : AObj} {p : Place} (hb : X.μ b = none) (hlt : p.blk < w.heap.size) (hn : n0 ≤ p.blk) (hfr : ∀ i q, X.μ i = some q → q.blk ≠ p.blk)
    (hr : ORel (X.add b p) o p w.heap[p.blk]?) : HRel (X.add b p) n0 (H.set b o) w := by
  have hle := Ext.le_add (p := p) hb
  have key : ∀ i q, (X.add b p).μ i = some q → (i = b ∧ q = p) ∨ (i ≠ b ∧ X.μ i = some q) := by
    intro i q hq
    by_cases e : i = b
    · subst e; rw [Ext.add_same] at hq; exact .inl ⟨rfl, (Option.some.inj hq).symm⟩
    · rw [Ext.add_ne e] at hq; exact .inr ⟨e, hq⟩
  refine ⟨fun i o' q hi hq => ?_, fun i j o1 o2 q1 q2 hi hj l1 l2 hq1 hq2 e => ?_, fun i q hq => ?_, fun i o' q hi hl hq => ?_⟩
  · rcases key i q hq with ⟨rfl, rfl⟩ | ⟨e, hq'⟩
    · rw [Tr.get_set_same] at hi
      cases hi
      exact hr
    · rw [Tr.get_set_ne _ _ e] at hi
      exact ORel_mono hle (h.obj i o' q hi hq')
  · rcases key i q1 hq1 with ⟨rfl, rfl⟩ | ⟨e1, hq1'⟩ <;> rcases key j q2 hq2 with ⟨rfl, rfl⟩ | ⟨e2, hq2'⟩
    · rfl
    · exact absurd e.symm (hfr _ _ hq2')
    · exact absurd e (hfr _ _ hq1')
    · rw [Tr.get_set_ne _ _ e1] at hi
      rw [Tr.get_set_ne _ _ e2] at hj
      exact h.inj i j o1 o2 q1 q2 hi hj l1 l2 hq1' hq2' e
  · rcases key i q hq with ⟨rfl, rfl⟩ | ⟨_, hq'⟩
    · exact hlt
    · exact h.lt i q hq'
  · rcases key i q hq with ⟨rfl, rfl⟩ | ⟨e, hq'⟩
    · exact hn
    · rw [Tr.get_set_ne _ _ e] at hi
      exact h.own i o' q hi hl hq'
theorem HRel.grow {X : Ext} {n0 : Nat} {H : Tr AObj} {w w' : World} (h : HRel X n0 H w) (hb : Below w.heap.size w w') : HRel X n0 H w' :=
  ⟨fun b o p hi hp => by rw [hb.block _ (h.lt _ _ hp)]; exact h.obj b o p hi hp, h.inj, fun b p hp => Nat.lt_of_lt_of_le (h.lt b p hp) hb.size, h.own⟩
theorem perm_map_inv {α β : Type} {f : α → β} {L' L : List β} (h : L'.Perm L) : ∀ es : List α, es.map f = L' → ∃ l : List α, l.Perm es ∧ l.map f = L := by
  induction h with
  | nil => intro es he; exact ⟨es, .refl _, he⟩
  | cons x _ ih =>
    intro es he
    cases es with
    | nil => simp at he
    | cons e es =>
      simp only [List.map_cons, List.cons.injEq] at he
      obtain ⟨l, h1, h2⟩ := ih es he.2
      exact ⟨e :: l, h1.cons e, by simp [he.1, h2]⟩
  | swap x y l =>
    intro es he
    match es, he with
    | a :: b :: es, he =>
      simp only [List.map_cons, List.cons.injEq] at he
      exact ⟨b :: a :: es, .swap _ _ _, by simp [he.1, he.2.1, he.2.2]⟩
  | trans _ _ ih1 ih2 =>
    intro es he
    obtain ⟨l, h1, h2⟩ := ih1 es he
    obtain ⟨l', h3, h4⟩ := ih2 l h2
    exact ⟨l', h3.trans h1, h4⟩
end Go.Ax
namespace Go.Ax
open Go.RowKit
structure Errs where
  ng : Nat
  m : Nat
  T : TypeId
  t : TypeId
  l : List (Nat × Nat)
  d : List (Nat × TypeId × List Nat)
noncomputable def dObj (q : Nat × TypeId × List Nat) : AObj := .cells (q.2.2.map fun n => .int .i64 (.lit (.ofNat n))) q.2.1 false false true
noncomputable def datH (room : Nat) : List (Nat × TypeId × List Nat) → Tr AObj
  | [] => .sk room
  | q :: l => (datH room l).set q.1 (dObj q)
noncomputable def errH (room : Nat) (T t : TypeId) (d : List (Nat × TypeId × List Nat)) : List (Nat × Nat) → Tr AObj
  | [] => datH room d
  | e :: l => (errH room T t d l).set e.1 (.cells [.iface T (.ptr e.2 0)] t false false true)
structure Laid (E : Errs) (A : Nat → Addr) (N : Nat → Nat) (w : World) : Prop where
  at_ : ∀ e ∈ E.l, e.1 < E.ng ∧ E.ng ≤ e.2 ∧ e.2 < E.ng + E.m ∧ 0 < N e.1 ∧ (A e.2).spot = none ∧ ∃ c fr el, w.heap[e.1]? = some (.cells c el fr) ∧ c.size = N e.1 ∧ c[0]? = some (.iface E.T (.pointer (some (A e.2))))
  lt : ∀ b, E.ng ≤ b → b < E.ng + E.m → (A b).block < w.heap.size
  sz : E.ng ≤ w.heap.size
  dat : ∀ q ∈ E.d, q.1 < E.ng ∧ ∃ c fr el, w.heap[q.1]? = some (.cells c el fr) ∧ c.size = N q.1 ∧ q.2.2.length ≤ c.size ∧ ∀ (i n : Nat), q.2.2[i]? = some n → c[i]? = some (.int .i64 (n : Int))
def errX (E : Errs) (A : Nat → Addr) (N : Nat → Nat) : Ext :=
  ⟨fun b => if b < E.ng then some ⟨b, 0, N b⟩ else if b < E.ng + E.m then some ⟨(A b).block, (A b).off, 0⟩ else none, ⟨fun _ => 0, fun _ => []⟩⟩
theorem datH_get {room : Nat} : ∀ {d : List (Nat × TypeId × List Nat)} {b : Nat} {o : AObj}, (datH room d).get b = some o → ∃ q ∈ d, b = q.1 ∧ o = dObj q
  | [], b, o, h => by simp [datH] at h
  | q :: l, b, o, h => by
    simp only [datH] at h
    rw [Tr.get_set] at h
    by_cases hb : b = q.1
    · subst hb
      simp at h
      exact ⟨q, by simp, rfl, h.symm⟩
    · rw [if_neg hb] at h
      obtain ⟨q', h1, h2⟩ := datH_get h
      exact ⟨q', by simp [h1], h2⟩
theorem errH_get {room : Nat} {T t : TypeId} {d : List (Nat × TypeId × List Nat)} : ∀ {l : List (Nat × Nat)} {b : Nat} {o : AObj}, (errH room T t d l).get b = some o → (∃ id, (b, id) ∈ l ∧ o = .cells [.iface T (.ptr id 0)] t false false true) ∨ ∃ q ∈ d, b = q.1 ∧ o = dObj q
  | [], b, o, h => .inr (datH_get h)
  | e :: l, b, o, h => by
    simp only [errH] at h
    rw [Tr.get_set] at h
    by_cases hb : b = e.1
    · subst hb
      simp at h
      exact .inl ⟨e.2, by simp, h.symm⟩
    · rw [if_neg hb] at h
      rcases errH_get h with ⟨id, h1, h2⟩ | h1
      · exact .inl ⟨id, by simp [h1], h2⟩
      · exact .inr h1
theorem errH_HRel {E : Errs} {A : Nat → Addr} {N : Nat → Nat} {w : World} (hl : Laid E A N w) {Y : Ext} {room : Nat} (hold : ∀ b, b < E.ng → Y.μ b = some ⟨b, 0, N b⟩) (hptr : ∀ b, E.ng ≤ b → b < E.ng + E.m → Y.μ b = some ⟨(A b).block, (A b).off, 0⟩)
    (hlt : ∀ b p, Y.μ b = some p → p.blk < w.heap.size) : HRel Y w.heap.size (errH room E.T E.t E.d E.l) w := by
  have hin : ∀ {b o}, (errH room E.T E.t E.d E.l).get b = some o → b < E.ng := fun hb => by
    rcases errH_get hb with ⟨id, hm, -⟩ | ⟨q, hq, rfl, -⟩
    · exact (hl.at_ _ hm).1
    · exact (hl.dat q hq).1
  refine ⟨fun b o p hb hp => ?_, fun b b' o o' p p' hb hb' _ _ hp hp' e => ?_, hlt, fun b o p hb hrw => ?_⟩
  · rw [hold b (hin hb)] at hp
    cases hp
    rcases errH_get hb with ⟨id, hm, rfl⟩ | ⟨q, hq, rfl, rfl⟩
    · obtain ⟨a1, a2, a3, a3', a4, c, fr, el, a5, a6, a7⟩ := hl.at_ _ hm
      simp only at a1 a2 a3 a3' a4 a5 a6 a7
      refine ⟨c, fr, ⟨_, a5, .inl rfl⟩, a6, by simp only [List.length_singleton]; omega, fun h => (by cases h), fun i x hx => ?_, .inl rfl, fun h => (by cases h)⟩
      cases i with
      | zero =>
        simp only [List.getElem?_cons_zero, Option.some.injEq] at hx
        subst hx
        refine ⟨_, by simpa using a7, ?_⟩
        simp only [AV.rel]
        refine ⟨_, rfl, _, hptr id a2 a3, ?_⟩
        simp only [Nat.add_zero]
        rw [← a4]
      | succ i => simp at hx
    · obtain ⟨a1, c, fr, el, a5, a6, a7, a8⟩ := hl.dat q hq
      refine ⟨c, fr, ⟨_, a5, .inl rfl⟩, a6, by simp only [List.length_map]; omega, fun h => (by cases h), fun i x hx => ?_, .inl rfl, fun h => (by cases h)⟩
      simp only [List.getElem?_map, Option.map_eq_some_iff] at hx
      obtain ⟨n, hn, rfl⟩ := hx
      exact ⟨_, by simpa using a8 i n hn, by simp only [AV.rel]; exact ⟨trivial, rfl⟩⟩
  · rw [hold b (hin hb)] at hp
    rw [hold b' (hin hb')] at hp'
    cases hp
    cases hp'
    exact e
  · rcases errH_get hb with ⟨id, hm, rfl⟩ | ⟨q, hq, rfl, rfl⟩ <;> cases hrw
def ToldE (P : Program) (E : Errs) (f : FuncId) (args : List Sp) (res : Sp) : Prop :=
  ∀ (w : World) (A : Nat → Addr) (N : Nat → Nat) (vs : Array Value), Laid E A N w → Sp.hasL args vs.toList → Calls P f vs w (fun e w' => ∃ u, e = .returned u ∧ res.has u ∧ Below w.heap.size w w')
noncomputable def firstP (G : Env) (E : Errs) (f : FuncId) (args : List Sp) (res : Sp) (room n k d : Nat) (p : List Bool) : Bool :=
  match Sp.instL args (E.ng + E.m) with
  | none => false
  | some r => match start G f r.v (errH room E.T E.t E.d E.l) r.next ⟨r.fs, r.vs⟩ with
    | none => false
    | some s => exploreP specF G n f (fun c v => res.chk c v) k d p s
theorem toldE_of_firstP {P : Program} {G : Env} (hT : G.T.OK P) (hI : TabI.OK P G.I) (hS : ∀ n0, SumsOK P G n0) {E : Errs} (hE : E.ng = G.T.ng) (hng : 0 < E.ng) {f : FuncId} {args : List Sp} {res : Sp} {room n k d : Nat}
    (he : firstP G E f args res room n k d [] = true) : ToldE P E f args res := by
  intro w A N vs hl hv cs
  unfold firstP at he
  split at he
  · cases he
  · rename_i r hi
    split at he
    · cases he
    · rename_i s hs
      rw [exploreP_nil] at he
      have h00 : 0 < w.heap.size := Nat.lt_of_lt_of_le hng hl.sz
      obtain ⟨Y, hN, hr⟩ := Sp.instL_sound (p := ⟨0, 0, 0⟩) (X := errX E A N) hi hv (fun b hb => by simp only [errX]; rw [if_neg (by omega), if_neg (by omega)])
      have hold : ∀ b, b < E.ng → Y.μ b = some ⟨b, 0, N b⟩ := fun b hb => by rw [hN.old b (by omega)]; simp only [errX]; rw [if_pos hb]
      have hptr : ∀ b, E.ng ≤ b → b < E.ng + E.m → Y.μ b = some ⟨(A b).block, (A b).off, 0⟩ := fun b h1 h2 => by rw [hN.old b h2]; simp only [errX]; rw [if_neg (by omega), if_pos h2]
      have hH : HRel Y w.heap.size (errH room E.T E.t E.d E.l) w := errH_HRel hl hold hptr fun b p hp => by
        by_cases h1 : b < E.ng
        · rw [hold b h1] at hp
          cases hp
          exact Nat.lt_of_lt_of_le h1 hl.sz
        · by_cases h2 : b < E.ng + E.m
          · rw [hptr b (by omega) h2] at hp
            cases hp
            exact hl.lt b (by omega) h2
          · by_cases h3 : b < r.next
            · rw [hN.new b (by omega) h3] at hp
              cases hp
              exact h00
            · rw [hN.free b (by omega)] at hp; cases hp
      have hg : Y.globs G.T.ng := fun g hg => ⟨N g, hold g (by omega)⟩
      obtain ⟨e, w', fr, ⟨Z, c, v, u, a1, a2, a3, a4, rfl, a5⟩, a6⟩ := calls_of_exploreQ hT hI (hS _) specF_ok hs he hr hH (Nat.le_refl _) (c := ⟨r.fs, r.vs⟩) ⟨hN.vs, hN.fs⟩ hg hN.free cs
      exact ⟨_, w', fr, ⟨u, rfl, Sp.chk_sound a2 a3 a4, a5⟩, a6⟩
noncomputable def errsB (T t : TypeId) (H : Tr AObj) : List (Nat × Nat) → Bool
  | [] => true
  | e :: l => (match H.get e.1 with
    | some (.cells (.iface T' (.ptr b 0) :: _) t' _ _ _) => Nat.beq T' T && (Nat.beq t' t && Nat.beq b e.2)
    | _ => false) && errsB T t H l
theorem errsB_mem {T t : TypeId} {H : Tr AObj} : ∀ {l : List (Nat × Nat)}, errsB T t H l = true → ∀ e ∈ l, ∃ r ex pl ro, H.get e.1 = some (.cells (.iface T (.ptr e.2 0) :: r) t ex pl ro)
  | [], _, e, he => by cases he
  | a :: l, h, e, he => by
    simp only [errsB, Bool.and_eq_true] at h
    rcases List.mem_cons.1 he with rfl | he
    · obtain ⟨h1, -⟩ := h
      split at h1
      · rename_i T' b r t' ex pl ro hg
        simp only [Bool.and_eq_true, Nat.beq_eq] at h1
        obtain ⟨rfl, rfl, rfl⟩ := h1
        exact ⟨r, ex, pl, ro, hg⟩
      · cases h1
    · exact errsB_mem h.2 e he
noncomputable def litsB : List AV → List Nat → Bool
  | _, [] => true
  | .int .i64 (.lit (.ofNat m)) :: cs, n :: l => Nat.beq m n && litsB cs l
  | _, _ => false
theorem litsB_sound : ∀ {cs : List AV} {l : List Nat}, litsB cs l = true → l.length ≤ cs.length ∧ ∀ (i n : Nat), l[i]? = some n → cs[i]? = some (.int .i64 (.lit (.ofNat n)))
  | cs, [], _ => ⟨by simp, fun i n h => by simp at h⟩
  | cs, n :: l, h => by
    unfold litsB at h
    split at h
    · rename_i h1; cases h1
    · rename_i m cs' n' l' h1
      cases h1
      simp only [Bool.and_eq_true, Nat.beq_eq] at h
      obtain ⟨rfl, h2⟩ := h
      obtain ⟨h3, h4⟩ := litsB_sound h2
      refine ⟨by simp; exact h3, fun i k hk => ?_⟩
      cases i with
      | zero => simp at hk; subst hk; rfl
      | succ i => simp at hk; simpa using h4 i k hk
    · cases h
noncomputable def datB (H : Tr AObj) (d : List (Nat × TypeId × List Nat)) : Bool :=
  d.all fun q => match H.get q.1 with
    | some (.cells cs _ _ _ _) => litsB cs q.2.2
    | _ => false
theorem laid_of_mem {X : Ext} {n0 : Nat} {H : Tr AObj} {w : World} {E : Errs} (hH : HRel X n0 H w) (hg : X.globs E.ng) (hng : 0 < E.ng) (hB : errsB E.T E.t H E.l = true) (hD : datB H E.d = true) (hdn : ∀ q ∈ E.d, q.1 < E.ng) (hin : ∀ e ∈ E.l, e.1 < E.ng ∧ E.ng ≤ e.2 ∧ e.2 < E.ng + E.m) : ∃ A N, Laid E A N w := by
  have hsz : E.ng ≤ w.heap.size := by
    obtain ⟨n, hn⟩ := hg (E.ng - 1) (by omega)
    have := hH.lt _ _ hn
    simp only at this
    omega
  refine ⟨fun b => match X.μ b with | some p => ⟨p.blk, p.base, none⟩ | none => ⟨0, 0, none⟩, fun b => match X.μ b with | some p => p.n | none => 0, fun e he => ?_, fun b h1 h2 => ?_, hsz, fun q hq => ?_⟩
  · obtain ⟨i1, i2, i3⟩ := hin e he
    obtain ⟨r, ex, pl, ro, hget⟩ := errsB_mem hB e he
    obtain ⟨n, hn⟩ := hg e.1 i1
    obtain ⟨c, fr, ⟨el', b1, bel⟩, b2, b3, b4, b5, b6, b7⟩ := hH.obj _ _ _ hget hn
    simp only at b1 b2 b3 b5 b6
    obtain ⟨v, c1, c2⟩ := b5 0 _ rfl
    simp only [AV.rel] at c2
    obtain ⟨u, rfl, p, hp, rfl⟩ := c2
    simp only [List.length_cons] at b3
    refine ⟨i1, i2, i3, ?_, ?_, c, fr, el', b1, ?_, ?_⟩
    · simp only [hn]; omega
    · simp only [hp]
    · simp only [hn]; exact b2
    · simp only [hp]; simpa using c1
  · cases hp : X.μ b with
    | some p => simp only; exact hH.lt _ _ hp
    | none => simp only; omega
  · have hq1 := hdn q hq
    have hb := List.all_eq_true.1 hD q hq
    split at hb
    · rename_i cs el ex pl ro hget
      obtain ⟨n, hn⟩ := hg q.1 hq1
      obtain ⟨c, fr, ⟨el', b1, bel⟩, b2, b3, b4, b5, b6, b7⟩ := hH.obj _ _ _ hget hn
      simp only at b1 b2 b3 b5 b6
      obtain ⟨l1, l2⟩ := litsB_sound hb
      refine ⟨hq1, c, fr, el', b1, ?_, by omega, fun i k hk => ?_⟩
      · simp only [hn]; exact b2
      · obtain ⟨v, c1, c2⟩ := b5 i _ (l2 i k hk)
        simp only [AV.rel] at c2
        obtain ⟨-, rfl⟩ := c2
        simp only [Nat.zero_add] at c1
        exact c1
    · cases hb
noncomputable def sumE (E : Errs) (args : List Sp) (res : Sp) : Sum := fun c H next as =>
  bif errsB E.T E.t H E.l && datB H E.d then sumSp args res c H next as else .fail
noncomputable def Errs.inB (E : Errs) : Bool := (E.l.all fun e => Nat.ble (e.1 + 1) E.ng && (Nat.ble E.ng e.2 && Nat.ble (e.2 + 1) (E.ng + E.m))) && E.d.all fun q => Nat.ble (q.1 + 1) E.ng
theorem sumSp_step {P : Program} {G : Env} {n0 : Nat} (hng : 0 < G.T.ng) {f : FuncId} {args : List Sp} {res : Sp} {c : Ctx} {X : Ext} {H : Tr AObj} {next : Nat} {w : World} {as : List AV} {vs : Array Value} {r : SR}
    (h : Sp.hasL args vs.toList → Calls P f vs w (fun e w' => ∃ u, e = .returned u ∧ res.has u ∧ Below w.heap.size w w')) (hr : sumSp args res c H next as = .ok r) (hc : c.okN X.dom X.ρ) (hg : X.globs G.T.ng) (hH : HRel X n0 H w) (h0 : n0 ≤ w.heap.size) (hfr : ∀ b, next ≤ b → X.μ b = none) (hargs : AV.rels X as vs.toList)
    (fr : Frame) (cs : List Frame) : ∃ Y u w', Steps P (lone (Frame.enter P f vs .normal) (fr :: cs) w) (lone (fr.finish u) cs w') ∧ X.le Y ∧ r.v.rel Y u ∧ HRel Y n0 r.H w' ∧ Below n0 w w' ∧
      (∀ b, X.μ b = none → b < next → Y.μ b = none ∧ r.H.get b = H.get b) ∧ next ≤ r.next ∧ (∀ b, r.next ≤ b → Y.μ b = none) ∧ r.ctx.okN Y.dom Y.ρ := by
  unfold sumSp at hr
  cases hk : Sp.chkL c args as with
  | false => rw [hk] at hr; cases hr
  | true =>
    rw [hk] at hr
    simp only [cond_true] at hr
    split at hr
    · rename_i q hq
      cases hb : freeB H next q.next 64 with
      | false => rw [hb] at hr; cases hr
      | true =>
        rw [hb] at hr
        cases hr
        have hfree := freeB_sound hb
        have hhas := Sp.chkL_sound hc hk hargs
        obtain ⟨u, w', ⟨g2, g3⟩, g1⟩ := calls_back (h hhas) fr cs
        obtain ⟨n, hn⟩ := hg 0 hng
        obtain ⟨Y, hN, hrel⟩ := Sp.inst_sound (p := ⟨0, 0, n⟩) hq g2 hfr
        have h0' : (0 : Nat) < w.heap.size := by
          have := hH.lt _ _ hn
          simpa using this
        refine ⟨Y, u, w', g1, hN.le, hrel, ?_, g3.mono h0, fun b hb hlt => ⟨by rw [hN.old b hlt]; exact hb, rfl⟩, hN.nm, hN.free, ?_⟩
        · have hold : ∀ b o p, H.get b = some o → Y.μ b = some p → X.μ b = some p := by
            intro b o p ho hp
            by_cases h1 : b < next
            · rw [← hN.old b h1]; exact hp
            · by_cases h2 : b < q.next
              · rw [hfree b (by omega) h2] at ho; cases ho
              · rw [hN.free b (by omega)] at hp; cases hp
          refine ⟨fun b o p ho hp => ?_, fun b b' o o' p p' ho ho' hl hl' hp hp' he => hH.inj b b' o o' p p' ho ho' hl hl' (hold b o p ho hp) (hold b' o' p' ho' hp') he, fun b p hp => ?_, fun b o p ho hr hp => hH.own b o p ho hr (hold b o p ho hp)⟩
          · have hp' := hold b o p ho hp
            rw [g3.block _ (hH.lt _ _ hp')]
            exact ORel_mono hN.le (hH.obj b o p ho hp')
          · refine Nat.lt_of_lt_of_le ?_ g3.size
            by_cases h1 : b < next
            · exact hH.lt b p (by rw [← hN.old b h1]; exact hp)
            · by_cases h2 : b < q.next
              · rw [hN.new b (by omega) h2] at hp
                cases hp
                exact h0'
              · rw [hN.free b (by omega)] at hp; cases hp
        · refine ⟨fun i hi => ?_, fun fa hf => ?_⟩
          · rcases List.mem_append.1 hi with hi | hi
            · exact hN.vs i hi
            · exact hN.le.dom _ (hc.1 i hi)
          · rcases List.mem_append.1 hf with hf | hf
            · exact hN.fs fa hf
            · exact Facts.okN_mono hN.le.dom hN.le.ρ hc.2 fa hf
    · cases hr
theorem sumE_ok {P : Program} {G : Env} {n0 : Nat} {E : Errs} (hE : E.ng = G.T.ng) (hng : 0 < E.ng) (hin : E.inB = true) {f : FuncId} {args : List Sp} {res : Sp} (h : ToldE P E f args res) : SumOK P G n0 f (sumE E args res) := by
  intro c X H next w as vs r hr hc hg hH h0 hfr hargs fr cs
  unfold sumE at hr
  cases hB : (errsB E.T E.t H E.l && datB H E.d) with
  | false => rw [hB] at hr; cases hr
  | true =>
    rw [hB] at hr
    simp only [cond_true] at hr
    simp only [Bool.and_eq_true] at hB
    unfold Errs.inB at hin
    rw [Bool.and_eq_true] at hin
    have hin' : ∀ e ∈ E.l, e.1 < E.ng ∧ E.ng ≤ e.2 ∧ e.2 < E.ng + E.m := fun e he => by
      have := List.all_eq_true.1 hin.1 e he
      simp only [Bool.and_eq_true, Nat.ble_eq] at this
      omega
    obtain ⟨A, N, hl⟩ := laid_of_mem hH (by rw [hE]; exact hg) hng hB.1 hB.2 (fun q hq => by have := List.all_eq_true.1 hin.2 q hq; rw [Nat.ble_eq] at this; omega) hin'
    exact sumSp_step (by omega) (h w A N vs hl) hr hc hg hH h0 hfr hargs fr cs
end Go.Ax
namespace Go.Ax
open Go.RowKit
def spTy (P : Program) (u : TypeId) : Option Sp :=
  match P.underlying u with
  | some (.int k) => some (.int k k.min k.max)
  | some .string => some (.str 9223372036854775807)
  | some .bool => some .bool
  | _ => none
theorem has_of_cell {P : Program} {w : World} {r : _root_.Go.Reach} {base : Nat} {u : TypeId} {v : Value} {s : Sp} (h : Cell.okWide P w r base u v) (hs : spTy P u = some s) : s.has v := by
  unfold spTy at hs
  unfold Cell.okWide at h
  split at hs
  · rename_i k hk
    cases hs
    rw [hk] at h
    simp only at h
    unfold Cell.ok at h
    rw [hk] at h
    cases v <;> simp only at h
    rename_i k' n
    obtain ⟨rfl, h1, h2⟩ := h
    simp only [Sp.has]
    exact ⟨n, rfl, h1, h2⟩
  · rename_i hk
    cases hs
    rw [hk] at h
    simp only at h
    unfold Cell.ok at h
    rw [hk] at h
    cases v <;> simp only at h
    rename_i b
    simp only [Sp.has]
    refine ⟨b, rfl, ?_⟩
    have : IntKind.i64.max = 9223372036854775807 := rfl
    omega
  · rename_i hk
    cases hs
    rw [hk] at h
    simp only at h
    unfold Cell.ok at h
    rw [hk] at h
    cases v <;> simp only at h
    rename_i b
    simp only [Sp.has]
    exact ⟨b, rfl⟩
  · cases hs
def spTys (P : Program) : List TypeId → Option (List Sp)
  | [] => some []
  | u :: l => match spTy P u, spTys P l with
    | some s, some ss => some (s :: ss)
    | _, _ => none
theorem hasL_of_cells {P : Program} {w : World} {r : _root_.Go.Reach} {base : Nat} : ∀ {ts : List TypeId} {vs : List Value} {sps : List Sp}, vs.length = ts.length → (∀ (i : Nat) (v : Value), vs[i]? = some v → ∃ u, ts[i]? = some u ∧ Cell.okWide P w r base u v) → spTys P ts = some sps → Sp.hasL sps vs
  | [], vs, sps, hl, h, hs => by
    simp only [spTys, Option.some.injEq] at hs
    subst hs
    simp only [Sp.hasL]
    exact List.length_eq_zero_iff.1 hl
  | u :: ts, [], sps, hl, h, hs => by simp at hl
  | u :: ts, v :: vs, sps, hl, h, hs => by
    simp only [spTys] at hs
    split at hs
    · rename_i s ss h1 h2
      cases hs
      simp only [Sp.hasL]
      obtain ⟨u', e, hc⟩ := h 0 v rfl
      cases e
      exact ⟨v, vs, rfl, has_of_cell hc h1, hasL_of_cells (by simpa using hl) (fun i x hx => by simpa using h (i + 1) x (by simpa using hx)) h2⟩
    · cases hs
theorem has_of_wide {P : Program} {w : World} {r : _root_.Go.Reach} {base : Nat} {t : TypeId} {v : Value} {fs : Array Field} {ts : List TypeId} {sps : List Sp} (h : Value.okWide P w r base t v) (ht : P.underlying t = some (.struct fs)) (hc : P.cellTypes P.depth t = some ts) (hn : P.cellsOf t = ts.length) (hs : spTys P ts = some sps) : (Sp.agg sps).has v := by
  simp only [Value.okWide, ht] at h
  obtain ⟨cs, rfl, h2, ts', h3, -, h4⟩ := h
  rw [hc] at h3
  cases h3
  simp only [Sp.has]
  have hl : cs.toList.length = ts.length := by rw [Array.length_toList, h2, hn]
  refine ⟨cs, rfl, hasL_of_cells (w := w) (r := r) (base := base) hl (fun i x hx => ?_) hs⟩
  have hi : i < ts.length := by
    have := (List.getElem?_eq_some_iff.1 hx).1
    omega
  obtain ⟨u, h5, h6⟩ := h4 i x (by simpa using hx)
  rw [Nat.mod_eq_of_lt hi] at h5
  exact ⟨u, h5, h6⟩
end Go.Ax
