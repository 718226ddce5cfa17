/-
  Frames in the plain sense: the two functions agree about them. Conditions: none.
-/
import Derived.Test.YthfllbmlhhkhmaaGreatDoorILd
import Derived.Test.YthfllbmlhhkhmaaGreatDoorIWA
namespace Go.Proofs.YthfllbmlhhkhmaaGreatDoor
open Go Go.Ax Go.RowKit Go.Proofs
theorem addq_den {ρ : Val} {a b : E} {x y : Int} (ha : a.den ρ = x) (hb : b.den ρ = y) (h1 : -9223372036854775808 ≤ x + y) (h2 : x + y ≤ 9223372036854775807) : (adq a b).den ρ = x + y := by
  show IntKind.i64.wrap (a.den ρ + b.den ρ) = _
  rw [ha, hb]
  exact Go.Ax.wrap_within (k := .i64) h1 h2
theorem mulq_den {ρ : Val} {a : E} {x : Int} (ha : a.den ρ = x) (h1 : 0 ≤ x) (h2 : x ≤ 4294967295) : (mlq a).den ρ = x * 256 := by
  show IntKind.i64.wrap (a.den ρ * 256) = _
  rw [ha]
  exact Go.Ax.wrap_within (k := .i64) (show (-9223372036854775808 : Int) ≤ x * 256 by omega) (show x * 256 ≤ (9223372036854775807 : Int) by omega)
theorem bq_den {ρ : Val} {a : E} {k : Nat} (ha : a.den ρ = (k : Int)) : (bq a).den ρ = (byteN (ρ.str 13) k : Int) := by
  show (((ρ.str 13).getD (a.den ρ).toNat 0).toNat : Int) = _
  rw [ha]
  rfl
theorem byteN_lt (l : List UInt8) (i : Nat) : byteN l i < 256 := (l.getD i 0).toNat_lt
theorem yes_some {x : Option Bool} (h : yes x = true) : x = some true := by
  unfold yes at h
  split at h
  · rw [h]
  · cases h
set_option maxRecDepth 100000 in
set_option maxHeartbeats 1000000 in
theorem q_good {c : Ctx} {d : Nat → Prop} {ρ : Val} (hc : c.okN d ρ) (h1 : yes (E.cmp c .eql (.len 13) (adq offq (lq 4))) = true) (h2 : yes (E.cmp c .geq h01 (lq 1)) = true) (h3 : yes (E.cmp c .geq h23 (lq 1)) = true) (h4 : yes (E.cmp c .leq h23 (lq 65534)) = true) (h5 : yes (E.cmp c .leq (.len 13) (lq 200)) = true)
    (h6 : yes (E.cmp c .eql (bq (lq 4)) (lq 1)) = true ∨ yes (E.cmp c .eql (bq (lq 4)) (lq 2)) = true) (h7 : yes (E.cmp c .eql n4q fnq) = true) : good4 (ρ.str 13) = true := by
  have k1 := E.cmp_sound rfl (yes_some h1) hc
  have k2 := E.cmp_sound rfl (yes_some h2) hc
  have k3 := E.cmp_sound rfl (yes_some h3) hc
  have k4 := E.cmp_sound rfl (yes_some h4) hc
  have k5 := E.cmp_sound rfl (yes_some h5) hc
  have k7 := E.cmp_sound rfl (yes_some h7) hc
  generalize hl : ρ.str 13 = l
  have b (k : Nat) : (bq (lq k)).den ρ = (byteN l k : Int) := by rw [← hl]; exact bq_den rfl
  have B (k : Nat) := byteN_lt l k
  have k6 : byteN l 4 = 1 ∨ byteN l 4 = 2 := by
    rcases h6 with h | h
    · have := E.cmp_sound rfl (yes_some h) hc
      simp only [cmpZ, b 4, beq_iff_eq] at this
      exact .inl (by have e : (lq 1).den ρ = 1 := rfl; omega)
    · have := E.cmp_sound rfl (yes_some h) hc
      simp only [cmpZ, b 4, beq_iff_eq] at this
      exact .inr (by have e : (lq 2).den ρ = 2 := rfl; omega)
  have hoff : offq.den ρ = ((7 + byteN l 5 * 256 + byteN l 6 : Nat) : Int) := by
    have e5 := mulq_den (b 5) (by omega) (by have := B 5; omega)
    have e7 : (lq 7).den ρ = 7 := rfl
    have := addq_den (addq_den e7 e5 (by have := B 5; omega) (by have := B 5; omega)) (b 6) (by have := B 5; have := B 6; omega) (by have := B 5; have := B 6; omega)
    rw [this]
    omega
  have hoffj (j : Nat) (hj : j ≤ 4) : (adq offq (lq j)).den ρ = ((7 + byteN l 5 * 256 + byteN l 6 + j : Nat) : Int) := by
    have ej : (lq j).den ρ = (j : Int) := rfl
    have := addq_den hoff ej (by omega) (by have := B 5; have := B 6; omega)
    rw [this]
    omega
  have hlen : l.length = 7 + byteN l 5 * 256 + byteN l 6 + 4 := by
    simp only [cmpZ, beq_iff_eq] at k1
    rw [hoffj 4 (by omega)] at k1
    have e : (E.len 13).den ρ = (l.length : Int) := by rw [← hl]; rfl
    omega
  have hlen' : l.length ≤ 200 := by
    simp only [cmpZ, decide_eq_true_eq] at k5
    have e : (E.len 13).den ρ = (l.length : Int) := by rw [← hl]; rfl
    have e2 : (lq 200).den ρ = 200 := rfl
    omega
  have e01 : h01.den ρ = (byteN l 0 : Int) * 256 + byteN l 1 := addq_den (mulq_den (b 0) (by omega) (by have := B 0; omega)) (b 1) (by omega) (by have := B 0; have := B 1; omega)
  have e23 : h23.den ρ = (byteN l 2 : Int) * 256 + byteN l 3 := addq_den (mulq_den (b 2) (by omega) (by have := B 2; omega)) (b 3) (by omega) (by have := B 2; have := B 3; omega)
  have j2 : 1 ≤ byteN l 0 * 256 + byteN l 1 := by
    simp only [cmpZ, decide_eq_true_eq, e01] at k2
    have e : (lq 1).den ρ = 1 := rfl
    omega
  have j3 : 1 ≤ byteN l 2 * 256 + byteN l 3 := by
    simp only [cmpZ, decide_eq_true_eq, e23] at k3
    have e : (lq 1).den ρ = 1 := rfl
    omega
  have j4 : byteN l 2 * 256 + byteN l 3 ≤ 65534 := by
    simp only [cmpZ, decide_eq_true_eq, e23] at k4
    have e : (lq 65534).den ρ = 65534 := rfl
    omega
  obtain ⟨o, ho⟩ : ∃ o, o = 7 + byteN l 5 * 256 + byteN l 6 := ⟨_, rfl⟩
  rw [← ho] at hlen hoff
  have c0 : (bq offq).den ρ = (byteN l o : Int) := by rw [← hl]; exact bq_den hoff
  have cj (j : Nat) (hj : j ≤ 4) : (bq (adq offq (lq j))).den ρ = (byteN l (o + j) : Int) := by rw [← hl]; exact bq_den (by rw [hoffj j hj, ho])
  have hn4 : n4q.den ρ = ((((byteN l o * 256 + byteN l (o + 1)) * 256 + byteN l (o + 2)) * 256 + byteN l (o + 3) : Nat) : Int) := by
    have B0 := B o
    have B1 := B (o + 1)
    have B2 := B (o + 2)
    have B3 := B (o + 3)
    have s1 := addq_den (mulq_den c0 (by omega) (by omega)) (cj 1 (by omega)) (by omega) (by omega)
    have s2 := addq_den (mulq_den s1 (by omega) (by omega)) (cj 2 (by omega)) (by omega) (by omega)
    have s3 := addq_den (mulq_den s2 (by omega) (by omega)) (cj 3 (by omega)) (by omega) (by omega)
    rw [s3]
    omega
  have hfn : fnq.den ρ = ((crcT (l.take o) % 4294967296 : Nat) : Int) := by
    show fnZ 0 (encB (((ρ.str 13).drop 0).take ((offq.den ρ).toNat - 0)) 1) = _
    rw [hoff, hl]
    show ((crcT (decB (encB ((l.drop 0).take (((o : Nat) : Int).toNat - 0)) 1).toNat (encB ((l.drop 0).take (((o : Nat) : Int).toNat - 0)) 1).toNat) % 4294967296 : Nat) : Int) = _
    rw [decB_all]
    simp
  have hcrc : ((byteN l o * 256 + byteN l (o + 1)) * 256 + byteN l (o + 2)) * 256 + byteN l (o + 3) = crcT (l.take o) % 4294967296 := by
    simp only [cmpZ, beq_iff_eq, hn4, hfn] at k7
    exact_mod_cast k7
  unfold good4
  have e4 : l.length - 4 = o := by omega
  have e3 : l.length - 3 = o + 1 := by omega
  have e2 : l.length - 2 = o + 2 := by omega
  have e1 : l.length - 1 = o + 3 := by omega
  rw [e4, e3, e2, e1]
  simp only [Bool.and_eq_true, Bool.or_eq_true, Nat.ble_eq, Nat.beq_eq]
  exact ⟨by omega, by omega, by omega, by omega, by omega, k6, by omega, hcrc⟩
theorem plA_vany {X : Ext} {a : AV} {v : Value} (h : plA a = true) (r : a.rel X v) : vany v = true := by
  cases a <;> simp only [plA, Bool.false_eq_true] at h
  · simp only [AV.rel] at r; rw [r.2]; rfl
  · simp only [AV.rel] at r; obtain ⟨-, rfl⟩ := r; rfl
  · simp only [AV.rel] at r; obtain ⟨-, -, rfl⟩ := r; rfl
theorem tup_rel {X : Ext} {a b d e : AV} {n : Nat} {u : Value} (ha : plA a = true) (hb : plA b = true) (hd : plA d = true) (he : plA e = true) (h : (AV.tuple [.agg [a, b, d, e], .int .i64 (.lit (.ofNat n))]).rel X u) :
    ∃ a b c d, u = .tuple #[.agg #[a, b, c, d], .int .i64 (n : Int)] ∧ vany a = true ∧ vany b = true ∧ vany c = true ∧ vany d = true := by
  simp only [AV.rel] at h
  obtain ⟨us, rfl, hr⟩ := h
  obtain ⟨x, ys, e1, r1, r2⟩ := rels_cons.1 hr
  obtain ⟨y, zs, rfl, r3, r4⟩ := rels_cons.1 r2
  have := rels_nil.1 r4
  subst this
  simp only [AV.rel] at r1 r3
  obtain ⟨-, rfl⟩ := r3
  obtain ⟨ws, rfl, hw⟩ := r1
  obtain ⟨x1, y1, f1, p1, q1⟩ := rels_cons.1 hw
  obtain ⟨x2, y2, rfl, p2, q2⟩ := rels_cons.1 q1
  obtain ⟨x3, y3, rfl, p3, q3⟩ := rels_cons.1 q2
  obtain ⟨x4, y4, rfl, p4, q4⟩ := rels_cons.1 q3
  have := rels_nil.1 q4
  subst this
  have hws : ws = #[x1, x2, x3, x4] := by rw [← Array.toList_inj]; exact f1
  subst hws
  have hus : us = #[.agg #[x1, x2, x3, x4], .int .i64 (n : Int)] := by rw [← Array.toList_inj]; exact e1
  subst hus
  exact ⟨x1, x2, x3, x4, rfl, plA_vany ha p1, plA_vany hb p2, plA_vany hd p3, plA_vany he p4⟩
theorem runQ_start {f : FuncId} {xs : List AV} {r : InL} {q : Ctx → AV → Bool} (h : runQ f xs r q = true) : ∃ s, Go.Ax.start GD f xs (errH 1000 errs.T errs.t errs.d errs.l) r.next ⟨r.fs, r.vs⟩ = some s ∧ exploreQ specF GD 200 f q 17 40 s = true := by
  unfold runQ at h
  split at h
  · rename_i s hs
    exact ⟨s, hs, h⟩
  · cases h
theorem l_inst : Sp.instL [.str 200] (errs.ng + errs.m) = some (instD [.str 200] 13) := by kernel_rfl
theorem l_v : (instD [.str 200] 13).v = [.sstr (.var 13)] := by kernel_rfl
theorem l_exact (s : ByteArray) (w : World) (A : Nat → Addr) (N : Nat → Nat) (hl : Laid errs A N w) (hsz : s.size ≤ 200) (hg : good4 s.data.toList = false) :
    Calls Tryz.prog 56 #[.string s] w (fun e w' => (∃ a b c d, e = .returned (.tuple #[.agg #[a, b, c, d], .int .i64 ((40 : Nat) : Int)]) ∧ vany a = true ∧ vany b = true ∧ vany c = true ∧ vany d = true) ∧ Below w.heap.size w w') := by
  obtain ⟨s0, hs, he⟩ := runQ_start l_q
  refine (explQ tab_right ifs_right (sumsL_ok sumsD_ok) errs_ng errs_pos l_inst hs he (vs0 := [.string s]) hl (by simp only [Sp.hasL, Sp.has]; exact ⟨_, _, rfl, ⟨s, rfl, hsz⟩, rfl⟩) (fun Y h _ => h)).mono fun e w' ⟨Y, c, v, u, hr, hc, hq, hv, h1, h2⟩ => ⟨?_, h2⟩
  rw [l_v] at hr
  simp only [rels_cons_cons, rels_nil, AV.rel, Value.string.injEq] at hr
  obtain ⟨⟨-, -, hstr⟩, -⟩ := hr
  have hbytes : s.data.toList = Y.ρ.str 13 := by rw [hstr]; rfl
  unfold qL at hq
  split at hq
  · rename_i a b d e' n
    simp only [Bool.and_eq_true] at hq
    obtain ⟨qa, qb, qd, qe, hq⟩ := hq
    obtain ⟨x1, x2, x3, x4, rfl, p⟩ := tup_rel qa qb qd qe hv
    cases hn : Nat.beq n 40 with
    | true =>
      rw [Nat.beq_eq] at hn
      subst hn
      exact ⟨x1, x2, x3, x4, h1, p⟩
    | false =>
      rw [hn] at hq
      simp only [cond_false, Bool.and_eq_true, Bool.or_eq_true] at hq
      obtain ⟨q1, q2, q3, q4, q5, q6, q7⟩ := hq
      have := q_good hc q1 q2 q3 q4 q5 q6 q7
      rw [← hbytes, hg] at this
      cases this
  · cases hq
end Go.Proofs.YthfllbmlhhkhmaaGreatDoor
namespace Go.Proofs.YthfllbmlhhkhmaaGreatDoor
open Go Go.Ax Go.RowKit Go.Proofs
noncomputable def hdq : List E := putBs (.var 14) 2 ++ putBs (.var 15) 2 ++ putBs (.var 16) 1 ++ putBs (.len 13) 2
noncomputable def fnr : E := .fn 0 (textR [.b hdq, .v 13 (lq 0) (.len 13)])
noncomputable def ropeT : ST := .cat (.cat (.bs hdq) (.var 13)) (.bs (putBs fnr 4))
noncomputable def qR (_ : Ctx) (v : AV) : Bool :=
  match v with
  | .tuple [.agg [a, b, d, e], .int .i64 (.lit (.ofNat n))] => plA a && (plA b && (plA d && (plA e && Nat.beq n 0)))
  | _ => false
noncomputable def ir : InL := instD [.str 189, .int .i64 1 65535, .int .i64 1 65534, .int .i64 1 2] 13
theorem r_q : runQ 17 [.sstr ropeT] ir qR = true := by kernel_rfl
theorem r_inst : Sp.instL [.str 189, .int .i64 1 65535, .int .i64 1 65534, .int .i64 1 2] (errs.ng + errs.m) = some ir := by kernel_rfl
theorem r_v : ir.v = [.sstr (.var 13), .int .i64 (.var 14), .int .i64 (.var 15), .int .i64 (.var 16)] := by kernel_rfl
def enc4 (to fr kd : Int) (m : List UInt8) : List UInt8 :=
  let h := bytesZ to 2 ++ bytesZ fr 2 ++ bytesZ kd 1 ++ bytesZ (m.length : Int) 2
  (h ++ m) ++ bytesZ (fnZ 0 (encB (h ++ m) 1)) 4
theorem bytesZ_length (z : Int) : ∀ k, (bytesZ z k).length = k
  | 0 => rfl
  | k + 1 => by simp [bytesZ, bytesZ_length z k]
theorem rope_rel {Y : Ext} {m : List UInt8} {to fr kd : Int} (hm : m.length ≤ 189) (d13 : Y.dom 13) (d14 : Y.dom 14) (d15 : Y.dom 15) (d16 : Y.dom 16) (e13 : Y.ρ.str 13 = m) (e14 : Y.ρ.int 14 = to) (e15 : Y.ρ.int 15 = fr) (e16 : Y.ρ.int 16 = kd) :
    (AV.sstr ropeT).rel Y (.string ⟨(enc4 to fr kd m).toArray⟩) := by
  have p1 := putBs_sound (n := .var 14) (ρ := Y.ρ) (d := Y.dom) d14 (k := 2) (by omega)
  have p2 := putBs_sound (n := .var 15) (ρ := Y.ρ) (d := Y.dom) d15 (k := 2) (by omega)
  have p3 := putBs_sound (n := .var 16) (ρ := Y.ρ) (d := Y.dom) d16 (k := 1) (by omega)
  have p4 := putBs_sound (n := .len 13) (ρ := Y.ρ) (d := Y.dom) d13 (k := 2) (by omega)
  have hok : ∀ t ∈ hdq, t.ok Y.dom := fun t ht => by
    simp only [hdq, List.mem_append] at ht
    rcases ht with ((ht | ht) | ht) | ht
    · exact (p1.1 t ht).1
    · exact (p2.1 t ht).1
    · exact (p3.1 t ht).1
    · exact (p4.1 t ht).1
  have hb : S.bytes Y.ρ hdq = bytesZ to 2 ++ bytesZ fr 2 ++ bytesZ kd 1 ++ bytesZ (m.length : Int) 2 := by
    have e : S.bytes Y.ρ hdq = S.bytes Y.ρ (putBs (.var 14) 2) ++ S.bytes Y.ρ (putBs (.var 15) 2) ++ S.bytes Y.ρ (putBs (.var 16) 1) ++ S.bytes Y.ρ (putBs (.len 13) 2) := by simp only [hdq, S.bytes, List.map_append]
    rw [e, p1.2, p2.2, p3.2, p4.2]
    simp only [E.den, e13, e14, e15, e16]
  have hfok : fnr.ok Y.dom := textR_ok (l := [.b hdq, .v 13 (lq 0) (.len 13)]) fun p hp => by
    simp only [List.mem_cons, List.not_mem_nil, or_false] at hp
    rcases hp with rfl | rfl
    · exact hok
    · exact ⟨d13, trivial, d13⟩
  have hfd : fnr.den Y.ρ = fnZ 0 (encB ((bytesZ to 2 ++ bytesZ fr 2 ++ bytesZ kd 1 ++ bytesZ (m.length : Int) 2) ++ m) 1) := by
    show fnZ 0 ((textR [.b hdq, .v 13 (lq 0) (.len 13)]).den Y.ρ) = _
    rw [textR_den, rden_cons, rden_cons, rden_nil]
    have e1 : (Pc.b hdq).den Y.ρ = S.bytes Y.ρ hdq := rfl
    have e2 : (Pc.v 13 (lq 0) (.len 13)).den Y.ρ = m := by
      show ((Y.ρ.str 13).drop (0 : Int).toNat).take (((Y.ρ.str 13).length : Int).toNat - (0 : Int).toNat) = m
      rw [e13]
      simp
    rw [e1, e2, hb, List.append_nil]
  have p5 := putBs_sound (n := fnr) (ρ := Y.ρ) (d := Y.dom) hfok (k := 4) (by omega)
  have hden : ropeT.den Y.ρ = enc4 to fr kd m := by
    show (S.bytes Y.ρ hdq ++ Y.ρ.str 13) ++ S.bytes Y.ρ (putBs fnr 4) = _
    rw [p5.2, hfd, hb, e13]
    rfl
  have hbl : (S.bytes Y.ρ hdq).length = 7 := by rw [hb]; simp [bytesZ_length]
  simp only [AV.rel]
  refine ⟨⟨⟨hok, d13⟩, fun t ht => (p5.1 t ht).1⟩, ?_, by rw [hden]⟩
  have f1 : (ST.bs hdq).fit Y.ρ := by show ((hdq.length : Nat) : Int) = _; simp [ST.den, S.bytes]
  have f2 : (ST.var 13).fit Y.ρ := rfl
  have f3 : (ST.bs (putBs fnr 4)).fit Y.ρ := by show (((putBs fnr 4).length : Nat) : Int) = _; simp [ST.den, S.bytes]
  have l1 : ((ST.bs hdq).den Y.ρ).length = 7 := hbl
  have l2 : ((ST.var 13).den Y.ρ).length = m.length := by show (Y.ρ.str 13).length = _; rw [e13]
  have l3 : ((ST.bs (putBs fnr 4)).den Y.ρ).length = 4 := by show (S.bytes Y.ρ (putBs fnr 4)).length = 4; rw [p5.2, bytesZ_length]
  exact ST.fit_cat (ST.fit_cat f1 f2 (by omega) (by omega)) f3 (by show ((ST.bs hdq).den Y.ρ ++ (ST.var 13).den Y.ρ).length ≤ _; rw [List.length_append]; omega) (by omega)
theorem b2 (a b : UInt8) : bytesZ (((a.toNat * 256 + b.toNat : Nat) : Int)) 2 = [a, b] := by
  have ha := a.toNat_lt
  have hb := b.toNat_lt
  rw [bytesZ_2]
  have e1 : (((a.toNat * 256 + b.toNat : Nat) : Int) / 256 % 256).toNat = a.toNat := by omega
  have e2 : (((a.toNat * 256 + b.toNat : Nat) : Int) % 256).toNat = b.toNat := by omega
  rw [e1, e2]
  simp
theorem b1 (a : UInt8) : bytesZ ((a.toNat : Nat) : Int) 1 = [a] := by
  have ha := a.toNat_lt
  rw [bytesZ_1]
  have e1 : (((a.toNat : Nat) : Int) % 256).toNat = a.toNat := by omega
  rw [e1]
  simp
theorem b4 (a b c d : UInt8) : bytesZ (((((a.toNat * 256 + b.toNat) * 256 + c.toNat) * 256 + d.toNat : Nat) : Int)) 4 = [a, b, c, d] := by
  have ha := a.toNat_lt
  have hb := b.toNat_lt
  have hc := c.toNat_lt
  have hd := d.toNat_lt
  rw [bytesZ_4]
  generalize hz : ((((a.toNat * 256 + b.toNat) * 256 + c.toNat) * 256 + d.toNat : Nat) : Int) = z
  have e1 : (z / 16777216 % 256).toNat = a.toNat := by omega
  have e2 : (z / 65536 % 256).toNat = b.toNat := by omega
  have e3 : (z / 256 % 256).toNat = c.toNat := by omega
  have e4 : (z % 256).toNat = d.toNat := by omega
  rw [e1, e2, e3, e4]
  simp
theorem cons7 : ∀ {l : List UInt8}, 11 ≤ l.length → ∃ a0 a1 a2 a3 a4 a5 a6 t, l = a0 :: a1 :: a2 :: a3 :: a4 :: a5 :: a6 :: t
  | a0 :: l, h => by
    simp only [List.length_cons] at h
    obtain ⟨a1, l, rfl⟩ := List.exists_cons_of_length_pos (l := l) (by omega)
    simp only [List.length_cons] at h
    obtain ⟨a2, l, rfl⟩ := List.exists_cons_of_length_pos (l := l) (by omega)
    simp only [List.length_cons] at h
    obtain ⟨a3, l, rfl⟩ := List.exists_cons_of_length_pos (l := l) (by omega)
    simp only [List.length_cons] at h
    obtain ⟨a4, l, rfl⟩ := List.exists_cons_of_length_pos (l := l) (by omega)
    simp only [List.length_cons] at h
    obtain ⟨a5, l, rfl⟩ := List.exists_cons_of_length_pos (l := l) (by omega)
    simp only [List.length_cons] at h
    obtain ⟨a6, l, rfl⟩ := List.exists_cons_of_length_pos (l := l) (by omega)
    exact ⟨a0, a1, a2, a3, a4, a5, a6, l, rfl⟩
  | [], h => by simp at h
theorem four : ∀ {q : List UInt8}, q.length = 4 → ∃ c0 c1 c2 c3, q = [c0, c1, c2, c3]
  | [a, b, c, d], _ => ⟨a, b, c, d, rfl⟩
  | [], h | [_], h | [_, _], h | [_, _, _], h => by simp at h
  | _ :: _ :: _ :: _ :: _ :: _, h => by simp at h
set_option maxRecDepth 100000 in
set_option maxHeartbeats 1000000 in
theorem good_enc {l : List UInt8} (hg : good4 l = true) (hl : l.length ≤ 200) : ∃ (to fr kd : Nat) (m : List UInt8), l = enc4 to fr kd m ∧ m.length ≤ 189 ∧ 1 ≤ to ∧ to ≤ 65535 ∧ 1 ≤ fr ∧ fr ≤ 65534 ∧ 1 ≤ kd ∧ kd ≤ 2 := by
  unfold good4 at hg
  simp only [Bool.and_eq_true, Bool.or_eq_true, Nat.ble_eq, Nat.beq_eq] at hg
  obtain ⟨g1, g2, g3, g4, g5, g6, g7, g8⟩ := hg
  obtain ⟨a0, a1, a2, a3, a4, a5, a6, t, rfl⟩ := cons7 g1
  simp only [List.length_cons] at g1 g2 hl g8
  obtain ⟨m, q, ht, hq⟩ : ∃ m q, t = m ++ q ∧ q.length = 4 := ⟨t.take (t.length - 4), t.drop (t.length - 4), (List.take_append_drop _ _).symm, by rw [List.length_drop]; omega⟩
  obtain ⟨c0, c1, c2, c3, rfl⟩ := four hq
  subst ht
  simp only [List.length_append, List.length_cons, List.length_nil] at g1 g2 g8 hl
  have i0 : byteN (a0 :: a1 :: a2 :: a3 :: a4 :: a5 :: a6 :: (m ++ [c0, c1, c2, c3])) 0 = a0.toNat := rfl
  have i1 : byteN (a0 :: a1 :: a2 :: a3 :: a4 :: a5 :: a6 :: (m ++ [c0, c1, c2, c3])) 1 = a1.toNat := rfl
  have i2 : byteN (a0 :: a1 :: a2 :: a3 :: a4 :: a5 :: a6 :: (m ++ [c0, c1, c2, c3])) 2 = a2.toNat := rfl
  have i3 : byteN (a0 :: a1 :: a2 :: a3 :: a4 :: a5 :: a6 :: (m ++ [c0, c1, c2, c3])) 3 = a3.toNat := rfl
  have i4 : byteN (a0 :: a1 :: a2 :: a3 :: a4 :: a5 :: a6 :: (m ++ [c0, c1, c2, c3])) 4 = a4.toNat := rfl
  have i5 : byteN (a0 :: a1 :: a2 :: a3 :: a4 :: a5 :: a6 :: (m ++ [c0, c1, c2, c3])) 5 = a5.toNat := rfl
  have i6 : byteN (a0 :: a1 :: a2 :: a3 :: a4 :: a5 :: a6 :: (m ++ [c0, c1, c2, c3])) 6 = a6.toNat := rfl
  have ij (j : Nat) : byteN (a0 :: a1 :: a2 :: a3 :: a4 :: a5 :: a6 :: (m ++ [c0, c1, c2, c3])) (m.length + 7 + j) = byteN [c0, c1, c2, c3] j := by
    unfold byteN
    have e : m.length + 7 + j = (m.length + j) + 7 := by omega
    rw [e]
    show ((m ++ [c0, c1, c2, c3]).getD (m.length + j) 0).toNat = _
    rw [List.getD_eq_getElem?_getD, List.getD_eq_getElem?_getD, List.getElem?_append_right (by omega), Nat.add_sub_cancel_left]
  rw [i0, i1] at g3
  rw [i2, i3] at g4 g5
  rw [i4] at g6
  rw [i5, i6] at g2
  have n4 : m.length + 11 - 4 = m.length + 7 + 0 := by omega
  have n3 : m.length + 11 - 3 = m.length + 7 + 1 := by omega
  have n2 : m.length + 11 - 2 = m.length + 7 + 2 := by omega
  have n1 : m.length + 11 - 1 = m.length + 7 + 3 := by omega
  have L11 : m.length + (0 + 1 + 1 + 1 + 1) + 1 + 1 + 1 + 1 + 1 + 1 + 1 = m.length + 11 := by omega
  rw [L11] at g8
  rw [n4, n3, n2, n1, ij, ij, ij, ij] at g8
  have z0 : byteN [c0, c1, c2, c3] 0 = c0.toNat := rfl
  have z1 : byteN [c0, c1, c2, c3] 1 = c1.toNat := rfl
  have z2 : byteN [c0, c1, c2, c3] 2 = c2.toNat := rfl
  have z3 : byteN [c0, c1, c2, c3] 3 = c3.toNat := rfl
  rw [z0, z1, z2, z3] at g8
  have htk : (a0 :: a1 :: a2 :: a3 :: a4 :: a5 :: a6 :: (m ++ [c0, c1, c2, c3])).take (m.length + 7 + 0) = a0 :: a1 :: a2 :: a3 :: a4 :: a5 :: a6 :: m := by
    have e : m.length + 7 + 0 = m.length + 7 := rfl
    rw [e]
    simp
  rw [htk] at g8
  have A0 := a0.toNat_lt
  have A1 := a1.toNat_lt
  refine ⟨a0.toNat * 256 + a1.toNat, a2.toNat * 256 + a3.toNat, a4.toNat, m, ?_, by omega, g3, by omega, g4, g5, by omega, by omega⟩
  have hm2 : ((m.length : Nat) : Int) = ((a5.toNat * 256 + a6.toNat : Nat) : Int) := by
    have : m.length = a5.toNat * 256 + a6.toNat := by omega
    rw [this]
  unfold enc4
  rw [b2, b2, b1, hm2, b2]
  have hh : ([a0, a1] ++ [a2, a3] ++ [a4] ++ [a5, a6]) ++ m = a0 :: a1 :: a2 :: a3 :: a4 :: a5 :: a6 :: m := rfl
  simp only [hh]
  have hfz : fnZ 0 (encB (a0 :: a1 :: a2 :: a3 :: a4 :: a5 :: a6 :: m) 1) = ((((c0.toNat * 256 + c1.toNat) * 256 + c2.toNat) * 256 + c3.toNat : Nat) : Int) := by
    show ((crcT (decB (encB (a0 :: a1 :: a2 :: a3 :: a4 :: a5 :: a6 :: m) 1).toNat (encB (a0 :: a1 :: a2 :: a3 :: a4 :: a5 :: a6 :: m) 1).toNat) % 4294967296 : Nat) : Int) = _
    rw [decB_all, g8]
  rw [hfz, b4]
  rfl
theorem r_exact (s : ByteArray) (w : World) (A : Nat → Addr) (N : Nat → Nat) (hl : Laid errs A N w) (hsz : s.size ≤ 200) (hg : good4 s.data.toList = true) :
    Calls Tryz.prog 17 #[.string s] w (fun e w' => (∃ a b c d, e = .returned (.tuple #[.agg #[a, b, c, d], .int .i64 ((0 : Nat) : Int)]) ∧ vany a = true ∧ vany b = true ∧ vany c = true ∧ vany d = true) ∧ Below w.heap.size w w') := by
  obtain ⟨to, fr, kd, m, hE, hm, t1, t2, f1, f2, k1, k2⟩ := good_enc hg (by rw [Array.length_toList]; exact hsz)
  have hs : s = ⟨(enc4 to fr kd m).toArray⟩ := by
    rw [← hE]
  obtain ⟨s0, hst, he⟩ := runQ_start r_q
  refine (explQ tab_right ifs_right (sumsL_ok sumsD_ok) errs_ng errs_pos r_inst hst he (vs0 := [.string ⟨m.toArray⟩, .int .i64 to, .int .i64 fr, .int .i64 kd]) hl ?_ (fun Y h hd => ?_)).mono fun e w' ⟨Y, c, v, u, hr, hc, hq, hv, h1, h2⟩ => ⟨?_, h2⟩
  · simp only [Sp.hasL, Sp.has]
    refine ⟨_, _, rfl, ⟨⟨m.toArray⟩, rfl, ?_⟩, _, _, rfl, ⟨_, rfl, by omega, by omega⟩, _, _, rfl, ⟨_, rfl, by omega, by omega⟩, _, _, rfl, ⟨_, rfl, by omega, by omega⟩, rfl⟩
    show m.toArray.size ≤ 189
    simp only [List.size_toArray]
    exact hm
  · rw [r_v] at h
    simp only [rels_cons_cons, rels_nil, AV.rel, Value.string.injEq, Value.int.injEq, true_and] at h
    obtain ⟨⟨d13, -, e13⟩, ⟨d14, e14⟩, ⟨d15, e15⟩, ⟨d16, e16⟩, -⟩ := h
    simp only [rels_cons_cons, rels_nil]
    refine ⟨?_, trivial⟩
    rw [hs]
    have e13' : Y.ρ.str 13 = m := by
      have := congrArg (fun b : ByteArray => b.data.toList) e13
      simpa [ST.den] using this.symm
    exact rope_rel hm d13 d14 d15 d16 e13' e14.symm e15.symm e16.symm
  · unfold qR at hq
    split at hq
    · rename_i a b d e' n
      simp only [Bool.and_eq_true, Nat.beq_eq] at hq
      obtain ⟨qa, qb, qd, qe, rfl⟩ := hq
      obtain ⟨x1, x2, x3, x4, rfl, p⟩ := tup_rel qa qb qd qe hv
      exact ⟨x1, x2, x3, x4, h1, p⟩
    · cases hq
end Go.Proofs.YthfllbmlhhkhmaaGreatDoor
