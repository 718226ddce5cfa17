/-
 One type alone is called as the errors' type is. Conditions: none.
-/
import Derived.Test.YtmjjaldodkokbaaGreatDoorHH0
import Derived.Test.YtmjjaldodkokbaaGreatDoorHGa
import Derived.Test.YtmjjaldodkokbaaGreatDoorRows
import Derived.Stop.LaidErr
import Derived.LaidSub
import Derived.Shelf.Vars
import Derived.ProofKit
import Derived.Lib.LaidU8
import Derived.LaidLaws
import Derived.LaidHandle
import Derived.Lib.LaidTab
namespace Go.Proofs.YtmjjaldodkokbaaGreatDoor
open Go Go.Proofs
theorem star : "*" ++ "errors.errorString" = "*errors.errorString" := by decide
set_option maxRecDepth 100000 in
theorem Z00 (u : TypeId) (h : Tryz.prog.typeName? 3 u = some "*errors.errorString") : u = 770 :=
 typeName_ptr_named (nm := "errors.errorString") (List.all_eq_true.2 λ u hu => row_all u (by rw [List.mem_range, types_n] at hu; exact hu)) (List.all_eq_true.2 λ u hu => name_all u (by rw [List.mem_range, types_n] at hu; exact hu)) (by decide) u (by rw [star]; exact h)
end Go.Proofs.YtmjjaldodkokbaaGreatDoor
namespace Go.Proofs.YtmjjaldodkokbaaGreatDoor
open Go Go.RowKit Go.Proofs
abbrev Qtu : List (String × DataW Unit) := [("stagepost/link.errBroken", Rows.laid_stagepost_link_errBroken), ("stagepost/icmp.errShort", Rows.laid_stagepost_icmp_errShort), ("stagepost/icmp.errKind", Rows.laid_stagepost_icmp_errKind), ("stagepost/congestion.errSize", Rows.laid_stagepost_congestion_errSize), ("stagepost/tcpstate.triples", Rows.laid_stagepost_tcpstate_triples), ("stagepost/dnscache.errInvalid", Rows.laid_stagepost_dnscache_errInvalid)]
theorem Qs2 : (Rows.hostHalfCloseRow.laid.filter λ x => x.2.handleName?.isNone) = Qtu := by kernel_rfl
theorem Qrv : (Rows.hostHalfCloseRow.laid.filter λ x => x.2.handleName?.isSome) = [("errors.errorType", Rows.laid_errors_errorType)] := by kernel_rfl
theorem gE0 : Tryz.prog.globalNamed "stagepost/link.errBroken" = some 0 := by kernel_rfl
theorem gE1 : Tryz.prog.globalNamed "stagepost/icmp.errShort" = some 1 := by kernel_rfl
theorem gE2 : Tryz.prog.globalNamed "stagepost/icmp.errKind" = some 2 := by kernel_rfl
theorem gE3 : Tryz.prog.globalNamed "stagepost/congestion.errSize" = some 4 := by kernel_rfl
theorem gE4 : Tryz.prog.globalNamed "stagepost/dnscache.errInvalid" = some 5 := by kernel_rfl
theorem gT0 : (Tryz.prog.globals[0]?).map (·.type) = some 227 := by kernel_rfl
theorem gT1 : (Tryz.prog.globals[1]?).map (·.type) = some 227 := by kernel_rfl
theorem gT2 : (Tryz.prog.globals[2]?).map (·.type) = some 227 := by kernel_rfl
theorem gT3 : (Tryz.prog.globals[4]?).map (·.type) = some 227 := by kernel_rfl
theorem gT4 : (Tryz.prog.globals[5]?).map (·.type) = some 227 := by kernel_rfl
theorem Qpt : Tryz.prog.cellsOf 789 = 1 := by kernel_rfl
theorem Qp2 : Tryz.prog.cellsOf 9 = 1 := by kernel_rfl
theorem Qp4 {W : World} {a : Addr} {v : Value} (h : W.cell? a = some v) : a.spot = none /\ a.block < W.heap.size := by
 obtain ⟨b, o, s⟩ := a
 unfold World.cell? at h
 split at h
 . rename_i hb
   cases s with
   | none => exact ⟨rfl, (Array.getElem?_eq_some_iff.1 hb).1⟩
   | some x => simp at h
 . cases h
theorem Qp3 {W : World} {n : String} {g : Nat} {v : Value} (hs : W.ShapedOpen Tryz.prog) (hg : g < Tryz.prog.globals.size) (h0 : ((begin Tryz.prog (λ _ _ => 0) default).world.heap[g]?).bind Obj.row? = some (#[.nilIface], 227)) (hn : Tryz.prog.globalNamed n = some g) (hv : W.var? Tryz.prog n = some #[v]) :
 ∃ c fr el, W.heap[g]? = some (.cells c el fr) /\ c.size = 1 /\ c[0]? = some v := by
 obtain ⟨cs, h1, h2, -⟩ := hs.1 g #[.nilIface] 227 hg h0
 have h3 : W.cell? ⟨g, 0, none⟩ = some v := by have := World.var?_cell hn hv 0; simpa using this
 refine ⟨cs, (0, 0), _, h1, by simpa using h2, ?_⟩
 unfold World.cell? at h3
 simp only [h1] at h3
 simpa using h3
abbrev Qz9 : List Nat := [0, 1, 1, 0, 2, 2, 1, 3, 3, 1, 2, 2, 1, 5, 0, 2, 4, 3, 2, 5, 4, 2, 6, 6, 3, 5, 4, 3, 6, 6, 4, 7, 5, 4, 6, 7, 5, 6, 9, 6, 5, 8, 7, 7, 9, 8, 7, 0]
abbrev Qr9 : List (List Int) := [[0, 1, 1], [0, 2, 2], [1, 3, 3], [1, 2, 2], [1, 5, 0], [2, 4, 3], [2, 5, 4], [2, 6, 6], [3, 5, 4], [3, 6, 6], [4, 7, 5], [4, 6, 7], [5, 6, 9], [6, 5, 8], [7, 7, 9], [8, 7, 0]]
theorem Qwx (i n : Nat) (h : Qz9[i]? = some n) : ∃ r j, i = r * 3 + j /\ r < 16 /\ j < 3 /\ ∃ l, Qr9[r]? = some l /\ l[j]? = some (n : Int) := by
 have hall : ∀ i, i < 48 -> ∃ l, Qr9[i / 3]? = some l /\ l[i % 3]? = (Qz9[i]?).map Int.ofNat := by decide
 have hi : i < 48 := by
  rcases Nat.lt_or_ge i 48 with h' | h'
  . exact h'
  . rw [List.getElem?_eq_none (by simpa using h')] at h; cases h
 obtain ⟨l, h1, h2⟩ := hall i hi
 rw [h] at h2
 exact ⟨i / 3, i % 3, by omega, by omega, by omega, l, h1, h2⟩
theorem Qs4 {W : World} (h : Lib.VarReads Tryz.prog W "stagepost/tcpstate.triples" Rows.laid_stagepost_tcpstate_triples) :
 ∃ c fr el, W.heap[6]? = some (.cells c el fr) /\ Qz9.length <= c.size /\ ∀ (i n : Nat), Qz9[i]? = some n -> c[i]? = some (.int .i64 (n : Int)) := by
 obtain ⟨g, t, cs, fuel, p, hg, hty, hvar, hd⟩ := h
 obtain rfl := Option.some.inj ((show Tryz.prog.globalNamed "stagepost/tcpstate.triples" = some 6 by kernel_rfl).symm.trans hg)
 obtain rfl := Option.some.inj ((show (Tryz.prog.globals[6]?).map (·.type) = some 715 by kernel_rfl).symm.trans hty)
 have c3 : Tryz.prog.cellsOf 714 = 3 := by kernel_rfl
 have c1 : Tryz.prog.cellsOf 3 = 1 := by kernel_rfl
 have hat : ∀ (i n : Nat), Qz9[i]? = some n -> cs[i]? = some (Value.int .i64 (n : Int)) := λ i n hn => by
  obtain ⟨r, j, rfl, hr, hj, l, hl, hlj⟩ := Qwx i n hn
  have e0 : (Rows.laid_stagepost_tcpstate_triples : DataW Unit) = .agg (Qr9.map (Lib.tabData .i64)) := rfl
  rw [e0] at hd
  obtain ⟨fuel', d, q, hdi, he⟩ := Lib.array_elem Tryz.underlying715 hd r hr
  rw [List.getElem?_map, hl] at hdi
  simp only [Option.map_some, Option.some.injEq] at hdi
  subst hdi
  rw [c3] at he
  have hcs := Lib.cells_of_tab Tryz.underlying714 Tryz.underlying3 c1 c3 he
  have e1 := congrArg (·[j]?) hcs
  simp only [List.getElem?_take, List.getElem?_drop, if_pos hj, List.getElem?_map, hlj, Option.map_some] at e1
  rw [<- Array.getElem?_toList]
  exact e1
 have hsz : 48 <= cs.size := by
  have := hat 47 0 rfl
  obtain ⟨h', -⟩ := Array.getElem?_eq_some_iff.1 this
  omega
 unfold World.var? at hvar
 rw [hg] at hvar
 simp only [Option.bind_some] at hvar
 split at hvar
 . rename_i c el fr hh
   cases hvar
   exact ⟨_, _, _, hh, hsz, hat⟩
 . cases hvar
theorem Qsq {W : World} (h : laidMetH Tryz.prog Rows.hostHalfCloseRow.laid W) (hs : W.ShapedOpen Tryz.prog) : ∃ A N, Ax.Laid errs A N W := by
 have h0 := (laidMetH_iff.1 h).1
 rw [Qs2] at h0
 have h1 := h0.tail
 have h2 := h1.tail
 have h3 := h2.tail
 have h4 := h3.tail
 have h5 := h4.tail
 obtain ⟨a0, s0, v0, c0, -, -⟩ := laid_sentinel h0 gE0 gT0 Tryz.underlying227 Z00 Tryz.underlying770 Tryz.underlying789 rfl rfl Tryz.underlying9 Qpt Qp2
 obtain ⟨a1, s1, v1, c1, -, -⟩ := laid_sentinel h1 gE1 gT1 Tryz.underlying227 Z00 Tryz.underlying770 Tryz.underlying789 rfl rfl Tryz.underlying9 Qpt Qp2
 obtain ⟨a2, s2, v2, c2, -, -⟩ := laid_sentinel h2 gE2 gT2 Tryz.underlying227 Z00 Tryz.underlying770 Tryz.underlying789 rfl rfl Tryz.underlying9 Qpt Qp2
 obtain ⟨a3, s3, v3, c3, -, -⟩ := laid_sentinel h3 gE3 gT3 Tryz.underlying227 Z00 Tryz.underlying770 Tryz.underlying789 rfl rfl Tryz.underlying9 Qpt Qp2
 obtain ⟨a4, s4, v4, c4, -, -⟩ := laid_sentinel h5 gE4 gT4 Tryz.underlying227 Z00 Tryz.underlying770 Tryz.underlying789 rfl rfl Tryz.underlying9 Qpt Qp2
 obtain ⟨ct, frt, elt, t1, t2, t3⟩ := Qs4 (Lib.laidMet.reads h0 (n := "stagepost/tcpstate.triples") (d := Rows.laid_stagepost_tcpstate_triples) (by simp))
 obtain ⟨p0, q0⟩ := Qp4 c0
 obtain ⟨p1, q1⟩ := Qp4 c1
 obtain ⟨p2, q2⟩ := Qp4 c2
 obtain ⟨p3, q3⟩ := Qp4 c3
 obtain ⟨p4, q4⟩ := Qp4 c4
 obtain ⟨m, hm⟩ := Go.Proofs.cell_of_shapedOpen_int (P := Tryz.prog) (g := 7) (zero := #[.int .i64 0]) (t := 3) hs (of_decide_eq_true (by kernel_rfl)) (by kernel_rfl) rfl (by kernel_rfl) (by kernel_rfl) Tryz.underlying3
 have hsz := (Qp4 hm).2
 refine ⟨λ b => match b with | 8 => a0 | 9 => a1 | 10 => a2 | 11 => a3 | _ => a4, λ b => if b = 6 then ct.size else 1, ⟨λ e he => ?_, λ b h1 h2 => ?_, hsz, λ q hq => ?_⟩⟩
 . simp only [errs, List.mem_cons, List.not_mem_nil, or_false] at he
   rcases he with rfl | rfl | rfl | rfl | rfl
   . exact ⟨by decide, by decide, by decide, Nat.one_pos, p0, Qp3 hs (of_decide_eq_true (by kernel_rfl)) (by kernel_rfl) gE0 v0⟩
   . exact ⟨by decide, by decide, by decide, Nat.one_pos, p1, Qp3 hs (of_decide_eq_true (by kernel_rfl)) (by kernel_rfl) gE1 v1⟩
   . exact ⟨by decide, by decide, by decide, Nat.one_pos, p2, Qp3 hs (of_decide_eq_true (by kernel_rfl)) (by kernel_rfl) gE2 v2⟩
   . exact ⟨by decide, by decide, by decide, Nat.one_pos, p3, Qp3 hs (of_decide_eq_true (by kernel_rfl)) (by kernel_rfl) gE3 v3⟩
   . exact ⟨by decide, by decide, by decide, Nat.one_pos, p4, Qp3 hs (of_decide_eq_true (by kernel_rfl)) (by kernel_rfl) gE4 v4⟩
 . have h1' : 8 <= b := h1
   have h2' : b < 13 := h2
   have : b = 8 \/ b = 9 \/ b = 10 \/ b = 11 \/ b = 12 := by omega
   rcases this with rfl | rfl | rfl | rfl | rfl
   . exact q0
   . exact q1
   . exact q2
   . exact q3
   . exact q4
 . simp only [errs, List.mem_cons, List.not_mem_nil, or_false] at hq
   subst hq
   exact ⟨by decide, ct, frt, elt, t1, rfl, t2, t3⟩
end Go.Proofs.YtmjjaldodkokbaaGreatDoor
namespace Go.Proofs.YtmjjaldodkokbaaGreatDoor
open Go Go.RowKit Go.Proofs
def lay (g : Nat) (cs : Array Value) (h : Array Obj) : Array Obj := h.modify g λ
 | .cells _ t fr => .cells cs t fr
 | o => o
def numsOf {H : Type} : DataW H -> List Value
 | .agg l => l.map λ | .lit (.int k n) => Value.int k n | _ => undef
 | _ => []
def Qyj {H : Type} : DataW H -> List Value
 | .agg l => (l.map numsOf).flatten
 | _ => []
def textOf {H : Type} : DataW H -> ByteArray
 | .iface _ (.ptr (.agg [.lit (.string bs)])) => ⟨bs.toArray⟩
 | _ => ⟨#[]⟩
noncomputable def low : Nat := (World.holding Tryz.prog default ⟨#[], #[], []⟩).heap.size
noncomputable def Qv9 (h : Array Obj) : Array Obj :=
 lay 0 #[.iface 770 (.pointer (some ⟨low, 0, none⟩))]
 (lay 1 #[.iface 770 (.pointer (some ⟨low + 1, 0, none⟩))]
 (lay 2 #[.iface 770 (.pointer (some ⟨low + 2, 0, none⟩))]
 (lay 4 #[.iface 770 (.pointer (some ⟨low + 3, 0, none⟩))]
 (lay 5 #[.iface 770 (.pointer (some ⟨low + 4, 0, none⟩))]
 (lay 6 (Qyj (H := Unit) Rows.laid_stagepost_tcpstate_triples).toArray
 (lay 3 #[.iface 434 (.agg #[typeHandle Tryz.prog 227])] h))))))
noncomputable def Qoo (os : Os) : World :=
 let w0 := World.holding Tryz.prog os ⟨#[.cells #[.string (textOf (H := Unit) Rows.laid_stagepost_link_errBroken)] 789, .cells #[.string (textOf (H := Unit) Rows.laid_stagepost_icmp_errShort)] 789, .cells #[.string (textOf (H := Unit) Rows.laid_stagepost_icmp_errKind)] 789, .cells #[.string (textOf (H := Unit) Rows.laid_stagepost_congestion_errSize)] 789, .cells #[.string (textOf (H := Unit) Rows.laid_stagepost_dnscache_errInvalid)] 789], #[], []⟩
 { w0 with heap := Qv9 w0.heap }
set_option maxRecDepth 100000 in
theorem Qsp (os : Os) (args : Array Value) : ([("errors.errorType", Rows.laid_errors_errorType)] : List (String × DataW Unit)).all (handleAtB Tryz.prog ((Qoo os).forCall (λ _ _ => 0) ⟨#[], args, []⟩).memory) = true := by kernel_rfl
set_option maxRecDepth 100000 in
theorem Qyl (os : Os) (args : Array Value) : laidMet Tryz.prog Qtu ((Qoo os).forCall (λ _ _ => 0) ⟨#[], args, []⟩).memory :=
 laidMet_of_run' 8 (by kernel_rfl) (by kernel_rfl)
theorem Qv8 (os : Os) (args : Array Value) : laidMetH Tryz.prog Rows.hostHalfCloseRow.laid ((Qoo os).forCall (λ _ _ => 0) ⟨#[], args, []⟩).memory := by
 refine laidMetH_iff.2 ⟨?_, ?_⟩
 . rw [Qs2]
   exact Qyl os args
 . rw [Qrv]
   exact handlesMet_of_B (Qsp os args)
end Go.Proofs.YtmjjaldodkokbaaGreatDoor
