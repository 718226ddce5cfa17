/-
  PLAIN FACTS about the generated scripts: every generated action is valid, whatever the raw numbers. Conditions: none.
-/
import Derived.Test.YtgajoiijebbagaaGreatDoorPln
namespace Go.Proofs.YtgajoiijebbagaaGreatDoor.Pa
set_option linter.unusedSimpArgs false

structure Rw where
  kind : Int
  call : Int
  host : Int
  sock : Int
  addr : Int
  port : Int
  n : Int
  fates : List Int
  s : ByteArray

def names : List Bs := [[97], [98, 46, 97], "www.example".toUTF8.data.toList, "mail.example".toUTF8.data.toList, "x-1.b.a".toUTF8.data.toList, [57], "host.net".toUTF8.data.toList, "a.b.c.d.e".toUTF8.data.toList, "ns.host.net".toUTF8.data.toList, "abcdefghijklmnopqrst.abcdefghijklmnopqrst.abcdefghijklmnopqr".toUTF8.data.toList]
def nameOf (n : Int) : Bs := names.getD (pickI n 10).toNat []
def cutS (s : ByteArray) (k : Int) : ByteArray := s.extract 0 (min (s.size : Int) k).toNat

def callOf (x : Rw) : Cl :=
  let k := 1 + pickI x.call 13
  if k = 1 then { c0 with kind := k, n := if pickI x.n 2 = 0 then 6 else 17 }
  else if k = 12 then { c0 with kind := k, s := ⟨(nameOf x.n).toArray⟩ }
  else if k = 13 then { c0 with kind := k, addr := pickI x.addr 4294967296 }
  else if k = 2 then { c0 with kind := k, sock := pickI x.sock 20, port := pickI x.port 65536 }
  else if k = 3 ∨ k = 7 then { c0 with kind := k, sock := pickI x.sock 20, n := pickI x.n 1000001 }
  else if k = 4 then { c0 with kind := k, sock := pickI x.sock 20, addr := pickI x.addr 4294967296, port := pickI x.port 65536 }
  else if k = 6 then { c0 with kind := k, sock := pickI x.sock 20, s := cutS x.s 300 }
  else if k = 10 then { c0 with kind := k, sock := pickI x.sock 20, addr := pickI x.addr 4294967296, port := pickI x.port 65536, s := cutS x.s 300 }
  else { c0 with kind := k, sock := pickI x.sock 20 }

def actOf (x : Rw) : Ac :=
  let k := pickI x.kind 5
  if k = 0 then { a0 with kind := 2, n := 1 + pickI x.n 500 }
  else if k = 1 then { a0 with kind := 3, fates := (x.fates.take 64).map fun f => pickI f 25 }
  else if k = 2 then { a0 with kind := 4, n := pickI x.n 8, s := cutS x.s 1100 }
  else { a0 with kind := 1, host := pickI x.host 8, call := callOf x }
def scriptOf (l : List Rw) : List Ac := (l.take 20).map actOf

theorem pick_in (c : Int) {n : Int} (h : 0 < n) : 0 ≤ pickI c n ∧ pickI c n < n := ⟨Int.emod_nonneg _ (by omega), Int.emod_lt_of_pos _ h⟩

theorem names_ok : names.all nameOk = true := by decide +kernel
theorem names_len : names.length = 10 := rfl
theorem nameOf_ok (n : Int) : nameOk (nameOf n) = true := by
  have h := pick_in n (n := 10) (by decide)
  have hl : (pickI n 10).toNat < names.length := by rw [names_len]; omega
  unfold nameOf
  rw [List.getD_eq_getElem?_getD, List.getElem?_eq_getElem hl]
  exact List.all_eq_true.1 names_ok _ (List.getElem_mem hl)
theorem cutS_size (s : ByteArray) {k : Nat} : (cutS s k).size ≤ k := by
  unfold cutS; simp; omega

theorem callOf_ok (x : Rw) : okC (callOf x) = true := by
  have h1 := pick_in x.call (n := 13) (by decide)
  have h2 := pick_in x.sock (n := 20) (by decide)
  have h3 := pick_in x.addr (n := 4294967296) (by decide)
  have h4 := pick_in x.port (n := 65536) (by decide)
  have h5 := pick_in x.n (n := 1000001) (by decide)
  have h6 := nameOf_ok x.n
  have h7 : (cutS x.s 300).size ≤ 300 := cutS_size x.s (k := 300)
  unfold callOf
  generalize pickI x.call 13 = k at *
  generalize pickI x.sock 20 = sock at *
  generalize pickI x.addr 4294967296 = ad at *
  generalize pickI x.port 65536 = po at *
  generalize pickI x.n 1000001 = nn at *
  generalize pickI x.n 2 = n2 at *
  generalize nameOf x.n = nm at *
  generalize cutS x.s 300 = ss at *
  have hk : k = 0 ∨ k = 1 ∨ k = 2 ∨ k = 3 ∨ k = 4 ∨ k = 5 ∨ k = 6 ∨ k = 7 ∨ k = 8 ∨ k = 9 ∨ k = 10 ∨ k = 11 ∨ k = 12 := by omega
  have hv : validB ad = true := by unfold validB; simp; omega
  have hv0 : validB 0 = true := by decide
  have hs : inR sock 0 1000000 = true := by rw [inR_true]; omega
  have hn : inR nn 0 1000000 = true := by rw [inR_true]; omega
  have hp : inR po 0 65535 = true := by rw [inR_true]; omega
  have hz : ss.size ≤ 2100 := by omega
  have z0 : (ByteArray.mk #[]).size = 0 := rfl
  rcases hk with rfl | rfl | rfl | rfl | rfl | rfl | rfl | rfl | rfl | rfl | rfl | rfl | rfl
  case inl => by_cases hn2 : n2 = 0 <;> simp [okC, needC, c0, hn2, hv0] <;> decide
  all_goals (simp [okC, needC, c0, hv, hv0, hs, hn, hp, hz, h6, z0]; try simp [inR])

theorem actOf_ok (x : Rw) : okA (actOf x) = true := by
  have h1 := pick_in x.kind (n := 5) (by decide)
  have h2 := pick_in x.n (n := 500) (by decide)
  have h3 := pick_in x.n (n := 8) (by decide)
  have h4 := pick_in x.host (n := 8) (by decide)
  have h5 : (cutS x.s 1100).size ≤ 1100 := cutS_size x.s (k := 1100)
  have h6 := callOf_ok x
  have h7 : okF ((x.fates.take 64).map fun f => pickI f 25) = true := by
    unfold okF
    rw [Bool.and_eq_true]
    refine ⟨by simp; omega, ?_⟩
    rw [List.all_eq_true]
    intro f hf
    obtain ⟨g, _, rfl⟩ := List.mem_map.1 hf
    have := pick_in g (n := 25) (by decide)
    rw [inR_true]; omega
  unfold actOf
  generalize pickI x.kind 5 = k at *
  by_cases k0 : k = 0
  · simp [k0, okA, needA, a0, inR]; omega
  · by_cases k1 : k = 1
    · generalize (x.fates.take 64).map (fun f => pickI f 25) = fs at h7
      simp only [k1]; simp [okA, needA, a0, inR, h7]
    · by_cases k2 : k = 2
      · simp only [k2]; simp [okA, needA, a0, inR, h5]; omega
      · simp only [k0, k1, k2, if_false]; simp [okA, needA, a0, inR, h6]; omega

theorem scriptOf_ok (l : List Rw) : ∀ a ∈ scriptOf l, okA a = true := by
  intro a h
  obtain ⟨x, _, rfl⟩ := List.mem_map.1 h
  exact actOf_ok x
theorem scriptOf_len (l : List Rw) : (scriptOf l).length ≤ 20 := by unfold scriptOf; simp; omega

end Go.Proofs.YtgajoiijebbagaaGreatDoor.Pa
