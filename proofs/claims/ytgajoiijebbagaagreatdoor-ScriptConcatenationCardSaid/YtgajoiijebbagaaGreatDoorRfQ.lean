/-
  PLAIN FACTS about malformed lines: the thirteen lines of the statement ScriptConcatenation are read as no action. Conditions: none.
-/
import Derived.Test.YtgajoiijebbagaaGreatDoorRfP
namespace Go.Proofs.YtgajoiijebbagaaGreatDoor.Pa

/-- The malformed lines, without their end. -/
def wrongL : List Bs := [[], [116, 105, 99, 107], [116, 105, 99, 107, 32, 49, 32, 49], [32, 116, 105, 99, 107, 32, 49], [116, 105, 99, 107, 32, 49, 32], [84, 105, 99, 107, 32, 49], [102, 97, 116, 101, 115, 32, 45, 49], [102, 114, 97, 109, 101, 32, 48], [102, 114, 97, 109, 101, 32, 48, 32, 102], [99, 97, 108, 108, 32, 48, 32, 97, 99, 99, 101, 112, 116], [99, 97, 108, 108, 32, 48, 32, 98, 105, 110, 100, 32, 49, 32, 56, 48, 32, 49], [99, 97, 108, 108, 32, 48, 32, 112, 105, 110, 103, 32, 49, 46, 50, 46, 51], [99, 97, 108, 108, 32, 48, 32, 115, 111, 99, 107, 101, 116]]
theorem wrong_len : wrongL.length = 13 := rfl
theorem wrong_bad : wrongL.all (fun t => !((rawR t).2 && okA (rawR t).1)) = true := by decide +kernel
theorem wrong_none {t : Bs} (h : t ∈ wrongL) : parseLine t = none := by
  have := List.all_eq_true.1 wrong_bad t h
  rw [parseLine_R, if_neg]
  simp only [Bool.not_eq_true', okR] at this ⊢
  rw [this]; simp
theorem wrong_line : ∀ t ∈ wrongL, ∀ x ∈ t, x ≠ 10 := by decide +kernel
theorem wrong_small : ∀ t ∈ wrongL, t.length ≤ 20 := by decide +kernel

theorem parse_wrong {l : List Ac} {t : Bs} (r : Bs) (h : ∀ a ∈ l, okA a = true) (hn : l.length ≤ 100) (ht : t ∈ wrongL) : parseT (textA l ++ (t ++ [10]) ++ r) = .inl l.length := by
  have := parseT_bad (t := t) r h hn (wrong_line t ht) (wrong_none ht)
  simpa using this
theorem parse_tick1 {l : List Ac} (h : ∀ a ∈ l, okA a = true) (hn : l.length ≤ 100) : parseT (textA l ++ [116, 105, 99, 107, 32, 49]) = .inl l.length := parseT_open h hn (by simp) (by decide)
theorem print_both {l m : List Ac} (h : ∀ a ∈ l, okA a = true) (hm : ∀ a ∈ m, okA a = true) (hl : l.length ≤ 20) (hl' : m.length ≤ 20) : printA (l ++ m) = some (textA l ++ textA m) := by
  rw [printA_some (fun a ha => (List.mem_append.1 ha).elim (h a) (hm a)) (by simp; omega), textA_append]
end Go.Proofs.YtgajoiijebbagaaGreatDoor.Pa
