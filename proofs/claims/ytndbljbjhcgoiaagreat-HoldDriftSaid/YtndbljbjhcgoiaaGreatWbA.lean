/-
  What the function expired answers in the small machine, for all numbers in range.
-/
import Derived.Test.YtndbljbjhcgoiaaGreatTabB
import Derived.Test.YtndbljbjhcgoiaaGreatKpA
import Derived.KernelRfl

set_option linter.unusedVariables false
set_option linter.unusedSimpArgs false
set_option linter.unusedSectionVars false

set_option maxRecDepth 100000
namespace Go.Proofs.YtndbljbjhcgoiaaGreat
open Go Km

abbrev I (n : Int) : C := .f (.int .i64 n)
abbrev B (b : Bool) : C := .f (.bool b)
abbrev expArgs (dl dr c0 c1 : Int) : List V := [.c (I dl), .c (I dr), .a [I c0, I c1]]

def orc01 : List (Option Bool) := [none, none, none, none, none, none, none, none, none, none, none, some true, some true, none, none, none, none, none, some true, some true, none, some false, none, some false, some false, none, none, some false, none, none, none, none, none, none, none, none, none, none, none, none, none, none, none, none, some true, some true, none, none, none, none, none, some true, some true, none, some false, none, some false, some false, none, none, some true, none, none, none, none, none, none]
def log01 (dl dr c0 c1 : Int) : List Fact := [⟨.lss, dl, c1, true⟩, ⟨.gtr, c1, 2251799813685248, false⟩, ⟨.lss, c1, 900, false⟩, ⟨.lss, dl, 900, false⟩, ⟨.leq, dl, 2251799813685248, true⟩, ⟨.leq, 0, dl, true⟩, ⟨.leq, dr, 2251799813685248, true⟩, ⟨.leq, 0, dr, true⟩, ⟨.lss, dl, c0, false⟩, ⟨.gtr, c0, 2251799813685248, false⟩, ⟨.lss, c0, 900, false⟩, ⟨.lss, dl, 900, false⟩, ⟨.leq, dl, 2251799813685248, true⟩, ⟨.leq, 0, dl, true⟩, ⟨.leq, dr, 2251799813685248, true⟩, ⟨.leq, 0, dr, true⟩]
theorem exp01 (dl dr c0 c1 : Int) : (callO tab.get 100000 60 (.fn 1) (expArgs dl dr c0 c1) [] ⟨orc01, []⟩).map (fun r => (r.1, r.2.2.log)) =
    some (.t [.a [B false, B true], .c (B true)], log01 dl dr c0 c1) := by kernel_rfl

def orc10 : List (Option Bool) := [none, none, none, none, none, none, none, none, none, none, none, some true, some true, none, none, none, none, none, some true, some true, none, some false, none, some false, some false, none, none, some true, none, none, none, none, none, none, none, none, none, none, none, none, none, none, none, none, some true, some true, none, none, none, none, none, some true, some true, none, some false, none, some false, some false, none, none, some false, none, none, none, none, none, none]
def log10 (dl dr c0 c1 : Int) : List Fact := [⟨.lss, dl, c1, false⟩, ⟨.gtr, c1, 2251799813685248, false⟩, ⟨.lss, c1, 900, false⟩, ⟨.lss, dl, 900, false⟩, ⟨.leq, dl, 2251799813685248, true⟩, ⟨.leq, 0, dl, true⟩, ⟨.leq, dr, 2251799813685248, true⟩, ⟨.leq, 0, dr, true⟩, ⟨.lss, dl, c0, true⟩, ⟨.gtr, c0, 2251799813685248, false⟩, ⟨.lss, c0, 900, false⟩, ⟨.lss, dl, 900, false⟩, ⟨.leq, dl, 2251799813685248, true⟩, ⟨.leq, 0, dl, true⟩, ⟨.leq, dr, 2251799813685248, true⟩, ⟨.leq, 0, dr, true⟩]
theorem exp10 (dl dr c0 c1 : Int) : (callO tab.get 100000 60 (.fn 1) (expArgs dl dr c0 c1) [] ⟨orc10, []⟩).map (fun r => (r.1, r.2.2.log)) =
    some (.t [.a [B true, B false], .c (B true)], log10 dl dr c0 c1) := by kernel_rfl

def orc00 : List (Option Bool) := [none, none, none, none, none, none, none, none, none, none, none, some true, some true, none, none, none, none, none, some true, some true, none, some false, none, some false, some false, none, none, some false, none, none, none, none, none, none, none, none, none, none, none, none, none, none, none, none, some true, some true, none, none, none, none, none, some true, some true, none, some false, none, some false, some false, none, none, some false, none, none, none, none, none, none]
def log00 (dl dr c0 c1 : Int) : List Fact := [⟨.lss, dl, c1, false⟩, ⟨.gtr, c1, 2251799813685248, false⟩, ⟨.lss, c1, 900, false⟩, ⟨.lss, dl, 900, false⟩, ⟨.leq, dl, 2251799813685248, true⟩, ⟨.leq, 0, dl, true⟩, ⟨.leq, dr, 2251799813685248, true⟩, ⟨.leq, 0, dr, true⟩, ⟨.lss, dl, c0, false⟩, ⟨.gtr, c0, 2251799813685248, false⟩, ⟨.lss, c0, 900, false⟩, ⟨.lss, dl, 900, false⟩, ⟨.leq, dl, 2251799813685248, true⟩, ⟨.leq, 0, dl, true⟩, ⟨.leq, dr, 2251799813685248, true⟩, ⟨.leq, 0, dr, true⟩]
theorem exp00 (dl dr c0 c1 : Int) : (callO tab.get 100000 60 (.fn 1) (expArgs dl dr c0 c1) [] ⟨orc00, []⟩).map (fun r => (r.1, r.2.2.log)) =
    some (.t [.a [B false, B false], .c (B true)], log00 dl dr c0 c1) := by kernel_rfl

def orc11 : List (Option Bool) := [none, none, none, none, none, none, none, none, none, none, none, some true, some true, none, none, none, none, none, some true, some true, none, some false, none, some false, some false, none, none, some true, none, none, none, none, none, none, none, none, none, none, none, none, none, none, none, none, some true, some true, none, none, none, none, none, some true, some true, none, some false, none, some false, some false, none, none, some true, none, none, none, none, none, none]
def log11 (dl dr c0 c1 : Int) : List Fact := [⟨.lss, dl, c1, true⟩, ⟨.gtr, c1, 2251799813685248, false⟩, ⟨.lss, c1, 900, false⟩, ⟨.lss, dl, 900, false⟩, ⟨.leq, dl, 2251799813685248, true⟩, ⟨.leq, 0, dl, true⟩, ⟨.leq, dr, 2251799813685248, true⟩, ⟨.leq, 0, dr, true⟩, ⟨.lss, dl, c0, true⟩, ⟨.gtr, c0, 2251799813685248, false⟩, ⟨.lss, c0, 900, false⟩, ⟨.lss, dl, 900, false⟩, ⟨.leq, dl, 2251799813685248, true⟩, ⟨.leq, 0, dl, true⟩, ⟨.leq, dr, 2251799813685248, true⟩, ⟨.leq, 0, dr, true⟩]
theorem exp11 (dl dr c0 c1 : Int) : (callO tab.get 100000 60 (.fn 1) (expArgs dl dr c0 c1) [] ⟨orc11, []⟩).map (fun r => (r.1, r.2.2.log)) =
    some (.t [.a [B true, B true], .c (B true)], log11 dl dr c0 c1) := by kernel_rfl

/-- **'expired' in the small machine.** -/
theorem expired_km (dl dr c0 c1 : Int) (h1 : 0 ≤ dr ∧ dr ≤ 2251799813685248) (h2 : 900 ≤ dl ∧ dl ≤ 2251799813685248) (h3 : 900 ≤ c0 ∧ c0 ≤ 2251799813685248) (h4 : 900 ≤ c1 ∧ c1 ≤ 2251799813685248) :
    ∃ H', callF tab.get (fun _ _ _ => none) 100000 60 (.fn 1) (expArgs dl dr c0 c1) [] = some (.t [.a [B (decide (dl < c0)), B (decide (dl < c1))], .c (B true)], H') := by
  by_cases ha : dl < c0 <;> by_cases hb : dl < c1
  · have e := exp11 dl dr c0 c1
    cases hc : callO tab.get 100000 60 (.fn 1) (expArgs dl dr c0 c1) [] ⟨orc11, []⟩ with
    | none => rw [hc] at e; cases e
    | some r =>
      obtain ⟨v, H', o'⟩ := r
      rw [hc] at e
      simp only [Option.map_some, Option.some.injEq, Prod.mk.injEq] at e
      obtain ⟨rfl, e2⟩ := e
      have hg : o'.good := by
        intro f hf
        rw [e2] at hf
        simp only [log11, List.mem_cons, List.not_mem_nil, or_false] at hf
        rcases hf with rfl | rfl | rfl | rfl | rfl | rfl | rfl | rfl | rfl | rfl | rfl | rfl | rfl | rfl | rfl | rfl <;> simp [Fact.holds, cmpI] <;> omega
      have h := (callO_ok tab.get 100000 60 _ _ _ _ _ _ _ hc hg).1
      exact ⟨H', by rw [h, decide_eq_true ha, decide_eq_true hb]⟩
  · have e := exp10 dl dr c0 c1
    cases hc : callO tab.get 100000 60 (.fn 1) (expArgs dl dr c0 c1) [] ⟨orc10, []⟩ with
    | none => rw [hc] at e; cases e
    | some r =>
      obtain ⟨v, H', o'⟩ := r
      rw [hc] at e
      simp only [Option.map_some, Option.some.injEq, Prod.mk.injEq] at e
      obtain ⟨rfl, e2⟩ := e
      have hg : o'.good := by
        intro f hf
        rw [e2] at hf
        simp only [log10, List.mem_cons, List.not_mem_nil, or_false] at hf
        rcases hf with rfl | rfl | rfl | rfl | rfl | rfl | rfl | rfl | rfl | rfl | rfl | rfl | rfl | rfl | rfl | rfl <;> simp [Fact.holds, cmpI] <;> omega
      have h := (callO_ok tab.get 100000 60 _ _ _ _ _ _ _ hc hg).1
      exact ⟨H', by rw [h, decide_eq_true ha, decide_eq_false hb]⟩
  · have e := exp01 dl dr c0 c1
    cases hc : callO tab.get 100000 60 (.fn 1) (expArgs dl dr c0 c1) [] ⟨orc01, []⟩ with
    | none => rw [hc] at e; cases e
    | some r =>
      obtain ⟨v, H', o'⟩ := r
      rw [hc] at e
      simp only [Option.map_some, Option.some.injEq, Prod.mk.injEq] at e
      obtain ⟨rfl, e2⟩ := e
      have hg : o'.good := by
        intro f hf
        rw [e2] at hf
        simp only [log01, List.mem_cons, List.not_mem_nil, or_false] at hf
        rcases hf with rfl | rfl | rfl | rfl | rfl | rfl | rfl | rfl | rfl | rfl | rfl | rfl | rfl | rfl | rfl | rfl <;> simp [Fact.holds, cmpI] <;> omega
      have h := (callO_ok tab.get 100000 60 _ _ _ _ _ _ _ hc hg).1
      exact ⟨H', by rw [h, decide_eq_false ha, decide_eq_true hb]⟩
  · have e := exp00 dl dr c0 c1
    cases hc : callO tab.get 100000 60 (.fn 1) (expArgs dl dr c0 c1) [] ⟨orc00, []⟩ with
    | none => rw [hc] at e; cases e
    | some r =>
      obtain ⟨v, H', o'⟩ := r
      rw [hc] at e
      simp only [Option.map_some, Option.some.injEq, Prod.mk.injEq] at e
      obtain ⟨rfl, e2⟩ := e
      have hg : o'.good := by
        intro f hf
        rw [e2] at hf
        simp only [log00, List.mem_cons, List.not_mem_nil, or_false] at hf
        rcases hf with rfl | rfl | rfl | rfl | rfl | rfl | rfl | rfl | rfl | rfl | rfl | rfl | rfl | rfl | rfl | rfl <;> simp [Fact.holds, cmpI] <;> omega
      have h := (callO_ok tab.get 100000 60 _ _ _ _ _ _ _ hc hg).1
      exact ⟨H', by rw [h, decide_eq_false ha, decide_eq_false hb]⟩
end Go.Proofs.YtndbljbjhcgoiaaGreat
