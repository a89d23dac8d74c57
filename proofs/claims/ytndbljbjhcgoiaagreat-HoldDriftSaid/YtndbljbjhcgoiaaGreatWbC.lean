/-
  What kalendsref02.Mod returns.
-/
import Derived.Test.YtndbljbjhcgoiaaGreatWaA

set_option linter.unusedVariables false
set_option linter.unusedSimpArgs false
set_option linter.unusedSectionVars false

namespace Go.Proofs.YtndbljbjhcgoiaaGreat
open Go Go.RowKit

/-- What Mod answers. -/
def modG (a n : Int) : Int := if a.tmod n < 0 then a.tmod n + n else a.tmod n

theorem tmod_low (a : Int) {n : Int} (h : 0 < n) : -n < a.tmod n := by
  have := Int.tmod_lt_of_pos (-a) h
  rw [Int.neg_tmod] at this
  omega

theorem modG_low (a : Int) {n : Int} (h : 0 < n) : 0 ≤ modG a n := by
  have := tmod_low a h
  unfold modG
  split <;> omega
theorem modG_high (a : Int) {n : Int} (h : 0 < n) : modG a n < n := by
  have := Int.tmod_lt_of_pos a h
  unfold modG
  split <;> omega

theorem mod_any (a n : Int) (hn : 0 < n ∧ n ≤ 1000) (w : World) :
    Calls Tryz.prog 6 #[.int .i64 a, .int .i64 n] w fun e w' => e = .returned (.int .i64 (modG a n)) ∧ w' = w := by
  have hn0 : n ≠ 0 := by omega
  have hl := tmod_low a hn.1
  by_cases h : a.tmod n < 0
  · have e1 : IntKind.wrap .i64 (a.tmod n + n) = a.tmod n + n := wrap_fit (by omega) (by omega)
    have e2 : modG a n = a.tmod n + n := if_pos h
    rw [e2]
    clear e2 hl
    go_enter Tryz.func6, Tryz.ntmps6
    go_wp2
    go_ret
    exact ⟨rfl, rfl⟩
  · have e2 : modG a n = a.tmod n := if_neg h
    rw [e2]
    clear e2 hl
    go_enter Tryz.func6, Tryz.ntmps6
    go_wp2
    go_ret
    exact ⟨rfl, rfl⟩
end Go.Proofs.YtndbljbjhcgoiaaGreat
