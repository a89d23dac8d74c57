/-
  What hold.Safe and its callees return, at every input.
-/
import Derived.Test.YtndbljbjhcgoiaaGreatProg
import Derived.WalkKit
import Derived.WalkSpells
import Derived.StillTactics
import Derived.RowKit3

set_option linter.unusedVariables false
set_option linter.unusedSimpArgs false
set_option linter.unusedSectionVars false

namespace Go.Proofs.YtndbljbjhcgoiaaGreat
open Go Go.RowKit

/-- hold.moment. -/
theorem moment_any (n : Int) (w : World) :
    Calls Tryz.prog 20 #[.int .i64 n] w fun e w' => e = .returned (.bool (decide (0 ≤ n) && decide (n ≤ 2251799813685248))) ∧ w' = w := by
  by_cases h : 0 ≤ n
  · go_enter Tryz.func20, Tryz.ntmps20
    go_wp2
    go_ret
    simp [h]
  · go_enter Tryz.func20, Tryz.ntmps20
    go_wp2
    go_ret
    exact ⟨by simp; omega, rfl⟩

/-- The closure in hold.Safe. -/
theorem near_any (n : Int) (w : World) :
    Calls Tryz.prog 19 #[.int .i64 n] w fun e w' => e = .returned (.bool (decide (-2251799813685248 ≤ n) && decide (n ≤ 2251799813685248))) ∧ w' = w := by
  by_cases h : -2251799813685248 ≤ n
  · go_enter Tryz.func19, Tryz.ntmps19
    go_wp2
    go_ret
    simp [h]
  · go_enter Tryz.func19, Tryz.ntmps19
    go_wp2
    go_ret
    exact ⟨by simp; omega, rfl⟩

/-- What hold.moment answers. -/
def momentB (n : Int) : Bool := decide (0 ≤ n) && decide (n ≤ 2251799813685248)
/-- What the closure answers. -/
def nearB (n : Int) : Bool := decide (-2251799813685248 ≤ n) && decide (n ≤ 2251799813685248)
theorem moment_is (n : Int) (w : World) : Calls Tryz.prog 20 #[.int .i64 n] w fun e w' => e = .returned (.bool (momentB n)) ∧ w' = w := moment_any n w
theorem near_is (n : Int) (w : World) : Calls Tryz.prog 19 #[.int .i64 n] w fun e w' => e = .returned (.bool (nearB n)) ∧ w' = w := near_any n w
theorem momentB_iff {n : Int} : momentB n = true ↔ 0 ≤ n ∧ n ≤ 2251799813685248 := by simp [momentB]
theorem nearB_iff {n : Int} : nearB n = true ↔ -2251799813685248 ≤ n ∧ n ≤ 2251799813685248 := by simp [nearB]

/-- What hold.Safe answers. -/
def safe (a b d : Int) : Bool := momentB d && nearB a && nearB b && decide (a + d < b - d)

theorem wrap_fit {n : Int} (h1 : -9223372036854775808 ≤ n) (h2 : n ≤ 9223372036854775807) : IntKind.wrap .i64 n = n := by
  simp only [IntKind.wrap, IntKind.bits, IntKind.signed]
  simp
  omega

set_option maxRecDepth 100000 in
theorem safe_any (a b d : Int) (w : World) :
    Calls Tryz.prog 8 #[.int .i64 a, .int .i64 b, .int .i64 d] w fun e w' => e = .returned (.bool (safe a b d)) ∧ w' = w := by
  cases h1 : momentB d
  · go_enter Tryz.func8, Tryz.ntmps8
    go_wp2_with (go_at_call 20; refine (moment_is _ _).mono ?_; rintro e w1 ⟨rfl, hw⟩; rw [hw, h1]; clear hw w1)
    go_ret
    exact ⟨by simp [safe, h1], rfl⟩
  · cases h2 : nearB a
    · go_enter Tryz.func8, Tryz.ntmps8
      go_wp2_with (first
          | (go_at_call 20; refine (moment_is _ _).mono ?_; rintro e w1 ⟨rfl, hw⟩; rw [hw, h1]; clear hw w1)
          | (go_at_call 19; refine (near_is _ _).mono ?_; rintro e w1 ⟨rfl, hw⟩; rw [hw, h2]; clear hw w1))
      go_ret
      exact ⟨by simp [safe, h1, h2], rfl⟩
    · cases h3 : nearB b
      · go_enter Tryz.func8, Tryz.ntmps8
        go_wp2_with (first
          | (go_at_call 20; refine (moment_is _ _).mono ?_; rintro e w1 ⟨rfl, hw⟩; rw [hw, h1]; clear hw w1)
          | (go_at_call 19; refine (near_is _ _).mono ?_; rintro e w1 ⟨rfl, hw⟩; simp only [hw, h2, h3]; clear hw w1))
        go_ret
        exact ⟨by simp [safe, h1, h2, h3], rfl⟩
      · have g1 := momentB_iff.mp h1
        have g2 := nearB_iff.mp h2
        have g3 := nearB_iff.mp h3
        have e1 : IntKind.wrap .i64 (a + d) = a + d := wrap_fit (by omega) (by omega)
        have e2 : IntKind.wrap .i64 (b - d) = b - d := wrap_fit (by omega) (by omega)
        go_enter Tryz.func8, Tryz.ntmps8
        go_wp2_with (first
          | (go_at_call 20; refine (moment_is _ _).mono ?_; rintro e w1 ⟨rfl, hw⟩; rw [hw, h1]; clear hw w1)
          | (go_at_call 19; refine (near_is _ _).mono ?_; rintro e w1 ⟨rfl, hw⟩; simp only [hw, h2, h3]; clear hw w1))
        go_ret
        exact ⟨by simp [safe, h1, h2, h3, e1, e2], rfl⟩
end Go.Proofs.YtndbljbjhcgoiaaGreat
