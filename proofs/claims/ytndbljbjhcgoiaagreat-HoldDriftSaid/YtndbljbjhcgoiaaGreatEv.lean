/-
  The closed run answers true: reckoned by the kernel.
-/
import Derived.Test.YtndbljbjhcgoiaaGreatTabB
import Derived.KernelRfl

set_option linter.unusedVariables false
set_option linter.unusedSimpArgs false
set_option linter.unusedSectionVars false

namespace Go.Proofs.YtndbljbjhcgoiaaGreat
open Go Km
theorem evEq : callK tab 1000000 200 (.fn 0) [] .e 0 isTrue = True := by kernel_rfl

theorem ev : ∃ m dep, callK tab m dep (.fn 0) [] .e 0 isTrue = True := ⟨_, _, evEq⟩
end Go.Proofs.YtndbljbjhcgoiaaGreat
