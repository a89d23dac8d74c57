/-
  The closed trial answers true: reckoned by the kernel.
-/
import Derived.Test.YtcjhnkginmflhaaGreatTabB
import Derived.KernelRfl

set_option linter.unusedVariables false
set_option linter.unusedSimpArgs false
set_option linter.unusedSectionVars false

section
namespace Go.Proofs.YtcjhnkginmflhaaGreat
open Go Km
theorem aNH : bD tab 1000000 200 (.fn F8) [] .e 0 isTrue = True := by kernel_rfl

theorem ev : ∃ m dep, bD tab m dep (.fn F8) [] .e 0 isTrue = True := ⟨_, _, aNH⟩
end Go.Proofs.YtcjhnkginmflhaaGreat
end

