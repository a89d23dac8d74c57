/-
  The closed trial answers true: reckoned by the kernel.
-/
import Derived.Test.YtdpfoenmopcolaaGreatTabB
import Derived.KernelRfl

set_option linter.unusedVariables false
set_option linter.unusedSimpArgs false
set_option linter.unusedSectionVars false

section
namespace Go.Proofs.YtdpfoenmopcolaaGreat
open Go Km
theorem evEq : callK tab 1000000 200 (.fn F_x37) [] .e 0 isTrue = True := by kernel_rfl

theorem ev : ∃ m dep, callK tab m dep (.fn F_x37) [] .e 0 isTrue = True := ⟨_, _, evEq⟩
end Go.Proofs.YtdpfoenmopcolaaGreat
end

