/-
  The closed trial answers true: reckoned by the kernel.
-/
import Derived.Test.YthfeogjbpgocbaaGreatTabB
import Derived.KernelRfl
set_option linter.unusedVariables false
set_option linter.unusedSimpArgs false
set_option linter.unusedSectionVars false
section
namespace Go.Proofs.YthfeogjbpgocbaaGreat
open Go Km
theorem aQb:bC tab 1000000 200 (.fn JY) [] .e 0 isTrue=True:=by kernel_rfl
theorem ev:∃ m dep,bC tab m dep (.fn JY) [] .e 0 isTrue=True:=⟨_,_,aQb⟩
end Go.Proofs.YthfeogjbpgocbaaGreat
end
