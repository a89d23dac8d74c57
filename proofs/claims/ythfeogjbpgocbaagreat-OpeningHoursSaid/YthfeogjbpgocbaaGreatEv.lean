/-
  The closed trial answers true: reckoned by the kernel.
-/
import Derived.Test.YthfeogjbpgocbaaGreatTabB
import Derived.KernelRfl
set_option linter.unusedVariables false
set_option linter.unusedSimpArgs false
set_option linter.unusedSectionVars false
section
namespace Go.Proofs.YthfeogjbpgocbaaGreat
open Go Km
theorem aT5:bD tab 1000000 200 (.fn LC) [] .e 0 isTrue=True:=by kernel_rfl
theorem ev:∃ m dep,bD tab m dep (.fn LC) [] .e 0 isTrue=True:=⟨_,_,aT5⟩
end Go.Proofs.YthfeogjbpgocbaaGreat
end
