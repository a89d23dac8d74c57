/-
  The closed am2 answers true: ak9 by the kernel.
-/
import Derived.Test.YthkmdpgdicohdaaGreatTab
import Derived.Test.YthkmdpgdicohdaaGreatK3
set_option linter.unusedVariables false
set_option linter.unusedSimpArgs false
set_option linter.unusedSectionVars false
section
namespace Go.Proofs.YthkmdpgdicohdaaGreat
open Go Km
theorem ahY:bW tab 7 [] (vb true):=qh (m:=400) (d:=60) (by kernel_rfl)
end Go.Proofs.YthkmdpgdicohdaaGreat
end
