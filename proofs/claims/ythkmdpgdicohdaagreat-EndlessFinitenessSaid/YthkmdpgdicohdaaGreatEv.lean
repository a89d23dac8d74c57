/-
  The closed aiP answers true: agW by the kernel.
-/
import Derived.Test.YthkmdpgdicohdaaGreatTab
import Derived.Test.YthkmdpgdicohdaaGreatK3
set_option linter.unusedVariables false
set_option linter.unusedSimpArgs false
set_option linter.unusedSectionVars false
section
namespace Go.Proofs.YthkmdpgdicohdaaGreat
open Go Km
theorem adS:bR tab 7 [] (vb true):=pc (m:=400) (d:=60) (by kernel_rfl)
end Go.Proofs.YthkmdpgdicohdaaGreat
end
