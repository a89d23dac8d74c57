/-
  The closed acg answers true: wQ by the kernel.
-/
import Derived.Test.YthkmdpgdicohdaaGreatTabB
import Derived.KernelRfl
set_option linter.unusedVariables false
set_option linter.unusedSimpArgs false
set_option linter.unusedSectionVars false
section
namespace Go.Proofs.YthkmdpgdicohdaaGreat
open Go Km
theorem abo:aV tab 1000000 200 (.fn 1) [] .e 0 isTrue=True:=by kernel_rfl
theorem ev:∃ m dep,aV tab m dep (.fn 1) [] .e 0 isTrue=True:=⟨_,_,abo⟩
end Go.Proofs.YthkmdpgdicohdaaGreat
end
