/-
  The closed trial answers true: reckoned by the kernel.
-/
import Derived.Test.YtijkmcapnnlpjaaGreatTabB
import Derived.KernelRfl
set_option linter.unusedVariables false
set_option linter.unusedSimpArgs false
set_option linter.unusedSectionVars false
section
namespace Go.Proofs.YtijkmcapnnlpjaaGreat
open Go Km
theorem aYL:bG tab 1000000 200 (.fn KY) [] .e 0 isTrue=True:=by kernel_rfl
theorem ev:∃ m dep,bG tab m dep (.fn KY) [] .e 0 isTrue=True:=⟨_,_,aYL⟩
end Go.Proofs.YtijkmcapnnlpjaaGreat
end
