/-
  The closed trial answers true: reckoned by the kernel.
-/
import Derived.Test.YtmbjejcfadllnaaGreatTabB
import Derived.KernelRfl
set_option linter.unusedVariables false
set_option linter.unusedSimpArgs false
set_option linter.unusedSectionVars false
section
namespace Go.Proofs.YtmbjejcfadllnaaGreat
open Go Km
theorem a5U:bI tab 1000000 200 (.fn NP) [] .e 0 isTrue=True:=by kernel_rfl
theorem ev:∃ m dep,bI tab m dep (.fn NP) [] .e 0 isTrue=True:=⟨_,_,a5U⟩
end Go.Proofs.YtmbjejcfadllnaaGreat
end
