/-
  The closed ard answers true: Ce by the kernel.
-/
import Derived.Test.YtmbjejcfadllnaaGreatTabB
import Derived.KernelRfl
set_option linter.unusedVariables false
set_option linter.unusedSimpArgs false
set_option linter.unusedSectionVars false
section
namespace Go.Proofs.YtmbjejcfadllnaaGreat
open Go Km
theorem apd:bF tab 1000000 200 (.fn 1) [] .e 0 isTrue=True:=by kernel_rfl
theorem ev:∃ m dep,bF tab m dep (.fn 1) [] .e 0 isTrue=True:=⟨_,_,apd⟩
end Go.Proofs.YtmbjejcfadllnaaGreat
end
