/-
  The closed ao8 answers true: B3 by the kernel.
-/
import Derived.Test.YtmbjejcfadllnaaGreatTabB
import Derived.KernelRfl
set_option linter.unusedVariables false
set_option linter.unusedSimpArgs false
set_option linter.unusedSectionVars false
section
namespace Go.Proofs.YtmbjejcfadllnaaGreat
open Go Km
theorem ami:bz tab 1000000 200 (.fn 1) [] .e 0 isTrue=True:=by kernel_rfl
theorem ev:∃ m dep,bz tab m dep (.fn 1) [] .e 0 isTrue=True:=⟨_,_,ami⟩
end Go.Proofs.YtmbjejcfadllnaaGreat
end
