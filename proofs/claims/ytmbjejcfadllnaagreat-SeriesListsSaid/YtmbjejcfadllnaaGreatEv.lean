/-
  The closed au' answers true: Dq by the kernel.
-/
import Derived.Test.YtmbjejcfadllnaaGreatTabB
import Derived.KernelRfl
set_option linter.unusedVariables false
set_option linter.unusedSimpArgs false
set_option linter.unusedSectionVars false
section
namespace Go.Proofs.YtmbjejcfadllnaaGreat
open Go Km
theorem as0:bs tab 1000000 200 (.fn B8) [] .e 0 isTrue=True:=by kernel_rfl
theorem ev:∃ m dep,bs tab m dep (.fn B8) [] .e 0 isTrue=True:=⟨_,_,as0⟩
end Go.Proofs.YtmbjejcfadllnaaGreat
end
