/-
  The closed trial answers true: reckoned by the kernel.
-/
import Derived.Test.YtmbjejcfadllnaaGreatTabB
import Derived.KernelRfl
set_option linter.unusedVariables false
set_option linter.unusedSimpArgs false
set_option linter.unusedSectionVars false
section
namespace Go.Proofs.YtmbjejcfadllnaaGreat
open Go Km
theorem aRc:bf tab 1000000 200 (.fn Iq) [] .e 0 isTrue=True:=by kernel_rfl
theorem ev:∃ m dep,bf tab m dep (.fn Iq) [] .e 0 isTrue=True:=⟨_,_,aRc⟩
end Go.Proofs.YtmbjejcfadllnaaGreat
end
