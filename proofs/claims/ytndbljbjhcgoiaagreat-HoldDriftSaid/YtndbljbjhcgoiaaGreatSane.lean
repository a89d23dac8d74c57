/-
  The trial 'sanity' returns true at every world, and what was there before stays as it was.
-/
import Derived.Test.YtndbljbjhcgoiaaGreatTie
import Derived.Test.YtndbljbjhcgoiaaGreatEv

set_option linter.unusedVariables false
set_option linter.unusedSimpArgs false
set_option linter.unusedSectionVars false

namespace Go.Proofs.YtndbljbjhcgoiaaGreat
open Go Km

theorem sane0 (W : World) : Calls Tryz.prog (sg 0) #[] W fun e w' => e = .returned (.bool true) ∧ RowKit.Below W.heap.size W w' :=
  answers env (reckoned ev) W

theorem sane (W : World) : Calls Tryz.prog 5 #[] W fun e w' => e = .returned (.bool true) ∧ RowKit.Below W.heap.size W w' := sane0 W

end Go.Proofs.YtndbljbjhcgoiaaGreat
