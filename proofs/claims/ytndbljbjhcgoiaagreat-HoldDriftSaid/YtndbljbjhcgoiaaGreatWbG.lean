/-
  HoldDrift returns true for every input, and its argument reads as it read before.
-/
import Derived.Test.YtndbljbjhcgoiaaGreatWbE
import Derived.Test.YtndbljbjhcgoiaaGreatWbF

set_option linter.unusedVariables false
set_option linter.unusedSimpArgs false
set_option linter.unusedSectionVars false

namespace Go.Proofs.YtndbljbjhcgoiaaGreat
open Go Go.ChangeShapes Go.WideShapes Go.ChangeAt Go.RowKit

set_option maxRecDepth 100000 in
theorem holdDriftJoined : joinedFacts Tryz.pinned.checked.prog 3 Tryz.f3 Rows.holdDriftSpec Rows.holdDriftRow = true := by
  unfold joinedFacts
  exact (andI (andI (andI (andI (andI (andI (andI (andI (andI (andI (andI (andI (andI (andI (andI (andI (andI (andI (andI (andI (andI (andI (andI (andI (andI (andI (andI (andI (andI (andI (andI holdDriftFact0 holdDriftFact1) holdDriftFact2) holdDriftFact3) holdDriftFact4) holdDriftFact5) holdDriftFact6) holdDriftFact7) holdDriftFact8) (andL (andL (andL holdDriftFactG)))) (andR (andL (andL holdDriftFactG)))) (andR (andL holdDriftFactG))) (andR holdDriftFactG)) holdDriftFact13) holdDriftFact14) holdDriftFact15) holdDriftFact16) holdDriftFact17) holdDriftFact18) holdDriftFact19) holdDriftFact20) holdDriftFact21) holdDriftFact22) holdDriftFact23) holdDriftFact24) holdDriftFact25) holdDriftFact26) holdDriftFact27) holdDriftFact28) holdDriftFact29) holdDriftFact30) holdDriftFact31)

set_option maxRecDepth 100000 in
theorem holdDrift_holds : Rows.HoldDriftSaid :=
  OpenClaim.holds_of_wide 3 Tryz.f3 rfl rfl rfl rfl rfl rfl rfl ⟨rfl, rfl, rfl, rfl, rfl⟩ rfl rfl rfl rfl rfl holdDriftNamed Tryz.func3 holdDriftJoined
    holdDriftInstance holdDriftWrapper
    (fun os started H enc _ => holdDrift_lifted os started H enc)
end Go.Proofs.YtndbljbjhcgoiaaGreat
