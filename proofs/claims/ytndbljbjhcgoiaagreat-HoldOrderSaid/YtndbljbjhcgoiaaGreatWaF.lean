/-
  HoldOrder returns true for every input, and each argument reads as it read before.
-/
import Derived.Test.YtndbljbjhcgoiaaGreatWaD
import Derived.Test.YtndbljbjhcgoiaaGreatWaE

set_option linter.unusedVariables false
set_option linter.unusedSimpArgs false
set_option linter.unusedSectionVars false

namespace Go.Proofs.YtndbljbjhcgoiaaGreat
open Go Go.ChangeShapes Go.WideShapes Go.ChangeAt Go.RowKit

set_option maxRecDepth 100000 in
theorem holdOrderJoined : joinedFacts Tryz.pinned.checked.prog 4 Tryz.f4 Rows.holdOrderSpec Rows.holdOrderRow = true := by
  unfold joinedFacts
  exact (andI (andI (andI (andI (andI (andI (andI (andI (andI (andI (andI (andI (andI (andI (andI (andI (andI (andI (andI (andI (andI (andI (andI (andI (andI (andI (andI (andI (andI (andI (andI holdOrderFact0 holdOrderFact1) holdOrderFact2) holdOrderFact3) holdOrderFact4) holdOrderFact5) holdOrderFact6) holdOrderFact7) holdOrderFact8) (andL (andL (andL holdOrderFactG)))) (andR (andL (andL holdOrderFactG)))) (andR (andL holdOrderFactG))) (andR holdOrderFactG)) holdOrderFact13) holdOrderFact14) holdOrderFact15) holdOrderFact16) holdOrderFact17) holdOrderFact18) holdOrderFact19) holdOrderFact20) holdOrderFact21) holdOrderFact22) holdOrderFact23) holdOrderFact24) holdOrderFact25) holdOrderFact26) holdOrderFact27) holdOrderFact28) holdOrderFact29) holdOrderFact30) holdOrderFact31)

set_option maxRecDepth 100000 in
theorem holdOrder_holds : Rows.HoldOrderSaid :=
  OpenClaim.holds_of_wide 4 Tryz.f4 rfl rfl rfl rfl rfl rfl rfl ⟨rfl, rfl, rfl, rfl, rfl⟩ rfl rfl rfl rfl rfl holdOrderNamed Tryz.func4 holdOrderJoined
    holdOrderInstance holdOrderWrapper
    (fun os started H enc _ => holdOrder_lifted os started H enc)
end Go.Proofs.YtndbljbjhcgoiaaGreat
