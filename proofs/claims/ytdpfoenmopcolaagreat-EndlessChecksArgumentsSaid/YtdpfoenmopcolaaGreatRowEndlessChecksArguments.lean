/-
  EndlessChecksArguments returns true for every input, and each argument reads as it read before.
-/
import Derived.Test.YtdpfoenmopcolaaGreatS1
import Derived.Test.YtdpfoenmopcolaaGreatFactEndlessChecksArguments

set_option linter.unusedVariables false
set_option linter.unusedSimpArgs false
set_option linter.unusedSectionVars false

section
namespace Go.Proofs.YtdpfoenmopcolaaGreat
open Go Km Go.ChangeShapes Go.WideShapes Go.ChangeAt Go.RowKit

set_option maxRecDepth 100000 in
theorem endlessChecksArguments_lifted (os : Os) (started : os.Started) (H : Type) (enc : TypeId × Value → H) :
    ReturnsInHanded {} Tryz.checked os 3 .any (Rows.endlessChecksArgumentsSpec.pre6 enc Tryz.prog Tryz.f3 Rows.endlessChecksArgumentsRow.domain false) (Rows.endlessChecksArgumentsSpec.post enc Tryz.prog Tryz.f3 false true false false) := by
  refine returnsInHanded_of_change (C := Tryz.checked) (by kernel_rfl) started (by kernel_rfl) Tryz.func3
    (ChangeSpec.witness6 (enc := enc) (C := Tryz.checked) false ⟨#[], #[.agg #[.slice none 0 0, .int .i64 0, .slice none 0 0], .agg #[.slice none 0 0, .int .i64 0, .int .i64 0, .string ByteArray.empty, .int .i64 0, .int .i64 0, .slice none 0 0], .int .i64 0], []⟩ 8 (by kernel_rfl) (by kernel_rfl) (by kernel_rfl) (by kernel_rfl)) ?_
  intro W base args ds gs before hval0 hW hcnd _
  exact law_step (σ := sg) (fi := F_x33) (tb := 4) env rfl (by kernel_rfl) (ts := [25, 30, 3]) (by kernel_rfl)
    (fun ds h => by match ds, h with | [d0, d1, d2], _ => rfl) (by kernel_rfl) Tryz.underlying4 (by kernel_rfl) (by kernel_rfl) ends_true hval0 hW

set_option maxRecDepth 100000 in
theorem endlessChecksArgumentsJoined : joinedFacts Tryz.pinned.checked.prog 3 Tryz.f3 Rows.endlessChecksArgumentsSpec Rows.endlessChecksArgumentsRow = true := by
  unfold joinedFacts
  exact (endlessChecksArgumentsandI (endlessChecksArgumentsandI (endlessChecksArgumentsandI (endlessChecksArgumentsandI (endlessChecksArgumentsandI (endlessChecksArgumentsandI (endlessChecksArgumentsandI (endlessChecksArgumentsandI (endlessChecksArgumentsandI (endlessChecksArgumentsandI (endlessChecksArgumentsandI (endlessChecksArgumentsandI (endlessChecksArgumentsandI (endlessChecksArgumentsandI (endlessChecksArgumentsandI (endlessChecksArgumentsandI (endlessChecksArgumentsandI (endlessChecksArgumentsandI (endlessChecksArgumentsandI (endlessChecksArgumentsandI (endlessChecksArgumentsandI (endlessChecksArgumentsandI (endlessChecksArgumentsandI (endlessChecksArgumentsandI (endlessChecksArgumentsandI (endlessChecksArgumentsandI (endlessChecksArgumentsandI (endlessChecksArgumentsandI (endlessChecksArgumentsandI (endlessChecksArgumentsandI (endlessChecksArgumentsandI endlessChecksArgumentsFact0 endlessChecksArgumentsFact1) endlessChecksArgumentsFact2) endlessChecksArgumentsFact3) endlessChecksArgumentsFact4) endlessChecksArgumentsFact5) endlessChecksArgumentsFact6) endlessChecksArgumentsFact7) endlessChecksArgumentsFact8) (endlessChecksArgumentsandL (endlessChecksArgumentsandL (endlessChecksArgumentsandL endlessChecksArgumentsFactG)))) (endlessChecksArgumentsandR (endlessChecksArgumentsandL (endlessChecksArgumentsandL endlessChecksArgumentsFactG)))) (endlessChecksArgumentsandR (endlessChecksArgumentsandL endlessChecksArgumentsFactG))) (endlessChecksArgumentsandR endlessChecksArgumentsFactG)) endlessChecksArgumentsFact13) endlessChecksArgumentsFact14) endlessChecksArgumentsFact15) endlessChecksArgumentsFact16) endlessChecksArgumentsFact17) endlessChecksArgumentsFact18) endlessChecksArgumentsFact19) endlessChecksArgumentsFact20) endlessChecksArgumentsFact21) endlessChecksArgumentsFact22) endlessChecksArgumentsFact23) endlessChecksArgumentsFact24) endlessChecksArgumentsFact25) endlessChecksArgumentsFact26) endlessChecksArgumentsFact27) endlessChecksArgumentsFact28) endlessChecksArgumentsFact29) endlessChecksArgumentsFact30) endlessChecksArgumentsFact31)

set_option maxRecDepth 100000 in
theorem endlessChecksArguments_holds : Rows.EndlessChecksArgumentsSaid :=
  OpenClaim.holds_of_wide 3 Tryz.f3 rfl rfl rfl rfl rfl rfl rfl ⟨rfl, rfl, rfl, rfl, rfl⟩ rfl rfl rfl rfl rfl endlessChecksArgumentsNamed Tryz.func3 endlessChecksArgumentsJoined
    endlessChecksArgumentsInstance endlessChecksArgumentsWrapper
    (fun os started H enc _ => endlessChecksArguments_lifted os started H enc)
end Go.Proofs.YtdpfoenmopcolaaGreat
end

