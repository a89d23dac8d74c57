/-
  RoomUsed returns true for every input, and each argument reads as it read before.
-/
import Derived.Test.YthjpdnjmppbokaaGreatS2
import Derived.Test.YthjpdnjmppbokaaGreatFactRoomUsed

set_option linter.unusedVariables false
set_option linter.unusedSimpArgs false
set_option linter.unusedSectionVars false

section
namespace Go.Proofs.YthjpdnjmppbokaaGreat
open Go Km Go.ChangeShapes Go.WideShapes Go.ChangeAt Go.RowKit

set_option maxRecDepth 100000 in
theorem roomUsed_lifted (os : Os) (started : os.Started) (H : Type) (enc : TypeId × Value → H) :
    ReturnsInHanded {} Tryz.checked os 3 .any (Rows.roomUsedSpec.pre6 enc Tryz.prog Tryz.f3 Rows.roomUsedRow.domain false) (Rows.roomUsedSpec.post enc Tryz.prog Tryz.f3 false true false false) := by
  refine returnsInHanded_of_change (C := Tryz.checked) (by kernel_rfl) started (by kernel_rfl) Tryz.func3
    (ChangeSpec.witness6 (enc := enc) (C := Tryz.checked) false ⟨#[], #[.slice none 0 0, .agg #[.int .u8 0, .int .u8 0, .int .u8 0]], []⟩ 8 (by kernel_rfl) (by kernel_rfl) (by kernel_rfl) (by kernel_rfl)) ?_
  intro W base args ds gs before hval0 hW hcnd _
  exact law_step (σ := sg) (fi := F_x22) (tb := 4) env rfl (by kernel_rfl) (ts := [22, 23]) (by kernel_rfl)
    (fun ds h => by match ds, h with | [d0, d1], _ => rfl) (by kernel_rfl) Tryz.underlying4 (by kernel_rfl) (by kernel_rfl) used_true hval0 hW

set_option maxRecDepth 100000 in
theorem roomUsedJoined : joinedFacts Tryz.pinned.checked.prog 3 Tryz.f3 Rows.roomUsedSpec Rows.roomUsedRow = true := by
  unfold joinedFacts
  exact (roomUsedandI (roomUsedandI (roomUsedandI (roomUsedandI (roomUsedandI (roomUsedandI (roomUsedandI (roomUsedandI (roomUsedandI (roomUsedandI (roomUsedandI (roomUsedandI (roomUsedandI (roomUsedandI (roomUsedandI (roomUsedandI (roomUsedandI (roomUsedandI (roomUsedandI (roomUsedandI (roomUsedandI (roomUsedandI (roomUsedandI (roomUsedandI (roomUsedandI (roomUsedandI (roomUsedandI (roomUsedandI (roomUsedandI (roomUsedandI (roomUsedandI roomUsedFact0 roomUsedFact1) roomUsedFact2) roomUsedFact3) roomUsedFact4) roomUsedFact5) roomUsedFact6) roomUsedFact7) roomUsedFact8) (roomUsedandL (roomUsedandL (roomUsedandL roomUsedFactG)))) (roomUsedandR (roomUsedandL (roomUsedandL roomUsedFactG)))) (roomUsedandR (roomUsedandL roomUsedFactG))) (roomUsedandR roomUsedFactG)) roomUsedFact13) roomUsedFact14) roomUsedFact15) roomUsedFact16) roomUsedFact17) roomUsedFact18) roomUsedFact19) roomUsedFact20) roomUsedFact21) roomUsedFact22) roomUsedFact23) roomUsedFact24) roomUsedFact25) roomUsedFact26) roomUsedFact27) roomUsedFact28) roomUsedFact29) roomUsedFact30) roomUsedFact31)

set_option maxRecDepth 100000 in
theorem roomUsed_holds : Rows.RoomUsedSaid :=
  OpenClaim.holds_of_wide 3 Tryz.f3 rfl rfl rfl rfl rfl rfl rfl ⟨rfl, rfl, rfl, rfl, rfl⟩ rfl rfl rfl rfl rfl roomUsedNamed Tryz.func3 roomUsedJoined
    roomUsedInstance roomUsedWrapper
    (fun os started H enc _ => roomUsed_lifted os started H enc)
end Go.Proofs.YthjpdnjmppbokaaGreat
end

