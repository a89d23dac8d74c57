/-
  RoomRawMatchesReference returns true for every input, and each argument reads as it read before.
-/
import Derived.Test.YtjcobnhnmlhbaaaGreatS1
import Derived.Test.YtjcobnhnmlhbaaaGreatFactRoomRawMatchesReference

set_option linter.unusedVariables false
set_option linter.unusedSimpArgs false
set_option linter.unusedSectionVars false

section
namespace Go.Proofs.YtjcobnhnmlhbaaaGreat
open Go Km Go.ChangeShapes Go.WideShapes Go.ChangeAt Go.RowKit

set_option maxRecDepth 100000 in
theorem roomRawMatchesReference_lifted (os : Os) (started : os.Started) (H : Type) (enc : TypeId × Value → H) :
    ReturnsInHanded {} Tryz.checked os 3 .any (Rows.roomRawMatchesReferenceSpec.pre6 enc Tryz.prog Tryz.f3 Rows.roomRawMatchesReferenceRow.domain false) (Rows.roomRawMatchesReferenceSpec.post enc Tryz.prog Tryz.f3 false true false false) := by
  refine returnsInHanded_of_change (C := Tryz.checked) (by kernel_rfl) started (by kernel_rfl) Tryz.func3
    (ChangeSpec.witness6 (enc := enc) (C := Tryz.checked) false ⟨#[], #[.slice none 0 0, .int .i64 0, .int .i64 0], []⟩ 8 (by kernel_rfl) (by kernel_rfl) (by kernel_rfl) (by kernel_rfl)) ?_
  intro W base args ds gs before hval0 hW hcnd _
  exact law_step (σ := sg) (fi := F_law18_RoomRawMatchesReference) (tb := 4) env rfl (by kernel_rfl) (ts := [22, 3, 3]) (by kernel_rfl)
    (fun ds h => by match ds, h with | [d0, d1, d2], _ => rfl) (by kernel_rfl) Tryz.underlying4 (by kernel_rfl) (by kernel_rfl) raw_true hval0 hW

set_option maxRecDepth 100000 in
theorem roomRawMatchesReferenceJoined : joinedFacts Tryz.pinned.checked.prog 3 Tryz.f3 Rows.roomRawMatchesReferenceSpec Rows.roomRawMatchesReferenceRow = true := by
  unfold joinedFacts
  exact (roomRawMatchesReferenceandI (roomRawMatchesReferenceandI (roomRawMatchesReferenceandI (roomRawMatchesReferenceandI (roomRawMatchesReferenceandI (roomRawMatchesReferenceandI (roomRawMatchesReferenceandI (roomRawMatchesReferenceandI (roomRawMatchesReferenceandI (roomRawMatchesReferenceandI (roomRawMatchesReferenceandI (roomRawMatchesReferenceandI (roomRawMatchesReferenceandI (roomRawMatchesReferenceandI (roomRawMatchesReferenceandI (roomRawMatchesReferenceandI (roomRawMatchesReferenceandI (roomRawMatchesReferenceandI (roomRawMatchesReferenceandI (roomRawMatchesReferenceandI (roomRawMatchesReferenceandI (roomRawMatchesReferenceandI (roomRawMatchesReferenceandI (roomRawMatchesReferenceandI (roomRawMatchesReferenceandI (roomRawMatchesReferenceandI (roomRawMatchesReferenceandI (roomRawMatchesReferenceandI (roomRawMatchesReferenceandI (roomRawMatchesReferenceandI (roomRawMatchesReferenceandI roomRawMatchesReferenceFact0 roomRawMatchesReferenceFact1) roomRawMatchesReferenceFact2) roomRawMatchesReferenceFact3) roomRawMatchesReferenceFact4) roomRawMatchesReferenceFact5) roomRawMatchesReferenceFact6) roomRawMatchesReferenceFact7) roomRawMatchesReferenceFact8) (roomRawMatchesReferenceandL (roomRawMatchesReferenceandL (roomRawMatchesReferenceandL roomRawMatchesReferenceFactG)))) (roomRawMatchesReferenceandR (roomRawMatchesReferenceandL (roomRawMatchesReferenceandL roomRawMatchesReferenceFactG)))) (roomRawMatchesReferenceandR (roomRawMatchesReferenceandL roomRawMatchesReferenceFactG))) (roomRawMatchesReferenceandR roomRawMatchesReferenceFactG)) roomRawMatchesReferenceFact13) roomRawMatchesReferenceFact14) roomRawMatchesReferenceFact15) roomRawMatchesReferenceFact16) roomRawMatchesReferenceFact17) roomRawMatchesReferenceFact18) roomRawMatchesReferenceFact19) roomRawMatchesReferenceFact20) roomRawMatchesReferenceFact21) roomRawMatchesReferenceFact22) roomRawMatchesReferenceFact23) roomRawMatchesReferenceFact24) roomRawMatchesReferenceFact25) roomRawMatchesReferenceFact26) roomRawMatchesReferenceFact27) roomRawMatchesReferenceFact28) roomRawMatchesReferenceFact29) roomRawMatchesReferenceFact30) roomRawMatchesReferenceFact31)

set_option maxRecDepth 100000 in
theorem roomRawMatchesReference_holds : Rows.RoomRawMatchesReferenceSaid :=
  OpenClaim.holds_of_wide 3 Tryz.f3 rfl rfl rfl rfl rfl rfl rfl ⟨rfl, rfl, rfl, rfl, rfl⟩ rfl rfl rfl rfl rfl roomRawMatchesReferenceNamed Tryz.func3 roomRawMatchesReferenceJoined
    roomRawMatchesReferenceInstance roomRawMatchesReferenceWrapper
    (fun os started H enc _ => roomRawMatchesReference_lifted os started H enc)
end Go.Proofs.YtjcobnhnmlhbaaaGreat
end

