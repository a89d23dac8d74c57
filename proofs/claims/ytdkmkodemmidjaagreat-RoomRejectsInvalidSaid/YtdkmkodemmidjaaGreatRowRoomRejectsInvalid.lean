/-
  RoomRejectsInvalid returns true for every input, and each argument reads as it read before.
-/
import Derived.Test.YtdkmkodemmidjaaGreatS1
import Derived.Test.YtdkmkodemmidjaaGreatFactRoomRejectsInvalid

set_option linter.unusedVariables false
set_option linter.unusedSimpArgs false
set_option linter.unusedSectionVars false

section
namespace Go.Proofs.YtdkmkodemmidjaaGreat
open Go Km Go.ChangeShapes Go.WideShapes Go.ChangeAt Go.RowKit

set_option maxRecDepth 100000 in
theorem roomRejectsInvalid_lifted (os : Os) (started : os.Started) (H : Type) (enc : TypeId × Value → H) :
    ReturnsInHanded {} Tryz.checked os 3 .any (Rows.roomRejectsInvalidSpec.pre6 enc Tryz.prog Tryz.f3 Rows.roomRejectsInvalidRow.domain false) (Rows.roomRejectsInvalidSpec.post enc Tryz.prog Tryz.f3 false true false false) := by
  refine returnsInHanded_of_change (C := Tryz.checked) (by kernel_rfl) started (by kernel_rfl) Tryz.func3
    (ChangeSpec.witness6 (enc := enc) (C := Tryz.checked) false ⟨#[], #[.agg #[.int .u8 0, .int .u8 0, .int .u8 0, .int .u8 0, .int .u8 0, .int .u8 0, .int .u8 0, .int .u8 0, .int .u8 0, .int .u8 0, .int .u8 0, .int .u8 0, .int .u8 0, .int .u8 0, .int .u8 0], .agg #[.int .u8 0, .int .u8 0, .int .u8 0, .int .u8 0, .int .u8 0, .int .u8 0, .int .u8 0, .int .u8 0, .int .u8 0, .slice none 0 0], .int .u8 0], []⟩ 8 (by kernel_rfl) (by kernel_rfl) (by kernel_rfl) (by kernel_rfl)) ?_
  intro W base args ds gs before hval0 hW hcnd _
  exact law_step (σ := sg) (fi := F_law18_RoomRejectsInvalid) (tb := 4) env rfl (by kernel_rfl) (ts := [23, 26, 5]) (by kernel_rfl)
    (fun ds h => by match ds, h with | [d0, d1, d2], _ => rfl) (by kernel_rfl) Tryz.underlying4 (by kernel_rfl) (by kernel_rfl) reject_true hval0 hW

set_option maxRecDepth 100000 in
theorem roomRejectsInvalidJoined : joinedFacts Tryz.pinned.checked.prog 3 Tryz.f3 Rows.roomRejectsInvalidSpec Rows.roomRejectsInvalidRow = true := by
  unfold joinedFacts
  exact (roomRejectsInvalidandI (roomRejectsInvalidandI (roomRejectsInvalidandI (roomRejectsInvalidandI (roomRejectsInvalidandI (roomRejectsInvalidandI (roomRejectsInvalidandI (roomRejectsInvalidandI (roomRejectsInvalidandI (roomRejectsInvalidandI (roomRejectsInvalidandI (roomRejectsInvalidandI (roomRejectsInvalidandI (roomRejectsInvalidandI (roomRejectsInvalidandI (roomRejectsInvalidandI (roomRejectsInvalidandI (roomRejectsInvalidandI (roomRejectsInvalidandI (roomRejectsInvalidandI (roomRejectsInvalidandI (roomRejectsInvalidandI (roomRejectsInvalidandI (roomRejectsInvalidandI (roomRejectsInvalidandI (roomRejectsInvalidandI (roomRejectsInvalidandI (roomRejectsInvalidandI (roomRejectsInvalidandI (roomRejectsInvalidandI (roomRejectsInvalidandI roomRejectsInvalidFact0 roomRejectsInvalidFact1) roomRejectsInvalidFact2) roomRejectsInvalidFact3) roomRejectsInvalidFact4) roomRejectsInvalidFact5) roomRejectsInvalidFact6) roomRejectsInvalidFact7) roomRejectsInvalidFact8) (roomRejectsInvalidandL (roomRejectsInvalidandL (roomRejectsInvalidandL roomRejectsInvalidFactG)))) (roomRejectsInvalidandR (roomRejectsInvalidandL (roomRejectsInvalidandL roomRejectsInvalidFactG)))) (roomRejectsInvalidandR (roomRejectsInvalidandL roomRejectsInvalidFactG))) (roomRejectsInvalidandR roomRejectsInvalidFactG)) roomRejectsInvalidFact13) roomRejectsInvalidFact14) roomRejectsInvalidFact15) roomRejectsInvalidFact16) roomRejectsInvalidFact17) roomRejectsInvalidFact18) roomRejectsInvalidFact19) roomRejectsInvalidFact20) roomRejectsInvalidFact21) roomRejectsInvalidFact22) roomRejectsInvalidFact23) roomRejectsInvalidFact24) roomRejectsInvalidFact25) roomRejectsInvalidFact26) roomRejectsInvalidFact27) roomRejectsInvalidFact28) roomRejectsInvalidFact29) roomRejectsInvalidFact30) roomRejectsInvalidFact31)

set_option maxRecDepth 100000 in
theorem roomRejectsInvalid_holds : Rows.RoomRejectsInvalidSaid :=
  OpenClaim.holds_of_wide 3 Tryz.f3 rfl rfl rfl rfl rfl rfl rfl ⟨rfl, rfl, rfl, rfl, rfl⟩ rfl rfl rfl rfl rfl roomRejectsInvalidNamed Tryz.func3 roomRejectsInvalidJoined
    roomRejectsInvalidInstance roomRejectsInvalidWrapper
    (fun os started H enc _ => roomRejectsInvalid_lifted os started H enc)
end Go.Proofs.YtdkmkodemmidjaaGreat
end

