/-
  RoomSharing returns true for every input, and each argument reads as it read before.
-/
import Derived.Test.YtjcobnhnmlhbaaaGreatS1
import Derived.Test.YtjcobnhnmlhbaaaGreatFactRoomSharing

set_option linter.unusedVariables false
set_option linter.unusedSimpArgs false
set_option linter.unusedSectionVars false

section
namespace Go.Proofs.YtjcobnhnmlhbaaaGreat
open Go Km Go.ChangeShapes Go.WideShapes Go.ChangeAt Go.RowKit

set_option maxRecDepth 100000 in
theorem roomSharing_lifted (os : Os) (started : os.Started) (H : Type) (enc : TypeId × Value → H) :
    ReturnsInHanded {} Tryz.checked os 4 .any (Rows.roomSharingSpec.pre6 enc Tryz.prog Tryz.f4 Rows.roomSharingRow.domain false) (Rows.roomSharingSpec.post enc Tryz.prog Tryz.f4 false true false false) := by
  refine returnsInHanded_of_change (C := Tryz.checked) (by kernel_rfl) started (by kernel_rfl) Tryz.func4
    (ChangeSpec.witness6 (enc := enc) (C := Tryz.checked) false ⟨#[], #[.agg #[.int .u8 0, .int .u8 0, .int .u8 0, .int .u8 0, .int .u8 0, .int .u8 0, .int .u8 0, .int .u8 0, .int .u8 0, .int .u8 0, .int .u8 0, .int .u8 0, .int .u8 0, .int .u8 0, .int .u8 0]], []⟩ 8 (by kernel_rfl) (by kernel_rfl) (by kernel_rfl) (by kernel_rfl)) ?_
  intro W base args ds gs before hval0 hW hcnd _
  exact law_step (σ := sg) (fi := F_law18_RoomSharing) (tb := 4) env rfl (by kernel_rfl) (ts := [43]) (by kernel_rfl)
    (fun ds h => by match ds, h with | [d0], _ => rfl) (by kernel_rfl) Tryz.underlying4 (by kernel_rfl) (by kernel_rfl) sharing_true hval0 hW

set_option maxRecDepth 100000 in
theorem roomSharingJoined : joinedFacts Tryz.pinned.checked.prog 4 Tryz.f4 Rows.roomSharingSpec Rows.roomSharingRow = true := by
  unfold joinedFacts
  exact (roomSharingandI (roomSharingandI (roomSharingandI (roomSharingandI (roomSharingandI (roomSharingandI (roomSharingandI (roomSharingandI (roomSharingandI (roomSharingandI (roomSharingandI (roomSharingandI (roomSharingandI (roomSharingandI (roomSharingandI (roomSharingandI (roomSharingandI (roomSharingandI (roomSharingandI (roomSharingandI (roomSharingandI (roomSharingandI (roomSharingandI (roomSharingandI (roomSharingandI (roomSharingandI (roomSharingandI (roomSharingandI (roomSharingandI (roomSharingandI (roomSharingandI roomSharingFact0 roomSharingFact1) roomSharingFact2) roomSharingFact3) roomSharingFact4) roomSharingFact5) roomSharingFact6) roomSharingFact7) roomSharingFact8) (roomSharingandL (roomSharingandL (roomSharingandL roomSharingFactG)))) (roomSharingandR (roomSharingandL (roomSharingandL roomSharingFactG)))) (roomSharingandR (roomSharingandL roomSharingFactG))) (roomSharingandR roomSharingFactG)) roomSharingFact13) roomSharingFact14) roomSharingFact15) roomSharingFact16) roomSharingFact17) roomSharingFact18) roomSharingFact19) roomSharingFact20) roomSharingFact21) roomSharingFact22) roomSharingFact23) roomSharingFact24) roomSharingFact25) roomSharingFact26) roomSharingFact27) roomSharingFact28) roomSharingFact29) roomSharingFact30) roomSharingFact31)

set_option maxRecDepth 100000 in
theorem roomSharing_holds : Rows.RoomSharingSaid :=
  OpenClaim.holds_of_wide 4 Tryz.f4 rfl rfl rfl rfl rfl rfl rfl ⟨rfl, rfl, rfl, rfl, rfl⟩ rfl rfl rfl rfl rfl roomSharingNamed Tryz.func4 roomSharingJoined
    roomSharingInstance roomSharingWrapper
    (fun os started H enc _ => roomSharing_lifted os started H enc)
end Go.Proofs.YtjcobnhnmlhbaaaGreat
end

