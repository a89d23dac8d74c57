/-
  RoomBusy returns true for every input, and each argument reads as it read before.
-/
import Derived.Test.YtijkmcapnnlpjaaGreatS2
import Derived.Test.YtijkmcapnnlpjaaGreatFactRoomBusy
set_option linter.unusedVariables false
set_option linter.unusedSimpArgs false
set_option linter.unusedSectionVars false
section
namespace Go.Proofs.YtijkmcapnnlpjaaGreat
open Go Km Go.ChangeShapes Go.WideShapes Go.ChangeAt Go.RowKit
set_option maxRecDepth 100000 in
theorem yM(os:Os)(started:os.Started)(H:Type)(enc:TypeId × Value→H) :
  ReturnsInHanded {} Tryz.checked os 3 .any (Rows.roomBusySpec.pre6 enc Tryz.prog Tryz.f3 Rows.roomBusyRow.domain false) (Rows.roomBusySpec.post enc Tryz.prog Tryz.f3 false true false false):=by
 refine returnsInHanded_of_change (C:=Tryz.checked) (by kernel_rfl) started (by kernel_rfl) Tryz.func3
  (ChangeSpec.witness6 (enc:=enc) (C:=Tryz.checked) false ⟨#[],#[.agg #[.int .u8 0,.int .u8 0,.int .u8 0,.int .u8 0,.int .u8 0,.int .u8 0,.int .u8 0,.int .u8 0,.int .u8 0,.int .u8 0,.int .u8 0,.int .u8 0,.int .u8 0,.int .u8 0,.int .u8 0],.slice none 0 0,.agg #[.int .u16 0,.int .u16 0,.int .u16 0]],[]⟩ 8 (by kernel_rfl) (by kernel_rfl) (by kernel_rfl) (by kernel_rfl)) ?_
 intro W base args ds gs before hval0 hW hcnd _
 exact YJ (σ:=sg) (fi:=RY) (tb:=4) env rfl (by kernel_rfl) (ts:=[23,24,26]) (by kernel_rfl)
  (fun ds h=>by match ds,h with | [d0,d1,d2],_=>rfl) (by kernel_rfl) Tryz.underlying4 (by kernel_rfl) (by kernel_rfl) UJ hval0 hW
set_option maxRecDepth 100000 in
theorem zZ:joinedFacts Tryz.pinned.checked.prog 3 Tryz.f3 Rows.roomBusySpec Rows.roomBusyRow=true:=by
 unfold joinedFacts
 exact(aX (aX (aX (aX (aX (aX (aX (aX (aX (aX (aX (aX (aX (aX (aX (aX (aX (aX (aX (aX (aX (aX (aX (aX (aX (aX (aX (aX (aX (aX (aX D5 DZ) DY) DX) DW) DV) DU) DT) DR) (jq (jq (jq lu)))) (pU (jq (jq lu)))) (pU (jq lu))) (pU lu)) AB) AA) Az) Aw) Au) Ar) Aq) Ap) Am) Ak) Aj) Ai) Ah) Ag) Af) Ae) Ad) Ac) Aa)
set_option maxRecDepth 100000 in
theorem roomBusy_holds:Rows.RoomBusySaid:=
 OpenClaim.holds_of_wide 3 Tryz.f3 rfl rfl rfl rfl rfl rfl rfl ⟨rfl,rfl,rfl,rfl,rfl⟩ rfl rfl rfl rfl rfl DN Tryz.func3 zZ
  wR yN
  (fun os started H enc _=>yM os started H enc)
end Go.Proofs.YtijkmcapnnlpjaaGreat
end
