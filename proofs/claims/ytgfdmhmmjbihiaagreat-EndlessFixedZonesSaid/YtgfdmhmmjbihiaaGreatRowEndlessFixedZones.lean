/-
  oq returns true for every input, and each argument reads as it read before.
-/
import Derived.Test.YtgfdmhmmjbihiaaGreatS4
import Derived.Test.YtgfdmhmmjbihiaaGreatFactEndlessFixedZones
set_option linter.unusedVariables false
set_option linter.unusedSimpArgs false
set_option linter.unusedSectionVars false
section
namespace Go.Proofs.YtgfdmhmmjbihiaaGreat
open Go Km Go.ChangeShapes Go.WideShapes Go.ChangeAt Go.RowKit
set_option maxRecDepth 100000 in
theorem jq(os:Os)(started:os.Started)(H:Type)(enc:TypeId × Value->H) :
  ReturnsInHanded {} Tryz.checked os 3 .any (Rows.endlessFixedZonesSpec.pre6 enc Tryz.prog Tryz.f3 Rows.endlessFixedZonesRow.domain false) (Rows.endlessFixedZonesSpec.post enc Tryz.prog Tryz.f3 false true false false):=by
 refine returnsInHanded_of_change (C:=Tryz.checked) (by kernel_rfl) started (by kernel_rfl) Tryz.func3
  (ChangeSpec.witness6 (enc:=enc) (C:=Tryz.checked) false ⟨#[],#[.agg #[.int .u16 0,.int .u8 0,.int .u8 0,.slice none 0 0,.slice none 0 0],.int .i16 0,.int .u16 0],[]⟩ 8 (by kernel_rfl) (by kernel_rfl) (by kernel_rfl) (by kernel_rfl)) ?_
 intro W base args ds gs before anL hW aqS _
 exact Y2 (σ:=sg) (fi:=3) (tb:=4) env rfl (by kernel_rfl) (ts:=[26,27,22]) (by kernel_rfl)
  (λds h=>by match ds,h with|[d0,d1,d2],_=>rfl) (by kernel_rfl) Tryz.underlying4 (by kernel_rfl) (by kernel_rfl) zJ anL hW
set_option maxRecDepth 100000 in
theorem kd:joinedFacts Tryz.pinned.checked.prog 3 Tryz.f3 Rows.endlessFixedZonesSpec Rows.endlessFixedZonesRow=true:=by
 unfold joinedFacts
 exact(aI (aI (aI (aI (aI (aI (aI (aI (aI (aI (aI (aI (aI (aI (aI (aI (aI (aI (aI (aI (aI (aI (aI (aI (aI (aI (aI (aI (aI (aI (aI kL kM) kP) kQ) kR) kS) kU) kW) kX) (cU (cU (cU dI)))) (eZ (cU (cU dI)))) (eZ (cU dI))) (eZ dI)) jI) jJ) jK) jL) jM) jN) jO) jP) jQ) jR) jS) jT) jU) jV) jW) jX) jY) jZ) j3)
set_option maxRecDepth 100000 in
theorem endlessFixedZones_holds:Rows.EndlessFixedZonesSaid:=
 OpenClaim.holds_of_wide 3 Tryz.f3 rfl rfl rfl rfl rfl rfl rfl ⟨rfl,rfl,rfl,rfl,rfl⟩ rfl rfl rfl rfl rfl kY Tryz.func3 kd
  iU jo
  (λos started H enc _=>jq os started H enc)
end Go.Proofs.YtgfdmhmmjbihiaaGreat
end
