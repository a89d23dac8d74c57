/-
  OZ returns true for every input, and each argument reads as it read before.
-/
import Derived.Test.YtnaofdffomdmhaaGreatS4
import Derived.Test.YtnaofdffomdmhaaGreatFactHoldApart
set_option linter.unusedVariables false
set_option linter.unusedSimpArgs false
set_option linter.unusedSectionVars false
section
namespace Go.Proofs.YtnaofdffomdmhaaGreat
open Go Km Go.ChangeShapes Go.WideShapes Go.ChangeAt Go.RowKit
set_option maxRecDepth 100000 in
theorem rD(os:Os)(started:os.Started)(H:Type)(enc:TypeId × Value→H) :
  ReturnsInHanded {} Tryz.checked os 7 .any (Rows.holdApartSpec.pre6 enc Tryz.prog Tryz.f7 Rows.holdApartRow.domain false) (Rows.holdApartSpec.post enc Tryz.prog Tryz.f7 false true false false):=by
 refine returnsInHanded_of_change (C:=Tryz.checked) (by kernel_rfl) started (by kernel_rfl) Tryz.func7
  (ChangeSpec.witness6 (enc:=enc) (C:=Tryz.checked) false ⟨#[],#[.agg #[.int .u8 0,.int .u16 0,.slice none 0 0,.slice none 0 0]],[]⟩ 8 (by kernel_rfl) (by kernel_rfl) (by kernel_rfl) (by kernel_rfl)) ?_
 intro W base args ds gs before ab2 hW asO _
 exact Ca (σ:=sg) (fi:=7) (tb:=4) env rfl (by kernel_rfl) (ts:=[26]) (by kernel_rfl)
  (fun ds h=>by match ds,h with | [d0],_=>rfl) (by kernel_rfl) Tryz.underlying4 (by kernel_rfl) (by kernel_rfl) DN ab2 hW
set_option maxRecDepth 100000 in
theorem tO:joinedFacts Tryz.pinned.checked.prog 7 Tryz.f7 Rows.holdApartSpec Rows.holdApartRow=true:=by
 unfold joinedFacts
 exact(aZ (aZ (aZ (aZ (aZ (aZ (aZ (aZ (aZ (aZ (aZ (aZ (aZ (aZ (aZ (aZ (aZ (aZ (aZ (aZ (aZ (aZ (aZ (aZ (aZ (aZ (aZ (aZ (aZ (aZ (aZ vC vD) vE) vF) vG) vH) vI) vJ) vK) (eR (eR (eR gP)))) (ky (eR (eR gP)))) (ky (eR gP))) (ky gP)) tp) tq) tt) tu) tv) tx) tz) tC) tD) tE) tF) tG) tH) tI) tJ) tK) tL) tM) tN)
set_option maxRecDepth 100000 in
theorem holdApart_holds:Rows.HoldApartSaid:=
 OpenClaim.holds_of_wide 7 Tryz.f7 rfl rfl rfl rfl rfl rfl rfl ⟨rfl,rfl,rfl,rfl,rfl⟩ rfl rfl rfl rfl rfl vL Tryz.func7 tO
  pQ rC
  (fun os started H enc _=>rD os started H enc)
end Go.Proofs.YtnaofdffomdmhaaGreat
end
