/-
  DD returns true for every input, and each argument reads as it read before.
-/
import Derived.Test.YtnaofdffomdmhaaGreatS4
import Derived.Test.YtnaofdffomdmhaaGreatFactHoldStands
set_option linter.unusedVariables false
set_option linter.unusedSimpArgs false
set_option linter.unusedSectionVars false
section
namespace Go.Proofs.YtnaofdffomdmhaaGreat
open Go Km Go.ChangeShapes Go.WideShapes Go.ChangeAt Go.RowKit
set_option maxRecDepth 100000 in
theorem pS(os:Os)(started:os.Started)(H:Type)(enc:TypeId × Value→H) :
  ReturnsInHanded {} Tryz.checked os 8 .any (Rows.holdStandsSpec.pre6 enc Tryz.prog Tryz.f8 Rows.holdStandsRow.domain false) (Rows.holdStandsSpec.post enc Tryz.prog Tryz.f8 false true false false):=by
 refine returnsInHanded_of_change (C:=Tryz.checked) (by kernel_rfl) started (by kernel_rfl) Tryz.func8
  (ChangeSpec.witness6 (enc:=enc) (C:=Tryz.checked) false ⟨#[],#[.agg #[.int .u8 0,.int .u16 0,.slice none 0 0,.slice none 0 0]],[]⟩ 8 (by kernel_rfl) (by kernel_rfl) (by kernel_rfl) (by kernel_rfl)) ?_
 intro W base args ds gs before ab2 hW asO _
 exact Ca (σ:=sg) (fi:=8) (tb:=4) env rfl (by kernel_rfl) (ts:=[26]) (by kernel_rfl)
  (fun ds h=>by match ds,h with | [d0],_=>rfl) (by kernel_rfl) Tryz.underlying4 (by kernel_rfl) (by kernel_rfl) C4 ab2 hW
set_option maxRecDepth 100000 in
theorem rX:joinedFacts Tryz.pinned.checked.prog 8 Tryz.f8 Rows.holdStandsSpec Rows.holdStandsRow=true:=by
 unfold joinedFacts
 exact(aX (aX (aX (aX (aX (aX (aX (aX (aX (aX (aX (aX (aX (aX (aX (aX (aX (aX (aX (aX (aX (aX (aX (aX (aX (aX (aX (aX (aX (aX (aX tP tQ) tR) tS) tT) tU) tV) tW) tX) (en (en (en fW)))) (jF (en (en fW)))) (jF (en fW))) (jF fW)) rE) rF) rG) rH) rI) rJ) rK) rL) rM) rN) rO) rP) rQ) rR) rS) rT) rU) rV) rW)
set_option maxRecDepth 100000 in
theorem holdStands_holds:Rows.HoldStandsSaid:=
 OpenClaim.holds_of_wide 8 Tryz.f8 rfl rfl rfl rfl rfl rfl rfl ⟨rfl,rfl,rfl,rfl,rfl⟩ rfl rfl rfl rfl rfl tY Tryz.func8 rX
  oP pR
  (fun os started H enc _=>pS os started H enc)
end Go.Proofs.YtnaofdffomdmhaaGreat
end
