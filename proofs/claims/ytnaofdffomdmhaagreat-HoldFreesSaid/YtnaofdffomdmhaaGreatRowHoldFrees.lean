/-
  HoldFrees returns true for every input, and each argument reads as it read before.
-/
import Derived.Test.YtnaofdffomdmhaaGreatS4
import Derived.Test.YtnaofdffomdmhaaGreatFactHoldFrees
set_option linter.unusedVariables false
set_option linter.unusedSimpArgs false
set_option linter.unusedSectionVars false
section
namespace Go.Proofs.YtnaofdffomdmhaaGreat
open Go Km Go.ChangeShapes Go.WideShapes Go.ChangeAt Go.RowKit
set_option maxRecDepth 100000 in
theorem qK(os:Os)(started:os.Started)(H:Type)(enc:TypeId × Value→H) :
  ReturnsInHanded {} Tryz.checked os 6 .any (Rows.holdFreesSpec.pre6 enc Tryz.prog Tryz.f6 Rows.holdFreesRow.domain false) (Rows.holdFreesSpec.post enc Tryz.prog Tryz.f6 false true false false):=by
 refine returnsInHanded_of_change (C:=Tryz.checked) (by kernel_rfl) started (by kernel_rfl) Tryz.func6
  (ChangeSpec.witness6 (enc:=enc) (C:=Tryz.checked) false ⟨#[],#[.agg #[.int .u8 0,.int .u16 0,.slice none 0 0,.slice none 0 0],.agg #[.int .u8 0,.int .u8 0,.int .u8 0,.int .u8 0,.int .u8 0,.int .u8 0,.int .u8 0,.int .u8 0,.int .u8 0,.int .u8 0,.int .u8 0],.agg #[.int .u8 0,.int .u8 0,.int .u8 0,.int .u8 0,.int .u8 0,.int .u8 0,.int .u8 0,.int .u8 0,.int .u8 0,.int .u8 0,.int .u8 0]],[]⟩ 8 (by kernel_rfl) (by kernel_rfl) (by kernel_rfl) (by kernel_rfl)) ?_
 intro W base args ds gs before aaH hW aqZ _
 exact Bt (σ:=sg) (fi:=6) (tb:=4) env rfl (by kernel_rfl) (ts:=[26,30,30]) (by kernel_rfl)
  (fun ds h=>by match ds,h with | [d0,d1,d2],_=>rfl) (by kernel_rfl) Tryz.underlying4 (by kernel_rfl) (by kernel_rfl) Dl aaH hW
set_option maxRecDepth 100000 in
theorem sS:joinedFacts Tryz.pinned.checked.prog 6 Tryz.f6 Rows.holdFreesSpec Rows.holdFreesRow=true:=by
 unfold joinedFacts
 exact(aW (aW (aW (aW (aW (aW (aW (aW (aW (aW (aW (aW (aW (aW (aW (aW (aW (aW (aW (aW (aW (aW (aW (aW (aW (aW (aW (aW (aW (aW (aW uP uQ) uR) uS) uT) uU) uV) uW) uX) (eZ (eZ (eZ gF)))) (jW (eZ (eZ gF)))) (jW (eZ gF))) (jW gF)) su) sw) sy) sA) sC) sD) sE) sF) sG) sH) sI) sK) sL) sM) sN) sO) sP) sQ) sR)
set_option maxRecDepth 100000 in
theorem holdFrees_holds:Rows.HoldFreesSaid:=
 OpenClaim.holds_of_wide 6 Tryz.f6 rfl rfl rfl rfl rfl rfl rfl ⟨rfl,rfl,rfl,rfl,rfl⟩ rfl rfl rfl rfl rfl uY Tryz.func6 sS
  ph qJ
  (fun os started H enc _=>qK os started H enc)
end Go.Proofs.YtnaofdffomdmhaaGreat
end
