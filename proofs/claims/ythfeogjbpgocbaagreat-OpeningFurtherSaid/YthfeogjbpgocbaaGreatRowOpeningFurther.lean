/-
  OpeningFurther returns true for every input, and each argument reads as it read before.
-/
import Derived.Test.YthfeogjbpgocbaaGreatS2
import Derived.Test.YthfeogjbpgocbaaGreatFactOpeningFurther
set_option linter.unusedVariables false
set_option linter.unusedSimpArgs false
set_option linter.unusedSectionVars false
section
namespace Go.Proofs.YthfeogjbpgocbaaGreat
open Go Km Go.ChangeShapes Go.WideShapes Go.ChangeAt Go.RowKit
set_option maxRecDepth 100000 in
theorem qG(os:Os)(started:os.Started)(H:Type)(enc:TypeId × Value→H) :
  ReturnsInHanded {} Tryz.checked os 4 .any (Rows.openingFurtherSpec.pre6 enc Tryz.prog Tryz.f4 Rows.openingFurtherRow.domain false) (Rows.openingFurtherSpec.post enc Tryz.prog Tryz.f4 false true false false):=by
 refine returnsInHanded_of_change (C:=Tryz.checked) (by kernel_rfl) started (by kernel_rfl) Tryz.func4
  (ChangeSpec.witness6 (enc:=enc) (C:=Tryz.checked) false ⟨#[],#[.agg #[.int .u8 0,.slice none 0 0,.slice none 0 0,.int .u8 0,.int .u8 0,.int .u8 0,.int .u8 0,.int .u8 0,.int .u8 0,.int .u8 0,.int .u8 0,.int .u8 0,.int .u8 0,.bool false,.slice none 0 0,.slice none 0 0],.agg #[.slice none 0 0,.int .u16 0,.int .u16 0],.agg #[.int .i64 0,.int .i64 0,.int .i64 0]],[]⟩ 8 (by kernel_rfl) (by kernel_rfl) (by kernel_rfl) (by kernel_rfl)) ?_
 intro W base args ds gs before hval0 hW hcnd _
 exact akp (σ:=sg) (fi:=TT) (tb:=4) env rfl (by kernel_rfl) (ts:=[29,61,62]) (by kernel_rfl)
  (fun ds h=>by match ds,h with | [d0,d1,d2],_=>rfl) (by kernel_rfl) Tryz.underlying4 (by kernel_rfl) (by kernel_rfl) Hu hval0 hW
set_option maxRecDepth 100000 in
theorem qN:joinedFacts Tryz.pinned.checked.prog 4 Tryz.f4 Rows.openingFurtherSpec Rows.openingFurtherRow=true:=by
 unfold joinedFacts
 exact(aQ (aQ (aQ (aQ (aQ (aQ (aQ (aQ (aQ (aQ (aQ (aQ (aQ (aQ (aQ (aQ (aQ (aQ (aQ (aQ (aQ (aQ (aQ (aQ (aQ (aQ (aQ (aQ (aQ (aQ (aQ uN uM) uK) uJ) uI) uH) uG) uF) uD) (dZ (dZ (dZ gJ)))) (jI (dZ (dZ gJ)))) (jI (dZ gJ))) (jI gJ)) rO) rM) rJ) rH) rG) rF) rE) rD) rC) qZ) qY) qX) qW) qV) qU) qR) qQ) qP) qO)
set_option maxRecDepth 100000 in
theorem openingFurther_holds:Rows.OpeningFurtherSaid:=
 OpenClaim.holds_of_wide 4 Tryz.f4 rfl rfl rfl rfl rfl rfl rfl ⟨rfl,rfl,rfl,rfl,rfl⟩ rfl rfl rfl rfl rfl uz Tryz.func4 qN
  pK qH
  (fun os started H enc _=>qG os started H enc)
end Go.Proofs.YthfeogjbpgocbaaGreat
end
