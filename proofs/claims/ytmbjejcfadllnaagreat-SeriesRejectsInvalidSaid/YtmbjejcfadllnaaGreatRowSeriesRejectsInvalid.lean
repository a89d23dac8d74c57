/-
  SeriesRejectsInvalid returns true for every input, and each argument reads as it read before.
-/
import Derived.Test.YtmbjejcfadllnaaGreatS2
import Derived.Test.YtmbjejcfadllnaaGreatFactSeriesRejectsInvalid
set_option linter.unusedVariables false
set_option linter.unusedSimpArgs false
set_option linter.unusedSectionVars false
section
namespace Go.Proofs.YtmbjejcfadllnaaGreat
open Go Km Go.ChangeShapes Go.WideShapes Go.ChangeAt Go.RowKit
set_option maxRecDepth 100000 in
theorem kK(os:Os)(started:os.Started)(H:Type)(enc:TypeId × Value→H) :
  ReturnsInHanded {} Tryz.checked os 8 .any (Rows.seriesRejectsInvalidSpec.pre6 enc Tryz.prog Tryz.f8 Rows.seriesRejectsInvalidRow.domain false) (Rows.seriesRejectsInvalidSpec.post enc Tryz.prog Tryz.f8 false true false false):=by
 refine returnsInHanded_of_change (C:=Tryz.checked) (by kernel_rfl) started (by kernel_rfl) Tryz.func8
  (ChangeSpec.witness6 (enc:=enc) (C:=Tryz.checked) false ⟨#[],#[.agg #[.slice none 0 0,.int .u16 0,.int .u16 0,.int .u8 0,.int .u8 0,.slice none 0 0],.agg #[.int .u8 0,.slice none 0 0,.slice none 0 0,.int .u8 0,.int .u8 0,.int .u8 0,.int .u8 0,.int .u8 0,.int .u8 0,.int .u8 0,.int .u8 0,.int .u8 0,.int .u8 0,.bool false],.int .u8 0],[]⟩ 8 (by kernel_rfl) (by kernel_rfl) (by kernel_rfl) (by kernel_rfl)) ?_
 intro W base args ds gs before hval0 hW hcnd _
 exact V4 (σ:=sg) (fi:=vZ) (tb:=4) env rfl (by kernel_rfl) (ts:=[26,31,5]) (by kernel_rfl)
  (fun ds h=>by match ds,h with | [d0,d1,d2],_=>rfl) (by kernel_rfl) Tryz.underlying4 (by kernel_rfl) (by kernel_rfl) Ep hval0 hW
set_option maxRecDepth 100000 in
theorem kY:joinedFacts Tryz.pinned.checked.prog 8 Tryz.f8 Rows.seriesRejectsInvalidSpec Rows.seriesRejectsInvalidRow=true:=by
 unfold joinedFacts
 exact(aA (aA (aA (aA (aA (aA (aA (aA (aA (aA (aA (aA (aA (aA (aA (aA (aA (aA (aA (aA (aA (aA (aA (aA (aA (aA (aA (aA (aA (aA (aA ny ni) mZ) mY) mX) mW) mQ) mP) mM) (bY (bY (bY dQ)))) (fM (bY (bY dQ)))) (fM (bY dQ))) (fM dQ)) lW) lV) lU) lT) lS) lQ) lN) lM) lK) lJ) lI) lH) lG) lF) lD) lC) lu) lq) kZ)
set_option maxRecDepth 100000 in
theorem seriesRejectsInvalid_holds:Rows.SeriesRejectsInvalidSaid:=
 OpenClaim.holds_of_wide 8 Tryz.f8 rfl rfl rfl rfl rfl rfl rfl ⟨rfl,rfl,rfl,rfl,rfl⟩ rfl rfl rfl rfl rfl mJ Tryz.func8 kY
  kC kL
  (fun os started H enc _=>kK os started H enc)
end Go.Proofs.YtmbjejcfadllnaaGreat
end
