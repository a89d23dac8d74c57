/-
  SeriesMatchesReference returns true for every input, and each argument reads as it read before.
-/
import Derived.Test.YtmbjejcfadllnaaGreatS4
import Derived.Test.YtmbjejcfadllnaaGreatFactSeriesMatchesReference
set_option linter.unusedVariables false
set_option linter.unusedSimpArgs false
set_option linter.unusedSectionVars false
section
namespace Go.Proofs.YtmbjejcfadllnaaGreat
open Go Km Go.ChangeShapes Go.WideShapes Go.ChangeAt Go.RowKit
set_option maxRecDepth 100000 in
theorem iE(os:Os)(started:os.Started)(H:Type)(enc:TypeId × Value→H) :
  ReturnsInHanded {} Tryz.checked os 3 .any (Rows.seriesMatchesReferenceSpec.pre6 enc Tryz.prog Tryz.f3 Rows.seriesMatchesReferenceRow.domain false) (Rows.seriesMatchesReferenceSpec.post enc Tryz.prog Tryz.f3 false true false false):=by
 refine returnsInHanded_of_change (C:=Tryz.checked) (by kernel_rfl) started (by kernel_rfl) Tryz.func3
  (ChangeSpec.witness6 (enc:=enc) (C:=Tryz.checked) false ⟨#[],#[.agg #[.slice none 0 0,.int .u16 0,.int .u16 0,.int .u8 0,.int .u8 0,.slice none 0 0],.agg #[.int .u8 0,.slice none 0 0,.slice none 0 0,.int .u8 0,.int .u8 0,.int .u8 0,.int .u8 0,.int .u8 0,.int .u8 0,.int .u8 0,.int .u8 0,.int .u8 0,.int .u8 0,.bool false],.int .i64 0],[]⟩ 8 (by kernel_rfl) (by kernel_rfl) (by kernel_rfl) (by kernel_rfl)) ?_
 intro W base args ds gs before alX hW art _
 exact XU (σ:=sg) (fi:=0) (tb:=4) env rfl (by kernel_rfl) (ts:=[26,31,3]) (by kernel_rfl)
  (fun ds h=>by match ds,h with | [d0,d1,d2],_=>rfl) (by kernel_rfl) Tryz.underlying4 (by kernel_rfl) (by kernel_rfl) D0 alX hW
set_option maxRecDepth 100000 in
theorem jg:joinedFacts Tryz.pinned.checked.prog 3 Tryz.f3 Rows.seriesMatchesReferenceSpec Rows.seriesMatchesReferenceRow=true:=by
 unfold joinedFacts
 exact(aG (aG (aG (aG (aG (aG (aG (aG (aG (aG (aG (aG (aG (aG (aG (aG (aG (aG (aG (aG (aG (aG (aG (aG (aG (aG (aG (aG (aG (aG (aG jy jz) jA) jB) jC) jD) jE) jF) jG) (bX (bX (bX cN)))) (dF (bX (bX cN)))) (dF (bX cN))) (dF cN)) iN) iO) iP) iQ) iR) iS) iT) iU) iV) iW) iX) iY) iZ) ja) jb) jc) jd) je) jf)
set_option maxRecDepth 100000 in
theorem seriesMatchesReference_holds:Rows.SeriesMatchesReferenceSaid:=
 OpenClaim.holds_of_wide 3 Tryz.f3 rfl rfl rfl rfl rfl rfl rfl ⟨rfl,rfl,rfl,rfl,rfl⟩ rfl rfl rfl rfl rfl jH Tryz.func3 jg
  gR iD
  (fun os started H enc _=>iE os started H enc)
end Go.Proofs.YtmbjejcfadllnaaGreat
end
