/-
  SeriesListMatchesReference returns true for every input, and each argument reads as it read before.
-/
import Derived.Test.YtmbjejcfadllnaaGreatS4
import Derived.Test.YtmbjejcfadllnaaGreatFactSeriesListMatchesReference
set_option linter.unusedVariables false
set_option linter.unusedSimpArgs false
set_option linter.unusedSectionVars false
section
namespace Go.Proofs.YtmbjejcfadllnaaGreat
open Go Km Go.ChangeShapes Go.WideShapes Go.ChangeAt Go.RowKit
set_option maxRecDepth 100000 in
theorem gh(os:Os)(started:os.Started)(H:Type)(enc:TypeId × Value→H) :
  ReturnsInHanded {} Tryz.checked os 4 .any (Rows.seriesListMatchesReferenceSpec.pre6 enc Tryz.prog Tryz.f4 Rows.seriesListMatchesReferenceRow.domain false) (Rows.seriesListMatchesReferenceSpec.post enc Tryz.prog Tryz.f4 false true false false):=by
 refine returnsInHanded_of_change (C:=Tryz.checked) (by kernel_rfl) started (by kernel_rfl) Tryz.func4
  (ChangeSpec.witness6 (enc:=enc) (C:=Tryz.checked) false ⟨#[],#[.agg #[.slice none 0 0,.int .u16 0,.int .u16 0,.int .u8 0,.int .u8 0,.slice none 0 0],.agg #[.int .u8 0,.slice none 0 0,.slice none 0 0,.int .u8 0,.int .u8 0,.int .u8 0,.int .u8 0,.int .u8 0,.int .u8 0,.int .u8 0,.int .u8 0,.int .u8 0,.int .u8 0,.bool false],.agg #[.slice none 0 0,.slice none 0 0,.slice none 0 0,.slice none 0 0]],[]⟩ 8 (by kernel_rfl) (by kernel_rfl) (by kernel_rfl) (by kernel_rfl)) ?_
 intro W base args ds gs before aok hW atA _
 exact aaa (σ:=sg) (fi:=0) (tb:=4) env rfl (by kernel_rfl) (ts:=[26,31,61]) (by kernel_rfl)
  (fun ds h=>by match ds,h with | [d0,d1,d2],_=>rfl) (by kernel_rfl) Tryz.underlying4 (by kernel_rfl) (by kernel_rfl) uE aok hW
set_option maxRecDepth 100000 in
theorem hV:joinedFacts Tryz.pinned.checked.prog 4 Tryz.f4 Rows.seriesListMatchesReferenceSpec Rows.seriesListMatchesReferenceRow=true:=by
 unfold joinedFacts
 exact(aD (aD (aD (aD (aD (aD (aD (aD (aD (aD (aD (aD (aD (aD (aD (aD (aD (aD (aD (aD (aD (aD (aD (aD (aD (aD (aD (aD (aD (aD (aD ig ij) ik) im) iq) ir) iu) iw) iy) (bP (bP (bP cJ)))) (dc (bP (bP cJ)))) (dc (bP cJ))) (dc cJ)) gH) gI) gJ) gK) gL) gM) gN) gO) gP) gQ) gR) gS) gT) gU) gV) gW) gX) gY) gZ)
set_option maxRecDepth 100000 in
theorem seriesListMatchesReference_holds:Rows.SeriesListMatchesReferenceSaid:=
 OpenClaim.holds_of_wide 4 Tryz.f4 rfl rfl rfl rfl rfl rfl rfl ⟨rfl,rfl,rfl,rfl,rfl⟩ rfl rfl rfl rfl rfl iC Tryz.func4 hV
  fU gd
  (fun os started H enc _=>gh os started H enc)
end Go.Proofs.YtmbjejcfadllnaaGreat
end
