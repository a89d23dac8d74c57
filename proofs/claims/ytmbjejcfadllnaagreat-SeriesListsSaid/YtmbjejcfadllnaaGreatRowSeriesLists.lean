/-
  SeriesLists returns true for every input, and each argument reads as it read before.
-/
import Derived.Test.YtmbjejcfadllnaaGreatS4
import Derived.Test.YtmbjejcfadllnaaGreatFactSeriesLists
set_option linter.unusedVariables false
set_option linter.unusedSimpArgs false
set_option linter.unusedSectionVars false
section
namespace Go.Proofs.YtmbjejcfadllnaaGreat
open Go Km Go.ChangeShapes Go.WideShapes Go.ChangeAt Go.RowKit
set_option maxRecDepth 100000 in
theorem oH(os:Os)(started:os.Started)(H:Type)(enc:TypeId × Value→H) :
  ReturnsInHanded {} Tryz.checked os 5 .any (Rows.seriesListsSpec.pre6 enc Tryz.prog Tryz.f5 Rows.seriesListsRow.domain false) (Rows.seriesListsSpec.post enc Tryz.prog Tryz.f5 false true false false):=by
 refine returnsInHanded_of_change (C:=Tryz.checked) (by kernel_rfl) started (by kernel_rfl) Tryz.func5
  (ChangeSpec.witness6 (enc:=enc) (C:=Tryz.checked) false ⟨#[],#[.agg #[.slice none 0 0,.int .u16 0,.int .u16 0,.int .u8 0,.int .u8 0,.slice none 0 0],.agg #[.int .u8 0,.slice none 0 0,.slice none 0 0,.int .u8 0,.int .u8 0,.int .u8 0,.int .u8 0,.int .u8 0,.int .u8 0,.int .u8 0,.int .u8 0,.int .u8 0,.int .u8 0,.bool false],.agg #[.slice none 0 0,.slice none 0 0,.slice none 0 0,.slice none 0 0]],[]⟩ 8 (by kernel_rfl) (by kernel_rfl) (by kernel_rfl) (by kernel_rfl)) ?_
 intro W base args ds gs before apd hW avn _
 exact aaM (σ:=sg) (fi:=xq) (tb:=4) env rfl (by kernel_rfl) (ts:=[26,31,61]) (by kernel_rfl)
  (fun ds h=>by match ds,h with | [d0,d1,d2],_=>rfl) (by kernel_rfl) Tryz.underlying4 (by kernel_rfl) (by kernel_rfl) F_ apd hW
set_option maxRecDepth 100000 in
theorem qE:joinedFacts Tryz.pinned.checked.prog 5 Tryz.f5 Rows.seriesListsSpec Rows.seriesListsRow=true:=by
 unfold joinedFacts
 exact(aM (aM (aM (aM (aM (aM (aM (aM (aM (aM (aM (aM (aM (aM (aM (aM (aM (aM (aM (aM (aM (aM (aM (aM (aM (aM (aM (aM (aM (aM (aM rW rX) rY) rZ) sa) sb) sd) se) sf) (dy (dy (dy eH)))) (ie (dy (dy eH)))) (ie (dy eH))) (ie eH)) qg) qh) qi) qj) qk) qm) qn) qo) qp) qq) qt) qu) qv) qw) qy) qA) qB) qC) qD)
set_option maxRecDepth 100000 in
theorem seriesLists_holds:Rows.SeriesListsSaid:=
 OpenClaim.holds_of_wide 5 Tryz.f5 rfl rfl rfl rfl rfl rfl rfl ⟨rfl,rfl,rfl,rfl,rfl⟩ rfl rfl rfl rfl rfl si Tryz.func5 qE
  nP oG
  (fun os started H enc _=>oH os started H enc)
end Go.Proofs.YtmbjejcfadllnaaGreat
end
