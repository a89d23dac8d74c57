/-
  SeriesMoves returns true for every input, and each argument reads as it read before.
-/
import Derived.Test.YtmbjejcfadllnaaGreatS3
import Derived.Test.YtmbjejcfadllnaaGreatFactSeriesMoves
set_option linter.unusedVariables false
set_option linter.unusedSimpArgs false
set_option linter.unusedSectionVars false
section
namespace Go.Proofs.YtmbjejcfadllnaaGreat
open Go Km Go.ChangeShapes Go.WideShapes Go.ChangeAt Go.RowKit
set_option maxRecDepth 100000 in
theorem nM(os:Os)(started:os.Started)(H:Type)(enc:TypeId × Value→H) :
  ReturnsInHanded {} Tryz.checked os 6 .any (Rows.seriesMovesSpec.pre6 enc Tryz.prog Tryz.f6 Rows.seriesMovesRow.domain false) (Rows.seriesMovesSpec.post enc Tryz.prog Tryz.f6 false true false false):=by
 refine returnsInHanded_of_change (C:=Tryz.checked) (by kernel_rfl) started (by kernel_rfl) Tryz.func6
  (ChangeSpec.witness6 (enc:=enc) (C:=Tryz.checked) false ⟨#[],#[.agg #[.slice none 0 0,.int .u16 0,.int .u16 0,.int .u8 0,.int .u8 0,.slice none 0 0],.agg #[.int .u8 0,.slice none 0 0,.slice none 0 0,.int .u8 0,.int .u8 0,.int .u8 0,.int .u8 0,.int .u8 0,.int .u8 0,.int .u8 0,.int .u8 0,.int .u8 0,.int .u8 0,.bool false],.agg #[.int .u8 0,.int .u8 0,.int .u8 0,.int .u8 0,.int .u8 0,.int .u8 0,.int .u8 0,.int .u8 0,.int .u8 0,.int .u8 0,.int .u8 0,.int .u8 0,.int .u8 0,.int .u8 0,.int .u8 0]],[]⟩ 8 (by kernel_rfl) (by kernel_rfl) (by kernel_rfl) (by kernel_rfl)) ?_
 intro W base args ds gs before ai5 hW apj _
 exact VD (σ:=sg) (fi:=0) (tb:=4) env rfl (by kernel_rfl) (ts:=[26,31,78]) (by kernel_rfl)
  (fun ds h=>by match ds,h with | [d0,d1,d2],_=>rfl) (by kernel_rfl) Tryz.underlying4 (by kernel_rfl) (by kernel_rfl) D0 ai5 hW
set_option maxRecDepth 100000 in
theorem pJ:joinedFacts Tryz.pinned.checked.prog 6 Tryz.f6 Rows.seriesMovesSpec Rows.seriesMovesRow=true:=by
 unfold joinedFacts
 exact(aS (aS (aS (aS (aS (aS (aS (aS (aS (aS (aS (aS (aS (aS (aS (aS (aS (aS (aS (aS (aS (aS (aS (aS (aS (aS (aS (aS (aS (aS (aS qH qI) qJ) qK) qL) qM) qN) qO) qP) (dF (dF (dF eV)))) (hZ (dF (dF eV)))) (hZ (dF eV))) (hZ eV)) oZ) pb) pe) pg) ph) pj) pk) pn) po) px) py) pz) pC) pD) pE) pF) pG) pH) pI)
set_option maxRecDepth 100000 in
theorem seriesMoves_holds:Rows.SeriesMovesSaid:=
 OpenClaim.holds_of_wide 6 Tryz.f6 rfl rfl rfl rfl rfl rfl rfl ⟨rfl,rfl,rfl,rfl,rfl⟩ rfl rfl rfl rfl rfl qQ Tryz.func6 pJ
  nh nL
  (fun os started H enc _=>nM os started H enc)
end Go.Proofs.YtmbjejcfadllnaaGreat
end
