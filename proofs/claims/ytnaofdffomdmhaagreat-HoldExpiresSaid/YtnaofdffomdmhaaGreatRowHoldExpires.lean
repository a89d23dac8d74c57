/-
  HoldExpires returns true for every input, and each argument reads as it read before.
-/
import Derived.Test.YtnaofdffomdmhaaGreatS4
import Derived.Test.YtnaofdffomdmhaaGreatFactHoldExpires
set_option linter.unusedVariables false
set_option linter.unusedSimpArgs false
set_option linter.unusedSectionVars false
section
namespace Go.Proofs.YtnaofdffomdmhaaGreat
open Go Km Go.ChangeShapes Go.WideShapes Go.ChangeAt Go.RowKit
set_option maxRecDepth 100000 in
theorem nu(os:Os)(started:os.Started)(H:Type)(enc:TypeId × Value→H) :
  ReturnsInHanded {} Tryz.checked os 4 .any (Rows.holdExpiresSpec.pre6 enc Tryz.prog Tryz.f4 Rows.holdExpiresRow.domain false) (Rows.holdExpiresSpec.post enc Tryz.prog Tryz.f4 false true false false):=by
 refine returnsInHanded_of_change (C:=Tryz.checked) (by kernel_rfl) started (by kernel_rfl) Tryz.func4
  (ChangeSpec.witness6 (enc:=enc) (C:=Tryz.checked) false ⟨#[],#[.agg #[.int .u8 0,.int .u16 0,.slice none 0 0,.slice none 0 0],.int .u8 0,.int .u8 0],[]⟩ 8 (by kernel_rfl) (by kernel_rfl) (by kernel_rfl) (by kernel_rfl)) ?_
 intro W base args ds gs before anj hW aqi _
 exact Zf (σ:=sg) (fi:=4) (tb:=4) env rfl (by kernel_rfl) (ts:=[26,5,5]) (by kernel_rfl)
  (fun ds h=>by match ds,h with | [d0,d1,d2],_=>rfl) (by kernel_rfl) Tryz.underlying4 (by kernel_rfl) (by kernel_rfl) xA anj hW
set_option maxRecDepth 100000 in
theorem oN:joinedFacts Tryz.pinned.checked.prog 4 Tryz.f4 Rows.holdExpiresSpec Rows.holdExpiresRow=true:=by
 unfold joinedFacts
 exact(aS (aS (aS (aS (aS (aS (aS (aS (aS (aS (aS (aS (aS (aS (aS (aS (aS (aS (aS (aS (aS (aS (aS (aS (aS (aS (aS (aS (aS (aS (aS qi qj) qn) qo) qp) qt) qv) qw) qx) (dO (dO (dO e7)))) (ie (dO (dO e7)))) (ie (dO e7))) (ie e7)) oq) ot) ou) ov) oy) oz) oA) oB) oC) oD) oE) oF) oG) oH) oI) oJ) oK) oL) oM)
set_option maxRecDepth 100000 in
theorem holdExpires_holds:Rows.HoldExpiresSaid:=
 OpenClaim.holds_of_wide 4 Tryz.f4 rfl rfl rfl rfl rfl rfl rfl ⟨rfl,rfl,rfl,rfl,rfl⟩ rfl rfl rfl rfl rfl qy Tryz.func4 oN
  mJ ns
  (fun os started H enc _=>nu os started H enc)
end Go.Proofs.YtnaofdffomdmhaaGreat
end
