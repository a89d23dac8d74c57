/-
  OpeningLocal returns true for every input, and each argument reads as it read before.
-/
import Derived.Test.YthfeogjbpgocbaaGreatS2
import Derived.Test.YthfeogjbpgocbaaGreatFactOpeningLocal
set_option linter.unusedVariables false
set_option linter.unusedSimpArgs false
set_option linter.unusedSectionVars false
section
namespace Go.Proofs.YthfeogjbpgocbaaGreat
open Go Km Go.ChangeShapes Go.WideShapes Go.ChangeAt Go.RowKit
set_option maxRecDepth 100000 in
theorem rQ(os:Os)(started:os.Started)(H:Type)(enc:TypeId × Value→H) :
  ReturnsInHanded {} Tryz.checked os 6 .any (Rows.openingLocalSpec.pre6 enc Tryz.prog Tryz.f6 Rows.openingLocalRow.domain false) (Rows.openingLocalSpec.post enc Tryz.prog Tryz.f6 false true false false):=by
 refine returnsInHanded_of_change (C:=Tryz.checked) (by kernel_rfl) started (by kernel_rfl) Tryz.func6
  (ChangeSpec.witness6 (enc:=enc) (C:=Tryz.checked) false ⟨#[],#[.agg #[.int .u8 0,.slice none 0 0,.slice none 0 0,.int .u8 0,.int .u8 0,.int .u8 0,.int .u8 0,.int .u8 0,.int .u8 0,.int .u8 0,.int .u8 0,.int .u8 0,.int .u8 0,.bool false,.slice none 0 0,.slice none 0 0],.int .i64 0,.int .i64 0],[]⟩ 8 (by kernel_rfl) (by kernel_rfl) (by kernel_rfl) (by kernel_rfl)) ?_
 intro W base args ds gs before hval0 hW hcnd _
 exact ajd (σ:=sg) (fi:=QG) (tb:=4) env rfl (by kernel_rfl) (ts:=[29,3,3]) (by kernel_rfl)
  (fun ds h=>by match ds,h with | [d0,d1,d2],_=>rfl) (by kernel_rfl) Tryz.underlying4 (by kernel_rfl) (by kernel_rfl) LY hval0 hW
set_option maxRecDepth 100000 in
theorem sV:joinedFacts Tryz.pinned.checked.prog 6 Tryz.f6 Rows.openingLocalSpec Rows.openingLocalRow=true:=by
 unfold joinedFacts
 exact(aS (aS (aS (aS (aS (aS (aS (aS (aS (aS (aS (aS (aS (aS (aS (aS (aS (aS (aS (aS (aS (aS (aS (aS (aS (aS (aS (aS (aS (aS (aS vI vH) vG) vF) vC) vw) vk) vg) uZ) (eG (eG (eG ig)))) (jT (eG (eG ig)))) (jT (eG ig))) (jT ig)) uq) uo) uj) uh) ug) uf) tZ) tY) tX) tV) tN) tK) tJ) tH) tC) tu) tq) sZ) sW)
set_option maxRecDepth 100000 in
theorem openingLocal_holds:Rows.OpeningLocalSaid:=
 OpenClaim.holds_of_wide 6 Tryz.f6 rfl rfl rfl rfl rfl rfl rfl ⟨rfl,rfl,rfl,rfl,rfl⟩ rfl rfl rfl rfl rfl uY Tryz.func6 sV
  qm rU
  (fun os started H enc _=>rQ os started H enc)
end Go.Proofs.YthfeogjbpgocbaaGreat
end
