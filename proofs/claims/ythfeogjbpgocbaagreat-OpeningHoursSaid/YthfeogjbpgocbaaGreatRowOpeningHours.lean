/-
  OpeningHours returns true for every input, and each argument reads as it read before.
-/
import Derived.Test.YthfeogjbpgocbaaGreatS2
import Derived.Test.YthfeogjbpgocbaaGreatFactOpeningHours
set_option linter.unusedVariables false
set_option linter.unusedSimpArgs false
set_option linter.unusedSectionVars false
section
namespace Go.Proofs.YthfeogjbpgocbaaGreat
open Go Km Go.ChangeShapes Go.WideShapes Go.ChangeAt Go.RowKit
set_option maxRecDepth 100000 in
theorem sO(os:Os)(started:os.Started)(H:Type)(enc:TypeId × Value→H) :
  ReturnsInHanded {} Tryz.checked os 5 .any (Rows.openingHoursSpec.pre6 enc Tryz.prog Tryz.f5 Rows.openingHoursRow.domain false) (Rows.openingHoursSpec.post enc Tryz.prog Tryz.f5 false true false false):=by
 refine returnsInHanded_of_change (C:=Tryz.checked) (by kernel_rfl) started (by kernel_rfl) Tryz.func5
  (ChangeSpec.witness6 (enc:=enc) (C:=Tryz.checked) false ⟨#[],#[.agg #[.int .u8 0,.slice none 0 0,.slice none 0 0,.int .u8 0,.int .u8 0,.int .u8 0,.int .u8 0,.int .u8 0,.int .u8 0,.int .u8 0,.int .u8 0,.int .u8 0,.int .u8 0,.bool false,.slice none 0 0,.slice none 0 0],.int .i64 0,.int .i64 0],[]⟩ 8 (by kernel_rfl) (by kernel_rfl) (by kernel_rfl) (by kernel_rfl)) ?_
 intro W base args ds gs before hval0 hW hcnd _
 exact akp (σ:=sg) (fi:=Dl) (tb:=4) env rfl (by kernel_rfl) (ts:=[29,3,3]) (by kernel_rfl)
  (fun ds h=>by match ds,h with | [d0,d1,d2],_=>rfl) (by kernel_rfl) Tryz.underlying4 (by kernel_rfl) (by kernel_rfl) NW hval0 hW
set_option maxRecDepth 100000 in
theorem uh:joinedFacts Tryz.pinned.checked.prog 5 Tryz.f5 Rows.openingHoursSpec Rows.openingHoursRow=true:=by
 unfold joinedFacts
 exact(aS (aS (aS (aS (aS (aS (aS (aS (aS (aS (aS (aS (aS (aS (aS (aS (aS (aS (aS (aS (aS (aS (aS (aS (aS (aS (aS (aS (aS (aS (aS wH wG) wF) wE) wC) wB) wz) wu) vZ) (fE (fE (fE iH)))) (kK (fE (fE iH)))) (kK (fE iH))) (kK iH)) uT) uS) uQ) uP) uO) uN) uM) uK) uJ) uI) uH) uG) uF) uD) uz) uw) uq) uo) uj)
set_option maxRecDepth 100000 in
theorem openingHours_holds:Rows.OpeningHoursSaid:=
 OpenClaim.holds_of_wide 5 Tryz.f5 rfl rfl rfl rfl rfl rfl rfl ⟨rfl,rfl,rfl,rfl,rfl⟩ rfl rfl rfl rfl rfl vY Tryz.func5 uh
  qJ sQ
  (fun os started H enc _=>sO os started H enc)
end Go.Proofs.YthfeogjbpgocbaaGreat
end
