/-
  OpeningCloses returns true for every input, and each argument reads as it read before.
-/
import Derived.Test.YthfeogjbpgocbaaGreatS2
import Derived.Test.YthfeogjbpgocbaaGreatFactOpeningCloses
set_option linter.unusedVariables false
set_option linter.unusedSimpArgs false
set_option linter.unusedSectionVars false
section
namespace Go.Proofs.YthfeogjbpgocbaaGreat
open Go Km Go.ChangeShapes Go.WideShapes Go.ChangeAt Go.RowKit
set_option maxRecDepth 100000 in
theorem qI(os:Os)(started:os.Started)(H:Type)(enc:TypeId × Value→H) :
  ReturnsInHanded {} Tryz.checked os 3 .any (Rows.openingClosesSpec.pre6 enc Tryz.prog Tryz.f3 Rows.openingClosesRow.domain false) (Rows.openingClosesSpec.post enc Tryz.prog Tryz.f3 false true false false):=by
 refine returnsInHanded_of_change (C:=Tryz.checked) (by kernel_rfl) started (by kernel_rfl) Tryz.func3
  (ChangeSpec.witness6 (enc:=enc) (C:=Tryz.checked) false ⟨#[],#[.agg #[.int .u8 0,.slice none 0 0,.slice none 0 0,.int .u8 0,.int .u8 0,.int .u8 0,.int .u8 0,.int .u8 0,.int .u8 0,.int .u8 0,.int .u8 0,.int .u8 0,.int .u8 0,.bool false,.slice none 0 0,.slice none 0 0],.agg #[.int .i64 0,.int .i64 0],.int .i64 0],[]⟩ 8 (by kernel_rfl) (by kernel_rfl) (by kernel_rfl) (by kernel_rfl)) ?_
 intro W base args ds gs before hval0 hW hcnd _
 exact akc (σ:=sg) (fi:=Lj) (tb:=4) env rfl (by kernel_rfl) (ts:=[29,30,3]) (by kernel_rfl)
  (fun ds h=>by match ds,h with | [d0,d1,d2],_=>rfl) (by kernel_rfl) Tryz.underlying4 (by kernel_rfl) (by kernel_rfl) KF hval0 hW
set_option maxRecDepth 100000 in
theorem sN:joinedFacts Tryz.pinned.checked.prog 3 Tryz.f3 Rows.openingClosesSpec Rows.openingClosesRow=true:=by
 unfold joinedFacts
 exact(aQ (aQ (aQ (aQ (aQ (aQ (aQ (aQ (aQ (aQ (aQ (aQ (aQ (aQ (aQ (aQ (aQ (aQ (aQ (aQ (aQ (aQ (aQ (aQ (aQ (aQ (aQ (aQ (aQ (aQ (aQ vk vg) uZ) uY) uX) uV) uU) uT) uS) (eF (eF (eF iq)))) (jP (eF (eF iq)))) (jP (eF iq))) (jP iq)) uf) tZ) tY) tX) tV) tN) tK) tJ) tH) tC) tu) tq) sZ) sW) sV) sU) sS) sQ) sO)
set_option maxRecDepth 100000 in
theorem openingCloses_holds:Rows.OpeningClosesSaid:=
 OpenClaim.holds_of_wide 3 Tryz.f3 rfl rfl rfl rfl rfl rfl rfl ⟨rfl,rfl,rfl,rfl,rfl⟩ rfl rfl rfl rfl rfl uQ Tryz.func3 sN
  qB qJ
  (fun os started H enc _=>qI os started H enc)
end Go.Proofs.YthfeogjbpgocbaaGreat
end
