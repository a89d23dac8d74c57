/-
  EndlessMeeting returns true for every input, and each argument reads as it read before.
-/
import Derived.Test.YthkmdpgdicohdaaGreatS4
import Derived.Test.YthkmdpgdicohdaaGreatFactEndlessMeeting
set_option linter.unusedVariables false
set_option linter.unusedSimpArgs false
set_option linter.unusedSectionVars false
section
namespace Go.Proofs.YthkmdpgdicohdaaGreat
open Go Km Go.ChangeShapes Go.WideShapes Go.ChangeAt Go.RowKit
set_option maxRecDepth 100000 in
theorem lW(os:Os)(started:os.Started)(H:Type)(enc:TypeId × Value→H) :
  ReturnsInHanded {} Tryz.checked os 4 .any (Rows.endlessMeetingSpec.pre6 enc Tryz.prog Tryz.f4 Rows.endlessMeetingRow.domain false) (Rows.endlessMeetingSpec.post enc Tryz.prog Tryz.f4 false true false false):=by
 refine returnsInHanded_of_change (C:=Tryz.checked) (by kernel_rfl) started (by kernel_rfl) Tryz.func4
  (ChangeSpec.witness6 (enc:=enc) (C:=Tryz.checked) false ⟨#[],#[.agg #[.slice none 0 0,.slice none 0 0,.int .u8 0,.slice none 0 0],.agg #[.slice none 0 0,.slice none 0 0,.int .u8 0,.slice none 0 0],.int .u16 0],[]⟩ 8 (by kernel_rfl) (by kernel_rfl) (by kernel_rfl) (by kernel_rfl)) ?_
 intro W base args ds gs before aj_ hW ana _
 exact VS (σ:=sg) (fi:=4) (tb:=4) env rfl (by kernel_rfl) (ts:=[26,26,27]) (by kernel_rfl)
  (fun ds h=>by match ds,h with | [d0,d1,d2],_=>rfl) (by kernel_rfl) Tryz.underlying4 (by kernel_rfl) (by kernel_rfl) yh aj_ hW
set_option maxRecDepth 100000 in
theorem mN:joinedFacts Tryz.pinned.checked.prog 4 Tryz.f4 Rows.endlessMeetingSpec Rows.endlessMeetingRow=true:=by
 unfold joinedFacts
 exact(aO (aO (aO (aO (aO (aO (aO (aO (aO (aO (aO (aO (aO (aO (aO (aO (aO (aO (aO (aO (aO (aO (aO (aO (aO (aO (aO (aO (aO (aO (aO nX nY) nZ) oa) ob) oc) od) oe) og) (dx (dx (dx eB)))) (gi (dx (dx eB)))) (gi (dx eB))) (gi eB)) mo) mq) mr) mu) mv) mw) my) mz) mB) mC) mD) mE) mF) mG) mH) mI) mJ) mL) mM)
set_option maxRecDepth 100000 in
theorem endlessMeeting_holds:Rows.EndlessMeetingSaid:=
 OpenClaim.holds_of_wide 4 Tryz.f4 rfl rfl rfl rfl rfl rfl rfl ⟨rfl,rfl,rfl,rfl,rfl⟩ rfl rfl rfl rfl rfl oh Tryz.func4 mN
  kJ lV
  (fun os started H enc _=>lW os started H enc)
end Go.Proofs.YthkmdpgdicohdaaGreat
end
