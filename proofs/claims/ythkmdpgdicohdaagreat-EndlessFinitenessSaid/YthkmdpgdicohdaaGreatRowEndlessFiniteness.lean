/-
  EndlessFiniteness returns true for every input, and each argument reads as it read before.
-/
import Derived.Test.YthkmdpgdicohdaaGreatS4
import Derived.Test.YthkmdpgdicohdaaGreatFactEndlessFiniteness
set_option linter.unusedVariables false
set_option linter.unusedSimpArgs false
set_option linter.unusedSectionVars false
section
namespace Go.Proofs.YthkmdpgdicohdaaGreat
open Go Km Go.ChangeShapes Go.WideShapes Go.ChangeAt Go.RowKit
set_option maxRecDepth 100000 in
theorem jh(os:Os)(started:os.Started)(H:Type)(enc:TypeId × Value→H) :
  ReturnsInHanded {} Tryz.checked os 5 .any (Rows.endlessFinitenessSpec.pre6 enc Tryz.prog Tryz.f5 Rows.endlessFinitenessRow.domain false) (Rows.endlessFinitenessSpec.post enc Tryz.prog Tryz.f5 false true false false):=by
 refine returnsInHanded_of_change (C:=Tryz.checked) (by kernel_rfl) started (by kernel_rfl) Tryz.func5
  (ChangeSpec.witness6 (enc:=enc) (C:=Tryz.checked) false ⟨#[],#[.agg #[.slice none 0 0,.slice none 0 0,.int .u8 0,.slice none 0 0],.agg #[.slice none 0 0,.slice none 0 0,.int .u8 0,.slice none 0 0],.int .u32 0],[]⟩ 8 (by kernel_rfl) (by kernel_rfl) (by kernel_rfl) (by kernel_rfl)) ?_
 intro W base args ds gs before afW hW aiZ _
 exact RY (σ:=sg) (fi:=5) (tb:=4) env rfl (by kernel_rfl) (ts:=[26,26,55]) (by kernel_rfl)
  (fun ds h=>by match ds,h with | [d0,d1,d2],_=>rfl) (by kernel_rfl) Tryz.underlying4 (by kernel_rfl) (by kernel_rfl) qL afW hW
set_option maxRecDepth 100000 in
theorem jO:joinedFacts Tryz.pinned.checked.prog 5 Tryz.f5 Rows.endlessFinitenessSpec Rows.endlessFinitenessRow=true:=by
 unfold joinedFacts
 exact(aI (aI (aI (aI (aI (aI (aI (aI (aI (aI (aI (aI (aI (aI (aI (aI (aI (aI (aI (aI (aI (aI (aI (aI (aI (aI (aI (aI (aI (aI (aI kz kB) kD) kG) kH) kI) kJ) kK) kL) (cK (cK (cK dC)))) (eO (cK (cK dC)))) (eO (cK dC))) (eO dC)) jv) jw) jx) jy) jz) jA) jB) jC) jD) jE) jF) jG) jH) jI) jJ) jK) jL) jM) jN)
set_option maxRecDepth 100000 in
theorem endlessFiniteness_holds:Rows.EndlessFinitenessSaid:=
 OpenClaim.holds_of_wide 5 Tryz.f5 rfl rfl rfl rfl rfl rfl rfl ⟨rfl,rfl,rfl,rfl,rfl⟩ rfl rfl rfl rfl rfl kM Tryz.func5 jO
  iU jg
  (fun os started H enc _=>jh os started H enc)
end Go.Proofs.YthkmdpgdicohdaaGreat
end
