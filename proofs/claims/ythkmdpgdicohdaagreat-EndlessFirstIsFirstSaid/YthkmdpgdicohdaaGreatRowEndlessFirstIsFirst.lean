/-
  EndlessFirstIsFirst returns true for every input, and each argument reads as it read before.
-/
import Derived.Test.YthkmdpgdicohdaaGreatS4
import Derived.Test.YthkmdpgdicohdaaGreatFactEndlessFirstIsFirst
set_option linter.unusedVariables false
set_option linter.unusedSimpArgs false
set_option linter.unusedSectionVars false
section
namespace Go.Proofs.YthkmdpgdicohdaaGreat
open Go Km Go.ChangeShapes Go.WideShapes Go.ChangeAt Go.RowKit
set_option maxRecDepth 100000 in
theorem iZ(os:Os)(started:os.Started)(H:Type)(enc:TypeId × Value→H) :
  ReturnsInHanded {} Tryz.checked os 3 .any (Rows.endlessFirstIsFirstSpec.pre6 enc Tryz.prog Tryz.f3 Rows.endlessFirstIsFirstRow.domain false) (Rows.endlessFirstIsFirstSpec.post enc Tryz.prog Tryz.f3 false true false false):=by
 refine returnsInHanded_of_change (C:=Tryz.checked) (by kernel_rfl) started (by kernel_rfl) Tryz.func3
  (ChangeSpec.witness6 (enc:=enc) (C:=Tryz.checked) false ⟨#[],#[.agg #[.slice none 0 0,.slice none 0 0,.int .u8 0,.slice none 0 0],.agg #[.slice none 0 0,.slice none 0 0,.int .u8 0,.slice none 0 0],.int .u16 0],[]⟩ 8 (by kernel_rfl) (by kernel_rfl) (by kernel_rfl) (by kernel_rfl)) ?_
 intro W base args ds gs before aic hW alb _
 exact Uv (σ:=sg) (fi:=3) (tb:=4) env rfl (by kernel_rfl) (ts:=[26,26,27]) (by kernel_rfl)
  (fun ds h=>by match ds,h with | [d0,d1,d2],_=>rfl) (by kernel_rfl) Tryz.underlying4 (by kernel_rfl) (by kernel_rfl) AO aic hW
set_option maxRecDepth 100000 in
theorem jC:joinedFacts Tryz.pinned.checked.prog 3 Tryz.f3 Rows.endlessFirstIsFirstSpec Rows.endlessFirstIsFirstRow=true:=by
 unfold joinedFacts
 exact(aJ (aJ (aJ (aJ (aJ (aJ (aJ (aJ (aJ (aJ (aJ (aJ (aJ (aJ (aJ (aJ (aJ (aJ (aJ (aJ (aJ (aJ (aJ (aJ (aJ (aJ (aJ (aJ (aJ (aJ (aJ jS jT) jU) jV) jW) jX) jY) jZ) ke) (cG (cG (cG dy)))) (ez (cG (cG dy)))) (ez (cG dy))) (ez dy)) jf) jg) jh) ji) jj) jm) jo) jq) jr) js) jt) ju) jv) jw) jx) jy) jz) jA) jB)
set_option maxRecDepth 100000 in
theorem endlessFirstIsFirst_holds:Rows.EndlessFirstIsFirstSaid:=
 OpenClaim.holds_of_wide 3 Tryz.f3 rfl rfl rfl rfl rfl rfl rfl ⟨rfl,rfl,rfl,rfl,rfl⟩ rfl rfl rfl rfl rfl kg Tryz.func3 jC
  iB iY
  (fun os started H enc _=>iZ os started H enc)
end Go.Proofs.YthkmdpgdicohdaaGreat
end
