/-
  HoldFinal returns true for every input, and each argument reads as it read before.
-/
import Derived.Test.YtnaofdffomdmhaaGreatS4
import Derived.Test.YtnaofdffomdmhaaGreatFactHoldFinal
set_option linter.unusedVariables false
set_option linter.unusedSimpArgs false
set_option linter.unusedSectionVars false
section
namespace Go.Proofs.YtnaofdffomdmhaaGreat
open Go Km Go.ChangeShapes Go.WideShapes Go.ChangeAt Go.RowKit
set_option maxRecDepth 100000 in
theorem qI(os:Os)(started:os.Started)(H:Type)(enc:TypeId × Value→H) :
  ReturnsInHanded {} Tryz.checked os 5 .any (Rows.holdFinalSpec.pre6 enc Tryz.prog Tryz.f5 Rows.holdFinalRow.domain false) (Rows.holdFinalSpec.post enc Tryz.prog Tryz.f5 false true false false):=by
 refine returnsInHanded_of_change (C:=Tryz.checked) (by kernel_rfl) started (by kernel_rfl) Tryz.func5
  (ChangeSpec.witness6 (enc:=enc) (C:=Tryz.checked) false ⟨#[],#[.agg #[.int .u8 0,.int .u16 0,.slice none 0 0,.slice none 0 0],.agg #[.int .u8 0,.int .u8 0,.int .u8 0,.int .u8 0,.int .u8 0,.int .u8 0,.int .u8 0,.int .u8 0,.int .u8 0,.int .u8 0,.int .u8 0]],[]⟩ 8 (by kernel_rfl) (by kernel_rfl) (by kernel_rfl) (by kernel_rfl)) ?_
 intro W base args ds gs before aaH hW aqZ _
 exact Bt (σ:=sg) (fi:=5) (tb:=4) env rfl (by kernel_rfl) (ts:=[26,30]) (by kernel_rfl)
  (fun ds h=>by match ds,h with | [d0,d1],_=>rfl) (by kernel_rfl) Tryz.underlying4 (by kernel_rfl) (by kernel_rfl) Di aaH hW
set_option maxRecDepth 100000 in
theorem sq:joinedFacts Tryz.pinned.checked.prog 5 Tryz.f5 Rows.holdFinalSpec Rows.holdFinalRow=true:=by
 unfold joinedFacts
 exact(aV (aV (aV (aV (aV (aV (aV (aV (aV (aV (aV (aV (aV (aV (aV (aV (aV (aV (aV (aV (aV (aV (aV (aV (aV (aV (aV (aV (aV (aV (aV uF uG) uH) uI) uJ) uK) uL) uM) uN) (eY (eY (eY gE)))) (jV (eY (eY gE)))) (jV (eY gE))) (jV gE)) rO) rP) rQ) rR) rS) rT) rU) rV) rW) rX) rY) rZ) sa) sb) se) sf) si) sj) sk)
set_option maxRecDepth 100000 in
theorem holdFinal_holds:Rows.HoldFinalSaid:=
 OpenClaim.holds_of_wide 5 Tryz.f5 rfl rfl rfl rfl rfl rfl rfl ⟨rfl,rfl,rfl,rfl,rfl⟩ rfl rfl rfl rfl rfl uO Tryz.func5 sq
  pe qH
  (fun os started H enc _=>qI os started H enc)
end Go.Proofs.YtnaofdffomdmhaaGreat
end
