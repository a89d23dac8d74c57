/-
  mB returns true for every input, and each argument reads as it read before.
-/
import Derived.Test.YtnaofdffomdmhaaGreatS5
import Derived.Test.YtnaofdffomdmhaaGreatFactHoldGrantsMatchReference
set_option linter.unusedVariables false
set_option linter.unusedSimpArgs false
set_option linter.unusedSectionVars false
section
namespace Go.Proofs.YtnaofdffomdmhaaGreat
open Go Km Go.ChangeShapes Go.WideShapes Go.ChangeAt Go.RowKit
set_option maxRecDepth 100000 in
theorem iO(os:Os)(started:os.Started)(H:Type)(enc:TypeId × Value->H) :
  ReturnsInHanded {} Tryz.checked os 3 .any (Rows.holdGrantsMatchReferenceSpec.pre6 enc Tryz.prog Tryz.f3 Rows.holdGrantsMatchReferenceRow.domain false) (Rows.holdGrantsMatchReferenceSpec.post enc Tryz.prog Tryz.f3 false true false false):=by
 refine returnsInHanded_of_change (C:=Tryz.checked) (by kernel_rfl) started (by kernel_rfl) Tryz.func3
  (ChangeSpec.witness6 (enc:=enc) (C:=Tryz.checked) false ⟨#[],#[.agg #[.int .u8 0,.int .u16 0,.slice none 0 0,.slice none 0 0],.agg #[.int .u8 0,.int .u8 0,.int .u8 0,.int .u8 0,.int .u8 0,.int .u8 0,.int .u8 0,.int .u8 0,.int .u8 0,.int .u8 0,.int .u8 0]],[]⟩ 8 (by kernel_rfl) (by kernel_rfl) (by kernel_rfl) (by kernel_rfl)) ?_
 intro W base args ds gs before aaY hW afl _
 exact N_ (σ:=sg) (fi:=MQ) (tb:=4) env rfl (by kernel_rfl) (ts:=[26,30]) (by kernel_rfl)
  (λds h=>by match ds,h with|[d0,d1],_=>rfl) (by kernel_rfl) Tryz.underlying4 (by kernel_rfl) (by kernel_rfl) B' aaY hW
set_option maxRecDepth 100000 in
theorem jt:joinedFacts Tryz.pinned.checked.prog 3 Tryz.f3 Rows.holdGrantsMatchReferenceSpec Rows.holdGrantsMatchReferenceRow=true:=by
 unfold joinedFacts
 exact(aJ (aJ (aJ (aJ (aJ (aJ (aJ (aJ (aJ (aJ (aJ (aJ (aJ (aJ (aJ (aJ (aJ (aJ (aJ (aJ (aJ (aJ (aJ (aJ (aJ (aJ (aJ (aJ (aJ (aJ (aJ jO jP) jQ) jR) jS) jT) jU) jV) jW) (cq (cq (cq cV)))) (dK (cq (cq cV)))) (dK (cq cV))) (dK cV)) iZ) i') ja) jb) jc) jd) je) jf) jg) jh) ji) jj) jk) jm) jn) jo) jq) jr) js)
set_option maxRecDepth 100000 in
theorem holdGrantsMatchReference_holds:Rows.HoldGrantsMatchReferenceSaid:=
 OpenClaim.holds_of_wide 3 Tryz.f3 rfl rfl rfl rfl rfl rfl rfl ⟨rfl,rfl,rfl,rfl,rfl⟩ rfl rfl rfl rfl rfl jX Tryz.func3 jt
  iF iN
  (λos started H enc _=>iO os started H enc)
end Go.Proofs.YtnaofdffomdmhaaGreat
end
