/-
  HoldRefusals returns true for every input, and each argument reads as it read before.
-/
import Derived.Test.YtnaofdffomdmhaaGreatS4
import Derived.Test.YtnaofdffomdmhaaGreatFactHoldRefusals
set_option linter.unusedVariables false
set_option linter.unusedSimpArgs false
set_option linter.unusedSectionVars false
section
namespace Go.Proofs.YtnaofdffomdmhaaGreat
open Go Km Go.ChangeShapes Go.WideShapes Go.ChangeAt Go.RowKit
set_option maxRecDepth 100000 in
theorem oq(os:Os)(started:os.Started)(H:Type)(enc:TypeId × Value→H) :
  ReturnsInHanded {} Tryz.checked os 9 .any (Rows.holdRefusalsSpec.pre6 enc Tryz.prog Tryz.f9 Rows.holdRefusalsRow.domain false) (Rows.holdRefusalsSpec.post enc Tryz.prog Tryz.f9 false true false false):=by
 refine returnsInHanded_of_change (C:=Tryz.checked) (by kernel_rfl) started (by kernel_rfl) Tryz.func9
  (ChangeSpec.witness6 (enc:=enc) (C:=Tryz.checked) false ⟨#[],#[.agg #[.int .u8 0,.int .u16 0,.slice none 0 0,.slice none 0 0],.agg #[.int .u8 0,.int .u8 0,.int .u8 0,.int .u8 0,.int .u8 0,.int .u8 0,.int .u8 0,.int .u8 0,.int .u8 0,.int .u8 0,.int .u8 0]],[]⟩ 8 (by kernel_rfl) (by kernel_rfl) (by kernel_rfl) (by kernel_rfl)) ?_
 intro W base args ds gs before asa hW au' _
 exact ads (σ:=sg) (fi:=9) (tb:=4) env rfl (by kernel_rfl) (ts:=[26,30]) (by kernel_rfl)
  (fun ds h=>by match ds,h with | [d0,d1],_=>rfl) (by kernel_rfl) Tryz.underlying4 (by kernel_rfl) (by kernel_rfl) xj asa hW
set_option maxRecDepth 100000 in
theorem pI:joinedFacts Tryz.pinned.checked.prog 9 Tryz.f9 Rows.holdRefusalsSpec Rows.holdRefusalsRow=true:=by
 unfold joinedFacts
 exact(aT (aT (aT (aT (aT (aT (aT (aT (aT (aT (aT (aT (aT (aT (aT (aT (aT (aT (aT (aT (aT (aT (aT (aT (aT (aT (aT (aT (aT (aT (aT qD qE) qF) qG) qH) qI) qJ) qK) qM) (dO (dO (dO e7)))) (iq (dO (dO e7)))) (iq (dO e7))) (iq e7)) oY) oZ) pb) pc) pe) ph) pj) pk) po) pw) py) pz) pA) pB) pC) pD) pF) pG) pH)
set_option maxRecDepth 100000 in
theorem holdRefusals_holds:Rows.HoldRefusalsSaid:=
 OpenClaim.holds_of_wide 9 Tryz.f9 rfl rfl rfl rfl rfl rfl rfl ⟨rfl,rfl,rfl,rfl,rfl⟩ rfl rfl rfl rfl rfl qN Tryz.func9 pI
  ng om
  (fun os started H enc _=>oq os started H enc)
end Go.Proofs.YtnaofdffomdmhaaGreat
end
