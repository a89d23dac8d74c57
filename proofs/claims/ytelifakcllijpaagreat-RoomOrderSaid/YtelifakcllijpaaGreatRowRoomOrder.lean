/-
  RoomOrder returns true for every input, and each argument reads as it read before.
-/
import Derived.Test.YtelifakcllijpaaGreatS9
import Derived.Test.YtelifakcllijpaaGreatFactRoomOrder
set_option linter.unusedVariables false
set_option linter.unusedSimpArgs false
set_option linter.unusedSectionVars false
section
namespace Go.Proofs.YtelifakcllijpaaGreat
open Go Km Go.ChangeShapes Go.WideShapes Go.ChangeAt Go.RowKit
set_option maxRecDepth 100000 in
theorem uU(os:Os)(started:os.Started)(H:Type)(enc:TypeId × Value->H) :
  ReturnsInHanded {} Tryz.checked os 8 .any (Rows.roomOrderSpec.pre6 enc Tryz.prog Tryz.f8 Rows.roomOrderRow.domain false) (Rows.roomOrderSpec.post enc Tryz.prog Tryz.f8 false true false false):=by
 refine returnsInHanded_of_change (C:=Tryz.checked) (by kernel_rfl) started (by kernel_rfl) Tryz.func8
  (ChangeSpec.witness6 (enc:=enc) (C:=Tryz.checked) false ⟨#[],#[.agg #[.int .u8 0,.int .u8 0,.int .u8 0,.int .u8 0,.int .u8 0,.int .u8 0,.int .u8 0,.int .u8 0,.int .u8 0,.int .u8 0,.int .u8 0,.int .u8 0,.int .u8 0,.int .u8 0,.int .u8 0],.slice none 0 0,.int .u8 0],[]⟩ 8 (by kernel_rfl) (by kernel_rfl) (by kernel_rfl) (by kernel_rfl)) ?_
 intro W base args ds gs before acz hW af7 _
 exact QZ (σ:=sg) (fi:=Ib) (tb:=4) env rfl (by kernel_rfl) (ts:=[23,24,5]) (by kernel_rfl)
  (λds h=>by match ds,h with|[d0,d1,d2],_=>rfl) (by kernel_rfl) Tryz.underlying4 (by kernel_rfl) (by kernel_rfl) G' acz hW
set_option maxRecDepth 100000 in
theorem wz:joinedFacts Tryz.pinned.checked.prog 8 Tryz.f8 Rows.roomOrderSpec Rows.roomOrderRow=true:=by
 unfold joinedFacts
 exact(bD (bD (bD (bD (bD (bD (bD (bD (bD (bD (bD (bD (bD (bD (bD (bD (bD (bD (bD (bD (bD (bD (bD (bD (bD (bD (bD (bD (bD (bD (bD yD yE) yF) yG) yH) yI) yJ) yK) yL) (gL (gL (gL jB)))) (nv (gL (gL jB)))) (nv (gL jB))) (nv jB)) vY) vZ) v8) wa) wb) wc) we) wg) wh) wi) wj) wk) wm) wo) wq) wu) wv) wx) wy)
set_option maxRecDepth 100000 in
theorem roomOrder_holds:Rows.RoomOrderSaid:=
 OpenClaim.holds_of_wide 8 Tryz.f8 rfl rfl rfl rfl rfl rfl rfl ⟨rfl,rfl,rfl,rfl,rfl⟩ rfl rfl rfl rfl rfl yM Tryz.func8 wz
  tD uT
  (λos started H enc _=>uU os started H enc)
end Go.Proofs.YtelifakcllijpaaGreat
end
