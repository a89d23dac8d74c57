/-
  RoomRefusals returns true for every input, and each argument reads as it read before.
-/
import Derived.Test.YtelifakcllijpaaGreatS7
import Derived.Test.YtelifakcllijpaaGreatFactRoomRefusals
set_option linter.all false
section
namespace Go.Proofs.YtelifakcllijpaaGreat
open Go Km Go.ChangeShapes Go.WideShapes Go.ChangeAt Go.RowKit
set_option maxRecDepth 100000 in
theorem rV(os:Os)(started:os.Started)(H:Type)(enc:TypeId × Value->H) :
  ReturnsInHanded {} Tryz.checked os 5 .any (Rows.roomRefusalsSpec.pre6 enc Tryz.prog Tryz.f5 Rows.roomRefusalsRow.domain false) (Rows.roomRefusalsSpec.post enc Tryz.prog Tryz.f5 false true false false):=by
 refine returnsInHanded_of_change (C:=Tryz.checked) io started io Tryz.func5
  (ChangeSpec.witness6 (enc:=enc) (C:=Tryz.checked) false ⟨#[],#[.agg #[.int .u8 0,.int .u8 0,.int .u8 0,.int .u8 0,.int .u8 0,.int .u8 0,.int .u8 0,.int .u8 0,.int .u8 0,.int .u8 0,.int .u8 0,.int .u8 0,.int .u8 0,.int .u8 0,.int .u8 0],.slice none 0 0,.agg #[.int .u8 0,.int .u8 0,.int .u8 0,.int .u8 0,.int .u8 0,.int .u8 0,.int .u8 0,.int .u8 0,.int .u8 0,.slice none 0 0]],[]⟩ 8 io io io io) ?_
 intro W base args ds gs before acY hW agw _
 exact Ru (σ:=sg) (fi:=yd) (tb:=4) env rfl io (ts:=[23,24,27]) io
  (λds h=>by match ds,h with|[d0,d1,d2],_=>rfl) io Tryz.underlying4 io io Au acY hW
set_option maxRecDepth 100000 in
theorem tI:joinedFacts Tryz.pinned.checked.prog 5 Tryz.f5 Rows.roomRefusalsSpec Rows.roomRefusalsRow=true:=by
 unfold joinedFacts
 exact(bg (bg (bg (bg (bg (bg (bg (bg (bg (bg (bg (bg (bg (bg (bg (bg (bg (bg (bg (bg (bg (bg (bg (bg (bg (bg (bg (bg (bg (bg (bg uT uU) uV) uW) uX) uY) uZ) vc) vd) (ff (ff (ff ig)))) (kD (ff (ff ig)))) (kD (ff ig))) (kD ig)) th) ti) tj) tn) tp) tq) tt) tu) tv) tx) tz) tA) tB) tC) tD) tE) tF) tG) tH)
set_option maxRecDepth 100000 in
theorem roomRefusals_holds:Rows.RoomRefusalsSaid:=
 OpenClaim.holds_of_wide 5 Tryz.f5 rfl rfl rfl rfl rfl rfl rfl ⟨rfl,rfl,rfl,rfl,rfl⟩ rfl rfl rfl rfl rfl ve Tryz.func5 tI
  qN rU
  (λos started H enc _=>rV os started H enc)
end Go.Proofs.YtelifakcllijpaaGreat
end
