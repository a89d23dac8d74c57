/-
  SeriesLocalTimes returns true for every input, and each argument reads as it read before.
-/
import Derived.Test.YtmbjejcfadllnaaGreatS3
import Derived.Test.YtmbjejcfadllnaaGreatFactSeriesLocalTimes
set_option linter.unusedVariables false
set_option linter.unusedSimpArgs false
set_option linter.unusedSectionVars false
section
namespace Go.Proofs.YtmbjejcfadllnaaGreat
open Go Km Go.ChangeShapes Go.WideShapes Go.ChangeAt Go.RowKit
set_option maxRecDepth 100000 in
theorem pI(os:Os)(started:os.Started)(H:Type)(enc:TypeId × Value→H) :
  ReturnsInHanded {} Tryz.checked os 7 .any (Rows.seriesLocalTimesSpec.pre6 enc Tryz.prog Tryz.f7 Rows.seriesLocalTimesRow.domain false) (Rows.seriesLocalTimesSpec.post enc Tryz.prog Tryz.f7 false true false false):=by
 refine returnsInHanded_of_change (C:=Tryz.checked) (by kernel_rfl) started (by kernel_rfl) Tryz.func7
  (ChangeSpec.witness6 (enc:=enc) (C:=Tryz.checked) false ⟨#[],#[.agg #[.slice none 0 0,.int .u16 0,.int .u16 0,.int .u8 0,.int .u8 0,.slice none 0 0],.agg #[.int .u8 0,.slice none 0 0,.slice none 0 0,.int .u8 0,.int .u8 0,.int .u8 0,.int .u8 0,.int .u8 0,.int .u8 0,.int .u8 0,.int .u8 0,.int .u8 0,.int .u8 0,.bool false],.int .u16 0],[]⟩ 8 (by kernel_rfl) (by kernel_rfl) (by kernel_rfl) (by kernel_rfl)) ?_
 intro W base args ds gs before hval0 hW hcnd _
 exact agY (σ:=sg) (fi:=NQ) (tb:=4) env rfl (by kernel_rfl) (ts:=[26,31,23]) (by kernel_rfl)
  (fun ds h=>by match ds,h with | [d0,d1,d2],_=>rfl) (by kernel_rfl) Tryz.underlying4 (by kernel_rfl) (by kernel_rfl) Bh hval0 hW
set_option maxRecDepth 100000 in
theorem qA:joinedFacts Tryz.pinned.checked.prog 7 Tryz.f7 Rows.seriesLocalTimesSpec Rows.seriesLocalTimesRow=true:=by
 unfold joinedFacts
 exact(aJ (aJ (aJ (aJ (aJ (aJ (aJ (aJ (aJ (aJ (aJ (aJ (aJ (aJ (aJ (aJ (aJ (aJ (aJ (aJ (aJ (aJ (aJ (aJ (aJ (aJ (aJ (aJ (aJ (aJ (aJ tC tu) tq) sZ) sW) sV) sU) sS) sQ) (dP (dP (dP gG)))) (jf (dP (dP gG)))) (jf (dP gG))) (jf gG)) qW) qV) qU) qR) qQ) qP) qO) qN) qM) qL) qK) qJ) qI) qH) qG) qF) qE) qC) qB)
set_option maxRecDepth 100000 in
theorem seriesLocalTimes_holds:Rows.SeriesLocalTimesSaid:=
 OpenClaim.holds_of_wide 7 Tryz.f7 rfl rfl rfl rfl rfl rfl rfl ⟨rfl,rfl,rfl,rfl,rfl⟩ rfl rfl rfl rfl rfl sO Tryz.func7 qA
  oN pJ
  (fun os started H enc _=>pI os started H enc)
end Go.Proofs.YtmbjejcfadllnaaGreat
end
