/-
  EndlessNextIsNext returns true for every input, and each argument reads as it read before.
-/
import Derived.Test.YthkmdpgdicohdaaGreatS2
import Derived.Test.YthkmdpgdicohdaaGreatFactEndlessNextIsNext
set_option linter.unusedVariables false
set_option linter.unusedSimpArgs false
set_option linter.unusedSectionVars false
section
namespace Go.Proofs.YthkmdpgdicohdaaGreat
open Go Km Go.ChangeShapes Go.WideShapes Go.ChangeAt Go.RowKit
set_option maxRecDepth 100000 in
theorem ib(os:Os)(started:os.Started)(H:Type)(enc:TypeId × Value→H) :
  ReturnsInHanded {} Tryz.checked os 6 .any (Rows.endlessNextIsNextSpec.pre6 enc Tryz.prog Tryz.f6 Rows.endlessNextIsNextRow.domain false) (Rows.endlessNextIsNextSpec.post enc Tryz.prog Tryz.f6 false true false false):=by
 refine returnsInHanded_of_change (C:=Tryz.checked) (by kernel_rfl) started (by kernel_rfl) Tryz.func6
  (ChangeSpec.witness6 (enc:=enc) (C:=Tryz.checked) false ⟨#[],#[.agg #[.slice none 0 0,.slice none 0 0,.int .u8 0,.slice none 0 0],.int .i32 0],[]⟩ 8 (by kernel_rfl) (by kernel_rfl) (by kernel_rfl) (by kernel_rfl)) ?_
 intro W base args ds gs before YV hW acr _
 exact JT (σ:=sg) (fi:=0) (tb:=4) env rfl (by kernel_rfl) (ts:=[26,21]) (by kernel_rfl)
  (fun ds h=>by match ds,h with | [d0,d1],_=>rfl) (by kernel_rfl) Tryz.underlying4 (by kernel_rfl) (by kernel_rfl) CY YV hW
set_option maxRecDepth 100000 in
theorem iS:joinedFacts Tryz.pinned.checked.prog 6 Tryz.f6 Rows.endlessNextIsNextSpec Rows.endlessNextIsNextRow=true:=by
 unfold joinedFacts
 exact(aA (aA (aA (aA (aA (aA (aA (aA (aA (aA (aA (aA (aA (aA (aA (aA (aA (aA (aA (aA (aA (aA (aA (aA (aA (aA (aA (aA (aA (aA (aA jm jn) jo) jq) jr) js) jt) ju) jv) (bT (bT (bT cS)))) (dU (bT (bT cS)))) (dU (bT cS))) (dU cS)) iy) iz) iA) iB) iC) iD) iE) iF) iG) iH) iI) iK) iL) iM) iN) iO) iP) iQ) iR)
set_option maxRecDepth 100000 in
theorem endlessNextIsNext_holds:Rows.EndlessNextIsNextSaid:=
 OpenClaim.holds_of_wide 6 Tryz.f6 rfl rfl rfl rfl rfl rfl rfl ⟨rfl,rfl,rfl,rfl,rfl⟩ rfl rfl rfl rfl rfl jw Tryz.func6 iS
  gQ hZ
  (fun os started H enc _=>ib os started H enc)
end Go.Proofs.YthkmdpgdicohdaaGreat
end
