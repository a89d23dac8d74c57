/-
  HoldMatchesReference returns true for every input, and each argument reads as it read before.
-/
import Derived.Test.YtcjhnkginmflhaaGreatS2
import Derived.Test.YtcjhnkginmflhaaGreatFactHoldMatchesReference

set_option linter.unusedVariables false
set_option linter.unusedSimpArgs false
set_option linter.unusedSectionVars false

section
namespace Go.Proofs.YtcjhnkginmflhaaGreat
open Go Km Go.ChangeShapes Go.WideShapes Go.ChangeAt Go.RowKit

theorem lH {H : Type} {ds gs : List (DataW H)} (hk : Rows.uptoSmall H (ds ++ gs) = true) : ∀ d ∈ ds, Rows.uptoBulk d ≤ MB := by
  intro d hd
  have h : Rows.uptoBulkAll (ds ++ gs) ≤ 1048576 := of_decide_eq_true hk
  exact Nat.le_trans (wo (List.mem_append_left gs hd)) h

set_option maxRecDepth 100000 in
theorem kS (os : Os) (started : os.Started) (H : Type) (enc : TypeId × Value → H) (F : Stop.Interp) :
    ReturnsInHanded {} Tryz.checked os 3 .any ((Rows.OpenSpec.upto Rows.holdMatchesReferenceSpec).pre6 enc Tryz.prog Tryz.f3 Rows.holdMatchesReferenceUptoRow.domain false) (((Rows.OpenSpec.upto Rows.holdMatchesReferenceSpec).at F).post enc Tryz.prog Tryz.f3 false true false false) := by
  refine returnsInHanded_of_cond (C := Tryz.checked) (s := Rows.OpenSpec.upto Rows.holdMatchesReferenceSpec) (k := Rows.uptoSmall) rfl (by kernel_rfl) started (by kernel_rfl) Tryz.func3
    (OpenSpec.witness (enc := enc) (C := Tryz.checked) (s := Rows.OpenSpec.upto Rows.holdMatchesReferenceSpec) (k := Rows.uptoSmall) rfl false ⟨#[], #[.agg #[.int .i64 0, .int .i64 0, .slice none 0 0], .agg #[.int .i64 0, .int .i64 0, .int .i64 0, .int .i64 0, .int .i64 0, .int .i64 0, .int .i64 0, .slice none 0 0, .int .i64 0, .slice none 0 0], .agg #[.int .i64 0, .int .i64 0, .int .i64 0]], []⟩ 12 (by kernel_rfl) (by kernel_rfl) (by kernel_rfl)
      (x := ([.agg [.lit (.int .i64 0), .lit (.int .i64 0), .nil], .agg [.lit (.int .i64 0), .lit (.int .i64 0), .lit (.int .i64 0), .agg [.lit (.int .i64 0), .lit (.int .i64 0), .lit (.int .i64 0), .lit (.int .i64 0), .agg [.nil, .lit (.int .i64 0), .nil]]], .agg [.lit (.int .i64 0), .lit (.int .i64 0), .lit (.int .i64 0)]], [], [])) (by kernel_rfl) rfl (by kernel_rfl)) ?_
  intro W base args ds gs before hval0 hW _ hk _
  exact Nk (σ := sg) (fi := F9) (tb := 4) (bulk MB) env rfl (by kernel_rfl) (ts := [24, 32, 33]) (by kernel_rfl)
    (fun ds h => by match ds, h with | [d0, d1, d2], _ => rfl) (by kernel_rfl) Tryz.underlying4 (by kernel_rfl) (by kernel_rfl) Il hval0 hW (lH hk)

set_option maxRecDepth 100000 in
theorem lI : joinedFacts Tryz.pinned.checked.prog 3 Tryz.f3 (Rows.OpenSpec.upto Rows.holdMatchesReferenceSpec).bare Rows.holdMatchesReferenceUptoRow = true := by
  unfold joinedFacts
  exact (aC (aC (aC (aC (aC (aC (aC (aC (aC (aC (aC (aC (aC (aC (aC (aC (aC (aC (aC (aC (aC (aC (aC (aC (aC (aC (aC (aC (aC (aC (aC nI nH) nG) nD) nC) ny) ni) ng) mZ) (bZ (bZ (bZ eu)))) (gG (bZ (bZ eu)))) (gG (bZ eu))) (gG eu)) mQ) mP) mM) mJ) mG) mF) mD) l9) l7) lZ) lY) lW) lT) lS) lQ) lN) lM) lK) lJ)

set_option maxRecDepth 100000 in
theorem holdMatchesReference_holds : Rows.HoldMatchesReferenceUptoSaid :=
  OpenClaim.holds_of_cond 3 Tryz.f3 rfl rfl rfl rfl rfl rfl rfl ⟨rfl, rfl, rfl, rfl, rfl⟩ rfl rfl rfl rfl rfl mY Tryz.func3 lI
    kH kT
    (fun os started H enc _ F => kS os started H enc F)
end Go.Proofs.YtcjhnkginmflhaaGreat
end

