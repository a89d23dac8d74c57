/-
  Closed facts of the row of HoldMatchesReference, by the kernel.
-/
import Derived.Test.YtcjhnkginmflhaaGreatRows
import Derived.ProofKit
import Derived.JoinedCond

set_option linter.unusedVariables false
set_option linter.unusedSimpArgs false
set_option linter.unusedSectionVars false

section
namespace Go.Proofs.YtcjhnkginmflhaaGreat
open Go Go.ChangeShapes Go.WideShapes Go.ChangeAt Go.RowKit

theorem aC {a b : Bool} (ha : a = true) (hb : b = true) : (a && b) = true := by rw [ha, hb]; rfl
theorem bZ {a b : Bool} (h : (a && b) = true) : a = true := by cases a <;> simp_all
theorem gG {a b : Bool} (h : (a && b) = true) : b = true := by cases a <;> simp_all

theorem nI : (Rows.holdMatchesReferenceUptoRow.wf (OpenSpec.ofChange (Rows.OpenSpec.upto Rows.holdMatchesReferenceSpec).bare)) = true := by kernel_rfl
theorem nH : (laidOutB Tryz.pinned.checked.prog) = true := by kernel_rfl
theorem nG : (mapsRowed Tryz.pinned.checked.prog) = true := by kernel_rfl
theorem nD : (Tryz.f3.params.all (Tryz.pinned.checked.prog.readableRec ·)) = true := by kernel_rfl
theorem nC : (namedTie Tryz.pinned.checked.prog Rows.holdMatchesReferenceUptoRow.named (Rows.OpenSpec.upto Rows.holdMatchesReferenceSpec).bare.vars) = true := by kernel_rfl
theorem ny : ((Rows.holdMatchesReferenceUptoRow.stops == [])) = true := by kernel_rfl
theorem ni : ((Tryz.pinned.checked.prog.stops == [])) = true := by kernel_rfl
theorem ng : ((Rows.holdMatchesReferenceUptoRow.knobs == [])) = true := by kernel_rfl
theorem mZ : ((Tryz.pinned.checked.prog.stopKnobs == [])) = true := by kernel_rfl
theorem mQ : ((Rows.holdMatchesReferenceUptoRow.maps == (Tryz.f3.params.toList ++ (Rows.OpenSpec.upto Rows.holdMatchesReferenceSpec).bare.plain.varTypes Tryz.pinned.checked.prog).any (Tryz.pinned.checked.prog.mapsRec ·))) = true := by kernel_rfl
theorem mP : ((Rows.holdMatchesReferenceUptoRow.ifaces == (Tryz.f3.params.toList ++ (Rows.OpenSpec.upto Rows.holdMatchesReferenceSpec).bare.plain.varTypes Tryz.pinned.checked.prog).any (Tryz.pinned.checked.prog.ifacesRec ·))) = true := by kernel_rfl
theorem mM : ((Rows.holdMatchesReferenceUptoRow.mapsOut == Tryz.pinned.checked.prog.mapsAmong Tryz.f3.resultTypes.toList)) = true := by kernel_rfl
theorem mJ : ((Rows.holdMatchesReferenceUptoRow.loops == (Tryz.f3.params.toList ++ (Rows.OpenSpec.upto Rows.holdMatchesReferenceSpec).bare.plain.varTypes Tryz.pinned.checked.prog).any (Tryz.pinned.checked.prog.loopsFrom ·))) = true := by kernel_rfl
theorem mG : ((Rows.holdMatchesReferenceUptoRow.wideKeys == (Tryz.f3.params.toList ++ (Rows.OpenSpec.upto Rows.holdMatchesReferenceSpec).bare.plain.varTypes Tryz.pinned.checked.prog ++ Tryz.f3.resultTypes.toList).any (Tryz.pinned.checked.prog.wideKeysFrom ·))) = true := by kernel_rfl
theorem mF : ((Rows.OpenSpec.upto Rows.holdMatchesReferenceSpec).bare.vars.all (Tryz.pinned.checked.prog.varReadable ·)) = true := by kernel_rfl
theorem mD : (Tryz.f3.resultTypes.all (fun t => Tryz.pinned.checked.prog.readableRec t && decide (t < Tryz.pinned.checked.prog.types.size))) = true := by kernel_rfl
theorem l9 : ((Rows.holdMatchesReferenceUptoRow.ifacesOut == Tryz.f3.resultTypes.toList.any (Tryz.pinned.checked.prog.ifacesRec ·))) = true := by kernel_rfl
theorem l7 : ((Rows.holdMatchesReferenceUptoRow.loopsOut == Tryz.f3.resultTypes.toList.any (Tryz.pinned.checked.prog.loopsFrom ·))) = true := by kernel_rfl
theorem lZ : ((Rows.holdMatchesReferenceUptoRow.plainKeys == Tryz.pinned.checked.prog.plainKeys)) = true := by kernel_rfl
theorem lY : (Rows.holdMatchesReferenceUptoRow.shortTexts.isNone) = true := by kernel_rfl
theorem lW : (Tryz.pinned.checked.prog.stopsHeard) = true := by kernel_rfl
theorem lT : (Tryz.pinned.checked.prog.mayEnter) = true := by kernel_rfl
theorem lS : ((Rows.holdMatchesReferenceUptoRow.lifted == Tryz.pinned.checked.prog.liftsFinal)) = true := by kernel_rfl
theorem lQ : ((Tryz.pinned.checked.prog.make == some Rows.holdMatchesReferenceUptoRow.make)) = true := by kernel_rfl
theorem lN : ((Rows.holdMatchesReferenceUptoRow.kinds == (if Rows.holdMatchesReferenceUptoRow.domain.isEmpty then [] else Tryz.f3.params.toList.map fun t => match Tryz.pinned.checked.prog.underlying t with | some (.int k) => some k | _ => none))) = true := by kernel_rfl
theorem lM : ((Rows.holdMatchesReferenceUptoRow.pinned == Rows.holdMatchesReferenceUptoRow.pinnedBy)) = true := by kernel_rfl
theorem lK : ((Rows.holdMatchesReferenceUptoRow.veiled == (Tryz.f3.params.toList ++ (Rows.OpenSpec.upto Rows.holdMatchesReferenceSpec).bare.plain.varTypes Tryz.pinned.checked.prog ++ Tryz.f3.resultTypes.toList).any (Tryz.pinned.checked.prog.veiledRec ·))) = true := by kernel_rfl
theorem lJ : (Rows.holdMatchesReferenceUptoRow.veiledFits Tryz.pinned.checked.prog Tryz.f3.params.toList (Tryz.f3.params.toList ++ (Rows.OpenSpec.upto Rows.holdMatchesReferenceSpec).bare.plain.varTypes Tryz.pinned.checked.prog ++ Tryz.f3.resultTypes.toList)) = true := by kernel_rfl
theorem eu : ((Rows.holdMatchesReferenceUptoRow.inPlace == Tryz.pinned.checked.prog.inPlace 3) && (Rows.holdMatchesReferenceUptoRow.unfollowed == Tryz.pinned.checked.prog.unfollowed 3) && (Rows.holdMatchesReferenceUptoRow.recurses == Tryz.pinned.checked.prog.recurses 3) && (Rows.holdMatchesReferenceUptoRow.named == Tryz.pinned.checked.prog.varsNamed 3)) = true := by kernel_rfl
theorem mY : Tryz.pinned.checked.prog.funcNamed Rows.holdMatchesReferenceUptoRow.func = some 3 := by kernel_rfl
theorem kH : Tryz.f3.isInstance Tryz.pinned.checked.prog Rows.holdMatchesReferenceUptoRow.origin Rows.holdMatchesReferenceUptoRow.targs := of_decide_eq_true (by kernel_rfl)
theorem kT : Tryz.f3.isWrapper Tryz.pinned.checked.prog Rows.holdMatchesReferenceUptoRow.wrapper Rows.holdMatchesReferenceUptoRow.mainSum := by unfold Func.isWrapper; first | (rw [if_pos (by decide +kernel)]; kernel_rfl) | (rw [if_neg (by decide +kernel)]; exact ⟨rfl, rfl⟩)

end Go.Proofs.YtcjhnkginmflhaaGreat
end

