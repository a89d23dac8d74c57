/-
  Closed facts of the row of HoldDrift, by the kernel.
-/
import Derived.Test.YtndbljbjhcgoiaaGreatRows
import Derived.ProofKit
import Derived.Test.YtndbljbjhcgoiaaGreatWaE

set_option linter.unusedVariables false
set_option linter.unusedSimpArgs false
set_option linter.unusedSectionVars false

namespace Go.Proofs.YtndbljbjhcgoiaaGreat
open Go Go.ChangeShapes Go.WideShapes Go.ChangeAt Go.RowKit


theorem holdDriftFact0 : (Rows.holdDriftRow.wf (OpenSpec.ofChange Rows.holdDriftSpec)) = true := by kernel_rfl
theorem holdDriftFact1 : (laidOutB Tryz.pinned.checked.prog) = true := by kernel_rfl
theorem holdDriftFact2 : (mapsRowed Tryz.pinned.checked.prog) = true := by kernel_rfl
theorem holdDriftFact3 : (Tryz.f3.params.all (Tryz.pinned.checked.prog.readableRec ·)) = true := by kernel_rfl
theorem holdDriftFact4 : (namedTie Tryz.pinned.checked.prog Rows.holdDriftRow.named Rows.holdDriftSpec.vars) = true := by kernel_rfl
theorem holdDriftFact5 : ((Rows.holdDriftRow.stops == [])) = true := by kernel_rfl
theorem holdDriftFact6 : ((Tryz.pinned.checked.prog.stops == [])) = true := by kernel_rfl
theorem holdDriftFact7 : ((Rows.holdDriftRow.knobs == [])) = true := by kernel_rfl
theorem holdDriftFact8 : ((Tryz.pinned.checked.prog.stopKnobs == [])) = true := by kernel_rfl
theorem holdDriftFact13 : ((Rows.holdDriftRow.maps == (Tryz.f3.params.toList ++ Rows.holdDriftSpec.plain.varTypes Tryz.pinned.checked.prog).any (Tryz.pinned.checked.prog.mapsRec ·))) = true := by kernel_rfl
theorem holdDriftFact14 : ((Rows.holdDriftRow.ifaces == (Tryz.f3.params.toList ++ Rows.holdDriftSpec.plain.varTypes Tryz.pinned.checked.prog).any (Tryz.pinned.checked.prog.ifacesRec ·))) = true := by kernel_rfl
theorem holdDriftFact15 : ((Rows.holdDriftRow.mapsOut == Tryz.pinned.checked.prog.mapsAmong Tryz.f3.resultTypes.toList)) = true := by kernel_rfl
theorem holdDriftFact16 : ((Rows.holdDriftRow.loops == (Tryz.f3.params.toList ++ Rows.holdDriftSpec.plain.varTypes Tryz.pinned.checked.prog).any (Tryz.pinned.checked.prog.loopsFrom ·))) = true := by kernel_rfl
theorem holdDriftFact17 : ((Rows.holdDriftRow.wideKeys == (Tryz.f3.params.toList ++ Rows.holdDriftSpec.plain.varTypes Tryz.pinned.checked.prog ++ Tryz.f3.resultTypes.toList).any (Tryz.pinned.checked.prog.wideKeysFrom ·))) = true := by kernel_rfl
theorem holdDriftFact18 : (Rows.holdDriftSpec.vars.all (Tryz.pinned.checked.prog.varReadable ·)) = true := by kernel_rfl
theorem holdDriftFact19 : (Tryz.f3.resultTypes.all (fun t => Tryz.pinned.checked.prog.readableRec t && decide (t < Tryz.pinned.checked.prog.types.size))) = true := by kernel_rfl
theorem holdDriftFact20 : ((Rows.holdDriftRow.ifacesOut == Tryz.f3.resultTypes.toList.any (Tryz.pinned.checked.prog.ifacesRec ·))) = true := by kernel_rfl
theorem holdDriftFact21 : ((Rows.holdDriftRow.loopsOut == Tryz.f3.resultTypes.toList.any (Tryz.pinned.checked.prog.loopsFrom ·))) = true := by kernel_rfl
theorem holdDriftFact22 : ((Rows.holdDriftRow.plainKeys == Tryz.pinned.checked.prog.plainKeys)) = true := by kernel_rfl
theorem holdDriftFact23 : (Rows.holdDriftRow.shortTexts.isNone) = true := by kernel_rfl
theorem holdDriftFact24 : (Tryz.pinned.checked.prog.stopsHeard) = true := by kernel_rfl
theorem holdDriftFact25 : (Tryz.pinned.checked.prog.mayEnter) = true := by kernel_rfl
theorem holdDriftFact26 : ((Rows.holdDriftRow.lifted == Tryz.pinned.checked.prog.liftsFinal)) = true := by kernel_rfl
theorem holdDriftFact27 : ((Tryz.pinned.checked.prog.make == some Rows.holdDriftRow.make)) = true := by kernel_rfl
theorem holdDriftFact28 : ((Rows.holdDriftRow.kinds == (if Rows.holdDriftRow.domain.isEmpty then [] else Tryz.f3.params.toList.map fun t => match Tryz.pinned.checked.prog.underlying t with | some (.int k) => some k | _ => none))) = true := by kernel_rfl
theorem holdDriftFact29 : ((Rows.holdDriftRow.pinned == Rows.holdDriftRow.pinnedBy)) = true := by kernel_rfl
theorem holdDriftFact30 : ((Rows.holdDriftRow.veiled == (Tryz.f3.params.toList ++ Rows.holdDriftSpec.plain.varTypes Tryz.pinned.checked.prog ++ Tryz.f3.resultTypes.toList).any (Tryz.pinned.checked.prog.veiledRec ·))) = true := by kernel_rfl
theorem holdDriftFact31 : (Rows.holdDriftRow.veiledFits Tryz.pinned.checked.prog Tryz.f3.params.toList (Tryz.f3.params.toList ++ Rows.holdDriftSpec.plain.varTypes Tryz.pinned.checked.prog ++ Tryz.f3.resultTypes.toList)) = true := by kernel_rfl
theorem holdDriftFactG : ((Rows.holdDriftRow.inPlace == Tryz.pinned.checked.prog.inPlace 3) && (Rows.holdDriftRow.unfollowed == Tryz.pinned.checked.prog.unfollowed 3) && (Rows.holdDriftRow.recurses == Tryz.pinned.checked.prog.recurses 3) && (Rows.holdDriftRow.named == Tryz.pinned.checked.prog.varsNamed 3)) = true := by kernel_rfl
theorem holdDriftNamed : Tryz.pinned.checked.prog.funcNamed Rows.holdDriftRow.func = some 3 := by kernel_rfl
theorem holdDriftInstance : Tryz.f3.isInstance Tryz.pinned.checked.prog Rows.holdDriftRow.origin Rows.holdDriftRow.targs := of_decide_eq_true (by kernel_rfl)
theorem holdDriftWrapper : Tryz.f3.isWrapper Tryz.pinned.checked.prog Rows.holdDriftRow.wrapper Rows.holdDriftRow.mainSum := by unfold Func.isWrapper; first | (rw [if_pos (by decide +kernel)]; kernel_rfl) | (rw [if_neg (by decide +kernel)]; exact ⟨rfl, rfl⟩)

end Go.Proofs.YtndbljbjhcgoiaaGreat
