/-
  Closed facts of the row of HoldOrder, by the kernel.
-/
import Derived.Test.YtndbljbjhcgoiaaGreatRows
import Derived.ProofKit

set_option linter.unusedVariables false
set_option linter.unusedSimpArgs false
set_option linter.unusedSectionVars false

namespace Go.Proofs.YtndbljbjhcgoiaaGreat
open Go Go.ChangeShapes Go.WideShapes Go.ChangeAt Go.RowKit

theorem andI {a b : Bool} (ha : a = true) (hb : b = true) : (a && b) = true := by rw [ha, hb]; rfl
theorem andL {a b : Bool} (h : (a && b) = true) : a = true := by cases a <;> simp_all
theorem andR {a b : Bool} (h : (a && b) = true) : b = true := by cases a <;> simp_all

theorem holdOrderFact0 : (Rows.holdOrderRow.wf (OpenSpec.ofChange Rows.holdOrderSpec)) = true := by kernel_rfl
theorem holdOrderFact1 : (laidOutB Tryz.pinned.checked.prog) = true := by kernel_rfl
theorem holdOrderFact2 : (mapsRowed Tryz.pinned.checked.prog) = true := by kernel_rfl
theorem holdOrderFact3 : (Tryz.f4.params.all (Tryz.pinned.checked.prog.readableRec ·)) = true := by kernel_rfl
theorem holdOrderFact4 : (namedTie Tryz.pinned.checked.prog Rows.holdOrderRow.named Rows.holdOrderSpec.vars) = true := by kernel_rfl
theorem holdOrderFact5 : ((Rows.holdOrderRow.stops == [])) = true := by kernel_rfl
theorem holdOrderFact6 : ((Tryz.pinned.checked.prog.stops == [])) = true := by kernel_rfl
theorem holdOrderFact7 : ((Rows.holdOrderRow.knobs == [])) = true := by kernel_rfl
theorem holdOrderFact8 : ((Tryz.pinned.checked.prog.stopKnobs == [])) = true := by kernel_rfl
theorem holdOrderFact13 : ((Rows.holdOrderRow.maps == (Tryz.f4.params.toList ++ Rows.holdOrderSpec.plain.varTypes Tryz.pinned.checked.prog).any (Tryz.pinned.checked.prog.mapsRec ·))) = true := by kernel_rfl
theorem holdOrderFact14 : ((Rows.holdOrderRow.ifaces == (Tryz.f4.params.toList ++ Rows.holdOrderSpec.plain.varTypes Tryz.pinned.checked.prog).any (Tryz.pinned.checked.prog.ifacesRec ·))) = true := by kernel_rfl
theorem holdOrderFact15 : ((Rows.holdOrderRow.mapsOut == Tryz.pinned.checked.prog.mapsAmong Tryz.f4.resultTypes.toList)) = true := by kernel_rfl
theorem holdOrderFact16 : ((Rows.holdOrderRow.loops == (Tryz.f4.params.toList ++ Rows.holdOrderSpec.plain.varTypes Tryz.pinned.checked.prog).any (Tryz.pinned.checked.prog.loopsFrom ·))) = true := by kernel_rfl
theorem holdOrderFact17 : ((Rows.holdOrderRow.wideKeys == (Tryz.f4.params.toList ++ Rows.holdOrderSpec.plain.varTypes Tryz.pinned.checked.prog ++ Tryz.f4.resultTypes.toList).any (Tryz.pinned.checked.prog.wideKeysFrom ·))) = true := by kernel_rfl
theorem holdOrderFact18 : (Rows.holdOrderSpec.vars.all (Tryz.pinned.checked.prog.varReadable ·)) = true := by kernel_rfl
theorem holdOrderFact19 : (Tryz.f4.resultTypes.all (fun t => Tryz.pinned.checked.prog.readableRec t && decide (t < Tryz.pinned.checked.prog.types.size))) = true := by kernel_rfl
theorem holdOrderFact20 : ((Rows.holdOrderRow.ifacesOut == Tryz.f4.resultTypes.toList.any (Tryz.pinned.checked.prog.ifacesRec ·))) = true := by kernel_rfl
theorem holdOrderFact21 : ((Rows.holdOrderRow.loopsOut == Tryz.f4.resultTypes.toList.any (Tryz.pinned.checked.prog.loopsFrom ·))) = true := by kernel_rfl
theorem holdOrderFact22 : ((Rows.holdOrderRow.plainKeys == Tryz.pinned.checked.prog.plainKeys)) = true := by kernel_rfl
theorem holdOrderFact23 : (Rows.holdOrderRow.shortTexts.isNone) = true := by kernel_rfl
theorem holdOrderFact24 : (Tryz.pinned.checked.prog.stopsHeard) = true := by kernel_rfl
theorem holdOrderFact25 : (Tryz.pinned.checked.prog.mayEnter) = true := by kernel_rfl
theorem holdOrderFact26 : ((Rows.holdOrderRow.lifted == Tryz.pinned.checked.prog.liftsFinal)) = true := by kernel_rfl
theorem holdOrderFact27 : ((Tryz.pinned.checked.prog.make == some Rows.holdOrderRow.make)) = true := by kernel_rfl
theorem holdOrderFact28 : ((Rows.holdOrderRow.kinds == (if Rows.holdOrderRow.domain.isEmpty then [] else Tryz.f4.params.toList.map fun t => match Tryz.pinned.checked.prog.underlying t with | some (.int k) => some k | _ => none))) = true := by kernel_rfl
theorem holdOrderFact29 : ((Rows.holdOrderRow.pinned == Rows.holdOrderRow.pinnedBy)) = true := by kernel_rfl
theorem holdOrderFact30 : ((Rows.holdOrderRow.veiled == (Tryz.f4.params.toList ++ Rows.holdOrderSpec.plain.varTypes Tryz.pinned.checked.prog ++ Tryz.f4.resultTypes.toList).any (Tryz.pinned.checked.prog.veiledRec ·))) = true := by kernel_rfl
theorem holdOrderFact31 : (Rows.holdOrderRow.veiledFits Tryz.pinned.checked.prog Tryz.f4.params.toList (Tryz.f4.params.toList ++ Rows.holdOrderSpec.plain.varTypes Tryz.pinned.checked.prog ++ Tryz.f4.resultTypes.toList)) = true := by kernel_rfl
theorem holdOrderFactG : ((Rows.holdOrderRow.inPlace == Tryz.pinned.checked.prog.inPlace 4) && (Rows.holdOrderRow.unfollowed == Tryz.pinned.checked.prog.unfollowed 4) && (Rows.holdOrderRow.recurses == Tryz.pinned.checked.prog.recurses 4) && (Rows.holdOrderRow.named == Tryz.pinned.checked.prog.varsNamed 4)) = true := by kernel_rfl
theorem holdOrderNamed : Tryz.pinned.checked.prog.funcNamed Rows.holdOrderRow.func = some 4 := by kernel_rfl
theorem holdOrderInstance : Tryz.f4.isInstance Tryz.pinned.checked.prog Rows.holdOrderRow.origin Rows.holdOrderRow.targs := of_decide_eq_true (by kernel_rfl)
theorem holdOrderWrapper : Tryz.f4.isWrapper Tryz.pinned.checked.prog Rows.holdOrderRow.wrapper Rows.holdOrderRow.mainSum := by unfold Func.isWrapper; first | (rw [if_pos (by decide +kernel)]; kernel_rfl) | (rw [if_neg (by decide +kernel)]; exact ⟨rfl, rfl⟩)

end Go.Proofs.YtndbljbjhcgoiaaGreat
