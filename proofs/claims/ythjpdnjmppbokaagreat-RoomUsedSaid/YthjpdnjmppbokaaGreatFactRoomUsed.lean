/-
  Closed facts of the row of RoomUsed, by the kernel.
-/
import Derived.Test.YthjpdnjmppbokaaGreatRows
import Derived.ProofKit

set_option linter.unusedVariables false
set_option linter.unusedSimpArgs false
set_option linter.unusedSectionVars false

section
namespace Go.Proofs.YthjpdnjmppbokaaGreat
open Go Go.ChangeShapes Go.WideShapes Go.ChangeAt Go.RowKit

theorem roomUsedandI {a b : Bool} (ha : a = true) (hb : b = true) : (a && b) = true := by rw [ha, hb]; rfl
theorem roomUsedandL {a b : Bool} (h : (a && b) = true) : a = true := by cases a <;> simp_all
theorem roomUsedandR {a b : Bool} (h : (a && b) = true) : b = true := by cases a <;> simp_all

theorem roomUsedFact0 : (Rows.roomUsedRow.wf (OpenSpec.ofChange Rows.roomUsedSpec)) = true := by kernel_rfl
theorem roomUsedFact1 : (laidOutB Tryz.pinned.checked.prog) = true := by kernel_rfl
theorem roomUsedFact2 : (mapsRowed Tryz.pinned.checked.prog) = true := by kernel_rfl
theorem roomUsedFact3 : (Tryz.f3.params.all (Tryz.pinned.checked.prog.readableRec ·)) = true := by kernel_rfl
theorem roomUsedFact4 : (namedTie Tryz.pinned.checked.prog Rows.roomUsedRow.named Rows.roomUsedSpec.vars) = true := by kernel_rfl
theorem roomUsedFact5 : ((Rows.roomUsedRow.stops == [])) = true := by kernel_rfl
theorem roomUsedFact6 : ((Tryz.pinned.checked.prog.stops == [])) = true := by kernel_rfl
theorem roomUsedFact7 : ((Rows.roomUsedRow.knobs == [])) = true := by kernel_rfl
theorem roomUsedFact8 : ((Tryz.pinned.checked.prog.stopKnobs == [])) = true := by kernel_rfl
theorem roomUsedFact13 : ((Rows.roomUsedRow.maps == (Tryz.f3.params.toList ++ Rows.roomUsedSpec.plain.varTypes Tryz.pinned.checked.prog).any (Tryz.pinned.checked.prog.mapsRec ·))) = true := by kernel_rfl
theorem roomUsedFact14 : ((Rows.roomUsedRow.ifaces == (Tryz.f3.params.toList ++ Rows.roomUsedSpec.plain.varTypes Tryz.pinned.checked.prog).any (Tryz.pinned.checked.prog.ifacesRec ·))) = true := by kernel_rfl
theorem roomUsedFact15 : ((Rows.roomUsedRow.mapsOut == Tryz.pinned.checked.prog.mapsAmong Tryz.f3.resultTypes.toList)) = true := by kernel_rfl
theorem roomUsedFact16 : ((Rows.roomUsedRow.loops == (Tryz.f3.params.toList ++ Rows.roomUsedSpec.plain.varTypes Tryz.pinned.checked.prog).any (Tryz.pinned.checked.prog.loopsFrom ·))) = true := by kernel_rfl
theorem roomUsedFact17 : ((Rows.roomUsedRow.wideKeys == (Tryz.f3.params.toList ++ Rows.roomUsedSpec.plain.varTypes Tryz.pinned.checked.prog ++ Tryz.f3.resultTypes.toList).any (Tryz.pinned.checked.prog.wideKeysFrom ·))) = true := by kernel_rfl
theorem roomUsedFact18 : (Rows.roomUsedSpec.vars.all (Tryz.pinned.checked.prog.varReadable ·)) = true := by kernel_rfl
theorem roomUsedFact19 : (Tryz.f3.resultTypes.all (fun t => Tryz.pinned.checked.prog.readableRec t && decide (t < Tryz.pinned.checked.prog.types.size))) = true := by kernel_rfl
theorem roomUsedFact20 : ((Rows.roomUsedRow.ifacesOut == Tryz.f3.resultTypes.toList.any (Tryz.pinned.checked.prog.ifacesRec ·))) = true := by kernel_rfl
theorem roomUsedFact21 : ((Rows.roomUsedRow.loopsOut == Tryz.f3.resultTypes.toList.any (Tryz.pinned.checked.prog.loopsFrom ·))) = true := by kernel_rfl
theorem roomUsedFact22 : ((Rows.roomUsedRow.plainKeys == Tryz.pinned.checked.prog.plainKeys)) = true := by kernel_rfl
theorem roomUsedFact23 : (Rows.roomUsedRow.shortTexts.isNone) = true := by kernel_rfl
theorem roomUsedFact24 : (Tryz.pinned.checked.prog.stopsHeard) = true := by kernel_rfl
theorem roomUsedFact25 : (Tryz.pinned.checked.prog.mayEnter) = true := by kernel_rfl
theorem roomUsedFact26 : ((Rows.roomUsedRow.lifted == Tryz.pinned.checked.prog.liftsFinal)) = true := by kernel_rfl
theorem roomUsedFact27 : ((Tryz.pinned.checked.prog.make == some Rows.roomUsedRow.make)) = true := by kernel_rfl
theorem roomUsedFact28 : ((Rows.roomUsedRow.kinds == (if Rows.roomUsedRow.domain.isEmpty then [] else Tryz.f3.params.toList.map fun t => match Tryz.pinned.checked.prog.underlying t with | some (.int k) => some k | _ => none))) = true := by kernel_rfl
theorem roomUsedFact29 : ((Rows.roomUsedRow.pinned == Rows.roomUsedRow.pinnedBy)) = true := by kernel_rfl
theorem roomUsedFact30 : ((Rows.roomUsedRow.veiled == (Tryz.f3.params.toList ++ Rows.roomUsedSpec.plain.varTypes Tryz.pinned.checked.prog ++ Tryz.f3.resultTypes.toList).any (Tryz.pinned.checked.prog.veiledRec ·))) = true := by kernel_rfl
theorem roomUsedFact31 : (Rows.roomUsedRow.veiledFits Tryz.pinned.checked.prog Tryz.f3.params.toList (Tryz.f3.params.toList ++ Rows.roomUsedSpec.plain.varTypes Tryz.pinned.checked.prog ++ Tryz.f3.resultTypes.toList)) = true := by kernel_rfl
theorem roomUsedFactG : ((Rows.roomUsedRow.inPlace == Tryz.pinned.checked.prog.inPlace 3) && (Rows.roomUsedRow.unfollowed == Tryz.pinned.checked.prog.unfollowed 3) && (Rows.roomUsedRow.recurses == Tryz.pinned.checked.prog.recurses 3) && (Rows.roomUsedRow.named == Tryz.pinned.checked.prog.varsNamed 3)) = true := by kernel_rfl
theorem roomUsedNamed : Tryz.pinned.checked.prog.funcNamed Rows.roomUsedRow.func = some 3 := by kernel_rfl
theorem roomUsedInstance : Tryz.f3.isInstance Tryz.pinned.checked.prog Rows.roomUsedRow.origin Rows.roomUsedRow.targs := of_decide_eq_true (by kernel_rfl)
theorem roomUsedWrapper : Tryz.f3.isWrapper Tryz.pinned.checked.prog Rows.roomUsedRow.wrapper Rows.roomUsedRow.mainSum := by unfold Func.isWrapper; first | (rw [if_pos (by decide +kernel)]; kernel_rfl) | (rw [if_neg (by decide +kernel)]; exact ⟨rfl, rfl⟩)

end Go.Proofs.YthjpdnjmppbokaaGreat
end

