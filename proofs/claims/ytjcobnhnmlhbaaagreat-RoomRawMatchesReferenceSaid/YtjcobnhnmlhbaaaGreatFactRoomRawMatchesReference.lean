/-
  Closed facts of the row of RoomRawMatchesReference, by the kernel.
-/
import Derived.Test.YtjcobnhnmlhbaaaGreatRows
import Derived.ProofKit

set_option linter.unusedVariables false
set_option linter.unusedSimpArgs false
set_option linter.unusedSectionVars false

section
namespace Go.Proofs.YtjcobnhnmlhbaaaGreat
open Go Go.ChangeShapes Go.WideShapes Go.ChangeAt Go.RowKit

theorem roomRawMatchesReferenceandI {a b : Bool} (ha : a = true) (hb : b = true) : (a && b) = true := by rw [ha, hb]; rfl
theorem roomRawMatchesReferenceandL {a b : Bool} (h : (a && b) = true) : a = true := by cases a <;> simp_all
theorem roomRawMatchesReferenceandR {a b : Bool} (h : (a && b) = true) : b = true := by cases a <;> simp_all

theorem roomRawMatchesReferenceFact0 : (Rows.roomRawMatchesReferenceRow.wf (OpenSpec.ofChange Rows.roomRawMatchesReferenceSpec)) = true := by kernel_rfl
theorem roomRawMatchesReferenceFact1 : (laidOutB Tryz.pinned.checked.prog) = true := by kernel_rfl
theorem roomRawMatchesReferenceFact2 : (mapsRowed Tryz.pinned.checked.prog) = true := by kernel_rfl
theorem roomRawMatchesReferenceFact3 : (Tryz.f3.params.all (Tryz.pinned.checked.prog.readableRec ·)) = true := by kernel_rfl
theorem roomRawMatchesReferenceFact4 : (namedTie Tryz.pinned.checked.prog Rows.roomRawMatchesReferenceRow.named Rows.roomRawMatchesReferenceSpec.vars) = true := by kernel_rfl
theorem roomRawMatchesReferenceFact5 : ((Rows.roomRawMatchesReferenceRow.stops == [])) = true := by kernel_rfl
theorem roomRawMatchesReferenceFact6 : ((Tryz.pinned.checked.prog.stops == [])) = true := by kernel_rfl
theorem roomRawMatchesReferenceFact7 : ((Rows.roomRawMatchesReferenceRow.knobs == [])) = true := by kernel_rfl
theorem roomRawMatchesReferenceFact8 : ((Tryz.pinned.checked.prog.stopKnobs == [])) = true := by kernel_rfl
theorem roomRawMatchesReferenceFact13 : ((Rows.roomRawMatchesReferenceRow.maps == (Tryz.f3.params.toList ++ Rows.roomRawMatchesReferenceSpec.plain.varTypes Tryz.pinned.checked.prog).any (Tryz.pinned.checked.prog.mapsRec ·))) = true := by kernel_rfl
theorem roomRawMatchesReferenceFact14 : ((Rows.roomRawMatchesReferenceRow.ifaces == (Tryz.f3.params.toList ++ Rows.roomRawMatchesReferenceSpec.plain.varTypes Tryz.pinned.checked.prog).any (Tryz.pinned.checked.prog.ifacesRec ·))) = true := by kernel_rfl
theorem roomRawMatchesReferenceFact15 : ((Rows.roomRawMatchesReferenceRow.mapsOut == Tryz.pinned.checked.prog.mapsAmong Tryz.f3.resultTypes.toList)) = true := by kernel_rfl
theorem roomRawMatchesReferenceFact16 : ((Rows.roomRawMatchesReferenceRow.loops == (Tryz.f3.params.toList ++ Rows.roomRawMatchesReferenceSpec.plain.varTypes Tryz.pinned.checked.prog).any (Tryz.pinned.checked.prog.loopsFrom ·))) = true := by kernel_rfl
theorem roomRawMatchesReferenceFact17 : ((Rows.roomRawMatchesReferenceRow.wideKeys == (Tryz.f3.params.toList ++ Rows.roomRawMatchesReferenceSpec.plain.varTypes Tryz.pinned.checked.prog ++ Tryz.f3.resultTypes.toList).any (Tryz.pinned.checked.prog.wideKeysFrom ·))) = true := by kernel_rfl
theorem roomRawMatchesReferenceFact18 : (Rows.roomRawMatchesReferenceSpec.vars.all (Tryz.pinned.checked.prog.varReadable ·)) = true := by kernel_rfl
theorem roomRawMatchesReferenceFact19 : (Tryz.f3.resultTypes.all (fun t => Tryz.pinned.checked.prog.readableRec t && decide (t < Tryz.pinned.checked.prog.types.size))) = true := by kernel_rfl
theorem roomRawMatchesReferenceFact20 : ((Rows.roomRawMatchesReferenceRow.ifacesOut == Tryz.f3.resultTypes.toList.any (Tryz.pinned.checked.prog.ifacesRec ·))) = true := by kernel_rfl
theorem roomRawMatchesReferenceFact21 : ((Rows.roomRawMatchesReferenceRow.loopsOut == Tryz.f3.resultTypes.toList.any (Tryz.pinned.checked.prog.loopsFrom ·))) = true := by kernel_rfl
theorem roomRawMatchesReferenceFact22 : ((Rows.roomRawMatchesReferenceRow.plainKeys == Tryz.pinned.checked.prog.plainKeys)) = true := by kernel_rfl
theorem roomRawMatchesReferenceFact23 : (Rows.roomRawMatchesReferenceRow.shortTexts.isNone) = true := by kernel_rfl
theorem roomRawMatchesReferenceFact24 : (Tryz.pinned.checked.prog.stopsHeard) = true := by kernel_rfl
theorem roomRawMatchesReferenceFact25 : (Tryz.pinned.checked.prog.mayEnter) = true := by kernel_rfl
theorem roomRawMatchesReferenceFact26 : ((Rows.roomRawMatchesReferenceRow.lifted == Tryz.pinned.checked.prog.liftsFinal)) = true := by kernel_rfl
theorem roomRawMatchesReferenceFact27 : ((Tryz.pinned.checked.prog.make == some Rows.roomRawMatchesReferenceRow.make)) = true := by kernel_rfl
theorem roomRawMatchesReferenceFact28 : ((Rows.roomRawMatchesReferenceRow.kinds == (if Rows.roomRawMatchesReferenceRow.domain.isEmpty then [] else Tryz.f3.params.toList.map fun t => match Tryz.pinned.checked.prog.underlying t with | some (.int k) => some k | _ => none))) = true := by kernel_rfl
theorem roomRawMatchesReferenceFact29 : ((Rows.roomRawMatchesReferenceRow.pinned == Rows.roomRawMatchesReferenceRow.pinnedBy)) = true := by kernel_rfl
theorem roomRawMatchesReferenceFact30 : ((Rows.roomRawMatchesReferenceRow.veiled == (Tryz.f3.params.toList ++ Rows.roomRawMatchesReferenceSpec.plain.varTypes Tryz.pinned.checked.prog ++ Tryz.f3.resultTypes.toList).any (Tryz.pinned.checked.prog.veiledRec ·))) = true := by kernel_rfl
theorem roomRawMatchesReferenceFact31 : (Rows.roomRawMatchesReferenceRow.veiledFits Tryz.pinned.checked.prog Tryz.f3.params.toList (Tryz.f3.params.toList ++ Rows.roomRawMatchesReferenceSpec.plain.varTypes Tryz.pinned.checked.prog ++ Tryz.f3.resultTypes.toList)) = true := by kernel_rfl
theorem roomRawMatchesReferenceFactG : ((Rows.roomRawMatchesReferenceRow.inPlace == Tryz.pinned.checked.prog.inPlace 3) && (Rows.roomRawMatchesReferenceRow.unfollowed == Tryz.pinned.checked.prog.unfollowed 3) && (Rows.roomRawMatchesReferenceRow.recurses == Tryz.pinned.checked.prog.recurses 3) && (Rows.roomRawMatchesReferenceRow.named == Tryz.pinned.checked.prog.varsNamed 3)) = true := by kernel_rfl
theorem roomRawMatchesReferenceNamed : Tryz.pinned.checked.prog.funcNamed Rows.roomRawMatchesReferenceRow.func = some 3 := by kernel_rfl
theorem roomRawMatchesReferenceInstance : Tryz.f3.isInstance Tryz.pinned.checked.prog Rows.roomRawMatchesReferenceRow.origin Rows.roomRawMatchesReferenceRow.targs := of_decide_eq_true (by kernel_rfl)
theorem roomRawMatchesReferenceWrapper : Tryz.f3.isWrapper Tryz.pinned.checked.prog Rows.roomRawMatchesReferenceRow.wrapper Rows.roomRawMatchesReferenceRow.mainSum := by unfold Func.isWrapper; first | (rw [if_pos (by decide +kernel)]; kernel_rfl) | (rw [if_neg (by decide +kernel)]; exact ⟨rfl, rfl⟩)

end Go.Proofs.YtjcobnhnmlhbaaaGreat
end

