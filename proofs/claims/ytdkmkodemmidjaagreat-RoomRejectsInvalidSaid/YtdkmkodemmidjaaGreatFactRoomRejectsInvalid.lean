/-
  Closed facts of the row of RoomRejectsInvalid, by the kernel.
-/
import Derived.Test.YtdkmkodemmidjaaGreatRows
import Derived.ProofKit

set_option linter.unusedVariables false
set_option linter.unusedSimpArgs false
set_option linter.unusedSectionVars false

section
namespace Go.Proofs.YtdkmkodemmidjaaGreat
open Go Go.ChangeShapes Go.WideShapes Go.ChangeAt Go.RowKit

theorem roomRejectsInvalidandI {a b : Bool} (ha : a = true) (hb : b = true) : (a && b) = true := by rw [ha, hb]; rfl
theorem roomRejectsInvalidandL {a b : Bool} (h : (a && b) = true) : a = true := by cases a <;> simp_all
theorem roomRejectsInvalidandR {a b : Bool} (h : (a && b) = true) : b = true := by cases a <;> simp_all

theorem roomRejectsInvalidFact0 : (Rows.roomRejectsInvalidRow.wf (OpenSpec.ofChange Rows.roomRejectsInvalidSpec)) = true := by kernel_rfl
theorem roomRejectsInvalidFact1 : (laidOutB Tryz.pinned.checked.prog) = true := by kernel_rfl
theorem roomRejectsInvalidFact2 : (mapsRowed Tryz.pinned.checked.prog) = true := by kernel_rfl
theorem roomRejectsInvalidFact3 : (Tryz.f3.params.all (Tryz.pinned.checked.prog.readableRec ·)) = true := by kernel_rfl
theorem roomRejectsInvalidFact4 : (namedTie Tryz.pinned.checked.prog Rows.roomRejectsInvalidRow.named Rows.roomRejectsInvalidSpec.vars) = true := by kernel_rfl
theorem roomRejectsInvalidFact5 : ((Rows.roomRejectsInvalidRow.stops == [])) = true := by kernel_rfl
theorem roomRejectsInvalidFact6 : ((Tryz.pinned.checked.prog.stops == [])) = true := by kernel_rfl
theorem roomRejectsInvalidFact7 : ((Rows.roomRejectsInvalidRow.knobs == [])) = true := by kernel_rfl
theorem roomRejectsInvalidFact8 : ((Tryz.pinned.checked.prog.stopKnobs == [])) = true := by kernel_rfl
theorem roomRejectsInvalidFact13 : ((Rows.roomRejectsInvalidRow.maps == (Tryz.f3.params.toList ++ Rows.roomRejectsInvalidSpec.plain.varTypes Tryz.pinned.checked.prog).any (Tryz.pinned.checked.prog.mapsRec ·))) = true := by kernel_rfl
theorem roomRejectsInvalidFact14 : ((Rows.roomRejectsInvalidRow.ifaces == (Tryz.f3.params.toList ++ Rows.roomRejectsInvalidSpec.plain.varTypes Tryz.pinned.checked.prog).any (Tryz.pinned.checked.prog.ifacesRec ·))) = true := by kernel_rfl
theorem roomRejectsInvalidFact15 : ((Rows.roomRejectsInvalidRow.mapsOut == Tryz.pinned.checked.prog.mapsAmong Tryz.f3.resultTypes.toList)) = true := by kernel_rfl
theorem roomRejectsInvalidFact16 : ((Rows.roomRejectsInvalidRow.loops == (Tryz.f3.params.toList ++ Rows.roomRejectsInvalidSpec.plain.varTypes Tryz.pinned.checked.prog).any (Tryz.pinned.checked.prog.loopsFrom ·))) = true := by kernel_rfl
theorem roomRejectsInvalidFact17 : ((Rows.roomRejectsInvalidRow.wideKeys == (Tryz.f3.params.toList ++ Rows.roomRejectsInvalidSpec.plain.varTypes Tryz.pinned.checked.prog ++ Tryz.f3.resultTypes.toList).any (Tryz.pinned.checked.prog.wideKeysFrom ·))) = true := by kernel_rfl
theorem roomRejectsInvalidFact18 : (Rows.roomRejectsInvalidSpec.vars.all (Tryz.pinned.checked.prog.varReadable ·)) = true := by kernel_rfl
theorem roomRejectsInvalidFact19 : (Tryz.f3.resultTypes.all (fun t => Tryz.pinned.checked.prog.readableRec t && decide (t < Tryz.pinned.checked.prog.types.size))) = true := by kernel_rfl
theorem roomRejectsInvalidFact20 : ((Rows.roomRejectsInvalidRow.ifacesOut == Tryz.f3.resultTypes.toList.any (Tryz.pinned.checked.prog.ifacesRec ·))) = true := by kernel_rfl
theorem roomRejectsInvalidFact21 : ((Rows.roomRejectsInvalidRow.loopsOut == Tryz.f3.resultTypes.toList.any (Tryz.pinned.checked.prog.loopsFrom ·))) = true := by kernel_rfl
theorem roomRejectsInvalidFact22 : ((Rows.roomRejectsInvalidRow.plainKeys == Tryz.pinned.checked.prog.plainKeys)) = true := by kernel_rfl
theorem roomRejectsInvalidFact23 : (Rows.roomRejectsInvalidRow.shortTexts.isNone) = true := by kernel_rfl
theorem roomRejectsInvalidFact24 : (Tryz.pinned.checked.prog.stopsHeard) = true := by kernel_rfl
theorem roomRejectsInvalidFact25 : (Tryz.pinned.checked.prog.mayEnter) = true := by kernel_rfl
theorem roomRejectsInvalidFact26 : ((Rows.roomRejectsInvalidRow.lifted == Tryz.pinned.checked.prog.liftsFinal)) = true := by kernel_rfl
theorem roomRejectsInvalidFact27 : ((Tryz.pinned.checked.prog.make == some Rows.roomRejectsInvalidRow.make)) = true := by kernel_rfl
theorem roomRejectsInvalidFact28 : ((Rows.roomRejectsInvalidRow.kinds == (if Rows.roomRejectsInvalidRow.domain.isEmpty then [] else Tryz.f3.params.toList.map fun t => match Tryz.pinned.checked.prog.underlying t with | some (.int k) => some k | _ => none))) = true := by kernel_rfl
theorem roomRejectsInvalidFact29 : ((Rows.roomRejectsInvalidRow.pinned == Rows.roomRejectsInvalidRow.pinnedBy)) = true := by kernel_rfl
theorem roomRejectsInvalidFact30 : ((Rows.roomRejectsInvalidRow.veiled == (Tryz.f3.params.toList ++ Rows.roomRejectsInvalidSpec.plain.varTypes Tryz.pinned.checked.prog ++ Tryz.f3.resultTypes.toList).any (Tryz.pinned.checked.prog.veiledRec ·))) = true := by kernel_rfl
theorem roomRejectsInvalidFact31 : (Rows.roomRejectsInvalidRow.veiledFits Tryz.pinned.checked.prog Tryz.f3.params.toList (Tryz.f3.params.toList ++ Rows.roomRejectsInvalidSpec.plain.varTypes Tryz.pinned.checked.prog ++ Tryz.f3.resultTypes.toList)) = true := by kernel_rfl
theorem roomRejectsInvalidFactG : ((Rows.roomRejectsInvalidRow.inPlace == Tryz.pinned.checked.prog.inPlace 3) && (Rows.roomRejectsInvalidRow.unfollowed == Tryz.pinned.checked.prog.unfollowed 3) && (Rows.roomRejectsInvalidRow.recurses == Tryz.pinned.checked.prog.recurses 3) && (Rows.roomRejectsInvalidRow.named == Tryz.pinned.checked.prog.varsNamed 3)) = true := by kernel_rfl
theorem roomRejectsInvalidNamed : Tryz.pinned.checked.prog.funcNamed Rows.roomRejectsInvalidRow.func = some 3 := by kernel_rfl
theorem roomRejectsInvalidInstance : Tryz.f3.isInstance Tryz.pinned.checked.prog Rows.roomRejectsInvalidRow.origin Rows.roomRejectsInvalidRow.targs := of_decide_eq_true (by kernel_rfl)
theorem roomRejectsInvalidWrapper : Tryz.f3.isWrapper Tryz.pinned.checked.prog Rows.roomRejectsInvalidRow.wrapper Rows.roomRejectsInvalidRow.mainSum := by unfold Func.isWrapper; first | (rw [if_pos (by decide +kernel)]; kernel_rfl) | (rw [if_neg (by decide +kernel)]; exact ⟨rfl, rfl⟩)

end Go.Proofs.YtdkmkodemmidjaaGreat
end

