/-
  Closed facts of the row of RoomSharing, by the kernel.
-/
import Derived.Test.YtjcobnhnmlhbaaaGreatRows
import Derived.ProofKit

set_option linter.unusedVariables false
set_option linter.unusedSimpArgs false
set_option linter.unusedSectionVars false

section
namespace Go.Proofs.YtjcobnhnmlhbaaaGreat
open Go Go.ChangeShapes Go.WideShapes Go.ChangeAt Go.RowKit

theorem roomSharingandI {a b : Bool} (ha : a = true) (hb : b = true) : (a && b) = true := by rw [ha, hb]; rfl
theorem roomSharingandL {a b : Bool} (h : (a && b) = true) : a = true := by cases a <;> simp_all
theorem roomSharingandR {a b : Bool} (h : (a && b) = true) : b = true := by cases a <;> simp_all

theorem roomSharingFact0 : (Rows.roomSharingRow.wf (OpenSpec.ofChange Rows.roomSharingSpec)) = true := by kernel_rfl
theorem roomSharingFact1 : (laidOutB Tryz.pinned.checked.prog) = true := by kernel_rfl
theorem roomSharingFact2 : (mapsRowed Tryz.pinned.checked.prog) = true := by kernel_rfl
theorem roomSharingFact3 : (Tryz.f4.params.all (Tryz.pinned.checked.prog.readableRec ·)) = true := by kernel_rfl
theorem roomSharingFact4 : (namedTie Tryz.pinned.checked.prog Rows.roomSharingRow.named Rows.roomSharingSpec.vars) = true := by kernel_rfl
theorem roomSharingFact5 : ((Rows.roomSharingRow.stops == [])) = true := by kernel_rfl
theorem roomSharingFact6 : ((Tryz.pinned.checked.prog.stops == [])) = true := by kernel_rfl
theorem roomSharingFact7 : ((Rows.roomSharingRow.knobs == [])) = true := by kernel_rfl
theorem roomSharingFact8 : ((Tryz.pinned.checked.prog.stopKnobs == [])) = true := by kernel_rfl
theorem roomSharingFact13 : ((Rows.roomSharingRow.maps == (Tryz.f4.params.toList ++ Rows.roomSharingSpec.plain.varTypes Tryz.pinned.checked.prog).any (Tryz.pinned.checked.prog.mapsRec ·))) = true := by kernel_rfl
theorem roomSharingFact14 : ((Rows.roomSharingRow.ifaces == (Tryz.f4.params.toList ++ Rows.roomSharingSpec.plain.varTypes Tryz.pinned.checked.prog).any (Tryz.pinned.checked.prog.ifacesRec ·))) = true := by kernel_rfl
theorem roomSharingFact15 : ((Rows.roomSharingRow.mapsOut == Tryz.pinned.checked.prog.mapsAmong Tryz.f4.resultTypes.toList)) = true := by kernel_rfl
theorem roomSharingFact16 : ((Rows.roomSharingRow.loops == (Tryz.f4.params.toList ++ Rows.roomSharingSpec.plain.varTypes Tryz.pinned.checked.prog).any (Tryz.pinned.checked.prog.loopsFrom ·))) = true := by kernel_rfl
theorem roomSharingFact17 : ((Rows.roomSharingRow.wideKeys == (Tryz.f4.params.toList ++ Rows.roomSharingSpec.plain.varTypes Tryz.pinned.checked.prog ++ Tryz.f4.resultTypes.toList).any (Tryz.pinned.checked.prog.wideKeysFrom ·))) = true := by kernel_rfl
theorem roomSharingFact18 : (Rows.roomSharingSpec.vars.all (Tryz.pinned.checked.prog.varReadable ·)) = true := by kernel_rfl
theorem roomSharingFact19 : (Tryz.f4.resultTypes.all (fun t => Tryz.pinned.checked.prog.readableRec t && decide (t < Tryz.pinned.checked.prog.types.size))) = true := by kernel_rfl
theorem roomSharingFact20 : ((Rows.roomSharingRow.ifacesOut == Tryz.f4.resultTypes.toList.any (Tryz.pinned.checked.prog.ifacesRec ·))) = true := by kernel_rfl
theorem roomSharingFact21 : ((Rows.roomSharingRow.loopsOut == Tryz.f4.resultTypes.toList.any (Tryz.pinned.checked.prog.loopsFrom ·))) = true := by kernel_rfl
theorem roomSharingFact22 : ((Rows.roomSharingRow.plainKeys == Tryz.pinned.checked.prog.plainKeys)) = true := by kernel_rfl
theorem roomSharingFact23 : (Rows.roomSharingRow.shortTexts.isNone) = true := by kernel_rfl
theorem roomSharingFact24 : (Tryz.pinned.checked.prog.stopsHeard) = true := by kernel_rfl
theorem roomSharingFact25 : (Tryz.pinned.checked.prog.mayEnter) = true := by kernel_rfl
theorem roomSharingFact26 : ((Rows.roomSharingRow.lifted == Tryz.pinned.checked.prog.liftsFinal)) = true := by kernel_rfl
theorem roomSharingFact27 : ((Tryz.pinned.checked.prog.make == some Rows.roomSharingRow.make)) = true := by kernel_rfl
theorem roomSharingFact28 : ((Rows.roomSharingRow.kinds == (if Rows.roomSharingRow.domain.isEmpty then [] else Tryz.f4.params.toList.map fun t => match Tryz.pinned.checked.prog.underlying t with | some (.int k) => some k | _ => none))) = true := by kernel_rfl
theorem roomSharingFact29 : ((Rows.roomSharingRow.pinned == Rows.roomSharingRow.pinnedBy)) = true := by kernel_rfl
theorem roomSharingFact30 : ((Rows.roomSharingRow.veiled == (Tryz.f4.params.toList ++ Rows.roomSharingSpec.plain.varTypes Tryz.pinned.checked.prog ++ Tryz.f4.resultTypes.toList).any (Tryz.pinned.checked.prog.veiledRec ·))) = true := by kernel_rfl
theorem roomSharingFact31 : (Rows.roomSharingRow.veiledFits Tryz.pinned.checked.prog Tryz.f4.params.toList (Tryz.f4.params.toList ++ Rows.roomSharingSpec.plain.varTypes Tryz.pinned.checked.prog ++ Tryz.f4.resultTypes.toList)) = true := by kernel_rfl
theorem roomSharingFactG : ((Rows.roomSharingRow.inPlace == Tryz.pinned.checked.prog.inPlace 4) && (Rows.roomSharingRow.unfollowed == Tryz.pinned.checked.prog.unfollowed 4) && (Rows.roomSharingRow.recurses == Tryz.pinned.checked.prog.recurses 4) && (Rows.roomSharingRow.named == Tryz.pinned.checked.prog.varsNamed 4)) = true := by kernel_rfl
theorem roomSharingNamed : Tryz.pinned.checked.prog.funcNamed Rows.roomSharingRow.func = some 4 := by kernel_rfl
theorem roomSharingInstance : Tryz.f4.isInstance Tryz.pinned.checked.prog Rows.roomSharingRow.origin Rows.roomSharingRow.targs := of_decide_eq_true (by kernel_rfl)
theorem roomSharingWrapper : Tryz.f4.isWrapper Tryz.pinned.checked.prog Rows.roomSharingRow.wrapper Rows.roomSharingRow.mainSum := by unfold Func.isWrapper; first | (rw [if_pos (by decide +kernel)]; kernel_rfl) | (rw [if_neg (by decide +kernel)]; exact ⟨rfl, rfl⟩)

end Go.Proofs.YtjcobnhnmlhbaaaGreat
end

