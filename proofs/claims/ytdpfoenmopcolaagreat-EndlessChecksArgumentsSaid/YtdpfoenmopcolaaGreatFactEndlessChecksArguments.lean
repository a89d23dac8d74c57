/-
  Closed facts of the row of EndlessChecksArguments, by the kernel.
-/
import Derived.Test.YtdpfoenmopcolaaGreatRows
import Derived.ProofKit

set_option linter.unusedVariables false
set_option linter.unusedSimpArgs false
set_option linter.unusedSectionVars false

section
namespace Go.Proofs.YtdpfoenmopcolaaGreat
open Go Go.ChangeShapes Go.WideShapes Go.ChangeAt Go.RowKit

theorem endlessChecksArgumentsandI {a b : Bool} (ha : a = true) (hb : b = true) : (a && b) = true := by rw [ha, hb]; rfl
theorem endlessChecksArgumentsandL {a b : Bool} (h : (a && b) = true) : a = true := by cases a <;> simp_all
theorem endlessChecksArgumentsandR {a b : Bool} (h : (a && b) = true) : b = true := by cases a <;> simp_all

theorem endlessChecksArgumentsFact0 : (Rows.endlessChecksArgumentsRow.wf (OpenSpec.ofChange Rows.endlessChecksArgumentsSpec)) = true := by kernel_rfl
theorem endlessChecksArgumentsFact1 : (laidOutB Tryz.pinned.checked.prog) = true := by kernel_rfl
theorem endlessChecksArgumentsFact2 : (mapsRowed Tryz.pinned.checked.prog) = true := by kernel_rfl
theorem endlessChecksArgumentsFact3 : (Tryz.f3.params.all (Tryz.pinned.checked.prog.readableRec ·)) = true := by kernel_rfl
theorem endlessChecksArgumentsFact4 : (namedTie Tryz.pinned.checked.prog Rows.endlessChecksArgumentsRow.named Rows.endlessChecksArgumentsSpec.vars) = true := by kernel_rfl
theorem endlessChecksArgumentsFact5 : ((Rows.endlessChecksArgumentsRow.stops == [])) = true := by kernel_rfl
theorem endlessChecksArgumentsFact6 : ((Tryz.pinned.checked.prog.stops == [])) = true := by kernel_rfl
theorem endlessChecksArgumentsFact7 : ((Rows.endlessChecksArgumentsRow.knobs == [])) = true := by kernel_rfl
theorem endlessChecksArgumentsFact8 : ((Tryz.pinned.checked.prog.stopKnobs == [])) = true := by kernel_rfl
theorem endlessChecksArgumentsFact13 : ((Rows.endlessChecksArgumentsRow.maps == (Tryz.f3.params.toList ++ Rows.endlessChecksArgumentsSpec.plain.varTypes Tryz.pinned.checked.prog).any (Tryz.pinned.checked.prog.mapsRec ·))) = true := by kernel_rfl
theorem endlessChecksArgumentsFact14 : ((Rows.endlessChecksArgumentsRow.ifaces == (Tryz.f3.params.toList ++ Rows.endlessChecksArgumentsSpec.plain.varTypes Tryz.pinned.checked.prog).any (Tryz.pinned.checked.prog.ifacesRec ·))) = true := by kernel_rfl
theorem endlessChecksArgumentsFact15 : ((Rows.endlessChecksArgumentsRow.mapsOut == Tryz.pinned.checked.prog.mapsAmong Tryz.f3.resultTypes.toList)) = true := by kernel_rfl
theorem endlessChecksArgumentsFact16 : ((Rows.endlessChecksArgumentsRow.loops == (Tryz.f3.params.toList ++ Rows.endlessChecksArgumentsSpec.plain.varTypes Tryz.pinned.checked.prog).any (Tryz.pinned.checked.prog.loopsFrom ·))) = true := by kernel_rfl
theorem endlessChecksArgumentsFact17 : ((Rows.endlessChecksArgumentsRow.wideKeys == (Tryz.f3.params.toList ++ Rows.endlessChecksArgumentsSpec.plain.varTypes Tryz.pinned.checked.prog ++ Tryz.f3.resultTypes.toList).any (Tryz.pinned.checked.prog.wideKeysFrom ·))) = true := by kernel_rfl
theorem endlessChecksArgumentsFact18 : (Rows.endlessChecksArgumentsSpec.vars.all (Tryz.pinned.checked.prog.varReadable ·)) = true := by kernel_rfl
theorem endlessChecksArgumentsFact19 : (Tryz.f3.resultTypes.all (fun t => Tryz.pinned.checked.prog.readableRec t && decide (t < Tryz.pinned.checked.prog.types.size))) = true := by kernel_rfl
theorem endlessChecksArgumentsFact20 : ((Rows.endlessChecksArgumentsRow.ifacesOut == Tryz.f3.resultTypes.toList.any (Tryz.pinned.checked.prog.ifacesRec ·))) = true := by kernel_rfl
theorem endlessChecksArgumentsFact21 : ((Rows.endlessChecksArgumentsRow.loopsOut == Tryz.f3.resultTypes.toList.any (Tryz.pinned.checked.prog.loopsFrom ·))) = true := by kernel_rfl
theorem endlessChecksArgumentsFact22 : ((Rows.endlessChecksArgumentsRow.plainKeys == Tryz.pinned.checked.prog.plainKeys)) = true := by kernel_rfl
theorem endlessChecksArgumentsFact23 : (Rows.endlessChecksArgumentsRow.shortTexts.isNone) = true := by kernel_rfl
theorem endlessChecksArgumentsFact24 : (Tryz.pinned.checked.prog.stopsHeard) = true := by kernel_rfl
theorem endlessChecksArgumentsFact25 : (Tryz.pinned.checked.prog.mayEnter) = true := by kernel_rfl
theorem endlessChecksArgumentsFact26 : ((Rows.endlessChecksArgumentsRow.lifted == Tryz.pinned.checked.prog.liftsFinal)) = true := by kernel_rfl
theorem endlessChecksArgumentsFact27 : ((Tryz.pinned.checked.prog.make == some Rows.endlessChecksArgumentsRow.make)) = true := by kernel_rfl
theorem endlessChecksArgumentsFact28 : ((Rows.endlessChecksArgumentsRow.kinds == (if Rows.endlessChecksArgumentsRow.domain.isEmpty then [] else Tryz.f3.params.toList.map fun t => match Tryz.pinned.checked.prog.underlying t with | some (.int k) => some k | _ => none))) = true := by kernel_rfl
theorem endlessChecksArgumentsFact29 : ((Rows.endlessChecksArgumentsRow.pinned == Rows.endlessChecksArgumentsRow.pinnedBy)) = true := by kernel_rfl
theorem endlessChecksArgumentsFact30 : ((Rows.endlessChecksArgumentsRow.veiled == (Tryz.f3.params.toList ++ Rows.endlessChecksArgumentsSpec.plain.varTypes Tryz.pinned.checked.prog ++ Tryz.f3.resultTypes.toList).any (Tryz.pinned.checked.prog.veiledRec ·))) = true := by kernel_rfl
theorem endlessChecksArgumentsFact31 : (Rows.endlessChecksArgumentsRow.veiledFits Tryz.pinned.checked.prog Tryz.f3.params.toList (Tryz.f3.params.toList ++ Rows.endlessChecksArgumentsSpec.plain.varTypes Tryz.pinned.checked.prog ++ Tryz.f3.resultTypes.toList)) = true := by kernel_rfl
theorem endlessChecksArgumentsFactG : ((Rows.endlessChecksArgumentsRow.inPlace == Tryz.pinned.checked.prog.inPlace 3) && (Rows.endlessChecksArgumentsRow.unfollowed == Tryz.pinned.checked.prog.unfollowed 3) && (Rows.endlessChecksArgumentsRow.recurses == Tryz.pinned.checked.prog.recurses 3) && (Rows.endlessChecksArgumentsRow.named == Tryz.pinned.checked.prog.varsNamed 3)) = true := by kernel_rfl
theorem endlessChecksArgumentsNamed : Tryz.pinned.checked.prog.funcNamed Rows.endlessChecksArgumentsRow.func = some 3 := by kernel_rfl
theorem endlessChecksArgumentsInstance : Tryz.f3.isInstance Tryz.pinned.checked.prog Rows.endlessChecksArgumentsRow.origin Rows.endlessChecksArgumentsRow.targs := of_decide_eq_true (by kernel_rfl)
theorem endlessChecksArgumentsWrapper : Tryz.f3.isWrapper Tryz.pinned.checked.prog Rows.endlessChecksArgumentsRow.wrapper Rows.endlessChecksArgumentsRow.mainSum := by unfold Func.isWrapper; first | (rw [if_pos (by decide +kernel)]; kernel_rfl) | (rw [if_neg (by decide +kernel)]; exact ⟨rfl, rfl⟩)

end Go.Proofs.YtdpfoenmopcolaaGreat
end

