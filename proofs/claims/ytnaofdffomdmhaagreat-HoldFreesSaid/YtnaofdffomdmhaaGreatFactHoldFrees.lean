/-
  nV facts of the row of HoldFrees, by the kernel.
-/
import Derived.Test.YtnaofdffomdmhaaGreatRows
import Derived.ProofKit
set_option linter.unusedVariables false
set_option linter.unusedSimpArgs false
set_option linter.unusedSectionVars false
section
namespace Go.Proofs.YtnaofdffomdmhaaGreat
open Go Go.ChangeShapes Go.WideShapes Go.ChangeAt Go.RowKit
theorem aW{a b:Bool}(ha:a=true)(hb:b=true):(a&&b)=true:=by rw [ha,hb];rfl
theorem eZ{a b:Bool}(h:(a&&b)=true):a=true:=by cases a<;>simp_all
theorem jW{a b:Bool}(h:(a&&b)=true):b=true:=by cases a<;>simp_all
theorem uP:(Rows.holdFreesRow.wf (OpenSpec.ofChange Rows.holdFreesSpec))=true:=by kernel_rfl
theorem uQ:(laidOutB Tryz.pinned.checked.prog)=true:=by kernel_rfl
theorem uR:(mapsRowed Tryz.pinned.checked.prog)=true:=by kernel_rfl
theorem uS:(Tryz.f6.params.all (Tryz.pinned.checked.prog.readableRec ·))=true:=by kernel_rfl
theorem uT:(namedTie Tryz.pinned.checked.prog Rows.holdFreesRow.named Rows.holdFreesSpec.vars)=true:=by kernel_rfl
theorem uU:((Rows.holdFreesRow.stops == []))=true:=by kernel_rfl
theorem uV:((Tryz.pinned.checked.prog.stops == []))=true:=by kernel_rfl
theorem uW:((Rows.holdFreesRow.knobs == []))=true:=by kernel_rfl
theorem uX:((Tryz.pinned.checked.prog.stopKnobs == []))=true:=by kernel_rfl
theorem su:((Rows.holdFreesRow.maps ==(Tryz.f6.params.toList++Rows.holdFreesSpec.plain.varTypes Tryz.pinned.checked.prog).any (Tryz.pinned.checked.prog.mapsRec ·)))=true:=by kernel_rfl
theorem sw:((Rows.holdFreesRow.ifaces ==(Tryz.f6.params.toList++Rows.holdFreesSpec.plain.varTypes Tryz.pinned.checked.prog).any (Tryz.pinned.checked.prog.ifacesRec ·)))=true:=by kernel_rfl
theorem sy:((Rows.holdFreesRow.mapsOut == Tryz.pinned.checked.prog.mapsAmong Tryz.f6.resultTypes.toList))=true:=by kernel_rfl
theorem sA:((Rows.holdFreesRow.loops ==(Tryz.f6.params.toList++Rows.holdFreesSpec.plain.varTypes Tryz.pinned.checked.prog).any (Tryz.pinned.checked.prog.loopsFrom ·)))=true:=by kernel_rfl
theorem sC:((Rows.holdFreesRow.wideKeys ==(Tryz.f6.params.toList++Rows.holdFreesSpec.plain.varTypes Tryz.pinned.checked.prog++Tryz.f6.resultTypes.toList).any (Tryz.pinned.checked.prog.wideKeysFrom ·)))=true:=by kernel_rfl
theorem sD:(Rows.holdFreesSpec.vars.all (Tryz.pinned.checked.prog.varReadable ·))=true:=by kernel_rfl
theorem sE:(Tryz.f6.resultTypes.all (fun t=>Tryz.pinned.checked.prog.readableRec t&&decide (t<Tryz.pinned.checked.prog.types.size)))=true:=by kernel_rfl
theorem sF:((Rows.holdFreesRow.ifacesOut == Tryz.f6.resultTypes.toList.any (Tryz.pinned.checked.prog.ifacesRec ·)))=true:=by kernel_rfl
theorem sG:((Rows.holdFreesRow.loopsOut == Tryz.f6.resultTypes.toList.any (Tryz.pinned.checked.prog.loopsFrom ·)))=true:=by kernel_rfl
theorem sH:((Rows.holdFreesRow.plainKeys == Tryz.pinned.checked.prog.plainKeys))=true:=by kernel_rfl
theorem sI:(Rows.holdFreesRow.shortTexts.isNone)=true:=by kernel_rfl
theorem sK:(Tryz.pinned.checked.prog.stopsHeard)=true:=by kernel_rfl
theorem sL:(Tryz.pinned.checked.prog.mayEnter)=true:=by kernel_rfl
theorem sM:((Rows.holdFreesRow.lifted == Tryz.pinned.checked.prog.liftsFinal))=true:=by kernel_rfl
theorem sN:((Tryz.pinned.checked.prog.make == some Rows.holdFreesRow.make))=true:=by kernel_rfl
theorem sO:((Rows.holdFreesRow.kinds ==(if Rows.holdFreesRow.domain.isEmpty then []else Tryz.f6.params.toList.map fun t=>match Tryz.pinned.checked.prog.underlying t with | some (.int k)=>some k | _=>none)))=true:=by kernel_rfl
theorem sP:((Rows.holdFreesRow.pinned == Rows.holdFreesRow.pinnedBy))=true:=by kernel_rfl
theorem sQ:((Rows.holdFreesRow.veiled ==(Tryz.f6.params.toList++Rows.holdFreesSpec.plain.varTypes Tryz.pinned.checked.prog++Tryz.f6.resultTypes.toList).any (Tryz.pinned.checked.prog.veiledRec ·)))=true:=by kernel_rfl
theorem sR:(Rows.holdFreesRow.veiledFits Tryz.pinned.checked.prog Tryz.f6.params.toList (Tryz.f6.params.toList++Rows.holdFreesSpec.plain.varTypes Tryz.pinned.checked.prog++Tryz.f6.resultTypes.toList))=true:=by kernel_rfl
theorem gF:((Rows.holdFreesRow.inPlace == Tryz.pinned.checked.prog.inPlace 6)&&(Rows.holdFreesRow.unfollowed == Tryz.pinned.checked.prog.unfollowed 6)&&(Rows.holdFreesRow.recurses == Tryz.pinned.checked.prog.recurses 6)&&(Rows.holdFreesRow.named == Tryz.pinned.checked.prog.varsNamed 6))=true:=by kernel_rfl
theorem uY:Tryz.pinned.checked.prog.funcNamed Rows.holdFreesRow.func=some 6:=by kernel_rfl
theorem ph:Tryz.f6.isInstance Tryz.pinned.checked.prog Rows.holdFreesRow.origin Rows.holdFreesRow.targs:=of_decide_eq_true (by kernel_rfl)
theorem qJ:Tryz.f6.isWrapper Tryz.pinned.checked.prog Rows.holdFreesRow.wrapper Rows.holdFreesRow.mainSum:=by unfold Func.isWrapper;first | (rw [if_pos (by decide +kernel)];kernel_rfl) | (rw [if_neg (by decide +kernel)];exact⟨rfl,rfl⟩)
end Go.Proofs.YtnaofdffomdmhaaGreat
end
