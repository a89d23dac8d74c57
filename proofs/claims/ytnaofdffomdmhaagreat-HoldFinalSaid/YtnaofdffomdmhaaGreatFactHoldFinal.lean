/-
  nV facts of the row of HoldFinal, by the kernel.
-/
import Derived.Test.YtnaofdffomdmhaaGreatRows
import Derived.ProofKit
set_option linter.unusedVariables false
set_option linter.unusedSimpArgs false
set_option linter.unusedSectionVars false
section
namespace Go.Proofs.YtnaofdffomdmhaaGreat
open Go Go.ChangeShapes Go.WideShapes Go.ChangeAt Go.RowKit
theorem aV{a b:Bool}(ha:a=true)(hb:b=true):(a&&b)=true:=by rw [ha,hb];rfl
theorem eY{a b:Bool}(h:(a&&b)=true):a=true:=by cases a<;>simp_all
theorem jV{a b:Bool}(h:(a&&b)=true):b=true:=by cases a<;>simp_all
theorem uF:(Rows.holdFinalRow.wf (OpenSpec.ofChange Rows.holdFinalSpec))=true:=by kernel_rfl
theorem uG:(laidOutB Tryz.pinned.checked.prog)=true:=by kernel_rfl
theorem uH:(mapsRowed Tryz.pinned.checked.prog)=true:=by kernel_rfl
theorem uI:(Tryz.f5.params.all (Tryz.pinned.checked.prog.readableRec ·))=true:=by kernel_rfl
theorem uJ:(namedTie Tryz.pinned.checked.prog Rows.holdFinalRow.named Rows.holdFinalSpec.vars)=true:=by kernel_rfl
theorem uK:((Rows.holdFinalRow.stops == []))=true:=by kernel_rfl
theorem uL:((Tryz.pinned.checked.prog.stops == []))=true:=by kernel_rfl
theorem uM:((Rows.holdFinalRow.knobs == []))=true:=by kernel_rfl
theorem uN:((Tryz.pinned.checked.prog.stopKnobs == []))=true:=by kernel_rfl
theorem rO:((Rows.holdFinalRow.maps ==(Tryz.f5.params.toList++Rows.holdFinalSpec.plain.varTypes Tryz.pinned.checked.prog).any (Tryz.pinned.checked.prog.mapsRec ·)))=true:=by kernel_rfl
theorem rP:((Rows.holdFinalRow.ifaces ==(Tryz.f5.params.toList++Rows.holdFinalSpec.plain.varTypes Tryz.pinned.checked.prog).any (Tryz.pinned.checked.prog.ifacesRec ·)))=true:=by kernel_rfl
theorem rQ:((Rows.holdFinalRow.mapsOut == Tryz.pinned.checked.prog.mapsAmong Tryz.f5.resultTypes.toList))=true:=by kernel_rfl
theorem rR:((Rows.holdFinalRow.loops ==(Tryz.f5.params.toList++Rows.holdFinalSpec.plain.varTypes Tryz.pinned.checked.prog).any (Tryz.pinned.checked.prog.loopsFrom ·)))=true:=by kernel_rfl
theorem rS:((Rows.holdFinalRow.wideKeys ==(Tryz.f5.params.toList++Rows.holdFinalSpec.plain.varTypes Tryz.pinned.checked.prog++Tryz.f5.resultTypes.toList).any (Tryz.pinned.checked.prog.wideKeysFrom ·)))=true:=by kernel_rfl
theorem rT:(Rows.holdFinalSpec.vars.all (Tryz.pinned.checked.prog.varReadable ·))=true:=by kernel_rfl
theorem rU:(Tryz.f5.resultTypes.all (fun t=>Tryz.pinned.checked.prog.readableRec t&&decide (t<Tryz.pinned.checked.prog.types.size)))=true:=by kernel_rfl
theorem rV:((Rows.holdFinalRow.ifacesOut == Tryz.f5.resultTypes.toList.any (Tryz.pinned.checked.prog.ifacesRec ·)))=true:=by kernel_rfl
theorem rW:((Rows.holdFinalRow.loopsOut == Tryz.f5.resultTypes.toList.any (Tryz.pinned.checked.prog.loopsFrom ·)))=true:=by kernel_rfl
theorem rX:((Rows.holdFinalRow.plainKeys == Tryz.pinned.checked.prog.plainKeys))=true:=by kernel_rfl
theorem rY:(Rows.holdFinalRow.shortTexts.isNone)=true:=by kernel_rfl
theorem rZ:(Tryz.pinned.checked.prog.stopsHeard)=true:=by kernel_rfl
theorem sa:(Tryz.pinned.checked.prog.mayEnter)=true:=by kernel_rfl
theorem sb:((Rows.holdFinalRow.lifted == Tryz.pinned.checked.prog.liftsFinal))=true:=by kernel_rfl
theorem se:((Tryz.pinned.checked.prog.make == some Rows.holdFinalRow.make))=true:=by kernel_rfl
theorem sf:((Rows.holdFinalRow.kinds ==(if Rows.holdFinalRow.domain.isEmpty then []else Tryz.f5.params.toList.map fun t=>match Tryz.pinned.checked.prog.underlying t with | some (.int k)=>some k | _=>none)))=true:=by kernel_rfl
theorem si:((Rows.holdFinalRow.pinned == Rows.holdFinalRow.pinnedBy))=true:=by kernel_rfl
theorem sj:((Rows.holdFinalRow.veiled ==(Tryz.f5.params.toList++Rows.holdFinalSpec.plain.varTypes Tryz.pinned.checked.prog++Tryz.f5.resultTypes.toList).any (Tryz.pinned.checked.prog.veiledRec ·)))=true:=by kernel_rfl
theorem sk:(Rows.holdFinalRow.veiledFits Tryz.pinned.checked.prog Tryz.f5.params.toList (Tryz.f5.params.toList++Rows.holdFinalSpec.plain.varTypes Tryz.pinned.checked.prog++Tryz.f5.resultTypes.toList))=true:=by kernel_rfl
theorem gE:((Rows.holdFinalRow.inPlace == Tryz.pinned.checked.prog.inPlace 5)&&(Rows.holdFinalRow.unfollowed == Tryz.pinned.checked.prog.unfollowed 5)&&(Rows.holdFinalRow.recurses == Tryz.pinned.checked.prog.recurses 5)&&(Rows.holdFinalRow.named == Tryz.pinned.checked.prog.varsNamed 5))=true:=by kernel_rfl
theorem uO:Tryz.pinned.checked.prog.funcNamed Rows.holdFinalRow.func=some 5:=by kernel_rfl
theorem pe:Tryz.f5.isInstance Tryz.pinned.checked.prog Rows.holdFinalRow.origin Rows.holdFinalRow.targs:=of_decide_eq_true (by kernel_rfl)
theorem qH:Tryz.f5.isWrapper Tryz.pinned.checked.prog Rows.holdFinalRow.wrapper Rows.holdFinalRow.mainSum:=by unfold Func.isWrapper;first | (rw [if_pos (by decide +kernel)];kernel_rfl) | (rw [if_neg (by decide +kernel)];exact⟨rfl,rfl⟩)
end Go.Proofs.YtnaofdffomdmhaaGreat
end
