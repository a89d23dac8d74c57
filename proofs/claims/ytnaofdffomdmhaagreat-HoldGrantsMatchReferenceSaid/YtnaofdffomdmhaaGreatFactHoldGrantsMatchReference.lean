/-
  sN facts of ug row of mB, by ug kernel.
-/
import Derived.Test.YtnaofdffomdmhaaGreatRows
import Derived.ProofKit
set_option linter.unusedVariables false
set_option linter.unusedSimpArgs false
set_option linter.unusedSectionVars false
section
namespace Go.Proofs.YtnaofdffomdmhaaGreat
open Go Go.ChangeShapes Go.WideShapes Go.ChangeAt Go.RowKit
theorem aJ{a b:Bool}(ha:a=true)(hb:b=true):(a&&b)=true:=by rw[ha,hb];rfl
theorem cq{a b:Bool}(h:(a&&b)=true):a=true:=by cases a<;>simp_all
theorem dK{a b:Bool}(h:(a&&b)=true):b=true:=by cases a<;>simp_all
theorem jO:(Rows.holdGrantsMatchReferenceRow.wf (OpenSpec.ofChange Rows.holdGrantsMatchReferenceSpec))=true:=by kernel_rfl
theorem jP:(laidOutB Tryz.pinned.checked.prog)=true:=by kernel_rfl
theorem jQ:(mapsRowed Tryz.pinned.checked.prog)=true:=by kernel_rfl
theorem jR:(Tryz.f3.params.all (Tryz.pinned.checked.prog.readableRec ·))=true:=by kernel_rfl
theorem jS:(namedTie Tryz.pinned.checked.prog Rows.holdGrantsMatchReferenceRow.named Rows.holdGrantsMatchReferenceSpec.vars)=true:=by kernel_rfl
theorem jT:((Rows.holdGrantsMatchReferenceRow.stops == []))=true:=by kernel_rfl
theorem jU:((Tryz.pinned.checked.prog.stops == []))=true:=by kernel_rfl
theorem jV:((Rows.holdGrantsMatchReferenceRow.knobs == []))=true:=by kernel_rfl
theorem jW:((Tryz.pinned.checked.prog.stopKnobs == []))=true:=by kernel_rfl
theorem iZ:((Rows.holdGrantsMatchReferenceRow.maps ==(Tryz.f3.params.toList++Rows.holdGrantsMatchReferenceSpec.plain.varTypes Tryz.pinned.checked.prog).any (Tryz.pinned.checked.prog.mapsRec ·)))=true:=by kernel_rfl
theorem i':((Rows.holdGrantsMatchReferenceRow.ifaces ==(Tryz.f3.params.toList++Rows.holdGrantsMatchReferenceSpec.plain.varTypes Tryz.pinned.checked.prog).any (Tryz.pinned.checked.prog.ifacesRec ·)))=true:=by kernel_rfl
theorem ja:((Rows.holdGrantsMatchReferenceRow.mapsOut == Tryz.pinned.checked.prog.mapsAmong Tryz.f3.resultTypes.toList))=true:=by kernel_rfl
theorem jb:((Rows.holdGrantsMatchReferenceRow.loops ==(Tryz.f3.params.toList++Rows.holdGrantsMatchReferenceSpec.plain.varTypes Tryz.pinned.checked.prog).any (Tryz.pinned.checked.prog.loopsFrom ·)))=true:=by kernel_rfl
theorem jc:((Rows.holdGrantsMatchReferenceRow.wideKeys ==(Tryz.f3.params.toList++Rows.holdGrantsMatchReferenceSpec.plain.varTypes Tryz.pinned.checked.prog++Tryz.f3.resultTypes.toList).any (Tryz.pinned.checked.prog.wideKeysFrom ·)))=true:=by kernel_rfl
theorem jd:(Rows.holdGrantsMatchReferenceSpec.vars.all (Tryz.pinned.checked.prog.varReadable ·))=true:=by kernel_rfl
theorem je:(Tryz.f3.resultTypes.all (λt=>Tryz.pinned.checked.prog.readableRec t&&decide (t<Tryz.pinned.checked.prog.types.size)))=true:=by kernel_rfl
theorem jf:((Rows.holdGrantsMatchReferenceRow.ifacesOut == Tryz.f3.resultTypes.toList.any (Tryz.pinned.checked.prog.ifacesRec ·)))=true:=by kernel_rfl
theorem jg:((Rows.holdGrantsMatchReferenceRow.loopsOut == Tryz.f3.resultTypes.toList.any (Tryz.pinned.checked.prog.loopsFrom ·)))=true:=by kernel_rfl
theorem jh:((Rows.holdGrantsMatchReferenceRow.plainKeys == Tryz.pinned.checked.prog.plainKeys))=true:=by kernel_rfl
theorem ji:(Rows.holdGrantsMatchReferenceRow.shortTexts.isNone)=true:=by kernel_rfl
theorem jj:(Tryz.pinned.checked.prog.stopsHeard)=true:=by kernel_rfl
theorem jk:(Tryz.pinned.checked.prog.mayEnter)=true:=by kernel_rfl
theorem jm:((Rows.holdGrantsMatchReferenceRow.lifted == Tryz.pinned.checked.prog.liftsFinal))=true:=by kernel_rfl
theorem jn:((Tryz.pinned.checked.prog.make == some Rows.holdGrantsMatchReferenceRow.make))=true:=by kernel_rfl
theorem jo:((Rows.holdGrantsMatchReferenceRow.kinds ==(if Rows.holdGrantsMatchReferenceRow.domain.isEmpty then []else Tryz.f3.params.toList.map λt=>match Tryz.pinned.checked.prog.underlying t with|some (.int k)=>some k|_=>none)))=true:=by kernel_rfl
theorem jq:((Rows.holdGrantsMatchReferenceRow.pinned == Rows.holdGrantsMatchReferenceRow.pinnedBy))=true:=by kernel_rfl
theorem jr:((Rows.holdGrantsMatchReferenceRow.veiled ==(Tryz.f3.params.toList++Rows.holdGrantsMatchReferenceSpec.plain.varTypes Tryz.pinned.checked.prog++Tryz.f3.resultTypes.toList).any (Tryz.pinned.checked.prog.veiledRec ·)))=true:=by kernel_rfl
theorem js:(Rows.holdGrantsMatchReferenceRow.veiledFits Tryz.pinned.checked.prog Tryz.f3.params.toList (Tryz.f3.params.toList++Rows.holdGrantsMatchReferenceSpec.plain.varTypes Tryz.pinned.checked.prog++Tryz.f3.resultTypes.toList))=true:=by kernel_rfl
theorem cV:((Rows.holdGrantsMatchReferenceRow.inPlace == Tryz.pinned.checked.prog.inPlace 3)&&(Rows.holdGrantsMatchReferenceRow.unfollowed == Tryz.pinned.checked.prog.unfollowed 3)&&(Rows.holdGrantsMatchReferenceRow.recurses == Tryz.pinned.checked.prog.recurses 3)&&(Rows.holdGrantsMatchReferenceRow.named == Tryz.pinned.checked.prog.varsNamed 3))=true:=by kernel_rfl
theorem jX:Tryz.pinned.checked.prog.funcNamed Rows.holdGrantsMatchReferenceRow.func=some 3:=by kernel_rfl
theorem iF:Tryz.f3.isInstance Tryz.pinned.checked.prog Rows.holdGrantsMatchReferenceRow.origin Rows.holdGrantsMatchReferenceRow.targs:=of_decide_eq_true (by kernel_rfl)
theorem iN:Tryz.f3.isWrapper Tryz.pinned.checked.prog Rows.holdGrantsMatchReferenceRow.wrapper Rows.holdGrantsMatchReferenceRow.mainSum:=by unfold Func.isWrapper;first|(rw[if_pos (by decide +kernel)];kernel_rfl)|(rw[if_neg (by decide +kernel)];exact⟨rfl,rfl⟩)
end Go.Proofs.YtnaofdffomdmhaaGreat
end
