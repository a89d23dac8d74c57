/-
  rk facts of the row of SeriesMatchesReference, by the kernel.
-/
import Derived.Test.YtmbjejcfadllnaaGreatRows
import Derived.ProofKit
set_option linter.unusedVariables false
set_option linter.unusedSimpArgs false
set_option linter.unusedSectionVars false
section
namespace Go.Proofs.YtmbjejcfadllnaaGreat
open Go Go.ChangeShapes Go.WideShapes Go.ChangeAt Go.RowKit
theorem aG{a b:Bool}(ha:a=true)(hb:b=true):(a&&b)=true:=by rw [ha,hb];rfl
theorem bX{a b:Bool}(h:(a&&b)=true):a=true:=by cases a<;>simp_all
theorem dF{a b:Bool}(h:(a&&b)=true):b=true:=by cases a<;>simp_all
theorem jy:(Rows.seriesMatchesReferenceRow.wf (OpenSpec.ofChange Rows.seriesMatchesReferenceSpec))=true:=by kernel_rfl
theorem jz:(laidOutB Tryz.pinned.checked.prog)=true:=by kernel_rfl
theorem jA:(mapsRowed Tryz.pinned.checked.prog)=true:=by kernel_rfl
theorem jB:(Tryz.f3.params.all (Tryz.pinned.checked.prog.readableRec ·))=true:=by kernel_rfl
theorem jC:(namedTie Tryz.pinned.checked.prog Rows.seriesMatchesReferenceRow.named Rows.seriesMatchesReferenceSpec.vars)=true:=by kernel_rfl
theorem jD:((Rows.seriesMatchesReferenceRow.stops == []))=true:=by kernel_rfl
theorem jE:((Tryz.pinned.checked.prog.stops == []))=true:=by kernel_rfl
theorem jF:((Rows.seriesMatchesReferenceRow.knobs == []))=true:=by kernel_rfl
theorem jG:((Tryz.pinned.checked.prog.stopKnobs == []))=true:=by kernel_rfl
theorem iN:((Rows.seriesMatchesReferenceRow.maps ==(Tryz.f3.params.toList++Rows.seriesMatchesReferenceSpec.plain.varTypes Tryz.pinned.checked.prog).any (Tryz.pinned.checked.prog.mapsRec ·)))=true:=by kernel_rfl
theorem iO:((Rows.seriesMatchesReferenceRow.ifaces ==(Tryz.f3.params.toList++Rows.seriesMatchesReferenceSpec.plain.varTypes Tryz.pinned.checked.prog).any (Tryz.pinned.checked.prog.ifacesRec ·)))=true:=by kernel_rfl
theorem iP:((Rows.seriesMatchesReferenceRow.mapsOut == Tryz.pinned.checked.prog.mapsAmong Tryz.f3.resultTypes.toList))=true:=by kernel_rfl
theorem iQ:((Rows.seriesMatchesReferenceRow.loops ==(Tryz.f3.params.toList++Rows.seriesMatchesReferenceSpec.plain.varTypes Tryz.pinned.checked.prog).any (Tryz.pinned.checked.prog.loopsFrom ·)))=true:=by kernel_rfl
theorem iR:((Rows.seriesMatchesReferenceRow.wideKeys ==(Tryz.f3.params.toList++Rows.seriesMatchesReferenceSpec.plain.varTypes Tryz.pinned.checked.prog++Tryz.f3.resultTypes.toList).any (Tryz.pinned.checked.prog.wideKeysFrom ·)))=true:=by kernel_rfl
theorem iS:(Rows.seriesMatchesReferenceSpec.vars.all (Tryz.pinned.checked.prog.varReadable ·))=true:=by kernel_rfl
theorem iT:(Tryz.f3.resultTypes.all (fun t=>Tryz.pinned.checked.prog.readableRec t&&decide (t<Tryz.pinned.checked.prog.types.size)))=true:=by kernel_rfl
theorem iU:((Rows.seriesMatchesReferenceRow.ifacesOut == Tryz.f3.resultTypes.toList.any (Tryz.pinned.checked.prog.ifacesRec ·)))=true:=by kernel_rfl
theorem iV:((Rows.seriesMatchesReferenceRow.loopsOut == Tryz.f3.resultTypes.toList.any (Tryz.pinned.checked.prog.loopsFrom ·)))=true:=by kernel_rfl
theorem iW:((Rows.seriesMatchesReferenceRow.plainKeys == Tryz.pinned.checked.prog.plainKeys))=true:=by kernel_rfl
theorem iX:(Rows.seriesMatchesReferenceRow.shortTexts.isNone)=true:=by kernel_rfl
theorem iY:(Tryz.pinned.checked.prog.stopsHeard)=true:=by kernel_rfl
theorem iZ:(Tryz.pinned.checked.prog.mayEnter)=true:=by kernel_rfl
theorem ja:((Rows.seriesMatchesReferenceRow.lifted == Tryz.pinned.checked.prog.liftsFinal))=true:=by kernel_rfl
theorem jb:((Tryz.pinned.checked.prog.make == some Rows.seriesMatchesReferenceRow.make))=true:=by kernel_rfl
theorem jc:((Rows.seriesMatchesReferenceRow.kinds ==(if Rows.seriesMatchesReferenceRow.domain.isEmpty then []else Tryz.f3.params.toList.map fun t=>match Tryz.pinned.checked.prog.underlying t with | some (.int k)=>some k | _=>none)))=true:=by kernel_rfl
theorem jd:((Rows.seriesMatchesReferenceRow.pinned == Rows.seriesMatchesReferenceRow.pinnedBy))=true:=by kernel_rfl
theorem je:((Rows.seriesMatchesReferenceRow.veiled ==(Tryz.f3.params.toList++Rows.seriesMatchesReferenceSpec.plain.varTypes Tryz.pinned.checked.prog++Tryz.f3.resultTypes.toList).any (Tryz.pinned.checked.prog.veiledRec ·)))=true:=by kernel_rfl
theorem jf:(Rows.seriesMatchesReferenceRow.veiledFits Tryz.pinned.checked.prog Tryz.f3.params.toList (Tryz.f3.params.toList++Rows.seriesMatchesReferenceSpec.plain.varTypes Tryz.pinned.checked.prog++Tryz.f3.resultTypes.toList))=true:=by kernel_rfl
theorem cN:((Rows.seriesMatchesReferenceRow.inPlace == Tryz.pinned.checked.prog.inPlace 3)&&(Rows.seriesMatchesReferenceRow.unfollowed == Tryz.pinned.checked.prog.unfollowed 3)&&(Rows.seriesMatchesReferenceRow.recurses == Tryz.pinned.checked.prog.recurses 3)&&(Rows.seriesMatchesReferenceRow.named == Tryz.pinned.checked.prog.varsNamed 3))=true:=by kernel_rfl
theorem jH:Tryz.pinned.checked.prog.funcNamed Rows.seriesMatchesReferenceRow.func=some 3:=by kernel_rfl
theorem gR:Tryz.f3.isInstance Tryz.pinned.checked.prog Rows.seriesMatchesReferenceRow.origin Rows.seriesMatchesReferenceRow.targs:=of_decide_eq_true (by kernel_rfl)
theorem iD:Tryz.f3.isWrapper Tryz.pinned.checked.prog Rows.seriesMatchesReferenceRow.wrapper Rows.seriesMatchesReferenceRow.mainSum:=by unfold Func.isWrapper;first | (rw [if_pos (by decide +kernel)];kernel_rfl) | (rw [if_neg (by decide +kernel)];exact⟨rfl,rfl⟩)
end Go.Proofs.YtmbjejcfadllnaaGreat
end
