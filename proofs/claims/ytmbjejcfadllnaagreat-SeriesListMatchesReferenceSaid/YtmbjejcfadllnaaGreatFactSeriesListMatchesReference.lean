/-
  rj facts of the row of SeriesListMatchesReference, by the kernel.
-/
import Derived.Test.YtmbjejcfadllnaaGreatRows
import Derived.ProofKit
set_option linter.unusedVariables false
set_option linter.unusedSimpArgs false
set_option linter.unusedSectionVars false
section
namespace Go.Proofs.YtmbjejcfadllnaaGreat
open Go Go.ChangeShapes Go.WideShapes Go.ChangeAt Go.RowKit
theorem aD{a b:Bool}(ha:a=true)(hb:b=true):(a&&b)=true:=by rw [ha,hb];rfl
theorem bP{a b:Bool}(h:(a&&b)=true):a=true:=by cases a<;>simp_all
theorem dc{a b:Bool}(h:(a&&b)=true):b=true:=by cases a<;>simp_all
theorem ig:(Rows.seriesListMatchesReferenceRow.wf (OpenSpec.ofChange Rows.seriesListMatchesReferenceSpec))=true:=by kernel_rfl
theorem ij:(laidOutB Tryz.pinned.checked.prog)=true:=by kernel_rfl
theorem ik:(mapsRowed Tryz.pinned.checked.prog)=true:=by kernel_rfl
theorem im:(Tryz.f4.params.all (Tryz.pinned.checked.prog.readableRec ·))=true:=by kernel_rfl
theorem iq:(namedTie Tryz.pinned.checked.prog Rows.seriesListMatchesReferenceRow.named Rows.seriesListMatchesReferenceSpec.vars)=true:=by kernel_rfl
theorem ir:((Rows.seriesListMatchesReferenceRow.stops == []))=true:=by kernel_rfl
theorem iu:((Tryz.pinned.checked.prog.stops == []))=true:=by kernel_rfl
theorem iw:((Rows.seriesListMatchesReferenceRow.knobs == []))=true:=by kernel_rfl
theorem iy:((Tryz.pinned.checked.prog.stopKnobs == []))=true:=by kernel_rfl
theorem gH:((Rows.seriesListMatchesReferenceRow.maps ==(Tryz.f4.params.toList++Rows.seriesListMatchesReferenceSpec.plain.varTypes Tryz.pinned.checked.prog).any (Tryz.pinned.checked.prog.mapsRec ·)))=true:=by kernel_rfl
theorem gI:((Rows.seriesListMatchesReferenceRow.ifaces ==(Tryz.f4.params.toList++Rows.seriesListMatchesReferenceSpec.plain.varTypes Tryz.pinned.checked.prog).any (Tryz.pinned.checked.prog.ifacesRec ·)))=true:=by kernel_rfl
theorem gJ:((Rows.seriesListMatchesReferenceRow.mapsOut == Tryz.pinned.checked.prog.mapsAmong Tryz.f4.resultTypes.toList))=true:=by kernel_rfl
theorem gK:((Rows.seriesListMatchesReferenceRow.loops ==(Tryz.f4.params.toList++Rows.seriesListMatchesReferenceSpec.plain.varTypes Tryz.pinned.checked.prog).any (Tryz.pinned.checked.prog.loopsFrom ·)))=true:=by kernel_rfl
theorem gL:((Rows.seriesListMatchesReferenceRow.wideKeys ==(Tryz.f4.params.toList++Rows.seriesListMatchesReferenceSpec.plain.varTypes Tryz.pinned.checked.prog++Tryz.f4.resultTypes.toList).any (Tryz.pinned.checked.prog.wideKeysFrom ·)))=true:=by kernel_rfl
theorem gM:(Rows.seriesListMatchesReferenceSpec.vars.all (Tryz.pinned.checked.prog.varReadable ·))=true:=by kernel_rfl
theorem gN:(Tryz.f4.resultTypes.all (fun t=>Tryz.pinned.checked.prog.readableRec t&&decide (t<Tryz.pinned.checked.prog.types.size)))=true:=by kernel_rfl
theorem gO:((Rows.seriesListMatchesReferenceRow.ifacesOut == Tryz.f4.resultTypes.toList.any (Tryz.pinned.checked.prog.ifacesRec ·)))=true:=by kernel_rfl
theorem gP:((Rows.seriesListMatchesReferenceRow.loopsOut == Tryz.f4.resultTypes.toList.any (Tryz.pinned.checked.prog.loopsFrom ·)))=true:=by kernel_rfl
theorem gQ:((Rows.seriesListMatchesReferenceRow.plainKeys == Tryz.pinned.checked.prog.plainKeys))=true:=by kernel_rfl
theorem gR:(Rows.seriesListMatchesReferenceRow.shortTexts.isNone)=true:=by kernel_rfl
theorem gS:(Tryz.pinned.checked.prog.stopsHeard)=true:=by kernel_rfl
theorem gT:(Tryz.pinned.checked.prog.mayEnter)=true:=by kernel_rfl
theorem gU:((Rows.seriesListMatchesReferenceRow.lifted == Tryz.pinned.checked.prog.liftsFinal))=true:=by kernel_rfl
theorem gV:((Tryz.pinned.checked.prog.make == some Rows.seriesListMatchesReferenceRow.make))=true:=by kernel_rfl
theorem gW:((Rows.seriesListMatchesReferenceRow.kinds ==(if Rows.seriesListMatchesReferenceRow.domain.isEmpty then []else Tryz.f4.params.toList.map fun t=>match Tryz.pinned.checked.prog.underlying t with | some (.int k)=>some k | _=>none)))=true:=by kernel_rfl
theorem gX:((Rows.seriesListMatchesReferenceRow.pinned == Rows.seriesListMatchesReferenceRow.pinnedBy))=true:=by kernel_rfl
theorem gY:((Rows.seriesListMatchesReferenceRow.veiled ==(Tryz.f4.params.toList++Rows.seriesListMatchesReferenceSpec.plain.varTypes Tryz.pinned.checked.prog++Tryz.f4.resultTypes.toList).any (Tryz.pinned.checked.prog.veiledRec ·)))=true:=by kernel_rfl
theorem gZ:(Rows.seriesListMatchesReferenceRow.veiledFits Tryz.pinned.checked.prog Tryz.f4.params.toList (Tryz.f4.params.toList++Rows.seriesListMatchesReferenceSpec.plain.varTypes Tryz.pinned.checked.prog++Tryz.f4.resultTypes.toList))=true:=by kernel_rfl
theorem cJ:((Rows.seriesListMatchesReferenceRow.inPlace == Tryz.pinned.checked.prog.inPlace 4)&&(Rows.seriesListMatchesReferenceRow.unfollowed == Tryz.pinned.checked.prog.unfollowed 4)&&(Rows.seriesListMatchesReferenceRow.recurses == Tryz.pinned.checked.prog.recurses 4)&&(Rows.seriesListMatchesReferenceRow.named == Tryz.pinned.checked.prog.varsNamed 4))=true:=by kernel_rfl
theorem iC:Tryz.pinned.checked.prog.funcNamed Rows.seriesListMatchesReferenceRow.func=some 4:=by kernel_rfl
theorem fU:Tryz.f4.isInstance Tryz.pinned.checked.prog Rows.seriesListMatchesReferenceRow.origin Rows.seriesListMatchesReferenceRow.targs:=of_decide_eq_true (by kernel_rfl)
theorem gd:Tryz.f4.isWrapper Tryz.pinned.checked.prog Rows.seriesListMatchesReferenceRow.wrapper Rows.seriesListMatchesReferenceRow.mainSum:=by unfold Func.isWrapper;first | (rw [if_pos (by decide +kernel)];kernel_rfl) | (rw [if_neg (by decide +kernel)];exact⟨rfl,rfl⟩)
end Go.Proofs.YtmbjejcfadllnaaGreat
end
