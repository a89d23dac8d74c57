/-
  qZ facts of the row of SeriesLists, by the kernel.
-/
import Derived.Test.YtmbjejcfadllnaaGreatRows
import Derived.ProofKit
set_option linter.unusedVariables false
set_option linter.unusedSimpArgs false
set_option linter.unusedSectionVars false
section
namespace Go.Proofs.YtmbjejcfadllnaaGreat
open Go Go.ChangeShapes Go.WideShapes Go.ChangeAt Go.RowKit
theorem aM{a b:Bool}(ha:a=true)(hb:b=true):(a&&b)=true:=by rw [ha,hb];rfl
theorem dy{a b:Bool}(h:(a&&b)=true):a=true:=by cases a<;>simp_all
theorem ie{a b:Bool}(h:(a&&b)=true):b=true:=by cases a<;>simp_all
theorem rW:(Rows.seriesListsRow.wf (OpenSpec.ofChange Rows.seriesListsSpec))=true:=by kernel_rfl
theorem rX:(laidOutB Tryz.pinned.checked.prog)=true:=by kernel_rfl
theorem rY:(mapsRowed Tryz.pinned.checked.prog)=true:=by kernel_rfl
theorem rZ:(Tryz.f5.params.all (Tryz.pinned.checked.prog.readableRec ·))=true:=by kernel_rfl
theorem sa:(namedTie Tryz.pinned.checked.prog Rows.seriesListsRow.named Rows.seriesListsSpec.vars)=true:=by kernel_rfl
theorem sb:((Rows.seriesListsRow.stops == []))=true:=by kernel_rfl
theorem sd:((Tryz.pinned.checked.prog.stops == []))=true:=by kernel_rfl
theorem se:((Rows.seriesListsRow.knobs == []))=true:=by kernel_rfl
theorem sf:((Tryz.pinned.checked.prog.stopKnobs == []))=true:=by kernel_rfl
theorem qg:((Rows.seriesListsRow.maps ==(Tryz.f5.params.toList++Rows.seriesListsSpec.plain.varTypes Tryz.pinned.checked.prog).any (Tryz.pinned.checked.prog.mapsRec ·)))=true:=by kernel_rfl
theorem qh:((Rows.seriesListsRow.ifaces ==(Tryz.f5.params.toList++Rows.seriesListsSpec.plain.varTypes Tryz.pinned.checked.prog).any (Tryz.pinned.checked.prog.ifacesRec ·)))=true:=by kernel_rfl
theorem qi:((Rows.seriesListsRow.mapsOut == Tryz.pinned.checked.prog.mapsAmong Tryz.f5.resultTypes.toList))=true:=by kernel_rfl
theorem qj:((Rows.seriesListsRow.loops ==(Tryz.f5.params.toList++Rows.seriesListsSpec.plain.varTypes Tryz.pinned.checked.prog).any (Tryz.pinned.checked.prog.loopsFrom ·)))=true:=by kernel_rfl
theorem qk:((Rows.seriesListsRow.wideKeys ==(Tryz.f5.params.toList++Rows.seriesListsSpec.plain.varTypes Tryz.pinned.checked.prog++Tryz.f5.resultTypes.toList).any (Tryz.pinned.checked.prog.wideKeysFrom ·)))=true:=by kernel_rfl
theorem qm:(Rows.seriesListsSpec.vars.all (Tryz.pinned.checked.prog.varReadable ·))=true:=by kernel_rfl
theorem qn:(Tryz.f5.resultTypes.all (fun t=>Tryz.pinned.checked.prog.readableRec t&&decide (t<Tryz.pinned.checked.prog.types.size)))=true:=by kernel_rfl
theorem qo:((Rows.seriesListsRow.ifacesOut == Tryz.f5.resultTypes.toList.any (Tryz.pinned.checked.prog.ifacesRec ·)))=true:=by kernel_rfl
theorem qp:((Rows.seriesListsRow.loopsOut == Tryz.f5.resultTypes.toList.any (Tryz.pinned.checked.prog.loopsFrom ·)))=true:=by kernel_rfl
theorem qq:((Rows.seriesListsRow.plainKeys == Tryz.pinned.checked.prog.plainKeys))=true:=by kernel_rfl
theorem qt:(Rows.seriesListsRow.shortTexts.isNone)=true:=by kernel_rfl
theorem qu:(Tryz.pinned.checked.prog.stopsHeard)=true:=by kernel_rfl
theorem qv:(Tryz.pinned.checked.prog.mayEnter)=true:=by kernel_rfl
theorem qw:((Rows.seriesListsRow.lifted == Tryz.pinned.checked.prog.liftsFinal))=true:=by kernel_rfl
theorem qy:((Tryz.pinned.checked.prog.make == some Rows.seriesListsRow.make))=true:=by kernel_rfl
theorem qA:((Rows.seriesListsRow.kinds ==(if Rows.seriesListsRow.domain.isEmpty then []else Tryz.f5.params.toList.map fun t=>match Tryz.pinned.checked.prog.underlying t with | some (.int k)=>some k | _=>none)))=true:=by kernel_rfl
theorem qB:((Rows.seriesListsRow.pinned == Rows.seriesListsRow.pinnedBy))=true:=by kernel_rfl
theorem qC:((Rows.seriesListsRow.veiled ==(Tryz.f5.params.toList++Rows.seriesListsSpec.plain.varTypes Tryz.pinned.checked.prog++Tryz.f5.resultTypes.toList).any (Tryz.pinned.checked.prog.veiledRec ·)))=true:=by kernel_rfl
theorem qD:(Rows.seriesListsRow.veiledFits Tryz.pinned.checked.prog Tryz.f5.params.toList (Tryz.f5.params.toList++Rows.seriesListsSpec.plain.varTypes Tryz.pinned.checked.prog++Tryz.f5.resultTypes.toList))=true:=by kernel_rfl
theorem eH:((Rows.seriesListsRow.inPlace == Tryz.pinned.checked.prog.inPlace 5)&&(Rows.seriesListsRow.unfollowed == Tryz.pinned.checked.prog.unfollowed 5)&&(Rows.seriesListsRow.recurses == Tryz.pinned.checked.prog.recurses 5)&&(Rows.seriesListsRow.named == Tryz.pinned.checked.prog.varsNamed 5))=true:=by kernel_rfl
theorem si:Tryz.pinned.checked.prog.funcNamed Rows.seriesListsRow.func=some 5:=by kernel_rfl
theorem nP:Tryz.f5.isInstance Tryz.pinned.checked.prog Rows.seriesListsRow.origin Rows.seriesListsRow.targs:=of_decide_eq_true (by kernel_rfl)
theorem oG:Tryz.f5.isWrapper Tryz.pinned.checked.prog Rows.seriesListsRow.wrapper Rows.seriesListsRow.mainSum:=by unfold Func.isWrapper;first | (rw [if_pos (by decide +kernel)];kernel_rfl) | (rw [if_neg (by decide +kernel)];exact⟨rfl,rfl⟩)
end Go.Proofs.YtmbjejcfadllnaaGreat
end
