/-
  Closed facts of the row of SeriesLocalTimes, by the kernel.
-/
import Derived.Test.YtmbjejcfadllnaaGreatRows
import Derived.ProofKit
set_option linter.unusedVariables false
set_option linter.unusedSimpArgs false
set_option linter.unusedSectionVars false
section
namespace Go.Proofs.YtmbjejcfadllnaaGreat
open Go Go.ChangeShapes Go.WideShapes Go.ChangeAt Go.RowKit
theorem aJ{a b:Bool}(ha:a=true)(hb:b=true):(a&&b)=true:=by rw [ha,hb];rfl
theorem dP{a b:Bool}(h:(a&&b)=true):a=true:=by cases a<;>simp_all
theorem jf{a b:Bool}(h:(a&&b)=true):b=true:=by cases a<;>simp_all
theorem tC:(Rows.seriesLocalTimesRow.wf (OpenSpec.ofChange Rows.seriesLocalTimesSpec))=true:=by kernel_rfl
theorem tu:(laidOutB Tryz.pinned.checked.prog)=true:=by kernel_rfl
theorem tq:(mapsRowed Tryz.pinned.checked.prog)=true:=by kernel_rfl
theorem sZ:(Tryz.f7.params.all (Tryz.pinned.checked.prog.readableRec ·))=true:=by kernel_rfl
theorem sW:(namedTie Tryz.pinned.checked.prog Rows.seriesLocalTimesRow.named Rows.seriesLocalTimesSpec.vars)=true:=by kernel_rfl
theorem sV:((Rows.seriesLocalTimesRow.stops == []))=true:=by kernel_rfl
theorem sU:((Tryz.pinned.checked.prog.stops == []))=true:=by kernel_rfl
theorem sS:((Rows.seriesLocalTimesRow.knobs == []))=true:=by kernel_rfl
theorem sQ:((Tryz.pinned.checked.prog.stopKnobs == []))=true:=by kernel_rfl
theorem qW:((Rows.seriesLocalTimesRow.maps ==(Tryz.f7.params.toList++Rows.seriesLocalTimesSpec.plain.varTypes Tryz.pinned.checked.prog).any (Tryz.pinned.checked.prog.mapsRec ·)))=true:=by kernel_rfl
theorem qV:((Rows.seriesLocalTimesRow.ifaces ==(Tryz.f7.params.toList++Rows.seriesLocalTimesSpec.plain.varTypes Tryz.pinned.checked.prog).any (Tryz.pinned.checked.prog.ifacesRec ·)))=true:=by kernel_rfl
theorem qU:((Rows.seriesLocalTimesRow.mapsOut == Tryz.pinned.checked.prog.mapsAmong Tryz.f7.resultTypes.toList))=true:=by kernel_rfl
theorem qR:((Rows.seriesLocalTimesRow.loops ==(Tryz.f7.params.toList++Rows.seriesLocalTimesSpec.plain.varTypes Tryz.pinned.checked.prog).any (Tryz.pinned.checked.prog.loopsFrom ·)))=true:=by kernel_rfl
theorem qQ:((Rows.seriesLocalTimesRow.wideKeys ==(Tryz.f7.params.toList++Rows.seriesLocalTimesSpec.plain.varTypes Tryz.pinned.checked.prog++Tryz.f7.resultTypes.toList).any (Tryz.pinned.checked.prog.wideKeysFrom ·)))=true:=by kernel_rfl
theorem qP:(Rows.seriesLocalTimesSpec.vars.all (Tryz.pinned.checked.prog.varReadable ·))=true:=by kernel_rfl
theorem qO:(Tryz.f7.resultTypes.all (fun t=>Tryz.pinned.checked.prog.readableRec t&&decide (t<Tryz.pinned.checked.prog.types.size)))=true:=by kernel_rfl
theorem qN:((Rows.seriesLocalTimesRow.ifacesOut == Tryz.f7.resultTypes.toList.any (Tryz.pinned.checked.prog.ifacesRec ·)))=true:=by kernel_rfl
theorem qM:((Rows.seriesLocalTimesRow.loopsOut == Tryz.f7.resultTypes.toList.any (Tryz.pinned.checked.prog.loopsFrom ·)))=true:=by kernel_rfl
theorem qL:((Rows.seriesLocalTimesRow.plainKeys == Tryz.pinned.checked.prog.plainKeys))=true:=by kernel_rfl
theorem qK:(Rows.seriesLocalTimesRow.shortTexts.isNone)=true:=by kernel_rfl
theorem qJ:(Tryz.pinned.checked.prog.stopsHeard)=true:=by kernel_rfl
theorem qI:(Tryz.pinned.checked.prog.mayEnter)=true:=by kernel_rfl
theorem qH:((Rows.seriesLocalTimesRow.lifted == Tryz.pinned.checked.prog.liftsFinal))=true:=by kernel_rfl
theorem qG:((Tryz.pinned.checked.prog.make == some Rows.seriesLocalTimesRow.make))=true:=by kernel_rfl
theorem qF:((Rows.seriesLocalTimesRow.kinds ==(if Rows.seriesLocalTimesRow.domain.isEmpty then []else Tryz.f7.params.toList.map fun t=>match Tryz.pinned.checked.prog.underlying t with | some (.int k)=>some k | _=>none)))=true:=by kernel_rfl
theorem qE:((Rows.seriesLocalTimesRow.pinned == Rows.seriesLocalTimesRow.pinnedBy))=true:=by kernel_rfl
theorem qC:((Rows.seriesLocalTimesRow.veiled ==(Tryz.f7.params.toList++Rows.seriesLocalTimesSpec.plain.varTypes Tryz.pinned.checked.prog++Tryz.f7.resultTypes.toList).any (Tryz.pinned.checked.prog.veiledRec ·)))=true:=by kernel_rfl
theorem qB:(Rows.seriesLocalTimesRow.veiledFits Tryz.pinned.checked.prog Tryz.f7.params.toList (Tryz.f7.params.toList++Rows.seriesLocalTimesSpec.plain.varTypes Tryz.pinned.checked.prog++Tryz.f7.resultTypes.toList))=true:=by kernel_rfl
theorem gG:((Rows.seriesLocalTimesRow.inPlace == Tryz.pinned.checked.prog.inPlace 7)&&(Rows.seriesLocalTimesRow.unfollowed == Tryz.pinned.checked.prog.unfollowed 7)&&(Rows.seriesLocalTimesRow.recurses == Tryz.pinned.checked.prog.recurses 7)&&(Rows.seriesLocalTimesRow.named == Tryz.pinned.checked.prog.varsNamed 7))=true:=by kernel_rfl
theorem sO:Tryz.pinned.checked.prog.funcNamed Rows.seriesLocalTimesRow.func=some 7:=by kernel_rfl
theorem oN:Tryz.f7.isInstance Tryz.pinned.checked.prog Rows.seriesLocalTimesRow.origin Rows.seriesLocalTimesRow.targs:=of_decide_eq_true (by kernel_rfl)
theorem pJ:Tryz.f7.isWrapper Tryz.pinned.checked.prog Rows.seriesLocalTimesRow.wrapper Rows.seriesLocalTimesRow.mainSum:=by unfold Func.isWrapper;first | (rw [if_pos (by decide +kernel)];kernel_rfl) | (rw [if_neg (by decide +kernel)];exact⟨rfl,rfl⟩)
end Go.Proofs.YtmbjejcfadllnaaGreat
end
