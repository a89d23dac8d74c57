/-
  Closed facts of the row of SeriesRejectsInvalid, by the kernel.
-/
import Derived.Test.YtmbjejcfadllnaaGreatRows
import Derived.ProofKit
set_option linter.unusedVariables false
set_option linter.unusedSimpArgs false
set_option linter.unusedSectionVars false
section
namespace Go.Proofs.YtmbjejcfadllnaaGreat
open Go Go.ChangeShapes Go.WideShapes Go.ChangeAt Go.RowKit
theorem aA{a b:Bool}(ha:a=true)(hb:b=true):(a&&b)=true:=by rw [ha,hb];rfl
theorem bY{a b:Bool}(h:(a&&b)=true):a=true:=by cases a<;>simp_all
theorem fM{a b:Bool}(h:(a&&b)=true):b=true:=by cases a<;>simp_all
theorem ny:(Rows.seriesRejectsInvalidRow.wf (OpenSpec.ofChange Rows.seriesRejectsInvalidSpec))=true:=by kernel_rfl
theorem ni:(laidOutB Tryz.pinned.checked.prog)=true:=by kernel_rfl
theorem mZ:(mapsRowed Tryz.pinned.checked.prog)=true:=by kernel_rfl
theorem mY:(Tryz.f8.params.all (Tryz.pinned.checked.prog.readableRec ·))=true:=by kernel_rfl
theorem mX:(namedTie Tryz.pinned.checked.prog Rows.seriesRejectsInvalidRow.named Rows.seriesRejectsInvalidSpec.vars)=true:=by kernel_rfl
theorem mW:((Rows.seriesRejectsInvalidRow.stops == []))=true:=by kernel_rfl
theorem mQ:((Tryz.pinned.checked.prog.stops == []))=true:=by kernel_rfl
theorem mP:((Rows.seriesRejectsInvalidRow.knobs == []))=true:=by kernel_rfl
theorem mM:((Tryz.pinned.checked.prog.stopKnobs == []))=true:=by kernel_rfl
theorem lW:((Rows.seriesRejectsInvalidRow.maps ==(Tryz.f8.params.toList++Rows.seriesRejectsInvalidSpec.plain.varTypes Tryz.pinned.checked.prog).any (Tryz.pinned.checked.prog.mapsRec ·)))=true:=by kernel_rfl
theorem lV:((Rows.seriesRejectsInvalidRow.ifaces ==(Tryz.f8.params.toList++Rows.seriesRejectsInvalidSpec.plain.varTypes Tryz.pinned.checked.prog).any (Tryz.pinned.checked.prog.ifacesRec ·)))=true:=by kernel_rfl
theorem lU:((Rows.seriesRejectsInvalidRow.mapsOut == Tryz.pinned.checked.prog.mapsAmong Tryz.f8.resultTypes.toList))=true:=by kernel_rfl
theorem lT:((Rows.seriesRejectsInvalidRow.loops ==(Tryz.f8.params.toList++Rows.seriesRejectsInvalidSpec.plain.varTypes Tryz.pinned.checked.prog).any (Tryz.pinned.checked.prog.loopsFrom ·)))=true:=by kernel_rfl
theorem lS:((Rows.seriesRejectsInvalidRow.wideKeys ==(Tryz.f8.params.toList++Rows.seriesRejectsInvalidSpec.plain.varTypes Tryz.pinned.checked.prog++Tryz.f8.resultTypes.toList).any (Tryz.pinned.checked.prog.wideKeysFrom ·)))=true:=by kernel_rfl
theorem lQ:(Rows.seriesRejectsInvalidSpec.vars.all (Tryz.pinned.checked.prog.varReadable ·))=true:=by kernel_rfl
theorem lN:(Tryz.f8.resultTypes.all (fun t=>Tryz.pinned.checked.prog.readableRec t&&decide (t<Tryz.pinned.checked.prog.types.size)))=true:=by kernel_rfl
theorem lM:((Rows.seriesRejectsInvalidRow.ifacesOut == Tryz.f8.resultTypes.toList.any (Tryz.pinned.checked.prog.ifacesRec ·)))=true:=by kernel_rfl
theorem lK:((Rows.seriesRejectsInvalidRow.loopsOut == Tryz.f8.resultTypes.toList.any (Tryz.pinned.checked.prog.loopsFrom ·)))=true:=by kernel_rfl
theorem lJ:((Rows.seriesRejectsInvalidRow.plainKeys == Tryz.pinned.checked.prog.plainKeys))=true:=by kernel_rfl
theorem lI:(Rows.seriesRejectsInvalidRow.shortTexts.isNone)=true:=by kernel_rfl
theorem lH:(Tryz.pinned.checked.prog.stopsHeard)=true:=by kernel_rfl
theorem lG:(Tryz.pinned.checked.prog.mayEnter)=true:=by kernel_rfl
theorem lF:((Rows.seriesRejectsInvalidRow.lifted == Tryz.pinned.checked.prog.liftsFinal))=true:=by kernel_rfl
theorem lD:((Tryz.pinned.checked.prog.make == some Rows.seriesRejectsInvalidRow.make))=true:=by kernel_rfl
theorem lC:((Rows.seriesRejectsInvalidRow.kinds ==(if Rows.seriesRejectsInvalidRow.domain.isEmpty then []else Tryz.f8.params.toList.map fun t=>match Tryz.pinned.checked.prog.underlying t with | some (.int k)=>some k | _=>none)))=true:=by kernel_rfl
theorem lu:((Rows.seriesRejectsInvalidRow.pinned == Rows.seriesRejectsInvalidRow.pinnedBy))=true:=by kernel_rfl
theorem lq:((Rows.seriesRejectsInvalidRow.veiled ==(Tryz.f8.params.toList++Rows.seriesRejectsInvalidSpec.plain.varTypes Tryz.pinned.checked.prog++Tryz.f8.resultTypes.toList).any (Tryz.pinned.checked.prog.veiledRec ·)))=true:=by kernel_rfl
theorem kZ:(Rows.seriesRejectsInvalidRow.veiledFits Tryz.pinned.checked.prog Tryz.f8.params.toList (Tryz.f8.params.toList++Rows.seriesRejectsInvalidSpec.plain.varTypes Tryz.pinned.checked.prog++Tryz.f8.resultTypes.toList))=true:=by kernel_rfl
theorem dQ:((Rows.seriesRejectsInvalidRow.inPlace == Tryz.pinned.checked.prog.inPlace 8)&&(Rows.seriesRejectsInvalidRow.unfollowed == Tryz.pinned.checked.prog.unfollowed 8)&&(Rows.seriesRejectsInvalidRow.recurses == Tryz.pinned.checked.prog.recurses 8)&&(Rows.seriesRejectsInvalidRow.named == Tryz.pinned.checked.prog.varsNamed 8))=true:=by kernel_rfl
theorem mJ:Tryz.pinned.checked.prog.funcNamed Rows.seriesRejectsInvalidRow.func=some 8:=by kernel_rfl
theorem kC:Tryz.f8.isInstance Tryz.pinned.checked.prog Rows.seriesRejectsInvalidRow.origin Rows.seriesRejectsInvalidRow.targs:=of_decide_eq_true (by kernel_rfl)
theorem kL:Tryz.f8.isWrapper Tryz.pinned.checked.prog Rows.seriesRejectsInvalidRow.wrapper Rows.seriesRejectsInvalidRow.mainSum:=by unfold Func.isWrapper;first | (rw [if_pos (by decide +kernel)];kernel_rfl) | (rw [if_neg (by decide +kernel)];exact⟨rfl,rfl⟩)
end Go.Proofs.YtmbjejcfadllnaaGreat
end
