/-
  oD facts of ta row of DD, by ta kernel.
-/
import Derived.Test.YtnaofdffomdmhaaGreatRows
import Derived.ProofKit
set_option linter.unusedVariables false
set_option linter.unusedSimpArgs false
set_option linter.unusedSectionVars false
section
namespace Go.Proofs.YtnaofdffomdmhaaGreat
open Go Go.ChangeShapes Go.WideShapes Go.ChangeAt Go.RowKit
theorem aX{a b:Bool}(ha:a=true)(hb:b=true):(a&&b)=true:=by rw [ha,hb];rfl
theorem en{a b:Bool}(h:(a&&b)=true):a=true:=by cases a<;>simp_all
theorem jF{a b:Bool}(h:(a&&b)=true):b=true:=by cases a<;>simp_all
theorem tP:(Rows.holdStandsRow.wf (OpenSpec.ofChange Rows.holdStandsSpec))=true:=by kernel_rfl
theorem tQ:(laidOutB Tryz.pinned.checked.prog)=true:=by kernel_rfl
theorem tR:(mapsRowed Tryz.pinned.checked.prog)=true:=by kernel_rfl
theorem tS:(Tryz.f8.params.all (Tryz.pinned.checked.prog.readableRec ·))=true:=by kernel_rfl
theorem tT:(namedTie Tryz.pinned.checked.prog Rows.holdStandsRow.named Rows.holdStandsSpec.vars)=true:=by kernel_rfl
theorem tU:((Rows.holdStandsRow.stops == []))=true:=by kernel_rfl
theorem tV:((Tryz.pinned.checked.prog.stops == []))=true:=by kernel_rfl
theorem tW:((Rows.holdStandsRow.knobs == []))=true:=by kernel_rfl
theorem tX:((Tryz.pinned.checked.prog.stopKnobs == []))=true:=by kernel_rfl
theorem rE:((Rows.holdStandsRow.maps ==(Tryz.f8.params.toList++Rows.holdStandsSpec.plain.varTypes Tryz.pinned.checked.prog).any (Tryz.pinned.checked.prog.mapsRec ·)))=true:=by kernel_rfl
theorem rF:((Rows.holdStandsRow.ifaces ==(Tryz.f8.params.toList++Rows.holdStandsSpec.plain.varTypes Tryz.pinned.checked.prog).any (Tryz.pinned.checked.prog.ifacesRec ·)))=true:=by kernel_rfl
theorem rG:((Rows.holdStandsRow.mapsOut == Tryz.pinned.checked.prog.mapsAmong Tryz.f8.resultTypes.toList))=true:=by kernel_rfl
theorem rH:((Rows.holdStandsRow.loops ==(Tryz.f8.params.toList++Rows.holdStandsSpec.plain.varTypes Tryz.pinned.checked.prog).any (Tryz.pinned.checked.prog.loopsFrom ·)))=true:=by kernel_rfl
theorem rI:((Rows.holdStandsRow.wideKeys ==(Tryz.f8.params.toList++Rows.holdStandsSpec.plain.varTypes Tryz.pinned.checked.prog++Tryz.f8.resultTypes.toList).any (Tryz.pinned.checked.prog.wideKeysFrom ·)))=true:=by kernel_rfl
theorem rJ:(Rows.holdStandsSpec.vars.all (Tryz.pinned.checked.prog.varReadable ·))=true:=by kernel_rfl
theorem rK:(Tryz.f8.resultTypes.all (fun t=>Tryz.pinned.checked.prog.readableRec t&&decide (t<Tryz.pinned.checked.prog.types.size)))=true:=by kernel_rfl
theorem rL:((Rows.holdStandsRow.ifacesOut == Tryz.f8.resultTypes.toList.any (Tryz.pinned.checked.prog.ifacesRec ·)))=true:=by kernel_rfl
theorem rM:((Rows.holdStandsRow.loopsOut == Tryz.f8.resultTypes.toList.any (Tryz.pinned.checked.prog.loopsFrom ·)))=true:=by kernel_rfl
theorem rN:((Rows.holdStandsRow.plainKeys == Tryz.pinned.checked.prog.plainKeys))=true:=by kernel_rfl
theorem rO:(Rows.holdStandsRow.shortTexts.isNone)=true:=by kernel_rfl
theorem rP:(Tryz.pinned.checked.prog.stopsHeard)=true:=by kernel_rfl
theorem rQ:(Tryz.pinned.checked.prog.mayEnter)=true:=by kernel_rfl
theorem rR:((Rows.holdStandsRow.lifted == Tryz.pinned.checked.prog.liftsFinal))=true:=by kernel_rfl
theorem rS:((Tryz.pinned.checked.prog.make == some Rows.holdStandsRow.make))=true:=by kernel_rfl
theorem rT:((Rows.holdStandsRow.kinds ==(if Rows.holdStandsRow.domain.isEmpty then []else Tryz.f8.params.toList.map fun t=>match Tryz.pinned.checked.prog.underlying t with | some (.int k)=>some k | _=>none)))=true:=by kernel_rfl
theorem rU:((Rows.holdStandsRow.pinned == Rows.holdStandsRow.pinnedBy))=true:=by kernel_rfl
theorem rV:((Rows.holdStandsRow.veiled ==(Tryz.f8.params.toList++Rows.holdStandsSpec.plain.varTypes Tryz.pinned.checked.prog++Tryz.f8.resultTypes.toList).any (Tryz.pinned.checked.prog.veiledRec ·)))=true:=by kernel_rfl
theorem rW:(Rows.holdStandsRow.veiledFits Tryz.pinned.checked.prog Tryz.f8.params.toList (Tryz.f8.params.toList++Rows.holdStandsSpec.plain.varTypes Tryz.pinned.checked.prog++Tryz.f8.resultTypes.toList))=true:=by kernel_rfl
theorem fW:((Rows.holdStandsRow.inPlace == Tryz.pinned.checked.prog.inPlace 8)&&(Rows.holdStandsRow.unfollowed == Tryz.pinned.checked.prog.unfollowed 8)&&(Rows.holdStandsRow.recurses == Tryz.pinned.checked.prog.recurses 8)&&(Rows.holdStandsRow.named == Tryz.pinned.checked.prog.varsNamed 8))=true:=by kernel_rfl
theorem tY:Tryz.pinned.checked.prog.funcNamed Rows.holdStandsRow.func=some 8:=by kernel_rfl
theorem oP:Tryz.f8.isInstance Tryz.pinned.checked.prog Rows.holdStandsRow.origin Rows.holdStandsRow.targs:=of_decide_eq_true (by kernel_rfl)
theorem pR:Tryz.f8.isWrapper Tryz.pinned.checked.prog Rows.holdStandsRow.wrapper Rows.holdStandsRow.mainSum:=by unfold Func.isWrapper;first | (rw [if_pos (by decide +kernel)];kernel_rfl) | (rw [if_neg (by decide +kernel)];exact⟨rfl,rfl⟩)
end Go.Proofs.YtnaofdffomdmhaaGreat
end
