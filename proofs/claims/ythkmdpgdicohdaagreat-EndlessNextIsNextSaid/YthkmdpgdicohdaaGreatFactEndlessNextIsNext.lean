/-
  nK facts of the row of EndlessNextIsNext, by the kernel.
-/
import Derived.Test.YthkmdpgdicohdaaGreatRows
import Derived.ProofKit
set_option linter.unusedVariables false
set_option linter.unusedSimpArgs false
set_option linter.unusedSectionVars false
section
namespace Go.Proofs.YthkmdpgdicohdaaGreat
open Go Go.ChangeShapes Go.WideShapes Go.ChangeAt Go.RowKit
theorem aA{a b:Bool}(ha:a=true)(hb:b=true):(a&&b)=true:=by rw [ha,hb];rfl
theorem bT{a b:Bool}(h:(a&&b)=true):a=true:=by cases a<;>simp_all
theorem dU{a b:Bool}(h:(a&&b)=true):b=true:=by cases a<;>simp_all
theorem jm:(Rows.endlessNextIsNextRow.wf (OpenSpec.ofChange Rows.endlessNextIsNextSpec))=true:=by kernel_rfl
theorem jn:(laidOutB Tryz.pinned.checked.prog)=true:=by kernel_rfl
theorem jo:(mapsRowed Tryz.pinned.checked.prog)=true:=by kernel_rfl
theorem jq:(Tryz.f6.params.all (Tryz.pinned.checked.prog.readableRec ·))=true:=by kernel_rfl
theorem jr:(namedTie Tryz.pinned.checked.prog Rows.endlessNextIsNextRow.named Rows.endlessNextIsNextSpec.vars)=true:=by kernel_rfl
theorem js:((Rows.endlessNextIsNextRow.stops == []))=true:=by kernel_rfl
theorem jt:((Tryz.pinned.checked.prog.stops == []))=true:=by kernel_rfl
theorem ju:((Rows.endlessNextIsNextRow.knobs == []))=true:=by kernel_rfl
theorem jv:((Tryz.pinned.checked.prog.stopKnobs == []))=true:=by kernel_rfl
theorem iy:((Rows.endlessNextIsNextRow.maps ==(Tryz.f6.params.toList++Rows.endlessNextIsNextSpec.plain.varTypes Tryz.pinned.checked.prog).any (Tryz.pinned.checked.prog.mapsRec ·)))=true:=by kernel_rfl
theorem iz:((Rows.endlessNextIsNextRow.ifaces ==(Tryz.f6.params.toList++Rows.endlessNextIsNextSpec.plain.varTypes Tryz.pinned.checked.prog).any (Tryz.pinned.checked.prog.ifacesRec ·)))=true:=by kernel_rfl
theorem iA:((Rows.endlessNextIsNextRow.mapsOut == Tryz.pinned.checked.prog.mapsAmong Tryz.f6.resultTypes.toList))=true:=by kernel_rfl
theorem iB:((Rows.endlessNextIsNextRow.loops ==(Tryz.f6.params.toList++Rows.endlessNextIsNextSpec.plain.varTypes Tryz.pinned.checked.prog).any (Tryz.pinned.checked.prog.loopsFrom ·)))=true:=by kernel_rfl
theorem iC:((Rows.endlessNextIsNextRow.wideKeys ==(Tryz.f6.params.toList++Rows.endlessNextIsNextSpec.plain.varTypes Tryz.pinned.checked.prog++Tryz.f6.resultTypes.toList).any (Tryz.pinned.checked.prog.wideKeysFrom ·)))=true:=by kernel_rfl
theorem iD:(Rows.endlessNextIsNextSpec.vars.all (Tryz.pinned.checked.prog.varReadable ·))=true:=by kernel_rfl
theorem iE:(Tryz.f6.resultTypes.all (fun t=>Tryz.pinned.checked.prog.readableRec t&&decide (t<Tryz.pinned.checked.prog.types.size)))=true:=by kernel_rfl
theorem iF:((Rows.endlessNextIsNextRow.ifacesOut == Tryz.f6.resultTypes.toList.any (Tryz.pinned.checked.prog.ifacesRec ·)))=true:=by kernel_rfl
theorem iG:((Rows.endlessNextIsNextRow.loopsOut == Tryz.f6.resultTypes.toList.any (Tryz.pinned.checked.prog.loopsFrom ·)))=true:=by kernel_rfl
theorem iH:((Rows.endlessNextIsNextRow.plainKeys == Tryz.pinned.checked.prog.plainKeys))=true:=by kernel_rfl
theorem iI:(Rows.endlessNextIsNextRow.shortTexts.isNone)=true:=by kernel_rfl
theorem iK:(Tryz.pinned.checked.prog.stopsHeard)=true:=by kernel_rfl
theorem iL:(Tryz.pinned.checked.prog.mayEnter)=true:=by kernel_rfl
theorem iM:((Rows.endlessNextIsNextRow.lifted == Tryz.pinned.checked.prog.liftsFinal))=true:=by kernel_rfl
theorem iN:((Tryz.pinned.checked.prog.make == some Rows.endlessNextIsNextRow.make))=true:=by kernel_rfl
theorem iO:((Rows.endlessNextIsNextRow.kinds ==(if Rows.endlessNextIsNextRow.domain.isEmpty then []else Tryz.f6.params.toList.map fun t=>match Tryz.pinned.checked.prog.underlying t with | some (.int k)=>some k | _=>none)))=true:=by kernel_rfl
theorem iP:((Rows.endlessNextIsNextRow.pinned == Rows.endlessNextIsNextRow.pinnedBy))=true:=by kernel_rfl
theorem iQ:((Rows.endlessNextIsNextRow.veiled ==(Tryz.f6.params.toList++Rows.endlessNextIsNextSpec.plain.varTypes Tryz.pinned.checked.prog++Tryz.f6.resultTypes.toList).any (Tryz.pinned.checked.prog.veiledRec ·)))=true:=by kernel_rfl
theorem iR:(Rows.endlessNextIsNextRow.veiledFits Tryz.pinned.checked.prog Tryz.f6.params.toList (Tryz.f6.params.toList++Rows.endlessNextIsNextSpec.plain.varTypes Tryz.pinned.checked.prog++Tryz.f6.resultTypes.toList))=true:=by kernel_rfl
theorem cS:((Rows.endlessNextIsNextRow.inPlace == Tryz.pinned.checked.prog.inPlace 6)&&(Rows.endlessNextIsNextRow.unfollowed == Tryz.pinned.checked.prog.unfollowed 6)&&(Rows.endlessNextIsNextRow.recurses == Tryz.pinned.checked.prog.recurses 6)&&(Rows.endlessNextIsNextRow.named == Tryz.pinned.checked.prog.varsNamed 6))=true:=by kernel_rfl
theorem jw:Tryz.pinned.checked.prog.funcNamed Rows.endlessNextIsNextRow.func=some 6:=by kernel_rfl
theorem gQ:Tryz.f6.isInstance Tryz.pinned.checked.prog Rows.endlessNextIsNextRow.origin Rows.endlessNextIsNextRow.targs:=of_decide_eq_true (by kernel_rfl)
theorem hZ:Tryz.f6.isWrapper Tryz.pinned.checked.prog Rows.endlessNextIsNextRow.wrapper Rows.endlessNextIsNextRow.mainSum:=by unfold Func.isWrapper;first | (rw [if_pos (by decide +kernel)];kernel_rfl) | (rw [if_neg (by decide +kernel)];exact⟨rfl,rfl⟩)
end Go.Proofs.YthkmdpgdicohdaaGreat
end
