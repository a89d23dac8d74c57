/-
  qc facts of the row of EndlessFirstIsFirst, by the kernel.
-/
import Derived.Test.YthkmdpgdicohdaaGreatRows
import Derived.ProofKit
set_option linter.unusedVariables false
set_option linter.unusedSimpArgs false
set_option linter.unusedSectionVars false
section
namespace Go.Proofs.YthkmdpgdicohdaaGreat
open Go Go.ChangeShapes Go.WideShapes Go.ChangeAt Go.RowKit
theorem aJ{a b:Bool}(ha:a=true)(hb:b=true):(a&&b)=true:=by rw [ha,hb];rfl
theorem cG{a b:Bool}(h:(a&&b)=true):a=true:=by cases a<;>simp_all
theorem ez{a b:Bool}(h:(a&&b)=true):b=true:=by cases a<;>simp_all
theorem jS:(Rows.endlessFirstIsFirstRow.wf (OpenSpec.ofChange Rows.endlessFirstIsFirstSpec))=true:=by kernel_rfl
theorem jT:(laidOutB Tryz.pinned.checked.prog)=true:=by kernel_rfl
theorem jU:(mapsRowed Tryz.pinned.checked.prog)=true:=by kernel_rfl
theorem jV:(Tryz.f3.params.all (Tryz.pinned.checked.prog.readableRec ·))=true:=by kernel_rfl
theorem jW:(namedTie Tryz.pinned.checked.prog Rows.endlessFirstIsFirstRow.named Rows.endlessFirstIsFirstSpec.vars)=true:=by kernel_rfl
theorem jX:((Rows.endlessFirstIsFirstRow.stops == []))=true:=by kernel_rfl
theorem jY:((Tryz.pinned.checked.prog.stops == []))=true:=by kernel_rfl
theorem jZ:((Rows.endlessFirstIsFirstRow.knobs == []))=true:=by kernel_rfl
theorem ke:((Tryz.pinned.checked.prog.stopKnobs == []))=true:=by kernel_rfl
theorem jf:((Rows.endlessFirstIsFirstRow.maps ==(Tryz.f3.params.toList++Rows.endlessFirstIsFirstSpec.plain.varTypes Tryz.pinned.checked.prog).any (Tryz.pinned.checked.prog.mapsRec ·)))=true:=by kernel_rfl
theorem jg:((Rows.endlessFirstIsFirstRow.ifaces ==(Tryz.f3.params.toList++Rows.endlessFirstIsFirstSpec.plain.varTypes Tryz.pinned.checked.prog).any (Tryz.pinned.checked.prog.ifacesRec ·)))=true:=by kernel_rfl
theorem jh:((Rows.endlessFirstIsFirstRow.mapsOut == Tryz.pinned.checked.prog.mapsAmong Tryz.f3.resultTypes.toList))=true:=by kernel_rfl
theorem ji:((Rows.endlessFirstIsFirstRow.loops ==(Tryz.f3.params.toList++Rows.endlessFirstIsFirstSpec.plain.varTypes Tryz.pinned.checked.prog).any (Tryz.pinned.checked.prog.loopsFrom ·)))=true:=by kernel_rfl
theorem jj:((Rows.endlessFirstIsFirstRow.wideKeys ==(Tryz.f3.params.toList++Rows.endlessFirstIsFirstSpec.plain.varTypes Tryz.pinned.checked.prog++Tryz.f3.resultTypes.toList).any (Tryz.pinned.checked.prog.wideKeysFrom ·)))=true:=by kernel_rfl
theorem jm:(Rows.endlessFirstIsFirstSpec.vars.all (Tryz.pinned.checked.prog.varReadable ·))=true:=by kernel_rfl
theorem jo:(Tryz.f3.resultTypes.all (fun t=>Tryz.pinned.checked.prog.readableRec t&&decide (t<Tryz.pinned.checked.prog.types.size)))=true:=by kernel_rfl
theorem jq:((Rows.endlessFirstIsFirstRow.ifacesOut == Tryz.f3.resultTypes.toList.any (Tryz.pinned.checked.prog.ifacesRec ·)))=true:=by kernel_rfl
theorem jr:((Rows.endlessFirstIsFirstRow.loopsOut == Tryz.f3.resultTypes.toList.any (Tryz.pinned.checked.prog.loopsFrom ·)))=true:=by kernel_rfl
theorem js:((Rows.endlessFirstIsFirstRow.plainKeys == Tryz.pinned.checked.prog.plainKeys))=true:=by kernel_rfl
theorem jt:(Rows.endlessFirstIsFirstRow.shortTexts.isNone)=true:=by kernel_rfl
theorem ju:(Tryz.pinned.checked.prog.stopsHeard)=true:=by kernel_rfl
theorem jv:(Tryz.pinned.checked.prog.mayEnter)=true:=by kernel_rfl
theorem jw:((Rows.endlessFirstIsFirstRow.lifted == Tryz.pinned.checked.prog.liftsFinal))=true:=by kernel_rfl
theorem jx:((Tryz.pinned.checked.prog.make == some Rows.endlessFirstIsFirstRow.make))=true:=by kernel_rfl
theorem jy:((Rows.endlessFirstIsFirstRow.kinds ==(if Rows.endlessFirstIsFirstRow.domain.isEmpty then []else Tryz.f3.params.toList.map fun t=>match Tryz.pinned.checked.prog.underlying t with | some (.int k)=>some k | _=>none)))=true:=by kernel_rfl
theorem jz:((Rows.endlessFirstIsFirstRow.pinned == Rows.endlessFirstIsFirstRow.pinnedBy))=true:=by kernel_rfl
theorem jA:((Rows.endlessFirstIsFirstRow.veiled ==(Tryz.f3.params.toList++Rows.endlessFirstIsFirstSpec.plain.varTypes Tryz.pinned.checked.prog++Tryz.f3.resultTypes.toList).any (Tryz.pinned.checked.prog.veiledRec ·)))=true:=by kernel_rfl
theorem jB:(Rows.endlessFirstIsFirstRow.veiledFits Tryz.pinned.checked.prog Tryz.f3.params.toList (Tryz.f3.params.toList++Rows.endlessFirstIsFirstSpec.plain.varTypes Tryz.pinned.checked.prog++Tryz.f3.resultTypes.toList))=true:=by kernel_rfl
theorem dy:((Rows.endlessFirstIsFirstRow.inPlace == Tryz.pinned.checked.prog.inPlace 3)&&(Rows.endlessFirstIsFirstRow.unfollowed == Tryz.pinned.checked.prog.unfollowed 3)&&(Rows.endlessFirstIsFirstRow.recurses == Tryz.pinned.checked.prog.recurses 3)&&(Rows.endlessFirstIsFirstRow.named == Tryz.pinned.checked.prog.varsNamed 3))=true:=by kernel_rfl
theorem kg:Tryz.pinned.checked.prog.funcNamed Rows.endlessFirstIsFirstRow.func=some 3:=by kernel_rfl
theorem iB:Tryz.f3.isInstance Tryz.pinned.checked.prog Rows.endlessFirstIsFirstRow.origin Rows.endlessFirstIsFirstRow.targs:=of_decide_eq_true (by kernel_rfl)
theorem iY:Tryz.f3.isWrapper Tryz.pinned.checked.prog Rows.endlessFirstIsFirstRow.wrapper Rows.endlessFirstIsFirstRow.mainSum:=by unfold Func.isWrapper;first | (rw [if_pos (by decide +kernel)];kernel_rfl) | (rw [if_neg (by decide +kernel)];exact⟨rfl,rfl⟩)
end Go.Proofs.YthkmdpgdicohdaaGreat
end
