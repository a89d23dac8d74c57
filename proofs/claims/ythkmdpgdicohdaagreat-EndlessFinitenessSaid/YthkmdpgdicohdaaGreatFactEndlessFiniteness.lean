/-
  pG facts of the row of EndlessFiniteness, by the kernel.
-/
import Derived.Test.YthkmdpgdicohdaaGreatRows
import Derived.ProofKit
set_option linter.unusedVariables false
set_option linter.unusedSimpArgs false
set_option linter.unusedSectionVars false
section
namespace Go.Proofs.YthkmdpgdicohdaaGreat
open Go Go.ChangeShapes Go.WideShapes Go.ChangeAt Go.RowKit
theorem aI{a b:Bool}(ha:a=true)(hb:b=true):(a&&b)=true:=by rw [ha,hb];rfl
theorem cK{a b:Bool}(h:(a&&b)=true):a=true:=by cases a<;>simp_all
theorem eO{a b:Bool}(h:(a&&b)=true):b=true:=by cases a<;>simp_all
theorem kz:(Rows.endlessFinitenessRow.wf (OpenSpec.ofChange Rows.endlessFinitenessSpec))=true:=by kernel_rfl
theorem kB:(laidOutB Tryz.pinned.checked.prog)=true:=by kernel_rfl
theorem kD:(mapsRowed Tryz.pinned.checked.prog)=true:=by kernel_rfl
theorem kG:(Tryz.f5.params.all (Tryz.pinned.checked.prog.readableRec ·))=true:=by kernel_rfl
theorem kH:(namedTie Tryz.pinned.checked.prog Rows.endlessFinitenessRow.named Rows.endlessFinitenessSpec.vars)=true:=by kernel_rfl
theorem kI:((Rows.endlessFinitenessRow.stops == []))=true:=by kernel_rfl
theorem kJ:((Tryz.pinned.checked.prog.stops == []))=true:=by kernel_rfl
theorem kK:((Rows.endlessFinitenessRow.knobs == []))=true:=by kernel_rfl
theorem kL:((Tryz.pinned.checked.prog.stopKnobs == []))=true:=by kernel_rfl
theorem jv:((Rows.endlessFinitenessRow.maps ==(Tryz.f5.params.toList++Rows.endlessFinitenessSpec.plain.varTypes Tryz.pinned.checked.prog).any (Tryz.pinned.checked.prog.mapsRec ·)))=true:=by kernel_rfl
theorem jw:((Rows.endlessFinitenessRow.ifaces ==(Tryz.f5.params.toList++Rows.endlessFinitenessSpec.plain.varTypes Tryz.pinned.checked.prog).any (Tryz.pinned.checked.prog.ifacesRec ·)))=true:=by kernel_rfl
theorem jx:((Rows.endlessFinitenessRow.mapsOut == Tryz.pinned.checked.prog.mapsAmong Tryz.f5.resultTypes.toList))=true:=by kernel_rfl
theorem jy:((Rows.endlessFinitenessRow.loops ==(Tryz.f5.params.toList++Rows.endlessFinitenessSpec.plain.varTypes Tryz.pinned.checked.prog).any (Tryz.pinned.checked.prog.loopsFrom ·)))=true:=by kernel_rfl
theorem jz:((Rows.endlessFinitenessRow.wideKeys ==(Tryz.f5.params.toList++Rows.endlessFinitenessSpec.plain.varTypes Tryz.pinned.checked.prog++Tryz.f5.resultTypes.toList).any (Tryz.pinned.checked.prog.wideKeysFrom ·)))=true:=by kernel_rfl
theorem jA:(Rows.endlessFinitenessSpec.vars.all (Tryz.pinned.checked.prog.varReadable ·))=true:=by kernel_rfl
theorem jB:(Tryz.f5.resultTypes.all (fun t=>Tryz.pinned.checked.prog.readableRec t&&decide (t<Tryz.pinned.checked.prog.types.size)))=true:=by kernel_rfl
theorem jC:((Rows.endlessFinitenessRow.ifacesOut == Tryz.f5.resultTypes.toList.any (Tryz.pinned.checked.prog.ifacesRec ·)))=true:=by kernel_rfl
theorem jD:((Rows.endlessFinitenessRow.loopsOut == Tryz.f5.resultTypes.toList.any (Tryz.pinned.checked.prog.loopsFrom ·)))=true:=by kernel_rfl
theorem jE:((Rows.endlessFinitenessRow.plainKeys == Tryz.pinned.checked.prog.plainKeys))=true:=by kernel_rfl
theorem jF:(Rows.endlessFinitenessRow.shortTexts.isNone)=true:=by kernel_rfl
theorem jG:(Tryz.pinned.checked.prog.stopsHeard)=true:=by kernel_rfl
theorem jH:(Tryz.pinned.checked.prog.mayEnter)=true:=by kernel_rfl
theorem jI:((Rows.endlessFinitenessRow.lifted == Tryz.pinned.checked.prog.liftsFinal))=true:=by kernel_rfl
theorem jJ:((Tryz.pinned.checked.prog.make == some Rows.endlessFinitenessRow.make))=true:=by kernel_rfl
theorem jK:((Rows.endlessFinitenessRow.kinds ==(if Rows.endlessFinitenessRow.domain.isEmpty then []else Tryz.f5.params.toList.map fun t=>match Tryz.pinned.checked.prog.underlying t with | some (.int k)=>some k | _=>none)))=true:=by kernel_rfl
theorem jL:((Rows.endlessFinitenessRow.pinned == Rows.endlessFinitenessRow.pinnedBy))=true:=by kernel_rfl
theorem jM:((Rows.endlessFinitenessRow.veiled ==(Tryz.f5.params.toList++Rows.endlessFinitenessSpec.plain.varTypes Tryz.pinned.checked.prog++Tryz.f5.resultTypes.toList).any (Tryz.pinned.checked.prog.veiledRec ·)))=true:=by kernel_rfl
theorem jN:(Rows.endlessFinitenessRow.veiledFits Tryz.pinned.checked.prog Tryz.f5.params.toList (Tryz.f5.params.toList++Rows.endlessFinitenessSpec.plain.varTypes Tryz.pinned.checked.prog++Tryz.f5.resultTypes.toList))=true:=by kernel_rfl
theorem dC:((Rows.endlessFinitenessRow.inPlace == Tryz.pinned.checked.prog.inPlace 5)&&(Rows.endlessFinitenessRow.unfollowed == Tryz.pinned.checked.prog.unfollowed 5)&&(Rows.endlessFinitenessRow.recurses == Tryz.pinned.checked.prog.recurses 5)&&(Rows.endlessFinitenessRow.named == Tryz.pinned.checked.prog.varsNamed 5))=true:=by kernel_rfl
theorem kM:Tryz.pinned.checked.prog.funcNamed Rows.endlessFinitenessRow.func=some 5:=by kernel_rfl
theorem iU:Tryz.f5.isInstance Tryz.pinned.checked.prog Rows.endlessFinitenessRow.origin Rows.endlessFinitenessRow.targs:=of_decide_eq_true (by kernel_rfl)
theorem jg:Tryz.f5.isWrapper Tryz.pinned.checked.prog Rows.endlessFinitenessRow.wrapper Rows.endlessFinitenessRow.mainSum:=by unfold Func.isWrapper;first | (rw [if_pos (by decide +kernel)];kernel_rfl) | (rw [if_neg (by decide +kernel)];exact⟨rfl,rfl⟩)
end Go.Proofs.YthkmdpgdicohdaaGreat
end
