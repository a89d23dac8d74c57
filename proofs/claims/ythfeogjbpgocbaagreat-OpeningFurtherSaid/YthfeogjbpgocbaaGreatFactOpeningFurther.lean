/-
  Closed facts of the row of OpeningFurther, by the kernel.
-/
import Derived.Test.YthfeogjbpgocbaaGreatRows
import Derived.ProofKit
set_option linter.unusedVariables false
set_option linter.unusedSimpArgs false
set_option linter.unusedSectionVars false
section
namespace Go.Proofs.YthfeogjbpgocbaaGreat
open Go Go.ChangeShapes Go.WideShapes Go.ChangeAt Go.RowKit
theorem aQ{a b:Bool}(ha:a=true)(hb:b=true):(a&&b)=true:=by rw [ha,hb];rfl
theorem dZ{a b:Bool}(h:(a&&b)=true):a=true:=by cases a<;>simp_all
theorem jI{a b:Bool}(h:(a&&b)=true):b=true:=by cases a<;>simp_all
theorem uN:(Rows.openingFurtherRow.wf (OpenSpec.ofChange Rows.openingFurtherSpec))=true:=by kernel_rfl
theorem uM:(laidOutB Tryz.pinned.checked.prog)=true:=by kernel_rfl
theorem uK:(mapsRowed Tryz.pinned.checked.prog)=true:=by kernel_rfl
theorem uJ:(Tryz.f4.params.all (Tryz.pinned.checked.prog.readableRec ·))=true:=by kernel_rfl
theorem uI:(namedTie Tryz.pinned.checked.prog Rows.openingFurtherRow.named Rows.openingFurtherSpec.vars)=true:=by kernel_rfl
theorem uH:((Rows.openingFurtherRow.stops == []))=true:=by kernel_rfl
theorem uG:((Tryz.pinned.checked.prog.stops == []))=true:=by kernel_rfl
theorem uF:((Rows.openingFurtherRow.knobs == []))=true:=by kernel_rfl
theorem uD:((Tryz.pinned.checked.prog.stopKnobs == []))=true:=by kernel_rfl
theorem rO:((Rows.openingFurtherRow.maps ==(Tryz.f4.params.toList++Rows.openingFurtherSpec.plain.varTypes Tryz.pinned.checked.prog).any (Tryz.pinned.checked.prog.mapsRec ·)))=true:=by kernel_rfl
theorem rM:((Rows.openingFurtherRow.ifaces ==(Tryz.f4.params.toList++Rows.openingFurtherSpec.plain.varTypes Tryz.pinned.checked.prog).any (Tryz.pinned.checked.prog.ifacesRec ·)))=true:=by kernel_rfl
theorem rJ:((Rows.openingFurtherRow.mapsOut == Tryz.pinned.checked.prog.mapsAmong Tryz.f4.resultTypes.toList))=true:=by kernel_rfl
theorem rH:((Rows.openingFurtherRow.loops ==(Tryz.f4.params.toList++Rows.openingFurtherSpec.plain.varTypes Tryz.pinned.checked.prog).any (Tryz.pinned.checked.prog.loopsFrom ·)))=true:=by kernel_rfl
theorem rG:((Rows.openingFurtherRow.wideKeys ==(Tryz.f4.params.toList++Rows.openingFurtherSpec.plain.varTypes Tryz.pinned.checked.prog++Tryz.f4.resultTypes.toList).any (Tryz.pinned.checked.prog.wideKeysFrom ·)))=true:=by kernel_rfl
theorem rF:(Rows.openingFurtherSpec.vars.all (Tryz.pinned.checked.prog.varReadable ·))=true:=by kernel_rfl
theorem rE:(Tryz.f4.resultTypes.all (fun t=>Tryz.pinned.checked.prog.readableRec t&&decide (t<Tryz.pinned.checked.prog.types.size)))=true:=by kernel_rfl
theorem rD:((Rows.openingFurtherRow.ifacesOut == Tryz.f4.resultTypes.toList.any (Tryz.pinned.checked.prog.ifacesRec ·)))=true:=by kernel_rfl
theorem rC:((Rows.openingFurtherRow.loopsOut == Tryz.f4.resultTypes.toList.any (Tryz.pinned.checked.prog.loopsFrom ·)))=true:=by kernel_rfl
theorem qZ:((Rows.openingFurtherRow.plainKeys == Tryz.pinned.checked.prog.plainKeys))=true:=by kernel_rfl
theorem qY:(Rows.openingFurtherRow.shortTexts.isNone)=true:=by kernel_rfl
theorem qX:(Tryz.pinned.checked.prog.stopsHeard)=true:=by kernel_rfl
theorem qW:(Tryz.pinned.checked.prog.mayEnter)=true:=by kernel_rfl
theorem qV:((Rows.openingFurtherRow.lifted == Tryz.pinned.checked.prog.liftsFinal))=true:=by kernel_rfl
theorem qU:((Tryz.pinned.checked.prog.make == some Rows.openingFurtherRow.make))=true:=by kernel_rfl
theorem qR:((Rows.openingFurtherRow.kinds ==(if Rows.openingFurtherRow.domain.isEmpty then []else Tryz.f4.params.toList.map fun t=>match Tryz.pinned.checked.prog.underlying t with | some (.int k)=>some k | _=>none)))=true:=by kernel_rfl
theorem qQ:((Rows.openingFurtherRow.pinned == Rows.openingFurtherRow.pinnedBy))=true:=by kernel_rfl
theorem qP:((Rows.openingFurtherRow.veiled ==(Tryz.f4.params.toList++Rows.openingFurtherSpec.plain.varTypes Tryz.pinned.checked.prog++Tryz.f4.resultTypes.toList).any (Tryz.pinned.checked.prog.veiledRec ·)))=true:=by kernel_rfl
theorem qO:(Rows.openingFurtherRow.veiledFits Tryz.pinned.checked.prog Tryz.f4.params.toList (Tryz.f4.params.toList++Rows.openingFurtherSpec.plain.varTypes Tryz.pinned.checked.prog++Tryz.f4.resultTypes.toList))=true:=by kernel_rfl
theorem gJ:((Rows.openingFurtherRow.inPlace == Tryz.pinned.checked.prog.inPlace 4)&&(Rows.openingFurtherRow.unfollowed == Tryz.pinned.checked.prog.unfollowed 4)&&(Rows.openingFurtherRow.recurses == Tryz.pinned.checked.prog.recurses 4)&&(Rows.openingFurtherRow.named == Tryz.pinned.checked.prog.varsNamed 4))=true:=by kernel_rfl
theorem uz:Tryz.pinned.checked.prog.funcNamed Rows.openingFurtherRow.func=some 4:=by kernel_rfl
theorem pK:Tryz.f4.isInstance Tryz.pinned.checked.prog Rows.openingFurtherRow.origin Rows.openingFurtherRow.targs:=of_decide_eq_true (by kernel_rfl)
theorem qH:Tryz.f4.isWrapper Tryz.pinned.checked.prog Rows.openingFurtherRow.wrapper Rows.openingFurtherRow.mainSum:=by unfold Func.isWrapper;first | (rw [if_pos (by decide +kernel)];kernel_rfl) | (rw [if_neg (by decide +kernel)];exact⟨rfl,rfl⟩)
end Go.Proofs.YthfeogjbpgocbaaGreat
end
