/-
  Closed facts of the row of OpeningHours, by the kernel.
-/
import Derived.Test.YthfeogjbpgocbaaGreatRows
import Derived.ProofKit
set_option linter.unusedVariables false
set_option linter.unusedSimpArgs false
set_option linter.unusedSectionVars false
section
namespace Go.Proofs.YthfeogjbpgocbaaGreat
open Go Go.ChangeShapes Go.WideShapes Go.ChangeAt Go.RowKit
theorem aS{a b:Bool}(ha:a=true)(hb:b=true):(a&&b)=true:=by rw [ha,hb];rfl
theorem fE{a b:Bool}(h:(a&&b)=true):a=true:=by cases a<;>simp_all
theorem kK{a b:Bool}(h:(a&&b)=true):b=true:=by cases a<;>simp_all
theorem wH:(Rows.openingHoursRow.wf (OpenSpec.ofChange Rows.openingHoursSpec))=true:=by kernel_rfl
theorem wG:(laidOutB Tryz.pinned.checked.prog)=true:=by kernel_rfl
theorem wF:(mapsRowed Tryz.pinned.checked.prog)=true:=by kernel_rfl
theorem wE:(Tryz.f5.params.all (Tryz.pinned.checked.prog.readableRec ·))=true:=by kernel_rfl
theorem wC:(namedTie Tryz.pinned.checked.prog Rows.openingHoursRow.named Rows.openingHoursSpec.vars)=true:=by kernel_rfl
theorem wB:((Rows.openingHoursRow.stops == []))=true:=by kernel_rfl
theorem wz:((Tryz.pinned.checked.prog.stops == []))=true:=by kernel_rfl
theorem wu:((Rows.openingHoursRow.knobs == []))=true:=by kernel_rfl
theorem vZ:((Tryz.pinned.checked.prog.stopKnobs == []))=true:=by kernel_rfl
theorem uT:((Rows.openingHoursRow.maps ==(Tryz.f5.params.toList++Rows.openingHoursSpec.plain.varTypes Tryz.pinned.checked.prog).any (Tryz.pinned.checked.prog.mapsRec ·)))=true:=by kernel_rfl
theorem uS:((Rows.openingHoursRow.ifaces ==(Tryz.f5.params.toList++Rows.openingHoursSpec.plain.varTypes Tryz.pinned.checked.prog).any (Tryz.pinned.checked.prog.ifacesRec ·)))=true:=by kernel_rfl
theorem uQ:((Rows.openingHoursRow.mapsOut == Tryz.pinned.checked.prog.mapsAmong Tryz.f5.resultTypes.toList))=true:=by kernel_rfl
theorem uP:((Rows.openingHoursRow.loops ==(Tryz.f5.params.toList++Rows.openingHoursSpec.plain.varTypes Tryz.pinned.checked.prog).any (Tryz.pinned.checked.prog.loopsFrom ·)))=true:=by kernel_rfl
theorem uO:((Rows.openingHoursRow.wideKeys ==(Tryz.f5.params.toList++Rows.openingHoursSpec.plain.varTypes Tryz.pinned.checked.prog++Tryz.f5.resultTypes.toList).any (Tryz.pinned.checked.prog.wideKeysFrom ·)))=true:=by kernel_rfl
theorem uN:(Rows.openingHoursSpec.vars.all (Tryz.pinned.checked.prog.varReadable ·))=true:=by kernel_rfl
theorem uM:(Tryz.f5.resultTypes.all (fun t=>Tryz.pinned.checked.prog.readableRec t&&decide (t<Tryz.pinned.checked.prog.types.size)))=true:=by kernel_rfl
theorem uK:((Rows.openingHoursRow.ifacesOut == Tryz.f5.resultTypes.toList.any (Tryz.pinned.checked.prog.ifacesRec ·)))=true:=by kernel_rfl
theorem uJ:((Rows.openingHoursRow.loopsOut == Tryz.f5.resultTypes.toList.any (Tryz.pinned.checked.prog.loopsFrom ·)))=true:=by kernel_rfl
theorem uI:((Rows.openingHoursRow.plainKeys == Tryz.pinned.checked.prog.plainKeys))=true:=by kernel_rfl
theorem uH:(Rows.openingHoursRow.shortTexts.isNone)=true:=by kernel_rfl
theorem uG:(Tryz.pinned.checked.prog.stopsHeard)=true:=by kernel_rfl
theorem uF:(Tryz.pinned.checked.prog.mayEnter)=true:=by kernel_rfl
theorem uD:((Rows.openingHoursRow.lifted == Tryz.pinned.checked.prog.liftsFinal))=true:=by kernel_rfl
theorem uz:((Tryz.pinned.checked.prog.make == some Rows.openingHoursRow.make))=true:=by kernel_rfl
theorem uw:((Rows.openingHoursRow.kinds ==(if Rows.openingHoursRow.domain.isEmpty then []else Tryz.f5.params.toList.map fun t=>match Tryz.pinned.checked.prog.underlying t with | some (.int k)=>some k | _=>none)))=true:=by kernel_rfl
theorem uq:((Rows.openingHoursRow.pinned == Rows.openingHoursRow.pinnedBy))=true:=by kernel_rfl
theorem uo:((Rows.openingHoursRow.veiled ==(Tryz.f5.params.toList++Rows.openingHoursSpec.plain.varTypes Tryz.pinned.checked.prog++Tryz.f5.resultTypes.toList).any (Tryz.pinned.checked.prog.veiledRec ·)))=true:=by kernel_rfl
theorem uj:(Rows.openingHoursRow.veiledFits Tryz.pinned.checked.prog Tryz.f5.params.toList (Tryz.f5.params.toList++Rows.openingHoursSpec.plain.varTypes Tryz.pinned.checked.prog++Tryz.f5.resultTypes.toList))=true:=by kernel_rfl
theorem iH:((Rows.openingHoursRow.inPlace == Tryz.pinned.checked.prog.inPlace 5)&&(Rows.openingHoursRow.unfollowed == Tryz.pinned.checked.prog.unfollowed 5)&&(Rows.openingHoursRow.recurses == Tryz.pinned.checked.prog.recurses 5)&&(Rows.openingHoursRow.named == Tryz.pinned.checked.prog.varsNamed 5))=true:=by kernel_rfl
theorem vY:Tryz.pinned.checked.prog.funcNamed Rows.openingHoursRow.func=some 5:=by kernel_rfl
theorem qJ:Tryz.f5.isInstance Tryz.pinned.checked.prog Rows.openingHoursRow.origin Rows.openingHoursRow.targs:=of_decide_eq_true (by kernel_rfl)
theorem sQ:Tryz.f5.isWrapper Tryz.pinned.checked.prog Rows.openingHoursRow.wrapper Rows.openingHoursRow.mainSum:=by unfold Func.isWrapper;first | (rw [if_pos (by decide +kernel)];kernel_rfl) | (rw [if_neg (by decide +kernel)];exact⟨rfl,rfl⟩)
end Go.Proofs.YthfeogjbpgocbaaGreat
end
