/-
  Closed facts of the row of OpeningCloses, by the kernel.
-/
import Derived.Test.YthfeogjbpgocbaaGreatRows
import Derived.ProofKit
set_option linter.unusedVariables false
set_option linter.unusedSimpArgs false
set_option linter.unusedSectionVars false
section
namespace Go.Proofs.YthfeogjbpgocbaaGreat
open Go Go.ChangeShapes Go.WideShapes Go.ChangeAt Go.RowKit
theorem aQ{a b:Bool}(ha:a=true)(hb:b=true):(a&&b)=true:=by rw [ha,hb];rfl
theorem eF{a b:Bool}(h:(a&&b)=true):a=true:=by cases a<;>simp_all
theorem jP{a b:Bool}(h:(a&&b)=true):b=true:=by cases a<;>simp_all
theorem vk:(Rows.openingClosesRow.wf (OpenSpec.ofChange Rows.openingClosesSpec))=true:=by kernel_rfl
theorem vg:(laidOutB Tryz.pinned.checked.prog)=true:=by kernel_rfl
theorem uZ:(mapsRowed Tryz.pinned.checked.prog)=true:=by kernel_rfl
theorem uY:(Tryz.f3.params.all (Tryz.pinned.checked.prog.readableRec ·))=true:=by kernel_rfl
theorem uX:(namedTie Tryz.pinned.checked.prog Rows.openingClosesRow.named Rows.openingClosesSpec.vars)=true:=by kernel_rfl
theorem uV:((Rows.openingClosesRow.stops == []))=true:=by kernel_rfl
theorem uU:((Tryz.pinned.checked.prog.stops == []))=true:=by kernel_rfl
theorem uT:((Rows.openingClosesRow.knobs == []))=true:=by kernel_rfl
theorem uS:((Tryz.pinned.checked.prog.stopKnobs == []))=true:=by kernel_rfl
theorem uf:((Rows.openingClosesRow.maps ==(Tryz.f3.params.toList++Rows.openingClosesSpec.plain.varTypes Tryz.pinned.checked.prog).any (Tryz.pinned.checked.prog.mapsRec ·)))=true:=by kernel_rfl
theorem tZ:((Rows.openingClosesRow.ifaces ==(Tryz.f3.params.toList++Rows.openingClosesSpec.plain.varTypes Tryz.pinned.checked.prog).any (Tryz.pinned.checked.prog.ifacesRec ·)))=true:=by kernel_rfl
theorem tY:((Rows.openingClosesRow.mapsOut == Tryz.pinned.checked.prog.mapsAmong Tryz.f3.resultTypes.toList))=true:=by kernel_rfl
theorem tX:((Rows.openingClosesRow.loops ==(Tryz.f3.params.toList++Rows.openingClosesSpec.plain.varTypes Tryz.pinned.checked.prog).any (Tryz.pinned.checked.prog.loopsFrom ·)))=true:=by kernel_rfl
theorem tV:((Rows.openingClosesRow.wideKeys ==(Tryz.f3.params.toList++Rows.openingClosesSpec.plain.varTypes Tryz.pinned.checked.prog++Tryz.f3.resultTypes.toList).any (Tryz.pinned.checked.prog.wideKeysFrom ·)))=true:=by kernel_rfl
theorem tN:(Rows.openingClosesSpec.vars.all (Tryz.pinned.checked.prog.varReadable ·))=true:=by kernel_rfl
theorem tK:(Tryz.f3.resultTypes.all (fun t=>Tryz.pinned.checked.prog.readableRec t&&decide (t<Tryz.pinned.checked.prog.types.size)))=true:=by kernel_rfl
theorem tJ:((Rows.openingClosesRow.ifacesOut == Tryz.f3.resultTypes.toList.any (Tryz.pinned.checked.prog.ifacesRec ·)))=true:=by kernel_rfl
theorem tH:((Rows.openingClosesRow.loopsOut == Tryz.f3.resultTypes.toList.any (Tryz.pinned.checked.prog.loopsFrom ·)))=true:=by kernel_rfl
theorem tC:((Rows.openingClosesRow.plainKeys == Tryz.pinned.checked.prog.plainKeys))=true:=by kernel_rfl
theorem tu:(Rows.openingClosesRow.shortTexts.isNone)=true:=by kernel_rfl
theorem tq:(Tryz.pinned.checked.prog.stopsHeard)=true:=by kernel_rfl
theorem sZ:(Tryz.pinned.checked.prog.mayEnter)=true:=by kernel_rfl
theorem sW:((Rows.openingClosesRow.lifted == Tryz.pinned.checked.prog.liftsFinal))=true:=by kernel_rfl
theorem sV:((Tryz.pinned.checked.prog.make == some Rows.openingClosesRow.make))=true:=by kernel_rfl
theorem sU:((Rows.openingClosesRow.kinds ==(if Rows.openingClosesRow.domain.isEmpty then []else Tryz.f3.params.toList.map fun t=>match Tryz.pinned.checked.prog.underlying t with | some (.int k)=>some k | _=>none)))=true:=by kernel_rfl
theorem sS:((Rows.openingClosesRow.pinned == Rows.openingClosesRow.pinnedBy))=true:=by kernel_rfl
theorem sQ:((Rows.openingClosesRow.veiled ==(Tryz.f3.params.toList++Rows.openingClosesSpec.plain.varTypes Tryz.pinned.checked.prog++Tryz.f3.resultTypes.toList).any (Tryz.pinned.checked.prog.veiledRec ·)))=true:=by kernel_rfl
theorem sO:(Rows.openingClosesRow.veiledFits Tryz.pinned.checked.prog Tryz.f3.params.toList (Tryz.f3.params.toList++Rows.openingClosesSpec.plain.varTypes Tryz.pinned.checked.prog++Tryz.f3.resultTypes.toList))=true:=by kernel_rfl
theorem iq:((Rows.openingClosesRow.inPlace == Tryz.pinned.checked.prog.inPlace 3)&&(Rows.openingClosesRow.unfollowed == Tryz.pinned.checked.prog.unfollowed 3)&&(Rows.openingClosesRow.recurses == Tryz.pinned.checked.prog.recurses 3)&&(Rows.openingClosesRow.named == Tryz.pinned.checked.prog.varsNamed 3))=true:=by kernel_rfl
theorem uQ:Tryz.pinned.checked.prog.funcNamed Rows.openingClosesRow.func=some 3:=by kernel_rfl
theorem qB:Tryz.f3.isInstance Tryz.pinned.checked.prog Rows.openingClosesRow.origin Rows.openingClosesRow.targs:=of_decide_eq_true (by kernel_rfl)
theorem qJ:Tryz.f3.isWrapper Tryz.pinned.checked.prog Rows.openingClosesRow.wrapper Rows.openingClosesRow.mainSum:=by unfold Func.isWrapper;first | (rw [if_pos (by decide +kernel)];kernel_rfl) | (rw [if_neg (by decide +kernel)];exact⟨rfl,rfl⟩)
end Go.Proofs.YthfeogjbpgocbaaGreat
end
