/-
  Closed facts of the row of OpeningLocal, by the kernel.
-/
import Derived.Test.YthfeogjbpgocbaaGreatRows
import Derived.ProofKit
set_option linter.unusedVariables false
set_option linter.unusedSimpArgs false
set_option linter.unusedSectionVars false
section
namespace Go.Proofs.YthfeogjbpgocbaaGreat
open Go Go.ChangeShapes Go.WideShapes Go.ChangeAt Go.RowKit
theorem aS{a b:Bool}(ha:a=true)(hb:b=true):(a&&b)=true:=by rw [ha,hb];rfl
theorem eG{a b:Bool}(h:(a&&b)=true):a=true:=by cases a<;>simp_all
theorem jT{a b:Bool}(h:(a&&b)=true):b=true:=by cases a<;>simp_all
theorem vI:(Rows.openingLocalRow.wf (OpenSpec.ofChange Rows.openingLocalSpec))=true:=by kernel_rfl
theorem vH:(laidOutB Tryz.pinned.checked.prog)=true:=by kernel_rfl
theorem vG:(mapsRowed Tryz.pinned.checked.prog)=true:=by kernel_rfl
theorem vF:(Tryz.f6.params.all (Tryz.pinned.checked.prog.readableRec ·))=true:=by kernel_rfl
theorem vC:(namedTie Tryz.pinned.checked.prog Rows.openingLocalRow.named Rows.openingLocalSpec.vars)=true:=by kernel_rfl
theorem vw:((Rows.openingLocalRow.stops == []))=true:=by kernel_rfl
theorem vk:((Tryz.pinned.checked.prog.stops == []))=true:=by kernel_rfl
theorem vg:((Rows.openingLocalRow.knobs == []))=true:=by kernel_rfl
theorem uZ:((Tryz.pinned.checked.prog.stopKnobs == []))=true:=by kernel_rfl
theorem uq:((Rows.openingLocalRow.maps ==(Tryz.f6.params.toList++Rows.openingLocalSpec.plain.varTypes Tryz.pinned.checked.prog).any (Tryz.pinned.checked.prog.mapsRec ·)))=true:=by kernel_rfl
theorem uo:((Rows.openingLocalRow.ifaces ==(Tryz.f6.params.toList++Rows.openingLocalSpec.plain.varTypes Tryz.pinned.checked.prog).any (Tryz.pinned.checked.prog.ifacesRec ·)))=true:=by kernel_rfl
theorem uj:((Rows.openingLocalRow.mapsOut == Tryz.pinned.checked.prog.mapsAmong Tryz.f6.resultTypes.toList))=true:=by kernel_rfl
theorem uh:((Rows.openingLocalRow.loops ==(Tryz.f6.params.toList++Rows.openingLocalSpec.plain.varTypes Tryz.pinned.checked.prog).any (Tryz.pinned.checked.prog.loopsFrom ·)))=true:=by kernel_rfl
theorem ug:((Rows.openingLocalRow.wideKeys ==(Tryz.f6.params.toList++Rows.openingLocalSpec.plain.varTypes Tryz.pinned.checked.prog++Tryz.f6.resultTypes.toList).any (Tryz.pinned.checked.prog.wideKeysFrom ·)))=true:=by kernel_rfl
theorem uf:(Rows.openingLocalSpec.vars.all (Tryz.pinned.checked.prog.varReadable ·))=true:=by kernel_rfl
theorem tZ:(Tryz.f6.resultTypes.all (fun t=>Tryz.pinned.checked.prog.readableRec t&&decide (t<Tryz.pinned.checked.prog.types.size)))=true:=by kernel_rfl
theorem tY:((Rows.openingLocalRow.ifacesOut == Tryz.f6.resultTypes.toList.any (Tryz.pinned.checked.prog.ifacesRec ·)))=true:=by kernel_rfl
theorem tX:((Rows.openingLocalRow.loopsOut == Tryz.f6.resultTypes.toList.any (Tryz.pinned.checked.prog.loopsFrom ·)))=true:=by kernel_rfl
theorem tV:((Rows.openingLocalRow.plainKeys == Tryz.pinned.checked.prog.plainKeys))=true:=by kernel_rfl
theorem tN:(Rows.openingLocalRow.shortTexts.isNone)=true:=by kernel_rfl
theorem tK:(Tryz.pinned.checked.prog.stopsHeard)=true:=by kernel_rfl
theorem tJ:(Tryz.pinned.checked.prog.mayEnter)=true:=by kernel_rfl
theorem tH:((Rows.openingLocalRow.lifted == Tryz.pinned.checked.prog.liftsFinal))=true:=by kernel_rfl
theorem tC:((Tryz.pinned.checked.prog.make == some Rows.openingLocalRow.make))=true:=by kernel_rfl
theorem tu:((Rows.openingLocalRow.kinds ==(if Rows.openingLocalRow.domain.isEmpty then []else Tryz.f6.params.toList.map fun t=>match Tryz.pinned.checked.prog.underlying t with | some (.int k)=>some k | _=>none)))=true:=by kernel_rfl
theorem tq:((Rows.openingLocalRow.pinned == Rows.openingLocalRow.pinnedBy))=true:=by kernel_rfl
theorem sZ:((Rows.openingLocalRow.veiled ==(Tryz.f6.params.toList++Rows.openingLocalSpec.plain.varTypes Tryz.pinned.checked.prog++Tryz.f6.resultTypes.toList).any (Tryz.pinned.checked.prog.veiledRec ·)))=true:=by kernel_rfl
theorem sW:(Rows.openingLocalRow.veiledFits Tryz.pinned.checked.prog Tryz.f6.params.toList (Tryz.f6.params.toList++Rows.openingLocalSpec.plain.varTypes Tryz.pinned.checked.prog++Tryz.f6.resultTypes.toList))=true:=by kernel_rfl
theorem ig:((Rows.openingLocalRow.inPlace == Tryz.pinned.checked.prog.inPlace 6)&&(Rows.openingLocalRow.unfollowed == Tryz.pinned.checked.prog.unfollowed 6)&&(Rows.openingLocalRow.recurses == Tryz.pinned.checked.prog.recurses 6)&&(Rows.openingLocalRow.named == Tryz.pinned.checked.prog.varsNamed 6))=true:=by kernel_rfl
theorem uY:Tryz.pinned.checked.prog.funcNamed Rows.openingLocalRow.func=some 6:=by kernel_rfl
theorem qm:Tryz.f6.isInstance Tryz.pinned.checked.prog Rows.openingLocalRow.origin Rows.openingLocalRow.targs:=of_decide_eq_true (by kernel_rfl)
theorem rU:Tryz.f6.isWrapper Tryz.pinned.checked.prog Rows.openingLocalRow.wrapper Rows.openingLocalRow.mainSum:=by unfold Func.isWrapper;first | (rw [if_pos (by decide +kernel)];kernel_rfl) | (rw [if_neg (by decide +kernel)];exact⟨rfl,rfl⟩)
end Go.Proofs.YthfeogjbpgocbaaGreat
end
