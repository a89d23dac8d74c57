/-
  pH facts of sV row of oq, by sV kernel.
-/
import Derived.Test.YtgfdmhmmjbihiaaGreatRows
import Derived.ProofKit
set_option linter.unusedVariables false
set_option linter.unusedSimpArgs false
set_option linter.unusedSectionVars false
section
namespace Go.Proofs.YtgfdmhmmjbihiaaGreat
open Go Go.ChangeShapes Go.WideShapes Go.ChangeAt Go.RowKit
theorem aI{a b:Bool}(ha:a=true)(hb:b=true):(a&&b)=true:=by rw[ha,hb];rfl
theorem cU{a b:Bool}(h:(a&&b)=true):a=true:=by cases a<;>simp_all
theorem eZ{a b:Bool}(h:(a&&b)=true):b=true:=by cases a<;>simp_all
theorem kL:(Rows.endlessFixedZonesRow.wf (OpenSpec.ofChange Rows.endlessFixedZonesSpec))=true:=by kernel_rfl
theorem kM:(laidOutB Tryz.pinned.checked.prog)=true:=by kernel_rfl
theorem kP:(mapsRowed Tryz.pinned.checked.prog)=true:=by kernel_rfl
theorem kQ:(Tryz.f3.params.all (Tryz.pinned.checked.prog.readableRec ·))=true:=by kernel_rfl
theorem kR:(namedTie Tryz.pinned.checked.prog Rows.endlessFixedZonesRow.named Rows.endlessFixedZonesSpec.vars)=true:=by kernel_rfl
theorem kS:((Rows.endlessFixedZonesRow.stops == []))=true:=by kernel_rfl
theorem kU:((Tryz.pinned.checked.prog.stops == []))=true:=by kernel_rfl
theorem kW:((Rows.endlessFixedZonesRow.knobs == []))=true:=by kernel_rfl
theorem kX:((Tryz.pinned.checked.prog.stopKnobs == []))=true:=by kernel_rfl
theorem jI:((Rows.endlessFixedZonesRow.maps ==(Tryz.f3.params.toList++Rows.endlessFixedZonesSpec.plain.varTypes Tryz.pinned.checked.prog).any (Tryz.pinned.checked.prog.mapsRec ·)))=true:=by kernel_rfl
theorem jJ:((Rows.endlessFixedZonesRow.ifaces ==(Tryz.f3.params.toList++Rows.endlessFixedZonesSpec.plain.varTypes Tryz.pinned.checked.prog).any (Tryz.pinned.checked.prog.ifacesRec ·)))=true:=by kernel_rfl
theorem jK:((Rows.endlessFixedZonesRow.mapsOut == Tryz.pinned.checked.prog.mapsAmong Tryz.f3.resultTypes.toList))=true:=by kernel_rfl
theorem jL:((Rows.endlessFixedZonesRow.loops ==(Tryz.f3.params.toList++Rows.endlessFixedZonesSpec.plain.varTypes Tryz.pinned.checked.prog).any (Tryz.pinned.checked.prog.loopsFrom ·)))=true:=by kernel_rfl
theorem jM:((Rows.endlessFixedZonesRow.wideKeys ==(Tryz.f3.params.toList++Rows.endlessFixedZonesSpec.plain.varTypes Tryz.pinned.checked.prog++Tryz.f3.resultTypes.toList).any (Tryz.pinned.checked.prog.wideKeysFrom ·)))=true:=by kernel_rfl
theorem jN:(Rows.endlessFixedZonesSpec.vars.all (Tryz.pinned.checked.prog.varReadable ·))=true:=by kernel_rfl
theorem jO:(Tryz.f3.resultTypes.all (λt=>Tryz.pinned.checked.prog.readableRec t&&decide (t<Tryz.pinned.checked.prog.types.size)))=true:=by kernel_rfl
theorem jP:((Rows.endlessFixedZonesRow.ifacesOut == Tryz.f3.resultTypes.toList.any (Tryz.pinned.checked.prog.ifacesRec ·)))=true:=by kernel_rfl
theorem jQ:((Rows.endlessFixedZonesRow.loopsOut == Tryz.f3.resultTypes.toList.any (Tryz.pinned.checked.prog.loopsFrom ·)))=true:=by kernel_rfl
theorem jR:((Rows.endlessFixedZonesRow.plainKeys == Tryz.pinned.checked.prog.plainKeys))=true:=by kernel_rfl
theorem jS:(Rows.endlessFixedZonesRow.shortTexts.isNone)=true:=by kernel_rfl
theorem jT:(Tryz.pinned.checked.prog.stopsHeard)=true:=by kernel_rfl
theorem jU:(Tryz.pinned.checked.prog.mayEnter)=true:=by kernel_rfl
theorem jV:((Rows.endlessFixedZonesRow.lifted == Tryz.pinned.checked.prog.liftsFinal))=true:=by kernel_rfl
theorem jW:((Tryz.pinned.checked.prog.make == some Rows.endlessFixedZonesRow.make))=true:=by kernel_rfl
theorem jX:((Rows.endlessFixedZonesRow.kinds ==(if Rows.endlessFixedZonesRow.domain.isEmpty then []else Tryz.f3.params.toList.map λt=>match Tryz.pinned.checked.prog.underlying t with|some (.int k)=>some k|_=>none)))=true:=by kernel_rfl
theorem jY:((Rows.endlessFixedZonesRow.pinned == Rows.endlessFixedZonesRow.pinnedBy))=true:=by kernel_rfl
theorem jZ:((Rows.endlessFixedZonesRow.veiled ==(Tryz.f3.params.toList++Rows.endlessFixedZonesSpec.plain.varTypes Tryz.pinned.checked.prog++Tryz.f3.resultTypes.toList).any (Tryz.pinned.checked.prog.veiledRec ·)))=true:=by kernel_rfl
theorem j3:(Rows.endlessFixedZonesRow.veiledFits Tryz.pinned.checked.prog Tryz.f3.params.toList (Tryz.f3.params.toList++Rows.endlessFixedZonesSpec.plain.varTypes Tryz.pinned.checked.prog++Tryz.f3.resultTypes.toList))=true:=by kernel_rfl
theorem dI:((Rows.endlessFixedZonesRow.inPlace == Tryz.pinned.checked.prog.inPlace 3)&&(Rows.endlessFixedZonesRow.unfollowed == Tryz.pinned.checked.prog.unfollowed 3)&&(Rows.endlessFixedZonesRow.recurses == Tryz.pinned.checked.prog.recurses 3)&&(Rows.endlessFixedZonesRow.named == Tryz.pinned.checked.prog.varsNamed 3))=true:=by kernel_rfl
theorem kY:Tryz.pinned.checked.prog.funcNamed Rows.endlessFixedZonesRow.func=some 3:=by kernel_rfl
theorem iU:Tryz.f3.isInstance Tryz.pinned.checked.prog Rows.endlessFixedZonesRow.origin Rows.endlessFixedZonesRow.targs:=of_decide_eq_true (by kernel_rfl)
theorem jo:Tryz.f3.isWrapper Tryz.pinned.checked.prog Rows.endlessFixedZonesRow.wrapper Rows.endlessFixedZonesRow.mainSum:=by unfold Func.isWrapper;first|(rw[if_pos (by decide +kernel)];kernel_rfl)|(rw[if_neg (by decide +kernel)];exact⟨rfl,rfl⟩)
end Go.Proofs.YtgfdmhmmjbihiaaGreat
end
