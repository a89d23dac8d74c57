/-
  qL facts of the row of EndlessMeeting, by the kernel.
-/
import Derived.Test.YthkmdpgdicohdaaGreatRows
import Derived.ProofKit
set_option linter.unusedVariables false
set_option linter.unusedSimpArgs false
set_option linter.unusedSectionVars false
section
namespace Go.Proofs.YthkmdpgdicohdaaGreat
open Go Go.ChangeShapes Go.WideShapes Go.ChangeAt Go.RowKit
theorem aO{a b:Bool}(ha:a=true)(hb:b=true):(a&&b)=true:=by rw [ha,hb];rfl
theorem dx{a b:Bool}(h:(a&&b)=true):a=true:=by cases a<;>simp_all
theorem gi{a b:Bool}(h:(a&&b)=true):b=true:=by cases a<;>simp_all
theorem nX:(Rows.endlessMeetingRow.wf (OpenSpec.ofChange Rows.endlessMeetingSpec))=true:=by kernel_rfl
theorem nY:(laidOutB Tryz.pinned.checked.prog)=true:=by kernel_rfl
theorem nZ:(mapsRowed Tryz.pinned.checked.prog)=true:=by kernel_rfl
theorem oa:(Tryz.f4.params.all (Tryz.pinned.checked.prog.readableRec ·))=true:=by kernel_rfl
theorem ob:(namedTie Tryz.pinned.checked.prog Rows.endlessMeetingRow.named Rows.endlessMeetingSpec.vars)=true:=by kernel_rfl
theorem oc:((Rows.endlessMeetingRow.stops == []))=true:=by kernel_rfl
theorem od:((Tryz.pinned.checked.prog.stops == []))=true:=by kernel_rfl
theorem oe:((Rows.endlessMeetingRow.knobs == []))=true:=by kernel_rfl
theorem og:((Tryz.pinned.checked.prog.stopKnobs == []))=true:=by kernel_rfl
theorem mo:((Rows.endlessMeetingRow.maps ==(Tryz.f4.params.toList++Rows.endlessMeetingSpec.plain.varTypes Tryz.pinned.checked.prog).any (Tryz.pinned.checked.prog.mapsRec ·)))=true:=by kernel_rfl
theorem mq:((Rows.endlessMeetingRow.ifaces ==(Tryz.f4.params.toList++Rows.endlessMeetingSpec.plain.varTypes Tryz.pinned.checked.prog).any (Tryz.pinned.checked.prog.ifacesRec ·)))=true:=by kernel_rfl
theorem mr:((Rows.endlessMeetingRow.mapsOut == Tryz.pinned.checked.prog.mapsAmong Tryz.f4.resultTypes.toList))=true:=by kernel_rfl
theorem mu:((Rows.endlessMeetingRow.loops ==(Tryz.f4.params.toList++Rows.endlessMeetingSpec.plain.varTypes Tryz.pinned.checked.prog).any (Tryz.pinned.checked.prog.loopsFrom ·)))=true:=by kernel_rfl
theorem mv:((Rows.endlessMeetingRow.wideKeys ==(Tryz.f4.params.toList++Rows.endlessMeetingSpec.plain.varTypes Tryz.pinned.checked.prog++Tryz.f4.resultTypes.toList).any (Tryz.pinned.checked.prog.wideKeysFrom ·)))=true:=by kernel_rfl
theorem mw:(Rows.endlessMeetingSpec.vars.all (Tryz.pinned.checked.prog.varReadable ·))=true:=by kernel_rfl
theorem my:(Tryz.f4.resultTypes.all (fun t=>Tryz.pinned.checked.prog.readableRec t&&decide (t<Tryz.pinned.checked.prog.types.size)))=true:=by kernel_rfl
theorem mz:((Rows.endlessMeetingRow.ifacesOut == Tryz.f4.resultTypes.toList.any (Tryz.pinned.checked.prog.ifacesRec ·)))=true:=by kernel_rfl
theorem mB:((Rows.endlessMeetingRow.loopsOut == Tryz.f4.resultTypes.toList.any (Tryz.pinned.checked.prog.loopsFrom ·)))=true:=by kernel_rfl
theorem mC:((Rows.endlessMeetingRow.plainKeys == Tryz.pinned.checked.prog.plainKeys))=true:=by kernel_rfl
theorem mD:(Rows.endlessMeetingRow.shortTexts.isNone)=true:=by kernel_rfl
theorem mE:(Tryz.pinned.checked.prog.stopsHeard)=true:=by kernel_rfl
theorem mF:(Tryz.pinned.checked.prog.mayEnter)=true:=by kernel_rfl
theorem mG:((Rows.endlessMeetingRow.lifted == Tryz.pinned.checked.prog.liftsFinal))=true:=by kernel_rfl
theorem mH:((Tryz.pinned.checked.prog.make == some Rows.endlessMeetingRow.make))=true:=by kernel_rfl
theorem mI:((Rows.endlessMeetingRow.kinds ==(if Rows.endlessMeetingRow.domain.isEmpty then []else Tryz.f4.params.toList.map fun t=>match Tryz.pinned.checked.prog.underlying t with | some (.int k)=>some k | _=>none)))=true:=by kernel_rfl
theorem mJ:((Rows.endlessMeetingRow.pinned == Rows.endlessMeetingRow.pinnedBy))=true:=by kernel_rfl
theorem mL:((Rows.endlessMeetingRow.veiled ==(Tryz.f4.params.toList++Rows.endlessMeetingSpec.plain.varTypes Tryz.pinned.checked.prog++Tryz.f4.resultTypes.toList).any (Tryz.pinned.checked.prog.veiledRec ·)))=true:=by kernel_rfl
theorem mM:(Rows.endlessMeetingRow.veiledFits Tryz.pinned.checked.prog Tryz.f4.params.toList (Tryz.f4.params.toList++Rows.endlessMeetingSpec.plain.varTypes Tryz.pinned.checked.prog++Tryz.f4.resultTypes.toList))=true:=by kernel_rfl
theorem eB:((Rows.endlessMeetingRow.inPlace == Tryz.pinned.checked.prog.inPlace 4)&&(Rows.endlessMeetingRow.unfollowed == Tryz.pinned.checked.prog.unfollowed 4)&&(Rows.endlessMeetingRow.recurses == Tryz.pinned.checked.prog.recurses 4)&&(Rows.endlessMeetingRow.named == Tryz.pinned.checked.prog.varsNamed 4))=true:=by kernel_rfl
theorem oh:Tryz.pinned.checked.prog.funcNamed Rows.endlessMeetingRow.func=some 4:=by kernel_rfl
theorem kJ:Tryz.f4.isInstance Tryz.pinned.checked.prog Rows.endlessMeetingRow.origin Rows.endlessMeetingRow.targs:=of_decide_eq_true (by kernel_rfl)
theorem lV:Tryz.f4.isWrapper Tryz.pinned.checked.prog Rows.endlessMeetingRow.wrapper Rows.endlessMeetingRow.mainSum:=by unfold Func.isWrapper;first | (rw [if_pos (by decide +kernel)];kernel_rfl) | (rw [if_neg (by decide +kernel)];exact⟨rfl,rfl⟩)
end Go.Proofs.YthkmdpgdicohdaaGreat
end
