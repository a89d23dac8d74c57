/-
  oD facts of ta row of OZ, by ta kernel.
-/
import Derived.Test.YtnaofdffomdmhaaGreatRows
import Derived.ProofKit
set_option linter.unusedVariables false
set_option linter.unusedSimpArgs false
set_option linter.unusedSectionVars false
section
namespace Go.Proofs.YtnaofdffomdmhaaGreat
open Go Go.ChangeShapes Go.WideShapes Go.ChangeAt Go.RowKit
theorem aZ{a b:Bool}(ha:a=true)(hb:b=true):(a&&b)=true:=by rw [ha,hb];rfl
theorem eR{a b:Bool}(h:(a&&b)=true):a=true:=by cases a<;>simp_all
theorem ky{a b:Bool}(h:(a&&b)=true):b=true:=by cases a<;>simp_all
theorem vC:(Rows.holdApartRow.wf (OpenSpec.ofChange Rows.holdApartSpec))=true:=by kernel_rfl
theorem vD:(laidOutB Tryz.pinned.checked.prog)=true:=by kernel_rfl
theorem vE:(mapsRowed Tryz.pinned.checked.prog)=true:=by kernel_rfl
theorem vF:(Tryz.f7.params.all (Tryz.pinned.checked.prog.readableRec ·))=true:=by kernel_rfl
theorem vG:(namedTie Tryz.pinned.checked.prog Rows.holdApartRow.named Rows.holdApartSpec.vars)=true:=by kernel_rfl
theorem vH:((Rows.holdApartRow.stops == []))=true:=by kernel_rfl
theorem vI:((Tryz.pinned.checked.prog.stops == []))=true:=by kernel_rfl
theorem vJ:((Rows.holdApartRow.knobs == []))=true:=by kernel_rfl
theorem vK:((Tryz.pinned.checked.prog.stopKnobs == []))=true:=by kernel_rfl
theorem tp:((Rows.holdApartRow.maps ==(Tryz.f7.params.toList++Rows.holdApartSpec.plain.varTypes Tryz.pinned.checked.prog).any (Tryz.pinned.checked.prog.mapsRec ·)))=true:=by kernel_rfl
theorem tq:((Rows.holdApartRow.ifaces ==(Tryz.f7.params.toList++Rows.holdApartSpec.plain.varTypes Tryz.pinned.checked.prog).any (Tryz.pinned.checked.prog.ifacesRec ·)))=true:=by kernel_rfl
theorem tt:((Rows.holdApartRow.mapsOut == Tryz.pinned.checked.prog.mapsAmong Tryz.f7.resultTypes.toList))=true:=by kernel_rfl
theorem tu:((Rows.holdApartRow.loops ==(Tryz.f7.params.toList++Rows.holdApartSpec.plain.varTypes Tryz.pinned.checked.prog).any (Tryz.pinned.checked.prog.loopsFrom ·)))=true:=by kernel_rfl
theorem tv:((Rows.holdApartRow.wideKeys ==(Tryz.f7.params.toList++Rows.holdApartSpec.plain.varTypes Tryz.pinned.checked.prog++Tryz.f7.resultTypes.toList).any (Tryz.pinned.checked.prog.wideKeysFrom ·)))=true:=by kernel_rfl
theorem tx:(Rows.holdApartSpec.vars.all (Tryz.pinned.checked.prog.varReadable ·))=true:=by kernel_rfl
theorem tz:(Tryz.f7.resultTypes.all (fun t=>Tryz.pinned.checked.prog.readableRec t&&decide (t<Tryz.pinned.checked.prog.types.size)))=true:=by kernel_rfl
theorem tC:((Rows.holdApartRow.ifacesOut == Tryz.f7.resultTypes.toList.any (Tryz.pinned.checked.prog.ifacesRec ·)))=true:=by kernel_rfl
theorem tD:((Rows.holdApartRow.loopsOut == Tryz.f7.resultTypes.toList.any (Tryz.pinned.checked.prog.loopsFrom ·)))=true:=by kernel_rfl
theorem tE:((Rows.holdApartRow.plainKeys == Tryz.pinned.checked.prog.plainKeys))=true:=by kernel_rfl
theorem tF:(Rows.holdApartRow.shortTexts.isNone)=true:=by kernel_rfl
theorem tG:(Tryz.pinned.checked.prog.stopsHeard)=true:=by kernel_rfl
theorem tH:(Tryz.pinned.checked.prog.mayEnter)=true:=by kernel_rfl
theorem tI:((Rows.holdApartRow.lifted == Tryz.pinned.checked.prog.liftsFinal))=true:=by kernel_rfl
theorem tJ:((Tryz.pinned.checked.prog.make == some Rows.holdApartRow.make))=true:=by kernel_rfl
theorem tK:((Rows.holdApartRow.kinds ==(if Rows.holdApartRow.domain.isEmpty then []else Tryz.f7.params.toList.map fun t=>match Tryz.pinned.checked.prog.underlying t with | some (.int k)=>some k | _=>none)))=true:=by kernel_rfl
theorem tL:((Rows.holdApartRow.pinned == Rows.holdApartRow.pinnedBy))=true:=by kernel_rfl
theorem tM:((Rows.holdApartRow.veiled ==(Tryz.f7.params.toList++Rows.holdApartSpec.plain.varTypes Tryz.pinned.checked.prog++Tryz.f7.resultTypes.toList).any (Tryz.pinned.checked.prog.veiledRec ·)))=true:=by kernel_rfl
theorem tN:(Rows.holdApartRow.veiledFits Tryz.pinned.checked.prog Tryz.f7.params.toList (Tryz.f7.params.toList++Rows.holdApartSpec.plain.varTypes Tryz.pinned.checked.prog++Tryz.f7.resultTypes.toList))=true:=by kernel_rfl
theorem gP:((Rows.holdApartRow.inPlace == Tryz.pinned.checked.prog.inPlace 7)&&(Rows.holdApartRow.unfollowed == Tryz.pinned.checked.prog.unfollowed 7)&&(Rows.holdApartRow.recurses == Tryz.pinned.checked.prog.recurses 7)&&(Rows.holdApartRow.named == Tryz.pinned.checked.prog.varsNamed 7))=true:=by kernel_rfl
theorem vL:Tryz.pinned.checked.prog.funcNamed Rows.holdApartRow.func=some 7:=by kernel_rfl
theorem pQ:Tryz.f7.isInstance Tryz.pinned.checked.prog Rows.holdApartRow.origin Rows.holdApartRow.targs:=of_decide_eq_true (by kernel_rfl)
theorem rC:Tryz.f7.isWrapper Tryz.pinned.checked.prog Rows.holdApartRow.wrapper Rows.holdApartRow.mainSum:=by unfold Func.isWrapper;first | (rw [if_pos (by decide +kernel)];kernel_rfl) | (rw [if_neg (by decide +kernel)];exact⟨rfl,rfl⟩)
end Go.Proofs.YtnaofdffomdmhaaGreat
end
