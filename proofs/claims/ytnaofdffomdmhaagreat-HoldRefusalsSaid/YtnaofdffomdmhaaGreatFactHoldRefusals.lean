/-
  rW facts of the row of HoldRefusals, by the kernel.
-/
import Derived.Test.YtnaofdffomdmhaaGreatRows
import Derived.ProofKit
set_option linter.unusedVariables false
set_option linter.unusedSimpArgs false
set_option linter.unusedSectionVars false
section
namespace Go.Proofs.YtnaofdffomdmhaaGreat
open Go Go.ChangeShapes Go.WideShapes Go.ChangeAt Go.RowKit
theorem aT{a b:Bool}(ha:a=true)(hb:b=true):(a&&b)=true:=by rw [ha,hb];rfl
theorem dO{a b:Bool}(h:(a&&b)=true):a=true:=by cases a<;>simp_all
theorem iq{a b:Bool}(h:(a&&b)=true):b=true:=by cases a<;>simp_all
theorem qD:(Rows.holdRefusalsRow.wf (OpenSpec.ofChange Rows.holdRefusalsSpec))=true:=by kernel_rfl
theorem qE:(laidOutB Tryz.pinned.checked.prog)=true:=by kernel_rfl
theorem qF:(mapsRowed Tryz.pinned.checked.prog)=true:=by kernel_rfl
theorem qG:(Tryz.f9.params.all (Tryz.pinned.checked.prog.readableRec ·))=true:=by kernel_rfl
theorem qH:(namedTie Tryz.pinned.checked.prog Rows.holdRefusalsRow.named Rows.holdRefusalsSpec.vars)=true:=by kernel_rfl
theorem qI:((Rows.holdRefusalsRow.stops == []))=true:=by kernel_rfl
theorem qJ:((Tryz.pinned.checked.prog.stops == []))=true:=by kernel_rfl
theorem qK:((Rows.holdRefusalsRow.knobs == []))=true:=by kernel_rfl
theorem qM:((Tryz.pinned.checked.prog.stopKnobs == []))=true:=by kernel_rfl
theorem oY:((Rows.holdRefusalsRow.maps ==(Tryz.f9.params.toList++Rows.holdRefusalsSpec.plain.varTypes Tryz.pinned.checked.prog).any (Tryz.pinned.checked.prog.mapsRec ·)))=true:=by kernel_rfl
theorem oZ:((Rows.holdRefusalsRow.ifaces ==(Tryz.f9.params.toList++Rows.holdRefusalsSpec.plain.varTypes Tryz.pinned.checked.prog).any (Tryz.pinned.checked.prog.ifacesRec ·)))=true:=by kernel_rfl
theorem pb:((Rows.holdRefusalsRow.mapsOut == Tryz.pinned.checked.prog.mapsAmong Tryz.f9.resultTypes.toList))=true:=by kernel_rfl
theorem pc:((Rows.holdRefusalsRow.loops ==(Tryz.f9.params.toList++Rows.holdRefusalsSpec.plain.varTypes Tryz.pinned.checked.prog).any (Tryz.pinned.checked.prog.loopsFrom ·)))=true:=by kernel_rfl
theorem pe:((Rows.holdRefusalsRow.wideKeys ==(Tryz.f9.params.toList++Rows.holdRefusalsSpec.plain.varTypes Tryz.pinned.checked.prog++Tryz.f9.resultTypes.toList).any (Tryz.pinned.checked.prog.wideKeysFrom ·)))=true:=by kernel_rfl
theorem ph:(Rows.holdRefusalsSpec.vars.all (Tryz.pinned.checked.prog.varReadable ·))=true:=by kernel_rfl
theorem pj:(Tryz.f9.resultTypes.all (fun t=>Tryz.pinned.checked.prog.readableRec t&&decide (t<Tryz.pinned.checked.prog.types.size)))=true:=by kernel_rfl
theorem pk:((Rows.holdRefusalsRow.ifacesOut == Tryz.f9.resultTypes.toList.any (Tryz.pinned.checked.prog.ifacesRec ·)))=true:=by kernel_rfl
theorem po:((Rows.holdRefusalsRow.loopsOut == Tryz.f9.resultTypes.toList.any (Tryz.pinned.checked.prog.loopsFrom ·)))=true:=by kernel_rfl
theorem pw:((Rows.holdRefusalsRow.plainKeys == Tryz.pinned.checked.prog.plainKeys))=true:=by kernel_rfl
theorem py:(Rows.holdRefusalsRow.shortTexts.isNone)=true:=by kernel_rfl
theorem pz:(Tryz.pinned.checked.prog.stopsHeard)=true:=by kernel_rfl
theorem pA:(Tryz.pinned.checked.prog.mayEnter)=true:=by kernel_rfl
theorem pB:((Rows.holdRefusalsRow.lifted == Tryz.pinned.checked.prog.liftsFinal))=true:=by kernel_rfl
theorem pC:((Tryz.pinned.checked.prog.make == some Rows.holdRefusalsRow.make))=true:=by kernel_rfl
theorem pD:((Rows.holdRefusalsRow.kinds ==(if Rows.holdRefusalsRow.domain.isEmpty then []else Tryz.f9.params.toList.map fun t=>match Tryz.pinned.checked.prog.underlying t with | some (.int k)=>some k | _=>none)))=true:=by kernel_rfl
theorem pF:((Rows.holdRefusalsRow.pinned == Rows.holdRefusalsRow.pinnedBy))=true:=by kernel_rfl
theorem pG:((Rows.holdRefusalsRow.veiled ==(Tryz.f9.params.toList++Rows.holdRefusalsSpec.plain.varTypes Tryz.pinned.checked.prog++Tryz.f9.resultTypes.toList).any (Tryz.pinned.checked.prog.veiledRec ·)))=true:=by kernel_rfl
theorem pH:(Rows.holdRefusalsRow.veiledFits Tryz.pinned.checked.prog Tryz.f9.params.toList (Tryz.f9.params.toList++Rows.holdRefusalsSpec.plain.varTypes Tryz.pinned.checked.prog++Tryz.f9.resultTypes.toList))=true:=by kernel_rfl
theorem e7:((Rows.holdRefusalsRow.inPlace == Tryz.pinned.checked.prog.inPlace 9)&&(Rows.holdRefusalsRow.unfollowed == Tryz.pinned.checked.prog.unfollowed 9)&&(Rows.holdRefusalsRow.recurses == Tryz.pinned.checked.prog.recurses 9)&&(Rows.holdRefusalsRow.named == Tryz.pinned.checked.prog.varsNamed 9))=true:=by kernel_rfl
theorem qN:Tryz.pinned.checked.prog.funcNamed Rows.holdRefusalsRow.func=some 9:=by kernel_rfl
theorem ng:Tryz.f9.isInstance Tryz.pinned.checked.prog Rows.holdRefusalsRow.origin Rows.holdRefusalsRow.targs:=of_decide_eq_true (by kernel_rfl)
theorem om:Tryz.f9.isWrapper Tryz.pinned.checked.prog Rows.holdRefusalsRow.wrapper Rows.holdRefusalsRow.mainSum:=by unfold Func.isWrapper;first | (rw [if_pos (by decide +kernel)];kernel_rfl) | (rw [if_neg (by decide +kernel)];exact⟨rfl,rfl⟩)
end Go.Proofs.YtnaofdffomdmhaaGreat
end
