/-
  pT facts of the row of HoldExpires, by the kernel.
-/
import Derived.Test.YtnaofdffomdmhaaGreatRows
import Derived.ProofKit
set_option linter.unusedVariables false
set_option linter.unusedSimpArgs false
set_option linter.unusedSectionVars false
section
namespace Go.Proofs.YtnaofdffomdmhaaGreat
open Go Go.ChangeShapes Go.WideShapes Go.ChangeAt Go.RowKit
theorem aS{a b:Bool}(ha:a=true)(hb:b=true):(a&&b)=true:=by rw [ha,hb];rfl
theorem dO{a b:Bool}(h:(a&&b)=true):a=true:=by cases a<;>simp_all
theorem ie{a b:Bool}(h:(a&&b)=true):b=true:=by cases a<;>simp_all
theorem qi:(Rows.holdExpiresRow.wf (OpenSpec.ofChange Rows.holdExpiresSpec))=true:=by kernel_rfl
theorem qj:(laidOutB Tryz.pinned.checked.prog)=true:=by kernel_rfl
theorem qn:(mapsRowed Tryz.pinned.checked.prog)=true:=by kernel_rfl
theorem qo:(Tryz.f4.params.all (Tryz.pinned.checked.prog.readableRec ·))=true:=by kernel_rfl
theorem qp:(namedTie Tryz.pinned.checked.prog Rows.holdExpiresRow.named Rows.holdExpiresSpec.vars)=true:=by kernel_rfl
theorem qt:((Rows.holdExpiresRow.stops == []))=true:=by kernel_rfl
theorem qv:((Tryz.pinned.checked.prog.stops == []))=true:=by kernel_rfl
theorem qw:((Rows.holdExpiresRow.knobs == []))=true:=by kernel_rfl
theorem qx:((Tryz.pinned.checked.prog.stopKnobs == []))=true:=by kernel_rfl
theorem oq:((Rows.holdExpiresRow.maps ==(Tryz.f4.params.toList++Rows.holdExpiresSpec.plain.varTypes Tryz.pinned.checked.prog).any (Tryz.pinned.checked.prog.mapsRec ·)))=true:=by kernel_rfl
theorem ot:((Rows.holdExpiresRow.ifaces ==(Tryz.f4.params.toList++Rows.holdExpiresSpec.plain.varTypes Tryz.pinned.checked.prog).any (Tryz.pinned.checked.prog.ifacesRec ·)))=true:=by kernel_rfl
theorem ou:((Rows.holdExpiresRow.mapsOut == Tryz.pinned.checked.prog.mapsAmong Tryz.f4.resultTypes.toList))=true:=by kernel_rfl
theorem ov:((Rows.holdExpiresRow.loops ==(Tryz.f4.params.toList++Rows.holdExpiresSpec.plain.varTypes Tryz.pinned.checked.prog).any (Tryz.pinned.checked.prog.loopsFrom ·)))=true:=by kernel_rfl
theorem oy:((Rows.holdExpiresRow.wideKeys ==(Tryz.f4.params.toList++Rows.holdExpiresSpec.plain.varTypes Tryz.pinned.checked.prog++Tryz.f4.resultTypes.toList).any (Tryz.pinned.checked.prog.wideKeysFrom ·)))=true:=by kernel_rfl
theorem oz:(Rows.holdExpiresSpec.vars.all (Tryz.pinned.checked.prog.varReadable ·))=true:=by kernel_rfl
theorem oA:(Tryz.f4.resultTypes.all (fun t=>Tryz.pinned.checked.prog.readableRec t&&decide (t<Tryz.pinned.checked.prog.types.size)))=true:=by kernel_rfl
theorem oB:((Rows.holdExpiresRow.ifacesOut == Tryz.f4.resultTypes.toList.any (Tryz.pinned.checked.prog.ifacesRec ·)))=true:=by kernel_rfl
theorem oC:((Rows.holdExpiresRow.loopsOut == Tryz.f4.resultTypes.toList.any (Tryz.pinned.checked.prog.loopsFrom ·)))=true:=by kernel_rfl
theorem oD:((Rows.holdExpiresRow.plainKeys == Tryz.pinned.checked.prog.plainKeys))=true:=by kernel_rfl
theorem oE:(Rows.holdExpiresRow.shortTexts.isNone)=true:=by kernel_rfl
theorem oF:(Tryz.pinned.checked.prog.stopsHeard)=true:=by kernel_rfl
theorem oG:(Tryz.pinned.checked.prog.mayEnter)=true:=by kernel_rfl
theorem oH:((Rows.holdExpiresRow.lifted == Tryz.pinned.checked.prog.liftsFinal))=true:=by kernel_rfl
theorem oI:((Tryz.pinned.checked.prog.make == some Rows.holdExpiresRow.make))=true:=by kernel_rfl
theorem oJ:((Rows.holdExpiresRow.kinds ==(if Rows.holdExpiresRow.domain.isEmpty then []else Tryz.f4.params.toList.map fun t=>match Tryz.pinned.checked.prog.underlying t with | some (.int k)=>some k | _=>none)))=true:=by kernel_rfl
theorem oK:((Rows.holdExpiresRow.pinned == Rows.holdExpiresRow.pinnedBy))=true:=by kernel_rfl
theorem oL:((Rows.holdExpiresRow.veiled ==(Tryz.f4.params.toList++Rows.holdExpiresSpec.plain.varTypes Tryz.pinned.checked.prog++Tryz.f4.resultTypes.toList).any (Tryz.pinned.checked.prog.veiledRec ·)))=true:=by kernel_rfl
theorem oM:(Rows.holdExpiresRow.veiledFits Tryz.pinned.checked.prog Tryz.f4.params.toList (Tryz.f4.params.toList++Rows.holdExpiresSpec.plain.varTypes Tryz.pinned.checked.prog++Tryz.f4.resultTypes.toList))=true:=by kernel_rfl
theorem e7:((Rows.holdExpiresRow.inPlace == Tryz.pinned.checked.prog.inPlace 4)&&(Rows.holdExpiresRow.unfollowed == Tryz.pinned.checked.prog.unfollowed 4)&&(Rows.holdExpiresRow.recurses == Tryz.pinned.checked.prog.recurses 4)&&(Rows.holdExpiresRow.named == Tryz.pinned.checked.prog.varsNamed 4))=true:=by kernel_rfl
theorem qy:Tryz.pinned.checked.prog.funcNamed Rows.holdExpiresRow.func=some 4:=by kernel_rfl
theorem mJ:Tryz.f4.isInstance Tryz.pinned.checked.prog Rows.holdExpiresRow.origin Rows.holdExpiresRow.targs:=of_decide_eq_true (by kernel_rfl)
theorem ns:Tryz.f4.isWrapper Tryz.pinned.checked.prog Rows.holdExpiresRow.wrapper Rows.holdExpiresRow.mainSum:=by unfold Func.isWrapper;first | (rw [if_pos (by decide +kernel)];kernel_rfl) | (rw [if_neg (by decide +kernel)];exact⟨rfl,rfl⟩)
end Go.Proofs.YtnaofdffomdmhaaGreat
end
