/-
  ua facts of the row of RoomOrder, by the kernel.
-/
import Derived.Test.YtelifakcllijpaaGreatRows
import Derived.ProofKit
set_option linter.unusedVariables false
set_option linter.unusedSimpArgs false
set_option linter.unusedSectionVars false
section
namespace Go.Proofs.YtelifakcllijpaaGreat
open Go Go.ChangeShapes Go.WideShapes Go.ChangeAt Go.RowKit
theorem bD{a b:Bool}(ha:a=true)(hb:b=true):(a&&b)=true:=by rw[ha,hb];rfl
theorem gL{a b:Bool}(h:(a&&b)=true):a=true:=by cases a<;>simp_all
theorem nv{a b:Bool}(h:(a&&b)=true):b=true:=by cases a<;>simp_all
theorem yD:(Rows.roomOrderRow.wf (OpenSpec.ofChange Rows.roomOrderSpec))=true:=by kernel_rfl
theorem yE:(laidOutB Tryz.pinned.checked.prog)=true:=by kernel_rfl
theorem yF:(mapsRowed Tryz.pinned.checked.prog)=true:=by kernel_rfl
theorem yG:(Tryz.f8.params.all (Tryz.pinned.checked.prog.readableRec ·))=true:=by kernel_rfl
theorem yH:(namedTie Tryz.pinned.checked.prog Rows.roomOrderRow.named Rows.roomOrderSpec.vars)=true:=by kernel_rfl
theorem yI:((Rows.roomOrderRow.stops == []))=true:=by kernel_rfl
theorem yJ:((Tryz.pinned.checked.prog.stops == []))=true:=by kernel_rfl
theorem yK:((Rows.roomOrderRow.knobs == []))=true:=by kernel_rfl
theorem yL:((Tryz.pinned.checked.prog.stopKnobs == []))=true:=by kernel_rfl
theorem vY:((Rows.roomOrderRow.maps ==(Tryz.f8.params.toList++Rows.roomOrderSpec.plain.varTypes Tryz.pinned.checked.prog).any (Tryz.pinned.checked.prog.mapsRec ·)))=true:=by kernel_rfl
theorem vZ:((Rows.roomOrderRow.ifaces ==(Tryz.f8.params.toList++Rows.roomOrderSpec.plain.varTypes Tryz.pinned.checked.prog).any (Tryz.pinned.checked.prog.ifacesRec ·)))=true:=by kernel_rfl
theorem v8:((Rows.roomOrderRow.mapsOut == Tryz.pinned.checked.prog.mapsAmong Tryz.f8.resultTypes.toList))=true:=by kernel_rfl
theorem wa:((Rows.roomOrderRow.loops ==(Tryz.f8.params.toList++Rows.roomOrderSpec.plain.varTypes Tryz.pinned.checked.prog).any (Tryz.pinned.checked.prog.loopsFrom ·)))=true:=by kernel_rfl
theorem wb:((Rows.roomOrderRow.wideKeys ==(Tryz.f8.params.toList++Rows.roomOrderSpec.plain.varTypes Tryz.pinned.checked.prog++Tryz.f8.resultTypes.toList).any (Tryz.pinned.checked.prog.wideKeysFrom ·)))=true:=by kernel_rfl
theorem wc:(Rows.roomOrderSpec.vars.all (Tryz.pinned.checked.prog.varReadable ·))=true:=by kernel_rfl
theorem we:(Tryz.f8.resultTypes.all (λt=>Tryz.pinned.checked.prog.readableRec t&&decide (t<Tryz.pinned.checked.prog.types.size)))=true:=by kernel_rfl
theorem wg:((Rows.roomOrderRow.ifacesOut == Tryz.f8.resultTypes.toList.any (Tryz.pinned.checked.prog.ifacesRec ·)))=true:=by kernel_rfl
theorem wh:((Rows.roomOrderRow.loopsOut == Tryz.f8.resultTypes.toList.any (Tryz.pinned.checked.prog.loopsFrom ·)))=true:=by kernel_rfl
theorem wi:((Rows.roomOrderRow.plainKeys == Tryz.pinned.checked.prog.plainKeys))=true:=by kernel_rfl
theorem wj:(Rows.roomOrderRow.shortTexts.isNone)=true:=by kernel_rfl
theorem wk:(Tryz.pinned.checked.prog.stopsHeard)=true:=by kernel_rfl
theorem wm:(Tryz.pinned.checked.prog.mayEnter)=true:=by kernel_rfl
theorem wo:((Rows.roomOrderRow.lifted == Tryz.pinned.checked.prog.liftsFinal))=true:=by kernel_rfl
theorem wq:((Tryz.pinned.checked.prog.make == some Rows.roomOrderRow.make))=true:=by kernel_rfl
theorem wu:((Rows.roomOrderRow.kinds ==(if Rows.roomOrderRow.domain.isEmpty then []else Tryz.f8.params.toList.map λt=>match Tryz.pinned.checked.prog.underlying t with|some (.int k)=>some k|_=>none)))=true:=by kernel_rfl
theorem wv:((Rows.roomOrderRow.pinned == Rows.roomOrderRow.pinnedBy))=true:=by kernel_rfl
theorem wx:((Rows.roomOrderRow.veiled ==(Tryz.f8.params.toList++Rows.roomOrderSpec.plain.varTypes Tryz.pinned.checked.prog++Tryz.f8.resultTypes.toList).any (Tryz.pinned.checked.prog.veiledRec ·)))=true:=by kernel_rfl
theorem wy:(Rows.roomOrderRow.veiledFits Tryz.pinned.checked.prog Tryz.f8.params.toList (Tryz.f8.params.toList++Rows.roomOrderSpec.plain.varTypes Tryz.pinned.checked.prog++Tryz.f8.resultTypes.toList))=true:=by kernel_rfl
theorem jB:((Rows.roomOrderRow.inPlace == Tryz.pinned.checked.prog.inPlace 8)&&(Rows.roomOrderRow.unfollowed == Tryz.pinned.checked.prog.unfollowed 8)&&(Rows.roomOrderRow.recurses == Tryz.pinned.checked.prog.recurses 8)&&(Rows.roomOrderRow.named == Tryz.pinned.checked.prog.varsNamed 8))=true:=by kernel_rfl
theorem yM:Tryz.pinned.checked.prog.funcNamed Rows.roomOrderRow.func=some 8:=by kernel_rfl
theorem tD:Tryz.f8.isInstance Tryz.pinned.checked.prog Rows.roomOrderRow.origin Rows.roomOrderRow.targs:=of_decide_eq_true (by kernel_rfl)
theorem uT:Tryz.f8.isWrapper Tryz.pinned.checked.prog Rows.roomOrderRow.wrapper Rows.roomOrderRow.mainSum:=by unfold Func.isWrapper;first|(rw[if_pos (by decide +kernel)];kernel_rfl)|(rw[if_neg (by decide +kernel)];exact⟨rfl,rfl⟩)
end Go.Proofs.YtelifakcllijpaaGreat
end
