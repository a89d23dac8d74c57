/-
  vH facts of the row of RoomRefusals, by the kernel.
-/
import Derived.Test.YtelifakcllijpaaGreatRows
import Derived.ProofKit
set_option linter.all false
section
namespace Go.Proofs.YtelifakcllijpaaGreat
open Go Go.ChangeShapes Go.WideShapes Go.ChangeAt Go.RowKit
def bg{a b:Bool}(ha:a=true)(hb:b=true):(a&&b)=true:=by rw[ha,hb];rfl
def ff{a b:Bool}(h:(a&&b)=true):a=true:=by cases a<;>simp_all
def kD{a b:Bool}(h:(a&&b)=true):b=true:=by cases a<;>simp_all
def uT:(Rows.roomRefusalsRow.wf (OpenSpec.ofChange Rows.roomRefusalsSpec))=true:=by kernel_rfl
def uU:(laidOutB Tryz.pinned.checked.prog)=true:=by kernel_rfl
def uV:(mapsRowed Tryz.pinned.checked.prog)=true:=by kernel_rfl
def uW:(Tryz.f5.params.all (Tryz.pinned.checked.prog.readableRec ·))=true:=by kernel_rfl
def uX:(namedTie Tryz.pinned.checked.prog Rows.roomRefusalsRow.named Rows.roomRefusalsSpec.vars)=true:=by kernel_rfl
def uY:((Rows.roomRefusalsRow.stops == []))=true:=by kernel_rfl
def uZ:((Tryz.pinned.checked.prog.stops == []))=true:=by kernel_rfl
def vc:((Rows.roomRefusalsRow.knobs == []))=true:=by kernel_rfl
def vd:((Tryz.pinned.checked.prog.stopKnobs == []))=true:=by kernel_rfl
def th:((Rows.roomRefusalsRow.maps ==(Tryz.f5.params.toList++Rows.roomRefusalsSpec.plain.varTypes Tryz.pinned.checked.prog).any (Tryz.pinned.checked.prog.mapsRec ·)))=true:=by kernel_rfl
def ti:((Rows.roomRefusalsRow.ifaces ==(Tryz.f5.params.toList++Rows.roomRefusalsSpec.plain.varTypes Tryz.pinned.checked.prog).any (Tryz.pinned.checked.prog.ifacesRec ·)))=true:=by kernel_rfl
def tj:((Rows.roomRefusalsRow.mapsOut == Tryz.pinned.checked.prog.mapsAmong Tryz.f5.resultTypes.toList))=true:=by kernel_rfl
def tn:((Rows.roomRefusalsRow.loops ==(Tryz.f5.params.toList++Rows.roomRefusalsSpec.plain.varTypes Tryz.pinned.checked.prog).any (Tryz.pinned.checked.prog.loopsFrom ·)))=true:=by kernel_rfl
def tp:((Rows.roomRefusalsRow.wideKeys ==(Tryz.f5.params.toList++Rows.roomRefusalsSpec.plain.varTypes Tryz.pinned.checked.prog++Tryz.f5.resultTypes.toList).any (Tryz.pinned.checked.prog.wideKeysFrom ·)))=true:=by kernel_rfl
def tq:(Rows.roomRefusalsSpec.vars.all (Tryz.pinned.checked.prog.varReadable ·))=true:=by kernel_rfl
def tt:(Tryz.f5.resultTypes.all (λt=>Tryz.pinned.checked.prog.readableRec t&&decide (t<Tryz.pinned.checked.prog.types.size)))=true:=by kernel_rfl
def tu:((Rows.roomRefusalsRow.ifacesOut == Tryz.f5.resultTypes.toList.any (Tryz.pinned.checked.prog.ifacesRec ·)))=true:=by kernel_rfl
def tv:((Rows.roomRefusalsRow.loopsOut == Tryz.f5.resultTypes.toList.any (Tryz.pinned.checked.prog.loopsFrom ·)))=true:=by kernel_rfl
def tx:((Rows.roomRefusalsRow.plainKeys == Tryz.pinned.checked.prog.plainKeys))=true:=by kernel_rfl
def tz:(Rows.roomRefusalsRow.shortTexts.isNone)=true:=by kernel_rfl
def tA:(Tryz.pinned.checked.prog.stopsHeard)=true:=by kernel_rfl
def tB:(Tryz.pinned.checked.prog.mayEnter)=true:=by kernel_rfl
def tC:((Rows.roomRefusalsRow.lifted == Tryz.pinned.checked.prog.liftsFinal))=true:=by kernel_rfl
def tD:((Tryz.pinned.checked.prog.make == some Rows.roomRefusalsRow.make))=true:=by kernel_rfl
def tE:((Rows.roomRefusalsRow.kinds ==(if Rows.roomRefusalsRow.domain.isEmpty then []else Tryz.f5.params.toList.map λt=>match Tryz.pinned.checked.prog.underlying t with|some (.int k)=>some k|_=>none)))=true:=by kernel_rfl
def tF:((Rows.roomRefusalsRow.pinned == Rows.roomRefusalsRow.pinnedBy))=true:=by kernel_rfl
def tG:((Rows.roomRefusalsRow.veiled ==(Tryz.f5.params.toList++Rows.roomRefusalsSpec.plain.varTypes Tryz.pinned.checked.prog++Tryz.f5.resultTypes.toList).any (Tryz.pinned.checked.prog.veiledRec ·)))=true:=by kernel_rfl
def tH:(Rows.roomRefusalsRow.veiledFits Tryz.pinned.checked.prog Tryz.f5.params.toList (Tryz.f5.params.toList++Rows.roomRefusalsSpec.plain.varTypes Tryz.pinned.checked.prog++Tryz.f5.resultTypes.toList))=true:=by kernel_rfl
def ig:((Rows.roomRefusalsRow.inPlace == Tryz.pinned.checked.prog.inPlace 5)&&(Rows.roomRefusalsRow.unfollowed == Tryz.pinned.checked.prog.unfollowed 5)&&(Rows.roomRefusalsRow.recurses == Tryz.pinned.checked.prog.recurses 5)&&(Rows.roomRefusalsRow.named == Tryz.pinned.checked.prog.varsNamed 5))=true:=by kernel_rfl
def ve:Tryz.pinned.checked.prog.funcNamed Rows.roomRefusalsRow.func=some 5:=by kernel_rfl
def qN:Tryz.f5.isInstance Tryz.pinned.checked.prog Rows.roomRefusalsRow.origin Rows.roomRefusalsRow.targs:=of_decide_eq_true (by kernel_rfl)
def rU:Tryz.f5.isWrapper Tryz.pinned.checked.prog Rows.roomRefusalsRow.wrapper Rows.roomRefusalsRow.mainSum:=by unfold Func.isWrapper;first|(rw[if_pos (by decide +kernel)];kernel_rfl)|(rw[if_neg (by decide +kernel)];exact⟨rfl,rfl⟩)
end Go.Proofs.YtelifakcllijpaaGreat
end
