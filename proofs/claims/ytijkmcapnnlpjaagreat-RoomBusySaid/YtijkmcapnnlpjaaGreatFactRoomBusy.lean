/-
  Closed facts of the row of RoomBusy, by the kernel.
-/
import Derived.Test.YtijkmcapnnlpjaaGreatRows
import Derived.ProofKit
set_option linter.unusedVariables false
set_option linter.unusedSimpArgs false
set_option linter.unusedSectionVars false
section
namespace Go.Proofs.YtijkmcapnnlpjaaGreat
open Go Go.ChangeShapes Go.WideShapes Go.ChangeAt Go.RowKit
theorem aX{a b:Bool}(ha:a=true)(hb:b=true):(a&&b)=true:=by rw [ha,hb];rfl
theorem jq{a b:Bool}(h:(a&&b)=true):a=true:=by cases a<;>simp_all
theorem pU{a b:Bool}(h:(a&&b)=true):b=true:=by cases a<;>simp_all
theorem D5:(Rows.roomBusyRow.wf (OpenSpec.ofChange Rows.roomBusySpec))=true:=by kernel_rfl
theorem DZ:(laidOutB Tryz.pinned.checked.prog)=true:=by kernel_rfl
theorem DY:(mapsRowed Tryz.pinned.checked.prog)=true:=by kernel_rfl
theorem DX:(Tryz.f3.params.all (Tryz.pinned.checked.prog.readableRec ·))=true:=by kernel_rfl
theorem DW:(namedTie Tryz.pinned.checked.prog Rows.roomBusyRow.named Rows.roomBusySpec.vars)=true:=by kernel_rfl
theorem DV:((Rows.roomBusyRow.stops == []))=true:=by kernel_rfl
theorem DU:((Tryz.pinned.checked.prog.stops == []))=true:=by kernel_rfl
theorem DT:((Rows.roomBusyRow.knobs == []))=true:=by kernel_rfl
theorem DR:((Tryz.pinned.checked.prog.stopKnobs == []))=true:=by kernel_rfl
theorem AB:((Rows.roomBusyRow.maps ==(Tryz.f3.params.toList++Rows.roomBusySpec.plain.varTypes Tryz.pinned.checked.prog).any (Tryz.pinned.checked.prog.mapsRec ·)))=true:=by kernel_rfl
theorem AA:((Rows.roomBusyRow.ifaces ==(Tryz.f3.params.toList++Rows.roomBusySpec.plain.varTypes Tryz.pinned.checked.prog).any (Tryz.pinned.checked.prog.ifacesRec ·)))=true:=by kernel_rfl
theorem Az:((Rows.roomBusyRow.mapsOut == Tryz.pinned.checked.prog.mapsAmong Tryz.f3.resultTypes.toList))=true:=by kernel_rfl
theorem Aw:((Rows.roomBusyRow.loops ==(Tryz.f3.params.toList++Rows.roomBusySpec.plain.varTypes Tryz.pinned.checked.prog).any (Tryz.pinned.checked.prog.loopsFrom ·)))=true:=by kernel_rfl
theorem Au:((Rows.roomBusyRow.wideKeys ==(Tryz.f3.params.toList++Rows.roomBusySpec.plain.varTypes Tryz.pinned.checked.prog++Tryz.f3.resultTypes.toList).any (Tryz.pinned.checked.prog.wideKeysFrom ·)))=true:=by kernel_rfl
theorem Ar:(Rows.roomBusySpec.vars.all (Tryz.pinned.checked.prog.varReadable ·))=true:=by kernel_rfl
theorem Aq:(Tryz.f3.resultTypes.all (fun t=>Tryz.pinned.checked.prog.readableRec t&&decide (t<Tryz.pinned.checked.prog.types.size)))=true:=by kernel_rfl
theorem Ap:((Rows.roomBusyRow.ifacesOut == Tryz.f3.resultTypes.toList.any (Tryz.pinned.checked.prog.ifacesRec ·)))=true:=by kernel_rfl
theorem Am:((Rows.roomBusyRow.loopsOut == Tryz.f3.resultTypes.toList.any (Tryz.pinned.checked.prog.loopsFrom ·)))=true:=by kernel_rfl
theorem Ak:((Rows.roomBusyRow.plainKeys == Tryz.pinned.checked.prog.plainKeys))=true:=by kernel_rfl
theorem Aj:(Rows.roomBusyRow.shortTexts.isNone)=true:=by kernel_rfl
theorem Ai:(Tryz.pinned.checked.prog.stopsHeard)=true:=by kernel_rfl
theorem Ah:(Tryz.pinned.checked.prog.mayEnter)=true:=by kernel_rfl
theorem Ag:((Rows.roomBusyRow.lifted == Tryz.pinned.checked.prog.liftsFinal))=true:=by kernel_rfl
theorem Af:((Tryz.pinned.checked.prog.make == some Rows.roomBusyRow.make))=true:=by kernel_rfl
theorem Ae:((Rows.roomBusyRow.kinds ==(if Rows.roomBusyRow.domain.isEmpty then []else Tryz.f3.params.toList.map fun t=>match Tryz.pinned.checked.prog.underlying t with | some (.int k)=>some k | _=>none)))=true:=by kernel_rfl
theorem Ad:((Rows.roomBusyRow.pinned == Rows.roomBusyRow.pinnedBy))=true:=by kernel_rfl
theorem Ac:((Rows.roomBusyRow.veiled ==(Tryz.f3.params.toList++Rows.roomBusySpec.plain.varTypes Tryz.pinned.checked.prog++Tryz.f3.resultTypes.toList).any (Tryz.pinned.checked.prog.veiledRec ·)))=true:=by kernel_rfl
theorem Aa:(Rows.roomBusyRow.veiledFits Tryz.pinned.checked.prog Tryz.f3.params.toList (Tryz.f3.params.toList++Rows.roomBusySpec.plain.varTypes Tryz.pinned.checked.prog++Tryz.f3.resultTypes.toList))=true:=by kernel_rfl
theorem lu:((Rows.roomBusyRow.inPlace == Tryz.pinned.checked.prog.inPlace 3)&&(Rows.roomBusyRow.unfollowed == Tryz.pinned.checked.prog.unfollowed 3)&&(Rows.roomBusyRow.recurses == Tryz.pinned.checked.prog.recurses 3)&&(Rows.roomBusyRow.named == Tryz.pinned.checked.prog.varsNamed 3))=true:=by kernel_rfl
theorem DN:Tryz.pinned.checked.prog.funcNamed Rows.roomBusyRow.func=some 3:=by kernel_rfl
theorem wR:Tryz.f3.isInstance Tryz.pinned.checked.prog Rows.roomBusyRow.origin Rows.roomBusyRow.targs:=of_decide_eq_true (by kernel_rfl)
theorem yN:Tryz.f3.isWrapper Tryz.pinned.checked.prog Rows.roomBusyRow.wrapper Rows.roomBusyRow.mainSum:=by unfold Func.isWrapper;first | (rw [if_pos (by decide +kernel)];kernel_rfl) | (rw [if_neg (by decide +kernel)];exact⟨rfl,rfl⟩)
end Go.Proofs.YtijkmcapnnlpjaaGreat
end
