/-
  qb facts of the row of SeriesMoves, by the kernel.
-/
import Derived.Test.YtmbjejcfadllnaaGreatRows
import Derived.ProofKit
set_option linter.unusedVariables false
set_option linter.unusedSimpArgs false
set_option linter.unusedSectionVars false
section
namespace Go.Proofs.YtmbjejcfadllnaaGreat
open Go Go.ChangeShapes Go.WideShapes Go.ChangeAt Go.RowKit
theorem aS{a b:Bool}(ha:a=true)(hb:b=true):(a&&b)=true:=by rw [ha,hb];rfl
theorem dF{a b:Bool}(h:(a&&b)=true):a=true:=by cases a<;>simp_all
theorem hZ{a b:Bool}(h:(a&&b)=true):b=true:=by cases a<;>simp_all
theorem qH:(Rows.seriesMovesRow.wf (OpenSpec.ofChange Rows.seriesMovesSpec))=true:=by kernel_rfl
theorem qI:(laidOutB Tryz.pinned.checked.prog)=true:=by kernel_rfl
theorem qJ:(mapsRowed Tryz.pinned.checked.prog)=true:=by kernel_rfl
theorem qK:(Tryz.f6.params.all (Tryz.pinned.checked.prog.readableRec ·))=true:=by kernel_rfl
theorem qL:(namedTie Tryz.pinned.checked.prog Rows.seriesMovesRow.named Rows.seriesMovesSpec.vars)=true:=by kernel_rfl
theorem qM:((Rows.seriesMovesRow.stops == []))=true:=by kernel_rfl
theorem qN:((Tryz.pinned.checked.prog.stops == []))=true:=by kernel_rfl
theorem qO:((Rows.seriesMovesRow.knobs == []))=true:=by kernel_rfl
theorem qP:((Tryz.pinned.checked.prog.stopKnobs == []))=true:=by kernel_rfl
theorem oZ:((Rows.seriesMovesRow.maps ==(Tryz.f6.params.toList++Rows.seriesMovesSpec.plain.varTypes Tryz.pinned.checked.prog).any (Tryz.pinned.checked.prog.mapsRec ·)))=true:=by kernel_rfl
theorem pb:((Rows.seriesMovesRow.ifaces ==(Tryz.f6.params.toList++Rows.seriesMovesSpec.plain.varTypes Tryz.pinned.checked.prog).any (Tryz.pinned.checked.prog.ifacesRec ·)))=true:=by kernel_rfl
theorem pe:((Rows.seriesMovesRow.mapsOut == Tryz.pinned.checked.prog.mapsAmong Tryz.f6.resultTypes.toList))=true:=by kernel_rfl
theorem pg:((Rows.seriesMovesRow.loops ==(Tryz.f6.params.toList++Rows.seriesMovesSpec.plain.varTypes Tryz.pinned.checked.prog).any (Tryz.pinned.checked.prog.loopsFrom ·)))=true:=by kernel_rfl
theorem ph:((Rows.seriesMovesRow.wideKeys ==(Tryz.f6.params.toList++Rows.seriesMovesSpec.plain.varTypes Tryz.pinned.checked.prog++Tryz.f6.resultTypes.toList).any (Tryz.pinned.checked.prog.wideKeysFrom ·)))=true:=by kernel_rfl
theorem pj:(Rows.seriesMovesSpec.vars.all (Tryz.pinned.checked.prog.varReadable ·))=true:=by kernel_rfl
theorem pk:(Tryz.f6.resultTypes.all (fun t=>Tryz.pinned.checked.prog.readableRec t&&decide (t<Tryz.pinned.checked.prog.types.size)))=true:=by kernel_rfl
theorem pn:((Rows.seriesMovesRow.ifacesOut == Tryz.f6.resultTypes.toList.any (Tryz.pinned.checked.prog.ifacesRec ·)))=true:=by kernel_rfl
theorem po:((Rows.seriesMovesRow.loopsOut == Tryz.f6.resultTypes.toList.any (Tryz.pinned.checked.prog.loopsFrom ·)))=true:=by kernel_rfl
theorem px:((Rows.seriesMovesRow.plainKeys == Tryz.pinned.checked.prog.plainKeys))=true:=by kernel_rfl
theorem py:(Rows.seriesMovesRow.shortTexts.isNone)=true:=by kernel_rfl
theorem pz:(Tryz.pinned.checked.prog.stopsHeard)=true:=by kernel_rfl
theorem pC:(Tryz.pinned.checked.prog.mayEnter)=true:=by kernel_rfl
theorem pD:((Rows.seriesMovesRow.lifted == Tryz.pinned.checked.prog.liftsFinal))=true:=by kernel_rfl
theorem pE:((Tryz.pinned.checked.prog.make == some Rows.seriesMovesRow.make))=true:=by kernel_rfl
theorem pF:((Rows.seriesMovesRow.kinds ==(if Rows.seriesMovesRow.domain.isEmpty then []else Tryz.f6.params.toList.map fun t=>match Tryz.pinned.checked.prog.underlying t with | some (.int k)=>some k | _=>none)))=true:=by kernel_rfl
theorem pG:((Rows.seriesMovesRow.pinned == Rows.seriesMovesRow.pinnedBy))=true:=by kernel_rfl
theorem pH:((Rows.seriesMovesRow.veiled ==(Tryz.f6.params.toList++Rows.seriesMovesSpec.plain.varTypes Tryz.pinned.checked.prog++Tryz.f6.resultTypes.toList).any (Tryz.pinned.checked.prog.veiledRec ·)))=true:=by kernel_rfl
theorem pI:(Rows.seriesMovesRow.veiledFits Tryz.pinned.checked.prog Tryz.f6.params.toList (Tryz.f6.params.toList++Rows.seriesMovesSpec.plain.varTypes Tryz.pinned.checked.prog++Tryz.f6.resultTypes.toList))=true:=by kernel_rfl
theorem eV:((Rows.seriesMovesRow.inPlace == Tryz.pinned.checked.prog.inPlace 6)&&(Rows.seriesMovesRow.unfollowed == Tryz.pinned.checked.prog.unfollowed 6)&&(Rows.seriesMovesRow.recurses == Tryz.pinned.checked.prog.recurses 6)&&(Rows.seriesMovesRow.named == Tryz.pinned.checked.prog.varsNamed 6))=true:=by kernel_rfl
theorem qQ:Tryz.pinned.checked.prog.funcNamed Rows.seriesMovesRow.func=some 6:=by kernel_rfl
theorem nh:Tryz.f6.isInstance Tryz.pinned.checked.prog Rows.seriesMovesRow.origin Rows.seriesMovesRow.targs:=of_decide_eq_true (by kernel_rfl)
theorem nL:Tryz.f6.isWrapper Tryz.pinned.checked.prog Rows.seriesMovesRow.wrapper Rows.seriesMovesRow.mainSum:=by unfold Func.isWrapper;first | (rw [if_pos (by decide +kernel)];kernel_rfl) | (rw [if_neg (by decide +kernel)];exact⟨rfl,rfl⟩)
end Go.Proofs.YtmbjejcfadllnaaGreat
end
