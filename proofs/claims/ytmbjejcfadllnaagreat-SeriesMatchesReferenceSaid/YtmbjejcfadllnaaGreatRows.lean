/-
  No cell of these rows narrows 'for every input' (looked for: loops, veiled, ifaces, maps, wideKeys, modest, calm, conditions, laid).
  DERIVED. THE GIVEN ROWS OF THIS SEAT. 6 by the template 'for every input the law returns true; each argument reads behind the call as it read before'; 0 by the template 'total and deterministic' (their statements: YtmbjejcfadllnaaGreatTotals.lean).
  GIVEN WITH THE SEED: the statements are not yours to turn. If you find one false, say at which input.
  Laid BY PROGRAM, IN A SANDBOX (cutbox-rows.mjs): the forced cells as the released guide's own fill.sh prints them over the translation 4543b640cd0788a5… (all of the seat's roots in one cut). By AI agents, Wed Nov 11 2026. No macro, syntax, notation, axiom, sorry.
-/
import Derived.Test.YtmbjejcfadllnaaGreatChecked
import GoSem.Claim
import GoSem.ClaimJoined
import GoSem.ClaimMapViews
import Derived.JoinedTies
import Derived.KernelRfl
namespace Go.Proofs.YtmbjejcfadllnaaGreat
/- THE CELL 'sum', in the pinned program and in every row, IS THE sha256 OF THE DUMP (.gsa) THAT YtmbjejcfadllnaaGreatProg.lean LOADS. Nothing in Lean hashes anything: it is a label: what it is worth is what the hold of that sum in a sandbox is worth. -/
noncomputable def Tryz.pinned : Pinned := { name := "ytmbjejcfadllnaagreat", sum := "4543b640cd0788a5c141a9e7df116539b561eca1ff216d0f2f074bdf22ff80e8", checked := Tryz.checked }
namespace Rows
def none {H : Type} : Left H := { results := [], args := [] }

/-- 'kalendslaw15.SeriesMatchesReference': WHATEVER THE INPUT: true; the input reads as it did. -/
def seriesMatchesReferenceSpec : ChangeSpec := { name := "seriesMatchesReference", fn := fun _ => fun
  | [d1, d2, d3] => { results := [.lit (.bool true)], args := [d1, d2, d3] }
  | _ => none }
def seriesMatchesReferenceRow : OpenClaim := { program := "ytmbjejcfadllnaagreat", sum := "4543b640cd0788a5c141a9e7df116539b561eca1ff216d0f2f074bdf22ff80e8", func := "kalends/kalendslaw15.SeriesMatchesReference", spec := "seriesMatchesReference", inPlace := ["slices.overlaps[kalends/api.Move]"], unfollowed := true, recurses := true, apart := false }
def SeriesMatchesReferenceSaid : Prop := seriesMatchesReferenceRow.holds Tryz.pinned (OpenSpec.ofChange seriesMatchesReferenceSpec)

/-- ITS FALSE NEIGHBOUR: 'it returns false'. Refute it at one input. -/
def seriesMatchesReferenceWrong : ChangeSpec := { name := "seriesMatchesReference", fn := fun _ => fun
  | [d1, d2, d3] => { results := [.lit (.bool false)], args := [d1, d2, d3] }
  | _ => none }
def SeriesMatchesReferenceWrongFalsely : Prop := seriesMatchesReferenceRow.holds Tryz.pinned (OpenSpec.ofChange seriesMatchesReferenceWrong)

/-- 'kalendslaw15.SeriesListMatchesReference': WHATEVER THE INPUT: true; the input reads as it did. -/
def seriesListMatchesReferenceSpec : ChangeSpec := { name := "seriesListMatchesReference", fn := fun _ => fun
  | [d1, d2, d3] => { results := [.lit (.bool true)], args := [d1, d2, d3] }
  | _ => none }
def seriesListMatchesReferenceRow : OpenClaim := { program := "ytmbjejcfadllnaagreat", sum := "4543b640cd0788a5c141a9e7df116539b561eca1ff216d0f2f074bdf22ff80e8", func := "kalends/kalendslaw15.SeriesListMatchesReference", spec := "seriesListMatchesReference", inPlace := ["slices.overlaps[kalends/api.Move]"], unfollowed := true, recurses := true, apart := false }
def SeriesListMatchesReferenceSaid : Prop := seriesListMatchesReferenceRow.holds Tryz.pinned (OpenSpec.ofChange seriesListMatchesReferenceSpec)

/-- ITS FALSE NEIGHBOUR: 'it returns false'. Refute it at one input. -/
def seriesListMatchesReferenceWrong : ChangeSpec := { name := "seriesListMatchesReference", fn := fun _ => fun
  | [d1, d2, d3] => { results := [.lit (.bool false)], args := [d1, d2, d3] }
  | _ => none }
def SeriesListMatchesReferenceWrongFalsely : Prop := seriesListMatchesReferenceRow.holds Tryz.pinned (OpenSpec.ofChange seriesListMatchesReferenceWrong)

/-- 'kalendslaw15.SeriesLists': WHATEVER THE INPUT: true; the input reads as it did. -/
def seriesListsSpec : ChangeSpec := { name := "seriesLists", fn := fun _ => fun
  | [d1, d2, d3] => { results := [.lit (.bool true)], args := [d1, d2, d3] }
  | _ => none }
def seriesListsRow : OpenClaim := { program := "ytmbjejcfadllnaagreat", sum := "4543b640cd0788a5c141a9e7df116539b561eca1ff216d0f2f074bdf22ff80e8", func := "kalends/kalendslaw15.SeriesLists", spec := "seriesLists", inPlace := ["slices.overlaps[kalends/api.Move]"], unfollowed := true, recurses := true, apart := false }
def SeriesListsSaid : Prop := seriesListsRow.holds Tryz.pinned (OpenSpec.ofChange seriesListsSpec)

/-- ITS FALSE NEIGHBOUR: 'it returns false'. Refute it at one input. -/
def seriesListsWrong : ChangeSpec := { name := "seriesLists", fn := fun _ => fun
  | [d1, d2, d3] => { results := [.lit (.bool false)], args := [d1, d2, d3] }
  | _ => none }
def SeriesListsWrongFalsely : Prop := seriesListsRow.holds Tryz.pinned (OpenSpec.ofChange seriesListsWrong)

/-- 'kalendslaw15.SeriesMoves': WHATEVER THE INPUT: true; the input reads as it did. -/
def seriesMovesSpec : ChangeSpec := { name := "seriesMoves", fn := fun _ => fun
  | [d1, d2, d3] => { results := [.lit (.bool true)], args := [d1, d2, d3] }
  | _ => none }
def seriesMovesRow : OpenClaim := { program := "ytmbjejcfadllnaagreat", sum := "4543b640cd0788a5c141a9e7df116539b561eca1ff216d0f2f074bdf22ff80e8", func := "kalends/kalendslaw15.SeriesMoves", spec := "seriesMoves", inPlace := ["slices.overlaps[kalends/api.Move]"], unfollowed := true, recurses := true, apart := false }
def SeriesMovesSaid : Prop := seriesMovesRow.holds Tryz.pinned (OpenSpec.ofChange seriesMovesSpec)

/-- ITS FALSE NEIGHBOUR: 'it returns false'. Refute it at one input. -/
def seriesMovesWrong : ChangeSpec := { name := "seriesMoves", fn := fun _ => fun
  | [d1, d2, d3] => { results := [.lit (.bool false)], args := [d1, d2, d3] }
  | _ => none }
def SeriesMovesWrongFalsely : Prop := seriesMovesRow.holds Tryz.pinned (OpenSpec.ofChange seriesMovesWrong)

/-- 'kalendslaw15.SeriesLocalTimes': WHATEVER THE INPUT: true; the input reads as it did. -/
def seriesLocalTimesSpec : ChangeSpec := { name := "seriesLocalTimes", fn := fun _ => fun
  | [d1, d2, d3] => { results := [.lit (.bool true)], args := [d1, d2, d3] }
  | _ => none }
def seriesLocalTimesRow : OpenClaim := { program := "ytmbjejcfadllnaagreat", sum := "4543b640cd0788a5c141a9e7df116539b561eca1ff216d0f2f074bdf22ff80e8", func := "kalends/kalendslaw15.SeriesLocalTimes", spec := "seriesLocalTimes", inPlace := ["slices.overlaps[kalends/api.Move]"], unfollowed := true, recurses := true, apart := false }
def SeriesLocalTimesSaid : Prop := seriesLocalTimesRow.holds Tryz.pinned (OpenSpec.ofChange seriesLocalTimesSpec)

/-- ITS FALSE NEIGHBOUR: 'it returns false'. Refute it at one input. -/
def seriesLocalTimesWrong : ChangeSpec := { name := "seriesLocalTimes", fn := fun _ => fun
  | [d1, d2, d3] => { results := [.lit (.bool false)], args := [d1, d2, d3] }
  | _ => none }
def SeriesLocalTimesWrongFalsely : Prop := seriesLocalTimesRow.holds Tryz.pinned (OpenSpec.ofChange seriesLocalTimesWrong)

/-- 'kalendslaw15.SeriesRejectsInvalid': WHATEVER THE INPUT: true; the input reads as it did. -/
def seriesRejectsInvalidSpec : ChangeSpec := { name := "seriesRejectsInvalid", fn := fun _ => fun
  | [d1, d2, d3] => { results := [.lit (.bool true)], args := [d1, d2, d3] }
  | _ => none }
def seriesRejectsInvalidRow : OpenClaim := { program := "ytmbjejcfadllnaagreat", sum := "4543b640cd0788a5c141a9e7df116539b561eca1ff216d0f2f074bdf22ff80e8", func := "kalends/kalendslaw15.SeriesRejectsInvalid", spec := "seriesRejectsInvalid", inPlace := ["slices.overlaps[kalends/api.Move]"], unfollowed := true, recurses := true, named := ["math/bits.divideError", "math/bits.overflowError"], apart := false }
def SeriesRejectsInvalidSaid : Prop := seriesRejectsInvalidRow.holds Tryz.pinned (OpenSpec.ofChange seriesRejectsInvalidSpec)

/-- ITS FALSE NEIGHBOUR: 'it returns false'. Refute it at one input. -/
def seriesRejectsInvalidWrong : ChangeSpec := { name := "seriesRejectsInvalid", fn := fun _ => fun
  | [d1, d2, d3] => { results := [.lit (.bool false)], args := [d1, d2, d3] }
  | _ => none }
def SeriesRejectsInvalidWrongFalsely : Prop := seriesRejectsInvalidRow.holds Tryz.pinned (OpenSpec.ofChange seriesRejectsInvalidWrong)

/- THE SECOND FORM. 'bulk': how many values and letters a reading holds, each counted each time it is reached (what is shared counts as often as it is met; a slice's spare places count too). A statement '..UptoSaid' is the law's where the arguments, and the package variables that the reading takes, are together of bulk at most 1048576: NARROWER than '..Said'. Prove '..Said' where nothing that the law and all that it calls make is longer than what came in: it says more and counts as full. Else prove '..UptoSaid'. A law counts once. -/
mutual
def uptoBulk {H : Type} : DataW H → Nat
  | .lit (.string bytes) => bytes.length + 1
  | .lit _ => 1
  | .nil => 1
  | .ptr d => uptoBulk d + 1
  | .slice elems spare => uptoBulkAll elems + uptoBulkAll spare + 1
  | .agg parts => uptoBulkAll parts + 1
  | .iface _ d => uptoBulk d + 1
  | .map entries => uptoBulkEntries entries + 1
  | .held _ => 1
def uptoBulkAll {H : Type} : List (DataW H) → Nat
  | [] => 0
  | d :: r => uptoBulk d + uptoBulkAll r
def uptoBulkEntries {H : Type} : List (Lit × DataW H) → Nat
  | [] => 0
  | x :: r => uptoBulkEntry x + uptoBulkEntries r
def uptoBulkEntry {H : Type} : Lit × DataW H → Nat
  | (.string bytes, d) => bytes.length + uptoBulk d + 1
  | (_, d) => uptoBulk d + 1
 end
def uptoSmall : (H : Type) → List (DataW H) → Bool := fun _ ds => decide (uptoBulkAll ds ≤ 1048576)
def OpenSpec.upto (s : _root_.Go.ChangeSpec) : _root_.Go.OpenSpec := { _root_.Go.OpenSpec.ofChange s with cond := some uptoSmall }

/-- 'kalendslaw15.SeriesMatchesReference', WHERE WHAT IT READS IS OF BULK AT MOST 1048576: true; the input reads as it did. -/
def seriesMatchesReferenceUptoRow : OpenClaim := { program := "ytmbjejcfadllnaagreat", sum := "4543b640cd0788a5c141a9e7df116539b561eca1ff216d0f2f074bdf22ff80e8", func := "kalends/kalendslaw15.SeriesMatchesReference", spec := "seriesMatchesReference", inPlace := ["slices.overlaps[kalends/api.Move]"], unfollowed := true, recurses := true, apart := false, narrowed := true }
def SeriesMatchesReferenceUptoSaid : Prop := seriesMatchesReferenceUptoRow.holds Tryz.pinned (OpenSpec.upto seriesMatchesReferenceSpec)

/-- 'kalendslaw15.SeriesListMatchesReference', WHERE WHAT IT READS IS OF BULK AT MOST 1048576: true; the input reads as it did. -/
def seriesListMatchesReferenceUptoRow : OpenClaim := { program := "ytmbjejcfadllnaagreat", sum := "4543b640cd0788a5c141a9e7df116539b561eca1ff216d0f2f074bdf22ff80e8", func := "kalends/kalendslaw15.SeriesListMatchesReference", spec := "seriesListMatchesReference", inPlace := ["slices.overlaps[kalends/api.Move]"], unfollowed := true, recurses := true, apart := false, narrowed := true }
def SeriesListMatchesReferenceUptoSaid : Prop := seriesListMatchesReferenceUptoRow.holds Tryz.pinned (OpenSpec.upto seriesListMatchesReferenceSpec)

/-- 'kalendslaw15.SeriesLists', WHERE WHAT IT READS IS OF BULK AT MOST 1048576: true; the input reads as it did. -/
def seriesListsUptoRow : OpenClaim := { program := "ytmbjejcfadllnaagreat", sum := "4543b640cd0788a5c141a9e7df116539b561eca1ff216d0f2f074bdf22ff80e8", func := "kalends/kalendslaw15.SeriesLists", spec := "seriesLists", inPlace := ["slices.overlaps[kalends/api.Move]"], unfollowed := true, recurses := true, apart := false, narrowed := true }
def SeriesListsUptoSaid : Prop := seriesListsUptoRow.holds Tryz.pinned (OpenSpec.upto seriesListsSpec)

/-- 'kalendslaw15.SeriesMoves', WHERE WHAT IT READS IS OF BULK AT MOST 1048576: true; the input reads as it did. -/
def seriesMovesUptoRow : OpenClaim := { program := "ytmbjejcfadllnaagreat", sum := "4543b640cd0788a5c141a9e7df116539b561eca1ff216d0f2f074bdf22ff80e8", func := "kalends/kalendslaw15.SeriesMoves", spec := "seriesMoves", inPlace := ["slices.overlaps[kalends/api.Move]"], unfollowed := true, recurses := true, apart := false, narrowed := true }
def SeriesMovesUptoSaid : Prop := seriesMovesUptoRow.holds Tryz.pinned (OpenSpec.upto seriesMovesSpec)

/-- 'kalendslaw15.SeriesLocalTimes', WHERE WHAT IT READS IS OF BULK AT MOST 1048576: true; the input reads as it did. -/
def seriesLocalTimesUptoRow : OpenClaim := { program := "ytmbjejcfadllnaagreat", sum := "4543b640cd0788a5c141a9e7df116539b561eca1ff216d0f2f074bdf22ff80e8", func := "kalends/kalendslaw15.SeriesLocalTimes", spec := "seriesLocalTimes", inPlace := ["slices.overlaps[kalends/api.Move]"], unfollowed := true, recurses := true, apart := false, narrowed := true }
def SeriesLocalTimesUptoSaid : Prop := seriesLocalTimesUptoRow.holds Tryz.pinned (OpenSpec.upto seriesLocalTimesSpec)

/-- 'kalendslaw15.SeriesRejectsInvalid', WHERE WHAT IT READS IS OF BULK AT MOST 1048576: true; the input reads as it did. -/
def seriesRejectsInvalidUptoRow : OpenClaim := { program := "ytmbjejcfadllnaagreat", sum := "4543b640cd0788a5c141a9e7df116539b561eca1ff216d0f2f074bdf22ff80e8", func := "kalends/kalendslaw15.SeriesRejectsInvalid", spec := "seriesRejectsInvalid", inPlace := ["slices.overlaps[kalends/api.Move]"], unfollowed := true, recurses := true, named := ["math/bits.divideError", "math/bits.overflowError"], apart := false, narrowed := true }
def SeriesRejectsInvalidUptoSaid : Prop := seriesRejectsInvalidUptoRow.holds Tryz.pinned (OpenSpec.upto seriesRejectsInvalidSpec)

end Rows
end Go.Proofs.YtmbjejcfadllnaaGreat
