/-
  No cell of these rows narrows 'for every input' (looked for: loops, veiled, ifaces, maps, wideKeys, modest, calm, conditions, laid).
  DERIVED. THE GIVEN ROWS OF THIS SEAT. 4 by the template 'for every input the law returns true; each argument reads behind the call as it read before'; 0 by the template 'total and deterministic' (their statements: YthkmdpgdicohdaaGreatTotals.lean).
  GIVEN WITH THE SEED: the statements are not yours to turn. If you find one false, say at which input.
  Laid BY PROGRAM, IN A SANDBOX (cutbox-rows.mjs): the forced cells as the released guide's own fill.sh prints them over the translation 7119a0a75e4a8493… (all of the seat's roots in one cut). By AI agents, Wed Nov 11 2026. No macro, syntax, notation, axiom, sorry.
-/
import Derived.Test.YthkmdpgdicohdaaGreatChecked
import GoSem.Claim
import GoSem.ClaimJoined
import GoSem.ClaimMapViews
import Derived.JoinedTies
import Derived.KernelRfl
namespace Go.Proofs.YthkmdpgdicohdaaGreat
/- THE CELL 'sum', in the pinned program and in every row, IS THE sha256 OF THE DUMP (.gsa) THAT YthkmdpgdicohdaaGreatProg.lean LOADS. Nothing in Lean hashes anything: it is a label: what it is worth is what the hold of that sum in a sandbox is worth. -/
noncomputable def Tryz.pinned : Pinned := { name := "ythkmdpgdicohdaagreat", sum := "7119a0a75e4a84934fdb4c7664b66f2ba14e021dfd03e2890646d35639570499", checked := Tryz.checked }
namespace Rows
def none {H : Type} : Left H := { results := [], args := [] }

/-- 'kalendslaw16.EndlessFirstIsFirst': WHATEVER THE INPUT: true; the input reads as it did. -/
def endlessFirstIsFirstSpec : ChangeSpec := { name := "endlessFirstIsFirst", fn := fun _ => fun
  | [d1, d2, d3] => { results := [.lit (.bool true)], args := [d1, d2, d3] }
  | _ => none }
def endlessFirstIsFirstRow : OpenClaim := { program := "ythkmdpgdicohdaagreat", sum := "7119a0a75e4a84934fdb4c7664b66f2ba14e021dfd03e2890646d35639570499", func := "kalends/kalendslaw16.EndlessFirstIsFirst", spec := "endlessFirstIsFirst", unfollowed := true, recurses := true, named := ["math/bits.divideError", "math/bits.overflowError"], apart := false }
def EndlessFirstIsFirstSaid : Prop := endlessFirstIsFirstRow.holds Tryz.pinned (OpenSpec.ofChange endlessFirstIsFirstSpec)

/-- ITS FALSE NEIGHBOUR: 'it returns false'. Refute it at one input. -/
def endlessFirstIsFirstWrong : ChangeSpec := { name := "endlessFirstIsFirst", fn := fun _ => fun
  | [d1, d2, d3] => { results := [.lit (.bool false)], args := [d1, d2, d3] }
  | _ => none }
def EndlessFirstIsFirstWrongFalsely : Prop := endlessFirstIsFirstRow.holds Tryz.pinned (OpenSpec.ofChange endlessFirstIsFirstWrong)

/-- 'kalendslaw16.EndlessMeeting': WHATEVER THE INPUT: true; the input reads as it did. -/
def endlessMeetingSpec : ChangeSpec := { name := "endlessMeeting", fn := fun _ => fun
  | [d1, d2, d3] => { results := [.lit (.bool true)], args := [d1, d2, d3] }
  | _ => none }
def endlessMeetingRow : OpenClaim := { program := "ythkmdpgdicohdaagreat", sum := "7119a0a75e4a84934fdb4c7664b66f2ba14e021dfd03e2890646d35639570499", func := "kalends/kalendslaw16.EndlessMeeting", spec := "endlessMeeting", unfollowed := true, recurses := true, named := ["math/bits.divideError", "math/bits.overflowError"], apart := false }
def EndlessMeetingSaid : Prop := endlessMeetingRow.holds Tryz.pinned (OpenSpec.ofChange endlessMeetingSpec)

/-- ITS FALSE NEIGHBOUR: 'it returns false'. Refute it at one input. -/
def endlessMeetingWrong : ChangeSpec := { name := "endlessMeeting", fn := fun _ => fun
  | [d1, d2, d3] => { results := [.lit (.bool false)], args := [d1, d2, d3] }
  | _ => none }
def EndlessMeetingWrongFalsely : Prop := endlessMeetingRow.holds Tryz.pinned (OpenSpec.ofChange endlessMeetingWrong)

/-- 'kalendslaw16.EndlessFiniteness': WHATEVER THE INPUT: true; the input reads as it did. -/
def endlessFinitenessSpec : ChangeSpec := { name := "endlessFiniteness", fn := fun _ => fun
  | [d1, d2, d3] => { results := [.lit (.bool true)], args := [d1, d2, d3] }
  | _ => none }
def endlessFinitenessRow : OpenClaim := { program := "ythkmdpgdicohdaagreat", sum := "7119a0a75e4a84934fdb4c7664b66f2ba14e021dfd03e2890646d35639570499", func := "kalends/kalendslaw16.EndlessFiniteness", spec := "endlessFiniteness", unfollowed := true, recurses := true, named := ["math/bits.divideError", "math/bits.overflowError"], apart := false }
def EndlessFinitenessSaid : Prop := endlessFinitenessRow.holds Tryz.pinned (OpenSpec.ofChange endlessFinitenessSpec)

/-- ITS FALSE NEIGHBOUR: 'it returns false'. Refute it at one input. -/
def endlessFinitenessWrong : ChangeSpec := { name := "endlessFiniteness", fn := fun _ => fun
  | [d1, d2, d3] => { results := [.lit (.bool false)], args := [d1, d2, d3] }
  | _ => none }
def EndlessFinitenessWrongFalsely : Prop := endlessFinitenessRow.holds Tryz.pinned (OpenSpec.ofChange endlessFinitenessWrong)

/-- 'kalendslaw16.EndlessNextIsNext': WHATEVER THE INPUT: true; the input reads as it did. -/
def endlessNextIsNextSpec : ChangeSpec := { name := "endlessNextIsNext", fn := fun _ => fun
  | [d1, d2] => { results := [.lit (.bool true)], args := [d1, d2] }
  | _ => none }
def endlessNextIsNextRow : OpenClaim := { program := "ythkmdpgdicohdaagreat", sum := "7119a0a75e4a84934fdb4c7664b66f2ba14e021dfd03e2890646d35639570499", func := "kalends/kalendslaw16.EndlessNextIsNext", spec := "endlessNextIsNext", unfollowed := true, recurses := true, named := ["math/bits.divideError", "math/bits.overflowError"], apart := false }
def EndlessNextIsNextSaid : Prop := endlessNextIsNextRow.holds Tryz.pinned (OpenSpec.ofChange endlessNextIsNextSpec)

/-- ITS FALSE NEIGHBOUR: 'it returns false'. Refute it at one input. -/
def endlessNextIsNextWrong : ChangeSpec := { name := "endlessNextIsNext", fn := fun _ => fun
  | [d1, d2] => { results := [.lit (.bool false)], args := [d1, d2] }
  | _ => none }
def EndlessNextIsNextWrongFalsely : Prop := endlessNextIsNextRow.holds Tryz.pinned (OpenSpec.ofChange endlessNextIsNextWrong)

/- THE SECOND FORM. 'bulk': how many values and letters a reading holds, each counted each time it is reached (what is shared counts as often as it is met; a slice's spare places count too). A statement '..UptoSaid' is the law's where the arguments, and the package variables that the reading takes, are together of bulk at most 1048576: NARROWER than '..Said'. Prove '..Said' where nothing that the law and all that it calls make is longer than what came in: it says more and counts as full. Else prove '..UptoSaid'. A law counts once. -/
mutual
def uptoBulk {H : Type} : DataW H → Nat
  | .lit (.string bytes) => bytes.length + 1
  | .lit _ => 1
  | .nil => 1
  | .ptr d => uptoBulk d + 1
  | .slice elems spare => uptoBulkAll elems + uptoBulkAll spare + 1
  | .agg parts => uptoBulkAll parts + 1
  | .iface _ d => uptoBulk d + 1
  | .map entries => uptoBulkEntries entries + 1
  | .held _ => 1
def uptoBulkAll {H : Type} : List (DataW H) → Nat
  | [] => 0
  | d :: r => uptoBulk d + uptoBulkAll r
def uptoBulkEntries {H : Type} : List (Lit × DataW H) → Nat
  | [] => 0
  | x :: r => uptoBulkEntry x + uptoBulkEntries r
def uptoBulkEntry {H : Type} : Lit × DataW H → Nat
  | (.string bytes, d) => bytes.length + uptoBulk d + 1
  | (_, d) => uptoBulk d + 1
 end
def uptoSmall : (H : Type) → List (DataW H) → Bool := fun _ ds => decide (uptoBulkAll ds ≤ 1048576)
def OpenSpec.upto (s : _root_.Go.ChangeSpec) : _root_.Go.OpenSpec := { _root_.Go.OpenSpec.ofChange s with cond := some uptoSmall }

/-- 'kalendslaw16.EndlessFirstIsFirst', WHERE WHAT IT READS IS OF BULK AT MOST 1048576: true; the input reads as it did. -/
def endlessFirstIsFirstUptoRow : OpenClaim := { program := "ythkmdpgdicohdaagreat", sum := "7119a0a75e4a84934fdb4c7664b66f2ba14e021dfd03e2890646d35639570499", func := "kalends/kalendslaw16.EndlessFirstIsFirst", spec := "endlessFirstIsFirst", unfollowed := true, recurses := true, named := ["math/bits.divideError", "math/bits.overflowError"], apart := false, narrowed := true }
def EndlessFirstIsFirstUptoSaid : Prop := endlessFirstIsFirstUptoRow.holds Tryz.pinned (OpenSpec.upto endlessFirstIsFirstSpec)

/-- 'kalendslaw16.EndlessMeeting', WHERE WHAT IT READS IS OF BULK AT MOST 1048576: true; the input reads as it did. -/
def endlessMeetingUptoRow : OpenClaim := { program := "ythkmdpgdicohdaagreat", sum := "7119a0a75e4a84934fdb4c7664b66f2ba14e021dfd03e2890646d35639570499", func := "kalends/kalendslaw16.EndlessMeeting", spec := "endlessMeeting", unfollowed := true, recurses := true, named := ["math/bits.divideError", "math/bits.overflowError"], apart := false, narrowed := true }
def EndlessMeetingUptoSaid : Prop := endlessMeetingUptoRow.holds Tryz.pinned (OpenSpec.upto endlessMeetingSpec)

/-- 'kalendslaw16.EndlessFiniteness', WHERE WHAT IT READS IS OF BULK AT MOST 1048576: true; the input reads as it did. -/
def endlessFinitenessUptoRow : OpenClaim := { program := "ythkmdpgdicohdaagreat", sum := "7119a0a75e4a84934fdb4c7664b66f2ba14e021dfd03e2890646d35639570499", func := "kalends/kalendslaw16.EndlessFiniteness", spec := "endlessFiniteness", unfollowed := true, recurses := true, named := ["math/bits.divideError", "math/bits.overflowError"], apart := false, narrowed := true }
def EndlessFinitenessUptoSaid : Prop := endlessFinitenessUptoRow.holds Tryz.pinned (OpenSpec.upto endlessFinitenessSpec)

/-- 'kalendslaw16.EndlessNextIsNext', WHERE WHAT IT READS IS OF BULK AT MOST 1048576: true; the input reads as it did. -/
def endlessNextIsNextUptoRow : OpenClaim := { program := "ythkmdpgdicohdaagreat", sum := "7119a0a75e4a84934fdb4c7664b66f2ba14e021dfd03e2890646d35639570499", func := "kalends/kalendslaw16.EndlessNextIsNext", spec := "endlessNextIsNext", unfollowed := true, recurses := true, named := ["math/bits.divideError", "math/bits.overflowError"], apart := false, narrowed := true }
def EndlessNextIsNextUptoSaid : Prop := endlessNextIsNextUptoRow.holds Tryz.pinned (OpenSpec.upto endlessNextIsNextSpec)

end Rows
end Go.Proofs.YthkmdpgdicohdaaGreat
