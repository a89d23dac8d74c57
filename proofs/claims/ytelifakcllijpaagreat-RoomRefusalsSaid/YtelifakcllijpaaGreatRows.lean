/-
  No cell of these rows narrows 'for every input' (looked for: loops, veiled, ifaces, maps, wideKeys, modest, calm, conditions, laid).
  DERIVED. THE GIVEN ROWS OF THIS SEAT. 7 by the template 'for every input the law returns true; each argument reads behind the call as it read before'; 0 by the template 'total and deterministic' (their statements: YtelifakcllijpaaGreatTotals.lean).
  GIVEN WITH THE SEED: the statements are not yours to turn. If you find one false, say at which input.
  Laid BY PROGRAM, IN A SANDBOX (cutbox-rows.mjs): the forced cells as the released guide's own fill.sh prints them over the translation a2008b842ca4dfd8… (all of the seat's roots in one cut). By AI agents, Wed Nov 11 2026. No macro, syntax, notation, axiom, sorry.
-/
import Derived.Test.YtelifakcllijpaaGreatChecked
import GoSem.Claim
import GoSem.ClaimJoined
import GoSem.ClaimMapViews
import Derived.JoinedTies
import Derived.KernelRfl
namespace Go.Proofs.YtelifakcllijpaaGreat
/- THE CELL 'sum', in the pinned program and in every row, IS THE sha256 OF THE DUMP (.gsa) THAT YtelifakcllijpaaGreatProg.lean LOADS. Nothing in Lean hashes anything: it is a label: what it is worth is what the hold of that sum in a sandbox is worth. -/
noncomputable def Tryz.pinned : Pinned := { name := "ytelifakcllijpaagreat", sum := "a2008b842ca4dfd8f0d34f0dd1cb1e1ca2aad9c05e48b31fad1245f2b69835e3", checked := Tryz.checked }
namespace Rows
def none {H : Type} : Left H := { results := [], args := [] }

/-- 'kalendslaw18.RoomMatchesReference': WHATEVER THE INPUT: true; the input reads as it did. -/
def roomMatchesReferenceSpec : ChangeSpec := { name := "roomMatchesReference", fn := fun _ => fun
  | [d1, d2, d3] => { results := [.lit (.bool true)], args := [d1, d2, d3] }
  | _ => none }
def roomMatchesReferenceRow : OpenClaim := { program := "ytelifakcllijpaagreat", sum := "a2008b842ca4dfd8f0d34f0dd1cb1e1ca2aad9c05e48b31fad1245f2b69835e3", func := "kalends/kalendslaw18.RoomMatchesReference", spec := "roomMatchesReference", unfollowed := true, recurses := true, named := ["math/bits.divideError", "math/bits.overflowError"], apart := false }
def RoomMatchesReferenceSaid : Prop := roomMatchesReferenceRow.holds Tryz.pinned (OpenSpec.ofChange roomMatchesReferenceSpec)

/-- ITS FALSE NEIGHBOUR: 'it returns false'. Refute it at one input. -/
def roomMatchesReferenceWrong : ChangeSpec := { name := "roomMatchesReference", fn := fun _ => fun
  | [d1, d2, d3] => { results := [.lit (.bool false)], args := [d1, d2, d3] }
  | _ => none }
def RoomMatchesReferenceWrongFalsely : Prop := roomMatchesReferenceRow.holds Tryz.pinned (OpenSpec.ofChange roomMatchesReferenceWrong)

/-- 'kalendslaw18.RoomCheckMatchesReference': WHATEVER THE INPUT: true; the input reads as it did. -/
def roomCheckMatchesReferenceSpec : ChangeSpec := { name := "roomCheckMatchesReference", fn := fun _ => fun
  | [d1, d2, d3] => { results := [.lit (.bool true)], args := [d1, d2, d3] }
  | _ => none }
def roomCheckMatchesReferenceRow : OpenClaim := { program := "ytelifakcllijpaagreat", sum := "a2008b842ca4dfd8f0d34f0dd1cb1e1ca2aad9c05e48b31fad1245f2b69835e3", func := "kalends/kalendslaw18.RoomCheckMatchesReference", spec := "roomCheckMatchesReference", unfollowed := true, recurses := true, named := ["math/bits.divideError", "math/bits.overflowError"], apart := false }
def RoomCheckMatchesReferenceSaid : Prop := roomCheckMatchesReferenceRow.holds Tryz.pinned (OpenSpec.ofChange roomCheckMatchesReferenceSpec)

/-- ITS FALSE NEIGHBOUR: 'it returns false'. Refute it at one input. -/
def roomCheckMatchesReferenceWrong : ChangeSpec := { name := "roomCheckMatchesReference", fn := fun _ => fun
  | [d1, d2, d3] => { results := [.lit (.bool false)], args := [d1, d2, d3] }
  | _ => none }
def RoomCheckMatchesReferenceWrongFalsely : Prop := roomCheckMatchesReferenceRow.holds Tryz.pinned (OpenSpec.ofChange roomCheckMatchesReferenceWrong)

/-- 'kalendslaw18.RoomRefusals': WHATEVER THE INPUT: true; the input reads as it did. -/
def roomRefusalsSpec : ChangeSpec := { name := "roomRefusals", fn := fun _ => fun
  | [d1, d2, d3] => { results := [.lit (.bool true)], args := [d1, d2, d3] }
  | _ => none }
def roomRefusalsRow : OpenClaim := { program := "ytelifakcllijpaagreat", sum := "a2008b842ca4dfd8f0d34f0dd1cb1e1ca2aad9c05e48b31fad1245f2b69835e3", func := "kalends/kalendslaw18.RoomRefusals", spec := "roomRefusals", unfollowed := true, recurses := true, named := ["math/bits.divideError", "math/bits.overflowError"], apart := false }
def RoomRefusalsSaid : Prop := roomRefusalsRow.holds Tryz.pinned (OpenSpec.ofChange roomRefusalsSpec)

/-- ITS FALSE NEIGHBOUR: 'it returns false'. Refute it at one input. -/
def roomRefusalsWrong : ChangeSpec := { name := "roomRefusals", fn := fun _ => fun
  | [d1, d2, d3] => { results := [.lit (.bool false)], args := [d1, d2, d3] }
  | _ => none }
def RoomRefusalsWrongFalsely : Prop := roomRefusalsRow.holds Tryz.pinned (OpenSpec.ofChange roomRefusalsWrong)

/-- 'kalendslaw18.RoomStands': WHATEVER THE INPUT: true; the input reads as it did. -/
def roomStandsSpec : ChangeSpec := { name := "roomStands", fn := fun _ => fun
  | [d1, d2, d3] => { results := [.lit (.bool true)], args := [d1, d2, d3] }
  | _ => none }
def roomStandsRow : OpenClaim := { program := "ytelifakcllijpaagreat", sum := "a2008b842ca4dfd8f0d34f0dd1cb1e1ca2aad9c05e48b31fad1245f2b69835e3", func := "kalends/kalendslaw18.RoomStands", spec := "roomStands", unfollowed := true, recurses := true, named := ["math/bits.divideError", "math/bits.overflowError"], apart := false }
def RoomStandsSaid : Prop := roomStandsRow.holds Tryz.pinned (OpenSpec.ofChange roomStandsSpec)

/-- ITS FALSE NEIGHBOUR: 'it returns false'. Refute it at one input. -/
def roomStandsWrong : ChangeSpec := { name := "roomStands", fn := fun _ => fun
  | [d1, d2, d3] => { results := [.lit (.bool false)], args := [d1, d2, d3] }
  | _ => none }
def RoomStandsWrongFalsely : Prop := roomStandsRow.holds Tryz.pinned (OpenSpec.ofChange roomStandsWrong)

/-- 'kalendslaw18.RoomListsMatchReference': WHATEVER THE INPUT: true; the input reads as it did. -/
def roomListsMatchReferenceSpec : ChangeSpec := { name := "roomListsMatchReference", fn := fun _ => fun
  | [d1, d2, d3] => { results := [.lit (.bool true)], args := [d1, d2, d3] }
  | _ => none }
def roomListsMatchReferenceRow : OpenClaim := { program := "ytelifakcllijpaagreat", sum := "a2008b842ca4dfd8f0d34f0dd1cb1e1ca2aad9c05e48b31fad1245f2b69835e3", func := "kalends/kalendslaw18.RoomListsMatchReference", spec := "roomListsMatchReference", unfollowed := true, recurses := true, named := ["math/bits.divideError", "math/bits.overflowError"], apart := false }
def RoomListsMatchReferenceSaid : Prop := roomListsMatchReferenceRow.holds Tryz.pinned (OpenSpec.ofChange roomListsMatchReferenceSpec)

/-- ITS FALSE NEIGHBOUR: 'it returns false'. Refute it at one input. -/
def roomListsMatchReferenceWrong : ChangeSpec := { name := "roomListsMatchReference", fn := fun _ => fun
  | [d1, d2, d3] => { results := [.lit (.bool false)], args := [d1, d2, d3] }
  | _ => none }
def RoomListsMatchReferenceWrongFalsely : Prop := roomListsMatchReferenceRow.holds Tryz.pinned (OpenSpec.ofChange roomListsMatchReferenceWrong)

/-- 'kalendslaw18.RoomOrder': WHATEVER THE INPUT: true; the input reads as it did. -/
def roomOrderSpec : ChangeSpec := { name := "roomOrder", fn := fun _ => fun
  | [d1, d2, d3] => { results := [.lit (.bool true)], args := [d1, d2, d3] }
  | _ => none }
def roomOrderRow : OpenClaim := { program := "ytelifakcllijpaagreat", sum := "a2008b842ca4dfd8f0d34f0dd1cb1e1ca2aad9c05e48b31fad1245f2b69835e3", func := "kalends/kalendslaw18.RoomOrder", spec := "roomOrder", unfollowed := true, recurses := true, named := ["math/bits.divideError", "math/bits.overflowError"], apart := false }
def RoomOrderSaid : Prop := roomOrderRow.holds Tryz.pinned (OpenSpec.ofChange roomOrderSpec)

/-- ITS FALSE NEIGHBOUR: 'it returns false'. Refute it at one input. -/
def roomOrderWrong : ChangeSpec := { name := "roomOrder", fn := fun _ => fun
  | [d1, d2, d3] => { results := [.lit (.bool false)], args := [d1, d2, d3] }
  | _ => none }
def RoomOrderWrongFalsely : Prop := roomOrderRow.holds Tryz.pinned (OpenSpec.ofChange roomOrderWrong)

/-- 'kalendslaw18.RoomStandingLists': WHATEVER THE INPUT: true; the input reads as it did. -/
def roomStandingListsSpec : ChangeSpec := { name := "roomStandingLists", fn := fun _ => fun
  | [d1, d2, d3] => { results := [.lit (.bool true)], args := [d1, d2, d3] }
  | _ => none }
def roomStandingListsRow : OpenClaim := { program := "ytelifakcllijpaagreat", sum := "a2008b842ca4dfd8f0d34f0dd1cb1e1ca2aad9c05e48b31fad1245f2b69835e3", func := "kalends/kalendslaw18.RoomStandingLists", spec := "roomStandingLists", unfollowed := true, recurses := true, named := ["math/bits.divideError", "math/bits.overflowError"], apart := false }
def RoomStandingListsSaid : Prop := roomStandingListsRow.holds Tryz.pinned (OpenSpec.ofChange roomStandingListsSpec)

/-- ITS FALSE NEIGHBOUR: 'it returns false'. Refute it at one input. -/
def roomStandingListsWrong : ChangeSpec := { name := "roomStandingLists", fn := fun _ => fun
  | [d1, d2, d3] => { results := [.lit (.bool false)], args := [d1, d2, d3] }
  | _ => none }
def RoomStandingListsWrongFalsely : Prop := roomStandingListsRow.holds Tryz.pinned (OpenSpec.ofChange roomStandingListsWrong)

/- THE SECOND FORM. 'bulk': how many values and letters a reading holds, each counted each time it is reached (what is shared counts as often as it is met; a slice's spare places count too). A statement '..UptoSaid' is the law's where the arguments, and the package variables that the reading takes, are together of bulk at most 1048576: NARROWER than '..Said'. Prove '..Said' where nothing that the law and all that it calls make is longer than what came in: it says more and counts as full. Else prove '..UptoSaid'. A law counts once. -/
mutual
def uptoBulk {H : Type} : DataW H → Nat
  | .lit (.string bytes) => bytes.length + 1
  | .lit _ => 1
  | .nil => 1
  | .ptr d => uptoBulk d + 1
  | .slice elems spare => uptoBulkAll elems + uptoBulkAll spare + 1
  | .agg parts => uptoBulkAll parts + 1
  | .iface _ d => uptoBulk d + 1
  | .map entries => uptoBulkEntries entries + 1
  | .held _ => 1
def uptoBulkAll {H : Type} : List (DataW H) → Nat
  | [] => 0
  | d :: r => uptoBulk d + uptoBulkAll r
def uptoBulkEntries {H : Type} : List (Lit × DataW H) → Nat
  | [] => 0
  | x :: r => uptoBulkEntry x + uptoBulkEntries r
def uptoBulkEntry {H : Type} : Lit × DataW H → Nat
  | (.string bytes, d) => bytes.length + uptoBulk d + 1
  | (_, d) => uptoBulk d + 1
 end
def uptoSmall : (H : Type) → List (DataW H) → Bool := fun _ ds => decide (uptoBulkAll ds ≤ 1048576)
def OpenSpec.upto (s : _root_.Go.ChangeSpec) : _root_.Go.OpenSpec := { _root_.Go.OpenSpec.ofChange s with cond := some uptoSmall }

/-- 'kalendslaw18.RoomMatchesReference', WHERE WHAT IT READS IS OF BULK AT MOST 1048576: true; the input reads as it did. -/
def roomMatchesReferenceUptoRow : OpenClaim := { program := "ytelifakcllijpaagreat", sum := "a2008b842ca4dfd8f0d34f0dd1cb1e1ca2aad9c05e48b31fad1245f2b69835e3", func := "kalends/kalendslaw18.RoomMatchesReference", spec := "roomMatchesReference", unfollowed := true, recurses := true, named := ["math/bits.divideError", "math/bits.overflowError"], apart := false, narrowed := true }
def RoomMatchesReferenceUptoSaid : Prop := roomMatchesReferenceUptoRow.holds Tryz.pinned (OpenSpec.upto roomMatchesReferenceSpec)

/-- 'kalendslaw18.RoomCheckMatchesReference', WHERE WHAT IT READS IS OF BULK AT MOST 1048576: true; the input reads as it did. -/
def roomCheckMatchesReferenceUptoRow : OpenClaim := { program := "ytelifakcllijpaagreat", sum := "a2008b842ca4dfd8f0d34f0dd1cb1e1ca2aad9c05e48b31fad1245f2b69835e3", func := "kalends/kalendslaw18.RoomCheckMatchesReference", spec := "roomCheckMatchesReference", unfollowed := true, recurses := true, named := ["math/bits.divideError", "math/bits.overflowError"], apart := false, narrowed := true }
def RoomCheckMatchesReferenceUptoSaid : Prop := roomCheckMatchesReferenceUptoRow.holds Tryz.pinned (OpenSpec.upto roomCheckMatchesReferenceSpec)

/-- 'kalendslaw18.RoomRefusals', WHERE WHAT IT READS IS OF BULK AT MOST 1048576: true; the input reads as it did. -/
def roomRefusalsUptoRow : OpenClaim := { program := "ytelifakcllijpaagreat", sum := "a2008b842ca4dfd8f0d34f0dd1cb1e1ca2aad9c05e48b31fad1245f2b69835e3", func := "kalends/kalendslaw18.RoomRefusals", spec := "roomRefusals", unfollowed := true, recurses := true, named := ["math/bits.divideError", "math/bits.overflowError"], apart := false, narrowed := true }
def RoomRefusalsUptoSaid : Prop := roomRefusalsUptoRow.holds Tryz.pinned (OpenSpec.upto roomRefusalsSpec)

/-- 'kalendslaw18.RoomStands', WHERE WHAT IT READS IS OF BULK AT MOST 1048576: true; the input reads as it did. -/
def roomStandsUptoRow : OpenClaim := { program := "ytelifakcllijpaagreat", sum := "a2008b842ca4dfd8f0d34f0dd1cb1e1ca2aad9c05e48b31fad1245f2b69835e3", func := "kalends/kalendslaw18.RoomStands", spec := "roomStands", unfollowed := true, recurses := true, named := ["math/bits.divideError", "math/bits.overflowError"], apart := false, narrowed := true }
def RoomStandsUptoSaid : Prop := roomStandsUptoRow.holds Tryz.pinned (OpenSpec.upto roomStandsSpec)

/-- 'kalendslaw18.RoomListsMatchReference', WHERE WHAT IT READS IS OF BULK AT MOST 1048576: true; the input reads as it did. -/
def roomListsMatchReferenceUptoRow : OpenClaim := { program := "ytelifakcllijpaagreat", sum := "a2008b842ca4dfd8f0d34f0dd1cb1e1ca2aad9c05e48b31fad1245f2b69835e3", func := "kalends/kalendslaw18.RoomListsMatchReference", spec := "roomListsMatchReference", unfollowed := true, recurses := true, named := ["math/bits.divideError", "math/bits.overflowError"], apart := false, narrowed := true }
def RoomListsMatchReferenceUptoSaid : Prop := roomListsMatchReferenceUptoRow.holds Tryz.pinned (OpenSpec.upto roomListsMatchReferenceSpec)

/-- 'kalendslaw18.RoomOrder', WHERE WHAT IT READS IS OF BULK AT MOST 1048576: true; the input reads as it did. -/
def roomOrderUptoRow : OpenClaim := { program := "ytelifakcllijpaagreat", sum := "a2008b842ca4dfd8f0d34f0dd1cb1e1ca2aad9c05e48b31fad1245f2b69835e3", func := "kalends/kalendslaw18.RoomOrder", spec := "roomOrder", unfollowed := true, recurses := true, named := ["math/bits.divideError", "math/bits.overflowError"], apart := false, narrowed := true }
def RoomOrderUptoSaid : Prop := roomOrderUptoRow.holds Tryz.pinned (OpenSpec.upto roomOrderSpec)

/-- 'kalendslaw18.RoomStandingLists', WHERE WHAT IT READS IS OF BULK AT MOST 1048576: true; the input reads as it did. -/
def roomStandingListsUptoRow : OpenClaim := { program := "ytelifakcllijpaagreat", sum := "a2008b842ca4dfd8f0d34f0dd1cb1e1ca2aad9c05e48b31fad1245f2b69835e3", func := "kalends/kalendslaw18.RoomStandingLists", spec := "roomStandingLists", unfollowed := true, recurses := true, named := ["math/bits.divideError", "math/bits.overflowError"], apart := false, narrowed := true }
def RoomStandingListsUptoSaid : Prop := roomStandingListsUptoRow.holds Tryz.pinned (OpenSpec.upto roomStandingListsSpec)

end Rows
end Go.Proofs.YtelifakcllijpaaGreat
