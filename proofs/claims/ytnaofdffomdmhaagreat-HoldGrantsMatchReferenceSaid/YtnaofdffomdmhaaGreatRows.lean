/-
  No cell of these rows narrows 'for every input' (looked for: loops, veiled, ifaces, maps, wideKeys, modest, calm, conditions, laid).
  DERIVED. THE GIVEN ROWS OF THIS SEAT. 7 by the template 'for every input the law returns true; each argument reads behind the call as it read before'; 0 by the template 'total and deterministic' (their statements: YtnaofdffomdmhaaGreatTotals.lean).
  GIVEN WITH THE SEED: the statements are not yours to turn. If you find one false, say at which input.
  Laid BY PROGRAM, IN A SANDBOX (cutbox-rows.mjs): the forced cells as the released guide's own fill.sh prints them over the translation 5f337fe1a9728158… (all of the seat's roots in one cut). By AI agents, Wed Nov 11 2026. No macro, syntax, notation, axiom, sorry.
-/
import Derived.Test.YtnaofdffomdmhaaGreatChecked
import GoSem.Claim
import GoSem.ClaimJoined
import GoSem.ClaimMapViews
import Derived.JoinedTies
import Derived.KernelRfl
namespace Go.Proofs.YtnaofdffomdmhaaGreat
/- THE CELL 'sum', in the pinned program and in every row, IS THE sha256 OF THE DUMP (.gsa) THAT YtnaofdffomdmhaaGreatProg.lean LOADS. Nothing in Lean hashes anything: it is a label: what it is worth is what the hold of that sum in a sandbox is worth. -/
noncomputable def Tryz.pinned : Pinned := { name := "ytnaofdffomdmhaagreat", sum := "5f337fe1a9728158d6869c5e2e340aaf85324e6fdbc05276edd4514083dc60ca", checked := Tryz.checked }
namespace Rows
def none {H : Type} : Left H := { results := [], args := [] }

/-- 'kalendslaw28.HoldGrantsMatchReference': WHATEVER THE INPUT: true; the input reads as it did. -/
def holdGrantsMatchReferenceSpec : ChangeSpec := { name := "holdGrantsMatchReference", fn := fun _ => fun
  | [d1, d2] => { results := [.lit (.bool true)], args := [d1, d2] }
  | _ => none }
def holdGrantsMatchReferenceRow : OpenClaim := { program := "ytnaofdffomdmhaagreat", sum := "5f337fe1a9728158d6869c5e2e340aaf85324e6fdbc05276edd4514083dc60ca", func := "kalends/kalendslaw28.HoldGrantsMatchReference", spec := "holdGrantsMatchReference", inPlace := ["slices.overlaps[kalends/api.Hold]"], unfollowed := true, recurses := true, named := ["math/bits.divideError", "math/bits.overflowError"], apart := false }
def HoldGrantsMatchReferenceSaid : Prop := holdGrantsMatchReferenceRow.holds Tryz.pinned (OpenSpec.ofChange holdGrantsMatchReferenceSpec)

/-- ITS FALSE NEIGHBOUR: 'it returns false'. Refute it at one input. -/
def holdGrantsMatchReferenceWrong : ChangeSpec := { name := "holdGrantsMatchReference", fn := fun _ => fun
  | [d1, d2] => { results := [.lit (.bool false)], args := [d1, d2] }
  | _ => none }
def HoldGrantsMatchReferenceWrongFalsely : Prop := holdGrantsMatchReferenceRow.holds Tryz.pinned (OpenSpec.ofChange holdGrantsMatchReferenceWrong)

/-- 'kalendslaw28.HoldExpires': WHATEVER THE INPUT: true; the input reads as it did. -/
def holdExpiresSpec : ChangeSpec := { name := "holdExpires", fn := fun _ => fun
  | [d1, d2, d3] => { results := [.lit (.bool true)], args := [d1, d2, d3] }
  | _ => none }
def holdExpiresRow : OpenClaim := { program := "ytnaofdffomdmhaagreat", sum := "5f337fe1a9728158d6869c5e2e340aaf85324e6fdbc05276edd4514083dc60ca", func := "kalends/kalendslaw28.HoldExpires", spec := "holdExpires", inPlace := ["slices.overlaps[kalends/api.Hold]"], unfollowed := true, recurses := true, named := ["math/bits.divideError", "math/bits.overflowError"], apart := false }
def HoldExpiresSaid : Prop := holdExpiresRow.holds Tryz.pinned (OpenSpec.ofChange holdExpiresSpec)

/-- ITS FALSE NEIGHBOUR: 'it returns false'. Refute it at one input. -/
def holdExpiresWrong : ChangeSpec := { name := "holdExpires", fn := fun _ => fun
  | [d1, d2, d3] => { results := [.lit (.bool false)], args := [d1, d2, d3] }
  | _ => none }
def HoldExpiresWrongFalsely : Prop := holdExpiresRow.holds Tryz.pinned (OpenSpec.ofChange holdExpiresWrong)

/-- 'kalendslaw28.HoldFinal': WHATEVER THE INPUT: true; the input reads as it did. -/
def holdFinalSpec : ChangeSpec := { name := "holdFinal", fn := fun _ => fun
  | [d1, d2] => { results := [.lit (.bool true)], args := [d1, d2] }
  | _ => none }
def holdFinalRow : OpenClaim := { program := "ytnaofdffomdmhaagreat", sum := "5f337fe1a9728158d6869c5e2e340aaf85324e6fdbc05276edd4514083dc60ca", func := "kalends/kalendslaw28.HoldFinal", spec := "holdFinal", inPlace := ["slices.overlaps[kalends/api.Hold]"], unfollowed := true, recurses := true, named := ["math/bits.divideError", "math/bits.overflowError"], apart := false }
def HoldFinalSaid : Prop := holdFinalRow.holds Tryz.pinned (OpenSpec.ofChange holdFinalSpec)

/-- ITS FALSE NEIGHBOUR: 'it returns false'. Refute it at one input. -/
def holdFinalWrong : ChangeSpec := { name := "holdFinal", fn := fun _ => fun
  | [d1, d2] => { results := [.lit (.bool false)], args := [d1, d2] }
  | _ => none }
def HoldFinalWrongFalsely : Prop := holdFinalRow.holds Tryz.pinned (OpenSpec.ofChange holdFinalWrong)

/-- 'kalendslaw28.HoldFrees': WHATEVER THE INPUT: true; the input reads as it did. -/
def holdFreesSpec : ChangeSpec := { name := "holdFrees", fn := fun _ => fun
  | [d1, d2, d3] => { results := [.lit (.bool true)], args := [d1, d2, d3] }
  | _ => none }
def holdFreesRow : OpenClaim := { program := "ytnaofdffomdmhaagreat", sum := "5f337fe1a9728158d6869c5e2e340aaf85324e6fdbc05276edd4514083dc60ca", func := "kalends/kalendslaw28.HoldFrees", spec := "holdFrees", inPlace := ["slices.overlaps[kalends/api.Hold]"], unfollowed := true, recurses := true, named := ["math/bits.divideError", "math/bits.overflowError"], apart := false }
def HoldFreesSaid : Prop := holdFreesRow.holds Tryz.pinned (OpenSpec.ofChange holdFreesSpec)

/-- ITS FALSE NEIGHBOUR: 'it returns false'. Refute it at one input. -/
def holdFreesWrong : ChangeSpec := { name := "holdFrees", fn := fun _ => fun
  | [d1, d2, d3] => { results := [.lit (.bool false)], args := [d1, d2, d3] }
  | _ => none }
def HoldFreesWrongFalsely : Prop := holdFreesRow.holds Tryz.pinned (OpenSpec.ofChange holdFreesWrong)

/-- 'kalendslaw28.HoldApart': WHATEVER THE INPUT: true; the input reads as it did. -/
def holdApartSpec : ChangeSpec := { name := "holdApart", fn := fun _ => fun
  | [d] => { results := [.lit (.bool true)], args := [d] }
  | _ => none }
def holdApartRow : OpenClaim := { program := "ytnaofdffomdmhaagreat", sum := "5f337fe1a9728158d6869c5e2e340aaf85324e6fdbc05276edd4514083dc60ca", func := "kalends/kalendslaw28.HoldApart", spec := "holdApart", inPlace := ["slices.overlaps[kalends/api.Hold]"], unfollowed := true, recurses := true, named := ["math/bits.divideError", "math/bits.overflowError"], apart := false }
def HoldApartSaid : Prop := holdApartRow.holds Tryz.pinned (OpenSpec.ofChange holdApartSpec)

/-- ITS FALSE NEIGHBOUR: 'it returns false'. Refute it at one input. -/
def holdApartWrong : ChangeSpec := { name := "holdApart", fn := fun _ => fun
  | [d] => { results := [.lit (.bool false)], args := [d] }
  | _ => none }
def HoldApartWrongFalsely : Prop := holdApartRow.holds Tryz.pinned (OpenSpec.ofChange holdApartWrong)

/-- 'kalendslaw28.HoldStands': WHATEVER THE INPUT: true; the input reads as it did. -/
def holdStandsSpec : ChangeSpec := { name := "holdStands", fn := fun _ => fun
  | [d] => { results := [.lit (.bool true)], args := [d] }
  | _ => none }
def holdStandsRow : OpenClaim := { program := "ytnaofdffomdmhaagreat", sum := "5f337fe1a9728158d6869c5e2e340aaf85324e6fdbc05276edd4514083dc60ca", func := "kalends/kalendslaw28.HoldStands", spec := "holdStands", inPlace := ["slices.overlaps[kalends/api.Hold]"], unfollowed := true, recurses := true, named := ["math/bits.divideError", "math/bits.overflowError"], apart := false }
def HoldStandsSaid : Prop := holdStandsRow.holds Tryz.pinned (OpenSpec.ofChange holdStandsSpec)

/-- ITS FALSE NEIGHBOUR: 'it returns false'. Refute it at one input. -/
def holdStandsWrong : ChangeSpec := { name := "holdStands", fn := fun _ => fun
  | [d] => { results := [.lit (.bool false)], args := [d] }
  | _ => none }
def HoldStandsWrongFalsely : Prop := holdStandsRow.holds Tryz.pinned (OpenSpec.ofChange holdStandsWrong)

/-- 'kalendslaw28.HoldRefusals': WHATEVER THE INPUT: true; the input reads as it did. -/
def holdRefusalsSpec : ChangeSpec := { name := "holdRefusals", fn := fun _ => fun
  | [d1, d2] => { results := [.lit (.bool true)], args := [d1, d2] }
  | _ => none }
def holdRefusalsRow : OpenClaim := { program := "ytnaofdffomdmhaagreat", sum := "5f337fe1a9728158d6869c5e2e340aaf85324e6fdbc05276edd4514083dc60ca", func := "kalends/kalendslaw28.HoldRefusals", spec := "holdRefusals", inPlace := ["slices.overlaps[kalends/api.Hold]"], unfollowed := true, recurses := true, named := ["math/bits.divideError", "math/bits.overflowError"], apart := false }
def HoldRefusalsSaid : Prop := holdRefusalsRow.holds Tryz.pinned (OpenSpec.ofChange holdRefusalsSpec)

/-- ITS FALSE NEIGHBOUR: 'it returns false'. Refute it at one input. -/
def holdRefusalsWrong : ChangeSpec := { name := "holdRefusals", fn := fun _ => fun
  | [d1, d2] => { results := [.lit (.bool false)], args := [d1, d2] }
  | _ => none }
def HoldRefusalsWrongFalsely : Prop := holdRefusalsRow.holds Tryz.pinned (OpenSpec.ofChange holdRefusalsWrong)

/- THE SECOND FORM. 'bulk': how many values and letters a reading holds, each counted each time it is reached (what is shared counts as often as it is met; a slice's spare places count too). A statement '..UptoSaid' is the law's where the arguments, and the package variables that the reading takes, are together of bulk at most 1048576: NARROWER than '..Said'. Prove '..Said' where nothing that the law and all that it calls make is longer than what came in: it says more and counts as full. Else prove '..UptoSaid'. A law counts once. -/
mutual
def uptoBulk {H : Type} : DataW H → Nat
  | .lit (.string bytes) => bytes.length + 1
  | .lit _ => 1
  | .nil => 1
  | .ptr d => uptoBulk d + 1
  | .slice elems spare => uptoBulkAll elems + uptoBulkAll spare + 1
  | .agg parts => uptoBulkAll parts + 1
  | .iface _ d => uptoBulk d + 1
  | .map entries => uptoBulkEntries entries + 1
  | .held _ => 1
def uptoBulkAll {H : Type} : List (DataW H) → Nat
  | [] => 0
  | d :: r => uptoBulk d + uptoBulkAll r
def uptoBulkEntries {H : Type} : List (Lit × DataW H) → Nat
  | [] => 0
  | x :: r => uptoBulkEntry x + uptoBulkEntries r
def uptoBulkEntry {H : Type} : Lit × DataW H → Nat
  | (.string bytes, d) => bytes.length + uptoBulk d + 1
  | (_, d) => uptoBulk d + 1
 end
def uptoSmall : (H : Type) → List (DataW H) → Bool := fun _ ds => decide (uptoBulkAll ds ≤ 1048576)
def OpenSpec.upto (s : _root_.Go.ChangeSpec) : _root_.Go.OpenSpec := { _root_.Go.OpenSpec.ofChange s with cond := some uptoSmall }

/-- 'kalendslaw28.HoldGrantsMatchReference', WHERE WHAT IT READS IS OF BULK AT MOST 1048576: true; the input reads as it did. -/
def holdGrantsMatchReferenceUptoRow : OpenClaim := { program := "ytnaofdffomdmhaagreat", sum := "5f337fe1a9728158d6869c5e2e340aaf85324e6fdbc05276edd4514083dc60ca", func := "kalends/kalendslaw28.HoldGrantsMatchReference", spec := "holdGrantsMatchReference", inPlace := ["slices.overlaps[kalends/api.Hold]"], unfollowed := true, recurses := true, named := ["math/bits.divideError", "math/bits.overflowError"], apart := false, narrowed := true }
def HoldGrantsMatchReferenceUptoSaid : Prop := holdGrantsMatchReferenceUptoRow.holds Tryz.pinned (OpenSpec.upto holdGrantsMatchReferenceSpec)

/-- 'kalendslaw28.HoldExpires', WHERE WHAT IT READS IS OF BULK AT MOST 1048576: true; the input reads as it did. -/
def holdExpiresUptoRow : OpenClaim := { program := "ytnaofdffomdmhaagreat", sum := "5f337fe1a9728158d6869c5e2e340aaf85324e6fdbc05276edd4514083dc60ca", func := "kalends/kalendslaw28.HoldExpires", spec := "holdExpires", inPlace := ["slices.overlaps[kalends/api.Hold]"], unfollowed := true, recurses := true, named := ["math/bits.divideError", "math/bits.overflowError"], apart := false, narrowed := true }
def HoldExpiresUptoSaid : Prop := holdExpiresUptoRow.holds Tryz.pinned (OpenSpec.upto holdExpiresSpec)

/-- 'kalendslaw28.HoldFinal', WHERE WHAT IT READS IS OF BULK AT MOST 1048576: true; the input reads as it did. -/
def holdFinalUptoRow : OpenClaim := { program := "ytnaofdffomdmhaagreat", sum := "5f337fe1a9728158d6869c5e2e340aaf85324e6fdbc05276edd4514083dc60ca", func := "kalends/kalendslaw28.HoldFinal", spec := "holdFinal", inPlace := ["slices.overlaps[kalends/api.Hold]"], unfollowed := true, recurses := true, named := ["math/bits.divideError", "math/bits.overflowError"], apart := false, narrowed := true }
def HoldFinalUptoSaid : Prop := holdFinalUptoRow.holds Tryz.pinned (OpenSpec.upto holdFinalSpec)

/-- 'kalendslaw28.HoldFrees', WHERE WHAT IT READS IS OF BULK AT MOST 1048576: true; the input reads as it did. -/
def holdFreesUptoRow : OpenClaim := { program := "ytnaofdffomdmhaagreat", sum := "5f337fe1a9728158d6869c5e2e340aaf85324e6fdbc05276edd4514083dc60ca", func := "kalends/kalendslaw28.HoldFrees", spec := "holdFrees", inPlace := ["slices.overlaps[kalends/api.Hold]"], unfollowed := true, recurses := true, named := ["math/bits.divideError", "math/bits.overflowError"], apart := false, narrowed := true }
def HoldFreesUptoSaid : Prop := holdFreesUptoRow.holds Tryz.pinned (OpenSpec.upto holdFreesSpec)

/-- 'kalendslaw28.HoldApart', WHERE WHAT IT READS IS OF BULK AT MOST 1048576: true; the input reads as it did. -/
def holdApartUptoRow : OpenClaim := { program := "ytnaofdffomdmhaagreat", sum := "5f337fe1a9728158d6869c5e2e340aaf85324e6fdbc05276edd4514083dc60ca", func := "kalends/kalendslaw28.HoldApart", spec := "holdApart", inPlace := ["slices.overlaps[kalends/api.Hold]"], unfollowed := true, recurses := true, named := ["math/bits.divideError", "math/bits.overflowError"], apart := false, narrowed := true }
def HoldApartUptoSaid : Prop := holdApartUptoRow.holds Tryz.pinned (OpenSpec.upto holdApartSpec)

/-- 'kalendslaw28.HoldStands', WHERE WHAT IT READS IS OF BULK AT MOST 1048576: true; the input reads as it did. -/
def holdStandsUptoRow : OpenClaim := { program := "ytnaofdffomdmhaagreat", sum := "5f337fe1a9728158d6869c5e2e340aaf85324e6fdbc05276edd4514083dc60ca", func := "kalends/kalendslaw28.HoldStands", spec := "holdStands", inPlace := ["slices.overlaps[kalends/api.Hold]"], unfollowed := true, recurses := true, named := ["math/bits.divideError", "math/bits.overflowError"], apart := false, narrowed := true }
def HoldStandsUptoSaid : Prop := holdStandsUptoRow.holds Tryz.pinned (OpenSpec.upto holdStandsSpec)

/-- 'kalendslaw28.HoldRefusals', WHERE WHAT IT READS IS OF BULK AT MOST 1048576: true; the input reads as it did. -/
def holdRefusalsUptoRow : OpenClaim := { program := "ytnaofdffomdmhaagreat", sum := "5f337fe1a9728158d6869c5e2e340aaf85324e6fdbc05276edd4514083dc60ca", func := "kalends/kalendslaw28.HoldRefusals", spec := "holdRefusals", inPlace := ["slices.overlaps[kalends/api.Hold]"], unfollowed := true, recurses := true, named := ["math/bits.divideError", "math/bits.overflowError"], apart := false, narrowed := true }
def HoldRefusalsUptoSaid : Prop := holdRefusalsUptoRow.holds Tryz.pinned (OpenSpec.upto holdRefusalsSpec)

end Rows
end Go.Proofs.YtnaofdffomdmhaaGreat
