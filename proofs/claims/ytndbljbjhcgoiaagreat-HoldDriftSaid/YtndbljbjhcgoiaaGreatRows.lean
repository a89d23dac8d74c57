/-
  No cell of these rows narrows 'for every input' (looked for: loops, veiled, ifaces, maps, wideKeys, modest, calm, conditions, laid).
  DERIVED. THE GIVEN ROWS OF THIS SEAT. 2 by the template 'for every input the law returns true; each argument reads behind the call as it read before'; 0 by the template 'total and deterministic' (their statements: YtndbljbjhcgoiaaGreatTotals.lean).
  GIVEN WITH THE SEED: the statements are not yours to turn. If you find one false, say at which input.
  Laid BY PROGRAM, IN A SANDBOX (cutbox-rows.mjs): the forced cells as the released guide's own fill.sh prints them over the translation 119de0e1f88beabb… (all of the seat's roots in one cut). By AI agents, Wed Nov 11 2026. No macro, syntax, notation, axiom, sorry.
-/
import Derived.Test.YtndbljbjhcgoiaaGreatChecked
import GoSem.Claim
import GoSem.ClaimJoined
import GoSem.ClaimMapViews
import Derived.JoinedTies
import Derived.KernelRfl
namespace Go.Proofs.YtndbljbjhcgoiaaGreat
/- THE CELL 'sum', in the pinned program and in every row, IS THE sha256 OF THE DUMP (.gsa) THAT YtndbljbjhcgoiaaGreatProg.lean LOADS. Nothing in Lean hashes anything: it is a label: what it is worth is what the hold of that sum in a sandbox is worth. -/
noncomputable def Tryz.pinned : Pinned := { name := "ytndbljbjhcgoiaagreat", sum := "119de0e1f88beabb966c00f9763f6fc7a37e8c15597f23cea78e4c7506407e56", checked := Tryz.checked }
namespace Rows
def none {H : Type} : Left H := { results := [], args := [] }

/-- 'kalendslaw28.HoldDrift': WHATEVER THE INPUT: true; the input reads as it did. -/
def holdDriftSpec : ChangeSpec := { name := "holdDrift", fn := fun _ => fun
  | [d] => { results := [.lit (.bool true)], args := [d] }
  | _ => none }
def holdDriftRow : OpenClaim := { program := "ytndbljbjhcgoiaagreat", sum := "119de0e1f88beabb966c00f9763f6fc7a37e8c15597f23cea78e4c7506407e56", func := "kalends/kalendslaw28.HoldDrift", spec := "holdDrift", inPlace := ["slices.overlaps[kalends/api.Hold]"], unfollowed := true, recurses := true, named := ["math/bits.divideError", "math/bits.overflowError"], apart := false }
def HoldDriftSaid : Prop := holdDriftRow.holds Tryz.pinned (OpenSpec.ofChange holdDriftSpec)

/-- ITS FALSE NEIGHBOUR: 'it returns false'. Refute it at one input. -/
def holdDriftWrong : ChangeSpec := { name := "holdDrift", fn := fun _ => fun
  | [d] => { results := [.lit (.bool false)], args := [d] }
  | _ => none }
def HoldDriftWrongFalsely : Prop := holdDriftRow.holds Tryz.pinned (OpenSpec.ofChange holdDriftWrong)

/-- 'kalendslaw28.HoldOrder': WHATEVER THE INPUT: true; the input reads as it did. -/
def holdOrderSpec : ChangeSpec := { name := "holdOrder", fn := fun _ => fun
  | [d1, d2, d3] => { results := [.lit (.bool true)], args := [d1, d2, d3] }
  | _ => none }
def holdOrderRow : OpenClaim := { program := "ytndbljbjhcgoiaagreat", sum := "119de0e1f88beabb966c00f9763f6fc7a37e8c15597f23cea78e4c7506407e56", func := "kalends/kalendslaw28.HoldOrder", spec := "holdOrder", inPlace := ["slices.overlaps[kalends/api.Hold]"], unfollowed := true, recurses := true, named := ["math/bits.divideError", "math/bits.overflowError"], apart := false }
def HoldOrderSaid : Prop := holdOrderRow.holds Tryz.pinned (OpenSpec.ofChange holdOrderSpec)

/-- ITS FALSE NEIGHBOUR: 'it returns false'. Refute it at one input. -/
def holdOrderWrong : ChangeSpec := { name := "holdOrder", fn := fun _ => fun
  | [d1, d2, d3] => { results := [.lit (.bool false)], args := [d1, d2, d3] }
  | _ => none }
def HoldOrderWrongFalsely : Prop := holdOrderRow.holds Tryz.pinned (OpenSpec.ofChange holdOrderWrong)

/- THE SECOND FORM. 'bulk': how many values and letters a reading holds, each counted each time it is reached (what is shared counts as often as it is met; a slice's spare places count too). A statement '..UptoSaid' is the law's where the arguments, and the package variables that the reading takes, are together of bulk at most 1048576: NARROWER than '..Said'. Prove '..Said' where nothing that the law and all that it calls make is longer than what came in: it says more and counts as full. Else prove '..UptoSaid'. A law counts once. -/
mutual
def uptoBulk {H : Type} : DataW H → Nat
  | .lit (.string bytes) => bytes.length + 1
  | .lit _ => 1
  | .nil => 1
  | .ptr d => uptoBulk d + 1
  | .slice elems spare => uptoBulkAll elems + uptoBulkAll spare + 1
  | .agg parts => uptoBulkAll parts + 1
  | .iface _ d => uptoBulk d + 1
  | .map entries => uptoBulkEntries entries + 1
  | .held _ => 1
def uptoBulkAll {H : Type} : List (DataW H) → Nat
  | [] => 0
  | d :: r => uptoBulk d + uptoBulkAll r
def uptoBulkEntries {H : Type} : List (Lit × DataW H) → Nat
  | [] => 0
  | x :: r => uptoBulkEntry x + uptoBulkEntries r
def uptoBulkEntry {H : Type} : Lit × DataW H → Nat
  | (.string bytes, d) => bytes.length + uptoBulk d + 1
  | (_, d) => uptoBulk d + 1
 end
def uptoSmall : (H : Type) → List (DataW H) → Bool := fun _ ds => decide (uptoBulkAll ds ≤ 1048576)
def OpenSpec.upto (s : _root_.Go.ChangeSpec) : _root_.Go.OpenSpec := { _root_.Go.OpenSpec.ofChange s with cond := some uptoSmall }

/-- 'kalendslaw28.HoldDrift', WHERE WHAT IT READS IS OF BULK AT MOST 1048576: true; the input reads as it did. -/
def holdDriftUptoRow : OpenClaim := { program := "ytndbljbjhcgoiaagreat", sum := "119de0e1f88beabb966c00f9763f6fc7a37e8c15597f23cea78e4c7506407e56", func := "kalends/kalendslaw28.HoldDrift", spec := "holdDrift", inPlace := ["slices.overlaps[kalends/api.Hold]"], unfollowed := true, recurses := true, named := ["math/bits.divideError", "math/bits.overflowError"], apart := false, narrowed := true }
def HoldDriftUptoSaid : Prop := holdDriftUptoRow.holds Tryz.pinned (OpenSpec.upto holdDriftSpec)

/-- 'kalendslaw28.HoldOrder', WHERE WHAT IT READS IS OF BULK AT MOST 1048576: true; the input reads as it did. -/
def holdOrderUptoRow : OpenClaim := { program := "ytndbljbjhcgoiaagreat", sum := "119de0e1f88beabb966c00f9763f6fc7a37e8c15597f23cea78e4c7506407e56", func := "kalends/kalendslaw28.HoldOrder", spec := "holdOrder", inPlace := ["slices.overlaps[kalends/api.Hold]"], unfollowed := true, recurses := true, named := ["math/bits.divideError", "math/bits.overflowError"], apart := false, narrowed := true }
def HoldOrderUptoSaid : Prop := holdOrderUptoRow.holds Tryz.pinned (OpenSpec.upto holdOrderSpec)

end Rows
end Go.Proofs.YtndbljbjhcgoiaaGreat
