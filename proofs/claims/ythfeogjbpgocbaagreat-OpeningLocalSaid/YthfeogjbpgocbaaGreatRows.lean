/-
  No cell of these rows narrows 'for every input' (looked for: loops, veiled, ifaces, maps, wideKeys, modest, calm, conditions, laid).
  DERIVED. THE GIVEN ROWS OF THIS SEAT. 4 by the template 'for every input the law returns true; each argument reads behind the call as it read before'; 0 by the template 'total and deterministic' (their statements: YthfeogjbpgocbaaGreatTotals.lean).
  GIVEN WITH THE SEED: the statements are not yours to turn. If you find one false, say at which input.
  Laid BY PROGRAM, IN A SANDBOX (cutbox-rows.mjs): the forced cells as the released guide's own fill.sh prints them over the translation fa8657de38e14ee4… (all of the seat's roots in one cut). By AI agents, Wed Nov 11 2026. No macro, syntax, notation, axiom, sorry.
-/
import Derived.Test.YthfeogjbpgocbaaGreatChecked
import GoSem.Claim
import GoSem.ClaimJoined
import GoSem.ClaimMapViews
import Derived.JoinedTies
import Derived.KernelRfl
namespace Go.Proofs.YthfeogjbpgocbaaGreat
/- THE CELL 'sum', in the pinned program and in every row, IS THE sha256 OF THE DUMP (.gsa) THAT YthfeogjbpgocbaaGreatProg.lean LOADS. Nothing in Lean hashes anything: it is a label: what it is worth is what the hold of that sum in a sandbox is worth. -/
noncomputable def Tryz.pinned : Pinned := { name := "ythfeogjbpgocbaagreat", sum := "fa8657de38e14ee482fd6934045a40a59f8b8cf59a9e4f2c1fcaeb475da3395d", checked := Tryz.checked }
namespace Rows
def none {H : Type} : Left H := { results := [], args := [] }

/-- 'kalendslaw17.OpeningCloses': WHATEVER THE INPUT: true; the input reads as it did. -/
def openingClosesSpec : ChangeSpec := { name := "openingCloses", fn := fun _ => fun
  | [d1, d2, d3] => { results := [.lit (.bool true)], args := [d1, d2, d3] }
  | _ => none }
def openingClosesRow : OpenClaim := { program := "ythfeogjbpgocbaagreat", sum := "fa8657de38e14ee482fd6934045a40a59f8b8cf59a9e4f2c1fcaeb475da3395d", func := "kalends/kalendslaw17.OpeningCloses", spec := "openingCloses", unfollowed := true, recurses := true, named := ["math/bits.divideError", "math/bits.overflowError"], apart := false }
def OpeningClosesSaid : Prop := openingClosesRow.holds Tryz.pinned (OpenSpec.ofChange openingClosesSpec)

/-- ITS FALSE NEIGHBOUR: 'it returns false'. Refute it at one input. -/
def openingClosesWrong : ChangeSpec := { name := "openingCloses", fn := fun _ => fun
  | [d1, d2, d3] => { results := [.lit (.bool false)], args := [d1, d2, d3] }
  | _ => none }
def OpeningClosesWrongFalsely : Prop := openingClosesRow.holds Tryz.pinned (OpenSpec.ofChange openingClosesWrong)

/-- 'kalendslaw17.OpeningFurther': WHATEVER THE INPUT: true; the input reads as it did. -/
def openingFurtherSpec : ChangeSpec := { name := "openingFurther", fn := fun _ => fun
  | [d1, d2, d3] => { results := [.lit (.bool true)], args := [d1, d2, d3] }
  | _ => none }
def openingFurtherRow : OpenClaim := { program := "ythfeogjbpgocbaagreat", sum := "fa8657de38e14ee482fd6934045a40a59f8b8cf59a9e4f2c1fcaeb475da3395d", func := "kalends/kalendslaw17.OpeningFurther", spec := "openingFurther", unfollowed := true, recurses := true, named := ["math/bits.divideError", "math/bits.overflowError"], apart := false }
def OpeningFurtherSaid : Prop := openingFurtherRow.holds Tryz.pinned (OpenSpec.ofChange openingFurtherSpec)

/-- ITS FALSE NEIGHBOUR: 'it returns false'. Refute it at one input. -/
def openingFurtherWrong : ChangeSpec := { name := "openingFurther", fn := fun _ => fun
  | [d1, d2, d3] => { results := [.lit (.bool false)], args := [d1, d2, d3] }
  | _ => none }
def OpeningFurtherWrongFalsely : Prop := openingFurtherRow.holds Tryz.pinned (OpenSpec.ofChange openingFurtherWrong)

/-- 'kalendslaw17.OpeningHours': WHATEVER THE INPUT: true; the input reads as it did. -/
def openingHoursSpec : ChangeSpec := { name := "openingHours", fn := fun _ => fun
  | [d1, d2, d3] => { results := [.lit (.bool true)], args := [d1, d2, d3] }
  | _ => none }
def openingHoursRow : OpenClaim := { program := "ythfeogjbpgocbaagreat", sum := "fa8657de38e14ee482fd6934045a40a59f8b8cf59a9e4f2c1fcaeb475da3395d", func := "kalends/kalendslaw17.OpeningHours", spec := "openingHours", unfollowed := true, recurses := true, named := ["math/bits.divideError", "math/bits.overflowError"], apart := false }
def OpeningHoursSaid : Prop := openingHoursRow.holds Tryz.pinned (OpenSpec.ofChange openingHoursSpec)

/-- ITS FALSE NEIGHBOUR: 'it returns false'. Refute it at one input. -/
def openingHoursWrong : ChangeSpec := { name := "openingHours", fn := fun _ => fun
  | [d1, d2, d3] => { results := [.lit (.bool false)], args := [d1, d2, d3] }
  | _ => none }
def OpeningHoursWrongFalsely : Prop := openingHoursRow.holds Tryz.pinned (OpenSpec.ofChange openingHoursWrong)

/-- 'kalendslaw17.OpeningLocal': WHATEVER THE INPUT: true; the input reads as it did. -/
def openingLocalSpec : ChangeSpec := { name := "openingLocal", fn := fun _ => fun
  | [d1, d2, d3] => { results := [.lit (.bool true)], args := [d1, d2, d3] }
  | _ => none }
def openingLocalRow : OpenClaim := { program := "ythfeogjbpgocbaagreat", sum := "fa8657de38e14ee482fd6934045a40a59f8b8cf59a9e4f2c1fcaeb475da3395d", func := "kalends/kalendslaw17.OpeningLocal", spec := "openingLocal", unfollowed := true, recurses := true, named := ["math/bits.divideError", "math/bits.overflowError"], apart := false }
def OpeningLocalSaid : Prop := openingLocalRow.holds Tryz.pinned (OpenSpec.ofChange openingLocalSpec)

/-- ITS FALSE NEIGHBOUR: 'it returns false'. Refute it at one input. -/
def openingLocalWrong : ChangeSpec := { name := "openingLocal", fn := fun _ => fun
  | [d1, d2, d3] => { results := [.lit (.bool false)], args := [d1, d2, d3] }
  | _ => none }
def OpeningLocalWrongFalsely : Prop := openingLocalRow.holds Tryz.pinned (OpenSpec.ofChange openingLocalWrong)

/- THE SECOND FORM. 'bulk': how many values and letters a reading holds, each counted each time it is reached (what is shared counts as often as it is met; a slice's spare places count too). A statement '..UptoSaid' is the law's where the arguments, and the package variables that the reading takes, are together of bulk at most 1048576: NARROWER than '..Said'. Prove '..Said' where nothing that the law and all that it calls make is longer than what came in: it says more and counts as full. Else prove '..UptoSaid'. A law counts once. -/
mutual
def uptoBulk {H : Type} : DataW H → Nat
  | .lit (.string bytes) => bytes.length + 1
  | .lit _ => 1
  | .nil => 1
  | .ptr d => uptoBulk d + 1
  | .slice elems spare => uptoBulkAll elems + uptoBulkAll spare + 1
  | .agg parts => uptoBulkAll parts + 1
  | .iface _ d => uptoBulk d + 1
  | .map entries => uptoBulkEntries entries + 1
  | .held _ => 1
def uptoBulkAll {H : Type} : List (DataW H) → Nat
  | [] => 0
  | d :: r => uptoBulk d + uptoBulkAll r
def uptoBulkEntries {H : Type} : List (Lit × DataW H) → Nat
  | [] => 0
  | x :: r => uptoBulkEntry x + uptoBulkEntries r
def uptoBulkEntry {H : Type} : Lit × DataW H → Nat
  | (.string bytes, d) => bytes.length + uptoBulk d + 1
  | (_, d) => uptoBulk d + 1
 end
def uptoSmall : (H : Type) → List (DataW H) → Bool := fun _ ds => decide (uptoBulkAll ds ≤ 1048576)
def OpenSpec.upto (s : _root_.Go.ChangeSpec) : _root_.Go.OpenSpec := { _root_.Go.OpenSpec.ofChange s with cond := some uptoSmall }

/-- 'kalendslaw17.OpeningCloses', WHERE WHAT IT READS IS OF BULK AT MOST 1048576: true; the input reads as it did. -/
def openingClosesUptoRow : OpenClaim := { program := "ythfeogjbpgocbaagreat", sum := "fa8657de38e14ee482fd6934045a40a59f8b8cf59a9e4f2c1fcaeb475da3395d", func := "kalends/kalendslaw17.OpeningCloses", spec := "openingCloses", unfollowed := true, recurses := true, named := ["math/bits.divideError", "math/bits.overflowError"], apart := false, narrowed := true }
def OpeningClosesUptoSaid : Prop := openingClosesUptoRow.holds Tryz.pinned (OpenSpec.upto openingClosesSpec)

/-- 'kalendslaw17.OpeningFurther', WHERE WHAT IT READS IS OF BULK AT MOST 1048576: true; the input reads as it did. -/
def openingFurtherUptoRow : OpenClaim := { program := "ythfeogjbpgocbaagreat", sum := "fa8657de38e14ee482fd6934045a40a59f8b8cf59a9e4f2c1fcaeb475da3395d", func := "kalends/kalendslaw17.OpeningFurther", spec := "openingFurther", unfollowed := true, recurses := true, named := ["math/bits.divideError", "math/bits.overflowError"], apart := false, narrowed := true }
def OpeningFurtherUptoSaid : Prop := openingFurtherUptoRow.holds Tryz.pinned (OpenSpec.upto openingFurtherSpec)

/-- 'kalendslaw17.OpeningHours', WHERE WHAT IT READS IS OF BULK AT MOST 1048576: true; the input reads as it did. -/
def openingHoursUptoRow : OpenClaim := { program := "ythfeogjbpgocbaagreat", sum := "fa8657de38e14ee482fd6934045a40a59f8b8cf59a9e4f2c1fcaeb475da3395d", func := "kalends/kalendslaw17.OpeningHours", spec := "openingHours", unfollowed := true, recurses := true, named := ["math/bits.divideError", "math/bits.overflowError"], apart := false, narrowed := true }
def OpeningHoursUptoSaid : Prop := openingHoursUptoRow.holds Tryz.pinned (OpenSpec.upto openingHoursSpec)

/-- 'kalendslaw17.OpeningLocal', WHERE WHAT IT READS IS OF BULK AT MOST 1048576: true; the input reads as it did. -/
def openingLocalUptoRow : OpenClaim := { program := "ythfeogjbpgocbaagreat", sum := "fa8657de38e14ee482fd6934045a40a59f8b8cf59a9e4f2c1fcaeb475da3395d", func := "kalends/kalendslaw17.OpeningLocal", spec := "openingLocal", unfollowed := true, recurses := true, named := ["math/bits.divideError", "math/bits.overflowError"], apart := false, narrowed := true }
def OpeningLocalUptoSaid : Prop := openingLocalUptoRow.holds Tryz.pinned (OpenSpec.upto openingLocalSpec)

end Rows
end Go.Proofs.YthfeogjbpgocbaaGreat
