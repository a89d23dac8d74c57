/-
  LK the kB jt and the jv answer, for all arguments of their kind, in the small machine: part 2.
-/
import Derived.Test.YtelifakcllijpaaGreatS1
import Derived.Test.YtelifakcllijpaaGreatTab
import Derived.Test.YtelifakcllijpaaGreatK2
import Derived.KernelRfl
open Option renaming some->aa,none->ab
open Bool renaming true->ae,false->ag
set_option linter.all false
set_option maxRecDepth 100000
namespace Go.Proofs.YtelifakcllijpaaGreat
open Go Km
def ae2:bf tab jB [G Ix,G NY,.a ((Tb 3 1 0 5 2 1400 60).map .f)] (.t [.a [Z 16,Z 0,Z 0,Z 1400,Z 1460,Z 0,Z 0,Z 0],vi 0]):=aZ (m:=5000) (d:=200) io
def ae3:bf tab jB [G Ix,G NY,.a ((Tb 4 1 5 5 1 0 20).map .f)] (.t [.a [Z 14,Z 0,Z 4,Z 5760,Z 5780,Z 0,Z 0,Z 0],vi 0]):=aZ (m:=5000) (d:=200) io
def ae4:bf tab jB [G Ix,G NY,.a ((Tb 4 1 5 5 1 0 12).map .f)] (.t [.a [Z 0,Z 0,Z 0,Z 0,Z 0,Z 0,Z 0,Z 0],vi 0]):=aZ (m:=5000) (d:=200) io
end Go.Proofs.YtelifakcllijpaaGreat
