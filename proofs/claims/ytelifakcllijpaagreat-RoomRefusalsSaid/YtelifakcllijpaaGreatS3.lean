/-
  LK the kB jt and the jv answer, for all arguments of their kind, in the small machine: part 3.
-/
import Derived.Test.YtelifakcllijpaaGreatS1
import Derived.Test.YtelifakcllijpaaGreatTab
import Derived.Test.YtelifakcllijpaaGreatK2
import Derived.KernelRfl
open Option renaming some->aa,none->ab
open Bool renaming true->ae,false->ag
set_option linter.all false
set_option maxRecDepth 100000
namespace Go.Proofs.YtelifakcllijpaaGreat
open Go Km
def ae6:bf tab Pt [G Ix,G NY,vi 2,.a [Z 0,Z 1440]] (.t [G (.fs [fi 540,fi 615] 1),vi 0]):=aZ (m:=5000) (d:=200) io
def ae7:bf tab Pt [G Ix,G NY,vi 1,.a [Z 0,Z 1440]] (.t [G .es,vi 0]):=aZ (m:=5000) (d:=200) io
def afP:bf tab XL [G NY,vi 0,vi 0,vi 8] (.t [vi 60,vi 0]):=aZ (m:=5000) (d:=200) io
def aaa:bf tab vL [G Ix,vi 2,vi 0] (vb ae)/\bf tab vL [G Ix,vi 1,vi 2] (vb ae)/\bf tab vL [G Ix,vi 0,vi 1] (vb ag):=⟨aZ (m:=5000) (d:=200) io,aZ (m:=5000) (d:=200) io,aZ (m:=5000) (d:=200) io⟩
def ae':bf tab Gu [G Ix,G NY,.a ((Tb 2 2 0 5 3 600 30).map .f),.a [Z 15,Z 1,Z 0,Z 600,Z 630,Z 0,Z 540,Z 600]] (vi 0):=aZ (m:=5000) (d:=200) io
def ae_:bf tab Gu [G Ix,G NY,.a ((Tb 2 2 0 5 3 600 30).map .f),.a [Z 14,Z 0,Z 0,Z 0,Z 0,Z 0,Z 0,Z 0]] (vi 11):=aZ (m:=5000) (d:=200) io
def afQ:bf tab Gv [G Ix] (vi 0):=aZ (m:=5000) (d:=200) io
def afK:bf tab XJ [G (.fs [fi 540,fi 615] 1),G (.fs [fi 540,fi 615] 1)] (vb ae):=aZ (m:=5000) (d:=200) io
def on1:bf tab I8 [vi 0,vi 600,vi 630] (.a [Z 0,Z 600,Z 630])/\bf tab I8 [vi 0,vi 540,vi 600] (.a [Z 0,Z 540,Z 600])/\bf tab I8 [vi 0,vi 1400,vi 1460] (.a [Z 0,Z 1400,Z 1460])/\bf tab I8 [vi 4,vi 0,vi 20] (.a [Z 4,Z 5760,Z 5780]):=⟨aZ (m:=5000) (d:=200) io,aZ (m:=5000) (d:=200) io,aZ (m:=5000) (d:=200) io,aZ (m:=5000) (d:=200) io⟩
end Go.Proofs.YtelifakcllijpaaGreat
