/-
  LK the kB jt and the jv answer, for all arguments of their kind, in the small machine: part 1.
-/
import Derived.Test.YtelifakcllijpaaGreatTab
import Derived.Test.YtelifakcllijpaaGreatK2
import Derived.KernelRfl
open Option renaming some->aa,none->ab
open Bool renaming true->ae,false->ag
set_option linter.all false
set_option maxRecDepth 100000
namespace Go.Proofs.YtelifakcllijpaaGreat
open Go Km
def hoS:FC:=.fs [.fs [.fs [.aN,fi 0,fi 1,.fs [fi 0] 1] 1] 1,fi 0,fi 1440] 1
def roS(q p:FC):List FC:=[fi 10,fi 0,fi 15,fi 0,.fs [fi 7] 1,fi (-1),.aN,fi 0,.aN,fi 0,.aN,hoS,.aN,q,p]
def Ix:FC:=.fs (roS .aN .aN++roS (.fs [fi 5,fi 90] 1) .aN++roS .aN (.fs [fi 0,fi 1] 2)) 3
def Tb(m r t z n b le:Int):List FC:=[fi m,fi r,fi t,fi z,.fs [.fs [.fs [.aN,fi 0,fi n,.fs [fi 0] 1] 1] 1,fi b] 1,fi le,.aN]
def NY:FC:=.fs (Tb 1 0 0 5 7 540 60) 1
def aeZ:bf tab jB [G Ix,G NY,.a ((Tb 2 2 0 5 3 600 30).map .f)] (.t [.a [Z 15,Z 1,Z 0,Z 600,Z 630,Z 0,Z 540,Z 600],vi 0]):=aZ (m:=5000) (d:=200) io
def ae0:bf tab jB [G Ix,G NY,.a ((Tb 2 2 0 5 3 615 30).map .f)] (.t [.a [Z 0,Z 0,Z 0,Z 0,Z 0,Z 0,Z 0,Z 0],vi 0]):=aZ (m:=5000) (d:=200) io
def ae1:bf tab jB [G Ix,G NY,.a ((Tb 3 1 0 11 2 0 30).map .f)] (.t [.a [Z 14,Z 0,Z 0,Z 0,Z 0,Z 0,Z 0,Z 0],vi 0]):=aZ (m:=5000) (d:=200) io
end Go.Proofs.YtelifakcllijpaaGreat
