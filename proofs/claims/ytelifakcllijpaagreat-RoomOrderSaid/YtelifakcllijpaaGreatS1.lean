/-
  Dh the iC gK and the gl answer, for all arguments of their kind, in the small machine: part 1.
-/
import Derived.Test.YtelifakcllijpaaGreatTab
import Derived.Test.YtelifakcllijpaaGreatK3
import Derived.KernelRfl
open Option renaming some->aa,none->ab
open Bool renaming true->ae,false->ag
set_option linter.unusedVariables false
set_option linter.constructorNameAsVariable false
set_option linter.unusedSimpArgs false
set_option linter.unusedSectionVars false
set_option linter.unnecessarySimpa false
set_option maxRecDepth 100000
namespace Go.Proofs.YtelifakcllijpaaGreat
open Go Km
def hoS:FC:=.fs [.fs [.fs [.aJ,fi 0,fi 1,.fs [fi 0] 1] 1] 1,fi 0,fi 1440] 1
def roS(q p:FC):List FC:=[fi 10,fi 0,fi 15,fi 0,.fs [fi 7] 1,fi (-1),.aJ,fi 0,.aJ,fi 0,.aJ,hoS,.aJ,q,p]
def Hj:FC:=.fs (roS .aJ .aJ++roS (.fs [fi 5,fi 90] 1) .aJ++roS .aJ (.fs [fi 0,fi 1] 2)) 3
def SE(m r t z n b le:Int):List FC:=[fi m,fi r,fi t,fi z,.fs [.fs [.fs [.aJ,fi 0,fi n,.fs [fi 0] 1] 1] 1,fi b] 1,fi le,.aJ]
def M0:FC:=.fs (SE 1 0 0 5 7 540 60) 1
theorem aeC:bg tab gm [.c (.f Hj),.c (.f M0),.a ((SE 2 2 0 5 3 600 30).map .f)] (.t [.a [.f (fi 15),.f (fi 1),.f (fi 0),.f (fi 600),.f (fi 630),.f (fi 0),.f (fi 540),.f (fi 600)],vi 0]):=aY (m:=5000) (d:=200) (by kernel_rfl)
theorem aeD:bg tab gm [.c (.f Hj),.c (.f M0),.a ((SE 2 2 0 5 3 615 30).map .f)] (.t [.a [.f (fi 0),.f (fi 0),.f (fi 0),.f (fi 0),.f (fi 0),.f (fi 0),.f (fi 0),.f (fi 0)],vi 0]):=aY (m:=5000) (d:=200) (by kernel_rfl)
theorem aeE:bg tab gm [.c (.f Hj),.c (.f M0),.a ((SE 3 1 0 11 2 0 30).map .f)] (.t [.a [.f (fi 14),.f (fi 0),.f (fi 0),.f (fi 0),.f (fi 0),.f (fi 0),.f (fi 0),.f (fi 0)],vi 0]):=aY (m:=5000) (d:=200) (by kernel_rfl)
end Go.Proofs.YtelifakcllijpaaGreat
