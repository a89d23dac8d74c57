/-
  Dh the iC gK and the gl answer, for all arguments of their kind, in the small machine: part 2.
-/
import Derived.Test.YtelifakcllijpaaGreatS1
import Derived.Test.YtelifakcllijpaaGreatTab
import Derived.Test.YtelifakcllijpaaGreatK3
import Derived.KernelRfl
open Option renaming some->aa,none->ab
open Bool renaming true->ae,false->ag
set_option linter.unusedVariables false
set_option linter.constructorNameAsVariable false
set_option linter.unusedSimpArgs false
set_option linter.unusedSectionVars false
set_option linter.unnecessarySimpa false
set_option maxRecDepth 100000
namespace Go.Proofs.YtelifakcllijpaaGreat
open Go Km
theorem aeF:bg tab gm [.c (.f Hj),.c (.f M0),.a ((SE 3 1 0 5 2 1400 60).map .f)] (.t [.a [.f (fi 16),.f (fi 0),.f (fi 0),.f (fi 1400),.f (fi 1460),.f (fi 0),.f (fi 0),.f (fi 0)],vi 0]):=aY (m:=5000) (d:=200) (by kernel_rfl)
theorem aeG:bg tab gm [.c (.f Hj),.c (.f M0),.a ((SE 4 1 5 5 1 0 20).map .f)] (.t [.a [.f (fi 14),.f (fi 0),.f (fi 4),.f (fi 5760),.f (fi 5780),.f (fi 0),.f (fi 0),.f (fi 0)],vi 0]):=aY (m:=5000) (d:=200) (by kernel_rfl)
theorem aeH:bg tab gm [.c (.f Hj),.c (.f M0),.a ((SE 4 1 5 5 1 0 12).map .f)] (.t [.a [.f (fi 0),.f (fi 0),.f (fi 0),.f (fi 0),.f (fi 0),.f (fi 0),.f (fi 0),.f (fi 0)],vi 0]):=aY (m:=5000) (d:=200) (by kernel_rfl)
end Go.Proofs.YtelifakcllijpaaGreat
