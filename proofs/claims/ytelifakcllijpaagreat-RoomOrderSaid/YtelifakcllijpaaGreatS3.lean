/-
  Dh the iC gK and the gl answer, for all arguments of their kind, in the small machine: part 3.
-/
import Derived.Test.YtelifakcllijpaaGreatS1
import Derived.Test.YtelifakcllijpaaGreatTab
import Derived.Test.YtelifakcllijpaaGreatK3
import Derived.KernelRfl
open Option renaming some->aa,none->ab
open Bool renaming true->ae,false->ag
set_option linter.unusedVariables false
set_option linter.constructorNameAsVariable false
set_option linter.unusedSimpArgs false
set_option linter.unusedSectionVars false
set_option linter.unnecessarySimpa false
set_option maxRecDepth 100000
namespace Go.Proofs.YtelifakcllijpaaGreat
open Go Km
theorem aeM:bg tab BG [.c (.f Hj),.c (.f M0),vi 2,.a [.f (fi 0),.f (fi 1440)]] (.t [.c (.f (.fs [fi 540,fi 615] 1)),vi 0]):=aY (m:=5000) (d:=200) (by kernel_rfl)
theorem aeN:bg tab BG [.c (.f Hj),.c (.f M0),vi 1,.a [.f (fi 0),.f (fi 1440)]] (.t [.c (.f .es),vi 0]):=aY (m:=5000) (d:=200) (by kernel_rfl)
theorem afl:bg tab O9 [.c (.f M0),vi 0,vi 0,vi 8] (.t [vi 60,vi 0]):=aY (m:=5000) (d:=200) (by kernel_rfl)
theorem ZG:bg tab uf [.c (.f Hj),vi 2,vi 0] (vb ae)/\bg tab uf [.c (.f Hj),vi 1,vi 2] (vb ae)/\bg tab uf [.c (.f Hj),vi 0,vi 1] (vb ag):=⟨aY (m:=5000) (d:=200) (by kernel_rfl),aY (m:=5000) (d:=200) (by kernel_rfl),aY (m:=5000) (d:=200) (by kernel_rfl)⟩
theorem aeQ:bg tab BH [.c (.f Hj),.c (.f M0),.a ((SE 2 2 0 5 3 600 30).map .f),.a [.f (fi 15),.f (fi 1),.f (fi 0),.f (fi 600),.f (fi 630),.f (fi 0),.f (fi 540),.f (fi 600)]] (vi 0):=aY (m:=5000) (d:=200) (by kernel_rfl)
theorem aeR:bg tab BH [.c (.f Hj),.c (.f M0),.a ((SE 2 2 0 5 3 600 30).map .f),.a [.f (fi 14),.f (fi 0),.f (fi 0),.f (fi 0),.f (fi 0),.f (fi 0),.f (fi 0),.f (fi 0)]] (vi 11):=aY (m:=5000) (d:=200) (by kernel_rfl)
theorem afm:bg tab BI [.c (.f Hj)] (vi 0):=aY (m:=5000) (d:=200) (by kernel_rfl)
theorem afg:bg tab O6 [.c (.f (.fs [fi 540,fi 615] 1)),.c (.f (.fs [fi 540,fi 615] 1))] (vb ae):=aY (m:=5000) (d:=200) (by kernel_rfl)
theorem on1:bg tab vk [vi 0,vi 600,vi 630] (.a [.f (fi 0),.f (fi 600),.f (fi 630)])/\bg tab vk [vi 0,vi 540,vi 600] (.a [.f (fi 0),.f (fi 540),.f (fi 600)])/\bg tab vk [vi 0,vi 1400,vi 1460] (.a [.f (fi 0),.f (fi 1400),.f (fi 1460)])/\bg tab vk [vi 4,vi 0,vi 20] (.a [.f (fi 4),.f (fi 5760),.f (fi 5780)]):=⟨aY (m:=5000) (d:=200) (by kernel_rfl),aY (m:=5000) (d:=200) (by kernel_rfl),aY (m:=5000) (d:=200) (by kernel_rfl),aY (m:=5000) (d:=200) (by kernel_rfl)⟩
end Go.Proofs.YtelifakcllijpaaGreat
