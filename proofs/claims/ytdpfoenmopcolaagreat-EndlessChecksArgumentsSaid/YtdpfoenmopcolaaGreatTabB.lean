/-
  The functions that the law comes to, in the small code: the second part.
-/
import Derived.Test.YtdpfoenmopcolaaGreatTabA

set_option linter.unusedVariables false
set_option linter.unusedSimpArgs false
set_option linter.unusedSectionVars false

section
set_option maxRecDepth 100000
namespace Go.Proofs.YtdpfoenmopcolaaGreat
open Go Km

def tab : BT AFunc := (.n (.n (.n (.n (.n (.n (.n (.n .e A_x134 .e) a63 .e) A_x108 (.n .e a95 .e)) A_x9 (.n (.n (.n .e a143 .e) A_x102 .e) a47 (.n .e a111 .e))) A_x36 (.n (.n (.n (.n .e a135 .e) a71 .e) a39 (.n .e a103 .e)) A_x30 (.n (.n .e a87 .e) A_x64 (.n .e a119 .e)))) A_x16 (.n (.n (.n (.n (.n .e a131 .e) A_x135 .e) A_x114 (.n .e A_x132 .e)) A_x104 (.n (.n (.n .e a147 .e) a83 .e) A_x119 (.n .e a115 .e))) A_x6 (.n (.n (.n (.n .e a139 .e) a75 .e) A_x4 (.n .e a107 .e)) A_x25 (.n (.n .e A_x146 .e) A_x138 (.n .e a123 .e))))) a1 (.n (.n (.n (.n (.n (.n .e a129 .e) A_x129 .e) a33 (.n .e a97 .e)) A_x103 (.n (.n (.n .e a145 .e) A_x99 .e) a49 (.n .e a113 .e))) A_x10 (.n (.n (.n (.n .e a137 .e) a73 .e) a41 (.n .e a105 .e)) A_x49 (.n (.n .e A_x87 .e) A_x80 (.n .e a121 .e)))) A_x35 (.n (.n (.n (.n (.n .e a133 .e) a69 .e) a37 (.n .e a101 .e)) A_x53 (.n (.n (.n .e a149 .e) A_x141 .e) A_x85 (.n .e a117 .e))) A_x7 (.n (.n (.n (.n .e a141 .e) A_x71 .e) a45 (.n .e A_x142 .e)) A_x48 (.n (.n .e a93 .e) a61 (.n .e a125 .e)))))) A_x33 (.n (.n (.n (.n (.n (.n (.n .e a128 .e) a64 .e) a32 (.n .e a96 .e)) A_x109 (.n (.n (.n .e a144 .e) A_x125 .e) a48 (.n .e A_x113 .e))) A_x34 (.n (.n (.n (.n .e A_x144 .e) a72 .e) a40 (.n .e a104 .e)) a24 (.n (.n .e A_x131 .e) A_x130 (.n .e a120 .e)))) A_x14 (.n (.n (.n (.n (.n .e a132 .e) a68 .e) a36 (.n .e a100 .e)) A_x21 (.n (.n (.n .e a148 .e) a84 .e) A_x54 (.n .e A_x143 .e))) A_x15 (.n (.n (.n (.n .e a140 .e) A_x5 .e) A_x2 (.n .e a108 .e)) A_x24 (.n (.n .e A_x139 .e) A_x23 (.n .e a124 .e))))) A_x106 (.n (.n (.n (.n (.n (.n .e a130 .e) a66 .e) A_x127 (.n .e A_x137 .e)) A_x107 (.n (.n (.n .e a146 .e) a82 .e) A_x101 (.n .e a114 .e))) A_x11 (.n (.n (.n (.n .e a138 .e) a74 .e) a42 (.n .e a106 .e)) A_x51 (.n (.n .e A_x82 .e) A_x81 (.n .e a122 .e)))) A_x105 (.n (.n (.n (.n (.n .e a134 .e) a70 .e) a38 (.n .e a102 .e)) A_x27 (.n (.n .e a86 .e) a54 (.n .e a118 .e))) A_x12 (.n (.n (.n (.n .e a142 .e) a78 .e) a46 (.n .e a110 .e)) A_x26 (.n (.n .e a94 .e) a62 (.n .e a126 .e)))))))

theorem T_x33 : tab.get F_x33 = some A_x33 := rfl
theorem T_x106 : tab.get F_x106 = some A_x106 := rfl
theorem T_x16 : tab.get F_x16 = some A_x16 := rfl
theorem T_x14 : tab.get F_x14 = some A_x14 := rfl
theorem T_x35 : tab.get F_x35 = some A_x35 := rfl
theorem T_x105 : tab.get F_x105 = some A_x105 := rfl
theorem T_x36 : tab.get F_x36 = some A_x36 := rfl
theorem T_x34 : tab.get F_x34 = some A_x34 := rfl
theorem T_x10 : tab.get F_x10 = some A_x10 := rfl
theorem T_x11 : tab.get F_x11 = some A_x11 := rfl
theorem T_x6 : tab.get F_x6 = some A_x6 := rfl
theorem T_x15 : tab.get F_x15 = some A_x15 := rfl
theorem T_x7 : tab.get F_x7 = some A_x7 := rfl
theorem T_x12 : tab.get F_x12 = some A_x12 := rfl
theorem T_x9 : tab.get F_x9 = some A_x9 := rfl
theorem T_x109 : tab.get F_x109 = some A_x109 := rfl
theorem T_x103 : tab.get F_x103 = some A_x103 := rfl
theorem T_x107 : tab.get F_x107 = some A_x107 := rfl
theorem T_x104 : tab.get F_x104 = some A_x104 := rfl
theorem T_x21 : tab.get F_x21 = some A_x21 := rfl
theorem T_x53 : tab.get F_x53 = some A_x53 := rfl
theorem T_x27 : tab.get F_x27 = some A_x27 := rfl
theorem T_x30 : tab.get F_x30 = some A_x30 := rfl
theorem T_x49 : tab.get F_x49 = some A_x49 := rfl
theorem T_x51 : tab.get F_x51 = some A_x51 := rfl
theorem T_x25 : tab.get F_x25 = some A_x25 := rfl
theorem T_x24 : tab.get F_x24 = some A_x24 := rfl
theorem T_x48 : tab.get F_x48 = some A_x48 := rfl
theorem T_x26 : tab.get F_x26 = some A_x26 := rfl
theorem T_x108 : tab.get F_x108 = some A_x108 := rfl
theorem T_x127 : tab.get F_x127 = some A_x127 := rfl
theorem T_x114 : tab.get F_x114 = some A_x114 := rfl
theorem T_x4 : tab.get F_x4 = some A_x4 := rfl
theorem T_x2 : tab.get F_x2 = some A_x2 := rfl
theorem T_x101 : tab.get F_x101 = some A_x101 := rfl
theorem T_x119 : tab.get F_x119 = some A_x119 := rfl
theorem T_x54 : tab.get F_x54 = some A_x54 := rfl
theorem T_x85 : tab.get F_x85 = some A_x85 := rfl
theorem T_x64 : tab.get F_x64 = some A_x64 := rfl
theorem T_x130 : tab.get F_x130 = some A_x130 := rfl
theorem T_x80 : tab.get F_x80 = some A_x80 := rfl
theorem T_x81 : tab.get F_x81 = some A_x81 := rfl
theorem T_x138 : tab.get F_x138 = some A_x138 := rfl
theorem T_x23 : tab.get F_x23 = some A_x23 := rfl
theorem T_x129 : tab.get F_x129 = some A_x129 := rfl
theorem T_x135 : tab.get F_x135 = some A_x135 := rfl
theorem T_x5 : tab.get F_x5 = some A_x5 := rfl
theorem T_x71 : tab.get F_x71 = some A_x71 := rfl
theorem T_x102 : tab.get F_x102 = some A_x102 := rfl
theorem T_x125 : tab.get F_x125 = some A_x125 := rfl
theorem T_x99 : tab.get F_x99 = some A_x99 := rfl
theorem T_x141 : tab.get F_x141 = some A_x141 := rfl
theorem T_x131 : tab.get F_x131 = some A_x131 := rfl
theorem T_x87 : tab.get F_x87 = some A_x87 := rfl
theorem T_x82 : tab.get F_x82 = some A_x82 := rfl
theorem T_x146 : tab.get F_x146 = some A_x146 := rfl
theorem T_x139 : tab.get F_x139 = some A_x139 := rfl
theorem T_x137 : tab.get F_x137 = some A_x137 := rfl
theorem T_x132 : tab.get F_x132 = some A_x132 := rfl
theorem T_x142 : tab.get F_x142 = some A_x142 := rfl
theorem T_x113 : tab.get F_x113 = some A_x113 := rfl
theorem T_x143 : tab.get F_x143 = some A_x143 := rfl
theorem T_x134 : tab.get F_x134 = some A_x134 := rfl
theorem T_x144 : tab.get F_x144 = some A_x144 := rfl

end Go.Proofs.YtdpfoenmopcolaaGreat
end

