/-
  Each function of the small code is the program's own function.
-/
import Derived.Test.YtdpfoenmopcolaaGreatProg
import Derived.Test.YtdpfoenmopcolaaGreatTabB
import Derived.KernelRfl

set_option linter.unusedVariables false
set_option linter.unusedSimpArgs false
set_option linter.unusedSectionVars false

section
set_option maxRecDepth 100000
namespace Go.Proofs.YtdpfoenmopcolaaGreat
open Go Km

def fns : List Nat := [3, 4, 5, 6, 7, 8, 9, 10, 11, 12, 13, 14, 15, 16, 17, 18, 19, 20, 21, 22, 23, 24, 25, 26, 27, 28, 29, 30, 31, 32, 34, 35, 36, 37, 39, 40, 41, 42, 43, 44, 45, 46, 50, 51, 52, 53, 54, 56, 57, 58, 60, 61, 62, 63, 64, 65, 66, 68, 69, 70, 71, 72, 73, 74, 76, 79, 80, 81, 82, 84, 86, 87, 88, 89, 90, 92, 97, 98, 100, 101, 102, 103, 104, 105, 106, 107, 108, 109, 115, 117, 118, 119, 120, 121, 122, 124, 126, 129, 132, 133, 142, 144, 145, 146, 147, 148, 149, 150, 152, 158, 160, 161, 163, 164, 165, 166, 167, 168, 170, 171, 172, 173, 174, 175, 178, 179, 183, 190, 196, 204, 205, 206, 207, 208, 209, 223, 224, 225, 226, 227, 230, 238, 239, 240, 241, 255, 263, 264, 265, 277, 33, 38, 47, 48, 55, 59, 67, 75, 77, 110, 111, 112, 123, 125, 134, 135, 136, 137, 138, 139, 140, 169, 191, 192, 193, 194, 195, 197, 198, 159, 157, 222, 229, 231]
def sg (i : Nat) : FuncId := fns.getD i 99999

def Tied (i : Nat) (a : AFunc) : Prop := ∃ fn, Tryz.prog.funcs[sg i]? = some fn ∧ mFunc Tryz.prog sg fn a = true

theorem t0 : Tied 0 A_x33 := ⟨Tryz.f3, Tryz.func3, by kernel_rfl⟩
theorem t1 : Tied 1 a1 := ⟨Tryz.f4, Tryz.func4, by kernel_rfl⟩
theorem t2 : Tied 2 A_x106 := ⟨Tryz.f5, Tryz.func5, by kernel_rfl⟩
theorem t3 : Tied 3 A_x16 := ⟨Tryz.f6, Tryz.func6, by kernel_rfl⟩
theorem t4 : Tied 4 A_x14 := ⟨Tryz.f7, Tryz.func7, by kernel_rfl⟩
theorem t5 : Tied 5 A_x35 := ⟨Tryz.f8, Tryz.func8, by kernel_rfl⟩
theorem t6 : Tied 6 A_x105 := ⟨Tryz.f9, Tryz.func9, by kernel_rfl⟩
theorem t7 : Tied 7 A_x36 := ⟨Tryz.f10, Tryz.func10, by kernel_rfl⟩
theorem t8 : Tied 8 A_x34 := ⟨Tryz.f11, Tryz.func11, by kernel_rfl⟩
theorem t9 : Tied 9 A_x10 := ⟨Tryz.f12, Tryz.func12, by kernel_rfl⟩
theorem t10 : Tied 10 A_x11 := ⟨Tryz.f13, Tryz.func13, by kernel_rfl⟩
theorem t11 : Tied 11 A_x6 := ⟨Tryz.f14, Tryz.func14, by kernel_rfl⟩
theorem t12 : Tied 12 A_x15 := ⟨Tryz.f15, Tryz.func15, by kernel_rfl⟩
theorem t13 : Tied 13 A_x7 := ⟨Tryz.f16, Tryz.func16, by kernel_rfl⟩
theorem t14 : Tied 14 A_x12 := ⟨Tryz.f17, Tryz.func17, by kernel_rfl⟩
theorem t15 : Tied 15 A_x9 := ⟨Tryz.f18, Tryz.func18, by kernel_rfl⟩
theorem t16 : Tied 16 A_x109 := ⟨Tryz.f19, Tryz.func19, by kernel_rfl⟩
theorem t17 : Tied 17 A_x103 := ⟨Tryz.f20, Tryz.func20, by kernel_rfl⟩
theorem t18 : Tied 18 A_x107 := ⟨Tryz.f21, Tryz.func21, by kernel_rfl⟩
theorem t19 : Tied 19 A_x104 := ⟨Tryz.f22, Tryz.func22, by kernel_rfl⟩
theorem t20 : Tied 20 A_x21 := ⟨Tryz.f23, Tryz.func23, by kernel_rfl⟩
theorem t21 : Tied 21 A_x53 := ⟨Tryz.f24, Tryz.func24, by kernel_rfl⟩
theorem t22 : Tied 22 A_x27 := ⟨Tryz.f25, Tryz.func25, by kernel_rfl⟩
theorem t23 : Tied 23 A_x30 := ⟨Tryz.f26, Tryz.func26, by kernel_rfl⟩
theorem t24 : Tied 24 a24 := ⟨Tryz.f27, Tryz.func27, by kernel_rfl⟩
theorem t25 : Tied 25 A_x49 := ⟨Tryz.f28, Tryz.func28, by kernel_rfl⟩
theorem t26 : Tied 26 A_x51 := ⟨Tryz.f29, Tryz.func29, by kernel_rfl⟩
theorem t27 : Tied 27 A_x25 := ⟨Tryz.f30, Tryz.func30, by kernel_rfl⟩
theorem t28 : Tied 28 A_x24 := ⟨Tryz.f31, Tryz.func31, by kernel_rfl⟩
theorem t29 : Tied 29 A_x48 := ⟨Tryz.f32, Tryz.func32, by kernel_rfl⟩
theorem t30 : Tied 30 A_x26 := ⟨Tryz.f34, Tryz.func34, by kernel_rfl⟩
theorem t31 : Tied 31 A_x108 := ⟨Tryz.f35, Tryz.func35, by kernel_rfl⟩
theorem t32 : Tied 32 a32 := ⟨Tryz.f36, Tryz.func36, by kernel_rfl⟩
theorem t33 : Tied 33 a33 := ⟨Tryz.f37, Tryz.func37, by kernel_rfl⟩
theorem t34 : Tied 34 A_x127 := ⟨Tryz.f39, Tryz.func39, by kernel_rfl⟩
theorem t35 : Tied 35 A_x114 := ⟨Tryz.f40, Tryz.func40, by kernel_rfl⟩
theorem t36 : Tied 36 a36 := ⟨Tryz.f41, Tryz.func41, by kernel_rfl⟩
theorem t37 : Tied 37 a37 := ⟨Tryz.f42, Tryz.func42, by kernel_rfl⟩
theorem t38 : Tied 38 a38 := ⟨Tryz.f43, Tryz.func43, by kernel_rfl⟩
theorem t39 : Tied 39 a39 := ⟨Tryz.f44, Tryz.func44, by kernel_rfl⟩
theorem t40 : Tied 40 a40 := ⟨Tryz.f45, Tryz.func45, by kernel_rfl⟩
theorem t41 : Tied 41 a41 := ⟨Tryz.f46, Tryz.func46, by kernel_rfl⟩
theorem t42 : Tied 42 a42 := ⟨Tryz.f50, Tryz.func50, by kernel_rfl⟩
theorem t43 : Tied 43 A_x4 := ⟨Tryz.f51, Tryz.func51, by kernel_rfl⟩
theorem t44 : Tied 44 A_x2 := ⟨Tryz.f52, Tryz.func52, by kernel_rfl⟩
theorem t45 : Tied 45 a45 := ⟨Tryz.f53, Tryz.func53, by kernel_rfl⟩
theorem t46 : Tied 46 a46 := ⟨Tryz.f54, Tryz.func54, by kernel_rfl⟩
theorem t47 : Tied 47 a47 := ⟨Tryz.f56, Tryz.func56, by kernel_rfl⟩
theorem t48 : Tied 48 a48 := ⟨Tryz.f57, Tryz.func57, by kernel_rfl⟩
theorem t49 : Tied 49 a49 := ⟨Tryz.f58, Tryz.func58, by kernel_rfl⟩
theorem t50 : Tied 50 A_x101 := ⟨Tryz.f60, Tryz.func60, by kernel_rfl⟩
theorem t51 : Tied 51 A_x119 := ⟨Tryz.f61, Tryz.func61, by kernel_rfl⟩
theorem t52 : Tied 52 A_x54 := ⟨Tryz.f62, Tryz.func62, by kernel_rfl⟩
theorem t53 : Tied 53 A_x85 := ⟨Tryz.f63, Tryz.func63, by kernel_rfl⟩
theorem t54 : Tied 54 a54 := ⟨Tryz.f64, Tryz.func64, by kernel_rfl⟩
theorem t55 : Tied 55 A_x64 := ⟨Tryz.f65, Tryz.func65, by kernel_rfl⟩
theorem t56 : Tied 56 A_x130 := ⟨Tryz.f66, Tryz.func66, by kernel_rfl⟩
theorem t57 : Tied 57 A_x80 := ⟨Tryz.f68, Tryz.func68, by kernel_rfl⟩
theorem t58 : Tied 58 A_x81 := ⟨Tryz.f69, Tryz.func69, by kernel_rfl⟩
theorem t59 : Tied 59 A_x138 := ⟨Tryz.f70, Tryz.func70, by kernel_rfl⟩
theorem t60 : Tied 60 A_x23 := ⟨Tryz.f71, Tryz.func71, by kernel_rfl⟩
theorem t61 : Tied 61 a61 := ⟨Tryz.f72, Tryz.func72, by kernel_rfl⟩
theorem t62 : Tied 62 a62 := ⟨Tryz.f73, Tryz.func73, by kernel_rfl⟩
theorem t63 : Tied 63 a63 := ⟨Tryz.f74, Tryz.func74, by kernel_rfl⟩
theorem t64 : Tied 64 a64 := ⟨Tryz.f76, Tryz.func76, by kernel_rfl⟩
theorem t65 : Tied 65 A_x129 := ⟨Tryz.f79, Tryz.func79, by kernel_rfl⟩
theorem t66 : Tied 66 a66 := ⟨Tryz.f80, Tryz.func80, by kernel_rfl⟩
theorem t67 : Tied 67 A_x135 := ⟨Tryz.f81, Tryz.func81, by kernel_rfl⟩
theorem t68 : Tied 68 a68 := ⟨Tryz.f82, Tryz.func82, by kernel_rfl⟩
theorem t69 : Tied 69 a69 := ⟨Tryz.f84, Tryz.func84, by kernel_rfl⟩
theorem t70 : Tied 70 a70 := ⟨Tryz.f86, Tryz.func86, by kernel_rfl⟩
theorem t71 : Tied 71 a71 := ⟨Tryz.f87, Tryz.func87, by kernel_rfl⟩
theorem t72 : Tied 72 a72 := ⟨Tryz.f88, Tryz.func88, by kernel_rfl⟩
theorem t73 : Tied 73 a73 := ⟨Tryz.f89, Tryz.func89, by kernel_rfl⟩
theorem t74 : Tied 74 a74 := ⟨Tryz.f90, Tryz.func90, by kernel_rfl⟩
theorem t75 : Tied 75 a75 := ⟨Tryz.f92, Tryz.func92, by kernel_rfl⟩
theorem t76 : Tied 76 A_x5 := ⟨Tryz.f97, Tryz.func97, by kernel_rfl⟩
theorem t77 : Tied 77 A_x71 := ⟨Tryz.f98, Tryz.func98, by kernel_rfl⟩
theorem t78 : Tied 78 a78 := ⟨Tryz.f100, Tryz.func100, by kernel_rfl⟩
theorem t79 : Tied 79 A_x102 := ⟨Tryz.f101, Tryz.func101, by kernel_rfl⟩
theorem t80 : Tied 80 A_x125 := ⟨Tryz.f102, Tryz.func102, by kernel_rfl⟩
theorem t81 : Tied 81 A_x99 := ⟨Tryz.f103, Tryz.func103, by kernel_rfl⟩
theorem t82 : Tied 82 a82 := ⟨Tryz.f104, Tryz.func104, by kernel_rfl⟩
theorem t83 : Tied 83 a83 := ⟨Tryz.f105, Tryz.func105, by kernel_rfl⟩
theorem t84 : Tied 84 a84 := ⟨Tryz.f106, Tryz.func106, by kernel_rfl⟩
theorem t85 : Tied 85 A_x141 := ⟨Tryz.f107, Tryz.func107, by kernel_rfl⟩
theorem t86 : Tied 86 a86 := ⟨Tryz.f108, Tryz.func108, by kernel_rfl⟩
theorem t87 : Tied 87 a87 := ⟨Tryz.f109, Tryz.func109, by kernel_rfl⟩
theorem t88 : Tied 88 A_x131 := ⟨Tryz.f115, Tryz.func115, by kernel_rfl⟩
theorem t89 : Tied 89 A_x87 := ⟨Tryz.f117, Tryz.func117, by kernel_rfl⟩
theorem t90 : Tied 90 A_x82 := ⟨Tryz.f118, Tryz.func118, by kernel_rfl⟩
theorem t91 : Tied 91 A_x146 := ⟨Tryz.f119, Tryz.func119, by kernel_rfl⟩
theorem t92 : Tied 92 A_x139 := ⟨Tryz.f120, Tryz.func120, by kernel_rfl⟩
theorem t93 : Tied 93 a93 := ⟨Tryz.f121, Tryz.func121, by kernel_rfl⟩
theorem t94 : Tied 94 a94 := ⟨Tryz.f122, Tryz.func122, by kernel_rfl⟩
theorem t95 : Tied 95 a95 := ⟨Tryz.f124, Tryz.func124, by kernel_rfl⟩
theorem t96 : Tied 96 a96 := ⟨Tryz.f126, Tryz.func126, by kernel_rfl⟩
theorem t97 : Tied 97 a97 := ⟨Tryz.f129, Tryz.func129, by kernel_rfl⟩
theorem t98 : Tied 98 A_x137 := ⟨Tryz.f132, Tryz.func132, by kernel_rfl⟩
theorem t99 : Tied 99 A_x132 := ⟨Tryz.f133, Tryz.func133, by kernel_rfl⟩
theorem t100 : Tied 100 a100 := ⟨Tryz.f142, Tryz.func142, by kernel_rfl⟩
theorem t101 : Tied 101 a101 := ⟨Tryz.f144, Tryz.func144, by kernel_rfl⟩
theorem t102 : Tied 102 a102 := ⟨Tryz.f145, Tryz.func145, by kernel_rfl⟩
theorem t103 : Tied 103 a103 := ⟨Tryz.f146, Tryz.func146, by kernel_rfl⟩
theorem t104 : Tied 104 a104 := ⟨Tryz.f147, Tryz.func147, by kernel_rfl⟩
theorem t105 : Tied 105 a105 := ⟨Tryz.f148, Tryz.func148, by kernel_rfl⟩
theorem t106 : Tied 106 a106 := ⟨Tryz.f149, Tryz.func149, by kernel_rfl⟩
theorem t107 : Tied 107 a107 := ⟨Tryz.f150, Tryz.func150, by kernel_rfl⟩
theorem t108 : Tied 108 a108 := ⟨Tryz.f152, Tryz.func152, by kernel_rfl⟩
theorem t109 : Tied 109 A_x142 := ⟨Tryz.f158, Tryz.func158, by kernel_rfl⟩
theorem t110 : Tied 110 a110 := ⟨Tryz.f160, Tryz.func160, by kernel_rfl⟩
theorem t111 : Tied 111 a111 := ⟨Tryz.f161, Tryz.func161, by kernel_rfl⟩
theorem t112 : Tied 112 A_x113 := ⟨Tryz.f163, Tryz.func163, by kernel_rfl⟩
theorem t113 : Tied 113 a113 := ⟨Tryz.f164, Tryz.func164, by kernel_rfl⟩
theorem t114 : Tied 114 a114 := ⟨Tryz.f165, Tryz.func165, by kernel_rfl⟩
theorem t115 : Tied 115 a115 := ⟨Tryz.f166, Tryz.func166, by kernel_rfl⟩
theorem t116 : Tied 116 A_x143 := ⟨Tryz.f167, Tryz.func167, by kernel_rfl⟩
theorem t117 : Tied 117 a117 := ⟨Tryz.f168, Tryz.func168, by kernel_rfl⟩
theorem t118 : Tied 118 a118 := ⟨Tryz.f170, Tryz.func170, by kernel_rfl⟩
theorem t119 : Tied 119 a119 := ⟨Tryz.f171, Tryz.func171, by kernel_rfl⟩
theorem t120 : Tied 120 a120 := ⟨Tryz.f172, Tryz.func172, by kernel_rfl⟩
theorem t121 : Tied 121 a121 := ⟨Tryz.f173, Tryz.func173, by kernel_rfl⟩
theorem t122 : Tied 122 a122 := ⟨Tryz.f174, Tryz.func174, by kernel_rfl⟩
theorem t123 : Tied 123 a123 := ⟨Tryz.f175, Tryz.func175, by kernel_rfl⟩
theorem t124 : Tied 124 a124 := ⟨Tryz.f178, Tryz.func178, by kernel_rfl⟩
theorem t125 : Tied 125 a125 := ⟨Tryz.f179, Tryz.func179, by kernel_rfl⟩
theorem t126 : Tied 126 a126 := ⟨Tryz.f183, Tryz.func183, by kernel_rfl⟩
theorem t127 : Tied 127 A_x134 := ⟨Tryz.f190, Tryz.func190, by kernel_rfl⟩
theorem t128 : Tied 128 a128 := ⟨Tryz.f196, Tryz.func196, by kernel_rfl⟩
theorem t129 : Tied 129 a129 := ⟨Tryz.f204, Tryz.func204, by kernel_rfl⟩
theorem t130 : Tied 130 a130 := ⟨Tryz.f205, Tryz.func205, by kernel_rfl⟩
theorem t131 : Tied 131 a131 := ⟨Tryz.f206, Tryz.func206, by kernel_rfl⟩
theorem t132 : Tied 132 a132 := ⟨Tryz.f207, Tryz.func207, by kernel_rfl⟩
theorem t133 : Tied 133 a133 := ⟨Tryz.f208, Tryz.func208, by kernel_rfl⟩
theorem t134 : Tied 134 a134 := ⟨Tryz.f209, Tryz.func209, by kernel_rfl⟩
theorem t135 : Tied 135 a135 := ⟨Tryz.f223, Tryz.func223, by kernel_rfl⟩
theorem t136 : Tied 136 A_x144 := ⟨Tryz.f224, Tryz.func224, by kernel_rfl⟩
theorem t137 : Tied 137 a137 := ⟨Tryz.f225, Tryz.func225, by kernel_rfl⟩
theorem t138 : Tied 138 a138 := ⟨Tryz.f226, Tryz.func226, by kernel_rfl⟩
theorem t139 : Tied 139 a139 := ⟨Tryz.f227, Tryz.func227, by kernel_rfl⟩
theorem t140 : Tied 140 a140 := ⟨Tryz.f230, Tryz.func230, by kernel_rfl⟩
theorem t141 : Tied 141 a141 := ⟨Tryz.f238, Tryz.func238, by kernel_rfl⟩
theorem t142 : Tied 142 a142 := ⟨Tryz.f239, Tryz.func239, by kernel_rfl⟩
theorem t143 : Tied 143 a143 := ⟨Tryz.f240, Tryz.func240, by kernel_rfl⟩
theorem t144 : Tied 144 a144 := ⟨Tryz.f241, Tryz.func241, by kernel_rfl⟩
theorem t145 : Tied 145 a145 := ⟨Tryz.f255, Tryz.func255, by kernel_rfl⟩
theorem t146 : Tied 146 a146 := ⟨Tryz.f263, Tryz.func263, by kernel_rfl⟩
theorem t147 : Tied 147 a147 := ⟨Tryz.f264, Tryz.func264, by kernel_rfl⟩
theorem t148 : Tied 148 a148 := ⟨Tryz.f265, Tryz.func265, by kernel_rfl⟩
theorem t149 : Tied 149 a149 := ⟨Tryz.f277, Tryz.func277, by kernel_rfl⟩

theorem tied : ∀ i a, tab.get i = some a → Tied i a :=
  (all_n (all_n (all_n (all_n (all_n (all_n (all_n (all_n all_e t127 all_e) t63 all_e) t31 (all_n all_e t95 all_e)) t15 (all_n (all_n (all_n all_e t143 all_e) t79 all_e) t47 (all_n all_e t111 all_e))) t7 (all_n (all_n (all_n (all_n all_e t135 all_e) t71 all_e) t39 (all_n all_e t103 all_e)) t23 (all_n (all_n all_e t87 all_e) t55 (all_n all_e t119 all_e)))) t3 (all_n (all_n (all_n (all_n (all_n all_e t131 all_e) t67 all_e) t35 (all_n all_e t99 all_e)) t19 (all_n (all_n (all_n all_e t147 all_e) t83 all_e) t51 (all_n all_e t115 all_e))) t11 (all_n (all_n (all_n (all_n all_e t139 all_e) t75 all_e) t43 (all_n all_e t107 all_e)) t27 (all_n (all_n all_e t91 all_e) t59 (all_n all_e t123 all_e))))) t1 (all_n (all_n (all_n (all_n (all_n (all_n all_e t129 all_e) t65 all_e) t33 (all_n all_e t97 all_e)) t17 (all_n (all_n (all_n all_e t145 all_e) t81 all_e) t49 (all_n all_e t113 all_e))) t9 (all_n (all_n (all_n (all_n all_e t137 all_e) t73 all_e) t41 (all_n all_e t105 all_e)) t25 (all_n (all_n all_e t89 all_e) t57 (all_n all_e t121 all_e)))) t5 (all_n (all_n (all_n (all_n (all_n all_e t133 all_e) t69 all_e) t37 (all_n all_e t101 all_e)) t21 (all_n (all_n (all_n all_e t149 all_e) t85 all_e) t53 (all_n all_e t117 all_e))) t13 (all_n (all_n (all_n (all_n all_e t141 all_e) t77 all_e) t45 (all_n all_e t109 all_e)) t29 (all_n (all_n all_e t93 all_e) t61 (all_n all_e t125 all_e)))))) t0 (all_n (all_n (all_n (all_n (all_n (all_n (all_n all_e t128 all_e) t64 all_e) t32 (all_n all_e t96 all_e)) t16 (all_n (all_n (all_n all_e t144 all_e) t80 all_e) t48 (all_n all_e t112 all_e))) t8 (all_n (all_n (all_n (all_n all_e t136 all_e) t72 all_e) t40 (all_n all_e t104 all_e)) t24 (all_n (all_n all_e t88 all_e) t56 (all_n all_e t120 all_e)))) t4 (all_n (all_n (all_n (all_n (all_n all_e t132 all_e) t68 all_e) t36 (all_n all_e t100 all_e)) t20 (all_n (all_n (all_n all_e t148 all_e) t84 all_e) t52 (all_n all_e t116 all_e))) t12 (all_n (all_n (all_n (all_n all_e t140 all_e) t76 all_e) t44 (all_n all_e t108 all_e)) t28 (all_n (all_n all_e t92 all_e) t60 (all_n all_e t124 all_e))))) t2 (all_n (all_n (all_n (all_n (all_n (all_n all_e t130 all_e) t66 all_e) t34 (all_n all_e t98 all_e)) t18 (all_n (all_n (all_n all_e t146 all_e) t82 all_e) t50 (all_n all_e t114 all_e))) t10 (all_n (all_n (all_n (all_n all_e t138 all_e) t74 all_e) t42 (all_n all_e t106 all_e)) t26 (all_n (all_n all_e t90 all_e) t58 (all_n all_e t122 all_e)))) t6 (all_n (all_n (all_n (all_n (all_n all_e t134 all_e) t70 all_e) t38 (all_n all_e t102 all_e)) t22 (all_n (all_n all_e t86 all_e) t54 (all_n all_e t118 all_e))) t14 (all_n (all_n (all_n (all_n all_e t142 all_e) t78 all_e) t46 (all_n all_e t110 all_e)) t30 (all_n (all_n all_e t94 all_e) t62 (all_n all_e t126 all_e)))))))

theorem env : Env Tryz.prog sg tab.get noPrim :=
  ⟨by kernel_rfl, fun f af h => tied f af h, noPrim_ok _ _⟩

end Go.Proofs.YtdpfoenmopcolaaGreat
end

