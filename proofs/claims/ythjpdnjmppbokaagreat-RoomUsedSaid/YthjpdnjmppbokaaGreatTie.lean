/-
  Each function of the small code is the program's own function.
-/
import Derived.Test.YthjpdnjmppbokaaGreatProg
import Derived.Test.YthjpdnjmppbokaaGreatTabB
import Derived.KernelRfl

set_option linter.unusedVariables false
set_option linter.unusedSimpArgs false
set_option linter.unusedSectionVars false

section
set_option maxRecDepth 100000
namespace Go.Proofs.YthjpdnjmppbokaaGreat
open Go Km

def fns : List Nat := [3, 4, 5, 6, 7, 8, 9, 10, 11, 12, 13, 14, 15, 16, 17, 18, 19, 20, 21, 22, 23, 24, 25, 26, 27, 28, 29, 30, 31, 32, 33, 34, 35, 36, 37, 38, 39, 40, 41, 42, 43, 44, 45, 46, 47, 48, 49, 50, 51, 52, 53, 54, 55, 56, 57, 58, 59, 60, 61, 62, 63, 64, 65, 66, 67, 68, 69, 70, 71, 72, 73, 74, 75, 76, 77, 78, 79, 80, 81, 82, 83, 84, 85, 87, 89, 90, 91, 92, 93, 94, 95, 96, 97, 98, 99, 100, 101, 110, 111, 112, 113, 114, 115, 117, 118, 119, 120, 121, 123, 124, 125, 126, 127, 128, 129, 130, 131, 132, 133, 134, 135, 136, 137, 138, 139, 140, 141, 142, 148, 149, 150, 151, 152, 153, 154, 155, 156, 157, 158, 159, 160, 161, 162, 164, 167, 168, 169, 171, 172, 173, 174, 175, 176, 177, 178, 179, 180, 181, 182, 183, 184, 185, 186, 187, 189, 190, 191, 192, 193, 194, 195, 196, 197, 198, 203, 204, 206, 207, 209, 210, 211, 212, 213, 214, 215, 216, 217, 218, 225, 227, 228, 229, 230, 231, 232, 233, 235, 236, 237, 238, 241, 242, 243, 244, 245, 246, 247, 248, 249, 250, 251, 252, 253, 254, 255, 263, 264, 265, 266, 267, 269, 270, 271, 272, 274, 275, 276, 287, 296, 299, 300, 301, 302, 310, 325, 86, 102, 103, 104, 105, 106, 107, 108, 109, 200, 234, 262, 273, 295]
def sg (i : Nat) : FuncId := fns.getD i 99999

def Tied (i : Nat) (a : AFunc) : Prop := ∃ fn, Tryz.prog.funcs[sg i]? = some fn ∧ mFunc Tryz.prog sg fn a = true

theorem t0 : Tied 0 A_x22 := ⟨Tryz.f3, Tryz.func3, by kernel_rfl⟩
theorem t1 : Tied 1 a1 := ⟨Tryz.f4, Tryz.func4, by kernel_rfl⟩
theorem t2 : Tied 2 A_x122 := ⟨Tryz.f5, Tryz.func5, by kernel_rfl⟩
theorem t3 : Tied 3 A_x130 := ⟨Tryz.f6, Tryz.func6, by kernel_rfl⟩
theorem t4 : Tied 4 A_x8 := ⟨Tryz.f7, Tryz.func7, by kernel_rfl⟩
theorem t5 : Tied 5 a5 := ⟨Tryz.f8, Tryz.func8, by kernel_rfl⟩
theorem t6 : Tied 6 a6 := ⟨Tryz.f9, Tryz.func9, by kernel_rfl⟩
theorem t7 : Tied 7 a7 := ⟨Tryz.f10, Tryz.func10, by kernel_rfl⟩
theorem t8 : Tied 8 a8 := ⟨Tryz.f11, Tryz.func11, by kernel_rfl⟩
theorem t9 : Tied 9 a9 := ⟨Tryz.f12, Tryz.func12, by kernel_rfl⟩
theorem t10 : Tied 10 a10 := ⟨Tryz.f13, Tryz.func13, by kernel_rfl⟩
theorem t11 : Tied 11 a11 := ⟨Tryz.f14, Tryz.func14, by kernel_rfl⟩
theorem t12 : Tied 12 a12 := ⟨Tryz.f15, Tryz.func15, by kernel_rfl⟩
theorem t13 : Tied 13 a13 := ⟨Tryz.f16, Tryz.func16, by kernel_rfl⟩
theorem t14 : Tied 14 A_x121 := ⟨Tryz.f17, Tryz.func17, by kernel_rfl⟩
theorem t15 : Tied 15 A_x125 := ⟨Tryz.f18, Tryz.func18, by kernel_rfl⟩
theorem t16 : Tied 16 A_x124 := ⟨Tryz.f19, Tryz.func19, by kernel_rfl⟩
theorem t17 : Tied 17 A_x162 := ⟨Tryz.f20, Tryz.func20, by kernel_rfl⟩
theorem t18 : Tied 18 A_x181 := ⟨Tryz.f21, Tryz.func21, by kernel_rfl⟩
theorem t19 : Tied 19 A_x131 := ⟨Tryz.f22, Tryz.func22, by kernel_rfl⟩
theorem t20 : Tied 20 A_x10 := ⟨Tryz.f23, Tryz.func23, by kernel_rfl⟩
theorem t21 : Tied 21 A_x160 := ⟨Tryz.f24, Tryz.func24, by kernel_rfl⟩
theorem t22 : Tied 22 A_x151 := ⟨Tryz.f25, Tryz.func25, by kernel_rfl⟩
theorem t23 : Tied 23 A_x134 := ⟨Tryz.f26, Tryz.func26, by kernel_rfl⟩
theorem t24 : Tied 24 A_x13 := ⟨Tryz.f27, Tryz.func27, by kernel_rfl⟩
theorem t25 : Tied 25 A_x17 := ⟨Tryz.f28, Tryz.func28, by kernel_rfl⟩
theorem t26 : Tied 26 A_x12 := ⟨Tryz.f29, Tryz.func29, by kernel_rfl⟩
theorem t27 : Tied 27 A_x198 := ⟨Tryz.f30, Tryz.func30, by kernel_rfl⟩
theorem t28 : Tied 28 A_x18 := ⟨Tryz.f31, Tryz.func31, by kernel_rfl⟩
theorem t29 : Tied 29 A_x171 := ⟨Tryz.f32, Tryz.func32, by kernel_rfl⟩
theorem t30 : Tied 30 a30 := ⟨Tryz.f33, Tryz.func33, by kernel_rfl⟩
theorem t31 : Tied 31 a31 := ⟨Tryz.f34, Tryz.func34, by kernel_rfl⟩
theorem t32 : Tied 32 a32 := ⟨Tryz.f35, Tryz.func35, by kernel_rfl⟩
theorem t33 : Tied 33 a33 := ⟨Tryz.f36, Tryz.func36, by kernel_rfl⟩
theorem t34 : Tied 34 a34 := ⟨Tryz.f37, Tryz.func37, by kernel_rfl⟩
theorem t35 : Tied 35 a35 := ⟨Tryz.f38, Tryz.func38, by kernel_rfl⟩
theorem t36 : Tied 36 a36 := ⟨Tryz.f39, Tryz.func39, by kernel_rfl⟩
theorem t37 : Tied 37 a37 := ⟨Tryz.f40, Tryz.func40, by kernel_rfl⟩
theorem t38 : Tied 38 a38 := ⟨Tryz.f41, Tryz.func41, by kernel_rfl⟩
theorem t39 : Tied 39 a39 := ⟨Tryz.f42, Tryz.func42, by kernel_rfl⟩
theorem t40 : Tied 40 a40 := ⟨Tryz.f43, Tryz.func43, by kernel_rfl⟩
theorem t41 : Tied 41 a41 := ⟨Tryz.f44, Tryz.func44, by kernel_rfl⟩
theorem t42 : Tied 42 a42 := ⟨Tryz.f45, Tryz.func45, by kernel_rfl⟩
theorem t43 : Tied 43 a43 := ⟨Tryz.f46, Tryz.func46, by kernel_rfl⟩
theorem t44 : Tied 44 a44 := ⟨Tryz.f47, Tryz.func47, by kernel_rfl⟩
theorem t45 : Tied 45 a45 := ⟨Tryz.f48, Tryz.func48, by kernel_rfl⟩
theorem t46 : Tied 46 a46 := ⟨Tryz.f49, Tryz.func49, by kernel_rfl⟩
theorem t47 : Tied 47 A_x114 := ⟨Tryz.f50, Tryz.func50, by kernel_rfl⟩
theorem t48 : Tied 48 A_x117 := ⟨Tryz.f51, Tryz.func51, by kernel_rfl⟩
theorem t49 : Tied 49 A_x194 := ⟨Tryz.f52, Tryz.func52, by kernel_rfl⟩
theorem t50 : Tied 50 A_x16 := ⟨Tryz.f53, Tryz.func53, by kernel_rfl⟩
theorem t51 : Tied 51 A_x44 := ⟨Tryz.f54, Tryz.func54, by kernel_rfl⟩
theorem t52 : Tied 52 A_x65 := ⟨Tryz.f55, Tryz.func55, by kernel_rfl⟩
theorem t53 : Tied 53 A_x36 := ⟨Tryz.f56, Tryz.func56, by kernel_rfl⟩
theorem t54 : Tied 54 A_x149 := ⟨Tryz.f57, Tryz.func57, by kernel_rfl⟩
theorem t55 : Tied 55 A_x161 := ⟨Tryz.f58, Tryz.func58, by kernel_rfl⟩
theorem t56 : Tied 56 A_x153 := ⟨Tryz.f59, Tryz.func59, by kernel_rfl⟩
theorem t57 : Tied 57 A_x14 := ⟨Tryz.f60, Tryz.func60, by kernel_rfl⟩
theorem t58 : Tied 58 A_x15 := ⟨Tryz.f61, Tryz.func61, by kernel_rfl⟩
theorem t59 : Tied 59 A_x40 := ⟨Tryz.f62, Tryz.func62, by kernel_rfl⟩
theorem t60 : Tied 60 A_x21 := ⟨Tryz.f63, Tryz.func63, by kernel_rfl⟩
theorem t61 : Tied 61 A_x209 := ⟨Tryz.f64, Tryz.func64, by kernel_rfl⟩
theorem t62 : Tied 62 A_x28 := ⟨Tryz.f65, Tryz.func65, by kernel_rfl⟩
theorem t63 : Tied 63 A_x4 := ⟨Tryz.f66, Tryz.func66, by kernel_rfl⟩
theorem t64 : Tied 64 A_x2 := ⟨Tryz.f67, Tryz.func67, by kernel_rfl⟩
theorem t65 : Tied 65 a65 := ⟨Tryz.f68, Tryz.func68, by kernel_rfl⟩
theorem t66 : Tied 66 a66 := ⟨Tryz.f69, Tryz.func69, by kernel_rfl⟩
theorem t67 : Tied 67 a67 := ⟨Tryz.f70, Tryz.func70, by kernel_rfl⟩
theorem t68 : Tied 68 a68 := ⟨Tryz.f71, Tryz.func71, by kernel_rfl⟩
theorem t69 : Tied 69 a69 := ⟨Tryz.f72, Tryz.func72, by kernel_rfl⟩
theorem t70 : Tied 70 a70 := ⟨Tryz.f73, Tryz.func73, by kernel_rfl⟩
theorem t71 : Tied 71 a71 := ⟨Tryz.f74, Tryz.func74, by kernel_rfl⟩
theorem t72 : Tied 72 a72 := ⟨Tryz.f75, Tryz.func75, by kernel_rfl⟩
theorem t73 : Tied 73 a73 := ⟨Tryz.f76, Tryz.func76, by kernel_rfl⟩
theorem t74 : Tied 74 a74 := ⟨Tryz.f77, Tryz.func77, by kernel_rfl⟩
theorem t75 : Tied 75 a75 := ⟨Tryz.f78, Tryz.func78, by kernel_rfl⟩
theorem t76 : Tied 76 a76 := ⟨Tryz.f79, Tryz.func79, by kernel_rfl⟩
theorem t77 : Tied 77 a77 := ⟨Tryz.f80, Tryz.func80, by kernel_rfl⟩
theorem t78 : Tied 78 a78 := ⟨Tryz.f81, Tryz.func81, by kernel_rfl⟩
theorem t79 : Tied 79 a79 := ⟨Tryz.f82, Tryz.func82, by kernel_rfl⟩
theorem t80 : Tied 80 a80 := ⟨Tryz.f83, Tryz.func83, by kernel_rfl⟩
theorem t81 : Tied 81 a81 := ⟨Tryz.f84, Tryz.func84, by kernel_rfl⟩
theorem t82 : Tied 82 a82 := ⟨Tryz.f85, Tryz.func85, by kernel_rfl⟩
theorem t83 : Tied 83 a83 := ⟨Tryz.f87, Tryz.func87, by kernel_rfl⟩
theorem t84 : Tied 84 a84 := ⟨Tryz.f89, Tryz.func89, by kernel_rfl⟩
theorem t85 : Tied 85 a85 := ⟨Tryz.f90, Tryz.func90, by kernel_rfl⟩
theorem t86 : Tied 86 A_x115 := ⟨Tryz.f91, Tryz.func91, by kernel_rfl⟩
theorem t87 : Tied 87 A_x118 := ⟨Tryz.f92, Tryz.func92, by kernel_rfl⟩
theorem t88 : Tied 88 A_x177 := ⟨Tryz.f93, Tryz.func93, by kernel_rfl⟩
theorem t89 : Tied 89 A_x45 := ⟨Tryz.f94, Tryz.func94, by kernel_rfl⟩
theorem t90 : Tied 90 A_x96 := ⟨Tryz.f95, Tryz.func95, by kernel_rfl⟩
theorem t91 : Tied 91 A_x178 := ⟨Tryz.f96, Tryz.func96, by kernel_rfl⟩
theorem t92 : Tied 92 A_x37 := ⟨Tryz.f97, Tryz.func97, by kernel_rfl⟩
theorem t93 : Tied 93 A_x50 := ⟨Tryz.f98, Tryz.func98, by kernel_rfl⟩
theorem t94 : Tied 94 A_x55 := ⟨Tryz.f99, Tryz.func99, by kernel_rfl⟩
theorem t95 : Tied 95 A_x202 := ⟨Tryz.f100, Tryz.func100, by kernel_rfl⟩
theorem t96 : Tied 96 A_x204 := ⟨Tryz.f101, Tryz.func101, by kernel_rfl⟩
theorem t97 : Tied 97 A_x29 := ⟨Tryz.f110, Tryz.func110, by kernel_rfl⟩
theorem t98 : Tied 98 A_x5 := ⟨Tryz.f111, Tryz.func111, by kernel_rfl⟩
theorem t99 : Tied 99 a99 := ⟨Tryz.f112, Tryz.func112, by kernel_rfl⟩
theorem t100 : Tied 100 a100 := ⟨Tryz.f113, Tryz.func113, by kernel_rfl⟩
theorem t101 : Tied 101 a101 := ⟨Tryz.f114, Tryz.func114, by kernel_rfl⟩
theorem t102 : Tied 102 a102 := ⟨Tryz.f115, Tryz.func115, by kernel_rfl⟩
theorem t103 : Tied 103 a103 := ⟨Tryz.f117, Tryz.func117, by kernel_rfl⟩
theorem t104 : Tied 104 a104 := ⟨Tryz.f118, Tryz.func118, by kernel_rfl⟩
theorem t105 : Tied 105 a105 := ⟨Tryz.f119, Tryz.func119, by kernel_rfl⟩
theorem t106 : Tied 106 a106 := ⟨Tryz.f120, Tryz.func120, by kernel_rfl⟩
theorem t107 : Tied 107 a107 := ⟨Tryz.f121, Tryz.func121, by kernel_rfl⟩
theorem t108 : Tied 108 a108 := ⟨Tryz.f123, Tryz.func123, by kernel_rfl⟩
theorem t109 : Tied 109 a109 := ⟨Tryz.f124, Tryz.func124, by kernel_rfl⟩
theorem t110 : Tied 110 a110 := ⟨Tryz.f125, Tryz.func125, by kernel_rfl⟩
theorem t111 : Tied 111 a111 := ⟨Tryz.f126, Tryz.func126, by kernel_rfl⟩
theorem t112 : Tied 112 a112 := ⟨Tryz.f127, Tryz.func127, by kernel_rfl⟩
theorem t113 : Tied 113 a113 := ⟨Tryz.f128, Tryz.func128, by kernel_rfl⟩
theorem t114 : Tied 114 a114 := ⟨Tryz.f129, Tryz.func129, by kernel_rfl⟩
theorem t115 : Tied 115 a115 := ⟨Tryz.f130, Tryz.func130, by kernel_rfl⟩
theorem t116 : Tied 116 a116 := ⟨Tryz.f131, Tryz.func131, by kernel_rfl⟩
theorem t117 : Tied 117 a117 := ⟨Tryz.f132, Tryz.func132, by kernel_rfl⟩
theorem t118 : Tied 118 A_x116 := ⟨Tryz.f133, Tryz.func133, by kernel_rfl⟩
theorem t119 : Tied 119 A_x190 := ⟨Tryz.f134, Tryz.func134, by kernel_rfl⟩
theorem t120 : Tied 120 A_x111 := ⟨Tryz.f135, Tryz.func135, by kernel_rfl⟩
theorem t121 : Tied 121 A_x191 := ⟨Tryz.f136, Tryz.func136, by kernel_rfl⟩
theorem t122 : Tied 122 A_x51 := ⟨Tryz.f137, Tryz.func137, by kernel_rfl⟩
theorem t123 : Tied 123 A_x92 := ⟨Tryz.f138, Tryz.func138, by kernel_rfl⟩
theorem t124 : Tied 124 A_x49 := ⟨Tryz.f139, Tryz.func139, by kernel_rfl⟩
theorem t125 : Tied 125 A_x60 := ⟨Tryz.f140, Tryz.func140, by kernel_rfl⟩
theorem t126 : Tied 126 A_x53 := ⟨Tryz.f141, Tryz.func141, by kernel_rfl⟩
theorem t127 : Tied 127 A_x203 := ⟨Tryz.f142, Tryz.func142, by kernel_rfl⟩
theorem t128 : Tied 128 a128 := ⟨Tryz.f148, Tryz.func148, by kernel_rfl⟩
theorem t129 : Tied 129 a129 := ⟨Tryz.f149, Tryz.func149, by kernel_rfl⟩
theorem t130 : Tied 130 a130 := ⟨Tryz.f150, Tryz.func150, by kernel_rfl⟩
theorem t131 : Tied 131 a131 := ⟨Tryz.f151, Tryz.func151, by kernel_rfl⟩
theorem t132 : Tied 132 a132 := ⟨Tryz.f152, Tryz.func152, by kernel_rfl⟩
theorem t133 : Tied 133 a133 := ⟨Tryz.f153, Tryz.func153, by kernel_rfl⟩
theorem t134 : Tied 134 a134 := ⟨Tryz.f154, Tryz.func154, by kernel_rfl⟩
theorem t135 : Tied 135 a135 := ⟨Tryz.f155, Tryz.func155, by kernel_rfl⟩
theorem t136 : Tied 136 a136 := ⟨Tryz.f156, Tryz.func156, by kernel_rfl⟩
theorem t137 : Tied 137 a137 := ⟨Tryz.f157, Tryz.func157, by kernel_rfl⟩
theorem t138 : Tied 138 a138 := ⟨Tryz.f158, Tryz.func158, by kernel_rfl⟩
theorem t139 : Tied 139 a139 := ⟨Tryz.f159, Tryz.func159, by kernel_rfl⟩
theorem t140 : Tied 140 a140 := ⟨Tryz.f160, Tryz.func160, by kernel_rfl⟩
theorem t141 : Tied 141 a141 := ⟨Tryz.f161, Tryz.func161, by kernel_rfl⟩
theorem t142 : Tied 142 a142 := ⟨Tryz.f162, Tryz.func162, by kernel_rfl⟩
theorem t143 : Tied 143 A_x166 := ⟨Tryz.f164, Tryz.func164, by kernel_rfl⟩
theorem t144 : Tied 144 a144 := ⟨Tryz.f167, Tryz.func167, by kernel_rfl⟩
theorem t145 : Tied 145 a145 := ⟨Tryz.f168, Tryz.func168, by kernel_rfl⟩
theorem t146 : Tied 146 a146 := ⟨Tryz.f169, Tryz.func169, by kernel_rfl⟩
theorem t147 : Tied 147 a147 := ⟨Tryz.f171, Tryz.func171, by kernel_rfl⟩
theorem t148 : Tied 148 a148 := ⟨Tryz.f172, Tryz.func172, by kernel_rfl⟩
theorem t149 : Tied 149 a149 := ⟨Tryz.f173, Tryz.func173, by kernel_rfl⟩
theorem t150 : Tied 150 a150 := ⟨Tryz.f174, Tryz.func174, by kernel_rfl⟩
theorem t151 : Tied 151 a151 := ⟨Tryz.f175, Tryz.func175, by kernel_rfl⟩
theorem t152 : Tied 152 a152 := ⟨Tryz.f176, Tryz.func176, by kernel_rfl⟩
theorem t153 : Tied 153 a153 := ⟨Tryz.f177, Tryz.func177, by kernel_rfl⟩
theorem t154 : Tied 154 a154 := ⟨Tryz.f178, Tryz.func178, by kernel_rfl⟩
theorem t155 : Tied 155 a155 := ⟨Tryz.f179, Tryz.func179, by kernel_rfl⟩
theorem t156 : Tied 156 a156 := ⟨Tryz.f180, Tryz.func180, by kernel_rfl⟩
theorem t157 : Tied 157 a157 := ⟨Tryz.f181, Tryz.func181, by kernel_rfl⟩
theorem t158 : Tied 158 A_x102 := ⟨Tryz.f182, Tryz.func182, by kernel_rfl⟩
theorem t159 : Tied 159 A_x61 := ⟨Tryz.f183, Tryz.func183, by kernel_rfl⟩
theorem t160 : Tied 160 A_x62 := ⟨Tryz.f184, Tryz.func184, by kernel_rfl⟩
theorem t161 : Tied 161 A_x63 := ⟨Tryz.f185, Tryz.func185, by kernel_rfl⟩
theorem t162 : Tied 162 A_x54 := ⟨Tryz.f186, Tryz.func186, by kernel_rfl⟩
theorem t163 : Tied 163 a163 := ⟨Tryz.f187, Tryz.func187, by kernel_rfl⟩
theorem t164 : Tied 164 a164 := ⟨Tryz.f189, Tryz.func189, by kernel_rfl⟩
theorem t165 : Tied 165 a165 := ⟨Tryz.f190, Tryz.func190, by kernel_rfl⟩
theorem t166 : Tied 166 a166 := ⟨Tryz.f191, Tryz.func191, by kernel_rfl⟩
theorem t167 : Tied 167 a167 := ⟨Tryz.f192, Tryz.func192, by kernel_rfl⟩
theorem t168 : Tied 168 a168 := ⟨Tryz.f193, Tryz.func193, by kernel_rfl⟩
theorem t169 : Tied 169 a169 := ⟨Tryz.f194, Tryz.func194, by kernel_rfl⟩
theorem t170 : Tied 170 a170 := ⟨Tryz.f195, Tryz.func195, by kernel_rfl⟩
theorem t171 : Tied 171 a171 := ⟨Tryz.f196, Tryz.func196, by kernel_rfl⟩
theorem t172 : Tied 172 a172 := ⟨Tryz.f197, Tryz.func197, by kernel_rfl⟩
theorem t173 : Tied 173 a173 := ⟨Tryz.f198, Tryz.func198, by kernel_rfl⟩
theorem t174 : Tied 174 a174 := ⟨Tryz.f203, Tryz.func203, by kernel_rfl⟩
theorem t175 : Tied 175 a175 := ⟨Tryz.f204, Tryz.func204, by kernel_rfl⟩
theorem t176 : Tied 176 A_x3 := ⟨Tryz.f206, Tryz.func206, by kernel_rfl⟩
theorem t177 : Tied 177 A_x208 := ⟨Tryz.f207, Tryz.func207, by kernel_rfl⟩
theorem t178 : Tied 178 a178 := ⟨Tryz.f209, Tryz.func209, by kernel_rfl⟩
theorem t179 : Tied 179 a179 := ⟨Tryz.f210, Tryz.func210, by kernel_rfl⟩
theorem t180 : Tied 180 a180 := ⟨Tryz.f211, Tryz.func211, by kernel_rfl⟩
theorem t181 : Tied 181 a181 := ⟨Tryz.f212, Tryz.func212, by kernel_rfl⟩
theorem t182 : Tied 182 a182 := ⟨Tryz.f213, Tryz.func213, by kernel_rfl⟩
theorem t183 : Tied 183 a183 := ⟨Tryz.f214, Tryz.func214, by kernel_rfl⟩
theorem t184 : Tied 184 a184 := ⟨Tryz.f215, Tryz.func215, by kernel_rfl⟩
theorem t185 : Tied 185 a185 := ⟨Tryz.f216, Tryz.func216, by kernel_rfl⟩
theorem t186 : Tied 186 a186 := ⟨Tryz.f217, Tryz.func217, by kernel_rfl⟩
theorem t187 : Tied 187 a187 := ⟨Tryz.f218, Tryz.func218, by kernel_rfl⟩
theorem t188 : Tied 188 a188 := ⟨Tryz.f225, Tryz.func225, by kernel_rfl⟩
theorem t189 : Tied 189 a189 := ⟨Tryz.f227, Tryz.func227, by kernel_rfl⟩
theorem t190 : Tied 190 a190 := ⟨Tryz.f228, Tryz.func228, by kernel_rfl⟩
theorem t191 : Tied 191 a191 := ⟨Tryz.f229, Tryz.func229, by kernel_rfl⟩
theorem t192 : Tied 192 a192 := ⟨Tryz.f230, Tryz.func230, by kernel_rfl⟩
theorem t193 : Tied 193 a193 := ⟨Tryz.f231, Tryz.func231, by kernel_rfl⟩
theorem t194 : Tied 194 a194 := ⟨Tryz.f232, Tryz.func232, by kernel_rfl⟩
theorem t195 : Tied 195 a195 := ⟨Tryz.f233, Tryz.func233, by kernel_rfl⟩
theorem t196 : Tied 196 a196 := ⟨Tryz.f235, Tryz.func235, by kernel_rfl⟩
theorem t197 : Tied 197 a197 := ⟨Tryz.f236, Tryz.func236, by kernel_rfl⟩
theorem t198 : Tied 198 a198 := ⟨Tryz.f237, Tryz.func237, by kernel_rfl⟩
theorem t199 : Tied 199 a199 := ⟨Tryz.f238, Tryz.func238, by kernel_rfl⟩
theorem t200 : Tied 200 a200 := ⟨Tryz.f241, Tryz.func241, by kernel_rfl⟩
theorem t201 : Tied 201 a201 := ⟨Tryz.f242, Tryz.func242, by kernel_rfl⟩
theorem t202 : Tied 202 a202 := ⟨Tryz.f243, Tryz.func243, by kernel_rfl⟩
theorem t203 : Tied 203 a203 := ⟨Tryz.f244, Tryz.func244, by kernel_rfl⟩
theorem t204 : Tied 204 a204 := ⟨Tryz.f245, Tryz.func245, by kernel_rfl⟩
theorem t205 : Tied 205 a205 := ⟨Tryz.f246, Tryz.func246, by kernel_rfl⟩
theorem t206 : Tied 206 a206 := ⟨Tryz.f247, Tryz.func247, by kernel_rfl⟩
theorem t207 : Tied 207 a207 := ⟨Tryz.f248, Tryz.func248, by kernel_rfl⟩
theorem t208 : Tied 208 a208 := ⟨Tryz.f249, Tryz.func249, by kernel_rfl⟩
theorem t209 : Tied 209 a209 := ⟨Tryz.f250, Tryz.func250, by kernel_rfl⟩
theorem t210 : Tied 210 a210 := ⟨Tryz.f251, Tryz.func251, by kernel_rfl⟩
theorem t211 : Tied 211 a211 := ⟨Tryz.f252, Tryz.func252, by kernel_rfl⟩
theorem t212 : Tied 212 a212 := ⟨Tryz.f253, Tryz.func253, by kernel_rfl⟩
theorem t213 : Tied 213 a213 := ⟨Tryz.f254, Tryz.func254, by kernel_rfl⟩
theorem t214 : Tied 214 a214 := ⟨Tryz.f255, Tryz.func255, by kernel_rfl⟩
theorem t215 : Tied 215 a215 := ⟨Tryz.f263, Tryz.func263, by kernel_rfl⟩
theorem t216 : Tied 216 a216 := ⟨Tryz.f264, Tryz.func264, by kernel_rfl⟩
theorem t217 : Tied 217 a217 := ⟨Tryz.f265, Tryz.func265, by kernel_rfl⟩
theorem t218 : Tied 218 a218 := ⟨Tryz.f266, Tryz.func266, by kernel_rfl⟩
theorem t219 : Tied 219 a219 := ⟨Tryz.f267, Tryz.func267, by kernel_rfl⟩
theorem t220 : Tied 220 a220 := ⟨Tryz.f269, Tryz.func269, by kernel_rfl⟩
theorem t221 : Tied 221 a221 := ⟨Tryz.f270, Tryz.func270, by kernel_rfl⟩
theorem t222 : Tied 222 a222 := ⟨Tryz.f271, Tryz.func271, by kernel_rfl⟩
theorem t223 : Tied 223 a223 := ⟨Tryz.f272, Tryz.func272, by kernel_rfl⟩
theorem t224 : Tied 224 a224 := ⟨Tryz.f274, Tryz.func274, by kernel_rfl⟩
theorem t225 : Tied 225 a225 := ⟨Tryz.f275, Tryz.func275, by kernel_rfl⟩
theorem t226 : Tied 226 a226 := ⟨Tryz.f276, Tryz.func276, by kernel_rfl⟩
theorem t227 : Tied 227 a227 := ⟨Tryz.f287, Tryz.func287, by kernel_rfl⟩
theorem t228 : Tied 228 a228 := ⟨Tryz.f296, Tryz.func296, by kernel_rfl⟩
theorem t229 : Tied 229 a229 := ⟨Tryz.f299, Tryz.func299, by kernel_rfl⟩
theorem t230 : Tied 230 a230 := ⟨Tryz.f300, Tryz.func300, by kernel_rfl⟩
theorem t231 : Tied 231 a231 := ⟨Tryz.f301, Tryz.func301, by kernel_rfl⟩
theorem t232 : Tied 232 a232 := ⟨Tryz.f302, Tryz.func302, by kernel_rfl⟩
theorem t233 : Tied 233 a233 := ⟨Tryz.f310, Tryz.func310, by kernel_rfl⟩
theorem t234 : Tied 234 a234 := ⟨Tryz.f325, Tryz.func325, by kernel_rfl⟩

theorem tied : ∀ i a, tab.get i = some a → Tied i a :=
  (all_n (all_n (all_n (all_n (all_n (all_n (all_n (all_n all_e t127 all_e) t63 (all_n all_e t191 all_e)) t31 (all_n (all_n all_e t159 all_e) t95 (all_n all_e t223 all_e))) t15 (all_n (all_n (all_n all_e t143 all_e) t79 (all_n all_e t207 all_e)) t47 (all_n (all_n all_e t175 all_e) t111 all_e))) t7 (all_n (all_n (all_n (all_n all_e t135 all_e) t71 (all_n all_e t199 all_e)) t39 (all_n (all_n all_e t167 all_e) t103 (all_n all_e t231 all_e))) t23 (all_n (all_n (all_n all_e t151 all_e) t87 (all_n all_e t215 all_e)) t55 (all_n (all_n all_e t183 all_e) t119 all_e)))) t3 (all_n (all_n (all_n (all_n (all_n all_e t131 all_e) t67 (all_n all_e t195 all_e)) t35 (all_n (all_n all_e t163 all_e) t99 (all_n all_e t227 all_e))) t19 (all_n (all_n (all_n all_e t147 all_e) t83 (all_n all_e t211 all_e)) t51 (all_n (all_n all_e t179 all_e) t115 all_e))) t11 (all_n (all_n (all_n (all_n all_e t139 all_e) t75 (all_n all_e t203 all_e)) t43 (all_n (all_n all_e t171 all_e) t107 all_e)) t27 (all_n (all_n (all_n all_e t155 all_e) t91 (all_n all_e t219 all_e)) t59 (all_n (all_n all_e t187 all_e) t123 all_e))))) t1 (all_n (all_n (all_n (all_n (all_n (all_n all_e t129 all_e) t65 (all_n all_e t193 all_e)) t33 (all_n (all_n all_e t161 all_e) t97 (all_n all_e t225 all_e))) t17 (all_n (all_n (all_n all_e t145 all_e) t81 (all_n all_e t209 all_e)) t49 (all_n (all_n all_e t177 all_e) t113 all_e))) t9 (all_n (all_n (all_n (all_n all_e t137 all_e) t73 (all_n all_e t201 all_e)) t41 (all_n (all_n all_e t169 all_e) t105 (all_n all_e t233 all_e))) t25 (all_n (all_n (all_n all_e t153 all_e) t89 (all_n all_e t217 all_e)) t57 (all_n (all_n all_e t185 all_e) t121 all_e)))) t5 (all_n (all_n (all_n (all_n (all_n all_e t133 all_e) t69 (all_n all_e t197 all_e)) t37 (all_n (all_n all_e t165 all_e) t101 (all_n all_e t229 all_e))) t21 (all_n (all_n (all_n all_e t149 all_e) t85 (all_n all_e t213 all_e)) t53 (all_n (all_n all_e t181 all_e) t117 all_e))) t13 (all_n (all_n (all_n (all_n all_e t141 all_e) t77 (all_n all_e t205 all_e)) t45 (all_n (all_n all_e t173 all_e) t109 all_e)) t29 (all_n (all_n (all_n all_e t157 all_e) t93 (all_n all_e t221 all_e)) t61 (all_n (all_n all_e t189 all_e) t125 all_e)))))) t0 (all_n (all_n (all_n (all_n (all_n (all_n (all_n all_e t128 all_e) t64 (all_n all_e t192 all_e)) t32 (all_n (all_n all_e t160 all_e) t96 (all_n all_e t224 all_e))) t16 (all_n (all_n (all_n all_e t144 all_e) t80 (all_n all_e t208 all_e)) t48 (all_n (all_n all_e t176 all_e) t112 all_e))) t8 (all_n (all_n (all_n (all_n all_e t136 all_e) t72 (all_n all_e t200 all_e)) t40 (all_n (all_n all_e t168 all_e) t104 (all_n all_e t232 all_e))) t24 (all_n (all_n (all_n all_e t152 all_e) t88 (all_n all_e t216 all_e)) t56 (all_n (all_n all_e t184 all_e) t120 all_e)))) t4 (all_n (all_n (all_n (all_n (all_n all_e t132 all_e) t68 (all_n all_e t196 all_e)) t36 (all_n (all_n all_e t164 all_e) t100 (all_n all_e t228 all_e))) t20 (all_n (all_n (all_n all_e t148 all_e) t84 (all_n all_e t212 all_e)) t52 (all_n (all_n all_e t180 all_e) t116 all_e))) t12 (all_n (all_n (all_n (all_n all_e t140 all_e) t76 (all_n all_e t204 all_e)) t44 (all_n (all_n all_e t172 all_e) t108 all_e)) t28 (all_n (all_n (all_n all_e t156 all_e) t92 (all_n all_e t220 all_e)) t60 (all_n (all_n all_e t188 all_e) t124 all_e))))) t2 (all_n (all_n (all_n (all_n (all_n (all_n all_e t130 all_e) t66 (all_n all_e t194 all_e)) t34 (all_n (all_n all_e t162 all_e) t98 (all_n all_e t226 all_e))) t18 (all_n (all_n (all_n all_e t146 all_e) t82 (all_n all_e t210 all_e)) t50 (all_n (all_n all_e t178 all_e) t114 all_e))) t10 (all_n (all_n (all_n (all_n all_e t138 all_e) t74 (all_n all_e t202 all_e)) t42 (all_n (all_n all_e t170 all_e) t106 (all_n all_e t234 all_e))) t26 (all_n (all_n (all_n all_e t154 all_e) t90 (all_n all_e t218 all_e)) t58 (all_n (all_n all_e t186 all_e) t122 all_e)))) t6 (all_n (all_n (all_n (all_n (all_n all_e t134 all_e) t70 (all_n all_e t198 all_e)) t38 (all_n (all_n all_e t166 all_e) t102 (all_n all_e t230 all_e))) t22 (all_n (all_n (all_n all_e t150 all_e) t86 (all_n all_e t214 all_e)) t54 (all_n (all_n all_e t182 all_e) t118 all_e))) t14 (all_n (all_n (all_n (all_n all_e t142 all_e) t78 (all_n all_e t206 all_e)) t46 (all_n (all_n all_e t174 all_e) t110 all_e)) t30 (all_n (all_n (all_n all_e t158 all_e) t94 (all_n all_e t222 all_e)) t62 (all_n (all_n all_e t190 all_e) t126 all_e)))))))

theorem env : Env Tryz.prog sg tab.get noPrim :=
  ⟨by kernel_rfl, fun f af h => tied f af h, noPrim_ok _ _⟩

end Go.Proofs.YthjpdnjmppbokaaGreat
end

