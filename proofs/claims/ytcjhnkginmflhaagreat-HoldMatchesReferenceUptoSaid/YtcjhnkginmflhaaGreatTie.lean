/-
  Each function of the small code is the program's own function.
-/
import Derived.Test.YtcjhnkginmflhaaGreatProg
import Derived.Test.YtcjhnkginmflhaaGreatTabB
import Derived.KernelRfl

set_option linter.unusedVariables false
set_option linter.unusedSimpArgs false
set_option linter.unusedSectionVars false

section
set_option maxRecDepth 100000
namespace Go.Proofs.YtcjhnkginmflhaaGreat
open Go Km

def fns : List Nat := [3, 4, 5, 6, 7, 8, 9, 10, 11, 12, 13, 14, 15, 16, 17, 18, 19, 20, 21, 22, 23, 24, 25, 26, 27, 28, 29, 30, 31, 32, 33, 34, 35, 36, 37, 38, 39, 40, 41, 42, 43, 44, 45, 46, 47, 48, 49, 50, 51, 52, 53, 54, 55, 56, 57, 58, 59, 60, 61, 62, 63, 64, 65, 68, 75, 76, 77, 78, 79, 80, 81, 82, 83, 84, 85, 86, 87, 88, 89, 90, 91, 92, 93, 94, 100, 101, 102, 123, 124, 125, 126, 127, 128, 129, 130, 132, 133, 134, 135, 138, 139, 140, 141, 142, 143, 144, 146, 147, 148, 151, 152, 192, 193, 194, 195, 196, 197, 198, 199, 200, 201, 202, 203, 204, 205, 206, 207, 208, 209, 210, 211, 212, 213, 214, 216, 217, 219, 226, 227, 228, 230, 232, 236, 258, 259, 260, 261, 262, 263, 264, 265, 266, 267, 268, 269, 270, 271, 272, 273, 278, 279, 280, 281, 282, 283, 284, 286, 291, 292, 293, 294, 295, 307, 328, 329, 330, 331, 332, 333, 334, 335, 336, 337, 338, 340, 341, 342, 343, 345, 346, 347, 348, 349, 351, 352, 353, 354, 355, 356, 357, 360, 361, 362, 382, 389, 391, 392, 393, 394, 395, 397, 399, 400, 402, 404, 405, 419, 428, 432, 433, 434, 435, 457, 69, 70, 71, 72, 73, 74, 103, 131, 104, 161, 162, 105, 215, 220, 222, 221, 145, 275, 287, 339, 403, 427]
def sg (i : Nat) : FuncId := fns.getD i 99999

def Tied (i : Nat) (a : AFunc) : Prop := ∃ fn, Tryz.prog.funcs[sg i]? = some fn ∧ JM Tryz.prog sg fn a = true

theorem t0 : Tied 0 al7 := ⟨Tryz.f3, Tryz.func3, by kernel_rfl⟩
theorem t1 : Tied 1 a1 := ⟨Tryz.f4, Tryz.func4, by kernel_rfl⟩
theorem t2 : Tied 2 al6 := ⟨Tryz.f5, Tryz.func5, by kernel_rfl⟩
theorem t3 : Tied 3 amn := ⟨Tryz.f6, Tryz.func6, by kernel_rfl⟩
theorem t4 : Tied 4 alL := ⟨Tryz.f7, Tryz.func7, by kernel_rfl⟩
theorem t5 : Tied 5 aFv := ⟨Tryz.f8, Tryz.func8, by kernel_rfl⟩
theorem t6 : Tied 6 alV := ⟨Tryz.f9, Tryz.func9, by kernel_rfl⟩
theorem t7 : Tied 7 aFs := ⟨Tryz.f10, Tryz.func10, by kernel_rfl⟩
theorem t8 : Tied 8 alR := ⟨Tryz.f11, Tryz.func11, by kernel_rfl⟩
theorem t9 : Tied 9 aFu := ⟨Tryz.f12, Tryz.func12, by kernel_rfl⟩
theorem t10 : Tied 10 alT := ⟨Tryz.f13, Tryz.func13, by kernel_rfl⟩
theorem t11 : Tied 11 aml := ⟨Tryz.f14, Tryz.func14, by kernel_rfl⟩
theorem t12 : Tied 12 alI := ⟨Tryz.f15, Tryz.func15, by kernel_rfl⟩
theorem t13 : Tied 13 alM := ⟨Tryz.f16, Tryz.func16, by kernel_rfl⟩
theorem t14 : Tied 14 aFt := ⟨Tryz.f17, Tryz.func17, by kernel_rfl⟩
theorem t15 : Tied 15 alS := ⟨Tryz.f18, Tryz.func18, by kernel_rfl⟩
theorem t16 : Tied 16 alP := ⟨Tryz.f19, Tryz.func19, by kernel_rfl⟩
theorem t17 : Tied 17 aFr := ⟨Tryz.f20, Tryz.func20, by kernel_rfl⟩
theorem t18 : Tied 18 alQ := ⟨Tryz.f21, Tryz.func21, by kernel_rfl⟩
theorem t19 : Tied 19 a19 := ⟨Tryz.f22, Tryz.func22, by kernel_rfl⟩
theorem t20 : Tied 20 a20 := ⟨Tryz.f23, Tryz.func23, by kernel_rfl⟩
theorem t21 : Tied 21 a21 := ⟨Tryz.f24, Tryz.func24, by kernel_rfl⟩
theorem t22 : Tied 22 amk := ⟨Tryz.f25, Tryz.func25, by kernel_rfl⟩
theorem t23 : Tied 23 amm := ⟨Tryz.f26, Tryz.func26, by kernel_rfl⟩
theorem t24 : Tied 24 amb := ⟨Tryz.f27, Tryz.func27, by kernel_rfl⟩
theorem t25 : Tied 25 alJ := ⟨Tryz.f28, Tryz.func28, by kernel_rfl⟩
theorem t26 : Tied 26 amd := ⟨Tryz.f29, Tryz.func29, by kernel_rfl⟩
theorem t27 : Tied 27 amg := ⟨Tryz.f30, Tryz.func30, by kernel_rfl⟩
theorem t28 : Tied 28 alq := ⟨Tryz.f31, Tryz.func31, by kernel_rfl⟩
theorem t29 : Tied 29 amj := ⟨Tryz.f32, Tryz.func32, by kernel_rfl⟩
theorem t30 : Tied 30 alm := ⟨Tryz.f33, Tryz.func33, by kernel_rfl⟩
theorem t31 : Tied 31 amc := ⟨Tryz.f34, Tryz.func34, by kernel_rfl⟩
theorem t32 : Tied 32 alC := ⟨Tryz.f35, Tryz.func35, by kernel_rfl⟩
theorem t33 : Tied 33 amh := ⟨Tryz.f36, Tryz.func36, by kernel_rfl⟩
theorem t34 : Tied 34 ami := ⟨Tryz.f37, Tryz.func37, by kernel_rfl⟩
theorem t35 : Tied 35 a35 := ⟨Tryz.f38, Tryz.func38, by kernel_rfl⟩
theorem t36 : Tied 36 alD := ⟨Tryz.f39, Tryz.func39, by kernel_rfl⟩
theorem t37 : Tied 37 alZ := ⟨Tryz.f40, Tryz.func40, by kernel_rfl⟩
theorem t38 : Tied 38 alK := ⟨Tryz.f41, Tryz.func41, by kernel_rfl⟩
theorem t39 : Tied 39 alG := ⟨Tryz.f42, Tryz.func42, by kernel_rfl⟩
theorem t40 : Tied 40 alN := ⟨Tryz.f43, Tryz.func43, by kernel_rfl⟩
theorem t41 : Tied 41 alH := ⟨Tryz.f44, Tryz.func44, by kernel_rfl⟩
theorem t42 : Tied 42 alF := ⟨Tryz.f45, Tryz.func45, by kernel_rfl⟩
theorem t43 : Tied 43 alO := ⟨Tryz.f46, Tryz.func46, by kernel_rfl⟩
theorem t44 : Tied 44 aFq := ⟨Tryz.f47, Tryz.func47, by kernel_rfl⟩
theorem t45 : Tied 45 alU := ⟨Tryz.f48, Tryz.func48, by kernel_rfl⟩
theorem t46 : Tied 46 ama := ⟨Tryz.f49, Tryz.func49, by kernel_rfl⟩
theorem t47 : Tied 47 alx := ⟨Tryz.f50, Tryz.func50, by kernel_rfl⟩
theorem t48 : Tied 48 amf := ⟨Tryz.f51, Tryz.func51, by kernel_rfl⟩
theorem t49 : Tied 49 aFy := ⟨Tryz.f52, Tryz.func52, by kernel_rfl⟩
theorem t50 : Tied 50 alo := ⟨Tryz.f53, Tryz.func53, by kernel_rfl⟩
theorem t51 : Tied 51 al9 := ⟨Tryz.f54, Tryz.func54, by kernel_rfl⟩
theorem t52 : Tied 52 ali := ⟨Tryz.f55, Tryz.func55, by kernel_rfl⟩
theorem t53 : Tied 53 aFx := ⟨Tryz.f56, Tryz.func56, by kernel_rfl⟩
theorem t54 : Tied 54 alB := ⟨Tryz.f57, Tryz.func57, by kernel_rfl⟩
theorem t55 : Tied 55 a55 := ⟨Tryz.f58, Tryz.func58, by kernel_rfl⟩
theorem t56 : Tied 56 a56 := ⟨Tryz.f59, Tryz.func59, by kernel_rfl⟩
theorem t57 : Tied 57 a57 := ⟨Tryz.f60, Tryz.func60, by kernel_rfl⟩
theorem t58 : Tied 58 a58 := ⟨Tryz.f61, Tryz.func61, by kernel_rfl⟩
theorem t59 : Tied 59 alu := ⟨Tryz.f62, Tryz.func62, by kernel_rfl⟩
theorem t60 : Tied 60 als := ⟨Tryz.f63, Tryz.func63, by kernel_rfl⟩
theorem t61 : Tied 61 alv := ⟨Tryz.f64, Tryz.func64, by kernel_rfl⟩
theorem t62 : Tied 62 alr := ⟨Tryz.f65, Tryz.func65, by kernel_rfl⟩
theorem t63 : Tied 63 alX := ⟨Tryz.f68, Tryz.func68, by kernel_rfl⟩
theorem t64 : Tied 64 al0 := ⟨Tryz.f75, Tryz.func75, by kernel_rfl⟩
theorem t65 : Tied 65 alE := ⟨Tryz.f76, Tryz.func76, by kernel_rfl⟩
theorem t66 : Tied 66 aFw := ⟨Tryz.f77, Tryz.func77, by kernel_rfl⟩
theorem t67 : Tied 67 al8 := ⟨Tryz.f78, Tryz.func78, by kernel_rfl⟩
theorem t68 : Tied 68 ame := ⟨Tryz.f79, Tryz.func79, by kernel_rfl⟩
theorem t69 : Tied 69 alp := ⟨Tryz.f80, Tryz.func80, by kernel_rfl⟩
theorem t70 : Tied 70 alk := ⟨Tryz.f81, Tryz.func81, by kernel_rfl⟩
theorem t71 : Tied 71 alg := ⟨Tryz.f82, Tryz.func82, by kernel_rfl⟩
theorem t72 : Tied 72 alA := ⟨Tryz.f83, Tryz.func83, by kernel_rfl⟩
theorem t73 : Tied 73 alz := ⟨Tryz.f84, Tryz.func84, by kernel_rfl⟩
theorem t74 : Tied 74 a74 := ⟨Tryz.f85, Tryz.func85, by kernel_rfl⟩
theorem t75 : Tied 75 a75 := ⟨Tryz.f86, Tryz.func86, by kernel_rfl⟩
theorem t76 : Tied 76 a76 := ⟨Tryz.f87, Tryz.func87, by kernel_rfl⟩
theorem t77 : Tied 77 a77 := ⟨Tryz.f88, Tryz.func88, by kernel_rfl⟩
theorem t78 : Tied 78 a78 := ⟨Tryz.f89, Tryz.func89, by kernel_rfl⟩
theorem t79 : Tied 79 a79 := ⟨Tryz.f90, Tryz.func90, by kernel_rfl⟩
theorem t80 : Tied 80 a80 := ⟨Tryz.f91, Tryz.func91, by kernel_rfl⟩
theorem t81 : Tied 81 a81 := ⟨Tryz.f92, Tryz.func92, by kernel_rfl⟩
theorem t82 : Tied 82 a82 := ⟨Tryz.f93, Tryz.func93, by kernel_rfl⟩
theorem t83 : Tied 83 a83 := ⟨Tryz.f94, Tryz.func94, by kernel_rfl⟩
theorem t84 : Tied 84 aBY := ⟨Tryz.f100, Tryz.func100, by kernel_rfl⟩
theorem t85 : Tied 85 alY := ⟨Tryz.f101, Tryz.func101, by kernel_rfl⟩
theorem t86 : Tied 86 alW := ⟨Tryz.f102, Tryz.func102, by kernel_rfl⟩
theorem t87 : Tied 87 al1 := ⟨Tryz.f123, Tryz.func123, by kernel_rfl⟩
theorem t88 : Tied 88 al4 := ⟨Tryz.f124, Tryz.func124, by kernel_rfl⟩
theorem t89 : Tied 89 aln := ⟨Tryz.f125, Tryz.func125, by kernel_rfl⟩
theorem t90 : Tied 90 alj := ⟨Tryz.f126, Tryz.func126, by kernel_rfl⟩
theorem t91 : Tied 91 aBX := ⟨Tryz.f127, Tryz.func127, by kernel_rfl⟩
theorem t92 : Tied 92 aly := ⟨Tryz.f128, Tryz.func128, by kernel_rfl⟩
theorem t93 : Tied 93 a93 := ⟨Tryz.f129, Tryz.func129, by kernel_rfl⟩
theorem t94 : Tied 94 a94 := ⟨Tryz.f130, Tryz.func130, by kernel_rfl⟩
theorem t95 : Tied 95 a95 := ⟨Tryz.f132, Tryz.func132, by kernel_rfl⟩
theorem t96 : Tied 96 a96 := ⟨Tryz.f133, Tryz.func133, by kernel_rfl⟩
theorem t97 : Tied 97 a97 := ⟨Tryz.f134, Tryz.func134, by kernel_rfl⟩
theorem t98 : Tied 98 a98 := ⟨Tryz.f135, Tryz.func135, by kernel_rfl⟩
theorem t99 : Tied 99 a99 := ⟨Tryz.f138, Tryz.func138, by kernel_rfl⟩
theorem aMH : Tied 100 aJf := ⟨Tryz.f139, Tryz.func139, by kernel_rfl⟩
theorem aMG : Tied 101 aJe := ⟨Tryz.f140, Tryz.func140, by kernel_rfl⟩
theorem aMF : Tied 102 aJd := ⟨Tryz.f141, Tryz.func141, by kernel_rfl⟩
theorem aME : Tied 103 aJc := ⟨Tryz.f142, Tryz.func142, by kernel_rfl⟩
theorem aMD : Tied 104 aJb := ⟨Tryz.f143, Tryz.func143, by kernel_rfl⟩
theorem t105 : Tied 105 a105 := ⟨Tryz.f144, Tryz.func144, by kernel_rfl⟩
theorem aMC : Tied 106 aJa := ⟨Tryz.f146, Tryz.func146, by kernel_rfl⟩
theorem t107 : Tied 107 a107 := ⟨Tryz.f147, Tryz.func147, by kernel_rfl⟩
theorem aMB : Tied 108 aI9 := ⟨Tryz.f148, Tryz.func148, by kernel_rfl⟩
theorem t109 : Tied 109 a109 := ⟨Tryz.f151, Tryz.func151, by kernel_rfl⟩
theorem aMA : Tied 110 aI8 := ⟨Tryz.f152, Tryz.func152, by kernel_rfl⟩
theorem aMz : Tied 111 al3 := ⟨Tryz.f192, Tryz.func192, by kernel_rfl⟩
theorem aMy : Tied 112 alh := ⟨Tryz.f193, Tryz.func193, by kernel_rfl⟩
theorem aMx : Tied 113 aI7 := ⟨Tryz.f194, Tryz.func194, by kernel_rfl⟩
theorem aMw : Tied 114 aBW := ⟨Tryz.f195, Tryz.func195, by kernel_rfl⟩
theorem aMv : Tied 115 aI6 := ⟨Tryz.f196, Tryz.func196, by kernel_rfl⟩
theorem t116 : Tied 116 a116 := ⟨Tryz.f197, Tryz.func197, by kernel_rfl⟩
theorem t117 : Tied 117 a117 := ⟨Tryz.f198, Tryz.func198, by kernel_rfl⟩
theorem aMu : Tied 118 aI5 := ⟨Tryz.f199, Tryz.func199, by kernel_rfl⟩
theorem t119 : Tied 119 a119 := ⟨Tryz.f200, Tryz.func200, by kernel_rfl⟩
theorem aMt : Tied 120 aI4 := ⟨Tryz.f201, Tryz.func201, by kernel_rfl⟩
theorem aMs : Tied 121 aI3 := ⟨Tryz.f202, Tryz.func202, by kernel_rfl⟩
theorem aMr : Tied 122 aI2 := ⟨Tryz.f203, Tryz.func203, by kernel_rfl⟩
theorem aMq : Tied 123 aI1 := ⟨Tryz.f204, Tryz.func204, by kernel_rfl⟩
theorem t124 : Tied 124 a124 := ⟨Tryz.f205, Tryz.func205, by kernel_rfl⟩
theorem aMp : Tied 125 aI0 := ⟨Tryz.f206, Tryz.func206, by kernel_rfl⟩
theorem aMo : Tied 126 aIZ := ⟨Tryz.f207, Tryz.func207, by kernel_rfl⟩
theorem t127 : Tied 127 a127 := ⟨Tryz.f208, Tryz.func208, by kernel_rfl⟩
theorem aMn : Tied 128 aIY := ⟨Tryz.f209, Tryz.func209, by kernel_rfl⟩
theorem aMm : Tied 129 aIX := ⟨Tryz.f210, Tryz.func210, by kernel_rfl⟩
theorem t130 : Tied 130 a130 := ⟨Tryz.f211, Tryz.func211, by kernel_rfl⟩
theorem t131 : Tied 131 a131 := ⟨Tryz.f212, Tryz.func212, by kernel_rfl⟩
theorem aMl : Tied 132 aIW := ⟨Tryz.f213, Tryz.func213, by kernel_rfl⟩
theorem aMk : Tied 133 aIV := ⟨Tryz.f214, Tryz.func214, by kernel_rfl⟩
theorem aMj : Tied 134 aIU := ⟨Tryz.f216, Tryz.func216, by kernel_rfl⟩
theorem aMi : Tied 135 aIT := ⟨Tryz.f217, Tryz.func217, by kernel_rfl⟩
theorem aMh : Tied 136 aIS := ⟨Tryz.f219, Tryz.func219, by kernel_rfl⟩
theorem aMg : Tied 137 aIR := ⟨Tryz.f226, Tryz.func226, by kernel_rfl⟩
theorem t138 : Tied 138 a138 := ⟨Tryz.f227, Tryz.func227, by kernel_rfl⟩
theorem t139 : Tied 139 a139 := ⟨Tryz.f228, Tryz.func228, by kernel_rfl⟩
theorem aMf : Tied 140 aIQ := ⟨Tryz.f230, Tryz.func230, by kernel_rfl⟩
theorem t141 : Tied 141 a141 := ⟨Tryz.f232, Tryz.func232, by kernel_rfl⟩
theorem aMe : Tied 142 aIP := ⟨Tryz.f236, Tryz.func236, by kernel_rfl⟩
theorem t143 : Tied 143 al5 := ⟨Tryz.f258, Tryz.func258, by kernel_rfl⟩
theorem aMd : Tied 144 aBV := ⟨Tryz.f259, Tryz.func259, by kernel_rfl⟩
theorem t145 : Tied 145 a145 := ⟨Tryz.f260, Tryz.func260, by kernel_rfl⟩
theorem t146 : Tied 146 a146 := ⟨Tryz.f261, Tryz.func261, by kernel_rfl⟩
theorem aMc : Tied 147 aIO := ⟨Tryz.f262, Tryz.func262, by kernel_rfl⟩
theorem t148 : Tied 148 a148 := ⟨Tryz.f263, Tryz.func263, by kernel_rfl⟩
theorem aMb : Tied 149 aIN := ⟨Tryz.f264, Tryz.func264, by kernel_rfl⟩
theorem aMa : Tied 150 aIM := ⟨Tryz.f265, Tryz.func265, by kernel_rfl⟩
theorem aL9 : Tied 151 aIL := ⟨Tryz.f266, Tryz.func266, by kernel_rfl⟩
theorem t152 : Tied 152 a152 := ⟨Tryz.f267, Tryz.func267, by kernel_rfl⟩
theorem aL8 : Tied 153 aIK := ⟨Tryz.f268, Tryz.func268, by kernel_rfl⟩
theorem t154 : Tied 154 a154 := ⟨Tryz.f269, Tryz.func269, by kernel_rfl⟩
theorem aL7 : Tied 155 aIJ := ⟨Tryz.f270, Tryz.func270, by kernel_rfl⟩
theorem t156 : Tied 156 a156 := ⟨Tryz.f271, Tryz.func271, by kernel_rfl⟩
theorem t157 : Tied 157 a157 := ⟨Tryz.f272, Tryz.func272, by kernel_rfl⟩
theorem aL6 : Tied 158 aII := ⟨Tryz.f273, Tryz.func273, by kernel_rfl⟩
theorem t159 : Tied 159 a159 := ⟨Tryz.f278, Tryz.func278, by kernel_rfl⟩
theorem t160 : Tied 160 a160 := ⟨Tryz.f279, Tryz.func279, by kernel_rfl⟩
theorem aL5 : Tied 161 aIH := ⟨Tryz.f280, Tryz.func280, by kernel_rfl⟩
theorem t162 : Tied 162 a162 := ⟨Tryz.f281, Tryz.func281, by kernel_rfl⟩
theorem aL4 : Tied 163 aIG := ⟨Tryz.f282, Tryz.func282, by kernel_rfl⟩
theorem t164 : Tied 164 a164 := ⟨Tryz.f283, Tryz.func283, by kernel_rfl⟩
theorem aL3 : Tied 165 aIF := ⟨Tryz.f284, Tryz.func284, by kernel_rfl⟩
theorem aL2 : Tied 166 aIE := ⟨Tryz.f286, Tryz.func286, by kernel_rfl⟩
theorem t167 : Tied 167 a167 := ⟨Tryz.f291, Tryz.func291, by kernel_rfl⟩
theorem t168 : Tied 168 a168 := ⟨Tryz.f292, Tryz.func292, by kernel_rfl⟩
theorem aL1 : Tied 169 aID := ⟨Tryz.f293, Tryz.func293, by kernel_rfl⟩
theorem aL0 : Tied 170 aIC := ⟨Tryz.f294, Tryz.func294, by kernel_rfl⟩
theorem t171 : Tied 171 a171 := ⟨Tryz.f295, Tryz.func295, by kernel_rfl⟩
theorem aLZ : Tied 172 aIB := ⟨Tryz.f307, Tryz.func307, by kernel_rfl⟩
theorem t173 : Tied 173 al2 := ⟨Tryz.f328, Tryz.func328, by kernel_rfl⟩
theorem aLY : Tied 174 aIA := ⟨Tryz.f329, Tryz.func329, by kernel_rfl⟩
theorem t175 : Tied 175 a175 := ⟨Tryz.f330, Tryz.func330, by kernel_rfl⟩
theorem aLX : Tied 176 aIz := ⟨Tryz.f331, Tryz.func331, by kernel_rfl⟩
theorem aLW : Tied 177 aIy := ⟨Tryz.f332, Tryz.func332, by kernel_rfl⟩
theorem aLV : Tied 178 aIx := ⟨Tryz.f333, Tryz.func333, by kernel_rfl⟩
theorem aLU : Tied 179 aIw := ⟨Tryz.f334, Tryz.func334, by kernel_rfl⟩
theorem aLT : Tied 180 aIv := ⟨Tryz.f335, Tryz.func335, by kernel_rfl⟩
theorem aLS : Tied 181 aIu := ⟨Tryz.f336, Tryz.func336, by kernel_rfl⟩
theorem t182 : Tied 182 a182 := ⟨Tryz.f337, Tryz.func337, by kernel_rfl⟩
theorem t183 : Tied 183 a183 := ⟨Tryz.f338, Tryz.func338, by kernel_rfl⟩
theorem aLR : Tied 184 aIt := ⟨Tryz.f340, Tryz.func340, by kernel_rfl⟩
theorem aLQ : Tied 185 aIs := ⟨Tryz.f341, Tryz.func341, by kernel_rfl⟩
theorem aLP : Tied 186 aIr := ⟨Tryz.f342, Tryz.func342, by kernel_rfl⟩
theorem aLO : Tied 187 aIq := ⟨Tryz.f343, Tryz.func343, by kernel_rfl⟩
theorem aLN : Tied 188 aIp := ⟨Tryz.f345, Tryz.func345, by kernel_rfl⟩
theorem aLM : Tied 189 aIo := ⟨Tryz.f346, Tryz.func346, by kernel_rfl⟩
theorem aLL : Tied 190 aIn := ⟨Tryz.f347, Tryz.func347, by kernel_rfl⟩
theorem aLK : Tied 191 aIm := ⟨Tryz.f348, Tryz.func348, by kernel_rfl⟩
theorem aLJ : Tied 192 aIl := ⟨Tryz.f349, Tryz.func349, by kernel_rfl⟩
theorem t193 : Tied 193 a193 := ⟨Tryz.f351, Tryz.func351, by kernel_rfl⟩
theorem t194 : Tied 194 a194 := ⟨Tryz.f352, Tryz.func352, by kernel_rfl⟩
theorem aLI : Tied 195 aIk := ⟨Tryz.f353, Tryz.func353, by kernel_rfl⟩
theorem t196 : Tied 196 a196 := ⟨Tryz.f354, Tryz.func354, by kernel_rfl⟩
theorem aLH : Tied 197 aIj := ⟨Tryz.f355, Tryz.func355, by kernel_rfl⟩
theorem t198 : Tied 198 a198 := ⟨Tryz.f356, Tryz.func356, by kernel_rfl⟩
theorem aLG : Tied 199 aIi := ⟨Tryz.f357, Tryz.func357, by kernel_rfl⟩
theorem aLF : Tied 200 aIh := ⟨Tryz.f360, Tryz.func360, by kernel_rfl⟩
theorem t201 : Tied 201 a201 := ⟨Tryz.f361, Tryz.func361, by kernel_rfl⟩
theorem aLE : Tied 202 aIg := ⟨Tryz.f362, Tryz.func362, by kernel_rfl⟩
theorem t203 : Tied 203 a203 := ⟨Tryz.f382, Tryz.func382, by kernel_rfl⟩
theorem aLD : Tied 204 aIf := ⟨Tryz.f389, Tryz.func389, by kernel_rfl⟩
theorem aLC : Tied 205 aIe := ⟨Tryz.f391, Tryz.func391, by kernel_rfl⟩
theorem t206 : Tied 206 a206 := ⟨Tryz.f392, Tryz.func392, by kernel_rfl⟩
theorem aLB : Tied 207 aId := ⟨Tryz.f393, Tryz.func393, by kernel_rfl⟩
theorem t208 : Tied 208 a208 := ⟨Tryz.f394, Tryz.func394, by kernel_rfl⟩
theorem aLA : Tied 209 aIc := ⟨Tryz.f395, Tryz.func395, by kernel_rfl⟩
theorem t210 : Tied 210 a210 := ⟨Tryz.f397, Tryz.func397, by kernel_rfl⟩
theorem aLz : Tied 211 aIb := ⟨Tryz.f399, Tryz.func399, by kernel_rfl⟩
theorem t212 : Tied 212 a212 := ⟨Tryz.f400, Tryz.func400, by kernel_rfl⟩
theorem t213 : Tied 213 a213 := ⟨Tryz.f402, Tryz.func402, by kernel_rfl⟩
theorem aLy : Tied 214 aIa := ⟨Tryz.f404, Tryz.func404, by kernel_rfl⟩
theorem aLx : Tied 215 aH9 := ⟨Tryz.f405, Tryz.func405, by kernel_rfl⟩
theorem aLw : Tied 216 aH8 := ⟨Tryz.f419, Tryz.func419, by kernel_rfl⟩
theorem aLv : Tied 217 aH7 := ⟨Tryz.f428, Tryz.func428, by kernel_rfl⟩
theorem t218 : Tied 218 a218 := ⟨Tryz.f432, Tryz.func432, by kernel_rfl⟩
theorem aLu : Tied 219 aH6 := ⟨Tryz.f433, Tryz.func433, by kernel_rfl⟩
theorem aLt : Tied 220 aH5 := ⟨Tryz.f434, Tryz.func434, by kernel_rfl⟩
theorem aLs : Tied 221 aH4 := ⟨Tryz.f435, Tryz.func435, by kernel_rfl⟩
theorem t222 : Tied 222 a222 := ⟨Tryz.f457, Tryz.func457, by kernel_rfl⟩

theorem tied : ∀ i a, tab.get i = some a → Tied i a :=
  (aH (aH (aH (aH (aH (aH (aH (aH aG t127 aG) t63 (aH aG aLK aG)) t31 (aH (aH aG t159 aG) t95 aG)) t15 (aH (aH (aH aG t143 aG) t79 (aH aG aLB aG)) t47 (aH (aH aG t175 aG) aMz aG))) t7 (aH (aH (aH (aH aG aMi aG) t71 (aH aG aLG aG)) t39 (aH (aH aG t167 aG) aME aG)) t23 (aH (aH (aH aG aL9 aG) t87 (aH aG aLx aG)) t55 (aH (aH aG t183 aG) t119 aG)))) t3 (aH (aH (aH (aH (aH aG t131 aG) t67 (aH aG aLI aG)) t35 (aH (aH aG aL4 aG) t99 aG)) t19 (aH (aH (aH aG aMc aG) t83 (aH aG aLz aG)) t51 (aH (aH aG aLU aG) aMv aG))) t11 (aH (aH (aH (aH aG t139 aG) t75 (aH aG t203 aG)) t43 (aH (aH aG t171 aG) t107 aG)) t27 (aH (aH (aH aG aL7 aG) t91 (aH aG aLu aG)) t59 (aH (aH aG aLO aG) aMq aG))))) t1 (aH (aH (aH (aH (aH (aH aG aMm aG) t65 (aH aG t193 aG)) t33 (aH (aH aG aL5 aG) t97 aG)) t17 (aH (aH (aH aG t145 aG) t81 (aH aG aLA aG)) t49 (aH (aH aG aLW aG) aMx aG))) t9 (aH (aH (aH (aH aG aMg aG) t73 (aH aG t201 aG)) t41 (aH (aH aG aL1 aG) t105 aG)) t25 (aH (aH (aH aG aL8 aG) t89 (aH aG aLv aG)) t57 (aH (aH aG aLQ aG) aMs aG)))) t5 (aH (aH (aH (aH (aH aG aMk aG) t69 (aH aG aLH aG)) t37 (aH (aH aG aL3 aG) aMG aG)) t21 (aH (aH (aH aG aMb aG) t85 (aH aG t213 aG)) t53 (aH (aH aG aLS aG) t117 aG))) t13 (aH (aH (aH (aH aG t141 aG) t77 (aH aG aLC aG)) t45 (aH (aH aG t173 aG) t109 aG)) t29 (aH (aH (aH aG t157 aG) t93 (aH aG aLs aG)) t61 (aH (aH aG aLM aG) aMp aG)))))) t0 (aH (aH (aH (aH (aH (aH (aH aG aMn aG) t64 (aH aG aLJ aG)) t32 (aH (aH aG t160 aG) t96 aG)) t16 (aH (aH (aH aG aMd aG) t80 (aH aG t208 aG)) t48 (aH (aH aG aLX aG) aMy aG))) t8 (aH (aH (aH (aH aG aMh aG) t72 (aH aG aLF aG)) t40 (aH (aH aG t168 aG) aMD aG)) t24 (aH (aH (aH aG t152 aG) t88 (aH aG aLw aG)) t56 (aH (aH aG aLR aG) aMt aG)))) t4 (aH (aH (aH (aH (aH aG aMl aG) t68 (aH aG t196 aG)) t36 (aH (aH aG t164 aG) aMH aG)) t20 (aH (aH (aH aG t148 aG) t84 (aH aG t212 aG)) t52 (aH (aH aG aLT aG) t116 aG))) t12 (aH (aH (aH (aH aG aMf aG) t76 (aH aG aLD aG)) t44 (aH (aH aG aLZ aG) aMB aG)) t28 (aH (aH (aH aG t156 aG) t92 (aH aG aLt aG)) t60 (aH (aH aG aLN aG) t124 aG))))) t2 (aH (aH (aH (aH (aH (aH aG t130 aG) t66 (aH aG t194 aG)) t34 (aH (aH aG t162 aG) t98 aG)) t18 (aH (aH (aH aG t146 aG) t82 (aH aG t210 aG)) t50 (aH (aH aG aLV aG) aMw aG))) t10 (aH (aH (aH (aH aG t138 aG) t74 (aH aG aLE aG)) t42 (aH (aH aG aL0 aG) aMC aG)) t26 (aH (aH (aH aG t154 aG) t90 (aH aG t218 aG)) t58 (aH (aH aG aLP aG) aMr aG)))) t6 (aH (aH (aH (aH (aH aG aMj aG) t70 (aH aG t198 aG)) t38 (aH (aH aG aL2 aG) aMF aG)) t22 (aH (aH (aH aG aMa aG) t86 (aH aG aLy aG)) t54 (aH (aH aG t182 aG) aMu aG))) t14 (aH (aH (aH (aH aG aMe aG) t78 (aH aG t206 aG)) t46 (aH (aH aG aLY aG) aMA aG)) t30 (aH (aH (aH aG aL6 aG) t94 (aH aG t222 aG)) t62 (aH (aH aG aLL aG) aMo aG)))))))

theorem env : Env Tryz.prog sg tab.get lD :=
  ⟨by kernel_rfl, fun f af h => tied f af h, MW _ _⟩

end Go.Proofs.YtcjhnkginmflhaaGreat
end

