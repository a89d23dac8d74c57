/-
  aco function of the small code is the sV own function.
-/
import Derived.Test.YthkmdpgdicohdaaGreatProg
import Derived.Test.YthkmdpgdicohdaaGreatTabB
import Derived.KernelRfl
set_option linter.unusedVariables false
set_option linter.unusedSimpArgs false
set_option linter.unusedSectionVars false
section
set_option maxRecDepth 100000
namespace Go.Proofs.YthkmdpgdicohdaaGreat
open Go Km
def fns:List Nat:=[6,7,8,9,10,14,15,16,17,18,19,20,21,22,23,24,25,26,27,28,29,30,31,32,33,34,35,36,37,40,41,42,43,44,45,46,47,48,49,50,51,52,53,54,55,56,58,59,60,61,62,63,64,65,66,68,69,70,73,74,75,76,77,78,79,80,81,82,83,85,86,87,88,89,90,91,93,94,95,96,97,98,99,100,101,102,103,105,107,108,109,110,111,112,118,119,120,121,122,123,124,125,126,127,128,130,131,132,133,134,135,137,139,142,143,144,145,146,147,148,149,150,151,152,153,154,155,156,158,159,165,167,168,169,170,171,172,174,175,176,177,178,179,182,183,184,188,194,195,201,204,205,206,207,208,214,215,216,217,218,221,222,239,247,248,249,259,104,115,173,213,220,228]
def sg(i:Nat):FuncId:=fns.getD i 99999
def aL(i:Nat)(a:aw):Prop:=∃ fn,Tryz.prog.funcs[sg i]?=some fn∧Aa Tryz.prog sg fn a=true
theorem t0:aL 0 Sd:=⟨_,Tryz.func6,by kernel_rfl⟩
theorem t1:aL 1 a1:=⟨_,Tryz.func7,by kernel_rfl⟩
theorem t2:aL 2 D9:=⟨_,Tryz.func8,by kernel_rfl⟩
theorem t3:aL 3 D6:=⟨_,Tryz.func9,by kernel_rfl⟩
theorem t4:aL 4 a4:=⟨_,Tryz.func10,by kernel_rfl⟩
theorem t5:aL 5 a5:=⟨_,Tryz.func14,by kernel_rfl⟩
theorem t6:aL 6 R3:=⟨_,Tryz.func15,by kernel_rfl⟩
theorem t7:aL 7 a7:=⟨_,Tryz.func16,by kernel_rfl⟩
theorem t8:aL 8 To:=⟨_,Tryz.func17,by kernel_rfl⟩
theorem t9:aL 9 a9:=⟨_,Tryz.func18,by kernel_rfl⟩
theorem t10:aL 10 a10:=⟨_,Tryz.func19,by kernel_rfl⟩
theorem t11:aL 11 a11:=⟨_,Tryz.func20,by kernel_rfl⟩
theorem t12:aL 12 a12:=⟨_,Tryz.func21,by kernel_rfl⟩
theorem t13:aL 13 D3:=⟨_,Tryz.func22,by kernel_rfl⟩
theorem t14:aL 14 D7:=⟨_,Tryz.func23,by kernel_rfl⟩
theorem t15:aL 15 R5:=⟨_,Tryz.func24,by kernel_rfl⟩
theorem t16:aL 16 R7:=⟨_,Tryz.func25,by kernel_rfl⟩
theorem t17:aL 17 Sa:=⟨_,Tryz.func26,by kernel_rfl⟩
theorem t18:aL 18 R6:=⟨_,Tryz.func27,by kernel_rfl⟩
theorem t19:aL 19 Ed:=⟨_,Tryz.func28,by kernel_rfl⟩
theorem t20:aL 20 Sb:=⟨_,Tryz.func29,by kernel_rfl⟩
theorem t21:aL 21 Ea:=⟨_,Tryz.func30,by kernel_rfl⟩
theorem t22:aL 22 a22:=⟨_,Tryz.func31,by kernel_rfl⟩
theorem t23:aL 23 Xz:=⟨_,Tryz.func32,by kernel_rfl⟩
theorem t24:aL 24 Xx:=⟨_,Tryz.func33,by kernel_rfl⟩
theorem t25:aL 25 a25:=⟨_,Tryz.func34,by kernel_rfl⟩
theorem t26:aL 26 R9:=⟨_,Tryz.func35,by kernel_rfl⟩
theorem t27:aL 27 a27:=⟨_,Tryz.func36,by kernel_rfl⟩
theorem t28:aL 28 Sc:=⟨_,Tryz.func37,by kernel_rfl⟩
theorem t29:aL 29 a29:=⟨_,Tryz.func40,by kernel_rfl⟩
theorem t30:aL 30 a30:=⟨_,Tryz.func41,by kernel_rfl⟩
theorem t31:aL 31 a31:=⟨_,Tryz.func42,by kernel_rfl⟩
theorem t32:aL 32 R4:=⟨_,Tryz.func43,by kernel_rfl⟩
theorem t33:aL 33 Sk:=⟨_,Tryz.func44,by kernel_rfl⟩
theorem t34:aL 34 a34:=⟨_,Tryz.func45,by kernel_rfl⟩
theorem t35:aL 35 R_:=⟨_,Tryz.func46,by kernel_rfl⟩
theorem t36:aL 36 xw:=⟨_,Tryz.func47,by kernel_rfl⟩
theorem t37:aL 37 R0:=⟨_,Tryz.func48,by kernel_rfl⟩
theorem t38:aL 38 a38:=⟨_,Tryz.func49,by kernel_rfl⟩
theorem t39:aL 39 Sl:=⟨_,Tryz.func50,by kernel_rfl⟩
theorem t40:aL 40 a40:=⟨_,Tryz.func51,by kernel_rfl⟩
theorem t41:aL 41 a41:=⟨_,Tryz.func52,by kernel_rfl⟩
theorem t42:aL 42 a42:=⟨_,Tryz.func53,by kernel_rfl⟩
theorem t43:aL 43 a43:=⟨_,Tryz.func54,by kernel_rfl⟩
theorem t44:aL 44 a44:=⟨_,Tryz.func55,by kernel_rfl⟩
theorem t45:aL 45 Si:=⟨_,Tryz.func56,by kernel_rfl⟩
theorem t46:aL 46 a46:=⟨_,Tryz.func58,by kernel_rfl⟩
theorem t47:aL 47 D4:=⟨_,Tryz.func59,by kernel_rfl⟩
theorem t48:aL 48 D5:=⟨_,Tryz.func60,by kernel_rfl⟩
theorem t49:aL 49 D8:=⟨_,Tryz.func61,by kernel_rfl⟩
theorem t50:aL 50 R8:=⟨_,Tryz.func62,by kernel_rfl⟩
theorem t51:aL 51 xL:=⟨_,Tryz.func63,by kernel_rfl⟩
theorem t52:aL 52 Sf:=⟨_,Tryz.func64,by kernel_rfl⟩
theorem t53:aL 53 XA:=⟨_,Tryz.func65,by kernel_rfl⟩
theorem t54:aL 54 a54:=⟨_,Tryz.func66,by kernel_rfl⟩
theorem t55:aL 55 SA:=⟨_,Tryz.func68,by kernel_rfl⟩
theorem t56:aL 56 Eh:=⟨_,Tryz.func69,by kernel_rfl⟩
theorem t57:aL 57 a57:=⟨_,Tryz.func70,by kernel_rfl⟩
theorem t58:aL 58 a58:=⟨_,Tryz.func73,by kernel_rfl⟩
theorem t59:aL 59 Eb:=⟨_,Tryz.func74,by kernel_rfl⟩
theorem t60:aL 60 a60:=⟨_,Tryz.func75,by kernel_rfl⟩
theorem t61:aL 61 a61:=⟨_,Tryz.func76,by kernel_rfl⟩
theorem t62:aL 62 Ee:=⟨_,Tryz.func77,by kernel_rfl⟩
theorem t63:aL 63 Sw:=⟨_,Tryz.func78,by kernel_rfl⟩
theorem t64:aL 64 xy:=⟨_,Tryz.func79,by kernel_rfl⟩
theorem t65:aL 65 xx:=⟨_,Tryz.func80,by kernel_rfl⟩
theorem t66:aL 66 Sn:=⟨_,Tryz.func81,by kernel_rfl⟩
theorem t67:aL 67 SE:=⟨_,Tryz.func82,by kernel_rfl⟩
theorem t68:aL 68 a68:=⟨_,Tryz.func83,by kernel_rfl⟩
theorem t69:aL 69 a69:=⟨_,Tryz.func85,by kernel_rfl⟩
theorem t70:aL 70 a70:=⟨_,Tryz.func86,by kernel_rfl⟩
theorem t71:aL 71 a71:=⟨_,Tryz.func87,by kernel_rfl⟩
theorem t72:aL 72 a72:=⟨_,Tryz.func88,by kernel_rfl⟩
theorem t73:aL 73 a73:=⟨_,Tryz.func89,by kernel_rfl⟩
theorem t74:aL 74 a74:=⟨_,Tryz.func90,by kernel_rfl⟩
theorem t75:aL 75 a75:=⟨_,Tryz.func91,by kernel_rfl⟩
theorem t76:aL 76 Sj:=⟨_,Tryz.func93,by kernel_rfl⟩
theorem t77:aL 77 Sq:=⟨_,Tryz.func94,by kernel_rfl⟩
theorem t78:aL 78 a78:=⟨_,Tryz.func95,by kernel_rfl⟩
theorem t79:aL 79 xD:=⟨_,Tryz.func96,by kernel_rfl⟩
theorem t80:aL 80 xC:=⟨_,Tryz.func97,by kernel_rfl⟩
theorem t81:aL 81 xA:=⟨_,Tryz.func98,by kernel_rfl⟩
theorem t82:aL 82 xB:=⟨_,Tryz.func99,by kernel_rfl⟩
theorem t83:aL 83 xM:=⟨_,Tryz.func100,by kernel_rfl⟩
theorem t84:aL 84 xI:=⟨_,Tryz.func101,by kernel_rfl⟩
theorem t85:aL 85 xK:=⟨_,Tryz.func102,by kernel_rfl⟩
theorem t86:aL 86 xJ:=⟨_,Tryz.func103,by kernel_rfl⟩
theorem t87:aL 87 Sg:=⟨_,Tryz.func105,by kernel_rfl⟩
theorem t88:aL 88 Sp:=⟨_,Tryz.func107,by kernel_rfl⟩
theorem t89:aL 89 Su:=⟨_,Tryz.func108,by kernel_rfl⟩
theorem t90:aL 90 a90:=⟨_,Tryz.func109,by kernel_rfl⟩
theorem t91:aL 91 a91:=⟨_,Tryz.func110,by kernel_rfl⟩
theorem t92:aL 92 a92:=⟨_,Tryz.func111,by kernel_rfl⟩
theorem t93:aL 93 a93:=⟨_,Tryz.func112,by kernel_rfl⟩
theorem t94:aL 94 Ec:=⟨_,Tryz.func118,by kernel_rfl⟩
theorem t95:aL 95 Ef:=⟨_,Tryz.func119,by kernel_rfl⟩
theorem t96:aL 96 Sx:=⟨_,Tryz.func120,by kernel_rfl⟩
theorem t97:aL 97 Sy:=⟨_,Tryz.func121,by kernel_rfl⟩
theorem t98:aL 98 SB:=⟨_,Tryz.func122,by kernel_rfl⟩
theorem t99:aL 99 xz:=⟨_,Tryz.func123,by kernel_rfl⟩
theorem t100:aL 100 D2:=⟨_,Tryz.func124,by kernel_rfl⟩
theorem t101:aL 101 XO:=⟨_,Tryz.func125,by kernel_rfl⟩
theorem t102:aL 102 XP:=⟨_,Tryz.func126,by kernel_rfl⟩
theorem t103:aL 103 XQ:=⟨_,Tryz.func127,by kernel_rfl⟩
theorem t104:aL 104 XR:=⟨_,Tryz.func128,by kernel_rfl⟩
theorem t105:aL 105 XS:=⟨_,Tryz.func130,by kernel_rfl⟩
theorem t106:aL 106 XT:=⟨_,Tryz.func131,by kernel_rfl⟩
theorem t107:aL 107 XU:=⟨_,Tryz.func132,by kernel_rfl⟩
theorem t108:aL 108 XV:=⟨_,Tryz.func133,by kernel_rfl⟩
theorem t109:aL 109 XW:=⟨_,Tryz.func134,by kernel_rfl⟩
theorem t110:aL 110 XX:=⟨_,Tryz.func135,by kernel_rfl⟩
theorem t111:aL 111 XY:=⟨_,Tryz.func137,by kernel_rfl⟩
theorem t112:aL 112 XZ:=⟨_,Tryz.func139,by kernel_rfl⟩
theorem t113:aL 113 Sr:=⟨_,Tryz.func142,by kernel_rfl⟩
theorem t114:aL 114 SD:=⟨_,Tryz.func143,by kernel_rfl⟩
theorem t115:aL 115 X4:=⟨_,Tryz.func144,by kernel_rfl⟩
theorem t116:aL 116 xN:=⟨_,Tryz.func145,by kernel_rfl⟩
theorem t117:aL 117 xG:=⟨_,Tryz.func146,by kernel_rfl⟩
theorem t118:aL 118 xO:=⟨_,Tryz.func147,by kernel_rfl⟩
theorem t119:aL 119 xE:=⟨_,Tryz.func148,by kernel_rfl⟩
theorem t120:aL 120 xF:=⟨_,Tryz.func149,by kernel_rfl⟩
theorem t121:aL 121 X5:=⟨_,Tryz.func150,by kernel_rfl⟩
theorem t122:aL 122 Sz:=⟨_,Tryz.func151,by kernel_rfl⟩
theorem t123:aL 123 Sv:=⟨_,Tryz.func152,by kernel_rfl⟩
theorem t124:aL 124 So:=⟨_,Tryz.func153,by kernel_rfl⟩
theorem t125:aL 125 X6:=⟨_,Tryz.func154,by kernel_rfl⟩
theorem t126:aL 126 X7:=⟨_,Tryz.func155,by kernel_rfl⟩
theorem t127:aL 127 X8:=⟨_,Tryz.func156,by kernel_rfl⟩
theorem t128:aL 128 SC:=⟨_,Tryz.func158,by kernel_rfl⟩
theorem t129:aL 129 X9:=⟨_,Tryz.func159,by kernel_rfl⟩
theorem t130:aL 130 X_:=⟨_,Tryz.func165,by kernel_rfl⟩
theorem t131:aL 131 Ya:=⟨_,Tryz.func167,by kernel_rfl⟩
theorem t132:aL 132 Yb:=⟨_,Tryz.func168,by kernel_rfl⟩
theorem t133:aL 133 Yc:=⟨_,Tryz.func169,by kernel_rfl⟩
theorem t134:aL 134 Yd:=⟨_,Tryz.func170,by kernel_rfl⟩
theorem t135:aL 135 Ye:=⟨_,Tryz.func171,by kernel_rfl⟩
theorem t136:aL 136 Yf:=⟨_,Tryz.func172,by kernel_rfl⟩
theorem t137:aL 137 Yg:=⟨_,Tryz.func174,by kernel_rfl⟩
theorem t138:aL 138 Yh:=⟨_,Tryz.func175,by kernel_rfl⟩
theorem t139:aL 139 Yi:=⟨_,Tryz.func176,by kernel_rfl⟩
theorem t140:aL 140 Yj:=⟨_,Tryz.func177,by kernel_rfl⟩
theorem t141:aL 141 Yk:=⟨_,Tryz.func178,by kernel_rfl⟩
theorem t142:aL 142 Yl:=⟨_,Tryz.func179,by kernel_rfl⟩
theorem t143:aL 143 Ym:=⟨_,Tryz.func182,by kernel_rfl⟩
theorem t144:aL 144 Yn:=⟨_,Tryz.func183,by kernel_rfl⟩
theorem t145:aL 145 D_:=⟨_,Tryz.func184,by kernel_rfl⟩
theorem t146:aL 146 Yo:=⟨_,Tryz.func188,by kernel_rfl⟩
theorem t147:aL 147 SF:=⟨_,Tryz.func194,by kernel_rfl⟩
theorem t148:aL 148 Yp:=⟨_,Tryz.func195,by kernel_rfl⟩
theorem t149:aL 149 Xy:=⟨_,Tryz.func201,by kernel_rfl⟩
theorem t150:aL 150 xH:=⟨_,Tryz.func204,by kernel_rfl⟩
theorem t151:aL 151 Yq:=⟨_,Tryz.func205,by kernel_rfl⟩
theorem t152:aL 152 Sh:=⟨_,Tryz.func206,by kernel_rfl⟩
theorem t153:aL 153 Ss:=⟨_,Tryz.func207,by kernel_rfl⟩
theorem t154:aL 154 Se:=⟨_,Tryz.func208,by kernel_rfl⟩
theorem t155:aL 155 Yr:=⟨_,Tryz.func214,by kernel_rfl⟩
theorem t156:aL 156 Ys:=⟨_,Tryz.func215,by kernel_rfl⟩
theorem t157:aL 157 Yt:=⟨_,Tryz.func216,by kernel_rfl⟩
theorem t158:aL 158 Yu:=⟨_,Tryz.func217,by kernel_rfl⟩
theorem t159:aL 159 Yv:=⟨_,Tryz.func218,by kernel_rfl⟩
theorem t160:aL 160 Yw:=⟨_,Tryz.func221,by kernel_rfl⟩
theorem t161:aL 161 Eg:=⟨_,Tryz.func222,by kernel_rfl⟩
theorem t162:aL 162 Yx:=⟨_,Tryz.func239,by kernel_rfl⟩
theorem t163:aL 163 Yy:=⟨_,Tryz.func247,by kernel_rfl⟩
theorem t164:aL 164 Yz:=⟨_,Tryz.func248,by kernel_rfl⟩
theorem t165:aL 165 YA:=⟨_,Tryz.func249,by kernel_rfl⟩
theorem t166:aL 166 YB:=⟨_,Tryz.func259,by kernel_rfl⟩
theorem abQ:∀ i a,tab.get i=some a→aL i a:=
 (aF (aF (aF (aF (aF (aF (aF (aF aE t127 aE) t63 aE) t31 (aF (aF aE t159 aE) t95 aE)) t15 (aF (aF (aF aE t143 aE) t79 aE) t47 (aF aE t111 aE))) t7 (aF (aF (aF (aF aE t135 aE) t71 aE) t39 (aF aE t103 aE)) t23 (aF (aF (aF aE t151 aE) t87 aE) t55 (aF aE t119 aE)))) t3 (aF (aF (aF (aF (aF aE t131 aE) t67 aE) t35 (aF (aF aE t163 aE) t99 aE)) t19 (aF (aF (aF aE t147 aE) t83 aE) t51 (aF aE t115 aE))) t11 (aF (aF (aF (aF aE t139 aE) t75 aE) t43 (aF aE t107 aE)) t27 (aF (aF (aF aE t155 aE) t91 aE) t59 (aF aE t123 aE))))) t1 (aF (aF (aF (aF (aF (aF aE t129 aE) t65 aE) t33 (aF (aF aE t161 aE) t97 aE)) t17 (aF (aF (aF aE t145 aE) t81 aE) t49 (aF aE t113 aE))) t9 (aF (aF (aF (aF aE t137 aE) t73 aE) t41 (aF aE t105 aE)) t25 (aF (aF (aF aE t153 aE) t89 aE) t57 (aF aE t121 aE)))) t5 (aF (aF (aF (aF (aF aE t133 aE) t69 aE) t37 (aF (aF aE t165 aE) t101 aE)) t21 (aF (aF (aF aE t149 aE) t85 aE) t53 (aF aE t117 aE))) t13 (aF (aF (aF (aF aE t141 aE) t77 aE) t45 (aF aE t109 aE)) t29 (aF (aF (aF aE t157 aE) t93 aE) t61 (aF aE t125 aE)))))) t0 (aF (aF (aF (aF (aF (aF (aF aE t128 aE) t64 aE) t32 (aF (aF aE t160 aE) t96 aE)) t16 (aF (aF (aF aE t144 aE) t80 aE) t48 (aF aE t112 aE))) t8 (aF (aF (aF (aF aE t136 aE) t72 aE) t40 (aF aE t104 aE)) t24 (aF (aF (aF aE t152 aE) t88 aE) t56 (aF aE t120 aE)))) t4 (aF (aF (aF (aF (aF aE t132 aE) t68 aE) t36 (aF (aF aE t164 aE) t100 aE)) t20 (aF (aF (aF aE t148 aE) t84 aE) t52 (aF aE t116 aE))) t12 (aF (aF (aF (aF aE t140 aE) t76 aE) t44 (aF aE t108 aE)) t28 (aF (aF (aF aE t156 aE) t92 aE) t60 (aF aE t124 aE))))) t2 (aF (aF (aF (aF (aF (aF aE t130 aE) t66 aE) t34 (aF (aF aE t162 aE) t98 aE)) t18 (aF (aF (aF aE t146 aE) t82 aE) t50 (aF aE t114 aE))) t10 (aF (aF (aF (aF aE t138 aE) t74 aE) t42 (aF aE t106 aE)) t26 (aF (aF (aF aE t154 aE) t90 aE) t58 (aF aE t122 aE)))) t6 (aF (aF (aF (aF (aF aE t134 aE) t70 aE) t38 (aF (aF aE t166 aE) t102 aE)) t22 (aF (aF (aF aE t150 aE) t86 aE) t54 (aF aE t118 aE))) t14 (aF (aF (aF (aF aE t142 aE) t78 aE) t46 (aF aE t110 aE)) t30 (aF (aF (aF aE t158 aE) t94 aE) t62 (aF aE t126 aE)))))))
theorem env:Env Tryz.prog sg tab.get (oA tab.get):=
 ⟨by kernel_rfl,fun f af h=>abQ f af h,Rh (fun _ _ _ _ _ h=>by cases h) _⟩
end Go.Proofs.YthkmdpgdicohdaaGreat
end
