/-
  The table: ug nh own lF, as small code.
-/
import Derived.Test.YtnaofdffomdmhaaGreatProg
import Derived.Test.YtnaofdffomdmhaaGreatParts
import Derived.Test.YtnaofdffomdmhaaGreatK4
import Derived.Test.YtnaofdffomdmhaaGreatIns
import Derived.KernelRfl
set_option linter.unusedVariables false
set_option linter.unusedSimpArgs false
set_option linter.unusedSectionVars false
section
set_option maxRecDepth 100000
namespace Go.Proofs.YtnaofdffomdmhaaGreat
open Go Km
noncomputable def lits:LT:=(.n (.n (.n (.n (.n (.n (.n (.n .e 3 Zs .e) 11 Zu (.n .e 12 UF .e)) 13 UC (.n (.n .e 14 Zt .e) 15 UB .e)) 16 FN (.n (.n (.n .e 17 KN .e) 18 Zj (.n .e 19 UG .e)) 20 Lr (.n (.n .e 21 UA .e) 22 Zi .e))) 25 uS (.n (.n (.n (.n .e 27 Zk .e) 28 UK (.n .e 29 UH .e)) 31 UE (.n (.n .e 33 Zh .e) 35 Dp .e)) 36 UJ (.n (.n (.n .e 37 UI .e) 38 Zp (.n .e 39 Zm .e)) 40 K8 (.n (.n .e 41 Bn .e) 42 Lp .e)))) 43 Zq (.n (.n (.n (.n (.n .e 44 sC .e) 45 SC (.n .e 48 Dq .e)) 49 Ug (.n (.n .e 50 Zl .e) 51 tK .e)) 52 Zr (.n (.n (.n .e 53 ZT .e) 54 Y_ (.n .e 55 Zf .e)) 56 Zx (.n (.n .e 59 U0 .e) 60 KQ .e))) 61 uQ (.n (.n (.n (.n .e 62 UM .e) 63 T3 (.n .e 64 UR .e)) 67 Uz (.n (.n .e 68 UD .e) 69 qv .e)) 70 KW (.n (.n (.n .e 71 Zn .e) 72 acs .e) 73 Lh (.n (.n .e 74 SE .e) 75 Ds .e))))) 76 acv (.n (.n (.n (.n (.n (.n .e 77 KR .e) 78 US (.n .e 79 ou .e)) 80 qw (.n (.n .e 81 KY .e) 82 KZ .e)) 83 KX (.n (.n (.n .e 87 uR .e) 88 UN (.n .e 89 Uu .e)) 90 Ua (.n (.n .e 91 Ur .e) 92 KM .e))) 93 Uj (.n (.n (.n (.n .e 94 Uk .e) 95 Uh (.n .e 96 SD .e)) 97 Zc (.n (.n .e 98 ZA .e) 99 Ze .e)) 101 Ve (.n (.n (.n .e 103 Za .e) 104 xP (.n .e 105 Zb .e)) 107 ZJ (.n (.n .e 108 ZK .e) 110 K_ .e)))) 113 UP (.n (.n (.n (.n (.n .e 114 U9 .e) 115 UX (.n .e 116 UO .e)) 119 U_ (.n (.n .e 120 UU .e) 122 U6 .e)) 124 ZV (.n (.n (.n .e 125 UT .e) 127 UW (.n .e 128 sD .e)) 129 UL (.n (.n .e 130 acw .e) 131 SF .e))) 132 Zo (.n (.n (.n (.n .e 133 Lc .e) 134 Lq (.n .e 136 ZZ .e)) 137 KT (.n (.n .e 138 zO .e) 139 U8 .e)) 140 UY (.n (.n (.n .e 141 KU .e) 143 Un .e) 144 Uo (.n (.n .e 145 Uy .e) 146 Uw .e)))))) 147 Uc (.n (.n (.n (.n (.n (.n (.n .e 148 T4 .e) 149 T' (.n .e 152 Ue .e)) 153 TZ (.n (.n .e 155 Ul .e) 156 Um .e)) 157 T2 (.n (.n (.n .e 158 Dn .e) 159 Ux (.n .e 161 Ut .e)) 162 TQ (.n (.n .e 163 TW .e) 164 TT .e))) 165 Uq (.n (.n (.n (.n .e 166 La .e) 167 ZB (.n .e 168 TN .e)) 170 Zy (.n (.n .e 171 Zd .e) 172 Vi .e)) 173 ZQ (.n (.n (.n .e 176 ZD .e) 177 ZM (.n .e 178 ZH .e)) 179 ZL (.n (.n .e 180 Vc .e) 188 Li .e)))) 189 UQ (.n (.n (.n (.n (.n .e 190 TE .e) 191 Lb (.n .e 192 U3 .e)) 193 U' (.n (.n .e 195 Vf .e) 196 Vd .e)) 198 UZ (.n (.n (.n .e 199 U7 .e) 200 U4 (.n .e 202 U1 .e)) 203 Vj (.n (.n .e 204 U2 .e) 205 Vb .e))) 206 Lm (.n (.n (.n (.n .e 208 Z0 .e) 209 tL (.n .e 212 Vm .e)) 213 Zg (.n (.n .e 217 zN .e) 218 Us .e)) 220 TV (.n (.n (.n .e 221 T8 .e) 222 T7 .e) 223 T0 (.n (.n .e 224 Ub .e) 226 Uf .e))))) 228 Ud (.n (.n (.n (.n (.n (.n .e 234 T_ .e) 235 Ui (.n .e 236 Uv .e)) 237 T6 (.n (.n .e 238 sB .e) 239 T9 .e)) 242 TP (.n (.n (.n .e 243 T5 .e) 244 zM (.n .e 247 TU .e)) 248 Lj (.n (.n .e 249 TO .e) 250 Zz .e))) 251 ZE (.n (.n (.n (.n .e 255 ZN .e) 256 ZO (.n .e 257 ZR .e)) 258 ZP (.n (.n .e 259 ZI .e) 260 ZC .e)) 261 Vg (.n (.n (.n .e 268 Lk .e) 271 Vh (.n .e 272 Lg .e)) 273 Lf (.n (.n .e 274 U5 .e) 276 TL .e)))) 277 Va (.n (.n (.n (.n (.n .e 278 TI .e) 279 Vl (.n .e 283 ZW .e)) 285 TH (.n (.n .e 286 ZX .e) 288 TF .e)) 289 ZY (.n (.n (.n .e 297 TS .e) 308 TX (.n .e 310 TY .e)) 312 TR (.n (.n .e 313 ZF .e) 314 TM .e))) 319 ZU (.n (.n (.n (.n .e 320 Zw .e) 321 ZG (.n .e 322 Zv .e)) 334 Lo (.n (.n .e 335 Ln .e) 337 ZS .e)) 338 acu (.n (.n (.n .e 339 Vk .e) 340 TJ .e) 341 Dr (.n (.n .e 354 TG .e) 378 KL .e)))))))
noncomputable def tab:TB:=lits.tb Tryz.prog 47 shared
theorem RF:LT.SG Tryz.prog 47 shared lits:=by
 repeat first|exact .e|refine .n ?_ (by kernel_rfl) ?_
theorem adA:tab iz=some uS:=rfl
theorem Wm:tab DR=some K8:=rfl
theorem aau:tab MO=some Bn:=rfl
theorem M3:tab MM=some Lp:=rfl
theorem We:tab kh=some sC:=rfl
theorem aat:tab yx=some tK:=rfl
theorem Ws:tab MJ=some Lh:=rfl
theorem aaw:tab SQ=some SE:=rfl
theorem Wz:tab Af=some Ds:=rfl
theorem Wf:tab vh=some KR:=rfl
theorem Wg:tab fT=some ou:=rfl
theorem Wh:tab qz=some qw:=rfl
theorem Wk:tab MG=some KY:=rfl
theorem Wl:tab DP=some KZ:=rfl
theorem Wj:tab DO=some KX:=rfl
theorem aav:tab FX=some SD:=rfl
theorem Wn:tab MH=some K_:=rfl
theorem aax:tab vj=some SF:=rfl
theorem Wp:tab DU=some Lc:=rfl
theorem Wy:tab DX=some Lq:=rfl
theorem adz:tab mz=some zO:=rfl
theorem Wi:tab DM=some KU:=rfl
theorem M0:tab DS=some La:=rfl
theorem Wt:tab V7=some Li:=rfl
theorem Wo:tab DT=some Lb:=rfl
theorem Wv:tab MK=some Lm:=rfl
theorem aay:tab ov=some tL:=rfl
theorem M1:tab V8=some Lj:=rfl
theorem Wu:tab V9=some Lk:=rfl
theorem Wr:tab DV=some Lg:=rfl
theorem Wq:tab MI=some Lf:=rfl
theorem Wx:tab V_=some Lo:=rfl
theorem Ww:tab V'=some Ln:=rfl
abbrev sg:Nat->FuncId:=GA 47
theorem env:Env Tryz.prog sg tab.get tab.ub:=LT.env RF (by kernel_rfl) (X_ rfl)
end Go.Proofs.YtnaofdffomdmhaaGreat
end
