/-
  The table: the kB own jt, as small code.
-/
import Derived.Test.YtelifakcllijpaaGreatProg
import Derived.Test.YtelifakcllijpaaGreatParts
import Derived.Test.YtelifakcllijpaaGreatK2
import Derived.Test.YtelifakcllijpaaGreatIns
import Derived.KernelRfl
set_option linter.all false
section
set_option maxRecDepth 100000
namespace Go.Proofs.YtelifakcllijpaaGreat
open Go Km
noncomputable def lits:LT:=(.n (.n (.n (.n (.n (.n (.n (.n .e 5 xT .e) 10 aaV (.n .e 11 Co .e)) 12 Cn (.n (.n .e 13 Cm .e) 14 vA (.n .e 16 Wu .e))) 17 Wt (.n (.n (.n .e 20 Ws .e) 22 Ac (.n .e 23 aaU .e)) 24 abD (.n (.n .e 35 Vf .e) 36 Ve .e))) 40 Wr (.n (.n (.n (.n .e 41 Wq .e) 42 Wm (.n .e 43 Cl .e)) 44 Ww (.n (.n .e 45 Wx .e) 46 Wy .e)) 47 pQ (.n (.n (.n .e 48 sC .e) 56 Wv (.n .e 57 abH .e)) 58 Oc (.n (.n .e 59 WM .e) 60 WY .e)))) 61 WN (.n (.n (.n (.n (.n .e 64 oI .e) 66 Vd (.n .e 67 aaL .e)) 68 aaP (.n (.n .e 69 aaK .e) 70 Ov .e)) 71 aaQ (.n (.n (.n .e 72 sD .e) 73 Vj (.n .e 74 WJ .e)) 75 WS (.n (.n .e 76 N1 .e) 82 N2 .e))) 83 WK (.n (.n (.n (.n .e 84 vB .e) 90 Wn (.n .e 91 Wp .e)) 92 WW (.n (.n .e 93 W1 .e) 94 WC .e)) 95 WA (.n (.n (.n .e 96 Vh .e) 97 xv (.n .e 98 pL .e)) 99 WV (.n (.n .e 100 Wz .e) 101 WH .e))))) 102 WB (.n (.n (.n (.n (.n (.n .e 119 Xh .e) 120 abb (.n .e 121 Oq .e)) 122 Oe (.n (.n .e 123 Od .e) 124 WR .e)) 126 WE (.n (.n (.n .e 127 WD .e) 128 WX (.n .e 132 aaO .e)) 133 aaM (.n (.n .e 134 aaN .e) 135 aa' .e))) 136 aaT (.n (.n (.n (.n .e 137 Ox .e) 138 aaX (.n .e 139 aeu .e)) 140 aes (.n (.n .e 141 Xd .e) 142 abM .e)) 143 W3 (.n (.n (.n .e 144 abL .e) 145 aa6 (.n .e 146 WU .e)) 147 N3 (.n (.n .e 148 N4 .e) 153 abu .e)))) 154 WI (.n (.n (.n (.n (.n .e 155 WL .e) 164 Wo (.n .e 165 Vi .e)) 166 wF (.n (.n .e 167 aa9 .e) 168 aa3 .e)) 169 wC (.n (.n (.n .e 170 aaR .e) 171 aa5 (.n .e 172 aa2 .e)) 173 Xq (.n (.n .e 174 aaS .e) 175 aa8 .e))) 176 abw (.n (.n (.n (.n .e 199 Xn .e) 200 Oa (.n .e 201 abc .e)) 202 V_ (.n (.n .e 203 Ou .e) 204 Ot .e)) 205 W4 (.n (.n (.n .e 206 N' .e) 207 WG (.n .e 209 wE .e)) 210 W9 (.n (.n .e 211 Ow .e) 219 aaY .e)))))) 220 aaZ (.n (.n (.n (.n (.n (.n (.n .e 221 aev .e) 222 Xe (.n .e 223 abx .e)) 224 aet (.n (.n .e 225 Xb .e) 226 Vk (.n .e 227 Ob .e))) 228 aa7 (.n (.n (.n .e 229 abh .e) 239 Xf (.n .e 240 abE .e)) 241 aa_ (.n (.n .e 242 abK .e) 243 abF .e))) 245 abI (.n (.n (.n (.n .e 246 abG .e) 248 pC (.n .e 249 abt .e)) 250 aa4 (.n (.n .e 251 abd .e) 252 N_ .e)) 253 aaJ (.n (.n (.n .e 254 AA .e) 255 aba (.n .e 256 abm .e)) 257 IW (.n (.n .e 258 abN .e) 259 V9 .e)))) 260 abv (.n (.n (.n (.n (.n .e 282 Xp .e) 283 Xo (.n .e 284 Xi .e)) 285 On (.n (.n .e 286 Wk .e) 287 W7 .e)) 288 Ol (.n (.n (.n .e 289 AB .e) 290 abo (.n .e 291 abk .e)) 292 W_ (.n (.n .e 298 Xl .e) 299 abB .e))) 300 Oo (.n (.n (.n (.n .e 301 abi .e) 302 V7 (.n .e 307 vC .e)) 308 Xg (.n (.n .e 309 N7 .e) 310 abJ .e)) 311 abO (.n (.n (.n .e 313 Oz .e) 314 abf (.n .e 315 Of .e)) 316 abl (.n (.n .e 317 W5 .e) 318 abg .e))))) 319 V8 (.n (.n (.n (.n (.n (.n .e 320 N5 .e) 321 Om (.n .e 322 V' .e)) 323 abn (.n (.n .e 324 N8 .e) 325 Cj .e)) 326 abA (.n (.n (.n .e 354 Xj .e) 356 abp (.n .e 357 abq .e)) 358 abr (.n (.n .e 359 Vg .e) 360 abe .e))) 362 Xk (.n (.n (.n (.n .e 363 NZ .e) 365 Oy (.n .e 366 Xm .e)) 367 W8 (.n (.n .e 369 Oh .e) 370 jy .e)) 372 Og (.n (.n (.n .e 373 W6 .e) 374 We (.n .e 375 Oi .e)) 376 N0 (.n (.n .e 377 Gi .e) 378 Wf .e)))) 379 Wa (.n (.n (.n (.n (.n .e 380 Wh .e) 381 N9 (.n .e 382 vz .e)) 383 oH (.n (.n .e 385 sE .e) 406 aa0 .e)) 407 abj (.n (.n (.n .e 408 aaW .e) 410 W2 (.n .e 419 Gj .e)) 420 Xc (.n (.n .e 421 N6 .e) 422 Ck .e))) 423 WZ (.n (.n (.n (.n .e 424 Wj .e) 425 aby (.n .e 426 Oj .e)) 427 Wb (.n (.n .e 428 Wi .e) 429 Wg .e)) 451 Xa (.n (.n (.n .e 459 Wl .e) 460 W0 (.n .e 461 abC .e)) 462 abz (.n (.n .e 463 Wc .e) 481 aa1 .e)))))))
noncomputable def tab:TB:=lits.tb Tryz.prog 384 shared
def UG:LT.Vl Tryz.prog 384 shared lits:=by
 repeat first|exact .e|refine .n ?_ io ?_
def Yr:tab jB=some vA:=rfl
def aeX:tab mb=some Ac:=rfl
def acz:tab ab0=some Vf:=rfl
def acy:tab abY=some Ve:=rfl
def Ys:tab il=some pQ:=rfl
def Yt:tab pU=some sC:=rfl
def YF:tab GO=some Oc:=rfl
def Yu:tab ji=some oI:=rfl
def Qf:tab GS=some Ov:=rfl
def acC:tab P5=some Vj:=rfl
def Yv:tab GC=some N2:=rfl
def aeY:tab jw=some xv:=rfl
def aeW:tab fD=some pL:=rfl
def YP:tab X7=some Oq:=rfl
def YH:tab GP=some Oe:=rfl
def YG:tab PC=some Od:=rfl
def Qh:tab Yc=some Ox:=rfl
def Yw:tab GG=some N3:=rfl
def Yx:tab GH=some N4:=rfl
def acB:tab nX=some wF:=rfl
def acx:tab nh=some wC:=rfl
def Qd:tab GN=some Oa:=rfl
def YR:tab X_=some Ou:=rfl
def YQ:tab X8=some Ot:=rfl
def YD:tab PA=some N':=rfl
def Qi:tab dp=some wE:=rfl
def Qg:tab Ya=some Ow:=rfl
def acD:tab A0=some Vk:=rfl
def G2:tab yc=some Ob:=rfl
def acA:tab nk=some pC:=rfl
def YE:tab PB=some N_:=rfl
def Qe:tab X5=some On:=rfl
def YN:tab XZ=some Ol:=rfl
def G3:tab X6=some Oo:=rfl
def YV:tab pX=some vC:=rfl
def YA:tab GJ=some N7:=rfl
def YI:tab Cz=some Of:=rfl
def Yy:tab Pz=some N5:=rfl
def YO:tab X4=some Om:=rfl
def YB:tab GK=some N8:=rfl
def YU:tab GU=some Oy:=rfl
def YK:tab PD=some Oh:=rfl
def Yo:tab dU=some jy:=rfl
def YJ:tab GQ=some Og:=rfl
def YL:tab PE=some Oi:=rfl
def YC:tab GM=some N9:=rfl
def Yq:tab nC=some vz:=rfl
def Yp:tab nB=some oH:=rfl
def YT:tab pW=some Gj:=rfl
def Yz:tab GI=some N6:=rfl
def YM:tab PF=some Oj:=rfl
abbrev sg:Nat->FuncId:=JQ 384
def env:Env Tryz.prog sg tab.get tab.Gh:=LT.env UG io (Z3 rfl)
end Go.Proofs.YtelifakcllijpaaGreat
end
