/-
  The table: the iC own gK, as small code.
-/
import Derived.Test.YtelifakcllijpaaGreatProg
import Derived.Test.YtelifakcllijpaaGreatParts
import Derived.Test.YtelifakcllijpaaGreatK4
import Derived.Test.YtelifakcllijpaaGreatIns
import Derived.KernelRfl
set_option linter.unusedVariables false
set_option linter.unusedSimpArgs false
set_option linter.unusedSectionVars false
section
set_option maxRecDepth 100000
namespace Go.Proofs.YtelifakcllijpaaGreat
open Go Km
noncomputable def lits:LT:=(.n (.n (.n (.n (.n (.n (.n (.n .e 8 US .e) 10 aaw (.n .e 11 BD .e)) 12 BC (.n (.n .e 13 BB .e) 14 tR .e)) 16 V7 (.n (.n (.n .e 28 BE .e) 33 V4 (.n .e 35 UU .e)) 36 UT (.n (.n .e 40 V6 .e) 41 V5 .e))) 42 VZ (.n (.n (.n (.n .e 43 V2 .e) 44 V9 (.n .e 45 V' .e)) 46 V_ (.n (.n .e 47 oX .e) 48 ry .e)) 56 V8 (.n (.n (.n .e 57 abg .e) 58 Ni .e) 59 Wl (.n (.n .e 60 Wt .e) 61 Wm .e)))) 66 UR (.n (.n (.n (.n (.n .e 68 aar .e) 69 aao (.n .e 70 Ny .e)) 71 aas (.n (.n .e 72 Wz .e) 73 UZ .e)) 74 Wi (.n (.n (.n .e 75 Wo .e) 76 M6 (.n .e 82 M7 .e)) 83 Wj (.n (.n .e 84 tS .e) 90 V0 .e))) 91 V3 (.n (.n (.n (.n .e 92 Wr .e) 93 Ww (.n .e 94 We .e)) 95 Wb (.n (.n .e 96 UX .e) 97 vS .e)) 98 oT (.n (.n (.n .e 99 Wq .e) 100 Wa .e) 101 Wg (.n (.n .e 102 Wc .e) 119 WN .e))))) 120 aaO (.n (.n (.n (.n (.n (.n .e 121 Nv .e) 122 Nk (.n .e 123 Nj .e)) 124 Wn (.n (.n .e 127 Wf .e) 128 Ws .e)) 132 aaq (.n (.n (.n .e 134 aap .e) 135 aaL (.n .e 136 aav .e)) 137 NA (.n (.n .e 138 aay .e) 139 ad4 .e))) 140 ad2 (.n (.n (.n (.n .e 141 WJ .e) 142 abl (.n .e 143 Wy .e)) 144 abk (.n (.n .e 145 aaH .e) 146 Wp .e)) 147 M8 (.n (.n (.n .e 148 M9 .e) 153 aa6 .e) 154 Wh (.n (.n .e 155 Wk .e) 164 V1 .e)))) 165 UY (.n (.n (.n (.n (.n .e 166 vh .e) 167 aaK (.n .e 168 aaE .e)) 169 vf (.n (.n .e 170 aat .e) 171 aaG .e)) 172 aaD (.n (.n (.n .e 173 W0 .e) 174 aau .e) 175 aaJ (.n (.n .e 176 aa8 .e) 199 WX .e))) 200 Ng (.n (.n (.n (.n .e 201 aaP .e) 202 VM (.n .e 203 Nx .e)) 204 Nw (.n (.n .e 209 vg .e) 210 WD .e)) 211 Nz (.n (.n (.n .e 219 aaz .e) 220 aaA .e) 221 ad5 (.n (.n .e 222 WK .e) 223 aa9 .e)))))) 224 ad3 (.n (.n (.n (.n (.n (.n (.n .e 225 WH .e) 226 U0 (.n .e 227 Nh .e)) 228 aaI (.n (.n .e 229 aaU .e) 239 WL .e)) 240 abd (.n (.n (.n .e 241 aaM .e) 242 abj (.n .e 243 abe .e)) 245 abh (.n (.n .e 246 abf .e) 248 oL .e))) 249 aa5 (.n (.n (.n (.n .e 250 aaF .e) 251 aaQ (.n .e 252 Nf .e)) 253 aan (.n (.n .e 254 zI .e) 255 aaN .e)) 256 aaZ (.n (.n (.n .e 257 HP .e) 258 abm .e) 259 VK (.n (.n .e 260 aa7 .e) 282 WZ .e)))) 283 WY (.n (.n (.n (.n (.n .e 284 WR .e) 285 Nt (.n .e 286 VX .e)) 289 zJ (.n (.n .e 290 aa1 .e) 291 aaX .e)) 292 WE (.n (.n (.n .e 298 WV .e) 299 abb (.n .e 300 Nu .e)) 301 aaV (.n (.n .e 302 abo .e) 307 tT .e))) 308 WM (.n (.n (.n (.n .e 309 Na .e) 310 abi (.n .e 311 abn .e)) 313 NC (.n (.n .e 314 aaS .e) 315 Nl .e)) 316 aaY (.n (.n (.n .e 317 WA .e) 318 aaT .e) 319 VJ (.n (.n .e 320 M' .e) 321 Ns .e))))) 322 VL (.n (.n (.n (.n (.n (.n .e 323 aa0 .e) 324 Nc (.n .e 325 Bz .e)) 326 aba (.n (.n .e 354 WS .e) 356 aa2 .e)) 357 aa3 (.n (.n (.n .e 358 aa4 .e) 359 UW (.n .e 360 aaR .e)) 362 WU (.n (.n .e 363 M3 .e) 365 NB .e))) 366 WW (.n (.n (.n (.n .e 367 WC .e) 369 Np (.n .e 370 ji .e)) 372 Nn (.n (.n .e 373 WB .e) 374 VQ .e)) 375 Nq (.n (.n (.n .e 376 M5 .e) 377 Fi .e) 378 VS (.n (.n .e 379 VN .e) 380 VU .e)))) 381 Nd (.n (.n (.n (.n (.n .e 382 tQ .e) 383 oa (.n .e 385 rz .e)) 406 aaB (.n (.n .e 407 aaW .e) 408 aax .e)) 410 Wx (.n (.n (.n .e 419 Fj .e) 420 WI .e) 421 M_ (.n (.n .e 422 BA .e) 423 Wu .e))) 424 VW (.n (.n (.n (.n .e 425 aa' .e) 426 Nr (.n .e 427 VO .e)) 428 VV (.n (.n .e 429 VT .e) 451 WG .e)) 459 VY (.n (.n (.n .e 460 Wv .e) 461 abc .e) 462 aa_ (.n (.n .e 463 VP .e) 481 aaC .e)))))))
noncomputable def tab:TB:=lits.tb Tryz.prog 384 shared
theorem Ud:LT.U1 Tryz.prog 384 shared lits:=by
 repeat first|exact .e|refine .n ?_ (by kernel_rfl) ?_
theorem XR:tab gm=some tR:=rfl
theorem ab9:tab U4=some UU:=rfl
theorem ab8:tab vj=some UT:=rfl
theorem XT:tab hZ=some oX:=rfl
theorem XU:tab ph=some ry:=rfl
theorem X8:tab FP=some Ni:=rfl
theorem PR:tab FY=some Ny:=rfl
theorem aca:tab PF=some UZ:=rfl
theorem XV:tab FD=some M7:=rfl
theorem aeB:tab jg=some vS:=rfl
theorem aeA:tab fq=some oT:=rfl
theorem Yg:tab Xw=some Nv:=rfl
theorem X_:tab FR=some Nk:=rfl
theorem X9:tab Pd=some Nj:=rfl
theorem PT:tab XC=some NA:=rfl
theorem XW:tab FG=some M8:=rfl
theorem XX:tab FH=some M9:=rfl
theorem ab_:tab mL=some vh:=rfl
theorem ab7:tab me=some vf:=rfl
theorem PO:tab FO=some Ng:=rfl
theorem Yi:tab Xy=some Nx:=rfl
theorem Yh:tab Xx=some Nw:=rfl
theorem Ve:tab dn=some vg:=rfl
theorem PS:tab XA=some Nz:=rfl
theorem acb:tab Ah=some U0:=rfl
theorem F9:tab wW=some Nh:=rfl
theorem ab':tab mJ=some oL:=rfl
theorem X7:tab Pc=some Nf:=rfl
theorem PQ:tab Xu=some Nt:=rfl
theorem F_:tab Xv=some Nu:=rfl
theorem Yl:tab po=some tT:=rfl
theorem X4:tab FK=some Na:=rfl
theorem Ya:tab BO=some Nl:=rfl
theorem XY:tab Pb=some M':=rfl
theorem Yf:tab Xt=some Ns:=rfl
theorem X5:tab FM=some Nc:=rfl
theorem Yk:tab FZ=some NB:=rfl
theorem Yc:tab Pe=some Np:=rfl
theorem XO:tab dN=some ji:=rfl
theorem Yb:tab FX=some Nn:=rfl
theorem Yd:tab Pf=some Nq:=rfl
theorem X6:tab FN=some Nd:=rfl
theorem XQ:tab na=some tQ:=rfl
theorem XP:tab mZ=some oa:=rfl
theorem Yj:tab pk=some Fj:=rfl
theorem XZ:tab FI=some M_:=rfl
theorem Ye:tab Pg=some Nr:=rfl
abbrev sg:Nat->FuncId:=IU 384
theorem env:Env Tryz.prog sg tab.get tab.Fh:=LT.env Ud (by kernel_rfl) (Zv rfl)
end Go.Proofs.YtelifakcllijpaaGreat
end
