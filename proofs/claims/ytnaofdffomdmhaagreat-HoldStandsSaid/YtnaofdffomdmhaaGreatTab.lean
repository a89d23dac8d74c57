/-
  The table: ta nM own kS, as small code.
-/
import Derived.Test.YtnaofdffomdmhaaGreatProg
import Derived.Test.YtnaofdffomdmhaaGreatParts
import Derived.Test.YtnaofdffomdmhaaGreatK5
import Derived.Test.YtnaofdffomdmhaaGreatIns
import Derived.KernelRfl
set_option linter.unusedVariables false
set_option linter.unusedSimpArgs false
set_option linter.unusedSectionVars false
section
set_option maxRecDepth 100000
namespace Go.Proofs.YtnaofdffomdmhaaGreat
open Go Km
def lits:LT:=(.n (.n (.n (.n (.n (.n (.n (.n .e 7 apx .e) 8 apy .e) 11 apA (.n .e 14 apz .e)) 15 alr (.n (.n (.n .e 16 apj .e) 18 apm .e) 20 apB (.n .e 22 apl .e))) 24 apk (.n (.n (.n (.n .e 25 apU .e) 26 alD .e) 27 apn (.n .e 28 alx .e)) 31 alu (.n (.n (.n .e 33 api .e) 36 alw .e) 37 alv (.n .e 38 apu .e)))) 39 apr (.n (.n (.n (.n (.n .e 40 Q6 .e) 41 akJ .e) 42 Rl (.n .e 43 apv .e)) 44 QX (.n (.n (.n .e 45 apq .e) 50 apo .e) 51 akI (.n .e 52 apw .e))) 53 asv (.n (.n (.n (.n .e 54 apa .e) 55 apf .e) 56 apE (.n .e 59 alP .e)) 60 alB (.n (.n .e 61 als .e) 62 alz (.n .e 64 alH .e))))) 70 al2 (.n (.n (.n (.n (.n (.n .e 71 aps .e) 72 asq .e) 73 Rd (.n .e 74 akL .e)) 75 Ro (.n (.n (.n .e 76 ass .e) 77 QY .e) 78 alI (.n .e 79 QZ .e))) 80 Q0 (.n (.n (.n (.n .e 81 Q3 .e) 82 Q4 .e) 83 Q2 (.n .e 87 aly .e)) 88 alA (.n (.n .e 96 akK .e) 97 apc (.n .e 98 apI .e)))) 99 ape (.n (.n (.n (.n (.n .e 104 apg .e) 105 apb .e) 107 akN (.n .e 108 apR .e)) 110 Q7 (.n (.n (.n .e 113 alE .e) 114 alZ .e) 115 alM (.n .e 116 alC .e))) 119 al1 (.n (.n (.n (.n .e 120 alK .e) 122 alW .e) 125 alJ (.n .e 127 alL .e)) 128 alG (.n (.n .e 130 ast .e) 131 akM (.n .e 132 apt .e)))))) 133 Q_ (.n (.n (.n (.n (.n (.n (.n .e 134 Rm .e) 135 Rq .e) 136 ap4 (.n .e 137 alR .e)) 138 apH (.n (.n (.n .e 139 alY .e) 140 alN .e) 141 Q1 (.n .e 166 Q8 .e))) 167 apJ (.n (.n (.n (.n .e 168 alo .e) 170 apF .e) 171 apd (.n .e 173 apY .e)) 176 apL (.n (.n .e 177 apT .e) 178 apP (.n .e 179 apS .e)))) 180 Q5 (.n (.n (.n (.n (.n .e 188 Re .e) 189 alF .e) 191 Q9 (.n .e 192 alT .e)) 193 al0 (.n (.n (.n .e 198 alO .e) 199 alX .e) 200 alU (.n .e 202 alQ .e))) 203 al5 (.n (.n (.n (.n .e 204 alS .e) 205 al4 .e) 206 Ri (.n .e 207 Rn .e)) 208 ap5 (.n (.n .e 209 akO .e) 212 asu (.n .e 213 aph .e))))) 248 Rg (.n (.n (.n (.n (.n (.n .e 249 alq .e) 250 apG .e) 251 apM (.n .e 255 apV .e)) 256 apW (.n (.n (.n .e 257 apZ .e) 258 apX .e) 259 apQ (.n .e 260 apK .e))) 261 Rc (.n (.n (.n (.n .e 268 Rh .e) 272 Rb .e) 273 Ra (.n .e 274 alV .e)) 277 al3 (.n (.n .e 278 alk .e) 279 al8 (.n .e 281 Rp .e)))) 283 ap1 (.n (.n (.n (.n (.n .e 285 alj .e) 286 ap2 .e) 288 alh (.n .e 289 ap3 .e)) 313 apN (.n (.n (.n .e 314 aln .e) 319 ap0 .e) 320 apD (.n .e 321 apO .e))) 322 apC (.n (.n (.n (.n .e 334 Rk .e) 335 Rj .e) 338 asr (.n .e 339 al7 .e)) 340 alm (.n (.n .e 341 al6 .e) 354 ali (.n .e 378 alp .e)))))))
abbrev shared:List Nat:=[40,41,42,45,47,73,74,75,81,82,83,86,133,134,135,141,142,180,184,203,205,206,207,216,252,261,264,279,281,285,289,316,318,323,324,325,327,328,330,331,341,342,343,344,345,346,347,348,353,357,379,381,384,385,386,387,391,394,396,397,398,401,403,418,419,420,421,422,423,424,425,433,439,441,448,449,450,457,460,461,462,463,464,465,466,467,469,472,473,474,475,476,477,478,479,480,481,482,484,485,486,487,488,489,490]
noncomputable def tab:TB:=lits.tb Tryz.prog 47 shared
theorem aji:LT.All Tryz.prog 47 shared lits:=by
 repeat first | exact .e | refine .n ?_ (by kernel_rfl) ?_
theorem asA:tab 25=some apU:=rfl
theorem amJ:tab 40=some Q6:=rfl
theorem aqd:tab 41=some akJ:=rfl
theorem aa6:tab 42=some Rl:=rfl
theorem amA:tab 44=some QX:=rfl
theorem aqc:tab 51=some akI:=rfl
theorem amQ:tab 73=some Rd:=rfl
theorem aqf:tab 74=some akL:=rfl
theorem amY:tab 75=some Ro:=rfl
theorem amB:tab 77=some QY:=rfl
theorem amC:tab 79=some QZ:=rfl
theorem amD:tab 80=some Q0:=rfl
theorem amG:tab 81=some Q3:=rfl
theorem amH:tab 82=some Q4:=rfl
theorem amF:tab 83=some Q2:=rfl
theorem aqe:tab 96=some akK:=rfl
theorem aqh:tab 107=some akN:=rfl
theorem amK:tab 110=some Q7:=rfl
theorem aqg:tab 131=some akM:=rfl
theorem amM:tab 133=some Q_:=rfl
theorem amW:tab 134=some Rm:=rfl
theorem am0:tab 135=some Rq:=rfl
theorem asz:tab 138=some apH:=rfl
theorem amE:tab 141=some Q1:=rfl
theorem aa4:tab 166=some Q8:=rfl
theorem amI:tab 180=some Q5:=rfl
theorem amR:tab 188=some Re:=rfl
theorem amL:tab 191=some Q9:=rfl
theorem amT:tab 206=some Ri:=rfl
theorem amX:tab 207=some Rn:=rfl
theorem aqi:tab 209=some akO:=rfl
theorem aa5:tab 248=some Rg:=rfl
theorem amP:tab 261=some Rc:=rfl
theorem amS:tab 268=some Rh:=rfl
theorem amO:tab 272=some Rb:=rfl
theorem amN:tab 273=some Ra:=rfl
theorem amZ:tab 281=some Rp:=rfl
theorem amV:tab 334=some Rk:=rfl
theorem amU:tab 335=some Rj:=rfl
abbrev sg:Nat→FuncId:=Gi 47
theorem env:Env Tryz.prog sg tab.get tab.sX:=LT.env aji (by kernel_rfl) (aoe rfl)
end Go.Proofs.YtnaofdffomdmhaaGreat
end
