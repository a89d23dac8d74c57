/-
  The table: the nX own kU, as small code.
-/
import Derived.Test.YtnaofdffomdmhaaGreatProg
import Derived.Test.YtnaofdffomdmhaaGreatParts
import Derived.Test.YtnaofdffomdmhaaGreatK5
import Derived.Test.YtnaofdffomdmhaaGreatIns
import Derived.KernelRfl
set_option linter.unusedVariables false
set_option linter.unusedSimpArgs false
set_option linter.unusedSectionVars false
section
set_option maxRecDepth 100000
namespace Go.Proofs.YtnaofdffomdmhaaGreat
open Go Km
def lits:LT:=(.n (.n (.n (.n (.n (.n (.n (.n .e 9 aqW .e) 11 aqY .e) 12 amG (.n (.n .e 14 aqX .e) 15 amD .e)) 16 aqJ (.n (.n (.n .e 18 aqM .e) 19 amH .e) 20 aqZ (.n .e 21 amC .e))) 22 aqL (.n (.n (.n (.n .e 23 aq0 .e) 24 aqK .e) 25 ark (.n .e 27 aqN .e)) 28 amL (.n (.n (.n .e 29 amI .e) 30 amR .e) 31 amF (.n .e 33 aqI .e)))) 36 amK (.n (.n (.n (.n (.n .e 37 amJ .e) 38 aqT .e) 39 aqQ (.n (.n .e 40 RI .e) 41 alT .e)) 42 R3 (.n (.n (.n .e 43 aqU .e) 44 Rw .e) 45 aqP (.n .e 50 aqO .e))) 51 alS (.n (.n (.n (.n .e 52 aqV .e) 53 atS .e) 54 aqA (.n .e 55 aqF .e)) 56 aq3 (.n (.n (.n .e 59 am6 .e) 60 amP .e) 61 amE (.n .e 62 amN .e))))) 63 amB (.n (.n (.n (.n (.n (.n .e 64 amV .e) 65 RA .e) 70 ank (.n (.n .e 71 aqR .e) 72 atM .e)) 73 RU (.n (.n (.n .e 74 alV .e) 75 R6 .e) 76 atO (.n .e 77 Rx .e))) 78 amW (.n (.n (.n (.n .e 79 Ry .e) 80 Rz .e) 81 RE (.n .e 82 RF .e)) 83 RD (.n (.n (.n .e 87 amM .e) 88 amO .e) 96 alU (.n .e 97 aqC .e)))) 98 aq7 (.n (.n (.n (.n (.n .e 99 aqE .e) 104 aqG .e) 105 aqB (.n (.n .e 107 alX .e) 108 arf .e)) 110 RL (.n (.n (.n .e 113 amS .e) 114 ang .e) 115 am0 (.n .e 116 amQ .e))) 119 anj (.n (.n (.n (.n .e 120 amY .e) 121 am2 .e) 122 anb (.n .e 123 am1 .e)) 125 amX (.n (.n (.n .e 126 anh .e) 127 amZ .e) 128 amU (.n .e 130 atP .e)))))) 131 alW (.n (.n (.n (.n (.n (.n (.n .e 132 aqS .e) 133 RO .e) 134 R4 (.n (.n .e 135 R8 .e) 136 arv .e)) 137 am8 (.n (.n (.n .e 138 aq6 .e) 139 anf .e) 140 am4 (.n .e 141 RC .e))) 166 RM (.n (.n (.n (.n .e 167 aq8 .e) 168 amy .e) 170 aq4 (.n .e 171 aqD .e)) 173 aro (.n (.n (.n .e 176 aq' .e) 177 ari .e) 178 arc (.n .e 179 arh .e)))) 180 RG (.n (.n (.n (.n (.n .e 188 RW .e) 189 amT .e) 191 RN (.n (.n .e 192 am' .e) 193 ani .e)) 195 ann (.n (.n (.n .e 196 RJ .e) 197 am3 .e) 198 am5 (.n .e 199 ane .e))) 200 am_ (.n (.n (.n (.n .e 202 am7 .e) 203 anp .e) 204 am9 (.n .e 205 anm .e)) 206 RZ (.n (.n (.n .e 207 R5 .e) 208 arw .e) 209 alY (.n .e 212 atQ .e))))) 213 aqH (.n (.n (.n (.n (.n (.n .e 248 RX .e) 249 amA .e) 250 aq5 (.n (.n .e 251 aq_ .e) 255 arj .e)) 256 arl (.n (.n (.n .e 257 arp .e) 258 arn .e) 259 ard (.n .e 260 aq9 .e))) 261 RT (.n (.n (.n (.n .e 268 RY .e) 270 ano .e) 271 RV (.n .e 272 RQ .e)) 273 RP (.n (.n (.n .e 274 ana .e) 277 anl .e) 278 amv (.n .e 279 ans .e)))) 281 R7 (.n (.n (.n (.n (.n .e 283 ars .e) 285 amu .e) 286 art (.n .e 288 arx .e)) 289 aru (.n (.n (.n .e 313 ara .e) 314 amx .e) 319 arq (.n .e 320 aq2 .e))) 321 arb (.n (.n (.n (.n .e 322 aq1 .e) 334 R1 .e) 335 R0 (.n .e 338 atN .e)) 339 anr (.n (.n (.n .e 340 amw .e) 341 anq .e) 354 amt (.n .e 378 amz .e)))))))
abbrev shared:List Nat:=[40,41,42,45,47,73,74,75,81,82,83,86,133,134,135,141,142,180,184,203,205,206,207,216,252,261,264,279,281,285,289,316,318,323,324,325,327,328,330,331,341,342,343,344,345,346,347,348,353,357,379,381,384,385,386,387,391,394,396,397,398,401,403,418,419,420,421,422,423,424,425,433,439,441,448,449,450,457,460,461,462,463,464,465,466,467,469,472,473,474,475,476,477,478,479,480,481,482,484,485,486,487,488,489,490]
noncomputable def tab:TB:=lits.tb Tryz.prog 47 shared
theorem akt:LT.All Tryz.prog 47 shared lits:=by
 repeat first | exact .e | refine .n ?_ (by kernel_rfl) ?_
theorem atX:tab 25=some ark:=rfl
theorem an7:tab 40=some RI:=rfl
theorem arH:tab 41=some alT:=rfl
theorem acf:tab 42=some R3:=rfl
theorem anX:tab 44=some Rw:=rfl
theorem arG:tab 51=some alS:=rfl
theorem an1:tab 65=some RA:=rfl
theorem aod:tab 73=some RU:=rfl
theorem arJ:tab 74=some alV:=rfl
theorem aom:tab 75=some R6:=rfl
theorem anY:tab 77=some Rx:=rfl
theorem anZ:tab 79=some Ry:=rfl
theorem an0:tab 80=some Rz:=rfl
theorem an4:tab 81=some RE:=rfl
theorem an5:tab 82=some RF:=rfl
theorem an3:tab 83=some RD:=rfl
theorem arI:tab 96=some alU:=rfl
theorem arL:tab 107=some alX:=rfl
theorem an9:tab 110=some RL:=rfl
theorem arK:tab 131=some alW:=rfl
theorem an_:tab 133=some RO:=rfl
theorem aok:tab 134=some R4:=rfl
theorem aoo:tab 135=some R8:=rfl
theorem atW:tab 138=some aq6:=rfl
theorem an2:tab 141=some RC:=rfl
theorem acd:tab 166=some RM:=rfl
theorem an6:tab 180=some RG:=rfl
theorem aof:tab 188=some RW:=rfl
theorem an':tab 191=some RN:=rfl
theorem an8:tab 196=some RJ:=rfl
theorem aoh:tab 206=some RZ:=rfl
theorem aol:tab 207=some R5:=rfl
theorem arM:tab 209=some alY:=rfl
theorem ace:tab 248=some RX:=rfl
theorem aoc:tab 261=some RT:=rfl
theorem aog:tab 268=some RY:=rfl
theorem aoe:tab 271=some RV:=rfl
theorem aob:tab 272=some RQ:=rfl
theorem aoa:tab 273=some RP:=rfl
theorem aon:tab 281=some R7:=rfl
theorem aoj:tab 334=some R1:=rfl
theorem aoi:tab 335=some R0:=rfl
abbrev sg:Nat→FuncId:=F5 47
theorem env:Env Tryz.prog sg tab.get tab.tt:=LT.env akt (by kernel_rfl) (apG rfl)
end Go.Proofs.YtnaofdffomdmhaaGreat
end
