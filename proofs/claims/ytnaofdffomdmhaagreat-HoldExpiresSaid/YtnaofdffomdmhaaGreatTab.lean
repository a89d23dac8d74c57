/-
  The table: the mz own jK, as small code.
-/
import Derived.Test.YtnaofdffomdmhaaGreatProg
import Derived.Test.YtnaofdffomdmhaaGreatParts
import Derived.Test.YtnaofdffomdmhaaGreatK5
import Derived.Test.YtnaofdffomdmhaaGreatIns
import Derived.KernelRfl
set_option linter.unusedVariables false
set_option linter.unusedSimpArgs false
set_option linter.unusedSectionVars false
section
set_option maxRecDepth 100000
namespace Go.Proofs.YtnaofdffomdmhaaGreat
open Go Km
def lits:LT:=(.n (.n (.n (.n (.n (.n (.n (.n .e 4 al9 .e) 11 al_ .e) 12 aib (.n .e 14 al' .e)) 15 ah_ (.n (.n (.n .e 16 alX .e) 18 alZ .e) 19 aic (.n .e 20 ama .e))) 22 alY (.n (.n (.n (.n .e 25 amu .e) 27 al0 .e) 29 aid (.n .e 31 aia .e)) 33 alW (.n (.n .e 36 aif .e) 37 aie (.n .e 38 al6 .e)))) 39 al3 (.n (.n (.n (.n (.n .e 40 Oh .e) 41 ahs .e) 42 OB (.n .e 43 al7 .e)) 44 N' (.n (.n .e 45 al2 .e) 50 al1 (.n .e 51 ahr .e))) 52 al8 (.n (.n (.n (.n .e 53 ao2 .e) 54 alO .e) 55 alT (.n .e 56 amd .e)) 59 ais (.n (.n .e 63 ah' .e) 64 aik (.n .e 70 aiF .e))))) 71 al4 (.n (.n (.n (.n (.n (.n .e 72 aoX .e) 73 Ou .e) 74 ahu (.n .e 75 OE .e)) 76 aoZ (.n (.n (.n .e 77 N_ .e) 78 ail .e) 79 Oa (.n .e 80 Ob .e))) 81 Oe (.n (.n (.n (.n .e 82 Of .e) 83 Od .e) 96 aht (.n .e 97 alQ .e)) 98 amh (.n (.n .e 99 alS .e) 104 alU (.n .e 105 alP .e)))) 107 ahw (.n (.n (.n (.n (.n .e 108 amq .e) 110 Oi .e) 113 aih (.n .e 114 aiC .e)) 115 aip (.n (.n .e 119 aiE .e) 120 ain (.n .e 122 aiz .e))) 125 aim (.n (.n (.n (.n .e 127 aio .e) 128 aij .e) 130 ao0 (.n .e 131 ahv .e)) 132 al5 (.n (.n .e 133 On .e) 134 OC (.n .e 135 OH .e)))))) 136 amD (.n (.n (.n (.n (.n (.n (.n .e 137 aiu .e) 138 amg .e) 139 aiB (.n .e 140 aiq .e)) 141 Oc (.n (.n (.n .e 166 Oj .e) 167 ami .e) 168 ah7 (.n .e 170 ame .e))) 171 alR (.n (.n (.n (.n .e 173 amx .e) 176 amk .e) 177 ams (.n .e 178 amo .e)) 179 amr (.n (.n .e 180 Og .e) 188 Ov (.n .e 189 aii .e)))) 191 Om (.n (.n (.n (.n (.n .e 192 aiw .e) 193 aiD .e) 198 air (.n .e 199 aiA .e)) 200 aix (.n (.n .e 202 ait .e) 203 aiI (.n .e 204 aiv .e))) 205 aiH (.n (.n (.n (.n .e 206 Oy .e) 207 OD .e) 208 amE (.n .e 209 ahx .e)) 212 ao1 (.n (.n .e 213 alV .e) 248 Ow (.n .e 249 ah9 .e))))) 250 amf (.n (.n (.n (.n (.n (.n .e 251 aml .e) 255 amt .e) 256 amv (.n .e 257 amy .e)) 258 amw (.n (.n .e 259 amp .e) 260 amj (.n .e 261 Ot .e))) 268 Ox (.n (.n (.n (.n .e 272 Oq .e) 273 Oo .e) 274 aiy (.n .e 277 aiG .e)) 278 ah4 (.n (.n .e 279 aiL .e) 281 OG (.n .e 283 amA .e)))) 285 ah3 (.n (.n (.n (.n (.n .e 286 amB .e) 288 amF .e) 289 amC (.n .e 313 amm .e)) 314 ah6 (.n (.n .e 319 amz .e) 320 amc (.n .e 321 amn .e))) 322 amb (.n (.n (.n (.n .e 334 OA .e) 335 Oz .e) 338 aoY (.n .e 339 aiK .e)) 340 ah5 (.n (.n .e 341 aiJ .e) 354 ah2 (.n .e 378 ah8 .e)))))))
abbrev shared:List Nat:=[40,41,42,45,47,73,74,75,81,82,83,86,133,134,135,141,142,180,184,203,205,206,207,216,252,261,264,279,281,285,289,316,318,323,324,325,327,328,330,331,341,342,343,344,345,346,347,348,353,357,379,381,384,385,386,387,391,394,396,397,398,401,403,418,419,420,421,422,423,424,425,433,439,441,448,449,450,457,460,461,462,463,464,465,466,467,469,472,473,474,475,476,477,478,479,480,481,482,484,485,486,487,488,489,490]
noncomputable def tab:TB:=lits.tb Tryz.prog 47 shared
theorem aga:LT.All Tryz.prog 47 shared lits:=by
 repeat first | exact .e | refine .n ?_ (by kernel_rfl) ?_
theorem ao7:tab 25=some amu:=rfl
theorem ajm:tab 40=some Oh:=rfl
theorem amP:tab 41=some ahs:=rfl
theorem X6:tab 42=some OB:=rfl
theorem ajd:tab 44=some N':=rfl
theorem amO:tab 51=some ahr:=rfl
theorem ajt:tab 73=some Ou:=rfl
theorem amR:tab 74=some ahu:=rfl
theorem ajB:tab 75=some OE:=rfl
theorem aje:tab 77=some N_:=rfl
theorem ajf:tab 79=some Oa:=rfl
theorem ajg:tab 80=some Ob:=rfl
theorem ajj:tab 81=some Oe:=rfl
theorem ajk:tab 82=some Of:=rfl
theorem aji:tab 83=some Od:=rfl
theorem amQ:tab 96=some aht:=rfl
theorem amT:tab 107=some ahw:=rfl
theorem ajn:tab 110=some Oi:=rfl
theorem amS:tab 131=some ahv:=rfl
theorem ajp:tab 133=some On:=rfl
theorem ajz:tab 134=some OC:=rfl
theorem ajD:tab 135=some OH:=rfl
theorem ao6:tab 138=some amg:=rfl
theorem ajh:tab 141=some Oc:=rfl
theorem X4:tab 166=some Oj:=rfl
theorem ajl:tab 180=some Og:=rfl
theorem aju:tab 188=some Ov:=rfl
theorem ajo:tab 191=some Om:=rfl
theorem ajw:tab 206=some Oy:=rfl
theorem ajA:tab 207=some OD:=rfl
theorem amU:tab 209=some ahx:=rfl
theorem X5:tab 248=some Ow:=rfl
theorem ajs:tab 261=some Ot:=rfl
theorem ajv:tab 268=some Ox:=rfl
theorem ajr:tab 272=some Oq:=rfl
theorem ajq:tab 273=some Oo:=rfl
theorem ajC:tab 281=some OG:=rfl
theorem ajy:tab 334=some OA:=rfl
theorem ajx:tab 335=some Oz:=rfl
abbrev sg:Nat→FuncId:=DV 47
theorem env:Env Tryz.prog sg tab.get tab.rn:=LT.env aga (by kernel_rfl) (akR rfl)
end Go.Proofs.YtnaofdffomdmhaaGreat
end
