/-
  The table: the nb own km, as small code.
-/
import Derived.Test.YtnaofdffomdmhaaGreatProg
import Derived.Test.YtnaofdffomdmhaaGreatParts
import Derived.Test.YtnaofdffomdmhaaGreatK5
import Derived.Test.YtnaofdffomdmhaaGreatIns
import Derived.KernelRfl
set_option linter.unusedVariables false
set_option linter.unusedSimpArgs false
set_option linter.unusedSectionVars false
section
set_option maxRecDepth 100000
namespace Go.Proofs.YtnaofdffomdmhaaGreat
open Go Km
def lits:LT:=(.n (.n (.n (.n (.n (.n (.n (.n .e 5 anL .e) 6 anM .e) 11 anO (.n .e 14 anN .e)) 15 ajR (.n (.n (.n .e 16 anz .e) 18 anB .e) 19 ajT (.n .e 20 anP .e))) 21 ajQ (.n (.n (.n (.n .e 22 anA .e) 23 anQ .e) 25 an9 (.n .e 27 anC .e)) 29 ajU (.n (.n .e 31 ajS .e) 33 anx (.n .e 36 ajW .e)))) 37 ajV (.n (.n (.n (.n (.n .e 38 anI .e) 39 anF .e) 40 PM (.n .e 41 ai8 .e)) 42 P2 (.n (.n (.n .e 43 anJ .e) 44 PD .e) 45 anE (.n .e 50 anD .e))) 51 ai7 (.n (.n (.n (.n .e 52 anK .e) 53 aqB .e) 54 anp (.n .e 55 anu .e)) 56 anT (.n (.n .e 59 aj8 .e) 63 ajP (.n .e 64 aj0 .e))))) 70 akj (.n (.n (.n (.n (.n (.n .e 71 anG .e) 72 aqw .e) 73 PV (.n .e 74 ai' .e)) 75 P5 (.n (.n (.n .e 76 aqy .e) 77 PE .e) 78 aj1 (.n .e 79 PF .e))) 80 PG (.n (.n (.n (.n .e 81 PJ .e) 82 PK .e) 83 PI (.n .e 96 ai9 .e)) 97 anr (.n (.n .e 98 anX .e) 99 ant (.n .e 104 anv .e)))) 105 anq (.n (.n (.n (.n (.n .e 107 aja .e) 108 an6 .e) 110 PN (.n .e 113 ajX .e)) 114 akg (.n (.n .e 115 aj5 .e) 119 aki (.n .e 120 aj3 .e))) 122 akd (.n (.n (.n (.n .e 125 aj2 .e) 127 aj4 .e) 128 ajZ (.n .e 130 aqz .e)) 131 ai_ (.n (.n .e 132 anH .e) 133 PR (.n .e 134 P3 .e)))))) 135 P7 (.n (.n (.n (.n (.n (.n (.n .e 136 aoh .e) 137 aj' .e) 138 anW (.n .e 139 akf .e)) 140 aj6 (.n (.n (.n .e 141 PH .e) 166 PO .e) 167 anY (.n .e 168 ajM .e))) 170 anU (.n (.n (.n (.n .e 171 ans .e) 173 aob .e) 176 an0 (.n .e 177 an8 .e)) 178 an4 (.n (.n .e 179 an7 .e) 180 PL (.n .e 188 PW .e)))) 189 ajY (.n (.n (.n (.n (.n .e 191 PQ .e) 192 aka .e) 193 akh (.n .e 198 aj7 .e)) 199 ake (.n (.n .e 200 akb .e) 202 aj9 (.n .e 203 akm .e))) 204 aj_ (.n (.n (.n (.n .e 205 akl .e) 206 PZ .e) 207 P4 (.n .e 208 aoi .e)) 209 ajb (.n (.n .e 212 aqA .e) 213 anw (.n .e 248 PX .e))))) 249 ajO (.n (.n (.n (.n (.n (.n .e 250 anV .e) 251 an1 .e) 255 an' (.n .e 256 an_ .e)) 257 aoc (.n (.n (.n .e 258 aoa .e) 259 an5 .e) 260 anZ (.n .e 261 PU .e))) 268 PY (.n (.n (.n (.n .e 272 PT .e) 273 PS .e) 274 akc (.n .e 277 akk .e)) 278 ajJ (.n (.n .e 279 akp .e) 281 P6 (.n .e 283 aoe .e)))) 285 ajI (.n (.n (.n (.n (.n .e 286 aof .e) 288 ajG .e) 289 aog (.n .e 313 an2 .e)) 314 ajL (.n (.n .e 319 aod .e) 320 anS (.n .e 321 an3 .e))) 322 anR (.n (.n (.n (.n .e 334 P1 .e) 335 P0 .e) 338 aqx (.n .e 339 ako .e)) 340 ajK (.n (.n .e 341 akn .e) 354 ajH (.n .e 378 ajN .e)))))))
abbrev shared:List Nat:=[40,41,42,45,47,73,74,75,81,82,83,86,133,134,135,141,142,180,184,203,205,206,207,216,252,261,264,279,281,285,289,316,318,323,324,325,327,328,330,331,341,342,343,344,345,346,347,348,353,357,379,381,384,385,386,387,391,394,396,397,398,401,403,418,419,420,421,422,423,424,425,433,439,441,448,449,450,457,460,461,462,463,464,465,466,467,469,472,473,474,475,476,477,478,479,480,481,482,484,485,486,487,488,489,490]
noncomputable def tab:TB:=lits.tb Tryz.prog 47 shared
theorem ahR:LT.All Tryz.prog 47 shared lits:=by
 repeat first | exact .e | refine .n ?_ (by kernel_rfl) ?_
theorem aqH:tab 25=some an9:=rfl
theorem ak2:tab 40=some PM:=rfl
theorem aot:tab 41=some ai8:=rfl
theorem ZK:tab 42=some P2:=rfl
theorem akT:tab 44=some PD:=rfl
theorem aor:tab 51=some ai7:=rfl
theorem ak9:tab 73=some PV:=rfl
theorem aov:tab 74=some ai':=rfl
theorem alf:tab 75=some P5:=rfl
theorem akU:tab 77=some PE:=rfl
theorem akV:tab 79=some PF:=rfl
theorem akW:tab 80=some PG:=rfl
theorem akZ:tab 81=some PJ:=rfl
theorem ak0:tab 82=some PK:=rfl
theorem akY:tab 83=some PI:=rfl
theorem aou:tab 96=some ai9:=rfl
theorem aox:tab 107=some aja:=rfl
theorem ak3:tab 110=some PN:=rfl
theorem aow:tab 131=some ai_:=rfl
theorem ak5:tab 133=some PR:=rfl
theorem ald:tab 134=some P3:=rfl
theorem alh:tab 135=some P7:=rfl
theorem aqG:tab 138=some anW:=rfl
theorem akX:tab 141=some PH:=rfl
theorem ZI:tab 166=some PO:=rfl
theorem ak1:tab 180=some PL:=rfl
theorem ak':tab 188=some PW:=rfl
theorem ak4:tab 191=some PQ:=rfl
theorem ala:tab 206=some PZ:=rfl
theorem ale:tab 207=some P4:=rfl
theorem aoy:tab 209=some ajb:=rfl
theorem ZJ:tab 248=some PX:=rfl
theorem ak8:tab 261=some PU:=rfl
theorem ak_:tab 268=some PY:=rfl
theorem ak7:tab 272=some PT:=rfl
theorem ak6:tab 273=some PS:=rfl
theorem alg:tab 281=some P6:=rfl
theorem alc:tab 334=some P1:=rfl
theorem alb:tab 335=some P0:=rfl
abbrev sg:Nat→FuncId:=Fo 47
theorem env:Env Tryz.prog sg tab.get tab.rD:=LT.env ahR (by kernel_rfl) (amv rfl)
end Go.Proofs.YtnaofdffomdmhaaGreat
end
