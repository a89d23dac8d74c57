/-
  The table: the na own jS, as small code.
-/
import Derived.Test.YthkmdpgdicohdaaGreatProg
import Derived.Test.YthkmdpgdicohdaaGreatParts
import Derived.Test.YthkmdpgdicohdaaGreatK5
import Derived.KernelRfl
set_option linter.unusedVariables false
set_option linter.unusedSimpArgs false
set_option linter.unusedSectionVars false
section
set_option maxRecDepth 100000
namespace Go.Proofs.YthkmdpgdicohdaaGreat
open Go Km
def lits:LT:=(.n (.n (.n (.n (.n (.n (.n .e 5 aeE .e) 8 aaK (.n .e 10 ae2 .e)) 16 aeS (.n (.n .e 22 aaF .e) 23 aaI (.n .e 24 aeu .e))) 26 aex (.n (.n (.n .e 29 aey .e) 31 ah4 (.n .e 32 ah2 .e)) 33 ah0 (.n (.n .e 34 aez .e) 35 aev .e))) 36 aeL (.n (.n (.n (.n .e 37 aeD .e) 38 aeB (.n .e 41 aeJ .e)) 45 aeK (.n (.n .e 46 aew .e) 50 aeP (.n .e 56 aeM .e))) 59 aaG (.n (.n (.n .e 60 aaH .e) 61 aaJ (.n .e 64 aeG .e)) 65 ah3 (.n (.n .e 66 aeA .e) 67 aeO .e)))) 68 ae_ (.n (.n (.n (.n (.n .e 69 Z4 .e) 70 ae5 (.n .e 71 aeC .e)) 73 Z5 (.n (.n .e 74 IQ .e) 76 aeR (.n .e 77 aaR .e))) 78 ae7 (.n (.n (.n .e 80 IU .e) 81 aeQ (.n .e 82 afi .e)) 85 afe (.n (.n .e 93 aeN .e) 94 aeX .e))) 95 I1 (.n (.n (.n (.n .e 104 aeH .e) 106 afh (.n .e 107 aeV .e)) 108 ae0 (.n (.n .e 109 ae6 .e) 110 IM (.n .e 111 ae3 .e))) 112 aeU (.n (.n (.n .e 113 afg .e) 114 IV (.n .e 115 ae4 .e)) 116 aaP (.n (.n .e 117 aeW .e) 118 IZ .e))))) 119 aaS (.n (.n (.n (.n (.n (.n .e 120 ae8 .e) 121 ae9 (.n .e 122 afa .e)) 123 I0 (.n (.n .e 124 aaC .e) 130 Z6 (.n .e 135 aax .e))) 137 afb (.n (.n (.n .e 139 afk .e) 142 aeY (.n .e 143 aff .e)) 144 aa5 (.n (.n .e 146 aa0 .e) 147 aa8 .e))) 150 aau (.n (.n (.n (.n .e 151 ae' .e) 152 ae1 (.n .e 153 aeT .e)) 154 IX (.n (.n .e 155 afd .e) 156 IW (.n .e 157 aaQ .e))) 158 afc (.n (.n (.n .e 167 IL .e) 168 aaD (.n .e 169 aaL .e)) 175 aaw (.n (.n .e 176 aaz .e) 177 aay .e)))) 178 afj (.n (.n (.n (.n (.n .e 179 aaA .e) 180 IP (.n .e 181 IK .e)) 183 aaO (.n (.n .e 184 aaN .e) 188 aat (.n .e 194 aav .e))) 195 aaW (.n (.n (.n .e 196 aaV .e) 197 aaT (.n .e 198 aaU .e)) 199 aa6 (.n (.n .e 200 aa2 .e) 201 ah1 .e))) 202 aa3 (.n (.n (.n (.n .e 203 aa4 .e) 205 aaB (.n .e 206 aeI .e)) 207 aeZ (.n (.n .e 208 aeF .e) 213 aaE .e)) 214 aaM (.n (.n (.n .e 219 IY .e) 222 aaX (.n .e 225 aa7 .e)) 226 aaY (.n (.n .e 227 aaZ .e) 250 aa1 .e))))))
abbrev shared:List Nat:=[28,30,54,55,57,58,63,88,95,96,97,98,99,100,101,102,103,110,114,128,129,139,144,145,147,148,149,150,154,156,162,167,169,172,174,175,176,177,179,180,182,183,195,196,197,198,199,200,201,202,203,204,212,214,216,217,219,220,221,225,226,227,231,232,233,234,235,236,237,238,239,240,241,242,243,244,245,246,250,253,254,255,256,257,258,260,261,262,263]
noncomputable def tab:TB:=lits.tb Tryz.prog vY shared
theorem YA:LT.Z7 Tryz.prog vY shared lits:=by
 repeat first | exact .e | refine .n ?_ (by kernel_rfl) ?_
theorem ah8:tab 10=some ae2:=rfl
theorem ah7:tab 16=some aeS:=rfl
theorem afu:tab 69=some Z4:=rfl
theorem afv:tab 73=some Z5:=rfl
theorem zN:tab 74=some IQ:=rfl
theorem Q5:tab 80=some IU:=rfl
theorem abH:tab 95=some I1:=rfl
theorem abB:tab 110=some IM:=rfl
theorem abD:tab 114=some IV:=rfl
theorem zO:tab 118=some IZ:=rfl
theorem Q6:tab 123=some I0:=rfl
theorem afw:tab 130=some Z6:=rfl
theorem abF:tab 154=some IX:=rfl
theorem abE:tab 156=some IW:=rfl
theorem abA:tab 167=some IL:=rfl
theorem abC:tab 180=some IP:=rfl
theorem abz:tab 181=some IK:=rfl
theorem abG:tab 219=some IY:=rfl
abbrev sg:Nat→FuncId:=BS vY
theorem env:Env Tryz.prog sg tab.get tab.wT:=LT.env YA (by kernel_rfl) (fun _ _ _ _ _ h=>by cases h)
end Go.Proofs.YthkmdpgdicohdaaGreat
end
