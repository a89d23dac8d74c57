/-
  The table: the nL own jY, as small code.
-/
import Derived.Test.YthkmdpgdicohdaaGreatProg
import Derived.Test.YthkmdpgdicohdaaGreatParts
import Derived.Test.YthkmdpgdicohdaaGreatK5
import Derived.KernelRfl
set_option linter.unusedVariables false
set_option linter.unusedSimpArgs false
set_option linter.unusedSectionVars false
section
set_option maxRecDepth 100000
namespace Go.Proofs.YthkmdpgdicohdaaGreat
open Go Km
def lits:LT:=(.n (.n (.n (.n (.n (.n (.n (.n .e 4 aiS .e) 8 aeJ .e) 9 adX (.n .e 10 aje .e)) 12 aiT (.n (.n (.n .e 13 aeG .e) 14 adY .e) 15 aiC (.n .e 22 aeD .e))) 23 aeH (.n (.n (.n (.n .e 24 aiE .e) 25 aiH .e) 26 aiL (.n .e 27 aiG .e)) 28 aeR (.n (.n .e 29 aiM .e) 30 aeN (.n .e 31 amh .e)))) 32 amf (.n (.n (.n (.n (.n .e 33 amd .e) 34 aiN .e) 35 aiJ (.n .e 36 ai1 .e)) 37 aiR (.n (.n .e 38 aiP .e) 40 adZ (.n .e 41 aiY .e))) 42 aiZ (.n (.n (.n (.n .e 43 aiD .e) 44 ai4 .e) 46 aiK (.n .e 47 Lq .e)) 50 ai6 (.n (.n .e 56 ai2 .e) 59 aeE (.n .e 60 aeF .e))))) 61 aeI (.n (.n (.n (.n (.n (.n .e 62 aiI .e) 63 LX .e) 64 aiV (.n .e 65 amg .e)) 66 aiO (.n (.n (.n .e 67 ai5 .e) 68 ajp .e) 69 ad0 (.n .e 70 ajj .e))) 71 aiQ (.n (.n (.n (.n .e 72 aiF .e) 73 ad1 .e) 74 Lr (.n .e 75 ai0 .e)) 76 ai8 (.n (.n .e 77 aeS .e) 78 ajl (.n .e 79 Ly .e)))) 80 Lt (.n (.n (.n (.n (.n .e 81 ai7 .e) 82 ajy .e) 85 aju (.n .e 93 ai3 .e)) 94 ajb (.n (.n .e 95 LC .e) 96 LL (.n .e 97 LK .e))) 98 LF (.n (.n (.n (.n .e 99 LG .e) 100 LY .e) 101 LU (.n .e 102 LW .e)) 103 LV (.n (.n .e 104 aiW .e) 106 ajx (.n .e 107 ai_ .e)))))) 108 ajf (.n (.n (.n (.n (.n (.n (.n .e 109 ajk .e) 110 Lo .e) 111 ajh (.n .e 112 ai' .e)) 113 ajw (.n (.n (.n .e 114 Lu .e) 115 aji .e) 116 aeP (.n .e 117 aja .e))) 118 Lz (.n (.n (.n (.n .e 119 aeT .e) 120 ajm .e) 121 ajn (.n .e 122 ajq .e)) 123 LA (.n (.n .e 124 aeA .e) 130 Lk (.n .e 135 aev .e)))) 137 ajr (.n (.n (.n (.n (.n .e 139 aeq .e) 142 ajc .e) 143 ajv (.n .e 144 ae5 .e)) 145 LZ (.n (.n .e 146 LP .e) 147 L_ (.n .e 148 LM .e))) 149 LN (.n (.n (.n (.n .e 150 aes .e) 151 ajo .e) 152 ajg (.n .e 153 ai9 .e)) 154 Lw (.n (.n .e 155 ajt .e) 156 Lv (.n .e 157 aeQ .e))))) 158 ajs (.n (.n (.n (.n (.n (.n .e 167 Ln .e) 168 aeB .e) 169 aeK (.n .e 175 aeu .e)) 176 aex (.n (.n (.n .e 177 aew .e) 178 aep .e) 179 aey (.n .e 180 Lp .e))) 181 Lm (.n (.n (.n (.n .e 183 aeO .e) 184 aeM .e) 188 aer (.n .e 194 aet .e)) 195 aeX (.n (.n .e 196 aeW .e) 197 aeU (.n .e 198 aeV .e)))) 199 ae6 (.n (.n (.n (.n (.n .e 200 ae2 .e) 201 ame .e) 202 ae3 (.n .e 203 ae4 .e)) 204 LS (.n (.n .e 205 aez .e) 206 aiX (.n .e 207 ajd .e))) 208 aiU (.n (.n (.n (.n .e 213 aeC .e) 214 aeL .e) 219 Lx (.n .e 222 aeY .e)) 225 ae7 (.n (.n .e 226 aeZ .e) 227 ae0 (.n .e 250 ae1 .e)))))))
abbrev shared:List Nat:=[28,30,54,55,57,58,63,88,95,96,97,98,99,100,101,102,103,110,114,128,129,139,144,145,147,148,149,150,154,156,162,167,169,172,174,175,176,177,179,180,182,183,195,196,197,198,199,200,201,202,203,204,212,214,216,217,219,220,221,225,226,227,231,232,233,234,235,236,237,238,239,240,241,242,243,244,245,246,250,253,254,255,256,257,258,260,261,262,263]
noncomputable def tab:TB:=lits.tb Tryz.prog xT shared
theorem acw:LT.All Tryz.prog xT shared lits:=by
 repeat first | exact .e | refine .n ?_ (by kernel_rfl) ?_
theorem ajH:tab 9=some adX:=rfl
theorem aml:tab 10=some aje:=rfl
theorem ajI:tab 14=some adY:=rfl
theorem ajJ:tab 40=some adZ:=rfl
theorem afz:tab 47=some Lq:=rfl
theorem U8:tab 63=some LX:=rfl
theorem ad3:tab 69=some ad0:=rfl
theorem ajK:tab 73=some ad1:=rfl
theorem Bn:tab 74=some Lr:=rfl
theorem afE:tab 79=some Ly:=rfl
theorem U5:tab 80=some Lt:=rfl
theorem afF:tab 95=some LC:=rfl
theorem U7:tab 96=some LL:=rfl
theorem afI:tab 97=some LK:=rfl
theorem afG:tab 98=some LF:=rfl
theorem afH:tab 99=some LG:=rfl
theorem afQ:tab 100=some LY:=rfl
theorem afN:tab 101=some LU:=rfl
theorem afP:tab 102=some LW:=rfl
theorem afO:tab 103=some LV:=rfl
theorem afx:tab 110=some Lo:=rfl
theorem afA:tab 114=some Lu:=rfl
theorem Bo:tab 118=some Lz:=rfl
theorem U6:tab 123=some LA:=rfl
theorem afu:tab 130=some Lk:=rfl
theorem afR:tab 145=some LZ:=rfl
theorem afL:tab 146=some LP:=rfl
theorem afS:tab 147=some L_:=rfl
theorem afJ:tab 148=some LM:=rfl
theorem afK:tab 149=some LN:=rfl
theorem afC:tab 154=some Lw:=rfl
theorem afB:tab 156=some Lv:=rfl
theorem afw:tab 167=some Ln:=rfl
theorem afy:tab 180=some Lp:=rfl
theorem afv:tab 181=some Lm:=rfl
theorem afM:tab 204=some LS:=rfl
theorem afD:tab 219=some Lx:=rfl
abbrev sg:Nat→FuncId:=Dp xT
theorem env:Env Tryz.prog sg tab.get tab.yT:=LT.env acw (by kernel_rfl) (fun _ _ _ _ _ h=>by cases h)
end Go.Proofs.YthkmdpgdicohdaaGreat
end
