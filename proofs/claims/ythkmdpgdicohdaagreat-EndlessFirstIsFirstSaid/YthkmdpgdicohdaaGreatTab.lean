/-
  The table: the nz own kH, as small code.
-/
import Derived.Test.YthkmdpgdicohdaaGreatProg
import Derived.Test.YthkmdpgdicohdaaGreatParts
import Derived.Test.YthkmdpgdicohdaaGreatK5
import Derived.KernelRfl
set_option linter.unusedVariables false
set_option linter.unusedSimpArgs false
set_option linter.unusedSectionVars false
section
set_option maxRecDepth 100000
namespace Go.Proofs.YthkmdpgdicohdaaGreat
open Go Km
def lits:LT:=(.n (.n (.n (.n (.n (.n (.n (.n .e 3 agX .e) 8 acS .e) 9 ab5 (.n .e 10 ahh .e)) 11 acN (.n (.n .e 12 agY .e) 13 acO (.n .e 22 acK .e))) 23 acQ (.n (.n (.n (.n .e 24 agK .e) 25 agM .e) 26 agQ (.n .e 27 agL .e)) 28 ac0 (.n (.n .e 29 agR .e) 30 acW (.n .e 31 akg .e)))) 32 ake (.n (.n (.n (.n (.n .e 33 akc .e) 34 agS .e) 35 agO (.n .e 36 ag3 .e)) 37 agW (.n (.n .e 38 agU .e) 39 acP (.n .e 44 ag6 .e))) 46 agP (.n (.n (.n .e 50 ag8 .e) 56 ag4 (.n .e 59 acL .e)) 60 acM (.n (.n .e 61 acR .e) 62 agN (.n .e 63 KI .e))))) 64 ag0 (.n (.n (.n (.n (.n (.n .e 65 akf .e) 66 agT .e) 67 ag7 (.n .e 68 ahr .e)) 69 ab6 (.n (.n .e 70 ahl .e) 71 agV (.n .e 73 ab7 .e))) 74 Kj (.n (.n (.n (.n .e 76 ag' .e) 77 ac1 .e) 78 ahn (.n .e 80 Kk .e)) 81 ag9 (.n (.n .e 82 ahA .e) 85 ahw (.n .e 93 ag5 .e)))) 94 ahd (.n (.n (.n (.n (.n .e 95 Kt .e) 96 Kx .e) 97 Kw (.n .e 98 Ku .e)) 99 Kv (.n (.n .e 100 KJ .e) 101 KF (.n .e 102 KH .e))) 103 KG (.n (.n (.n .e 104 ag1 .e) 106 ahz (.n .e 107 ahb .e)) 108 ahg (.n (.n .e 109 ahm .e) 110 Kh (.n .e 111 ahj .e)))))) 112 aha (.n (.n (.n (.n (.n (.n (.n .e 113 ahy .e) 114 Kl .e) 115 ahk (.n .e 116 acY .e)) 117 ahc (.n (.n .e 118 Kr .e) 119 ac2 (.n .e 120 aho .e))) 121 ahp (.n (.n (.n (.n .e 122 ahs .e) 123 Ks .e) 124 acH (.n .e 130 Kd .e)) 135 acC (.n (.n .e 137 aht .e) 139 acx (.n .e 142 ahe .e)))) 143 ahx (.n (.n (.n (.n (.n .e 144 ade .e) 145 KK .e) 146 KA (.n .e 147 KL .e)) 148 Ky (.n (.n .e 149 Kz .e) 150 acz (.n .e 151 ahq .e))) 152 ahi (.n (.n (.n .e 153 ag_ .e) 154 Ko (.n .e 155 ahv .e)) 156 Kn (.n (.n .e 157 acZ .e) 158 ahu (.n .e 167 Kg .e))))) 168 acI (.n (.n (.n (.n (.n (.n .e 169 acT .e) 175 acB .e) 176 acE (.n .e 177 acD .e)) 178 ahB (.n (.n .e 179 acF .e) 180 Ki (.n .e 181 Ke .e))) 183 acX (.n (.n (.n (.n .e 184 acV .e) 188 acy .e) 194 acA (.n .e 195 ac6 .e)) 196 ac5 (.n (.n .e 197 ac3 .e) 198 ac4 (.n .e 199 adf .e)))) 200 ac_ (.n (.n (.n (.n (.n .e 201 akd .e) 202 ada .e) 203 adb (.n .e 204 KB .e)) 205 acG (.n (.n .e 206 ag2 .e) 207 ahf (.n .e 208 agZ .e))) 213 acJ (.n (.n (.n .e 214 acU .e) 219 Kq (.n .e 222 ac7 .e)) 225 adg (.n (.n .e 226 ac8 .e) 227 ac9 (.n .e 250 ac' .e)))))))
abbrev shared:List Nat:=[28,30,54,55,57,58,63,88,95,96,97,98,99,100,101,102,103,110,114,128,129,139,144,145,147,148,149,150,154,156,162,167,169,172,174,175,176,177,179,180,182,183,195,196,197,198,199,200,201,202,203,204,212,214,216,217,219,220,221,225,226,227,231,232,233,234,235,236,237,238,239,240,241,242,243,244,245,246,250,253,254,255,256,257,258,260,261,262,263]
noncomputable def tab:TB:=lits.tb Tryz.prog wQ shared
theorem aaL:LT.All Tryz.prog wQ shared lits:=by
 repeat first | exact .e | refine .n ?_ (by kernel_rfl) ?_
theorem ahK:tab 9=some ab5:=rfl
theorem akj:tab 10=some ahh:=rfl
theorem Tz:tab 63=some KI:=rfl
theorem ab9:tab 69=some ab6:=rfl
theorem ahL:tab 73=some ab7:=rfl
theorem Tu:tab 74=some Kj:=rfl
theorem Tv:tab 80=some Kk:=rfl
theorem adO:tab 95=some Kt:=rfl
theorem Ty:tab 96=some Kx:=rfl
theorem adR:tab 97=some Kw:=rfl
theorem adP:tab 98=some Ku:=rfl
theorem adQ:tab 99=some Kv:=rfl
theorem adZ:tab 100=some KJ:=rfl
theorem adW:tab 101=some KF:=rfl
theorem adY:tab 102=some KH:=rfl
theorem adX:tab 103=some KG:=rfl
theorem adI:tab 110=some Kh:=rfl
theorem adK:tab 114=some Kl:=rfl
theorem Tw:tab 118=some Kr:=rfl
theorem Tx:tab 123=some Ks:=rfl
theorem adF:tab 130=some Kd:=rfl
theorem ad0:tab 145=some KK:=rfl
theorem adU:tab 146=some KA:=rfl
theorem ad1:tab 147=some KL:=rfl
theorem adS:tab 148=some Ky:=rfl
theorem adT:tab 149=some Kz:=rfl
theorem adM:tab 154=some Ko:=rfl
theorem adL:tab 156=some Kn:=rfl
theorem adH:tab 167=some Kg:=rfl
theorem adJ:tab 180=some Ki:=rfl
theorem adG:tab 181=some Ke:=rfl
theorem adV:tab 204=some KB:=rfl
theorem adN:tab 219=some Kq:=rfl
abbrev sg:Nat→FuncId:=Cm wQ
theorem env:Env Tryz.prog sg tab.get tab.xQ:=LT.env aaL (by kernel_rfl) (fun _ _ _ _ _ h=>by cases h)
end Go.Proofs.YthkmdpgdicohdaaGreat
end
