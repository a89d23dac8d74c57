/-
  The table: the nA own kH, as small code.
-/
import Derived.Test.YthkmdpgdicohdaaGreatProg
import Derived.Test.YthkmdpgdicohdaaGreatParts
import Derived.Test.YthkmdpgdicohdaaGreatK5
import Derived.KernelRfl
set_option linter.unusedVariables false
set_option linter.unusedSimpArgs false
set_option linter.unusedSectionVars false
section
set_option maxRecDepth 100000
namespace Go.Proofs.YthkmdpgdicohdaaGreat
open Go Km
def lits:LT:=(.n (.n (.n (.n (.n (.n (.n (.n .e 3 ag0 .e) 8 acV .e) 9 ab8 (.n .e 10 ahk .e)) 11 acQ (.n (.n .e 12 ag1 .e) 13 acR (.n .e 22 acN .e))) 23 acT (.n (.n (.n (.n .e 24 agN .e) 25 agP .e) 26 agT (.n .e 27 agO .e)) 28 ac3 (.n (.n .e 29 agU .e) 30 acZ (.n .e 31 akj .e)))) 32 akh (.n (.n (.n (.n (.n .e 33 akf .e) 34 agV .e) 35 agR (.n .e 36 ag6 .e)) 37 agZ (.n (.n .e 38 agX .e) 39 acS (.n .e 44 ag9 .e))) 46 agS (.n (.n (.n .e 50 ag_ .e) 56 ag7 (.n .e 59 acO .e)) 60 acP (.n (.n .e 61 acU .e) 62 agQ (.n .e 63 KL .e))))) 64 ag3 (.n (.n (.n (.n (.n (.n .e 65 aki .e) 66 agW .e) 67 ag' (.n .e 68 ahu .e)) 69 ab9 (.n (.n .e 70 aho .e) 71 agY (.n .e 73 ab' .e))) 74 Kn (.n (.n (.n (.n .e 76 ahb .e) 77 ac4 .e) 78 ahq (.n .e 80 Ko .e)) 81 aha (.n (.n .e 82 ahD .e) 85 ahz (.n .e 93 ag8 .e)))) 94 ahg (.n (.n (.n (.n (.n .e 95 Kw .e) 96 KA .e) 97 Kz (.n .e 98 Kx .e)) 99 Ky (.n (.n .e 100 KM .e) 101 KI (.n .e 102 KK .e))) 103 KJ (.n (.n (.n .e 104 ag4 .e) 106 ahC (.n .e 107 ahe .e)) 108 ahj (.n (.n .e 109 ahp .e) 110 Kk (.n .e 111 ahm .e)))))) 112 ahd (.n (.n (.n (.n (.n (.n (.n .e 113 ahB .e) 114 Kq .e) 115 ahn (.n .e 116 ac1 .e)) 117 ahf (.n (.n .e 118 Ku .e) 119 ac5 (.n .e 120 ahr .e))) 121 ahs (.n (.n (.n (.n .e 122 ahv .e) 123 Kv .e) 124 acK (.n .e 130 Kh .e)) 135 acF (.n (.n .e 137 ahw .e) 139 acA (.n .e 142 ahh .e)))) 143 ahA (.n (.n (.n (.n (.n .e 144 adh .e) 145 KN .e) 146 KG (.n .e 147 KQ .e)) 148 KB (.n (.n .e 149 KF .e) 150 acC (.n .e 151 aht .e))) 152 ahl (.n (.n (.n .e 153 ahc .e) 154 Ks (.n .e 155 ahy .e)) 156 Kr (.n (.n .e 157 ac2 .e) 158 ahx (.n .e 167 Kj .e))))) 168 acL (.n (.n (.n (.n (.n (.n .e 169 acW .e) 175 acE .e) 176 acH (.n .e 177 acG .e)) 178 ahE (.n (.n .e 179 acI .e) 180 Kl (.n .e 181 Ki .e))) 183 ac0 (.n (.n (.n (.n .e 184 acY .e) 188 acB .e) 194 acD (.n .e 195 ac9 .e)) 196 ac8 (.n (.n .e 197 ac6 .e) 198 ac7 (.n .e 199 adi .e)))) 200 ade (.n (.n (.n (.n (.n .e 201 akg .e) 202 adf .e) 203 adg (.n .e 204 KH .e)) 205 acJ (.n (.n .e 206 ag5 .e) 207 ahi (.n .e 208 ag2 .e))) 213 acM (.n (.n (.n .e 214 acX .e) 219 Kt (.n .e 222 ac' .e)) 225 adj (.n (.n .e 226 ac_ .e) 227 ada (.n .e 250 adb .e)))))))
abbrev shared:List Nat:=[28,30,54,55,57,58,63,88,95,96,97,98,99,100,101,102,103,110,114,128,129,139,144,145,147,148,149,150,154,156,162,167,169,172,174,175,176,177,179,180,182,183,195,196,197,198,199,200,201,202,203,204,212,214,216,217,219,220,221,225,226,227,231,232,233,234,235,236,237,238,239,240,241,242,243,244,245,246,250,253,254,255,256,257,258,260,261,262,263]
noncomputable def tab:TB:=lits.tb Tryz.prog wQ shared
theorem aaO:LT.All Tryz.prog wQ shared lits:=by
 repeat first | exact .e | refine .n ?_ (by kernel_rfl) ?_
theorem ahN:tab 9=some ab8:=rfl
theorem akm:tab 10=some ahk:=rfl
theorem TE:tab 63=some KL:=rfl
theorem aca:tab 69=some ab9:=rfl
theorem ahO:tab 73=some ab':=rfl
theorem Tx:tab 74=some Kn:=rfl
theorem Ty:tab 80=some Ko:=rfl
theorem adR:tab 95=some Kw:=rfl
theorem TD:tab 96=some KA:=rfl
theorem adU:tab 97=some Kz:=rfl
theorem adS:tab 98=some Kx:=rfl
theorem adT:tab 99=some Ky:=rfl
theorem ad2:tab 100=some KM:=rfl
theorem adZ:tab 101=some KI:=rfl
theorem ad1:tab 102=some KK:=rfl
theorem ad0:tab 103=some KJ:=rfl
theorem adL:tab 110=some Kk:=rfl
theorem adN:tab 114=some Kq:=rfl
theorem Tz:tab 118=some Ku:=rfl
theorem TA:tab 123=some Kv:=rfl
theorem adI:tab 130=some Kh:=rfl
theorem ad3:tab 145=some KN:=rfl
theorem adX:tab 146=some KG:=rfl
theorem ad4:tab 147=some KQ:=rfl
theorem adV:tab 148=some KB:=rfl
theorem adW:tab 149=some KF:=rfl
theorem adP:tab 154=some Ks:=rfl
theorem adO:tab 156=some Kr:=rfl
theorem adK:tab 167=some Kj:=rfl
theorem adM:tab 180=some Kl:=rfl
theorem adJ:tab 181=some Ki:=rfl
theorem adY:tab 204=some KH:=rfl
theorem adQ:tab 219=some Kt:=rfl
abbrev sg:Nat→FuncId:=Co wQ
theorem env:Env Tryz.prog sg tab.get tab.xQ:=LT.env aaO (by kernel_rfl) (fun _ _ _ _ _ h=>by cases h)
end Go.Proofs.YthkmdpgdicohdaaGreat
end
