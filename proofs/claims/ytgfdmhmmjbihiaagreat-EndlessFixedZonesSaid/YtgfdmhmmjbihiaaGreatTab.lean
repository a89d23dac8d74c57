/-
  The table: sV ns own km, as small code.
-/
import Derived.Test.YtgfdmhmmjbihiaaGreatProg
import Derived.Test.YtgfdmhmmjbihiaaGreatParts
import Derived.Test.YtgfdmhmmjbihiaaGreatK5
import Derived.KernelRfl
set_option linter.unusedVariables false
set_option linter.unusedSimpArgs false
set_option linter.unusedSectionVars false
section
set_option maxRecDepth 100000
namespace Go.Proofs.YtgfdmhmmjbihiaaGreat
open Go Km
def lits:LT:=(.n (.n (.n (.n (.n (.n (.n (.n .e 3 amg .e) 5 ahO .e) 6 al5 (.n (.n .e 7 amh .e) 8 amp .e)) 9 amx (.n (.n (.n .e 10 al3 .e) 11 ams .e) 12 ahM (.n .e 13 amr .e))) 21 ahK (.n (.n (.n (.n .e 22 amd .e) 23 amy .e) 24 ais (.n (.n .e 25 amu .e) 27 ama .e)) 28 al_ (.n (.n (.n .e 30 amb .e) 31 LY .e) 32 amq (.n .e 33 amA .e)))) 34 amB (.n (.n (.n (.n (.n .e 35 al6 .e) 36 al4 .e) 37 amc (.n (.n .e 38 amv .e) 39 al7 .e)) 40 amf (.n (.n (.n .e 41 al9 .e) 42 amt .e) 43 amG (.n .e 44 ahI .e))) 45 amP (.n (.n (.n (.n .e 47 apV .e) 48 apT .e) 53 amo (.n .e 56 ahW .e)) 57 ahS (.n (.n (.n .e 58 al8 .e) 61 ahL .e) 62 ahN (.n .e 63 LZ .e))))) 64 amz (.n (.n (.n (.n (.n (.n .e 65 am7 .e) 66 aiw .e) 67 ag7 (.n (.n .e 68 ahY .e) 69 amT .e)) 70 am3 (.n (.n (.n .e 72 aiq .e) 73 al' .e) 74 am5 (.n .e 75 ame .e))) 78 Mh (.n (.n (.n (.n .e 79 Mf .e) 80 amE .e) 81 ag6 (.n (.n .e 82 amU .e) 83 amH .e)) 84 am4 (.n (.n (.n .e 85 ahJ .e) 86 amQ .e) 87 amR (.n .e 88 amV .e)))) 89 apW (.n (.n (.n (.n (.n .e 92 amN .e) 96 Mk .e) 97 amj (.n (.n .e 99 Mg .e) 100 ahF .e)) 102 aiy (.n (.n (.n .e 103 aix .e) 104 ait .e) 105 amL (.n .e 106 amD .e))) 107 am6 (.n (.n (.n (.n .e 108 L_ .e) 109 amM .e) 110 ahU (.n .e 111 amF .e)) 112 ahZ (.n (.n (.n .e 113 LP .e) 114 ag8 .e) 116 Mo (.n .e 117 air .e)))))) 118 amw (.n (.n (.n (.n (.n (.n (.n .e 119 ahy .e) 121 amW .e) 123 am9 (.n (.n .e 126 Ml .e) 127 amJ .e)) 128 ahw (.n (.n (.n .e 129 amZ .e) 131 amO .e) 132 LU (.n .e 133 Mi .e))) 134 ah4 (.n (.n (.n (.n .e 135 ah0 .e) 136 ah2 .e) 137 ail (.n (.n .e 138 aid .e) 139 aih .e)) 140 aif (.n (.n (.n .e 141 amk .e) 142 aml .e) 149 aiu (.n .e 151 am2 .e)))) 152 Ma (.n (.n (.n (.n (.n .e 153 ahV .e) 154 LS .e) 155 ahG (.n (.n .e 156 ahP .e) 157 Mn .e)) 158 aiv (.n (.n (.n .e 159 ahX .e) 161 LV .e) 162 ahx (.n .e 163 ahB .e))) 164 ahz (.n (.n (.n (.n .e 165 am8 .e) 166 ahC .e) 167 LW (.n .e 168 LN .e)) 169 LM (.n (.n (.n .e 170 ahT .e) 171 ahR .e) 175 am' (.n .e 181 Mj .e))))) 182 ah5 (.n (.n (.n (.n (.n (.n .e 183 ah1 .e) 184 ah3 .e) 185 aim (.n (.n .e 186 aie .e) 187 apU .e)) 188 aii (.n (.n (.n .e 189 aij .e) 190 amS .e) 191 amK (.n .e 192 amC .e))) 193 ahv (.n (.n (.n (.n .e 194 Mc .e) 195 ain .e) 196 aia (.n .e 197 aip .e)) 198 ah8 (.n (.n (.n .e 199 ah' .e) 204 ahH .e) 205 ahQ (.n .e 206 Mm .e)))) 207 aik (.n (.n (.n (.n (.n .e 208 Md .e) 209 amX .e) 210 Me (.n (.n .e 211 ahD .e) 212 ahA .e)) 213 ah7 (.n (.n (.n .e 216 aio .e) 217 ah9 .e) 218 ah_ (.n .e 219 amm .e))) 220 amI (.n (.n (.n (.n .e 221 ami .e) 222 ahE .e) 223 aib (.n .e 234 ah6 .e)) 242 am0 (.n (.n (.n .e 243 am1 .e) 244 amY .e) 245 aic (.n .e 255 amn .e)))))))
abbrev shared:List Nat:=[27,28,29,30,56,57,73,78,96,104,108,113,123,126,132,133,134,135,136,137,138,139,140,146,152,154,156,159,161,162,163,164,166,167,169,170,181,182,183,184,185,186,187,188,189,193,194,195,197,198,199,203,205,207,208,210,211,212,216,217,218,223,226,227,228,229,230,231,232,233,234,235,236,237,238,239,240,241,245,249,250,251,252,253,254,256,257,258,259]
noncomputable def tab:TB:=lits.tb Tryz.prog vB shared
theorem afM:LT.All Tryz.prog vB shared lits:=by
 repeat first|exact .e|refine .n ?_ (by kernel_rfl) ?_
theorem ve:tab 31=some LY:=rfl
theorem Ya:tab 63=some LZ:=rfl
theorem anl:tab 67=some ag7:=rfl
theorem Yc:tab 78=some Mh:=rfl
theorem vf:tab 79=some Mf:=rfl
theorem ank:tab 81=some ag6:=rfl
theorem ai4:tab 96=some Mk:=rfl
theorem Yb:tab 99=some Mg:=rfl
theorem aiX:tab 108=some L_:=rfl
theorem aiS:tab 113=some LP:=rfl
theorem anm:tab 114=some ag8:=rfl
theorem ai8:tab 116=some Mo:=rfl
theorem ai5:tab 126=some Ml:=rfl
theorem aiU:tab 132=some LU:=rfl
theorem ai2:tab 133=some Mi:=rfl
theorem aiY:tab 152=some Ma:=rfl
theorem aiT:tab 154=some LS:=rfl
theorem ai7:tab 157=some Mn:=rfl
theorem aiV:tab 161=some LV:=rfl
theorem aiW:tab 167=some LW:=rfl
theorem aiR:tab 168=some LN:=rfl
theorem aiQ:tab 169=some LM:=rfl
theorem ai3:tab 181=some Mj:=rfl
theorem aiZ:tab 194=some Mc:=rfl
theorem ai6:tab 206=some Mm:=rfl
theorem ai0:tab 208=some Md:=rfl
theorem ai1:tab 210=some Me:=rfl
abbrev sg:Nat->FuncId:=Bj vB
theorem env:Env Tryz.prog sg tab.get tab.wi:=LT.env afM (by kernel_rfl) (λ_ _ _ _ _ h=>by cases h)
end Go.Proofs.YtgfdmhmmjbihiaaGreat
end
