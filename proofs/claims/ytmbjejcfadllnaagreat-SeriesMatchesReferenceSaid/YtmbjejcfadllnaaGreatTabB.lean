/-
  The jO that the law comes to, in the small code: the second part.
-/
import Derived.Test.YtmbjejcfadllnaaGreatTabA
set_option linter.unusedVariables false
set_option linter.unusedSimpArgs false
set_option linter.unusedSectionVars false
section
set_option maxRecDepth 100000
namespace Go.Proofs.YtmbjejcfadllnaaGreat
open Go Km
def tab:BT aE:=(.n (.n (.n (.n (.n (.n (.n (.n .e akX .e) a63 (.n .e alm .e)) agh (.n (.n .e ak_ .e) Nl .e)) Na (.n (.n (.n .e MX .e) afC .e) a47 (.n (.n .e C3 .e) af3 .e))) af_ (.n (.n (.n (.n .e Nh .e) afX .e) age (.n (.n .e afH .e) akN .e)) afB (.n (.n (.n .e afZ .e) a87 .e) a55 (.n (.n .e alh .e) E4 .e)))) afU (.n (.n (.n (.n (.n .e Nq .e) afz .e) CW (.n (.n .e afw .e) a99 .e)) a19 (.n (.n (.n .e ak3 .e) a83 .e) a51 (.n (.n .e Db .e) CT .e))) aga (.n (.n (.n (.n .e MY .e) af1 .e) afD (.n (.n .e ale .e) afN .e)) Nb (.n (.n (.n .e ak7 .e) Nc .e) a59 (.n (.n .e C8 .e) akT .e))))) a1 (.n (.n (.n (.n (.n (.n .e akY .e) a65 (.n .e alo .e)) afT (.n (.n .e Dc .e) Nn .e)) a17 (.n (.n (.n .e ak1 .e) a81 .e) a49 (.n (.n .e Dd .e) akQ .e))) agd (.n (.n (.n (.n .e M_ .e) agi .e) CU (.n (.n .e afM .e) afO .e)) afV (.n (.n (.n .e Df .e) a89 .e) a57 (.n (.n .e De .e) akR .e)))) af' (.n (.n (.n (.n (.n .e Nd .e) af6 .e) CV (.n (.n .e alb .e) akL .e)) a21 (.n (.n (.n .e ak5 .e) afx .e) Nr (.n (.n .e afQ .e) afY .e))) a13 (.n (.n (.n (.n .e MV .e) CZ .e) a45 (.n (.n .e C6 .e) akO .e)) M6 (.n (.n (.n .e ak9 .e) Nj .e) a61 (.n (.n .e alk .e) akV .e)))))) afy (.n (.n (.n (.n (.n (.n (.n .e Ns .e) a64 (.n .e aln .e)) af9 (.n (.n .e ala .e) Nm .e)) a16 (.n (.n (.n .e ak0 .e) a80 .e) afv (.n (.n .e C4 .e) akP .e))) M1 (.n (.n (.n (.n .e CX .e) afS .e) agf (.n (.n .e afI .e) afP .e)) a24 (.n (.n (.n .e C9 .e) a88 .e) a56 (.n (.n .e ali .e) af4 .e)))) MZ (.n (.n (.n (.n (.n .e Ni .e) a68 .e) M3 (.n (.n .e C1 .e) MW .e)) a20 (.n (.n (.n .e ak4 .e) a84 .e) Dg (.n (.n .e Da .e) afA .e))) a12 (.n (.n (.n (.n .e MU .e) af0 .e) a44 (.n (.n .e alf .e) afK .e)) M8 (.n (.n (.n .e ak8 .e) Ng .e) a60 (.n (.n .e alj .e) akU .e))))) af7 (.n (.n (.n (.n (.n (.n .e C2 .e) afR .e) M4 (.n (.n .e M' .e) a98 .e)) a18 (.n (.n (.n .e ak2 .e) a82 .e) a50 (.n (.n .e C_ .e) CS .e))) agb (.n (.n (.n (.n .e akZ .e) afF .e) afE (.n (.n .e ald .e) afJ .e)) M7 (.n (.n (.n .e ak6 .e) Np .e) a58 (.n (.n .e C7 .e) akS .e)))) M0 (.n (.n (.n (.n (.n .e Nk .e) afW .e) CY (.n (.n .e alc .e) akM .e)) a22 (.n (.n (.n .e afL .e) a86 .e) Nf (.n (.n .e alg .e) af5 .e))) af8 (.n (.n (.n (.n .e C0 .e) afG .e) a46 (.n (.n .e C5 .e) af2 .e)) agc (.n (.n (.n .e ak' .e) M9 .e) a62 (.n (.n .e C' .e) akW .e)))))))
theorem WU:tab.get 35=some CW:=rfl
theorem agT:tab.get 37=some CV:=rfl
theorem WV:tab.get 38=some CY:=rfl
theorem agS:tab.get 41=some CU:=rfl
theorem ahc:tab.get 52=some Dg:=rfl
theorem agV:tab.get 77=some CZ:=rfl
theorem agQ:tab.get 114=some CS:=rfl
theorem agR:tab.get 115=some CT:=rfl
theorem akJ:tab.get 119=some E4:=rfl
theorem agY:tab.get 130=some C2:=rfl
theorem agU:tab.get 136=some CX:=rfl
theorem agW:tab.get 142=some C0:=rfl
theorem ag5:tab.get 152=some C9:=rfl
theorem ahb:tab.get 153=some Df:=rfl
theorem ag':tab.get 161=some Dc:=rfl
theorem agX:tab.get 164=some C1:=rfl
theorem ag2:tab.get 173=some C6:=rfl
theorem ag1:tab.get 174=some C5:=rfl
theorem agZ:tab.get 175=some C3:=rfl
theorem ag0:tab.get 176=some C4:=rfl
theorem ag_:tab.get 177=some Dd:=rfl
theorem ag7:tab.get 178=some C_:=rfl
theorem ag9:tab.get 179=some Db:=rfl
theorem ag8:tab.get 180=some Da:=rfl
theorem aha:tab.get 185=some De:=rfl
theorem ag3:tab.get 186=some C7:=rfl
theorem ag4:tab.get 187=some C8:=rfl
theorem ag6:tab.get 190=some C':=rfl
end Go.Proofs.YtmbjejcfadllnaaGreat
end
