/-
  The jQ that the law comes to, in the small code: the second part.
-/
import Derived.Test.YtmbjejcfadllnaaGreatTabA
set_option linter.unusedVariables false
set_option linter.unusedSimpArgs false
set_option linter.unusedSectionVars false
section
set_option maxRecDepth 100000
namespace Go.Proofs.YtmbjejcfadllnaaGreat
open Go Km
def tab:BT aB:=(.n (.n (.n (.n (.n (.n (.n (.n .e ais .e) a63 (.n .e aib .e)) O9 (.n (.n .e OY .e) ah1 .e)) aiB (.n (.n (.n .e ahX .e) air (.n .e anM .e)) a47 (.n (.n .e C8 .e) anj .e))) OQ (.n (.n (.n (.n .e CY .e) a71 (.n .e C3 .e)) O5 (.n (.n .e anz .e) Pm .e)) a23 (.n (.n (.n .e Pl .e) a87 (.n .e Da .e)) ah4 (.n (.n .e anG .e) anm .e)))) aio (.n (.n (.n (.n (.n .e CU .e) a67 (.n .e anJ .e)) OO (.n (.n .e anu .e) a99 .e)) a19 (.n (.n (.n .e Pv .e) aiv (.n .e C7 .e)) CW (.n (.n .e anC .e) aii .e))) ah2 (.n (.n (.n (.n .e Df .e) ah6 (.n .e Dc .e)) OU (.n (.n .e Dl .e) Pr .e)) a27 (.n (.n (.n .e CN .e) Dh .e) ahR (.n (.n .e CV .e) ano .e))))) a1 (.n (.n (.n (.n (.n (.n .e E7 .e) a65 (.n .e C_ .e)) OT (.n (.n .e CS .e) ahS .e)) ON (.n (.n (.n .e anq .e) OX (.n .e anO .e)) ah5 (.n (.n .e O' .e) anl .e))) OS (.n (.n (.n (.n .e Dj .e) a73 (.n .e C1 .e)) a41 (.n (.n .e aie .e) Po .e)) a25 (.n (.n (.n .e Pn .e) ahQ (.n .e anS .e)) CP (.n (.n .e Pa .e) aix .e)))) OP (.n (.n (.n (.n (.n .e C4 .e) a69 (.n .e anL .e)) O6 (.n (.n .e anw .e) Pf .e)) a21 (.n (.n (.n .e CX .e) CO (.n .e anP .e)) ahK (.n (.n .e anE .e) aih .e))) aiD (.n (.n (.n (.n .e anp .e) aiA (.n .e De .e)) a45 (.n (.n .e Dn .e) ani .e)) O8 (.n (.n (.n .e ant .e) ahL .e) Pu (.n (.n .e anI .e) CL .e)))))) ahM (.n (.n (.n (.n (.n (.n (.n .e aiz .e) a64 (.n .e aif .e)) O7 (.n (.n .e OZ .e) CT .e)) aiC (.n (.n (.n .e ahV .e) aim (.n .e anN .e)) ah3 (.n (.n .e Pw .e) ank .e))) a8 (.n (.n (.n (.n .e C0 .e) a72 (.n .e CZ .e)) a40 (.n (.n .e anA .e) O_ .e)) a24 (.n (.n (.n .e Pg .e) CQ (.n .e anR .e)) ah0 (.n (.n .e Di .e) aiw .e)))) a4 (.n (.n (.n (.n (.n .e ahW .e) a68 (.n .e anK .e)) ain (.n (.n .e anv .e) Ps .e)) a20 (.n (.n (.n .e ans .e) aiu (.n .e C9 .e)) O4 (.n (.n .e anD .e) aic .e))) O3 (.n (.n (.n (.n .e Dd .e) a76 (.n .e Dg .e)) OV (.n (.n .e C' .e) anh .e)) aip (.n (.n (.n .e Pc .e) a92 .e) Dp (.n (.n .e anH .e) CJ .e))))) OM (.n (.n (.n (.n (.n (.n .e aiy .e) a66 (.n .e Pb .e)) OW (.n (.n .e O1 .e) ahT .e)) Pd (.n (.n (.n .e anr .e) ah' (.n .e Dm .e)) ahP (.n (.n .e anB .e) aij .e))) a10 (.n (.n (.n (.n .e Db .e) ail (.n .e Dk .e)) a42 (.n (.n .e ait .e) Pp .e)) ah8 (.n (.n (.n .e Pk .e) ahU (.n .e anT .e)) ahO (.n (.n .e ahJ .e) ann .e)))) a6 (.n (.n (.n (.n (.n .e C2 .e) a70 (.n .e C5 .e)) CM (.n (.n .e anx .e) Pj .e)) a22 (.n (.n (.n .e Pt .e) ah_ (.n .e anQ .e)) ahI (.n (.n .e anF .e) aid .e))) ahN (.n (.n (.n (.n .e ahZ .e) aiq (.n .e aik .e)) ah9 (.n (.n .e C6 .e) O0 .e)) Pe (.n (.n (.n .e O2 .e) ahY .e) Ph (.n (.n .e aia .e) ah7 .e)))))))
theorem aja:tab.get 38=some CM:=rfl
theorem ajh:tab.get 51=some CW:=rfl
theorem ajd:tab.get 57=some CP:=rfl
theorem ajJ:tab.get 60=some Dp:=rfl
theorem ajc:tab.get 85=some CO:=rfl
theorem Zc:tab.get 88=some CQ:=rfl
theorem ajD:tab.get 91=some Dh:=rfl
theorem ajf:tab.get 96=some CT:=rfl
theorem ai':tab.get 124=some CJ:=rfl
theorem ai_:tab.get 125=some CL:=rfl
theorem anf:tab.get 129=some E7:=rfl
theorem Zd:tab.get 131=some CU:=rfl
theorem ajp:tab.get 133=some C4:=rfl
theorem ajn:tab.get 134=some C2:=rfl
theorem ajj:tab.get 135=some CY:=rfl
theorem ajl:tab.get 136=some C0:=rfl
theorem ajF:tab.get 137=some Dj:=rfl
theorem ajx:tab.get 138=some Db:=rfl
theorem ajB:tab.get 139=some Df:=rfl
theorem ajz:tab.get 140=some Dd:=rfl
theorem aji:tab.get 149=some CX:=rfl
theorem ajb:tab.get 155=some CN:=rfl
theorem aje:tab.get 161=some CS:=rfl
theorem ajH:tab.get 171=some Dl:=rfl
theorem Ze:tab.get 172=some C':=rfl
theorem Zf:tab.get 173=some Dn:=rfl
theorem ajr:tab.get 174=some C6:=rfl
theorem ajt:tab.get 175=some C8:=rfl
theorem aiG:tab.get 176=some Pw:=rfl
theorem ajE:tab.get 184=some Di:=rfl
theorem ajg:tab.get 187=some CV:=rfl
theorem ajv:tab.get 193=some C_:=rfl
theorem ajq:tab.get 198=some C5:=rfl
theorem ajo:tab.get 199=some C3:=rfl
theorem ajk:tab.get 200=some CZ:=rfl
theorem ajm:tab.get 201=some C1:=rfl
theorem ajG:tab.get 202=some Dk:=rfl
theorem ajy:tab.get 203=some Dc:=rfl
theorem ajC:tab.get 204=some Dg:=rfl
theorem ajA:tab.get 205=some De:=rfl
theorem ajI:tab.get 210=some Dm:=rfl
theorem ajs:tab.get 211=some C7:=rfl
theorem aju:tab.get 212=some C9:=rfl
theorem ajw:tab.get 215=some Da:=rfl
end Go.Proofs.YtmbjejcfadllnaaGreat
end
