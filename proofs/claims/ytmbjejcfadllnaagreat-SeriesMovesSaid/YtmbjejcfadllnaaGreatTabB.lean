/-
  The jX that the law comes to, in the small code: the second part.
-/
import Derived.Test.YtmbjejcfadllnaaGreatTabA
set_option linter.unusedVariables false
set_option linter.unusedSimpArgs false
set_option linter.unusedSectionVars false
section
set_option maxRecDepth 100000
namespace Go.Proofs.YtmbjejcfadllnaaGreat
open Go Km
def tab:BT aD:=(.n (.n (.n (.n (.n (.n (.n (.n .e LG .e) ac_ .e) CN (.n (.n .e aip .e) a95 .e)) a15 (.n (.n (.n .e aif .e) ac9 .e) a47 (.n (.n .e CZ .e) ah2 .e))) a7 (.n (.n (.n (.n .e aia .e) CQ .e) adf (.n (.n .e C3 .e) ahZ .e)) adw (.n (.n (.n .e LF .e) LQ .e) a55 (.n .e ah9 .e)))) adv (.n (.n (.n (.n (.n .e adN .e) ady .e) adI (.n (.n .e CX .e) adq .e)) a19 (.n (.n (.n .e aik .e) a83 .e) a51 (.n (.n .e C2 .e) ah6 .e))) a11 (.n (.n (.n (.n .e aie .e) a75 .e) a43 (.n (.n .e ais .e) ah1 .e)) Ly (.n (.n (.n .e aio .e) LW .e) a59 (.n .e LK .e))))) a1 (.n (.n (.n (.n (.n (.n .e adQ .e) adB .e) CM (.n (.n .e air .e) a97 .e)) a17 (.n (.n (.n .e aii .e) a81 .e) LZ (.n (.n .e aiv .e) ah4 .e))) adF (.n (.n (.n (.n .e aic .e) ade .e) a41 (.n (.n .e C4 .e) adA .e)) LI (.n (.n (.n .e CT .e) LU .e) a57 (.n .e LY .e)))) Lu (.n (.n (.n (.n (.n .e adP .e) adL .e) a37 (.n (.n .e CW .e) adp .e)) adb (.n (.n (.n .e aim .e) LJ .e) a53 (.n (.n .e aiy .e) ah8 .e))) LH (.n (.n (.n (.n .e C1 .e) a77 .e) a45 (.n (.n .e aiu .e) L4 .e)) adK (.n (.n (.n .e adk .e) a93 .e) a61 (.n .e LO .e)))))) ac' (.n (.n (.n (.n (.n (.n (.n .e ah' .e) a64 .e) Lw (.n (.n .e aiq .e) a96 .e)) a16 (.n (.n (.n .e aih .e) a80 .e) C' (.n (.n .e C0 .e) ah3 .e))) adG (.n (.n (.n (.n .e aib .e) adi .e) a40 (.n (.n .e C5 .e) adz .e)) LA (.n (.n (.n .e ac8 .e) LC .e) a56 (.n .e CU .e)))) Lt (.n (.n (.n (.n (.n .e CS .e) adu .e) adJ (.n (.n .e CV .e) adl .e)) a20 (.n (.n (.n .e ail .e) LX .e) a52 (.n (.n .e aix .e) ah7 .e))) adD (.n (.n (.n (.n .e adn .e) a76 .e) ac7 (.n (.n .e ait .e) L3 .e)) adH (.n (.n (.n .e adj .e) a92 .e) a60 (.n .e LS .e))))) adC (.n (.n (.n (.n (.n (.n .e adM .e) adx .e) CP (.n (.n .e CY .e) adr .e)) a18 (.n (.n (.n .e aij .e) a82 .e) LL (.n (.n .e aiw .e) ah5 .e))) a10 (.n (.n (.n (.n .e aid .e) a74 .e) a42 (.n (.n .e ads .e) ah0 .e)) LB (.n (.n (.n .e ain .e) LV .e) a58 (.n .e LP .e)))) adE (.n (.n (.n (.n (.n .e ah_ .e) adh .e) adg (.n (.n .e C7 .e) adm .e)) a22 (.n (.n (.n .e C6 .e) LN .e) a54 (.n (.n .e aiz .e) L2 .e))) a14 (.n (.n (.n (.n .e C9 .e) a78 .e) a46 (.n (.n .e C8 .e) ada .e)) Lx (.n (.n (.n .e ado .e) adO .e) adt (.n .e CO .e)))))))
theorem UK:tab.get 31=some CN:=rfl
theorem aek:tab.get 33=some CM:=rfl
theorem aem:tab.get 34=some CP:=rfl
theorem aeG:tab.get 48=some C':=rfl
theorem aen:tab.get 71=some CQ:=rfl
theorem ahV:tab.get 108=some L3:=rfl
theorem ahW:tab.get 109=some L4:=rfl
theorem aeq:tab.get 120=some CU:=rfl
theorem ael:tab.get 126=some CO:=rfl
theorem aeo:tab.get 132=some CS:=rfl
theorem aex:tab.get 141=some C1:=rfl
theorem aeF:tab.get 142=some C9:=rfl
theorem aeC:tab.get 150=some C6:=rfl
theorem aep:tab.get 153=some CT:=rfl
theorem aeu:tab.get 162=some CY:=rfl
theorem aet:tab.get 163=some CX:=rfl
theorem aer:tab.get 164=some CV:=rfl
theorem aes:tab.get 165=some CW:=rfl
theorem aeD:tab.get 166=some C7:=rfl
theorem aez:tab.get 167=some C3:=rfl
theorem aeB:tab.get 168=some C5:=rfl
theorem aeA:tab.get 169=some C4:=rfl
theorem aeE:tab.get 174=some C8:=rfl
theorem aev:tab.get 175=some CZ:=rfl
theorem aew:tab.get 176=some C0:=rfl
theorem aey:tab.get 179=some C2:=rfl
end Go.Proofs.YtmbjejcfadllnaaGreat
end
