/-
  The functions that the law comes to, in the small code: the second part.
-/
import Derived.Test.YtmbjejcfadllnaaGreatTabA
set_option linter.unusedVariables false
set_option linter.unusedSimpArgs false
set_option linter.unusedSectionVars false
section
set_option maxRecDepth 100000
namespace Go.Proofs.YtmbjejcfadllnaaGreat
open Go Km
def tab:BT AFunc:=(.n (.n (.n (.n (.n (.n (.n (.n .e Sz .e) a63 .e) aD0 (.n (.n .e a159 .e) RV .e)) SE (.n (.n (.n .e a143 .e) a79 .e) aEz (.n (.n .e a175 .e) a0b .e))) a7 (.n (.n (.n (.n .e aDV .e) aEa .e) aD1 (.n (.n .e Tj .e) aEi .e)) aEt (.n (.n (.n .e aZZ .e) a87 .e) SC (.n (.n .e SY .e) a119 .e)))) aEd (.n (.n (.n (.n (.n .e SN .e) aEv .e) a35 (.n (.n .e aZW .e) a99 .e)) a19 (.n (.n (.n .e aZ2 .e) aEx .e) RZ (.n (.n .e Td .e) a0a .e))) a11 (.n (.n (.n (.n .e a139 .e) TA .e) a43 (.n (.n .e SX .e) a107 .e)) SB (.n (.n (.n .e Tf .e) Sj .e) a59 (.n .e aZ6 .e))))) a1 (.n (.n (.n (.n (.n (.n .e Sm .e) a65 .e) TD (.n (.n .e aEo .e) a97 .e)) a17 (.n (.n (.n .e S9 .e) a81 .e) a49 (.n (.n .e aZT .e) aDX .e))) a9 (.n (.n (.n (.n .e aDT .e) aDZ .e) aEs (.n (.n .e Tm .e) aEj .e)) aEc (.n (.n (.n .e aZY .e) SA .e) a57 (.n (.n .e aZQ .e) aZ7 .e)))) a5 (.n (.n (.n (.n (.n .e aDS .e) aD7 .e) a37 (.n (.n .e aZV .e) a0d .e)) a21 (.n (.n (.n .e aZ1 .e) a85 .e) Sv (.n (.n .e aZS .e) a117 .e))) SH (.n (.n (.n (.n .e a141 .e) a77 .e) a45 (.n (.n .e SV .e) aD8 .e)) TI (.n (.n (.n .e Tv .e) RY .e) a61 (.n .e RS .e)))))) aEw (.n (.n (.n (.n (.n (.n (.n .e Si .e) a64 .e) TJ (.n (.n .e aEp .e) a96 .e)) a16 (.n (.n (.n .e aEl .e) a80 .e) a48 (.n (.n .e aZU .e) aDY .e))) a8 (.n (.n (.n (.n .e Tz .e) aEe .e) a40 (.n (.n .e Tn .e) aEn .e)) a24 (.n (.n (.n .e a152 .e) RU .e) a56 (.n (.n .e aZR .e) aZ8 .e)))) TL (.n (.n (.n (.n (.n .e aZ5 .e) a68 .e) a36 (.n (.n .e a164 .e) a0e .e)) a20 (.n (.n (.n .e a148 .e) a84 .e) RQ (.n (.n .e Tc .e) a116 .e))) aD5 (.n (.n (.n (.n .e aZ4 .e) aEq .e) a44 (.n (.n .e SS .e) aD9 .e)) TF (.n (.n (.n .e aEy .e) Tq .e) a60 (.n .e Tt .e))))) aD6 (.n (.n (.n (.n (.n (.n .e TB .e) aEf .e) TK (.n (.n .e aEk .e) aDU .e)) a18 (.n (.n (.n .e SI .e) a82 .e) a50 (.n (.n .e SK .e) aEu .e))) a10 (.n (.n (.n (.n .e a138 .e) aEr .e) a42 (.n (.n .e SL .e) aEm .e)) TG (.n (.n (.n .e SQ .e) Sr .e) a58 (.n (.n .e aZP .e) RP .e)))) aD4 (.n (.n (.n (.n (.n .e aDW .e) aEb .e) aD2 (.n (.n .e Ti .e) aEh .e)) a22 (.n (.n (.n .e aZ0 .e) a86 .e) a54 (.n (.n .e a182 .e) aZ9 .e))) SG (.n (.n (.n (.n .e aZ3 .e) a78 .e) a46 (.n (.n .e aEg .e) a0c .e)) aD3 (.n (.n (.n .e aZX .e) RX .e) a62 (.n .e Sl .e)))))))
theorem a0U:tab.get NQ=some aEw:=rfl
theorem a0v:tab.get Vk=some aD6:=rfl
theorem a0B:tab.get uX=some aEd:=rfl
theorem aU8:tab.get RN=some TL:=rfl
theorem a0t:tab.get Vh=some aD4:=rfl
theorem a0u:tab.get Vj=some aD5:=rfl
theorem aUE:tab.get xB=some SH:=rfl
theorem aUD:tab.get RF=some SG:=rfl
theorem aUC:tab.get RD=some SE:=rfl
theorem a0R:tab.get NK=some aEt:=rfl
theorem a0A:tab.get NG=some aEc:=rfl
theorem aU4:tab.get Ad=some TG:=rfl
theorem aUA:tab.get Ry=some SB:=rfl
theorem aU3:tab.get kK=some TF:=rfl
theorem aU5:tab.get Ez=some TI:=rfl
theorem a0s:tab.get Vg=some aD3:=rfl
theorem a0p:tab.get sK=some aD0:=rfl
theorem aU6:tab.get RJ=some TJ:=rfl
theorem aU2:tab.get JX=some TD:=rfl
theorem aU7:tab.get Ae=some TK:=rfl
theorem a0r:tab.get Vf=some aD2:=rfl
theorem a0q:tab.get Ve=some aD1:=rfl
theorem a0Q:tab.get Vo=some aEs:=rfl
theorem a0X:tab.get Ho=some aEz:=rfl
theorem aUs:tab.get iY=some RZ:=rfl
theorem aUn:tab.get oh=some RQ:=rfl
theorem aUx:tab.get o7=some Sv:=rfl
theorem aUB:tab.get Rz=some SC:=rfl
theorem a0D:tab.get yV=some aEf:=rfl
theorem a0T:tab.get Hg=some aEv:=rfl
theorem a0w:tab.get Bc=some aD7:=rfl
theorem a0z:tab.get yU=some aEb:=rfl
theorem aPm:tab.get G6=some aEa:=rfl
theorem a0C:tab.get Vm=some aEe:=rfl
theorem a0o:tab.get Vd=some aDZ:=rfl
theorem a0P:tab.get aib=some aEr:=rfl
theorem aU0:tab.get RI=some TA:=rfl
theorem a0O:tab.get Bf=some aEq:=rfl
theorem a0V:tab.get Ew=some aEx:=rfl
theorem ah4:tab.get oq=some RU:=rfl
theorem aUz:tab.get JV=some SA:=rfl
theorem aUw:tab.get rY=some Sr:=rfl
theorem aUu:tab.get Et=some Sj:=rfl
theorem aUW:tab.get JW=some Tq:=rfl
theorem aUr:tab.get JR=some RY:=rfl
theorem aUq:tab.get JQ=some RX:=rfl
theorem aUp:tab.get JO=some RV:=rfl
theorem a0j:tab.get Ny=some aDU:=rfl
theorem a0F:tab.get G8=some aEh:=rfl
theorem a0G:tab.get Bd=some aEi:=rfl
theorem a0L:tab.get Hf=some aEn:=rfl
theorem a0H:tab.get sN=some aEj:=rfl
theorem a0K:tab.get He=some aEm:=rfl
theorem a0y:tab.get Vl=some aD9:=rfl
theorem a0x:tab.get ND=some aD8:=rfl
theorem a0n:tab.get NC=some aDY:=rfl
theorem a0m:tab.get aia=some aDX:=rfl
theorem a0S:tab.get Vp=some aEu:=rfl
theorem aUm:tab.get Rx=some RP:=rfl
theorem aUX:tab.get RG=some Tt:=rfl
theorem aUo:tab.get Aa=some RS:=rfl
theorem ah5:tab.get oZ=some Sl:=rfl
theorem aUy:tab.get uZ=some Sz:=rfl
theorem aUt:tab.get JU=some Si:=rfl
theorem aUv:tab.get uY=some Sm:=rfl
theorem aU1:tab.get Ey=some TB:=rfl
theorem aUI:tab.get Ac=some SN:=rfl
theorem a0h:tab.get lQ=some aDS:=rfl
theorem a0l:tab.get Vb=some aDW:=rfl
theorem a0k:tab.get Nz=some aDV:=rfl
theorem aUZ:tab.get RH=some Tz:=rfl
theorem a0i:tab.get Nw=some aDT:=rfl
theorem a0J:tab.get G9=some aEl:=rfl
theorem aUO:tab.get aiq=some S9:=rfl
theorem aUF:tab.get aif=some SI:=rfl
theorem aUJ:tab.get aik=some SQ:=rfl
theorem aUR:tab.get Eu=some Tf:=rfl
theorem a0W:tab.get Vq=some aEy:=rfl
theorem aUY:tab.get aix=some Tv:=rfl
theorem a0N:tab.get l7=some aEp:=rfl
theorem a0M:tab.get NI=some aEo:=rfl
theorem a0I:tab.get NH=some aEk:=rfl
theorem aUS:tab.get ait=some Ti:=rfl
theorem aUT:tab.get aiu=some Tj:=rfl
theorem aUV:tab.get aiw=some Tn:=rfl
theorem aUU:tab.get aiv=some Tm:=rfl
theorem aUH:tab.get aij=some SL:=rfl
theorem aUM:tab.get aio=some SX:=rfl
theorem aUK:tab.get ail=some SS:=rfl
theorem aUL:tab.get ain=some SV:=rfl
theorem a0E:tab.get wK=some aEg:=rfl
theorem aUG:tab.get aii=some SK:=rfl
theorem aUQ:tab.get ais=some Td:=rfl
theorem aUP:tab.get air=some Tc:=rfl
theorem aUN:tab.get aip=some SY:=rfl
end Go.Proofs.YtmbjejcfadllnaaGreat
end
