/-
  The functions that the law comes to, in the small code: the second part.
-/
import Derived.Test.YtmbjejcfadllnaaGreatTabA
set_option linter.unusedVariables false
set_option linter.unusedSimpArgs false
set_option linter.unusedSectionVars false
section
set_option maxRecDepth 100000
namespace Go.Proofs.YtmbjejcfadllnaaGreat
open Go Km
def tab:BT AFunc:=(.n (.n (.n (.n (.n (.n (.n (.n .e a127 .e) a63 .e) NC (.n (.n .e a159 .e) arL .e)) a15 (.n (.n (.n .e a143 .e) a79 .e) a47 (.n .e asu .e))) NG (.n (.n (.n (.n .e aNv .e) arS .e) a39 (.n (.n .e a167 .e) ash .e)) a23 (.n (.n (.n .e Nr .e) a87 .e) a55 (.n .e a119 .e)))) ar7 (.n (.n (.n (.n (.n .e arM .e) ar0 .e) a35 (.n (.n .e aNl .e) asb .e)) a19 (.n (.n (.n .e aNq .e) a83 .e) a51 (.n .e aNE .e))) a11 (.n (.n (.n (.n .e a139 .e) a75 .e) a43 (.n .e a107 .e)) Ny (.n (.n (.n .e asj .e) a91 .e) a59 (.n .e aNz .e))))) a1 (.n (.n (.n (.n (.n (.n .e arJ .e) asv .e) a33 (.n (.n .e asa .e) a97 .e)) ND (.n (.n (.n .e a145 .e) a81 .e) a49 (.n .e aNG .e))) a9 (.n (.n (.n (.n .e aNt .e) Nw .e) a41 (.n (.n .e aNi .e) ar2 .e)) Nz (.n (.n (.n .e aNn .e) a89 .e) a57 (.n .e aNB .e)))) NH (.n (.n (.n (.n (.n .e arK .e) ar4 .e) arV (.n (.n .e aNk .e) asi .e)) a21 (.n (.n (.n .e aNp .e) a85 .e) a53 (.n .e a117 .e))) a13 (.n (.n (.n (.n .e a141 .e) a77 .e) a45 (.n .e arR .e)) arW (.n (.n (.n .e a157 .e) arP .e) a61 (.n .e aNy .e)))))) asw (.n (.n (.n (.n (.n (.n (.n .e Ns .e) ar9 .e) a32 (.n (.n .e a160 .e) a96 .e)) arI (.n (.n (.n .e aNr .e) a80 .e) a48 (.n .e aNH .e))) a8 (.n (.n (.n (.n .e aNu .e) aso .e) asq (.n (.n .e a168 .e) aNJ .e)) ar6 (.n (.n (.n .e a152 .e) a88 .e) arQ (.n .e aNC .e)))) NI (.n (.n (.n (.n (.n .e Nu .e) ar5 .e) a36 (.n (.n .e a164 .e) asc .e)) a20 (.n (.n (.n .e a148 .e) a84 .e) a52 (.n .e a116 .e))) arY (.n (.n (.n (.n .e asg .e) a76 .e) a44 (.n .e aNI .e)) a28 (.n (.n (.n .e asf .e) a92 .e) a60 (.n .e a124 .e))))) arZ (.n (.n (.n (.n (.n (.n .e arN .e) a66 .e) a34 (.n (.n .e a162 .e) a98 .e)) a18 (.n (.n (.n .e a146 .e) a82 .e) a50 (.n .e aNF .e))) NJ (.n (.n (.n (.n .e a138 .e) asn .e) a42 (.n .e ar1 .e)) a26 (.n (.n (.n .e asl .e) a90 .e) a58 (.n .e aNA .e)))) arX (.n (.n (.n (.n (.n .e aNw .e) ar8 .e) arU (.n (.n .e aNj .e) ase .e)) asr (.n (.n (.n .e aNo .e) a86 .e) a54 (.n .e aND .e))) NK (.n (.n (.n (.n .e aNs .e) a78 .e) a46 (.n .e arO .e)) arT (.n (.n (.n .e aNm .e) Nv .e) a62 (.n .e aNx .e)))))))
theorem aOr:tab.get vZ=some asw:=rfl
theorem aN2:tab.get Pj=some arZ:=rfl
theorem aN8:tab.get rG=some ar7:=rfl
theorem aJH:tab.get Np=some NI:=rfl
theorem aJG:tab.get Nl=some NH:=rfl
theorem aN0:tab.get Pg=some arX:=rfl
theorem aJF:tab.get Nk=some NG:=rfl
theorem aJI:tab.get Fj=some NJ:=rfl
theorem aN1:tab.get Ph=some arY:=rfl
theorem aJJ:tab.get Nq=some NK:=rfl
theorem aNL:tab.get Xw=some arI:=rfl
theorem aJE:tab.get AY=some ND:=rfl
theorem aOo:tab.get Ip=some asr:=rfl
theorem aN7:tab.get Ij=some ar6:=rfl
theorem Xr:tab.get iq=some Nz:=rfl
theorem aJC:tab.get iW=some Ny:=rfl
theorem aNZ:tab.get O9=some arW:=rfl
theorem aNW:tab.get qg=some arT:=rfl
theorem aJD:tab.get Fh=some NC:=rfl
theorem aNY:tab.get O8=some arV:=rfl
theorem aNX:tab.get O7=some arU:=rfl
theorem aOn:tab.get Po=some asq:=rfl
theorem aNT:tab.get yx=some arQ:=rfl
theorem aOa:tab.get vY=some ar9:=rfl
theorem aOq:tab.get DY=some asv:=rfl
theorem aN3:tab.get yA=some ar0:=rfl
theorem aN6:tab.get vX=some ar5:=rfl
theorem aEb:tab.get DR=some ar4:=rfl
theorem aN9:tab.get Pn=some ar8:=rfl
theorem aNV:tab.get Ih=some arS:=rfl
theorem aOm:tab.get Xy=some aso:=rfl
theorem aJB:tab.get Nj=some Nw:=rfl
theorem aOl:tab.get yC=some asn:=rfl
theorem aNS:tab.get Ie=some arP:=rfl
theorem aJA:tab.get Nh=some Nv:=rfl
theorem aNO:tab.get DL=some arL:=rfl
theorem aOc:tab.get DU=some asb:=rfl
theorem aOd:tab.get yB=some asc:=rfl
theorem aOi:tab.get DX=some asi:=rfl
theorem aOe:tab.get qh=some ase:=rfl
theorem aOh:tab.get DW=some ash:=rfl
theorem aN5:tab.get Pm=some ar2:=rfl
theorem aN4:tab.get Ii=some ar1:=rfl
theorem aNU:tab.get Ig=some arR:=rfl
theorem aNR:tab.get Xx=some arO:=rfl
theorem aOp:tab.get Pq=some asu:=rfl
theorem aJy:tab.get XC=some Ns:=rfl
theorem aNM:tab.get jZ=some arJ:=rfl
theorem aNQ:tab.get O6=some arN:=rfl
theorem aNP:tab.get Ic=some arM:=rfl
theorem aJz:tab.get Nc=some Nu:=rfl
theorem aNN:tab.get Ia=some arK:=rfl
theorem aOg:tab.get DV=some asg:=rfl
theorem aJx:tab.get XB=some Nr:=rfl
theorem aOk:tab.get kG=some asl:=rfl
theorem aOj:tab.get Il=some asj:=rfl
theorem aOf:tab.get Ik=some asf:=rfl
theorem aOb:tab.get tC=some asa:=rfl
end Go.Proofs.YtmbjejcfadllnaaGreat
end
