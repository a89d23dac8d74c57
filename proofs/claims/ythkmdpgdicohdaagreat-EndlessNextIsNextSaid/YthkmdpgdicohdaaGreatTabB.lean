/-
  The kX that the law comes to, in the small code: the second part.
-/
import Derived.Test.YthkmdpgdicohdaaGreatTabA
set_option linter.unusedVariables false
set_option linter.unusedSimpArgs false
set_option linter.unusedSectionVars false
section
set_option maxRecDepth 100000
namespace Go.Proofs.YthkmdpgdicohdaaGreat
open Go Km
def tab:BT aw:=(.n (.n (.n (.n (.n (.n (.n (.n .e X8 .e) Sw .e) a31 (.n (.n .e Yv .e) Ef .e)) R5 (.n (.n (.n .e Ym .e) xD .e) D4 (.n .e XY .e))) a7 (.n (.n (.n (.n .e Ye .e) a71 .e) Sl (.n .e XQ .e)) Xz (.n (.n (.n .e Yq .e) Sg .e) SA (.n .e xE .e)))) D6 (.n (.n (.n (.n (.n .e Ya .e) SE .e) R_ (.n (.n .e Yy .e) xz .e)) Ed (.n (.n (.n .e SF .e) xM .e) xL (.n .e X4 .e))) a11 (.n (.n (.n (.n .e Yi .e) a75 .e) a43 (.n .e XU .e)) a27 (.n (.n (.n .e Yr .e) a91 .e) Eb (.n .e Sv .e))))) a1 (.n (.n (.n (.n (.n (.n .e X9 .e) xx .e) Sk (.n (.n .e Eg .e) Sy .e)) Sa (.n (.n (.n .e D_ .e) xA .e) D8 (.n .e Sr .e))) a9 (.n (.n (.n (.n .e Yg .e) a73 .e) a41 (.n .e XS .e)) a25 (.n (.n (.n .e Ss .e) Su .e) a57 (.n .e X5 .e)))) a5 (.n (.n (.n (.n (.n .e Yc .e) a69 .e) R0 (.n (.n .e YA .e) XO .e)) Ea (.n (.n (.n .e Xy .e) xK .e) XA (.n .e xG .e))) D3 (.n (.n (.n (.n .e Yk .e) Sq .e) Si (.n .e XW .e)) a29 (.n (.n (.n .e Yt .e) a93 .e) a61 (.n .e X6 .e)))))) Sd (.n (.n (.n (.n (.n (.n (.n .e SC .e) xy .e) R4 (.n (.n .e Yw .e) Sx .e)) R7 (.n (.n (.n .e Yn .e) xC .e) D5 (.n .e XZ .e))) To (.n (.n (.n (.n .e Yf .e) a72 .e) a40 (.n .e XR .e)) Xx (.n (.n (.n .e Sh .e) Sp .e) Eh (.n .e xF .e)))) a4 (.n (.n (.n (.n (.n .e Yb .e) a68 .e) xw (.n (.n .e Yz .e) D2 .e)) Sb (.n (.n (.n .e Yp .e) xI .e) Sf (.n .e xN .e))) a12 (.n (.n (.n (.n .e Yj .e) Sj .e) a44 (.n .e XV .e)) Sc (.n (.n (.n .e Ys .e) a92 .e) a60 (.n .e So .e))))) D9 (.n (.n (.n (.n (.n (.n .e X_ .e) Sn .e) a34 (.n (.n .e Yx .e) SB .e)) R6 (.n (.n (.n .e Yo .e) xB .e) R8 (.n .e SD .e))) a10 (.n (.n (.n (.n .e Yh .e) a74 .e) a42 (.n .e XT .e)) R9 (.n (.n (.n .e Se .e) a90 .e) a58 (.n .e Sz .e)))) R3 (.n (.n (.n (.n (.n .e Yd .e) a70 .e) a38 (.n (.n .e YB .e) XP .e)) a22 (.n (.n (.n .e xH .e) xJ .e) a54 (.n .e xO .e))) D7 (.n (.n (.n (.n .e Yl .e) a78 .e) a46 (.n .e XX .e)) a30 (.n (.n (.n .e Yu .e) Ec .e) Ee (.n .e X7 .e)))))))
theorem XL:tab.get 3=some D6:=rfl
theorem abc:tab.get 8=some To:=rfl
theorem TI:tab.get 36=some xw:=rfl
theorem I5:tab.get 51=some xL:=rfl
theorem XM:tab.get 56=some Eh:=rfl
theorem TJ:tab.get 64=some xy:=rfl
theorem I2:tab.get 65=some xx:=rfl
theorem I4:tab.get 79=some xD:=rfl
theorem TN:tab.get 80=some xC:=rfl
theorem TK:tab.get 81=some xA:=rfl
theorem TM:tab.get 82=some xB:=rfl
theorem TW:tab.get 83=some xM:=rfl
theorem TT:tab.get 84=some xI:=rfl
theorem TV:tab.get 85=some xK:=rfl
theorem TU:tab.get 86=some xJ:=rfl
theorem I3:tab.get 99=some xz:=rfl
theorem TX:tab.get 116=some xN:=rfl
theorem TR:tab.get 117=some xG:=rfl
theorem TY:tab.get 118=some xO:=rfl
theorem TO:tab.get 119=some xE:=rfl
theorem TP:tab.get 120=some xF:=rfl
theorem TS:tab.get 150=some xH:=rfl
end Go.Proofs.YthkmdpgdicohdaaGreat
end
