/-
  The iO that the law comes to, in the small code: the second part.
-/
import Derived.Test.YtmbjejcfadllnaaGreatTabA
set_option linter.unusedVariables false
set_option linter.unusedSimpArgs false
set_option linter.unusedSectionVars false
section
set_option maxRecDepth 100000
namespace Go.Proofs.YtmbjejcfadllnaaGreat
open Go Km
def tab:BT ax:=(.n (.n (.n (.n (.n (.n (.n (.n .e EM .e) a63 (.n .e aoI .e)) Eb (.n (.n .e EF .e) Er .e)) P2 (.n (.n (.n .e D6 .e) PG .e) Pp (.n (.n .e PM .e) PY .e))) a7 (.n (.n (.n (.n .e Fg .e) a71 (.n .e aoM .e)) a39 (.n (.n .e ES .e) aof .e)) a23 (.n (.n (.n .e aot .e) El .e) Fa (.n (.n .e Et .e) Px .e)))) PU (.n (.n (.n (.n (.n .e aom .e) a67 (.n .e EG .e)) Ee (.n (.n .e aoy .e) a99 .e)) a19 (.n (.n (.n .e D5 .e) Pv .e) Pg (.n (.n .e aoF .e) Qa .e))) D7 (.n (.n (.n (.n .e E7 .e) PT .e) PE (.n (.n .e aoC .e) PJ .e)) PV (.n (.n (.n .e EW .e) Ff .e) a59 (.n (.n .e EP .e) Eu .e))))) a1 (.n (.n (.n (.n (.n (.n .e Pw .e) a65 (.n .e EX .e)) P' (.n (.n .e aow .e) Fc .e)) EZ (.n (.n (.n .e D3 .e) Ej .e) D8 (.n (.n .e EC .e) aoi .e))) a9 (.n (.n (.n (.n .e E4 .e) PW (.n .e aoO .e)) P9 (.n (.n .e Ph .e) PQ .e)) PD (.n (.n (.n .e aov .e) Pu .e) E5 (.n (.n .e EV .e) Ex .e)))) a5 (.n (.n (.n (.n (.n .e aon .e) PS (.n .e aoL .e)) a37 (.n (.n .e aoA .e) D4 .e)) a21 (.n (.n (.n .e aoq .e) a85 .e) Po (.n (.n .e EA .e) PC .e))) Pm (.n (.n (.n (.n .e ET .e) PF .e) Pz (.n (.n .e PH .e) PK .e)) E0 (.n (.n (.n .e EY .e) E6 .e) a61 (.n (.n .e PR .e) EK .e)))))) Pl (.n (.n (.n (.n (.n (.n (.n .e aok .e) a64 (.n .e aoJ .e)) P7 (.n (.n .e Eg .e) Fb .e)) P4 (.n (.n (.n .e Qc .e) a80 .e) Eo (.n (.n .e EI .e) PZ .e))) P6 (.n (.n (.n (.n .e E8 .e) P0 (.n .e aoN .e)) P8 (.n (.n .e EB .e) aog .e)) a24 (.n (.n (.n .e aou .e) Pt .e) Fh (.n (.n .e Ew .e) Ez .e)))) D9 (.n (.n (.n (.n (.n .e Fi .e) a68 (.n .e aoK .e)) D_ (.n (.n .e aoz .e) aod .e)) a20 (.n (.n (.n .e aop .e) ER .e) Ei (.n (.n .e aoG .e) Qb .e))) Pn (.n (.n (.n (.n .e Ef .e) P_ .e) a44 (.n (.n .e aoD .e) PN .e)) Ec (.n (.n (.n .e EH .e) E3 .e) a60 (.n (.n .e EN .e) EU .e))))) P3 (.n (.n (.n (.n (.n (.n .e aol .e) a66 (.n .e EE .e)) Ea (.n (.n .e aox .e) Fe .e)) a18 (.n (.n (.n .e Ek .e) Pr .e) Pj (.n (.n .e aoE .e) aoj .e))) Py (.n (.n (.n (.n .e E_ .e) PX .e) a42 (.n (.n .e En .e) PO .e)) a26 (.n (.n (.n .e PL .e) a90 .e) a58 (.n (.n .e EL .e) Es .e)))) P5 (.n (.n (.n (.n (.n .e Ep .e) PB (.n .e EJ .e)) a38 (.n (.n .e aoB .e) aoe .e)) a22 (.n (.n (.n .e aor .e) Pk .e) Ps (.n (.n .e Ey .e) Em .e))) P1 (.n (.n (.n (.n .e aoo .e) Eh .e) PA (.n (.n .e PI .e) aoh .e)) Ed (.n (.n (.n .e ED .e) E9 .e) a62 (.n (.n .e aoH .e) EO .e)))))))
theorem anm:tab.get xq=some Pl:=rfl
theorem an2:tab.get Hm=some P3:=rfl
theorem anU:tab.get mj=some PU:=rfl
theorem aiP:tab.get Fj=some D9:=rfl
theorem an4:tab.get Ho=some P5:=rfl
theorem an5:tab.get ZJ=some P6:=rfl
theorem anz:tab.get ud=some Py:=rfl
theorem aiN:tab.get rf=some D7:=rfl
theorem ano:tab.get He=some Pn:=rfl
theorem ann:tab.get ZB=some Pm:=rfl
theorem an0:tab.get Hl=some P1:=rfl
theorem an1:tab.get Ci=some P2:=rfl
theorem an3:tab.get Hn=some P4:=rfl
theorem ajx:tab.get oe=some EZ:=rfl
theorem anE:tab.get Cc=some PD:=rfl
theorem anV:tab.get Cg=some PV:=rfl
theorem aiT:tab.get od=some Ec:=rfl
theorem ajy:tab.get zq=some E0:=rfl
theorem aiU:tab.get fz=some Ed:=rfl
theorem aiS:tab.get rk=some Eb:=rfl
theorem an6:tab.get Hq=some P7:=rfl
theorem an9:tab.get lL=some P':=rfl
theorem aiR:tab.get Fk=some Ea:=rfl
theorem aiV:tab.get zl=some Ee:=rfl
theorem aiQ:tab.get rj=some D_:=rfl
theorem an7:tab.get Hr=some P8:=rfl
theorem an8:tab.get Hs=some P9:=rfl
theorem anF:tab.get Hi=some PE:=rfl
theorem anA:tab.get Hg=some Pz:=rfl
theorem anB:tab.get jo=some PA:=rfl
theorem anq:tab.get xr=some Pp:=rfl
theorem ai3:tab.get Fq=some Eo:=rfl
theorem aiO:tab.get ri=some D8:=rfl
theorem ank:tab.get Y8=some Pj:=rfl
theorem ani:tab.get oW=some Pg:=rfl
theorem aiZ:tab.get Fo=some Ei:=rfl
theorem anp:tab.get B9=some Po:=rfl
theorem ans:tab.get ZC=some Ps:=rfl
theorem ajG:tab.get eS=some Fa:=rfl
theorem ajL:tab.get kH=some Fh:=rfl
theorem ajB:tab.get kF=some E5:=rfl
theorem anS:tab.get oX=some PS:=rfl
theorem anC:tab.get xv=some PB:=rfl
theorem anZ:tab.get sE=some P0:=rfl
theorem anW:tab.get oY=some PW:=rfl
theorem aid:tab.get xB=some PX:=rfl
theorem anT:tab.get Hj=some PT:=rfl
theorem an':tab.get Ht=some P_:=rfl
theorem anG:tab.get ZH=some PF:=rfl
theorem aiY:tab.get Fl=some Eh:=rfl
theorem anH:tab.get sC=some PG:=rfl
theorem ZQ:tab.get tZ=some Ej:=rfl
theorem anr:tab.get B'=some Pr:=rfl
theorem anv:tab.get Ca=some Pv:=rfl
theorem ajq:tab.get Zu=some ER:=rfl
theorem anl:tab.get ua=some Pk:=rfl
theorem ai1:tab.get Y9=some El:=rfl
theorem ant:tab.get B_=some Pt:=rfl
theorem anu:tab.get ZF=some Pu:=rfl
theorem ZV:tab.get iS=some Ff:=rfl
theorem ajz:tab.get zt=some E3:=rfl
theorem ajC:tab.get kG=some E6:=rfl
theorem ajE:tab.get zu=some E9:=rfl
theorem ai5:tab.get zn=some Er:=rfl
theorem ajH:tab.get zw=some Fb:=rfl
theorem ajI:tab.get zx=some Fc:=rfl
theorem ajJ:tab.get zy=some Fe:=rfl
theorem aiK:tab.get tW=some D4:=rfl
theorem anQ:tab.get xz=some PQ:=rfl
theorem anP:tab.get sD=some PO:=rfl
theorem anK:tab.get xw=some PJ:=rfl
theorem anO:tab.get lK=some PN:=rfl
theorem anL:tab.get xx=some PK:=rfl
theorem anX:tab.get Hk=some PY:=rfl
theorem anY:tab.get Ch=some PZ:=rfl
theorem an_:tab.get Cj=some Qa:=rfl
theorem aoa:tab.get ZK=some Qb:=rfl
theorem anD:tab.get Hh=some PC:=rfl
theorem ZR:tab.get Y'=some Em:=rfl
theorem anx:tab.get Cb=some Px:=rfl
theorem aja:tab.get Zg=some Ez:=rfl
theorem ai':tab.get Ze=some Ex:=rfl
theorem ai6:tab.get Za=some Es:=rfl
theorem ai8:tab.get Zc=some Eu:=rfl
theorem ajt:tab.get Zw=some EU:=rfl
theorem ajk:tab.get Zo=some EK:=rfl
theorem ajo:tab.get Zs=some EO:=rfl
theorem ajm:tab.get Zq=some EM:=rfl
theorem anw:tab.get Hf=some Pw:=rfl
theorem ajM:tab.get Fv=some Fi:=rfl
theorem ai4:tab.get Fs=some Ep:=rfl
theorem ajK:tab.get rn=some Fg:=rfl
theorem ZU:tab.get jF=some E8:=rfl
theorem ajA:tab.get mf=some E4:=rfl
theorem ajF:tab.get zv=some E_:=rfl
theorem ajD:tab.get mh=some E7:=rfl
theorem aiW:tab.get tY=some Ef:=rfl
theorem ajs:tab.get rm=some ET:=rfl
theorem aiM:tab.get ej=some D6:=rfl
theorem aob:tab.get Hu=some Qc:=rfl
theorem aiJ:tab.get tV=some D3:=rfl
theorem ai0:tab.get Fp=some Ek:=rfl
theorem aiL:tab.get tX=some D5:=rfl
theorem anM:tab.get xy=some PL:=rfl
theorem ajv:tab.get Zy=some EW:=rfl
theorem ZS:tab.get Ft=some EH:=rfl
theorem ZT:tab.get Fu=some EY:=rfl
theorem aje:tab.get Zi=some ED:=rfl
theorem ajg:tab.get Zk=some EF:=rfl
theorem aiX:tab.get zm=some Eg:=rfl
theorem ajr:tab.get Zv=some ES:=rfl
theorem ajc:tab.get ub=some EB:=rfl
theorem anj:tab.get B7=some Ph:=rfl
theorem ai2:tab.get Y_=some En:=rfl
theorem anI:tab.get ij=some PH:=rfl
theorem anJ:tab.get Ce=some PI:=rfl
theorem anN:tab.get Cf=some PM:=rfl
theorem aji:tab.get Zm=some EI:=rfl
theorem ajd:tab.get zp=some EC:=rfl
theorem ajb:tab.get Zh=some EA:=rfl
theorem ai_:tab.get Zf=some Ey:=rfl
theorem ai7:tab.get Zb=some Et:=rfl
theorem ai9:tab.get Zd=some Ew:=rfl
theorem aju:tab.get Zx=some EV:=rfl
theorem ajl:tab.get Zp=some EL:=rfl
theorem ajp:tab.get Zt=some EP:=rfl
theorem ajn:tab.get Zr=some EN:=rfl
theorem anR:tab.get nR=some PR:=rfl
theorem ajw:tab.get Zz=some EX:=rfl
theorem ajf:tab.get Zj=some EE:=rfl
theorem ajh:tab.get Zl=some EG:=rfl
theorem ajj:tab.get Zn=some EJ:=rfl
end Go.Proofs.YtmbjejcfadllnaaGreat
end
