/-
  The functions that the law comes to, in the small code: the second part.
-/
import Derived.Test.YthfeogjbpgocbaaGreatTabA
set_option linter.unusedVariables false
set_option linter.unusedSimpArgs false
set_option linter.unusedSectionVars false
section
set_option maxRecDepth 100000
namespace Go.Proofs.YthfeogjbpgocbaaGreat
open Go Km
open TQ
def a194:AFunc:=⟨[p0,p1,p2],[.tmp p6,.tmp p7],(sq (.region [oo p6 (.mov (.k (.c (.f (.int .u64 0))))),oo p7 (.mov (.k (.c (.f (.int .u64 0)))))] []) (sq (sq (.region [om p19 r2,oo p20 (.bin .eql r19 (.k (.c (.f (.int .u64 0)))))] []) (.cond r20 .bad .skip)) (sq (sq (.region [om p22 r2,om p23 r0,oo p24 (.bin .leq r22 r23)] []) (.cond r24 .bad .skip)) (sq (sq (.region [om p26 r0,oo p27 (.bin .eql r26 (.k (.c (.f (.int .u64 0)))))] []) (.cond r27 (sq (.region [om p28 r1,om p29 r2,oo p30 (.bin .quo r28 r29),om p31 r1,om p32 r2,oo p33 (.bin .rem r31 r32),om p6 r30,om p7 r33] []) .ret) .skip)) .bad))))⟩
def a203:AFunc:=⟨[p0,p1],[.cell p4 none],(sq (.region [oo p2 (.box r0),oo p3 (.box r1),oo p4 (.alloc [(.bool false)])] []) (sq (sq (.region [ad p7 0 r2,ad p8 3 r7,oo p9 (.load none r8),oo p10 (.call 214 [r9] true)] []) (.block 0 (.ig r10 [p11,p12] (.region [oo p6 (.alloc [z0,z0,(.bool false)]),on (.store 3 r6 r12)] []) (.block 1 (sq (.region [oo p13 (.load none r3),ad p14 0 r6,oo p15 (.load none r14),oc p16 171 [r13,r15],ad p17 1 r6,oo p18 (.load none r17),oo p19 (.bin .eql r16 r18)] []) (.cond r19 (sq (.region [ad p20 2 r6,oo p21 (.load none r20),on (.store 1 r4 r21)] []) .ret) .skip)))))) (sq (.region [on (.store 1 r4 kf)] []) .ret)))⟩
def aOX:AFunc:=⟨[p0,p1,p2,p3],[.tmp p8,.tmp p9,.tmp p10],(sq (.region [om p8 i0,om p9 i0,om p10 i0] []) (sq (sq (.region [om p18 r1,oo p19 (.bin .lss r18 i1),om p20 r19,⟨(some p21),.mov r3,some (p20,false)⟩,⟨(some p22),.bin .lss r21 i1,some (p20,false)⟩,oo p23 (.pick r20 kt r22)] []) (.cond r23 .bad .skip)) (sq (.region [om p24 r1,om p25 r3,oc p26 165 [r24,r25],om p11 r26] []) (sq (.region [om p27 r0,om p28 r1,oc p29 120 [r27,r28],om p30 r2,om p31 r3,oc p32 120 [r30,r31],om p12 r29,om p13 r32] []) (sq (sq (.region [om p33 r13,om p34 r12,oo p35 (.bin .sub r33 r34),om p36 r11,oo p37 (.bin .rem r35 r36),oo p38 (.bin .neq r37 i0)] []) (.cond r38 .bad .skip)) (sq (.region [om p40 r1,om p41 r3,oc p42 144 [r40,r41],om p39 r42,ox p43 r39 0,ox p44 r39 1,om p14 r43,om p15 r44] []) (sq (sq (.region [om p45 r15,oo p46 (.bin .neq r45 i0)] []) (.cond r46 .bad .skip)) (sq (.region [om p48 r3,om p49 r11,oo p50 (.bin .quo r48 r49),om p16 r50] []) (sq (.region [om p51 r13,om p52 r12,oo p53 (.bin .sub r51 r52),om p54 r11,oo p55 (.bin .quo r53 r54),om p56 r16,oc p57 120 [r55,r56],om p58 r1,om p59 r11,oo p60 (.bin .quo r58 r59),om p61 r16,oc p62 120 [r60,r61],om p63 r16,oc p64 217 [r62,r63],om p65 r16,oc p66 216 [r57,r64,r65],om p17 r66] []) (sq (.region [om p67 r12,om p68 r1,om p69 r17,oo p70 (.bin .mul r68 r69),oo p71 (.bin .add r67 r70),om p72 r14,om p8 r71,om p9 r72,om p10 i0] []) .ret))))))))))⟩
def a208:AFunc:=⟨[p0,p1],[.tmp p4],(sq (.region [oo p2 (.box r0),oo p3 (.box r1),oo p4 (.mov (.k (.c (.f .jr))))] []) (sq (.region [oo p5 (.jG 218 [r2,r3]),om p4 r5] []) .ret))⟩
def aOW:AFunc:=⟨[p0,p1,p2],[.tmp p5],(sq (.region [om p5 ks] []) (sq (sq (.region [ad p6 4 r2,ol p7 4 r6,om p8 r1,oc p9 106 [r7,r8]] []) (.cond r9 (sq (.region [om p10 r0,om p5 r10] []) .ret) .skip)) (sq (.region [om p11 r0,om p12 r1,oo p13 (.aY 1 [z0] 1 [(0,r12)]),oo p14 (.append 1 8 r11 r13),om p5 r14] []) .ret)))⟩
def a210:AFunc:=⟨[p0,p1],[.tmp p4],(sq (.region [oo p2 (.box r0),om p4 kf] []) (sq (.region [ad p5 12 r2,oo p6 (.load none r5),om p7 r1,ad p8 11 r2,oo p9 (.load none r8),oo p10 (.bin .rem r7 r9),oo p11 (.lookup .int .aA r6 r10),oo p12 (.len r11),ad p13 4 r2,ad p14 2 r13,oo p15 (.load none r14),ad p16 11 r2,oo p17 (.load none r16),oo p18 (.bin .quo r15 r17),oo p19 (.bin .eql r12 r18),om p4 r19] []) .ret))⟩
def aOV:AFunc:=⟨[p0],[.tmp p2],(sq (.region [oo p1 (.box r0),oo p2 (.mov (.k (.c (.f .jr))))] []) (sq (.region [oo p3 (.jG 220 [r1]),om p2 r3] []) .ret))⟩
def aOU:AFunc:=⟨[p0,p1,p2],[.tmp p6],(sq (.region [om p6 i0] []) (sq (.region [om p10 r0,oo p11 (.cvi .u64 r10),om p12 r1,oo p13 (.cvi .u64 r12),oc p14 193 [r11,r13],om p9 r14,ox p15 r9 0,ox p16 r9 1,om p7 r15,om p8 r16] []) (sq (.region [om p17 r7,om p18 r8,om p19 r2,oo p20 (.cvi .u64 r19),oc p21 221 [r17,r18,r20],oo p22 (.cvi .i64 r21),om p6 r22] []) .ret)))⟩
def aOT:AFunc:=⟨[p0,p1],[.tmp p4],(sq (.region [om p4 i0] []) (sq (.region [om p10 r0,om p11 r1,om p5 r10,om p6 r11,om p7 i1,om p8 i0] []) (sq (.block 0 (.loop (sq (sq (.region [om p12 r6,oo p13 (.bin .neq r12 i0)] []) (.cond r13 .skip (.exit 0))) (.block 1 (sq (.region [om p14 r5,om p15 r6,oo p16 (.bin .quo r14 r15),om p9 r16] []) (sq (.region [om p17 r6,om p18 r5,om p19 r9,om p20 r6,oo p21 (.bin .mul r19 r20),oo p22 (.bin .sub r18 r21),om p5 r17,om p6 r22] []) (.region [om p23 r8,om p24 r7,om p25 r9,om p26 r8,oo p27 (.bin .mul r25 r26),oo p28 (.bin .sub r24 r27),om p7 r23,om p8 r28] []))))))) (sq (.region [om p29 r7,om p30 r1,oc p31 120 [r29,r30],om p4 r31] []) .ret))))⟩
def a218:AFunc:=⟨[p0,p1,p2],[],(sq (.region [ad p12 0 r1,oo p13 (.load none r12),oo p14 (.load none r2),oc p15 21 [r13,r14],om p11 r15,ox p16 r11 0,ox p17 r11 1,om p4 r16,om p5 r17] []) (sq (sq (.region [ad p18 0 r1,oo p19 (.load none r18),om p20 r4,oo p21 (.slice 1 r19 (some r20) none none),oo p22 (.len r21),om p23 i0] []) (.block 0 (.loop (sq (.region [oo p24 (.bin .lss r23 r22)] []) (sq (.cond r24 .skip (.exit 0)) .bad))))) (sq (sq (.region [ad p32 3 r1,oo p33 (.load none r32),oo p34 (.len r33),oo p35 (.bin .eql r34 i0)] []) (.cond r35 .ret .skip)) (sq (.region [oo p36 (.load none r2),ad p37 1 r1,oo p38 (.load none r37),oo p39 (.kJ false [r36,r38]),on (.store 1 r2 r39)] []) (sq (.region [oo p40 (.load none r2),oo p41 (.load none r2),ad p42 1 r1,oo p43 (.load none r42),oo p44 (.bin .sub r41 r43),ad p45 2 r1,oo p46 (.load none r45),oo p47 (.bin .rem r44 r46),oo p48 (.bin .sub r40 r47),om p8 r48] []) (sq (.region [ad p50 3 r1,oo p51 (.load none r50),oo p52 (.load none r2),om p53 r8,oo p54 (.bin .sub r52 r53),oc p55 21 [r51,r54],om p49 r55,ox p56 r49 0,ox p57 r49 1,om p4 r56] []) (.block 2 (.loop (.block 3 (sq (sq (.region [ad p58 3 r1,oo p59 (.load none r58),om p60 r4,oo p61 (.slice 1 r59 (some r60) none none),oo p62 (.len r61),om p63 i0] []) (.block 4 (.loop (sq (.region [oo p64 (.bin .lss r63 r62)] []) (sq (.cond r64 .skip (.exit 4)) (sq (.block 5 (sq (.region [oi p65 1 r61 r63,oo p66 (.load none r65),om p10 r66] []) (sq (.region [om p67 r0,om p68 r8,om p69 r10,oo p70 (.bin .add r68 r69),oo p71 (.bP r67 [r70] true),oo p72 (.un .not r71)] []) (.cond r72 .ret .skip)))) (.region [oo p73 (.bin .add r63 i1),om p63 r73] []))))))) (sq (.region [om p4 i0] []) (.region [om p74 r8,ad p75 2 r1,oo p76 (.load none r75),oo p77 (.bin .add r74 r76),om p8 r77] []))))))))))))⟩
def aOS:AFunc:=⟨[p0,p1],[],(sq (.region [oo p4 (.load none r1),oo p5 (.len r4),oo p6 (.bin .sub r5 i1),om p3 r6] []) (.block 0 (.loop (sq (sq (.region [om p7 r3,oo p8 (.bin .geq r7 i0)] []) (.cond r8 .skip (.exit 0))) (sq (.block 1 (sq (.region [om p11 r0,om p12 r3,oo p13 (.load none r1),om p14 r3,oi p15 3 r13 r14,ol p16 3 r15,oo p17 (.bP r11 [r12,r16] true),oo p18 (.un .not r17)] []) (.cond r18 .ret .skip))) (.region [om p9 r3,oo p10 (.bin .sub r9 i1),om p3 r10] []))))))⟩
def aOR:AFunc:=⟨[p0,p1,p2],[.tmp p6],(sq (.region [oo p6 (.mov (.k (.c (.f (.int .u64 0)))))] []) (sq (.region [om p10 r0,om p11 r2,oo p12 (.bin .rem r10 r11),om p13 r1,om p14 r2,oc p15 194 [r12,r13,r14],om p9 r15,ox p16 r9 0,ox p17 r9 1,om p7 r16,om p8 r17] []) (sq (.region [om p18 r8,om p6 r18] []) .ret)))⟩
def tab:BT AFunc:=(.n (.n (.n (.n (.n (.n (.n (.n .e a127 .e) Po (.n .e aOZ .e)) avZ (.n (.n .e a159 .e) a95 .e)) a15 (.n (.n (.n .e PD .e) a79 (.n .e aOX .e)) a47 (.n (.n .e Qm .e) Qq .e))) avU (.n (.n (.n (.n .e aPm .e) a71 (.n .e PS .e)) avQ (.n (.n .e a167 .e) PE .e)) avR (.n (.n (.n .e aPf .e) a87 (.n .e P9 .e)) a55 (.n (.n .e a183 .e) a119 .e)))) av6 (.n (.n (.n (.n (.n .e a131 .e) avM (.n .e Qh .e)) avO (.n (.n .e aPa .e) QG .e)) Pn (.n (.n (.n .e aPh .e) a83 (.n .e PN .e)) awc (.n (.n .e P5 .e) O5 .e))) av4 (.n (.n (.n (.n .e QE .e) O6 (.n .e a203 .e)) a43 (.n (.n .e a171 .e) a107 .e)) Qv (.n (.n (.n .e aPd .e) a91 (.n .e P8 .e)) Qg (.n (.n .e aO3 .e) aPu .e))))) a1 (.n (.n (.n (.n (.n (.n .e aPq .e) Qw (.n .e a193 .e)) OY (.n (.n .e aPb .e) QD .e)) avS (.n (.n (.n .e a145 .e) a81 (.n .e aOW .e)) a49 (.n (.n .e P7 .e) O7 .e))) QB (.n (.n (.n (.n .e aPk .e) Ph (.n .e PX .e)) a41 (.n (.n .e PV .e) QT .e)) Pz (.n (.n (.n .e aPe .e) a89 (.n .e aOT .e)) Pm (.n (.n .e aO5 .e) aPw .e)))) av5 (.n (.n (.n (.n (.n .e aPo .e) avY (.n .e Qn .e)) a37 (.n (.n .e aO9 .e) Pv .e)) Qy (.n (.n (.n .e aPg .e) a85 (.n .e Qb .e)) a53 (.n (.n .e PL .e) Qz .e))) a13 (.n (.n (.n (.n .e a141 .e) avX (.n .e Qe .e)) a45 (.n (.n .e Qk .e) OX .e)) Qx (.n (.n (.n .e a157 .e) a93 (.n .e aOR .e)) QM (.n (.n .e aO1 .e) aPt .e)))))) av7 (.n (.n (.n (.n (.n (.n (.n .e aPr .e) Qr (.n .e aOY .e)) O4 (.n (.n .e a160 .e) a96 .e)) a16 (.n (.n (.n .e aPi .e) a80 (.n .e a208 .e)) a48 (.n (.n .e PU .e) OZ .e))) QL (.n (.n (.n (.n .e aPl .e) O1 (.n .e P6 .e)) a40 (.n (.n .e a168 .e) Qs .e)) QO (.n (.n (.n .e a152 .e) a88 (.n .e aOU .e)) QI (.n (.n .e aO6 .e) avV .e)))) QS (.n (.n (.n (.n (.n .e aPp .e) Qu (.n .e Qj .e)) a36 (.n (.n .e a164 .e) QK .e)) QA (.n (.n (.n .e a148 .e) avP (.n .e Qd .e)) a52 (.n (.n .e Qa .e) O8 .e))) a12 (.n (.n (.n (.n .e aPj .e) a76 (.n .e PO .e)) a44 (.n (.n .e Qi .e) aPz .e)) av2 (.n (.n (.n .e a156 .e) av8 (.n .e aOS .e)) QN (.n (.n .e aO2 .e) a124 .e))))) QC (.n (.n (.n (.n (.n (.n .e a130 .e) av1 (.n .e a194 .e)) a34 (.n (.n .e a162 .e) QH .e)) QJ (.n (.n (.n .e a146 .e) a82 (.n .e a210 .e)) a50 (.n (.n .e PY .e) Pg .e))) PI (.n (.n (.n (.n .e QF .e) O9 (.n .e PZ .e)) a42 (.n (.n .e aO7 .e) avL .e)) PG (.n (.n (.n .e a154 .e) a90 (.n .e a218 .e)) av9 (.n (.n .e aO4 .e) aPv .e)))) avT (.n (.n (.n (.n (.n .e aPn .e) avN (.n .e Ql .e)) a38 (.n (.n .e aO8 .e) Py .e)) PK (.n (.n (.n .e PW .e) a86 (.n .e aOV .e)) Pj (.n (.n .e a182 .e) aPx .e))) a14 (.n (.n (.n (.n .e Qp .e) avW (.n .e Qc .e)) a46 (.n (.n .e Qo .e) aPy .e)) av3 (.n (.n (.n .e aPc .e) a94 .e) Px (.n (.n .e aO0 .e) aPs .e)))))))
theorem aPX:tab.get Lj=some av7:=rfl
theorem aKP:tab.get IC=some QC:=rfl
theorem aPW:tab.get alq=some av6:=rfl
theorem aK2:tab.get vP=some QS:=rfl
theorem aPV:tab.get alp=some av5:=rfl
theorem aPK:tab.get CU=some avT:=rfl
theorem aPL:tab.get TA=some avU:=rfl
theorem aKX:tab.get OV=some QL:=rfl
theorem aKO:tab.get OU=some QB:=rfl
theorem aKc:tab.get Iz=some PI:=rfl
theorem aPU:tab.get TB=some av4:=rfl
theorem aPJ:tab.get Tz=some avS:=rfl
theorem aKV:tab.get nD=some QJ:=rfl
theorem aJ3:tab.get Ir=some Pn:=rfl
theorem aKN:tab.get OT=some QA:=rfl
theorem aKL:tab.get yO=some Qy:=rfl
theorem aKd:tab.get OG=some PK:=rfl
theorem aPI:tab.get nO=some avR:=rfl
theorem aK1:tab.get vO=some QO:=rfl
theorem aJ8:tab.get OE=some Pz:=rfl
theorem aKb:tab.get Iy=some PG:=rfl
theorem aKJ:tab.get OO=some Qv:=rfl
theorem aPS:tab.get F_x40=some av2:=rfl
theorem aKK:tab.get OQ=some Qx:=rfl
theorem aPT:tab.get Le=some av3:=rfl
theorem aPQ:tab.get alo=some avZ:=rfl
theorem aJU:tab.get jo=some O4:=rfl
theorem aJS:tab.get qg=some OY:=rfl
theorem aPF:tab.get ali=some avO:=rfl
theorem aPH:tab.get alj=some avQ:=rfl
theorem aP0:tab.get EL=some awc:=rfl
theorem aJ1:tab.get OC=some Pj:=rfl
theorem aKU:tab.get Dc=some QI:=rfl
theorem aJ2:tab.get OD=some Pm:=rfl
theorem aPZ:tab.get alW=some av9:=rfl
theorem aKw:tab.get IB=some Qg:=rfl
theorem aKZ:tab.get II=some QN:=rfl
theorem aKY:tab.get ku=some QM:=rfl
theorem aJ6:tab.get Iu=some Px:=rfl
theorem aJ4:tab.get rJ=some Po:=rfl
theorem aKH:tab.get alT=some Qr:=rfl
theorem alc:tab.get CY=some Qw:=rfl
theorem aPR:tab.get Lc=some av1:=rfl
theorem aPD:tab.get KZ=some avM:=rfl
theorem aKI:tab.get alV=some Qu:=rfl
theorem aPP:tab.get La=some avY:=rfl
theorem aPE:tab.get alh=some avN:=rfl
theorem ak7:tab.get nC=some O1:=rfl
theorem aJ0:tab.get Iq=some Ph:=rfl
theorem aJY:tab.get rG=some O9:=rfl
theorem aJW:tab.get OB=some O6:=rfl
theorem aPO:tab.get aln=some avX:=rfl
theorem aPN:tab.get alm=some avW:=rfl
theorem aPG:tab.get EK=some avP:=rfl
theorem aPY:tab.get CX=some av8:=rfl
theorem aKQ:tab.get rM=some QD:=rfl
theorem aKT:tab.get qh=some QH:=rfl
theorem ald:tab.get yQ=some QG:=rfl
theorem aKW:tab.get IG=some QK:=rfl
theorem aJ5:tab.get CV=some Pv:=rfl
theorem aJ7:tab.get Iw=some Py:=rfl
theorem aKa:tab.get yN=some PE:=rfl
theorem alb:tab.get alU=some Qs:=rfl
theorem aK3:tab.get Df=some QT:=rfl
theorem aPC:tab.get Tv=some avL:=rfl
theorem aJR:tab.get OA=some OX:=rfl
theorem aKG:tab.get OM=some Qq:=rfl
theorem aJT:tab.get yM=some OZ:=rfl
theorem ak8:tab.get oz=some O7:=rfl
theorem aJZ:tab.get rH=some Pg:=rfl
theorem aJV:tab.get Ip=some O5:=rfl
theorem aJX:tab.get rF=some O8:=rfl
theorem aKM:tab.get CZ=some Qz:=rfl
theorem aPM:tab.get alk=some avV:=rfl
theorem aKS:tab.get IE=some QF:=rfl
theorem aKR:tab.get C9=some QE:=rfl
theorem aKF:tab.get OL=some Qp:=rfl
theorem aJ9:tab.get CW=some PD:=rfl
theorem aKj:tab.get aly=some PW:=rfl
theorem aKi:tab.get alx=some PV:=rfl
theorem aKy:tab.get alM=some Qi:=rfl
theorem aKA:tab.get alO=some Qk:=rfl
theorem aKE:tab.get alS=some Qo:=rfl
theorem aKC:tab.get alQ=some Qm:=rfl
theorem aKh:tab.get alv=some PU:=rfl
theorem aKp:tab.get alE=some P7:=rfl
theorem aKl:tab.get alA=some PY:=rfl
theorem aKn:tab.get alC=some P5:=rfl
theorem ala:tab.get OJ=some Qa:=rfl
theorem ak9:tab.get OH=some PL:=rfl
theorem aKx:tab.get alL=some Qh:=rfl
theorem aKz:tab.get alN=some Qj:=rfl
theorem aKD:tab.get alR=some Qn:=rfl
theorem aKB:tab.get alP=some Ql:=rfl
theorem aKg:tab.get alu=some PS:=rfl
theorem aKo:tab.get alD=some P6:=rfl
theorem aKk:tab.get alz=some PX:=rfl
theorem aKm:tab.get alB=some PZ:=rfl
theorem aKf:tab.get als=some PO:=rfl
theorem aKv:tab.get alK=some Qe:=rfl
theorem aKt:tab.get alI=some Qc:=rfl
theorem aKe:tab.get alr=some PN:=rfl
theorem aKu:tab.get alJ=some Qd:=rfl
theorem aKs:tab.get alH=some Qb:=rfl
theorem aKr:tab.get alG=some P9:=rfl
theorem aKq:tab.get alF=some P8:=rfl
end Go.Proofs.YthfeogjbpgocbaaGreat
end
