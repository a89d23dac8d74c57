/-
  The functions that the law comes to, in the small code: the second part.
-/
import Derived.Test.YthfeogjbpgocbaaGreatTabA
set_option linter.unusedVariables false
set_option linter.unusedSimpArgs false
set_option linter.unusedSectionVars false
section
set_option maxRecDepth 100000
namespace Go.Proofs.YthfeogjbpgocbaaGreat
open Go Km
open TQ
def aPe:AFunc:=⟨[p0,p1,p2],[.tmp p6,.tmp p7],(sq (.region [oo p6 (.mov (.k (.c (.f (.int .u64 0))))),oo p7 (.mov (.k (.c (.f (.int .u64 0)))))] []) (sq (sq (.region [om p19 r2,oo p20 (.bin .eql r19 (.k (.c (.f (.int .u64 0)))))] []) (.cond r20 .bad .skip)) (sq (sq (.region [om p22 r2,om p23 r0,oo p24 (.bin .leq r22 r23)] []) (.cond r24 .bad .skip)) (sq (sq (.region [om p26 r0,oo p27 (.bin .eql r26 (.k (.c (.f (.int .u64 0)))))] []) (.cond r27 (sq (.region [om p28 r1,om p29 r2,oo p30 (.bin .quo r28 r29),om p31 r1,om p32 r2,oo p33 (.bin .rem r31 r32),om p6 r30,om p7 r33] []) .ret) .skip)) .bad))))⟩
def a201:AFunc:=⟨[p0,p1],[.cell p4 none],(sq (.region [oo p2 (.box r0),oo p3 (.box r1),oo p4 (.alloc [(.bool false)])] []) (sq (sq (.region [ad p7 0 r2,ad p8 3 r7,oo p9 (.load none r8),oo p10 (.call 212 [r9] true)] []) (.block 0 (.iC r10 [p11,p12] (.region [oo p6 (.alloc [z0,z0,(.bool false)]),on (.store 3 r6 r12)] []) (.block 1 (sq (.region [oo p13 (.load none r3),ad p14 0 r6,oo p15 (.load none r14),oc p16 169 [r13,r15],ad p17 1 r6,oo p18 (.load none r17),oo p19 (.bin .eql r16 r18)] []) (.cond r19 (sq (.region [ad p20 2 r6,oo p21 (.load none r20),on (.store 1 r4 r21)] []) .ret) .skip)))))) (sq (.region [on (.store 1 r4 kf)] []) .ret)))⟩
def aPd:AFunc:=⟨[p0,p1,p2,p3],[.tmp p8,.tmp p9,.tmp p10],(sq (.region [om p8 i0,om p9 i0,om p10 i0] []) (sq (sq (.region [om p18 r1,oo p19 (.bin .lss r18 i1),om p20 r19,⟨(some p21),.mov r3,some (p20,false)⟩,⟨(some p22),.bin .lss r21 i1,some (p20,false)⟩,oo p23 (.pick r20 kt r22)] []) (.cond r23 .bad .skip)) (sq (.region [om p24 r1,om p25 r3,oc p26 163 [r24,r25],om p11 r26] []) (sq (.region [om p27 r0,om p28 r1,oc p29 118 [r27,r28],om p30 r2,om p31 r3,oc p32 118 [r30,r31],om p12 r29,om p13 r32] []) (sq (sq (.region [om p33 r13,om p34 r12,oo p35 (.bin .sub r33 r34),om p36 r11,oo p37 (.bin .rem r35 r36),oo p38 (.bin .neq r37 i0)] []) (.cond r38 .bad .skip)) (sq (.region [om p40 r1,om p41 r3,oc p42 142 [r40,r41],om p39 r42,ox p43 r39 0,ox p44 r39 1,om p14 r43,om p15 r44] []) (sq (sq (.region [om p45 r15,oo p46 (.bin .neq r45 i0)] []) (.cond r46 .bad .skip)) (sq (.region [om p48 r3,om p49 r11,oo p50 (.bin .quo r48 r49),om p16 r50] []) (sq (.region [om p51 r13,om p52 r12,oo p53 (.bin .sub r51 r52),om p54 r11,oo p55 (.bin .quo r53 r54),om p56 r16,oc p57 118 [r55,r56],om p58 r1,om p59 r11,oo p60 (.bin .quo r58 r59),om p61 r16,oc p62 118 [r60,r61],om p63 r16,oc p64 215 [r62,r63],om p65 r16,oc p66 214 [r57,r64,r65],om p17 r66] []) (sq (.region [om p67 r12,om p68 r1,om p69 r17,oo p70 (.bin .mul r68 r69),oo p71 (.bin .add r67 r70),om p72 r14,om p8 r71,om p9 r72,om p10 i0] []) .ret))))))))))⟩
def a206:AFunc:=⟨[p0,p1],[.tmp p4],(sq (.region [oo p2 (.box r0),oo p3 (.box r1),oo p4 (.mov (.k (.c (.f .jy))))] []) (sq (.region [oo p5 (.jJ 216 [r2,r3]),om p4 r5] []) .ret))⟩
def aPc:AFunc:=⟨[p0,p1,p2],[.tmp p5],(sq (.region [om p5 ks] []) (sq (sq (.region [ad p6 4 r2,ol p7 4 r6,om p8 r1,oc p9 104 [r7,r8]] []) (.cond r9 (sq (.region [om p10 r0,om p5 r10] []) .ret) .skip)) (sq (.region [om p11 r0,om p12 r1,oo p13 (.aY 1 [z0] 1 [(0,r12)]),oo p14 (.append 1 8 r11 r13),om p5 r14] []) .ret)))⟩
def a208:AFunc:=⟨[p0,p1],[.tmp p4],(sq (.region [oo p2 (.box r0),om p4 kf] []) (sq (.region [ad p5 12 r2,oo p6 (.load none r5),om p7 r1,ad p8 11 r2,oo p9 (.load none r8),oo p10 (.bin .rem r7 r9),oo p11 (.lookup .int .aA r6 r10),oo p12 (.len r11),ad p13 4 r2,ad p14 2 r13,oo p15 (.load none r14),ad p16 11 r2,oo p17 (.load none r16),oo p18 (.bin .quo r15 r17),oo p19 (.bin .eql r12 r18),om p4 r19] []) .ret))⟩
def a212:AFunc:=⟨[p0],[.tmp p2],(sq (.region [oo p1 (.box r0),oo p2 (.mov (.k (.c (.f .jy))))] []) (sq (.region [oo p3 (.jJ 218 [r1]),om p2 r3] []) .ret))⟩
def aPb:AFunc:=⟨[p0,p1,p2],[.tmp p6],(sq (.region [om p6 i0] []) (sq (.region [om p10 r0,oo p11 (.cvi .u64 r10),om p12 r1,oo p13 (.cvi .u64 r12),oc p14 191 [r11,r13],om p9 r14,ox p15 r9 0,ox p16 r9 1,om p7 r15,om p8 r16] []) (sq (.region [om p17 r7,om p18 r8,om p19 r2,oo p20 (.cvi .u64 r19),oc p21 219 [r17,r18,r20],oo p22 (.cvi .i64 r21),om p6 r22] []) .ret)))⟩
def aPa:AFunc:=⟨[p0,p1],[.tmp p4],(sq (.region [om p4 i0] []) (sq (.region [om p10 r0,om p11 r1,om p5 r10,om p6 r11,om p7 i1,om p8 i0] []) (sq (.block 0 (.loop (sq (sq (.region [om p12 r6,oo p13 (.bin .neq r12 i0)] []) (.cond r13 .skip (.exit 0))) (.block 1 (sq (.region [om p14 r5,om p15 r6,oo p16 (.bin .quo r14 r15),om p9 r16] []) (sq (.region [om p17 r6,om p18 r5,om p19 r9,om p20 r6,oo p21 (.bin .mul r19 r20),oo p22 (.bin .sub r18 r21),om p5 r17,om p6 r22] []) (.region [om p23 r8,om p24 r7,om p25 r9,om p26 r8,oo p27 (.bin .mul r25 r26),oo p28 (.bin .sub r24 r27),om p7 r23,om p8 r28] []))))))) (sq (.region [om p29 r7,om p30 r1,oc p31 118 [r29,r30],om p4 r31] []) .ret))))⟩
def aO9:AFunc:=⟨[p0,p1,p2],[],(sq (.region [ad p12 0 r1,oo p13 (.load none r12),oo p14 (.load none r2),oc p15 19 [r13,r14],om p11 r15,ox p16 r11 0,ox p17 r11 1,om p4 r16,om p5 r17] []) (sq (sq (.region [ad p18 0 r1,oo p19 (.load none r18),om p20 r4,oo p21 (.slice 1 r19 (some r20) none none),oo p22 (.len r21),om p23 i0] []) (.block 0 (.loop (sq (.region [oo p24 (.bin .lss r23 r22)] []) (sq (.cond r24 .skip (.exit 0)) .bad))))) (sq (sq (.region [ad p32 3 r1,oo p33 (.load none r32),oo p34 (.len r33),oo p35 (.bin .eql r34 i0)] []) (.cond r35 .ret .skip)) (sq (.region [oo p36 (.load none r2),ad p37 1 r1,oo p38 (.load none r37),oo p39 (.kL false [r36,r38]),on (.store 1 r2 r39)] []) (sq (.region [oo p40 (.load none r2),oo p41 (.load none r2),ad p42 1 r1,oo p43 (.load none r42),oo p44 (.bin .sub r41 r43),ad p45 2 r1,oo p46 (.load none r45),oo p47 (.bin .rem r44 r46),oo p48 (.bin .sub r40 r47),om p8 r48] []) (sq (.region [ad p50 3 r1,oo p51 (.load none r50),oo p52 (.load none r2),om p53 r8,oo p54 (.bin .sub r52 r53),oc p55 19 [r51,r54],om p49 r55,ox p56 r49 0,ox p57 r49 1,om p4 r56] []) (.block 2 (.loop (.block 3 (sq (sq (.region [ad p58 3 r1,oo p59 (.load none r58),om p60 r4,oo p61 (.slice 1 r59 (some r60) none none),oo p62 (.len r61),om p63 i0] []) (.block 4 (.loop (sq (.region [oo p64 (.bin .lss r63 r62)] []) (sq (.cond r64 .skip (.exit 4)) (sq (.block 5 (sq (.region [oi p65 1 r61 r63,oo p66 (.load none r65),om p10 r66] []) (sq (.region [om p67 r0,om p68 r8,om p69 r10,oo p70 (.bin .add r68 r69),oo p71 (.bQ r67 [r70] true),oo p72 (.un .not r71)] []) (.cond r72 .ret .skip)))) (.region [oo p73 (.bin .add r63 i1),om p63 r73] []))))))) (sq (.region [om p4 i0] []) (.region [om p74 r8,ad p75 2 r1,oo p76 (.load none r75),oo p77 (.bin .add r74 r76),om p8 r77] []))))))))))))⟩
def a218:AFunc:=⟨[p0,p1],[],(sq (.region [oo p4 (.load none r1),oo p5 (.len r4),oo p6 (.bin .sub r5 i1),om p3 r6] []) (.block 0 (.loop (sq (sq (.region [om p7 r3,oo p8 (.bin .geq r7 i0)] []) (.cond r8 .skip (.exit 0))) (sq (.block 1 (sq (.region [om p11 r0,om p12 r3,oo p13 (.load none r1),om p14 r3,oi p15 3 r13 r14,ol p16 3 r15,oo p17 (.bQ r11 [r12,r16] true),oo p18 (.un .not r17)] []) (.cond r18 .ret .skip))) (.region [om p9 r3,oo p10 (.bin .sub r9 i1),om p3 r10] []))))))⟩
def aO8:AFunc:=⟨[p0,p1,p2],[.tmp p6],(sq (.region [oo p6 (.mov (.k (.c (.f (.int .u64 0)))))] []) (sq (.region [om p10 r0,om p11 r2,oo p12 (.bin .rem r10 r11),om p13 r1,om p14 r2,oc p15 192 [r12,r13,r14],om p9 r15,ox p16 r9 0,ox p17 r9 1,om p7 r16,om p8 r17] []) (sq (.region [om p18 r8,om p6 r18] []) .ret)))⟩
def tab:BT AFunc:=(.n (.n (.n (.n (.n (.n (.n (.n .e a127 .e) QH (.n .e aPf .e)) Pj (.n (.n .e a159 .e) QN .e)) a15 (.n (.n (.n .e a143 .e) a79 (.n .e aPc .e)) a47 (.n (.n .e Qj .e) Py .e))) QY (.n (.n (.n (.n .e aPD .e) PG (.n .e Qd .e)) a39 (.n (.n .e Qb .e) Q9 .e)) PV (.n (.n (.n .e aPx .e) a87 (.n .e aPa .e)) PK (.n (.n .e a183 .e) a119 .e)))) awi (.n (.n (.n (.n (.n .e a131 .e) awc (.n .e Qz .e)) a35 (.n (.n .e aPs .e) PO .e)) QJ (.n (.n (.n .e aPA .e) a83 (.n .e Qn .e)) a51 (.n (.n .e P6 .e) QK .e))) a11 (.n (.n (.n (.n .e a139 .e) av9 (.n .e Qq .e)) a43 (.n (.n .e Qw .e) Ph .e)) QI (.n (.n (.n .e aPv .e) a91 (.n .e aO8 .e)) QZ (.n (.n .e aPj .e) aPL .e))))) a1 (.n (.n (.n (.n (.n (.n .e aPH .e) avX (.n .e Qs .e)) avZ (.n (.n .e aPt .e) QT .e)) QW (.n (.n (.n .e a145 .e) a81 (.n .e P7 .e)) awm (.n (.n .e Qh .e) Pv .e))) PZ (.n (.n (.n (.n .e QO .e) Px (.n .e a201 .e)) a41 (.n (.n .e aPp .e) a105 .e)) QG (.n (.n (.n .e aPw .e) a89 (.n .e Qk .e)) Qr (.n (.n .e aPl .e) aPN .e)))) av5 (.n (.n (.n (.n (.n .e aPF .e) a69 (.n .e P9 .e)) av2 (.n (.n .e aPr .e) PX .e)) av3 (.n (.n (.n .e aPz .e) a85 (.n .e Ql .e)) a53 (.n (.n .e aPn .e) a117 .e))) a13 (.n (.n (.n (.n .e PW .e) a77 (.n .e aPd .e)) a45 (.n (.n .e Qy .e) QC .e)) awd (.n (.n (.n .e a157 .e) a93 .e) PN (.n (.n .e aPh .e) aPK .e)))))) awj (.n (.n (.n (.n (.n (.n (.n .e aPI .e) awe (.n .e aPe .e)) a32 (.n (.n .e a160 .e) QU .e)) av4 (.n (.n (.n .e aPB .e) a80 (.n .e a208 .e)) a48 (.n (.n .e Qe .e) PE .e))) QL (.n (.n (.n (.n .e QS .e) PD (.n .e Qg .e)) a40 (.n (.n .e a168 .e) avW .e)) PY (.n (.n (.n .e a152 .e) a88 (.n .e aO9 .e)) awl (.n (.n .e aPm .e) aPO .e)))) Q8 (.n (.n (.n (.n (.n .e aPG .e) avY (.n .e Qx .e)) a36 (.n (.n .e a164 .e) PU .e)) P5 (.n (.n (.n .e Qc .e) a84 (.n .e a212 .e)) PI (.n (.n .e aPo .e) a116 .e))) a12 (.n (.n (.n (.n .e QB .e) av8 (.n .e Qo .e)) a44 (.n (.n .e QA .e) aPP .e)) awg (.n (.n (.n .e a156 .e) a92 .e) PS (.n (.n .e aPi .e) a124 .e))))) QM (.n (.n (.n (.n (.n (.n .e a130 .e) QF (.n .e Qv .e)) a34 (.n (.n .e a162 .e) QX .e)) PL (.n (.n (.n .e a146 .e) av1 (.n .e Qp .e)) a50 (.n (.n .e Qm .e) Pz .e))) awh (.n (.n (.n (.n .e a138 .e) a74 (.n .e P8 .e)) a42 (.n (.n .e Qu .e) aPQ .e)) awf (.n (.n (.n .e a154 .e) awk (.n .e a218 .e)) Q5 (.n (.n .e aPk .e) aPM .e)))) av6 (.n (.n (.n (.n (.n .e aPE .e) Pn (.n .e Qi .e)) a38 (.n (.n .e aPq .e) QE .e)) Q7 (.n (.n (.n .e aPy .e) a86 (.n .e aPb .e)) QV (.n (.n .e a182 .e) av7 .e))) a14 (.n (.n (.n (.n .e aPC .e) a78 (.n .e a206 .e)) a46 (.n (.n .e Qa .e) Pm .e)) Po (.n (.n (.n .e aPu .e) a94 .e) QD (.n (.n .e aPg .e) aPJ .e)))))))
theorem aQd:tab.get TT=some awj:=rfl
theorem aKX:tab.get IW=some QM:=rfl
theorem aQc:tab.get alE=some awi:=rfl
theorem aLa:tab.get Dq=some Q8:=rfl
theorem aP1:tab.get Dc=some av5:=rfl
theorem aP2:tab.get LH=some av6:=rfl
theorem aK6:tab.get O9=some QY:=rfl
theorem aKW:tab.get IV=some QL:=rfl
theorem aKl:tab.get Di=some PZ:=rfl
theorem aQb:tab.get TR=some awh:=rfl
theorem aP0:tab.get TP=some av4:=rfl
theorem aK4:tab.get nJ=some QW:=rfl
theorem aKc:tab.get OX=some PL:=rfl
theorem aKU:tab.get yX=some QJ:=rfl
theorem aKm:tab.get OZ=some P5:=rfl
theorem aPZ:tab.get nV=some av3:=rfl
theorem aK9:tab.get vV=some Q7:=rfl
theorem aKh:tab.get OY=some PV:=rfl
theorem aKk:tab.get IQ=some PY:=rfl
theorem aKS:tab.get O7=some QG:=rfl
theorem aP9:tab.get F_x39=some awf:=rfl
theorem aKT:tab.get O8=some QI:=rfl
theorem aQa:tab.get LM=some awg:=rfl
theorem aP7:tab.get alD=some awd:=rfl
theorem aJ3:tab.get jr=some Po:=rfl
theorem aJ1:tab.get qm=some Pj:=rfl
theorem aPW:tab.get aly=some avZ:=rfl
theorem aPY:tab.get alz=some av2:=rfl
theorem aQg:tab.get EX=some awm:=rfl
theorem aKa:tab.get OV=some PI:=rfl
theorem aK3:tab.get Dp=some QV:=rfl
theorem aKb:tab.get OW=some PK:=rfl
theorem aQf:tab.get amb=some awl:=rfl
theorem aKF:tab.get IU=some Qr:=rfl
theorem aK8:tab.get IZ=some Q5:=rfl
theorem aK7:tab.get kD=some QZ:=rfl
theorem aKf:tab.get IK=some PS:=rfl
theorem aKd:tab.get tq=some PN:=rfl
theorem aKQ:tab.get al8=some QD:=rfl
theorem alq:tab.get Dk=some QH:=rfl
theorem aP8:tab.get LK=some awe:=rfl
theorem aPU:tab.get LG=some avX:=rfl
theorem aKR:tab.get ama=some QF:=rfl
theorem aP6:tab.get LJ=some awc:=rfl
theorem aPV:tab.get alx=some avY:=rfl
theorem alk:tab.get nI=some Pn:=rfl
theorem aJ9:tab.get IJ=some PG:=rfl
theorem aJ7:tab.get sW=some PD:=rfl
theorem aJ5:tab.get OU=some Px:=rfl
theorem aP5:tab.get alC=some av9:=rfl
theorem aP4:tab.get alB=some av8:=rfl
theorem aPX:tab.get EW=some av1:=rfl
theorem aQe:tab.get Dj=some awk:=rfl
theorem aKY:tab.get tu=some QN:=rfl
theorem aK2:tab.get qo=some QU:=rfl
theorem alr:tab.get yZ=some QT:=rfl
theorem aK5:tab.get IY=some QX:=rfl
theorem aKe:tab.get Df=some PO:=rfl
theorem aKg:tab.get IL=some PU:=rfl
theorem aKj:tab.get yV=some PX:=rfl
theorem alp:tab.get al9=some QE:=rfl
theorem aLb:tab.get Dt=some Q9:=rfl
theorem aPT:tab.get TN=some avW:=rfl
theorem aJ0:tab.get OT=some Ph:=rfl
theorem aKP:tab.get O6=some QC:=rfl
theorem aJ2:tab.get yU=some Pm:=rfl
theorem alm:tab.get oJ=some Py:=rfl
theorem aJ8:tab.get sZ=some PE:=rfl
theorem aJ4:tab.get II=some Pv:=rfl
theorem aJ6:tab.get sV=some Pz:=rfl
theorem aKV:tab.get Dl=some QK:=rfl
theorem aP3:tab.get alA=some av7:=rfl
theorem aK1:tab.get IX=some QS:=rfl
theorem aKZ:tab.get Dn=some QO:=rfl
theorem aKO:tab.get O5=some QB:=rfl
theorem aKi:tab.get Dh=some PW:=rfl
theorem aKs:tab.get alK=some Qc:=rfl
theorem aKr:tab.get alJ=some Qb:=rfl
theorem aKH:tab.get alY=some Qu:=rfl
theorem aKJ:tab.get al3=some Qw:=rfl
theorem aKN:tab.get al7=some QA:=rfl
theorem aKL:tab.get al5=some Qy:=rfl
theorem aKq:tab.get alI=some Qa:=rfl
theorem aKy:tab.get alQ=some Qj:=rfl
theorem aKu:tab.get alM=some Qe:=rfl
theorem aKw:tab.get alO=some Qh:=rfl
theorem alo:tab.get O4=some Qm:=rfl
theorem aln:tab.get O1=some P6:=rfl
theorem aKG:tab.get alX=some Qs:=rfl
theorem aKI:tab.get alZ=some Qv:=rfl
theorem aKM:tab.get al6=some Qz:=rfl
theorem aKK:tab.get al4=some Qx:=rfl
theorem aKp:tab.get alH=some P9:=rfl
theorem aKx:tab.get alP=some Qi:=rfl
theorem aKt:tab.get alL=some Qd:=rfl
theorem aKv:tab.get alN=some Qg:=rfl
theorem aKo:tab.get alG=some P8:=rfl
theorem aKE:tab.get alW=some Qq:=rfl
theorem aKC:tab.get alU=some Qo:=rfl
theorem aKn:tab.get alF=some P7:=rfl
theorem aKD:tab.get alV=some Qp:=rfl
theorem aKB:tab.get alT=some Qn:=rfl
theorem aKA:tab.get alS=some Ql:=rfl
theorem aKz:tab.get alR=some Qk:=rfl
end Go.Proofs.YthfeogjbpgocbaaGreat
end
