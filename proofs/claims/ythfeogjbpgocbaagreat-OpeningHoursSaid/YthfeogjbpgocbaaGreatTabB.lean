/-
  The functions that the law comes to, in the small code: the second part.
-/
import Derived.Test.YthfeogjbpgocbaaGreatTabA
set_option linter.unusedVariables false
set_option linter.unusedSimpArgs false
set_option linter.unusedSectionVars false
section
set_option maxRecDepth 100000
namespace Go.Proofs.YthfeogjbpgocbaaGreat
open Go Km
open TQ
def a196:AFunc:=⟨[p0,p1],[.tmp p4,.tmp p5],(sq (.region [oo p4 (.mov (.k (.c (.f (.int .u64 0))))),oo p5 (.mov (.k (.c (.f (.int .u64 0)))))] []) (sq (.region [om p14 r0,oo p15 (.bin .and r14 (.k (.c (.f (.int .u64 4294967295))))),om p6 r15] []) (sq (.region [om p16 r0,oo p17 (.bin .shr r16 (.k (.c (.f (.int .u64 32))))),om p7 r17] []) (sq (.region [om p18 r1,oo p19 (.bin .and r18 (.k (.c (.f (.int .u64 4294967295))))),om p8 r19] []) (sq (.region [om p20 r1,oo p21 (.bin .shr r20 (.k (.c (.f (.int .u64 32))))),om p9 r21] []) (sq (.region [om p22 r6,om p23 r8,oo p24 (.bin .mul r22 r23),om p10 r24] []) (sq (.region [om p25 r7,om p26 r8,oo p27 (.bin .mul r25 r26),om p28 r10,oo p29 (.bin .shr r28 (.k (.c (.f (.int .u64 32))))),oo p30 (.bin .add r27 r29),om p11 r30] []) (sq (.region [om p31 r11,oo p32 (.bin .and r31 (.k (.c (.f (.int .u64 4294967295))))),om p12 r32] []) (sq (.region [om p33 r11,oo p34 (.bin .shr r33 (.k (.c (.f (.int .u64 32))))),om p13 r34] []) (sq (.region [om p35 r12,om p36 r6,om p37 r9,oo p38 (.bin .mul r36 r37),oo p39 (.bin .add r35 r38),om p12 r39] []) (sq (.region [om p40 r7,om p41 r9,oo p42 (.bin .mul r40 r41),om p43 r13,oo p44 (.bin .add r42 r43),om p45 r12,oo p46 (.bin .shr r45 (.k (.c (.f (.int .u64 32))))),oo p47 (.bin .add r44 r46),om p4 r47] []) (sq (.region [om p48 r0,om p49 r1,oo p50 (.bin .mul r48 r49),om p5 r50] []) .ret))))))))))))⟩
def aPJ:AFunc:=⟨[p0,p1,p2],[.tmp p6,.tmp p7],(sq (.region [oo p6 (.mov (.k (.c (.f (.int .u64 0))))),oo p7 (.mov (.k (.c (.f (.int .u64 0)))))] []) (sq (sq (.region [om p19 r2,oo p20 (.bin .eql r19 (.k (.c (.f (.int .u64 0)))))] []) (.cond r20 .bad .skip)) (sq (sq (.region [om p22 r2,om p23 r0,oo p24 (.bin .leq r22 r23)] []) (.cond r24 .bad .skip)) (sq (sq (.region [om p26 r0,oo p27 (.bin .eql r26 (.k (.c (.f (.int .u64 0)))))] []) (.cond r27 (sq (.region [om p28 r1,om p29 r2,oo p30 (.bin .quo r28 r29),om p31 r1,om p32 r2,oo p33 (.bin .rem r31 r32),om p6 r30,om p7 r33] []) .ret) .skip)) .bad))))⟩
def a206:AFunc:=⟨[p0,p1],[.cell p4 none],(sq (.region [oo p2 (.box r0),oo p3 (.box r1),oo p4 (.alloc [(.bool false)])] []) (sq (sq (.region [ad p7 0 r2,ad p8 3 r7,oo p9 (.load none r8),oo p10 (.call 217 [r9] true)] []) (.block 0 (.ig r10 [p11,p12] (.region [oo p6 (.alloc [z0,z0,(.bool false)]),on (.store 3 r6 r12)] []) (.block 1 (sq (.region [oo p13 (.load none r3),ad p14 0 r6,oo p15 (.load none r14),oc p16 174 [r13,r15],ad p17 1 r6,oo p18 (.load none r17),oo p19 (.bin .eql r16 r18)] []) (.cond r19 (sq (.region [ad p20 2 r6,oo p21 (.load none r20),on (.store 1 r4 r21)] []) .ret) .skip)))))) (sq (.region [on (.store 1 r4 kf)] []) .ret)))⟩
def a210:AFunc:=⟨[p0,p1,p2,p3],[.tmp p8,.tmp p9,.tmp p10],(sq (.region [om p8 i0,om p9 i0,om p10 i0] []) (sq (sq (.region [om p18 r1,oo p19 (.bin .lss r18 i1),om p20 r19,⟨(some p21),.mov r3,some (p20,false)⟩,⟨(some p22),.bin .lss r21 i1,some (p20,false)⟩,oo p23 (.pick r20 kt r22)] []) (.cond r23 .bad .skip)) (sq (.region [om p24 r1,om p25 r3,oc p26 168 [r24,r25],om p11 r26] []) (sq (.region [om p27 r0,om p28 r1,oc p29 123 [r27,r28],om p30 r2,om p31 r3,oc p32 123 [r30,r31],om p12 r29,om p13 r32] []) (sq (sq (.region [om p33 r13,om p34 r12,oo p35 (.bin .sub r33 r34),om p36 r11,oo p37 (.bin .rem r35 r36),oo p38 (.bin .neq r37 i0)] []) (.cond r38 .bad .skip)) (sq (.region [om p40 r1,om p41 r3,oc p42 147 [r40,r41],om p39 r42,ox p43 r39 0,ox p44 r39 1,om p14 r43,om p15 r44] []) (sq (sq (.region [om p45 r15,oo p46 (.bin .neq r45 i0)] []) (.cond r46 .bad .skip)) (sq (.region [om p48 r3,om p49 r11,oo p50 (.bin .quo r48 r49),om p16 r50] []) (sq (.region [om p51 r13,om p52 r12,oo p53 (.bin .sub r51 r52),om p54 r11,oo p55 (.bin .quo r53 r54),om p56 r16,oc p57 123 [r55,r56],om p58 r1,om p59 r11,oo p60 (.bin .quo r58 r59),om p61 r16,oc p62 123 [r60,r61],om p63 r16,oc p64 220 [r62,r63],om p65 r16,oc p66 219 [r57,r64,r65],om p17 r66] []) (sq (.region [om p67 r12,om p68 r1,om p69 r17,oo p70 (.bin .mul r68 r69),oo p71 (.bin .add r67 r70),om p72 r14,om p8 r71,om p9 r72,om p10 i0] []) .ret))))))))))⟩
def aPI:AFunc:=⟨[p0,p1],[.tmp p4],(sq (.region [oo p2 (.box r0),oo p3 (.box r1),oo p4 (.mov (.k (.c (.f .jA))))] []) (sq (.region [oo p5 (.jB 221 [r2,r3]),om p4 r5] []) .ret))⟩
def a212:AFunc:=⟨[p0,p1,p2],[.tmp p5],(sq (.region [om p5 ks] []) (sq (sq (.region [ad p6 4 r2,ol p7 4 r6,om p8 r1,oc p9 109 [r7,r8]] []) (.cond r9 (sq (.region [om p10 r0,om p5 r10] []) .ret) .skip)) (sq (.region [om p11 r0,om p12 r1,oo p13 (.aY 1 [z0] 1 [(0,r12)]),oo p14 (.append 1 8 r11 r13),om p5 r14] []) .ret)))⟩
def a213:AFunc:=⟨[p0,p1],[.tmp p4],(sq (.region [oo p2 (.box r0),om p4 kf] []) (sq (.region [ad p5 12 r2,oo p6 (.load none r5),om p7 r1,ad p8 11 r2,oo p9 (.load none r8),oo p10 (.bin .rem r7 r9),oo p11 (.lookup .int .aA r6 r10),oo p12 (.len r11),ad p13 4 r2,ad p14 2 r13,oo p15 (.load none r14),ad p16 11 r2,oo p17 (.load none r16),oo p18 (.bin .quo r15 r17),oo p19 (.bin .eql r12 r18),om p4 r19] []) .ret))⟩
def aPH:AFunc:=⟨[p0],[.tmp p2],(sq (.region [oo p1 (.box r0),oo p2 (.mov (.k (.c (.f .jA))))] []) (sq (.region [oo p3 (.jB 223 [r1]),om p2 r3] []) .ret))⟩
def aPG:AFunc:=⟨[p0,p1,p2],[.tmp p6],(sq (.region [om p6 i0] []) (sq (.region [om p10 r0,oo p11 (.cvi .u64 r10),om p12 r1,oo p13 (.cvi .u64 r12),oc p14 196 [r11,r13],om p9 r14,ox p15 r9 0,ox p16 r9 1,om p7 r15,om p8 r16] []) (sq (.region [om p17 r7,om p18 r8,om p19 r2,oo p20 (.cvi .u64 r19),oc p21 224 [r17,r18,r20],oo p22 (.cvi .i64 r21),om p6 r22] []) .ret)))⟩
def aPF:AFunc:=⟨[p0,p1],[.tmp p4],(sq (.region [om p4 i0] []) (sq (.region [om p10 r0,om p11 r1,om p5 r10,om p6 r11,om p7 i1,om p8 i0] []) (sq (.block 0 (.loop (sq (sq (.region [om p12 r6,oo p13 (.bin .neq r12 i0)] []) (.cond r13 .skip (.exit 0))) (.block 1 (sq (.region [om p14 r5,om p15 r6,oo p16 (.bin .quo r14 r15),om p9 r16] []) (sq (.region [om p17 r6,om p18 r5,om p19 r9,om p20 r6,oo p21 (.bin .mul r19 r20),oo p22 (.bin .sub r18 r21),om p5 r17,om p6 r22] []) (.region [om p23 r8,om p24 r7,om p25 r9,om p26 r8,oo p27 (.bin .mul r25 r26),oo p28 (.bin .sub r24 r27),om p7 r23,om p8 r28] []))))))) (sq (.region [om p29 r7,om p30 r1,oc p31 123 [r29,r30],om p4 r31] []) .ret))))⟩
def aPE:AFunc:=⟨[p0,p1,p2],[],(sq (.region [ad p12 0 r1,oo p13 (.load none r12),oo p14 (.load none r2),oc p15 22 [r13,r14],om p11 r15,ox p16 r11 0,ox p17 r11 1,om p4 r16,om p5 r17] []) (sq (sq (.region [ad p18 0 r1,oo p19 (.load none r18),om p20 r4,oo p21 (.slice 1 r19 (some r20) none none),oo p22 (.len r21),om p23 i0] []) (.block 0 (.loop (sq (.region [oo p24 (.bin .lss r23 r22)] []) (sq (.cond r24 .skip (.exit 0)) .bad))))) (sq (sq (.region [ad p32 3 r1,oo p33 (.load none r32),oo p34 (.len r33),oo p35 (.bin .eql r34 i0)] []) (.cond r35 .ret .skip)) (sq (.region [oo p36 (.load none r2),ad p37 1 r1,oo p38 (.load none r37),oo p39 (.kM false [r36,r38]),on (.store 1 r2 r39)] []) (sq (.region [oo p40 (.load none r2),oo p41 (.load none r2),ad p42 1 r1,oo p43 (.load none r42),oo p44 (.bin .sub r41 r43),ad p45 2 r1,oo p46 (.load none r45),oo p47 (.bin .rem r44 r46),oo p48 (.bin .sub r40 r47),om p8 r48] []) (sq (.region [ad p50 3 r1,oo p51 (.load none r50),oo p52 (.load none r2),om p53 r8,oo p54 (.bin .sub r52 r53),oc p55 22 [r51,r54],om p49 r55,ox p56 r49 0,ox p57 r49 1,om p4 r56] []) (.block 2 (.loop (.block 3 (sq (sq (.region [ad p58 3 r1,oo p59 (.load none r58),om p60 r4,oo p61 (.slice 1 r59 (some r60) none none),oo p62 (.len r61),om p63 i0] []) (.block 4 (.loop (sq (.region [oo p64 (.bin .lss r63 r62)] []) (sq (.cond r64 .skip (.exit 4)) (sq (.block 5 (sq (.region [oi p65 1 r61 r63,oo p66 (.load none r65),om p10 r66] []) (sq (.region [om p67 r0,om p68 r8,om p69 r10,oo p70 (.bin .add r68 r69),oo p71 (.bQ r67 [r70] true),oo p72 (.un .not r71)] []) (.cond r72 .ret .skip)))) (.region [oo p73 (.bin .add r63 i1),om p63 r73] []))))))) (sq (.region [om p4 i0] []) (.region [om p74 r8,ad p75 2 r1,oo p76 (.load none r75),oo p77 (.bin .add r74 r76),om p8 r77] []))))))))))))⟩
def aPD:AFunc:=⟨[p0,p1],[],(sq (.region [oo p4 (.load none r1),oo p5 (.len r4),oo p6 (.bin .sub r5 i1),om p3 r6] []) (.block 0 (.loop (sq (sq (.region [om p7 r3,oo p8 (.bin .geq r7 i0)] []) (.cond r8 .skip (.exit 0))) (sq (.block 1 (sq (.region [om p11 r0,om p12 r3,oo p13 (.load none r1),om p14 r3,oi p15 3 r13 r14,ol p16 3 r15,oo p17 (.bQ r11 [r12,r16] true),oo p18 (.un .not r17)] []) (.cond r18 .ret .skip))) (.region [om p9 r3,oo p10 (.bin .sub r9 i1),om p3 r10] []))))))⟩
def aPC:AFunc:=⟨[p0,p1,p2],[.tmp p6],(sq (.region [oo p6 (.mov (.k (.c (.f (.int .u64 0)))))] []) (sq (.region [om p10 r0,om p11 r2,oo p12 (.bin .rem r10 r11),om p13 r1,om p14 r2,oc p15 197 [r12,r13,r14],om p9 r15,ox p16 r9 0,ox p17 r9 1,om p7 r16,om p8 r17] []) (sq (.region [om p18 r8,om p6 r18] []) .ret)))⟩
def tab:BT AFunc:=(.n (.n (.n (.n (.n (.n (.n (.n .e a127 .e) Rh (.n .e aPM .e)) awQ (.n (.n .e a159 .e) awW (.n .e aPD .e))) a15 (.n (.n (.n .e a143 .e) a79 (.n .e Qc .e)) a47 (.n (.n .e Qy .e) aQl .e))) awJ (.n (.n (.n (.n .e aQa .e) QJ (.n .e Qz .e)) a39 (.n (.n .e a167 .e) Q8 .e)) P9 (.n (.n (.n .e aP2 .e) awE (.n .e Qu .e)) a55 (.n (.n .e Qq .e) PD .e)))) awU (.n (.n (.n (.n (.n .e a131 .e) QH (.n .e aPK .e)) Pv (.n (.n .e aPY .e) a99 .e)) Q7 (.n (.n (.n .e aP5 .e) a83 (.n .e aPI .e)) a51 (.n (.n .e Qe .e) Pn .e))) P5 (.n (.n (.n (.n .e a139 .e) Po (.n .e Qm .e)) a43 (.n (.n .e a171 .e) QI .e)) P7 (.n (.n (.n .e aP1 .e) a91 (.n .e aPG .e)) Q5 (.n (.n .e aPQ .e) awK .e))))) a1 (.n (.n (.n (.n (.n (.n .e aQe .e) PU (.n .e a193 .e)) awR (.n (.n .e aPZ .e) a97 .e)) a17 (.n (.n (.n .e QF .e) awL (.n .e Qs .e)) a49 (.n (.n .e QE .e) aQk .e))) QT (.n (.n (.n (.n .e aP8 .e) awC (.n .e QB .e)) a41 (.n (.n .e aPV .e) PV .e)) Ri (.n (.n (.n .e Qh .e) a89 (.n .e aPH .e)) PK (.n (.n .e aPS .e) aQj .e)))) awT (.n (.n (.n (.n (.n .e aQc .e) awP (.n .e aPJ .e)) a37 (.n (.n .e aPX .e) QZ .e)) QS (.n (.n (.n .e aP4 .e) a85 (.n .e a213 .e)) a53 (.n (.n .e Qj .e) PG .e))) a13 (.n (.n (.n (.n .e QX .e) PE (.n .e Qk .e)) a45 (.n (.n .e a173 .e) awy .e)) QK (.n (.n (.n .e a157 .e) a93 (.n .e aPE .e)) awX (.n (.n .e aPO .e) aQh .e)))))) awV (.n (.n (.n (.n (.n (.n (.n .e aQf .e) Q9 (.n .e aPL .e)) QM (.n (.n .e a160 .e) a96 (.n .e aPC .e))) a16 (.n (.n (.n .e aP6 .e) awM (.n .e Qv .e)) a48 (.n (.n .e QA .e) Pj .e))) a8 (.n (.n (.n (.n .e aP9 .e) awN (.n .e QD .e)) a40 (.n (.n .e a168 .e) PS .e)) awG (.n (.n (.n .e a152 .e) a88 (.n .e Qr .e)) a56 (.n (.n .e Qa .e) QO .e)))) Rj (.n (.n (.n (.n (.n .e aQd .e) QL (.n .e a196 .e)) Pm (.n (.n .e a164 .e) QV .e)) PN (.n (.n (.n .e a148 .e) a84 (.n .e a212 .e)) a52 (.n (.n .e Qn .e) Pz .e))) awS (.n (.n (.n (.n .e aP7 .e) PI (.n .e Qi .e)) a44 (.n (.n .e Qg .e) Rk .e)) P6 (.n (.n (.n .e a156 .e) a92 (.n .e aPF .e)) PL (.n (.n .e aPP .e) a124 .e))))) QU (.n (.n (.n (.n (.n (.n .e a130 .e) PO (.n .e a194 .e)) awO (.n (.n .e a162 .e) a98 .e)) awH (.n (.n (.n .e PX .e) a82 (.n .e a210 .e)) a50 (.n (.n .e QC .e) QG .e))) P8 (.n (.n (.n (.n .e a138 .e) a74 (.n .e Qd .e)) awF (.n (.n .e aPU .e) PY .e)) PW (.n (.n (.n .e a154 .e) a90 (.n .e Qp .e)) a58 (.n (.n .e aPR .e) aQi .e)))) awI (.n (.n (.n (.n (.n .e aQb .e) awz (.n .e Qx .e)) awD (.n (.n .e aPW .e) QY .e)) QN (.n (.n (.n .e aP3 .e) a86 (.n .e Qb .e)) awY (.n (.n .e Ql .e) Px .e))) a14 (.n (.n (.n (.n .e QW .e) Py (.n .e a206 .e)) a46 (.n (.n .e aPT .e) aQm .e)) PZ (.n (.n (.n .e aP0 .e) a94 (.n .e Qo .e)) Qw (.n (.n .e aPN .e) aQg .e)))))))
theorem aQK:tab.get Dl=some awV:=rfl
theorem aLx:tab.get IY=some QU:=rfl
theorem aQJ:tab.get alJ=some awU:=rfl
theorem aLI:tab.get y7=some Rj:=rfl
theorem aQI:tab.get alI=some awT:=rfl
theorem aQx:tab.get Lp=some awI:=rfl
theorem aQy:tab.get alD=some awJ:=rfl
theorem aLw:tab.get Pg=some QT:=rfl
theorem aKV:tab.get IW=some P8:=rfl
theorem aKS:tab.get OY=some P5:=rfl
theorem aQH:tab.get EX=some awS:=rfl
theorem aQw:tab.get TW=some awH:=rfl
theorem aLD:tab.get nH=some Q7:=rfl
theorem aKJ:tab.get IQ=some PN:=rfl
theorem aLv:tab.get O9=some QS:=rfl
theorem aLt:tab.get yV=some QN:=rfl
theorem aKW:tab.get O1=some P9:=rfl
theorem aQv:tab.get nS=some awG:=rfl
theorem aLH:tab.get vH=some Ri:=rfl
theorem aKO:tab.get OX=some PW:=rfl
theorem aKU:tab.get IV=some P7:=rfl
theorem aKT:tab.get OZ=some P6:=rfl
theorem als:tab.get Dp=some QK:=rfl
theorem aKR:tab.get vG=some PZ:=rfl
theorem aQF:tab.get F_x40=some awQ:=rfl
theorem aLs:tab.get O8=some QM:=rfl
theorem aQG:tab.get Lu=some awR:=rfl
theorem aQD:tab.get alH=some awO:=rfl
theorem aKA:tab.get jv=some Pv:=rfl
theorem aKy:tab.get qj=some Pm:=rfl
theorem aQs:tab.get alB=some awD:=rfl
theorem aQu:tab.get alC=some awF:=rfl
theorem aQN:tab.get EY=some awY:=rfl
theorem aKH:tab.get OV=some PK:=rfl
theorem aLC:tab.get Dv=some Q5:=rfl
theorem aKI:tab.get OW=some PL:=rfl
theorem aQM:tab.get amd=some awX:=rfl
theorem aLg:tab.get IX=some Qw:=rfl
theorem aLG:tab.get I5=some Rh:=rfl
theorem aLF:tab.get kE=some Q9:=rfl
theorem aKM:tab.get Dj=some PU:=rfl
theorem aKK:tab.get rM=some PO:=rfl
theorem alq:tab.get ama=some QH:=rfl
theorem alu:tab.get Dq=some QL:=rfl
theorem aQE:tab.get Ls=some awP:=rfl
theorem aQq:tab.get Ll=some awz:=rfl
theorem aLr:tab.get amc=some QJ:=rfl
theorem aQC:tab.get Lr=some awN:=rfl
theorem aQr:tab.get alA=some awC:=rfl
theorem alm:tab.get nG=some Po:=rfl
theorem aKG:tab.get IL=some PI:=rfl
theorem aKE:tab.get rH=some PE:=rfl
theorem aKC:tab.get OU=some Py:=rfl
theorem aQB:tab.get alG=some awM:=rfl
theorem aQA:tab.get alF=some awL:=rfl
theorem aQt:tab.get EW=some awE:=rfl
theorem aQL:tab.get Dn=some awW:=rfl
theorem aLy:tab.get rO=some QV:=rfl
theorem aLB:tab.get ql=some QZ:=rfl
theorem alv:tab.get yY=some QY:=rfl
theorem aLE:tab.get I4=some Q8:=rfl
theorem aKL:tab.get Di=some PS:=rfl
theorem aKN:tab.get IU=some PV:=rfl
theorem aKQ:tab.get yU=some PY:=rfl
theorem alr:tab.get amb=some QI:=rfl
theorem aLJ:tab.get Dw=some Rk:=rfl
theorem aQp:tab.get TV=some awy:=rfl
theorem aKx:tab.get OT=some Pj:=rfl
theorem aLq:tab.get O7=some QG:=rfl
theorem aKz:tab.get yT=some Pn:=rfl
theorem aln:tab.get oD=some Pz:=rfl
theorem aKF:tab.get rJ=some PG:=rfl
theorem aKB:tab.get IK=some Px:=rfl
theorem aKD:tab.get rG=some PD:=rfl
theorem aLu:tab.get Dt=some QO:=rfl
theorem aQz:tab.get alE=some awK:=rfl
theorem aLA:tab.get IZ=some QX:=rfl
theorem aLz:tab.get Du=some QW:=rfl
theorem aLp:tab.get O6=some QF:=rfl
theorem aKP:tab.get Dk=some PX:=rfl
theorem aK3:tab.get alP=some Qh:=rfl
theorem aK2:tab.get alO=some Qg:=rfl
theorem aLi:tab.get al3=some Qy:=rfl
theorem aLk:tab.get al5=some QA:=rfl
theorem aLo:tab.get al9=some QE:=rfl
theorem aLm:tab.get al7=some QC:=rfl
theorem aK1:tab.get alN=some Qe:=rfl
theorem aK9:tab.get alV=some Qn:=rfl
theorem aK5:tab.get alR=some Qj:=rfl
theorem aK7:tab.get alT=some Ql:=rfl
theorem alp:tab.get O5=some Qq:=rfl
theorem alo:tab.get O4=some Qa:=rfl
theorem aLh:tab.get al2=some Qx:=rfl
theorem aLj:tab.get al4=some Qz:=rfl
theorem aLn:tab.get al8=some QD:=rfl
theorem aLl:tab.get al6=some QB:=rfl
theorem aKZ:tab.get alM=some Qd:=rfl
theorem aK8:tab.get alU=some Qm:=rfl
theorem aK4:tab.get alQ=some Qi:=rfl
theorem aK6:tab.get alS=some Qk:=rfl
theorem aKY:tab.get alL=some Qc:=rfl
theorem aLf:tab.get al1=some Qv:=rfl
theorem aLd:tab.get alZ=some Qs:=rfl
theorem aKX:tab.get alK=some Qb:=rfl
theorem aLe:tab.get al0=some Qu:=rfl
theorem aLc:tab.get alY=some Qr:=rfl
theorem aLb:tab.get alX=some Qp:=rfl
theorem aLa:tab.get alW=some Qo:=rfl
end Go.Proofs.YthfeogjbpgocbaaGreat
end
