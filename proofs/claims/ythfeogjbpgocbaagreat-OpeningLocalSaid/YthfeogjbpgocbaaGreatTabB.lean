/-
  The functions that the law comes to, in the small code: the second part.
-/
import Derived.Test.YthfeogjbpgocbaaGreatTabA
set_option linter.unusedVariables false
set_option linter.unusedSimpArgs false
set_option linter.unusedSectionVars false
section
set_option maxRecDepth 100000
namespace Go.Proofs.YthfeogjbpgocbaaGreat
open Go Km
open TQ
def aMe:AFunc:=⟨[p0],[.tmp p2],(sq (.region [oo p1 (.box r0),om p2 ks] []) (sq (.region [ad p8 0 r1,ol p9 4 r8,ad p10 4 r1,ol p11 4 r10,oo p3 (.alloc [.aB,z0,z0,.aB]),oo p4 (.alloc [.aB,z0,z0,.aB]),on (.store 4 r3 r9),on (.store 4 r4 r11)] [(3,7)]) (sq (sq (.region [ad p12 1 r3,oo p13 (.load none r12),ad p14 8 r1,oo p15 (.load none r14),oo p16 (.bin .neq r13 r15)] []) (.cond r16 (.region [ol p17 4 r4,ol p18 4 r3,on (.store 4 r3 r17),on (.store 4 r4 r18)] []) .skip)) (sq (.region [om p5 ks] []) (sq (sq (.region [ad p19 0 r3,oo p20 (.load none r19),oo p21 (.len r20),om p22 i0] []) (.block 0 (.loop (sq (.region [oo p23 (.bin .lss r22 r21)] []) (sq (.cond r23 .skip (.exit 0)) (sq (.block 1 (sq (.region [oi p24 1 r20 r22,oo p25 (.load none r24),om p7 r25] []) (sq (.region [ol p26 4 r4,om p27 r7,oc p28 106 [r26,r27]] []) (.cond r28 (.region [om p29 r5,om p30 r7,oo p31 (.aY 1 [z0] 1 [(0,r30)]),oo p32 (.append 1 8 r29 r31),om p5 r32] []) .skip)))) (.region [oo p33 (.bin .add r22 i1),om p22 r33] []))))))) (sq (.region [om p34 r5,om p2 r34] []) .ret))))))⟩
def aMd:AFunc:=⟨[p0],[.tmp p2],(sq (.region [oo p1 (.box r0),om p2 i0] []) (sq (.region [om p3 i0] []) (sq (sq (.region [ad p6 9 r1,oo p7 (.load none r6),oo p8 (.len r7),om p9 i0] []) (.block 0 (.loop (sq (.region [oo p10 (.bin .lss r9 r8)] []) (sq (.cond r10 .skip (.exit 0)) (sq (.block 1 (sq (.region [oi p11 1 r7 r9,oo p12 (.load none r11),om p5 r12] []) (.region [om p13 r3,ad p14 12 r1,oo p15 (.load none r14),om p16 r5,ad p17 11 r1,oo p18 (.load none r17),oo p19 (.bin .rem r16 r18),oo p20 (.lookup .int .aB r15 r19),oo p21 (.len r20),oo p22 (.bin .add r13 r21),om p3 r22] []))) (.region [oo p23 (.bin .add r9 i1),om p9 r23] []))))))) (sq (.region [om p24 r3,om p2 r24] []) .ret))))⟩
def aMc:AFunc:=⟨[p0,p1],[.tmp p4],(sq (.region [oo p2 (.box r0),om p4 i0] []) (sq (sq (.region [om p9 r1,ad p10 1 r2,oo p11 (.load none r10),oo p12 (.bin .leq r9 r11)] []) (.cond r12 (sq (.region [ad p14 0 r2,oo p15 (.load none r14),om p16 r1,oc p17 19 [r15,r16],om p13 r17,ox p18 r13 0,ox p19 r13 1,om p5 r18,om p6 r19] []) (sq (.region [om p20 r5,om p4 r20] []) .ret)) .skip)) (sq (.region [ad p22 3 r2,oo p23 (.load none r22),om p24 r1,ad p25 1 r2,oo p26 (.load none r25),oo p27 (.bin .sub r24 r26),ad p28 2 r2,oo p29 (.load none r28),oo p30 (.bin .rem r27 r29),oc p31 19 [r23,r30],om p21 r31,ox p32 r21 0,ox p33 r21 1,om p7 r32,om p8 r33] []) (sq (.region [ad p34 0 r2,oo p35 (.load none r34),oo p36 (.len r35),om p37 r1,ad p38 1 r2,oo p39 (.load none r38),oo p40 (.bin .sub r37 r39),ad p41 2 r2,oo p42 (.load none r41),oo p43 (.bin .quo r40 r42),ad p44 3 r2,oo p45 (.load none r44),oo p46 (.len r45),oo p47 (.bin .mul r43 r46),oo p48 (.bin .add r36 r47),om p49 r7,oo p50 (.bin .add r48 r49),om p4 r50] []) .ret))))⟩
def aMb:AFunc:=⟨[p0,p1],[.tmp p4],(sq (.region [oo p2 (.box r0),om p4 ks] []) (sq (sq (.region [ad p12 9 r2,oo p13 (.load none r12),oo p14 (.len r13),om p15 i0] []) (.block 0 (.loop (sq (.region [oo p16 (.bin .lss r15 r14)] []) (sq (.cond r16 .skip (.exit 0)) (sq (.block 1 (sq (.region [oi p17 1 r13 r15,oo p18 (.load none r17),om p6 r18] []) (sq (.region [ad p19 12 r2,oo p20 (.load none r19),om p21 r6,ad p22 11 r2,oo p23 (.load none r22),oo p24 (.bin .rem r21 r23),oo p25 (.lookup .int .aB r20 r24),oo p26 (.len r25),om p27 i0] []) (.block 2 (.loop (sq (.region [oo p28 (.bin .lss r27 r26)] []) (sq (.cond r28 .skip (.exit 2)) (sq (.block 3 (sq (.region [oi p29 1 r25 r27,oo p30 (.load none r29),om p8 r30] []) (sq (.region [om p32 r6,ad p33 0 r2,ad p34 2 r33,oo p35 (.load none r34),om p36 r8,ad p37 4 r2,ad p38 2 r37,oo p39 (.load none r38),oc p40 200 [r32,r35,r36,r39],om p31 r40,ox p41 r31 0,ox p42 r31 1,ox p43 r31 2,om p9 r41,om p10 r42,om p11 r43] []) (.region [om p44 r1,ad p45 8 r2,oo p46 (.load none r45),om p47 r9,oo p48 (.bin .add r46 r47),oo p49 (.aY 1 [z0] 1 [(0,r48)]),oo p50 (.append 1 8 r44 r49),om p1 r50] [])))) (.region [oo p51 (.bin .add r27 i1),om p27 r51] []))))))))) (.region [oo p52 (.bin .add r15 i1),om p15 r52] []))))))) (sq (.region [om p53 r1,om p4 r53] []) .ret)))⟩
def aMa:AFunc:=⟨[p0,p1],[.tmp p4],(sq (.region [oo p2 (.box r0),om p4 ks] []) (sq (.region [oo p11 (.ji 202 [r2]),oo p5 (.alloc [.iY]),on (.store 1 r5 r11)] []) (sq (.region [oo p6 (.alloc [.aB])] []) (sq (sq (.region [ad p12 0 r2,ol p13 4 r12,oo p14 (.call 201 [r13,i0] true)] []) (.block 0 (.gK r14 [p15] (.region [om p7 r15] []) (.block 1 (sq (sq (.region [om p16 r7,ad p17 8 r2,oo p18 (.load none r17),oo p19 (.bin .geq r16 r18)] []) (.cond r19 (.exit 0) .skip)) (.region [oo p20 (.load none r5),oo p21 (.load none r6),om p22 r7,oo p23 (.bH r20 [r21,r22] true),on (.store 1 r6 r23)] [])))))) (sq (sq (.region [ad p24 9 r2,oo p25 (.load none r24),oo p26 (.len r25),om p27 i0] []) (.block 2 (.loop (sq (.region [oo p28 (.bin .lss r27 r26)] []) (sq (.cond r28 .skip (.exit 2)) (sq (.block 3 (sq (.region [oi p29 1 r25 r27,oo p30 (.load none r29),om p9 r30] []) (sq (sq (.region [ol p31 13 r2,om p32 r9,oo p33 (.call 203 [r31,r32] true)] []) (.cond r33 (.exit 3) .skip)) (sq (.region [om p34 r9,om p10 r34] []) (.block 4 (.loop (sq (sq (.region [om p35 r10,om p36 r1,oo p37 (.bin .lss r35 r36)] []) (.cond r37 .skip (.exit 4))) (sq (.block 5 (.region [oo p43 (.load none r5),oo p44 (.load none r6),ad p45 8 r2,oo p46 (.load none r45),om p47 r10,oo p48 (.bin .add r46 r47),oo p49 (.bH r43 [r44,r48] true),on (.store 1 r6 r49)] [])) (.region [om p38 r10,ad p39 0 r2,ad p40 2 r39,oo p41 (.load none r40),oo p42 (.bin .add r38 r41),om p10 r42] []))))))))) (.region [oo p50 (.bin .add r27 i1),om p27 r50] []))))))) (sq (.region [oo p51 (.load none r6),om p4 r51] []) .ret))))))⟩
def aL9:AFunc:=⟨[p0],[.tmp p2],(sq (.region [om p2 ks] []) (sq (sq (.region [om p6 r0,oo p7 (.len r6),oo p8 (.bin .lss r7 i2)] []) (.cond r8 (sq (.region [om p9 r0,om p2 r9] []) .ret) .skip)) (sq (sq (.region [om p3 i1] []) (.block 0 (.loop (sq (sq (.region [om p10 r3,om p11 r0,oo p12 (.len r11),oo p13 (.bin .lss r10 r12)] []) (.cond r13 .skip (.exit 0))) (sq (.block 1 (sq (.region [om p16 r0,om p17 r3,oi p18 1 r16 r17,oo p19 (.load none r18),om p20 r0,om p21 r3,oo p22 (.bin .sub r21 i1),oi p23 1 r20 r22,oo p24 (.load none r23),oo p25 (.bin .eql r19 r24)] []) (.cond r25 .bad .skip))) (.region [om p14 r3,oo p15 (.bin .add r14 i1),om p3 r15] [])))))) (sq (.region [om p60 r0,om p2 r60] []) .ret))))⟩
def aL8:AFunc:=⟨[p0,p1],[.tmp p4],(sq (.region [om p4 i0] []) (sq (sq (.region [om p5 r0,om p6 r1,oo p7 (.bin .rem r5 r6),om p0 r7] []) (sq (.region [om p8 r0,oo p9 (.bin .lss r8 i0)] []) (.cond r9 (.region [om p10 r0,om p11 r1,oo p12 (.bin .add r10 r11),om p0 r12] []) .skip))) (sq (.region [om p13 r0,om p4 r13] []) .ret)))⟩
def aL7:AFunc:=⟨[p0,p1],[],(sq (.region [oo p4 (.load none r1),oo p5 (.len r4),oo p6 (.bin .sub r5 i1),om p3 r6] []) (.block 0 (.loop (sq (sq (.region [om p7 r3,oo p8 (.bin .geq r7 i0)] []) (.cond r8 .skip (.exit 0))) (sq (.block 1 (sq (.region [om p11 r0,om p12 r3,oo p13 (.load none r1),om p14 r3,oi p15 1 r13 r14,oo p16 (.load none r15),oo p17 (.bH r11 [r12,r16] true),oo p18 (.un .not r17)] []) (.cond r18 .ret .skip))) (.region [om p9 r3,oo p10 (.bin .sub r9 i1),om p3 r10] []))))))⟩
def aL6:AFunc:=⟨[p0],[.tmp p2],(sq (.region [oo p2 (.mov (.k (.c (.f (.int .u64 0)))))] []) (sq (sq (.region [om p3 r0,oo p4 (.bin .lss r3 i0)] []) (.cond r4 (sq (.region [om p5 r0,oo p6 (.cvi .u64 r5),oo p7 (.un .neg r6),om p2 r7] []) .ret) .skip)) (sq (.region [om p8 r0,oo p9 (.cvi .u64 r8),om p2 r9] []) .ret)))⟩
def a193:AFunc:=⟨[p0,p1],[.tmp p4,.tmp p5],(sq (.region [oo p4 (.mov (.k (.c (.f (.int .u64 0))))),oo p5 (.mov (.k (.c (.f (.int .u64 0)))))] []) (sq (.region [om p14 r0,oo p15 (.bin .and r14 (.k (.c (.f (.int .u64 4294967295))))),om p6 r15] []) (sq (.region [om p16 r0,oo p17 (.bin .shr r16 (.k (.c (.f (.int .u64 32))))),om p7 r17] []) (sq (.region [om p18 r1,oo p19 (.bin .and r18 (.k (.c (.f (.int .u64 4294967295))))),om p8 r19] []) (sq (.region [om p20 r1,oo p21 (.bin .shr r20 (.k (.c (.f (.int .u64 32))))),om p9 r21] []) (sq (.region [om p22 r6,om p23 r8,oo p24 (.bin .mul r22 r23),om p10 r24] []) (sq (.region [om p25 r7,om p26 r8,oo p27 (.bin .mul r25 r26),om p28 r10,oo p29 (.bin .shr r28 (.k (.c (.f (.int .u64 32))))),oo p30 (.bin .add r27 r29),om p11 r30] []) (sq (.region [om p31 r11,oo p32 (.bin .and r31 (.k (.c (.f (.int .u64 4294967295))))),om p12 r32] []) (sq (.region [om p33 r11,oo p34 (.bin .shr r33 (.k (.c (.f (.int .u64 32))))),om p13 r34] []) (sq (.region [om p35 r12,om p36 r6,om p37 r9,oo p38 (.bin .mul r36 r37),oo p39 (.bin .add r35 r38),om p12 r39] []) (sq (.region [om p40 r7,om p41 r9,oo p42 (.bin .mul r40 r41),om p43 r13,oo p44 (.bin .add r42 r43),om p45 r12,oo p46 (.bin .shr r45 (.k (.c (.f (.int .u64 32))))),oo p47 (.bin .add r44 r46),om p4 r47] []) (sq (.region [om p48 r0,om p49 r1,oo p50 (.bin .mul r48 r49),om p5 r50] []) .ret))))))))))))⟩
def a194:AFunc:=⟨[p0,p1,p2],[.tmp p6,.tmp p7],(sq (.region [oo p6 (.mov (.k (.c (.f (.int .u64 0))))),oo p7 (.mov (.k (.c (.f (.int .u64 0)))))] []) (sq (sq (.region [om p19 r2,oo p20 (.bin .eql r19 (.k (.c (.f (.int .u64 0)))))] []) (.cond r20 .bad .skip)) (sq (sq (.region [om p22 r2,om p23 r0,oo p24 (.bin .leq r22 r23)] []) (.cond r24 .bad .skip)) (sq (sq (.region [om p26 r0,oo p27 (.bin .eql r26 (.k (.c (.f (.int .u64 0)))))] []) (.cond r27 (sq (.region [om p28 r1,om p29 r2,oo p30 (.bin .quo r28 r29),om p31 r1,om p32 r2,oo p33 (.bin .rem r31 r32),om p6 r30,om p7 r33] []) .ret) .skip)) .bad))))⟩
def aL5:AFunc:=⟨[p0,p1,p2,p3],[],(sq (.region [om p10 r1,oo p11 (.bin .add r10 i1),om p8 r11] []) (.block 0 (.loop (sq (sq (.region [om p12 r8,om p13 r2,oo p14 (.bin .lss r12 r13)] []) (.cond r14 .skip (.exit 0))) (sq (.block 1 (sq (.region [om p17 r8,om p9 r17] []) (.block 2 (.loop (sq (sq (.region [om p18 r9,om p19 r1,oo p20 (.bin .gtr r18 r19),om p21 r20,⟨(some p22),.mov r3,some (p21,true)⟩,⟨(some p23),.mov r0,some (p21,true)⟩,⟨(some p24),.mov r9,some (p21,true)⟩,⟨(some p25),.aC 3 none r23 r24,some (p21,true)⟩,⟨(some p26),.load (some 3) r25,some (p21,true)⟩,⟨(some p27),.mov r0,some (p21,true)⟩,⟨(some p28),.mov r9,some (p21,true)⟩,⟨(some p29),.bin .sub r28 i1,some (p21,true)⟩,⟨(some p30),.aC 3 none r27 r29,some (p21,true)⟩,⟨(some p31),.load (some 3) r30,some (p21,true)⟩,⟨(some p32),.bH r22 [r26,r31] true,some (p21,true)⟩,⟨(some p33),.bin .lss r32 i0,some (p21,true)⟩,oo p34 (.pick r21 r33 kf)] []) (.cond r34 .skip (.exit 2))) .bad))))) (.region [om p15 r8,oo p16 (.bin .add r15 i1),om p8 r16] []))))))⟩
def a196:AFunc:=⟨[p0,p1],[.cell p4 none],(sq (.region [oo p2 (.box r0),oo p3 (.box r1),oo p4 (.alloc [(.bool false)])] []) (sq (sq (.region [ad p7 0 r2,ad p8 3 r7,oo p9 (.load none r8),oo p10 (.call 204 [r9] true)] []) (.block 0 (.gK r10 [p11,p12] (.region [oo p6 (.alloc [z0,z0,(.bool false)]),on (.store 3 r6 r12)] []) (.block 1 (sq (.region [oo p13 (.load none r3),ad p14 0 r6,oo p15 (.load none r14),oc p16 171 [r13,r15],ad p17 1 r6,oo p18 (.load none r17),oo p19 (.bin .eql r16 r18)] []) (.cond r19 (sq (.region [ad p20 2 r6,oo p21 (.load none r20),on (.store 1 r4 r21)] []) .ret) .skip)))))) (sq (.region [on (.store 1 r4 kf)] []) .ret)))⟩
def aL4:AFunc:=⟨[p0,p1,p2,p3],[.tmp p8,.tmp p9,.tmp p10],(sq (.region [om p8 i0,om p9 i0,om p10 i0] []) (sq (sq (.region [om p18 r1,oo p19 (.bin .lss r18 i1),om p20 r19,⟨(some p21),.mov r3,some (p20,false)⟩,⟨(some p22),.bin .lss r21 i1,some (p20,false)⟩,oo p23 (.pick r20 kt r22)] []) (.cond r23 .bad .skip)) (sq (.region [om p24 r1,om p25 r3,oc p26 165 [r24,r25],om p11 r26] []) (sq (.region [om p27 r0,om p28 r1,oc p29 120 [r27,r28],om p30 r2,om p31 r3,oc p32 120 [r30,r31],om p12 r29,om p13 r32] []) (sq (sq (.region [om p33 r13,om p34 r12,oo p35 (.bin .sub r33 r34),om p36 r11,oo p37 (.bin .rem r35 r36),oo p38 (.bin .neq r37 i0)] []) (.cond r38 .bad .skip)) (sq (.region [om p40 r1,om p41 r3,oc p42 144 [r40,r41],om p39 r42,ox p43 r39 0,ox p44 r39 1,om p14 r43,om p15 r44] []) (sq (sq (.region [om p45 r15,oo p46 (.bin .neq r45 i0)] []) (.cond r46 .bad .skip)) (sq (.region [om p48 r3,om p49 r11,oo p50 (.bin .quo r48 r49),om p16 r50] []) (sq (.region [om p51 r13,om p52 r12,oo p53 (.bin .sub r51 r52),om p54 r11,oo p55 (.bin .quo r53 r54),om p56 r16,oc p57 120 [r55,r56],om p58 r1,om p59 r11,oo p60 (.bin .quo r58 r59),om p61 r16,oc p62 120 [r60,r61],om p63 r16,oc p64 207 [r62,r63],om p65 r16,oc p66 206 [r57,r64,r65],om p17 r66] []) (sq (.region [om p67 r12,om p68 r1,om p69 r17,oo p70 (.bin .mul r68 r69),oo p71 (.bin .add r67 r70),om p72 r14,om p8 r71,om p9 r72,om p10 i0] []) .ret))))))))))⟩
def a201:AFunc:=⟨[p0,p1],[.tmp p4],(sq (.region [oo p2 (.box r0),oo p3 (.box r1),oo p4 (.mov (.k (.c (.f .iY))))] []) (sq (.region [oo p5 (.ji 208 [r2,r3]),om p4 r5] []) .ret))⟩
def aL3:AFunc:=⟨[p0,p1,p2],[.tmp p5],(sq (.region [om p5 ks] []) (sq (sq (.region [ad p6 4 r2,ol p7 4 r6,om p8 r1,oc p9 106 [r7,r8]] []) (.cond r9 (sq (.region [om p10 r0,om p5 r10] []) .ret) .skip)) (sq (.region [om p11 r0,om p12 r1,oo p13 (.aY 1 [z0] 1 [(0,r12)]),oo p14 (.append 1 8 r11 r13),om p5 r14] []) .ret)))⟩
def a203:AFunc:=⟨[p0,p1],[.tmp p4],(sq (.region [oo p2 (.box r0),om p4 kf] []) (sq (.region [ad p5 12 r2,oo p6 (.load none r5),om p7 r1,ad p8 11 r2,oo p9 (.load none r8),oo p10 (.bin .rem r7 r9),oo p11 (.lookup .int .aB r6 r10),oo p12 (.len r11),ad p13 4 r2,ad p14 2 r13,oo p15 (.load none r14),ad p16 11 r2,oo p17 (.load none r16),oo p18 (.bin .quo r15 r17),oo p19 (.bin .eql r12 r18),om p4 r19] []) .ret))⟩
def aL2:AFunc:=⟨[p0],[.tmp p2],(sq (.region [oo p1 (.box r0),oo p2 (.mov (.k (.c (.f .iY))))] []) (sq (.region [oo p3 (.ji 210 [r1]),om p2 r3] []) .ret))⟩
def a206:AFunc:=⟨[p0,p1,p2],[.tmp p6],(sq (.region [om p6 i0] []) (sq (.region [om p10 r0,oo p11 (.cvi .u64 r10),om p12 r1,oo p13 (.cvi .u64 r12),oc p14 193 [r11,r13],om p9 r14,ox p15 r9 0,ox p16 r9 1,om p7 r15,om p8 r16] []) (sq (.region [om p17 r7,om p18 r8,om p19 r2,oo p20 (.cvi .u64 r19),oc p21 211 [r17,r18,r20],oo p22 (.cvi .i64 r21),om p6 r22] []) .ret)))⟩
def aL1:AFunc:=⟨[p0,p1],[.tmp p4],(sq (.region [om p4 i0] []) (sq (.region [om p10 r0,om p11 r1,om p5 r10,om p6 r11,om p7 i1,om p8 i0] []) (sq (.block 0 (.loop (sq (sq (.region [om p12 r6,oo p13 (.bin .neq r12 i0)] []) (.cond r13 .skip (.exit 0))) (.block 1 (sq (.region [om p14 r5,om p15 r6,oo p16 (.bin .quo r14 r15),om p9 r16] []) (sq (.region [om p17 r6,om p18 r5,om p19 r9,om p20 r6,oo p21 (.bin .mul r19 r20),oo p22 (.bin .sub r18 r21),om p5 r17,om p6 r22] []) (.region [om p23 r8,om p24 r7,om p25 r9,om p26 r8,oo p27 (.bin .mul r25 r26),oo p28 (.bin .sub r24 r27),om p7 r23,om p8 r28] []))))))) (sq (.region [om p29 r7,om p30 r1,oc p31 120 [r29,r30],om p4 r31] []) .ret))))⟩
def a208:AFunc:=⟨[p0,p1,p2],[],(sq (.region [ad p12 0 r1,oo p13 (.load none r12),oo p14 (.load none r2),oc p15 19 [r13,r14],om p11 r15,ox p16 r11 0,ox p17 r11 1,om p4 r16,om p5 r17] []) (sq (sq (.region [ad p18 0 r1,oo p19 (.load none r18),om p20 r4,oo p21 (.slice 1 r19 (some r20) none none),oo p22 (.len r21),om p23 i0] []) (.block 0 (.loop (sq (.region [oo p24 (.bin .lss r23 r22)] []) (sq (.cond r24 .skip (.exit 0)) .bad))))) (sq (sq (.region [ad p32 3 r1,oo p33 (.load none r32),oo p34 (.len r33),oo p35 (.bin .eql r34 i0)] []) (.cond r35 .ret .skip)) (sq (.region [oo p36 (.load none r2),ad p37 1 r1,oo p38 (.load none r37),oo p39 (.jV false [r36,r38]),on (.store 1 r2 r39)] []) (sq (.region [oo p40 (.load none r2),oo p41 (.load none r2),ad p42 1 r1,oo p43 (.load none r42),oo p44 (.bin .sub r41 r43),ad p45 2 r1,oo p46 (.load none r45),oo p47 (.bin .rem r44 r46),oo p48 (.bin .sub r40 r47),om p8 r48] []) (sq (.region [ad p50 3 r1,oo p51 (.load none r50),oo p52 (.load none r2),om p53 r8,oo p54 (.bin .sub r52 r53),oc p55 19 [r51,r54],om p49 r55,ox p56 r49 0,ox p57 r49 1,om p4 r56] []) (.block 2 (.loop (.block 3 (sq (sq (.region [ad p58 3 r1,oo p59 (.load none r58),om p60 r4,oo p61 (.slice 1 r59 (some r60) none none),oo p62 (.len r61),om p63 i0] []) (.block 4 (.loop (sq (.region [oo p64 (.bin .lss r63 r62)] []) (sq (.cond r64 .skip (.exit 4)) (sq (.block 5 (sq (.region [oi p65 1 r61 r63,oo p66 (.load none r65),om p10 r66] []) (sq (.region [om p67 r0,om p68 r8,om p69 r10,oo p70 (.bin .add r68 r69),oo p71 (.bH r67 [r70] true),oo p72 (.un .not r71)] []) (.cond r72 .ret .skip)))) (.region [oo p73 (.bin .add r63 i1),om p63 r73] []))))))) (sq (.region [om p4 i0] []) (.region [om p74 r8,ad p75 2 r1,oo p76 (.load none r75),oo p77 (.bin .add r74 r76),om p8 r77] []))))))))))))⟩
def a210:AFunc:=⟨[p0,p1],[],(sq (.region [oo p4 (.load none r1),oo p5 (.len r4),oo p6 (.bin .sub r5 i1),om p3 r6] []) (.block 0 (.loop (sq (sq (.region [om p7 r3,oo p8 (.bin .geq r7 i0)] []) (.cond r8 .skip (.exit 0))) (sq (.block 1 (sq (.region [om p11 r0,om p12 r3,oo p13 (.load none r1),om p14 r3,oi p15 3 r13 r14,ol p16 3 r15,oo p17 (.bH r11 [r12,r16] true),oo p18 (.un .not r17)] []) (.cond r18 .ret .skip))) (.region [om p9 r3,oo p10 (.bin .sub r9 i1),om p3 r10] []))))))⟩
def aL0:AFunc:=⟨[p0,p1,p2],[.tmp p6],(sq (.region [oo p6 (.mov (.k (.c (.f (.int .u64 0)))))] []) (sq (.region [om p10 r0,om p11 r2,oo p12 (.bin .rem r10 r11),om p13 r1,om p14 r2,oc p15 194 [r12,r13,r14],om p9 r15,ox p16 r9 0,ox p17 r9 1,om p7 r16,om p8 r17] []) (sq (.region [om p18 r8,om p6 r18] []) .ret)))⟩
def tab:BT AFunc:=(.n (.n (.n (.n (.n (.n (.n (.n .e a127 .e) a63 (.n .e aL7 .e)) NJ (.n (.n .e a159 .e) a95 .e)) a15 (.n (.n (.n .e a143 .e) a79 (.n .e aL1 .e)) a47 (.n (.n .e OB .e) OE .e))) OQ (.n (.n (.n (.n .e aMv .e) NM (.n .e Ou .e)) a39 (.n (.n .e a167 .e) aMI .e)) a23 (.n (.n (.n .e Oy .e) a87 .e) OZ (.n (.n .e a183 .e) a119 .e)))) O8 (.n (.n (.n (.n (.n .e a131 .e) OH (.n .e aL5 .e)) a35 (.n (.n .e aMj .e) OX .e)) OM (.n (.n (.n .e aMp .e) a83 (.n .e aL0 .e)) a51 (.n (.n .e Ol .e) NR .e))) a11 (.n (.n (.n (.n .e OV .e) OD (.n .e a203 .e)) a43 (.n (.n .e a171 .e) a107 .e)) OL (.n (.n (.n .e aMm .e) a91 .e) O6 (.n (.n .e aMb .e) aMD .e))))) a1 (.n (.n (.n (.n (.n (.n .e aMz .e) atX (.n .e a193 .e)) a33 (.n (.n .e aMk .e) OU .e)) O1 (.n (.n (.n .e a145 .e) a81 (.n .e Oo .e)) a49 (.n (.n .e Om .e) NT .e))) at1 (.n (.n (.n (.n .e aMt .e) NW (.n .e a201 .e)) a41 (.n (.n .e aMg .e) O9 .e)) a25 (.n (.n (.n .e aMn .e) a89 .e) aua (.n (.n .e aMd .e) aMF .e)))) atQ (.n (.n (.n (.n (.n .e aMx .e) atJ (.n .e Oe .e)) a37 (.n (.n .e aMi .e) aMK .e)) atO (.n (.n (.n .e aMo .e) a85 .e) N8 (.n (.n .e Oc .e) OO .e))) a13 (.n (.n (.n (.n .e a141 .e) atU (.n .e Oq .e)) a45 (.n (.n .e OA .e) NI .e)) atW (.n (.n (.n .e a157 .e) a93 .e) a61 (.n (.n .e aL9 .e) aMC .e)))))) at6 (.n (.n (.n (.n (.n (.n (.n .e aMA .e) OJ (.n .e aL6 .e)) NY (.n (.n .e a160 .e) a96 .e)) atP (.n (.n (.n .e aMq .e) a80 (.n .e a208 .e)) a48 (.n (.n .e Og .e) NK .e))) a8 (.n (.n (.n (.n .e aMu .e) N7 (.n .e aL4 .e)) a40 (.n (.n .e a168 .e) OG .e)) a24 (.n (.n (.n .e a152 .e) a88 .e) N9 (.n (.n .e aMe .e) atS .e)))) a4 (.n (.n (.n (.n (.n .e aMy .e) atV (.n .e a196 .e)) a36 (.n (.n .e a164 .e) O4 .e)) a20 (.n (.n (.n .e a148 .e) atL .e) a52 (.n (.n .e Ot .e) NV .e))) a12 (.n (.n (.n (.n .e aMs .e) NP (.n .e aL2 .e)) a44 (.n (.n .e Oz .e) aMH .e)) atZ (.n (.n (.n .e a156 .e) at7 .e) O5 (.n (.n .e aMa .e) a124 .e))))) OT (.n (.n (.n (.n (.n (.n .e a130 .e) atI (.n .e a194 .e)) atK (.n (.n .e a162 .e) OY .e)) Oa (.n (.n (.n .e a146 .e) a82 (.n .e a210 .e)) aub (.n (.n .e Oj .e) NZ .e))) Ob (.n (.n (.n (.n .e OW .e) NS (.n .e aL3 .e)) a42 (.n (.n .e aMf .e) atH .e)) atY (.n (.n (.n .e a154 .e) a90 .e) Ox (.n (.n .e aMc .e) aME .e)))) a6 (.n (.n (.n (.n (.n .e aMw .e) a70 (.n .e Ov .e)) atM (.n (.n .e aMh .e) aMJ .e)) O7 (.n (.n (.n .e Oi .e) a86 .e) a54 (.n (.n .e a182 .e) Oh .e))) a14 (.n (.n (.n (.n .e aMr .e) atT (.n .e a206 .e)) a46 (.n (.n .e OC .e) aMG .e)) NQ (.n (.n (.n .e aMl .e) a94 .e) a62 (.n (.n .e aL8 .e) aMB .e)))))))
theorem aM5:tab.get QG=some at6:=rfl
theorem aH3:tab.get Hr=some OT:=rfl
theorem aIe:tab.get Hy=some O8:=rfl
theorem aMV:tab.get QF=some atQ:=rfl
theorem aH2:tab.get NG=some OQ:=rfl
theorem aM4:tab.get akn=some at1:=rfl
theorem aHD:tab.get Hl=some Ob:=rfl
theorem aMU:tab.get aki=some atP:=rfl
theorem aH9:tab.get mJ=some O1:=rfl
theorem aHC:tab.get Nz=some Oa:=rfl
theorem aH0:tab.get BM=some OM:=rfl
theorem aMT:tab.get nC=some atO:=rfl
theorem aId:tab.get uJ=some O7:=rfl
theorem aM2:tab.get F_x38=some atY:=rfl
theorem aHZ:tab.get ND=some OL:=rfl
theorem aM3:tab.get JW=some atZ:=rfl
theorem aM0:tab.get akm=some atW:=rfl
theorem aHs:tab.get iE=some NQ:=rfl
theorem aHp:tab.get nR=some NJ:=rfl
theorem aHx:tab.get pF=some NY:=rfl
theorem aMQ:tab.get akg=some atK:=rfl
theorem aMS:tab.get akh=some atM:=rfl
theorem aM8:tab.get J6=some aub:=rfl
theorem aHA:tab.get Nw=some N8:=rfl
theorem aH8:tab.get BP=some OZ:=rfl
theorem aHB:tab.get Ny=some N9:=rfl
theorem aM7:tab.get JZ=some aua:=rfl
theorem aHQ:tab.get Ho=some Ox:=rfl
theorem aIc:tab.get Hw=some O6:=rfl
theorem aIb:tab.get jL=some O5:=rfl
theorem aj8:tab.get BL=some OJ:=rfl
theorem aM1:tab.get JV=some atX:=rfl
theorem aMO:tab.get JR=some atI:=rfl
theorem aHY:tab.get akF=some OH:=rfl
theorem aMZ:tab.get JU=some atV:=rfl
theorem aMP:tab.get akf=some atJ:=rfl
theorem aj3:tab.get mG=some NM:=rfl
theorem aHz:tab.get Hg=some N7:=rfl
theorem aHw:tab.get pz=some NW:=rfl
theorem aHu:tab.get BI=some NS:=rfl
theorem aHW:tab.get Hq=some OD:=rfl
theorem aHr:tab.get He=some NP:=rfl
theorem aMY:tab.get akl=some atU:=rfl
theorem aMX:tab.get akk=some atT:=rfl
theorem aMR:tab.get Ea=some atL:=rfl
theorem aM6:tab.get BK=some at7:=rfl
theorem aH4:tab.get qQ=some OU:=rfl
theorem aH7:tab.get pG=some OY:=rfl
theorem aj9:tab.get yx=some OX:=rfl
theorem aIa:tab.get Hu=some O4:=rfl
theorem aj7:tab.get akE=some OG:=rfl
theorem aIf:tab.get BQ=some O9:=rfl
theorem aMN:tab.get QE=some atH:=rfl
theorem aHo:tab.get Nv=some NI:=rfl
theorem aHX:tab.get NC=some OE:=rfl
theorem aHq:tab.get yj=some NK:=rfl
theorem aj6:tab.get nS=some NT:=rfl
theorem aHy:tab.get qP=some NZ:=rfl
theorem aHt:tab.get Hf=some NR:=rfl
theorem aHv:tab.get qO=some NV:=rfl
theorem aH1:tab.get BN=some OO:=rfl
theorem aHH:tab.get yu=some Oh:=rfl
theorem aMW:tab.get akj=some atS:=rfl
theorem aH6:tab.get Ht=some OW:=rfl
theorem aH5:tab.get BO=some OV:=rfl
theorem aHI:tab.get aks=some Oi:=rfl
theorem aHR:tab.get BJ=some Oy:=rfl
theorem aHS:tab.get akA=some Oz:=rfl
theorem aHT:tab.get akB=some OA:=rfl
theorem aHV:tab.get akD=some OC:=rfl
theorem aHU:tab.get akC=some OB:=rfl
theorem aHG:tab.get akr=some Og:=rfl
theorem aHL:tab.get akv=some Om:=rfl
theorem aHJ:tab.get akt=some Oj:=rfl
theorem aHK:tab.get aku=some Ol:=rfl
theorem aHN:tab.get akx=some Ot:=rfl
theorem aHE:tab.get akp=some Oc:=rfl
theorem aHF:tab.get akq=some Oe:=rfl
theorem aHP:tab.get akz=some Ov:=rfl
theorem aHO:tab.get aky=some Ou:=rfl
theorem aHM:tab.get akw=some Oq:=rfl
theorem aQl:tab.get aIk=some Oo:=rfl
end Go.Proofs.YthfeogjbpgocbaaGreat
end
