/-
  Our own small machine for Go code by value, held qR the model: part 4. No program in Co.
-/
import Derived.Test.YthkmdpgdicohdaaGreatK3
open Option renaming some → aa,none → ab
open Bool renaming true → ae,false → ag
open List renaming mem_of_getElem? → ajg, getElem?_eq_getElem → By, getElem_mem → IT, length_set → ajp, getElem?_append_left → AT, getElem?_set_self → If, all_eq_true → aji, map_cons → ajd, map_nil → ajt, getElem?_map → aj3, getElem?_eq_none → akG, getElem_map → akK
open Int renaming toNat_natCast → ajA, emod_eq_of_lt → akj
open Nat renaming le_refl → ai8, le_trans → ajw, lt_of_lt_of_le → aj5, lt_or_ge → ajz, eq_zero_or_pos → aks, pow_le_pow_right → alq, lt_trichotomy → akv, zero_le → akh
open Option.some renaming inj → akD, injEq → AI
open Option renaming map_eq_some_iff → IN, bind_some → ajC, map_some → ajK
open Bool renaming and_eq_true → BY
open Prod.mk renaming injEq → OF
set_option linter.unusedVariables false
set_option linter.constructorNameAsVariable false
set_option linter.unusedSimpArgs false
set_option linter.unusedSectionVars false
set_option maxRecDepth 100000
section
set_option linter.unusedVariables false
namespace Km
open Go
abbrev yn(d:Nat)(op:cY):aO:=⟨D d,op,ab⟩
abbrev gS(d k g:Nat):aO:=⟨D d,.cU (R k),G g ae⟩
abbrev vB(d z k g:Nat):aO:=⟨D d,.load (aa z) (R k),G g ae⟩
abbrev ym(d k:Nat):aO:=⟨D d,.cU (R k),ab⟩
abbrev yi(n:Int):Arg:=.k (.c (.f (.int .i64 n)))
abbrev yt:Arg:=.k (.c (.f (.bool ae)))
abbrev yf:Arg:=.k (.c (.f (.bool ag)))
abbrev ys(z a b:Nat):aO:=⟨ab,.store z (R a) (R b),ab⟩
abbrev yb(d:Nat)(o:BinOp)(a b:Nat):aO:=⟨D d,.bin o (R a) (R b),ab⟩
abbrev ya(d z a b:Nat):aO:=⟨D d,.bI z ab (R a) (R b),ab⟩
abbrev yl(d z a:Nat):aO:=⟨D d,.load (aa z) (R a),ab⟩
abbrev yr(l:List aO):av:=.region l []
structure gw where
 sP:Nat
 ins:Nat
 heap:Nat
 pX:Nat
 Rj:Nat
 IJ:Nat
 rev:Nat
 part:Nat
 B7:Nat
 pins:Nat
 pO:Nat
 HY:Nat
 ord:Nat
 Sl:Nat
 Sn:Nat
 len:Nat
 ad0:Nat
 adY:Nat
 rot:Nat
 TG:Nat
section
variable(σ:gw)(sz:Nat)
def acN:av:=.seq (yr [ym 26 0,ym 27 1,ym 28 2,ym 29 4,yn 30 (.call σ.ins [R 26,R 27,R 28,R 29] ae)]) .ret
def acP:av:=.seq (yr [ym 33 0,ym 34 1,ym 35 2,ym 36 4,yn 37 (.call σ.heap [R 33,R 34,R 35,R 36] ae)]) .ret
def acS:av:=yr [ym 45 3,yn 46 (.bin .sub (R 45) (yi 1)),ym 3 46]
def acR:av:=.seq (yr [ym 40 0,ym 41 1,ym 42 2,ym 43 4,yn 44 (.call σ.Rj [R 40,R 41,R 42,R 43] ae)]) (acS)
def acW:av:=yr [yn 14 (.cU (yi 1))]
def acV:av:=.seq (yr [ym 62 2,yn 63 (.bin .sub (R 62) (yi 1)),ym 64 13,ym 65 1,yb 66 .sub 64 65,yb 67 .sub 63 66,ym 13 67]) (acW)
def acU:av:=.seq (yr [ym 57 0,ym 58 1,ym 59 2,ym 60 4,yn 61 (.call σ.rev [R 57,R 58,R 59,R 60] ae)]) (acV)
def acX:av:=.seq (yr [ym 76 0,ym 77 1,ym 78 2,ym 79 4,yn 80 (.call σ.pins [R 76,R 77,R 78,R 79] ae)]) (.cond (R 80) .ret .skip)
def acZ:av:=.seq (yr [ym 104 15,ym 1 104]) (.exit 1)
def acY:av:=.seq (yr [ym 98 0,ym 99 1,ym 100 2,ym 101 13,ym 102 4,yn 103 (.call σ.B7 [R 98,R 99,R 100,R 101,R 102] ae),ym 15 103]) (acZ)
def ac6:av:=yr [ym 135 16,yn 136 (.bin .add (R 135) (yi 1)),ym 1 136]
def ac5:av:=.seq (yr [ym 129 0,ym 130 1,ym 131 16,ym 132 3,ym 133 4,yn 134 (.call σ.sP [R 129,R 130,R 131,R 132,R 133] ae)]) (ac6)
def ac4:av:=.seq (yr [ym 126 18,ym 127 20,yb 128 .geq 126 127,ym 10 128]) (ac5 σ)
def ac9:av:=yr [ym 147 16,ym 2 147]
def ac8:av:=.seq (yr [ym 140 0,ym 141 16,yn 142 (.bin .add (R 141) (yi 1)),ym 143 2,ym 144 3,ym 145 4,yn 146 (.call σ.sP [R 140,R 142,R 143,R 144,R 145] ae)]) (ac9)
def ac7:av:=.seq (yr [ym 137 19,ym 138 20,yb 139 .geq 137 138,ym 10 139]) (ac8 σ)
def ac3:av:=.seq (yr [ym 123 18,ym 124 19,yb 125 .lss 123 124]) (.cond (R 125) (ac4 σ) (ac7 σ))
def ac2:av:=.seq (yr [ym 121 12,yn 122 (.bin .quo (R 121) (yi 8)),ym 20 122]) (ac3 σ)
def ac1:av:=.seq (yr [ym 115 16,ym 116 1,yb 117 .sub 115 116,ym 118 2,ym 119 16,yb 120 .sub 118 119,ym 18 117,ym 19 120]) (ac2 σ)
def ac0:av:=.seq (yr [ym 114 17,ym 11 114]) (ac1 σ)
def SF:av:=.seq (yr [ym 106 0,ym 107 1,ym 108 2,ym 109 13,ym 110 4,yn 111 (.call σ.part [R 106,R 107,R 108,R 109,R 110] ae),ym 105 111,yn 112 (.extract (R 105) 0),yn 113 (.extract (R 105) 1),ym 16 112,ym 17 113]) (ac0 σ)
def SE:av:=.seq (.seq (yr [ym 81 1,yn 82 (.bin .gtr (R 81) (yi 0)),ym 83 82,gS 84 4 83,gS 85 0 83,gS 86 1 83,⟨D 87,.bin .sub (R 86) (yi 1),G 83 ae⟩,⟨D 88,.bI sz ab (R 85) (R 87),G 83 ae⟩,vB 89 sz 88 83,gS 90 0 83,gS 91 13 83,⟨D 92,.bI sz ab (R 90) (R 91),G 83 ae⟩,vB 93 sz 92 83,⟨D 94,.bT (R 84) [R 89,R 93] ae,G 83 ae⟩,⟨D 95,.bin .lss (R 94) (yi 0),G 83 ae⟩,⟨D 96,.un .not (R 95),G 83 ae⟩,yn 97 (.pick (R 83) (R 96) yf)]) (.cond (R 97) (acY σ) .skip)) (SF σ)
def SD:av:=.seq (.seq (yr [ym 68 10,ym 69 68,gS 70 11 69,yn 71 (.pick (R 69) (R 70) yf),ym 72 71,gS 73 14 72,⟨D 74,.bin .eql (R 73) (yi 1),G 72 ae⟩,yn 75 (.pick (R 72) (R 74) yf)]) (.cond (R 75) (acX σ) .skip)) (SE σ sz)
def acT:av:=.seq (.seq (yr [ym 55 14,yn 56 (.bin .eql (R 55) (yi 2))]) (.cond (R 56) (acU σ) .skip)) (SD σ sz)
def SC:av:=.seq (yr [ym 48 0,ym 49 1,ym 50 2,ym 51 4,yn 52 (.call σ.IJ [R 48,R 49,R 50,R 51] ae),ym 47 52,yn 53 (.extract (R 47) 0),yn 54 (.extract (R 47) 1),ym 13 53,ym 14 54]) (acT σ sz)
def acQ:av:=.seq (.seq (yr [ym 38 10,yn 39 (.un .not (R 38))]) (.cond (R 39) (acR σ) .skip)) (SC σ sz)
def acO:av:=.seq (.seq (yr [ym 31 3,yn 32 (.bin .eql (R 31) (yi 0))]) (.cond (R 32) (acP σ) .skip)) (acQ σ sz)
def agI:av:=.seq (.seq (yr [ym 24 12,yn 25 (.bin .leq (R 24) (yi 12))]) (.cond (R 25) (acN σ) .skip)) (acO σ sz)
def agH:av:=.seq (yr [ym 21 2,ym 22 1,yb 23 .sub 21 22,ym 12 23]) (agI σ sz)
def vg:av:=.block 1 (agH σ sz)
def agG:av:=.seq (yr [yn 11 (.cU yt)]) (.block 0 (.loop (vg σ sz)))
def agF:av:=.seq (yr [yn 10 (.cU yt)]) (agG σ sz)
def SG(σ:gw)(sz:Nat):aK:=⟨[P.nat 0,P.nat 1,P.nat 2,P.nat 3,P.nat 4],[],(agF σ sz)⟩
end
section
variable(σ:gw)(sz:Nat)
def ach:av:=yr [ym 37 0,ym 38 9,ym 39 0,ym 40 9,yn 41 (.bin .sub (R 40) (yi 1)),ym 42 0,ym 43 9,yn 44 (.bin .sub (R 43) (yi 1)),ya 45 sz 42 44,yl 46 sz 45,ym 47 0,ym 48 9,ya 49 sz 47 48,yl 50 sz 49,ya 51 sz 37 38,ys sz 51 46,ya 52 sz 39 41,ys sz 52 50]
def aci:av:=yr [ym 35 9,yn 36 (.bin .sub (R 35) (yi 1)),ym 9 36]
def acg:av:=.seq (.block 3 (ach sz)) (aci)
def acf:av:=.seq (.seq (yr [ym 18 9,ym 19 1,yb 20 .gtr 18 19,ym 21 20,gS 22 3 21,gS 23 0 21,gS 24 9 21,⟨D 25,.bI sz ab (R 23) (R 24),G 21 ae⟩,vB 26 sz 25 21,gS 27 0 21,gS 28 9 21,⟨D 29,.bin .sub (R 28) (yi 1),G 21 ae⟩,⟨D 30,.bI sz ab (R 27) (R 29),G 21 ae⟩,vB 31 sz 30 21,⟨D 32,.bT (R 22) [R 26,R 31] ae,G 21 ae⟩,⟨D 33,.bin .lss (R 32) (yi 0),G 21 ae⟩,yn 34 (.pick (R 21) (R 33) yf)]) (.cond (R 34) .skip (.exit 2))) (acg sz)
def ace:av:=.seq (yr [ym 17 8,ym 9 17]) (.block 2 (.loop (acf sz)))
def vZ:av:=yr [ym 15 8,yn 16 (.bin .add (R 15) (yi 1)),ym 8 16]
def afZ:av:=.seq (.block 1 (ace sz)) (vZ)
def BO:av:=.seq (.seq (yr [ym 12 8,ym 13 2,yb 14 .lss 12 13]) (.cond (R 14) .skip (.exit 0))) (afZ sz)
def afY:av:=.seq (yr [ym 10 1,yn 11 (.bin .add (R 10) (yi 1)),ym 8 11]) (.block 0 (.loop (BO sz)))
def yI(σ:gw)(sz:Nat):aK:=⟨[P.nat 0,P.nat 1,P.nat 2,P.nat 3],[],(afY sz)⟩
end
section
variable(σ:gw)(sz:Nat)
def Yd:av:=yr [ym 24 0,ym 25 11,ym 26 10,ym 27 8,ym 28 3,yn 29 (.call σ.pX [R 24,R 25,R 26,R 27,R 28] ae)]
def Ye:av:=yr [ym 22 11,yn 23 (.bin .sub (R 22) (yi 1)),ym 11 23]
def Yc:av:=.seq (.block 1 (Yd σ)) (Ye)
def Yb:av:=.seq (.seq (yr [ym 20 11,yn 21 (.bin .geq (R 20) (yi 0))]) (.cond (R 21) .skip (.exit 0))) (Yc σ)
def Yi:av:=yr [ym 54 0,ym 55 9,ym 56 12,ym 57 8,ym 58 3,yn 59 (.call σ.pX [R 54,R 55,R 56,R 57,R 58] ae)]
def Yh:av:=.seq (yr [ym 36 0,ym 37 8,ym 38 0,ym 39 8,ym 40 12,yb 41 .add 39 40,ym 42 0,ym 43 8,ym 44 12,yb 45 .add 43 44,ya 46 sz 42 45,yl 47 sz 46,ym 48 0,ym 49 8,ya 50 sz 48 49,yl 51 sz 50,ya 52 sz 36 37,ys sz 52 47,ya 53 sz 38 41,ys sz 53 51]) (Yi σ)
def Yj:av:=yr [ym 34 12,yn 35 (.bin .sub (R 34) (yi 1)),ym 12 35]
def Yg:av:=.seq (.block 3 (Yh σ sz)) (Yj)
def Yf:av:=.seq (.seq (yr [ym 32 12,yn 33 (.bin .geq (R 32) (yi 0))]) (.cond (R 33) .skip (.exit 2))) (Yg σ sz)
def BL:av:=.seq (yr [ym 30 10,yn 31 (.bin .sub (R 30) (yi 1)),ym 12 31]) (.block 2 (.loop (Yf σ sz)))
def ab_:av:=.seq (.seq (yr [ym 17 10,yn 18 (.bin .sub (R 17) (yi 1)),yn 19 (.bin .quo (R 18) (yi 2)),ym 11 19]) (.block 0 (.loop (Yb σ)))) (BL σ sz)
def ab':av:=.seq (yr [ym 14 2,ym 15 1,yb 16 .sub 14 15,ym 10 16]) (ab_ σ sz)
def ab9:av:=.seq (yr [yn 9 (.cU (yi 0))]) (ab' σ sz)
def ab8:av:=.seq (yr [ym 13 1,ym 8 13]) (ab9 σ sz)
def Ae(σ:gw)(sz:Nat):aK:=⟨[P.nat 0,P.nat 1,P.nat 2,P.nat 3],[],(ab8 σ sz)⟩
end
section
variable(σ:gw)(sz:Nat)
def ZG:av:=yr [ym 41 11,yn 42 (.bin .add (R 41) (yi 1)),ym 11 42]
def ZI:av:=yr [ym 81 11,ym 10 81]
def ZH:av:=.seq (yr [ym 59 0,ym 60 3,ym 61 10,yb 62 .add 60 61,ym 63 0,ym 64 3,ym 65 11,yb 66 .add 64 65,ym 67 0,ym 68 3,ym 69 11,yb 70 .add 68 69,ya 71 sz 67 70,yl 72 sz 71,ym 73 0,ym 74 3,ym 75 10,yb 76 .add 74 75,ya 77 sz 73 76,yl 78 sz 77,ya 79 sz 59 62,ys sz 79 72,ya 80 sz 63 66,ys sz 80 78]) (ZI)
def Cm:av:=.seq (.seq (yr [ym 43 4,ym 44 0,ym 45 3,ym 46 10,yb 47 .add 45 46,ya 48 sz 44 47,yl 49 sz 48,ym 50 0,ym 51 3,ym 52 11,yb 53 .add 51 52,ya 54 sz 50 53,yl 55 sz 54,yn 56 (.bT (R 43) [R 49,R 55] ae),yn 57 (.bin .lss (R 56) (yi 0)),yn 58 (.un .not (R 57))]) (.cond (R 58) .ret .skip)) (ZH sz)
def ZF:av:=.seq (.seq (yr [ym 19 11,yn 20 (.bin .add (R 19) (yi 1)),ym 21 2,yb 22 .lss 20 21,ym 23 22,gS 24 4 23,gS 25 0 23,gS 26 3 23,gS 27 11 23,⟨D 28,.bin .add (R 26) (R 27),G 23 ae⟩,⟨D 29,.bI sz ab (R 25) (R 28),G 23 ae⟩,vB 30 sz 29 23,gS 31 0 23,gS 32 3 23,gS 33 11 23,⟨D 34,.bin .add (R 32) (R 33),G 23 ae⟩,⟨D 35,.bin .add (R 34) (yi 1),G 23 ae⟩,⟨D 36,.bI sz ab (R 31) (R 35),G 23 ae⟩,vB 37 sz 36 23,⟨D 38,.bT (R 24) [R 30,R 37] ae,G 23 ae⟩,⟨D 39,.bin .lss (R 38) (yi 0),G 23 ae⟩,yn 40 (.pick (R 23) (R 39) yf)]) (.cond (R 40) ZG .skip)) (Cm sz)
def adW:av:=.seq (.seq (yr [ym 16 11,ym 17 2,yb 18 .geq 16 17]) (.cond (R 18) (.exit 0) .skip)) (ZF sz)
def adV:av:=.seq (yr [ym 13 10,yn 14 (.bin .mul (yi 2) (R 13)),yn 15 (.bin .add (R 14) (yi 1)),ym 11 15]) (adW sz)
def Ta:av:=.block 1 (adV sz)
def adU:av:=.seq (yr [ym 12 1,ym 10 12]) (.block 0 (.loop (Ta sz)))
def wH(σ:gw)(sz:Nat):aK:=⟨[P.nat 0,P.nat 1,P.nat 2,P.nat 3,P.nat 4],[],(adU sz)⟩
end
section
variable(σ:gw)(sz:Nat)
def abQ:av:=yr [ym 46 12,ym 47 8,yb 48 .sub 46 47,ym 12 48]
def Rm:av:=yr [ym 49 0,ym 50 11,ym 51 0,ym 52 1,ym 53 12,yb 54 .add 52 53,ym 55 0,ym 56 1,ym 57 12,yb 58 .add 56 57,ya 59 sz 55 58,yl 60 sz 59,ym 61 0,ym 62 11,ya 63 sz 61 62,yl 64 sz 63,ya 65 sz 49 50,ys sz 65 60,ya 66 sz 51 54,ys sz 66 64]
def abP:av:=.seq (.seq (yr [ym 43 12,ym 44 8,yb 45 .geq 43 44]) (.cond (R 45) abQ .skip)) (Rm sz)
def abO:av:=.seq (yr [yn 38 (.call σ.Sn [R 9] ae),ym 39 10,yn 40 (.bin .sub (R 39) (.k (.c (.f (.int .u64 1))))),yb 41 .and 38 40,yn 42 (.jm .i64 (R 41)),ym 12 42]) (abP sz)
def Rn:av:=yr [ym 36 11,yn 37 (.bin .add (R 36) (yi 1)),ym 11 37]
def abN:av:=.seq (.block 1 (abO σ sz)) (Rn)
def Rk:av:=.seq (.seq (yr [ym 28 11,ym 29 1,ym 30 8,yn 31 (.bin .quo (R 30) (yi 4)),yn 32 (.bin .mul (R 31) (yi 2)),yb 33 .add 29 32,yn 34 (.bin .add (R 33) (yi 1)),yb 35 .leq 28 34]) (.cond (R 35) .skip (.exit 0))) (abN σ sz)
def afE:av:=.seq (yr [ym 22 1,ym 23 8,yn 24 (.bin .quo (R 23) (yi 4)),yn 25 (.bin .mul (R 24) (yi 2)),yb 26 .add 22 25,yn 27 (.bin .sub (R 26) (yi 1)),ym 11 27]) (.block 0 (.loop (Rk σ sz)))
def afD:av:=.seq (yr [ym 20 8,yn 21 (.call σ.Sl [R 20] ag),ym 10 21]) (afE σ sz)
def afC:av:=.seq (yr [ym 18 8,yn 19 (.jm .u64 (R 18)),yn 9 (.alloc [(.int .u64 0)]),ys 1 9 19]) (afD σ sz)
def afB:av:=.seq (yr [ym 16 8,yn 17 (.bin .geq (R 16) (yi 8))]) (.cond (R 17) (afC σ sz) .skip)
def afA:av:=.seq (yr [ym 13 2,ym 14 1,yb 15 .sub 13 14,ym 8 15]) (afB σ sz)
def Ro(σ:gw)(sz:Nat):aK:=⟨[P.nat 0,P.nat 1,P.nat 2,P.nat 3],[],(afA σ sz)⟩
end
section
variable(σ:gw)(sz:Nat)
def adx:av:=yr [ym 45 0,ym 46 14,ym 47 3,yn 48 (.call σ.pO [R 45,R 46,R 11,R 47] ae),ym 14 48]
def adw:av:=.seq (yr [ym 41 0,ym 42 13,ym 43 3,yn 44 (.call σ.pO [R 41,R 42,R 11,R 43] ae),ym 13 44]) (adx σ)
def adv:av:=.seq (yr [ym 37 0,ym 38 12,ym 39 3,yn 40 (.call σ.pO [R 37,R 38,R 11,R 39] ae),ym 12 40]) (adw σ)
def SO:av:=yr [ym 49 0,ym 50 12,ym 51 13,ym 52 14,ym 53 3,yn 54 (.call σ.HY [R 49,R 50,R 51,R 52,R 11,R 53] ae),ym 13 54]
def adu:av:=.seq (.seq (yr [ym 35 10,yn 36 (.bin .geq (R 35) (yi 50))]) (.cond (R 36) (adv σ) .skip)) (SO σ)
def adz:av:=.seq (yr [ym 59 13,ym 8 59,yn 9 (.cU (yi 1))]) .ret
def adB:av:=.seq (yr [ym 62 13,ym 8 62,yn 9 (.cU (yi 2))]) .ret
def adC:av:=.seq (yr [ym 56 13,ym 8 56,yn 9 (.cU (yi 0))]) .ret
def adA:av:=.seq (yr [yn 61 (.bin .eql (R 55) (yi 12)),ym 60 61]) (.cond (R 60) adB adC)
def ady:av:=.seq (yr [yn 58 (.bin .eql (R 55) (yi 0)),ym 57 58]) (.cond (R 57) adz adA)
def AM:av:=.seq (yr [yn 55 (.load ab (R 11))]) (.block 0 ady)
def adt:av:=.seq (.seq (yr [ym 33 10,yn 34 (.bin .geq (R 33) (yi 8))]) (.cond (R 34) (adu σ) .skip)) (AM)
def ads:av:=.seq (yr [ym 28 1,ym 29 10,yn 30 (.bin .quo (R 29) (yi 4)),yn 31 (.bin .mul (R 30) (yi 3)),yb 32 .add 28 31,ym 14 32]) (adt σ)
def agS:av:=.seq (yr [ym 23 1,ym 24 10,yn 25 (.bin .quo (R 24) (yi 4)),yn 26 (.bin .mul (R 25) (yi 2)),yb 27 .add 23 26,ym 13 27]) (ads σ)
def agR:av:=.seq (yr [ym 18 1,ym 19 10,yn 20 (.bin .quo (R 19) (yi 4)),yn 21 (.bin .mul (R 20) (yi 1)),yb 22 .add 18 21,ym 12 22]) (agS σ)
def agQ:av:=.seq (yr [yn 11 (.alloc [(.int .i64 0)])]) (agR σ)
def agP:av:=.seq (yr [ym 15 2,ym 16 1,yb 17 .sub 15 16,ym 10 17]) (agQ σ)
def agO:av:=.seq (yr [yn 8 (.cU (yi 0)),yn 9 (.cU (yi 0))]) (agP σ)
def SP(σ:gw)(sz:Nat):aK:=⟨[P.nat 0,P.nat 1,P.nat 2,P.nat 3],[.tmp (P.nat 8),.tmp (P.nat 9)],(agO σ)⟩
end
section
variable(σ:gw)(sz:Nat)
def adO:av:=yr [ym 32 9,yn 33 (.bin .sub (R 32) (yi 1)),ym 9 33]
def adN:av:=.seq (yr [ym 30 8,yn 31 (.bin .add (R 30) (yi 1)),ym 8 31]) (adO)
def adM:av:=.seq (yr [ym 16 0,ym 17 8,ym 18 0,ym 19 9,ym 20 0,ym 21 9,ya 22 sz 20 21,yl 23 sz 22,ym 24 0,ym 25 8,ya 26 sz 24 25,yl 27 sz 26,ya 28 sz 16 17,ys sz 28 23,ya 29 sz 18 19,ys sz 29 27]) (adN)
def ag0:av:=.seq (.seq (yr [ym 13 8,ym 14 9,yb 15 .lss 13 14]) (.cond (R 15) .skip (.exit 0))) (.block 1 (adM sz))
def agZ:av:=.seq (yr [ym 11 2,yn 12 (.bin .sub (R 11) (yi 1)),ym 9 12]) (.block 0 (.loop (ag0 sz)))
def agY:av:=.seq (yr [ym 10 1,ym 8 10]) (agZ sz)
def S4(σ:gw)(sz:Nat):aK:=⟨[P.nat 0,P.nat 1,P.nat 2,P.nat 3],[],(agY sz)⟩
end
section
variable(σ:gw)(sz:Nat)
def YM:av:=yr [ym 48 12,yn 49 (.bin .add (R 48) (yi 1)),ym 12 49]
def acL:av:=.seq (.seq (yr [ym 32 12,ym 33 13,yb 34 .leq 32 33,ym 35 34,gS 36 4 35,gS 37 0 35,gS 38 12 35,⟨D 39,.bI sz ab (R 37) (R 38),G 35 ae⟩,vB 40 sz 39 35,gS 41 0 35,gS 42 1 35,⟨D 43,.bI sz ab (R 41) (R 42),G 35 ae⟩,vB 44 sz 43 35,⟨D 45,.bT (R 36) [R 40,R 44] ae,G 35 ae⟩,⟨D 46,.bin .lss (R 45) (yi 0),G 35 ae⟩,yn 47 (.pick (R 35) (R 46) yf)]) (.cond (R 47) .skip (.exit 0))) (.block 1 YM)
def Sx:av:=.block 0 (.loop (acL sz))
def YP:av:=yr [ym 67 13,yn 68 (.bin .sub (R 67) (yi 1)),ym 13 68]
def YO:av:=.seq (.seq (yr [ym 50 12,ym 51 13,yb 52 .leq 50 51,ym 53 52,gS 54 4 53,gS 55 0 53,gS 56 13 53,⟨D 57,.bI sz ab (R 55) (R 56),G 53 ae⟩,vB 58 sz 57 53,gS 59 0 53,gS 60 1 53,⟨D 61,.bI sz ab (R 59) (R 60),G 53 ae⟩,vB 62 sz 61 53,⟨D 63,.bT (R 54) [R 58,R 62] ae,G 53 ae⟩,⟨D 64,.bin .lss (R 63) (yi 0),G 53 ae⟩,⟨D 65,.un .not (R 64),G 53 ae⟩,yn 66 (.pick (R 53) (R 65) yf)]) (.cond (R 66) .skip (.exit 2))) (.block 3 YP)
def B0:av:=.block 2 (.loop (YO sz))
def YT:av:=.seq (yr [ym 86 13,ym 10 86,yn 11 (.cU yt)]) .ret
def YR:av:=.seq (yr [ym 72 0,ym 73 13,ym 74 0,ym 75 1,ym 76 0,ym 77 1,ya 78 sz 76 77,yl 79 sz 78,ym 80 0,ym 81 13,ya 82 sz 80 81,yl 83 sz 82,ya 84 sz 72 73,ys sz 84 79,ya 85 sz 74 75,ys sz 85 83]) (YT)
def Y0:av:=yr [ym 121 12,yn 122 (.bin .add (R 121) (yi 1)),ym 12 122]
def YZ:av:=.seq (.seq (yr [ym 105 12,ym 106 13,yb 107 .leq 105 106,ym 108 107,gS 109 4 108,gS 110 0 108,gS 111 12 108,⟨D 112,.bI sz ab (R 110) (R 111),G 108 ae⟩,vB 113 sz 112 108,gS 114 0 108,gS 115 1 108,⟨D 116,.bI sz ab (R 114) (R 115),G 108 ae⟩,vB 117 sz 116 108,⟨D 118,.bT (R 109) [R 113,R 117] ae,G 108 ae⟩,⟨D 119,.bin .lss (R 118) (yi 0),G 108 ae⟩,yn 120 (.pick (R 108) (R 119) yf)]) (.cond (R 120) .skip (.exit 6))) (.block 7 Y0)
def B3:av:=.block 6 (.loop (YZ sz))
def Y3:av:=yr [ym 140 13,yn 141 (.bin .sub (R 140) (yi 1)),ym 13 141]
def Y2:av:=.seq (.seq (yr [ym 123 12,ym 124 13,yb 125 .leq 123 124,ym 126 125,gS 127 4 126,gS 128 0 126,gS 129 13 126,⟨D 130,.bI sz ab (R 128) (R 129),G 126 ae⟩,vB 131 sz 130 126,gS 132 0 126,gS 133 1 126,⟨D 134,.bI sz ab (R 132) (R 133),G 126 ae⟩,vB 135 sz 134 126,⟨D 136,.bT (R 127) [R 131,R 135] ae,G 126 ae⟩,⟨D 137,.bin .lss (R 136) (yi 0),G 126 ae⟩,⟨D 138,.un .not (R 137),G 126 ae⟩,yn 139 (.pick (R 126) (R 138) yf)]) (.cond (R 139) .skip (.exit 8))) (.block 9 Y3)
def B5:av:=.block 8 (.loop (Y2 sz))
def Y7:av:=yr [ym 161 13,yn 162 (.bin .sub (R 161) (yi 1)),ym 13 162]
def Y6:av:=.seq (yr [ym 159 12,yn 160 (.bin .add (R 159) (yi 1)),ym 12 160]) (Y7)
def Y5:av:=.seq (yr [ym 145 0,ym 146 12,ym 147 0,ym 148 13,ym 149 0,ym 150 13,ya 151 sz 149 150,yl 152 sz 151,ym 153 0,ym 154 12,ya 155 sz 153 154,yl 156 sz 155,ya 157 sz 145 146,ys sz 157 152,ya 158 sz 147 148,ys sz 158 156]) (Y6)
def Y4:av:=.seq (.seq (yr [ym 142 12,ym 143 13,yb 144 .gtr 142 143]) (.cond (R 144) (.exit 4) .skip)) (Y5 sz)
def Y1:av:=.seq (B5 sz) (Y4 sz)
def YY:av:=.seq (B3 sz) (Y1 sz)
def Y8:av:=.seq (yr [ym 177 13,ym 10 177,yn 11 (.cU yf)]) .ret
def B6:av:=.seq (yr [ym 163 0,ym 164 13,ym 165 0,ym 166 1,ym 167 0,ym 168 1,ya 169 sz 167 168,yl 170 sz 169,ym 171 0,ym 172 13,ya 173 sz 171 172,yl 174 sz 173,ya 175 sz 163 164,ys sz 175 170,ya 176 sz 165 166,ys sz 176 174]) (Y8)
def YX:av:=.seq (.block 4 (.loop (.block 5 (YY sz)))) (B6 sz)
def YW:av:=.seq (yr [ym 103 13,yn 104 (.bin .sub (R 103) (yi 1)),ym 13 104]) (YX sz)
def YV:av:=.seq (yr [ym 101 12,yn 102 (.bin .add (R 101) (yi 1)),ym 12 102]) (YW sz)
def YU:av:=.seq (yr [ym 87 0,ym 88 12,ym 89 0,ym 90 13,ym 91 0,ym 92 13,ya 93 sz 91 92,yl 94 sz 93,ym 95 0,ym 96 12,ya 97 sz 95 96,yl 98 sz 97,ya 99 sz 87 88,ys sz 99 94,ya 100 sz 89 90,ys sz 100 98]) (YV sz)
def YQ:av:=.seq (.seq (yr [ym 69 12,ym 70 13,yb 71 .gtr 69 70]) (.cond (R 71) (YR sz) .skip)) (YU sz)
def YN:av:=.seq (B0 sz) (YQ sz)
def acK:av:=.seq (Sx sz) (YN sz)
def acJ:av:=.seq (yr [ym 28 1,yn 29 (.bin .add (R 28) (yi 1)),ym 30 2,yn 31 (.bin .sub (R 30) (yi 1)),ym 12 29,ym 13 31]) (acK sz)
def acI:av:=.seq (yr [ym 14 0,ym 15 1,ym 16 0,ym 17 3,ym 18 0,ym 19 3,ya 20 sz 18 19,yl 21 sz 20,ym 22 0,ym 23 1,ya 24 sz 22 23,yl 25 sz 24,ya 26 sz 14 15,ys sz 26 21,ya 27 sz 16 17,ys sz 27 25]) (acJ sz)
def acH:av:=.seq (yr [yn 10 (.cU (yi 0)),yn 11 (.cU yf)]) (acI sz)
def AH(σ:gw)(sz:Nat):aK:=⟨[P.nat 0,P.nat 1,P.nat 2,P.nat 3,P.nat 4],[.tmp (P.nat 10),.tmp (P.nat 11)],(acH sz)⟩
end
section
variable(σ:gw)(sz:Nat)
def adb:av:=yr [ym 48 11,yn 49 (.bin .add (R 48) (yi 1)),ym 11 49]
def ada:av:=.seq (.seq (yr [ym 31 11,ym 32 12,yb 33 .leq 31 32,ym 34 33,gS 35 4 34,gS 36 0 34,gS 37 1 34,⟨D 38,.bI sz ab (R 36) (R 37),G 34 ae⟩,vB 39 sz 38 34,gS 40 0 34,gS 41 11 34,⟨D 42,.bI sz ab (R 40) (R 41),G 34 ae⟩,vB 43 sz 42 34,⟨D 44,.bT (R 35) [R 39,R 43] ae,G 34 ae⟩,⟨D 45,.bin .lss (R 44) (yi 0),G 34 ae⟩,⟨D 46,.un .not (R 45),G 34 ae⟩,yn 47 (.pick (R 34) (R 46) yf)]) (.cond (R 47) .skip (.exit 2))) (.block 3 adb)
def SH:av:=.block 2 (.loop (ada sz))
def adg:av:=yr [ym 66 12,yn 67 (.bin .sub (R 66) (yi 1)),ym 12 67]
def adf:av:=.seq (.seq (yr [ym 50 11,ym 51 12,yb 52 .leq 50 51,ym 53 52,gS 54 4 53,gS 55 0 53,gS 56 1 53,⟨D 57,.bI sz ab (R 55) (R 56),G 53 ae⟩,vB 58 sz 57 53,gS 59 0 53,gS 60 12 53,⟨D 61,.bI sz ab (R 59) (R 60),G 53 ae⟩,vB 62 sz 61 53,⟨D 63,.bT (R 54) [R 58,R 62] ae,G 53 ae⟩,⟨D 64,.bin .lss (R 63) (yi 0),G 53 ae⟩,yn 65 (.pick (R 53) (R 64) yf)]) (.cond (R 65) .skip (.exit 4))) (.block 5 adg)
def SK:av:=.block 4 (.loop (adf sz))
def adk:av:=yr [ym 87 12,yn 88 (.bin .sub (R 87) (yi 1)),ym 12 88]
def adj:av:=.seq (yr [ym 85 11,yn 86 (.bin .add (R 85) (yi 1)),ym 11 86]) (adk)
def adi:av:=.seq (yr [ym 71 0,ym 72 11,ym 73 0,ym 74 12,ym 75 0,ym 76 12,ya 77 sz 75 76,yl 78 sz 77,ym 79 0,ym 80 11,ya 81 sz 79 80,yl 82 sz 81,ya 83 sz 71 72,ys sz 83 78,ya 84 sz 73 74,ys sz 84 82]) (adj)
def adh:av:=.seq (.seq (yr [ym 68 11,ym 69 12,yb 70 .gtr 68 69]) (.cond (R 70) (.exit 0) .skip)) (adi sz)
def ade:av:=.seq (SK sz) (adh sz)
def ac_:av:=.seq (SH sz) (ade sz)
def SL:av:=.seq (yr [ym 89 11,ym 10 89]) .ret
def agM:av:=.seq (.block 0 (.loop (.block 1 (ac_ sz)))) (SL)
def agL:av:=.seq (yr [ym 27 1,yn 28 (.bin .add (R 27) (yi 1)),ym 29 2,yn 30 (.bin .sub (R 29) (yi 1)),ym 11 28,ym 12 30]) (agM sz)
def agK:av:=.seq (yr [ym 13 0,ym 14 1,ym 15 0,ym 16 3,ym 17 0,ym 18 3,ya 19 sz 17 18,yl 20 sz 19,ym 21 0,ym 22 1,ya 23 sz 21 22,yl 24 sz 23,ya 25 sz 13 14,ys sz 25 20,ya 26 sz 15 16,ys sz 26 24]) (agL sz)
def agJ:av:=.seq (yr [yn 10 (.cU (yi 0))]) (agK sz)
def SN(σ:gw)(sz:Nat):aK:=⟨[P.nat 0,P.nat 1,P.nat 2,P.nat 3,P.nat 4],[.tmp (P.nat 10)],(agJ sz)⟩
end
section
variable(σ:gw)(sz:Nat)
def Zg:av:=yr [ym 37 9,yn 38 (.bin .add (R 37) (yi 1)),ym 9 38]
def Zf:av:=.seq (.seq (yr [ym 19 9,ym 20 2,yb 21 .lss 19 20,ym 22 21,gS 23 3 22,gS 24 0 22,gS 25 9 22,⟨D 26,.bI sz ab (R 24) (R 25),G 22 ae⟩,vB 27 sz 26 22,gS 28 0 22,gS 29 9 22,⟨D 30,.bin .sub (R 29) (yi 1),G 22 ae⟩,⟨D 31,.bI sz ab (R 28) (R 30),G 22 ae⟩,vB 32 sz 31 22,⟨D 33,.bT (R 23) [R 27,R 32] ae,G 22 ae⟩,⟨D 34,.bin .lss (R 33) (yi 0),G 22 ae⟩,⟨D 35,.un .not (R 34),G 22 ae⟩,yn 36 (.pick (R 22) (R 35) yf)]) (.cond (R 36) .skip (.exit 2))) (.block 3 Zg)
def B9:av:=.block 2 (.loop (Zf sz))
def Zi:av:=.seq (yr [yn 8 (.cU yt)]) .ret
def Zk:av:=.seq (yr [yn 8 (.cU yf)]) .ret
def Zr:av:=yr [ym 85 0,ym 86 11,ym 87 0,ym 88 11,yn 89 (.bin .sub (R 88) (yi 1)),ym 90 0,ym 91 11,yn 92 (.bin .sub (R 91) (yi 1)),ya 93 sz 90 92,yl 94 sz 93,ym 95 0,ym 96 11,ya 97 sz 95 96,yl 98 sz 97,ya 99 sz 85 86,ys sz 99 94,ya 100 sz 87 89,ys sz 100 98]
def Zq:av:=.seq (.seq (yr [ym 72 3,ym 73 0,ym 74 11,ya 75 sz 73 74,yl 76 sz 75,ym 77 0,ym 78 11,yn 79 (.bin .sub (R 78) (yi 1)),ya 80 sz 77 79,yl 81 sz 80,yn 82 (.bT (R 72) [R 76,R 81] ae),yn 83 (.bin .lss (R 82) (yi 0)),yn 84 (.un .not (R 83))]) (.cond (R 84) (.exit 4) .skip)) (Zr sz)
def Zs:av:=yr [ym 70 11,yn 71 (.bin .sub (R 70) (yi 1)),ym 11 71]
def Zp:av:=.seq (.block 5 (Zq sz)) (Zs)
def Zo:av:=.seq (.seq (yr [ym 68 11,yn 69 (.bin .geq (R 68) (yi 1))]) (.cond (R 69) .skip (.exit 4))) (Zp sz)
def B':av:=.block 4 (.loop (Zo sz))
def Zn:av:=.seq (yr [ym 66 9,yn 67 (.bin .sub (R 66) (yi 1)),ym 11 67]) (B' sz)
def Zx:av:=yr [ym 125 0,ym 126 12,ym 127 0,ym 128 12,yn 129 (.bin .sub (R 128) (yi 1)),ym 130 0,ym 131 12,yn 132 (.bin .sub (R 131) (yi 1)),ya 133 sz 130 132,yl 134 sz 133,ym 135 0,ym 136 12,ya 137 sz 135 136,yl 138 sz 137,ya 139 sz 125 126,ys sz 139 134,ya 140 sz 127 129,ys sz 140 138]
def Zw:av:=.seq (.seq (yr [ym 112 3,ym 113 0,ym 114 12,ya 115 sz 113 114,yl 116 sz 115,ym 117 0,ym 118 12,yn 119 (.bin .sub (R 118) (yi 1)),ya 120 sz 117 119,yl 121 sz 120,yn 122 (.bT (R 112) [R 116,R 121] ae),yn 123 (.bin .lss (R 122) (yi 0)),yn 124 (.un .not (R 123))]) (.cond (R 124) (.exit 6) .skip)) (Zx sz)
def Zy:av:=yr [ym 110 12,yn 111 (.bin .add (R 110) (yi 1)),ym 12 111]
def Zv:av:=.seq (.block 7 (Zw sz)) (Zy)
def Zu:av:=.seq (.seq (yr [ym 107 12,ym 108 2,yb 109 .lss 107 108]) (.cond (R 109) .skip (.exit 6))) (Zv sz)
def Ca:av:=.block 6 (.loop (Zu sz))
def Zt:av:=.seq (yr [ym 105 9,yn 106 (.bin .add (R 105) (yi 1)),ym 12 106]) (Ca sz)
def B_:av:=.seq (yr [ym 101 2,ym 102 9,yb 103 .sub 101 102,yn 104 (.bin .geq (R 103) (yi 2))]) (.cond (R 104) (Zt sz) .skip)
def Zm:av:=.seq (.seq (yr [ym 62 9,ym 63 1,yb 64 .sub 62 63,yn 65 (.bin .geq (R 64) (yi 2))]) (.cond (R 65) (Zn sz) .skip)) (B_ sz)
def Zl:av:=.seq (yr [ym 46 0,ym 47 9,ym 48 0,ym 49 9,yn 50 (.bin .sub (R 49) (yi 1)),ym 51 0,ym 52 9,yn 53 (.bin .sub (R 52) (yi 1)),ya 54 sz 51 53,yl 55 sz 54,ym 56 0,ym 57 9,ya 58 sz 56 57,yl 59 sz 58,ya 60 sz 46 47,ys sz 60 55,ya 61 sz 48 50,ys sz 61 59]) (Zm sz)
def Zj:av:=.seq (.seq (yr [ym 42 2,ym 43 1,yb 44 .sub 42 43,yn 45 (.bin .lss (R 44) (yi 50))]) (.cond (R 45) Zk .skip)) (Zl sz)
def Zh:av:=.seq (.seq (yr [ym 39 9,ym 40 2,yb 41 .eql 39 40]) (.cond (R 41) Zi .skip)) (Zj sz)
def Ze:av:=.seq (B9 sz) (Zh sz)
def wz:av:=yr [ym 17 10,yn 18 (.bin .add (R 17) (yi 1)),ym 10 18]
def Zd:av:=.seq (.block 1 (Ze sz)) (wz)
def AJ:av:=.seq (.seq (yr [ym 15 10,yn 16 (.bin .lss (R 15) (yi 5))]) (.cond (R 16) .skip (.exit 0))) (Zd sz)
def qW:av:=.seq (yr [yn 8 (.cU yf)]) .ret
def adr:av:=.seq (.seq (yr [yn 10 (.cU (yi 0))]) (.block 0 (.loop (AJ sz)))) (qW)
def adq:av:=.seq (yr [ym 13 1,yn 14 (.bin .add (R 13) (yi 1)),ym 9 14]) (adr sz)
def adp:av:=.seq (yr [yn 8 (.cU yf)]) (adq sz)
def AK(σ:gw)(sz:Nat):aK:=⟨[P.nat 0,P.nat 1,P.nat 2,P.nat 3],[.tmp (P.nat 8)],(adp sz)⟩
end
def acp(σ:gw):av:=.seq (yr [ym 9 0,ym 10 1,yn 11 (.bin .sub (R 10) (yi 1)),ym 12 1,ym 13 1,yn 14 (.bin .add (R 13) (yi 1)),ym 15 2,ym 16 3,yn 17 (.call σ.HY [R 9,R 11,R 12,R 14,R 15,R 16] ae),ym 8 17]) .ret
def aco(σ:gw):av:=.seq (yr [yn 8 (.cU (yi 0))]) (acp σ)
def wg(σ:gw)(sz:Nat):aK:=⟨[P.nat 0,P.nat 1,P.nat 2,P.nat 3],[.tmp (P.nat 8)],(aco σ)⟩
section
variable(σ:gw)(sz:Nat)
def age:av:=.seq (yr [ym 40 2,ym 12 40]) .ret
def agd:av:=.seq (yr [ym 32 0,ym 33 1,ym 34 2,ym 35 4,ym 36 5,yn 37 (.call σ.ord [R 32,R 33,R 34,R 35,R 36] ae),ym 31 37,yn 38 (.extract (R 31) 0),yn 39 (.extract (R 31) 1),ym 1 38,ym 2 39]) (age)
def agc:av:=.seq (yr [ym 23 0,ym 24 2,ym 25 3,ym 26 4,ym 27 5,yn 28 (.call σ.ord [R 23,R 24,R 25,R 26,R 27] ae),ym 22 28,yn 29 (.extract (R 22) 0),yn 30 (.extract (R 22) 1),ym 2 29,ym 3 30]) (agd σ)
def agb:av:=.seq (yr [ym 14 0,ym 15 1,ym 16 2,ym 17 4,ym 18 5,yn 19 (.call σ.ord [R 14,R 15,R 16,R 17,R 18] ae),ym 13 19,yn 20 (.extract (R 13) 0),yn 21 (.extract (R 13) 1),ym 1 20,ym 2 21]) (agc σ)
def aga:av:=.seq (yr [yn 12 (.cU (yi 0))]) (agb σ)
def yS(σ:gw)(sz:Nat):aK:=⟨[P.nat 0,P.nat 1,P.nat 2,P.nat 3,P.nat 4,P.nat 5],[.tmp (P.nat 12)],(aga σ)⟩
end
section
variable(σ:gw)(sz:Nat)
def agE:av:=.seq (yr [ym 28 2,ym 29 1,ym 10 28,ym 11 29]) .ret
def agD:av:=.seq (yr [ym 23 3,yn 24 (.dE (R 23)),yn 25 (.load ab (R 24)),yn 26 (.bin .add (R 25) (yi 1)),yn 27 (.dE (R 23)),ys 1 27 26]) (agE)
def acF:av:=.seq (yr [ym 30 1,ym 31 2,ym 10 30,ym 11 31]) .ret
def agC:av:=.seq (.seq (yr [ym 12 4,ym 13 0,ym 14 2,ya 15 sz 13 14,yl 16 sz 15,ym 17 0,ym 18 1,ya 19 sz 17 18,yl 20 sz 19,yn 21 (.bT (R 12) [R 16,R 20] ae),yn 22 (.bin .lss (R 21) (yi 0))]) (.cond (R 22) agD .skip)) (acF)
def agB:av:=.seq (yr [yn 10 (.cU (yi 0)),yn 11 (.cU (yi 0))]) (agC sz)
def u0(σ:gw)(sz:Nat):aK:=⟨[P.nat 0,P.nat 1,P.nat 2,P.nat 3,P.nat 4],[.tmp (P.nat 10),.tmp (P.nat 11)],(agB sz)⟩
end
def agk(σ:gw):av:=.seq (yr [ym 3 0,yn 4 (.jm .u64 (R 3)),yn 5 (.call σ.len [R 4] ag),yn 6 (.bin .shl (.k (.c (.f (.int .u64 1)))) (R 5)),ym 2 6]) .ret
def agj(σ:gw):av:=.seq (yr [yn 2 (.cU (.k (.c (.f (.int .u64 0)))))]) (agk σ)
def yY(σ:gw)(sz:Nat):aK:=⟨[P.nat 0],[.tmp (P.nat 2)],(agj σ)⟩
section
variable(σ:gw)(sz:Nat)
def agp:av:=.seq (yr [ym 30 0,yn 31 (.dE (R 30)),yn 32 (.load ab (R 31)),ym 2 32]) .ret
def ago:av:=.seq (yr [ym 21 0,yn 22 (.dE (R 21)),yn 23 (.load ab (R 22)),ym 24 0,yn 25 (.dE (R 24)),yn 26 (.load ab (R 25)),yn 27 (.bin .shl (R 26) (.k (.c (.f (.int .u64 17))))),yb 28 .xor 23 27,yn 29 (.dE (R 21)),ys 1 29 28]) (agp)
def agn:av:=.seq (yr [ym 12 0,yn 13 (.dE (R 12)),yn 14 (.load ab (R 13)),ym 15 0,yn 16 (.dE (R 15)),yn 17 (.load ab (R 16)),yn 18 (.bin .shr (R 17) (.k (.c (.f (.int .u64 7))))),yb 19 .xor 14 18,yn 20 (.dE (R 12)),ys 1 20 19]) (ago)
def agm:av:=.seq (yr [ym 3 0,yn 4 (.dE (R 3)),yn 5 (.load ab (R 4)),ym 6 0,yn 7 (.dE (R 6)),yn 8 (.load ab (R 7)),yn 9 (.bin .shl (R 8) (.k (.c (.f (.int .u64 13))))),yb 10 .xor 5 9,yn 11 (.dE (R 3)),ys 1 11 10]) (agn)
def agl:av:=.seq (yr [yn 2 (.cU (.k (.c (.f (.int .u64 0)))))]) (agm)
def yZ(σ:gw)(sz:Nat):aK:=⟨[P.nat 0],[.tmp (P.nat 2)],(agl)⟩
end
end Km
end
namespace Km
open Go
def Cv(tab:TB)(cv:V)(W:List FC→Prop)(c:List FC→List FC→Int):Prop:=
 ∀ x y,W x→W y→∀ H,∃ F b J,bS cv [.a (x.map .f),.a (y.map .f)]=aa (.fn F,b)∧Ev tab (.fn F) b H (vi (c x y)) (H++J)
section
variable{W:List FC→Prop}{c:List FC→List FC→Int}{l:List (List FC)}
theorem je.of_lt{i j:Nat}(hc:tv W c)(b:∀ r ∈ l,W r){x y:List FC}(d:l[i]?=aa x)(hy:l[j]?=aa y)(h:c x y<0):je c l i j:=fun g m h1 h2=>by
 rw [d]at h1;rw [hy]at h2;cases h1;cases h2;exact hc.zR (b _ (ajg d)) (b _ (ajg hy)) h
theorem je.of_le{i j:Nat}{x y:List FC}(b:l[i]?=aa x)(hy:l[j]?=aa y)(h:¬ c y x<0):je c l i j:=fun d g h1 h2=>by
 rw [b]at h1;rw [hy]at h2;cases h1;cases h2;exact h
theorem je.get{l':List (List FC)}{i j b d:Nat}(h:je c l i j)(h1:l'[b]?=l[i]?)(h2:l'[d]?=l[j]?):je c l' b d:=fun x y g hy=>h x y (by rw [←h1];exact g) (by rw [←h2];exact hy)
def Bn(c:List FC→List FC→Int)(a i j:Nat)(l:List (List FC)):Prop:=∀ p q,a≤p→p<q→q≤i→q≠j→je c l p q
theorem Bn.start{a i:Nat}(h:Up c a i l):Bn c a i i l:=fun p q h1 h2 h3 h4=>fun x y=>h p q x y h1 h2 (by omega)
theorem Bn.step{a i j:Nat}(hc:tv W c)(u:∀ r ∈ l,W r)(h:Bn c a i (j+1) l)(v:a≤j)(A:j+1≤i)(hi:i<l.length){x y:List FC}(z:l[j+1]?=aa x)(hy:l[j]?=aa y)(m:c x y<0):Bn c a i j (ic l (j+1) j):=by
 intro p q h1 h2 h3 h4;have g:∀ k,(ic l (j+1) j)[k]?=if k=j then l[j+1]? else if k=j+1 then l[j]? else l[k]?:=fun k=>gm (by omega) (by omega) k;by_cases b:q=j+1
 ·subst b;by_cases p1:p=j
  ·subst p1;exact(je.of_lt hc u z hy m).get (by rw [g,ba rfl]) (by rw [g,aR (by omega),ba rfl])
  ·exact(h p j h1 (by omega) (by omega) (by omega)).get (by rw [g,aR (by omega),aR (by omega)]) (by rw [g,aR (by omega),ba rfl])
 ·have d:(ic l (j+1) j)[q]?=l[q]?:=by rw [g,aR h4,aR b]
  by_cases p1:p=j
  ·subst p1;exact(h (p+1) q (by omega) (by omega) h3 b).get (by rw [g,ba rfl]) d
  by_cases s:p=j+1
  ·subst s;exact(h j q v (by omega) h3 b).get (by rw [g,aR (by omega),ba rfl]) d
  ·exact(h p q h1 h2 h3 b).get (by rw [g,aR p1,aR s]) d
theorem Bn.front{a i:Nat}(h:Bn c a i a l):Up c a (i+1) l:=fun p q x y h1 h2 h3=>h p q h1 h2 (by omega) (by omega) x y
theorem Bn.stop{a i j:Nat}(hc:tv W c)(g:∀ r ∈ l,W r)(h:Bn c a i (j+1) l)(m:a≤j)(s:j+1≤i)(hi:i<l.length)(b:je c l j (j+1)):Up c a (i+1) l:=by
 intro p q x y h1 h2 h3;by_cases d:q=j+1
 ·subst d;by_cases p1:p=j
  ·subst p1;exact b x y
  ·exact((h p j h1 (by omega) (by omega) (by omega)).trans hc g b (by omega)) x y
 ·exact h p q h1 h2 (by omega) d x y
end
section
variable{tab:TB}{σ:gw}{sz:Nat}{H:an}{b ep:Nat}{rows:List (List FC)}{cv:V}{W:List FC→Prop}{c:List FC→List FC→Int}
theorem RB.at(h:RB H b sz ep rows){i:Nat}(hi:i<rows.length):bz H sz ab (.c (.sl b 0 rows.length 0 ep sz)) (vi i)=aa (.c (.ptr b (i*sz) ep)):=by
 have:=h.idx (n:=rows.length) (c:=0) (k:=.i64) (o:=0) (i:=(i:Int)) (by omega) (by omega);rwa [ajA,Nat.zero_add]at this
theorem RB.ldi(h:RB H b sz ep rows)(hg:bK sz rows){i:Nat}(hi:i<rows.length):aU H (aa sz) (.c (.ptr b (i*sz) ep))=aa (.a (rows[i].map .f)):=h.ldr hg (By hi)
theorem acj(hT:tab σ.ins=aa (yI σ sz))(c_:Cv tab cv W c)(hc:tv W c){n a e:Nat}(hn:rows.length=n)(hl:n≤1000000000)(d:RB H b sz ep rows)(hg:bK sz rows)(hW:∀ r ∈ rows,W r)(e_:a≤e)(f7:e≤n) :
  ∃ r H',Ev tab (.fn σ.ins) [.c (.sl b 0 n 0 ep sz),vi a,vi e,cv] H r H'∧(r=.t []∧Fm b H H'∧∃ l',RB H' b sz ep l'∧ez a e rows l'∧Up c a e l'):=by
 refine cM hT rfl fun Q hQ=>?_;apply ai;simp [aM (n:=(a:Int)+1)];refine az ?_;refine bJ (fun m s=>∃(i:Nat) (t:T) (X:an) (l:List (List FC)),s=⟨t,[],X⟩∧m=n+1-i∧a+1≤i∧(i≤e∨i=a+1)∧t.g 0=.c (.sl b 0 n 0 ep sz)∧t.g 1=vi a∧t.g 2=vi e∧t.g 3=cv∧t.g 8=vi i ∧
  Fm b H X∧RB X b sz ep l∧ez a e rows l∧Up c a i l) _
  ⟨a+1,_,H,rows,rfl,rfl,by omega,.inr rfl,by simp,by simp,by simp,by simp,by simp,Fm.refl H,d,ez.refl _ _ _,Up.one (by omega)⟩ ?_
 rintro m s ⟨i,t,X,l,rfl,rfl,f8,hi,B,E,L,M,I,v,d,g,c9⟩ ih;have A:=g.len;apply aq;apply ai;simp [I,L];by_cases b_:i<e
 case neg=>
  refine aG (by simp [b_]) ?_;refine bw (k':=[]) rfl ?_;exact dh (hQ _ _ _ rfl rfl ⟨rfl,v,l,d,g,c9.mono (ai8 _) (by omega)⟩)
 refine aw (by simp [b_]) (aP ?_);apply aq;refine az ?_;apply ai;simp [I];refine az ?_;refine bJ (fun m s=>∃(j:Nat) (t:T) (S:an) (q:List (List FC)),s=⟨t,[],S⟩∧j=m∧a≤j∧j≤i∧t.g 0=.c (.sl b 0 n 0 ep sz)∧t.g 1=vi a∧t.g 2=vi e∧t.g 3=cv∧t.g 8=vi i∧t.g 9=vi j ∧
  Fm b H S∧RB S b sz ep q∧ez a e rows q∧Bn c a i j q) i
  ⟨i,_,X,l,rfl,rfl,by omega,by omega,by simp [B],by simp [E],by simp [L],by simp [M],by simp [I],by simp,v,d,g,Bn.start c9⟩ ?_
 rintro m s ⟨j,t,S,q,rfl,rfl,f_,a_,B,E,L,M,I,Y,v,d,g,z⟩ d_;have A:=g.len;have x:=g.qM hg;have K:∀ r ∈ q,W r:=fun r hr=>hW r (g.1.mem_iff.1 hr);have stop:Up c a (i+1) q→∀ t:T,t.g 0=.c (.sl b 0 n 0 ep sz)→t.g 1=vi a→t.g 2=vi e→t.g 3=cv→t.g 8=vi i→∀ U,Fm b H U→RB U b sz ep q →
   WP tab σ.ins ab [.inBlock 1,.code (vZ),.inLoop (BO sz),.inBlock 0] ⟨t,[],U⟩ Q:=by
  intro hp t B E L M I U v d;refine ax (au (.inl rfl) ?_);simp [I,aM (n:=(i:Int)+1)];exact ih (n+1-(i+1)) _ (by omega) ⟨i+1,_,U,q,rfl,rfl,by omega,.inl (by omega),by simp [B],by simp [E],by simp [L],by simp [M],by simp,v,d,g,hp⟩
 apply aq;apply ai;by_cases hj:j=a
 ·subst hj;simp [Y,E];refine aG (by simp) ?_;refine bw (k':=[.inBlock 1,.code (vZ),.inLoop (BO sz),.inBlock 0]) rfl ?_;exact stop z.front _ (by simp [B]) (by simp [E]) (by simp [L]) (by simp [M]) (by simp [I]) _ v d
 obtain⟨k,rfl⟩:∃ k,j=k+1:=⟨j-1,by omega⟩
 have O:k+1<q.length:=by omega
 have c1:((k+1:Nat):Int)=(k:Int)+1:=by omega
 have N:=d.at O;have i0:=d.at (show k<q.length by omega);have l1:=d.ldi x O;have l0:=d.ldi x (show k<q.length by omega);rw [A,hn]at N i0;rw [c1]at N Y;obtain⟨F,ar,J,a7,d9⟩:=c_ q[k+1] q[k] (K _ (IT _)) (K _ (IT _)) S;have he:=d9.eq;have gt:(a:Int)<(k:Int)+1:=by omega
 simp [Y,B,E,M,gt,N,i0,l1,l0,a7,he,-ay,aM (n:=(k:Int))];by_cases y:c q[k+1] q[k]<0
 case neg=>
  refine aG (by simp [y]) ?_;refine bw (k':=[.inBlock 1,.code (vZ),.inLoop (BO sz),.inBlock 0]) rfl ?_;exact stop (z.stop hc K (by omega) a_ (by omega) (je.of_le (By (by omega)) (By O) y)) _ (by simp [B]) (by simp [E]) (by simp [L]) (by simp [M]) (by simp [I]) _ (v.trans (Fm.push _ _)) (d.push _)
 refine aw (by simp [y]) (aP ?_);have w1:q[k+1].length=sz:=x _ (IT _);have w0:q[k].length=sz:=x _ (IT _);have u:=d.push J;obtain⟨HJ,Z⟩:=aL (S++J);rw [←Z]at u ⊢;have a8:Fm b H HJ:=by rw [Z];exact v.trans (Fm.push _ _)
 have N:=u.at O;have i0:=u.at (show k<q.length by omega);have l1:=u.ldi x O;have l0:=u.ldi x (show k<q.length by omega);obtain⟨U,H4,s1,r1,s2,r2,f2⟩:=u.swap x O (show k<q.length by omega);have i2:=r1.at (show k<(q.set (k+1) q[k]).length by simp;omega);rw [ajp]at i2;rw [A,hn]at N i0 i2;rw [c1]at N;apply aq;refine az ?_;refine au (.inl rfl) ?_;simp [Y,B,N,i0,i2,l1,l0,s1,s2,w1,w0,-ay,-bu,aM (n:=(k:Int))];refine ax ?_;refine au (.inl rfl) ?_;simp [Y,aM (n:=(k:Int))];exact d_ k _ (by omega) ⟨k,_,H4,ic q (k+1) k,rfl,rfl,by omega,by omega,by simp [B],by simp [E],by simp [L],by simp [M],by simp [I],by simp,a8.trans f2,r2,
  g.trans (eS (by omega) (by omega) (by omega) (by omega) (by omega)),z.step hc K (by omega) a_ (by omega) (By O) (By (by omega)) y⟩
end
end Km
namespace Km
open Go
section
variable{tab:TB}{σ:gw}{sz:Nat}{H:an}{b ep:Nat}{rows:List (List FC)}{cv:V}{W:List FC→Prop}{c:List FC→List FC→Int}
theorem RB.ic(h:RB H b sz ep rows)(hg:bK sz rows){n i j:Nat}(s:rows.length=n)(hi:i<n)(l:j<n):∃(x y:List FC) (d g:an),rows[i]?=aa x∧rows[j]?=aa y ∧
  bz H sz ab (.c (.sl b 0 n 0 ep sz)) (vi i)=aa (.c (.ptr b (i*sz) ep))∧bz H sz ab (.c (.sl b 0 n 0 ep sz)) (vi j)=aa (.c (.ptr b (j*sz) ep)) ∧
  aU H (aa sz) (.c (.ptr b (i*sz) ep))=aa (.a (x.map .f))∧aU H (aa sz) (.c (.ptr b (j*sz) ep))=aa (.a (y.map .f))∧x.length=sz∧y.length=sz ∧
  di H (.ptr b (i*sz) ep) (y.map .f)=aa d∧bz d sz ab (.c (.sl b 0 n 0 ep sz)) (vi j)=aa (.c (.ptr b (j*sz) ep))∧di d (.ptr b (j*sz) ep) (x.map .f)=aa g∧RB g b sz ep (ic rows i j)∧Fm b H g:=by
 subst s;obtain⟨d,g,z,u,A,v,q⟩:=h.swap hg hi l;have m:=u.at (show j<(rows.set i rows[j]).length by simpa using l);rw [ajp]at m;exact⟨rows[i],rows[j],d,g,By hi,By l,h.at hi,h.at l,h.ldi hg hi,h.ldi hg l,hg _ (IT _),hg _ (IT _),z,m,A,v,q⟩
theorem RB.ask(h:RB H b sz ep rows)(hg:bK sz rows)(l:Cv tab cv W c)(g:∀ r ∈ rows,W r){n i j:Nat}(q:rows.length=n)(hi:i<n)(m:j<n):∃(x y:List FC) (F:Nat) (d:List V) (J:an),rows[i]?=aa x∧rows[j]?=aa y ∧
  bz H sz ab (.c (.sl b 0 n 0 ep sz)) (vi i)=aa (.c (.ptr b (i*sz) ep))∧bz H sz ab (.c (.sl b 0 n 0 ep sz)) (vi j)=aa (.c (.ptr b (j*sz) ep)) ∧
  aU H (aa sz) (.c (.ptr b (i*sz) ep))=aa (.a (x.map .f))∧aU H (aa sz) (.c (.ptr b (j*sz) ep))=aa (.a (y.map .f)) ∧
  bS cv [.a (x.map .f),.a (y.map .f)]=aa (.fn F,d)∧Ev tab (.fn F) d H=E2 (vi (c x y)) (H++J)∧W x∧W y:=by
 subst q;obtain⟨F,d,J,h1,h2⟩:=l rows[i] rows[j] (g _ (IT _)) (g _ (IT _)) H;exact⟨rows[i],rows[j],F,d,J,By hi,By m,h.at hi,h.at m,h.ldi hg hi,h.ldi hg m,h1,h2.eq,g _ (IT _),g _ (IT _)⟩
theorem adP(L:tab σ.rev=aa (S4 σ sz)){n a e:Nat}(X:rows.length=n)(hl:n≤1000000000)(q:RB H b sz ep rows)(O:bK sz rows)(M:a<e)(N:e≤n) :
  ∃ r H',Ev tab (.fn σ.rev) [.c (.sl b 0 n 0 ep sz),vi a,vi e,cv] H r H'∧(r=.t []∧Fm b H H'∧∃ l',RB H' b sz ep l'∧ez a e rows l'):=by
 refine cM L rfl fun Q K=>?_;obtain⟨d,rfl⟩:∃ d,e=d+1:=⟨e-1,by omega⟩
 apply ai;simp;apply ai;simp [aM (n:=(d:Int))];refine az ?_;refine bJ (fun m s=>∃(i j:Nat) (t:T) (A:an) (l:List (List FC)),s=⟨t,[],A⟩∧m=n+1-i∧a≤i∧j≤d∧i≤j+1∧t.g 0=.c (.sl b 0 n 0 ep sz)∧t.g 8=vi i∧t.g 9=vi j ∧
  Fm b H A∧RB A b sz ep l∧ez a (d+1) rows l) _
  ⟨a,d,_,H,rows,rfl,rfl,by omega,by omega,by omega,by simp,by simp,by simp,Fm.refl H,q,ez.refl _ _ _⟩ ?_
 rintro m s ⟨i,j,t,A,l,rfl,rfl,S,W,U,F,B,E,u,q,g⟩ Z;have v:=g.len;apply aq;apply ai;simp [B,E];by_cases z:i<j
 case neg=>
  refine aG (by simp [z]) ?_;refine bw (k':=[]) rfl ?_;exact dh (K _ _ _ rfl rfl ⟨rfl,u,l,q,g⟩)
 refine aw (by simp [z]) (aP ?_);obtain⟨x,y,H2,I,-,-,Y,j1,l1,l2,w1,w2,s1,j2,s2,r2,J⟩:=q.ic (g.qM O) (v.trans X) (i:=i) (j:=j) (by omega) (by omega);refine az ?_;apply ai;simp [F,B,E,Y,j1,l1,l2,w1,w2,s1,j2,s2,-ay,-bu];apply ai;simp [B,aM (n:=(i:Int)+1)];refine au (.inl rfl) ?_;simp [E,aM (n:=(j:Int)-1)];refine ax ?_;refine Z (n+1-(i+1)) _ (by omega) ⟨i+1,j-1,_,I,ic l i j,rfl,rfl,by omega,by omega,by omega,by simp [F],by simp,by simp;omega,u.trans J,r2,g.trans (eS (by omega) (by omega) (by omega) (by omega) (by omega))⟩
def NB(H:an)(p:Nat):Prop:=∃ k:Int,H[p]?=aa (.box [.f (fi k)] 0)
theorem NB.push{p:Nat}(h:NB H p)(J:an):NB (H++J) p:=by
 obtain⟨k,h⟩:=h;exact⟨k,by rw [AT (aj h)];exact h⟩
theorem acG(z:tab σ.ord=aa (u0 σ sz))(m:Cv tab cv W c){n p i j:Nat}(K:rows.length=n)(s:RB H b sz ep rows)(E:bK sz rows)(A:∀ r ∈ rows,W r)(hi:i<n)(I:j<n)(v:NB H p)(L:p≠b) :
  ∃ r H',Ev tab (.fn σ.ord) [.c (.sl b 0 n 0 ep sz),vi i,vi j,.c (.ptr p 0 0),cv] H r H'∧((r=.t [vi i,vi j]∨r=.t [vi j,vi i])∧Fm p H H'∧NB H' p):=by
 refine cM z rfl fun Q u=>?_;obtain⟨x,y,F,U,J,-,-,M,N,O,S,d,B,-,-⟩:=s.ask E m A K I hi;obtain⟨k,l⟩:=v.push J;have q:=aj l;apply ai;simp;apply aq;apply ai;simp [M,N,O,S,d,B,-ay];by_cases g:c x y<0
 ·refine aw (by simp [g]) (ai ?_);simp [l];apply ai;simp;refine aF (u _ _ (.t [vi j,vi i]) rfl (by simp [Km.results,aZ]) ⟨.inr rfl,?_,?_⟩)
  ·exact(Fm.push _ _).trans (Fm.set _ _)
  ·exact⟨_,If q⟩
 ·refine aG (by simp [g]) (aP (ai ?_));simp;exact aF (u _ _ (.t [vi i,vi j]) rfl (by simp [Km.results,aZ]) ⟨.inl rfl,Fm.push _ _,v.push J⟩)
theorem Sb(Z:tab σ.HY=aa (yS σ sz))(X:tab σ.ord=aa (u0 σ sz))(l:Cv tab cv W c){n p i j k:Nat}(h:rows.length=n)(d:RB H b sz ep rows)(e:bK sz rows)(a:∀ r ∈ rows,W r)(hi:i<n)(m:j<n)(f:k<n)(s:NB H p)(g:p≠b) :
  ∃ r H',Ev tab (.fn σ.HY) [.c (.sl b 0 n 0 ep sz),vi i,vi j,vi k,.c (.ptr p 0 0),cv] H r H'∧((∃ q:Nat,r=vi q∧(q=i∨q=j∨q=k))∧Fm p H H'∧NB H' p):=by
 have key:∀ {H:an} {i j:Nat},RB H b sz ep rows→NB H p→i<n→j<n→∃(x y:Nat) (H':an),Ev tab (.fn σ.ord) [.c (.sl b 0 n 0 ep sz),vi i,vi j,.c (.ptr p 0 0),cv] H=E2 (.t [vi x,vi y]) H'∧(x=i∧y=j∨x=j∧y=i)∧Fm p H H'∧NB H' p:=by
  intro H i j d s hi m;obtain⟨r,H',A,o,B,z⟩:=acG X l h d e a hi m s g;rcases o with rfl | rfl
  ·exact⟨i,j,H',A.eq,.inl ⟨rfl,rfl⟩,B,z⟩
  ·exact⟨j,i,H',A.eq,.inr ⟨rfl,rfl⟩,B,z⟩
 obtain⟨w,y1,I,N,o1,u,K⟩:=key d s hi m;have E:RB I b sz ep rows:=u.get d (Ne.symm g);obtain⟨x2,y2,J,O,o2,v,L⟩:=key E K (show y1<n by omega) f;have t:RB J b sz ep rows:=v.get E (Ne.symm g);obtain⟨x3,F,H3,S,o3,U,M⟩:=key t L (show w<n by omega) (show x2<n by omega);refine cM Z rfl fun Q Y=>?_;apply ai;simp;apply ai;simp [N];apply ai;simp [O];apply ai;simp [S];apply ai;simp;refine aF (Y _ _ (vi F) rfl (by simp [Km.results,aZ]) ⟨⟨F,rfl,by omega⟩,u.trans (v.trans U),M⟩)
theorem wh(y:tab σ.pO=aa (wg σ sz))(u:tab σ.HY=aa (yS σ sz))(v:tab σ.ord=aa (u0 σ sz))(l:Cv tab cv W c){n p i:Nat}(F:rows.length=n)(K:n≤1000000000)(s:RB H b sz ep rows)(E:bK sz rows)(z:∀ r ∈ rows,W r)(J:0<i)(hi:i+1<n)(I:NB H p)(m:p≠b) :
  ∃ r H',Ev tab (.fn σ.pO) [.c (.sl b 0 n 0 ep sz),vi i,.c (.ptr p 0 0),cv] H r H'∧((∃ q:Nat,r=vi q∧i≤q+1∧q≤i+1)∧Fm p H H'∧NB H' p):=by
 obtain⟨d,rfl⟩:∃ d,i=d+1:=⟨i-1,by omega⟩
 obtain⟨r,H',g,⟨q,rfl,L⟩,B,A⟩:=Sb (i:=d) (j:=d+1) (k:=d+1+1) u v l F s E z (by omega) (by omega) hi I m;refine cM y rfl fun Q x=>?_;have g:=g.eq;simp at g;apply ai;simp;apply ai;simp [aM (n:=(d:Int)),aM (n:=(d:Int)+1+1),g];exact aF (x _ _ (vi q) rfl (by simp [Km.results,aZ]) ⟨⟨q,rfl,by omega,by omega⟩,B,A⟩)
def Kp(H H':an):Prop:=H.length≤H'.length∧∀ b:Nat,b<H.length→H'[b]?=H[b]?
theorem Kp.fm{b:Nat}{H H':an}(h:Kp H H'):Fm b H H':=⟨h.1,fun d _ l=>h.2 d l⟩
theorem Kp.push(H J:an):Kp H (H++J):=⟨by simp,fun b l=>AT l⟩
theorem Kp.next{H H' b:an}{p:Nat}(h:Kp H H')(j:H.length≤p)(g:Fm p H' b):Kp H b:=⟨ajw h.1 g.1,fun d l=>(g.2 d (by omega) (aj5 l h.1)).trans (h.2 d l)⟩
theorem Kp.rb{H H':an}{b sz ep:Nat}{rows:List (List FC)}(h:Kp H H')(hb:RB H b sz ep rows):RB H' b sz ep rows:=by
 unfold RB at *;rw [h.2 b (aj hb)];exact hb
theorem ZD{a b:Nat}(s:0<b)(m:a≤9223372036854775807):bM .quo (vi a) (vi b)=aa (vi ((a / b:Nat):Int)):=by
 have g:(a / b:Nat)≤a:=Nat.div_le_self a b;obtain⟨q,d⟩:=aL (a / b);have j:((a:Int) / b)=(q:Int):=by rw [d];simp
 have l:q≤a:=by rw [d];exact g
 rw [←d,oq (by omega),Int.tdiv_eq_ediv_of_nonneg (by omega),j,aM]
theorem adD(hT:tab σ.IJ=aa (SP σ sz))(Z:tab σ.pO=aa (wg σ sz))(F:tab σ.HY=aa (yS σ sz))(I:tab σ.ord=aa (u0 σ sz))(v:Cv tab cv W c){n a e:Nat}(M:rows.length=n)(hl:n≤1000000000)(m:RB H b sz ep rows)(K:bK sz rows)(J:∀ r ∈ rows,W r)(b_:a+8≤e)(c_:e≤n) :
  ∃ r H',Ev tab (.fn σ.IJ) [.c (.sl b 0 n 0 ep sz),vi a,vi e,cv] H r H'∧((∃(q:Nat) (h:Int),r=.t [vi q,vi h]∧a≤q∧q<e)∧Kp H H'):=by
 obtain⟨L,rfl⟩:∃ L,e=a+L:=⟨e-a,by omega⟩
 obtain⟨d,hd⟩:=aL (L / 4);have N:bM .quo (vi (L:Int)) (vi 4)=aa (vi (d:Int)):=by
  have:=ZD (a:=L) (b:=4) (by omega) (by omega);rw [hd];exact this
 have c9:=m.lt;have hw:IntKind.i64.wrap ((a:Int)+L-a)=L:=by rw [aM];omega
 refine cM hT rfl fun Q hQ=>?_;have O:∀(t:T) (s:an) (q:Nat),t.g 11=.c (.ptr H.length 0 0)→t.g 13=vi q→a≤q→q<a+L→NB s H.length→Kp H s→WP tab σ.IJ ab [.code (AM)] ⟨t,[],s⟩ Q:=by
  intro t s q u l X Y ⟨k,hk⟩ g;apply ai;simp [u,hk];refine az ?_;apply ai;simp;by_cases k1:k=0
  ·refine aw (by simp [k1]) (ai ?_);simp [l];exact aF (hQ _ _ (.t [vi q,vi 1]) rfl (by simp [Km.results,aZ]) ⟨⟨q,1,rfl,X,Y⟩,g⟩)
  refine aG (by simp [k1]) ?_;apply ai;simp;by_cases k2:k=12
  ·refine aw (by simp [k2]) (ai ?_);simp [l];exact aF (hQ _ _ (.t [vi q,vi 2]) rfl (by simp [Km.results,aZ]) ⟨⟨q,2,rfl,X,Y⟩,g⟩)
  refine aG (by simp [k2]) ?_;apply ai;simp [l];exact aF (hQ _ _ (.t [vi q,vi 0]) rfl (by simp [Km.results,aZ]) ⟨⟨q,0,rfl,X,Y⟩,g⟩)
 have mid:∀(t:T) (s:an) (i j k:Nat),t.g 0=.c (.sl b 0 n 0 ep sz)→t.g 3=cv→t.g 11=.c (.ptr H.length 0 0)→t.g 12=vi i→t.g 13=vi j→t.g 14=vi k→a≤i→i<a+L→a≤j→j<a+L→a≤k→k<a+L→NB s H.length→Kp H s →
   WP tab σ.IJ ab [.code (SO σ),.code (AM)] ⟨t,[],s⟩ Q:=by
  intro t s i j k g0 g3 u S l U i1 i2 j1 j2 k1 k2 x g;obtain⟨r,H3,he,⟨q,rfl,N⟩,hf,a7⟩:=Sb (p:=H.length) (i:=i) (j:=j) (k:=k) F I v M (g.rb m) K J (by omega) (by omega) (by omega) x (by omega);have he:=he.eq;refine au (.inl rfl) ?_;simp [g0,g3,u,S,l,U,he];exact O _ H3 q (by simp [u]) (by simp) (by omega) (by omega) a7 (g.next (ai8 _) hf)
 apply ai;simp;apply ai;simp [hw];apply ai;simp;apply ai;simp [N,aM (n:=(d:Int)),aM (n:=(a:Int)+d)];apply ai;simp [N,aM (n:=(d:Int)*2),aM (n:=(a:Int)+d*2)];apply ai;simp [N,aM (n:=(d:Int)*3),aM (n:=(a:Int)+d*3)];apply aq;apply ai;simp;refine aw (by simp;omega) ?_;apply aq;apply ai;simp;have x:NB (H++[.box [.f (fi 0)] 0]) H.length:=⟨0,by simp⟩
 have g:Kp H (H++[.box [.f (fi 0)] 0]):=Kp.push _ _;by_cases a_:50≤L
 case neg=>
  refine aG (by simp;omega) (aP ?_);exact mid _ _ (a+d) (a+d*2) (a+d*3) (by simp) (by simp) (by simp) (by simp) (by simp) (by simp) (by omega) (by omega) (by omega) (by omega) (by omega) (by omega) x g
 refine aw (by simp;omega) ?_;obtain⟨r1,H1,A,⟨q1,rfl,d9⟩,f1,b1⟩:=wh (p:=H.length) (i:=a+d) Z F I v M hl (g.rb m) K J (by omega) (by omega) x (by omega);have y:=g.next (ai8 _) f1;obtain⟨r2,s,B,⟨q2,rfl,d_⟩,f2,b2⟩:=wh (p:=H.length) (i:=a+d*2) Z F I v M hl (y.rb m) K J (by omega) (by omega) b1 (by omega);have z:=y.next (ai8 _) f2;obtain⟨r3,H3,E,⟨q3,rfl,e_⟩,f3,b3⟩:=wh (p:=H.length) (i:=a+d*3) Z F I v M hl (z.rb m) K J (by omega) (by omega) b2 (by omega);have a8:=z.next (ai8 _) f3;have A:=A.eq;have B:=B.eq;have E:=E.eq;simp at A B E;apply ai;simp [A];apply ai;simp [B];refine au (.inl rfl) ?_;simp [E];exact mid _ _ q1 q2 q3 (by simp) (by simp) (by simp) (by simp) (by simp) (by simp) (by omega) (by omega) (by omega) (by omega) (by omega) (by omega) b3 a8
end
end Km
namespace Km
open Go
section
variable{tab:TB}{σ:gw}{sz:Nat}{cv:V}{W:List FC→Prop}{c:List FC→List FC→Int}
theorem SA{n a e i j ep b:Nat}{rows:List (List FC)}{p:List FC}{H0:an}{k:List cD}{Q:Option av→St→Prop}(S:Cv tab cv W c)(hn:rows.length=n)(hl:n≤1000000000)(hg:bK sz rows)(hW:∀ r ∈ rows,W r)
  {t:T} {H:an} (a7:a<i) (a_:i≤j+1) (b_:j<e) (a8:e≤n) (hp:rows[a]?=aa p)
  (A:t.g 0=.c (.sl b 0 n 0 ep sz)) (B:t.g 1=vi a) (E:t.g 4=cv) (v:t.g 12=vi i) (u:t.g 13=vi j) (l:Fm b H0 H) (g:RB H b sz ep rows)
  (next:∀(t:T) (H:an) (K:Nat),(i≤K∧K≤j+1)→(∀(q:Nat) x,i≤q→q<K→rows[q]?=aa x→c x p<0)→(j<K∨∀ x,rows[K]?=aa x→¬ c x p<0) →
   t.g 0=.c (.sl b 0 n 0 ep sz)→t.g 1=vi a→t.g 4=cv→t.g 12=vi K→t.g 13=vi j→Fm b H0 H→RB H b sz ep rows→WP tab σ.part ab k ⟨t,[],H⟩ Q) :
  WP tab σ.part ab (.code (Sx sz)::k) ⟨t,[],H⟩ Q:=by
 refine az ?_;refine bJ (fun m s=>∃(q:Nat) (t:T) (N:an),s=⟨t,[],N⟩∧(q+m=j+1∧i≤q)∧(∀(r:Nat) x,i≤r→r<q→rows[r]?=aa x→c x p<0) ∧
   t.g 0=.c (.sl b 0 n 0 ep sz)∧t.g 1=vi a∧t.g 4=cv∧t.g 12=vi q∧t.g 13=vi j∧Fm b H0 N∧RB N b sz ep rows) (j+1-i)
  ⟨i,_,H,rfl,by omega,fun r x Y Z=>by omega,A,B,E,v,u,l,g⟩ ?_
 rintro m s ⟨q,t,N,rfl,hm,d,A,B,E,v,u,l,g⟩ ih;apply aq;apply ai;by_cases M:q≤j
 case neg=>
  simp [v,u,M];refine aG (by simp) ?_;refine bw (k':=k) rfl ?_;exact next _ _ q (by omega) d (.inl (by omega)) (by simp [A]) (by simp [B]) (by simp [E]) (by simp [v]) (by simp [u]) l g
 obtain⟨x,y,F,ar,J,U,X,i1,j1,l1,l2,L,he,-,-⟩:=g.ask hg S hW hn (i:=q) (j:=a) (by omega) (by omega);simp [v,u,M,A,B,E,i1,j1,l1,l2,L,he,-ay];have ep:p=y:=by rw [hp]at X;exact akD X
 subst ep;by_cases O:c x p<0
 case neg=>
  refine aG (by simp [O]) ?_;refine bw (k':=k) rfl ?_;refine next _ _ q (by omega) d (.inr fun z I=>?_) (by simp [A]) (by simp [B]) (by simp [E]) (by simp [v]) (by simp [u]) (l.trans (Fm.push _ _)) (g.push _)
  rw [U]at I;cases I;exact O
 refine aw (by simp [O]) (aP ?_);refine az (au (.inl rfl) ?_);simp [v,u,aM (n:=(q:Int)+1)];refine ax (ih (m-1) _ (by omega) ⟨q+1,_,_,rfl,by omega,fun r z Y Z I=>?_,by simp [A],by simp [B],by simp [E],by simp,by simp [u],l.trans (Fm.push _ _),g.push _⟩);by_cases hr:r=q
 ·subst hr;rw [U]at I;cases I;exact O
 ·exact d r z (by omega) (by omega) I
theorem Sy{n a e i j ep b:Nat}{rows:List (List FC)}{p:List FC}{H0:an}{k:List cD}{Q:Option av→St→Prop}(S:Cv tab cv W c)(hn:rows.length=n)(hl:n≤1000000000)(hg:bK sz rows)(hW:∀ r ∈ rows,W r)
  {t:T} {H:an} (a7:a<i) (a_:i≤j+1) (b_:j<e) (a8:e≤n) (hp:rows[a]?=aa p)
  (A:t.g 0=.c (.sl b 0 n 0 ep sz)) (B:t.g 1=vi a) (E:t.g 4=cv) (u:t.g 12=vi i) (v:t.g 13=vi j) (l:Fm b H0 H) (g:RB H b sz ep rows)
  (next:∀(t:T) (H:an) (K:Nat),(K≤j∧i≤K+1)→(∀(q:Nat) x,K<q→q≤j→rows[q]?=aa x→¬ c x p<0)→(K<i∨∀ x,rows[K]?=aa x→¬ ¬ c x p<0) →
   t.g 0=.c (.sl b 0 n 0 ep sz)→t.g 1=vi a→t.g 4=cv→t.g 12=vi i→t.g 13=vi K→Fm b H0 H→RB H b sz ep rows→WP tab σ.part ab k ⟨t,[],H⟩ Q) :
  WP tab σ.part ab (.code (B0 sz)::k) ⟨t,[],H⟩ Q:=by
 refine az ?_;refine bJ (fun m s=>∃(q:Nat) (t:T) (N:an),s=⟨t,[],N⟩∧(q+1=i+m∧q≤j)∧(∀(r:Nat) x,q<r→r≤j→rows[r]?=aa x→¬ c x p<0) ∧
   t.g 0=.c (.sl b 0 n 0 ep sz)∧t.g 1=vi a∧t.g 4=cv∧t.g 12=vi i∧t.g 13=vi q∧Fm b H0 N∧RB N b sz ep rows) (j+1-i)
  ⟨j,_,H,rfl,by omega,fun r x Y Z=>by omega,A,B,E,u,v,l,g⟩ ?_
 rintro m s ⟨q,t,N,rfl,hm,d,A,B,E,u,v,l,g⟩ ih;apply aq;apply ai;by_cases M:i≤q
 case neg=>
  simp [u,v,M];refine aG (by simp) ?_;refine bw (k':=k) rfl ?_;exact next _ _ q (by omega) d (.inl (by omega)) (by simp [A]) (by simp [B]) (by simp [E]) (by simp [u]) (by simp [v]) l g
 obtain⟨x,y,F,ar,J,U,X,i1,j1,l1,l2,L,he,-,-⟩:=g.ask hg S hW hn (i:=q) (j:=a) (by omega) (by omega);simp [u,v,M,A,B,E,i1,j1,l1,l2,L,he,-ay];have ep:p=y:=by rw [hp]at X;exact akD X
 subst ep;by_cases O:c x p<0
 case pos=>
  refine aG (by simp [O]) ?_;refine bw (k':=k) rfl ?_;refine next _ _ q (by omega) d (.inr fun z I=>?_) (by simp [A]) (by simp [B]) (by simp [E]) (by simp [u]) (by simp [v]) (l.trans (Fm.push _ _)) (g.push _)
  rw [U]at I;cases I;exact fun h=>h O
 refine aw (by simp [O]) (aP ?_);refine az (au (.inl rfl) ?_);simp [u,v,aM (n:=(q:Int)-1)];refine ax (ih (m-1) _ (by omega) ⟨q-1,_,_,rfl,by omega,fun r z Y Z I=>?_,by simp [A],by simp [B],by simp [E],by simp [u],by simp;omega,l.trans (Fm.push _ _),g.push _⟩);by_cases hr:r=q
 ·subst hr;rw [U]at I;cases I;exact O
 ·exact d r z (by omega) (by omega) I
theorem SB{n a e i j ep b:Nat}{rows:List (List FC)}{p:List FC}{H0:an}{k:List cD}{Q:Option av→St→Prop}(S:Cv tab cv W c)(hn:rows.length=n)(hl:n≤1000000000)(hg:bK sz rows)(hW:∀ r ∈ rows,W r)
  {t:T} {H:an} (a7:a<i) (a_:i≤j+1) (b_:j<e) (a8:e≤n) (hp:rows[a]?=aa p)
  (A:t.g 0=.c (.sl b 0 n 0 ep sz)) (B:t.g 1=vi a) (E:t.g 4=cv) (v:t.g 12=vi i) (u:t.g 13=vi j) (l:Fm b H0 H) (g:RB H b sz ep rows)
  (next:∀(t:T) (H:an) (K:Nat),(i≤K∧K≤j+1)→(∀(q:Nat) x,i≤q→q<K→rows[q]?=aa x→c x p<0)→(j<K∨∀ x,rows[K]?=aa x→¬ c x p<0) →
   t.g 0=.c (.sl b 0 n 0 ep sz)→t.g 1=vi a→t.g 4=cv→t.g 12=vi K→t.g 13=vi j→Fm b H0 H→RB H b sz ep rows→WP tab σ.part ab k ⟨t,[],H⟩ Q) :
  WP tab σ.part ab (.code (B3 sz)::k) ⟨t,[],H⟩ Q:=by
 refine az ?_;refine bJ (fun m s=>∃(q:Nat) (t:T) (N:an),s=⟨t,[],N⟩∧(q+m=j+1∧i≤q)∧(∀(r:Nat) x,i≤r→r<q→rows[r]?=aa x→c x p<0) ∧
   t.g 0=.c (.sl b 0 n 0 ep sz)∧t.g 1=vi a∧t.g 4=cv∧t.g 12=vi q∧t.g 13=vi j∧Fm b H0 N∧RB N b sz ep rows) (j+1-i)
  ⟨i,_,H,rfl,by omega,fun r x Y Z=>by omega,A,B,E,v,u,l,g⟩ ?_
 rintro m s ⟨q,t,N,rfl,hm,d,A,B,E,v,u,l,g⟩ ih;apply aq;apply ai;by_cases M:q≤j
 case neg=>
  simp [v,u,M];refine aG (by simp) ?_;refine bw (k':=k) rfl ?_;exact next _ _ q (by omega) d (.inl (by omega)) (by simp [A]) (by simp [B]) (by simp [E]) (by simp [v]) (by simp [u]) l g
 obtain⟨x,y,F,ar,J,U,X,i1,j1,l1,l2,L,he,-,-⟩:=g.ask hg S hW hn (i:=q) (j:=a) (by omega) (by omega);simp [v,u,M,A,B,E,i1,j1,l1,l2,L,he,-ay];have ep:p=y:=by rw [hp]at X;exact akD X
 subst ep;by_cases O:c x p<0
 case neg=>
  refine aG (by simp [O]) ?_;refine bw (k':=k) rfl ?_;refine next _ _ q (by omega) d (.inr fun z I=>?_) (by simp [A]) (by simp [B]) (by simp [E]) (by simp [v]) (by simp [u]) (l.trans (Fm.push _ _)) (g.push _)
  rw [U]at I;cases I;exact O
 refine aw (by simp [O]) (aP ?_);refine az (au (.inl rfl) ?_);simp [v,u,aM (n:=(q:Int)+1)];refine ax (ih (m-1) _ (by omega) ⟨q+1,_,_,rfl,by omega,fun r z Y Z I=>?_,by simp [A],by simp [B],by simp [E],by simp,by simp [u],l.trans (Fm.push _ _),g.push _⟩);by_cases hr:r=q
 ·subst hr;rw [U]at I;cases I;exact O
 ·exact d r z (by omega) (by omega) I
theorem Sz{n a e i j ep b:Nat}{rows:List (List FC)}{p:List FC}{H0:an}{k:List cD}{Q:Option av→St→Prop}(S:Cv tab cv W c)(hn:rows.length=n)(hl:n≤1000000000)(hg:bK sz rows)(hW:∀ r ∈ rows,W r)
  {t:T} {H:an} (a7:a<i) (a_:i≤j+1) (b_:j<e) (a8:e≤n) (hp:rows[a]?=aa p)
  (A:t.g 0=.c (.sl b 0 n 0 ep sz)) (B:t.g 1=vi a) (E:t.g 4=cv) (u:t.g 12=vi i) (v:t.g 13=vi j) (l:Fm b H0 H) (g:RB H b sz ep rows)
  (next:∀(t:T) (H:an) (K:Nat),(K≤j∧i≤K+1)→(∀(q:Nat) x,K<q→q≤j→rows[q]?=aa x→¬ c x p<0)→(K<i∨∀ x,rows[K]?=aa x→¬ ¬ c x p<0) →
   t.g 0=.c (.sl b 0 n 0 ep sz)→t.g 1=vi a→t.g 4=cv→t.g 12=vi i→t.g 13=vi K→Fm b H0 H→RB H b sz ep rows→WP tab σ.part ab k ⟨t,[],H⟩ Q) :
  WP tab σ.part ab (.code (B5 sz)::k) ⟨t,[],H⟩ Q:=by
 refine az ?_;refine bJ (fun m s=>∃(q:Nat) (t:T) (N:an),s=⟨t,[],N⟩∧(q+1=i+m∧q≤j)∧(∀(r:Nat) x,q<r→r≤j→rows[r]?=aa x→¬ c x p<0) ∧
   t.g 0=.c (.sl b 0 n 0 ep sz)∧t.g 1=vi a∧t.g 4=cv∧t.g 12=vi i∧t.g 13=vi q∧Fm b H0 N∧RB N b sz ep rows) (j+1-i)
  ⟨j,_,H,rfl,by omega,fun r x Y Z=>by omega,A,B,E,u,v,l,g⟩ ?_
 rintro m s ⟨q,t,N,rfl,hm,d,A,B,E,u,v,l,g⟩ ih;apply aq;apply ai;by_cases M:i≤q
 case neg=>
  simp [u,v,M];refine aG (by simp) ?_;refine bw (k':=k) rfl ?_;exact next _ _ q (by omega) d (.inl (by omega)) (by simp [A]) (by simp [B]) (by simp [E]) (by simp [u]) (by simp [v]) l g
 obtain⟨x,y,F,ar,J,U,X,i1,j1,l1,l2,L,he,-,-⟩:=g.ask hg S hW hn (i:=q) (j:=a) (by omega) (by omega);simp [u,v,M,A,B,E,i1,j1,l1,l2,L,he,-ay];have ep:p=y:=by rw [hp]at X;exact akD X
 subst ep;by_cases O:c x p<0
 case pos=>
  refine aG (by simp [O]) ?_;refine bw (k':=k) rfl ?_;refine next _ _ q (by omega) d (.inr fun z I=>?_) (by simp [A]) (by simp [B]) (by simp [E]) (by simp [u]) (by simp [v]) (l.trans (Fm.push _ _)) (g.push _)
  rw [U]at I;cases I;exact fun h=>h O
 refine aw (by simp [O]) (aP ?_);refine az (au (.inl rfl) ?_);simp [u,v,aM (n:=(q:Int)-1)];refine ax (ih (m-1) _ (by omega) ⟨q-1,_,_,rfl,by omega,fun r z Y Z I=>?_,by simp [A],by simp [B],by simp [E],by simp [u],by simp;omega,l.trans (Fm.push _ _),g.push _⟩);by_cases hr:r=q
 ·subst hr;rw [U]at I;cases I;exact O
 ·exact d r z (by omega) (by omega) I
theorem adn{n a e i j ep b:Nat}{rows:List (List FC)}{p:List FC}{H0:an}{k:List cD}{Q:Option av→St→Prop}(S:Cv tab cv W c)(hn:rows.length=n)(hl:n≤1000000000)(hg:bK sz rows)(hW:∀ r ∈ rows,W r)
  {t:T} {H:an} (a7:a<i) (a_:i≤j+1) (b_:j<e) (a8:e≤n) (hp:rows[a]?=aa p)
  (A:t.g 0=.c (.sl b 0 n 0 ep sz)) (B:t.g 1=vi a) (E:t.g 4=cv) (v:t.g 11=vi i) (u:t.g 12=vi j) (l:Fm b H0 H) (g:RB H b sz ep rows)
  (next:∀(t:T) (H:an) (K:Nat),(i≤K∧K≤j+1)→(∀(q:Nat) x,i≤q→q<K→rows[q]?=aa x→¬ c p x<0)→(j<K∨∀ x,rows[K]?=aa x→¬ ¬ c p x<0) →
   t.g 0=.c (.sl b 0 n 0 ep sz)→t.g 1=vi a→t.g 4=cv→t.g 11=vi K→t.g 12=vi j→Fm b H0 H→RB H b sz ep rows→WP tab σ.B7 ab k ⟨t,[],H⟩ Q) :
  WP tab σ.B7 ab (.code (SH sz)::k) ⟨t,[],H⟩ Q:=by
 refine az ?_;refine bJ (fun m s=>∃(q:Nat) (t:T) (N:an),s=⟨t,[],N⟩∧(q+m=j+1∧i≤q)∧(∀(r:Nat) x,i≤r→r<q→rows[r]?=aa x→¬ c p x<0) ∧
   t.g 0=.c (.sl b 0 n 0 ep sz)∧t.g 1=vi a∧t.g 4=cv∧t.g 11=vi q∧t.g 12=vi j∧Fm b H0 N∧RB N b sz ep rows) (j+1-i)
  ⟨i,_,H,rfl,by omega,fun r x Y Z=>by omega,A,B,E,v,u,l,g⟩ ?_
 rintro m s ⟨q,t,N,rfl,hm,d,A,B,E,v,u,l,g⟩ ih;apply aq;apply ai;by_cases M:q≤j
 case neg=>
  simp [v,u,M];refine aG (by simp) ?_;refine bw (k':=k) rfl ?_;exact next _ _ q (by omega) d (.inl (by omega)) (by simp [A]) (by simp [B]) (by simp [E]) (by simp [v]) (by simp [u]) l g
 obtain⟨x,y,F,ar,J,U,X,i1,j1,l1,l2,L,he,-,-⟩:=g.ask hg S hW hn (i:=a) (j:=q) (by omega) (by omega);simp [v,u,M,A,B,E,i1,j1,l1,l2,L,he,-ay];have ep:p=x:=by rw [hp]at U;exact akD U
 subst ep;by_cases O:c p y<0
 case pos=>
  refine aG (by simp [O]) ?_;refine bw (k':=k) rfl ?_;refine next _ _ q (by omega) d (.inr fun z I=>?_) (by simp [A]) (by simp [B]) (by simp [E]) (by simp [v]) (by simp [u]) (l.trans (Fm.push _ _)) (g.push _)
  rw [X]at I;cases I;exact fun h=>h O
 refine aw (by simp [O]) (aP ?_);refine az (au (.inl rfl) ?_);simp [v,u,aM (n:=(q:Int)+1)];refine ax (ih (m-1) _ (by omega) ⟨q+1,_,_,rfl,by omega,fun r z Y Z I=>?_,by simp [A],by simp [B],by simp [E],by simp,by simp [u],l.trans (Fm.push _ _),g.push _⟩);by_cases hr:r=q
 ·subst hr;rw [X]at I;cases I;exact O
 ·exact d r z (by omega) (by omega) I
theorem adl{n a e i j ep b:Nat}{rows:List (List FC)}{p:List FC}{H0:an}{k:List cD}{Q:Option av→St→Prop}(S:Cv tab cv W c)(hn:rows.length=n)(hl:n≤1000000000)(hg:bK sz rows)(hW:∀ r ∈ rows,W r)
  {t:T} {H:an} (a7:a<i) (a_:i≤j+1) (b_:j<e) (a8:e≤n) (hp:rows[a]?=aa p)
  (A:t.g 0=.c (.sl b 0 n 0 ep sz)) (B:t.g 1=vi a) (E:t.g 4=cv) (u:t.g 11=vi i) (v:t.g 12=vi j) (l:Fm b H0 H) (g:RB H b sz ep rows)
  (next:∀(t:T) (H:an) (K:Nat),(K≤j∧i≤K+1)→(∀(q:Nat) x,K<q→q≤j→rows[q]?=aa x→c p x<0)→(K<i∨∀ x,rows[K]?=aa x→¬ c p x<0) →
   t.g 0=.c (.sl b 0 n 0 ep sz)→t.g 1=vi a→t.g 4=cv→t.g 11=vi i→t.g 12=vi K→Fm b H0 H→RB H b sz ep rows→WP tab σ.B7 ab k ⟨t,[],H⟩ Q) :
  WP tab σ.B7 ab (.code (SK sz)::k) ⟨t,[],H⟩ Q:=by
 refine az ?_;refine bJ (fun m s=>∃(q:Nat) (t:T) (N:an),s=⟨t,[],N⟩∧(q+1=i+m∧q≤j)∧(∀(r:Nat) x,q<r→r≤j→rows[r]?=aa x→c p x<0) ∧
   t.g 0=.c (.sl b 0 n 0 ep sz)∧t.g 1=vi a∧t.g 4=cv∧t.g 11=vi i∧t.g 12=vi q∧Fm b H0 N∧RB N b sz ep rows) (j+1-i)
  ⟨j,_,H,rfl,by omega,fun r x Y Z=>by omega,A,B,E,u,v,l,g⟩ ?_
 rintro m s ⟨q,t,N,rfl,hm,d,A,B,E,u,v,l,g⟩ ih;apply aq;apply ai;by_cases M:i≤q
 case neg=>
  simp [u,v,M];refine aG (by simp) ?_;refine bw (k':=k) rfl ?_;exact next _ _ q (by omega) d (.inl (by omega)) (by simp [A]) (by simp [B]) (by simp [E]) (by simp [u]) (by simp [v]) l g
 obtain⟨x,y,F,ar,J,U,X,i1,j1,l1,l2,L,he,-,-⟩:=g.ask hg S hW hn (i:=a) (j:=q) (by omega) (by omega);simp [u,v,M,A,B,E,i1,j1,l1,l2,L,he,-ay];have ep:p=x:=by rw [hp]at U;exact akD U
 subst ep;by_cases O:c p y<0
 case neg=>
  refine aG (by simp [O]) ?_;refine bw (k':=k) rfl ?_;refine next _ _ q (by omega) d (.inr fun z I=>?_) (by simp [A]) (by simp [B]) (by simp [E]) (by simp [u]) (by simp [v]) (l.trans (Fm.push _ _)) (g.push _)
  rw [X]at I;cases I;exact O
 refine aw (by simp [O]) (aP ?_);refine az (au (.inl rfl) ?_);simp [u,v,aM (n:=(q:Int)-1)];refine ax (ih (m-1) _ (by omega) ⟨q-1,_,_,rfl,by omega,fun r z Y Z I=>?_,by simp [A],by simp [B],by simp [E],by simp [u],by simp;omega,l.trans (Fm.push _ _),g.push _⟩);by_cases hr:r=q
 ·subst hr;rw [X]at I;cases I;exact O
 ·exact d r z (by omega) (by omega) I
def tx(c:List FC→List FC→Int)(a i j e:Nat)(p:List FC)(l:List (List FC)):Prop:=
 l[a]?=aa p∧(∀(k:Nat) x,a<k→k<i→l[k]?=aa x→c x p<0)∧(∀(k:Nat) x,j<k→k<e→l[k]?=aa x→¬ c x p<0)
def lQ(c:List FC→List FC→Int)(a e m:Nat)(l:List (List FC)):Prop:=
 ∃ p,l[m]?=aa p∧(∀(k:Nat) x,a≤k→k<m→l[k]?=aa x→c x p<0)∧(∀(k:Nat) x,m<k→k<e→l[k]?=aa x→¬ c x p<0)
theorem tx.swap{a i j e:Nat}{p:List FC}{l:List (List FC)}(h:tx c a i j e p l)(s:a<i)(u:i<j)(d:j<l.length)(hi:∀ x,l[i]?=aa x→¬ c x p<0)(v:∀ x,l[j]?=aa x→c x p<0):tx c a (i+1) (j-1) e p (ic l i j):=by
 obtain⟨h0,h1,h2⟩:=h;have g:∀ k,(ic l i j)[k]?=if k=j then l[i]? else if k=i then l[j]? else l[k]?:=fun k=>gm (by omega) d k;refine⟨?_,fun k x m q b=>?_,fun k x m q b=>?_⟩
 ·rw [g,aR (by omega),aR (by omega)];exact h0
 ·rw [g,aR (by omega)]at b;by_cases e:k=i
  ·rw [ba e]at b;exact v x b
  ·rw [aR e]at b;exact h1 k x m (by omega) b
 ·rw [g]at b;by_cases e:k=j
  ·rw [ba e]at b;exact hi x b
  ·rw [aR e,aR (by omega)]at b;exact h2 k x (by omega) q b
theorem tx.done{a i j e:Nat}{p:List FC}{l:List (List FC)}(h:tx c a i j e p l)(s:a≤j)(u:i=j+1)(d:j<l.length):lQ c a e j (ic l j a):=by
 obtain⟨h0,h1,h2⟩:=h;have g:∀ k,(ic l j a)[k]?=if k=a then l[j]? else if k=j then l[a]? else l[k]?:=fun k=>gm d (by omega) k;refine⟨p,?_,fun k x m q b=>?_,fun k x m q b=>?_⟩
 ·rw [g];by_cases e:j=a
  ·rw [ba e,e];exact h0
  ·rw [aR e,ba rfl];exact h0
 ·rw [g]at b;by_cases e:k=a
  ·rw [ba e]at b;exact h1 j x (by omega) (by omega) b
  ·rw [aR e,aR (by omega)]at b;exact h1 k x (by omega) (by omega) b
 ·rw [g,aR (by omega),aR (by omega)]at b;exact h2 k x m q b
theorem Y9{H:an}{rows:List (List FC)}{n a e v b ep:Nat}(hT:tab σ.part=aa (AH σ sz))(a8:Cv tab cv W c)(hn:rows.length=n)(hl:n≤1000000000)(g:RB H b sz ep rows)(hg:bK sz rows)(hW:∀ r ∈ rows,W r)(f8:a<e)(a_:e≤n)(f_:a≤v)(g_:v<e) :
  ∃ r H',Ev tab (.fn σ.part) [.c (.sl b 0 n 0 ep sz),vi a,vi e,vi v,cv] H r H'∧((∃(m:Nat) (w:Bool),r=.t [vi m,vb w]∧a≤m∧m<e∧Fm b H H'∧∃ l',RB H' b sz ep l'∧ez a e rows l'∧lQ c a e m l')):=by
 refine cM hT rfl fun Q hQ=>?_;obtain⟨d,rfl⟩:∃ d,e=d+1:=⟨e-1,by omega⟩
 obtain⟨x,p,H1,H2,F,hp,i1,j1,l1,l2,w1,w2,s1,j2,s2,r2,f2⟩:=g.ic hg hn (i:=a) (j:=v) (by omega) (by omega);have B:ez a (d+1) rows (ic rows a v):=eS (by omega) (by omega) (by omega) (by omega) (by omega);have b_:tx c a (a+1) d (d+1) p (ic rows a v):=by
  refine⟨?_,fun k x k1 k2=>by omega,fun k x k1 k2=>by omega⟩;rw [gm (by omega) (by omega)];by_cases e:a=v
  ·rw [ba e,e];exact hp
  ·rw [aR e,ba rfl];exact hp
 apply ai;simp;apply ai;simp [i1,j1,l1,l2,w1,w2,s1,j2,s2,-ay,-bu];apply ai;simp [aM (n:=(a:Int)+1),aM (n:=(d:Int))];apply aq;have I:∀(w:Bool) (t:T) (H3:an) (l:List (List FC)) (i j:Nat),a≤j→j<d+1→i=j+1→tx c a i j (d+1) p l→ez a (d+1) rows l→Fm b H H3→RB H3 b sz ep l →
   ∃(x y:List FC) (H4 H5:an),bz H3 sz ab (.c (.sl b 0 n 0 ep sz)) (vi j)=aa (.c (.ptr b (j*sz) ep))∧bz H3 sz ab (.c (.sl b 0 n 0 ep sz)) (vi a)=aa (.c (.ptr b (a*sz) ep)) ∧
    aU H3 (aa sz) (.c (.ptr b (j*sz) ep))=aa (.a (x.map .f))∧aU H3 (aa sz) (.c (.ptr b (a*sz) ep))=aa (.a (y.map .f))∧x.length=sz∧y.length=sz ∧
    di H3 (.ptr b (j*sz) ep) (y.map .f)=aa H4∧bz H4 sz ab (.c (.sl b 0 n 0 ep sz)) (vi a)=aa (.c (.ptr b (a*sz) ep))∧di H4 (.ptr b (a*sz) ep) (x.map .f)=aa H5 ∧
    (a≤j∧j<d+1∧Fm b H H5∧∃ l',RB H5 b sz ep l'∧ez a (d+1) rows l'∧lQ c a (d+1) j l'):=by
  intro w t H3 l i j h1 h2 h3 O u q g;have M:=u.len;obtain⟨x,y,H4,H5,-,-,i1,j1,l1,l2,w1,w2,s1,j2,s2,r2,f2⟩:=g.ic (u.qM hg) (M.trans hn) (i:=j) (j:=a) (by omega) (by omega);exact⟨x,y,H4,H5,i1,j1,l1,l2,w1,w2,s1,j2,s2,h1,h2,q.trans f2,_,r2,u.trans (eS (by omega) (by omega) (by omega) (by omega) (by omega)),O.done h1 h3 (by omega)⟩
 have E:∀ {l},ez a (d+1) rows l→bK sz l:=fun h=>h.qM hg;have U:∀ {l},ez a (d+1) rows l→∀ r ∈ l,W r:=fun h r hr=>hW r (h.1.mem_iff.1 hr);refine SA a8 (B.len.trans hn) hl (E B) (U B) (i:=a+1) (j:=d) (e:=d+1) (H0:=H) (by omega) (by omega) (by omega) a_ b_.1 (by simp) (by simp) (by simp) (by simp) (by simp) f2 r2 ?_;intro t H3 z c_ N S X Z g4 Y L q g;apply aq;refine Sy a8 (B.len.trans hn) hl (E B) (U B) (i:=z) (j:=d) (e:=d+1) (H0:=H) (by omega) (by omega) (by omega) a_ b_.1 X Z g4 Y L q g ?_;intro t H4 A d_ J K X Z g4 Y L q g;have a7:tx c a z A (d+1) p (ic rows a v):=⟨b_.1,fun k x k1 k2 F=>N k x (by omega) k2 F,fun k x k1 k2 F=>J k x k1 (by omega) F⟩
 apply aq;apply ai;simp [Y,L];by_cases o:A<z
 ·obtain⟨x,y,H5,H6,i1,j1,l1,l2,w1,w2,s1,j2,s2,f⟩:=I ae t H4 _ z A (by omega) (by omega) (by omega) a7 B q g;refine aw (by simp [o]) (ai ?_);simp [X,Z,L,i1,j1,l1,l2,w1,w2,s1,j2,s2,-ay,-bu];apply ai;simp [L];exact aF (hQ _ _ (.t [vi A,vb ae]) rfl (by simp [Km.results,aZ]) ⟨A,ae,rfl,f⟩)
 refine a6 (by simp [o]) ?_;have ni:∀ x,(ic rows a v)[z]?=aa x→¬ c x p<0:=by
  rcases S with h | h
  ·omega
  ·exact h
 have nj:∀ x,(ic rows a v)[A]?=aa x→c x p<0:=by
  rcases K with h | h
  ·omega
  ·exact fun x F=>Classical.not_not.1 (h x F)
 have f7:z≠A:=by
  rintro rfl;have F:=By (l:=ic rows a v) (i:=z) (by rw [wN];omega);exact ni _ F (nj _ F)
 obtain⟨x5,y5,H5,H6,-,-,i1,j1,l1,l2,w1,w2,s1,j2,s2,r5,f5⟩:=g.ic (E B) (B.len.trans hn) (i:=z) (j:=A) (by omega) (by omega);apply ai;simp [X,Y,L,i1,j1,l1,l2,w1,w2,s1,j2,s2,-ay,-bu];apply ai;simp [Y,aM (n:=(z:Int)+1)];apply ai;simp [L,aM (n:=(A:Int)-1)];apply aq;refine az ?_;refine bJ (fun m s=>∃(i j:Nat) (t:T) (H1:an) (l:List (List FC)),s=⟨t,[],H1⟩∧m=j+1-i∧a<i∧i≤j+1∧j<d+1∧t.g 0=.c (.sl b 0 n 0 ep sz)∧t.g 1=vi a∧t.g 4=cv∧t.g 12=vi i∧t.g 13=vi j ∧
   Fm b H H1∧RB H1 b sz ep l∧ez a (d+1) rows l∧tx c a i j (d+1) p l) _
  ⟨z+1,A-1,_,H6,_,rfl,rfl,by omega,by omega,by omega,by simp [X],by simp [Z],by simp [g4],by simp,by simp;omega,q.trans f5,r5,
   B.trans (eS (by omega) (by omega) (by omega) (by omega) (by rw [wN];omega)),a7.swap (by omega) (by omega) (by rw [wN];omega) ni nj⟩ ?_
 rintro m s ⟨i,j,t,H1,l,rfl,rfl,c9,d9,e_,X,Z,g4,Y,L,q,g,u,O⟩ ih;have M:=u.len;refine az ?_;apply aq;refine SB a8 (M.trans hn) hl (E u) (U u) (i:=i) (j:=j) (e:=d+1) (H0:=H) c9 d9 e_ a_ O.1 X Z g4 Y L q g ?_;intro t H3 z c_ N S X Z g4 Y L q g;apply aq;refine Sz a8 (M.trans hn) hl (E u) (U u) (i:=z) (j:=j) (e:=d+1) (H0:=H) (by omega) (by omega) (by omega) a_ O.1 X Z g4 Y L q g ?_;intro t H4 A d_ J K X Z g4 Y L q g;have a7:tx c a z A (d+1) p l:=⟨O.1,fun k x k1 k2 F=>by
   by_cases hk:k<i
   ·exact O.2.1 k x k1 hk F
   ·exact N k x (by omega) k2 F,fun k x k1 k2 F=>by
   by_cases hk:j<k
   ·exact O.2.2 k x hk k2 F
   ·exact J k x k1 (by omega) F⟩
 apply aq;apply ai;simp [Y,L];by_cases o:A<z
 ·obtain⟨x,y,H5,H6,i1,j1,l1,l2,w1,w2,s1,j2,s2,f⟩:=I ag t H4 _ z A (by omega) (by omega) (by omega) a7 u q g;refine aw (by simp [o]) ?_;refine bw (k':=[.code (B6 sz)]) rfl ?_;apply ai;simp [X,Z,L,i1,j1,l1,l2,w1,w2,s1,j2,s2,-ay,-bu];apply ai;simp [L];exact aF (hQ _ _ (.t [vi A,vb ag]) rfl (by simp [Km.results,aZ]) ⟨A,ag,rfl,f⟩)
 refine a6 (by simp [o]) ?_;have ni:∀ x,l[z]?=aa x→¬ c x p<0:=by
  rcases S with h | h
  ·omega
  ·exact h
 have nj:∀ x,l[A]?=aa x→c x p<0:=by
  rcases K with h | h
  ·omega
  ·exact fun x F=>Classical.not_not.1 (h x F)
 have f7:z≠A:=by
  rintro rfl;have F:=By (l:=l) (i:=z) (by omega);exact ni _ F (nj _ F)
 obtain⟨x5,y5,H5,H6,-,-,i1,j1,l1,l2,w1,w2,s1,j2,s2,r5,f5⟩:=g.ic (E u) (M.trans hn) (i:=z) (j:=A) (by omega) (by omega);apply ai;simp [X,Y,L,i1,j1,l1,l2,w1,w2,s1,j2,s2,-ay,-bu];apply ai;simp [Y,aM (n:=(z:Int)+1)];refine au (.inl rfl) ?_;simp [L,aM (n:=(A:Int)-1)];exact ax (ih _ _ (by omega) ⟨z+1,A-1,_,H6,_,rfl,rfl,by omega,by omega,by omega,by simp [X],by simp [Z],by simp [g4],by simp,by simp;omega,q.trans f5,r5,
   u.trans (eS (by omega) (by omega) (by omega) (by omega) (by omega)),a7.swap (by omega) (by omega) (by omega) ni nj⟩)
end
end Km
namespace Km
open Go
section
variable{tab:TB}{σ:gw}{sz:Nat}{cv:V}{W:List FC→Prop}{c:List FC→List FC→Int}
def GO(c:List FC→List FC→Int)(a i j e:Nat)(p:List FC)(l:List (List FC)):Prop:=
 l[a]?=aa p∧(∀(k:Nat) x,a<k→k<i→l[k]?=aa x→¬ c p x<0)∧(∀(k:Nat) x,j<k→k<e→l[k]?=aa x→c p x<0)
theorem GO.swap{a i j e:Nat}{p:List FC}{l:List (List FC)}(h:GO c a i j e p l)(s:a<i)(u:i<j)(d:j<l.length)(hi:∀ x,l[i]?=aa x→c p x<0)(v:∀ x,l[j]?=aa x→¬ c p x<0):GO c a (i+1) (j-1) e p (ic l i j):=by
 obtain⟨h0,h1,h2⟩:=h;have g:∀ k,(ic l i j)[k]?=if k=j then l[i]? else if k=i then l[j]? else l[k]?:=fun k=>gm (by omega) d k;refine⟨?_,fun k x m q b=>?_,fun k x m q b=>?_⟩
 ·rw [g,aR (by omega),aR (by omega)];exact h0
 ·rw [g,aR (by omega)]at b;by_cases e:k=i
  ·rw [ba e]at b;exact v x b
  ·rw [aR e]at b;exact h1 k x m (by omega) b
 ·rw [g]at b;by_cases e:k=j
  ·rw [ba e]at b;exact hi x b
  ·rw [aR e,aR (by omega)]at b;exact h2 k x (by omega) q b
theorem adm{H:an}{rows:List (List FC)}{n a e v b ep:Nat}{p:List FC}(hT:tab σ.B7=aa (SN σ sz))(a7:Cv tab cv W c)(c_:tv W c)(hn:rows.length=n)(hl:n≤1000000000)(g:RB H b sz ep rows)(hg:bK sz rows)(hW:∀ r ∈ rows,W r)(f8:a<e)(a8:e≤n)(f_:a≤v)(i4:v<e)(F:rows[v]?=aa p) :
  ∃ r H',Ev tab (.fn σ.B7) [.c (.sl b 0 n 0 ep sz),vi a,vi e,vi v,cv] H r H'∧((∃(m:Nat),r=vi m∧a<m∧m≤e∧Fm b H H'∧∃ l',RB H' b sz ep l'∧ez a e rows l'∧(∀(k:Nat) x,a≤k→k<m→l'[k]?=aa x→¬ c p x<0)∧(∀(k:Nat) x,m≤k→k<e→l'[k]?=aa x→c p x<0))):=by
 refine cM hT rfl fun Q hQ=>?_;obtain⟨d,rfl⟩:∃ d,e=d+1:=⟨e-1,by omega⟩
 obtain⟨x,p',H1,H2,I,b_,i1,j1,l1,l2,w1,w2,s1,j2,s2,r2,f2⟩:=g.ic hg hn (i:=a) (j:=v) (by omega) (by omega);obtain rfl:p=p':=by rw [F]at b_;exact akD b_
 have Y:¬ c p p<0:=fun h=>c_.zR (hW _ (ajg F)) (hW _ (ajg F)) h h;have f7:ez a (d+1) rows (ic rows a v):=eS (by omega) (by omega) (by omega) (by omega) (by omega);have e_:GO c a (a+1) d (d+1) p (ic rows a v):=by
  refine⟨?_,fun k x o M=>by omega,fun k x o M=>by omega⟩;rw [gm (by omega) (by omega)];by_cases e:a=v
  ·rw [ba e,e];exact F
  ·rw [aR e,ba rfl];exact F
 apply ai;simp;apply ai;simp [i1,j1,l1,l2,w1,w2,s1,j2,s2,-ay,-bu];apply ai;simp [aM (n:=(a:Int)+1),aM (n:=(d:Int))];apply aq;have A:∀ {l},ez a (d+1) rows l→bK sz l:=fun h=>h.qM hg;have S:∀ {l},ez a (d+1) rows l→∀ r ∈ l,W r:=fun h r hr=>hW r (h.1.mem_iff.1 hr);refine az ?_;refine bJ (fun m s=>∃(i j:Nat) (t:T) (H1:an) (l:List (List FC)),s=⟨t,[],H1⟩∧m=j+1-i∧a<i∧i≤j+1∧j<d+1∧t.g 0=.c (.sl b 0 n 0 ep sz)∧t.g 1=vi a∧t.g 4=cv∧t.g 11=vi i∧t.g 12=vi j ∧
   Fm b H H1∧RB H1 b sz ep l∧ez a (d+1) rows l∧GO c a i j (d+1) p l) _
  ⟨a+1,d,_,H2,_,rfl,rfl,by omega,by omega,by omega,by simp,by simp,by simp,by simp,by simp,f2,r2,f7,e_⟩ ?_
 rintro m s ⟨i,j,t,H1,l,rfl,rfl,c9,d9,d_,w,g1,g4,O,U,y,g,u,E⟩ ih;have B:=u.len;refine az ?_;apply aq;refine adn a7 (B.trans hn) hl (A u) (S u) (i:=i) (j:=j) (e:=d+1) (H0:=H) c9 d9 d_ a8 E.1 w g1 g4 O U y g ?_;intro t H3 J g_ X Z w g1 g4 O U y g;apply aq;refine adl a7 (B.trans hn) hl (A u) (S u) (i:=J) (j:=j) (e:=d+1) (H0:=H) (by omega) (by omega) (by omega) a8 E.1 w g1 g4 O U y g ?_;intro t H4 f h_ K L w g1 g4 O U y g;have N:GO c a J f (d+1) p l:=⟨E.1,fun k x o M I=>by
   by_cases hk:k<i
   ·exact E.2.1 k x o hk I
   ·exact X k x (by omega) M I,fun k x o M I=>by
   by_cases hk:j<k
   ·exact E.2.2 k x hk M I
   ·exact K k x o (by omega) I⟩
 apply aq;apply ai;simp [O,U];by_cases a_:f<J
 ·refine aw (by simp [a_]) ?_;refine bw (k':=[.code (SL)]) rfl ?_;apply ai;simp [O];refine aF (hQ _ _ (vi J) rfl (by simp [Km.results,aZ]) ⟨J,rfl,by omega,by omega,y,l,g,u,fun q z o M hz=>?_,fun q z o M hz=>N.2.2 q z (by omega) M hz⟩);by_cases e:q=a
  ·rw [e,N.1]at hz;cases hz;exact Y
  ·exact N.2.1 q z (by omega) M hz
 refine a6 (by simp [a_]) ?_;have ni:∀ x,l[J]?=aa x→c p x<0:=by
  rcases Z with h | h
  ·omega
  ·exact fun x I=>Classical.not_not.1 (h x I)
 have nj:∀ x,l[f]?=aa x→¬ c p x<0:=by
  rcases L with h | h
  ·omega
  ·exact h
 have i3:J≠f:=by
  rintro rfl;have I:=By (l:=l) (i:=J) (by omega);exact nj _ I (ni _ I)
 obtain⟨x5,y5,H5,H6,-,-,i1,j1,l1,l2,w1,w2,s1,j2,s2,r5,f5⟩:=g.ic (A u) (B.trans hn) (i:=J) (j:=f) (by omega) (by omega);apply ai;simp [w,O,U,i1,j1,l1,l2,w1,w2,s1,j2,s2,-ay,-bu];apply ai;simp [O,aM (n:=(J:Int)+1)];refine au (.inl rfl) ?_;simp [U,aM (n:=(f:Int)-1)];exact ax (ih _ _ (by omega) ⟨J+1,f-1,_,H6,_,rfl,rfl,by omega,by omega,by omega,by simp [w],by simp [g1],by simp [g4],by simp,by simp;omega,y.trans f5,r5,
   u.trans (eS (by omega) (by omega) (by omega) (by omega) (by omega)),N.swap (by omega) (by omega) (by omega) ni nj⟩)
end
end Km
namespace Km
open Go
section
variable{tab:TB}{σ:gw}{sz:Nat}{cv:V}{W:List FC→Prop}{c:List FC→List FC→Int}
def zK(c:List FC→List FC→Int)(a e:Nat)(l:List (List FC)):Prop:=∀ k,0<a→a≤k→k<e→je c l (a-1) k
theorem zK.tu{a e a' b:Nat}{l l':List (List FC)}(h:zK c a e l)(d:ez a' b l l')(h1:a≤a')(h2:b≤e)(v:a'≤b)(hl:b≤l.length):zK c a e l':=by
 intro k h0 m q x y g hy;rw [d.lt (by omega)]at g;by_cases s:k<a'
 ·rw [d.lt s]at hy;exact h k h0 m q x y g hy
 by_cases u:b≤k
 ·rw [d.ge u]at hy;exact h k h0 m q x y g hy
 obtain⟨j,A,B,z⟩:=d.mem v hl (by omega) (by omega) hy;exact h j h0 (by omega) (by omega) x y g z
theorem zK.mono{a e b:Nat}{l:List (List FC)}(h:zK c a e l)(g:b≤e):zK c a b l:=fun k h0 d j=>h k h0 d (by omega)
theorem Ik{n a e i ep b:Nat}{rows:List (List FC)}{H0:an}{eo:V}{k:List cD}{Q:Option av→St→Prop}(U:Cv tab cv W c)(hc:tv W c)(hn:rows.length=n)(hl:n≤1000000000)(hg:bK sz rows)(Y:∀ r ∈ rows,W r)
  {t:T} {H:an} (a7:a<i) (a_:i≤e) (a8:e≤n) (u:Up c a i rows)
  (I:t.g 0=.c (.sl b 0 n 0 ep sz)) (L:t.g 1=vi a) (B:t.g 2=vi e) (K:t.g 3=cv) (A:t.g 9=vi i) (M:t.g 10=eo) (l:Fm b H0 H) (g:RB H b sz ep rows)
  (next:∀(t:T) (H:an) (E:Nat),(i≤E∧E≤e)→Up c a E rows→(E=e∨∀ x y,rows[E]?=aa x→rows[E-1]?=aa y→c x y<0) →
   t.g 0=.c (.sl b 0 n 0 ep sz)→t.g 1=vi a→t.g 2=vi e→t.g 3=cv→t.g 9=vi E→t.g 10=eo→Fm b H0 H→RB H b sz ep rows→WP tab σ.pins ab k ⟨t,[],H⟩ Q) :
  WP tab σ.pins ab (.code (B9 sz)::k) ⟨t,[],H⟩ Q:=by
 refine az ?_;refine bJ (fun m s=>∃(q:Nat) (t:T) (S:an),s=⟨t,[],S⟩∧(q+m=e∧i≤q)∧Up c a q rows ∧
   t.g 0=.c (.sl b 0 n 0 ep sz)∧t.g 1=vi a∧t.g 2=vi e∧t.g 3=cv∧t.g 9=vi q∧t.g 10=eo∧Fm b H0 S∧RB S b sz ep rows) (e-i)
  ⟨i,_,H,rfl,by omega,u,I,L,B,K,A,M,l,g⟩ ?_
 rintro m s ⟨q,t,S,rfl,hm,u,I,L,B,K,A,M,l,g⟩ ih;apply aq;apply ai;by_cases X:q<e
 case neg=>
  simp [A,B,X];refine aG (by simp) ?_;refine bw (k':=k) rfl ?_;exact next _ _ q (by omega) u (.inl (by omega)) (by simp [I]) (by simp [L]) (by simp [B]) (by simp [K]) (by simp [A]) (by simp [M]) l g
 obtain⟨d,rfl⟩:∃ d,q=d+1:=⟨q-1,by omega⟩
 obtain⟨x,y,F,ar,J,hx,hy,i1,j1,l1,l2,N,he,-,-⟩:=g.ask hg U Y hn (i:=d+1) (j:=d) (by omega) (by omega);have c1:((d+1:Nat):Int)=(d:Int)+1:=by omega
 have O:(d:Int)+1<(e:Int):=by omega
 rw [c1]at i1 A;simp [A,B,O,I,K,i1,j1,l1,l2,N,he,-ay,aM (n:=(d:Int))];by_cases v:c x y<0
 case pos=>
  refine aG (by simp [v]) ?_;refine bw (k':=k) rfl ?_;refine next _ _ (d+1) (by omega) u (.inr fun z w hz Z=>?_) (by simp [I]) (by simp [L]) (by simp [B]) (by simp [K]) (by simp [A]) (by simp [M]) (l.trans (Fm.push _ _)) (g.push _)
  rw [hx]at hz;cases hz;rw [show d+1-1=d by omega,hy]at Z;cases Z;exact v
 refine aw (by simp [v]) (aP ?_);refine az (au (.inl rfl) ?_);simp [A,aM (n:=(d:Int)+1+1)];refine ax (ih (m-1) _ (by omega) ⟨d+1+1,_,_,rfl,by omega,?_,by simp [I],by simp [L],by simp [B],by simp [K],by simp,by simp [M],l.trans (Fm.push _ _),g.push _⟩);exact(Bn.start u).stop hc Y (by omega) (ai8 _) (by omega) (je.of_le hy hx v)
theorem Ij{n a e i j ep b:Nat}{rows:List (List FC)}{H0:an}{eo:V}{k:List cD}{Q:Option av→St→Prop}(a_:Cv tab cv W c)(hc:tv W c)(hn:rows.length=n)(hl:n≤1000000000)(hg:bK sz rows)(hW:∀ r ∈ rows,W r)
  {t:T} {H:an} (X:a≤j) (K:j=i) (d9:i<e) (c_:e≤n) (a7:zK c a e rows) (q:Bn c a i j rows)
  (E:t.g 0=.c (.sl b 0 n 0 ep sz)) (N:t.g 1=vi a) (O:t.g 2=vi e) (M:t.g 3=cv) (S:t.g 9=vi (i+1:Nat)) (U:t.g 10=eo) (A:t.g 11=vi j) (z:Fm b H0 H) (u:RB H b sz ep rows)
  (next:∀(t:T) (H:an) (l:List (List FC)),ez a e rows l→Up c a (i+1) l →
   t.g 0=.c (.sl b 0 n 0 ep sz)→t.g 1=vi a→t.g 2=vi e→t.g 3=cv→t.g 9=vi (i+1:Nat)→t.g 10=eo→Fm b H0 H→RB H b sz ep l→WP tab σ.pins ab k ⟨t,[],H⟩ Q) :
  WP tab σ.pins ab (.code (B' sz)::k) ⟨t,[],H⟩ Q:=by
 refine az ?_;refine bJ (fun m s=>∃(j:Nat) (t:T) (H1:an) (l:List (List FC)),s=⟨t,[],H1⟩∧j=m∧a≤j∧j≤i∧t.g 0=.c (.sl b 0 n 0 ep sz)∧t.g 1=vi a∧t.g 2=vi e∧t.g 3=cv∧t.g 9=vi (i+1:Nat)∧t.g 10=eo∧t.g 11=vi j ∧
   Fm b H0 H1∧RB H1 b sz ep l∧ez a e rows l∧Bn c a i j l) j
  ⟨j,_,H,rows,rfl,rfl,X,by omega,E,N,O,M,S,U,A,z,u,ez.refl _ _ _,q⟩ ?_
 rintro m s ⟨j,t,H1,l,rfl,rfl,X,K,E,N,O,M,S,U,A,z,u,g,q⟩ ih;have B:=g.len;have Z:=g.qM hg;have I:∀ r ∈ l,W r:=fun r hr=>hW r (g.1.mem_iff.1 hr);have L:zK c a e l:=a7.tu g (ai8 _) (ai8 _) (by omega) (by omega);apply aq;apply ai;by_cases c9:j=0
 ·subst c9;obtain rfl:a=0:=by omega
  simp [A];refine aG (by simp) ?_;refine bw (k':=k) rfl ?_;exact next _ _ l g q.front (by simp [E]) (by simp [N]) (by simp [O]) (by simp [M]) (by simp [S]) (by simp [U]) z u
 obtain⟨d,rfl⟩:∃ d,j=d+1:=⟨j-1,by omega⟩
 obtain⟨x,y,F,ar,J,hx,hy,i1,j1,l1,l2,Y,he,-,-⟩:=u.ask Z a_ I (B.trans hn) (i:=d+1) (j:=d) (by omega) (by omega);have c1:((d+1:Nat):Int)=(d:Int)+1:=by omega
 have b_:(1:Int)≤(d:Int)+1:=by omega
 rw [c1]at i1 A;simp [A,b_];refine aw (by simp) (aP ?_);apply aq;refine az ?_;apply aq;apply ai;simp [A,E,M,i1,j1,l1,l2,Y,he,-ay,aM (n:=(d:Int))];by_cases v:c x y<0
 case neg=>
  refine aw (by simp [v]) ?_;refine bw (k':=k) rfl ?_;refine next _ _ l g ?_ (by simp [E]) (by simp [N]) (by simp [O]) (by simp [M]) (by simp [S]) (by simp [U]) (z.trans (Fm.push _ _)) (u.push _)
  by_cases ha:d+1=a
  ·subst ha;exact q.front
  ·exact q.stop hc I (by omega) K (by omega) (je.of_le hy hx v)
 have a8:a≤d:=by
  rcases ajz d a with h | h
  ·obtain rfl:a=d+1:=by omega
   exact absurd v (L (d+1) (by omega) (ai8 _) (by omega) y x (by simpa using hy) hx)
  ·exact h
 refine a6 (by simp [v]) ?_;obtain⟨x5,y5,H5,H6,-,-,i5,j5,l5,l6,w5,w6,s5,j6,s6,r6,f6⟩:=(u.push J).ic Z (B.trans hn) (i:=d+1) (j:=d) (by omega) (by omega);rw [c1]at i5;refine au (.inl rfl) ?_;simp [E,A,i5,j5,l5,l6,w5,w6,s5,j6,s6,-ay,-bu,aM (n:=(d:Int))];refine ax ?_;refine au (.inl rfl) ?_;simp [A,aM (n:=(d:Int))];exact ih d _ (by omega) ⟨d,_,H6,ic l (d+1) d,rfl,rfl,a8,by omega,by simp [E],by simp [N],by simp [O],by simp [M],by simp [S],by simp [U],by simp,(z.trans (Fm.push _ _)).trans f6,r6,
  g.trans (eS (by omega) (by omega) (by omega) (by omega) (by omega)),q.step hc I (by omega) K (by omega) hx hy v⟩
theorem AL{n a e i ep b:Nat}{rows:List (List FC)}{H0:an}{eo:V}{k:List cD}{Q:Option av→St→Prop}(Z:Cv tab cv W c)(hn:rows.length=n)(hl:n≤1000000000)(hg:bK sz rows)(hW:∀ r ∈ rows,W r)
  {t:T} {H:an} (a_:i<e) (a7:e≤n)
  (B:t.g 0=.c (.sl b 0 n 0 ep sz)) (K:t.g 1=vi a) (E:t.g 2=vi e) (I:t.g 3=cv) (L:t.g 9=vi i) (M:t.g 10=eo) (z:t.g 12=vi (i+1:Nat)) (u:Fm b H0 H) (q:RB H b sz ep rows)
  (next:∀(t:T) (H:an) (l:List (List FC)),ez i e rows l →
   t.g 0=.c (.sl b 0 n 0 ep sz)→t.g 1=vi a→t.g 2=vi e→t.g 3=cv→t.g 9=vi i→t.g 10=eo→Fm b H0 H→RB H b sz ep l→WP tab σ.pins ab k ⟨t,[],H⟩ Q) :
  WP tab σ.pins ab (.code (Ca sz)::k) ⟨t,[],H⟩ Q:=by
 refine az ?_;refine bJ (fun m s=>∃(d:Nat) (t:T) (U:an) (l:List (List FC)),s=⟨t,[],U⟩∧d+1+m=e∧i≤d∧t.g 0=.c (.sl b 0 n 0 ep sz)∧t.g 1=vi a∧t.g 2=vi e∧t.g 3=cv∧t.g 9=vi i∧t.g 10=eo∧t.g 12=vi (d+1:Nat) ∧
   Fm b H0 U∧RB U b sz ep l∧ez i e rows l) (e-(i+1))
  ⟨i,_,H,rows,rfl,by omega,ai8 _,B,K,E,I,L,M,z,u,q,ez.refl _ _ _⟩ ?_
 rintro m s ⟨d,t,U,l,rfl,hm,a8,B,K,E,I,L,M,z,u,q,g⟩ ih;have A:=g.len;have S:=g.qM hg;have Y:∀ r ∈ l,W r:=fun r hr=>hW r (g.1.mem_iff.1 hr);have X:((d+1:Nat):Int)=(d:Int)+1:=by omega
 rw [X]at z;apply aq;apply ai;by_cases b_:d+1<e
 case neg=>
  have v:¬ ((d:Int)+1<(e:Int)):=by omega
  simp [z,E,v];refine aG (by simp) ?_;refine bw (k':=k) rfl ?_;exact next _ _ l g (by simp [B]) (by simp [K]) (by simp [E]) (by simp [I]) (by simp [L]) (by simp [M]) u q
 have v:(d:Int)+1<(e:Int):=by omega
 simp [z,E,v];refine aw (by simp) (aP ?_);obtain⟨x,y,F,ar,J,hx,hy,i1,j1,l1,l2,O,he,-,-⟩:=q.ask S Z Y (A.trans hn) (i:=d+1) (j:=d) (by omega) (by omega);rw [X]at i1;apply aq;refine az ?_;apply aq;apply ai;simp [z,B,I,i1,j1,l1,l2,O,he,-ay,aM (n:=(d:Int))];by_cases N:c x y<0
 case neg=>
  refine aw (by simp [N]) ?_;refine bw (k':=k) rfl ?_;exact next _ _ l g (by simp [B]) (by simp [K]) (by simp [E]) (by simp [I]) (by simp [L]) (by simp [M]) (u.trans (Fm.push _ _)) (q.push _)
 refine a6 (by simp [N]) ?_;obtain⟨x5,y5,H5,H6,-,-,i5,j5,l5,l6,w5,w6,s5,j6,s6,r6,f6⟩:=(q.push J).ic S (A.trans hn) (i:=d+1) (j:=d) (by omega) (by omega);rw [X]at i5;refine au (.inl rfl) ?_;simp [B,z,i5,j5,l5,l6,w5,w6,s5,j6,s6,-ay,-bu,aM (n:=(d:Int))];refine ax ?_;refine au (.inl rfl) ?_;simp [z,aM (n:=(d:Int)+1+1)];exact ih (m-1) _ (by omega) ⟨d+1,_,H6,ic l (d+1) d,rfl,by omega,by omega,by simp [B],by simp [K],by simp [E],by simp [I],by simp [L],by simp [M],by simp,(u.trans (Fm.push _ _)).trans f6,r6,
  g.trans (eS (by omega) (by omega) (by omega) (by omega) (by omega))⟩
theorem Zz{H:an}{rows:List (List FC)}{n a e b ep:Nat}(hT:tab σ.pins=aa (AK σ sz))(a7:Cv tab cv W c)(hc:tv W c)(hn:rows.length=n)(hl:n≤1000000000)(v:RB H b sz ep rows)(hg:bK sz rows)(hW:∀ r ∈ rows,W r)(h_:a<e)(a8:e≤n)(c9:zK c a e rows) :
  ∃ r H',Ev tab (.fn σ.pins) [.c (.sl b 0 n 0 ep sz),vi a,vi e,cv] H r H'∧((∃ w:Bool,r=vb w∧Fm b H H'∧∃ l',RB H' b sz ep l'∧ez a e rows l'∧(w=ae→Up c a e l'))):=by
 refine cM hT rfl fun Q hQ=>?_;apply ai;simp;apply ai;simp [aM (n:=(a:Int)+1)];apply aq;apply ai;simp;refine az ?_;refine bJ (fun m s=>∃(i g:Nat) (t:T) (H1:an) (l:List (List FC)),s=⟨t,[],H1⟩∧g+m=5∧a<i∧i≤e∧t.g 0=.c (.sl b 0 n 0 ep sz)∧t.g 1=vi a∧t.g 2=vi e∧t.g 3=cv∧t.g 9=vi i∧t.g 10=vi g ∧
   Fm b H H1∧RB H1 b sz ep l∧ez a e rows l∧Up c a i l) 5
  ⟨a+1,0,_,H,rows,rfl,rfl,by omega,by omega,by simp,by simp,by simp,by simp,by simp,by simp,Fm.refl H,v,ez.refl _ _ _,Up.one (by omega)⟩ ?_
 rintro m s ⟨i,g,t,H1,l,rfl,hm,c_,d9,I,F,E,M,A,J,z,v,u,B⟩ ih;apply aq;apply ai;simp [J];by_cases h5:g<5
 case neg=>
  have Z:¬ ((g:Int)<5):=by omega
  refine aG (by simp [Z]) ?_;refine bw (k':=[.code (qW)]) rfl ?_;apply ai;simp;exact aF (hQ _ _ (vb ag) rfl (by simp [Km.results,aZ]) ⟨ag,rfl,z,l,v,u,fun h=>nomatch h⟩)
 have Z:(g:Int)<5:=by omega
 refine aw (by simp [Z]) (aP ?_);apply aq;refine az ?_;apply aq;have L:=u.len;have K:∀ {l},ez a e rows l→bK sz l:=fun h=>h.qM hg;have U:∀ {l},ez a e rows l→∀ r ∈ l,W r:=fun h r hr=>hW r (h.1.mem_iff.1 hr);refine Ik a7 hc (L.trans hn) hl (K u) (U u) (H0:=H) c_ d9 a8 B (by simp [I]) (by simp [F]) (by simp [E]) (by simp [M]) (by simp [A]) (by simp [J];rfl) z v ?_;intro t H2 i' hi B a_ I F E M A J z v;apply aq;apply ai;simp [A,E];by_cases Y:i'=e
 ·subst Y;refine aw (by simp) ?_;apply ai;simp;exact aF (hQ _ _ (vb ae) rfl (by simp [Km.results,aZ]) ⟨ae,rfl,z,l,v,u,fun _=>B⟩)
 refine a6 (by simp [Y]) ?_;apply aq;apply ai;simp [F,E,aM (n:=(e:Int)-a)];by_cases g_:(e:Int)-a<50
 ·refine aw (by simp;omega) ?_;apply ai;simp;exact aF (hQ _ _ (vb ag) rfl (by simp [Km.results,aZ]) ⟨ag,rfl,z,l,v,u,fun h=>nomatch h⟩)
 refine aG (by simp;omega) (aP ?_);obtain⟨d,rfl⟩:∃ d,i'=d+1:=⟨i'-1,by omega⟩
 have c1:((d+1:Nat):Int)=(d:Int)+1:=by omega
 obtain⟨x5,y5,H5,H6,e_,f7,i5,j5,l5,l6,w5,w6,s5,j6,s6,r6,f6⟩:=v.ic (K u) (L.trans hn) (i:=d+1) (j:=d) (by omega) (by omega);have f_:c x5 y5<0:=by
  rcases a_ with h | h
  ·omega
  ·exact h x5 y5 e_ (by simpa using f7)
 have N:ez a e rows (ic l (d+1) d):=u.trans (eS (by omega) (by omega) (by omega) (by omega) (by omega));rw [c1]at i5 A;apply ai;simp [I,A,i5,j5,l5,l6,w5,w6,s5,j6,s6,-ay,-bu,aM (n:=(d:Int))];have b_:∀(t:T) (O:an) (S:List (List FC)),t.g 0=.c (.sl b 0 n 0 ep sz)→t.g 1=vi a→t.g 2=vi e→t.g 3=cv→t.g 9=vi (d+1:Nat)→t.g 10=vi g→Fm b H O→RB O b sz ep S→ez a e rows S→Up c a (d+1) S →
   WP tab σ.pins ab [.inBlock 1,.code (wz),.inLoop (AJ sz),.inBlock 0,.code (qW)] ⟨t,[],O⟩ Q:=by
  intro t O S I F E M A J z v u B;refine ax (au (.inl rfl) ?_);simp [J,aM (n:=(g:Int)+1)];exact ih (m-1) _ (by omega) ⟨d+1,g+1,_,O,S,rfl,by omega,by omega,by omega,by simp [I],by simp [F],by simp [E],by simp [M],by simp [A],by simp,z,v,u,B⟩
 have right:∀(t:T) (O:an) (S:List (List FC)),t.g 0=.c (.sl b 0 n 0 ep sz)→t.g 1=vi a→t.g 2=vi e→t.g 3=cv→t.g 9=vi (d+1:Nat)→t.g 10=vi g→Fm b H O→RB O b sz ep S→ez a e rows S→Up c a (d+1) S →
   WP tab σ.pins ab [.code (B_ sz),.inBlock 1,.code (wz),.inLoop (AJ sz),.inBlock 0,.code (qW)] ⟨t,[],O⟩ Q:=by
  intro t O S I F E M A J z v u B;have L:=u.len;rw [c1]at A;apply aq;refine au (.inl rfl) ?_;simp [A,E,aM (n:=(e:Int)-((d:Int)+1))];by_cases h2:(2:Int)≤(e:Int)-((d:Int)+1)
  case neg=>
   refine aG (by simp;omega) (aP ?_);exact b_ _ O S (by simp [I]) (by simp [F]) (by simp [E]) (by simp [M]) (by simp [A]) (by simp [J]) z v u B
  refine aw (by simp;omega) ?_;apply ai;simp [A,aM (n:=(d:Int)+1+1)];refine AL a7 (L.trans hn) hl (K u) (U u) (H0:=H) (a:=a) (i:=d+1) (e:=e) (eo:=vi g) (by omega) a8 (by simp [I]) (by simp [F]) (by simp [E]) (by simp [M]) (by simp [A]) (by simp [J]) (by simp) z v ?_;intro t H4 l4 X I F E M A J z v;exact b_ t H4 l4 I F E M A J z v (u.trans (X.mono (by omega) (ai8 _))) (B.of fun k _ hk=>X.lt hk)
 apply aq;apply ai;simp [A,F,aM (n:=(d:Int)+1-a)];by_cases h2:(2:Int)≤(d:Int)+1-a
 case neg=>
  refine aG (by simp;omega) (aP ?_);exact right _ H6 _ (by simp [I]) (by simp [F]) (by simp [E]) (by simp [M]) (by simp [A]) (by simp [J]) (z.trans f6) r6 N (Up.one (by omega))
 refine aw (by simp;omega) ?_;apply ai;simp [A,aM (n:=(d:Int))];have d_:=N.len;refine Ij a7 hc (d_.trans hn) hl (K N) (U N) (H0:=H) (a:=a) (i:=d) (j:=d) (e:=e) (eo:=vi g) (by omega) rfl (by omega) a8 (c9.tu N (ai8 _) (ai8 _) (by omega) (by omega)) ?_ (by simp [I]) (by simp [F]) (by simp [E]) (by simp [M]) (by simp [A]) (by simp [J]) (by simp) (z.trans f6) r6 ?_
 ·intro p q h1 h2 h3 h4;have g:∀ k,k<d→(ic l (d+1) d)[k]?=l[k]?:=fun k hk=>by rw [gm (by omega) (by omega),aR (by omega),aR (by omega)]
  exact je.get (fun x y=>B p q x y h1 h2 (by omega)) (g p (by omega)) (g q (by omega))
 intro t H4 l4 X f8 I F E M A J z v;exact right t H4 l4 I F E M A J z v (N.trans X) f8
end
end Km
namespace Km
open Go
def rv(i ch:Nat):Prop:=ch=2*i+1∨ch=2*i+2
def Hp(c:List FC→List FC→Int)(f h k:Nat)(l:List (List FC)):Prop:=∀ i ch,k≤i→rv i ch→ch<h→je c l (f+ch) (f+i)
def QY(c:List FC→List FC→Int)(f h k r:Nat)(l:List (List FC)):Prop:=
 (∀ i ch,k≤i→i≠r→rv i ch→ch<h→je c l (f+ch) (f+i))∧∀ i ch,k≤i→rv i r→rv r ch→ch<h→je c l (f+ch) (f+i)
section
variable{W:List FC→Prop}{c:List FC→List FC→Int}{l:List (List FC)}
theorem Hp.x{f h k:Nat}(h1:Hp c f h (k+1) l):QY c f h k k l:=
 ⟨fun i ch a b d e=>h1 i ch (by omega) d e,fun i ch a b d e=>by unfold rv at b;omega⟩
theorem QY.leaf{f h k r:Nat}(g:QY c f h k r l)(j:h≤2*r+1):Hp c f h k l:=fun i ch a b d=>by
 by_cases e:i=r
 ·subst e;unfold rv at b;omega
 ·exact g.1 i ch a e b d
theorem QY.stop{f h k r ch:Nat}(hc:tv W c)(m:∀ r ∈ l,W r)(u:QY c f h k r l)(hl:f+h≤l.length)(v:rv r ch)(s:ch<h)(g:∀ q,rv r q→q<h→je c l (f+q) (f+ch))(j:je c l (f+ch) (f+r)):Hp c f h k l:=fun i q a b d=>by
 by_cases e:i=r
 ·subst e;exact(g q b d).trans hc m j (by omega)
 ·exact u.1 i q a e b d
theorem QY.step{f h k r ch:Nat}(hc:tv W c)(I:∀ r ∈ l,W r)(A:QY c f h k r l)(hl:f+h≤l.length)(J:k≤r)(v:rv r ch)(z:ch<h)(j:∀ q,rv r q→q<h→je c l (f+q) (f+ch)){x y:List FC}(B:l[f+r]?=aa x)(F:l[f+ch]?=aa y)(E:c x y<0) :
  QY c f h k ch (ic l (f+r) (f+ch)):=by
 have K:r<ch:=by unfold rv at v;omega
 have g:∀ q,(ic l (f+r) (f+ch))[f+q]?=if q=ch then l[f+r]? else if q=r then l[f+ch]? else l[f+q]?:=fun q=>by
  rw [gm (by omega) (by omega)];by_cases H:q=ch
  ·subst H;simp
  rw [aR (by omega),aR H];by_cases d:q=r
  ·subst d;simp
  rw [aR (by omega),aR d]
 refine⟨fun i q hi m s b=>?_,fun i q hi h1 h2 b=>?_⟩
 ·by_cases e:i=r
  ·subst e;by_cases d:q=ch
   ·subst d;exact(je.of_lt hc I B F E).get (by rw [g,ba rfl]) (by rw [g,aR (by omega),ba rfl])
   ·exact(j q s b).get (by rw [g,aR d,aR (by unfold rv at s;omega)]) (by rw [g,aR (by omega),ba rfl])
  ·by_cases d:q=r
   ·subst d;exact(A.2 i ch hi s v z).get (by rw [g,aR (by omega),ba rfl]) (by rw [g,aR m,aR e])
   ·have u:q≠ch:=by unfold rv at s v;omega
    exact(A.1 i q hi e s b).get (by rw [g,aR u,aR d]) (by rw [g,aR m,aR e])
 ·have e:i=r:=by unfold rv at h1 v;omega
  subst e;have u:q≠ch∧q≠i:=by unfold rv at h2;omega
  exact(A.1 ch q (by omega) (by omega) h2 b).get (by rw [g,aR u.1,aR u.2]) (by rw [g,aR (by omega),ba rfl])
theorem je.self{i:Nat}(hc:tv W c)(b:∀ r ∈ l,W r):je c l i i:=fun x y d hy=>by
 rw [d]at hy;cases hy;have:=ajg d;intro q;exact hc.zR (b _ this) (b _ this) q q
theorem Hp.top{f h:Nat}(hc:tv W c)(b:∀ r ∈ l,W r)(g:Hp c f h 0 l)(hl:f+h≤l.length):∀ k,k<h→je c l (f+k) f:=by
 intro k;induction k using Nat.strongRecOn with
 | ind k j=>
  intro d;rcases aks k with rfl | h0
  ·exact je.self hc b
  ·have h1:=g ((k-1) / 2) k (by omega) (by unfold rv;omega) d;exact h1.trans hc b (j ((k-1) / 2) (by omega) (by omega)) (by omega)
def iI(c:List FC→List FC→Int)(f h j:Nat)(l:List (List FC)):Prop:=∀ p q,p<q→j≤q→q<h→je c l (f+p) (f+q)
theorem iI.swap{f h i:Nat}(hc:tv W c)(z:∀ r ∈ l,W r)(s:iI c f h (i+1) l)(y:Hp c f (i+1) 0 l)(hi:i<h)(hl:f+h≤l.length):iI c f h i (ic l f (f+i))∧QY c f i 0 0 (ic l f (f+i)):=by
 have g:∀ q,(ic l f (f+i))[f+q]?=if q=i then l[f]? else if q=0 then l[f+i]? else l[f+q]?:=fun q=>by
  rw [gm (by omega) (by omega)];by_cases j:q=i
  ·subst j;simp
  rw [aR (by omega),aR j];by_cases b:q=0
  ·subst b;simp
  rw [aR (by omega),aR b]
 refine⟨fun p q u E d=>?_,fun x ch _ B v A=>?_,fun x ch _ h1=>by unfold rv at h1;omega⟩
 ·have top:=y.top hc z (by omega);by_cases e:q=i
  ·subst e;by_cases b:p=0
   ·subst b;exact(top q (by omega)).get (by rw [g,aR (by omega),ba rfl]) (by rw [g,ba rfl])
   ·exact(top p (by omega)).get (by rw [g,aR (by omega),aR b]) (by rw [g,ba rfl])
  ·have m:(ic l f (f+i))[f+q]?=l[f+q]?:=by rw [g,aR e,aR (by omega)]
   by_cases j:p=i
   ·subst j;exact(s 0 q (by omega) (by omega) d).get (by rw [g,ba rfl,Nat.add_zero]) m
   by_cases b:p=0
   ·subst b;exact(s i q (by omega) (by omega) d).get (by rw [g,aR j,ba rfl]) m
   ·exact(s p q u (by omega) d).get (by rw [g,aR j,aR b]) m
 ·have h1:x<ch:=by unfold rv at v;omega
  have h2:ch≠0:=by omega
  exact(y x ch (by omega) v (by omega)).get (by rw [g,aR (by omega),aR h2]) (by rw [g,aR (by omega),aR B])
theorem iI.tu{f h i:Nat}{l':List (List FC)}(s:iI c f h i l)(g:ez f (f+i) l l')(hl:f+h≤l.length)(hi:i≤h):iI c f h i l':=by
 intro p q d u b x y m hy;rw [g.ge (by omega)]at hy;by_cases z:i≤p
 ·rw [g.ge (by omega)]at m;exact s p q d u b x y m hy
 obtain⟨j,A,B,v⟩:=g.mem (by omega) (by omega) (by omega) (by omega) m;have:=s (j-f) q (by omega) u b x y;rw [show f+(j-f)=j by omega]at this;exact this v hy
theorem iI.up{f h:Nat}(b:iI c f h 0 l):Up c f (f+h) l:=fun i j x y h1 h2 h3 d hy=>by
 have:=b (i-f) (j-f) (by omega) (by omega) (by omega) x y;rw [show f+(i-f)=i by omega,show f+(j-f)=j by omega]at this;exact this d hy
end
end Km
namespace Km
open Go
section
variable{tab:TB}{σ:gw}{sz:Nat}{H:an}{b ep:Nat}{rows:List (List FC)}{cv:V}{W:List FC→Prop}{c:List FC→List FC→Int}
theorem Cn(hT:tab σ.pX=aa (wH σ sz))(a8:Cv tab cv W c)(Z:tv W c){n lo h f:Nat}(hn:rows.length=n)(hl:n≤1000000000)(d:RB H b sz ep rows)(hg:bK sz rows)(hW:∀ r ∈ rows,W r)(b_:lo≤h)(c_:f+h≤n)(hx:QY c f h lo lo rows) :
  ∃ r H',Ev tab (.fn σ.pX) [.c (.sl b 0 n 0 ep sz),vi lo,vi h,vi f,cv] H r H'∧(r=.t []∧Fm b H H'∧∃ l',RB H' b sz ep l'∧ez f (f+h) rows l'∧Hp c f h lo l'):=by
 refine cM hT rfl fun Q hQ=>?_;apply ai;simp;refine az ?_;refine bJ (fun m s=>∃(r:Nat) (t:T) (H1:an) (l:List (List FC)),s=⟨t,[],H1⟩∧m=h-r∧lo≤r∧r≤h∧t.g 0=.c (.sl b 0 n 0 ep sz)∧t.g 2=vi h∧t.g 3=vi f∧t.g 4=cv∧t.g 10=vi r ∧
  Fm b H H1∧RB H1 b sz ep l∧ez f (f+h) rows l∧QY c f h lo r l) _
  ⟨lo,_,H,rows,rfl,rfl,by omega,b_,by simp,by simp,by simp,by simp,by simp,Fm.refl H,d,ez.refl _ _ _,hx⟩ ?_
 rintro m s ⟨r,t,H1,l,rfl,rfl,c9,d_,K,L,M,S,eo,z,d,g,hx⟩ ih;have B:=g.len;have X:=g.qM hg;have v:∀ r ∈ l,W r:=fun r hr=>hW r (g.1.mem_iff.1 hr);have cf:∀ q:Nat,((f+q:Nat):Int)=(f:Int)+q:=fun q=>by omega
 refine az ?_;apply ai;simp [eo,aM (n:=(2:Int)*r),aM (n:=(2:Int)*r+1)];apply aq;apply ai;simp [L];by_cases Y:h≤2*r+1
 ·refine aw (by simp;omega) ?_;refine bw (k':=[]) rfl ?_;exact dh (hQ _ _ _ rfl rfl ⟨rfl,z,l,d,g,hx.leaf Y⟩)
 refine aG (by simp;omega) (aP ?_);apply aq;have go:∀(t:T) (H2:an) (ch:Nat),rv r ch→ch<h→(∀ q,rv r q→q<h→je c l (f+q) (f+ch))→t.g 0=.c (.sl b 0 n 0 ep sz)→t.g 2=vi h→t.g 3=vi f→t.g 4=cv→t.g 10=vi r→t.g 11=vi ch→Fm b H H2→RB H2 b sz ep l →
   WP tab σ.pX ab [.code (Cm sz),.inBlock 1,.inLoop (Ta sz),.inBlock 0] ⟨t,[],H2⟩ Q:=by
  intro t H2 ch hk a7 N K L M S eo O z d;obtain⟨x,y,F,ar,J,E,I,i1,j1,l1,l2,A,he,-,-⟩:=d.ask X a8 v (B.trans hn) (i:=f+r) (j:=f+ch) (by omega) (by omega);rw [cf]at i1 j1;apply aq;apply ai;simp [K,M,S,eo,O,i1,j1,l1,l2,A,he,-ay,aM (n:=(f:Int)+r),aM (n:=(f:Int)+ch)];by_cases u:c x y<0
  case neg=>
   refine aw (by simp [u]) ?_;exact aF (hQ _ _ _ rfl rfl ⟨rfl,z.trans (Fm.push _ _),l,d.push _,g,hx.stop Z v (by omega) hk a7 N (je.of_le I E u)⟩)
  refine a6 (by simp [u]) ?_;obtain⟨x5,y5,H5,H6,-,-,i5,j5,l5,l6,w5,w6,s5,j6,s6,r6,f6⟩:=(d.push J).ic X (B.trans hn) (i:=f+r) (j:=f+ch) (by omega) (by omega);rw [cf]at i5 j5 j6;apply ai;simp [K,M,eo,O,i5,j5,l5,l6,w5,w6,s5,j6,s6,-ay,-bu,aM (n:=(f:Int)+r),aM (n:=(f:Int)+ch)];refine au (.inl rfl) ?_;simp [O];refine ax ?_;have d9:r<ch:=by unfold rv at hk;omega
  exact ih _ _ (by omega) ⟨ch,_,H6,_,rfl,rfl,by omega,by omega,by simp [K],by simp [L],by simp [M],by simp [S],by simp,(z.trans (Fm.push _ _)).trans f6,r6,
   g.trans (eS (by omega) (by omega) (by omega) (by omega) (by omega)),hx.step Z v (by omega) c9 hk a7 N E I u⟩
 apply aq;refine au (.inl rfl) ?_;by_cases h2:2*r+2<h
 case neg=>
  have U:¬ ((2:Int)*r+1+1<h):=by omega
  simp [L,U,aM (n:=(2:Int)*r+1+1)];refine a6 (by simp) ?_;refine go _ H1 (2*r+1) (.inl rfl) (by omega) (fun q hq a_=>?_) (by simp [K]) (by simp [L]) (by simp [M]) (by simp [S]) (by simp [eo]) (by simp) z d;have:q=2*r+1:=by unfold rv at hq;omega
  subst this;exact je.self Z v
 have U:((2:Int)*r+1+1<h):=by omega
 obtain⟨x,y,F,ar,J,E,I,i1,j1,l1,l2,A,he,-,-⟩:=d.ask X a8 v (B.trans hn) (i:=f+(2*r+1)) (j:=f+(2*r+2)) (by omega) (by omega);have e1:((f+(2*r+1):Nat):Int)=(f:Int)+(2*r+1):=by omega
 have e2:((f+(2*r+2):Nat):Int)=(f:Int)+(2*r+1)+1:=by omega
 rw [e1]at i1;rw [e2]at j1;simp [K,L,M,S,U,i1,j1,l1,l2,A,he,-ay,aM (n:=(2:Int)*r+1+1),aM (n:=(f:Int)+(2*r+1)),aM (n:=(f:Int)+(2*r+1)+1)];by_cases u:c x y<0
 ·refine aw (by simp [u]) ?_;refine au (.inl rfl) ?_;simp [aM (n:=(2:Int)*r+1+1)];refine go _ _ (2*r+2) (.inr rfl) (by omega) (fun q hq a_=>?_) (by simp [K]) (by simp [L]) (by simp [M]) (by simp [S]) (by simp [eo]) (by simp;omega) (z.trans (Fm.push _ _)) (d.push _);rcases hq with rfl | rfl
  ·exact je.of_lt Z v E I u
  ·exact je.self Z v
 ·refine a6 (by simp [u]) ?_;refine go _ _ (2*r+1) (.inl rfl) (by omega) (fun q hq a_=>?_) (by simp [K]) (by simp [L]) (by simp [M]) (by simp [S]) (by simp [eo]) (by simp) (z.trans (Fm.push _ _)) (d.push _);rcases hq with rfl | rfl
  ·exact je.self Z v
  ·exact je.of_le I E u
theorem Yk(hT:tab σ.heap=aa (Ae σ sz))(hS:tab σ.pX=aa (wH σ sz))(N:Cv tab cv W c)(Z:tv W c){n a e:Nat}(hn:rows.length=n)(hl:n≤1000000000)(u:RB H b sz ep rows)(hg:bK sz rows)(hW:∀ r ∈ rows,W r)(c_:a<e)(a8:e≤n) :
  ∃ r H',Ev tab (.fn σ.heap) [.c (.sl b 0 n 0 ep sz),vi a,vi e,cv] H r H'∧(r=.t []∧Fm b H H'∧∃ l',RB H' b sz ep l'∧ez a e rows l'∧Up c a e l'):=by
 obtain⟨h,rfl⟩:∃ h,e=a+h:=⟨e-a,by omega⟩
 have hw:IntKind.i64.wrap ((a:Int)+h-a)=h:=by rw [aM];omega
 have hq:bM .quo (vi ((h:Int)-1)) (vi 2)=aa (vi (((h-1) / 2:Nat):Int)):=by
  have:=ZD (a:=h-1) (b:=2) (by omega) (by omega);rwa [show((h-1:Nat):Int)=(h:Int)-1 by omega]at this
 refine cM hT rfl fun Q hQ=>?_;apply ai;simp;apply ai;simp;apply ai;simp [hw];have x:∀ {l},ez a (a+h) rows l→bK sz l:=fun h=>h.qM hg;have B:∀ {l},ez a (a+h) rows l→∀ r ∈ l,W r:=fun h r hr=>hW r (h.1.mem_iff.1 hr);apply aq;apply ai;simp [hq,aM (n:=(h:Int)-1)];refine az ?_;refine bJ (fun m s=>∃(t:T) (E:an) (l:List (List FC)),s=⟨t,[],E⟩∧m≤h∧t.g 0=.c (.sl b 0 n 0 ep sz)∧t.g 3=cv∧t.g 8=vi a∧t.g 9=vi 0∧t.g 10=vi h∧t.g 11=vi ((m:Int)-1) ∧
  Fm b H E∧RB E b sz ep l∧ez a (a+h) rows l∧Hp c a h m l) ((h-1) / 2+1)
  ⟨_,H,rows,rfl,by omega,by simp,by simp,by simp,by simp,by simp,by simp,Fm.refl H,u,ez.refl _ _ _,fun i ch h1 h2 h3=>by unfold rv at h2;omega⟩ ?_
 rintro m s ⟨t,E,l,rfl,b_,I,K,J,M,eo,F,y,u,g,O⟩ ih;have z:=g.len;apply aq;apply ai;simp [F];rcases aks m with rfl | a_
 case inr=>
  obtain⟨d,rfl⟩:∃ d,m=d+1:=⟨m-1,by omega⟩
  have X:((d+1:Nat):Int)-1=d:=by omega
  rw [X]at F;refine aw (by simp;omega) (aP ?_);obtain⟨r,U,L,rfl,Y,l2,r2,S,p2⟩:=Cn hS N Z (z.trans hn) hl u (x g) (B g) (lo:=d) (h:=h) (f:=a) (by omega) a8 O.x;apply aq;refine az (au (.inl rfl) ?_);simp [I,K,J,eo,F,L.eq];refine ax (au (.inl rfl) ?_);simp [F,aM (n:=(d:Int)-1)];exact ih d _ (by omega) ⟨_,U,l2,rfl,by omega,by simp [I],by simp [K],by simp [J],by simp [M],by simp [eo],by simp,y.trans Y,r2,g.trans S,p2⟩
 refine aG (by simp) ?_;refine bw (k':=[.code (BL σ sz)]) rfl ?_;apply ai;simp [eo,aM (n:=(h:Int)-1)];refine az ?_;refine bJ (fun m s=>∃(t:T) (E:an) (l:List (List FC)),s=⟨t,[],E⟩∧m≤h∧t.g 0=.c (.sl b 0 n 0 ep sz)∧t.g 3=cv∧t.g 8=vi a∧t.g 9=vi 0∧t.g 12=vi ((m:Int)-1) ∧
  Fm b H E∧RB E b sz ep l∧ez a (a+h) rows l∧Hp c a m 0 l∧iI c a h m l) h
  ⟨_,E,l,rfl,by omega,by simp [I],by simp [K],by simp [J],by simp [M],by simp,y,u,g,O,fun p q h1 h2 h3=>by omega⟩ ?_
 rintro m s ⟨t,E,l,rfl,b_,I,K,J,M,v,y,u,g,O,hd⟩ ih;have z:=g.len;apply aq;apply ai;simp [v];rcases aks m with rfl | a_
 ·refine aG (by simp) ?_;refine bw (k':=[]) rfl ?_;exact dh (hQ _ _ _ rfl rfl ⟨rfl,y,l,u,g,hd.up⟩)
 obtain⟨d,rfl⟩:∃ d,m=d+1:=⟨m-1,by omega⟩
 have X:((d+1:Nat):Int)-1=d:=by omega
 rw [X]at v;refine aw (by simp;omega) (aP ?_);obtain⟨x5,y5,H5,H6,-,-,i5,j5,l5,l6,w5,w6,s5,j6,s6,r6,f6⟩:=u.ic (x g) (z.trans hn) (i:=a) (j:=a+d) (by omega) (by omega);have ce:((a+d:Nat):Int)=(a:Int)+d:=by omega
 rw [ce]at j5 j6;obtain⟨a7,c9⟩:=hd.swap Z (B g) O (by omega) (by omega);have A:ez a (a+h) rows (ic l a (a+d)):=g.trans (eS (by omega) (by omega) (by omega) (by omega) (by omega));obtain⟨r,U,L,rfl,Y,l2,r2,S,p2⟩:=Cn hS N Z (A.len.trans hn) hl r6 (x A) (B A) (lo:=0) (h:=d) (f:=a) (by omega) (by omega) c9;have L:=L.eq;simp at L;apply aq;refine az ?_;apply ai;simp [I,J,v,i5,j5,l5,l6,w5,w6,s5,j6,s6,-ay,-bu,aM (n:=(a:Int)+d)];refine au (.inl rfl) ?_;simp [I,K,J,M,v,L];refine ax (au (.inl rfl) ?_);simp [v,aM (n:=(d:Int)-1)];exact ih d _ (by omega) ⟨_,U,l2,rfl,by omega,by simp [I],by simp [K],by simp [J],by simp [M],by simp,(y.trans f6).trans Y,r2,A.trans (S.mono (ai8 _) (by omega)),p2,
  a7.tu S (by rw [A.len];omega) (by omega)⟩
end
end Km
namespace Km
open Go
abbrev vu(n:Int):V:=.c (.f (.int .u64 n))
def NU(H:an)(p:Nat):Prop:=∃ k:Int,H[p]?=aa (.box [.f (.int .u64 k)] 0)
theorem ag5{a b:Int}(d:0≤b):bM .shl (vu a) (vu b)=aa (vu (IntKind.wrap .u64 (a*2 ^ (min b.toNat 64)))):=by
 simp only [bM,aR (show¬ b<0 by omega)];rfl
theorem ag6{a b:Int}(d:0≤b):bM .shr (vu a) (vu b)=aa (vu (a.fdiv (2 ^ (min b.toNat 64)))):=by
 simp only [bM,aR (show¬ b<0 by omega)];rfl
theorem ahh{a b:Int}:bM .xor (vu a) (vu b)=aa (vu (IntKind.wrap .u64 (BitVec.ofInt 64 a ^^^ BitVec.ofInt 64 b).toNat)):=by
 simp only [bM,ky,if_true];rfl
theorem vw(n:Int):IntKind.wrap .u64 n=n % 18446744073709551616:=rfl
theorem Rd{x:Int}{k:Nat}(j:k≤62):∃ o:Nat,o<2 ^ k∧bM .and (vu x) (vu ((2:Int) ^ k-1))=aa (vu o):=by
 have l:(2:Nat) ^ k≤2 ^ 62:=alq (by omega) j;have g:(2:Nat) ^ 62=4611686018427387904:=by decide
 have b:0<(2:Nat) ^ k:=Nat.pow_pos (by omega);have e:BitVec.ofInt 64 ((2:Int) ^ k-1)=BitVec.ofNat 64 (2 ^ k-1):=by
  have:((2:Int) ^ k-1)=((2 ^ k-1:Nat):Int):=by
   rw [Int.ofNat_sub b];simp
  rw [this,BitVec.ofInt_natCast]
 refine⟨(BitVec.ofInt 64 x).toNat % 2 ^ k,Nat.mod_lt _ b,?_⟩;have d:(BitVec.ofInt 64 x &&& BitVec.ofInt 64 ((2:Int) ^ k-1)).toNat=(BitVec.ofInt 64 x).toNat % 2 ^ k:=by
  rw [e,BitVec.toNat_and,BitVec.toNat_ofNat,Nat.mod_eq_of_lt (a:=2 ^ k-1) (by omega),Nat.and_two_pow_sub_one_eq_mod]
 have m:(BitVec.ofInt 64 x).toNat % 2 ^ k<2 ^ k:=Nat.mod_lt _ b;simp only [bM,ky,if_true];show aa (vu (IntKind.wrap .u64 ((BitVec.ofInt 64 x &&& BitVec.ofInt 64 ((2:Int) ^ k-1)).toNat)))=_;rw [d,vw,akj (by omega) (by omega)]
section
variable{tab:TB}{σ:gw}{sz:Nat}{H:an}{b ep:Nat}{rows:List (List FC)}{cv:V}{W:List FC→Prop}{c:List FC→List FC→Int}
theorem NU.fm{p b:Nat}{H H':an}(h:NU H p)(d:Fm b H H')(e:p≠b):NU H' p:=by
 obtain⟨k,h⟩:=h;exact⟨k,d.get h e⟩
theorem Fm.far{p b:Nat}{H d g:an}(h:Fm b H d)(q:H.length≤p)(m:Fm p d g):Fm b H g:=
 ⟨ajw h.1 m.1,fun j n l=>(m.2 j (by omega) (aj5 l h.1)).trans (h.2 j n l)⟩
theorem aao(a:Int)(b:Int)(d:0≤b):∃ v,bM .shl (.c (.f (.int .u64 a))) (.c (.f (.int .u64 b)))=aa (.c (.f (.int .u64 v))):=⟨_,ag5 d⟩
theorem ag7(a:Int)(b:Int)(d:0≤b):∃ v,bM .shr (.c (.f (.int .u64 a))) (.c (.f (.int .u64 b)))=aa (.c (.f (.int .u64 v))):=⟨_,ag6 d⟩
theorem Tz(a b:Int):∃ v,bM .xor (.c (.f (.int .u64 a))) (.c (.f (.int .u64 b)))=aa (.c (.f (.int .u64 v))):=⟨_,ahh⟩
theorem acw(X:tab σ.Sn=aa (yZ σ sz)){p:Nat}(s:NU H p) :
  ∃ r H',Ev tab (.fn σ.Sn) [.c (.ptr p 0 0)] H r H'∧((∃ k:Int,r=vu k)∧Fm p H H'∧NU H' p):=by
 obtain⟨k,s⟩:=s;have x:=aj s;have j:∀(H:an) (k:Int),p<H.length→(H.set p (.box [.f (.int .u64 k)] 0))[p]?=aa (.box [.f (.int .u64 k)] 0):=fun H k h=>If h;refine cM X rfl fun Q W=>?_;apply ai;simp;obtain⟨a1,L⟩:=aao k 13 (by omega);obtain⟨m,M⟩:=Tz k a1;apply ai;simp [s,L,M];obtain⟨u,b⟩:=aL (H.set p (.box [.f (.int .u64 m)] 0));rw [←b];have z:u[p]?=aa (.box [.f (.int .u64 m)] 0):=by rw [b];exact j _ _ x
 have I:Fm p H u:=by rw [b];exact Fm.set _ _
 obtain⟨E,N⟩:=ag7 m 7 (by omega);obtain⟨q,O⟩:=Tz m E;apply ai;simp [z,N,O];obtain⟨v,d⟩:=aL (u.set p (.box [.f (.int .u64 q)] 0));rw [←d];have A:v[p]?=aa (.box [.f (.int .u64 q)] 0):=by rw [d];exact j _ _ (aj z)
 have J:Fm p H v:=by rw [d];exact I.trans (Fm.set _ _)
 obtain⟨F,S⟩:=aao q 17 (by omega);obtain⟨l,U⟩:=Tz q F;apply ai;simp [A,S,U];obtain⟨y,g⟩:=aL (v.set p (.box [.f (.int .u64 l)] 0));rw [←g];have B:y[p]?=aa (.box [.f (.int .u64 l)] 0):=by rw [g];exact j _ _ (aj A)
 have K:Fm p H y:=by rw [g];exact J.trans (Fm.set _ _)
 apply ai;simp [B];exact aF (W _ _ (vu l) rfl (by simp [Km.results,aZ]) ⟨⟨l,rfl⟩,K,l,B⟩)
theorem acv(q:tab σ.Sl=aa (yY σ sz)){L k:Nat}(b:bR tab σ.len [vu L]=Eq (vi k))(v:L≤1000000000)(s:k≤62):bR tab σ.Sl [vi L] (vu ((2:Int) ^ k)):=by
 refine bY q rfl fun Q m=>?_;apply ai;simp;have d:IntKind.wrap .u64 (L:Int)=L:=by rw [vw];omega
 have j:(2:Nat) ^ k≤2 ^ 62:=alq (by omega) s;have l:(2:Nat) ^ 62=4611686018427387904:=by decide
 have u:bM .shl (.c (.f (.int .u64 1))) (.c (.f (.int .i64 (k:Int))))=aa (vu ((2:Int) ^ k)):=by
  simp only [bM,aR (show¬ (k:Int)<0 by omega)];show aa (vu (IntKind.wrap .u64 (1*2 ^ (min (k:Int).toNat 64))))=_;have g:((2:Int) ^ k)=((2 ^ k:Nat):Int):=by simp
  obtain⟨w,d⟩:=aL (2 ^ k:Nat);rw [←d]at g j;rw [ajA,Nat.min_eq_left (by omega),Int.one_mul,vw,g,akj (by omega) (by omega)]
 apply ai;simp [d,b,u];exact aF (m _ _ ⟨rfl,_,by simp [Km.results,aZ];rfl,by simp⟩)
theorem abR(hT:tab σ.Rj=aa (Ro σ sz))(hN:tab σ.Sn=aa (yZ σ sz))(hP:tab σ.Sl=aa (yY σ sz)){n a L k:Nat}(I:bR tab σ.len [vu L]=Eq (vi k))(U:k≤62)(c_:2 ^ k≤2*L)(hn:rows.length=n)(hl:n≤1000000000)(v:RB H b sz ep rows)(hg:bK sz rows)(h8:8≤L)(b_:a+L≤n) :
  ∃ r H',Ev tab (.fn σ.Rj) [.c (.sl b 0 n 0 ep sz),vi a,vi (a+L:Nat),cv] H r H'∧(r=.t []∧Fm b H H'∧∃ l',RB H' b sz ep l'∧ez a (a+L) rows l'):=by
 have N:=(acv (σ:=σ) (sz:=sz) hP I (by omega) U).eq;obtain⟨d,hd⟩:=aL (L / 4);have hq:bM .quo (vi (L:Int)) (vi 4)=aa (vi (d:Int)):=by
  have:=ZD (a:=L) (b:=4) (by omega) (by omega);rw [hd];exact this
 have hw:IntKind.i64.wrap ((a:Int)+L-a)=L:=by rw [aM];omega
 have Y:IntKind.wrap .u64 (L:Int)=L:=by rw [vw];omega
 have h2:(2:Nat) ^ k≤2 ^ 62:=alq (by omega) U;have a7:(2:Nat) ^ 62=4611686018427387904:=by decide
 have d_:0<(2:Nat) ^ k:=Nat.pow_pos (by omega);have hp:((2:Int) ^ k)=((2 ^ k:Nat):Int):=by simp
 have X:IntKind.wrap .u64 ((2:Int) ^ k-1)=(2:Int) ^ k-1:=by rw [vw,hp,akj (by omega) (by omega)]
 refine cM hT rfl fun Q hQ=>?_;apply ai;simp [hw];apply aq;refine au (.inl rfl) ?_;simp;refine aw (by simp;omega) ?_;have a_:=v.lt;apply ai;simp [Y];obtain⟨y,z⟩:=aL (H++[.box [.f (.int .u64 (L:Int))] 0]);rw [←z];have p1:NU y H.length:=⟨L,by rw [z];simp⟩
 have f1:Fm b H y:=by rw [z];exact Fm.push _ _
 have r1:RB y b sz ep rows:=by rw [z];exact v.push _
 apply ai;simp [N];apply ai;simp [hq,aM (n:=(d:Int)*2),aM (n:=(a:Int)+d*2),aM (n:=(a:Int)+d*2-1)];refine az ?_;refine bJ (fun m s=>∃(i:Nat) (t:T) (y:an) (l:List (List FC)),s=⟨t,[],y⟩∧i+m=a+d*2+2∧a≤i∧i≤a+d*2+2∧t.g 0=.c (.sl b 0 n 0 ep sz)∧t.g 1=vi a∧t.g 8=vi L∧t.g 9=.c (.ptr H.length 0 0)∧t.g 10=vu ((2:Int) ^ k)∧t.g 11=vi i ∧
  Fm b H y∧NU y H.length∧RB y b sz ep l∧ez a (a+L) rows l) 3
  ⟨a+d*2-1,_,y,rows,rfl,by omega,by omega,by omega,by simp,by simp,by simp,by simp,by simp,by simp;omega,f1,p1,r1,ez.refl _ _ _⟩ ?_
 rintro m s ⟨i,t,y,l,rfl,hm,a8,hi,E,B,A,F,eo,u,K,W,v,g⟩ ih;have M:=g.len;apply aq;apply ai;simp [B,A,u,hq,aM (n:=(d:Int)*2),aM (n:=(a:Int)+d*2),aM (n:=(a:Int)+d*2+1)];by_cases d9:i≤a+d*2+1
 case neg=>
  refine aG (by simp;omega) ?_;refine bw (k':=[]) rfl ?_;exact dh (hQ _ _ _ rfl rfl ⟨rfl,K,l,v,g⟩)
 refine aw (by simp;omega) (aP ?_);obtain⟨r,Z,S,⟨x,rfl⟩,f2,n2⟩:=acw (σ:=σ) (sz:=sz) hN W;have S:=S.eq;obtain⟨o,ho,J⟩:=Rd (x:=x) (k:=k) U;have r2:RB Z b sz ep l:=f2.get v (by omega);have f3:=K.far (ai8 _) f2;apply aq;refine az ?_;apply ai;simp [F,eo,S,X,J,aM (n:=(o:Int))];have go:∀(t:T) (q:Nat),q<L→t.g 0=.c (.sl b 0 n 0 ep sz)→t.g 1=vi a→t.g 8=vi L→t.g 9=.c (.ptr H.length 0 0)→t.g 10=vu ((2:Int) ^ k)→t.g 11=vi i→t.g 12=vi q →
   WP tab σ.Rj ab [.code (Rm sz),.inBlock 1,.code (Rn),.inLoop (Rk σ sz),.inBlock 0] ⟨t,[],Z⟩ Q:=by
  intro t q e_ E B A F eo u O;obtain⟨x5,y5,H5,H6,-,-,i5,j5,l5,l6,w5,w6,s5,j6,s6,r6,f6⟩:=r2.ic (g.qM hg) (M.trans hn) (i:=i) (j:=a+q) (by omega) (by omega);have ce:((a+q:Nat):Int)=(a:Int)+q:=by omega
  rw [ce]at j5 j6;refine au (.inl rfl) ?_;simp [E,B,u,O,i5,j5,l5,l6,w5,w6,s5,j6,s6,-ay,-bu,aM (n:=(a:Int)+q)];refine ax (au (.inl rfl) ?_);simp [u,aM (n:=(i:Int)+1)];exact ih (m-1) _ (by omega) ⟨i+1,_,H6,_,rfl,by omega,by omega,by omega,by simp [E],by simp [B],by simp [A],by simp [F],by simp [eo],by simp,f3.trans f6,n2.fm f6 (by omega),r6,
   g.trans (eS (by omega) (by omega) (by omega) (by omega) (by omega))⟩
 apply aq;apply aq;refine au (.inl rfl) ?_;simp [A];by_cases c9:L≤o
 ·refine aw (by simp;omega) ?_;refine au (.inl rfl) ?_;simp [A,aM (n:=(o:Int)-L)];exact go _ (o-L) (by omega) (by simp [E]) (by simp [B]) (by simp [A]) (by simp [F]) (by simp [eo]) (by simp [u]) (by simp;omega)
 ·refine aG (by simp;omega) (aP ?_);exact go _ o (by omega) (by simp [E]) (by simp [B]) (by simp [A]) (by simp [F]) (by simp [eo]) (by simp [u]) (by simp)
end
end Km
namespace Km
open Go
section
variable{W:List FC→Prop}{c:List FC→List FC→Int}{l l':List (List FC)}
def Rest(c:List FC→List FC→Int)(a p q e:Nat)(l:List (List FC)):Prop:=∀ i j,a≤i→i<j→j<e→¬ (p≤i∧j<q)→je c l i j
theorem Rest.all(c:List FC→List FC→Int)(a e:Nat)(l:List (List FC)):Rest c a a e e l:=fun i j h1 h2 h3 h4=>by omega
theorem Rest.tu{a p q e:Nat}(h:Rest c a p q e l)(b:ez p q l l')(d:p≤q)(z:q≤l.length)(E:a≤p)(F:q≤e):Rest c a p q e l':=by
 intro i j h1 h2 h3 h4 x y g hy;by_cases u:p≤i∧i<q
 ·obtain⟨H,J,K,m⟩:=b.mem d z u.1 u.2 g;rw [b.ge (by omega)]at hy;exact h H j (by omega) (by omega) h3 (by omega) x y m hy
 by_cases v:p≤j∧j<q
 ·obtain⟨I,L,M,s⟩:=b.mem d z v.1 v.2 hy;rw [b.lt (by omega)]at g;exact h i I h1 (by omega) (by omega) (by omega) x y g s
 have A:l'[i]?=l[i]?:=by
  by_cases h5:i<p
  ·exact b.lt h5
  ·exact b.ge (by omega)
 have B:l'[j]?=l[j]?:=by
  by_cases h5:j<p
  ·exact b.lt h5
  ·exact b.ge (by omega)
 rw [A]at g;rw [B]at hy;exact h i j h1 h2 h3 h4 x y g hy
theorem Rest.up{a p q e:Nat}(h:Rest c a p q e l)(hu:Up c p q l):Up c a e l:=fun i j x y h1 h2 h3 b hy=>by
 by_cases h4:p≤i∧j<q
 ·exact hu i j x y h4.1 h2 h4.2 b hy
 ·exact h i j h1 h2 h3 h4 x y b hy
theorem Rest.low{a p q e:Nat}(h:Rest c a p q e l)(hl:zK c a e l)(d:a≤p)(g:q≤e):zK c p q l:=fun k h0 h1 h2=>by
 by_cases b:p=a
 ·subst b;exact hl k h0 h1 (by omega)
 ·exact h (p-1) k (by omega) (by omega) (by omega) (by omega)
theorem Rest.left{a p q e m:Nat}(E:Rest c a p q e l)(hc:tv W c)(g:∀ r ∈ l,W r)(A:e≤l.length)(B:lQ c p q m l)(hu:Up c p m l)(h1:p≤m)(h2:m<q)(h3:q≤e):Rest c a (m+1) q e l:=by
 intro i j F z H h4;by_cases h5:p≤i∧j<q
 case neg=>exact E i j F z H h5
 obtain⟨v,u,lo,hi⟩:=B;rcases akv j m with s | s | s
 ·exact fun x y d hy=>hu i j x y h5.1 z s d hy
 ·subst s;intro x y d hy;rw [u]at hy;cases hy;exact hc.zR (g _ (ajg d)) (g _ (ajg u)) (lo i x h5.1 z d)
 ·have b:i≤m:=by omega
  have right:je c l m j:=fun x y d hy=>by
   rw [u]at d;cases d;exact hi j y s h5.2 hy
  rcases Nat.lt_or_eq_of_le b with b | b
  ·have left:je c l i m:=fun x y d hy=>by
    rw [u]at hy;cases hy;exact hc.zR (g _ (ajg d)) (g _ (ajg u)) (lo i x h5.1 b d)
   exact left.trans hc g right (by omega)
  ·subst b;exact right
theorem Rest.right{a p q e m:Nat}(E:Rest c a p q e l)(hc:tv W c)(s:∀ r ∈ l,W r)(A:e≤l.length)(B:lQ c p q m l)(hu:Up c (m+1) q l)(h1:p≤m)(h2:m<q)(h3:q≤e):Rest c a p m e l:=by
 intro i j F z H h4;by_cases h5:p≤i∧j<q
 case neg=>exact E i j F z H h5
 obtain⟨v,g,lo,hi⟩:=B;rcases akv i m with d | d | d
 ·have left:je c l i m:=fun x y b hy=>by
   rw [g]at hy;cases hy;exact hc.zR (s _ (ajg b)) (s _ (ajg g)) (lo i x h5.1 d b)
  rcases Nat.lt_or_eq_of_le (show m≤j by omega)with u | u
  ·have right:je c l m j:=fun x y b hy=>by
    rw [g]at b;cases b;exact hi j y u h5.2 hy
   exact left.trans hc s right (by omega)
  ·subst u;exact left
 ·subst d;intro x y b hy;rw [g]at b;cases b;exact hi j y z h5.2 hy
 ·exact fun x y b hy=>hu i j x y (by omega) z h5.2 b hy
theorem Rest.equal{a p q e m:Nat}{v:List FC}(E:Rest c a p q e l)(hc:tv W c)(d:∀ r ∈ l,W r)(b:zK c p q l)(h0:0<p){w:List FC}(z:l[p-1]?=aa w)(u:W v)(s:¬ c w v<0)
  (lo:∀(k:Nat) x,p≤k→k<m→l[k]?=aa x→¬ c v x<0):Rest c a m q e l:=by
 intro i j F H I h4;by_cases h5:p≤i∧j<q
 case neg=>exact E i j F H I h5
 intro x y A hy;have g:i<m:=by omega
 have h6:=lo i x h5.1 g A;have h7:=b j h0 (by omega) h5.2 w y z hy;have K:=d _ (ajg A);have B:=d _ (ajg hy);have J:=d _ (ajg z);exact hc.trans K u B h6 (hc.trans u J B s h7)
theorem lQ.tu{p q m g q':Nat}(E:lQ c p q m l)(d:ez g q' l l')(h:(p≤g∧q'≤m)∨(m<g∧q'≤q))(s:g≤q')(hl:q'≤l.length):lQ c p q m l':=by
 obtain⟨v,A,lo,hi⟩:=E;refine⟨v,?_,fun k x u y b=>?_,fun k x u y b=>?_⟩
 ·rcases h with h | h
  ·rw [d.ge (by omega)];exact A
  ·rw [d.lt (by omega)];exact A
 ·by_cases j:g≤k∧k<q'
  ·obtain⟨k',a1,B,z⟩:=d.mem s hl j.1 j.2 b;rcases h with h | h
   ·exact lo k' x (by omega) (by omega) z
   ·omega
  ·by_cases h5:k<g
   ·rw [d.lt h5]at b;exact lo k x u y b
   ·rw [d.ge (by omega)]at b;exact lo k x u y b
 ·by_cases j:g≤k∧k<q'
  ·obtain⟨k',a1,B,z⟩:=d.mem s hl j.1 j.2 b;rcases h with h | h
   ·omega
   ·exact hi k' x (by omega) (by omega) z
  ·by_cases h5:k<g
   ·rw [d.lt h5]at b;exact hi k x u y b
   ·rw [d.ge (by omega)]at b;exact hi k x u y b
end
structure Pq(b n ep sz:Nat)(cv:V)(H:an)(c:List FC→List FC→Int)(rows:List (List FC))(a e:Nat)(t:T)(H1:an)(l:List (List FC))(p q:Nat)(lim:Int):Prop where
 g0:t.g 0=.c (.sl b 0 n 0 ep sz)
 g1:t.g 1=vi p
 g2:t.g 2=vi q
 g3:t.g 3=vi lim
 g4:t.g 4=cv
 fr:Fm b H H1
 rb:RB H1 b sz ep l
 sg:ez a e rows l
 re:Rest c a p q e l
 ap:a≤p
 pq:p≤q
 qe:q≤e
theorem Pq.aB{b n ep sz:Nat}{cv:V}{H:an}{c:List FC→List FC→Int}{rows:List (List FC)}{a e:Nat}{t:T}{j:an}{l:List (List FC)}{p q:Nat}{g:Int}(h:Pq b n ep sz cv H c rows a e t j l p q g)
  {d:T} (m:d.g 0=t.g 0) (s:d.g 1=t.g 1) (u:d.g 2=t.g 2) (v:d.g 3=t.g 3) (x:d.g 4=t.g 4):Pq b n ep sz cv H c rows a e d j l p q g:=
 ⟨m.trans h.g0,s.trans h.g1,u.trans h.g2,v.trans h.g3,x.trans h.g4,h.fr,h.rb,h.sg,h.re,h.ap,h.pq,h.qe⟩
theorem Pq.tu{b n ep sz:Nat}{cv:V}{H:an}{c:List FC→List FC→Int}{rows:List (List FC)}{a e:Nat}{t:T}{j:an}{l:List (List FC)}{p q:Nat}{d:Int}(h:Pq b n ep sz cv H c rows a e t j l p q d)
  {g:an} {l2:List (List FC)} (u:Fm b j g) (hb:RB g b sz ep l2) (m:ez p q l l2) (s:e≤rows.length):Pq b n ep sz cv H c rows a e t g l2 p q d:=
 ⟨h.g0,h.g1,h.g2,h.g3,h.g4,h.fr.trans u,hb,h.sg.trans (m.mono h.ap h.qe),h.re.tu m h.pq (by rw [h.sg.len];exact ajw h.qe s) h.ap h.qe,h.ap,h.pq,h.qe⟩
end Km
namespace Km
open Go
structure aft(tab:TB)(σ:gw)(sz:Nat):Prop where
 sP:tab σ.sP=aa (SG σ sz)
 ins:tab σ.ins=aa (yI σ sz)
 heap:tab σ.heap=aa (Ae σ sz)
 pX:tab σ.pX=aa (wH σ sz)
 Rj:tab σ.Rj=aa (Ro σ sz)
 IJ:tab σ.IJ=aa (SP σ sz)
 rev:tab σ.rev=aa (S4 σ sz)
 part:tab σ.part=aa (AH σ sz)
 B7:tab σ.B7=aa (SN σ sz)
 pins:tab σ.pins=aa (AK σ sz)
 pO:tab σ.pO=aa (wg σ sz)
 HY:tab σ.HY=aa (yS σ sz)
 ord:tab σ.ord=aa (u0 σ sz)
 Sl:tab σ.Sl=aa (yY σ sz)
 Sn:tab σ.Sn=aa (yZ σ sz)
section
variable{tab:TB}{σ:gw}{sz:Nat}{b ep n:Nat}{cv:V}{W:List FC→Prop}{c:List FC→List FC→Int}
theorem ac'(hT:aft tab σ sz)(a_:Cv tab cv W c)(hc:tv W c)(hl:n≤1000000000)(f7:∀ L:Nat,L≤n→∃ k:Nat,bR tab σ.len [vu L]=Eq (vi k)∧k≤62∧(0<L→2 ^ k≤2*L)) :
  ∀(m a e:Nat) (H:an) (rows:List (List FC)) (u:Int),e-a=m→a≤e→e≤n→rows.length=n→RB H b sz ep rows→bK sz rows→(∀ r ∈ rows,W r)→zK c a e rows →
  ∃ r H',Ev tab (.fn σ.sP) [.c (.sl b 0 n 0 ep sz),vi a,vi e,vi u,cv] H r H'∧(r=.t []∧Fm b H H'∧∃ l',RB H' b sz ep l'∧ez a e rows l'∧Up c a e l'):=by
 intro m;induction m using Nat.strongRecOn with
 | ind m IH=>
 intro a e H rows u hm f8 g_ hn j8 hg hW i3;have K:∀ {l p q},ez p q rows l→bK sz l:=fun h=>h.qM hg;have E:∀ {l p q},ez p q rows l→∀ r ∈ l,W r:=fun h r hr=>hW r (h.1.mem_iff.1 hr);refine cM hT.sP rfl fun Q hQ=>?_;have done:∀ {M:an} {l:List (List FC)},Fm b H M→RB M b sz ep l→ez a e rows l→Up c a e l→∀(j:Option av) (t:T),Q j ⟨t,[],M⟩:=
  fun hf hr hs hu j t=>hQ _ _ (.t []) rfl rfl ⟨rfl,hf,_,hr,hs,hu⟩
 apply ai;simp;apply ai;simp;refine az ?_;refine bJ (fun m s=>∃(p q:Nat) (u:Int) (w1 w2:Bool) (t:T) (M:an) (l:List (List FC)),s=⟨t,[],M⟩∧m=q-p∧Pq b n ep sz cv H c rows a e t M l p q u∧t.g 10=vb w1∧t.g 11=vb w2) _
  ⟨a,e,u,ae,ae,_,H,rows,rfl,rfl,⟨by simp,by simp,by simp,by simp,by simp,Fm.refl H,j8,ez.refl _ _ _,Rest.all c a e rows,ai8 _,f8,ai8 _⟩,by simp,by simp⟩ ?_
 rintro m1 s ⟨p,q,u,w1,w2,t,M,l,rfl,rfl,z,eo,N⟩ ih;obtain⟨S,U,O,g3,X,-,-,-,-,ap,pq,qe⟩:=id z;refine az ?_;apply ai;obtain⟨L,rfl⟩:∃ L,q=p+L:=⟨q-p,by omega⟩
 have hw:IntKind.i64.wrap ((p:Int)+L-p)=L:=by rw [aM];omega
 have A:∀ {M t l u p q},Pq b n ep sz cv H c rows a e t M l p q u→l.length=n:=fun h=>h.sg.len.trans hn;have b_:∀ {M t l u p q},Pq b n ep sz cv H c rows a e t M l p q u→zK c p q l:=fun h=>h.re.low (i3.tu h.sg (ai8 _) (ai8 _) f8 (by omega)) h.ap h.qe;simp [U,O,hw];apply aq;apply ai;simp;by_cases j9:L≤12
 ·refine aw (by simp;omega) ?_;obtain⟨r,H2,B,rfl,f2,l2,r2,s2,u2⟩:=acj hT.ins a_ hc (A z) hl z.rb (K z.sg) (E z.sg) z.pq (by omega);apply ai;have B:=B.eq;simp at B;simp [S,U,O,X,B];have g:=z.tu f2 r2 s2 (by omega);exact aF (done g.fr g.rb g.sg (g.re.up u2) _ _)
 refine aG (by simp;omega) (aP ?_);apply aq;apply ai;simp [g3];by_cases h_:u=0
 ·refine aw (by simp [h_]) ?_;obtain⟨r,H2,B,rfl,f2,l2,r2,s2,u2⟩:=Yk hT.heap hT.pX a_ hc (A z) hl z.rb (K z.sg) (E z.sg) (show p<p+L by omega) (by omega);apply ai;have B:=B.eq;simp at B;simp [S,U,O,X,B];have g:=z.tu f2 r2 s2 (by omega);exact aF (done g.fr g.rb g.sg (g.re.up u2) _ _)
 refine a6 (by simp [h_]) ?_;have i9:∀(t:T) (M:an) (l:List (List FC)) (u:Int) (v:Nat),Pq b n ep sz cv H c rows a e t M l p (p+L) u→t.g 12=vi L→t.g 13=vi v→p≤v→v<p+L →
   WP tab σ.sP ab [.code (SF σ),.inBlock 1,.inLoop (vg σ sz),.inBlock 0] ⟨t,[],M⟩ Q:=by
  intro t M l u v z Y Z a7 a8;obtain⟨S,U,O,g3,X,-,-,-,-,-,-,-⟩:=id z;obtain⟨r,H2,B,mid,w,rfl,m1,m2,f2,l2,r2,s2,pt⟩:=Y9 hT.part a_ (A z) hl z.rb (K z.sg) (E z.sg) (show p<p+L by omega) (by omega) a7 a8;have B:=B.eq;simp at B;have g:=z.tu f2 r2 s2 (by omega);have i4:=A g;obtain⟨d,hd⟩:=aL (L / 8);have hq:bM .quo (vi (L:Int)) (vi 8)=aa (vi (d:Int)):=by
   have:=ZD (a:=L) (b:=8) (by omega) (by omega);rw [hd];exact this
  apply ai;simp [S,U,O,X,Z,B];apply ai;simp;apply ai;simp [U,O];apply ai;simp [Y,hq];apply aq;refine au (.inl rfl) ?_;simp [aM (n:=(mid:Int)-p),aM (n:=(p:Int)+L-mid)];by_cases j_:(mid:Int)-p<(p:Int)+L-mid
  ·refine aw (by simp;omega) ?_;obtain⟨r,H3,B,rfl,f3,l3,r3,s3,u3⟩:=IH (mid-p) (by omega) p mid H2 l2 u rfl m1 (by omega) i4 r2 (K g.sg) (E g.sg) ((b_ g).mono (by omega));have B:=B.eq;have I:=g.tu f3 r3 (s3.mono (ai8 _) (by omega)) (by omega);apply ai;simp;apply ai;simp [S,U,g3,X,B];refine au (.inl rfl) ?_;simp [aM (n:=(mid:Int)+1)];refine ax (ih _ _ (by omega) ⟨mid+1,p+L,u,_,w,_,H3,l3,rfl,rfl,⟨by simp [S],by simp,by simp [O],by simp [g3],by simp [X],I.fr,I.rb,I.sg,?_,by omega,by omega,I.qe⟩,by simp;rfl,by simp⟩);exact I.re.left hc (E I.sg) (by rw [A I];exact g_) (pt.tu s3 (.inl ⟨ai8 _,ai8 _⟩) m1 (by omega)) u3 m1 m2 I.qe
  ·refine aG (by simp;omega) ?_;have i6:zK c (mid+1) (p+L) l2:=fun k h0 k1 k2 x y hx hy=>by
    obtain⟨v,hv,lo,hi⟩:=pt;rw [show mid+1-1=mid by omega,hv]at hx;cases hx;exact hi k y (by omega) k2 hy
   obtain⟨r,H3,B,rfl,f3,l3,r3,s3,u3⟩:=IH (p+L-(mid+1)) (by omega) (mid+1) (p+L) H2 l2 u rfl (by omega) (by omega) i4 r2 (K g.sg) (E g.sg) i6;have B:=B.eq;simp at B;have I:=g.tu f3 r3 (s3.mono (by omega) (ai8 _)) (by omega);apply ai;simp;apply ai;simp [S,O,g3,X,B,aM (n:=(mid:Int)+1)];refine au (.inl rfl) ?_;simp;refine ax (ih _ _ (by omega) ⟨p,mid,u,_,w,_,H3,l3,rfl,rfl,⟨by simp [S],by simp [U],by simp,by simp [g3],by simp [X],I.fr,I.rb,I.sg,?_,by omega,by omega,by omega⟩,by simp;rfl,by simp⟩);exact I.re.right hc (E I.sg) (by rw [A I];exact g_) (pt.tu s3 (.inr ⟨by omega,ai8 _⟩) (by omega) (by omega)) u3 m1 m2 I.qe
 have c_:∀(t:T) (M:an) (l:List (List FC)) (u:Int) (v:Nat) (w1 w2:Bool),Pq b n ep sz cv H c rows a e t M l p (p+L) u→t.g 12=vi L→t.g 13=vi v→t.g 10=vb w1→t.g 11=vb w2→p≤v→v<p+L →
   WP tab σ.sP ab [.code (SE σ sz),.inBlock 1,.inLoop (vg σ sz),.inBlock 0] ⟨t,[],M⟩ Q:=by
  intro t M l u v w1 w2 z Y Z eo N a7 a8;obtain⟨S,U,O,g3,X,-,-,-,-,-,-,-⟩:=id z;apply aq;apply ai;rcases aks p with d9 | d9
  ·simp [U,d9];refine a6 (by simp) ?_;exact i9 _ M l u v (z.aB (by simp [S]) (by simp [U,d9]) (by simp [O]) (by simp [g3]) (by simp [X])) (by simp [Y]) (by simp [Z]) a7 a8
  obtain⟨d,rfl⟩:∃ d,p=d+1:=⟨p-1,by omega⟩
  have j7:(0:Int)<(d:Int)+1:=by omega
  have c1:((d+1:Nat):Int)=(d:Int)+1:=by omega
  have c2:((d+1+L:Nat):Int)=(d:Int)+1+L:=by omega
  obtain⟨x,y,F,ar,J,hx,hy,i1,j1,l1,l2,f_,B,wx,wy⟩:=z.rb.ask (K z.sg) a_ (E z.sg) (A z) (i:=d) (j:=v) (by omega) (by omega);have e_:t.g 1=vi ((d:Int)+1):=by rw [U,c1]
  simp [S,e_,X,Z,j7,i1,j1,l1,l2,f_,B,-ay,aM (n:=(d:Int))];have c9:Pq b n ep sz cv H c rows a e t (M++J) l (d+1) (d+1+L) u:=z.tu (Fm.push _ _) (z.rb.push _) (ez.refl _ _ _) (by omega);by_cases d_:c x y<0
  ·refine a6 (by simp [d_]) ?_;exact i9 _ _ l u v (c9.aB (by simp [S]) (by simp [U]) (by simp [O]) (by simp [g3]) (by simp [X])) (by simp [Y]) (by simp [Z]) a7 a8
  refine aw (by simp [d_]) ?_;obtain⟨r,H2,B,mid,rfl,m1,m2,f2,l2,r2,s2,lo,hi⟩:=adm hT.B7 a_ hc (A c9) hl c9.rb (K c9.sg) (E c9.sg) (show d+1<d+1+L by omega) (by omega) a7 a8 hy;have B:=B.eq;have g:=c9.tu f2 r2 s2 (by omega);rw [c1,c2]at B;rw [c2]at O;apply ai;simp [S,e_,O,X,Z,B];apply ai;simp;refine bw (k':=[.inLoop (vg σ sz),.inBlock 0]) rfl ?_;refine ih _ _ (by omega) ⟨mid,d+1+L,u,w1,w2,_,H2,l2,rfl,rfl,⟨by simp [S],by simp,by simp [O],by simp [g3],by simp [X],g.fr,g.rb,g.sg,?_,by omega,by omega,g.qe⟩,by simp [eo],by simp [N]⟩;refine g.re.equal hc (E g.sg) (b_ g) (by omega) (w:=x) (v:=y) ?_ wy d_ lo;rw [show d+1-1=d by omega,s2.lt (by omega)];exact hx
 have i8:∀(t:T) (M:an) (l:List (List FC)) (u:Int) (v:Nat) (w1 w2:Bool) (hint:Int),Pq b n ep sz cv H c rows a e t M l p (p+L) u→t.g 12=vi L→t.g 13=vi v→t.g 14=vi hint→t.g 10=vb w1→t.g 11=vb w2→p≤v→v<p+L →
   WP tab σ.sP ab [.code (SD σ sz),.inBlock 1,.inLoop (vg σ sz),.inBlock 0] ⟨t,[],M⟩ Q:=by
  intro t M l u v w1 w2 hint z Y Z i_ eo N a7 a8;obtain⟨S,U,O,g3,X,-,-,-,-,-,-,-⟩:=id z;apply aq;apply ai;cases w1 with
  | false=>
   simp [eo];refine a6 (by simp) ?_;exact c_ _ _ l u v ag w2 (z.aB (by simp [S]) (by simp [U]) (by simp [O]) (by simp [g3]) (by simp [X])) (by simp [Y]) (by simp [Z]) (by simp [eo]) (by simp [N]) a7 a8
  | true=>
  cases w2 with
  | false=>
   simp [eo,N];refine a6 (by simp) ?_;exact c_ _ _ l u v ae ag (z.aB (by simp [S]) (by simp [U]) (by simp [O]) (by simp [g3]) (by simp [X])) (by simp [Y]) (by simp [Z]) (by simp [eo]) (by simp [N]) a7 a8
  | true=>
  simp [eo,N,i_];by_cases h1:hint=1
  case neg=>
   refine a6 (by simp [h1]) ?_;exact c_ _ _ l u v ae ae (z.aB (by simp [S]) (by simp [U]) (by simp [O]) (by simp [g3]) (by simp [X])) (by simp [Y]) (by simp [Z]) (by simp [eo]) (by simp [N]) a7 a8
  refine aw (by simp [h1]) ?_;obtain⟨r,H2,B,w,rfl,f2,l2,r2,s2,u2⟩:=Zz hT.pins a_ hc (A z) hl z.rb (K z.sg) (E z.sg) (show p<p+L by omega) (by omega) (b_ z);have B:=B.eq;simp at B;have g:=z.tu f2 r2 s2 (by omega);apply ai;simp [S,U,O,X,B];cases w with
  | true=>
   refine aw (by simp) ?_;exact aF (done g.fr g.rb g.sg (g.re.up (u2 rfl)) _ _)
  | false=>
   refine a6 (by simp) ?_;exact c_ _ _ l2 u v ae ae (g.aB (by simp [S]) (by simp [U]) (by simp [O]) (by simp [g3]) (by simp [X])) (by simp [Y]) (by simp [Z]) (by simp [eo]) (by simp [N]) a7 a8
 have i7:∀(t:T) (M:an) (l:List (List FC)) (u:Int) (w1 w2:Bool),Pq b n ep sz cv H c rows a e t M l p (p+L) u→t.g 12=vi L→t.g 10=vb w1→t.g 11=vb w2 →
   WP tab σ.sP ab [.code (SC σ sz),.inBlock 1,.inLoop (vg σ sz),.inBlock 0] ⟨t,[],M⟩ Q:=by
  intro t M l u w1 w2 z Y eo N;obtain⟨S,U,O,g3,X,-,-,-,-,-,-,-⟩:=id z;obtain⟨r,H2,B,⟨v,hint,rfl,v1,v2⟩,kp⟩:=adD hT.IJ hT.pO hT.HY hT.ord a_ (A z) hl z.rb (K z.sg) (E z.sg) (show p+8≤p+L by omega) (by omega);have B:=B.eq;simp at B;have g:Pq b n ep sz cv H c rows a e t H2 l p (p+L) u:=z.tu kp.fm (kp.rb z.rb) (ez.refl _ _ _) (by omega);apply ai;simp [S,U,O,X,B];apply aq;apply ai;simp;by_cases h2:hint=2
  case neg=>
   refine a6 (by simp [h2]) ?_;exact i8 _ _ l u v w1 w2 hint (g.aB (by simp [S]) (by simp [U]) (by simp [O]) (by simp [g3]) (by simp [X])) (by simp [Y]) (by simp) (by simp) (by simp [eo]) (by simp [N]) v1 v2
  refine aw (by simp [h2]) ?_;obtain⟨r,H3,B,rfl,f3,l3,r3,s3⟩:=adP hT.rev (cv:=cv) (A g) hl g.rb (K g.sg) (show p<p+L by omega) (by omega);have B:=B.eq;simp at B;have I:=g.tu f3 r3 s3 (by omega);apply ai;simp [S,U,O,X,B];apply ai;simp [U,O,aM (n:=(p:Int)+L-1),aM (n:=(v:Int)-p),aM (n:=(p:Int)+L-1-(v-p))];refine au (.inl rfl) ?_;simp;exact i8 _ _ l3 u (p+L-1-(v-p)) w1 w2 1 (I.aB (by simp [S]) (by simp [U]) (by simp [O]) (by simp [g3]) (by simp [X])) (by simp [Y]) (by simp;omega) (by simp) (by simp [eo]) (by simp [N]) (by omega) (by omega)
 apply aq;apply ai;simp [eo];cases w1 with
 | true=>
  refine a6 (by simp) ?_;exact i7 _ _ l u ae w2 (z.aB (by simp [S]) (by simp [U]) (by simp [O]) (by simp [g3]) (by simp [X])) (by simp) (by simp [eo]) (by simp [N])
 | false=>
  refine aw (by simp) ?_;obtain⟨k,hk,j3,j4⟩:=f7 L (by omega);obtain⟨r,H2,B,rfl,f2,l2,r2,s2⟩:=abR (cv:=cv) hT.Rj hT.Sn hT.Sl hk j3 (j4 (by omega)) (A z) hl z.rb (K z.sg) (a:=p) (by omega) (by omega);have B:=B.eq;simp at B;have g:=z.tu f2 r2 s2 (by omega);apply ai;simp [S,U,O,X,B];refine au (.inl rfl) ?_;simp [g3];exact i7 _ _ l2 _ ag w2 ⟨by simp [S],by simp [U],by simp [O],by simp;rfl,by simp [X],g.fr,g.rb,g.sg,g.re,g.ap,g.pq,g.qe⟩ (by simp) (by simp [eo]) (by simp [N])
end
end Km
namespace Km
open Go
def sort_1:av:=.region [⟨D 5,.cU (R 0),ab⟩,⟨D 6,.len (R 5),ab⟩,⟨D 4,.cU (R 6),ab⟩] []
def adZ(σ:gw):av:=.region [⟨D 7,.cU (R 0),ab⟩,⟨D 8,.cU (R 4),ab⟩,⟨D 9,.cU (R 4),ab⟩,⟨D 10,.jm .u64 (R 9),ab⟩,⟨D 11,.call σ.len [(R 10)] ag,ab⟩,⟨D 12,.cU (R 1),ab⟩,⟨D 13,.call σ.sP [(R 7),(.k (.c (.f (.int .i64 0)))),(R 8),(R 11),(R 12)] ae,ab⟩] []
def aio(σ:gw):aK:=⟨[P.nat 0,P.nat 1],[],.seq sort_1 (adZ σ)⟩
section
variable{tab:TB}{σ:gw}{sz:Nat}{cv:V}{W:List FC→Prop}{c:List FC→List FC→Int}{N:Nat}
def Q1(tab:TB)(σ:gw)(N:Nat):Prop:=∀ L:Nat,L≤N→∃ k:Nat,bR tab σ.len [vu L]=Eq (vi k)∧k≤62∧(0<L→2 ^ k≤2*L)
theorem Ym(d:tab σ.ins=aa (yI σ sz)){H:an}{v:V}:Ev tab (.fn σ.ins) [v,vi 0,vi 0,cv] H (.t []) H:=by
 obtain⟨r,H',g,rfl,rfl⟩:∃ r H',Ev tab (.fn σ.ins) [v,vi 0,vi 0,cv] H r H'∧(r=.t []∧H'=H):=by
  refine cM d rfl fun Q b=>?_;apply ai;simp [aM (n:=(1:Int))];refine az ?_;refine bJ (fun _ s=>s=⟨_,[],H⟩) 0 rfl ?_;rintro _ s rfl -;apply aq;apply ai;simp;refine aG (by simp) ?_;refine bw (k':=[]) rfl ?_;exact dh (b _ _ _ rfl rfl ⟨rfl,rfl⟩)
 exact g
theorem Za(j:tab σ.sP=aa (SG σ sz))(d:tab σ.ins=aa (yI σ sz)){H:an}{v:V}{b:Int}:Ev tab (.fn σ.sP) [v,vi 0,vi 0,vi b,cv] H (.t []) H:=by
 have hi:=(Ym (σ:=σ) (sz:=sz) (cv:=cv) d (H:=H) (v:=v)).eq;obtain⟨r,H',l,rfl,rfl⟩:∃ r H',Ev tab (.fn σ.sP) [v,vi 0,vi 0,vi b,cv] H r H'∧(r=.t []∧H'=H):=by
  refine cM j rfl fun Q g=>?_;apply ai;simp;apply ai;simp;refine az ?_;refine bJ (fun _ s=>s=⟨_,[],H⟩) 0 rfl ?_;rintro _ s rfl -;refine az ?_;apply ai;simp [aM (n:=(0:Int))];apply aq;apply ai;simp;refine aw (by simp) ?_;apply ai;simp [hi];exact aF (g _ _ _ rfl rfl ⟨rfl,rfl⟩)
 exact l
end
end Km
section
set_option linter.unusedVariables false
namespace Km
open Go
section
variable(D R:Nat)
def nw:Nat→Nat
 | 0=>0| k+1=>nw k+(bif D.testBit k then 0 else 1)
def dd(p:P):Bool:=D.testBit p.toNat
def rr(p:P):Bool:=!dd D p&&R.testBit p.toNat
def pl(p:P):Bool:=!dd D p&&!R.testBit p.toNat
def rn(p:P):P:=.nat (nw D p.toNat)
def wA:Arg→Bool
 | .r p=>pl D R p| .k _=>ae
def tI:Arg→Arg
 | .r p=>.r (rn D p)| x=>x
def trG:Option (P × Bool)→Option (Option (P × Bool))
 | none=>aa ab| some (p,w)=>if pl D R p then aa (aa (rn D p,w))else ab
def trP:cY→Option cY
 | .cU (.k v)=>aa (.cU (.k v))| .alloc z=>aa (.alloc z)| .bin o x y=>if wA D R x&&wA D R y then aa (.bin o (tI D x) (tI D y))else ab| .un o x=>if wA D R x then aa (.un o (tI D x))else ab| .jm k x=>if wA D R x then aa (.jm k (tI D x))else ab| .dE x=>if wA D R x then aa (.dE (tI D x))else ab| .load ab x=>if wA D R x then aa (.load ab (tI D x))else ab| .extract x i=>if wA D R x then aa (.extract (tI D x) i)else ab| .bI s a x i=>if wA D R x&&wA D R i then aa (.bI s a (tI D x) (tI D i))else ab| .pick c x y=>if wA D R c&&(wA D R x&&wA D R y)then aa (.pick (tI D c) (tI D x) (tI D y))else ab| _=>ab
variable(σ:gw)
def ZU:gw:={ sP:=1,ins:=4,heap:=7,pX:=10,Rj:=13,IJ:=16,rev:=19,part:=22,B7:=25,pins:=28,pO:=31,HY:=34,ord:=37,Sl:=40,Sn:=43,len:=3*σ.len,ad0:=0,adY:=0,rot:=0,TG:=0 }
def z_:List aK:=let s:=ZU σ
 [SG s 1,yI s 1,Ae s 1,wH s 1,Ro s 1,SP s 1,S4 s 1,AH s 1,SN s 1,AK s 1,wg s 1,yS s 1,u0 s 1,yY s 1,yZ s 1]
def nmI:List Nat:=[σ.sP,σ.ins,σ.heap,σ.pX,σ.Rj,σ.IJ,σ.rev,σ.part,σ.B7,σ.pins,σ.pO,σ.HY,σ.ord,σ.Sl,σ.Sn]
def nmF(f:Nat):Nat:=if f % 3=0 then f / 3 else(nmI σ).getD (f / 3) 0
def Rv(f:Nat):Bool:=f % 3 == 1&&decide (f / 3<13)
def yK:List Arg→Option (List Arg × P)
 | []=>ab| [.r p]=>aa ([],p)| x::xs=>(yK xs).map fun r=>(x::r.1,r.2)
def tr1(o:aO):Option (Option aO):=
 match trG D R o.g with
 | none=>ab
 | some g=>match o.dst,o.op with
  | none,.store n x y=>if n == 1&&(wA D R x&&(match y with | .r p=>!dd D p | .k _=>ag))then aa (aa ⟨ab,.store 1 (tI D x) (tI D y),g⟩)else ab
  | some d,.call f as h=>if !(pl D R d&&f % 3 != 2)then ab else if Rv f then match yK as with
    | some (as',p)=>if h&&(dd D p&&as'.all (wA D R))then aa (aa ⟨aa (rn D d),.call (nmF σ f) (as'.map (tI D)) ae,g⟩)else ab| none=>ab
   else if as.all (wA D R)then aa (aa ⟨aa (rn D d),.call (nmF σ f) (as.map (tI D)) h,g⟩)else ab
  | some d,.load (aa n) x=>if n == 1&&(wA D R x&&rr D R d)then aa (aa ⟨aa (rn D d),.load ab (tI D x),g⟩)else ab| some d,.cU (.r s)=>if pl D R s&&pl D R d then aa (aa ⟨aa (rn D d),.cU (.r (rn D s)),g⟩)else if dd D s&&dd D d then aa ab else if rr D R s&&rr D R d then aa (aa ⟨aa (rn D d),.cU (.r (rn D s)),g⟩)else ab| some d,op=>if pl D R d then(trP D R op).map fun b=>aa ⟨aa (rn D d),b,g⟩else ab
  | _,_=>ab
def trL:List aO→Option (List aO)
 | []=>aa []
 | ⟨aa r,.bT (.r s) [.r x,.r y] ae,g⟩ ::⟨aa d,.bin .lss (.r r') (.k (.c (.f (.int .i64 0)))),j⟩::os=>match trG D R g,trL os with
  | some g',aa b=>if(dd D r&&dd D s)&&(decide (r'=r∧j=g)&&(rr D R x&&(rr D R y&&pl D R d)))then aa (⟨aa (rn D d),.call σ.TG [.r (rn D x),.r (rn D y)] ae,g'⟩::b)else ab| _,_=>ab
 | o::os=>match tr1 D R σ o,trL os with
  | some t,aa b=>aa (t.toList++b)| _,_=>ab
def Ts:av→Option av
 | .skip=>aa .skip| .ret=>aa .ret| .exit i=>aa (.exit i)| .region ops []=>(trL D R σ ops).map fun o=>.region o []
 | .seq a b=>match Ts a,Ts b with
  | some a,aa b=>aa (.seq a b)| _,_=>ab
 | .cond c a b=>match Ts a,Ts b with
  | some a,aa b=>if wA D R c then aa (.cond (tI D c) a b)else ab| _,_=>ab
 | .block i a=>(Ts a).map (.block i)| .loop a=>(Ts a).map .loop| _=>ab
end
def aam:Nat × Nat→List aO→Nat × Nat
 | s,[]=>s
 | (D,R),o::os=>aam (match o.dst,o.op with
  | some d,.cU (.r p)=>(bif D.testBit p.toNat then D ||| 2 ^ d.toNat else D,bif R.testBit p.toNat then R ||| 2 ^ d.toNat else R)| some d,.load (aa 1) _=>(D,R ||| 2 ^ d.toNat)| some d,.bT ..=>(D ||| 2 ^ d.toNat,R)
  | _,_=>(D,R)) os
def zu:Nat × Nat→av→Nat × Nat
 | s,.region ops _=>aam s ops| s,.seq a b | s,.cond _ a b=>zu (zu s a) b| s,.block _ a | s,.loop a=>zu s a| s,_=>s
def trF(σ:gw)(d:Bool)(f:aK):Option aK:=
 let n:=f.ps.length-1
 let (D,R):=zu (bif d then 2 ^ n ||| 2 ^ (2*n+1)else 0,0) f.body
 let ps:=f.ps.take (bif d then n else n+1)
 let g:=aZ (fun r:gA=>match r with
  | .tmp p=>if pl D R p then aa (gA.tmp (rn D p))else ab
  | _=>ab) f.results
 match Ts D R σ f.body,g with
 | some b,aa g=>if(ps.all (fun p=>pl D R p&&decide (rn D p=p))&&(!d||D.testBit n))&&decide (f.ps.map P.toNat=List.range f.ps.length∧0<f.ps.length)then aa ⟨ps,g,b⟩else ab
 | _,_=>ab
def xF(σ:gw)(i:Nat):aK:=(((z_ σ)[i]?).bind (trF σ (Rv (3*i+1)))).getD ⟨[],[],.bad⟩
end Km
end
section
set_option linter.unusedVariables false
namespace Km
open Go
section
variable{D R:Nat}
theorem aaf{a b:Nat}(h:a≤b):nw D a≤nw D b:=by
 induction h with
 | refl=>exact ai8 _| step _ d=>exact ajw d (Nat.le_add_right _ _)
theorem aag{a b:Nat}(h:a<b)(d:D.testBit a=ag):nw D a<nw D b:=
 aj5 (by simp [nw,d]) (aaf (D:=D) (show a+1≤b from h))
theorem Cg{p q:P}(b:dd D p=ag)(d:dd D q=ag)(h:p≠q):rn D p≠rn D q:=by
 refine Sh ?_;rcases Nat.lt_or_gt_of_ne fun e=>h (P.toNat_inj e)with h | h
 ·exact Nat.ne_of_lt (aag h b)
 ·exact Nat.ne_of_gt (aag h d)
theorem oZ{p:P}(h:pl D R p=ae):dd D p=ag:=by simp [pl]at h;exact h.1
theorem sX{p:P}(h:rr D R p=ae):dd D p=ag:=by simp [rr]at h;exact h.1
theorem SS{p:P}(h:pl D R p=ae):rr D R p=ag:=by simp [pl]at h;simp [rr,h]
def DV(v:V):Prop:=v=.c (.f (.fn 2 []))∨∀ as,bS v as=ab
def RV(v w:V):Prop:=(∃ x,v=.a [x]∧w=.c x)∨(w=v∧v.cells?=ab)
variable(D R)in
structure Rl(rY rX:T):Prop where
 d:∀ p,dd D p=ae→DV (rY.get p)
 p:∀ p,pl D R p=ae→rX.get (rn D p)=rY.get p
 r:∀ p,rr D R p=ae→RV (rY.get p) (rX.get (rn D p))
variable{rY rX:T}{p:P}{v w:V}
theorem mZ{f:P→Bool}{p q:P}(b:f p=ag)(d:f q=ae):p≠q:=fun e=>by rw [e,d]at b;cases b
theorem Rl.sp(h:Rl D R rY rX)(g:pl D R p=ae)(v:V):Rl D R (rY.set p v) (rX.set (rn D p) v) where
 d q b:=by rw [T.cr _ _ _ _ (mZ (oZ g) b)];exact h.d q b
 p q b:=by
  by_cases e:p=q
  ·subst e;rw [T.cS,T.cS]
  ·rw [T.cr _ _ _ _ e,T.cr _ _ _ _ (Cg (oZ g) (oZ b) e)];exact h.p q b
 r q b:=by
  have e:=mZ (SS g) b;rw [T.cr _ _ _ _ e,T.cr _ _ _ _ (Cg (oZ g) (sX b) e)];exact h.r q b
theorem Rl.sr(h:Rl D R rY rX)(g:rr D R p=ae)(j:RV v w):Rl D R (rY.set p v) (rX.set (rn D p) w) where
 d q b:=by rw [T.cr _ _ _ _ (mZ (sX g) b)];exact h.d q b
 p q b:=by
  have e:=(mZ (SS b) g).symm;rw [T.cr _ _ _ _ e,T.cr _ _ _ _ (Cg (sX g) (oZ b) e)];exact h.p q b
 r q b:=by
  by_cases e:p=q
  ·subst e;rw [T.cS,T.cS];exact j
  ·rw [T.cr _ _ _ _ e,T.cr _ _ _ _ (Cg (sX g) (sX b) e)];exact h.r q b
theorem Rl.sd(h:Rl D R rY rX)(g:dd D p=ae)(j:DV v):Rl D R (rY.set p v) rX where
 d q b:=by
  by_cases e:p=q
  ·subst e;rw [T.cS];exact j
  ·rw [T.cr _ _ _ _ e];exact h.d q b
 p q b:=by rw [T.cr _ _ _ _ (mZ (oZ b) g).symm];exact h.p q b
 r q b:=by rw [T.cr _ _ _ _ (mZ (sX b) g).symm];exact h.r q b
theorem Rl.ev(h:Rl D R rY rX):∀ {x:Arg},wA D R x=ae→(tI D x).ev rX=x.ev rY
 | .r q,b=>h.p q b| .k _,_=>rfl
theorem Rl.evs(h:Rl D R rY rX){xs:List Arg}(b:xs.all (wA D R)=ae):dm rX (xs.map (tI D))=dm rY xs:=by
 unfold dm;rw [List.map_map];exact List.map_congr_left fun x d=>h.ev (aji.1 b x d)
theorem Rl.wanted(h:Rl D R rY rX){g:Option (P × Bool)}{g':Option (P × Bool)}(hg:trG D R g=aa g'):wanted rX g'=wanted rY g:=by
 cases g with
 | none=>cases hg;rfl
 | some x=>
  obtain⟨p,b⟩:=x;simp only [trG]at hg;split at hg
  ·rename_i d;cases hg;simp only [Km.wanted,h.p p d]
  ·cases hg
theorem afN:DV (.t []):=.inr fun _=>rfl
theorem ag4:RV (.t []) (.t []):=.inr ⟨rfl,rfl⟩
theorem S7(h:RV v w):w.cells?=v.cells?:=by
 rcases h with⟨x,rfl,rfl⟩ | ⟨rfl,-⟩<;>rfl
theorem yL:∀ {as as':List Arg} {p:P},yK as=aa (as',p)→as=as'++[.r p]
 | [],_,_,h=>by cases h
 | [.r q],_,_,h=>by cases h;rfl
 | [.k v],_,_,h=>by simp [yK]at h
 | x::y::xs,as',p,h=>by
  rw [yK,IN]at h
  ·obtain⟨⟨a,b⟩,d,g⟩:=h;cases g;rw [yL d];rfl
  ·intro q _ e;cases e
variable{tab:TB}{σ:gw}{call:dj}
structure Xy(tab:TB)(σ:gw)(call:dj):Prop where
 fn:∀ {f args Ri H r H'},f % 3≠2→call (.fn f) args H=aa (r,H')→(if Rv f then ∃ v,args=Ri++[v]∧DV v else args=Ri)→Ev tab (.fn (nmF σ f)) Ri H r H'
 cmp:∀ {args H r H'},call (.fn 2) args H=aa (r,H')→∃ x y b,args=[.a [x],.a [y]]∧r=vi (if b then -1 else 0)∧Ev tab (.fn σ.TG) [.c x,.c y] H (vb b) H'
theorem ad4{op m:cY}(h:trP D R op=aa m)(g:Rl D R rY rX){q:List eU}{H:an}{v:V}{s:St}(j:eu call ⟨rY,q,H⟩ op=aa (v,s)) :
  ∃ H',s=⟨rY,q,H'⟩∧∀ K:V→St→Prop,K v ⟨rX,q,H'⟩→iq tab ⟨rX,q,H⟩ m K:=by
 unfold trP at h;split at h
 all_goals first | (cases h;done) | skip
 case h_1=>cases h;cases j;exact⟨_,rfl,fun K l=>⟨_,_,rfl,l⟩⟩
 case h_2=>cases h;cases j;exact⟨_,rfl,fun K l=>⟨_,_,rfl,l⟩⟩
 all_goals
  split at h
  ·rename_i d;cases h
   try simp only [BY]at d
   simp only [eu,IN]at j;obtain⟨⟨y,x⟩,j,u⟩:=j;cases u;refine⟨_,rfl,fun K l=>⟨_,_,?_,l⟩⟩;rw [←j]
   first
    | (simp only [bC,g.ev d];done)
    | (simp only [bC,g.ev d.1,g.ev d.2];done)
    | (simp only [bC,g.ev d.1];split<;>first | rfl | (rename_i b _;cases b<;>simp only [if_true,if_false,Bool.false_eq_true,g.ev d.2.1,g.ev d.2.2]))
  ·cases h
theorem IC{cs:List C}{v:V}(h:aW (aa 1) cs=aa v):∃ x,v=.a [x]∧aW ab cs=aa (.c x):=by
 cases cs with
 | nil=>simp [aW]at h| cons c cs=>simp [aW]at h;exact⟨c,h.symm,rfl⟩
theorem Yv{H:an}{x v:V}(h:aU H (aa 1) x=aa v):∃ y,v=.a [y]∧aU H ab x=aa (.c y):=by
 cases x with
 | c x=>
  simp only [aU,Option.bind_eq_some_iff]at h;obtain⟨cs,b,d⟩:=h;obtain⟨y,g,j⟩:=IC d;exact⟨y,g,by simp only [aU,b,ajC,j]⟩
 | _=>simp [aU]at h
theorem Q2{s:St}{op:cY}{K m:V→St→Prop}(h:iq tab s op K)(j:∀ v q,K v q→m v q):iq tab s op m:=by
 cases op with
 | call f as b=>
  cases b
  ·obtain⟨u,r,l,d,g⟩:=h;exact⟨u,r,l,d,j _ _ g⟩
  ·obtain⟨r,H,d,g⟩:=h;exact⟨r,H,d,j _ _ g⟩
 | bT x as b=>obtain⟨c,a,r,H,l,d,g⟩:=h;exact⟨c,a,r,H,l,d,j _ _ g⟩
 | recover=>exact j _ _ h| «defer» x as=>obtain⟨f,a,l,d⟩:=h;exact⟨f,a,l,j _ _ d⟩
 | _=>obtain⟨v,H,d,g⟩:=h;exact⟨v,H,d,j _ _ g⟩
theorem nS{o o':aO}{g:List aO}{s:St}{b:List eU}{H:an}{K:St→Prop}(d:eT call ⟨rY,b,H⟩ o=aa s)(A:wanted rX o'.g=wanted rY o.g)
  (x:∀ v H',eu call ⟨rY,b,H⟩ o.op=aa (v,H')→iq tab ⟨rX,b,H⟩ o'.op fun w m=>(∃ l,H'=⟨rY,b,l⟩∧m=⟨rX,b,l⟩)∧Rl D R (hZ rY o.dst v) (hZ rX o'.dst w))
  (y:Rl D R (hZ rY o.dst (.t [])) (hZ rX o'.dst (.t [])))
  (q:∀ j,Rl D R s.aB j→s.defs=b→pz tab g ⟨j,b,s.heap⟩ K):pz tab (o'::g) ⟨rX,b,H⟩ K:=by
 unfold eT at d;simp only [pz,A];split at d
 ·rename_i e;rw [e];split at d
  ·rename_i v m u;cases d;refine Q2 (x v m u) ?_;rintro w B ⟨⟨l,rfl,rfl⟩,z⟩;exact q _ z rfl
  ·cases d
 ·rename_i e;rw [e];cases d;exact q _ y rfl
 ·cases d
theorem ad3(S:Xy tab σ call){o:aO}{t:Option aO}{M:List aO}(j:tr1 D R σ o=aa t){s:St}{L:List eU}{H:an}{K:St→Prop}(l:Rl D R rY rX)(m:eT call ⟨rY,L,H⟩ o=aa s)
  (A:∀ N,Rl D R s.aB N→s.defs=L→pz tab M ⟨N,L,s.heap⟩ K):pz tab (t.toList++M) ⟨rX,L,H⟩ K:=by
 obtain⟨a7,op,g⟩:=o;unfold tr1 at j;split at j
 ·cases j
 rename_i g' hg;have F:=l.wanted hg;dsimp only at j;split at j
 ·
  rename_i n x y;cases y with
  | k c=>simp at j
  | r p=>
  dsimp only at j;split at j
  case isFalse=>cases j
  rename_i b;cases j;simp only [BY,beq_iff_eq,Bool.not_eq_true']at b;obtain⟨rfl,hx,hy⟩:=b;refine nS m F (fun v H' e=>?_) l A;simp only [eu,IN]at e;obtain⟨⟨I,J⟩,e,z⟩:=e;cases z;refine⟨I,J,?_,⟨_,rfl,rfl⟩,l⟩;have U:((tI D (.r p)).ev rX).cells?=((Arg.r p).ev rY).cells?:=by
   by_cases O:R.testBit p.toNat=ae
   ·exact S7 (l.r p (by simp [rr,hy,O]))
   ·exact congrArg _ (l.p p (by simp only [pl,hy];simpa using O))
  simp only [bC,l.ev hx,U]at e ⊢;exact e
 ·
  rename_i d f as h;split at j
  case isTrue=>cases j
  rename_i u;obtain⟨u,W⟩:pl D R d=ae∧f % 3≠2:=by simpa using u
  split at j
  ·rename_i E;split at j
   case h_2=>cases j
   rename_i as' p hl;split at j
   case isFalse=>cases j
   rename_i b;cases j;simp only [BY]at b;obtain⟨rfl,O,B⟩:=b;refine nS m F (fun v H' e=>?_) (l.sp u _) A;simp only [eu,gi,if_true,IN]at e;obtain⟨⟨I,J⟩,e,z⟩:=e;cases z;refine⟨I,J,S.fn W e ?_,⟨_,rfl,rfl⟩,l.sp u _⟩;rw [ba E];refine⟨rY.get p,?_,l.d p O⟩;rw [yL hl,l.evs B];simp [dm,Arg.ev]
  ·rename_i E;split at j
   case isFalse=>cases j
   rename_i B;cases j;refine nS m F (fun v H' e=>?_) (l.sp u _) A;simp only [eu,gi,IN]at e;obtain⟨⟨I,J⟩,e,z⟩:=e;cases z;simp only [iq];split at e
   ·rename_i Y;rw [ba Y];exact⟨I,J,S.fn W e (by rw [aR E,l.evs B]),⟨_,rfl,rfl⟩,l.sp u _⟩
   ·rename_i Y;rw [aR Y];unfold eG at e;split at e
    ·cases e
    rename_i fs X;split at e
    ·cases e
    rename_i r0 H0 he;split at e
    ·cases e
    rename_i r1 Z;cases e;rw [l.evs B];exact⟨fs,I,X,⟨r0,H0,S.fn W he (by rw [aR E]),Z⟩,⟨_,rfl,rfl⟩,l.sp u _⟩
 ·
  rename_i d n x;split at j
  case isFalse=>cases j
  rename_i b;cases j;simp only [BY,beq_iff_eq]at b;obtain⟨rfl,hx,u⟩:=b;refine nS m F (fun v H' e=>?_) (l.sr u ag4) A;simp only [eu,bC,Option.map_map,IN,Function.comp]at e;obtain⟨I,e,z⟩:=e;cases z;obtain⟨y,rfl,e2⟩:=Yv e;exact⟨.c y,H,by simp only [bC,l.ev hx,e2,ajK],⟨_,rfl,rfl⟩,l.sr u (.inl ⟨y,rfl,rfl⟩)⟩
 ·
  rename_i d q;have Q:∀ v H',eu call ⟨rY,L,H⟩ (.cU (.r q))=aa (v,H')→v=rY.get q∧H'=⟨rY,L,H⟩:=fun v H' e=>by
   simp only [eu,bC,Arg.ev,ajK,AI,OF]at e;exact⟨e.1.symm,e.2.symm⟩
  split at j
  ·rename_i b;cases j;simp only [BY]at b;refine nS m F (fun v H' e=>?_) (l.sp b.2 _) A;obtain⟨rfl,rfl⟩:=Q v H' e;exact⟨_,H,rfl,⟨_,rfl,rfl⟩,by show Rl D R _ (rX.set _ (rX.get _));rw [l.p q b.1];exact l.sp b.2 _⟩
  split at j
  ·rename_i b;cases j;simp only [BY]at b;unfold eT at m;split at m
   ·split at m
    ·rename_i v s' e1;cases m;obtain⟨rfl,rfl⟩:=Q v s' e1;exact A _ (l.sd b.2 (l.d q b.1)) rfl
    ·cases m
   ·cases m;exact A _ (l.sd b.2 afN) rfl
   ·cases m
  split at j
  ·rename_i b;cases j;simp only [BY]at b;refine nS m F (fun v H' e=>?_) (l.sr b.2 ag4) A;obtain⟨rfl,rfl⟩:=Q v H' e;exact⟨_,H,rfl,⟨_,rfl,rfl⟩,l.sr b.2 (l.r q b.1)⟩
  ·cases j
 ·
  rename_i d op _ _ _;split at j
  case isFalse=>cases j
  rename_i u;rw [IN]at j;obtain⟨a8,h1,rfl⟩:=j;refine nS m F (fun v H' e=>?_) (l.sp u _) A;obtain⟨J,rfl,z⟩:=ad4 (tab:=tab) h1 l e;exact z _ ⟨⟨_,rfl,rfl⟩,l.sp u _⟩
 ·cases j
theorem ag3{x:C}(h:RV v w)(e:v=.a [x]):w=.c x:=by
 subst e;rcases h with⟨y,b,d⟩ | ⟨-,h⟩
 ·cases b;exact d
 ·cases h
theorem ain(hc:Xy tab σ call){os:List aO}:∀ {B:List aO},trL D R σ os=aa B→∀ {rY rX:T} {F:List eU} {H:an} {s:St} {K:St→Prop},Rl D R rY rX→ff call os ⟨rY,F,H⟩=aa s →
  (∀ M,Rl D R s.aB M→s.defs=F→K ⟨M,F,s.heap⟩)→pz tab B ⟨rX,F,H⟩ K:=by
 fun_induction trL D R σ os with
 | case1=>rintro _ ⟨⟩ rY rX F H s K E ⟨⟩ N;exact N _ E rfl
 | case2 r q x y g d r' g2 os ga gb Q I u U=>
  rintro _ ⟨⟩ rY rX F H s K E l N;simp only [BY,decide_eq_true_eq]at u;obtain⟨⟨O,X⟩,⟨rfl,rfl⟩,a7,a8,S⟩:=u;have hw:=E.wanted I;simp only [ff,eT]at l;simp only [pz,hw];split at l
  case h_2=>cases l
  rename_i s1 j;split at j
  ·rename_i e;rw [e];split at j
   case h_2=>cases j
   rename_i v s' J;cases j;simp only [eu]at J;split at J
   case h_2=>cases J
   rename_i c args m;have hq:rY.get q=.c (.f (.fn 2 [])):=by
    rcases E.d q X with h | h
    ·exact h
    ·rw [Arg.ev,h]at m;cases m
   simp only [Arg.ev,hq,bS,dm,ajd,ajt,List.append_nil,AI,OF]at m;obtain⟨rfl,rfl⟩:=m;rw [IN]at J;obtain⟨⟨v1,H1⟩,J,W⟩:=J;cases W;obtain⟨x',y',b,L,rfl,Y⟩:=hc.cmp J;simp only [List.cons.injEq,and_true]at L;have z:Rl D R (rY.set r' (vi (if b then -1 else 0))) rX:=E.sd O (.inr fun _=>rfl);have A:=z.wanted I;rw [hw]at A;simp only [hZ]at l;rw [←A,e]at l;have hb:bM .lss (vi (if b then -1 else 0)) (.c (.f (.int .i64 0)))=aa (vb b):=by cases b<;>rfl
   simp only [eu,bC,Arg.ev,T.cS,hb,ajK]at l;refine⟨_,_,?_,U Q (z.sp S (vb b)) l N⟩;simp only [dm,ajd,ajt,Arg.ev,ag3 (E.r x a7) L.1,ag3 (E.r y a8) L.2];exact Y
  ·rename_i e;rw [e];cases j;have z:Rl D R (rY.set r' (.t [])) rX:=E.sd O afN;have A:=z.wanted I;rw [hw]at A;simp only [hZ]at l;rw [←A,e]at l;exact U Q (z.sp S _) l N
  ·cases j
 | case3=>intro B h;cases h
 | case4=>intro B h;cases h
 | case5 o os _ t a_ W h1 U=>
  rintro _ ⟨⟩ rY rX F H s K E l N;simp only [ff]at l;split at l
  ·rename_i s1 j;refine ad3 hc h1 E j fun M Z hd=>?_;obtain⟨r1,d1,H1⟩:=s1;cases hd;exact U W Z l N
  ·cases l
 | case6=>intro B h;cases h
def ZY(D R:Nat)(σ:gw):cD→Option cD
 | .code c=>(Ts D R σ c).map .code| .inBlock i=>aa (.inBlock i)| .inLoop c=>(Ts D R σ c).map .inLoop| _=>ab
theorem nM{b d:Type}{g:b→Option d}{x:b}{xs:List b}{ys:List d}(h:aZ g (x::xs)=aa ys):∃ y zs,g x=aa y∧aZ g xs=aa zs∧ys=y::zs:=by
 simp only [aZ]at h;split at h
 ·cases h
 ·split at h
  ·cases h
  ·cases h;exact⟨_,_,by assumption,by assumption,rfl⟩
theorem jb{b d:Type}{g:b→Option d}{x:b}{xs:List b}{y:d}{ys:List d}(j:g x=aa y)(l:aZ g xs=aa ys):aZ g (x::xs)=aa (y::ys):=by simp only [aZ,j,l]
theorem mS{i:Nat}:∀ {b todo' k:List cD},aZ (ZY D R σ) b=aa todo'→exitTo i b=aa k→∃ k',exitTo i todo'=aa k'∧aZ (ZY D R σ) k=aa k'
 | [],_,_,_,h=>by cases h
 | x::xs,_,k,h,d=>by
  obtain⟨y,zs,g,l,rfl⟩:=nM h;cases x with
  | inBlock j=>
   cases g;simp only [exitTo]at d ⊢;split at d
   ·rename_i e;cases d;exact⟨zs,by rw [ba e],l⟩
   ·rename_i e;rw [aR e];exact mS l d
  | code c=>
   obtain⟨s,-,rfl⟩:=IN.1 g;obtain⟨k',m,q⟩:=mS l (show exitTo i xs=aa k from d);exact⟨k',m,q⟩
  | inLoop c=>
   obtain⟨s,-,rfl⟩:=IN.1 g;obtain⟨k',m,q⟩:=mS l (show exitTo i xs=aa k from d);exact⟨k',m,q⟩
  | _=>cases g
theorem tJ(l:Xy tab σ call){fn fn':Nat}:∀(n:Nat) {u todo':List cD},aZ (ZY D R σ) u=aa todo'→∀ {rY rX:T} {z:List eU} {H:an} {j:Option av} {s:St},Rl D R rY rX→run call fn n ab u ⟨rY,z,H⟩=aa (j,s) →
  WP tab fn' ab todo' ⟨rX,z,H⟩ fun _ M=>Rl D R s.aB M.aB∧s.defs=z∧M.defs=z∧M.heap=s.heap
 | 0,_,_,_,_,_,_,_,_,_,_,h=>by cases h
 | n+1,[],_,B,rY,rX,z,H,j,s,g,h=>by
  cases B;cases h;exact dh ⟨g,rfl,rfl,rfl⟩
 | n+1,x::xs,_,B,rY,rX,z,H,j,s,g,h=>by
  obtain⟨y,zs,A,m,rfl⟩:=nM B;cases x with
  | inBlock i=>cases A;exact ax (tJ l n m g h)
  | inLoop c=>
   obtain⟨N,d,rfl⟩:=IN.1 A;have O:ZY D R σ (.code c)=aa (.code N):=by rw [ZY,d];rfl
   exact uJ (tJ l n (jb O B) g h)
  | iO b=>cases A
  | ny=>cases A
  | inScope a=>cases A
  | code c=>
   obtain⟨N,d,rfl⟩:=IN.1 A;have code:∀ {a a':av},Ts D R σ a=aa a'→ZY D R σ (.code a)=aa (.code a'):=fun h=>by rw [ZY,h];rfl
   unfold Ts at d;split at d
   ·cases d;exact aP (tJ l n m g h)
   ·cases d;cases h;exact aF ⟨g,rfl,rfl,rfl⟩
   ·cases d;simp only [run]at h;split at h
    ·rename_i k U;obtain⟨k',q,Q⟩:=mS m U;exact bw q (tJ l n Q g h)
    ·cases h
   ·obtain⟨W,q,rfl⟩:=IN.1 d;simp only [run,gn]at h;split at h
    ·cases h
    split at h
    ·rename_i Y L;refine au (.inl rfl) (ain l q g L fun X K S=>?_);obtain⟨r1,d1,Z⟩:=Y;cases S;exact tJ l n m K h
    ·cases h
   ·split at d
    ·rename_i E F;cases d;exact aq (tJ l n (jb (code E) (jb (code F) m)) g h)
    ·cases d
   ·split at d
    ·rename_i E F;split at d
     ·rename_i J;cases d;simp only [run]at h;split at h
      ·rename_i b I;refine wa (v:=b) (by rw [g.ev J,I]) (tJ l n (jb ?_ m) g h);cases b
       ·exact code F
       ·exact code E
      ·cases h
     ·cases d
    ·cases d
   ·obtain⟨a',q,rfl⟩:=IN.1 d;exact az (tJ l n (jb (code q) (jb (y:=.inBlock _) rfl m)) g h)
   ·obtain⟨a',q,rfl⟩:=IN.1 d;exact gZ (tJ l n (jb (code q) (jb (y:=.inLoop a') (by rw [ZY,q];rfl) m)) g h) fun _ _ _=>rfl
   ·cases d
variable(tab σ)in
noncomputable def qO (f:Nat) (args:List V) (H:an):Option (Option (V × an)):=
 open Classical in
 if f % 3=0 then(if h:∃ x:V × an,Ev tab (.fn (f / 3)) args H x.1 x.2 then aa (aa h.choose)else ab)
 else if f=2 then(match args with
  | [.a [x],.a [y]]=>if h:∃ p:Bool × an,Ev tab (.fn σ.TG) [.c x,.c y] H (vb p.1) p.2 then aa (aa (vi (if h.choose.1 then -1 else 0),h.choose.2))else ab
  | _=>ab)
 else ab
variable(tab σ)in
noncomputable def mG:TB where
 get:=fun f=>if f % 3=1 then(z_ σ)[f / 3]? else ab
 wT:=qO tab σ
 ok:=fun f a h args H=>by
  split at h
  ·rename_i e;unfold qO;rw [aR (by omega),aR (by omega)]
  ·cases h
variable(tab σ)in
def zL:Prop:=∀ i a,(z_ σ)[i]?=aa a→∃ b,trF σ (Rv (3*i+1)) a=aa b∧tab ((nmI σ).getD i 0)=aa b
theorem iS{ps:List P}{args:List V}(d:ps.map P.toNat=List.range ps.length)(b:args.length=ps.length)(q:P):(bV ps args .e).get q=(args[q.toNat]?).getD .top:=by
 rw [nW ps args .e 0 (by rw [d,List.range_eq_range']) b q,ba (akh _),Nat.sub_zero,show T.e.get q=.top by cases q<;>rfl]
theorem sW{rY rX:T}{H:an}(d:Rl D R rY rX):∀ {l g:List gA},aZ (fun r:gA=>match r with
  | .tmp p=>if pl D R p then aa (gA.tmp (rn D p))else ab
  | _=>ab) l=aa g→aZ (cC rX H) g=aZ (cC rY H) l
 | [],_,h=>by cases h;rfl
 | x::xs,_,h=>by
  obtain⟨y,zs,b,j,rfl⟩:=nM h;cases x with
  | cell _ _=>cases b
  | tmp p=>
   dsimp only at b;split at b
   ·rename_i m;cases b;simp only [aZ,sW d j,cC,d.p p m]
   ·cases b
theorem ag8(hX:zL tab σ)(m:Nat):∀ d,Xy tab σ (ew (mG tab σ).get (mG tab σ).wT m d)
 | 0=>{ fn:=fun _ h=>(by cases h),cmp:=fun h=>(by cases h) }
 | d+1=>by
  refine⟨fun {f args l H r H'} hf h J=>?_,fun {args H r H'} h=>?_⟩
  ·by_cases X:f % 3=0
   ·have g:¬ Rv f=ae:=by simp [Rv,X]
    rw [aR g]at J;subst J;have z:(mG tab σ).wT f args H=qO tab σ f args H:=rfl;have hg:(mG tab σ).get f=ab:=aR (by omega);simp only [ew,z,hg,qO,ba X]at h;rw [nmF,ba X];split at h
    ·rename_i r' u;split at u
     ·rename_i I;cases u;have:=I.choose_spec;rw [show I.choose=(r,H') by simpa using h]at this;exact this
     ·cases u
    ·cases h
   ·have u:f % 3=1:=by omega
    have z:(mG tab σ).wT f args H=ab:=by
     show qO tab σ f args H=ab;unfold qO;rw [aR X,aR (by omega)]
    have hg:(mG tab σ).get f=(z_ σ)[f / 3]?:=ba u;simp only [ew,z]at h;rw [hg]at h;split at h
    ·cases h
    rename_i B c9;split at h
    case isFalse=>cases h
    rename_i U;obtain⟨b,E,Z⟩:=hX _ _ c9;rw [show 3*(f / 3)+1=f by omega]at E;split at h
    case h_2=>cases h
    rename_i j s b_;rw [nmF,aR X];unfold trF at E;dsimp only at E;obtain⟨n,hn⟩:=aL (B.ps.length-1);rw [←hn]at E;generalize zu ((bif Rv f then 2 ^ n ||| 2 ^ (2*n+1)else 0),0) B.body=DR at E;obtain⟨D,R⟩:=DR;dsimp only at E;split at E
    case h_2=>cases E
    rename_i body rs Q c_;split at E
    case isFalse=>cases E
    rename_i a7;cases E;simp only [BY,decide_eq_true_eq]at a7;obtain⟨⟨a_,F⟩,N,d_⟩:=a7;obtain⟨q,K⟩:=aL ((bif Rv f then n else n+1));rw [←K]at a_ Z;have e_:q≤n+1∧n≤q:=by rw [K];cases Rv f<;>simp
    have a8:B.ps.length=n+1:=by omega
    have M:(B.ps.take q).length=q:=by rw [List.length_take];omega
    have S:(B.ps.take q).map P.toNat=List.range (B.ps.take q).length:=by rw [List.map_take,N,M,a8,List.take_range];congr 1;omega
    have A:∀ p:P,p.toNat<q→pl D R p=ae∧rn D p=p:=fun p z=>by
     have e:((B.ps.take q).map P.toNat)[p.toNat]?=aa p.toNat:=by rw [S,List.getElem?_range (by omega)]
     rw [aj3,IN]at e;obtain⟨p',u,Y⟩:=e;have:=aji.1 a_ p' (ajg u);rw [P.toNat_inj Y]at this;simpa using this
    have d9:∀ k,q≤k→q≤nw D k:=fun k hk=>by
     refine ajw ?_ (aaf hk);cases q with
     | zero=>exact akh _
     | succ q=>
      obtain⟨u,Y⟩:=A (.nat q) (by rw [fP];omega);have h3:=congrArg P.toNat Y;have h4:=oZ u;rw [rn,fP,fP]at h3;rw [dd,fP]at h4;simp only [nw,h3,h4,cond_false];exact ai8 _
    have O:∀ k,k<q→args[k]?=l[k]?:=fun k hk=>by
     split at J
     ·rename_i g;obtain⟨v,rfl,-⟩:=J;rw [g]at K;rw [AT (by simp at U K;omega)]
     ·rw [J]
    have L:l.length=q:=by
     rw [K];split at J
     ·rename_i g;obtain⟨v,rfl,-⟩:=J;rw [g];simp at U;simp;omega
     ·rename_i g;rw [←J,U,a8];simp at g;rw [g];rfl
    have gX:∀ p:P,q≤p.toNat→(bV (B.ps.take q) l .e).get (rn D p)=.top:=fun p z=>by
     rw [iS S (by rw [L,M]),rn,fP,akG (by rw [L];exact d9 _ z)];rfl
    have gY:∀ p:P,n<p.toNat→(bV B.ps args .e).get p=.top:=fun p z=>by
     rw [iS N U,akG (by omega)];rfl
    have hr:Rl D R (bV B.ps args .e) (bV (B.ps.take q) l .e):=by
     have W:∀ p:P,dd D p=ag→q≤p.toNat→n<p.toNat:=fun p hd z=>by
      rcases ajz n p.toNat with h | h
      ·exact h
      ·have e:p.toNat=n:=by omega
       have e2:q=n:=by omega
       rw [e2]at K;cases g:Rv f with
       | false=>rw [g]at K;simp at K
       | true=>
        rw [g]at F;rw [dd,e]at hd;rw [hd]at F;cases F
     refine⟨fun p hd=>?_,fun p z=>?_,fun p z=>?_⟩
     ·rw [iS N U];rcases ajz p.toNat q with h | h
      ·have:=oZ (A p h).1;rw [hd]at this;cases this
      rcases ajz n p.toNat with Y | Y
      ·rw [akG (by omega)];exact .inr fun _=>rfl
      ·split at J
       ·obtain⟨v,rfl,hv⟩:=J;have e:p.toNat=l.length:=by omega
        rw [e,List.getElem?_append_right (ai8 _),Nat.sub_self];exact hv
       ·rename_i g;simp at g;rw [g]at K;simp at K;omega
     ·rcases ajz p.toNat q with h | h
      ·rw [(A p h).2,iS N U,iS S (by rw [L,M]),O _ h]
      ·rw [gX p h,gY p (W p (oZ z) h)]
     ·rcases ajz p.toNat q with h | h
      ·have:=SS (A p h).1;rw [z]at this;cases this
      ·rw [gX p h,gY p (W p (sX z) h)];exact .inr ⟨rfl,rfl⟩
    obtain⟨k,m',d',j',s',e1,e2,e3,e4,e5⟩:=tJ (tab:=tab) (fn':=(nmI σ).getD (f / 3) 0) (ag8 hX m d) m (todo':=[.code body]) (by simp [aZ,ZY,Q]) hr b_;rw [e3]at h;simp only [dV]at h;rw [IN]at h;obtain⟨r1,h5,h6⟩:=h;cases h6;refine qu Z (by rw [L,M]) ⟨k,m',d',j',s',e1,0,0,s.heap,by rw [e4,e5];rfl,?_,rfl⟩;rw [results]at h5 ⊢;rw [sW e2 c_];exact h5
  ·have z:(mG tab σ).wT 2 args H=qO tab σ 2 args H:=rfl;have hg:(mG tab σ).get 2=ab:=rfl;simp only [ew,z,hg,qO,aR (show¬ 2 % 3=0 by omega),if_true]at h;split at h
   ·rename_i r' u;split at u
    ·rename_i x y;split at u
     ·rename_i I;cases u;cases h;exact⟨x,y,I.choose.1,rfl,rfl,I.choose_spec⟩
     ·cases u
    ·cases u
   ·cases h
end
end Km
end
namespace Km.Ord
open Go
def Cp(σ:gw):aK:=⟨[P.nat 0],[],.seq (.region [ym 3 0,yn 4 (.len (R 3)),ym 2 4] [])
 (.region [⟨D 5,.cU (R 0),ab⟩,⟨D 6,.cU (R 2),ab⟩,⟨D 7,.cU (R 2),ab⟩,⟨D 8,.jm .u64 (R 7),ab⟩,⟨D 9,.call σ.len [(R 8)] ag,ab⟩,⟨D 10,.call σ.sP [(R 5),(.k (.c (.f (.int .i64 0)))),(R 6),(R 9)] ae,ab⟩] [])⟩
def isI(r:List FC):Prop:=∃ n:Int,r=[fi n]
def vN:List FC→Int
 | [.int _ n]=>n| _=>0
def cI(x y:List FC):Int:=if vN x<vN y then -1 else 0
theorem Rp{x y:List FC}:cI x y<0↔vN x<vN y:=by unfold cI;split<;>omega
theorem afG:tv isI cI where
 zR:=fun _ _ h b=>by rw [Rp]at *;omega
 trans:=fun _ _ _ h b=>by rw [Rp]at *;omega
theorem yJ(l:List Int):∀ r ∈ ints l,isI r:=fun r b=>by
 obtain⟨n,-,rfl⟩:=List.mem_map.1 b;exact⟨n,rfl⟩
theorem Yo{rows:List (List FC)}(h:∀ r ∈ rows,isI r):rows=ints (rows.map vN):=by
 unfold ints;rw [List.map_map]
 conv=>lhs;rw [←List.map_id rows]
 exact List.map_congr_left fun r b=>by obtain⟨n,rfl⟩:=h r b;rfl
theorem Hi(l:List Int):(ints l).map vN=l:=by
 unfold ints;rw [List.map_map]
 conv=>rhs;rw [←List.map_id l]
 exact List.map_congr_left fun r _=>rfl
theorem bP(l:List Int):bK 1 (ints l):=bK.map fun _=>rfl
section
variable{tab:TB}{σ:gw}{N:Nat}
theorem zL.of(h1:((List.range 15).all fun i=>(((z_ σ)[i]?).bind (trF σ (Rv (3*i+1)))).isSome)=ae)(h2:(List.range 15).map (fun i=>tab ((nmI σ).getD i 0))=(List.range 15).map fun i=>aa (xF σ i)):zL tab σ:=fun i a d=>by
 have hi:i<15:=(List.getElem?_eq_some_iff.1 d).1;have:=aji.1 h1 i (List.mem_range.2 hi);rw [d,ajC,Option.isSome_iff_exists]at this;obtain⟨b,hb⟩:=this;refine⟨b,hb,?_⟩;have e:=congrArg (fun l=>l[i]?) h2;simp only [aj3,List.getElem?_range hi,ajK,AI]at e;rw [e,xF,d,ajC,hb];rfl
theorem dM{a:aK}(i:Nat)(h:(z_ σ)[i]?=aa a):(mG tab σ).get (3*i+1)=aa a:=by
 show(if(3*i+1) % 3=1 then(z_ σ)[(3*i+1) / 3]? else ab)=_;rw [ba (by omega),show(3*i+1) / 3=i by omega];exact h
theorem A0:aft (mG tab σ) (ZU σ) 1:=⟨dM 0 rfl,dM 1 rfl,dM 2 rfl,dM 3 rfl,dM 4 rfl,dM 5 rfl,dM 6 rfl,dM 7 rfl,dM 8 rfl,dM 9 rfl,dM 10 rfl,dM 11 rfl,dM 12 rfl,dM 13 rfl,dM 14 rfl⟩
theorem Il{f:Nat}{args:List V}{H H':an}{r:V}(h:Ev tab (.fn f) args H r H'):Ev (mG tab σ) (.fn (3*f)) args H r H':=by
 have h:Ev tab (.fn (3*f / 3)) args H r H':=by rw [Nat.mul_div_cancel_left _ (by omega)];exact h
 have b:∃ x:V × an,Ev tab (.fn (3*f / 3)) args H x.1 x.2:=⟨(r,H'),h⟩
 have j:(mG tab σ).wT (3*f) args H=aa (aa b.choose):=by
  show qO tab σ _ args H=_;unfold qO;rw [ba (by omega),dif_pos b]
 obtain⟨d,g⟩:=h.XO b.choose_spec;refine⟨0,1,?_⟩;simp only [CF,ew,j,d,g]
theorem SU{x y:C}{b:Bool}{H H':an}(h:Ev tab (.fn σ.TG) [.c x,.c y] H (vb b) H'):Ev (mG tab σ) (.fn 2) [.a [x],.a [y]] H (vi (if b then -1 else 0)) H':=by
 have d:∃ p:Bool × an,Ev tab (.fn σ.TG) [.c x,.c y] H (vb p.1) p.2:=⟨(b,H'),h⟩
 have l:(mG tab σ).wT 2 [.a [x],.a [y]] H=aa (aa (vi (if d.choose.1 then -1 else 0),d.choose.2)):=by
  show qO tab σ 2 [.a [x],.a [y]] H=_;unfold qO;rw [aR (by omega),ba rfl];dsimp only;rw [dif_pos d]
 obtain⟨g,j⟩:=h.XO d.choose_spec;simp only [V.c.injEq,C.f.injEq,FC.bool.injEq]at g;refine⟨0,1,?_⟩;simp only [CF,ew,l,←g,←j]
theorem Y_{H:an}{l:List Int}(W:zL tab σ)(q:∀(a b:Int) (H:an),∃ J,Ev tab (.fn σ.TG) [vi a,vi b] H (vb (decide (a<b))) (H++J))(hN:N≤1000000000)(s:Q1 tab σ N)
  {v:C} {k:Int} (Y:LR H v 1 (ints l)) (hn:l.length≤N) :
  ∃ r H',Ev tab (.fn σ.sP) [.c v,vi 0,vi l.length,vi k] H r H'∧(r=.t []∧Kb H H' v∧∃ l',LR H' v 1 l'∧l'.Perm (ints l)∧Up cI 0 l'.length l'):=by
 have E:Cv (mG tab σ) (.c (.f (.fn 2 []))) isI cI:=by
  rintro x y ⟨a,rfl⟩ ⟨b,rfl⟩ H;obtain⟨J,U⟩:=q a b H;refine⟨2,_,J,rfl,?_⟩;have e:cI [fi a] [fi b]=if decide (a<b)then -1 else 0:=by by_cases h:a<b<;>simp [cI,vN,h]
  rw [e];exact SU U
 have B:Q1 (mG tab σ) (ZU σ) N:=fun L I=>by
  obtain⟨k,M,A⟩:=s L I;have O:bR tab σ.len [vu L] (vi k):=by rw [M]
  obtain⟨Z,H',Q,S⟩:=O;exact⟨k,bR.eq ⟨Z,H',Il Q,S⟩,A⟩
 have g:(ints l).length=l.length:=by simp [ints]
 have j:∀ {v:C} {r H'},Ev (mG tab σ) (.fn (ZU σ).sP) [.c v,vi 0,vi l.length,vi k,.c (.f (.fn 2 []))] H r H'→Ev tab (.fn σ.sP) [.c v,vi 0,vi l.length,vi k] H r H':=fun⟨m,d,h⟩=>
  (ag8 W m d).fn (f:=1) (by decide) h ⟨_,rfl,.inl rfl⟩
 rcases Y with⟨K,h⟩ | ⟨F,b,ep,rfl,A⟩
 ·have:l=[]:=by cases l with
   | nil=>rfl| cons a l=>simp [ints]at K
  subst this;exact⟨_,_,j (Za A0.sP A0.ins),rfl,⟨ai8 _,fun i y u _=>u⟩,[],.inl ⟨rfl,h⟩,.refl _,Up.one (by simp)⟩
 ·rw [g];obtain⟨r,H',X,rfl,f,l',r',z,u'⟩:=ac' A0 E afG (n:=l.length) (by omega) (fun L I=>B L (by omega)) _ 0 l.length H (ints l) k rfl (by omega) (ai8 _) g A (bP l) (yJ l) (fun k h=>absurd h (by omega));refine⟨_,_,j X,rfl,⟨f.1,fun i y u hi=>?_⟩,l',.inr ⟨?_,b,ep,by rw [z.len,g],r'⟩,z.1,by rw [z.len,g];exact u'⟩
  ·rw [f.2 i (fun e=>hi (by rw [e];rfl)) (aj u)];exact u
  ·rintro rfl;have:=z.len;exact F (List.length_eq_zero_iff.1 this.symm)
theorem Tl{F:Nat}(M:tab F=aa (Cp σ))(U:zL tab σ)(g:∀(a b:Int) (H:an),∃ J,Ev tab (.fn σ.TG) [vi a,vi b] H (vb (decide (a<b))) (H++J))(O:N≤1000000000)(d:Q1 tab σ N)
  {H:an} {v:C} {l:List Int} (q:LR H v 1 (ints l)) (I:l.length≤N) :
  ∃ r H',Ev tab (.fn F) [.c v] H r H'∧(r=.t []∧Kb H H' v∧∃ l',LR H' v 1 (ints l')∧l'.Perm l∧l'.Pairwise (·≤·)):=by
 have y:(ints l).length=l.length:=by simp [ints]
 obtain⟨k,W,-,-⟩:=d l.length I;have A:IntKind.wrap .u64 (l.length:Int)=l.length:=by rw [vw];omega
 obtain⟨r,H',s,rfl,z,l',K,B,L⟩:=Y_ U g O d (k:=k) q I;have s:=s.eq;have u:∀ r ∈ l',isI r:=fun r q=>yJ l r (B.mem_iff.1 q);have m:=q.len;rw [y]at m;refine cM M rfl fun Q S=>?_;apply ai;simp [m];refine au (.inl rfl) ?_;simp [A,W,s];refine dh (S _ _ (.t []) rfl rfl ⟨rfl,z,l'.map vN,?_,?_,?_⟩)
 ·rw [←Yo u];exact K
 ·have:=B.map vN;rwa [Hi]at this
 ·rw [List.pairwise_iff_getElem];intro i j hi E x;simp only [List.length_map]at hi E;have:=L i j l'[i] l'[j] (by omega) x (by omega) (By hi) (By E);rw [akK,akK];rw [Rp]at this;omega
end
end Km.Ord
