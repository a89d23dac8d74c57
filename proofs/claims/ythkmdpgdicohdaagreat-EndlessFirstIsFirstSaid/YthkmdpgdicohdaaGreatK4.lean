/-
  Our own small machine for Go code by value, held rz the model: part 4. No program in C3.
-/
import Derived.Test.YthkmdpgdicohdaaGreatK3
open Option renaming some → aa,none → ab
open Bool renaming true → ae,false → ag
open List renaming mem_of_getElem? → als, getElem?_eq_getElem → By, getElem_mem → IT, length_set → alI, getElem?_append_left → AT, getElem?_set_self → BY, map_congr_left → amJ, all_eq_true → alA, map_cons → alo, map_nil → alH, getElem?_map → amk, getElem?_eq_none → amV, getElem_map → amN
open Int renaming toNat_natCast → alJ, emod_eq_of_lt → amx
open Nat renaming le_refl → alk, le_trans → alL, lt_of_lt_of_le → aml, lt_or_ge → alO, eq_zero_or_pos → amG, pow_le_pow_right → anF, lt_trichotomy → amK, zero_le → amu
open Option.some renaming inj → amS, injEq → AI
open Option renaming map_eq_some_iff → IN, bind_some → alP, map_some → alZ
open Bool renaming and_eq_true → If
open Prod.mk renaming injEq → OF
set_option linter.unusedVariables false
set_option linter.constructorNameAsVariable false
set_option linter.unusedSimpArgs false
set_option linter.unusedSectionVars false
set_option maxRecDepth 100000
section
set_option linter.unusedVariables false
namespace Km
open Go
abbrev yn(d:Nat)(op:dn):aQ:=⟨D d,op,ab⟩
abbrev ib(d k g:Nat):aQ:=⟨D d,.cV (R k),G g ae⟩
abbrev wg(d z k g:Nat):aQ:=⟨D d,.load (aa z) (R k),G g ae⟩
abbrev ym(d k:Nat):aQ:=⟨D d,.cV (R k),ab⟩
abbrev yi(n:Int):Arg:=.k (.c (.f (.int .i64 n)))
abbrev yt:Arg:=.k (.c (.f (.bool ae)))
abbrev yf:Arg:=.k (.c (.f (.bool ag)))
abbrev ys(z a b:Nat):aQ:=⟨ab,.store z (R a) (R b),ab⟩
abbrev yb(d:Nat)(o:BinOp)(a b:Nat):aQ:=⟨D d,.bin o (R a) (R b),ab⟩
abbrev ya(d z a b:Nat):aQ:=⟨D d,.bN z ab (R a) (R b),ab⟩
abbrev yl(d z a:Nat):aQ:=⟨D d,.load (aa z) (R a),ab⟩
abbrev yr(l:List aQ):aw:=.region l []
structure gH where
 tt:Nat
 ins:Nat
 heap:Nat
 qA:Nat
 TR:Nat
 Kg:Nat
 rev:Nat
 part:Nat
 CE:Nat
 pins:Nat
 qo:Nat
 Jw:Nat
 ord:Nat
 UT:Nat
 UU:Nat
 len:Nat
 agh:Nat
 agd:Nat
 rot:Nat
 VZ:Nat
section
variable(σ:gH)(sz:Nat)
def ae7:aw:=.seq (yr [ym 26 0,ym 27 1,ym 28 2,ym 29 4,yn 30 (.call σ.ins [R 26,R 27,R 28,R 29] ae)]) .ret
def ae9:aw:=.seq (yr [ym 33 0,ym 34 1,ym 35 2,ym 36 4,yn 37 (.call σ.heap [R 33,R 34,R 35,R 36] ae)]) .ret
def afa:aw:=yr [ym 45 3,yn 46 (.bin .sub (R 45) (yi 1)),ym 3 46]
def ae_:aw:=.seq (yr [ym 40 0,ym 41 1,ym 42 2,ym 43 4,yn 44 (.call σ.TR [R 40,R 41,R 42,R 43] ae)]) (afa)
def afe:aw:=yr [yn 14 (.cV (yi 1))]
def afd:aw:=.seq (yr [ym 62 2,yn 63 (.bin .sub (R 62) (yi 1)),ym 64 13,ym 65 1,yb 66 .sub 64 65,yb 67 .sub 63 66,ym 13 67]) (afe)
def afc:aw:=.seq (yr [ym 57 0,ym 58 1,ym 59 2,ym 60 4,yn 61 (.call σ.rev [R 57,R 58,R 59,R 60] ae)]) (afd)
def aff:aw:=.seq (yr [ym 76 0,ym 77 1,ym 78 2,ym 79 4,yn 80 (.call σ.pins [R 76,R 77,R 78,R 79] ae)]) (.cond (R 80) .ret .skip)
def afh:aw:=.seq (yr [ym 104 15,ym 1 104]) (.exit 1)
def afg:aw:=.seq (yr [ym 98 0,ym 99 1,ym 100 2,ym 101 13,ym 102 4,yn 103 (.call σ.CE [R 98,R 99,R 100,R 101,R 102] ae),ym 15 103]) (afh)
def afo:aw:=yr [ym 135 16,yn 136 (.bin .add (R 135) (yi 1)),ym 1 136]
def afn:aw:=.seq (yr [ym 129 0,ym 130 1,ym 131 16,ym 132 3,ym 133 4,yn 134 (.call σ.tt [R 129,R 130,R 131,R 132,R 133] ae)]) (afo)
def afm:aw:=.seq (yr [ym 126 18,ym 127 20,yb 128 .geq 126 127,ym 10 128]) (afn σ)
def afr:aw:=yr [ym 147 16,ym 2 147]
def afq:aw:=.seq (yr [ym 140 0,ym 141 16,yn 142 (.bin .add (R 141) (yi 1)),ym 143 2,ym 144 3,ym 145 4,yn 146 (.call σ.tt [R 140,R 142,R 143,R 144,R 145] ae)]) (afr)
def afp:aw:=.seq (yr [ym 137 19,ym 138 20,yb 139 .geq 137 138,ym 10 139]) (afq σ)
def afl:aw:=.seq (yr [ym 123 18,ym 124 19,yb 125 .lss 123 124]) (.cond (R 125) (afm σ) (afp σ))
def afk:aw:=.seq (yr [ym 121 12,yn 122 (.bin .quo (R 121) (yi 8)),ym 20 122]) (afl σ)
def afj:aw:=.seq (yr [ym 115 16,ym 116 1,yb 117 .sub 115 116,ym 118 2,ym 119 16,yb 120 .sub 118 119,ym 18 117,ym 19 120]) (afk σ)
def afi:aw:=.seq (yr [ym 114 17,ym 11 114]) (afj σ)
def Vb:aw:=.seq (yr [ym 106 0,ym 107 1,ym 108 2,ym 109 13,ym 110 4,yn 111 (.call σ.part [R 106,R 107,R 108,R 109,R 110] ae),ym 105 111,yn 112 (.extract (R 105) 0),yn 113 (.extract (R 105) 1),ym 16 112,ym 17 113]) (afi σ)
def Va:aw:=.seq (.seq (yr [ym 81 1,yn 82 (.bin .gtr (R 81) (yi 0)),ym 83 82,ib 84 4 83,ib 85 0 83,ib 86 1 83,⟨D 87,.bin .sub (R 86) (yi 1),G 83 ae⟩,⟨D 88,.bN sz ab (R 85) (R 87),G 83 ae⟩,wg 89 sz 88 83,ib 90 0 83,ib 91 13 83,⟨D 92,.bN sz ab (R 90) (R 91),G 83 ae⟩,wg 93 sz 92 83,⟨D 94,.bY (R 84) [R 89,R 93] ae,G 83 ae⟩,⟨D 95,.bin .lss (R 94) (yi 0),G 83 ae⟩,⟨D 96,.un .not (R 95),G 83 ae⟩,yn 97 (.pick (R 83) (R 96) yf)]) (.cond (R 97) (afg σ) .skip)) (Vb σ)
def U_:aw:=.seq (.seq (yr [ym 68 10,ym 69 68,ib 70 11 69,yn 71 (.pick (R 69) (R 70) yf),ym 72 71,ib 73 14 72,⟨D 74,.bin .eql (R 73) (yi 1),G 72 ae⟩,yn 75 (.pick (R 72) (R 74) yf)]) (.cond (R 75) (aff σ) .skip)) (Va σ sz)
def afb:aw:=.seq (.seq (yr [ym 55 14,yn 56 (.bin .eql (R 55) (yi 2))]) (.cond (R 56) (afc σ) .skip)) (U_ σ sz)
def U':aw:=.seq (yr [ym 48 0,ym 49 1,ym 50 2,ym 51 4,yn 52 (.call σ.Kg [R 48,R 49,R 50,R 51] ae),ym 47 52,yn 53 (.extract (R 47) 0),yn 54 (.extract (R 47) 1),ym 13 53,ym 14 54]) (afb σ sz)
def ae':aw:=.seq (.seq (yr [ym 38 10,yn 39 (.un .not (R 38))]) (.cond (R 39) (ae_ σ) .skip)) (U' σ sz)
def ae8:aw:=.seq (.seq (yr [ym 31 3,yn 32 (.bin .eql (R 31) (yi 0))]) (.cond (R 32) (ae9 σ) .skip)) (ae' σ sz)
def aiZ:aw:=.seq (.seq (yr [ym 24 12,yn 25 (.bin .leq (R 24) (yi 12))]) (.cond (R 25) (ae7 σ) .skip)) (ae8 σ sz)
def aiY:aw:=.seq (yr [ym 21 2,ym 22 1,yb 23 .sub 21 22,ym 12 23]) (aiZ σ sz)
def vQ:aw:=.block 1 (aiY σ sz)
def aiX:aw:=.seq (yr [yn 11 (.cV yt)]) (.block 0 (.loop (vQ σ sz)))
def aiW:aw:=.seq (yr [yn 10 (.cV yt)]) (aiX σ sz)
def CC(σ:gH)(sz:Nat):aL:=⟨[P.nat 0,P.nat 1,P.nat 2,P.nat 3,P.nat 4],[],(aiW σ sz)⟩
end
section
variable(σ:gH)(sz:Nat)
def aeD:aw:=yr [ym 37 0,ym 38 9,ym 39 0,ym 40 9,yn 41 (.bin .sub (R 40) (yi 1)),ym 42 0,ym 43 9,yn 44 (.bin .sub (R 43) (yi 1)),ya 45 sz 42 44,yl 46 sz 45,ym 47 0,ym 48 9,ya 49 sz 47 48,yl 50 sz 49,ya 51 sz 37 38,ys sz 51 46,ya 52 sz 39 41,ys sz 52 50]
def aeE:aw:=yr [ym 35 9,yn 36 (.bin .sub (R 35) (yi 1)),ym 9 36]
def aeC:aw:=.seq (.block 3 (aeD sz)) (aeE)
def aeB:aw:=.seq (.seq (yr [ym 18 9,ym 19 1,yb 20 .gtr 18 19,ym 21 20,ib 22 3 21,ib 23 0 21,ib 24 9 21,⟨D 25,.bN sz ab (R 23) (R 24),G 21 ae⟩,wg 26 sz 25 21,ib 27 0 21,ib 28 9 21,⟨D 29,.bin .sub (R 28) (yi 1),G 21 ae⟩,⟨D 30,.bN sz ab (R 27) (R 29),G 21 ae⟩,wg 31 sz 30 21,⟨D 32,.bY (R 22) [R 26,R 31] ae,G 21 ae⟩,⟨D 33,.bin .lss (R 32) (yi 0),G 21 ae⟩,yn 34 (.pick (R 21) (R 33) yf)]) (.cond (R 34) .skip (.exit 2))) (aeC sz)
def aeA:aw:=.seq (yr [ym 17 8,ym 9 17]) (.block 2 (.loop (aeB sz)))
def wR:aw:=yr [ym 15 8,yn 16 (.bin .add (R 15) (yi 1)),ym 8 16]
def aif:aw:=.seq (.block 1 (aeA sz)) (wR)
def Cl:aw:=.seq (.seq (yr [ym 12 8,ym 13 2,yb 14 .lss 12 13]) (.cond (R 14) .skip (.exit 0))) (aif sz)
def aie:aw:=.seq (yr [ym 10 1,yn 11 (.bin .add (R 10) (yi 1)),ym 8 11]) (.block 0 (.loop (Cl sz)))
def vq(σ:gH)(sz:Nat):aL:=⟨[P.nat 0,P.nat 1,P.nat 2,P.nat 3],[],(aie sz)⟩
end
section
variable(σ:gH)(sz:Nat)
def aat:aw:=yr [ym 24 0,ym 25 11,ym 26 10,ym 27 8,ym 28 3,yn 29 (.call σ.qA [R 24,R 25,R 26,R 27,R 28] ae)]
def aau:aw:=yr [ym 22 11,yn 23 (.bin .sub (R 22) (yi 1)),ym 11 23]
def aas:aw:=.seq (.block 1 (aat σ)) (aau)
def aar:aw:=.seq (.seq (yr [ym 20 11,yn 21 (.bin .geq (R 20) (yi 0))]) (.cond (R 21) .skip (.exit 0))) (aas σ)
def aay:aw:=yr [ym 54 0,ym 55 9,ym 56 12,ym 57 8,ym 58 3,yn 59 (.call σ.qA [R 54,R 55,R 56,R 57,R 58] ae)]
def aax:aw:=.seq (yr [ym 36 0,ym 37 8,ym 38 0,ym 39 8,ym 40 12,yb 41 .add 39 40,ym 42 0,ym 43 8,ym 44 12,yb 45 .add 43 44,ya 46 sz 42 45,yl 47 sz 46,ym 48 0,ym 49 8,ya 50 sz 48 49,yl 51 sz 50,ya 52 sz 36 37,ys sz 52 47,ya 53 sz 38 41,ys sz 53 51]) (aay σ)
def aaz:aw:=yr [ym 34 12,yn 35 (.bin .sub (R 34) (yi 1)),ym 12 35]
def aaw:aw:=.seq (.block 3 (aax σ sz)) (aaz)
def aav:aw:=.seq (.seq (yr [ym 32 12,yn 33 (.bin .geq (R 32) (yi 0))]) (.cond (R 33) .skip (.exit 2))) (aaw σ sz)
def Ci:aw:=.seq (yr [ym 30 10,yn 31 (.bin .sub (R 30) (yi 1)),ym 12 31]) (.block 2 (.loop (aav σ sz)))
def aew:aw:=.seq (.seq (yr [ym 17 10,yn 18 (.bin .sub (R 17) (yi 1)),yn 19 (.bin .quo (R 18) (yi 2)),ym 11 19]) (.block 0 (.loop (aar σ)))) (Ci σ sz)
def aev:aw:=.seq (yr [ym 14 2,ym 15 1,yb 16 .sub 14 15,ym 10 16]) (aew σ sz)
def aeu:aw:=.seq (yr [yn 9 (.cV (yi 0))]) (aev σ sz)
def aet:aw:=.seq (yr [ym 13 1,ym 8 13]) (aeu σ sz)
def wN(σ:gH)(sz:Nat):aL:=⟨[P.nat 0,P.nat 1,P.nat 2,P.nat 3],[],(aet σ sz)⟩
end
section
variable(σ:gH)(sz:Nat)
def abM:aw:=yr [ym 41 11,yn 42 (.bin .add (R 41) (yi 1)),ym 11 42]
def abO:aw:=yr [ym 81 11,ym 10 81]
def abN:aw:=.seq (yr [ym 59 0,ym 60 3,ym 61 10,yb 62 .add 60 61,ym 63 0,ym 64 3,ym 65 11,yb 66 .add 64 65,ym 67 0,ym 68 3,ym 69 11,yb 70 .add 68 69,ya 71 sz 67 70,yl 72 sz 71,ym 73 0,ym 74 3,ym 75 10,yb 76 .add 74 75,ya 77 sz 73 76,yl 78 sz 77,ya 79 sz 59 62,ys sz 79 72,ya 80 sz 63 66,ys sz 80 78]) (abO)
def C1:aw:=.seq (.seq (yr [ym 43 4,ym 44 0,ym 45 3,ym 46 10,yb 47 .add 45 46,ya 48 sz 44 47,yl 49 sz 48,ym 50 0,ym 51 3,ym 52 11,yb 53 .add 51 52,ya 54 sz 50 53,yl 55 sz 54,yn 56 (.bY (R 43) [R 49,R 55] ae),yn 57 (.bin .lss (R 56) (yi 0)),yn 58 (.un .not (R 57))]) (.cond (R 58) .ret .skip)) (abN sz)
def abL:aw:=.seq (.seq (yr [ym 19 11,yn 20 (.bin .add (R 19) (yi 1)),ym 21 2,yb 22 .lss 20 21,ym 23 22,ib 24 4 23,ib 25 0 23,ib 26 3 23,ib 27 11 23,⟨D 28,.bin .add (R 26) (R 27),G 23 ae⟩,⟨D 29,.bN sz ab (R 25) (R 28),G 23 ae⟩,wg 30 sz 29 23,ib 31 0 23,ib 32 3 23,ib 33 11 23,⟨D 34,.bin .add (R 32) (R 33),G 23 ae⟩,⟨D 35,.bin .add (R 34) (yi 1),G 23 ae⟩,⟨D 36,.bN sz ab (R 31) (R 35),G 23 ae⟩,wg 37 sz 36 23,⟨D 38,.bY (R 24) [R 30,R 37] ae,G 23 ae⟩,⟨D 39,.bin .lss (R 38) (yi 0),G 23 ae⟩,yn 40 (.pick (R 23) (R 39) yf)]) (.cond (R 40) abM .skip)) (C1 sz)
def agb:aw:=.seq (.seq (yr [ym 16 11,ym 17 2,yb 18 .geq 16 17]) (.cond (R 18) (.exit 0) .skip)) (abL sz)
def aga:aw:=.seq (yr [ym 13 10,yn 14 (.bin .mul (yi 2) (R 13)),yn 15 (.bin .add (R 14) (yi 1)),ym 11 15]) (agb sz)
def Vu:aw:=.block 1 (aga sz)
def af_:aw:=.seq (yr [ym 12 1,ym 10 12]) (.block 0 (.loop (Vu sz)))
def tF(σ:gH)(sz:Nat):aL:=⟨[P.nat 0,P.nat 1,P.nat 2,P.nat 3,P.nat 4],[],(af_ sz)⟩
end
section
variable(σ:gH)(sz:Nat)
def aeb:aw:=yr [ym 46 12,ym 47 8,yb 48 .sub 46 47,ym 12 48]
def TT:aw:=yr [ym 49 0,ym 50 11,ym 51 0,ym 52 1,ym 53 12,yb 54 .add 52 53,ym 55 0,ym 56 1,ym 57 12,yb 58 .add 56 57,ya 59 sz 55 58,yl 60 sz 59,ym 61 0,ym 62 11,ya 63 sz 61 62,yl 64 sz 63,ya 65 sz 49 50,ys sz 65 60,ya 66 sz 51 54,ys sz 66 64]
def aea:aw:=.seq (.seq (yr [ym 43 12,ym 44 8,yb 45 .geq 43 44]) (.cond (R 45) aeb .skip)) (TT sz)
def ad_:aw:=.seq (yr [yn 38 (.call σ.UU [R 9] ae),ym 39 10,yn 40 (.bin .sub (R 39) (.k (.c (.f (.int .u64 1))))),yb 41 .and 38 40,yn 42 (.ko .i64 (R 41)),ym 12 42]) (aea sz)
def TU:aw:=yr [ym 36 11,yn 37 (.bin .add (R 36) (yi 1)),ym 11 37]
def ad':aw:=.seq (.block 1 (ad_ σ sz)) (TU)
def TS:aw:=.seq (.seq (yr [ym 28 11,ym 29 1,ym 30 8,yn 31 (.bin .quo (R 30) (yi 4)),yn 32 (.bin .mul (R 31) (yi 2)),yb 33 .add 29 32,yn 34 (.bin .add (R 33) (yi 1)),yb 35 .leq 28 34]) (.cond (R 35) .skip (.exit 0))) (ad' σ sz)
def ahX:aw:=.seq (yr [ym 22 1,ym 23 8,yn 24 (.bin .quo (R 23) (yi 4)),yn 25 (.bin .mul (R 24) (yi 2)),yb 26 .add 22 25,yn 27 (.bin .sub (R 26) (yi 1)),ym 11 27]) (.block 0 (.loop (TS σ sz)))
def ahW:aw:=.seq (yr [ym 20 8,yn 21 (.call σ.UT [R 20] ag),ym 10 21]) (ahX σ sz)
def ahV:aw:=.seq (yr [ym 18 8,yn 19 (.ko .u64 (R 18)),yn 9 (.alloc [(.int .u64 0)]),ys 1 9 19]) (ahW σ sz)
def ahU:aw:=.seq (yr [ym 16 8,yn 17 (.bin .geq (R 16) (yi 8))]) (.cond (R 17) (ahV σ sz) .skip)
def ahT:aw:=.seq (yr [ym 13 2,ym 14 1,yb 15 .sub 13 14,ym 8 15]) (ahU σ sz)
def B7(σ:gH)(sz:Nat):aL:=⟨[P.nat 0,P.nat 1,P.nat 2,P.nat 3],[],(ahT σ sz)⟩
end
section
variable(σ:gH)(sz:Nat)
def afO:aw:=yr [ym 45 0,ym 46 14,ym 47 3,yn 48 (.call σ.qo [R 45,R 46,R 11,R 47] ae),ym 14 48]
def afN:aw:=.seq (yr [ym 41 0,ym 42 13,ym 43 3,yn 44 (.call σ.qo [R 41,R 42,R 11,R 43] ae),ym 13 44]) (afO σ)
def afM:aw:=.seq (yr [ym 37 0,ym 38 12,ym 39 3,yn 40 (.call σ.qo [R 37,R 38,R 11,R 39] ae),ym 12 40]) (afN σ)
def Vg:aw:=yr [ym 49 0,ym 50 12,ym 51 13,ym 52 14,ym 53 3,yn 54 (.call σ.Jw [R 49,R 50,R 51,R 52,R 11,R 53] ae),ym 13 54]
def afL:aw:=.seq (.seq (yr [ym 35 10,yn 36 (.bin .geq (R 35) (yi 50))]) (.cond (R 36) (afM σ) .skip)) (Vg σ)
def afQ:aw:=.seq (yr [ym 59 13,ym 8 59,yn 9 (.cV (yi 1))]) .ret
def afS:aw:=.seq (yr [ym 62 13,ym 8 62,yn 9 (.cV (yi 2))]) .ret
def afT:aw:=.seq (yr [ym 56 13,ym 8 56,yn 9 (.cV (yi 0))]) .ret
def afR:aw:=.seq (yr [yn 61 (.bin .eql (R 55) (yi 12)),ym 60 61]) (.cond (R 60) afS afT)
def afP:aw:=.seq (yr [yn 58 (.bin .eql (R 55) (yi 0)),ym 57 58]) (.cond (R 57) afQ afR)
def Bm:aw:=.seq (yr [yn 55 (.load ab (R 11))]) (.block 0 afP)
def afK:aw:=.seq (.seq (yr [ym 33 10,yn 34 (.bin .geq (R 33) (yi 8))]) (.cond (R 34) (afL σ) .skip)) (Bm)
def afJ:aw:=.seq (yr [ym 28 1,ym 29 10,yn 30 (.bin .quo (R 29) (yi 4)),yn 31 (.bin .mul (R 30) (yi 3)),yb 32 .add 28 31,ym 14 32]) (afK σ)
def ai9:aw:=.seq (yr [ym 23 1,ym 24 10,yn 25 (.bin .quo (R 24) (yi 4)),yn 26 (.bin .mul (R 25) (yi 2)),yb 27 .add 23 26,ym 13 27]) (afJ σ)
def ai8:aw:=.seq (yr [ym 18 1,ym 19 10,yn 20 (.bin .quo (R 19) (yi 4)),yn 21 (.bin .mul (R 20) (yi 1)),yb 22 .add 18 21,ym 12 22]) (ai9 σ)
def ai7:aw:=.seq (yr [yn 11 (.alloc [(.int .i64 0)])]) (ai8 σ)
def ai6:aw:=.seq (yr [ym 15 2,ym 16 1,yb 17 .sub 15 16,ym 10 17]) (ai7 σ)
def ai5:aw:=.seq (yr [yn 8 (.cV (yi 0)),yn 9 (.cV (yi 0))]) (ai6 σ)
def CO(σ:gH)(sz:Nat):aL:=⟨[P.nat 0,P.nat 1,P.nat 2,P.nat 3],[.tmp (P.nat 8),.tmp (P.nat 9)],(ai5 σ)⟩
end
section
variable(σ:gH)(sz:Nat)
def af5:aw:=yr [ym 32 9,yn 33 (.bin .sub (R 32) (yi 1)),ym 9 33]
def af4:aw:=.seq (yr [ym 30 8,yn 31 (.bin .add (R 30) (yi 1)),ym 8 31]) (af5)
def af3:aw:=.seq (yr [ym 16 0,ym 17 8,ym 18 0,ym 19 9,ym 20 0,ym 21 9,ya 22 sz 20 21,yl 23 sz 22,ym 24 0,ym 25 8,ya 26 sz 24 25,yl 27 sz 26,ya 28 sz 16 17,ys sz 28 23,ya 29 sz 18 19,ys sz 29 27]) (af4)
def ajf:aw:=.seq (.seq (yr [ym 13 8,ym 14 9,yb 15 .lss 13 14]) (.cond (R 15) .skip (.exit 0))) (.block 1 (af3 sz))
def aje:aw:=.seq (yr [ym 11 2,yn 12 (.bin .sub (R 11) (yi 1)),ym 9 12]) (.block 0 (.loop (ajf sz)))
def ajd:aw:=.seq (yr [ym 10 1,ym 8 10]) (aje sz)
def CU(σ:gH)(sz:Nat):aL:=⟨[P.nat 0,P.nat 1,P.nat 2,P.nat 3],[],(ajd sz)⟩
end
section
variable(σ:gH)(sz:Nat)
def aaV:aw:=yr [ym 48 12,yn 49 (.bin .add (R 48) (yi 1)),ym 12 49]
def ae5:aw:=.seq (.seq (yr [ym 32 12,ym 33 13,yb 34 .leq 32 33,ym 35 34,ib 36 4 35,ib 37 0 35,ib 38 12 35,⟨D 39,.bN sz ab (R 37) (R 38),G 35 ae⟩,wg 40 sz 39 35,ib 41 0 35,ib 42 1 35,⟨D 43,.bN sz ab (R 41) (R 42),G 35 ae⟩,wg 44 sz 43 35,⟨D 45,.bY (R 36) [R 40,R 44] ae,G 35 ae⟩,⟨D 46,.bin .lss (R 45) (yi 0),G 35 ae⟩,yn 47 (.pick (R 35) (R 46) yf)]) (.cond (R 47) .skip (.exit 0))) (.block 1 aaV)
def U5:aw:=.block 0 (.loop (ae5 sz))
def aaY:aw:=yr [ym 67 13,yn 68 (.bin .sub (R 67) (yi 1)),ym 13 68]
def aaX:aw:=.seq (.seq (yr [ym 50 12,ym 51 13,yb 52 .leq 50 51,ym 53 52,ib 54 4 53,ib 55 0 53,ib 56 13 53,⟨D 57,.bN sz ab (R 55) (R 56),G 53 ae⟩,wg 58 sz 57 53,ib 59 0 53,ib 60 1 53,⟨D 61,.bN sz ab (R 59) (R 60),G 53 ae⟩,wg 62 sz 61 53,⟨D 63,.bY (R 54) [R 58,R 62] ae,G 53 ae⟩,⟨D 64,.bin .lss (R 63) (yi 0),G 53 ae⟩,⟨D 65,.un .not (R 64),G 53 ae⟩,yn 66 (.pick (R 53) (R 65) yf)]) (.cond (R 66) .skip (.exit 2))) (.block 3 aaY)
def Cy:aw:=.block 2 (.loop (aaX sz))
def aa1:aw:=.seq (yr [ym 86 13,ym 10 86,yn 11 (.cV yt)]) .ret
def aa0:aw:=.seq (yr [ym 72 0,ym 73 13,ym 74 0,ym 75 1,ym 76 0,ym 77 1,ya 78 sz 76 77,yl 79 sz 78,ym 80 0,ym 81 13,ya 82 sz 80 81,yl 83 sz 82,ya 84 sz 72 73,ys sz 84 79,ya 85 sz 74 75,ys sz 85 83]) (aa1)
def aa8:aw:=yr [ym 121 12,yn 122 (.bin .add (R 121) (yi 1)),ym 12 122]
def aa7:aw:=.seq (.seq (yr [ym 105 12,ym 106 13,yb 107 .leq 105 106,ym 108 107,ib 109 4 108,ib 110 0 108,ib 111 12 108,⟨D 112,.bN sz ab (R 110) (R 111),G 108 ae⟩,wg 113 sz 112 108,ib 114 0 108,ib 115 1 108,⟨D 116,.bN sz ab (R 114) (R 115),G 108 ae⟩,wg 117 sz 116 108,⟨D 118,.bY (R 109) [R 113,R 117] ae,G 108 ae⟩,⟨D 119,.bin .lss (R 118) (yi 0),G 108 ae⟩,yn 120 (.pick (R 108) (R 119) yf)]) (.cond (R 120) .skip (.exit 6))) (.block 7 aa8)
def Cz:aw:=.block 6 (.loop (aa7 sz))
def aa_:aw:=yr [ym 140 13,yn 141 (.bin .sub (R 140) (yi 1)),ym 13 141]
def aa':aw:=.seq (.seq (yr [ym 123 12,ym 124 13,yb 125 .leq 123 124,ym 126 125,ib 127 4 126,ib 128 0 126,ib 129 13 126,⟨D 130,.bN sz ab (R 128) (R 129),G 126 ae⟩,wg 131 sz 130 126,ib 132 0 126,ib 133 1 126,⟨D 134,.bN sz ab (R 132) (R 133),G 126 ae⟩,wg 135 sz 134 126,⟨D 136,.bY (R 127) [R 131,R 135] ae,G 126 ae⟩,⟨D 137,.bin .lss (R 136) (yi 0),G 126 ae⟩,⟨D 138,.un .not (R 137),G 126 ae⟩,yn 139 (.pick (R 126) (R 138) yf)]) (.cond (R 139) .skip (.exit 8))) (.block 9 aa_)
def CA:aw:=.block 8 (.loop (aa' sz))
def abd:aw:=yr [ym 161 13,yn 162 (.bin .sub (R 161) (yi 1)),ym 13 162]
def abc:aw:=.seq (yr [ym 159 12,yn 160 (.bin .add (R 159) (yi 1)),ym 12 160]) (abd)
def abb:aw:=.seq (yr [ym 145 0,ym 146 12,ym 147 0,ym 148 13,ym 149 0,ym 150 13,ya 151 sz 149 150,yl 152 sz 151,ym 153 0,ym 154 12,ya 155 sz 153 154,yl 156 sz 155,ya 157 sz 145 146,ys sz 157 152,ya 158 sz 147 148,ys sz 158 156]) (abc)
def aba:aw:=.seq (.seq (yr [ym 142 12,ym 143 13,yb 144 .gtr 142 143]) (.cond (R 144) (.exit 4) .skip)) (abb sz)
def aa9:aw:=.seq (CA sz) (aba sz)
def aa6:aw:=.seq (Cz sz) (aa9 sz)
def abe:aw:=.seq (yr [ym 177 13,ym 10 177,yn 11 (.cV yf)]) .ret
def CB:aw:=.seq (yr [ym 163 0,ym 164 13,ym 165 0,ym 166 1,ym 167 0,ym 168 1,ya 169 sz 167 168,yl 170 sz 169,ym 171 0,ym 172 13,ya 173 sz 171 172,yl 174 sz 173,ya 175 sz 163 164,ys sz 175 170,ya 176 sz 165 166,ys sz 176 174]) (abe)
def aa5:aw:=.seq (.block 4 (.loop (.block 5 (aa6 sz)))) (CB sz)
def aa4:aw:=.seq (yr [ym 103 13,yn 104 (.bin .sub (R 103) (yi 1)),ym 13 104]) (aa5 sz)
def aa3:aw:=.seq (yr [ym 101 12,yn 102 (.bin .add (R 101) (yi 1)),ym 12 102]) (aa4 sz)
def aa2:aw:=.seq (yr [ym 87 0,ym 88 12,ym 89 0,ym 90 13,ym 91 0,ym 92 13,ya 93 sz 91 92,yl 94 sz 93,ym 95 0,ym 96 12,ya 97 sz 95 96,yl 98 sz 97,ya 99 sz 87 88,ys sz 99 94,ya 100 sz 89 90,ys sz 100 98]) (aa3 sz)
def aaZ:aw:=.seq (.seq (yr [ym 69 12,ym 70 13,yb 71 .gtr 69 70]) (.cond (R 71) (aa0 sz) .skip)) (aa2 sz)
def aaW:aw:=.seq (Cy sz) (aaZ sz)
def ae4:aw:=.seq (U5 sz) (aaW sz)
def ae3:aw:=.seq (yr [ym 28 1,yn 29 (.bin .add (R 28) (yi 1)),ym 30 2,yn 31 (.bin .sub (R 30) (yi 1)),ym 12 29,ym 13 31]) (ae4 sz)
def ae2:aw:=.seq (yr [ym 14 0,ym 15 1,ym 16 0,ym 17 3,ym 18 0,ym 19 3,ya 20 sz 18 19,yl 21 sz 20,ym 22 0,ym 23 1,ya 24 sz 22 23,yl 25 sz 24,ya 26 sz 14 15,ys sz 26 21,ya 27 sz 16 17,ys sz 27 25]) (ae3 sz)
def ae1:aw:=.seq (yr [yn 10 (.cV (yi 0)),yn 11 (.cV yf)]) (ae2 sz)
def xu(σ:gH)(sz:Nat):aL:=⟨[P.nat 0,P.nat 1,P.nat 2,P.nat 3,P.nat 4],[.tmp (P.nat 10),.tmp (P.nat 11)],(ae1 sz)⟩
end
section
variable(σ:gH)(sz:Nat)
def afu:aw:=yr [ym 48 11,yn 49 (.bin .add (R 48) (yi 1)),ym 11 49]
def aft:aw:=.seq (.seq (yr [ym 31 11,ym 32 12,yb 33 .leq 31 32,ym 34 33,ib 35 4 34,ib 36 0 34,ib 37 1 34,⟨D 38,.bN sz ab (R 36) (R 37),G 34 ae⟩,wg 39 sz 38 34,ib 40 0 34,ib 41 11 34,⟨D 42,.bN sz ab (R 40) (R 41),G 34 ae⟩,wg 43 sz 42 34,⟨D 44,.bY (R 35) [R 39,R 43] ae,G 34 ae⟩,⟨D 45,.bin .lss (R 44) (yi 0),G 34 ae⟩,⟨D 46,.un .not (R 45),G 34 ae⟩,yn 47 (.pick (R 34) (R 46) yf)]) (.cond (R 47) .skip (.exit 2))) (.block 3 afu)
def Vd:aw:=.block 2 (.loop (aft sz))
def afx:aw:=yr [ym 66 12,yn 67 (.bin .sub (R 66) (yi 1)),ym 12 67]
def afw:aw:=.seq (.seq (yr [ym 50 11,ym 51 12,yb 52 .leq 50 51,ym 53 52,ib 54 4 53,ib 55 0 53,ib 56 1 53,⟨D 57,.bN sz ab (R 55) (R 56),G 53 ae⟩,wg 58 sz 57 53,ib 59 0 53,ib 60 12 53,⟨D 61,.bN sz ab (R 59) (R 60),G 53 ae⟩,wg 62 sz 61 53,⟨D 63,.bY (R 54) [R 58,R 62] ae,G 53 ae⟩,⟨D 64,.bin .lss (R 63) (yi 0),G 53 ae⟩,yn 65 (.pick (R 53) (R 64) yf)]) (.cond (R 65) .skip (.exit 4))) (.block 5 afx)
def Ve:aw:=.block 4 (.loop (afw sz))
def afB:aw:=yr [ym 87 12,yn 88 (.bin .sub (R 87) (yi 1)),ym 12 88]
def afA:aw:=.seq (yr [ym 85 11,yn 86 (.bin .add (R 85) (yi 1)),ym 11 86]) (afB)
def afz:aw:=.seq (yr [ym 71 0,ym 72 11,ym 73 0,ym 74 12,ym 75 0,ym 76 12,ya 77 sz 75 76,yl 78 sz 77,ym 79 0,ym 80 11,ya 81 sz 79 80,yl 82 sz 81,ya 83 sz 71 72,ys sz 83 78,ya 84 sz 73 74,ys sz 84 82]) (afA)
def afy:aw:=.seq (.seq (yr [ym 68 11,ym 69 12,yb 70 .gtr 68 69]) (.cond (R 70) (.exit 0) .skip)) (afz sz)
def afv:aw:=.seq (Ve sz) (afy sz)
def afs:aw:=.seq (Vd sz) (afv sz)
def Vf:aw:=.seq (yr [ym 89 11,ym 10 89]) .ret
def ai3:aw:=.seq (.block 0 (.loop (.block 1 (afs sz)))) (Vf)
def ai2:aw:=.seq (yr [ym 27 1,yn 28 (.bin .add (R 27) (yi 1)),ym 29 2,yn 30 (.bin .sub (R 29) (yi 1)),ym 11 28,ym 12 30]) (ai3 sz)
def ai1:aw:=.seq (yr [ym 13 0,ym 14 1,ym 15 0,ym 16 3,ym 17 0,ym 18 3,ya 19 sz 17 18,yl 20 sz 19,ym 21 0,ym 22 1,ya 23 sz 21 22,yl 24 sz 23,ya 25 sz 13 14,ys sz 25 20,ya 26 sz 15 16,ys sz 26 24]) (ai2 sz)
def ai0:aw:=.seq (yr [yn 10 (.cV (yi 0))]) (ai1 sz)
def CG(σ:gH)(sz:Nat):aL:=⟨[P.nat 0,P.nat 1,P.nat 2,P.nat 3,P.nat 4],[.tmp (P.nat 10)],(ai0 sz)⟩
end
section
variable(σ:gH)(sz:Nat)
def abl:aw:=yr [ym 37 9,yn 38 (.bin .add (R 37) (yi 1)),ym 9 38]
def abk:aw:=.seq (.seq (yr [ym 19 9,ym 20 2,yb 21 .lss 19 20,ym 22 21,ib 23 3 22,ib 24 0 22,ib 25 9 22,⟨D 26,.bN sz ab (R 24) (R 25),G 22 ae⟩,wg 27 sz 26 22,ib 28 0 22,ib 29 9 22,⟨D 30,.bin .sub (R 29) (yi 1),G 22 ae⟩,⟨D 31,.bN sz ab (R 28) (R 30),G 22 ae⟩,wg 32 sz 31 22,⟨D 33,.bY (R 23) [R 27,R 32] ae,G 22 ae⟩,⟨D 34,.bin .lss (R 33) (yi 0),G 22 ae⟩,⟨D 35,.un .not (R 34),G 22 ae⟩,yn 36 (.pick (R 22) (R 35) yf)]) (.cond (R 36) .skip (.exit 2))) (.block 3 abl)
def CJ:aw:=.block 2 (.loop (abk sz))
def abn:aw:=.seq (yr [yn 8 (.cV yt)]) .ret
def abp:aw:=.seq (yr [yn 8 (.cV yf)]) .ret
def abx:aw:=yr [ym 85 0,ym 86 11,ym 87 0,ym 88 11,yn 89 (.bin .sub (R 88) (yi 1)),ym 90 0,ym 91 11,yn 92 (.bin .sub (R 91) (yi 1)),ya 93 sz 90 92,yl 94 sz 93,ym 95 0,ym 96 11,ya 97 sz 95 96,yl 98 sz 97,ya 99 sz 85 86,ys sz 99 94,ya 100 sz 87 89,ys sz 100 98]
def abw:aw:=.seq (.seq (yr [ym 72 3,ym 73 0,ym 74 11,ya 75 sz 73 74,yl 76 sz 75,ym 77 0,ym 78 11,yn 79 (.bin .sub (R 78) (yi 1)),ya 80 sz 77 79,yl 81 sz 80,yn 82 (.bY (R 72) [R 76,R 81] ae),yn 83 (.bin .lss (R 82) (yi 0)),yn 84 (.un .not (R 83))]) (.cond (R 84) (.exit 4) .skip)) (abx sz)
def aby:aw:=yr [ym 70 11,yn 71 (.bin .sub (R 70) (yi 1)),ym 11 71]
def abv:aw:=.seq (.block 5 (abw sz)) (aby)
def abu:aw:=.seq (.seq (yr [ym 68 11,yn 69 (.bin .geq (R 68) (yi 1))]) (.cond (R 69) .skip (.exit 4))) (abv sz)
def CL:aw:=.block 4 (.loop (abu sz))
def abt:aw:=.seq (yr [ym 66 9,yn 67 (.bin .sub (R 66) (yi 1)),ym 11 67]) (CL sz)
def abD:aw:=yr [ym 125 0,ym 126 12,ym 127 0,ym 128 12,yn 129 (.bin .sub (R 128) (yi 1)),ym 130 0,ym 131 12,yn 132 (.bin .sub (R 131) (yi 1)),ya 133 sz 130 132,yl 134 sz 133,ym 135 0,ym 136 12,ya 137 sz 135 136,yl 138 sz 137,ya 139 sz 125 126,ys sz 139 134,ya 140 sz 127 129,ys sz 140 138]
def abC:aw:=.seq (.seq (yr [ym 112 3,ym 113 0,ym 114 12,ya 115 sz 113 114,yl 116 sz 115,ym 117 0,ym 118 12,yn 119 (.bin .sub (R 118) (yi 1)),ya 120 sz 117 119,yl 121 sz 120,yn 122 (.bY (R 112) [R 116,R 121] ae),yn 123 (.bin .lss (R 122) (yi 0)),yn 124 (.un .not (R 123))]) (.cond (R 124) (.exit 6) .skip)) (abD sz)
def abE:aw:=yr [ym 110 12,yn 111 (.bin .add (R 110) (yi 1)),ym 12 111]
def abB:aw:=.seq (.block 7 (abC sz)) (abE)
def abA:aw:=.seq (.seq (yr [ym 107 12,ym 108 2,yb 109 .lss 107 108]) (.cond (R 109) .skip (.exit 6))) (abB sz)
def CN:aw:=.block 6 (.loop (abA sz))
def abz:aw:=.seq (yr [ym 105 9,yn 106 (.bin .add (R 105) (yi 1)),ym 12 106]) (CN sz)
def CM:aw:=.seq (yr [ym 101 2,ym 102 9,yb 103 .sub 101 102,yn 104 (.bin .geq (R 103) (yi 2))]) (.cond (R 104) (abz sz) .skip)
def abr:aw:=.seq (.seq (yr [ym 62 9,ym 63 1,yb 64 .sub 62 63,yn 65 (.bin .geq (R 64) (yi 2))]) (.cond (R 65) (abt sz) .skip)) (CM sz)
def abq:aw:=.seq (yr [ym 46 0,ym 47 9,ym 48 0,ym 49 9,yn 50 (.bin .sub (R 49) (yi 1)),ym 51 0,ym 52 9,yn 53 (.bin .sub (R 52) (yi 1)),ya 54 sz 51 53,yl 55 sz 54,ym 56 0,ym 57 9,ya 58 sz 56 57,yl 59 sz 58,ya 60 sz 46 47,ys sz 60 55,ya 61 sz 48 50,ys sz 61 59]) (abr sz)
def abo:aw:=.seq (.seq (yr [ym 42 2,ym 43 1,yb 44 .sub 42 43,yn 45 (.bin .lss (R 44) (yi 50))]) (.cond (R 45) abp .skip)) (abq sz)
def abm:aw:=.seq (.seq (yr [ym 39 9,ym 40 2,yb 41 .eql 39 40]) (.cond (R 41) abn .skip)) (abo sz)
def abj:aw:=.seq (CJ sz) (abm sz)
def xw:aw:=yr [ym 17 10,yn 18 (.bin .add (R 17) (yi 1)),ym 10 18]
def abi:aw:=.seq (.block 1 (abj sz)) (xw)
def Bk:aw:=.seq (.seq (yr [ym 15 10,yn 16 (.bin .lss (R 15) (yi 5))]) (.cond (R 16) .skip (.exit 0))) (abi sz)
def rG:aw:=.seq (yr [yn 8 (.cV yf)]) .ret
def afI:aw:=.seq (.seq (yr [yn 10 (.cV (yi 0))]) (.block 0 (.loop (Bk sz)))) (rG)
def afH:aw:=.seq (yr [ym 13 1,yn 14 (.bin .add (R 13) (yi 1)),ym 9 14]) (afI sz)
def afG:aw:=.seq (yr [yn 8 (.cV yf)]) (afH sz)
def xx(σ:gH)(sz:Nat):aL:=⟨[P.nat 0,P.nat 1,P.nat 2,P.nat 3],[.tmp (P.nat 8)],(afG sz)⟩
end
def aeK(σ:gH):aw:=.seq (yr [ym 9 0,ym 10 1,yn 11 (.bin .sub (R 10) (yi 1)),ym 12 1,ym 13 1,yn 14 (.bin .add (R 13) (yi 1)),ym 15 2,ym 16 3,yn 17 (.call σ.Jw [R 9,R 11,R 12,R 14,R 15,R 16] ae),ym 8 17]) .ret
def aeJ(σ:gH):aw:=.seq (yr [yn 8 (.cV (yi 0))]) (aeK σ)
def sV(σ:gH)(sz:Nat):aL:=⟨[P.nat 0,P.nat 1,P.nat 2,P.nat 3],[.tmp (P.nat 8)],(aeJ σ)⟩
section
variable(σ:gH)(sz:Nat)
def aiw:aw:=.seq (yr [ym 40 2,ym 12 40]) .ret
def aiv:aw:=.seq (yr [ym 32 0,ym 33 1,ym 34 2,ym 35 4,ym 36 5,yn 37 (.call σ.ord [R 32,R 33,R 34,R 35,R 36] ae),ym 31 37,yn 38 (.extract (R 31) 0),yn 39 (.extract (R 31) 1),ym 1 38,ym 2 39]) (aiw)
def aiu:aw:=.seq (yr [ym 23 0,ym 24 2,ym 25 3,ym 26 4,ym 27 5,yn 28 (.call σ.ord [R 23,R 24,R 25,R 26,R 27] ae),ym 22 28,yn 29 (.extract (R 22) 0),yn 30 (.extract (R 22) 1),ym 2 29,ym 3 30]) (aiv σ)
def ait:aw:=.seq (yr [ym 14 0,ym 15 1,ym 16 2,ym 17 4,ym 18 5,yn 19 (.call σ.ord [R 14,R 15,R 16,R 17,R 18] ae),ym 13 19,yn 20 (.extract (R 13) 0),yn 21 (.extract (R 13) 1),ym 1 20,ym 2 21]) (aiu σ)
def ais:aw:=.seq (yr [yn 12 (.cV (yi 0))]) (ait σ)
def vI(σ:gH)(sz:Nat):aL:=⟨[P.nat 0,P.nat 1,P.nat 2,P.nat 3,P.nat 4,P.nat 5],[.tmp (P.nat 12)],(ais σ)⟩
end
section
variable(σ:gH)(sz:Nat)
def aiV:aw:=.seq (yr [ym 28 2,ym 29 1,ym 10 28,ym 11 29]) .ret
def aiU:aw:=.seq (yr [ym 23 3,yn 24 (.dO (R 23)),yn 25 (.load ab (R 24)),yn 26 (.bin .add (R 25) (yi 1)),yn 27 (.dO (R 23)),ys 1 27 26]) (aiV)
def aeZ:aw:=.seq (yr [ym 30 1,ym 31 2,ym 10 30,ym 11 31]) .ret
def aiT:aw:=.seq (.seq (yr [ym 12 4,ym 13 0,ym 14 2,ya 15 sz 13 14,yl 16 sz 15,ym 17 0,ym 18 1,ya 19 sz 17 18,yl 20 sz 19,yn 21 (.bY (R 12) [R 16,R 20] ae),yn 22 (.bin .lss (R 21) (yi 0))]) (.cond (R 22) aiU .skip)) (aeZ)
def aiS:aw:=.seq (yr [yn 10 (.cV (yi 0)),yn 11 (.cV (yi 0))]) (aiT sz)
def tp(σ:gH)(sz:Nat):aL:=⟨[P.nat 0,P.nat 1,P.nat 2,P.nat 3,P.nat 4],[.tmp (P.nat 10),.tmp (P.nat 11)],(aiS sz)⟩
end
def aiB(σ:gH):aw:=.seq (yr [ym 3 0,yn 4 (.ko .u64 (R 3)),yn 5 (.call σ.len [R 4] ag),yn 6 (.bin .shl (.k (.c (.f (.int .u64 1)))) (R 5)),ym 2 6]) .ret
def aiA(σ:gH):aw:=.seq (yr [yn 2 (.cV (.k (.c (.f (.int .u64 0)))))]) (aiB σ)
def zN(σ:gH)(sz:Nat):aL:=⟨[P.nat 0],[.tmp (P.nat 2)],(aiA σ)⟩
section
variable(σ:gH)(sz:Nat)
def aiG:aw:=.seq (yr [ym 30 0,yn 31 (.dO (R 30)),yn 32 (.load ab (R 31)),ym 2 32]) .ret
def aiF:aw:=.seq (yr [ym 21 0,yn 22 (.dO (R 21)),yn 23 (.load ab (R 22)),ym 24 0,yn 25 (.dO (R 24)),yn 26 (.load ab (R 25)),yn 27 (.bin .shl (R 26) (.k (.c (.f (.int .u64 17))))),yb 28 .xor 23 27,yn 29 (.dO (R 21)),ys 1 29 28]) (aiG)
def aiE:aw:=.seq (yr [ym 12 0,yn 13 (.dO (R 12)),yn 14 (.load ab (R 13)),ym 15 0,yn 16 (.dO (R 15)),yn 17 (.load ab (R 16)),yn 18 (.bin .shr (R 17) (.k (.c (.f (.int .u64 7))))),yb 19 .xor 14 18,yn 20 (.dO (R 12)),ys 1 20 19]) (aiF)
def aiD:aw:=.seq (yr [ym 3 0,yn 4 (.dO (R 3)),yn 5 (.load ab (R 4)),ym 6 0,yn 7 (.dO (R 6)),yn 8 (.load ab (R 7)),yn 9 (.bin .shl (R 8) (.k (.c (.f (.int .u64 13))))),yb 10 .xor 5 9,yn 11 (.dO (R 3)),ys 1 11 10]) (aiE)
def aiC:aw:=.seq (yr [yn 2 (.cV (.k (.c (.f (.int .u64 0)))))]) (aiD)
def zO(σ:gH)(sz:Nat):aL:=⟨[P.nat 0],[.tmp (P.nat 2)],(aiC)⟩
end
end Km
end
namespace Km
open Go
def Cv(tab:TB)(cv:V)(W:List FC→Prop)(c:List FC→List FC→Int):Prop:=
 ∀ x y,W x→W y→∀ H,∃ F b J,bW cv [.a (x.map .f),.a (y.map .f)]=aa (.fn F,b)∧Ev tab (.fn F) b H (vi (c x y)) (H++J)
section
variable{W:List FC→Prop}{c:List FC→List FC→Int}{l:List (List FC)}
theorem jP.of_lt{i j:Nat}(hc:tQ W c)(b:∀ r ∈ l,W r){x y:List FC}(d:l[i]?=aa x)(hy:l[j]?=aa y)(h:c x y<0):jP c l i j:=fun g m h1 h2=>by
 rw [d]at h1;rw [hy]at h2;cases h1;cases h2;exact hc.yN (b _ (als d)) (b _ (als hy)) h
theorem jP.of_le{i j:Nat}{x y:List FC}(b:l[i]?=aa x)(hy:l[j]?=aa y)(h:¬ c y x<0):jP c l i j:=fun d g h1 h2=>by
 rw [b]at h1;rw [hy]at h2;cases h1;cases h2;exact h
theorem jP.get{l':List (List FC)}{i j b d:Nat}(h:jP c l i j)(h1:l'[b]?=l[i]?)(h2:l'[d]?=l[j]?):jP c l' b d:=fun x y g hy=>h x y (by rw [←h1];exact g) (by rw [←h2];exact hy)
def BW(c:List FC→List FC→Int)(a i j:Nat)(l:List (List FC)):Prop:=∀ p q,a≤p→p<q→q≤i→q≠j→jP c l p q
theorem BW.start{a i:Nat}(h:Up c a i l):BW c a i i l:=fun p q h1 h2 h3 h4=>fun x y=>h p q x y h1 h2 (by omega)
theorem BW.step{a i j:Nat}(hc:tQ W c)(u:∀ r ∈ l,W r)(h:BW c a i (j+1) l)(v:a≤j)(A:j+1≤i)(hi:i<l.length){x y:List FC}(z:l[j+1]?=aa x)(hy:l[j]?=aa y)(m:c x y<0):BW c a i j (il l (j+1) j):=by
 intro p q h1 h2 h3 h4;have g:∀ k,(il l (j+1) j)[k]?=if k=j then l[j+1]? else if k=j+1 then l[j]? else l[k]?:=fun k=>gD (by omega) (by omega) k;by_cases b:q=j+1
 ·subst b;by_cases p1:p=j
  ·subst p1;exact(jP.of_lt hc u z hy m).get (by rw [g,ba rfl]) (by rw [g,aS (by omega),ba rfl])
  ·exact(h p j h1 (by omega) (by omega) (by omega)).get (by rw [g,aS (by omega),aS (by omega)]) (by rw [g,aS (by omega),ba rfl])
 ·have d:(il l (j+1) j)[q]?=l[q]?:=by rw [g,aS h4,aS b]
  by_cases p1:p=j
  ·subst p1;exact(h (p+1) q (by omega) (by omega) h3 b).get (by rw [g,ba rfl]) d
  by_cases s:p=j+1
  ·subst s;exact(h j q v (by omega) h3 b).get (by rw [g,aS (by omega),ba rfl]) d
  ·exact(h p q h1 h2 h3 b).get (by rw [g,aS p1,aS s]) d
theorem BW.front{a i:Nat}(h:BW c a i a l):Up c a (i+1) l:=fun p q x y h1 h2 h3=>h p q h1 h2 (by omega) (by omega) x y
theorem BW.stop{a i j:Nat}(hc:tQ W c)(g:∀ r ∈ l,W r)(h:BW c a i (j+1) l)(m:a≤j)(s:j+1≤i)(hi:i<l.length)(b:jP c l j (j+1)):Up c a (i+1) l:=by
 intro p q x y h1 h2 h3;by_cases d:q=j+1
 ·subst d;by_cases p1:p=j
  ·subst p1;exact b x y
  ·exact((h p j h1 (by omega) (by omega) (by omega)).trans hc g b (by omega)) x y
 ·exact h p q h1 h2 (by omega) d x y
end
section
variable{tab:TB}{σ:gH}{sz:Nat}{H:an}{b ep:Nat}{rows:List (List FC)}{cv:V}{W:List FC→Prop}{c:List FC→List FC→Int}
theorem RB.at(h:RB H b sz ep rows){i:Nat}(hi:i<rows.length):bB H sz ab (.c (.sl b 0 rows.length 0 ep sz)) (vi i)=aa (.c (.ptr b (i*sz) ep)):=by
 have:=h.idx (n:=rows.length) (c:=0) (k:=.i64) (o:=0) (i:=(i:Int)) (by omega) (by omega);rwa [alJ,Nat.zero_add]at this
theorem RB.ldi(h:RB H b sz ep rows)(hg:bO sz rows){i:Nat}(hi:i<rows.length):aX H (aa sz) (.c (.ptr b (i*sz) ep))=aa (.a (rows[i].map .f)):=h.ldr hg (By hi)
theorem aeF(hT:tab σ.ins=aa (vq σ sz))(c_:Cv tab cv W c)(hc:tQ W c){n a e:Nat}(hn:rows.length=n)(hl:n≤1000000000)(d:RB H b sz ep rows)(hg:bO sz rows)(hW:∀ r ∈ rows,W r)(e_:a≤e)(f7:e≤n) :
  ∃ r H',Ev tab (.fn σ.ins) [.c (.sl b 0 n 0 ep sz),vi a,vi e,cv] H r H'∧(r=.t []∧Fm b H H'∧∃ l',RB H' b sz ep l'∧eM a e rows l'∧Up c a e l'):=by
 refine cH hT rfl fun Q hQ=>?_;apply ai;simp [aO (n:=(a:Int)+1)];refine az ?_;refine bJ (fun m s=>∃(i:Nat) (t:T) (X:an) (l:List (List FC)),s=⟨t,[],X⟩∧m=n+1-i∧a+1≤i∧(i≤e∨i=a+1)∧t.g 0=.c (.sl b 0 n 0 ep sz)∧t.g 1=vi a∧t.g 2=vi e∧t.g 3=cv∧t.g 8=vi i ∧
  Fm b H X∧RB X b sz ep l∧eM a e rows l∧Up c a i l) _
  ⟨a+1,_,H,rows,rfl,rfl,by omega,.inr rfl,by simp,by simp,by simp,by simp,by simp,Fm.refl H,d,eM.refl _ _ _,Up.one (by omega)⟩ ?_
 rintro m s ⟨i,t,X,l,rfl,rfl,f8,hi,B,E,L,M,I,v,d,g,c9⟩ ih;have A:=g.len;apply au;apply ai;simp [I,L];by_cases b_:i<e
 case neg=>
  refine aF (by simp [b_]) ?_;refine bg (k':=[]) rfl ?_;exact cU (hQ _ _ _ rfl rfl ⟨rfl,v,l,d,g,c9.mono (alk _) (by omega)⟩)
 refine av (by simp [b_]) (aP ?_);apply au;refine az ?_;apply ai;simp [I];refine az ?_;refine bJ (fun m s=>∃(j:Nat) (t:T) (S:an) (q:List (List FC)),s=⟨t,[],S⟩∧j=m∧a≤j∧j≤i∧t.g 0=.c (.sl b 0 n 0 ep sz)∧t.g 1=vi a∧t.g 2=vi e∧t.g 3=cv∧t.g 8=vi i∧t.g 9=vi j ∧
  Fm b H S∧RB S b sz ep q∧eM a e rows q∧BW c a i j q) i
  ⟨i,_,X,l,rfl,rfl,by omega,by omega,by simp [B],by simp [E],by simp [L],by simp [M],by simp [I],by simp,v,d,g,BW.start c9⟩ ?_
 rintro m s ⟨j,t,S,q,rfl,rfl,f_,a_,B,E,L,M,I,Y,v,d,g,z⟩ d_;have A:=g.len;have x:=g.rp hg;have K:∀ r ∈ q,W r:=fun r hr=>hW r (g.1.mem_iff.1 hr);have stop:Up c a (i+1) q→∀ t:T,t.g 0=.c (.sl b 0 n 0 ep sz)→t.g 1=vi a→t.g 2=vi e→t.g 3=cv→t.g 8=vi i→∀ U,Fm b H U→RB U b sz ep q →
   WP tab σ.ins ab [.inBlock 1,.code (wR),.inLoop (Cl sz),.inBlock 0] ⟨t,[],U⟩ Q:=by
  intro hp t B E L M I U v d;refine ax (aq (.inl rfl) ?_);simp [I,aO (n:=(i:Int)+1)];exact ih (n+1-(i+1)) _ (by omega) ⟨i+1,_,U,q,rfl,rfl,by omega,.inl (by omega),by simp [B],by simp [E],by simp [L],by simp [M],by simp,v,d,g,hp⟩
 apply au;apply ai;by_cases hj:j=a
 ·subst hj;simp [Y,E];refine aF (by simp) ?_;refine bg (k':=[.inBlock 1,.code (wR),.inLoop (Cl sz),.inBlock 0]) rfl ?_;exact stop z.front _ (by simp [B]) (by simp [E]) (by simp [L]) (by simp [M]) (by simp [I]) _ v d
 obtain⟨k,rfl⟩:∃ k,j=k+1:=⟨j-1,by omega⟩
 have O:k+1<q.length:=by omega
 have c1:((k+1:Nat):Int)=(k:Int)+1:=by omega
 have N:=d.at O;have i0:=d.at (show k<q.length by omega);have l1:=d.ldi x O;have l0:=d.ldi x (show k<q.length by omega);rw [A,hn]at N i0;rw [c1]at N Y;obtain⟨F,ar,J,a7,d9⟩:=c_ q[k+1] q[k] (K _ (IT _)) (K _ (IT _)) S;have he:=d9.eq;have gt:(a:Int)<(k:Int)+1:=by omega
 simp [Y,B,E,M,gt,N,i0,l1,l0,a7,he,-ay,aO (n:=(k:Int))];by_cases y:c q[k+1] q[k]<0
 case neg=>
  refine aF (by simp [y]) ?_;refine bg (k':=[.inBlock 1,.code (wR),.inLoop (Cl sz),.inBlock 0]) rfl ?_;exact stop (z.stop hc K (by omega) a_ (by omega) (jP.of_le (By (by omega)) (By O) y)) _ (by simp [B]) (by simp [E]) (by simp [L]) (by simp [M]) (by simp [I]) _ (v.trans (Fm.push _ _)) (d.push _)
 refine av (by simp [y]) (aP ?_);have w1:q[k+1].length=sz:=x _ (IT _);have w0:q[k].length=sz:=x _ (IT _);have u:=d.push J;obtain⟨HJ,Z⟩:=aN (S++J);rw [←Z]at u ⊢;have a8:Fm b H HJ:=by rw [Z];exact v.trans (Fm.push _ _)
 have N:=u.at O;have i0:=u.at (show k<q.length by omega);have l1:=u.ldi x O;have l0:=u.ldi x (show k<q.length by omega);obtain⟨U,H4,s1,r1,s2,r2,f2⟩:=u.swap x O (show k<q.length by omega);have i2:=r1.at (show k<(q.set (k+1) q[k]).length by simp;omega);rw [alI]at i2;rw [A,hn]at N i0 i2;rw [c1]at N;apply au;refine az ?_;refine aq (.inl rfl) ?_;simp [Y,B,N,i0,i2,l1,l0,s1,s2,w1,w0,-ay,-bw,aO (n:=(k:Int))];refine ax ?_;refine aq (.inl rfl) ?_;simp [Y,aO (n:=(k:Int))];exact d_ k _ (by omega) ⟨k,_,H4,il q (k+1) k,rfl,rfl,by omega,by omega,by simp [B],by simp [E],by simp [L],by simp [M],by simp [I],by simp,a8.trans f2,r2,
  g.trans (fh (by omega) (by omega) (by omega) (by omega) (by omega)),z.step hc K (by omega) a_ (by omega) (By O) (By (by omega)) y⟩
end
end Km
namespace Km
open Go
section
variable{tab:TB}{σ:gH}{sz:Nat}{H:an}{b ep:Nat}{rows:List (List FC)}{cv:V}{W:List FC→Prop}{c:List FC→List FC→Int}
theorem RB.il(h:RB H b sz ep rows)(hg:bO sz rows){n i j:Nat}(s:rows.length=n)(hi:i<n)(l:j<n):∃(x y:List FC) (d g:an),rows[i]?=aa x∧rows[j]?=aa y ∧
  bB H sz ab (.c (.sl b 0 n 0 ep sz)) (vi i)=aa (.c (.ptr b (i*sz) ep))∧bB H sz ab (.c (.sl b 0 n 0 ep sz)) (vi j)=aa (.c (.ptr b (j*sz) ep)) ∧
  aX H (aa sz) (.c (.ptr b (i*sz) ep))=aa (.a (x.map .f))∧aX H (aa sz) (.c (.ptr b (j*sz) ep))=aa (.a (y.map .f))∧x.length=sz∧y.length=sz ∧
  dt H (.ptr b (i*sz) ep) (y.map .f)=aa d∧bB d sz ab (.c (.sl b 0 n 0 ep sz)) (vi j)=aa (.c (.ptr b (j*sz) ep))∧dt d (.ptr b (j*sz) ep) (x.map .f)=aa g∧RB g b sz ep (il rows i j)∧Fm b H g:=by
 subst s;obtain⟨d,g,z,u,A,v,q⟩:=h.swap hg hi l;have m:=u.at (show j<(rows.set i rows[j]).length by simpa using l);rw [alI]at m;exact⟨rows[i],rows[j],d,g,By hi,By l,h.at hi,h.at l,h.ldi hg hi,h.ldi hg l,hg _ (IT _),hg _ (IT _),z,m,A,v,q⟩
theorem RB.ask(h:RB H b sz ep rows)(hg:bO sz rows)(l:Cv tab cv W c)(g:∀ r ∈ rows,W r){n i j:Nat}(q:rows.length=n)(hi:i<n)(m:j<n):∃(x y:List FC) (F:Nat) (d:List V) (J:an),rows[i]?=aa x∧rows[j]?=aa y ∧
  bB H sz ab (.c (.sl b 0 n 0 ep sz)) (vi i)=aa (.c (.ptr b (i*sz) ep))∧bB H sz ab (.c (.sl b 0 n 0 ep sz)) (vi j)=aa (.c (.ptr b (j*sz) ep)) ∧
  aX H (aa sz) (.c (.ptr b (i*sz) ep))=aa (.a (x.map .f))∧aX H (aa sz) (.c (.ptr b (j*sz) ep))=aa (.a (y.map .f)) ∧
  bW cv [.a (x.map .f),.a (y.map .f)]=aa (.fn F,d)∧Ev tab (.fn F) d H=E2 (vi (c x y)) (H++J)∧W x∧W y:=by
 subst q;obtain⟨F,d,J,h1,h2⟩:=l rows[i] rows[j] (g _ (IT _)) (g _ (IT _)) H;exact⟨rows[i],rows[j],F,d,J,By hi,By m,h.at hi,h.at m,h.ldi hg hi,h.ldi hg m,h1,h2.eq,g _ (IT _),g _ (IT _)⟩
theorem af6(L:tab σ.rev=aa (CU σ sz)){n a e:Nat}(X:rows.length=n)(hl:n≤1000000000)(q:RB H b sz ep rows)(O:bO sz rows)(M:a<e)(N:e≤n) :
  ∃ r H',Ev tab (.fn σ.rev) [.c (.sl b 0 n 0 ep sz),vi a,vi e,cv] H r H'∧(r=.t []∧Fm b H H'∧∃ l',RB H' b sz ep l'∧eM a e rows l'):=by
 refine cH L rfl fun Q K=>?_;obtain⟨d,rfl⟩:∃ d,e=d+1:=⟨e-1,by omega⟩
 apply ai;simp;apply ai;simp [aO (n:=(d:Int))];refine az ?_;refine bJ (fun m s=>∃(i j:Nat) (t:T) (A:an) (l:List (List FC)),s=⟨t,[],A⟩∧m=n+1-i∧a≤i∧j≤d∧i≤j+1∧t.g 0=.c (.sl b 0 n 0 ep sz)∧t.g 8=vi i∧t.g 9=vi j ∧
  Fm b H A∧RB A b sz ep l∧eM a (d+1) rows l) _
  ⟨a,d,_,H,rows,rfl,rfl,by omega,by omega,by omega,by simp,by simp,by simp,Fm.refl H,q,eM.refl _ _ _⟩ ?_
 rintro m s ⟨i,j,t,A,l,rfl,rfl,S,W,U,F,B,E,u,q,g⟩ Z;have v:=g.len;apply au;apply ai;simp [B,E];by_cases z:i<j
 case neg=>
  refine aF (by simp [z]) ?_;refine bg (k':=[]) rfl ?_;exact cU (K _ _ _ rfl rfl ⟨rfl,u,l,q,g⟩)
 refine av (by simp [z]) (aP ?_);obtain⟨x,y,H2,I,-,-,Y,j1,l1,l2,w1,w2,s1,j2,s2,r2,J⟩:=q.il (g.rp O) (v.trans X) (i:=i) (j:=j) (by omega) (by omega);refine az ?_;apply ai;simp [F,B,E,Y,j1,l1,l2,w1,w2,s1,j2,s2,-ay,-bw];apply ai;simp [B,aO (n:=(i:Int)+1)];refine aq (.inl rfl) ?_;simp [E,aO (n:=(j:Int)-1)];refine ax ?_;refine Z (n+1-(i+1)) _ (by omega) ⟨i+1,j-1,_,I,il l i j,rfl,rfl,by omega,by omega,by omega,by simp [F],by simp,by simp;omega,u.trans J,r2,g.trans (fh (by omega) (by omega) (by omega) (by omega) (by omega))⟩
def NB(H:an)(p:Nat):Prop:=∃ k:Int,H[p]?=aa (.box [.f (fi k)] 0)
theorem NB.push{p:Nat}(h:NB H p)(J:an):NB (H++J) p:=by
 obtain⟨k,h⟩:=h;exact⟨k,by rw [AT (aj h)];exact h⟩
theorem ae0(z:tab σ.ord=aa (tp σ sz))(m:Cv tab cv W c){n p i j:Nat}(K:rows.length=n)(s:RB H b sz ep rows)(E:bO sz rows)(A:∀ r ∈ rows,W r)(hi:i<n)(I:j<n)(v:NB H p)(L:p≠b) :
  ∃ r H',Ev tab (.fn σ.ord) [.c (.sl b 0 n 0 ep sz),vi i,vi j,.c (.ptr p 0 0),cv] H r H'∧((r=.t [vi i,vi j]∨r=.t [vi j,vi i])∧Fm p H H'∧NB H' p):=by
 refine cH z rfl fun Q u=>?_;obtain⟨x,y,F,U,J,-,-,M,N,O,S,d,B,-,-⟩:=s.ask E m A K I hi;obtain⟨k,l⟩:=v.push J;have q:=aj l;apply ai;simp;apply au;apply ai;simp [M,N,O,S,d,B,-ay];by_cases g:c x y<0
 ·refine av (by simp [g]) (ai ?_);simp [l];apply ai;simp;refine aD (u _ _ (.t [vi j,vi i]) rfl (by simp [Km.results,aZ]) ⟨.inr rfl,?_,?_⟩)
  ·exact(Fm.push _ _).trans (Fm.set _ _)
  ·exact⟨_,BY q⟩
 ·refine aF (by simp [g]) (aP (ai ?_));simp;exact aD (u _ _ (.t [vi i,vi j]) rfl (by simp [Km.results,aZ]) ⟨.inl rfl,Fm.push _ _,v.push J⟩)
theorem UK(Y:tab σ.Jw=aa (vI σ sz))(U:tab σ.ord=aa (tp σ sz))(l:Cv tab cv W c){n p i j k:Nat}(f:rows.length=n)(d:RB H b sz ep rows)(a:bO sz rows)(Z:∀ r ∈ rows,W r)(hi:i<n)(m:j<n)(e:k<n)(s:NB H p)(g:p≠b) :
  ∃ r H',Ev tab (.fn σ.Jw) [.c (.sl b 0 n 0 ep sz),vi i,vi j,vi k,.c (.ptr p 0 0),cv] H r H'∧((∃ q:Nat,r=vi q∧(q=i∨q=j∨q=k))∧Fm p H H'∧NB H' p):=by
 have key:∀ {H:an} {i j:Nat},RB H b sz ep rows→NB H p→i<n→j<n→∃(x y:Nat) (H':an),Ev tab (.fn σ.ord) [.c (.sl b 0 n 0 ep sz),vi i,vi j,.c (.ptr p 0 0),cv] H=E2 (.t [vi x,vi y]) H'∧(x=i∧y=j∨x=j∧y=i)∧Fm p H H'∧NB H' p:=by
  intro H i j d s hi m;obtain⟨r,H',A,h,B,z⟩:=ae0 U l f d a Z hi m s g;rcases h with rfl | rfl
  ·exact⟨i,j,H',A.eq,.inl ⟨rfl,rfl⟩,B,z⟩
  ·exact⟨j,i,H',A.eq,.inr ⟨rfl,rfl⟩,B,z⟩
 obtain⟨t,y1,I,M,o1,u,b1⟩:=key d s hi m;have E:RB I b sz ep rows:=u.get d (Ne.symm g);obtain⟨w,y2,J,N,o2,v,K⟩:=key E b1 (show y1<n by omega) e;have o:RB J b sz ep rows:=v.get E (Ne.symm g);obtain⟨x3,F,H3,O,o3,S,L⟩:=key o K (show t<n by omega) (show w<n by omega);refine cH Y rfl fun Q X=>?_;apply ai;simp;apply ai;simp [M];apply ai;simp [N];apply ai;simp [O];apply ai;simp;refine aD (X _ _ (vi F) rfl (by simp [Km.results,aZ]) ⟨⟨F,rfl,by omega⟩,u.trans (v.trans S),L⟩)
theorem xd(y:tab σ.qo=aa (sV σ sz))(u:tab σ.Jw=aa (vI σ sz))(v:tab σ.ord=aa (tp σ sz))(l:Cv tab cv W c){n p i:Nat}(F:rows.length=n)(K:n≤1000000000)(s:RB H b sz ep rows)(E:bO sz rows)(z:∀ r ∈ rows,W r)(J:0<i)(hi:i+1<n)(I:NB H p)(m:p≠b) :
  ∃ r H',Ev tab (.fn σ.qo) [.c (.sl b 0 n 0 ep sz),vi i,.c (.ptr p 0 0),cv] H r H'∧((∃ q:Nat,r=vi q∧i≤q+1∧q≤i+1)∧Fm p H H'∧NB H' p):=by
 obtain⟨d,rfl⟩:∃ d,i=d+1:=⟨i-1,by omega⟩
 obtain⟨r,H',g,⟨q,rfl,L⟩,B,A⟩:=UK (i:=d) (j:=d+1) (k:=d+1+1) u v l F s E z (by omega) (by omega) hi I m;refine cH y rfl fun Q x=>?_;have g:=g.eq;simp at g;apply ai;simp;apply ai;simp [aO (n:=(d:Int)),aO (n:=(d:Int)+1+1),g];exact aD (x _ _ (vi q) rfl (by simp [Km.results,aZ]) ⟨⟨q,rfl,by omega,by omega⟩,B,A⟩)
def Kp(H H':an):Prop:=H.length≤H'.length∧∀ b:Nat,b<H.length→H'[b]?=H[b]?
theorem Kp.fm{b:Nat}{H H':an}(h:Kp H H'):Fm b H H':=⟨h.1,fun d _ l=>h.2 d l⟩
theorem Kp.push(H J:an):Kp H (H++J):=⟨by simp,fun b l=>AT l⟩
theorem Kp.next{H H' b:an}{p:Nat}(h:Kp H H')(j:H.length≤p)(g:Fm p H' b):Kp H b:=⟨alL h.1 g.1,fun d l=>(g.2 d (by omega) (aml l h.1)).trans (h.2 d l)⟩
theorem Kp.rb{H H':an}{b sz ep:Nat}{rows:List (List FC)}(h:Kp H H')(hb:RB H b sz ep rows):RB H' b sz ep rows:=by
 unfold RB at *;rw [h.2 b (aj hb)];exact hb
theorem abJ{a b:Nat}(s:0<b)(m:a≤9223372036854775807):bP .quo (vi a) (vi b)=aa (vi ((a / b:Nat):Int)):=by
 have g:(a / b:Nat)≤a:=Nat.div_le_self a b;obtain⟨q,d⟩:=aN (a / b);have j:((a:Int) / b)=(q:Int):=by rw [d];simp
 have l:q≤a:=by rw [d];exact g
 rw [←d,oC (by omega),Int.tdiv_eq_ediv_of_nonneg (by omega),j,aO]
theorem afU(hT:tab σ.Kg=aa (CO σ sz))(Z:tab σ.qo=aa (sV σ sz))(F:tab σ.Jw=aa (vI σ sz))(I:tab σ.ord=aa (tp σ sz))(v:Cv tab cv W c){n a e:Nat}(M:rows.length=n)(hl:n≤1000000000)(m:RB H b sz ep rows)(K:bO sz rows)(J:∀ r ∈ rows,W r)(b_:a+8≤e)(c_:e≤n) :
  ∃ r H',Ev tab (.fn σ.Kg) [.c (.sl b 0 n 0 ep sz),vi a,vi e,cv] H r H'∧((∃(q:Nat) (h:Int),r=.t [vi q,vi h]∧a≤q∧q<e)∧Kp H H'):=by
 obtain⟨L,rfl⟩:∃ L,e=a+L:=⟨e-a,by omega⟩
 obtain⟨d,hd⟩:=aN (L / 4);have N:bP .quo (vi (L:Int)) (vi 4)=aa (vi (d:Int)):=by
  have:=abJ (a:=L) (b:=4) (by omega) (by omega);rw [hd];exact this
 have c9:=m.lt;have hw:IntKind.i64.wrap ((a:Int)+L-a)=L:=by rw [aO];omega
 refine cH hT rfl fun Q hQ=>?_;have O:∀(t:T) (s:an) (q:Nat),t.g 11=.c (.ptr H.length 0 0)→t.g 13=vi q→a≤q→q<a+L→NB s H.length→Kp H s→WP tab σ.Kg ab [.code (Bm)] ⟨t,[],s⟩ Q:=by
  intro t s q u l X Y ⟨k,hk⟩ g;apply ai;simp [u,hk];refine az ?_;apply ai;simp;by_cases k1:k=0
  ·refine av (by simp [k1]) (ai ?_);simp [l];exact aD (hQ _ _ (.t [vi q,vi 1]) rfl (by simp [Km.results,aZ]) ⟨⟨q,1,rfl,X,Y⟩,g⟩)
  refine aF (by simp [k1]) ?_;apply ai;simp;by_cases k2:k=12
  ·refine av (by simp [k2]) (ai ?_);simp [l];exact aD (hQ _ _ (.t [vi q,vi 2]) rfl (by simp [Km.results,aZ]) ⟨⟨q,2,rfl,X,Y⟩,g⟩)
  refine aF (by simp [k2]) ?_;apply ai;simp [l];exact aD (hQ _ _ (.t [vi q,vi 0]) rfl (by simp [Km.results,aZ]) ⟨⟨q,0,rfl,X,Y⟩,g⟩)
 have mid:∀(t:T) (s:an) (i j k:Nat),t.g 0=.c (.sl b 0 n 0 ep sz)→t.g 3=cv→t.g 11=.c (.ptr H.length 0 0)→t.g 12=vi i→t.g 13=vi j→t.g 14=vi k→a≤i→i<a+L→a≤j→j<a+L→a≤k→k<a+L→NB s H.length→Kp H s →
   WP tab σ.Kg ab [.code (Vg σ),.code (Bm)] ⟨t,[],s⟩ Q:=by
  intro t s i j k g0 g3 u S l U i1 i2 j1 j2 k1 k2 x g;obtain⟨r,H3,he,⟨q,rfl,N⟩,hf,a7⟩:=UK (p:=H.length) (i:=i) (j:=j) (k:=k) F I v M (g.rb m) K J (by omega) (by omega) (by omega) x (by omega);have he:=he.eq;refine aq (.inl rfl) ?_;simp [g0,g3,u,S,l,U,he];exact O _ H3 q (by simp [u]) (by simp) (by omega) (by omega) a7 (g.next (alk _) hf)
 apply ai;simp;apply ai;simp [hw];apply ai;simp;apply ai;simp [N,aO (n:=(d:Int)),aO (n:=(a:Int)+d)];apply ai;simp [N,aO (n:=(d:Int)*2),aO (n:=(a:Int)+d*2)];apply ai;simp [N,aO (n:=(d:Int)*3),aO (n:=(a:Int)+d*3)];apply au;apply ai;simp;refine av (by simp;omega) ?_;apply au;apply ai;simp;have x:NB (H++[.box [.f (fi 0)] 0]) H.length:=⟨0,by simp⟩
 have g:Kp H (H++[.box [.f (fi 0)] 0]):=Kp.push _ _;by_cases a_:50≤L
 case neg=>
  refine aF (by simp;omega) (aP ?_);exact mid _ _ (a+d) (a+d*2) (a+d*3) (by simp) (by simp) (by simp) (by simp) (by simp) (by simp) (by omega) (by omega) (by omega) (by omega) (by omega) (by omega) x g
 refine av (by simp;omega) ?_;obtain⟨r1,H1,A,⟨q1,rfl,d9⟩,f1,b1⟩:=xd (p:=H.length) (i:=a+d) Z F I v M hl (g.rb m) K J (by omega) (by omega) x (by omega);have y:=g.next (alk _) f1;obtain⟨r2,s,B,⟨q2,rfl,d_⟩,f2,b2⟩:=xd (p:=H.length) (i:=a+d*2) Z F I v M hl (y.rb m) K J (by omega) (by omega) b1 (by omega);have z:=y.next (alk _) f2;obtain⟨r3,H3,E,⟨q3,rfl,e_⟩,f3,b3⟩:=xd (p:=H.length) (i:=a+d*3) Z F I v M hl (z.rb m) K J (by omega) (by omega) b2 (by omega);have a8:=z.next (alk _) f3;have A:=A.eq;have B:=B.eq;have E:=E.eq;simp at A B E;apply ai;simp [A];apply ai;simp [B];refine aq (.inl rfl) ?_;simp [E];exact mid _ _ q1 q2 q3 (by simp) (by simp) (by simp) (by simp) (by simp) (by simp) (by omega) (by omega) (by omega) (by omega) (by omega) (by omega) b3 a8
end
end Km
namespace Km
open Go
section
variable{tab:TB}{σ:gH}{sz:Nat}{cv:V}{W:List FC→Prop}{c:List FC→List FC→Int}
theorem U8{n a e i j ep b:Nat}{rows:List (List FC)}{p:List FC}{H0:an}{k:List cP}{Q:Option aw→St→Prop}(S:Cv tab cv W c)(hn:rows.length=n)(hl:n≤1000000000)(hg:bO sz rows)(hW:∀ r ∈ rows,W r)
  {t:T} {H:an} (a7:a<i) (a_:i≤j+1) (b_:j<e) (a8:e≤n) (hp:rows[a]?=aa p)
  (A:t.g 0=.c (.sl b 0 n 0 ep sz)) (B:t.g 1=vi a) (E:t.g 4=cv) (v:t.g 12=vi i) (u:t.g 13=vi j) (l:Fm b H0 H) (g:RB H b sz ep rows)
  (next:∀(t:T) (H:an) (K:Nat),(i≤K∧K≤j+1)→(∀(q:Nat) x,i≤q→q<K→rows[q]?=aa x→c x p<0)→(j<K∨∀ x,rows[K]?=aa x→¬ c x p<0) →
   t.g 0=.c (.sl b 0 n 0 ep sz)→t.g 1=vi a→t.g 4=cv→t.g 12=vi K→t.g 13=vi j→Fm b H0 H→RB H b sz ep rows→WP tab σ.part ab k ⟨t,[],H⟩ Q) :
  WP tab σ.part ab (.code (U5 sz)::k) ⟨t,[],H⟩ Q:=by
 refine az ?_;refine bJ (fun m s=>∃(q:Nat) (t:T) (N:an),s=⟨t,[],N⟩∧(q+m=j+1∧i≤q)∧(∀(r:Nat) x,i≤r→r<q→rows[r]?=aa x→c x p<0) ∧
   t.g 0=.c (.sl b 0 n 0 ep sz)∧t.g 1=vi a∧t.g 4=cv∧t.g 12=vi q∧t.g 13=vi j∧Fm b H0 N∧RB N b sz ep rows) (j+1-i)
  ⟨i,_,H,rfl,by omega,fun r x Y Z=>by omega,A,B,E,v,u,l,g⟩ ?_
 rintro m s ⟨q,t,N,rfl,hm,d,A,B,E,v,u,l,g⟩ ih;apply au;apply ai;by_cases M:q≤j
 case neg=>
  simp [v,u,M];refine aF (by simp) ?_;refine bg (k':=k) rfl ?_;exact next _ _ q (by omega) d (.inl (by omega)) (by simp [A]) (by simp [B]) (by simp [E]) (by simp [v]) (by simp [u]) l g
 obtain⟨x,y,F,ar,J,U,X,i1,j1,l1,l2,L,he,-,-⟩:=g.ask hg S hW hn (i:=q) (j:=a) (by omega) (by omega);simp [v,u,M,A,B,E,i1,j1,l1,l2,L,he,-ay];have ep:p=y:=by rw [hp]at X;exact amS X
 subst ep;by_cases O:c x p<0
 case neg=>
  refine aF (by simp [O]) ?_;refine bg (k':=k) rfl ?_;refine next _ _ q (by omega) d (.inr fun z I=>?_) (by simp [A]) (by simp [B]) (by simp [E]) (by simp [v]) (by simp [u]) (l.trans (Fm.push _ _)) (g.push _)
  rw [U]at I;cases I;exact O
 refine av (by simp [O]) (aP ?_);refine az (aq (.inl rfl) ?_);simp [v,u,aO (n:=(q:Int)+1)];refine ax (ih (m-1) _ (by omega) ⟨q+1,_,_,rfl,by omega,fun r z Y Z I=>?_,by simp [A],by simp [B],by simp [E],by simp,by simp [u],l.trans (Fm.push _ _),g.push _⟩);by_cases hr:r=q
 ·subst hr;rw [U]at I;cases I;exact O
 ·exact d r z (by omega) (by omega) I
theorem U6{n a e i j ep b:Nat}{rows:List (List FC)}{p:List FC}{H0:an}{k:List cP}{Q:Option aw→St→Prop}(S:Cv tab cv W c)(hn:rows.length=n)(hl:n≤1000000000)(hg:bO sz rows)(hW:∀ r ∈ rows,W r)
  {t:T} {H:an} (a7:a<i) (a_:i≤j+1) (b_:j<e) (a8:e≤n) (hp:rows[a]?=aa p)
  (A:t.g 0=.c (.sl b 0 n 0 ep sz)) (B:t.g 1=vi a) (E:t.g 4=cv) (u:t.g 12=vi i) (v:t.g 13=vi j) (l:Fm b H0 H) (g:RB H b sz ep rows)
  (next:∀(t:T) (H:an) (K:Nat),(K≤j∧i≤K+1)→(∀(q:Nat) x,K<q→q≤j→rows[q]?=aa x→¬ c x p<0)→(K<i∨∀ x,rows[K]?=aa x→¬ ¬ c x p<0) →
   t.g 0=.c (.sl b 0 n 0 ep sz)→t.g 1=vi a→t.g 4=cv→t.g 12=vi i→t.g 13=vi K→Fm b H0 H→RB H b sz ep rows→WP tab σ.part ab k ⟨t,[],H⟩ Q) :
  WP tab σ.part ab (.code (Cy sz)::k) ⟨t,[],H⟩ Q:=by
 refine az ?_;refine bJ (fun m s=>∃(q:Nat) (t:T) (N:an),s=⟨t,[],N⟩∧(q+1=i+m∧q≤j)∧(∀(r:Nat) x,q<r→r≤j→rows[r]?=aa x→¬ c x p<0) ∧
   t.g 0=.c (.sl b 0 n 0 ep sz)∧t.g 1=vi a∧t.g 4=cv∧t.g 12=vi i∧t.g 13=vi q∧Fm b H0 N∧RB N b sz ep rows) (j+1-i)
  ⟨j,_,H,rfl,by omega,fun r x Y Z=>by omega,A,B,E,u,v,l,g⟩ ?_
 rintro m s ⟨q,t,N,rfl,hm,d,A,B,E,u,v,l,g⟩ ih;apply au;apply ai;by_cases M:i≤q
 case neg=>
  simp [u,v,M];refine aF (by simp) ?_;refine bg (k':=k) rfl ?_;exact next _ _ q (by omega) d (.inl (by omega)) (by simp [A]) (by simp [B]) (by simp [E]) (by simp [u]) (by simp [v]) l g
 obtain⟨x,y,F,ar,J,U,X,i1,j1,l1,l2,L,he,-,-⟩:=g.ask hg S hW hn (i:=q) (j:=a) (by omega) (by omega);simp [u,v,M,A,B,E,i1,j1,l1,l2,L,he,-ay];have ep:p=y:=by rw [hp]at X;exact amS X
 subst ep;by_cases O:c x p<0
 case pos=>
  refine aF (by simp [O]) ?_;refine bg (k':=k) rfl ?_;refine next _ _ q (by omega) d (.inr fun z I=>?_) (by simp [A]) (by simp [B]) (by simp [E]) (by simp [u]) (by simp [v]) (l.trans (Fm.push _ _)) (g.push _)
  rw [U]at I;cases I;exact fun h=>h O
 refine av (by simp [O]) (aP ?_);refine az (aq (.inl rfl) ?_);simp [u,v,aO (n:=(q:Int)-1)];refine ax (ih (m-1) _ (by omega) ⟨q-1,_,_,rfl,by omega,fun r z Y Z I=>?_,by simp [A],by simp [B],by simp [E],by simp [u],by simp;omega,l.trans (Fm.push _ _),g.push _⟩);by_cases hr:r=q
 ·subst hr;rw [U]at I;cases I;exact O
 ·exact d r z (by omega) (by omega) I
theorem U9{n a e i j ep b:Nat}{rows:List (List FC)}{p:List FC}{H0:an}{k:List cP}{Q:Option aw→St→Prop}(S:Cv tab cv W c)(hn:rows.length=n)(hl:n≤1000000000)(hg:bO sz rows)(hW:∀ r ∈ rows,W r)
  {t:T} {H:an} (a7:a<i) (a_:i≤j+1) (b_:j<e) (a8:e≤n) (hp:rows[a]?=aa p)
  (A:t.g 0=.c (.sl b 0 n 0 ep sz)) (B:t.g 1=vi a) (E:t.g 4=cv) (v:t.g 12=vi i) (u:t.g 13=vi j) (l:Fm b H0 H) (g:RB H b sz ep rows)
  (next:∀(t:T) (H:an) (K:Nat),(i≤K∧K≤j+1)→(∀(q:Nat) x,i≤q→q<K→rows[q]?=aa x→c x p<0)→(j<K∨∀ x,rows[K]?=aa x→¬ c x p<0) →
   t.g 0=.c (.sl b 0 n 0 ep sz)→t.g 1=vi a→t.g 4=cv→t.g 12=vi K→t.g 13=vi j→Fm b H0 H→RB H b sz ep rows→WP tab σ.part ab k ⟨t,[],H⟩ Q) :
  WP tab σ.part ab (.code (Cz sz)::k) ⟨t,[],H⟩ Q:=by
 refine az ?_;refine bJ (fun m s=>∃(q:Nat) (t:T) (N:an),s=⟨t,[],N⟩∧(q+m=j+1∧i≤q)∧(∀(r:Nat) x,i≤r→r<q→rows[r]?=aa x→c x p<0) ∧
   t.g 0=.c (.sl b 0 n 0 ep sz)∧t.g 1=vi a∧t.g 4=cv∧t.g 12=vi q∧t.g 13=vi j∧Fm b H0 N∧RB N b sz ep rows) (j+1-i)
  ⟨i,_,H,rfl,by omega,fun r x Y Z=>by omega,A,B,E,v,u,l,g⟩ ?_
 rintro m s ⟨q,t,N,rfl,hm,d,A,B,E,v,u,l,g⟩ ih;apply au;apply ai;by_cases M:q≤j
 case neg=>
  simp [v,u,M];refine aF (by simp) ?_;refine bg (k':=k) rfl ?_;exact next _ _ q (by omega) d (.inl (by omega)) (by simp [A]) (by simp [B]) (by simp [E]) (by simp [v]) (by simp [u]) l g
 obtain⟨x,y,F,ar,J,U,X,i1,j1,l1,l2,L,he,-,-⟩:=g.ask hg S hW hn (i:=q) (j:=a) (by omega) (by omega);simp [v,u,M,A,B,E,i1,j1,l1,l2,L,he,-ay];have ep:p=y:=by rw [hp]at X;exact amS X
 subst ep;by_cases O:c x p<0
 case neg=>
  refine aF (by simp [O]) ?_;refine bg (k':=k) rfl ?_;refine next _ _ q (by omega) d (.inr fun z I=>?_) (by simp [A]) (by simp [B]) (by simp [E]) (by simp [v]) (by simp [u]) (l.trans (Fm.push _ _)) (g.push _)
  rw [U]at I;cases I;exact O
 refine av (by simp [O]) (aP ?_);refine az (aq (.inl rfl) ?_);simp [v,u,aO (n:=(q:Int)+1)];refine ax (ih (m-1) _ (by omega) ⟨q+1,_,_,rfl,by omega,fun r z Y Z I=>?_,by simp [A],by simp [B],by simp [E],by simp,by simp [u],l.trans (Fm.push _ _),g.push _⟩);by_cases hr:r=q
 ·subst hr;rw [U]at I;cases I;exact O
 ·exact d r z (by omega) (by omega) I
theorem U7{n a e i j ep b:Nat}{rows:List (List FC)}{p:List FC}{H0:an}{k:List cP}{Q:Option aw→St→Prop}(S:Cv tab cv W c)(hn:rows.length=n)(hl:n≤1000000000)(hg:bO sz rows)(hW:∀ r ∈ rows,W r)
  {t:T} {H:an} (a7:a<i) (a_:i≤j+1) (b_:j<e) (a8:e≤n) (hp:rows[a]?=aa p)
  (A:t.g 0=.c (.sl b 0 n 0 ep sz)) (B:t.g 1=vi a) (E:t.g 4=cv) (u:t.g 12=vi i) (v:t.g 13=vi j) (l:Fm b H0 H) (g:RB H b sz ep rows)
  (next:∀(t:T) (H:an) (K:Nat),(K≤j∧i≤K+1)→(∀(q:Nat) x,K<q→q≤j→rows[q]?=aa x→¬ c x p<0)→(K<i∨∀ x,rows[K]?=aa x→¬ ¬ c x p<0) →
   t.g 0=.c (.sl b 0 n 0 ep sz)→t.g 1=vi a→t.g 4=cv→t.g 12=vi i→t.g 13=vi K→Fm b H0 H→RB H b sz ep rows→WP tab σ.part ab k ⟨t,[],H⟩ Q) :
  WP tab σ.part ab (.code (CA sz)::k) ⟨t,[],H⟩ Q:=by
 refine az ?_;refine bJ (fun m s=>∃(q:Nat) (t:T) (N:an),s=⟨t,[],N⟩∧(q+1=i+m∧q≤j)∧(∀(r:Nat) x,q<r→r≤j→rows[r]?=aa x→¬ c x p<0) ∧
   t.g 0=.c (.sl b 0 n 0 ep sz)∧t.g 1=vi a∧t.g 4=cv∧t.g 12=vi i∧t.g 13=vi q∧Fm b H0 N∧RB N b sz ep rows) (j+1-i)
  ⟨j,_,H,rfl,by omega,fun r x Y Z=>by omega,A,B,E,u,v,l,g⟩ ?_
 rintro m s ⟨q,t,N,rfl,hm,d,A,B,E,u,v,l,g⟩ ih;apply au;apply ai;by_cases M:i≤q
 case neg=>
  simp [u,v,M];refine aF (by simp) ?_;refine bg (k':=k) rfl ?_;exact next _ _ q (by omega) d (.inl (by omega)) (by simp [A]) (by simp [B]) (by simp [E]) (by simp [u]) (by simp [v]) l g
 obtain⟨x,y,F,ar,J,U,X,i1,j1,l1,l2,L,he,-,-⟩:=g.ask hg S hW hn (i:=q) (j:=a) (by omega) (by omega);simp [u,v,M,A,B,E,i1,j1,l1,l2,L,he,-ay];have ep:p=y:=by rw [hp]at X;exact amS X
 subst ep;by_cases O:c x p<0
 case pos=>
  refine aF (by simp [O]) ?_;refine bg (k':=k) rfl ?_;refine next _ _ q (by omega) d (.inr fun z I=>?_) (by simp [A]) (by simp [B]) (by simp [E]) (by simp [u]) (by simp [v]) (l.trans (Fm.push _ _)) (g.push _)
  rw [U]at I;cases I;exact fun h=>h O
 refine av (by simp [O]) (aP ?_);refine az (aq (.inl rfl) ?_);simp [u,v,aO (n:=(q:Int)-1)];refine ax (ih (m-1) _ (by omega) ⟨q-1,_,_,rfl,by omega,fun r z Y Z I=>?_,by simp [A],by simp [B],by simp [E],by simp [u],by simp;omega,l.trans (Fm.push _ _),g.push _⟩);by_cases hr:r=q
 ·subst hr;rw [U]at I;cases I;exact O
 ·exact d r z (by omega) (by omega) I
theorem afE{n a e i j ep b:Nat}{rows:List (List FC)}{p:List FC}{H0:an}{k:List cP}{Q:Option aw→St→Prop}(S:Cv tab cv W c)(hn:rows.length=n)(hl:n≤1000000000)(hg:bO sz rows)(hW:∀ r ∈ rows,W r)
  {t:T} {H:an} (a7:a<i) (a_:i≤j+1) (b_:j<e) (a8:e≤n) (hp:rows[a]?=aa p)
  (A:t.g 0=.c (.sl b 0 n 0 ep sz)) (B:t.g 1=vi a) (E:t.g 4=cv) (v:t.g 11=vi i) (u:t.g 12=vi j) (l:Fm b H0 H) (g:RB H b sz ep rows)
  (next:∀(t:T) (H:an) (K:Nat),(i≤K∧K≤j+1)→(∀(q:Nat) x,i≤q→q<K→rows[q]?=aa x→¬ c p x<0)→(j<K∨∀ x,rows[K]?=aa x→¬ ¬ c p x<0) →
   t.g 0=.c (.sl b 0 n 0 ep sz)→t.g 1=vi a→t.g 4=cv→t.g 11=vi K→t.g 12=vi j→Fm b H0 H→RB H b sz ep rows→WP tab σ.CE ab k ⟨t,[],H⟩ Q) :
  WP tab σ.CE ab (.code (Vd sz)::k) ⟨t,[],H⟩ Q:=by
 refine az ?_;refine bJ (fun m s=>∃(q:Nat) (t:T) (N:an),s=⟨t,[],N⟩∧(q+m=j+1∧i≤q)∧(∀(r:Nat) x,i≤r→r<q→rows[r]?=aa x→¬ c p x<0) ∧
   t.g 0=.c (.sl b 0 n 0 ep sz)∧t.g 1=vi a∧t.g 4=cv∧t.g 11=vi q∧t.g 12=vi j∧Fm b H0 N∧RB N b sz ep rows) (j+1-i)
  ⟨i,_,H,rfl,by omega,fun r x Y Z=>by omega,A,B,E,v,u,l,g⟩ ?_
 rintro m s ⟨q,t,N,rfl,hm,d,A,B,E,v,u,l,g⟩ ih;apply au;apply ai;by_cases M:q≤j
 case neg=>
  simp [v,u,M];refine aF (by simp) ?_;refine bg (k':=k) rfl ?_;exact next _ _ q (by omega) d (.inl (by omega)) (by simp [A]) (by simp [B]) (by simp [E]) (by simp [v]) (by simp [u]) l g
 obtain⟨x,y,F,ar,J,U,X,i1,j1,l1,l2,L,he,-,-⟩:=g.ask hg S hW hn (i:=a) (j:=q) (by omega) (by omega);simp [v,u,M,A,B,E,i1,j1,l1,l2,L,he,-ay];have ep:p=x:=by rw [hp]at U;exact amS U
 subst ep;by_cases O:c p y<0
 case pos=>
  refine aF (by simp [O]) ?_;refine bg (k':=k) rfl ?_;refine next _ _ q (by omega) d (.inr fun z I=>?_) (by simp [A]) (by simp [B]) (by simp [E]) (by simp [v]) (by simp [u]) (l.trans (Fm.push _ _)) (g.push _)
  rw [X]at I;cases I;exact fun h=>h O
 refine av (by simp [O]) (aP ?_);refine az (aq (.inl rfl) ?_);simp [v,u,aO (n:=(q:Int)+1)];refine ax (ih (m-1) _ (by omega) ⟨q+1,_,_,rfl,by omega,fun r z Y Z I=>?_,by simp [A],by simp [B],by simp [E],by simp,by simp [u],l.trans (Fm.push _ _),g.push _⟩);by_cases hr:r=q
 ·subst hr;rw [X]at I;cases I;exact O
 ·exact d r z (by omega) (by omega) I
theorem afC{n a e i j ep b:Nat}{rows:List (List FC)}{p:List FC}{H0:an}{k:List cP}{Q:Option aw→St→Prop}(S:Cv tab cv W c)(hn:rows.length=n)(hl:n≤1000000000)(hg:bO sz rows)(hW:∀ r ∈ rows,W r)
  {t:T} {H:an} (a7:a<i) (a_:i≤j+1) (b_:j<e) (a8:e≤n) (hp:rows[a]?=aa p)
  (A:t.g 0=.c (.sl b 0 n 0 ep sz)) (B:t.g 1=vi a) (E:t.g 4=cv) (u:t.g 11=vi i) (v:t.g 12=vi j) (l:Fm b H0 H) (g:RB H b sz ep rows)
  (next:∀(t:T) (H:an) (K:Nat),(K≤j∧i≤K+1)→(∀(q:Nat) x,K<q→q≤j→rows[q]?=aa x→c p x<0)→(K<i∨∀ x,rows[K]?=aa x→¬ c p x<0) →
   t.g 0=.c (.sl b 0 n 0 ep sz)→t.g 1=vi a→t.g 4=cv→t.g 11=vi i→t.g 12=vi K→Fm b H0 H→RB H b sz ep rows→WP tab σ.CE ab k ⟨t,[],H⟩ Q) :
  WP tab σ.CE ab (.code (Ve sz)::k) ⟨t,[],H⟩ Q:=by
 refine az ?_;refine bJ (fun m s=>∃(q:Nat) (t:T) (N:an),s=⟨t,[],N⟩∧(q+1=i+m∧q≤j)∧(∀(r:Nat) x,q<r→r≤j→rows[r]?=aa x→c p x<0) ∧
   t.g 0=.c (.sl b 0 n 0 ep sz)∧t.g 1=vi a∧t.g 4=cv∧t.g 11=vi i∧t.g 12=vi q∧Fm b H0 N∧RB N b sz ep rows) (j+1-i)
  ⟨j,_,H,rfl,by omega,fun r x Y Z=>by omega,A,B,E,u,v,l,g⟩ ?_
 rintro m s ⟨q,t,N,rfl,hm,d,A,B,E,u,v,l,g⟩ ih;apply au;apply ai;by_cases M:i≤q
 case neg=>
  simp [u,v,M];refine aF (by simp) ?_;refine bg (k':=k) rfl ?_;exact next _ _ q (by omega) d (.inl (by omega)) (by simp [A]) (by simp [B]) (by simp [E]) (by simp [u]) (by simp [v]) l g
 obtain⟨x,y,F,ar,J,U,X,i1,j1,l1,l2,L,he,-,-⟩:=g.ask hg S hW hn (i:=a) (j:=q) (by omega) (by omega);simp [u,v,M,A,B,E,i1,j1,l1,l2,L,he,-ay];have ep:p=x:=by rw [hp]at U;exact amS U
 subst ep;by_cases O:c p y<0
 case neg=>
  refine aF (by simp [O]) ?_;refine bg (k':=k) rfl ?_;refine next _ _ q (by omega) d (.inr fun z I=>?_) (by simp [A]) (by simp [B]) (by simp [E]) (by simp [u]) (by simp [v]) (l.trans (Fm.push _ _)) (g.push _)
  rw [X]at I;cases I;exact O
 refine av (by simp [O]) (aP ?_);refine az (aq (.inl rfl) ?_);simp [u,v,aO (n:=(q:Int)-1)];refine ax (ih (m-1) _ (by omega) ⟨q-1,_,_,rfl,by omega,fun r z Y Z I=>?_,by simp [A],by simp [B],by simp [E],by simp [u],by simp;omega,l.trans (Fm.push _ _),g.push _⟩);by_cases hr:r=q
 ·subst hr;rw [X]at I;cases I;exact O
 ·exact d r z (by omega) (by omega) I
def tU(c:List FC→List FC→Int)(a i j e:Nat)(p:List FC)(l:List (List FC)):Prop:=
 l[a]?=aa p∧(∀(k:Nat) x,a<k→k<i→l[k]?=aa x→c x p<0)∧(∀(k:Nat) x,j<k→k<e→l[k]?=aa x→¬ c x p<0)
def mo(c:List FC→List FC→Int)(a e m:Nat)(l:List (List FC)):Prop:=
 ∃ p,l[m]?=aa p∧(∀(k:Nat) x,a≤k→k<m→l[k]?=aa x→c x p<0)∧(∀(k:Nat) x,m<k→k<e→l[k]?=aa x→¬ c x p<0)
theorem tU.swap{a i j e:Nat}{p:List FC}{l:List (List FC)}(h:tU c a i j e p l)(s:a<i)(u:i<j)(d:j<l.length)(hi:∀ x,l[i]?=aa x→¬ c x p<0)(v:∀ x,l[j]?=aa x→c x p<0):tU c a (i+1) (j-1) e p (il l i j):=by
 obtain⟨h0,h1,h2⟩:=h;have g:∀ k,(il l i j)[k]?=if k=j then l[i]? else if k=i then l[j]? else l[k]?:=fun k=>gD (by omega) d k;refine⟨?_,fun k x m q b=>?_,fun k x m q b=>?_⟩
 ·rw [g,aS (by omega),aS (by omega)];exact h0
 ·rw [g,aS (by omega)]at b;by_cases e:k=i
  ·rw [ba e]at b;exact v x b
  ·rw [aS e]at b;exact h1 k x m (by omega) b
 ·rw [g]at b;by_cases e:k=j
  ·rw [ba e]at b;exact hi x b
  ·rw [aS e,aS (by omega)]at b;exact h2 k x (by omega) q b
theorem tU.done{a i j e:Nat}{p:List FC}{l:List (List FC)}(h:tU c a i j e p l)(s:a≤j)(u:i=j+1)(d:j<l.length):mo c a e j (il l j a):=by
 obtain⟨h0,h1,h2⟩:=h;have g:∀ k,(il l j a)[k]?=if k=a then l[j]? else if k=j then l[a]? else l[k]?:=fun k=>gD d (by omega) k;refine⟨p,?_,fun k x m q b=>?_,fun k x m q b=>?_⟩
 ·rw [g];by_cases e:j=a
  ·rw [ba e,e];exact h0
  ·rw [aS e,ba rfl];exact h0
 ·rw [g]at b;by_cases e:k=a
  ·rw [ba e]at b;exact h1 j x (by omega) (by omega) b
  ·rw [aS e,aS (by omega)]at b;exact h1 k x (by omega) (by omega) b
 ·rw [g,aS (by omega),aS (by omega)]at b;exact h2 k x m q b
theorem abf{H:an}{rows:List (List FC)}{n a e v b ep:Nat}(hT:tab σ.part=aa (xu σ sz))(a8:Cv tab cv W c)(hn:rows.length=n)(hl:n≤1000000000)(g:RB H b sz ep rows)(hg:bO sz rows)(hW:∀ r ∈ rows,W r)(f8:a<e)(a_:e≤n)(f_:a≤v)(g_:v<e) :
  ∃ r H',Ev tab (.fn σ.part) [.c (.sl b 0 n 0 ep sz),vi a,vi e,vi v,cv] H r H'∧((∃(m:Nat) (w:Bool),r=.t [vi m,vb w]∧a≤m∧m<e∧Fm b H H'∧∃ l',RB H' b sz ep l'∧eM a e rows l'∧mo c a e m l')):=by
 refine cH hT rfl fun Q hQ=>?_;obtain⟨d,rfl⟩:∃ d,e=d+1:=⟨e-1,by omega⟩
 obtain⟨x,p,H1,H2,F,hp,i1,j1,l1,l2,w1,w2,s1,j2,s2,r2,f2⟩:=g.il hg hn (i:=a) (j:=v) (by omega) (by omega);have B:eM a (d+1) rows (il rows a v):=fh (by omega) (by omega) (by omega) (by omega) (by omega);have b_:tU c a (a+1) d (d+1) p (il rows a v):=by
  refine⟨?_,fun k x k1 k2=>by omega,fun k x k1 k2=>by omega⟩;rw [gD (by omega) (by omega)];by_cases e:a=v
  ·rw [ba e,e];exact hp
  ·rw [aS e,ba rfl];exact hp
 apply ai;simp;apply ai;simp [i1,j1,l1,l2,w1,w2,s1,j2,s2,-ay,-bw];apply ai;simp [aO (n:=(a:Int)+1),aO (n:=(d:Int))];apply au;have I:∀(w:Bool) (t:T) (H3:an) (l:List (List FC)) (i j:Nat),a≤j→j<d+1→i=j+1→tU c a i j (d+1) p l→eM a (d+1) rows l→Fm b H H3→RB H3 b sz ep l →
   ∃(x y:List FC) (H4 H5:an),bB H3 sz ab (.c (.sl b 0 n 0 ep sz)) (vi j)=aa (.c (.ptr b (j*sz) ep))∧bB H3 sz ab (.c (.sl b 0 n 0 ep sz)) (vi a)=aa (.c (.ptr b (a*sz) ep)) ∧
    aX H3 (aa sz) (.c (.ptr b (j*sz) ep))=aa (.a (x.map .f))∧aX H3 (aa sz) (.c (.ptr b (a*sz) ep))=aa (.a (y.map .f))∧x.length=sz∧y.length=sz ∧
    dt H3 (.ptr b (j*sz) ep) (y.map .f)=aa H4∧bB H4 sz ab (.c (.sl b 0 n 0 ep sz)) (vi a)=aa (.c (.ptr b (a*sz) ep))∧dt H4 (.ptr b (a*sz) ep) (x.map .f)=aa H5 ∧
    (a≤j∧j<d+1∧Fm b H H5∧∃ l',RB H5 b sz ep l'∧eM a (d+1) rows l'∧mo c a (d+1) j l'):=by
  intro w t H3 l i j h1 h2 h3 O u q g;have M:=u.len;obtain⟨x,y,H4,H5,-,-,i1,j1,l1,l2,w1,w2,s1,j2,s2,r2,f2⟩:=g.il (u.rp hg) (M.trans hn) (i:=j) (j:=a) (by omega) (by omega);exact⟨x,y,H4,H5,i1,j1,l1,l2,w1,w2,s1,j2,s2,h1,h2,q.trans f2,_,r2,u.trans (fh (by omega) (by omega) (by omega) (by omega) (by omega)),O.done h1 h3 (by omega)⟩
 have E:∀ {l},eM a (d+1) rows l→bO sz l:=fun h=>h.rp hg;have U:∀ {l},eM a (d+1) rows l→∀ r ∈ l,W r:=fun h r hr=>hW r (h.1.mem_iff.1 hr);refine U8 a8 (B.len.trans hn) hl (E B) (U B) (i:=a+1) (j:=d) (e:=d+1) (H0:=H) (by omega) (by omega) (by omega) a_ b_.1 (by simp) (by simp) (by simp) (by simp) (by simp) f2 r2 ?_;intro t H3 z c_ N S X Z g4 Y L q g;apply au;refine U6 a8 (B.len.trans hn) hl (E B) (U B) (i:=z) (j:=d) (e:=d+1) (H0:=H) (by omega) (by omega) (by omega) a_ b_.1 X Z g4 Y L q g ?_;intro t H4 A d_ J K X Z g4 Y L q g;have a7:tU c a z A (d+1) p (il rows a v):=⟨b_.1,fun k x k1 k2 F=>N k x (by omega) k2 F,fun k x k1 k2 F=>J k x k1 (by omega) F⟩
 apply au;apply ai;simp [Y,L];by_cases o:A<z
 ·obtain⟨x,y,H5,H6,i1,j1,l1,l2,w1,w2,s1,j2,s2,f⟩:=I ae t H4 _ z A (by omega) (by omega) (by omega) a7 B q g;refine av (by simp [o]) (ai ?_);simp [X,Z,L,i1,j1,l1,l2,w1,w2,s1,j2,s2,-ay,-bw];apply ai;simp [L];exact aD (hQ _ _ (.t [vi A,vb ae]) rfl (by simp [Km.results,aZ]) ⟨A,ae,rfl,f⟩)
 refine aW (by simp [o]) ?_;have ni:∀ x,(il rows a v)[z]?=aa x→¬ c x p<0:=by
  rcases S with h | h
  ·omega
  ·exact h
 have nj:∀ x,(il rows a v)[A]?=aa x→c x p<0:=by
  rcases K with h | h
  ·omega
  ·exact fun x F=>Classical.not_not.1 (h x F)
 have f7:z≠A:=by
  rintro rfl;have F:=By (l:=il rows a v) (i:=z) (by rw [xL];omega);exact ni _ F (nj _ F)
 obtain⟨x5,y5,H5,H6,-,-,i1,j1,l1,l2,w1,w2,s1,j2,s2,r5,f5⟩:=g.il (E B) (B.len.trans hn) (i:=z) (j:=A) (by omega) (by omega);apply ai;simp [X,Y,L,i1,j1,l1,l2,w1,w2,s1,j2,s2,-ay,-bw];apply ai;simp [Y,aO (n:=(z:Int)+1)];apply ai;simp [L,aO (n:=(A:Int)-1)];apply au;refine az ?_;refine bJ (fun m s=>∃(i j:Nat) (t:T) (H1:an) (l:List (List FC)),s=⟨t,[],H1⟩∧m=j+1-i∧a<i∧i≤j+1∧j<d+1∧t.g 0=.c (.sl b 0 n 0 ep sz)∧t.g 1=vi a∧t.g 4=cv∧t.g 12=vi i∧t.g 13=vi j ∧
   Fm b H H1∧RB H1 b sz ep l∧eM a (d+1) rows l∧tU c a i j (d+1) p l) _
  ⟨z+1,A-1,_,H6,_,rfl,rfl,by omega,by omega,by omega,by simp [X],by simp [Z],by simp [g4],by simp,by simp;omega,q.trans f5,r5,
   B.trans (fh (by omega) (by omega) (by omega) (by omega) (by rw [xL];omega)),a7.swap (by omega) (by omega) (by rw [xL];omega) ni nj⟩ ?_
 rintro m s ⟨i,j,t,H1,l,rfl,rfl,c9,d9,e_,X,Z,g4,Y,L,q,g,u,O⟩ ih;have M:=u.len;refine az ?_;apply au;refine U9 a8 (M.trans hn) hl (E u) (U u) (i:=i) (j:=j) (e:=d+1) (H0:=H) c9 d9 e_ a_ O.1 X Z g4 Y L q g ?_;intro t H3 z c_ N S X Z g4 Y L q g;apply au;refine U7 a8 (M.trans hn) hl (E u) (U u) (i:=z) (j:=j) (e:=d+1) (H0:=H) (by omega) (by omega) (by omega) a_ O.1 X Z g4 Y L q g ?_;intro t H4 A d_ J K X Z g4 Y L q g;have a7:tU c a z A (d+1) p l:=⟨O.1,fun k x k1 k2 F=>by
   by_cases hk:k<i
   ·exact O.2.1 k x k1 hk F
   ·exact N k x (by omega) k2 F,fun k x k1 k2 F=>by
   by_cases hk:j<k
   ·exact O.2.2 k x hk k2 F
   ·exact J k x k1 (by omega) F⟩
 apply au;apply ai;simp [Y,L];by_cases o:A<z
 ·obtain⟨x,y,H5,H6,i1,j1,l1,l2,w1,w2,s1,j2,s2,f⟩:=I ag t H4 _ z A (by omega) (by omega) (by omega) a7 u q g;refine av (by simp [o]) ?_;refine bg (k':=[.code (CB sz)]) rfl ?_;apply ai;simp [X,Z,L,i1,j1,l1,l2,w1,w2,s1,j2,s2,-ay,-bw];apply ai;simp [L];exact aD (hQ _ _ (.t [vi A,vb ag]) rfl (by simp [Km.results,aZ]) ⟨A,ag,rfl,f⟩)
 refine aW (by simp [o]) ?_;have ni:∀ x,l[z]?=aa x→¬ c x p<0:=by
  rcases S with h | h
  ·omega
  ·exact h
 have nj:∀ x,l[A]?=aa x→c x p<0:=by
  rcases K with h | h
  ·omega
  ·exact fun x F=>Classical.not_not.1 (h x F)
 have f7:z≠A:=by
  rintro rfl;have F:=By (l:=l) (i:=z) (by omega);exact ni _ F (nj _ F)
 obtain⟨x5,y5,H5,H6,-,-,i1,j1,l1,l2,w1,w2,s1,j2,s2,r5,f5⟩:=g.il (E u) (M.trans hn) (i:=z) (j:=A) (by omega) (by omega);apply ai;simp [X,Y,L,i1,j1,l1,l2,w1,w2,s1,j2,s2,-ay,-bw];apply ai;simp [Y,aO (n:=(z:Int)+1)];refine aq (.inl rfl) ?_;simp [L,aO (n:=(A:Int)-1)];exact ax (ih _ _ (by omega) ⟨z+1,A-1,_,H6,_,rfl,rfl,by omega,by omega,by omega,by simp [X],by simp [Z],by simp [g4],by simp,by simp;omega,q.trans f5,r5,
   u.trans (fh (by omega) (by omega) (by omega) (by omega) (by omega)),a7.swap (by omega) (by omega) (by omega) ni nj⟩)
end
end Km
namespace Km
open Go
section
variable{tab:TB}{σ:gH}{sz:Nat}{cv:V}{W:List FC→Prop}{c:List FC→List FC→Int}
def Iu(c:List FC→List FC→Int)(a i j e:Nat)(p:List FC)(l:List (List FC)):Prop:=
 l[a]?=aa p∧(∀(k:Nat) x,a<k→k<i→l[k]?=aa x→¬ c p x<0)∧(∀(k:Nat) x,j<k→k<e→l[k]?=aa x→c p x<0)
theorem Iu.swap{a i j e:Nat}{p:List FC}{l:List (List FC)}(h:Iu c a i j e p l)(s:a<i)(u:i<j)(d:j<l.length)(hi:∀ x,l[i]?=aa x→c p x<0)(v:∀ x,l[j]?=aa x→¬ c p x<0):Iu c a (i+1) (j-1) e p (il l i j):=by
 obtain⟨h0,h1,h2⟩:=h;have g:∀ k,(il l i j)[k]?=if k=j then l[i]? else if k=i then l[j]? else l[k]?:=fun k=>gD (by omega) d k;refine⟨?_,fun k x m q b=>?_,fun k x m q b=>?_⟩
 ·rw [g,aS (by omega),aS (by omega)];exact h0
 ·rw [g,aS (by omega)]at b;by_cases e:k=i
  ·rw [ba e]at b;exact v x b
  ·rw [aS e]at b;exact h1 k x m (by omega) b
 ·rw [g]at b;by_cases e:k=j
  ·rw [ba e]at b;exact hi x b
  ·rw [aS e,aS (by omega)]at b;exact h2 k x (by omega) q b
theorem afD{H:an}{rows:List (List FC)}{n a e v b ep:Nat}{p:List FC}(hT:tab σ.CE=aa (CG σ sz))(a7:Cv tab cv W c)(c_:tQ W c)(hn:rows.length=n)(hl:n≤1000000000)(g:RB H b sz ep rows)(hg:bO sz rows)(hW:∀ r ∈ rows,W r)(f8:a<e)(a8:e≤n)(f_:a≤v)(i4:v<e)(F:rows[v]?=aa p) :
  ∃ r H',Ev tab (.fn σ.CE) [.c (.sl b 0 n 0 ep sz),vi a,vi e,vi v,cv] H r H'∧((∃(m:Nat),r=vi m∧a<m∧m≤e∧Fm b H H'∧∃ l',RB H' b sz ep l'∧eM a e rows l'∧(∀(k:Nat) x,a≤k→k<m→l'[k]?=aa x→¬ c p x<0)∧(∀(k:Nat) x,m≤k→k<e→l'[k]?=aa x→c p x<0))):=by
 refine cH hT rfl fun Q hQ=>?_;obtain⟨d,rfl⟩:∃ d,e=d+1:=⟨e-1,by omega⟩
 obtain⟨x,p',H1,H2,I,b_,i1,j1,l1,l2,w1,w2,s1,j2,s2,r2,f2⟩:=g.il hg hn (i:=a) (j:=v) (by omega) (by omega);obtain rfl:p=p':=by rw [F]at b_;exact amS b_
 have Y:¬ c p p<0:=fun h=>c_.yN (hW _ (als F)) (hW _ (als F)) h h;have f7:eM a (d+1) rows (il rows a v):=fh (by omega) (by omega) (by omega) (by omega) (by omega);have e_:Iu c a (a+1) d (d+1) p (il rows a v):=by
  refine⟨?_,fun k x o M=>by omega,fun k x o M=>by omega⟩;rw [gD (by omega) (by omega)];by_cases e:a=v
  ·rw [ba e,e];exact F
  ·rw [aS e,ba rfl];exact F
 apply ai;simp;apply ai;simp [i1,j1,l1,l2,w1,w2,s1,j2,s2,-ay,-bw];apply ai;simp [aO (n:=(a:Int)+1),aO (n:=(d:Int))];apply au;have A:∀ {l},eM a (d+1) rows l→bO sz l:=fun h=>h.rp hg;have S:∀ {l},eM a (d+1) rows l→∀ r ∈ l,W r:=fun h r hr=>hW r (h.1.mem_iff.1 hr);refine az ?_;refine bJ (fun m s=>∃(i j:Nat) (t:T) (H1:an) (l:List (List FC)),s=⟨t,[],H1⟩∧m=j+1-i∧a<i∧i≤j+1∧j<d+1∧t.g 0=.c (.sl b 0 n 0 ep sz)∧t.g 1=vi a∧t.g 4=cv∧t.g 11=vi i∧t.g 12=vi j ∧
   Fm b H H1∧RB H1 b sz ep l∧eM a (d+1) rows l∧Iu c a i j (d+1) p l) _
  ⟨a+1,d,_,H2,_,rfl,rfl,by omega,by omega,by omega,by simp,by simp,by simp,by simp,by simp,f2,r2,f7,e_⟩ ?_
 rintro m s ⟨i,j,t,H1,l,rfl,rfl,c9,d9,d_,w,g1,g4,O,U,y,g,u,E⟩ ih;have B:=u.len;refine az ?_;apply au;refine afE a7 (B.trans hn) hl (A u) (S u) (i:=i) (j:=j) (e:=d+1) (H0:=H) c9 d9 d_ a8 E.1 w g1 g4 O U y g ?_;intro t H3 J g_ X Z w g1 g4 O U y g;apply au;refine afC a7 (B.trans hn) hl (A u) (S u) (i:=J) (j:=j) (e:=d+1) (H0:=H) (by omega) (by omega) (by omega) a8 E.1 w g1 g4 O U y g ?_;intro t H4 f h_ K L w g1 g4 O U y g;have N:Iu c a J f (d+1) p l:=⟨E.1,fun k x o M I=>by
   by_cases hk:k<i
   ·exact E.2.1 k x o hk I
   ·exact X k x (by omega) M I,fun k x o M I=>by
   by_cases hk:j<k
   ·exact E.2.2 k x hk M I
   ·exact K k x o (by omega) I⟩
 apply au;apply ai;simp [O,U];by_cases a_:f<J
 ·refine av (by simp [a_]) ?_;refine bg (k':=[.code (Vf)]) rfl ?_;apply ai;simp [O];refine aD (hQ _ _ (vi J) rfl (by simp [Km.results,aZ]) ⟨J,rfl,by omega,by omega,y,l,g,u,fun q z o M hz=>?_,fun q z o M hz=>N.2.2 q z (by omega) M hz⟩);by_cases e:q=a
  ·rw [e,N.1]at hz;cases hz;exact Y
  ·exact N.2.1 q z (by omega) M hz
 refine aW (by simp [a_]) ?_;have ni:∀ x,l[J]?=aa x→c p x<0:=by
  rcases Z with h | h
  ·omega
  ·exact fun x I=>Classical.not_not.1 (h x I)
 have nj:∀ x,l[f]?=aa x→¬ c p x<0:=by
  rcases L with h | h
  ·omega
  ·exact h
 have i3:J≠f:=by
  rintro rfl;have I:=By (l:=l) (i:=J) (by omega);exact nj _ I (ni _ I)
 obtain⟨x5,y5,H5,H6,-,-,i1,j1,l1,l2,w1,w2,s1,j2,s2,r5,f5⟩:=g.il (A u) (B.trans hn) (i:=J) (j:=f) (by omega) (by omega);apply ai;simp [w,O,U,i1,j1,l1,l2,w1,w2,s1,j2,s2,-ay,-bw];apply ai;simp [O,aO (n:=(J:Int)+1)];refine aq (.inl rfl) ?_;simp [U,aO (n:=(f:Int)-1)];exact ax (ih _ _ (by omega) ⟨J+1,f-1,_,H6,_,rfl,rfl,by omega,by omega,by omega,by simp [w],by simp [g1],by simp [g4],by simp,by simp;omega,y.trans f5,r5,
   u.trans (fh (by omega) (by omega) (by omega) (by omega) (by omega)),N.swap (by omega) (by omega) (by omega) ni nj⟩)
end
end Km
namespace Km
open Go
section
variable{tab:TB}{σ:gH}{sz:Nat}{cv:V}{W:List FC→Prop}{c:List FC→List FC→Int}
def Ar(c:List FC→List FC→Int)(a e:Nat)(l:List (List FC)):Prop:=∀ k,0<a→a≤k→k<e→jP c l (a-1) k
theorem Ar.tT{a e a' b:Nat}{l l':List (List FC)}(h:Ar c a e l)(d:eM a' b l l')(h1:a≤a')(h2:b≤e)(v:a'≤b)(hl:b≤l.length):Ar c a e l':=by
 intro k h0 m q x y g hy;rw [d.lt (by omega)]at g;by_cases s:k<a'
 ·rw [d.lt s]at hy;exact h k h0 m q x y g hy
 by_cases u:b≤k
 ·rw [d.ge u]at hy;exact h k h0 m q x y g hy
 obtain⟨j,A,B,z⟩:=d.mem v hl (by omega) (by omega) hy;exact h j h0 (by omega) (by omega) x y g z
theorem Ar.mono{a e b:Nat}{l:List (List FC)}(h:Ar c a e l)(g:b≤e):Ar c a b l:=fun k h0 d j=>h k h0 d (by omega)
theorem JJ{n a e i ep b:Nat}{rows:List (List FC)}{H0:an}{eH:V}{k:List cP}{Q:Option aw→St→Prop}(U:Cv tab cv W c)(hc:tQ W c)(hn:rows.length=n)(hl:n≤1000000000)(hg:bO sz rows)(Y:∀ r ∈ rows,W r)
  {t:T} {H:an} (a7:a<i) (a_:i≤e) (a8:e≤n) (u:Up c a i rows)
  (I:t.g 0=.c (.sl b 0 n 0 ep sz)) (L:t.g 1=vi a) (B:t.g 2=vi e) (K:t.g 3=cv) (A:t.g 9=vi i) (M:t.g 10=eH) (l:Fm b H0 H) (g:RB H b sz ep rows)
  (next:∀(t:T) (H:an) (E:Nat),(i≤E∧E≤e)→Up c a E rows→(E=e∨∀ x y,rows[E]?=aa x→rows[E-1]?=aa y→c x y<0) →
   t.g 0=.c (.sl b 0 n 0 ep sz)→t.g 1=vi a→t.g 2=vi e→t.g 3=cv→t.g 9=vi E→t.g 10=eH→Fm b H0 H→RB H b sz ep rows→WP tab σ.pins ab k ⟨t,[],H⟩ Q) :
  WP tab σ.pins ab (.code (CJ sz)::k) ⟨t,[],H⟩ Q:=by
 refine az ?_;refine bJ (fun m s=>∃(q:Nat) (t:T) (S:an),s=⟨t,[],S⟩∧(q+m=e∧i≤q)∧Up c a q rows ∧
   t.g 0=.c (.sl b 0 n 0 ep sz)∧t.g 1=vi a∧t.g 2=vi e∧t.g 3=cv∧t.g 9=vi q∧t.g 10=eH∧Fm b H0 S∧RB S b sz ep rows) (e-i)
  ⟨i,_,H,rfl,by omega,u,I,L,B,K,A,M,l,g⟩ ?_
 rintro m s ⟨q,t,S,rfl,hm,u,I,L,B,K,A,M,l,g⟩ ih;apply au;apply ai;by_cases X:q<e
 case neg=>
  simp [A,B,X];refine aF (by simp) ?_;refine bg (k':=k) rfl ?_;exact next _ _ q (by omega) u (.inl (by omega)) (by simp [I]) (by simp [L]) (by simp [B]) (by simp [K]) (by simp [A]) (by simp [M]) l g
 obtain⟨d,rfl⟩:∃ d,q=d+1:=⟨q-1,by omega⟩
 obtain⟨x,y,F,ar,J,hx,hy,i1,j1,l1,l2,N,he,-,-⟩:=g.ask hg U Y hn (i:=d+1) (j:=d) (by omega) (by omega);have c1:((d+1:Nat):Int)=(d:Int)+1:=by omega
 have O:(d:Int)+1<(e:Int):=by omega
 rw [c1]at i1 A;simp [A,B,O,I,K,i1,j1,l1,l2,N,he,-ay,aO (n:=(d:Int))];by_cases v:c x y<0
 case pos=>
  refine aF (by simp [v]) ?_;refine bg (k':=k) rfl ?_;refine next _ _ (d+1) (by omega) u (.inr fun z w hz Z=>?_) (by simp [I]) (by simp [L]) (by simp [B]) (by simp [K]) (by simp [A]) (by simp [M]) (l.trans (Fm.push _ _)) (g.push _)
  rw [hx]at hz;cases hz;rw [show d+1-1=d by omega,hy]at Z;cases Z;exact v
 refine av (by simp [v]) (aP ?_);refine az (aq (.inl rfl) ?_);simp [A,aO (n:=(d:Int)+1+1)];refine ax (ih (m-1) _ (by omega) ⟨d+1+1,_,_,rfl,by omega,?_,by simp [I],by simp [L],by simp [B],by simp [K],by simp,by simp [M],l.trans (Fm.push _ _),g.push _⟩);exact(BW.start u).stop hc Y (by omega) (alk _) (by omega) (jP.of_le hy hx v)
theorem JI{n a e i j ep b:Nat}{rows:List (List FC)}{H0:an}{eH:V}{k:List cP}{Q:Option aw→St→Prop}(a_:Cv tab cv W c)(hc:tQ W c)(hn:rows.length=n)(hl:n≤1000000000)(hg:bO sz rows)(hW:∀ r ∈ rows,W r)
  {t:T} {H:an} (X:a≤j) (K:j=i) (d9:i<e) (c_:e≤n) (a7:Ar c a e rows) (q:BW c a i j rows)
  (E:t.g 0=.c (.sl b 0 n 0 ep sz)) (N:t.g 1=vi a) (O:t.g 2=vi e) (M:t.g 3=cv) (S:t.g 9=vi (i+1:Nat)) (U:t.g 10=eH) (A:t.g 11=vi j) (z:Fm b H0 H) (u:RB H b sz ep rows)
  (next:∀(t:T) (H:an) (l:List (List FC)),eM a e rows l→Up c a (i+1) l →
   t.g 0=.c (.sl b 0 n 0 ep sz)→t.g 1=vi a→t.g 2=vi e→t.g 3=cv→t.g 9=vi (i+1:Nat)→t.g 10=eH→Fm b H0 H→RB H b sz ep l→WP tab σ.pins ab k ⟨t,[],H⟩ Q) :
  WP tab σ.pins ab (.code (CL sz)::k) ⟨t,[],H⟩ Q:=by
 refine az ?_;refine bJ (fun m s=>∃(j:Nat) (t:T) (H1:an) (l:List (List FC)),s=⟨t,[],H1⟩∧j=m∧a≤j∧j≤i∧t.g 0=.c (.sl b 0 n 0 ep sz)∧t.g 1=vi a∧t.g 2=vi e∧t.g 3=cv∧t.g 9=vi (i+1:Nat)∧t.g 10=eH∧t.g 11=vi j ∧
   Fm b H0 H1∧RB H1 b sz ep l∧eM a e rows l∧BW c a i j l) j
  ⟨j,_,H,rows,rfl,rfl,X,by omega,E,N,O,M,S,U,A,z,u,eM.refl _ _ _,q⟩ ?_
 rintro m s ⟨j,t,H1,l,rfl,rfl,X,K,E,N,O,M,S,U,A,z,u,g,q⟩ ih;have B:=g.len;have Z:=g.rp hg;have I:∀ r ∈ l,W r:=fun r hr=>hW r (g.1.mem_iff.1 hr);have L:Ar c a e l:=a7.tT g (alk _) (alk _) (by omega) (by omega);apply au;apply ai;by_cases c9:j=0
 ·subst c9;obtain rfl:a=0:=by omega
  simp [A];refine aF (by simp) ?_;refine bg (k':=k) rfl ?_;exact next _ _ l g q.front (by simp [E]) (by simp [N]) (by simp [O]) (by simp [M]) (by simp [S]) (by simp [U]) z u
 obtain⟨d,rfl⟩:∃ d,j=d+1:=⟨j-1,by omega⟩
 obtain⟨x,y,F,ar,J,hx,hy,i1,j1,l1,l2,Y,he,-,-⟩:=u.ask Z a_ I (B.trans hn) (i:=d+1) (j:=d) (by omega) (by omega);have c1:((d+1:Nat):Int)=(d:Int)+1:=by omega
 have b_:(1:Int)≤(d:Int)+1:=by omega
 rw [c1]at i1 A;simp [A,b_];refine av (by simp) (aP ?_);apply au;refine az ?_;apply au;apply ai;simp [A,E,M,i1,j1,l1,l2,Y,he,-ay,aO (n:=(d:Int))];by_cases v:c x y<0
 case neg=>
  refine av (by simp [v]) ?_;refine bg (k':=k) rfl ?_;refine next _ _ l g ?_ (by simp [E]) (by simp [N]) (by simp [O]) (by simp [M]) (by simp [S]) (by simp [U]) (z.trans (Fm.push _ _)) (u.push _)
  by_cases ha:d+1=a
  ·subst ha;exact q.front
  ·exact q.stop hc I (by omega) K (by omega) (jP.of_le hy hx v)
 have a8:a≤d:=by
  rcases alO d a with h | h
  ·obtain rfl:a=d+1:=by omega
   exact absurd v (L (d+1) (by omega) (alk _) (by omega) y x (by simpa using hy) hx)
  ·exact h
 refine aW (by simp [v]) ?_;obtain⟨x5,y5,H5,H6,-,-,i5,j5,l5,l6,w5,w6,s5,j6,s6,r6,f6⟩:=(u.push J).il Z (B.trans hn) (i:=d+1) (j:=d) (by omega) (by omega);rw [c1]at i5;refine aq (.inl rfl) ?_;simp [E,A,i5,j5,l5,l6,w5,w6,s5,j6,s6,-ay,-bw,aO (n:=(d:Int))];refine ax ?_;refine aq (.inl rfl) ?_;simp [A,aO (n:=(d:Int))];exact ih d _ (by omega) ⟨d,_,H6,il l (d+1) d,rfl,rfl,a8,by omega,by simp [E],by simp [N],by simp [O],by simp [M],by simp [S],by simp [U],by simp,(z.trans (Fm.push _ _)).trans f6,r6,
  g.trans (fh (by omega) (by omega) (by omega) (by omega) (by omega)),q.step hc I (by omega) K (by omega) hx hy v⟩
theorem Bl{n a e i ep b:Nat}{rows:List (List FC)}{H0:an}{eH:V}{k:List cP}{Q:Option aw→St→Prop}(Z:Cv tab cv W c)(hn:rows.length=n)(hl:n≤1000000000)(hg:bO sz rows)(hW:∀ r ∈ rows,W r)
  {t:T} {H:an} (a_:i<e) (a7:e≤n)
  (B:t.g 0=.c (.sl b 0 n 0 ep sz)) (K:t.g 1=vi a) (E:t.g 2=vi e) (I:t.g 3=cv) (L:t.g 9=vi i) (M:t.g 10=eH) (z:t.g 12=vi (i+1:Nat)) (u:Fm b H0 H) (q:RB H b sz ep rows)
  (next:∀(t:T) (H:an) (l:List (List FC)),eM i e rows l →
   t.g 0=.c (.sl b 0 n 0 ep sz)→t.g 1=vi a→t.g 2=vi e→t.g 3=cv→t.g 9=vi i→t.g 10=eH→Fm b H0 H→RB H b sz ep l→WP tab σ.pins ab k ⟨t,[],H⟩ Q) :
  WP tab σ.pins ab (.code (CN sz)::k) ⟨t,[],H⟩ Q:=by
 refine az ?_;refine bJ (fun m s=>∃(d:Nat) (t:T) (U:an) (l:List (List FC)),s=⟨t,[],U⟩∧d+1+m=e∧i≤d∧t.g 0=.c (.sl b 0 n 0 ep sz)∧t.g 1=vi a∧t.g 2=vi e∧t.g 3=cv∧t.g 9=vi i∧t.g 10=eH∧t.g 12=vi (d+1:Nat) ∧
   Fm b H0 U∧RB U b sz ep l∧eM i e rows l) (e-(i+1))
  ⟨i,_,H,rows,rfl,by omega,alk _,B,K,E,I,L,M,z,u,q,eM.refl _ _ _⟩ ?_
 rintro m s ⟨d,t,U,l,rfl,hm,a8,B,K,E,I,L,M,z,u,q,g⟩ ih;have A:=g.len;have S:=g.rp hg;have Y:∀ r ∈ l,W r:=fun r hr=>hW r (g.1.mem_iff.1 hr);have X:((d+1:Nat):Int)=(d:Int)+1:=by omega
 rw [X]at z;apply au;apply ai;by_cases b_:d+1<e
 case neg=>
  have v:¬ ((d:Int)+1<(e:Int)):=by omega
  simp [z,E,v];refine aF (by simp) ?_;refine bg (k':=k) rfl ?_;exact next _ _ l g (by simp [B]) (by simp [K]) (by simp [E]) (by simp [I]) (by simp [L]) (by simp [M]) u q
 have v:(d:Int)+1<(e:Int):=by omega
 simp [z,E,v];refine av (by simp) (aP ?_);obtain⟨x,y,F,ar,J,hx,hy,i1,j1,l1,l2,O,he,-,-⟩:=q.ask S Z Y (A.trans hn) (i:=d+1) (j:=d) (by omega) (by omega);rw [X]at i1;apply au;refine az ?_;apply au;apply ai;simp [z,B,I,i1,j1,l1,l2,O,he,-ay,aO (n:=(d:Int))];by_cases N:c x y<0
 case neg=>
  refine av (by simp [N]) ?_;refine bg (k':=k) rfl ?_;exact next _ _ l g (by simp [B]) (by simp [K]) (by simp [E]) (by simp [I]) (by simp [L]) (by simp [M]) (u.trans (Fm.push _ _)) (q.push _)
 refine aW (by simp [N]) ?_;obtain⟨x5,y5,H5,H6,-,-,i5,j5,l5,l6,w5,w6,s5,j6,s6,r6,f6⟩:=(q.push J).il S (A.trans hn) (i:=d+1) (j:=d) (by omega) (by omega);rw [X]at i5;refine aq (.inl rfl) ?_;simp [B,z,i5,j5,l5,l6,w5,w6,s5,j6,s6,-ay,-bw,aO (n:=(d:Int))];refine ax ?_;refine aq (.inl rfl) ?_;simp [z,aO (n:=(d:Int)+1+1)];exact ih (m-1) _ (by omega) ⟨d+1,_,H6,il l (d+1) d,rfl,by omega,by omega,by simp [B],by simp [K],by simp [E],by simp [I],by simp [L],by simp [M],by simp,(u.trans (Fm.push _ _)).trans f6,r6,
  g.trans (fh (by omega) (by omega) (by omega) (by omega) (by omega))⟩
theorem abF{H:an}{rows:List (List FC)}{n a e b ep:Nat}(hT:tab σ.pins=aa (xx σ sz))(a7:Cv tab cv W c)(hc:tQ W c)(hn:rows.length=n)(hl:n≤1000000000)(v:RB H b sz ep rows)(hg:bO sz rows)(hW:∀ r ∈ rows,W r)(h_:a<e)(a8:e≤n)(c9:Ar c a e rows) :
  ∃ r H',Ev tab (.fn σ.pins) [.c (.sl b 0 n 0 ep sz),vi a,vi e,cv] H r H'∧((∃ w:Bool,r=vb w∧Fm b H H'∧∃ l',RB H' b sz ep l'∧eM a e rows l'∧(w=ae→Up c a e l'))):=by
 refine cH hT rfl fun Q hQ=>?_;apply ai;simp;apply ai;simp [aO (n:=(a:Int)+1)];apply au;apply ai;simp;refine az ?_;refine bJ (fun m s=>∃(i g:Nat) (t:T) (H1:an) (l:List (List FC)),s=⟨t,[],H1⟩∧g+m=5∧a<i∧i≤e∧t.g 0=.c (.sl b 0 n 0 ep sz)∧t.g 1=vi a∧t.g 2=vi e∧t.g 3=cv∧t.g 9=vi i∧t.g 10=vi g ∧
   Fm b H H1∧RB H1 b sz ep l∧eM a e rows l∧Up c a i l) 5
  ⟨a+1,0,_,H,rows,rfl,rfl,by omega,by omega,by simp,by simp,by simp,by simp,by simp,by simp,Fm.refl H,v,eM.refl _ _ _,Up.one (by omega)⟩ ?_
 rintro m s ⟨i,g,t,H1,l,rfl,hm,c_,d9,I,F,E,M,A,J,z,v,u,B⟩ ih;apply au;apply ai;simp [J];by_cases h5:g<5
 case neg=>
  have Z:¬ ((g:Int)<5):=by omega
  refine aF (by simp [Z]) ?_;refine bg (k':=[.code (rG)]) rfl ?_;apply ai;simp;exact aD (hQ _ _ (vb ag) rfl (by simp [Km.results,aZ]) ⟨ag,rfl,z,l,v,u,fun h=>nomatch h⟩)
 have Z:(g:Int)<5:=by omega
 refine av (by simp [Z]) (aP ?_);apply au;refine az ?_;apply au;have L:=u.len;have K:∀ {l},eM a e rows l→bO sz l:=fun h=>h.rp hg;have U:∀ {l},eM a e rows l→∀ r ∈ l,W r:=fun h r hr=>hW r (h.1.mem_iff.1 hr);refine JJ a7 hc (L.trans hn) hl (K u) (U u) (H0:=H) c_ d9 a8 B (by simp [I]) (by simp [F]) (by simp [E]) (by simp [M]) (by simp [A]) (by simp [J];rfl) z v ?_;intro t H2 i' hi B a_ I F E M A J z v;apply au;apply ai;simp [A,E];by_cases Y:i'=e
 ·subst Y;refine av (by simp) ?_;apply ai;simp;exact aD (hQ _ _ (vb ae) rfl (by simp [Km.results,aZ]) ⟨ae,rfl,z,l,v,u,fun _=>B⟩)
 refine aW (by simp [Y]) ?_;apply au;apply ai;simp [F,E,aO (n:=(e:Int)-a)];by_cases g_:(e:Int)-a<50
 ·refine av (by simp;omega) ?_;apply ai;simp;exact aD (hQ _ _ (vb ag) rfl (by simp [Km.results,aZ]) ⟨ag,rfl,z,l,v,u,fun h=>nomatch h⟩)
 refine aF (by simp;omega) (aP ?_);obtain⟨d,rfl⟩:∃ d,i'=d+1:=⟨i'-1,by omega⟩
 have c1:((d+1:Nat):Int)=(d:Int)+1:=by omega
 obtain⟨x5,y5,H5,H6,e_,f7,i5,j5,l5,l6,w5,w6,s5,j6,s6,r6,f6⟩:=v.il (K u) (L.trans hn) (i:=d+1) (j:=d) (by omega) (by omega);have f_:c x5 y5<0:=by
  rcases a_ with h | h
  ·omega
  ·exact h x5 y5 e_ (by simpa using f7)
 have N:eM a e rows (il l (d+1) d):=u.trans (fh (by omega) (by omega) (by omega) (by omega) (by omega));rw [c1]at i5 A;apply ai;simp [I,A,i5,j5,l5,l6,w5,w6,s5,j6,s6,-ay,-bw,aO (n:=(d:Int))];have b_:∀(t:T) (O:an) (S:List (List FC)),t.g 0=.c (.sl b 0 n 0 ep sz)→t.g 1=vi a→t.g 2=vi e→t.g 3=cv→t.g 9=vi (d+1:Nat)→t.g 10=vi g→Fm b H O→RB O b sz ep S→eM a e rows S→Up c a (d+1) S →
   WP tab σ.pins ab [.inBlock 1,.code (xw),.inLoop (Bk sz),.inBlock 0,.code (rG)] ⟨t,[],O⟩ Q:=by
  intro t O S I F E M A J z v u B;refine ax (aq (.inl rfl) ?_);simp [J,aO (n:=(g:Int)+1)];exact ih (m-1) _ (by omega) ⟨d+1,g+1,_,O,S,rfl,by omega,by omega,by omega,by simp [I],by simp [F],by simp [E],by simp [M],by simp [A],by simp,z,v,u,B⟩
 have right:∀(t:T) (O:an) (S:List (List FC)),t.g 0=.c (.sl b 0 n 0 ep sz)→t.g 1=vi a→t.g 2=vi e→t.g 3=cv→t.g 9=vi (d+1:Nat)→t.g 10=vi g→Fm b H O→RB O b sz ep S→eM a e rows S→Up c a (d+1) S →
   WP tab σ.pins ab [.code (CM sz),.inBlock 1,.code (xw),.inLoop (Bk sz),.inBlock 0,.code (rG)] ⟨t,[],O⟩ Q:=by
  intro t O S I F E M A J z v u B;have L:=u.len;rw [c1]at A;apply au;refine aq (.inl rfl) ?_;simp [A,E,aO (n:=(e:Int)-((d:Int)+1))];by_cases h2:(2:Int)≤(e:Int)-((d:Int)+1)
  case neg=>
   refine aF (by simp;omega) (aP ?_);exact b_ _ O S (by simp [I]) (by simp [F]) (by simp [E]) (by simp [M]) (by simp [A]) (by simp [J]) z v u B
  refine av (by simp;omega) ?_;apply ai;simp [A,aO (n:=(d:Int)+1+1)];refine Bl a7 (L.trans hn) hl (K u) (U u) (H0:=H) (a:=a) (i:=d+1) (e:=e) (eH:=vi g) (by omega) a8 (by simp [I]) (by simp [F]) (by simp [E]) (by simp [M]) (by simp [A]) (by simp [J]) (by simp) z v ?_;intro t H4 l4 X I F E M A J z v;exact b_ t H4 l4 I F E M A J z v (u.trans (X.mono (by omega) (alk _))) (B.of fun k _ hk=>X.lt hk)
 apply au;apply ai;simp [A,F,aO (n:=(d:Int)+1-a)];by_cases h2:(2:Int)≤(d:Int)+1-a
 case neg=>
  refine aF (by simp;omega) (aP ?_);exact right _ H6 _ (by simp [I]) (by simp [F]) (by simp [E]) (by simp [M]) (by simp [A]) (by simp [J]) (z.trans f6) r6 N (Up.one (by omega))
 refine av (by simp;omega) ?_;apply ai;simp [A,aO (n:=(d:Int))];have d_:=N.len;refine JI a7 hc (d_.trans hn) hl (K N) (U N) (H0:=H) (a:=a) (i:=d) (j:=d) (e:=e) (eH:=vi g) (by omega) rfl (by omega) a8 (c9.tT N (alk _) (alk _) (by omega) (by omega)) ?_ (by simp [I]) (by simp [F]) (by simp [E]) (by simp [M]) (by simp [A]) (by simp [J]) (by simp) (z.trans f6) r6 ?_
 ·intro p q h1 h2 h3 h4;have g:∀ k,k<d→(il l (d+1) d)[k]?=l[k]?:=fun k hk=>by rw [gD (by omega) (by omega),aS (by omega),aS (by omega)]
  exact jP.get (fun x y=>B p q x y h1 h2 (by omega)) (g p (by omega)) (g q (by omega))
 intro t H4 l4 X f8 I F E M A J z v;exact right t H4 l4 I F E M A J z v (N.trans X) f8
end
end Km
namespace Km
open Go
def rZ(i ch:Nat):Prop:=ch=2*i+1∨ch=2*i+2
def Hp(c:List FC→List FC→Int)(f h k:Nat)(l:List (List FC)):Prop:=∀ i ch,k≤i→rZ i ch→ch<h→jP c l (f+ch) (f+i)
def Tp(c:List FC→List FC→Int)(f h k r:Nat)(l:List (List FC)):Prop:=
 (∀ i ch,k≤i→i≠r→rZ i ch→ch<h→jP c l (f+ch) (f+i))∧∀ i ch,k≤i→rZ i r→rZ r ch→ch<h→jP c l (f+ch) (f+i)
section
variable{W:List FC→Prop}{c:List FC→List FC→Int}{l:List (List FC)}
theorem Hp.x{f h k:Nat}(h1:Hp c f h (k+1) l):Tp c f h k k l:=
 ⟨fun i ch a b d e=>h1 i ch (by omega) d e,fun i ch a b d e=>by unfold rZ at b;omega⟩
theorem Tp.leaf{f h k r:Nat}(g:Tp c f h k r l)(j:h≤2*r+1):Hp c f h k l:=fun i ch a b d=>by
 by_cases e:i=r
 ·subst e;unfold rZ at b;omega
 ·exact g.1 i ch a e b d
theorem Tp.stop{f h k r ch:Nat}(hc:tQ W c)(m:∀ r ∈ l,W r)(u:Tp c f h k r l)(hl:f+h≤l.length)(v:rZ r ch)(s:ch<h)(g:∀ q,rZ r q→q<h→jP c l (f+q) (f+ch))(j:jP c l (f+ch) (f+r)):Hp c f h k l:=fun i q a b d=>by
 by_cases e:i=r
 ·subst e;exact(g q b d).trans hc m j (by omega)
 ·exact u.1 i q a e b d
theorem Tp.step{f h k r ch:Nat}(hc:tQ W c)(I:∀ r ∈ l,W r)(A:Tp c f h k r l)(hl:f+h≤l.length)(J:k≤r)(v:rZ r ch)(z:ch<h)(j:∀ q,rZ r q→q<h→jP c l (f+q) (f+ch)){x y:List FC}(B:l[f+r]?=aa x)(F:l[f+ch]?=aa y)(E:c x y<0) :
  Tp c f h k ch (il l (f+r) (f+ch)):=by
 have K:r<ch:=by unfold rZ at v;omega
 have g:∀ q,(il l (f+r) (f+ch))[f+q]?=if q=ch then l[f+r]? else if q=r then l[f+ch]? else l[f+q]?:=fun q=>by
  rw [gD (by omega) (by omega)];by_cases H:q=ch
  ·subst H;simp
  rw [aS (by omega),aS H];by_cases d:q=r
  ·subst d;simp
  rw [aS (by omega),aS d]
 refine⟨fun i q hi m s b=>?_,fun i q hi h1 h2 b=>?_⟩
 ·by_cases e:i=r
  ·subst e;by_cases d:q=ch
   ·subst d;exact(jP.of_lt hc I B F E).get (by rw [g,ba rfl]) (by rw [g,aS (by omega),ba rfl])
   ·exact(j q s b).get (by rw [g,aS d,aS (by unfold rZ at s;omega)]) (by rw [g,aS (by omega),ba rfl])
  ·by_cases d:q=r
   ·subst d;exact(A.2 i ch hi s v z).get (by rw [g,aS (by omega),ba rfl]) (by rw [g,aS m,aS e])
   ·have u:q≠ch:=by unfold rZ at s v;omega
    exact(A.1 i q hi e s b).get (by rw [g,aS u,aS d]) (by rw [g,aS m,aS e])
 ·have e:i=r:=by unfold rZ at h1 v;omega
  subst e;have u:q≠ch∧q≠i:=by unfold rZ at h2;omega
  exact(A.1 ch q (by omega) (by omega) h2 b).get (by rw [g,aS u.1,aS u.2]) (by rw [g,aS (by omega),ba rfl])
theorem jP.self{i:Nat}(hc:tQ W c)(b:∀ r ∈ l,W r):jP c l i i:=fun x y d hy=>by
 rw [d]at hy;cases hy;have:=als d;intro q;exact hc.yN (b _ this) (b _ this) q q
theorem Hp.top{f h:Nat}(hc:tQ W c)(b:∀ r ∈ l,W r)(g:Hp c f h 0 l)(hl:f+h≤l.length):∀ k,k<h→jP c l (f+k) f:=by
 intro k;induction k using Nat.strongRecOn with
 | ind k j=>
  intro d;rcases amG k with rfl | h0
  ·exact jP.self hc b
  ·have h1:=g ((k-1) / 2) k (by omega) (by unfold rZ;omega) d;exact h1.trans hc b (j ((k-1) / 2) (by omega) (by omega)) (by omega)
def iV(c:List FC→List FC→Int)(f h j:Nat)(l:List (List FC)):Prop:=∀ p q,p<q→j≤q→q<h→jP c l (f+p) (f+q)
theorem iV.swap{f h i:Nat}(hc:tQ W c)(z:∀ r ∈ l,W r)(s:iV c f h (i+1) l)(y:Hp c f (i+1) 0 l)(hi:i<h)(hl:f+h≤l.length):iV c f h i (il l f (f+i))∧Tp c f i 0 0 (il l f (f+i)):=by
 have g:∀ q,(il l f (f+i))[f+q]?=if q=i then l[f]? else if q=0 then l[f+i]? else l[f+q]?:=fun q=>by
  rw [gD (by omega) (by omega)];by_cases j:q=i
  ·subst j;simp
  rw [aS (by omega),aS j];by_cases b:q=0
  ·subst b;simp
  rw [aS (by omega),aS b]
 refine⟨fun p q u E d=>?_,fun x ch _ B v A=>?_,fun x ch _ h1=>by unfold rZ at h1;omega⟩
 ·have top:=y.top hc z (by omega);by_cases e:q=i
  ·subst e;by_cases b:p=0
   ·subst b;exact(top q (by omega)).get (by rw [g,aS (by omega),ba rfl]) (by rw [g,ba rfl])
   ·exact(top p (by omega)).get (by rw [g,aS (by omega),aS b]) (by rw [g,ba rfl])
  ·have m:(il l f (f+i))[f+q]?=l[f+q]?:=by rw [g,aS e,aS (by omega)]
   by_cases j:p=i
   ·subst j;exact(s 0 q (by omega) (by omega) d).get (by rw [g,ba rfl,Nat.add_zero]) m
   by_cases b:p=0
   ·subst b;exact(s i q (by omega) (by omega) d).get (by rw [g,aS j,ba rfl]) m
   ·exact(s p q u (by omega) d).get (by rw [g,aS j,aS b]) m
 ·have h1:x<ch:=by unfold rZ at v;omega
  have h2:ch≠0:=by omega
  exact(y x ch (by omega) v (by omega)).get (by rw [g,aS (by omega),aS h2]) (by rw [g,aS (by omega),aS B])
theorem iV.tT{f h i:Nat}{l':List (List FC)}(s:iV c f h i l)(g:eM f (f+i) l l')(hl:f+h≤l.length)(hi:i≤h):iV c f h i l':=by
 intro p q d u b x y m hy;rw [g.ge (by omega)]at hy;by_cases z:i≤p
 ·rw [g.ge (by omega)]at m;exact s p q d u b x y m hy
 obtain⟨j,A,B,v⟩:=g.mem (by omega) (by omega) (by omega) (by omega) m;have:=s (j-f) q (by omega) u b x y;rw [show f+(j-f)=j by omega]at this;exact this v hy
theorem iV.up{f h:Nat}(b:iV c f h 0 l):Up c f (f+h) l:=fun i j x y h1 h2 h3 d hy=>by
 have:=b (i-f) (j-f) (by omega) (by omega) (by omega) x y;rw [show f+(i-f)=i by omega,show f+(j-f)=j by omega]at this;exact this d hy
end
end Km
namespace Km
open Go
section
variable{tab:TB}{σ:gH}{sz:Nat}{H:an}{b ep:Nat}{rows:List (List FC)}{cv:V}{W:List FC→Prop}{c:List FC→List FC→Int}
theorem C2(hT:tab σ.qA=aa (tF σ sz))(a8:Cv tab cv W c)(Z:tQ W c){n lo h f:Nat}(hn:rows.length=n)(hl:n≤1000000000)(d:RB H b sz ep rows)(hg:bO sz rows)(hW:∀ r ∈ rows,W r)(b_:lo≤h)(c_:f+h≤n)(hx:Tp c f h lo lo rows) :
  ∃ r H',Ev tab (.fn σ.qA) [.c (.sl b 0 n 0 ep sz),vi lo,vi h,vi f,cv] H r H'∧(r=.t []∧Fm b H H'∧∃ l',RB H' b sz ep l'∧eM f (f+h) rows l'∧Hp c f h lo l'):=by
 refine cH hT rfl fun Q hQ=>?_;apply ai;simp;refine az ?_;refine bJ (fun m s=>∃(r:Nat) (t:T) (H1:an) (l:List (List FC)),s=⟨t,[],H1⟩∧m=h-r∧lo≤r∧r≤h∧t.g 0=.c (.sl b 0 n 0 ep sz)∧t.g 2=vi h∧t.g 3=vi f∧t.g 4=cv∧t.g 10=vi r ∧
  Fm b H H1∧RB H1 b sz ep l∧eM f (f+h) rows l∧Tp c f h lo r l) _
  ⟨lo,_,H,rows,rfl,rfl,by omega,b_,by simp,by simp,by simp,by simp,by simp,Fm.refl H,d,eM.refl _ _ _,hx⟩ ?_
 rintro m s ⟨r,t,H1,l,rfl,rfl,c9,d_,K,L,M,S,eH,z,d,g,hx⟩ ih;have B:=g.len;have X:=g.rp hg;have v:∀ r ∈ l,W r:=fun r hr=>hW r (g.1.mem_iff.1 hr);have cf:∀ q:Nat,((f+q:Nat):Int)=(f:Int)+q:=fun q=>by omega
 refine az ?_;apply ai;simp [eH,aO (n:=(2:Int)*r),aO (n:=(2:Int)*r+1)];apply au;apply ai;simp [L];by_cases Y:h≤2*r+1
 ·refine av (by simp;omega) ?_;refine bg (k':=[]) rfl ?_;exact cU (hQ _ _ _ rfl rfl ⟨rfl,z,l,d,g,hx.leaf Y⟩)
 refine aF (by simp;omega) (aP ?_);apply au;have go:∀(t:T) (H2:an) (ch:Nat),rZ r ch→ch<h→(∀ q,rZ r q→q<h→jP c l (f+q) (f+ch))→t.g 0=.c (.sl b 0 n 0 ep sz)→t.g 2=vi h→t.g 3=vi f→t.g 4=cv→t.g 10=vi r→t.g 11=vi ch→Fm b H H2→RB H2 b sz ep l →
   WP tab σ.qA ab [.code (C1 sz),.inBlock 1,.inLoop (Vu sz),.inBlock 0] ⟨t,[],H2⟩ Q:=by
  intro t H2 ch hk a7 N K L M S eH O z d;obtain⟨x,y,F,ar,J,E,I,i1,j1,l1,l2,A,he,-,-⟩:=d.ask X a8 v (B.trans hn) (i:=f+r) (j:=f+ch) (by omega) (by omega);rw [cf]at i1 j1;apply au;apply ai;simp [K,M,S,eH,O,i1,j1,l1,l2,A,he,-ay,aO (n:=(f:Int)+r),aO (n:=(f:Int)+ch)];by_cases u:c x y<0
  case neg=>
   refine av (by simp [u]) ?_;exact aD (hQ _ _ _ rfl rfl ⟨rfl,z.trans (Fm.push _ _),l,d.push _,g,hx.stop Z v (by omega) hk a7 N (jP.of_le I E u)⟩)
  refine aW (by simp [u]) ?_;obtain⟨x5,y5,H5,H6,-,-,i5,j5,l5,l6,w5,w6,s5,j6,s6,r6,f6⟩:=(d.push J).il X (B.trans hn) (i:=f+r) (j:=f+ch) (by omega) (by omega);rw [cf]at i5 j5 j6;apply ai;simp [K,M,eH,O,i5,j5,l5,l6,w5,w6,s5,j6,s6,-ay,-bw,aO (n:=(f:Int)+r),aO (n:=(f:Int)+ch)];refine aq (.inl rfl) ?_;simp [O];refine ax ?_;have d9:r<ch:=by unfold rZ at hk;omega
  exact ih _ _ (by omega) ⟨ch,_,H6,_,rfl,rfl,by omega,by omega,by simp [K],by simp [L],by simp [M],by simp [S],by simp,(z.trans (Fm.push _ _)).trans f6,r6,
   g.trans (fh (by omega) (by omega) (by omega) (by omega) (by omega)),hx.step Z v (by omega) c9 hk a7 N E I u⟩
 apply au;refine aq (.inl rfl) ?_;by_cases h2:2*r+2<h
 case neg=>
  have U:¬ ((2:Int)*r+1+1<h):=by omega
  simp [L,U,aO (n:=(2:Int)*r+1+1)];refine aW (by simp) ?_;refine go _ H1 (2*r+1) (.inl rfl) (by omega) (fun q hq a_=>?_) (by simp [K]) (by simp [L]) (by simp [M]) (by simp [S]) (by simp [eH]) (by simp) z d;have:q=2*r+1:=by unfold rZ at hq;omega
  subst this;exact jP.self Z v
 have U:((2:Int)*r+1+1<h):=by omega
 obtain⟨x,y,F,ar,J,E,I,i1,j1,l1,l2,A,he,-,-⟩:=d.ask X a8 v (B.trans hn) (i:=f+(2*r+1)) (j:=f+(2*r+2)) (by omega) (by omega);have e1:((f+(2*r+1):Nat):Int)=(f:Int)+(2*r+1):=by omega
 have e2:((f+(2*r+2):Nat):Int)=(f:Int)+(2*r+1)+1:=by omega
 rw [e1]at i1;rw [e2]at j1;simp [K,L,M,S,U,i1,j1,l1,l2,A,he,-ay,aO (n:=(2:Int)*r+1+1),aO (n:=(f:Int)+(2*r+1)),aO (n:=(f:Int)+(2*r+1)+1)];by_cases u:c x y<0
 ·refine av (by simp [u]) ?_;refine aq (.inl rfl) ?_;simp [aO (n:=(2:Int)*r+1+1)];refine go _ _ (2*r+2) (.inr rfl) (by omega) (fun q hq a_=>?_) (by simp [K]) (by simp [L]) (by simp [M]) (by simp [S]) (by simp [eH]) (by simp;omega) (z.trans (Fm.push _ _)) (d.push _);rcases hq with rfl | rfl
  ·exact jP.of_lt Z v E I u
  ·exact jP.self Z v
 ·refine aW (by simp [u]) ?_;refine go _ _ (2*r+1) (.inl rfl) (by omega) (fun q hq a_=>?_) (by simp [K]) (by simp [L]) (by simp [M]) (by simp [S]) (by simp [eH]) (by simp) (z.trans (Fm.push _ _)) (d.push _);rcases hq with rfl | rfl
  ·exact jP.self Z v
  ·exact jP.of_le I E u
theorem aaA(hT:tab σ.heap=aa (wN σ sz))(hS:tab σ.qA=aa (tF σ sz))(N:Cv tab cv W c)(Z:tQ W c){n a e:Nat}(hn:rows.length=n)(hl:n≤1000000000)(u:RB H b sz ep rows)(hg:bO sz rows)(hW:∀ r ∈ rows,W r)(c_:a<e)(a8:e≤n) :
  ∃ r H',Ev tab (.fn σ.heap) [.c (.sl b 0 n 0 ep sz),vi a,vi e,cv] H r H'∧(r=.t []∧Fm b H H'∧∃ l',RB H' b sz ep l'∧eM a e rows l'∧Up c a e l'):=by
 obtain⟨h,rfl⟩:∃ h,e=a+h:=⟨e-a,by omega⟩
 have hw:IntKind.i64.wrap ((a:Int)+h-a)=h:=by rw [aO];omega
 have hq:bP .quo (vi ((h:Int)-1)) (vi 2)=aa (vi (((h-1) / 2:Nat):Int)):=by
  have:=abJ (a:=h-1) (b:=2) (by omega) (by omega);rwa [show((h-1:Nat):Int)=(h:Int)-1 by omega]at this
 refine cH hT rfl fun Q hQ=>?_;apply ai;simp;apply ai;simp;apply ai;simp [hw];have x:∀ {l},eM a (a+h) rows l→bO sz l:=fun h=>h.rp hg;have B:∀ {l},eM a (a+h) rows l→∀ r ∈ l,W r:=fun h r hr=>hW r (h.1.mem_iff.1 hr);apply au;apply ai;simp [hq,aO (n:=(h:Int)-1)];refine az ?_;refine bJ (fun m s=>∃(t:T) (E:an) (l:List (List FC)),s=⟨t,[],E⟩∧m≤h∧t.g 0=.c (.sl b 0 n 0 ep sz)∧t.g 3=cv∧t.g 8=vi a∧t.g 9=vi 0∧t.g 10=vi h∧t.g 11=vi ((m:Int)-1) ∧
  Fm b H E∧RB E b sz ep l∧eM a (a+h) rows l∧Hp c a h m l) ((h-1) / 2+1)
  ⟨_,H,rows,rfl,by omega,by simp,by simp,by simp,by simp,by simp,by simp,Fm.refl H,u,eM.refl _ _ _,fun i ch h1 h2 h3=>by unfold rZ at h2;omega⟩ ?_
 rintro m s ⟨t,E,l,rfl,b_,I,K,J,M,eH,F,y,u,g,O⟩ ih;have z:=g.len;apply au;apply ai;simp [F];rcases amG m with rfl | a_
 case inr=>
  obtain⟨d,rfl⟩:∃ d,m=d+1:=⟨m-1,by omega⟩
  have X:((d+1:Nat):Int)-1=d:=by omega
  rw [X]at F;refine av (by simp;omega) (aP ?_);obtain⟨r,U,L,rfl,Y,l2,r2,S,p2⟩:=C2 hS N Z (z.trans hn) hl u (x g) (B g) (lo:=d) (h:=h) (f:=a) (by omega) a8 O.x;apply au;refine az (aq (.inl rfl) ?_);simp [I,K,J,eH,F,L.eq];refine ax (aq (.inl rfl) ?_);simp [F,aO (n:=(d:Int)-1)];exact ih d _ (by omega) ⟨_,U,l2,rfl,by omega,by simp [I],by simp [K],by simp [J],by simp [M],by simp [eH],by simp,y.trans Y,r2,g.trans S,p2⟩
 refine aF (by simp) ?_;refine bg (k':=[.code (Ci σ sz)]) rfl ?_;apply ai;simp [eH,aO (n:=(h:Int)-1)];refine az ?_;refine bJ (fun m s=>∃(t:T) (E:an) (l:List (List FC)),s=⟨t,[],E⟩∧m≤h∧t.g 0=.c (.sl b 0 n 0 ep sz)∧t.g 3=cv∧t.g 8=vi a∧t.g 9=vi 0∧t.g 12=vi ((m:Int)-1) ∧
  Fm b H E∧RB E b sz ep l∧eM a (a+h) rows l∧Hp c a m 0 l∧iV c a h m l) h
  ⟨_,E,l,rfl,by omega,by simp [I],by simp [K],by simp [J],by simp [M],by simp,y,u,g,O,fun p q h1 h2 h3=>by omega⟩ ?_
 rintro m s ⟨t,E,l,rfl,b_,I,K,J,M,v,y,u,g,O,hd⟩ ih;have z:=g.len;apply au;apply ai;simp [v];rcases amG m with rfl | a_
 ·refine aF (by simp) ?_;refine bg (k':=[]) rfl ?_;exact cU (hQ _ _ _ rfl rfl ⟨rfl,y,l,u,g,hd.up⟩)
 obtain⟨d,rfl⟩:∃ d,m=d+1:=⟨m-1,by omega⟩
 have X:((d+1:Nat):Int)-1=d:=by omega
 rw [X]at v;refine av (by simp;omega) (aP ?_);obtain⟨x5,y5,H5,H6,-,-,i5,j5,l5,l6,w5,w6,s5,j6,s6,r6,f6⟩:=u.il (x g) (z.trans hn) (i:=a) (j:=a+d) (by omega) (by omega);have ce:((a+d:Nat):Int)=(a:Int)+d:=by omega
 rw [ce]at j5 j6;obtain⟨a7,c9⟩:=hd.swap Z (B g) O (by omega) (by omega);have A:eM a (a+h) rows (il l a (a+d)):=g.trans (fh (by omega) (by omega) (by omega) (by omega) (by omega));obtain⟨r,U,L,rfl,Y,l2,r2,S,p2⟩:=C2 hS N Z (A.len.trans hn) hl r6 (x A) (B A) (lo:=0) (h:=d) (f:=a) (by omega) (by omega) c9;have L:=L.eq;simp at L;apply au;refine az ?_;apply ai;simp [I,J,v,i5,j5,l5,l6,w5,w6,s5,j6,s6,-ay,-bw,aO (n:=(a:Int)+d)];refine aq (.inl rfl) ?_;simp [I,K,J,M,v,L];refine ax (aq (.inl rfl) ?_);simp [v,aO (n:=(d:Int)-1)];exact ih d _ (by omega) ⟨_,U,l2,rfl,by omega,by simp [I],by simp [K],by simp [J],by simp [M],by simp,(y.trans f6).trans Y,r2,A.trans (S.mono (alk _) (by omega)),p2,
  a7.tT S (by rw [A.len];omega) (by omega)⟩
end
end Km
namespace Km
open Go
abbrev vu(n:Int):V:=.c (.f (.int .u64 n))
def NU(H:an)(p:Nat):Prop:=∃ k:Int,H[p]?=aa (.box [.f (.int .u64 k)] 0)
theorem ajk{a b:Int}(d:0≤b):bP .shl (vu a) (vu b)=aa (vu (IntKind.wrap .u64 (a*2 ^ (min b.toNat 64)))):=by
 simp only [bP,aS (show¬ b<0 by omega)];rfl
theorem ajl{a b:Int}(d:0≤b):bP .shr (vu a) (vu b)=aa (vu (a.fdiv (2 ^ (min b.toNat 64)))):=by
 simp only [bP,aS (show¬ b<0 by omega)];rfl
theorem ajy{a b:Int}:bP .xor (vu a) (vu b)=aa (vu (IntKind.wrap .u64 (BitVec.ofInt 64 a ^^^ BitVec.ofInt 64 b).toNat)):=by
 simp only [bP,lz,if_true];rfl
theorem tN(n:Int):IntKind.wrap .u64 n=n % 18446744073709551616:=rfl
theorem TM{x:Int}{k:Nat}(j:k≤62):∃ o:Nat,o<2 ^ k∧bP .and (vu x) (vu ((2:Int) ^ k-1))=aa (vu o):=by
 have l:(2:Nat) ^ k≤2 ^ 62:=anF (by omega) j;have g:(2:Nat) ^ 62=4611686018427387904:=by decide
 have b:0<(2:Nat) ^ k:=Nat.pow_pos (by omega);have e:BitVec.ofInt 64 ((2:Int) ^ k-1)=BitVec.ofNat 64 (2 ^ k-1):=by
  have:((2:Int) ^ k-1)=((2 ^ k-1:Nat):Int):=by
   rw [Int.ofNat_sub b];simp
  rw [this,BitVec.ofInt_natCast]
 refine⟨(BitVec.ofInt 64 x).toNat % 2 ^ k,Nat.mod_lt _ b,?_⟩;have d:(BitVec.ofInt 64 x &&& BitVec.ofInt 64 ((2:Int) ^ k-1)).toNat=(BitVec.ofInt 64 x).toNat % 2 ^ k:=by
  rw [e,BitVec.toNat_and,BitVec.toNat_ofNat,Nat.mod_eq_of_lt (a:=2 ^ k-1) (by omega),Nat.and_two_pow_sub_one_eq_mod]
 have m:(BitVec.ofInt 64 x).toNat % 2 ^ k<2 ^ k:=Nat.mod_lt _ b;simp only [bP,lz,if_true];show aa (vu (IntKind.wrap .u64 ((BitVec.ofInt 64 x &&& BitVec.ofInt 64 ((2:Int) ^ k-1)).toNat)))=_;rw [d,tN,amx (by omega) (by omega)]
section
variable{tab:TB}{σ:gH}{sz:Nat}{H:an}{b ep:Nat}{rows:List (List FC)}{cv:V}{W:List FC→Prop}{c:List FC→List FC→Int}
theorem NU.fm{p b:Nat}{H H':an}(h:NU H p)(d:Fm b H H')(e:p≠b):NU H' p:=by
 obtain⟨k,h⟩:=h;exact⟨k,d.get h e⟩
theorem Fm.far{p b:Nat}{H d g:an}(h:Fm b H d)(q:H.length≤p)(m:Fm p d g):Fm b H g:=
 ⟨alL h.1 m.1,fun j n l=>(m.2 j (by omega) (aml l h.1)).trans (h.2 j n l)⟩
theorem acv(a:Int)(b:Int)(d:0≤b):∃ v,bP .shl (.c (.f (.int .u64 a))) (.c (.f (.int .u64 b)))=aa (.c (.f (.int .u64 v))):=⟨_,ajk d⟩
theorem ajm(a:Int)(b:Int)(d:0≤b):∃ v,bP .shr (.c (.f (.int .u64 a))) (.c (.f (.int .u64 b)))=aa (.c (.f (.int .u64 v))):=⟨_,ajl d⟩
theorem VT(a b:Int):∃ v,bP .xor (.c (.f (.int .u64 a))) (.c (.f (.int .u64 b)))=aa (.c (.f (.int .u64 v))):=⟨_,ajy⟩
theorem aeQ(X:tab σ.UU=aa (zO σ sz)){p:Nat}(s:NU H p) :
  ∃ r H',Ev tab (.fn σ.UU) [.c (.ptr p 0 0)] H r H'∧((∃ k:Int,r=vu k)∧Fm p H H'∧NU H' p):=by
 obtain⟨k,s⟩:=s;have x:=aj s;have j:∀(H:an) (k:Int),p<H.length→(H.set p (.box [.f (.int .u64 k)] 0))[p]?=aa (.box [.f (.int .u64 k)] 0):=fun H k h=>BY h;refine cH X rfl fun Q W=>?_;apply ai;simp;obtain⟨a1,L⟩:=acv k 13 (by omega);obtain⟨m,M⟩:=VT k a1;apply ai;simp [s,L,M];obtain⟨u,b⟩:=aN (H.set p (.box [.f (.int .u64 m)] 0));rw [←b];have z:u[p]?=aa (.box [.f (.int .u64 m)] 0):=by rw [b];exact j _ _ x
 have I:Fm p H u:=by rw [b];exact Fm.set _ _
 obtain⟨E,N⟩:=ajm m 7 (by omega);obtain⟨q,O⟩:=VT m E;apply ai;simp [z,N,O];obtain⟨v,d⟩:=aN (u.set p (.box [.f (.int .u64 q)] 0));rw [←d];have A:v[p]?=aa (.box [.f (.int .u64 q)] 0):=by rw [d];exact j _ _ (aj z)
 have J:Fm p H v:=by rw [d];exact I.trans (Fm.set _ _)
 obtain⟨F,S⟩:=acv q 17 (by omega);obtain⟨l,U⟩:=VT q F;apply ai;simp [A,S,U];obtain⟨y,g⟩:=aN (v.set p (.box [.f (.int .u64 l)] 0));rw [←g];have B:y[p]?=aa (.box [.f (.int .u64 l)] 0):=by rw [g];exact j _ _ (aj A)
 have K:Fm p H y:=by rw [g];exact J.trans (Fm.set _ _)
 apply ai;simp [B];exact aD (W _ _ (vu l) rfl (by simp [Km.results,aZ]) ⟨⟨l,rfl⟩,K,l,B⟩)
theorem aeP(q:tab σ.UT=aa (zN σ sz)){L k:Nat}(b:bX tab σ.len [vu L]=Eq (vi k))(v:L≤1000000000)(s:k≤62):bX tab σ.UT [vi L] (vu ((2:Int) ^ k)):=by
 refine cz q rfl fun Q m=>?_;apply ai;simp;have d:IntKind.wrap .u64 (L:Int)=L:=by rw [tN];omega
 have j:(2:Nat) ^ k≤2 ^ 62:=anF (by omega) s;have l:(2:Nat) ^ 62=4611686018427387904:=by decide
 have u:bP .shl (.c (.f (.int .u64 1))) (.c (.f (.int .i64 (k:Int))))=aa (vu ((2:Int) ^ k)):=by
  simp only [bP,aS (show¬ (k:Int)<0 by omega)];show aa (vu (IntKind.wrap .u64 (1*2 ^ (min (k:Int).toNat 64))))=_;have g:((2:Int) ^ k)=((2 ^ k:Nat):Int):=by simp
  obtain⟨w,d⟩:=aN (2 ^ k:Nat);rw [←d]at g j;rw [alJ,Nat.min_eq_left (by omega),Int.one_mul,tN,g,amx (by omega) (by omega)]
 apply ai;simp [d,b,u];exact aD (m _ _ ⟨rfl,_,by simp [Km.results,aZ];rfl,by simp⟩)
theorem aec(hT:tab σ.TR=aa (B7 σ sz))(hN:tab σ.UU=aa (zO σ sz))(hP:tab σ.UT=aa (zN σ sz)){n a L k:Nat}(I:bX tab σ.len [vu L]=Eq (vi k))(U:k≤62)(c_:2 ^ k≤2*L)(hn:rows.length=n)(hl:n≤1000000000)(v:RB H b sz ep rows)(hg:bO sz rows)(h8:8≤L)(b_:a+L≤n) :
  ∃ r H',Ev tab (.fn σ.TR) [.c (.sl b 0 n 0 ep sz),vi a,vi (a+L:Nat),cv] H r H'∧(r=.t []∧Fm b H H'∧∃ l',RB H' b sz ep l'∧eM a (a+L) rows l'):=by
 have N:=(aeP (σ:=σ) (sz:=sz) hP I (by omega) U).eq;obtain⟨d,hd⟩:=aN (L / 4);have hq:bP .quo (vi (L:Int)) (vi 4)=aa (vi (d:Int)):=by
  have:=abJ (a:=L) (b:=4) (by omega) (by omega);rw [hd];exact this
 have hw:IntKind.i64.wrap ((a:Int)+L-a)=L:=by rw [aO];omega
 have Y:IntKind.wrap .u64 (L:Int)=L:=by rw [tN];omega
 have h2:(2:Nat) ^ k≤2 ^ 62:=anF (by omega) U;have a7:(2:Nat) ^ 62=4611686018427387904:=by decide
 have d_:0<(2:Nat) ^ k:=Nat.pow_pos (by omega);have hp:((2:Int) ^ k)=((2 ^ k:Nat):Int):=by simp
 have X:IntKind.wrap .u64 ((2:Int) ^ k-1)=(2:Int) ^ k-1:=by rw [tN,hp,amx (by omega) (by omega)]
 refine cH hT rfl fun Q hQ=>?_;apply ai;simp [hw];apply au;refine aq (.inl rfl) ?_;simp;refine av (by simp;omega) ?_;have a_:=v.lt;apply ai;simp [Y];obtain⟨y,z⟩:=aN (H++[.box [.f (.int .u64 (L:Int))] 0]);rw [←z];have p1:NU y H.length:=⟨L,by rw [z];simp⟩
 have f1:Fm b H y:=by rw [z];exact Fm.push _ _
 have r1:RB y b sz ep rows:=by rw [z];exact v.push _
 apply ai;simp [N];apply ai;simp [hq,aO (n:=(d:Int)*2),aO (n:=(a:Int)+d*2),aO (n:=(a:Int)+d*2-1)];refine az ?_;refine bJ (fun m s=>∃(i:Nat) (t:T) (y:an) (l:List (List FC)),s=⟨t,[],y⟩∧i+m=a+d*2+2∧a≤i∧i≤a+d*2+2∧t.g 0=.c (.sl b 0 n 0 ep sz)∧t.g 1=vi a∧t.g 8=vi L∧t.g 9=.c (.ptr H.length 0 0)∧t.g 10=vu ((2:Int) ^ k)∧t.g 11=vi i ∧
  Fm b H y∧NU y H.length∧RB y b sz ep l∧eM a (a+L) rows l) 3
  ⟨a+d*2-1,_,y,rows,rfl,by omega,by omega,by omega,by simp,by simp,by simp,by simp,by simp,by simp;omega,f1,p1,r1,eM.refl _ _ _⟩ ?_
 rintro m s ⟨i,t,y,l,rfl,hm,a8,hi,E,B,A,F,eH,u,K,W,v,g⟩ ih;have M:=g.len;apply au;apply ai;simp [B,A,u,hq,aO (n:=(d:Int)*2),aO (n:=(a:Int)+d*2),aO (n:=(a:Int)+d*2+1)];by_cases d9:i≤a+d*2+1
 case neg=>
  refine aF (by simp;omega) ?_;refine bg (k':=[]) rfl ?_;exact cU (hQ _ _ _ rfl rfl ⟨rfl,K,l,v,g⟩)
 refine av (by simp;omega) (aP ?_);obtain⟨r,Z,S,⟨x,rfl⟩,f2,n2⟩:=aeQ (σ:=σ) (sz:=sz) hN W;have S:=S.eq;obtain⟨o,ho,J⟩:=TM (x:=x) (k:=k) U;have r2:RB Z b sz ep l:=f2.get v (by omega);have f3:=K.far (alk _) f2;apply au;refine az ?_;apply ai;simp [F,eH,S,X,J,aO (n:=(o:Int))];have go:∀(t:T) (q:Nat),q<L→t.g 0=.c (.sl b 0 n 0 ep sz)→t.g 1=vi a→t.g 8=vi L→t.g 9=.c (.ptr H.length 0 0)→t.g 10=vu ((2:Int) ^ k)→t.g 11=vi i→t.g 12=vi q →
   WP tab σ.TR ab [.code (TT sz),.inBlock 1,.code (TU),.inLoop (TS σ sz),.inBlock 0] ⟨t,[],Z⟩ Q:=by
  intro t q e_ E B A F eH u O;obtain⟨x5,y5,H5,H6,-,-,i5,j5,l5,l6,w5,w6,s5,j6,s6,r6,f6⟩:=r2.il (g.rp hg) (M.trans hn) (i:=i) (j:=a+q) (by omega) (by omega);have ce:((a+q:Nat):Int)=(a:Int)+q:=by omega
  rw [ce]at j5 j6;refine aq (.inl rfl) ?_;simp [E,B,u,O,i5,j5,l5,l6,w5,w6,s5,j6,s6,-ay,-bw,aO (n:=(a:Int)+q)];refine ax (aq (.inl rfl) ?_);simp [u,aO (n:=(i:Int)+1)];exact ih (m-1) _ (by omega) ⟨i+1,_,H6,_,rfl,by omega,by omega,by omega,by simp [E],by simp [B],by simp [A],by simp [F],by simp [eH],by simp,f3.trans f6,n2.fm f6 (by omega),r6,
   g.trans (fh (by omega) (by omega) (by omega) (by omega) (by omega))⟩
 apply au;apply au;refine aq (.inl rfl) ?_;simp [A];by_cases c9:L≤o
 ·refine av (by simp;omega) ?_;refine aq (.inl rfl) ?_;simp [A,aO (n:=(o:Int)-L)];exact go _ (o-L) (by omega) (by simp [E]) (by simp [B]) (by simp [A]) (by simp [F]) (by simp [eH]) (by simp [u]) (by simp;omega)
 ·refine aF (by simp;omega) (aP ?_);exact go _ o (by omega) (by simp [E]) (by simp [B]) (by simp [A]) (by simp [F]) (by simp [eH]) (by simp [u]) (by simp)
end
end Km
namespace Km
open Go
section
variable{W:List FC→Prop}{c:List FC→List FC→Int}{l l':List (List FC)}
def Rest(c:List FC→List FC→Int)(a p q e:Nat)(l:List (List FC)):Prop:=∀ i j,a≤i→i<j→j<e→¬ (p≤i∧j<q)→jP c l i j
theorem Rest.all(c:List FC→List FC→Int)(a e:Nat)(l:List (List FC)):Rest c a a e e l:=fun i j h1 h2 h3 h4=>by omega
theorem Rest.tT{a p q e:Nat}(h:Rest c a p q e l)(b:eM p q l l')(d:p≤q)(z:q≤l.length)(E:a≤p)(F:q≤e):Rest c a p q e l':=by
 intro i j h1 h2 h3 h4 x y g hy;by_cases u:p≤i∧i<q
 ·obtain⟨H,J,K,m⟩:=b.mem d z u.1 u.2 g;rw [b.ge (by omega)]at hy;exact h H j (by omega) (by omega) h3 (by omega) x y m hy
 by_cases v:p≤j∧j<q
 ·obtain⟨I,L,M,s⟩:=b.mem d z v.1 v.2 hy;rw [b.lt (by omega)]at g;exact h i I h1 (by omega) (by omega) (by omega) x y g s
 have A:l'[i]?=l[i]?:=by
  by_cases h5:i<p
  ·exact b.lt h5
  ·exact b.ge (by omega)
 have B:l'[j]?=l[j]?:=by
  by_cases h5:j<p
  ·exact b.lt h5
  ·exact b.ge (by omega)
 rw [A]at g;rw [B]at hy;exact h i j h1 h2 h3 h4 x y g hy
theorem Rest.up{a p q e:Nat}(h:Rest c a p q e l)(hu:Up c p q l):Up c a e l:=fun i j x y h1 h2 h3 b hy=>by
 by_cases h4:p≤i∧j<q
 ·exact hu i j x y h4.1 h2 h4.2 b hy
 ·exact h i j h1 h2 h3 h4 x y b hy
theorem Rest.low{a p q e:Nat}(h:Rest c a p q e l)(hl:Ar c a e l)(d:a≤p)(g:q≤e):Ar c p q l:=fun k h0 h1 h2=>by
 by_cases b:p=a
 ·subst b;exact hl k h0 h1 (by omega)
 ·exact h (p-1) k (by omega) (by omega) (by omega) (by omega)
theorem Rest.left{a p q e m:Nat}(E:Rest c a p q e l)(hc:tQ W c)(g:∀ r ∈ l,W r)(A:e≤l.length)(B:mo c p q m l)(hu:Up c p m l)(h1:p≤m)(h2:m<q)(h3:q≤e):Rest c a (m+1) q e l:=by
 intro i j F z H h4;by_cases h5:p≤i∧j<q
 case neg=>exact E i j F z H h5
 obtain⟨v,u,lo,hi⟩:=B;rcases amK j m with s | s | s
 ·exact fun x y d hy=>hu i j x y h5.1 z s d hy
 ·subst s;intro x y d hy;rw [u]at hy;cases hy;exact hc.yN (g _ (als d)) (g _ (als u)) (lo i x h5.1 z d)
 ·have b:i≤m:=by omega
  have right:jP c l m j:=fun x y d hy=>by
   rw [u]at d;cases d;exact hi j y s h5.2 hy
  rcases Nat.lt_or_eq_of_le b with b | b
  ·have left:jP c l i m:=fun x y d hy=>by
    rw [u]at hy;cases hy;exact hc.yN (g _ (als d)) (g _ (als u)) (lo i x h5.1 b d)
   exact left.trans hc g right (by omega)
  ·subst b;exact right
theorem Rest.right{a p q e m:Nat}(E:Rest c a p q e l)(hc:tQ W c)(s:∀ r ∈ l,W r)(A:e≤l.length)(B:mo c p q m l)(hu:Up c (m+1) q l)(h1:p≤m)(h2:m<q)(h3:q≤e):Rest c a p m e l:=by
 intro i j F z H h4;by_cases h5:p≤i∧j<q
 case neg=>exact E i j F z H h5
 obtain⟨v,g,lo,hi⟩:=B;rcases amK i m with d | d | d
 ·have left:jP c l i m:=fun x y b hy=>by
   rw [g]at hy;cases hy;exact hc.yN (s _ (als b)) (s _ (als g)) (lo i x h5.1 d b)
  rcases Nat.lt_or_eq_of_le (show m≤j by omega)with u | u
  ·have right:jP c l m j:=fun x y b hy=>by
    rw [g]at b;cases b;exact hi j y u h5.2 hy
   exact left.trans hc s right (by omega)
  ·subst u;exact left
 ·subst d;intro x y b hy;rw [g]at b;cases b;exact hi j y z h5.2 hy
 ·exact fun x y b hy=>hu i j x y (by omega) z h5.2 b hy
theorem Rest.equal{a p q e m:Nat}{v:List FC}(E:Rest c a p q e l)(hc:tQ W c)(d:∀ r ∈ l,W r)(b:Ar c p q l)(h0:0<p){w:List FC}(z:l[p-1]?=aa w)(u:W v)(s:¬ c w v<0)
  (lo:∀(k:Nat) x,p≤k→k<m→l[k]?=aa x→¬ c v x<0):Rest c a m q e l:=by
 intro i j F H I h4;by_cases h5:p≤i∧j<q
 case neg=>exact E i j F H I h5
 intro x y A hy;have g:i<m:=by omega
 have h6:=lo i x h5.1 g A;have h7:=b j h0 (by omega) h5.2 w y z hy;have K:=d _ (als A);have B:=d _ (als hy);have J:=d _ (als z);exact hc.trans K u B h6 (hc.trans u J B s h7)
theorem mo.tT{p q m g q':Nat}(E:mo c p q m l)(d:eM g q' l l')(h:(p≤g∧q'≤m)∨(m<g∧q'≤q))(s:g≤q')(hl:q'≤l.length):mo c p q m l':=by
 obtain⟨v,A,lo,hi⟩:=E;refine⟨v,?_,fun k x u y b=>?_,fun k x u y b=>?_⟩
 ·rcases h with h | h
  ·rw [d.ge (by omega)];exact A
  ·rw [d.lt (by omega)];exact A
 ·by_cases j:g≤k∧k<q'
  ·obtain⟨k',a1,B,z⟩:=d.mem s hl j.1 j.2 b;rcases h with h | h
   ·exact lo k' x (by omega) (by omega) z
   ·omega
  ·by_cases h5:k<g
   ·rw [d.lt h5]at b;exact lo k x u y b
   ·rw [d.ge (by omega)]at b;exact lo k x u y b
 ·by_cases j:g≤k∧k<q'
  ·obtain⟨k',a1,B,z⟩:=d.mem s hl j.1 j.2 b;rcases h with h | h
   ·omega
   ·exact hi k' x (by omega) (by omega) z
  ·by_cases h5:k<g
   ·rw [d.lt h5]at b;exact hi k x u y b
   ·rw [d.ge (by omega)]at b;exact hi k x u y b
end
structure Pq(b n ep sz:Nat)(cv:V)(H:an)(c:List FC→List FC→Int)(rows:List (List FC))(a e:Nat)(t:T)(H1:an)(l:List (List FC))(p q:Nat)(lim:Int):Prop where
 g0:t.g 0=.c (.sl b 0 n 0 ep sz)
 g1:t.g 1=vi p
 g2:t.g 2=vi q
 g3:t.g 3=vi lim
 g4:t.g 4=cv
 fr:Fm b H H1
 rb:RB H1 b sz ep l
 sg:eM a e rows l
 re:Rest c a p q e l
 ap:a≤p
 pq:p≤q
 qe:q≤e
theorem Pq.aE{b n ep sz:Nat}{cv:V}{H:an}{c:List FC→List FC→Int}{rows:List (List FC)}{a e:Nat}{t:T}{g:an}{l:List (List FC)}{p q:Nat}{lim:Int}(h:Pq b n ep sz cv H c rows a e t g l p q lim)
  {d:T} (j:d.g 0=t.g 0) (m:d.g 1=t.g 1) (s:d.g 2=t.g 2) (u:d.g 3=t.g 3) (v:d.g 4=t.g 4):Pq b n ep sz cv H c rows a e d g l p q lim:=
 ⟨j.trans h.g0,m.trans h.g1,s.trans h.g2,u.trans h.g3,v.trans h.g4,h.fr,h.rb,h.sg,h.re,h.ap,h.pq,h.qe⟩
theorem Pq.tT{b n ep sz:Nat}{cv:V}{H:an}{c:List FC→List FC→Int}{rows:List (List FC)}{a e:Nat}{t:T}{g:an}{l:List (List FC)}{p q:Nat}{lim:Int}(h:Pq b n ep sz cv H c rows a e t g l p q lim)
  {d:an} {l2:List (List FC)} (s:Fm b g d) (hb:RB d b sz ep l2) (j:eM p q l l2) (m:e≤rows.length):Pq b n ep sz cv H c rows a e t d l2 p q lim:=
 ⟨h.g0,h.g1,h.g2,h.g3,h.g4,h.fr.trans s,hb,h.sg.trans (j.mono h.ap h.qe),h.re.tT j h.pq (by rw [h.sg.len];exact alL h.qe m) h.ap h.qe,h.ap,h.pq,h.qe⟩
end Km
namespace Km
open Go
structure adH(tab:TB)(σ:gH)(sz:Nat):Prop where
 tt:tab σ.tt=aa (CC σ sz)
 ins:tab σ.ins=aa (vq σ sz)
 heap:tab σ.heap=aa (wN σ sz)
 qA:tab σ.qA=aa (tF σ sz)
 TR:tab σ.TR=aa (B7 σ sz)
 Kg:tab σ.Kg=aa (CO σ sz)
 rev:tab σ.rev=aa (CU σ sz)
 part:tab σ.part=aa (xu σ sz)
 CE:tab σ.CE=aa (CG σ sz)
 pins:tab σ.pins=aa (xx σ sz)
 qo:tab σ.qo=aa (sV σ sz)
 Jw:tab σ.Jw=aa (vI σ sz)
 ord:tab σ.ord=aa (tp σ sz)
 UT:tab σ.UT=aa (zN σ sz)
 UU:tab σ.UU=aa (zO σ sz)
section
variable{tab:TB}{σ:gH}{sz:Nat}{b ep n:Nat}{cv:V}{W:List FC→Prop}{c:List FC→List FC→Int}
theorem Vc(hT:adH tab σ sz)(a8:Cv tab cv W c)(hc:tQ W c)(hl:n≤1000000000)(e_:∀ L:Nat,L≤n→∃ k:Nat,bX tab σ.len [vu L]=Eq (vi k)∧k≤62∧(0<L→2 ^ k≤2*L)) :
  ∀(m a e:Nat) (H:an) (rows:List (List FC)) (lim:Int),e-a=m→a≤e→e≤n→rows.length=n→RB H b sz ep rows→bO sz rows→(∀ r ∈ rows,W r)→Ar c a e rows →
  ∃ r H',Ev tab (.fn σ.tt) [.c (.sl b 0 n 0 ep sz),vi a,vi e,vi lim,cv] H r H'∧(r=.t []∧Fm b H H'∧∃ l',RB H' b sz ep l'∧eM a e rows l'∧Up c a e l'):=by
 intro m;induction m using Nat.strongRecOn with
 | ind m IH=>
 intro a e H rows lim hm f7 f_ hn j7 hg hW h_;have I:∀ {l p q},eM p q rows l→bO sz l:=fun h=>h.rp hg;have B:∀ {l p q},eM p q rows l→∀ r ∈ l,W r:=fun h r hr=>hW r (h.1.mem_iff.1 hr);refine cH hT.tt rfl fun Q hQ=>?_;have done:∀ {K:an} {l:List (List FC)},Fm b H K→RB K b sz ep l→eM a e rows l→Up c a e l→∀(j:Option aw) (t:T),Q j ⟨t,[],K⟩:=
  fun hf hr hs hu j t=>hQ _ _ (.t []) rfl rfl ⟨rfl,hf,_,hr,hs,hu⟩
 apply ai;simp;apply ai;simp;refine az ?_;refine bJ (fun m s=>∃(p q:Nat) (lim:Int) (w1 w2:Bool) (t:T) (K:an) (l:List (List FC)),s=⟨t,[],K⟩∧m=q-p∧Pq b n ep sz cv H c rows a e t K l p q lim∧t.g 10=vb w1∧t.g 11=vb w2) _
  ⟨a,e,lim,ae,ae,_,H,rows,rfl,rfl,⟨by simp,by simp,by simp,by simp,by simp,Fm.refl H,j7,eM.refl _ _ _,Rest.all c a e rows,alk _,f7,alk _⟩,by simp,by simp⟩ ?_
 rintro m1 s ⟨p,q,lim,w1,w2,t,K,l,rfl,rfl,u,eH,M⟩ ih;obtain⟨O,S,N,g3,U,-,-,-,-,ap,pq,qe⟩:=id u;refine az ?_;apply ai;obtain⟨L,rfl⟩:∃ L,q=p+L:=⟨q-p,by omega⟩
 have hw:IntKind.i64.wrap ((p:Int)+L-p)=L:=by rw [aO];omega
 have z:∀ {K t l lim p q},Pq b n ep sz cv H c rows a e t K l p q lim→l.length=n:=fun h=>h.sg.len.trans hn;have a_:∀ {K t l lim p q},Pq b n ep sz cv H c rows a e t K l p q lim→Ar c p q l:=fun h=>h.re.low (h_.tT h.sg (alk _) (alk _) f7 (by omega)) h.ap h.qe;simp [S,N,hw];apply au;apply ai;simp;by_cases j8:L≤12
 ·refine av (by simp;omega) ?_;obtain⟨r,H2,A,rfl,f2,l2,r2,s2,u2⟩:=aeF hT.ins a8 hc (z u) hl u.rb (I u.sg) (B u.sg) u.pq (by omega);apply ai;have A:=A.eq;simp at A;simp [O,S,N,U,A];have g:=u.tT f2 r2 s2 (by omega);exact aD (done g.fr g.rb g.sg (g.re.up u2) _ _)
 refine aF (by simp;omega) (aP ?_);apply au;apply ai;simp [g3];by_cases g_:lim=0
 ·refine av (by simp [g_]) ?_;obtain⟨r,H2,A,rfl,f2,l2,r2,s2,u2⟩:=aaA hT.heap hT.qA a8 hc (z u) hl u.rb (I u.sg) (B u.sg) (show p<p+L by omega) (by omega);apply ai;have A:=A.eq;simp at A;simp [O,S,N,U,A];have g:=u.tT f2 r2 s2 (by omega);exact aD (done g.fr g.rb g.sg (g.re.up u2) _ _)
 refine aW (by simp [g_]) ?_;have i8:∀(t:T) (K:an) (l:List (List FC)) (lim:Int) (v:Nat),Pq b n ep sz cv H c rows a e t K l p (p+L) lim→t.g 12=vi L→t.g 13=vi v→p≤v→v<p+L →
   WP tab σ.tt ab [.code (Vb σ),.inBlock 1,.inLoop (vQ σ sz),.inBlock 0] ⟨t,[],K⟩ Q:=by
  intro t K l lim v u X Y Z a7;obtain⟨O,S,N,g3,U,-,-,-,-,-,-,-⟩:=id u;obtain⟨r,H2,A,mid,w,rfl,m1,m2,f2,l2,r2,s2,pt⟩:=abf hT.part a8 (z u) hl u.rb (I u.sg) (B u.sg) (show p<p+L by omega) (by omega) Z a7;have A:=A.eq;simp at A;have g:=u.tT f2 r2 s2 (by omega);have i3:=z g;obtain⟨d,hd⟩:=aN (L / 8);have hq:bP .quo (vi (L:Int)) (vi 8)=aa (vi (d:Int)):=by
   have:=abJ (a:=L) (b:=8) (by omega) (by omega);rw [hd];exact this
  apply ai;simp [O,S,N,U,Y,A];apply ai;simp;apply ai;simp [S,N];apply ai;simp [X,hq];apply au;refine aq (.inl rfl) ?_;simp [aO (n:=(mid:Int)-p),aO (n:=(p:Int)+L-mid)];by_cases j9:(mid:Int)-p<(p:Int)+L-mid
  ·refine av (by simp;omega) ?_;obtain⟨r,H3,A,rfl,f3,l3,r3,s3,u3⟩:=IH (mid-p) (by omega) p mid H2 l2 lim rfl m1 (by omega) i3 r2 (I g.sg) (B g.sg) ((a_ g).mono (by omega));have A:=A.eq;have E:=g.tT f3 r3 (s3.mono (alk _) (by omega)) (by omega);apply ai;simp;apply ai;simp [O,S,g3,U,A];refine aq (.inl rfl) ?_;simp [aO (n:=(mid:Int)+1)];refine ax (ih _ _ (by omega) ⟨mid+1,p+L,lim,_,w,_,H3,l3,rfl,rfl,⟨by simp [O],by simp,by simp [N],by simp [g3],by simp [U],E.fr,E.rb,E.sg,?_,by omega,by omega,E.qe⟩,by simp;rfl,by simp⟩);exact E.re.left hc (B E.sg) (by rw [z E];exact f_) (pt.tT s3 (.inl ⟨alk _,alk _⟩) m1 (by omega)) u3 m1 m2 E.qe
  ·refine aF (by simp;omega) ?_;have i4:Ar c (mid+1) (p+L) l2:=fun k h0 k1 k2 x y hx hy=>by
    obtain⟨v,hv,lo,hi⟩:=pt;rw [show mid+1-1=mid by omega,hv]at hx;cases hx;exact hi k y (by omega) k2 hy
   obtain⟨r,H3,A,rfl,f3,l3,r3,s3,u3⟩:=IH (p+L-(mid+1)) (by omega) (mid+1) (p+L) H2 l2 lim rfl (by omega) (by omega) i3 r2 (I g.sg) (B g.sg) i4;have A:=A.eq;simp at A;have E:=g.tT f3 r3 (s3.mono (by omega) (alk _)) (by omega);apply ai;simp;apply ai;simp [O,N,g3,U,A,aO (n:=(mid:Int)+1)];refine aq (.inl rfl) ?_;simp;refine ax (ih _ _ (by omega) ⟨p,mid,lim,_,w,_,H3,l3,rfl,rfl,⟨by simp [O],by simp [S],by simp,by simp [g3],by simp [U],E.fr,E.rb,E.sg,?_,by omega,by omega,by omega⟩,by simp;rfl,by simp⟩);exact E.re.right hc (B E.sg) (by rw [z E];exact f_) (pt.tT s3 (.inr ⟨by omega,alk _⟩) (by omega) (by omega)) u3 m1 m2 E.qe
 have c9:∀(t:T) (K:an) (l:List (List FC)) (lim:Int) (v:Nat) (w1 w2:Bool),Pq b n ep sz cv H c rows a e t K l p (p+L) lim→t.g 12=vi L→t.g 13=vi v→t.g 10=vb w1→t.g 11=vb w2→p≤v→v<p+L →
   WP tab σ.tt ab [.code (Va σ sz),.inBlock 1,.inLoop (vQ σ sz),.inBlock 0] ⟨t,[],K⟩ Q:=by
  intro t K l lim v w1 w2 u X Y eH M Z a7;obtain⟨O,S,N,g3,U,-,-,-,-,-,-,-⟩:=id u;apply au;apply ai;rcases amG p with c_ | c_
  ·simp [S,c_];refine aW (by simp) ?_;exact i8 _ K l lim v (u.aE (by simp [O]) (by simp [S,c_]) (by simp [N]) (by simp [g3]) (by simp [U])) (by simp [X]) (by simp [Y]) Z a7
  obtain⟨d,rfl⟩:∃ d,p=d+1:=⟨p-1,by omega⟩
  have j4:(0:Int)<(d:Int)+1:=by omega
  have c1:((d+1:Nat):Int)=(d:Int)+1:=by omega
  have c2:((d+1+L:Nat):Int)=(d:Int)+1+L:=by omega
  obtain⟨x,y,F,ar,J,hx,hy,i1,j1,l1,l2,f8,A,wx,wy⟩:=u.rb.ask (I u.sg) a8 (B u.sg) (z u) (i:=d) (j:=v) (by omega) (by omega);have d_:t.g 1=vi ((d:Int)+1):=by rw [S,c1]
  simp [O,d_,U,Y,j4,i1,j1,l1,l2,f8,A,-ay,aO (n:=(d:Int))];have b_:Pq b n ep sz cv H c rows a e t (K++J) l (d+1) (d+1+L) lim:=u.tT (Fm.push _ _) (u.rb.push _) (eM.refl _ _ _) (by omega);by_cases d9:c x y<0
  ·refine aW (by simp [d9]) ?_;exact i8 _ _ l lim v (b_.aE (by simp [O]) (by simp [S]) (by simp [N]) (by simp [g3]) (by simp [U])) (by simp [X]) (by simp [Y]) Z a7
  refine av (by simp [d9]) ?_;obtain⟨r,H2,A,mid,rfl,m1,m2,f2,l2,r2,s2,lo,hi⟩:=afD hT.CE a8 hc (z b_) hl b_.rb (I b_.sg) (B b_.sg) (show d+1<d+1+L by omega) (by omega) Z a7 hy;have A:=A.eq;have g:=b_.tT f2 r2 s2 (by omega);rw [c1,c2]at A;rw [c2]at N;apply ai;simp [O,d_,N,U,Y,A];apply ai;simp;refine bg (k':=[.inLoop (vQ σ sz),.inBlock 0]) rfl ?_;refine ih _ _ (by omega) ⟨mid,d+1+L,lim,w1,w2,_,H2,l2,rfl,rfl,⟨by simp [O],by simp,by simp [N],by simp [g3],by simp [U],g.fr,g.rb,g.sg,?_,by omega,by omega,g.qe⟩,by simp [eH],by simp [M]⟩;refine g.re.equal hc (B g.sg) (a_ g) (by omega) (w:=x) (v:=y) ?_ wy d9 lo;rw [show d+1-1=d by omega,s2.lt (by omega)];exact hx
 have i7:∀(t:T) (K:an) (l:List (List FC)) (lim:Int) (v:Nat) (w1 w2:Bool) (hint:Int),Pq b n ep sz cv H c rows a e t K l p (p+L) lim→t.g 12=vi L→t.g 13=vi v→t.g 14=vi hint→t.g 10=vb w1→t.g 11=vb w2→p≤v→v<p+L →
   WP tab σ.tt ab [.code (U_ σ sz),.inBlock 1,.inLoop (vQ σ sz),.inBlock 0] ⟨t,[],K⟩ Q:=by
  intro t K l lim v w1 w2 hint u X Y i9 eH M Z a7;obtain⟨O,S,N,g3,U,-,-,-,-,-,-,-⟩:=id u;apply au;apply ai;cases w1 with
  | false=>
   simp [eH];refine aW (by simp) ?_;exact c9 _ _ l lim v ag w2 (u.aE (by simp [O]) (by simp [S]) (by simp [N]) (by simp [g3]) (by simp [U])) (by simp [X]) (by simp [Y]) (by simp [eH]) (by simp [M]) Z a7
  | true=>
  cases w2 with
  | false=>
   simp [eH,M];refine aW (by simp) ?_;exact c9 _ _ l lim v ae ag (u.aE (by simp [O]) (by simp [S]) (by simp [N]) (by simp [g3]) (by simp [U])) (by simp [X]) (by simp [Y]) (by simp [eH]) (by simp [M]) Z a7
  | true=>
  simp [eH,M,i9];by_cases h1:hint=1
  case neg=>
   refine aW (by simp [h1]) ?_;exact c9 _ _ l lim v ae ae (u.aE (by simp [O]) (by simp [S]) (by simp [N]) (by simp [g3]) (by simp [U])) (by simp [X]) (by simp [Y]) (by simp [eH]) (by simp [M]) Z a7
  refine av (by simp [h1]) ?_;obtain⟨r,H2,A,w,rfl,f2,l2,r2,s2,u2⟩:=abF hT.pins a8 hc (z u) hl u.rb (I u.sg) (B u.sg) (show p<p+L by omega) (by omega) (a_ u);have A:=A.eq;simp at A;have g:=u.tT f2 r2 s2 (by omega);apply ai;simp [O,S,N,U,A];cases w with
  | true=>
   refine av (by simp) ?_;exact aD (done g.fr g.rb g.sg (g.re.up (u2 rfl)) _ _)
  | false=>
   refine aW (by simp) ?_;exact c9 _ _ l2 lim v ae ae (g.aE (by simp [O]) (by simp [S]) (by simp [N]) (by simp [g3]) (by simp [U])) (by simp [X]) (by simp [Y]) (by simp [eH]) (by simp [M]) Z a7
 have i6:∀(t:T) (K:an) (l:List (List FC)) (lim:Int) (w1 w2:Bool),Pq b n ep sz cv H c rows a e t K l p (p+L) lim→t.g 12=vi L→t.g 10=vb w1→t.g 11=vb w2 →
   WP tab σ.tt ab [.code (U' σ sz),.inBlock 1,.inLoop (vQ σ sz),.inBlock 0] ⟨t,[],K⟩ Q:=by
  intro t K l lim w1 w2 u X eH M;obtain⟨O,S,N,g3,U,-,-,-,-,-,-,-⟩:=id u;obtain⟨r,H2,A,⟨v,hint,rfl,v1,v2⟩,kp⟩:=afU hT.Kg hT.qo hT.Jw hT.ord a8 (z u) hl u.rb (I u.sg) (B u.sg) (show p+8≤p+L by omega) (by omega);have A:=A.eq;simp at A;have g:Pq b n ep sz cv H c rows a e t H2 l p (p+L) lim:=u.tT kp.fm (kp.rb u.rb) (eM.refl _ _ _) (by omega);apply ai;simp [O,S,N,U,A];apply au;apply ai;simp;by_cases h2:hint=2
  case neg=>
   refine aW (by simp [h2]) ?_;exact i7 _ _ l lim v w1 w2 hint (g.aE (by simp [O]) (by simp [S]) (by simp [N]) (by simp [g3]) (by simp [U])) (by simp [X]) (by simp) (by simp) (by simp [eH]) (by simp [M]) v1 v2
  refine av (by simp [h2]) ?_;obtain⟨r,H3,A,rfl,f3,l3,r3,s3⟩:=af6 hT.rev (cv:=cv) (z g) hl g.rb (I g.sg) (show p<p+L by omega) (by omega);have A:=A.eq;simp at A;have E:=g.tT f3 r3 s3 (by omega);apply ai;simp [O,S,N,U,A];apply ai;simp [S,N,aO (n:=(p:Int)+L-1),aO (n:=(v:Int)-p),aO (n:=(p:Int)+L-1-(v-p))];refine aq (.inl rfl) ?_;simp;exact i7 _ _ l3 lim (p+L-1-(v-p)) w1 w2 1 (E.aE (by simp [O]) (by simp [S]) (by simp [N]) (by simp [g3]) (by simp [U])) (by simp [X]) (by simp;omega) (by simp) (by simp [eH]) (by simp [M]) (by omega) (by omega)
 apply au;apply ai;simp [eH];cases w1 with
 | true=>
  refine aW (by simp) ?_;exact i6 _ _ l lim ae w2 (u.aE (by simp [O]) (by simp [S]) (by simp [N]) (by simp [g3]) (by simp [U])) (by simp) (by simp [eH]) (by simp [M])
 | false=>
  refine av (by simp) ?_;obtain⟨k,hk,i_,j3⟩:=e_ L (by omega);obtain⟨r,H2,A,rfl,f2,l2,r2,s2⟩:=aec (cv:=cv) hT.TR hT.UU hT.UT hk i_ (j3 (by omega)) (z u) hl u.rb (I u.sg) (a:=p) (by omega) (by omega);have A:=A.eq;simp at A;have g:=u.tT f2 r2 s2 (by omega);apply ai;simp [O,S,N,U,A];refine aq (.inl rfl) ?_;simp [g3];exact i6 _ _ l2 _ ag w2 ⟨by simp [O],by simp [S],by simp [N],by simp;rfl,by simp [U],g.fr,g.rb,g.sg,g.re,g.ap,g.pq,g.qe⟩ (by simp) (by simp [eH]) (by simp [M])
end
end Km
namespace Km
open Go
def sort_1:aw:=.region [⟨D 5,.cV (R 0),ab⟩,⟨D 6,.len (R 5),ab⟩,⟨D 4,.cV (R 6),ab⟩] []
def age(σ:gH):aw:=.region [⟨D 7,.cV (R 0),ab⟩,⟨D 8,.cV (R 4),ab⟩,⟨D 9,.cV (R 4),ab⟩,⟨D 10,.ko .u64 (R 9),ab⟩,⟨D 11,.call σ.len [(R 10)] ag,ab⟩,⟨D 12,.cV (R 1),ab⟩,⟨D 13,.call σ.tt [(R 7),(.k (.c (.f (.int .i64 0)))),(R 8),(R 11),(R 12)] ae,ab⟩] []
def agf(σ:gH):aL:=⟨[P.nat 0,P.nat 1],[],.seq sort_1 (age σ)⟩
section
variable{tab:TB}{σ:gH}{sz:Nat}{cv:V}{W:List FC→Prop}{c:List FC→List FC→Int}{N:Nat}
def Ts(tab:TB)(σ:gH)(N:Nat):Prop:=∀ L:Nat,L≤N→∃ k:Nat,bX tab σ.len [vu L]=Eq (vi k)∧k≤62∧(0<L→2 ^ k≤2*L)
theorem aaD(d:tab σ.ins=aa (vq σ sz)){H:an}{v:V}:Ev tab (.fn σ.ins) [v,vi 0,vi 0,cv] H (.t []) H:=by
 obtain⟨r,H',g,rfl,rfl⟩:∃ r H',Ev tab (.fn σ.ins) [v,vi 0,vi 0,cv] H r H'∧(r=.t []∧H'=H):=by
  refine cH d rfl fun Q b=>?_;apply ai;simp [aO (n:=(1:Int))];refine az ?_;refine bJ (fun _ s=>s=⟨_,[],H⟩) 0 rfl ?_;rintro _ s rfl -;apply au;apply ai;simp;refine aF (by simp) ?_;refine bg (k':=[]) rfl ?_;exact cU (b _ _ _ rfl rfl ⟨rfl,rfl⟩)
 exact g
theorem CD(g:tab σ.tt=aa (CC σ sz))(b:tab σ.ins=aa (vq σ sz)){H:an}{v:V}{lim:Int}:Ev tab (.fn σ.tt) [v,vi 0,vi 0,vi lim,cv] H (.t []) H:=by
 have hi:=(aaD (σ:=σ) (sz:=sz) (cv:=cv) b (H:=H) (v:=v)).eq;obtain⟨r,H',j,rfl,rfl⟩:∃ r H',Ev tab (.fn σ.tt) [v,vi 0,vi 0,vi lim,cv] H r H'∧(r=.t []∧H'=H):=by
  refine cH g rfl fun Q d=>?_;apply ai;simp;apply ai;simp;refine az ?_;refine bJ (fun _ s=>s=⟨_,[],H⟩) 0 rfl ?_;rintro _ s rfl -;refine az ?_;apply ai;simp [aO (n:=(0:Int))];apply au;apply ai;simp;refine av (by simp) ?_;apply ai;simp [hi];exact aD (d _ _ _ rfl rfl ⟨rfl,rfl⟩)
 exact j
end
end Km
section
set_option linter.unusedVariables false
namespace Km
open Go
section
variable(D R:Nat)
def nw:Nat→Nat
 | 0=>0| k+1=>nw k+(bif D.testBit k then 0 else 1)
def dd(p:P):Bool:=D.testBit p.toNat
def rr(p:P):Bool:=!dd D p&&R.testBit p.toNat
def pl(p:P):Bool:=!dd D p&&!R.testBit p.toNat
def rn(p:P):P:=.nat (nw D p.toNat)
def xy:Arg→Bool
 | .r p=>pl D R p| .k _=>ae
def ug:Arg→Arg
 | .r p=>.r (rn D p)| x=>x
def trG:Option (P × Bool)→Option (Option (P × Bool))
 | none=>aa ab| some (p,w)=>if pl D R p then aa (aa (rn D p,w))else ab
def trP:dn→Option dn
 | .cV (.k v)=>aa (.cV (.k v))| .alloc z=>aa (.alloc z)| .bin o x y=>if xy D R x&&xy D R y then aa (.bin o (ug D x) (ug D y))else ab| .un o x=>if xy D R x then aa (.un o (ug D x))else ab| .ko k x=>if xy D R x then aa (.ko k (ug D x))else ab| .dO x=>if xy D R x then aa (.dO (ug D x))else ab| .load ab x=>if xy D R x then aa (.load ab (ug D x))else ab| .extract x i=>if xy D R x then aa (.extract (ug D x) i)else ab| .bN s a x i=>if xy D R x&&xy D R i then aa (.bN s a (ug D x) (ug D i))else ab| .pick c x y=>if xy D R c&&(xy D R x&&xy D R y)then aa (.pick (ug D c) (ug D x) (ug D y))else ab| _=>ab
variable(σ:gH)
def ab1:gH:={ tt:=1,ins:=4,heap:=7,qA:=10,TR:=13,Kg:=16,rev:=19,part:=22,CE:=25,pins:=28,qo:=31,Jw:=34,ord:=37,UT:=40,UU:=43,len:=3*σ.len,agh:=0,agd:=0,rot:=0,VZ:=0 }
def AL:List aL:=let s:=ab1 σ
 [CC s 1,vq s 1,wN s 1,tF s 1,B7 s 1,CO s 1,CU s 1,xu s 1,CG s 1,xx s 1,sV s 1,vI s 1,tp s 1,zN s 1,zO s 1]
def nmI:List Nat:=[σ.tt,σ.ins,σ.heap,σ.qA,σ.TR,σ.Kg,σ.rev,σ.part,σ.CE,σ.pins,σ.qo,σ.Jw,σ.ord,σ.UT,σ.UU]
def nmF(f:Nat):Nat:=if f % 3=0 then f / 3 else(nmI σ).getD (f / 3) 0
def T4(f:Nat):Bool:=f % 3 == 1&&decide (f / 3<13)
def zx:List Arg→Option (List Arg × P)
 | []=>ab| [.r p]=>aa ([],p)| x::xs=>(zx xs).map fun r=>(x::r.1,r.2)
def tr1(o:aQ):Option (Option aQ):=
 match trG D R o.g with
 | none=>ab
 | some g=>match o.dst,o.op with
  | none,.store n x y=>if n == 1&&(xy D R x&&(match y with | .r p=>!dd D p | .k _=>ag))then aa (aa ⟨ab,.store 1 (ug D x) (ug D y),g⟩)else ab
  | some d,.call f as h=>if !(pl D R d&&f % 3 != 2)then ab else if T4 f then match zx as with
    | some (as',p)=>if h&&(dd D p&&as'.all (xy D R))then aa (aa ⟨aa (rn D d),.call (nmF σ f) (as'.map (ug D)) ae,g⟩)else ab| none=>ab
   else if as.all (xy D R)then aa (aa ⟨aa (rn D d),.call (nmF σ f) (as.map (ug D)) h,g⟩)else ab
  | some d,.load (aa n) x=>if n == 1&&(xy D R x&&rr D R d)then aa (aa ⟨aa (rn D d),.load ab (ug D x),g⟩)else ab| some d,.cV (.r s)=>if pl D R s&&pl D R d then aa (aa ⟨aa (rn D d),.cV (.r (rn D s)),g⟩)else if dd D s&&dd D d then aa ab else if rr D R s&&rr D R d then aa (aa ⟨aa (rn D d),.cV (.r (rn D s)),g⟩)else ab| some d,op=>if pl D R d then(trP D R op).map fun b=>aa ⟨aa (rn D d),b,g⟩else ab
  | _,_=>ab
def trL:List aQ→Option (List aQ)
 | []=>aa []
 | ⟨aa r,.bY (.r s) [.r x,.r y] ae,g⟩ ::⟨aa d,.bin .lss (.r r') (.k (.c (.f (.int .i64 0)))),j⟩::os=>match trG D R g,trL os with
  | some g',aa b=>if(dd D r&&dd D s)&&(decide (r'=r∧j=g)&&(rr D R x&&(rr D R y&&pl D R d)))then aa (⟨aa (rn D d),.call σ.VZ [.r (rn D x),.r (rn D y)] ae,g'⟩::b)else ab| _,_=>ab
 | o::os=>match tr1 D R σ o,trL os with
  | some t,aa b=>aa (t.toList++b)| _,_=>ab
def VL:aw→Option aw
 | .skip=>aa .skip| .ret=>aa .ret| .exit i=>aa (.exit i)| .region ops []=>(trL D R σ ops).map fun o=>.region o []
 | .seq a b=>match VL a,VL b with
  | some a,aa b=>aa (.seq a b)| _,_=>ab
 | .cond c a b=>match VL a,VL b with
  | some a,aa b=>if xy D R c then aa (.cond (ug D c) a b)else ab| _,_=>ab
 | .block i a=>(VL a).map (.block i)| .loop a=>(VL a).map .loop| _=>ab
end
def acs:Nat × Nat→List aQ→Nat × Nat
 | s,[]=>s
 | (D,R),o::os=>acs (match o.dst,o.op with
  | some d,.cV (.r p)=>(bif D.testBit p.toNat then D ||| 2 ^ d.toNat else D,bif R.testBit p.toNat then R ||| 2 ^ d.toNat else R)| some d,.load (aa 1) _=>(D,R ||| 2 ^ d.toNat)| some d,.bY ..=>(D ||| 2 ^ d.toNat,R)
  | _,_=>(D,R)) os
def z_:Nat × Nat→aw→Nat × Nat
 | s,.region ops _=>acs s ops| s,.seq a b | s,.cond _ a b=>z_ (z_ s a) b| s,.block _ a | s,.loop a=>z_ s a| s,_=>s
def trF(σ:gH)(d:Bool)(f:aL):Option aL:=
 let n:=f.ps.length-1
 let (D,R):=z_ (bif d then 2 ^ n ||| 2 ^ (2*n+1)else 0,0) f.body
 let ps:=f.ps.take (bif d then n else n+1)
 let g:=aZ (fun r:gI=>match r with
  | .tmp p=>if pl D R p then aa (gI.tmp (rn D p))else ab
  | _=>ab) f.results
 match VL D R σ f.body,g with
 | some b,aa g=>if(ps.all (fun p=>pl D R p&&decide (rn D p=p))&&(!d||D.testBit n))&&decide (f.ps.map P.toNat=List.range f.ps.length∧0<f.ps.length)then aa ⟨ps,g,b⟩else ab
 | _,_=>ab
def xF(σ:gH)(i:Nat):aL:=(((AL σ)[i]?).bind (trF σ (T4 (3*i+1)))).getD ⟨[],[],.bad⟩
end Km
end
section
set_option linter.unusedVariables false
namespace Km
open Go
section
variable{D R:Nat}
theorem ack{a b:Nat}(h:a≤b):nw D a≤nw D b:=by
 induction h with
 | refl=>exact alk _| step _ d=>exact alL d (Nat.le_add_right _ _)
theorem acm{a b:Nat}(h:a<b)(d:D.testBit a=ag):nw D a<nw D b:=
 aml (by simp [nw,d]) (ack (D:=D) (show a+1≤b from h))
theorem CW{p q:P}(b:dd D p=ag)(d:dd D q=ag)(h:p≠q):rn D p≠rn D q:=by
 refine UP ?_;rcases Nat.lt_or_gt_of_ne fun e=>h (P.toNat_inj e)with h | h
 ·exact Nat.ne_of_lt (acm h b)
 ·exact Nat.ne_of_gt (acm h d)
theorem pC{p:P}(h:pl D R p=ae):dd D p=ag:=by simp [pl]at h;exact h.1
theorem tC{p:P}(h:rr D R p=ae):dd D p=ag:=by simp [rr]at h;exact h.1
theorem Vh{p:P}(h:pl D R p=ae):rr D R p=ag:=by simp [pl]at h;simp [rr,h]
def DV(v:V):Prop:=v=.c (.f (.fn 2 []))∨∀ as,bW v as=ab
def RV(v w:V):Prop:=(∃ x,v=.a [x]∧w=.c x)∨(w=v∧v.cells?=ab)
variable(D R)in
structure Rl(rY rX:T):Prop where
 d:∀ p,dd D p=ae→DV (rY.get p)
 p:∀ p,pl D R p=ae→rX.get (rn D p)=rY.get p
 r:∀ p,rr D R p=ae→RV (rY.get p) (rX.get (rn D p))
variable{rY rX:T}{p:P}{v w:V}
theorem nz{f:P→Bool}{p q:P}(b:f p=ag)(d:f q=ae):p≠q:=fun e=>by rw [e,d]at b;cases b
theorem Rl.sp(h:Rl D R rY rX)(g:pl D R p=ae)(v:V):Rl D R (rY.set p v) (rX.set (rn D p) v) where
 d q b:=by rw [T.cD _ _ _ _ (nz (pC g) b)];exact h.d q b
 p q b:=by
  by_cases e:p=q
  ·subst e;rw [T.de,T.de]
  ·rw [T.cD _ _ _ _ e,T.cD _ _ _ _ (CW (pC g) (pC b) e)];exact h.p q b
 r q b:=by
  have e:=nz (Vh g) b;rw [T.cD _ _ _ _ e,T.cD _ _ _ _ (CW (pC g) (tC b) e)];exact h.r q b
theorem Rl.sr(h:Rl D R rY rX)(g:rr D R p=ae)(j:RV v w):Rl D R (rY.set p v) (rX.set (rn D p) w) where
 d q b:=by rw [T.cD _ _ _ _ (nz (tC g) b)];exact h.d q b
 p q b:=by
  have e:=(nz (Vh b) g).symm;rw [T.cD _ _ _ _ e,T.cD _ _ _ _ (CW (tC g) (pC b) e)];exact h.p q b
 r q b:=by
  by_cases e:p=q
  ·subst e;rw [T.de,T.de];exact j
  ·rw [T.cD _ _ _ _ e,T.cD _ _ _ _ (CW (tC g) (tC b) e)];exact h.r q b
theorem Rl.sd(h:Rl D R rY rX)(g:dd D p=ae)(j:DV v):Rl D R (rY.set p v) rX where
 d q b:=by
  by_cases e:p=q
  ·subst e;rw [T.de];exact j
  ·rw [T.cD _ _ _ _ e];exact h.d q b
 p q b:=by rw [T.cD _ _ _ _ (nz (pC b) g).symm];exact h.p q b
 r q b:=by rw [T.cD _ _ _ _ (nz (tC b) g).symm];exact h.r q b
theorem Rl.ev(h:Rl D R rY rX):∀ {x:Arg},xy D R x=ae→(ug D x).ev rX=x.ev rY
 | .r q,b=>h.p q b| .k _,_=>rfl
theorem Rl.evs(h:Rl D R rY rX){xs:List Arg}(b:xs.all (xy D R)=ae):dw rX (xs.map (ug D))=dw rY xs:=by
 unfold dw;rw [List.map_map];exact amJ fun x d=>h.ev (alA.1 b x d)
theorem Rl.wanted(h:Rl D R rY rX){g:Option (P × Bool)}{g':Option (P × Bool)}(hg:trG D R g=aa g'):wanted rX g'=wanted rY g:=by
 cases g with
 | none=>cases hg;rfl
 | some x=>
  obtain⟨p,b⟩:=x;simp only [trG]at hg;split at hg
  ·rename_i d;cases hg;simp only [Km.wanted,h.p p d]
  ·cases hg
theorem ah5:DV (.t []):=.inr fun _=>rfl
theorem ajj:RV (.t []) (.t []):=.inr ⟨rfl,rfl⟩
theorem Vq(h:RV v w):w.cells?=v.cells?:=by
 rcases h with⟨x,rfl,rfl⟩ | ⟨rfl,-⟩<;>rfl
theorem zy:∀ {as as':List Arg} {p:P},zx as=aa (as',p)→as=as'++[.r p]
 | [],_,_,h=>by cases h
 | [.r q],_,_,h=>by cases h;rfl
 | [.k v],_,_,h=>by simp [zx]at h
 | x::y::xs,as',p,h=>by
  rw [zx,IN]at h
  ·obtain⟨⟨a,b⟩,d,g⟩:=h;cases g;rw [zy d];rfl
  ·intro q _ e;cases e
variable{tab:TB}{σ:gH}{call:du}
structure ZR(tab:TB)(σ:gH)(call:du):Prop where
 fn:∀ {f args TQ H r H'},f % 3≠2→call (.fn f) args H=aa (r,H')→(if T4 f then ∃ v,args=TQ++[v]∧DV v else args=TQ)→Ev tab (.fn (nmF σ f)) TQ H r H'
 cmp:∀ {args H r H'},call (.fn 2) args H=aa (r,H')→∃ x y b,args=[.a [x],.a [y]]∧r=vi (if b then -1 else 0)∧Ev tab (.fn σ.VZ) [.c x,.c y] H (vb b) H'
theorem agl{op m:dn}(h:trP D R op=aa m)(g:Rl D R rY rX){q:List fk}{H:an}{v:V}{s:St}(j:eI call ⟨rY,q,H⟩ op=aa (v,s)) :
  ∃ H',s=⟨rY,q,H'⟩∧∀ K:V→St→Prop,K v ⟨rX,q,H'⟩→iz tab ⟨rX,q,H⟩ m K:=by
 unfold trP at h;split at h
 all_goals first | (cases h;done) | skip
 case h_1=>cases h;cases j;exact⟨_,rfl,fun K l=>⟨_,_,rfl,l⟩⟩
 case h_2=>cases h;cases j;exact⟨_,rfl,fun K l=>⟨_,_,rfl,l⟩⟩
 all_goals
  split at h
  ·rename_i d;cases h
   try simp only [If]at d
   simp only [eI,IN]at j;obtain⟨⟨y,x⟩,j,u⟩:=j;cases u;refine⟨_,rfl,fun K l=>⟨_,_,?_,l⟩⟩;rw [←j]
   first
    | (simp only [bE,g.ev d];done)
    | (simp only [bE,g.ev d.1,g.ev d.2];done)
    | (simp only [bE,g.ev d.1];split<;>first | rfl | (rename_i b _;cases b<;>simp only [if_true,if_false,Bool.false_eq_true,g.ev d.2.1,g.ev d.2.2]))
  ·cases h
theorem J9{cs:List C}{v:V}(h:aY (aa 1) cs=aa v):∃ x,v=.a [x]∧aY ab cs=aa (.c x):=by
 cases cs with
 | nil=>simp [aY]at h| cons c cs=>simp [aY]at h;exact⟨c,h.symm,rfl⟩
theorem aaL{H:an}{x v:V}(h:aX H (aa 1) x=aa v):∃ y,v=.a [y]∧aX H ab x=aa (.c y):=by
 cases x with
 | c x=>
  simp only [aX,Option.bind_eq_some_iff]at h;obtain⟨cs,b,d⟩:=h;obtain⟨y,g,j⟩:=J9 d;exact⟨y,g,by simp only [aX,b,alP,j]⟩
 | _=>simp [aX]at h
theorem Tt{s:St}{op:dn}{K m:V→St→Prop}(h:iz tab s op K)(j:∀ v q,K v q→m v q):iz tab s op m:=by
 cases op with
 | call f as b=>
  cases b
  ·obtain⟨u,r,l,d,g⟩:=h;exact⟨u,r,l,d,j _ _ g⟩
  ·obtain⟨r,H,d,g⟩:=h;exact⟨r,H,d,j _ _ g⟩
 | bY x as b=>obtain⟨c,a,r,H,l,d,g⟩:=h;exact⟨c,a,r,H,l,d,j _ _ g⟩
 | recover=>exact j _ _ h| «defer» x as=>obtain⟨f,a,l,d⟩:=h;exact⟨f,a,l,j _ _ d⟩
 | _=>obtain⟨v,H,d,g⟩:=h;exact⟨v,H,d,j _ _ g⟩
theorem oc{o o':aQ}{g:List aQ}{s:St}{b:List fk}{H:an}{K:St→Prop}(d:fj call ⟨rY,b,H⟩ o=aa s)(A:wanted rX o'.g=wanted rY o.g)
  (x:∀ v H',eI call ⟨rY,b,H⟩ o.op=aa (v,H')→iz tab ⟨rX,b,H⟩ o'.op fun w m=>(∃ l,H'=⟨rY,b,l⟩∧m=⟨rX,b,l⟩)∧Rl D R (ij rY o.dst v) (ij rX o'.dst w))
  (y:Rl D R (ij rY o.dst (.t [])) (ij rX o'.dst (.t [])))
  (q:∀ j,Rl D R s.aE j→s.defs=b→pN tab g ⟨j,b,s.heap⟩ K):pN tab (o'::g) ⟨rX,b,H⟩ K:=by
 unfold fj at d;simp only [pN,A];split at d
 ·rename_i e;rw [e];split at d
  ·rename_i v m u;cases d;refine Tt (x v m u) ?_;rintro w B ⟨⟨l,rfl,rfl⟩,z⟩;exact q _ z rfl
  ·cases d
 ·rename_i e;rw [e];cases d;exact q _ y rfl
 ·cases d
theorem agk(S:ZR tab σ call){o:aQ}{t:Option aQ}{M:List aQ}(j:tr1 D R σ o=aa t){s:St}{L:List fk}{H:an}{K:St→Prop}(l:Rl D R rY rX)(m:fj call ⟨rY,L,H⟩ o=aa s)
  (A:∀ N,Rl D R s.aE N→s.defs=L→pN tab M ⟨N,L,s.heap⟩ K):pN tab (t.toList++M) ⟨rX,L,H⟩ K:=by
 obtain⟨a7,op,g⟩:=o;unfold tr1 at j;split at j
 ·cases j
 rename_i g' hg;have F:=l.wanted hg;dsimp only at j;split at j
 ·
  rename_i n x y;cases y with
  | k c=>simp at j
  | r p=>
  dsimp only at j;split at j
  case isFalse=>cases j
  rename_i b;cases j;simp only [If,beq_iff_eq,Bool.not_eq_true']at b;obtain⟨rfl,hx,hy⟩:=b;refine oc m F (fun v H' e=>?_) l A;simp only [eI,IN]at e;obtain⟨⟨I,J⟩,e,z⟩:=e;cases z;refine⟨I,J,?_,⟨_,rfl,rfl⟩,l⟩;have U:((ug D (.r p)).ev rX).cells?=((Arg.r p).ev rY).cells?:=by
   by_cases O:R.testBit p.toNat=ae
   ·exact Vq (l.r p (by simp [rr,hy,O]))
   ·exact congrArg _ (l.p p (by simp only [pl,hy];simpa using O))
  simp only [bE,l.ev hx,U]at e ⊢;exact e
 ·
  rename_i d f as h;split at j
  case isTrue=>cases j
  rename_i u;obtain⟨u,W⟩:pl D R d=ae∧f % 3≠2:=by simpa using u
  split at j
  ·rename_i E;split at j
   case h_2=>cases j
   rename_i as' p hl;split at j
   case isFalse=>cases j
   rename_i b;cases j;simp only [If]at b;obtain⟨rfl,O,B⟩:=b;refine oc m F (fun v H' e=>?_) (l.sp u _) A;simp only [eI,gu,if_true,IN]at e;obtain⟨⟨I,J⟩,e,z⟩:=e;cases z;refine⟨I,J,S.fn W e ?_,⟨_,rfl,rfl⟩,l.sp u _⟩;rw [ba E];refine⟨rY.get p,?_,l.d p O⟩;rw [zy hl,l.evs B];simp [dw,Arg.ev]
  ·rename_i E;split at j
   case isFalse=>cases j
   rename_i B;cases j;refine oc m F (fun v H' e=>?_) (l.sp u _) A;simp only [eI,gu,IN]at e;obtain⟨⟨I,J⟩,e,z⟩:=e;cases z;simp only [iz];split at e
   ·rename_i Y;rw [ba Y];exact⟨I,J,S.fn W e (by rw [aS E,l.evs B]),⟨_,rfl,rfl⟩,l.sp u _⟩
   ·rename_i Y;rw [aS Y];unfold eU at e;split at e
    ·cases e
    rename_i fs X;split at e
    ·cases e
    rename_i r0 H0 he;split at e
    ·cases e
    rename_i r1 Z;cases e;rw [l.evs B];exact⟨fs,I,X,⟨r0,H0,S.fn W he (by rw [aS E]),Z⟩,⟨_,rfl,rfl⟩,l.sp u _⟩
 ·
  rename_i d n x;split at j
  case isFalse=>cases j
  rename_i b;cases j;simp only [If,beq_iff_eq]at b;obtain⟨rfl,hx,u⟩:=b;refine oc m F (fun v H' e=>?_) (l.sr u ajj) A;simp only [eI,bE,Option.map_map,IN,Function.comp]at e;obtain⟨I,e,z⟩:=e;cases z;obtain⟨y,rfl,e2⟩:=aaL e;exact⟨.c y,H,by simp only [bE,l.ev hx,e2,alZ],⟨_,rfl,rfl⟩,l.sr u (.inl ⟨y,rfl,rfl⟩)⟩
 ·
  rename_i d q;have Q:∀ v H',eI call ⟨rY,L,H⟩ (.cV (.r q))=aa (v,H')→v=rY.get q∧H'=⟨rY,L,H⟩:=fun v H' e=>by
   simp only [eI,bE,Arg.ev,alZ,AI,OF]at e;exact⟨e.1.symm,e.2.symm⟩
  split at j
  ·rename_i b;cases j;simp only [If]at b;refine oc m F (fun v H' e=>?_) (l.sp b.2 _) A;obtain⟨rfl,rfl⟩:=Q v H' e;exact⟨_,H,rfl,⟨_,rfl,rfl⟩,by show Rl D R _ (rX.set _ (rX.get _));rw [l.p q b.1];exact l.sp b.2 _⟩
  split at j
  ·rename_i b;cases j;simp only [If]at b;unfold fj at m;split at m
   ·split at m
    ·rename_i v s' e1;cases m;obtain⟨rfl,rfl⟩:=Q v s' e1;exact A _ (l.sd b.2 (l.d q b.1)) rfl
    ·cases m
   ·cases m;exact A _ (l.sd b.2 ah5) rfl
   ·cases m
  split at j
  ·rename_i b;cases j;simp only [If]at b;refine oc m F (fun v H' e=>?_) (l.sr b.2 ajj) A;obtain⟨rfl,rfl⟩:=Q v H' e;exact⟨_,H,rfl,⟨_,rfl,rfl⟩,l.sr b.2 (l.r q b.1)⟩
  ·cases j
 ·
  rename_i d op _ _ _;split at j
  case isFalse=>cases j
  rename_i u;rw [IN]at j;obtain⟨a8,h1,rfl⟩:=j;refine oc m F (fun v H' e=>?_) (l.sp u _) A;obtain⟨J,rfl,z⟩:=agl (tab:=tab) h1 l e;exact z _ ⟨⟨_,rfl,rfl⟩,l.sp u _⟩
 ·cases j
theorem aji{x:C}(h:RV v w)(e:v=.a [x]):w=.c x:=by
 subst e;rcases h with⟨y,b,d⟩ | ⟨-,h⟩
 ·cases b;exact d
 ·cases h
theorem akC(hc:ZR tab σ call){os:List aQ}:∀ {B:List aQ},trL D R σ os=aa B→∀ {rY rX:T} {F:List fk} {H:an} {s:St} {K:St→Prop},Rl D R rY rX→fB call os ⟨rY,F,H⟩=aa s →
  (∀ M,Rl D R s.aE M→s.defs=F→K ⟨M,F,s.heap⟩)→pN tab B ⟨rX,F,H⟩ K:=by
 fun_induction trL D R σ os with
 | case1=>rintro _ ⟨⟩ rY rX F H s K E ⟨⟩ N;exact N _ E rfl
 | case2 r q x y g d r' g2 os ga gb Q I u U=>
  rintro _ ⟨⟩ rY rX F H s K E l N;simp only [If,decide_eq_true_eq]at u;obtain⟨⟨O,X⟩,⟨rfl,rfl⟩,a7,a8,S⟩:=u;have hw:=E.wanted I;simp only [fB,fj]at l;simp only [pN,hw];split at l
  case h_2=>cases l
  rename_i s1 j;split at j
  ·rename_i e;rw [e];split at j
   case h_2=>cases j
   rename_i v s' J;cases j;simp only [eI]at J;split at J
   case h_2=>cases J
   rename_i c args m;have hq:rY.get q=.c (.f (.fn 2 [])):=by
    rcases E.d q X with h | h
    ·exact h
    ·rw [Arg.ev,h]at m;cases m
   simp only [Arg.ev,hq,bW,dw,alo,alH,List.append_nil,AI,OF]at m;obtain⟨rfl,rfl⟩:=m;rw [IN]at J;obtain⟨⟨v1,H1⟩,J,W⟩:=J;cases W;obtain⟨x',y',b,L,rfl,Y⟩:=hc.cmp J;simp only [List.cons.injEq,and_true]at L;have z:Rl D R (rY.set r' (vi (if b then -1 else 0))) rX:=E.sd O (.inr fun _=>rfl);have A:=z.wanted I;rw [hw]at A;simp only [ij]at l;rw [←A,e]at l;have hb:bP .lss (vi (if b then -1 else 0)) (.c (.f (.int .i64 0)))=aa (vb b):=by cases b<;>rfl
   simp only [eI,bE,Arg.ev,T.de,hb,alZ]at l;refine⟨_,_,?_,U Q (z.sp S (vb b)) l N⟩;simp only [dw,alo,alH,Arg.ev,aji (E.r x a7) L.1,aji (E.r y a8) L.2];exact Y
  ·rename_i e;rw [e];cases j;have z:Rl D R (rY.set r' (.t [])) rX:=E.sd O ah5;have A:=z.wanted I;rw [hw]at A;simp only [ij]at l;rw [←A,e]at l;exact U Q (z.sp S _) l N
  ·cases j
 | case3=>intro B h;cases h
 | case4=>intro B h;cases h
 | case5 o os _ t a_ W h1 U=>
  rintro _ ⟨⟩ rY rX F H s K E l N;simp only [fB]at l;split at l
  ·rename_i s1 j;refine agk hc h1 E j fun M Z hd=>?_;obtain⟨r1,d1,H1⟩:=s1;cases hd;exact U W Z l N
  ·cases l
 | case6=>intro B h;cases h
def trI(D R:Nat)(σ:gH):cP→Option cP
 | .code c=>(VL D R σ c).map .code| .inBlock i=>aa (.inBlock i)| .inLoop c=>(VL D R σ c).map .inLoop| _=>ab
theorem nV{b d:Type}{g:b→Option d}{x:b}{xs:List b}{ys:List d}(h:aZ g (x::xs)=aa ys):∃ y zs,g x=aa y∧aZ g xs=aa zs∧ys=y::zs:=by
 simp only [aZ]at h;split at h
 ·cases h
 ·split at h
  ·cases h
  ·cases h;exact⟨_,_,by assumption,by assumption,rfl⟩
theorem jM{b d:Type}{g:b→Option d}{x:b}{xs:List b}{y:d}{ys:List d}(j:g x=aa y)(l:aZ g xs=aa ys):aZ g (x::xs)=aa (y::ys):=by simp only [aZ,j,l]
theorem nk{i:Nat}:∀ {b todo' k:List cP},aZ (trI D R σ) b=aa todo'→exitTo i b=aa k→∃ k',exitTo i todo'=aa k'∧aZ (trI D R σ) k=aa k'
 | [],_,_,_,h=>by cases h
 | x::xs,_,k,h,d=>by
  obtain⟨y,zs,g,l,rfl⟩:=nV h;cases x with
  | inBlock j=>
   cases g;simp only [exitTo]at d ⊢;split at d
   ·rename_i e;cases d;exact⟨zs,by rw [ba e],l⟩
   ·rename_i e;rw [aS e];exact nk l d
  | code c=>
   obtain⟨s,-,rfl⟩:=IN.1 g;obtain⟨k',m,q⟩:=nk l (show exitTo i xs=aa k from d);exact⟨k',m,q⟩
  | inLoop c=>
   obtain⟨s,-,rfl⟩:=IN.1 g;obtain⟨k',m,q⟩:=nk l (show exitTo i xs=aa k from d);exact⟨k',m,q⟩
  | _=>cases g
theorem uh(l:ZR tab σ call){fn fn':Nat}:∀(n:Nat) {u todo':List cP},aZ (trI D R σ) u=aa todo'→∀ {rY rX:T} {z:List fk} {H:an} {j:Option aw} {s:St},Rl D R rY rX→run call fn n ab u ⟨rY,z,H⟩=aa (j,s) →
  WP tab fn' ab todo' ⟨rX,z,H⟩ fun _ M=>Rl D R s.aE M.aE∧s.defs=z∧M.defs=z∧M.heap=s.heap
 | 0,_,_,_,_,_,_,_,_,_,_,h=>by cases h
 | n+1,[],_,B,rY,rX,z,H,j,s,g,h=>by
  cases B;cases h;exact cU ⟨g,rfl,rfl,rfl⟩
 | n+1,x::xs,_,B,rY,rX,z,H,j,s,g,h=>by
  obtain⟨y,zs,A,m,rfl⟩:=nV B;cases x with
  | inBlock i=>cases A;exact ax (uh l n m g h)
  | inLoop c=>
   obtain⟨N,d,rfl⟩:=IN.1 A;have O:trI D R σ (.code c)=aa (.code N):=by rw [trI,d];rfl
   exact vA (uh l n (jM O B) g h)
  | jH b=>cases A
  | nJ=>cases A
  | inScope a=>cases A
  | code c=>
   obtain⟨N,d,rfl⟩:=IN.1 A;have code:∀ {a a':aw},VL D R σ a=aa a'→trI D R σ (.code a)=aa (.code a'):=fun h=>by rw [trI,h];rfl
   unfold VL at d;split at d
   ·cases d;exact aP (uh l n m g h)
   ·cases d;cases h;exact aD ⟨g,rfl,rfl,rfl⟩
   ·cases d;simp only [run]at h;split at h
    ·rename_i k U;obtain⟨k',q,Q⟩:=nk m U;exact bg q (uh l n Q g h)
    ·cases h
   ·obtain⟨W,q,rfl⟩:=IN.1 d;simp only [run,gE]at h;split at h
    ·cases h
    split at h
    ·rename_i Y L;refine aq (.inl rfl) (akC l q g L fun X K S=>?_);obtain⟨r1,d1,Z⟩:=Y;cases S;exact uh l n m K h
    ·cases h
   ·split at d
    ·rename_i E F;cases d;exact au (uh l n (jM (code E) (jM (code F) m)) g h)
    ·cases d
   ·split at d
    ·rename_i E F;split at d
     ·rename_i J;cases d;simp only [run]at h;split at h
      ·rename_i b I;refine wU (v:=b) (by rw [g.ev J,I]) (uh l n (jM ?_ m) g h);cases b
       ·exact code F
       ·exact code E
      ·cases h
     ·cases d
    ·cases d
   ·obtain⟨a',q,rfl⟩:=IN.1 d;exact az (uh l n (jM (code q) (jM (y:=.inBlock _) rfl m)) g h)
   ·obtain⟨a',q,rfl⟩:=IN.1 d;exact iw (uh l n (jM (code q) (jM (y:=.inLoop a') (by rw [trI,q];rfl) m)) g h) fun _ _ _=>rfl
   ·cases d
variable(tab σ)in
noncomputable def ru (f:Nat) (args:List V) (H:an):Option (Option (V × an)):=
 open Classical in
 if f % 3=0 then(if h:∃ x:V × an,Ev tab (.fn (f / 3)) args H x.1 x.2 then aa (aa h.choose)else ab)
 else if f=2 then(match args with
  | [.a [x],.a [y]]=>if h:∃ p:Bool × an,Ev tab (.fn σ.VZ) [.c x,.c y] H (vb p.1) p.2 then aa (aa (vi (if h.choose.1 then -1 else 0),h.choose.2))else ab
  | _=>ab)
 else ab
variable(tab σ)in
noncomputable def mT:TB where
 get:=fun f=>if f % 3=1 then(AL σ)[f / 3]? else ab
 xQ:=ru tab σ
 ok:=fun f a h args H=>by
  split at h
  ·rename_i e;unfold ru;rw [aS (by omega),aS (by omega)]
  ·cases h
variable(tab σ)in
def As:Prop:=∀ i a,(AL σ)[i]?=aa a→∃ b,trF σ (T4 (3*i+1)) a=aa b∧tab ((nmI σ).getD i 0)=aa b
theorem jc{ps:List P}{args:List V}(d:ps.map P.toNat=List.range ps.length)(b:args.length=ps.length)(q:P):(cr ps args .e).get q=(args[q.toNat]?).getD .top:=by
 rw [oh ps args .e 0 (by rw [d,List.range_eq_range']) b q,ba (amu _),Nat.sub_zero,show T.e.get q=.top by cases q<;>rfl]
theorem tB{rY rX:T}{H:an}(d:Rl D R rY rX):∀ {l g:List gI},aZ (fun r:gI=>match r with
  | .tmp p=>if pl D R p then aa (gI.tmp (rn D p))else ab
  | _=>ab) l=aa g→aZ (cm rX H) g=aZ (cm rY H) l
 | [],_,h=>by cases h;rfl
 | x::xs,_,h=>by
  obtain⟨y,zs,b,j,rfl⟩:=nV h;cases x with
  | cell _ _=>cases b
  | tmp p=>
   dsimp only at b;split at b
   ·rename_i m;cases b;simp only [aZ,tB d j,cm,d.p p m]
   ·cases b
theorem ajn(hX:As tab σ)(m:Nat):∀ d,ZR tab σ (eK (mT tab σ).get (mT tab σ).xQ m d)
 | 0=>{ fn:=fun _ h=>(by cases h),cmp:=fun h=>(by cases h) }
 | d+1=>by
  refine⟨fun {f args l H r H'} hf h J=>?_,fun {args H r H'} h=>?_⟩
  ·by_cases X:f % 3=0
   ·have g:¬ T4 f=ae:=by simp [T4,X]
    rw [aS g]at J;subst J;have z:(mT tab σ).xQ f args H=ru tab σ f args H:=rfl;have hg:(mT tab σ).get f=ab:=aS (by omega);simp only [eK,z,hg,ru,ba X]at h;rw [nmF,ba X];split at h
    ·rename_i r' u;split at u
     ·rename_i I;cases u;have:=I.choose_spec;rw [show I.choose=(r,H') by simpa using h]at this;exact this
     ·cases u
    ·cases h
   ·have u:f % 3=1:=by omega
    have z:(mT tab σ).xQ f args H=ab:=by
     show ru tab σ f args H=ab;unfold ru;rw [aS X,aS (by omega)]
    have hg:(mT tab σ).get f=(AL σ)[f / 3]?:=ba u;simp only [eK,z]at h;rw [hg]at h;split at h
    ·cases h
    rename_i B c9;split at h
    case isFalse=>cases h
    rename_i U;obtain⟨b,E,Z⟩:=hX _ _ c9;rw [show 3*(f / 3)+1=f by omega]at E;split at h
    case h_2=>cases h
    rename_i j s b_;rw [nmF,aS X];unfold trF at E;dsimp only at E;obtain⟨n,hn⟩:=aN (B.ps.length-1);rw [←hn]at E;generalize z_ ((bif T4 f then 2 ^ n ||| 2 ^ (2*n+1)else 0),0) B.body=DR at E;obtain⟨D,R⟩:=DR;dsimp only at E;split at E
    case h_2=>cases E
    rename_i body rs Q c_;split at E
    case isFalse=>cases E
    rename_i a7;cases E;simp only [If,decide_eq_true_eq]at a7;obtain⟨⟨a_,F⟩,N,d_⟩:=a7;obtain⟨q,K⟩:=aN ((bif T4 f then n else n+1));rw [←K]at a_ Z;have e_:q≤n+1∧n≤q:=by rw [K];cases T4 f<;>simp
    have a8:B.ps.length=n+1:=by omega
    have M:(B.ps.take q).length=q:=by rw [List.length_take];omega
    have S:(B.ps.take q).map P.toNat=List.range (B.ps.take q).length:=by rw [List.map_take,N,M,a8,List.take_range];congr 1;omega
    have A:∀ p:P,p.toNat<q→pl D R p=ae∧rn D p=p:=fun p z=>by
     have e:((B.ps.take q).map P.toNat)[p.toNat]?=aa p.toNat:=by rw [S,List.getElem?_range (by omega)]
     rw [amk,IN]at e;obtain⟨p',u,Y⟩:=e;have:=alA.1 a_ p' (als u);rw [P.toNat_inj Y]at this;simpa using this
    have d9:∀ k,q≤k→q≤nw D k:=fun k hk=>by
     refine alL ?_ (ack hk);cases q with
     | zero=>exact amu _
     | succ q=>
      obtain⟨u,Y⟩:=A (.nat q) (by rw [fZ];omega);have h3:=congrArg P.toNat Y;have h4:=pC u;rw [rn,fZ,fZ]at h3;rw [dd,fZ]at h4;simp only [nw,h3,h4,cond_false];exact alk _
    have O:∀ k,k<q→args[k]?=l[k]?:=fun k hk=>by
     split at J
     ·rename_i g;obtain⟨v,rfl,-⟩:=J;rw [g]at K;rw [AT (by simp at U K;omega)]
     ·rw [J]
    have L:l.length=q:=by
     rw [K];split at J
     ·rename_i g;obtain⟨v,rfl,-⟩:=J;rw [g];simp at U;simp;omega
     ·rename_i g;rw [←J,U,a8];simp at g;rw [g];rfl
    have gX:∀ p:P,q≤p.toNat→(cr (B.ps.take q) l .e).get (rn D p)=.top:=fun p z=>by
     rw [jc S (by rw [L,M]),rn,fZ,amV (by rw [L];exact d9 _ z)];rfl
    have gY:∀ p:P,n<p.toNat→(cr B.ps args .e).get p=.top:=fun p z=>by
     rw [jc N U,amV (by omega)];rfl
    have hr:Rl D R (cr B.ps args .e) (cr (B.ps.take q) l .e):=by
     have W:∀ p:P,dd D p=ag→q≤p.toNat→n<p.toNat:=fun p hd z=>by
      rcases alO n p.toNat with h | h
      ·exact h
      ·have e:p.toNat=n:=by omega
       have e2:q=n:=by omega
       rw [e2]at K;cases g:T4 f with
       | false=>rw [g]at K;simp at K
       | true=>
        rw [g]at F;rw [dd,e]at hd;rw [hd]at F;cases F
     refine⟨fun p hd=>?_,fun p z=>?_,fun p z=>?_⟩
     ·rw [jc N U];rcases alO p.toNat q with h | h
      ·have:=pC (A p h).1;rw [hd]at this;cases this
      rcases alO n p.toNat with Y | Y
      ·rw [amV (by omega)];exact .inr fun _=>rfl
      ·split at J
       ·obtain⟨v,rfl,hv⟩:=J;have e:p.toNat=l.length:=by omega
        rw [e,List.getElem?_append_right (alk _),Nat.sub_self];exact hv
       ·rename_i g;simp at g;rw [g]at K;simp at K;omega
     ·rcases alO p.toNat q with h | h
      ·rw [(A p h).2,jc N U,jc S (by rw [L,M]),O _ h]
      ·rw [gX p h,gY p (W p (pC z) h)]
     ·rcases alO p.toNat q with h | h
      ·have:=Vh (A p h).1;rw [z]at this;cases this
      ·rw [gX p h,gY p (W p (tC z) h)];exact .inr ⟨rfl,rfl⟩
    obtain⟨k,m',d',j',s',e1,e2,e3,e4,e5⟩:=uh (tab:=tab) (fn':=(nmI σ).getD (f / 3) 0) (ajn hX m d) m (todo':=[.code body]) (by simp [aZ,trI,Q]) hr b_;rw [e3]at h;simp only [ec]at h;rw [IN]at h;obtain⟨r1,h5,h6⟩:=h;cases h6;refine qN Z (by rw [L,M]) ⟨k,m',d',j',s',e1,0,0,s.heap,by rw [e4,e5];rfl,?_,rfl⟩;rw [results]at h5 ⊢;rw [tB e2 c_];exact h5
  ·have z:(mT tab σ).xQ 2 args H=ru tab σ 2 args H:=rfl;have hg:(mT tab σ).get 2=ab:=rfl;simp only [eK,z,hg,ru,aS (show¬ 2 % 3=0 by omega),if_true]at h;split at h
   ·rename_i r' u;split at u
    ·rename_i x y;split at u
     ·rename_i I;cases u;cases h;exact⟨x,y,I.choose.1,rfl,rfl,I.choose_spec⟩
     ·cases u
    ·cases u
   ·cases h
end
end Km
end
namespace Km.Ord
open Go
def C4(σ:gH):aL:=⟨[P.nat 0],[],.seq (.region [ym 3 0,yn 4 (.len (R 3)),ym 2 4] [])
 (.region [⟨D 5,.cV (R 0),ab⟩,⟨D 6,.cV (R 2),ab⟩,⟨D 7,.cV (R 2),ab⟩,⟨D 8,.ko .u64 (R 7),ab⟩,⟨D 9,.call σ.len [(R 8)] ag,ab⟩,⟨D 10,.call σ.tt [(R 5),(.k (.c (.f (.int .i64 0)))),(R 6),(R 9)] ae,ab⟩] [])⟩
def isI(r:List FC):Prop:=∃ n:Int,r=[fi n]
def wC:List FC→Int
 | [.int _ n]=>n| _=>0
def cI(x y:List FC):Int:=if wC x<wC y then -1 else 0
theorem TX{x y:List FC}:cI x y<0↔wC x<wC y:=by unfold cI;split<;>omega
theorem ahZ:tQ isI cI where
 yN:=fun _ _ h b=>by rw [TX]at *;omega
 trans:=fun _ _ _ h b=>by rw [TX]at *;omega
theorem zw(l:List Int):∀ r ∈ ints l,isI r:=fun r b=>by
 obtain⟨n,-,rfl⟩:=List.mem_map.1 b;exact⟨n,rfl⟩
theorem aaE{rows:List (List FC)}(h:∀ r ∈ rows,isI r):rows=ints (rows.map wC):=by
 unfold ints;rw [List.map_map]
 conv=>lhs;rw [←List.map_id rows]
 exact amJ fun r b=>by obtain⟨n,rfl⟩:=h r b;rfl
theorem I5(l:List Int):(ints l).map wC=l:=by
 unfold ints;rw [List.map_map]
 conv=>rhs;rw [←List.map_id l]
 exact amJ fun r _=>rfl
theorem bV(l:List Int):bO 1 (ints l):=bO.map fun _=>rfl
section
variable{tab:TB}{σ:gH}{N:Nat}
theorem As.of(h1:((List.range 15).all fun i=>(((AL σ)[i]?).bind (trF σ (T4 (3*i+1)))).isSome)=ae)(h2:(List.range 15).map (fun i=>tab ((nmI σ).getD i 0))=(List.range 15).map fun i=>aa (xF σ i)):As tab σ:=fun i a d=>by
 have hi:i<15:=(List.getElem?_eq_some_iff.1 d).1;have:=alA.1 h1 i (List.mem_range.2 hi);rw [d,alP,Option.isSome_iff_exists]at this;obtain⟨b,hb⟩:=this;refine⟨b,hb,?_⟩;have e:=congrArg (fun l=>l[i]?) h2;simp only [amk,List.getElem?_range hi,alZ,AI]at e;rw [e,xF,d,alP,hb];rfl
theorem dU{a:aL}(i:Nat)(h:(AL σ)[i]?=aa a):(mT tab σ).get (3*i+1)=aa a:=by
 show(if(3*i+1) % 3=1 then(AL σ)[(3*i+1) / 3]? else ab)=_;rw [ba (by omega),show(3*i+1) / 3=i by omega];exact h
theorem BA:adH (mT tab σ) (ab1 σ) 1:=⟨dU 0 rfl,dU 1 rfl,dU 2 rfl,dU 3 rfl,dU 4 rfl,dU 5 rfl,dU 6 rfl,dU 7 rfl,dU 8 rfl,dU 9 rfl,dU 10 rfl,dU 11 rfl,dU 12 rfl,dU 13 rfl,dU 14 rfl⟩
theorem JL{f:Nat}{args:List V}{H H':an}{r:V}(h:Ev tab (.fn f) args H r H'):Ev (mT tab σ) (.fn (3*f)) args H r H':=by
 have h:Ev tab (.fn (3*f / 3)) args H r H':=by rw [Nat.mul_div_cancel_left _ (by omega)];exact h
 have b:∃ x:V × an,Ev tab (.fn (3*f / 3)) args H x.1 x.2:=⟨(r,H'),h⟩
 have j:(mT tab σ).xQ (3*f) args H=aa (aa b.choose):=by
  show ru tab σ _ args H=_;unfold ru;rw [ba (by omega),dif_pos b]
 obtain⟨d,g⟩:=h.Z_ b.choose_spec;refine⟨0,1,?_⟩;simp only [CF,eK,j,d,g]
theorem Vi{x y:C}{b:Bool}{H H':an}(h:Ev tab (.fn σ.VZ) [.c x,.c y] H (vb b) H'):Ev (mT tab σ) (.fn 2) [.a [x],.a [y]] H (vi (if b then -1 else 0)) H':=by
 have d:∃ p:Bool × an,Ev tab (.fn σ.VZ) [.c x,.c y] H (vb p.1) p.2:=⟨(b,H'),h⟩
 have l:(mT tab σ).xQ 2 [.a [x],.a [y]] H=aa (aa (vi (if d.choose.1 then -1 else 0),d.choose.2)):=by
  show ru tab σ 2 [.a [x],.a [y]] H=_;unfold ru;rw [aS (by omega),ba rfl];dsimp only;rw [dif_pos d]
 obtain⟨g,j⟩:=h.Z_ d.choose_spec;simp only [V.c.injEq,C.f.injEq,FC.bool.injEq]at g;refine⟨0,1,?_⟩;simp only [CF,eK,l,←g,←j]
theorem abg{H:an}{l:List Int}(W:As tab σ)(q:∀(a b:Int) (H:an),∃ J,Ev tab (.fn σ.VZ) [vi a,vi b] H (vb (decide (a<b))) (H++J))(hN:N≤1000000000)(s:Ts tab σ N)
  {v:C} {k:Int} (Y:LR H v 1 (ints l)) (hn:l.length≤N) :
  ∃ r H',Ev tab (.fn σ.tt) [.c v,vi 0,vi l.length,vi k] H r H'∧(r=.t []∧Kb H H' v∧∃ l',LR H' v 1 l'∧l'.Perm (ints l)∧Up cI 0 l'.length l'):=by
 have E:Cv (mT tab σ) (.c (.f (.fn 2 []))) isI cI:=by
  rintro x y ⟨a,rfl⟩ ⟨b,rfl⟩ H;obtain⟨J,U⟩:=q a b H;refine⟨2,_,J,rfl,?_⟩;have e:cI [fi a] [fi b]=if decide (a<b)then -1 else 0:=by by_cases h:a<b<;>simp [cI,wC,h]
  rw [e];exact Vi U
 have B:Ts (mT tab σ) (ab1 σ) N:=fun L I=>by
  obtain⟨k,M,A⟩:=s L I;have O:bX tab σ.len [vu L] (vi k):=by rw [M]
  obtain⟨Z,H',Q,S⟩:=O;exact⟨k,bX.eq ⟨Z,H',JL Q,S⟩,A⟩
 have g:(ints l).length=l.length:=by simp [ints]
 have j:∀ {v:C} {r H'},Ev (mT tab σ) (.fn (ab1 σ).tt) [.c v,vi 0,vi l.length,vi k,.c (.f (.fn 2 []))] H r H'→Ev tab (.fn σ.tt) [.c v,vi 0,vi l.length,vi k] H r H':=fun⟨m,d,h⟩=>
  (ajn W m d).fn (f:=1) (by decide) h ⟨_,rfl,.inl rfl⟩
 rcases Y with⟨K,h⟩ | ⟨F,b,ep,rfl,A⟩
 ·have:l=[]:=by cases l with
   | nil=>rfl| cons a l=>simp [ints]at K
  subst this;exact⟨_,_,j (CD BA.tt BA.ins),rfl,⟨alk _,fun i y u _=>u⟩,[],.inl ⟨rfl,h⟩,.refl _,Up.one (by simp)⟩
 ·rw [g];obtain⟨r,H',X,rfl,f,l',r',z,u'⟩:=Vc BA E ahZ (n:=l.length) (by omega) (fun L I=>B L (by omega)) _ 0 l.length H (ints l) k rfl (by omega) (alk _) g A (bV l) (zw l) (fun k h=>absurd h (by omega));refine⟨_,_,j X,rfl,⟨f.1,fun i y u hi=>?_⟩,l',.inr ⟨?_,b,ep,by rw [z.len,g],r'⟩,z.1,by rw [z.len,g];exact u'⟩
  ·rw [f.2 i (fun e=>hi (by rw [e];rfl)) (aj u)];exact u
  ·rintro rfl;have:=z.len;exact F (List.length_eq_zero_iff.1 this.symm)
theorem VD{F:Nat}(M:tab F=aa (C4 σ))(U:As tab σ)(g:∀(a b:Int) (H:an),∃ J,Ev tab (.fn σ.VZ) [vi a,vi b] H (vb (decide (a<b))) (H++J))(O:N≤1000000000)(d:Ts tab σ N)
  {H:an} {v:C} {l:List Int} (q:LR H v 1 (ints l)) (I:l.length≤N) :
  ∃ r H',Ev tab (.fn F) [.c v] H r H'∧(r=.t []∧Kb H H' v∧∃ l',LR H' v 1 (ints l')∧l'.Perm l∧l'.Pairwise (·≤·)):=by
 have y:(ints l).length=l.length:=by simp [ints]
 obtain⟨k,W,-,-⟩:=d l.length I;have A:IntKind.wrap .u64 (l.length:Int)=l.length:=by rw [tN];omega
 obtain⟨r,H',s,rfl,z,l',K,B,L⟩:=abg U g O d (k:=k) q I;have s:=s.eq;have u:∀ r ∈ l',isI r:=fun r q=>zw l r (B.mem_iff.1 q);have m:=q.len;rw [y]at m;refine cH M rfl fun Q S=>?_;apply ai;simp [m];refine aq (.inl rfl) ?_;simp [A,W,s];refine cU (S _ _ (.t []) rfl rfl ⟨rfl,z,l'.map wC,?_,?_,?_⟩)
 ·rw [←aaE u];exact K
 ·have:=B.map wC;rwa [I5]at this
 ·rw [List.pairwise_iff_getElem];intro i j hi E x;simp only [List.length_map]at hi E;have:=L i j l'[i] l'[j] (by omega) x (by omega) (By hi) (By E);rw [amN,amN];rw [TX]at this;omega
end
end Km.Ord
