/-
  Our own small machine for Go code by value, held qH sV model: part 4. No program in BQ.
-/
import Derived.Test.YtgfdmhmmjbihiaaGreatK3
open Option renaming some->aa,none->ab
open Bool renaming true->ae,false->ag
open List renaming mem_of_getElem?->arh, getElem?_eq_getElem->aq2, getElem_mem->aq7, length_set->arQ, getElem?_append_left->aq1, getElem?_set_self->aq6, all_eq_true->ars, map_cons->arf, map_nil->art, getElem?_eq_none->asJ
open Int renaming toNat_natCast->ar7, emod_eq_of_lt->arP
open Nat renaming le_refl->aq9, le_trans->arB, lt_of_lt_of_le->asg, lt_or_ge->arI, eq_zero_or_pos->asF, pow_le_pow_right->atO, lt_trichotomy->asz, zero_le->ast
open Option.some renaming inj->asN, injEq->anc
open Option renaming map_eq_some_iff->aq5, map_some->arN
open Bool renaming and_eq_true->aq3
open Prod.mk renaming injEq->aq8
set_option linter.unusedVariables false
set_option linter.constructorNameAsVariable false
set_option linter.unusedSimpArgs false
set_option linter.unusedSectionVars false
set_option maxRecDepth 100000
namespace Km
open Go
section
set_option linter.unusedVariables false
abbrev yn(d:Nat)(op:dn):aN:=⟨D d,op,ab⟩
abbrev gO(d k g:Nat):aN:=⟨D d,.cP (R k),G g ae⟩
abbrev uZ(d z k g:Nat):aN:=⟨D d,.load (aa z) (R k),G g ae⟩
abbrev ym(d k:Nat):aN:=⟨D d,.cP (R k),ab⟩
abbrev yi(n:Int):Arg:=.k (.c (.f (.int .i64 n)))
abbrev yt:Arg:=.k (.c (.f (.bool ae)))
abbrev yf:Arg:=.k (.c (.f (.bool ag)))
abbrev ys(z a b:Nat):aN:=⟨ab,.store z (R a) (R b),ab⟩
abbrev yb(d:Nat)(o:BinOp)(a b:Nat):aN:=⟨D d,.bin o (R a) (R b),ab⟩
abbrev ya(d z a b:Nat):aN:=⟨D d,.bu z ab (R a) (R b),ab⟩
abbrev yl(d z a:Nat):aN:=⟨D d,.load (aa z) (R a),ab⟩
abbrev yr(l:List aN):ax:=.region l []
structure gE where
 sh:Nat
 ins:Nat
 heap:Nat
 pY:Nat
 Yq:Nat
 LL:Nat
 rev:Nat
 part:Nat
 Bu:Nat
 pins:Nat
 pN:Nat
 K9:Nat
 ord:Nat
 Zt:Nat
 Zu:Nat
 len:Nat
 alr:Nat
 alo:Nat
 rot:Nat
 swr:Nat
section
variable(σ:gE)(sz:Nat)
def akk:ax:=.seq (yr [ym 26 0,ym 27 1,ym 28 2,ym 29 4,yn 30 (.call σ.ins [R 26,R 27,R 28,R 29] ae)]) .ret
def akm:ax:=.seq (yr [ym 33 0,ym 34 1,ym 35 2,ym 36 4,yn 37 (.call σ.heap [R 33,R 34,R 35,R 36] ae)]) .ret
def akp:ax:=yr [ym 45 3,yn 46 (.bin .sub (R 45) (yi 1)),ym 3 46]
def ako:ax:=.seq (yr [ym 40 0,ym 41 1,ym 42 2,ym 43 4,yn 44 (.call σ.Yq [R 40,R 41,R 42,R 43] ae)]) (akp)
def akt:ax:=yr [yn 14 (.cP (yi 1))]
def aks:ax:=.seq (yr [ym 62 2,yn 63 (.bin .sub (R 62) (yi 1)),ym 64 13,ym 65 1,yb 66 .sub 64 65,yb 67 .sub 63 66,ym 13 67]) (akt)
def akr:ax:=.seq (yr [ym 57 0,ym 58 1,ym 59 2,ym 60 4,yn 61 (.call σ.rev [R 57,R 58,R 59,R 60] ae)]) (aks)
def aku:ax:=.seq (yr [ym 76 0,ym 77 1,ym 78 2,ym 79 4,yn 80 (.call σ.pins [R 76,R 77,R 78,R 79] ae)]) (.cond (R 80) .ret .skip)
def akw:ax:=.seq (yr [ym 104 15,ym 1 104]) (.exit 1)
def akv:ax:=.seq (yr [ym 98 0,ym 99 1,ym 100 2,ym 101 13,ym 102 4,yn 103 (.call σ.Bu [R 98,R 99,R 100,R 101,R 102] ae),ym 15 103]) (akw)
def akD:ax:=yr [ym 135 16,yn 136 (.bin .add (R 135) (yi 1)),ym 1 136]
def akC:ax:=.seq (yr [ym 129 0,ym 130 1,ym 131 16,ym 132 3,ym 133 4,yn 134 (.call σ.sh [R 129,R 130,R 131,R 132,R 133] ae)]) (akD)
def akB:ax:=.seq (yr [ym 126 18,ym 127 20,yb 128 .geq 126 127,ym 10 128]) (akC σ)
def akG:ax:=yr [ym 147 16,ym 2 147]
def akF:ax:=.seq (yr [ym 140 0,ym 141 16,yn 142 (.bin .add (R 141) (yi 1)),ym 143 2,ym 144 3,ym 145 4,yn 146 (.call σ.sh [R 140,R 142,R 143,R 144,R 145] ae)]) (akG)
def akE:ax:=.seq (yr [ym 137 19,ym 138 20,yb 139 .geq 137 138,ym 10 139]) (akF σ)
def akA:ax:=.seq (yr [ym 123 18,ym 124 19,yb 125 .lss 123 124]) (.cond (R 125) (akB σ) (akE σ))
def akz:ax:=.seq (yr [ym 121 12,yn 122 (.bin .quo (R 121) (yi 8)),ym 20 122]) (akA σ)
def aky:ax:=.seq (yr [ym 115 16,ym 116 1,yb 117 .sub 115 116,ym 118 2,ym 119 16,yb 120 .sub 118 119,ym 18 117,ym 19 120]) (akz σ)
def akx:ax:=.seq (yr [ym 114 17,ym 11 114]) (aky σ)
def ZN:ax:=.seq (yr [ym 106 0,ym 107 1,ym 108 2,ym 109 13,ym 110 4,yn 111 (.call σ.part [R 106,R 107,R 108,R 109,R 110] ae),ym 105 111,yn 112 (.extract (R 105) 0),yn 113 (.extract (R 105) 1),ym 16 112,ym 17 113]) (akx σ)
def ZM:ax:=.seq (.seq (yr [ym 81 1,yn 82 (.bin .gtr (R 81) (yi 0)),ym 83 82,gO 84 4 83,gO 85 0 83,gO 86 1 83,⟨D 87,.bin .sub (R 86) (yi 1),G 83 ae⟩,⟨D 88,.bu sz ab (R 85) (R 87),G 83 ae⟩,uZ 89 sz 88 83,gO 90 0 83,gO 91 13 83,⟨D 92,.bu sz ab (R 90) (R 91),G 83 ae⟩,uZ 93 sz 92 83,⟨D 94,.bZ (R 84) [R 89,R 93] ae,G 83 ae⟩,⟨D 95,.bin .lss (R 94) (yi 0),G 83 ae⟩,⟨D 96,.un .not (R 95),G 83 ae⟩,yn 97 (.pick (R 83) (R 96) yf)]) (.cond (R 97) (akv σ) .skip)) (ZN σ)
def ZL:ax:=.seq (.seq (yr [ym 68 10,ym 69 68,gO 70 11 69,yn 71 (.pick (R 69) (R 70) yf),ym 72 71,gO 73 14 72,⟨D 74,.bin .eql (R 73) (yi 1),G 72 ae⟩,yn 75 (.pick (R 72) (R 74) yf)]) (.cond (R 75) (aku σ) .skip)) (ZM σ sz)
def akq:ax:=.seq (.seq (yr [ym 55 14,yn 56 (.bin .eql (R 55) (yi 2))]) (.cond (R 56) (akr σ) .skip)) (ZL σ sz)
def ZK:ax:=.seq (yr [ym 48 0,ym 49 1,ym 50 2,ym 51 4,yn 52 (.call σ.LL [R 48,R 49,R 50,R 51] ae),ym 47 52,yn 53 (.extract (R 47) 0),yn 54 (.extract (R 47) 1),ym 13 53,ym 14 54]) (akq σ sz)
def akn:ax:=.seq (.seq (yr [ym 38 10,yn 39 (.un .not (R 38))]) (.cond (R 39) (ako σ) .skip)) (ZK σ sz)
def akl:ax:=.seq (.seq (yr [ym 31 3,yn 32 (.bin .eql (R 31) (yi 0))]) (.cond (R 32) (akm σ) .skip)) (akn σ sz)
def aoC:ax:=.seq (.seq (yr [ym 24 12,yn 25 (.bin .leq (R 24) (yi 12))]) (.cond (R 25) (akk σ) .skip)) (akl σ sz)
def aoB:ax:=.seq (yr [ym 21 2,ym 22 1,yb 23 .sub 21 22,ym 12 23]) (aoC σ sz)
def uJ:ax:=.block 1 (aoB σ sz)
def aoA:ax:=.seq (yr [yn 11 (.cP yt)]) (.block 0 (.loop (uJ σ sz)))
def aoz:ax:=.seq (yr [yn 10 (.cP yt)]) (aoA σ sz)
def Bs(σ:gE)(sz:Nat):aG:=⟨[P.nat 0,P.nat 1,P.nat 2,P.nat 3,P.nat 4],[],(aoz σ sz)⟩
end
section
variable(σ:gE)(sz:Nat)
def ajK:ax:=yr [ym 37 0,ym 38 9,ym 39 0,ym 40 9,yn 41 (.bin .sub (R 40) (yi 1)),ym 42 0,ym 43 9,yn 44 (.bin .sub (R 43) (yi 1)),ya 45 sz 42 44,yl 46 sz 45,ym 47 0,ym 48 9,ya 49 sz 47 48,yl 50 sz 49,ya 51 sz 37 38,ys sz 51 46,ya 52 sz 39 41,ys sz 52 50]
def ajL:ax:=yr [ym 35 9,yn 36 (.bin .sub (R 35) (yi 1)),ym 9 36]
def ajJ:ax:=.seq (.block 3 (ajK sz)) (ajL)
def ajI:ax:=.seq (.seq (yr [ym 18 9,ym 19 1,yb 20 .gtr 18 19,ym 21 20,gO 22 3 21,gO 23 0 21,gO 24 9 21,⟨D 25,.bu sz ab (R 23) (R 24),G 21 ae⟩,uZ 26 sz 25 21,gO 27 0 21,gO 28 9 21,⟨D 29,.bin .sub (R 28) (yi 1),G 21 ae⟩,⟨D 30,.bu sz ab (R 27) (R 29),G 21 ae⟩,uZ 31 sz 30 21,⟨D 32,.bZ (R 22) [R 26,R 31] ae,G 21 ae⟩,⟨D 33,.bin .lss (R 32) (yi 0),G 21 ae⟩,yn 34 (.pick (R 21) (R 33) yf)]) (.cond (R 34) .skip (.exit 2))) (ajJ sz)
def ajH:ax:=.seq (yr [ym 17 8,ym 9 17]) (.block 2 (.loop (ajI sz)))
def vC:ax:=yr [ym 15 8,yn 16 (.bin .add (R 15) (yi 1)),ym 8 16]
def anO:ax:=.seq (.block 1 (ajH sz)) (vC)
def Bg:ax:=.seq (.seq (yr [ym 12 8,ym 13 2,yb 14 .lss 12 13]) (.cond (R 14) .skip (.exit 0))) (anO sz)
def anN:ax:=.seq (yr [ym 10 1,yn 11 (.bin .add (R 10) (yi 1)),ym 8 11]) (.block 0 (.loop (Bg sz)))
def ug(σ:gE)(sz:Nat):aG:=⟨[P.nat 0,P.nat 1,P.nat 2,P.nat 3],[],(anN sz)⟩
end
section
variable(σ:gE)(sz:Nat)
def afl:ax:=yr [ym 24 0,ym 25 11,ym 26 10,ym 27 8,ym 28 3,yn 29 (.call σ.pY [R 24,R 25,R 26,R 27,R 28] ae)]
def afm:ax:=yr [ym 22 11,yn 23 (.bin .sub (R 22) (yi 1)),ym 11 23]
def afk:ax:=.seq (.block 1 (afl σ)) (afm)
def afj:ax:=.seq (.seq (yr [ym 20 11,yn 21 (.bin .geq (R 20) (yi 0))]) (.cond (R 21) .skip (.exit 0))) (afk σ)
def afq:ax:=yr [ym 54 0,ym 55 9,ym 56 12,ym 57 8,ym 58 3,yn 59 (.call σ.pY [R 54,R 55,R 56,R 57,R 58] ae)]
def afp:ax:=.seq (yr [ym 36 0,ym 37 8,ym 38 0,ym 39 8,ym 40 12,yb 41 .add 39 40,ym 42 0,ym 43 8,ym 44 12,yb 45 .add 43 44,ya 46 sz 42 45,yl 47 sz 46,ym 48 0,ym 49 8,ya 50 sz 48 49,yl 51 sz 50,ya 52 sz 36 37,ys sz 52 47,ya 53 sz 38 41,ys sz 53 51]) (afq σ)
def afr:ax:=yr [ym 34 12,yn 35 (.bin .sub (R 34) (yi 1)),ym 12 35]
def afo:ax:=.seq (.block 3 (afp σ sz)) (afr)
def afn:ax:=.seq (.seq (yr [ym 32 12,yn 33 (.bin .geq (R 32) (yi 0))]) (.cond (R 33) .skip (.exit 2))) (afo σ sz)
def Bd:ax:=.seq (yr [ym 30 10,yn 31 (.bin .sub (R 30) (yi 1)),ym 12 31]) (.block 2 (.loop (afn σ sz)))
def ajD:ax:=.seq (.seq (yr [ym 17 10,yn 18 (.bin .sub (R 17) (yi 1)),yn 19 (.bin .quo (R 18) (yi 2)),ym 11 19]) (.block 0 (.loop (afj σ)))) (Bd σ sz)
def ajC:ax:=.seq (yr [ym 14 2,ym 15 1,yb 16 .sub 14 15,ym 10 16]) (ajD σ sz)
def ajB:ax:=.seq (yr [yn 9 (.cP (yi 0))]) (ajC σ sz)
def ajA:ax:=.seq (yr [ym 13 1,ym 8 13]) (ajB σ sz)
def vz(σ:gE)(sz:Nat):aG:=⟨[P.nat 0,P.nat 1,P.nat 2,P.nat 3],[],(ajA σ sz)⟩
end
section
variable(σ:gE)(sz:Nat)
def agR:ax:=yr [ym 41 11,yn 42 (.bin .add (R 41) (yi 1)),ym 11 42]
def agT:ax:=yr [ym 81 11,ym 10 81]
def agS:ax:=.seq (yr [ym 59 0,ym 60 3,ym 61 10,yb 62 .add 60 61,ym 63 0,ym 64 3,ym 65 11,yb 66 .add 64 65,ym 67 0,ym 68 3,ym 69 11,yb 70 .add 68 69,ya 71 sz 67 70,yl 72 sz 71,ym 73 0,ym 74 3,ym 75 10,yb 76 .add 74 75,ya 77 sz 73 76,yl 78 sz 77,ya 79 sz 59 62,ys sz 79 72,ya 80 sz 63 66,ys sz 80 78]) (agT)
def BO:ax:=.seq (.seq (yr [ym 43 4,ym 44 0,ym 45 3,ym 46 10,yb 47 .add 45 46,ya 48 sz 44 47,yl 49 sz 48,ym 50 0,ym 51 3,ym 52 11,yb 53 .add 51 52,ya 54 sz 50 53,yl 55 sz 54,yn 56 (.bZ (R 43) [R 49,R 55] ae),yn 57 (.bin .lss (R 56) (yi 0)),yn 58 (.un .not (R 57))]) (.cond (R 58) .ret .skip)) (agS sz)
def agQ:ax:=.seq (.seq (yr [ym 19 11,yn 20 (.bin .add (R 19) (yi 1)),ym 21 2,yb 22 .lss 20 21,ym 23 22,gO 24 4 23,gO 25 0 23,gO 26 3 23,gO 27 11 23,⟨D 28,.bin .add (R 26) (R 27),G 23 ae⟩,⟨D 29,.bu sz ab (R 25) (R 28),G 23 ae⟩,uZ 30 sz 29 23,gO 31 0 23,gO 32 3 23,gO 33 11 23,⟨D 34,.bin .add (R 32) (R 33),G 23 ae⟩,⟨D 35,.bin .add (R 34) (yi 1),G 23 ae⟩,⟨D 36,.bu sz ab (R 31) (R 35),G 23 ae⟩,uZ 37 sz 36 23,⟨D 38,.bZ (R 24) [R 30,R 37] ae,G 23 ae⟩,⟨D 39,.bin .lss (R 38) (yi 0),G 23 ae⟩,yn 40 (.pick (R 23) (R 39) yf)]) (.cond (R 40) agR .skip)) (BO sz)
def aln:ax:=.seq (.seq (yr [ym 16 11,ym 17 2,yb 18 .geq 16 17]) (.cond (R 18) (.exit 0) .skip)) (agQ sz)
def alm:ax:=.seq (yr [ym 13 10,yn 14 (.bin .mul (yi 2) (R 13)),yn 15 (.bin .add (R 14) (yi 1)),ym 11 15]) (aln sz)
def Z9:ax:=.block 1 (alm sz)
def alk:ax:=.seq (yr [ym 12 1,ym 10 12]) (.block 0 (.loop (Z9 sz)))
def sH(σ:gE)(sz:Nat):aG:=⟨[P.nat 0,P.nat 1,P.nat 2,P.nat 3,P.nat 4],[],(alk sz)⟩
end
section
variable(σ:gE)(sz:Nat)
def ajg:ax:=yr [ym 46 12,ym 47 8,yb 48 .sub 46 47,ym 12 48]
def Ys:ax:=yr [ym 49 0,ym 50 11,ym 51 0,ym 52 1,ym 53 12,yb 54 .add 52 53,ym 55 0,ym 56 1,ym 57 12,yb 58 .add 56 57,ya 59 sz 55 58,yl 60 sz 59,ym 61 0,ym 62 11,ya 63 sz 61 62,yl 64 sz 63,ya 65 sz 49 50,ys sz 65 60,ya 66 sz 51 54,ys sz 66 64]
def ajf:ax:=.seq (.seq (yr [ym 43 12,ym 44 8,yb 45 .geq 43 44]) (.cond (R 45) ajg .skip)) (Ys sz)
def aje:ax:=.seq (yr [yn 38 (.call σ.Zu [R 9] ae),ym 39 10,yn 40 (.bin .sub (R 39) (.k (.c (.f (.int .u64 1))))),yb 41 .and 38 40,yn 42 (.gG .i64 (R 41)),ym 12 42]) (ajf sz)
def Yt:ax:=yr [ym 36 11,yn 37 (.bin .add (R 36) (yi 1)),ym 11 37]
def ajd:ax:=.seq (.block 1 (aje σ sz)) (Yt)
def Yr:ax:=.seq (.seq (yr [ym 28 11,ym 29 1,ym 30 8,yn 31 (.bin .quo (R 30) (yi 4)),yn 32 (.bin .mul (R 31) (yi 2)),yb 33 .add 29 32,yn 34 (.bin .add (R 33) (yi 1)),yb 35 .leq 28 34]) (.cond (R 35) .skip (.exit 0))) (ajd σ sz)
def anw:ax:=.seq (yr [ym 22 1,ym 23 8,yn 24 (.bin .quo (R 23) (yi 4)),yn 25 (.bin .mul (R 24) (yi 2)),yb 26 .add 22 25,yn 27 (.bin .sub (R 26) (yi 1)),ym 11 27]) (.block 0 (.loop (Yr σ sz)))
def anv:ax:=.seq (yr [ym 20 8,yn 21 (.call σ.Zt [R 20] ag),ym 10 21]) (anw σ sz)
def anu:ax:=.seq (yr [ym 18 8,yn 19 (.gG .u64 (R 18)),yn 9 (.alloc [(.int .u64 0)]),ys 1 9 19]) (anv σ sz)
def ant:ax:=.seq (yr [ym 16 8,yn 17 (.bin .geq (R 16) (yi 8))]) (.cond (R 17) (anu σ sz) .skip)
def ans:ax:=.seq (yr [ym 13 2,ym 14 1,yb 15 .sub 13 14,ym 8 15]) (ant σ sz)
def A0(σ:gE)(sz:Nat):aG:=⟨[P.nat 0,P.nat 1,P.nat 2,P.nat 3],[],(ans σ sz)⟩
end
section
variable(σ:gE)(sz:Nat)
def ak4:ax:=yr [ym 45 0,ym 46 14,ym 47 3,yn 48 (.call σ.pN [R 45,R 46,R 11,R 47] ae),ym 14 48]
def ak3:ax:=.seq (yr [ym 41 0,ym 42 13,ym 43 3,yn 44 (.call σ.pN [R 41,R 42,R 11,R 43] ae),ym 13 44]) (ak4 σ)
def ak2:ax:=.seq (yr [ym 37 0,ym 38 12,ym 39 3,yn 40 (.call σ.pN [R 37,R 38,R 11,R 39] ae),ym 12 40]) (ak3 σ)
def ZR:ax:=yr [ym 49 0,ym 50 12,ym 51 13,ym 52 14,ym 53 3,yn 54 (.call σ.K9 [R 49,R 50,R 51,R 52,R 11,R 53] ae),ym 13 54]
def ak1:ax:=.seq (.seq (yr [ym 35 10,yn 36 (.bin .geq (R 35) (yi 50))]) (.cond (R 36) (ak2 σ) .skip)) (ZR σ)
def ak6:ax:=.seq (yr [ym 59 13,ym 8 59,yn 9 (.cP (yi 1))]) .ret
def ak8:ax:=.seq (yr [ym 62 13,ym 8 62,yn 9 (.cP (yi 2))]) .ret
def ak9:ax:=.seq (yr [ym 56 13,ym 8 56,yn 9 (.cP (yi 0))]) .ret
def ak7:ax:=.seq (yr [yn 61 (.bin .eql (R 55) (yi 12)),ym 60 61]) (.cond (R 60) ak8 ak9)
def ak5:ax:=.seq (yr [yn 58 (.bin .eql (R 55) (yi 0)),ym 57 58]) (.cond (R 57) ak6 ak7)
def Aq:ax:=.seq (yr [yn 55 (.load ab (R 11))]) (.block 0 ak5)
def ak0:ax:=.seq (.seq (yr [ym 33 10,yn 34 (.bin .geq (R 33) (yi 8))]) (.cond (R 34) (ak1 σ) .skip)) (Aq)
def akZ:ax:=.seq (yr [ym 28 1,ym 29 10,yn 30 (.bin .quo (R 29) (yi 4)),yn 31 (.bin .mul (R 30) (yi 3)),yb 32 .add 28 31,ym 14 32]) (ak0 σ)
def aoM:ax:=.seq (yr [ym 23 1,ym 24 10,yn 25 (.bin .quo (R 24) (yi 4)),yn 26 (.bin .mul (R 25) (yi 2)),yb 27 .add 23 26,ym 13 27]) (akZ σ)
def aoL:ax:=.seq (yr [ym 18 1,ym 19 10,yn 20 (.bin .quo (R 19) (yi 4)),yn 21 (.bin .mul (R 20) (yi 1)),yb 22 .add 18 21,ym 12 22]) (aoM σ)
def aoK:ax:=.seq (yr [yn 11 (.alloc [(.int .i64 0)])]) (aoL σ)
def aoJ:ax:=.seq (yr [ym 15 2,ym 16 1,yb 17 .sub 15 16,ym 10 17]) (aoK σ)
def aoI:ax:=.seq (yr [yn 8 (.cP (yi 0)),yn 9 (.cP (yi 0))]) (aoJ σ)
def BB(σ:gE)(sz:Nat):aG:=⟨[P.nat 0,P.nat 1,P.nat 2,P.nat 3],[.tmp (P.nat 8),.tmp (P.nat 9)],(aoI σ)⟩
end
section
variable(σ:gE)(sz:Nat)
def alg:ax:=yr [ym 32 9,yn 33 (.bin .sub (R 32) (yi 1)),ym 9 33]
def alf:ax:=.seq (yr [ym 30 8,yn 31 (.bin .add (R 30) (yi 1)),ym 8 31]) (alg)
def ale:ax:=.seq (yr [ym 16 0,ym 17 8,ym 18 0,ym 19 9,ym 20 0,ym 21 9,ya 22 sz 20 21,yl 23 sz 22,ym 24 0,ym 25 8,ya 26 sz 24 25,yl 27 sz 26,ya 28 sz 16 17,ys sz 28 23,ya 29 sz 18 19,ys sz 29 27]) (alf)
def aoR:ax:=.seq (.seq (yr [ym 13 8,ym 14 9,yb 15 .lss 13 14]) (.cond (R 15) .skip (.exit 0))) (.block 1 (ale sz))
def aoQ:ax:=.seq (yr [ym 11 2,yn 12 (.bin .sub (R 11) (yi 1)),ym 9 12]) (.block 0 (.loop (aoR sz)))
def aoP:ax:=.seq (yr [ym 10 1,ym 8 10]) (aoQ sz)
def BF(σ:gE)(sz:Nat):aG:=⟨[P.nat 0,P.nat 1,P.nat 2,P.nat 3],[],(aoP sz)⟩
end
section
variable(σ:gE)(sz:Nat)
def af0:ax:=yr [ym 48 12,yn 49 (.bin .add (R 48) (yi 1)),ym 12 49]
def akh:ax:=.seq (.seq (yr [ym 32 12,ym 33 13,yb 34 .leq 32 33,ym 35 34,gO 36 4 35,gO 37 0 35,gO 38 12 35,⟨D 39,.bu sz ab (R 37) (R 38),G 35 ae⟩,uZ 40 sz 39 35,gO 41 0 35,gO 42 1 35,⟨D 43,.bu sz ab (R 41) (R 42),G 35 ae⟩,uZ 44 sz 43 35,⟨D 45,.bZ (R 36) [R 40,R 44] ae,G 35 ae⟩,⟨D 46,.bin .lss (R 45) (yi 0),G 35 ae⟩,yn 47 (.pick (R 35) (R 46) yf)]) (.cond (R 47) .skip (.exit 0))) (.block 1 af0)
def ZF:ax:=.block 0 (.loop (akh sz))
def af3:ax:=yr [ym 67 13,yn 68 (.bin .sub (R 67) (yi 1)),ym 13 68]
def af2:ax:=.seq (.seq (yr [ym 50 12,ym 51 13,yb 52 .leq 50 51,ym 53 52,gO 54 4 53,gO 55 0 53,gO 56 13 53,⟨D 57,.bu sz ab (R 55) (R 56),G 53 ae⟩,uZ 58 sz 57 53,gO 59 0 53,gO 60 1 53,⟨D 61,.bu sz ab (R 59) (R 60),G 53 ae⟩,uZ 62 sz 61 53,⟨D 63,.bZ (R 54) [R 58,R 62] ae,G 53 ae⟩,⟨D 64,.bin .lss (R 63) (yi 0),G 53 ae⟩,⟨D 65,.un .not (R 64),G 53 ae⟩,yn 66 (.pick (R 53) (R 65) yf)]) (.cond (R 66) .skip (.exit 2))) (.block 3 af3)
def Bo:ax:=.block 2 (.loop (af2 sz))
def af6:ax:=.seq (yr [ym 86 13,ym 10 86,yn 11 (.cP yt)]) .ret
def af5:ax:=.seq (yr [ym 72 0,ym 73 13,ym 74 0,ym 75 1,ym 76 0,ym 77 1,ya 78 sz 76 77,yl 79 sz 78,ym 80 0,ym 81 13,ya 82 sz 80 81,yl 83 sz 82,ya 84 sz 72 73,ys sz 84 79,ya 85 sz 74 75,ys sz 85 83]) (af6)
def agb:ax:=yr [ym 121 12,yn 122 (.bin .add (R 121) (yi 1)),ym 12 122]
def aga:ax:=.seq (.seq (yr [ym 105 12,ym 106 13,yb 107 .leq 105 106,ym 108 107,gO 109 4 108,gO 110 0 108,gO 111 12 108,⟨D 112,.bu sz ab (R 110) (R 111),G 108 ae⟩,uZ 113 sz 112 108,gO 114 0 108,gO 115 1 108,⟨D 116,.bu sz ab (R 114) (R 115),G 108 ae⟩,uZ 117 sz 116 108,⟨D 118,.bZ (R 109) [R 113,R 117] ae,G 108 ae⟩,⟨D 119,.bin .lss (R 118) (yi 0),G 108 ae⟩,yn 120 (.pick (R 108) (R 119) yf)]) (.cond (R 120) .skip (.exit 6))) (.block 7 agb)
def Bp:ax:=.block 6 (.loop (aga sz))
def age:ax:=yr [ym 140 13,yn 141 (.bin .sub (R 140) (yi 1)),ym 13 141]
def agd:ax:=.seq (.seq (yr [ym 123 12,ym 124 13,yb 125 .leq 123 124,ym 126 125,gO 127 4 126,gO 128 0 126,gO 129 13 126,⟨D 130,.bu sz ab (R 128) (R 129),G 126 ae⟩,uZ 131 sz 130 126,gO 132 0 126,gO 133 1 126,⟨D 134,.bu sz ab (R 132) (R 133),G 126 ae⟩,uZ 135 sz 134 126,⟨D 136,.bZ (R 127) [R 131,R 135] ae,G 126 ae⟩,⟨D 137,.bin .lss (R 136) (yi 0),G 126 ae⟩,⟨D 138,.un .not (R 137),G 126 ae⟩,yn 139 (.pick (R 126) (R 138) yf)]) (.cond (R 139) .skip (.exit 8))) (.block 9 age)
def Bq:ax:=.block 8 (.loop (agd sz))
def agj:ax:=yr [ym 161 13,yn 162 (.bin .sub (R 161) (yi 1)),ym 13 162]
def agi:ax:=.seq (yr [ym 159 12,yn 160 (.bin .add (R 159) (yi 1)),ym 12 160]) (agj)
def agh:ax:=.seq (yr [ym 145 0,ym 146 12,ym 147 0,ym 148 13,ym 149 0,ym 150 13,ya 151 sz 149 150,yl 152 sz 151,ym 153 0,ym 154 12,ya 155 sz 153 154,yl 156 sz 155,ya 157 sz 145 146,ys sz 157 152,ya 158 sz 147 148,ys sz 158 156]) (agi)
def agf:ax:=.seq (.seq (yr [ym 142 12,ym 143 13,yb 144 .gtr 142 143]) (.cond (R 144) (.exit 4) .skip)) (agh sz)
def agc:ax:=.seq (Bq sz) (agf sz)
def af_:ax:=.seq (Bp sz) (agc sz)
def agk:ax:=.seq (yr [ym 177 13,ym 10 177,yn 11 (.cP yf)]) .ret
def Br:ax:=.seq (yr [ym 163 0,ym 164 13,ym 165 0,ym 166 1,ym 167 0,ym 168 1,ya 169 sz 167 168,yl 170 sz 169,ym 171 0,ym 172 13,ya 173 sz 171 172,yl 174 sz 173,ya 175 sz 163 164,ys sz 175 170,ya 176 sz 165 166,ys sz 176 174]) (agk)
def af':ax:=.seq (.block 4 (.loop (.block 5 (af_ sz)))) (Br sz)
def af9:ax:=.seq (yr [ym 103 13,yn 104 (.bin .sub (R 103) (yi 1)),ym 13 104]) (af' sz)
def af8:ax:=.seq (yr [ym 101 12,yn 102 (.bin .add (R 101) (yi 1)),ym 12 102]) (af9 sz)
def af7:ax:=.seq (yr [ym 87 0,ym 88 12,ym 89 0,ym 90 13,ym 91 0,ym 92 13,ya 93 sz 91 92,yl 94 sz 93,ym 95 0,ym 96 12,ya 97 sz 95 96,yl 98 sz 97,ya 99 sz 87 88,ys sz 99 94,ya 100 sz 89 90,ys sz 100 98]) (af8 sz)
def af4:ax:=.seq (.seq (yr [ym 69 12,ym 70 13,yb 71 .gtr 69 70]) (.cond (R 71) (af5 sz) .skip)) (af7 sz)
def af1:ax:=.seq (Bo sz) (af4 sz)
def akg:ax:=.seq (ZF sz) (af1 sz)
def akf:ax:=.seq (yr [ym 28 1,yn 29 (.bin .add (R 28) (yi 1)),ym 30 2,yn 31 (.bin .sub (R 30) (yi 1)),ym 12 29,ym 13 31]) (akg sz)
def ake:ax:=.seq (yr [ym 14 0,ym 15 1,ym 16 0,ym 17 3,ym 18 0,ym 19 3,ya 20 sz 18 19,yl 21 sz 20,ym 22 0,ym 23 1,ya 24 sz 22 23,yl 25 sz 24,ya 26 sz 14 15,ys sz 26 21,ya 27 sz 16 17,ys sz 27 25]) (akf sz)
def akd:ax:=.seq (yr [yn 10 (.cP (yi 0)),yn 11 (.cP yf)]) (ake sz)
def vM(σ:gE)(sz:Nat):aG:=⟨[P.nat 0,P.nat 1,P.nat 2,P.nat 3,P.nat 4],[.tmp (P.nat 10),.tmp (P.nat 11)],(akd sz)⟩
end
section
variable(σ:gE)(sz:Nat)
def akK:ax:=yr [ym 48 11,yn 49 (.bin .add (R 48) (yi 1)),ym 11 49]
def akJ:ax:=.seq (.seq (yr [ym 31 11,ym 32 12,yb 33 .leq 31 32,ym 34 33,gO 35 4 34,gO 36 0 34,gO 37 1 34,⟨D 38,.bu sz ab (R 36) (R 37),G 34 ae⟩,uZ 39 sz 38 34,gO 40 0 34,gO 41 11 34,⟨D 42,.bu sz ab (R 40) (R 41),G 34 ae⟩,uZ 43 sz 42 34,⟨D 44,.bZ (R 35) [R 39,R 43] ae,G 34 ae⟩,⟨D 45,.bin .lss (R 44) (yi 0),G 34 ae⟩,⟨D 46,.un .not (R 45),G 34 ae⟩,yn 47 (.pick (R 34) (R 46) yf)]) (.cond (R 47) .skip (.exit 2))) (.block 3 akK)
def ZO:ax:=.block 2 (.loop (akJ sz))
def akN:ax:=yr [ym 66 12,yn 67 (.bin .sub (R 66) (yi 1)),ym 12 67]
def akM:ax:=.seq (.seq (yr [ym 50 11,ym 51 12,yb 52 .leq 50 51,ym 53 52,gO 54 4 53,gO 55 0 53,gO 56 1 53,⟨D 57,.bu sz ab (R 55) (R 56),G 53 ae⟩,uZ 58 sz 57 53,gO 59 0 53,gO 60 12 53,⟨D 61,.bu sz ab (R 59) (R 60),G 53 ae⟩,uZ 62 sz 61 53,⟨D 63,.bZ (R 54) [R 58,R 62] ae,G 53 ae⟩,⟨D 64,.bin .lss (R 63) (yi 0),G 53 ae⟩,yn 65 (.pick (R 53) (R 64) yf)]) (.cond (R 65) .skip (.exit 4))) (.block 5 akN)
def ZP:ax:=.block 4 (.loop (akM sz))
def akR:ax:=yr [ym 87 12,yn 88 (.bin .sub (R 87) (yi 1)),ym 12 88]
def akQ:ax:=.seq (yr [ym 85 11,yn 86 (.bin .add (R 85) (yi 1)),ym 11 86]) (akR)
def akP:ax:=.seq (yr [ym 71 0,ym 72 11,ym 73 0,ym 74 12,ym 75 0,ym 76 12,ya 77 sz 75 76,yl 78 sz 77,ym 79 0,ym 80 11,ya 81 sz 79 80,yl 82 sz 81,ya 83 sz 71 72,ys sz 83 78,ya 84 sz 73 74,ys sz 84 82]) (akQ)
def akO:ax:=.seq (.seq (yr [ym 68 11,ym 69 12,yb 70 .gtr 68 69]) (.cond (R 70) (.exit 0) .skip)) (akP sz)
def akL:ax:=.seq (ZP sz) (akO sz)
def akI:ax:=.seq (ZO sz) (akL sz)
def ZQ:ax:=.seq (yr [ym 89 11,ym 10 89]) .ret
def aoG:ax:=.seq (.block 0 (.loop (.block 1 (akI sz)))) (ZQ)
def aoF:ax:=.seq (yr [ym 27 1,yn 28 (.bin .add (R 27) (yi 1)),ym 29 2,yn 30 (.bin .sub (R 29) (yi 1)),ym 11 28,ym 12 30]) (aoG sz)
def aoE:ax:=.seq (yr [ym 13 0,ym 14 1,ym 15 0,ym 16 3,ym 17 0,ym 18 3,ya 19 sz 17 18,yl 20 sz 19,ym 21 0,ym 22 1,ya 23 sz 21 22,yl 24 sz 23,ya 25 sz 13 14,ys sz 25 20,ya 26 sz 15 16,ys sz 26 24]) (aoF sz)
def aoD:ax:=.seq (yr [yn 10 (.cP (yi 0))]) (aoE sz)
def Bv(σ:gE)(sz:Nat):aG:=⟨[P.nat 0,P.nat 1,P.nat 2,P.nat 3,P.nat 4],[.tmp (P.nat 10)],(aoD sz)⟩
end
section
variable(σ:gE)(sz:Nat)
def agr:ax:=yr [ym 37 9,yn 38 (.bin .add (R 37) (yi 1)),ym 9 38]
def agq:ax:=.seq (.seq (yr [ym 19 9,ym 20 2,yb 21 .lss 19 20,ym 22 21,gO 23 3 22,gO 24 0 22,gO 25 9 22,⟨D 26,.bu sz ab (R 24) (R 25),G 22 ae⟩,uZ 27 sz 26 22,gO 28 0 22,gO 29 9 22,⟨D 30,.bin .sub (R 29) (yi 1),G 22 ae⟩,⟨D 31,.bu sz ab (R 28) (R 30),G 22 ae⟩,uZ 32 sz 31 22,⟨D 33,.bZ (R 23) [R 27,R 32] ae,G 22 ae⟩,⟨D 34,.bin .lss (R 33) (yi 0),G 22 ae⟩,⟨D 35,.un .not (R 34),G 22 ae⟩,yn 36 (.pick (R 22) (R 35) yf)]) (.cond (R 36) .skip (.exit 2))) (.block 3 agr)
def Bx:ax:=.block 2 (.loop (agq sz))
def agt:ax:=.seq (yr [yn 8 (.cP yt)]) .ret
def agv:ax:=.seq (yr [yn 8 (.cP yf)]) .ret
def agC:ax:=yr [ym 85 0,ym 86 11,ym 87 0,ym 88 11,yn 89 (.bin .sub (R 88) (yi 1)),ym 90 0,ym 91 11,yn 92 (.bin .sub (R 91) (yi 1)),ya 93 sz 90 92,yl 94 sz 93,ym 95 0,ym 96 11,ya 97 sz 95 96,yl 98 sz 97,ya 99 sz 85 86,ys sz 99 94,ya 100 sz 87 89,ys sz 100 98]
def agB:ax:=.seq (.seq (yr [ym 72 3,ym 73 0,ym 74 11,ya 75 sz 73 74,yl 76 sz 75,ym 77 0,ym 78 11,yn 79 (.bin .sub (R 78) (yi 1)),ya 80 sz 77 79,yl 81 sz 80,yn 82 (.bZ (R 72) [R 76,R 81] ae),yn 83 (.bin .lss (R 82) (yi 0)),yn 84 (.un .not (R 83))]) (.cond (R 84) (.exit 4) .skip)) (agC sz)
def agD:ax:=yr [ym 70 11,yn 71 (.bin .sub (R 70) (yi 1)),ym 11 71]
def agA:ax:=.seq (.block 5 (agB sz)) (agD)
def agz:ax:=.seq (.seq (yr [ym 68 11,yn 69 (.bin .geq (R 68) (yi 1))]) (.cond (R 69) .skip (.exit 4))) (agA sz)
def By:ax:=.block 4 (.loop (agz sz))
def agy:ax:=.seq (yr [ym 66 9,yn 67 (.bin .sub (R 66) (yi 1)),ym 11 67]) (By sz)
def agI:ax:=yr [ym 125 0,ym 126 12,ym 127 0,ym 128 12,yn 129 (.bin .sub (R 128) (yi 1)),ym 130 0,ym 131 12,yn 132 (.bin .sub (R 131) (yi 1)),ya 133 sz 130 132,yl 134 sz 133,ym 135 0,ym 136 12,ya 137 sz 135 136,yl 138 sz 137,ya 139 sz 125 126,ys sz 139 134,ya 140 sz 127 129,ys sz 140 138]
def agH:ax:=.seq (.seq (yr [ym 112 3,ym 113 0,ym 114 12,ya 115 sz 113 114,yl 116 sz 115,ym 117 0,ym 118 12,yn 119 (.bin .sub (R 118) (yi 1)),ya 120 sz 117 119,yl 121 sz 120,yn 122 (.bZ (R 112) [R 116,R 121] ae),yn 123 (.bin .lss (R 122) (yi 0)),yn 124 (.un .not (R 123))]) (.cond (R 124) (.exit 6) .skip)) (agI sz)
def agJ:ax:=yr [ym 110 12,yn 111 (.bin .add (R 110) (yi 1)),ym 12 111]
def agG:ax:=.seq (.block 7 (agH sz)) (agJ)
def agF:ax:=.seq (.seq (yr [ym 107 12,ym 108 2,yb 109 .lss 107 108]) (.cond (R 109) .skip (.exit 6))) (agG sz)
def BA:ax:=.block 6 (.loop (agF sz))
def agE:ax:=.seq (yr [ym 105 9,yn 106 (.bin .add (R 105) (yi 1)),ym 12 106]) (BA sz)
def Bz:ax:=.seq (yr [ym 101 2,ym 102 9,yb 103 .sub 101 102,yn 104 (.bin .geq (R 103) (yi 2))]) (.cond (R 104) (agE sz) .skip)
def agx:ax:=.seq (.seq (yr [ym 62 9,ym 63 1,yb 64 .sub 62 63,yn 65 (.bin .geq (R 64) (yi 2))]) (.cond (R 65) (agy sz) .skip)) (Bz sz)
def agw:ax:=.seq (yr [ym 46 0,ym 47 9,ym 48 0,ym 49 9,yn 50 (.bin .sub (R 49) (yi 1)),ym 51 0,ym 52 9,yn 53 (.bin .sub (R 52) (yi 1)),ya 54 sz 51 53,yl 55 sz 54,ym 56 0,ym 57 9,ya 58 sz 56 57,yl 59 sz 58,ya 60 sz 46 47,ys sz 60 55,ya 61 sz 48 50,ys sz 61 59]) (agx sz)
def agu:ax:=.seq (.seq (yr [ym 42 2,ym 43 1,yb 44 .sub 42 43,yn 45 (.bin .lss (R 44) (yi 50))]) (.cond (R 45) agv .skip)) (agw sz)
def ags:ax:=.seq (.seq (yr [ym 39 9,ym 40 2,yb 41 .eql 39 40]) (.cond (R 41) agt .skip)) (agu sz)
def agp:ax:=.seq (Bx sz) (ags sz)
def vO:ax:=yr [ym 17 10,yn 18 (.bin .add (R 17) (yi 1)),ym 10 18]
def ago:ax:=.seq (.block 1 (agp sz)) (vO)
def Ao:ax:=.seq (.seq (yr [ym 15 10,yn 16 (.bin .lss (R 15) (yi 5))]) (.cond (R 16) .skip (.exit 0))) (ago sz)
def qP:ax:=.seq (yr [yn 8 (.cP yf)]) .ret
def akY:ax:=.seq (.seq (yr [yn 10 (.cP (yi 0))]) (.block 0 (.loop (Ao sz)))) (qP)
def akX:ax:=.seq (yr [ym 13 1,yn 14 (.bin .add (R 13) (yi 1)),ym 9 14]) (akY sz)
def akW:ax:=.seq (yr [yn 8 (.cP yf)]) (akX sz)
def vP(σ:gE)(sz:Nat):aG:=⟨[P.nat 0,P.nat 1,P.nat 2,P.nat 3],[.tmp (P.nat 8)],(akW sz)⟩
end
def ajS(σ:gE):ax:=.seq (yr [ym 9 0,ym 10 1,yn 11 (.bin .sub (R 10) (yi 1)),ym 12 1,ym 13 1,yn 14 (.bin .add (R 13) (yi 1)),ym 15 2,ym 16 3,yn 17 (.call σ.K9 [R 9,R 11,R 12,R 14,R 15,R 16] ae),ym 8 17]) .ret
def ajR(σ:gE):ax:=.seq (yr [yn 8 (.cP (yi 0))]) (ajS σ)
def rN(σ:gE)(sz:Nat):aG:=⟨[P.nat 0,P.nat 1,P.nat 2,P.nat 3],[.tmp (P.nat 8)],(ajR σ)⟩
section
variable(σ:gE)(sz:Nat)
def an8:ax:=.seq (yr [ym 40 2,ym 12 40]) .ret
def an7:ax:=.seq (yr [ym 32 0,ym 33 1,ym 34 2,ym 35 4,ym 36 5,yn 37 (.call σ.ord [R 32,R 33,R 34,R 35,R 36] ae),ym 31 37,yn 38 (.extract (R 31) 0),yn 39 (.extract (R 31) 1),ym 1 38,ym 2 39]) (an8)
def an6:ax:=.seq (yr [ym 23 0,ym 24 2,ym 25 3,ym 26 4,ym 27 5,yn 28 (.call σ.ord [R 23,R 24,R 25,R 26,R 27] ae),ym 22 28,yn 29 (.extract (R 22) 0),yn 30 (.extract (R 22) 1),ym 2 29,ym 3 30]) (an7 σ)
def an5:ax:=.seq (yr [ym 14 0,ym 15 1,ym 16 2,ym 17 4,ym 18 5,yn 19 (.call σ.ord [R 14,R 15,R 16,R 17,R 18] ae),ym 13 19,yn 20 (.extract (R 13) 0),yn 21 (.extract (R 13) 1),ym 1 20,ym 2 21]) (an6 σ)
def an4:ax:=.seq (yr [yn 12 (.cP (yi 0))]) (an5 σ)
def uC(σ:gE)(sz:Nat):aG:=⟨[P.nat 0,P.nat 1,P.nat 2,P.nat 3,P.nat 4,P.nat 5],[.tmp (P.nat 12)],(an4 σ)⟩
end
section
variable(σ:gE)(sz:Nat)
def aoy:ax:=.seq (yr [ym 28 2,ym 29 1,ym 10 28,ym 11 29]) .ret
def aox:ax:=.seq (yr [ym 23 3,yn 24 (.bB (R 23)),yn 25 (.load ab (R 24)),yn 26 (.bin .add (R 25) (yi 1)),yn 27 (.bB (R 23)),ys 1 27 26]) (aoy)
def aka:ax:=.seq (yr [ym 30 1,ym 31 2,ym 10 30,ym 11 31]) .ret
def aow:ax:=.seq (.seq (yr [ym 12 4,ym 13 0,ym 14 2,ya 15 sz 13 14,yl 16 sz 15,ym 17 0,ym 18 1,ya 19 sz 17 18,yl 20 sz 19,yn 21 (.bZ (R 12) [R 16,R 20] ae),yn 22 (.bin .lss (R 21) (yi 0))]) (.cond (R 22) aox .skip)) (aka)
def aov:ax:=.seq (yr [yn 10 (.cP (yi 0)),yn 11 (.cP (yi 0))]) (aow sz)
def rW(σ:gE)(sz:Nat):aG:=⟨[P.nat 0,P.nat 1,P.nat 2,P.nat 3,P.nat 4],[.tmp (P.nat 10),.tmp (P.nat 11)],(aov sz)⟩
end
def aoa(σ:gE):ax:=.seq (yr [ym 3 0,yn 4 (.gG .u64 (R 3)),yn 5 (.call σ.len [R 4] ag),yn 6 (.bin .shl (.k (.c (.f (.int .u64 1)))) (R 5)),ym 2 6]) .ret
def an_(σ:gE):ax:=.seq (yr [yn 2 (.cP (.k (.c (.f (.int .u64 0)))))]) (aoa σ)
def ye(σ:gE)(sz:Nat):aG:=⟨[P.nat 0],[.tmp (P.nat 2)],(an_ σ)⟩
section
variable(σ:gE)(sz:Nat)
def aof:ax:=.seq (yr [ym 30 0,yn 31 (.bB (R 30)),yn 32 (.load ab (R 31)),ym 2 32]) .ret
def aoe:ax:=.seq (yr [ym 21 0,yn 22 (.bB (R 21)),yn 23 (.load ab (R 22)),ym 24 0,yn 25 (.bB (R 24)),yn 26 (.load ab (R 25)),yn 27 (.bin .shl (R 26) (.k (.c (.f (.int .u64 17))))),yb 28 .xor 23 27,yn 29 (.bB (R 21)),ys 1 29 28]) (aof)
def aod:ax:=.seq (yr [ym 12 0,yn 13 (.bB (R 12)),yn 14 (.load ab (R 13)),ym 15 0,yn 16 (.bB (R 15)),yn 17 (.load ab (R 16)),yn 18 (.bin .shr (R 17) (.k (.c (.f (.int .u64 7))))),yb 19 .xor 14 18,yn 20 (.bB (R 12)),ys 1 20 19]) (aoe)
def aoc:ax:=.seq (yr [ym 3 0,yn 4 (.bB (R 3)),yn 5 (.load ab (R 4)),ym 6 0,yn 7 (.bB (R 6)),yn 8 (.load ab (R 7)),yn 9 (.bin .shl (R 8) (.k (.c (.f (.int .u64 13))))),yb 10 .xor 5 9,yn 11 (.bB (R 3)),ys 1 11 10]) (aod)
def aob:ax:=.seq (yr [yn 2 (.cP (.k (.c (.f (.int .u64 0)))))]) (aoc)
def yg(σ:gE)(sz:Nat):aG:=⟨[P.nat 0],[.tmp (P.nat 2)],(aob)⟩
end
end
def Cv(tab:TB)(cv:V)(W:List FC->Prop)(c:List FC->List FC->Int):Prop:=
 ∀x y,W x->W y->∀H,∃F b J,bX cv [.a (x.map .f),.a (y.map .f)]=aa (.fn F,b)/\Ev tab (.fn F) b H (vi (c x y)) (H++J)
section
variable{W:List FC->Prop}{c:List FC->List FC->Int}{l:List (List FC)}
theorem jj.of_lt{i j:Nat}(hc:sW W c)(b:∀r∈l,W r){x y:List FC}(d:l[i]?=aa x)(hy:l[j]?=aa y)(h:c x y<0):jj c l i j:=λg m h1 h2=>by
 rw[d]at h1;rw[hy]at h2;cases h1;cases h2;exact hc.zo (b _ (arh d)) (b _ (arh hy)) h
theorem jj.of_le{i j:Nat}{x y:List FC}(b:l[i]?=aa x)(hy:l[j]?=aa y)(h:¬ c y x<0):jj c l i j:=λd g h1 h2=>by
 rw[b]at h1;rw[hy]at h2;cases h1;cases h2;exact h
theorem jj.get{l':List (List FC)}{i j b d:Nat}(h:jj c l i j)(h1:l'[b]?=l[i]?)(h2:l'[d]?=l[j]?):jj c l' b d:=λx y g hy=>h x y (by rw[<-h1];exact g) (by rw[<-h2];exact hy)
def AT(c:List FC->List FC->Int)(a i j:Nat)(l:List (List FC)):Prop:=∀p q,a<=p->p<q->q<=i->q≠j->jj c l p q
theorem AT.start{a i:Nat}(h:Up c a i l):AT c a i i l:=λp q h1 h2 h3 b=>λx y=>h p q x y h1 h2 (by omega)
theorem AT.step{a i j:Nat}(hc:sW W c)(v:∀r∈l,W r)(h:AT c a i (j+1) l)(z:a<=j)(B:j+1<=i)(hi:i<l.length){x y:List FC}(A:l[j+1]?=aa x)(hy:l[j]?=aa y)(m:c x y<0):AT c a i j (gZ l (j+1) j):=by
 intro p q h1 h2 h3 u;have g:∀k,(gZ l (j+1) j)[k]?=if k=j then l[j+1]? else if k=j+1 then l[j]? else l[k]?:=λk=>gw (by omega) (by omega) k;by_cases b:q=j+1
 .subst b;by_cases p1:p=j
  .subst p1;exact(jj.of_lt hc v A hy m).get (by rw[g,bw rfl]) (by rw[g,aR (by omega),bw rfl])
  .exact(h p j h1 (by omega) (by omega) (by omega)).get (by rw[g,aR (by omega),aR (by omega)]) (by rw[g,aR (by omega),bw rfl])
 .have d:(gZ l (j+1) j)[q]?=l[q]?:=by rw[g,aR u,aR b]
  by_cases p1:p=j
  .subst p1;exact(h (p+1) q (by omega) (by omega) h3 b).get (by rw[g,bw rfl]) d
  by_cases s:p=j+1
  .subst s;exact(h j q z (by omega) h3 b).get (by rw[g,aR (by omega),bw rfl]) d
  .exact(h p q h1 h2 h3 b).get (by rw[g,aR p1,aR s]) d
theorem AT.front{a i:Nat}(h:AT c a i a l):Up c a (i+1) l:=λp q x y h1 h2 h3=>h p q h1 h2 (by omega) (by omega) x y
theorem AT.stop{a i j:Nat}(hc:sW W c)(g:∀r∈l,W r)(h:AT c a i (j+1) l)(m:a<=j)(s:j+1<=i)(hi:i<l.length)(b:jj c l j (j+1)):Up c a (i+1) l:=by
 intro p q x y h1 h2 h3;by_cases d:q=j+1
 .subst d;by_cases p1:p=j
  .subst p1;exact b x y
  .exact((h p j h1 (by omega) (by omega) (by omega)).trans hc g b (by omega)) x y
 .exact h p q h1 h2 (by omega) d x y
end
section
variable{tab:TB}{σ:gE}{sz:Nat}{H:aj}{b ep:Nat}{rows:List (List FC)}{cv:V}{W:List FC->Prop}{c:List FC->List FC->Int}
theorem RB.at(h:RB H b sz ep rows){i:Nat}(hi:i<rows.length):bg H sz ab (.c (.sl b 0 rows.length 0 ep sz)) (vi i)=aa (.c (.ptr b (i*sz) ep)):=by
 have:=h.idx (n:=rows.length) (c:=0) (k:=.i64) (o:=0) (i:=(i:Int)) (by omega) (by omega);rwa[ar7,Nat.zero_add]at this
theorem RB.ldi(h:RB H b sz ep rows)(hg:cd sz rows){i:Nat}(hi:i<rows.length):bF H (aa sz) (.c (.ptr b (i*sz) ep))=aa (.a (rows[i].map .f)):=h.ldr hg (aq2 hi)
theorem ajM(hT:tab σ.ins=aa (ug σ sz))(c6:Cv tab cv W c)(hc:sW W c){n a e:Nat}(hn:rows.length=n)(hl:n<=1000000000)(d:RB H b sz ep rows)(hg:cd sz rows)(hW:∀r∈rows,W r)(d5:a<=e)(d6:e<=n) :
  ∃r H',Ev tab (.fn σ.ins) [.c (.sl b 0 n 0 ep sz),vi a,vi e,cv] H r H'/\(r=.t []/\Fm b H H'/\∃l',RB H' b sz ep l'/\eL a e rows l'/\Up c a e l'):=by
 refine cz hT rfl λQ hQ=>?_;apply ai;simp[aM (n:=(a:Int)+1)];refine az ?_;refine bT (λm s=>∃(i:Nat) (t:T) (X:aj) (l:List (List FC)),s=⟨t,[],X⟩/\m=n+1-i/\a+1<=i/\(i<=e\/i=a+1)/\t.g 0=.c (.sl b 0 n 0 ep sz)/\t.g 1=vi a/\t.g 2=vi e/\t.g 3=cv/\t.g 8=vi i/\
  Fm b H X/\RB X b sz ep l/\eL a e rows l/\Up c a i l) _
  ⟨a+1,_,H,rows,rfl,rfl,by omega,.inr rfl,by simp,by simp,by simp,by simp,by simp,Fm.refl H,d,eL.refl _ _ _,Up.one (by omega)⟩ ?_
 rintro m s ⟨i,t,X,l,rfl,rfl,d7,hi,B,E,L,M,I,v,d,g,c5⟩ ih;have A:=g.len;apply an;apply ai;simp[I,L];by_cases b_:i<e
 case neg=>
  refine aA (by simp[b_]) ?_;refine aS (k':=[]) rfl ?_;exact cW (hQ _ _ _ rfl rfl ⟨rfl,v,l,d,g,c5.mono (aq9 _) (by omega)⟩)
 refine au (by simp[b_]) (aJ ?_);apply an;refine az ?_;apply ai;simp[I];refine az ?_;refine bT (λm s=>∃(j:Nat) (t:T) (S:aj) (q:List (List FC)),s=⟨t,[],S⟩/\j=m/\a<=j/\j<=i/\t.g 0=.c (.sl b 0 n 0 ep sz)/\t.g 1=vi a/\t.g 2=vi e/\t.g 3=cv/\t.g 8=vi i/\t.g 9=vi j/\
  Fm b H S/\RB S b sz ep q/\eL a e rows q/\AT c a i j q) i
  ⟨i,_,X,l,rfl,rfl,by omega,by omega,by simp[B],by simp[E],by simp[L],by simp[M],by simp[I],by simp,v,d,g,AT.start c5⟩ ?_
 rintro m s ⟨j,t,S,q,rfl,rfl,d8,b7,B,E,L,M,I,Y,v,d,g,z⟩ c_;have A:=g.len;have x:=g.qD hg;have K:∀r∈q,W r:=λr hr=>hW r (g.1.mem_iff.1 hr);have stop:Up c a (i+1) q->∀t:T,t.g 0=.c (.sl b 0 n 0 ep sz)->t.g 1=vi a->t.g 2=vi e->t.g 3=cv->t.g 8=vi i->∀U,Fm b H U->RB U b sz ep q->
   WP tab σ.ins ab [.inBlock 1,.code (vC),.inLoop (Bg sz),.inBlock 0] ⟨t,[],U⟩ Q:=by
  intro hp t B E L M I U v d;refine ay (aq (.inl rfl) ?_);simp[I,aM (n:=(i:Int)+1)];exact ih (n+1-(i+1)) _ (by omega) ⟨i+1,_,U,q,rfl,rfl,by omega,.inl (by omega),by simp[B],by simp[E],by simp[L],by simp[M],by simp,v,d,g,hp⟩
 apply an;apply ai;by_cases hj:j=a
 .subst hj;simp[Y,E];refine aA (by simp) ?_;refine aS (k':=[.inBlock 1,.code (vC),.inLoop (Bg sz),.inBlock 0]) rfl ?_;exact stop z.front _ (by simp[B]) (by simp[E]) (by simp[L]) (by simp[M]) (by simp[I]) _ v d
 obtain⟨k,rfl⟩:∃k,j=k+1:=⟨j-1,by omega⟩
 have O:k+1<q.length:=by omega
 have c1:((k+1:Nat):Int)=(k:Int)+1:=by omega
 have N:=d.at O;have i0:=d.at (show k<q.length by omega);have l1:=d.ldi x O;have l0:=d.ldi x (show k<q.length by omega);rw[A,hn]at N i0;rw[c1]at N Y;obtain⟨F,ar,J,a8,c9⟩:=c6 q[k+1] q[k] (K _ (aq7 _)) (K _ (aq7 _)) S;have he:=c9.eq;have gt:(a:Int)<(k:Int)+1:=by omega
 simp[Y,B,E,M,gt,N,i0,l1,l0,a8,he,-aD,aM (n:=(k:Int))];by_cases y:c q[k+1] q[k]<0
 case neg=>
  refine aA (by simp[y]) ?_;refine aS (k':=[.inBlock 1,.code (vC),.inLoop (Bg sz),.inBlock 0]) rfl ?_;exact stop (z.stop hc K (by omega) b7 (by omega) (jj.of_le (aq2 (by omega)) (aq2 O) y)) _ (by simp[B]) (by simp[E]) (by simp[L]) (by simp[M]) (by simp[I]) _ (v.trans (Fm.push _ _)) (d.push _)
 refine au (by simp[y]) (aJ ?_);have w1:q[k+1].length=sz:=x _ (aq7 _);have w0:q[k].length=sz:=x _ (aq7 _);have u:=d.push J;obtain⟨HJ,Z⟩:=aQ (S++J);rw[<-Z]at u ⊢;have a_:Fm b H HJ:=by rw[Z];exact v.trans (Fm.push _ _)
 have N:=u.at O;have i0:=u.at (show k<q.length by omega);have l1:=u.ldi x O;have l0:=u.ldi x (show k<q.length by omega);obtain⟨U,H4,s1,r1,s2,r2,f2⟩:=u.swap x O (show k<q.length by omega);have i2:=r1.at (show k<(q.set (k+1) q[k]).length by simp;omega);rw[arQ]at i2;rw[A,hn]at N i0 i2;rw[c1]at N;apply an;refine az ?_;refine aq (.inl rfl) ?_;simp[Y,B,N,i0,i2,l1,l0,s1,s2,w1,w0,-aD,-bC,aM (n:=(k:Int))];refine ay ?_;refine aq (.inl rfl) ?_;simp[Y,aM (n:=(k:Int))];exact c_ k _ (by omega) ⟨k,_,H4,gZ q (k+1) k,rfl,rfl,by omega,by omega,by simp[B],by simp[E],by simp[L],by simp[M],by simp[I],by simp,a_.trans f2,r2,
  g.trans (fg (by omega) (by omega) (by omega) (by omega) (by omega)),z.step hc K (by omega) b7 (by omega) (aq2 O) (aq2 (by omega)) y⟩
end
section
variable{tab:TB}{σ:gE}{sz:Nat}{H:aj}{b ep:Nat}{rows:List (List FC)}{cv:V}{W:List FC->Prop}{c:List FC->List FC->Int}
theorem RB.gZ(h:RB H b sz ep rows)(hg:cd sz rows){n i j:Nat}(s:rows.length=n)(hi:i<n)(l:j<n):∃(x y:List FC) (d g:aj),rows[i]?=aa x/\rows[j]?=aa y/\
  bg H sz ab (.c (.sl b 0 n 0 ep sz)) (vi i)=aa (.c (.ptr b (i*sz) ep))/\bg H sz ab (.c (.sl b 0 n 0 ep sz)) (vi j)=aa (.c (.ptr b (j*sz) ep))/\
  bF H (aa sz) (.c (.ptr b (i*sz) ep))=aa (.a (x.map .f))/\bF H (aa sz) (.c (.ptr b (j*sz) ep))=aa (.a (y.map .f))/\x.length=sz/\y.length=sz/\
  dC H (.ptr b (i*sz) ep) (y.map .f)=aa d/\bg d sz ab (.c (.sl b 0 n 0 ep sz)) (vi j)=aa (.c (.ptr b (j*sz) ep))/\dC d (.ptr b (j*sz) ep) (x.map .f)=aa g/\RB g b sz ep (gZ rows i j)/\Fm b H g:=by
 subst s;obtain⟨d,g,z,u,A,v,q⟩:=h.swap hg hi l;have m:=u.at (show j<(rows.set i rows[j]).length by simpa using l);rw[arQ]at m;exact⟨rows[i],rows[j],d,g,aq2 hi,aq2 l,h.at hi,h.at l,h.ldi hg hi,h.ldi hg l,hg _ (aq7 _),hg _ (aq7 _),z,m,A,v,q⟩
theorem RB.ask(h:RB H b sz ep rows)(hg:cd sz rows)(l:Cv tab cv W c)(g:∀r∈rows,W r){n i j:Nat}(q:rows.length=n)(hi:i<n)(m:j<n):∃(x y:List FC) (F:Nat) (d:List V) (J:aj),rows[i]?=aa x/\rows[j]?=aa y/\
  bg H sz ab (.c (.sl b 0 n 0 ep sz)) (vi i)=aa (.c (.ptr b (i*sz) ep))/\bg H sz ab (.c (.sl b 0 n 0 ep sz)) (vi j)=aa (.c (.ptr b (j*sz) ep))/\
  bF H (aa sz) (.c (.ptr b (i*sz) ep))=aa (.a (x.map .f))/\bF H (aa sz) (.c (.ptr b (j*sz) ep))=aa (.a (y.map .f))/\
  bX cv [.a (x.map .f),.a (y.map .f)]=aa (.fn F,d)/\Ev tab (.fn F) d H=E2 (vi (c x y)) (H++J)/\W x/\W y:=by
 subst q;obtain⟨F,d,J,h1,h2⟩:=l rows[i] rows[j] (g _ (aq7 _)) (g _ (aq7 _)) H;exact⟨rows[i],rows[j],F,d,J,aq2 hi,aq2 m,h.at hi,h.at m,h.ldi hg hi,h.ldi hg m,h1,h2.eq,g _ (aq7 _),g _ (aq7 _)⟩
theorem alh(L:tab σ.rev=aa (BF σ sz)){n a e:Nat}(X:rows.length=n)(hl:n<=1000000000)(q:RB H b sz ep rows)(O:cd sz rows)(M:a<e)(N:e<=n) :
  ∃r H',Ev tab (.fn σ.rev) [.c (.sl b 0 n 0 ep sz),vi a,vi e,cv] H r H'/\(r=.t []/\Fm b H H'/\∃l',RB H' b sz ep l'/\eL a e rows l'):=by
 refine cz L rfl λQ K=>?_;obtain⟨d,rfl⟩:∃d,e=d+1:=⟨e-1,by omega⟩
 apply ai;simp;apply ai;simp[aM (n:=(d:Int))];refine az ?_;refine bT (λm s=>∃(i j:Nat) (t:T) (A:aj) (l:List (List FC)),s=⟨t,[],A⟩/\m=n+1-i/\a<=i/\j<=d/\i<=j+1/\t.g 0=.c (.sl b 0 n 0 ep sz)/\t.g 8=vi i/\t.g 9=vi j/\
  Fm b H A/\RB A b sz ep l/\eL a (d+1) rows l) _
  ⟨a,d,_,H,rows,rfl,rfl,by omega,by omega,by omega,by simp,by simp,by simp,Fm.refl H,q,eL.refl _ _ _⟩ ?_
 rintro m s ⟨i,j,t,A,l,rfl,rfl,S,W,U,F,B,E,u,q,g⟩ Z;have v:=g.len;apply an;apply ai;simp[B,E];by_cases z:i<j
 case neg=>
  refine aA (by simp[z]) ?_;refine aS (k':=[]) rfl ?_;exact cW (K _ _ _ rfl rfl ⟨rfl,u,l,q,g⟩)
 refine au (by simp[z]) (aJ ?_);obtain⟨x,y,H2,I,-,-,Y,j1,l1,l2,w1,w2,s1,j2,s2,r2,J⟩:=q.gZ (g.qD O) (v.trans X) (i:=i) (j:=j) (by omega) (by omega);refine az ?_;apply ai;simp[F,B,E,Y,j1,l1,l2,w1,w2,s1,j2,s2,-aD,-bC];apply ai;simp[B,aM (n:=(i:Int)+1)];refine aq (.inl rfl) ?_;simp[E,aM (n:=(j:Int)-1)];refine ay ?_;refine Z (n+1-(i+1)) _ (by omega) ⟨i+1,j-1,_,I,gZ l i j,rfl,rfl,by omega,by omega,by omega,by simp[F],by simp,by simp;omega,u.trans J,r2,g.trans (fg (by omega) (by omega) (by omega) (by omega) (by omega))⟩
def NB(H:aj)(p:Nat):Prop:=∃k:Int,H[p]?=aa (.box [.f (fi k)] 0)
theorem NB.push{p:Nat}(h:NB H p)(J:aj):NB (H++J) p:=by
 obtain⟨k,h⟩:=h;exact⟨k,by rw[aq1 (av h)];exact h⟩
theorem akb(z:tab σ.ord=aa (rW σ sz))(m:Cv tab cv W c){n p i j:Nat}(K:rows.length=n)(s:RB H b sz ep rows)(E:cd sz rows)(A:∀r∈rows,W r)(hi:i<n)(I:j<n)(v:NB H p)(L:p≠b) :
  ∃r H',Ev tab (.fn σ.ord) [.c (.sl b 0 n 0 ep sz),vi i,vi j,.c (.ptr p 0 0),cv] H r H'/\((r=.t [vi i,vi j]\/r=.t [vi j,vi i])/\Fm p H H'/\NB H' p):=by
 refine cz z rfl λQ u=>?_;obtain⟨x,y,F,U,J,-,-,M,N,O,S,d,B,-,-⟩:=s.ask E m A K I hi;obtain⟨k,l⟩:=v.push J;have q:=av l;apply ai;simp;apply an;apply ai;simp[M,N,O,S,d,B,-aD];by_cases g:c x y<0
 .refine au (by simp[g]) (ai ?_);simp[l];apply ai;simp;refine aB (u _ _ (.t [vi j,vi i]) rfl (by simp[Km.results,aX]) ⟨.inr rfl,?_,?_⟩)
  .exact(Fm.push _ _).trans (Fm.set _ _)
  .exact⟨_,aq6 q⟩
 .refine aA (by simp[g]) (aJ (ai ?_));simp;exact aB (u _ _ (.t [vi i,vi j]) rfl (by simp[Km.results,aX]) ⟨.inl rfl,Fm.push _ _,v.push J⟩)
theorem Zg(Z:tab σ.K9=aa (uC σ sz))(X:tab σ.ord=aa (rW σ sz))(l:Cv tab cv W c){n p i j k:Nat}(h:rows.length=n)(d:RB H b sz ep rows)(e:cd sz rows)(a:∀r∈rows,W r)(hi:i<n)(m:j<n)(f:k<n)(s:NB H p)(g:p≠b) :
  ∃r H',Ev tab (.fn σ.K9) [.c (.sl b 0 n 0 ep sz),vi i,vi j,vi k,.c (.ptr p 0 0),cv] H r H'/\((∃q:Nat,r=vi q/\(q=i\/q=j\/q=k))/\Fm p H H'/\NB H' p):=by
 have key:∀{H:aj} {i j:Nat},RB H b sz ep rows->NB H p->i<n->j<n->∃(x y:Nat) (H':aj),Ev tab (.fn σ.ord) [.c (.sl b 0 n 0 ep sz),vi i,vi j,.c (.ptr p 0 0),cv] H=E2 (.t [vi x,vi y]) H'/\(x=i/\y=j\/x=j/\y=i)/\Fm p H H'/\NB H' p:=by
  intro H i j d s hi m;obtain⟨r,H',A,o,B,z⟩:=akb X l h d e a hi m s g;rcases o with rfl|rfl
  .exact⟨i,j,H',A.eq,.inl ⟨rfl,rfl⟩,B,z⟩
  .exact⟨j,i,H',A.eq,.inr ⟨rfl,rfl⟩,B,z⟩
 obtain⟨w,y1,I,N,o1,u,K⟩:=key d s hi m;have E:RB I b sz ep rows:=u.get d (Ne.symm g);obtain⟨x2,y2,J,O,o2,v,L⟩:=key E K (show y1<n by omega) f;have t:RB J b sz ep rows:=v.get E (Ne.symm g);obtain⟨x3,F,H3,S,o3,U,M⟩:=key t L (show w<n by omega) (show x2<n by omega);refine cz Z rfl λQ Y=>?_;apply ai;simp;apply ai;simp[N];apply ai;simp[O];apply ai;simp[S];apply ai;simp;refine aB (Y _ _ (vi F) rfl (by simp[Km.results,aX]) ⟨⟨F,rfl,by omega⟩,u.trans (v.trans U),M⟩)
theorem vE(y:tab σ.pN=aa (rN σ sz))(u:tab σ.K9=aa (uC σ sz))(v:tab σ.ord=aa (rW σ sz))(l:Cv tab cv W c){n p i:Nat}(F:rows.length=n)(K:n<=1000000000)(s:RB H b sz ep rows)(E:cd sz rows)(z:∀r∈rows,W r)(J:0<i)(hi:i+1<n)(I:NB H p)(m:p≠b) :
  ∃r H',Ev tab (.fn σ.pN) [.c (.sl b 0 n 0 ep sz),vi i,.c (.ptr p 0 0),cv] H r H'/\((∃q:Nat,r=vi q/\i<=q+1/\q<=i+1)/\Fm p H H'/\NB H' p):=by
 obtain⟨d,rfl⟩:∃d,i=d+1:=⟨i-1,by omega⟩
 obtain⟨r,H',g,⟨q,rfl,L⟩,B,A⟩:=Zg (i:=d) (j:=d+1) (k:=d+1+1) u v l F s E z (by omega) (by omega) hi I m;refine cz y rfl λQ x=>?_;have g:=g.eq;simp at g;apply ai;simp;apply ai;simp[aM (n:=(d:Int)),aM (n:=(d:Int)+1+1),g];exact aB (x _ _ (vi q) rfl (by simp[Km.results,aX]) ⟨⟨q,rfl,by omega,by omega⟩,B,A⟩)
def Kp(H H':aj):Prop:=H.length<=H'.length/\∀b:Nat,b<H.length->H'[b]?=H[b]?
theorem Kp.fm{b:Nat}{H H':aj}(h:Kp H H'):Fm b H H':=⟨h.1,λd _ l=>h.2 d l⟩
theorem Kp.push(H J:aj):Kp H (H++J):=⟨by simp,λb l=>aq1 l⟩
theorem Kp.next{H H' b:aj}{p:Nat}(h:Kp H H')(j:H.length<=p)(g:Fm p H' b):Kp H b:=⟨arB h.1 g.1,λd l=>(g.2 d (by omega) (asg l h.1)).trans (h.2 d l)⟩
theorem Kp.rb{H H':aj}{b sz ep:Nat}{rows:List (List FC)}(h:Kp H H')(hb:RB H b sz ep rows):RB H' b sz ep rows:=by
 unfold RB at *;rw[h.2 b (av hb)];exact hb
theorem agL{a b:Nat}(s:0<b)(m:a<=9223372036854775807):bL .quo (vi a) (vi b)=aa (vi ((a / b:Nat):Int)):=by
 have g:(a / b:Nat)<=a:=Nat.div_le_self a b;obtain⟨q,d⟩:=aQ (a / b);have j:((a:Int) / b)=(q:Int):=by rw[d];simp
 have l:q<=a:=by rw[d];exact g
 rw[<-d,mT (by omega),Int.tdiv_eq_ediv_of_nonneg (by omega),j,aM]
theorem ak'(hT:tab σ.LL=aa (BB σ sz))(Z:tab σ.pN=aa (rN σ sz))(F:tab σ.K9=aa (uC σ sz))(I:tab σ.ord=aa (rW σ sz))(v:Cv tab cv W c){n a e:Nat}(M:rows.length=n)(hl:n<=1000000000)(m:RB H b sz ep rows)(K:cd sz rows)(J:∀r∈rows,W r)(b_:a+8<=e)(c6:e<=n) :
  ∃r H',Ev tab (.fn σ.LL) [.c (.sl b 0 n 0 ep sz),vi a,vi e,cv] H r H'/\((∃(q:Nat) (h:Int),r=.t [vi q,vi h]/\a<=q/\q<e)/\Kp H H'):=by
 obtain⟨L,rfl⟩:∃L,e=a+L:=⟨e-a,by omega⟩
 obtain⟨d,hd⟩:=aQ (L / 4);have N:bL .quo (vi (L:Int)) (vi 4)=aa (vi (d:Int)):=by
  have:=agL (a:=L) (b:=4) (by omega) (by omega);rw[hd];exact this
 have c5:=m.lt;have hw:IntKind.i64.wrap ((a:Int)+L-a)=L:=by rw[aM];omega
 refine cz hT rfl λQ hQ=>?_;have O:∀(t:T) (s:aj) (q:Nat),t.g 11=.c (.ptr H.length 0 0)->t.g 13=vi q->a<=q->q<a+L->NB s H.length->Kp H s->WP tab σ.LL ab [.code (Aq)] ⟨t,[],s⟩ Q:=by
  intro t s q u l X Y ⟨k,hk⟩ g;apply ai;simp[u,hk];refine az ?_;apply ai;simp;by_cases k1:k=0
  .refine au (by simp[k1]) (ai ?_);simp[l];exact aB (hQ _ _ (.t [vi q,vi 1]) rfl (by simp[Km.results,aX]) ⟨⟨q,1,rfl,X,Y⟩,g⟩)
  refine aA (by simp[k1]) ?_;apply ai;simp;by_cases k2:k=12
  .refine au (by simp[k2]) (ai ?_);simp[l];exact aB (hQ _ _ (.t [vi q,vi 2]) rfl (by simp[Km.results,aX]) ⟨⟨q,2,rfl,X,Y⟩,g⟩)
  refine aA (by simp[k2]) ?_;apply ai;simp[l];exact aB (hQ _ _ (.t [vi q,vi 0]) rfl (by simp[Km.results,aX]) ⟨⟨q,0,rfl,X,Y⟩,g⟩)
 have mid:∀(t:T) (s:aj) (i j k:Nat),t.g 0=.c (.sl b 0 n 0 ep sz)->t.g 3=cv->t.g 11=.c (.ptr H.length 0 0)->t.g 12=vi i->t.g 13=vi j->t.g 14=vi k->a<=i->i<a+L->a<=j->j<a+L->a<=k->k<a+L->NB s H.length->Kp H s->
   WP tab σ.LL ab [.code (ZR σ),.code (Aq)] ⟨t,[],s⟩ Q:=by
  intro t s i j k g0 g3 u S l U i1 i2 j1 j2 k1 k2 x g;obtain⟨r,H3,he,⟨q,rfl,N⟩,hf,a8⟩:=Zg (p:=H.length) (i:=i) (j:=j) (k:=k) F I v M (g.rb m) K J (by omega) (by omega) (by omega) x (by omega);have he:=he.eq;refine aq (.inl rfl) ?_;simp[g0,g3,u,S,l,U,he];exact O _ H3 q (by simp[u]) (by simp) (by omega) (by omega) a8 (g.next (aq9 _) hf)
 apply ai;simp;apply ai;simp[hw];apply ai;simp;apply ai;simp[N,aM (n:=(d:Int)),aM (n:=(a:Int)+d)];apply ai;simp[N,aM (n:=(d:Int)*2),aM (n:=(a:Int)+d*2)];apply ai;simp[N,aM (n:=(d:Int)*3),aM (n:=(a:Int)+d*3)];apply an;apply ai;simp;refine au (by simp;omega) ?_;apply an;apply ai;simp;have x:NB (H++[.box [.f (fi 0)] 0]) H.length:=⟨0,by simp⟩
 have g:Kp H (H++[.box [.f (fi 0)] 0]):=Kp.push _ _;by_cases b7:50<=L
 case neg=>
  refine aA (by simp;omega) (aJ ?_);exact mid _ _ (a+d) (a+d*2) (a+d*3) (by simp) (by simp) (by simp) (by simp) (by simp) (by simp) (by omega) (by omega) (by omega) (by omega) (by omega) (by omega) x g
 refine au (by simp;omega) ?_;obtain⟨r1,H1,A,⟨q1,rfl,c9⟩,f1,b1⟩:=vE (p:=H.length) (i:=a+d) Z F I v M hl (g.rb m) K J (by omega) (by omega) x (by omega);have y:=g.next (aq9 _) f1;obtain⟨r2,s,B,⟨q2,rfl,c_⟩,f2,b2⟩:=vE (p:=H.length) (i:=a+d*2) Z F I v M hl (y.rb m) K J (by omega) (by omega) b1 (by omega);have z:=y.next (aq9 _) f2;obtain⟨r3,H3,E,⟨q3,rfl,d5⟩,f3,b3⟩:=vE (p:=H.length) (i:=a+d*3) Z F I v M hl (z.rb m) K J (by omega) (by omega) b2 (by omega);have a_:=z.next (aq9 _) f3;have A:=A.eq;have B:=B.eq;have E:=E.eq;simp at A B E;apply ai;simp[A];apply ai;simp[B];refine aq (.inl rfl) ?_;simp[E];exact mid _ _ q1 q2 q3 (by simp) (by simp) (by simp) (by simp) (by simp) (by simp) (by omega) (by omega) (by omega) (by omega) (by omega) (by omega) b3 a_
end
section
variable{tab:TB}{σ:gE}{sz:Nat}{cv:V}{W:List FC->Prop}{c:List FC->List FC->Int}
theorem ZI{n a e i j ep b:Nat}{rows:List (List FC)}{p:List FC}{H0:aj}{k:List cO}{Q:Option ax->St->Prop}(S:Cv tab cv W c)(hn:rows.length=n)(hl:n<=1000000000)(hg:cd sz rows)(hW:∀r∈rows,W r)
  {t:T} {H:aj} (a8:a<i) (b7:i<=j+1) (b_:j<e) (a_:e<=n) (hp:rows[a]?=aa p)
  (A:t.g 0=.c (.sl b 0 n 0 ep sz)) (B:t.g 1=vi a) (E:t.g 4=cv) (v:t.g 12=vi i) (u:t.g 13=vi j) (l:Fm b H0 H) (g:RB H b sz ep rows)
  (next:∀(t:T) (H:aj) (K:Nat),(i<=K/\K<=j+1)->(∀(q:Nat) x,i<=q->q<K->rows[q]?=aa x->c x p<0)->(j<K\/∀x,rows[K]?=aa x->¬ c x p<0)->
   t.g 0=.c (.sl b 0 n 0 ep sz)->t.g 1=vi a->t.g 4=cv->t.g 12=vi K->t.g 13=vi j->Fm b H0 H->RB H b sz ep rows->WP tab σ.part ab k ⟨t,[],H⟩ Q) :
  WP tab σ.part ab (.code (ZF sz)::k) ⟨t,[],H⟩ Q:=by
 refine az ?_;refine bT (λm s=>∃(q:Nat) (t:T) (N:aj),s=⟨t,[],N⟩/\(q+m=j+1/\i<=q)/\(∀(r:Nat) x,i<=r->r<q->rows[r]?=aa x->c x p<0)/\
   t.g 0=.c (.sl b 0 n 0 ep sz)/\t.g 1=vi a/\t.g 4=cv/\t.g 12=vi q/\t.g 13=vi j/\Fm b H0 N/\RB N b sz ep rows) (j+1-i)
  ⟨i,_,H,rfl,by omega,λr x Y Z=>by omega,A,B,E,v,u,l,g⟩ ?_
 rintro m s ⟨q,t,N,rfl,hm,d,A,B,E,v,u,l,g⟩ ih;apply an;apply ai;by_cases M:q<=j
 case neg=>
  simp[v,u,M];refine aA (by simp) ?_;refine aS (k':=k) rfl ?_;exact next _ _ q (by omega) d (.inl (by omega)) (by simp[A]) (by simp[B]) (by simp[E]) (by simp[v]) (by simp[u]) l g
 obtain⟨x,y,F,ar,J,U,X,i1,j1,l1,l2,L,he,-,-⟩:=g.ask hg S hW hn (i:=q) (j:=a) (by omega) (by omega);simp[v,u,M,A,B,E,i1,j1,l1,l2,L,he,-aD];have ep:p=y:=by rw[hp]at X;exact asN X
 subst ep;by_cases O:c x p<0
 case neg=>
  refine aA (by simp[O]) ?_;refine aS (k':=k) rfl ?_;refine next _ _ q (by omega) d (.inr λz I=>?_) (by simp[A]) (by simp[B]) (by simp[E]) (by simp[v]) (by simp[u]) (l.trans (Fm.push _ _)) (g.push _)
  rw[U]at I;cases I;exact O
 refine au (by simp[O]) (aJ ?_);refine az (aq (.inl rfl) ?_);simp[v,u,aM (n:=(q:Int)+1)];refine ay (ih (m-1) _ (by omega) ⟨q+1,_,_,rfl,by omega,λr z Y Z I=>?_,by simp[A],by simp[B],by simp[E],by simp,by simp[u],l.trans (Fm.push _ _),g.push _⟩);by_cases hr:r=q
 .subst hr;rw[U]at I;cases I;exact O
 .exact d r z (by omega) (by omega) I
theorem ZG{n a e i j ep b:Nat}{rows:List (List FC)}{p:List FC}{H0:aj}{k:List cO}{Q:Option ax->St->Prop}(S:Cv tab cv W c)(hn:rows.length=n)(hl:n<=1000000000)(hg:cd sz rows)(hW:∀r∈rows,W r)
  {t:T} {H:aj} (a8:a<i) (b7:i<=j+1) (b_:j<e) (a_:e<=n) (hp:rows[a]?=aa p)
  (A:t.g 0=.c (.sl b 0 n 0 ep sz)) (B:t.g 1=vi a) (E:t.g 4=cv) (u:t.g 12=vi i) (v:t.g 13=vi j) (l:Fm b H0 H) (g:RB H b sz ep rows)
  (next:∀(t:T) (H:aj) (K:Nat),(K<=j/\i<=K+1)->(∀(q:Nat) x,K<q->q<=j->rows[q]?=aa x->¬ c x p<0)->(K<i\/∀x,rows[K]?=aa x->¬ ¬ c x p<0)->
   t.g 0=.c (.sl b 0 n 0 ep sz)->t.g 1=vi a->t.g 4=cv->t.g 12=vi i->t.g 13=vi K->Fm b H0 H->RB H b sz ep rows->WP tab σ.part ab k ⟨t,[],H⟩ Q) :
  WP tab σ.part ab (.code (Bo sz)::k) ⟨t,[],H⟩ Q:=by
 refine az ?_;refine bT (λm s=>∃(q:Nat) (t:T) (N:aj),s=⟨t,[],N⟩/\(q+1=i+m/\q<=j)/\(∀(r:Nat) x,q<r->r<=j->rows[r]?=aa x->¬ c x p<0)/\
   t.g 0=.c (.sl b 0 n 0 ep sz)/\t.g 1=vi a/\t.g 4=cv/\t.g 12=vi i/\t.g 13=vi q/\Fm b H0 N/\RB N b sz ep rows) (j+1-i)
  ⟨j,_,H,rfl,by omega,λr x Y Z=>by omega,A,B,E,u,v,l,g⟩ ?_
 rintro m s ⟨q,t,N,rfl,hm,d,A,B,E,u,v,l,g⟩ ih;apply an;apply ai;by_cases M:i<=q
 case neg=>
  simp[u,v,M];refine aA (by simp) ?_;refine aS (k':=k) rfl ?_;exact next _ _ q (by omega) d (.inl (by omega)) (by simp[A]) (by simp[B]) (by simp[E]) (by simp[u]) (by simp[v]) l g
 obtain⟨x,y,F,ar,J,U,X,i1,j1,l1,l2,L,he,-,-⟩:=g.ask hg S hW hn (i:=q) (j:=a) (by omega) (by omega);simp[u,v,M,A,B,E,i1,j1,l1,l2,L,he,-aD];have ep:p=y:=by rw[hp]at X;exact asN X
 subst ep;by_cases O:c x p<0
 case pos=>
  refine aA (by simp[O]) ?_;refine aS (k':=k) rfl ?_;refine next _ _ q (by omega) d (.inr λz I=>?_) (by simp[A]) (by simp[B]) (by simp[E]) (by simp[u]) (by simp[v]) (l.trans (Fm.push _ _)) (g.push _)
  rw[U]at I;cases I;exact λh=>h O
 refine au (by simp[O]) (aJ ?_);refine az (aq (.inl rfl) ?_);simp[u,v,aM (n:=(q:Int)-1)];refine ay (ih (m-1) _ (by omega) ⟨q-1,_,_,rfl,by omega,λr z Y Z I=>?_,by simp[A],by simp[B],by simp[E],by simp[u],by simp;omega,l.trans (Fm.push _ _),g.push _⟩);by_cases hr:r=q
 .subst hr;rw[U]at I;cases I;exact O
 .exact d r z (by omega) (by omega) I
theorem ZJ{n a e i j ep b:Nat}{rows:List (List FC)}{p:List FC}{H0:aj}{k:List cO}{Q:Option ax->St->Prop}(S:Cv tab cv W c)(hn:rows.length=n)(hl:n<=1000000000)(hg:cd sz rows)(hW:∀r∈rows,W r)
  {t:T} {H:aj} (a8:a<i) (b7:i<=j+1) (b_:j<e) (a_:e<=n) (hp:rows[a]?=aa p)
  (A:t.g 0=.c (.sl b 0 n 0 ep sz)) (B:t.g 1=vi a) (E:t.g 4=cv) (v:t.g 12=vi i) (u:t.g 13=vi j) (l:Fm b H0 H) (g:RB H b sz ep rows)
  (next:∀(t:T) (H:aj) (K:Nat),(i<=K/\K<=j+1)->(∀(q:Nat) x,i<=q->q<K->rows[q]?=aa x->c x p<0)->(j<K\/∀x,rows[K]?=aa x->¬ c x p<0)->
   t.g 0=.c (.sl b 0 n 0 ep sz)->t.g 1=vi a->t.g 4=cv->t.g 12=vi K->t.g 13=vi j->Fm b H0 H->RB H b sz ep rows->WP tab σ.part ab k ⟨t,[],H⟩ Q) :
  WP tab σ.part ab (.code (Bp sz)::k) ⟨t,[],H⟩ Q:=by
 refine az ?_;refine bT (λm s=>∃(q:Nat) (t:T) (N:aj),s=⟨t,[],N⟩/\(q+m=j+1/\i<=q)/\(∀(r:Nat) x,i<=r->r<q->rows[r]?=aa x->c x p<0)/\
   t.g 0=.c (.sl b 0 n 0 ep sz)/\t.g 1=vi a/\t.g 4=cv/\t.g 12=vi q/\t.g 13=vi j/\Fm b H0 N/\RB N b sz ep rows) (j+1-i)
  ⟨i,_,H,rfl,by omega,λr x Y Z=>by omega,A,B,E,v,u,l,g⟩ ?_
 rintro m s ⟨q,t,N,rfl,hm,d,A,B,E,v,u,l,g⟩ ih;apply an;apply ai;by_cases M:q<=j
 case neg=>
  simp[v,u,M];refine aA (by simp) ?_;refine aS (k':=k) rfl ?_;exact next _ _ q (by omega) d (.inl (by omega)) (by simp[A]) (by simp[B]) (by simp[E]) (by simp[v]) (by simp[u]) l g
 obtain⟨x,y,F,ar,J,U,X,i1,j1,l1,l2,L,he,-,-⟩:=g.ask hg S hW hn (i:=q) (j:=a) (by omega) (by omega);simp[v,u,M,A,B,E,i1,j1,l1,l2,L,he,-aD];have ep:p=y:=by rw[hp]at X;exact asN X
 subst ep;by_cases O:c x p<0
 case neg=>
  refine aA (by simp[O]) ?_;refine aS (k':=k) rfl ?_;refine next _ _ q (by omega) d (.inr λz I=>?_) (by simp[A]) (by simp[B]) (by simp[E]) (by simp[v]) (by simp[u]) (l.trans (Fm.push _ _)) (g.push _)
  rw[U]at I;cases I;exact O
 refine au (by simp[O]) (aJ ?_);refine az (aq (.inl rfl) ?_);simp[v,u,aM (n:=(q:Int)+1)];refine ay (ih (m-1) _ (by omega) ⟨q+1,_,_,rfl,by omega,λr z Y Z I=>?_,by simp[A],by simp[B],by simp[E],by simp,by simp[u],l.trans (Fm.push _ _),g.push _⟩);by_cases hr:r=q
 .subst hr;rw[U]at I;cases I;exact O
 .exact d r z (by omega) (by omega) I
theorem ZH{n a e i j ep b:Nat}{rows:List (List FC)}{p:List FC}{H0:aj}{k:List cO}{Q:Option ax->St->Prop}(S:Cv tab cv W c)(hn:rows.length=n)(hl:n<=1000000000)(hg:cd sz rows)(hW:∀r∈rows,W r)
  {t:T} {H:aj} (a8:a<i) (b7:i<=j+1) (b_:j<e) (a_:e<=n) (hp:rows[a]?=aa p)
  (A:t.g 0=.c (.sl b 0 n 0 ep sz)) (B:t.g 1=vi a) (E:t.g 4=cv) (u:t.g 12=vi i) (v:t.g 13=vi j) (l:Fm b H0 H) (g:RB H b sz ep rows)
  (next:∀(t:T) (H:aj) (K:Nat),(K<=j/\i<=K+1)->(∀(q:Nat) x,K<q->q<=j->rows[q]?=aa x->¬ c x p<0)->(K<i\/∀x,rows[K]?=aa x->¬ ¬ c x p<0)->
   t.g 0=.c (.sl b 0 n 0 ep sz)->t.g 1=vi a->t.g 4=cv->t.g 12=vi i->t.g 13=vi K->Fm b H0 H->RB H b sz ep rows->WP tab σ.part ab k ⟨t,[],H⟩ Q) :
  WP tab σ.part ab (.code (Bq sz)::k) ⟨t,[],H⟩ Q:=by
 refine az ?_;refine bT (λm s=>∃(q:Nat) (t:T) (N:aj),s=⟨t,[],N⟩/\(q+1=i+m/\q<=j)/\(∀(r:Nat) x,q<r->r<=j->rows[r]?=aa x->¬ c x p<0)/\
   t.g 0=.c (.sl b 0 n 0 ep sz)/\t.g 1=vi a/\t.g 4=cv/\t.g 12=vi i/\t.g 13=vi q/\Fm b H0 N/\RB N b sz ep rows) (j+1-i)
  ⟨j,_,H,rfl,by omega,λr x Y Z=>by omega,A,B,E,u,v,l,g⟩ ?_
 rintro m s ⟨q,t,N,rfl,hm,d,A,B,E,u,v,l,g⟩ ih;apply an;apply ai;by_cases M:i<=q
 case neg=>
  simp[u,v,M];refine aA (by simp) ?_;refine aS (k':=k) rfl ?_;exact next _ _ q (by omega) d (.inl (by omega)) (by simp[A]) (by simp[B]) (by simp[E]) (by simp[u]) (by simp[v]) l g
 obtain⟨x,y,F,ar,J,U,X,i1,j1,l1,l2,L,he,-,-⟩:=g.ask hg S hW hn (i:=q) (j:=a) (by omega) (by omega);simp[u,v,M,A,B,E,i1,j1,l1,l2,L,he,-aD];have ep:p=y:=by rw[hp]at X;exact asN X
 subst ep;by_cases O:c x p<0
 case pos=>
  refine aA (by simp[O]) ?_;refine aS (k':=k) rfl ?_;refine next _ _ q (by omega) d (.inr λz I=>?_) (by simp[A]) (by simp[B]) (by simp[E]) (by simp[u]) (by simp[v]) (l.trans (Fm.push _ _)) (g.push _)
  rw[U]at I;cases I;exact λh=>h O
 refine au (by simp[O]) (aJ ?_);refine az (aq (.inl rfl) ?_);simp[u,v,aM (n:=(q:Int)-1)];refine ay (ih (m-1) _ (by omega) ⟨q-1,_,_,rfl,by omega,λr z Y Z I=>?_,by simp[A],by simp[B],by simp[E],by simp[u],by simp;omega,l.trans (Fm.push _ _),g.push _⟩);by_cases hr:r=q
 .subst hr;rw[U]at I;cases I;exact O
 .exact d r z (by omega) (by omega) I
theorem akU{n a e i j ep b:Nat}{rows:List (List FC)}{p:List FC}{H0:aj}{k:List cO}{Q:Option ax->St->Prop}(S:Cv tab cv W c)(hn:rows.length=n)(hl:n<=1000000000)(hg:cd sz rows)(hW:∀r∈rows,W r)
  {t:T} {H:aj} (a8:a<i) (b7:i<=j+1) (b_:j<e) (a_:e<=n) (hp:rows[a]?=aa p)
  (A:t.g 0=.c (.sl b 0 n 0 ep sz)) (B:t.g 1=vi a) (E:t.g 4=cv) (v:t.g 11=vi i) (u:t.g 12=vi j) (l:Fm b H0 H) (g:RB H b sz ep rows)
  (next:∀(t:T) (H:aj) (K:Nat),(i<=K/\K<=j+1)->(∀(q:Nat) x,i<=q->q<K->rows[q]?=aa x->¬ c p x<0)->(j<K\/∀x,rows[K]?=aa x->¬ ¬ c p x<0)->
   t.g 0=.c (.sl b 0 n 0 ep sz)->t.g 1=vi a->t.g 4=cv->t.g 11=vi K->t.g 12=vi j->Fm b H0 H->RB H b sz ep rows->WP tab σ.Bu ab k ⟨t,[],H⟩ Q) :
  WP tab σ.Bu ab (.code (ZO sz)::k) ⟨t,[],H⟩ Q:=by
 refine az ?_;refine bT (λm s=>∃(q:Nat) (t:T) (N:aj),s=⟨t,[],N⟩/\(q+m=j+1/\i<=q)/\(∀(r:Nat) x,i<=r->r<q->rows[r]?=aa x->¬ c p x<0)/\
   t.g 0=.c (.sl b 0 n 0 ep sz)/\t.g 1=vi a/\t.g 4=cv/\t.g 11=vi q/\t.g 12=vi j/\Fm b H0 N/\RB N b sz ep rows) (j+1-i)
  ⟨i,_,H,rfl,by omega,λr x Y Z=>by omega,A,B,E,v,u,l,g⟩ ?_
 rintro m s ⟨q,t,N,rfl,hm,d,A,B,E,v,u,l,g⟩ ih;apply an;apply ai;by_cases M:q<=j
 case neg=>
  simp[v,u,M];refine aA (by simp) ?_;refine aS (k':=k) rfl ?_;exact next _ _ q (by omega) d (.inl (by omega)) (by simp[A]) (by simp[B]) (by simp[E]) (by simp[v]) (by simp[u]) l g
 obtain⟨x,y,F,ar,J,U,X,i1,j1,l1,l2,L,he,-,-⟩:=g.ask hg S hW hn (i:=a) (j:=q) (by omega) (by omega);simp[v,u,M,A,B,E,i1,j1,l1,l2,L,he,-aD];have ep:p=x:=by rw[hp]at U;exact asN U
 subst ep;by_cases O:c p y<0
 case pos=>
  refine aA (by simp[O]) ?_;refine aS (k':=k) rfl ?_;refine next _ _ q (by omega) d (.inr λz I=>?_) (by simp[A]) (by simp[B]) (by simp[E]) (by simp[v]) (by simp[u]) (l.trans (Fm.push _ _)) (g.push _)
  rw[X]at I;cases I;exact λh=>h O
 refine au (by simp[O]) (aJ ?_);refine az (aq (.inl rfl) ?_);simp[v,u,aM (n:=(q:Int)+1)];refine ay (ih (m-1) _ (by omega) ⟨q+1,_,_,rfl,by omega,λr z Y Z I=>?_,by simp[A],by simp[B],by simp[E],by simp,by simp[u],l.trans (Fm.push _ _),g.push _⟩);by_cases hr:r=q
 .subst hr;rw[X]at I;cases I;exact O
 .exact d r z (by omega) (by omega) I
theorem akS{n a e i j ep b:Nat}{rows:List (List FC)}{p:List FC}{H0:aj}{k:List cO}{Q:Option ax->St->Prop}(S:Cv tab cv W c)(hn:rows.length=n)(hl:n<=1000000000)(hg:cd sz rows)(hW:∀r∈rows,W r)
  {t:T} {H:aj} (a8:a<i) (b7:i<=j+1) (b_:j<e) (a_:e<=n) (hp:rows[a]?=aa p)
  (A:t.g 0=.c (.sl b 0 n 0 ep sz)) (B:t.g 1=vi a) (E:t.g 4=cv) (u:t.g 11=vi i) (v:t.g 12=vi j) (l:Fm b H0 H) (g:RB H b sz ep rows)
  (next:∀(t:T) (H:aj) (K:Nat),(K<=j/\i<=K+1)->(∀(q:Nat) x,K<q->q<=j->rows[q]?=aa x->c p x<0)->(K<i\/∀x,rows[K]?=aa x->¬ c p x<0)->
   t.g 0=.c (.sl b 0 n 0 ep sz)->t.g 1=vi a->t.g 4=cv->t.g 11=vi i->t.g 12=vi K->Fm b H0 H->RB H b sz ep rows->WP tab σ.Bu ab k ⟨t,[],H⟩ Q) :
  WP tab σ.Bu ab (.code (ZP sz)::k) ⟨t,[],H⟩ Q:=by
 refine az ?_;refine bT (λm s=>∃(q:Nat) (t:T) (N:aj),s=⟨t,[],N⟩/\(q+1=i+m/\q<=j)/\(∀(r:Nat) x,q<r->r<=j->rows[r]?=aa x->c p x<0)/\
   t.g 0=.c (.sl b 0 n 0 ep sz)/\t.g 1=vi a/\t.g 4=cv/\t.g 11=vi i/\t.g 12=vi q/\Fm b H0 N/\RB N b sz ep rows) (j+1-i)
  ⟨j,_,H,rfl,by omega,λr x Y Z=>by omega,A,B,E,u,v,l,g⟩ ?_
 rintro m s ⟨q,t,N,rfl,hm,d,A,B,E,u,v,l,g⟩ ih;apply an;apply ai;by_cases M:i<=q
 case neg=>
  simp[u,v,M];refine aA (by simp) ?_;refine aS (k':=k) rfl ?_;exact next _ _ q (by omega) d (.inl (by omega)) (by simp[A]) (by simp[B]) (by simp[E]) (by simp[u]) (by simp[v]) l g
 obtain⟨x,y,F,ar,J,U,X,i1,j1,l1,l2,L,he,-,-⟩:=g.ask hg S hW hn (i:=a) (j:=q) (by omega) (by omega);simp[u,v,M,A,B,E,i1,j1,l1,l2,L,he,-aD];have ep:p=x:=by rw[hp]at U;exact asN U
 subst ep;by_cases O:c p y<0
 case neg=>
  refine aA (by simp[O]) ?_;refine aS (k':=k) rfl ?_;refine next _ _ q (by omega) d (.inr λz I=>?_) (by simp[A]) (by simp[B]) (by simp[E]) (by simp[u]) (by simp[v]) (l.trans (Fm.push _ _)) (g.push _)
  rw[X]at I;cases I;exact O
 refine au (by simp[O]) (aJ ?_);refine az (aq (.inl rfl) ?_);simp[u,v,aM (n:=(q:Int)-1)];refine ay (ih (m-1) _ (by omega) ⟨q-1,_,_,rfl,by omega,λr z Y Z I=>?_,by simp[A],by simp[B],by simp[E],by simp[u],by simp;omega,l.trans (Fm.push _ _),g.push _⟩);by_cases hr:r=q
 .subst hr;rw[X]at I;cases I;exact O
 .exact d r z (by omega) (by omega) I
def sY(c:List FC->List FC->Int)(a i j e:Nat)(p:List FC)(l:List (List FC)):Prop:=
 l[a]?=aa p/\(∀(k:Nat) x,a<k->k<i->l[k]?=aa x->c x p<0)/\(∀(k:Nat) x,j<k->k<e->l[k]?=aa x->¬ c x p<0)
def lZ(c:List FC->List FC->Int)(a e m:Nat)(l:List (List FC)):Prop:=
 ∃p,l[m]?=aa p/\(∀(k:Nat) x,a<=k->k<m->l[k]?=aa x->c x p<0)/\(∀(k:Nat) x,m<k->k<e->l[k]?=aa x->¬ c x p<0)
theorem sY.swap{a i j e:Nat}{p:List FC}{l:List (List FC)}(h:sY c a i j e p l)(s:a<i)(u:i<j)(d:j<l.length)(hi:∀x,l[i]?=aa x->¬ c x p<0)(v:∀x,l[j]?=aa x->c x p<0):sY c a (i+1) (j-1) e p (gZ l i j):=by
 obtain⟨h0,h1,h2⟩:=h;have g:∀k,(gZ l i j)[k]?=if k=j then l[i]? else if k=i then l[j]? else l[k]?:=λk=>gw (by omega) d k;refine⟨?_,λk x m q b=>?_,λk x m q b=>?_⟩
 .rw[g,aR (by omega),aR (by omega)];exact h0
 .rw[g,aR (by omega)]at b;by_cases e:k=i
  .rw[bw e]at b;exact v x b
  .rw[aR e]at b;exact h1 k x m (by omega) b
 .rw[g]at b;by_cases e:k=j
  .rw[bw e]at b;exact hi x b
  .rw[aR e,aR (by omega)]at b;exact h2 k x (by omega) q b
theorem sY.done{a i j e:Nat}{p:List FC}{l:List (List FC)}(h:sY c a i j e p l)(s:a<=j)(u:i=j+1)(d:j<l.length):lZ c a e j (gZ l j a):=by
 obtain⟨h0,h1,h2⟩:=h;have g:∀k,(gZ l j a)[k]?=if k=a then l[j]? else if k=j then l[a]? else l[k]?:=λk=>gw d (by omega) k;refine⟨p,?_,λk x m q b=>?_,λk x m q b=>?_⟩
 .rw[g];by_cases e:j=a
  .rw[bw e,e];exact h0
  .rw[aR e,bw rfl];exact h0
 .rw[g]at b;by_cases e:k=a
  .rw[bw e]at b;exact h1 j x (by omega) (by omega) b
  .rw[aR e,aR (by omega)]at b;exact h1 k x (by omega) (by omega) b
 .rw[g,aR (by omega),aR (by omega)]at b;exact h2 k x m q b
theorem agl{H:aj}{rows:List (List FC)}{n a e v b ep:Nat}(hT:tab σ.part=aa (vM σ sz))(a_:Cv tab cv W c)(hn:rows.length=n)(hl:n<=1000000000)(g:RB H b sz ep rows)(hg:cd sz rows)(hW:∀r∈rows,W r)(d7:a<e)(b7:e<=n)(d8:a<=v)(d9:v<e) :
  ∃r H',Ev tab (.fn σ.part) [.c (.sl b 0 n 0 ep sz),vi a,vi e,vi v,cv] H r H'/\((∃(m:Nat) (w:Bool),r=.t [vi m,vb w]/\a<=m/\m<e/\Fm b H H'/\∃l',RB H' b sz ep l'/\eL a e rows l'/\lZ c a e m l')):=by
 refine cz hT rfl λQ hQ=>?_;obtain⟨d,rfl⟩:∃d,e=d+1:=⟨e-1,by omega⟩
 obtain⟨x,p,H1,H2,F,hp,i1,j1,l1,l2,w1,w2,s1,j2,s2,r2,f2⟩:=g.gZ hg hn (i:=a) (j:=v) (by omega) (by omega);have B:eL a (d+1) rows (gZ rows a v):=fg (by omega) (by omega) (by omega) (by omega) (by omega);have b_:sY c a (a+1) d (d+1) p (gZ rows a v):=by
  refine⟨?_,λk x k1 k2=>by omega,λk x k1 k2=>by omega⟩;rw[gw (by omega) (by omega)];by_cases e:a=v
  .rw[bw e,e];exact hp
  .rw[aR e,bw rfl];exact hp
 apply ai;simp;apply ai;simp[i1,j1,l1,l2,w1,w2,s1,j2,s2,-aD,-bC];apply ai;simp[aM (n:=(a:Int)+1),aM (n:=(d:Int))];apply an;have I:∀(w:Bool) (t:T) (H3:aj) (l:List (List FC)) (i j:Nat),a<=j->j<d+1->i=j+1->sY c a i j (d+1) p l->eL a (d+1) rows l->Fm b H H3->RB H3 b sz ep l->
   ∃(x y:List FC) (H4 H5:aj),bg H3 sz ab (.c (.sl b 0 n 0 ep sz)) (vi j)=aa (.c (.ptr b (j*sz) ep))/\bg H3 sz ab (.c (.sl b 0 n 0 ep sz)) (vi a)=aa (.c (.ptr b (a*sz) ep))/\
    bF H3 (aa sz) (.c (.ptr b (j*sz) ep))=aa (.a (x.map .f))/\bF H3 (aa sz) (.c (.ptr b (a*sz) ep))=aa (.a (y.map .f))/\x.length=sz/\y.length=sz/\
    dC H3 (.ptr b (j*sz) ep) (y.map .f)=aa H4/\bg H4 sz ab (.c (.sl b 0 n 0 ep sz)) (vi a)=aa (.c (.ptr b (a*sz) ep))/\dC H4 (.ptr b (a*sz) ep) (x.map .f)=aa H5/\
    (a<=j/\j<d+1/\Fm b H H5/\∃l',RB H5 b sz ep l'/\eL a (d+1) rows l'/\lZ c a (d+1) j l'):=by
  intro w t H3 l i j h1 h2 h3 O u q g;have M:=u.len;obtain⟨x,y,H4,H5,-,-,i1,j1,l1,l2,w1,w2,s1,j2,s2,r2,f2⟩:=g.gZ (u.qD hg) (M.trans hn) (i:=j) (j:=a) (by omega) (by omega);exact⟨x,y,H4,H5,i1,j1,l1,l2,w1,w2,s1,j2,s2,h1,h2,q.trans f2,_,r2,u.trans (fg (by omega) (by omega) (by omega) (by omega) (by omega)),O.done h1 h3 (by omega)⟩
 have E:∀{l},eL a (d+1) rows l->cd sz l:=λh=>h.qD hg;have U:∀{l},eL a (d+1) rows l->∀r∈l,W r:=λh r hr=>hW r (h.1.mem_iff.1 hr);refine ZI a_ (B.len.trans hn) hl (E B) (U B) (i:=a+1) (j:=d) (e:=d+1) (H0:=H) (by omega) (by omega) (by omega) b7 b_.1 (by simp) (by simp) (by simp) (by simp) (by simp) f2 r2 ?_;intro t H3 z c6 N S X Z g4 Y L q g;apply an;refine ZG a_ (B.len.trans hn) hl (E B) (U B) (i:=z) (j:=d) (e:=d+1) (H0:=H) (by omega) (by omega) (by omega) b7 b_.1 X Z g4 Y L q g ?_;intro t H4 A c_ J K X Z g4 Y L q g;have a8:sY c a z A (d+1) p (gZ rows a v):=⟨b_.1,λk x k1 k2 F=>N k x (by omega) k2 F,λk x k1 k2 F=>J k x k1 (by omega) F⟩
 apply an;apply ai;simp[Y,L];by_cases o:A<z
 .obtain⟨x,y,H5,H6,i1,j1,l1,l2,w1,w2,s1,j2,s2,f⟩:=I ae t H4 _ z A (by omega) (by omega) (by omega) a8 B q g;refine au (by simp[o]) (ai ?_);simp[X,Z,L,i1,j1,l1,l2,w1,w2,s1,j2,s2,-aD,-bC];apply ai;simp[L];exact aB (hQ _ _ (.t [vi A,vb ae]) rfl (by simp[Km.results,aX]) ⟨A,ae,rfl,f⟩)
 refine ba (by simp[o]) ?_;have ni:∀x,(gZ rows a v)[z]?=aa x->¬ c x p<0:=by
  rcases S with h|h
  .omega
  .exact h
 have nj:∀x,(gZ rows a v)[A]?=aa x->c x p<0:=by
  rcases K with h|h
  .omega
  .exact λx F=>Classical.not_not.1 (h x F)
 have d6:z≠A:=by
  rintro rfl;have F:=aq2 (l:=gZ rows a v) (i:=z) (by rw[wb];omega);exact ni _ F (nj _ F)
 obtain⟨x5,y5,H5,H6,-,-,i1,j1,l1,l2,w1,w2,s1,j2,s2,r5,f5⟩:=g.gZ (E B) (B.len.trans hn) (i:=z) (j:=A) (by omega) (by omega);apply ai;simp[X,Y,L,i1,j1,l1,l2,w1,w2,s1,j2,s2,-aD,-bC];apply ai;simp[Y,aM (n:=(z:Int)+1)];apply ai;simp[L,aM (n:=(A:Int)-1)];apply an;refine az ?_;refine bT (λm s=>∃(i j:Nat) (t:T) (H1:aj) (l:List (List FC)),s=⟨t,[],H1⟩/\m=j+1-i/\a<i/\i<=j+1/\j<d+1/\t.g 0=.c (.sl b 0 n 0 ep sz)/\t.g 1=vi a/\t.g 4=cv/\t.g 12=vi i/\t.g 13=vi j/\
   Fm b H H1/\RB H1 b sz ep l/\eL a (d+1) rows l/\sY c a i j (d+1) p l) _
  ⟨z+1,A-1,_,H6,_,rfl,rfl,by omega,by omega,by omega,by simp[X],by simp[Z],by simp[g4],by simp,by simp;omega,q.trans f5,r5,
   B.trans (fg (by omega) (by omega) (by omega) (by omega) (by rw[wb];omega)),a8.swap (by omega) (by omega) (by rw[wb];omega) ni nj⟩ ?_
 rintro m s ⟨i,j,t,H1,l,rfl,rfl,c5,c9,d5,X,Z,g4,Y,L,q,g,u,O⟩ ih;have M:=u.len;refine az ?_;apply an;refine ZJ a_ (M.trans hn) hl (E u) (U u) (i:=i) (j:=j) (e:=d+1) (H0:=H) c5 c9 d5 b7 O.1 X Z g4 Y L q g ?_;intro t H3 z c6 N S X Z g4 Y L q g;apply an;refine ZH a_ (M.trans hn) hl (E u) (U u) (i:=z) (j:=j) (e:=d+1) (H0:=H) (by omega) (by omega) (by omega) b7 O.1 X Z g4 Y L q g ?_;intro t H4 A c_ J K X Z g4 Y L q g;have a8:sY c a z A (d+1) p l:=⟨O.1,λk x k1 k2 F=>by
   by_cases hk:k<i
   .exact O.2.1 k x k1 hk F
   .exact N k x (by omega) k2 F,λk x k1 k2 F=>by
   by_cases hk:j<k
   .exact O.2.2 k x hk k2 F
   .exact J k x k1 (by omega) F⟩
 apply an;apply ai;simp[Y,L];by_cases o:A<z
 .obtain⟨x,y,H5,H6,i1,j1,l1,l2,w1,w2,s1,j2,s2,f⟩:=I ag t H4 _ z A (by omega) (by omega) (by omega) a8 u q g;refine au (by simp[o]) ?_;refine aS (k':=[.code (Br sz)]) rfl ?_;apply ai;simp[X,Z,L,i1,j1,l1,l2,w1,w2,s1,j2,s2,-aD,-bC];apply ai;simp[L];exact aB (hQ _ _ (.t [vi A,vb ag]) rfl (by simp[Km.results,aX]) ⟨A,ag,rfl,f⟩)
 refine ba (by simp[o]) ?_;have ni:∀x,l[z]?=aa x->¬ c x p<0:=by
  rcases S with h|h
  .omega
  .exact h
 have nj:∀x,l[A]?=aa x->c x p<0:=by
  rcases K with h|h
  .omega
  .exact λx F=>Classical.not_not.1 (h x F)
 have d6:z≠A:=by
  rintro rfl;have F:=aq2 (l:=l) (i:=z) (by omega);exact ni _ F (nj _ F)
 obtain⟨x5,y5,H5,H6,-,-,i1,j1,l1,l2,w1,w2,s1,j2,s2,r5,f5⟩:=g.gZ (E u) (M.trans hn) (i:=z) (j:=A) (by omega) (by omega);apply ai;simp[X,Y,L,i1,j1,l1,l2,w1,w2,s1,j2,s2,-aD,-bC];apply ai;simp[Y,aM (n:=(z:Int)+1)];refine aq (.inl rfl) ?_;simp[L,aM (n:=(A:Int)-1)];exact ay (ih _ _ (by omega) ⟨z+1,A-1,_,H6,_,rfl,rfl,by omega,by omega,by omega,by simp[X],by simp[Z],by simp[g4],by simp,by simp;omega,q.trans f5,r5,
   u.trans (fg (by omega) (by omega) (by omega) (by omega) (by omega)),a8.swap (by omega) (by omega) (by omega) ni nj⟩)
end
section
variable{tab:TB}{σ:gE}{sz:Nat}{cv:V}{W:List FC->Prop}{c:List FC->List FC->Int}
def JX(c:List FC->List FC->Int)(a i j e:Nat)(p:List FC)(l:List (List FC)):Prop:=
 l[a]?=aa p/\(∀(k:Nat) x,a<k->k<i->l[k]?=aa x->¬ c p x<0)/\(∀(k:Nat) x,j<k->k<e->l[k]?=aa x->c p x<0)
theorem JX.swap{a i j e:Nat}{p:List FC}{l:List (List FC)}(h:JX c a i j e p l)(s:a<i)(u:i<j)(d:j<l.length)(hi:∀x,l[i]?=aa x->c p x<0)(v:∀x,l[j]?=aa x->¬ c p x<0):JX c a (i+1) (j-1) e p (gZ l i j):=by
 obtain⟨h0,h1,h2⟩:=h;have g:∀k,(gZ l i j)[k]?=if k=j then l[i]? else if k=i then l[j]? else l[k]?:=λk=>gw (by omega) d k;refine⟨?_,λk x m q b=>?_,λk x m q b=>?_⟩
 .rw[g,aR (by omega),aR (by omega)];exact h0
 .rw[g,aR (by omega)]at b;by_cases e:k=i
  .rw[bw e]at b;exact v x b
  .rw[aR e]at b;exact h1 k x m (by omega) b
 .rw[g]at b;by_cases e:k=j
  .rw[bw e]at b;exact hi x b
  .rw[aR e,aR (by omega)]at b;exact h2 k x (by omega) q b
theorem akT{H:aj}{rows:List (List FC)}{n a e v b ep:Nat}{p:List FC}(hT:tab σ.Bu=aa (Bv σ sz))(a8:Cv tab cv W c)(c6:sW W c)(hn:rows.length=n)(hl:n<=1000000000)(g:RB H b sz ep rows)(hg:cd sz rows)(hW:∀r∈rows,W r)(d7:a<e)(a_:e<=n)(d8:a<=v)(f8:v<e)(F:rows[v]?=aa p) :
  ∃r H',Ev tab (.fn σ.Bu) [.c (.sl b 0 n 0 ep sz),vi a,vi e,vi v,cv] H r H'/\((∃(m:Nat),r=vi m/\a<m/\m<=e/\Fm b H H'/\∃l',RB H' b sz ep l'/\eL a e rows l'/\(∀(k:Nat) x,a<=k->k<m->l'[k]?=aa x->¬ c p x<0)/\(∀(k:Nat) x,m<=k->k<e->l'[k]?=aa x->c p x<0))):=by
 refine cz hT rfl λQ hQ=>?_;obtain⟨d,rfl⟩:∃d,e=d+1:=⟨e-1,by omega⟩
 obtain⟨x,p',H1,H2,I,b_,i1,j1,l1,l2,w1,w2,s1,j2,s2,r2,f2⟩:=g.gZ hg hn (i:=a) (j:=v) (by omega) (by omega);obtain rfl:p=p':=by rw[F]at b_;exact asN b_
 have Y:¬ c p p<0:=λh=>c6.zo (hW _ (arh F)) (hW _ (arh F)) h h;have d6:eL a (d+1) rows (gZ rows a v):=fg (by omega) (by omega) (by omega) (by omega) (by omega);have d5:JX c a (a+1) d (d+1) p (gZ rows a v):=by
  refine⟨?_,λk x o M=>by omega,λk x o M=>by omega⟩;rw[gw (by omega) (by omega)];by_cases e:a=v
  .rw[bw e,e];exact F
  .rw[aR e,bw rfl];exact F
 apply ai;simp;apply ai;simp[i1,j1,l1,l2,w1,w2,s1,j2,s2,-aD,-bC];apply ai;simp[aM (n:=(a:Int)+1),aM (n:=(d:Int))];apply an;have A:∀{l},eL a (d+1) rows l->cd sz l:=λh=>h.qD hg;have S:∀{l},eL a (d+1) rows l->∀r∈l,W r:=λh r hr=>hW r (h.1.mem_iff.1 hr);refine az ?_;refine bT (λm s=>∃(i j:Nat) (t:T) (H1:aj) (l:List (List FC)),s=⟨t,[],H1⟩/\m=j+1-i/\a<i/\i<=j+1/\j<d+1/\t.g 0=.c (.sl b 0 n 0 ep sz)/\t.g 1=vi a/\t.g 4=cv/\t.g 11=vi i/\t.g 12=vi j/\
   Fm b H H1/\RB H1 b sz ep l/\eL a (d+1) rows l/\JX c a i j (d+1) p l) _
  ⟨a+1,d,_,H2,_,rfl,rfl,by omega,by omega,by omega,by simp,by simp,by simp,by simp,by simp,f2,r2,d6,d5⟩ ?_
 rintro m s ⟨i,j,t,H1,l,rfl,rfl,c5,c9,c_,w,g1,g4,O,U,y,g,u,E⟩ ih;have B:=u.len;refine az ?_;apply an;refine akU a8 (B.trans hn) hl (A u) (S u) (i:=i) (j:=j) (e:=d+1) (H0:=H) c5 c9 c_ a_ E.1 w g1 g4 O U y g ?_;intro t H3 J d9 X Z w g1 g4 O U y g;apply an;refine akS a8 (B.trans hn) hl (A u) (S u) (i:=J) (j:=j) (e:=d+1) (H0:=H) (by omega) (by omega) (by omega) a_ E.1 w g1 g4 O U y g ?_;intro t H4 f d_ K L w g1 g4 O U y g;have N:JX c a J f (d+1) p l:=⟨E.1,λk x o M I=>by
   by_cases hk:k<i
   .exact E.2.1 k x o hk I
   .exact X k x (by omega) M I,λk x o M I=>by
   by_cases hk:j<k
   .exact E.2.2 k x hk M I
   .exact K k x o (by omega) I⟩
 apply an;apply ai;simp[O,U];by_cases b7:f<J
 .refine au (by simp[b7]) ?_;refine aS (k':=[.code (ZQ)]) rfl ?_;apply ai;simp[O];refine aB (hQ _ _ (vi J) rfl (by simp[Km.results,aX]) ⟨J,rfl,by omega,by omega,y,l,g,u,λq z o M hz=>?_,λq z o M hz=>N.2.2 q z (by omega) M hz⟩);by_cases e:q=a
  .rw[e,N.1]at hz;cases hz;exact Y
  .exact N.2.1 q z (by omega) M hz
 refine ba (by simp[b7]) ?_;have ni:∀x,l[J]?=aa x->c p x<0:=by
  rcases Z with h|h
  .omega
  .exact λx I=>Classical.not_not.1 (h x I)
 have nj:∀x,l[f]?=aa x->¬ c p x<0:=by
  rcases L with h|h
  .omega
  .exact h
 have e_:J≠f:=by
  rintro rfl;have I:=aq2 (l:=l) (i:=J) (by omega);exact nj _ I (ni _ I)
 obtain⟨x5,y5,H5,H6,-,-,i1,j1,l1,l2,w1,w2,s1,j2,s2,r5,f5⟩:=g.gZ (A u) (B.trans hn) (i:=J) (j:=f) (by omega) (by omega);apply ai;simp[w,O,U,i1,j1,l1,l2,w1,w2,s1,j2,s2,-aD,-bC];apply ai;simp[O,aM (n:=(J:Int)+1)];refine aq (.inl rfl) ?_;simp[U,aM (n:=(f:Int)-1)];exact ay (ih _ _ (by omega) ⟨J+1,f-1,_,H6,_,rfl,rfl,by omega,by omega,by omega,by simp[w],by simp[g1],by simp[g4],by simp,by simp;omega,y.trans f5,r5,
   u.trans (fg (by omega) (by omega) (by omega) (by omega) (by omega)),N.swap (by omega) (by omega) (by omega) ni nj⟩)
end
section
variable{tab:TB}{σ:gE}{sz:Nat}{cv:V}{W:List FC->Prop}{c:List FC->List FC->Int}
def zk(c:List FC->List FC->Int)(a e:Nat)(l:List (List FC)):Prop:=∀k,0<a->a<=k->k<e->jj c l (a-1) k
theorem zk.sU{a e a' b:Nat}{l l':List (List FC)}(h:zk c a e l)(d:eL a' b l l')(h1:a<=a')(h2:b<=e)(v:a'<=b)(hl:b<=l.length):zk c a e l':=by
 intro k h0 m q x y g hy;rw[d.lt (by omega)]at g;by_cases s:k<a'
 .rw[d.lt s]at hy;exact h k h0 m q x y g hy
 by_cases u:b<=k
 .rw[d.ge u]at hy;exact h k h0 m q x y g hy
 obtain⟨j,A,B,z⟩:=d.mem v hl (by omega) (by omega) hy;exact h j h0 (by omega) (by omega) x y g z
theorem zk.mono{a e b:Nat}{l:List (List FC)}(h:zk c a e l)(g:b<=e):zk c a b l:=λk h0 d j=>h k h0 d (by omega)
theorem Lj{n a e i ep b:Nat}{rows:List (List FC)}{H0:aj}{g10:V}{k:List cO}{Q:Option ax->St->Prop}(U:Cv tab cv W c)(hc:sW W c)(hn:rows.length=n)(hl:n<=1000000000)(hg:cd sz rows)(Y:∀r∈rows,W r)
  {t:T} {H:aj} (a8:a<i) (b7:i<=e) (a_:e<=n) (u:Up c a i rows)
  (I:t.g 0=.c (.sl b 0 n 0 ep sz)) (L:t.g 1=vi a) (B:t.g 2=vi e) (K:t.g 3=cv) (A:t.g 9=vi i) (M:t.g 10=g10) (l:Fm b H0 H) (g:RB H b sz ep rows)
  (next:∀(t:T) (H:aj) (E:Nat),(i<=E/\E<=e)->Up c a E rows->(E=e\/∀x y,rows[E]?=aa x->rows[E-1]?=aa y->c x y<0)->
   t.g 0=.c (.sl b 0 n 0 ep sz)->t.g 1=vi a->t.g 2=vi e->t.g 3=cv->t.g 9=vi E->t.g 10=g10->Fm b H0 H->RB H b sz ep rows->WP tab σ.pins ab k ⟨t,[],H⟩ Q) :
  WP tab σ.pins ab (.code (Bx sz)::k) ⟨t,[],H⟩ Q:=by
 refine az ?_;refine bT (λm s=>∃(q:Nat) (t:T) (S:aj),s=⟨t,[],S⟩/\(q+m=e/\i<=q)/\Up c a q rows/\
   t.g 0=.c (.sl b 0 n 0 ep sz)/\t.g 1=vi a/\t.g 2=vi e/\t.g 3=cv/\t.g 9=vi q/\t.g 10=g10/\Fm b H0 S/\RB S b sz ep rows) (e-i)
  ⟨i,_,H,rfl,by omega,u,I,L,B,K,A,M,l,g⟩ ?_
 rintro m s ⟨q,t,S,rfl,hm,u,I,L,B,K,A,M,l,g⟩ ih;apply an;apply ai;by_cases X:q<e
 case neg=>
  simp[A,B,X];refine aA (by simp) ?_;refine aS (k':=k) rfl ?_;exact next _ _ q (by omega) u (.inl (by omega)) (by simp[I]) (by simp[L]) (by simp[B]) (by simp[K]) (by simp[A]) (by simp[M]) l g
 obtain⟨d,rfl⟩:∃d,q=d+1:=⟨q-1,by omega⟩
 obtain⟨x,y,F,ar,J,hx,hy,i1,j1,l1,l2,N,he,-,-⟩:=g.ask hg U Y hn (i:=d+1) (j:=d) (by omega) (by omega);have c1:((d+1:Nat):Int)=(d:Int)+1:=by omega
 have O:(d:Int)+1<(e:Int):=by omega
 rw[c1]at i1 A;simp[A,B,O,I,K,i1,j1,l1,l2,N,he,-aD,aM (n:=(d:Int))];by_cases v:c x y<0
 case pos=>
  refine aA (by simp[v]) ?_;refine aS (k':=k) rfl ?_;refine next _ _ (d+1) (by omega) u (.inr λz w hz Z=>?_) (by simp[I]) (by simp[L]) (by simp[B]) (by simp[K]) (by simp[A]) (by simp[M]) (l.trans (Fm.push _ _)) (g.push _)
  rw[hx]at hz;cases hz;rw[show d+1-1=d by omega,hy]at Z;cases Z;exact v
 refine au (by simp[v]) (aJ ?_);refine az (aq (.inl rfl) ?_);simp[A,aM (n:=(d:Int)+1+1)];refine ay (ih (m-1) _ (by omega) ⟨d+1+1,_,_,rfl,by omega,?_,by simp[I],by simp[L],by simp[B],by simp[K],by simp,by simp[M],l.trans (Fm.push _ _),g.push _⟩);exact(AT.start u).stop hc Y (by omega) (aq9 _) (by omega) (jj.of_le hy hx v)
theorem Li{n a e i j ep b:Nat}{rows:List (List FC)}{H0:aj}{g10:V}{k:List cO}{Q:Option ax->St->Prop}(b7:Cv tab cv W c)(hc:sW W c)(hn:rows.length=n)(hl:n<=1000000000)(hg:cd sz rows)(hW:∀r∈rows,W r)
  {t:T} {H:aj} (X:a<=j) (K:j=i) (c9:i<e) (c6:e<=n) (a8:zk c a e rows) (q:AT c a i j rows)
  (E:t.g 0=.c (.sl b 0 n 0 ep sz)) (N:t.g 1=vi a) (O:t.g 2=vi e) (M:t.g 3=cv) (S:t.g 9=vi (i+1:Nat)) (U:t.g 10=g10) (A:t.g 11=vi j) (z:Fm b H0 H) (u:RB H b sz ep rows)
  (next:∀(t:T) (H:aj) (l:List (List FC)),eL a e rows l->Up c a (i+1) l->
   t.g 0=.c (.sl b 0 n 0 ep sz)->t.g 1=vi a->t.g 2=vi e->t.g 3=cv->t.g 9=vi (i+1:Nat)->t.g 10=g10->Fm b H0 H->RB H b sz ep l->WP tab σ.pins ab k ⟨t,[],H⟩ Q) :
  WP tab σ.pins ab (.code (By sz)::k) ⟨t,[],H⟩ Q:=by
 refine az ?_;refine bT (λm s=>∃(j:Nat) (t:T) (H1:aj) (l:List (List FC)),s=⟨t,[],H1⟩/\j=m/\a<=j/\j<=i/\t.g 0=.c (.sl b 0 n 0 ep sz)/\t.g 1=vi a/\t.g 2=vi e/\t.g 3=cv/\t.g 9=vi (i+1:Nat)/\t.g 10=g10/\t.g 11=vi j/\
   Fm b H0 H1/\RB H1 b sz ep l/\eL a e rows l/\AT c a i j l) j
  ⟨j,_,H,rows,rfl,rfl,X,by omega,E,N,O,M,S,U,A,z,u,eL.refl _ _ _,q⟩ ?_
 rintro m s ⟨j,t,H1,l,rfl,rfl,X,K,E,N,O,M,S,U,A,z,u,g,q⟩ ih;have B:=g.len;have Z:=g.qD hg;have I:∀r∈l,W r:=λr hr=>hW r (g.1.mem_iff.1 hr);have L:zk c a e l:=a8.sU g (aq9 _) (aq9 _) (by omega) (by omega);apply an;apply ai;by_cases c5:j=0
 .subst c5;obtain rfl:a=0:=by omega
  simp[A];refine aA (by simp) ?_;refine aS (k':=k) rfl ?_;exact next _ _ l g q.front (by simp[E]) (by simp[N]) (by simp[O]) (by simp[M]) (by simp[S]) (by simp[U]) z u
 obtain⟨d,rfl⟩:∃d,j=d+1:=⟨j-1,by omega⟩
 obtain⟨x,y,F,ar,J,hx,hy,i1,j1,l1,l2,Y,he,-,-⟩:=u.ask Z b7 I (B.trans hn) (i:=d+1) (j:=d) (by omega) (by omega);have c1:((d+1:Nat):Int)=(d:Int)+1:=by omega
 have b_:(1:Int)<=(d:Int)+1:=by omega
 rw[c1]at i1 A;simp[A,b_];refine au (by simp) (aJ ?_);apply an;refine az ?_;apply an;apply ai;simp[A,E,M,i1,j1,l1,l2,Y,he,-aD,aM (n:=(d:Int))];by_cases v:c x y<0
 case neg=>
  refine au (by simp[v]) ?_;refine aS (k':=k) rfl ?_;refine next _ _ l g ?_ (by simp[E]) (by simp[N]) (by simp[O]) (by simp[M]) (by simp[S]) (by simp[U]) (z.trans (Fm.push _ _)) (u.push _)
  by_cases ha:d+1=a
  .subst ha;exact q.front
  .exact q.stop hc I (by omega) K (by omega) (jj.of_le hy hx v)
 have a_:a<=d:=by
  rcases arI d a with h|h
  .obtain rfl:a=d+1:=by omega
   exact absurd v (L (d+1) (by omega) (aq9 _) (by omega) y x (by simpa using hy) hx)
  .exact h
 refine ba (by simp[v]) ?_;obtain⟨x5,y5,H5,H6,-,-,i5,j5,l5,l6,w5,w6,s5,j6,s6,r6,f6⟩:=(u.push J).gZ Z (B.trans hn) (i:=d+1) (j:=d) (by omega) (by omega);rw[c1]at i5;refine aq (.inl rfl) ?_;simp[E,A,i5,j5,l5,l6,w5,w6,s5,j6,s6,-aD,-bC,aM (n:=(d:Int))];refine ay ?_;refine aq (.inl rfl) ?_;simp[A,aM (n:=(d:Int))];exact ih d _ (by omega) ⟨d,_,H6,gZ l (d+1) d,rfl,rfl,a_,by omega,by simp[E],by simp[N],by simp[O],by simp[M],by simp[S],by simp[U],by simp,(z.trans (Fm.push _ _)).trans f6,r6,
  g.trans (fg (by omega) (by omega) (by omega) (by omega) (by omega)),q.step hc I (by omega) K (by omega) hx hy v⟩
theorem Ap{n a e i ep b:Nat}{rows:List (List FC)}{H0:aj}{g10:V}{k:List cO}{Q:Option ax->St->Prop}(Z:Cv tab cv W c)(hn:rows.length=n)(hl:n<=1000000000)(hg:cd sz rows)(hW:∀r∈rows,W r)
  {t:T} {H:aj} (b7:i<e) (a8:e<=n)
  (B:t.g 0=.c (.sl b 0 n 0 ep sz)) (K:t.g 1=vi a) (E:t.g 2=vi e) (I:t.g 3=cv) (L:t.g 9=vi i) (M:t.g 10=g10) (z:t.g 12=vi (i+1:Nat)) (u:Fm b H0 H) (q:RB H b sz ep rows)
  (next:∀(t:T) (H:aj) (l:List (List FC)),eL i e rows l->
   t.g 0=.c (.sl b 0 n 0 ep sz)->t.g 1=vi a->t.g 2=vi e->t.g 3=cv->t.g 9=vi i->t.g 10=g10->Fm b H0 H->RB H b sz ep l->WP tab σ.pins ab k ⟨t,[],H⟩ Q) :
  WP tab σ.pins ab (.code (BA sz)::k) ⟨t,[],H⟩ Q:=by
 refine az ?_;refine bT (λm s=>∃(d:Nat) (t:T) (U:aj) (l:List (List FC)),s=⟨t,[],U⟩/\d+1+m=e/\i<=d/\t.g 0=.c (.sl b 0 n 0 ep sz)/\t.g 1=vi a/\t.g 2=vi e/\t.g 3=cv/\t.g 9=vi i/\t.g 10=g10/\t.g 12=vi (d+1:Nat)/\
   Fm b H0 U/\RB U b sz ep l/\eL i e rows l) (e-(i+1))
  ⟨i,_,H,rows,rfl,by omega,aq9 _,B,K,E,I,L,M,z,u,q,eL.refl _ _ _⟩ ?_
 rintro m s ⟨d,t,U,l,rfl,hm,a_,B,K,E,I,L,M,z,u,q,g⟩ ih;have A:=g.len;have S:=g.qD hg;have Y:∀r∈l,W r:=λr hr=>hW r (g.1.mem_iff.1 hr);have X:((d+1:Nat):Int)=(d:Int)+1:=by omega
 rw[X]at z;apply an;apply ai;by_cases b_:d+1<e
 case neg=>
  have v:¬ ((d:Int)+1<(e:Int)):=by omega
  simp[z,E,v];refine aA (by simp) ?_;refine aS (k':=k) rfl ?_;exact next _ _ l g (by simp[B]) (by simp[K]) (by simp[E]) (by simp[I]) (by simp[L]) (by simp[M]) u q
 have v:(d:Int)+1<(e:Int):=by omega
 simp[z,E,v];refine au (by simp) (aJ ?_);obtain⟨x,y,F,ar,J,hx,hy,i1,j1,l1,l2,O,he,-,-⟩:=q.ask S Z Y (A.trans hn) (i:=d+1) (j:=d) (by omega) (by omega);rw[X]at i1;apply an;refine az ?_;apply an;apply ai;simp[z,B,I,i1,j1,l1,l2,O,he,-aD,aM (n:=(d:Int))];by_cases N:c x y<0
 case neg=>
  refine au (by simp[N]) ?_;refine aS (k':=k) rfl ?_;exact next _ _ l g (by simp[B]) (by simp[K]) (by simp[E]) (by simp[I]) (by simp[L]) (by simp[M]) (u.trans (Fm.push _ _)) (q.push _)
 refine ba (by simp[N]) ?_;obtain⟨x5,y5,H5,H6,-,-,i5,j5,l5,l6,w5,w6,s5,j6,s6,r6,f6⟩:=(q.push J).gZ S (A.trans hn) (i:=d+1) (j:=d) (by omega) (by omega);rw[X]at i5;refine aq (.inl rfl) ?_;simp[B,z,i5,j5,l5,l6,w5,w6,s5,j6,s6,-aD,-bC,aM (n:=(d:Int))];refine ay ?_;refine aq (.inl rfl) ?_;simp[z,aM (n:=(d:Int)+1+1)];exact ih (m-1) _ (by omega) ⟨d+1,_,H6,gZ l (d+1) d,rfl,by omega,by omega,by simp[B],by simp[K],by simp[E],by simp[I],by simp[L],by simp[M],by simp,(u.trans (Fm.push _ _)).trans f6,r6,
  g.trans (fg (by omega) (by omega) (by omega) (by omega) (by omega))⟩
theorem agK{H:aj}{rows:List (List FC)}{n a e b ep:Nat}(hT:tab σ.pins=aa (vP σ sz))(a8:Cv tab cv W c)(hc:sW W c)(hn:rows.length=n)(hl:n<=1000000000)(v:RB H b sz ep rows)(hg:cd sz rows)(hW:∀r∈rows,W r)(d_:a<e)(a_:e<=n)(c5:zk c a e rows) :
  ∃r H',Ev tab (.fn σ.pins) [.c (.sl b 0 n 0 ep sz),vi a,vi e,cv] H r H'/\((∃w:Bool,r=vb w/\Fm b H H'/\∃l',RB H' b sz ep l'/\eL a e rows l'/\(w=ae->Up c a e l'))):=by
 refine cz hT rfl λQ hQ=>?_;apply ai;simp;apply ai;simp[aM (n:=(a:Int)+1)];apply an;apply ai;simp;refine az ?_;refine bT (λm s=>∃(i g:Nat) (t:T) (H1:aj) (l:List (List FC)),s=⟨t,[],H1⟩/\g+m=5/\a<i/\i<=e/\t.g 0=.c (.sl b 0 n 0 ep sz)/\t.g 1=vi a/\t.g 2=vi e/\t.g 3=cv/\t.g 9=vi i/\t.g 10=vi g/\
   Fm b H H1/\RB H1 b sz ep l/\eL a e rows l/\Up c a i l) 5
  ⟨a+1,0,_,H,rows,rfl,rfl,by omega,by omega,by simp,by simp,by simp,by simp,by simp,by simp,Fm.refl H,v,eL.refl _ _ _,Up.one (by omega)⟩ ?_
 rintro m s ⟨i,g,t,H1,l,rfl,hm,c6,c9,I,F,E,M,A,J,z,v,u,B⟩ ih;apply an;apply ai;simp[J];by_cases h5:g<5
 case neg=>
  have Z:¬ ((g:Int)<5):=by omega
  refine aA (by simp[Z]) ?_;refine aS (k':=[.code (qP)]) rfl ?_;apply ai;simp;exact aB (hQ _ _ (vb ag) rfl (by simp[Km.results,aX]) ⟨ag,rfl,z,l,v,u,λh=>nomatch h⟩)
 have Z:(g:Int)<5:=by omega
 refine au (by simp[Z]) (aJ ?_);apply an;refine az ?_;apply an;have L:=u.len;have K:∀{l},eL a e rows l->cd sz l:=λh=>h.qD hg;have U:∀{l},eL a e rows l->∀r∈l,W r:=λh r hr=>hW r (h.1.mem_iff.1 hr);refine Lj a8 hc (L.trans hn) hl (K u) (U u) (H0:=H) c6 c9 a_ B (by simp[I]) (by simp[F]) (by simp[E]) (by simp[M]) (by simp[A]) (by simp[J];rfl) z v ?_;intro t H2 i' hi B b7 I F E M A J z v;apply an;apply ai;simp[A,E];by_cases Y:i'=e
 .subst Y;refine au (by simp) ?_;apply ai;simp;exact aB (hQ _ _ (vb ae) rfl (by simp[Km.results,aX]) ⟨ae,rfl,z,l,v,u,λ_=>B⟩)
 refine ba (by simp[Y]) ?_;apply an;apply ai;simp[F,E,aM (n:=(e:Int)-a)];by_cases d9:(e:Int)-a<50
 .refine au (by simp;omega) ?_;apply ai;simp;exact aB (hQ _ _ (vb ag) rfl (by simp[Km.results,aX]) ⟨ag,rfl,z,l,v,u,λh=>nomatch h⟩)
 refine aA (by simp;omega) (aJ ?_);obtain⟨d,rfl⟩:∃d,i'=d+1:=⟨i'-1,by omega⟩
 have c1:((d+1:Nat):Int)=(d:Int)+1:=by omega
 obtain⟨x5,y5,H5,H6,d5,d6,i5,j5,l5,l6,w5,w6,s5,j6,s6,r6,f6⟩:=v.gZ (K u) (L.trans hn) (i:=d+1) (j:=d) (by omega) (by omega);have d8:c x5 y5<0:=by
  rcases b7 with h|h
  .omega
  .exact h x5 y5 d5 (by simpa using d6)
 have N:eL a e rows (gZ l (d+1) d):=u.trans (fg (by omega) (by omega) (by omega) (by omega) (by omega));rw[c1]at i5 A;apply ai;simp[I,A,i5,j5,l5,l6,w5,w6,s5,j6,s6,-aD,-bC,aM (n:=(d:Int))];have b_:∀(t:T) (O:aj) (S:List (List FC)),t.g 0=.c (.sl b 0 n 0 ep sz)->t.g 1=vi a->t.g 2=vi e->t.g 3=cv->t.g 9=vi (d+1:Nat)->t.g 10=vi g->Fm b H O->RB O b sz ep S->eL a e rows S->Up c a (d+1) S->
   WP tab σ.pins ab [.inBlock 1,.code (vO),.inLoop (Ao sz),.inBlock 0,.code (qP)] ⟨t,[],O⟩ Q:=by
  intro t O S I F E M A J z v u B;refine ay (aq (.inl rfl) ?_);simp[J,aM (n:=(g:Int)+1)];exact ih (m-1) _ (by omega) ⟨d+1,g+1,_,O,S,rfl,by omega,by omega,by omega,by simp[I],by simp[F],by simp[E],by simp[M],by simp[A],by simp,z,v,u,B⟩
 have right:∀(t:T) (O:aj) (S:List (List FC)),t.g 0=.c (.sl b 0 n 0 ep sz)->t.g 1=vi a->t.g 2=vi e->t.g 3=cv->t.g 9=vi (d+1:Nat)->t.g 10=vi g->Fm b H O->RB O b sz ep S->eL a e rows S->Up c a (d+1) S->
   WP tab σ.pins ab [.code (Bz sz),.inBlock 1,.code (vO),.inLoop (Ao sz),.inBlock 0,.code (qP)] ⟨t,[],O⟩ Q:=by
  intro t O S I F E M A J z v u B;have L:=u.len;rw[c1]at A;apply an;refine aq (.inl rfl) ?_;simp[A,E,aM (n:=(e:Int)-((d:Int)+1))];by_cases h2:(2:Int)<=(e:Int)-((d:Int)+1)
  case neg=>
   refine aA (by simp;omega) (aJ ?_);exact b_ _ O S (by simp[I]) (by simp[F]) (by simp[E]) (by simp[M]) (by simp[A]) (by simp[J]) z v u B
  refine au (by simp;omega) ?_;apply ai;simp[A,aM (n:=(d:Int)+1+1)];refine Ap a8 (L.trans hn) hl (K u) (U u) (H0:=H) (a:=a) (i:=d+1) (e:=e) (g10:=vi g) (by omega) a_ (by simp[I]) (by simp[F]) (by simp[E]) (by simp[M]) (by simp[A]) (by simp[J]) (by simp) z v ?_;intro t H4 l4 X I F E M A J z v;exact b_ t H4 l4 I F E M A J z v (u.trans (X.mono (by omega) (aq9 _))) (B.of λk _ hk=>X.lt hk)
 apply an;apply ai;simp[A,F,aM (n:=(d:Int)+1-a)];by_cases h2:(2:Int)<=(d:Int)+1-a
 case neg=>
  refine aA (by simp;omega) (aJ ?_);exact right _ H6 _ (by simp[I]) (by simp[F]) (by simp[E]) (by simp[M]) (by simp[A]) (by simp[J]) (z.trans f6) r6 N (Up.one (by omega))
 refine au (by simp;omega) ?_;apply ai;simp[A,aM (n:=(d:Int))];have c_:=N.len;refine Li a8 hc (c_.trans hn) hl (K N) (U N) (H0:=H) (a:=a) (i:=d) (j:=d) (e:=e) (g10:=vi g) (by omega) rfl (by omega) a_ (c5.sU N (aq9 _) (aq9 _) (by omega) (by omega)) ?_ (by simp[I]) (by simp[F]) (by simp[E]) (by simp[M]) (by simp[A]) (by simp[J]) (by simp) (z.trans f6) r6 ?_
 .intro p q h1 h2 h3 h4;have g:∀k,k<d->(gZ l (d+1) d)[k]?=l[k]?:=λk hk=>by rw[gw (by omega) (by omega),aR (by omega),aR (by omega)]
  exact jj.get (λx y=>B p q x y h1 h2 (by omega)) (g p (by omega)) (g q (by omega))
 intro t H4 l4 X d7 I F E M A J z v;exact right t H4 l4 I F E M A J z v (N.trans X) d7
end
def rf(i ch:Nat):Prop:=ch=2*i+1\/ch=2*i+2
def Hp(c:List FC->List FC->Int)(f h k:Nat)(l:List (List FC)):Prop:=∀i ch,k<=i->rf i ch->ch<h->jj c l (f+ch) (f+i)
def XZ(c:List FC->List FC->Int)(f h k r:Nat)(l:List (List FC)):Prop:=
 (∀i ch,k<=i->i≠r->rf i ch->ch<h->jj c l (f+ch) (f+i))/\∀i ch,k<=i->rf i r->rf r ch->ch<h->jj c l (f+ch) (f+i)
section
variable{W:List FC->Prop}{c:List FC->List FC->Int}{l:List (List FC)}
theorem Hp.x{f h k:Nat}(h1:Hp c f h (k+1) l):XZ c f h k k l:=
 ⟨λi ch a b d e=>h1 i ch (by omega) d e,λi ch a b d e=>by unfold rf at b;omega⟩
theorem XZ.leaf{f h k r:Nat}(g:XZ c f h k r l)(j:h<=2*r+1):Hp c f h k l:=λi ch a b d=>by
 by_cases e:i=r
 .subst e;unfold rf at b;omega
 .exact g.1 i ch a e b d
theorem XZ.stop{f h k r ch:Nat}(hc:sW W c)(m:∀r∈l,W r)(u:XZ c f h k r l)(hl:f+h<=l.length)(v:rf r ch)(s:ch<h)(g:∀q,rf r q->q<h->jj c l (f+q) (f+ch))(j:jj c l (f+ch) (f+r)):Hp c f h k l:=λi q a b d=>by
 by_cases e:i=r
 .subst e;exact(g q b d).trans hc m j (by omega)
 .exact u.1 i q a e b d
theorem XZ.step{f h k r ch:Nat}(hc:sW W c)(I:∀r∈l,W r)(A:XZ c f h k r l)(hl:f+h<=l.length)(J:k<=r)(v:rf r ch)(z:ch<h)(j:∀q,rf r q->q<h->jj c l (f+q) (f+ch)){x y:List FC}(B:l[f+r]?=aa x)(F:l[f+ch]?=aa y)(E:c x y<0) :
  XZ c f h k ch (gZ l (f+r) (f+ch)):=by
 have K:r<ch:=by unfold rf at v;omega
 have g:∀q,(gZ l (f+r) (f+ch))[f+q]?=if q=ch then l[f+r]? else if q=r then l[f+ch]? else l[f+q]?:=λq=>by
  rw[gw (by omega) (by omega)];by_cases H:q=ch
  .subst H;simp
  rw[aR (by omega),aR H];by_cases d:q=r
  .subst d;simp
  rw[aR (by omega),aR d]
 refine⟨λi q hi m s b=>?_,λi q hi h1 h2 b=>?_⟩
 .by_cases e:i=r
  .subst e;by_cases d:q=ch
   .subst d;exact(jj.of_lt hc I B F E).get (by rw[g,bw rfl]) (by rw[g,aR (by omega),bw rfl])
   .exact(j q s b).get (by rw[g,aR d,aR (by unfold rf at s;omega)]) (by rw[g,aR (by omega),bw rfl])
  .by_cases d:q=r
   .subst d;exact(A.2 i ch hi s v z).get (by rw[g,aR (by omega),bw rfl]) (by rw[g,aR m,aR e])
   .have u:q≠ch:=by unfold rf at s v;omega
    exact(A.1 i q hi e s b).get (by rw[g,aR u,aR d]) (by rw[g,aR m,aR e])
 .have e:i=r:=by unfold rf at h1 v;omega
  subst e;have u:q≠ch/\q≠i:=by unfold rf at h2;omega
  exact(A.1 ch q (by omega) (by omega) h2 b).get (by rw[g,aR u.1,aR u.2]) (by rw[g,aR (by omega),bw rfl])
theorem jj.self{i:Nat}(hc:sW W c)(b:∀r∈l,W r):jj c l i i:=λx y d hy=>by
 rw[d]at hy;cases hy;have:=arh d;intro q;exact hc.zo (b _ this) (b _ this) q q
theorem Hp.top{f h:Nat}(hc:sW W c)(b:∀r∈l,W r)(g:Hp c f h 0 l)(hl:f+h<=l.length):∀k,k<h->jj c l (f+k) f:=by
 intro k;induction k using Nat.strongRecOn with
 |ind k j=>
  intro d;rcases asF k with rfl|h0
  .exact jj.self hc b
  .have h1:=g ((k-1) / 2) k (by omega) (by unfold rf;omega) d;exact h1.trans hc b (j ((k-1) / 2) (by omega) (by omega)) (by omega)
def iF(c:List FC->List FC->Int)(f h j:Nat)(l:List (List FC)):Prop:=∀p q,p<q->j<=q->q<h->jj c l (f+p) (f+q)
theorem iF.swap{f h i:Nat}(hc:sW W c)(z:∀r∈l,W r)(s:iF c f h (i+1) l)(y:Hp c f (i+1) 0 l)(hi:i<h)(hl:f+h<=l.length):iF c f h i (gZ l f (f+i))/\XZ c f i 0 0 (gZ l f (f+i)):=by
 have g:∀q,(gZ l f (f+i))[f+q]?=if q=i then l[f]? else if q=0 then l[f+i]? else l[f+q]?:=λq=>by
  rw[gw (by omega) (by omega)];by_cases j:q=i
  .subst j;simp
  rw[aR (by omega),aR j];by_cases b:q=0
  .subst b;simp
  rw[aR (by omega),aR b]
 refine⟨λp q u E d=>?_,λx ch _ B v A=>?_,λx ch _ h1=>by unfold rf at h1;omega⟩
 .have top:=y.top hc z (by omega);by_cases e:q=i
  .subst e;by_cases b:p=0
   .subst b;exact(top q (by omega)).get (by rw[g,aR (by omega),bw rfl]) (by rw[g,bw rfl])
   .exact(top p (by omega)).get (by rw[g,aR (by omega),aR b]) (by rw[g,bw rfl])
  .have m:(gZ l f (f+i))[f+q]?=l[f+q]?:=by rw[g,aR e,aR (by omega)]
   by_cases j:p=i
   .subst j;exact(s 0 q (by omega) (by omega) d).get (by rw[g,bw rfl,Nat.add_zero]) m
   by_cases b:p=0
   .subst b;exact(s i q (by omega) (by omega) d).get (by rw[g,aR j,bw rfl]) m
   .exact(s p q u (by omega) d).get (by rw[g,aR j,aR b]) m
 .have h1:x<ch:=by unfold rf at v;omega
  have h2:ch≠0:=by omega
  exact(y x ch (by omega) v (by omega)).get (by rw[g,aR (by omega),aR h2]) (by rw[g,aR (by omega),aR B])
theorem iF.sU{f h i:Nat}{l':List (List FC)}(s:iF c f h i l)(g:eL f (f+i) l l')(hl:f+h<=l.length)(hi:i<=h):iF c f h i l':=by
 intro p q d u b x y m hy;rw[g.ge (by omega)]at hy;by_cases z:i<=p
 .rw[g.ge (by omega)]at m;exact s p q d u b x y m hy
 obtain⟨j,A,B,v⟩:=g.mem (by omega) (by omega) (by omega) (by omega) m;have:=s (j-f) q (by omega) u b x y;rw[show f+(j-f)=j by omega]at this;exact this v hy
theorem iF.up{f h:Nat}(b:iF c f h 0 l):Up c f (f+h) l:=λi j x y h1 h2 h3 d hy=>by
 have:=b (i-f) (j-f) (by omega) (by omega) (by omega) x y;rw[show f+(i-f)=i by omega,show f+(j-f)=j by omega]at this;exact this d hy
end
section
variable{tab:TB}{σ:gE}{sz:Nat}{H:aj}{b ep:Nat}{rows:List (List FC)}{cv:V}{W:List FC->Prop}{c:List FC->List FC->Int}
theorem BP(hT:tab σ.pY=aa (sH σ sz))(a_:Cv tab cv W c)(Z:sW W c){n lo h f:Nat}(hn:rows.length=n)(hl:n<=1000000000)(d:RB H b sz ep rows)(hg:cd sz rows)(hW:∀r∈rows,W r)(b_:lo<=h)(c6:f+h<=n)(hx:XZ c f h lo lo rows) :
  ∃r H',Ev tab (.fn σ.pY) [.c (.sl b 0 n 0 ep sz),vi lo,vi h,vi f,cv] H r H'/\(r=.t []/\Fm b H H'/\∃l',RB H' b sz ep l'/\eL f (f+h) rows l'/\Hp c f h lo l'):=by
 refine cz hT rfl λQ hQ=>?_;apply ai;simp;refine az ?_;refine bT (λm s=>∃(r:Nat) (t:T) (H1:aj) (l:List (List FC)),s=⟨t,[],H1⟩/\m=h-r/\lo<=r/\r<=h/\t.g 0=.c (.sl b 0 n 0 ep sz)/\t.g 2=vi h/\t.g 3=vi f/\t.g 4=cv/\t.g 10=vi r/\
  Fm b H H1/\RB H1 b sz ep l/\eL f (f+h) rows l/\XZ c f h lo r l) _
  ⟨lo,_,H,rows,rfl,rfl,by omega,b_,by simp,by simp,by simp,by simp,by simp,Fm.refl H,d,eL.refl _ _ _,hx⟩ ?_
 rintro m s ⟨r,t,H1,l,rfl,rfl,c5,c_,K,L,M,S,g10,z,d,g,hx⟩ ih;have B:=g.len;have X:=g.qD hg;have v:∀r∈l,W r:=λr hr=>hW r (g.1.mem_iff.1 hr);have cf:∀q:Nat,((f+q:Nat):Int)=(f:Int)+q:=λq=>by omega
 refine az ?_;apply ai;simp[g10,aM (n:=(2:Int)*r),aM (n:=(2:Int)*r+1)];apply an;apply ai;simp[L];by_cases Y:h<=2*r+1
 .refine au (by simp;omega) ?_;refine aS (k':=[]) rfl ?_;exact cW (hQ _ _ _ rfl rfl ⟨rfl,z,l,d,g,hx.leaf Y⟩)
 refine aA (by simp;omega) (aJ ?_);apply an;have go:∀(t:T) (H2:aj) (ch:Nat),rf r ch->ch<h->(∀q,rf r q->q<h->jj c l (f+q) (f+ch))->t.g 0=.c (.sl b 0 n 0 ep sz)->t.g 2=vi h->t.g 3=vi f->t.g 4=cv->t.g 10=vi r->t.g 11=vi ch->Fm b H H2->RB H2 b sz ep l->
   WP tab σ.pY ab [.code (BO sz),.inBlock 1,.inLoop (Z9 sz),.inBlock 0] ⟨t,[],H2⟩ Q:=by
  intro t H2 ch hk a8 N K L M S g10 O z d;obtain⟨x,y,F,ar,J,E,I,i1,j1,l1,l2,A,he,-,-⟩:=d.ask X a_ v (B.trans hn) (i:=f+r) (j:=f+ch) (by omega) (by omega);rw[cf]at i1 j1;apply an;apply ai;simp[K,M,S,g10,O,i1,j1,l1,l2,A,he,-aD,aM (n:=(f:Int)+r),aM (n:=(f:Int)+ch)];by_cases u:c x y<0
  case neg=>
   refine au (by simp[u]) ?_;exact aB (hQ _ _ _ rfl rfl ⟨rfl,z.trans (Fm.push _ _),l,d.push _,g,hx.stop Z v (by omega) hk a8 N (jj.of_le I E u)⟩)
  refine ba (by simp[u]) ?_;obtain⟨x5,y5,H5,H6,-,-,i5,j5,l5,l6,w5,w6,s5,j6,s6,r6,f6⟩:=(d.push J).gZ X (B.trans hn) (i:=f+r) (j:=f+ch) (by omega) (by omega);rw[cf]at i5 j5 j6;apply ai;simp[K,M,g10,O,i5,j5,l5,l6,w5,w6,s5,j6,s6,-aD,-bC,aM (n:=(f:Int)+r),aM (n:=(f:Int)+ch)];refine aq (.inl rfl) ?_;simp[O];refine ay ?_;have c9:r<ch:=by unfold rf at hk;omega
  exact ih _ _ (by omega) ⟨ch,_,H6,_,rfl,rfl,by omega,by omega,by simp[K],by simp[L],by simp[M],by simp[S],by simp,(z.trans (Fm.push _ _)).trans f6,r6,
   g.trans (fg (by omega) (by omega) (by omega) (by omega) (by omega)),hx.step Z v (by omega) c5 hk a8 N E I u⟩
 apply an;refine aq (.inl rfl) ?_;by_cases h2:2*r+2<h
 case neg=>
  have U:¬ ((2:Int)*r+1+1<h):=by omega
  simp[L,U,aM (n:=(2:Int)*r+1+1)];refine ba (by simp) ?_;refine go _ H1 (2*r+1) (.inl rfl) (by omega) (λq hq b7=>?_) (by simp[K]) (by simp[L]) (by simp[M]) (by simp[S]) (by simp[g10]) (by simp) z d;have:q=2*r+1:=by unfold rf at hq;omega
  subst this;exact jj.self Z v
 have U:((2:Int)*r+1+1<h):=by omega
 obtain⟨x,y,F,ar,J,E,I,i1,j1,l1,l2,A,he,-,-⟩:=d.ask X a_ v (B.trans hn) (i:=f+(2*r+1)) (j:=f+(2*r+2)) (by omega) (by omega);have e1:((f+(2*r+1):Nat):Int)=(f:Int)+(2*r+1):=by omega
 have e2:((f+(2*r+2):Nat):Int)=(f:Int)+(2*r+1)+1:=by omega
 rw[e1]at i1;rw[e2]at j1;simp[K,L,M,S,U,i1,j1,l1,l2,A,he,-aD,aM (n:=(2:Int)*r+1+1),aM (n:=(f:Int)+(2*r+1)),aM (n:=(f:Int)+(2*r+1)+1)];by_cases u:c x y<0
 .refine au (by simp[u]) ?_;refine aq (.inl rfl) ?_;simp[aM (n:=(2:Int)*r+1+1)];refine go _ _ (2*r+2) (.inr rfl) (by omega) (λq hq b7=>?_) (by simp[K]) (by simp[L]) (by simp[M]) (by simp[S]) (by simp[g10]) (by simp;omega) (z.trans (Fm.push _ _)) (d.push _);rcases hq with rfl|rfl
  .exact jj.of_lt Z v E I u
  .exact jj.self Z v
 .refine ba (by simp[u]) ?_;refine go _ _ (2*r+1) (.inl rfl) (by omega) (λq hq b7=>?_) (by simp[K]) (by simp[L]) (by simp[M]) (by simp[S]) (by simp[g10]) (by simp) (z.trans (Fm.push _ _)) (d.push _);rcases hq with rfl|rfl
  .exact jj.self Z v
  .exact jj.of_le I E u
theorem afs(hT:tab σ.heap=aa (vz σ sz))(hS:tab σ.pY=aa (sH σ sz))(N:Cv tab cv W c)(Z:sW W c){n a e:Nat}(hn:rows.length=n)(hl:n<=1000000000)(u:RB H b sz ep rows)(hg:cd sz rows)(hW:∀r∈rows,W r)(c6:a<e)(a_:e<=n) :
  ∃r H',Ev tab (.fn σ.heap) [.c (.sl b 0 n 0 ep sz),vi a,vi e,cv] H r H'/\(r=.t []/\Fm b H H'/\∃l',RB H' b sz ep l'/\eL a e rows l'/\Up c a e l'):=by
 obtain⟨h,rfl⟩:∃h,e=a+h:=⟨e-a,by omega⟩
 have hw:IntKind.i64.wrap ((a:Int)+h-a)=h:=by rw[aM];omega
 have hq:bL .quo (vi ((h:Int)-1)) (vi 2)=aa (vi (((h-1) / 2:Nat):Int)):=by
  have:=agL (a:=h-1) (b:=2) (by omega) (by omega);rwa[show((h-1:Nat):Int)=(h:Int)-1 by omega]at this
 refine cz hT rfl λQ hQ=>?_;apply ai;simp;apply ai;simp;apply ai;simp[hw];have x:∀{l},eL a (a+h) rows l->cd sz l:=λh=>h.qD hg;have B:∀{l},eL a (a+h) rows l->∀r∈l,W r:=λh r hr=>hW r (h.1.mem_iff.1 hr);apply an;apply ai;simp[hq,aM (n:=(h:Int)-1)];refine az ?_;refine bT (λm s=>∃(t:T) (E:aj) (l:List (List FC)),s=⟨t,[],E⟩/\m<=h/\t.g 0=.c (.sl b 0 n 0 ep sz)/\t.g 3=cv/\t.g 8=vi a/\t.g 9=vi 0/\t.g 10=vi h/\t.g 11=vi ((m:Int)-1)/\
  Fm b H E/\RB E b sz ep l/\eL a (a+h) rows l/\Hp c a h m l) ((h-1) / 2+1)
  ⟨_,H,rows,rfl,by omega,by simp,by simp,by simp,by simp,by simp,by simp,Fm.refl H,u,eL.refl _ _ _,λi ch h1 h2 h3=>by unfold rf at h2;omega⟩ ?_
 rintro m s ⟨t,E,l,rfl,b_,I,K,J,M,g10,F,y,u,g,O⟩ ih;have z:=g.len;apply an;apply ai;simp[F];rcases asF m with rfl|b7
 case inr=>
  obtain⟨d,rfl⟩:∃d,m=d+1:=⟨m-1,by omega⟩
  have X:((d+1:Nat):Int)-1=d:=by omega
  rw[X]at F;refine au (by simp;omega) (aJ ?_);obtain⟨r,U,L,rfl,Y,l2,r2,S,p2⟩:=BP hS N Z (z.trans hn) hl u (x g) (B g) (lo:=d) (h:=h) (f:=a) (by omega) a_ O.x;apply an;refine az (aq (.inl rfl) ?_);simp[I,K,J,g10,F,L.eq];refine ay (aq (.inl rfl) ?_);simp[F,aM (n:=(d:Int)-1)];exact ih d _ (by omega) ⟨_,U,l2,rfl,by omega,by simp[I],by simp[K],by simp[J],by simp[M],by simp[g10],by simp,y.trans Y,r2,g.trans S,p2⟩
 refine aA (by simp) ?_;refine aS (k':=[.code (Bd σ sz)]) rfl ?_;apply ai;simp[g10,aM (n:=(h:Int)-1)];refine az ?_;refine bT (λm s=>∃(t:T) (E:aj) (l:List (List FC)),s=⟨t,[],E⟩/\m<=h/\t.g 0=.c (.sl b 0 n 0 ep sz)/\t.g 3=cv/\t.g 8=vi a/\t.g 9=vi 0/\t.g 12=vi ((m:Int)-1)/\
  Fm b H E/\RB E b sz ep l/\eL a (a+h) rows l/\Hp c a m 0 l/\iF c a h m l) h
  ⟨_,E,l,rfl,by omega,by simp[I],by simp[K],by simp[J],by simp[M],by simp,y,u,g,O,λp q h1 h2 h3=>by omega⟩ ?_
 rintro m s ⟨t,E,l,rfl,b_,I,K,J,M,v,y,u,g,O,hd⟩ ih;have z:=g.len;apply an;apply ai;simp[v];rcases asF m with rfl|b7
 .refine aA (by simp) ?_;refine aS (k':=[]) rfl ?_;exact cW (hQ _ _ _ rfl rfl ⟨rfl,y,l,u,g,hd.up⟩)
 obtain⟨d,rfl⟩:∃d,m=d+1:=⟨m-1,by omega⟩
 have X:((d+1:Nat):Int)-1=d:=by omega
 rw[X]at v;refine au (by simp;omega) (aJ ?_);obtain⟨x5,y5,H5,H6,-,-,i5,j5,l5,l6,w5,w6,s5,j6,s6,r6,f6⟩:=u.gZ (x g) (z.trans hn) (i:=a) (j:=a+d) (by omega) (by omega);have ce:((a+d:Nat):Int)=(a:Int)+d:=by omega
 rw[ce]at j5 j6;obtain⟨a8,c5⟩:=hd.swap Z (B g) O (by omega) (by omega);have A:eL a (a+h) rows (gZ l a (a+d)):=g.trans (fg (by omega) (by omega) (by omega) (by omega) (by omega));obtain⟨r,U,L,rfl,Y,l2,r2,S,p2⟩:=BP hS N Z (A.len.trans hn) hl r6 (x A) (B A) (lo:=0) (h:=d) (f:=a) (by omega) (by omega) c5;have L:=L.eq;simp at L;apply an;refine az ?_;apply ai;simp[I,J,v,i5,j5,l5,l6,w5,w6,s5,j6,s6,-aD,-bC,aM (n:=(a:Int)+d)];refine aq (.inl rfl) ?_;simp[I,K,J,M,v,L];refine ay (aq (.inl rfl) ?_);simp[v,aM (n:=(d:Int)-1)];exact ih d _ (by omega) ⟨_,U,l2,rfl,by omega,by simp[I],by simp[K],by simp[J],by simp[M],by simp,(y.trans f6).trans Y,r2,A.trans (S.mono (aq9 _) (by omega)),p2,
  a8.sU S (by rw[A.len];omega) (by omega)⟩
end
abbrev vu(n:Int):V:=.c (.f (.int .u64 n))
def NU(H:aj)(p:Nat):Prop:=∃k:Int,H[p]?=aa (.box [.f (.int .u64 k)] 0)
theorem aoW{a b:Int}(d:0<=b):bL .shl (vu a) (vu b)=aa (vu (IntKind.wrap .u64 (a*2 ^ (min b.toNat 64)))):=by
 simp only[bL,aR (show¬ b<0 by omega)];rfl
theorem aoY{a b:Int}(d:0<=b):bL .shr (vu a) (vu b)=aa (vu (a.fdiv (2 ^ (min b.toNat 64)))):=by
 simp only[bL,aR (show¬ b<0 by omega)];rfl
theorem apa{a b:Int}:bL .xor (vu a) (vu b)=aa (vu (IntKind.wrap .u64 (BitVec.ofInt 64 a ^^^ BitVec.ofInt 64 b).toNat)):=by
 simp only[bL,iT,if_true];rfl
theorem uW(n:Int):IntKind.wrap .u64 n=n % 18446744073709551616:=rfl
theorem Yl{x:Int}{k:Nat}(j:k<=62):∃o:Nat,o<2 ^ k/\bL .and (vu x) (vu ((2:Int) ^ k-1))=aa (vu o):=by
 have l:(2:Nat) ^ k<=2 ^ 62:=atO (by omega) j;have g:(2:Nat) ^ 62=4611686018427387904:=by decide
 have b:0<(2:Nat) ^ k:=Nat.pow_pos (by omega);have e:BitVec.ofInt 64 ((2:Int) ^ k-1)=BitVec.ofNat 64 (2 ^ k-1):=by
  have:((2:Int) ^ k-1)=((2 ^ k-1:Nat):Int):=by
   rw[Int.ofNat_sub b];simp
  rw[this,BitVec.ofInt_natCast]
 refine⟨(BitVec.ofInt 64 x).toNat % 2 ^ k,Nat.mod_lt _ b,?_⟩;have d:(BitVec.ofInt 64 x &&& BitVec.ofInt 64 ((2:Int) ^ k-1)).toNat=(BitVec.ofInt 64 x).toNat % 2 ^ k:=by
  rw[e,BitVec.toNat_and,BitVec.toNat_ofNat,Nat.mod_eq_of_lt (a:=2 ^ k-1) (by omega),Nat.and_two_pow_sub_one_eq_mod]
 have m:(BitVec.ofInt 64 x).toNat % 2 ^ k<2 ^ k:=Nat.mod_lt _ b;simp only[bL,iT,if_true];show aa (vu (IntKind.wrap .u64 ((BitVec.ofInt 64 x &&& BitVec.ofInt 64 ((2:Int) ^ k-1)).toNat)))=_;rw[d,uW,arP (by omega) (by omega)]
section
variable{tab:TB}{σ:gE}{sz:Nat}{H:aj}{b ep:Nat}{rows:List (List FC)}{cv:V}{W:List FC->Prop}{c:List FC->List FC->Int}
theorem NU.fm{p b:Nat}{H H':aj}(h:NU H p)(d:Fm b H H')(e:p≠b):NU H' p:=by
 obtain⟨k,h⟩:=h;exact⟨k,d.get h e⟩
theorem Fm.far{p b:Nat}{H d g:aj}(h:Fm b H d)(q:H.length<=p)(m:Fm p d g):Fm b H g:=
 ⟨arB h.1 m.1,λj n l=>(m.2 j (by omega) (asg l h.1)).trans (h.2 j n l)⟩
theorem ahq(a:Int)(b:Int)(d:0<=b):∃v,bL .shl (.c (.f (.int .u64 a))) (.c (.f (.int .u64 b)))=aa (.c (.f (.int .u64 v))):=⟨_,aoW d⟩
theorem aoZ(a:Int)(b:Int)(d:0<=b):∃v,bL .shr (.c (.f (.int .u64 a))) (.c (.f (.int .u64 b)))=aa (.c (.f (.int .u64 v))):=⟨_,aoY d⟩
theorem aat(a b:Int):∃v,bL .xor (.c (.f (.int .u64 a))) (.c (.f (.int .u64 b)))=aa (.c (.f (.int .u64 v))):=⟨_,apa⟩
theorem aj1(X:tab σ.Zu=aa (yg σ sz)){p:Nat}(s:NU H p) :
  ∃r H',Ev tab (.fn σ.Zu) [.c (.ptr p 0 0)] H r H'/\((∃k:Int,r=vu k)/\Fm p H H'/\NU H' p):=by
 obtain⟨k,s⟩:=s;have x:=av s;have j:∀(H:aj) (k:Int),p<H.length->(H.set p (.box [.f (.int .u64 k)] 0))[p]?=aa (.box [.f (.int .u64 k)] 0):=λH k h=>aq6 h;refine cz X rfl λQ W=>?_;apply ai;simp;obtain⟨a1,L⟩:=ahq k 13 (by omega);obtain⟨m,M⟩:=aat k a1;apply ai;simp[s,L,M];obtain⟨u,b⟩:=aQ (H.set p (.box [.f (.int .u64 m)] 0));rw[<-b];have z:u[p]?=aa (.box [.f (.int .u64 m)] 0):=by rw[b];exact j _ _ x
 have I:Fm p H u:=by rw[b];exact Fm.set _ _
 obtain⟨E,N⟩:=aoZ m 7 (by omega);obtain⟨q,O⟩:=aat m E;apply ai;simp[z,N,O];obtain⟨v,d⟩:=aQ (u.set p (.box [.f (.int .u64 q)] 0));rw[<-d];have A:v[p]?=aa (.box [.f (.int .u64 q)] 0):=by rw[d];exact j _ _ (av z)
 have J:Fm p H v:=by rw[d];exact I.trans (Fm.set _ _)
 obtain⟨F,S⟩:=ahq q 17 (by omega);obtain⟨l,U⟩:=aat q F;apply ai;simp[A,S,U];obtain⟨y,g⟩:=aQ (v.set p (.box [.f (.int .u64 l)] 0));rw[<-g];have B:y[p]?=aa (.box [.f (.int .u64 l)] 0):=by rw[g];exact j _ _ (av A)
 have K:Fm p H y:=by rw[g];exact J.trans (Fm.set _ _)
 apply ai;simp[B];exact aB (W _ _ (vu l) rfl (by simp[Km.results,aX]) ⟨⟨l,rfl⟩,K,l,B⟩)
theorem aj0(q:tab σ.Zt=aa (ye σ sz)){L k:Nat}(b:bH tab σ.len [vu L]=Eq (vi k))(v:L<=1000000000)(s:k<=62):bH tab σ.Zt [vi L] (vu ((2:Int) ^ k)):=by
 refine bD q rfl λQ m=>?_;apply ai;simp;have d:IntKind.wrap .u64 (L:Int)=L:=by rw[uW];omega
 have j:(2:Nat) ^ k<=2 ^ 62:=atO (by omega) s;have l:(2:Nat) ^ 62=4611686018427387904:=by decide
 have u:bL .shl (.c (.f (.int .u64 1))) (.c (.f (.int .i64 (k:Int))))=aa (vu ((2:Int) ^ k)):=by
  simp only[bL,aR (show¬ (k:Int)<0 by omega)];show aa (vu (IntKind.wrap .u64 (1*2 ^ (min (k:Int).toNat 64))))=_;have g:((2:Int) ^ k)=((2 ^ k:Nat):Int):=by simp
  obtain⟨w,d⟩:=aQ (2 ^ k:Nat);rw[<-d]at g j;rw[ar7,Nat.min_eq_left (by omega),Int.one_mul,uW,g,arP (by omega) (by omega)]
 apply ai;simp[d,b,u];exact aB (m _ _ ⟨rfl,_,by simp[Km.results,aX];rfl,by simp⟩)
theorem ajh(hT:tab σ.Yq=aa (A0 σ sz))(hN:tab σ.Zu=aa (yg σ sz))(hP:tab σ.Zt=aa (ye σ sz)){n a L k:Nat}(I:bH tab σ.len [vu L]=Eq (vi k))(U:k<=62)(c6:2 ^ k<=2*L)(hn:rows.length=n)(hl:n<=1000000000)(v:RB H b sz ep rows)(hg:cd sz rows)(h8:8<=L)(b_:a+L<=n) :
  ∃r H',Ev tab (.fn σ.Yq) [.c (.sl b 0 n 0 ep sz),vi a,vi (a+L:Nat),cv] H r H'/\(r=.t []/\Fm b H H'/\∃l',RB H' b sz ep l'/\eL a (a+L) rows l'):=by
 have N:=(aj0 (σ:=σ) (sz:=sz) hP I (by omega) U).eq;obtain⟨d,hd⟩:=aQ (L / 4);have hq:bL .quo (vi (L:Int)) (vi 4)=aa (vi (d:Int)):=by
  have:=agL (a:=L) (b:=4) (by omega) (by omega);rw[hd];exact this
 have hw:IntKind.i64.wrap ((a:Int)+L-a)=L:=by rw[aM];omega
 have Y:IntKind.wrap .u64 (L:Int)=L:=by rw[uW];omega
 have h2:(2:Nat) ^ k<=2 ^ 62:=atO (by omega) U;have a8:(2:Nat) ^ 62=4611686018427387904:=by decide
 have c_:0<(2:Nat) ^ k:=Nat.pow_pos (by omega);have hp:((2:Int) ^ k)=((2 ^ k:Nat):Int):=by simp
 have X:IntKind.wrap .u64 ((2:Int) ^ k-1)=(2:Int) ^ k-1:=by rw[uW,hp,arP (by omega) (by omega)]
 refine cz hT rfl λQ hQ=>?_;apply ai;simp[hw];apply an;refine aq (.inl rfl) ?_;simp;refine au (by simp;omega) ?_;have b7:=v.lt;apply ai;simp[Y];obtain⟨y,z⟩:=aQ (H++[.box [.f (.int .u64 (L:Int))] 0]);rw[<-z];have p1:NU y H.length:=⟨L,by rw[z];simp⟩
 have f1:Fm b H y:=by rw[z];exact Fm.push _ _
 have r1:RB y b sz ep rows:=by rw[z];exact v.push _
 apply ai;simp[N];apply ai;simp[hq,aM (n:=(d:Int)*2),aM (n:=(a:Int)+d*2),aM (n:=(a:Int)+d*2-1)];refine az ?_;refine bT (λm s=>∃(i:Nat) (t:T) (y:aj) (l:List (List FC)),s=⟨t,[],y⟩/\i+m=a+d*2+2/\a<=i/\i<=a+d*2+2/\t.g 0=.c (.sl b 0 n 0 ep sz)/\t.g 1=vi a/\t.g 8=vi L/\t.g 9=.c (.ptr H.length 0 0)/\t.g 10=vu ((2:Int) ^ k)/\t.g 11=vi i/\
  Fm b H y/\NU y H.length/\RB y b sz ep l/\eL a (a+L) rows l) 3
  ⟨a+d*2-1,_,y,rows,rfl,by omega,by omega,by omega,by simp,by simp,by simp,by simp,by simp,by simp;omega,f1,p1,r1,eL.refl _ _ _⟩ ?_
 rintro m s ⟨i,t,y,l,rfl,hm,a_,hi,E,B,A,F,g10,u,K,W,v,g⟩ ih;have M:=g.len;apply an;apply ai;simp[B,A,u,hq,aM (n:=(d:Int)*2),aM (n:=(a:Int)+d*2),aM (n:=(a:Int)+d*2+1)];by_cases c9:i<=a+d*2+1
 case neg=>
  refine aA (by simp;omega) ?_;refine aS (k':=[]) rfl ?_;exact cW (hQ _ _ _ rfl rfl ⟨rfl,K,l,v,g⟩)
 refine au (by simp;omega) (aJ ?_);obtain⟨r,Z,S,⟨x,rfl⟩,f2,n2⟩:=aj1 (σ:=σ) (sz:=sz) hN W;have S:=S.eq;obtain⟨o,ho,J⟩:=Yl (x:=x) (k:=k) U;have r2:RB Z b sz ep l:=f2.get v (by omega);have f3:=K.far (aq9 _) f2;apply an;refine az ?_;apply ai;simp[F,g10,S,X,J,aM (n:=(o:Int))];have go:∀(t:T) (q:Nat),q<L->t.g 0=.c (.sl b 0 n 0 ep sz)->t.g 1=vi a->t.g 8=vi L->t.g 9=.c (.ptr H.length 0 0)->t.g 10=vu ((2:Int) ^ k)->t.g 11=vi i->t.g 12=vi q->
   WP tab σ.Yq ab [.code (Ys sz),.inBlock 1,.code (Yt),.inLoop (Yr σ sz),.inBlock 0] ⟨t,[],Z⟩ Q:=by
  intro t q d5 E B A F g10 u O;obtain⟨x5,y5,H5,H6,-,-,i5,j5,l5,l6,w5,w6,s5,j6,s6,r6,f6⟩:=r2.gZ (g.qD hg) (M.trans hn) (i:=i) (j:=a+q) (by omega) (by omega);have ce:((a+q:Nat):Int)=(a:Int)+q:=by omega
  rw[ce]at j5 j6;refine aq (.inl rfl) ?_;simp[E,B,u,O,i5,j5,l5,l6,w5,w6,s5,j6,s6,-aD,-bC,aM (n:=(a:Int)+q)];refine ay (aq (.inl rfl) ?_);simp[u,aM (n:=(i:Int)+1)];exact ih (m-1) _ (by omega) ⟨i+1,_,H6,_,rfl,by omega,by omega,by omega,by simp[E],by simp[B],by simp[A],by simp[F],by simp[g10],by simp,f3.trans f6,n2.fm f6 (by omega),r6,
   g.trans (fg (by omega) (by omega) (by omega) (by omega) (by omega))⟩
 apply an;apply an;refine aq (.inl rfl) ?_;simp[A];by_cases c5:L<=o
 .refine au (by simp;omega) ?_;refine aq (.inl rfl) ?_;simp[A,aM (n:=(o:Int)-L)];exact go _ (o-L) (by omega) (by simp[E]) (by simp[B]) (by simp[A]) (by simp[F]) (by simp[g10]) (by simp[u]) (by simp;omega)
 .refine aA (by simp;omega) (aJ ?_);exact go _ o (by omega) (by simp[E]) (by simp[B]) (by simp[A]) (by simp[F]) (by simp[g10]) (by simp[u]) (by simp)
end
section
variable{W:List FC->Prop}{c:List FC->List FC->Int}{l l':List (List FC)}
def Rest(c:List FC->List FC->Int)(a p q e:Nat)(l:List (List FC)):Prop:=∀i j,a<=i->i<j->j<e->¬ (p<=i/\j<q)->jj c l i j
theorem Rest.all(c:List FC->List FC->Int)(a e:Nat)(l:List (List FC)):Rest c a a e e l:=λi j h1 h2 h3 b=>by omega
theorem Rest.sU{a p q e:Nat}(h:Rest c a p q e l)(b:eL p q l l')(d:p<=q)(A:q<=l.length)(H:a<=p)(I:q<=e):Rest c a p q e l':=by
 intro i j h1 h2 h3 F x y g hy;by_cases v:p<=i/\i<q
 .obtain⟨J,L,M,s⟩:=b.mem d A v.1 v.2 g;rw[b.ge (by omega)]at hy;exact h J j (by omega) (by omega) h3 (by omega) x y s hy
 by_cases z:p<=j/\j<q
 .obtain⟨K,N,O,u⟩:=b.mem d A z.1 z.2 hy;rw[b.lt (by omega)]at g;exact h i K h1 (by omega) (by omega) (by omega) x y g u
 have B:l'[i]?=l[i]?:=by
  by_cases m:i<p
  .exact b.lt m
  .exact b.ge (by omega)
 have E:l'[j]?=l[j]?:=by
  by_cases m:j<p
  .exact b.lt m
  .exact b.ge (by omega)
 rw[B]at g;rw[E]at hy;exact h i j h1 h2 h3 F x y g hy
theorem Rest.up{a p q e:Nat}(h:Rest c a p q e l)(hu:Up c p q l):Up c a e l:=λi j x y h1 h2 h3 d hy=>by
 by_cases b:p<=i/\j<q
 .exact hu i j x y b.1 h2 b.2 d hy
 .exact h i j h1 h2 h3 b x y d hy
theorem Rest.low{a p q e:Nat}(h:Rest c a p q e l)(hl:zk c a e l)(d:a<=p)(g:q<=e):zk c p q l:=λk h0 h1 h2=>by
 by_cases b:p=a
 .subst b;exact hl k h0 h1 (by omega)
 .exact h (p-1) k (by omega) (by omega) (by omega) (by omega)
theorem Rest.left{a p q e m:Nat}(F:Rest c a p q e l)(hc:sW W c)(s:∀r∈l,W r)(B:e<=l.length)(E:lZ c p q m l)(hu:Up c p m l)(h1:p<=m)(h2:m<q)(h3:q<=e):Rest c a (m+1) q e l:=by
 intro i j H A I J;by_cases g:p<=i/\j<q
 case neg=>exact F i j H A I g
 obtain⟨v,z,lo,hi⟩:=E;rcases asz j m with u|u|u
 .exact λx y d hy=>hu i j x y g.1 A u d hy
 .subst u;intro x y d hy;rw[z]at hy;cases hy;exact hc.zo (s _ (arh d)) (s _ (arh z)) (lo i x g.1 A d)
 .have b:i<=m:=by omega
  have right:jj c l m j:=λx y d hy=>by
   rw[z]at d;cases d;exact hi j y u g.2 hy
  rcases Nat.lt_or_eq_of_le b with b|b
  .have left:jj c l i m:=λx y d hy=>by
    rw[z]at hy;cases hy;exact hc.zo (s _ (arh d)) (s _ (arh z)) (lo i x g.1 b d)
   exact left.trans hc s right (by omega)
  .subst b;exact right
theorem Rest.right{a p q e m:Nat}(F:Rest c a p q e l)(hc:sW W c)(u:∀r∈l,W r)(B:e<=l.length)(E:lZ c p q m l)(hu:Up c (m+1) q l)(h1:p<=m)(h2:m<q)(h3:q<=e):Rest c a p m e l:=by
 intro i j H A I J;by_cases d:p<=i/\j<q
 case neg=>exact F i j H A I d
 obtain⟨v,s,lo,hi⟩:=E;rcases asz i m with g|g|g
 .have left:jj c l i m:=λx y b hy=>by
   rw[s]at hy;cases hy;exact hc.zo (u _ (arh b)) (u _ (arh s)) (lo i x d.1 g b)
  rcases Nat.lt_or_eq_of_le (show m<=j by omega)with z|z
  .have right:jj c l m j:=λx y b hy=>by
    rw[s]at b;cases b;exact hi j y z d.2 hy
   exact left.trans hc u right (by omega)
  .subst z;exact left
 .subst g;intro x y b hy;rw[s]at b;cases b;exact hi j y A d.2 hy
 .exact λx y b hy=>hu i j x y (by omega) A d.2 b hy
theorem Rest.equal{a p q e m:Nat}{v:List FC}(I:Rest c a p q e l)(hc:sW W c)(g:∀r∈l,W r)(b:zk c p q l)(h0:0<p){w:List FC}(A:l[p-1]?=aa w)(z:W v)(u:¬ c w v<0)
  (lo:∀(k:Nat) x,p<=k->k<m->l[k]?=aa x->¬ c v x<0):Rest c a m q e l:=by
 intro i j J K L O;by_cases d:p<=i/\j<q
 case neg=>exact I i j J K L d
 intro x y B hy;have s:i<m:=by omega
 have F:=lo i x d.1 s B;have H:=b j h0 (by omega) d.2 w y A hy;have N:=g _ (arh B);have E:=g _ (arh hy);have M:=g _ (arh A);exact hc.trans N z E F (hc.trans z M E u H)
theorem lZ.sU{p q m g q':Nat}(F:lZ c p q m l)(d:eL g q' l l')(h:(p<=g/\q'<=m)\/(m<g/\q'<=q))(s:g<=q')(hl:q'<=l.length):lZ c p q m l':=by
 obtain⟨v,B,lo,hi⟩:=F;refine⟨v,?_,λk x u y b=>?_,λk x u y b=>?_⟩
 .rcases h with h|h
  .rw[d.ge (by omega)];exact B
  .rw[d.lt (by omega)];exact B
 .by_cases j:g<=k/\k<q'
  .obtain⟨k',a1,E,A⟩:=d.mem s hl j.1 j.2 b;rcases h with h|h
   .exact lo k' x (by omega) (by omega) A
   .omega
  .by_cases z:k<g
   .rw[d.lt z]at b;exact lo k x u y b
   .rw[d.ge (by omega)]at b;exact lo k x u y b
 .by_cases j:g<=k/\k<q'
  .obtain⟨k',a1,E,A⟩:=d.mem s hl j.1 j.2 b;rcases h with h|h
   .omega
   .exact hi k' x (by omega) (by omega) A
  .by_cases z:k<g
   .rw[d.lt z]at b;exact hi k x u y b
   .rw[d.ge (by omega)]at b;exact hi k x u y b
end
structure Pq(b n ep sz:Nat)(cv:V)(H:aj)(c:List FC->List FC->Int)(rows:List (List FC))(a e:Nat)(t:T)(H1:aj)(l:List (List FC))(p q:Nat)(lim:Int):Prop where
 g0:t.g 0=.c (.sl b 0 n 0 ep sz)
 g1:t.g 1=vi p
 g2:t.g 2=vi q
 g3:t.g 3=vi lim
 g4:t.g 4=cv
 fr:Fm b H H1
 rb:RB H1 b sz ep l
 sg:eL a e rows l
 re:Rest c a p q e l
 ap:a<=p
 pq:p<=q
 qe:q<=e
theorem Pq.aF{b n ep sz:Nat}{cv:V}{H:aj}{c:List FC->List FC->Int}{rows:List (List FC)}{a e:Nat}{t:T}{g:aj}{l:List (List FC)}{p q:Nat}{lim:Int}(h:Pq b n ep sz cv H c rows a e t g l p q lim)
  {d:T} (j:d.g 0=t.g 0) (m:d.g 1=t.g 1) (s:d.g 2=t.g 2) (u:d.g 3=t.g 3) (v:d.g 4=t.g 4):Pq b n ep sz cv H c rows a e d g l p q lim:=
 ⟨j.trans h.g0,m.trans h.g1,s.trans h.g2,u.trans h.g3,v.trans h.g4,h.fr,h.rb,h.sg,h.re,h.ap,h.pq,h.qe⟩
theorem Pq.sU{b n ep sz:Nat}{cv:V}{H:aj}{c:List FC->List FC->Int}{rows:List (List FC)}{a e:Nat}{t:T}{g:aj}{l:List (List FC)}{p q:Nat}{lim:Int}(h:Pq b n ep sz cv H c rows a e t g l p q lim)
  {d:aj} {l2:List (List FC)} (s:Fm b g d) (hb:RB d b sz ep l2) (j:eL p q l l2) (m:e<=rows.length):Pq b n ep sz cv H c rows a e t d l2 p q lim:=
 ⟨h.g0,h.g1,h.g2,h.g3,h.g4,h.fr.trans s,hb,h.sg.trans (j.mono h.ap h.qe),h.re.sU j h.pq (by rw[h.sg.len];exact arB h.qe m) h.ap h.qe,h.ap,h.pq,h.qe⟩
structure anj(tab:TB)(σ:gE)(sz:Nat):Prop where
 sh:tab σ.sh=aa (Bs σ sz)
 ins:tab σ.ins=aa (ug σ sz)
 heap:tab σ.heap=aa (vz σ sz)
 pY:tab σ.pY=aa (sH σ sz)
 Yq:tab σ.Yq=aa (A0 σ sz)
 LL:tab σ.LL=aa (BB σ sz)
 rev:tab σ.rev=aa (BF σ sz)
 part:tab σ.part=aa (vM σ sz)
 Bu:tab σ.Bu=aa (Bv σ sz)
 pins:tab σ.pins=aa (vP σ sz)
 pN:tab σ.pN=aa (rN σ sz)
 K9:tab σ.K9=aa (uC σ sz)
 ord:tab σ.ord=aa (rW σ sz)
 Zt:tab σ.Zt=aa (ye σ sz)
 Zu:tab σ.Zu=aa (yg σ sz)
section
variable{tab:TB}{σ:gE}{sz:Nat}{b ep n:Nat}{cv:V}{W:List FC->Prop}{c:List FC->List FC->Int}
theorem akH(hT:anj tab σ sz)(a_:Cv tab cv W c)(hc:sW W c)(hl:n<=1000000000)(d5:∀L:Nat,L<=n->∃k:Nat,bH tab σ.len [vu L]=Eq (vi k)/\k<=62/\(0<L->2 ^ k<=2*L)) :
  ∀(m a e:Nat) (H:aj) (rows:List (List FC)) (lim:Int),e-a=m->a<=e->e<=n->rows.length=n->RB H b sz ep rows->cd sz rows->(∀r∈rows,W r)->zk c a e rows->
  ∃r H',Ev tab (.fn σ.sh) [.c (.sl b 0 n 0 ep sz),vi a,vi e,vi lim,cv] H r H'/\(r=.t []/\Fm b H H'/\∃l',RB H' b sz ep l'/\eL a e rows l'/\Up c a e l'):=by
 intro m;induction m using Nat.strongRecOn with
 |ind m IH=>
 intro a e H rows lim hm d6 d8 hn i9 hg hW d_;have I:∀{l p q},eL p q rows l->cd sz l:=λh=>h.qD hg;have B:∀{l p q},eL p q rows l->∀r∈l,W r:=λh r hr=>hW r (h.1.mem_iff.1 hr);refine cz hT.sh rfl λQ hQ=>?_;have done:∀{K:aj} {l:List (List FC)},Fm b H K->RB K b sz ep l->eL a e rows l->Up c a e l->∀(j:Option ax) (t:T),Q j ⟨t,[],K⟩:=
  λhf hr hs hu j t=>hQ _ _ (.t []) rfl rfl ⟨rfl,hf,_,hr,hs,hu⟩
 apply ai;simp;apply ai;simp;refine az ?_;refine bT (λm s=>∃(p q:Nat) (lim:Int) (w1 w2:Bool) (t:T) (K:aj) (l:List (List FC)),s=⟨t,[],K⟩/\m=q-p/\Pq b n ep sz cv H c rows a e t K l p q lim/\t.g 10=vb w1/\t.g 11=vb w2) _
  ⟨a,e,lim,ae,ae,_,H,rows,rfl,rfl,⟨by simp,by simp,by simp,by simp,by simp,Fm.refl H,i9,eL.refl _ _ _,Rest.all c a e rows,aq9 _,d6,aq9 _⟩,by simp,by simp⟩ ?_
 rintro m1 s ⟨p,q,lim,w1,w2,t,K,l,rfl,rfl,u,g10,M⟩ ih;obtain⟨O,S,N,g3,U,-,-,-,-,ap,pq,qe⟩:=id u;refine az ?_;apply ai;obtain⟨L,rfl⟩:∃L,q=p+L:=⟨q-p,by omega⟩
 have hw:IntKind.i64.wrap ((p:Int)+L-p)=L:=by rw[aM];omega
 have z:∀{K t l lim p q},Pq b n ep sz cv H c rows a e t K l p q lim->l.length=n:=λh=>h.sg.len.trans hn;have b7:∀{K t l lim p q},Pq b n ep sz cv H c rows a e t K l p q lim->zk c p q l:=λh=>h.re.low (d_.sU h.sg (aq9 _) (aq9 _) d6 (by omega)) h.ap h.qe;simp[S,N,hw];apply an;apply ai;simp;by_cases i_:L<=12
 .refine au (by simp;omega) ?_;obtain⟨r,H2,A,rfl,f2,l2,r2,s2,u2⟩:=ajM hT.ins a_ hc (z u) hl u.rb (I u.sg) (B u.sg) u.pq (by omega);apply ai;have A:=A.eq;simp at A;simp[O,S,N,U,A];have g:=u.sU f2 r2 s2 (by omega);exact aB (done g.fr g.rb g.sg (g.re.up u2) _ _)
 refine aA (by simp;omega) (aJ ?_);apply an;apply ai;simp[g3];by_cases d9:lim=0
 .refine au (by simp[d9]) ?_;obtain⟨r,H2,A,rfl,f2,l2,r2,s2,u2⟩:=afs hT.heap hT.pY a_ hc (z u) hl u.rb (I u.sg) (B u.sg) (show p<p+L by omega) (by omega);apply ai;have A:=A.eq;simp at A;simp[O,S,N,U,A];have g:=u.sU f2 r2 s2 (by omega);exact aB (done g.fr g.rb g.sg (g.re.up u2) _ _)
 refine ba (by simp[d9]) ?_;have g_:∀(t:T) (K:aj) (l:List (List FC)) (lim:Int) (v:Nat),Pq b n ep sz cv H c rows a e t K l p (p+L) lim->t.g 12=vi L->t.g 13=vi v->p<=v->v<p+L->
   WP tab σ.sh ab [.code (ZN σ),.inBlock 1,.inLoop (uJ σ sz),.inBlock 0] ⟨t,[],K⟩ Q:=by
  intro t K l lim v u X Y Z a8;obtain⟨O,S,N,g3,U,-,-,-,-,-,-,-⟩:=id u;obtain⟨r,H2,A,mid,w,rfl,m1,m2,f2,l2,r2,s2,pt⟩:=agl hT.part a_ (z u) hl u.rb (I u.sg) (B u.sg) (show p<p+L by omega) (by omega) Z a8;have A:=A.eq;simp at A;have g:=u.sU f2 r2 s2 (by omega);have e_:=z g;obtain⟨d,hd⟩:=aQ (L / 8);have hq:bL .quo (vi (L:Int)) (vi 8)=aa (vi (d:Int)):=by
   have:=agL (a:=L) (b:=8) (by omega) (by omega);rw[hd];exact this
  apply ai;simp[O,S,N,U,Y,A];apply ai;simp;apply ai;simp[S,N];apply ai;simp[X,hq];apply an;refine aq (.inl rfl) ?_;simp[aM (n:=(mid:Int)-p),aM (n:=(p:Int)+L-mid)];by_cases j4:(mid:Int)-p<(p:Int)+L-mid
  .refine au (by simp;omega) ?_;obtain⟨r,H3,A,rfl,f3,l3,r3,s3,u3⟩:=IH (mid-p) (by omega) p mid H2 l2 lim rfl m1 (by omega) e_ r2 (I g.sg) (B g.sg) ((b7 g).mono (by omega));have A:=A.eq;have E:=g.sU f3 r3 (s3.mono (aq9 _) (by omega)) (by omega);apply ai;simp;apply ai;simp[O,S,g3,U,A];refine aq (.inl rfl) ?_;simp[aM (n:=(mid:Int)+1)];refine ay (ih _ _ (by omega) ⟨mid+1,p+L,lim,_,w,_,H3,l3,rfl,rfl,⟨by simp[O],by simp,by simp[N],by simp[g3],by simp[U],E.fr,E.rb,E.sg,?_,by omega,by omega,E.qe⟩,by simp;rfl,by simp⟩);exact E.re.left hc (B E.sg) (by rw[z E];exact d8) (pt.sU s3 (.inl ⟨aq9 _,aq9 _⟩) m1 (by omega)) u3 m1 m2 E.qe
  .refine aA (by simp;omega) ?_;have f8:zk c (mid+1) (p+L) l2:=λk h0 k1 k2 x y hx hy=>by
    obtain⟨v,hv,lo,hi⟩:=pt;rw[show mid+1-1=mid by omega,hv]at hx;cases hx;exact hi k y (by omega) k2 hy
   obtain⟨r,H3,A,rfl,f3,l3,r3,s3,u3⟩:=IH (p+L-(mid+1)) (by omega) (mid+1) (p+L) H2 l2 lim rfl (by omega) (by omega) e_ r2 (I g.sg) (B g.sg) f8;have A:=A.eq;simp at A;have E:=g.sU f3 r3 (s3.mono (by omega) (aq9 _)) (by omega);apply ai;simp;apply ai;simp[O,N,g3,U,A,aM (n:=(mid:Int)+1)];refine aq (.inl rfl) ?_;simp;refine ay (ih _ _ (by omega) ⟨p,mid,lim,_,w,_,H3,l3,rfl,rfl,⟨by simp[O],by simp[S],by simp,by simp[g3],by simp[U],E.fr,E.rb,E.sg,?_,by omega,by omega,by omega⟩,by simp;rfl,by simp⟩);exact E.re.right hc (B E.sg) (by rw[z E];exact d8) (pt.sU s3 (.inr ⟨by omega,aq9 _⟩) (by omega) (by omega)) u3 m1 m2 E.qe
 have c5:∀(t:T) (K:aj) (l:List (List FC)) (lim:Int) (v:Nat) (w1 w2:Bool),Pq b n ep sz cv H c rows a e t K l p (p+L) lim->t.g 12=vi L->t.g 13=vi v->t.g 10=vb w1->t.g 11=vb w2->p<=v->v<p+L->
   WP tab σ.sh ab [.code (ZM σ sz),.inBlock 1,.inLoop (uJ σ sz),.inBlock 0] ⟨t,[],K⟩ Q:=by
  intro t K l lim v w1 w2 u X Y g10 M Z a8;obtain⟨O,S,N,g3,U,-,-,-,-,-,-,-⟩:=id u;apply an;apply ai;rcases asF p with c6|c6
  .simp[S,c6];refine ba (by simp) ?_;exact g_ _ K l lim v (u.aF (by simp[O]) (by simp[S,c6]) (by simp[N]) (by simp[g3]) (by simp[U])) (by simp[X]) (by simp[Y]) Z a8
  obtain⟨d,rfl⟩:∃d,p=d+1:=⟨p-1,by omega⟩
  have i8:(0:Int)<(d:Int)+1:=by omega
  have c1:((d+1:Nat):Int)=(d:Int)+1:=by omega
  have c2:((d+1+L:Nat):Int)=(d:Int)+1+L:=by omega
  obtain⟨x,y,F,ar,J,hx,hy,i1,j1,l1,l2,d7,A,wx,wy⟩:=u.rb.ask (I u.sg) a_ (B u.sg) (z u) (i:=d) (j:=v) (by omega) (by omega);have c_:t.g 1=vi ((d:Int)+1):=by rw[S,c1]
  simp[O,c_,U,Y,i8,i1,j1,l1,l2,d7,A,-aD,aM (n:=(d:Int))];have b_:Pq b n ep sz cv H c rows a e t (K++J) l (d+1) (d+1+L) lim:=u.sU (Fm.push _ _) (u.rb.push _) (eL.refl _ _ _) (by omega);by_cases c9:c x y<0
  .refine ba (by simp[c9]) ?_;exact g_ _ _ l lim v (b_.aF (by simp[O]) (by simp[S]) (by simp[N]) (by simp[g3]) (by simp[U])) (by simp[X]) (by simp[Y]) Z a8
  refine au (by simp[c9]) ?_;obtain⟨r,H2,A,mid,rfl,m1,m2,f2,l2,r2,s2,lo,hi⟩:=akT hT.Bu a_ hc (z b_) hl b_.rb (I b_.sg) (B b_.sg) (show d+1<d+1+L by omega) (by omega) Z a8 hy;have A:=A.eq;have g:=b_.sU f2 r2 s2 (by omega);rw[c1,c2]at A;rw[c2]at N;apply ai;simp[O,c_,N,U,Y,A];apply ai;simp;refine aS (k':=[.inLoop (uJ σ sz),.inBlock 0]) rfl ?_;refine ih _ _ (by omega) ⟨mid,d+1+L,lim,w1,w2,_,H2,l2,rfl,rfl,⟨by simp[O],by simp,by simp[N],by simp[g3],by simp[U],g.fr,g.rb,g.sg,?_,by omega,by omega,g.qe⟩,by simp[g10],by simp[M]⟩;refine g.re.equal hc (B g.sg) (b7 g) (by omega) (w:=x) (v:=y) ?_ wy c9 lo;rw[show d+1-1=d by omega,s2.lt (by omega)];exact hx
 have f_:∀(t:T) (K:aj) (l:List (List FC)) (lim:Int) (v:Nat) (w1 w2:Bool) (hint:Int),Pq b n ep sz cv H c rows a e t K l p (p+L) lim->t.g 12=vi L->t.g 13=vi v->t.g 14=vi hint->t.g 10=vb w1->t.g 11=vb w2->p<=v->v<p+L->
   WP tab σ.sh ab [.code (ZL σ sz),.inBlock 1,.inLoop (uJ σ sz),.inBlock 0] ⟨t,[],K⟩ Q:=by
  intro t K l lim v w1 w2 hint u X Y h_ g10 M Z a8;obtain⟨O,S,N,g3,U,-,-,-,-,-,-,-⟩:=id u;apply an;apply ai;cases w1 with
  |false=>
   simp[g10];refine ba (by simp) ?_;exact c5 _ _ l lim v ag w2 (u.aF (by simp[O]) (by simp[S]) (by simp[N]) (by simp[g3]) (by simp[U])) (by simp[X]) (by simp[Y]) (by simp[g10]) (by simp[M]) Z a8
  |true=>
  cases w2 with
  |false=>
   simp[g10,M];refine ba (by simp) ?_;exact c5 _ _ l lim v ae ag (u.aF (by simp[O]) (by simp[S]) (by simp[N]) (by simp[g3]) (by simp[U])) (by simp[X]) (by simp[Y]) (by simp[g10]) (by simp[M]) Z a8
  |true=>
  simp[g10,M,h_];by_cases h1:hint=1
  case neg=>
   refine ba (by simp[h1]) ?_;exact c5 _ _ l lim v ae ae (u.aF (by simp[O]) (by simp[S]) (by simp[N]) (by simp[g3]) (by simp[U])) (by simp[X]) (by simp[Y]) (by simp[g10]) (by simp[M]) Z a8
  refine au (by simp[h1]) ?_;obtain⟨r,H2,A,w,rfl,f2,l2,r2,s2,u2⟩:=agK hT.pins a_ hc (z u) hl u.rb (I u.sg) (B u.sg) (show p<p+L by omega) (by omega) (b7 u);have A:=A.eq;simp at A;have g:=u.sU f2 r2 s2 (by omega);apply ai;simp[O,S,N,U,A];cases w with
  |true=>
   refine au (by simp) ?_;exact aB (done g.fr g.rb g.sg (g.re.up (u2 rfl)) _ _)
  |false=>
   refine ba (by simp) ?_;exact c5 _ _ l2 lim v ae ae (g.aF (by simp[O]) (by simp[S]) (by simp[N]) (by simp[g3]) (by simp[U])) (by simp[X]) (by simp[Y]) (by simp[g10]) (by simp[M]) Z a8
 have f9:∀(t:T) (K:aj) (l:List (List FC)) (lim:Int) (w1 w2:Bool),Pq b n ep sz cv H c rows a e t K l p (p+L) lim->t.g 12=vi L->t.g 10=vb w1->t.g 11=vb w2->
   WP tab σ.sh ab [.code (ZK σ sz),.inBlock 1,.inLoop (uJ σ sz),.inBlock 0] ⟨t,[],K⟩ Q:=by
  intro t K l lim w1 w2 u X g10 M;obtain⟨O,S,N,g3,U,-,-,-,-,-,-,-⟩:=id u;obtain⟨r,H2,A,⟨v,hint,rfl,v1,v2⟩,kp⟩:=ak' hT.LL hT.pN hT.K9 hT.ord a_ (z u) hl u.rb (I u.sg) (B u.sg) (show p+8<=p+L by omega) (by omega);have A:=A.eq;simp at A;have g:Pq b n ep sz cv H c rows a e t H2 l p (p+L) lim:=u.sU kp.fm (kp.rb u.rb) (eL.refl _ _ _) (by omega);apply ai;simp[O,S,N,U,A];apply an;apply ai;simp;by_cases h2:hint=2
  case neg=>
   refine ba (by simp[h2]) ?_;exact f_ _ _ l lim v w1 w2 hint (g.aF (by simp[O]) (by simp[S]) (by simp[N]) (by simp[g3]) (by simp[U])) (by simp[X]) (by simp) (by simp) (by simp[g10]) (by simp[M]) v1 v2
  refine au (by simp[h2]) ?_;obtain⟨r,H3,A,rfl,f3,l3,r3,s3⟩:=alh hT.rev (cv:=cv) (z g) hl g.rb (I g.sg) (show p<p+L by omega) (by omega);have A:=A.eq;simp at A;have E:=g.sU f3 r3 s3 (by omega);apply ai;simp[O,S,N,U,A];apply ai;simp[S,N,aM (n:=(p:Int)+L-1),aM (n:=(v:Int)-p),aM (n:=(p:Int)+L-1-(v-p))];refine aq (.inl rfl) ?_;simp;exact f_ _ _ l3 lim (p+L-1-(v-p)) w1 w2 1 (E.aF (by simp[O]) (by simp[S]) (by simp[N]) (by simp[g3]) (by simp[U])) (by simp[X]) (by simp;omega) (by simp) (by simp[g10]) (by simp[M]) (by omega) (by omega)
 apply an;apply ai;simp[g10];cases w1 with
 |true=>
  refine ba (by simp) ?_;exact f9 _ _ l lim ae w2 (u.aF (by simp[O]) (by simp[S]) (by simp[N]) (by simp[g3]) (by simp[U])) (by simp) (by simp[g10]) (by simp[M])
 |false=>
  refine au (by simp) ?_;obtain⟨k,hk,i6,i7⟩:=d5 L (by omega);obtain⟨r,H2,A,rfl,f2,l2,r2,s2⟩:=ajh (cv:=cv) hT.Yq hT.Zu hT.Zt hk i6 (i7 (by omega)) (z u) hl u.rb (I u.sg) (a:=p) (by omega) (by omega);have A:=A.eq;simp at A;have g:=u.sU f2 r2 s2 (by omega);apply ai;simp[O,S,N,U,A];refine aq (.inl rfl) ?_;simp[g3];exact f9 _ _ l2 _ ag w2 ⟨by simp[O],by simp[S],by simp[N],by simp;rfl,by simp[U],g.fr,g.rb,g.sg,g.re,g.ap,g.pq,g.qe⟩ (by simp) (by simp[g10]) (by simp[M])
end
def sort_1:ax:=.region [⟨D 5,.cP (R 0),ab⟩,⟨D 6,.len (R 5),ab⟩,⟨D 4,.cP (R 6),ab⟩] []
def alp(σ:gE):ax:=.region [⟨D 7,.cP (R 0),ab⟩,⟨D 8,.cP (R 4),ab⟩,⟨D 9,.cP (R 4),ab⟩,⟨D 10,.gG .u64 (R 9),ab⟩,⟨D 11,.call σ.len [(R 10)] ag,ab⟩,⟨D 12,.cP (R 1),ab⟩,⟨D 13,.call σ.sh [(R 7),(.k (.c (.f (.int .i64 0)))),(R 8),(R 11),(R 12)] ae,ab⟩] []
def alq(σ:gE):aG:=⟨[P.nat 0,P.nat 1],[],.seq sort_1 (alp σ)⟩
section
variable{tab:TB}{σ:gE}{sz:Nat}{cv:V}{W:List FC->Prop}{c:List FC->List FC->Int}{N:Nat}
def X6(tab:TB)(σ:gE)(N:Nat):Prop:=∀L:Nat,L<=N->∃k:Nat,bH tab σ.len [vu L]=Eq (vi k)/\k<=62/\(0<L->2 ^ k<=2*L)
theorem afv(d:tab σ.ins=aa (ug σ sz)){H:aj}{v:V}:Ev tab (.fn σ.ins) [v,vi 0,vi 0,cv] H (.t []) H:=by
 obtain⟨r,H',g,rfl,rfl⟩:∃r H',Ev tab (.fn σ.ins) [v,vi 0,vi 0,cv] H r H'/\(r=.t []/\H'=H):=by
  refine cz d rfl λQ b=>?_;apply ai;simp[aM (n:=(1:Int))];refine az ?_;refine bT (λ_ s=>s=⟨_,[],H⟩) 0 rfl ?_;rintro _ s rfl -;apply an;apply ai;simp;refine aA (by simp) ?_;refine aS (k':=[]) rfl ?_;exact cW (b _ _ _ rfl rfl ⟨rfl,rfl⟩)
 exact g
theorem Bt(g:tab σ.sh=aa (Bs σ sz))(b:tab σ.ins=aa (ug σ sz)){H:aj}{v:V}{lim:Int}:Ev tab (.fn σ.sh) [v,vi 0,vi 0,vi lim,cv] H (.t []) H:=by
 have hi:=(afv (σ:=σ) (sz:=sz) (cv:=cv) b (H:=H) (v:=v)).eq;obtain⟨r,H',j,rfl,rfl⟩:∃r H',Ev tab (.fn σ.sh) [v,vi 0,vi 0,vi lim,cv] H r H'/\(r=.t []/\H'=H):=by
  refine cz g rfl λQ d=>?_;apply ai;simp;apply ai;simp;refine az ?_;refine bT (λ_ s=>s=⟨_,[],H⟩) 0 rfl ?_;rintro _ s rfl -;refine az ?_;apply ai;simp[aM (n:=(0:Int))];apply an;apply ai;simp;refine au (by simp) ?_;apply ai;simp[hi];exact aB (d _ _ _ rfl rfl ⟨rfl,rfl⟩)
 exact j
end
def LX(H:aj)(c:C)(sz:Nat)(rows:List (List FC)):Prop:=(rows=[]/\(c=.f .aw\/c=.f .es))\/(rows≠[]/\∃b ep d,c=.sl b 0 rows.length 0 ep sz/\H[b]?=aa (.cK sz (rows.flatten.map .f) d ep .loc))
section
variable{H H':aj}{c c':C}{sz sz':Nat}{rows BI:List (List FC)}
theorem LR.x(h:LR H c sz rows):LX H c sz rows:=by
 rcases h with h|⟨h,b,ep,rfl,h2⟩
 .exact .inl h
 .exact .inr ⟨h,b,ep,0,rfl,h2⟩
theorem LX.mkH(h:LX H c' sz' BI)(n:Nat):fk (n+1) c' H=H\/∃b ep d g,aT c'=aa b/\H[b]?=aa (.cK sz' (BI.flatten.map .f) d ep .loc)/\fk (n+1) c' H=H.set b (.cK sz' (BI.flatten.map .f) g ep .loc):=by
 rcases h with⟨_,rfl|rfl⟩|⟨l,b,ep,d,rfl,h2⟩
 .exact .inl rfl
 .exact .inl rfl
 .refine .inr ⟨b,ep,d,Nat.max d (0+BI.length*sz'),rfl,h2,?_⟩;simp only[mz,h2];rw[jb];intro x j;have j:=List.mem_of_mem_drop (List.mem_of_mem_take j);obtain⟨m,_,rfl⟩:=List.mem_map.1 j;exact⟨_,rfl⟩
theorem LX.Zl(h:LX H c sz rows)(n:Nat){i:Nat}{cs:List C}{d:Nat}(hi:H[i]?=aa (.box cs d)):(fk (n+1) c H)[i]?=aa (.box cs d):=by
 rcases h.mkH n with e|⟨j,l,m,g,q,b,e⟩
 .rw[e];exact hi
 .rw[e];have:j≠i:=by rintro rfl;rw[hi]at b;cases b
  rw[List.getElem?_set_ne this];exact hi
end
section
set_option linter.unusedVariables false
section
variable(D R:Nat)
def nw:Nat->Nat
 |0=>0| k+1=>nw k+(bif D.testBit k then 0 else 1)
def dd(p:P):Bool:=D.testBit p.toNat
def rr(p:P):Bool:=!dd D p&&R.testBit p.toNat
def pl(p:P):Bool:=!dd D p&&!R.testBit p.toNat
def rn(p:P):P:=.nat (nw D p.toNat)
def vQ:Arg->Bool
 | .r p=>pl D R p| .k _=>ae
def tp:Arg->Arg
 | .r p=>.r (rn D p)| x=>x
def trG:Option (P × Bool)->Option (Option (P × Bool))
 |none=>aa ab| some (p,w)=>if pl D R p then aa (aa (rn D p,w))else ab
def trP:dn->Option dn
 | .cP (.k v)=>aa (.cP (.k v))| .alloc z=>aa (.alloc z)| .bin o x y=>if vQ D R x&&vQ D R y then aa (.bin o (tp D x) (tp D y))else ab| .un o x=>if vQ D R x then aa (.un o (tp D x))else ab| .gG k x=>if vQ D R x then aa (.gG k (tp D x))else ab| .bB x=>if vQ D R x then aa (.bB (tp D x))else ab| .load ab x=>if vQ D R x then aa (.load ab (tp D x))else ab| .extract x i=>if vQ D R x then aa (.extract (tp D x) i)else ab| .bu s a x i=>if vQ D R x&&vQ D R i then aa (.bu s a (tp D x) (tp D i))else ab| .pick c x y=>if vQ D R c&&(vQ D R x&&vQ D R y)then aa (.pick (tp D c) (tp D x) (tp D y))else ab| _=>ab
variable(σ:gE)
def agW:gE:={ sh:=1,ins:=4,heap:=7,pY:=10,Yq:=13,LL:=16,rev:=19,part:=22,Bu:=25,pins:=28,pN:=31,K9:=34,ord:=37,Zt:=40,Zu:=43,len:=3*σ.len,alr:=0,alo:=0,rot:=0,swr:=0 }
def zE:List aG:=let s:=agW σ
 [Bs s 1,ug s 1,vz s 1,sH s 1,A0 s 1,BB s 1,BF s 1,vM s 1,Bv s 1,vP s 1,rN s 1,uC s 1,rW s 1,ye s 1,yg s 1]
def nmI:List Nat:=[σ.sh,σ.ins,σ.heap,σ.pY,σ.Yq,σ.LL,σ.rev,σ.part,σ.Bu,σ.pins,σ.pN,σ.K9,σ.ord,σ.Zt,σ.Zu]
def nmF(f:Nat):Nat:=if f % 3=0 then f / 3 else(nmI σ).getD (f / 3) 0
def YB(f:Nat):Bool:=f % 3 == 1&&decide (f / 3<13)
def xR:List Arg->Option (List Arg × P)
 |[]=>ab| [.r p]=>aa ([],p)| x::xs=>(xR xs).map λr=>(x::r.1,r.2)
def tr1(o:aN):Option (Option aN):=
 match trG D R o.g with
 |none=>ab
 |some g=>match o.dst,o.op with
  |none,.store n x y=>if n == 1&&(vQ D R x&&(match y with| .r p=>!dd D p| .k _=>ag))then aa (aa ⟨ab,.store 1 (tp D x) (tp D y),g⟩)else ab
  |some d,.call f as h=>if !(pl D R d&&f % 3 != 2)then ab else if YB f then match xR as with
    |some (as',p)=>if h&&(dd D p&&as'.all (vQ D R))then aa (aa ⟨aa (rn D d),.call (nmF σ f) (as'.map (tp D)) ae,g⟩)else ab| none=>ab
   else if as.all (vQ D R)then aa (aa ⟨aa (rn D d),.call (nmF σ f) (as.map (tp D)) h,g⟩)else ab
  |some d,.load (aa n) x=>if n == 1&&(vQ D R x&&rr D R d)then aa (aa ⟨aa (rn D d),.load ab (tp D x),g⟩)else ab| some d,.cP (.r s)=>if pl D R s&&pl D R d then aa (aa ⟨aa (rn D d),.cP (.r (rn D s)),g⟩)else if dd D s&&dd D d then aa ab else if rr D R s&&rr D R d then aa (aa ⟨aa (rn D d),.cP (.r (rn D s)),g⟩)else ab| some d,op=>if pl D R d then(trP D R op).map λb=>aa ⟨aa (rn D d),b,g⟩else ab
  |_,_=>ab
def trL:List aN->Option (List aN)
 |[]=>aa []
 |⟨aa r,.bZ (.r s) [.r x,.r y] ae,g⟩ ::⟨aa d,.bin .lss (.r r') (.k (.c (.f (.int .i64 0)))),j⟩::os=>match trG D R g,trL os with
  |some g',aa b=>if(dd D r&&dd D s)&&(decide (r'=r/\j=g)&&(rr D R x&&(rr D R y&&pl D R d)))then aa (⟨aa (rn D d),.call σ.swr [.r (rn D x),.r (rn D y)] ae,g'⟩::b)else ab| _,_=>ab
 |o::os=>match tr1 D R σ o,trL os with
  |some t,aa b=>aa (t.toList++b)| _,_=>ab
def trC:ax->Option ax
 | .skip=>aa .skip| .ret=>aa .ret| .exit i=>aa (.exit i)| .region ops []=>(trL D R σ ops).map λo=>.region o []
 | .seq a b=>match trC a,trC b with
  |some a,aa b=>aa (.seq a b)| _,_=>ab
 | .cond c a b=>match trC a,trC b with
  |some a,aa b=>if vQ D R c then aa (.cond (tp D c) a b)else ab| _,_=>ab
 | .block i a=>(trC a).map (.block i)| .loop a=>(trC a).map .loop| _=>ab
end
def aho:Nat × Nat->List aN->Nat × Nat
 |s,[]=>s
 |(D,R),o::os=>aho (match o.dst,o.op with
  |some d,.cP (.r p)=>(bif D.testBit p.toNat then D ||| 2 ^ d.toNat else D,bif R.testBit p.toNat then R ||| 2 ^ d.toNat else R)| some d,.load (aa 1) _=>(D,R ||| 2 ^ d.toNat)| some d,.bZ ..=>(D ||| 2 ^ d.toNat,R)
  |_,_=>(D,R)) os
def yI:Nat × Nat->ax->Nat × Nat
 |s,.region ops _=>aho s ops| s,.seq a b|s,.cond _ a b=>yI (yI s a) b| s,.block _ a|s,.loop a=>yI s a| s,_=>s
def trF(σ:gE)(d:Bool)(f:aG):Option aG:=
 let n:=f.ps.length-1
 let (D,R):=yI (bif d then 2 ^ n ||| 2 ^ (2*n+1)else 0,0) f.body
 let ps:=f.ps.take (bif d then n else n+1)
 let g:=aX (λr:gl=>match r with
  | .tmp p=>if pl D R p then aa (gl.tmp (rn D p))else ab
  |_=>ab) f.results
 match trC D R σ f.body,g with
 |some b,aa g=>if(ps.all (λp=>pl D R p&&decide (rn D p=p))&&(!d||D.testBit n))&&decide (f.ps.map P.toNat=List.range f.ps.length/\0<f.ps.length)then aa ⟨ps,g,b⟩else ab
 |_,_=>ab
def xF(σ:gE)(i:Nat):aG:=(((zE σ)[i]?).bind (trF σ (YB (3*i+1)))).getD ⟨[],[],.bad⟩
end
section
set_option linter.unusedVariables false
section
variable{D R:Nat}
theorem ahh{a b:Nat}(h:a<=b):nw D a<=nw D b:=by
 induction h with
 |refl=>exact aq9 _| step _ d=>exact arB d (Nat.le_add_right _ _)
theorem ahi{a b:Nat}(h:a<b)(d:D.testBit a=ag):nw D a<nw D b:=
 asg (by simp[nw,d]) (ahh (D:=D) (show a+1<=b from h))
theorem BH{p q:P}(b:dd D p=ag)(d:dd D q=ag)(h:p≠q):rn D p≠rn D q:=by
 refine Zp ?_;rcases Nat.lt_or_gt_of_ne λe=>h (P.toNat_inj e)with h|h
 .exact Nat.ne_of_lt (ahi h b)
 .exact Nat.ne_of_gt (ahi h d)
theorem oX{p:P}(h:pl D R p=ae):dd D p=ag:=by simp[pl]at h;exact h.1
theorem sD{p:P}(h:rr D R p=ae):dd D p=ag:=by simp[rr]at h;exact h.1
theorem ZS{p:P}(h:pl D R p=ae):rr D R p=ag:=by simp[pl]at h;simp[rr,h]
def DV(v:V):Prop:=v=.c (.f (.fn 2 []))\/∀as,bX v as=ab
def RV(v w:V):Prop:=(∃x,v=.a [x]/\w=.c x)\/(w=v/\v.cells?=ab)
variable(D R)in
structure Rl(rY rX:T):Prop where
 d:∀p,dd D p=ae->DV (rY.get p)
 p:∀p,pl D R p=ae->rX.get (rn D p)=rY.get p
 r:∀p,rr D R p=ae->RV (rY.get p) (rX.get (rn D p))
variable{rY rX:T}{p:P}{v w:V}
theorem nr{f:P->Bool}{p q:P}(b:f p=ag)(d:f q=ae):p≠q:=λe=>by rw[e,d]at b;cases b
theorem Rl.sp(h:Rl D R rY rX)(g:pl D R p=ae)(v:V):Rl D R (rY.set p v) (rX.set (rn D p) v) where
 d q b:=by rw[T.cF _ _ _ _ (nr (oX g) b)];exact h.d q b
 p q b:=by
  by_cases e:p=q
  .subst e;rw[T.dh,T.dh]
  .rw[T.cF _ _ _ _ e,T.cF _ _ _ _ (BH (oX g) (oX b) e)];exact h.p q b
 r q b:=by
  have e:=nr (ZS g) b;rw[T.cF _ _ _ _ e,T.cF _ _ _ _ (BH (oX g) (sD b) e)];exact h.r q b
theorem Rl.sr(h:Rl D R rY rX)(g:rr D R p=ae)(j:RV v w):Rl D R (rY.set p v) (rX.set (rn D p) w) where
 d q b:=by rw[T.cF _ _ _ _ (nr (sD g) b)];exact h.d q b
 p q b:=by
  have e:=(nr (ZS b) g).symm;rw[T.cF _ _ _ _ e,T.cF _ _ _ _ (BH (sD g) (oX b) e)];exact h.p q b
 r q b:=by
  by_cases e:p=q
  .subst e;rw[T.dh,T.dh];exact j
  .rw[T.cF _ _ _ _ e,T.cF _ _ _ _ (BH (sD g) (sD b) e)];exact h.r q b
theorem Rl.sd(h:Rl D R rY rX)(g:dd D p=ae)(j:DV v):Rl D R (rY.set p v) rX where
 d q b:=by
  by_cases e:p=q
  .subst e;rw[T.dh];exact j
  .rw[T.cF _ _ _ _ e];exact h.d q b
 p q b:=by rw[T.cF _ _ _ _ (nr (oX b) g).symm];exact h.p q b
 r q b:=by rw[T.cF _ _ _ _ (nr (sD b) g).symm];exact h.r q b
theorem Rl.ev(h:Rl D R rY rX):∀{x:Arg},vQ D R x=ae->(tp D x).ev rX=x.ev rY
 | .r q,b=>h.p q b| .k _,_=>rfl
theorem Rl.evs(h:Rl D R rY rX){xs:List Arg}(b:xs.all (vQ D R)=ae):dx rX (xs.map (tp D))=dx rY xs:=by
 unfold dx;rw[List.map_map];exact List.map_congr_left λx d=>h.ev (ars.1 b x d)
theorem Rl.wanted(h:Rl D R rY rX){g:Option (P × Bool)}{g':Option (P × Bool)}(hg:trG D R g=aa g'):wanted rX g'=wanted rY g:=by
 cases g with
 |none=>cases hg;rfl
 |some x=>
  obtain⟨p,b⟩:=x;simp only[trG]at hg;split at hg
  .rename_i d;cases hg;simp only[Km.wanted,h.p p d]
  .cases hg
theorem anF:DV (.t []):=.inr λ_=>rfl
theorem aoU:RV (.t []) (.t []):=.inr ⟨rfl,rfl⟩
theorem Z5(h:RV v w):w.cells?=v.cells?:=by
 rcases h with⟨x,rfl,rfl⟩|⟨rfl,-⟩<;>rfl
theorem xS:∀{as as':List Arg} {p:P},xR as=aa (as',p)->as=as'++[.r p]
 |[],_,_,h=>by cases h
 |[.r q],_,_,h=>by cases h;rfl
 |[.k v],_,_,h=>by simp[xR]at h
 |x::y::xs,as',p,h=>by
  rw[xR,aq5]at h
  .obtain⟨⟨a,b⟩,d,g⟩:=h;cases g;rw[xS d];rfl
  .intro q _ e;cases e
variable{tab:TB}{σ:gE}{call:dw}
structure aeQ(tab:TB)(σ:gE)(call:dw):Prop where
 fn:∀{f args Yp H r H'},f % 3≠2->call (.fn f) args H=aa (r,H')->(if YB f then ∃v,args=Yp++[v]/\DV v else args=Yp)->Ev tab (.fn (nmF σ f)) Yp H r H'
 cmp:∀{args H r H'},call (.fn 2) args H=aa (r,H')->∃x y b,args=[.a [x],.a [y]]/\r=vi (if b then -1 else 0)/\Ev tab (.fn σ.swr) [.c x,.c y] H (vb b) H'
theorem alw{op m:dn}(h:trP D R op=aa m)(g:Rl D R rY rX){q:List fL}{H:aj}{v:V}{s:St}(j:eH call ⟨rY,q,H⟩ op=aa (v,s)) :
  ∃H',s=⟨rY,q,H'⟩/\∀K:V->St->Prop,K v ⟨rX,q,H'⟩->gP tab ⟨rX,q,H⟩ m K:=by
 unfold trP at h;split at h
 all_goals first|(cases h;done)|skip
 case h_1=>cases h;cases j;exact⟨_,rfl,λK l=>⟨_,_,rfl,l⟩⟩
 case h_2=>cases h;cases j;exact⟨_,rfl,λK l=>⟨_,_,rfl,l⟩⟩
 all_goals
  split at h
  .rename_i d;cases h
   try simp only[aq3]at d
   simp only[eH,aq5]at j;obtain⟨⟨y,x⟩,j,u⟩:=j;cases u;refine⟨_,rfl,λK l=>⟨_,_,?_,l⟩⟩;rw[<-j]
   first
    |(simp only[bG,g.ev d];done)
    |(simp only[bG,g.ev d.1,g.ev d.2];done)
    |(simp only[bG,g.ev d.1];split<;>first|rfl|(rename_i b _;cases b<;>simp only[if_true,if_false,Bool.false_eq_true,g.ev d.2.1,g.ev d.2.2]))
  .cases h
theorem LA{cs:List C}{v:V}(h:bf (aa 1) cs=aa v):∃x,v=.a [x]/\bf ab cs=aa (.c x):=by
 cases cs with
 |nil=>simp[bf]at h| cons c cs=>simp[bf]at h;exact⟨c,h.symm,rfl⟩
theorem afI{H:aj}{x v:V}(h:bF H (aa 1) x=aa v):∃y,v=.a [y]/\bF H ab x=aa (.c y):=by
 cases x with
 |c x=>
  simp only[bF,Option.bind_eq_some_iff]at h;obtain⟨cs,b,d⟩:=h;obtain⟨y,g,j⟩:=LA d;exact⟨y,g,by simp only[bF,b,Option.bind_some,j]⟩
 |_=>simp[bF]at h
theorem X8{s:St}{op:dn}{K m:V->St->Prop}(h:gP tab s op K)(j:∀v q,K v q->m v q):gP tab s op m:=by
 cases op with
 |call f as b=>
  cases b
  .obtain⟨u,r,l,d,g⟩:=h;exact⟨u,r,l,d,j _ _ g⟩
  .obtain⟨r,H,d,g⟩:=h;exact⟨r,H,d,j _ _ g⟩
 |bZ x as b=>obtain⟨c,a,r,H,l,d,g⟩:=h;exact⟨c,a,r,H,l,d,j _ _ g⟩
 |recover=>exact j _ _ h| «defer» x as=>obtain⟨f,a,l,d⟩:=h;exact⟨f,a,l,j _ _ d⟩
 |_=>obtain⟨v,H,d,g⟩:=h;exact⟨v,H,d,j _ _ g⟩
theorem nX{o o':aN}{g:List aN}{s:St}{b:List fL}{H:aj}{K:St->Prop}(d:fh call ⟨rY,b,H⟩ o=aa s)(A:wanted rX o'.g=wanted rY o.g)
  (x:∀v H',eH call ⟨rY,b,H⟩ o.op=aa (v,H')->gP tab ⟨rX,b,H⟩ o'.op λw m=>(∃l,H'=⟨rY,b,l⟩/\m=⟨rX,b,l⟩)/\Rl D R (gV rY o.dst v) (gV rX o'.dst w))
  (y:Rl D R (gV rY o.dst (.t [])) (gV rX o'.dst (.t [])))
  (q:∀j,Rl D R s.aF j->s.defs=b->px tab g ⟨j,b,s.heap⟩ K):px tab (o'::g) ⟨rX,b,H⟩ K:=by
 unfold fh at d;simp only[px,A];split at d
 .rename_i e;rw[e];split at d
  .rename_i v m u;cases d;refine X8 (x v m u) ?_;rintro w B ⟨⟨l,rfl,rfl⟩,z⟩;exact q _ z rfl
  .cases d
 .rename_i e;rw[e];cases d;exact q _ y rfl
 .cases d
theorem alv(S:aeQ tab σ call){o:aN}{t:Option aN}{M:List aN}(j:tr1 D R σ o=aa t){s:St}{L:List fL}{H:aj}{K:St->Prop}(l:Rl D R rY rX)(m:fh call ⟨rY,L,H⟩ o=aa s)
  (A:∀N,Rl D R s.aF N->s.defs=L->px tab M ⟨N,L,s.heap⟩ K):px tab (t.toList++M) ⟨rX,L,H⟩ K:=by
 obtain⟨a8,op,g⟩:=o;unfold tr1 at j;split at j
 .cases j
 rename_i g' hg;have F:=l.wanted hg;dsimp only at j;split at j
 .
  rename_i n x y;cases y with
  |k c=>simp at j
  |r p=>
  dsimp only at j;split at j
  case isFalse=>cases j
  rename_i b;cases j;simp only[aq3,beq_iff_eq,Bool.not_eq_true']at b;obtain⟨rfl,hx,hy⟩:=b;refine nX m F (λv H' e=>?_) l A;simp only[eH,aq5]at e;obtain⟨⟨I,J⟩,e,z⟩:=e;cases z;refine⟨I,J,?_,⟨_,rfl,rfl⟩,l⟩;have U:((tp D (.r p)).ev rX).cells?=((Arg.r p).ev rY).cells?:=by
   by_cases O:R.testBit p.toNat=ae
   .exact Z5 (l.r p (by simp[rr,hy,O]))
   .exact congrArg _ (l.p p (by simp only[pl,hy];simpa using O))
  simp only[bG,l.ev hx,U]at e ⊢;exact e
 .
  rename_i d f as h;split at j
  case isTrue=>cases j
  rename_i u;obtain⟨u,W⟩:pl D R d=ae/\f % 3≠2:=by simpa using u
  split at j
  .rename_i E;split at j
   case h_2=>cases j
   rename_i as' p hl;split at j
   case isFalse=>cases j
   rename_i b;cases j;simp only[aq3]at b;obtain⟨rfl,O,B⟩:=b;refine nX m F (λv H' e=>?_) (l.sp u _) A;simp only[eH,gv,if_true,aq5]at e;obtain⟨⟨I,J⟩,e,z⟩:=e;cases z;refine⟨I,J,S.fn W e ?_,⟨_,rfl,rfl⟩,l.sp u _⟩;rw[bw E];refine⟨rY.get p,?_,l.d p O⟩;rw[xS hl,l.evs B];simp[dx,Arg.ev]
  .rename_i E;split at j
   case isFalse=>cases j
   rename_i B;cases j;refine nX m F (λv H' e=>?_) (l.sp u _) A;simp only[eH,gv,aq5]at e;obtain⟨⟨I,J⟩,e,z⟩:=e;cases z;simp only[gP];split at e
   .rename_i Y;rw[bw Y];exact⟨I,J,S.fn W e (by rw[aR E,l.evs B]),⟨_,rfl,rfl⟩,l.sp u _⟩
   .rename_i Y;rw[aR Y];unfold eU at e;split at e
    .cases e
    rename_i fs X;split at e
    .cases e
    rename_i r0 H0 he;split at e
    .cases e
    rename_i r1 Z;cases e;rw[l.evs B];exact⟨fs,I,X,⟨r0,H0,S.fn W he (by rw[aR E]),Z⟩,⟨_,rfl,rfl⟩,l.sp u _⟩
 .
  rename_i d n x;split at j
  case isFalse=>cases j
  rename_i b;cases j;simp only[aq3,beq_iff_eq]at b;obtain⟨rfl,hx,u⟩:=b;refine nX m F (λv H' e=>?_) (l.sr u aoU) A;simp only[eH,bG,Option.map_map,aq5,Function.comp]at e;obtain⟨I,e,z⟩:=e;cases z;obtain⟨y,rfl,e2⟩:=afI e;exact⟨.c y,H,by simp only[bG,l.ev hx,e2,arN],⟨_,rfl,rfl⟩,l.sr u (.inl ⟨y,rfl,rfl⟩)⟩
 .
  rename_i d q;have Q:∀v H',eH call ⟨rY,L,H⟩ (.cP (.r q))=aa (v,H')->v=rY.get q/\H'=⟨rY,L,H⟩:=λv H' e=>by
   simp only[eH,bG,Arg.ev,arN,anc,aq8]at e;exact⟨e.1.symm,e.2.symm⟩
  split at j
  .rename_i b;cases j;simp only[aq3]at b;refine nX m F (λv H' e=>?_) (l.sp b.2 _) A;obtain⟨rfl,rfl⟩:=Q v H' e;exact⟨_,H,rfl,⟨_,rfl,rfl⟩,by show Rl D R _ (rX.set _ (rX.get _));rw[l.p q b.1];exact l.sp b.2 _⟩
  split at j
  .rename_i b;cases j;simp only[aq3]at b;unfold fh at m;split at m
   .split at m
    .rename_i v s' e1;cases m;obtain⟨rfl,rfl⟩:=Q v s' e1;exact A _ (l.sd b.2 (l.d q b.1)) rfl
    .cases m
   .cases m;exact A _ (l.sd b.2 anF) rfl
   .cases m
  split at j
  .rename_i b;cases j;simp only[aq3]at b;refine nX m F (λv H' e=>?_) (l.sr b.2 aoU) A;obtain⟨rfl,rfl⟩:=Q v H' e;exact⟨_,H,rfl,⟨_,rfl,rfl⟩,l.sr b.2 (l.r q b.1)⟩
  .cases j
 .
  rename_i d op _ _ _;split at j
  case isFalse=>cases j
  rename_i u;rw[aq5]at j;obtain⟨a_,h1,rfl⟩:=j;refine nX m F (λv H' e=>?_) (l.sp u _) A;obtain⟨J,rfl,z⟩:=alw (tab:=tab) h1 l e;exact z _ ⟨⟨_,rfl,rfl⟩,l.sp u _⟩
 .cases j
theorem aoT{x:C}(h:RV v w)(e:v=.a [x]):w=.c x:=by
 subst e;rcases h with⟨y,b,d⟩|⟨-,h⟩
 .cases b;exact d
 .cases h
theorem aqh(hc:aeQ tab σ call){os:List aN}:∀{B:List aN},trL D R σ os=aa B->∀{rY rX:T} {F:List fL} {H:aj} {s:St} {K:St->Prop},Rl D R rY rX->fz call os ⟨rY,F,H⟩=aa s->
  (∀M,Rl D R s.aF M->s.defs=F->K ⟨M,F,s.heap⟩)->px tab B ⟨rX,F,H⟩ K:=by
 fun_induction trL D R σ os with
 |case1=>rintro _ ⟨⟩ rY rX F H s K E ⟨⟩ N;exact N _ E rfl
 |case2 r q x y g d r' g2 os ga gb Q I u U=>
  rintro _ ⟨⟩ rY rX F H s K E l N;simp only[aq3,decide_eq_true_eq]at u;obtain⟨⟨O,X⟩,⟨rfl,rfl⟩,a8,a_,S⟩:=u;have hw:=E.wanted I;simp only[fz,fh]at l;simp only[px,hw];split at l
  case h_2=>cases l
  rename_i s1 j;split at j
  .rename_i e;rw[e];split at j
   case h_2=>cases j
   rename_i v s' J;cases j;simp only[eH]at J;split at J
   case h_2=>cases J
   rename_i c args m;have hq:rY.get q=.c (.f (.fn 2 [])):=by
    rcases E.d q X with h|h
    .exact h
    .rw[Arg.ev,h]at m;cases m
   simp only[Arg.ev,hq,bX,dx,arf,art,List.append_nil,anc,aq8]at m;obtain⟨rfl,rfl⟩:=m;rw[aq5]at J;obtain⟨⟨v1,H1⟩,J,W⟩:=J;cases W;obtain⟨x',y',b,L,rfl,Y⟩:=hc.cmp J;simp only[List.cons.injEq,and_true]at L;have z:Rl D R (rY.set r' (vi (if b then -1 else 0))) rX:=E.sd O (.inr λ_=>rfl);have A:=z.wanted I;rw[hw]at A;simp only[gV]at l;rw[<-A,e]at l;have hb:bL .lss (vi (if b then -1 else 0)) (.c (.f (.int .i64 0)))=aa (vb b):=by cases b<;>rfl
   simp only[eH,bG,Arg.ev,T.dh,hb,arN]at l;refine⟨_,_,?_,U Q (z.sp S (vb b)) l N⟩;simp only[dx,arf,art,Arg.ev,aoT (E.r x a8) L.1,aoT (E.r y a_) L.2];exact Y
  .rename_i e;rw[e];cases j;have z:Rl D R (rY.set r' (.t [])) rX:=E.sd O anF;have A:=z.wanted I;rw[hw]at A;simp only[gV]at l;rw[<-A,e]at l;exact U Q (z.sp S _) l N
  .cases j
 |case3=>intro B h;cases h
 |case4=>intro B h;cases h
 |case5 o os _ t b7 W h1 U=>
  rintro _ ⟨⟩ rY rX F H s K E l N;simp only[fz]at l;split at l
  .rename_i s1 j;refine alv hc h1 E j λM Z hd=>?_;obtain⟨r1,d1,H1⟩:=s1;cases hd;exact U W Z l N
  .cases l
 |case6=>intro B h;cases h
def trI(D R:Nat)(σ:gE):cO->Option cO
 | .code c=>(trC D R σ c).map .code| .inBlock i=>aa (.inBlock i)| .inLoop c=>(trC D R σ c).map .inLoop| _=>ab
theorem nQ{b d:Type}{g:b->Option d}{x:b}{xs:List b}{ys:List d}(h:aX g (x::xs)=aa ys):∃y zs,g x=aa y/\aX g xs=aa zs/\ys=y::zs:=by
 simp only[aX]at h;split at h
 .cases h
 .split at h
  .cases h
  .cases h;exact⟨_,_,by assumption,by assumption,rfl⟩
theorem je{b d:Type}{g:b->Option d}{x:b}{xs:List b}{y:d}{ys:List d}(j:g x=aa y)(l:aX g xs=aa ys):aX g (x::xs)=aa (y::ys):=by simp only[aX,j,l]
theorem mW{i:Nat}:∀{b todo' k:List cO},aX (trI D R σ) b=aa todo'->exitTo i b=aa k->∃k',exitTo i todo'=aa k'/\aX (trI D R σ) k=aa k'
 |[],_,_,_,h=>by cases h
 |x::xs,_,k,h,d=>by
  obtain⟨y,zs,g,l,rfl⟩:=nQ h;cases x with
  |inBlock j=>
   cases g;simp only[exitTo]at d ⊢;split at d
   .rename_i e;cases d;exact⟨zs,by rw[bw e],l⟩
   .rename_i e;rw[aR e];exact mW l d
  |code c=>
   obtain⟨c',-,rfl⟩:=aq5.1 g;obtain⟨k',m,q⟩:=mW l (show exitTo i xs=aa k from d);exact⟨k',m,q⟩
  |inLoop c=>
   obtain⟨c',-,rfl⟩:=aq5.1 g;obtain⟨k',m,q⟩:=mW l (show exitTo i xs=aa k from d);exact⟨k',m,q⟩
  |_=>cases g
theorem tq(l:aeQ tab σ call){fn fn':Nat}:∀(n:Nat) {u todo':List cO},aX (trI D R σ) u=aa todo'->∀{rY rX:T} {z:List fL} {H:aj} {j:Option ax} {s:St},Rl D R rY rX->run call fn n ab u ⟨rY,z,H⟩=aa (j,s)->
  WP tab fn' ab todo' ⟨rX,z,H⟩ λ_ M=>Rl D R s.aF M.aF/\s.defs=z/\M.defs=z/\M.heap=s.heap
 |0,_,_,_,_,_,_,_,_,_,_,h=>by cases h
 |n+1,[],_,B,rY,rX,z,H,j,s,g,h=>by
  cases B;cases h;exact cW ⟨g,rfl,rfl,rfl⟩
 |n+1,x::xs,_,B,rY,rX,z,H,j,s,g,h=>by
  obtain⟨y,zs,A,m,rfl⟩:=nQ B;cases x with
  |inBlock i=>cases A;exact ay (tq l n m g h)
  |inLoop c=>
   obtain⟨c',d,rfl⟩:=aq5.1 A;have N:trI D R σ (.code c)=aa (.code c'):=by rw[trI,d];rfl
   exact eX (tq l n (je N B) g h)
  |iZ b=>cases A
  |nC=>cases A
  |inScope a=>cases A
  |code c=>
   obtain⟨c',d,rfl⟩:=aq5.1 A;have code:∀{a a':ax},trC D R σ a=aa a'->trI D R σ (.code a)=aa (.code a'):=λh=>by rw[trI,h];rfl
   unfold trC at d;split at d
   .cases d;exact aJ (tq l n m g h)
   .cases d;cases h;exact aB ⟨g,rfl,rfl,rfl⟩
   .cases d;simp only[run]at h;split at h
    .rename_i k S;obtain⟨k',q,O⟩:=mW m S;exact aS q (tq l n O g h)
    .cases h
   .obtain⟨U,q,rfl⟩:=aq5.1 d;simp only[run,gA]at h;split at h
    .cases h
    split at h
    .rename_i X L;refine aq (.inl rfl) (aqh l q g L λW K Q=>?_);obtain⟨r1,Z,Y⟩:=X;cases Q;exact tq l n m K h
    .cases h
   .split at d
    .rename_i E F;cases d;exact an (tq l n (je (code E) (je (code F) m)) g h)
    .cases d
   .split at d
    .rename_i E F;split at d
     .rename_i J;cases d;simp only[run]at h;split at h
      .rename_i b I;refine qK (v:=b) (by rw[g.ev J,I]) (tq l n (je ?_ m) g h);cases b
       .exact code F
       .exact code E
      .cases h
     .cases d
    .cases d
   .obtain⟨a',q,rfl⟩:=aq5.1 d;exact az (tq l n (je (code q) (je (y:=.inBlock _) rfl m)) g h)
   .obtain⟨a',q,rfl⟩:=aq5.1 d;exact gT (tq l n (je (code q) (je (y:=.inLoop a') (by rw[trI,q];rfl) m)) g h) λ_ _ _=>rfl
   .cases d
variable(tab σ)in
noncomputable def qE (f:Nat) (args:List V) (H:aj):Option (Option (V × aj)):=
 open Classical in
 if f % 3=0 then(if h:∃x:V × aj,Ev tab (.fn (f / 3)) args H x.1 x.2 then aa (aa h.choose)else ab)
 else if f=2 then(match args with
  |[.a [x],.a [y]]=>if h:∃p:Bool × aj,Ev tab (.fn σ.swr) [.c x,.c y] H (vb p.1) p.2 then aa (aa (vi (if h.choose.1 then -1 else 0),h.choose.2))else ab
  |_=>ab)
 else ab
variable(tab σ)in
noncomputable def mM:TB where
 get:=λf=>if f % 3=1 then(zE σ)[f / 3]? else ab
 wi:=qE tab σ
 ok:=λf a h args H=>by
  split at h
  .rename_i e;unfold qE;rw[aR (by omega),aR (by omega)]
  .cases h
variable(tab σ)in
def zm:Prop:=∀i a,(zE σ)[i]?=aa a->∃b,trF σ (YB (3*i+1)) a=aa b/\tab ((nmI σ).getD i 0)=aa b
theorem iQ{ps:List P}{args:List V}(d:ps.map P.toNat=List.range ps.length)(b:args.length=ps.length)(q:P):(cD ps args .e).get q=(args[q.toNat]?).getD .top:=by
 rw[oe ps args .e 0 (by rw[d,List.range_eq_range']) b q,bw (ast _),Nat.sub_zero,show T.e.get q=.top by cases q<;>rfl]
theorem sy{rY rX:T}{H:aj}(d:Rl D R rY rX):∀{l g:List gl},aX (λr:gl=>match r with
  | .tmp p=>if pl D R p then aa (gl.tmp (rn D p))else ab
  |_=>ab) l=aa g->aX (bQ rX H) g=aX (bQ rY H) l
 |[],_,h=>by cases h;rfl
 |x::xs,_,h=>by
  obtain⟨y,zs,b,j,rfl⟩:=nQ h;cases x with
  |cell _ _=>cases b
  |tmp p=>
   dsimp only at b;split at b
   .rename_i m;cases b;simp only[aX,sy d j,bQ,d.p p m]
   .cases b
theorem ao0(hX:zm tab σ)(m:Nat):∀d,aeQ tab σ (eK (mM tab σ).get (mM tab σ).wi m d)
 |0=>{ fn:=λ_ h=>(by cases h),cmp:=λh=>(by cases h) }
 |d+1=>by
  refine⟨λ{f args l H r H'} hf h J=>?_,λ{args H r H'} h=>?_⟩
  .by_cases X:f % 3=0
   .have g:¬ YB f=ae:=by simp[YB,X]
    rw[aR g]at J;subst J;have z:(mM tab σ).wi f args H=qE tab σ f args H:=rfl;have hg:(mM tab σ).get f=ab:=aR (by omega);simp only[eK,z,hg,qE,bw X]at h;rw[nmF,bw X];split at h
    .rename_i r' u;split at u
     .rename_i I;cases u;have:=I.choose_spec;rw[show I.choose=(r,H') by simpa using h]at this;exact this
     .cases u
    .cases h
   .have u:f % 3=1:=by omega
    have z:(mM tab σ).wi f args H=ab:=by
     show qE tab σ f args H=ab;unfold qE;rw[aR X,aR (by omega)]
    have hg:(mM tab σ).get f=(zE σ)[f / 3]?:=bw u;simp only[eK,z]at h;rw[hg]at h;split at h
    .cases h
    rename_i B c5;split at h
    case isFalse=>cases h
    rename_i U;obtain⟨b,E,Z⟩:=hX _ _ c5;rw[show 3*(f / 3)+1=f by omega]at E;split at h
    case h_2=>cases h
    rename_i j s b_;rw[nmF,aR X];unfold trF at E;dsimp only at E;obtain⟨n,hn⟩:=aQ (B.ps.length-1);rw[<-hn]at E;generalize yI ((bif YB f then 2 ^ n ||| 2 ^ (2*n+1)else 0),0) B.body=DR at E;obtain⟨D,R⟩:=DR;dsimp only at E;split at E
    case h_2=>cases E
    rename_i body rs Q c6;split at E
    case isFalse=>cases E
    rename_i a8;cases E;simp only[aq3,decide_eq_true_eq]at a8;obtain⟨⟨b7,F⟩,N,c_⟩:=a8;obtain⟨q,K⟩:=aQ ((bif YB f then n else n+1));rw[<-K]at b7 Z;have d5:q<=n+1/\n<=q:=by rw[K];cases YB f<;>simp
    have a_:B.ps.length=n+1:=by omega
    have M:(B.ps.take q).length=q:=by rw[List.length_take];omega
    have S:(B.ps.take q).map P.toNat=List.range (B.ps.take q).length:=by rw[List.map_take,N,M,a_,List.take_range];congr 1;omega
    have A:∀p:P,p.toNat<q->pl D R p=ae/\rn D p=p:=λp z=>by
     have e:((B.ps.take q).map P.toNat)[p.toNat]?=aa p.toNat:=by rw[S,List.getElem?_range (by omega)]
     rw[List.getElem?_map,aq5]at e;obtain⟨p',u,Y⟩:=e;have:=ars.1 b7 p' (arh u);rw[P.toNat_inj Y]at this;simpa using this
    have c9:∀k,q<=k->q<=nw D k:=λk hk=>by
     refine arB ?_ (ahh hk);cases q with
     |zero=>exact ast _
     |succ q=>
      obtain⟨u,Y⟩:=A (.nat q) (by rw[gk];omega);have h3:=congrArg P.toNat Y;have h4:=oX u;rw[rn,gk,gk]at h3;rw[dd,gk]at h4;simp only[nw,h3,h4,cond_false];exact aq9 _
    have O:∀k,k<q->args[k]?=l[k]?:=λk hk=>by
     split at J
     .rename_i g;obtain⟨v,rfl,-⟩:=J;rw[g]at K;rw[aq1 (by simp at U K;omega)]
     .rw[J]
    have L:l.length=q:=by
     rw[K];split at J
     .rename_i g;obtain⟨v,rfl,-⟩:=J;rw[g];simp at U;simp;omega
     .rename_i g;rw[<-J,U,a_];simp at g;rw[g];rfl
    have gX:∀p:P,q<=p.toNat->(cD (B.ps.take q) l .e).get (rn D p)=.top:=λp z=>by
     rw[iQ S (by rw[L,M]),rn,gk,asJ (by rw[L];exact c9 _ z)];rfl
    have gY:∀p:P,n<p.toNat->(cD B.ps args .e).get p=.top:=λp z=>by
     rw[iQ N U,asJ (by omega)];rfl
    have hr:Rl D R (cD B.ps args .e) (cD (B.ps.take q) l .e):=by
     have W:∀p:P,dd D p=ag->q<=p.toNat->n<p.toNat:=λp hd z=>by
      rcases arI n p.toNat with h|h
      .exact h
      .have e:p.toNat=n:=by omega
       have e2:q=n:=by omega
       rw[e2]at K;cases g:YB f with
       |false=>rw[g]at K;simp at K
       |true=>
        rw[g]at F;rw[dd,e]at hd;rw[hd]at F;cases F
     refine⟨λp hd=>?_,λp z=>?_,λp z=>?_⟩
     .rw[iQ N U];rcases arI p.toNat q with h|h
      .have:=oX (A p h).1;rw[hd]at this;cases this
      rcases arI n p.toNat with Y|Y
      .rw[asJ (by omega)];exact .inr λ_=>rfl
      .split at J
       .obtain⟨v,rfl,hv⟩:=J;have e:p.toNat=l.length:=by omega
        rw[e,List.getElem?_append_right (aq9 _),Nat.sub_self];exact hv
       .rename_i g;simp at g;rw[g]at K;simp at K;omega
     .rcases arI p.toNat q with h|h
      .rw[(A p h).2,iQ N U,iQ S (by rw[L,M]),O _ h]
      .rw[gX p h,gY p (W p (oX z) h)]
     .rcases arI p.toNat q with h|h
      .have:=ZS (A p h).1;rw[z]at this;cases this
      .rw[gX p h,gY p (W p (sD z) h)];exact .inr ⟨rfl,rfl⟩
    obtain⟨k,m',d',j',s',e1,e2,e3,e4,e5⟩:=tq (tab:=tab) (fn':=(nmI σ).getD (f / 3) 0) (ao0 hX m d) m (todo':=[.code body]) (by simp[aX,trI,Q]) hr b_;rw[e3]at h;simp only[en]at h;rw[aq5]at h;obtain⟨r1,h5,h6⟩:=h;cases h6;refine oE Z (by rw[L,M]) ⟨k,m',d',j',s',e1,0,0,s.heap,by rw[e4,e5];rfl,?_,rfl⟩;rw[results]at h5 ⊢;rw[sy e2 c6];exact h5
  .have z:(mM tab σ).wi 2 args H=qE tab σ 2 args H:=rfl;have hg:(mM tab σ).get 2=ab:=rfl;simp only[eK,z,hg,qE,aR (show¬ 2 % 3=0 by omega),if_true]at h;split at h
   .rename_i r' u;split at u
    .rename_i x y;split at u
     .rename_i I;cases u;cases h;exact⟨x,y,I.choose.1,rfl,rfl,I.choose_spec⟩
     .cases u
    .cases u
   .cases h
end
end
end Km
