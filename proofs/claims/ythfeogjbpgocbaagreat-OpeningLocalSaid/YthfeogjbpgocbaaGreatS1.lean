/-
  What the program's functions and the reference's answer, for all arguments of their kind, in the small machine: part 1.
-/
import Derived.Test.YthfeogjbpgocbaaGreatTabB
import Derived.Test.YthfeogjbpgocbaaGreatK5
import Derived.KernelRfl
import Derived.Test.YthfeogjbpgocbaaGreatK4
open Int renaming ediv_nonneg → cR, ediv_le_self → d5, tmod_eq_emod_of_nonneg → c5, emod_nonneg → bX, emod_lt_of_pos → b5, mul_ediv_add_emod → bz, mul_le_mul_of_nonneg_left → cS, emod_eq_zero_of_dvd → dc, toNat_of_nonneg → dq, le_refl → dx, add_mul → da, one_mul → c4, mul_comm → cU, mul_nonneg → dt, natCast_zero → d6, add_zero → dr
open Nat renaming eq_of_beq_eq_true → cX, zero_add → cI, eq_zero_or_pos → cB, lt_or_eq_of_le → b9, le_refl → aw, le_of_ble_eq_true → cM, lt_trichotomy → bE
open List renaming all_eq_true → aL, append_assoc → cQ, getElem?_append_left → al, getElem?_append_right → bj, map_cons → aR, map_nil → bh, mem_cons → cF, pairwise_cons → de, mem_cons_self → bB, getElem?_eq_some_iff → ai, length_append → bN, append_nil → c6, mem_append → bS, getElem?_eq_getElem → ae, getElem_mem → av, getElem?_eq_none_iff → co, mem_map → cJ, pairwise_iff_getElem → cH, getElem?_set_ne → ag, getElem?_set_self → ax, take_of_length_le → bA, find?_eq_some_iff_getElem → dy, find?_eq_none → dT, getElem_of_mem → bp, drop_eq_getElem_cons → cG, length_pos_iff → db
open List.Perm renaming refl → d7
open Bool renaming false_eq_true → aE, and_eq_true → am
open Option renaming map_eq_some_iff → an
set_option linter.unusedVariables false
set_option linter.unusedSimpArgs false
set_option linter.unusedSectionVars false
set_option linter.unnecessarySimpa false
section
namespace Go.Proofs.YthfeogjbpgocbaaGreat
open Go Km
theorem KT{a b:Int}(h:0≤a)(hb:0<b)(ha:a≤9223372036854775807):bM .quo (vi a) (vi b)=some (vi (a / b)):=by
 rw [GU (by omega),Int.tdiv_eq_ediv_of_nonneg h,wrap64 (Int.le_trans (by omega) (cR h (by omega))) (Int.le_trans (d5 _ h) ha)]
theorem nH{a b:Int}(h:0≤a)(hb:0<b):bM .rem (vi a) (vi b)=some (vi (a % b)):=by
 rw [Qy (by omega),c5 h]
theorem aCY{a b:Int}(h:a≤0)(hb:0<b)(ha:-9223372036854775807≤a):bM .quo (vi a) (vi b)=some (vi (-((-a) / b))):=by
 have h1:(-a) / b≤-a:=d5 _ (by omega)
 have h2:0≤(-a) / b:=cR (by omega) (by omega)
 have h3:a.tdiv b = -((-a) / b):=by
  have:a = -(-a):=by omega
  rw [this,Int.neg_tdiv,Int.tdiv_eq_ediv_of_nonneg (by omega)]
  simp
 rw [GU (by omega),h3,wrap64 (by omega) (by omega)]
theorem ahX{a b:Int}(h:a≤0)(hb:0<b):bM .rem (vi a) (vi b)=some (vi (-((-a) % b))):=by
 have h3:a.tmod b = -((-a) % b):=by
  have:a = -(-a):=by omega
  rw [this,Int.neg_tmod,c5 (by omega)]
  simp
 rw [Qy (by omega),h3]
theorem Jv(a b:Int)(hb:1≤b)(ha:-4611686018427387904≤a)(ha':a≤4611686018427387904):Km.Pure tab.get akl [vi a,vi b]=Eq (.t [vi (a / b),vi 0]):=Km.Pure.eq (by
 refine dD aMY rfl fun Q hQ=>?_
 refine ak (aj (.inl rfl) ?_)
 simp
 refine ak ?_
 refine ak (aj (.inl rfl) ?_)
 simp
 refine ay (by simp;omega) (aF ?_)
 by_cases h:0≤a
 ·refine ak (aj (.inl rfl) ?_)
  simp [KT h (show 0<b by omega) (by omega)]
  refine ak ?_
  refine ak (aj (.inl rfl) ?_)
  have:=bX a (show b≠0 by omega)
  simp [nH h (show 0<b by omega)]
  refine ay (by simp;omega) (aF ?_)
  refine ak (aj (.inl rfl) ?_)
  simp
  refine aO (hQ _ _ ?_)
  simp
 ·refine ak (aj (.inl rfl) ?_)
  simp [aCY (show a≤0 by omega) (show 0<b by omega) (by omega)]
  refine ak ?_
  refine ak (aj (.inl rfl) ?_)
  have e:=bX (-a) (show b≠0 by omega)
  have e2:=b5 (-a) (show 0<b by omega)
  have h2:0≤(-a) / b:=cR (by omega) (by omega)
  have h1:(-a) / b≤-a:=d5 _ (by omega)
  have e3:=bz (-a) b
  simp [ahX (show a≤0 by omega) (show 0<b by omega)]
  by_cases h3:(-a) % b=0
  ·refine ay (by simp;omega) (aF ?_)
   refine ak (aj (.inl rfl) ?_)
   simp
   refine aO (hQ _ _ ?_)
   have:a / b = -(-a / b):=by
    refine Int.ediv_eq_of_eq_mul_right (by omega) ?_
    rw [Int.mul_neg];omega
   simp [this]
  ·refine aA (by simp;omega) ?_
   refine aj (.inl rfl) ?_
   simp [wrap64 (n:=-(-a / b)-1) (by omega) (by omega)]
   refine ak (aj (.inl rfl) ?_)
   simp
   refine aO (hQ _ _ ?_)
   have:a / b = -(-a / b)-1:=by
    have h5:=bX a (show b≠0 by omega)
    have h6:=b5 a (show 0<b by omega)
    have h7:=bz a b
    have h8:b*(a / b+(-a) / b+1)=b-a % b-(-a) % b:=by rw [Int.mul_add,Int.mul_add];omega
    have h9:a / b+(-a) / b+1=0:=by
     rcases Int.lt_trichotomy (a / b+(-a) / b+1) 0 with h | h | h
     ·have:b*(a / b+(-a) / b+1)≤b*(-1):=cS (by omega) (by omega)
      omega
     ·exact h
     ·have:b*1≤b*(a / b+(-a) / b+1):=cS (by omega) (by omega)
      omega
    omega
   simp [this])
theorem vY(a:Int):Km.Pure tab.get BK [vi a]=Eq (vb false):=(show Kf tab.get BK [vi a] (vb false) by
 refine jO aM6 rfl fun H Q hQ=>?_
 refine ak (aj (.inl rfl) ?_)
 simp
 refine ak (aj (.inl rfl) ?_)
 simp
 refine aO (hQ _ _ ?_)
 simp).eq
def qK(a b:Int):Int:=if a<b then -1 else if b<a then 1 else 0
theorem MS(a b:Int):Kf tab.get J6 [vi a,vi b] (vi (qK a b)):=by
 refine jO aM8 rfl fun H Q hQ=>?_
 refine ak (aj (.inl rfl) ?_)
 simp
 refine ak (aj (.inl rfl) ?_)
 simp [vY]
 refine ak (aj (.inl rfl) ?_)
 simp [vY]
 refine ak ?_
 refine ak (aj (.inl rfl) ?_)
 simp
 refine ay (by simp) (aF ?_)
 refine ak ?_
 refine ak (aj (.inl rfl) ?_)
 simp
 refine ay (by simp) (aF ?_)
 refine ak ?_
 refine ak (aj (.inl rfl) ?_)
 simp
 by_cases h:a<b
 ·refine aA (by simp [h]) ?_
  refine ak (aj (.inl rfl) ?_)
  simp
  refine aO (hQ _ _ ?_)
  simp [qK,h]
 refine ay (by simp [h]) (aF ?_)
 refine ak ?_
 refine ak (aj (.inl rfl) ?_)
 simp
 by_cases h':b<a
 ·refine aA (by simp [h']) ?_
  refine ak (aj (.inl rfl) ?_)
  simp
  refine aO (hQ _ _ ?_)
  simp [qK,h,h']
 refine ay (by simp [h']) (aF ?_)
 refine ak (aj (.inl rfl) ?_)
 simp
 refine aO (hQ _ _ ?_)
 simp [qK,h,h']
theorem Bc(a b:Int):Km.Pure tab.get J6 [vi a,vi b]=Eq (vi (qK a b)):=(MS a b).eq
theorem wI{a b:Int}:qK a b<0↔a<b:=by unfold qK;split<;>(try split)<;>omega
theorem DY{a b:Int}:qK a b=0↔a=b:=by unfold qK;split<;>(try split)<;>omega
theorem axB(a b:Int)(hb:1≤b)(ha:-4611686018427387904≤a)(ha':a≤4611686018427387904)(hb':b≤4611686018427387904):Km.Pure tab.get akj [vi a,vi b]=Eq (vi (a % b)):=Km.Pure.eq (by
 refine dD aMW rfl fun Q hQ=>?_
 have e:=bX (-a) (show b≠0 by omega)
 have e2:=b5 (-a) (show 0<b by omega)
 have f:=bX a (show b≠0 by omega)
 have f2:=b5 a (show 0<b by omega)
 refine ak (aj (.inl rfl) ?_)
 simp
 by_cases h:0≤a
 ·refine ak (aj (.inl rfl) ?_)
  simp [nH h (show 0<b by omega)]
  refine ak ?_
  refine ak (aj (.inl rfl) ?_)
  simp
  refine ay (by simp;omega) (aF ?_)
  refine ak (aj (.inl rfl) ?_)
  simp
  refine aO (hQ _ _ ?_)
  simp
 ·have key:a % b=if(-a) % b=0 then 0 else b-(-a) % b:=by
   have h1:=bz (-a) b
   have h2:=bz a b
   split
   ·rename_i h0
    have hd:b ∣ -a:=Int.dvd_of_emod_eq_zero h0
    exact dc (Int.dvd_neg.1 hd)
   ·rename_i h0
    rw [show a = -(-a) by omega,Int.neg_emod,Int.neg_neg,if_neg (fun hd=>h0 (dc hd))]
    rw [Int.natAbs_of_nonneg (by omega)]
  refine ak (aj (.inl rfl) ?_)
  simp [ahX (show a≤0 by omega) (show 0<b by omega)]
  refine ak ?_
  refine ak (aj (.inl rfl) ?_)
  simp
  by_cases h3:(-a) % b=0
  ·refine ay (by simp;omega) (aF ?_)
   refine ak (aj (.inl rfl) ?_)
   simp
   refine aO (hQ _ _ ?_)
   rw [key,if_pos h3]
   simp [h3]
  ·refine aA (by simp;omega) ?_
   refine aj (.inl rfl) ?_
   simp [wrap64 (n:=-(-a % b)+b) (by omega) (by omega)]
   refine ak (aj (.inl rfl) ?_)
   simp
   refine aO (hQ _ _ ?_)
   rw [key,if_neg h3]
   simp;omega)
theorem aFG(a b:Int)(hb:1≤b)(ha:-4611686018427387904≤a)(ha':a≤4611686018427387904)(hb':b≤4611686018427387904):Km.Pure tab.get akk [vi a,vi b]=Eq (.t [vi (a % b),vi 0]):=Km.Pure.eq (by
 refine dD aMX rfl fun Q hQ=>?_
 refine ak (aj (.inl rfl) ?_)
 simp
 refine ak ?_
 refine ak (aj (.inl rfl) ?_)
 simp
 refine ay (by simp;omega) (aF ?_)
 refine ak (aj (.inl rfl) ?_)
 simp [axB a b hb ha ha' hb']
 refine aO (hQ _ _ ?_)
 simp)
structure TrD where
 at_:Int
 off:Int
def TrD.row(x:TrD):List FC:=[fi x.at_,fi x.off]
def aT(l:List TrD):List (List FC):=l.map TrD.row
@[simp] theorem oH (l:List TrD):(aT l).length=l.length:=by simp [aT]
theorem bY(l:List TrD):Grid 2 (aT l):=Grid.map fun _=>rfl
structure YrD where
 mo:Int
 wk:Int
 wd:Int
 mi:Int
 off:Int
def YrD.row(x:YrD):List FC:=[fi x.mo,fi x.wk,fi x.wd,fi x.mi,fi x.off]
def bK(l:List YrD):List (List FC):=l.map YrD.row
@[simp] theorem aBW (l:List YrD):(bK l).length=l.length:=by simp [bK]
theorem mP(l:List YrD):Grid 5 (bK l):=Grid.map fun _=>rfl
theorem CW{l:List YrD}{j:Nat}(hj:j<l.length):(bK l)[j]?=some l[j].row:=by simp [bK,hj]
structure aRb where
 ep:Int
 mo:FC
 le:Int
 ru:FC
structure aML where
 cal:aRb
 start:Int
 tg:Tg
 tr:List TrD
 hor:Int
 yg:Tg
 yr:List YrD
structure aS0 where
 z:aML
 lg:Tg
 l:List TrD
 cyc:Int
theorem ET(m:Int):unV .neg (.c (.f (.int .i64 m)))=some (vi (IntKind.i64.wrap (0-m))):=rfl
theorem QJ(n m:Int)(h0:0≤m)(h1:m≤4611686018427387904):Km.Pure tab.get nR [vi n,vi m]=Eq (vb (decide (-m≤n)&&decide (n≤m))):=Km.Pure.eq (by
 refine dD aHp rfl fun Q hQ=>?_
 refine ak (aj (.inl rfl) ?_)
 simp
 by_cases h:-m≤n
 ·refine ak (aj (.inl rfl) ?_)
  simp [ET,wrap64 (n:=-m) (by omega) (by omega),h]
  refine aO (hQ _ _ ?_)
  simp [h]
 ·refine ak (aj (.inl rfl) ?_)
  simp [ET,wrap64 (n:=-m) (by omega) (by omega),h]
  refine aO (hQ _ _ ?_)
  simp [h])
end Go.Proofs.YthfeogjbpgocbaaGreat
end
section
namespace Go.Proofs.YthfeogjbpgocbaaGreat
open Go Km
def jy:Nat→List FC
 | 0=>[fi 2,.fs [fi 7,fi 6] 2,fi (-1),.aB]
 | k+1=>[fi 5,.fs [fi 7,fi 8] 2,fi 1,.fs [fi 2,fi (k:Nat),.bool true] 1]
def nK(c y m:Nat):Nat:=match c,m with
 | 0,1=>7
 | 0,_=>6
 | _+1,1=>7
 | k+1,_=>if y % 2=k then 9 else 8
def wX(c y:Nat):Nat:=nK c y 1+nK c y 2
def aLz:Nat→Nat
 | 0=>1
 | _=>2
def kT:Nat→Nat
 | 0=>13
 | _=>31
abbrev nO(c:Nat):V:=.a ((jy c).map .f)
def isI(r:Option (V × Heap))(n:Nat):Bool:=match r with
 | some (.c (.f (.int .i64 (.ofNat k))),_)=>Nat.beq k n
 | _=>false
theorem AB{r:Option (V × Heap)}{n:Nat}(h:isI r n=true):r.map (·.1)=some (vi (n:Nat)):=by
 unfold isI at h
 split at h
 ·rw [cX h];rfl
 ·cases h
theorem FW:((List.range 3).all fun c=>(List.range 14).all fun y=>(List.range 2).all fun m=>isI (CF tab.get 300 30 (.fn TJ) [nO c,vi ((y+1:Nat):Nat),vi ((m+1:Nat):Nat)] []) (nK c (y+1) (m+1)))=true:=by kernel_rfl
theorem H7:((List.range 3).all fun c=>(List.range 14).all fun y=>isI (CF tab.get 300 30 (.fn aIj) [nO c,vi ((y+1:Nat):Nat)] []) (wX c (y+1)))=true:=by kernel_rfl
theorem CJ:((List.range 3).all fun c=>(List.range 14).all fun y=>(List.range 2).all fun m=>isI (CF tab.get 300 30 (.fn yA) [nO c,vi ((y+1:Nat):Nat),vi ((m+1:Nat):Nat)] []) (nK c (y+1) (m+1)))=true:=by kernel_rfl
theorem EP:((List.range 3).all fun c=>(List.range 14).all fun y=>isI (CF tab.get 300 30 (.fn NH) [nO c,vi ((y+1:Nat):Nat)] []) (wX c (y+1)))=true:=by kernel_rfl
theorem eF{p:Nat→Bool}{n k:Nat}(h:(List.range n).all p=true)(hk:k<n):p k=true:=aL.1 h k (List.mem_range.2 hk)
theorem yM{c y m:Nat}(hc:c<3)(h1:1≤y)(h2:y≤14)(h3:1≤m)(h4:m≤2):Km.Pure tab.get TJ [nO c,vi (y:Nat),vi (m:Nat)]=Eq (vi (nK c y m:Nat)):=by
 obtain⟨y,rfl⟩:∃ k,y=k+1:=⟨y-1,by omega⟩
 obtain⟨m,rfl⟩:∃ k,m=k+1:=⟨m-1,by omega⟩
 have h:=eF (eF (eF FW hc) (show y<14 by omega)) (show m<2 by omega)
 exact(gI (AB h)).eq
theorem Kq{c y:Nat}(hc:c<3)(h1:1≤y)(h2:y≤14):Km.Pure tab.get aIj [nO c,vi (y:Nat)]=Eq (vi (wX c y:Nat)):=by
 obtain⟨y,rfl⟩:∃ k,y=k+1:=⟨y-1,by omega⟩
 have h:=eF (eF H7 hc) (show y<14 by omega)
 exact(gI (AB h)).eq
theorem vM{c y m:Nat}(hc:c<3)(h1:1≤y)(h2:y≤14)(h3:1≤m)(h4:m≤2):Km.Pure tab.get yA [nO c,vi (y:Nat),vi (m:Nat)]=Eq (vi (nK c y m:Nat)):=by
 obtain⟨y,rfl⟩:∃ k,y=k+1:=⟨y-1,by omega⟩
 obtain⟨m,rfl⟩:∃ k,m=k+1:=⟨m-1,by omega⟩
 have h:=eF (eF (eF CJ hc) (show y<14 by omega)) (show m<2 by omega)
 exact(gI (AB h)).eq
theorem H8{c y:Nat}(hc:c<3)(h1:1≤y)(h2:y≤14):Km.Pure tab.get NH [nO c,vi (y:Nat)]=Eq (vi (wX c y:Nat)):=by
 obtain⟨y,rfl⟩:∃ k,y=k+1:=⟨y-1,by omega⟩
 have h:=eF (eF EP hc) (show y<14 by omega)
 exact(gI (AB h)).eq
theorem Ie:((List.range 600).all fun k=>isI (CF tab.get 60 30 (.fn ayM) [vi ((k:Nat)-300)] []) (((k:Int)-300) % 7).toNat)=true:=by kernel_rfl
theorem zJ{n:Int}(h:-300≤n)(h':n<300):Km.Pure tab.get ayM [vi n]=Eq (vi (n % 7)):=by
 obtain⟨k,hk⟩:∃ k:Nat,(k:Int)-300=n:=⟨(n+300).toNat,by omega⟩
 have h1:=eF Ie (show k<600 by omega)
 have h2:=(gI (AB h1)).eq
 rw [hk]at h2
 rwa [dq (bX n (by omega))]at h2
theorem CS{c:Nat}(hc:c<3):Km.Pure tab.get aNg [nO c]=Eq (vb true):=by
 have:c=0∨c=1∨c=2:=by omega
 rcases this with rfl | rfl | rfl<;>exact Km.Pure.eq (jA (m:=300) (d:=30) (by kernel_rfl))
theorem QL{c:Nat}(hc:c<3):Km.Pure tab.get akG [nO c]=Eq (vb true):=by
 have:c=0∨c=1∨c=2:=by omega
 rcases this with rfl | rfl | rfl<;>exact Km.Pure.eq (jA (m:=300) (d:=30) (by kernel_rfl))
theorem CU{c:Nat}(hc:c<3):Km.Pure tab.get aNh [nO c]=Eq (.t [vi (aLz c:Nat),vi (kT c:Nat),vi 0]):=by
 have:c=0∨c=1∨c=2:=by omega
 rcases this with rfl | rfl | rfl<;>exact Km.Pure.eq (jA (m:=300) (d:=30) (by kernel_rfl))
theorem Tc{c:Nat}(hc:c<3):Km.Pure tab.get akH [nO c]=Eq (.t [vi (aLz c:Nat),vi (kT c:Nat),vi 0]):=by
 have:c=0∨c=1∨c=2:=by omega
 rcases this with rfl | rfl | rfl<;>exact Km.Pure.eq (jA (m:=300) (d:=30) (by kernel_rfl))
end Go.Proofs.YthfeogjbpgocbaaGreat
end
section
namespace Go.Proofs.YthfeogjbpgocbaaGreat
open Go Km
structure YrD.OK(x:YrD):Prop where
 mo:x.mo=1∨x.mo=2
 wk:x.wk=1∨x.wk=5
 wd0:0≤x.wd
 wd:x.wd≤6
 mi0:0≤x.mi
 mi:x.mi≤1439
 of0:-1080≤x.off
 of:x.off≤1080
def fmD(c y:Nat)(b:Int)(x:YrD):Int:=if x.mo=2 then b+nK c y 1 else b
def mlD(c y:Nat)(x:YrD):Int:=nK c y x.mo.toNat
def nN(fm ml wk wd:Int):Int:=if wk=5 then fm+ml-1-(fm+ml-1-wd) % 7 else fm+(wd-fm) % 7
def jP(fm ml wk wd:Int):Bool:=if wk=5 then decide (fm≤nN fm ml wk wd)else decide (nN fm ml wk wd<fm+ml)
theorem jh(c y m:Nat):nK c y m≤9:=by unfold nK;split<;>(try split)<;>omega
theorem vP(c y m:Nat):6≤nK c y m:=by unfold nK;split<;>(try split)<;>omega
set_option maxRecDepth 100000 in
theorem Kr{c y:Nat}(hc:c<3)(hy:1≤y)(hy':y≤14){b:Int}(hb:0≤b)(hb':b≤260)(x:YrD)(hx:x.OK) :
  Km.Pure tab.get Nv [nO c,vi b,vi (y:Nat),.a (x.row.map .f)]=Eq (.t [vi (nN (fmD c y b x) (mlD c y x) x.wk x.wd),vb (jP (fmD c y b x) (mlD c y x) x.wk x.wd)]):=Km.Pure.eq (by
 obtain⟨hm,hw,w0,w6,-,-,-,-⟩:=hx
 have e1:=yM hc hy hy' (m:=1) (by omega) (by omega)
 have e2:=yM hc hy hy' (m:=2) (by omega) (by omega)
 have k1:=jh c y 1
 have k2:=jh c y 2
 have hml:=jh c y x.mo.toNat
 have aPV:=vP c y x.mo.toNat
 have e3:Km.Pure tab.get TJ [nO c,vi (y:Nat),vi x.mo]=Eq (vi (mlD c y x)):=by
  rcases hm with h | h
  ·unfold mlD;rw [h];exact e1
  ·unfold mlD;rw [h];exact e2
 have hq:mlD c y x=(nK c y x.mo.toNat:Nat):=rfl
 have hfm:b≤fmD c y b x∧fmD c y b x≤b+9:=by unfold fmD;split<;>omega
 generalize hF:fmD c y b x=fm at *
 generalize hM:mlD c y x=ml at *
 refine dD aHo rfl fun Q hQ=>?_
 refine ak (aj (.inl rfl) ?_)
 simp
 refine ak ?_
 refine ak (aj (.inl rfl) ?_)
 simp
 refine aH ?_
 have cl:∀ z:Blk,ldV [.box ((jy c).map .f) 0,z] (some 4) (.c (.ptr 0 0 0))=some (nO c):=by
  intro z
  have:c=0∨c=1∨c=2:=by omega
  rcases this with rfl | rfl | rfl<;>rfl
 have ly:∀ z:Blk,ldV [z,.box [.f (fi x.mo),.f (fi x.wk),.f (fi x.wd),.f (fi x.mi),.f (fi x.off)] 0] none (.c (.ptr 1 0 0))=some (vi x.mo):=fun _=>rfl
 refine bF (fun n s=>∃(m:Nat) (t:T) (bm:Int),s=⟨t,[],[.box ((jy c).map .f) 0,.box (x.row.map .f) 0]⟩∧n=2-m∧(m=1∧bm=b∨m=2∧x.mo=2∧bm=b+(nK c y 1:Nat))∧t.g 1=vi bm∧t.g 2=vi (y:Nat)∧t.g 4=.c (.ptr 0 0 0)∧t.g 7=.c (.ptr 1 0 0)∧t.g 10=vi (m:Nat)) 1
  ⟨1,_,b,rfl,rfl,.inl ⟨rfl,rfl⟩,by simp,by simp,by simp,by simp,by simp⟩ ?_
 rintro n s ⟨m,t,bm,rfl,rfl,hmb,g1,g2,g4,g7,g10⟩ ih
 refine ak ?_
 refine ak (aj (.inl rfl) ?_)
 simp [g10,g7,YrD.row]
 by_cases hlt:(m:Int)<x.mo
 ·have m1:m=1:=by omega
  subst m1
  have hbm:bm=b:=by omega
  subst hbm
  refine aA (by simp;omega) (aF ?_)
  refine ak ?_
  refine aH ?_
  refine aj (.inl rfl) ?_
  have e1':Km.Pure tab.get TJ [nO c,vi (y:Nat),vi 1]=Eq (vi (nK c y 1:Nat)):=e1
  simp [g10,g1,g2,g4,cl,-aG,e1',wrap64 (n:=bm+(nK c y 1:Nat)) (by omega) (by omega),YrD.row]
  refine aI ?_
  refine aj (.inl rfl) ?_
  simp [g10]
  refine ih 0 _ (by omega) ⟨2,_,_,rfl,by omega,.inr ⟨rfl,by omega,rfl⟩,?_,?_,?_,?_,?_⟩<;>simp [g2,g4,g7,show IntKind.i64.wrap 2=2 from rfl]
 ·have hbf:bm=fm:=by
   rw [←hF];unfold fmD
   rcases hmb with⟨rfl,rfl⟩ | ⟨rfl,h2,rfl⟩
   ·rw [if_neg (by omega)]
   ·rw [if_pos h2]
  subst hbf
  refine ay (by simp;omega) ?_
  refine aZ (k':=[.code Eb]) rfl ?_
  refine ak (aj (.inl rfl) ?_)
  have hp:ml≤9:=by omega
  have hp0:6≤ml:=by omega
  simp [g1,g2,g4,g7,cl,ly,-aG,e3,wrap64 (n:=bm+ml) (by omega) (by omega)]
  refine ak (aj (.inl rfl) ?_)
  have q0:=bX (x.wd-bm) (show(7:Int)≠0 by omega)
  have q1:=b5 (x.wd-bm) (show(0:Int)<7 by omega)
  simp [g1,g7,wrap64 (n:=x.wd-bm) (by omega) (by omega),zJ (n:=x.wd-bm) (by omega) (by omega),wrap64 (n:=bm+(x.wd-bm) % 7) (by omega) (by omega)]
  refine ak ?_
  refine ak (aj (.inl rfl) ?_)
  simp [g7]
  by_cases h5:x.wk=5
  ·refine aA (by simp [h5]) ?_
   have r0:=bX (bm+ml-1-x.wd) (show(7:Int)≠0 by omega)
   have r1:=b5 (bm+ml-1-x.wd) (show(0:Int)<7 by omega)
   refine ak (aj (.inl rfl) ?_)
   simp [g7,wrap64 (n:=bm+ml-1) (by omega) (by omega),wrap64 (n:=bm+ml-1-x.wd) (by omega) (by omega),zJ (n:=bm+ml-1-x.wd) (by omega) (by omega),wrap64 (n:=bm+ml-1-(bm+ml-1-x.wd) % 7) (by omega) (by omega)]
   refine ak (aj (.inl rfl) ?_)
   simp [g1]
   refine aO (hQ _ _ ?_)
   simp [nN,jP,h5]
  ·have h1:x.wk=1:=by omega
   refine ay (by simp [h5]) (aF ?_)
   refine ak (aj (.inl rfl) ?_)
   simp [g7,h1,wrap64 (n:=(0:Int)) (by omega) (by omega),wrap64 (n:=bm+(x.wd-bm) % 7) (by omega) (by omega)]
   refine ak (aj (.inl rfl) ?_)
   simp
   refine aO (hQ _ _ ?_)
   simp [nN,jP,h1])
end Go.Proofs.YthfeogjbpgocbaaGreat
end
section
namespace Go.Proofs.YthfeogjbpgocbaaGreat
open Go Km
set_option maxRecDepth 100000 in
theorem ayi{c y:Nat}(hc:c<3)(hy:1≤y)(hy':y≤14){b:Int}(hb:0≤b)(hb':b≤260)(x:YrD)(hx:x.OK) :
  Km.Pure tab.get Ht [nO c,vi b,vi (y:Nat),.a (x.row.map .f)]=Eq (.t [vi (if jP (fmD c y b x) (mlD c y x) x.wk x.wd then nN (fmD c y b x) (mlD c y x) x.wk x.wd else -1),vb (jP (fmD c y b x) (mlD c y x) x.wk x.wd)]):=Km.Pure.eq (by
 obtain⟨hm,hw,w0,w6,-,-,-,-⟩:=hx
 have e1:=vM hc hy hy' (m:=1) (by omega) (by omega)
 have e2:=vM hc hy hy' (m:=2) (by omega) (by omega)
 have k1:=jh c y 1
 have k2:=jh c y 2
 have hml:=jh c y x.mo.toNat
 have aPV:=vP c y x.mo.toNat
 have e3:Km.Pure tab.get yA [nO c,vi (y:Nat),vi x.mo]=Eq (vi (mlD c y x)):=by
  rcases hm with h | h
  ·unfold mlD;rw [h];exact e1
  ·unfold mlD;rw [h];exact e2
 have hq:mlD c y x=(nK c y x.mo.toNat:Nat):=rfl
 have hfm:b≤fmD c y b x∧fmD c y b x≤b+9:=by unfold fmD;split<;>omega
 generalize hF:fmD c y b x=fm at *
 generalize hM:mlD c y x=ml at *
 refine dD aH6 rfl fun Q hQ=>?_
 refine ak (aj (.inl rfl) ?_)
 simp
 refine ak (aj (.inl rfl) ?_)
 simp
 refine ak ?_
 refine ak (aj (.inl rfl) ?_)
 simp
 refine aH ?_
 have cl:∀ z:Blk,ldV [.box ((jy c).map .f) 0,z] (some 4) (.c (.ptr 0 0 0))=some (nO c):=by
  intro z
  have:c=0∨c=1∨c=2:=by omega
  rcases this with rfl | rfl | rfl<;>rfl
 have ly:∀ z:Blk,ldV [z,.box [.f (fi x.mo),.f (fi x.wk),.f (fi x.wd),.f (fi x.mi),.f (fi x.off)] 0] none (.c (.ptr 1 0 0))=some (vi x.mo):=fun _=>rfl
 refine bF (fun n s=>∃(m:Nat) (t:T) (bm:Int),s=⟨t,[],[.box ((jy c).map .f) 0,.box (x.row.map .f) 0]⟩∧n=2-m∧(m=1∧bm=b∨m=2∧x.mo=2∧bm=b+(nK c y 1:Nat))∧t.g 10=vi bm∧t.g 2=vi (y:Nat)∧t.g 4=.c (.ptr 0 0 0)∧t.g 7=.c (.ptr 1 0 0)∧t.g 11=vi (m:Nat)) 1
  ⟨1,_,b,rfl,rfl,.inl ⟨rfl,rfl⟩,by simp,by simp,by simp,by simp,by simp⟩ ?_
 rintro n s ⟨m,t,bm,rfl,rfl,hmb,g1,g2,g4,g7,g10⟩ ih
 refine ak ?_
 refine ak (aj (.inl rfl) ?_)
 simp [g10,g7,YrD.row]
 by_cases hlt:(m:Int)<x.mo
 ·have m1:m=1:=by omega
  subst m1
  have hbm:bm=b:=by omega
  subst hbm
  refine aA (by simp;omega) (aF ?_)
  refine ak ?_
  refine aH ?_
  refine aj (.inl rfl) ?_
  have e1':Km.Pure tab.get yA [nO c,vi (y:Nat),vi 1]=Eq (vi (nK c y 1:Nat)):=e1
  simp [g10,g1,g2,g4,cl,-aG,e1',wrap64 (n:=bm+(nK c y 1:Nat)) (by omega) (by omega),YrD.row]
  refine aI ?_
  refine aj (.inl rfl) ?_
  simp [g10]
  refine ih 0 _ (by omega) ⟨2,_,_,rfl,by omega,.inr ⟨rfl,by omega,rfl⟩,?_,?_,?_,?_,?_⟩<;>simp [g2,g4,g7,show IntKind.i64.wrap 2=2 from rfl]
 have hbf:bm=fm:=by
  rw [←hF];unfold fmD
  rcases hmb with⟨rfl,rfl⟩ | ⟨rfl,h2,rfl⟩
  ·rw [if_neg (by omega)]
  ·rw [if_pos h2]
 subst hbf
 have hp:ml≤9:=by omega
 have hp0:6≤ml:=by omega
 refine ay (by simp;omega) ?_
 refine aZ (k':=[.code Ey]) rfl ?_
 refine ak (aj (.inl rfl) ?_)
 simp
 refine ak (aj (.inl rfl) ?_)
 simp
 refine ak ?_
 refine ak (aj (.inl rfl) ?_)
 simp [g1]
 refine aH ?_
 refine bF (fun n s=>∃(d cnt la:Int) (t:T),s=⟨t,[],[.box ((jy c).map .f) 0,.box [.f (fi x.mo),.f (fi x.wk),.f (fi x.wd),.f (fi x.mi),.f (fi x.off)] 0]⟩∧n=(bm+ml-d).toNat∧bm≤d∧d≤bm+ml∧0≤cnt∧cnt≤d-bm ∧
   (x.wk=1→cnt=0∧la = -1∧d≤bm+(x.wd-bm) % 7)∧(x.wk=5→la=if bm≤d-1-(d-1-x.wd) % 7 then d-1-(d-1-x.wd) % 7 else -1) ∧
   t.g 2=vi (y:Nat)∧t.g 4=.c (.ptr 0 0 0)∧t.g 7=.c (.ptr 1 0 0)∧t.g 10=vi bm∧t.g 12=vi cnt∧t.g 13=vi la∧t.g 14=vi d) ml.toNat
  ⟨bm,0,-1,_,rfl,by omega,dx _,by omega,by omega,by omega,fun _=>⟨rfl,rfl,by omega⟩,fun _=>(if_neg (by omega)).symm,by simp [g2],by simp [g4],by simp [g7],by simp [g1],by simp,by simp,by simp⟩ ?_
 clear ih
 rintro n s ⟨d,cnt,la,t,rfl,rfl,d0,d1,c0,c1,hk1,hk5,g2,g4,g7,g10,g12,g13,g14⟩ ih
 refine ak ?_
 refine ak (aj (.inl rfl) ?_)
 simp [g2,g4,g7,g10,g14,cl,ly,-aG,e3,wrap64 (n:=bm+ml) (by omega) (by omega)]
 by_cases hd:d<bm+ml
 case neg=>
  have hdd:d=bm+ml:=by omega
  subst hdd
  refine ay (by simp) ?_
  refine aZ (k':=[.code yD]) rfl ?_
  rcases hw with hw | hw
  ·obtain⟨rfl,rfl,hk⟩:=hk1 hw
   refine ak (aj (.inl rfl) ?_)
   simp [g13,g7,hw]
   refine aO (hQ _ _ ?_)
   have:jP bm ml 1 x.wd=false:=by simp [jP,nN];omega
   simp [hw,this]
  ·have hla:=hk5 hw
   refine ak (aj (.inl rfl) ?_)
   simp [g13,g7,hw]
   refine aO (hQ _ _ ?_)
   by_cases h:bm≤bm+ml-1-(bm+ml-1-x.wd) % 7
   ·rw [if_pos h]at hla
    have e:jP bm ml 5 x.wd=true:=by simp [jP,nN];omega
    have e':nN bm ml 5 x.wd=la:=by simp [nN,hla]
    simp [hw,e,e']
    omega
   ·rw [if_neg h]at hla
    have e:jP bm ml 5 x.wd=false:=by simp [jP,nN];omega
    simp [hw,e,hla]
 refine aA (by simp;omega) (aF ?_)
 refine ak ?_
 refine aH ?_
 refine ak (aj (.inl rfl) ?_)
 have hr:bM .rem (vi d) (vi 7)=some (vi (d % 7)):=nH (by omega) (by omega)
 simp [g14,g7,hr]
 by_cases hit:d % 7=x.wd
 ·refine aA (by simp [hit]) ?_
  refine ak (aj (.inl rfl) ?_)
  simp [g12,wrap64 (n:=cnt+1) (by omega) (by omega)]
  refine ak (aj (.inl rfl) ?_)
  simp [g14]
  refine ak ?_
  rcases hw with hw | hw
  ·obtain⟨rfl,rfl,hk⟩:=hk1 hw
   refine aj (.inl rfl) ?_
   simp [g7,hw]
   refine aA (by simp) ?_
   refine ak (aj (.inl rfl) ?_)
   simp [g14]
   refine aO (hQ _ _ ?_)
   have e':nN bm ml 1 x.wd=d:=by simp [nN];omega
   have e:jP bm ml 1 x.wd=true:=by simp [jP,e',hd]
   simp [hw,e,e']
  ·have hla:=hk5 hw
   refine aj (.inl rfl) ?_
   have nxt:∀ t:T,t.g 2=vi (y:Nat)→t.g 4=.c (.ptr 0 0 0)→t.g 7=.c (.ptr 1 0 0)→t.g 10=vi bm→t.g 12=vi (cnt+1)→t.g 13=vi d→t.g 14=vi d →
     WP tab.get Ht none [.code Eu,.inLoop Ew,.inBlock 2,.code yD] ⟨t,[],[.box ((jy c).map .f) 0,.box [.f (fi x.mo),.f (fi 5),.f (fi x.wd),.f (fi x.mi),.f (fi x.off)] 0]⟩ Q:=by
    intro t g2 g4 g7 g10 g12 g13 g14
    have eh:([.box ((jy c).map .f) 0,.box [.f (fi x.mo),.f (fi 5),.f (fi x.wd),.f (fi x.mi),.f (fi x.off)] 0]:Heap)=[.box ((jy c).map .f) 0,.box [.f (fi x.mo),.f (fi x.wk),.f (fi x.wd),.f (fi x.mi),.f (fi x.off)] 0]:=by rw [hw]
    rw [eh]
    refine aj (.inl rfl) ?_
    simp [g14,wrap64 (n:=d+1) (by omega) (by omega)]
    refine ih _ _ ?_ ⟨d+1,cnt+1,d,_,rfl,rfl,by omega,by omega,by omega,by omega,fun h=>by omega,fun _=>?_,by simp [g2],by simp [g4],by simp [g7],by simp [g10],by simp [g12],by simp [g13],by simp⟩
    ·omega
    ·rw [if_pos (by omega)];omega
   by_cases h5:cnt+1=5
   ·simp [g7,hw,h5]
    refine ay (by simp) (aF (aI (nxt _ ?_ ?_ ?_ ?_ ?_ ?_ ?_)))<;>simp [g2,g4,g7,g10,g14,h5]
   ·simp [g7,hw,h5]
    refine ay (by simp) (aF (aI (nxt _ ?_ ?_ ?_ ?_ ?_ ?_ ?_)))<;>simp [g2,g4,g7,g10,g14]
 ·refine ay (by simp [hit]) (aF (aI ?_))
  refine aj (.inl rfl) ?_
  simp [g14,wrap64 (n:=d+1) (by omega) (by omega)]
  refine ih _ _ ?_ ⟨d+1,cnt,la,_,rfl,rfl,by omega,by omega,by omega,by omega,fun h=>?_,fun h=>?_,by simp [g2],by simp [g4],by simp [g7],by simp [g10],by simp [g12],by simp [g13],by simp⟩
  ·omega
  ·obtain⟨a1,a2,a3⟩:=hk1 h
   exact⟨a1,a2,by omega⟩
  ·have hla:=hk5 h
   rw [hla,show d+1-1=d by omega,show d-1-(d-1-x.wd) % 7=d-(d-x.wd) % 7 by omega])
end Go.Proofs.YthfeogjbpgocbaaGreat
end
section
namespace Go.Proofs.YthfeogjbpgocbaaGreat
open Go Km
def ake(t:TrD)(l o:List TrD):Prop:=∃ A B,l=A++B∧o=A++t::B∧(∀ x ∈ B,t.at_<x.at_)∧∀ x,A.getLast?=some x→x.at_≤t.at_
theorem iK{n b:Nat}(hn:n≤1100000)(hb:b≤4096):dh n b=true:=by
 have h:(2*n+768)*b≤2200768*4096:=Nat.mul_le_mul (by omega) hb
 simp [dh]
 omega
theorem eH{l:List TrD}{j:Nat}{x:TrD}(h:l[j]?=some x):(aT l)[j]?=some x.row:=by simp [aT,h]
theorem sN(l:List TrD)(j:Nat)(x:TrD):(aT l).set j x.row=aT (l.set j x):=by simp [aT,List.map_set]
@[simp] theorem TrD.zn (x:TrD):x.row.length=2:=rfl
set_option maxRecDepth 100000 in
theorem SE{H:Heap}{c:C}{l:List TrD}(hL:LR H c 2 (aT l))(hl:l.length≤1000)(x:TrD) :
  ∃ o c' H',ake x l o∧Ev tab.get (.fn BO) [.c c,.a (x.row.map .f)] H (.c c') H'∧LR H' c' 2 (aT o)∧Kb H H' c∧(dO c'=dO c∨∃ i,dO c'=some i∧H.length≤i):=by
 suffices h:∃ r H',Ev tab.get (.fn BO) [.c c,.a (x.row.map .f)] H r H'∧∃ o c',r=.c c'∧ake x l o∧LR H' c' 2 (aT o)∧Kb H H' c∧(dO c'=dO c∨∃ i,dO c'=some i∧H.length≤i) by
  obtain⟨r,H',h1,o,c',rfl,h2,h3,h4,h5⟩:=h
  exact⟨o,c',H',h2,h1,h3,h4,h5⟩
 refine gu aH5 rfl fun Q hQ=>?_
 refine ak (aj (.inl rfl) ?_)
 simp [TrD.row]
 obtain⟨H1,hH1⟩:∃ H1:Heap,H1=H++[.box [.f (fi x.at_),.f (fi x.off)] 0]:=⟨_,rfl⟩
 rw [←hH1]
 have b1:H1[H.length]?=some (.box [.f (fi x.at_),.f (fi x.off)] 0):=by rw [hH1];simp
 have l1:H1.length=H.length+1:=by rw [hH1];simp
 obtain⟨H2,hH2⟩:∃ H2:Heap,H2=H1++[.box (x.row.map .f) 0]:=⟨_,rfl⟩
 have hL2:LR H2 c 2 (aT l):=by rw [hH2,hH1];exact(hL.push _).push _
 have hb2:H2[H1.length]?=some (.box (x.row.map .f) 0):=by rw [hH2];simp
 obtain⟨c3,H3,happ,hL3,hK3,hc3⟩:=hL2.app (bY _) (by decide) (row:=x.row) rfl (bytes:=16) (iK (by simp;omega) (by decide)) hb2
 have l2:H2.length=H.length+2:=by rw [hH2];simp [l1]
 have hK:Kb H H3 c:=⟨by have:=hK3.1;omega,fun i y hy hn=>hK3.2 i y (by rw [hH2,hH1,cQ,al (aN hy)];exact hy) hn⟩
 have aLm:dO c3=dO c∨∃ i,dO c3=some i∧H.length≤i:=hc3.imp id fun h=>⟨_,h,by omega⟩
 refine ak (aj (.inl rfl) ?_)
 have e2:H1++[.box [.f (fi x.at_),.f (fi x.off)] 0]=H2:=hH2.symm
 simp [b1,aQ]
 rw [e2]
 simp [happ]
 rcases hL3 with⟨h,_⟩ | ⟨_,b,ep,rfl,hb⟩
 ·simp at h
 have e3:aT l++[x.row]=aT (l++[x]):=by simp [aT]
 rw [e3]at hb
 refine ak ?_
 refine ak (aj (.inl rfl) ?_)
 simp [hb.len]
 refine aH ?_
 clear hK3 hc3
 refine bF (fun n s=>∃(A B:List TrD) (t:T) (J:Heap),s=⟨t,[],J⟩∧n=A.length∧l=A++B∧(∀ z ∈ B,x.at_<z.at_)∧RB J b 2 ep (aT (A++x::B))∧Fm b H3 J∧t.g 5=.c (.sl b 0 (l.length+1) 0 ep 2)∧t.g 6=vi A.length) l.length
  ⟨l,[],_,H3,rfl,rfl,by simp,by simp,hb,Fm.refl _,by simp,by simp;exact wrap64 (by omega) (by omega)⟩ ?_
 rintro n s ⟨A,B,t,J,rfl,rfl,hAB,hB,hJ,hF,g5,g6⟩ ih
 have hlen:l.length=A.length+B.length:=by rw [hAB];simp
 refine ak ?_
 have fin:(∀ z,A.getLast?=some z→z.at_≤x.at_)→∀ t:T,t.g 5=.c (.sl b 0 (l.length+1) 0 ep 2)→WP tab.get BO none [.code rJ] ⟨t,[],J⟩ Q:=by
  intro hlast t g5
  refine ak (aj (.inl rfl) ?_)
  simp [g5]
  refine aO (hQ _ _ (.c (.sl b 0 (l.length+1) 0 ep 2)) rfl (res_one (by simp)) ⟨A++x::B,_,rfl,⟨A,B,hAB,rfl,hB,hlast⟩,.inr ⟨by simp [aT],b,ep,?_,hJ⟩,?_,?_⟩)
  ·simp [hlen];omega
  ·refine⟨Nat.le_trans hK.1 hF.1,fun i y hy hn=>?_⟩
   have h1:=hK.2 i y hy hn
   refine hF.get h1 ?_
   rintro rfl
   rcases aLm with e | ⟨k,e,hk⟩
   ·exact hn (by rw [←e];rfl)
   ·cases e;have:=aN hy;omega
  ·exact aLm
 have hgr:=bY (A++x::B)
 cases hA:A.getLast? with
 | none=>
  have hA0:A=[]:=by simpa using hA
  subst hA0
  refine ak (aj (.inl rfl) ?_)
  simp [g6]
  refine ay (by simp) ?_
  refine aZ (k':=[.code rJ]) rfl ?_
  exact fin (by simp) _ (by simp [g5])
 | some z=>
  obtain⟨A',rfl⟩:∃ A',A=A'++[z]:=by
   obtain⟨A',e⟩:=List.getLast?_eq_some_iff.1 hA
   exact⟨A',e⟩
  have hal:(A'++[z]).length=A'.length+1:=by simp
  rw [hal]at hlen
  have gz:(A'++[z]++x::B)[A'.length]?=some z:=by simp
  have gx:(A'++[z]++x::B)[A'.length+1]?=some x:=by
   rw [bj (by simp)];simp
  have iz:aV J 2 none (.c (.sl b 0 (l.length+1) 0 ep 2)) (vi A'.length)=some (.c (.ptr b (A'.length*2) ep)):=by
   have:=hJ.idx (n:=l.length+1) (c:=0) (k:=.i64) (o:=0) (i:=(A'.length:Int)) (by omega) (by omega)
   simpa using this
  have ix:aV J 2 none (.c (.sl b 0 (l.length+1) 0 ep 2)) (vi ((A'.length:Int)+1))=some (.c (.ptr b ((A'.length+1)*2) ep)):=by
   have:=hJ.idx (n:=l.length+1) (c:=0) (k:=.i64) (o:=0) (i:=(A'.length:Int)+1) (by omega) (by omega)
   rw [cI,show((A'.length:Int)+1).toNat=A'.length+1 by omega]at this
   exact this
  have cz:=hJ.ldc hgr (eH gz) (k:=0) (x:=fi z.at_) rfl
  have cx:=hJ.ldc hgr (eH gx) (k:=0) (x:=fi x.at_) rfl
  simp only [Nat.add_zero]at cz cx
  have w1:IntKind.i64.wrap (A'.length:Int)=A'.length:=wrap64 (by omega) (by omega)
  refine ak (aj (.inl rfl) ?_)
  simp [g5,g6,hal,show(0:Int)<(A'.length:Int)+1 by omega,w1,iz,ix,cz,cx,-aG]
  by_cases hlt:x.at_<z.at_
  case neg=>
   refine ay (by simp [hlt]) ?_
   refine aZ (k':=[.code rJ]) rfl ?_
   exact fin (fun w hw=>by rw [hA]at hw;cases hw;omega) _ (by simp [g5])
  refine aA (by simp [hlt]) (aF ?_)
  refine ak ?_
  refine aH ?_
  have rx:=hJ.ldr hgr (eH gx)
  refine ak (aj (.inl rfl) ?_)
  simp [g5,g6,hal,ix,rx,-aG,TrD.row]
  obtain⟨J1,hJ1⟩:∃ J1:Heap,J1=J++[.box [.f (fi x.at_),.f (fi x.off)] 0]:=⟨_,rfl⟩
  have hJb:RB J1 b 2 ep (aT (A'++[z]++x::B)):=by rw [hJ1];exact hJ.push _
  have bxl:J1[J.length]?=some (.box [.f (fi x.at_),.f (fi x.off)] 0):=by rw [hJ1];simp
  have hbl:=hJ.lt
  rw [←hJ1]
  have ixg:∀ {K:Heap} {rows:List (List FC)} (_:RB K b 2 ep rows),aV K 2 none (.c (.sl b 0 (l.length+1) 0 ep 2)) (vi ((A'.length:Int)+1))=some (.c (.ptr b ((A'.length+1)*2) ep)):=fun hK=>by
   have:=hK.idx (n:=l.length+1) (c:=0) (k:=.i64) (o:=0) (i:=(A'.length:Int)+1) (by omega) (by omega)
   rw [cI,show((A'.length:Int)+1).toNat=A'.length+1 by omega]at this
   exact this
  have izg:∀ {K:Heap} {rows:List (List FC)} (_:RB K b 2 ep rows),aV K 2 none (.c (.sl b 0 (l.length+1) 0 ep 2)) (vi A'.length)=some (.c (.ptr b (A'.length*2) ep)):=fun hK=>by
   have:=hK.idx (n:=l.length+1) (c:=0) (k:=.i64) (o:=0) (i:=(A'.length:Int)) (by omega) (by omega)
   simpa using this
  have rz:=hJb.ldr hgr (eH gz)
  obtain⟨J2,s1,hJ2,f12,n12⟩:=hJb.str (j:=A'.length+1) (row:=z.row) hgr (by simp) rfl
  have aPW:Grid 2 ((aT (A'++[z]++x::B)).set (A'.length+1) z.row):=by rw [sN];exact bY _
  obtain⟨J3,s2,hJ3,f23,n23⟩:=hJ2.str (j:=A'.length) (row:=x.row) aPW (by simp) rfl
  have bx2:=f12.get bxl (by omega)
  have hrows:((aT (A'++[z]++x::B)).set (A'.length+1) z.row).set A'.length x.row=aT (A'++x::z::B):=by
   rw [sN,sN]
   congr 1
   rw [cQ]
   simp
  rw [hrows]at hJ3
  refine ak (aj (.inl rfl) ?_)
  simp only [TrD.row,aR,bh]at rz s1 s2
  simp [g5,g6,hal,w1,ixg hJb,izg hJb,rz,s1,-aG,-bI]
  refine aj (.inl rfl) ?_
  simp [g5,g6,hal,w1,izg hJ2,bx2,aQ,s2,-bI]
  refine aI ?_
  refine aj (.inl rfl) ?_
  simp [g6,hal,w1]
  have hFJ:Fm b H3 J3:=((hF.trans (by rw [hJ1];exact Fm.push _ _)).trans f12).trans f23
  refine ih A'.length _ (by simp) ⟨A',z::B,_,J3,rfl,rfl,by rw [hAB];simp,?_,hJ3,hFJ,by simp [g5],by simp⟩
  intro w hw
  rcases cF.1 hw with rfl | hw
  ·exact hlt
  ·exact hB w hw
end Go.Proofs.YthfeogjbpgocbaaGreat
end
section
namespace Go.Proofs.YthfeogjbpgocbaaGreat
open Go Km
inductive gQ:List TrD→List TrD→Prop
 | nil:gQ [] []
 | step {r o o' t}:gQ r o→ake t o o'→gQ (r++[t]) o'
def TLe(a b:TrD):Prop:=a.at_≤b.at_
def TLt(a b:TrD):Prop:=a.at_<b.at_
theorem ake.perm{t:TrD}{l o:List TrD}(h:ake t l o):o.Perm (l++[t]):=by
 obtain⟨A,B,rfl,rfl,-,-⟩:=h
 exact List.perm_middle.trans (List.perm_append_singleton t (A++B)).symm
theorem gQ.perm:∀ {r o:List TrD},gQ r o→o.Perm r
 | _,_,.nil=>d7 _
 | _,_,.step h ht=>ht.perm.trans ((gQ.perm h).append_right _)
theorem gQ.len{r o:List TrD}(h:gQ r o):o.length=r.length:=h.perm.length_eq
theorem yJ:∀ {a b:List TrD},a.Pairwise TLt→b.Pairwise TLe→b.Perm a→b=a
 | [],b,_,_,h=>h.eq_nil
 | x::a,[],_,_,h=>by cases h.symm.eq_nil
 | x::a,y::b,ha,hb,h=>by
  rw [de]at ha hb
  have hxy:y=x:=by
   have hy:y ∈ x::a:=h.subset (bB ..)
   have hx:x ∈ y::b:=h.symm.subset (bB ..)
   rcases cF.1 hy with e | hy
   ·exact e
   ·rcases cF.1 hx with e | hx
    ·exact e.symm
    ·have h1:=ha.1 y hy
     have h2:=hb.1 x hx
     unfold TLt at h1;unfold TLe at h2;omega
  subst hxy
  rw [yJ ha.2 hb.2 (h.cons_inv)]
def fC(o:List TrD)(size:Int)(i:Nat):Int:=match o[i+1]? with
 | some y=>y.at_
 | none=>(match o[0]? with | some y=>y.at_ | none=>0)+size
def nV(o:List TrD)(size:Int)(n:Nat):Bool:=(List.range n).all fun i=>match o[i]? with
 | some x=>decide (2160≤fC o size i-x.at_)
 | none=>true
def dW(o:List TrD)(size:Int):Bool:=nV o size o.length
theorem Df{o:List TrD}{size:Int}(h:dW o size=true):∀ i x y,o[i]?=some x→o[i+1]?=some y→x.at_+2160≤y.at_:=by
 intro i x y hx hy
 unfold dW nV at h
 have h1:=aL.1 h i (by have:=(ai.1 hx).1;simpa using this)
 simp only [hx,fC,hy]at h1
 have:=of_decide_eq_true h1
 omega
theorem qW:∀ {o:List TrD},(∀ i x y,o[i]?=some x→o[i+1]?=some y→x.at_+2160≤y.at_)→o.Pairwise TLt
 | [],_=>List.Pairwise.nil
 | [x],_=>List.pairwise_singleton _ _
 | x::y::l,h=>by
  have ih:=qW (o:=y::l) fun i a b ha hb=>h (i+1) a b (by simpa using ha) (by simpa using hb)
  have hxy:x.at_+2160≤y.at_:=h 0 x y (by simp) (by simp)
  refine de.2 ⟨fun z hz=>?_,ih⟩
  unfold TLt
  rcases cF.1 hz with rfl | hz
  ·omega
  ·have:=(de.1 ih).1 z hz
   unfold TLt at this;omega
theorem nD{o:List TrD}{size:Int}(h:dW o size=true):o.Pairwise TLt:=qW (Df h)
def epC:Nat→Int
 | 0=>2
 | _=>5
def bgn(c:Nat):Nat→Int
 | 0=>epC c
 | y+1=>bgn c y+(wX c (y+1):Nat)
def nY:Nat→Nat
 | 0=>7
 | _=>14
def cyc(c:Nat):Int:=7*(kT c:Nat)
theorem GX{c:Nat}(hc:c<3):bgn c (nY c)=epC c+cyc c:=by
 have:c=0∨c=1∨c=2:=by omega
 rcases this with rfl | rfl | rfl<;>decide
theorem H9(c y:Nat):12≤wX c y:=by
 have h1:=vP c y 1
 have h2:=vP c y 2
 unfold wX;omega
theorem GV(c:Nat){y y':Nat}(h:y<y'):bgn c y<bgn c y':=by
 induction h with
 | refl=>have:=H9 c (y+1);simp only [bgn];omega
 | step _ ih=>rename_i m _;have:=H9 c (m+1);simp only [bgn]at *;omega
theorem BA{c y:Nat}(hc:c<3)(hy:y≤nY c):2≤bgn c y∧bgn c y≤222:=by
 have h0:bgn c 0≤bgn c y:=by
  rcases cB y with rfl | h
  ·exact dx _
  ·exact Int.le_of_lt (GV c h)
 have h1:bgn c y≤bgn c (nY c):=by
  rcases b9 hy with h | rfl
  ·exact Int.le_of_lt (GV c h)
  ·exact dx _
 rw [GX hc]at h1
 have:c=0∨c=1∨c=2:=by omega
 rcases this with rfl | rfl | rfl<;>simp [bgn,epC,cyc,kT]at h0 h1<;>omega
def fZ(c y:Nat)(r q:YrD):List TrD:=
 let b:=bgn c (y-1)
 if jP (fmD c y b r) (mlD c y r) r.wk r.wd then [⟨nN (fmD c y b r) (mlD c y r) r.wk r.wd*1440+r.mi-q.off,r.off⟩]else []
def rP(c:Nat)(r q:YrD):Nat→List TrD
 | 0=>[]
 | n+1=>rP c r q n++(fZ c (n+1) r q++fZ c (n+1) q r)
theorem lY(c y:Nat)(r q:YrD):(fZ c y r q).length≤1:=by simp only [fZ];split<;>simp
theorem lT(c:Nat)(r q:YrD):∀ n,(rP c r q n).length≤2*n
 | 0=>by simp [rP]
 | n+1=>by
  have h1:=lT c r q n
  have h2:=lY c (n+1) r q
  have h3:=lY c (n+1) q r
  simp only [rP,bN];omega
end Go.Proofs.YthfeogjbpgocbaaGreat
end
section
namespace Go.Proofs.YthfeogjbpgocbaaGreat
open Go Km
structure ZD where
 c:Nat
 start:Int
 tg:Tg
 tr:List TrD
 hor:Int
 yg:Tg
 yr:List YrD
def ZD.row(z:ZD):List FC:=jy z.c++[fi z.start,sl z.tg (aT z.tr),fi z.hor,sl z.yg (bK z.yr)]
abbrev ZD.v(z:ZD):V:=.a (z.row.map .f)
theorem ZD.zn{z:ZD}(hc:z.c<3):z.row.length=8:=by
 obtain⟨c,s,tg,tr,h,yg,yr⟩:=z
 have:c=0∨c=1∨c=2:=by simp at hc;omega
 rcases this with rfl | rfl | rfl<;>rfl
section
variable{H:Heap}{b:Nat}{z:ZD}{fl:Nat}
theorem ai6(h:H[b]?=some (.box (z.row.map .f) fl))(hc:z.c<3):ldV H none (.c (.ptr b 4 0))=some (vi z.start):=by
 obtain⟨c,s,tg,tr,h',yg,yr⟩:=z
 have:c=0∨c=1∨c=2:=by simp at hc;omega
 rcases this with rfl | rfl | rfl<;>simp [ldV,h,aP,ZD.row,jy,aQ]
theorem jk(h:H[b]?=some (.box (z.row.map .f) fl))(hc:z.c<3):ldV H none (.c (.ptr b 5 0))=some (.c (.f (sl z.tg (aT z.tr)))):=by
 obtain⟨c,s,tg,tr,h',yg,yr⟩:=z
 have:c=0∨c=1∨c=2:=by simp at hc;omega
 rcases this with rfl | rfl | rfl<;>simp [ldV,h,aP,ZD.row,jy,aQ]
theorem oP(h:H[b]?=some (.box (z.row.map .f) fl))(hc:z.c<3):ldV H none (.c (.ptr b 6 0))=some (vi z.hor):=by
 obtain⟨c,s,tg,tr,h',yg,yr⟩:=z
 have:c=0∨c=1∨c=2:=by simp at hc;omega
 rcases this with rfl | rfl | rfl<;>simp [ldV,h,aP,ZD.row,jy,aQ]
theorem jW(h:H[b]?=some (.box (z.row.map .f) fl))(hc:z.c<3):ldV H none (.c (.ptr b 7 0))=some (.c (.f (sl z.yg (bK z.yr)))):=by
 obtain⟨c,s,tg,tr,h',yg,yr⟩:=z
 have:c=0∨c=1∨c=2:=by simp at hc;omega
 rcases this with rfl | rfl | rfl<;>simp [ldV,h,aP,ZD.row,jy,aQ]
theorem Gf(h:H[b]?=some (.box (z.row.map .f) fl))(hc:z.c<3):ldV H none (.c (.ptr b 0 0))=some (vi (epC z.c)):=by
 obtain⟨c,s,tg,tr,h',yg,yr⟩:=z
 have:c=0∨c=1∨c=2:=by simp at hc;omega
 rcases this with rfl | rfl | rfl<;>simp [ldV,h,aP,ZD.row,jy,aQ,epC]
theorem mY(h:H[b]?=some (.box (z.row.map .f) fl))(hc:z.c<3):ldV H (some 4) (.c (.ptr b 0 0))=some (nO z.c):=by
 obtain⟨c,s,tg,tr,h',yg,yr⟩:=z
 have:c=0∨c=1∨c=2:=by simp at hc;omega
 rcases this with rfl | rfl | rfl<;>simp [ldV,h,aP,ZD.row,jy,aQ]
theorem jD(h:H[b]?=some (.box (z.row.map .f) fl))(hc:z.c<3):ldV H (some 8) (.c (.ptr b 0 0))=some z.v:=by
 obtain⟨c,s,tg,tr,h',yg,yr⟩:=z
 have:c=0∨c=1∨c=2:=by simp at hc;omega
 rcases this with rfl | rfl | rfl<;>simp [ldV,h,aP,ZD.row,jy,aQ]
end
def ZD.cyc(z:ZD):Int:=if z.yr.length=0 then 1 else Go.Proofs.YthfeogjbpgocbaaGreat.cyc z.c
set_option maxRecDepth 100000 in
theorem yT(z:ZD)(hc:z.c<3):Km.Pure tab.get Hu [z.v]=Eq (vi z.cyc):=Km.Pure.eq (by
 refine dD aIa rfl fun Q hQ=>?_
 refine ak (aj (.inl rfl) ?_)
 simp
 have hz:([.box (z.row.map .f) 0]:Heap)[0]?=some (.box (z.row.map .f) 0):=rfl
 refine ak ?_
 refine ak (aj (.inl rfl) ?_)
 simp [jW hz hc,-aG]
 by_cases h:z.yr=[]
 ·refine aA (by simp [h]) ?_
  refine ak (aj (.inl rfl) ?_)
  simp
  refine aO (hQ _ _ ?_)
  simp [ZD.cyc,h]
 ·refine ay (by simp [h]) (aF ?_)
  refine ak (aj (.inl rfl) ?_)
  simp [mY hz hc,-aG,Tc hc]
  refine ak ?_
  refine ak (aj (.inl rfl) ?_)
  have hr:bM .rem (vi (kT z.c:Nat)) (vi 7)=some (vi (((kT z.c:Nat):Int) % 7)):=nH (by omega) (by omega)
  have hd:kT z.c=13∨kT z.c=31:=by unfold kT;split<;>simp
  have hw:IntKind.i64.wrap (7*((kT z.c:Nat):Int))=7*((kT z.c:Nat):Int):=wrap64 (by omega) (by omega)
  simp [hr]
  refine aA (by simp;omega) ?_
  refine ak (aj (.inl rfl) ?_)
  simp [hw]
  refine aO (hQ _ _ ?_)
  simp [ZD.cyc,h,cyc])
end Go.Proofs.YthfeogjbpgocbaaGreat
end
section
namespace Go.Proofs.YthfeogjbpgocbaaGreat
open Go Km
theorem Gy{c y:Nat}{b:Int}{x:YrD}(hb:0≤b)(hb':b≤260)(hx:x.OK):-10≤nN (fmD c y b x) (mlD c y x) x.wk x.wd∧nN (fmD c y b x) (mlD c y x) x.wk x.wd≤300:=by
 have k1:=jh c y 1
 have k2:=jh c y x.mo.toNat
 have k3:=vP c y x.mo.toNat
 have hq:mlD c y x=(nK c y x.mo.toNat:Nat):=rfl
 have hfm:b≤fmD c y b x∧fmD c y b x≤b+9:=by unfold fmD;split<;>omega
 unfold nN
 split<;>omega
structure G9(fl:List FC)(s:FC)(k m:Nat)(r q:YrD):Prop where
 i:∀ H:Heap,aV H 5 none (.c (.f s)) (vi k)=some (.c (.f (.fp fl (k*5))))
 i':∀ H:Heap,aV H 5 none (.c (.f s)) (vi m)=some (.c (.f (.fp fl (m*5))))
 row:∀ H:Heap,ldV H (some 5) (.c (.f (.fp fl (k*5))))=some (.a (r.row.map .f))
 mi:∀ H:Heap,ldV H none (.c (.f (.fp fl (k*5+3))))=some (vi r.mi)
 of:∀ H:Heap,ldV H none (.c (.f (.fp fl (k*5+4))))=some (vi r.off)
 of':∀ H:Heap,ldV H none (.c (.f (.fp fl (m*5+4))))=some (vi q.off)
theorem aBu(g:Tg)(r q:YrD):G9 (bK [r,q]).flatten (sl g (bK [r,q])) 0 1 r q:=
 ⟨fun _=>rfl,fun _=>rfl,fun _=>rfl,fun _=>rfl,fun _=>rfl,fun _=>rfl⟩
theorem aBt(g:Tg)(r q:YrD):G9 (bK [r,q]).flatten (sl g (bK [r,q])) 1 0 q r:=
 ⟨fun _=>rfl,fun _=>rfl,fun _=>rfl,fun _=>rfl,fun _=>rfl,fun _=>rfl⟩
theorem Dv(c:Nat):nY c≤14:=by unfold nY;split<;>omega
set_option maxRecDepth 100000 in
theorem PK{z:ZD}(hc:z.c<3){fl:List FC}{k m y:Nat}{r q:YrD}(hR:G9 fl (sl z.yg (bK z.yr)) k m r q)(hkm:(1:Int)-k=m)(hr:r.OK)(hq:q.OK)(hy:y<nY z.c)
  {t:T} {J:Heap} {cl:C} {o raw:List TrD} (hJ:J[0]?=some (.box (z.row.map .f) 0)) (hL:LR J cl 2 (aT o)) (ho:gQ raw o) (hol:raw.length≤100)
  (g1:t.g 1=.c (.ptr 0 0 0)) (g4:t.g 4=.c cl) (g5:t.g 5=vi (cyc z.c)) (g6:t.g 6=vi (bgn z.c y)) (g7:t.g 7=vi ((y:Int)+1)) (g8:t.g 8=vi (k:Nat)) {K:List cu} {Q:Option ah→St→Prop}
  (next:∀(t:T) (J:Heap) (cl:C) (o:List TrD),J[0]?=some (.box (z.row.map .f) 0)→LR J cl 2 (aT o)→gQ (raw++fZ z.c (y+1) r q) o→t.g 1=.c (.ptr 0 0 0)→t.g 4=.c cl→t.g 5=vi (cyc z.c)→t.g 6=vi (bgn z.c y)→t.g 7=vi ((y:Int)+1)→t.g 8=vi (k:Nat) →
   WP tab.get pG none K ⟨t,[],J⟩ Q) :
  WP tab.get pG none (.code EJ::K) ⟨t,[],J⟩ Q:=by
 have hyl:=Dv z.c
 obtain⟨b0,b1⟩:=BA hc (Nat.le_of_lt hy)
 have hf:=ayi hc (y:=y+1) (by omega) (by omega) (b:=bgn z.c y) (by omega) (by omega) r hr
 rw [show((y+1:Nat):Int)=(y:Int)+1 by omega]at hf
 obtain⟨d0,d1⟩:=Gy (c:=z.c) (y:=y+1) (b:=bgn z.c y) (x:=r) (by omega) (by omega) hr
 obtain⟨-,-,-,-,m0,m1,o0,o1⟩:=hr
 obtain⟨-,-,-,-,-,-,p0,p1⟩:=hq
 have hraw:fZ z.c (y+1) r q=if jP (fmD z.c (y+1) (bgn z.c y) r) (mlD z.c (y+1) r) r.wk r.wd then [⟨nN (fmD z.c (y+1) (bgn z.c y) r) (mlD z.c (y+1) r) r.wk r.wd*1440+r.mi-q.off,r.off⟩]else []:=rfl
 generalize hD:nN (fmD z.c (y+1) (bgn z.c y) r) (mlD z.c (y+1) r) r.wk r.wd=D at *
 generalize hO:jP (fmD z.c (y+1) (bgn z.c y) r) (mlD z.c (y+1) r) r.wk r.wd=O at *
 refine aH ?_
 refine ak (aj (.inl rfl) ?_)
 have hrow:=hR.row J
 have hi:=hR.i J
 have lz1:=mY hJ hc
 have lz2:=jW hJ hc
 simp [g1,g6,g7,g8,lz1,lz2,hi,hrow,hf,-aG]
 refine ak ?_
 refine aj (.inl rfl) ?_
 simp
 cases O with
 | false=>
  simp only [aE,if_false]at hraw
  rw [hraw,c6]at next
  refine ay (by simp) (aF (aI ?_))
  exact next _ J cl o hJ hL ho (by simp [g1]) (by simp [g4]) (by simp [g5]) (by simp [g6]) (by simp [g7]) (by simp [g8])
 | true=>
  simp only [if_true]at hraw
  refine aA (by simp) ?_
  refine aj (.inl rfl) ?_
  have w1:IntKind.i64.wrap (D*1440)=D*1440:=wrap64 (by omega) (by omega)
  have w2:IntKind.i64.wrap (D*1440+r.mi)=D*1440+r.mi:=wrap64 (by omega) (by omega)
  have w3:IntKind.i64.wrap (D*1440+r.mi-q.off)=D*1440+r.mi-q.off:=wrap64 (by omega) (by omega)
  have w4:IntKind.i64.wrap (1-(k:Int))=m:=by rw [wrap64 (by omega) (by omega),hkm]
  have hi':=hR.i' J
  have hmi:=hR.mi J
  have hof:=hR.of J
  have aGh:=hR.of' J
  have hlen:=ho.len
  obtain⟨o',cl',J',hI,hE,hL',hK,hbk⟩:=SE hL (by omega) ⟨D*1440+r.mi-q.off,r.off⟩
  simp only [TrD.row,aR,bh]at hE
  have hEq:=hE.eq
  simp [g1,g4,g8,lz2,hi,hi',hmi,hof,aGh,w1,w2,w3,w4,hEq,-aG]
  refine aI ?_
  rw [hraw]at next
  exact next _ J' cl' o' (hK.2 _ _ hJ (hL.dF hJ)) hL' (.step ho hI) (by simp [g1]) (by simp) (by simp [g5]) (by simp [g6]) (by simp [g7]) (by simp [g8])
end Go.Proofs.YthfeogjbpgocbaaGreat
end
section
namespace Go.Proofs.YthfeogjbpgocbaaGreat
open Go Km
set_option maxRecDepth 100000 in
theorem aBX{z:ZD}(hc:z.c<3){r q:YrD}(hz:z.yr=[r,q])(hr:r.OK)(hq:q.OK){y:Nat}(hy:y<nY z.c)
  {t:T} {J:Heap} {cl:C} {o raw:List TrD} (hJ:J[0]?=some (.box (z.row.map .f) 0)) (hL:LR J cl 2 (aT o)) (ho:gQ raw o) (hol:raw.length≤90)
  (g1:t.g 1=.c (.ptr 0 0 0)) (g4:t.g 4=.c cl) (g5:t.g 5=vi (cyc z.c)) (g6:t.g 6=vi (bgn z.c y)) (g7:t.g 7=vi ((y:Int)+1)) {K:List cu} {Q:Option ah→St→Prop}
  (next:∀(t:T) (J:Heap) (cl:C) (o:List TrD),J[0]?=some (.box (z.row.map .f) 0)→LR J cl 2 (aT o)→gQ (raw++(fZ z.c (y+1) r q++fZ z.c (y+1) q r)) o→t.g 1=.c (.ptr 0 0 0)→t.g 4=.c cl→t.g 5=vi (cyc z.c)→t.g 6=vi (bgn z.c y)→t.g 7=vi ((y:Int)+1) →
   WP tab.get pG none K ⟨t,[],J⟩ Q) :
  WP tab.get pG none (.code EK::K) ⟨t,[],J⟩ Q:=by
 refine ak (aj (.inl rfl) ?_)
 simp
 refine aH ?_
 refine bF (fun n s=>∃(k:Nat) (t:T) (J:Heap) (cl:C) (o:List TrD),s=⟨t,[],J⟩∧n=2-k∧k≤2∧J[0]?=some (.box (z.row.map .f) 0)∧LR J cl 2 (aT o) ∧
   gQ (raw++((if 1≤k then fZ z.c (y+1) r q else [])++(if 2≤k then fZ z.c (y+1) q r else []))) o ∧
   t.g 1=.c (.ptr 0 0 0)∧t.g 4=.c cl∧t.g 5=vi (cyc z.c)∧t.g 6=vi (bgn z.c y)∧t.g 7=vi ((y:Int)+1)∧t.g 8=vi (k:Nat)) 2
  ⟨0,_,J,cl,o,rfl,rfl,by omega,hJ,hL,by simpa using ho,by simp [g1],by simp [g4],by simp [g5],by simp [g6],by simp [g7],by simp⟩ ?_
 clear hJ hL ho g1 g4 g5 g6 g7
 rintro n s ⟨k,t,J,cl,o,rfl,rfl,hk,hJ,hL,ho,g1,g4,g5,g6,g7,g8⟩ ih
 refine ak ?_
 refine ak (aj (.inl rfl) ?_)
 simp [g8]
 have l1:=lY z.c (y+1) r q
 have l2:=lY z.c (y+1) q r
 have hcase:k=0∨k=1∨k=2:=by omega
 rcases hcase with rfl | rfl | rfl
 ·refine aA (by simp) (aF ?_)
  refine ak ?_
  simp at ho
  refine PK hc (m:=1) (by rw [hz];exact aBu z.yg r q) (by decide) hr hq hy hJ hL ho (by omega) (by simp [g1]) (by simp [g4]) (by simp [g5]) (by simp [g6]) (by simp [g7]) (by simp [g8]) ?_
  intro t J cl o hJ hL ho g1 g4 g5 g6 g7 g8
  refine aj (.inl rfl) ?_
  simp [g8]
  exact ih 1 _ (by omega) ⟨1,_,J,cl,o,rfl,rfl,by omega,hJ,hL,by simpa using ho,by simp [g1],by simp [g4],by simp [g5],by simp [g6],by simp [g7],by simp [show IntKind.i64.wrap 1=1 from rfl]⟩
 ·refine aA (by simp) (aF ?_)
  refine ak ?_
  simp at ho
  refine PK hc (m:=0) (by rw [hz];exact aBt z.yg r q) (by decide) hq hr hy hJ hL ho (by simp;omega) (by simp [g1]) (by simp [g4]) (by simp [g5]) (by simp [g6]) (by simp [g7]) (by simp [g8]) ?_
  intro t J cl o hJ hL ho g1 g4 g5 g6 g7 g8
  refine aj (.inl rfl) ?_
  simp [g8]
  exact ih 0 _ (by omega) ⟨2,_,J,cl,o,rfl,rfl,by omega,hJ,hL,by simpa using ho,by simp [g1],by simp [g4],by simp [g5],by simp [g6],by simp [g7],by simp [show IntKind.i64.wrap 2=2 from rfl]⟩
 ·refine ay (by simp) ?_
  refine aZ (k':=K) rfl ?_
  simp at ho
  exact next _ J cl o hJ hL (by simpa using ho) (by simp [g1]) (by simp [g4]) (by simp [g5]) (by simp [g6]) (by simp [g7])
end Go.Proofs.YthfeogjbpgocbaaGreat
end
section
namespace Go.Proofs.YthfeogjbpgocbaaGreat
open Go Km
def AtB(x:TrD):Prop:=-20000≤x.at_∧x.at_≤500000
theorem Dt{c y:Nat}{r q:YrD}(hc:c<3)(hy:y<nY c)(hr:r.OK)(hq:q.OK):∀ x ∈ fZ c (y+1) r q,AtB x:=by
 intro x hx
 obtain⟨b0,b1⟩:=BA hc (Nat.le_of_lt hy)
 obtain⟨d0,d1⟩:=Gy (c:=c) (y:=y+1) (b:=bgn c y) (x:=r) (by omega) (by omega) hr
 obtain⟨-,-,-,-,m0,m1,-,-⟩:=hr
 obtain⟨-,-,-,-,-,-,p0,p1⟩:=hq
 simp only [fZ,Nat.add_sub_cancel]at hx
 split at hx
 ·simp only [List.mem_singleton]at hx
  subst hx
  unfold AtB
  simp only
  omega
 ·cases hx
theorem uX{c:Nat}{r q:YrD}(hc:c<3)(hr:r.OK)(hq:q.OK):∀ n,n≤nY c→∀ x ∈ rP c r q n,AtB x
 | 0,_,x,hx=>by cases hx
 | n+1,hn,x,hx=>by
  simp only [rP,bS]at hx
  rcases hx with hx | hx | hx
  ·exact uX hc hr hq n (by omega) x hx
  ·exact Dt hc (by omega) hr hq x hx
  ·exact Dt hc (by omega) hq hr x hx
theorem Ce(o:List TrD)(size:Int)(n:Nat){x:TrD}(h:o[n]?=some x):nV o size (n+1)=(nV o size n&&decide (2160≤fC o size n-x.at_)):=by
 simp [nV,List.range_succ,h]
theorem Io{o:List TrD}{size:Int}{n:Nat}{x:TrD}(h:o[n]?=some x)(hb:¬ 2160≤fC o size n-x.at_):dW o size=false:=by
 cases e:dW o size with
 | false=>rfl
 | true=>
  have h1:=aL.1 e n (by have:=(ai.1 h).1;simpa using this)
  simp only [h]at h1
  exact absurd (of_decide_eq_true h1) hb
set_option maxRecDepth 100000 in
theorem HY(z:ZD)(hc:z.c<3){r q:YrD}(hz:z.yr=[r,q])(hr:r.OK)(hq:q.OK):∃ g o,gQ (rP z.c r q (nY z.c)) o ∧
  Km.Pure tab.get pG [z.v]=Eq (.t [.c (.f (sl g (aT o))),vb (dW o (cyc z.c*1440))]):=by
 obtain⟨rr,⟨g,o,ho,rfl⟩,hp⟩:∃ rr,(∃ g o,gQ (rP z.c r q (nY z.c)) o∧rr=.t [.c (.f (sl g (aT o))),vb (dW o (cyc z.c*1440))])∧Km.Pure tab.get pG [z.v] rr:=by
  refine iL aH7 rfl fun Q hQ=>?_
  refine ak (aj (.inl rfl) ?_)
  simp
  have hz0:([.box (z.row.map .f) 0]:Heap)[0]?=some (.box (z.row.map .f) 0):=rfl
  have hcy:z.cyc=cyc z.c:=by simp [ZD.cyc,hz]
  have hcb:cyc z.c=91∨cyc z.c=217:=by unfold cyc kT;split<;>simp
  have hep:epC z.c=2∨epC z.c=5:=by unfold epC;split<;>simp
  have hend:=GX hc
  have hny:=Dv z.c
  refine ak (aj (.inl rfl) ?_)
  simp
  refine ak ?_
  refine ak (aj (.inl rfl) ?_)
  simp [jW hz0 hc,-aG,hz]
  refine ay (by simp) (aF ?_)
  refine ak (aj (.inl rfl) ?_)
  simp [jD hz0 hc,-aG,yT z hc,hcy]
  refine ak (aj (.inl rfl) ?_)
  simp [Gf hz0 hc,-aG]
  refine ak ?_
  refine ak (aj (.inl rfl) ?_)
  simp
  refine aH ?_
  refine bF (fun n s=>∃(y:Nat) (t:T) (J:Heap) (cl:C) (o:List TrD),s=⟨t,[],J⟩∧n=nY z.c-y∧y≤nY z.c∧J[0]?=some (.box (z.row.map .f) 0)∧LR J cl 2 (aT o)∧gQ (rP z.c r q y) o ∧
    t.g 1=.c (.ptr 0 0 0)∧t.g 4=.c cl∧t.g 5=vi (cyc z.c)∧t.g 6=vi (bgn z.c y)∧t.g 7=vi ((y:Int)+1)) (nY z.c)
   ⟨0,_,_,.f .es,[],rfl,rfl,by omega,hz0,.inl ⟨rfl,.inr rfl⟩,.nil,by simp,by simp,by simp,by simp [bgn],by simp⟩ ?_
  rintro n s ⟨y,t,J,cl,o,rfl,rfl,hy,hJ,hL,ho,g1,g4,g5,g6,g7⟩ ih
  obtain⟨b0,b1⟩:=BA hc hy
  refine ak ?_
  refine ak (aj (.inl rfl) ?_)
  simp [g1,g5,g6,Gf hJ hc,-aG,wrap64 (n:=epC z.c+cyc z.c) (by omega) (by omega)]
  by_cases hlt:y<nY z.c
  ·have h1:=GV z.c hlt
   refine aA (by simp;omega) (aF ?_)
   refine ak ?_
   refine aH ?_
   refine ak ?_
   have hrl:=lT z.c r q y
   refine aBX hc hz hr hq hlt hJ hL ho (by omega) (by simp [g1]) (by simp [g4]) (by simp [g5]) (by simp [g6]) (by simp [g7]) ?_
   clear g1 g4 g5 g6 g7 hJ hL ho
   intro t J cl o hJ hL ho g1 g4 g5 g6 g7
   have hyl:=H8 hc (y:=y+1) (by omega) (by omega)
   rw [show((y+1:Nat):Int)=(y:Int)+1 by omega]at hyl
   have hyb:wX z.c (y+1)≤18:=by
    have h1:=jh z.c (y+1) 1
    have h2:=jh z.c (y+1) 2
    unfold wX;omega
   refine aj (.inl rfl) ?_
   simp [g1,g6,g7,mY hJ hc,-aG,hyl,wrap64 (n:=bgn z.c y+(wX z.c (y+1):Nat)) (by omega) (by omega)]
   refine aI ?_
   refine aj (.inl rfl) ?_
   simp [g7,wrap64 (n:=(y:Int)+1+1) (by omega) (by omega)]
   exact ih (nY z.c-(y+1)) _ (by omega) ⟨y+1,_,J,cl,o,rfl,rfl,by omega,hJ,hL,ho,by simp [g1],by simp [g4],by simp [g5],by simp [bgn],by simp⟩
  ·have hyn:y=nY z.c:=by omega
   subst hyn
   rw [hend]
   refine ay (by simp) ?_
   refine aZ (k':=[.code EI]) rfl ?_
   have hbd:∀ x ∈ o,AtB x:=fun x hx=>uX hc hr hq _ (aw _) x (ho.perm.subset hx)
   obtain⟨g',hg'⟩:=hL.ex (bY _) 63
   have hol:o.length≤28:=by have:=ho.len;have:=lT z.c r q (nY z.c);omega
   refine ak ?_
   refine ak (aj (.inl rfl) ?_)
   simp
   refine aH ?_
   clear ih
   refine bF (fun n s=>∃(i:Nat) (t:T),s=⟨t,[],J⟩∧n=o.length-i∧i≤o.length∧nV o (cyc z.c*1440) i=true∧t.g 4=.c cl∧t.g 5=vi (cyc z.c)∧t.g 11=vi (i:Nat)) o.length
    ⟨0,_,rfl,rfl,by omega,rfl,by simp [g4],by simp [g5],by simp⟩ ?_
   clear g1 g4 g5 g6 g7
   rintro n s ⟨i,t,rfl,rfl,hi,hsp,g4,g5,g11⟩ ih
   refine ak ?_
   refine ak (aj (.inl rfl) ?_)
   simp [g4,g11,hL.len]
   by_cases hil:i<o.length
   case neg=>
    have:i=o.length:=by omega
    subst this
    refine ay (by simp) ?_
    refine aZ (k':=[.code yE]) rfl ?_
    refine ak (aj (.inl rfl) ?_)
    simp [g4]
    refine aO (hQ _ _ (.t [.c (.f (sl g' (aT o))),vb (dW o (cyc z.c*1440))]) ⟨g',o,ho,rfl⟩ ?_)
    have:dW o (cyc z.c*1440)=true:=hsp
    simp [exV,dw,deep,hg',this,bf,g4]
   refine aA (by simp [hil]) (aF ?_)
   refine ak ?_
   refine aH ?_
   rcases hL with⟨h,_⟩ | ⟨_,b,ep,rfl,hb⟩
   ·have:o=[]:=by simpa [aT]using h
    subst this;simp at hil
   rw [oH]at g4 hg'
   have hgr:=bY o
   have idx:∀ k:Nat,k<o.length→aV J 2 none (.c (.sl b 0 o.length 0 ep 2)) (vi k)=some (.c (.ptr b (k*2) ep)):=fun k hk=>by
    have:=hb.idx (n:=o.length) (c:=0) (k:=.i64) (o:=0) (i:=(k:Int)) (by omega) (by omega)
    simpa using this
   have SA:∀ k:Nat,(hk:k<o.length)→ldV J none (.c (.ptr b (k*2) ep))=some (vi o[k].at_):=fun k hk=>by
    have:=hb.ldc hgr (eH (ae hk)) (k:=0) (x:=fi o[k].at_) rfl
    simpa using this
   have o0:0<o.length:=by omega
   have i0:=idx 0 o0
   have l0:=SA 0 o0
   have ii:=idx i hil
   have li:=SA i hil
   have hb0:=hbd _ (av o0)
   have hbi:=hbd _ (av hil)
   unfold AtB at hb0 hbi
   simp [-aG]at i0 l0
   have w1:IntKind.i64.wrap (cyc z.c*1440)=cyc z.c*1440:=wrap64 (by omega) (by omega)
   have w2:IntKind.i64.wrap (o[0].at_+cyc z.c*1440)=o[0].at_+cyc z.c*1440:=wrap64 (by omega) (by omega)
   have w3:IntKind.i64.wrap ((i:Int)+1)=(i:Int)+1:=wrap64 (by omega) (by omega)
   refine ak (aj (.inl rfl) ?_)
   simp [g4,g5,i0,l0,w1,w2,-aG]
   refine ak ?_
   have tail:∀ t:T,t.g 4=.c (.sl b 0 o.length 0 ep 2)→t.g 5=vi (cyc z.c)→t.g 11=vi (i:Nat)→t.g 12=vi (fC o (cyc z.c*1440) i)→-20000≤fC o (cyc z.c*1440) i→fC o (cyc z.c*1440) i≤900000 →
     WP tab.get pG none [.code EG,.inBlock 5,.code EF,.inLoop EH,.inBlock 4,.code yE] ⟨t,[],J⟩ Q:=by
    intro t g4 g5 g11 g12 n0 n1
    refine ak (aj (.inl rfl) ?_)
    simp [g4,g11,g12,ii,li,-aG,wrap64 (n:=fC o (cyc z.c*1440) i-o[i].at_) (by omega) (by omega)]
    by_cases hs:fC o (cyc z.c*1440) i-o[i].at_<2160
    ·refine aA (by simp [hs]) ?_
     refine ak (aj (.inl rfl) ?_)
     simp [g4]
     refine aO (hQ _ _ (.t [.c (.f (sl g' (aT o))),vb (dW o (cyc z.c*1440))]) ⟨g',o,ho,rfl⟩ ?_)
     have:dW o (cyc z.c*1440)=false:=Io (ae hil) (by omega)
     simp [exV,dw,deep,hg',this,bf,g4]
    ·refine ay (by simp;omega) (aF (aI ?_))
     refine aj (.inl rfl) ?_
     simp [g11,w3]
     refine ih (o.length-(i+1)) _ (by omega) ⟨i+1,_,rfl,rfl,by omega,?_,by simp [g4,oH],by simp [g5],by simp⟩
     rw [Ce _ _ _ (ae hil),hsp]
     simp;omega
   by_cases hnx:i+1<o.length
   ·have i1:=idx (i+1) hnx
    have l1:=SA (i+1) hnx
    have hb1:=hbd _ (av hnx)
    unfold AtB at hb1
    rw [show((i+1:Nat):Int)=(i:Int)+1 by omega]at i1
    have hn:fC o (cyc z.c*1440) i=o[i+1].at_:=by simp [fC,ae hnx]
    rw [hn]at tail
    refine ak (aj (.inl rfl) ?_)
    simp [g4,g11,w3,hb.len]
    refine aA (by simp;omega) ?_
    refine aj (.inl rfl) ?_
    simp [g4,g11,w3,i1,l1,-aG]
    exact tail _ (by simp [g4]) (by simp [g5]) (by simp [g11]) (by simp) (by omega) (by omega)
   ·have hn:fC o (cyc z.c*1440) i=o[0].at_+cyc z.c*1440:=by
     simp [fC,co.2 (show o.length≤i+1 by omega),ae o0]
    rw [hn]at tail
    refine ak (aj (.inl rfl) ?_)
    simp [g4,g11,w3,hb.len]
    refine ay (by simp;omega) (aF ?_)
    exact tail _ (by simp [g4]) (by simp [g5]) (by simp [g11]) (by simp) (by omega) (by omega)
 exact⟨g,o,ho,Km.Pure.eq hp⟩
end Go.Proofs.YthfeogjbpgocbaaGreat
end
section
namespace Go.Proofs.YthfeogjbpgocbaaGreat
open Go Km
def pK(n:Nat):Int:=match n % 8 with
 | 0=>0 | 1=>60 | 2=>120 | 3=>-90 | 4=>30 | 5=>1080 | 6=>-1080 | _=>90
def isZ(r:Option (V × Heap))(n:Int):Bool:=match r with
 | some (.c (.f (.int .i64 k)),_)=>decide (k=n)
 | _=>false
theorem aFT{r:Option (V × Heap)}{n:Int}(h:isZ r n=true):r.map (·.1)=some (vi n):=by
 unfold isZ at h
 split at h
 ·rw [of_decide_eq_true h];rfl
 ·cases h
theorem ahL:((List.range 256).all fun n=>isZ (CF tab.get 60 10 (.fn yw) [.c (.f (.int .u8 (n:Nat)))] []) (pK n))=true:=by kernel_rfl
theorem E5{n:Nat}(h:n<256):Km.Pure tab.get yw [.c (.f (.int .u8 (n:Nat)))]=Eq (vi (pK n)):=(gI (aFT (eF (p:=fun n=>isZ (CF tab.get 60 10 (.fn yw) [.c (.f (.int .u8 (n:Nat)))] []) (pK n)) ahL h))).eq
theorem nX(n:Nat):-1080≤pK n∧pK n≤1080:=by unfold pK;split<;>omega
theorem Ic(n m:Int)(h0:0≤m)(h1:m≤4611686018427387904):Km.Pure tab.get qQ [vi n,vi m]=Eq (vb (decide (-m≤n)&&decide (n≤m))):=Km.Pure.eq (by
 refine dD aH4 rfl fun Q hQ=>?_
 refine ak (aj (.inl rfl) ?_)
 simp
 by_cases h:-m≤n
 ·refine ak (aj (.inl rfl) ?_)
  simp [ET,wrap64 (n:=-m) (by omega) (by omega),h]
  refine aO (hQ _ _ ?_)
  simp [h]
 ·refine ak (aj (.inl rfl) ?_)
  simp [ET,wrap64 (n:=-m) (by omega) (by omega),h]
  refine aO (hQ _ _ ?_)
  simp [h])
theorem zK{n m:Int}(h0:0≤m)(h1:m≤4611686018427387904)(h:-m≤n)(h':n≤m):Km.Pure tab.get qQ [vi n,vi m]=Eq (vb true):=by
 rw [Ic n m h0 h1];simp [h,h']
theorem zI{n m:Int}(h0:0≤m)(h1:m≤4611686018427387904)(h:-m≤n)(h':n≤m):Km.Pure tab.get nR [vi n,vi m]=Eq (vb true):=by
 rw [QJ n m h0 h1];simp [h,h']
end Go.Proofs.YthfeogjbpgocbaaGreat
end
section
namespace Go.Proofs.YthfeogjbpgocbaaGreat
open Go Km
theorem axG:((List.range 65).all fun n=>match (CF tab.get 20 20 (.fn JX) [.c (.f (.int .u64 n))] [])with | some (.c (.f (.int .i64 (.ofNat k))),_)=>Nat.ble k 62&&(Nat.beq n 0||Nat.ble (2 ^ k) (2*n)) | _=>false)=true:=by kernel_rfl
theorem aKO:aNb tab.get aW 64:=fun n h=>by
 have h1:=axG
 rw [aL]at h1
 have h2:=h1 n (by simp;omega)
 split at h2
 ·rename_i k H' e
  rw [am,Bool.or_eq_true]at h2
  refine⟨k,(gI (m:=20) (d:=20) (by rw [e];rfl)).eq,cM h2.1,fun h0=>?_⟩
  rcases h2.2 with h3 | h3
  ·have:=cX h3;omega
  ·exact cM h3
 ·cases h2
theorem aue:aIg tab.get aW 2:=⟨aHI,aHS,aHT,aHF,aHV,aHU,aHG,
 aHK,aHJ,aHL,aHP,aHO,aHM,aHN,aHE⟩
theorem ahB(x y:TrD):Kf tab.get yj [.a (x.row.map .f),.a (y.row.map .f)] (vi (qK x.at_ y.at_)):=by
 refine jO aHq rfl fun H Q hQ=>?_
 refine ak (aj (.inl rfl) ?_)
 simp [TrD.row]
 refine ak (aj (.inl rfl) ?_)
 simp [Bc]
 refine aO (hQ _ _ ?_)
 simp
def zf:List FC→TrD
 | [.int _ a,.int _ b]=>⟨a,b⟩
 | _=>⟨0,0⟩
def TI(r:List FC):Prop:=r=(zf r).row
theorem ajg(x:TrD):TI x.row:=rfl
def aiM(r s:List FC):Int:=qK (zf r).at_ (zf s).at_
theorem aGC:Cmp TI aiM where
 asym:=fun _ _ h h'=>by
  unfold aiM at h h'
  rw [wI]at h h'
  omega
 trans:=fun _ _ _ h h'=>by
  unfold aiM at *
  rw [wI]at *
  omega
theorem aLA:Cv tab.get (.c (.f (.fn yj []))) TI aiM:=by
 intro x y hx hy H
 obtain⟨J,h⟩:=ahB (zf x) (zf y) H
 rw [←show x=(zf x).row from hx,←show y=(zf y).row from hy]at h
 exact⟨yj,_,J,by simp [bV],h⟩
theorem S9{rows:List (List FC)}(h:∀ r ∈ rows,TI r):aT (rows.map zf)=rows:=by
 unfold aT
 rw [List.map_map]
 conv=>rhs;rw [←List.map_id rows]
 exact List.map_congr_left fun r hr=>(h r hr).symm
theorem Kw(l:List TrD):(aT l).map zf=l:=by
 unfold aT
 rw [List.map_map]
 conv=>rhs;rw [←List.map_id l]
 exact List.map_congr_left fun r _=>rfl
theorem ahK{H:Heap}{v:C}{l:List TrD}(hr:LR H v 2 (aT l))(hn:l.length≤64) :
  ∃ H',Ev tab.get (.fn NC) [.c v,.c (.f (.fn yj []))] H (.t []) H'∧Kb H H' v∧∃ l',LR H' v 2 (aT l')∧l'.Perm l∧l'.Pairwise TLe:=by
 have hW:∀ r ∈ aT l,TI r:=fun r hr=>by
  obtain⟨x,-,rfl⟩:=cJ.1 hr
  exact ajg x
 obtain⟨r,H',he,rfl,hk,l',h1,h2,h3⟩:=Km.auf (σ:=aW) aHX aue aLA aGC (by omega) aKO hr (by simpa using hn) (bY l) hW
 have hW':∀ r ∈ l',TI r:=fun r hr=>hW r (h2.mem_iff.1 hr)
 refine⟨H',he,hk,l'.map zf,by rw [S9 hW'];exact h1,?_,?_⟩
 ·have:=h2.map zf
  rwa [Kw]at this
 ·rw [cH]
  intro i j hi hj hij
  simp only [List.length_map]at hi hj
  have:=h3 i j l'[i] l'[j] (by omega) hij (by omega) (ae hi) (ae hj)
  rw [List.getElem_map,List.getElem_map]
  unfold aiM at this
  rw [wI]at this
  unfold TLe;omega
end Go.Proofs.YthfeogjbpgocbaaGreat
end
section
namespace Go.Proofs.YthfeogjbpgocbaaGreat
open Go Km
theorem LJ{H:Heap}{b:Nat}{n:Int}(h:ldV H none (.c (.ptr b 9 0))=some (vi n))(hb:∃ cs fl,H[b]?=some (.box cs fl))(h0:0≤n)(h1:n≤1000000) :
  Ev tab.get (.fn nS) [.c (.ptr b 0 0)] H (vi (n*1440)) H:=by
 obtain⟨r,H',he,rfl,rfl⟩:∃ r H',Ev tab.get (.fn nS) [.c (.ptr b 0 0)] H r H'∧r=vi (n*1440)∧H'=H:=by
  refine gu aj6 rfl fun Q hQ=>?_
  refine ak (aj (.inl rfl) ?_)
  simp
  refine ak (aj (.inl rfl) ?_)
  simp [h,-aG,wrap64 (n:=n*1440) (by omega) (by omega)]
  exact aO (hQ _ _ _ rfl (res_one (by simp)) ⟨rfl,rfl⟩)
 exact he
end Go.Proofs.YthfeogjbpgocbaaGreat
end
section
namespace Go.Proofs.YthfeogjbpgocbaaGreat
open Go Km
def iP(z:ZD)(cl:C)(n:Int):List C:=z.row.map .f++[cl,.f (fi n)]
section
variable{H:Heap}{b:Nat}{z:ZD}{cl cl':C}{n n':Int}
theorem yQ(h:H[b]?=some (.box (iP z cl n) 0))(hc:z.c<3):ldV H none (.c (.ptr b 8 0))=some (.c cl):=by
 obtain⟨c,s,tg,tr,h',yg,yr⟩:=z
 have:c=0∨c=1∨c=2:=by simp at hc;omega
 rcases this with rfl | rfl | rfl<;>simp [ldV,h,aP,iP,ZD.row,jy,aQ]
theorem aja(h:H[b]?=some (.box (iP z cl n) 0))(hc:z.c<3):ldV H none (.c (.ptr b 9 0))=some (vi n):=by
 obtain⟨c,s,tg,tr,h',yg,yr⟩:=z
 have:c=0∨c=1∨c=2:=by simp at hc;omega
 rcases this with rfl | rfl | rfl<;>simp [ldV,h,aP,iP,ZD.row,jy,aQ]
theorem aIT(h:H[b]?=some (.box (iP z cl n) 0))(hc:z.c<3):stC H (.ptr b 8 0) [cl']=some (H.set b (.box (iP z cl' n) 0)):=by
 obtain⟨c,s,tg,tr,h',yg,yr⟩:=z
 have:c=0∨c=1∨c=2:=by simp at hc;omega
 rcases this with rfl | rfl | rfl<;>simp [stC,h,over,iP,ZD.row,jy]
theorem aBq(h:H[b]?=some (.box (iP z cl n) 0))(hc:z.c<3):stC H (.ptr b 9 0) [.f (fi n')]=some (H.set b (.box (iP z cl n') 0)):=by
 obtain⟨c,s,tg,tr,h',yg,yr⟩:=z
 have:c=0∨c=1∨c=2:=by simp at hc;omega
 rcases this with rfl | rfl | rfl<;>simp [stC,h,over,iP,ZD.row,jy]
end
theorem QZ{c:Nat}{r q:YrD}{o l:List TrD}{size:Int}(ho:gQ (rP c r q (nY c)) o)(hs:dW o size=true)(hp:l.Perm (rP c r q (nY c)))(hl:l.Pairwise TLe):l=o:=
 yJ (nD hs) hl (hp.trans ho.perm.symm)
end Go.Proofs.YthfeogjbpgocbaaGreat
end
section
namespace Go.Proofs.YthfeogjbpgocbaaGreat
open Go Km
set_option maxRecDepth 100000 in
theorem ahV{z:ZD}(hc:z.c<3){fl:List FC}{k m y:Nat}{r q:YrD}{n:Int}(hR:G9 fl (sl z.yg (bK z.yr)) k m r q)(hkm:(1:Int)-k=m)(hr:r.OK)(hq:q.OK)(hy:y<nY z.c)
  {t:T} {J:Heap} {cl:C} {raw:List TrD} (hJ:J[0]?=some (.box (z.row.map .f) 0)) (hK:J[1]?=some (.box (iP z cl n) 0)) (hL:LR J cl 2 (aT raw)) (hol:raw.length≤100)
  (g1:t.g 1=.c (.ptr 0 0 0)) (g4:t.g 4=.c (.ptr 1 0 0)) (g8:t.g 8=vi (bgn z.c y)) (g9:t.g 9=vi ((y:Int)+1)) (g62:t.g 62=.c (.f (sl z.yg (bK z.yr)))) (g63:t.g 63=vi 2) (g64:t.g 64=vi (k:Nat)) {K:List cu} {Q:Option ah→St→Prop}
  (next:∀(t:T) (J:Heap) (cl:C),J[0]?=some (.box (z.row.map .f) 0)→J[1]?=some (.box (iP z cl n) 0)→LR J cl 2 (aT (raw++fZ z.c (y+1) r q))→t.g 1=.c (.ptr 0 0 0)→t.g 4=.c (.ptr 1 0 0)→t.g 8=vi (bgn z.c y)→t.g 9=vi ((y:Int)+1)→t.g 62=.c (.f (sl z.yg (bK z.yr)))→t.g 63=vi 2→t.g 64=vi (k:Nat) →
   WP tab.get mG none K ⟨t,[],J⟩ Q) :
  WP tab.get mG none (.code Eh::K) ⟨t,[],J⟩ Q:=by
 have hyl:=Dv z.c
 obtain⟨b0,b1⟩:=BA hc (Nat.le_of_lt hy)
 have hf:=Kr hc (y:=y+1) (by omega) (by omega) (b:=bgn z.c y) (by omega) (by omega) r hr
 rw [show((y+1:Nat):Int)=(y:Int)+1 by omega]at hf
 obtain⟨d0,d1⟩:=Gy (c:=z.c) (y:=y+1) (b:=bgn z.c y) (x:=r) (by omega) (by omega) hr
 obtain⟨-,-,-,-,m0,m1,o0,o1⟩:=hr
 obtain⟨-,-,-,-,-,-,p0,p1⟩:=hq
 have hraw:fZ z.c (y+1) r q=if jP (fmD z.c (y+1) (bgn z.c y) r) (mlD z.c (y+1) r) r.wk r.wd then [⟨nN (fmD z.c (y+1) (bgn z.c y) r) (mlD z.c (y+1) r) r.wk r.wd*1440+r.mi-q.off,r.off⟩]else []:=rfl
 generalize hD:nN (fmD z.c (y+1) (bgn z.c y) r) (mlD z.c (y+1) r) r.wk r.wd=D at *
 generalize hO:jP (fmD z.c (y+1) (bgn z.c y) r) (mlD z.c (y+1) r) r.wk r.wd=O at *
 refine aH ?_
 refine ak (aj (.inl rfl) ?_)
 have hrow:=hR.row
 have hi:=hR.i J
 have jl:2≤J.length:=by have:=aN hK;omega
 obtain⟨J1,hJ1⟩:∃ J1:Heap,J1=J++[.box (r.row.map .f) 0]:=⟨_,rfl⟩
 have z0:J1[0]?=some (.box (z.row.map .f) 0):=by rw [hJ1,al (by omega)];exact hJ
 have z1:J1[1]?=some (.box (iP z cl n) 0):=by rw [hJ1,al (by omega)];exact hK
 have zr:J1[J.length]?=some (.box (r.row.map .f) 0):=by rw [hJ1];simp
 have hL1:LR J1 cl 2 (aT raw):=by rw [hJ1];exact hL.push _
 have l1:J1.length=J.length+1:=by rw [hJ1];simp
 have hr5:(r.row.map C.f)=[.f (fi r.mo),.f (fi r.wk),.f (fi r.wd),.f (fi r.mi),.f (fi r.off)]:=rfl
 simp [g62,g64,hi,hrow,YrD.row]
 rw [←hr5,←hJ1]
 refine ak (aj (.inl rfl) ?_)
 have lz1:=mY z0 hc
 have lz2:=jW z0 hc
 have lr5:ldV J1 (some 5) (.c (.ptr J.length 0 0))=some (.a (r.row.map .f)):=by simp [ldV,zr,aP,YrD.row,aQ]
 have lr3:ldV J1 none (.c (.ptr J.length 3 0))=some (vi r.mi):=by simp [ldV,zr,aP,YrD.row,aQ]
 have lr4:ldV J1 none (.c (.ptr J.length 4 0))=some (vi r.off):=by simp [ldV,zr,aP,YrD.row,aQ]
 simp [g1,g8,g9,lz1,lr5,hf,-aG]
 refine ak ?_
 refine aj (.inl rfl) ?_
 simp
 cases O with
 | false=>
  simp only [aE,if_false]at hraw
  rw [hraw,c6]at next
  refine ay (by simp) (aF (aI ?_))
  exact next _ J1 cl z0 z1 hL1 (by simp [g1]) (by simp [g4]) (by simp [g8]) (by simp [g9]) (by simp [g62]) (by simp [g63]) (by simp [g64])
 | true=>
  simp only [if_true]at hraw
  rw [hraw]at next
  refine aA (by simp) ?_
  refine aj (.inl rfl) ?_
  have w1:IntKind.i64.wrap (D*1440)=D*1440:=wrap64 (by omega) (by omega)
  have w2:IntKind.i64.wrap (D*1440+r.mi)=D*1440+r.mi:=wrap64 (by omega) (by omega)
  have w3:IntKind.i64.wrap (D*1440+r.mi-q.off)=D*1440+r.mi-q.off:=wrap64 (by omega) (by omega)
  have w4:IntKind.i64.wrap (1-(k:Int))=m:=by rw [wrap64 (by omega) (by omega),hkm]
  have hi':=hR.i' J1
  have aGh:=hR.of' J1
  have lkl:=yQ z1 hc
  obtain⟨J2,hJ2⟩:∃ J2:Heap,J2=J1++[.box [.f (fi (D*1440+r.mi-q.off)),.f (fi r.off)] 0]:=⟨_,rfl⟩
  have y0:J2[0]?=some (.box (z.row.map .f) 0):=by rw [hJ2,al (by omega)];exact z0
  have y1:J2[1]?=some (.box (iP z cl n) 0):=by rw [hJ2,al (by omega)];exact z1
  have hL2:LR J2 cl 2 (aT raw):=by rw [hJ2];exact hL1.push _
  obtain⟨c3,J3,happ,hL3,hK3,hc3⟩:=hL2.app (bY _) (by decide) (row:=[fi (D*1440+r.mi-q.off),fi r.off]) rfl (bytes:=16) (iK (by simp;omega) (by decide)) (b1:=J1.length) (fl1:=0) (by rw [hJ2];simp)
  have x0:=hK3.2 _ _ y0 (hL2.dF y0)
  have x1:=hK3.2 _ _ y1 (hL2.dF y1)
  have hst:=aIT (cl':=c3) x1 hc
  have l2:J2.length=J1.length+1:=by rw [hJ2];simp
  have l3:=hK3.1
  have hn0:dO c3≠some 1:=hL3.dF x1
  simp [g1,g4,g64,lkl,lr3,lr4,lz2,hi',aGh,w1,w2,w3,w4,-aG,-bI]
  rw [←hJ2]
  simp [happ,hst,-aG,-bI]
  refine aI ?_
  refine next _ (J3.set 1 (.box (iP z c3 n) 0)) c3 (by rw [ag (by decide)];exact x0) (ax (by omega)) ?_ (by simp [g1]) (by simp [g4]) (by simp [g8]) (by simp [g9]) (by simp [g62]) (by simp [g63]) (by simp [g64])
  have e:aT raw++[[fi (D*1440+r.mi-q.off),fi r.off]]=aT (raw++[⟨D*1440+r.mi-q.off,r.off⟩]):=by simp [aT,TrD.row]
  rw [←e]
  exact hL3.set hn0 _
end Go.Proofs.YthfeogjbpgocbaaGreat
end
section
namespace Go.Proofs.YthfeogjbpgocbaaGreat
open Go Km
set_option maxRecDepth 100000 in
theorem aIJ{z:ZD}(hc:z.c<3){r q:YrD}(hz:z.yr=[r,q])(hr:r.OK)(hq:q.OK){y:Nat}{n:Int}(hy:y<nY z.c)
  {t:T} {J:Heap} {cl:C} {raw:List TrD} (hJ:J[0]?=some (.box (z.row.map .f) 0)) (hK:J[1]?=some (.box (iP z cl n) 0)) (hL:LR J cl 2 (aT raw)) (hol:raw.length≤90)
  (g1:t.g 1=.c (.ptr 0 0 0)) (g4:t.g 4=.c (.ptr 1 0 0)) (g8:t.g 8=vi (bgn z.c y)) (g9:t.g 9=vi ((y:Int)+1)) {K:List cu} {Q:Option ah→St→Prop}
  (next:∀(t:T) (J:Heap) (cl:C),J[0]?=some (.box (z.row.map .f) 0)→J[1]?=some (.box (iP z cl n) 0)→LR J cl 2 (aT (raw++(fZ z.c (y+1) r q++fZ z.c (y+1) q r)))→t.g 1=.c (.ptr 0 0 0)→t.g 4=.c (.ptr 1 0 0)→t.g 8=vi (bgn z.c y)→t.g 9=vi ((y:Int)+1) →
   WP tab.get mG none K ⟨t,[],J⟩ Q) :
  WP tab.get mG none (.code Ei::K) ⟨t,[],J⟩ Q:=by
 refine ak (aj (.inl rfl) ?_)
 have hys:(bK z.yr).length=2:=by simp [hz]
 have hsl:∀ H:Heap,bJ H (.f (sl z.yg (bK z.yr)))=some 2:=by intro H;rw [hz];rfl
 simp [g1,jW hJ hc,-aG,hsl]
 refine kS 2 (fun j t H=>H[0]?=some (.box (z.row.map .f) 0)∧t.g 1=.c (.ptr 0 0 0)∧t.g 4=.c (.ptr 1 0 0)∧t.g 8=vi (bgn z.c y)∧t.g 9=vi ((y:Int)+1)∧t.g 62=.c (.f (sl z.yg (bK z.yr))) ∧
   ∃ cl,H[1]?=some (.box (iP z cl n) 0)∧LR H cl 2 (aT (raw++((if 1≤j then fZ z.c (y+1) r q else [])++(if 2≤j then fZ z.c (y+1) q r else []))))) (by omega) (by decide) (by decide) (by simp) (by simp [hz])
  ⟨hJ,by simp [g1],by simp [g4],by simp [g8],by simp [g9],by simp,cl,hK,by simpa using hL⟩ ?_ ?_
 ·clear hJ hK hL g1 g4 g8 g9
  rintro j t J hj ⟨hJ,g1,g4,g8,g9,g62,cl,hK,hL⟩ ha hb nx
  have l1:=lY z.c (y+1) r q
  have hcase:j=0∨j=1:=by omega
  rcases hcase with rfl | rfl
  ·simp at hL
   refine ahV hc (m:=1) (by rw [hz];exact aBu z.yg r q) (by decide) hr hq hy hJ hK hL (by omega) (by simp [g1]) (by simp [g4]) (by simp [g8]) (by simp [g9]) (by simp [g62]) (by simp [hb]) (by simp [ha]) ?_
   intro t J cl hJ hK hL g1 g4 g8 g9 g62 g63 g64
   refine nx _ _ ⟨hJ,by simp [g1],by simp [g4],by simp [g8],by simp [g9],by simp [g62],cl,hK,by simpa using hL⟩ (by simp [g64]) (by simp [g63])
  ·simp at hL
   refine ahV hc (m:=0) (by rw [hz];exact aBt z.yg r q) (by decide) hq hr hy hJ hK hL (by simp;omega) (by simp [g1]) (by simp [g4]) (by simp [g8]) (by simp [g9]) (by simp [g62]) (by simp [hb]) (by simp [ha]) ?_
   intro t J cl hJ hK hL g1 g4 g8 g9 g62 g63 g64
   refine nx _ _ ⟨hJ,by simp [g1],by simp [g4],by simp [g8],by simp [g9],by simp [g62],cl,hK,by simpa using hL⟩ (by simp [g64]) (by simp [g63])
 ·clear hJ hK hL g1 g4 g8 g9
  rintro t J ⟨hJ,g1,g4,g8,g9,g62,cl,hK,hL⟩ ha hb
  exact next _ J cl hJ hK (by simpa using hL) (by simp [g1]) (by simp [g4]) (by simp [g8]) (by simp [g9])
end Go.Proofs.YthfeogjbpgocbaaGreat
end
section
namespace Go.Proofs.YthfeogjbpgocbaaGreat
open Go Km
set_option maxRecDepth 100000 in
theorem auc(z:ZD)(hc:z.c<3){r q:YrD}(hz:z.yr=[r,q])(hr:r.OK)(hq:q.OK){o:List TrD}(ho:gQ (rP z.c r q (nY z.c)) o)(hs:dW o (cyc z.c*1440)=true):∃ g,
  Km.Pure tab.get mG [z.v]=Eq (.t [.c (.f (.fp (z.row++[sl g (aT o),fi (cyc z.c)]) 0)),vb true]):=by
 obtain⟨rr,⟨g,rfl⟩,hp⟩:∃ rr,(∃ g,rr=.t [.c (.f (.fp (z.row++[sl g (aT o),fi (cyc z.c)]) 0)),vb true])∧Km.Pure tab.get mG [z.v] rr:=by
  refine iL aj3 rfl fun Q hQ=>?_
  refine ak (aj (.inl rfl) ?_)
  simp
  have hz0:([.box (z.row.map .f) 0]:Heap)[0]?=some (.box (z.row.map .f) 0):=rfl
  have hcb:cyc z.c=91∨cyc z.c=217:=by unfold cyc kT;split<;>simp
  have hep:epC z.c=2∨epC z.c=5:=by unfold epC;split<;>simp
  have hend:=GX hc
  have hny:=Dv z.c
  have hl8:=ZD.zn hc
  have hm8:(z.row.map C.f).length=8:=by simp [hl8]
  have hd:List.drop 10 (z.row.map C.f++[C.f .aB,C.f (fi 0)])=[]:=List.drop_eq_nil_of_le (by simp [hl8])
  refine ak (aj (.inl rfl) ?_)
  simp [jD hz0 hc,-aG,hl8,List.take_append,bA,hd]
  have aGv:z.row.map C.f++[C.f .aB,C.f (.int .i64 1)]=iP z (.f .aB) 1:=rfl
  rw [aGv]
  have k0:([.box (z.row.map .f) 0,.box (iP z (.f .aB) 1) 0]:Heap)[0]?=some (.box (z.row.map .f) 0):=rfl
  have k1:([.box (z.row.map .f) 0,.box (iP z (.f .aB) 1) 0]:Heap)[1]?=some (.box (iP z (.f .aB) 1) 0):=rfl
  refine ak ?_
  refine ak (aj (.inl rfl) ?_)
  simp [jW k0 hc,-aG,hz]
  refine ay (by simp) (aF ?_)
  refine ak (aj (.inl rfl) ?_)
  simp [mY k0 hc,-aG,CU hc]
  have s1:=aBq (n':=(kT z.c:Nat)) k1 hc
  simp only [List.set_cons_succ,List.set_cons_zero]at s1
  refine ak (aj (.inl rfl) ?_)
  simp [s1,-bI]
  have m0:([.box (z.row.map .f) 0,.box (iP z (.f .aB) (kT z.c:Nat)) 0]:Heap)[0]?=some (.box (z.row.map .f) 0):=rfl
  have m1:([.box (z.row.map .f) 0,.box (iP z (.f .aB) (kT z.c:Nat)) 0]:Heap)[1]?=some (.box (iP z (.f .aB) (kT z.c:Nat)) 0):=rfl
  have hcd:kT z.c=13∨kT z.c=31:=by unfold kT;split<;>simp
  have hrm:bM .rem (vi (kT z.c:Nat)) (vi 7)=some (vi (((kT z.c:Nat):Int) % 7)):=nH (by omega) (by omega)
  refine ak ?_
  refine ak (aj (.inl rfl) ?_)
  simp [hrm]
  refine aA (by simp;omega) ?_
  have s2:=aBq (n':=cyc z.c) m1 hc
  simp only [List.set_cons_succ,List.set_cons_zero]at s2
  have hw:IntKind.i64.wrap (((kT z.c:Nat):Int)*7)=cyc z.c:=by rw [wrap64 (by omega) (by omega)];unfold cyc;omega
  refine aj (.inl rfl) ?_
  simp [aja m1 hc,hw,s2,-aG,-bI]
  obtain⟨H0,hH0⟩:∃ H0:Heap,H0=[.box (z.row.map .f) 0,.box (iP z (.f .aB) (cyc z.c)) 0]:=⟨_,rfl⟩
  have n0:H0[0]?=some (.box (z.row.map .f) 0):=by rw [hH0];rfl
  have n1:H0[1]?=some (.box (iP z (.f .aB) (cyc z.c)) 0):=by rw [hH0];rfl
  rw [←hH0]
  clear m0 m1 k0 k1 s1 s2 hrm
  refine ak (aj (.inl rfl) ?_)
  simp [Gf n0 hc,-aG]
  refine ak ?_
  refine ak (aj (.inl rfl) ?_)
  simp
  refine aH ?_
  refine bF (fun n s=>∃(y:Nat) (t:T) (J:Heap) (cl:C),s=⟨t,[],J⟩∧n=nY z.c-y∧y≤nY z.c∧J[0]?=some (.box (z.row.map .f) 0)∧J[1]?=some (.box (iP z cl (cyc z.c)) 0)∧LR J cl 2 (aT (rP z.c r q y)) ∧
    t.g 1=.c (.ptr 0 0 0)∧t.g 4=.c (.ptr 1 0 0)∧t.g 8=vi (bgn z.c y)∧t.g 9=vi ((y:Int)+1)) (nY z.c)
   ⟨0,_,_,.f .aB,rfl,rfl,by omega,n0,n1,LR.nil _ _,by simp,by simp,by simp [bgn],by simp⟩ ?_
  rintro n s ⟨y,t,J,cl,rfl,rfl,hy,hJ,hK,hL,g1,g4,g8,g9⟩ ih
  obtain⟨b0,b1⟩:=BA hc hy
  refine ak ?_
  refine ak (aj (.inl rfl) ?_)
  simp [g1,g4,g8,Gf hJ hc,aja hK hc,-aG,wrap64 (n:=epC z.c+cyc z.c) (by omega) (by omega)]
  by_cases hlt:y<nY z.c
  ·have h1:=GV z.c hlt
   refine aA (by simp;omega) (aF ?_)
   refine ak ?_
   refine aH ?_
   refine ak ?_
   have hrl:=lT z.c r q y
   refine aIJ hc hz hr hq hlt hJ hK hL (by omega) (by simp [g1]) (by simp [g4]) (by simp [g8]) (by simp [g9]) ?_
   clear g1 g4 g8 g9 hJ hK hL
   intro t J cl hJ hK hL g1 g4 g8 g9
   have hyl:=Kq hc (y:=y+1) (by omega) (by omega)
   rw [show((y+1:Nat):Int)=(y:Int)+1 by omega]at hyl
   have hyb:wX z.c (y+1)≤18:=by
    have h1:=jh z.c (y+1) 1
    have h2:=jh z.c (y+1) 2
    unfold wX;omega
   refine aj (.inl rfl) ?_
   simp [g1,g8,g9,mY hJ hc,-aG,hyl,wrap64 (n:=bgn z.c y+(wX z.c (y+1):Nat)) (by omega) (by omega)]
   refine aI ?_
   refine aj (.inl rfl) ?_
   simp [g9,wrap64 (n:=(y:Int)+1+1) (by omega) (by omega)]
   exact ih (nY z.c-(y+1)) _ (by omega) ⟨y+1,_,J,cl,rfl,rfl,by omega,hJ,hK,hL,by simp [g1],by simp [g4],by simp [bgn],by simp⟩
  have hyn:y=nY z.c:=by omega
  subst hyn
  rw [hend]
  refine ay (by simp) ?_
  refine aZ (k':=[.code Ef]) rfl ?_
  have hrl:=lT z.c r q (nY z.c)
  obtain⟨J2,hE,hKb,l2,hL2,hpm,hsr⟩:=ahK hL (by omega)
  rw [QZ ho hs hpm hsr]at hL2
  have x0:=hKb.2 _ _ hJ (hL.dF hJ)
  have x1:=hKb.2 _ _ hK (hL.dF hK)
  have hEq:=hE.eq
  refine ak (aj (.inl rfl) ?_)
  simp [g4,yQ hK hc,-aG,hEq]
  clear ih hL hJ hK hE hEq hKb g8 g9
  have hol:o.length≤28:=by have:=ho.len;omega
  have hbd:∀ x ∈ o,AtB x:=fun x hx=>uX hc hr hq _ (aw _) x (ho.perm.subset hx)
  refine ak ?_
  refine ak (aj (.inl rfl) ?_)
  simp [g4,yQ x1 hc,-aG,hL2.len]
  refine kS o.length (fun j t H=>H[0]?=some (.box (z.row.map .f) 0)∧H[1]?=some (.box (iP z cl (cyc z.c)) 0)∧LR H cl 2 (aT o)∧t.g 4=.c (.ptr 1 0 0)∧t.g 119=.c cl) (by omega) (by decide) (by decide) (by simp) (by simp)
   ⟨x0,x1,hL2,by simp [g4],by simp⟩ ?_ ?_
  ·clear g4 x0 x1 hL2
   rintro i t J hil ⟨x0,x1,hL,g4,MG⟩ ha hb nx
   rcases hL with⟨h,_⟩ | ⟨hne,b,ep,rfl,hb2⟩
   ·have:o=[]:=by simpa [aT]using h
    subst this;simp at hil
   rw [oH]at MG x1 nx
   have hgr:=bY o
   have o0:0<o.length:=by omega
   obtain⟨J1,hJ1⟩:∃ J1:Heap,J1=J++[.box (o[i].row.map .f) 0]:=⟨_,rfl⟩
   have hb3:RB J1 b 2 ep (aT o):=by rw [hJ1];exact hb2.push _
   have jl:2≤J.length:=by have:=aN x1;omega
   have y0:J1[0]?=some (.box (z.row.map .f) 0):=by rw [hJ1,al (by omega)];exact x0
   have y1:J1[1]?=some (.box (iP z (.sl b 0 o.length 0 ep 2) (cyc z.c)) 0):=by rw [hJ1,al (by omega)];exact x1
   have yr:J1[J.length]?=some (.box (o[i].row.map .f) 0):=by rw [hJ1];simp
   have idx:∀ {K:Heap} (_:RB K b 2 ep (aT o)) (k:Nat),k<o.length→aV K 2 none (.c (.sl b 0 o.length 0 ep 2)) (vi k)=some (.c (.ptr b (k*2) ep)):=fun hK k hk=>by
    have:=hK.idx (n:=o.length) (c:=0) (k:=.i64) (o:=0) (i:=(k:Int)) (by omega) (by omega)
    simpa using this
   have SA:∀ k:Nat,(hk:k<o.length)→ldV J1 none (.c (.ptr b (k*2) ep))=some (vi o[k].at_):=fun k hk=>by
    have:=hb3.ldc hgr (eH (ae hk)) (k:=0) (x:=fi o[k].at_) rfl
    simpa using this
   have rw1:=hb2.ldr hgr (eH (ae hil))
   have l15:ldV J1 none (.c (.ptr J.length 0 0))=some (vi o[i].at_):=by simp [ldV,yr,aP,TrD.row,aQ]
   have hb0:=hbd _ (av o0)
   have hbi:=hbd _ (av hil)
   unfold AtB at hb0 hbi
   have i0:=idx hb3 0 o0
   have l0:=SA 0 o0
   simp [-aG]at i0 l0
   have ii:=idx hb2 i hil
   have hmin:=(LJ (aja y1 hc) ⟨_,_,y1⟩ (by omega) (by omega)).eq
   have w2:IntKind.i64.wrap (o[0].at_+cyc z.c*1440)=o[0].at_+cyc z.c*1440:=wrap64 (by omega) (by omega)
   have w3:IntKind.i64.wrap ((i:Int)+1)=(i:Int)+1:=wrap64 (by omega) (by omega)
   have hrr:o[i].row.map C.f=[.f (fi o[i].at_),.f (fi o[i].off)]:=rfl
   refine aH ?_
   refine ak (aj (.inl rfl) ?_)
   rw [hrr]at rw1 hJ1
   simp [MG,ha,ii,rw1,-aG]
   rw [←hJ1]
   refine ak (oQ (.inl rfl) ?_ ?_)
   case refine_2=>
    intro c hcm
    have hcc:c=(3,11)∨c=(4,11)∨c=(6,11):=by simpa using hcm
    rcases hcc with rfl | rfl | rfl
    all_goals
     refine⟨by decide,_,rfl,.inl ⟨by decide,?_⟩⟩
     simp [g4,yQ y1 hc,i0,l0,hmin,w2,sH,-aG]
     first | rfl | simp [V.beq,C.beq,FC.beq]
   simp [g4,yQ y1 hc,i0,l0,hmin,w2,-aG]
   have hsp:2160≤fC o (cyc z.c*1440) i-o[i].at_:=by
    have h1:=aL.1 hs i (by simpa using hil)
    simp only [ae hil]at h1
    exact of_decide_eq_true h1
   have tail:∀ t:T,t.g 4=.c (.ptr 1 0 0)→t.g 119=.c (.sl b 0 o.length 0 ep 2)→t.g 121=vi (i:Nat)→t.g 120=vi o.length→t.g 15=.c (.ptr J.length 0 0)→t.g 16=vi (fC o (cyc z.c*1440) i)→fC o (cyc z.c*1440) i≤900000 →
     WP tab.get mG none [.code Ed,.inBlock 5,.code (axO 121 158),.inLoop (Fh 4 121 120 122 158 Ee),.inBlock 4,.code Ec] ⟨t,[],J1⟩ Q:=by
    intro t g4 MG aP7 aP8 g15 g16 n1
    refine ak (aj (.inl rfl) ?_)
    simp [g15,g16,l15,-aG,wrap64 (n:=fC o (cyc z.c*1440) i-o[i].at_) (by omega) (by omega)]
    refine ay (by simp;omega) (aF (aI ?_))
    exact nx _ _ ⟨y0,y1,.inr ⟨hne,b,ep,by rw [oH],hb3⟩,by simp [g4],by simp [MG]⟩ (by simp [aP7]) (by simp [aP8])
   refine ak ?_
   by_cases hnx:i+1<o.length
   ·have i1:=idx hb3 (i+1) hnx
    have l1:=SA (i+1) hnx
    have hb1:=hbd _ (av hnx)
    unfold AtB at hb1
    rw [show((i+1:Nat):Int)=(i:Int)+1 by omega]at i1
    have hn:fC o (cyc z.c*1440) i=o[i+1].at_:=by simp [fC,ae hnx]
    rw [hn]at tail hsp
    refine ak (aj (.inl rfl) ?_)
    simp [g4,yQ y1 hc,w3,hb3.len,-aG]
    refine aA (by simp;omega) ?_
    refine aj (.inl rfl) ?_
    simp [g4,yQ y1 hc,w3,i1,l1,-aG]
    exact tail _ (by simp [g4]) (by simp [MG]) (by simp [ha]) (by simp [hb]) (by simp) (by simp) (by omega)
   ·have hn:fC o (cyc z.c*1440) i=o[0].at_+cyc z.c*1440:=by
     simp [fC,co.2 (show o.length≤i+1 by omega),ae o0]
    rw [hn]at tail hsp
    refine ak (aj (.inl rfl) ?_)
    simp [g4,yQ y1 hc,w3,hb3.len,-aG]
    refine ay (by simp;omega) (aF ?_)
    exact tail _ (by simp [g4]) (by simp [MG]) (by simp [ha]) (by simp [hb]) (by simp) (by simp) (by omega)
  ·clear g4 x0 x1 hL2
   rintro t J ⟨x0,x1,hL,g4,MG⟩ ha hb
   obtain⟨g',hg'⟩:=hL.ex (bY _) 62
   refine ak (aj (.inl rfl) ?_)
   simp [g4]
   refine aO (hQ _ _ (.t [.c (.f (.fp (z.row++[sl g' (aT o),fi (cyc z.c)]) 0)),vb true]) ⟨g',rfl⟩ ?_)
   have hx:bf (exC 63 J) (iP z cl (cyc z.c))=some (z.row++[sl g' (aT o),fi (cyc z.c)]):=by
    refine mX (xH _) ?_
    have:exC 63 J cl=some (sl g' (aT o)):=hg'
    simp [bf,this,exC]
   simp [exV,dw,deep,bf,g4,exC,x1,hx]
 exact⟨g,Km.Pure.eq hp⟩
end Go.Proofs.YthfeogjbpgocbaaGreat
end
section
namespace Go.Proofs.YthfeogjbpgocbaaGreat
open Go Km
set_option maxRecDepth 100000 in
theorem ahC(z:ZD)(hc:z.c<3)(hz:z.yr=[]):Km.Pure tab.get mG [z.v]=Eq (.t [.c (.f (.fp (z.row++[.aB,fi 1]) 0)),vb true]):=Km.Pure.eq (by
 refine dD aj3 rfl fun Q hQ=>?_
 refine ak (aj (.inl rfl) ?_)
 simp
 have hz0:([.box (z.row.map .f) 0]:Heap)[0]?=some (.box (z.row.map .f) 0):=rfl
 have hl8:=ZD.zn hc
 have hd:List.drop 10 (z.row.map C.f++[C.f .aB,C.f (fi 0)])=[]:=List.drop_eq_nil_of_le (by simp [hl8])
 refine ak (aj (.inl rfl) ?_)
 simp [jD hz0 hc,-aG,hl8,List.take_append,bA,hd]
 have aGv:z.row.map C.f++[C.f .aB,C.f (.int .i64 1)]=iP z (.f .aB) 1:=rfl
 rw [aGv]
 have k0:([.box (z.row.map .f) 0,.box (iP z (.f .aB) 1) 0]:Heap)[0]?=some (.box (z.row.map .f) 0):=rfl
 refine ak ?_
 refine ak (aj (.inl rfl) ?_)
 have hsl:∀ H:Heap,bJ H (.f (sl z.yg (bK z.yr)))=some 0:=by intro H;rw [hz];cases z.yg<;>rfl
 simp [jW k0 hc,-aG,hsl]
 refine aA (by simp [hz]) ?_
 refine ak (aj (.inl rfl) ?_)
 simp
 refine aO (hQ _ _ ?_)
 have hx:∀ J:Heap,bf (exC 63 J) (iP z (.f .aB) 1)=some (z.row++[.aB,fi 1]):=fun J=>by
  refine mX (xH _) ?_
  simp [bf,exC]
 simp [dw,deep,bf,exC,hx])
end Go.Proofs.YthfeogjbpgocbaaGreat
end
section
namespace Go.Proofs.YthfeogjbpgocbaaGreat
open Go Km
end Go.Proofs.YthfeogjbpgocbaaGreat
end
section
namespace Go.Proofs.YthfeogjbpgocbaaGreat
open Go Km
def turns(o:List TrD)(size t:Int):Int:=match o[0]? with
 | some x=>if x.at_<t then(t-x.at_) / size else 0
 | none=>0
def kU(o:List TrD)(size t k:Int):Option TrD:=(o.find? fun x=>decide (t≤x.at_+k*size)).map fun x=>⟨x.at_+k*size,x.off⟩
def aft(o:List TrD)(size t:Int):Option TrD:=(kU o size t (turns o size t)).or (kU o size t (turns o size t+1))
theorem Qq{p:TrD→Bool}{l:List TrD}{i:Nat}{x:TrD}(h:l[i]?=some x)(h0:∀ j y,j<i→l[j]?=some y→p y=false)(hp:p x=true):l.find? p=some x:=by
 obtain⟨hi,rfl⟩:=ai.1 h
 rw [dy]
 exact⟨hp,i,hi,rfl,fun j hj=>by have:=h0 j l[j] hj (ae (by omega));simpa using this⟩
set_option maxRecDepth 100000 in
theorem Nc(g:Tg)(o:List TrD)(h0:0<o.length)(hl:o.length≤1000)(hbd:∀ x ∈ o,AtB x)(n t:Int)(n0:1≤n)(n1:n≤1000)(t0:-1000000≤t)(t1:t≤1000000) :
  ∃ x,aft o (n*1440) t=some x∧Km.Pure tab.get yx [.c (.f (sl g (aT o))),vi n,vi t]=Eq (.t [.a (x.row.map .f),vb true]):=by
 obtain⟨rr,⟨x,hx,rfl⟩,hp⟩:∃ rr,(∃ x,aft o (n*1440) t=some x∧rr=.t [.a (x.row.map .f),vb true])∧Km.Pure tab.get yx [.c (.f (sl g (aT o))),vi n,vi t] rr:=by
  refine iL aj9 rfl fun Q hQ=>?_
  have hb0:=hbd _ (av h0)
  unfold AtB at hb0
  obtain⟨K,hK⟩:∃ K,K=turns o (n*1440) t:=⟨_,rfl⟩
  have hKd:K=if o[0].at_<t then(t-o[0].at_) / (n*1440)else 0:=by rw [hK];simp [turns,ae h0]
  have hs0:0<n*1440:=by omega
  have q0:=bz (t-o[0].at_) (n*1440)
  have q1:=bX (t-o[0].at_) (show n*1440≠0 by omega)
  have q2:=b5 (t-o[0].at_) hs0
  have hK0:0≤K:=by rw [hKd];split;exact cR (by omega) (by omega);omega
  have hKs:K*(n*1440)≤2000000∧t≤o[0].at_+(K+1)*(n*1440):=by
   rw [hKd]
   split
   ·rw [da,c4,cU ((t-o[0].at_) / (n*1440))];omega
   ·omega
  have aP5:0≤K*(n*1440):=dt hK0 (by omega)
  have hK1:K≤2000000:=by
   have:K*1≤K*(n*1440):=cS (by omega) hK0
   omega
  have hgr:=bY o
  have hlen:∀ H:Heap,bJ H (.f (sl g (aT o)))=some o.length:=fun H=>by
   have hne:¬ (aT o).isEmpty=true:=by
    intro h
    have:o=[]:=by simpa [aT]using h
    subst this;simp at h0
   simp [sl,hne,bJ]
  have idx:∀(H:Heap) (i:Nat),i<o.length→aV H 2 none (.c (.f (sl g (aT o)))) (vi i)=some (.c (.f (.fp (aT o).flatten (i*2)))):=fun H i hi=>by
   have:=iD (H:=H) (g:=g) (rows:=aT o) (sz:=2) (k:=.i64) (i:=(i:Int)) (by omega) (by simp;omega)
   simpa using this
  have lat:∀(H:Heap) (i:Nat) (hi:i<o.length),ldV H none (.c (.f (.fp (aT o).flatten (i*2))))=some (vi o[i].at_):=fun H i hi=>rD hgr (eH (ae hi)) rfl
  have lof:∀(H:Heap) (i:Nat) (hi:i<o.length),ldV H none (.c (.f (.fp (aT o).flatten (i*2+1))))=some (vi o[i].off):=fun H i hi=>L9 (k:=1) hgr (eH (ae hi)) rfl
  have i0:=fun H=>idx H 0 h0
  have l0:=fun H=>lat H 0 h0
  simp only [Nat.zero_mul,d6]at i0 l0
  refine ak (aj (.inl rfl) ?_)
  simp
  refine ak ?_
  refine ak (aj (.inl rfl) ?_)
  simp [hlen]
  refine ay (by simp;rintro rfl;simp at h0) (aF ?_)
  refine ak (aj (.inl rfl) ?_)
  simp [wrap64 (n:=n*1440) (by omega) (by omega)]
  refine ak (aj (.inl rfl) ?_)
  simp
  refine ak ?_
  have main:∀ t':T,t'.g 0=.c (.f (sl g (aT o)))→t'.g 2=vi t→t'.g 6=.c (.ptr 0 0 0)→t'.g 8=vi (n*1440)→t'.g 9=vi K→WP tab.get yx none [.code ED] ⟨t',[],[.box [.f (fi 0),.f (fi 0)] 0]⟩ Q:=by
   intro t' g0 g2 g6 g8 g9
   refine ak (aj (.inl rfl) ?_)
   simp [g9]
   refine aH ?_
   refine bF (fun m s=>∃(e:Int) (t':T),s=⟨t',[],[.box [.f (fi 0),.f (fi 0)] 0]⟩∧(e=0∧m=1∨e=1∧m=0∧kU o (n*1440) t K=none)∧t'.g 0=.c (.f (sl g (aT o)))∧t'.g 2=vi t∧t'.g 6=.c (.ptr 0 0 0)∧t'.g 8=vi (n*1440)∧t'.g 10=vi (K+e)) 1
    ⟨0,_,rfl,.inl ⟨rfl,rfl⟩,by simp [g0],by simp [g2],by simp [g6],by simp [g8],by simp⟩ ?_
   clear g0 g2 g6 g8 g9
   rintro m s ⟨e,t',rfl,he,g0,g2,g6,g8,g10⟩ ih
   have hKe:0≤(K+e)*(n*1440)∧(K+e)*(n*1440)≤4000000:=by
    rcases he with⟨rfl,-⟩ | ⟨rfl,-⟩
    ·rw [dr];omega
    ·rw [da,c4];omega
   refine ak ?_
   refine aH ?_
   refine ak (aj (.inl rfl) ?_)
   simp
   refine aH ?_
   refine bF (fun m' s=>∃(i:Nat) (t':T),s=⟨t',[],[.box [.f (fi 0),.f (fi 0)] 0]⟩∧m'=o.length-i∧i≤o.length∧(∀ j y,j<i→o[j]?=some y→decide (t≤y.at_+(K+e)*(n*1440))=false) ∧
     t'.g 0=.c (.f (sl g (aT o)))∧t'.g 2=vi t∧t'.g 6=.c (.ptr 0 0 0)∧t'.g 8=vi (n*1440)∧t'.g 10=vi (K+e)∧t'.g 11=vi (i:Nat)) o.length
    ⟨0,_,rfl,rfl,by omega,fun j y h=>absurd h (by omega),by simp [g0],by simp [g2],by simp [g6],by simp [g8],by simp [g10],by simp⟩ ?_
   clear g0 g2 g6 g8 g10
   rintro m' s ⟨i,t',rfl,rfl,hi,hno,g0,g2,g6,g8,g10,g11⟩ ih2
   refine ak ?_
   refine ak (aj (.inl rfl) ?_)
   simp [g0,g11,hlen]
   by_cases hil:i<o.length
   case neg=>
    have hnone:kU o (n*1440) t (K+e)=none:=by
     have:o.find? (fun x=>decide (t≤x.at_+(K+e)*(n*1440)))=none:=by
      rw [dT]
      intro x hx
      obtain⟨j,hj,rfl⟩:=bp hx
      have:=hno j o[j] (by omega) (ae hj)
      simp [this]
     simp [kU,this]
    rcases he with⟨rfl,rfl⟩ | ⟨rfl,rfl,-⟩
    ·rw [dr]at hnone
     refine ay (by simp;omega) ?_
     refine aZ (k':=[.inBlock 1,.code Ez,.inLoop EC,.inBlock 0]) rfl ?_
     refine aI ?_
     refine aj (.inl rfl) ?_
     simp [g10,wrap64 (n:=K+1) (by omega) (by omega)]
     exact ih 0 _ (by omega) ⟨1,_,rfl,.inr ⟨rfl,rfl,hnone⟩,by simp [g0],by simp [g2],by simp [g6],by simp [g8],by simp⟩
    ·exfalso
     have:=hno 0 o[0] (by omega) (ae h0)
     have h2:=of_decide_eq_false this
     exact h2 hKs.2
   refine aA (by simp [hil]) (aF ?_)
   refine ak ?_
   refine aH ?_
   have hbi:=hbd _ (av hil)
   unfold AtB at hbi
   have ii:=fun H=>idx H i hil
   have li:=fun H=>lat H i hil
   have oi:=fun H=>lof H i hil
   have w1:IntKind.i64.wrap ((K+e)*(n*1440))=(K+e)*(n*1440):=wrap64 (by omega) (by omega)
   have w2:IntKind.i64.wrap (o[i].at_+(K+e)*(n*1440))=o[i].at_+(K+e)*(n*1440):=wrap64 (by omega) (by omega)
   refine ak (aj (.inl rfl) ?_)
   simp [g0,g2,g8,g10,g11,ii,li,w1,w2]
   by_cases hge:t≤o[i].at_+(K+e)*(n*1440)
   ·refine aA (by simp [hge]) ?_
    refine ak (aj (.inl rfl) ?_)
    simp [g0,g6,g8,g10,g11,ii,li,oi,w1,w2]
    have hfk:kU o (n*1440) t (K+e)=some ⟨o[i].at_+(K+e)*(n*1440),o[i].off⟩:=by
     have:=Qq (p:=fun x=>decide (t≤x.at_+(K+e)*(n*1440))) (ae hil) (fun j y hj hy=>hno j y hj hy) (by simp [hge])
     simp [kU,this]
    have hfin:aft o (n*1440) t=some ⟨o[i].at_+(K+e)*(n*1440),o[i].off⟩:=by
     unfold aft
     rw [←hK]
     rcases he with⟨rfl,-⟩ | ⟨rfl,-,hn⟩
     ·rw [dr]at hfk ⊢;rw [hfk];rfl
     ·rw [hn,hfk];rfl
    refine aO (hQ _ _ _ ⟨_,hfin,rfl⟩ ?_)
    simp [TrD.row,g6]
   ·refine ay (by simp;omega) (aF (aI ?_))
    refine aj (.inl rfl) ?_
    simp [g11,wrap64 (n:=(i:Int)+1) (by omega) (by omega)]
    refine ih2 (o.length-(i+1)) _ (by omega) ⟨i+1,_,rfl,rfl,by omega,fun j y hj hy=>?_,by simp [g0],by simp [g2],by simp [g6],by simp [g8],by simp [g10],by simp⟩
    by_cases hji:j=i
    ·subst hji
     rw [ae hil]at hy;cases hy
     exact decide_eq_false hge
    ·exact hno j y (by omega) hy
  by_cases hlt:o[0].at_<t
  ·rw [if_pos hlt]at hKd
   have hqv:bM .quo (vi (t-o[0].at_)) (vi (n*1440))=some (vi K):=by rw [hKd];exact KT (by omega) hs0 (by omega)
   refine ak (aj (.inl rfl) ?_)
   simp [i0,l0]
   refine aA (by simp [hlt]) ?_
   refine aj (.inl rfl) ?_
   simp [i0,l0,wrap64 (n:=t-o[0].at_) (by omega) (by omega),hqv]
   exact main _ (by simp) (by simp) (by simp) (by simp) (by simp)
  ·rw [if_neg hlt]at hKd
   refine ak (aj (.inl rfl) ?_)
   simp [i0,l0]
   refine ay (by simp [hlt]) (aF ?_)
   exact main _ (by simp) (by simp) (by simp) (by simp) (by simp [hKd])
 exact⟨x,hx,Km.Pure.eq hp⟩
end Go.Proofs.YthfeogjbpgocbaaGreat
end
section
namespace Go.Proofs.YthfeogjbpgocbaaGreat
open Go Km
def Mem(o:List TrD)(size:Int)(x:TrD):Prop:=∃(k:Nat) (y:TrD),y ∈ o∧x=⟨y.at_+k*size,y.off⟩
def ayG(tr o:List TrD)(size hor:Int)(x:TrD):Prop:=x ∈ tr∨Mem o size x∧hor≤x.at_
def Last(P:TrD→Prop)(t:Int):Option TrD→Prop
 | some x=>P x∧x.at_≤t∧∀ y,P y→y.at_≤t→y.at_≤x.at_
 | none=>∀ y,P y→t<y.at_
def Apart(P:TrD→Prop):Prop:=∀ x y,P x→P y→x.at_+2160≤y.at_∨y.at_+2160≤x.at_∨x=y
theorem Last.uniq{P:TrD→Prop}{t:Int}(hA:Apart P):∀ {r q:Option TrD},Last P t r→Last P t q→r=q
 | none,none,_,_=>rfl
 | none,some y,h1,h2=>by have h3:=h1 y h2.1;have h4:=h2.2.1;omega
 | some x,none,h1,h2=>by have h3:=h2 x h1.1;have h4:=h1.2.1;omega
 | some x,some y,h1,h2=>by
  have a:=h1.2.2 y h2.1 h2.2.1
  have b:=h2.2.2 x h1.1 h1.2.1
  rcases hA x y h1.1 h2.1 with h | h | h
  ·omega
  ·omega
  ·rw [h]
theorem Last.back{P:TrD→Prop}{t s:Int}{x:TrD}(h:Last P t (some x))(h1:x.at_≤s)(h2:s≤t):Last P s (some x):=⟨h.1,h1,fun y hy hs=>h.2.2 y hy (by omega)⟩
theorem Last.RJ{P:TrD→Prop}{t s:Int}(h:Last P t none)(h2:s≤t):Last P s none:=fun y hy=>by have:=h y hy;omega
section
variable{o:List TrD}{size:Int}
theorem iy(h:dW o size=true){i j:Nat}(hij:i<j)(hj:j<o.length):o[i].at_+2160≤o[j].at_:=by
 have h1:=Df h i o[i] o[i+1] (ae (by omega)) (ae (by omega))
 rcases b9 (show i+1≤j by omega)with h2 | h2
 ·have h3:=cH.1 (nD h) (i+1) j (by omega) hj h2
  unfold TLt at h3;omega
 ·subst h2;exact h1
theorem Il(h:dW o size=true){i:Nat}(hi:i<o.length):o[i].at_+2160≤(o[0]'(by omega)).at_+size:=by
 have hn:o.length-1<o.length:=by omega
 have h1:=aL.1 h (o.length-1) (by simpa using hn)
 simp only [ae hn,fC,co.2 (show o.length≤o.length-1+1 by omega),ae (show 0<o.length by omega)]at h1
 have h2:=of_decide_eq_true h1
 rcases b9 (show i≤o.length-1 by omega)with h3 | h3
 ·have:=iy h h3 hn;omega
 ·subst h3;omega
theorem l7{k m:Nat}(hs:0≤size)(h:k<m):(k:Int)*size+size≤(m:Int)*size:=by
 have:=Int.mul_le_mul_of_nonneg_right (show((k:Int)+1)≤(m:Int) by omega) hs
 rw [da,c4]at this
 exact this
theorem jH(h:dW o size=true){x:TrD}(hx:x ∈ o):∃ h0:0<o.length,o[0].at_≤x.at_∧x.at_+2160≤o[0].at_+size:=by
 obtain⟨i,hi,rfl⟩:=bp hx
 refine⟨by omega,?_,Il h hi⟩
 rcases cB i with rfl | h1
 ·omega
 ·have:=iy h h1 hi;omega
theorem RV(h:dW o size=true)(hs:0≤size):Apart (Mem o size):=by
 rintro x y ⟨k,a,ha,rfl⟩ ⟨m,b,hb,rfl⟩
 obtain⟨h0,a1,a2⟩:=jH h ha
 obtain⟨_,b1,b2⟩:=jH h hb
 simp only
 rcases bE k m with e | e | e
 ·have:=l7 hs e;left;omega
 ·subst e
  obtain⟨i,hi,rfl⟩:=bp ha
  obtain⟨j,hj,rfl⟩:=bp hb
  rcases bE i j with e | e | e
  ·have:=iy h e hj;left;omega
  ·subst e;right;right;rfl
  ·have:=iy h e hi;right;left;omega
 ·have:=l7 hs e;right;left;omega
theorem zD(h:dW o size=true){t k:Int}{x:TrD}(hx:kU o size t k=some x):(∃ y ∈ o,x=⟨y.at_+k*size,y.off⟩)∧t≤x.at_∧∀ b ∈ o,t≤b.at_+k*size→x.at_≤b.at_+k*size:=by
 unfold kU at hx
 rw [an]at hx
 obtain⟨y,hy,rfl⟩:=hx
 rw [dy]at hy
 obtain⟨hp,i,hi,rfl,hn⟩:=hy
 have hp:=of_decide_eq_true hp
 refine⟨⟨_,av hi,rfl⟩,hp,fun b hb hbt=>?_⟩
 obtain⟨j,hj,rfl⟩:=bp hb
 rcases bE i j with e | e | e
 ·have:=iy h e hj;simp only;omega
 ·subst e;exact dx _
 ·have h1:=hn j e
  simp at h1
  omega
theorem QD{t k:Int}(hx:kU o size t k=none):∀ b ∈ o,b.at_+k*size<t:=by
 intro b hb
 unfold kU at hx
 rw [Option.map_eq_none_iff,dT]at hx
 have:=hx b hb
 simp at this
 exact this
theorem aHh(h:dW o size=true)(hs:0<size){t:Int}{x:TrD}(hx:aft o size t=some x):∀ y,Mem o size y→t≤y.at_→x.at_≤y.at_:=by
 rintro y ⟨m,b,hb,rfl⟩ hy
 simp only at hy ⊢
 obtain⟨h0,b1,b2⟩:=jH h hb
 have hK:turns o size t=if o[0].at_<t then(t-o[0].at_) / size else 0:=by unfold turns;rw [ae h0]
 have hK0:0≤turns o size t:=by rw [hK];split;exact cR (by omega) (by omega);omega
 have q0:=bz (t-o[0].at_) size
 have q1:=bX (t-o[0].at_) (show size≠0 by omega)
 have hKt:turns o size t=0∨o[0].at_+turns o size t*size≤t:=by
  rw [hK];split
  ·right;rw [cU];omega
  ·left;rfl
 obtain⟨K,eK⟩:∃ K:Nat,turns o size t=(K:Int):=⟨(turns o size t).toNat,by omega⟩
 unfold aft at hx
 rw [eK]at hx hKt
 have hmK:K≤m:=by
  rcases Nat.lt_or_ge m K with e | e
  ·exfalso
   have h1:=l7 (size:=size) (by omega) e
   rcases hKt with h2 | h2
   ·omega
   ·omega
  ·exact e
 cases h1:kU o size t (K:Int)with
 | some z=>
  rw [h1]at hx;simp at hx;subst hx
  obtain⟨⟨w,hw,rfl⟩,_,h3⟩:=zD h h1
  obtain⟨_,w1,w2⟩:=jH h hw
  rcases b9 hmK with e | e
  ·have:=l7 (size:=size) (by omega) e;simp only;omega
  ·subst e;exact h3 b hb hy
 | none=>
  rw [h1]at hx
  simp at hx
  have h3:=QD h1
  rcases b9 hmK with e | e
  ·obtain⟨⟨w,hw,rfl⟩,_,h4⟩:=zD h hx
   obtain⟨_,w1,w2⟩:=jH h hw
   rcases b9 (show K+1≤m by omega)with e2 | e2
   ·have:=l7 (size:=size) (by omega) e2
    rw [show((K+1:Nat):Int)=(K:Int)+1 by omega]at this
    simp only;omega
   ·subst e2
    rw [show((K+1:Nat):Int)=(K:Int)+1 by omega]at hy ⊢
    exact h4 b hb hy
  ·subst e
   have:=h3 b hb;omega
end
structure OKZ(z:ZD)(o:List TrD):Prop where
 c:z.c<3
 st:-1080≤z.start∧z.start≤1080
 tl:z.tr.length≤3
 tb:∀ x ∈ z.tr,0≤x.at_∧x.at_<z.hor∧-1080≤x.off∧x.off≤1080
 ts:∀(i:Nat) x y,z.tr[i]?=some x→z.tr[i+1]?=some y→x.at_+2160≤y.at_
 ho:0≤z.hor∧z.hor≤40000
 y:(z.yr=[]∧o=[])∨∃ r q,z.yr=[r,q]∧r.OK∧q.OK∧gQ (rP z.c r q (nY z.c)) o∧dW o (Go.Proofs.YthfeogjbpgocbaaGreat.cyc z.c*1440)=true ∧
  ∀ x a,aft o (Go.Proofs.YthfeogjbpgocbaaGreat.cyc z.c*1440) z.hor=some x→a ∈ z.tr→a.at_+2160≤x.at_
theorem wZ:∀ {l:List TrD},(∀(i:Nat) x y,l[i]?=some x→l[i+1]?=some y→x.at_+2160≤y.at_)→∀(i j:Nat) (hij:i<j) (hj:j<l.length),l[i].at_+2160≤l[j].at_:=by
 intro l h i j hij hj
 have h1:=h i l[i] l[i+1] (ae (by omega)) (ae (by omega))
 rcases b9 (show i+1≤j by omega)with h2 | h2
 ·have h3:=cH.1 (qW h) (i+1) j (by omega) hj h2
  unfold TLt at h3;omega
 ·subst h2;exact h1
theorem OKZ.ayw{z:ZD}{o:List TrD}(h:OKZ z o):1≤z.cyc∧z.cyc≤217:=by
 unfold ZD.cyc;split
 ·omega
 ·have:cyc z.c=91∨cyc z.c=217:=by unfold cyc kT;split<;>simp
  omega
theorem OKZ.sp{z:ZD}{o:List TrD}(h:OKZ z o):dW o (z.cyc*1440)=true:=by
 rcases h.y with⟨e,rfl⟩ | ⟨r,q,e,-,-,-,hs,-⟩
 ·rfl
 ·have:z.cyc=cyc z.c:=by simp [ZD.cyc,e]
  rw [this];exact hs
theorem OKZ.apart{z:ZD}{o:List TrD}(h:OKZ z o):Apart (ayG z.tr o (z.cyc*1440) z.hor):=by
 have hc:=h.ayw
 have hm:=RV h.sp (by omega)
 have cross:∀ x y,x ∈ z.tr→Mem o (z.cyc*1440) y→z.hor≤y.at_→x.at_+2160≤y.at_:=by
  intro x y hx hy hh
  rcases h.y with⟨e,rfl⟩ | ⟨r,q,e,-,-,-,hs,ha⟩
  ·obtain⟨k,b,hb,_⟩:=hy;cases hb
  ·have hcy:z.cyc=cyc z.c:=by simp [ZD.cyc,e]
   rw [←hcy]at ha
   have hsp:=h.sp
   cases hf:aft o (z.cyc*1440) z.hor with
   | some w=>
    have h1:=aHh hsp (by omega) hf y hy hh
    have h2:=ha w x hf hx
    omega
   | none=>
    exfalso
    obtain⟨k,b,hb,rfl⟩:=hy
    obtain⟨h0,b1,b2⟩:=jH hsp hb
    unfold aft at hf
    simp only [Option.or_eq_none_iff]at hf
    have h3:=QD hf.2 _ (av h0)
    have hK:turns o (z.cyc*1440) z.hor=if o[0].at_<z.hor then(z.hor-o[0].at_) / (z.cyc*1440)else 0:=by unfold turns;rw [ae h0]
    have q0:=bz (z.hor-o[0].at_) (z.cyc*1440)
    have q2:=b5 (z.hor-o[0].at_) (show 0<z.cyc*1440 by omega)
    rw [da,c4,hK]at h3
    split at h3
    ·rw [cU ((z.hor-o[0].at_) / (z.cyc*1440))]at h3;omega
    ·omega
 rintro x y (hx | ⟨hx,hx'⟩) (hy | ⟨hy,hy'⟩)
 ·obtain⟨i,hi,rfl⟩:=bp hx
  obtain⟨j,hj,rfl⟩:=bp hy
  rcases bE i j with e | e | e
  ·left;exact wZ h.ts i j e hj
  ·subst e;right;right;rfl
  ·right;left;exact wZ h.ts j i e hi
 ·left;exact cross x y hx hy hy'
 ·right;left;exact cross y x hy hx hx'
 ·exact hm x y hx hy
end Go.Proofs.YthfeogjbpgocbaaGreat
end
section
namespace Go.Proofs.YthfeogjbpgocbaaGreat
open Go Km
structure bZ where
 hg:Tg
 head:List Int
 fr:Int
 per:Int
 cg:Tg
 cyc:List Int
def bZ.row(p:bZ):List FC:=[sl p.hg (ints p.head),fi p.fr,fi p.per,sl p.cg (ints p.cyc)]
def bU(l:List bZ):List (List FC):=l.map bZ.row
@[simp] theorem aBz (l:List bZ):(bU l).length=l.length:=by simp [bU]
theorem kY(l:List bZ):Grid 4 (bU l):=Grid.map fun _=>rfl
theorem Ad{l:List bZ}{j:Nat}(hj:j<l.length):(bU l)[j]?=some l[j].row:=by simp [bU,hj]
def fP(limit last:Int):List Int→Bool
 | []=>true
 | n::r=>decide (last<n)&&decide (n<limit)&&fP limit n r
theorem Fj{limit last:Int}{l:List Int}{j:Nat}(hj:j<l.length):fP limit last (l.drop j)=(decide (last<l[j])&&decide (l[j]<limit)&&fP limit l[j] (l.drop (j+1))):=by
 rw [cG hj];rfl
def jv(p:bZ):Bool:=decide (0≤p.fr)&&decide (p.fr≤1099511627776)&&decide (1≤p.per)&&decide (p.per≤1099511627776) &&
 decide ((p.head.length:Int)+p.cyc.length≤1048576)&&fP p.fr (-1) p.head&&fP p.per (-1) p.cyc
theorem QX(g:Tg)(l:List Int)(limit:Int)(hl:l.length≤9223372036854775807):Kf tab.get BQ [.c (.f (sl g (ints l))),vi limit] (vb (fP limit (-1) l)):=by
 refine jO aIf rfl fun H Q hQ=>?_
 refine ak (aj (.inl rfl) ?_)
 simp
 refine ak (aj (.inl rfl) ?_)
 simp
 refine ak ?_
 refine ak (aj (.inl rfl) ?_)
 simp
 refine kS l.length (fun j t H'=>t.g 1=vi limit∧t.g 8=.c (.f (sl g (ints l)))∧H=H'∧∃ last,t.g 5=vi last∧fP limit (-1) l=fP limit last (l.drop j)) hl (by decide) (by decide) (by simp) (by simp) (by simp) ?_ ?_
 ·rintro j t _ hj ⟨g1,g8,rfl,last,g5,hB⟩ ha hb next
  rw [Fj hj]at hB
  refine aH ?_
  refine ak (aj (.inl rfl) ?_)
  simp [ha,g8,iD,hj,Gh]
  refine ak ?_
  refine ak (aj (.inl rfl) ?_)
  simp [g5,g1]
  by_cases k1:l[j]≤last
  ·simp [k1]
   refine aA (by simp) ?_
   refine ak (aj (.inl rfl) ?_)
   simp
   refine aO (hQ _ _ ?_)
   simp [hB,show¬ last<l[j] by omega]
  simp [k1,g1]
  by_cases k2:limit≤l[j]
  ·simp [k2]
   refine aA (by simp) ?_
   refine ak (aj (.inl rfl) ?_)
   simp
   refine aO (hQ _ _ ?_)
   simp [hB,show¬ l[j]<limit by omega]
  simp [k2]
  refine ay (by simp) ?_
  refine aF ?_
  refine aj (.inl rfl) ?_
  simp
  refine aI (next _ _ ?_ (by simp [ha]) (by simp [hb]))
  rw [decide_eq_true (by omega),decide_eq_true (by omega)]at hB
  exact⟨by simp [g1],by simp [g8],rfl,l[j],by simp,by simpa using hB⟩
 ·rintro t _ ⟨g1,g8,rfl,last,g5,hB⟩ ha hb
  refine ak (aj (.inl rfl) ?_)
  simp
  refine aO (hQ _ _ ?_)
  simp [hB,fP]
theorem Dj(g:Tg)(l:List Int)(limit:Int)(hl:l.length≤9223372036854775807) :
  Km.Pure tab.get BQ [.c (.f (sl g (ints l))),vi limit]=Eq (vb (fP limit (-1) l)):=(QX g l limit hl).eq
theorem aDE(p:bZ)(h1:p.head.length≤9223372036854775807)(h2:p.cyc.length≤9223372036854775807)(h:p.head.length+p.cyc.length≤9223372036854775807) :
  Kf tab.get JR [.a (p.row.map .f)] (vb (jv p)):=by
 refine jO aMO rfl fun H Q hQ=>?_
 refine ak (aj (.inl rfl) ?_)
 simp [bZ.row]
 refine ak (aj (.inl rfl) ?_)
 simp
 by_cases k1:0≤p.fr
 case neg=>
  simp [k1]
  refine aO (hQ _ _ ?_)
  simp [jv,k1]
 simp [k1]
 by_cases k2:p.fr≤1099511627776
 case neg=>
  simp [k2]
  refine aO (hQ _ _ ?_)
  simp [jv,k2]
 simp [k2]
 by_cases k3:1≤p.per
 case neg=>
  simp [k3]
  refine aO (hQ _ _ ?_)
  simp [jv,k3]
 simp [k3]
 by_cases k4:p.per≤1099511627776
 case neg=>
  simp [k4]
  refine aO (hQ _ _ ?_)
  simp [jv,k4]
 simp [k4,wrap64 (n:=(p.head.length:Int)+p.cyc.length) (by omega) (by omega)]
 by_cases k5:(p.head.length:Int)+p.cyc.length≤1048576
 case neg=>
  simp [k5]
  refine aO (hQ _ _ ?_)
  simp [jv,k5]
 simp [k5,Dj p.hg p.head p.fr h1]
 cases k6:fP p.fr (-1) p.head
 ·simp
  refine aO (hQ _ _ ?_)
  simp [jv,k6]
 simp [Dj p.cg p.cyc p.per h2]
 refine aO (hQ _ _ ?_)
 simp [jv,k1,k2,k3,k4,k5,k6]
def bZ.Sm(p:bZ):Prop:=p.head.length+p.cyc.length≤9223372036854775807
theorem ain(p:bZ)(h:p.Sm):Km.Pure tab.get JR [.a (p.row.map .f)]=Eq (vb (jv p)):=by
 have h:p.head.length+p.cyc.length≤9223372036854775807:=h
 exact(aDE p (by omega) (by omega) h).eq
theorem FD{p:bZ}(h:jv p=true):p.Sm:=by
 simp [jv]at h
 show p.head.length+p.cyc.length≤9223372036854775807
 omega
structure TermD where
 tg:Tg
 fs:List bZ
def TermD.row(t:TermD):List FC:=[sl t.tg (bU t.fs)]
def termRows(l:List TermD):List (List FC):=l.map TermD.row
@[simp] theorem aud (l:List TermD):(termRows l).length=l.length:=by simp [termRows]
theorem rY(l:List TermD):Grid 1 (termRows l):=Grid.map fun _=>rfl
theorem yI{l:List TermD}{j:Nat}(hj:j<l.length):(termRows l)[j]?=some l[j].row:=by simp [termRows,hj]
def TermD.Sm(t:TermD):Prop:=t.fs.length≤9223372036854775807∧∀ p ∈ t.fs,p.Sm
def nU(t:TermD):Bool:=decide (1≤(t.fs.length:Int))&&decide ((t.fs.length:Int)≤4)&&t.fs.all jv
def mixB(l:List TermD):Bool:=decide ((l.length:Int)≤64)&&l.all nU
theorem ajX{α:Type}{l:List α}{p:α→Bool}{j:Nat}(hj:j<l.length):(l.drop j).all p=(p l[j]&&(l.drop (j+1)).all p):=by
 rw [cG hj,List.all_cons]
theorem aHf(p:bZ)(h:p.Sm):Kf tab.get JV [.a (p.row.map .f)] (vb (!jv p)):=by
 refine jO aM1 rfl fun H Q hQ=>?_
 have hv:=ain p h
 simp [bZ.row]at hv
 refine ak (aj (.inl rfl) ?_)
 simp [bZ.row]
 refine ak (aj (.inl rfl) ?_)
 simp [hv]
 refine aO (hQ _ _ ?_)
 simp
theorem Tz(g:Tg)(l:List bZ)(hl:l.length≤9223372036854775807)(h:∀ p ∈ l,p.Sm) :
  Km.Pure tab.get BL [.c (.f (sl g (bU l))),.c (.f (.fn JV []))]=Eq (vb (l.any fun p=>!jv p)):=
 (qJ aj8 (xM aj7 l bZ.row (fun r=>.a (r.row.map .f)) (fun p=>!jv p) g JV [] hl
  (fun j hj H=>mZ (kY l) (Ad hj)) (fun p hp=>aHf p (h p hp)))).eq
theorem aFI(g:Tg)(l:List TermD)(hl:l.length≤9223372036854775807)(h:∀ t ∈ l,t.Sm):Kf tab.get F_x38 [.a [.f (sl g (termRows l))]] (vb (mixB l)):=by
 refine jO aM2 rfl fun H Q hQ=>?_
 refine ak (aj (.inl rfl) ?_)
 simp
 refine ak ?_
 refine ak (aj (.inl rfl) ?_)
 simp
 by_cases k1:(64:Int)<l.length
 ·simp [k1]
  refine aA (by simp) ?_
  refine ak (aj (.inl rfl) ?_)
  simp
  refine aO (hQ _ _ ?_)
  simp [mixB,show¬ (l.length:Int)≤64 by omega]
 simp [k1]
 refine ay (by simp) ?_
 refine aF ?_
 refine ak ?_
 refine ak (aj (.inl rfl) ?_)
 simp
 refine kS l.length (fun j t H'=>t.g 10=.c (.f (sl g (termRows l)))∧(∃ J,H'=H++J)∧l.all nU=(l.drop j).all nU) hl (by decide) (by decide) (by simp) (by simp) (by simp) ?_ ?_
 ·rintro j t _ hj ⟨g10,⟨J,rfl⟩,hB⟩ ha hb next
  rw [ajX hj]at hB
  have hs:=h l[j] (av hj)
  have hrow:=L9 (H:=H++J) (k:=0) (rY l) (yI hj) rfl
  refine aH ?_
  refine ak (aj (.inl rfl) ?_)
  simp at hrow
  simp [ha,g10,iD,hj,hrow]
  have bad:nU l[j]=false→∀(t:T) (J:Heap) k,WP tab.get F_x38 none (.code (.region [⟨D 2,.mov (.k (.c (.f (.bool false)))),none⟩] [])::.code .ret::k) ⟨t,[],H++J⟩ Q:=by
   intro hf t J k
   refine aj (.inl rfl) ?_
   simp
   refine aO (hQ _ _ ?_)
   simp [mixB,hB,hf]
  refine ak (aj (.inl rfl) ?_)
  simp
  by_cases k2:(l[j].fs.length:Int)<1
  ·simp [k2]
   exact aA (by simp) (ak (bad (by simp [nU,show¬ 1≤(l[j].fs.length:Int) by omega]) _ _ _))
  simp [k2]
  by_cases k3:(4:Int)<l[j].fs.length
  ·simp [k3]
   exact aA (by simp) (ak (bad (by simp [nU,show¬ (l[j].fs.length:Int)≤4 by omega]) _ _ _))
  simp [k3,Tz l[j].tg l[j].fs hs.1 hs.2]
  cases k4:l[j].fs.any fun p=>!jv p
  ·have:nU l[j]=true:=by
    simp [nU]at k4 ⊢
    exact⟨⟨by omega,by omega⟩,k4⟩
   refine ay (by simp) ?_
   refine aF (aI (next _ _ ?_ (by simp [ha]) (by simp [hb])))
   rw [this,Bool.true_and]at hB
   exact⟨by simp [g10],⟨_,rfl⟩,hB⟩
  ·exact aA (by simp) (ak (bad (by simp [nU]at k4 ⊢;intro _ _;exact k4) _ _ _))
 ·rintro t _ ⟨g10,⟨J,rfl⟩,hB⟩ ha hb
  refine ak (aj (.inl rfl) ?_)
  simp
  refine aO (hQ _ _ ?_)
  simp [mixB,hB,show(l.length:Int)≤64 by omega]
end Go.Proofs.YthfeogjbpgocbaaGreat
end
section
namespace Go.Proofs.YthfeogjbpgocbaaGreat
open Go Km
theorem yP(a b:Int):Km.Pure tab.get JZ [vi a,vi b]=Eq (vb (decide (a<b))):=Kf.eq (by
 refine jO aM7 rfl fun H Q hQ=>?_
 refine ak (aj (.inl rfl) ?_)
 simp
 refine ak (aj (.inl rfl) ?_)
 simp [vY]
 refine aO (hQ _ _ ?_)
 simp [vY])
theorem aug(a:Int):Km.Pure tab.get Ho [vi a]=Eq (vb false):=Kf.eq (by
 refine jO aHQ rfl fun H Q hQ=>?_
 refine ak (aj (.inl rfl) ?_)
 simp
 refine ak (aj (.inl rfl) ?_)
 simp
 refine aO (hQ _ _ ?_)
 simp)
theorem Bz(g:Tg)(l:List Int)(n:Int)(hl:l.length≤1000000000)(hp:l.Pairwise (· < ·)) :
  ∃ i:Nat,i≤l.length∧(∀ j (hj:j<l.length),j<i→l[j]<n)∧(∀ j (hj:j<l.length),i≤j→n≤l[j]) ∧
   Km.Pure tab.get BM [.c (.f (sl g (ints l))),vi n]=Eq (.t [vi i,vb (decide (n ∈ l))]):=by
 obtain⟨r,⟨i,h1,h2,h3,rfl⟩,h⟩:∃ r,(∃ i:Nat,i≤l.length∧(∀ j (hj:j<l.length),j<i→l[j]<n)∧(∀ j (hj:j<l.length),i≤j→n≤l[j])∧r=.t [vi i,vb (decide (n ∈ l))]) ∧
   Km.Pure tab.get BM [.c (.f (sl g (ints l))),vi n] r:=by
  refine iL aH0 rfl fun Q hQ=>?_
  have hat:∀ i j (hi:i<j) (hj:j<l.length),l[i]<l[j]:=fun i j hi hj=>cH.1 hp i j (by omega) hj hi
  refine ak (aj (.inl rfl) ?_)
  simp
  refine ak (aj (.inl rfl) ?_)
  simp
  refine ak (aj (.inl rfl) ?_)
  simp
  refine ak ?_
  refine aH ?_
  refine bF (fun m s=>∃(lo hi:Nat) (t:T),s=⟨t,[],[]⟩∧m=hi-lo∧lo≤hi∧hi≤l.length∧t.g 0=.c (.f (sl g (ints l)))∧t.g 1=vi n∧t.g 6=vi l.length∧t.g 7=vi lo∧t.g 8=vi hi ∧
   (∀ j (hj:j<l.length),j<lo→l[j]<n)∧(∀ j (hj:j<l.length),hi≤j→n≤l[j])) l.length
   ⟨0,l.length,_,rfl,by omega,by omega,by omega,by simp,by simp,by simp,by simp,by simp,by simp,by intros;omega⟩ ?_
  rintro m s ⟨lo,hi,t,rfl,rfl,hlh,hhl,g0,g1,g6,g7,g8,hlo,hhi⟩ next
  refine ak ?_
  refine ak (aj (.inl rfl) ?_)
  simp [g7,g8]
  by_cases hlt:lo<hi
  ·refine aA (by simp [hlt]) (aF ?_)
   obtain⟨q,hq⟩:∃ q,q=(lo+hi) / 2:=⟨_,rfl⟩
   have hqn:q<l.length:=by omega
   have e1:bM BinOp.shr (V.c (C.f (FC.int IntKind.u64 (IntKind.u64.wrap ((lo:Int)+hi))))) (V.c (C.f (FC.int IntKind.u64 1)))=some (.c (.f (.int .u64 (q:Int)))):=by
    have:IntKind.u64.wrap ((lo:Int)+hi)=(lo:Int)+hi:=by
     show((lo:Int)+hi) % 18446744073709551616=_
     omega
    rw [this]
    show some (V.c (C.f (FC.int IntKind.u64 (Int.fdiv ((lo:Int)+hi) (2 ^ (min (1:Int).toNat IntKind.u64.bits))))))=_
    have h3:Int.fdiv ((lo:Int)+hi) (2 ^ (min (1:Int).toNat IntKind.u64.bits))=q:=by
     show Int.fdiv ((lo:Int)+hi) 2=q
     rw [Int.fdiv_eq_ediv_of_nonneg _ (by omega)];omega
    rw [h3]
   have hw:IntKind.i64.wrap ((lo:Int)+hi)=(lo:Int)+hi:=wrap64 (by omega) (by omega)
   have hwq:IntKind.i64.wrap (q:Int)=q:=wrap64 (by omega) (by omega)
   refine aH ?_
   refine ak (aj (.inl rfl) ?_)
   simp [g7,g8,hw,e1,hwq]
   refine ak (aj (.inl rfl) ?_)
   simp [g0,g1,iD,hqn,Gh,yP]
   by_cases hc:l[q]<n
   ·refine aA (by simp [hc]) ?_
    refine aj (.inl rfl) ?_
    simp [wrap64 (n:=(q:Int)+1) (by omega) (by omega)]
    refine aI (next (hi-(q+1)) _ (by omega) ⟨q+1,hi,_,rfl,rfl,by omega,by omega,by simp [g0],by simp [g1],by simp [g6],by simp,by simp [g8],fun j hj h=>?_,hhi⟩)
    by_cases e:j=q
    ·subst e;exact hc
    ·have:=hat j q (by omega) hqn;omega
   ·refine ay (by simp [hc]) ?_
    refine aj (.inl rfl) ?_
    simp
    refine aI (next (q-lo) _ (by omega) ⟨lo,q,_,rfl,rfl,by omega,by omega,by simp [g0],by simp [g1],by simp [g6],by simp [g7],by simp,hlo,fun j hj h=>?_⟩)
    by_cases e:j=q
    ·subst e;omega
    ·have:=hat q j (by omega) hj;omega
  ·have:lo=hi:=by omega
   subst this
   refine ay (by simp) ?_
   refine aZ rfl ?_
   refine ak (aj (.inl rfl) ?_)
   by_cases hin:lo<l.length
   ·have h4:=hhi lo hin (by omega)
    by_cases he:l[lo]=n
    ·simp [g0,g1,g6,g7,hin,iD,Gh,he]
     refine aO (hQ _ _ _ ⟨lo,hhl,hlo,hhi,rfl⟩ ?_)
     have:n ∈ l:=he▸av hin
     simp [this]
    ·have hnm:n ∉ l:=fun hm=>by
      obtain⟨j,hj,rfl⟩:=bp hm
      rcases bE j lo with h | h | h
      ·have:=hlo j hj h;omega
      ·subst h;exact he rfl
      ·have:=hat lo j h hj;omega
     simp [g0,g1,g6,g7,hin,iD,Gh,he,aug]
     refine aO (hQ _ _ _ ⟨lo,hhl,hlo,hhi,rfl⟩ ?_)
     simp [hnm]
   ·have hnm:n ∉ l:=fun hm=>by
     obtain⟨j,hj,rfl⟩:=bp hm
     have:=hlo j hj (by omega);omega
    simp [g0,g1,g6,g7,hin]
    refine aO (hQ _ _ _ ⟨lo,hhl,hlo,hhi,rfl⟩ ?_)
    simp [hnm]
 exact⟨i,h1,h2,h3,Km.Pure.eq h⟩
theorem oK{limit:Int}:∀ {l:List Int} {last:Int},fP limit last l=true→l.Pairwise (· < ·)∧∀ c ∈ l,last<c∧c<limit
 | [],_,_=>⟨List.Pairwise.nil,by simp⟩
 | a::l,last,h=>by
  simp only [fP,am,decide_eq_true_eq]at h
  obtain⟨⟨h1,h2⟩,h3⟩:=h
  obtain⟨h4,h5⟩:=oK h3
  refine⟨de.2 ⟨fun c hc=>(h5 c hc).1,h4⟩,fun c hc=>?_⟩
  rcases cF.1 hc with rfl | hc
  ·exact⟨h1,h2⟩
  ·have:=h5 c hc;omega
theorem Ri{p:bZ}(h:jv p=true):0≤p.fr∧p.fr≤1099511627776∧1≤p.per∧p.per≤1099511627776∧p.head.length+p.cyc.length≤1048576∧p.head.Pairwise (· < ·)∧(∀ c ∈ p.head,-1<c∧c<p.fr)∧p.cyc.Pairwise (· < ·)∧∀ c ∈ p.cyc,-1<c∧c<p.per:=by
 unfold jv at h
 simp only [am,decide_eq_true_eq]at h
 obtain⟨⟨⟨⟨⟨⟨h1,h2⟩,h3⟩,h4⟩,h5⟩,h6⟩,h7⟩:=h
 obtain⟨a1,a2⟩:=oK h6
 obtain⟨b1,b2⟩:=oK h7
 exact⟨h1,h2,h3,h4,by omega,a1,a2,b1,b2⟩
def aiX(p:bZ)(d:Int):Bool:=if p.fr≤d then decide ((d-p.fr) % p.per ∈ p.cyc)else decide (d ∈ p.head)
def Day(d:Int):Prop:=d≤2305843009213693952
theorem RU(p:bZ)(h:jv p=true)(d:Int)(h0:0≤d)(hd:Day d):Km.Pure tab.get QE [.a (p.row.map .f),vi d]=Eq (vb (aiX p d)):=Kf.eq (by
 obtain⟨h1,h2,h3,h4,h5,h6,h7,h8,h9⟩:=Ri h
 unfold Day at hd
 refine jO aMN rfl fun H Q hQ=>?_
 have tail:∀(t:T) (J:Heap) (g:Tg) (l:List Int) (n:Int),l.length≤1048576→l.Pairwise (· < ·)→t.g 5=.c (.f (sl g (ints l)))→t.g 6=vi n→aiX p d=decide (n ∈ l)→WP tab.get QE none [.code QH] ⟨t,[],H++J⟩ Q:=by
  intro t J g l n hl hp g5 g6 e
  obtain⟨i,-,-,-,hs⟩:=Bz g l n (by omega) hp
  refine ak (aj (.inl rfl) ?_)
  simp [g5,g6,hs]
  refine ak (aj (.inl rfl) ?_)
  simp
  refine aO (hQ _ _ ?_)
  simp [e]
 refine ak (aj (.inl rfl) ?_)
 simp [bZ.row]
 refine ak (aj (.inl rfl) ?_)
 simp
 refine ak ?_
 refine ak (aj (.inl rfl) ?_)
 simp
 by_cases k:p.fr≤d
 ·refine aA (by simp [k]) ?_
  refine aj (.inl rfl) ?_
  simp [wrap64 (n:=d-p.fr) (by omega) (by omega),nH (a:=d-p.fr) (b:=p.per) (by omega) (by omega)]
  exact tail _ _ p.cg p.cyc ((d-p.fr) % p.per) (by omega) h8 (by simp) (by simp) (by simp [aiX,k])
 ·refine ay (by simp [k]) (aF ?_)
  exact tail _ _ p.hg p.head d (by omega) h6 (by simp) (by simp) (by simp [aiX,k]))
def hasB(p:bZ)(d:Int):Bool:=decide (0≤d)&&aiX p d
theorem avP(p:bZ)(h:jv p=true)(d:Int)(hd:Day d):Kf tab.get akf [.a (p.row.map .f),vi d] (vb (hasB p d)):=by
 refine jO aMP rfl fun H Q hQ=>?_
 have hv:=ain p (FD h)
 rw [h]at hv
 refine ak (aj (.inl rfl) ?_)
 simp [bZ.row]at hv ⊢
 refine ak (aj (.inl rfl) ?_)
 by_cases k:0≤d
 ·have hm:=RU p h d k hd
  simp [bZ.row]at hm
  simp [hv,k,hm]
  refine aO (hQ _ _ ?_)
  simp [hasB,k]
 ·simp [hv,k]
  refine aO (hQ _ _ ?_)
  simp [hasB,k]
theorem RI(p:bZ)(h:jv p=true)(d:Int)(hd:Day d):Kf tab.get JU [.a (p.row.map .f),.c (.f (.fp [fi d] 0))] (vb (!hasB p d)):=by
 refine jO aMZ rfl fun H Q hQ=>?_
 have hv:=(avP p h d hd).eq
 simp [bZ.row]at hv
 have hl:∀ H:Heap,ldV H none (.c (.f (.fp [fi d] 0)))=some (vi d):=fun H=>by simp [ldV,aP]
 refine ak (aj (.inl rfl) ?_)
 simp [bZ.row]
 refine ak (aj (.inl rfl) ?_)
 simp [hl,hv]
 refine aO (hQ _ _ ?_)
 simp
def inB(l:List bZ)(d:Int):Bool:=l.all fun p=>hasB p d
theorem aK6(g:Tg)(l:List bZ)(hl:l.length≤9223372036854775807)(h:∀ p ∈ l,jv p=true)(d:Int)(hd:Day d):Kf tab.get akm [.c (.f (sl g (bU l))),vi d] (vb (inB l d)):=by
 refine jO aM0 rfl fun H Q hQ=>?_
 have hc:=(qJ aj8 (xM aj7 l bZ.row (fun r=>.a (r.row.map .f)) (fun p=>!hasB p d) g JU [.fp [fi d] 0] hl
  (fun j hj H=>mZ (kY l) (Ad hj)) (fun p hp=>RI p (h p hp) d hd))).eq
 have e:(!l.any fun p=>!hasB p d)=inB l d:=by
  rw [inB,Bool.eq_iff_iff]
  simp [List.any_eq_false,aL]
 refine ak (aj (.inl rfl) ?_)
 simp
 refine ak (aj (.inl rfl) ?_)
 have hc':Km.Pure tab.get BL [.c (.f (sl g (bU l))),.c (.f (.fn JU [.fp [fi d] 0]))]=Eq (vb (l.any fun p=>!hasB p d)):=hc
 simp [deep,aBE,aiU,hc',e]
 refine aO (hQ _ _ ?_)
 simp
theorem aF7(t:TermD)(hl:t.fs.length≤9223372036854775807)(h:∀ p ∈ t.fs,jv p=true)(d:Int)(hd:Day d):Kf tab.get JW [.c (.f (sl t.tg (bU t.fs))),.c (.f (.fp [fi d] 0))] (vb (inB t.fs d)):=by
 refine jO aM3 rfl fun H Q hQ=>?_
 have hld:∀ H:Heap,ldV H none (.c (.f (.fp [fi d] 0)))=some (vi d):=fun H=>by simp [ldV,aP]
 refine ak (aj (.inl rfl) ?_)
 simp
 refine ak (aj (.inl rfl) ?_)
 simp [hld,(aK6 t.tg t.fs hl h d hd).eq]
 refine aO (hQ _ _ ?_)
 simp
def Dz(l:List TermD)(d:Int):Bool:=mixB l&&l.any fun t=>inB t.fs d
theorem jR{t:TermD}(h:nU t=true):1≤t.fs.length∧t.fs.length≤4∧∀ p ∈ t.fs,jv p=true:=by
 unfold nU at h
 simp only [am,decide_eq_true_eq,aL]at h
 exact⟨by omega,by omega,h.2⟩
theorem Dy{l:List TermD}(h:mixB l=true):l.length≤64∧∀ t ∈ l,nU t=true:=by
 unfold mixB at h
 simp only [am,decide_eq_true_eq,aL]at h
 exact⟨by omega,h.2⟩
theorem aiW(g:Tg)(l:List TermD)(hl:l.length≤9223372036854775807)(h:∀ t ∈ l,t.Sm):Km.Pure tab.get F_x38 [.a [.f (sl g (termRows l))]]=Eq (vb (mixB l)):=(aFI g l hl h).eq
theorem axE(g:Tg)(l:List TermD)(h:mixB l=true)(d:Int)(hd:Day d):Km.Pure tab.get akn [.a [.f (sl g (termRows l))],vi d]=Eq (vb (Dz l d)):=Kf.eq (by
 obtain⟨h1,h2⟩:=Dy h
 have hm:=aiW g l (by omega) (fun t ht=>⟨by have:=(jR (h2 t ht)).2.1;omega,fun p hp=>FD ((jR (h2 t ht)).2.2 p hp)⟩)
 have hc:=(qJ aHZ (xM aHY l TermD.row (fun t=>.c (.f (sl t.tg (bU t.fs)))) (fun t=>inB t.fs d) g JW [.fp [fi d] 0] (by omega)
  (fun j hj H=>rD (rY l) (yI hj) rfl) (fun t ht=>aF7 t (by have:=(jR (h2 t ht)).2.1;omega) (jR (h2 t ht)).2.2 d hd))).eq
 have hc':Km.Pure tab.get ND [.c (.f (sl g (termRows l))),.c (.f (.fn JW [.fp [fi d] 0]))]=Eq (vb (l.any fun t=>inB t.fs d)):=hc
 rw [h]at hm
 refine jO aM4 rfl fun H Q hQ=>?_
 refine ak (aj (.inl rfl) ?_)
 simp
 refine ak (aj (.inl rfl) ?_)
 simp [hm,deep,aBE,aiU,hc']
 refine aO (hQ _ _ ?_)
 simp [Dz,h])
end Go.Proofs.YthfeogjbpgocbaaGreat
end
section
namespace Go.Proofs.YthfeogjbpgocbaaGreat
open Go Km
end Go.Proofs.YthfeogjbpgocbaaGreat
end
section
namespace Go.Proofs.YthfeogjbpgocbaaGreat
open Go Km
end Go.Proofs.YthfeogjbpgocbaaGreat
end
section
namespace Go.Proofs.YthfeogjbpgocbaaGreat
open Go Km
theorem lS(n:Nat):(dM n [fi 0,fi 0]).length=n*2:=by
 induction n with
 | zero=>rfl
 | succ n ih=>simp [dM,ih,Nat.add_mul]
end Go.Proofs.YthfeogjbpgocbaaGreat
end
section
namespace Go.Proofs.YthfeogjbpgocbaaGreat
open Go Km
structure gJ where
 tg:Tg
 ts:List TermD
 fr:Int
 to:Int
def gJ.row(h:gJ):List FC:=[sl h.tg (termRows h.ts),fi h.fr,fi h.to]
def dA(l:List gJ):List (List FC):=l.map gJ.row
@[simp] theorem axR (l:List gJ):(dA l).length=l.length:=by simp [dA]
theorem nM(l:List gJ):Grid 3 (dA l):=Grid.map fun _=>rfl
theorem Js{l:List gJ}{j:Nat}(hj:j<l.length):(dA l)[j]?=some l[j].row:=by simp [dA,hj]
def gJ.OK(h:gJ):Prop:=mixB h.ts=true∧0≤h.fr∧h.fr<h.to∧h.to≤1440
def AV(h:gJ)(m n:Int):Bool:=decide (h.fr≤m)&&decide (m+n≤h.to)
def nP(hs:List gJ)(cl:List Int)(day m n:Int):Bool:=!decide (day ∈ cl)&&hs.any fun h=>AV h m n&&Dz h.ts day
end Go.Proofs.YthfeogjbpgocbaaGreat
end
section
namespace Go.Proofs.YthfeogjbpgocbaaGreat
open Go Km
def ckR(z:ZD)(g:Tg)(o:List TrD):List FC:=z.row++[sl g (aT o),fi z.cyc]
abbrev ckV(z:ZD)(g:Tg)(o:List TrD):V:=.c (.f (.fp (ckR z g o) 0))
section
variable{H:Heap}{z:ZD}{g:Tg}{o:List TrD}
theorem aFP(hc:z.c<3):ldV H none (.c (.f (.fp (ckR z g o) 4)))=some (vi z.start):=by
 obtain⟨c,s,tg,tr,h',yg,yr⟩:=z
 have:c=0∨c=1∨c=2:=by simp at hc;omega
 rcases this with rfl | rfl | rfl<;>simp [ldV,aP,ckR,ZD.row,jy,aQ]
theorem L8(hc:z.c<3):ldV H none (.c (.f (.fp (ckR z g o) 5)))=some (.c (.f (sl z.tg (aT z.tr)))):=by
 obtain⟨c,s,tg,tr,h',yg,yr⟩:=z
 have:c=0∨c=1∨c=2:=by simp at hc;omega
 rcases this with rfl | rfl | rfl<;>simp [ldV,aP,ckR,ZD.row,jy,aQ]
theorem ajb(hc:z.c<3):ldV H none (.c (.f (.fp (ckR z g o) 6)))=some (vi z.hor):=by
 obtain⟨c,s,tg,tr,h',yg,yr⟩:=z
 have:c=0∨c=1∨c=2:=by simp at hc;omega
 rcases this with rfl | rfl | rfl<;>simp [ldV,aP,ckR,ZD.row,jy,aQ]
theorem vT(hc:z.c<3):ldV H none (.c (.f (.fp (ckR z g o) 8)))=some (.c (.f (sl g (aT o)))):=by
 obtain⟨c,s,tg,tr,h',yg,yr⟩:=z
 have:c=0∨c=1∨c=2:=by simp at hc;omega
 rcases this with rfl | rfl | rfl<;>simp [ldV,aP,ckR,ZD.row,jy,aQ]
theorem aKQ(hc:z.c<3):ldV H none (.c (.f (.fp (ckR z g o) 9)))=some (vi z.cyc):=by
 obtain⟨c,s,tg,tr,h',yg,yr⟩:=z
 have:c=0∨c=1∨c=2:=by simp at hc;omega
 rcases this with rfl | rfl | rfl<;>simp [ldV,aP,ckR,ZD.row,jy,aQ]
end
theorem minutes_fev{z:ZD}{g:Tg}{o:List TrD}(hc:z.c<3)(h0:0≤z.cyc)(h1:z.cyc≤1000000)(H:Heap) :
  Ev tab.get (.fn nS) [ckV z g o] H (vi (z.cyc*1440)) H:=by
 obtain⟨r,H',he,rfl,rfl⟩:∃ r H',Ev tab.get (.fn nS) [ckV z g o] H r H'∧r=vi (z.cyc*1440)∧H'=H:=by
  refine gu aj6 rfl fun Q hQ=>?_
  refine ak (aj (.inl rfl) ?_)
  simp
  refine ak (aj (.inl rfl) ?_)
  simp [aKQ hc,wrap64 (n:=z.cyc*1440) (by omega) (by omega)]
  exact aO (hQ _ _ _ rfl (res_one (by simp)) ⟨rfl,rfl⟩)
 exact he
section
variable{g:Tg}{o:List TrD}
theorem KG(H:Heap)(h0:0<o.length):bJ H (.f (sl g (aT o)))=some o.length:=by
 have hne:¬ (aT o).isEmpty=true:=by
  intro h
  have:o=[]:=by simpa [aT]using h
  subst this;simp at h0
 simp [sl,hne,bJ]
theorem jS(H:Heap){i:Nat}(hi:i<o.length):aV H 2 none (.c (.f (sl g (aT o)))) (vi i)=some (.c (.f (.fp (aT o).flatten (i*2)))):=by
 have:=iD (H:=H) (g:=g) (rows:=aT o) (sz:=2) (k:=.i64) (i:=(i:Int)) (by omega) (by simp;omega)
 simpa using this
theorem zT(H:Heap){i:Nat}(hi:i<o.length):ldV H none (.c (.f (.fp (aT o).flatten (i*2))))=some (vi o[i].at_):=rD (bY o) (eH (ae hi)) rfl
theorem xq(H:Heap){i:Nat}(hi:i<o.length):ldV H (some 2) (.c (.f (.fp (aT o).flatten (i*2))))=some (.a (o[i].row.map .f)):=mZ (bY o) (eH (ae hi))
end
theorem all2b_self{α:Type}{f:α→α→Bool}:∀ {xs:List α},(∀ x ∈ xs,f x x=true)→all2b f xs xs=true
 | [],_=>rfl
 | x::xs,h=>by simp only [all2b,h x bB,all2b_self fun y hy=>h y (List.mem_cons_of_mem _ hy),Bool.and_self]
theorem qM{n:Nat}{xs:List FC}(h:∀ x ∈ xs,∃ k m,x=FC.int k m):all2b (FC.beq n) xs xs=true:=all2b_self fun x hx=>by
 obtain⟨k,m,rfl⟩:=h x hx
 cases n<;>simp [FC.beq]
theorem uO(o:List TrD):∀ x ∈ (aT o).flatten,∃ k m,x=FC.int k m:=by
 intro x hx
 obtain⟨r,hr,hx⟩:=List.mem_flatten.1 hx
 obtain⟨y,-,rfl⟩:=cJ.1 hr
 simp [TrD.row]at hx
 rcases hx with rfl | rfl<;>exact⟨_,_,rfl⟩
theorem ajR(g:Tg)(o:List TrD):FC.beq 64 (sl g (aT o)) (sl g (aT o))=true:=by
 unfold sl
 split
 ·cases g<;>rfl
 ·simp [FC.beq,qM (uO o)]
def rnd(o:List TrD)(size t:Int):Int:=match o[0]? with
 | some x=>max (t-x.at_) 0 / size
 | none=>0
set_option maxRecDepth 100000 in
theorem Iz{z:ZD}{g:Tg}{o:List TrD}(hc:z.c<3)(hy0:1≤z.cyc)(hy1:z.cyc≤217)(h0:0<o.length)(hb:AtB o[0]){t:Int}(t0:-10000000≤t)(t1:t≤10000000) :
  Km.Pure tab.get Hf [ckV z g o,vi t]=Eq (vi (rnd o (z.cyc*1440) t)):=Km.Pure.eq (by
 refine dD aHt rfl fun Q hQ=>?_
 unfold AtB at hb
 have i0:=fun H=>jS (g:=g) H h0
 have l0:=fun H=>zT H h0
 simp only [Nat.zero_mul,d6]at i0 l0
 have hm:=fun H=>(minutes_fev (g:=g) (o:=o) hc (by omega) (by omega) H).eq
 have hr:rnd o (z.cyc*1440) t=max (t-o[0].at_) 0 / (z.cyc*1440):=by unfold rnd;rw [ae h0]
 have hq:bM .quo (vi (max (t-o[0].at_) 0)) (vi (z.cyc*1440))=some (vi (max (t-o[0].at_) 0 / (z.cyc*1440))):=KT (by omega) (by omega) (by omega)
 refine ak (aj (.inl rfl) ?_)
 simp
 refine ak (oQ (.inl rfl) ?_ ?_)
 case refine_2=>
  intro c hcm
  have hcc:c=(4,14)∨c=(5,14)∨c=(7,14):=by simpa using hcm
  rcases hcc with rfl | rfl | rfl
  all_goals
   refine⟨by decide,_,rfl,.inl ⟨by decide,?_⟩⟩
   simp [vT hc,i0,l0,hm,sH,wrap64 (n:=t-o[0].at_) (by omega) (by omega),hq]
   first | rfl | exact ajR g o | exact qM (uO o) | simp [V.beq,C.beq,FC.beq,qM (uO o)]
 simp [vT hc,i0,l0,hm,wrap64 (n:=t-o[0].at_) (by omega) (by omega),hq]
 refine aO (hQ _ _ ?_)
 simp [hr])
end Go.Proofs.YthfeogjbpgocbaaGreat
end
section
namespace Go.Proofs.YthfeogjbpgocbaaGreat
open Go Km
theorem SB(x:TrD)(t:Int):Kf tab.get qO [.a (x.row.map .f),vi t] (vi (qK x.at_ t)):=by
 refine jO aHv rfl fun H Q hQ=>?_
 refine ak (aj (.inl rfl) ?_)
 simp [TrD.row]
 refine ak (aj (.inl rfl) ?_)
 simp [Bc]
 refine aO (hQ _ _ ?_)
 simp
theorem Qw{a b:Int}:0≤qK a b↔b≤a:=by unfold qK;split<;>(try split)<;>omega
theorem ajD{a b:Int}:0<qK a b↔b<a:=by unfold qK;split<;>(try split)<;>omega
theorem bsT(g:Tg)(l:List TrD)(hs:l.Pairwise TLt)(hl:l.length≤1000)(t:Int):∃(i:Nat) (w:Bool),i≤l.length∧(∀ j (hj:j<l.length),j<i→l[j].at_<t)∧(∀ j (hj:j<l.length),i≤j→t≤l[j].at_)∧(w=true↔∃ h:i<l.length,l[i].at_=t) ∧
  Km.Pure tab.get BN [.c (.f (sl g (aT l))),vi t,.c (.f (.fn qO []))]=Eq (.t [vi i,vb w]):=by
 have hF:tab.get BN=some (aBM 2):=aH1
 have hrow:∀(j:Nat) (hj:j<(aT l).length),(aT l)[j]=(l[j]'(by simpa using hj)).row:=fun j hj=>by simp [aT]
 obtain⟨i,h1,h2,h3,w,h4,h5⟩:=aGI hF g (aT l) (bY l) (.c (.f (.fn qO []))) (fi t) (fun r=>qK (zf r).at_ t) (by simp;omega)
  (fun r hr=>by
   obtain⟨x,-,rfl⟩:=cJ.1 hr
   exact⟨qO,_,by simp [bV],SB x t⟩)
  (fun i j hi hj h=>by
   have hjl:j<l.length:=by simpa using hj
   have hil:i<l.length:=by omega
   simp only [hrow]at h ⊢
   have:=cH.1 hs i j hil hjl hi
   unfold TLt at this
   rw [Qw]at h
   rw [ajD]
   show t<l[j].at_
   have h:t≤l[i].at_:=h
   omega)
 refine⟨i,w,by simpa using h1,fun j hj hji=>?_,fun j hj hji=>?_,?_,h5⟩
 ·have:=h2 j (by simpa using hj) hji
  rw [hrow,wI]at this;exact this
 ·have:=h3 j (by simpa using hj) hji
  rw [hrow,Qw]at this;exact this
 ·rw [h4]
  constructor
  ·rintro⟨h,e⟩
   rw [hrow,DY]at e
   exact⟨by simpa using h,e⟩
  ·rintro⟨h,e⟩
   refine⟨by simpa using h,?_⟩
   rw [hrow,DY];exact e
theorem QI{o:List TrD}{size t:Int}(h:dW o size=true)(hs:0<size)(h0:0<o.length)(ht:o[0].at_≤t){i:Nat}(hi:i<o.length)(hn:∀ j (hj:j<o.length),i<j→t-(t-o[0].at_) / size*size<o[j].at_) :
  ∀ y,Mem o size y→y.at_≤t→y.at_≤o[i].at_+(t-o[0].at_) / size*size:=by
 rintro y ⟨m,b,hb,rfl⟩ hy
 simp only at hy ⊢
 have q0:=bz (t-o[0].at_) size
 have q1:=bX (t-o[0].at_) (show size≠0 by omega)
 have q2:=b5 (t-o[0].at_) hs
 have hK:0≤(t-o[0].at_) / size:=cR (by omega) (by omega)
 rw [cU]at q0
 obtain⟨K,eK⟩:∃ K:Nat,(t-o[0].at_) / size=(K:Int):=⟨((t-o[0].at_) / size).toNat,by omega⟩
 rw [eK]at q0 hn ⊢
 obtain⟨_,b1,b2⟩:=jH h hb
 obtain⟨_,a1,a2⟩:=jH h (av hi)
 rcases bE m K with e | e | e
 ·have:=l7 (size:=size) (by omega) e;omega
 ·subst e
  obtain⟨j,hj,rfl⟩:=bp hb
  rcases bE i j with e | e | e
  ·have:=hn j hj e;omega
  ·subst e;exact dx _
  ·have:=iy h e hi;omega
 ·have:=l7 (size:=size) (by omega) e;omega
set_option maxRecDepth 100000 in
theorem axM{z:ZD}{o:List TrD}(h:OKZ z o)(hb:∀ x ∈ o,AtB x)(hl:o.length≤100)(g:Tg)(t:Int)(t0:-10000000≤t)(t1:t≤10000000) :
  ∃ r:Option TrD,Last (ayG z.tr o (z.cyc*1440) z.hor) t r∧Km.Pure tab.get pz [ckV z g o,vi t]=Eq (.t [.a ((r.getD ⟨0,0⟩).row.map .f),vb r.isSome]):=by
 obtain⟨rr,⟨r,hr,rfl⟩,hp⟩:∃ rr,(∃ r:Option TrD,Last (ayG z.tr o (z.cyc*1440) z.hor) t r∧rr=.t [.a ((r.getD ⟨0,0⟩).row.map .f),vb r.isSome])∧Km.Pure tab.get pz [ckV z g o,vi t] rr:=by
  have hc:=h.c
  have hcy:=h.ayw
  have hsp:=h.sp
  have hst:=qW h.ts
  have htl:=h.tl
  refine iL aHw rfl fun Q hQ=>?_
  refine ak (aj (.inl rfl) ?_)
  simp
  refine ak (aj (.inl rfl) ?_)
  simp
  refine ak ?_
  have fin:(∀ y,Mem o (z.cyc*1440) y→z.hor≤y.at_→t<y.at_)→∀(t':T) (H:Heap),H[0]?=some (.box [.f (fi 0),.f (fi 0)] 0)→t'.g 0=ckV z g o→t'.g 1=vi t→t'.g 4=.c (.ptr 0 0 0)→t'.g 6=.c (.f (.fn qO [])) →
    WP tab.get pz none [.code yC] ⟨t',[],H⟩ Q:=by
   intro hno t' H hH g0 g1 g4 g6
   obtain⟨i,w,hi,i1,i2,hw,hbs⟩:=bsT z.tg z.tr hst (by omega) t
   have hlt:=aN hH
   refine ak (aj (.inl rfl) ?_)
   simp [g0,g1,g6,L8 hc,hbs]
   have tail:∀(k:Nat) (hk:k<z.tr.length),z.tr[k].at_≤t→(∀ j (hj:j<z.tr.length),k<j→t<z.tr[j].at_)→∀ t':T,t'.g 0=ckV z g o→t'.g 4=.c (.ptr 0 0 0)→t'.g 11=vi (k:Nat)→WP tab.get pz none [.code En] ⟨t',[],H⟩ Q:=by
    intro k hk k1 k2 t' g0 g4 g11
    have ii:=jS (g:=z.tg) H hk
    have ll:=xq H hk
    refine ak ?_
    refine ak (aj (.inl rfl) ?_)
    simp [g11]
    refine ay (by simp) (aF ?_)
    refine ak (aj (.inl rfl) ?_)
    simp [g0,g4,g11,L8 hc,ii,ll,hH,TrD.row]
    refine aO (hQ _ _ _ ⟨some z.tr[k],⟨.inl (av hk),k1,?_⟩,rfl⟩ ?_)
    ·rintro y (hy | ⟨hy,hy'⟩) hyt
     ·obtain⟨j,hj,rfl⟩:=bp hy
      rcases bE k j with e | e | e
      ·have:=k2 j hj e;omega
      ·subst e;exact dx _
      ·have:=wZ h.ts j k e hk;omega
     ·have:=hno y hy hy';omega
    ·simp [TrD.row,g4,hlt]
   refine ak ?_
   refine ak (aj (.inl rfl) ?_)
   simp
   cases w with
   | true=>
    obtain⟨hil,e⟩:=hw.1 rfl
    refine ay (by simp) (aF ?_)
    exact tail i hil (by omega) (fun j hj hij=>by have:=wZ h.ts i j hij hj;omega) _ (by simp [g0]) (by simp [g4]) (by simp)
   | false=>
    refine aA (by simp) ?_
    refine aj (.inl rfl) ?_
    simp [wrap64 (n:=(i:Int)-1) (by omega) (by omega)]
    have hi2:∀ j (hj:j<z.tr.length),i≤j→t<z.tr[j].at_:=by
     intro j hj hij
     have a:=i2 j hj hij
     rcases b9 hij with e | e
     ·have b:=i2 i (by omega) (aw _)
      have:=wZ h.ts i j e hj;omega
     ·subst e
      rcases Int.lt_or_eq_of_le a with e | e
      ·exact e
      ·exact absurd (hw.2 ⟨hj,e.symm⟩) (by simp)
    by_cases h0:i=0
    ·subst h0
     refine ak ?_
     refine ak (aj (.inl rfl) ?_)
     simp
     refine aA (by simp) ?_
     refine ak (aj (.inl rfl) ?_)
     simp [g4,hH]
     refine aO (hQ _ _ _ ⟨none,?_,rfl⟩ ?_)
     ·rintro y (hy | ⟨hy,hy'⟩)
      ·obtain⟨j,hj,rfl⟩:=bp hy
       exact hi2 j hj (by omega)
      ·exact hno y hy hy'
     ·simp [TrD.row,g4,hlt]
    ·obtain⟨k,rfl⟩:∃ k,i=k+1:=⟨i-1,by omega⟩
     rw [show(((k+1:Nat):Int)-1)=(k:Int) by omega]
     exact tail k (by omega) (by have:=i1 k (by omega) (by omega);omega) (fun j hj hkj=>hi2 j hj (by omega)) _ (by simp [g0]) (by simp [g4]) (by simp)
  refine ak ?_
  by_cases h0:0<o.length
  case neg=>
   have:o=[]:=List.eq_nil_of_length_eq_zero (by omega)
   subst this
   have hsl:∀ H:Heap,bJ H (.f (sl g (aT [])))=some 0:=by intro H;cases g<;>rfl
   refine aj (.inl rfl) ?_
   simp [vT hc,hsl]
   refine ay (by simp) (aF ?_)
   exact fin (fun y hy _=>by obtain⟨k,b,hb,_⟩:=hy;cases hb) _ _ rfl (by simp) (by simp) (by simp) (by simp)
  have hb0:=hb _ (av h0)
  have i0:=fun H=>jS (g:=g) H h0
  have l0:=fun H=>zT H h0
  simp only [Nat.zero_mul,d6]at i0 l0
  refine aj (.inl rfl) ?_
  simp [vT hc,KG _ h0,i0,l0,h0]
  by_cases hge:o[0].at_≤t
  case neg=>
   refine ay (by simp [hge]) (aF ?_)
   refine fin (fun y hy _=>?_) _ _ rfl (by simp) (by simp) (by simp) (by simp)
   obtain⟨k,b,hb',rfl⟩:=hy
   obtain⟨_,b1,b2⟩:=jH hsp hb'
   have:0≤(k:Int)*(z.cyc*1440):=dt (by omega) (by omega)
   simp only;omega
  refine aA (by simp [hge]) ?_
  have hrd:=Iz (g:=g) hc hcy.1 hcy.2 h0 hb0 t0 t1
  have hmi:=(minutes_fev (g:=g) (o:=o) hc (by omega) (by omega) [.box [.f (fi 0),.f (fi 0)] 0]).eq
  unfold AtB at hb0
  have hrv:rnd o (z.cyc*1440) t=(t-o[0].at_) / (z.cyc*1440):=by
   unfold rnd;rw [ae h0];simp only;rw [Int.max_eq_left (by omega)]
  rw [hrv]at hrd
  have q0:=bz (t-o[0].at_) (z.cyc*1440)
  have q1:=bX (t-o[0].at_) (show z.cyc*1440≠0 by omega)
  have q2:=b5 (t-o[0].at_) (show 0<z.cyc*1440 by omega)
  rw [cU]at q0
  have hK0:0≤(t-o[0].at_) / (z.cyc*1440):=cR (by omega) (by omega)
  have hBm:0≤(t-o[0].at_) / (z.cyc*1440)*(z.cyc*1440):=dt hK0 (by omega)
  have hyl:=fun i hi hn=>QI (t:=t) hsp (by omega) h0 hge (i:=i) hi hn
  obtain⟨B,hB⟩:∃ B,B=(t-o[0].at_) / (z.cyc*1440)*(z.cyc*1440):=⟨_,rfl⟩
  have hmem:∀ i (hi:i<o.length),Mem o (z.cyc*1440) ⟨o[i].at_+B,o[i].off⟩:=fun i hi=>⟨((t-o[0].at_) / (z.cyc*1440)).toNat,o[i],av hi,by rw [dq hK0,hB]⟩
  rw [←hB]at q0 hBm hyl
  refine ak (aj (.inl rfl) ?_)
  simp [hrd,hmi,←hB,wrap64 (n:=B) (by omega) (by omega)]
  obtain⟨i,w,hi,i1,i2,hw,hbs⟩:=bsT g o (nD hsp) (by omega) (t-B)
  refine ak (aj (.inl rfl) ?_)
  simp [vT hc,wrap64 (n:=t-B) (by omega) (by omega),hbs]
  have tail:∀(k:Nat) (hk:k<o.length),o[k].at_≤t-B→(∀ j (hj:j<o.length),k<j→t-B<o[j].at_)→∀ t':T,t'.g 0=ckV z g o→t'.g 1=vi t→t'.g 4=.c (.ptr 0 0 0)→t'.g 6=.c (.f (.fn qO []))→t'.g 7=vi B→t'.g 8=vi (k:Nat)→WP tab.get pz none [.code Eo,.code yC] ⟨t',[],[.box [.f (fi 0),.f (fi 0)] 0]⟩ Q:=by
   intro k hk k1 k2 t' g0 g1 g4 g6 g7 g8
   have ii:=fun H=>jS (g:=g) H hk
   have ll:=fun H=>xq H hk
   have hbk:=hb _ (av hk)
   unfold AtB at hbk
   have hmax:=hyl k hk k2
   refine ak (aj (.inl rfl) ?_)
   simp [g0,g8,vT hc,ii,ll,TrD.row]
   refine ak ?_
   refine aj (.inl rfl) ?_
   simp [g0,g7,ajb hc,wrap64 (n:=o[k].at_+B) (by omega) (by omega)]
   by_cases hh:z.hor≤o[k].at_+B
   ·refine aA (by simp [hh]) ?_
    refine ak (aj (.inl rfl) ?_)
    simp [g7,wrap64 (n:=o[k].at_+B) (by omega) (by omega)]
    refine ak (aj (.inl rfl) ?_)
    simp [g4,aQ]
    refine aO (hQ _ _ _ ⟨some ⟨o[k].at_+B,o[k].off⟩,⟨.inr ⟨hmem k hk,hh⟩,by show o[k].at_+B≤t;omega,?_⟩,rfl⟩ ?_)
    ·rintro y (hy | ⟨hy,hy'⟩) hyt
     ·have:=(h.tb y hy).2.1
      show y.at_≤o[k].at_+B
      omega
     ·exact hmax y hy hyt
    ·simp [TrD.row,g4]
   ·refine ay (by simp;omega) (aF ?_)
    refine fin (fun y hy hyh=>?_) _ _ rfl (by simp [g0]) (by simp [g1]) (by simp [g4]) (by simp [g6])
    rcases Int.lt_or_le t y.at_ with e | e
    ·exact e
    ·have:=hmax y hy e;omega
  refine ak ?_
  refine ak (aj (.inl rfl) ?_)
  simp
  cases w with
  | true=>
   obtain⟨hil,e⟩:=hw.1 rfl
   refine ay (by simp) (aF ?_)
   exact tail i hil (by omega) (fun j hj hij=>by have:=iy hsp hij hj;omega) _ (by simp) (by simp) (by simp) (by simp) (by simp) (by simp)
  | false=>
   refine aA (by simp) ?_
   refine aj (.inl rfl) ?_
   simp [wrap64 (n:=(i:Int)-1) (by omega) (by omega)]
   have hi2:∀ j (hj:j<o.length),i≤j→t-B<o[j].at_:=by
    intro j hj hij
    have a:=i2 j hj hij
    rcases b9 hij with e | e
    ·have b:=i2 i (by omega) (aw _)
     have:=iy hsp e hj;omega
    ·subst e
     rcases Int.lt_or_eq_of_le a with e | e
     ·exact e
     ·exact absurd (hw.2 ⟨hj,e.symm⟩) (by simp)
   have h0i:i≠0:=by
    rintro rfl
    have:=hi2 0 h0 (aw _);omega
   obtain⟨k,rfl⟩:∃ k,i=k+1:=⟨i-1,by omega⟩
   rw [show(((k+1:Nat):Int)-1)=(k:Int) by omega]
   exact tail k (by omega) (by have:=i1 k (by omega) (by omega);omega) (fun j hj hkj=>hi2 j hj (by omega)) _ (by simp) (by simp) (by simp) (by simp) (by simp) (by simp)
 exact⟨r,hr,Km.Pure.eq hp⟩
end Go.Proofs.YthfeogjbpgocbaaGreat
end
section
namespace Go.Proofs.YthfeogjbpgocbaaGreat
open Go Km
theorem Aj{c y:Nat}{r q:YrD}(hr:r.OK):∀ x ∈ fZ c (y+1) r q,-1080≤x.off∧x.off≤1080:=by
 intro x hx
 obtain⟨-,-,-,-,-,-,p0,p1⟩:=hr
 simp only [fZ]at hx
 split at hx
 ·simp only [List.mem_singleton]at hx
  subst hx
  exact⟨p0,p1⟩
 ·cases hx
theorem II{c:Nat}{r q:YrD}(hr:r.OK)(hq:q.OK):∀ n,∀ x ∈ rP c r q n,-1080≤x.off∧x.off≤1080
 | 0,x,hx=>by cases hx
 | n+1,x,hx=>by
  simp only [rP,bS]at hx
  rcases hx with hx | hx | hx
  ·exact II hr hq n x hx
  ·exact Aj hr x hx
  ·exact Aj hq x hx
section
variable{z:ZD}{o:List TrD}
theorem OKZ.bd(h:OKZ z o):∀ x ∈ o,AtB x∧-1080≤x.off∧x.off≤1080:=by
 rcases h.y with⟨-,rfl⟩ | ⟨r,q,e,hr,hq,hi,-,-⟩
 ·intro x hx;cases hx
 ·exact fun x hx=>⟨uX h.c hr hq _ (aw _) x (hi.perm.subset hx),II hr hq _ x (hi.perm.subset hx)⟩
theorem OKZ.len(h:OKZ z o):o.length≤28:=by
 rcases h.y with⟨-,rfl⟩ | ⟨r,q,e,hr,hq,hi,-,-⟩
 ·simp
 ·have h1:=lT z.c r q (nY z.c)
  have h2:=Dv z.c
  have:=hi.len
  omega
abbrev OKZ.S{z:ZD}{o:List TrD}(_:OKZ z o):TrD→Prop:=ayG z.tr o (z.cyc*1440) z.hor
theorem OKZ.off(h:OKZ z o){x:TrD}(hx:h.S x):-1080≤x.off∧x.off≤1080:=by
 rcases hx with hx | ⟨⟨k,b,hb,rfl⟩,_⟩
 ·exact(h.tb x hx).2.2
 ·exact(h.bd b hb).2
theorem OKZ.last(h:OKZ z o)(g:Tg){t:Int}(t0:-10000000≤t)(t1:t≤10000000) :
  ∃ r:Option TrD,Last h.S t r∧Km.Pure tab.get pz [ckV z g o,vi t]=Eq (.t [.a ((r.getD ⟨0,0⟩).row.map .f),vb r.isSome]):=
 axM h (fun x hx=>(h.bd x hx).1) (by have:=h.len;omega) g t t0 t1
end
def offO(z:ZD):Option TrD→Int
 | some x=>x.off
 | none=>z.start
theorem OKZ.offO{z:ZD}{o:List TrD}(h:OKZ z o){t:Int}{r:Option TrD}(hr:Last h.S t r):-1080≤offO z r∧offO z r≤1080:=by
 cases r with
 | none=>exact h.st
 | some x=>exact h.off hr.1
set_option maxRecDepth 100000 in
theorem xC{z:ZD}{o:List TrD}(h:OKZ z o)(g:Tg){t:Int}(t0:-10000000≤t)(t1:t≤10000000) :
  ∃ r:Option TrD,Last h.S t r∧Km.Pure tab.get BI [ckV z g o,vi t]=Eq (vi (offO z r)):=by
 obtain⟨r,hr,hl⟩:=h.last g t0 t1
 refine⟨r,hr,Km.Pure.eq ?_⟩
 have hc:=h.c
 refine dD aHu rfl fun Q hQ=>?_
 refine ak (aj (.inl rfl) ?_)
 simp
 refine ak ?_
 refine ak (aj (.inl rfl) ?_)
 simp [hl,TrD.row]
 refine ak ?_
 refine aj (.inl rfl) ?_
 simp
 cases r with
 | some x=>
  refine aA (by simp) ?_
  refine ak (aj (.inl rfl) ?_)
  simp
  refine aO (hQ _ _ ?_)
  simp [Go.Proofs.YthfeogjbpgocbaaGreat.offO]
 | none=>
  refine ay (by simp) (aF ?_)
  refine ak (aj (.inl rfl) ?_)
  simp [aFP hc]
  refine aO (hQ _ _ ?_)
  simp [Go.Proofs.YthfeogjbpgocbaaGreat.offO]
end Go.Proofs.YthfeogjbpgocbaaGreat
end
section
namespace Go.Proofs.YthfeogjbpgocbaaGreat
open Go Km
def Keeps(H J:Heap):Prop:=∀(i:Nat) y,H[i]?=some y→J[i]?=some y
theorem Keeps.refl(H:Heap):Keeps H H:=fun _ _ h=>h
theorem Keeps.push{H J:Heap}(h:Keeps H J)(L:Heap):Keeps H (J++L):=fun i y hy=>by have:=h i y hy;rw [al (aN this)];exact this
theorem Keeps.set{H J:Heap}(h:Keeps H J){i:Nat}{x:Blk}(hx:H[i]?=some x):Keeps H (J.set i x):=fun k y hy=>by
 by_cases e:i=k
 ·subst e
  rw [hx]at hy;cases hy
  exact ax (aN (h i _ hx))
 ·rw [ag e];exact h k y hy
theorem QN{o:List TrD}{size t:Int}(h0:0<o.length):rnd o size t=turns o size t:=by
 unfold rnd turns
 rw [ae h0]
 simp only
 split
 ·rw [Int.max_eq_left (by omega)]
 ·rw [Int.max_eq_right (by omega)];simp
set_option maxRecDepth 100000 in
theorem Qn{z:ZD}{o:List TrD}(h:OKZ z o)(g:Tg){b bc bt:Nat}{H:Heap}{PP:Heap→Prop}
  (hbc:H[bc]?=some (.box [.f (.fp (ckR z g o) 0)] 0)) (hbt:H[bt]?=some (.box [.f (fi z.hor)] 0))
  (h0:o=[]→∀ J,Keeps H J→PP J)
  (hy:∀ x,aft o (z.cyc*1440) z.hor=some x→∀ J,Keeps H J→∃ J',Ev tab.get (.yield b) [.a (x.row.map .f)] J (vb false) J'∧PP J') :
  ∃ r H',Ev tab.get (.fn qP) [.c (.yl b),.c (.ptr bc 0 0),.c (.ptr bt 0 0)] H r H'∧(r=.t []∧PP H'):=by
 have hc:=h.c
 have hcy:=h.ayw
 have hsp:=h.sp
 have hho:=h.ho
 refine gu aHy rfl fun Q hQ=>?_
 have kc:∀ J,Keeps H J→J[bc]?=some (.box [.f (.fp (ckR z g o) 0)] 0):=fun J hJ=>hJ _ _ hbc
 have kt:∀ J,Keeps H J→J[bt]?=some (.box [.f (fi z.hor)] 0):=fun J hJ=>hJ _ _ hbt
 refine ak ?_
 refine ak (aj (.inl rfl) ?_)
 simp [hbc,aQ,L8 hc]
 refine kS z.tr.length (fun j t J=>Keeps H J∧t.g 0=.c (.yl b)∧t.g 1=.c (.ptr bc 0 0)∧t.g 2=.c (.ptr bt 0 0)∧t.g 13=.c (.f (sl z.tg (aT z.tr)))) (by have:=h.tl;omega) (by decide) (by decide) (by simp) (by simp)
  ⟨Keeps.refl H,by simp,by simp,by simp,by simp⟩ ?_ ?_
 ·rintro j t J hj ⟨hJ,g0,g1,g2,g13⟩ ha hb nx
  have hii:=jS (g:=z.tg) J hj
  have hll:=xq J hj
  have hlt:=(h.tb _ (av hj)).2.1
  have e1:Keeps H (J++[.box (z.tr[j].row.map .f) 0]):=hJ.push _
  have e2:=kt _ e1
  simp only [TrD.row,aR,bh]at hll e1 e2
  refine aH ?_
  refine ak (aj (.inl rfl) ?_)
  simp [g13,ha,hii,hll]
  refine ak (aj (.inl rfl) ?_)
  simp [g2,e2,aQ,show¬ z.hor≤z.tr[j].at_ by omega]
  refine ay (by simp) (aF (aI ?_))
  exact nx _ _ ⟨e1,by simp [g0],by simp [g1],by simp [g2],by simp [g13]⟩ (by simp [ha]) (by simp [hb])
 rintro t J ⟨hJ,g0,g1,g2,g13⟩ ha hb
 refine ak ?_
 have hJc:=kc J hJ
 have hJt:=kt J hJ
 by_cases ho:o=[]
 ·subst ho
  have hsl:∀ H:Heap,bJ H (.f (sl g (aT [])))=some 0:=by intro H;cases g<;>rfl
  refine ak (aj (.inl rfl) ?_)
  simp [g1,hJc,aQ,vT hc,hsl]
  refine aA (by simp) ?_
  exact aO (hQ _ _ _ rfl rfl ⟨rfl,h0 rfl J hJ⟩)
 have o0:0<o.length:=db.2 ho
 have hb0:=(h.bd _ (av o0)).1
 refine ak (aj (.inl rfl) ?_)
 simp [g1,hJc,aQ,vT hc,KG _ o0]
 refine ay (by simp [ho]) (aF ?_)
 refine ak (aj (.inl rfl) ?_)
 simp [g1,g2,hJc,hJt,aQ,ajb hc]
 obtain⟨J1,hJ1⟩:∃ J1:Heap,J1=J.set bt (.box [.f (fi z.hor)] 0):=⟨_,rfl⟩
 have hK1:Keeps H J1:=by rw [hJ1];exact hJ.set hbt
 rw [←hJ1]
 clear hJc hJt hJ hJ1
 have hJc:=kc J1 hK1
 have hJt:=kt J1 hK1
 have hmi:=(minutes_fev (g:=g) (o:=o) hc (by omega) (by omega) J1).eq
 have hrd:=Iz (g:=g) (t:=z.hor) hc hcy.1 hcy.2 o0 hb0 (by omega) (by omega)
 rw [QN o0]at hrd
 unfold AtB at hb0
 obtain⟨K,hK⟩:∃ K,K=turns o (z.cyc*1440) z.hor:=⟨_,rfl⟩
 have hKd:K=if o[0].at_<z.hor then(z.hor-o[0].at_) / (z.cyc*1440)else 0:=by rw [hK];simp [turns,ae o0]
 have hs0:0<z.cyc*1440:=by omega
 have q0:=bz (z.hor-o[0].at_) (z.cyc*1440)
 have q1:=bX (z.hor-o[0].at_) (show z.cyc*1440≠0 by omega)
 have q2:=b5 (z.hor-o[0].at_) hs0
 have hK0:0≤K:=by rw [hKd];split;exact cR (by omega) (by omega);omega
 have hKs:K*(z.cyc*1440)≤2000000∧z.hor≤o[0].at_+(K+1)*(z.cyc*1440):=by
  rw [hKd]
  split
  ·rw [da,c4,cU ((z.hor-o[0].at_) / (z.cyc*1440))];omega
  ·omega
 have aP5:0≤K*(z.cyc*1440):=dt hK0 (by omega)
 rw [←hK]at hrd
 refine ak (aj (.inl rfl) ?_)
 simp [g1,g2,hJc,hJt,aQ,hrd,hmi,wrap64 (n:=K*(z.cyc*1440)) (by omega) (by omega)]
 refine aH ?_
 refine bF (fun m s=>∃(e:Int) (t':T) (J:Heap),s=⟨t',[],J⟩∧Keeps H J∧(e=0∧m=1∨e=1∧m=0∧kU o (z.cyc*1440) z.hor K=none)∧t'.g 0=.c (.yl b)∧t'.g 1=.c (.ptr bc 0 0)∧t'.g 2=.c (.ptr bt 0 0)∧t'.g 6=vi ((K+e)*(z.cyc*1440))) 1
  ⟨0,_,J1,rfl,hK1,.inl ⟨rfl,rfl⟩,by simp [g0],by simp [g1],by simp [g2],by simp⟩ ?_
 clear g0 g1 g2 hK1 hJc hJt hmi
 rintro m s ⟨e,t',J,rfl,hJ,he,g0,g1,g2,g6⟩ ih
 have hKe:0≤(K+e)*(z.cyc*1440)∧(K+e)*(z.cyc*1440)≤4000000:=by
  rcases he with⟨rfl,-⟩ | ⟨rfl,-⟩
  ·rw [dr];omega
  ·rw [da,c4];omega
 have hJc:=kc J hJ
 refine ak ?_
 refine aH ?_
 refine ak (aj (.inl rfl) ?_)
 simp [g1,hJc,aQ,vT hc,KG _ o0]
 refine kS o.length (fun j t J=>Keeps H J∧(∀ i y,i<j→o[i]?=some y→decide (z.hor≤y.at_+(K+e)*(z.cyc*1440))=false)∧t.g 0=.c (.yl b)∧t.g 1=.c (.ptr bc 0 0)∧t.g 2=.c (.ptr bt 0 0)∧t.g 6=vi ((K+e)*(z.cyc*1440))∧t.g 56=.c (.f (sl g (aT o)))) (by have:=h.len;omega) (by decide) (by decide) (by simp) (by simp)
  ⟨hJ,fun i y hi=>absurd hi (by omega),by simp [g0],by simp [g1],by simp [g2],by simp [g6],by simp⟩ ?_ ?_
 ·clear hJ hJc g0 g1 g2 g6
  rintro j t J hj ⟨hJ,hno,g0,g1,g2,g6,g56⟩ ha hb' nx
  have hii:=jS (g:=g) J hj
  have hll:=xq J hj
  have hbj:=(h.bd _ (av hj)).1
  unfold AtB at hbj
  have w1:IntKind.i64.wrap (o[j].at_+(K+e)*(z.cyc*1440))=o[j].at_+(K+e)*(z.cyc*1440):=wrap64 (by omega) (by omega)
  simp only [TrD.row,aR,bh]at hll
  have e1:Keeps H (J++[.box [.f (fi (o[j].at_+(K+e)*(z.cyc*1440))),.f (fi o[j].off)] 0]):=hJ.push _
  have e2:=kt _ e1
  refine aH ?_
  refine ak (aj (.inl rfl) ?_)
  simp [g56,ha,hii,hll]
  refine ak (aj (.inl rfl) ?_)
  simp [g6,w1]
  by_cases hge:z.hor≤o[j].at_+(K+e)*(z.cyc*1440)
  ·have hfk:kU o (z.cyc*1440) z.hor (K+e)=some ⟨o[j].at_+(K+e)*(z.cyc*1440),o[j].off⟩:=by
    have:=Qq (p:=fun x=>decide (z.hor≤x.at_+(K+e)*(z.cyc*1440))) (ae hj) (fun i y hi hy=>hno i y hi hy) (by simp [hge])
    simp [kU,this]
   have hfin:aft o (z.cyc*1440) z.hor=some ⟨o[j].at_+(K+e)*(z.cyc*1440),o[j].off⟩:=by
    unfold aft
    rw [←hK]
    rcases he with⟨rfl,-⟩ | ⟨rfl,-,hn⟩
    ·rw [dr]at hfk ⊢;rw [hfk];rfl
    ·rw [hn,hfk];rfl
   obtain⟨J',hev,hPP⟩:=hy _ hfin _ e1
   simp only [TrD.row,aR,bh]at hev
   refine ak (aj (.inl rfl) ?_)
   simp [g0,g2,e2,aQ,hge,hev.eq]
   refine aA (by simp) ?_
   exact aO (hQ _ _ _ rfl rfl ⟨rfl,hPP⟩)
  ·refine ak (aj (.inl rfl) ?_)
   simp [g2,e2,aQ,hge]
   refine ay (by simp) (aF (aI ?_))
   refine nx _ _ ⟨e1,fun i y hi hy=>?_,by simp [g0],by simp [g1],by simp [g2],by simp [g6],by simp [g56]⟩ (by simp [ha]) (by simp [hb'])
   by_cases hji:i=j
   ·subst hji
    rw [ae hj]at hy;cases hy
    exact decide_eq_false hge
   ·exact hno i y (by omega) hy
 ·clear hJ hJc g0 g1 g2 g6
  rintro t J ⟨hJ,hno,g0,g1,g2,g6,g56⟩ ha hb'
  have hnone:kU o (z.cyc*1440) z.hor (K+e)=none:=by
   have:o.find? (fun x=>decide (z.hor≤x.at_+(K+e)*(z.cyc*1440)))=none:=by
    rw [dT]
    intro x hx
    obtain⟨j,hj,rfl⟩:=bp hx
    have:=hno j o[j] hj (ae hj)
    simp [this]
   simp [kU,this]
  rcases he with⟨rfl,rfl⟩ | ⟨rfl,rfl,-⟩
  ·rw [dr]at hnone g6
   have hJc:=kc J hJ
   have hmi:=(minutes_fev (g:=g) (o:=o) hc (by omega) (by omega) J).eq
   refine aI ?_
   refine aj (.inl rfl) ?_
   have hw:IntKind.i64.wrap (K*(z.cyc*1440)+z.cyc*1440)=(K+1)*(z.cyc*1440):=by
    rw [wrap64 (by omega) (by omega),da,c4]
   simp [g1,g6,hJc,aQ,hmi,hw]
   exact ih 0 _ (by omega) ⟨1,_,J,rfl,hJ,.inr ⟨rfl,rfl,hnone⟩,by simp [g0],by simp [g1],by simp [g2],by simp⟩
  ·exfalso
   have:=hno 0 o[0] o0 (ae o0)
   have h2:=of_decide_eq_false this
   exact h2 hKs.2
end Go.Proofs.YthfeogjbpgocbaaGreat
end
section
namespace Go.Proofs.YthfeogjbpgocbaaGreat
open Go Km
theorem ai7{H:Heap}{b fl:Nat}{z:ZD}(h:H[b]?=some (.box (z.row.map .f) fl))(hc:z.c<3):∃ cs,ldV H none (.c (.ptr b 1 0))=some (.c (.f (.fs cs 2))):=by
 obtain⟨c,s,tg,tr,h',yg,yr⟩:=z
 have:c=0∨c=1∨c=2:=by simp at hc;omega
 rcases this with rfl | rfl | rfl<;>exact⟨_,by simp [ldV,aP,h,ZD.row,jy,aQ];rfl⟩
theorem ayh(x:FC)(t:Int)(H:Heap):Ev tab.get (.fn Hg) [.c (.f x),vi t] H (.c (.cl qP [.ptr H.length 0 0,.ptr (H.length+1) 0 0])) (H++[.box [.f x] 0,.box [.f (fi t)] 0]):=by
 obtain⟨r,H',he,rfl,rfl⟩:∃ r H',Ev tab.get (.fn Hg) [.c (.f x),vi t] H r H'∧r=.c (.cl qP [.ptr H.length 0 0,.ptr (H.length+1) 0 0])∧H'=H++[.box [.f x] 0,.box [.f (fi t)] 0]:=by
  refine gu aHz rfl fun Q hQ=>?_
  refine ak (aj (.inl rfl) ?_)
  simp
  refine ak (aj (.inl rfl) ?_)
  simp
  exact aO (hQ _ _ _ rfl (res_one (by simp)) ⟨rfl,rfl⟩)
 exact he
theorem OKZ.tick{z:ZD}{o:List TrD}(h:OKZ z o):∃ g,Km.Pure tab.get mG [z.v]=Eq (.t [ckV z g o,vb true]):=by
 rcases h.y with⟨e,rfl⟩ | ⟨r,q,e,hr,hq,hi,hs,ha⟩
 ·refine⟨.nil,?_⟩
  have hcy:z.cyc=1:=by simp [ZD.cyc,e]
  rw [ahC z h.c e,ckV,ckR,hcy]
  rfl
 ·obtain⟨g,hg⟩:=auc z h.c e hr hq hi hs
  refine⟨g,?_⟩
  have hcy:z.cyc=cyc z.c:=by simp [ZD.cyc,e]
  rw [hg,ckV,ckR,hcy]
end Go.Proofs.YthfeogjbpgocbaaGreat
end
section
namespace Go.Proofs.YthfeogjbpgocbaaGreat
open Go Km
section
variable{z:ZD}{o:List TrD}
def qp(h:OKZ z o)(aFN a:Int):Prop:=∃ r,Last h.S a r∧a+offO z r=aFN
theorem I9(h:OKZ z o){t:Int}{r q:Option TrD}(hr:Last h.S t r)(hq:Last h.S t q):r=q:=Last.uniq h.apart hr hq
theorem Jb(h:OKZ z o){t l:Int}(hr:Last h.S t none)(h1:l-offO z none≤t):qp h l (l-offO z none):=⟨none,hr.RJ h1,by omega⟩
theorem Ja(h:OKZ z o){t l:Int}{x:TrD}(hr:Last h.S t (some x))(h1:l-offO z (some x)≤t)(h2:x.at_≤l-offO z (some x)):qp h l (l-offO z (some x)):=⟨some x,hr.back h2 h1,by omega⟩
theorem axw(h:OKZ z o){t:Int}{x:TrD}(hr:Last h.S t (some x)):∀ y,h.S y→y.at_≤x.at_-1→y.at_+2160≤x.at_:=by
 intro y hy h1
 rcases h.apart x y hr.1 hy with h2 | h2 | h2
 ·omega
 ·exact h2
 ·subst h2;omega
end
end Go.Proofs.YthfeogjbpgocbaaGreat
end
section
namespace Go.Proofs.YthfeogjbpgocbaaGreat
open Go Km
theorem OKZ.aHi{z:ZD}{o:List TrD}(h:OKZ z o){x:TrD}(hx:aft o (z.cyc*1440) z.hor=some x):0≤x.at_∧x.at_≤10000000:=by
 have hcy:=h.ayw
 have hho:=h.ho
 have o0:0<o.length:=by
  rcases cB o.length with e | e
  ·have:o=[]:=List.length_eq_zero_iff.1 e
   subst this;simp [aft,kU]at hx
  ·exact e
 have hb0:=(h.bd _ (av o0)).1
 unfold AtB at hb0
 have hK:turns o (z.cyc*1440) z.hor=if o[0].at_<z.hor then(z.hor-o[0].at_) / (z.cyc*1440)else 0:=by unfold turns;rw [ae o0]
 have q0:=bz (z.hor-o[0].at_) (z.cyc*1440)
 have q1:=bX (z.hor-o[0].at_) (show z.cyc*1440≠0 by omega)
 have hKs:turns o (z.cyc*1440) z.hor*(z.cyc*1440)≤2000000:=by
  rw [hK]
  split
  ·rw [cU];omega
  ·omega
 have key:∀ k,k*(z.cyc*1440)≤4000000→kU o (z.cyc*1440) z.hor k=some x→0≤x.at_∧x.at_≤10000000:=by
  intro k hk hx
  obtain⟨⟨y,hy,rfl⟩,h2,-⟩:=zD h.sp hx
  have:=(h.bd _ hy).1
  unfold AtB at this
  simp only at h2 ⊢
  omega
 unfold aft at hx
 cases h1:kU o (z.cyc*1440) z.hor (turns o (z.cyc*1440) z.hor)with
 | some w=>
  rw [h1]at hx;simp at hx;subst hx
  exact key _ (by omega) h1
 | none=>
  rw [h1]at hx;simp at hx
  exact key _ (by rw [da,c4];omega) hx
set_option maxRecDepth 100000 in
theorem RG{z:ZD}{o:List TrD}(h:OKZ z o)(g:Tg){Q:Option ah→St→Prop}
  (hQ:∀ j s r,r=.t [ckV z g o,vb true]→wR [.cell (P.nat 2) none,.cell (P.nat 3) none] r s∨aIi [.cell (P.nat 2) none,.cell (P.nat 3) none] r s→Q j s)
  (t:T) (J:Heap) (n8:Nat) (g1:t.g 1=.c (.ptr 0 0 0)) (g2:t.g 2=.c (.ptr 1 0 0)) (g3:t.g 3=.c (.ptr 2 0 0)) (g8:t.g 8=.c (.ptr n8 0 0))
  (x0:J[0]?=some (.box (z.row.map .f) 0)) (x1:J[1]?=some (.box [.f .kF] 0)) (x2:J[2]?=some (.box [.f (.bool false)] 0)) (x8:J[n8]?=some (.box [.f (.fp (ckR z g o) 0)] 0)) (h8:2<n8) :
  WP tab.get iE none [.code Ej] ⟨t,[],J⟩ Q:=by
 have hc:=h.c
 have fin:∀(t:T) (J:Heap) (ds:List eP),t.g 8=.c (.ptr n8 0 0)→t.g 2=.c (.ptr 1 0 0)→t.g 3=.c (.ptr 2 0 0) →
   J[1]?=some (.box [.f .kF] 0)→J[2]?=some (.box [.f (.bool false)] 0)→J[n8]?=some (.box [.f (.fp (ckR z g o) 0)] 0) →
   (ds=[]∨∃ b,ds=[.coll b]∧2<b∧J[b]?=some (.dfr true))→WP tab.get iE none [.code yB] ⟨t,ds,J⟩ Q:=by
  intro t J ds g8 g2 g3 x1 x2 x8 hds
  have q1:(J.set 1 (.box [.f (.fp (ckR z g o) 0)] 0))[2]?=some (.box [.f (.bool false)] 0):=by rw [ag (by decide)];exact x2
  refine ak (aj (.inl rfl) ?_)
  simp [g8,g2,g3,x8,x1,aQ,q1,List.length_set]
  obtain⟨K,hK⟩:∃ K:Heap,K=(J.set 1 (.box [.f (.fp (ckR z g o) 0)] 0)).set 2 (.box [.f (.bool true)] 0):=⟨_,rfl⟩
  have l1:=aN x1
  have l2:=aN x2
  have k1:K[1]?=some (.box [.f (.fp (ckR z g o) 0)] 0):=by rw [hK,ag (by decide),ax l1]
  have k2:K[2]?=some (.box [.f (.bool true)] 0):=by rw [hK,ax (by simpa using l2)]
  rw [←hK]
  rcases hds with rfl | ⟨b,rfl,hb,hxb⟩
  ·refine aO (hQ _ _ _ rfl (.inl ⟨rfl,.t [.c (.f (.fp (ckR z g o) 0)),vb true],?_,?_⟩))
   ·simp [Km.results,resOne,bf,g2,g3,k1,k2,aQ]
   ·simp [exV,dw,bf]
  ·have kb:K[b]?=some (.dfr true):=by rw [hK,ag (by omega),ag (by omega)];exact hxb
   have r1:(K.set b (.dfr false))[1]?=some (.box [.f (.fp (ckR z g o) 0)] 0):=by rw [ag (by omega)];exact k1
   have r2:(K.set b (.dfr false))[2]?=some (.box [.f (.bool true)] 0):=by rw [ag (by omega)];exact k2
   refine aO (hQ _ _ _ rfl (.inr ⟨b,rfl,kb,.t [.c (.f (.fp (ckR z g o) 0)),vb true],?_,?_⟩))
   ·simp [Km.results,resOne,bf,g2,g3,r1,r2,aQ]
   ·simp [exV,dw,bf]
 refine ak ?_
 refine ak ?_
 refine aj (.inl rfl) ?_
 simp [g1,x0,jk x0 hc,-aG]
 obtain⟨J3,hJ3⟩:∃ J3:Heap,J3=J++[.box [.f (fi z.tr.length)] 0]:=⟨_,rfl⟩
 have up:∀ i y,J[i]?=some y→J3[i]?=some y:=fun i y hy=>by rw [hJ3,al (aN hy)];exact hy
 have x10:J3[J.length]?=some (.box [.f (fi z.tr.length)] 0):=by rw [hJ3];simp
 have y0:=up _ _ x0
 have y1:=up _ _ x1
 have y2:=up _ _ x2
 have y8:=up _ _ x8
 have hn8:n8<J.length:=aN x8
 have hL3:J.length<J3.length:=by rw [hJ3];simp
 rw [←hJ3]
 refine ak (aj (.inl rfl) ?_)
 by_cases hn:z.tr=[]
 ·simp [x10,aQ,hn]
  refine ay (by simp) (aF ?_)
  exact fin _ _ _ (by simp [g8]) (by simp [g2]) (by simp [g3]) y1 y2 y8 (.inl rfl)
 have hn0:0<z.tr.length:=db.2 hn
 simp [x10,aQ,hn,hn0]
 refine aA (by simp) ?_
 have hfr:=(ayh (.fp (ckR z g o) 0) z.hor J3).eq
 have l8:ldV J3 none (.c (.ptr n8 0 0))=some (ckV z g o):=by simp [ldV,aP,y8,aQ]
 refine ak (aj (.inl rfl) ?_)
 simp [g1,g8,l8,oP y0 hc,-aG,hfr]
 obtain⟨J4,hJ4⟩:∃ J4:Heap,J4=J3++[.box [.f (.fp (ckR z g o) 0)] 0,.box [.f (fi z.hor)] 0]:=⟨_,rfl⟩
 rw [←hJ4]
 refine aH ?_
 have hL4:J4.length=J3.length+2:=by rw [hJ4];simp
 have stage:∀ t:T,t.g 1=.c (.ptr 0 0 0)→t.g 2=.c (.ptr 1 0 0)→t.g 3=.c (.ptr 2 0 0)→t.g 8=.c (.ptr n8 0 0)→t.g 10=.c (.ptr J.length 0 0) →
   t.g 158=.c (.cl qP [.ptr J3.length 0 0,.ptr (J3.length+1) 0 0]) →
   WP tab.get iE none [.code (.gK (R 158) [P.nat 159] iR iQ),.inBlock 4,.code yB] ⟨t,[],J4⟩ Q:=by
  intro t g1 g2 g3 g8 g10 aLt
  have up4:∀ i y,J3[i]?=some y→J4[i]?=some y:=fun i y hy=>by rw [hJ4,al (aN hy)];exact hy
  obtain⟨L,hL⟩:∃ L,L=J4.length:=⟨_,rfl⟩
  obtain⟨H1,hH1⟩:∃ H1:Heap,H1=J4++[.dfr true,.lp iE t [P.nat 159] iR iQ .ready none J4.length]:=⟨_,rfl⟩
  have up1:∀ i y,J3[i]?=some y→H1[i]?=some y:=fun i y hy=>by rw [hH1,al (aN (up4 i y hy))];exact up4 i y hy
  have hbc:H1[J3.length]?=some (.box [.f (.fp (ckR z g o) 0)] 0):=by rw [hH1,al (by omega),hJ4];simp
  have hbt:H1[J3.length+1]?=some (.box [.f (fi z.hor)] 0):=by rw [hH1,al (by omega),hJ4];simp
  have hd:H1[L]?=some (.dfr true):=by rw [hH1,hL];simp
  have hlp:H1[L+1]?=some (.lp iE t [P.nat 159] iR iQ .ready none L):=by rw [hH1,hL,bj (by omega),show J4.length+1-J4.length=1 by omega];rfl
  have w1:=up1 _ _ y1
  have w2:=up1 _ _ y2
  have w8:=up1 _ _ y8
  have w0:=up1 _ _ y0
  have w10:=up1 _ _ x10
  by_cases ho:o=[]
  ·obtain⟨r,H',he,rfl,hPP⟩:=Qn h g (b:=L+1) (bc:=J3.length) (bt:=J3.length+1) (H:=H1) (PP:=fun H'=>Keeps H1 H') hbc hbt (fun _ J hJ=>hJ) (fun x hx=>by subst ho;simp [aft,kU]at hx)
   rw [hH1,hL]at he
   refine xI (g:=qP) (by rw [aIh,aLt];simp [bV]) he ?_
   refine Jk (hPP _ _ (by rw [←hL];exact hlp)) (by decide) ?_
   refine aI ?_
   have hk:∀ i y,H1[i]?=some y→i≤L→(H'.set (J4.length+1) (.lp iE t [P.nat 159] iR iQ .exhausted none L))[i]?=some y:=fun i y hy hi=>by
    rw [ag (by omega)];exact hPP _ _ hy
   exact fin _ _ _ g8 g2 g3 (hk _ _ w1 (by omega)) (hk _ _ w2 (by omega)) (hk _ _ w8 (by omega)) (.inr ⟨J4.length,rfl,by omega,hk _ _ (by rw [←hL];exact hd) (by omega)⟩)
  ·obtain⟨r,H',he,rfl,p1,p2,pL,f2,tm,ps,aa,bd,pl⟩:=Qn h g (b:=L+1) (bc:=J3.length) (bt:=J3.length+1) (H:=H1)
    (PP:=fun H'=>H'[1]?=some (.box [.f (.fp (ckR z g o) 0)] 0)∧H'[2]?=some (.box [.f (.bool true)] 0)∧H'[L]?=some (.dfr true)∧∃ f2 tm ps aa bd,H'[L+1]?=some (.lp f2 tm ps aa bd .done (some .ret) L)) hbc hbt (fun e=>absurd e ho) (fun x hx J' hJ'=>by
     have hxb:=h.aHi hx
     obtain⟨r,H',e,rfl,hPP⟩:=qH (tab:=tab.get) (b:=L+1) (args:=[.a (x.row.map .f)]) (H:=J')
      (C:=fun r H'=>r=vb false∧H'[1]?=some (.box [.f (.fp (ckR z g o) 0)] 0)∧H'[2]?=some (.box [.f (.bool true)] 0)∧H'[L]?=some (.dfr true)∧∃ f2 tm ps aa bd,H'[L+1]?=some (.lp f2 tm ps aa bd .done (some .ret) L)) (hJ' _ _ hlp) rfl fun Q' hQ'=>by
       simp only [TrD.row]
       refine aj (.inr rfl) ?_
       simp
       refine Gi (by rw [al (aN (hJ' _ _ hlp))];exact hJ' _ _ hlp) ?_
       obtain⟨M,hM⟩:∃ M:Heap,M=(J'++[Blk.box [.f (fi x.at_),.f (fi x.off)] 0]).set (L+1) (.lp iE t [P.nat 159] iR iQ .busy none L):=⟨_,rfl⟩
       rw [←hM]
       have hlJ:=aN (hJ' _ _ hlp)
       have upM:∀ i y,H1[i]?=some y→i≠L+1→M[i]?=some y:=fun i y hy hi=>by
        rw [hM,ag (by omega),al (aN (hJ' _ _ hy))];exact hJ' _ _ hy
       have m0:=upM _ _ w0 (by omega)
       have m1:=upM _ _ w1 (by omega)
       have m2:=upM _ _ w2 (by omega)
       have m8:=upM _ _ w8 (by omega)
       have m10:=upM _ _ w10 (by omega)
       have mL:=upM _ _ hd (by omega)
       have mb:M[L+1]?=some (.lp iE t [P.nat 159] iR iQ .busy none L):=by rw [hM,ax (by simp;omega)]
       have mx:M[J'.length]?=some (.box [.f (fi x.at_),.f (fi x.off)] 0):=by rw [hM,ag (by omega)];simp
       have lM:ldV M none (.c (.ptr n8 0 0))=some (ckV z g o):=by simp [ldV,aP,m8,aQ]
       have lx:ldV M none (.c (.ptr J'.length 0 0))=some (vi x.at_):=by simp [ldV,aP,mx,aQ]
       have l10:ldV M none (.c (.ptr J.length 0 0))=some (vi z.tr.length):=by simp [ldV,aP,m10,aQ]
       have hk:=z.tr.length-1
       have ii:=jS (g:=z.tg) M (show z.tr.length-1<z.tr.length by omega)
       have il:=zT M (show z.tr.length-1<z.tr.length by omega)
       have hla:=h.tb _ (av (show z.tr.length-1<z.tr.length by omega))
       have hho:=h.ho
       have e1:IntKind.i64.wrap ((z.tr.length:Int)-1)=((z.tr.length-1:Nat):Int):=by rw [wrap64 (by omega) (by have:=h.tl;omega)];omega
       have e2:IntKind.i64.wrap (x.at_-z.tr[z.tr.length-1].at_)=x.at_-z.tr[z.tr.length-1].at_:=wrap64 (by omega) (by omega)
       have e3:(2160:Int)≤x.at_-z.tr[z.tr.length-1].at_:=by
        rcases h.y with⟨-,e⟩ | ⟨r,q,e,-,-,-,-,ha⟩
        ·exact absurd e ho
        ·have hcy:z.cyc=cyc z.c:=by simp [ZD.cyc,e]
         have:=ha x _ (by rw [←hcy];exact hx) (av (show z.tr.length-1<z.tr.length by omega))
         omega
       have s1:stC M (.ptr 1 0 0) [.f (.fp (ckR z g o) 0)]=some (M.set 1 (.box [.f (.fp (ckR z g o) 0)] 0)):=by simp [stC,m1,over]
       have q1:(M.set 1 (.box [.f (.fp (ckR z g o) 0)] 0))[2]?=some (.box [.f (.bool false)] 0):=by rw [ag (by decide)];exact m2
       have s2:stC (M.set 1 (.box [.f (.fp (ckR z g o) 0)] 0)) (.ptr 2 0 0) [.f (.bool true)]=some ((M.set 1 (.box [.f (.fp (ckR z g o) 0)] 0)).set 2 (.box [.f (.bool true)] 0)):=by simp [stC,q1,over]
       have n0:(M.set 1 (.box [.f (.fp (ckR z g o) 0)] 0))[0]?=some (.box (z.row.map .f) 0):=by rw [ag (by decide)];exact m0
       have nx:ldV (M.set 1 (.box [.f (.fp (ckR z g o) 0)] 0)) none (.c (.ptr J'.length 0 0))=some (vi x.at_):=by
        simp [ldV,aP,ag (show 1≠J'.length by omega),mx,aQ]
       have n10:ldV (M.set 1 (.box [.f (.fp (ckR z g o) 0)] 0)) none (.c (.ptr J.length 0 0))=some (vi z.tr.length):=by
        simp [ldV,aP,ag (show 1≠J.length by omega),m10,aQ]
       have ii':=jS (g:=z.tg) (M.set 1 (.box [.f (.fp (ckR z g o) 0)] 0)) (show z.tr.length-1<z.tr.length by omega)
       have il':=zT (M.set 1 (.box [.f (.fp (ckR z g o) 0)] 0)) (show z.tr.length-1<z.tr.length by omega)
       refine aH ?_
       refine ak (oQ (.inr rfl) ?_ ?_)
       case refine_2=>
        intro c hcm
        have hcc:c=(2,13)∨c=(4,13)∨c=(5,13)∨c=(7,13)∨c=(9,13):=by simpa using hcm
        rcases hcc with rfl | rfl | rfl | rfl | rfl
        all_goals
         refine⟨by decide,_,rfl,.inl ⟨by decide,?_⟩⟩
         simp [g1,g2,g3,g8,g10,lM,lx,l10,jk m0 hc,ii,il,e1,e2,e3,s1,s2,sH,nx,n10,jk n0 hc,ii',il',-aG,-bI]
         first | rfl | exact ajR z.tg z.tr | exact qM (uO z.tr) | simp [V.beq,C.beq,FC.beq,qM (uO z.tr)]
       simp [g1,g2,g3,g8,g10,lM,lx,l10,jk m0 hc,ii,il,e1,e2,e3,s1,s2,-aG,-bI]
       have kb:((M.set 1 (.box [.f (.fp (ckR z g o) 0)] 0)).set 2 (.box [.f (.bool true)] 0))[L+1]?=some (.lp iE t [P.nat 159] iR iQ .busy none L):=by rw [ag (by omega),ag (by omega)];exact mb
       refine aO (hQ' _ _ _ _ _ _ _ _ _ _ rfl kb ⟨rfl,?_,?_,?_,iE,t,[P.nat 159],iR,iQ,?_⟩)
       ·simp only
        rw [ag (by omega),ag (by decide),ax (aN m1)]
       ·simp only
        rw [ag (by omega),ax (aN q1)]
       ·simp only
        rw [ag (by omega),ag (by omega),ag (by omega)];exact mL
       ·exact ax (aN kb)
     exact⟨H',e,hPP⟩)
   rw [hH1,hL]at he
   refine xI (g:=qP) (by rw [aIh,aLt];simp [bV]) he ?_
   rw [←hL]
   refine vV pl (by decide) ?_
   have hk:∀ i,i<L+1→(H'.set (L+1) (.lp f2 tm ps aa bd .exhausted (some .ret) L))[i]?=H'[i]?:=fun i hi=>ag (by omega)
   refine aO (hQ _ _ _ rfl (.inr ⟨L,rfl,by rw [hk _ (by omega)];exact pL,.t [.c (.f (.fp (ckR z g o) 0)),vb true],?_,by simp [exV,dw,bf]⟩))
   have q1:((H'.set (L+1) (.lp f2 tm ps aa bd .exhausted (some .ret) L)).set L (.dfr false))[1]?=some (.box [.f (.fp (ckR z g o) 0)] 0):=by rw [ag (by omega),hk _ (by omega)];exact p1
   have q2:((H'.set (L+1) (.lp f2 tm ps aa bd .exhausted (some .ret) L)).set L (.dfr false))[2]?=some (.box [.f (.bool true)] 0):=by rw [ag (by omega),hk _ (by omega)];exact p2
   simp [Km.results,resOne,bf,g2,g3,q1,q2,aQ]
 exact stage _ (by simp [g1]) (by simp [g2]) (by simp [g3]) (by simp [g8]) (by simp) (by simp)
end Go.Proofs.YthfeogjbpgocbaaGreat
end
section
namespace Go.Proofs.YthfeogjbpgocbaaGreat
open Go Km
set_option maxRecDepth 100000 in
theorem FN{z:ZD}{o:List TrD}(h:OKZ z o):∃ g,Km.Pure tab.get iE [z.v]=Eq (.t [ckV z g o,vb true]):=by
 obtain⟨g,aLa⟩:=h.tick
 refine⟨g,?_⟩
 obtain⟨rr,rfl,hp⟩:∃ rr,rr=.t [ckV z g o,vb true]∧Km.Pure tab.get iE [z.v] rr:=by
  have hc:=h.c
  have hst:=h.st
  have hho:=h.ho
  have htl:=h.tl
  refine IQ aHs rfl fun Q hQ=>?_
  refine ak (aj (.inl rfl) ?_)
  simp
  obtain⟨H0,hH0⟩:∃ H0:Heap,H0=[.box (z.row.map .f) 0,.box [.f .kF] 0,.box [.f (.bool false)] 0]:=⟨_,rfl⟩
  rw [←hH0]
  have z0:H0[0]?=some (.box (z.row.map .f) 0):=by rw [hH0];rfl
  have z1:H0[1]?=some (.box [.f .kF] 0):=by rw [hH0];rfl
  have z2:H0[2]?=some (.box [.f (.bool false)] 0):=by rw [hH0];rfl
  have hl0:H0.length=3:=by rw [hH0];rfl
  refine ak ?_
  refine ak (aj (.inl rfl) ?_)
  simp [jk z0 hc,mY z0 hc,ai6 z0 hc,oP z0 hc,-aG,CS hc,zI (n:=z.start) (m:=1080) (by decide) (by decide) hst.1 hst.2,zI (n:=z.hor) (m:=2251799813685248) (by decide) (by decide) (by omega) (by omega),show¬ 512<(z.tr.length:Int) by omega]
  refine ay (by simp) (aF ?_)
  refine ak ?_
  refine ak (aj (.inl rfl) ?_)
  simp [jk z0 hc,-aG]
  refine kS z.tr.length (fun j t J=>Keeps H0 J∧t.g 1=.c (.ptr 0 0 0)∧t.g 2=.c (.ptr 1 0 0)∧t.g 3=.c (.ptr 2 0 0)∧t.g 35=.c (.f (sl z.tg (aT z.tr)))) (by omega) (by decide) (by decide) (by simp) (by simp)
   ⟨Keeps.refl _,by simp,by simp,by simp,by simp⟩ ?_ ?_
  ·rintro j t J hj ⟨hJ,g1,g2,g3,g35⟩ ha hb nx
   have hii:=jS (g:=z.tg) J hj
   have hll:=xq J hj
   simp only [TrD.row,aR,bh]at hll
   have hx:=h.tb _ (av hj)
   obtain⟨J1,hJ1⟩:∃ J1:Heap,J1=J++[.box (z.tr[j].row.map .f) 0]:=⟨_,rfl⟩
   have e1:Keeps H0 J1:=by rw [hJ1];exact hJ.push _
   have eb:J1[J.length]?=some (.box [.f (fi z.tr[j].at_),.f (fi z.tr[j].off)] 0):=by rw [hJ1];simp [TrD.row]
   have y0:=e1 _ _ z0
   simp only [TrD.row,aR,bh]at hJ1
   refine aH ?_
   refine ak (aj (.inl rfl) ?_)
   simp [g35,ha,hii,hll]
   rw [←hJ1]
   have la:ldV J1 none (.c (.ptr J.length 0 0))=some (vi z.tr[j].at_):=by simp [ldV,aP,eb,aQ]
   have lo:ldV J1 none (.c (.ptr J.length 1 0))=some (vi z.tr[j].off):=by simp [ldV,aP,eb,aQ]
   have wo:=zI (n:=z.tr[j].off) (m:=1080) (by decide) (by decide) hx.2.2.1 hx.2.2.2
   have wa:=zI (n:=z.tr[j].at_) (m:=2251799813685248) (by decide) (by decide) (by omega) (by omega)
   refine ak (aj (.inl rfl) ?_)
   by_cases hj0:j=0
   ·subst hj0
    simp [g1,la,lo,wo,wa,oP y0 hc,-aG,show¬ z.hor≤z.tr[0].at_ by omega]
    refine ay (by simp) (aF (aI ?_))
    exact nx _ _ ⟨e1,by simp [g1],by simp [g2],by simp [g3],by simp [g35]⟩ (by simp [ha]) (by simp [hb])
   ·obtain⟨k,rfl⟩:∃ k,j=k+1:=⟨j-1,by omega⟩
    have hik:=jS (g:=z.tg) J1 (show k<z.tr.length by omega)
    have hlk:=zT J1 (show k<z.tr.length by omega)
    have hs:=h.ts k _ _ (ae (by omega)) (ae hj)
    have hx':=h.tb _ (av (show k<z.tr.length by omega))
    have wk:IntKind.i64.wrap (k:Nat)=(k:Nat):=wrap64 (by omega) (by omega)
    have wd:IntKind.i64.wrap (z.tr[k+1].at_-z.tr[k].at_)=z.tr[k+1].at_-z.tr[k].at_:=wrap64 (by omega) (by omega)
    simp [g1,la,lo,wo,wa,oP y0 hc,jk y0 hc,-aG,show¬ z.hor≤z.tr[k+1].at_ by omega,wk,hik,hlk,wd,show¬ z.tr[k+1].at_-z.tr[k].at_<2160 by omega,show(0:Int)<(k:Int)+1 by omega]
    refine ay (by simp) (aF (aI ?_))
    exact nx _ _ ⟨e1,by simp [g1],by simp [g2],by simp [g3],by simp [g35]⟩ (by simp [ha]) (by simp [hb])
  clear hH0
  rintro t J ⟨hJ,g1,g2,g3,g35⟩ ha hb
  have y0:=hJ _ _ z0
  have hyl:z.yr.length=0∨z.yr.length=2:=by
   rcases h.y with⟨e,-⟩ | ⟨r,q,e,-⟩
   ·left;rw [e];rfl
   ·right;rw [e];rfl
  have hyo:∀ x ∈ z.yr,x.OK:=by
   rcases h.y with⟨e,-⟩ | ⟨r,q,e,hr,hq,-⟩
   ·rw [e];intro x hx;cases hx
   ·rw [e];intro x hx
    simp at hx
    rcases hx with rfl | rfl
    ·exact hr
    ·exact hq
  have mid:∀(t:T) (J:Heap),Keeps H0 J→t.g 1=.c (.ptr 0 0 0)→t.g 2=.c (.ptr 1 0 0)→t.g 3=.c (.ptr 2 0 0)→WP tab.get iE none [.code Em] ⟨t,[],J⟩ Q:=by
   clear g1 g2 g3 g35 ha hb y0 hJ
   intro t J hJ g1 g2 g3
   have y0:=hJ _ _ z0
   refine ak ?_
   refine ak (aj (.inl rfl) ?_)
   simp [g1,jW y0 hc,-aG]
   refine kS z.yr.length (fun j t J=>Keeps H0 J∧t.g 1=.c (.ptr 0 0 0)∧t.g 2=.c (.ptr 1 0 0)∧t.g 3=.c (.ptr 2 0 0)∧t.g 88=.c (.f (sl z.yg (bK z.yr)))) (by omega) (by decide) (by decide) (by simp) (by simp)
    ⟨hJ,by simp [g1],by simp [g2],by simp [g3],by simp⟩ ?_ ?_
   ·clear hJ g1 g2 g3 y0
    rintro j t J hj ⟨hJ,g1,g2,g3,g88⟩ ha hb nx
    have hii:aV J 5 none (.c (.f (sl z.yg (bK z.yr)))) (vi j)=some (.c (.f (.fp (bK z.yr).flatten (j*5)))):=by
     have:=iD (H:=J) (g:=z.yg) (rows:=bK z.yr) (sz:=5) (k:=.i64) (i:=(j:Int)) (by omega) (by simp;omega)
     simpa using this
    have hll:ldV J (some 5) (.c (.f (.fp (bK z.yr).flatten (j*5))))=some (.a (z.yr[j].row.map .f)):=mZ (mP z.yr) (CW hj)
    have hx:=hyo _ (av hj)
    obtain⟨J1,hJ1⟩:∃ J1:Heap,J1=J++[.box (z.yr[j].row.map .f) 0]:=⟨_,rfl⟩
    have e1:Keeps H0 J1:=by rw [hJ1];exact hJ.push _
    have eb:J1[J.length]?=some (.box (z.yr[j].row.map .f) 0):=by rw [hJ1];simp
    have y0:=e1 _ _ z0
    have l0:ldV J1 none (.c (.ptr J.length 0 0))=some (vi z.yr[j].mo):=by simp [ldV,aP,eb,aQ,YrD.row]
    have l1:ldV J1 none (.c (.ptr J.length 1 0))=some (vi z.yr[j].wk):=by simp [ldV,aP,eb,aQ,YrD.row]
    have l2:ldV J1 none (.c (.ptr J.length 2 0))=some (vi z.yr[j].wd):=by simp [ldV,aP,eb,aQ,YrD.row]
    have l3:ldV J1 none (.c (.ptr J.length 3 0))=some (vi z.yr[j].mi):=by simp [ldV,aP,eb,aQ,YrD.row]
    have l4:ldV J1 none (.c (.ptr J.length 4 0))=some (vi z.yr[j].off):=by simp [ldV,aP,eb,aQ,YrD.row]
    obtain⟨cs,lm⟩:=ai7 y0 hc
    simp only [YrD.row,aR,bh]at hJ1 hll
    refine aH ?_
    refine ak (aj (.inl rfl) ?_)
    simp [g88,ha,hii,hll]
    rw [←hJ1]
    have wo:=zI (n:=z.yr[j].off) (m:=1080) (by decide) (by decide) hx.of0 hx.of
    refine ak (aj (.inl rfl) ?_)
    have hsl:bJ J1 (.f (.fs cs 2))=some 2:=rfl
    have f1:¬ z.yr[j].mo<1:=by have:=hx.mo;omega
    have f2:¬ 2<z.yr[j].mo:=by have:=hx.mo;omega
    have f3:¬ z.yr[j].wk<1:=by have:=hx.wk;omega
    have f4:¬ 5<z.yr[j].wk:=by have:=hx.wk;omega
    have f5:¬ z.yr[j].wd<0:=by have:=hx.wd0;omega
    have f6:¬ 6<z.yr[j].wd:=by have:=hx.wd;omega
    have f7:¬ z.yr[j].mi<0:=by have:=hx.mi0;omega
    have f8:¬ 1440≤z.yr[j].mi:=by have:=hx.mi;omega
    simp [g1,l0,l1,l2,l3,l4,lm,wo,-aG,f1,f2,f3,f4,f5,f6,f7,f8,hsl]
    refine ay (by simp) (aF (aI ?_))
    exact nx _ _ ⟨e1,by simp [g1],by simp [g2],by simp [g3],by simp [g88]⟩ (by simp [ha]) (by simp [hb])
   ·clear hJ g1 g2 g3 y0
    rintro t J ⟨hJ,g1,g2,g3,g88⟩ ha hb
    have y0:=hJ _ _ z0
    refine ak (aj (.inl rfl) ?_)
    simp [g1,jD y0 hc,-aG,aLa]
    obtain⟨J2,hJ2⟩:∃ J2:Heap,J2=J++[.box [.f (.fp (ckR z g o) 0)] 0]:=⟨_,rfl⟩
    rw [←hJ2]
    have e2:Keeps H0 J2:=by rw [hJ2];exact hJ.push _
    have hl:=aN (hJ _ _ z2)
    refine ak ?_
    refine ak ?_
    refine aj (.inl rfl) ?_
    simp
    refine ay (by simp) (aF ?_)
    refine RG h g (fun j s r hr hf=>hQ j s r hr hf) _ J2 J.length (by simp [g1]) (by simp [g2]) (by simp [g3]) (by simp) (e2 _ _ z0) (e2 _ _ z1) (e2 _ _ z2) (by rw [hJ2];simp) hl
  refine ak ?_
  refine ak (aj (.inl rfl) ?_)
  rcases hyl with hyl | hyl
  ·simp [g1,jW y0 hc,-aG,hyl]
   refine ay (by simp) (aF ?_)
   exact mid _ _ hJ (by simp [g1]) (by simp [g2]) (by simp [g3])
  ·simp [g1,jW y0 hc,-aG,hyl]
   refine ay (by simp) (aF ?_)
   exact mid _ _ hJ (by simp [g1]) (by simp [g2]) (by simp [g3])
 exact hp.eq
end Go.Proofs.YthfeogjbpgocbaaGreat
end
section
namespace Go.Proofs.YthfeogjbpgocbaaGreat
open Go Km
theorem AA{tab:Nat→Option AFunc}{fn:Nat}{ro:Option Nat}{a:ah}{k:List cu}{s:St}{Q:Option ah→St→Prop}(h:WP tab fn ro (.code a::.inLoop a::k) s Q):WP tab fn ro (.code (.loop a)::k) s Q:=pV h fun _ _ _=>rfl
abbrev fK(l:List Int):List (List FC):=l.map fun n=>[fi n]
theorem AO(l:List Int):Grid 1 (fK l):=Grid.map fun _=>rfl
def kL(H:Heap)(c:C)(l:List Int)(H':Heap):Prop:=∃ l',l'.Perm l∧LR H' c 1 (fK l')∧Kb H H' c
set_option maxRecDepth 100000 in
theorem aji{H:Heap}{c:C}{l:List Int}(hL:LR H c 1 (fK l))(hl:l.length≤2) :
  ∃ H',Ev tab.get (.fn BJ) [.c c,vi 0,vi l.length] H (.t []) H'∧kL H c l H':=by
 suffices h:∃ r H',Ev tab.get (.fn BJ) [.c c,vi 0,vi l.length] H r H'∧(r=.t []∧kL H c l H') by
  obtain⟨r,H',h1,rfl,h2⟩:=h
  exact⟨H',h1,h2⟩
 refine gu aHR rfl fun Q hQ=>?_
 have w1:IntKind.i64.wrap 1=1:=by decide
 have w2:IntKind.i64.wrap 2=2:=by decide
 have w0:IntKind.i64.wrap 0=0:=by decide
 refine ak (aj (.inl rfl) ?_)
 simp [w1]
 refine aH (AA (ak ?_))
 refine ak (aj (.inl rfl) ?_)
 by_cases h2:l.length<2
 ·simp [show¬ (1:Int)<(l.length:Int) by omega]
  refine ay (by simp) (aZ rfl (kR (hQ _ _ _ rfl rfl ⟨rfl,l,d7 _,hL,Kb.refl _ _⟩)))
 obtain⟨x,y,rfl⟩:∃ x y,l=[x,y]:=by
  match l,hl,h2 with
  | [],_,h2=>simp at h2
  | [_],_,h2=>simp at h2
  | [x,y],_,_=>exact⟨x,y,rfl⟩
  | _::_::_::_,hl,_=>simp at hl
 rcases hL with⟨h,_⟩ | ⟨_,b,ep,rfl,hb⟩
 ·simp at h
 have hb':H[b]?=some (.opn 1 [.f (fi x),.f (fi y)] 0 ep .loc):=hb
 clear h2
 have aBL:∀(t:T) (J:Heap),kL H (.sl b 0 2 0 ep 1) [x,y] J→t.g 2=vi 2→t.g 6=vi 1→WP tab.get BJ none [.inBlock 1,.code Et,.inLoop J8,.inBlock 0] ⟨t,[],J⟩ Q:=by
  intro t J hS g2 g6
  refine aI (aj (.inl rfl) ?_)
  simp [g6,w2]
  refine xJ (ak (ak (aj (.inl rfl) ?_)))
  simp [g2]
  exact ay (by simp) (aZ rfl (kR (hQ _ _ _ rfl rfl ⟨rfl,hS⟩)))
 simp
 refine aA (by simp) (aF (ak ?_))
 refine aH (ak (aj (.inl rfl) ?_))
 simp
 refine aH (AA (ak (ak (aj (.inl rfl) ?_))))
 have i1:aV H 1 none (.c (.sl b 0 2 0 ep 1)) (vi 1)=some (.c (.ptr b 1 ep)):=by simp [aV,jm,hb']
 have i0:aV H 1 none (.c (.sl b 0 2 0 ep 1)) (vi 0)=some (.c (.ptr b 0 ep)):=by simp [aV,jm,hb']
 have l1:ldV H none (.c (.ptr b 1 ep))=some (vi y):=by simp [ldV,aP,hb',aQ]
 have l0:ldV H none (.c (.ptr b 0 ep))=some (vi x):=by simp [ldV,aP,hb',aQ]
 simp [w0,i1,i0,l1,l0,-aG,yP]
 by_cases hlt:y<x
 ·simp [hlt]
  refine aA (by simp) (aF (ak ?_))
  obtain⟨H1,hH1⟩:∃ H1:Heap,H1=H.set b (.opn 1 [.f (fi x),.f (fi x)] 0 ep .loc):=⟨_,rfl⟩
  have hb1:H1[b]?=some (.opn 1 [.f (fi x),.f (fi x)] 0 ep .loc):=by rw [hH1,ax (aN hb')]
  have s1:stC H (.ptr b 1 ep) [.f (fi x)]=some H1:=by simp [stC,hb',over,hH1]
  have i0':aV H1 1 none (.c (.sl b 0 2 0 ep 1)) (vi 0)=some (.c (.ptr b 0 ep)):=by simp [aV,jm,hb1]
  obtain⟨H2,hH2⟩:∃ H2:Heap,H2=H1.set b (.opn 1 [.f (fi y),.f (fi x)] 0 ep .loc):=⟨_,rfl⟩
  have s2:stC H1 (.ptr b 0 ep) [.f (fi y)]=some H2:=by simp [stC,hb1,over,hH2]
  have hb2:H2[b]?=some (.opn 1 [.f (fi y),.f (fi x)] 0 ep .loc):=by rw [hH2,ax (aN hb1)]
  have hS:kL H (.sl b 0 2 0 ep 1) [x,y] H2:=by
   refine⟨[y,x],List.Perm.swap _ _ _,.inr ⟨by simp,b,ep,rfl,hb2⟩,Kb.aKk ?_⟩
   rw [hH2,hH1]
   exact(Fm.set _ _).trans (Fm.set _ _)
  refine aH (aj (.inl rfl) ?_)
  simp [w0,i1,i0,l1,l0,s1,i0',s2,-aG,-bI]
  refine aI (aj (.inl rfl) ?_)
  simp [w0]
  refine xJ (ak (ak (aj (.inl rfl) ?_)))
  simp
  refine ay (by simp) (aZ rfl ?_)
  exact aBL _ _ hS (by simp) (by simp)
 ·simp [hlt]
  refine ay (by simp) (aZ rfl ?_)
  exact aBL _ _ ⟨_,d7 _,.inr ⟨by simp,b,ep,rfl,hb⟩,Kb.refl _ _⟩ (by simp) (by simp)
theorem Sz:((List.range 3).all fun n=>match (CF tab.get 60 20 (.fn JX) [.c (.f (.int .u64 (n:Nat)))] [])with | some (.c (.f (.int .i64 (.ofNat _))),_)=>true | _=>false)=true:=by kernel_rfl
theorem F8{n:Nat}(h:n≤2):∃ k:Nat,Km.Pure tab.get JX [.c (.f (.int .u64 (n:Nat)))]=Eq (vi (k:Nat)):=by
 have h1:=eF Sz (show n<3 by omega)
 revert h1
 split
 ·rename_i k H' hr
  intro _
  exact⟨k,(gI (by rw [hr];rfl)).eq⟩
 ·intro h;cases h
set_option maxRecDepth 100000 in
theorem ais{H:Heap}{c:C}{l:List Int}(hL:LR H c 1 (fK l))(hl:l.length≤2)(k:Nat) :
  ∃ H',Ev tab.get (.fn yu) [.c c,vi 0,vi l.length,vi k] H (.t []) H'∧kL H c l H':=by
 obtain⟨H',hi,hS⟩:=aji hL hl
 suffices h:∃ r H',Ev tab.get (.fn yu) [.c c,vi 0,vi l.length,vi k] H r H'∧(r=.t []∧kL H c l H') by
  obtain⟨r,H',h1,rfl,h2⟩:=h
  exact⟨H',h1,h2⟩
 refine gu aHH rfl fun Q hQ=>?_
 have wl:IntKind.i64.wrap (l.length:Int)=l.length:=wrap64 (by omega) (by omega)
 have hi:=hi.eq
 refine ak (aj (.inl rfl) ?_)
 simp
 refine ak (aj (.inl rfl) ?_)
 simp
 refine aH (AA (aH (ak (aj (.inl rfl) ?_))))
 simp [wl]
 refine ak (ak (aj (.inl rfl) ?_))
 simp [show(l.length:Int)≤12 by omega]
 refine aA (by simp) (ak (aj (.inl rfl) ?_))
 simp [hi]
 exact aO (hQ _ _ _ rfl rfl ⟨rfl,hS⟩)
set_option maxRecDepth 100000 in
theorem QO{H:Heap}{c:C}{l:List Int}(hL:LR H c 1 (fK l))(hl:l.length≤2) :
  ∃ H',Ev tab.get (.fn Hq) [.c c] H (.t []) H'∧kL H c l H':=by
 obtain⟨k,hk⟩:=F8 hl
 obtain⟨H',hi,hS⟩:=ais hL hl k
 suffices h:∃ r H',Ev tab.get (.fn Hq) [.c c] H r H'∧(r=.t []∧kL H c l H') by
  obtain⟨r,H',h1,rfl,h2⟩:=h
  exact⟨H',h1,h2⟩
 refine gu aHW rfl fun Q hQ=>?_
 have hi:=hi.eq
 have hlen:=hL.len
 have wu:IntKind.u64.wrap (l.length:Int)=l.length:=by
  have:l.length=0∨l.length=1∨l.length=2:=by omega
  rcases this with e | e | e<;>rw [e]<;>decide
 refine ak (aj (.inl rfl) ?_)
 simp [hlen]
 refine aj (.inl rfl) ?_
 simp [wu,hk,hi]
 exact kR (hQ _ _ _ rfl rfl ⟨rfl,hS⟩)
end Go.Proofs.YthfeogjbpgocbaaGreat
end
section
namespace Go.Proofs.YthfeogjbpgocbaaGreat
open Go Km
set_option maxRecDepth 100000 in
theorem QK{z:ZD}{o:List TrD}(h:OKZ z o):Km.Pure tab.get Nw [z.v]=Eq (vi 0):=Km.Pure.eq (by
 obtain⟨g,hop⟩:=FN h
 have hc:=h.c
 have htl:=h.tl
 refine dD aHA rfl fun Q hQ=>?_
 refine ak (aj (.inl rfl) ?_)
 simp
 obtain⟨H0,hH0⟩:∃ H0:Heap,H0=[.box (z.row.map .f) 0]:=⟨_,rfl⟩
 rw [←hH0]
 have z0:H0[0]?=some (.box (z.row.map .f) 0):=by rw [hH0];rfl
 refine ak (ak (aj (.inl rfl) ?_))
 simp [jk z0 hc,-aG,show¬ 512<(z.tr.length:Int) by omega]
 refine ay (by simp) (aF (ak ?_))
 refine ak (aj (.inl rfl) ?_)
 simp [jD z0 hc,-aG,hop]
 refine ak (aj (.inl rfl) ?_)
 simp
 refine ay (by simp) (aF ?_)
 refine ak (aj (.inl rfl) ?_)
 simp
 refine aO (hQ _ _ ?_)
 simp)
set_option maxRecDepth 100000 in
theorem Lp{z:ZD}{o:List TrD}(h:OKZ z o){t:Int}(t0:-10000000≤t)(t1:t≤10000000) :
  ∃ r:Option TrD,Last h.S t r∧Km.Pure tab.get Ny [z.v,vi t]=Eq (.t [vi (offO z r),vi 0]):=by
 obtain⟨g,hop⟩:=FN h
 obtain⟨r,hr,hoff⟩:=xC h g t0 t1
 refine⟨r,hr,Km.Pure.eq ?_⟩
 have hc:=h.c
 refine dD aHB rfl fun Q hQ=>?_
 refine ak (aj (.inl rfl) ?_)
 simp
 obtain⟨H0,hH0⟩:∃ H0:Heap,H0=[.box (z.row.map .f) 0]:=⟨_,rfl⟩
 rw [←hH0]
 have z0:H0[0]?=some (.box (z.row.map .f) 0):=by rw [hH0];rfl
 refine ak (aj (.inl rfl) ?_)
 simp [jD z0 hc,-aG,hop]
 refine ak (ak (aj (.inl rfl) ?_))
 simp [zI (n:=t) (m:=2251799813685248) (by decide) (by decide) (by omega) (by omega)]
 refine ay (by simp) (aF ?_)
 refine ak (aj (.inl rfl) ?_)
 simp [hoff]
 refine aO (hQ _ _ ?_)
 simp
set_option maxRecDepth 100000 in
theorem Sr{z:ZD}{o:List TrD}(h:OKZ z o){t:Int}(t0:-10000000≤t)(t1:t≤10000000) :
  ∃ r:Option TrD,Last h.S t r∧Km.Pure tab.get Nz [z.v,vi t]=Eq (.t [vi (t+offO z r),vi 0]):=by
 obtain⟨r,hr,hoff⟩:=Lp h t0 t1
 refine⟨r,hr,Km.Pure.eq ?_⟩
 have hc:=h.c
 have hb:=h.offO hr
 refine dD aHC rfl fun Q hQ=>?_
 refine ak (aj (.inl rfl) ?_)
 simp
 obtain⟨H0,hH0⟩:∃ H0:Heap,H0=[.box (z.row.map .f) 0]:=⟨_,rfl⟩
 rw [←hH0]
 have z0:H0[0]?=some (.box (z.row.map .f) 0):=by rw [hH0];rfl
 refine ak (aj (.inl rfl) ?_)
 simp [jD z0 hc,-aG,hoff]
 refine ak (ak (aj (.inl rfl) ?_))
 simp
 refine ay (by simp) (aF ?_)
 refine ak (aj (.inl rfl) ?_)
 simp [wrap64 (n:=t+Go.Proofs.YthfeogjbpgocbaaGreat.offO z r) (by omega) (by omega)]
 refine aO (hQ _ _ ?_)
 simp
end Go.Proofs.YthfeogjbpgocbaaGreat
end
section
namespace Go.Proofs.YthfeogjbpgocbaaGreat
open Go Km
def akd{z:ZD}{o:List TrD}(h:OKZ z o)(lo:Int)(m:Nat)(tm:Int)(n:Nat):Prop:=
 (m=2∧tm=lo+1080∧n=0)∨(m=1∧tm≤lo+1079∧n≤1∧∀ y,h.S y→y.at_≤tm→y.at_≤lo-1080)∨(m=0∧tm=lo-1081∧n≤2∧∀ y,h.S y→y.at_≤tm→y.at_<lo-1080)
set_option maxRecDepth 100000 in
theorem Jl{z:ZD}{o:List TrD}(h:OKZ z o)(g:Tg){lo:Int}(l0:0≤lo)(l1:lo≤400000) :
  ∃(l:List Int) (tg:Tg) (e b:Int),l.length≤2∧(∀ a ∈ l,qp h lo a)∧Km.Pure tab.get pF [ckV z g o,vi lo]=Eq (.t [.c (.f (sl tg (fK l))),vi e,vi b]):=by
 obtain⟨rr,⟨l,tg,e,b,hl,hA,rfl⟩,hp⟩:∃ rr,(∃(l:List Int) (tg:Tg) (e b:Int),l.length≤2∧(∀ a ∈ l,qp h lo a)∧rr=.t [.c (.f (sl tg (fK l))),vi e,vi b])∧Km.Pure tab.get pF [ckV z g o,vi lo] rr:=by
  refine iL aHx rfl fun Q hQ=>?_
  refine ak (aj (.inl rfl) ?_)
  simp
  refine ak (aj (.inl rfl) ?_)
  simp [wrap64 (n:=lo+1080) (by omega) (by omega)]
  refine ak (aH ?_)
  refine bF (fun m s=>∃(t:T) (J:Heap) (l:List Int) (c:C) (tm:Int),s=⟨t,[],J⟩∧LR J c 1 (fK l)∧(∀ a ∈ l,qp h lo a)∧akd h lo m tm l.length∧-2000≤tm∧t.g 0=ckV z g o∧t.g 1=vi lo∧t.g 4=.c c∧t.g 7=vi tm) 2
   ⟨_,_,[],_,lo+1080,rfl,LR.nil _ _,by simp,.inl ⟨rfl,rfl,rfl⟩,by omega,by simp,by simp,by simp,by simp⟩ ?_
  rintro m s ⟨t,J,l,c,tm,rfl,hL,hA,hI,ht0,g0,g1,g4,g7⟩ ih
  have ht1:tm≤500000:=by rcases hI with⟨-,e,-⟩ | ⟨-,e,-⟩ | ⟨-,e,-⟩<;>omega
  have hll:l.length≤2:=by rcases hI with⟨-,-,e⟩ | ⟨-,-,e,-⟩ | ⟨-,-,e,-⟩<;>omega
  obtain⟨r,hr,hlast⟩:=h.last g (t:=tm) (by omega) (by omega)
  obtain⟨r',hr',hoff⟩:=xC h g (t:=tm) (by omega) (by omega)
  obtain rfl:=I9 h hr hr'
  have hb:=h.offO hr
  have tail:∀(t:T) (J:Heap) (l:List Int) (c:C) (b8:Nat),LR J c 1 (fK l)→(∀ a ∈ l,qp h lo a)→akd h lo m tm 0→(m=2→l.length≤1)→l.length≤2→t.g 0=ckV z g o→t.g 1=vi lo→t.g 4=.c c→t.g 7=vi tm→t.g 8=.c (.ptr b8 0 0)→t.g 9=vb r.isSome →
    J[b8]?=some (.box ((r.getD ⟨0,0⟩).row.map .f) 0) →
    WP tab.get pF none [.code rH,.inBlock 1,.inLoop qR,.inBlock 0,.code lJ] ⟨t,[],J⟩ Q:=by
   clear hL hA hll g0 g1 g4 g7 hI
   intro t J l c b8 hL hA hI hl1 hll g0 g1 g4 g7 g8 g9 x8
   have fin:∀ t:T,t.g 4=.c c→WP tab.get pF none [.code lJ] ⟨t,[],J⟩ Q:=by
    intro t g4
    obtain⟨H',hso,l',hp,hL',-⟩:=QO hL hll
    have hso:=hso.eq
    refine ak (aj (.inl rfl) ?_)
    simp [g4,hso]
    refine ak (aj (.inl rfl) ?_)
    simp [g4]
    obtain⟨tg,hex⟩:=hL'.ex (AO _) 63
    refine aO (hQ _ _ (.t [.c (.f (sl tg (fK l'))),vi 0,vi 0]) ⟨l',tg,0,0,by rw [hp.length_eq];exact hll,fun a ha=>hA a (hp.subset ha),rfl⟩ ⟨rfl,.t [.c c,vi 0,vi 0],?_,?_⟩)
    ·simp [Km.results,resOne,bf]
    ·simp [exV,dw,bf,deep,hex]
   refine ak (ak (aj (.inl rfl) ?_))
   cases r with
   | none=>
    simp [g9]
    refine aA (by simp) (aZ rfl ?_)
    exact fin _ (by simp [g4])
   | some x=>
    simp [TrD.row]at x8
    have hw:IntKind.i64.wrap (lo-1080)=lo-1080:=wrap64 (by omega) (by omega)
    by_cases hx:x.at_<lo-1080
    ·simp [g9,g8,g1,x8,aQ,hw,hx]
     refine aA (by simp) (aZ rfl ?_)
     exact fin _ (by simp [g4])
    ·simp [g9,g8,g1,x8,aQ,hw,hx]
     refine ay (by simp) (aF ?_)
     have hxt:=hr.2.1
     have w1:IntKind.i64.wrap (x.at_-1)=x.at_-1:=wrap64 (by omega) (by omega)
     obtain⟨r2,hr2,aLd⟩:=xC h g (t:=x.at_-1) (by omega) (by omega)
     have hb2:=h.offO hr2
     have w2:IntKind.i64.wrap (x.at_+offO z r2)=x.at_+offO z r2:=wrap64 (by omega) (by omega)
     have hxo:=h.off hr.1
     have w3:IntKind.i64.wrap (x.at_+x.off)=x.at_+x.off:=wrap64 (by omega) (by omega)
     have hm0:m≠0:=by
      rintro rfl
      rcases hI with⟨e1,-⟩ | ⟨e1,-⟩ | ⟨-,-,-,e3⟩
      ·cases e1
      ·cases e1
      ·exact hx (e3 x hr.1 hxt)
     refine ak (ak (aj (.inl rfl) ?_))
     simp [g0,g8,x8,aQ,w1,aLd]
     refine ak (aj (.inl rfl) ?_)
     have next:∀ t:T,t.g 0=ckV z g o→t.g 1=vi lo→t.g 4=.c c→t.g 8=.c (.ptr b8 0 0)→WP tab.get pF none [.code Ep,.inBlock 1,.inLoop qR,.inBlock 0,.code lJ] ⟨t,[],J⟩ Q:=by
      intro t g0 g1 g4 g8
      refine aj (.inl rfl) ?_
      simp [g8,x8,aQ,w1]
      refine aI ?_
      have aLk:=axw h hr
      refine ih (m-1) _ (by omega) ⟨_,J,l,c,x.at_-1,rfl,hL,hA,?_,by omega,by simp [g0],by simp [g1],by simp [g4],by simp⟩
      rcases hI with⟨e1,e2,-⟩ | ⟨e1,e2,-,e3⟩ | ⟨e1,-⟩
      ·exact .inr (.inl ⟨by omega,by omega,hl1 e1,fun y hy h1=>by have:=aLk y hy h1;omega⟩)
      ·have:=e3 x hr.1 hxt
       exact .inr (.inr ⟨by omega,by omega,hll,fun y hy h1=>by have:=aLk y hy h1;omega⟩)
      ·omega
     by_cases h1:x.at_+offO z r2≤lo
     ·by_cases h2:lo<x.at_+x.off
      ·simp [g1,g8,x8,aQ,w2,w3,h1,h2]
       refine aA (by simp) (ak (aj (.inl rfl) ?_))
       simp [g8,x8,aQ]
       refine aO (hQ _ _ (.t [.c (.f (sl .nil (fK []))),vi x.at_,vi (offO z r2)]) ⟨[],.nil,_,_,by simp,by simp,rfl⟩ ⟨rfl,.t [.c (.f .aB),vi x.at_,vi (offO z r2)],?_,?_⟩)
       ·simp [Km.results,resOne,bf]
       ·simp [exV,dw,bf,sl,Tg.fc]
      ·simp [g1,g8,x8,aQ,w2,w3,h1,h2]
       refine ay (by simp) (aF ?_)
       exact next _ (by simp [g0]) (by simp [g1]) (by simp [g4]) (by simp [g8])
     ·simp [g1,w2,g8,x8,aQ,h1]
      refine ay (by simp) (aF ?_)
      exact next _ (by simp [g0]) (by simp [g1]) (by simp [g4]) (by simp [g8])
  refine aH (ak (aj (.inl rfl) ?_))
  simp [g0,g7,hlast,TrD.row]
  obtain⟨J1,hJ1⟩:∃ J1:Heap,J1=J++[.box [.f (fi (r.getD ⟨0,0⟩).at_),.f (fi (r.getD ⟨0,0⟩).off)] 0]:=⟨_,rfl⟩
  rw [←hJ1]
  have x8:J1[J.length]?=some (.box [.f (fi (r.getD ⟨0,0⟩).at_),.f (fi (r.getD ⟨0,0⟩).off)] 0):=by rw [hJ1];simp
  have hL1:LR J1 c 1 (fK l):=by rw [hJ1];exact hL.push _
  refine ak (aj (.inl rfl) ?_)
  simp [g0,g7,hoff]
  refine ak (ak (aj (.inl rfl) ?_))
  simp [g1,wrap64 (n:=lo-offO z r) (by omega) (by omega)]
  have hI0:akd h lo m tm 0:=by
   rcases hI with⟨e1,e2,-⟩ | ⟨e1,e2,-,e3⟩ | ⟨e1,e2,-,e3⟩
   ·exact .inl ⟨e1,e2,rfl⟩
   ·exact .inr (.inl ⟨e1,e2,by omega,e3⟩)
   ·exact .inr (.inr ⟨e1,e2,by omega,e3⟩)
  obtain⟨at_,hat⟩:∃ a,a=lo-offO z r:=⟨_,rfl⟩
  rw [←hat]
  have hm0:at_≤tm→m=2∧l.length=0∨m=1∧l.length≤1:=by
   intro hle
   rcases hI with⟨e1,e2,e3⟩ | ⟨e1,e2,e4,e3⟩ | ⟨e1,e2,-,e3⟩<;>omega
  have app:∀ t:T,at_≤tm→qp h lo at_→t.g 0=ckV z g o→t.g 1=vi lo→t.g 4=.c c→t.g 7=vi tm→t.g 8=.c (.ptr J.length 0 0)→t.g 9=vb r.isSome→t.g 11=vi at_ →
    WP tab.get pF none [.code Es,.code rH,.inBlock 1,.inLoop qR,.inBlock 0,.code lJ] ⟨t,[],J1⟩ Q:=by
   intro t hle hat' g0 g1 g4 g7 g8 g9 g11
   obtain⟨J2,hJ2⟩:∃ J2:Heap,J2=J1++[.box ([fi at_].map .f) 0]:=⟨_,rfl⟩
   have hL2:LR J2 c 1 (fK l):=by rw [hJ2];exact hL1.push _
   have hb2:J2[J1.length]?=some (.box ([fi at_].map .f) 0):=by rw [hJ2];simp
   have x8':J2[J.length]?=some (.box [.f (fi (r.getD ⟨0,0⟩).at_),.f (fi (r.getD ⟨0,0⟩).off)] 0):=by rw [hJ2,al (aN x8)];exact x8
   obtain⟨c3,J3,happ,hL3,hK3,hc3⟩:=hL2.app (AO l) (by decide) (row:=[fi at_]) rfl (bytes:=8) (iK (by simp;omega) (by decide)) hb2
   have x83:=hK3.2 _ _ x8' (hL2.dF x8')
   have hm:=hm0 hle
   refine aj (.inl rfl) ?_
   have e2:J1++[.box [.f (fi at_)] 0]=J2:=hJ2.symm
   simp [g4,g11]
   rw [e2]
   simp [happ]
   have e3:fK l++[[fi at_]]=fK (l++[at_]):=by simp
   rw [e3]at hL3
   refine tail _ J3 (l++[at_]) c3 J.length hL3 ?_ hI0 (fun e=>by rw [bN,List.length_singleton];omega) (by rw [bN,List.length_singleton];omega) (by simp [g0]) (by simp [g1]) (by simp) (by simp [g7]) (by simp [g8]) (by simp [g9]) (by simpa [TrD.row]using x83)
   intro a ha
   rcases bS.1 ha with ha | ha
   ·exact hA a ha
   ·simp at ha;subst ha;exact hat'
  have aBC:∀ t:T,t.g 0=ckV z g o→t.g 1=vi lo→t.g 4=.c c→t.g 7=vi tm→t.g 8=.c (.ptr J.length 0 0)→t.g 9=vb r.isSome →
    WP tab.get pF none [.code rH,.inBlock 1,.inLoop qR,.inBlock 0,.code lJ] ⟨t,[],J1⟩ Q:=by
   intro t g0 g1 g4 g7 g8 g9
   exact tail _ J1 l c J.length hL1 hA hI0 (by rcases hI with⟨e1,e2,e3⟩ | ⟨e1,e2,e4,e3⟩ | ⟨e1,e2,-,e3⟩<;>omega) hll g0 g1 g4 g7 g8 g9 (by simpa [TrD.row]using x8)
  refine ak (aj (.inl rfl) ?_)
  by_cases hle:at_≤tm
  ·cases r with
   | none=>
    simp [g7,hle]
    refine aA (by simp) ?_
    exact app _ hle (by rw [hat];exact Jb h hr (by omega)) (by simp [g0]) (by simp [g1]) (by simp [g4]) (by simp [g7]) (by simp) (by simp) (by simp)
   | some x=>
    simp at x8
    by_cases hx:x.at_≤at_
    ·simp [g7,hle,x8,aQ,hx]
     refine aA (by simp) ?_
     exact app _ hle (by rw [hat];exact Ja h hr (by omega) (by omega)) (by simp [g0]) (by simp [g1]) (by simp [g4]) (by simp [g7]) (by simp) (by simp) (by simp)
    ·simp [g7,hle,x8,aQ,hx]
     refine ay (by simp) (aF ?_)
     exact aBC _ (by simp [g0]) (by simp [g1]) (by simp [g4]) (by simp [g7]) (by simp) (by simp)
  ·simp [g7,hle]
   refine ay (by simp) (aF ?_)
   exact aBC _ (by simp [g0]) (by simp [g1]) (by simp [g4]) (by simp [g7]) (by simp) (by simp)
 exact⟨l,tg,e,b,hl,hA,hp.eq⟩
end Go.Proofs.YthfeogjbpgocbaaGreat
end
