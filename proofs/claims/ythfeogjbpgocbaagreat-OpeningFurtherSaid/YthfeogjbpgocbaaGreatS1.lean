/-
  What the program's functions and the reference's answer, for all arguments of their kind, in the small machine: part 1.
-/
import Derived.Test.YthfeogjbpgocbaaGreatTabB
import Derived.Test.YthfeogjbpgocbaaGreatK5
import Derived.KernelRfl
import Derived.Test.YthfeogjbpgocbaaGreatK4
open Int renaming ediv_nonneg → c8, ediv_le_self → en, tmod_eq_emod_of_nonneg → dk, emod_nonneg → b5, emod_lt_of_pos → cm, mul_ediv_add_emod → bN, mul_le_mul_of_nonneg_left → c9, emod_eq_zero_of_dvd → dt, toNat_of_nonneg → dE, le_refl → de, add_mul → dr, one_mul → dj, mul_comm → db, mul_nonneg → d8, natCast_zero → eo, add_zero → dc
open Nat renaming eq_of_beq_eq_true → cX, zero_add → cH, eq_zero_or_pos → cL, lt_or_eq_of_le → b9, le_refl → aw, le_of_ble_eq_true → cK, lt_trichotomy → bO
open List renaming all_eq_true → aM, append_assoc → c6, getElem?_append_left → ai, map_cons → aR, map_nil → bj, mem_cons → co, pairwise_cons → c5, mem_cons_self → aE, getElem?_eq_some_iff → al, length_append → bw, append_nil → c7, mem_singleton → cI, mem_append → ba, getElem?_eq_getElem → ae, getElem_mem → av, getElem?_eq_none_iff → cC, map_congr_left → df, mem_map → b7, pairwise_iff_getElem → cD, length_map → a9, getElem_map → dz, getElem?_set_ne → ag, getElem?_set_self → ax, take_of_length_le → bA, set_cons_succ → d7, find?_eq_some_iff_getElem → ec, find?_eq_none → eg, getElem_of_mem → bk, drop_eq_getElem_cons → cM, length_cons → cN, mem_cons_of_mem → a8, mem_append_left → cU
open Bool renaming false_eq_true → aL, and_eq_true → am, eq_iff_iff → du
open Option renaming map_eq_some_iff → an
set_option linter.unusedVariables false
set_option linter.unusedSimpArgs false
set_option linter.unusedSectionVars false
set_option linter.unnecessarySimpa false
section
namespace Go.Proofs.YthfeogjbpgocbaaGreat
open Go Km
theorem MW{a b:Int}(h:0≤a)(hb:0<b)(ha:a≤9223372036854775807):bU .quo (vi a) (vi b)=some (vi (a / b)):=by
 rw [Iq (by omega),Int.tdiv_eq_ediv_of_nonneg h,wrap64 (Int.le_trans (by omega) (c8 h (by omega))) (Int.le_trans (en _ h) ha)]
theorem oq{a b:Int}(h:0≤a)(hb:0<b):bU .rem (vi a) (vi b)=some (vi (a % b)):=by
 rw [TF (by omega),dk h]
theorem aFv{a b:Int}(h:a≤0)(hb:0<b)(ha:-9223372036854775807≤a):bU .quo (vi a) (vi b)=some (vi (-((-a) / b))):=by
 have h1:(-a) / b≤-a:=en _ (by omega)
 have h2:0≤(-a) / b:=c8 (by omega) (by omega)
 have h3:a.tdiv b = -((-a) / b):=by
  have:a = -(-a):=by omega
  rw [this,Int.neg_tdiv,Int.tdiv_eq_ediv_of_nonneg (by omega)]
  simp
 rw [Iq (by omega),h3,wrap64 (by omega) (by omega)]
theorem aja{a b:Int}(h:a≤0)(hb:0<b):bU .rem (vi a) (vi b)=some (vi (-((-a) % b))):=by
 have h3:a.tmod b = -((-a) % b):=by
  have:a = -(-a):=by omega
  rw [this,Int.neg_tmod,dk (by omega)]
  simp
 rw [TF (by omega),h3]
theorem KJ(a b:Int)(hb:1≤b)(ha:-4611686018427387904≤a)(ha':a≤4611686018427387904):Km.Pure tab.get alC [vi a,vi b]=Eq (.t [vi (a / b),vi 0]):=Km.Pure.eq (by
 refine cu aP5 rfl fun Q hQ=>?_
 refine ak (aj (.inl rfl) ?_)
 simp
 refine ak ?_
 refine ak (aj (.inl rfl) ?_)
 simp
 refine ay (by simp;omega) (aG ?_)
 by_cases h:0≤a
 ·refine ak (aj (.inl rfl) ?_)
  simp [MW h (show 0<b by omega) (by omega)]
  refine ak ?_
  refine ak (aj (.inl rfl) ?_)
  have:=b5 a (show b≠0 by omega)
  simp [oq h (show 0<b by omega)]
  refine ay (by simp;omega) (aG ?_)
  refine ak (aj (.inl rfl) ?_)
  simp
  refine aP (hQ _ _ ?_)
  simp
 ·refine ak (aj (.inl rfl) ?_)
  simp [aFv (show a≤0 by omega) (show 0<b by omega) (by omega)]
  refine ak ?_
  refine ak (aj (.inl rfl) ?_)
  have e:=b5 (-a) (show b≠0 by omega)
  have e2:=cm (-a) (show 0<b by omega)
  have h2:0≤(-a) / b:=c8 (by omega) (by omega)
  have h1:(-a) / b≤-a:=en _ (by omega)
  have e3:=bN (-a) b
  simp [aja (show a≤0 by omega) (show 0<b by omega)]
  by_cases h3:(-a) % b=0
  ·refine ay (by simp;omega) (aG ?_)
   refine ak (aj (.inl rfl) ?_)
   simp
   refine aP (hQ _ _ ?_)
   have:a / b = -(-a / b):=by
    refine Int.ediv_eq_of_eq_mul_right (by omega) ?_
    rw [Int.mul_neg];omega
   simp [this]
  ·refine aB (by simp;omega) ?_
   refine aj (.inl rfl) ?_
   simp [wrap64 (n:=-(-a / b)-1) (by omega) (by omega)]
   refine ak (aj (.inl rfl) ?_)
   simp
   refine aP (hQ _ _ ?_)
   have:a / b = -(-a / b)-1:=by
    have h5:=b5 a (show b≠0 by omega)
    have h6:=cm a (show 0<b by omega)
    have h7:=bN a b
    have h8:b*(a / b+(-a) / b+1)=b-a % b-(-a) % b:=by rw [Int.mul_add,Int.mul_add];omega
    have h9:a / b+(-a) / b+1=0:=by
     rcases Int.lt_trichotomy (a / b+(-a) / b+1) 0 with h | h | h
     ·have:b*(a / b+(-a) / b+1)≤b*(-1):=c9 (by omega) (by omega)
      omega
     ·exact h
     ·have:b*1≤b*(a / b+(-a) / b+1):=c9 (by omega) (by omega)
      omega
    omega
   simp [this])
theorem wX(a:Int):Km.Pure tab.get Dj [vi a]=Eq (vb false):=(show Kf tab.get Dj [vi a] (vb false) by
 refine jA aQe rfl fun H Q hQ=>?_
 refine ak (aj (.inl rfl) ?_)
 simp
 refine ak (aj (.inl rfl) ?_)
 simp
 refine aP (hQ _ _ ?_)
 simp).eq
def oH(a b:Int):Int:=if a<b then -1 else if b<a then 1 else 0
theorem Om(a b:Int):Kf tab.get EX [vi a,vi b] (vi (oH a b)):=by
 refine jA aQg rfl fun H Q hQ=>?_
 refine ak (aj (.inl rfl) ?_)
 simp
 refine ak (aj (.inl rfl) ?_)
 simp [wX]
 refine ak (aj (.inl rfl) ?_)
 simp [wX]
 refine ak ?_
 refine ak (aj (.inl rfl) ?_)
 simp
 refine ay (by simp) (aG ?_)
 refine ak ?_
 refine ak (aj (.inl rfl) ?_)
 simp
 refine ay (by simp) (aG ?_)
 refine ak ?_
 refine ak (aj (.inl rfl) ?_)
 simp
 by_cases h:a<b
 ·refine aB (by simp [h]) ?_
  refine ak (aj (.inl rfl) ?_)
  simp
  refine aP (hQ _ _ ?_)
  simp [oH,h]
 refine ay (by simp [h]) (aG ?_)
 refine ak ?_
 refine ak (aj (.inl rfl) ?_)
 simp
 by_cases h':b<a
 ·refine aB (by simp [h']) ?_
  refine ak (aj (.inl rfl) ?_)
  simp
  refine aP (hQ _ _ ?_)
  simp [oH,h,h']
 refine ay (by simp [h']) (aG ?_)
 refine ak (aj (.inl rfl) ?_)
 simp
 refine aP (hQ _ _ ?_)
 simp [oH,h,h']
theorem vP(a b:Int):Km.Pure tab.get EX [vi a,vi b]=Eq (vi (oH a b)):=(Om a b).eq
theorem xC{a b:Int}:oH a b<0↔a<b:=by unfold oH;split<;>(try split)<;>omega
theorem EM{a b:Int}:oH a b=0↔a=b:=by unfold oH;split<;>(try split)<;>omega
theorem azL(a b:Int)(hb:1≤b)(ha:-4611686018427387904≤a)(ha':a≤4611686018427387904)(hb':b≤4611686018427387904):Km.Pure tab.get alA [vi a,vi b]=Eq (vi (a % b)):=Km.Pure.eq (by
 refine cu aP3 rfl fun Q hQ=>?_
 have e:=b5 (-a) (show b≠0 by omega)
 have e2:=cm (-a) (show 0<b by omega)
 have f:=b5 a (show b≠0 by omega)
 have f2:=cm a (show 0<b by omega)
 refine ak (aj (.inl rfl) ?_)
 simp
 by_cases h:0≤a
 ·refine ak (aj (.inl rfl) ?_)
  simp [oq h (show 0<b by omega)]
  refine ak ?_
  refine ak (aj (.inl rfl) ?_)
  simp
  refine ay (by simp;omega) (aG ?_)
  refine ak (aj (.inl rfl) ?_)
  simp
  refine aP (hQ _ _ ?_)
  simp
 ·have key:a % b=if(-a) % b=0 then 0 else b-(-a) % b:=by
   have h1:=bN (-a) b
   have h2:=bN a b
   split
   ·rename_i h0
    have hd:b ∣ -a:=Int.dvd_of_emod_eq_zero h0
    exact dt (Int.dvd_neg.1 hd)
   ·rename_i h0
    rw [show a = -(-a) by omega,Int.neg_emod,Int.neg_neg,if_neg (fun hd=>h0 (dt hd))]
    rw [Int.natAbs_of_nonneg (by omega)]
  refine ak (aj (.inl rfl) ?_)
  simp [aja (show a≤0 by omega) (show 0<b by omega)]
  refine ak ?_
  refine ak (aj (.inl rfl) ?_)
  simp
  by_cases h3:(-a) % b=0
  ·refine ay (by simp;omega) (aG ?_)
   refine ak (aj (.inl rfl) ?_)
   simp
   refine aP (hQ _ _ ?_)
   rw [key,if_pos h3]
   simp [h3]
  ·refine aB (by simp;omega) ?_
   refine aj (.inl rfl) ?_
   simp [wrap64 (n:=-(-a % b)+b) (by omega) (by omega)]
   refine ak (aj (.inl rfl) ?_)
   simp
   refine aP (hQ _ _ ?_)
   rw [key,if_neg h3]
   simp;omega)
theorem aId(a b:Int)(hb:1≤b)(ha:-4611686018427387904≤a)(ha':a≤4611686018427387904)(hb':b≤4611686018427387904):Km.Pure tab.get alB [vi a,vi b]=Eq (.t [vi (a % b),vi 0]):=Km.Pure.eq (by
 refine cu aP4 rfl fun Q hQ=>?_
 refine ak (aj (.inl rfl) ?_)
 simp
 refine ak ?_
 refine ak (aj (.inl rfl) ?_)
 simp
 refine ay (by simp;omega) (aG ?_)
 refine ak (aj (.inl rfl) ?_)
 simp [azL a b hb ha ha' hb']
 refine aP (hQ _ _ ?_)
 simp)
structure TrD where
 at_:Int
 off:Int
def TrD.row(x:TrD):List FC:=[fi x.at_,fi x.off]
def aT(l:List TrD):List (List FC):=l.map TrD.row
@[simp] theorem o9 (l:List TrD):(aT l).length=l.length:=by simp [aT]
theorem dF(l:List TrD):Grid 2 (aT l):=Grid.map fun _=>rfl
structure YrD where
 mo:Int
 wk:Int
 wd:Int
 mi:Int
 off:Int
def YrD.row(x:YrD):List FC:=[fi x.mo,fi x.wk,fi x.wd,fi x.mi,fi x.off]
def bT(l:List YrD):List (List FC):=l.map YrD.row
@[simp] theorem aEr (l:List YrD):(bT l).length=l.length:=by simp [bT]
theorem nM(l:List YrD):Grid 5 (bT l):=Grid.map fun _=>rfl
theorem DU{l:List YrD}{j:Nat}(hj:j<l.length):(bT l)[j]?=some l[j].row:=by simp [bT,hj]
structure aUl where
 ep:Int
 mo:FC
 le:Int
 ru:FC
structure aPR where
 cal:aUl
 start:Int
 tg:Tg
 tr:List TrD
 hor:Int
 yg:Tg
 yr:List YrD
structure aV7 where
 z:aPR
 lg:Tg
 l:List TrD
 cyc:Int
theorem Gf(m:Int):unV .neg (.c (.f (.int .i64 m)))=some (vi (IntKind.i64.wrap (0-m))):=rfl
theorem TW(n m:Int)(h0:0≤m)(h1:m≤4611686018427387904):Km.Pure tab.get qm [vi n,vi m]=Eq (vb (decide (-m≤n)&&decide (n≤m))):=Km.Pure.eq (by
 refine cu aJ1 rfl fun Q hQ=>?_
 refine ak (aj (.inl rfl) ?_)
 simp
 by_cases h:-m≤n
 ·refine ak (aj (.inl rfl) ?_)
  simp [Gf,wrap64 (n:=-m) (by omega) (by omega),h]
  refine aP (hQ _ _ ?_)
  simp [h]
 ·refine ak (aj (.inl rfl) ?_)
  simp [Gf,wrap64 (n:=-m) (by omega) (by omega),h]
  refine aP (hQ _ _ ?_)
  simp [h])
end Go.Proofs.YthfeogjbpgocbaaGreat
end
section
namespace Go.Proofs.YthfeogjbpgocbaaGreat
open Go Km
def jL:Nat→List FC
 | 0=>[fi 2,.fs [fi 7,fi 6] 2,fi (-1),.aA]
 | k+1=>[fi 5,.fs [fi 7,fi 8] 2,fi 1,.fs [fi 2,fi (k:Nat),.bool true] 1]
def oC(c y m:Nat):Nat:=match c,m with
 | 0,1=>7
 | 0,_=>6
 | _+1,1=>7
 | k+1,_=>if y % 2=k then 9 else 8
def xX(c y:Nat):Nat:=oC c y 1+oC c y 2
def aOG:Nat→Nat
 | 0=>1
 | _=>2
def lI:Nat→Nat
 | 0=>13
 | _=>31
abbrev oI(c:Nat):V:=.a ((jL c).map .f)
def isI(r:Option (V × Heap))(n:Nat):Bool:=match r with
 | some (.c (.f (.int .i64 (.ofNat k))),_)=>Nat.beq k n
 | _=>false
theorem BP{r:Option (V × Heap)}{n:Nat}(h:isI r n=true):r.map (·.1)=some (vi (n:Nat)):=by
 unfold isI at h
 split at h
 ·rw [cX h];rfl
 ·cases h
theorem G5:((List.range 3).all fun c=>(List.range 14).all fun y=>(List.range 2).all fun m=>isI (CF tab.get 300 30 (.fn VT) [oI c,vi ((y+1:Nat):Nat),vi ((m+1:Nat):Nat)] []) (oC c (y+1) (m+1)))=true:=by kernel_rfl
theorem I7:((List.range 3).all fun c=>(List.range 14).all fun y=>isI (CF tab.get 300 30 (.fn aLf) [oI c,vi ((y+1:Nat):Nat)] []) (xX c (y+1)))=true:=by kernel_rfl
theorem DJ:((List.range 3).all fun c=>(List.range 14).all fun y=>(List.range 2).all fun m=>isI (CF tab.get 300 30 (.fn y7) [oI c,vi ((y+1:Nat):Nat),vi ((m+1:Nat):Nat)] []) (oC c (y+1) (m+1)))=true:=by kernel_rfl
theorem F7:((List.range 3).all fun c=>(List.range 14).all fun y=>isI (CF tab.get 300 30 (.fn Pg) [oI c,vi ((y+1:Nat):Nat)] []) (xX c (y+1)))=true:=by kernel_rfl
theorem fM{p:Nat→Bool}{n k:Nat}(h:(List.range n).all p=true)(hk:k<n):p k=true:=aM.1 h k (List.mem_range.2 hk)
theorem zB{c y m:Nat}(hc:c<3)(h1:1≤y)(h2:y≤14)(h3:1≤m)(h4:m≤2):Km.Pure tab.get VT [oI c,vi (y:Nat),vi (m:Nat)]=Eq (vi (oC c y m:Nat)):=by
 obtain⟨y,rfl⟩:∃ k,y=k+1:=⟨y-1,by omega⟩
 obtain⟨m,rfl⟩:∃ k,m=k+1:=⟨m-1,by omega⟩
 have h:=fM (fM (fM G5 hc) (show y<14 by omega)) (show m<2 by omega)
 exact(iw (BP h)).eq
theorem LX{c y:Nat}(hc:c<3)(h1:1≤y)(h2:y≤14):Km.Pure tab.get aLf [oI c,vi (y:Nat)]=Eq (vi (xX c y:Nat)):=by
 obtain⟨y,rfl⟩:∃ k,y=k+1:=⟨y-1,by omega⟩
 have h:=fM (fM I7 hc) (show y<14 by omega)
 exact(iw (BP h)).eq
theorem wK{c y m:Nat}(hc:c<3)(h1:1≤y)(h2:y≤14)(h3:1≤m)(h4:m≤2):Km.Pure tab.get y7 [oI c,vi (y:Nat),vi (m:Nat)]=Eq (vi (oC c y m:Nat)):=by
 obtain⟨y,rfl⟩:∃ k,y=k+1:=⟨y-1,by omega⟩
 obtain⟨m,rfl⟩:∃ k,m=k+1:=⟨m-1,by omega⟩
 have h:=fM (fM (fM DJ hc) (show y<14 by omega)) (show m<2 by omega)
 exact(iw (BP h)).eq
theorem I8{c y:Nat}(hc:c<3)(h1:1≤y)(h2:y≤14):Km.Pure tab.get Pg [oI c,vi (y:Nat)]=Eq (vi (xX c y:Nat)):=by
 obtain⟨y,rfl⟩:∃ k,y=k+1:=⟨y-1,by omega⟩
 have h:=fM (fM F7 hc) (show y<14 by omega)
 exact(iw (BP h)).eq
theorem Jd:((List.range 600).all fun k=>isI (CF tab.get 60 30 (.fn aA0) [vi ((k:Nat)-300)] []) (((k:Int)-300) % 7).toNat)=true:=by kernel_rfl
theorem Au{n:Int}(h:-300≤n)(h':n<300):Km.Pure tab.get aA0 [vi n]=Eq (vi (n % 7)):=by
 obtain⟨k,hk⟩:∃ k:Nat,(k:Int)-300=n:=⟨(n+300).toNat,by omega⟩
 have h1:=fM Jd (show k<600 by omega)
 have h2:=(iw (BP h1)).eq
 rw [hk]at h2
 rwa [dE (b5 n (by omega))]at h2
theorem DN{c:Nat}(hc:c<3):Km.Pure tab.get aQn [oI c]=Eq (vb true):=by
 have:c=0∨c=1∨c=2:=by omega
 rcases this with rfl | rfl | rfl<;>exact Km.Pure.eq (lS (m:=300) (d:=30) (by kernel_rfl))
theorem Ua{c:Nat}(hc:c<3):Km.Pure tab.get amc [oI c]=Eq (vb true):=by
 have:c=0∨c=1∨c=2:=by omega
 rcases this with rfl | rfl | rfl<;>exact Km.Pure.eq (lS (m:=300) (d:=30) (by kernel_rfl))
theorem DR{c:Nat}(hc:c<3):Km.Pure tab.get aQo [oI c]=Eq (.t [vi (aOG c:Nat),vi (lI c:Nat),vi 0]):=by
 have:c=0∨c=1∨c=2:=by omega
 rcases this with rfl | rfl | rfl<;>exact Km.Pure.eq (lS (m:=300) (d:=30) (by kernel_rfl))
theorem Vw{c:Nat}(hc:c<3):Km.Pure tab.get amd [oI c]=Eq (.t [vi (aOG c:Nat),vi (lI c:Nat),vi 0]):=by
 have:c=0∨c=1∨c=2:=by omega
 rcases this with rfl | rfl | rfl<;>exact Km.Pure.eq (lS (m:=300) (d:=30) (by kernel_rfl))
end Go.Proofs.YthfeogjbpgocbaaGreat
end
section
namespace Go.Proofs.YthfeogjbpgocbaaGreat
open Go Km
structure YrD.OK(x:YrD):Prop where
 mo:x.mo=1∨x.mo=2
 wk:x.wk=1∨x.wk=5
 wd0:0≤x.wd
 wd:x.wd≤6
 mi0:0≤x.mi
 mi:x.mi≤1439
 of0:-1080≤x.off
 of:x.off≤1080
def fmD(c y:Nat)(b:Int)(x:YrD):Int:=if x.mo=2 then b+oC c y 1 else b
def mlD(c y:Nat)(x:YrD):Int:=oC c y x.mo.toNat
def oD(fm ml wk wd:Int):Int:=if wk=5 then fm+ml-1-(fm+ml-1-wd) % 7 else fm+(wd-fm) % 7
def kF(fm ml wk wd:Int):Bool:=if wk=5 then decide (fm≤oD fm ml wk wd)else decide (oD fm ml wk wd<fm+ml)
theorem jG(c y m:Nat):oC c y m≤9:=by unfold oC;split<;>(try split)<;>omega
theorem wP(c y m:Nat):6≤oC c y m:=by unfold oC;split<;>(try split)<;>omega
set_option maxRecDepth 100000 in
theorem LY{c y:Nat}(hc:c<3)(hy:1≤y)(hy':y≤14){b:Int}(hb:0≤b)(hb':b≤260)(x:YrD)(hx:x.OK) :
  Km.Pure tab.get OT [oI c,vi b,vi (y:Nat),.a (x.row.map .f)]=Eq (.t [vi (oD (fmD c y b x) (mlD c y x) x.wk x.wd),vb (kF (fmD c y b x) (mlD c y x) x.wk x.wd)]):=Km.Pure.eq (by
 obtain⟨hm,hw,w0,w6,-,-,-,-⟩:=hx
 have e1:=zB hc hy hy' (m:=1) (by omega) (by omega)
 have e2:=zB hc hy hy' (m:=2) (by omega) (by omega)
 have k1:=jG c y 1
 have k2:=jG c y 2
 have hml:=jG c y x.mo.toNat
 have aTb:=wP c y x.mo.toNat
 have e3:Km.Pure tab.get VT [oI c,vi (y:Nat),vi x.mo]=Eq (vi (mlD c y x)):=by
  rcases hm with h | h
  ·unfold mlD;rw [h];exact e1
  ·unfold mlD;rw [h];exact e2
 have hq:mlD c y x=(oC c y x.mo.toNat:Nat):=rfl
 have hfm:b≤fmD c y b x∧fmD c y b x≤b+9:=by unfold fmD;split<;>omega
 generalize hF:fmD c y b x=fm at *
 generalize hM:mlD c y x=ml at *
 refine cu aJ0 rfl fun Q hQ=>?_
 refine ak (aj (.inl rfl) ?_)
 simp
 refine ak ?_
 refine ak (aj (.inl rfl) ?_)
 simp
 refine aN ?_
 have cl:∀ z:Blk,ldV [.box ((jL c).map .f) 0,z] (some 4) (.c (.ptr 0 0 0))=some (oI c):=by
  intro z
  have:c=0∨c=1∨c=2:=by omega
  rcases this with rfl | rfl | rfl<;>rfl
 have ly:∀ z:Blk,ldV [z,.box [.f (fi x.mo),.f (fi x.wk),.f (fi x.wd),.f (fi x.mi),.f (fi x.off)] 0] none (.c (.ptr 1 0 0))=some (vi x.mo):=fun _=>rfl
 refine bK (fun n s=>∃(m:Nat) (t:T) (bm:Int),s=⟨t,[],[.box ((jL c).map .f) 0,.box (x.row.map .f) 0]⟩∧n=2-m∧(m=1∧bm=b∨m=2∧x.mo=2∧bm=b+(oC c y 1:Nat))∧t.g 1=vi bm∧t.g 2=vi (y:Nat)∧t.g 4=.c (.ptr 0 0 0)∧t.g 7=.c (.ptr 1 0 0)∧t.g 10=vi (m:Nat)) 1
  ⟨1,_,b,rfl,rfl,.inl ⟨rfl,rfl⟩,by simp,by simp,by simp,by simp,by simp⟩ ?_
 rintro n s ⟨m,t,bm,rfl,rfl,hmb,g1,g2,g4,g7,g10⟩ ih
 refine ak ?_
 refine ak (aj (.inl rfl) ?_)
 simp [g10,g7,YrD.row]
 by_cases hlt:(m:Int)<x.mo
 ·have m1:m=1:=by omega
  subst m1
  have hbm:bm=b:=by omega
  subst hbm
  refine aB (by simp;omega) (aG ?_)
  refine ak ?_
  refine aN ?_
  refine aj (.inl rfl) ?_
  have e1':Km.Pure tab.get VT [oI c,vi (y:Nat),vi 1]=Eq (vi (oC c y 1:Nat)):=e1
  simp [g10,g1,g2,g4,cl,-aH,e1',wrap64 (n:=bm+(oC c y 1:Nat)) (by omega) (by omega),YrD.row]
  refine aK ?_
  refine aj (.inl rfl) ?_
  simp [g10]
  refine ih 0 _ (by omega) ⟨2,_,_,rfl,by omega,.inr ⟨rfl,by omega,rfl⟩,?_,?_,?_,?_,?_⟩<;>simp [g2,g4,g7,show IntKind.i64.wrap 2=2 from rfl]
 ·have hbf:bm=fm:=by
   rw [←hF];unfold fmD
   rcases hmb with⟨rfl,rfl⟩ | ⟨rfl,h2,rfl⟩
   ·rw [if_neg (by omega)]
   ·rw [if_pos h2]
  subst hbf
  refine ay (by simp;omega) ?_
  refine bf (k':=[.code EY]) rfl ?_
  refine ak (aj (.inl rfl) ?_)
  have hp:ml≤9:=by omega
  have hp0:6≤ml:=by omega
  simp [g1,g2,g4,g7,cl,ly,-aH,e3,wrap64 (n:=bm+ml) (by omega) (by omega)]
  refine ak (aj (.inl rfl) ?_)
  have q0:=b5 (x.wd-bm) (show(7:Int)≠0 by omega)
  have q1:=cm (x.wd-bm) (show(0:Int)<7 by omega)
  simp [g1,g7,wrap64 (n:=x.wd-bm) (by omega) (by omega),Au (n:=x.wd-bm) (by omega) (by omega),wrap64 (n:=bm+(x.wd-bm) % 7) (by omega) (by omega)]
  refine ak ?_
  refine ak (aj (.inl rfl) ?_)
  simp [g7]
  by_cases h5:x.wk=5
  ·refine aB (by simp [h5]) ?_
   have r0:=b5 (bm+ml-1-x.wd) (show(7:Int)≠0 by omega)
   have r1:=cm (bm+ml-1-x.wd) (show(0:Int)<7 by omega)
   refine ak (aj (.inl rfl) ?_)
   simp [g7,wrap64 (n:=bm+ml-1) (by omega) (by omega),wrap64 (n:=bm+ml-1-x.wd) (by omega) (by omega),Au (n:=bm+ml-1-x.wd) (by omega) (by omega),wrap64 (n:=bm+ml-1-(bm+ml-1-x.wd) % 7) (by omega) (by omega)]
   refine ak (aj (.inl rfl) ?_)
   simp [g1]
   refine aP (hQ _ _ ?_)
   simp [oD,kF,h5]
  ·have h1:x.wk=1:=by omega
   refine ay (by simp [h5]) (aG ?_)
   refine ak (aj (.inl rfl) ?_)
   simp [g7,h1,wrap64 (n:=(0:Int)) (by omega) (by omega),wrap64 (n:=bm+(x.wd-bm) % 7) (by omega) (by omega)]
   refine ak (aj (.inl rfl) ?_)
   simp
   refine aP (hQ _ _ ?_)
   simp [oD,kF,h1])
end Go.Proofs.YthfeogjbpgocbaaGreat
end
section
namespace Go.Proofs.YthfeogjbpgocbaaGreat
open Go Km
set_option maxRecDepth 100000 in
theorem aAt{c y:Nat}(hc:c<3)(hy:1≤y)(hy':y≤14){b:Int}(hb:0≤b)(hb':b≤260)(x:YrD)(hx:x.OK) :
  Km.Pure tab.get IX [oI c,vi b,vi (y:Nat),.a (x.row.map .f)]=Eq (.t [vi (if kF (fmD c y b x) (mlD c y x) x.wk x.wd then oD (fmD c y b x) (mlD c y x) x.wk x.wd else -1),vb (kF (fmD c y b x) (mlD c y x) x.wk x.wd)]):=Km.Pure.eq (by
 obtain⟨hm,hw,w0,w6,-,-,-,-⟩:=hx
 have e1:=wK hc hy hy' (m:=1) (by omega) (by omega)
 have e2:=wK hc hy hy' (m:=2) (by omega) (by omega)
 have k1:=jG c y 1
 have k2:=jG c y 2
 have hml:=jG c y x.mo.toNat
 have aTb:=wP c y x.mo.toNat
 have e3:Km.Pure tab.get y7 [oI c,vi (y:Nat),vi x.mo]=Eq (vi (mlD c y x)):=by
  rcases hm with h | h
  ·unfold mlD;rw [h];exact e1
  ·unfold mlD;rw [h];exact e2
 have hq:mlD c y x=(oC c y x.mo.toNat:Nat):=rfl
 have hfm:b≤fmD c y b x∧fmD c y b x≤b+9:=by unfold fmD;split<;>omega
 generalize hF:fmD c y b x=fm at *
 generalize hM:mlD c y x=ml at *
 refine cu aK1 rfl fun Q hQ=>?_
 refine ak (aj (.inl rfl) ?_)
 simp
 refine ak (aj (.inl rfl) ?_)
 simp
 refine ak ?_
 refine ak (aj (.inl rfl) ?_)
 simp
 refine aN ?_
 have cl:∀ z:Blk,ldV [.box ((jL c).map .f) 0,z] (some 4) (.c (.ptr 0 0 0))=some (oI c):=by
  intro z
  have:c=0∨c=1∨c=2:=by omega
  rcases this with rfl | rfl | rfl<;>rfl
 have ly:∀ z:Blk,ldV [z,.box [.f (fi x.mo),.f (fi x.wk),.f (fi x.wd),.f (fi x.mi),.f (fi x.off)] 0] none (.c (.ptr 1 0 0))=some (vi x.mo):=fun _=>rfl
 refine bK (fun n s=>∃(m:Nat) (t:T) (bm:Int),s=⟨t,[],[.box ((jL c).map .f) 0,.box (x.row.map .f) 0]⟩∧n=2-m∧(m=1∧bm=b∨m=2∧x.mo=2∧bm=b+(oC c y 1:Nat))∧t.g 10=vi bm∧t.g 2=vi (y:Nat)∧t.g 4=.c (.ptr 0 0 0)∧t.g 7=.c (.ptr 1 0 0)∧t.g 11=vi (m:Nat)) 1
  ⟨1,_,b,rfl,rfl,.inl ⟨rfl,rfl⟩,by simp,by simp,by simp,by simp,by simp⟩ ?_
 rintro n s ⟨m,t,bm,rfl,rfl,hmb,g1,g2,g4,g7,g10⟩ ih
 refine ak ?_
 refine ak (aj (.inl rfl) ?_)
 simp [g10,g7,YrD.row]
 by_cases hlt:(m:Int)<x.mo
 ·have m1:m=1:=by omega
  subst m1
  have hbm:bm=b:=by omega
  subst hbm
  refine aB (by simp;omega) (aG ?_)
  refine ak ?_
  refine aN ?_
  refine aj (.inl rfl) ?_
  have e1':Km.Pure tab.get y7 [oI c,vi (y:Nat),vi 1]=Eq (vi (oC c y 1:Nat)):=e1
  simp [g10,g1,g2,g4,cl,-aH,e1',wrap64 (n:=bm+(oC c y 1:Nat)) (by omega) (by omega),YrD.row]
  refine aK ?_
  refine aj (.inl rfl) ?_
  simp [g10]
  refine ih 0 _ (by omega) ⟨2,_,_,rfl,by omega,.inr ⟨rfl,by omega,rfl⟩,?_,?_,?_,?_,?_⟩<;>simp [g2,g4,g7,show IntKind.i64.wrap 2=2 from rfl]
 have hbf:bm=fm:=by
  rw [←hF];unfold fmD
  rcases hmb with⟨rfl,rfl⟩ | ⟨rfl,h2,rfl⟩
  ·rw [if_neg (by omega)]
  ·rw [if_pos h2]
 subst hbf
 have hp:ml≤9:=by omega
 have hp0:6≤ml:=by omega
 refine ay (by simp;omega) ?_
 refine bf (k':=[.code FH]) rfl ?_
 refine ak (aj (.inl rfl) ?_)
 simp
 refine ak (aj (.inl rfl) ?_)
 simp
 refine ak ?_
 refine ak (aj (.inl rfl) ?_)
 simp [g1]
 refine aN ?_
 refine bK (fun n s=>∃(d cnt la:Int) (t:T),s=⟨t,[],[.box ((jL c).map .f) 0,.box [.f (fi x.mo),.f (fi x.wk),.f (fi x.wd),.f (fi x.mi),.f (fi x.off)] 0]⟩∧n=(bm+ml-d).toNat∧bm≤d∧d≤bm+ml∧0≤cnt∧cnt≤d-bm ∧
   (x.wk=1→cnt=0∧la = -1∧d≤bm+(x.wd-bm) % 7)∧(x.wk=5→la=if bm≤d-1-(d-1-x.wd) % 7 then d-1-(d-1-x.wd) % 7 else -1) ∧
   t.g 2=vi (y:Nat)∧t.g 4=.c (.ptr 0 0 0)∧t.g 7=.c (.ptr 1 0 0)∧t.g 10=vi bm∧t.g 12=vi cnt∧t.g 13=vi la∧t.g 14=vi d) ml.toNat
  ⟨bm,0,-1,_,rfl,by omega,de _,by omega,by omega,by omega,fun _=>⟨rfl,rfl,by omega⟩,fun _=>(if_neg (by omega)).symm,by simp [g2],by simp [g4],by simp [g7],by simp [g1],by simp,by simp,by simp⟩ ?_
 clear ih
 rintro n s ⟨d,cnt,la,t,rfl,rfl,d0,d1,c0,c1,hk1,hk5,g2,g4,g7,g10,g12,g13,g14⟩ ih
 refine ak ?_
 refine ak (aj (.inl rfl) ?_)
 simp [g2,g4,g7,g10,g14,cl,ly,-aH,e3,wrap64 (n:=bm+ml) (by omega) (by omega)]
 by_cases hd:d<bm+ml
 case neg=>
  have hdd:d=bm+ml:=by omega
  subst hdd
  refine ay (by simp) ?_
  refine bf (k':=[.code zh]) rfl ?_
  rcases hw with hw | hw
  ·obtain⟨rfl,rfl,hk⟩:=hk1 hw
   refine ak (aj (.inl rfl) ?_)
   simp [g13,g7,hw]
   refine aP (hQ _ _ ?_)
   have:kF bm ml 1 x.wd=false:=by simp [kF,oD];omega
   simp [hw,this]
  ·have hla:=hk5 hw
   refine ak (aj (.inl rfl) ?_)
   simp [g13,g7,hw]
   refine aP (hQ _ _ ?_)
   by_cases h:bm≤bm+ml-1-(bm+ml-1-x.wd) % 7
   ·rw [if_pos h]at hla
    have e:kF bm ml 5 x.wd=true:=by simp [kF,oD];omega
    have e':oD bm ml 5 x.wd=la:=by simp [oD,hla]
    simp [hw,e,e']
    omega
   ·rw [if_neg h]at hla
    have e:kF bm ml 5 x.wd=false:=by simp [kF,oD];omega
    simp [hw,e,hla]
 refine aB (by simp;omega) (aG ?_)
 refine ak ?_
 refine aN ?_
 refine ak (aj (.inl rfl) ?_)
 have hr:bU .rem (vi d) (vi 7)=some (vi (d % 7)):=oq (by omega) (by omega)
 simp [g14,g7,hr]
 by_cases hit:d % 7=x.wd
 ·refine aB (by simp [hit]) ?_
  refine ak (aj (.inl rfl) ?_)
  simp [g12,wrap64 (n:=cnt+1) (by omega) (by omega)]
  refine ak (aj (.inl rfl) ?_)
  simp [g14]
  refine ak ?_
  rcases hw with hw | hw
  ·obtain⟨rfl,rfl,hk⟩:=hk1 hw
   refine aj (.inl rfl) ?_
   simp [g7,hw]
   refine aB (by simp) ?_
   refine ak (aj (.inl rfl) ?_)
   simp [g14]
   refine aP (hQ _ _ ?_)
   have e':oD bm ml 1 x.wd=d:=by simp [oD];omega
   have e:kF bm ml 1 x.wd=true:=by simp [kF,e',hd]
   simp [hw,e,e']
  ·have hla:=hk5 hw
   refine aj (.inl rfl) ?_
   have nxt:∀ t:T,t.g 2=vi (y:Nat)→t.g 4=.c (.ptr 0 0 0)→t.g 7=.c (.ptr 1 0 0)→t.g 10=vi bm→t.g 12=vi (cnt+1)→t.g 13=vi d→t.g 14=vi d →
     WP tab.get IX none [.code FB,.inLoop FD,.inBlock 2,.code zh] ⟨t,[],[.box ((jL c).map .f) 0,.box [.f (fi x.mo),.f (fi 5),.f (fi x.wd),.f (fi x.mi),.f (fi x.off)] 0]⟩ Q:=by
    intro t g2 g4 g7 g10 g12 g13 g14
    have eh:([.box ((jL c).map .f) 0,.box [.f (fi x.mo),.f (fi 5),.f (fi x.wd),.f (fi x.mi),.f (fi x.off)] 0]:Heap)=[.box ((jL c).map .f) 0,.box [.f (fi x.mo),.f (fi x.wk),.f (fi x.wd),.f (fi x.mi),.f (fi x.off)] 0]:=by rw [hw]
    rw [eh]
    refine aj (.inl rfl) ?_
    simp [g14,wrap64 (n:=d+1) (by omega) (by omega)]
    refine ih _ _ ?_ ⟨d+1,cnt+1,d,_,rfl,rfl,by omega,by omega,by omega,by omega,fun h=>by omega,fun _=>?_,by simp [g2],by simp [g4],by simp [g7],by simp [g10],by simp [g12],by simp [g13],by simp⟩
    ·omega
    ·rw [if_pos (by omega)];omega
   by_cases h5:cnt+1=5
   ·simp [g7,hw,h5]
    refine ay (by simp) (aG (aK (nxt _ ?_ ?_ ?_ ?_ ?_ ?_ ?_)))<;>simp [g2,g4,g7,g10,g14,h5]
   ·simp [g7,hw,h5]
    refine ay (by simp) (aG (aK (nxt _ ?_ ?_ ?_ ?_ ?_ ?_ ?_)))<;>simp [g2,g4,g7,g10,g14]
 ·refine ay (by simp [hit]) (aG (aK ?_))
  refine aj (.inl rfl) ?_
  simp [g14,wrap64 (n:=d+1) (by omega) (by omega)]
  refine ih _ _ ?_ ⟨d+1,cnt,la,_,rfl,rfl,by omega,by omega,by omega,by omega,fun h=>?_,fun h=>?_,by simp [g2],by simp [g4],by simp [g7],by simp [g10],by simp [g12],by simp [g13],by simp⟩
  ·omega
  ·obtain⟨a1,a2,a3⟩:=hk1 h
   exact⟨a1,a2,by omega⟩
  ·have hla:=hk5 h
   rw [hla,show d+1-1=d by omega,show d-1-(d-1-x.wd) % 7=d-(d-x.wd) % 7 by omega])
end Go.Proofs.YthfeogjbpgocbaaGreat
end
section
namespace Go.Proofs.YthfeogjbpgocbaaGreat
open Go Km
def alv(t:TrD)(l o:List TrD):Prop:=∃ A B,l=A++B∧o=A++t::B∧(∀ x ∈ B,t.at_<x.at_)∧∀ x,A.getLast?=some x→x.at_≤t.at_
theorem iy{n b:Nat}(hn:n≤1100000)(hb:b≤4096):bV n b=true:=by
 have h:(2*n+768)*b≤2200768*4096:=Nat.mul_le_mul (by omega) hb
 simp [bV]
 omega
theorem fD{l:List TrD}{j:Nat}{x:TrD}(h:l[j]?=some x):(aT l)[j]?=some x.row:=by simp [aT,h]
theorem vw(l:List TrD)(j:Nat)(x:TrD):(aT l).set j x.row=aT (l.set j x):=by simp [aT,List.map_set]
@[simp] theorem TrD.Aa (x:TrD):x.row.length=2:=rfl
set_option maxRecDepth 100000 in
theorem Vf{H:Heap}{c:C}{l:List TrD}(hL:LR H c 2 (aT l))(hl:l.length≤1000)(x:TrD) :
  ∃ o c' H',alv x l o∧Ev tab.get (.fn Dn) [.c c,.a (x.row.map .f)] H (.c c') H'∧LR H' c' 2 (aT o)∧Kb H H' c∧(cO c'=cO c∨∃ i,cO c'=some i∧H.length≤i):=by
 suffices h:∃ r H',Ev tab.get (.fn Dn) [.c c,.a (x.row.map .f)] H r H'∧∃ o c',r=.c c'∧alv x l o∧LR H' c' 2 (aT o)∧Kb H H' c∧(cO c'=cO c∨∃ i,cO c'=some i∧H.length≤i) by
  obtain⟨r,H',h1,o,c',rfl,h2,h3,h4,h5⟩:=h
  exact⟨o,c',H',h2,h1,h3,h4,h5⟩
 refine iT aKZ rfl fun Q hQ=>?_
 refine ak (aj (.inl rfl) ?_)
 simp [TrD.row]
 obtain⟨H1,hH1⟩:∃ H1:Heap,H1=H++[.box [.f (fi x.at_),.f (fi x.off)] 0]:=⟨_,rfl⟩
 rw [←hH1]
 have b1:H1[H.length]?=some (.box [.f (fi x.at_),.f (fi x.off)] 0):=by rw [hH1];simp
 have l1:H1.length=H.length+1:=by rw [hH1];simp
 obtain⟨H2,hH2⟩:∃ H2:Heap,H2=H1++[.box (x.row.map .f) 0]:=⟨_,rfl⟩
 have hL2:LR H2 c 2 (aT l):=by rw [hH2,hH1];exact(hL.push _).push _
 have hb2:H2[H1.length]?=some (.box (x.row.map .f) 0):=by rw [hH2];simp
 obtain⟨c3,H3,happ,hL3,hK3,hc3⟩:=hL2.app (dF _) (by decide) (row:=x.row) rfl (bytes:=16) (iy (by simp;omega) (by decide)) hb2
 have l2:H2.length=H.length+2:=by rw [hH2];simp [l1]
 have hK:Kb H H3 c:=⟨by have:=hK3.1;omega,fun i y hy hn=>hK3.2 i y (by rw [hH2,hH1,c6,ai (aF hy)];exact hy) hn⟩
 have aOk:cO c3=cO c∨∃ i,cO c3=some i∧H.length≤i:=hc3.imp id fun h=>⟨_,h,by omega⟩
 refine ak (aj (.inl rfl) ?_)
 have e2:H1++[.box [.f (fi x.at_),.f (fi x.off)] 0]=H2:=hH2.symm
 simp [b1,aS]
 rw [e2]
 simp [happ]
 rcases hL3 with⟨h,_⟩ | ⟨_,b,ep,rfl,hb⟩
 ·simp at h
 have e3:aT l++[x.row]=aT (l++[x]):=by simp [aT]
 rw [e3]at hb
 refine ak ?_
 refine ak (aj (.inl rfl) ?_)
 simp [hb.len]
 refine aN ?_
 clear hK3 hc3
 refine bK (fun n s=>∃(A B:List TrD) (t:T) (J:Heap),s=⟨t,[],J⟩∧n=A.length∧l=A++B∧(∀ z ∈ B,x.at_<z.at_)∧RB J b 2 ep (aT (A++x::B))∧Fm b H3 J∧t.g 5=.c (.sl b 0 (l.length+1) 0 ep 2)∧t.g 6=vi A.length) l.length
  ⟨l,[],_,H3,rfl,rfl,by simp,by simp,hb,Fm.refl _,by simp,by simp;exact wrap64 (by omega) (by omega)⟩ ?_
 rintro n s ⟨A,B,t,J,rfl,rfl,hAB,hB,hJ,hF,g5,g6⟩ ih
 have hlen:l.length=A.length+B.length:=by rw [hAB];simp
 refine ak ?_
 have fin:(∀ z,A.getLast?=some z→z.at_≤x.at_)→∀ t:T,t.g 5=.c (.sl b 0 (l.length+1) 0 ep 2)→WP tab.get Dn none [.code uj] ⟨t,[],J⟩ Q:=by
  intro hlast t g5
  refine ak (aj (.inl rfl) ?_)
  simp [g5]
  refine aP (hQ _ _ (.c (.sl b 0 (l.length+1) 0 ep 2)) rfl (res_one (by simp)) ⟨A++x::B,_,rfl,⟨A,B,hAB,rfl,hB,hlast⟩,.inr ⟨by simp [aT],b,ep,?_,hJ⟩,?_,?_⟩)
  ·simp [hlen];omega
  ·refine⟨Nat.le_trans hK.1 hF.1,fun i y hy hn=>?_⟩
   have h1:=hK.2 i y hy hn
   refine hF.get h1 ?_
   rintro rfl
   rcases aOk with e | ⟨k,e,hk⟩
   ·exact hn (by rw [←e];rfl)
   ·cases e;have:=aF hy;omega
  ·exact aOk
 have hgr:=dF (A++x::B)
 cases hA:A.getLast? with
 | none=>
  have hA0:A=[]:=by simpa using hA
  subst hA0
  refine ak (aj (.inl rfl) ?_)
  simp [g6]
  refine ay (by simp) ?_
  refine bf (k':=[.code uj]) rfl ?_
  exact fin (by simp) _ (by simp [g5])
 | some z=>
  obtain⟨A',rfl⟩:∃ A',A=A'++[z]:=by
   obtain⟨A',e⟩:=List.getLast?_eq_some_iff.1 hA
   exact⟨A',e⟩
  have hal:(A'++[z]).length=A'.length+1:=by simp
  rw [hal]at hlen
  have gz:(A'++[z]++x::B)[A'.length]?=some z:=by simp
  have gx:(A'++[z]++x::B)[A'.length+1]?=some x:=by
   rw [List.getElem?_append_right (by simp)];simp
  have iz:aU J 2 none (.c (.sl b 0 (l.length+1) 0 ep 2)) (vi A'.length)=some (.c (.ptr b (A'.length*2) ep)):=by
   have:=hJ.idx (n:=l.length+1) (c:=0) (k:=.i64) (o:=0) (i:=(A'.length:Int)) (by omega) (by omega)
   simpa using this
  have ix:aU J 2 none (.c (.sl b 0 (l.length+1) 0 ep 2)) (vi ((A'.length:Int)+1))=some (.c (.ptr b ((A'.length+1)*2) ep)):=by
   have:=hJ.idx (n:=l.length+1) (c:=0) (k:=.i64) (o:=0) (i:=(A'.length:Int)+1) (by omega) (by omega)
   rw [cH,show((A'.length:Int)+1).toNat=A'.length+1 by omega]at this
   exact this
  have cz:=hJ.ldc hgr (fD gz) (k:=0) (x:=fi z.at_) rfl
  have cx:=hJ.ldc hgr (fD gx) (k:=0) (x:=fi x.at_) rfl
  simp only [Nat.add_zero]at cz cx
  have w1:IntKind.i64.wrap (A'.length:Int)=A'.length:=wrap64 (by omega) (by omega)
  refine ak (aj (.inl rfl) ?_)
  simp [g5,g6,hal,show(0:Int)<(A'.length:Int)+1 by omega,w1,iz,ix,cz,cx,-aH]
  by_cases hlt:x.at_<z.at_
  case neg=>
   refine ay (by simp [hlt]) ?_
   refine bf (k':=[.code uj]) rfl ?_
   exact fin (fun w hw=>by rw [hA]at hw;cases hw;omega) _ (by simp [g5])
  refine aB (by simp [hlt]) (aG ?_)
  refine ak ?_
  refine aN ?_
  have rx:=hJ.ldr hgr (fD gx)
  refine ak (aj (.inl rfl) ?_)
  simp [g5,g6,hal,ix,rx,-aH,TrD.row]
  obtain⟨J1,hJ1⟩:∃ J1:Heap,J1=J++[.box [.f (fi x.at_),.f (fi x.off)] 0]:=⟨_,rfl⟩
  have hJb:RB J1 b 2 ep (aT (A'++[z]++x::B)):=by rw [hJ1];exact hJ.push _
  have bxl:J1[J.length]?=some (.box [.f (fi x.at_),.f (fi x.off)] 0):=by rw [hJ1];simp
  have hbl:=hJ.lt
  rw [←hJ1]
  have ixg:∀ {K:Heap} {rows:List (List FC)} (_:RB K b 2 ep rows),aU K 2 none (.c (.sl b 0 (l.length+1) 0 ep 2)) (vi ((A'.length:Int)+1))=some (.c (.ptr b ((A'.length+1)*2) ep)):=fun hK=>by
   have:=hK.idx (n:=l.length+1) (c:=0) (k:=.i64) (o:=0) (i:=(A'.length:Int)+1) (by omega) (by omega)
   rw [cH,show((A'.length:Int)+1).toNat=A'.length+1 by omega]at this
   exact this
  have izg:∀ {K:Heap} {rows:List (List FC)} (_:RB K b 2 ep rows),aU K 2 none (.c (.sl b 0 (l.length+1) 0 ep 2)) (vi A'.length)=some (.c (.ptr b (A'.length*2) ep)):=fun hK=>by
   have:=hK.idx (n:=l.length+1) (c:=0) (k:=.i64) (o:=0) (i:=(A'.length:Int)) (by omega) (by omega)
   simpa using this
  have rz:=hJb.ldr hgr (fD gz)
  obtain⟨J2,s1,hJ2,f12,n12⟩:=hJb.str (j:=A'.length+1) (row:=z.row) hgr (by simp) rfl
  have aTc:Grid 2 ((aT (A'++[z]++x::B)).set (A'.length+1) z.row):=by rw [vw];exact dF _
  obtain⟨J3,s2,hJ3,f23,n23⟩:=hJ2.str (j:=A'.length) (row:=x.row) aTc (by simp) rfl
  have bx2:=f12.get bxl (by omega)
  have hrows:((aT (A'++[z]++x::B)).set (A'.length+1) z.row).set A'.length x.row=aT (A'++x::z::B):=by
   rw [vw,vw]
   congr 1
   rw [c6]
   simp
  rw [hrows]at hJ3
  refine ak (aj (.inl rfl) ?_)
  simp only [TrD.row,aR,bj]at rz s1 s2
  simp [g5,g6,hal,w1,ixg hJb,izg hJb,rz,s1,-aH,-bI]
  refine aj (.inl rfl) ?_
  simp [g5,g6,hal,w1,izg hJ2,bx2,aS,s2,-bI]
  refine aK ?_
  refine aj (.inl rfl) ?_
  simp [g6,hal,w1]
  have hFJ:Fm b H3 J3:=((hF.trans (by rw [hJ1];exact Fm.push _ _)).trans f12).trans f23
  refine ih A'.length _ (by simp) ⟨A',z::B,_,J3,rfl,rfl,by rw [hAB];simp,?_,hJ3,hFJ,by simp [g5],by simp⟩
  intro w hw
  rcases co.1 hw with rfl | hw
  ·exact hlt
  ·exact hB w hw
end Go.Proofs.YthfeogjbpgocbaaGreat
end
section
namespace Go.Proofs.YthfeogjbpgocbaaGreat
open Go Km
inductive iD:List TrD→List TrD→Prop
 | nil:iD [] []
 | step {r o o' t}:iD r o→alv t o o'→iD (r++[t]) o'
def TLe(a b:TrD):Prop:=a.at_≤b.at_
def TLt(a b:TrD):Prop:=a.at_<b.at_
theorem alv.perm{t:TrD}{l o:List TrD}(h:alv t l o):o.Perm (l++[t]):=by
 obtain⟨A,B,rfl,rfl,-,-⟩:=h
 exact List.perm_middle.trans (List.perm_append_singleton t (A++B)).symm
theorem iD.perm:∀ {r o:List TrD},iD r o→o.Perm r
 | _,_,.nil=>List.Perm.refl _
 | _,_,.step h ht=>ht.perm.trans ((iD.perm h).append_right _)
theorem iD.len{r o:List TrD}(h:iD r o):o.length=r.length:=h.perm.length_eq
theorem zu:∀ {a b:List TrD},a.Pairwise TLt→b.Pairwise TLe→b.Perm a→b=a
 | [],b,_,_,h=>h.eq_nil
 | x::a,[],_,_,h=>by cases h.symm.eq_nil
 | x::a,y::b,ha,hb,h=>by
  rw [c5]at ha hb
  have hxy:y=x:=by
   have hy:y ∈ x::a:=h.subset (aE ..)
   have hx:x ∈ y::b:=h.symm.subset (aE ..)
   rcases co.1 hy with e | hy
   ·exact e
   ·rcases co.1 hx with e | hx
    ·exact e.symm
    ·have h1:=ha.1 y hy
     have h2:=hb.1 x hx
     unfold TLt at h1;unfold TLe at h2;omega
  subst hxy
  rw [zu ha.2 hb.2 (h.cons_inv)]
def fJ(o:List TrD)(size:Int)(i:Nat):Int:=match o[i+1]? with
 | some y=>y.at_
 | none=>(match o[0]? with | some y=>y.at_ | none=>0)+size
def oM(o:List TrD)(size:Int)(n:Nat):Bool:=(List.range n).all fun i=>match o[i]? with
 | some x=>decide (2160≤fJ o size i-x.at_)
 | none=>true
def eU(o:List TrD)(size:Int):Bool:=oM o size o.length
theorem D8{o:List TrD}{size:Int}(h:eU o size=true):∀ i x y,o[i]?=some x→o[i+1]?=some y→x.at_+2160≤y.at_:=by
 intro i x y hx hy
 unfold eU oM at h
 have h1:=aM.1 h i (by have:=(al.1 hx).1;simpa using this)
 simp only [hx,fJ,hy]at h1
 have:=of_decide_eq_true h1
 omega
theorem tJ:∀ {o:List TrD},(∀ i x y,o[i]?=some x→o[i+1]?=some y→x.at_+2160≤y.at_)→o.Pairwise TLt
 | [],_=>List.Pairwise.nil
 | [x],_=>List.pairwise_singleton _ _
 | x::y::l,h=>by
  have ih:=tJ (o:=y::l) fun i a b ha hb=>h (i+1) a b (by simpa using ha) (by simpa using hb)
  have hxy:x.at_+2160≤y.at_:=h 0 x y (by simp) (by simp)
  refine c5.2 ⟨fun z hz=>?_,ih⟩
  unfold TLt
  rcases co.1 hz with rfl | hz
  ·omega
  ·have:=(c5.1 ih).1 z hz
   unfold TLt at this;omega
theorem nX{o:List TrD}{size:Int}(h:eU o size=true):o.Pairwise TLt:=tJ (D8 h)
def epC:Nat→Int
 | 0=>2
 | _=>5
def bgn(c:Nat):Nat→Int
 | 0=>epC c
 | y+1=>bgn c y+(xX c (y+1):Nat)
def nY:Nat→Nat
 | 0=>7
 | _=>14
def cyc(c:Nat):Int:=7*(lI c:Nat)
theorem Iu{c:Nat}(hc:c<3):bgn c (nY c)=epC c+cyc c:=by
 have:c=0∨c=1∨c=2:=by omega
 rcases this with rfl | rfl | rfl<;>decide
theorem I9(c y:Nat):12≤xX c y:=by
 have h1:=wP c y 1
 have h2:=wP c y 2
 unfold xX;omega
theorem Ir(c:Nat){y y':Nat}(h:y<y'):bgn c y<bgn c y':=by
 induction h with
 | refl=>have:=I9 c (y+1);simp only [bgn];omega
 | step _ ih=>rename_i m _;have:=I9 c (m+1);simp only [bgn]at *;omega
theorem CV{c y:Nat}(hc:c<3)(hy:y≤nY c):2≤bgn c y∧bgn c y≤222:=by
 have h0:bgn c 0≤bgn c y:=by
  rcases cL y with rfl | h
  ·exact de _
  ·exact Int.le_of_lt (Ir c h)
 have h1:bgn c y≤bgn c (nY c):=by
  rcases b9 hy with h | rfl
  ·exact Int.le_of_lt (Ir c h)
  ·exact de _
 rw [Iu hc]at h1
 have:c=0∨c=1∨c=2:=by omega
 rcases this with rfl | rfl | rfl<;>simp [bgn,epC,cyc,lI]at h0 h1<;>omega
def gW(c y:Nat)(r q:YrD):List TrD:=
 let b:=bgn c (y-1)
 if kF (fmD c y b r) (mlD c y r) r.wk r.wd then [⟨oD (fmD c y b r) (mlD c y r) r.wk r.wd*1440+r.mi-q.off,r.off⟩]else []
def uw(c:Nat)(r q:YrD):Nat→List TrD
 | 0=>[]
 | n+1=>uw c r q n++(gW c (n+1) r q++gW c (n+1) q r)
theorem mY(c y:Nat)(r q:YrD):(gW c y r q).length≤1:=by simp only [gW];split<;>simp
theorem mW(c:Nat)(r q:YrD):∀ n,(uw c r q n).length≤2*n
 | 0=>by simp [uw]
 | n+1=>by
  have h1:=mW c r q n
  have h2:=mY c (n+1) r q
  have h3:=mY c (n+1) q r
  simp only [uw,bw];omega
end Go.Proofs.YthfeogjbpgocbaaGreat
end
section
namespace Go.Proofs.YthfeogjbpgocbaaGreat
open Go Km
structure ZD where
 c:Nat
 start:Int
 tg:Tg
 tr:List TrD
 hor:Int
 yg:Tg
 yr:List YrD
def ZD.row(z:ZD):List FC:=jL z.c++[fi z.start,sl z.tg (aT z.tr),fi z.hor,sl z.yg (bT z.yr)]
abbrev ZD.v(z:ZD):V:=.a (z.row.map .f)
theorem ZD.Aa{z:ZD}(hc:z.c<3):z.row.length=8:=by
 obtain⟨c,s,tg,tr,h,yg,yr⟩:=z
 have:c=0∨c=1∨c=2:=by simp at hc;omega
 rcases this with rfl | rfl | rfl<;>rfl
section
variable{H:Heap}{b:Nat}{z:ZD}{fl:Nat}
theorem akj(h:H[b]?=some (.box (z.row.map .f) fl))(hc:z.c<3):ldV H none (.c (.ptr b 4 0))=some (vi z.start):=by
 obtain⟨c,s,tg,tr,h',yg,yr⟩:=z
 have:c=0∨c=1∨c=2:=by simp at hc;omega
 rcases this with rfl | rfl | rfl<;>simp [ldV,h,aO,ZD.row,jL,aS]
theorem jK(h:H[b]?=some (.box (z.row.map .f) fl))(hc:z.c<3):ldV H none (.c (.ptr b 5 0))=some (.c (.f (sl z.tg (aT z.tr)))):=by
 obtain⟨c,s,tg,tr,h',yg,yr⟩:=z
 have:c=0∨c=1∨c=2:=by simp at hc;omega
 rcases this with rfl | rfl | rfl<;>simp [ldV,h,aO,ZD.row,jL,aS]
theorem pU(h:H[b]?=some (.box (z.row.map .f) fl))(hc:z.c<3):ldV H none (.c (.ptr b 6 0))=some (vi z.hor):=by
 obtain⟨c,s,tg,tr,h',yg,yr⟩:=z
 have:c=0∨c=1∨c=2:=by simp at hc;omega
 rcases this with rfl | rfl | rfl<;>simp [ldV,h,aO,ZD.row,jL,aS]
theorem kM(h:H[b]?=some (.box (z.row.map .f) fl))(hc:z.c<3):ldV H none (.c (.ptr b 7 0))=some (.c (.f (sl z.yg (bT z.yr)))):=by
 obtain⟨c,s,tg,tr,h',yg,yr⟩:=z
 have:c=0∨c=1∨c=2:=by simp at hc;omega
 rcases this with rfl | rfl | rfl<;>simp [ldV,h,aO,ZD.row,jL,aS]
theorem He(h:H[b]?=some (.box (z.row.map .f) fl))(hc:z.c<3):ldV H none (.c (.ptr b 0 0))=some (vi (epC z.c)):=by
 obtain⟨c,s,tg,tr,h',yg,yr⟩:=z
 have:c=0∨c=1∨c=2:=by simp at hc;omega
 rcases this with rfl | rfl | rfl<;>simp [ldV,h,aO,ZD.row,jL,aS,epC]
theorem nR(h:H[b]?=some (.box (z.row.map .f) fl))(hc:z.c<3):ldV H (some 4) (.c (.ptr b 0 0))=some (oI z.c):=by
 obtain⟨c,s,tg,tr,h',yg,yr⟩:=z
 have:c=0∨c=1∨c=2:=by simp at hc;omega
 rcases this with rfl | rfl | rfl<;>simp [ldV,h,aO,ZD.row,jL,aS]
theorem kR(h:H[b]?=some (.box (z.row.map .f) fl))(hc:z.c<3):ldV H (some 8) (.c (.ptr b 0 0))=some z.v:=by
 obtain⟨c,s,tg,tr,h',yg,yr⟩:=z
 have:c=0∨c=1∨c=2:=by simp at hc;omega
 rcases this with rfl | rfl | rfl<;>simp [ldV,h,aO,ZD.row,jL,aS]
end
def ZD.cyc(z:ZD):Int:=if z.yr.length=0 then 1 else Go.Proofs.YthfeogjbpgocbaaGreat.cyc z.c
set_option maxRecDepth 100000 in
theorem zK(z:ZD)(hc:z.c<3):Km.Pure tab.get IY [z.v]=Eq (vi z.cyc):=Km.Pure.eq (by
 refine cu aK5 rfl fun Q hQ=>?_
 refine ak (aj (.inl rfl) ?_)
 simp
 have hz:([.box (z.row.map .f) 0]:Heap)[0]?=some (.box (z.row.map .f) 0):=rfl
 refine ak ?_
 refine ak (aj (.inl rfl) ?_)
 simp [kM hz hc,-aH]
 by_cases h:z.yr=[]
 ·refine aB (by simp [h]) ?_
  refine ak (aj (.inl rfl) ?_)
  simp
  refine aP (hQ _ _ ?_)
  simp [ZD.cyc,h]
 ·refine ay (by simp [h]) (aG ?_)
  refine ak (aj (.inl rfl) ?_)
  simp [nR hz hc,-aH,Vw hc]
  refine ak ?_
  refine ak (aj (.inl rfl) ?_)
  have hr:bU .rem (vi (lI z.c:Nat)) (vi 7)=some (vi (((lI z.c:Nat):Int) % 7)):=oq (by omega) (by omega)
  have hd:lI z.c=13∨lI z.c=31:=by unfold lI;split<;>simp
  have hw:IntKind.i64.wrap (7*((lI z.c:Nat):Int))=7*((lI z.c:Nat):Int):=wrap64 (by omega) (by omega)
  simp [hr]
  refine aB (by simp;omega) ?_
  refine ak (aj (.inl rfl) ?_)
  simp [hw]
  refine aP (hQ _ _ ?_)
  simp [ZD.cyc,h,cyc])
end Go.Proofs.YthfeogjbpgocbaaGreat
end
section
namespace Go.Proofs.YthfeogjbpgocbaaGreat
open Go Km
theorem Ie{c y:Nat}{b:Int}{x:YrD}(hb:0≤b)(hb':b≤260)(hx:x.OK):-10≤oD (fmD c y b x) (mlD c y x) x.wk x.wd∧oD (fmD c y b x) (mlD c y x) x.wk x.wd≤300:=by
 have k1:=jG c y 1
 have k2:=jG c y x.mo.toNat
 have k3:=wP c y x.mo.toNat
 have hq:mlD c y x=(oC c y x.mo.toNat:Nat):=rfl
 have hfm:b≤fmD c y b x∧fmD c y b x≤b+9:=by unfold fmD;split<;>omega
 unfold oD
 split<;>omega
structure IG(fl:List FC)(s:FC)(k m:Nat)(r q:YrD):Prop where
 i:∀ H:Heap,aU H 5 none (.c (.f s)) (vi k)=some (.c (.f (.fp fl (k*5))))
 i':∀ H:Heap,aU H 5 none (.c (.f s)) (vi m)=some (.c (.f (.fp fl (m*5))))
 row:∀ H:Heap,ldV H (some 5) (.c (.f (.fp fl (k*5))))=some (.a (r.row.map .f))
 mi:∀ H:Heap,ldV H none (.c (.f (.fp fl (k*5+3))))=some (vi r.mi)
 of:∀ H:Heap,ldV H none (.c (.f (.fp fl (k*5+4))))=some (vi r.off)
 of':∀ H:Heap,ldV H none (.c (.f (.fp fl (m*5+4))))=some (vi q.off)
theorem aDY(g:Tg)(r q:YrD):IG (bT [r,q]).flatten (sl g (bT [r,q])) 0 1 r q:=
 ⟨fun _=>rfl,fun _=>rfl,fun _=>rfl,fun _=>rfl,fun _=>rfl,fun _=>rfl⟩
theorem aDX(g:Tg)(r q:YrD):IG (bT [r,q]).flatten (sl g (bT [r,q])) 1 0 q r:=
 ⟨fun _=>rfl,fun _=>rfl,fun _=>rfl,fun _=>rfl,fun _=>rfl,fun _=>rfl⟩
theorem Em(c:Nat):nY c≤14:=by unfold nY;split<;>omega
set_option maxRecDepth 100000 in
theorem RD{z:ZD}(hc:z.c<3){fl:List FC}{k m y:Nat}{r q:YrD}(hR:IG fl (sl z.yg (bT z.yr)) k m r q)(hkm:(1:Int)-k=m)(hr:r.OK)(hq:q.OK)(hy:y<nY z.c)
  {t:T} {J:Heap} {cl:C} {o raw:List TrD} (hJ:J[0]?=some (.box (z.row.map .f) 0)) (hL:LR J cl 2 (aT o)) (ho:iD raw o) (hol:raw.length≤100)
  (g1:t.g 1=.c (.ptr 0 0 0)) (g4:t.g 4=.c cl) (g5:t.g 5=vi (cyc z.c)) (g6:t.g 6=vi (bgn z.c y)) (g7:t.g 7=vi ((y:Int)+1)) (g8:t.g 8=vi (k:Nat)) {K:List dI} {Q:Option ah→St→Prop}
  (next:∀(t:T) (J:Heap) (cl:C) (o:List TrD),J[0]?=some (.box (z.row.map .f) 0)→LR J cl 2 (aT o)→iD (raw++gW z.c (y+1) r q) o→t.g 1=.c (.ptr 0 0 0)→t.g 4=.c cl→t.g 5=vi (cyc z.c)→t.g 6=vi (bgn z.c y)→t.g 7=vi ((y:Int)+1)→t.g 8=vi (k:Nat) →
   WP tab.get qo none K ⟨t,[],J⟩ Q) :
  WP tab.get qo none (.code FW::K) ⟨t,[],J⟩ Q:=by
 have hyl:=Em z.c
 obtain⟨b0,b1⟩:=CV hc (Nat.le_of_lt hy)
 have hf:=aAt hc (y:=y+1) (by omega) (by omega) (b:=bgn z.c y) (by omega) (by omega) r hr
 rw [show((y+1:Nat):Int)=(y:Int)+1 by omega]at hf
 obtain⟨d0,d1⟩:=Ie (c:=z.c) (y:=y+1) (b:=bgn z.c y) (x:=r) (by omega) (by omega) hr
 obtain⟨-,-,-,-,m0,m1,o0,o1⟩:=hr
 obtain⟨-,-,-,-,-,-,p0,p1⟩:=hq
 have hraw:gW z.c (y+1) r q=if kF (fmD z.c (y+1) (bgn z.c y) r) (mlD z.c (y+1) r) r.wk r.wd then [⟨oD (fmD z.c (y+1) (bgn z.c y) r) (mlD z.c (y+1) r) r.wk r.wd*1440+r.mi-q.off,r.off⟩]else []:=rfl
 generalize hD:oD (fmD z.c (y+1) (bgn z.c y) r) (mlD z.c (y+1) r) r.wk r.wd=D at *
 generalize hO:kF (fmD z.c (y+1) (bgn z.c y) r) (mlD z.c (y+1) r) r.wk r.wd=O at *
 refine aN ?_
 refine ak (aj (.inl rfl) ?_)
 have hrow:=hR.row J
 have hi:=hR.i J
 have lz1:=nR hJ hc
 have lz2:=kM hJ hc
 simp [g1,g6,g7,g8,lz1,lz2,hi,hrow,hf,-aH]
 refine ak ?_
 refine aj (.inl rfl) ?_
 simp
 cases O with
 | false=>
  simp only [aL,if_false]at hraw
  rw [hraw,c7]at next
  refine ay (by simp) (aG (aK ?_))
  exact next _ J cl o hJ hL ho (by simp [g1]) (by simp [g4]) (by simp [g5]) (by simp [g6]) (by simp [g7]) (by simp [g8])
 | true=>
  simp only [if_true]at hraw
  refine aB (by simp) ?_
  refine aj (.inl rfl) ?_
  have w1:IntKind.i64.wrap (D*1440)=D*1440:=wrap64 (by omega) (by omega)
  have w2:IntKind.i64.wrap (D*1440+r.mi)=D*1440+r.mi:=wrap64 (by omega) (by omega)
  have w3:IntKind.i64.wrap (D*1440+r.mi-q.off)=D*1440+r.mi-q.off:=wrap64 (by omega) (by omega)
  have w4:IntKind.i64.wrap (1-(k:Int))=m:=by rw [wrap64 (by omega) (by omega),hkm]
  have hi':=hR.i' J
  have hmi:=hR.mi J
  have hof:=hR.of J
  have aIO:=hR.of' J
  have hlen:=ho.len
  obtain⟨o',cl',J',hI,hE,hL',hK,hbk⟩:=Vf hL (by omega) ⟨D*1440+r.mi-q.off,r.off⟩
  simp only [TrD.row,aR,bj]at hE
  have hEq:=hE.eq
  simp [g1,g4,g8,lz2,hi,hi',hmi,hof,aIO,w1,w2,w3,w4,hEq,-aH]
  refine aK ?_
  rw [hraw]at next
  exact next _ J' cl' o' (hK.2 _ _ hJ (hL.dK hJ)) hL' (.step ho hI) (by simp [g1]) (by simp) (by simp [g5]) (by simp [g6]) (by simp [g7]) (by simp [g8])
end Go.Proofs.YthfeogjbpgocbaaGreat
end
section
namespace Go.Proofs.YthfeogjbpgocbaaGreat
open Go Km
set_option maxRecDepth 100000 in
theorem aEs{z:ZD}(hc:z.c<3){r q:YrD}(hz:z.yr=[r,q])(hr:r.OK)(hq:q.OK){y:Nat}(hy:y<nY z.c)
  {t:T} {J:Heap} {cl:C} {o raw:List TrD} (hJ:J[0]?=some (.box (z.row.map .f) 0)) (hL:LR J cl 2 (aT o)) (ho:iD raw o) (hol:raw.length≤90)
  (g1:t.g 1=.c (.ptr 0 0 0)) (g4:t.g 4=.c cl) (g5:t.g 5=vi (cyc z.c)) (g6:t.g 6=vi (bgn z.c y)) (g7:t.g 7=vi ((y:Int)+1)) {K:List dI} {Q:Option ah→St→Prop}
  (next:∀(t:T) (J:Heap) (cl:C) (o:List TrD),J[0]?=some (.box (z.row.map .f) 0)→LR J cl 2 (aT o)→iD (raw++(gW z.c (y+1) r q++gW z.c (y+1) q r)) o→t.g 1=.c (.ptr 0 0 0)→t.g 4=.c cl→t.g 5=vi (cyc z.c)→t.g 6=vi (bgn z.c y)→t.g 7=vi ((y:Int)+1) →
   WP tab.get qo none K ⟨t,[],J⟩ Q) :
  WP tab.get qo none (.code FX::K) ⟨t,[],J⟩ Q:=by
 refine ak (aj (.inl rfl) ?_)
 simp
 refine aN ?_
 refine bK (fun n s=>∃(k:Nat) (t:T) (J:Heap) (cl:C) (o:List TrD),s=⟨t,[],J⟩∧n=2-k∧k≤2∧J[0]?=some (.box (z.row.map .f) 0)∧LR J cl 2 (aT o) ∧
   iD (raw++((if 1≤k then gW z.c (y+1) r q else [])++(if 2≤k then gW z.c (y+1) q r else []))) o ∧
   t.g 1=.c (.ptr 0 0 0)∧t.g 4=.c cl∧t.g 5=vi (cyc z.c)∧t.g 6=vi (bgn z.c y)∧t.g 7=vi ((y:Int)+1)∧t.g 8=vi (k:Nat)) 2
  ⟨0,_,J,cl,o,rfl,rfl,by omega,hJ,hL,by simpa using ho,by simp [g1],by simp [g4],by simp [g5],by simp [g6],by simp [g7],by simp⟩ ?_
 clear hJ hL ho g1 g4 g5 g6 g7
 rintro n s ⟨k,t,J,cl,o,rfl,rfl,hk,hJ,hL,ho,g1,g4,g5,g6,g7,g8⟩ ih
 refine ak ?_
 refine ak (aj (.inl rfl) ?_)
 simp [g8]
 have l1:=mY z.c (y+1) r q
 have l2:=mY z.c (y+1) q r
 have hcase:k=0∨k=1∨k=2:=by omega
 rcases hcase with rfl | rfl | rfl
 ·refine aB (by simp) (aG ?_)
  refine ak ?_
  simp at ho
  refine RD hc (m:=1) (by rw [hz];exact aDY z.yg r q) (by decide) hr hq hy hJ hL ho (by omega) (by simp [g1]) (by simp [g4]) (by simp [g5]) (by simp [g6]) (by simp [g7]) (by simp [g8]) ?_
  intro t J cl o hJ hL ho g1 g4 g5 g6 g7 g8
  refine aj (.inl rfl) ?_
  simp [g8]
  exact ih 1 _ (by omega) ⟨1,_,J,cl,o,rfl,rfl,by omega,hJ,hL,by simpa using ho,by simp [g1],by simp [g4],by simp [g5],by simp [g6],by simp [g7],by simp [show IntKind.i64.wrap 1=1 from rfl]⟩
 ·refine aB (by simp) (aG ?_)
  refine ak ?_
  simp at ho
  refine RD hc (m:=0) (by rw [hz];exact aDX z.yg r q) (by decide) hq hr hy hJ hL ho (by simp;omega) (by simp [g1]) (by simp [g4]) (by simp [g5]) (by simp [g6]) (by simp [g7]) (by simp [g8]) ?_
  intro t J cl o hJ hL ho g1 g4 g5 g6 g7 g8
  refine aj (.inl rfl) ?_
  simp [g8]
  exact ih 0 _ (by omega) ⟨2,_,J,cl,o,rfl,rfl,by omega,hJ,hL,by simpa using ho,by simp [g1],by simp [g4],by simp [g5],by simp [g6],by simp [g7],by simp [show IntKind.i64.wrap 2=2 from rfl]⟩
 ·refine ay (by simp) ?_
  refine bf (k':=K) rfl ?_
  simp at ho
  exact next _ J cl o hJ hL (by simpa using ho) (by simp [g1]) (by simp [g4]) (by simp [g5]) (by simp [g6]) (by simp [g7])
end Go.Proofs.YthfeogjbpgocbaaGreat
end
section
namespace Go.Proofs.YthfeogjbpgocbaaGreat
open Go Km
def AtB(x:TrD):Prop:=-20000≤x.at_∧x.at_≤500000
theorem Ei{c y:Nat}{r q:YrD}(hc:c<3)(hy:y<nY c)(hr:r.OK)(hq:q.OK):∀ x ∈ gW c (y+1) r q,AtB x:=by
 intro x hx
 obtain⟨b0,b1⟩:=CV hc (Nat.le_of_lt hy)
 obtain⟨d0,d1⟩:=Ie (c:=c) (y:=y+1) (b:=bgn c y) (x:=r) (by omega) (by omega) hr
 obtain⟨-,-,-,-,m0,m1,-,-⟩:=hr
 obtain⟨-,-,-,-,-,-,p0,p1⟩:=hq
 simp only [gW,Nat.add_sub_cancel]at hx
 split at hx
 ·simp only [cI]at hx
  subst hx
  unfold AtB
  simp only
  omega
 ·cases hx
theorem wG{c:Nat}{r q:YrD}(hc:c<3)(hr:r.OK)(hq:q.OK):∀ n,n≤nY c→∀ x ∈ uw c r q n,AtB x
 | 0,_,x,hx=>by cases hx
 | n+1,hn,x,hx=>by
  simp only [uw,ba]at hx
  rcases hx with hx | hx | hx
  ·exact wG hc hr hq n (by omega) x hx
  ·exact Ei hc (by omega) hr hq x hx
  ·exact Ei hc (by omega) hq hr x hx
theorem Dy(o:List TrD)(size:Int)(n:Nat){x:TrD}(h:o[n]?=some x):oM o size (n+1)=(oM o size n&&decide (2160≤fJ o size n-x.at_)):=by
 simp [oM,List.range_succ,h]
theorem Jm{o:List TrD}{size:Int}{n:Nat}{x:TrD}(h:o[n]?=some x)(hb:¬ 2160≤fJ o size n-x.at_):eU o size=false:=by
 cases e:eU o size with
 | false=>rfl
 | true=>
  have h1:=aM.1 e n (by have:=(al.1 h).1;simpa using this)
  simp only [h]at h1
  exact absurd (of_decide_eq_true h1) hb
set_option maxRecDepth 100000 in
theorem I5(z:ZD)(hc:z.c<3){r q:YrD}(hz:z.yr=[r,q])(hr:r.OK)(hq:q.OK):∃ g o,iD (uw z.c r q (nY z.c)) o ∧
  Km.Pure tab.get qo [z.v]=Eq (.t [.c (.f (sl g (aT o))),vb (eU o (cyc z.c*1440))]):=by
 obtain⟨rr,⟨g,o,ho,rfl⟩,hp⟩:∃ rr,(∃ g o,iD (uw z.c r q (nY z.c)) o∧rr=.t [.c (.f (sl g (aT o))),vb (eU o (cyc z.c*1440))])∧Km.Pure tab.get qo [z.v] rr:=by
  refine iM aK2 rfl fun Q hQ=>?_
  refine ak (aj (.inl rfl) ?_)
  simp
  have hz0:([.box (z.row.map .f) 0]:Heap)[0]?=some (.box (z.row.map .f) 0):=rfl
  have hcy:z.cyc=cyc z.c:=by simp [ZD.cyc,hz]
  have hcb:cyc z.c=91∨cyc z.c=217:=by unfold cyc lI;split<;>simp
  have hep:epC z.c=2∨epC z.c=5:=by unfold epC;split<;>simp
  have hend:=Iu hc
  have hny:=Em z.c
  refine ak (aj (.inl rfl) ?_)
  simp
  refine ak ?_
  refine ak (aj (.inl rfl) ?_)
  simp [kM hz0 hc,-aH,hz]
  refine ay (by simp) (aG ?_)
  refine ak (aj (.inl rfl) ?_)
  simp [kR hz0 hc,-aH,zK z hc,hcy]
  refine ak (aj (.inl rfl) ?_)
  simp [He hz0 hc,-aH]
  refine ak ?_
  refine ak (aj (.inl rfl) ?_)
  simp
  refine aN ?_
  refine bK (fun n s=>∃(y:Nat) (t:T) (J:Heap) (cl:C) (o:List TrD),s=⟨t,[],J⟩∧n=nY z.c-y∧y≤nY z.c∧J[0]?=some (.box (z.row.map .f) 0)∧LR J cl 2 (aT o)∧iD (uw z.c r q y) o ∧
    t.g 1=.c (.ptr 0 0 0)∧t.g 4=.c cl∧t.g 5=vi (cyc z.c)∧t.g 6=vi (bgn z.c y)∧t.g 7=vi ((y:Int)+1)) (nY z.c)
   ⟨0,_,_,.f .es,[],rfl,rfl,by omega,hz0,.inl ⟨rfl,.inr rfl⟩,.nil,by simp,by simp,by simp,by simp [bgn],by simp⟩ ?_
  rintro n s ⟨y,t,J,cl,o,rfl,rfl,hy,hJ,hL,ho,g1,g4,g5,g6,g7⟩ ih
  obtain⟨b0,b1⟩:=CV hc hy
  refine ak ?_
  refine ak (aj (.inl rfl) ?_)
  simp [g1,g5,g6,He hJ hc,-aH,wrap64 (n:=epC z.c+cyc z.c) (by omega) (by omega)]
  by_cases hlt:y<nY z.c
  ·have h1:=Ir z.c hlt
   refine aB (by simp;omega) (aG ?_)
   refine ak ?_
   refine aN ?_
   refine ak ?_
   have hrl:=mW z.c r q y
   refine aEs hc hz hr hq hlt hJ hL ho (by omega) (by simp [g1]) (by simp [g4]) (by simp [g5]) (by simp [g6]) (by simp [g7]) ?_
   clear g1 g4 g5 g6 g7 hJ hL ho
   intro t J cl o hJ hL ho g1 g4 g5 g6 g7
   have hyl:=I8 hc (y:=y+1) (by omega) (by omega)
   rw [show((y+1:Nat):Int)=(y:Int)+1 by omega]at hyl
   have hyb:xX z.c (y+1)≤18:=by
    have h1:=jG z.c (y+1) 1
    have h2:=jG z.c (y+1) 2
    unfold xX;omega
   refine aj (.inl rfl) ?_
   simp [g1,g6,g7,nR hJ hc,-aH,hyl,wrap64 (n:=bgn z.c y+(xX z.c (y+1):Nat)) (by omega) (by omega)]
   refine aK ?_
   refine aj (.inl rfl) ?_
   simp [g7,wrap64 (n:=(y:Int)+1+1) (by omega) (by omega)]
   exact ih (nY z.c-(y+1)) _ (by omega) ⟨y+1,_,J,cl,o,rfl,rfl,by omega,hJ,hL,ho,by simp [g1],by simp [g4],by simp [g5],by simp [bgn],by simp⟩
  ·have hyn:y=nY z.c:=by omega
   subst hyn
   rw [hend]
   refine ay (by simp) ?_
   refine bf (k':=[.code FU]) rfl ?_
   have hbd:∀ x ∈ o,AtB x:=fun x hx=>wG hc hr hq _ (aw _) x (ho.perm.subset hx)
   obtain⟨g',hg'⟩:=hL.ex (dF _) 63
   have hol:o.length≤28:=by have:=ho.len;have:=mW z.c r q (nY z.c);omega
   refine ak ?_
   refine ak (aj (.inl rfl) ?_)
   simp
   refine aN ?_
   clear ih
   refine bK (fun n s=>∃(i:Nat) (t:T),s=⟨t,[],J⟩∧n=o.length-i∧i≤o.length∧oM o (cyc z.c*1440) i=true∧t.g 4=.c cl∧t.g 5=vi (cyc z.c)∧t.g 11=vi (i:Nat)) o.length
    ⟨0,_,rfl,rfl,by omega,rfl,by simp [g4],by simp [g5],by simp⟩ ?_
   clear g1 g4 g5 g6 g7
   rintro n s ⟨i,t,rfl,rfl,hi,hsp,g4,g5,g11⟩ ih
   refine ak ?_
   refine ak (aj (.inl rfl) ?_)
   simp [g4,g11,hL.len]
   by_cases hil:i<o.length
   case neg=>
    have:i=o.length:=by omega
    subst this
    refine ay (by simp) ?_
    refine bf (k':=[.code zi]) rfl ?_
    refine ak (aj (.inl rfl) ?_)
    simp [g4]
    refine aP (hQ _ _ (.t [.c (.f (sl g' (aT o))),vb (eU o (cyc z.c*1440))]) ⟨g',o,ho,rfl⟩ ?_)
    have:eU o (cyc z.c*1440)=true:=hsp
    simp [exV,dN,deep,hg',this,bC,g4]
   refine aB (by simp [hil]) (aG ?_)
   refine ak ?_
   refine aN ?_
   rcases hL with⟨h,_⟩ | ⟨_,b,ep,rfl,hb⟩
   ·have:o=[]:=by simpa [aT]using h
    subst this;simp at hil
   rw [o9]at g4 hg'
   have hgr:=dF o
   have idx:∀ k:Nat,k<o.length→aU J 2 none (.c (.sl b 0 o.length 0 ep 2)) (vi k)=some (.c (.ptr b (k*2) ep)):=fun k hk=>by
    have:=hb.idx (n:=o.length) (c:=0) (k:=.i64) (o:=0) (i:=(k:Int)) (by omega) (by omega)
    simpa using this
   have Va:∀ k:Nat,(hk:k<o.length)→ldV J none (.c (.ptr b (k*2) ep))=some (vi o[k].at_):=fun k hk=>by
    have:=hb.ldc hgr (fD (ae hk)) (k:=0) (x:=fi o[k].at_) rfl
    simpa using this
   have o0:0<o.length:=by omega
   have i0:=idx 0 o0
   have l0:=Va 0 o0
   have ii:=idx i hil
   have li:=Va i hil
   have hb0:=hbd _ (av o0)
   have hbi:=hbd _ (av hil)
   unfold AtB at hb0 hbi
   simp [-aH]at i0 l0
   have w1:IntKind.i64.wrap (cyc z.c*1440)=cyc z.c*1440:=wrap64 (by omega) (by omega)
   have w2:IntKind.i64.wrap (o[0].at_+cyc z.c*1440)=o[0].at_+cyc z.c*1440:=wrap64 (by omega) (by omega)
   have w3:IntKind.i64.wrap ((i:Int)+1)=(i:Int)+1:=wrap64 (by omega) (by omega)
   refine ak (aj (.inl rfl) ?_)
   simp [g4,g5,i0,l0,w1,w2,-aH]
   refine ak ?_
   have tail:∀ t:T,t.g 4=.c (.sl b 0 o.length 0 ep 2)→t.g 5=vi (cyc z.c)→t.g 11=vi (i:Nat)→t.g 12=vi (fJ o (cyc z.c*1440) i)→-20000≤fJ o (cyc z.c*1440) i→fJ o (cyc z.c*1440) i≤900000 →
     WP tab.get qo none [.code FQ,.inBlock 5,.code FP,.inLoop FT,.inBlock 4,.code zi] ⟨t,[],J⟩ Q:=by
    intro t g4 g5 g11 g12 n0 n1
    refine ak (aj (.inl rfl) ?_)
    simp [g4,g11,g12,ii,li,-aH,wrap64 (n:=fJ o (cyc z.c*1440) i-o[i].at_) (by omega) (by omega)]
    by_cases hs:fJ o (cyc z.c*1440) i-o[i].at_<2160
    ·refine aB (by simp [hs]) ?_
     refine ak (aj (.inl rfl) ?_)
     simp [g4]
     refine aP (hQ _ _ (.t [.c (.f (sl g' (aT o))),vb (eU o (cyc z.c*1440))]) ⟨g',o,ho,rfl⟩ ?_)
     have:eU o (cyc z.c*1440)=false:=Jm (ae hil) (by omega)
     simp [exV,dN,deep,hg',this,bC,g4]
    ·refine ay (by simp;omega) (aG (aK ?_))
     refine aj (.inl rfl) ?_
     simp [g11,w3]
     refine ih (o.length-(i+1)) _ (by omega) ⟨i+1,_,rfl,rfl,by omega,?_,by simp [g4,o9],by simp [g5],by simp⟩
     rw [Dy _ _ _ (ae hil),hsp]
     simp;omega
   by_cases hnx:i+1<o.length
   ·have i1:=idx (i+1) hnx
    have l1:=Va (i+1) hnx
    have hb1:=hbd _ (av hnx)
    unfold AtB at hb1
    rw [show((i+1:Nat):Int)=(i:Int)+1 by omega]at i1
    have hn:fJ o (cyc z.c*1440) i=o[i+1].at_:=by simp [fJ,ae hnx]
    rw [hn]at tail
    refine ak (aj (.inl rfl) ?_)
    simp [g4,g11,w3,hb.len]
    refine aB (by simp;omega) ?_
    refine aj (.inl rfl) ?_
    simp [g4,g11,w3,i1,l1,-aH]
    exact tail _ (by simp [g4]) (by simp [g5]) (by simp [g11]) (by simp) (by omega) (by omega)
   ·have hn:fJ o (cyc z.c*1440) i=o[0].at_+cyc z.c*1440:=by
     simp [fJ,cC.2 (show o.length≤i+1 by omega),ae o0]
    rw [hn]at tail
    refine ak (aj (.inl rfl) ?_)
    simp [g4,g11,w3,hb.len]
    refine ay (by simp;omega) (aG ?_)
    exact tail _ (by simp [g4]) (by simp [g5]) (by simp [g11]) (by simp) (by omega) (by omega)
 exact⟨g,o,ho,Km.Pure.eq hp⟩
end Go.Proofs.YthfeogjbpgocbaaGreat
end
section
namespace Go.Proofs.YthfeogjbpgocbaaGreat
open Go Km
def qx(n:Nat):Int:=match n % 8 with
 | 0=>0 | 1=>60 | 2=>120 | 3=>-90 | 4=>30 | 5=>1080 | 6=>-1080 | _=>90
def isZ(r:Option (V × Heap))(n:Int):Bool:=match r with
 | some (.c (.f (.int .i64 k)),_)=>decide (k=n)
 | _=>false
theorem aIp{r:Option (V × Heap)}{n:Int}(h:isZ r n=true):r.map (·.1)=some (vi n):=by
 unfold isZ at h
 split at h
 ·rw [of_decide_eq_true h];rfl
 ·cases h
theorem aiW:((List.range 256).all fun n=>isZ (CF tab.get 60 10 (.fn yY) [.c (.f (.int .u8 (n:Nat)))] []) (qx n))=true:=by kernel_rfl
theorem Gp{n:Nat}(h:n<256):Km.Pure tab.get yY [.c (.f (.int .u8 (n:Nat)))]=Eq (vi (qx n)):=(iw (aIp (fM (p:=fun n=>isZ (CF tab.get 60 10 (.fn yY) [.c (.f (.int .u8 (n:Nat)))] []) (qx n)) aiW h))).eq
theorem oN(n:Nat):-1080≤qx n∧qx n≤1080:=by unfold qx;split<;>omega
theorem Jc(n m:Int)(h0:0≤m)(h1:m≤4611686018427387904):Km.Pure tab.get tu [vi n,vi m]=Eq (vb (decide (-m≤n)&&decide (n≤m))):=Km.Pure.eq (by
 refine cu aKY rfl fun Q hQ=>?_
 refine ak (aj (.inl rfl) ?_)
 simp
 by_cases h:-m≤n
 ·refine ak (aj (.inl rfl) ?_)
  simp [Gf,wrap64 (n:=-m) (by omega) (by omega),h]
  refine aP (hQ _ _ ?_)
  simp [h]
 ·refine ak (aj (.inl rfl) ?_)
  simp [Gf,wrap64 (n:=-m) (by omega) (by omega),h]
  refine aP (hQ _ _ ?_)
  simp [h])
theorem Aw{n m:Int}(h0:0≤m)(h1:m≤4611686018427387904)(h:-m≤n)(h':n≤m):Km.Pure tab.get tu [vi n,vi m]=Eq (vb true):=by
 rw [Jc n m h0 h1];simp [h,h']
theorem DX{n m:Int}(h0:0≤m)(h1:m≤4611686018427387904)(h:-m≤n)(h':n≤m):Km.Pure tab.get qm [vi n,vi m]=Eq (vb true):=by
 rw [TW n m h0 h1];simp [h,h']
end Go.Proofs.YthfeogjbpgocbaaGreat
end
section
namespace Go.Proofs.YthfeogjbpgocbaaGreat
open Go Km
theorem azP:((List.range 65).all fun n=>match (CF tab.get 20 20 (.fn TS) [.c (.f (.int .u64 n))] [])with | some (.c (.f (.int .i64 (.ofNat k))),_)=>Nat.ble k 62&&(Nat.beq n 0||Nat.ble (2 ^ k) (2*n)) | _=>false)=true:=by kernel_rfl
theorem aNN:aLd tab.get aW 64:=fun n h=>by
 have h1:=azP
 rw [aM]at h1
 have h2:=h1 n (by simp;omega)
 split at h2
 ·rename_i k H' e
  rw [am,Bool.or_eq_true]at h2
  refine⟨k,(iw (m:=20) (d:=20) (by rw [e];rfl)).eq,cK h2.1,fun h0=>?_⟩
  rcases h2.2 with h3 | h3
  ·have:=cX h3;omega
  ·exact cK h3
 ·cases h2
theorem awq:aAU tab.get aW 2:=⟨aKs,aKH,aKJ,aKo,aKN,aKL,aKq,
 aKw,aKu,aKy,aKE,aKC,aKA,alo,aln⟩
theorem aiK(x y:TrD):Kf tab.get yU [.a (x.row.map .f),.a (y.row.map .f)] (vi (oH x.at_ y.at_)):=by
 refine jA aJ2 rfl fun H Q hQ=>?_
 refine ak (aj (.inl rfl) ?_)
 simp [TrD.row]
 refine ak (aj (.inl rfl) ?_)
 simp [vP]
 refine aP (hQ _ _ ?_)
 simp
def zU:List FC→TrD
 | [.int _ a,.int _ b]=>⟨a,b⟩
 | _=>⟨0,0⟩
def VP(r:List FC):Prop:=r=(zU r).row
theorem aks(x:TrD):VP x.row:=rfl
def ajS(r s:List FC):Int:=oH (zU r).at_ (zU s).at_
theorem aJd:Cmp VP ajS where
 asym:=fun _ _ h h'=>by
  unfold ajS at h h'
  rw [xC]at h h'
  omega
 trans:=fun _ _ _ h h'=>by
  unfold ajS at *
  rw [xC]at *
  omega
theorem aOH:Cv tab.get (.c (.f (.fn yU []))) VP ajS:=by
 intro x y hx hy H
 obtain⟨J,h⟩:=aiK (zU x) (zU y) H
 rw [←show x=(zU x).row from hx,←show y=(zU y).row from hy]at h
 exact⟨yU,_,J,by simp [dw],h⟩
theorem Vs{rows:List (List FC)}(h:∀ r ∈ rows,VP r):aT (rows.map zU)=rows:=by
 unfold aT
 rw [List.map_map]
 conv=>rhs;rw [←List.map_id rows]
 exact df fun r hr=>(h r hr).symm
theorem L9(l:List TrD):(aT l).map zU=l:=by
 unfold aT
 rw [List.map_map]
 conv=>rhs;rw [←List.map_id l]
 exact df fun r _=>rfl
theorem aiV{H:Heap}{v:C}{l:List TrD}(hr:LR H v 2 (aT l))(hn:l.length≤64) :
  ∃ H',Ev tab.get (.fn O6) [.c v,.c (.f (.fn yU []))] H (.t []) H'∧Kb H H' v∧∃ l',LR H' v 2 (aT l')∧l'.Perm l∧l'.Pairwise TLe:=by
 have hW:∀ r ∈ aT l,VP r:=fun r hr=>by
  obtain⟨x,-,rfl⟩:=b7.1 hr
  exact aks x
 obtain⟨r,H',he,rfl,hk,l',h1,h2,h3⟩:=Km.Rn (σ:=aW) aKP awq aOH aJd (by omega) aNN hr (by simpa using hn) (dF l) hW
 have hW':∀ r ∈ l',VP r:=fun r hr=>hW r (h2.mem_iff.1 hr)
 refine⟨H',he,hk,l'.map zU,by rw [Vs hW'];exact h1,?_,?_⟩
 ·have:=h2.map zU
  rwa [L9]at this
 ·rw [cD]
  intro i j hi hj hij
  simp only [a9]at hi hj
  have:=h3 i j l'[i] l'[j] (by omega) hij (by omega) (ae hi) (ae hj)
  rw [dz,dz]
  unfold ajS at this
  rw [xC]at this
  unfold TLe;omega
end Go.Proofs.YthfeogjbpgocbaaGreat
end
section
namespace Go.Proofs.YthfeogjbpgocbaaGreat
open Go Km
theorem Ny{H:Heap}{b:Nat}{n:Int}(h:ldV H none (.c (.ptr b 9 0))=some (vi n))(hb:∃ cs fl,H[b]?=some (.box cs fl))(h0:0≤n)(h1:n≤1000000) :
  Ev tab.get (.fn oJ) [.c (.ptr b 0 0)] H (vi (n*1440)) H:=by
 obtain⟨r,H',he,rfl,rfl⟩:∃ r H',Ev tab.get (.fn oJ) [.c (.ptr b 0 0)] H r H'∧r=vi (n*1440)∧H'=H:=by
  refine iT alm rfl fun Q hQ=>?_
  refine ak (aj (.inl rfl) ?_)
  simp
  refine ak (aj (.inl rfl) ?_)
  simp [h,-aH,wrap64 (n:=n*1440) (by omega) (by omega)]
  exact aP (hQ _ _ _ rfl (res_one (by simp)) ⟨rfl,rfl⟩)
 exact he
end Go.Proofs.YthfeogjbpgocbaaGreat
end
section
namespace Go.Proofs.YthfeogjbpgocbaaGreat
open Go Km
def jg(z:ZD)(cl:C)(n:Int):List C:=z.row.map .f++[cl,.f (fi n)]
section
variable{H:Heap}{b:Nat}{z:ZD}{cl cl':C}{n n':Int}
theorem zF(h:H[b]?=some (.box (jg z cl n) 0))(hc:z.c<3):ldV H none (.c (.ptr b 8 0))=some (.c cl):=by
 obtain⟨c,s,tg,tr,h',yg,yr⟩:=z
 have:c=0∨c=1∨c=2:=by simp at hc;omega
 rcases this with rfl | rfl | rfl<;>simp [ldV,h,aO,jg,ZD.row,jL,aS]
theorem akm(h:H[b]?=some (.box (jg z cl n) 0))(hc:z.c<3):ldV H none (.c (.ptr b 9 0))=some (vi n):=by
 obtain⟨c,s,tg,tr,h',yg,yr⟩:=z
 have:c=0∨c=1∨c=2:=by simp at hc;omega
 rcases this with rfl | rfl | rfl<;>simp [ldV,h,aO,jg,ZD.row,jL,aS]
theorem aLO(h:H[b]?=some (.box (jg z cl n) 0))(hc:z.c<3):stC H (.ptr b 8 0) [cl']=some (H.set b (.box (jg z cl' n) 0)):=by
 obtain⟨c,s,tg,tr,h',yg,yr⟩:=z
 have:c=0∨c=1∨c=2:=by simp at hc;omega
 rcases this with rfl | rfl | rfl<;>simp [stC,h,over,jg,ZD.row,jL]
theorem aDU(h:H[b]?=some (.box (jg z cl n) 0))(hc:z.c<3):stC H (.ptr b 9 0) [.f (fi n')]=some (H.set b (.box (jg z cl n') 0)):=by
 obtain⟨c,s,tg,tr,h',yg,yr⟩:=z
 have:c=0∨c=1∨c=2:=by simp at hc;omega
 rcases this with rfl | rfl | rfl<;>simp [stC,h,over,jg,ZD.row,jL]
end
theorem Um{c:Nat}{r q:YrD}{o l:List TrD}{size:Int}(ho:iD (uw c r q (nY c)) o)(hs:eU o size=true)(hp:l.Perm (uw c r q (nY c)))(hl:l.Pairwise TLe):l=o:=
 zu (nX hs) hl (hp.trans ho.perm.symm)
end Go.Proofs.YthfeogjbpgocbaaGreat
end
section
namespace Go.Proofs.YthfeogjbpgocbaaGreat
open Go Km
set_option maxRecDepth 100000 in
theorem ai7{z:ZD}(hc:z.c<3){fl:List FC}{k m y:Nat}{r q:YrD}{n:Int}(hR:IG fl (sl z.yg (bT z.yr)) k m r q)(hkm:(1:Int)-k=m)(hr:r.OK)(hq:q.OK)(hy:y<nY z.c)
  {t:T} {J:Heap} {cl:C} {raw:List TrD} (hJ:J[0]?=some (.box (z.row.map .f) 0)) (hK:J[1]?=some (.box (jg z cl n) 0)) (hL:LR J cl 2 (aT raw)) (hol:raw.length≤100)
  (g1:t.g 1=.c (.ptr 0 0 0)) (g4:t.g 4=.c (.ptr 1 0 0)) (g8:t.g 8=vi (bgn z.c y)) (g9:t.g 9=vi ((y:Int)+1)) (g62:t.g 62=.c (.f (sl z.yg (bT z.yr)))) (g63:t.g 63=vi 2) (g64:t.g 64=vi (k:Nat)) {K:List dI} {Q:Option ah→St→Prop}
  (next:∀(t:T) (J:Heap) (cl:C),J[0]?=some (.box (z.row.map .f) 0)→J[1]?=some (.box (jg z cl n) 0)→LR J cl 2 (aT (raw++gW z.c (y+1) r q))→t.g 1=.c (.ptr 0 0 0)→t.g 4=.c (.ptr 1 0 0)→t.g 8=vi (bgn z.c y)→t.g 9=vi ((y:Int)+1)→t.g 62=.c (.f (sl z.yg (bT z.yr)))→t.g 63=vi 2→t.g 64=vi (k:Nat) →
   WP tab.get nI none K ⟨t,[],J⟩ Q) :
  WP tab.get nI none (.code Fb::K) ⟨t,[],J⟩ Q:=by
 have hyl:=Em z.c
 obtain⟨b0,b1⟩:=CV hc (Nat.le_of_lt hy)
 have hf:=LY hc (y:=y+1) (by omega) (by omega) (b:=bgn z.c y) (by omega) (by omega) r hr
 rw [show((y+1:Nat):Int)=(y:Int)+1 by omega]at hf
 obtain⟨d0,d1⟩:=Ie (c:=z.c) (y:=y+1) (b:=bgn z.c y) (x:=r) (by omega) (by omega) hr
 obtain⟨-,-,-,-,m0,m1,o0,o1⟩:=hr
 obtain⟨-,-,-,-,-,-,p0,p1⟩:=hq
 have hraw:gW z.c (y+1) r q=if kF (fmD z.c (y+1) (bgn z.c y) r) (mlD z.c (y+1) r) r.wk r.wd then [⟨oD (fmD z.c (y+1) (bgn z.c y) r) (mlD z.c (y+1) r) r.wk r.wd*1440+r.mi-q.off,r.off⟩]else []:=rfl
 generalize hD:oD (fmD z.c (y+1) (bgn z.c y) r) (mlD z.c (y+1) r) r.wk r.wd=D at *
 generalize hO:kF (fmD z.c (y+1) (bgn z.c y) r) (mlD z.c (y+1) r) r.wk r.wd=O at *
 refine aN ?_
 refine ak (aj (.inl rfl) ?_)
 have hrow:=hR.row
 have hi:=hR.i J
 have jl:2≤J.length:=by have:=aF hK;omega
 obtain⟨J1,hJ1⟩:∃ J1:Heap,J1=J++[.box (r.row.map .f) 0]:=⟨_,rfl⟩
 have z0:J1[0]?=some (.box (z.row.map .f) 0):=by rw [hJ1,ai (by omega)];exact hJ
 have z1:J1[1]?=some (.box (jg z cl n) 0):=by rw [hJ1,ai (by omega)];exact hK
 have zr:J1[J.length]?=some (.box (r.row.map .f) 0):=by rw [hJ1];simp
 have hL1:LR J1 cl 2 (aT raw):=by rw [hJ1];exact hL.push _
 have l1:J1.length=J.length+1:=by rw [hJ1];simp
 have hr5:(r.row.map C.f)=[.f (fi r.mo),.f (fi r.wk),.f (fi r.wd),.f (fi r.mi),.f (fi r.off)]:=rfl
 simp [g62,g64,hi,hrow,YrD.row]
 rw [←hr5,←hJ1]
 refine ak (aj (.inl rfl) ?_)
 have lz1:=nR z0 hc
 have lz2:=kM z0 hc
 have lr5:ldV J1 (some 5) (.c (.ptr J.length 0 0))=some (.a (r.row.map .f)):=by simp [ldV,zr,aO,YrD.row,aS]
 have lr3:ldV J1 none (.c (.ptr J.length 3 0))=some (vi r.mi):=by simp [ldV,zr,aO,YrD.row,aS]
 have lr4:ldV J1 none (.c (.ptr J.length 4 0))=some (vi r.off):=by simp [ldV,zr,aO,YrD.row,aS]
 simp [g1,g8,g9,lz1,lr5,hf,-aH]
 refine ak ?_
 refine aj (.inl rfl) ?_
 simp
 cases O with
 | false=>
  simp only [aL,if_false]at hraw
  rw [hraw,c7]at next
  refine ay (by simp) (aG (aK ?_))
  exact next _ J1 cl z0 z1 hL1 (by simp [g1]) (by simp [g4]) (by simp [g8]) (by simp [g9]) (by simp [g62]) (by simp [g63]) (by simp [g64])
 | true=>
  simp only [if_true]at hraw
  rw [hraw]at next
  refine aB (by simp) ?_
  refine aj (.inl rfl) ?_
  have w1:IntKind.i64.wrap (D*1440)=D*1440:=wrap64 (by omega) (by omega)
  have w2:IntKind.i64.wrap (D*1440+r.mi)=D*1440+r.mi:=wrap64 (by omega) (by omega)
  have w3:IntKind.i64.wrap (D*1440+r.mi-q.off)=D*1440+r.mi-q.off:=wrap64 (by omega) (by omega)
  have w4:IntKind.i64.wrap (1-(k:Int))=m:=by rw [wrap64 (by omega) (by omega),hkm]
  have hi':=hR.i' J1
  have aIO:=hR.of' J1
  have lkl:=zF z1 hc
  obtain⟨J2,hJ2⟩:∃ J2:Heap,J2=J1++[.box [.f (fi (D*1440+r.mi-q.off)),.f (fi r.off)] 0]:=⟨_,rfl⟩
  have y0:J2[0]?=some (.box (z.row.map .f) 0):=by rw [hJ2,ai (by omega)];exact z0
  have y1:J2[1]?=some (.box (jg z cl n) 0):=by rw [hJ2,ai (by omega)];exact z1
  have hL2:LR J2 cl 2 (aT raw):=by rw [hJ2];exact hL1.push _
  obtain⟨c3,J3,happ,hL3,hK3,hc3⟩:=hL2.app (dF _) (by decide) (row:=[fi (D*1440+r.mi-q.off),fi r.off]) rfl (bytes:=16) (iy (by simp;omega) (by decide)) (b1:=J1.length) (fl1:=0) (by rw [hJ2];simp)
  have x0:=hK3.2 _ _ y0 (hL2.dK y0)
  have x1:=hK3.2 _ _ y1 (hL2.dK y1)
  have hst:=aLO (cl':=c3) x1 hc
  have l2:J2.length=J1.length+1:=by rw [hJ2];simp
  have l3:=hK3.1
  have hn0:cO c3≠some 1:=hL3.dK x1
  simp [g1,g4,g64,lkl,lr3,lr4,lz2,hi',aIO,w1,w2,w3,w4,-aH,-bI]
  rw [←hJ2]
  simp [happ,hst,-aH,-bI]
  refine aK ?_
  refine next _ (J3.set 1 (.box (jg z c3 n) 0)) c3 (by rw [ag (by decide)];exact x0) (ax (by omega)) ?_ (by simp [g1]) (by simp [g4]) (by simp [g8]) (by simp [g9]) (by simp [g62]) (by simp [g63]) (by simp [g64])
  have e:aT raw++[[fi (D*1440+r.mi-q.off),fi r.off]]=aT (raw++[⟨D*1440+r.mi-q.off,r.off⟩]):=by simp [aT,TrD.row]
  rw [←e]
  exact hL3.set hn0 _
end Go.Proofs.YthfeogjbpgocbaaGreat
end
section
namespace Go.Proofs.YthfeogjbpgocbaaGreat
open Go Km
set_option maxRecDepth 100000 in
theorem aLE{z:ZD}(hc:z.c<3){r q:YrD}(hz:z.yr=[r,q])(hr:r.OK)(hq:q.OK){y:Nat}{n:Int}(hy:y<nY z.c)
  {t:T} {J:Heap} {cl:C} {raw:List TrD} (hJ:J[0]?=some (.box (z.row.map .f) 0)) (hK:J[1]?=some (.box (jg z cl n) 0)) (hL:LR J cl 2 (aT raw)) (hol:raw.length≤90)
  (g1:t.g 1=.c (.ptr 0 0 0)) (g4:t.g 4=.c (.ptr 1 0 0)) (g8:t.g 8=vi (bgn z.c y)) (g9:t.g 9=vi ((y:Int)+1)) {K:List dI} {Q:Option ah→St→Prop}
  (next:∀(t:T) (J:Heap) (cl:C),J[0]?=some (.box (z.row.map .f) 0)→J[1]?=some (.box (jg z cl n) 0)→LR J cl 2 (aT (raw++(gW z.c (y+1) r q++gW z.c (y+1) q r)))→t.g 1=.c (.ptr 0 0 0)→t.g 4=.c (.ptr 1 0 0)→t.g 8=vi (bgn z.c y)→t.g 9=vi ((y:Int)+1) →
   WP tab.get nI none K ⟨t,[],J⟩ Q) :
  WP tab.get nI none (.code Fe::K) ⟨t,[],J⟩ Q:=by
 refine ak (aj (.inl rfl) ?_)
 have hys:(bT z.yr).length=2:=by simp [hz]
 have hsl:∀ H:Heap,bM H (.f (sl z.yg (bT z.yr)))=some 2:=by intro H;rw [hz];rfl
 simp [g1,kM hJ hc,-aH,hsl]
 refine jo 2 (fun j t H=>H[0]?=some (.box (z.row.map .f) 0)∧t.g 1=.c (.ptr 0 0 0)∧t.g 4=.c (.ptr 1 0 0)∧t.g 8=vi (bgn z.c y)∧t.g 9=vi ((y:Int)+1)∧t.g 62=.c (.f (sl z.yg (bT z.yr))) ∧
   ∃ cl,H[1]?=some (.box (jg z cl n) 0)∧LR H cl 2 (aT (raw++((if 1≤j then gW z.c (y+1) r q else [])++(if 2≤j then gW z.c (y+1) q r else []))))) (by omega) (by decide) (by decide) (by simp) (by simp [hz])
  ⟨hJ,by simp [g1],by simp [g4],by simp [g8],by simp [g9],by simp,cl,hK,by simpa using hL⟩ ?_ ?_
 ·clear hJ hK hL g1 g4 g8 g9
  rintro j t J hj ⟨hJ,g1,g4,g8,g9,g62,cl,hK,hL⟩ ha hb nx
  have l1:=mY z.c (y+1) r q
  have hcase:j=0∨j=1:=by omega
  rcases hcase with rfl | rfl
  ·simp at hL
   refine ai7 hc (m:=1) (by rw [hz];exact aDY z.yg r q) (by decide) hr hq hy hJ hK hL (by omega) (by simp [g1]) (by simp [g4]) (by simp [g8]) (by simp [g9]) (by simp [g62]) (by simp [hb]) (by simp [ha]) ?_
   intro t J cl hJ hK hL g1 g4 g8 g9 g62 g63 g64
   refine nx _ _ ⟨hJ,by simp [g1],by simp [g4],by simp [g8],by simp [g9],by simp [g62],cl,hK,by simpa using hL⟩ (by simp [g64]) (by simp [g63])
  ·simp at hL
   refine ai7 hc (m:=0) (by rw [hz];exact aDX z.yg r q) (by decide) hq hr hy hJ hK hL (by simp;omega) (by simp [g1]) (by simp [g4]) (by simp [g8]) (by simp [g9]) (by simp [g62]) (by simp [hb]) (by simp [ha]) ?_
   intro t J cl hJ hK hL g1 g4 g8 g9 g62 g63 g64
   refine nx _ _ ⟨hJ,by simp [g1],by simp [g4],by simp [g8],by simp [g9],by simp [g62],cl,hK,by simpa using hL⟩ (by simp [g64]) (by simp [g63])
 ·clear hJ hK hL g1 g4 g8 g9
  rintro t J ⟨hJ,g1,g4,g8,g9,g62,cl,hK,hL⟩ ha hb
  exact next _ J cl hJ hK (by simpa using hL) (by simp [g1]) (by simp [g4]) (by simp [g8]) (by simp [g9])
end Go.Proofs.YthfeogjbpgocbaaGreat
end
section
namespace Go.Proofs.YthfeogjbpgocbaaGreat
open Go Km
set_option maxRecDepth 100000 in
theorem awn(z:ZD)(hc:z.c<3){r q:YrD}(hz:z.yr=[r,q])(hr:r.OK)(hq:q.OK){o:List TrD}(ho:iD (uw z.c r q (nY z.c)) o)(hs:eU o (cyc z.c*1440)=true):∃ g,
  Km.Pure tab.get nI [z.v]=Eq (.t [.c (.f (.fp (z.row++[sl g (aT o),fi (cyc z.c)]) 0)),vb true]):=by
 obtain⟨rr,⟨g,rfl⟩,hp⟩:∃ rr,(∃ g,rr=.t [.c (.f (.fp (z.row++[sl g (aT o),fi (cyc z.c)]) 0)),vb true])∧Km.Pure tab.get nI [z.v] rr:=by
  refine iM alk rfl fun Q hQ=>?_
  refine ak (aj (.inl rfl) ?_)
  simp
  have hz0:([.box (z.row.map .f) 0]:Heap)[0]?=some (.box (z.row.map .f) 0):=rfl
  have hcb:cyc z.c=91∨cyc z.c=217:=by unfold cyc lI;split<;>simp
  have hep:epC z.c=2∨epC z.c=5:=by unfold epC;split<;>simp
  have hend:=Iu hc
  have hny:=Em z.c
  have hl8:=ZD.Aa hc
  have hm8:(z.row.map C.f).length=8:=by simp [hl8]
  have hd:List.drop 10 (z.row.map C.f++[C.f .aA,C.f (fi 0)])=[]:=List.drop_eq_nil_of_le (by simp [hl8])
  refine ak (aj (.inl rfl) ?_)
  simp [kR hz0 hc,-aH,hl8,List.take_append,bA,hd]
  have aI4:z.row.map C.f++[C.f .aA,C.f (.int .i64 1)]=jg z (.f .aA) 1:=rfl
  rw [aI4]
  have k0:([.box (z.row.map .f) 0,.box (jg z (.f .aA) 1) 0]:Heap)[0]?=some (.box (z.row.map .f) 0):=rfl
  have k1:([.box (z.row.map .f) 0,.box (jg z (.f .aA) 1) 0]:Heap)[1]?=some (.box (jg z (.f .aA) 1) 0):=rfl
  refine ak ?_
  refine ak (aj (.inl rfl) ?_)
  simp [kM k0 hc,-aH,hz]
  refine ay (by simp) (aG ?_)
  refine ak (aj (.inl rfl) ?_)
  simp [nR k0 hc,-aH,DR hc]
  have s1:=aDU (n':=(lI z.c:Nat)) k1 hc
  simp only [d7,List.set_cons_zero]at s1
  refine ak (aj (.inl rfl) ?_)
  simp [s1,-bI]
  have m0:([.box (z.row.map .f) 0,.box (jg z (.f .aA) (lI z.c:Nat)) 0]:Heap)[0]?=some (.box (z.row.map .f) 0):=rfl
  have m1:([.box (z.row.map .f) 0,.box (jg z (.f .aA) (lI z.c:Nat)) 0]:Heap)[1]?=some (.box (jg z (.f .aA) (lI z.c:Nat)) 0):=rfl
  have hcd:lI z.c=13∨lI z.c=31:=by unfold lI;split<;>simp
  have hrm:bU .rem (vi (lI z.c:Nat)) (vi 7)=some (vi (((lI z.c:Nat):Int) % 7)):=oq (by omega) (by omega)
  refine ak ?_
  refine ak (aj (.inl rfl) ?_)
  simp [hrm]
  refine aB (by simp;omega) ?_
  have s2:=aDU (n':=cyc z.c) m1 hc
  simp only [d7,List.set_cons_zero]at s2
  have hw:IntKind.i64.wrap (((lI z.c:Nat):Int)*7)=cyc z.c:=by rw [wrap64 (by omega) (by omega)];unfold cyc;omega
  refine aj (.inl rfl) ?_
  simp [akm m1 hc,hw,s2,-aH,-bI]
  obtain⟨H0,hH0⟩:∃ H0:Heap,H0=[.box (z.row.map .f) 0,.box (jg z (.f .aA) (cyc z.c)) 0]:=⟨_,rfl⟩
  have n0:H0[0]?=some (.box (z.row.map .f) 0):=by rw [hH0];rfl
  have n1:H0[1]?=some (.box (jg z (.f .aA) (cyc z.c)) 0):=by rw [hH0];rfl
  rw [←hH0]
  clear m0 m1 k0 k1 s1 s2 hrm
  refine ak (aj (.inl rfl) ?_)
  simp [He n0 hc,-aH]
  refine ak ?_
  refine ak (aj (.inl rfl) ?_)
  simp
  refine aN ?_
  refine bK (fun n s=>∃(y:Nat) (t:T) (J:Heap) (cl:C),s=⟨t,[],J⟩∧n=nY z.c-y∧y≤nY z.c∧J[0]?=some (.box (z.row.map .f) 0)∧J[1]?=some (.box (jg z cl (cyc z.c)) 0)∧LR J cl 2 (aT (uw z.c r q y)) ∧
    t.g 1=.c (.ptr 0 0 0)∧t.g 4=.c (.ptr 1 0 0)∧t.g 8=vi (bgn z.c y)∧t.g 9=vi ((y:Int)+1)) (nY z.c)
   ⟨0,_,_,.f .aA,rfl,rfl,by omega,n0,n1,LR.nil _ _,by simp,by simp,by simp [bgn],by simp⟩ ?_
  rintro n s ⟨y,t,J,cl,rfl,rfl,hy,hJ,hK,hL,g1,g4,g8,g9⟩ ih
  obtain⟨b0,b1⟩:=CV hc hy
  refine ak ?_
  refine ak (aj (.inl rfl) ?_)
  simp [g1,g4,g8,He hJ hc,akm hK hc,-aH,wrap64 (n:=epC z.c+cyc z.c) (by omega) (by omega)]
  by_cases hlt:y<nY z.c
  ·have h1:=Ir z.c hlt
   refine aB (by simp;omega) (aG ?_)
   refine ak ?_
   refine aN ?_
   refine ak ?_
   have hrl:=mW z.c r q y
   refine aLE hc hz hr hq hlt hJ hK hL (by omega) (by simp [g1]) (by simp [g4]) (by simp [g8]) (by simp [g9]) ?_
   clear g1 g4 g8 g9 hJ hK hL
   intro t J cl hJ hK hL g1 g4 g8 g9
   have hyl:=LX hc (y:=y+1) (by omega) (by omega)
   rw [show((y+1:Nat):Int)=(y:Int)+1 by omega]at hyl
   have hyb:xX z.c (y+1)≤18:=by
    have h1:=jG z.c (y+1) 1
    have h2:=jG z.c (y+1) 2
    unfold xX;omega
   refine aj (.inl rfl) ?_
   simp [g1,g8,g9,nR hJ hc,-aH,hyl,wrap64 (n:=bgn z.c y+(xX z.c (y+1):Nat)) (by omega) (by omega)]
   refine aK ?_
   refine aj (.inl rfl) ?_
   simp [g9,wrap64 (n:=(y:Int)+1+1) (by omega) (by omega)]
   exact ih (nY z.c-(y+1)) _ (by omega) ⟨y+1,_,J,cl,rfl,rfl,by omega,hJ,hK,hL,by simp [g1],by simp [g4],by simp [bgn],by simp⟩
  have hyn:y=nY z.c:=by omega
  subst hyn
  rw [hend]
  refine ay (by simp) ?_
  refine bf (k':=[.code Fa]) rfl ?_
  have hrl:=mW z.c r q (nY z.c)
  obtain⟨J2,hE,hKb,l2,hL2,hpm,hsr⟩:=aiV hL (by omega)
  rw [Um ho hs hpm hsr]at hL2
  have x0:=hKb.2 _ _ hJ (hL.dK hJ)
  have x1:=hKb.2 _ _ hK (hL.dK hK)
  have hEq:=hE.eq
  refine ak (aj (.inl rfl) ?_)
  simp [g4,zF hK hc,-aH,hEq]
  clear ih hL hJ hK hE hEq hKb g8 g9
  have hol:o.length≤28:=by have:=ho.len;omega
  have hbd:∀ x ∈ o,AtB x:=fun x hx=>wG hc hr hq _ (aw _) x (ho.perm.subset hx)
  refine ak ?_
  refine ak (aj (.inl rfl) ?_)
  simp [g4,zF x1 hc,-aH,hL2.len]
  refine jo o.length (fun j t H=>H[0]?=some (.box (z.row.map .f) 0)∧H[1]?=some (.box (jg z cl (cyc z.c)) 0)∧LR H cl 2 (aT o)∧t.g 4=.c (.ptr 1 0 0)∧t.g 119=.c cl) (by omega) (by decide) (by decide) (by simp) (by simp)
   ⟨x0,x1,hL2,by simp [g4],by simp⟩ ?_ ?_
  ·clear g4 x0 x1 hL2
   rintro i t J hil ⟨x0,x1,hL,g4,NZ⟩ ha hb nx
   rcases hL with⟨h,_⟩ | ⟨hne,b,ep,rfl,hb2⟩
   ·have:o=[]:=by simpa [aT]using h
    subst this;simp at hil
   rw [o9]at NZ x1 nx
   have hgr:=dF o
   have o0:0<o.length:=by omega
   obtain⟨J1,hJ1⟩:∃ J1:Heap,J1=J++[.box (o[i].row.map .f) 0]:=⟨_,rfl⟩
   have hb3:RB J1 b 2 ep (aT o):=by rw [hJ1];exact hb2.push _
   have jl:2≤J.length:=by have:=aF x1;omega
   have y0:J1[0]?=some (.box (z.row.map .f) 0):=by rw [hJ1,ai (by omega)];exact x0
   have y1:J1[1]?=some (.box (jg z (.sl b 0 o.length 0 ep 2) (cyc z.c)) 0):=by rw [hJ1,ai (by omega)];exact x1
   have yr:J1[J.length]?=some (.box (o[i].row.map .f) 0):=by rw [hJ1];simp
   have idx:∀ {K:Heap} (_:RB K b 2 ep (aT o)) (k:Nat),k<o.length→aU K 2 none (.c (.sl b 0 o.length 0 ep 2)) (vi k)=some (.c (.ptr b (k*2) ep)):=fun hK k hk=>by
    have:=hK.idx (n:=o.length) (c:=0) (k:=.i64) (o:=0) (i:=(k:Int)) (by omega) (by omega)
    simpa using this
   have Va:∀ k:Nat,(hk:k<o.length)→ldV J1 none (.c (.ptr b (k*2) ep))=some (vi o[k].at_):=fun k hk=>by
    have:=hb3.ldc hgr (fD (ae hk)) (k:=0) (x:=fi o[k].at_) rfl
    simpa using this
   have rw1:=hb2.ldr hgr (fD (ae hil))
   have l15:ldV J1 none (.c (.ptr J.length 0 0))=some (vi o[i].at_):=by simp [ldV,yr,aO,TrD.row,aS]
   have hb0:=hbd _ (av o0)
   have hbi:=hbd _ (av hil)
   unfold AtB at hb0 hbi
   have i0:=idx hb3 0 o0
   have l0:=Va 0 o0
   simp [-aH]at i0 l0
   have ii:=idx hb2 i hil
   have hmin:=(Ny (akm y1 hc) ⟨_,_,y1⟩ (by omega) (by omega)).eq
   have w2:IntKind.i64.wrap (o[0].at_+cyc z.c*1440)=o[0].at_+cyc z.c*1440:=wrap64 (by omega) (by omega)
   have w3:IntKind.i64.wrap ((i:Int)+1)=(i:Int)+1:=wrap64 (by omega) (by omega)
   have hrr:o[i].row.map C.f=[.f (fi o[i].at_),.f (fi o[i].off)]:=rfl
   refine aN ?_
   refine ak (aj (.inl rfl) ?_)
   rw [hrr]at rw1 hJ1
   simp [NZ,ha,ii,rw1,-aH]
   rw [←hJ1]
   refine ak (ny (.inl rfl) ?_ ?_)
   case refine_2=>
    intro c hcm
    have hcc:c=(3,11)∨c=(4,11)∨c=(6,11):=by simpa using hcm
    rcases hcc with rfl | rfl | rfl
    all_goals
     refine⟨by decide,_,rfl,.inl ⟨by decide,?_⟩⟩
     simp [g4,zF y1 hc,i0,l0,hmin,w2,sS,-aH]
     first | rfl | simp [V.beq,C.beq,FC.beq]
   simp [g4,zF y1 hc,i0,l0,hmin,w2,-aH]
   have hsp:2160≤fJ o (cyc z.c*1440) i-o[i].at_:=by
    have h1:=aM.1 hs i (by simpa using hil)
    simp only [ae hil]at h1
    exact of_decide_eq_true h1
   have tail:∀ t:T,t.g 4=.c (.ptr 1 0 0)→t.g 119=.c (.sl b 0 o.length 0 ep 2)→t.g 121=vi (i:Nat)→t.g 120=vi o.length→t.g 15=.c (.ptr J.length 0 0)→t.g 16=vi (fJ o (cyc z.c*1440) i)→fJ o (cyc z.c*1440) i≤900000 →
     WP tab.get nI none [.code E5,.inBlock 5,.code (azX 121 158),.inLoop (Gw 4 121 120 122 158 E8),.inBlock 4,.code EZ] ⟨t,[],J1⟩ Q:=by
    intro t g4 NZ aTr aTs g15 g16 n1
    refine ak (aj (.inl rfl) ?_)
    simp [g15,g16,l15,-aH,wrap64 (n:=fJ o (cyc z.c*1440) i-o[i].at_) (by omega) (by omega)]
    refine ay (by simp;omega) (aG (aK ?_))
    exact nx _ _ ⟨y0,y1,.inr ⟨hne,b,ep,by rw [o9],hb3⟩,by simp [g4],by simp [NZ]⟩ (by simp [aTr]) (by simp [aTs])
   refine ak ?_
   by_cases hnx:i+1<o.length
   ·have i1:=idx hb3 (i+1) hnx
    have l1:=Va (i+1) hnx
    have hb1:=hbd _ (av hnx)
    unfold AtB at hb1
    rw [show((i+1:Nat):Int)=(i:Int)+1 by omega]at i1
    have hn:fJ o (cyc z.c*1440) i=o[i+1].at_:=by simp [fJ,ae hnx]
    rw [hn]at tail hsp
    refine ak (aj (.inl rfl) ?_)
    simp [g4,zF y1 hc,w3,hb3.len,-aH]
    refine aB (by simp;omega) ?_
    refine aj (.inl rfl) ?_
    simp [g4,zF y1 hc,w3,i1,l1,-aH]
    exact tail _ (by simp [g4]) (by simp [NZ]) (by simp [ha]) (by simp [hb]) (by simp) (by simp) (by omega)
   ·have hn:fJ o (cyc z.c*1440) i=o[0].at_+cyc z.c*1440:=by
     simp [fJ,cC.2 (show o.length≤i+1 by omega),ae o0]
    rw [hn]at tail hsp
    refine ak (aj (.inl rfl) ?_)
    simp [g4,zF y1 hc,w3,hb3.len,-aH]
    refine ay (by simp;omega) (aG ?_)
    exact tail _ (by simp [g4]) (by simp [NZ]) (by simp [ha]) (by simp [hb]) (by simp) (by simp) (by omega)
  ·clear g4 x0 x1 hL2
   rintro t J ⟨x0,x1,hL,g4,NZ⟩ ha hb
   obtain⟨g',hg'⟩:=hL.ex (dF _) 62
   refine ak (aj (.inl rfl) ?_)
   simp [g4]
   refine aP (hQ _ _ (.t [.c (.f (.fp (z.row++[sl g' (aT o),fi (cyc z.c)]) 0)),vb true]) ⟨g',rfl⟩ ?_)
   have hx:bC (exC 63 J) (jg z cl (cyc z.c))=some (z.row++[sl g' (aT o),fi (cyc z.c)]):=by
    refine nP (vM _) ?_
    have:exC 63 J cl=some (sl g' (aT o)):=hg'
    simp [bC,this,exC]
   simp [exV,dN,deep,bC,g4,exC,x1,hx]
 exact⟨g,Km.Pure.eq hp⟩
end Go.Proofs.YthfeogjbpgocbaaGreat
end
section
namespace Go.Proofs.YthfeogjbpgocbaaGreat
open Go Km
set_option maxRecDepth 100000 in
theorem aiL(z:ZD)(hc:z.c<3)(hz:z.yr=[]):Km.Pure tab.get nI [z.v]=Eq (.t [.c (.f (.fp (z.row++[.aA,fi 1]) 0)),vb true]):=Km.Pure.eq (by
 refine cu alk rfl fun Q hQ=>?_
 refine ak (aj (.inl rfl) ?_)
 simp
 have hz0:([.box (z.row.map .f) 0]:Heap)[0]?=some (.box (z.row.map .f) 0):=rfl
 have hl8:=ZD.Aa hc
 have hd:List.drop 10 (z.row.map C.f++[C.f .aA,C.f (fi 0)])=[]:=List.drop_eq_nil_of_le (by simp [hl8])
 refine ak (aj (.inl rfl) ?_)
 simp [kR hz0 hc,-aH,hl8,List.take_append,bA,hd]
 have aI4:z.row.map C.f++[C.f .aA,C.f (.int .i64 1)]=jg z (.f .aA) 1:=rfl
 rw [aI4]
 have k0:([.box (z.row.map .f) 0,.box (jg z (.f .aA) 1) 0]:Heap)[0]?=some (.box (z.row.map .f) 0):=rfl
 refine ak ?_
 refine ak (aj (.inl rfl) ?_)
 have hsl:∀ H:Heap,bM H (.f (sl z.yg (bT z.yr)))=some 0:=by intro H;rw [hz];cases z.yg<;>rfl
 simp [kM k0 hc,-aH,hsl]
 refine aB (by simp [hz]) ?_
 refine ak (aj (.inl rfl) ?_)
 simp
 refine aP (hQ _ _ ?_)
 have hx:∀ J:Heap,bC (exC 63 J) (jg z (.f .aA) 1)=some (z.row++[.aA,fi 1]):=fun J=>by
  refine nP (vM _) ?_
  simp [bC,exC]
 simp [dN,deep,bC,exC,hx])
end Go.Proofs.YthfeogjbpgocbaaGreat
end
section
namespace Go.Proofs.YthfeogjbpgocbaaGreat
open Go Km
end Go.Proofs.YthfeogjbpgocbaaGreat
end
section
namespace Go.Proofs.YthfeogjbpgocbaaGreat
open Go Km
def turns(o:List TrD)(size t:Int):Int:=match o[0]? with
 | some x=>if x.at_<t then(t-x.at_) / size else 0
 | none=>0
def lJ(o:List TrD)(size t k:Int):Option TrD:=(o.find? fun x=>decide (t≤x.at_+k*size)).map fun x=>⟨x.at_+k*size,x.off⟩
def aft(o:List TrD)(size t:Int):Option TrD:=(lJ o size t (turns o size t)).or (lJ o size t (turns o size t+1))
theorem Tn{p:TrD→Bool}{l:List TrD}{i:Nat}{x:TrD}(h:l[i]?=some x)(h0:∀ j y,j<i→l[j]?=some y→p y=false)(hp:p x=true):l.find? p=some x:=by
 obtain⟨hi,rfl⟩:=al.1 h
 rw [ec]
 exact⟨hp,i,hi,rfl,fun j hj=>by have:=h0 j l[j] hj (ae (by omega));simpa using this⟩
set_option maxRecDepth 100000 in
theorem OB(g:Tg)(o:List TrD)(h0:0<o.length)(hl:o.length≤1000)(hbd:∀ x ∈ o,AtB x)(n t:Int)(n0:1≤n)(n1:n≤1000)(t0:-1000000≤t)(t1:t≤1000000) :
  ∃ x,aft o (n*1440) t=some x∧Km.Pure tab.get yZ [.c (.f (sl g (aT o))),vi n,vi t]=Eq (.t [.a (x.row.map .f),vb true]):=by
 obtain⟨rr,⟨x,hx,rfl⟩,hp⟩:∃ rr,(∃ x,aft o (n*1440) t=some x∧rr=.t [.a (x.row.map .f),vb true])∧Km.Pure tab.get yZ [.c (.f (sl g (aT o))),vi n,vi t] rr:=by
  refine iM alr rfl fun Q hQ=>?_
  have hb0:=hbd _ (av h0)
  unfold AtB at hb0
  obtain⟨K,hK⟩:∃ K,K=turns o (n*1440) t:=⟨_,rfl⟩
  have hKd:K=if o[0].at_<t then(t-o[0].at_) / (n*1440)else 0:=by rw [hK];simp [turns,ae h0]
  have hs0:0<n*1440:=by omega
  have q0:=bN (t-o[0].at_) (n*1440)
  have q1:=b5 (t-o[0].at_) (show n*1440≠0 by omega)
  have q2:=cm (t-o[0].at_) hs0
  have hK0:0≤K:=by rw [hKd];split;exact c8 (by omega) (by omega);omega
  have hKs:K*(n*1440)≤2000000∧t≤o[0].at_+(K+1)*(n*1440):=by
   rw [hKd]
   split
   ·rw [dr,dj,db ((t-o[0].at_) / (n*1440))];omega
   ·omega
  have aTp:0≤K*(n*1440):=d8 hK0 (by omega)
  have hK1:K≤2000000:=by
   have:K*1≤K*(n*1440):=c9 (by omega) hK0
   omega
  have hgr:=dF o
  have hlen:∀ H:Heap,bM H (.f (sl g (aT o)))=some o.length:=fun H=>by
   have hne:¬ (aT o).isEmpty=true:=by
    intro h
    have:o=[]:=by simpa [aT]using h
    subst this;simp at h0
   simp [sl,hne,bM]
  have idx:∀(H:Heap) (i:Nat),i<o.length→aU H 2 none (.c (.f (sl g (aT o)))) (vi i)=some (.c (.f (.fp (aT o).flatten (i*2)))):=fun H i hi=>by
   have:=gX (H:=H) (g:=g) (rows:=aT o) (sz:=2) (k:=.i64) (i:=(i:Int)) (by omega) (by simp;omega)
   simpa using this
  have lat:∀(H:Heap) (i:Nat) (hi:i<o.length),ldV H none (.c (.f (.fp (aT o).flatten (i*2))))=some (vi o[i].at_):=fun H i hi=>pV hgr (fD (ae hi)) rfl
  have lof:∀(H:Heap) (i:Nat) (hi:i<o.length),ldV H none (.c (.f (.fp (aT o).flatten (i*2+1))))=some (vi o[i].off):=fun H i hi=>NR (k:=1) hgr (fD (ae hi)) rfl
  have i0:=fun H=>idx H 0 h0
  have l0:=fun H=>lat H 0 h0
  simp only [Nat.zero_mul,eo]at i0 l0
  refine ak (aj (.inl rfl) ?_)
  simp
  refine ak ?_
  refine ak (aj (.inl rfl) ?_)
  simp [hlen]
  refine ay (by simp;rintro rfl;simp at h0) (aG ?_)
  refine ak (aj (.inl rfl) ?_)
  simp [wrap64 (n:=n*1440) (by omega) (by omega)]
  refine ak (aj (.inl rfl) ?_)
  simp
  refine ak ?_
  have main:∀ t':T,t'.g 0=.c (.f (sl g (aT o)))→t'.g 2=vi t→t'.g 6=.c (.ptr 0 0 0)→t'.g 8=vi (n*1440)→t'.g 9=vi K→WP tab.get yZ none [.code FN] ⟨t',[],[.box [.f (fi 0),.f (fi 0)] 0]⟩ Q:=by
   intro t' g0 g2 g6 g8 g9
   refine ak (aj (.inl rfl) ?_)
   simp [g9]
   refine aN ?_
   refine bK (fun m s=>∃(e:Int) (t':T),s=⟨t',[],[.box [.f (fi 0),.f (fi 0)] 0]⟩∧(e=0∧m=1∨e=1∧m=0∧lJ o (n*1440) t K=none)∧t'.g 0=.c (.f (sl g (aT o)))∧t'.g 2=vi t∧t'.g 6=.c (.ptr 0 0 0)∧t'.g 8=vi (n*1440)∧t'.g 10=vi (K+e)) 1
    ⟨0,_,rfl,.inl ⟨rfl,rfl⟩,by simp [g0],by simp [g2],by simp [g6],by simp [g8],by simp⟩ ?_
   clear g0 g2 g6 g8 g9
   rintro m s ⟨e,t',rfl,he,g0,g2,g6,g8,g10⟩ ih
   have hKe:0≤(K+e)*(n*1440)∧(K+e)*(n*1440)≤4000000:=by
    rcases he with⟨rfl,-⟩ | ⟨rfl,-⟩
    ·rw [dc];omega
    ·rw [dr,dj];omega
   refine ak ?_
   refine aN ?_
   refine ak (aj (.inl rfl) ?_)
   simp
   refine aN ?_
   refine bK (fun m' s=>∃(i:Nat) (t':T),s=⟨t',[],[.box [.f (fi 0),.f (fi 0)] 0]⟩∧m'=o.length-i∧i≤o.length∧(∀ j y,j<i→o[j]?=some y→decide (t≤y.at_+(K+e)*(n*1440))=false) ∧
     t'.g 0=.c (.f (sl g (aT o)))∧t'.g 2=vi t∧t'.g 6=.c (.ptr 0 0 0)∧t'.g 8=vi (n*1440)∧t'.g 10=vi (K+e)∧t'.g 11=vi (i:Nat)) o.length
    ⟨0,_,rfl,rfl,by omega,fun j y h=>absurd h (by omega),by simp [g0],by simp [g2],by simp [g6],by simp [g8],by simp [g10],by simp⟩ ?_
   clear g0 g2 g6 g8 g10
   rintro m' s ⟨i,t',rfl,rfl,hi,hno,g0,g2,g6,g8,g10,g11⟩ ih2
   refine ak ?_
   refine ak (aj (.inl rfl) ?_)
   simp [g0,g11,hlen]
   by_cases hil:i<o.length
   case neg=>
    have hnone:lJ o (n*1440) t (K+e)=none:=by
     have:o.find? (fun x=>decide (t≤x.at_+(K+e)*(n*1440)))=none:=by
      rw [eg]
      intro x hx
      obtain⟨j,hj,rfl⟩:=bk hx
      have:=hno j o[j] (by omega) (ae hj)
      simp [this]
     simp [lJ,this]
    rcases he with⟨rfl,rfl⟩ | ⟨rfl,rfl,-⟩
    ·rw [dc]at hnone
     refine ay (by simp;omega) ?_
     refine bf (k':=[.inBlock 1,.code FK,.inLoop FM,.inBlock 0]) rfl ?_
     refine aK ?_
     refine aj (.inl rfl) ?_
     simp [g10,wrap64 (n:=K+1) (by omega) (by omega)]
     exact ih 0 _ (by omega) ⟨1,_,rfl,.inr ⟨rfl,rfl,hnone⟩,by simp [g0],by simp [g2],by simp [g6],by simp [g8],by simp⟩
    ·exfalso
     have:=hno 0 o[0] (by omega) (ae h0)
     have h2:=of_decide_eq_false this
     exact h2 hKs.2
   refine aB (by simp [hil]) (aG ?_)
   refine ak ?_
   refine aN ?_
   have hbi:=hbd _ (av hil)
   unfold AtB at hbi
   have ii:=fun H=>idx H i hil
   have li:=fun H=>lat H i hil
   have oi:=fun H=>lof H i hil
   have w1:IntKind.i64.wrap ((K+e)*(n*1440))=(K+e)*(n*1440):=wrap64 (by omega) (by omega)
   have w2:IntKind.i64.wrap (o[i].at_+(K+e)*(n*1440))=o[i].at_+(K+e)*(n*1440):=wrap64 (by omega) (by omega)
   refine ak (aj (.inl rfl) ?_)
   simp [g0,g2,g8,g10,g11,ii,li,w1,w2]
   by_cases hge:t≤o[i].at_+(K+e)*(n*1440)
   ·refine aB (by simp [hge]) ?_
    refine ak (aj (.inl rfl) ?_)
    simp [g0,g6,g8,g10,g11,ii,li,oi,w1,w2]
    have hfk:lJ o (n*1440) t (K+e)=some ⟨o[i].at_+(K+e)*(n*1440),o[i].off⟩:=by
     have:=Tn (p:=fun x=>decide (t≤x.at_+(K+e)*(n*1440))) (ae hil) (fun j y hj hy=>hno j y hj hy) (by simp [hge])
     simp [lJ,this]
    have hfin:aft o (n*1440) t=some ⟨o[i].at_+(K+e)*(n*1440),o[i].off⟩:=by
     unfold aft
     rw [←hK]
     rcases he with⟨rfl,-⟩ | ⟨rfl,-,hn⟩
     ·rw [dc]at hfk ⊢;rw [hfk];rfl
     ·rw [hn,hfk];rfl
    refine aP (hQ _ _ _ ⟨_,hfin,rfl⟩ ?_)
    simp [TrD.row,g6]
   ·refine ay (by simp;omega) (aG (aK ?_))
    refine aj (.inl rfl) ?_
    simp [g11,wrap64 (n:=(i:Int)+1) (by omega) (by omega)]
    refine ih2 (o.length-(i+1)) _ (by omega) ⟨i+1,_,rfl,rfl,by omega,fun j y hj hy=>?_,by simp [g0],by simp [g2],by simp [g6],by simp [g8],by simp [g10],by simp⟩
    by_cases hji:j=i
    ·subst hji
     rw [ae hil]at hy;cases hy
     exact decide_eq_false hge
    ·exact hno j y (by omega) hy
  by_cases hlt:o[0].at_<t
  ·rw [if_pos hlt]at hKd
   have hqv:bU .quo (vi (t-o[0].at_)) (vi (n*1440))=some (vi K):=by rw [hKd];exact MW (by omega) hs0 (by omega)
   refine ak (aj (.inl rfl) ?_)
   simp [i0,l0]
   refine aB (by simp [hlt]) ?_
   refine aj (.inl rfl) ?_
   simp [i0,l0,wrap64 (n:=t-o[0].at_) (by omega) (by omega),hqv]
   exact main _ (by simp) (by simp) (by simp) (by simp) (by simp)
  ·rw [if_neg hlt]at hKd
   refine ak (aj (.inl rfl) ?_)
   simp [i0,l0]
   refine ay (by simp [hlt]) (aG ?_)
   exact main _ (by simp) (by simp) (by simp) (by simp) (by simp [hKd])
 exact⟨x,hx,Km.Pure.eq hp⟩
end Go.Proofs.YthfeogjbpgocbaaGreat
end
section
namespace Go.Proofs.YthfeogjbpgocbaaGreat
open Go Km
def Mem(o:List TrD)(size:Int)(x:TrD):Prop:=∃(k:Nat) (y:TrD),y ∈ o∧x=⟨y.at_+k*size,y.off⟩
def aAT(tr o:List TrD)(size hor:Int)(x:TrD):Prop:=x ∈ tr∨Mem o size x∧hor≤x.at_
def Last(P:TrD→Prop)(t:Int):Option TrD→Prop
 | some x=>P x∧x.at_≤t∧∀ y,P y→y.at_≤t→y.at_≤x.at_
 | none=>∀ y,P y→t<y.at_
def Apart(P:TrD→Prop):Prop:=∀ x y,P x→P y→x.at_+2160≤y.at_∨y.at_+2160≤x.at_∨x=y
theorem Last.uniq{P:TrD→Prop}{t:Int}(hA:Apart P):∀ {r q:Option TrD},Last P t r→Last P t q→r=q
 | none,none,_,_=>rfl
 | none,some y,h1,h2=>by have h3:=h1 y h2.1;have h4:=h2.2.1;omega
 | some x,none,h1,h2=>by have h3:=h2 x h1.1;have h4:=h1.2.1;omega
 | some x,some y,h1,h2=>by
  have a:=h1.2.2 y h2.1 h2.2.1
  have b:=h2.2.2 x h1.1 h1.2.1
  rcases hA x y h1.1 h2.1 with h | h | h
  ·omega
  ·omega
  ·rw [h]
section
variable{o:List TrD}{size:Int}
theorem iQ(h:eU o size=true){i j:Nat}(hij:i<j)(hj:j<o.length):o[i].at_+2160≤o[j].at_:=by
 have h1:=D8 h i o[i] o[i+1] (ae (by omega)) (ae (by omega))
 rcases b9 (show i+1≤j by omega)with h2 | h2
 ·have h3:=cD.1 (nX h) (i+1) j (by omega) hj h2
  unfold TLt at h3;omega
 ·subst h2;exact h1
theorem Jl(h:eU o size=true){i:Nat}(hi:i<o.length):o[i].at_+2160≤(o[0]'(by omega)).at_+size:=by
 have hn:o.length-1<o.length:=by omega
 have h1:=aM.1 h (o.length-1) (by simpa using hn)
 simp only [ae hn,fJ,cC.2 (show o.length≤o.length-1+1 by omega),ae (show 0<o.length by omega)]at h1
 have h2:=of_decide_eq_true h1
 rcases b9 (show i≤o.length-1 by omega)with h3 | h3
 ·have:=iQ h h3 hn;omega
 ·subst h3;omega
theorem ng{k m:Nat}(hs:0≤size)(h:k<m):(k:Int)*size+size≤(m:Int)*size:=by
 have:=Int.mul_le_mul_of_nonneg_right (show((k:Int)+1)≤(m:Int) by omega) hs
 rw [dr,dj]at this
 exact this
theorem jY(h:eU o size=true){x:TrD}(hx:x ∈ o):∃ h0:0<o.length,o[0].at_≤x.at_∧x.at_+2160≤o[0].at_+size:=by
 obtain⟨i,hi,rfl⟩:=bk hx
 refine⟨by omega,?_,Jl h hi⟩
 rcases cL i with rfl | h1
 ·omega
 ·have:=iQ h h1 hi;omega
theorem U1(h:eU o size=true)(hs:0≤size):Apart (Mem o size):=by
 rintro x y ⟨k,a,ha,rfl⟩ ⟨m,b,hb,rfl⟩
 obtain⟨h0,a1,a2⟩:=jY h ha
 obtain⟨_,b1,b2⟩:=jY h hb
 simp only
 rcases bO k m with e | e | e
 ·have:=ng hs e;left;omega
 ·subst e
  obtain⟨i,hi,rfl⟩:=bk ha
  obtain⟨j,hj,rfl⟩:=bk hb
  rcases bO i j with e | e | e
  ·have:=iQ h e hj;left;omega
  ·subst e;right;right;rfl
  ·have:=iQ h e hi;right;left;omega
 ·have:=ng hs e;right;left;omega
theorem Am(h:eU o size=true){t k:Int}{x:TrD}(hx:lJ o size t k=some x):(∃ y ∈ o,x=⟨y.at_+k*size,y.off⟩)∧t≤x.at_∧∀ b ∈ o,t≤b.at_+k*size→x.at_≤b.at_+k*size:=by
 unfold lJ at hx
 rw [an]at hx
 obtain⟨y,hy,rfl⟩:=hx
 rw [ec]at hy
 obtain⟨hp,i,hi,rfl,hn⟩:=hy
 have hp:=of_decide_eq_true hp
 refine⟨⟨_,av hi,rfl⟩,hp,fun b hb hbt=>?_⟩
 obtain⟨j,hj,rfl⟩:=bk hb
 rcases bO i j with e | e | e
 ·have:=iQ h e hj;simp only;omega
 ·subst e;exact de _
 ·have h1:=hn j e
  simp at h1
  omega
theorem TM{t k:Int}(hx:lJ o size t k=none):∀ b ∈ o,b.at_+k*size<t:=by
 intro b hb
 unfold lJ at hx
 rw [Option.map_eq_none_iff,eg]at hx
 have:=hx b hb
 simp at this
 exact this
theorem aJT(h:eU o size=true)(hs:0<size){t:Int}{x:TrD}(hx:aft o size t=some x):∀ y,Mem o size y→t≤y.at_→x.at_≤y.at_:=by
 rintro y ⟨m,b,hb,rfl⟩ hy
 simp only at hy ⊢
 obtain⟨h0,b1,b2⟩:=jY h hb
 have hK:turns o size t=if o[0].at_<t then(t-o[0].at_) / size else 0:=by unfold turns;rw [ae h0]
 have hK0:0≤turns o size t:=by rw [hK];split;exact c8 (by omega) (by omega);omega
 have q0:=bN (t-o[0].at_) size
 have q1:=b5 (t-o[0].at_) (show size≠0 by omega)
 have hKt:turns o size t=0∨o[0].at_+turns o size t*size≤t:=by
  rw [hK];split
  ·right;rw [db];omega
  ·left;rfl
 obtain⟨K,eK⟩:∃ K:Nat,turns o size t=(K:Int):=⟨(turns o size t).toNat,by omega⟩
 unfold aft at hx
 rw [eK]at hx hKt
 have hmK:K≤m:=by
  rcases Nat.lt_or_ge m K with e | e
  ·exfalso
   have h1:=ng (size:=size) (by omega) e
   rcases hKt with h2 | h2
   ·omega
   ·omega
  ·exact e
 cases h1:lJ o size t (K:Int)with
 | some z=>
  rw [h1]at hx;simp at hx;subst hx
  obtain⟨⟨w,hw,rfl⟩,_,h3⟩:=Am h h1
  obtain⟨_,w1,w2⟩:=jY h hw
  rcases b9 hmK with e | e
  ·have:=ng (size:=size) (by omega) e;simp only;omega
  ·subst e;exact h3 b hb hy
 | none=>
  rw [h1]at hx
  simp at hx
  have h3:=TM h1
  rcases b9 hmK with e | e
  ·obtain⟨⟨w,hw,rfl⟩,_,h4⟩:=Am h hx
   obtain⟨_,w1,w2⟩:=jY h hw
   rcases b9 (show K+1≤m by omega)with e2 | e2
   ·have:=ng (size:=size) (by omega) e2
    rw [show((K+1:Nat):Int)=(K:Int)+1 by omega]at this
    simp only;omega
   ·subst e2
    rw [show((K+1:Nat):Int)=(K:Int)+1 by omega]at hy ⊢
    exact h4 b hb hy
  ·subst e
   have:=h3 b hb;omega
end
structure OKZ(z:ZD)(o:List TrD):Prop where
 c:z.c<3
 st:-1080≤z.start∧z.start≤1080
 tl:z.tr.length≤3
 tb:∀ x ∈ z.tr,0≤x.at_∧x.at_<z.hor∧-1080≤x.off∧x.off≤1080
 ts:∀(i:Nat) x y,z.tr[i]?=some x→z.tr[i+1]?=some y→x.at_+2160≤y.at_
 ho:0≤z.hor∧z.hor≤40000
 y:(z.yr=[]∧o=[])∨∃ r q,z.yr=[r,q]∧r.OK∧q.OK∧iD (uw z.c r q (nY z.c)) o∧eU o (Go.Proofs.YthfeogjbpgocbaaGreat.cyc z.c*1440)=true ∧
  ∀ x a,aft o (Go.Proofs.YthfeogjbpgocbaaGreat.cyc z.c*1440) z.hor=some x→a ∈ z.tr→a.at_+2160≤x.at_
theorem xZ:∀ {l:List TrD},(∀(i:Nat) x y,l[i]?=some x→l[i+1]?=some y→x.at_+2160≤y.at_)→∀(i j:Nat) (hij:i<j) (hj:j<l.length),l[i].at_+2160≤l[j].at_:=by
 intro l h i j hij hj
 have h1:=h i l[i] l[i+1] (ae (by omega)) (ae (by omega))
 rcases b9 (show i+1≤j by omega)with h2 | h2
 ·have h3:=cD.1 (tJ h) (i+1) j (by omega) hj h2
  unfold TLt at h3;omega
 ·subst h2;exact h1
theorem OKZ.aAI{z:ZD}{o:List TrD}(h:OKZ z o):1≤z.cyc∧z.cyc≤217:=by
 unfold ZD.cyc;split
 ·omega
 ·have:cyc z.c=91∨cyc z.c=217:=by unfold cyc lI;split<;>simp
  omega
theorem OKZ.sp{z:ZD}{o:List TrD}(h:OKZ z o):eU o (z.cyc*1440)=true:=by
 rcases h.y with⟨e,rfl⟩ | ⟨r,q,e,-,-,-,hs,-⟩
 ·rfl
 ·have:z.cyc=cyc z.c:=by simp [ZD.cyc,e]
  rw [this];exact hs
theorem OKZ.apart{z:ZD}{o:List TrD}(h:OKZ z o):Apart (aAT z.tr o (z.cyc*1440) z.hor):=by
 have hc:=h.aAI
 have hm:=U1 h.sp (by omega)
 have cross:∀ x y,x ∈ z.tr→Mem o (z.cyc*1440) y→z.hor≤y.at_→x.at_+2160≤y.at_:=by
  intro x y hx hy hh
  rcases h.y with⟨e,rfl⟩ | ⟨r,q,e,-,-,-,hs,ha⟩
  ·obtain⟨k,b,hb,_⟩:=hy;cases hb
  ·have hcy:z.cyc=cyc z.c:=by simp [ZD.cyc,e]
   rw [←hcy]at ha
   have hsp:=h.sp
   cases hf:aft o (z.cyc*1440) z.hor with
   | some w=>
    have h1:=aJT hsp (by omega) hf y hy hh
    have h2:=ha w x hf hx
    omega
   | none=>
    exfalso
    obtain⟨k,b,hb,rfl⟩:=hy
    obtain⟨h0,b1,b2⟩:=jY hsp hb
    unfold aft at hf
    simp only [Option.or_eq_none_iff]at hf
    have h3:=TM hf.2 _ (av h0)
    have hK:turns o (z.cyc*1440) z.hor=if o[0].at_<z.hor then(z.hor-o[0].at_) / (z.cyc*1440)else 0:=by unfold turns;rw [ae h0]
    have q0:=bN (z.hor-o[0].at_) (z.cyc*1440)
    have q2:=cm (z.hor-o[0].at_) (show 0<z.cyc*1440 by omega)
    rw [dr,dj,hK]at h3
    split at h3
    ·rw [db ((z.hor-o[0].at_) / (z.cyc*1440))]at h3;omega
    ·omega
 rintro x y (hx | ⟨hx,hx'⟩) (hy | ⟨hy,hy'⟩)
 ·obtain⟨i,hi,rfl⟩:=bk hx
  obtain⟨j,hj,rfl⟩:=bk hy
  rcases bO i j with e | e | e
  ·left;exact xZ h.ts i j e hj
  ·subst e;right;right;rfl
  ·right;left;exact xZ h.ts j i e hi
 ·left;exact cross x y hx hy hy'
 ·right;left;exact cross y x hy hx hx'
 ·exact hm x y hx hy
end Go.Proofs.YthfeogjbpgocbaaGreat
end
section
namespace Go.Proofs.YthfeogjbpgocbaaGreat
open Go Km
structure dn where
 hg:Tg
 head:List Int
 fr:Int
 per:Int
 cg:Tg
 cyc:List Int
def dn.row(p:dn):List FC:=[sl p.hg (ints p.head),fi p.fr,fi p.per,sl p.cg (ints p.cyc)]
def cZ(l:List dn):List (List FC):=l.map dn.row
@[simp] theorem aD3 (l:List dn):(cZ l).length=l.length:=by simp [cZ]
theorem lT(l:List dn):Grid 4 (cZ l):=Grid.map fun _=>rfl
theorem Bl{l:List dn}{j:Nat}(hj:j<l.length):(cZ l)[j]?=some l[j].row:=by simp [cZ,hj]
def gI(limit last:Int):List Int→Bool
 | []=>true
 | n::r=>decide (last<n)&&decide (n<limit)&&gI limit n r
theorem Gx{limit last:Int}{l:List Int}{j:Nat}(hj:j<l.length):gI limit last (l.drop j)=(decide (last<l[j])&&decide (l[j]<limit)&&gI limit l[j] (l.drop (j+1))):=by
 rw [cM hj];rfl
def jS(p:dn):Bool:=decide (0≤p.fr)&&decide (p.fr≤1099511627776)&&decide (1≤p.per)&&decide (p.per≤1099511627776) &&
 decide ((p.head.length:Int)+p.cyc.length≤1048576)&&gI p.fr (-1) p.head&&gI p.per (-1) p.cyc
theorem Uk(g:Tg)(l:List Int)(limit:Int)(hl:l.length≤9223372036854775807):Kf tab.get Dt [.c (.f (sl g (ints l))),vi limit] (vb (gI limit (-1) l)):=by
 refine jA aLb rfl fun H Q hQ=>?_
 refine ak (aj (.inl rfl) ?_)
 simp
 refine ak (aj (.inl rfl) ?_)
 simp
 refine ak ?_
 refine ak (aj (.inl rfl) ?_)
 simp
 refine jo l.length (fun j t H'=>t.g 1=vi limit∧t.g 8=.c (.f (sl g (ints l)))∧H=H'∧∃ last,t.g 5=vi last∧gI limit (-1) l=gI limit last (l.drop j)) hl (by decide) (by decide) (by simp) (by simp) (by simp) ?_ ?_
 ·rintro j t _ hj ⟨g1,g8,rfl,last,g5,hB⟩ ha hb next
  rw [Gx hj]at hB
  refine aN ?_
  refine ak (aj (.inl rfl) ?_)
  simp [ha,g8,gX,hj,Hg]
  refine ak ?_
  refine ak (aj (.inl rfl) ?_)
  simp [g5,g1]
  by_cases k1:l[j]≤last
  ·simp [k1]
   refine aB (by simp) ?_
   refine ak (aj (.inl rfl) ?_)
   simp
   refine aP (hQ _ _ ?_)
   simp [hB,show¬ last<l[j] by omega]
  simp [k1,g1]
  by_cases k2:limit≤l[j]
  ·simp [k2]
   refine aB (by simp) ?_
   refine ak (aj (.inl rfl) ?_)
   simp
   refine aP (hQ _ _ ?_)
   simp [hB,show¬ l[j]<limit by omega]
  simp [k2]
  refine ay (by simp) ?_
  refine aG ?_
  refine aj (.inl rfl) ?_
  simp
  refine aK (next _ _ ?_ (by simp [ha]) (by simp [hb]))
  rw [decide_eq_true (by omega),decide_eq_true (by omega)]at hB
  exact⟨by simp [g1],by simp [g8],rfl,l[j],by simp,by simpa using hB⟩
 ·rintro t _ ⟨g1,g8,rfl,last,g5,hB⟩ ha hb
  refine ak (aj (.inl rfl) ?_)
  simp
  refine aP (hQ _ _ ?_)
  simp [hB,gI]
theorem Eb(g:Tg)(l:List Int)(limit:Int)(hl:l.length≤9223372036854775807) :
  Km.Pure tab.get Dt [.c (.f (sl g (ints l))),vi limit]=Eq (vb (gI limit (-1) l)):=(Uk g l limit hl).eq
theorem aGb(p:dn)(h1:p.head.length≤9223372036854775807)(h2:p.cyc.length≤9223372036854775807)(h:p.head.length+p.cyc.length≤9223372036854775807) :
  Kf tab.get LG [.a (p.row.map .f)] (vb (jS p)):=by
 refine jA aPU rfl fun H Q hQ=>?_
 refine ak (aj (.inl rfl) ?_)
 simp [dn.row]
 refine ak (aj (.inl rfl) ?_)
 simp
 by_cases k1:0≤p.fr
 case neg=>
  simp [k1]
  refine aP (hQ _ _ ?_)
  simp [jS,k1]
 simp [k1]
 by_cases k2:p.fr≤1099511627776
 case neg=>
  simp [k2]
  refine aP (hQ _ _ ?_)
  simp [jS,k2]
 simp [k2]
 by_cases k3:1≤p.per
 case neg=>
  simp [k3]
  refine aP (hQ _ _ ?_)
  simp [jS,k3]
 simp [k3]
 by_cases k4:p.per≤1099511627776
 case neg=>
  simp [k4]
  refine aP (hQ _ _ ?_)
  simp [jS,k4]
 simp [k4,wrap64 (n:=(p.head.length:Int)+p.cyc.length) (by omega) (by omega)]
 by_cases k5:(p.head.length:Int)+p.cyc.length≤1048576
 case neg=>
  simp [k5]
  refine aP (hQ _ _ ?_)
  simp [jS,k5]
 simp [k5,Eb p.hg p.head p.fr h1]
 cases k6:gI p.fr (-1) p.head
 ·simp
  refine aP (hQ _ _ ?_)
  simp [jS,k6]
 simp [Eb p.cg p.cyc p.per h2]
 refine aP (hQ _ _ ?_)
 simp [jS,k1,k2,k3,k4,k5,k6]
def dn.Sm(p:dn):Prop:=p.head.length+p.cyc.length≤9223372036854775807
theorem ajv(p:dn)(h:p.Sm):Km.Pure tab.get LG [.a (p.row.map .f)]=Eq (vb (jS p)):=by
 have h:p.head.length+p.cyc.length≤9223372036854775807:=h
 exact(aGb p (by omega) (by omega) h).eq
theorem GL{p:dn}(h:jS p=true):p.Sm:=by
 simp [jS]at h
 show p.head.length+p.cyc.length≤9223372036854775807
 omega
structure TermD where
 tg:Tg
 fs:List dn
def TermD.row(t:TermD):List FC:=[sl t.tg (cZ t.fs)]
def termRows(l:List TermD):List (List FC):=l.map TermD.row
@[simp] theorem awo (l:List TermD):(termRows l).length=l.length:=by simp [termRows]
theorem uT(l:List TermD):Grid 1 (termRows l):=Grid.map fun _=>rfl
theorem zq{l:List TermD}{j:Nat}(hj:j<l.length):(termRows l)[j]?=some l[j].row:=by simp [termRows,hj]
def TermD.Sm(t:TermD):Prop:=t.fs.length≤9223372036854775807∧∀ p ∈ t.fs,p.Sm
def oL(t:TermD):Bool:=decide (1≤(t.fs.length:Int))&&decide ((t.fs.length:Int)≤4)&&t.fs.all jS
def mixB(l:List TermD):Bool:=decide ((l.length:Int)≤64)&&l.all oL
theorem ale{α:Type}{l:List α}{p:α→Bool}{j:Nat}(hj:j<l.length):(l.drop j).all p=(p l[j]&&(l.drop (j+1)).all p):=by
 rw [cM hj,List.all_cons]
theorem aJR(p:dn)(h:p.Sm):Kf tab.get LK [.a (p.row.map .f)] (vb (!jS p)):=by
 refine jA aP8 rfl fun H Q hQ=>?_
 have hv:=ajv p h
 simp [dn.row]at hv
 refine ak (aj (.inl rfl) ?_)
 simp [dn.row]
 refine ak (aj (.inl rfl) ?_)
 simp [hv]
 refine aP (hQ _ _ ?_)
 simp
theorem VI(g:Tg)(l:List dn)(hl:l.length≤9223372036854775807)(h:∀ p ∈ l,p.Sm) :
  Km.Pure tab.get Dk [.c (.f (sl g (cZ l))),.c (.f (.fn LK []))]=Eq (vb (l.any fun p=>!jS p)):=
 (nT alq (uf alp l dn.row (fun r=>.a (r.row.map .f)) (fun p=>!jS p) g LK [] hl
  (fun j hj H=>jd (lT l) (Bl hj)) (fun p hp=>aJR p (h p hp)))).eq
theorem aIf(g:Tg)(l:List TermD)(hl:l.length≤9223372036854775807)(h:∀ t ∈ l,t.Sm):Kf tab.get F_x39 [.a [.f (sl g (termRows l))]] (vb (mixB l)):=by
 refine jA aP9 rfl fun H Q hQ=>?_
 refine ak (aj (.inl rfl) ?_)
 simp
 refine ak ?_
 refine ak (aj (.inl rfl) ?_)
 simp
 by_cases k1:(64:Int)<l.length
 ·simp [k1]
  refine aB (by simp) ?_
  refine ak (aj (.inl rfl) ?_)
  simp
  refine aP (hQ _ _ ?_)
  simp [mixB,show¬ (l.length:Int)≤64 by omega]
 simp [k1]
 refine ay (by simp) ?_
 refine aG ?_
 refine ak ?_
 refine ak (aj (.inl rfl) ?_)
 simp
 refine jo l.length (fun j t H'=>t.g 10=.c (.f (sl g (termRows l)))∧(∃ J,H'=H++J)∧l.all oL=(l.drop j).all oL) hl (by decide) (by decide) (by simp) (by simp) (by simp) ?_ ?_
 ·rintro j t _ hj ⟨g10,⟨J,rfl⟩,hB⟩ ha hb next
  rw [ale hj]at hB
  have hs:=h l[j] (av hj)
  have hrow:=NR (H:=H++J) (k:=0) (uT l) (zq hj) rfl
  refine aN ?_
  refine ak (aj (.inl rfl) ?_)
  simp at hrow
  simp [ha,g10,gX,hj,hrow]
  have bad:oL l[j]=false→∀(t:T) (J:Heap) k,WP tab.get F_x39 none (.code (.region [⟨D 2,.mov (.k (.c (.f (.bool false)))),none⟩] [])::.code .ret::k) ⟨t,[],H++J⟩ Q:=by
   intro hf t J k
   refine aj (.inl rfl) ?_
   simp
   refine aP (hQ _ _ ?_)
   simp [mixB,hB,hf]
  refine ak (aj (.inl rfl) ?_)
  simp
  by_cases k2:(l[j].fs.length:Int)<1
  ·simp [k2]
   exact aB (by simp) (ak (bad (by simp [oL,show¬ 1≤(l[j].fs.length:Int) by omega]) _ _ _))
  simp [k2]
  by_cases k3:(4:Int)<l[j].fs.length
  ·simp [k3]
   exact aB (by simp) (ak (bad (by simp [oL,show¬ (l[j].fs.length:Int)≤4 by omega]) _ _ _))
  simp [k3,VI l[j].tg l[j].fs hs.1 hs.2]
  cases k4:l[j].fs.any fun p=>!jS p
  ·have:oL l[j]=true:=by
    simp [oL]at k4 ⊢
    exact⟨⟨by omega,by omega⟩,k4⟩
   refine ay (by simp) ?_
   refine aG (aK (next _ _ ?_ (by simp [ha]) (by simp [hb])))
   rw [this,Bool.true_and]at hB
   exact⟨by simp [g10],⟨_,rfl⟩,hB⟩
  ·exact aB (by simp) (ak (bad (by simp [oL]at k4 ⊢;intro _ _;exact k4) _ _ _))
 ·rintro t _ ⟨g10,⟨J,rfl⟩,hB⟩ ha hb
  refine ak (aj (.inl rfl) ?_)
  simp
  refine aP (hQ _ _ ?_)
  simp [mixB,hB,show(l.length:Int)≤64 by omega]
end Go.Proofs.YthfeogjbpgocbaaGreat
end
section
namespace Go.Proofs.YthfeogjbpgocbaaGreat
open Go Km
theorem Kr(a b:Int):Km.Pure tab.get amb [vi a,vi b]=Eq (vb (decide (a<b))):=Kf.eq (by
 refine jA aQf rfl fun H Q hQ=>?_
 refine ak (aj (.inl rfl) ?_)
 simp
 refine ak (aj (.inl rfl) ?_)
 simp [wX]
 refine aP (hQ _ _ ?_)
 simp [wX])
theorem awr(a:Int):Km.Pure tab.get IU [vi a]=Eq (vb false):=Kf.eq (by
 refine jA aKF rfl fun H Q hQ=>?_
 refine ak (aj (.inl rfl) ?_)
 simp
 refine ak (aj (.inl rfl) ?_)
 simp
 refine aP (hQ _ _ ?_)
 simp)
theorem vT(g:Tg)(l:List Int)(n:Int)(hl:l.length≤1000000000)(hp:l.Pairwise (· < ·)) :
  ∃ i:Nat,i≤l.length∧(∀ j (hj:j<l.length),j<i→l[j]<n)∧(∀ j (hj:j<l.length),i≤j→n≤l[j]) ∧
   Km.Pure tab.get yX [.c (.f (sl g (ints l))),vi n]=Eq (.t [vi i,vb (decide (n ∈ l))]):=by
 obtain⟨r,⟨i,h1,h2,h3,rfl⟩,h⟩:∃ r,(∃ i:Nat,i≤l.length∧(∀ j (hj:j<l.length),j<i→l[j]<n)∧(∀ j (hj:j<l.length),i≤j→n≤l[j])∧r=.t [vi i,vb (decide (n ∈ l))]) ∧
   Km.Pure tab.get yX [.c (.f (sl g (ints l))),vi n] r:=by
  refine iM aKU rfl fun Q hQ=>?_
  have hat:∀ i j (hi:i<j) (hj:j<l.length),l[i]<l[j]:=fun i j hi hj=>cD.1 hp i j (by omega) hj hi
  refine ak (aj (.inl rfl) ?_)
  simp
  refine ak (aj (.inl rfl) ?_)
  simp
  refine ak (aj (.inl rfl) ?_)
  simp
  refine ak ?_
  refine aN ?_
  refine bK (fun m s=>∃(lo hi:Nat) (t:T),s=⟨t,[],[]⟩∧m=hi-lo∧lo≤hi∧hi≤l.length∧t.g 0=.c (.f (sl g (ints l)))∧t.g 1=vi n∧t.g 6=vi l.length∧t.g 7=vi lo∧t.g 8=vi hi ∧
   (∀ j (hj:j<l.length),j<lo→l[j]<n)∧(∀ j (hj:j<l.length),hi≤j→n≤l[j])) l.length
   ⟨0,l.length,_,rfl,by omega,by omega,by omega,by simp,by simp,by simp,by simp,by simp,by simp,by intros;omega⟩ ?_
  rintro m s ⟨lo,hi,t,rfl,rfl,hlh,hhl,g0,g1,g6,g7,g8,hlo,hhi⟩ next
  refine ak ?_
  refine ak (aj (.inl rfl) ?_)
  simp [g7,g8]
  by_cases hlt:lo<hi
  ·refine aB (by simp [hlt]) (aG ?_)
   obtain⟨q,hq⟩:∃ q,q=(lo+hi) / 2:=⟨_,rfl⟩
   have hqn:q<l.length:=by omega
   have e1:bU BinOp.shr (V.c (C.f (FC.int IntKind.u64 (IntKind.u64.wrap ((lo:Int)+hi))))) (V.c (C.f (FC.int IntKind.u64 1)))=some (.c (.f (.int .u64 (q:Int)))):=by
    have:IntKind.u64.wrap ((lo:Int)+hi)=(lo:Int)+hi:=by
     show((lo:Int)+hi) % 18446744073709551616=_
     omega
    rw [this]
    show some (V.c (C.f (FC.int IntKind.u64 (Int.fdiv ((lo:Int)+hi) (2 ^ (min (1:Int).toNat IntKind.u64.bits))))))=_
    have h3:Int.fdiv ((lo:Int)+hi) (2 ^ (min (1:Int).toNat IntKind.u64.bits))=q:=by
     show Int.fdiv ((lo:Int)+hi) 2=q
     rw [Int.fdiv_eq_ediv_of_nonneg _ (by omega)];omega
    rw [h3]
   have hw:IntKind.i64.wrap ((lo:Int)+hi)=(lo:Int)+hi:=wrap64 (by omega) (by omega)
   have hwq:IntKind.i64.wrap (q:Int)=q:=wrap64 (by omega) (by omega)
   refine aN ?_
   refine ak (aj (.inl rfl) ?_)
   simp [g7,g8,hw,e1,hwq]
   refine ak (aj (.inl rfl) ?_)
   simp [g0,g1,gX,hqn,Hg,Kr]
   by_cases hc:l[q]<n
   ·refine aB (by simp [hc]) ?_
    refine aj (.inl rfl) ?_
    simp [wrap64 (n:=(q:Int)+1) (by omega) (by omega)]
    refine aK (next (hi-(q+1)) _ (by omega) ⟨q+1,hi,_,rfl,rfl,by omega,by omega,by simp [g0],by simp [g1],by simp [g6],by simp,by simp [g8],fun j hj h=>?_,hhi⟩)
    by_cases e:j=q
    ·subst e;exact hc
    ·have:=hat j q (by omega) hqn;omega
   ·refine ay (by simp [hc]) ?_
    refine aj (.inl rfl) ?_
    simp
    refine aK (next (q-lo) _ (by omega) ⟨lo,q,_,rfl,rfl,by omega,by omega,by simp [g0],by simp [g1],by simp [g6],by simp [g7],by simp,hlo,fun j hj h=>?_⟩)
    by_cases e:j=q
    ·subst e;omega
    ·have:=hat q j (by omega) hj;omega
  ·have:lo=hi:=by omega
   subst this
   refine ay (by simp) ?_
   refine bf rfl ?_
   refine ak (aj (.inl rfl) ?_)
   by_cases hin:lo<l.length
   ·have h4:=hhi lo hin (by omega)
    by_cases he:l[lo]=n
    ·simp [g0,g1,g6,g7,hin,gX,Hg,he]
     refine aP (hQ _ _ _ ⟨lo,hhl,hlo,hhi,rfl⟩ ?_)
     have:n ∈ l:=he▸av hin
     simp [this]
    ·have hnm:n ∉ l:=fun hm=>by
      obtain⟨j,hj,rfl⟩:=bk hm
      rcases bO j lo with h | h | h
      ·have:=hlo j hj h;omega
      ·subst h;exact he rfl
      ·have:=hat lo j h hj;omega
     simp [g0,g1,g6,g7,hin,gX,Hg,he,awr]
     refine aP (hQ _ _ _ ⟨lo,hhl,hlo,hhi,rfl⟩ ?_)
     simp [hnm]
   ·have hnm:n ∉ l:=fun hm=>by
     obtain⟨j,hj,rfl⟩:=bk hm
     have:=hlo j hj (by omega);omega
    simp [g0,g1,g6,g7,hin]
    refine aP (hQ _ _ _ ⟨lo,hhl,hlo,hhi,rfl⟩ ?_)
    simp [hnm]
 exact⟨i,h1,h2,h3,Km.Pure.eq h⟩
theorem pG{limit:Int}:∀ {l:List Int} {last:Int},gI limit last l=true→l.Pairwise (· < ·)∧∀ c ∈ l,last<c∧c<limit
 | [],_,_=>⟨List.Pairwise.nil,by simp⟩
 | a::l,last,h=>by
  simp only [gI,am,decide_eq_true_eq]at h
  obtain⟨⟨h1,h2⟩,h3⟩:=h
  obtain⟨h4,h5⟩:=pG h3
  refine⟨c5.2 ⟨fun c hc=>(h5 c hc).1,h4⟩,fun c hc=>?_⟩
  rcases co.1 hc with rfl | hc
  ·exact⟨h1,h2⟩
  ·have:=h5 c hc;omega
theorem Uw{p:dn}(h:jS p=true):0≤p.fr∧p.fr≤1099511627776∧1≤p.per∧p.per≤1099511627776∧p.head.length+p.cyc.length≤1048576∧p.head.Pairwise (· < ·)∧(∀ c ∈ p.head,-1<c∧c<p.fr)∧p.cyc.Pairwise (· < ·)∧∀ c ∈ p.cyc,-1<c∧c<p.per:=by
 unfold jS at h
 simp only [am,decide_eq_true_eq]at h
 obtain⟨⟨⟨⟨⟨⟨h1,h2⟩,h3⟩,h4⟩,h5⟩,h6⟩,h7⟩:=h
 obtain⟨a1,a2⟩:=pG h6
 obtain⟨b1,b2⟩:=pG h7
 exact⟨h1,h2,h3,h4,by omega,a1,a2,b1,b2⟩
def aj8(p:dn)(d:Int):Bool:=if p.fr≤d then decide ((d-p.fr) % p.per ∈ p.cyc)else decide (d ∈ p.head)
def Day(d:Int):Prop:=d≤2305843009213693952
theorem U0(p:dn)(h:jS p=true)(d:Int)(h0:0≤d)(hd:Day d):Km.Pure tab.get TN [.a (p.row.map .f),vi d]=Eq (vb (aj8 p d)):=Kf.eq (by
 obtain⟨h1,h2,h3,h4,h5,h6,h7,h8,h9⟩:=Uw h
 unfold Day at hd
 refine jA aPT rfl fun H Q hQ=>?_
 have tail:∀(t:T) (J:Heap) (g:Tg) (l:List Int) (n:Int),l.length≤1048576→l.Pairwise (· < ·)→t.g 5=.c (.f (sl g (ints l)))→t.g 6=vi n→aj8 p d=decide (n ∈ l)→WP tab.get TN none [.code TU] ⟨t,[],H++J⟩ Q:=by
  intro t J g l n hl hp g5 g6 e
  obtain⟨i,-,-,-,hs⟩:=vT g l n (by omega) hp
  refine ak (aj (.inl rfl) ?_)
  simp [g5,g6,hs]
  refine ak (aj (.inl rfl) ?_)
  simp
  refine aP (hQ _ _ ?_)
  simp [e]
 refine ak (aj (.inl rfl) ?_)
 simp [dn.row]
 refine ak (aj (.inl rfl) ?_)
 simp
 refine ak ?_
 refine ak (aj (.inl rfl) ?_)
 simp
 by_cases k:p.fr≤d
 ·refine aB (by simp [k]) ?_
  refine aj (.inl rfl) ?_
  simp [wrap64 (n:=d-p.fr) (by omega) (by omega),oq (a:=d-p.fr) (b:=p.per) (by omega) (by omega)]
  exact tail _ _ p.cg p.cyc ((d-p.fr) % p.per) (by omega) h8 (by simp) (by simp) (by simp [aj8,k])
 ·refine ay (by simp [k]) (aG ?_)
  exact tail _ _ p.hg p.head d (by omega) h6 (by simp) (by simp) (by simp [aj8,k]))
def hasB(p:dn)(d:Int):Bool:=decide (0≤d)&&aj8 p d
theorem ax5(p:dn)(h:jS p=true)(d:Int)(hd:Day d):Kf tab.get alx [.a (p.row.map .f),vi d] (vb (hasB p d)):=by
 refine jA aPV rfl fun H Q hQ=>?_
 have hv:=ajv p (GL h)
 rw [h]at hv
 refine ak (aj (.inl rfl) ?_)
 simp [dn.row]at hv ⊢
 refine ak (aj (.inl rfl) ?_)
 by_cases k:0≤d
 ·have hm:=U0 p h d k hd
  simp [dn.row]at hm
  simp [hv,k,hm]
  refine aP (hQ _ _ ?_)
  simp [hasB,k]
 ·simp [hv,k]
  refine aP (hQ _ _ ?_)
  simp [hasB,k]
theorem UR(p:dn)(h:jS p=true)(d:Int)(hd:Day d):Kf tab.get LJ [.a (p.row.map .f),.c (.f (.fp [fi d] 0))] (vb (!hasB p d)):=by
 refine jA aP6 rfl fun H Q hQ=>?_
 have hv:=(ax5 p h d hd).eq
 simp [dn.row]at hv
 have hl:∀ H:Heap,ldV H none (.c (.f (.fp [fi d] 0)))=some (vi d):=fun H=>by simp [ldV,aO]
 refine ak (aj (.inl rfl) ?_)
 simp [dn.row]
 refine ak (aj (.inl rfl) ?_)
 simp [hl,hv]
 refine aP (hQ _ _ ?_)
 simp
def inB(l:List dn)(d:Int):Bool:=l.all fun p=>hasB p d
theorem aN4(g:Tg)(l:List dn)(hl:l.length≤9223372036854775807)(h:∀ p ∈ l,jS p=true)(d:Int)(hd:Day d):Kf tab.get alD [.c (.f (sl g (cZ l))),vi d] (vb (inB l d)):=by
 refine jA aP7 rfl fun H Q hQ=>?_
 have hc:=(nT alq (uf alp l dn.row (fun r=>.a (r.row.map .f)) (fun p=>!hasB p d) g LJ [.fp [fi d] 0] hl
  (fun j hj H=>jd (lT l) (Bl hj)) (fun p hp=>UR p (h p hp) d hd))).eq
 have e:(!l.any fun p=>!hasB p d)=inB l d:=by
  rw [inB,du]
  simp [List.any_eq_false,aM]
 refine ak (aj (.inl rfl) ?_)
 simp
 refine ak (aj (.inl rfl) ?_)
 have hc':Km.Pure tab.get Dk [.c (.f (sl g (cZ l))),.c (.f (.fn LJ [.fp [fi d] 0]))]=Eq (vb (l.any fun p=>!hasB p d)):=hc
 simp [deep,aD8,aj3,hc',e]
 refine aP (hQ _ _ ?_)
 simp
theorem aID(t:TermD)(hl:t.fs.length≤9223372036854775807)(h:∀ p ∈ t.fs,jS p=true)(d:Int)(hd:Day d):Kf tab.get LM [.c (.f (sl t.tg (cZ t.fs))),.c (.f (.fp [fi d] 0))] (vb (inB t.fs d)):=by
 refine jA aQa rfl fun H Q hQ=>?_
 have hld:∀ H:Heap,ldV H none (.c (.f (.fp [fi d] 0)))=some (vi d):=fun H=>by simp [ldV,aO]
 refine ak (aj (.inl rfl) ?_)
 simp
 refine ak (aj (.inl rfl) ?_)
 simp [hld,(aN4 t.tg t.fs hl h d hd).eq]
 refine aP (hQ _ _ ?_)
 simp
def rU(l:List TermD)(d:Int):Bool:=mixB l&&l.any fun t=>inB t.fs d
theorem kH{t:TermD}(h:oL t=true):1≤t.fs.length∧t.fs.length≤4∧∀ p ∈ t.fs,jS p=true:=by
 unfold oL at h
 simp only [am,decide_eq_true_eq,aM]at h
 exact⟨by omega,by omega,h.2⟩
theorem Ep{l:List TermD}(h:mixB l=true):l.length≤64∧∀ t ∈ l,oL t=true:=by
 unfold mixB at h
 simp only [am,decide_eq_true_eq,aM]at h
 exact⟨by omega,h.2⟩
theorem aj7(g:Tg)(l:List TermD)(hl:l.length≤9223372036854775807)(h:∀ t ∈ l,t.Sm):Km.Pure tab.get F_x39 [.a [.f (sl g (termRows l))]]=Eq (vb (mixB l)):=(aIf g l hl h).eq
theorem SG(g:Tg)(l:List TermD)(h:mixB l=true)(d:Int)(hd:Day d):Km.Pure tab.get TR [.a [.f (sl g (termRows l))],vi d]=Eq (vb (rU l d)):=Kf.eq (by
 obtain⟨h1,h2⟩:=Ep h
 have hm:=aj7 g l (by omega) (fun t ht=>⟨by have:=(kH (h2 t ht)).2.1;omega,fun p hp=>GL ((kH (h2 t ht)).2.2 p hp)⟩)
 have hc:=(nT aKT (uf aKR l TermD.row (fun t=>.c (.f (sl t.tg (cZ t.fs)))) (fun t=>inB t.fs d) g LM [.fp [fi d] 0] (by omega)
  (fun j hj H=>pV (uT l) (zq hj) rfl) (fun t ht=>aID t (by have:=(kH (h2 t ht)).2.1;omega) (kH (h2 t ht)).2.2 d hd))).eq
 have hc':Km.Pure tab.get O8 [.c (.f (sl g (termRows l))),.c (.f (.fn LM [.fp [fi d] 0]))]=Eq (vb (l.any fun t=>inB t.fs d)):=hc
 rw [h]at hm
 refine jA aQb rfl fun H Q hQ=>?_
 refine ak (aj (.inl rfl) ?_)
 simp
 refine ak (aj (.inl rfl) ?_)
 simp [hm,deep,aD8,aj3,hc']
 refine aP (hQ _ _ ?_)
 simp [rU,h])
end Go.Proofs.YthfeogjbpgocbaaGreat
end
section
namespace Go.Proofs.YthfeogjbpgocbaaGreat
open Go Km
def aZ(l:List SpD):List (List FC):=l.map SpD.row
@[simp] theorem vC (l:List SpD):(aZ l).length=l.length:=by simp [aZ]
theorem iq(l:List SpD):Grid 2 (aZ l):=Grid.map fun _=>rfl
theorem yh{l:List SpD}{j:Nat}(hj:j<l.length):(aZ l)[j]?=some l[j].row:=by simp [aZ,hj]
def Oe(t:Int):Bool:=decide (t < -2251799813685248)||decide (2251799813685248<t)
theorem akH(t:Int):Km.Pure tab.get IL [vi t]=Eq (vb (Oe t)):=Km.Pure.eq (by
 refine cu aKg rfl fun Q hQ=>?_
 refine ak (aj (.inl rfl) ?_)
 simp
 by_cases h:t < -2251799813685248
 ·refine ak (aj (.inl rfl) ?_)
  simp [h]
  refine aP (hQ _ _ ?_)
  simp [Oe,h]
 ·refine ak (aj (.inl rfl) ?_)
  simp [h]
  refine aP (hQ _ _ ?_)
  simp [Oe,h])
def zy(s:SpD):Bool:=Oe s.fr||Oe s.to
theorem MP(s:SpD):Kf tab.get Df [.a (s.row.map .f)] (vb (zy s)):=by
 refine jA aKe rfl fun H Q hQ=>?_
 refine ak (aj (.inl rfl) ?_)
 simp [SpD.row]
 cases h:Oe s.fr
 ·refine ak (aj (.inl rfl) ?_)
  simp [akH,h]
  refine aP (hQ _ _ ?_)
  simp [zy,h]
 ·refine ak (aj (.inl rfl) ?_)
  simp [akH,h]
  refine aP (hQ _ _ ?_)
  simp [zy,h]
theorem Ee(g:Tg)(l:List SpD)(hl:l.length≤1000000):Km.Pure tab.get IK [.c (.f (sl g (aZ l)))]=Eq (vb (!(l.any zy))):=Km.Pure.eq (by
 have hc:=(nT aKS (uf aKQ l SpD.row (fun s=>.a (s.row.map .f)) zy g Df [] (by omega)
  (fun j hj H=>jd (iq l) (yh hj)) (fun s _=>MP s))).eq
 have hc':Km.Pure tab.get O7 [.c (.f (sl g (aZ l))),.c (.f (.fn Df []))]=Eq (vb (l.any zy)):=hc
 refine cu aKf rfl fun Q hQ=>?_
 refine ak (aj (.inl rfl) ?_)
 simp
 refine ak (aj (.inl rfl) ?_)
 simp [hc']
 refine aP (hQ _ _ ?_)
 simp)
def InR(l:List SpD):Prop:=∀ s ∈ l,-2251799813685248≤s.fr∧s.fr≤2251799813685248∧-2251799813685248≤s.to∧s.to≤2251799813685248
theorem InR.any{l:List SpD}(h:InR l):l.any zy=false:=by
 rw [List.any_eq_false]
 intro s hs
 have:=h s hs
 simp [zy,Oe];omega
theorem Ub(a b:Bool):Kf tab.get IQ [vb a,vb b] (vb (a||b)):=by
 refine jA aKk rfl fun H Q hQ=>?_
 refine ak (aj (.inl rfl) ?_)
 simp
 cases a
 ·refine ak (aj (.inl rfl) ?_)
  simp
  refine aP (hQ _ _ ?_)
  simp
 ·refine ak (aj (.inl rfl) ?_)
  simp
  refine aP (hQ _ _ ?_)
  simp
theorem Ou(x y:Bd):Kf tab.get Dh [.a (x.row.map .f),.a (y.row.map .f)] (vi (oH x.at_ y.at_)):=by
 refine jA aKi rfl fun H Q hQ=>?_
 refine ak (aj (.inl rfl) ?_)
 simp [Bd.row]
 refine ak (aj (.inl rfl) ?_)
 simp [vP]
 refine aP (hQ _ _ ?_)
 simp
def Gn(s:SpD)(t:Int):Bool:=decide (s.fr≤t)&&decide (t<s.to)
theorem Ah(l:List SpD)(t:Int):(l.any fun s=>Gn s t)=true↔fZ l t:=by
 rw [List.any_eq_true]
 simp [fZ,SpD.has,Gn]
end Go.Proofs.YthfeogjbpgocbaaGreat
end
section
namespace Go.Proofs.YthfeogjbpgocbaaGreat
open Go Km
theorem aki:((List.range 65).all fun n=>match (CF tab.get 20 20 (.fn TS) [.c (.f (.int .u64 n))] [])with | some (.c (.f (.int .i64 (.ofNat k))),_)=>Nat.ble k 62&&(Nat.beq n 0||Nat.ble (2 ^ k) (2*n)) | _=>false)=true:=by kernel_rfl
theorem aIk:aLd tab.get bG 64:=fun n h=>by
 have h1:=aki
 rw [aM]at h1
 have h2:=h1 n (by simp;omega)
 split at h2
 ·rename_i k H' e
  rw [am,Bool.or_eq_true]at h2
  refine⟨k,(iw (m:=20) (d:=20) (by rw [e];rfl)).eq,cK h2.1,fun h0=>?_⟩
  rcases h2.2 with h3 | h3
  ·have:=cX h3;omega
  ·exact cK h3
 ·cases h2
theorem Md:aAU tab.get bG 3:=⟨aKr,aKG,aKI,aKn,aKM,aKK,aKp,
 aKv,aKt,aKx,aKD,aKB,aKz,alo,aln⟩
def dh(l:List Bd):List (List FC):=l.map Bd.row
@[simp] theorem Ox (l:List Bd):(dh l).length=l.length:=by simp [dh]
theorem jQ(l:List Bd):Grid 3 (dh l):=Grid.map fun _=>rfl
theorem yQ{l:List Bd}{j:Nat}(hj:j<l.length):(dh l)[j]?=some l[j].row:=by simp [dh,hj]
def Cm:List FC→Bd
 | [.int _ a,.int _ b,.int _ c]=>⟨a,b,c⟩
 | _=>⟨0,0,0⟩
def VQ(r:List FC):Prop:=r=(Cm r).row
theorem akt(x:Bd):VQ x.row:=rfl
def ajU(r s:List FC):Int:=oH (Cm r).at_ (Cm s).at_
theorem Ii{a b:Int}:oH a b<0↔a<b:=by unfold oH;split<;>(try split)<;>omega
theorem aJe:Cmp VQ ajU where
 asym:=fun _ _ h h'=>by
  unfold ajU at h h'
  rw [Ii]at h h';omega
 trans:=fun _ _ _ h h'=>by
  unfold ajU at *
  rw [Ii]at *;omega
theorem aOI:Cv tab.get (.c (.f (.fn Dh []))) VQ ajU:=by
 intro x y hx hy H
 obtain⟨J,h⟩:=Ou (Cm x) (Cm y) H
 rw [←show x=(Cm x).row from hx,←show y=(Cm y).row from hy]at h
 exact⟨Dh,_,J,by simp [dw],h⟩
theorem Vt{rows:List (List FC)}(h:∀ r ∈ rows,VQ r):dh (rows.map Cm)=rows:=by
 unfold dh
 rw [List.map_map]
 conv=>rhs;rw [←List.map_id rows]
 exact df fun r hr=>(h r hr).symm
theorem Oy(l:List Bd):(dh l).map Cm=l:=by
 unfold dh
 rw [List.map_map]
 conv=>rhs;rw [←List.map_id l]
 exact df fun r _=>rfl
theorem VF(ga gb:Tg)(a b:List SpD)(hl:2*(a.length+b.length)≤64) :
  ∃ g l,(l.Perm (dH 0 a++dH 1 b)∧zM l)∧Km.Pure tab.get yV [.c (.f (sl ga (aZ a))),.c (.f (sl gb (aZ b)))]=Eq (.c (.f (sl g (dh l)))):=by
 obtain⟨r,⟨g,l,h1,rfl⟩,h⟩:∃ r,(∃ g l,(l.Perm (dH 0 a++dH 1 b)∧zM l)∧r=.c (.f (sl g (dh l))))∧Km.Pure tab.get yV [.c (.f (sl ga (aZ a))),.c (.f (sl gb (aZ b)))] r:=by
  refine iM aKj rfl fun Q hQ=>?_
  have la:=o7 0 a
  have lb:=o7 1 b
  have one:∀(kk:List dI) (t:T) (H:Heap) (c:C) (o:List Bd) (g:Tg) (ls:Int) (p:List SpD),t.g 5=.c c→t.g 6=vi ls→t.g 7=.c (.f (sl g (aZ p)))→LR H c 3 (dh o)→o.length+2*p.length≤64 →
    (∀(t':T) (H':Heap) (c':C),(∀ i:Nat,i=12∨i=13∨i=14→t'.g i=t.g i)→t'.g 5=.c c'→LR H' c' 3 (dh (o++dH ls p))→(∀(i:Nat) cs fl,H[i]?=some (Blk.box cs fl)→H'[i]?=some (Blk.box cs fl))→WP tab.get yV none kk ⟨t',[],H'⟩ Q) →
    WP tab.get yV none (.code Fz::kk) ⟨t,[],H⟩ Q:=by
   intro kk t H c o g ls p g5 g6 g7 hLR hlen next
   have key:∀ i:Nat,i=12∨i=13∨i=14→i≠5∧i≠9∧i<15:=fun i h=>by omega
   refine ak (aj (.inl rfl) ?_)
   simp [g7]
   refine jo p.length (fun j t' H'=>(∀ i:Nat,i=12∨i=13∨i=14→t'.g i=t.g i)∧t'.g 6=vi ls∧t'.g 19=.c (.f (sl g (aZ p)))∧(∀(i:Nat) cs fl,H[i]?=some (Blk.box cs fl)→H'[i]?=some (Blk.box cs fl))∧∃ c',t'.g 5=.c c'∧LR H' c' 3 (dh (o++dH ls (p.take j)))) (by omega) (by decide) (by decide) (by simp) (by simp)
    ⟨by rintro i (rfl | rfl | rfl)<;>simp,by simp [g6],by simp,fun i cs fl h=>h,c,by simp [g5],by simpa [dH]using hLR⟩ ?_ ?_
   ·rintro j t' H' hj ⟨hk,g6,g19,hbx,c',g5,hLR⟩ ha hb nx
    have hrow:=fun H:Heap=>jd (H:=H) (iq p) (yh hj)
    have htk:p.take (j+1)=p.take j++[p[j]]:=by rw [List.take_add_one,ae hj];rfl
    simp only [SpD.row]at hrow
    refine aN ?_
    refine ak (aj (.inl rfl) ?_)
    simp [g19,ha,gX,hj,hrow]
    obtain⟨H1,hH1⟩:∃ H1,H1=H'++[.box [.f (fi p[j].fr),.f (fi p[j].to)] 0]:=⟨_,rfl⟩
    have k1:H1[H'.length]?=some (.box [.f (fi p[j].fr),.f (fi p[j].to)] 0):=by rw [hH1];simp
    have hL1:LR H1 c' 3 (dh (o++dH ls (p.take j))):=by rw [hH1];exact hLR.push _
    have hb1:∀(i:Nat) cs fl,H[i]?=some (Blk.box cs fl)→H1[i]?=some (Blk.box cs fl):=fun i cs fl h=>by
     have:=hbx i cs fl h
     rw [hH1,ai (aF this)];exact this
    rw [←hH1]
    refine ak (aj (.inl rfl) ?_)
    simp [k1]
    by_cases hne:p[j].fr<p[j].to
    case neg=>
     refine ay (by simp [hne]) (aG (aK (nx _ _ ?_ (by simp [ha]) (by simp [hb]))))
     refine⟨by rintro i (rfl | rfl | rfl)<;>simp [hk],by simp [g6],by simp [g19],hb1,c',by simp [g5],?_⟩
     rw [htk,ER]
     simpa [dH,hne]using hL1
    refine aB (by simp [hne]) ?_
    obtain⟨H2,hH2⟩:∃ H2,H2=H1++[.box [.f (fi p[j].fr),.f (fi ls),.f (fi 1),.f (fi p[j].to),.f (fi ls),.f (fi (-1))] 0]:=⟨_,rfl⟩
    have hL2:LR H2 c' 3 (dh (o++dH ls (p.take j))):=by rw [hH2];exact hL1.push _
    have k2:H2[H1.length]?=some (.box ((dh [⟨p[j].fr,ls,1⟩,⟨p[j].to,ls,-1⟩]).flatten.map .f) 0):=by rw [hH2];simp [dh,Bd.row]
    have hb2:∀(i:Nat) cs fl,H[i]?=some (Blk.box cs fl)→H2[i]?=some (Blk.box cs fl):=fun i cs fl h=>by
     have:=hb1 i cs fl h
     rw [hH2,ai (aF this)];exact this
    have hbl:(dH ls (p.take j)).length≤2*j:=by
     have:=o7 ls (p.take j)
     rw [List.length_take]at this;omega
    obtain⟨c3,H3,e3,hL3,hK3,-⟩:=hL2.aTF (jQ _) (by decide) (jQ [⟨p[j].fr,ls,1⟩,⟨p[j].to,ls,-1⟩]) (by simp [dh]) (bytes:=24) (by simp [bV];omega) (cp:=2) k2
    simp only [Ox,cN,List.length_nil]at e3
    refine aj (.inl rfl) ?_
    simp [g5,g6,k1,←hH2,e3]
    refine aK (nx _ _ ?_ (by simp [ha]) (by simp [hb]))
    refine⟨by rintro i (rfl | rfl | rfl)<;>simp [hk],by simp [g6],by simp [g19],fun i cs fl h=>hK3.2 i _ (hb2 i cs fl h) (hL2.dK (hb2 i cs fl h)),c3,by simp,?_⟩
    rw [htk,ER]
    have e:dh (o++(dH ls (List.take j p)++dH ls [p[j]]))=dh (o++dH ls (p.take j))++dh [⟨p[j].fr,ls,1⟩,⟨p[j].to,ls,-1⟩]:=by
     simp [dh,dH,hne]
    rw [e];exact hL3
   ·rintro t' H' ⟨hk,g6,g19,hbx,c',g5,hLR⟩ ha hb
    rw [List.take_length]at hLR
    exact next _ H' c' (by rintro i (rfl | rfl | rfl)<;>simp [hk]) (by simp [g5]) hLR hbx
  refine ak (aj (.inl rfl) ?_)
  simp
  refine ak (aj (.inl rfl) ?_)
  simp
  refine ak ?_
  refine ak (aj (.inl rfl) ?_)
  simp [bM]
  refine jo 2 (fun j t H=>t.g 12=.c (.sl 0 0 2 2 0 1)∧H[0]?=some (.box [.f (sl ga (aZ a)),.f (sl gb (aZ b))] 0)∧∃ c,t.g 5=.c c∧LR H c 3 (dh (if j=0 then []else if j=1 then dH 0 a else dH 0 a++dH 1 b))) (by omega) (by decide) (by decide) (by simp) (by simp)
   ⟨by simp,by simp,.f .aA,by simp,by simpa [dh]using LR.nil _ 3⟩ ?_ ?_
  ·rintro j t H hj ⟨g12,h0,c,g5,hLR⟩ ha hb nx
   refine aN ?_
   rcases(show j=0∨j=1 by omega)with rfl | rfl
   ·simp at ha
    refine ak (aj (.inl rfl) ?_)
    simp [g12,ha,aU,iK,h0]
    refine one _ _ H c [] ga 0 a (by simp [g5]) (by simp) (by simp) (by simpa using hLR) (by simp;omega) ?_
    intro t' H' c' hk g5 hLR hbx
    refine aK (nx _ _ ?_ (by rw [hk 14 (by omega)];simp [ha]) (by rw [hk 13 (by omega)];simp [hb]))
    exact⟨by simp [hk 12,g12],hbx _ _ _ h0,c',by simp [g5],by simpa using hLR⟩
   ·simp at ha
    refine ak (aj (.inl rfl) ?_)
    simp [g12,ha,aU,iK,h0]
    refine one _ _ H c (dH 0 a) gb 1 b (by simp [g5]) (by simp) (by simp) (by simpa using hLR) (by omega) ?_
    intro t' H' c' hk g5 hLR hbx
    refine aK (nx _ _ ?_ (by rw [hk 14 (by omega)];simp [ha]) (by rw [hk 13 (by omega)];simp [hb]))
    exact⟨by simp [hk 12,g12],hbx _ _ _ h0,c',by simp [g5],by simpa using hLR⟩
  ·rintro t H ⟨g12,h0,c,g5,hLR⟩ ha hb
   simp at hLR
   have hW:∀ r ∈ dh (dH 0 a++dH 1 b),VQ r:=fun r hr=>by
    obtain⟨x,-,rfl⟩:=b7.1 hr
    exact akt x
   obtain⟨r,H',he,rfl,-,l',hL',pm,up⟩:=Km.Rn (F:=O5) (σ:=bG) aKO Md aOI aJe (N:=64) (by omega) aIk hLR (by simp;omega) (jQ _) hW
   have hW':∀ r ∈ l',VQ r:=fun r hr=>hW r (pm.mem_iff.1 hr)
   refine ak (aj (.inl rfl) ?_)
   simp [g5,he.eq]
   refine ak (aj (.inl rfl) ?_)
   simp [g5]
   have hgr:Grid 3 l':=fun r hr=>by rw [hW' r hr];rfl
   obtain⟨g,hg⟩:=hL'.ex hgr 63
   refine aP (hQ _ _ _ ⟨g,l'.map Cm,⟨?_,?_⟩,rfl⟩ ?_)
   ·have:=pm.map Cm
    rwa [Oy]at this
   ·unfold zM
    rw [cD]
    intro i j hi hj hij
    simp only [a9]at hi hj
    have:=up i j l'[i] l'[j] (by omega) hij hj (ae hi) (ae hj)
    rw [dz,dz]
    unfold ajU at this
    rw [Ii]at this;omega
   ·rw [Vt hW']
    simp [deep,hg]
 exact⟨g,l,h1,Km.Pure.eq h⟩
end Go.Proofs.YthfeogjbpgocbaaGreat
end
section
namespace Go.Proofs.YthfeogjbpgocbaaGreat
open Go Km
theorem AB{k:Int}:∀(l:List Bd),(∀ b ∈ l,b.by_=1∨b.by_ = -1)→-(l.length:Int)≤gK k l∧gK k l≤l.length
 | [],_=>by simp [gK]
 | b::l,h=>by
  have:=AB (k:=k) l fun x hx=>h x (a8 _ hx)
  have:=h b aE
  simp only [gK,cN]
  split<;>omega
theorem EP{k:Int}{l:List SpD}{b:Bd}(h:b ∈ dH k l):b.ls=k∧(b.by_=1∨b.by_ = -1)∧∃ s ∈ l,b.at_=s.fr∨b.at_=s.to:=by
 induction l with
 | nil=>cases h
 | cons x l ih=>
  simp only [dH]at h
  split at h
  ·rcases co.1 h with rfl | h
   ·exact⟨rfl,.inl rfl,x,aE,.inl rfl⟩
   rcases co.1 h with rfl | h
   ·exact⟨rfl,.inr rfl,x,aE,.inr rfl⟩
   ·obtain⟨h1,h2,s,h3,h4⟩:=ih h
    exact⟨h1,h2,s,a8 _ h3,h4⟩
  ·obtain⟨h1,h2,s,h3,h4⟩:=ih h
   exact⟨h1,h2,s,a8 _ h3,h4⟩
theorem ak8{k:Int}{l:List SpD}{s:SpD}(h:s ∈ l)(hs:s.fr<s.to):(⟨s.to,k,-1⟩:Bd) ∈ dH k l:=by
 induction l with
 | nil=>cases h
 | cons x l ih=>
  simp only [dH]
  rcases co.1 h with rfl | h
  ·rw [if_pos hs];simp
  ·split
   ·exact a8 _ (a8 _ (ih h))
   ·exact ih h
theorem kV(n:Nat):(dP n [fi 0,fi 0]).length=n*2:=by
 induction n with
 | zero=>rfl
 | succ n ih=>simp [dP,ih,Nat.add_mul]
theorem aj2(n:Nat)(hn:n≤64):∃ c0 H0,cO c0≠some H0.length∧ML H0 c0 2 n (aZ [])∧∀ t:T,(R 17).ev t=vi n→xOp t [] (.dY 2 16 [fi 0,fi 0] (.k (vi 0)) (R 17))=some (.c c0,H0):=by
 have hro:bV n 16=true:=by simp [bV];omega
 have hx:∀ t:T,(R 17).ev t=vi n→xOp t [] (.dY 2 16 [fi 0,fi 0] (.k (vi 0)) (R 17))=(if(0:Int)≤0∧(0:Int)≤n∧bV (n:Int).toNat 16=true∧[fi 0,fi 0].length=2 then(if(n:Int)=0 then some (V.c (.f .es),([]:Heap))else some (V.c (.sl ([]:Heap).length 0 (0:Int).toNat (n:Int).toNat 0 2),[]++[.box ((dP (n:Int).toNat [fi 0,fi 0]).map .f) 0]))else none):=fun t h=>by
  show(match iK ((Arg.k (vi 0)).ev t),iK ((R 17).ev t)with | some l,some c=>_ | _,_=>none)=_
  rw [h];rfl
 by_cases e:n=0
 ·subst e
  exact⟨.f .es,[],by simp [cO],.inl ⟨rfl,rfl,rfl⟩,fun t h=>by rw [hx t h];rfl⟩
 ·refine⟨.sl 0 0 0 n 0 2,[.box ((dP n [fi 0,fi 0]).map .f) 0],by simp [cO],.inr ⟨by simp,by omega,0,(dP n [fi 0,fi 0]).map .f,rfl,by simp [aZ],?_⟩,fun t h=>?_⟩
  ·simp [kV]
  ·rw [hx t h,if_pos ⟨by omega,by omega,by simpa using hro,rfl⟩,if_neg (by omega)]
   simp
theorem aiM(ga gb:Tg)(a b:List SpD)(hl:2*(a.length+b.length)≤64)(ha:InR a)(hb:InR b){G:Nat}{kp:Bool→Bool→Bool}(hG:∀ x y,Kf tab.get G [vb x,vb y] (vb (kp x y)))(h00:kp false false=false) :
  ∃ g o,(sU o∧o.length≤2*(a.length+b.length)∧InR o∧∀ t (x y:Bool),(x=true↔fZ a t)→(y=true↔fZ b t)→(fZ o t↔kp x y=true)) ∧
   Km.Pure tab.get tq [.c (.f (sl ga (aZ a))),.c (.f (sl gb (aZ b))),.c (.f (.fn G []))]=Eq (.c (.f (sl g (aZ o)))):=by
 obtain⟨g0,l,⟨pm,so⟩,hbd⟩:=VF ga gb a b hl
 have hlen2:l.length≤2*(a.length+b.length):=by
  have:=pm.length_eq
  have h1:=o7 0 a
  have h2:=o7 1 b
  rw [bw]at this;omega
 have hlen:l.length≤64:=by omega
 have hbs:∀ x ∈ l,(x.ls=0∨x.ls=1)∧(x.by_=1∨x.by_ = -1)∧-2251799813685248≤x.at_∧x.at_≤2251799813685248:=fun x hx=>by
  rcases ba.1 (pm.mem_iff.1 hx)with h | h
  ·obtain⟨h1,h2,s,h3,h4⟩:=EP h
   have:=ha s h3
   exact⟨.inl h1,h2,by omega⟩
  ·obtain⟨h1,h2,s,h3,h4⟩:=EP h
   have:=hb s h3
   exact⟨.inr h1,h2,by omega⟩
 obtain⟨K,hK⟩:∃ K:Int→Prop,K=fun t=>kp (decide (0<iZ 0 t l)) (decide (0<iZ 1 t l))=true:=⟨_,rfl⟩
 have s0:∀ t,0<iZ 0 t l↔fZ a t:=fun t=>by
  rw [D6 pm,AO,AL (k:=0) (j:=1) (by decide),dc];exact(Ji 0 t a).2
 have s1:∀ t,0<iZ 1 t l↔fZ b t:=fun t=>by
  rw [D6 pm,AO,AL (k:=1) (j:=0) (by decide),Int.zero_add];exact(Ji 1 t b).2
 have start:uO K l 0 []:=uO.start fun t ht=>by
  have h0:∀ k,iZ k t l=0:=fun k=>Gi l fun x hx=>by
   obtain⟨j,hj,rfl⟩:=bk hx
   have:=so.get (i:=0) (j:=j) (by omega) hj
   have:=ht (by omega)
   omega
  rw [hK];simp [h0,h00]
 have now:∀(i:Nat) (hi:i<l.length) (t:Int),l[i].at_≤t→(∀ h':i+1<l.length,t<l[i+1].at_)→(K t↔kp (decide (0<gK 0 (l.take (i+1)))) (decide (0<gK 1 (l.take (i+1))))=true):=fun i hi t h1 h2=>by
  rw [hK]
  simp only [so.sum hi h1 h2]
 obtain⟨r,⟨g,o,h1,rfl⟩,h⟩:∃ r,(∃ g o,(uO K l l.length o∧o.length≤2*(a.length+b.length)∧InR o)∧r=.c (.f (sl g (aZ o))))∧Km.Pure tab.get tq [.c (.f (sl ga (aZ a))),.c (.f (sl gb (aZ b))),.c (.f (.fn G []))] r:=by
  refine iM aKd rfl fun Q hQ=>?_
  refine ak (aj (.inl rfl) ?_)
  simp
  refine ak (aj (.inl rfl) ?_)
  simp [hbd]
  obtain⟨c0,H0,hc0,aTo,hmk⟩:=aj2 l.length hlen
  refine ak (aj (.inl rfl) ?_)
  simp [hmk]
  have aAp:=aTo.push [.box [.f (fi 0),.f (fi 0)] 0]
  refine ak (aj (.inl rfl) ?_)
  simp
  refine ak ?_
  refine ak (aj (.inl rfl) ?_)
  simp
  obtain⟨pb,hpb⟩:∃ pb,pb=H0.length:=⟨_,rfl⟩
  rw [←hpb]
  refine jo l.length (fun i t H=>t.g 2=.c (.f (.fn G []))∧t.g 7=.c (.f (sl g0 (dh l)))∧t.g 9=.c (.ptr pb 0 0)∧t.g 19=.c (.f (sl g0 (dh l)))∧H[pb]?=some (.box [.f (fi (gK 0 (l.take i))),.f (fi (gK 1 (l.take i)))] 0) ∧
   ∃ c o,t.g 8=.c c∧cO c≠some pb∧ML H c 2 l.length (aZ o)∧uO K l i o∧o.length≤i∧InR o) (by omega) (by decide) (by decide) (by simp) (by simp)
   ⟨by simp,by simp,by simp,by simp,by rw [hpb];simp [gK],c0,[],by simp,by rw [hpb];exact hc0,by simpa [aZ]using aAp,start,by simp,fun s hs=>(nomatch hs)⟩ ?_ ?_
  ·rintro i t H hi ⟨g2,g7,g9,g19,hop,c,o,g8,KF,hML,hsw,hol,hinr⟩ ha hb nx
   have hrow:=fun H:Heap=>jd (H:=H) (jQ l) (yQ hi)
   simp only [Bd.row]at hrow
   obtain⟨hls,hby,aTm,aTl⟩:=hbs l[i] (av hi)
   have htk:l.take (i+1)=l.take i++[l[i]]:=by rw [List.take_add_one,ae hi];rfl
   have hsm:∀ k,gK k (l.take (i+1))=gK k (l.take i)+(if l[i].ls=k then l[i].by_ else 0):=fun k=>by rw [htk,aiN];simp [gK]
   have hbd0:=fun k=>AB (k:=k) (l.take i) fun x hx=>(hbs x (List.mem_of_mem_take hx)).2.1
   rw [List.length_take]at hbd0
   refine aN ?_
   refine ak (aj (.inl rfl) ?_)
   simp [g19,ha,gX,hi,hrow]
   obtain⟨H1,hH1⟩:∃ H1,H1=H++[.box [.f (fi l[i].at_),.f (fi l[i].ls),.f (fi l[i].by_)] 0]:=⟨_,rfl⟩
   have k1:H1[H.length]?=some (.box [.f (fi l[i].at_),.f (fi l[i].ls),.f (fi l[i].by_)] 0):=by rw [hH1];simp
   have hop1:H1[pb]?=some (.box [.f (fi (gK 0 (l.take i))),.f (fi (gK 1 (l.take i)))] 0):=by rw [hH1,ai (aF hop)];exact hop
   have aAp:ML H1 c 2 l.length (aZ o):=by rw [hH1];exact hML.push _
   have hpn:pb≠H.length:=by have:=aF hop;omega
   rw [←hH1]
   have go:∀(t:T) (H2:Heap),t.g 2=.c (.f (.fn G []))→t.g 7=.c (.f (sl g0 (dh l)))→t.g 8=.c c→t.g 9=.c (.ptr pb 0 0)→t.g 10=vi i→t.g 11=.c (.ptr H.length 0 0)→t.g 19=.c (.f (sl g0 (dh l)))→t.g 21=vi i→t.g 20=vi l.length →
     H2[pb]?=some (.box [.f (fi (gK 0 (l.take (i+1)))),.f (fi (gK 1 (l.take (i+1))))] 0)→H2[H.length]?=some (.box [.f (fi l[i].at_),.f (fi l[i].ls),.f (fi l[i].by_)] 0)→ML H2 c 2 l.length (aZ o) →
     ∀ kk,(∀ t' H',(t'.g 2=.c (.f (.fn G []))∧t'.g 7=.c (.f (sl g0 (dh l)))∧t'.g 9=.c (.ptr pb 0 0)∧t'.g 19=.c (.f (sl g0 (dh l)))∧H'[pb]?=some (.box [.f (fi (gK 0 (l.take (i+1)))),.f (fi (gK 1 (l.take (i+1))))] 0) ∧
      ∃ c o,t'.g 8=.c c∧cO c≠some pb∧ML H' c 2 l.length (aZ o)∧uO K l (i+1) o∧o.length≤i+1∧InR o)→t'.g 21=vi i→t'.g 20=vi l.length→WP tab.get tq none kk ⟨t',[],H'⟩ Q) →
     WP tab.get tq none (.code Fv::.inBlock 1::kk) ⟨t,[],H2⟩ Q:=by
    intro t H2 g2 g7 g8 g9 g10 g11 g19 g21 g20 hop2 k2 aI5 kk nx
    have skip:∀(t:T) (H3:Heap),t.g 2=.c (.f (.fn G []))→t.g 7=.c (.f (sl g0 (dh l)))→t.g 8=.c c→t.g 9=.c (.ptr pb 0 0)→t.g 19=.c (.f (sl g0 (dh l)))→t.g 21=vi i→t.g 20=vi l.length →
      H3[pb]?=some (.box [.f (fi (gK 0 (l.take (i+1)))),.f (fi (gK 1 (l.take (i+1))))] 0)→ML H3 c 2 l.length (aZ o)→(∀ t,l[i].at_≤t→(∀ h':i+1<l.length,t<l[i+1].at_)→¬ K t) →
      WP tab.get tq none kk ⟨t,[],H3⟩ Q:=fun t H3 g2 g7 g8 g9 g19 g21 g20 h1 h2 h3=>
     nx t H3 ⟨g2,g7,g9,g19,h1,c,o,g8,KF,h2,hsw.skip so hi h3,by omega,hinr⟩ g21 g20
    have wi:IntKind.i64.wrap ((i:Int)+1)=(i:Int)+1:=wrap64 (by omega) (by omega)
    refine ak ?_
    by_cases hlast:i+1=l.length
    ·refine ak (aj (.inl rfl) ?_)
     have hl':(i:Int)+1=(l.length:Int):=by omega
     have wl:IntKind.i64.wrap (l.length:Int)=l.length:=wrap64 (by omega) (by omega)
     simp [g7,g10,wi,hl',wl]
     refine aB (by simp) ?_
     refine bf (k':=kk) rfl ?_
     refine skip _ _ (by simp [g2]) (by simp [g7]) (by simp [g8]) (by simp [g9]) (by simp [g19]) (by simp [g21]) (by simp [g20]) hop2 aI5 fun t h1 h2=>?_
     have hno:∀(k:Int) (p:List SpD),(∀ b ∈ dH k p,b ∈ l)→¬ fZ p t:=by
      rintro k p hp ⟨s,hs,h3,h4⟩
      obtain⟨j,hj,e⟩:=bk (hp _ (ak8 (k:=k) hs (by omega)))
      have:=so.get (i:=j) (j:=i) (by omega) hi
      rw [e]at this
      have:s.to≤l[i].at_:=this
      omega
     have f0:¬ 0<iZ 0 t l:=fun h=>hno 0 a (fun b hb=>pm.mem_iff.2 (cU _ hb)) ((s0 t).1 h)
     have f1:¬ 0<iZ 1 t l:=fun h=>hno 1 b (fun b hb=>pm.mem_iff.2 (List.mem_append_right _ hb)) ((s1 t).1 h)
     rw [hK];simp [f0,f1,h00]
    have hi1:i+1<l.length:=by omega
    have hrow1:=fun H:Heap=>jd (H:=H) (jQ l) (yQ hi1)
    have hl':¬ ((i:Int)+1=(l.length:Int)):=by omega
    have hidx1:=fun H:Heap=>gX (H:=H) (g:=g0) (rows:=dh l) (sz:=3) (k:=.i64) (i:=(i:Int)+1) (by omega) (by simp;omega)
    have ld1:=fun H:Heap=>pV (H:=H) (x:=fi l[i+1].at_) (jQ l) (yQ hi1) (by simp [Bd.row])
    have htn:((i:Int)+1).toNat=i+1:=by omega
    rw [htn]at hidx1
    (try simp at hidx1);(try simp at ld1)
    obtain⟨-,-,aOn,aOm⟩:=hbs l[i+1] (av hi1)
    have hle:=so.get (i:=i) (j:=i+1) (by omega) hi1
    by_cases heq:l[i+1].at_=l[i].at_
    ·refine ak (aj (.inl rfl) ?_)
     simp [g7,g10,g11,wi,hl',hidx1,ld1,k2,heq]
     refine aB (by simp) ?_
     refine bf (k':=kk) rfl ?_
     refine skip _ _ (by simp [g2]) (by simp [g7]) (by simp [g8]) (by simp [g9]) (by simp [g19]) (by simp [g21]) (by simp [g20]) hop2 aI5 fun t h1 h2=>?_
     have:=h2 hi1
     omega
    have hlt:l[i].at_<l[i+1].at_:=by omega
    obtain⟨J,hev⟩:=hG (decide (0<gK 0 (l.take (i+1)))) (decide (0<gK 1 (l.take (i+1)))) H2
    have hev:=hev.eq
    have akz:(H2++J)[pb]?=some (.box [.f (fi (gK 0 (l.take (i+1)))),.f (fi (gK 1 (l.take (i+1))))] 0):=by rw [ai (aF hop2)];exact hop2
    have k3:(H2++J)[H.length]?=some (.box [.f (fi l[i].at_),.f (fi l[i].ls),.f (fi l[i].by_)] 0):=by rw [ai (aF k2)];exact k2
    have akG:=aI5.push J
    have i0:aU H2 1 (some 2) (.c (.ptr pb 0 0)) (vi 0)=some (.c (.ptr pb 0 0)):=rfl
    have i1:aU H2 1 (some 2) (.c (.ptr pb 0 0)) (vi 1)=some (.c (.ptr pb 1 0)):=rfl
    refine ak (aj (.inl rfl) ?_)
    simp [g2,g7,g9,g10,g11,wi,hl',hidx1,ld1,k2,heq,i0,i1,hop2,hev]
    generalize H2++J=H3 at akz k3 akG ⊢
    cases hkp:kp (decide (0<gK 0 (l.take (i+1)))) (decide (0<gK 1 (l.take (i+1))))
    ·refine aB (by simp [hkp]) ?_
     refine bf (k':=kk) rfl ?_
     refine skip _ _ (by simp [g2]) (by simp [g7]) (by simp [g8]) (by simp [g9]) (by simp [g19]) (by simp [g21]) (by simp [g20]) akz akG fun t h1 h2=>?_
     rw [now i hi t h1 h2,hkp];simp
    refine ay (by simp [hkp]) (aG ?_)
    have aOs:∀ t,l[i].at_≤t→t<l[i+1].at_→K t:=fun t h1 h2=>(now i hi t h1 fun _=>h2).2 hkp
    have hln:=akG.len
    rw [vC]at hln
    refine ak ?_
    refine ak (aj (.inl rfl) ?_)
    simp [g8,hln]
    refine ak ?_
    have more:∀(t:T),t.g 2=.c (.f (.fn G []))→t.g 7=.c (.f (sl g0 (dh l)))→t.g 8=.c c→t.g 9=.c (.ptr pb 0 0)→t.g 10=vi i→t.g 11=.c (.ptr H.length 0 0)→t.g 19=.c (.f (sl g0 (dh l)))→t.g 21=vi i→t.g 20=vi l.length→(∀ s ∈ o,s.to≠l[i].at_) →
      WP tab.get tq none (.code Fq::.inBlock 1::kk) ⟨t,[],H3⟩ Q:=by
     intro t g2 g7 g8 g9 g10 g11 g19 g21 g20 hne
     obtain⟨H4,hH4⟩:∃ H4,H4=H3++[.box [.f (fi l[i].at_),.f (fi l[i+1].at_)] 0]:=⟨_,rfl⟩
     have aAo:ML H4 c 2 l.length (aZ o):=by rw [hH4];exact akG.push _
     have k4:H4[H3.length]?=some (.box ((SpD.row ⟨l[i].at_,l[i+1].at_⟩).map .f) 0):=by rw [hH4];simp [SpD.row]
     have aS6:H4[pb]?=some (.box [.f (fi (gK 0 (l.take (i+1)))),.f (fi (gK 1 (l.take (i+1))))] 0):=by rw [hH4,ai (aF akz)];exact akz
     obtain⟨c',H5,e5,aTn,hK5,hbc⟩:=aAo.app (iq o) (by decide) (row:=SpD.row ⟨l[i].at_,l[i+1].at_⟩) rfl (by simp;omega) (bytes:=16) k4
     have aS5:H5[pb]?=some (.box [.f (fi (gK 0 (l.take (i+1)))),.f (fi (gK 1 (l.take (i+1))))] 0):=hK5.2 _ _ aS6 KF
     refine aj (.inl rfl) ?_
     simp [g7,g8,g10,g11,wi,hidx1,ld1,k3,←hH4,e5]
     refine aK (nx _ _ ⟨by simp [g2],by simp [g7],by simp [g9],by simp [g19],aS5,c',o++[⟨l[i].at_,l[i+1].at_⟩],by simp,by rw [hbc];exact KF,by simpa [aZ]using aTn,hsw.app hi1 hlt aOs hne,by simp;omega,?_⟩ (by simp [g21]) (by simp [g20]))
     intro s hs
     rcases ba.1 hs with hs | hs
     ·exact hinr s hs
     ·obtain rfl:=cI.1 hs
      exact⟨aTm,aTl,aOn,aOm⟩
    rcases List.eq_nil_or_concat o with rfl | ⟨o',s,rfl⟩
    ·refine aj (.inl rfl) ?_
     simp
     refine ay (by simp) (aG ?_)
     exact more _ (by simp [g2]) (by simp [g7]) (by simp [g8]) (by simp [g9]) (by simp [g10]) (by simp [g11]) (by simp [g19]) (by simp [g21]) (by simp [g20]) (by simp)
    rw [List.concat_eq_append]at *
    obtain⟨b,hi0,hl0,hst⟩:=akG.at (iq _) (j:=o'.length) (k:=1) (by simp) (by decide)
    have hget:(aZ (o'++[s]))[o'.length]'(by simp)=s.row:=by simp [aZ]
    simp only [hget]at hl0 hst
    have hl1:ldV H3 none (.c (.ptr b (o'.length*2+1) 0))=some (vi s.to):=hl0
    have aVX:o'.length+1≤i:=by simpa using hol
    have wo:IntKind.i64.wrap (o'.length:Int)=o'.length:=wrap64 (by omega) (by omega)
    have hpos:(0:Int)<(o'.length:Int)+1:=by omega
    refine aj (.inl rfl) ?_
    simp [g8,g11,hpos,wo,hi0,hl1,k3,-aH]
    have k3':ldV H3 none (.c (.ptr H.length 0 0))=some (vi l[i].at_):=by simp [k3]
    simp [k3',-aH]
    by_cases he:s.to=l[i].at_
    case neg=>
     refine ay (by simp [he]) (aG ?_)
     refine more _ (by simp [g2]) (by simp [g7]) (by simp [g8]) (by simp [g9]) (by simp [g10]) (by simp [g11]) (by simp [g19]) (by simp [g21]) (by simp [g20]) fun x hx=>?_
     rcases ba.1 hx with hx | hx
     ·have h1:=hsw.nm.1
      rw [List.pairwise_append]at h1
      have h2:=h1.2.2 x hx s (by simp)
      have h3:=hsw.nm.2 s (by simp)
      have h4:=hsw.le hi s (by simp)
      omega
     ·obtain rfl:=cI.1 hx;exact he
    refine aB (by simp [he]) ?_
    obtain⟨H4,e4,aAo,hK4⟩:=hst (fi l[i+1].at_)
    refine ak (aj (.inl rfl) ?_)
    simp [g7,g8,g10,wi,wo,hi0,hidx1,ld1,e4,-aH,-bI]
    refine bf (k':=kk) rfl ?_
    have hrows:(aZ (o'++[s])).set o'.length (s.row.set 1 (fi l[i+1].at_))=aZ (o'++[⟨s.fr,l[i+1].at_⟩]):=by simp [aZ,SpD.row]
    rw [hrows]at aAo
    refine nx _ _ ⟨by simp [g2],by simp [g7],by simp [g9],by simp [g19],hK4.2 _ _ akz KF,c,o'++[⟨s.fr,l[i+1].at_⟩],by simp [g8],KF,aAo,hsw.grow hi1 hlt aOs he,by simp at hol ⊢;omega,?_⟩ (by simp [g21]) (by simp [g20])
    intro x hx
    rcases ba.1 hx with hx | hx
    ·exact hinr x (cU _ hx)
    ·obtain rfl:=cI.1 hx
     have:=hinr s (by simp)
     exact⟨this.1,this.2.1,aOn,aOm⟩
   have wrs:∀ k,IntKind.i64.wrap (gK k (l.take i)+l[i].by_)=gK k (l.take i)+l[i].by_:=fun k=>wrap64 (by have:=hbd0 k;omega) (by have:=hbd0 k;omega)
   have i0:∀ H,aU H 1 (some 2) (.c (.ptr pb 0 0)) (vi 0)=some (.c (.ptr pb 0 0)):=fun _=>rfl
   have i1:∀ H,aU H 1 (some 2) (.c (.ptr pb 0 0)) (vi 1)=some (.c (.ptr pb 1 0)):=fun _=>rfl
   refine ak ?_
   rcases hls with hz | hz
   ·rw [hz]at k1
    refine aj (.inl rfl) ?_
    simp [g9,k1,i0,hop1,wrs]
    refine go _ _ (by simp [g2]) (by simp [g7]) (by simp [g8]) (by simp [g9]) (by simp [ha]) (by simp) (by simp [g19]) (by simp [ha]) (by simp [hb]) ?_ ?_ (aAp.set KF _) _ fun t' H' hI h21 h20=>nx t' H' ?_ h21 h20
    ·rw [ax (aF hop1),hsm,hsm,if_pos hz,if_neg (by omega),dc]
    ·rw [ag hpn,k1,hz]
    ·obtain⟨q2,q7,q9,q19,q,c',o',q8,r1,r2,r3,r4,r5⟩:=hI
     exact⟨by simp [q2],by simp [q7],by simp [q9],by simp [q19],q,c',o',by simp [q8],r1,r2,r3,r4,r5⟩
   ·rw [hz]at k1
    refine aj (.inl rfl) ?_
    simp [g9,k1,i1,hop1,wrs]
    refine go _ _ (by simp [g2]) (by simp [g7]) (by simp [g8]) (by simp [g9]) (by simp [ha]) (by simp) (by simp [g19]) (by simp [ha]) (by simp [hb]) ?_ ?_ (aAp.set KF _) _ fun t' H' hI h21 h20=>nx t' H' ?_ h21 h20
    ·rw [ax (aF hop1),hsm,hsm,if_neg (by omega),if_pos hz,dc]
    ·rw [ag hpn,k1,hz]
    ·obtain⟨q2,q7,q9,q19,q,c',o',q8,r1,r2,r3,r4,r5⟩:=hI
     exact⟨by simp [q2],by simp [q7],by simp [q9],by simp [q19],q,c',o',by simp [q8],r1,r2,r3,r4,r5⟩
  ·rintro t H ⟨g2,g7,g9,g19,hop,c,o,g8,KF,hML,hsw,hol,hinr⟩ ha hb
   obtain⟨c',g,hcut,hex⟩:=hML.cut (iq o)
   rw [vC]at hcut
   refine ak (aj (.inl rfl) ?_)
   have hln:=hML.len
   rw [vC]at hln
   have aOi:AX H 2 (.c c) (vi (o.length:Nat)) (vi (o.length:Nat))=some (.c c',H):=by simp only [AX,hcut]
   simp [g8,hln,aOi]
   refine aP (hQ _ _ _ ⟨g,o,⟨hsw,by omega,hinr⟩,rfl⟩ ?_)
   simp [deep,hex]
 have hfin:=h1.1.mem
 refine⟨g,o,⟨h1.1.nm,h1.2.1,h1.2.2,fun t x y hx hy=>?_⟩,Km.Pure.eq h⟩
 rw [hfin t (fun h=>absurd h (by omega)),hK]
 have e0:decide (0<iZ 0 t l)=x:=by rw [du];simp only [decide_eq_true_eq];exact(s0 t).trans hx.symm
 have e1:decide (0<iZ 1 t l)=y:=by rw [du];simp only [decide_eq_true_eq];exact(s1 t).trans hy.symm
 simp only [e0,e1]
theorem Je(ga gb:Tg)(a b:List SpD)(hl:2*(a.length+b.length)≤64)(ha:InR a)(hb:InR b) :
  ∃ g o,(sU o∧o.length≤2*(a.length+b.length)∧InR o∧∀ t,fZ o t↔fZ a t∨fZ b t) ∧
   Km.Pure tab.get Di [.c (.f (sl ga (aZ a))),.c (.f (sl gb (aZ b)))]=Eq (.t [.c (.f (sl g (aZ o))),vi 0]):=by
 obtain⟨g,o,⟨h1,h2,h3,h4⟩,hs⟩:=aiM ga gb a b hl ha hb (kp:=or) Ub rfl
 have ra:=Ee ga a (by omega)
 have rb:=Ee gb b (by omega)
 rw [ha.any]at ra
 rw [hb.any]at rb
 simp at ra rb
 have hc:Km.Pure tab.get OY [.c (.f (sl ga (aZ a))),.c (.f (sl gb (aZ b))),.c (.f (.fn IQ []))]=Eq (.t [.c (.f (sl g (aZ o))),vi 0]):=Km.Pure.eq (by
  refine cu aKh rfl fun Q hQ=>?_
  refine ak (aj (.inl rfl) ?_)
  simp
  refine ak ?_
  refine ak (aj (.inl rfl) ?_)
  simp [ra,rb]
  refine ay (by simp) (aG ?_)
  refine ak (aj (.inl rfl) ?_)
  simp [hs]
  refine aP (hQ _ _ ?_)
  simp)
 refine⟨g,o,⟨h1,h2,h3,fun t=>?_⟩,Km.Pure.eq ?_⟩
 ·have:=h4 t (a.any fun s=>Gn s t) (b.any fun s=>Gn s t) (Ah a t) (Ah b t)
  rw [this,Bool.or_eq_true,Ah,Ah]
 ·refine cu aKl rfl fun Q hQ=>?_
  refine ak (aj (.inl rfl) ?_)
  simp
  refine ak (aj (.inl rfl) ?_)
  simp [hc]
  refine aP (hQ _ _ ?_)
  simp
theorem azG(ga:Tg)(a:List SpD)(hl:2*a.length≤64)(ha:InR a) :
  ∃ g o,(sU o∧o.length≤2*a.length∧InR o∧∀ t,fZ o t↔fZ a t)∧Km.Pure tab.get OZ [.c (.f (sl ga (aZ a)))]=Eq (.t [.c (.f (sl g (aZ o))),vi 0]):=by
 obtain⟨g,o,⟨h1,h2,h3,h4⟩,hs⟩:=Je ga .nil a [] (by simpa using hl) ha (fun s h=>nomatch h)
 have hs':Km.Pure tab.get Di [.c (.f (sl ga (aZ a))),.c (.f .aA)]=Eq (.t [.c (.f (sl g (aZ o))),vi 0]):=hs
 refine⟨g,o,⟨h1,by simpa using h2,h3,fun t=>?_⟩,Km.Pure.eq ?_⟩
 ·rw [h4 t];simp [fZ]
 ·refine cu aKm rfl fun Q hQ=>?_
  refine ak (aj (.inl rfl) ?_)
  simp
  refine ak (aj (.inl rfl) ?_)
  simp [hs']
  refine aP (hQ _ _ ?_)
  simp
end Go.Proofs.YthfeogjbpgocbaaGreat
end
section
namespace Go.Proofs.YthfeogjbpgocbaaGreat
open Go Km
structure HourD where
 tg:Tg
 ts:List TermD
 fr:Int
 to:Int
def HourD.row(h:HourD):List FC:=[sl h.tg (termRows h.ts),fi h.fr,fi h.to]
def bH(l:List HourD):List (List FC):=l.map HourD.row
@[simp] theorem az0 (l:List HourD):(bH l).length=l.length:=by simp [bH]
theorem iH(l:List HourD):Grid 3 (bH l):=Grid.map fun _=>rfl
theorem KG{l:List HourD}{j:Nat}(hj:j<l.length):(bH l)[j]?=some l[j].row:=by simp [bH,hj]
def HourD.OK(h:HourD):Prop:=mixB h.ts=true∧0≤h.fr∧h.fr<h.to∧h.to≤1440
def HourD.sp(h:HourD):SpD:=⟨h.fr,h.to⟩
def oG(hs:List HourD)(day:Int):List SpD:=(hs.filter fun h=>rU h.ts day).map HourD.sp
def onL(hs:List HourD)(cl:List Int)(day:Int):List SpD:=if day ∈ cl then []else oG hs day
def Cb(h:HourD)(m n:Int):Bool:=decide (h.fr≤m)&&decide (m+n≤h.to)
def jM(hs:List HourD)(cl:List Int)(day m n:Int):Bool:=!decide (day ∈ cl)&&hs.any fun h=>Cb h m n&&rU h.ts day
theorem akR{hs:List HourD}{day:Int}{s:SpD}:s ∈ oG hs day↔∃ h ∈ hs,rU h.ts day=true∧h.sp=s:=by
 simp only [oG,b7,List.mem_filter]
 exact⟨fun⟨h,⟨a,b⟩,c⟩=>⟨h,a,b,c⟩,fun⟨h,a,b,c⟩=>⟨h,⟨a,b⟩,c⟩⟩
theorem KU(a b:List HourD)(day:Int):oG (a++b) day=oG a day++oG b day:=by simp [oG]
theorem KT(a:List HourD)(day:Int):(oG a day).length≤a.length:=by simp only [oG,a9];exact List.length_filter_le _ _
theorem Sr(a:List HourD)(cl:List Int)(day:Int):(onL a cl day).length≤a.length:=by unfold onL;split;simp;exact KT a day
theorem aAG{hs:List HourD}(hok:∀ h ∈ hs,h.OK){day:Int}{s:SpD}(h:s ∈ oG hs day):0≤s.fr∧s.fr<s.to∧s.to≤1440:=by
 obtain⟨x,hx,-,rfl⟩:=akR.1 h
 exact(hok x hx).2
theorem aH6{hs:List HourD}(hok:∀ h ∈ hs,h.OK){cl:List Int}{day:Int}{s:SpD}(h:s ∈ onL hs cl day):0≤s.fr∧s.fr<s.to∧s.to≤1440:=by
 unfold onL at h;split at h
 ·cases h
 ·exact aAG hok h
theorem VJ(a b:List HourD)(cl:List Int)(day m n:Int):jM (a++b) cl day m n=(jM a cl day m n||jM b cl day m n):=by
 unfold jM
 rw [List.any_append,Bool.and_or_distrib_left]
theorem azE(a b:List HourD)(cl:List Int)(day t:Int):fZ (onL (a++b) cl day) t↔fZ (onL a cl day) t∨fZ (onL b cl day) t:=by
 unfold onL
 split
 ·simp [fZ]
 ·rw [KU,xO]
end Go.Proofs.YthfeogjbpgocbaaGreat
end
section
namespace Go.Proofs.YthfeogjbpgocbaaGreat
open Go Km
def ckR(z:ZD)(g:Tg)(o:List TrD):List FC:=z.row++[sl g (aT o),fi z.cyc]
abbrev ckV(z:ZD)(g:Tg)(o:List TrD):V:=.c (.f (.fp (ckR z g o) 0))
section
variable{H:Heap}{z:ZD}{g:Tg}{o:List TrD}
theorem aIm(hc:z.c<3):ldV H none (.c (.f (.fp (ckR z g o) 4)))=some (vi z.start):=by
 obtain⟨c,s,tg,tr,h',yg,yr⟩:=z
 have:c=0∨c=1∨c=2:=by simp at hc;omega
 rcases this with rfl | rfl | rfl<;>simp [ldV,aO,ckR,ZD.row,jL,aS]
theorem NQ(hc:z.c<3):ldV H none (.c (.f (.fp (ckR z g o) 5)))=some (.c (.f (sl z.tg (aT z.tr)))):=by
 obtain⟨c,s,tg,tr,h',yg,yr⟩:=z
 have:c=0∨c=1∨c=2:=by simp at hc;omega
 rcases this with rfl | rfl | rfl<;>simp [ldV,aO,ckR,ZD.row,jL,aS]
theorem akn(hc:z.c<3):ldV H none (.c (.f (.fp (ckR z g o) 6)))=some (vi z.hor):=by
 obtain⟨c,s,tg,tr,h',yg,yr⟩:=z
 have:c=0∨c=1∨c=2:=by simp at hc;omega
 rcases this with rfl | rfl | rfl<;>simp [ldV,aO,ckR,ZD.row,jL,aS]
theorem wR(hc:z.c<3):ldV H none (.c (.f (.fp (ckR z g o) 8)))=some (.c (.f (sl g (aT o)))):=by
 obtain⟨c,s,tg,tr,h',yg,yr⟩:=z
 have:c=0∨c=1∨c=2:=by simp at hc;omega
 rcases this with rfl | rfl | rfl<;>simp [ldV,aO,ckR,ZD.row,jL,aS]
theorem aNP(hc:z.c<3):ldV H none (.c (.f (.fp (ckR z g o) 9)))=some (vi z.cyc):=by
 obtain⟨c,s,tg,tr,h',yg,yr⟩:=z
 have:c=0∨c=1∨c=2:=by simp at hc;omega
 rcases this with rfl | rfl | rfl<;>simp [ldV,aO,ckR,ZD.row,jL,aS]
end
theorem minutes_fev{z:ZD}{g:Tg}{o:List TrD}(hc:z.c<3)(h0:0≤z.cyc)(h1:z.cyc≤1000000)(H:Heap) :
  Ev tab.get (.fn oJ) [ckV z g o] H (vi (z.cyc*1440)) H:=by
 obtain⟨r,H',he,rfl,rfl⟩:∃ r H',Ev tab.get (.fn oJ) [ckV z g o] H r H'∧r=vi (z.cyc*1440)∧H'=H:=by
  refine iT alm rfl fun Q hQ=>?_
  refine ak (aj (.inl rfl) ?_)
  simp
  refine ak (aj (.inl rfl) ?_)
  simp [aNP hc,wrap64 (n:=z.cyc*1440) (by omega) (by omega)]
  exact aP (hQ _ _ _ rfl (res_one (by simp)) ⟨rfl,rfl⟩)
 exact he
section
variable{g:Tg}{o:List TrD}
theorem MH(H:Heap)(h0:0<o.length):bM H (.f (sl g (aT o)))=some o.length:=by
 have hne:¬ (aT o).isEmpty=true:=by
  intro h
  have:o=[]:=by simpa [aT]using h
  subst this;simp at h0
 simp [sl,hne,bM]
theorem kJ(H:Heap){i:Nat}(hi:i<o.length):aU H 2 none (.c (.f (sl g (aT o)))) (vi i)=some (.c (.f (.fp (aT o).flatten (i*2)))):=by
 have:=gX (H:=H) (g:=g) (rows:=aT o) (sz:=2) (k:=.i64) (i:=(i:Int)) (by omega) (by simp;omega)
 simpa using this
theorem AY(H:Heap){i:Nat}(hi:i<o.length):ldV H none (.c (.f (.fp (aT o).flatten (i*2))))=some (vi o[i].at_):=pV (dF o) (fD (ae hi)) rfl
theorem yj(H:Heap){i:Nat}(hi:i<o.length):ldV H (some 2) (.c (.f (.fp (aT o).flatten (i*2))))=some (.a (o[i].row.map .f)):=jd (dF o) (fD (ae hi))
end
theorem all2b_self{α:Type}{f:α→α→Bool}:∀ {xs:List α},(∀ x ∈ xs,f x x=true)→all2b f xs xs=true
 | [],_=>rfl
 | x::xs,h=>by simp only [all2b,h x aE,all2b_self fun y hy=>h y (a8 _ hy),Bool.and_self]
theorem sO{n:Nat}{xs:List FC}(h:∀ x ∈ xs,∃ k m,x=FC.int k m):all2b (FC.beq n) xs xs=true:=all2b_self fun x hx=>by
 obtain⟨k,m,rfl⟩:=h x hx
 cases n<;>simp [FC.beq]
theorem vZ(o:List TrD):∀ x ∈ (aT o).flatten,∃ k m,x=FC.int k m:=by
 intro x hx
 obtain⟨r,hr,hx⟩:=List.mem_flatten.1 hx
 obtain⟨y,-,rfl⟩:=b7.1 hr
 simp [TrD.row]at hx
 rcases hx with rfl | rfl<;>exact⟨_,_,rfl⟩
theorem ak7(g:Tg)(o:List TrD):FC.beq 64 (sl g (aT o)) (sl g (aT o))=true:=by
 unfold sl
 split
 ·cases g<;>rfl
 ·simp [FC.beq,sO (vZ o)]
def rnd(o:List TrD)(size t:Int):Int:=match o[0]? with
 | some x=>max (t-x.at_) 0 / size
 | none=>0
set_option maxRecDepth 100000 in
theorem Ju{z:ZD}{g:Tg}{o:List TrD}(hc:z.c<3)(hy0:1≤z.cyc)(hy1:z.cyc≤217)(h0:0<o.length)(hb:AtB o[0]){t:Int}(t0:-10000000≤t)(t1:t≤10000000) :
  Km.Pure tab.get II [ckV z g o,vi t]=Eq (vi (rnd o (z.cyc*1440) t)):=Km.Pure.eq (by
 refine cu aJ4 rfl fun Q hQ=>?_
 unfold AtB at hb
 have i0:=fun H=>kJ (g:=g) H h0
 have l0:=fun H=>AY H h0
 simp only [Nat.zero_mul,eo]at i0 l0
 have hm:=fun H=>(minutes_fev (g:=g) (o:=o) hc (by omega) (by omega) H).eq
 have hr:rnd o (z.cyc*1440) t=max (t-o[0].at_) 0 / (z.cyc*1440):=by unfold rnd;rw [ae h0]
 have hq:bU .quo (vi (max (t-o[0].at_) 0)) (vi (z.cyc*1440))=some (vi (max (t-o[0].at_) 0 / (z.cyc*1440))):=MW (by omega) (by omega) (by omega)
 refine ak (aj (.inl rfl) ?_)
 simp
 refine ak (ny (.inl rfl) ?_ ?_)
 case refine_2=>
  intro c hcm
  have hcc:c=(4,14)∨c=(5,14)∨c=(7,14):=by simpa using hcm
  rcases hcc with rfl | rfl | rfl
  all_goals
   refine⟨by decide,_,rfl,.inl ⟨by decide,?_⟩⟩
   simp [wR hc,i0,l0,hm,sS,wrap64 (n:=t-o[0].at_) (by omega) (by omega),hq]
   first | rfl | exact ak7 g o | exact sO (vZ o) | simp [V.beq,C.beq,FC.beq,sO (vZ o)]
 simp [wR hc,i0,l0,hm,wrap64 (n:=t-o[0].at_) (by omega) (by omega),hq]
 refine aP (hQ _ _ ?_)
 simp [hr])
end Go.Proofs.YthfeogjbpgocbaaGreat
end
section
namespace Go.Proofs.YthfeogjbpgocbaaGreat
open Go Km
theorem Vb(x:TrD)(t:Int):Kf tab.get sV [.a (x.row.map .f),vi t] (vi (oH x.at_ t)):=by
 refine jA aJ6 rfl fun H Q hQ=>?_
 refine ak (aj (.inl rfl) ?_)
 simp [TrD.row]
 refine ak (aj (.inl rfl) ?_)
 simp [vP]
 refine aP (hQ _ _ ?_)
 simp
theorem TA{a b:Int}:0≤oH a b↔b≤a:=by unfold oH;split<;>(try split)<;>omega
theorem akT{a b:Int}:0<oH a b↔b<a:=by unfold oH;split<;>(try split)<;>omega
theorem bsT(g:Tg)(l:List TrD)(hs:l.Pairwise TLt)(hl:l.length≤1000)(t:Int):∃(i:Nat) (w:Bool),i≤l.length∧(∀ j (hj:j<l.length),j<i→l[j].at_<t)∧(∀ j (hj:j<l.length),i≤j→t≤l[j].at_)∧(w=true↔∃ h:i<l.length,l[i].at_=t) ∧
  Km.Pure tab.get Dl [.c (.f (sl g (aT l))),vi t,.c (.f (.fn sV []))]=Eq (.t [vi i,vb w]):=by
 have hF:tab.get Dl=some (aEh 2):=aKV
 have hrow:∀(j:Nat) (hj:j<(aT l).length),(aT l)[j]=(l[j]'(by simpa using hj)).row:=fun j hj=>by simp [aT]
 obtain⟨i,h1,h2,h3,w,h4,h5⟩:=aJk hF g (aT l) (dF l) (.c (.f (.fn sV []))) (fi t) (fun r=>oH (zU r).at_ t) (by simp;omega)
  (fun r hr=>by
   obtain⟨x,-,rfl⟩:=b7.1 hr
   exact⟨sV,_,by simp [dw],Vb x t⟩)
  (fun i j hi hj h=>by
   have hjl:j<l.length:=by simpa using hj
   have hil:i<l.length:=by omega
   simp only [hrow]at h ⊢
   have:=cD.1 hs i j hil hjl hi
   unfold TLt at this
   rw [TA]at h
   rw [akT]
   show t<l[j].at_
   have h:t≤l[i].at_:=h
   omega)
 refine⟨i,w,by simpa using h1,fun j hj hji=>?_,fun j hj hji=>?_,?_,h5⟩
 ·have:=h2 j (by simpa using hj) hji
  rw [hrow,xC]at this;exact this
 ·have:=h3 j (by simpa using hj) hji
  rw [hrow,TA]at this;exact this
 ·rw [h4]
  constructor
  ·rintro⟨h,e⟩
   rw [hrow,EM]at e
   exact⟨by simpa using h,e⟩
  ·rintro⟨h,e⟩
   refine⟨by simpa using h,?_⟩
   rw [hrow,EM];exact e
theorem TV{o:List TrD}{size t:Int}(h:eU o size=true)(hs:0<size)(h0:0<o.length)(ht:o[0].at_≤t){i:Nat}(hi:i<o.length)(hn:∀ j (hj:j<o.length),i<j→t-(t-o[0].at_) / size*size<o[j].at_) :
  ∀ y,Mem o size y→y.at_≤t→y.at_≤o[i].at_+(t-o[0].at_) / size*size:=by
 rintro y ⟨m,b,hb,rfl⟩ hy
 simp only at hy ⊢
 have q0:=bN (t-o[0].at_) size
 have q1:=b5 (t-o[0].at_) (show size≠0 by omega)
 have q2:=cm (t-o[0].at_) hs
 have hK:0≤(t-o[0].at_) / size:=c8 (by omega) (by omega)
 rw [db]at q0
 obtain⟨K,eK⟩:∃ K:Nat,(t-o[0].at_) / size=(K:Int):=⟨((t-o[0].at_) / size).toNat,by omega⟩
 rw [eK]at q0 hn ⊢
 obtain⟨_,b1,b2⟩:=jY h hb
 obtain⟨_,a1,a2⟩:=jY h (av hi)
 rcases bO m K with e | e | e
 ·have:=ng (size:=size) (by omega) e;omega
 ·subst e
  obtain⟨j,hj,rfl⟩:=bk hb
  rcases bO i j with e | e | e
  ·have:=hn j hj e;omega
  ·subst e;exact de _
  ·have:=iQ h e hi;omega
 ·have:=ng (size:=size) (by omega) e;omega
set_option maxRecDepth 100000 in
theorem azV{z:ZD}{o:List TrD}(h:OKZ z o)(hb:∀ x ∈ o,AtB x)(hl:o.length≤100)(g:Tg)(t:Int)(t0:-10000000≤t)(t1:t≤10000000) :
  ∃ r:Option TrD,Last (aAT z.tr o (z.cyc*1440) z.hor) t r∧Km.Pure tab.get sW [ckV z g o,vi t]=Eq (.t [.a ((r.getD ⟨0,0⟩).row.map .f),vb r.isSome]):=by
 obtain⟨rr,⟨r,hr,rfl⟩,hp⟩:∃ rr,(∃ r:Option TrD,Last (aAT z.tr o (z.cyc*1440) z.hor) t r∧rr=.t [.a ((r.getD ⟨0,0⟩).row.map .f),vb r.isSome])∧Km.Pure tab.get sW [ckV z g o,vi t] rr:=by
  have hc:=h.c
  have hcy:=h.aAI
  have hsp:=h.sp
  have hst:=tJ h.ts
  have htl:=h.tl
  refine iM aJ7 rfl fun Q hQ=>?_
  refine ak (aj (.inl rfl) ?_)
  simp
  refine ak (aj (.inl rfl) ?_)
  simp
  refine ak ?_
  have fin:(∀ y,Mem o (z.cyc*1440) y→z.hor≤y.at_→t<y.at_)→∀(t':T) (H:Heap),H[0]?=some (.box [.f (fi 0),.f (fi 0)] 0)→t'.g 0=ckV z g o→t'.g 1=vi t→t'.g 4=.c (.ptr 0 0 0)→t'.g 6=.c (.f (.fn sV [])) →
    WP tab.get sW none [.code zf] ⟨t',[],H⟩ Q:=by
   intro hno t' H hH g0 g1 g4 g6
   obtain⟨i,w,hi,i1,i2,hw,hbs⟩:=bsT z.tg z.tr hst (by omega) t
   have hlt:=aF hH
   refine ak (aj (.inl rfl) ?_)
   simp [g0,g1,g6,NQ hc,hbs]
   have tail:∀(k:Nat) (hk:k<z.tr.length),z.tr[k].at_≤t→(∀ j (hj:j<z.tr.length),k<j→t<z.tr[j].at_)→∀ t':T,t'.g 0=ckV z g o→t'.g 4=.c (.ptr 0 0 0)→t'.g 11=vi (k:Nat)→WP tab.get sW none [.code Fj] ⟨t',[],H⟩ Q:=by
    intro k hk k1 k2 t' g0 g4 g11
    have ii:=kJ (g:=z.tg) H hk
    have ll:=yj H hk
    refine ak ?_
    refine ak (aj (.inl rfl) ?_)
    simp [g11]
    refine ay (by simp) (aG ?_)
    refine ak (aj (.inl rfl) ?_)
    simp [g0,g4,g11,NQ hc,ii,ll,hH,TrD.row]
    refine aP (hQ _ _ _ ⟨some z.tr[k],⟨.inl (av hk),k1,?_⟩,rfl⟩ ?_)
    ·rintro y (hy | ⟨hy,hy'⟩) hyt
     ·obtain⟨j,hj,rfl⟩:=bk hy
      rcases bO k j with e | e | e
      ·have:=k2 j hj e;omega
      ·subst e;exact de _
      ·have:=xZ h.ts j k e hk;omega
     ·have:=hno y hy hy';omega
    ·simp [TrD.row,g4,hlt]
   refine ak ?_
   refine ak (aj (.inl rfl) ?_)
   simp
   cases w with
   | true=>
    obtain⟨hil,e⟩:=hw.1 rfl
    refine ay (by simp) (aG ?_)
    exact tail i hil (by omega) (fun j hj hij=>by have:=xZ h.ts i j hij hj;omega) _ (by simp [g0]) (by simp [g4]) (by simp)
   | false=>
    refine aB (by simp) ?_
    refine aj (.inl rfl) ?_
    simp [wrap64 (n:=(i:Int)-1) (by omega) (by omega)]
    have hi2:∀ j (hj:j<z.tr.length),i≤j→t<z.tr[j].at_:=by
     intro j hj hij
     have a:=i2 j hj hij
     rcases b9 hij with e | e
     ·have b:=i2 i (by omega) (aw _)
      have:=xZ h.ts i j e hj;omega
     ·subst e
      rcases Int.lt_or_eq_of_le a with e | e
      ·exact e
      ·exact absurd (hw.2 ⟨hj,e.symm⟩) (by simp)
    by_cases h0:i=0
    ·subst h0
     refine ak ?_
     refine ak (aj (.inl rfl) ?_)
     simp
     refine aB (by simp) ?_
     refine ak (aj (.inl rfl) ?_)
     simp [g4,hH]
     refine aP (hQ _ _ _ ⟨none,?_,rfl⟩ ?_)
     ·rintro y (hy | ⟨hy,hy'⟩)
      ·obtain⟨j,hj,rfl⟩:=bk hy
       exact hi2 j hj (by omega)
      ·exact hno y hy hy'
     ·simp [TrD.row,g4,hlt]
    ·obtain⟨k,rfl⟩:∃ k,i=k+1:=⟨i-1,by omega⟩
     rw [show(((k+1:Nat):Int)-1)=(k:Int) by omega]
     exact tail k (by omega) (by have:=i1 k (by omega) (by omega);omega) (fun j hj hkj=>hi2 j hj (by omega)) _ (by simp [g0]) (by simp [g4]) (by simp)
  refine ak ?_
  by_cases h0:0<o.length
  case neg=>
   have:o=[]:=List.eq_nil_of_length_eq_zero (by omega)
   subst this
   have hsl:∀ H:Heap,bM H (.f (sl g (aT [])))=some 0:=by intro H;cases g<;>rfl
   refine aj (.inl rfl) ?_
   simp [wR hc,hsl]
   refine ay (by simp) (aG ?_)
   exact fin (fun y hy _=>by obtain⟨k,b,hb,_⟩:=hy;cases hb) _ _ rfl (by simp) (by simp) (by simp) (by simp)
  have hb0:=hb _ (av h0)
  have i0:=fun H=>kJ (g:=g) H h0
  have l0:=fun H=>AY H h0
  simp only [Nat.zero_mul,eo]at i0 l0
  refine aj (.inl rfl) ?_
  simp [wR hc,MH _ h0,i0,l0,h0]
  by_cases hge:o[0].at_≤t
  case neg=>
   refine ay (by simp [hge]) (aG ?_)
   refine fin (fun y hy _=>?_) _ _ rfl (by simp) (by simp) (by simp) (by simp)
   obtain⟨k,b,hb',rfl⟩:=hy
   obtain⟨_,b1,b2⟩:=jY hsp hb'
   have:0≤(k:Int)*(z.cyc*1440):=d8 (by omega) (by omega)
   simp only;omega
  refine aB (by simp [hge]) ?_
  have hrd:=Ju (g:=g) hc hcy.1 hcy.2 h0 hb0 t0 t1
  have hmi:=(minutes_fev (g:=g) (o:=o) hc (by omega) (by omega) [.box [.f (fi 0),.f (fi 0)] 0]).eq
  unfold AtB at hb0
  have hrv:rnd o (z.cyc*1440) t=(t-o[0].at_) / (z.cyc*1440):=by
   unfold rnd;rw [ae h0];simp only;rw [Int.max_eq_left (by omega)]
  rw [hrv]at hrd
  have q0:=bN (t-o[0].at_) (z.cyc*1440)
  have q1:=b5 (t-o[0].at_) (show z.cyc*1440≠0 by omega)
  have q2:=cm (t-o[0].at_) (show 0<z.cyc*1440 by omega)
  rw [db]at q0
  have hK0:0≤(t-o[0].at_) / (z.cyc*1440):=c8 (by omega) (by omega)
  have hBm:0≤(t-o[0].at_) / (z.cyc*1440)*(z.cyc*1440):=d8 hK0 (by omega)
  have hyl:=fun i hi hn=>TV (t:=t) hsp (by omega) h0 hge (i:=i) hi hn
  obtain⟨B,hB⟩:∃ B,B=(t-o[0].at_) / (z.cyc*1440)*(z.cyc*1440):=⟨_,rfl⟩
  have hmem:∀ i (hi:i<o.length),Mem o (z.cyc*1440) ⟨o[i].at_+B,o[i].off⟩:=fun i hi=>⟨((t-o[0].at_) / (z.cyc*1440)).toNat,o[i],av hi,by rw [dE hK0,hB]⟩
  rw [←hB]at q0 hBm hyl
  refine ak (aj (.inl rfl) ?_)
  simp [hrd,hmi,←hB,wrap64 (n:=B) (by omega) (by omega)]
  obtain⟨i,w,hi,i1,i2,hw,hbs⟩:=bsT g o (nX hsp) (by omega) (t-B)
  refine ak (aj (.inl rfl) ?_)
  simp [wR hc,wrap64 (n:=t-B) (by omega) (by omega),hbs]
  have tail:∀(k:Nat) (hk:k<o.length),o[k].at_≤t-B→(∀ j (hj:j<o.length),k<j→t-B<o[j].at_)→∀ t':T,t'.g 0=ckV z g o→t'.g 1=vi t→t'.g 4=.c (.ptr 0 0 0)→t'.g 6=.c (.f (.fn sV []))→t'.g 7=vi B→t'.g 8=vi (k:Nat)→WP tab.get sW none [.code Fp,.code zf] ⟨t',[],[.box [.f (fi 0),.f (fi 0)] 0]⟩ Q:=by
   intro k hk k1 k2 t' g0 g1 g4 g6 g7 g8
   have ii:=fun H=>kJ (g:=g) H hk
   have ll:=fun H=>yj H hk
   have hbk:=hb _ (av hk)
   unfold AtB at hbk
   have hmax:=hyl k hk k2
   refine ak (aj (.inl rfl) ?_)
   simp [g0,g8,wR hc,ii,ll,TrD.row]
   refine ak ?_
   refine aj (.inl rfl) ?_
   simp [g0,g7,akn hc,wrap64 (n:=o[k].at_+B) (by omega) (by omega)]
   by_cases hh:z.hor≤o[k].at_+B
   ·refine aB (by simp [hh]) ?_
    refine ak (aj (.inl rfl) ?_)
    simp [g7,wrap64 (n:=o[k].at_+B) (by omega) (by omega)]
    refine ak (aj (.inl rfl) ?_)
    simp [g4,aS]
    refine aP (hQ _ _ _ ⟨some ⟨o[k].at_+B,o[k].off⟩,⟨.inr ⟨hmem k hk,hh⟩,by show o[k].at_+B≤t;omega,?_⟩,rfl⟩ ?_)
    ·rintro y (hy | ⟨hy,hy'⟩) hyt
     ·have:=(h.tb y hy).2.1
      show y.at_≤o[k].at_+B
      omega
     ·exact hmax y hy hyt
    ·simp [TrD.row,g4]
   ·refine ay (by simp;omega) (aG ?_)
    refine fin (fun y hy hyh=>?_) _ _ rfl (by simp [g0]) (by simp [g1]) (by simp [g4]) (by simp [g6])
    rcases Int.lt_or_le t y.at_ with e | e
    ·exact e
    ·have:=hmax y hy e;omega
  refine ak ?_
  refine ak (aj (.inl rfl) ?_)
  simp
  cases w with
  | true=>
   obtain⟨hil,e⟩:=hw.1 rfl
   refine ay (by simp) (aG ?_)
   exact tail i hil (by omega) (fun j hj hij=>by have:=iQ hsp hij hj;omega) _ (by simp) (by simp) (by simp) (by simp) (by simp) (by simp)
  | false=>
   refine aB (by simp) ?_
   refine aj (.inl rfl) ?_
   simp [wrap64 (n:=(i:Int)-1) (by omega) (by omega)]
   have hi2:∀ j (hj:j<o.length),i≤j→t-B<o[j].at_:=by
    intro j hj hij
    have a:=i2 j hj hij
    rcases b9 hij with e | e
    ·have b:=i2 i (by omega) (aw _)
     have:=iQ hsp e hj;omega
    ·subst e
     rcases Int.lt_or_eq_of_le a with e | e
     ·exact e
     ·exact absurd (hw.2 ⟨hj,e.symm⟩) (by simp)
   have h0i:i≠0:=by
    rintro rfl
    have:=hi2 0 h0 (aw _);omega
   obtain⟨k,rfl⟩:∃ k,i=k+1:=⟨i-1,by omega⟩
   rw [show(((k+1:Nat):Int)-1)=(k:Int) by omega]
   exact tail k (by omega) (by have:=i1 k (by omega) (by omega);omega) (fun j hj hkj=>hi2 j hj (by omega)) _ (by simp) (by simp) (by simp) (by simp) (by simp) (by simp)
 exact⟨r,hr,Km.Pure.eq hp⟩
end Go.Proofs.YthfeogjbpgocbaaGreat
end
section
namespace Go.Proofs.YthfeogjbpgocbaaGreat
open Go Km
theorem BD{c y:Nat}{r q:YrD}(hr:r.OK):∀ x ∈ gW c (y+1) r q,-1080≤x.off∧x.off≤1080:=by
 intro x hx
 obtain⟨-,-,-,-,-,-,p0,p1⟩:=hr
 simp only [gW]at hx
 split at hx
 ·simp only [cI]at hx
  subst hx
  exact⟨p0,p1⟩
 ·cases hx
theorem JA{c:Nat}{r q:YrD}(hr:r.OK)(hq:q.OK):∀ n,∀ x ∈ uw c r q n,-1080≤x.off∧x.off≤1080
 | 0,x,hx=>by cases hx
 | n+1,x,hx=>by
  simp only [uw,ba]at hx
  rcases hx with hx | hx | hx
  ·exact JA hr hq n x hx
  ·exact BD hr x hx
  ·exact BD hq x hx
section
variable{z:ZD}{o:List TrD}
theorem OKZ.bd(h:OKZ z o):∀ x ∈ o,AtB x∧-1080≤x.off∧x.off≤1080:=by
 rcases h.y with⟨-,rfl⟩ | ⟨r,q,e,hr,hq,hi,-,-⟩
 ·intro x hx;cases hx
 ·exact fun x hx=>⟨wG h.c hr hq _ (aw _) x (hi.perm.subset hx),JA hr hq _ x (hi.perm.subset hx)⟩
theorem OKZ.len(h:OKZ z o):o.length≤28:=by
 rcases h.y with⟨-,rfl⟩ | ⟨r,q,e,hr,hq,hi,-,-⟩
 ·simp
 ·have h1:=mW z.c r q (nY z.c)
  have h2:=Em z.c
  have:=hi.len
  omega
abbrev OKZ.S{z:ZD}{o:List TrD}(_:OKZ z o):TrD→Prop:=aAT z.tr o (z.cyc*1440) z.hor
theorem OKZ.off(h:OKZ z o){x:TrD}(hx:h.S x):-1080≤x.off∧x.off≤1080:=by
 rcases hx with hx | ⟨⟨k,b,hb,rfl⟩,_⟩
 ·exact(h.tb x hx).2.2
 ·exact(h.bd b hb).2
theorem OKZ.last(h:OKZ z o)(g:Tg){t:Int}(t0:-10000000≤t)(t1:t≤10000000) :
  ∃ r:Option TrD,Last h.S t r∧Km.Pure tab.get sW [ckV z g o,vi t]=Eq (.t [.a ((r.getD ⟨0,0⟩).row.map .f),vb r.isSome]):=
 azV h (fun x hx=>(h.bd x hx).1) (by have:=h.len;omega) g t t0 t1
end
def offO(z:ZD):Option TrD→Int
 | some x=>x.off
 | none=>z.start
theorem OKZ.offO{z:ZD}{o:List TrD}(h:OKZ z o){t:Int}{r:Option TrD}(hr:Last h.S t r):-1080≤offO z r∧offO z r≤1080:=by
 cases r with
 | none=>exact h.st
 | some x=>exact h.off hr.1
set_option maxRecDepth 100000 in
theorem UO{z:ZD}{o:List TrD}(h:OKZ z o)(g:Tg){t:Int}(t0:-10000000≤t)(t1:t≤10000000) :
  ∃ r:Option TrD,Last h.S t r∧Km.Pure tab.get OU [ckV z g o,vi t]=Eq (vi (offO z r)):=by
 obtain⟨r,hr,hl⟩:=h.last g t0 t1
 refine⟨r,hr,Km.Pure.eq ?_⟩
 have hc:=h.c
 refine cu aJ5 rfl fun Q hQ=>?_
 refine ak (aj (.inl rfl) ?_)
 simp
 refine ak ?_
 refine ak (aj (.inl rfl) ?_)
 simp [hl,TrD.row]
 refine ak ?_
 refine aj (.inl rfl) ?_
 simp
 cases r with
 | some x=>
  refine aB (by simp) ?_
  refine ak (aj (.inl rfl) ?_)
  simp
  refine aP (hQ _ _ ?_)
  simp [Go.Proofs.YthfeogjbpgocbaaGreat.offO]
 | none=>
  refine ay (by simp) (aG ?_)
  refine ak (aj (.inl rfl) ?_)
  simp [aIm hc]
  refine aP (hQ _ _ ?_)
  simp [Go.Proofs.YthfeogjbpgocbaaGreat.offO]
end Go.Proofs.YthfeogjbpgocbaaGreat
end
section
namespace Go.Proofs.YthfeogjbpgocbaaGreat
open Go Km
def Keeps(H J:Heap):Prop:=∀(i:Nat) y,H[i]?=some y→J[i]?=some y
theorem Keeps.refl(H:Heap):Keeps H H:=fun _ _ h=>h
theorem Keeps.push{H J:Heap}(h:Keeps H J)(L:Heap):Keeps H (J++L):=fun i y hy=>by have:=h i y hy;rw [ai (aF this)];exact this
theorem Keeps.set{H J:Heap}(h:Keeps H J){i:Nat}{x:Blk}(hx:H[i]?=some x):Keeps H (J.set i x):=fun k y hy=>by
 by_cases e:i=k
 ·subst e
  rw [hx]at hy;cases hy
  exact ax (aF (h i _ hx))
 ·rw [ag e];exact h k y hy
theorem Uc{o:List TrD}{size t:Int}(h0:0<o.length):rnd o size t=turns o size t:=by
 unfold rnd turns
 rw [ae h0]
 simp only
 split
 ·rw [Int.max_eq_left (by omega)]
 ·rw [Int.max_eq_right (by omega)];simp
set_option maxRecDepth 100000 in
theorem Tf{z:ZD}{o:List TrD}(h:OKZ z o)(g:Tg){b bc bt:Nat}{H:Heap}{PP:Heap→Prop}
  (hbc:H[bc]?=some (.box [.f (.fp (ckR z g o) 0)] 0)) (hbt:H[bt]?=some (.box [.f (fi z.hor)] 0))
  (h0:o=[]→∀ J,Keeps H J→PP J)
  (hy:∀ x,aft o (z.cyc*1440) z.hor=some x→∀ J,Keeps H J→∃ J',Ev tab.get (.yield b) [.a (x.row.map .f)] J (vb false) J'∧PP J') :
  ∃ r H',Ev tab.get (.fn sZ) [.c (.yl b),.c (.ptr bc 0 0),.c (.ptr bt 0 0)] H r H'∧(r=.t []∧PP H'):=by
 have hc:=h.c
 have hcy:=h.aAI
 have hsp:=h.sp
 have hho:=h.ho
 refine iT aJ8 rfl fun Q hQ=>?_
 have kc:∀ J,Keeps H J→J[bc]?=some (.box [.f (.fp (ckR z g o) 0)] 0):=fun J hJ=>hJ _ _ hbc
 have kt:∀ J,Keeps H J→J[bt]?=some (.box [.f (fi z.hor)] 0):=fun J hJ=>hJ _ _ hbt
 refine ak ?_
 refine ak (aj (.inl rfl) ?_)
 simp [hbc,aS,NQ hc]
 refine jo z.tr.length (fun j t J=>Keeps H J∧t.g 0=.c (.yl b)∧t.g 1=.c (.ptr bc 0 0)∧t.g 2=.c (.ptr bt 0 0)∧t.g 13=.c (.f (sl z.tg (aT z.tr)))) (by have:=h.tl;omega) (by decide) (by decide) (by simp) (by simp)
  ⟨Keeps.refl H,by simp,by simp,by simp,by simp⟩ ?_ ?_
 ·rintro j t J hj ⟨hJ,g0,g1,g2,g13⟩ ha hb nx
  have hii:=kJ (g:=z.tg) J hj
  have hll:=yj J hj
  have hlt:=(h.tb _ (av hj)).2.1
  have e1:Keeps H (J++[.box (z.tr[j].row.map .f) 0]):=hJ.push _
  have e2:=kt _ e1
  simp only [TrD.row,aR,bj]at hll e1 e2
  refine aN ?_
  refine ak (aj (.inl rfl) ?_)
  simp [g13,ha,hii,hll]
  refine ak (aj (.inl rfl) ?_)
  simp [g2,e2,aS,show¬ z.hor≤z.tr[j].at_ by omega]
  refine ay (by simp) (aG (aK ?_))
  exact nx _ _ ⟨e1,by simp [g0],by simp [g1],by simp [g2],by simp [g13]⟩ (by simp [ha]) (by simp [hb])
 rintro t J ⟨hJ,g0,g1,g2,g13⟩ ha hb
 refine ak ?_
 have hJc:=kc J hJ
 have hJt:=kt J hJ
 by_cases ho:o=[]
 ·subst ho
  have hsl:∀ H:Heap,bM H (.f (sl g (aT [])))=some 0:=by intro H;cases g<;>rfl
  refine ak (aj (.inl rfl) ?_)
  simp [g1,hJc,aS,wR hc,hsl]
  refine aB (by simp) ?_
  exact aP (hQ _ _ _ rfl rfl ⟨rfl,h0 rfl J hJ⟩)
 have o0:0<o.length:=List.length_pos_iff.2 ho
 have hb0:=(h.bd _ (av o0)).1
 refine ak (aj (.inl rfl) ?_)
 simp [g1,hJc,aS,wR hc,MH _ o0]
 refine ay (by simp [ho]) (aG ?_)
 refine ak (aj (.inl rfl) ?_)
 simp [g1,g2,hJc,hJt,aS,akn hc]
 obtain⟨J1,hJ1⟩:∃ J1:Heap,J1=J.set bt (.box [.f (fi z.hor)] 0):=⟨_,rfl⟩
 have hK1:Keeps H J1:=by rw [hJ1];exact hJ.set hbt
 rw [←hJ1]
 clear hJc hJt hJ hJ1
 have hJc:=kc J1 hK1
 have hJt:=kt J1 hK1
 have hmi:=(minutes_fev (g:=g) (o:=o) hc (by omega) (by omega) J1).eq
 have hrd:=Ju (g:=g) (t:=z.hor) hc hcy.1 hcy.2 o0 hb0 (by omega) (by omega)
 rw [Uc o0]at hrd
 unfold AtB at hb0
 obtain⟨K,hK⟩:∃ K,K=turns o (z.cyc*1440) z.hor:=⟨_,rfl⟩
 have hKd:K=if o[0].at_<z.hor then(z.hor-o[0].at_) / (z.cyc*1440)else 0:=by rw [hK];simp [turns,ae o0]
 have hs0:0<z.cyc*1440:=by omega
 have q0:=bN (z.hor-o[0].at_) (z.cyc*1440)
 have q1:=b5 (z.hor-o[0].at_) (show z.cyc*1440≠0 by omega)
 have q2:=cm (z.hor-o[0].at_) hs0
 have hK0:0≤K:=by rw [hKd];split;exact c8 (by omega) (by omega);omega
 have hKs:K*(z.cyc*1440)≤2000000∧z.hor≤o[0].at_+(K+1)*(z.cyc*1440):=by
  rw [hKd]
  split
  ·rw [dr,dj,db ((z.hor-o[0].at_) / (z.cyc*1440))];omega
  ·omega
 have aTp:0≤K*(z.cyc*1440):=d8 hK0 (by omega)
 rw [←hK]at hrd
 refine ak (aj (.inl rfl) ?_)
 simp [g1,g2,hJc,hJt,aS,hrd,hmi,wrap64 (n:=K*(z.cyc*1440)) (by omega) (by omega)]
 refine aN ?_
 refine bK (fun m s=>∃(e:Int) (t':T) (J:Heap),s=⟨t',[],J⟩∧Keeps H J∧(e=0∧m=1∨e=1∧m=0∧lJ o (z.cyc*1440) z.hor K=none)∧t'.g 0=.c (.yl b)∧t'.g 1=.c (.ptr bc 0 0)∧t'.g 2=.c (.ptr bt 0 0)∧t'.g 6=vi ((K+e)*(z.cyc*1440))) 1
  ⟨0,_,J1,rfl,hK1,.inl ⟨rfl,rfl⟩,by simp [g0],by simp [g1],by simp [g2],by simp⟩ ?_
 clear g0 g1 g2 hK1 hJc hJt hmi
 rintro m s ⟨e,t',J,rfl,hJ,he,g0,g1,g2,g6⟩ ih
 have hKe:0≤(K+e)*(z.cyc*1440)∧(K+e)*(z.cyc*1440)≤4000000:=by
  rcases he with⟨rfl,-⟩ | ⟨rfl,-⟩
  ·rw [dc];omega
  ·rw [dr,dj];omega
 have hJc:=kc J hJ
 refine ak ?_
 refine aN ?_
 refine ak (aj (.inl rfl) ?_)
 simp [g1,hJc,aS,wR hc,MH _ o0]
 refine jo o.length (fun j t J=>Keeps H J∧(∀ i y,i<j→o[i]?=some y→decide (z.hor≤y.at_+(K+e)*(z.cyc*1440))=false)∧t.g 0=.c (.yl b)∧t.g 1=.c (.ptr bc 0 0)∧t.g 2=.c (.ptr bt 0 0)∧t.g 6=vi ((K+e)*(z.cyc*1440))∧t.g 56=.c (.f (sl g (aT o)))) (by have:=h.len;omega) (by decide) (by decide) (by simp) (by simp)
  ⟨hJ,fun i y hi=>absurd hi (by omega),by simp [g0],by simp [g1],by simp [g2],by simp [g6],by simp⟩ ?_ ?_
 ·clear hJ hJc g0 g1 g2 g6
  rintro j t J hj ⟨hJ,hno,g0,g1,g2,g6,g56⟩ ha hb' nx
  have hii:=kJ (g:=g) J hj
  have hll:=yj J hj
  have hbj:=(h.bd _ (av hj)).1
  unfold AtB at hbj
  have w1:IntKind.i64.wrap (o[j].at_+(K+e)*(z.cyc*1440))=o[j].at_+(K+e)*(z.cyc*1440):=wrap64 (by omega) (by omega)
  simp only [TrD.row,aR,bj]at hll
  have e1:Keeps H (J++[.box [.f (fi (o[j].at_+(K+e)*(z.cyc*1440))),.f (fi o[j].off)] 0]):=hJ.push _
  have e2:=kt _ e1
  refine aN ?_
  refine ak (aj (.inl rfl) ?_)
  simp [g56,ha,hii,hll]
  refine ak (aj (.inl rfl) ?_)
  simp [g6,w1]
  by_cases hge:z.hor≤o[j].at_+(K+e)*(z.cyc*1440)
  ·have hfk:lJ o (z.cyc*1440) z.hor (K+e)=some ⟨o[j].at_+(K+e)*(z.cyc*1440),o[j].off⟩:=by
    have:=Tn (p:=fun x=>decide (z.hor≤x.at_+(K+e)*(z.cyc*1440))) (ae hj) (fun i y hi hy=>hno i y hi hy) (by simp [hge])
    simp [lJ,this]
   have hfin:aft o (z.cyc*1440) z.hor=some ⟨o[j].at_+(K+e)*(z.cyc*1440),o[j].off⟩:=by
    unfold aft
    rw [←hK]
    rcases he with⟨rfl,-⟩ | ⟨rfl,-,hn⟩
    ·rw [dc]at hfk ⊢;rw [hfk];rfl
    ·rw [hn,hfk];rfl
   obtain⟨J',hev,hPP⟩:=hy _ hfin _ e1
   simp only [TrD.row,aR,bj]at hev
   refine ak (aj (.inl rfl) ?_)
   simp [g0,g2,e2,aS,hge,hev.eq]
   refine aB (by simp) ?_
   exact aP (hQ _ _ _ rfl rfl ⟨rfl,hPP⟩)
  ·refine ak (aj (.inl rfl) ?_)
   simp [g2,e2,aS,hge]
   refine ay (by simp) (aG (aK ?_))
   refine nx _ _ ⟨e1,fun i y hi hy=>?_,by simp [g0],by simp [g1],by simp [g2],by simp [g6],by simp [g56]⟩ (by simp [ha]) (by simp [hb'])
   by_cases hji:i=j
   ·subst hji
    rw [ae hj]at hy;cases hy
    exact decide_eq_false hge
   ·exact hno i y (by omega) hy
 ·clear hJ hJc g0 g1 g2 g6
  rintro t J ⟨hJ,hno,g0,g1,g2,g6,g56⟩ ha hb'
  have hnone:lJ o (z.cyc*1440) z.hor (K+e)=none:=by
   have:o.find? (fun x=>decide (z.hor≤x.at_+(K+e)*(z.cyc*1440)))=none:=by
    rw [eg]
    intro x hx
    obtain⟨j,hj,rfl⟩:=bk hx
    have:=hno j o[j] hj (ae hj)
    simp [this]
   simp [lJ,this]
  rcases he with⟨rfl,rfl⟩ | ⟨rfl,rfl,-⟩
  ·rw [dc]at hnone g6
   have hJc:=kc J hJ
   have hmi:=(minutes_fev (g:=g) (o:=o) hc (by omega) (by omega) J).eq
   refine aK ?_
   refine aj (.inl rfl) ?_
   have hw:IntKind.i64.wrap (K*(z.cyc*1440)+z.cyc*1440)=(K+1)*(z.cyc*1440):=by
    rw [wrap64 (by omega) (by omega),dr,dj]
   simp [g1,g6,hJc,aS,hmi,hw]
   exact ih 0 _ (by omega) ⟨1,_,J,rfl,hJ,.inr ⟨rfl,rfl,hnone⟩,by simp [g0],by simp [g1],by simp [g2],by simp⟩
  ·exfalso
   have:=hno 0 o[0] o0 (ae o0)
   have h2:=of_decide_eq_false this
   exact h2 hKs.2
end Go.Proofs.YthfeogjbpgocbaaGreat
end
section
namespace Go.Proofs.YthfeogjbpgocbaaGreat
open Go Km
theorem akk{H:Heap}{b fl:Nat}{z:ZD}(h:H[b]?=some (.box (z.row.map .f) fl))(hc:z.c<3):∃ cs,ldV H none (.c (.ptr b 1 0))=some (.c (.f (.fs cs 2))):=by
 obtain⟨c,s,tg,tr,h',yg,yr⟩:=z
 have:c=0∨c=1∨c=2:=by simp at hc;omega
 rcases this with rfl | rfl | rfl<;>exact⟨_,by simp [ldV,aO,h,ZD.row,jL,aS];rfl⟩
theorem aAs(x:FC)(t:Int)(H:Heap):Ev tab.get (.fn IJ) [.c (.f x),vi t] H (.c (.cl sZ [.ptr H.length 0 0,.ptr (H.length+1) 0 0])) (H++[.box [.f x] 0,.box [.f (fi t)] 0]):=by
 obtain⟨r,H',he,rfl,rfl⟩:∃ r H',Ev tab.get (.fn IJ) [.c (.f x),vi t] H r H'∧r=.c (.cl sZ [.ptr H.length 0 0,.ptr (H.length+1) 0 0])∧H'=H++[.box [.f x] 0,.box [.f (fi t)] 0]:=by
  refine iT aJ9 rfl fun Q hQ=>?_
  refine ak (aj (.inl rfl) ?_)
  simp
  refine ak (aj (.inl rfl) ?_)
  simp
  exact aP (hQ _ _ _ rfl (res_one (by simp)) ⟨rfl,rfl⟩)
 exact he
theorem OKZ.tick{z:ZD}{o:List TrD}(h:OKZ z o):∃ g,Km.Pure tab.get nI [z.v]=Eq (.t [ckV z g o,vb true]):=by
 rcases h.y with⟨e,rfl⟩ | ⟨r,q,e,hr,hq,hi,hs,ha⟩
 ·refine⟨.nil,?_⟩
  have hcy:z.cyc=1:=by simp [ZD.cyc,e]
  rw [aiL z h.c e,ckV,ckR,hcy]
  rfl
 ·obtain⟨g,hg⟩:=awn z h.c e hr hq hi hs
  refine⟨g,?_⟩
  have hcy:z.cyc=cyc z.c:=by simp [ZD.cyc,e]
  rw [hg,ckV,ckR,hcy]
end Go.Proofs.YthfeogjbpgocbaaGreat
end
section
namespace Go.Proofs.YthfeogjbpgocbaaGreat
open Go Km
section
variable{z:ZD}{o:List TrD}
theorem JV(h:OKZ z o){t:Int}{r q:Option TrD}(hr:Last h.S t r)(hq:Last h.S t q):r=q:=Last.uniq h.apart hr hq
end
end Go.Proofs.YthfeogjbpgocbaaGreat
end
