/-
  am1 ta nM kS and ta ni answer, for all arguments of adM kind, in ta small machine: part 1.
-/
import Derived.Test.YtnaofdffomdmhaaGreatTab
import Derived.Test.YtnaofdffomdmhaaGreatK4
open Option renaming some → aa,none → ab
open Bool renaming true → ae,false → ag
open List renaming drop_eq_getElem_cons → at7, getElem_mem → at2, any_eq_false → avj, append_nil → auR, getElem?_append_left → anc, mem_cons → auc, pairwise_iff_getElem → auQ, getElem?_set_self → atY, getElem?_set_ne → aft, set_getElem_self → avr, any_eq_true → au3, getElem_of_mem → auI, append_assoc → auL, getElem?_eq_getElem → asZ, map_cons → aug, mem_cons_self → at4, mem_cons_of_mem → at5, rel_of_pairwise_cons → au9, take_add_one → auz, filter_append → avZ, length_map → at9, length_filter_le → avf, length_take → aur, take_of_length_le → at8, mem_map → auq, map_nil → aus, cons_append → auX, nil_append → ave, findIdx?_eq_some_iff_getElem → avk, pairwise_cons → auN, pairwise_map → avQ, mem_append → auh, mem_of_mem_drop → au0, all_eq_true → aun, take_length → auv, drop_length → au8, mem_singleton → aua, drop_zero → au5, take_take → avA
open Bool renaming true_and → auU, and_eq_true → atI, eq_iff_iff → au6
open Nat renaming lt_of_lt_of_le → auE, le_trans → aum, le_refl → at3, lt_trichotomy → avi, gcd → av3, min_eq_left → avm
open List.Pairwise renaming of_cons → avP
open Int renaming tmod_eq_emod_of_nonneg → avn, tdiv_eq_ediv_of_nonneg → avT, ediv_nonneg → avL, ediv_le_self → avH, mul_nonneg → avh, emod_nonneg → auB, emod_lt_of_pos → auy, mul_le_mul_of_nonneg_left → auk, tmod_lt_of_pos → awd, lt_tmod_of_pos → awe, emod_eq_emod_iff_emod_sub_eq_zero → avW, dvd_mul_right → avR, gcd → avy, lt_or_le → avo, emod_add_mul_ediv → au4, mul_comm → avE, mul_sub → av4, mul_assoc → avF, dvd_sub → avv, dvd_mul_left → av5, dvd_trans → avg, gcd_dvd_left → av6, gcd_dvd_right → awf, gcd_pos_of_ne_zero_left → avS, ediv_mul_cancel → awb, natCast_mul → avK, mul_le_mul_of_nonneg_right → av8
open Option.some renaming inj → avY
set_option linter.unusedVariables false
set_option linter.constructorNameAsVariable false
set_option linter.unusedSimpArgs false
set_option linter.unusedSectionVars false
set_option linter.unnecessarySimpa false
set_option maxRecDepth 100000
namespace Go.Proofs.YtnaofdffomdmhaaGreat
open Go Km
def bF(n lo hi:Int):Bool:=decide (lo≤n)&&decide (n≤hi)
theorem sG{n lo hi:Int}(h:bF n lo hi=ae):lo≤n∧n≤hi:=by simpa [bF]using h
theorem QT(n lo hi:Int):Kf tab 193 [vi n,vi lo,vi hi] (vb (bF n lo hi)):=by
 refine cP rfl rfl fun H Q b=>?_;apply al;refine an (.inl rfl) ?_;simp;apply al;refine an (.inl rfl) ?_;by_cases h:lo≤n
 ·simp [h];refine aC (b _ _ ?_);simp [bF,h]
 ·simp [h];refine aC (b _ _ ?_);simp [bF,h]
@[simp] theorem ao' (n lo hi:Int):bo tab 193 [vi n,vi lo,vi hi]=Eq (vb (bF n lo hi)):=(QT n lo hi).eq
theorem tj(g:Tg)(l:List Int)(v:Int)(b:l.length≤9223372036854775807) :
  Kf tab 272 [.c (.f (sl g (ints l))),vi v] (vb (l.any (· == v))):=
 gq amO (Ai amV g l v b)
structure cC where
 cap:Int
 jA:Int
 pD:Int
 (o0 o1 o2 o3 o4 o5 o6 o7 o8 o9:FC)
 qg:Tg
 q:List (Int × Int)
 pg:Tg
 p:List Int
def gz(l:List (Int × Int)):List (List FC):=l.map fun x=>[fi x.1,fi x.2]
@[simp] theorem ao8 (l:List (Int × Int)):(gz l).length=l.length:=by simp [gz]
theorem wv(l:List (Int × Int)):cr 2 (gz l):=cr.map fun _=>rfl
theorem Cw{l:List (Int × Int)}{j:Nat}(b:j<l.length):(gz l)[j]?=aa [fi l[j].1,fi l[j].2]:=by simp [gz,b]
def cC.op(r:cC):List C:=[.f r.o0,.f r.o1,.f r.o2,.f r.o3,.f r.o4,.f r.o5,.f r.o6,.f r.o7,.f r.o8,.f r.o9]
def cC.row(r:cC):List FC:=[fi r.cap,fi r.jA,fi r.pD,r.o0,r.o1,r.o2,r.o3,r.o4,r.o5,r.o6,r.o7,r.o8,r.o9,sl r.qg (gz r.q),sl r.pg (ints r.p)]
def rows(l:List cC):List (List FC):=l.map cC.row
@[simp] theorem arn (l:List cC):(rows l).length=l.length:=by simp [rows]
theorem gA(l:List cC):cr 15 (rows l):=cr.map fun _=>rfl
theorem qA{l:List cC}{j:Nat}(b:j<l.length):(rows l)[j]?=aa l[j].row:=by simp [rows,b]
def lI(r:cC):Prop:=bo tab 190 [.a r.op] (vi 0)
def th(r:cC):Bool:=decide (64<(r.q.length:Int))||decide (64<(r.p.length:Int))
def Az(l:List cC)(p:Int):Nat:=((l[p.toNat]?).map (·.p.length)).getD 0
theorem ajz{l:List cC}{p:Int}(h0:0≤p)(b:p.toNat<l.length):Az l p=(l[p.toNat]).p.length:=by simp [Az,b]
def jm(b:Int):List (Int × Int)→Bool
 | []=>ae| x::r=>bF x.1 (b+1) 63&&bF x.2 0 10080&&jm x.1 r
def lZ(l:List cC)(i b:Int):List Int→Bool
 | []=>ae| p::r=>bF p (b+1) ((l.length:Int)-1)&&!decide (p=i)&&decide (Az l p=0)&&lZ l i p r
def eE(l:List cC)(i:Nat)(r:cC):Bool:=
 bF r.cap 1 512&&bF r.jA 0 1440&&bF r.pD 0 1440&&jm (-1) r.q&&lZ l i (-1) r.p
def gm(l:List cC):Nat→List cC→Bool
 | _,[]=>ae| i,r::b=>eE l i r&&gm l (i+1) b
def mj(l:List cC):Int:=if l.any th then 2 else if gm l 0 l then 0 else 1
theorem am_(r:cC)(j:lI r):Kf tab 189 [.a (r.row.map .f)] (vb (th r)):=by
 refine cP rfl rfl fun H Q d=>?_;have g:=bo.eq j;simp only [cC.op]at g;apply al;refine an (.inl rfl) ?_;simp [cC.row];apply al;refine an (.inl rfl) ?_;simp;refine Gb (fun h=>?_) (fun h=>?_)
 ·simp [h];refine Gb (fun b=>?_) (fun b=>?_)
  ·simp [b,g];refine aC (d _ _ ?_);simp [th,h,b]
  ·simp [b];refine aC (d _ _ ?_);simp [th,h,b]
 ·simp [h];refine aC (d _ _ ?_);simp [th,h]
theorem O8(g:Tg)(l:List cC)(q:l.length≤6)(d:∀ r ∈ l,lI r) :
  Kf tab 191 [.c (.f (sl g (rows l))),.c (.f (.fn 189 []))] (vb (l.any th)):=
 gq amL (kY amS l cC.row (fun r=>.a (r.row.map .f)) th g 189 [] (by omega)
  (fun j b H=>bL (gA l) (qA b)) (fun r m=>am_ r (d r m)))
structure bM where
 hg:Tg
 head:List Int
 fr:Int
 eS:Int
 cg:Tg
 jR:List Int
def bM.row(p:bM):List FC:=[sl p.hg (ints p.head),fi p.fr,fi p.eS,sl p.cg (ints p.jR)]
def ba(l:List bM):List (List FC):=l.map bM.row
@[simp] theorem Cy (l:List bM):(ba l).length=l.length:=by simp [ba]
theorem cq(l:List bM):cr 4 (ba l):=cr.map fun _=>rfl
theorem dQ{l:List bM}{j:Nat}(b:j<l.length):(ba l)[j]?=aa l[j].row:=by simp [ba,b]
def eF(b d:Int):List Int→Bool
 | []=>ae| n::r=>decide (d<n)&&decide (n<b)&&eF b n r
theorem AE{b d:Int}{l:List Int}{j:Nat}(g:j<l.length):eF b d (l.drop j)=(decide (d<l[j])&&decide (l[j]<b)&&eF b l[j] (l.drop (j+1))):=by
 rw [at7 g];rfl
def gF(p:bM):Bool:=decide (0≤p.fr)&&decide (p.fr≤1099511627776)&&decide (1≤p.eS)&&decide (p.eS≤1099511627776) &&
 decide ((p.head.length:Int)+p.jR.length≤1048576)&&eF p.fr (-1) p.head&&eF p.eS (-1) p.jR
theorem QD(g:Tg)(l:List Int)(b:Int)(E:l.length≤9223372036854775807):Kf tab 249 [.c (.f (sl g (ints l))),vi b] (vb (eF b (-1) l)):=by
 refine cP rfl rfl fun H Q u=>?_;apply ai;simp;apply ai;simp;apply al;apply ai;simp;refine bR l.length (fun j t H'=>t.g 1=vi b∧t.g 8=.c (.f (sl g (ints l)))∧H=H'∧∃ d,t.g 5=vi d∧eF b (-1) l=eF b d (l.drop j)) E (by decide) (by decide) (by simp) (by simp) (by simp) ?_ ?_
 ·rintro j t _ z ⟨q,s,rfl,d,x,m⟩ v y next
  rw [AE z]at m;refine aF ?_;apply ai;simp [v,s,bt,z,jG];apply al;apply ai;simp [x,q];by_cases A:l[j]≤d
  ·simp [A];refine aq (by simp) ?_;apply ai;simp;refine aC (u _ _ ?_);simp [m,show¬ d<l[j] by omega]
  simp [A,q];by_cases B:b≤l[j]
  ·simp [B];refine aq (by simp) ?_;apply ai;simp;refine aC (u _ _ ?_);simp [m,show¬ l[j]<b by omega]
  simp [B];refine aD (by simp) ?_;refine aO ?_;refine an (.inl rfl) ?_;simp;refine az (next _ _ ?_ (by simp [v]) (by simp [y]));rw [decide_eq_true (by omega),decide_eq_true (by omega)]at m;exact⟨by simp [q],by simp [s],rfl,l[j],by simp,by simpa using m⟩
 ·rintro t _ ⟨q,s,rfl,d,x,m⟩ v y;apply ai;simp;refine aC (u _ _ ?_);simp [m,eF]
theorem zq(g:Tg)(l:List Int)(b:Int)(d:l.length≤9223372036854775807) :
  bo tab 249 [.c (.f (sl g (ints l))),vi b]=Eq (vb (eF b (-1) l)):=(QD g l b d).eq
theorem aob(p:bM)(s:p.head.length≤9223372036854775807)(u:p.jR.length≤9223372036854775807)(h:p.head.length+p.jR.length≤9223372036854775807) :
  Kf tab 168 [.a (p.row.map .f)] (vb (gF p)):=by
 refine cP rfl rfl fun H Q b=>?_;apply ai;simp [bM.row];apply ai;simp;by_cases d:0≤p.fr
 case neg=>
  simp [d];refine aC (b _ _ ?_);simp [gF,d]
 simp [d];by_cases g:p.fr≤1099511627776
 case neg=>
  simp [g];refine aC (b _ _ ?_);simp [gF,g]
 simp [g];by_cases j:1≤p.eS
 case neg=>
  simp [j];refine aC (b _ _ ?_);simp [gF,j]
 simp [j];by_cases l:p.eS≤1099511627776
 case neg=>
  simp [l];refine aC (b _ _ ?_);simp [gF,l]
 simp [l,aW (n:=(p.head.length:Int)+p.jR.length)];by_cases m:(p.head.length:Int)+p.jR.length≤1048576
 case neg=>
  simp [m];refine aC (b _ _ ?_);simp [gF,m]
 simp [m,zq p.hg p.head p.fr s];cases q:eF p.fr (-1) p.head
 ·simp;refine aC (b _ _ ?_);simp [gF,q]
 simp [zq p.cg p.jR p.eS u];refine aC (b _ _ ?_);simp [gF,d,g,j,l,m,q]
def bM.Sm(p:bM):Prop:=p.head.length+p.jR.length≤9223372036854775807
theorem acO(p:bM)(h:p.Sm):bo tab 168 [.a (p.row.map .f)]=Eq (vb (gF p)):=by
 have h:p.head.length+p.jR.length≤9223372036854775807:=h;exact(aob p (by omega) (by omega) h).eq
theorem Gx{p:bM}(h:gF p=ae):p.Sm:=by
 simp [gF]at h;show p.head.length+p.jR.length≤9223372036854775807;omega
structure dx where
 tg:Tg
 fs:List bM
def dx.row(t:dx):List FC:=[sl t.tg (ba t.fs)]
def aM(l:List dx):List (List FC):=l.map dx.row
@[simp] theorem akx (l:List dx):(aM l).length=l.length:=by simp [aM]
theorem iC(l:List dx):cr 1 (aM l):=cr.map fun _=>rfl
theorem kj{l:List dx}{j:Nat}(b:j<l.length):(aM l)[j]?=aa l[j].row:=by simp [aM,b]
def dx.Sm(t:dx):Prop:=t.fs.length≤9223372036854775807∧∀ p ∈ t.fs,p.Sm
def kh(t:dx):Bool:=decide (1≤(t.fs.length:Int))&&decide ((t.fs.length:Int)≤4)&&t.fs.all gF
def oa(l:List dx):Bool:=decide ((l.length:Int)≤64)&&l.all kh
theorem abe{b:Type}{l:List b}{p:b→Bool}{j:Nat}(d:j<l.length):(l.drop j).all p=(p l[j]&&(l.drop (j+1)).all p):=by
 rw [at7 d,List.all_cons]
theorem am'(p:bM)(h:p.Sm):Kf tab 167 [.a (p.row.map .f)] (vb (!gF p)):=by
 refine cP rfl rfl fun H Q d=>?_;have b:=acO p h;simp [bM.row]at b;apply ai;simp [bM.row];apply ai;simp [b];refine aC (d _ _ ?_);simp
theorem O7(g:Tg)(l:List bM)(d:l.length≤9223372036854775807)(h:∀ p ∈ l,p.Sm) :
  bo tab 166 [.c (.f (sl g (ba l))),.c (.f (.fn 167 []))]=Eq (vb (l.any fun p=>!gF p)):=
 (gq aa4 (kY aa5 l bM.row (fun r=>.a (r.row.map .f)) (fun p=>!gF p) g 167 [] d
  (fun j b H=>bL (cq l) (dQ b)) (fun p m=>am' p (h p m)))).eq
theorem Et(g:Tg)(l:List dx)(F:l.length≤9223372036854775807)(h:∀ t ∈ l,t.Sm):Kf tab 98 [.a [.f (sl g (aM l))]] (vb (oa l)):=by
 refine cP rfl rfl fun H Q u=>?_;apply ai;simp;apply al;apply ai;simp;by_cases z:(64:Int)<l.length
 ·simp [z];refine aq (by simp) ?_;apply ai;simp;refine aC (u _ _ ?_);simp [oa,show¬ (l.length:Int)≤64 by omega]
 simp [z];refine aD (by simp) ?_;refine aO ?_;apply al;apply ai;simp;refine bR l.length (fun j t H'=>t.g 10=.c (.f (sl g (aM l)))∧(∃ J,H'=H++J)∧l.all kh=(l.drop j).all kh) F (by decide) (by decide) (by simp) (by simp) (by simp) ?_ ?_
 ·rintro j t _ q ⟨d,⟨J,rfl⟩,m⟩ v x next
  rw [abe q]at m;have y:=h l[j] (at2 q);have b:=il (H:=H++J) (k:=0) (iC l) (kj q) rfl;refine aF ?_;apply ai;simp at b;simp [v,d,bt,q,b];have bad:kh l[j]=ag→∀(t:T) (J:aj) k,WP tab 98 ab (.code (.region [⟨D 2,.bc (.k (.c (.f (.bool ag)))),ab⟩] [])::.code .ret::k) ⟨t,[],H++J⟩ Q:=by
   intro E t J k;refine an (.inl rfl) ?_;simp;refine aC (u _ _ ?_);simp [oa,m,E]
  apply ai;simp;by_cases A:(l[j].fs.length:Int)<1
  ·simp [A];exact aq (by simp) (al (bad (by simp [kh,show¬ 1≤(l[j].fs.length:Int) by omega]) _ _ _))
  simp [A];by_cases B:(4:Int)<l[j].fs.length
  ·simp [B];exact aq (by simp) (al (bad (by simp [kh,show¬ (l[j].fs.length:Int)≤4 by omega]) _ _ _))
  simp [B,O7 l[j].tg l[j].fs y.1 y.2];cases s:l[j].fs.any fun p=>!gF p
  ·have:kh l[j]=ae:=by
    simp [kh]at s ⊢;exact⟨⟨by omega,by omega⟩,s⟩
   refine aD (by simp) ?_;refine aO (az (next _ _ ?_ (by simp [v]) (by simp [x])));rw [this,auU]at m;exact⟨by simp [d],⟨_,rfl⟩,m⟩
  ·exact aq (by simp) (al (bad (by simp [kh]at s ⊢;intro _ _;exact s) _ _ _))
 ·rintro t _ ⟨d,⟨J,rfl⟩,m⟩ v x;apply ai;simp;refine aC (u _ _ ?_);simp [oa,m,show(l.length:Int)≤64 by omega]
theorem pV(a:Int):bo tab 130 [vi a]=Eq (vb ag):=(show Kf tab 130 [vi a] (vb ag) by
 refine cP rfl rfl fun H Q b=>?_;apply ai;simp;apply ai;simp;refine aC (b _ _ ?_);simp).eq
def de(a b:Int):Int:=if a<b then -1 else if b<a then 1 else 0
theorem DT(a b:Int):Kf tab 72 [vi a,vi b] (vi (de a b)):=by
 refine cP rfl rfl fun H Q g=>?_;apply ai;simp;apply ai;simp [pV];apply ai;simp [pV];apply al;apply ai;simp;refine bw (by simp) ?_;apply al;apply ai;simp;refine bw (by simp) ?_;apply al;apply ai;simp;by_cases h:a<b
 ·refine aq (by simp [h]) ?_;apply ai;simp;refine aC (g _ _ ?_);simp [de,h]
 refine bw (by simp [h]) ?_;apply al;apply ai;simp;by_cases d:b<a
 ·refine aq (by simp [d]) ?_;apply ai;simp;refine aC (g _ _ ?_);simp [de,h,d]
 refine bw (by simp [d]) ?_;apply ai;simp;refine aC (g _ _ ?_);simp [de,h,d]
theorem gj(a b:Int):bo tab 72 [vi a,vi b]=Eq (vi (de a b)):=(DT a b).eq
def wm:List Int→Int
 | []=>0| a::r=>if a=0 then wm r else a
theorem acJ{l:List Int}{j:Nat}(b:j<l.length):wm (l.drop j)=if l[j]=0 then wm (l.drop (j+1))else l[j]:=by
 rw [at7 b];rfl
theorem ara(g:Tg)(l:List Int)(x:l.length≤9223372036854775807):Kf tab 76 [.c (.f (sl g (ints l)))] (vi (wm l)):=by
 refine cP rfl rfl fun H Q s=>?_;apply ai;simp;apply ai;simp;apply al;apply ai;simp;refine bR l.length (fun j t H'=>t.g 3=vi 0∧t.g 6=.c (.f (sl g (ints l)))∧H=H'∧wm l=wm (l.drop j)) x (by decide) (by decide) (by simp) (by simp) (by simp) ?_ ?_
 ·rintro j t _ v ⟨d,m,rfl,b⟩ q u next
  rw [acJ v]at b;refine aF ?_;apply ai;simp [q,m,bt,v,jG];apply ai;simp [d];by_cases h:l[j]=0
  ·refine aD (by simp [h]) ?_;refine aO (az (next _ _ ?_ (by simp [q]) (by simp [u])));rw [bg h]at b;exact⟨by simp [d],by simp [m],rfl,b⟩
  ·refine aq (by simp [h]) ?_;apply ai;simp;refine aC (s _ _ ?_);simp [b,h]
 ·rintro t _ ⟨d,m,rfl,b⟩ q u;apply ai;simp [d];refine aC (s _ _ ?_);simp [b,wm]
theorem ze(g:Tg)(l:List Int)(b:l.length≤9223372036854775807):bo tab 76 [.c (.f (sl g (ints l)))]=Eq (vi (wm l)):=(ara g l b).eq
theorem ann(n lo hi:Int):Kf tab 97 [vi n,vi lo,vi hi] (vb (bF n lo hi)):=by
 refine cP rfl rfl fun H Q b=>?_;apply ai;simp;apply ai;by_cases h:lo≤n
 ·simp [h];refine aC (b _ _ ?_);simp [bF,h]
 ·simp [h];refine aC (b _ _ ?_);simp [bF,h]
@[simp] theorem asI (n lo hi:Int):bo tab 97 [vi n,vi lo,vi hi]=Eq (vb (bF n lo hi)):=(ann n lo hi).eq
structure aI where
 day:Int
 fr:Int
 to:Int
deriving DecidableEq
def aI.row(x:aI):List FC:=[fi x.day,fi x.fr,fi x.to]
def aH(l:List aI):List (List FC):=l.map aI.row
@[simp] theorem jg (l:List aI):(aH l).length=l.length:=by simp [aH]
theorem bD(l:List aI):cr 3 (aH l):=cr.map fun _=>rfl
theorem gw{l:List aI}{j:Nat}(b:j<l.length):(aH l)[j]?=aa l[j].row:=by simp [aH,b]
def eU(x y:aI):Int:=wm [de x.fr y.fr,de x.day y.day,de x.to y.to]
theorem acL(x y:aI):Kf tab 99 [.a (x.row.map .f),.a (y.row.map .f)] (vi (eU x y)):=by
 refine cP rfl rfl fun H Q d=>?_;have b:=ze .fs [de x.fr y.fr,de x.day y.day,de x.to y.to] (by simp);simp [ints,sl,Tg.fc]at b;apply ai;simp [aI.row];apply ai;simp [gj,deep,mr,qf,b];refine aC (d _ _ ?_);simp [eU]
theorem wo(x y:aI):bo tab 99 [.a (x.row.map .f),.a (y.row.map .f)]=Eq (vi (eU x y)):=(acL x y).eq
theorem acx(g:Tg)(l:List dx)(b:l.length≤9223372036854775807)(h:∀ t ∈ l,t.Sm):bo tab 98 [.a [.f (sl g (aM l))]]=Eq (vb (oa l)):=(Et g l b h).eq
structure cL where
 mg:Tg
 ts:List dx
 min:Int
def cL.row(c:cL):List FC:=[sl c.mg (aM c.ts),fi c.min]
def aN(l:List cL):List (List FC):=l.map cL.row
@[simp] theorem xv (l:List cL):(aN l).length=l.length:=by simp [aN]
theorem dO(l:List cL):cr 2 (aN l):=cr.map fun _=>rfl
theorem gM{l:List cL}{j:Nat}(b:j<l.length):(aN l)[j]?=aa l[j].row:=by simp [aN,b]
structure aJ where
 cg:Tg
 cs:List cL
 len:Int
 xg:Tg
 xs:List aI
def aJ.row(s:aJ):List FC:=[sl s.cg (aN s.cs),fi s.len,sl s.xg (aH s.xs)]
def aJ.Sm(s:aJ):Prop:=s.cs.length≤9223372036854775807∧s.xs.length≤9223372036854775807∧∀ c ∈ s.cs,c.ts.length≤9223372036854775807∧∀ t ∈ c.ts,t.Sm
def eI:Option Int→List cL→Bool
 | _,[]=>ae| prev,c::r=>oa c.ts&&bF c.min (-4320) 4320&&(prev.all fun m=>decide (m<c.min))&&eI (aa c.min) r
def pP(x:aI):Bool:=bF x.day 0 1099511627776&&bF x.fr (-2251799813685248) 1583296743997439&&bF x.to (x.fr+1) (x.fr+10080)
def iV:Option aI→List aI→Bool
 | _,[]=>ae| prev,x::r=>pP x&&(prev.all fun m=>decide (eU m x<0))&&iV (aa x) r
def dU(s:aJ):Bool:=decide ((s.cs.length:Int)≤64)&&bF s.len 1 10080&&decide ((s.xs.length:Int)≤4096)&&eI ab s.cs&&iV ab s.xs
theorem xw{p:Option Int}{l:List cL}{j:Nat}(b:j<l.length):eI p (l.drop j)=(oa l[j].ts&&bF l[j].min (-4320) 4320&&(p.all fun m=>decide (m<l[j].min))&&eI (aa l[j].min) (l.drop (j+1))):=by
 rw [at7 b];rfl
theorem BS{p:Option aI}{l:List aI}{j:Nat}(b:j<l.length):iV p (l.drop j)=(pP l[j]&&(p.all fun m=>decide (eU m l[j]<0))&&iV (aa l[j]) (l.drop (j+1))):=by
 rw [at7 b];rfl
theorem jw(s:aJ)(h:s.Sm):Kf tab 53 [.a (s.row.map .f)] (vb (dU s)):=by
 obtain⟨hc,hx,S⟩:=h;refine cP rfl rfl fun H Q hQ=>?_;have bad:dU s=ag→∀(t:T) (J:aj) k,WP tab 53 ab (.code (.region [⟨D 2,.bc (.k (.c (.f (.bool ag)))),ab⟩] [])::.code .ret::k) ⟨t,[],H++J⟩ Q:=by
  intro hf t J k;refine an (.inl rfl) ?_;simp;refine aC (hQ _ _ ?_);simp [hf]
 apply ai;simp [aJ.row];apply al;apply ai;simp;by_cases k1:(64:Int)<s.cs.length
 ·simp [k1];exact aq (by simp) (al (bad (by simp [dU,show¬ (s.cs.length:Int)≤64 by omega]) _ _ _))
 simp [k1];cases k2:bF s.len 1 10080
 ·simp;exact aq (by simp) (al (bad (by simp [dU,k2]) _ _ _))
 simp;by_cases k3:(4096:Int)<s.xs.length
 ·simp [k3];exact aq (by simp) (al (bad (by simp [dU,show¬ (s.xs.length:Int)≤4096 by omega]) _ _ _))
 simp [k3];have hS:dU s=(eI ab s.cs&&iV ab s.xs):=by simp [dU,k2,show(s.cs.length:Int)≤64 by omega,show(s.xs.length:Int)≤4096 by omega]
 rw [hS]at bad;refine aD (by simp) ?_;refine aO ?_;apply al;apply ai;simp;obtain⟨l,v⟩:=aK ([C.f (sl s.cg (aN s.cs)),C.f (fi s.len),C.f (sl s.xg (aH s.xs))]);rw [←v];have a7:l.drop 0=[C.f (sl s.cg (aN s.cs)),C.f (fi s.len),C.f (sl s.xg (aH s.xs))]:=by rw [v];rfl
 have O:l.drop 2=[C.f (sl s.xg (aH s.xs))]:=by rw [v];rfl
 have M:l=C.f (sl s.cg (aN s.cs))::[C.f (fi s.len),C.f (sl s.xg (aH s.xs))]:=v;refine bR s.cs.length (fun j t H'=>t.g 1=.c (.ptr H.length 0 0)∧t.g 25=.c (.f (sl s.cg (aN s.cs)))∧(∃ J,H'=H++(.box l 0::J)) ∧
  ∃ d,(∀ m,j=m+1→∀ h:m<s.cs.length,d=aa (s.cs[m]'h).min)∧(j=0→d=ab)∧eI ab s.cs=eI d (s.cs.drop j)) hc (by decide) (by decide) (by simp) (by simp)
   ⟨by simp,by simp,⟨[],by simp⟩,ab,by omega,by simp,by simp⟩ ?_ ?_
 ·rintro j t _ F ⟨x,A,⟨J,rfl⟩,d,X,Y,u⟩ E K next
  rw [xw F]at u;have L:=bL (H:=H++(.box l 0::J)) (dO s.cs) (gM F);have z:=acx s.cs[j].mg s.cs[j].ts (S _ (at2 F)).1 (S _ (at2 F)).2;refine aF ?_;apply ai;simp [E,A,bt,F,L,cL.row];apply ai;simp [z];cases U:oa s.cs[j].ts
  ·simp;exact aq (by simp) (al (bad (by simp [u,U]) _ _ _))
  simp;cases N:bF s.cs[j].min (-4320) 4320
  ·simp;exact aq (by simp) (al (bad (by simp [u,N]) _ _ _))
  simp;have go:(d.all fun m=>decide (m<s.cs[j].min))=ae→∃ g,(∀ m,j+1=m+1→∀ h:m<s.cs.length,g=aa (s.cs[m]'h).min)∧(j+1=0→g=ab)∧eI ab s.cs=eI g (s.cs.drop (j+1)):=by
   intro hp;rw [U,N,hp,auU,auU,auU]at u;refine⟨aa s.cs[j].min,fun m z h=>?_,by omega,u⟩;have:m=j:=by omega
   subst this;rfl
  cases j with
  | zero=>
   simp;refine aD (by simp) ?_;refine aO (az (next _ _ ?_ (by simp [E]) (by simp [K])));exact⟨by simp [x],by simp [A],⟨_,rfl⟩,go (by rw [Y rfl];rfl)⟩
  | succ m=>
   have z:m<s.cs.length:=by omega
   have y:=X m rfl z;have e1:((m+1:Nat):Int)-1=m:=by omega
   have q:=il (H:=H++(bz.box l 0 ::(J++[bz.box [C.f (sl s.cs[m+1].mg (aM s.cs[m+1].ts)),C.f (fi s.cs[m+1].min)] 0]))) (k:=1) (dO s.cs) (gM z) rfl;rw [M]at q;simp [show 0<m+1 by omega,x,M,aW (n:=(m:Int)),bt,z,q];by_cases W:s.cs[m+1].min≤s.cs[m].min
   ·simp [W];have b:=bad (by simp [u,y,show¬ s.cs[m].min<s.cs[m+1].min by omega]);refine aq (by simp) ?_;exact al (b _ _ _)
   ·simp [W];refine aD (by simp) ?_;refine aO (az (next _ _ ?_ (by simp [E]) (by simp [K])));exact⟨by simp [x],by simp [A],⟨_,by rw [M]⟩,go (by rw [y];simp;omega)⟩
 ·rintro t _ ⟨x,A,⟨J,rfl⟩,d,X,Y,u⟩ E K;have hC:eI ab s.cs=ae:=by rw [u];simp [eI]
  rw [hC,auU]at bad hS;apply al;apply ai;simp [x,O];refine bR s.xs.length (fun j t H'=>t.g 1=.c (.ptr H.length 0 0)∧t.g 60=.c (.f (sl s.xg (aH s.xs)))∧(∃ J,H'=H++(.box l 0::J)) ∧
   ∃ d,(∀ m,j=m+1→∀ h:m<s.xs.length,d=aa (s.xs[m]'h))∧(j=0→d=ab)∧iV ab s.xs=iV d (s.xs.drop j)) hx (by decide) (by decide) (by simp) (by simp)
    ⟨by simp [x],by simp,⟨J,by simp⟩,ab,by omega,by simp,by simp⟩ ?_ ?_
  ·rintro j t _ F ⟨x,B,⟨J,rfl⟩,d,X,Y,u⟩ E K next
   rw [BS F]at u;have L:=bL (H:=H++(.box l 0::J)) (bD s.xs) (gw F);refine aF ?_;apply ai;simp [E,B,bt,F,L,aI.row];have off:pP s.xs[j]=ag→∀(t:T) (J:aj) k,t.g 7=vb ag→WP tab 53 ab (.code FD::k) ⟨t,[],H++J⟩ Q:=by
    intro hf t J k g7;apply ai;simp [g7];exact aq (by simp) (al (bad (by simp [u,hf]) _ _ _))
   have go:pP s.xs[j]=ae→(d.all fun m=>decide (eU m s.xs[j]<0))=ae→∃ g,(∀ m,j+1=m+1→∀ h:m<s.xs.length,g=aa (s.xs[m]'h))∧(j+1=0→g=ab)∧iV ab s.xs=iV g (s.xs.drop (j+1)):=by
    intro Z hp;rw [Z,hp,auU,auU]at u;refine⟨aa s.xs[j],fun m z h=>?_,by omega,u⟩;have:m=j:=by omega
    subst this;rfl
   apply ai;simp;cases U:bF s.xs[j].day 0 1099511627776
   ·simp;exact off (by simp [pP,U]) _ _ _ (by simp)
   simp;cases N:bF s.xs[j].fr (-2251799813685248) 1583296743997439
   ·simp;exact off (by simp [pP,N]) _ _ _ (by simp)
   have w5:=sG N;simp [aW (n:=s.xs[j].fr+1),aW (n:=s.xs[j].fr+10080)];cases W:bF s.xs[j].to (s.xs[j].fr+1) (s.xs[j].fr+10080)
   ·exact off (by simp [pP,W]) _ _ _ (by simp)
   have Z:pP s.xs[j]=ae:=by simp [pP,U,N,W]
   apply ai;simp;cases j with
   | zero=>
    simp;refine aD (by simp) ?_;refine aO (az (next _ _ ?_ (by simp [E]) (by simp [K])));exact⟨by simp [x],by simp [B],⟨_,rfl⟩,go Z (by rw [Y rfl];rfl)⟩
   | succ m=>
    have z:m<s.xs.length:=by omega
    have y:=X m rfl z;have e1:((m+1:Nat):Int)-1=m:=by omega
    have q:=bL (H:=H++(.box l 0 ::(J++[bz.box [C.f (fi s.xs[m+1].day),C.f (fi s.xs[m+1].fr),C.f (fi s.xs[m+1].to)] 0]))) (bD s.xs) (gw z);have I:=wo s.xs[m] s.xs[m+1];simp [aI.row]at I q;simp [show 0<m+1 by omega,x,O,aW (n:=(m:Int)),bt,z,q,I];by_cases k7:0≤eU s.xs[m] s.xs[m+1]
    ·simp [k7];have b:=bad (by simp [u,y,show¬ eU s.xs[m] s.xs[m+1]<0 by omega]);refine aq (by simp) ?_;exact al (b _ _ _)
    ·simp [k7];refine aD (by simp) ?_;refine aO (az (next _ _ ?_ (by simp [E]) (by simp [K])));exact⟨by simp [x],by simp [B],⟨_,rfl⟩,go Z (by rw [y];simp;omega)⟩
  ·rintro t _ ⟨x,B,⟨J,rfl⟩,d,X,Y,u⟩ E K;have hX:iV ab s.xs=ae:=by rw [u];simp [iV]
   apply ai;simp;refine aC (hQ _ _ ?_);simp [hS,hX]
theorem AB{b:Int}{q:List (Int × Int)}{j:Nat}(d:j<q.length):jm b (q.drop j)=(bF q[j].1 (b+1) 63&&bF q[j].2 0 10080&&jm q[j].1 (q.drop (j+1))):=by
 rw [at7 d];rfl
theorem Cx{l:List cC}{i b:Int}{p:List Int}{j:Nat}(d:j<p.length) :
  lZ l i b (p.drop j)=(bF p[j] (b+1) ((l.length:Int)-1)&&!decide (p[j]=i)&&decide (Az l p[j]=0)&&lZ l i p[j] (p.drop (j+1))):=by
 rw [at7 d];rfl
theorem Qv(g:Tg)(l:List cC)(i:Nat)(hi:i<l.length)(hl:l.length≤6)(ho:∀ r ∈ l,lI r)(hq:l[i].q.length≤64)(hp:l[i].p.length≤64) :
  Kf tab 192 [.c (.f (sl g (rows l))),vi i] (vb (eE l i l[i])):=by
 refine cP rfl rfl fun H Q m=>?_;obtain⟨r,hr⟩:=aK (l[i]);have X:=bo.eq (ho _ (at2 hi));rw [←hr]at X hq hp m;simp only [cC.op]at X;have K:=bL (H:=H) (gA l) (qA hi);rw [←hr]at K;apply al;refine an (.inl rfl) ?_;simp;apply al;refine an (.inl rfl) ?_;simp [bt,hi,K,cC.row];apply al;apply al;refine an (.inl rfl) ?_;simp;cases h1:bF r.cap 1 512
 case false=>
  simp;refine aq (by simp) ?_;apply ai;simp;refine aC (m _ _ ?_);simp [eE,h1]
 simp;cases h2:bF r.jA 0 1440
 case false=>
  simp;refine aq (by simp) ?_;apply ai;simp;refine aC (m _ _ ?_);simp [eE,h2]
 simp;cases h3:bF r.pD 0 1440
 case false=>
  simp;refine aq (by simp) ?_;apply ai;simp;refine aC (m _ _ ?_);simp [eE,h3]
 simp [X];refine aD (by simp) ?_;refine aO ?_;apply ai;simp;apply al;apply al;refine an (.inl rfl) ?_;simp;obtain⟨F,q⟩:=aK ([C.f (fi r.cap),C.f (fi r.jA),C.f (fi r.pD),C.f r.o0,C.f r.o1,C.f r.o2,C.f r.o3,C.f r.o4,C.f r.o5,C.f r.o6,C.f r.o7,C.f r.o8,C.f r.o9,C.f (sl r.qg (gz r.q)),C.f (sl r.pg (ints r.p))]);rw [←q];have M:F.drop 14=[C.f (sl r.pg (ints r.p))]:=by rw [q];rfl
 refine bR r.q.length (fun j t H'=>t.g 0=.c (.f (sl g (rows l)))∧t.g 1=vi i∧t.g 5=.c (.ptr H.length 0 0)∧t.g 38=.c (.f (sl r.qg (gz r.q)))∧(∃ J,H'=H++(.box F 0::J)) ∧
  ∃ b,t.g 6=vi b∧-1≤b∧b≤63∧jm (-1) r.q=jm b (r.q.drop j)) (by omega) (by decide) (by decide) (by simp) (by simp) (by simp) ?_ ?_
 ·rintro j t _ E ⟨h0,s,O,u,⟨J,rfl⟩,b,B,Y,Z,d⟩ A I next
  rw [AB E]at d;refine aF ?_;apply ai;simp [A,u,bt,E,bL (wv r.q) (Cw E)];apply al;apply ai;simp [B,aW (n:=b+1)];cases x:bF r.q[j].1 (b+1) 63
  case false=>
   simp;refine aq (by simp) ?_;apply ai;simp;refine aC (m _ _ ?_);simp [eE,d,x]
  simp;cases y:bF r.q[j].2 0 10080
  case false=>
   simp;refine aq (by simp) ?_;apply ai;simp;refine aC (m _ _ ?_);simp [eE,d,y]
  simp;refine aD (by simp) ?_;refine aO ?_;refine an (.inl rfl) ?_;simp [B];refine az (next _ _ ?_ (by simp [A]) (by simp [I]));have hw:=sG x;simp [x,y]at d;exact⟨by simp [h0],by simp [s],by simp [O],by simp [u],⟨_,rfl⟩,r.q[j].1,by simp,by omega,by omega,d⟩
 ·rintro t _ ⟨h0,s,O,u,⟨J,rfl⟩,b,B,Y,Z,d⟩ A I;have W:jm (-1) r.q=ae:=by rw [d];simp [jm]
  apply ai;simp;apply al;apply al;refine an (.inl rfl) ?_;simp [O,M];refine bR r.p.length (fun j t H'=>t.g 0=.c (.f (sl g (rows l)))∧t.g 1=vi i∧t.g 60=.c (.f (sl r.pg (ints r.p)))∧(∃ J,H'=H++J) ∧
   ∃ b,t.g 6=vi b∧-1≤b∧b≤6∧lZ l i (-1) r.p=lZ l i b (r.p.drop j)) (by omega) (by decide) (by decide) (by simp) (by simp) (by simp [h0,s]) ?_ ?_
  ·rintro j t _ E ⟨h0,s,v,⟨J,rfl⟩,b,B,Y,Z,d⟩ A I next
   rw [Cx E]at d;refine aF ?_;apply ai;simp [A,v,bt,E,jG];apply al;apply ai;simp [B,h0,aW (n:=b+1),aW (n:=(l.length:Int)-1)];cases x:bF r.p[j] (b+1) ((l.length:Int)-1)
   case false=>
    simp;refine aq (by simp) ?_;apply ai;simp;refine aC (m _ _ ?_);simp [eE,d,x]
   have hw:=sG x;simp [s];by_cases y:r.p[j]=i
   ·simp [y];refine aq (by simp) ?_;apply ai;simp;refine aC (m _ _ ?_);simp [eE,d,y]
   have hk:r.p[j].toNat<l.length:=by omega
   have N:=il (H:=H++J) (k:=14) (gA l) (qA hk) rfl;simp [y,h0,bt (g:=g) (rows:=rows l) (sz:=15) (k:=.i64) (i:=r.p[j]) (by omega) (by simp;omega),N];have L:=ajz (l:=l) (p:=r.p[j]) (by omega) hk;by_cases S:Az l r.p[j]=0
   ·have z:l[r.p[j].toNat].p=[]:=List.eq_nil_of_length_eq_zero (by rw [←L];exact S);simp [z];refine aD (by simp) ?_;refine aO ?_;refine an (.inl rfl) ?_;simp;refine az (next _ _ ?_ (by simp [A]) (by simp [I]));simp [x,y,S]at d;exact⟨by simp [h0],by simp [s],by simp [v],⟨_,rfl⟩,r.p[j],by simp,by omega,by omega,d⟩
   ·have z:0<l[r.p[j].toNat].p.length:=by rw [←L];omega
    simp [z];refine aq (by simp) ?_;apply ai;simp;refine aC (m _ _ ?_);simp [eE,d,S]
  ·rintro t _ ⟨h0,s,v,⟨J,rfl⟩,b,B,Y,Z,d⟩ A I;have U:lZ l i (-1) r.p=ae:=by rw [d];simp [lZ]
   apply ai;simp;refine aC (m _ _ ?_);simp [eE,h1,h2,h3,W,U]
theorem Qw(g:Tg)(l:List cC)(i:Nat)(hi:i<l.length)(b:l.length≤6)(d:∀ r ∈ l,lI r)(m:l[i].q.length≤64)(j:l[i].p.length≤64) :
  bo tab 192 [.c (.f (sl g (rows l))),vi i]=Eq (vb (eE l i l[i])):=(Qv g l i hi b d m j).eq
theorem O9(g:Tg)(l:List cC)(b:l.length≤6)(d:∀ r ∈ l,lI r) :
  bo tab 191 [.c (.f (sl g (rows l))),.c (.f (.fn 189 []))]=Eq (vb (l.any th)):=(O8 g l b d).eq
theorem uY{l:List cC}{j:Nat}(b:j<l.length):gm l j (l.drop j)=(eE l j l[j]&&gm l (j+1) (l.drop (j+1))):=by
 rw [at7 b];rfl
theorem adW(g:Tg)(l:List cC)(y:l.length≤6)(z:∀ r ∈ l,lI r):Kf tab 113 [.c (.f (sl g (rows l)))] (vi (mj l)):=by
 refine cP rfl rfl fun H Q s=>?_;apply ai;simp;apply ai;simp;apply al;apply ai;have d:¬ (256:Int)<l.length:=by omega
 simp [d,O9 g l y z];cases q:l.any th
 case true=>
  refine aq (by simp) ?_;apply ai;simp;refine aC (s _ _ ?_);simp [mj,q]
 refine aD (by simp) ?_;refine aO ?_;apply al;apply ai;simp;refine bR l.length (fun j t H'=>t.g 0=.c (.f (sl g (rows l)))∧(∃ J,H'=H++J)∧gm l 0 l=gm l j (l.drop j)) (by omega) (by decide) (by decide) (by simp) (by simp) (by simp) ?_ ?_
 ·rintro j t _ v ⟨h0,⟨J,rfl⟩,b⟩ u m next
  rw [uY v]at b;have x:th l[j]=ag:=by
   have:=avj.1 q l[j] (at2 v);simpa using this
  simp only [th,Bool.or_eq_false_iff,decide_eq_false_iff_not]at x;refine aF ?_;apply ai;simp [u];apply ai;simp [h0,Qw g l j v y z (by omega) (by omega)];cases A:eE l j l[j]
  ·refine aq (by simp) ?_;apply ai;simp;refine aC (s _ _ ?_);simp [mj,q,b,A]
  ·refine aD (by simp) ?_;refine aO (az (next _ _ ?_ (by simp [u]) (by simp [m])));simp [A]at b;exact⟨by simp [h0],⟨_,rfl⟩,b⟩
 ·rintro t _ ⟨h0,⟨J,rfl⟩,b⟩ u m;apply ai;simp;refine aC (s _ _ ?_);simp [mj,q,b,gm]
theorem adX(g:Tg)(l:List cC)(b:l.length≤6)(d:∀ r ∈ l,lI r):bo tab 113 [.c (.f (sl g (rows l)))]=Eq (vi (mj l)):=(adW g l b d).eq
theorem iU(g:Tg)(l:List Int)(v:Int)(b:l.length≤9223372036854775807) :
  bo tab 272 [.c (.f (sl g (ints l))),vi v]=Eq (vb (l.any (· == v))):=(tj g l v b).eq
theorem Pk(g:Tg)(q:List Int)(x:Int)(d:q.length≤9223372036854775807):Kf tab 274 [vi x,.c (.f (.fp [sl g (ints q)] 0))] (vb (q.any (· == x))):=by
 refine cP rfl rfl fun H Q b=>?_;apply ai;simp;apply ai;simp [ou,iU g q x d];refine aC (b _ _ ?_);simp
theorem zO(g g':Tg)(p q:List Int)(d:p.length≤9223372036854775807)(l:q.length≤9223372036854775807) :
  bo tab 273 [.c (.f (sl g (ints p))),.c (.f (.fn 274 [.fp [sl g' (ints q)] 0]))]=Eq (vb (p.any fun x=>q.any (· == x))):=
 (gq amN (kY amU p (fun n=>[fi n]) vi (fun x=>q.any (· == x)) g 274 [.fp [sl g' (ints q)] 0] d
  (fun j b H=>by have:=jG (H:=H) b;simpa [ints]using this) (fun x _=>by have:=Pk g' q x l;simpa using this))).eq
def ke(a b:Nat)(ra d:cC):Bool:=decide (a=b)||ra.p.any (· ==(b:Int))||d.p.any (· ==(a:Int))||ra.p.any fun x=>d.p.any (· == x)
theorem QI(g:Tg)(l:List cC)(a b:Nat)(s:a<l.length)(u:b<l.length)(y:l[a].p.length≤64)(z:l[b].p.length≤64) :
  Kf tab 200 [.c (.f (sl g (rows l))),vi a,vi b] (vb (ke a b l[a] l[b])):=by
 refine cP rfl rfl fun H Q j=>?_;have v:=il (H:=H) (k:=14) (gA l) (qA s) rfl;have x:=il (H:=H) (k:=14) (gA l) (qA u) rfl;apply ai;simp;apply ai;simp [bt,s,u,v,x];apply ai;simp;by_cases d:a=b
 ·simp [d];refine aC (j _ _ ?_);simp [ke,d]
 simp [d,iU _ l[a].p _ (by omega)];cases m:l[a].p.any (· ==(b:Int))
 case true=>
  simp;refine aC (j _ _ ?_);simp [ke,m]
 simp [iU _ l[b].p _ (by omega)];cases q:l[b].p.any (· ==(a:Int))
 case true=>
  simp;refine aC (j _ _ ?_);simp [ke,q]
 simp [deep,acz,Ew,zO l[a].pg l[b].pg l[a].p l[b].p (by omega) (by omega)];refine aC (j _ _ ?_);simp [ke,d,m,q]
theorem zz(s:aJ)(h:s.Sm):bo tab 53 [.a (s.row.map .f)]=Eq (vb (dU s)):=(jw s h).eq
structure av where
 meet:Int
 room:Int
 dB:Int
 size:Int
 st:aJ
def av.row(s:av):List FC:=[fi s.meet,fi s.room,fi s.dB,fi s.size,sl s.st.cg (aN s.st.cs),fi s.st.len,sl s.st.xg (aH s.st.xs)]
def ak(l:List av):List (List FC):=l.map av.row
@[simp] theorem ad6 (l:List av):(ak l).length=l.length:=by simp [ak]
theorem aS(l:List av):cr 7 (ak l):=cr.map fun _=>rfl
theorem cA{l:List av}{j:Nat}(b:j<l.length):(ak l)[j]?=aa l[j].row:=by simp [ak,b]
def mM(x y:av):Int:=wm [de x.meet y.meet,de x.room y.room]
def gk(n:Nat)(s:av):Bool:=decide (1≤s.meet)&&bF s.room 0 ((n:Int)-1)&&bF s.dB 0 63&&bF s.size 1 512&&dU s.st
def fA(n:Nat):Option av→List av→Bool
 | _,[]=>ae| prev,s::r=>gk n s&&(prev.all fun m=>decide (mM m s<0))&&fA n (aa s) r
theorem AM{n:Nat}{p:Option av}{l:List av}{j:Nat}(b:j<l.length):fA n p (l.drop j)=(gk n l[j]&&(p.all fun m=>decide (mM m l[j]<0))&&fA n (aa l[j]) (l.drop (j+1))):=by
 rw [at7 b];rfl
def ov(b:List cC)(l:List av):Bool:=decide (mj b=0)&&decide ((l.length:Int)≤4096)&&fA b.length ab l
theorem FY(x y:av):Kf tab 115 [.a (x.row.map .f),.a (y.row.map .f)] (vi (mM x y)):=by
 refine cP rfl rfl fun H Q d=>?_;have b:=ze .fs [de x.meet y.meet,de x.room y.room] (by simp);simp [ints,sl,Tg.fc]at b;apply ai;simp [av.row];apply ai;simp [gj,deep,mr,qf,b];refine aC (d _ _ ?_);simp [mM]
theorem aiB(x y:av):bo tab 115 [.a (x.row.map .f),.a (y.row.map .f)]=Eq (vi (mM x y)):=(FY x y).eq
theorem C0(g:Tg)(d:List cC)(s:av)(v:d.length≤6)(h:s.st.Sm):Kf tab 114 [.c (.f (sl g (rows d))),.a (s.row.map .f)] (vb (gk d.length s)):=by
 refine cP rfl rfl fun H Q b=>?_;have l:=zz s.st h;simp [aJ.row]at l;apply ai;simp [av.row];apply ai;simp;by_cases j:1≤s.meet
 case neg=>
  simp [j];refine aC (b _ _ ?_);simp [gk,j]
 simp [j,aW (n:=(d.length:Int)-1)];cases m:bF s.room 0 ((d.length:Int)-1)
 ·simp;refine aC (b _ _ ?_);simp [gk,m]
 simp;cases q:bF s.dB 0 63
 ·simp;refine aC (b _ _ ?_);simp [gk,q]
 simp;cases u:bF s.size 1 512
 ·simp;refine aC (b _ _ ?_);simp [gk,u]
 simp [l];refine aC (b _ _ ?_);simp [gk,j,m,q,u]
theorem adF(g:Tg)(b:List cC)(s:av)(d:b.length≤6)(h:s.st.Sm):bo tab 114 [.c (.f (sl g (rows b))),.a (s.row.map .f)]=Eq (vb (gk b.length s)):=(C0 g b s d h).eq
theorem Gp(g g':Tg)(q:List cC)(l:List av)(U:q.length≤6)(ho:∀ r ∈ q,lI r)(hl:l.length≤9223372036854775807)(h:∀ s ∈ l,s.st.Sm) :
  Kf tab 59 [.c (.f (sl g (rows q))),.c (.f (sl g' (ak l)))] (vb (ov q l)):=by
 refine cP rfl rfl fun H Q O=>?_;have bad:ov q l=ag→∀(t:T) (J:aj) k,WP tab 59 ab (.code (.region [⟨D 4,.bc (.k (.c (.f (.bool ag)))),ab⟩] [])::.code .ret::k) ⟨t,[],H++J⟩ Q:=by
  intro hf t J k;refine an (.inl rfl) ?_;simp;refine aC (O _ _ ?_);simp [hf]
 apply ai;simp;apply al;apply ai;simp [adX g q U ho];by_cases L:mj q=0
 case neg=>
  simp [L];have b:=fun t k=>bad (by simp [ov,L]) t [] k;simp only [auR]at b;refine aq (by simp) ?_;exact al (b _ _)
 simp [L];by_cases W:(4096:Int)<l.length
 ·simp [W];have b:=fun t k=>bad (by simp [ov,show¬ (l.length:Int)≤4096 by omega]) t [] k;simp only [auR]at b;refine aq (by simp) ?_;exact al (b _ _)
 simp [W];have S:ov q l=fA q.length ab l:=by simp [ov,L,show(l.length:Int)≤4096 by omega]
 rw [S]at bad;refine aD (by simp) ?_;refine aO ?_;apply al;apply ai;simp;refine bR l.length (fun j t H'=>t.g 0=.c (.f (sl g (rows q)))∧t.g 1=.c (.f (sl g' (ak l)))∧t.g 15=.c (.f (sl g' (ak l)))∧(∃ J,H'=H++J) ∧
  ∃ d,(∀ m,j=m+1→∀ h:m<l.length,d=aa (l[m]'h))∧(j=0→d=ab)∧fA q.length ab l=fA q.length d (l.drop j)) hl (by decide) (by decide) (by simp) (by simp)
   ⟨by simp,by simp,by simp,⟨[],by simp⟩,ab,by omega,by simp,by simp⟩ ?_ ?_
 ·rintro j t _ I ⟨g0,E,v,⟨J,rfl⟩,d,Z,l2,z⟩ F M next
  rw [AM I]at z;have N:=bL (H:=H++J) (aS l) (cA I);have B:=adF g q l[j] U (h _ (at2 I));simp [av.row]at B;refine aF ?_;apply ai;simp [F,v,bt,I,N,av.row];apply ai;simp [g0,B];cases X:gk q.length l[j]
  ·simp;exact aq (by simp) (al (bad (by simp [z,X]) _ _ _))
  simp;have go:(d.all fun m=>decide (mM m l[j]<0))=ae→∃ u,(∀ m,j+1=m+1→∀ h:m<l.length,u=aa (l[m]'h))∧(j+1=0→u=ab)∧fA q.length ab l=fA q.length u (l.drop (j+1)):=by
   intro hp;rw [X,hp,auU,auU]at z;refine⟨aa l[j],fun m K h=>?_,by omega,z⟩;have:m=j:=by omega
   subst this;rfl
  cases j with
  | zero=>
   simp;refine aD (by simp) ?_;refine aO (az (next _ _ ?_ (by simp [F]) (by simp [M])));exact⟨by simp [g0],by simp [E],by simp [v],⟨_,rfl⟩,go (by rw [l2 rfl];rfl)⟩
  | succ m=>
   have K:m<l.length:=by omega
   have A:=Z m rfl K;have e1:((m+1:Nat):Int)-1=m:=by omega
   have y:=fun H:aj=>bL (H:=H) (aS l) (cA K);have x:=aiB l[m] l[m+1];simp [av.row]at x y;simp [show 0<m+1 by omega,E,aW (n:=(m:Int)),bt,K,y,x];by_cases Y:0≤mM l[m] l[m+1]
   ·simp [Y];have b:=bad (by simp [z,A,show¬ mM l[m] l[m+1]<0 by omega]);refine aq (by simp) ?_;exact al (b _ _ _)
   ·simp [Y];refine aD (by simp) ?_;refine aO (az (next _ _ ?_ (by simp [F]) (by simp [M])));exact⟨by simp [g0],by simp [E],by simp [v],⟨_,rfl⟩,go (by rw [A];simp;omega)⟩
 ·rintro t _ ⟨g0,E,v,⟨J,rfl⟩,d,Z,l2,z⟩ F M;have hX:fA q.length ab l=ae:=by rw [z];simp [fA]
  apply ai;simp;refine aC (O _ _ ?_);simp [S,hX]
structure bC where
 id:Int
 dl:Int
 state:Int
 aR:av
def bC.row(h:bC):List FC:=[fi h.id,fi h.dl,fi h.state,fi h.aR.meet,fi h.aR.room,fi h.aR.dB,fi h.aR.size,sl h.aR.st.cg (aN h.aR.st.cs),fi h.aR.st.len,sl h.aR.st.xg (aH h.aR.st.xs)]
def aQ(l:List bC):List (List FC):=l.map bC.row
@[simp] theorem ai0 (l:List bC):(aQ l).length=l.length:=by simp [aQ]
theorem bQ(l:List bC):cr 10 (aQ l):=cr.map fun _=>rfl
theorem dZ{l:List bC}{j:Nat}(b:j<l.length):(aQ l)[j]?=aa l[j].row:=by simp [aQ,b]
structure dj where
 clock:Int
 bP:Int
 lg:Tg
 l:List bC
def dj.row(h:dj):List FC:=[fi h.clock,fi h.bP,sl h.lg (aQ h.l)]
theorem nj{n b:Nat}(g:n≤1100000)(d:b≤4096):bU n b=ae:=by
 have h:(2*n+768)*b≤2200768*4096:=Nat.mul_le_mul (by omega) d;simp [bU];omega
def Fix(s:av):Prop:=bo tab 46 [.a (s.row.map .f)]=Eq (.a (s.row.map .f))
def EF(x y:List FC):Int:=match x,y with
 | .int _ a::.int _ b::_,.int _ c::.int _ d::_=>wm [de a c,de b d]| _,_=>0
def Gg(x:List FC):Prop:=∃ s:av,x=s.row
theorem PZ(x y:av):Kf tab 43 [.a (x.row.map .f),.a (y.row.map .f)] (vi (EF x.row y.row)):=by
 refine cP rfl rfl fun H Q d=>?_;have b:=ze .fs [de x.meet y.meet,de x.room y.room] (by simp);simp [ints,sl,Tg.fc]at b;apply ai;simp [av.row];apply ai;simp [gj,deep,mr,qf,b];refine aC (d _ _ ?_);simp [EF,av.row]
theorem abC:Cv tab (.c (.f (.fn 43 []))) Gg EF:=by
 rintro _ _ ⟨x,rfl⟩ ⟨y,rfl⟩ H;obtain⟨J,b⟩:=PZ x y H;exact⟨_,_,J,by simp,b⟩
theorem FX{a b:Int}:de a b<0↔a<b:=by unfold de;split<;>(try split)<;>omega
theorem Ax(x y:av):EF x.row y.row<0↔x.meet<y.meet∨x.meet=y.meet∧x.room<y.room:=by
 simp only [EF,av.row,wm,de];split<;>split<;>(try split)<;>(try split)<;>(try split)<;>omega
theorem Pj:DB Gg EF:=by
 constructor
 ·rintro _ _ ⟨x,rfl⟩ ⟨y,rfl⟩ h b;rw [Ax]at h b;omega
 ·rintro _ _ _ ⟨x,rfl⟩ ⟨y,rfl⟩ ⟨z,rfl⟩ h b d;rw [Ax]at h b d;omega
theorem anN(x:av):Kf tab 132 [.a (x.row.map .f)] (.a [.f (fi x.meet),.f (fi x.room)]):=by
 refine cP rfl rfl fun H Q b=>?_;apply ai;simp [av.row];apply ai;simp;refine aC (b _ _ ?_);simp
theorem ab'(x:av):bo tab 132 [.a (x.row.map .f)]=Eq (.a [.f (fi x.meet),.f (fi x.room)]):=(Kf.EP (xs:=[fi x.meet,fi x.room]) (anN x)).eq
def iL(n:Int):Bool:=decide (0≤n)&&decide (n≤2251799813685248)
theorem anW(n:Int):Kf tab 38 [vi n] (vb (iL n)):=by
 refine cP rfl rfl fun H Q b=>?_;apply ai;simp;apply ai;by_cases h:0≤n
 ·simp [h];refine aC (b _ _ ?_);simp [iL,h]
 ·simp [h];refine aC (b _ _ ?_);simp [iL,h]
theorem vZ(n:Int):bo tab 38 [vi n]=Eq (vb (iL n)):=(anW n).eq
def eh(b d:Int)(x:bC):Bool:=decide (d<x.id)&&decide (1≤x.state)&&decide (x.state≤4)&&iL x.dl&&!(decide (x.state=1)&&decide (x.dl<b))
def fK(b:Int):Int→List bC→Bool
 | _,[]=>ae| last,x::r=>eh b last x&&fK b x.id r
theorem sP{b d:Int}{l:List bC}{j:Nat}(g:j<l.length):fK b d (l.drop j)=(eh b d l[j]&&fK b l[j].id (l.drop (j+1))):=by
 rw [at7 g];rfl
def cW(h:dj):Bool:=iL h.clock&&iL h.bP&&fK h.clock 0 h.l
theorem kX(h:dj)(Y:h.l.length≤30):bo tab 27 [.a (h.row.map .f)]=Eq (vb (cW h)):=bo.eq (by
 refine bV rfl rfl fun Q S=>?_;have bad:cW h=ag→∀(t:T) (J:aj) k,WP tab 27 ab (.code (.seq (.region [⟨D 2,.bc (.k (.c (.f (.bool ag)))),ab⟩] []) .ret)::k) ⟨t,[],J⟩ Q:=by
  intro X t J k;apply ai;simp;refine aC (S _ _ ?_);simp [X]
 apply ai;simp [dj.row];apply al;apply ai;simp [vZ];cases U:iL h.clock
 ·simp;exact aq (by simp) (bad (by simp [cW,U]) _ _ _)
 simp [vZ];cases W:iL h.bP
 ·simp;exact aq (by simp) (bad (by simp [cW,W]) _ _ _)
 simp [show¬ (4096:Int)<h.l.length by omega];refine bw (by simp) ?_;apply ai;simp;apply al;apply ai;simp;refine bR h.l.length (fun j t H=>t.g 1=.c (.ptr 0 0 0)∧t.g 23=.c (.f (sl h.lg (aQ h.l)))∧H[0]?=aa (.box [.f (fi h.clock),.f (fi h.bP),.f (sl h.lg (aQ h.l))] 0)∧∃ b,t.g 3=vi b∧fK h.clock 0 h.l=fK h.clock b (h.l.drop j)) (by omega) (by decide) (by decide) (by simp) (by simp) ⟨by simp,by simp,rfl,0,by simp,by simp⟩ ?_ ?_
 ·rintro j t H E ⟨u,d,h0,b,O,l⟩ y B next
  rw [sP E]at l;have q:=fun H:aj=>bL (H:=H) (bQ h.l) (dZ E);simp only [bC.row]at q;obtain⟨x,F⟩:=aK (h.l[j]);rw [←F]at l q;have v:eh h.clock b x=ag→cW h=ag:=fun e=>by simp [cW,l,e]
  refine aF ?_;apply ai;simp [y,d,bt,E,q];obtain⟨N,m⟩:=aK (H++[.box [.f (fi x.id),.f (fi x.dl),.f (fi x.state),.f (fi x.aR.meet),.f (fi x.aR.room),.f (fi x.aR.dB),.f (fi x.aR.size),.f (sl x.aR.st.cg (aN x.aR.st.cs)),.f (fi x.aR.st.len),.f (sl x.aR.st.xg (aH x.aR.st.xs))] 0]:aj);have A:N[0]?=aa (.box [.f (fi h.clock),.f (fi h.bP),.f (sl h.lg (aQ h.l))] 0):=by rw [m,anc (au h0)];exact h0
  have g:N[H.length]?=aa (.box [.f (fi x.id),.f (fi x.dl),.f (fi x.state),.f (fi x.aR.meet),.f (fi x.aR.room),.f (fi x.aR.dB),.f (fi x.aR.size),.f (sl x.aR.st.cg (aN x.aR.st.cs)),.f (fi x.aR.st.len),.f (sl x.aR.st.xg (aH x.aR.st.xs))] 0):=by rw [m];simp
  rw [←m];apply al;refine aF ?_;apply al;apply ai;simp [O,g];by_cases I:x.id≤b
  ·refine aq (by simp [I]) (aO ?_);refine aq (by simp [I]) ?_;exact bad (v (by simp [eh,show¬ b<x.id by omega])) _ _ _
  refine aD (by simp [I]) ?_;apply ai;simp [g];by_cases K:x.state<1
  ·refine aq (by simp [K]) (aO ?_);refine aq (by simp [K]) ?_;exact bad (v (by simp [eh,show¬ 1≤x.state by omega])) _ _ _
  refine aD (by simp [K]) ?_;apply ai;simp [g];by_cases L:4<x.state
  ·refine aq (by simp [L]) (aO ?_);refine aq (by simp [L]) ?_;exact bad (v (by simp [eh,show¬ x.state≤4 by omega])) _ _ _
  refine aD (by simp [L]) ?_;refine an (.inl rfl) ?_;simp [g,vZ];cases M:iL x.dl
  ·refine aq (by simp) ?_;exact bad (v (by simp [eh,M])) _ _ _
  refine aD (by simp) ?_;apply ai;simp [g];by_cases s:x.state=1
  ·by_cases z:x.dl<h.clock
   ·simp [s,z,u,A,g];refine aq (by simp) ?_;exact bad (v (by simp [eh,s,z])) _ _ _
   ·simp [s,z,u,A,g];refine aD (by simp) (aO (az ?_));refine an (.inl rfl) ?_;simp [g];refine az (next _ _ ⟨by simp [u],by simp [d],A,x.id,by simp,?_⟩ (by simp [y]) (by simp [B]));rw [l,show eh h.clock b x=ae by simp [eh,s,z,M];omega];simp [F]
  ·simp [s];refine aD (by simp) (aO (az ?_));refine an (.inl rfl) ?_;simp [g];refine az (next _ _ ⟨by simp [u],by simp [d],A,x.id,by simp,?_⟩ (by simp [y]) (by simp [B]));rw [l,show eh h.clock b x=ae by simp [eh,s,M];omega];simp [F]
 ·rintro t H ⟨u,d,h0,b,O,l⟩ y B;apply ai;simp;refine aC (S _ _ ?_);simp [cW,U,W,l,fK])
theorem BY(x:bC)(id:Int):Kf tab 71 [.a (x.row.map .f),vi id] (vi (de x.id id)):=by
 refine cP rfl rfl fun H Q b=>?_;apply ai;simp [bC.row];apply ai;simp [gj];refine aC (b _ _ ?_);simp
theorem rY{b:Int}:∀ {last:Int} {l:List bC},fK b last l=ae→(∀ x ∈ l,last<x.id)∧l.Pairwise (fun x y=>x.id<y.id)
 | _,[],_=>⟨by simp,.nil⟩
 | last,x::r,h=>by
  simp only [fK,atI]at h;obtain⟨g,j⟩:=rY h.2;have m:last<x.id:=by have:=h.1;simp [eh]at this;omega
  refine⟨fun y d=>?_,.cons (fun y d=>g y d) j⟩;rcases auc.1 d with rfl | d
  ·exact m
  ·have:=g y d;omega
theorem Ph{a b:Int}:de a b=0↔a=b:=by unfold de;split<;>(try split)<;>omega
def uj(l:List bC)(i:Nat)(id:Int):Bool:=match l[i]? with | some x=>decide (x.id=id) | none=>ag
theorem F'(h:dj)(hl:h.l.length≤30)(U:cW h=ae)(id:Int):∃ i:Nat,i≤h.l.length∧(∀ j (b:j<h.l.length),j<i→h.l[j].id<id)∧(∀ j (b:j<h.l.length),i≤j→id≤h.l[j].id) ∧
  bo tab 39 [.a (h.row.map .f),vi id]=Eq (.t [vi i,vb (uj h.l i id)]):=by
 have S:h.l.Pairwise (fun x y=>x.id<y.id):=by simp [cW]at U;exact(rY U.2).2
 have E:∀ i j (hi:i<j) (b:j<h.l.length),h.l[i].id<h.l[j].id:=fun i j hi b=>auQ.1 S i j (by omega) b hi;obtain⟨r,⟨i,W,X,Y,rfl⟩,O⟩:∃ r,(∃ i:Nat,i≤h.l.length∧(∀ j (b:j<h.l.length),j<i→h.l[j].id<id)∧(∀ j (b:j<h.l.length),i≤j→id≤h.l[j].id)∧r=.t [vi i,vb (uj h.l i id)]) ∧
   bo tab 70 [.c (.f (sl h.lg (aQ h.l))),vi id,.c (.f (.fn 71 []))] r:=by
  refine dG rfl rfl fun Q J=>?_;have F:=fun(H:aj) (j:Nat) (b:j<h.l.length)=>bL (H:=H) (bQ h.l) (dZ b);apply ai;simp;apply ai;simp;apply ai;simp;apply al;refine aF ?_;refine cH (fun m s=>∃(lo hi:Nat) (t:T) (H:aj),s=⟨t,[],H⟩∧lo+m=hi∧hi≤h.l.length∧t.g 0=.c (.f (sl h.lg (aQ h.l)))∧t.g 1=vi id∧t.g 2=.c (.f (.fn 71 []))∧t.g 8=vi h.l.length∧t.g 9=vi lo∧t.g 10=vi hi ∧
   (∀ j (b:j<h.l.length),j<lo→h.l[j].id<id)∧(∀ j (b:j<h.l.length),hi≤j→id≤h.l[j].id)) h.l.length
   ⟨0,h.l.length,_,_,rfl,by omega,by omega,by simp,by simp,by simp,by simp,by simp,by simp,by simp,by intros;omega⟩ ?_
  rintro m s ⟨lo,hi,t,H,rfl,hm,Z,g0,z,A,I,B,g,u,l⟩ next
  apply al;apply ai;simp [B,g];by_cases N:lo<hi
  ·refine aq (by simp [N]) (aO ?_);obtain⟨q,hq⟩:=aK ((lo+hi) / 2);have v:q<h.l.length:=by omega
   have L:=(BY h.l[q] id).ev H;refine aF ?_;apply ai;simp [B,g,aW (n:=(lo:Int)+hi),kU (lo:=lo) (hi:=hi) (by omega),mT (lo:=lo) (hi:=hi) (by omega) hq,aW (n:=(q:Int))];apply ai;simp [g0,z,A,bt,v,F _ q v,L];by_cases K:h.l[q].id<id
   ·refine aq (by simp [FX,K]) (an (.inl rfl) ?_);simp [aW (n:=(q:Int)+1)];refine az (next (hi-(q+1)) _ (by omega) ⟨q+1,hi,_,_,rfl,by omega,by omega,by simp [g0],by simp [z],by simp [A],by simp [I],by simp,by simp [g],fun j b M=>?_,l⟩);by_cases e:j=q
    ·subst e;exact K
    ·have:=E j q (by omega) v;omega
   ·refine aD (by simp [FX,K]) (an (.inl rfl) ?_);simp;refine az (next (q-lo) _ (by omega) ⟨lo,q,_,_,rfl,by omega,by omega,by simp [g0],by simp [z],by simp [A],by simp [I],by simp [B],by simp,u,fun j b M=>?_⟩);by_cases e:q=j
    ·subst e;omega
    ·have:=E q j (by omega) b;omega
  obtain rfl:lo=hi:=by omega
  refine aD (by simp) ?_;refine bJ (k':=[.code ye]) rfl ?_;apply ai;by_cases d:lo<h.l.length
  ·have L:=(BY h.l[lo] id).ev H;simp [g0,z,A,I,B,d,bt,F _ lo d,L];refine aC (J _ _ (.t [vi lo,vb (uj h.l lo id)]) ⟨lo,by omega,u,l,rfl⟩ ?_);simp [Ph,d,uj]
  ·simp [g0,z,A,I,B,d];refine aC (J _ _ (.t [vi lo,vb (uj h.l lo id)]) ⟨lo,by omega,u,l,rfl⟩ ?_);simp [d,uj]
 refine⟨i,W,X,Y,bo.eq ?_⟩;have O:=O.eq;refine bV rfl rfl fun Q J=>?_;apply ai;simp [dj.row];apply ai;simp [O];refine aC (J _ _ ?_);simp
theorem lS(l:List bC)(j:Nat)(x:bC):(aQ l).set j x.row=aQ (l.set j x):=by simp [aQ,List.map_set]
theorem yE(h:dj)(hl:h.l.length≤30)(hs:∀ x ∈ h.l,Fix x.aR)(H:aj):∃ r H',Ev tab (.fn 45) [.a (h.row.map .f)] H r H' ∧
  ∃ c,r=.a [.f (fi h.clock),.f (fi h.bP),c]∧Kp H H'∧LR H' c 10 (aQ h.l)∧∀ i,bE c=aa i→H.length≤i:=by
 refine cI rfl rfl fun Q hQ=>?_;apply ai;simp [dj.row];obtain⟨u,m⟩:=aK (H++[.box [.f (fi h.clock),.f (fi h.bP),.f (sl h.lg (aQ h.l))] 0,.box [.f (fi 0),.f (fi 0),.f .aw] 0]:aj);have z0:u[H.length]?=aa (.box [.f (fi h.clock),.f (fi h.bP),.f (sl h.lg (aQ h.l))] 0):=by rw [m];simp
 have z1:u[H.length+1]?=aa (.box [.f (fi 0),.f (fi 0),.f .aw] 0):=by rw [m];simp
 have zl:u.length=H.length+2:=by rw [m];simp
 have zk:Kp H u:=by rw [m];exact Kp.push _ _
 rw [←m];obtain⟨r,H1,E,c,Y,rfl,rfl,y,o⟩:=vj (F:=81) (sz:=10) (zs:=[fi 0,fi 0,fi 0,fi 0,fi 0,fi 0,fi 0,.aw,fi 0,.aw]) (bytes:=112) (H:=u) (g:=h.lg) (rows:=aQ h.l) amG (by decide) (bQ _) (nj (by simp;omega) (by decide));have E:=E.eq;have a0:(u++Y)[H.length]?=aa (.box [.f (fi h.clock),.f (fi h.bP),.f (sl h.lg (aQ h.l))] 0):=by rw [anc (by omega)];exact z0
 have a1:(u++Y)[H.length+1]?=aa (.box [.f (fi 0),.f (fi 0),.f .aw] 0):=by rw [anc (by omega)];exact z1
 apply ai;simp [z0,E,a0];obtain⟨W,q⟩:=aK ((u++Y).set H.length (.box [.f (fi h.clock),.f (fi h.bP),c] 0):aj);have b0:W[H.length]?=aa (.box [.f (fi h.clock),.f (fi h.bP),c] 0):=by rw [q];exact atY (by simp;omega)
 have b1:W[H.length+1]?=aa (.box [.f (fi 0),.f (fi 0),.f .aw] 0):=by rw [q,aft (by omega)];exact a1
 have s:∀ i,bE c=aa i→H.length+2≤i:=fun i e=>by have:=o i e;omega
 have O:LR W c 10 (aQ h.l):=by rw [q];exact y.set (fun e=>by have:=s _ e;omega) _
 have k2:Kp H W:=by
  rw [q];exact⟨by simp;omega,fun Z l=>by rw [aft (by omega),anc (by omega)];exact zk.2 Z l⟩
 rw [←q];have a:∀(t:T) (b:aj),t.g 1=.c (.ptr H.length 0 0)→t.g 2=.c (.ptr (H.length+1) 0 0)→b[H.length]?=aa (.box [.f (fi h.clock),.f (fi h.bP),c] 0)→b[H.length+1]?=aa (.box [.f (fi 0),.f (fi 0),.f .aw] 0)→Kp H b→LR b c 10 (aQ h.l) →
   WP tab 45 ab [.code A'] ⟨t,[],b⟩ Q:=by
  intro t b I J h0 K L y;apply ai;simp [I,J,h0,K];refine aC (hQ _ _ (.a [.f (fi h.clock),.f (fi h.bP),c]) rfl ?_ ⟨c,rfl,?_,y.set (fun e=>by have:=s _ e;omega) _,fun i e=>by have:=s i e;omega⟩)
  ·simp [Km.results,bj,J,au K]
  ·exact⟨by simpa using L.1,fun Z l=>by rw [aft (by omega)];exact L.2 Z l⟩
 apply al;apply ai;have v:=O.len;simp at v;simp [b0,v];refine bR h.l.length (fun j t b=>t.g 1=.c (.ptr H.length 0 0)∧t.g 2=.c (.ptr (H.length+1) 0 0)∧b[H.length]?=aa (.box [.f (fi h.clock),.f (fi h.bP),c] 0)∧b[H.length+1]?=aa (.box [.f (fi 0),.f (fi 0),.f .aw] 0)∧Kp H b∧LR b c 10 (aQ h.l)) (by omega) (by decide) (by decide) (by simp) (by simp) ⟨by simp,by simp,b0,b1,k2,O⟩ ?_ ?_
 ·rintro j t b hj ⟨I,J,h0,K,L,y⟩ ha hb next
  have d:=hj;rcases y with⟨he,_⟩ | ⟨a8,B,ep,rfl,f⟩
  ·rw [show h.l=[] by simpa [aQ]using he]at d;simp at d
  obtain⟨x,X⟩:=aK (h.l[j]);have e2:Fix x.aR:=hs x (by rw [X];exact at2 d);unfold Fix at e2;have S:=f.at (show j<(aQ h.l).length by simpa using d);have A:=f.ldp (n:=7) (k:=3) (bQ h.l) (dZ d) (by decide);rw [←X]at A;have U:((x.row.drop 3).take 7)=x.aR.row:=rfl;rw [U]at A;obtain⟨H4,b_,M,z,c_⟩:=f.stp (k:=3) (xs:=x.aR.row) (bQ h.l) (dZ d) (by show 3+7≤10;omega);have a_:bp h.l[j].row 3 x.aR.row=x.row:=by rw [X];rfl
  rw [a_,lS,X,avr]at M;have N:B≠H.length∧B≠H.length+1:=by have:=s B rfl;omega
  refine aF ?_;apply ai;simp [ha];refine an (.inl rfl) ?_;have a7:(aQ h.l).length=h.l.length:=by simp
  simp only [a7]at *;have b9:(x.aR.row.map C.f).length=7:=rfl;have w:aV b ab (.c (.ptr H.length 2 0))=aa (.c (.sl B 0 h.l.length 0 ep 10)):=by simp [h0,aT]
  simp [I,w,S,A,e2,b_,b9,-aA,-bl];refine az (next _ _ ⟨by simp [I],by simp [J],z.get h0 (Ne.symm N.1),z.get K (Ne.symm N.2),L.next (p:=B) (by have:=s B rfl;omega) z,.inr ⟨a8,B,ep,by simp,M⟩⟩ (by simp [ha]) (by simp [hb]))
 ·rintro t b ⟨I,J,h0,K,L,y⟩ - -;exact a _ b (by simp [I]) (by simp [J]) h0 K L y
def bY(x y:av):Bool:=decide (x.meet=y.meet∧x.room=y.room)
theorem Dh(x s:av){H:aj}{p:Nat}(v:H[p]?=aa (.box (s.row.map .f) 0)):∃ J,Ev tab (.fn 131) [.a (x.row.map .f),.c (.ptr p 0 0)] H (vb (bY x s)) (H++J):=by
 obtain⟨r,H',z,rfl,J,rfl⟩:∃ r H',Ev tab (.fn 131) [.a (x.row.map .f),.c (.ptr p 0 0)] H r H'∧r=vb (bY x s)∧∃ J,H'=H++J:=by
  refine cI (C:=fun r H'=>r=vb (bY x s)∧∃ J,H'=H++J) aqg rfl fun Q y=>?_;have q:=ab' x;have u:=ab' s;have m:=au v;obtain⟨j,b⟩:=aK (H++[.box (x.row.map .f) 0]:aj);have d:j[p]?=aa (.box (s.row.map .f) 0):=by rw [b,anc m];exact v
  have g:j[H.length]?=aa (.box (x.row.map .f) 0):=by rw [b];simp
  have l:∃ J,j=H++J:=⟨_,b⟩
  simp only [av.row]at q u d g b ⊢;simp at d g b;apply ai;simp;rw [←b];apply ai;simp at q u;simp [d,g,q,u,D0,qM,PK];exact aC (y _ _ (vb (bY x s)) rfl (by simp [Km.results,bj,bY];rw [au6];simp) ⟨rfl,l⟩)
 exact⟨J,z⟩
def RS(H:aj)(c:C)(l:List av):Prop:=bA H c=aa l.length∧∀(j:Nat) (b:j<l.length),∃ p,bG H 7 ab (.c c) (vi j)=aa (.c p)∧aV H (aa 7) (.c p)=aa (.a (l[j].row.map .f))
theorem LR.rs{H:aj}{c:C}{l:List av}(h:LR H c 7 (ak l)):RS H c l:=⟨by simpa using h.len,fun j d=>by
 obtain⟨b,ep,m,l1⟩:=h.at (aS l) (j:=j) (by simpa using d);have g:(ak l)[j]'(by simpa using d)=l[j].row:=by simp [ak]
 rw [g]at l1;exact⟨_,m,l1⟩⟩
theorem aro(H:aj)(g:Tg)(l:List av):RS H (.f (sl g (ak l))) l:=⟨by simpa using Ee (H:=H) g (ak l),fun j d=>by
 have b:=bt (H:=H) (g:=g) (rows:=ak l) (sz:=7) (k:=.i64) (i:=(j:Int)) (by omega) (by simp;omega);rw [Int.toNat_natCast]at b;exact⟨_,b,bL (aS l) (cA d)⟩⟩
theorem Gc{H:aj}{c:C}{l:List av}(E:∀ J,RS (H++J) c l)(W:l.length≤1000)(s:av){p:Nat}(K:H[p]?=aa (.box (s.row.map .f) 0)):∃ J,Ev tab (.fn 133) [.c c,.c (.cl 131 [.ptr p 0 0])] H (vb (l.any fun x=>bY x s)) (H++J):=by
 have A:∃ r H',Ev tab (.fn 206) [.c c,.c (.cl 131 [.ptr p 0 0])] H r H'∧∃ J,H'=H++J∧∃ i:Int,r=vi i∧(0≤i↔(l.any fun x=>bY x s)=ae):=by
  refine cI (C:=fun r H'=>∃ J,H'=H++J∧∃ i:Int,r=vi i∧(0≤i↔(l.any fun x=>bY x s)=ae)) amT rfl fun Q v=>?_;have b:=(E []).1;rw [auR]at b;apply ai;simp;apply al;apply ai;simp [b];refine bR l.length (fun j t L=>t.g 0=.c c∧t.g 1=.c (.cl 131 [.ptr p 0 0])∧(∃ J,L=H++J)∧∀(q:Nat) (u:q<l.length),q<j→bY l[q] s=ag) (by omega) (by decide) (by decide) (by simp) (by simp) ⟨by simp,by simp,⟨[],by simp⟩,by simp⟩ ?_ ?_
  ·rintro j t _ I ⟨g0,y,⟨J,rfl⟩,g⟩ z F next
   obtain⟨X,S,U⟩:=(E J).2 j I;obtain⟨B,d⟩:=Dh l[j] s (H:=H++J) (p:=p) (by rw [anc (au K)];exact K);have d:=d.eq;refine aF ?_;apply ai;simp [z];apply ai;simp [g0,y,S,U,d,-aA];cases m:bY l[j] s
   ·refine aD (by simp) (aO (az (next _ _ ⟨by simp [g0],by simp [y],⟨J++B,by simp⟩,fun q u N=>?_⟩ (by simp [z]) (by simp [F]))));by_cases e:q=j
    ·subst e;exact m
    ·exact g q u (by omega)
   ·refine aq (by simp) (ai ?_);simp;refine aC (v _ _ (vi j) rfl (by simp [Km.results,bj]) ⟨J++B,by simp,j,rfl,?_⟩);simp only [au3];exact⟨fun _=>⟨l[j],at2 I,m⟩,fun _=>by omega⟩
  ·rintro t _ ⟨g0,y,⟨J,rfl⟩,g⟩ z F;apply ai;simp;refine aC (v _ _ (vi (-1)) rfl (by simp [Km.results,bj]) ⟨J,rfl,-1,rfl,?_⟩);simp only [au3];refine⟨fun h=>by omega,fun⟨x,O,m⟩=>?_⟩;obtain⟨q,u,rfl⟩:=auI O;rw [g q u u]at m;cases m
 obtain⟨r,H',d,J,rfl,i,rfl,hi⟩:=A;have d:=d.eq;obtain⟨r,H',M,rfl,rfl⟩:∃ r H',Ev tab (.fn 133) [.c c,.c (.cl 131 [.ptr p 0 0])] H r H'∧r=vb (l.any fun x=>bY x s)∧H'=H++J:=by
  refine cI (C:=fun r H'=>r=vb (l.any fun x=>bY x s)∧H'=H++J) amM rfl fun Q v=>?_;apply ai;simp;apply ai;simp [d];refine aC (v _ _ (vb (l.any fun x=>bY x s)) rfl ?_ ⟨rfl,rfl⟩);have:decide (0≤i)=(l.any fun x=>bY x s):=by
   rw [au6,decide_eq_true_eq];exact hi
  simp [Km.results,bj,this]
 exact⟨J,M⟩
def uniq(l0:List av):List av→List av→List av
 | acc,[]=>acc| acc,s::r=>if l0.any (fun x=>bY x s)||acc.any (fun x=>bY x s)then uniq l0 acc r else uniq l0 (acc++[s]) r
theorem nw{l0:List av}:∀ {l acc:List av},(uniq l0 acc l).length≤acc.length+l.length
 | [],_=>by simp [uniq]
 | s::l,acc=>by
  simp only [uniq];split
  ·have:=nw (l0:=l0) (l:=l) (acc:=acc);simp;omega
  ·have:=nw (l0:=l0) (l:=l) (acc:=acc++[s]);simp at this ⊢;omega
theorem qH{l0:List av}:∀ {l acc:List av} {x:av},x ∈ uniq l0 acc l→x ∈ acc∨x ∈ l
 | [],_,x,h=>.inl h
 | s::l,acc,x,h=>by
  simp only [uniq]at h;split at h
  ·rcases qH h with h | h<;>simp [h]
  ·rcases qH h with h | h
   ·simp at h;rcases h with h | h<;>simp [h]
   ·simp [h]
theorem Fe{H:aj}{c:C}{l:List av}(hL:LR H c 7 (ak l))(hl:l.length≤30)(hsm:∀ s ∈ l,Fix s)(g0:Tg)(l0:List av)(h0:l0.length≤30):∃ r H',Ev tab (.fn 74) [.c c,.c (.f (sl g0 (ak l0)))] H r H' ∧
  ∃ d,r=.c d∧Kp H H'∧LR H' d 7 (ak (uniq l0 [] l))∧∀ i,bE d=aa i→H.length≤i:=by
 refine cI (C:=fun r H'=>∃ d,r=.c d∧Kp H H'∧LR H' d 7 (ak (uniq l0 [] l))∧∀ i,bE d=aa i→H.length≤i) aqf rfl fun Q hQ=>?_;have O:=hL.len;simp at O;apply ai;simp;apply ai;simp;apply al;apply ai;simp [O];refine bR l.length (fun j t K=>t.g 1=.c (.f (sl g0 (ak l0)))∧t.g 9=.c c∧Kp H K∧∃ d o,t.g 5=.c d∧LR K d 7 (ak o)∧uniq l0 o (l.drop j)=uniq l0 [] l∧o.length≤j∧∀ i,bE d=aa i→H.length≤i) (by omega) (by decide) (by decide) (by simp) (by simp)
  ⟨by simp,by simp,Kp.refl H,.f .aw,[],by simp,LR.nil _ _,by simp,by simp,by simp [bE]⟩ ?_ ?_
 ·rintro j t K hj ⟨Y,g9,M,d,o,Z,hO,I,e_,z⟩ ha hb next
  obtain⟨x,hx⟩:=aK (l[j]);have hd:l.drop j=x::l.drop (j+1):=by rw [hx];exact at7 hj
  rw [hd]at I;have b9:LR K c 7 (ak l):=hL.cM fun i y hy _=>by rw [M.2 i (au hy)];exact hy
  obtain⟨b,ep,i1,l1⟩:=b9.at (aS l) (j:=j) (by simpa using hj);have e0:(ak l)[j]'(by simpa using hj)=x.row:=by simp [ak,hx]
  rw [e0]at l1;have e2:Fix x:=hsm x (by rw [hx];exact at2 hj);unfold Fix at e2;obtain⟨N,q⟩:=aK (K++[.box (x.row.map .f) 0]:aj);have B:N[K.length]?=aa (.box (x.row.map .f) 0):=by rw [q];simp
  have b_:LR N d 7 (ak o):=by rw [q];exact hO.push _
  obtain⟨J1,X⟩:=Gc (H:=N) (fun J=>aro _ g0 l0) (by omega) x B;have L:LR (N++J1) d 7 (ak o):=b_.push _;have f_:(N++J1)[K.length]?=aa (.box (x.row.map .f) 0):=by rw [anc (au B)];exact B
  obtain⟨J2,n2⟩:=Gc (H:=N++J1) (fun J=>LR.rs (L.push J)) (by omega) x f_;have X:=X.eq;have n2:=n2.eq;refine aF ?_;apply ai;simp [g9,ha,i1,l1,-aA,av.row];simp only [av.row]at q X n2 e2 B;simp at q;rw [←q];apply ai;simp;apply al;refine an (.inl rfl) ?_;cases hz:l0.any fun y=>bY y x
  case true=>
   rw [hz]at X;simp only [uniq,hz,Bool.true_or,if_true]at I;obtain⟨S,m⟩:=aK (N++J1:aj);have A:Kp H S:=by
    rw [m,q];exact⟨by have:=M.1;simp;omega,fun F g=>by
     have:=M.1;rw [auL,anc (by omega)];exact M.2 F g⟩
   simp [Y,X];rw [←m];rw [←m]at L;refine aD (by simp) (aO (az (next _ _ ⟨by simp [Y],by simp [g9],A,d,o,by simp [Z],L,I,by omega,z⟩ (by simp [ha]) (by simp [hb]))))
  rw [hz]at X;simp [Y,Z,X,n2];obtain⟨S,m⟩:=aK (N++(J1++J2):aj);have A:Kp H S:=by
   rw [m,q];exact⟨by have:=M.1;simp;omega,fun F g=>by
    have:=M.1;rw [auL,anc (by omega)];exact M.2 F g⟩
  have a8:LR S d 7 (ak o):=by rw [m,←auL];exact L.push _
  rw [←m];have W:S[K.length]?=aa (.box (x.row.map .f) 0):=by rw [m,anc (au B)];simp only [av.row];exact B
  cases u:o.any fun y=>bY y x
  case true=>
   simp only [uniq,u,Bool.or_true,if_true]at I;refine aD (by simp [u]) (aO (az (next _ _ ⟨by simp [Y],by simp [g9],A,d,o,by simp [Z],a8,I,by omega,z⟩ (by simp [ha]) (by simp [hb]))))
  case false=>
   simp only [uniq,hz,u,Bool.or_self,Bool.false_eq_true,if_false]at I;obtain⟨H4,v⟩:=aK (S++[.box (x.row.map .f) 0]:aj);have c_:LR H4 d 7 (ak o):=by rw [v];exact a8.push _
   obtain⟨c2,H5,E,d9,a7,a_⟩:=c_.app (aS o) (by decide) (row:=x.row) rfl (bytes:=88) (nj (by simp;omega) (by decide)) (b1:=S.length) (fl1:=0) (by rw [v];simp);have U:Kp H H4:=by
    rw [v];exact⟨by have:=A.1;simp;omega,fun F g=>by rw [anc (auE g A.1)];exact A.2 F g⟩
   have d_:Kp H H5:=⟨aum U.1 a7.1,fun F g=>by
    have hy:=asZ g;rw [a7.2 F H[F] (by rw [U.2 F g,hy]) (fun e=>by have:=z F e;omega),hy]⟩
   refine aq (by simp [u]) ?_;refine an (.inl rfl) ?_;simp only [av.row]at W v E;simp at W v E;have g_:(cE 1 [fi 0,fi 0,fi 0,fi 0,FC.aw,fi 0,FC.aw]).map C.f=[.f (fi 0),.f (fi 0),.f (fi 0),.f (fi 0),.f .aw,.f (fi 0),.f .aw]:=rfl;simp at e2;simp [Z,W,e2,←v,E];refine az (next _ _ ⟨by simp [Y],by simp [g9],d_,c2,o++[x],by simp,?_,?_,by simp;omega,fun i hi=>?_⟩ (by simp [ha]) (by simp [hb]))
   ·have e:ak (o++[x])=ak o++[x.row]:=by simp [ak]
    rw [e];exact d9
   ·exact I
   ·rcases a_ with h | h
    ·rw [h]at hi;exact z i hi
    ·rw [h]at hi;cases hi;exact U.1
 ·rintro t K ⟨Y,g9,M,d,o,Z,hO,I,e_,z⟩ ha hb;apply ai;simp [Z];refine aC (hQ _ _ (.c d) rfl (by simp [Km.results,bj]) ⟨d,rfl,M,?_,z⟩);rw [List.drop_of_length_le (at3 _)]at I;rw [←I];exact hO
theorem acP{m u:Type}{f:m→u}{l l':List u}(h:l'.Perm l):∀ o:List m,l=o.map f→∃ o':List m,l'=o'.map f∧o'.Perm o:=by
 induction h with
 | nil=>intro o d;exact⟨[],rfl,by
   have:o=[]:=by simpa using d.symm
   rw [this]⟩
 | cons x h A=>
  intro o d;cases o with
  | nil=>simp at d
  | cons a o=>
   simp only [aug,List.cons.injEq]at d;obtain⟨o',q,s⟩:=A o d.2;exact⟨a::o',by simp [q,d.1],s.cons a⟩
 | swap x y l=>
  intro o d
  match o with
  | []=>simp at d| [a]=>simp at d
  | a::b::o=>
   simp only [aug,List.cons.injEq]at d;exact⟨b::a::o,by simp [d.1,d.2.1,d.2.2],List.Perm.swap a b o⟩
 | trans q s g j=>
  intro o d;obtain⟨E,z,H⟩:=j o d;obtain⟨B,v,F⟩:=g E z;exact⟨B,v,F.trans H⟩
theorem vu{j:Type}{R:j→j→Prop}:∀ {A B:List j},A.Perm B→A.Pairwise R→B.Pairwise R→(∀ x ∈ A,∀ y ∈ A,R x y→R y x→x=y)→A=B
 | [],B,h,_,_,_=>(List.nil_perm.1 h).symm| a::A,[],h,_,_,_=>by have:=h.length_eq;simp at this
 | a::A,b::B,h,m,q,d=>by
  have g:a=b:=by
   by_cases e:a=b
   ·exact e
   have s:a ∈ B:=by
    have:a ∈ b::B:=h.mem_iff.1 at4;rcases auc.1 this with rfl | h
    ·exact absurd rfl e
    ·exact h
   have l:b ∈ A:=by
    have:b ∈ a::A:=h.mem_iff.2 at4;rcases auc.1 this with rfl | h
    ·exact absurd rfl e
    ·exact h
   exact d a at4 b (at5 _ l) (au9 m l) (au9 q s)
  subst g;rw [vu ((List.perm_cons a).1 h) (avP m) (avP q) fun x u y v=>d x (at5 _ u) y (at5 _ v)]
def i'(x y:av):Prop:=¬ (y.meet<x.meet∨y.meet=x.meet∧y.room<x.room)
theorem sf{x y:av}:bY x y=ae↔x.meet=y.meet∧x.room=y.room:=by simp [bY]
def gQ(x:bC):Bool:=decide (x.state=1)||decide (x.state=2)
def bh(l:List bC):List av:=(l.filter gQ).map bC.aR
theorem yC(h:dj)(hl:h.l.length≤30)(hs:∀ x ∈ h.l,Fix x.aR)(g0:Tg)(l0:List av)(h0:l0.length≤30)(H:aj):∃ r H',Ev tab (.fn 41) [.a (h.row.map .f),.c (.f (sl g0 (ak l0)))] H r H' ∧
  ∃ u,r=.c u∧Kp H H'∧LR H' u 7 (ak (uniq l0 [] (bh h.l)))∧∀ i,bE u=aa i→H.length≤i:=by
 refine cI (C:=fun r H'=>∃ u,r=.c u∧Kp H H'∧LR H' u 7 (ak (uniq l0 [] (bh h.l)))∧∀ i,bE u=aa i→H.length≤i) aqd rfl fun Q hQ=>?_;apply ai;simp [dj.row];obtain⟨H0,K⟩:=aK (H++[.box [.f (fi h.clock),.f (fi h.bP),.f (sl h.lg (aQ h.l))] 0]:aj);have z0:H0[H.length]?=aa (.box [.f (fi h.clock),.f (fi h.bP),.f (sl h.lg (aQ h.l))] 0):=by rw [K];simp
 have zk:Kp H H0:=by rw [K];exact Kp.push _ _
 rw [←K];apply ai;simp;apply al;apply ai;simp [z0];refine bR h.l.length (fun j t E=>t.g 1=.c (.f (sl g0 (ak l0)))∧t.g 9=.c (.f (sl h.lg (aQ h.l)))∧Kp H E∧∃ c,t.g 5=.c c∧LR E c 7 (ak (bh (h.l.take j)))∧∀ i,bE c=aa i→H.length≤i) (by omega) (by decide) (by decide) (by simp) (by simp)
  ⟨by simp,by simp,zk,.f .aw,by simp,LR.nil _ _,by simp [bE]⟩ ?_ ?_
 ·rintro j t E hj ⟨F,J,A,c,I,hL,z⟩ X hb next
  have M:=fun H:aj=>bL (H:=H) (bQ h.l) (dZ hj);simp only [bC.row]at M;obtain⟨x,hx⟩:=aK (h.l[j]);rw [←hx]at M;have a8:h.l.take (j+1)=h.l.take j++[x]:=by rw [hx,auz,asZ hj];rfl
  obtain⟨N,v⟩:=aK (E++[.box [.f (fi x.id),.f (fi x.dl),.f (fi x.state),.f (fi x.aR.meet),.f (fi x.aR.room),.f (fi x.aR.dB),.f (fi x.aR.size),.f (sl x.aR.st.cg (aN x.aR.st.cs)),.f (fi x.aR.st.len),.f (sl x.aR.st.xg (aH x.aR.st.xs))] 0]:aj);have nr:N[E.length]?=aa (.box [.f (fi x.id),.f (fi x.dl),.f (fi x.state),.f (fi x.aR.meet),.f (fi x.aR.room),.f (fi x.aR.dB),.f (fi x.aR.size),.f (sl x.aR.st.cg (aN x.aR.st.cs)),.f (fi x.aR.st.len),.f (sl x.aR.st.xg (aH x.aR.st.xs))] 0):=by rw [v];simp
  have d:Kp H N:=by
   rw [v];exact⟨by have:=A.1;simp;omega,fun l b=>by rw [anc (auE b A.1)];exact A.2 l b⟩
  have W:LR N c 7 (ak (bh (h.l.take j))):=by rw [v];exact hL.push _
  refine aF ?_;apply ai;simp [X,J,bt,hj,M];rw [←v];apply al;refine an (.inl rfl) ?_;simp [nr];cases q:gQ x
  case false=>
   have e_:bh (h.l.take (j+1))=bh (h.l.take j):=by rw [a8];simp [bh,avZ,q]
   have O:x.state≠1:=fun e=>by simp [gQ,e]at q
   have h2:x.state≠2:=fun e=>by simp [gQ,e]at q
   simp [O,h2,nr];refine aD (by simp) (aO (az (next _ _ ⟨by simp [F],by simp [J],d,c,by simp [I],by rw [e_];exact W,z⟩ (by simp [X]) (by simp [hb]))))
  case true=>
   have a_:bh (h.l.take (j+1))=bh (h.l.take j)++[x.aR]:=by rw [a8];simp [bh,avZ,q]
   obtain⟨H4,g⟩:=aK (N++[.box (x.aR.row.map .f) 0]:aj);have B:(bh (h.l.take j)).length≤30:=by
    have O:(bh (h.l.take j)).length≤(h.l.take j).length:=by simp only [bh,at9];exact avf _ _
    have h2:(h.l.take j).length≤h.l.length:=by rw [aur];omega
    omega
   have c_:LR H4 c 7 (ak (bh (h.l.take j))):=by rw [g];exact W.push _
   obtain⟨c2,H5,m,d9,U,Z⟩:=c_.app (aS _) (by decide) (row:=x.aR.row) rfl (bytes:=88) (nj (by simp;omega) (by decide)) (b1:=N.length) (fl1:=0) (by rw [g];simp);have L:Kp H H4:=by
    rw [g];exact⟨by have:=d.1;simp;omega,fun l b=>by rw [anc (auE b d.1)];exact d.2 l b⟩
   have d_:Kp H H5:=⟨aum L.1 U.1,fun l b=>by
    have hy:=asZ b;rw [U.2 l H[l] (by rw [L.2 l b,hy]) (fun e=>by have:=z l e;omega),hy]⟩
   simp only [av.row]at g m;simp at g m;have S:∀ t:T,t.g 1=.c (.f (sl g0 (ak l0)))→t.g 9=.c (.f (sl h.lg (aQ h.l)))→t.g 5=.c c→t.g 7=.c (.ptr E.length 0 0)→t.g 10=vi h.l.length→t.g 11=vi j →
     WP tab 41 ab [.code A8,.inBlock 1,.code (rZ 11 28),.inLoop (iu 0 11 10 12 28 A7),.inBlock 0,.code A9] ⟨t,[],N⟩ Q:=by
    intro t F J I g7 b9 b_;refine an (.inl rfl) ?_;simp [I,g7,nr,←g,m];refine az (next _ _ ⟨by simp [F],by simp [J],d_,c2,by simp,?_,fun i hi=>?_⟩ (by simp [b_]) (by simp [b9]))
    ·rw [a_];have e:ak (bh (h.l.take j)++[x.aR])=ak (bh (h.l.take j))++[x.aR.row]:=by simp [ak]
     rw [e];exact d9
    ·rcases Z with h | h
     ·rw [h]at hi;exact z i hi
     ·rw [h]at hi;cases hi;exact L.1
   by_cases O:x.state=1
   ·simp [O];exact aq (by simp) (S _ (by simp [F]) (by simp [J]) (by simp [I]) (by simp) (by simp [hb]) (by simp [X]))
   ·have h2:x.state=2:=by simp [gQ]at q;omega
    simp [O,h2,nr];exact aq (by simp) (S _ (by simp [F]) (by simp [J]) (by simp [I]) (by simp) (by simp [hb]) (by simp [X]))
 ·rintro t E ⟨F,J,A,c,I,hL,z⟩ X hb;rw [at8 (at3 _)]at hL;have B:(bh h.l).length≤30:=by
   have O:(bh h.l).length≤h.l.length:=by simp only [bh,at9];exact avf _ _
   omega
  obtain⟨r,H2,he,u,rfl,d,hO,Y⟩:=Fe hL B (g0:=g0) (l0:=l0) (h0:=h0) (hsm:=fun s a7=>by
   simp only [bh,auq,List.mem_filter]at a7;obtain⟨y,⟨hy,_⟩,rfl⟩:=a7;exact hs y hy)
  have he:=he.eq;apply ai;simp [F,I,he];exact aC (hQ _ _ (.c u) rfl (by simp [Km.results,bj]) ⟨u,rfl,⟨aum A.1 d.1,fun l b=>by rw [d.2 l (auE b A.1)];exact A.2 l b⟩,hO,fun i hi=>aum A.1 (Y i hi)⟩)
def sσ:Dm:={ pdq:=0,ins:=134,heap:=0,as8:=0,brk:=0,piv:=0,rev:=0,part:=0,peq:=0,pins:=0,as0:=0,med:=0,ord:=0,npt:=0,nxt:=0,len:=0,aox:=75,qE:=135,rot:=207,swr:=281 }
theorem ai6{H:aj}(v:V):∃ r H',Ev tab (.fn 134) [v,vi 0,vi 0,.c (.f (.fn 43 []))] H r H'∧(r=.t []∧H'=H):=by
 refine cI rfl rfl fun Q b=>?_;apply ai;simp [aW (n:=(1:Int))];refine aF (iK ?_);apply al;apply ai;simp;refine aD (by simp) ?_;refine bJ (k':=[]) rfl ?_;exact cJ (b _ _ _ rfl rfl ⟨rfl,rfl⟩)
theorem adD{H:aj}(v:V):∃ r H',Ev tab (.fn 75) [v,vi 0,.c (.f (.fn 43 []))] H r H'∧(r=.t []∧H'=H):=by
 obtain⟨r,H',b,rfl,rfl⟩:=ai6 (H:=H) v;have b:=b.eq;refine cI rfl rfl fun Q d=>?_;apply ai;simp;apply ai;simp;apply al;refine aF (iK ?_);apply al;apply ai;simp;refine aD (by simp) ?_;refine bJ (k':=[.code yj]) rfl ?_;apply ai;simp [b];refine aF (iK ?_);apply al;apply ai;simp;refine aD (by simp) ?_;refine bJ (k':=[]) rfl ?_;exact cJ (d _ _ _ rfl rfl ⟨rfl,rfl⟩)
theorem Dg{o:List av}{n:Nat}(g:o.length=n)(h:Up EF 0 n (ak o)):o.Pairwise i':=by
 rw [auQ];intro i j hi d b;have:=h i j o[i].row o[j].row (by omega) b (by omega) (cA hi) (cA d);rw [Ax]at this;exact this
theorem GP{H:aj}{c:C}{o:List av}(A:LR H c 7 (ak o))(L:o.length<40):∃ r H',Ev tab (.fn 42) [.c c,.c (.f (.fn 43 []))] H r H' ∧
  (r=.t []∧Kb H H' c∧∃ o',LR H' c 7 (ak o')∧o'.Perm o∧o'.Pairwise i'):=by
 have d:=A.len;simp at d;rcases A with⟨J,I⟩ | ⟨y,B,ep,rfl,F⟩
 ·have z:o=[]:=by simpa [ak]using J
  subst z;obtain⟨r,H',g,rfl,rfl⟩:=adD (H:=H) (.c c);have g:=g.eq;refine cI (C:=fun r j=>r=.t []∧Kb H' j c∧∃ o',LR j c 7 (ak o')∧o'.Perm []∧o'.Pairwise i') aa6 rfl fun Q x=>?_;refine an (.inl rfl) ?_;simp at d;simp [d,g];exact cJ (x _ _ (.t []) rfl rfl ⟨rfl,Kb.refl _ _,[],.inl ⟨rfl,I⟩,.refl _,.nil⟩)
 ·have l:(ak o).length=o.length:=by simp
  obtain⟨r,H',g,rfl,K,l',v,M,N⟩:=aks (σ:=sσ) (tab:=tab) (sz:=7) (b:=B) (ep:=ep) (H:=H) (rows:=ak o) (n:=o.length) amY amW am0 amX amZ abC Pj l L F (aS o) (fun r E=>by
   simp only [ak,auq]at E;obtain⟨s,_,rfl⟩:=E;exact⟨s,rfl⟩)
  have g:=g.eq;obtain⟨o',rfl,u⟩:=acP M o rfl;have q:o'.length=o.length:=u.length_eq;rw [l]at d ⊢;refine cI (C:=fun r j=>r=.t []∧Kb H j (.sl B 0 o.length 0 ep 7)∧∃ o',LR j (.sl B 0 o.length 0 ep 7) 7 (ak o')∧o'.Perm o∧o'.Pairwise i') aa6 rfl fun Q x=>?_;refine an (.inl rfl) ?_;have m:Ev tab (.fn 75) [.c (.sl B 0 o.length 0 ep 7),vi o.length,.c (.f (.fn 43 []))] H=E2 (.t []) H':=g;simp [d,m];refine cJ (x _ ⟨_,[],H'⟩ (.t []) rfl rfl ⟨rfl,Kb.aqZ K,o',.inr ⟨?_,B,ep,?_,v⟩,u,Dg q N⟩)
  ·intro e;have h0:o'.length=0:=by have:=congrArg List.length e;simpa [ak]using this
   exact y (List.length_eq_zero_iff.1 (by rw [l];omega))
  ·have:(ak o').length=o.length:=by simp [q]
   rw [this]
def jc:dj:=⟨0,0,.nil,[]⟩
def Chg(F:Nat)(d:List FC)(h:dj)(e:Int)(b:dj):Prop:=
 ∀(H:aj) (p:Nat) (c:C),H[p]?=aa (.box [.f (fi h.clock),.f (fi h.bP),c] 0)→LR H c 10 (aQ h.l)→bE c≠aa p →
  ∃ r H',Ev tab (.fn F) (.c (.ptr p 0 0)::d.map fun x=>.c (.f x)) H r H'∧r=vi e∧H.length≤H'.length∧(∀ i y,H[i]?=aa y→i≠p→bE c≠aa i→H'[i]?=aa y) ∧
   (e=0→H'[p]?=aa (.box [.f (fi b.clock),.f (fi b.bP),c] 0)∧LR H' c 10 (aQ b.l))
theorem yz(h:dj)(hl:h.l.length≤30)(hs:∀ x ∈ h.l,Fix x.aR){F:Nat}{d:List FC}{e:Int}{b:dj}(hF:Chg F d h e b) :
  ∃(g:Tg) (u:dj),u=(if e=0 then { b with lg:=g }else jc)∧bo tab 50 [.a (h.row.map .f),.c (.f (.fn F d)),vi 0]=Eq (.t [.a (u.row.map .f),vi e]):=by
 obtain⟨r,⟨g,u,O,rfl⟩,hp⟩:∃ r,(∃(g:Tg) (u:dj),u=(if e=0 then { b with lg:=g }else jc)∧r=.t [.a (u.row.map .f),vi e])∧bo tab 50 [.a (h.row.map .f),.c (.f (.fn F d)),vi 0] r:=by
  refine dG rfl rfl fun Q W=>?_;apply ai;simp [dj.row];obtain⟨B,j⟩:=aK ([.box [.f (fi h.clock),.f (fi h.bP),.f (sl h.lg (aQ h.l))] 0,.box [.f (fi 0),.f (fi 0),.f .aw] 0]:aj);obtain⟨r,v,H,c,rfl,X,U,hc⟩:=yE h hl hs B;have H:=H.eq;simp [dj.row]at H;have z0:B[0]?=aa (.box [.f (fi h.clock),.f (fi h.bP),.f (sl h.lg (aQ h.l))] 0):=by rw [j];rfl
  have z1:B[1]?=aa (.box [.f (fi 0),.f (fi 0),.f .aw] 0):=by rw [j];rfl
  have zl:B.length=2:=by rw [j];rfl
  have Y:v[1]?=aa (.box [.f (fi 0),.f (fi 0),.f .aw] 0):=by rw [X.2 1 (by omega)];exact z1
  rw [←j];apply ai;simp [z0,H];obtain⟨E,l⟩:=aK (v++[.box [.f (fi h.clock),.f (fi h.bP),c] 0]:aj);have m1:E[1]?=aa (.box [.f (fi 0),.f (fi 0),.f .aw] 0):=by rw [l,anc (au Y)];exact Y
  have m2:E[v.length]?=aa (.box [.f (fi h.clock),.f (fi h.bP),c] 0):=by rw [l];simp
  have J:LR E c 10 (aQ h.l):=by rw [l];exact U.push _
  have L:bE c≠aa v.length:=fun e=>by have:=U.lt e;omega
  have Z:=X.1;rw [←l];obtain⟨r,S,q,rfl,N,s,A⟩:=hF E v.length c m2 J L;have q:=q.eq;have z:bE c≠aa 1:=fun e=>by have:=hc 1 e;omega
  have I:S[1]?=aa (.box [.f (fi 0),.f (fi 0),.f .aw] 0):=s 1 _ m1 (by omega) z;apply al;apply ai;simp [bZ,q];apply al;refine an (.inl rfl) ?_;simp;by_cases m:e=0
  case neg=>
   refine aq (by simp [m]) ?_;apply ai;simp [I];refine aC (W _ _ (.t [.a (jc.row.map .f),vi e]) ⟨.nil,jc,by simp [m],rfl⟩ ?_);simp [Km.results,bj,au I,iZ,cD,deep,jc,dj.row,sl,Tg.fc,aQ]
  subst m;obtain⟨q1,K⟩:=A rfl;obtain⟨g,hg⟩:=K.exU (bQ _);refine bw (by simp) ?_;apply ai;simp [I,q1];have M:=hg (S.set 1 (.box [.f (fi b.clock),.f (fi b.bP),c] 0)) 63 (fun i y hy hi=>by
   have:(1:Nat)≠i:=by rintro rfl;exact z hi
   rw [aft this];exact hy)
  refine aC (W _ _ (.t [.a ((⟨b.clock,b.bP,g,b.l⟩:dj).row.map .f),vi 0]) ⟨g,⟨b.clock,b.bP,g,b.l⟩,by simp,rfl⟩ ?_);simp [Km.results,bj,au I,iZ,cD,deep,dj.row,M]
 exact⟨g,u,O,hp.eq⟩
def gV(clk:Int)(x:bC):bC:=if x.state=1∧x.dl<clk then { x with state:=4 }else x
def eG(clk:Int)(j:Nat)(l:List bC):List bC:=(l.take j).map (gV clk)++l.drop j
theorem jN{clk:Int}{j:Nat}{l:List bC}:(eG clk j l).length=l.length:=by
 simp [eG];omega
theorem zA{clk:Int}{j:Nat}{l:List bC}(b:j<l.length):(eG clk j l)[j]?=aa l[j]:=by
 unfold eG;rw [List.getElem?_append_right (by simp;omega)];simp [show min j l.length=j by omega,b]
theorem tc{clk:Int}{j:Nat}{l:List bC}(b:j<l.length):eG clk (j+1) l=(eG clk j l).set j (gV clk l[j]):=by
 unfold eG;have d:((l.take j).map (gV clk)).length=j:=by simp;omega
 rw [List.set_append_right _ _ (by omega),d,Nat.sub_self,at7 b,List.take_succ_eq_append_getElem b];simp only [List.map_append,aug,aus,auL,auX,ave,List.set_cons_zero]
theorem Fc{clk:Int}{l:List bC}:eG clk l.length l=l.map (gV clk):=by simp [eG]
def lF(h:dj)(clk:Int):Int:=if cW h=ag∨clk<h.clock∨2251799813685248<clk then 1 else 0
theorem adN(h:dj)(hl:h.l.length≤30)(clk:Int):Chg 51 [.fp [fi h.clock,fi h.bP,sl h.lg (aQ h.l)] 0,.fp [fi clk] 0] h (lF h clk) ⟨clk,h.bP,.nil,h.l.map (gV clk)⟩:=by
 intro H p c hp hL Y;have hv:=kX h hl;simp [dj.row]at hv;have e1:∀ H:aj,aV H (aa 3) (.c (.f (.fp [fi h.clock,fi h.bP,sl h.lg (aQ h.l)] 0)))=aa (.a [.f (fi h.clock),.f (fi h.bP),.f (sl h.lg (aQ h.l))]):=fun _=>rfl;have e2:∀ H:aj,aV H ab (.c (.f (.fp [fi h.clock,fi h.bP,sl h.lg (aQ h.l)] 0)))=aa (vi h.clock):=fun _=>rfl;have O:∀ H:aj,aV H ab (.c (.f (.fp [fi clk] 0)))=aa (vi clk):=fun _=>rfl;refine cI (C:=fun r H'=>r=vi (lF h clk)∧H.length≤H'.length∧(∀ i y,H[i]?=aa y→i≠p→bE c≠aa i→H'[i]?=aa y) ∧
   (lF h clk=0→H'[p]?=aa (.box [.f (fi clk),.f (fi h.bP),c] 0)∧LR H' c 10 (aQ (h.l.map (gV clk))))) aqc rfl fun Q hQ=>?_
 have bad:lF h clk=1→∀ t:T,t.g 19=vb ae→WP tab 51 ab [.code Fl,.code Fo] ⟨t,[],H⟩ Q:=by
  intro he t g;refine aq (by simp [g]) (ai ?_);simp;exact aC (hQ _ _ (vi 1) rfl (by simp [Km.results,bj]) ⟨by rw [he],at3 _,fun i y hy _ _=>hy,fun e=>by rw [he]at e;cases e⟩)
 apply ai;simp;apply al;apply al;refine an (.inl rfl) ?_;simp [e1,hv];cases u:cW h
 case false=>
  simp;exact bad (by simp [lF,u]) _ (by simp)
 by_cases k1:clk<h.clock
 ·simp [e2,O,k1];exact bad (by simp [lF,k1]) _ (by simp)
 by_cases k2:2251799813685248<clk
 ·simp [e2,O,k1,k2];exact bad (by simp [lF,k2]) _ (by simp)
 simp [e2,O,k1,k2];have he:lF h clk=0:=by simp [lF,u,k1,k2]
 refine bw (by simp) ?_;obtain⟨H1,d⟩:=aK (H.set p (.box [.f (fi clk),.f (fi h.bP),c] 0):aj);have z1:H1[p]?=aa (.box [.f (fi clk),.f (fi h.bP),c] 0):=by rw [d];exact atY (au hp)
 have W:LR H1 c 10 (aQ h.l):=by rw [d];exact hL.set Y _
 have f_:H1.length=H.length:=by rw [d];simp
 have e_:∀ i y,H[i]?=aa y→i≠p→bE c≠aa i→H1[i]?=aa y:=fun i y hy hi _=>by rw [d,aft (Ne.symm hi)];exact hy
 apply ai;simp [O,hp];rw [←d];apply al;have b9:=W.len;simp at b9;apply ai;simp [z1,b9];refine bR h.l.length (fun j t m=>t.g 0=.c (.ptr p 0 0)∧t.g 2=.c (.f (.fp [fi clk] 0))∧m[p]?=aa (.box [.f (fi clk),.f (fi h.bP),c] 0)∧LR m c 10 (aQ (eG clk j h.l))∧H.length≤m.length∧(∀ i y,H[i]?=aa y→i≠p→bE c≠aa i→m[i]?=aa y)) (by omega) (by decide) (by decide) (by simp) (by simp)
  ⟨by simp,by simp,z1,by simpa [eG]using W,by omega,e_⟩ ?_ ?_
 ·rintro j t m S ⟨g0,l,z2,q,I,s⟩ ha hb next
  rcases q with⟨d_,_⟩ | ⟨h_,B,ep,rfl,u⟩
  ·have:(eG clk j h.l).length=0:=by have:=congrArg List.length d_;simpa [aQ]using this
   rw [jN]at this;omega
  obtain⟨x,hx⟩:=aK (h.l[j]);have b_:(aQ (eG clk j h.l)).length=h.l.length:=by simp [jN]
  have F:(aQ (eG clk j h.l))[j]?=aa x.row:=by rw [hx];simp [aQ,zA S]
  have a_:=u.at (show j<(aQ (eG clk j h.l)).length by omega);have J:=u.ldc (k:=2) (x:=fi x.state) (bQ _) F rfl;have Z:=u.ldc (k:=1) (x:=fi x.dl) (bQ _) F rfl;obtain⟨H4,v,U,a7,i6⟩:=u.stp (k:=2) (xs:=[fi 4]) (bQ _) F (by decide);have i4:bp x.row 2 [fi 4]=(bC.row { x with state:=4 }):=rfl;rw [i4,lS]at U;have c_:B≠p:=fun e=>Y (by rw [e];rfl);have d9:aV m ab (.c (.ptr p 2 0))=aa (.c (.sl B 0 h.l.length 0 ep 10)):=by simp [z2,aT,b_]
  simp only [b_]at *;refine aF ?_;apply ai;simp [ha];apply ai;simp [g0,d9,a_,-aA];have no:gV clk x=x→∀ b:T,b.g 0=.c (.ptr p 0 0)→b.g 2=.c (.f (.fp [fi clk] 0))→b.g 29=vi j→b.g 28=t.g 28→b.g 50=vb ag →
    WP tab 51 ab [.code uL,.inBlock 1,.code uM,.inLoop uK,.inBlock 0,.code uN] ⟨b,[],m⟩ Q:=by
   intro L b g0 l A z E;have K:eG clk (j+1) h.l=eG clk j h.l:=by
    rw [tc S,←hx,L];obtain⟨g_,a8⟩:=List.getElem?_eq_some_iff.1 (zA (clk:=clk) S);rw [←hx]at a8
    conv=>lhs;rw [←a8]
    exact avr g_
   refine aD (by simp [E]) (aO (az (next _ _ ⟨by simp [g0],by simp [l],z2,?_,I,s⟩ (by simp [A]) (by simp [z,hb]))));rw [K];exact .inr ⟨h_,B,ep,by simp [jN],u⟩
  have i5:x.state=1→x.dl<clk→∀ b:T,b.g 0=.c (.ptr p 0 0)→b.g 2=.c (.f (.fp [fi clk] 0))→b.g 29=vi j→b.g 28=t.g 28→b.g 6=.c (.ptr B (j*10) ep)→b.g 50=vb ae →
    WP tab 51 ab [.code uL,.inBlock 1,.code uM,.inLoop uK,.inBlock 0,.code uN] ⟨b,[],m⟩ Q:=by
   intro M N b g0 l A z g6 E;have L:gV clk x = { x with state:=4 }:=bg ⟨M,N⟩;have K:eG clk (j+1) h.l=(eG clk j h.l).set j { x with state:=4 }:=by rw [tc S,←hx,L]
   refine aq (by simp [E]) ?_;refine an (.inl rfl) ?_;simp only [aug,aus]at v;simp [g6,v,-bl];refine az (next _ _ ⟨by simp [g0],by simp [l],a7.get z2 (Ne.symm c_),?_,by omega,fun i y hy hi X=>a7.get (s i y hy hi X) (fun e=>X (by rw [e];rfl))⟩ (by simp [A]) (by simp [z,hb]));rw [K];refine .inr ⟨fun e=>?_,B,ep,by simp [jN],U⟩;have:=congrArg List.length e;simp [jN]at this;rw [this]at S;simp at S
  apply al;refine an (.inl rfl) ?_;by_cases M:x.state=1
  ·by_cases N:x.dl<clk
   ·simp [J,Z,M,N,l,O,-aA];exact i5 M N _ (by simp [g0]) (by simp [l]) (by simp [ha]) (by simp) (by simp) (by simp)
   ·simp [J,Z,M,N,l,O,-aA];exact no (aY fun e=>N e.2) _ (by simp [g0]) (by simp [l]) (by simp [ha]) (by simp) (by simp)
  ·simp [J,M,-aA];exact no (aY fun e=>M e.1) _ (by simp [g0]) (by simp [l]) (by simp [ha]) (by simp) (by simp)
 ·rintro t m ⟨g0,l,z2,q,I,s⟩ - -;apply ai;simp;rw [Fc]at q;exact aC (hQ _ _ (vi 0) rfl (by simp [Km.results,bj]) ⟨by rw [he],I,s,fun _=>⟨z2,q⟩⟩)
theorem akz(h:dj)(m:h.l.length≤30)(v:∀ x ∈ h.l,Fix x.aR)(clk:Int):∃(g:Tg) (j:dj),j=(if lF h clk=0 then⟨clk,h.bP,g,h.l.map (gV clk)⟩else jc) ∧
  bo tab 18 [.a (h.row.map .f),vi clk]=Eq (.t [.a (j.row.map .f),vi (lF h clk)]):=by
 obtain⟨g,j,l,d⟩:=yz h m v (adN h m clk);refine⟨g,j,l,bo.eq ?_⟩;refine bV rfl rfl fun Q u=>?_;simp [dj.row]at d;apply ai;simp [dj.row];obtain⟨s,b⟩:=aK (gD 64 (C.cl 51 [C.ptr 0 0 0,C.ptr 1 0 0]) [bz.box [C.f (fi h.clock),C.f (fi h.bP),C.f (sl h.lg (aQ h.l))] 0,bz.box [vi clk |> fun _=>C.f (fi clk)] 0,bz.box [C.f (fi 0),C.f (fi 0),C.f FC.aw] 0]:aj);have q:s[2]?=aa (.box [C.f (fi 0),C.f (fi 0),C.f FC.aw] 0):=by rw [b];rfl
 apply ai;simp [mL,iZ,cD,deep,d];simp at b;rw [←b];simp [q];refine aC (u _ _ ?_);simp [Km.results,bj,au q,iZ,cD,deep,dj.row]
def rr(id:Int)(l:List bC):Option Nat:=l.findIdx? fun x=>decide (x.id=id)
theorem nF{id:Int}{l:List bC}{i:Nat}(h:rr id l=aa i):∃ hi:i<l.length,l[i].id=id:=by
 unfold rr at h;rw [avk]at h;obtain⟨hi,b,_⟩:=h;exact⟨hi,by simpa using b⟩
theorem yK{id:Int}{l:List bC}(h:∀ q (b:q<l.length),l[q].id≠id):rr id l=ab:=by
 unfold rr;rw [List.findIdx?_eq_none_iff];intro x d;obtain⟨q,b,rfl⟩:=auI d;simp [h q b]
theorem aiS{id:Int}{l:List bC}{i:Nat}(hi:i<l.length)(b:l[i].id=id)(h:∀ q (g:q<l.length),q<i→l[q].id≠id):rr id l=aa i:=by
 unfold rr;rw [avk];exact⟨hi,by simpa using b,fun j d=>by simpa using h j (by omega) d⟩
def ei(h:dj)(id:Int):Int:=if cW h=ag then 1 else match rr id h.l with
 | none=>4
 | some i=>match h.l[i]? with
  | none=>4| some x=>if x.state=1 then 0 else 7
def adb(i:Nat)(b:Int)(l:List bC):List bC:=match l[i]? with
 | none=>l| some x=>l.set i { x with state:=b }
def gW(h:dj)(id b:Int):dj:=⟨h.clock,h.bP,.nil,match rr id h.l with
 | none=>h.l
 | some i=>adb i b h.l⟩
theorem yJ{h:dj}(u:cW h=ae){id:Int}{i:Nat}(b:∀ j (x:j<h.l.length),j<i→h.l[j].id<id)(m:∀ j (x:j<h.l.length),i≤j→id≤h.l[j].id):rr id h.l=if uj h.l i id then aa i else ab:=by
 have v:fK h.clock 0 h.l=ae:=by
  unfold cW at u;simp only [atI]at u;exact u.2
 have g:=(rY v).2;rw [auQ]at g;by_cases hi:i<h.l.length
 ·by_cases l:h.l[i].id=id
  ·have:uj h.l i id=ae:=by simp [uj,hi,l]
   rw [this,bg rfl];exact aiS hi l fun q d s=>by have:=b q d s;omega
  ·have:uj h.l i id=ag:=by simp [uj,hi,l]
   rw [this,aY (by simp)];refine yK fun q d=>?_;rcases avi q i with k | k | k
   ·have:=b q d k;omega
   ·subst k;exact l
   ·have:=g i q hi d k;have:=m i hi (at3 _);omega
 ·have:uj h.l i id=ag:=by simp [uj,List.getElem?_eq_none (by omega:h.l.length≤i)]
  rw [this,aY (by simp)];exact yK fun q d=>by have:=b q d (by omega);omega
theorem adR(h:dj)(hl:h.l.length≤30)(id l:Int):Chg 96 [.fp [fi h.clock,fi h.bP,sl h.lg (aQ h.l)] 0,.fp [fi id] 0,.fp [fi l] 0] h (ei h id) (gW h id l):=by
 intro H p c hp hL S;have hv:=kX h hl;simp [dj.row]at hv;have e1:∀ H:aj,aV H (aa 3) (.c (.f (.fp [fi h.clock,fi h.bP,sl h.lg (aQ h.l)] 0)))=aa (.a [.f (fi h.clock),.f (fi h.bP),.f (sl h.lg (aQ h.l))]):=fun _=>rfl;have e2:∀ H:aj,aV H ab (.c (.f (.fp [fi id] 0)))=aa (vi id):=fun _=>rfl;have e3:∀ H:aj,aV H ab (.c (.f (.fp [fi l] 0)))=aa (vi l):=fun _=>rfl;refine cI (C:=fun r H'=>r=vi (ei h id)∧H.length≤H'.length∧(∀ i y,H[i]?=aa y→i≠p→bE c≠aa i→H'[i]?=aa y) ∧
   (ei h id=0→H'[p]?=aa (.box [.f (fi (gW h id l).clock),.f (fi (gW h id l).bP),c] 0)∧LR H' c 10 (aQ (gW h id l).l))) aqe rfl fun Q hQ=>?_
 have A:ei h id≠0→∀(t:T) (k:List cZ) ,t.g 5=vi (ei h id)→WP tab 96 ab (.code .ret::k) ⟨t,[],H⟩ Q:=by
  intro j t k g;exact aC (hQ _ _ (vi (ei h id)) rfl (by simp [Km.results,bj,g]) ⟨rfl,at3 _,fun i y hy _ _=>hy,fun e=>absurd e j⟩)
 apply ai;simp;apply al;apply al;refine an (.inl rfl) ?_;simp [e1,hv];cases E:cW h
 case false=>
  refine aq (by simp) (ai ?_);have j:ei h id=1:=by simp [ei,E]
  simp;exact A (by rw [j];decide) _ _ (by rw [j];simp)
 refine bw (by simp) ?_;obtain⟨i,hi,X,W,m⟩:=F' h hl E id;have b:=yJ E X W;simp [dj.row]at m;apply ai;simp [e1,e2,m];apply al;refine aF ?_;apply al;refine an (.inl rfl) ?_;simp;cases hf:uj h.l i id
 case false=>
  rw [hf]at b;simp at b;have j:ei h id=4:=by simp [ei,E,b]
  refine aq (by simp) (ai ?_);simp;exact A (by rw [j];decide) _ _ (by rw [j];simp)
 rw [hf]at b;simp at b;have s:i<h.l.length:=(nF b).1;have q:=s;obtain⟨x,hx⟩:=aK (h.l[i]);have L:x.state=h.l[i].state:=by rw [hx]
 rcases hL with⟨U,_⟩ | ⟨a8,B,ep,rfl,v⟩
 ·have:h.l.length=0:=by have:=congrArg List.length U;simpa [aQ]using this
  omega
 have Z:(aQ h.l).length=h.l.length:=by simp
 have I:(aQ h.l)[i]?=aa x.row:=by rw [hx];exact dZ q
 have d:=v.at (show i<(aQ h.l).length by omega);have K:=v.ldc (k:=2) (x:=fi x.state) (bQ _) I rfl;obtain⟨H4,u,F,J,a7⟩:=v.stp (k:=2) (xs:=[fi l]) (bQ _) I (by simp);simp only [aug,aus]at u;have Y:bp x.row 2 [fi l]=(bC.row { x with state:=l }):=rfl;rw [Y,lS]at F;have N:B≠p:=fun e=>S (by rw [e];rfl);have z:aV H ab (.c (.ptr p 2 0))=aa (.c (.sl B 0 h.l.length 0 ep 10)):=by simp [hp,aT]
 rw [Z]at d;refine aD (by simp) ?_;apply ai;by_cases M:x.state=1
 case neg=>
  have j:ei h id=7:=by simp [ei,E,b,s,←L,M]
  simp [z,d,K,M,-aA];refine aq (by simp) (ai ?_);simp;exact A (by rw [j];decide) _ _ (by rw [j];simp)
 have j:ei h id=0:=by simp [ei,E,b,s,←L,M]
 simp [z,d,K,M,-aA];refine aD (by simp) (aO (az ?_));apply ai;simp [z,d,e3,u,-aA,-bl];apply ai;simp;refine aC (hQ _ _ (vi 0) rfl (by simp [Km.results,bj]) ⟨by rw [j],by show H.length≤H4.length;omega,fun i y hy hi O=>J.get hy (fun e=>O (by rw [e];rfl)),fun _=>⟨J.get hp (Ne.symm N),?_⟩⟩);have h1:(gW h id l).l=h.l.set i { x with state:=l }:=by simp [gW,b,adb,s,hx]
 rw [h1];refine .inr ⟨fun e=>?_,B,ep,by simp,F⟩;have:=congrArg List.length e;simp at this;rw [this]at q;simp at q
theorem GZ(h:dj)(q:h.l.length≤30)(y:∀ x ∈ h.l,Fix x.aR)(id l:Int):∃(g:Tg) (j:dj),j=(if ei h id=0 then { gW h id l with lg:=g }else jc) ∧
  bo tab 52 [.a (h.row.map .f),vi id,vi l]=Eq (.t [.a (j.row.map .f),vi (ei h id)]):=by
 obtain⟨g,j,m,d⟩:=yz h q y (adR h q id l);refine⟨g,j,m,bo.eq ?_⟩;refine bV rfl rfl fun Q v=>?_;simp [dj.row]at d;apply ai;simp [dj.row];obtain⟨u,b⟩:=aK (gD 64 (C.cl 96 [C.ptr 0 0 0,C.ptr 1 0 0,C.ptr 2 0 0]) [bz.box [C.f (fi h.clock),C.f (fi h.bP),C.f (sl h.lg (aQ h.l))] 0,bz.box [C.f (fi id)] 0,bz.box [C.f (fi l)] 0,bz.box [C.f (fi 0),C.f (fi 0),C.f FC.aw] 0]:aj);have s:u[3]?=aa (.box [C.f (fi 0),C.f (fi 0),C.f FC.aw] 0):=by rw [b];rfl
 apply ai;simp [mL,iZ,cD,deep,d];rw [←b];simp [s];refine aC (v _ _ ?_);simp [Km.results,bj,au s,iZ,cD,deep,dj.row]
theorem DU(h:dj)(m:h.l.length≤30)(q:∀ x ∈ h.l,Fix x.aR)(id:Int):∃(g:Tg) (d:dj),d=(if ei h id=0 then { gW h id 2 with lg:=g }else jc) ∧
  bo tab 33 [.a (h.row.map .f),vi id]=Eq (.t [.a (d.row.map .f),vi (ei h id)]):=by
 obtain⟨g,d,j,b⟩:=GZ h m q id 2;refine⟨g,d,j,bo.eq ?_⟩;refine bV rfl rfl fun Q l=>?_;simp [dj.row]at b;apply ai;simp [dj.row];apply ai;simp [b];refine aC (l _ _ ?_);simp [Km.results,bj,iZ,cD,deep,dj.row]
theorem EV(h:dj)(m:h.l.length≤30)(q:∀ x ∈ h.l,Fix x.aR)(id:Int):∃(g:Tg) (d:dj),d=(if ei h id=0 then { gW h id 3 with lg:=g }else jc) ∧
  bo tab 22 [.a (h.row.map .f),vi id]=Eq (.t [.a (d.row.map .f),vi (ei h id)]):=by
 obtain⟨g,d,j,b⟩:=GZ h m q id 3;refine⟨g,d,j,bo.eq ?_⟩;refine bV rfl rfl fun Q l=>?_;simp [dj.row]at b;apply ai;simp [dj.row];apply ai;simp [b];refine aC (l _ _ ?_);simp [Km.results,bj,iZ,cD,deep,dj.row]
def okX(b:Int)(x:bC):Prop:=1≤x.state∧x.state≤4∧0≤x.dl∧x.dl≤2251799813685248∧¬ (x.state=1∧x.dl<b)
theorem PY{b d:Int}{x:bC}:eh b d x=ae↔okX b x∧d<x.id:=by
 simp only [eh,iL,okX,atI,decide_eq_true_eq,Bool.not_eq_true',Bool.and_eq_false_iff,decide_eq_false_iff_not];omega
theorem vM{b:Int}:∀ {last:Int} {l:List bC},fK b last l=ae↔(∀ x ∈ l,okX b x∧last<x.id)∧l.Pairwise fun x y=>x.id<y.id
 | _,[]=>by simp [fK]
 | last,x::r=>by
  rw [fK,atI,PY,vM,auN];constructor
  ·rintro⟨⟨j,m⟩,g,q⟩;refine⟨fun y d=>?_,fun y d=>(g y d).2,q⟩;rcases auc.1 d with rfl | d
   ·exact⟨j,m⟩
   ·exact⟨(g y d).1,by have:=(g y d).2;omega⟩
  ·rintro⟨j,m,g⟩;exact⟨j x at4,fun y d=>⟨(j y (at5 _ d)).1,m y d⟩,g⟩
def oy(m r t z n p mi le:Int):av:=⟨m,r,t,z,⟨.fs,[⟨.fs,[⟨.fs,[⟨.nil,[],0,n,.fs,[p]⟩]⟩],mi⟩],le,.nil,[]⟩⟩
structure asw(m r t z n p mi le:Int):Prop where
 m0:1≤m
 m1:m≤22
 r0:0≤r
 r1:r≤2
 t0:0≤t
 t1:t≤2
 z0:1≤z
 z1:z≤12
 n0:1≤n
 n1:n≤6
 p0:0≤p
 p1:p<n
 i0:∃ k:Nat,k<60∧mi=20*k
 l0:10≤le
 l1:le≤300
def jd(s:av):Prop:=∃ m r t z n p mi le,s=oy m r t z n p mi le∧asw m r t z n p mi le
structure uQ(h:dj):Prop where
 v:cW h=ae
 c0:100≤h.clock
 c1:h.clock≤100000
 d:h.bP=5
 f:∀ x ∈ h.l,(1≤x.id∧x.id≤8∨x.id=100)∧jd x.aR
theorem eH{h:dj}:cW h=ae↔iL h.clock=ae∧iL h.bP=ae∧(∀ x ∈ h.l,okX h.clock x∧0<x.id)∧h.l.Pairwise fun x y=>x.id<y.id:=by
 rw [cW,atI,atI,vM,and_assoc]
theorem adV:∀ {l:List Int} {lo hi:Int},l.Pairwise (· < ·)→(∀ x ∈ l,lo≤x∧x≤hi)→lo≤hi+1→(l.length:Int)≤hi+1-lo
 | [],lo,hi,_,_,h=>by simp;omega
 | x::r,lo,hi,j,d,h=>by
  have b:=auN.1 j;have m:=d x at4;have:=adV (lo:=x+1) (hi:=hi) b.2 (fun y g=>⟨by have:=b.1 y g;omega,(d y (at5 _ g)).2⟩) (by omega);simp only [List.length_cons];omega
theorem uQ.len{h:dj}(k:uQ h):h.l.length≤9:=by
 have d:=(eH.1 k.v).2.2.2;have:=adV (l:=h.l.map fun x=>if x.id=100 then 9 else x.id) (lo:=1) (hi:=9) (by
  rw [avQ];refine List.Pairwise.imp_of_mem (fun {x y} b hy g=>?_) d;have h1:=(k.f x b).1;have h2:=(k.f y hy).1;split<;>split<;>omega) (fun y hy=>by
  obtain⟨x,b,rfl⟩:=auq.1 hy;have h1:=(k.f x b).1;split<;>omega) (by omega)
 simp at this;omega
theorem anX{n:Int}(h0:0≤n)(b:n≤2251799813685248):iL n=ae:=by simp [iL,h0,b]
theorem akA{h:dj}(k:uQ h){c:Int}(h0:h.clock≤c)(l:c≤100000)(g:Tg):uQ ⟨c,h.bP,g,h.l.map (gV c)⟩:=by
 obtain⟨u,m,q,s⟩:=eH.1 k.v;have k0:=k.c0;have id:∀ x:bC,(gV c x).id=x.id∧(gV c x).aR=x.aR:=fun x=>by unfold gV;split<;>exact⟨rfl,rfl⟩
 refine⟨eH.2 ⟨anX (by show 0≤c;omega) (by show c≤_;omega),m,fun y j=>?_,?_⟩,by show 100≤c;omega,l,k.d,fun y j=>?_⟩
 ·obtain⟨x,d,rfl⟩:=auq.1 j;obtain⟨a,b⟩:=q x d;refine⟨?_,by rw [(id x).1];exact b⟩;unfold okX at *;unfold gV;split
  ·rename_i e;simp only;omega
  ·rename_i e;refine⟨a.1,a.2.1,a.2.2.1,a.2.2.2.1,e⟩
 ·show(h.l.map (gV c)).Pairwise _;rw [avQ];exact List.Pairwise.imp (fun {x y} e=>by rw [(id x).1,(id y).1];exact e) s
 ·obtain⟨x,d,rfl⟩:=auq.1 j;rw [(id x).1,(id x).2];exact k.f x d
theorem akB{h:dj}(k:uQ h){id b:Int}(B:b=2∨b=3)(g:Tg):uQ { gW h id b with lg:=g }:=by
 obtain⟨u,v,q,z⟩:=eH.1 k.v;unfold gW;cases A:rr id h.l with
 | none=>exact⟨eH.2 ⟨u,v,q,z⟩,k.c0,k.c1,k.d,k.f⟩
 | some i=>
  obtain⟨hi,-⟩:=nF A;simp only [adb,asZ hi];have l:∀ y ∈ h.l.set i { h.l[i]with state:=b },∃ x ∈ h.l,y=x∨y = { x with state:=b }:=fun y j=>by
   rcases List.mem_or_eq_of_mem_set j with h | rfl
   ·exact⟨y,h,.inl rfl⟩
   ·exact⟨h.l[i],at2 hi,.inr rfl⟩
  have d:(h.l.set i { h.l[i]with state:=b }).map bC.id=h.l.map bC.id:=by
   rw [List.map_set];have:(bC.id { h.l[i]with state:=b })=(h.l.map bC.id)[i]'(by simpa using hi):=by simp
   rw [this,avr]
  refine⟨eH.2 ⟨u,v,fun y j=>?_,?_⟩,k.c0,k.c1,k.d,fun y j=>?_⟩
  ·obtain⟨x,m,rfl | rfl⟩:=l y j
   ·exact q _ m
   ·have:=q x m;unfold okX at *;simp only;omega
  ·have s:(h.l.map bC.id).Pairwise (· < ·):=by rw [avQ];exact z
   rw [←d,avQ]at s;exact s
  ·obtain⟨x,m,e⟩:=l y j;have:=k.f x m;rcases e with rfl | rfl<;>exact this
theorem anM{h:dj}(k:uQ h){x:bC}(E:okX h.clock x)(h0:0<x.id)(v:(1≤x.id∧x.id≤8∨x.id=100)∧jd x.aR){i:Nat}(u:∀ j (l:j<h.l.length),j<i→h.l[j].id<x.id)(s:∀ j (l:j<h.l.length),i≤j→x.id<h.l[j].id)(g:Tg) :
  uQ ⟨h.clock,h.bP,g,h.l.take i++x::h.l.drop i⟩:=by
 obtain⟨H,I,J,A⟩:=eH.1 k.v;have m:∀ y ∈ h.l.take i++x::h.l.drop i,y=x∨y ∈ h.l:=fun y d=>by
  rcases auh.1 d with d | d
  ·exact .inr (List.mem_of_mem_take d)
  ·rcases auc.1 d with e | d
   ·exact .inl e
   ·exact .inr (au0 d)
 have F:∀ y ∈ h.l.take i,y.id<x.id:=fun y d=>by
  obtain⟨j,l,rfl⟩:=auI d;rw [aur]at l;rw [List.getElem_take];exact u j (by omega) (by omega)
 have z:∀ y ∈ h.l.drop i,x.id<y.id:=fun y d=>by
  obtain⟨j,l,rfl⟩:=auI d;rw [List.length_drop]at l;rw [List.getElem_drop];exact s (i+j) (by omega) (by omega)
 refine⟨eH.2 ⟨H,I,fun y d=>?_,?_⟩,k.c0,k.c1,k.d,fun y d=>?_⟩
 ·rcases m y d with e | d
  ·rw [e];exact⟨E,h0⟩
  ·exact J y d
 ·show(h.l.take i++x::h.l.drop i).Pairwise _;refine List.pairwise_append.2 ⟨A.sublist (List.take_sublist _ _),auN.2 ⟨z,A.sublist (List.drop_sublist _ _)⟩,fun a B b q=>?_⟩;have:=F a B;rcases auc.1 q with e | q
  ·rw [e];exact this
  ·have:=z b q;omega
 ·rcases m y d with e | d
  ·rw [e];exact v
  ·exact k.f y d
abbrev u64(n:Int):V:=.c (.f (.int .u64 n))
theorem jo{n:Int}(b:0≤n)(d:n≤18446744073709551615):IntKind.wrap .u64 n=n:=by
 simp only [IntKind.wrap,IntKind.bits,IntKind.signed];simp;omega
theorem adT{a b:Int}(h:0≤a)(d:0<b):dp .rem (u64 a) (u64 b)=aa (u64 (a % b)):=by
 rw [iy (by omega),avn h]
theorem ary{a b:Int}(h:0≤a)(g:0<b)(d:a≤18446744073709551615):dp .quo (u64 a) (u64 b)=aa (u64 (a / b)):=by
 rw [uc (by omega),avT h,jo (avL h (by omega)) (Int.le_trans (avH _ h) d)]
theorem qe{a:Int}(h0:0≤a)(d:a≤9223372036854775807):bo tab 319 [vi a]=Eq (u64 a):=bo.eq (by
 refine bV rfl rfl fun Q b=>?_;apply ai;simp;refine al (ai ?_);simp;refine aD (by simp;omega) (aO ?_);apply ai;simp [jo (n:=a) h0 (by omega)];refine aC (b _ _ ?_);simp)
theorem abT{x y:Nat}(h:0<y):av3 y (x % y)=av3 x y:=by rw [Nat.gcd_comm x y,Nat.gcd_rec y x,Nat.gcd_comm]
theorem abS{a b:Nat}(v:(a:Int)≤4611686018427387904)(z:(b:Int)≤4611686018427387904):bo tab 257 [vi a,vi b]=Eq (vi (av3 a b:Nat)):=bo.eq (by
 have F:=qe (a:=a) (by omega) (by omega);have H:=qe (a:=b) (by omega) (by omega);refine bV rfl rfl fun Q A=>?_;apply ai;simp;apply ai;simp [F,H];refine al (aF ?_);refine cH (fun m s=>∃(x y:Nat) (t:T),s=⟨t,[],[]⟩∧m=y∧(x:Int)≤4611686018427387904∧(y:Int)≤4611686018427387904∧t.g 5=u64 x∧t.g 6=u64 y∧av3 x y=av3 a b) b ⟨a,b,_,rfl,rfl,v,z,by simp,by simp,rfl⟩ ?_;rintro m s ⟨x,y,t,rfl,rfl,I,J,d,l,q⟩ E;refine al (ai ?_);simp [l];by_cases h0:m=0
 ·subst h0;refine aD (by simp) (bJ rfl ?_);have j:x=av3 a b:=by rw [←q];simp
  have B:¬ ((9223372036854775807:Int)<x):=by omega
  refine al (ai ?_);simp [d,B];refine bw (by simp) ?_;apply ai;simp [d,aW (n:=(x:Int))];refine aC (A _ _ ?_);simp [j]
 ·have u:=adT (a:=x) (b:=m) (by omega) (by omega);rw [show(x:Int) % (m:Int)=((x % m:Nat):Int) from(Int.natCast_emod x m).symm]at u;have g:x % m<m:=Nat.mod_lt _ (by omega);refine aq (by simp [h0]) (aO ?_);refine aF (an (.inl rfl) ?_);simp [d,l,u];refine az (E (x % m) _ g ⟨m,x % m,_,rfl,rfl,by omega,by omega,by simp,by simp,by rw [abT (by omega)];exact q⟩))
theorem abg{x:Int}(h0:0≤x)(g:x≤4294967295):dp .and (u64 x) (u64 4294967295)=aa (u64 x):=by
 obtain⟨n,rfl⟩:∃ n:Nat,x=n:=⟨x.toNat,by omega⟩
 have e:(BitVec.ofInt 64 (n:Int) &&& BitVec.ofInt 64 4294967295).toNat=n:=by
  rw [BitVec.toNat_and];have b:(BitVec.ofInt 64 (n:Int)).toNat=n:=by simp [BitVec.toNat_ofInt];omega
  have d:(BitVec.ofInt 64 4294967295).toNat=2 ^ 32-1:=by decide
  rw [b,d,Nat.and_two_pow_sub_one_eq_mod,Nat.mod_eq_of_lt (by omega)]
 have key:IntKind.wrap .u64 ((BitVec.ofInt 64 (n:Int) &&& BitVec.ofInt 64 4294967295).toNat:Int)=n:=by rw [e];exact jo (by omega) (by omega)
 exact congrArg (fun k:Int=>aa (u64 k)) key
theorem GJ{x:Int}(_:0≤x):dp .shr (u64 x) (u64 32)=aa (u64 (x / 4294967296)):=by
 simp only [dp];rw [aY (by decide),show min (Int.toNat 32) IntKind.u64.bits=32 from rfl,Int.fdiv_eq_ediv_of_nonneg _ (by decide)];rfl
theorem wa{x y:Int}(q:0≤x)(K:x≤2147483648)(g:0≤y)(L:y≤2147483648):bo tab 320 [u64 x,u64 y]=Eq (.t [u64 0,u64 (x*y)]):=bo.eq (by
 have d:0≤x*y:=avh q g;have F:x*y≤2147483648*2147483648:=Int.mul_le_mul K L g (by decide);have j:x*y / 4294967296≤4294967295:=by omega
 have b:0≤x*y / 4294967296:=by omega
 have a1:=abg q (show x≤4294967295 by omega);have A:=abg g (show y≤4294967295 by omega);have s:=GJ q;have u:=GJ g;have I:x / 4294967296=0:=by omega
 have J:y / 4294967296=0:=by omega
 rw [I]at s;rw [J]at u;have H:=GJ d;have B:=abg b j;have l:=GJ b;have sz:x*y / 4294967296 / 4294967296=0:=by omega
 rw [sz]at l;have v:IntKind.wrap .u64 (x*y)=x*y:=jo d (by omega);have z:IntKind.wrap .u64 (x*y / 4294967296)=x*y / 4294967296:=jo b (by omega);have m:IntKind.wrap .u64 0=0:=by decide
 refine bV rfl rfl fun Q E=>?_;apply ai;simp;apply ai;simp [a1];apply ai;simp [s];apply ai;simp [A];apply ai;simp [u];apply ai;simp [v];apply ai;simp [H,m,z];apply ai;simp [B];apply ai;simp [l];apply ai;simp [m,z];apply ai;simp [m,l];apply ai;simp [v];refine aC (E _ _ ?_);simp)
theorem abF{x n:Int}(j:0≤x)(u:x≤9223372036854775807)(g:0<n)(s:n≤9223372036854775807):bo tab 322 [u64 0,u64 x,u64 n]=Eq (.t [u64 (x / n),u64 (x % n)]):=bo.eq (by
 have b:¬ (n=0):=by omega
 have d:¬ (n≤0):=by omega
 have l:=ary j g (by omega);have m:=adT j g;refine bV rfl rfl fun Q q=>?_;apply ai;simp;refine al (ai ?_);simp;refine bw (by simp [b]) ?_;refine al (ai ?_);simp;refine bw (by simp [d]) ?_;refine al (ai ?_);simp;refine aq (by simp) ?_;apply ai;simp [l,m];refine aC (q _ _ ?_);simp)
theorem nh{a b:Int}(h:0≤a)(g:0<b)(d:a≤9223372036854775807):dp .quo (vi a) (vi b)=aa (vi (a / b)):=by
 rw [uc (by omega),avT h,wrap64 (Int.le_trans (by omega) (avL h (by omega))) (Int.le_trans (avH _ h) d)]
theorem wH{a b:Int}(h:0≤a)(d:0<b):dp .rem (vi a) (vi b)=aa (vi (a % b)):=by
 rw [iy (by omega),avn h]
theorem aog{a b:Int}(h:a≤0)(m:0<b)(l:-9223372036854775807≤a):dp .quo (vi a) (vi b)=aa (vi (-((-a) / b))):=by
 have g:(-a) / b≤-a:=avH _ (by omega);have j:0≤(-a) / b:=avL (by omega) (by omega);have d:a.tdiv b = -((-a) / b):=by
  have:a = -(-a):=by omega
  rw [this,Int.neg_tdiv,avT (by omega)];simp
 rw [uc (by omega),d,aW]
theorem aoh{a b:Int}(h:a≤0)(g:0<b):dp .rem (vi a) (vi b)=aa (vi (-((-a) % b))):=by
 have d:a.tmod b = -((-a) % b):=by
  have:a = -(-a):=by omega
  rw [this,Int.neg_tmod,avn (by omega)];simp
 rw [iy (by omega),d]
theorem sN(a b:Int)(B:1≤b)(A:-4611686018427387904≤a)(g:a≤4611686018427387904):bo tab 173 [vi a,vi b]=Eq (.t [vi (a / b),vi 0]):=bo.eq (by
 refine bV rfl rfl fun Q d=>?_;apply ai;simp;apply al;apply ai;simp;refine aD (by simp;omega) (aO ?_);by_cases h:0≤a
 ·apply ai;simp [nh h (show 0<b by omega) (by omega)];apply al;apply ai;have:=auB a (show b≠0 by omega);simp [wH h (show 0<b by omega)];refine aD (by simp;omega) (aO ?_);apply ai;simp;refine aC (d _ _ ?_);simp
 ·apply ai;simp [aog (show a≤0 by omega) (show 0<b by omega) (by omega)];apply al;apply ai;have e:=auB (-a) (show b≠0 by omega);have j:=auy (-a) (show 0<b by omega);have q:0≤(-a) / b:=avL (by omega) (by omega);have m:(-a) / b≤-a:=avH _ (by omega);have l:=Int.mul_ediv_add_emod (-a) b;simp [aoh (show a≤0 by omega) (show 0<b by omega)];by_cases s:(-a) % b=0
  ·refine aD (by simp;omega) (aO ?_);apply ai;simp;refine aC (d _ _ ?_);have:a / b = -(-a / b):=by
    refine Int.ediv_eq_of_eq_mul_right (by omega) ?_;rw [Int.mul_neg];omega
   simp [this]
  ·refine aq (by simp;omega) ?_;refine an (.inl rfl) ?_;simp [aW (n:=-(-a / b)-1)];apply ai;simp;refine aC (d _ _ ?_);have:a / b = -(-a / b)-1:=by
    have u:=auB a (show b≠0 by omega);have v:=auy a (show 0<b by omega);have x:=Int.mul_ediv_add_emod a b;have y:b*(a / b+(-a) / b+1)=b-a % b-(-a) % b:=by rw [Int.mul_add,Int.mul_add];omega
    have z:a / b+(-a) / b+1=0:=by
     rcases Int.lt_trichotomy (a / b+(-a) / b+1) 0 with h | h | h
     ·have:b*(a / b+(-a) / b+1)≤b*(-1):=auk (by omega) (by omega);omega
     ·exact h
     ·have:b*1≤b*(a / b+(-a) / b+1):=auk (by omega) (by omega);omega
    omega
   simp [this])
theorem vA(a:Int)(g:-4611686018427387904≤a)(b:a≤4611686018427387904):bo tab 105 [vi a]=Eq (vi (a / 1440)):=Kf.eq (by
 refine cP rfl rfl fun H Q d=>?_;apply ai;simp;apply ai;simp [sN a 1440 (by omega) g b];apply ai;simp;refine aC (d _ _ ?_);simp)
def cQ(len mi d:Int):aI:=⟨d,d*1440+mi,d*1440+mi+len⟩
def mC(n:Int):Prop:=-1000000000000000≤n∧n≤1000000000000000
theorem BN(b g j:FC)(len mi d:Int)(m:mC len)(q:mC mi)(s:mC d) :
  bo tab 171 [.a [.f b,.f (fi len),.f g],.a [.f j,.f (fi mi)],vi d]=Eq (.a ((cQ len mi d).row.map .f)):=bo.eq (Kf.EP (by
 unfold mC at *;refine cP rfl rfl fun H Q l=>?_;apply ai;simp;apply ai;simp [aW (n:=d*1440),aW (n:=d*1440+mi)];apply ai;simp [aW (n:=d*1440+mi+len)];refine aC (l _ _ ?_);simp [cQ,aI.row]))
theorem Dc{u m:Int}(b:0<m):(u.tmod m+m).tmod m=u % m:=by
 have d:=awd u b;have g:=awe u b;rw [avn (by omega),Int.add_emod_right];exact avW.2 (by
  have:=Int.tmod_add_mul_tdiv u m;have e:u.tmod m-u = -(m*u.tdiv m):=by omega
  rw [e];exact Int.emod_eq_zero_of_dvd (Int.dvd_neg.2 (avR _ _)))
theorem B3{x y:Int}(l:1<x)(h:avy x y=1):1≤y % x:=by
 have h0:=auB y (show x≠0 by omega);rcases avo 0 (y % x)with d | d
 ·omega
 ·exfalso;have g:y % x=0:=by omega
  have j:x ∣ y:=Int.dvd_of_emod_eq_zero g;have b:x ∣ (avy x y:Int):=Int.dvd_coe_gcd (Int.dvd_refl x) j;rw [h]at b;have:=Int.le_of_dvd (by decide) b;omega
theorem Eb{a m:Int}(a0:0≤a)(a1:a≤1099511627776)(m0:2≤m)(m1:m≤1000000)(hg:avy a m=1) :
  ∃ x,0≤x∧x<m∧m ∣ a*x-1∧bo tab 321 [vi a,vi m]=Eq (vi x):=by
 obtain⟨c,⟨x,p,r,w,rfl⟩,hp⟩:∃ c,(∃ x,0≤x∧x<m∧m ∣ a*x-1∧c=vi x)∧bo tab 321 [vi a,vi m] c:=by
  have hr:=wH (a:=a) (b:=m) a0 (by omega);have a7:=auB a (show m≠0 by omega);have H:=auy a (show 0<m by omega);have l:avy (a % m) m=1:=by
   have e:a % m=a-a / m*m:=by have:=au4 a m;rw [avE (a / m)];omega
   rw [e,Int.gcd_sub_mul_right_left];exact hg
  have Z:1≤a % m:=by
   rcases avo 0 (a % m)with h | h
   ·omega
   ·exfalso;have h0:a % m=0:=by omega
    rw [h0]at l;simp at l;omega
  refine dG rfl rfl fun Q hQ=>?_;apply ai;simp;apply ai;simp [hr];refine al (aF ?_);refine cH (fun n s=>∃(x y u v U V:Int) (t:T),s=⟨t,[],[]⟩∧(n:Int)=x∧t.g 1=vi m∧t.g 5=vi x∧t.g 6=vi y∧t.g 7=vi u∧t.g 8=vi v∧1≤x∧x<y∧y≤m∧avy x y=1∧m ∣ a*u-x∧m ∣ a*v-y ∧
   0≤U∧0≤V∧(u=U∧v = -V∨u = -U∧v=V)∧U*y+V*x=m) (a % m).toNat
   ⟨a % m,m,1,0,1,0,_,rfl,by omega,by simp,by simp,by simp,by simp,by simp,Z,H,by omega,l,?_,?_,by decide,by decide,.inl ⟨rfl,rfl⟩,by omega⟩ ?_
  ·refine⟨a / m,?_⟩;have:=au4 a m;omega
  ·exact⟨-1,by omega⟩
  rintro n s ⟨x,y,u,v,U,V,t,rfl,hn,i,I,k,o,g8,p,r,w,h4,M,h6,A,h8,h9,J⟩ ih;have a_:U≤U*y:=by have:=auk (show(1:Int)≤y by omega) A;omega
  have b_:0≤V*x:=avh h8 (by omega);have a8:U≤m:=by omega
  have b9:V≤m:=by
   have K:V≤V*x:=by have:=auk (show(1:Int)≤x by omega) h8;omega
   have L:0≤U*y:=avh A (by omega);omega
  refine al (ai ?_);simp [I];by_cases hx:1<x
  ·
   have B:0≤y / x:=avL (by omega) (by omega);have X:y / x≤y:=avH _ (by omega);have E:=nh (a:=y) (b:=x) (by omega) (by omega) (by omega);obtain⟨q,hq⟩:=aK (y / x);have j:=au4 y x;have O:=B3 hx h4;have S:=auy y (show 0<x by omega);rw [←hq]at B X E j;obtain⟨g,Y⟩:=aK (y % x);rw [←Y]at j O S;have d_:q*x=y-g:=by rw [avE];omega
   obtain⟨W,hW⟩:=aK (V+q*U);have d9:0≤q*U:=avh B A;have N:W*x+U*g=m:=by
    rw [hW,Int.add_mul,←J,show g=y-q*x by omega,av4,avF q U x,Int.mul_left_comm q U x];omega
   have c_:W≤m:=by
    have K:W≤W*x:=by have:=auk (show(1:Int)≤x by omega) (show 0≤W by omega);omega
    have L:0≤U*g:=avh A (by omega);omega
   have d:(u=U→q*u=q*U)∧(u = -U→q*u = -(q*U)):=⟨fun e=>by rw [e],fun e=>by rw [e,Int.mul_neg]⟩
   have hb:-m≤q*u∧q*u≤m:=by
    rcases h9 with⟨e,-⟩ | ⟨e,-⟩
    ·rw [d.1 e];omega
    ·rw [d.2 e];omega
   have f_:-m≤v∧v≤m:=by omega
   have f:=aW (n:=q*x);have w2:IntKind.i64.wrap (y-q*x)=g:=by rw [aW];omega
   have w3:=aW (n:=q*u);have w4:=aW (n:=v-q*u);refine aq (by simp [hx]) (aO ?_);refine aF (ai ?_);simp [I,k,E];apply ai;simp [I,k,f,w2];refine an (.inl rfl) ?_;simp [o,g8,w3,w4];refine az (ih g.toNat _ (by omega) ⟨g,x,v-q*u,u,W,U,_,rfl,by omega,by simp [i],by simp,by simp,by simp,by simp,by omega,by omega,by omega,?_,?_,M,by omega,A,?_,N⟩)
   ·rw [show g=y-q*x by omega,Int.gcd_sub_mul_right_left,Int.gcd_comm];exact h4
   ·have e:a*(v-q*u)-g=(a*v-y)-q*(a*u-x):=by
     rw [av4,av4,Int.mul_left_comm a q u];omega
    rw [e];exact avv h6 (Int.dvd_mul_of_dvd_right M)
   ·rcases h9 with⟨z,e2⟩ | ⟨z,e2⟩
    ·exact .inr ⟨by rw [d.1 z];omega,z⟩
    ·exact .inl ⟨by rw [d.2 z];omega,z⟩
  ·
   have F:x=1:=by omega
   subst F;have e_:-m≤u∧u≤m:=by omega
   have t1:=awd u (show 0<m by omega);have t2:=awe u (show 0<m by omega);have r1:dp .rem (vi u) (vi m)=aa (vi (u.tmod m)):=iy (by omega);have r2:dp .rem (vi (u.tmod m+m)) (vi m)=aa (vi (u % m)):=by rw [iy (by omega),Dc (by omega)]
   have f:=aW (n:=u.tmod m+m);refine aD (by simp) (bJ rfl ?_);apply ai;simp [i,o,r1,f,r2];refine aC (hQ _ _ _ ⟨u % m,auB _ (by omega),auy _ (by omega),?_,rfl⟩ (by simp));have e:a*(u % m)-1=(a*u-1)-a*(u / m)*m:=by
    have:=au4 u m;rw [show u % m=u-m*(u / m) by omega,av4,avF,avE m];omega
   rw [e];exact avv M (av5 _ _)
 exact⟨x,p,r,w,hp.eq⟩
theorem aiz{a s r p d:Int}(m:¬ (avy s p:Int) ∣ r-a)(j:s ∣ d-a)(l:p ∣ d-r):False:=by
 apply m;have b:=avg (av6 s p) j;have g:=avg (awf s p) l;have:=avv b g;rwa [show d-a-(d-r)=r-a by omega]at this
theorem aiy{a s r p g n t:Int}(q:g=(avy s p:Int))(F:0<p)(H:0<s)(z:p=n*g)(A:g ∣ r-a)(E:n ∣ t*(s / g)-(r-a) / g) :
  (∀ d,s ∣ d-a∧p ∣ d-r↔(s*n) ∣ d-(a+t*s))∧0<g∧0<n:=by
 have l:0<g:=by
  rw [q];have:=avS p (show s≠0 by omega);omega
 have u:0<n:=by
  rcases Int.lt_trichotomy n 0 with h | h | h
  ·have:=Int.mul_neg_of_neg_of_pos h l;omega
  ·subst h;omega
  ·exact h
 have x:s / g*g=s:=awb (q▸av6 s p);have v:(r-a) / g*g=r-a:=awb A;have j:p ∣ a+t*s-r:=by
  obtain⟨k,B⟩:=E;refine⟨k,?_⟩;have:a+t*s-r=(t*(s / g)-(r-a) / g)*g:=by
   rw [Int.sub_mul,v,avF,x];omega
  rw [this,B,z,Int.mul_right_comm]
 have y:(Int.lcm s p:Int)=s*n:=by
  have b:((avy s p*Int.lcm s p:Nat):Int)=s*p:=by
   rw [Int.gcd_mul_lcm,avK,Int.natAbs_of_nonneg (by omega),Int.natAbs_of_nonneg (by omega)]
  rw [avK,←q]at b;have m:g*(Int.lcm s p:Int)=g*(s*n):=by rw [b,z,←avF,avE]
  exact Int.eq_of_mul_eq_mul_left (by omega) m
 refine⟨fun d=>⟨fun⟨b,m⟩=>?_,fun h=>⟨?_,?_⟩⟩,l,u⟩
 ·rw [←y];refine Int.coe_lcm_dvd ?_ ?_
  ·have:d-(a+t*s)=d-a-t*s:=by omega
   rw [this];exact avv b (av5 t s)
  ·have:d-(a+t*s)=d-r-(a+t*s-r):=by omega
   rw [this];exact avv m j
 ·have b:=avg (avR s n) h;have:d-a=d-(a+t*s)+t*s:=by omega
  rw [this];exact Int.dvd_add b (av5 t s)
 ·have b:p ∣ d-(a+t*s):=avg (by rw [←y];exact Int.dvd_lcm_right s p) h;have:d-r=d-(a+t*s)+(a+t*s-r):=by omega
  rw [this];exact Int.dvd_add b j
theorem Gs{a b n:Int}:a % n=b % n↔n ∣ a-b:=avW.trans Int.dvd_iff_emod_eq_zero.symm
abbrev clV(at' st:Int):V:=.a [.f (.int .i64 at'),.f (.int .i64 st)]
theorem ajn{a s r p:Int}(a0:0≤a)(a1:a<s)(s1:s≤1000000)(r0:0≤r)(r1:r<p)(p1:p≤1000) :
  (∃ a' s',0≤a'∧a'<s'∧s'≤s*p∧(∀ d,s ∣ d-a∧p ∣ d-r↔s' ∣ d-a')∧bo tab 260 [clV a s,vi r,vi p]=Eq (.t [clV a' s',vb ae])) ∨
  ((∀ d,¬ (s ∣ d-a∧p ∣ d-r))∧bo tab 260 [clV a s,vi r,vi p]=Eq (.t [clV 0 0,vb ag])):=by
 have s0:0<s:=by omega
 have p0:0<p:=by omega
 obtain⟨g,y⟩:=aK ((avy s p:Int):Int);have a8:avy s p=av3 s.toNat p.toNat:=by
  show av3 s.natAbs p.natAbs=_;rw [show s.natAbs=s.toNat by omega,show p.natAbs=p.toNat by omega]
 have a_:g ∣ s:=y▸av6 s p;have M:g ∣ p:=y▸awf s p;have l:0<avy s p:=avS p (by omega);have g0:0<g:=by rw [y];exact Int.natCast_pos.2 l
 have gp:g≤p:=Int.le_of_dvd p0 M;obtain⟨n,i⟩:=aK (p / g);have X:p=n*g:=by rw [i,awb M]
 have B:0<n:=by
  rcases avo 0 n with h | h
  ·exact h
  ·have:=Int.mul_nonneg_of_nonpos_of_nonpos (a:=n) (b:=-g) h (by omega);rw [Int.mul_neg]at this;omega
 have np:n≤p:=by
  have:=auk (show(1:Int)≤g by omega) (show 0≤n by omega);omega
 have j:bo tab 257 [vi s,vi p]=Eq (vi g):=by
  have h:=abS (a:=s.toNat) (b:=p.toNat) (by omega) (by omega);rw [show((s.toNat:Nat):Int)=s by omega,show((p.toNat:Nat):Int)=p by omega,←a8,←y]at h;exact h
 have b0:∀ {L:aj},aV (.box [.f (fi a),.f (fi s)] 0::L) ab (.c (.ptr 0 0 0))=aa (vi a)∧aV (.box [.f (fi a),.f (fi s)] 0::L) ab (.c (.ptr 0 1 0))=aa (vi s)∧aV (.box [.f (fi a),.f (fi s)] 0::L) (aa 2) (.c (.ptr 0 0 0))=aa (clV a s):=by
  intro L;refine⟨?_,?_,?_⟩<;>simp [aV,aG,aT]
 have q:=aW (n:=r-a);have F:dp .rem (vi (r-a)) (vi g)=aa (vi ((r-a).tmod g)):=iy (by omega);have A:¬ (s=0):=by omega
 by_cases x:g ∣ r-a
 ·left;have m:(r-a).tmod g=0:=Int.tmod_eq_zero_of_dvd x;by_cases z:n=1
  ·
   have N:p=g:=by rw [X,z,Int.one_mul]
   refine⟨a,s,a0,a1,?_,fun d=>⟨fun h=>h.1,fun h=>⟨h,?_⟩⟩,bo.eq ?_⟩
   ·have:=auk (show(1:Int)≤p by omega) (show 0≤s by omega);omega
   ·rw [N];have:=avv (avg a_ h) x;rwa [show d-a-(r-a)=d-r by omega]at this
   ·have E:dp .quo (vi p) (vi g)=aa (vi n):=by rw [nh (by omega) g0 (by omega),←i]
    refine bV rfl rfl fun Q I=>?_;apply ai;simp;refine al (ai ?_);simp [b0,-aA,A];refine bw (by simp) ?_;apply ai;simp [b0,-aA,j];refine al (ai ?_);simp [b0,-aA,q,F,m];refine bw (by simp) ?_;apply ai;simp [E];refine al (ai ?_);simp [z];refine aq (by simp) ?_;apply ai;simp [b0,-aA];refine aC (I _ _ ?_);simp
  ·
   have n2:2≤n:=by omega
   have Z:0≤s / g:=avL (by omega) (by omega);have g_:s / g≤s:=avH _ (by omega);have J:avy (s / g) n=1:=by rw [i,y];exact Int.gcd_ediv_gcd_ediv_gcd l
   obtain⟨v,o,v1,hv,S⟩:=Eb Z (by omega) n2 (by omega) J;obtain⟨w,hw⟩:=aK (((r-a) / g) % n);have w0:0≤w:=by rw [hw];exact auB _ (by omega)
   have w1:w<n:=by rw [hw];exact auy _ B
   obtain⟨t,ht⟩:=aK ((w*v) % n);have t0:0≤t:=by rw [ht];exact auB _ (by omega)
   have t1:t<n:=by rw [ht];exact auy _ B
   have U:n ∣ t*(s / g)-(r-a) / g:=by
    obtain⟨k,hk⟩:=hv;have e1:t=w*v-n*(w*v / n):=by have:=au4 (w*v) n;omega
    have e2:w=(r-a) / g-n*((r-a) / g / n):=by have:=au4 ((r-a) / g) n;omega
    have e3:t*(s / g)-(r-a) / g=w*(s / g*v-1)-n*(w*v / n)*(s / g)-n*((r-a) / g / n):=by
     rw [e1,Int.sub_mul,av4,avF w v,avE v (s / g)];omega
    rw [e3,hk];refine avv (avv ?_ ?_) (avR _ _)
    ·exact⟨w*k,by rw [Int.mul_left_comm]⟩
    ·exact⟨w*v / n*(s / g),by rw [avF]⟩
   obtain⟨O,-,-⟩:=aiy y p0 s0 X x U;have i4:0≤t*s:=avh t0 (by omega);have i5:t*s≤(n-1)*s:=av8 (by omega) (by omega);have i7:(n-1)*s=n*s-s:=by rw [Int.sub_mul,Int.one_mul]
   have f_:n*s≤1000*1000000:=Int.mul_le_mul (by omega) s1 (by omega) (by decide);have i8:s*n=n*s:=avE _ _;have c:0≤w*v:=avh w0 o;have i6:w*v≤1000*1000:=Int.mul_le_mul (by omega) (by omega) o (by decide);have h_:0≤n*s:=avh (by omega) (by omega);refine⟨a+t*s,s*n,by omega,by omega,?_,O,bo.eq ?_⟩
   ·exact auk np (by omega)
   ·have E:dp .quo (vi p) (vi g)=aa (vi n):=by rw [nh (by omega) g0 (by omega),←i]
    have a7:dp .quo (vi (r-a)) (vi g)=aa (vi ((r-a) / g)):=by
     rw [uc (by omega),Int.tdiv_eq_ediv_of_dvd x];have hb:-1000000≤(r-a) / g∧(r-a) / g≤1000000:=by
      obtain⟨k,hk⟩:=x;rw [hk,Int.mul_ediv_cancel_left _ (by omega)];constructor
      ·rcases avo k (-1000000)with h | h
       ·have:=auk (show k≤-1000001 by omega) (show 0≤g by omega);omega
       ·omega
      ·rcases avo 1000000 k with h | h
       ·have:=auk (show(1000001:Int)≤k by omega) (show 0≤g by omega);omega
       ·omega
     rw [aW]
    have d9:dp .rem (vi ((r-a) / g)) (vi n)=aa (vi (((r-a) / g).tmod n)):=iy (by omega);have tl:=awd ((r-a) / g) B;have tg:=awe ((r-a) / g) B;have d_:=aW (n:=((r-a) / g).tmod n+n);have W:dp .rem (vi (((r-a) / g).tmod n+n)) (vi n)=aa (vi w):=by rw [iy (by omega),Dc B,←hw]
    have e_:dp .quo (vi s) (vi g)=aa (vi (s / g)):=nh (by omega) g0 (by omega);have uw:IntKind.wrap .u64 w=w:=jo w0 (by omega);have uv:IntKind.wrap .u64 v=v:=jo o (by omega);have un:IntKind.wrap .u64 n=n:=jo (by omega) (by omega);have us:IntKind.wrap .u64 s=s:=jo (by omega) (by omega);have b9:=wa w0 (show w≤2147483648 by omega) o (show v≤2147483648 by omega);have Y:=adT (a:=0) (b:=n) (by decide) B;rw [Int.zero_emod]at Y;have K:=abF c (show w*v≤9223372036854775807 by omega) B (show n≤9223372036854775807 by omega);rw [←ht]at K;have b_:=wa t0 (show t≤2147483648 by omega) (show 0≤s by omega) (show s≤2147483648 by omega);have c_:=wa (show 0≤s by omega) (show s≤2147483648 by omega) (show 0≤n by omega) (show n≤2147483648 by omega);have u:=aW (n:=t*s);have fa:=aW (n:=1152921504606846976-a);have c1:¬ (1152921504606846976<t*s):=by omega
    have c2:¬ (1152921504606846976-a<t*s):=by omega
    have H:=aW (n:=a+t*s);have f:=aW (n:=s*n);have c3:s*n≤1152921504606846976:=by omega
    refine bV rfl rfl fun Q I=>?_;apply ai;simp;refine al (ai ?_);simp [b0,-aA,A];refine bw (by simp) ?_;apply ai;simp [b0,-aA,j];refine al (ai ?_);simp [b0,-aA,q,F,m];refine bw (by simp) ?_;apply ai;simp [E];refine al (ai ?_);simp [z];refine bw (by simp) ?_;apply ai;simp [b0,-aA,q,a7,d9,d_,W];apply ai;simp [b0,-aA,uw,e_,S,uv,b9];apply ai;simp [un,Y,K];apply ai;simp [b0,-aA,us,b_];refine al (ai ?_);simp [b0,-aA,c1,u,fa,c2];refine bw (by simp) ?_;apply ai;simp [b0,-aA,u,H];refine al (ai ?_);simp [b0,-aA,us,un,c_];apply ai;simp [c3];refine aq (by simp) (an (.inl rfl) ?_);simp [f];apply ai;simp;refine aC (I _ _ ?_);simp
 ·right;refine⟨fun d h=>aiz (fun e=>x (y▸e)) h.1 h.2,bo.eq ?_⟩;have m:¬ (r-a).tmod g=0:=fun e=>x (Int.dvd_of_tmod_eq_zero e);refine bV rfl rfl fun Q I=>?_;apply ai;simp;refine al (ai ?_);simp [b0,-aA,A];refine bw (by simp) ?_;apply ai;simp [b0,-aA,j];refine al (ai ?_);simp [b0,-aA,q,F,m];refine aq (by simp) ?_;apply ai;simp;refine aC (I _ _ ?_);simp
theorem Cc(a b:Int):bo tab 338 [vi a,vi b]=Eq (vb (decide (a<b))):=Kf.eq (by
 refine cP rfl rfl fun H Q d=>?_;apply ai;simp;apply ai;simp [pV];refine aC (d _ _ ?_);simp [pV])
theorem akf(a:Int):bo tab 339 [vi a]=Eq (vb ag):=Kf.eq (by
 refine cP rfl rfl fun H Q b=>?_;apply ai;simp;apply ai;simp;refine aC (b _ _ ?_);simp)
theorem DQ(g:Tg)(l:List Int)(n:Int)(c:l.length≤1000000000)(Y:l.Pairwise (· < ·)) :
  ∃ i:Nat,i≤l.length∧(∀ j (b:j<l.length),j<i→l[j]<n)∧(∀ j (b:j<l.length),i≤j→n≤l[j]) ∧
   bo tab 277 [.c (.f (sl g (ints l))),vi n]=Eq (.t [vi i,vb (decide (n ∈ l))]):=by
 obtain⟨r,⟨i,U,W,J,rfl⟩,h⟩:∃ r,(∃ i:Nat,i≤l.length∧(∀ j (b:j<l.length),j<i→l[j]<n)∧(∀ j (b:j<l.length),i≤j→n≤l[j])∧r=.t [vi i,vb (decide (n ∈ l))]) ∧
   bo tab 277 [.c (.f (sl g (ints l))),vi n] r:=by
  refine dG rfl rfl fun Q K=>?_;have x:∀ i j (hi:i<j) (b:j<l.length),l[i]<l[j]:=fun i j hi b=>auQ.1 Y i j (by omega) b hi;apply ai;simp;apply ai;simp;apply ai;simp;apply al;refine aF ?_;refine cH (fun m s=>∃(lo hi:Nat) (t:T),s=⟨t,[],[]⟩∧m=hi-lo∧lo≤hi∧hi≤l.length∧t.g 0=.c (.f (sl g (ints l)))∧t.g 1=vi n∧t.g 6=vi l.length∧t.g 7=vi lo∧t.g 8=vi hi ∧
   (∀ j (b:j<l.length),j<lo→l[j]<n)∧(∀ j (b:j<l.length),hi≤j→n≤l[j])) l.length
   ⟨0,l.length,_,rfl,by omega,by omega,by omega,by simp,by simp,by simp,by simp,by simp,by simp,by intros;omega⟩ ?_
  rintro m s ⟨lo,hi,t,rfl,rfl,X,y,g0,A,E,B,I,d,u⟩ next
  apply al;apply ai;simp [B,I];by_cases M:lo<hi
  ·refine aq (by simp [M]) (aO ?_);obtain⟨q,f⟩:=aK ((lo+hi) / 2);have F:q<l.length:=by omega
   have S:dp BinOp.shr (V.c (C.f (FC.int IntKind.u64 (IntKind.u64.wrap ((lo:Int)+hi))))) (V.c (C.f (FC.int IntKind.u64 1)))=aa (.c (.f (.int .u64 (q:Int)))):=by
    have:IntKind.u64.wrap ((lo:Int)+hi)=(lo:Int)+hi:=by
     show((lo:Int)+hi) % 18446744073709551616=_;omega
    rw [this];show aa (V.c (C.f (FC.int IntKind.u64 (Int.fdiv ((lo:Int)+hi) (2 ^ (min (1:Int).toNat IntKind.u64.bits))))))=_;have J:Int.fdiv ((lo:Int)+hi) (2 ^ (min (1:Int).toNat IntKind.u64.bits))=q:=by
     show Int.fdiv ((lo:Int)+hi) 2=q;rw [Int.fdiv_eq_ediv_of_nonneg _ (by omega)];omega
    rw [J]
   have Z:=aW (n:=(lo:Int)+hi);have O:IntKind.i64.wrap (q:Int)=q:=aW;refine aF ?_;apply ai;simp [B,I,Z,S,O];apply ai;simp [g0,A,bt,F,jG,Cc];by_cases L:l[q]<n
   ·refine aq (by simp [L]) ?_;refine an (.inl rfl) ?_;simp [aW (n:=(q:Int)+1)];refine az (next (hi-(q+1)) _ (by omega) ⟨q+1,hi,_,rfl,rfl,by omega,by omega,by simp [g0],by simp [A],by simp [E],by simp,by simp [I],fun j b h=>?_,u⟩);by_cases e:j=q
    ·subst e;exact L
    ·have:=x j q (by omega) F;omega
   ·refine aD (by simp [L]) ?_;refine an (.inl rfl) ?_;simp;refine az (next (q-lo) _ (by omega) ⟨lo,q,_,rfl,rfl,by omega,by omega,by simp [g0],by simp [A],by simp [E],by simp [B],by simp,d,fun j b h=>?_⟩);by_cases e:j=q
    ·subst e;omega
    ·have:=x q j (by omega) b;omega
  ·have:lo=hi:=by omega
   subst this;refine aD (by simp) ?_;refine bJ rfl ?_;apply ai;by_cases v:lo<l.length
   ·have a:=u lo v (by omega);by_cases H:l[lo]=n
    ·simp [g0,A,E,B,v,bt,jG,H];refine aC (K _ _ _ ⟨lo,y,d,u,rfl⟩ ?_);have:n ∈ l:=H▸at2 v;simp [this]
    ·have z:n ∉ l:=fun N=>by
      obtain⟨j,b,rfl⟩:=auI N;rcases avi j lo with h | h | h
      ·have:=d j b h;omega
      ·subst h;exact H rfl
      ·have:=x lo j h b;omega
     simp [g0,A,E,B,v,bt,jG,H,akf];refine aC (K _ _ _ ⟨lo,y,d,u,rfl⟩ ?_);simp [z]
   ·have z:n ∉ l:=fun N=>by
     obtain⟨j,b,rfl⟩:=auI N;have:=d j b (by omega);omega
    simp [g0,A,E,B,v];refine aC (K _ _ _ ⟨lo,y,d,u,rfl⟩ ?_);simp [z]
 exact⟨i,U,W,J,bo.eq h⟩
theorem mc{d:Int}:∀ {l:List Int} {b:Int},eF d b l=ae→l.Pairwise (· < ·)∧∀ c ∈ l,b<c∧c<d
 | [],_,_=>⟨List.Pairwise.nil,by simp⟩
 | a::l,b,h=>by
  simp only [eF,atI,decide_eq_true_eq]at h;obtain⟨⟨m,q⟩,s⟩:=h;obtain⟨u,j⟩:=mc s;refine⟨auN.2 ⟨fun c g=>(j c g).1,u⟩,fun c g=>?_⟩;rcases auc.1 g with rfl | g
  ·exact⟨m,q⟩
  ·have:=j c g;omega
theorem fu{p:bM}(h:gF p=ae):0≤p.fr∧p.fr≤1099511627776∧1≤p.eS∧p.eS≤1099511627776∧p.head.length+p.jR.length≤1048576∧p.head.Pairwise (· < ·)∧(∀ c ∈ p.head,-1<c∧c<p.fr)∧p.jR.Pairwise (· < ·)∧∀ c ∈ p.jR,-1<c∧c<p.eS:=by
 unfold gF at h;simp only [atI,decide_eq_true_eq]at h;obtain⟨⟨⟨⟨⟨⟨g,j⟩,l⟩,m⟩,u⟩,q⟩,s⟩:=h;obtain⟨a1,b⟩:=mc q;obtain⟨b1,d⟩:=mc s;exact⟨g,j,l,m,by omega,a1,b,b1,d⟩
def xH(p:bM)(d:Int):Bool:=if p.fr≤d then decide ((d-p.fr) % p.eS ∈ p.jR)else decide (d ∈ p.head)
def Day(d:Int):Prop:=d≤2305843009213693952
theorem Qg(p:bM)(h:gF p=ae)(d:Int)(h0:0≤d)(x:Day d):bo tab 378 [.a (p.row.map .f),vi d]=Eq (vb (xH p d)):=Kf.eq (by
 obtain⟨A,B,E,F,I,s,K,u,L⟩:=fu h;unfold Day at x;refine cP rfl rfl fun H Q v=>?_;have j:∀(t:T) (J:aj) (g:Tg) (l:List Int) (n:Int),l.length≤1048576→l.Pairwise (· < ·)→t.g 5=.c (.f (sl g (ints l)))→t.g 6=vi n→xH p d=decide (n ∈ l)→WP tab 378 ab [.code AY] ⟨t,[],H++J⟩ Q:=by
  intro t J g l n M y m q e;obtain⟨i,-,-,-,z⟩:=DQ g l n (by omega) y;apply ai;simp [m,q,z];apply ai;simp;refine aC (v _ _ ?_);simp [e]
 apply ai;simp [bM.row];apply ai;simp;apply al;apply ai;simp;by_cases k:p.fr≤d
 ·refine aq (by simp [k]) ?_;refine an (.inl rfl) ?_;simp [aW (n:=d-p.fr),wH (a:=d-p.fr) (b:=p.eS) (by omega) (by omega)];exact j _ _ p.cg p.jR ((d-p.fr) % p.eS) (by omega) u (by simp) (by simp) (by simp [xH,k])
 ·refine bw (by simp [k]) ?_;exact j _ _ p.hg p.head d (by omega) s (by simp) (by simp) (by simp [xH,k]))
def hasB(p:bM)(d:Int):Bool:=decide (0≤d)&&xH p d
theorem ajy(p:bM)(h:gF p=ae)(d:Int)(l:Day d):Kf tab 314 [.a (p.row.map .f),vi d] (vb (hasB p d)):=by
 refine cP rfl rfl fun H Q g=>?_;have b:=acO p (Gx h);rw [h]at b;apply ai;simp [bM.row]at b ⊢;apply ai;by_cases k:0≤d
 ·have j:=Qg p h d k l;simp [bM.row]at j;simp [b,k,j];refine aC (g _ _ ?_);simp [hasB,k]
 ·simp [b,k];refine aC (g _ _ ?_);simp [hasB,k]
theorem Qn(p:bM)(h:gF p=ae)(d:Int)(j:Day d):Kf tab 313 [.a (p.row.map .f),.c (.f (.fp [fi d] 0))] (vb (!hasB p d)):=by
 refine cP rfl rfl fun H Q g=>?_;have b:=(ajy p h d j).eq;simp [bM.row]at b;have l:∀ H:aj,aV H ab (.c (.f (.fp [fi d] 0)))=aa (vi d):=fun H=>by simp [aV,aG]
 apply ai;simp [bM.row];apply ai;simp [l,b];refine aC (g _ _ ?_);simp
def vN(l:List bM)(d:Int):Bool:=l.all fun p=>hasB p d
theorem ak3(g:Tg)(l:List bM)(v:l.length≤9223372036854775807)(h:∀ p ∈ l,gF p=ae)(d:Int)(s:Day d):Kf tab 251 [.c (.f (sl g (ba l))),vi d] (vb (vN l d)):=by
 refine cP rfl rfl fun H Q m=>?_;have q:=(gq aa4 (kY aa5 l bM.row (fun r=>.a (r.row.map .f)) (fun p=>!hasB p d) g 313 [.fp [fi d] 0] v
  (fun j u H=>bL (cq l) (dQ u)) (fun p x=>Qn p (h p x) d s))).eq
 have e:(!l.any fun p=>!hasB p d)=vN l d:=by
  rw [vN,au6];simp [avj,aun]
 apply ai;simp;apply ai;have b:bo tab 166 [.c (.f (sl g (ba l))),.c (.f (.fn 313 [.fp [fi d] 0]))]=Eq (vb (l.any fun p=>!hasB p d)):=q;simp [deep,acz,Ew,b,e];refine aC (m _ _ ?_);simp
theorem anF(t:dx)(l:t.fs.length≤9223372036854775807)(h:∀ p ∈ t.fs,gF p=ae)(d:Int)(j:Day d):Kf tab 250 [.c (.f (sl t.tg (ba t.fs))),.c (.f (.fp [fi d] 0))] (vb (vN t.fs d)):=by
 refine cP rfl rfl fun H Q g=>?_;have b:∀ H:aj,aV H ab (.c (.f (.fp [fi d] 0)))=aa (vi d):=fun H=>by simp [aV,aG]
 apply ai;simp;apply ai;simp [b,(ak3 t.tg t.fs l h d j).eq];refine aC (g _ _ ?_);simp
def acw(l:List dx)(d:Int):Bool:=oa l&&l.any fun t=>vN t.fs d
theorem mh{t:dx}(h:kh t=ae):1≤t.fs.length∧t.fs.length≤4∧∀ p ∈ t.fs,gF p=ae:=by
 unfold kh at h;simp only [atI,decide_eq_true_eq,aun]at h;exact⟨by omega,by omega,h.2⟩
theorem Qj{l:List dx}(h:oa l=ae):l.length≤64∧∀ t ∈ l,kh t=ae:=by
 unfold oa at h;simp only [atI,decide_eq_true_eq,aun]at h;exact⟨by omega,h.2⟩
theorem ajo(g:Tg)(l:List dx)(h:oa l=ae)(d:Int)(x:Day d):bo tab 170 [.a [.f (sl g (aM l))],vi d]=Eq (vb (acw l d)):=Kf.eq (by
 obtain⟨A,m⟩:=Qj h;have s:=acx g l (by omega) (fun t b=>⟨by have:=(mh (m t b)).2.1;omega,fun p z=>Gx ((mh (m t b)).2.2 p z)⟩);have v:=(gq amK (kY amR l dx.row (fun t=>.c (.f (sl t.tg (ba t.fs)))) (fun t=>vN t.fs d) g 250 [.fp [fi d] 0] (by omega)
  (fun j y H=>pZ (iC l) (kj y) rfl) (fun t b=>anF t (by have:=(mh (m t b)).2.1;omega) (mh (m t b)).2.2 d x))).eq
 have q:bo tab 110 [.c (.f (sl g (aM l))),.c (.f (.fn 250 [.fp [fi d] 0]))]=Eq (vb (l.any fun t=>vN t.fs d)):=v;rw [h]at s;refine cP rfl rfl fun H Q u=>?_;apply ai;simp;apply ai;simp [s,deep,acz,Ew,q];refine aC (u _ _ ?_);simp [acw,h])
structure Mod(p:bM):Prop where
 ok:gF p=ae
 arb:p.eS≤1000
def gU(p:bM)(c:Int):Int:=(p.fr % p.eS+c) % p.eS
theorem as1{x c p:Int}(h0:0≤c)(d:c<p):x % p=c↔p ∣ x-c:=by
 have h:=Gs (a:=x) (b:=c) (n:=p);rw [Int.emod_eq_of_lt h0 d]at h;exact h
theorem qw{p:bM}(h:Mod p){c:Int}(h0:0≤c)(b:c<p.eS):0≤gU p c∧gU p c<p.eS∧∀ d,(d-p.fr) % p.eS=c↔p.eS ∣ d-gU p c:=by
 have g:0<p.eS:=by omega
 refine⟨auB _ (by omega),auy _ g,fun d=>?_⟩;rw [as1 h0 b];have e:p.eS ∣ p.fr+c-gU p c:=by
  rw [←Gs];unfold gU;rw [Int.emod_emod_of_dvd _ (Int.dvd_refl _),Int.emod_add_emod]
 constructor
 ·intro k;have:=Int.dvd_add k e;rwa [show d-p.fr-c+(p.fr+c-gU p c)=d-gU p c by omega]at this
 ·intro k;have:=avv k e;rwa [show d-gU p c-(p.fr+c-gU p c)=d-p.fr-c by omega]at this
theorem uB{p:bM}(h:Mod p){c:Int}(d:c ∈ p.jR):0≤c∧c<p.eS:=by
 obtain⟨-,-,-,-,-,-,-,-,b⟩:=fu h.ok;have:=b c d;omega
def ka(p:bM)(d:Int):Prop:=∃ c ∈ p.jR,p.eS ∣ d-gU p c
theorem Cj{p:bM}(h:Mod p){d:Int}(l:p.fr≤d):xH p d=ae↔ka p d:=by
 unfold xH;rw [bg l,decide_eq_true_eq];constructor
 ·intro j;obtain⟨a,b⟩:=uB h j;exact⟨_,j,((qw h a b).2.2 d).1 rfl⟩
 ·rintro⟨c,g,e⟩;obtain⟨a,b⟩:=uB h g;rw [((qw h a b).2.2 d).2 e];exact g
theorem wI(p:bM)(h:Mod p)(c:Int)(h0:0≤c)(l:c<p.eS):bo tab 256 [.a (p.row.map .f),vi c]=Eq (vi (gU p c)):=Kf.eq (by
 obtain⟨d,j,s,u,-⟩:=fu h.ok;have m:=auB p.fr (show p.eS≠0 by omega);have q:=auy p.fr (show 0<p.eS by omega);refine cP rfl rfl fun H Q g=>?_;apply ai;simp [bM.row];apply ai;simp [wH (a:=p.fr) (b:=p.eS) d (by omega),aW (n:=p.fr % p.eS+c),wH (a:=p.fr % p.eS+c) (b:=p.eS) (by omega) (by omega)];refine aC (g _ _ ?_);simp [gU])
def dm:List bM→Int
 | []=>0| p::l=>max p.fr (dm l)
theorem nS:∀ l:List bM,0≤dm l
 | []=>Int.le_refl _| p::l=>by have:=nS l;simp only [dm];omega
theorem nR{p:bM}:∀ {l:List bM},p ∈ l→p.fr≤dm l
 | q::l,h=>by
  simp only [dm];rcases auc.1 h with rfl | h
  ·omega
  ·have:=nR h;omega
theorem C5(l:List bM)(p:bM):dm (l++[p])=max (dm l) p.fr:=by
 induction l with
 | nil=>simp only [ave,dm];omega| cons q l b=>simp only [auX,dm,b];omega
theorem adG(g:Tg)(l:List bM)(z:l.length≤64):bo tab 258 [.c (.f (sl g (ba l)))]=Eq (vi (dm l)):=Kf.eq (by
 refine cP rfl rfl fun H Q y=>?_;apply ai;simp;apply ai;simp;apply al;apply ai;simp;refine bR l.length (fun j t H'=>(∃ J,H'=H++J)∧t.g 6=.c (.f (sl g (ba l)))∧t.g 3=vi (dm (l.take j))) (by omega) (by decide) (by decide) (by simp) (by simp) ⟨⟨[],by simp⟩,by simp,by simp [dm]⟩ ?_ ?_
 ·rintro j t _ u ⟨⟨J,rfl⟩,q,m⟩ s x next
  have d:=fun H:aj=>bL (H:=H) (cq l) (dQ (l:=l) (j:=j) u);have b:=fun H:aj=>bt (H:=H) (g:=g) (rows:=ba l) (sz:=4) (k:=.i64) (i:=j) (by omega) (by simpa using u);simp [bM.row]at d b;have v:l.take (j+1)=l.take j++[l[j]]:=by rw [auz,asZ u];rfl
  have e:dm (l.take (j+1))=max (dm (l.take j)) l[j].fr:=by rw [v,C5]
  refine aF ?_;apply ai;simp [q,s,b,d];refine an (.inl rfl) ?_;simp [m];refine az (next _ _ ?_ (by simp [s]) (by simp [x]));exact⟨⟨_,rfl⟩,by simp [q],by simp [e]⟩
 ·rintro t _ ⟨⟨J,rfl⟩,q,m⟩ s x;rw [auv]at m;apply ai;simp [m];refine aC (y _ _ ?_);simp)
def AX(n a s:Int):Int:=if a<n then a+(n-a+s-1) / s*s else a
theorem G0{n a s:Int}(h0:0≤a)(y:a<s)(z:0≤n):n≤AX n a s∧s ∣ AX n a s-a∧AX n a s≤n+s∧∀ d,n≤d→s ∣ d-a→AX n a s≤d:=by
 have m:0<s:=by omega
 unfold AX;split
 ·have u:=au4 (n-a+s-1) s;have v:=auB (n-a+s-1) (show s≠0 by omega);have x:=auy (n-a+s-1) m;have g:(n-a+s-1) / s*s=s*((n-a+s-1) / s):=avE _ _;rw [g];generalize (n-a+s-1) / s=q at *;refine⟨by omega,⟨q,by omega⟩,by omega,?_⟩;rintro d j ⟨k,l⟩;rcases avo k q with h | h
  ·have b:s*k≤s*(q-1):=auk (by omega) (by omega);rw [av4,Int.mul_one]at b;omega
  ·have b:s*q≤s*k:=auk h (by omega);omega
 ·refine⟨by omega,⟨0,by omega⟩,by omega,?_⟩;rintro d j ⟨k,l⟩;rcases avo k 0 with h | h
  ·have b:s*k≤s*(-1):=auk (by omega) (by omega);omega
  ·have b:0≤s*k:=avh (by omega) h;omega
structure eY(S:Int→Prop)(l:Int)(f:Bool)(l':Int)(f':Bool):Prop where
 le:l'≤l
 uj:f=ae→f'=ae
 src:(l'=l∧f'=f)∨(f'=ae∧S l')
 low:∀ d,S d→l'≤d∧(d≤l→f'=ae)
theorem eY.none{S:Int→Prop}{l:Int}{f:Bool}(h:∀ d,¬ S d):eY S l f l f:=⟨Int.le_refl _,id,.inl ⟨rfl,rfl⟩,fun d b=>absurd b (h d)⟩
theorem eY.trans{S S1 q:Int→Prop}{l l1 l2:Int}{f s u:Bool}(h1:eY S1 l f l1 s)(h2:eY q l1 s l2 u)(m:∀ d,S d↔S1 d∨q d):eY S l f l2 u where
 le:=Int.le_trans h2.le h1.le
 uj h:=h2.uj (h1.uj h)
 src:=by
  rcases h2.src with⟨rfl,rfl⟩ | ⟨h,k⟩
  ·rcases h1.src with h | ⟨h,k⟩
   ·exact .inl h
   ·exact .inr ⟨h,(m _).2 (.inl k)⟩
  ·exact .inr ⟨h,(m _).2 (.inr k)⟩
 low d v:=by
  have b:=h2.le;rcases(m d).1 v with k | k
  ·obtain⟨a1,j⟩:=h1.low d k;exact⟨by omega,fun e=>h2.uj (j e)⟩
  ·obtain⟨a1,j⟩:=h2.low d k;refine⟨a1,fun e=>?_⟩;rcases avo l1 d with g | g
   ·rcases h1.src with⟨rfl,rfl⟩ | ⟨h,-⟩
    ·omega
    ·exact h2.uj h
   ·exact j g
theorem eY.iff{S S':Int→Prop}{l l':Int}{f b:Bool}(h:eY S l f l' b)(g:∀ d,S' d↔S d):eY S' l f l' b:=
 ⟨h.le,h.uj,by rcases h.src with k | ⟨k,k'⟩;exact .inl k;exact .inr ⟨k,(g _).2 k'⟩,fun d j=>h.low d ((g d).1 j)⟩
theorem eY.one{S:Int→Prop}{l x:Int}{f:Bool}(j:S x)(g:∀ d,S d→x≤d):eY S l f (if x≤l then x else l) (f||decide (x≤l)) where
 le:=by split<;>omega
 uj h:=by rw [h];rfl
 src:=by
  by_cases k:x≤l
  ·exact .inr ⟨by simp [k],by simpa [k]using j⟩
  ·exact .inl ⟨by simp [k],by simp [k]⟩
 low d b:=by
  have:=g d b;constructor
  ·split<;>omega
  ·intro e;simp [show x≤l by omega]
def LH(H:aj)(g:Tg)(ps:List bM)(n least:Int)(found:Bool):Prop:=(∃ a,H[0]?=aa (.box [.f (sl g (ba ps))] a))∧H[1]?=aa (.box [.f (fi n)] 0)∧H[2]?=aa (.box [.f (fi least)] 0)∧H[3]?=aa (.box [.f (.bool found)] 0) ∧
 H[4]?=aa (.box [.cl 259 [.ptr 0 0 0,.ptr 4 0 0,.ptr 1 0 0,.ptr 2 0 0,.ptr 3 0 0]] 0)
theorem LH.push{H:aj}{g:Tg}{ps:List bM}{n least:Int}{found:Bool}(h:LH H g ps n least found)(J:aj):LH (H++J) g ps n least found:=by
 obtain⟨⟨a,h0⟩,h1,h2,h3,h4⟩:=h;refine⟨⟨a,?_⟩,?_,?_,?_,?_⟩
 ·rw [anc (au h0)];exact h0
 ·rw [anc (au h1)];exact h1
 ·rw [anc (au h2)];exact h2
 ·rw [anc (au h3)];exact h3
 ·rw [anc (au h4)];exact h4
theorem P8(g:Tg)(ps:List bM)(H:aj)(n least:Int)(found:Bool)(r s:Int)(e:LH H g ps n least found)(h0:0≤r)(A:r<s)(E:s≤1000000)(f:0≤n)(h:n≤1000000000000) :
  ∃ v H',Ev tab (.fn 259) [vi ps.length,clV r s,.c (.ptr 0 0 0),.c (.ptr 4 0 0),.c (.ptr 1 0 0),.c (.ptr 2 0 0),.c (.ptr 3 0 0)] H v H' ∧
   (v=.t []∧LH H' g ps n (if AX n r s≤least then AX n r s else least) (found||decide (AX n r s≤least))∧∀ i:Nat,5≤i→i<H.length→H'[i]?=H[i]?):=by
 obtain⟨⟨B,g0⟩,Y,Z,c,L⟩:=e;obtain⟨u1,-,u3,-⟩:=G0 h0 A f;have l4:=au L;refine cI rfl rfl fun Q O=>?_;have m:∀(t:T) (q:aj) (y:Int),y=AX n r s→t.g 8=.c (.ptr H.length 0 0)→t.g 4=.c (.ptr 1 0 0)→t.g 5=.c (.ptr 2 0 0)→t.g 6=.c (.ptr 3 0 0)→LH q g ps n least found→q[H.length]?=aa (.box [.f (fi y),.f (fi s)] 0)→(∀ i:Nat,5≤i→i<H.length→q[i]?=H[i]?) →
   WP tab 259 ab [.code Be] ⟨t,[],q⟩ Q:=by
  rintro t q _ rfl K W J X j U l;have w:=j.2.1;have S:=j.2.2.1;have q3:=j.2.2.2.1;apply ai;simp [K,W,J,U,w,S,u1];by_cases k:AX n r s≤least
  ·refine aq (by simp [k]) ?_;have F:(q.set 2 (.box [.f (fi (AX n r s))] 0))[3]?=aa (.box [.f (.bool found)] 0):=by rw [aft (by decide)];exact q3
   refine an (.inl rfl) ?_;simp [K,J,X,U,S,F];refine cJ (O _ _ _ rfl rfl ⟨rfl,?_,fun i hi z=>by rw [aft (by omega),aft (by omega)];exact l i hi z⟩);obtain⟨⟨B,h0⟩,A,E,M,N⟩:=j;refine⟨⟨B,?_⟩,?_,?_,?_,?_⟩
   ·rw [aft (by decide),aft (by decide)];exact h0
   ·rw [aft (by decide),aft (by decide)];exact A
   ·rw [aft (by decide),atY (au E)];simp [k]
   ·rw [atY (by rw [List.length_set];exact au M)];simp [k]
   ·rw [aft (by decide),aft (by decide)];exact N
  ·refine bw (by simp [k]) ?_;refine cJ (O _ _ _ rfl rfl ⟨rfl,?_,l⟩);simpa [k]using j
 apply ai;simp;have d:=LH.push (H:=H) (g:=g) (ps:=ps) (n:=n) (least:=least) (found:=found) ⟨⟨B,g0⟩,Y,Z,c,L⟩ [.box [.f (fi r),.f (fi s)] 0];have x:(H++[bz.box [.f (fi r),.f (fi s)] 0])[H.length]?=aa (.box [.f (fi r),.f (fi s)] 0):=by simp
 have u:∀ i:Nat,5≤i→i<H.length→(H++[bz.box [.f (fi r),.f (fi s)] 0])[i]?=H[i]?:=fun i _ z=>anc z;generalize H++[bz.box [.f (fi r),.f (fi s)] 0]=q at d x u ⊢;obtain⟨a1,r0⟩:=d.1;have I:=d.2.1;apply al;apply ai;simp [r0];refine bw (by simp) ?_;apply al;apply ai;by_cases k:r<n
 ·simp [I,x,k,show 0<s by omega];refine aq (by simp) ?_;have p:AX n r s=r+(n-r+s-1) / s*s:=by unfold AX;rw [bg k]
  have o:=nh (a:=n-r+s-1) (b:=s) (by omega) (by omega) (by omega);have b1:(n-r+s-1) / s*s=AX n r s-r:=by omega
  refine an (.inl rfl) ?_;simp [I,x,aW (n:=n-r),aW (n:=n-r+s),aW (n:=n-r+s-1),o,b1,aW (n:=AX n r s-r),aW (n:=r+(AX n r s-r))];refine m _ _ _ (show r+(AX n r s-r)=_ by omega) (by simp) (by simp) (by simp) (by simp) ?_ (atY (au x)) fun i hi z=>by rw [aft (by omega)];exact u i hi z
  obtain⟨⟨a1,h0⟩,A,E,M,N⟩:=d;refine⟨⟨a1,?_⟩,?_,?_,?_,?_⟩
  all_goals (rw [aft (by omega)];assumption)
 ·simp [I,x,k];refine bw (by simp) ?_;exact m _ _ r (by unfold AX;rw [aY k]) (by simp) (by simp) (by simp) (by simp) d x u
def fQ:List bM→Int
 | []=>1| p::l=>p.eS*fQ l
theorem sy{l:List bM}(h:∀ p ∈ l,Mod p):1≤fQ l:=by
 induction l with
 | nil=>exact Int.le_refl _
 | cons p l j=>
  have b:=(fu (h p at4).ok).2.2.1;have d:=j fun q g=>h q (at5 _ g);have:=Int.mul_le_mul b d (by decide) (by omega);simp only [fQ];omega
def uS(ps:List bM)(n a s d:Int):Prop:=n≤d∧s ∣ d-a∧∀ p ∈ ps,ka p d
theorem aqR(g:Tg)(ps:List bM)(hM:∀ p ∈ ps,Mod p)(j8:ps.length≤64)(n:Int)(hn:0≤n)(i4:n≤1000000000000) :
  ∀(k i:Nat),i+k=ps.length→∀(H:aj) (least:Int) (found:Bool) (a s:Int),LH H g ps n least found→0≤a→a<s→s*fQ (ps.drop i)≤1000000 →
  ∃ v H',Ev tab (.fn 259) [vi i,clV a s,.c (.ptr 0 0 0),.c (.ptr 4 0 0),.c (.ptr 1 0 0),.c (.ptr 2 0 0),.c (.ptr 3 0 0)] H v H' ∧
   (v=.t []∧∃ F z,LH H' g ps n F z∧eY (uS (ps.drop i) n a s) least found F z∧∀ i:Nat,5≤i→i<H.length→H'[i]?=H[i]?):=by
 intro k;induction k with
 | zero=>
  intro i hi H least found a s hH a0 a1 hs;have:i=ps.length:=by omega
  subst this;rw [au8]at hs ⊢;simp only [fQ,Int.mul_one]at hs;obtain⟨v,H',J,rfl,hL,hk⟩:=P8 g ps H n least found a s hH a0 a1 hs hn i4;obtain⟨u1,u2,u3,u4⟩:=G0 (n:=n) a0 a1 hn;exact⟨_,H',J,rfl,_,_,hL,eY.one ⟨u1,u2,fun p hp=>absurd hp (List.not_mem_nil)⟩ (fun d hd=>u4 d hd.1 hd.2.1),hk⟩
 | succ k ih=>
  intro i hi H least found a s hH a0 a1 hs;have u:i<ps.length:=by omega
  obtain⟨p,hp⟩:=aK (ps[i]);have i5:p ∈ ps:=hp▸at2 u;have L:=hM p i5;obtain⟨f0,f1,p0,p1,Az,-⟩:=fu L.ok;have a_:ps.drop i=p::ps.drop (i+1):=by rw [hp];exact at7 u
  have i6:=sy (l:=ps.drop (i+1)) fun q hq=>hM q (au0 hq);have j_:s*p.eS*fQ (ps.drop (i+1))≤1000000:=by
   rw [a_]at hs;simp only [fQ,←avF]at hs;exact hs
  have j9:1≤s:=by omega
  have j6:s≤s*p.eS:=by
   have:=auk p0 (show 0≤s by omega);omega
  have j7:s*p.eS≤1000000:=by
   have:=auk i6 (show 0≤s*p.eS by omega);omega
  refine cI rfl rfl fun Q hQ=>?_;have E:=fun H:aj=>bL (H:=H) (cq ps) (dQ (l:=ps) (j:=i) u);have m:=fun H:aj=>il (H:=H) (k:=3) (cq ps) (dQ (l:=ps) (j:=i) u) rfl;have B:=fun H:aj=>il (H:=H) (k:=2) (cq ps) (dQ (l:=ps) (j:=i) u) rfl;have A:=fun H:aj=>bt (H:=H) (g:=g) (rows:=ba ps) (sz:=4) (k:=.i64) (i:=i) (by omega) (by simpa using u);rw [←hp]at E m B;simp [bM.row]at E A m B;have l4:=au hH.2.2.2.2;apply ai;simp;have Z:=hH.push [.box [.f (fi a),.f (fi s)] 0];have K:(H++[bz.box [.f (fi a),.f (fi s)] 0])[H.length]?=aa (.box [.f (fi a),.f (fi s)] 0):=by simp
  have b_:∀ i:Nat,5≤i→i<H.length→(H++[bz.box [.f (fi a),.f (fi s)] 0])[i]?=H[i]?:=fun i _ hl=>anc hl;obtain⟨b8,g_⟩:=aK (H.length);rw [←g_]at K ⊢;generalize H++[bz.box [.f (fi a),.f (fi s)] 0]=HH at Z K b_ ⊢;obtain⟨q,q0⟩:=Z.1;apply al;apply ai;simp [q0];refine aq (by simp [u]) ?_;apply al;apply ai;simp [q0,A,m];refine bR p.jR.length (fun j t H'=>t.g 0=vi i∧t.g 2=.c (.ptr 0 0 0)∧t.g 3=.c (.ptr 4 0 0)∧t.g 8=.c (.ptr b8 0 0)∧t.g 21=.c (.f (sl p.cg (ints p.jR)))∧H'[b8]?=aa (.box [.f (fi a),.f (fi s)] 0) ∧
   ∃ l' O,LH H' g ps n l' O∧eY (fun d=>uS (ps.drop (i+1)) n a s d∧∃ c ∈ p.jR.take j,p.eS ∣ d-gU p c) least found l' O∧∀ x:Nat,5≤x→x<H.length→H'[x]?=H[x]?) (by omega) (by decide) (by decide) (by simp) (by simp)
   ⟨by simp,by simp,by simp,by simp,by simp,K,_,_,Z,eY.none (by simp),b_⟩ ?_ ?_
  ·rintro j t H' hj ⟨g0,g2,g3,g8,N,K,l',O,I,hP,b⟩ ha hb next
   have hm:=uB L (at2 hj);obtain⟨i_,j4,-⟩:=qw L hm.1 hm.2;have M:=wI p L p.jR[j] hm.1 hm.2;simp [bM.row]at M;have i9:p.jR.take (j+1)=p.jR.take j++[p.jR[j]]:=by rw [auz,asZ hj];rfl
   have c_:∀ d,(uS (ps.drop (i+1)) n a s d∧∃ c ∈ p.jR.take (j+1),p.eS ∣ d-gU p c)↔(uS (ps.drop (i+1)) n a s d∧∃ c ∈ p.jR.take j,p.eS ∣ d-gU p c)∨(uS (ps.drop (i+1)) n a s d∧p.eS ∣ d-gU p p.jR[j]):=by
    intro d;rw [i9];simp only [auh,aua];constructor
    ·rintro⟨h,c,hc | rfl,e⟩
     ·exact .inl ⟨h,c,hc,e⟩
     ·exact .inr ⟨h,e⟩
    ·rintro(⟨h,c,hc,e⟩ | ⟨h,e⟩)
     ·exact⟨h,c,.inl hc,e⟩
     ·exact⟨h,_,.inr rfl,e⟩
   obtain⟨a9,e0⟩:=I.1;have e4:=I.2.2.2.2;have j5:=au K;refine aF ?_;apply ai;simp [ha,N,bt,hj,jG];rcases ajn a0 a1 (by omega) i_ j4 L.arb with⟨a',s',d9,d_,i7,b9,y⟩ | ⟨a8,y⟩
   ·apply ai;simp [g0,g2,g8,K,e0,A,E,B,M,y];have i8:s'*fQ (ps.drop (i+1))≤1000000:=by
     have:=av8 i7 (show 0≤fQ (ps.drop (i+1)) by omega);omega
    obtain⟨v,H2,J,rfl,l2,f2,e_,f_,a7⟩:=ih (i+1) (by omega) (H'++[.box [.f (fi a'),.f (fi s')] 0]) l' O a' s' (I.push _) d9 d_ i8;have J:=J.eq;have k4:(H'++[bz.box [.f (fi a'),.f (fi s')] 0])[4]?=aa (.box [.cl 259 [.ptr 0 0 0,.ptr 4 0 0,.ptr 1 0 0,.ptr 2 0 0,.ptr 3 0 0]] 0):=by rw [anc (au e4)];exact e4
    have kN:(H'++[bz.box [.f (fi a'),.f (fi s')] 0])[H'.length]?=aa (.box [.f (fi a'),.f (fi s')] 0):=by simp
    have kl:(H'++[bz.box [.f (fi a'),.f (fi s')] 0]).length=H'.length+1:=by simp
    have kb:(H'++[bz.box [.f (fi a'),.f (fi s')] 0])[b8]?=aa (.box [.f (fi a),.f (fi s)] 0):=by rw [anc (au K)];exact K
    have kk:∀ x:Nat,5≤x→x<H.length→(H'++[bz.box [.f (fi a'),.f (fi s')] 0])[x]?=H[x]?:=fun x h5 hx=>by
     rw [anc (by omega)];exact b x h5 hx
    apply al;refine an (.inl rfl) ?_;simp;generalize H'++[bz.box [.f (fi a'),.f (fi s')] 0]=HA at J k4 kN kl kb kk a7 ⊢;refine aq (by simp) ?_;refine an (.inl rfl) ?_;have h_:IntKind.i64.wrap ((i:Int)+1)=((i+1:Nat):Int):=by rw [aW];rfl
    simp [g0,g3,k4,kN,h_,bZ];rw [show(↑i+1:Int)=((i+1:Nat):Int) from rfl];simp only [J];simp;refine az (next _ _ ?_ (by simp [ha]) (by simp [hb]));refine⟨by simp [g0],by simp [g2],by simp [g3],by simp [g8],by simp [N],?_,l2,f2,e_,?_,?_⟩
    ·rw [a7 b8 (by omega) (by omega)];exact kb
    ·refine eY.trans hP (f_.iff (S':=fun d=>uS (ps.drop (i+1)) n a s d∧p.eS ∣ d-gU p p.jR[j]) fun d=>?_) c_;unfold uS;rw [←b9 d];constructor
     ·rintro⟨⟨U,W,X⟩,Y⟩;exact⟨U,⟨W,Y⟩,X⟩
     ·rintro⟨U,⟨W,Y⟩,X⟩;exact⟨⟨U,W,X⟩,Y⟩
    ·intro x h5 hx;rw [a7 x h5 (by omega)];exact kk x h5 hx
   ·apply ai;simp [g0,g2,g8,K,e0,A,E,B,M,y];apply al;refine an (.inl rfl) ?_;simp;refine bw (by simp) ?_;refine az (next _ _ ?_ (by simp [ha]) (by simp [hb]));refine⟨by simp [g0],by simp [g2],by simp [g3],by simp [g8],by simp [N],?_,l',O,I.push _,eY.trans hP (eY.none (S:=fun d=>uS (ps.drop (i+1)) n a s d∧p.eS ∣ d-gU p p.jR[j]) fun d hd=>a8 d ⟨hd.1.2.1,hd.2⟩) c_,?_⟩
    ·rw [anc (by omega)];exact K
    ·intro x h5 hx;rw [anc (by omega)];exact b x h5 hx
  ·rintro t H' ⟨g0,g2,g3,g8,N,K,l',O,I,hP,b⟩ - -;rw [auv]at hP;refine aC (hQ _ _ _ rfl rfl ⟨rfl,l',O,I,hP.iff fun d=>?_,b⟩);rw [a_];unfold uS;simp only [auc,forall_eq_or_imp];constructor
   ·rintro⟨U,W,X,Y⟩;exact⟨⟨U,W,Y⟩,X⟩
   ·rintro⟨⟨U,W,Y⟩,X⟩;exact⟨U,W,X,Y⟩
theorem zn{p:bM}:∀ {l:List bM},p ∈ l→p.eS ∣ fQ l
 | q::l,h=>by
  simp only [fQ];rcases auc.1 h with rfl | h
  ·exact avR _ _
  ·exact avg (zn h) (av5 _ _)
theorem P7{p:bM}{d k:Int}(h:ka p d)(g:p.eS ∣ k):ka p (d-k):=by
 obtain⟨c,b,e⟩:=h;refine⟨c,b,?_⟩;have:=avv e g;rwa [show d-gU p c-k=d-k-gU p c by omega]at this
theorem yU{ps:List bM}(j:∀ p ∈ ps,Mod p){m d:Int}(h:∀ p ∈ ps,ka p d)(u:m≤d):∃ g,m≤g∧g<m+fQ ps∧∀ p ∈ ps,ka p g:=by
 have v:=sy j;have l:=au4 (d-m) (fQ ps);have q:=auB (d-m) (show fQ ps≠0 by omega);have s:=auy (d-m) (show 0<fQ ps by omega);refine⟨d-fQ ps*((d-m) / fQ ps),by omega,by omega,fun p b=>P7 (h p b) (avg (zn b) (avR _ _))⟩
def amz(ps:List bM)(m d:Int):Prop:=m≤d∧(∀ p ∈ ps,ka p d)∧d<m+fQ ps∧∀ b,m≤b→(∀ p ∈ ps,ka p b)→d≤b
theorem aja(g:Tg)(ps:List bM)(y:∀ p ∈ ps,Mod p)(L:ps.length≤64)(W:fQ ps≤1000000)(n m:Int)(S:m=max n (dm ps))(I:m≤1000000000000) :
  (∃ d,amz ps m d∧bo tab 178 [.c (.f (sl g (ba ps))),vi n]=Eq (.t [vi d,vb ae])) ∨
  ((∀ d,m≤d→¬ ∀ p ∈ ps,ka p d)∧bo tab 178 [.c (.f (sl g (ba ps))),vi n]=Eq (.t [vi 0,vb ag])):=by
 have u:=adG g ps L;have X:=nS ps;have U:=sy y;obtain⟨v,H',b,rfl,l',O,E,z,-⟩:=aqR g ps y L m (by omega) I ps.length 0 (by omega) [.box [.f (sl g (ba ps))] 0,.box [.f (fi m)] 0,.box [.f (fi 1152921504606846976)] 0,.box [.f (.bool ag)] 0,.box [.cl 259 [.ptr 0 0 0,.ptr 4 0 0,.ptr 1 0 0,.ptr 2 0 0,.ptr 3 0 0]] 0]
  1152921504606846976 ag 0 1 ⟨⟨0,rfl⟩,rfl,rfl,rfl,rfl⟩ (by decide) (by decide) (by rw [au5];omega)
 rw [au5]at z;have H:∀ d,uS ps m 0 1 d↔m≤d∧∀ p ∈ ps,ka p d:=fun d=>⟨fun h=>⟨h.1,h.2.2⟩,fun h=>⟨h.1,Int.one_dvd _,h.2⟩⟩
 have j:max n (dm ps)=m:=S.symm;have b:=b.eq;simp only [show((0:Nat):Int)=0 from rfl]at b;cases O with
 | true=>
  left;have s:uS ps m 0 1 l':=by
   rcases z.src with⟨_,h⟩ | ⟨_,h⟩
   ·cases h
   ·exact h
  have l:∀ q,m≤q→(∀ p ∈ ps,ka p q)→l'≤q:=fun q A B=>(z.low q ((H q).2 ⟨A,B⟩)).1;obtain⟨M,N⟩:=(H l').1 s;obtain⟨x,J,Y,K⟩:=yU y N M;refine⟨l',⟨M,N,by have:=l x J K;omega,l⟩,bo.eq (bV rfl rfl fun Q F=>?_)⟩;apply ai;simp;apply ai;simp [u,j];apply ai;simp;apply ai;simp;apply ai;simp;apply ai;simp [bZ,b];apply al;apply ai;simp [E.2.2.2.1];refine bw (by simp) ?_;apply ai;simp [E.2.2.1];refine aC (F _ _ ?_);simp
 | false=>
  right;refine⟨fun d A B=>?_,bo.eq (bV rfl rfl fun Q F=>?_)⟩
  ·obtain⟨x,J,Y,K⟩:=yU y B A;have:=(z.low x ((H x).2 ⟨J,K⟩)).2 (by omega);cases this
  ·apply ai;simp;apply ai;simp [u,j];apply ai;simp;apply ai;simp;apply ai;simp;apply ai;simp [bZ,b];apply al;apply ai;simp [E.2.2.2.1];refine aq (by simp) ?_;apply ai;simp;refine aC (F _ _ ?_);simp
def uR:List (Int × Int)→List bM→Prop
 | _,[]=>True| ch,p::l=>∃ c ∈ p.jR,(∀ x ∈ ch,(avy p.eS x.2:Int) ∣ gU p c-x.1)∧uR (ch++[(gU p c,p.eS)]) l
theorem GB{d:Int}:∀(l:List bM) (g:List (Int × Int)),(∀ x ∈ g,x.2 ∣ d-x.1)→(∀ p ∈ l,ka p d)→uR g l
 | [],_,_,_=>trivial
 | p::l,g,m,u=>by
  obtain⟨c,j,s⟩:=u p at4;refine⟨c,j,fun x b=>?_,GB l _ (fun x b=>?_) fun q z=>u q (at5 _ z)⟩
  ·have v:=avg (awf p.eS x.2) (m x b);have y:=avg (av6 p.eS x.2) s;have:=avv v y;rwa [show d-x.1-(d-gU p c)=gU p c-x.1 by omega]at this
  ·rcases auh.1 b with b | b
   ·exact m x b
   ·rw [aua.1 b];exact s
def RH(B:aj)(H:aj)(g:Tg)(ps:List bM)(b:List Int):Prop:=(∃ a,H[B.length]?=aa (.box [.f (sl g (ba ps))] a))∧H[B.length+1]?=aa (.box (b.map fun x=>C.f (fi x)) 0)∧H[B.length+2]?=aa (.box [.sl (B.length+1) 0 ps.length ps.length 0 1] 0) ∧
 H[B.length+3]?=aa (.box [.cl 255 [.ptr B.length 0 0,.ptr (B.length+2) 0 0,.ptr (B.length+3) 0 0]] 0)∧∀ i:Nat,i<B.length→H[i]?=B[i]?
def Cho(ps:List bM)(d:List Int)(b:List (Int × Int)):Prop:=∀ j,(h:j<b.length)→d[j]?=aa b[j].1∧(∃ p,ps[j]?=aa p∧p.eS=b[j].2)∧0≤b[j].1∧b[j].1≤1000
theorem as6(B:aj){o:Nat}(ho:o=B.length)(g:Tg)(ps:List bM)(hM:∀ p ∈ ps,Mod p)(u9:ps.length≤64) :
  ∀(k i:Nat),i+k=ps.length→∀(H:aj) (ls:List Int) (m:List (Int × Int)),RH B H g ps ls→ls.length=ps.length→m.length=i→Cho ps ls m →
  ∃ v H',Ev tab (.fn 255) [vi i,.c (.ptr o 0 0),.c (.ptr (o+2) 0 0),.c (.ptr (o+3) 0 0)] H v H' ∧
   ∃ b,v=vb b∧(b=ae↔uR m (ps.drop i))∧∃ d,RH B H' g ps d∧d.length=ps.length∧d.take i=ls.take i:=by
 intro k;induction k with
 | zero=>
  intro i hi H ls m hH j4 i7 F;have:i=ps.length:=by omega
  subst this;obtain⟨q,q0⟩:=hH.1;rw [←ho]at q0;refine cI rfl rfl fun Q hQ=>?_;apply ai;simp;refine B_ ?_;apply al;apply ai;simp [q0];refine aq (by simp) ?_;apply ai;simp;exact aC (hQ _ _ _ rfl (kd (by simp)) ⟨ae,rfl,by rw [au8];simp [uR],ls,hH,j4,rfl⟩)
 | succ k ih=>
  intro i hi H ls m hH j4 i7 F;have z:i<ps.length:=by omega
  obtain⟨p,hp⟩:=aK (ps[i]);have u5:p ∈ ps:=hp▸at2 z;have O:=hM p u5;obtain⟨f0,f1,p0,p1,Az,-⟩:=fu O.ok;have s_:ps.drop i=p::ps.drop (i+1):=by rw [hp];exact at7 z
  have Z:=fun H:aj=>bL (H:=H) (cq ps) (dQ (l:=ps) (j:=i) z);have u:=fun H:aj=>il (H:=H) (k:=3) (cq ps) (dQ (l:=ps) (j:=i) z) rfl;have X:=fun H:aj=>il (H:=H) (k:=2) (cq ps) (dQ (l:=ps) (j:=i) z) rfl;have I:=fun H:aj=>bt (H:=H) (g:=g) (rows:=ba ps) (sz:=4) (k:=.i64) (i:=i) (by omega) (by simpa using z);rw [←hp]at Z u X;simp [bM.row]at Z I u X;obtain⟨q,q0⟩:=hH.1;rw [←ho]at q0;refine cI rfl rfl fun Q hQ=>?_;apply ai;simp;refine B_ ?_;apply al;apply ai;simp [q0];refine aD (by simp;omega) (aO ?_);refine al (acb ?_);apply al;apply ai;simp [q0,I,u];obtain⟨Ok,j9⟩:∃ Ok:Int→Prop,Ok=fun c=>(∀ x ∈ m,(avy p.eS x.2:Int) ∣ gU p c-x.1)∧uR (m++[(gU p c,p.eS)]) (ps.drop (i+1)):=⟨_,rfl⟩
  have S:∀ c,Ok c↔((∀ x ∈ m,(avy p.eS x.2:Int) ∣ gU p c-x.1)∧uR (m++[(gU p c,p.eS)]) (ps.drop (i+1))):=fun c=>by rw [j9]
  have e_:uR m (ps.drop i)↔∃ c ∈ p.jR,Ok c:=by rw [s_,j9];rfl
  refine bR p.jR.length (fun j t H'=>t.g 0=vi i∧t.g 1=.c (.ptr o 0 0)∧t.g 2=.c (.ptr (o+2) 0 0)∧t.g 3=.c (.ptr (o+3) 0 0)∧t.g 18=.c (.f (sl p.cg (ints p.jR))) ∧
   (∀ c ∈ p.jR.take j,¬ Ok c)∧∃ d,RH B H' g ps d∧d.length=ps.length∧d.take i=ls.take i) (by omega) (by decide) (by decide) (by simp) (by simp) ⟨by simp,by simp,by simp,by simp,by simp,by simp,ls,hH,j4,rfl⟩ ?_ ?_
  ·rintro j t H' hj ⟨g0,g1,g2,g3,s,c_,d,hR,K,L⟩ ha hb next
   have hm:=uB O (at2 hj);obtain⟨r_,u6,-⟩:=qw O hm.1 hm.2;have Y:=wI p O p.jR[j] hm.1 hm.2;simp [bM.row]at Y;have u_:=O.arb;have p_:p.jR.take (j+1)=p.jR.take j++[p.jR[j]]:=by rw [auz,asZ hj];rfl
   have g_:¬ Ok p.jR[j]→∀ c ∈ p.jR.take (j+1),¬ Ok c:=by
    intro h c hc;rw [p_,auh,aua]at hc;rcases hc with hc | rfl
    ·exact c_ c hc
    ·exact h
   obtain⟨r,hr⟩:=aK (gU p p.jR[j]);rw [←hr]at r_ u6 Y;obtain⟨q',d9⟩:=hR.1;have N:=hR.2.1;have d_:=hR.2.2.1;have q_:=hR.2.2.2.1;have r5:=hR.2.2.2.2;rw [←ho]at d9 N d_ q_ r5;have f_:∀ j,(h:j<m.length)→d[j]?=aa m[j].1:=fun j h=>by
    have h1:(d.take i)[j]?=d[j]?:=List.getElem?_take_of_lt (by omega);have h2:(ls.take i)[j]?=ls[j]?:=List.getElem?_take_of_lt (by omega);rw [←h1,L,h2];exact(F j h).1
   refine aF ?_;apply ai;simp [ha,s,bt,hj,jG];apply ai;simp [g0,g1,d9,I,Z,Y];apply al;apply ai;simp [g0];refine bR i (fun n t H2=>(t.g 0=vi i∧t.g 1=.c (.ptr o 0 0)∧t.g 2=.c (.ptr (o+2) 0 0)∧t.g 3=.c (.ptr (o+3) 0 0)∧t.g 18=.c (.f (sl p.cg (ints p.jR)))∧t.g 20=vi j∧t.g 19=vi p.jR.length∧t.g 8=vi r)∧H2=H'∧∀ x ∈ m.take n,(avy p.eS x.2:Int) ∣ r-x.1)
    (by omega) (by decide) (by decide) (by simp) (by simp) ⟨⟨by simp [g0],by simp [g1],by simp [g2],by simp [g3],by simp [s],by simp [ha],by simp [hb],by simp⟩,rfl,by simp⟩ ?_ ?_
   ·rintro n t H2 hn ⟨⟨g0,g1,g2,g3,s,a8,a7,g8⟩,i5,E⟩ k_ s9 nx;rw [i5];have b_:n<ps.length:=by omega
    have b9:n<m.length:=by omega
    obtain⟨-,⟨pn,n_,j5⟩,x0,x1⟩:=F n b9;have i_:=f_ n b9;obtain⟨x,hx⟩:=aK (m[n]);rw [←hx]at i_ j5 x0 x1;have h_:ps[n]=pn:=by rw [asZ b_]at n_;exact avY n_
    have s8:=hM pn (h_▸at2 b_);obtain⟨-,-,z0,z1,-⟩:=fu s8.ok;rw [j5]at z0 z1;have A:=fun H:aj=>il (H:=H) (k:=2) (cq ps) (dQ (l:=ps) (j:=n) b_) rfl;have U:=fun H:aj=>bt (H:=H) (g:=g) (rows:=ba ps) (sz:=4) (k:=.i64) (i:=n) (by omega) (by simpa using b_);rw [h_]at A;simp [bM.row,j5]at A U;have W:bG H' 1 ab (.c (.sl (o+1) 0 ps.length ps.length 0 1)) (vi n)=aa (.c (.ptr (o+1) n 0)):=by
     simp [bG,ik,N,K];omega
    have m_:aV H' ab (.c (.ptr (o+1) n 0))=aa (vi x.1):=by
     have hd:(d.map fun y=>C.f (fi y)).drop n=C.f (fi x.1) ::(d.map fun y=>C.f (fi y)).drop (n+1):=by
      rw [at7 (by simp;omega),List.getElem_map];rw [asZ (by omega)]at i_;rw [avY i_]
     simp only [aV,aG,N,Option.bind_some];rw [hd];rfl
    have t_:aV H' ab (.c (.ptr (o+2) 0 0))=aa (.c (.sl (o+1) 0 ps.length ps.length 0 1)):=by simp [d_]
    have t9:aV H' ab (.c (.ptr o 0 0))=aa (.c (.f (sl g (ba ps)))):=by simp [d9]
    obtain⟨gg,i9⟩:=aK ((avy p.eS x.2:Int):Int);have t7:avy p.eS x.2=av3 p.eS.toNat x.2.toNat:=by
     show av3 p.eS.natAbs x.2.natAbs=_;rw [show p.eS.natAbs=p.eS.toNat by omega,show x.2.natAbs=x.2.toNat by omega]
    have u7:0<gg:=by
     have:=avS x.2 (show p.eS≠0 by omega);omega
    have m4:bo tab 257 [vi p.eS,vi x.2]=Eq (vi gg):=by
     have h:=abS (a:=p.eS.toNat) (b:=x.2.toNat) (by omega) (by omega);rw [show((p.eS.toNat:Nat):Int)=p.eS by omega,show((x.2.toNat:Nat):Int)=x.2 by omega,←t7,←i9]at h;exact h
    have s7:=aW (n:=r-x.1);have o_:dp .rem (vi (r-x.1)) (vi gg)=aa (vi ((r-x.1).tmod gg)):=iy (by omega);have J:m.take (n+1)=m.take n++[x]:=by rw [auz,asZ b9,hx];rfl
    refine aF ?_;apply ai;simp [k_];apply ai;simp [g0,g1,g2,g8,t9,t_,W,m_,I,X,U,A,m4,s7,o_,-aA];by_cases hd:gg ∣ r-x.1
    ·have j6:(r-x.1).tmod gg=0:=Int.tmod_eq_zero_of_dvd hd;refine bw (by simp [j6]) ?_;refine az (nx _ _ ?_ (by simp [k_]) (by simp [s9]));refine⟨⟨by simp [g0],by simp [g1],by simp [g2],by simp [g3],by simp [s],by simp [a8],by simp [a7],by simp [g8]⟩,rfl,fun y hy=>?_⟩;rw [J,auh,aua]at hy;rcases hy with hy | rfl
     ·exact E y hy
     ·rw [←i9];exact hd
    ·have j6:¬ (r-x.1).tmod gg=0:=fun e=>hd (Int.dvd_of_tmod_eq_zero e);refine aq (by simp [j6]) ?_;refine bJ rfl (next _ _ ?_ (by simp [a8]) (by simp [a7]));refine⟨by simp [g0],by simp [g1],by simp [g2],by simp [g3],by simp [s],g_ ?_,d,hR,K,L⟩;rw [S];rintro⟨h,-⟩;have:=h x (hx▸at2 b9);rw [←i9,←hr]at this;exact hd this
   ·rintro t H2 ⟨⟨g0,g1,g2,g3,s,a8,a7,g8⟩,i5,E⟩ - -;rw [i5];rw [at8 (by omega)]at E;have W:bG H' 1 ab (.c (.sl (o+1) 0 ps.length ps.length 0 1)) (vi i)=aa (.c (.ptr (o+1) i 0)):=by
     simp [bG,ik,N,K];omega
    have i4:dh H' (.ptr (o+1) i 0) [.f (fi r)]=aa (H'.set (o+1) (.box ((d.set i r).map fun y=>C.f (fi y)) 0)):=by
     simp only [dh,N];rw [bg (by simp;omega),Cs (by simp;omega),List.map_set]
    have n9:(H'.set (o+1) (.box ((d.set i r).map fun y=>C.f (fi y)) 0))[o+3]?=H'[o+3]?:=aft (by omega);have n8:=au N;have i6:RH B (H'.set (o+1) (.box ((d.set i r).map fun y=>C.f (fi y)) 0)) g ps (d.set i r):=by
     unfold RH;rw [←ho];refine⟨⟨q',?_⟩,atY n8,?_,?_,fun i hi=>?_⟩
     ·rw [aft (by omega)];exact d9
     ·rw [aft (by omega)];exact d_
     ·rw [n9];exact q_
     ·rw [aft (by omega)];exact r5 i hi
    have i8:Cho ps (d.set i r) (m++[(r,p.eS)]):=by
     intro y hy;rw [List.length_append,List.length_singleton]at hy;by_cases j7:y<m.length
     ·rw [List.getElem_append_left j7,aft (by omega)];obtain⟨-,h2,h3⟩:=F y j7;exact⟨f_ y j7,h2,h3⟩
     ·have:y=i:=by omega
      subst this;rw [List.getElem_append_right (by omega)];simp only [i7,Nat.sub_self,List.getElem_cons_zero];refine⟨by rw [atY (by omega)],⟨p,by rw [asZ z,hp],rfl⟩,r_,by omega⟩
    obtain⟨v,H3,a_,b,rfl,l_,M,j_,m9,J⟩:=ih (i+1) (by omega) _ _ (m++[(r,p.eS)]) i6 (by simpa using K) (by simp [i7]) i8;have a_:=a_.eq;have j8:=i6.2.2.2.1;rw [←ho]at j8;generalize H'.set (o+1) (.box ((d.set i r).map fun y=>C.f (fi y)) 0)=HN at i4 a_ j8 n9 i6;have t8:IntKind.i64.wrap ((i:Int)+1)=((i+1:Nat):Int):=by rw [aW];rfl
    apply ai;simp [g0,g2,g8,d_,W,i4,-bl];apply ai;simp [g0,g3,j8,t8,bZ];rw [show(↑i+1:Int)=((i+1:Nat):Int) from rfl];simp only [a_];simp;cases b with
    | true=>
     refine aq (by simp) ?_;apply ai;simp;refine aC (hQ _ _ _ rfl (kd (by simp)) ⟨ae,rfl,?_,M,j_,m9,?_⟩)
     ·rw [e_];refine⟨fun _=>⟨_,at2 hj,?_⟩,fun _=>rfl⟩;rw [S,←hr];exact⟨E,l_.1 rfl⟩
     ·have h1:(M.take (i+1)).take i=M.take i:=by rw [avA,avm (by omega)]
      rw [←h1,J,avA,avm (by omega),List.take_set_of_le (by omega),L]
    | false=>
     refine bw (by simp) ?_;refine az (next _ _ ?_ (by simp [a8]) (by simp [a7]));refine⟨by simp [g0],by simp [g1],by simp [g2],by simp [g3],by simp [s],g_ ?_,M,j_,m9,?_⟩
     ·rw [S,←hr];rintro⟨-,h⟩;have:=l_.2 h;cases this
     ·have h1:(M.take (i+1)).take i=M.take i:=by rw [avA,avm (by omega)]
      rw [←h1,J,avA,avm (by omega),List.take_set_of_le (by omega),L]
  ·rintro t H' ⟨g0,g1,g2,g3,s,c_,d,hR,K,L⟩ - -;rw [auv]at c_;apply ai;simp;refine aC (hQ _ _ _ rfl (kd (by simp)) ⟨ag,rfl,?_,d,hR,K,L⟩);rw [e_];constructor
   ·intro h;cases h
   ·rintro⟨c,hc,h⟩;exact absurd h (c_ c hc)
end Go.Proofs.YtnaofdffomdmhaaGreat
