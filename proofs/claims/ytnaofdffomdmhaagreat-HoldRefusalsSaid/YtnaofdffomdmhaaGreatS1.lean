/-
  aop the nX kU and the ny answer, for all arguments of their kind, in the small machine: part 1.
-/
import Derived.Test.YtnaofdffomdmhaaGreatTab
import Derived.Test.YtnaofdffomdmhaaGreatK4
open Option renaming some → aa,none → ab
open Bool renaming true → ae,false → ag
open List renaming drop_eq_getElem_cons → auR, getElem_mem → anc, any_eq_false → awB, append_nil → av0, getElem?_append_left → AT, mem_cons → avn, pairwise_iff_getElem → avV, getElem?_set_self → IN, getElem?_set_ne → AI, set_getElem_self → awy, any_eq_true → awd, getElem_of_mem → avQ, append_assoc → avU, getElem?_eq_getElem → By, map_cons → avl, mem_cons_self → atI, mem_cons_of_mem → aul, rel_of_pairwise_cons → awh, take_add_one → avK, filter_append → aw6, length_map → avi, length_filter_le → av5, length_take → avA, take_of_length_le → avj, mem_map → avx, map_nil → avs, cons_append → awc, nil_append → awm, findIdx?_eq_some_iff_getElem → awq, pairwise_cons → avZ, pairwise_map → awY, mem_append → avq, mem_of_mem_drop → av9, all_eq_true → avz, take_length → avH, drop_length → awg, mem_singleton → avh, drop_zero → awj, take_take → awH
open Bool renaming true_and → av1, and_eq_true → If, eq_iff_iff → awf
open Nat renaming lt_of_lt_of_le → avJ, le_trans → avv, le_refl → aft, lt_trichotomy → awp, gcd → axa, min_eq_left → aws
open List.Pairwise renaming of_cons → awX
open Int renaming tmod_eq_emod_of_nonneg → awt, tdiv_eq_ediv_of_nonneg → aw1, ediv_nonneg → awU, le_trans → axn, ediv_le_self → awQ, mul_nonneg → awo, emod_nonneg → avO, emod_lt_of_pos → avG, mul_le_mul_of_nonneg_left → avu, tmod_lt_of_pos → axk, lt_tmod_of_pos → axl, emod_eq_emod_iff_emod_sub_eq_zero → aw4, dvd_mul_right → awZ, gcd → awG, lt_or_le → awu, emod_add_mul_ediv → awe, mul_comm → awM, mul_sub → axb, mul_assoc → awO, dvd_sub → awD, dvd_mul_left → axc, dvd_trans → awn, gcd_dvd_left → axd, gcd_dvd_right → axm, gcd_pos_of_ne_zero_left → aw0, ediv_mul_cancel → axi, natCast_mul → awT, mul_le_mul_of_nonneg_right → axf
open Option.some renaming inj → awN
set_option linter.unusedVariables false
set_option linter.constructorNameAsVariable false
set_option linter.unusedSimpArgs false
set_option linter.unusedSectionVars false
set_option linter.unnecessarySimpa false
set_option maxRecDepth 100000
namespace Go.Proofs.YtnaofdffomdmhaaGreat
open Go Km
def bt(n lo hi:Int):Bool:=decide (lo≤n)&&decide (n≤hi)
theorem oh{n lo hi:Int}(h:bt n lo hi=ae):lo≤n∧n≤hi:=by simpa [bt]using h
theorem ze(n lo hi:Int):Kf tab 193 [vi n,vi lo,vi hi] (vb (bt n lo hi)):=by
 refine cr rfl rfl fun H Q b=>?_;apply an;refine aq (.inl rfl) ?_;simp;apply an;refine aq (.inl rfl) ?_;by_cases h:lo≤n
 ·simp [h];refine aC (b _ _ ?_);simp [bt,h]
 ·simp [h];refine aC (b _ _ ?_);simp [bt,h]
@[simp] theorem aqy (n lo hi:Int):bg tab 193 [vi n,vi lo,vi hi]=Eq (vb (bt n lo hi)):=(ze n lo hi).eq
theorem tG(g:Tg)(l:List Int)(v:Int)(b:l.length≤9223372036854775807) :
  Kf tab 272 [.c (.f (sl g (ints l))),vi v] (vb (l.any (· == v))):=
 fh aob (zP aoj g l v b)
structure cC where
 cap:Int
 jm:Int
 oP:Int
 (o0 o1 o2 o3 o4 o5 o6 o7 o8 o9:FC)
 qg:Tg
 q:List (Int × Int)
 pg:Tg
 p:List Int
def fV(l:List (Int × Int)):List (List FC):=l.map fun x=>[fi x.1,fi x.2]
@[simp] theorem aqw (l:List (Int × Int)):(fV l).length=l.length:=by simp [fV]
theorem vQ(l:List (Int × Int)):cu 2 (fV l):=cu.map fun _=>rfl
theorem Ch{l:List (Int × Int)}{j:Nat}(b:j<l.length):(fV l)[j]?=aa [fi l[j].1,fi l[j].2]:=by simp [fV,b]
def cC.op(r:cC):List C:=[.f r.o0,.f r.o1,.f r.o2,.f r.o3,.f r.o4,.f r.o5,.f r.o6,.f r.o7,.f r.o8,.f r.o9]
def cC.row(r:cC):List FC:=[fi r.cap,fi r.jm,fi r.oP,r.o0,r.o1,r.o2,r.o3,r.o4,r.o5,r.o6,r.o7,r.o8,r.o9,sl r.qg (fV r.q),sl r.pg (ints r.p)]
def rows(l:List cC):List (List FC):=l.map cC.row
@[simp] theorem asL (l:List cC):(rows l).length=l.length:=by simp [rows]
theorem fD(l:List cC):cu 15 (rows l):=cu.map fun _=>rfl
theorem rp{l:List cC}{j:Nat}(b:j<l.length):(rows l)[j]?=aa l[j].row:=by simp [rows,b]
def lN(r:cC):Prop:=bg tab 190 [.a r.op] (vi 0)
def tE(r:cC):Bool:=decide (64<(r.q.length:Int))||decide (64<(r.p.length:Int))
def Af(l:List cC)(p:Int):Nat:=((l[p.toNat]?).map (·.p.length)).getD 0
theorem akJ{l:List cC}{p:Int}(h0:0≤p)(b:p.toNat<l.length):Af l p=(l[p.toNat]).p.length:=by simp [Af,b]
def jw(b:Int):List (Int × Int)→Bool
 | []=>ae| x::r=>bt x.1 (b+1) 63&&bt x.2 0 10080&&jw x.1 r
def mj(l:List cC)(i b:Int):List Int→Bool
 | []=>ae| p::r=>bt p (b+1) ((l.length:Int)-1)&&!decide (p=i)&&decide (Af l p=0)&&mj l i p r
def eL(l:List cC)(i:Nat)(r:cC):Bool:=
 bt r.cap 1 512&&bt r.jm 0 1440&&bt r.oP 0 1440&&jw (-1) r.q&&mj l i (-1) r.p
def gz(l:List cC):Nat→List cC→Bool
 | _,[]=>ae| i,r::b=>eL l i r&&gz l (i+1) b
def mw(l:List cC):Int:=if l.any tE then 2 else if gz l 0 l then 0 else 1
theorem aoB(r:cC)(j:lN r):Kf tab 189 [.a (r.row.map .f)] (vb (tE r)):=by
 refine cr rfl rfl fun H Q d=>?_;have g:=bg.eq j;simp only [cC.op]at g;apply an;refine aq (.inl rfl) ?_;simp [cC.row];apply an;refine aq (.inl rfl) ?_;simp;refine FU (fun h=>?_) (fun h=>?_)
 ·simp [h];refine FU (fun b=>?_) (fun b=>?_)
  ·simp [b,g];refine aC (d _ _ ?_);simp [tE,h,b]
  ·simp [b];refine aC (d _ _ ?_);simp [tE,h,b]
 ·simp [h];refine aC (d _ _ ?_);simp [tE,h]
theorem PN(g:Tg)(l:List cC)(q:l.length≤6)(d:∀ r ∈ l,lN r) :
  Kf tab 191 [.c (.f (sl g (rows l))),.c (.f (.fn 189 []))] (vb (l.any tE)):=
 fh an' (jF aog l cC.row (fun r=>.a (r.row.map .f)) tE g 189 [] (by omega)
  (fun j b H=>bL (fD l) (rp b)) (fun r m=>aoB r (d r m)))
structure bQ where
 hg:Tg
 head:List Int
 fr:Int
 eV:Int
 cg:Tg
 jY:List Int
def bQ.row(p:bQ):List FC:=[sl p.hg (ints p.head),fi p.fr,fi p.eV,sl p.cg (ints p.jY)]
def ba(l:List bQ):List (List FC):=l.map bQ.row
@[simp] theorem Cj (l:List bQ):(ba l).length=l.length:=by simp [ba]
theorem cm(l:List bQ):cu 4 (ba l):=cu.map fun _=>rfl
theorem dV{l:List bQ}{j:Nat}(b:j<l.length):(ba l)[j]?=aa l[j].row:=by simp [ba,b]
def eM(b d:Int):List Int→Bool
 | []=>ae| n::r=>decide (d<n)&&decide (n<b)&&eM b n r
theorem Aj{b d:Int}{l:List Int}{j:Nat}(g:j<l.length):eM b d (l.drop j)=(decide (d<l[j])&&decide (l[j]<b)&&eM b l[j] (l.drop (j+1))):=by
 rw [auR g];rfl
def gG(p:bQ):Bool:=decide (0≤p.fr)&&decide (p.fr≤1099511627776)&&decide (1≤p.eV)&&decide (p.eV≤1099511627776) &&
 decide ((p.head.length:Int)+p.jY.length≤1048576)&&eM p.fr (-1) p.head&&eM p.eV (-1) p.jY
theorem Rf(g:Tg)(l:List Int)(b:Int)(E:l.length≤9223372036854775807):Kf tab 249 [.c (.f (sl g (ints l))),vi b] (vb (eM b (-1) l)):=by
 refine cr rfl rfl fun H Q u=>?_;apply ai;simp;apply ai;simp;apply an;apply ai;simp;refine bS l.length (fun j t H'=>t.g 1=vi b∧t.g 8=.c (.f (sl g (ints l)))∧H=H'∧∃ d,t.g 5=vi d∧eM b (-1) l=eM b d (l.drop j)) E (by decide) (by decide) (by simp) (by simp) (by simp) ?_ ?_
 ·rintro j t _ z ⟨q,s,rfl,d,x,m⟩ v y next
  rw [Aj z]at m;refine aF ?_;apply ai;simp [v,s,bl,z,jP];apply an;apply ai;simp [x,q];by_cases A:l[j]≤d
  ·simp [A];refine au (by simp) ?_;apply ai;simp;refine aC (u _ _ ?_);simp [m,show¬ d<l[j] by omega]
  simp [A,q];by_cases B:b≤l[j]
  ·simp [B];refine au (by simp) ?_;apply ai;simp;refine aC (u _ _ ?_);simp [m,show¬ l[j]<b by omega]
  simp [B];refine aB (by simp) ?_;refine aP ?_;refine aq (.inl rfl) ?_;simp;refine aA (next _ _ ?_ (by simp [v]) (by simp [y]));rw [decide_eq_true (by omega),decide_eq_true (by omega)]at m;exact⟨by simp [q],by simp [s],rfl,l[j],by simp,by simpa using m⟩
 ·rintro t _ ⟨q,s,rfl,d,x,m⟩ v y;apply ai;simp;refine aC (u _ _ ?_);simp [m,eM]
theorem yS(g:Tg)(l:List Int)(b:Int)(d:l.length≤9223372036854775807) :
  bg tab 249 [.c (.f (sl g (ints l))),vi b]=Eq (vb (eM b (-1) l)):=(Rf g l b d).eq
theorem apD(p:bQ)(s:p.head.length≤9223372036854775807)(u:p.jY.length≤9223372036854775807)(h:p.head.length+p.jY.length≤9223372036854775807) :
  Kf tab 168 [.a (p.row.map .f)] (vb (gG p)):=by
 refine cr rfl rfl fun H Q b=>?_;apply ai;simp [bQ.row];apply ai;simp;by_cases d:0≤p.fr
 case neg=>
  simp [d];refine aC (b _ _ ?_);simp [gG,d]
 simp [d];by_cases g:p.fr≤1099511627776
 case neg=>
  simp [g];refine aC (b _ _ ?_);simp [gG,g]
 simp [g];by_cases j:1≤p.eV
 case neg=>
  simp [j];refine aC (b _ _ ?_);simp [gG,j]
 simp [j];by_cases l:p.eV≤1099511627776
 case neg=>
  simp [l];refine aC (b _ _ ?_);simp [gG,l]
 simp [l,aW (n:=(p.head.length:Int)+p.jY.length)];by_cases m:(p.head.length:Int)+p.jY.length≤1048576
 case neg=>
  simp [m];refine aC (b _ _ ?_);simp [gG,m]
 simp [m,yS p.hg p.head p.fr s];cases q:eM p.fr (-1) p.head
 ·simp;refine aC (b _ _ ?_);simp [gG,q]
 simp [yS p.cg p.jY p.eV u];refine aC (b _ _ ?_);simp [gG,d,g,j,l,m,q]
def bQ.Sm(p:bQ):Prop:=p.head.length+p.jY.length≤9223372036854775807
theorem ad2(p:bQ)(h:p.Sm):bg tab 168 [.a (p.row.map .f)]=Eq (vb (gG p)):=by
 have h:p.head.length+p.jY.length≤9223372036854775807:=h;exact(apD p (by omega) (by omega) h).eq
theorem Gi{p:bQ}(h:gG p=ae):p.Sm:=by
 simp [gG]at h;show p.head.length+p.jY.length≤9223372036854775807;omega
structure dG where
 tg:Tg
 fs:List bQ
def dG.row(t:dG):List FC:=[sl t.tg (ba t.fs)]
def aN(l:List dG):List (List FC):=l.map dG.row
@[simp] theorem alH (l:List dG):(aN l).length=l.length:=by simp [aN]
theorem iF(l:List dG):cu 1 (aN l):=cu.map fun _=>rfl
theorem ku{l:List dG}{j:Nat}(b:j<l.length):(aN l)[j]?=aa l[j].row:=by simp [aN,b]
def dG.Sm(t:dG):Prop:=t.fs.length≤9223372036854775807∧∀ p ∈ t.fs,p.Sm
def kr(t:dG):Bool:=decide (1≤(t.fs.length:Int))&&decide ((t.fs.length:Int)≤4)&&t.fs.all gG
def nm(l:List dG):Bool:=decide ((l.length:Int)≤64)&&l.all kr
theorem acq{b:Type}{l:List b}{p:b→Bool}{j:Nat}(d:j<l.length):(l.drop j).all p=(p l[j]&&(l.drop (j+1)).all p):=by
 rw [auR d,List.all_cons]
theorem aoA(p:bQ)(h:p.Sm):Kf tab 167 [.a (p.row.map .f)] (vb (!gG p)):=by
 refine cr rfl rfl fun H Q d=>?_;have b:=ad2 p h;simp [bQ.row]at b;apply ai;simp [bQ.row];apply ai;simp [b];refine aC (d _ _ ?_);simp
theorem PL(g:Tg)(l:List bQ)(d:l.length≤9223372036854775807)(h:∀ p ∈ l,p.Sm) :
  bg tab 166 [.c (.f (sl g (ba l))),.c (.f (.fn 167 []))]=Eq (vb (l.any fun p=>!gG p)):=
 (fh acd (jF ace l bQ.row (fun r=>.a (r.row.map .f)) (fun p=>!gG p) g 167 [] d
  (fun j b H=>bL (cm l) (dV b)) (fun p m=>aoA p (h p m)))).eq
theorem Ee(g:Tg)(l:List dG)(F:l.length≤9223372036854775807)(h:∀ t ∈ l,t.Sm):Kf tab 98 [.a [.f (sl g (aN l))]] (vb (nm l)):=by
 refine cr rfl rfl fun H Q u=>?_;apply ai;simp;apply an;apply ai;simp;by_cases z:(64:Int)<l.length
 ·simp [z];refine au (by simp) ?_;apply ai;simp;refine aC (u _ _ ?_);simp [nm,show¬ (l.length:Int)≤64 by omega]
 simp [z];refine aB (by simp) ?_;refine aP ?_;apply an;apply ai;simp;refine bS l.length (fun j t H'=>t.g 10=.c (.f (sl g (aN l)))∧(∃ J,H'=H++J)∧l.all kr=(l.drop j).all kr) F (by decide) (by decide) (by simp) (by simp) (by simp) ?_ ?_
 ·rintro j t _ q ⟨d,⟨J,rfl⟩,m⟩ v x next
  rw [acq q]at m;have y:=h l[j] (anc q);have b:=gq (H:=H++J) (k:=0) (iF l) (ku q) rfl;refine aF ?_;apply ai;simp at b;simp [v,d,bl,q,b];have bad:kr l[j]=ag→∀(t:T) (J:aj) k,WP tab 98 ab (.code (.region [⟨D 2,.aZ (.k (.c (.f (.bool ag)))),ab⟩] [])::.code .ret::k) ⟨t,[],H++J⟩ Q:=by
   intro E t J k;refine aq (.inl rfl) ?_;simp;refine aC (u _ _ ?_);simp [nm,m,E]
  apply ai;simp;by_cases A:(l[j].fs.length:Int)<1
  ·simp [A];exact au (by simp) (an (bad (by simp [kr,show¬ 1≤(l[j].fs.length:Int) by omega]) _ _ _))
  simp [A];by_cases B:(4:Int)<l[j].fs.length
  ·simp [B];exact au (by simp) (an (bad (by simp [kr,show¬ (l[j].fs.length:Int)≤4 by omega]) _ _ _))
  simp [B,PL l[j].tg l[j].fs y.1 y.2];cases s:l[j].fs.any fun p=>!gG p
  ·have:kr l[j]=ae:=by
    simp [kr]at s ⊢;exact⟨⟨by omega,by omega⟩,s⟩
   refine aB (by simp) ?_;refine aP (aA (next _ _ ?_ (by simp [v]) (by simp [x])));rw [this,av1]at m;exact⟨by simp [d],⟨_,rfl⟩,m⟩
  ·exact au (by simp) (an (bad (by simp [kr]at s ⊢;intro _ _;exact s) _ _ _))
 ·rintro t _ ⟨d,⟨J,rfl⟩,m⟩ v x;apply ai;simp;refine aC (u _ _ ?_);simp [nm,m,show(l.length:Int)≤64 by omega]
theorem qQ(a:Int):bg tab 130 [vi a]=Eq (vb ag):=(show Kf tab 130 [vi a] (vb ag) by
 refine cr rfl rfl fun H Q b=>?_;apply ai;simp;apply ai;simp;refine aC (b _ _ ?_);simp).eq
def dg(a b:Int):Int:=if a<b then -1 else if b<a then 1 else 0
theorem DG(a b:Int):Kf tab 72 [vi a,vi b] (vi (dg a b)):=by
 refine cr rfl rfl fun H Q g=>?_;apply ai;simp;apply ai;simp [qQ];apply ai;simp [qQ];apply an;apply ai;simp;refine bo (by simp) ?_;apply an;apply ai;simp;refine bo (by simp) ?_;apply an;apply ai;simp;by_cases h:a<b
 ·refine au (by simp [h]) ?_;apply ai;simp;refine aC (g _ _ ?_);simp [dg,h]
 refine bo (by simp [h]) ?_;apply an;apply ai;simp;by_cases d:b<a
 ·refine au (by simp [d]) ?_;apply ai;simp;refine aC (g _ _ ?_);simp [dg,h,d]
 refine bo (by simp [d]) ?_;apply ai;simp;refine aC (g _ _ ?_);simp [dg,h,d]
theorem gm(a b:Int):bg tab 72 [vi a,vi b]=Eq (vi (dg a b)):=(DG a b).eq
def vL:List Int→Int
 | []=>0| a::r=>if a=0 then vL r else a
theorem adW{l:List Int}{j:Nat}(b:j<l.length):vL (l.drop j)=if l[j]=0 then vL (l.drop (j+1))else l[j]:=by
 rw [auR b];rfl
theorem asD(g:Tg)(l:List Int)(x:l.length≤9223372036854775807):Kf tab 76 [.c (.f (sl g (ints l)))] (vi (vL l)):=by
 refine cr rfl rfl fun H Q s=>?_;apply ai;simp;apply ai;simp;apply an;apply ai;simp;refine bS l.length (fun j t H'=>t.g 3=vi 0∧t.g 6=.c (.f (sl g (ints l)))∧H=H'∧vL l=vL (l.drop j)) x (by decide) (by decide) (by simp) (by simp) (by simp) ?_ ?_
 ·rintro j t _ v ⟨d,m,rfl,b⟩ q u next
  rw [adW v]at b;refine aF ?_;apply ai;simp [q,m,bl,v,jP];apply ai;simp [d];by_cases h:l[j]=0
  ·refine aB (by simp [h]) ?_;refine aP (aA (next _ _ ?_ (by simp [q]) (by simp [u])));rw [bf h]at b;exact⟨by simp [d],by simp [m],rfl,b⟩
  ·refine au (by simp [h]) ?_;apply ai;simp;refine aC (s _ _ ?_);simp [b,h]
 ·rintro t _ ⟨d,m,rfl,b⟩ q u;apply ai;simp [d];refine aC (s _ _ ?_);simp [b,vL]
theorem yL(g:Tg)(l:List Int)(b:l.length≤9223372036854775807):bg tab 76 [.c (.f (sl g (ints l)))]=Eq (vi (vL l)):=(asD g l b).eq
theorem aoN(n lo hi:Int):Kf tab 97 [vi n,vi lo,vi hi] (vb (bt n lo hi)):=by
 refine cr rfl rfl fun H Q b=>?_;apply ai;simp;apply ai;by_cases h:lo≤n
 ·simp [h];refine aC (b _ _ ?_);simp [bt,h]
 ·simp [h];refine aC (b _ _ ?_);simp [bt,h]
@[simp] theorem at5 (n lo hi:Int):bg tab 97 [vi n,vi lo,vi hi]=Eq (vb (bt n lo hi)):=(aoN n lo hi).eq
structure aI where
 day:Int
 fr:Int
 to:Int
deriving DecidableEq
def aI.row(x:aI):List FC:=[fi x.day,fi x.fr,fi x.to]
def aH(l:List aI):List (List FC):=l.map aI.row
@[simp] theorem jr (l:List aI):(aH l).length=l.length:=by simp [aH]
theorem bz(l:List aI):cu 3 (aH l):=cu.map fun _=>rfl
theorem fk{l:List aI}{j:Nat}(b:j<l.length):(aH l)[j]?=aa l[j].row:=by simp [aH,b]
def eY(x y:aI):Int:=vL [dg x.fr y.fr,dg x.day y.day,dg x.to y.to]
theorem adY(x y:aI):Kf tab 99 [.a (x.row.map .f),.a (y.row.map .f)] (vi (eY x y)):=by
 refine cr rfl rfl fun H Q d=>?_;have b:=yL .fs [dg x.fr y.fr,dg x.day y.day,dg x.to y.to] (by simp);simp [ints,sl,Tg.fc]at b;apply ai;simp [aI.row];apply ai;simp [gm,deep,mD,qW,b];refine aC (d _ _ ?_);simp [eY]
theorem vM(x y:aI):bg tab 99 [.a (x.row.map .f),.a (y.row.map .f)]=Eq (vi (eY x y)):=(adY x y).eq
theorem adL(g:Tg)(l:List dG)(b:l.length≤9223372036854775807)(h:∀ t ∈ l,t.Sm):bg tab 98 [.a [.f (sl g (aN l))]]=Eq (vb (nm l)):=(Ee g l b h).eq
structure cJ where
 mg:Tg
 ts:List dG
 min:Int
def cJ.row(c:cJ):List FC:=[sl c.mg (aN c.ts),fi c.min]
def aM(l:List cJ):List (List FC):=l.map cJ.row
@[simp] theorem wR (l:List cJ):(aM l).length=l.length:=by simp [aM]
theorem cK(l:List cJ):cu 2 (aM l):=cu.map fun _=>rfl
theorem dI{l:List cJ}{j:Nat}(b:j<l.length):(aM l)[j]?=aa l[j].row:=by simp [aM,b]
structure aK where
 cg:Tg
 cs:List cJ
 len:Int
 xg:Tg
 xs:List aI
def aK.row(s:aK):List FC:=[sl s.cg (aM s.cs),fi s.len,sl s.xg (aH s.xs)]
def aK.Sm(s:aK):Prop:=s.cs.length≤9223372036854775807∧s.xs.length≤9223372036854775807∧∀ c ∈ s.cs,c.ts.length≤9223372036854775807∧∀ t ∈ c.ts,t.Sm
def eR:Option Int→List cJ→Bool
 | _,[]=>ae| prev,c::r=>nm c.ts&&bt c.min (-4320) 4320&&(prev.all fun m=>decide (m<c.min))&&eR (aa c.min) r
def qC(x:aI):Bool:=bt x.day 0 1099511627776&&bt x.fr (-2251799813685248) 1583296743997439&&bt x.to (x.fr+1) (x.fr+10080)
def iW:Option aI→List aI→Bool
 | _,[]=>ae| prev,x::r=>qC x&&(prev.all fun m=>decide (eY m x<0))&&iW (aa x) r
def ea(s:aK):Bool:=decide ((s.cs.length:Int)≤64)&&bt s.len 1 10080&&decide ((s.xs.length:Int)≤4096)&&eR ab s.cs&&iW ab s.xs
theorem wS{p:Option Int}{l:List cJ}{j:Nat}(b:j<l.length):eR p (l.drop j)=(nm l[j].ts&&bt l[j].min (-4320) 4320&&(p.all fun m=>decide (m<l[j].min))&&eR (aa l[j].min) (l.drop (j+1))):=by
 rw [auR b];rfl
theorem BC{p:Option aI}{l:List aI}{j:Nat}(b:j<l.length):iW p (l.drop j)=(qC l[j]&&(p.all fun m=>decide (eY m l[j]<0))&&iW (aa l[j]) (l.drop (j+1))):=by
 rw [auR b];rfl
theorem jI(s:aK)(h:s.Sm):Kf tab 53 [.a (s.row.map .f)] (vb (ea s)):=by
 obtain⟨hc,hx,S⟩:=h;refine cr rfl rfl fun H Q hQ=>?_;have bad:ea s=ag→∀(t:T) (J:aj) k,WP tab 53 ab (.code (.region [⟨D 2,.aZ (.k (.c (.f (.bool ag)))),ab⟩] [])::.code .ret::k) ⟨t,[],H++J⟩ Q:=by
  intro hf t J k;refine aq (.inl rfl) ?_;simp;refine aC (hQ _ _ ?_);simp [hf]
 apply ai;simp [aK.row];apply an;apply ai;simp;by_cases k1:(64:Int)<s.cs.length
 ·simp [k1];exact au (by simp) (an (bad (by simp [ea,show¬ (s.cs.length:Int)≤64 by omega]) _ _ _))
 simp [k1];cases k2:bt s.len 1 10080
 ·simp;exact au (by simp) (an (bad (by simp [ea,k2]) _ _ _))
 simp;by_cases k3:(4096:Int)<s.xs.length
 ·simp [k3];exact au (by simp) (an (bad (by simp [ea,show¬ (s.xs.length:Int)≤4096 by omega]) _ _ _))
 simp [k3];have hS:ea s=(eR ab s.cs&&iW ab s.xs):=by simp [ea,k2,show(s.cs.length:Int)≤64 by omega,show(s.xs.length:Int)≤4096 by omega]
 rw [hS]at bad;refine aB (by simp) ?_;refine aP ?_;apply an;apply ai;simp;obtain⟨l,v⟩:=aJ ([C.f (sl s.cg (aM s.cs)),C.f (fi s.len),C.f (sl s.xg (aH s.xs))]);rw [←v];have a8:l.drop 0=[C.f (sl s.cg (aM s.cs)),C.f (fi s.len),C.f (sl s.xg (aH s.xs))]:=by rw [v];rfl
 have O:l.drop 2=[C.f (sl s.xg (aH s.xs))]:=by rw [v];rfl
 have M:l=C.f (sl s.cg (aM s.cs))::[C.f (fi s.len),C.f (sl s.xg (aH s.xs))]:=v;refine bS s.cs.length (fun j t H'=>t.g 1=.c (.ptr H.length 0 0)∧t.g 25=.c (.f (sl s.cg (aM s.cs)))∧(∃ J,H'=H++(.box l 0::J)) ∧
  ∃ d,(∀ m,j=m+1→∀ h:m<s.cs.length,d=aa (s.cs[m]'h).min)∧(j=0→d=ab)∧eR ab s.cs=eR d (s.cs.drop j)) hc (by decide) (by decide) (by simp) (by simp)
   ⟨by simp,by simp,⟨[],by simp⟩,ab,by omega,by simp,by simp⟩ ?_ ?_
 ·rintro j t _ F ⟨x,A,⟨J,rfl⟩,d,X,Y,u⟩ E K next
  rw [wS F]at u;have L:=bL (H:=H++(.box l 0::J)) (cK s.cs) (dI F);have z:=adL s.cs[j].mg s.cs[j].ts (S _ (anc F)).1 (S _ (anc F)).2;refine aF ?_;apply ai;simp [E,A,bl,F,L,cJ.row];apply ai;simp [z];cases U:nm s.cs[j].ts
  ·simp;exact au (by simp) (an (bad (by simp [u,U]) _ _ _))
  simp;cases N:bt s.cs[j].min (-4320) 4320
  ·simp;exact au (by simp) (an (bad (by simp [u,N]) _ _ _))
  simp;have go:(d.all fun m=>decide (m<s.cs[j].min))=ae→∃ g,(∀ m,j+1=m+1→∀ h:m<s.cs.length,g=aa (s.cs[m]'h).min)∧(j+1=0→g=ab)∧eR ab s.cs=eR g (s.cs.drop (j+1)):=by
   intro hp;rw [U,N,hp,av1,av1,av1]at u;refine⟨aa s.cs[j].min,fun m z h=>?_,by omega,u⟩;have:m=j:=by omega
   subst this;rfl
  cases j with
  | zero=>
   simp;refine aB (by simp) ?_;refine aP (aA (next _ _ ?_ (by simp [E]) (by simp [K])));exact⟨by simp [x],by simp [A],⟨_,rfl⟩,go (by rw [Y rfl];rfl)⟩
  | succ m=>
   have z:m<s.cs.length:=by omega
   have y:=X m rfl z;have e1:((m+1:Nat):Int)-1=m:=by omega
   have q:=gq (H:=H++(bw.box l 0 ::(J++[bw.box [C.f (sl s.cs[m+1].mg (aN s.cs[m+1].ts)),C.f (fi s.cs[m+1].min)] 0]))) (k:=1) (cK s.cs) (dI z) rfl;rw [M]at q;simp [show 0<m+1 by omega,x,M,aW (n:=(m:Int)),bl,z,q];by_cases W:s.cs[m+1].min≤s.cs[m].min
   ·simp [W];have b:=bad (by simp [u,y,show¬ s.cs[m].min<s.cs[m+1].min by omega]);refine au (by simp) ?_;exact an (b _ _ _)
   ·simp [W];refine aB (by simp) ?_;refine aP (aA (next _ _ ?_ (by simp [E]) (by simp [K])));exact⟨by simp [x],by simp [A],⟨_,by rw [M]⟩,go (by rw [y];simp;omega)⟩
 ·rintro t _ ⟨x,A,⟨J,rfl⟩,d,X,Y,u⟩ E K;have hC:eR ab s.cs=ae:=by rw [u];simp [eR]
  rw [hC,av1]at bad hS;apply an;apply ai;simp [x,O];refine bS s.xs.length (fun j t H'=>t.g 1=.c (.ptr H.length 0 0)∧t.g 60=.c (.f (sl s.xg (aH s.xs)))∧(∃ J,H'=H++(.box l 0::J)) ∧
   ∃ d,(∀ m,j=m+1→∀ h:m<s.xs.length,d=aa (s.xs[m]'h))∧(j=0→d=ab)∧iW ab s.xs=iW d (s.xs.drop j)) hx (by decide) (by decide) (by simp) (by simp)
    ⟨by simp [x],by simp,⟨J,by simp⟩,ab,by omega,by simp,by simp⟩ ?_ ?_
  ·rintro j t _ F ⟨x,B,⟨J,rfl⟩,d,X,Y,u⟩ E K next
   rw [BC F]at u;have L:=bL (H:=H++(.box l 0::J)) (bz s.xs) (fk F);refine aF ?_;apply ai;simp [E,B,bl,F,L,aI.row];have off:qC s.xs[j]=ag→∀(t:T) (J:aj) k,t.g 7=vb ag→WP tab 53 ab (.code Fi::k) ⟨t,[],H++J⟩ Q:=by
    intro hf t J k g7;apply ai;simp [g7];exact au (by simp) (an (bad (by simp [u,hf]) _ _ _))
   have go:qC s.xs[j]=ae→(d.all fun m=>decide (eY m s.xs[j]<0))=ae→∃ g,(∀ m,j+1=m+1→∀ h:m<s.xs.length,g=aa (s.xs[m]'h))∧(j+1=0→g=ab)∧iW ab s.xs=iW g (s.xs.drop (j+1)):=by
    intro Z hp;rw [Z,hp,av1,av1]at u;refine⟨aa s.xs[j],fun m z h=>?_,by omega,u⟩;have:m=j:=by omega
    subst this;rfl
   apply ai;simp;cases U:bt s.xs[j].day 0 1099511627776
   ·simp;exact off (by simp [qC,U]) _ _ _ (by simp)
   simp;cases N:bt s.xs[j].fr (-2251799813685248) 1583296743997439
   ·simp;exact off (by simp [qC,N]) _ _ _ (by simp)
   have w5:=oh N;simp [aW (n:=s.xs[j].fr+1),aW (n:=s.xs[j].fr+10080)];cases W:bt s.xs[j].to (s.xs[j].fr+1) (s.xs[j].fr+10080)
   ·exact off (by simp [qC,W]) _ _ _ (by simp)
   have Z:qC s.xs[j]=ae:=by simp [qC,U,N,W]
   apply ai;simp;cases j with
   | zero=>
    simp;refine aB (by simp) ?_;refine aP (aA (next _ _ ?_ (by simp [E]) (by simp [K])));exact⟨by simp [x],by simp [B],⟨_,rfl⟩,go Z (by rw [Y rfl];rfl)⟩
   | succ m=>
    have z:m<s.xs.length:=by omega
    have y:=X m rfl z;have e1:((m+1:Nat):Int)-1=m:=by omega
    have q:=bL (H:=H++(.box l 0 ::(J++[bw.box [C.f (fi s.xs[m+1].day),C.f (fi s.xs[m+1].fr),C.f (fi s.xs[m+1].to)] 0]))) (bz s.xs) (fk z);have I:=vM s.xs[m] s.xs[m+1];simp [aI.row]at I q;simp [show 0<m+1 by omega,x,O,aW (n:=(m:Int)),bl,z,q,I];by_cases k7:0≤eY s.xs[m] s.xs[m+1]
    ·simp [k7];have b:=bad (by simp [u,y,show¬ eY s.xs[m] s.xs[m+1]<0 by omega]);refine au (by simp) ?_;exact an (b _ _ _)
    ·simp [k7];refine aB (by simp) ?_;refine aP (aA (next _ _ ?_ (by simp [E]) (by simp [K])));exact⟨by simp [x],by simp [B],⟨_,rfl⟩,go Z (by rw [y];simp;omega)⟩
  ·rintro t _ ⟨x,B,⟨J,rfl⟩,d,X,Y,u⟩ E K;have hX:iW ab s.xs=ae:=by rw [u];simp [iW]
   apply ai;simp;refine aC (hQ _ _ ?_);simp [hS,hX]
theorem Ah{b:Int}{q:List (Int × Int)}{j:Nat}(d:j<q.length):jw b (q.drop j)=(bt q[j].1 (b+1) 63&&bt q[j].2 0 10080&&jw q[j].1 (q.drop (j+1))):=by
 rw [auR d];rfl
theorem Ci{l:List cC}{i b:Int}{p:List Int}{j:Nat}(d:j<p.length) :
  mj l i b (p.drop j)=(bt p[j] (b+1) ((l.length:Int)-1)&&!decide (p[j]=i)&&decide (Af l p[j]=0)&&mj l i p[j] (p.drop (j+1))):=by
 rw [auR d];rfl
theorem Q7(g:Tg)(l:List cC)(i:Nat)(hi:i<l.length)(hl:l.length≤6)(ho:∀ r ∈ l,lN r)(hq:l[i].q.length≤64)(hp:l[i].p.length≤64) :
  Kf tab 192 [.c (.f (sl g (rows l))),vi i] (vb (eL l i l[i])):=by
 refine cr rfl rfl fun H Q m=>?_;obtain⟨r,hr⟩:=aJ (l[i]);have X:=bg.eq (ho _ (anc hi));rw [←hr]at X hq hp m;simp only [cC.op]at X;have K:=bL (H:=H) (fD l) (rp hi);rw [←hr]at K;apply an;refine aq (.inl rfl) ?_;simp;apply an;refine aq (.inl rfl) ?_;simp [bl,hi,K,cC.row];apply an;apply an;refine aq (.inl rfl) ?_;simp;cases h1:bt r.cap 1 512
 case false=>
  simp;refine au (by simp) ?_;apply ai;simp;refine aC (m _ _ ?_);simp [eL,h1]
 simp;cases h2:bt r.jm 0 1440
 case false=>
  simp;refine au (by simp) ?_;apply ai;simp;refine aC (m _ _ ?_);simp [eL,h2]
 simp;cases h3:bt r.oP 0 1440
 case false=>
  simp;refine au (by simp) ?_;apply ai;simp;refine aC (m _ _ ?_);simp [eL,h3]
 simp [X];refine aB (by simp) ?_;refine aP ?_;apply ai;simp;apply an;apply an;refine aq (.inl rfl) ?_;simp;obtain⟨F,q⟩:=aJ ([C.f (fi r.cap),C.f (fi r.jm),C.f (fi r.oP),C.f r.o0,C.f r.o1,C.f r.o2,C.f r.o3,C.f r.o4,C.f r.o5,C.f r.o6,C.f r.o7,C.f r.o8,C.f r.o9,C.f (sl r.qg (fV r.q)),C.f (sl r.pg (ints r.p))]);rw [←q];have M:F.drop 14=[C.f (sl r.pg (ints r.p))]:=by rw [q];rfl
 refine bS r.q.length (fun j t H'=>t.g 0=.c (.f (sl g (rows l)))∧t.g 1=vi i∧t.g 5=.c (.ptr H.length 0 0)∧t.g 38=.c (.f (sl r.qg (fV r.q)))∧(∃ J,H'=H++(.box F 0::J)) ∧
  ∃ b,t.g 6=vi b∧-1≤b∧b≤63∧jw (-1) r.q=jw b (r.q.drop j)) (by omega) (by decide) (by decide) (by simp) (by simp) (by simp) ?_ ?_
 ·rintro j t _ E ⟨h0,s,O,u,⟨J,rfl⟩,b,B,Y,Z,d⟩ A I next
  rw [Ah E]at d;refine aF ?_;apply ai;simp [A,u,bl,E,bL (vQ r.q) (Ch E)];apply an;apply ai;simp [B,aW (n:=b+1)];cases x:bt r.q[j].1 (b+1) 63
  case false=>
   simp;refine au (by simp) ?_;apply ai;simp;refine aC (m _ _ ?_);simp [eL,d,x]
  simp;cases y:bt r.q[j].2 0 10080
  case false=>
   simp;refine au (by simp) ?_;apply ai;simp;refine aC (m _ _ ?_);simp [eL,d,y]
  simp;refine aB (by simp) ?_;refine aP ?_;refine aq (.inl rfl) ?_;simp [B];refine aA (next _ _ ?_ (by simp [A]) (by simp [I]));have hw:=oh x;simp [x,y]at d;exact⟨by simp [h0],by simp [s],by simp [O],by simp [u],⟨_,rfl⟩,r.q[j].1,by simp,by omega,by omega,d⟩
 ·rintro t _ ⟨h0,s,O,u,⟨J,rfl⟩,b,B,Y,Z,d⟩ A I;have W:jw (-1) r.q=ae:=by rw [d];simp [jw]
  apply ai;simp;apply an;apply an;refine aq (.inl rfl) ?_;simp [O,M];refine bS r.p.length (fun j t H'=>t.g 0=.c (.f (sl g (rows l)))∧t.g 1=vi i∧t.g 60=.c (.f (sl r.pg (ints r.p)))∧(∃ J,H'=H++J) ∧
   ∃ b,t.g 6=vi b∧-1≤b∧b≤6∧mj l i (-1) r.p=mj l i b (r.p.drop j)) (by omega) (by decide) (by decide) (by simp) (by simp) (by simp [h0,s]) ?_ ?_
  ·rintro j t _ E ⟨h0,s,v,⟨J,rfl⟩,b,B,Y,Z,d⟩ A I next
   rw [Ci E]at d;refine aF ?_;apply ai;simp [A,v,bl,E,jP];apply an;apply ai;simp [B,h0,aW (n:=b+1),aW (n:=(l.length:Int)-1)];cases x:bt r.p[j] (b+1) ((l.length:Int)-1)
   case false=>
    simp;refine au (by simp) ?_;apply ai;simp;refine aC (m _ _ ?_);simp [eL,d,x]
   have hw:=oh x;simp [s];by_cases y:r.p[j]=i
   ·simp [y];refine au (by simp) ?_;apply ai;simp;refine aC (m _ _ ?_);simp [eL,d,y]
   have hk:r.p[j].toNat<l.length:=by omega
   have N:=gq (H:=H++J) (k:=14) (fD l) (rp hk) rfl;simp [y,h0,bl (g:=g) (rows:=rows l) (sz:=15) (k:=.i64) (i:=r.p[j]) (by omega) (by simp;omega),N];have L:=akJ (l:=l) (p:=r.p[j]) (by omega) hk;by_cases S:Af l r.p[j]=0
   ·have z:l[r.p[j].toNat].p=[]:=List.eq_nil_of_length_eq_zero (by rw [←L];exact S);simp [z];refine aB (by simp) ?_;refine aP ?_;refine aq (.inl rfl) ?_;simp;refine aA (next _ _ ?_ (by simp [A]) (by simp [I]));simp [x,y,S]at d;exact⟨by simp [h0],by simp [s],by simp [v],⟨_,rfl⟩,r.p[j],by simp,by omega,by omega,d⟩
   ·have z:0<l[r.p[j].toNat].p.length:=by rw [←L];omega
    simp [z];refine au (by simp) ?_;apply ai;simp;refine aC (m _ _ ?_);simp [eL,d,S]
  ·rintro t _ ⟨h0,s,v,⟨J,rfl⟩,b,B,Y,Z,d⟩ A I;have U:mj l i (-1) r.p=ae:=by rw [d];simp [mj]
   apply ai;simp;refine aC (m _ _ ?_);simp [eL,h1,h2,h3,W,U]
theorem Q8(g:Tg)(l:List cC)(i:Nat)(hi:i<l.length)(b:l.length≤6)(d:∀ r ∈ l,lN r)(m:l[i].q.length≤64)(j:l[i].p.length≤64) :
  bg tab 192 [.c (.f (sl g (rows l))),vi i]=Eq (vb (eL l i l[i])):=(Q7 g l i hi b d m j).eq
theorem PO(g:Tg)(l:List cC)(b:l.length≤6)(d:∀ r ∈ l,lN r) :
  bg tab 191 [.c (.f (sl g (rows l))),.c (.f (.fn 189 []))]=Eq (vb (l.any tE)):=(PN g l b d).eq
theorem uI{l:List cC}{j:Nat}(b:j<l.length):gz l j (l.drop j)=(eL l j l[j]&&gz l (j+1) (l.drop (j+1))):=by
 rw [auR b];rfl
theorem ae6(g:Tg)(l:List cC)(y:l.length≤6)(z:∀ r ∈ l,lN r):Kf tab 113 [.c (.f (sl g (rows l)))] (vi (mw l)):=by
 refine cr rfl rfl fun H Q s=>?_;apply ai;simp;apply ai;simp;apply an;apply ai;have d:¬ (256:Int)<l.length:=by omega
 simp [d,PO g l y z];cases q:l.any tE
 case true=>
  refine au (by simp) ?_;apply ai;simp;refine aC (s _ _ ?_);simp [mw,q]
 refine aB (by simp) ?_;refine aP ?_;apply an;apply ai;simp;refine bS l.length (fun j t H'=>t.g 0=.c (.f (sl g (rows l)))∧(∃ J,H'=H++J)∧gz l 0 l=gz l j (l.drop j)) (by omega) (by decide) (by decide) (by simp) (by simp) (by simp) ?_ ?_
 ·rintro j t _ v ⟨h0,⟨J,rfl⟩,b⟩ u m next
  rw [uI v]at b;have x:tE l[j]=ag:=by
   have:=awB.1 q l[j] (anc v);simpa using this
  simp only [tE,Bool.or_eq_false_iff,decide_eq_false_iff_not]at x;refine aF ?_;apply ai;simp [u];apply ai;simp [h0,Q8 g l j v y z (by omega) (by omega)];cases A:eL l j l[j]
  ·refine au (by simp) ?_;apply ai;simp;refine aC (s _ _ ?_);simp [mw,q,b,A]
  ·refine aB (by simp) ?_;refine aP (aA (next _ _ ?_ (by simp [u]) (by simp [m])));simp [A]at b;exact⟨by simp [h0],⟨_,rfl⟩,b⟩
 ·rintro t _ ⟨h0,⟨J,rfl⟩,b⟩ u m;apply ai;simp;refine aC (s _ _ ?_);simp [mw,q,b,gz]
theorem ae7(g:Tg)(l:List cC)(b:l.length≤6)(d:∀ r ∈ l,lN r):bg tab 113 [.c (.f (sl g (rows l)))]=Eq (vi (mw l)):=(ae6 g l b d).eq
theorem iV(g:Tg)(l:List Int)(v:Int)(b:l.length≤9223372036854775807) :
  bg tab 272 [.c (.f (sl g (ints l))),vi v]=Eq (vb (l.any (· == v))):=(tG g l v b).eq
theorem PZ(g:Tg)(q:List Int)(x:Int)(d:q.length≤9223372036854775807):Kf tab 274 [vi x,.c (.f (.fp [sl g (ints q)] 0))] (vb (q.any (· == x))):=by
 refine cr rfl rfl fun H Q b=>?_;apply ai;simp;apply ai;simp [oG,iV g q x d];refine aC (b _ _ ?_);simp
theorem zw(g g':Tg)(p q:List Int)(d:p.length≤9223372036854775807)(l:q.length≤9223372036854775807) :
  bg tab 273 [.c (.f (sl g (ints p))),.c (.f (.fn 274 [.fp [sl g' (ints q)] 0]))]=Eq (vb (p.any fun x=>q.any (· == x))):=
 (fh aoa (jF aoi p (fun n=>[fi n]) vi (fun x=>q.any (· == x)) g 274 [.fp [sl g' (ints q)] 0] d
  (fun j b H=>by have:=jP (H:=H) b;simpa [ints]using this) (fun x _=>by have:=PZ g' q x l;simpa using this))).eq
def mr(a b:Nat)(ra d:cC):Bool:=decide (a=b)||ra.p.any (· ==(b:Int))||d.p.any (· ==(a:Int))||ra.p.any fun x=>d.p.any (· == x)
theorem Rj(g:Tg)(l:List cC)(a b:Nat)(s:a<l.length)(u:b<l.length)(y:l[a].p.length≤64)(z:l[b].p.length≤64) :
  Kf tab 200 [.c (.f (sl g (rows l))),vi a,vi b] (vb (mr a b l[a] l[b])):=by
 refine cr rfl rfl fun H Q j=>?_;have v:=gq (H:=H) (k:=14) (fD l) (rp s) rfl;have x:=gq (H:=H) (k:=14) (fD l) (rp u) rfl;apply ai;simp;apply ai;simp [bl,s,u,v,x];apply ai;simp;by_cases d:a=b
 ·simp [d];refine aC (j _ _ ?_);simp [mr,d]
 simp [d,iV _ l[a].p _ (by omega)];cases m:l[a].p.any (· ==(b:Int))
 case true=>
  simp;refine aC (j _ _ ?_);simp [mr,m]
 simp [iV _ l[b].p _ (by omega)];cases q:l[b].p.any (· ==(a:Int))
 case true=>
  simp;refine aC (j _ _ ?_);simp [mr,q]
 simp [deep,Ge,zZ,zw l[a].pg l[b].pg l[a].p l[b].p (by omega) (by omega)];refine aC (j _ _ ?_);simp [mr,d,m,q]
theorem zb(s:aK)(h:s.Sm):bg tab 53 [.a (s.row.map .f)]=Eq (vb (ea s)):=(jI s h).eq
structure av where
 meet:Int
 room:Int
 dB:Int
 size:Int
 st:aK
def av.row(s:av):List FC:=[fi s.meet,fi s.room,fi s.dB,fi s.size,sl s.st.cg (aM s.st.cs),fi s.st.len,sl s.st.xg (aH s.st.xs)]
def al(l:List av):List (List FC):=l.map av.row
@[simp] theorem aff (l:List av):(al l).length=l.length:=by simp [al]
theorem aX(l:List av):cu 7 (al l):=cu.map fun _=>rfl
theorem cQ{l:List av}{j:Nat}(b:j<l.length):(al l)[j]?=aa l[j].row:=by simp [al,b]
def mW(x y:av):Int:=vL [dg x.meet y.meet,dg x.room y.room]
def gu(n:Nat)(s:av):Bool:=decide (1≤s.meet)&&bt s.room 0 ((n:Int)-1)&&bt s.dB 0 63&&bt s.size 1 512&&ea s.st
def fF(n:Nat):Option av→List av→Bool
 | _,[]=>ae| prev,s::r=>gu n s&&(prev.all fun m=>decide (mW m s<0))&&fF n (aa s) r
theorem Ar{n:Nat}{p:Option av}{l:List av}{j:Nat}(b:j<l.length):fF n p (l.drop j)=(gu n l[j]&&(p.all fun m=>decide (mW m l[j]<0))&&fF n (aa l[j]) (l.drop (j+1))):=by
 rw [auR b];rfl
def oH(b:List cC)(l:List av):Bool:=decide (mw b=0)&&decide ((l.length:Int)≤4096)&&fF b.length ab l
theorem FA(x y:av):Kf tab 115 [.a (x.row.map .f),.a (y.row.map .f)] (vi (mW x y)):=by
 refine cr rfl rfl fun H Q d=>?_;have b:=yL .fs [dg x.meet y.meet,dg x.room y.room] (by simp);simp [ints,sl,Tg.fc]at b;apply ai;simp [av.row];apply ai;simp [gm,deep,mD,qW,b];refine aC (d _ _ ?_);simp [mW]
theorem ajM(x y:av):bg tab 115 [.a (x.row.map .f),.a (y.row.map .f)]=Eq (vi (mW x y)):=(FA x y).eq
theorem CP(g:Tg)(d:List cC)(s:av)(v:d.length≤6)(h:s.st.Sm):Kf tab 114 [.c (.f (sl g (rows d))),.a (s.row.map .f)] (vb (gu d.length s)):=by
 refine cr rfl rfl fun H Q b=>?_;have l:=zb s.st h;simp [aK.row]at l;apply ai;simp [av.row];apply ai;simp;by_cases j:1≤s.meet
 case neg=>
  simp [j];refine aC (b _ _ ?_);simp [gu,j]
 simp [j,aW (n:=(d.length:Int)-1)];cases m:bt s.room 0 ((d.length:Int)-1)
 ·simp;refine aC (b _ _ ?_);simp [gu,m]
 simp;cases q:bt s.dB 0 63
 ·simp;refine aC (b _ _ ?_);simp [gu,q]
 simp;cases u:bt s.size 1 512
 ·simp;refine aC (b _ _ ?_);simp [gu,u]
 simp [l];refine aC (b _ _ ?_);simp [gu,j,m,q,u]
theorem aeQ(g:Tg)(b:List cC)(s:av)(d:b.length≤6)(h:s.st.Sm):bg tab 114 [.c (.f (sl g (rows b))),.a (s.row.map .f)]=Eq (vb (gu b.length s)):=(CP g b s d h).eq
theorem aks(g g':Tg)(q:List cC)(l:List av)(U:q.length≤6)(ho:∀ r ∈ q,lN r)(hl:l.length≤9223372036854775807)(h:∀ s ∈ l,s.st.Sm) :
  Kf tab 59 [.c (.f (sl g (rows q))),.c (.f (sl g' (al l)))] (vb (oH q l)):=by
 refine cr rfl rfl fun H Q O=>?_;have bad:oH q l=ag→∀(t:T) (J:aj) k,WP tab 59 ab (.code (.region [⟨D 4,.aZ (.k (.c (.f (.bool ag)))),ab⟩] [])::.code .ret::k) ⟨t,[],H++J⟩ Q:=by
  intro hf t J k;refine aq (.inl rfl) ?_;simp;refine aC (O _ _ ?_);simp [hf]
 apply ai;simp;apply an;apply ai;simp [ae7 g q U ho];by_cases L:mw q=0
 case neg=>
  simp [L];have b:=fun t k=>bad (by simp [oH,L]) t [] k;simp only [av0]at b;refine au (by simp) ?_;exact an (b _ _)
 simp [L];by_cases W:(4096:Int)<l.length
 ·simp [W];have b:=fun t k=>bad (by simp [oH,show¬ (l.length:Int)≤4096 by omega]) t [] k;simp only [av0]at b;refine au (by simp) ?_;exact an (b _ _)
 simp [W];have S:oH q l=fF q.length ab l:=by simp [oH,L,show(l.length:Int)≤4096 by omega]
 rw [S]at bad;refine aB (by simp) ?_;refine aP ?_;apply an;apply ai;simp;refine bS l.length (fun j t H'=>t.g 0=.c (.f (sl g (rows q)))∧t.g 1=.c (.f (sl g' (al l)))∧t.g 15=.c (.f (sl g' (al l)))∧(∃ J,H'=H++J) ∧
  ∃ d,(∀ m,j=m+1→∀ h:m<l.length,d=aa (l[m]'h))∧(j=0→d=ab)∧fF q.length ab l=fF q.length d (l.drop j)) hl (by decide) (by decide) (by simp) (by simp)
   ⟨by simp,by simp,by simp,⟨[],by simp⟩,ab,by omega,by simp,by simp⟩ ?_ ?_
 ·rintro j t _ I ⟨g0,E,v,⟨J,rfl⟩,d,Z,l2,z⟩ F M next
  rw [Ar I]at z;have N:=bL (H:=H++J) (aX l) (cQ I);have B:=aeQ g q l[j] U (h _ (anc I));simp [av.row]at B;refine aF ?_;apply ai;simp [F,v,bl,I,N,av.row];apply ai;simp [g0,B];cases X:gu q.length l[j]
  ·simp;exact au (by simp) (an (bad (by simp [z,X]) _ _ _))
  simp;have go:(d.all fun m=>decide (mW m l[j]<0))=ae→∃ u,(∀ m,j+1=m+1→∀ h:m<l.length,u=aa (l[m]'h))∧(j+1=0→u=ab)∧fF q.length ab l=fF q.length u (l.drop (j+1)):=by
   intro hp;rw [X,hp,av1,av1]at z;refine⟨aa l[j],fun m K h=>?_,by omega,z⟩;have:m=j:=by omega
   subst this;rfl
  cases j with
  | zero=>
   simp;refine aB (by simp) ?_;refine aP (aA (next _ _ ?_ (by simp [F]) (by simp [M])));exact⟨by simp [g0],by simp [E],by simp [v],⟨_,rfl⟩,go (by rw [l2 rfl];rfl)⟩
  | succ m=>
   have K:m<l.length:=by omega
   have A:=Z m rfl K;have e1:((m+1:Nat):Int)-1=m:=by omega
   have y:=fun H:aj=>bL (H:=H) (aX l) (cQ K);have x:=ajM l[m] l[m+1];simp [av.row]at x y;simp [show 0<m+1 by omega,E,aW (n:=(m:Int)),bl,K,y,x];by_cases Y:0≤mW l[m] l[m+1]
   ·simp [Y];have b:=bad (by simp [z,A,show¬ mW l[m] l[m+1]<0 by omega]);refine au (by simp) ?_;exact an (b _ _ _)
   ·simp [Y];refine aB (by simp) ?_;refine aP (aA (next _ _ ?_ (by simp [F]) (by simp [M])));exact⟨by simp [g0],by simp [E],by simp [v],⟨_,rfl⟩,go (by rw [A];simp;omega)⟩
 ·rintro t _ ⟨g0,E,v,⟨J,rfl⟩,d,Z,l2,z⟩ F M;have hX:fF q.length ab l=ae:=by rw [z];simp [fF]
  apply ai;simp;refine aC (O _ _ ?_);simp [S,hX]
structure bC where
 id:Int
 dl:Int
 state:Int
 aU:av
def bC.row(h:bC):List FC:=[fi h.id,fi h.dl,fi h.state,fi h.aU.meet,fi h.aU.room,fi h.aU.dB,fi h.aU.size,sl h.aU.st.cg (aM h.aU.st.cs),fi h.aU.st.len,sl h.aU.st.xg (aH h.aU.st.xs)]
def aQ(l:List bC):List (List FC):=l.map bC.row
@[simp] theorem aka (l:List bC):(aQ l).length=l.length:=by simp [aQ]
theorem bF(l:List bC):cu 10 (aQ l):=cu.map fun _=>rfl
theorem dj{l:List bC}{j:Nat}(b:j<l.length):(aQ l)[j]?=aa l[j].row:=by simp [aQ,b]
structure dm where
 clock:Int
 bO:Int
 lg:Tg
 l:List bC
def dm.row(h:dm):List FC:=[fi h.clock,fi h.bO,sl h.lg (aQ h.l)]
theorem nA{n b:Nat}(g:n≤1100000)(d:b≤4096):bV n b=ae:=by
 have h:(2*n+768)*b≤2200768*4096:=Nat.mul_le_mul (by omega) d;simp [bV];omega
def Fix(s:av):Prop:=bg tab 46 [.a (s.row.map .f)]=Eq (.a (s.row.map .f))
def En(x y:List FC):Int:=match x,y with
 | .int _ a::.int _ b::_,.int _ c::.int _ d::_=>vL [dg a c,dg b d]| _,_=>0
def F3(x:List FC):Prop:=∃ s:av,x=s.row
theorem Qy(x y:av):Kf tab 43 [.a (x.row.map .f),.a (y.row.map .f)] (vi (En x.row y.row)):=by
 refine cr rfl rfl fun H Q d=>?_;have b:=yL .fs [dg x.meet y.meet,dg x.room y.room] (by simp);simp [ints,sl,Tg.fc]at b;apply ai;simp [av.row];apply ai;simp [gm,deep,mD,qW,b];refine aC (d _ _ ?_);simp [En,av.row]
theorem acO:Cv tab (.c (.f (.fn 43 []))) F3 En:=by
 rintro _ _ ⟨x,rfl⟩ ⟨y,rfl⟩ H;obtain⟨J,b⟩:=Qy x y H;exact⟨_,_,J,by simp,b⟩
theorem Fz{a b:Int}:dg a b<0↔a<b:=by unfold dg;split<;>(try split)<;>omega
theorem Ae(x y:av):En x.row y.row<0↔x.meet<y.meet∨x.meet=y.meet∧x.room<y.room:=by
 simp only [En,av.row,vL,dg];split<;>split<;>(try split)<;>(try split)<;>(try split)<;>omega
theorem PY:Dp F3 En:=by
 constructor
 ·rintro _ _ ⟨x,rfl⟩ ⟨y,rfl⟩ h b;rw [Ae]at h b;omega
 ·rintro _ _ _ ⟨x,rfl⟩ ⟨y,rfl⟩ ⟨z,rfl⟩ h b d;rw [Ae]at h b d;omega
theorem ao_(x:av):Kf tab 132 [.a (x.row.map .f)] (.a [.f (fi x.meet),.f (fi x.room)]):=by
 refine cr rfl rfl fun H Q b=>?_;apply ai;simp [av.row];apply ai;simp;refine aC (b _ _ ?_);simp
theorem adm(x:av):bg tab 132 [.a (x.row.map .f)]=Eq (.a [.f (fi x.meet),.f (fi x.room)]):=(Kf.Ey (xs:=[fi x.meet,fi x.room]) (ao_ x)).eq
def iM(n:Int):Bool:=decide (0≤n)&&decide (n≤2251799813685248)
theorem apj(n:Int):Kf tab 38 [vi n] (vb (iM n)):=by
 refine cr rfl rfl fun H Q b=>?_;apply ai;simp;apply ai;by_cases h:0≤n
 ·simp [h];refine aC (b _ _ ?_);simp [iM,h]
 ·simp [h];refine aC (b _ _ ?_);simp [iM,h]
theorem vA(n:Int):bg tab 38 [vi n]=Eq (vb (iM n)):=(apj n).eq
def et(b d:Int)(x:bC):Bool:=decide (d<x.id)&&decide (1≤x.state)&&decide (x.state≤4)&&iM x.dl&&!(decide (x.state=1)&&decide (x.dl<b))
def fQ(b:Int):Int→List bC→Bool
 | _,[]=>ae| last,x::r=>et b last x&&fQ b x.id r
theorem tf{b d:Int}{l:List bC}{j:Nat}(g:j<l.length):fQ b d (l.drop j)=(et b d l[j]&&fQ b l[j].id (l.drop (j+1))):=by
 rw [auR g];rfl
def cV(h:dm):Bool:=iM h.clock&&iM h.bO&&fQ h.clock 0 h.l
theorem nT(h:dm)(Y:h.l.length≤30):bg tab 27 [.a (h.row.map .f)]=Eq (vb (cV h)):=bg.eq (by
 refine bI rfl rfl fun Q S=>?_;have bad:cV h=ag→∀(t:T) (J:aj) k,WP tab 27 ab (.code (.seq (.region [⟨D 2,.aZ (.k (.c (.f (.bool ag)))),ab⟩] []) .ret)::k) ⟨t,[],J⟩ Q:=by
  intro X t J k;apply ai;simp;refine aC (S _ _ ?_);simp [X]
 apply ai;simp [dm.row];apply an;apply ai;simp [vA];cases U:iM h.clock
 ·simp;exact au (by simp) (bad (by simp [cV,U]) _ _ _)
 simp [vA];cases W:iM h.bO
 ·simp;exact au (by simp) (bad (by simp [cV,W]) _ _ _)
 simp [show¬ (4096:Int)<h.l.length by omega];refine bo (by simp) ?_;apply ai;simp;apply an;apply ai;simp;refine bS h.l.length (fun j t H=>t.g 1=.c (.ptr 0 0 0)∧t.g 23=.c (.f (sl h.lg (aQ h.l)))∧H[0]?=aa (.box [.f (fi h.clock),.f (fi h.bO),.f (sl h.lg (aQ h.l))] 0)∧∃ b,t.g 3=vi b∧fQ h.clock 0 h.l=fQ h.clock b (h.l.drop j)) (by omega) (by decide) (by decide) (by simp) (by simp) ⟨by simp,by simp,rfl,0,by simp,by simp⟩ ?_ ?_
 ·rintro j t H E ⟨u,d,h0,b,O,l⟩ y B next
  rw [tf E]at l;have q:=fun H:aj=>bL (H:=H) (bF h.l) (dj E);simp only [bC.row]at q;obtain⟨x,F⟩:=aJ (h.l[j]);rw [←F]at l q;have v:et h.clock b x=ag→cV h=ag:=fun e=>by simp [cV,l,e]
  refine aF ?_;apply ai;simp [y,d,bl,E,q];obtain⟨N,m⟩:=aJ (H++[.box [.f (fi x.id),.f (fi x.dl),.f (fi x.state),.f (fi x.aU.meet),.f (fi x.aU.room),.f (fi x.aU.dB),.f (fi x.aU.size),.f (sl x.aU.st.cg (aM x.aU.st.cs)),.f (fi x.aU.st.len),.f (sl x.aU.st.xg (aH x.aU.st.xs))] 0]:aj);have A:N[0]?=aa (.box [.f (fi h.clock),.f (fi h.bO),.f (sl h.lg (aQ h.l))] 0):=by rw [m,AT (ak h0)];exact h0
  have g:N[H.length]?=aa (.box [.f (fi x.id),.f (fi x.dl),.f (fi x.state),.f (fi x.aU.meet),.f (fi x.aU.room),.f (fi x.aU.dB),.f (fi x.aU.size),.f (sl x.aU.st.cg (aM x.aU.st.cs)),.f (fi x.aU.st.len),.f (sl x.aU.st.xg (aH x.aU.st.xs))] 0):=by rw [m];simp
  rw [←m];apply an;refine aF ?_;apply an;apply ai;simp [O,g];by_cases I:x.id≤b
  ·refine au (by simp [I]) (aP ?_);refine au (by simp [I]) ?_;exact bad (v (by simp [et,show¬ b<x.id by omega])) _ _ _
  refine aB (by simp [I]) ?_;apply ai;simp [g];by_cases K:x.state<1
  ·refine au (by simp [K]) (aP ?_);refine au (by simp [K]) ?_;exact bad (v (by simp [et,show¬ 1≤x.state by omega])) _ _ _
  refine aB (by simp [K]) ?_;apply ai;simp [g];by_cases L:4<x.state
  ·refine au (by simp [L]) (aP ?_);refine au (by simp [L]) ?_;exact bad (v (by simp [et,show¬ x.state≤4 by omega])) _ _ _
  refine aB (by simp [L]) ?_;refine aq (.inl rfl) ?_;simp [g,vA];cases M:iM x.dl
  ·refine au (by simp) ?_;exact bad (v (by simp [et,M])) _ _ _
  refine aB (by simp) ?_;apply ai;simp [g];by_cases s:x.state=1
  ·by_cases z:x.dl<h.clock
   ·simp [s,z,u,A,g];refine au (by simp) ?_;exact bad (v (by simp [et,s,z])) _ _ _
   ·simp [s,z,u,A,g];refine aB (by simp) (aP (aA ?_));refine aq (.inl rfl) ?_;simp [g];refine aA (next _ _ ⟨by simp [u],by simp [d],A,x.id,by simp,?_⟩ (by simp [y]) (by simp [B]));rw [l,show et h.clock b x=ae by simp [et,s,z,M];omega];simp [F]
  ·simp [s];refine aB (by simp) (aP (aA ?_));refine aq (.inl rfl) ?_;simp [g];refine aA (next _ _ ⟨by simp [u],by simp [d],A,x.id,by simp,?_⟩ (by simp [y]) (by simp [B]));rw [l,show et h.clock b x=ae by simp [et,s,M];omega];simp [F]
 ·rintro t H ⟨u,d,h0,b,O,l⟩ y B;apply ai;simp;refine aC (S _ _ ?_);simp [cV,U,W,l,fQ])
theorem BE(x:bC)(id:Int):Kf tab 71 [.a (x.row.map .f),vi id] (vi (dg x.id id)):=by
 refine cr rfl rfl fun H Q b=>?_;apply ai;simp [bC.row];apply ai;simp [gm];refine aC (b _ _ ?_);simp
theorem sC{b:Int}:∀ {last:Int} {l:List bC},fQ b last l=ae→(∀ x ∈ l,last<x.id)∧l.Pairwise (fun x y=>x.id<y.id)
 | _,[],_=>⟨by simp,.nil⟩
 | last,x::r,h=>by
  simp only [fQ,If]at h;obtain⟨g,j⟩:=sC h.2;have m:last<x.id:=by have:=h.1;simp [et]at this;omega
  refine⟨fun y d=>?_,.cons (fun y d=>g y d) j⟩;rcases avn.1 d with rfl | d
  ·exact m
  ·have:=g y d;omega
theorem PX{a b:Int}:dg a b=0↔a=b:=by unfold dg;split<;>(try split)<;>omega
def tU(l:List bC)(i:Nat)(id:Int):Bool:=match l[i]? with | some x=>decide (x.id=id) | none=>ag
theorem FO(h:dm)(hl:h.l.length≤30)(U:cV h=ae)(id:Int):∃ i:Nat,i≤h.l.length∧(∀ j (b:j<h.l.length),j<i→h.l[j].id<id)∧(∀ j (b:j<h.l.length),i≤j→id≤h.l[j].id) ∧
  bg tab 39 [.a (h.row.map .f),vi id]=Eq (.t [vi i,vb (tU h.l i id)]):=by
 have S:h.l.Pairwise (fun x y=>x.id<y.id):=by simp [cV]at U;exact(sC U.2).2
 have E:∀ i j (hi:i<j) (b:j<h.l.length),h.l[i].id<h.l[j].id:=fun i j hi b=>avV.1 S i j (by omega) b hi;obtain⟨r,⟨i,W,X,Y,rfl⟩,O⟩:∃ r,(∃ i:Nat,i≤h.l.length∧(∀ j (b:j<h.l.length),j<i→h.l[j].id<id)∧(∀ j (b:j<h.l.length),i≤j→id≤h.l[j].id)∧r=.t [vi i,vb (tU h.l i id)]) ∧
   bg tab 70 [.c (.f (sl h.lg (aQ h.l))),vi id,.c (.f (.fn 71 []))] r:=by
  refine dY rfl rfl fun Q J=>?_;have F:=fun(H:aj) (j:Nat) (b:j<h.l.length)=>bL (H:=H) (bF h.l) (dj b);apply ai;simp;apply ai;simp;apply ai;simp;apply an;refine aF ?_;refine cI (fun m s=>∃(lo hi:Nat) (t:T) (H:aj),s=⟨t,[],H⟩∧lo+m=hi∧hi≤h.l.length∧t.g 0=.c (.f (sl h.lg (aQ h.l)))∧t.g 1=vi id∧t.g 2=.c (.f (.fn 71 []))∧t.g 8=vi h.l.length∧t.g 9=vi lo∧t.g 10=vi hi ∧
   (∀ j (b:j<h.l.length),j<lo→h.l[j].id<id)∧(∀ j (b:j<h.l.length),hi≤j→id≤h.l[j].id)) h.l.length
   ⟨0,h.l.length,_,_,rfl,by omega,by omega,by simp,by simp,by simp,by simp,by simp,by simp,by simp,by intros;omega⟩ ?_
  rintro m s ⟨lo,hi,t,H,rfl,hm,Z,g0,z,A,I,B,g,u,l⟩ next
  apply an;apply ai;simp [B,g];by_cases N:lo<hi
  ·refine au (by simp [N]) (aP ?_);obtain⟨q,hq⟩:=aJ ((lo+hi) / 2);have v:q<h.l.length:=by omega
   have L:=(BE h.l[q] id).ev H;refine aF ?_;apply ai;simp [B,g,aW (n:=(lo:Int)+hi),kX (lo:=lo) (hi:=hi) (by omega),nf (lo:=lo) (hi:=hi) (by omega) hq,aW (n:=(q:Int))];apply ai;simp [g0,z,A,bl,v,F _ q v,L];by_cases K:h.l[q].id<id
   ·refine au (by simp [Fz,K]) (aq (.inl rfl) ?_);simp [aW (n:=(q:Int)+1)];refine aA (next (hi-(q+1)) _ (by omega) ⟨q+1,hi,_,_,rfl,by omega,by omega,by simp [g0],by simp [z],by simp [A],by simp [I],by simp,by simp [g],fun j b M=>?_,l⟩);by_cases e:j=q
    ·subst e;exact K
    ·have:=E j q (by omega) v;omega
   ·refine aB (by simp [Fz,K]) (aq (.inl rfl) ?_);simp;refine aA (next (q-lo) _ (by omega) ⟨lo,q,_,_,rfl,by omega,by omega,by simp [g0],by simp [z],by simp [A],by simp [I],by simp [B],by simp,u,fun j b M=>?_⟩);by_cases e:q=j
    ·subst e;omega
    ·have:=E q j (by omega) b;omega
  obtain rfl:lo=hi:=by omega
  refine aB (by simp) ?_;refine bJ (k':=[.code xI]) rfl ?_;apply ai;by_cases d:lo<h.l.length
  ·have L:=(BE h.l[lo] id).ev H;simp [g0,z,A,I,B,d,bl,F _ lo d,L];refine aC (J _ _ (.t [vi lo,vb (tU h.l lo id)]) ⟨lo,by omega,u,l,rfl⟩ ?_);simp [PX,d,tU]
  ·simp [g0,z,A,I,B,d];refine aC (J _ _ (.t [vi lo,vb (tU h.l lo id)]) ⟨lo,by omega,u,l,rfl⟩ ?_);simp [d,tU]
 refine⟨i,W,X,Y,bg.eq ?_⟩;have O:=O.eq;refine bI rfl rfl fun Q J=>?_;apply ai;simp [dm.row];apply ai;simp [O];refine aC (J _ _ ?_);simp
theorem lY(l:List bC)(j:Nat)(x:bC):(aQ l).set j x.row=aQ (l.set j x):=by simp [aQ,List.map_set]
theorem xW(h:dm)(hl:h.l.length≤30)(hs:∀ x ∈ h.l,Fix x.aU)(H:aj):∃ r H',Ev tab (.fn 45) [.a (h.row.map .f)] H r H' ∧
  ∃ c,r=.a [.f (fi h.clock),.f (fi h.bO),c]∧Kp H H'∧LR H' c 10 (aQ h.l)∧∀ i,bG c=aa i→H.length≤i:=by
 refine cL rfl rfl fun Q hQ=>?_;apply ai;simp [dm.row];obtain⟨u,m⟩:=aJ (H++[.box [.f (fi h.clock),.f (fi h.bO),.f (sl h.lg (aQ h.l))] 0,.box [.f (fi 0),.f (fi 0),.f .az] 0]:aj);have z0:u[H.length]?=aa (.box [.f (fi h.clock),.f (fi h.bO),.f (sl h.lg (aQ h.l))] 0):=by rw [m];simp
 have z1:u[H.length+1]?=aa (.box [.f (fi 0),.f (fi 0),.f .az] 0):=by rw [m];simp
 have zl:u.length=H.length+2:=by rw [m];simp
 have zk:Kp H u:=by rw [m];exact Kp.push _ _
 rw [←m];obtain⟨r,H1,E,c,Y,rfl,rfl,y,o⟩:=uP (F:=81) (sz:=10) (zs:=[fi 0,fi 0,fi 0,fi 0,fi 0,fi 0,fi 0,.az,fi 0,.az]) (bytes:=112) (H:=u) (g:=h.lg) (rows:=aQ h.l) an4 (by decide) (bF _) (nA (by simp;omega) (by decide));have E:=E.eq;have a0:(u++Y)[H.length]?=aa (.box [.f (fi h.clock),.f (fi h.bO),.f (sl h.lg (aQ h.l))] 0):=by rw [AT (by omega)];exact z0
 have a1:(u++Y)[H.length+1]?=aa (.box [.f (fi 0),.f (fi 0),.f .az] 0):=by rw [AT (by omega)];exact z1
 apply ai;simp [z0,E,a0];obtain⟨W,q⟩:=aJ ((u++Y).set H.length (.box [.f (fi h.clock),.f (fi h.bO),c] 0):aj);have b0:W[H.length]?=aa (.box [.f (fi h.clock),.f (fi h.bO),c] 0):=by rw [q];exact IN (by simp;omega)
 have b1:W[H.length+1]?=aa (.box [.f (fi 0),.f (fi 0),.f .az] 0):=by rw [q,AI (by omega)];exact a1
 have s:∀ i,bG c=aa i→H.length+2≤i:=fun i e=>by have:=o i e;omega
 have O:LR W c 10 (aQ h.l):=by rw [q];exact y.set (fun e=>by have:=s _ e;omega) _
 have k2:Kp H W:=by
  rw [q];exact⟨by simp;omega,fun Z l=>by rw [AI (by omega),AT (by omega)];exact zk.2 Z l⟩
 rw [←q];have a:∀(t:T) (b:aj),t.g 1=.c (.ptr H.length 0 0)→t.g 2=.c (.ptr (H.length+1) 0 0)→b[H.length]?=aa (.box [.f (fi h.clock),.f (fi h.bO),c] 0)→b[H.length+1]?=aa (.box [.f (fi 0),.f (fi 0),.f .az] 0)→Kp H b→LR b c 10 (aQ h.l) →
   WP tab 45 ab [.code AR] ⟨t,[],b⟩ Q:=by
  intro t b I J h0 K L y;apply ai;simp [I,J,h0,K];refine aC (hQ _ _ (.a [.f (fi h.clock),.f (fi h.bO),c]) rfl ?_ ⟨c,rfl,?_,y.set (fun e=>by have:=s _ e;omega) _,fun i e=>by have:=s i e;omega⟩)
  ·simp [Km.results,bj,J,ak K]
  ·exact⟨by simpa using L.1,fun Z l=>by rw [AI (by omega)];exact L.2 Z l⟩
 apply an;apply ai;have v:=O.len;simp at v;simp [b0,v];refine bS h.l.length (fun j t b=>t.g 1=.c (.ptr H.length 0 0)∧t.g 2=.c (.ptr (H.length+1) 0 0)∧b[H.length]?=aa (.box [.f (fi h.clock),.f (fi h.bO),c] 0)∧b[H.length+1]?=aa (.box [.f (fi 0),.f (fi 0),.f .az] 0)∧Kp H b∧LR b c 10 (aQ h.l)) (by omega) (by decide) (by decide) (by simp) (by simp) ⟨by simp,by simp,b0,b1,k2,O⟩ ?_ ?_
 ·rintro j t b hj ⟨I,J,h0,K,L,y⟩ ha hb next
  have d:=hj;rcases y with⟨he,_⟩ | ⟨a_,B,ep,rfl,f⟩
  ·rw [show h.l=[] by simpa [aQ]using he]at d;simp at d
  obtain⟨x,X⟩:=aJ (h.l[j]);have e2:Fix x.aU:=hs x (by rw [X];exact anc d);unfold Fix at e2;have S:=f.at (show j<(aQ h.l).length by simpa using d);have A:=f.ldp (n:=7) (k:=3) (bF h.l) (dj d) (by decide);rw [←X]at A;have U:((x.row.drop 3).take 7)=x.aU.row:=rfl;rw [U]at A;obtain⟨H4,c_,M,z,d9⟩:=f.stp (k:=3) (xs:=x.aU.row) (bF h.l) (dj d) (by show 3+7≤10;omega);have b9:over h.l[j].row 3 x.aU.row=x.row:=by rw [X];rfl
  rw [b9,lY,X,awy]at M;have N:B≠H.length∧B≠H.length+1:=by have:=s B rfl;omega
  refine aF ?_;apply ai;simp [ha];refine aq (.inl rfl) ?_;have a8:(aQ h.l).length=h.l.length:=by simp
  simp only [a8]at *;have b_:(x.aU.row.map C.f).length=7:=rfl;have w:aR b ab (.c (.ptr H.length 2 0))=aa (.c (.sl B 0 h.l.length 0 ep 10)):=by simp [h0,aV]
  simp [I,w,S,A,e2,c_,b_,-aw,-bh];refine aA (next _ _ ⟨by simp [I],by simp [J],z.get h0 (Ne.symm N.1),z.get K (Ne.symm N.2),L.next (p:=B) (by have:=s B rfl;omega) z,.inr ⟨a_,B,ep,by simp,M⟩⟩ (by simp [ha]) (by simp [hb]))
 ·rintro t b ⟨I,J,h0,K,L,y⟩ - -;exact a _ b (by simp [I]) (by simp [J]) h0 K L y
def bZ(x y:av):Bool:=decide (x.meet=y.meet∧x.room=y.room)
theorem C6(x s:av){H:aj}{p:Nat}(v:H[p]?=aa (.box (s.row.map .f) 0)):∃ J,Ev tab (.fn 131) [.a (x.row.map .f),.c (.ptr p 0 0)] H (vb (bZ x s)) (H++J):=by
 obtain⟨r,H',z,rfl,J,rfl⟩:∃ r H',Ev tab (.fn 131) [.a (x.row.map .f),.c (.ptr p 0 0)] H r H'∧r=vb (bZ x s)∧∃ J,H'=H++J:=by
  refine cL (C:=fun r H'=>r=vb (bZ x s)∧∃ J,H'=H++J) arK rfl fun Q y=>?_;have q:=adm x;have u:=adm s;have m:=ak v;obtain⟨j,b⟩:=aJ (H++[.box (x.row.map .f) 0]:aj);have d:j[p]?=aa (.box (s.row.map .f) 0):=by rw [b,AT m];exact v
  have g:j[H.length]?=aa (.box (x.row.map .f) 0):=by rw [b];simp
  have l:∃ J,j=H++J:=⟨_,b⟩
  simp only [av.row]at q u d g b ⊢;simp at d g b;apply ai;simp;rw [←b];apply ai;simp at q u;simp [d,g,q,u,DN,rF,Qm];exact aC (y _ _ (vb (bZ x s)) rfl (by simp [Km.results,bj,bZ];rw [awf];simp) ⟨rfl,l⟩)
 exact⟨J,z⟩
def RS(H:aj)(c:C)(l:List av):Prop:=bu H c=aa l.length∧∀(j:Nat) (b:j<l.length),∃ p,bH H 7 ab (.c c) (vi j)=aa (.c p)∧aR H (aa 7) (.c p)=aa (.a (l[j].row.map .f))
theorem LR.rs{H:aj}{c:C}{l:List av}(h:LR H c 7 (al l)):RS H c l:=⟨by simpa using h.len,fun j d=>by
 obtain⟨b,ep,m,l1⟩:=h.at (aX l) (j:=j) (by simpa using d);have g:(al l)[j]'(by simpa using d)=l[j].row:=by simp [al]
 rw [g]at l1;exact⟨_,m,l1⟩⟩
theorem asM(H:aj)(g:Tg)(l:List av):RS H (.f (sl g (al l))) l:=⟨by simpa using D3 (H:=H) g (al l),fun j d=>by
 have b:=bl (H:=H) (g:=g) (rows:=al l) (sz:=7) (k:=.i64) (i:=(j:Int)) (by omega) (by simp;omega);rw [Int.toNat_natCast]at b;exact⟨_,b,bL (aX l) (cQ d)⟩⟩
theorem FY{H:aj}{c:C}{l:List av}(E:∀ J,RS (H++J) c l)(W:l.length≤1000)(s:av){p:Nat}(K:H[p]?=aa (.box (s.row.map .f) 0)):∃ J,Ev tab (.fn 133) [.c c,.c (.cl 131 [.ptr p 0 0])] H (vb (l.any fun x=>bZ x s)) (H++J):=by
 have A:∃ r H',Ev tab (.fn 206) [.c c,.c (.cl 131 [.ptr p 0 0])] H r H'∧∃ J,H'=H++J∧∃ i:Int,r=vi i∧(0≤i↔(l.any fun x=>bZ x s)=ae):=by
  refine cL (C:=fun r H'=>∃ J,H'=H++J∧∃ i:Int,r=vi i∧(0≤i↔(l.any fun x=>bZ x s)=ae)) aoh rfl fun Q v=>?_;have b:=(E []).1;rw [av0]at b;apply ai;simp;apply an;apply ai;simp [b];refine bS l.length (fun j t L=>t.g 0=.c c∧t.g 1=.c (.cl 131 [.ptr p 0 0])∧(∃ J,L=H++J)∧∀(q:Nat) (u:q<l.length),q<j→bZ l[q] s=ag) (by omega) (by decide) (by decide) (by simp) (by simp) ⟨by simp,by simp,⟨[],by simp⟩,by simp⟩ ?_ ?_
  ·rintro j t _ I ⟨g0,y,⟨J,rfl⟩,g⟩ z F next
   obtain⟨X,S,U⟩:=(E J).2 j I;obtain⟨B,d⟩:=C6 l[j] s (H:=H++J) (p:=p) (by rw [AT (ak K)];exact K);have d:=d.eq;refine aF ?_;apply ai;simp [z];apply ai;simp [g0,y,S,U,d,-aw];cases m:bZ l[j] s
   ·refine aB (by simp) (aP (aA (next _ _ ⟨by simp [g0],by simp [y],⟨J++B,by simp⟩,fun q u N=>?_⟩ (by simp [z]) (by simp [F]))));by_cases e:q=j
    ·subst e;exact m
    ·exact g q u (by omega)
   ·refine au (by simp) (ai ?_);simp;refine aC (v _ _ (vi j) rfl (by simp [Km.results,bj]) ⟨J++B,by simp,j,rfl,?_⟩);simp only [awd];exact⟨fun _=>⟨l[j],anc I,m⟩,fun _=>by omega⟩
  ·rintro t _ ⟨g0,y,⟨J,rfl⟩,g⟩ z F;apply ai;simp;refine aC (v _ _ (vi (-1)) rfl (by simp [Km.results,bj]) ⟨J,rfl,-1,rfl,?_⟩);simp only [awd];refine⟨fun h=>by omega,fun⟨x,O,m⟩=>?_⟩;obtain⟨q,u,rfl⟩:=avQ O;rw [g q u u]at m;cases m
 obtain⟨r,H',d,J,rfl,i,rfl,hi⟩:=A;have d:=d.eq;obtain⟨r,H',M,rfl,rfl⟩:∃ r H',Ev tab (.fn 133) [.c c,.c (.cl 131 [.ptr p 0 0])] H r H'∧r=vb (l.any fun x=>bZ x s)∧H'=H++J:=by
  refine cL (C:=fun r H'=>r=vb (l.any fun x=>bZ x s)∧H'=H++J) an_ rfl fun Q v=>?_;apply ai;simp;apply ai;simp [d];refine aC (v _ _ (vb (l.any fun x=>bZ x s)) rfl ?_ ⟨rfl,rfl⟩);have:decide (0≤i)=(l.any fun x=>bZ x s):=by
   rw [awf,decide_eq_true_eq];exact hi
  simp [Km.results,bj,this]
 exact⟨J,M⟩
def uniq(l0:List av):List av→List av→List av
 | acc,[]=>acc| acc,s::r=>if l0.any (fun x=>bZ x s)||acc.any (fun x=>bZ x s)then uniq l0 acc r else uniq l0 (acc++[s]) r
theorem nG{l0:List av}:∀ {l acc:List av},(uniq l0 acc l).length≤acc.length+l.length
 | [],_=>by simp [uniq]
 | s::l,acc=>by
  simp only [uniq];split
  ·have:=nG (l0:=l0) (l:=l) (acc:=acc);simp;omega
  ·have:=nG (l0:=l0) (l:=l) (acc:=acc++[s]);simp at this ⊢;omega
theorem wI{l0:List av}:∀ {l acc:List av} {x:av},x ∈ uniq l0 acc l→x ∈ acc∨x ∈ l
 | [],_,x,h=>.inl h
 | s::l,acc,x,h=>by
  simp only [uniq]at h;split at h
  ·rcases wI h with h | h<;>simp [h]
  ·rcases wI h with h | h
   ·simp at h;rcases h with h | h<;>simp [h]
   ·simp [h]
theorem EV{H:aj}{c:C}{l:List av}(hL:LR H c 7 (al l))(hl:l.length≤30)(hsm:∀ s ∈ l,Fix s)(g0:Tg)(l0:List av)(h0:l0.length≤30):∃ r H',Ev tab (.fn 74) [.c c,.c (.f (sl g0 (al l0)))] H r H' ∧
  ∃ d,r=.c d∧Kp H H'∧LR H' d 7 (al (uniq l0 [] l))∧∀ i,bG d=aa i→H.length≤i:=by
 refine cL (C:=fun r H'=>∃ d,r=.c d∧Kp H H'∧LR H' d 7 (al (uniq l0 [] l))∧∀ i,bG d=aa i→H.length≤i) arJ rfl fun Q hQ=>?_;have O:=hL.len;simp at O;apply ai;simp;apply ai;simp;apply an;apply ai;simp [O];refine bS l.length (fun j t K=>t.g 1=.c (.f (sl g0 (al l0)))∧t.g 9=.c c∧Kp H K∧∃ d o,t.g 5=.c d∧LR K d 7 (al o)∧uniq l0 o (l.drop j)=uniq l0 [] l∧o.length≤j∧∀ i,bG d=aa i→H.length≤i) (by omega) (by decide) (by decide) (by simp) (by simp)
  ⟨by simp,by simp,Kp.refl H,.f .az,[],by simp,LR.nil _ _,by simp,by simp,by simp [bG]⟩ ?_ ?_
 ·rintro j t K hj ⟨Y,g9,M,d,o,Z,hO,I,f7,z⟩ ha hb next
  obtain⟨x,hx⟩:=aJ (l[j]);have hd:l.drop j=x::l.drop (j+1):=by rw [hx];exact auR hj
  rw [hd]at I;have b_:LR K c 7 (al l):=hL.cO fun i y hy _=>by rw [M.2 i (ak hy)];exact hy
  obtain⟨b,ep,i1,l1⟩:=b_.at (aX l) (j:=j) (by simpa using hj);have e0:(al l)[j]'(by simpa using hj)=x.row:=by simp [al,hx]
  rw [e0]at l1;have e2:Fix x:=hsm x (by rw [hx];exact anc hj);unfold Fix at e2;obtain⟨N,q⟩:=aJ (K++[.box (x.row.map .f) 0]:aj);have B:N[K.length]?=aa (.box (x.row.map .f) 0):=by rw [q];simp
  have c_:LR N d 7 (al o):=by rw [q];exact hO.push _
  obtain⟨J1,X⟩:=FY (H:=N) (fun J=>asM _ g0 l0) (by omega) x B;have L:LR (N++J1) d 7 (al o):=c_.push _;have f8:(N++J1)[K.length]?=aa (.box (x.row.map .f) 0):=by rw [AT (ak B)];exact B
  obtain⟨J2,n2⟩:=FY (H:=N++J1) (fun J=>LR.rs (L.push J)) (by omega) x f8;have X:=X.eq;have n2:=n2.eq;refine aF ?_;apply ai;simp [g9,ha,i1,l1,-aw,av.row];simp only [av.row]at q X n2 e2 B;simp at q;rw [←q];apply ai;simp;apply an;refine aq (.inl rfl) ?_;cases hz:l0.any fun y=>bZ y x
  case true=>
   rw [hz]at X;simp only [uniq,hz,Bool.true_or,if_true]at I;obtain⟨S,m⟩:=aJ (N++J1:aj);have A:Kp H S:=by
    rw [m,q];exact⟨by have:=M.1;simp;omega,fun F g=>by
     have:=M.1;rw [avU,AT (by omega)];exact M.2 F g⟩
   simp [Y,X];rw [←m];rw [←m]at L;refine aB (by simp) (aP (aA (next _ _ ⟨by simp [Y],by simp [g9],A,d,o,by simp [Z],L,I,by omega,z⟩ (by simp [ha]) (by simp [hb]))))
  rw [hz]at X;simp [Y,Z,X,n2];obtain⟨S,m⟩:=aJ (N++(J1++J2):aj);have A:Kp H S:=by
   rw [m,q];exact⟨by have:=M.1;simp;omega,fun F g=>by
    have:=M.1;rw [avU,AT (by omega)];exact M.2 F g⟩
  have a_:LR S d 7 (al o):=by rw [m,←avU];exact L.push _
  rw [←m];have W:S[K.length]?=aa (.box (x.row.map .f) 0):=by rw [m,AT (ak B)];simp only [av.row];exact B
  cases u:o.any fun y=>bZ y x
  case true=>
   simp only [uniq,u,Bool.or_true,if_true]at I;refine aB (by simp [u]) (aP (aA (next _ _ ⟨by simp [Y],by simp [g9],A,d,o,by simp [Z],a_,I,by omega,z⟩ (by simp [ha]) (by simp [hb]))))
  case false=>
   simp only [uniq,hz,u,Bool.or_self,Bool.false_eq_true,if_false]at I;obtain⟨H4,v⟩:=aJ (S++[.box (x.row.map .f) 0]:aj);have d9:LR H4 d 7 (al o):=by rw [v];exact a_.push _
   obtain⟨c2,H5,E,d_,a8,b9⟩:=d9.app (aX o) (by decide) (row:=x.row) rfl (bytes:=88) (nA (by simp;omega) (by decide)) (b1:=S.length) (fl1:=0) (by rw [v];simp);have U:Kp H H4:=by
    rw [v];exact⟨by have:=A.1;simp;omega,fun F g=>by rw [AT (avJ g A.1)];exact A.2 F g⟩
   have e_:Kp H H5:=⟨avv U.1 a8.1,fun F g=>by
    have hy:=By g;rw [a8.2 F H[F] (by rw [U.2 F g,hy]) (fun e=>by have:=z F e;omega),hy]⟩
   refine au (by simp [u]) ?_;refine aq (.inl rfl) ?_;simp only [av.row]at W v E;simp at W v E;have f_:(cF 1 [fi 0,fi 0,fi 0,fi 0,FC.az,fi 0,FC.az]).map C.f=[.f (fi 0),.f (fi 0),.f (fi 0),.f (fi 0),.f .az,.f (fi 0),.f .az]:=rfl;simp at e2;simp [Z,W,e2,←v,E];refine aA (next _ _ ⟨by simp [Y],by simp [g9],e_,c2,o++[x],by simp,?_,?_,by simp;omega,fun i hi=>?_⟩ (by simp [ha]) (by simp [hb]))
   ·have e:al (o++[x])=al o++[x.row]:=by simp [al]
    rw [e];exact d_
   ·exact I
   ·rcases b9 with h | h
    ·rw [h]at hi;exact z i hi
    ·rw [h]at hi;cases hi;exact U.1
 ·rintro t K ⟨Y,g9,M,d,o,Z,hO,I,f7,z⟩ ha hb;apply ai;simp [Z];refine aC (hQ _ _ (.c d) rfl (by simp [Km.results,bj]) ⟨d,rfl,M,?_,z⟩);rw [List.drop_of_length_le (aft _)]at I;rw [←I];exact hO
theorem ad3{m u:Type}{f:m→u}{l l':List u}(h:l'.Perm l):∀ o:List m,l=o.map f→∃ o':List m,l'=o'.map f∧o'.Perm o:=by
 induction h with
 | nil=>intro o d;exact⟨[],rfl,by
   have:o=[]:=by simpa using d.symm
   rw [this]⟩
 | cons x h A=>
  intro o d;cases o with
  | nil=>simp at d
  | cons a o=>
   simp only [avl,List.cons.injEq]at d;obtain⟨o',q,s⟩:=A o d.2;exact⟨a::o',by simp [q,d.1],s.cons a⟩
 | swap x y l=>
  intro o d
  match o with
  | []=>simp at d| [a]=>simp at d
  | a::b::o=>
   simp only [avl,List.cons.injEq]at d;exact⟨b::a::o,by simp [d.1,d.2.1,d.2.2],List.Perm.swap a b o⟩
 | trans q s g j=>
  intro o d;obtain⟨E,z,H⟩:=j o d;obtain⟨B,v,F⟩:=g E z;exact⟨B,v,F.trans H⟩
theorem uY{j:Type}{R:j→j→Prop}:∀ {A B:List j},A.Perm B→A.Pairwise R→B.Pairwise R→(∀ x ∈ A,∀ y ∈ A,R x y→R y x→x=y)→A=B
 | [],B,h,_,_,_=>(List.nil_perm.1 h).symm| a::A,[],h,_,_,_=>by have:=h.length_eq;simp at this
 | a::A,b::B,h,m,q,d=>by
  have g:a=b:=by
   by_cases e:a=b
   ·exact e
   have s:a ∈ B:=by
    have:a ∈ b::B:=h.mem_iff.1 atI;rcases avn.1 this with rfl | h
    ·exact absurd rfl e
    ·exact h
   have l:b ∈ A:=by
    have:b ∈ a::A:=h.mem_iff.2 atI;rcases avn.1 this with rfl | h
    ·exact absurd rfl e
    ·exact h
   exact d a atI b (aul _ l) (awh m l) (awh q s)
  subst g;rw [uY ((List.perm_cons a).1 h) (awX m) (awX q) fun x u y v=>d x (aul _ u) y (aul _ v)]
def jf(x y:av):Prop:=¬ (y.meet<x.meet∨y.meet=x.meet∧y.room<x.room)
theorem sF{x y:av}:bZ x y=ae↔x.meet=y.meet∧x.room=y.room:=by simp [bZ]
def ig(x:bC):Bool:=decide (x.state=1)||decide (x.state=2)
def bB(l:List bC):List av:=(l.filter ig).map bC.aU
theorem xU(h:dm)(hl:h.l.length≤30)(hs:∀ x ∈ h.l,Fix x.aU)(g0:Tg)(l0:List av)(h0:l0.length≤30)(H:aj):∃ r H',Ev tab (.fn 41) [.a (h.row.map .f),.c (.f (sl g0 (al l0)))] H r H' ∧
  ∃ u,r=.c u∧Kp H H'∧LR H' u 7 (al (uniq l0 [] (bB h.l)))∧∀ i,bG u=aa i→H.length≤i:=by
 refine cL (C:=fun r H'=>∃ u,r=.c u∧Kp H H'∧LR H' u 7 (al (uniq l0 [] (bB h.l)))∧∀ i,bG u=aa i→H.length≤i) arH rfl fun Q hQ=>?_;apply ai;simp [dm.row];obtain⟨H0,K⟩:=aJ (H++[.box [.f (fi h.clock),.f (fi h.bO),.f (sl h.lg (aQ h.l))] 0]:aj);have z0:H0[H.length]?=aa (.box [.f (fi h.clock),.f (fi h.bO),.f (sl h.lg (aQ h.l))] 0):=by rw [K];simp
 have zk:Kp H H0:=by rw [K];exact Kp.push _ _
 rw [←K];apply ai;simp;apply an;apply ai;simp [z0];refine bS h.l.length (fun j t E=>t.g 1=.c (.f (sl g0 (al l0)))∧t.g 9=.c (.f (sl h.lg (aQ h.l)))∧Kp H E∧∃ c,t.g 5=.c c∧LR E c 7 (al (bB (h.l.take j)))∧∀ i,bG c=aa i→H.length≤i) (by omega) (by decide) (by decide) (by simp) (by simp)
  ⟨by simp,by simp,zk,.f .az,by simp,LR.nil _ _,by simp [bG]⟩ ?_ ?_
 ·rintro j t E hj ⟨F,J,A,c,I,hL,z⟩ X hb next
  have M:=fun H:aj=>bL (H:=H) (bF h.l) (dj hj);simp only [bC.row]at M;obtain⟨x,hx⟩:=aJ (h.l[j]);rw [←hx]at M;have a_:h.l.take (j+1)=h.l.take j++[x]:=by rw [hx,avK,By hj];rfl
  obtain⟨N,v⟩:=aJ (E++[.box [.f (fi x.id),.f (fi x.dl),.f (fi x.state),.f (fi x.aU.meet),.f (fi x.aU.room),.f (fi x.aU.dB),.f (fi x.aU.size),.f (sl x.aU.st.cg (aM x.aU.st.cs)),.f (fi x.aU.st.len),.f (sl x.aU.st.xg (aH x.aU.st.xs))] 0]:aj);have nr:N[E.length]?=aa (.box [.f (fi x.id),.f (fi x.dl),.f (fi x.state),.f (fi x.aU.meet),.f (fi x.aU.room),.f (fi x.aU.dB),.f (fi x.aU.size),.f (sl x.aU.st.cg (aM x.aU.st.cs)),.f (fi x.aU.st.len),.f (sl x.aU.st.xg (aH x.aU.st.xs))] 0):=by rw [v];simp
  have d:Kp H N:=by
   rw [v];exact⟨by have:=A.1;simp;omega,fun l b=>by rw [AT (avJ b A.1)];exact A.2 l b⟩
  have W:LR N c 7 (al (bB (h.l.take j))):=by rw [v];exact hL.push _
  refine aF ?_;apply ai;simp [X,J,bl,hj,M];rw [←v];apply an;refine aq (.inl rfl) ?_;simp [nr];cases q:ig x
  case false=>
   have f7:bB (h.l.take (j+1))=bB (h.l.take j):=by rw [a_];simp [bB,aw6,q]
   have O:x.state≠1:=fun e=>by simp [ig,e]at q
   have h2:x.state≠2:=fun e=>by simp [ig,e]at q
   simp [O,h2,nr];refine aB (by simp) (aP (aA (next _ _ ⟨by simp [F],by simp [J],d,c,by simp [I],by rw [f7];exact W,z⟩ (by simp [X]) (by simp [hb]))))
  case true=>
   have b9:bB (h.l.take (j+1))=bB (h.l.take j)++[x.aU]:=by rw [a_];simp [bB,aw6,q]
   obtain⟨H4,g⟩:=aJ (N++[.box (x.aU.row.map .f) 0]:aj);have B:(bB (h.l.take j)).length≤30:=by
    have O:(bB (h.l.take j)).length≤(h.l.take j).length:=by simp only [bB,avi];exact av5 _ _
    have h2:(h.l.take j).length≤h.l.length:=by rw [avA];omega
    omega
   have d9:LR H4 c 7 (al (bB (h.l.take j))):=by rw [g];exact W.push _
   obtain⟨c2,H5,m,d_,U,Z⟩:=d9.app (aX _) (by decide) (row:=x.aU.row) rfl (bytes:=88) (nA (by simp;omega) (by decide)) (b1:=N.length) (fl1:=0) (by rw [g];simp);have L:Kp H H4:=by
    rw [g];exact⟨by have:=d.1;simp;omega,fun l b=>by rw [AT (avJ b d.1)];exact d.2 l b⟩
   have e_:Kp H H5:=⟨avv L.1 U.1,fun l b=>by
    have hy:=By b;rw [U.2 l H[l] (by rw [L.2 l b,hy]) (fun e=>by have:=z l e;omega),hy]⟩
   simp only [av.row]at g m;simp at g m;have S:∀ t:T,t.g 1=.c (.f (sl g0 (al l0)))→t.g 9=.c (.f (sl h.lg (aQ h.l)))→t.g 5=.c c→t.g 7=.c (.ptr E.length 0 0)→t.g 10=vi h.l.length→t.g 11=vi j →
     WP tab 41 ab [.code AP,.inBlock 1,.code (tI 11 28),.inLoop (ja 0 11 10 12 28 AO),.inBlock 0,.code AQ] ⟨t,[],N⟩ Q:=by
    intro t F J I g7 b_ c_;refine aq (.inl rfl) ?_;simp [I,g7,nr,←g,m];refine aA (next _ _ ⟨by simp [F],by simp [J],e_,c2,by simp,?_,fun i hi=>?_⟩ (by simp [c_]) (by simp [b_]))
    ·rw [b9];have e:al (bB (h.l.take j)++[x.aU])=al (bB (h.l.take j))++[x.aU.row]:=by simp [al]
     rw [e];exact d_
    ·rcases Z with h | h
     ·rw [h]at hi;exact z i hi
     ·rw [h]at hi;cases hi;exact L.1
   by_cases O:x.state=1
   ·simp [O];exact au (by simp) (S _ (by simp [F]) (by simp [J]) (by simp [I]) (by simp) (by simp [hb]) (by simp [X]))
   ·have h2:x.state=2:=by simp [ig]at q;omega
    simp [O,h2,nr];exact au (by simp) (S _ (by simp [F]) (by simp [J]) (by simp [I]) (by simp) (by simp [hb]) (by simp [X]))
 ·rintro t E ⟨F,J,A,c,I,hL,z⟩ X hb;rw [avj (aft _)]at hL;have B:(bB h.l).length≤30:=by
   have O:(bB h.l).length≤h.l.length:=by simp only [bB,avi];exact av5 _ _
   omega
  obtain⟨r,H2,he,u,rfl,d,hO,Y⟩:=EV hL B (g0:=g0) (l0:=l0) (h0:=h0) (hsm:=fun s a8=>by
   simp only [bB,avx,List.mem_filter]at a8;obtain⟨y,⟨hy,_⟩,rfl⟩:=a8;exact hs y hy)
  have he:=he.eq;apply ai;simp [F,I,he];exact aC (hQ _ _ (.c u) rfl (by simp [Km.results,bj]) ⟨u,rfl,⟨avv A.1 d.1,fun l b=>by rw [d.2 l (avJ b A.1)];exact A.2 l b⟩,hO,fun i hi=>avv A.1 (Y i hi)⟩)
def sσ:C_:={ pdq:=0,ins:=134,heap:=0,auv:=0,brk:=0,piv:=0,rev:=0,part:=0,peq:=0,pins:=0,aum:=0,med:=0,ord:=0,npt:=0,nxt:=0,len:=0,apY:=75,rz:=135,rot:=207,swr:=281 }
theorem akf{H:aj}(v:V):∃ r H',Ev tab (.fn 134) [v,vi 0,vi 0,.c (.f (.fn 43 []))] H r H'∧(r=.t []∧H'=H):=by
 refine cL rfl rfl fun Q b=>?_;apply ai;simp [aW (n:=(1:Int))];refine aF (iL ?_);apply an;apply ai;simp;refine aB (by simp) ?_;refine bJ (k':=[]) rfl ?_;exact cE (b _ _ _ rfl rfl ⟨rfl,rfl⟩)
theorem aeO{H:aj}(v:V):∃ r H',Ev tab (.fn 75) [v,vi 0,.c (.f (.fn 43 []))] H r H'∧(r=.t []∧H'=H):=by
 obtain⟨r,H',b,rfl,rfl⟩:=akf (H:=H) v;have b:=b.eq;refine cL rfl rfl fun Q d=>?_;apply ai;simp;apply ai;simp;apply an;refine aF (iL ?_);apply an;apply ai;simp;refine aB (by simp) ?_;refine bJ (k':=[.code xL]) rfl ?_;apply ai;simp [b];refine aF (iL ?_);apply an;apply ai;simp;refine aB (by simp) ?_;refine bJ (k':=[]) rfl ?_;exact cE (d _ _ _ rfl rfl ⟨rfl,rfl⟩)
theorem C5{o:List av}{n:Nat}(g:o.length=n)(h:Up En 0 n (al o)):o.Pairwise jf:=by
 rw [avV];intro i j hi d b;have:=h i j o[i].row o[j].row (by omega) b (by omega) (cQ hi) (cQ d);rw [Ae]at this;exact this
theorem GB{H:aj}{c:C}{o:List av}(A:LR H c 7 (al o))(L:o.length<40):∃ r H',Ev tab (.fn 42) [.c c,.c (.f (.fn 43 []))] H r H' ∧
  (r=.t []∧Kb H H' c∧∃ o',LR H' c 7 (al o')∧o'.Perm o∧o'.Pairwise jf):=by
 have d:=A.len;simp at d;rcases A with⟨J,I⟩ | ⟨y,B,ep,rfl,F⟩
 ·have z:o=[]:=by simpa [al]using J
  subst z;obtain⟨r,H',g,rfl,rfl⟩:=aeO (H:=H) (.c c);have g:=g.eq;refine cL (C:=fun r j=>r=.t []∧Kb H' j c∧∃ o',LR j c 7 (al o')∧o'.Perm []∧o'.Pairwise jf) acf rfl fun Q x=>?_;refine aq (.inl rfl) ?_;simp at d;simp [d,g];exact cE (x _ _ (.t []) rfl rfl ⟨rfl,Kb.refl _ _,[],.inl ⟨rfl,I⟩,.refl _,.nil⟩)
 ·have l:(al o).length=o.length:=by simp
  obtain⟨r,H',g,rfl,K,l',v,M,N⟩:=alC (σ:=sσ) (tab:=tab) (sz:=7) (b:=B) (ep:=ep) (H:=H) (rows:=al o) (n:=o.length) aom aok aoo aol aon acO PY l L F (aX o) (fun r E=>by
   simp only [al,avx]at E;obtain⟨s,_,rfl⟩:=E;exact⟨s,rfl⟩)
  have g:=g.eq;obtain⟨o',rfl,u⟩:=ad3 M o rfl;have q:o'.length=o.length:=u.length_eq;rw [l]at d ⊢;refine cL (C:=fun r j=>r=.t []∧Kb H j (.sl B 0 o.length 0 ep 7)∧∃ o',LR j (.sl B 0 o.length 0 ep 7) 7 (al o')∧o'.Perm o∧o'.Pairwise jf) acf rfl fun Q x=>?_;refine aq (.inl rfl) ?_;have m:Ev tab (.fn 75) [.c (.sl B 0 o.length 0 ep 7),vi o.length,.c (.f (.fn 43 []))] H=E2 (.t []) H':=g;simp [d,m];refine cE (x _ ⟨_,[],H'⟩ (.t []) rfl rfl ⟨rfl,Kb.asr K,o',.inr ⟨?_,B,ep,?_,v⟩,u,C5 q N⟩)
  ·intro e;have h0:o'.length=0:=by have:=congrArg List.length e;simpa [al]using this
   exact y (List.length_eq_zero_iff.1 (by rw [l];omega))
  ·have:(al o').length=o.length:=by simp [q]
   rw [this]
def gX:dm:=⟨0,0,.nil,[]⟩
def Chg(F:Nat)(b:List FC)(h:dm)(e:Int)(res:dm):Prop:=
 ∀(H:aj) (p:Nat) (c:C),H[p]?=aa (.box [.f (fi h.clock),.f (fi h.bO),c] 0)→LR H c 10 (aQ h.l)→bG c≠aa p →
  ∃ r H',Ev tab (.fn F) (.c (.ptr p 0 0)::b.map fun x=>.c (.f x)) H r H'∧r=vi e∧H.length≤H'.length∧(∀ i y,H[i]?=aa y→i≠p→bG c≠aa i→H'[i]?=aa y) ∧
   (e=0→H'[p]?=aa (.box [.f (fi res.clock),.f (fi res.bO),c] 0)∧LR H' c 10 (aQ res.l))
theorem xS(h:dm)(hl:h.l.length≤30)(hs:∀ x ∈ h.l,Fix x.aU){F:Nat}{b:List FC}{e:Int}{res:dm}(Z:Chg F b h e res) :
  ∃(g:Tg) (s:dm),s=(if e=0 then { res with lg:=g }else gX)∧bg tab 50 [.a (h.row.map .f),.c (.f (.fn F b)),vi 0]=Eq (.t [.a (s.row.map .f),vi e]):=by
 obtain⟨r,⟨g,s,N,rfl⟩,hp⟩:∃ r,(∃(g:Tg) (s:dm),s=(if e=0 then { res with lg:=g }else gX)∧r=.t [.a (s.row.map .f),vi e])∧bg tab 50 [.a (h.row.map .f),.c (.f (.fn F b)),vi 0] r:=by
  refine dY rfl rfl fun Q U=>?_;apply ai;simp [dm.row];obtain⟨A,d⟩:=aJ ([.box [.f (fi h.clock),.f (fi h.bO),.f (sl h.lg (aQ h.l))] 0,.box [.f (fi 0),.f (fi 0),.f .az] 0]:aj);obtain⟨r,u,E,c,rfl,W,S,hc⟩:=xW h hl hs A;have E:=E.eq;simp [dm.row]at E;have z0:A[0]?=aa (.box [.f (fi h.clock),.f (fi h.bO),.f (sl h.lg (aQ h.l))] 0):=by rw [d];rfl
  have z1:A[1]?=aa (.box [.f (fi 0),.f (fi 0),.f .az] 0):=by rw [d];rfl
  have zl:A.length=2:=by rw [d];rfl
  have X:u[1]?=aa (.box [.f (fi 0),.f (fi 0),.f .az] 0):=by rw [W.2 1 (by omega)];exact z1
  rw [←d];apply ai;simp [z0,E];obtain⟨B,j⟩:=aJ (u++[.box [.f (fi h.clock),.f (fi h.bO),c] 0]:aj);have m1:B[1]?=aa (.box [.f (fi 0),.f (fi 0),.f .az] 0):=by rw [j,AT (ak X)];exact X
  have m2:B[u.length]?=aa (.box [.f (fi h.clock),.f (fi h.bO),c] 0):=by rw [j];simp
  have I:LR B c 10 (aQ h.l):=by rw [j];exact S.push _
  have K:bG c≠aa u.length:=fun e=>by have:=S.lt e;omega
  have Y:=W.1;rw [←j];obtain⟨r,O,m,rfl,M,q,z⟩:=Z B u.length c m2 I K;have m:=m.eq;have v:bG c≠aa 1:=fun e=>by have:=hc 1 e;omega
  have H:O[1]?=aa (.box [.f (fi 0),.f (fi 0),.f .az] 0):=q 1 _ m1 (by omega) v;apply an;apply ai;simp [bX,m];apply an;refine aq (.inl rfl) ?_;simp;by_cases l:e=0
  case neg=>
   refine au (by simp [l]) ?_;apply ai;simp [H];refine aC (U _ _ (.t [.a (gX.row.map .f),vi e]) ⟨.nil,gX,by simp [l],rfl⟩ ?_);simp [Km.results,bj,ak H,iU,cD,deep,gX,dm.row,sl,Tg.fc,aQ]
  subst l;obtain⟨q1,J⟩:=z rfl;obtain⟨g,hg⟩:=J.exU (bF _);refine bo (by simp) ?_;apply ai;simp [H,q1];have L:=hg (O.set 1 (.box [.f (fi res.clock),.f (fi res.bO),c] 0)) 63 (fun i y hy hi=>by
   have:(1:Nat)≠i:=by rintro rfl;exact v hi
   rw [AI this];exact hy)
  refine aC (U _ _ (.t [.a ((⟨res.clock,res.bO,g,res.l⟩:dm).row.map .f),vi 0]) ⟨g,⟨res.clock,res.bO,g,res.l⟩,by simp,rfl⟩ ?_);simp [Km.results,bj,ak H,iU,cD,deep,dm.row,L]
 exact⟨g,s,N,hp.eq⟩
def gW(clk:Int)(x:bC):bC:=if x.state=1∧x.dl<clk then { x with state:=4 }else x
def eQ(clk:Int)(j:Nat)(l:List bC):List bC:=(l.take j).map (gW clk)++l.drop j
theorem jV{clk:Int}{j:Nat}{l:List bC}:(eQ clk j l).length=l.length:=by
 simp [eQ];omega
theorem zc{clk:Int}{j:Nat}{l:List bC}(b:j<l.length):(eQ clk j l)[j]?=aa l[j]:=by
 unfold eQ;rw [List.getElem?_append_right (by simp;omega)];simp [show min j l.length=j by omega,b]
theorem tz{clk:Int}{j:Nat}{l:List bC}(b:j<l.length):eQ clk (j+1) l=(eQ clk j l).set j (gW clk l[j]):=by
 unfold eQ;have d:((l.take j).map (gW clk)).length=j:=by simp;omega
 rw [List.set_append_right _ _ (by omega),d,Nat.sub_self,auR b,List.take_succ_eq_append_getElem b];simp only [List.map_append,avl,avs,avU,awc,awm,List.set_cons_zero]
theorem EU{clk:Int}{l:List bC}:eQ clk l.length l=l.map (gW clk):=by simp [eQ]
def lI(h:dm)(clk:Int):Int:=if cV h=ag∨clk<h.clock∨2251799813685248<clk then 1 else 0
theorem aeX(h:dm)(hl:h.l.length≤30)(clk:Int):Chg 51 [.fp [fi h.clock,fi h.bO,sl h.lg (aQ h.l)] 0,.fp [fi clk] 0] h (lI h clk) ⟨clk,h.bO,.nil,h.l.map (gW clk)⟩:=by
 intro H p c hp hL Y;have hv:=nT h hl;simp [dm.row]at hv;have e1:∀ H:aj,aR H (aa 3) (.c (.f (.fp [fi h.clock,fi h.bO,sl h.lg (aQ h.l)] 0)))=aa (.a [.f (fi h.clock),.f (fi h.bO),.f (sl h.lg (aQ h.l))]):=fun _=>rfl;have e2:∀ H:aj,aR H ab (.c (.f (.fp [fi h.clock,fi h.bO,sl h.lg (aQ h.l)] 0)))=aa (vi h.clock):=fun _=>rfl;have O:∀ H:aj,aR H ab (.c (.f (.fp [fi clk] 0)))=aa (vi clk):=fun _=>rfl;refine cL (C:=fun r H'=>r=vi (lI h clk)∧H.length≤H'.length∧(∀ i y,H[i]?=aa y→i≠p→bG c≠aa i→H'[i]?=aa y) ∧
   (lI h clk=0→H'[p]?=aa (.box [.f (fi clk),.f (fi h.bO),c] 0)∧LR H' c 10 (aQ (h.l.map (gW clk))))) arG rfl fun Q hQ=>?_
 have bad:lI h clk=1→∀ t:T,t.g 19=vb ae→WP tab 51 ab [.code E4,.code E5] ⟨t,[],H⟩ Q:=by
  intro he t g;refine au (by simp [g]) (ai ?_);simp;exact aC (hQ _ _ (vi 1) rfl (by simp [Km.results,bj]) ⟨by rw [he],aft _,fun i y hy _ _=>hy,fun e=>by rw [he]at e;cases e⟩)
 apply ai;simp;apply an;apply an;refine aq (.inl rfl) ?_;simp [e1,hv];cases u:cV h
 case false=>
  simp;exact bad (by simp [lI,u]) _ (by simp)
 by_cases k1:clk<h.clock
 ·simp [e2,O,k1];exact bad (by simp [lI,k1]) _ (by simp)
 by_cases k2:2251799813685248<clk
 ·simp [e2,O,k1,k2];exact bad (by simp [lI,k2]) _ (by simp)
 simp [e2,O,k1,k2];have he:lI h clk=0:=by simp [lI,u,k1,k2]
 refine bo (by simp) ?_;obtain⟨H1,d⟩:=aJ (H.set p (.box [.f (fi clk),.f (fi h.bO),c] 0):aj);have z1:H1[p]?=aa (.box [.f (fi clk),.f (fi h.bO),c] 0):=by rw [d];exact IN (ak hp)
 have W:LR H1 c 10 (aQ h.l):=by rw [d];exact hL.set Y _
 have f8:H1.length=H.length:=by rw [d];simp
 have f7:∀ i y,H[i]?=aa y→i≠p→bG c≠aa i→H1[i]?=aa y:=fun i y hy hi _=>by rw [d,AI (Ne.symm hi)];exact hy
 apply ai;simp [O,hp];rw [←d];apply an;have b_:=W.len;simp at b_;apply ai;simp [z1,b_];refine bS h.l.length (fun j t m=>t.g 0=.c (.ptr p 0 0)∧t.g 2=.c (.f (.fp [fi clk] 0))∧m[p]?=aa (.box [.f (fi clk),.f (fi h.bO),c] 0)∧LR m c 10 (aQ (eQ clk j h.l))∧H.length≤m.length∧(∀ i y,H[i]?=aa y→i≠p→bG c≠aa i→m[i]?=aa y)) (by omega) (by decide) (by decide) (by simp) (by simp)
  ⟨by simp,by simp,z1,by simpa [eQ]using W,by omega,f7⟩ ?_ ?_
 ·rintro j t m S ⟨g0,l,z2,q,I,s⟩ ha hb next
  rcases q with⟨e_,_⟩ | ⟨g_,B,ep,rfl,u⟩
  ·have:(eQ clk j h.l).length=0:=by have:=congrArg List.length e_;simpa [aQ]using this
   rw [jV]at this;omega
  obtain⟨x,hx⟩:=aJ (h.l[j]);have c_:(aQ (eQ clk j h.l)).length=h.l.length:=by simp [jV]
  have F:(aQ (eQ clk j h.l))[j]?=aa x.row:=by rw [hx];simp [aQ,zc S]
  have b9:=u.at (show j<(aQ (eQ clk j h.l)).length by omega);have J:=u.ldc (k:=2) (x:=fi x.state) (bF _) F rfl;have Z:=u.ldc (k:=1) (x:=fi x.dl) (bF _) F rfl;obtain⟨H4,v,U,a8,i5⟩:=u.stp (k:=2) (xs:=[fi 4]) (bF _) F (by decide);have h_:over x.row 2 [fi 4]=(bC.row { x with state:=4 }):=rfl;rw [h_,lY]at U;have d9:B≠p:=fun e=>Y (by rw [e];rfl);have d_:aR m ab (.c (.ptr p 2 0))=aa (.c (.sl B 0 h.l.length 0 ep 10)):=by simp [z2,aV,c_]
  simp only [c_]at *;refine aF ?_;apply ai;simp [ha];apply ai;simp [g0,d_,b9,-aw];have no:gW clk x=x→∀ b:T,b.g 0=.c (.ptr p 0 0)→b.g 2=.c (.f (.fp [fi clk] 0))→b.g 29=vi j→b.g 28=t.g 28→b.g 50=vb ag →
    WP tab 51 ab [.code ur,.inBlock 1,.code uu,.inLoop uq,.inBlock 0,.code uz] ⟨b,[],m⟩ Q:=by
   intro L b g0 l A z E;have K:eQ clk (j+1) h.l=eQ clk j h.l:=by
    rw [tz S,←hx,L];obtain⟨f_,a_⟩:=List.getElem?_eq_some_iff.1 (zc (clk:=clk) S);rw [←hx]at a_
    conv=>lhs;rw [←a_]
    exact awy f_
   refine aB (by simp [E]) (aP (aA (next _ _ ⟨by simp [g0],by simp [l],z2,?_,I,s⟩ (by simp [A]) (by simp [z,hb]))));rw [K];exact .inr ⟨g_,B,ep,by simp [jV],u⟩
  have i4:x.state=1→x.dl<clk→∀ b:T,b.g 0=.c (.ptr p 0 0)→b.g 2=.c (.f (.fp [fi clk] 0))→b.g 29=vi j→b.g 28=t.g 28→b.g 6=.c (.ptr B (j*10) ep)→b.g 50=vb ae →
    WP tab 51 ab [.code ur,.inBlock 1,.code uu,.inLoop uq,.inBlock 0,.code uz] ⟨b,[],m⟩ Q:=by
   intro M N b g0 l A z g6 E;have L:gW clk x = { x with state:=4 }:=bf ⟨M,N⟩;have K:eQ clk (j+1) h.l=(eQ clk j h.l).set j { x with state:=4 }:=by rw [tz S,←hx,L]
   refine au (by simp [E]) ?_;refine aq (.inl rfl) ?_;simp only [avl,avs]at v;simp [g6,v,-bh];refine aA (next _ _ ⟨by simp [g0],by simp [l],a8.get z2 (Ne.symm d9),?_,by omega,fun i y hy hi X=>a8.get (s i y hy hi X) (fun e=>X (by rw [e];rfl))⟩ (by simp [A]) (by simp [z,hb]));rw [K];refine .inr ⟨fun e=>?_,B,ep,by simp [jV],U⟩;have:=congrArg List.length e;simp [jV]at this;rw [this]at S;simp at S
  apply an;refine aq (.inl rfl) ?_;by_cases M:x.state=1
  ·by_cases N:x.dl<clk
   ·simp [J,Z,M,N,l,O,-aw];exact i4 M N _ (by simp [g0]) (by simp [l]) (by simp [ha]) (by simp) (by simp) (by simp)
   ·simp [J,Z,M,N,l,O,-aw];exact no (aY fun e=>N e.2) _ (by simp [g0]) (by simp [l]) (by simp [ha]) (by simp) (by simp)
  ·simp [J,M,-aw];exact no (aY fun e=>M e.1) _ (by simp [g0]) (by simp [l]) (by simp [ha]) (by simp) (by simp)
 ·rintro t m ⟨g0,l,z2,q,I,s⟩ - -;apply ai;simp;rw [EU]at q;exact aC (hQ _ _ (vi 0) rfl (by simp [Km.results,bj]) ⟨by rw [he],I,s,fun _=>⟨z2,q⟩⟩)
theorem alJ(h:dm)(m:h.l.length≤30)(v:∀ x ∈ h.l,Fix x.aU)(clk:Int):∃(g:Tg) (j:dm),j=(if lI h clk=0 then⟨clk,h.bO,g,h.l.map (gW clk)⟩else gX) ∧
  bg tab 18 [.a (h.row.map .f),vi clk]=Eq (.t [.a (j.row.map .f),vi (lI h clk)]):=by
 obtain⟨g,j,l,d⟩:=xS h m v (aeX h m clk);refine⟨g,j,l,bg.eq ?_⟩;refine bI rfl rfl fun Q u=>?_;simp [dm.row]at d;apply ai;simp [dm.row];obtain⟨s,b⟩:=aJ (gF 64 (C.cl 51 [C.ptr 0 0 0,C.ptr 1 0 0]) [bw.box [C.f (fi h.clock),C.f (fi h.bO),C.f (sl h.lg (aQ h.l))] 0,bw.box [vi clk |> fun _=>C.f (fi clk)] 0,bw.box [C.f (fi 0),C.f (fi 0),C.f FC.az] 0]:aj);have q:s[2]?=aa (.box [C.f (fi 0),C.f (fi 0),C.f FC.az] 0):=by rw [b];rfl
 apply ai;simp [mU,iU,cD,deep,d];simp at b;rw [←b];simp [q];refine aC (u _ _ ?_);simp [Km.results,bj,ak q,iU,cD,deep,dm.row]
def qz(id:Int)(l:List bC):Option Nat:=l.findIdx? fun x=>decide (x.id=id)
theorem sk{id:Int}{l:List bC}{i:Nat}(h:qz id l=aa i):∃ hi:i<l.length,l[i].id=id:=by
 unfold qz at h;rw [awq]at h;obtain⟨hi,b,_⟩:=h;exact⟨hi,by simpa using b⟩
theorem sj{id:Int}{l:List bC}(h:∀ q (b:q<l.length),l[q].id≠id):qz id l=ab:=by
 unfold qz;rw [List.findIdx?_eq_none_iff];intro x d;obtain⟨q,b,rfl⟩:=avQ d;simp [h q b]
theorem zH{id:Int}{l:List bC}{i:Nat}(hi:i<l.length)(b:l[i].id=id)(h:∀ q (g:q<l.length),q<i→l[q].id≠id):qz id l=aa i:=by
 unfold qz;rw [awq];exact⟨hi,by simpa using b,fun j d=>by simpa using h j (by omega) d⟩
def eE(h:dm)(id:Int):Int:=if cV h=ag then 1 else match qz id h.l with
 | none=>4
 | some i=>match h.l[i]? with
  | none=>4| some x=>if x.state=1 then 0 else 7
def akP(i:Nat)(b:Int)(l:List bC):List bC:=match l[i]? with
 | none=>l| some x=>l.set i { x with state:=b }
def ji(h:dm)(id b:Int):dm:=⟨h.clock,h.bO,.nil,match qz id h.l with
 | none=>h.l
 | some i=>akP i b h.l⟩
theorem yd{h:dm}(u:cV h=ae){id:Int}{i:Nat}(b:∀ j (x:j<h.l.length),j<i→h.l[j].id<id)(m:∀ j (x:j<h.l.length),i≤j→id≤h.l[j].id):qz id h.l=if tU h.l i id then aa i else ab:=by
 have v:fQ h.clock 0 h.l=ae:=by
  unfold cV at u;simp only [If]at u;exact u.2
 have g:=(sC v).2;rw [avV]at g;by_cases hi:i<h.l.length
 ·by_cases l:h.l[i].id=id
  ·have:tU h.l i id=ae:=by simp [tU,hi,l]
   rw [this,bf rfl];exact zH hi l fun q d s=>by have:=b q d s;omega
  ·have:tU h.l i id=ag:=by simp [tU,hi,l]
   rw [this,aY (by simp)];refine sj fun q d=>?_;rcases awp q i with k | k | k
   ·have:=b q d k;omega
   ·subst k;exact l
   ·have:=g i q hi d k;have:=m i hi (aft _);omega
 ·have:tU h.l i id=ag:=by simp [tU,List.getElem?_eq_none (by omega:h.l.length≤i)]
  rw [this,aY (by simp)];exact sj fun q d=>by have:=b q d (by omega);omega
theorem ae0(h:dm)(hl:h.l.length≤30)(id l:Int):Chg 96 [.fp [fi h.clock,fi h.bO,sl h.lg (aQ h.l)] 0,.fp [fi id] 0,.fp [fi l] 0] h (eE h id) (ji h id l):=by
 intro H p c hp hL S;have hv:=nT h hl;simp [dm.row]at hv;have e1:∀ H:aj,aR H (aa 3) (.c (.f (.fp [fi h.clock,fi h.bO,sl h.lg (aQ h.l)] 0)))=aa (.a [.f (fi h.clock),.f (fi h.bO),.f (sl h.lg (aQ h.l))]):=fun _=>rfl;have e2:∀ H:aj,aR H ab (.c (.f (.fp [fi id] 0)))=aa (vi id):=fun _=>rfl;have e3:∀ H:aj,aR H ab (.c (.f (.fp [fi l] 0)))=aa (vi l):=fun _=>rfl;refine cL (C:=fun r H'=>r=vi (eE h id)∧H.length≤H'.length∧(∀ i y,H[i]?=aa y→i≠p→bG c≠aa i→H'[i]?=aa y) ∧
   (eE h id=0→H'[p]?=aa (.box [.f (fi (ji h id l).clock),.f (fi (ji h id l).bO),c] 0)∧LR H' c 10 (aQ (ji h id l).l))) arI rfl fun Q hQ=>?_
 have A:eE h id≠0→∀(t:T) (k:List da) ,t.g 5=vi (eE h id)→WP tab 96 ab (.code .ret::k) ⟨t,[],H⟩ Q:=by
  intro j t k g;exact aC (hQ _ _ (vi (eE h id)) rfl (by simp [Km.results,bj,g]) ⟨rfl,aft _,fun i y hy _ _=>hy,fun e=>absurd e j⟩)
 apply ai;simp;apply an;apply an;refine aq (.inl rfl) ?_;simp [e1,hv];cases E:cV h
 case false=>
  refine au (by simp) (ai ?_);have j:eE h id=1:=by simp [eE,E]
  simp;exact A (by rw [j];decide) _ _ (by rw [j];simp)
 refine bo (by simp) ?_;obtain⟨i,hi,X,W,m⟩:=FO h hl E id;have b:=yd E X W;simp [dm.row]at m;apply ai;simp [e1,e2,m];apply an;refine aF ?_;apply an;refine aq (.inl rfl) ?_;simp;cases hf:tU h.l i id
 case false=>
  rw [hf]at b;simp at b;have j:eE h id=4:=by simp [eE,E,b]
  refine au (by simp) (ai ?_);simp;exact A (by rw [j];decide) _ _ (by rw [j];simp)
 rw [hf]at b;simp at b;have s:i<h.l.length:=(sk b).1;have q:=s;obtain⟨x,hx⟩:=aJ (h.l[i]);have L:x.state=h.l[i].state:=by rw [hx]
 rcases hL with⟨U,_⟩ | ⟨a_,B,ep,rfl,v⟩
 ·have:h.l.length=0:=by have:=congrArg List.length U;simpa [aQ]using this
  omega
 have Z:(aQ h.l).length=h.l.length:=by simp
 have I:(aQ h.l)[i]?=aa x.row:=by rw [hx];exact dj q
 have d:=v.at (show i<(aQ h.l).length by omega);have K:=v.ldc (k:=2) (x:=fi x.state) (bF _) I rfl;obtain⟨H4,u,F,J,a8⟩:=v.stp (k:=2) (xs:=[fi l]) (bF _) I (by simp);simp only [avl,avs]at u;have Y:over x.row 2 [fi l]=(bC.row { x with state:=l }):=rfl;rw [Y,lY]at F;have N:B≠p:=fun e=>S (by rw [e];rfl);have z:aR H ab (.c (.ptr p 2 0))=aa (.c (.sl B 0 h.l.length 0 ep 10)):=by simp [hp,aV]
 rw [Z]at d;refine aB (by simp) ?_;apply ai;by_cases M:x.state=1
 case neg=>
  have j:eE h id=7:=by simp [eE,E,b,s,←L,M]
  simp [z,d,K,M,-aw];refine au (by simp) (ai ?_);simp;exact A (by rw [j];decide) _ _ (by rw [j];simp)
 have j:eE h id=0:=by simp [eE,E,b,s,←L,M]
 simp [z,d,K,M,-aw];refine aB (by simp) (aP (aA ?_));apply ai;simp [z,d,e3,u,-aw,-bh];apply ai;simp;refine aC (hQ _ _ (vi 0) rfl (by simp [Km.results,bj]) ⟨by rw [j],by show H.length≤H4.length;omega,fun i y hy hi O=>J.get hy (fun e=>O (by rw [e];rfl)),fun _=>⟨J.get hp (Ne.symm N),?_⟩⟩);have h1:(ji h id l).l=h.l.set i { x with state:=l }:=by simp [ji,b,akP,s,hx]
 rw [h1];refine .inr ⟨fun e=>?_,B,ep,by simp,F⟩;have:=congrArg List.length e;simp at this;rw [this]at q;simp at q
theorem GJ(h:dm)(q:h.l.length≤30)(y:∀ x ∈ h.l,Fix x.aU)(id l:Int):∃(g:Tg) (j:dm),j=(if eE h id=0 then { ji h id l with lg:=g }else gX) ∧
  bg tab 52 [.a (h.row.map .f),vi id,vi l]=Eq (.t [.a (j.row.map .f),vi (eE h id)]):=by
 obtain⟨g,j,m,d⟩:=xS h q y (ae0 h q id l);refine⟨g,j,m,bg.eq ?_⟩;refine bI rfl rfl fun Q v=>?_;simp [dm.row]at d;apply ai;simp [dm.row];obtain⟨u,b⟩:=aJ (gF 64 (C.cl 96 [C.ptr 0 0 0,C.ptr 1 0 0,C.ptr 2 0 0]) [bw.box [C.f (fi h.clock),C.f (fi h.bO),C.f (sl h.lg (aQ h.l))] 0,bw.box [C.f (fi id)] 0,bw.box [C.f (fi l)] 0,bw.box [C.f (fi 0),C.f (fi 0),C.f FC.az] 0]:aj);have s:u[3]?=aa (.box [C.f (fi 0),C.f (fi 0),C.f FC.az] 0):=by rw [b];rfl
 apply ai;simp [mU,iU,cD,deep,d];rw [←b];simp [s];refine aC (v _ _ ?_);simp [Km.results,bj,ak s,iU,cD,deep,dm.row]
theorem DH(h:dm)(m:h.l.length≤30)(q:∀ x ∈ h.l,Fix x.aU)(id:Int):∃(g:Tg) (d:dm),d=(if eE h id=0 then { ji h id 2 with lg:=g }else gX) ∧
  bg tab 33 [.a (h.row.map .f),vi id]=Eq (.t [.a (d.row.map .f),vi (eE h id)]):=by
 obtain⟨g,d,j,b⟩:=GJ h m q id 2;refine⟨g,d,j,bg.eq ?_⟩;refine bI rfl rfl fun Q l=>?_;simp [dm.row]at b;apply ai;simp [dm.row];apply ai;simp [b];refine aC (l _ _ ?_);simp [Km.results,bj,iU,cD,deep,dm.row]
theorem ED(h:dm)(m:h.l.length≤30)(q:∀ x ∈ h.l,Fix x.aU)(id:Int):∃(g:Tg) (d:dm),d=(if eE h id=0 then { ji h id 3 with lg:=g }else gX) ∧
  bg tab 22 [.a (h.row.map .f),vi id]=Eq (.t [.a (d.row.map .f),vi (eE h id)]):=by
 obtain⟨g,d,j,b⟩:=GJ h m q id 3;refine⟨g,d,j,bg.eq ?_⟩;refine bI rfl rfl fun Q l=>?_;simp [dm.row]at b;apply ai;simp [dm.row];apply ai;simp [b];refine aC (l _ _ ?_);simp [Km.results,bj,iU,cD,deep,dm.row]
def Ru(b:Int)(x:bC):Prop:=1≤x.state∧x.state≤4∧0≤x.dl∧x.dl≤2251799813685248∧¬ (x.state=1∧x.dl<b)
theorem Qx{b d:Int}{x:bC}:et b d x=ae↔Ru b x∧d<x.id:=by
 simp only [et,iM,Ru,If,decide_eq_true_eq,Bool.not_eq_true',Bool.and_eq_false_iff,decide_eq_false_iff_not];omega
theorem vk{b:Int}:∀ {last:Int} {l:List bC},fQ b last l=ae↔(∀ x ∈ l,Ru b x∧last<x.id)∧l.Pairwise fun x y=>x.id<y.id
 | _,[]=>by simp [fQ]
 | last,x::r=>by
  rw [fQ,If,Qx,vk,avZ];constructor
  ·rintro⟨⟨j,m⟩,g,q⟩;refine⟨fun y d=>?_,fun y d=>(g y d).2,q⟩;rcases avn.1 d with rfl | d
   ·exact⟨j,m⟩
   ·exact⟨(g y d).1,by have:=(g y d).2;omega⟩
  ·rintro⟨j,m,g⟩;exact⟨j x atI,fun y d=>⟨(j y (aul _ d)).1,m y d⟩,g⟩
def tn(m r t z n p mi le:Int):av:=⟨m,r,t,z,⟨.fs,[⟨.fs,[⟨.fs,[⟨.nil,[],0,n,.fs,[p]⟩]⟩],mi⟩],le,.nil,[]⟩⟩
structure atT(m r t z n p mi le:Int):Prop where
 m0:1≤m
 m1:m≤22
 r0:0≤r
 r1:r≤2
 t0:0≤t
 t1:t≤2
 z0:1≤z
 z1:z≤12
 n0:1≤n
 n1:n≤6
 p0:0≤p
 p1:p<n
 i0:∃ k:Nat,k<60∧mi=20*k
 l0:10≤le
 l1:le≤300
def ka(s:av):Prop:=∃ m r t z n p mi le,s=tn m r t z n p mi le∧atT m r t z n p mi le
structure sX(h:dm):Prop where
 v:cV h=ae
 c0:100≤h.clock
 c1:h.clock≤100000
 d:h.bO=5
 f:∀ x ∈ h.l,(1≤x.id∧x.id≤8∨x.id=100)∧ka x.aU
theorem eo{h:dm}:cV h=ae↔iM h.clock=ae∧iM h.bO=ae∧(∀ x ∈ h.l,Ru h.clock x∧0<x.id)∧h.l.Pairwise fun x y=>x.id<y.id:=by
 rw [cV,If,If,vk,and_assoc]
theorem ae4:∀ {l:List Int} {lo hi:Int},l.Pairwise (· < ·)→(∀ x ∈ l,lo≤x∧x≤hi)→lo≤hi+1→(l.length:Int)≤hi+1-lo
 | [],lo,hi,_,_,h=>by simp;omega
 | x::r,lo,hi,j,d,h=>by
  have b:=avZ.1 j;have m:=d x atI;have:=ae4 (lo:=x+1) (hi:=hi) b.2 (fun y g=>⟨by have:=b.1 y g;omega,(d y (aul _ g)).2⟩) (by omega);simp only [List.length_cons];omega
theorem sX.len{h:dm}(k:sX h):h.l.length≤9:=by
 have d:=(eo.1 k.v).2.2.2;have:=ae4 (l:=h.l.map fun x=>if x.id=100 then 9 else x.id) (lo:=1) (hi:=9) (by
  rw [awY];refine List.Pairwise.imp_of_mem (fun {x y} b hy g=>?_) d;have h1:=(k.f x b).1;have h2:=(k.f y hy).1;split<;>split<;>omega) (fun y hy=>by
  obtain⟨x,b,rfl⟩:=avx.1 hy;have h1:=(k.f x b).1;split<;>omega) (by omega)
 simp at this;omega
theorem apk{n:Int}(h0:0≤n)(b:n≤2251799813685248):iM n=ae:=by simp [iM,h0,b]
theorem alK{h:dm}(k:sX h){c:Int}(h0:h.clock≤c)(l:c≤100000)(g:Tg):sX ⟨c,h.bO,g,h.l.map (gW c)⟩:=by
 obtain⟨u,m,q,s⟩:=eo.1 k.v;have k0:=k.c0;have id:∀ x:bC,(gW c x).id=x.id∧(gW c x).aU=x.aU:=fun x=>by unfold gW;split<;>exact⟨rfl,rfl⟩
 refine⟨eo.2 ⟨apk (by show 0≤c;omega) (by show c≤_;omega),m,fun y j=>?_,?_⟩,by show 100≤c;omega,l,k.d,fun y j=>?_⟩
 ·obtain⟨x,d,rfl⟩:=avx.1 j;obtain⟨a,b⟩:=q x d;refine⟨?_,by rw [(id x).1];exact b⟩;unfold Ru at *;unfold gW;split
  ·rename_i e;simp only;omega
  ·rename_i e;refine⟨a.1,a.2.1,a.2.2.1,a.2.2.2.1,e⟩
 ·show(h.l.map (gW c)).Pairwise _;rw [awY];exact List.Pairwise.imp (fun {x y} e=>by rw [(id x).1,(id y).1];exact e) s
 ·obtain⟨x,d,rfl⟩:=avx.1 j;rw [(id x).1,(id x).2];exact k.f x d
theorem alL{h:dm}(k:sX h){id b:Int}(B:b=2∨b=3)(g:Tg):sX { ji h id b with lg:=g }:=by
 obtain⟨u,v,q,z⟩:=eo.1 k.v;unfold ji;cases A:qz id h.l with
 | none=>exact⟨eo.2 ⟨u,v,q,z⟩,k.c0,k.c1,k.d,k.f⟩
 | some i=>
  obtain⟨hi,-⟩:=sk A;simp only [akP,By hi];have l:∀ y ∈ h.l.set i { h.l[i]with state:=b },∃ x ∈ h.l,y=x∨y = { x with state:=b }:=fun y j=>by
   rcases List.mem_or_eq_of_mem_set j with h | rfl
   ·exact⟨y,h,.inl rfl⟩
   ·exact⟨h.l[i],anc hi,.inr rfl⟩
  have d:(h.l.set i { h.l[i]with state:=b }).map bC.id=h.l.map bC.id:=by
   rw [List.map_set];have:(bC.id { h.l[i]with state:=b })=(h.l.map bC.id)[i]'(by simpa using hi):=by simp
   rw [this,awy]
  refine⟨eo.2 ⟨u,v,fun y j=>?_,?_⟩,k.c0,k.c1,k.d,fun y j=>?_⟩
  ·obtain⟨x,m,rfl | rfl⟩:=l y j
   ·exact q _ m
   ·have:=q x m;unfold Ru at *;simp only;omega
  ·have s:(h.l.map bC.id).Pairwise (· < ·):=by rw [awY];exact z
   rw [←d,awY]at s;exact s
  ·obtain⟨x,m,e⟩:=l y j;have:=k.f x m;rcases e with rfl | rfl<;>exact this
theorem adk{h:dm}(k:sX h){x:bC}(E:Ru h.clock x)(h0:0<x.id)(v:(1≤x.id∧x.id≤8∨x.id=100)∧ka x.aU){i:Nat}(u:∀ j (l:j<h.l.length),j<i→h.l[j].id<x.id)(s:∀ j (l:j<h.l.length),i≤j→x.id<h.l[j].id)(g:Tg) :
  sX ⟨h.clock,h.bO,g,h.l.take i++x::h.l.drop i⟩:=by
 obtain⟨H,I,J,A⟩:=eo.1 k.v;have m:∀ y ∈ h.l.take i++x::h.l.drop i,y=x∨y ∈ h.l:=fun y d=>by
  rcases avq.1 d with d | d
  ·exact .inr (List.mem_of_mem_take d)
  ·rcases avn.1 d with e | d
   ·exact .inl e
   ·exact .inr (av9 d)
 have F:∀ y ∈ h.l.take i,y.id<x.id:=fun y d=>by
  obtain⟨j,l,rfl⟩:=avQ d;rw [avA]at l;rw [List.getElem_take];exact u j (by omega) (by omega)
 have z:∀ y ∈ h.l.drop i,x.id<y.id:=fun y d=>by
  obtain⟨j,l,rfl⟩:=avQ d;rw [List.length_drop]at l;rw [List.getElem_drop];exact s (i+j) (by omega) (by omega)
 refine⟨eo.2 ⟨H,I,fun y d=>?_,?_⟩,k.c0,k.c1,k.d,fun y d=>?_⟩
 ·rcases m y d with e | d
  ·rw [e];exact⟨E,h0⟩
  ·exact J y d
 ·show(h.l.take i++x::h.l.drop i).Pairwise _;refine List.pairwise_append.2 ⟨A.sublist (List.take_sublist _ _),avZ.2 ⟨z,A.sublist (List.drop_sublist _ _)⟩,fun a B b q=>?_⟩;have:=F a B;rcases avn.1 q with e | q
  ·rw [e];exact this
  ·have:=z b q;omega
 ·rcases m y d with e | d
  ·rw [e];exact v
  ·exact k.f y d
abbrev u64(n:Int):V:=.c (.f (.int .u64 n))
theorem jz{n:Int}(b:0≤n)(d:n≤18446744073709551615):IntKind.wrap .u64 n=n:=by
 simp only [IntKind.wrap,IntKind.bits,IntKind.signed];simp;omega
theorem ae2{a b:Int}(h:0≤a)(d:0<b):dq .rem (u64 a) (u64 b)=aa (u64 (a % b)):=by
 rw [iB (by omega),awt h]
theorem asT{a b:Int}(h:0≤a)(g:0<b)(d:a≤18446744073709551615):dq .quo (u64 a) (u64 b)=aa (u64 (a / b)):=by
 rw [tO (by omega),aw1 h,jz (awU h (by omega)) (axn (awQ _ h) d)]
theorem qV{a:Int}(h0:0≤a)(d:a≤9223372036854775807):bg tab 319 [vi a]=Eq (u64 a):=bg.eq (by
 refine bI rfl rfl fun Q b=>?_;apply ai;simp;refine an (ai ?_);simp;refine aB (by simp;omega) (aP ?_);apply ai;simp [jz (n:=a) h0 (by omega)];refine aC (b _ _ ?_);simp)
theorem ac6{x y:Nat}(h:0<y):axa y (x % y)=axa x y:=by rw [Nat.gcd_comm x y,Nat.gcd_rec y x,Nat.gcd_comm]
theorem ac5{a b:Nat}(v:(a:Int)≤4611686018427387904)(z:(b:Int)≤4611686018427387904):bg tab 257 [vi a,vi b]=Eq (vi (axa a b:Nat)):=bg.eq (by
 have F:=qV (a:=a) (by omega) (by omega);have H:=qV (a:=b) (by omega) (by omega);refine bI rfl rfl fun Q A=>?_;apply ai;simp;apply ai;simp [F,H];refine an (aF ?_);refine cI (fun m s=>∃(x y:Nat) (t:T),s=⟨t,[],[]⟩∧m=y∧(x:Int)≤4611686018427387904∧(y:Int)≤4611686018427387904∧t.g 5=u64 x∧t.g 6=u64 y∧axa x y=axa a b) b ⟨a,b,_,rfl,rfl,v,z,by simp,by simp,rfl⟩ ?_;rintro m s ⟨x,y,t,rfl,rfl,I,J,d,l,q⟩ E;refine an (ai ?_);simp [l];by_cases h0:m=0
 ·subst h0;refine aB (by simp) (bJ rfl ?_);have j:x=axa a b:=by rw [←q];simp
  have B:¬ ((9223372036854775807:Int)<x):=by omega
  refine an (ai ?_);simp [d,B];refine bo (by simp) ?_;apply ai;simp [d,aW (n:=(x:Int))];refine aC (A _ _ ?_);simp [j]
 ·have u:=ae2 (a:=x) (b:=m) (by omega) (by omega);rw [show(x:Int) % (m:Int)=((x % m:Nat):Int) from(Int.natCast_emod x m).symm]at u;have g:x % m<m:=Nat.mod_lt _ (by omega);refine au (by simp [h0]) (aP ?_);refine aF (aq (.inl rfl) ?_);simp [d,l,u];refine aA (E (x % m) _ g ⟨m,x % m,_,rfl,rfl,by omega,by omega,by simp,by simp,by rw [ac6 (by omega)];exact q⟩))
theorem acs{x:Int}(h0:0≤x)(g:x≤4294967295):dq .and (u64 x) (u64 4294967295)=aa (u64 x):=by
 obtain⟨n,rfl⟩:∃ n:Nat,x=n:=⟨x.toNat,by omega⟩
 have e:(BitVec.ofInt 64 (n:Int) &&& BitVec.ofInt 64 4294967295).toNat=n:=by
  rw [BitVec.toNat_and];have b:(BitVec.ofInt 64 (n:Int)).toNat=n:=by simp [BitVec.toNat_ofInt];omega
  have d:(BitVec.ofInt 64 4294967295).toNat=2 ^ 32-1:=by decide
  rw [b,d,Nat.and_two_pow_sub_one_eq_mod,Nat.mod_eq_of_lt (by omega)]
 have key:IntKind.wrap .u64 ((BitVec.ofInt 64 (n:Int) &&& BitVec.ofInt 64 4294967295).toNat:Int)=n:=by rw [e];exact jz (by omega) (by omega)
 exact congrArg (fun k:Int=>aa (u64 k)) key
theorem Gv{x:Int}(_:0≤x):dq .shr (u64 x) (u64 32)=aa (u64 (x / 4294967296)):=by
 simp only [dq];rw [aY (by decide),show min (Int.toNat 32) IntKind.u64.bits=32 from rfl,Int.fdiv_eq_ediv_of_nonneg _ (by decide)];rfl
theorem vB{x y:Int}(q:0≤x)(K:x≤2147483648)(g:0≤y)(L:y≤2147483648):bg tab 320 [u64 x,u64 y]=Eq (.t [u64 0,u64 (x*y)]):=bg.eq (by
 have d:0≤x*y:=awo q g;have F:x*y≤2147483648*2147483648:=Int.mul_le_mul K L g (by decide);have j:x*y / 4294967296≤4294967295:=by omega
 have b:0≤x*y / 4294967296:=by omega
 have a1:=acs q (show x≤4294967295 by omega);have A:=acs g (show y≤4294967295 by omega);have s:=Gv q;have u:=Gv g;have I:x / 4294967296=0:=by omega
 have J:y / 4294967296=0:=by omega
 rw [I]at s;rw [J]at u;have H:=Gv d;have B:=acs b j;have l:=Gv b;have sz:x*y / 4294967296 / 4294967296=0:=by omega
 rw [sz]at l;have v:IntKind.wrap .u64 (x*y)=x*y:=jz d (by omega);have z:IntKind.wrap .u64 (x*y / 4294967296)=x*y / 4294967296:=jz b (by omega);have m:IntKind.wrap .u64 0=0:=by decide
 refine bI rfl rfl fun Q E=>?_;apply ai;simp;apply ai;simp [a1];apply ai;simp [s];apply ai;simp [A];apply ai;simp [u];apply ai;simp [v];apply ai;simp [H,m,z];apply ai;simp [B];apply ai;simp [l];apply ai;simp [m,z];apply ai;simp [m,l];apply ai;simp [v];refine aC (E _ _ ?_);simp)
theorem acR{x n:Int}(j:0≤x)(u:x≤9223372036854775807)(g:0<n)(s:n≤9223372036854775807):bg tab 322 [u64 0,u64 x,u64 n]=Eq (.t [u64 (x / n),u64 (x % n)]):=bg.eq (by
 have b:¬ (n=0):=by omega
 have d:¬ (n≤0):=by omega
 have l:=asT j g (by omega);have m:=ae2 j g;refine bI rfl rfl fun Q q=>?_;apply ai;simp;refine an (ai ?_);simp;refine bo (by simp [b]) ?_;refine an (ai ?_);simp;refine bo (by simp [d]) ?_;refine an (ai ?_);simp;refine au (by simp) ?_;apply ai;simp [l,m];refine aC (q _ _ ?_);simp)
theorem nw{a b:Int}(h:0≤a)(g:0<b)(d:a≤9223372036854775807):dq .quo (vi a) (vi b)=aa (vi (a / b)):=by
 rw [tO (by omega),aw1 h,wrap64 (axn (by omega) (awU h (by omega))) (axn (awQ _ h) d)]
theorem vW{a b:Int}(h:0≤a)(d:0<b):dq .rem (vi a) (vi b)=aa (vi (a % b)):=by
 rw [iB (by omega),awt h]
theorem apI{a b:Int}(h:a≤0)(m:0<b)(l:-9223372036854775807≤a):dq .quo (vi a) (vi b)=aa (vi (-((-a) / b))):=by
 have g:(-a) / b≤-a:=awQ _ (by omega);have j:0≤(-a) / b:=awU (by omega) (by omega);have d:a.tdiv b = -((-a) / b):=by
  have:a = -(-a):=by omega
  rw [this,Int.neg_tdiv,aw1 (by omega)];simp
 rw [tO (by omega),d,aW]
theorem apJ{a b:Int}(h:a≤0)(g:0<b):dq .rem (vi a) (vi b)=aa (vi (-((-a) % b))):=by
 have d:a.tmod b = -((-a) % b):=by
  have:a = -(-a):=by omega
  rw [this,Int.neg_tmod,awt (by omega)];simp
 rw [iB (by omega),d]
theorem m6(a b:Int)(B:1≤b)(A:-4611686018427387904≤a)(g:a≤4611686018427387904):bg tab 173 [vi a,vi b]=Eq (.t [vi (a / b),vi 0]):=bg.eq (by
 refine bI rfl rfl fun Q d=>?_;apply ai;simp;apply an;apply ai;simp;refine aB (by simp;omega) (aP ?_);by_cases h:0≤a
 ·apply ai;simp [nw h (show 0<b by omega) (by omega)];apply an;apply ai;have:=avO a (show b≠0 by omega);simp [vW h (show 0<b by omega)];refine aB (by simp;omega) (aP ?_);apply ai;simp;refine aC (d _ _ ?_);simp
 ·apply ai;simp [apI (show a≤0 by omega) (show 0<b by omega) (by omega)];apply an;apply ai;have e:=avO (-a) (show b≠0 by omega);have j:=avG (-a) (show 0<b by omega);have q:0≤(-a) / b:=awU (by omega) (by omega);have m:(-a) / b≤-a:=awQ _ (by omega);have l:=Int.mul_ediv_add_emod (-a) b;simp [apJ (show a≤0 by omega) (show 0<b by omega)];by_cases s:(-a) % b=0
  ·refine aB (by simp;omega) (aP ?_);apply ai;simp;refine aC (d _ _ ?_);have:a / b = -(-a / b):=by
    refine Int.ediv_eq_of_eq_mul_right (by omega) ?_;rw [Int.mul_neg];omega
   simp [this]
  ·refine au (by simp;omega) ?_;refine aq (.inl rfl) ?_;simp [aW (n:=-(-a / b)-1)];apply ai;simp;refine aC (d _ _ ?_);have:a / b = -(-a / b)-1:=by
    have u:=avO a (show b≠0 by omega);have v:=avG a (show 0<b by omega);have x:=Int.mul_ediv_add_emod a b;have y:b*(a / b+(-a) / b+1)=b-a % b-(-a) % b:=by rw [Int.mul_add,Int.mul_add];omega
    have z:a / b+(-a) / b+1=0:=by
     rcases Int.lt_trichotomy (a / b+(-a) / b+1) 0 with h | h | h
     ·have:b*(a / b+(-a) / b+1)≤b*(-1):=avu (by omega) (by omega);omega
     ·exact h
     ·have:b*1≤b*(a / b+(-a) / b+1):=avu (by omega) (by omega);omega
    omega
   simp [this])
theorem vg(a:Int)(g:-4611686018427387904≤a)(b:a≤4611686018427387904):bg tab 105 [vi a]=Eq (vi (a / 1440)):=Kf.eq (by
 refine cr rfl rfl fun H Q d=>?_;apply ai;simp;apply ai;simp [m6 a 1440 (by omega) g b];apply ai;simp;refine aC (d _ _ ?_);simp)
def cM(len mi d:Int):aI:=⟨d,d*1440+mi,d*1440+mi+len⟩
def ky(n:Int):Prop:=-1000000000000000≤n∧n≤1000000000000000
theorem Bz(b g j:FC)(len mi d:Int)(m:ky len)(q:ky mi)(s:ky d) :
  bg tab 171 [.a [.f b,.f (fi len),.f g],.a [.f j,.f (fi mi)],vi d]=Eq (.a ((cM len mi d).row.map .f)):=bg.eq (Kf.Ey (by
 unfold ky at *;refine cr rfl rfl fun H Q l=>?_;apply ai;simp;apply ai;simp [aW (n:=d*1440),aW (n:=d*1440+mi)];apply ai;simp [aW (n:=d*1440+mi+len)];refine aC (l _ _ ?_);simp [cM,aI.row]))
theorem C2{u m:Int}(b:0<m):(u.tmod m+m).tmod m=u % m:=by
 have d:=axk u b;have g:=axl u b;rw [awt (by omega),Int.add_emod_right];exact aw4.2 (by
  have:=Int.tmod_add_mul_tdiv u m;have e:u.tmod m-u = -(m*u.tdiv m):=by omega
  rw [e];exact Int.emod_eq_zero_of_dvd (Int.dvd_neg.2 (awZ _ _)))
theorem BH{x y:Int}(l:1<x)(h:awG x y=1):1≤y % x:=by
 have h0:=avO y (show x≠0 by omega);rcases awu 0 (y % x)with d | d
 ·omega
 ·exfalso;have g:y % x=0:=by omega
  have j:x ∣ y:=Int.dvd_of_emod_eq_zero g;have b:x ∣ (awG x y:Int):=Int.dvd_coe_gcd (Int.dvd_refl x) j;rw [h]at b;have:=Int.le_of_dvd (by decide) b;omega
theorem D0{a m:Int}(a0:0≤a)(a1:a≤1099511627776)(m0:2≤m)(m1:m≤1000000)(hg:awG a m=1) :
  ∃ x,0≤x∧x<m∧m ∣ a*x-1∧bg tab 321 [vi a,vi m]=Eq (vi x):=by
 obtain⟨c,⟨x,p,r,w,rfl⟩,hp⟩:∃ c,(∃ x,0≤x∧x<m∧m ∣ a*x-1∧c=vi x)∧bg tab 321 [vi a,vi m] c:=by
  have hr:=vW (a:=a) (b:=m) a0 (by omega);have a8:=avO a (show m≠0 by omega);have H:=avG a (show 0<m by omega);have l:awG (a % m) m=1:=by
   have e:a % m=a-a / m*m:=by have:=awe a m;rw [awM (a / m)];omega
   rw [e,Int.gcd_sub_mul_right_left];exact hg
  have Z:1≤a % m:=by
   rcases awu 0 (a % m)with h | h
   ·omega
   ·exfalso;have h0:a % m=0:=by omega
    rw [h0]at l;simp at l;omega
  refine dY rfl rfl fun Q hQ=>?_;apply ai;simp;apply ai;simp [hr];refine an (aF ?_);refine cI (fun n s=>∃(x y u v U V:Int) (t:T),s=⟨t,[],[]⟩∧(n:Int)=x∧t.g 1=vi m∧t.g 5=vi x∧t.g 6=vi y∧t.g 7=vi u∧t.g 8=vi v∧1≤x∧x<y∧y≤m∧awG x y=1∧m ∣ a*u-x∧m ∣ a*v-y ∧
   0≤U∧0≤V∧(u=U∧v = -V∨u = -U∧v=V)∧U*y+V*x=m) (a % m).toNat
   ⟨a % m,m,1,0,1,0,_,rfl,by omega,by simp,by simp,by simp,by simp,by simp,Z,H,by omega,l,?_,?_,by decide,by decide,.inl ⟨rfl,rfl⟩,by omega⟩ ?_
  ·refine⟨a / m,?_⟩;have:=awe a m;omega
  ·exact⟨-1,by omega⟩
  rintro n s ⟨x,y,u,v,U,V,t,rfl,hn,i,I,k,o,g8,p,r,w,h4,M,h6,A,h8,h9,J⟩ ih;have b9:U≤U*y:=by have:=avu (show(1:Int)≤y by omega) A;omega
  have c_:0≤V*x:=awo h8 (by omega);have a_:U≤m:=by omega
  have b_:V≤m:=by
   have K:V≤V*x:=by have:=avu (show(1:Int)≤x by omega) h8;omega
   have L:0≤U*y:=awo A (by omega);omega
  refine an (ai ?_);simp [I];by_cases hx:1<x
  ·
   have B:0≤y / x:=awU (by omega) (by omega);have X:y / x≤y:=awQ _ (by omega);have E:=nw (a:=y) (b:=x) (by omega) (by omega) (by omega);obtain⟨q,hq⟩:=aJ (y / x);have j:=awe y x;have O:=BH hx h4;have S:=avG y (show 0<x by omega);rw [←hq]at B X E j;obtain⟨g,Y⟩:=aJ (y % x);rw [←Y]at j O S;have e_:q*x=y-g:=by rw [awM];omega
   obtain⟨W,hW⟩:=aJ (V+q*U);have d_:0≤q*U:=awo B A;have N:W*x+U*g=m:=by
    rw [hW,Int.add_mul,←J,show g=y-q*x by omega,axb,awO q U x,Int.mul_left_comm q U x];omega
   have d9:W≤m:=by
    have K:W≤W*x:=by have:=avu (show(1:Int)≤x by omega) (show 0≤W by omega);omega
    have L:0≤U*g:=awo A (by omega);omega
   have d:(u=U→q*u=q*U)∧(u = -U→q*u = -(q*U)):=⟨fun e=>by rw [e],fun e=>by rw [e,Int.mul_neg]⟩
   have hb:-m≤q*u∧q*u≤m:=by
    rcases h9 with⟨e,-⟩ | ⟨e,-⟩
    ·rw [d.1 e];omega
    ·rw [d.2 e];omega
   have f8:-m≤v∧v≤m:=by omega
   have f:=aW (n:=q*x);have w2:IntKind.i64.wrap (y-q*x)=g:=by rw [aW];omega
   have w3:=aW (n:=q*u);have w4:=aW (n:=v-q*u);refine au (by simp [hx]) (aP ?_);refine aF (ai ?_);simp [I,k,E];apply ai;simp [I,k,f,w2];refine aq (.inl rfl) ?_;simp [o,g8,w3,w4];refine aA (ih g.toNat _ (by omega) ⟨g,x,v-q*u,u,W,U,_,rfl,by omega,by simp [i],by simp,by simp,by simp,by simp,by omega,by omega,by omega,?_,?_,M,by omega,A,?_,N⟩)
   ·rw [show g=y-q*x by omega,Int.gcd_sub_mul_right_left,Int.gcd_comm];exact h4
   ·have e:a*(v-q*u)-g=(a*v-y)-q*(a*u-x):=by
     rw [axb,axb,Int.mul_left_comm a q u];omega
    rw [e];exact awD h6 (Int.dvd_mul_of_dvd_right M)
   ·rcases h9 with⟨z,e2⟩ | ⟨z,e2⟩
    ·exact .inr ⟨by rw [d.1 z];omega,z⟩
    ·exact .inl ⟨by rw [d.2 z];omega,z⟩
  ·
   have F:x=1:=by omega
   subst F;have f7:-m≤u∧u≤m:=by omega
   have t1:=axk u (show 0<m by omega);have t2:=axl u (show 0<m by omega);have r1:dq .rem (vi u) (vi m)=aa (vi (u.tmod m)):=iB (by omega);have r2:dq .rem (vi (u.tmod m+m)) (vi m)=aa (vi (u % m)):=by rw [iB (by omega),C2 (by omega)]
   have f:=aW (n:=u.tmod m+m);refine aB (by simp) (bJ rfl ?_);apply ai;simp [i,o,r1,f,r2];refine aC (hQ _ _ _ ⟨u % m,avO _ (by omega),avG _ (by omega),?_,rfl⟩ (by simp));have e:a*(u % m)-1=(a*u-1)-a*(u / m)*m:=by
    have:=awe u m;rw [show u % m=u-m*(u / m) by omega,axb,awO,awM m];omega
   rw [e];exact awD M (axc _ _)
 exact⟨x,p,r,w,hp.eq⟩
theorem ajK{a s r p d:Int}(m:¬ (awG s p:Int) ∣ r-a)(j:s ∣ d-a)(l:p ∣ d-r):False:=by
 apply m;have b:=awn (axd s p) j;have g:=awn (axm s p) l;have:=awD b g;rwa [show d-a-(d-r)=r-a by omega]at this
theorem ajJ{a s r p g n t:Int}(q:g=(awG s p:Int))(F:0<p)(H:0<s)(z:p=n*g)(A:g ∣ r-a)(E:n ∣ t*(s / g)-(r-a) / g) :
  (∀ d,s ∣ d-a∧p ∣ d-r↔(s*n) ∣ d-(a+t*s))∧0<g∧0<n:=by
 have l:0<g:=by
  rw [q];have:=aw0 p (show s≠0 by omega);omega
 have u:0<n:=by
  rcases Int.lt_trichotomy n 0 with h | h | h
  ·have:=Int.mul_neg_of_neg_of_pos h l;omega
  ·subst h;omega
  ·exact h
 have x:s / g*g=s:=axi (q▸axd s p);have v:(r-a) / g*g=r-a:=axi A;have j:p ∣ a+t*s-r:=by
  obtain⟨k,B⟩:=E;refine⟨k,?_⟩;have:a+t*s-r=(t*(s / g)-(r-a) / g)*g:=by
   rw [Int.sub_mul,v,awO,x];omega
  rw [this,B,z,Int.mul_right_comm]
 have y:(Int.lcm s p:Int)=s*n:=by
  have b:((awG s p*Int.lcm s p:Nat):Int)=s*p:=by
   rw [Int.gcd_mul_lcm,awT,Int.natAbs_of_nonneg (by omega),Int.natAbs_of_nonneg (by omega)]
  rw [awT,←q]at b;have m:g*(Int.lcm s p:Int)=g*(s*n):=by rw [b,z,←awO,awM]
  exact Int.eq_of_mul_eq_mul_left (by omega) m
 refine⟨fun d=>⟨fun⟨b,m⟩=>?_,fun h=>⟨?_,?_⟩⟩,l,u⟩
 ·rw [←y];refine Int.coe_lcm_dvd ?_ ?_
  ·have:d-(a+t*s)=d-a-t*s:=by omega
   rw [this];exact awD b (axc t s)
  ·have:d-(a+t*s)=d-r-(a+t*s-r):=by omega
   rw [this];exact awD m j
 ·have b:=awn (awZ s n) h;have:d-a=d-(a+t*s)+t*s:=by omega
  rw [this];exact Int.dvd_add b (axc t s)
 ·have b:p ∣ d-(a+t*s):=awn (by rw [←y];exact Int.dvd_lcm_right s p) h;have:d-r=d-(a+t*s)+(a+t*s-r):=by omega
  rw [this];exact Int.dvd_add b j
theorem Gf{a b n:Int}:a % n=b % n↔n ∣ a-b:=aw4.trans Int.dvd_iff_emod_eq_zero.symm
abbrev clV(at' st:Int):V:=.a [.f (.int .i64 at'),.f (.int .i64 st)]
theorem akx{a s r p:Int}(a0:0≤a)(a1:a<s)(s1:s≤1000000)(r0:0≤r)(r1:r<p)(p1:p≤1000) :
  (∃ a' s',0≤a'∧a'<s'∧s'≤s*p∧(∀ d,s ∣ d-a∧p ∣ d-r↔s' ∣ d-a')∧bg tab 260 [clV a s,vi r,vi p]=Eq (.t [clV a' s',vb ae])) ∨
  ((∀ d,¬ (s ∣ d-a∧p ∣ d-r))∧bg tab 260 [clV a s,vi r,vi p]=Eq (.t [clV 0 0,vb ag])):=by
 have s0:0<s:=by omega
 have p0:0<p:=by omega
 obtain⟨g,y⟩:=aJ ((awG s p:Int):Int);have a_:awG s p=axa s.toNat p.toNat:=by
  show axa s.natAbs p.natAbs=_;rw [show s.natAbs=s.toNat by omega,show p.natAbs=p.toNat by omega]
 have b9:g ∣ s:=y▸axd s p;have M:g ∣ p:=y▸axm s p;have l:0<awG s p:=aw0 p (by omega);have g0:0<g:=by rw [y];exact Int.natCast_pos.2 l
 have gp:g≤p:=Int.le_of_dvd p0 M;obtain⟨n,i⟩:=aJ (p / g);have X:p=n*g:=by rw [i,axi M]
 have B:0<n:=by
  rcases awu 0 n with h | h
  ·exact h
  ·have:=Int.mul_nonneg_of_nonpos_of_nonpos (a:=n) (b:=-g) h (by omega);rw [Int.mul_neg]at this;omega
 have np:n≤p:=by
  have:=avu (show(1:Int)≤g by omega) (show 0≤n by omega);omega
 have j:bg tab 257 [vi s,vi p]=Eq (vi g):=by
  have h:=ac5 (a:=s.toNat) (b:=p.toNat) (by omega) (by omega);rw [show((s.toNat:Nat):Int)=s by omega,show((p.toNat:Nat):Int)=p by omega,←a_,←y]at h;exact h
 have b0:∀ {L:aj},aR (.box [.f (fi a),.f (fi s)] 0::L) ab (.c (.ptr 0 0 0))=aa (vi a)∧aR (.box [.f (fi a),.f (fi s)] 0::L) ab (.c (.ptr 0 1 0))=aa (vi s)∧aR (.box [.f (fi a),.f (fi s)] 0::L) (aa 2) (.c (.ptr 0 0 0))=aa (clV a s):=by
  intro L;refine⟨?_,?_,?_⟩<;>simp [aR,aE,aV]
 have q:=aW (n:=r-a);have F:dq .rem (vi (r-a)) (vi g)=aa (vi ((r-a).tmod g)):=iB (by omega);have A:¬ (s=0):=by omega
 by_cases x:g ∣ r-a
 ·left;have m:(r-a).tmod g=0:=Int.tmod_eq_zero_of_dvd x;by_cases z:n=1
  ·
   have N:p=g:=by rw [X,z,Int.one_mul]
   refine⟨a,s,a0,a1,?_,fun d=>⟨fun h=>h.1,fun h=>⟨h,?_⟩⟩,bg.eq ?_⟩
   ·have:=avu (show(1:Int)≤p by omega) (show 0≤s by omega);omega
   ·rw [N];have:=awD (awn b9 h) x;rwa [show d-a-(r-a)=d-r by omega]at this
   ·have E:dq .quo (vi p) (vi g)=aa (vi n):=by rw [nw (by omega) g0 (by omega),←i]
    refine bI rfl rfl fun Q I=>?_;apply ai;simp;refine an (ai ?_);simp [b0,-aw,A];refine bo (by simp) ?_;apply ai;simp [b0,-aw,j];refine an (ai ?_);simp [b0,-aw,q,F,m];refine bo (by simp) ?_;apply ai;simp [E];refine an (ai ?_);simp [z];refine au (by simp) ?_;apply ai;simp [b0,-aw];refine aC (I _ _ ?_);simp
  ·
   have n2:2≤n:=by omega
   have Z:0≤s / g:=awU (by omega) (by omega);have f_:s / g≤s:=awQ _ (by omega);have J:awG (s / g) n=1:=by rw [i,y];exact Int.gcd_ediv_gcd_ediv_gcd l
   obtain⟨v,o,v1,hv,S⟩:=D0 Z (by omega) n2 (by omega) J;obtain⟨w,hw⟩:=aJ (((r-a) / g) % n);have w0:0≤w:=by rw [hw];exact avO _ (by omega)
   have w1:w<n:=by rw [hw];exact avG _ B
   obtain⟨t,ht⟩:=aJ ((w*v) % n);have t0:0≤t:=by rw [ht];exact avO _ (by omega)
   have t1:t<n:=by rw [ht];exact avG _ B
   have U:n ∣ t*(s / g)-(r-a) / g:=by
    obtain⟨k,hk⟩:=hv;have e1:t=w*v-n*(w*v / n):=by have:=awe (w*v) n;omega
    have e2:w=(r-a) / g-n*((r-a) / g / n):=by have:=awe ((r-a) / g) n;omega
    have e3:t*(s / g)-(r-a) / g=w*(s / g*v-1)-n*(w*v / n)*(s / g)-n*((r-a) / g / n):=by
     rw [e1,Int.sub_mul,axb,awO w v,awM v (s / g)];omega
    rw [e3,hk];refine awD (awD ?_ ?_) (awZ _ _)
    ·exact⟨w*k,by rw [Int.mul_left_comm]⟩
    ·exact⟨w*v / n*(s / g),by rw [awO]⟩
   obtain⟨O,-,-⟩:=ajJ y p0 s0 X x U;have h_:0≤t*s:=awo t0 (by omega);have i4:t*s≤(n-1)*s:=axf (by omega) (by omega);have i6:(n-1)*s=n*s-s:=by rw [Int.sub_mul,Int.one_mul]
   have f8:n*s≤1000*1000000:=Int.mul_le_mul (by omega) s1 (by omega) (by decide);have i7:s*n=n*s:=awM _ _;have c:0≤w*v:=awo w0 o;have i5:w*v≤1000*1000:=Int.mul_le_mul (by omega) (by omega) o (by decide);have g_:0≤n*s:=awo (by omega) (by omega);refine⟨a+t*s,s*n,by omega,by omega,?_,O,bg.eq ?_⟩
   ·exact avu np (by omega)
   ·have E:dq .quo (vi p) (vi g)=aa (vi n):=by rw [nw (by omega) g0 (by omega),←i]
    have a8:dq .quo (vi (r-a)) (vi g)=aa (vi ((r-a) / g)):=by
     rw [tO (by omega),Int.tdiv_eq_ediv_of_dvd x];have hb:-1000000≤(r-a) / g∧(r-a) / g≤1000000:=by
      obtain⟨k,hk⟩:=x;rw [hk,Int.mul_ediv_cancel_left _ (by omega)];constructor
      ·rcases awu k (-1000000)with h | h
       ·have:=avu (show k≤-1000001 by omega) (show 0≤g by omega);omega
       ·omega
      ·rcases awu 1000000 k with h | h
       ·have:=avu (show(1000001:Int)≤k by omega) (show 0≤g by omega);omega
       ·omega
     rw [aW]
    have d_:dq .rem (vi ((r-a) / g)) (vi n)=aa (vi (((r-a) / g).tmod n)):=iB (by omega);have tl:=axk ((r-a) / g) B;have tg:=axl ((r-a) / g) B;have e_:=aW (n:=((r-a) / g).tmod n+n);have W:dq .rem (vi (((r-a) / g).tmod n+n)) (vi n)=aa (vi w):=by rw [iB (by omega),C2 B,←hw]
    have f7:dq .quo (vi s) (vi g)=aa (vi (s / g)):=nw (by omega) g0 (by omega);have uw:IntKind.wrap .u64 w=w:=jz w0 (by omega);have uv:IntKind.wrap .u64 v=v:=jz o (by omega);have un:IntKind.wrap .u64 n=n:=jz (by omega) (by omega);have us:IntKind.wrap .u64 s=s:=jz (by omega) (by omega);have b_:=vB w0 (show w≤2147483648 by omega) o (show v≤2147483648 by omega);have Y:=ae2 (a:=0) (b:=n) (by decide) B;rw [Int.zero_emod]at Y;have K:=acR c (show w*v≤9223372036854775807 by omega) B (show n≤9223372036854775807 by omega);rw [←ht]at K;have c_:=vB t0 (show t≤2147483648 by omega) (show 0≤s by omega) (show s≤2147483648 by omega);have d9:=vB (show 0≤s by omega) (show s≤2147483648 by omega) (show 0≤n by omega) (show n≤2147483648 by omega);have u:=aW (n:=t*s);have fa:=aW (n:=1152921504606846976-a);have c1:¬ (1152921504606846976<t*s):=by omega
    have c2:¬ (1152921504606846976-a<t*s):=by omega
    have H:=aW (n:=a+t*s);have f:=aW (n:=s*n);have c3:s*n≤1152921504606846976:=by omega
    refine bI rfl rfl fun Q I=>?_;apply ai;simp;refine an (ai ?_);simp [b0,-aw,A];refine bo (by simp) ?_;apply ai;simp [b0,-aw,j];refine an (ai ?_);simp [b0,-aw,q,F,m];refine bo (by simp) ?_;apply ai;simp [E];refine an (ai ?_);simp [z];refine bo (by simp) ?_;apply ai;simp [b0,-aw,q,a8,d_,e_,W];apply ai;simp [b0,-aw,uw,f7,S,uv,b_];apply ai;simp [un,Y,K];apply ai;simp [b0,-aw,us,c_];refine an (ai ?_);simp [b0,-aw,c1,u,fa,c2];refine bo (by simp) ?_;apply ai;simp [b0,-aw,u,H];refine an (ai ?_);simp [b0,-aw,us,un,d9];apply ai;simp [c3];refine au (by simp) (aq (.inl rfl) ?_);simp [f];apply ai;simp;refine aC (I _ _ ?_);simp
 ·right;refine⟨fun d h=>ajK (fun e=>x (y▸e)) h.1 h.2,bg.eq ?_⟩;have m:¬ (r-a).tmod g=0:=fun e=>x (Int.dvd_of_tmod_eq_zero e);refine bI rfl rfl fun Q I=>?_;apply ai;simp;refine an (ai ?_);simp [b0,-aw,A];refine bo (by simp) ?_;apply ai;simp [b0,-aw,j];refine an (ai ?_);simp [b0,-aw,q,F,m];refine au (by simp) ?_;apply ai;simp;refine aC (I _ _ ?_);simp
theorem BU(a b:Int):bg tab 338 [vi a,vi b]=Eq (vb (decide (a<b))):=Kf.eq (by
 refine cr rfl rfl fun H Q d=>?_;apply ai;simp;apply ai;simp [qQ];refine aC (d _ _ ?_);simp [qQ])
theorem alo(a:Int):bg tab 339 [vi a]=Eq (vb ag):=Kf.eq (by
 refine cr rfl rfl fun H Q b=>?_;apply ai;simp;apply ai;simp;refine aC (b _ _ ?_);simp)
theorem DD(g:Tg)(l:List Int)(n:Int)(c:l.length≤1000000000)(Y:l.Pairwise (· < ·)) :
  ∃ i:Nat,i≤l.length∧(∀ j (b:j<l.length),j<i→l[j]<n)∧(∀ j (b:j<l.length),i≤j→n≤l[j]) ∧
   bg tab 277 [.c (.f (sl g (ints l))),vi n]=Eq (.t [vi i,vb (decide (n ∈ l))]):=by
 obtain⟨r,⟨i,U,W,J,rfl⟩,h⟩:∃ r,(∃ i:Nat,i≤l.length∧(∀ j (b:j<l.length),j<i→l[j]<n)∧(∀ j (b:j<l.length),i≤j→n≤l[j])∧r=.t [vi i,vb (decide (n ∈ l))]) ∧
   bg tab 277 [.c (.f (sl g (ints l))),vi n] r:=by
  refine dY rfl rfl fun Q K=>?_;have x:∀ i j (hi:i<j) (b:j<l.length),l[i]<l[j]:=fun i j hi b=>avV.1 Y i j (by omega) b hi;apply ai;simp;apply ai;simp;apply ai;simp;apply an;refine aF ?_;refine cI (fun m s=>∃(lo hi:Nat) (t:T),s=⟨t,[],[]⟩∧m=hi-lo∧lo≤hi∧hi≤l.length∧t.g 0=.c (.f (sl g (ints l)))∧t.g 1=vi n∧t.g 6=vi l.length∧t.g 7=vi lo∧t.g 8=vi hi ∧
   (∀ j (b:j<l.length),j<lo→l[j]<n)∧(∀ j (b:j<l.length),hi≤j→n≤l[j])) l.length
   ⟨0,l.length,_,rfl,by omega,by omega,by omega,by simp,by simp,by simp,by simp,by simp,by simp,by intros;omega⟩ ?_
  rintro m s ⟨lo,hi,t,rfl,rfl,X,y,g0,A,E,B,I,d,u⟩ next
  apply an;apply ai;simp [B,I];by_cases M:lo<hi
  ·refine au (by simp [M]) (aP ?_);obtain⟨q,f⟩:=aJ ((lo+hi) / 2);have F:q<l.length:=by omega
   have S:dq BinOp.shr (V.c (C.f (FC.int IntKind.u64 (IntKind.u64.wrap ((lo:Int)+hi))))) (V.c (C.f (FC.int IntKind.u64 1)))=aa (.c (.f (.int .u64 (q:Int)))):=by
    have:IntKind.u64.wrap ((lo:Int)+hi)=(lo:Int)+hi:=by
     show((lo:Int)+hi) % 18446744073709551616=_;omega
    rw [this];show aa (V.c (C.f (FC.int IntKind.u64 (Int.fdiv ((lo:Int)+hi) (2 ^ (min (1:Int).toNat IntKind.u64.bits))))))=_;have J:Int.fdiv ((lo:Int)+hi) (2 ^ (min (1:Int).toNat IntKind.u64.bits))=q:=by
     show Int.fdiv ((lo:Int)+hi) 2=q;rw [Int.fdiv_eq_ediv_of_nonneg _ (by omega)];omega
    rw [J]
   have Z:=aW (n:=(lo:Int)+hi);have O:IntKind.i64.wrap (q:Int)=q:=aW;refine aF ?_;apply ai;simp [B,I,Z,S,O];apply ai;simp [g0,A,bl,F,jP,BU];by_cases L:l[q]<n
   ·refine au (by simp [L]) ?_;refine aq (.inl rfl) ?_;simp [aW (n:=(q:Int)+1)];refine aA (next (hi-(q+1)) _ (by omega) ⟨q+1,hi,_,rfl,rfl,by omega,by omega,by simp [g0],by simp [A],by simp [E],by simp,by simp [I],fun j b h=>?_,u⟩);by_cases e:j=q
    ·subst e;exact L
    ·have:=x j q (by omega) F;omega
   ·refine aB (by simp [L]) ?_;refine aq (.inl rfl) ?_;simp;refine aA (next (q-lo) _ (by omega) ⟨lo,q,_,rfl,rfl,by omega,by omega,by simp [g0],by simp [A],by simp [E],by simp [B],by simp,d,fun j b h=>?_⟩);by_cases e:j=q
    ·subst e;omega
    ·have:=x q j (by omega) b;omega
  ·have:lo=hi:=by omega
   subst this;refine aB (by simp) ?_;refine bJ rfl ?_;apply ai;by_cases v:lo<l.length
   ·have a:=u lo v (by omega);by_cases H:l[lo]=n
    ·simp [g0,A,E,B,v,bl,jP,H];refine aC (K _ _ _ ⟨lo,y,d,u,rfl⟩ ?_);have:n ∈ l:=H▸anc v;simp [this]
    ·have z:n ∉ l:=fun N=>by
      obtain⟨j,b,rfl⟩:=avQ N;rcases awp j lo with h | h | h
      ·have:=d j b h;omega
      ·subst h;exact H rfl
      ·have:=x lo j h b;omega
     simp [g0,A,E,B,v,bl,jP,H,alo];refine aC (K _ _ _ ⟨lo,y,d,u,rfl⟩ ?_);simp [z]
   ·have z:n ∉ l:=fun N=>by
     obtain⟨j,b,rfl⟩:=avQ N;have:=d j b (by omega);omega
    simp [g0,A,E,B,v];refine aC (K _ _ _ ⟨lo,y,d,u,rfl⟩ ?_);simp [z]
 exact⟨i,U,W,J,bg.eq h⟩
theorem mo{d:Int}:∀ {l:List Int} {b:Int},eM d b l=ae→l.Pairwise (· < ·)∧∀ c ∈ l,b<c∧c<d
 | [],_,_=>⟨List.Pairwise.nil,by simp⟩
 | a::l,b,h=>by
  simp only [eM,If,decide_eq_true_eq]at h;obtain⟨⟨m,q⟩,s⟩:=h;obtain⟨u,j⟩:=mo s;refine⟨avZ.2 ⟨fun c g=>(j c g).1,u⟩,fun c g=>?_⟩;rcases avn.1 g with rfl | g
  ·exact⟨m,q⟩
  ·have:=j c g;omega
theorem fC{p:bQ}(h:gG p=ae):0≤p.fr∧p.fr≤1099511627776∧1≤p.eV∧p.eV≤1099511627776∧p.head.length+p.jY.length≤1048576∧p.head.Pairwise (· < ·)∧(∀ c ∈ p.head,-1<c∧c<p.fr)∧p.jY.Pairwise (· < ·)∧∀ c ∈ p.jY,-1<c∧c<p.eV:=by
 unfold gG at h;simp only [If,decide_eq_true_eq]at h;obtain⟨⟨⟨⟨⟨⟨g,j⟩,l⟩,m⟩,u⟩,q⟩,s⟩:=h;obtain⟨a1,b⟩:=mo q;obtain⟨b1,d⟩:=mo s;exact⟨g,j,l,m,by omega,a1,b,b1,d⟩
def xd(p:bQ)(d:Int):Bool:=if p.fr≤d then decide ((d-p.fr) % p.eV ∈ p.jY)else decide (d ∈ p.head)
def Day(d:Int):Prop:=d≤2305843009213693952
theorem QS(p:bQ)(h:gG p=ae)(d:Int)(h0:0≤d)(x:Day d):bg tab 378 [.a (p.row.map .f),vi d]=Eq (vb (xd p d)):=Kf.eq (by
 obtain⟨A,B,E,F,I,s,K,u,L⟩:=fC h;unfold Day at x;refine cr rfl rfl fun H Q v=>?_;have j:∀(t:T) (J:aj) (g:Tg) (l:List Int) (n:Int),l.length≤1048576→l.Pairwise (· < ·)→t.g 5=.c (.f (sl g (ints l)))→t.g 6=vi n→xd p d=decide (n ∈ l)→WP tab 378 ab [.code AF] ⟨t,[],H++J⟩ Q:=by
  intro t J g l n M y m q e;obtain⟨i,-,-,-,z⟩:=DD g l n (by omega) y;apply ai;simp [m,q,z];apply ai;simp;refine aC (v _ _ ?_);simp [e]
 apply ai;simp [bQ.row];apply ai;simp;apply an;apply ai;simp;by_cases k:p.fr≤d
 ·refine au (by simp [k]) ?_;refine aq (.inl rfl) ?_;simp [aW (n:=d-p.fr),vW (a:=d-p.fr) (b:=p.eV) (by omega) (by omega)];exact j _ _ p.cg p.jY ((d-p.fr) % p.eV) (by omega) u (by simp) (by simp) (by simp [xd,k])
 ·refine bo (by simp [k]) ?_;exact j _ _ p.hg p.head d (by omega) s (by simp) (by simp) (by simp [xd,k]))
def hasB(p:bQ)(d:Int):Bool:=decide (0≤d)&&xd p d
theorem akI(p:bQ)(h:gG p=ae)(d:Int)(l:Day d):Kf tab 314 [.a (p.row.map .f),vi d] (vb (hasB p d)):=by
 refine cr rfl rfl fun H Q g=>?_;have b:=ad2 p (Gi h);rw [h]at b;apply ai;simp [bQ.row]at b ⊢;apply ai;by_cases k:0≤d
 ·have j:=QS p h d k l;simp [bQ.row]at j;simp [b,k,j];refine aC (g _ _ ?_);simp [hasB,k]
 ·simp [b,k];refine aC (g _ _ ?_);simp [hasB,k]
theorem QZ(p:bQ)(h:gG p=ae)(d:Int)(j:Day d):Kf tab 313 [.a (p.row.map .f),.c (.f (.fp [fi d] 0))] (vb (!hasB p d)):=by
 refine cr rfl rfl fun H Q g=>?_;have b:=(akI p h d j).eq;simp [bQ.row]at b;have l:∀ H:aj,aR H ab (.c (.f (.fp [fi d] 0)))=aa (vi d):=fun H=>by simp [aR,aE]
 apply ai;simp [bQ.row];apply ai;simp [l,b];refine aC (g _ _ ?_);simp
def tY(l:List bQ)(d:Int):Bool:=l.all fun p=>hasB p d
theorem amb(g:Tg)(l:List bQ)(v:l.length≤9223372036854775807)(h:∀ p ∈ l,gG p=ae)(d:Int)(s:Day d):Kf tab 251 [.c (.f (sl g (ba l))),vi d] (vb (tY l d)):=by
 refine cr rfl rfl fun H Q m=>?_;have q:=(fh acd (jF ace l bQ.row (fun r=>.a (r.row.map .f)) (fun p=>!hasB p d) g 313 [.fp [fi d] 0] v
  (fun j u H=>bL (cm l) (dV u)) (fun p x=>QZ p (h p x) d s))).eq
 have e:(!l.any fun p=>!hasB p d)=tY l d:=by
  rw [tY,awf];simp [awB,avz]
 apply ai;simp;apply ai;have b:bg tab 166 [.c (.f (sl g (ba l))),.c (.f (.fn 313 [.fp [fi d] 0]))]=Eq (vb (l.any fun p=>!hasB p d)):=q;simp [deep,Ge,zZ,b,e];refine aC (m _ _ ?_);simp
theorem ao4(t:dG)(l:t.fs.length≤9223372036854775807)(h:∀ p ∈ t.fs,gG p=ae)(d:Int)(j:Day d):Kf tab 250 [.c (.f (sl t.tg (ba t.fs))),.c (.f (.fp [fi d] 0))] (vb (tY t.fs d)):=by
 refine cr rfl rfl fun H Q g=>?_;have b:∀ H:aj,aR H ab (.c (.f (.fp [fi d] 0)))=aa (vi d):=fun H=>by simp [aR,aE]
 apply ai;simp;apply ai;simp [b,(amb t.tg t.fs l h d j).eq];refine aC (g _ _ ?_);simp
def B5(l:List dG)(d:Int):Bool:=nm l&&l.any fun t=>tY t.fs d
theorem mv{t:dG}(h:kr t=ae):1≤t.fs.length∧t.fs.length≤4∧∀ p ∈ t.fs,gG p=ae:=by
 unfold kr at h;simp only [If,decide_eq_true_eq,avz]at h;exact⟨by omega,by omega,h.2⟩
theorem QV{l:List dG}(h:nm l=ae):l.length≤64∧∀ t ∈ l,kr t=ae:=by
 unfold nm at h;simp only [If,decide_eq_true_eq,avz]at h;exact⟨by omega,h.2⟩
theorem Gd(g:Tg)(l:List dG)(h:nm l=ae)(d:Int)(x:Day d):bg tab 170 [.a [.f (sl g (aN l))],vi d]=Eq (vb (B5 l d)):=Kf.eq (by
 obtain⟨A,m⟩:=QV h;have s:=adL g l (by omega) (fun t b=>⟨by have:=(mv (m t b)).2.1;omega,fun p z=>Gi ((mv (m t b)).2.2 p z)⟩);have v:=(fh an9 (jF aof l dG.row (fun t=>.c (.f (sl t.tg (ba t.fs)))) (fun t=>tY t.fs d) g 250 [.fp [fi d] 0] (by omega)
  (fun j y H=>mc (iF l) (ku y) rfl) (fun t b=>ao4 t (by have:=(mv (m t b)).2.1;omega) (mv (m t b)).2.2 d x))).eq
 have q:bg tab 110 [.c (.f (sl g (aN l))),.c (.f (.fn 250 [.fp [fi d] 0]))]=Eq (vb (l.any fun t=>tY t.fs d)):=v;rw [h]at s;refine cr rfl rfl fun H Q u=>?_;apply ai;simp;apply ai;simp [s,deep,Ge,zZ,q];refine aC (u _ _ ?_);simp [B5,h])
structure Mod(p:bQ):Prop where
 ok:gG p=ae
 asE:p.eV≤1000
def gV(p:bQ)(c:Int):Int:=(p.fr % p.eV+c) % p.eV
theorem aun{x c p:Int}(h0:0≤c)(d:c<p):x % p=c↔p ∣ x-c:=by
 have h:=Gf (a:=x) (b:=c) (n:=p);rw [Int.emod_eq_of_lt h0 d]at h;exact h
theorem ri{p:bQ}(h:Mod p){c:Int}(h0:0≤c)(b:c<p.eV):0≤gV p c∧gV p c<p.eV∧∀ d,(d-p.fr) % p.eV=c↔p.eV ∣ d-gV p c:=by
 have g:0<p.eV:=by omega
 refine⟨avO _ (by omega),avG _ g,fun d=>?_⟩;rw [aun h0 b];have e:p.eV ∣ p.fr+c-gV p c:=by
  rw [←Gf];unfold gV;rw [Int.emod_emod_of_dvd _ (Int.dvd_refl _),Int.emod_add_emod]
 constructor
 ·intro k;have:=Int.dvd_add k e;rwa [show d-p.fr-c+(p.fr+c-gV p c)=d-gV p c by omega]at this
 ·intro k;have:=awD k e;rwa [show d-gV p c-(p.fr+c-gV p c)=d-p.fr-c by omega]at this
theorem ub{p:bQ}(h:Mod p){c:Int}(d:c ∈ p.jY):0≤c∧c<p.eV:=by
 obtain⟨-,-,-,-,-,-,-,-,b⟩:=fC h.ok;have:=b c d;omega
def kj(p:bQ)(d:Int):Prop:=∃ c ∈ p.jY,p.eV ∣ d-gV p c
theorem B6{p:bQ}(h:Mod p){d:Int}(l:p.fr≤d):xd p d=ae↔kj p d:=by
 unfold xd;rw [bf l,decide_eq_true_eq];constructor
 ·intro j;obtain⟨a,b⟩:=ub h j;exact⟨_,j,((ri h a b).2.2 d).1 rfl⟩
 ·rintro⟨c,g,e⟩;obtain⟨a,b⟩:=ub h g;rw [((ri h a b).2.2 d).2 e];exact g
theorem vX(p:bQ)(h:Mod p)(c:Int)(h0:0≤c)(l:c<p.eV):bg tab 256 [.a (p.row.map .f),vi c]=Eq (vi (gV p c)):=Kf.eq (by
 obtain⟨d,j,s,u,-⟩:=fC h.ok;have m:=avO p.fr (show p.eV≠0 by omega);have q:=avG p.fr (show 0<p.eV by omega);refine cr rfl rfl fun H Q g=>?_;apply ai;simp [bQ.row];apply ai;simp [vW (a:=p.fr) (b:=p.eV) d (by omega),aW (n:=p.fr % p.eV+c),vW (a:=p.fr % p.eV+c) (b:=p.eV) (by omega) (by omega)];refine aC (g _ _ ?_);simp [gV])
def dp:List bQ→Int
 | []=>0| p::l=>max p.fr (dp l)
theorem oc:∀ l:List bQ,0≤dp l
 | []=>Int.le_refl _| p::l=>by have:=oc l;simp only [dp];omega
theorem ob{p:bQ}:∀ {l:List bQ},p ∈ l→p.fr≤dp l
 | q::l,h=>by
  simp only [dp];rcases avn.1 h with rfl | h
  ·omega
  ·have:=ob h;omega
theorem CT(l:List bQ)(p:bQ):dp (l++[p])=max (dp l) p.fr:=by
 induction l with
 | nil=>simp only [awm,dp];omega| cons q l b=>simp only [awc,dp,b];omega
theorem aeR(g:Tg)(l:List bQ)(z:l.length≤64):bg tab 258 [.c (.f (sl g (ba l)))]=Eq (vi (dp l)):=Kf.eq (by
 refine cr rfl rfl fun H Q y=>?_;apply ai;simp;apply ai;simp;apply an;apply ai;simp;refine bS l.length (fun j t H'=>(∃ J,H'=H++J)∧t.g 6=.c (.f (sl g (ba l)))∧t.g 3=vi (dp (l.take j))) (by omega) (by decide) (by decide) (by simp) (by simp) ⟨⟨[],by simp⟩,by simp,by simp [dp]⟩ ?_ ?_
 ·rintro j t _ u ⟨⟨J,rfl⟩,q,m⟩ s x next
  have d:=fun H:aj=>bL (H:=H) (cm l) (dV (l:=l) (j:=j) u);have b:=fun H:aj=>bl (H:=H) (g:=g) (rows:=ba l) (sz:=4) (k:=.i64) (i:=j) (by omega) (by simpa using u);simp [bQ.row]at d b;have v:l.take (j+1)=l.take j++[l[j]]:=by rw [avK,By u];rfl
  have e:dp (l.take (j+1))=max (dp (l.take j)) l[j].fr:=by rw [v,CT]
  refine aF ?_;apply ai;simp [q,s,b,d];refine aq (.inl rfl) ?_;simp [m];refine aA (next _ _ ?_ (by simp [s]) (by simp [x]));exact⟨⟨_,rfl⟩,by simp [q],by simp [e]⟩
 ·rintro t _ ⟨⟨J,rfl⟩,q,m⟩ s x;rw [avH]at m;apply ai;simp [m];refine aC (y _ _ ?_);simp)
def AE(n a s:Int):Int:=if a<n then a+(n-a+s-1) / s*s else a
theorem GK{n a s:Int}(h0:0≤a)(y:a<s)(z:0≤n):n≤AE n a s∧s ∣ AE n a s-a∧AE n a s≤n+s∧∀ d,n≤d→s ∣ d-a→AE n a s≤d:=by
 have m:0<s:=by omega
 unfold AE;split
 ·have u:=awe (n-a+s-1) s;have v:=avO (n-a+s-1) (show s≠0 by omega);have x:=avG (n-a+s-1) m;have g:(n-a+s-1) / s*s=s*((n-a+s-1) / s):=awM _ _;rw [g];generalize (n-a+s-1) / s=q at *;refine⟨by omega,⟨q,by omega⟩,by omega,?_⟩;rintro d j ⟨k,l⟩;rcases awu k q with h | h
  ·have b:s*k≤s*(q-1):=avu (by omega) (by omega);rw [axb,Int.mul_one]at b;omega
  ·have b:s*q≤s*k:=avu h (by omega);omega
 ·refine⟨by omega,⟨0,by omega⟩,by omega,?_⟩;rintro d j ⟨k,l⟩;rcases awu k 0 with h | h
  ·have b:s*k≤s*(-1):=avu (by omega) (by omega);omega
  ·have b:0≤s*k:=awo (by omega) h;omega
structure fe(S:Int→Prop)(l:Int)(f:Bool)(l':Int)(f':Bool):Prop where
 le:l'≤l
 tU:f=ae→f'=ae
 src:(l'=l∧f'=f)∨(f'=ae∧S l')
 low:∀ d,S d→l'≤d∧(d≤l→f'=ae)
theorem fe.none{S:Int→Prop}{l:Int}{f:Bool}(h:∀ d,¬ S d):fe S l f l f:=⟨Int.le_refl _,id,.inl ⟨rfl,rfl⟩,fun d b=>absurd b (h d)⟩
theorem fe.trans{S S1 q:Int→Prop}{l l1 l2:Int}{f s u:Bool}(h1:fe S1 l f l1 s)(h2:fe q l1 s l2 u)(m:∀ d,S d↔S1 d∨q d):fe S l f l2 u where
 le:=axn h2.le h1.le
 tU h:=h2.tU (h1.tU h)
 src:=by
  rcases h2.src with⟨rfl,rfl⟩ | ⟨h,k⟩
  ·rcases h1.src with h | ⟨h,k⟩
   ·exact .inl h
   ·exact .inr ⟨h,(m _).2 (.inl k)⟩
  ·exact .inr ⟨h,(m _).2 (.inr k)⟩
 low d v:=by
  have b:=h2.le;rcases(m d).1 v with k | k
  ·obtain⟨a1,j⟩:=h1.low d k;exact⟨by omega,fun e=>h2.tU (j e)⟩
  ·obtain⟨a1,j⟩:=h2.low d k;refine⟨a1,fun e=>?_⟩;rcases awu l1 d with g | g
   ·rcases h1.src with⟨rfl,rfl⟩ | ⟨h,-⟩
    ·omega
    ·exact h2.tU h
   ·exact j g
theorem fe.iff{S S':Int→Prop}{l l':Int}{f b:Bool}(h:fe S l f l' b)(g:∀ d,S' d↔S d):fe S' l f l' b:=
 ⟨h.le,h.tU,by rcases h.src with k | ⟨k,k'⟩;exact .inl k;exact .inr ⟨k,(g _).2 k'⟩,fun d j=>h.low d ((g d).1 j)⟩
theorem fe.one{S:Int→Prop}{l x:Int}{f:Bool}(j:S x)(g:∀ d,S d→x≤d):fe S l f (if x≤l then x else l) (f||decide (x≤l)) where
 le:=by split<;>omega
 tU h:=by rw [h];rfl
 src:=by
  by_cases k:x≤l
  ·exact .inr ⟨by simp [k],by simpa [k]using j⟩
  ·exact .inl ⟨by simp [k],by simp [k]⟩
 low d b:=by
  have:=g d b;constructor
  ·split<;>omega
  ·intro e;simp [show x≤l by omega]
def LH(H:aj)(g:Tg)(ps:List bQ)(n least:Int)(found:Bool):Prop:=(∃ a,H[0]?=aa (.box [.f (sl g (ba ps))] a))∧H[1]?=aa (.box [.f (fi n)] 0)∧H[2]?=aa (.box [.f (fi least)] 0)∧H[3]?=aa (.box [.f (.bool found)] 0) ∧
 H[4]?=aa (.box [.cl 259 [.ptr 0 0 0,.ptr 4 0 0,.ptr 1 0 0,.ptr 2 0 0,.ptr 3 0 0]] 0)
theorem LH.push{H:aj}{g:Tg}{ps:List bQ}{n least:Int}{found:Bool}(h:LH H g ps n least found)(J:aj):LH (H++J) g ps n least found:=by
 obtain⟨⟨a,h0⟩,h1,h2,h3,h4⟩:=h;refine⟨⟨a,?_⟩,?_,?_,?_,?_⟩
 ·rw [AT (ak h0)];exact h0
 ·rw [AT (ak h1)];exact h1
 ·rw [AT (ak h2)];exact h2
 ·rw [AT (ak h3)];exact h3
 ·rw [AT (ak h4)];exact h4
theorem QJ(g:Tg)(ps:List bQ)(H:aj)(n least:Int)(found:Bool)(r s:Int)(e:LH H g ps n least found)(h0:0≤r)(A:r<s)(E:s≤1000000)(f:0≤n)(h:n≤1000000000000) :
  ∃ v H',Ev tab (.fn 259) [vi ps.length,clV r s,.c (.ptr 0 0 0),.c (.ptr 4 0 0),.c (.ptr 1 0 0),.c (.ptr 2 0 0),.c (.ptr 3 0 0)] H v H' ∧
   (v=.t []∧LH H' g ps n (if AE n r s≤least then AE n r s else least) (found||decide (AE n r s≤least))∧∀ i:Nat,5≤i→i<H.length→H'[i]?=H[i]?):=by
 obtain⟨⟨B,g0⟩,Y,Z,c,L⟩:=e;obtain⟨u1,-,u3,-⟩:=GK h0 A f;have l4:=ak L;refine cL rfl rfl fun Q O=>?_;have m:∀(t:T) (q:aj) (y:Int),y=AE n r s→t.g 8=.c (.ptr H.length 0 0)→t.g 4=.c (.ptr 1 0 0)→t.g 5=.c (.ptr 2 0 0)→t.g 6=.c (.ptr 3 0 0)→LH q g ps n least found→q[H.length]?=aa (.box [.f (fi y),.f (fi s)] 0)→(∀ i:Nat,5≤i→i<H.length→q[i]?=H[i]?) →
   WP tab 259 ab [.code AZ] ⟨t,[],q⟩ Q:=by
  rintro t q _ rfl K W J X j U l;have w:=j.2.1;have S:=j.2.2.1;have q3:=j.2.2.2.1;apply ai;simp [K,W,J,U,w,S,u1];by_cases k:AE n r s≤least
  ·refine au (by simp [k]) ?_;have F:(q.set 2 (.box [.f (fi (AE n r s))] 0))[3]?=aa (.box [.f (.bool found)] 0):=by rw [AI (by decide)];exact q3
   refine aq (.inl rfl) ?_;simp [K,J,X,U,S,F];refine cE (O _ _ _ rfl rfl ⟨rfl,?_,fun i hi z=>by rw [AI (by omega),AI (by omega)];exact l i hi z⟩);obtain⟨⟨B,h0⟩,A,E,M,N⟩:=j;refine⟨⟨B,?_⟩,?_,?_,?_,?_⟩
   ·rw [AI (by decide),AI (by decide)];exact h0
   ·rw [AI (by decide),AI (by decide)];exact A
   ·rw [AI (by decide),IN (ak E)];simp [k]
   ·rw [IN (by rw [List.length_set];exact ak M)];simp [k]
   ·rw [AI (by decide),AI (by decide)];exact N
  ·refine bo (by simp [k]) ?_;refine cE (O _ _ _ rfl rfl ⟨rfl,?_,l⟩);simpa [k]using j
 apply ai;simp;have d:=LH.push (H:=H) (g:=g) (ps:=ps) (n:=n) (least:=least) (found:=found) ⟨⟨B,g0⟩,Y,Z,c,L⟩ [.box [.f (fi r),.f (fi s)] 0];have x:(H++[bw.box [.f (fi r),.f (fi s)] 0])[H.length]?=aa (.box [.f (fi r),.f (fi s)] 0):=by simp
 have u:∀ i:Nat,5≤i→i<H.length→(H++[bw.box [.f (fi r),.f (fi s)] 0])[i]?=H[i]?:=fun i _ z=>AT z;generalize H++[bw.box [.f (fi r),.f (fi s)] 0]=q at d x u ⊢;obtain⟨a1,r0⟩:=d.1;have I:=d.2.1;apply an;apply ai;simp [r0];refine bo (by simp) ?_;apply an;apply ai;by_cases k:r<n
 ·simp [I,x,k,show 0<s by omega];refine au (by simp) ?_;have p:AE n r s=r+(n-r+s-1) / s*s:=by unfold AE;rw [bf k]
  have o:=nw (a:=n-r+s-1) (b:=s) (by omega) (by omega) (by omega);have b1:(n-r+s-1) / s*s=AE n r s-r:=by omega
  refine aq (.inl rfl) ?_;simp [I,x,aW (n:=n-r),aW (n:=n-r+s),aW (n:=n-r+s-1),o,b1,aW (n:=AE n r s-r),aW (n:=r+(AE n r s-r))];refine m _ _ _ (show r+(AE n r s-r)=_ by omega) (by simp) (by simp) (by simp) (by simp) ?_ (IN (ak x)) fun i hi z=>by rw [AI (by omega)];exact u i hi z
  obtain⟨⟨a1,h0⟩,A,E,M,N⟩:=d;refine⟨⟨a1,?_⟩,?_,?_,?_,?_⟩
  all_goals (rw [AI (by omega)];assumption)
 ·simp [I,x,k];refine bo (by simp) ?_;exact m _ _ r (by unfold AE;rw [aY k]) (by simp) (by simp) (by simp) (by simp) d x u
def fW:List bQ→Int
 | []=>1| p::l=>p.eV*fW l
theorem sM{l:List bQ}(h:∀ p ∈ l,Mod p):1≤fW l:=by
 induction l with
 | nil=>exact Int.le_refl _
 | cons p l j=>
  have b:=(fC (h p atI).ok).2.2.1;have d:=j fun q g=>h q (aul _ g);have:=Int.mul_le_mul b d (by decide) (by omega);simp only [fW];omega
def uD(ps:List bQ)(n a s d:Int):Prop:=n≤d∧s ∣ d-a∧∀ p ∈ ps,kj p d
theorem asj(g:Tg)(ps:List bQ)(hM:∀ p ∈ ps,Mod p)(j7:ps.length≤64)(n:Int)(hn:0≤n)(h_:n≤1000000000000) :
  ∀(k i:Nat),i+k=ps.length→∀(H:aj) (least:Int) (found:Bool) (a s:Int),LH H g ps n least found→0≤a→a<s→s*fW (ps.drop i)≤1000000 →
  ∃ v H',Ev tab (.fn 259) [vi i,clV a s,.c (.ptr 0 0 0),.c (.ptr 4 0 0),.c (.ptr 1 0 0),.c (.ptr 2 0 0),.c (.ptr 3 0 0)] H v H' ∧
   (v=.t []∧∃ F z,LH H' g ps n F z∧fe (uD (ps.drop i) n a s) least found F z∧∀ i:Nat,5≤i→i<H.length→H'[i]?=H[i]?):=by
 intro k;induction k with
 | zero=>
  intro i hi H least found a s hH a0 a1 hs;have:i=ps.length:=by omega
  subst this;rw [awg]at hs ⊢;simp only [fW,Int.mul_one]at hs;obtain⟨v,H',J,rfl,hL,hk⟩:=QJ g ps H n least found a s hH a0 a1 hs hn h_;obtain⟨u1,u2,u3,u4⟩:=GK (n:=n) a0 a1 hn;exact⟨_,H',J,rfl,_,_,hL,fe.one ⟨u1,u2,fun p hp=>absurd hp (List.not_mem_nil)⟩ (fun d hd=>u4 d hd.1 hd.2.1),hk⟩
 | succ k ih=>
  intro i hi H least found a s hH a0 a1 hs;have u:i<ps.length:=by omega
  obtain⟨p,hp⟩:=aJ (ps[i]);have i4:p ∈ ps:=hp▸anc u;have L:=hM p i4;obtain⟨f0,f1,p0,p1,Af,-⟩:=fC L.ok;have b9:ps.drop i=p::ps.drop (i+1):=by rw [hp];exact auR u
  have i5:=sM (l:=ps.drop (i+1)) fun q hq=>hM q (av9 hq);have j9:s*p.eV*fW (ps.drop (i+1))≤1000000:=by
   rw [b9]at hs;simp only [fW,←awO]at hs;exact hs
  have j8:1≤s:=by omega
  have j5:s≤s*p.eV:=by
   have:=avu p0 (show 0≤s by omega);omega
  have j6:s*p.eV≤1000000:=by
   have:=avu i5 (show 0≤s*p.eV by omega);omega
  refine cL rfl rfl fun Q hQ=>?_;have E:=fun H:aj=>bL (H:=H) (cm ps) (dV (l:=ps) (j:=i) u);have m:=fun H:aj=>gq (H:=H) (k:=3) (cm ps) (dV (l:=ps) (j:=i) u) rfl;have B:=fun H:aj=>gq (H:=H) (k:=2) (cm ps) (dV (l:=ps) (j:=i) u) rfl;have A:=fun H:aj=>bl (H:=H) (g:=g) (rows:=ba ps) (sz:=4) (k:=.i64) (i:=i) (by omega) (by simpa using u);rw [←hp]at E m B;simp [bQ.row]at E A m B;have l4:=ak hH.2.2.2.2;apply ai;simp;have Z:=hH.push [.box [.f (fi a),.f (fi s)] 0];have K:(H++[bw.box [.f (fi a),.f (fi s)] 0])[H.length]?=aa (.box [.f (fi a),.f (fi s)] 0):=by simp
  have c_:∀ i:Nat,5≤i→i<H.length→(H++[bw.box [.f (fi a),.f (fi s)] 0])[i]?=H[i]?:=fun i _ hl=>AT hl;obtain⟨b8,f_⟩:=aJ (H.length);rw [←f_]at K ⊢;generalize H++[bw.box [.f (fi a),.f (fi s)] 0]=HH at Z K c_ ⊢;obtain⟨q,q0⟩:=Z.1;apply an;apply ai;simp [q0];refine au (by simp [u]) ?_;apply an;apply ai;simp [q0,A,m];refine bS p.jY.length (fun j t H'=>t.g 0=vi i∧t.g 2=.c (.ptr 0 0 0)∧t.g 3=.c (.ptr 4 0 0)∧t.g 8=.c (.ptr b8 0 0)∧t.g 21=.c (.f (sl p.cg (ints p.jY)))∧H'[b8]?=aa (.box [.f (fi a),.f (fi s)] 0) ∧
   ∃ l' O,LH H' g ps n l' O∧fe (fun d=>uD (ps.drop (i+1)) n a s d∧∃ c ∈ p.jY.take j,p.eV ∣ d-gV p c) least found l' O∧∀ x:Nat,5≤x→x<H.length→H'[x]?=H[x]?) (by omega) (by decide) (by decide) (by simp) (by simp)
   ⟨by simp,by simp,by simp,by simp,by simp,K,_,_,Z,fe.none (by simp),c_⟩ ?_ ?_
  ·rintro j t H' hj ⟨g0,g2,g3,g8,N,K,l',O,I,hP,b⟩ ha hb next
   have hm:=ub L (anc hj);obtain⟨i9,i_,-⟩:=ri L hm.1 hm.2;have M:=vX p L p.jY[j] hm.1 hm.2;simp [bQ.row]at M;have i8:p.jY.take (j+1)=p.jY.take j++[p.jY[j]]:=by rw [avK,By hj];rfl
   have d9:∀ d,(uD (ps.drop (i+1)) n a s d∧∃ c ∈ p.jY.take (j+1),p.eV ∣ d-gV p c)↔(uD (ps.drop (i+1)) n a s d∧∃ c ∈ p.jY.take j,p.eV ∣ d-gV p c)∨(uD (ps.drop (i+1)) n a s d∧p.eV ∣ d-gV p p.jY[j]):=by
    intro d;rw [i8];simp only [avq,avh];constructor
    ·rintro⟨h,c,hc | rfl,e⟩
     ·exact .inl ⟨h,c,hc,e⟩
     ·exact .inr ⟨h,e⟩
    ·rintro(⟨h,c,hc,e⟩ | ⟨h,e⟩)
     ·exact⟨h,c,.inl hc,e⟩
     ·exact⟨h,_,.inr rfl,e⟩
   obtain⟨a9,e0⟩:=I.1;have e4:=I.2.2.2.2;have j4:=ak K;refine aF ?_;apply ai;simp [ha,N,bl,hj,jP];rcases akx a0 a1 (by omega) i9 i_ L.asE with⟨a',s',d_,e_,i6,b_,y⟩ | ⟨a_,y⟩
   ·apply ai;simp [g0,g2,g8,K,e0,A,E,B,M,y];have i7:s'*fW (ps.drop (i+1))≤1000000:=by
     have:=axf i6 (show 0≤fW (ps.drop (i+1)) by omega);omega
    obtain⟨v,H2,J,rfl,l2,f2,f7,f8,a8⟩:=ih (i+1) (by omega) (H'++[.box [.f (fi a'),.f (fi s')] 0]) l' O a' s' (I.push _) d_ e_ i7;have J:=J.eq;have k4:(H'++[bw.box [.f (fi a'),.f (fi s')] 0])[4]?=aa (.box [.cl 259 [.ptr 0 0 0,.ptr 4 0 0,.ptr 1 0 0,.ptr 2 0 0,.ptr 3 0 0]] 0):=by rw [AT (ak e4)];exact e4
    have kN:(H'++[bw.box [.f (fi a'),.f (fi s')] 0])[H'.length]?=aa (.box [.f (fi a'),.f (fi s')] 0):=by simp
    have kl:(H'++[bw.box [.f (fi a'),.f (fi s')] 0]).length=H'.length+1:=by simp
    have kb:(H'++[bw.box [.f (fi a'),.f (fi s')] 0])[b8]?=aa (.box [.f (fi a),.f (fi s)] 0):=by rw [AT (ak K)];exact K
    have kk:∀ x:Nat,5≤x→x<H.length→(H'++[bw.box [.f (fi a'),.f (fi s')] 0])[x]?=H[x]?:=fun x h5 hx=>by
     rw [AT (by omega)];exact b x h5 hx
    apply an;refine aq (.inl rfl) ?_;simp;generalize H'++[bw.box [.f (fi a'),.f (fi s')] 0]=HA at J k4 kN kl kb kk a8 ⊢;refine au (by simp) ?_;refine aq (.inl rfl) ?_;have g_:IntKind.i64.wrap ((i:Int)+1)=((i+1:Nat):Int):=by rw [aW];rfl
    simp [g0,g3,k4,kN,g_,bX];rw [show(↑i+1:Int)=((i+1:Nat):Int) from rfl];simp only [J];simp;refine aA (next _ _ ?_ (by simp [ha]) (by simp [hb]));refine⟨by simp [g0],by simp [g2],by simp [g3],by simp [g8],by simp [N],?_,l2,f2,f7,?_,?_⟩
    ·rw [a8 b8 (by omega) (by omega)];exact kb
    ·refine fe.trans hP (f8.iff (S':=fun d=>uD (ps.drop (i+1)) n a s d∧p.eV ∣ d-gV p p.jY[j]) fun d=>?_) d9;unfold uD;rw [←b_ d];constructor
     ·rintro⟨⟨U,W,X⟩,Y⟩;exact⟨U,⟨W,Y⟩,X⟩
     ·rintro⟨U,⟨W,Y⟩,X⟩;exact⟨⟨U,W,X⟩,Y⟩
    ·intro x h5 hx;rw [a8 x h5 (by omega)];exact kk x h5 hx
   ·apply ai;simp [g0,g2,g8,K,e0,A,E,B,M,y];apply an;refine aq (.inl rfl) ?_;simp;refine bo (by simp) ?_;refine aA (next _ _ ?_ (by simp [ha]) (by simp [hb]));refine⟨by simp [g0],by simp [g2],by simp [g3],by simp [g8],by simp [N],?_,l',O,I.push _,fe.trans hP (fe.none (S:=fun d=>uD (ps.drop (i+1)) n a s d∧p.eV ∣ d-gV p p.jY[j]) fun d hd=>a_ d ⟨hd.1.2.1,hd.2⟩) d9,?_⟩
    ·rw [AT (by omega)];exact K
    ·intro x h5 hx;rw [AT (by omega)];exact b x h5 hx
  ·rintro t H' ⟨g0,g2,g3,g8,N,K,l',O,I,hP,b⟩ - -;rw [avH]at hP;refine aC (hQ _ _ _ rfl rfl ⟨rfl,l',O,I,hP.iff fun d=>?_,b⟩);rw [b9];unfold uD;simp only [avn,forall_eq_or_imp];constructor
   ·rintro⟨U,W,X,Y⟩;exact⟨⟨U,W,Y⟩,X⟩
   ·rintro⟨⟨U,W,Y⟩,X⟩;exact⟨U,W,X,Y⟩
theorem yR{p:bQ}:∀ {l:List bQ},p ∈ l→p.eV ∣ fW l
 | q::l,h=>by
  simp only [fW];rcases avn.1 h with rfl | h
  ·exact awZ _ _
  ·exact awn (yR h) (axc _ _)
theorem QI{p:bQ}{d k:Int}(h:kj p d)(g:p.eV ∣ k):kj p (d-k):=by
 obtain⟨c,b,e⟩:=h;refine⟨c,b,?_⟩;have:=awD e g;rwa [show d-gV p c-k=d-k-gV p c by omega]at this
theorem yA{ps:List bQ}(j:∀ p ∈ ps,Mod p){m d:Int}(h:∀ p ∈ ps,kj p d)(u:m≤d):∃ g,m≤g∧g<m+fW ps∧∀ p ∈ ps,kj p g:=by
 have v:=sM j;have l:=awe (d-m) (fW ps);have q:=avO (d-m) (show fW ps≠0 by omega);have s:=avG (d-m) (show 0<fW ps by omega);refine⟨d-fW ps*((d-m) / fW ps),by omega,by omega,fun p b=>QI (h p b) (awn (yR b) (awZ _ _))⟩
def anW(ps:List bQ)(m d:Int):Prop:=m≤d∧(∀ p ∈ ps,kj p d)∧d<m+fW ps∧∀ b,m≤b→(∀ p ∈ ps,kj p b)→d≤b
theorem akl(g:Tg)(ps:List bQ)(y:∀ p ∈ ps,Mod p)(L:ps.length≤64)(W:fW ps≤1000000)(n m:Int)(S:m=max n (dp ps))(I:m≤1000000000000) :
  (∃ d,anW ps m d∧bg tab 178 [.c (.f (sl g (ba ps))),vi n]=Eq (.t [vi d,vb ae])) ∨
  ((∀ d,m≤d→¬ ∀ p ∈ ps,kj p d)∧bg tab 178 [.c (.f (sl g (ba ps))),vi n]=Eq (.t [vi 0,vb ag])):=by
 have u:=aeR g ps L;have X:=oc ps;have U:=sM y;obtain⟨v,H',b,rfl,l',O,E,z,-⟩:=asj g ps y L m (by omega) I ps.length 0 (by omega) [.box [.f (sl g (ba ps))] 0,.box [.f (fi m)] 0,.box [.f (fi 1152921504606846976)] 0,.box [.f (.bool ag)] 0,.box [.cl 259 [.ptr 0 0 0,.ptr 4 0 0,.ptr 1 0 0,.ptr 2 0 0,.ptr 3 0 0]] 0]
  1152921504606846976 ag 0 1 ⟨⟨0,rfl⟩,rfl,rfl,rfl,rfl⟩ (by decide) (by decide) (by rw [awj];omega)
 rw [awj]at z;have H:∀ d,uD ps m 0 1 d↔m≤d∧∀ p ∈ ps,kj p d:=fun d=>⟨fun h=>⟨h.1,h.2.2⟩,fun h=>⟨h.1,Int.one_dvd _,h.2⟩⟩
 have j:max n (dp ps)=m:=S.symm;have b:=b.eq;simp only [show((0:Nat):Int)=0 from rfl]at b;cases O with
 | true=>
  left;have s:uD ps m 0 1 l':=by
   rcases z.src with⟨_,h⟩ | ⟨_,h⟩
   ·cases h
   ·exact h
  have l:∀ q,m≤q→(∀ p ∈ ps,kj p q)→l'≤q:=fun q A B=>(z.low q ((H q).2 ⟨A,B⟩)).1;obtain⟨M,N⟩:=(H l').1 s;obtain⟨x,J,Y,K⟩:=yA y N M;refine⟨l',⟨M,N,by have:=l x J K;omega,l⟩,bg.eq (bI rfl rfl fun Q F=>?_)⟩;apply ai;simp;apply ai;simp [u,j];apply ai;simp;apply ai;simp;apply ai;simp;apply ai;simp [bX,b];apply an;apply ai;simp [E.2.2.2.1];refine bo (by simp) ?_;apply ai;simp [E.2.2.1];refine aC (F _ _ ?_);simp
 | false=>
  right;refine⟨fun d A B=>?_,bg.eq (bI rfl rfl fun Q F=>?_)⟩
  ·obtain⟨x,J,Y,K⟩:=yA y B A;have:=(z.low x ((H x).2 ⟨J,K⟩)).2 (by omega);cases this
  ·apply ai;simp;apply ai;simp [u,j];apply ai;simp;apply ai;simp;apply ai;simp;apply ai;simp [bX,b];apply an;apply ai;simp [E.2.2.2.1];refine au (by simp) ?_;apply ai;simp;refine aC (F _ _ ?_);simp
def uC:List (Int × Int)→List bQ→Prop
 | _,[]=>True| ch,p::l=>∃ c ∈ p.jY,(∀ x ∈ ch,(awG p.eV x.2:Int) ∣ gV p c-x.1)∧uC (ch++[(gV p c,p.eV)]) l
theorem Gm{d:Int}:∀(l:List bQ) (g:List (Int × Int)),(∀ x ∈ g,x.2 ∣ d-x.1)→(∀ p ∈ l,kj p d)→uC g l
 | [],_,_,_=>trivial
 | p::l,g,m,u=>by
  obtain⟨c,j,s⟩:=u p atI;refine⟨c,j,fun x b=>?_,Gm l _ (fun x b=>?_) fun q z=>u q (aul _ z)⟩
  ·have v:=awn (axm p.eV x.2) (m x b);have y:=awn (axd p.eV x.2) s;have:=awD v y;rwa [show d-x.1-(d-gV p c)=gV p c-x.1 by omega]at this
  ·rcases avq.1 b with b | b
   ·exact m x b
   ·rw [avh.1 b];exact s
def RH(B:aj)(H:aj)(g:Tg)(ps:List bQ)(b:List Int):Prop:=(∃ a,H[B.length]?=aa (.box [.f (sl g (ba ps))] a))∧H[B.length+1]?=aa (.box (b.map fun x=>C.f (fi x)) 0)∧H[B.length+2]?=aa (.box [.sl (B.length+1) 0 ps.length ps.length 0 1] 0) ∧
 H[B.length+3]?=aa (.box [.cl 255 [.ptr B.length 0 0,.ptr (B.length+2) 0 0,.ptr (B.length+3) 0 0]] 0)∧∀ i:Nat,i<B.length→H[i]?=B[i]?
def Cho(ps:List bQ)(d:List Int)(b:List (Int × Int)):Prop:=∀ j,(h:j<b.length)→d[j]?=aa b[j].1∧(∃ p,ps[j]?=aa p∧p.eV=b[j].2)∧0≤b[j].1∧b[j].1≤1000
theorem aus(B:aj){o:Nat}(ho:o=B.length)(g:Tg)(ps:List bQ)(hM:∀ p ∈ ps,Mod p)(v_:ps.length≤64) :
  ∀(k i:Nat),i+k=ps.length→∀(H:aj) (ls:List Int) (m:List (Int × Int)),RH B H g ps ls→ls.length=ps.length→m.length=i→Cho ps ls m →
  ∃ v H',Ev tab (.fn 255) [vi i,.c (.ptr o 0 0),.c (.ptr (o+2) 0 0),.c (.ptr (o+3) 0 0)] H v H' ∧
   ∃ b,v=vb b∧(b=ae↔uC m (ps.drop i))∧∃ d,RH B H' g ps d∧d.length=ps.length∧d.take i=ls.take i:=by
 intro k;induction k with
 | zero=>
  intro i hi H ls m hH i_ i6 F;have:i=ps.length:=by omega
  subst this;obtain⟨q,q0⟩:=hH.1;rw [←ho]at q0;refine cL rfl rfl fun Q hQ=>?_;apply ai;simp;refine BQ ?_;apply an;apply ai;simp [q0];refine au (by simp) ?_;apply ai;simp;exact aC (hQ _ _ _ rfl (km (by simp)) ⟨ae,rfl,by rw [awg];simp [uC],ls,hH,i_,rfl⟩)
 | succ k ih=>
  intro i hi H ls m hH i_ i6 F;have z:i<ps.length:=by omega
  obtain⟨p,hp⟩:=aJ (ps[i]);have v6:p ∈ ps:=hp▸anc z;have O:=hM p v6;obtain⟨f0,f1,p0,p1,Af,-⟩:=fC O.ok;have s_:ps.drop i=p::ps.drop (i+1):=by rw [hp];exact auR z
  have Z:=fun H:aj=>bL (H:=H) (cm ps) (dV (l:=ps) (j:=i) z);have u:=fun H:aj=>gq (H:=H) (k:=3) (cm ps) (dV (l:=ps) (j:=i) z) rfl;have X:=fun H:aj=>gq (H:=H) (k:=2) (cm ps) (dV (l:=ps) (j:=i) z) rfl;have I:=fun H:aj=>bl (H:=H) (g:=g) (rows:=ba ps) (sz:=4) (k:=.i64) (i:=i) (by omega) (by simpa using z);rw [←hp]at Z u X;simp [bQ.row]at Z I u X;obtain⟨q,q0⟩:=hH.1;rw [←ho]at q0;refine cL rfl rfl fun Q hQ=>?_;apply ai;simp;refine BQ ?_;apply an;apply ai;simp [q0];refine aB (by simp;omega) (aP ?_);refine an (adp ?_);apply an;apply ai;simp [q0,I,u];obtain⟨Ok,j8⟩:∃ Ok:Int→Prop,Ok=fun c=>(∀ x ∈ m,(awG p.eV x.2:Int) ∣ gV p c-x.1)∧uC (m++[(gV p c,p.eV)]) (ps.drop (i+1)):=⟨_,rfl⟩
  have S:∀ c,Ok c↔((∀ x ∈ m,(awG p.eV x.2:Int) ∣ gV p c-x.1)∧uC (m++[(gV p c,p.eV)]) (ps.drop (i+1))):=fun c=>by rw [j8]
  have f7:uC m (ps.drop i)↔∃ c ∈ p.jY,Ok c:=by rw [s_,j8];rfl
  refine bS p.jY.length (fun j t H'=>t.g 0=vi i∧t.g 1=.c (.ptr o 0 0)∧t.g 2=.c (.ptr (o+2) 0 0)∧t.g 3=.c (.ptr (o+3) 0 0)∧t.g 18=.c (.f (sl p.cg (ints p.jY))) ∧
   (∀ c ∈ p.jY.take j,¬ Ok c)∧∃ d,RH B H' g ps d∧d.length=ps.length∧d.take i=ls.take i) (by omega) (by decide) (by decide) (by simp) (by simp) ⟨by simp,by simp,by simp,by simp,by simp,by simp,ls,hH,i_,rfl⟩ ?_ ?_
  ·rintro j t H' hj ⟨g0,g1,g2,g3,s,d9,d,hR,K,L⟩ ha hb next
   have hm:=ub O (anc hj);obtain⟨r_,v8,-⟩:=ri O hm.1 hm.2;have Y:=vX p O p.jY[j] hm.1 hm.2;simp [bQ.row]at Y;have w9:=O.asE;have o_:p.jY.take (j+1)=p.jY.take j++[p.jY[j]]:=by rw [avK,By hj];rfl
   have f_:¬ Ok p.jY[j]→∀ c ∈ p.jY.take (j+1),¬ Ok c:=by
    intro h c hc;rw [o_,avq,avh]at hc;rcases hc with hc | rfl
    ·exact d9 c hc
    ·exact h
   obtain⟨r,hr⟩:=aJ (gV p p.jY[j]);rw [←hr]at r_ v8 Y;obtain⟨q',d_⟩:=hR.1;have N:=hR.2.1;have e_:=hR.2.2.1;have p_:=hR.2.2.2.1;have q_:=hR.2.2.2.2;rw [←ho]at d_ N e_ p_ q_;have f8:∀ j,(h:j<m.length)→d[j]?=aa m[j].1:=fun j h=>by
    have h1:(d.take i)[j]?=d[j]?:=List.getElem?_take_of_lt (by omega);have h2:(ls.take i)[j]?=ls[j]?:=List.getElem?_take_of_lt (by omega);rw [←h1,L,h2];exact(F j h).1
   refine aF ?_;apply ai;simp [ha,s,bl,hj,jP];apply ai;simp [g0,g1,d_,I,Z,Y];apply an;apply ai;simp [g0];refine bS i (fun n t H2=>(t.g 0=vi i∧t.g 1=.c (.ptr o 0 0)∧t.g 2=.c (.ptr (o+2) 0 0)∧t.g 3=.c (.ptr (o+3) 0 0)∧t.g 18=.c (.f (sl p.cg (ints p.jY)))∧t.g 20=vi j∧t.g 19=vi p.jY.length∧t.g 8=vi r)∧H2=H'∧∀ x ∈ m.take n,(awG p.eV x.2:Int) ∣ r-x.1)
    (by omega) (by decide) (by decide) (by simp) (by simp) ⟨⟨by simp [g0],by simp [g1],by simp [g2],by simp [g3],by simp [s],by simp [ha],by simp [hb],by simp⟩,rfl,by simp⟩ ?_ ?_
   ·rintro n t H2 hn ⟨⟨g0,g1,g2,g3,s,a_,a8,g8⟩,i4,E⟩ j_ s9 nx;rw [i4];have c_:n<ps.length:=by omega
    have b_:n<m.length:=by omega
    obtain⟨-,⟨pn,n9,j4⟩,x0,x1⟩:=F n b_;have i9:=f8 n b_;obtain⟨x,hx⟩:=aJ (m[n]);rw [←hx]at i9 j4 x0 x1;have g_:ps[n]=pn:=by rw [By c_]at n9;exact awN n9
    have s8:=hM pn (g_▸anc c_);obtain⟨-,-,z0,z1,-⟩:=fC s8.ok;rw [j4]at z0 z1;have A:=fun H:aj=>gq (H:=H) (k:=2) (cm ps) (dV (l:=ps) (j:=n) c_) rfl;have U:=fun H:aj=>bl (H:=H) (g:=g) (rows:=ba ps) (sz:=4) (k:=.i64) (i:=n) (by omega) (by simpa using c_);rw [g_]at A;simp [bQ.row,j4]at A U;have W:bH H' 1 ab (.c (.sl (o+1) 0 ps.length ps.length 0 1)) (vi n)=aa (.c (.ptr (o+1) n 0)):=by
     simp [bH,ir,N,K];omega
    have m9:aR H' ab (.c (.ptr (o+1) n 0))=aa (vi x.1):=by
     have hd:(d.map fun y=>C.f (fi y)).drop n=C.f (fi x.1) ::(d.map fun y=>C.f (fi y)).drop (n+1):=by
      rw [auR (by simp;omega),List.getElem_map];rw [By (by omega)]at i9;rw [awN i9]
     simp only [aR,aE,N,Option.bind_some];rw [hd];rfl
    have u_:aR H' ab (.c (.ptr (o+2) 0 0))=aa (.c (.sl (o+1) 0 ps.length ps.length 0 1)):=by simp [e_]
    have t_:aR H' ab (.c (.ptr o 0 0))=aa (.c (.f (sl g (ba ps)))):=by simp [d_]
    obtain⟨gg,i8⟩:=aJ ((awG p.eV x.2:Int):Int);have t8:awG p.eV x.2=axa p.eV.toNat x.2.toNat:=by
     show axa p.eV.natAbs x.2.natAbs=_;rw [show p.eV.natAbs=p.eV.toNat by omega,show x.2.natAbs=x.2.toNat by omega]
    have v9:0<gg:=by
     have:=aw0 x.2 (show p.eV≠0 by omega);omega
    have l_:bg tab 257 [vi p.eV,vi x.2]=Eq (vi gg):=by
     have h:=ac5 (a:=p.eV.toNat) (b:=x.2.toNat) (by omega) (by omega);rw [show((p.eV.toNat:Nat):Int)=p.eV by omega,show((x.2.toNat:Nat):Int)=x.2 by omega,←t8,←i8]at h;exact h
    have s7:=aW (n:=r-x.1);have n_:dq .rem (vi (r-x.1)) (vi gg)=aa (vi ((r-x.1).tmod gg)):=iB (by omega);have J:m.take (n+1)=m.take n++[x]:=by rw [avK,By b_,hx];rfl
    refine aF ?_;apply ai;simp [j_];apply ai;simp [g0,g1,g2,g8,t_,u_,W,m9,I,X,U,A,l_,s7,n_,-aw];by_cases hd:gg ∣ r-x.1
    ·have j5:(r-x.1).tmod gg=0:=Int.tmod_eq_zero_of_dvd hd;refine bo (by simp [j5]) ?_;refine aA (nx _ _ ?_ (by simp [j_]) (by simp [s9]));refine⟨⟨by simp [g0],by simp [g1],by simp [g2],by simp [g3],by simp [s],by simp [a_],by simp [a8],by simp [g8]⟩,rfl,fun y hy=>?_⟩;rw [J,avq,avh]at hy;rcases hy with hy | rfl
     ·exact E y hy
     ·rw [←i8];exact hd
    ·have j5:¬ (r-x.1).tmod gg=0:=fun e=>hd (Int.dvd_of_tmod_eq_zero e);refine au (by simp [j5]) ?_;refine bJ rfl (next _ _ ?_ (by simp [a_]) (by simp [a8]));refine⟨by simp [g0],by simp [g1],by simp [g2],by simp [g3],by simp [s],f_ ?_,d,hR,K,L⟩;rw [S];rintro⟨h,-⟩;have:=h x (hx▸anc b_);rw [←i8,←hr]at this;exact hd this
   ·rintro t H2 ⟨⟨g0,g1,g2,g3,s,a_,a8,g8⟩,i4,E⟩ - -;rw [i4];rw [avj (by omega)]at E;have W:bH H' 1 ab (.c (.sl (o+1) 0 ps.length ps.length 0 1)) (vi i)=aa (.c (.ptr (o+1) i 0)):=by
     simp [bH,ir,N,K];omega
    have h_:cX H' (.ptr (o+1) i 0) [.f (fi r)]=aa (H'.set (o+1) (.box ((d.set i r).map fun y=>C.f (fi y)) 0)):=by
     simp only [cX,N];rw [bf (by simp;omega),Ce (by simp;omega),List.map_set]
    have n8:(H'.set (o+1) (.box ((d.set i r).map fun y=>C.f (fi y)) 0))[o+3]?=H'[o+3]?:=AI (by omega);have m_:=ak N;have i5:RH B (H'.set (o+1) (.box ((d.set i r).map fun y=>C.f (fi y)) 0)) g ps (d.set i r):=by
     unfold RH;rw [←ho];refine⟨⟨q',?_⟩,IN m_,?_,?_,fun i hi=>?_⟩
     ·rw [AI (by omega)];exact d_
     ·rw [AI (by omega)];exact e_
     ·rw [n8];exact p_
     ·rw [AI (by omega)];exact q_ i hi
    have i7:Cho ps (d.set i r) (m++[(r,p.eV)]):=by
     intro y hy;rw [List.length_append,List.length_singleton]at hy;by_cases j6:y<m.length
     ·rw [List.getElem_append_left j6,AI (by omega)];obtain⟨-,h2,h3⟩:=F y j6;exact⟨f8 y j6,h2,h3⟩
     ·have:y=i:=by omega
      subst this;rw [List.getElem_append_right (by omega)];simp only [i6,Nat.sub_self,List.getElem_cons_zero];refine⟨by rw [IN (by omega)],⟨p,by rw [By z,hp],rfl⟩,r_,by omega⟩
    obtain⟨v,H3,b9,b,rfl,k_,M,j9,m4,J⟩:=ih (i+1) (by omega) _ _ (m++[(r,p.eV)]) i5 (by simpa using K) (by simp [i6]) i7;have b9:=b9.eq;have j7:=i5.2.2.2.1;rw [←ho]at j7;generalize H'.set (o+1) (.box ((d.set i r).map fun y=>C.f (fi y)) 0)=HN at h_ b9 j7 n8 i5;have t9:IntKind.i64.wrap ((i:Int)+1)=((i+1:Nat):Int):=by rw [aW];rfl
    apply ai;simp [g0,g2,g8,e_,W,h_,-bh];apply ai;simp [g0,g3,j7,t9,bX];rw [show(↑i+1:Int)=((i+1:Nat):Int) from rfl];simp only [b9];simp;cases b with
    | true=>
     refine au (by simp) ?_;apply ai;simp;refine aC (hQ _ _ _ rfl (km (by simp)) ⟨ae,rfl,?_,M,j9,m4,?_⟩)
     ·rw [f7];refine⟨fun _=>⟨_,anc hj,?_⟩,fun _=>rfl⟩;rw [S,←hr];exact⟨E,k_.1 rfl⟩
     ·have h1:(M.take (i+1)).take i=M.take i:=by rw [awH,aws (by omega)]
      rw [←h1,J,awH,aws (by omega),List.take_set_of_le (by omega),L]
    | false=>
     refine bo (by simp) ?_;refine aA (next _ _ ?_ (by simp [a_]) (by simp [a8]));refine⟨by simp [g0],by simp [g1],by simp [g2],by simp [g3],by simp [s],f_ ?_,M,j9,m4,?_⟩
     ·rw [S,←hr];rintro⟨-,h⟩;have:=k_.2 h;cases this
     ·have h1:(M.take (i+1)).take i=M.take i:=by rw [awH,aws (by omega)]
      rw [←h1,J,awH,aws (by omega),List.take_set_of_le (by omega),L]
  ·rintro t H' ⟨g0,g1,g2,g3,s,d9,d,hR,K,L⟩ - -;rw [avH]at d9;apply ai;simp;refine aC (hQ _ _ _ rfl (km (by simp)) ⟨ag,rfl,?_,d,hR,K,L⟩);rw [f7];constructor
   ·intro h;cases h
   ·rintro⟨c,hc,h⟩;exact absurd h (d9 c hc)
end Go.Proofs.YtnaofdffomdmhaaGreat
