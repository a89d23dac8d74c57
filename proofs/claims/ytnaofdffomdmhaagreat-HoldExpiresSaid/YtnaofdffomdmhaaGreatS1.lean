/-
  ajE the mz jK and the lS answer, for all arguments of their kind, in the small machine: part 1.
-/
import Derived.Test.YtnaofdffomdmhaaGreatTab
import Derived.Test.YtnaofdffomdmhaaGreatK4
open Option renaming some → aa,none → ab
open Bool renaming true → ae,false → ag
open List renaming drop_eq_getElem_cons → apw, getElem_mem → anc, append_nil → aq6, getElem?_append_left → AT, mem_cons → aqA, pairwise_iff_getElem → aq9, getElem?_set_self → IN, getElem?_set_ne → AI, set_getElem_self → arE, getElem_of_mem → aq2, append_assoc → aqZ, getElem?_eq_getElem → By, map_cons → aqz, mem_cons_self → aqv, mem_cons_of_mem → aqt, rel_of_pairwise_cons → arl, take_add_one → aqW, filter_append → ash, length_map → aqr, length_filter_le → arF, length_take → aqP, take_of_length_le → ap1, mem_map → aqJ, map_nil → aqK, cons_append → art, nil_append → ars, findIdx?_eq_some_iff_getElem → arw, pairwise_cons → arj, pairwise_map → asl, mem_append → aqC, all_eq_true → aqG, take_length → aqS, drop_length → arG, mem_singleton → aqs, drop_zero → aro, take_take → arR
open Bool renaming true_and → arb, and_eq_true → If, eq_iff_iff → ary
open Nat renaming lt_of_lt_of_le → aqR, le_trans → aqF, le_refl → aft, lt_trichotomy → arv, gcd → aso, min_eq_left → arK
open List.Pairwise renaming of_cons → ar8
open Int renaming tmod_eq_emod_of_nonneg → arA, tdiv_eq_ediv_of_nonneg → asb, ediv_nonneg → ar3, le_trans → asB, ediv_le_self → ar0, mul_nonneg → arH, mul_le_mul → asi, emod_nonneg → aq8, emod_lt_of_pos → aq1, mul_le_mul_of_nonneg_left → aqD, tmod_lt_of_pos → asx, lt_tmod_of_pos → asy, emod_eq_emod_iff_emod_sub_eq_zero → ase, dvd_mul_right → ar9, gcd → arO, lt_or_le → arB, emod_add_mul_ediv → arh, mul_comm → arV, mul_sub → asp, mul_assoc → ar4, mul_left_comm → asz, dvd_sub → arM, dvd_mul_left → asq, dvd_trans → arP, gcd_dvd_left → asr, gcd_dvd_right → asA, gcd_pos_of_ne_zero_left → asa, ediv_mul_cancel → asv, natCast_mul → ar2, mul_le_mul_of_nonneg_right → ass
open Option.some renaming inj → asg
set_option linter.unusedVariables false
set_option linter.constructorNameAsVariable false
set_option linter.unusedSimpArgs false
set_option linter.unusedSectionVars false
set_option linter.unnecessarySimpa false
set_option maxRecDepth 100000
namespace Go.Proofs.YtnaofdffomdmhaaGreat
open Go Km
def bD(n lo hi:Int):Bool:=decide (lo≤n)&&decide (n≤hi)
theorem qS{n lo hi:Int}(h:bD n lo hi=ae):lo≤n∧n≤hi:=by simpa [bD]using h
theorem N6(n lo hi:Int):Kf tab 193 [vi n,vi lo,vi hi] (vb (bD n lo hi)):=by
 refine cF rfl rfl fun H Q b=>?_;apply ak;refine al (.inl rfl) ?_;simp;apply ak;refine al (.inl rfl) ?_;by_cases h:lo≤n
 ·simp [h];refine aB (b _ _ ?_);simp [bD,h]
 ·simp [h];refine aB (b _ _ ?_);simp [bD,h]
@[simp] theorem alM (n lo hi:Int):bh tab 193 [vi n,vi lo,vi hi]=Eq (vb (bD n lo hi)):=(N6 n lo hi).eq
theorem rD(g:Tg)(l:List Int)(v:Int)(b:l.length≤9223372036854775807) :
  Kf tab 272 [.c (.f (sl g (ints l))),vi v] (vb (l.any (· == v))):=
 fN ajr (xJ ajy g l v b)
structure ct where
 cap:Int
 iT:Int
 nU:Int
 (o0 o1 o2 o3 o4 o5 o6 o7 o8 o9:FC)
 qg:Tg
 q:List (Int × Int)
 pg:Tg
 p:List Int
def fR(l:List (Int × Int)):List (List FC):=l.map fun x=>[fi x.1,fi x.2]
@[simp] theorem alK (l:List (Int × Int)):(fR l).length=l.length:=by simp [fR]
theorem tO(l:List (Int × Int)):cq 2 (fR l):=cq.map fun _=>rfl
theorem Au{l:List (Int × Int)}{j:Nat}(b:j<l.length):(fR l)[j]?=aa [fi l[j].1,fi l[j].2]:=by simp [fR,b]
def ct.op(r:ct):List C:=[.f r.o0,.f r.o1,.f r.o2,.f r.o3,.f r.o4,.f r.o5,.f r.o6,.f r.o7,.f r.o8,.f r.o9]
def ct.row(r:ct):List FC:=[fi r.cap,fi r.iT,fi r.nU,r.o0,r.o1,r.o2,r.o3,r.o4,r.o5,r.o6,r.o7,r.o8,r.o9,sl r.qg (fR r.q),sl r.pg (ints r.p)]
def rows(l:List ct):List (List FC):=l.map ct.row
@[simp] theorem anX (l:List ct):(rows l).length=l.length:=by simp [rows]
theorem fS(l:List ct):cq 15 (rows l):=cq.map fun _=>rfl
theorem pw{l:List ct}{j:Nat}(b:j<l.length):(rows l)[j]?=aa l[j].row:=by simp [rows,b]
def j3(r:ct):Prop:=bh tab 190 [.a r.op] (vi 0)
def sJ(r:ct):Bool:=decide (64<(r.q.length:Int))||decide (64<(r.p.length:Int))
def Az(l:List ct)(p:Int):Nat:=((l[p.toNat]?).map (·.p.length)).getD 0
theorem agp{l:List ct}{p:Int}(h0:0≤p)(b:p.toNat<l.length):Az l p=(l[p.toNat]).p.length:=by simp [Az,b]
def jr(b:Int):List (Int × Int)→Bool
 | []=>ae| x::r=>bD x.1 (b+1) 63&&bD x.2 0 10080&&jr x.1 r
def lP(l:List ct)(i b:Int):List Int→Bool
 | []=>ae| p::r=>bD p (b+1) ((l.length:Int)-1)&&!decide (p=i)&&decide (Az l p=0)&&lP l i p r
def eH(l:List ct)(i:Nat)(r:ct):Bool:=
 bD r.cap 1 512&&bD r.iT 0 1440&&bD r.nU 0 1440&&jr (-1) r.q&&lP l i (-1) r.p
def gz(l:List ct):Nat→List ct→Bool
 | _,[]=>ae| i,r::b=>eH l i r&&gz l (i+1) b
def nG(l:List ct):Int:=if l.any sJ then 2 else if gz l 0 l then 0 else 1
theorem ajP(r:ct)(j:j3 r):Kf tab 189 [.a (r.row.map .f)] (vb (sJ r)):=by
 refine cF rfl rfl fun H Q d=>?_;have g:=bh.eq j;simp only [ct.op]at g;apply ak;refine al (.inl rfl) ?_;simp [ct.row];apply ak;refine al (.inl rfl) ?_;simp;refine DN (fun h=>?_) (fun h=>?_)
 ·simp [h];refine DN (fun b=>?_) (fun b=>?_)
  ·simp [b,g];refine aB (d _ _ ?_);simp [sJ,h,b]
  ·simp [b];refine aB (d _ _ ?_);simp [sJ,h,b]
 ·simp [h];refine aB (d _ _ ?_);simp [sJ,h]
theorem Mo(g:Tg)(l:List ct)(q:l.length≤6)(d:∀ r ∈ l,j3 r) :
  Kf tab 191 [.c (.f (sl g (rows l))),.c (.f (.fn 189 []))] (vb (l.any sJ)):=
 fN ajo (jM ajv l ct.row (fun r=>.a (r.row.map .f)) sJ g 189 [] (by omega)
  (fun j b H=>bR (fS l) (pw b)) (fun r m=>ajP r (d r m)))
structure bI where
 hg:Tg
 head:List Int
 fr:Int
 eV:Int
 cg:Tg
 jm:List Int
def bI.row(p:bI):List FC:=[sl p.hg (ints p.head),fi p.fr,fi p.eV,sl p.cg (ints p.jm)]
def aX(l:List bI):List (List FC):=l.map bI.row
@[simp] theorem Aw (l:List bI):(aX l).length=l.length:=by simp [aX]
theorem bY(l:List bI):cq 4 (aX l):=cq.map fun _=>rfl
theorem dH{l:List bI}{j:Nat}(b:j<l.length):(aX l)[j]?=aa l[j].row:=by simp [aX,b]
def en(b d:Int):List Int→Bool
 | []=>ae| n::r=>decide (d<n)&&decide (n<b)&&en b n r
theorem xZ{b d:Int}{l:List Int}{j:Nat}(g:j<l.length):en b d (l.drop j)=(decide (d<l[j])&&decide (l[j]<b)&&en b l[j] (l.drop (j+1))):=by
 rw [apw g];rfl
def fU(p:bI):Bool:=decide (0≤p.fr)&&decide (p.fr≤1099511627776)&&decide (1≤p.eV)&&decide (p.eV≤1099511627776) &&
 decide ((p.head.length:Int)+p.jm.length≤1048576)&&en p.fr (-1) p.head&&en p.eV (-1) p.jm
theorem NT(g:Tg)(l:List Int)(b:Int)(E:l.length≤9223372036854775807):Kf tab 249 [.c (.f (sl g (ints l))),vi b] (vb (en b (-1) l)):=by
 refine cF rfl rfl fun H Q u=>?_;apply ai;simp;apply ai;simp;apply ak;apply ai;simp;refine bM l.length (fun j t H'=>t.g 1=vi b∧t.g 8=.c (.f (sl g (ints l)))∧H=H'∧∃ d,t.g 5=vi d∧en b (-1) l=en b d (l.drop j)) E (by decide) (by decide) (by simp) (by simp) (by simp) ?_ ?_
 ·rintro j t _ z ⟨q,s,rfl,d,x,m⟩ v y next
  rw [xZ z]at m;refine aG ?_;apply ai;simp [v,s,bF,z,iZ];apply ak;apply ai;simp [x,q];by_cases A:l[j]≤d
  ·simp [A];refine aq (by simp) ?_;apply ai;simp;refine aB (u _ _ ?_);simp [m,show¬ d<l[j] by omega]
  simp [A,q];by_cases B:b≤l[j]
  ·simp [B];refine aq (by simp) ?_;apply ai;simp;refine aB (u _ _ ?_);simp [m,show¬ l[j]<b by omega]
  simp [B];refine aC (by simp) ?_;refine aO ?_;refine al (.inl rfl) ?_;simp;refine av (next _ _ ?_ (by simp [v]) (by simp [y]));rw [decide_eq_true (by omega),decide_eq_true (by omega)]at m;exact⟨by simp [q],by simp [s],rfl,l[j],by simp,by simpa using m⟩
 ·rintro t _ ⟨q,s,rfl,d,x,m⟩ v y;apply ai;simp;refine aB (u _ _ ?_);simp [m,en]
theorem wL(g:Tg)(l:List Int)(b:Int)(d:l.length≤9223372036854775807) :
  bh tab 249 [.c (.f (sl g (ints l))),vi b]=Eq (vb (en b (-1) l)):=(NT g l b d).eq
theorem akP(p:bI)(s:p.head.length≤9223372036854775807)(u:p.jm.length≤9223372036854775807)(h:p.head.length+p.jm.length≤9223372036854775807) :
  Kf tab 168 [.a (p.row.map .f)] (vb (fU p)):=by
 refine cF rfl rfl fun H Q b=>?_;apply ai;simp [bI.row];apply ai;simp;by_cases d:0≤p.fr
 case neg=>
  simp [d];refine aB (b _ _ ?_);simp [fU,d]
 simp [d];by_cases g:p.fr≤1099511627776
 case neg=>
  simp [g];refine aB (b _ _ ?_);simp [fU,g]
 simp [g];by_cases j:1≤p.eV
 case neg=>
  simp [j];refine aB (b _ _ ?_);simp [fU,j]
 simp [j];by_cases l:p.eV≤1099511627776
 case neg=>
  simp [l];refine aB (b _ _ ?_);simp [fU,l]
 simp [l,aV (n:=(p.head.length:Int)+p.jm.length)];by_cases m:(p.head.length:Int)+p.jm.length≤1048576
 case neg=>
  simp [m];refine aB (b _ _ ?_);simp [fU,m]
 simp [m,wL p.hg p.head p.fr s];cases q:en p.fr (-1) p.head
 ·simp;refine aB (b _ _ ?_);simp [fU,q]
 simp [wL p.cg p.jm p.eV u];refine aB (b _ _ ?_);simp [fU,d,g,j,l,m,q]
def bI.Sm(p:bI):Prop:=p.head.length+p.jm.length≤9223372036854775807
theorem ZP(p:bI)(h:p.Sm):bh tab 168 [.a (p.row.map .f)]=Eq (vb (fU p)):=by
 have h:p.head.length+p.jm.length≤9223372036854775807:=h;exact(akP p (by omega) (by omega) h).eq
theorem D8{p:bI}(h:fU p=ae):p.Sm:=by
 simp [fU]at h;show p.head.length+p.jm.length≤9223372036854775807;omega
structure dr where
 tg:Tg
 fs:List bI
def dr.row(t:dr):List FC:=[sl t.tg (aX t.fs)]
def aI(l:List dr):List (List FC):=l.map dr.row
@[simp] theorem ahj (l:List dr):(aI l).length=l.length:=by simp [aI]
theorem gM(l:List dr):cq 1 (aI l):=cq.map fun _=>rfl
theorem jv{l:List dr}{j:Nat}(b:j<l.length):(aI l)[j]?=aa l[j].row:=by simp [aI,b]
def dr.Sm(t:dr):Prop:=t.fs.length≤9223372036854775807∧∀ p ∈ t.fs,p.Sm
def ju(t:dr):Bool:=decide (1≤(t.fs.length:Int))&&decide ((t.fs.length:Int)≤4)&&t.fs.all fU
def mN(l:List dr):Bool:=decide ((l.length:Int)≤64)&&l.all ju
theorem Yf{b:Type}{l:List b}{p:b→Bool}{j:Nat}(d:j<l.length):(l.drop j).all p=(p l[j]&&(l.drop (j+1)).all p):=by
 rw [apw d,List.all_cons]
theorem ajN(p:bI)(h:p.Sm):Kf tab 167 [.a (p.row.map .f)] (vb (!fU p)):=by
 refine cF rfl rfl fun H Q d=>?_;have b:=ZP p h;simp [bI.row]at b;apply ai;simp [bI.row];apply ai;simp [b];refine aB (d _ _ ?_);simp
theorem Mn(g:Tg)(l:List bI)(d:l.length≤9223372036854775807)(h:∀ p ∈ l,p.Sm) :
  bh tab 166 [.c (.f (sl g (aX l))),.c (.f (.fn 167 []))]=Eq (vb (l.any fun p=>!fU p)):=
 (fN X4 (jM X5 l bI.row (fun r=>.a (r.row.map .f)) (fun p=>!fU p) g 167 [] d
  (fun j b H=>bR (bY l) (dH b)) (fun p m=>ajN p (h p m)))).eq
theorem Co(g:Tg)(l:List dr)(F:l.length≤9223372036854775807)(h:∀ t ∈ l,t.Sm):Kf tab 98 [.a [.f (sl g (aI l))]] (vb (mN l)):=by
 refine cF rfl rfl fun H Q u=>?_;apply ai;simp;apply ak;apply ai;simp;by_cases z:(64:Int)<l.length
 ·simp [z];refine aq (by simp) ?_;apply ai;simp;refine aB (u _ _ ?_);simp [mN,show¬ (l.length:Int)≤64 by omega]
 simp [z];refine aC (by simp) ?_;refine aO ?_;apply ak;apply ai;simp;refine bM l.length (fun j t H'=>t.g 10=.c (.f (sl g (aI l)))∧(∃ J,H'=H++J)∧l.all ju=(l.drop j).all ju) F (by decide) (by decide) (by simp) (by simp) (by simp) ?_ ?_
 ·rintro j t _ q ⟨d,⟨J,rfl⟩,m⟩ v x next
  rw [Yf q]at m;have y:=h l[j] (anc q);have b:=ij (H:=H++J) (k:=0) (gM l) (jv q) rfl;refine aG ?_;apply ai;simp at b;simp [v,d,bF,q,b];have bad:ju l[j]=ag→∀(t:T) (J:aj) k,WP tab 98 ab (.code (.region [⟨D 2,.aZ (.k (.c (.f (.bool ag)))),ab⟩] [])::.code .ret::k) ⟨t,[],H++J⟩ Q:=by
   intro E t J k;refine al (.inl rfl) ?_;simp;refine aB (u _ _ ?_);simp [mN,m,E]
  apply ai;simp;by_cases A:(l[j].fs.length:Int)<1
  ·simp [A];exact aq (by simp) (ak (bad (by simp [ju,show¬ 1≤(l[j].fs.length:Int) by omega]) _ _ _))
  simp [A];by_cases B:(4:Int)<l[j].fs.length
  ·simp [B];exact aq (by simp) (ak (bad (by simp [ju,show¬ (l[j].fs.length:Int)≤4 by omega]) _ _ _))
  simp [B,Mn l[j].tg l[j].fs y.1 y.2];cases s:l[j].fs.any fun p=>!fU p
  ·have:ju l[j]=ae:=by
    simp [ju]at s ⊢;exact⟨⟨by omega,by omega⟩,s⟩
   refine aC (by simp) ?_;refine aO (av (next _ _ ?_ (by simp [v]) (by simp [x])));rw [this,arb]at m;exact⟨by simp [d],⟨_,rfl⟩,m⟩
  ·exact aq (by simp) (ak (bad (by simp [ju]at s ⊢;intro _ _;exact s) _ _ _))
 ·rintro t _ ⟨d,⟨J,rfl⟩,m⟩ v x;apply ai;simp;refine aB (u _ _ ?_);simp [mN,m,show(l.length:Int)≤64 by omega]
theorem oP(a:Int):bh tab 130 [vi a]=Eq (vb ag):=(show Kf tab 130 [vi a] (vb ag) by
 refine cF rfl rfl fun H Q b=>?_;apply ai;simp;apply ai;simp;refine aB (b _ _ ?_);simp).eq
def dN(a b:Int):Int:=if a<b then -1 else if b<a then 1 else 0
theorem BK(a b:Int):Kf tab 72 [vi a,vi b] (vi (dN a b)):=by
 refine cF rfl rfl fun H Q g=>?_;apply ai;simp;apply ai;simp [oP];apply ai;simp [oP];apply ak;apply ai;simp;refine bp (by simp) ?_;apply ak;apply ai;simp;refine bp (by simp) ?_;apply ak;apply ai;simp;by_cases h:a<b
 ·refine aq (by simp [h]) ?_;apply ai;simp;refine aB (g _ _ ?_);simp [dN,h]
 refine bp (by simp [h]) ?_;apply ak;apply ai;simp;by_cases d:b<a
 ·refine aq (by simp [d]) ?_;apply ai;simp;refine aB (g _ _ ?_);simp [dN,h,d]
 refine bp (by simp [d]) ?_;apply ai;simp;refine aB (g _ _ ?_);simp [dN,h,d]
theorem fL(a b:Int):bh tab 72 [vi a,vi b]=Eq (vi (dN a b)):=(BK a b).eq
def An:List Int→Int
 | []=>0| a::r=>if a=0 then An r else a
theorem ZK{l:List Int}{j:Nat}(b:j<l.length):An (l.drop j)=if l[j]=0 then An (l.drop (j+1))else l[j]:=by
 rw [apw b];rfl
theorem anN(g:Tg)(l:List Int)(x:l.length≤9223372036854775807):Kf tab 76 [.c (.f (sl g (ints l)))] (vi (An l)):=by
 refine cF rfl rfl fun H Q s=>?_;apply ai;simp;apply ai;simp;apply ak;apply ai;simp;refine bM l.length (fun j t H'=>t.g 3=vi 0∧t.g 6=.c (.f (sl g (ints l)))∧H=H'∧An l=An (l.drop j)) x (by decide) (by decide) (by simp) (by simp) (by simp) ?_ ?_
 ·rintro j t _ v ⟨d,m,rfl,b⟩ q u next
  rw [ZK v]at b;refine aG ?_;apply ai;simp [q,m,bF,v,iZ];apply ai;simp [d];by_cases h:l[j]=0
  ·refine aC (by simp [h]) ?_;refine aO (av (next _ _ ?_ (by simp [q]) (by simp [u])));rw [ba h]at b;exact⟨by simp [d],by simp [m],rfl,b⟩
  ·refine aq (by simp [h]) ?_;apply ai;simp;refine aB (s _ _ ?_);simp [b,h]
 ·rintro t _ ⟨d,m,rfl,b⟩ q u;apply ai;simp [d];refine aB (s _ _ ?_);simp [b,An]
theorem wG(g:Tg)(l:List Int)(b:l.length≤9223372036854775807):bh tab 76 [.c (.f (sl g (ints l)))]=Eq (vi (An l)):=(anN g l b).eq
theorem aj1(n lo hi:Int):Kf tab 97 [vi n,vi lo,vi hi] (vb (bD n lo hi)):=by
 refine cF rfl rfl fun H Q b=>?_;apply ai;simp;apply ai;by_cases h:lo≤n
 ·simp [h];refine aB (b _ _ ?_);simp [bD,h]
 ·simp [h];refine aB (b _ _ ?_);simp [bD,h]
@[simp] theorem ape (n lo hi:Int):bh tab 97 [vi n,vi lo,vi hi]=Eq (vb (bD n lo hi)):=(aj1 n lo hi).eq
structure aN where
 day:Int
 fr:Int
 to:Int
deriving DecidableEq
def aN.row(x:aN):List FC:=[fi x.day,fi x.fr,fi x.to]
def aH(l:List aN):List (List FC):=l.map aN.row
@[simp] theorem iE (l:List aN):(aH l).length=l.length:=by simp [aH]
theorem bw(l:List aN):cq 3 (aH l):=cq.map fun _=>rfl
theorem fQ{l:List aN}{j:Nat}(b:j<l.length):(aH l)[j]?=aa l[j].row:=by simp [aH,b]
def gi(x y:aN):Int:=An [dN x.fr y.fr,dN x.day y.day,dN x.to y.to]
theorem ZM(x y:aN):Kf tab 99 [.a (x.row.map .f),.a (y.row.map .f)] (vi (gi x y)):=by
 refine cF rfl rfl fun H Q d=>?_;have b:=wG .fs [dN x.fr y.fr,dN x.day y.day,dN x.to y.to] (by simp);simp [ints,sl,Tg.fc]at b;apply ai;simp [aN.row];apply ai;simp [fL,deep,kI,oY,b];refine aB (d _ _ ?_);simp [gi]
theorem tL(x y:aN):bh tab 99 [.a (x.row.map .f),.a (y.row.map .f)]=Eq (vi (gi x y)):=(ZM x y).eq
theorem Zy(g:Tg)(l:List dr)(b:l.length≤9223372036854775807)(h:∀ t ∈ l,t.Sm):bh tab 98 [.a [.f (sl g (aI l))]]=Eq (vb (mN l)):=(Co g l b h).eq
structure cA where
 mg:Tg
 ts:List dr
 min:Int
def cA.row(c:cA):List FC:=[sl c.mg (aI c.ts),fi c.min]
def aL(l:List cA):List (List FC):=l.map cA.row
@[simp] theorem uO (l:List cA):(aL l).length=l.length:=by simp [aL]
theorem cP(l:List cA):cq 2 (aL l):=cq.map fun _=>rfl
theorem dP{l:List cA}{j:Nat}(b:j<l.length):(aL l)[j]?=aa l[j].row:=by simp [aL,b]
structure aR where
 cg:Tg
 cs:List cA
 len:Int
 xg:Tg
 xs:List aN
def aR.row(s:aR):List FC:=[sl s.cg (aL s.cs),fi s.len,sl s.xg (aH s.xs)]
def aR.Sm(s:aR):Prop:=s.cs.length≤9223372036854775807∧s.xs.length≤9223372036854775807∧∀ c ∈ s.cs,c.ts.length≤9223372036854775807∧∀ t ∈ c.ts,t.Sm
def ey:Option Int→List cA→Bool
 | _,[]=>ae| prev,c::r=>mN c.ts&&bD c.min (-4320) 4320&&(prev.all fun m=>decide (m<c.min))&&ey (aa c.min) r
def om(x:aN):Bool:=bD x.day 0 1099511627776&&bD x.fr (-2251799813685248) 1583296743997439&&bD x.to (x.fr+1) (x.fr+10080)
def ic:Option aN→List aN→Bool
 | _,[]=>ae| prev,x::r=>om x&&(prev.all fun m=>decide (gi m x<0))&&ic (aa x) r
def dW(s:aR):Bool:=decide ((s.cs.length:Int)≤64)&&bD s.len 1 10080&&decide ((s.xs.length:Int)≤4096)&&ey ab s.cs&&ic ab s.xs
theorem uP{p:Option Int}{l:List cA}{j:Nat}(b:j<l.length):ey p (l.drop j)=(mN l[j].ts&&bD l[j].min (-4320) 4320&&(p.all fun m=>decide (m<l[j].min))&&ey (aa l[j].min) (l.drop (j+1))):=by
 rw [apw b];rfl
theorem zJ{p:Option aN}{l:List aN}{j:Nat}(b:j<l.length):ic p (l.drop j)=(om l[j]&&(p.all fun m=>decide (gi m l[j]<0))&&ic (aa l[j]) (l.drop (j+1))):=by
 rw [apw b];rfl
theorem iR(s:aR)(h:s.Sm):Kf tab 53 [.a (s.row.map .f)] (vb (dW s)):=by
 obtain⟨hc,hx,S⟩:=h;refine cF rfl rfl fun H Q hQ=>?_;have bad:dW s=ag→∀(t:T) (J:aj) k,WP tab 53 ab (.code (.region [⟨D 2,.aZ (.k (.c (.f (.bool ag)))),ab⟩] [])::.code .ret::k) ⟨t,[],H++J⟩ Q:=by
  intro hf t J k;refine al (.inl rfl) ?_;simp;refine aB (hQ _ _ ?_);simp [hf]
 apply ai;simp [aR.row];apply ak;apply ai;simp;by_cases k1:(64:Int)<s.cs.length
 ·simp [k1];exact aq (by simp) (ak (bad (by simp [dW,show¬ (s.cs.length:Int)≤64 by omega]) _ _ _))
 simp [k1];cases k2:bD s.len 1 10080
 ·simp;exact aq (by simp) (ak (bad (by simp [dW,k2]) _ _ _))
 simp;by_cases k3:(4096:Int)<s.xs.length
 ·simp [k3];exact aq (by simp) (ak (bad (by simp [dW,show¬ (s.xs.length:Int)≤4096 by omega]) _ _ _))
 simp [k3];have hS:dW s=(ey ab s.cs&&ic ab s.xs):=by simp [dW,k2,show(s.cs.length:Int)≤64 by omega,show(s.xs.length:Int)≤4096 by omega]
 rw [hS]at bad;refine aC (by simp) ?_;refine aO ?_;apply ak;apply ai;simp;obtain⟨l,v⟩:=aK ([C.f (sl s.cg (aL s.cs)),C.f (fi s.len),C.f (sl s.xg (aH s.xs))]);rw [←v];have a7:l.drop 0=[C.f (sl s.cg (aL s.cs)),C.f (fi s.len),C.f (sl s.xg (aH s.xs))]:=by rw [v];rfl
 have O:l.drop 2=[C.f (sl s.xg (aH s.xs))]:=by rw [v];rfl
 have M:l=C.f (sl s.cg (aL s.cs))::[C.f (fi s.len),C.f (sl s.xg (aH s.xs))]:=v;refine bM s.cs.length (fun j t H'=>t.g 1=.c (.ptr H.length 0 0)∧t.g 25=.c (.f (sl s.cg (aL s.cs)))∧(∃ J,H'=H++(.box l 0::J)) ∧
  ∃ d,(∀ m,j=m+1→∀ h:m<s.cs.length,d=aa (s.cs[m]'h).min)∧(j=0→d=ab)∧ey ab s.cs=ey d (s.cs.drop j)) hc (by decide) (by decide) (by simp) (by simp)
   ⟨by simp,by simp,⟨[],by simp⟩,ab,by omega,by simp,by simp⟩ ?_ ?_
 ·rintro j t _ F ⟨x,A,⟨J,rfl⟩,d,X,Y,u⟩ E K next
  rw [uP F]at u;have L:=bR (H:=H++(.box l 0::J)) (cP s.cs) (dP F);have z:=Zy s.cs[j].mg s.cs[j].ts (S _ (anc F)).1 (S _ (anc F)).2;refine aG ?_;apply ai;simp [E,A,bF,F,L,cA.row];apply ai;simp [z];cases U:mN s.cs[j].ts
  ·simp;exact aq (by simp) (ak (bad (by simp [u,U]) _ _ _))
  simp;cases N:bD s.cs[j].min (-4320) 4320
  ·simp;exact aq (by simp) (ak (bad (by simp [u,N]) _ _ _))
  simp;have go:(d.all fun m=>decide (m<s.cs[j].min))=ae→∃ g,(∀ m,j+1=m+1→∀ h:m<s.cs.length,g=aa (s.cs[m]'h).min)∧(j+1=0→g=ab)∧ey ab s.cs=ey g (s.cs.drop (j+1)):=by
   intro hp;rw [U,N,hp,arb,arb,arb]at u;refine⟨aa s.cs[j].min,fun m z h=>?_,by omega,u⟩;have:m=j:=by omega
   subst this;rfl
  cases j with
  | zero=>
   simp;refine aC (by simp) ?_;refine aO (av (next _ _ ?_ (by simp [E]) (by simp [K])));exact⟨by simp [x],by simp [A],⟨_,rfl⟩,go (by rw [Y rfl];rfl)⟩
  | succ m=>
   have z:m<s.cs.length:=by omega
   have y:=X m rfl z;have e1:((m+1:Nat):Int)-1=m:=by omega
   have q:=ij (H:=H++(bo.box l 0 ::(J++[bo.box [C.f (sl s.cs[m+1].mg (aI s.cs[m+1].ts)),C.f (fi s.cs[m+1].min)] 0]))) (k:=1) (cP s.cs) (dP z) rfl;rw [M]at q;simp [show 0<m+1 by omega,x,M,aV (n:=(m:Int)),bF,z,q];by_cases W:s.cs[m+1].min≤s.cs[m].min
   ·simp [W];have b:=bad (by simp [u,y,show¬ s.cs[m].min<s.cs[m+1].min by omega]);refine aq (by simp) ?_;exact ak (b _ _ _)
   ·simp [W];refine aC (by simp) ?_;refine aO (av (next _ _ ?_ (by simp [E]) (by simp [K])));exact⟨by simp [x],by simp [A],⟨_,by rw [M]⟩,go (by rw [y];simp;omega)⟩
 ·rintro t _ ⟨x,A,⟨J,rfl⟩,d,X,Y,u⟩ E K;have hC:ey ab s.cs=ae:=by rw [u];simp [ey]
  rw [hC,arb]at bad hS;apply ak;apply ai;simp [x,O];refine bM s.xs.length (fun j t H'=>t.g 1=.c (.ptr H.length 0 0)∧t.g 60=.c (.f (sl s.xg (aH s.xs)))∧(∃ J,H'=H++(.box l 0::J)) ∧
   ∃ d,(∀ m,j=m+1→∀ h:m<s.xs.length,d=aa (s.xs[m]'h))∧(j=0→d=ab)∧ic ab s.xs=ic d (s.xs.drop j)) hx (by decide) (by decide) (by simp) (by simp)
    ⟨by simp [x],by simp,⟨J,by simp⟩,ab,by omega,by simp,by simp⟩ ?_ ?_
  ·rintro j t _ F ⟨x,B,⟨J,rfl⟩,d,X,Y,u⟩ E K next
   rw [zJ F]at u;have L:=bR (H:=H++(.box l 0::J)) (bw s.xs) (fQ F);refine aG ?_;apply ai;simp [E,B,bF,F,L,aN.row];have off:om s.xs[j]=ag→∀(t:T) (J:aj) k,t.g 7=vb ag→WP tab 53 ab (.code Dm::k) ⟨t,[],H++J⟩ Q:=by
    intro hf t J k g7;apply ai;simp [g7];exact aq (by simp) (ak (bad (by simp [u,hf]) _ _ _))
   have go:om s.xs[j]=ae→(d.all fun m=>decide (gi m s.xs[j]<0))=ae→∃ g,(∀ m,j+1=m+1→∀ h:m<s.xs.length,g=aa (s.xs[m]'h))∧(j+1=0→g=ab)∧ic ab s.xs=ic g (s.xs.drop (j+1)):=by
    intro Z hp;rw [Z,hp,arb,arb]at u;refine⟨aa s.xs[j],fun m z h=>?_,by omega,u⟩;have:m=j:=by omega
    subst this;rfl
   apply ai;simp;cases U:bD s.xs[j].day 0 1099511627776
   ·simp;exact off (by simp [om,U]) _ _ _ (by simp)
   simp;cases N:bD s.xs[j].fr (-2251799813685248) 1583296743997439
   ·simp;exact off (by simp [om,N]) _ _ _ (by simp)
   have w5:=qS N;simp [aV (n:=s.xs[j].fr+1),aV (n:=s.xs[j].fr+10080)];cases W:bD s.xs[j].to (s.xs[j].fr+1) (s.xs[j].fr+10080)
   ·exact off (by simp [om,W]) _ _ _ (by simp)
   have Z:om s.xs[j]=ae:=by simp [om,U,N,W]
   apply ai;simp;cases j with
   | zero=>
    simp;refine aC (by simp) ?_;refine aO (av (next _ _ ?_ (by simp [E]) (by simp [K])));exact⟨by simp [x],by simp [B],⟨_,rfl⟩,go Z (by rw [Y rfl];rfl)⟩
   | succ m=>
    have z:m<s.xs.length:=by omega
    have y:=X m rfl z;have e1:((m+1:Nat):Int)-1=m:=by omega
    have q:=bR (H:=H++(.box l 0 ::(J++[bo.box [C.f (fi s.xs[m+1].day),C.f (fi s.xs[m+1].fr),C.f (fi s.xs[m+1].to)] 0]))) (bw s.xs) (fQ z);have I:=tL s.xs[m] s.xs[m+1];simp [aN.row]at I q;simp [show 0<m+1 by omega,x,O,aV (n:=(m:Int)),bF,z,q,I];by_cases k7:0≤gi s.xs[m] s.xs[m+1]
    ·simp [k7];have b:=bad (by simp [u,y,show¬ gi s.xs[m] s.xs[m+1]<0 by omega]);refine aq (by simp) ?_;exact ak (b _ _ _)
    ·simp [k7];refine aC (by simp) ?_;refine aO (av (next _ _ ?_ (by simp [E]) (by simp [K])));exact⟨by simp [x],by simp [B],⟨_,rfl⟩,go Z (by rw [y];simp;omega)⟩
  ·rintro t _ ⟨x,B,⟨J,rfl⟩,d,X,Y,u⟩ E K;have hX:ic ab s.xs=ae:=by rw [u];simp [ic]
   apply ai;simp;refine aB (hQ _ _ ?_);simp [hS,hX]
theorem xY{b:Int}{q:List (Int × Int)}{j:Nat}(d:j<q.length):jr b (q.drop j)=(bD q[j].1 (b+1) 63&&bD q[j].2 0 10080&&jr q[j].1 (q.drop (j+1))):=by
 rw [apw d];rfl
theorem Av{l:List ct}{i b:Int}{p:List Int}{j:Nat}(d:j<p.length) :
  lP l i b (p.drop j)=(bD p[j] (b+1) ((l.length:Int)-1)&&!decide (p[j]=i)&&decide (Az l p[j]=0)&&lP l i p[j] (p.drop (j+1))):=by
 rw [apw d];rfl
theorem NL(g:Tg)(l:List ct)(i:Nat)(hi:i<l.length)(hl:l.length≤6)(ho:∀ r ∈ l,j3 r)(hq:l[i].q.length≤64)(hp:l[i].p.length≤64) :
  Kf tab 192 [.c (.f (sl g (rows l))),vi i] (vb (eH l i l[i])):=by
 refine cF rfl rfl fun H Q m=>?_;obtain⟨r,hr⟩:=aK (l[i]);have X:=bh.eq (ho _ (anc hi));rw [←hr]at X hq hp m;simp only [ct.op]at X;have K:=bR (H:=H) (fS l) (pw hi);rw [←hr]at K;apply ak;refine al (.inl rfl) ?_;simp;apply ak;refine al (.inl rfl) ?_;simp [bF,hi,K,ct.row];apply ak;apply ak;refine al (.inl rfl) ?_;simp;cases h1:bD r.cap 1 512
 case false=>
  simp;refine aq (by simp) ?_;apply ai;simp;refine aB (m _ _ ?_);simp [eH,h1]
 simp;cases h2:bD r.iT 0 1440
 case false=>
  simp;refine aq (by simp) ?_;apply ai;simp;refine aB (m _ _ ?_);simp [eH,h2]
 simp;cases h3:bD r.nU 0 1440
 case false=>
  simp;refine aq (by simp) ?_;apply ai;simp;refine aB (m _ _ ?_);simp [eH,h3]
 simp [X];refine aC (by simp) ?_;refine aO ?_;apply ai;simp;apply ak;apply ak;refine al (.inl rfl) ?_;simp;obtain⟨F,q⟩:=aK ([C.f (fi r.cap),C.f (fi r.iT),C.f (fi r.nU),C.f r.o0,C.f r.o1,C.f r.o2,C.f r.o3,C.f r.o4,C.f r.o5,C.f r.o6,C.f r.o7,C.f r.o8,C.f r.o9,C.f (sl r.qg (fR r.q)),C.f (sl r.pg (ints r.p))]);rw [←q];have M:F.drop 14=[C.f (sl r.pg (ints r.p))]:=by rw [q];rfl
 refine bM r.q.length (fun j t H'=>t.g 0=.c (.f (sl g (rows l)))∧t.g 1=vi i∧t.g 5=.c (.ptr H.length 0 0)∧t.g 38=.c (.f (sl r.qg (fR r.q)))∧(∃ J,H'=H++(.box F 0::J)) ∧
  ∃ b,t.g 6=vi b∧-1≤b∧b≤63∧jr (-1) r.q=jr b (r.q.drop j)) (by omega) (by decide) (by decide) (by simp) (by simp) (by simp) ?_ ?_
 ·rintro j t _ E ⟨h0,s,O,u,⟨J,rfl⟩,b,B,Y,Z,d⟩ A I next
  rw [xY E]at d;refine aG ?_;apply ai;simp [A,u,bF,E,bR (tO r.q) (Au E)];apply ak;apply ai;simp [B,aV (n:=b+1)];cases x:bD r.q[j].1 (b+1) 63
  case false=>
   simp;refine aq (by simp) ?_;apply ai;simp;refine aB (m _ _ ?_);simp [eH,d,x]
  simp;cases y:bD r.q[j].2 0 10080
  case false=>
   simp;refine aq (by simp) ?_;apply ai;simp;refine aB (m _ _ ?_);simp [eH,d,y]
  simp;refine aC (by simp) ?_;refine aO ?_;refine al (.inl rfl) ?_;simp [B];refine av (next _ _ ?_ (by simp [A]) (by simp [I]));have hw:=qS x;simp [x,y]at d;exact⟨by simp [h0],by simp [s],by simp [O],by simp [u],⟨_,rfl⟩,r.q[j].1,by simp,by omega,by omega,d⟩
 ·rintro t _ ⟨h0,s,O,u,⟨J,rfl⟩,b,B,Y,Z,d⟩ A I;have W:jr (-1) r.q=ae:=by rw [d];simp [jr]
  apply ai;simp;apply ak;apply ak;refine al (.inl rfl) ?_;simp [O,M];refine bM r.p.length (fun j t H'=>t.g 0=.c (.f (sl g (rows l)))∧t.g 1=vi i∧t.g 60=.c (.f (sl r.pg (ints r.p)))∧(∃ J,H'=H++J) ∧
   ∃ b,t.g 6=vi b∧-1≤b∧b≤6∧lP l i (-1) r.p=lP l i b (r.p.drop j)) (by omega) (by decide) (by decide) (by simp) (by simp) (by simp [h0,s]) ?_ ?_
  ·rintro j t _ E ⟨h0,s,v,⟨J,rfl⟩,b,B,Y,Z,d⟩ A I next
   rw [Av E]at d;refine aG ?_;apply ai;simp [A,v,bF,E,iZ];apply ak;apply ai;simp [B,h0,aV (n:=b+1),aV (n:=(l.length:Int)-1)];cases x:bD r.p[j] (b+1) ((l.length:Int)-1)
   case false=>
    simp;refine aq (by simp) ?_;apply ai;simp;refine aB (m _ _ ?_);simp [eH,d,x]
   have hw:=qS x;simp [s];by_cases y:r.p[j]=i
   ·simp [y];refine aq (by simp) ?_;apply ai;simp;refine aB (m _ _ ?_);simp [eH,d,y]
   have hk:r.p[j].toNat<l.length:=by omega
   have N:=ij (H:=H++J) (k:=14) (fS l) (pw hk) rfl;simp [y,h0,bF (g:=g) (rows:=rows l) (sz:=15) (k:=.i64) (i:=r.p[j]) (by omega) (by simp;omega),N];have L:=agp (l:=l) (p:=r.p[j]) (by omega) hk;by_cases S:Az l r.p[j]=0
   ·have z:l[r.p[j].toNat].p=[]:=List.eq_nil_of_length_eq_zero (by rw [←L];exact S);simp [z];refine aC (by simp) ?_;refine aO ?_;refine al (.inl rfl) ?_;simp;refine av (next _ _ ?_ (by simp [A]) (by simp [I]));simp [x,y,S]at d;exact⟨by simp [h0],by simp [s],by simp [v],⟨_,rfl⟩,r.p[j],by simp,by omega,by omega,d⟩
   ·have z:0<l[r.p[j].toNat].p.length:=by rw [←L];omega
    simp [z];refine aq (by simp) ?_;apply ai;simp;refine aB (m _ _ ?_);simp [eH,d,S]
  ·rintro t _ ⟨h0,s,v,⟨J,rfl⟩,b,B,Y,Z,d⟩ A I;have U:lP l i (-1) r.p=ae:=by rw [d];simp [lP]
   apply ai;simp;refine aB (m _ _ ?_);simp [eH,h1,h2,h3,W,U]
theorem NM(g:Tg)(l:List ct)(i:Nat)(hi:i<l.length)(b:l.length≤6)(d:∀ r ∈ l,j3 r)(m:l[i].q.length≤64)(j:l[i].p.length≤64) :
  bh tab 192 [.c (.f (sl g (rows l))),vi i]=Eq (vb (eH l i l[i])):=(NL g l i hi b d m j).eq
theorem Mp(g:Tg)(l:List ct)(b:l.length≤6)(d:∀ r ∈ l,j3 r) :
  bh tab 191 [.c (.f (sl g (rows l))),.c (.f (.fn 189 []))]=Eq (vb (l.any sJ)):=(Mo g l b d).eq
theorem sF{l:List ct}{j:Nat}(b:j<l.length):gz l j (l.drop j)=(eH l j l[j]&&gz l (j+1) (l.drop (j+1))):=by
 rw [apw b];rfl
theorem aaQ(g:Tg)(l:List ct)(y:l.length≤6)(z:∀ r ∈ l,j3 r):Kf tab 113 [.c (.f (sl g (rows l)))] (vi (nG l)):=by
 refine cF rfl rfl fun H Q s=>?_;apply ai;simp;apply ai;simp;apply ak;apply ai;have d:¬ (256:Int)<l.length:=by omega
 simp [d,Mp g l y z];cases q:l.any sJ
 case true=>
  refine aq (by simp) ?_;apply ai;simp;refine aB (s _ _ ?_);simp [nG,q]
 refine aC (by simp) ?_;refine aO ?_;apply ak;apply ai;simp;refine bM l.length (fun j t H'=>t.g 0=.c (.f (sl g (rows l)))∧(∃ J,H'=H++J)∧gz l 0 l=gz l j (l.drop j)) (by omega) (by decide) (by decide) (by simp) (by simp) (by simp) ?_ ?_
 ·rintro j t _ v ⟨h0,⟨J,rfl⟩,b⟩ u m next
  rw [sF v]at b;have x:sJ l[j]=ag:=by
   have:=List.any_eq_false.1 q l[j] (anc v);simpa using this
  simp only [sJ,Bool.or_eq_false_iff,decide_eq_false_iff_not]at x;refine aG ?_;apply ai;simp [u];apply ai;simp [h0,NM g l j v y z (by omega) (by omega)];cases A:eH l j l[j]
  ·refine aq (by simp) ?_;apply ai;simp;refine aB (s _ _ ?_);simp [nG,q,b,A]
  ·refine aC (by simp) ?_;refine aO (av (next _ _ ?_ (by simp [u]) (by simp [m])));simp [A]at b;exact⟨by simp [h0],⟨_,rfl⟩,b⟩
 ·rintro t _ ⟨h0,⟨J,rfl⟩,b⟩ u m;apply ai;simp;refine aB (s _ _ ?_);simp [nG,q,b,gz]
theorem aaR(g:Tg)(l:List ct)(b:l.length≤6)(d:∀ r ∈ l,j3 r):bh tab 113 [.c (.f (sl g (rows l)))]=Eq (vi (nG l)):=(aaQ g l b d).eq
theorem ib(g:Tg)(l:List Int)(v:Int)(b:l.length≤9223372036854775807) :
  bh tab 272 [.c (.f (sl g (ints l))),vi v]=Eq (vb (l.any (· == v))):=(rD g l v b).eq
theorem Mz(g:Tg)(q:List Int)(x:Int)(d:q.length≤9223372036854775807):Kf tab 274 [vi x,.c (.f (.fp [sl g (ints q)] 0))] (vb (q.any (· == x))):=by
 refine cF rfl rfl fun H Q b=>?_;apply ai;simp;apply ai;simp [mW,ib g q x d];refine aB (b _ _ ?_);simp
theorem xl(g g':Tg)(p q:List Int)(d:p.length≤9223372036854775807)(l:q.length≤9223372036854775807) :
  bh tab 273 [.c (.f (sl g (ints p))),.c (.f (.fn 274 [.fp [sl g' (ints q)] 0]))]=Eq (vb (p.any fun x=>q.any (· == x))):=
 (fN ajq (jM ajx p (fun n=>[fi n]) vi (fun x=>q.any (· == x)) g 274 [.fp [sl g' (ints q)] 0] d
  (fun j b H=>by have:=iZ (H:=H) b;simpa [ints]using this) (fun x _=>by have:=Mz g' q x l;simpa using this))).eq
def kv(a b:Nat)(ra d:ct):Bool:=decide (a=b)||ra.p.any (· ==(b:Int))||d.p.any (· ==(a:Int))||ra.p.any fun x=>d.p.any (· == x)
theorem NW(g:Tg)(l:List ct)(a b:Nat)(s:a<l.length)(u:b<l.length)(y:l[a].p.length≤64)(z:l[b].p.length≤64) :
  Kf tab 200 [.c (.f (sl g (rows l))),vi a,vi b] (vb (kv a b l[a] l[b])):=by
 refine cF rfl rfl fun H Q j=>?_;have v:=ij (H:=H) (k:=14) (fS l) (pw s) rfl;have x:=ij (H:=H) (k:=14) (fS l) (pw u) rfl;apply ai;simp;apply ai;simp [bF,s,u,v,x];apply ai;simp;by_cases d:a=b
 ·simp [d];refine aB (j _ _ ?_);simp [kv,d]
 simp [d,ib _ l[a].p _ (by omega)];cases m:l[a].p.any (· ==(b:Int))
 case true=>
  simp;refine aB (j _ _ ?_);simp [kv,m]
 simp [ib _ l[b].p _ (by omega)];cases q:l[b].p.any (· ==(a:Int))
 case true=>
  simp;refine aB (j _ _ ?_);simp [kv,q]
 simp [deep,ZA,Cq,xl l[a].pg l[b].pg l[a].p l[b].p (by omega) (by omega)];refine aB (j _ _ ?_);simp [kv,d,m,q]
theorem wS(s:aR)(h:s.Sm):bh tab 53 [.a (s.row.map .f)]=Eq (vb (dW s)):=(iR s h).eq
structure aA where
 meet:Int
 room:Int
 eg:Int
 size:Int
 st:aR
def aA.row(s:aA):List FC:=[fi s.meet,fi s.room,fi s.eg,fi s.size,sl s.st.cg (aL s.st.cs),fi s.st.len,sl s.st.xg (aH s.st.xs)]
def aD(l:List aA):List (List FC):=l.map aA.row
@[simp] theorem aa0 (l:List aA):(aD l).length=l.length:=by simp [aD]
theorem bt(l:List aA):cq 7 (aD l):=cq.map fun _=>rfl
theorem et{l:List aA}{j:Nat}(b:j<l.length):(aD l)[j]?=aa l[j].row:=by simp [aD,b]
def oa(x y:aA):Int:=An [dN x.meet y.meet,dN x.room y.room]
def im(n:Nat)(s:aA):Bool:=decide (1≤s.meet)&&bD s.room 0 ((n:Int)-1)&&bD s.eg 0 63&&bD s.size 1 512&&dW s.st
def gk(n:Nat):Option aA→List aA→Bool
 | _,[]=>ae| prev,s::r=>im n s&&(prev.all fun m=>decide (oa m s<0))&&gk n (aa s) r
theorem yk{n:Nat}{p:Option aA}{l:List aA}{j:Nat}(b:j<l.length):gk n p (l.drop j)=(im n l[j]&&(p.all fun m=>decide (oa m l[j]<0))&&gk n (aa l[j]) (l.drop (j+1))):=by
 rw [apw b];rfl
def re(b:List ct)(l:List aA):Bool:=decide (nG b=0)&&decide ((l.length:Int)≤4096)&&gk b.length ab l
theorem Dy(x y:aA):Kf tab 115 [.a (x.row.map .f),.a (y.row.map .f)] (vi (oa x y)):=by
 refine cF rfl rfl fun H Q d=>?_;have b:=wG .fs [dN x.meet y.meet,dN x.room y.room] (by simp);simp [ints,sl,Tg.fc]at b;apply ai;simp [aA.row];apply ai;simp [fL,deep,kI,oY,b];refine aB (d _ _ ?_);simp [oa]
theorem afs(x y:aA):bh tab 115 [.a (x.row.map .f),.a (y.row.map .f)]=Eq (vi (oa x y)):=(Dy x y).eq
theorem AW(g:Tg)(d:List ct)(s:aA)(v:d.length≤6)(h:s.st.Sm):Kf tab 114 [.c (.f (sl g (rows d))),.a (s.row.map .f)] (vb (im d.length s)):=by
 refine cF rfl rfl fun H Q b=>?_;have l:=wS s.st h;simp [aR.row]at l;apply ai;simp [aA.row];apply ai;simp;by_cases j:1≤s.meet
 case neg=>
  simp [j];refine aB (b _ _ ?_);simp [im,j]
 simp [j,aV (n:=(d.length:Int)-1)];cases m:bD s.room 0 ((d.length:Int)-1)
 ·simp;refine aB (b _ _ ?_);simp [im,m]
 simp;cases q:bD s.eg 0 63
 ·simp;refine aB (b _ _ ?_);simp [im,q]
 simp;cases u:bD s.size 1 512
 ·simp;refine aB (b _ _ ?_);simp [im,u]
 simp [l];refine aB (b _ _ ?_);simp [im,j,m,q,u]
theorem aaA(g:Tg)(b:List ct)(s:aA)(d:b.length≤6)(h:s.st.Sm):bh tab 114 [.c (.f (sl g (rows b))),.a (s.row.map .f)]=Eq (vb (im b.length s)):=(AW g b s d h).eq
theorem af_(g g':Tg)(q:List ct)(l:List aA)(U:q.length≤6)(ho:∀ r ∈ q,j3 r)(hl:l.length≤9223372036854775807)(h:∀ s ∈ l,s.st.Sm) :
  Kf tab 59 [.c (.f (sl g (rows q))),.c (.f (sl g' (aD l)))] (vb (re q l)):=by
 refine cF rfl rfl fun H Q O=>?_;have bad:re q l=ag→∀(t:T) (J:aj) k,WP tab 59 ab (.code (.region [⟨D 4,.aZ (.k (.c (.f (.bool ag)))),ab⟩] [])::.code .ret::k) ⟨t,[],H++J⟩ Q:=by
  intro hf t J k;refine al (.inl rfl) ?_;simp;refine aB (O _ _ ?_);simp [hf]
 apply ai;simp;apply ak;apply ai;simp [aaR g q U ho];by_cases L:nG q=0
 case neg=>
  simp [L];have b:=fun t k=>bad (by simp [re,L]) t [] k;simp only [aq6]at b;refine aq (by simp) ?_;exact ak (b _ _)
 simp [L];by_cases W:(4096:Int)<l.length
 ·simp [W];have b:=fun t k=>bad (by simp [re,show¬ (l.length:Int)≤4096 by omega]) t [] k;simp only [aq6]at b;refine aq (by simp) ?_;exact ak (b _ _)
 simp [W];have S:re q l=gk q.length ab l:=by simp [re,L,show(l.length:Int)≤4096 by omega]
 rw [S]at bad;refine aC (by simp) ?_;refine aO ?_;apply ak;apply ai;simp;refine bM l.length (fun j t H'=>t.g 0=.c (.f (sl g (rows q)))∧t.g 1=.c (.f (sl g' (aD l)))∧t.g 15=.c (.f (sl g' (aD l)))∧(∃ J,H'=H++J) ∧
  ∃ d,(∀ m,j=m+1→∀ h:m<l.length,d=aa (l[m]'h))∧(j=0→d=ab)∧gk q.length ab l=gk q.length d (l.drop j)) hl (by decide) (by decide) (by simp) (by simp)
   ⟨by simp,by simp,by simp,⟨[],by simp⟩,ab,by omega,by simp,by simp⟩ ?_ ?_
 ·rintro j t _ I ⟨g0,E,v,⟨J,rfl⟩,d,Z,l2,z⟩ F M next
  rw [yk I]at z;have N:=bR (H:=H++J) (bt l) (et I);have B:=aaA g q l[j] U (h _ (anc I));simp [aA.row]at B;refine aG ?_;apply ai;simp [F,v,bF,I,N,aA.row];apply ai;simp [g0,B];cases X:im q.length l[j]
  ·simp;exact aq (by simp) (ak (bad (by simp [z,X]) _ _ _))
  simp;have go:(d.all fun m=>decide (oa m l[j]<0))=ae→∃ u,(∀ m,j+1=m+1→∀ h:m<l.length,u=aa (l[m]'h))∧(j+1=0→u=ab)∧gk q.length ab l=gk q.length u (l.drop (j+1)):=by
   intro hp;rw [X,hp,arb,arb]at z;refine⟨aa l[j],fun m K h=>?_,by omega,z⟩;have:m=j:=by omega
   subst this;rfl
  cases j with
  | zero=>
   simp;refine aC (by simp) ?_;refine aO (av (next _ _ ?_ (by simp [F]) (by simp [M])));exact⟨by simp [g0],by simp [E],by simp [v],⟨_,rfl⟩,go (by rw [l2 rfl];rfl)⟩
  | succ m=>
   have K:m<l.length:=by omega
   have A:=Z m rfl K;have e1:((m+1:Nat):Int)-1=m:=by omega
   have y:=fun H:aj=>bR (H:=H) (bt l) (et K);have x:=afs l[m] l[m+1];simp [aA.row]at x y;simp [show 0<m+1 by omega,E,aV (n:=(m:Int)),bF,K,y,x];by_cases Y:0≤oa l[m] l[m+1]
   ·simp [Y];have b:=bad (by simp [z,A,show¬ oa l[m] l[m+1]<0 by omega]);refine aq (by simp) ?_;exact ak (b _ _ _)
   ·simp [Y];refine aC (by simp) ?_;refine aO (av (next _ _ ?_ (by simp [F]) (by simp [M])));exact⟨by simp [g0],by simp [E],by simp [v],⟨_,rfl⟩,go (by rw [A];simp;omega)⟩
 ·rintro t _ ⟨g0,E,v,⟨J,rfl⟩,d,Z,l2,z⟩ F M;have hX:gk q.length ab l=ae:=by rw [z];simp [gk]
  apply ai;simp;refine aB (O _ _ ?_);simp [S,hX]
structure bz where
 id:Int
 dl:Int
 state:Int
 bc:aA
def bz.row(h:bz):List FC:=[fi h.id,fi h.dl,fi h.state,fi h.bc.meet,fi h.bc.room,fi h.bc.eg,fi h.bc.size,sl h.bc.st.cg (aL h.bc.st.cs),fi h.bc.st.len,sl h.bc.st.xg (aH h.bc.st.xs)]
def aM(l:List bz):List (List FC):=l.map bz.row
@[simp] theorem afT (l:List bz):(aM l).length=l.length:=by simp [aM]
theorem bK(l:List bz):cq 10 (aM l):=cq.map fun _=>rfl
theorem dR{l:List bz}{j:Nat}(b:j<l.length):(aM l)[j]?=aa l[j].row:=by simp [aM,b]
structure dv where
 clock:Int
 bJ:Int
 lg:Tg
 l:List bz
def dv.row(h:dv):List FC:=[fi h.clock,fi h.bJ,sl h.lg (aM h.l)]
theorem lT{n b:Nat}(g:n≤1100000)(d:b≤4096):bP n b=ae:=by
 have h:(2*n+768)*b≤2200768*4096:=Nat.mul_le_mul (by omega) d;simp [bP];omega
def Fix(s:aA):Prop:=bh tab 46 [.a (s.row.map .f)]=Eq (.a (s.row.map .f))
def Cz(x y:List FC):Int:=match x,y with
 | .int _ a::.int _ b::_,.int _ c::.int _ d::_=>An [dN a c,dN b d]| _,_=>0
def DT(x:List FC):Prop:=∃ s:aA,x=s.row
theorem Nb(x y:aA):Kf tab 43 [.a (x.row.map .f),.a (y.row.map .f)] (vi (Cz x.row y.row)):=by
 refine cF rfl rfl fun H Q d=>?_;have b:=wG .fs [dN x.meet y.meet,dN x.room y.room] (by simp);simp [ints,sl,Tg.fc]at b;apply ai;simp [aA.row];apply ai;simp [fL,deep,kI,oY,b];refine aB (d _ _ ?_);simp [Cz,aA.row]
theorem YD:Cv tab (.c (.f (.fn 43 []))) DT Cz:=by
 rintro _ _ ⟨x,rfl⟩ ⟨y,rfl⟩ H;obtain⟨J,b⟩:=Nb x y H;exact⟨_,_,J,by simp,b⟩
theorem Dx{a b:Int}:dN a b<0↔a<b:=by unfold dN;split<;>(try split)<;>omega
theorem xW(x y:aA):Cz x.row y.row<0↔x.meet<y.meet∨x.meet=y.meet∧x.room<y.room:=by
 simp only [Cz,aA.row,An,dN];split<;>split<;>(try split)<;>(try split)<;>(try split)<;>omega
theorem My:Br DT Cz:=by
 constructor
 ·rintro _ _ ⟨x,rfl⟩ ⟨y,rfl⟩ h b;rw [xW]at h b;omega
 ·rintro _ _ _ ⟨x,rfl⟩ ⟨y,rfl⟩ ⟨z,rfl⟩ h b d;rw [xW]at h b d;omega
theorem akp(x:aA):Kf tab 132 [.a (x.row.map .f)] (.a [.f (fi x.meet),.f (fi x.room)]):=by
 refine cF rfl rfl fun H Q b=>?_;apply ai;simp [aA.row];apply ai;simp;refine aB (b _ _ ?_);simp
theorem Zb(x:aA):bh tab 132 [.a (x.row.map .f)]=Eq (.a [.f (fi x.meet),.f (fi x.room)]):=(Kf.CI (xs:=[fi x.meet,fi x.room]) (akp x)).eq
def lK(n:Int):Bool:=decide (0≤n)&&decide (n≤2251799813685248)
theorem aky(n:Int):Kf tab 38 [vi n] (vb (lK n)):=by
 refine cF rfl rfl fun H Q b=>?_;apply ai;simp;apply ai;by_cases h:0≤n
 ·simp [h];refine aB (b _ _ ?_);simp [lK,h]
 ·simp [h];refine aB (b _ _ ?_);simp [lK,h]
theorem tx(n:Int):bh tab 38 [vi n]=Eq (vb (lK n)):=(aky n).eq
def iY(b d:Int)(x:bz):Bool:=decide (d<x.id)&&decide (1≤x.state)&&decide (x.state≤4)&&lK x.dl&&!(decide (x.state=1)&&decide (x.dl<b))
def gC(b:Int):Int→List bz→Bool
 | _,[]=>ae| last,x::r=>iY b last x&&gC b x.id r
theorem zQ{b d:Int}{l:List bz}{j:Nat}(g:j<l.length):gC b d (l.drop j)=(iY b d l[j]&&gC b l[j].id (l.drop (j+1))):=by
 rw [apw g];rfl
def ee(h:dv):Bool:=lK h.clock&&lK h.bJ&&gC h.clock 0 h.l
theorem qB(h:dv)(Y:h.l.length≤30):bh tab 27 [.a (h.row.map .f)]=Eq (vb (ee h)):=bh.eq (by
 refine bS rfl rfl fun Q S=>?_;have bad:ee h=ag→∀(t:T) (J:aj) k,WP tab 27 ab (.code (.seq (.region [⟨D 2,.aZ (.k (.c (.f (.bool ag)))),ab⟩] []) .ret)::k) ⟨t,[],J⟩ Q:=by
  intro X t J k;apply ai;simp;refine aB (S _ _ ?_);simp [X]
 apply ai;simp [dv.row];apply ak;apply ai;simp [tx];cases U:lK h.clock
 ·simp;exact aq (by simp) (bad (by simp [ee,U]) _ _ _)
 simp [tx];cases W:lK h.bJ
 ·simp;exact aq (by simp) (bad (by simp [ee,W]) _ _ _)
 simp [show¬ (4096:Int)<h.l.length by omega];refine bp (by simp) ?_;apply ai;simp;apply ak;apply ai;simp;refine bM h.l.length (fun j t H=>t.g 1=.c (.ptr 0 0 0)∧t.g 23=.c (.f (sl h.lg (aM h.l)))∧H[0]?=aa (.box [.f (fi h.clock),.f (fi h.bJ),.f (sl h.lg (aM h.l))] 0)∧∃ b,t.g 3=vi b∧gC h.clock 0 h.l=gC h.clock b (h.l.drop j)) (by omega) (by decide) (by decide) (by simp) (by simp) ⟨by simp,by simp,rfl,0,by simp,by simp⟩ ?_ ?_
 ·rintro j t H E ⟨u,d,h0,b,O,l⟩ y B next
  rw [zQ E]at l;have q:=fun H:aj=>bR (H:=H) (bK h.l) (dR E);simp only [bz.row]at q;obtain⟨x,F⟩:=aK (h.l[j]);rw [←F]at l q;have v:iY h.clock b x=ag→ee h=ag:=fun e=>by simp [ee,l,e]
  refine aG ?_;apply ai;simp [y,d,bF,E,q];obtain⟨N,m⟩:=aK (H++[.box [.f (fi x.id),.f (fi x.dl),.f (fi x.state),.f (fi x.bc.meet),.f (fi x.bc.room),.f (fi x.bc.eg),.f (fi x.bc.size),.f (sl x.bc.st.cg (aL x.bc.st.cs)),.f (fi x.bc.st.len),.f (sl x.bc.st.xg (aH x.bc.st.xs))] 0]:aj);have A:N[0]?=aa (.box [.f (fi h.clock),.f (fi h.bJ),.f (sl h.lg (aM h.l))] 0):=by rw [m,AT (an h0)];exact h0
  have g:N[H.length]?=aa (.box [.f (fi x.id),.f (fi x.dl),.f (fi x.state),.f (fi x.bc.meet),.f (fi x.bc.room),.f (fi x.bc.eg),.f (fi x.bc.size),.f (sl x.bc.st.cg (aL x.bc.st.cs)),.f (fi x.bc.st.len),.f (sl x.bc.st.xg (aH x.bc.st.xs))] 0):=by rw [m];simp
  rw [←m];apply ak;refine aG ?_;apply ak;apply ai;simp [O,g];by_cases I:x.id≤b
  ·refine aq (by simp [I]) (aO ?_);refine aq (by simp [I]) ?_;exact bad (v (by simp [iY,show¬ b<x.id by omega])) _ _ _
  refine aC (by simp [I]) ?_;apply ai;simp [g];by_cases K:x.state<1
  ·refine aq (by simp [K]) (aO ?_);refine aq (by simp [K]) ?_;exact bad (v (by simp [iY,show¬ 1≤x.state by omega])) _ _ _
  refine aC (by simp [K]) ?_;apply ai;simp [g];by_cases L:4<x.state
  ·refine aq (by simp [L]) (aO ?_);refine aq (by simp [L]) ?_;exact bad (v (by simp [iY,show¬ x.state≤4 by omega])) _ _ _
  refine aC (by simp [L]) ?_;refine al (.inl rfl) ?_;simp [g,tx];cases M:lK x.dl
  ·refine aq (by simp) ?_;exact bad (v (by simp [iY,M])) _ _ _
  refine aC (by simp) ?_;apply ai;simp [g];by_cases s:x.state=1
  ·by_cases z:x.dl<h.clock
   ·simp [s,z,u,A,g];refine aq (by simp) ?_;exact bad (v (by simp [iY,s,z])) _ _ _
   ·simp [s,z,u,A,g];refine aC (by simp) (aO (av ?_));refine al (.inl rfl) ?_;simp [g];refine av (next _ _ ⟨by simp [u],by simp [d],A,x.id,by simp,?_⟩ (by simp [y]) (by simp [B]));rw [l,show iY h.clock b x=ae by simp [iY,s,z,M];omega];simp [F]
  ·simp [s];refine aC (by simp) (aO (av ?_));refine al (.inl rfl) ?_;simp [g];refine av (next _ _ ⟨by simp [u],by simp [d],A,x.id,by simp,?_⟩ (by simp [y]) (by simp [B]));rw [l,show iY h.clock b x=ae by simp [iY,s,M];omega];simp [F]
 ·rintro t H ⟨u,d,h0,b,O,l⟩ y B;apply ai;simp;refine aB (S _ _ ?_);simp [ee,U,W,l,gC])
theorem zL(x:bz)(id:Int):Kf tab 71 [.a (x.row.map .f),vi id] (vi (dN x.id id)):=by
 refine cF rfl rfl fun H Q b=>?_;apply ai;simp [bz.row];apply ai;simp [fL];refine aB (b _ _ ?_);simp
theorem qz{b:Int}:∀ {last:Int} {l:List bz},gC b last l=ae→(∀ x ∈ l,last<x.id)∧l.Pairwise (fun x y=>x.id<y.id)
 | _,[],_=>⟨by simp,.nil⟩
 | last,x::r,h=>by
  simp only [gC,If]at h;obtain⟨g,j⟩:=qz h.2;have m:last<x.id:=by have:=h.1;simp [iY]at this;omega
  refine⟨fun y d=>?_,.cons (fun y d=>g y d) j⟩;rcases aqA.1 d with rfl | d
  ·exact m
  ·have:=g y d;omega
theorem Mx{a b:Int}:dN a b=0↔a=b:=by unfold dN;split<;>(try split)<;>omega
def rP(l:List bz)(i:Nat)(id:Int):Bool:=match l[i]? with | some x=>decide (x.id=id) | none=>ag
theorem DK(h:dv)(hl:h.l.length≤30)(U:ee h=ae)(id:Int):∃ i:Nat,i≤h.l.length∧(∀ j (b:j<h.l.length),j<i→h.l[j].id<id)∧(∀ j (b:j<h.l.length),i≤j→id≤h.l[j].id) ∧
  bh tab 39 [.a (h.row.map .f),vi id]=Eq (.t [vi i,vb (rP h.l i id)]):=by
 have S:h.l.Pairwise (fun x y=>x.id<y.id):=by simp [ee]at U;exact(qz U.2).2
 have E:∀ i j (hi:i<j) (b:j<h.l.length),h.l[i].id<h.l[j].id:=fun i j hi b=>aq9.1 S i j (by omega) b hi;obtain⟨r,⟨i,W,X,Y,rfl⟩,O⟩:∃ r,(∃ i:Nat,i≤h.l.length∧(∀ j (b:j<h.l.length),j<i→h.l[j].id<id)∧(∀ j (b:j<h.l.length),i≤j→id≤h.l[j].id)∧r=.t [vi i,vb (rP h.l i id)]) ∧
   bh tab 70 [.c (.f (sl h.lg (aM h.l))),vi id,.c (.f (.fn 71 []))] r:=by
  refine eI rfl rfl fun Q J=>?_;have F:=fun(H:aj) (j:Nat) (b:j<h.l.length)=>bR (H:=H) (bK h.l) (dR b);apply ai;simp;apply ai;simp;apply ai;simp;apply ak;refine aG ?_;refine cH (fun m s=>∃(lo hi:Nat) (t:T) (H:aj),s=⟨t,[],H⟩∧lo+m=hi∧hi≤h.l.length∧t.g 0=.c (.f (sl h.lg (aM h.l)))∧t.g 1=vi id∧t.g 2=.c (.f (.fn 71 []))∧t.g 8=vi h.l.length∧t.g 9=vi lo∧t.g 10=vi hi ∧
   (∀ j (b:j<h.l.length),j<lo→h.l[j].id<id)∧(∀ j (b:j<h.l.length),hi≤j→id≤h.l[j].id)) h.l.length
   ⟨0,h.l.length,_,_,rfl,by omega,by omega,by simp,by simp,by simp,by simp,by simp,by simp,by simp,by intros;omega⟩ ?_
  rintro m s ⟨lo,hi,t,H,rfl,hm,Z,g0,z,A,I,B,g,u,l⟩ next
  apply ak;apply ai;simp [B,g];by_cases N:lo<hi
  ·refine aq (by simp [N]) (aO ?_);obtain⟨q,hq⟩:=aK ((lo+hi) / 2);have v:q<h.l.length:=by omega
   have L:=(zL h.l[q] id).ev H;refine aG ?_;apply ai;simp [B,g,aV (n:=(lo:Int)+hi),jL (lo:=lo) (hi:=hi) (by omega),lE (lo:=lo) (hi:=hi) (by omega) hq,aV (n:=(q:Int))];apply ai;simp [g0,z,A,bF,v,F _ q v,L];by_cases K:h.l[q].id<id
   ·refine aq (by simp [Dx,K]) (al (.inl rfl) ?_);simp [aV (n:=(q:Int)+1)];refine av (next (hi-(q+1)) _ (by omega) ⟨q+1,hi,_,_,rfl,by omega,by omega,by simp [g0],by simp [z],by simp [A],by simp [I],by simp,by simp [g],fun j b M=>?_,l⟩);by_cases e:j=q
    ·subst e;exact K
    ·have:=E j q (by omega) v;omega
   ·refine aC (by simp [Dx,K]) (al (.inl rfl) ?_);simp;refine av (next (q-lo) _ (by omega) ⟨lo,q,_,_,rfl,by omega,by omega,by simp [g0],by simp [z],by simp [A],by simp [I],by simp [B],by simp,u,fun j b M=>?_⟩);by_cases e:q=j
    ·subst e;omega
    ·have:=E q j (by omega) b;omega
  obtain rfl:lo=hi:=by omega
  refine aC (by simp) ?_;refine bH (k':=[.code vw]) rfl ?_;apply ai;by_cases d:lo<h.l.length
  ·have L:=(zL h.l[lo] id).ev H;simp [g0,z,A,I,B,d,bF,F _ lo d,L];refine aB (J _ _ (.t [vi lo,vb (rP h.l lo id)]) ⟨lo,by omega,u,l,rfl⟩ ?_);simp [Mx,d,rP]
  ·simp [g0,z,A,I,B,d];refine aB (J _ _ (.t [vi lo,vb (rP h.l lo id)]) ⟨lo,by omega,u,l,rfl⟩ ?_);simp [d,rP]
 refine⟨i,W,X,Y,bh.eq ?_⟩;have O:=O.eq;refine bS rfl rfl fun Q J=>?_;apply ai;simp [dv.row];apply ai;simp [O];refine aB (J _ _ ?_);simp
theorem kh(l:List bz)(j:Nat)(x:bz):(aM l).set j x.row=aM (l.set j x):=by simp [aM,List.map_set]
theorem vO(h:dv)(hl:h.l.length≤30)(hs:∀ x ∈ h.l,Fix x.bc)(H:aj):∃ r H',Ev tab (.fn 45) [.a (h.row.map .f)] H r H' ∧
  ∃ c,r=.a [.f (fi h.clock),.f (fi h.bJ),c]∧Kp H H'∧LR H' c 10 (aM h.l)∧∀ i,bB c=aa i→H.length≤i:=by
 refine cB rfl rfl fun Q hQ=>?_;apply ai;simp [dv.row];obtain⟨u,m⟩:=aK (H++[.box [.f (fi h.clock),.f (fi h.bJ),.f (sl h.lg (aM h.l))] 0,.box [.f (fi 0),.f (fi 0),.f .au] 0]:aj);have z0:u[H.length]?=aa (.box [.f (fi h.clock),.f (fi h.bJ),.f (sl h.lg (aM h.l))] 0):=by rw [m];simp
 have z1:u[H.length+1]?=aa (.box [.f (fi 0),.f (fi 0),.f .au] 0):=by rw [m];simp
 have zl:u.length=H.length+2:=by rw [m];simp
 have zk:Kp H u:=by rw [m];exact Kp.push _ _
 rw [←m];obtain⟨r,H1,E,c,Y,rfl,rfl,y,o⟩:=sO (F:=81) (sz:=10) (zs:=[fi 0,fi 0,fi 0,fi 0,fi 0,fi 0,fi 0,.au,fi 0,.au]) (bytes:=112) (H:=u) (g:=h.lg) (rows:=aM h.l) ajj (by decide) (bK _) (lT (by simp;omega) (by decide));have E:=E.eq;have a0:(u++Y)[H.length]?=aa (.box [.f (fi h.clock),.f (fi h.bJ),.f (sl h.lg (aM h.l))] 0):=by rw [AT (by omega)];exact z0
 have a1:(u++Y)[H.length+1]?=aa (.box [.f (fi 0),.f (fi 0),.f .au] 0):=by rw [AT (by omega)];exact z1
 apply ai;simp [z0,E,a0];obtain⟨W,q⟩:=aK ((u++Y).set H.length (.box [.f (fi h.clock),.f (fi h.bJ),c] 0):aj);have b0:W[H.length]?=aa (.box [.f (fi h.clock),.f (fi h.bJ),c] 0):=by rw [q];exact IN (by simp;omega)
 have b1:W[H.length+1]?=aa (.box [.f (fi 0),.f (fi 0),.f .au] 0):=by rw [q,AI (by omega)];exact a1
 have s:∀ i,bB c=aa i→H.length+2≤i:=fun i e=>by have:=o i e;omega
 have O:LR W c 10 (aM h.l):=by rw [q];exact y.set (fun e=>by have:=s _ e;omega) _
 have k2:Kp H W:=by
  rw [q];exact⟨by simp;omega,fun Z l=>by rw [AI (by omega),AT (by omega)];exact zk.2 Z l⟩
 rw [←q];have a:∀(t:T) (b:aj),t.g 1=.c (.ptr H.length 0 0)→t.g 2=.c (.ptr (H.length+1) 0 0)→b[H.length]?=aa (.box [.f (fi h.clock),.f (fi h.bJ),c] 0)→b[H.length+1]?=aa (.box [.f (fi 0),.f (fi 0),.f .au] 0)→Kp H b→LR b c 10 (aM h.l) →
   WP tab 45 ab [.code yO] ⟨t,[],b⟩ Q:=by
  intro t b I J h0 K L y;apply ai;simp [I,J,h0,K];refine aB (hQ _ _ (.a [.f (fi h.clock),.f (fi h.bJ),c]) rfl ?_ ⟨c,rfl,?_,y.set (fun e=>by have:=s _ e;omega) _,fun i e=>by have:=s i e;omega⟩)
  ·simp [Km.results,bg,J,an K]
  ·exact⟨by simpa using L.1,fun Z l=>by rw [AI (by omega)];exact L.2 Z l⟩
 apply ak;apply ai;have v:=O.len;simp at v;simp [b0,v];refine bM h.l.length (fun j t b=>t.g 1=.c (.ptr H.length 0 0)∧t.g 2=.c (.ptr (H.length+1) 0 0)∧b[H.length]?=aa (.box [.f (fi h.clock),.f (fi h.bJ),c] 0)∧b[H.length+1]?=aa (.box [.f (fi 0),.f (fi 0),.f .au] 0)∧Kp H b∧LR b c 10 (aM h.l)) (by omega) (by decide) (by decide) (by simp) (by simp) ⟨by simp,by simp,b0,b1,k2,O⟩ ?_ ?_
 ·rintro j t b hj ⟨I,J,h0,K,L,y⟩ ha hb next
  have d:=hj;rcases y with⟨he,_⟩ | ⟨a8,B,ep,rfl,f⟩
  ·rw [show h.l=[] by simpa [aM]using he]at d;simp at d
  obtain⟨x,X⟩:=aK (h.l[j]);have e2:Fix x.bc:=hs x (by rw [X];exact anc d);unfold Fix at e2;have S:=f.at (show j<(aM h.l).length by simpa using d);have A:=f.ldp (n:=7) (k:=3) (bK h.l) (dR d) (by decide);rw [←X]at A;have U:((x.row.drop 3).take 7)=x.bc.row:=rfl;rw [U]at A;obtain⟨H4,b_,M,z,c_⟩:=f.stp (k:=3) (xs:=x.bc.row) (bK h.l) (dR d) (by show 3+7≤10;omega);have a_:over h.l[j].row 3 x.bc.row=x.row:=by rw [X];rfl
  rw [a_,kh,X,arE]at M;have N:B≠H.length∧B≠H.length+1:=by have:=s B rfl;omega
  refine aG ?_;apply ai;simp [ha];refine al (.inl rfl) ?_;have a7:(aM h.l).length=h.l.length:=by simp
  simp only [a7]at *;have b9:(x.bc.row.map C.f).length=7:=rfl;have w:aU b ab (.c (.ptr H.length 2 0))=aa (.c (.sl B 0 h.l.length 0 ep 10)):=by simp [h0,aT]
  simp [I,w,S,A,e2,b_,b9,-az,-bf];refine av (next _ _ ⟨by simp [I],by simp [J],z.get h0 (Ne.symm N.1),z.get K (Ne.symm N.2),L.next (p:=B) (by have:=s B rfl;omega) z,.inr ⟨a8,B,ep,by simp,M⟩⟩ (by simp [ha]) (by simp [hb]))
 ·rintro t b ⟨I,J,h0,K,L,y⟩ - -;exact a _ b (by simp [I]) (by simp [J]) h0 K L y
def dt(x y:aA):Bool:=decide (x.meet=y.meet∧x.room=y.room)
theorem A'(x s:aA){H:aj}{p:Nat}(v:H[p]?=aa (.box (s.row.map .f) 0)):∃ J,Ev tab (.fn 131) [.a (x.row.map .f),.c (.ptr p 0 0)] H (vb (dt x s)) (H++J):=by
 obtain⟨r,H',z,rfl,J,rfl⟩:∃ r H',Ev tab (.fn 131) [.a (x.row.map .f),.c (.ptr p 0 0)] H r H'∧r=vb (dt x s)∧∃ J,H'=H++J:=by
  refine cB (C:=fun r H'=>r=vb (dt x s)∧∃ J,H'=H++J) amS rfl fun Q y=>?_;have q:=Zb x;have u:=Zb s;have m:=an v;obtain⟨j,b⟩:=aK (H++[.box (x.row.map .f) 0]:aj);have d:j[p]?=aa (.box (s.row.map .f) 0):=by rw [b,AT m];exact v
  have g:j[H.length]?=aa (.box (x.row.map .f) 0):=by rw [b];simp
  have l:∃ J,j=H++J:=⟨_,b⟩
  simp only [aA.row]at q u d g b ⊢;simp at d g b;apply ai;simp;rw [←b];apply ai;simp at q u;simp [d,g,q,u,BS,pJ,MY];exact aB (y _ _ (vb (dt x s)) rfl (by simp [Km.results,bg,dt];rw [ary];simp) ⟨rfl,l⟩)
 exact⟨J,z⟩
def RS(H:aj)(c:C)(l:List aA):Prop:=bu H c=aa l.length∧∀(j:Nat) (b:j<l.length),∃ p,bA H 7 ab (.c c) (vi j)=aa (.c p)∧aU H (aa 7) (.c p)=aa (.a (l[j].row.map .f))
theorem LR.rs{H:aj}{c:C}{l:List aA}(h:LR H c 7 (aD l)):RS H c l:=⟨by simpa using h.len,fun j d=>by
 obtain⟨b,ep,m,l1⟩:=h.at (bt l) (j:=j) (by simpa using d);have g:(aD l)[j]'(by simpa using d)=l[j].row:=by simp [aD]
 rw [g]at l1;exact⟨_,m,l1⟩⟩
theorem anY(H:aj)(g:Tg)(l:List aA):RS H (.f (sl g (aD l))) l:=⟨by simpa using Cc (H:=H) g (aD l),fun j d=>by
 have b:=bF (H:=H) (g:=g) (rows:=aD l) (sz:=7) (k:=.i64) (i:=(j:Int)) (by omega) (by simp;omega);rw [Int.toNat_natCast]at b;exact⟨_,b,bR (bt l) (et d)⟩⟩
theorem DO{H:aj}{c:C}{l:List aA}(E:∀ J,RS (H++J) c l)(W:l.length≤1000)(s:aA){p:Nat}(K:H[p]?=aa (.box (s.row.map .f) 0)):∃ J,Ev tab (.fn 133) [.c c,.c (.cl 131 [.ptr p 0 0])] H (vb (l.any fun x=>dt x s)) (H++J):=by
 have A:∃ r H',Ev tab (.fn 206) [.c c,.c (.cl 131 [.ptr p 0 0])] H r H'∧∃ J,H'=H++J∧∃ i:Int,r=vi i∧(0≤i↔(l.any fun x=>dt x s)=ae):=by
  refine cB (C:=fun r H'=>∃ J,H'=H++J∧∃ i:Int,r=vi i∧(0≤i↔(l.any fun x=>dt x s)=ae)) ajw rfl fun Q v=>?_;have b:=(E []).1;rw [aq6]at b;apply ai;simp;apply ak;apply ai;simp [b];refine bM l.length (fun j t L=>t.g 0=.c c∧t.g 1=.c (.cl 131 [.ptr p 0 0])∧(∃ J,L=H++J)∧∀(q:Nat) (u:q<l.length),q<j→dt l[q] s=ag) (by omega) (by decide) (by decide) (by simp) (by simp) ⟨by simp,by simp,⟨[],by simp⟩,by simp⟩ ?_ ?_
  ·rintro j t _ I ⟨g0,y,⟨J,rfl⟩,g⟩ z F next
   obtain⟨X,S,U⟩:=(E J).2 j I;obtain⟨B,d⟩:=A' l[j] s (H:=H++J) (p:=p) (by rw [AT (an K)];exact K);have d:=d.eq;refine aG ?_;apply ai;simp [z];apply ai;simp [g0,y,S,U,d,-az];cases m:dt l[j] s
   ·refine aC (by simp) (aO (av (next _ _ ⟨by simp [g0],by simp [y],⟨J++B,by simp⟩,fun q u N=>?_⟩ (by simp [z]) (by simp [F]))));by_cases e:q=j
    ·subst e;exact m
    ·exact g q u (by omega)
   ·refine aq (by simp) (ai ?_);simp;refine aB (v _ _ (vi j) rfl (by simp [Km.results,bg]) ⟨J++B,by simp,j,rfl,?_⟩);simp only [List.any_eq_true];exact⟨fun _=>⟨l[j],anc I,m⟩,fun _=>by omega⟩
  ·rintro t _ ⟨g0,y,⟨J,rfl⟩,g⟩ z F;apply ai;simp;refine aB (v _ _ (vi (-1)) rfl (by simp [Km.results,bg]) ⟨J,rfl,-1,rfl,?_⟩);simp only [List.any_eq_true];refine⟨fun h=>by omega,fun⟨x,O,m⟩=>?_⟩;obtain⟨q,u,rfl⟩:=aq2 O;rw [g q u u]at m;cases m
 obtain⟨r,H',d,J,rfl,i,rfl,hi⟩:=A;have d:=d.eq;obtain⟨r,H',M,rfl,rfl⟩:∃ r H',Ev tab (.fn 133) [.c c,.c (.cl 131 [.ptr p 0 0])] H r H'∧r=vb (l.any fun x=>dt x s)∧H'=H++J:=by
  refine cB (C:=fun r H'=>r=vb (l.any fun x=>dt x s)∧H'=H++J) ajp rfl fun Q v=>?_;apply ai;simp;apply ai;simp [d];refine aB (v _ _ (vb (l.any fun x=>dt x s)) rfl ?_ ⟨rfl,rfl⟩);have:decide (0≤i)=(l.any fun x=>dt x s):=by
   rw [ary,decide_eq_true_eq];exact hi
  simp [Km.results,bg,this]
 exact⟨J,M⟩
def uniq(l0:List aA):List aA→List aA→List aA
 | acc,[]=>acc| acc,s::r=>if l0.any (fun x=>dt x s)||acc.any (fun x=>dt x s)then uniq l0 acc r else uniq l0 (acc++[s]) r
theorem pF{l0:List aA}:∀ {l acc:List aA},(uniq l0 acc l).length≤acc.length+l.length
 | [],_=>by simp [uniq]
 | s::l,acc=>by
  simp only [uniq];split
  ·have:=pF (l0:=l0) (l:=l) (acc:=acc);simp;omega
  ·have:=pF (l0:=l0) (l:=l) (acc:=acc++[s]);simp at this ⊢;omega
theorem uF{l0:List aA}:∀ {l acc:List aA} {x:aA},x ∈ uniq l0 acc l→x ∈ acc∨x ∈ l
 | [],_,x,h=>.inl h
 | s::l,acc,x,h=>by
  simp only [uniq]at h;split at h
  ·rcases uF h with h | h<;>simp [h]
  ·rcases uF h with h | h
   ·simp at h;rcases h with h | h<;>simp [h]
   ·simp [h]
theorem C3{H:aj}{c:C}{l:List aA}(hL:LR H c 7 (aD l))(hl:l.length≤30)(hsm:∀ s ∈ l,Fix s)(g0:Tg)(l0:List aA)(h0:l0.length≤30):∃ r H',Ev tab (.fn 74) [.c c,.c (.f (sl g0 (aD l0)))] H r H' ∧
  ∃ d,r=.c d∧Kp H H'∧LR H' d 7 (aD (uniq l0 [] l))∧∀ i,bB d=aa i→H.length≤i:=by
 refine cB (C:=fun r H'=>∃ d,r=.c d∧Kp H H'∧LR H' d 7 (aD (uniq l0 [] l))∧∀ i,bB d=aa i→H.length≤i) amR rfl fun Q hQ=>?_;have O:=hL.len;simp at O;apply ai;simp;apply ai;simp;apply ak;apply ai;simp [O];refine bM l.length (fun j t K=>t.g 1=.c (.f (sl g0 (aD l0)))∧t.g 9=.c c∧Kp H K∧∃ d o,t.g 5=.c d∧LR K d 7 (aD o)∧uniq l0 o (l.drop j)=uniq l0 [] l∧o.length≤j∧∀ i,bB d=aa i→H.length≤i) (by omega) (by decide) (by decide) (by simp) (by simp)
  ⟨by simp,by simp,Kp.refl H,.f .au,[],by simp,LR.nil _ _,by simp,by simp,by simp [bB]⟩ ?_ ?_
 ·rintro j t K hj ⟨Y,g9,M,d,o,Z,hO,I,e_,z⟩ ha hb next
  obtain⟨x,hx⟩:=aK (l[j]);have hd:l.drop j=x::l.drop (j+1):=by rw [hx];exact apw hj
  rw [hd]at I;have b9:LR K c 7 (aD l):=hL.cG fun i y hy _=>by rw [M.2 i (an hy)];exact hy
  obtain⟨b,ep,i1,l1⟩:=b9.at (bt l) (j:=j) (by simpa using hj);have e0:(aD l)[j]'(by simpa using hj)=x.row:=by simp [aD,hx]
  rw [e0]at l1;have e2:Fix x:=hsm x (by rw [hx];exact anc hj);unfold Fix at e2;obtain⟨N,q⟩:=aK (K++[.box (x.row.map .f) 0]:aj);have B:N[K.length]?=aa (.box (x.row.map .f) 0):=by rw [q];simp
  have b_:LR N d 7 (aD o):=by rw [q];exact hO.push _
  obtain⟨J1,X⟩:=DO (H:=N) (fun J=>anY _ g0 l0) (by omega) x B;have L:LR (N++J1) d 7 (aD o):=b_.push _;have f7:(N++J1)[K.length]?=aa (.box (x.row.map .f) 0):=by rw [AT (an B)];exact B
  obtain⟨J2,n2⟩:=DO (H:=N++J1) (fun J=>LR.rs (L.push J)) (by omega) x f7;have X:=X.eq;have n2:=n2.eq;refine aG ?_;apply ai;simp [g9,ha,i1,l1,-az,aA.row];simp only [aA.row]at q X n2 e2 B;simp at q;rw [←q];apply ai;simp;apply ak;refine al (.inl rfl) ?_;cases hz:l0.any fun y=>dt y x
  case true=>
   rw [hz]at X;simp only [uniq,hz,Bool.true_or,if_true]at I;obtain⟨S,m⟩:=aK (N++J1:aj);have A:Kp H S:=by
    rw [m,q];exact⟨by have:=M.1;simp;omega,fun F g=>by
     have:=M.1;rw [aqZ,AT (by omega)];exact M.2 F g⟩
   simp [Y,X];rw [←m];rw [←m]at L;refine aC (by simp) (aO (av (next _ _ ⟨by simp [Y],by simp [g9],A,d,o,by simp [Z],L,I,by omega,z⟩ (by simp [ha]) (by simp [hb]))))
  rw [hz]at X;simp [Y,Z,X,n2];obtain⟨S,m⟩:=aK (N++(J1++J2):aj);have A:Kp H S:=by
   rw [m,q];exact⟨by have:=M.1;simp;omega,fun F g=>by
    have:=M.1;rw [aqZ,AT (by omega)];exact M.2 F g⟩
  have a8:LR S d 7 (aD o):=by rw [m,←aqZ];exact L.push _
  rw [←m];have W:S[K.length]?=aa (.box (x.row.map .f) 0):=by rw [m,AT (an B)];simp only [aA.row];exact B
  cases u:o.any fun y=>dt y x
  case true=>
   simp only [uniq,u,Bool.or_true,if_true]at I;refine aC (by simp [u]) (aO (av (next _ _ ⟨by simp [Y],by simp [g9],A,d,o,by simp [Z],a8,I,by omega,z⟩ (by simp [ha]) (by simp [hb]))))
  case false=>
   simp only [uniq,hz,u,Bool.or_self,Bool.false_eq_true,if_false]at I;obtain⟨H4,v⟩:=aK (S++[.box (x.row.map .f) 0]:aj);have c_:LR H4 d 7 (aD o):=by rw [v];exact a8.push _
   obtain⟨c2,H5,E,d9,a7,a_⟩:=c_.app (bt o) (by decide) (row:=x.row) rfl (bytes:=88) (lT (by simp;omega) (by decide)) (b1:=S.length) (fl1:=0) (by rw [v];simp);have U:Kp H H4:=by
    rw [v];exact⟨by have:=A.1;simp;omega,fun F g=>by rw [AT (aqR g A.1)];exact A.2 F g⟩
   have d_:Kp H H5:=⟨aqF U.1 a7.1,fun F g=>by
    have hy:=By g;rw [a7.2 F H[F] (by rw [U.2 F g,hy]) (fun e=>by have:=z F e;omega),hy]⟩
   refine aq (by simp [u]) ?_;refine al (.inl rfl) ?_;simp only [aA.row]at W v E;simp at W v E;have f8:(cu 1 [fi 0,fi 0,fi 0,fi 0,FC.au,fi 0,FC.au]).map C.f=[.f (fi 0),.f (fi 0),.f (fi 0),.f (fi 0),.f .au,.f (fi 0),.f .au]:=rfl;simp at e2;simp [Z,W,e2,←v,E];refine av (next _ _ ⟨by simp [Y],by simp [g9],d_,c2,o++[x],by simp,?_,?_,by simp;omega,fun i hi=>?_⟩ (by simp [ha]) (by simp [hb]))
   ·have e:aD (o++[x])=aD o++[x.row]:=by simp [aD]
    rw [e];exact d9
   ·exact I
   ·rcases a_ with h | h
    ·rw [h]at hi;exact z i hi
    ·rw [h]at hi;cases hi;exact U.1
 ·rintro t K ⟨Y,g9,M,d,o,Z,hO,I,e_,z⟩ ha hb;apply ai;simp [Z];refine aB (hQ _ _ (.c d) rfl (by simp [Km.results,bg]) ⟨d,rfl,M,?_,z⟩);rw [List.drop_of_length_le (aft _)]at I;rw [←I];exact hO
theorem ZQ{m u:Type}{f:m→u}{l l':List u}(h:l'.Perm l):∀ o:List m,l=o.map f→∃ o':List m,l'=o'.map f∧o'.Perm o:=by
 induction h with
 | nil=>intro o d;exact⟨[],rfl,by
   have:o=[]:=by simpa using d.symm
   rw [this]⟩
 | cons x h A=>
  intro o d;cases o with
  | nil=>simp at d
  | cons a o=>
   simp only [aqz,List.cons.injEq]at d;obtain⟨o',q,s⟩:=A o d.2;exact⟨a::o',by simp [q,d.1],s.cons a⟩
 | swap x y l=>
  intro o d
  match o with
  | []=>simp at d| [a]=>simp at d
  | a::b::o=>
   simp only [aqz,List.cons.injEq]at d;exact⟨b::a::o,by simp [d.1,d.2.1,d.2.2],List.Perm.swap a b o⟩
 | trans q s g j=>
  intro o d;obtain⟨E,z,H⟩:=j o d;obtain⟨B,v,F⟩:=g E z;exact⟨B,v,F.trans H⟩
theorem sZ{j:Type}{R:j→j→Prop}:∀ {A B:List j},A.Perm B→A.Pairwise R→B.Pairwise R→(∀ x ∈ A,∀ y ∈ A,R x y→R y x→x=y)→A=B
 | [],B,h,_,_,_=>(List.nil_perm.1 h).symm| a::A,[],h,_,_,_=>by have:=h.length_eq;simp at this
 | a::A,b::B,h,m,q,d=>by
  have g:a=b:=by
   by_cases e:a=b
   ·exact e
   have s:a ∈ B:=by
    have:a ∈ b::B:=h.mem_iff.1 aqv;rcases aqA.1 this with rfl | h
    ·exact absurd rfl e
    ·exact h
   have l:b ∈ A:=by
    have:b ∈ a::A:=h.mem_iff.2 aqv;rcases aqA.1 this with rfl | h
    ·exact absurd rfl e
    ·exact h
   exact d a aqv b (aqt _ l) (arl m l) (arl q s)
  subst g;rw [sZ ((List.perm_cons a).1 h) (ar8 m) (ar8 q) fun x u y v=>d x (aqt _ u) y (aqt _ v)]
def kJ(x y:aA):Prop:=¬ (y.meet<x.meet∨y.meet=x.meet∧y.room<x.room)
theorem Nl{x y:aA}:dt x y=ae↔x.meet=y.meet∧x.room=y.room:=by simp [dt]
def Aa(x:bz):Bool:=decide (x.state=1)||decide (x.state=2)
def dE(l:List bz):List aA:=(l.filter Aa).map bz.bc
theorem Mv(h:dv)(hl:h.l.length≤30)(hs:∀ x ∈ h.l,Fix x.bc)(g0:Tg)(l0:List aA)(h0:l0.length≤30)(H:aj):∃ r H',Ev tab (.fn 41) [.a (h.row.map .f),.c (.f (sl g0 (aD l0)))] H r H' ∧
  ∃ u,r=.c u∧Kp H H'∧LR H' u 7 (aD (uniq l0 [] (dE h.l)))∧∀ i,bB u=aa i→H.length≤i:=by
 refine cB (C:=fun r H'=>∃ u,r=.c u∧Kp H H'∧LR H' u 7 (aD (uniq l0 [] (dE h.l)))∧∀ i,bB u=aa i→H.length≤i) amP rfl fun Q hQ=>?_;apply ai;simp [dv.row];obtain⟨H0,K⟩:=aK (H++[.box [.f (fi h.clock),.f (fi h.bJ),.f (sl h.lg (aM h.l))] 0]:aj);have z0:H0[H.length]?=aa (.box [.f (fi h.clock),.f (fi h.bJ),.f (sl h.lg (aM h.l))] 0):=by rw [K];simp
 have zk:Kp H H0:=by rw [K];exact Kp.push _ _
 rw [←K];apply ai;simp;apply ak;apply ai;simp [z0];refine bM h.l.length (fun j t E=>t.g 1=.c (.f (sl g0 (aD l0)))∧t.g 9=.c (.f (sl h.lg (aM h.l)))∧Kp H E∧∃ c,t.g 5=.c c∧LR E c 7 (aD (dE (h.l.take j)))∧∀ i,bB c=aa i→H.length≤i) (by omega) (by decide) (by decide) (by simp) (by simp)
  ⟨by simp,by simp,zk,.f .au,by simp,LR.nil _ _,by simp [bB]⟩ ?_ ?_
 ·rintro j t E hj ⟨F,J,A,c,I,hL,z⟩ X hb next
  have M:=fun H:aj=>bR (H:=H) (bK h.l) (dR hj);simp only [bz.row]at M;obtain⟨x,hx⟩:=aK (h.l[j]);rw [←hx]at M;have a8:h.l.take (j+1)=h.l.take j++[x]:=by rw [hx,aqW,By hj];rfl
  obtain⟨N,v⟩:=aK (E++[.box [.f (fi x.id),.f (fi x.dl),.f (fi x.state),.f (fi x.bc.meet),.f (fi x.bc.room),.f (fi x.bc.eg),.f (fi x.bc.size),.f (sl x.bc.st.cg (aL x.bc.st.cs)),.f (fi x.bc.st.len),.f (sl x.bc.st.xg (aH x.bc.st.xs))] 0]:aj);have nr:N[E.length]?=aa (.box [.f (fi x.id),.f (fi x.dl),.f (fi x.state),.f (fi x.bc.meet),.f (fi x.bc.room),.f (fi x.bc.eg),.f (fi x.bc.size),.f (sl x.bc.st.cg (aL x.bc.st.cs)),.f (fi x.bc.st.len),.f (sl x.bc.st.xg (aH x.bc.st.xs))] 0):=by rw [v];simp
  have d:Kp H N:=by
   rw [v];exact⟨by have:=A.1;simp;omega,fun l b=>by rw [AT (aqR b A.1)];exact A.2 l b⟩
  have W:LR N c 7 (aD (dE (h.l.take j))):=by rw [v];exact hL.push _
  refine aG ?_;apply ai;simp [X,J,bF,hj,M];rw [←v];apply ak;refine al (.inl rfl) ?_;simp [nr];cases q:Aa x
  case false=>
   have e_:dE (h.l.take (j+1))=dE (h.l.take j):=by rw [a8];simp [dE,ash,q]
   have O:x.state≠1:=fun e=>by simp [Aa,e]at q
   have h2:x.state≠2:=fun e=>by simp [Aa,e]at q
   simp [O,h2,nr];refine aC (by simp) (aO (av (next _ _ ⟨by simp [F],by simp [J],d,c,by simp [I],by rw [e_];exact W,z⟩ (by simp [X]) (by simp [hb]))))
  case true=>
   have a_:dE (h.l.take (j+1))=dE (h.l.take j)++[x.bc]:=by rw [a8];simp [dE,ash,q]
   obtain⟨H4,g⟩:=aK (N++[.box (x.bc.row.map .f) 0]:aj);have B:(dE (h.l.take j)).length≤30:=by
    have O:(dE (h.l.take j)).length≤(h.l.take j).length:=by simp only [dE,aqr];exact arF _ _
    have h2:(h.l.take j).length≤h.l.length:=by rw [aqP];omega
    omega
   have c_:LR H4 c 7 (aD (dE (h.l.take j))):=by rw [g];exact W.push _
   obtain⟨c2,H5,m,d9,U,Z⟩:=c_.app (bt _) (by decide) (row:=x.bc.row) rfl (bytes:=88) (lT (by simp;omega) (by decide)) (b1:=N.length) (fl1:=0) (by rw [g];simp);have L:Kp H H4:=by
    rw [g];exact⟨by have:=d.1;simp;omega,fun l b=>by rw [AT (aqR b d.1)];exact d.2 l b⟩
   have d_:Kp H H5:=⟨aqF L.1 U.1,fun l b=>by
    have hy:=By b;rw [U.2 l H[l] (by rw [L.2 l b,hy]) (fun e=>by have:=z l e;omega),hy]⟩
   simp only [aA.row]at g m;simp at g m;have S:∀ t:T,t.g 1=.c (.f (sl g0 (aD l0)))→t.g 9=.c (.f (sl h.lg (aM h.l)))→t.g 5=.c c→t.g 7=.c (.ptr E.length 0 0)→t.g 10=vi h.l.length→t.g 11=vi j →
     WP tab 41 ab [.code yM,.inBlock 1,.code (rE 11 28),.inLoop (il 0 11 10 12 28 yL),.inBlock 0,.code yN] ⟨t,[],N⟩ Q:=by
    intro t F J I g7 b9 b_;refine al (.inl rfl) ?_;simp [I,g7,nr,←g,m];refine av (next _ _ ⟨by simp [F],by simp [J],d_,c2,by simp,?_,fun i hi=>?_⟩ (by simp [b_]) (by simp [b9]))
    ·rw [a_];have e:aD (dE (h.l.take j)++[x.bc])=aD (dE (h.l.take j))++[x.bc.row]:=by simp [aD]
     rw [e];exact d9
    ·rcases Z with h | h
     ·rw [h]at hi;exact z i hi
     ·rw [h]at hi;cases hi;exact L.1
   by_cases O:x.state=1
   ·simp [O];exact aq (by simp) (S _ (by simp [F]) (by simp [J]) (by simp [I]) (by simp) (by simp [hb]) (by simp [X]))
   ·have h2:x.state=2:=by simp [Aa]at q;omega
    simp [O,h2,nr];exact aq (by simp) (S _ (by simp [F]) (by simp [J]) (by simp [I]) (by simp) (by simp [hb]) (by simp [X]))
 ·rintro t E ⟨F,J,A,c,I,hL,z⟩ X hb;rw [ap1 (aft _)]at hL;have B:(dE h.l).length≤30:=by
   have O:(dE h.l).length≤h.l.length:=by simp only [dE,aqr];exact arF _ _
   omega
  obtain⟨r,H2,he,u,rfl,d,hO,Y⟩:=C3 hL B (g0:=g0) (l0:=l0) (h0:=h0) (hsm:=fun s a7=>by
   simp only [dE,aqJ,List.mem_filter]at a7;obtain⟨y,⟨hy,_⟩,rfl⟩:=a7;exact hs y hy)
  have he:=he.eq;apply ai;simp [F,I,he];exact aB (hQ _ _ (.c u) rfl (by simp [Km.results,bg]) ⟨u,rfl,⟨aqF A.1 d.1,fun l b=>by rw [d.2 l (aqR b A.1)];exact A.2 l b⟩,hO,fun i hi=>aqF A.1 (Y i hi)⟩)
def sσ:Bd:={ pdq:=0,ins:=134,heap:=0,apG:=0,brk:=0,piv:=0,rev:=0,part:=0,peq:=0,pins:=0,apx:=0,med:=0,ord:=0,npt:=0,nxt:=0,len:=0,ak':=75,pB:=135,rot:=207,swr:=281 }
theorem afY{H:aj}(v:V):∃ r H',Ev tab (.fn 134) [v,vi 0,vi 0,.c (.f (.fn 43 []))] H r H'∧(r=.t []∧H'=H):=by
 refine cB rfl rfl fun Q b=>?_;apply ai;simp [aV (n:=(1:Int))];refine aG (gT ?_);apply ak;apply ai;simp;refine aC (by simp) ?_;refine bH (k':=[]) rfl ?_;exact cD (b _ _ _ rfl rfl ⟨rfl,rfl⟩)
theorem aay{H:aj}(v:V):∃ r H',Ev tab (.fn 75) [v,vi 0,.c (.f (.fn 43 []))] H r H'∧(r=.t []∧H'=H):=by
 obtain⟨r,H',b,rfl,rfl⟩:=afY (H:=H) v;have b:=b.eq;refine cB rfl rfl fun Q d=>?_;apply ai;simp;apply ai;simp;apply ak;refine aG (gT ?_);apply ak;apply ai;simp;refine aC (by simp) ?_;refine bH (k':=[.code vB]) rfl ?_;apply ai;simp [b];refine aG (gT ?_);apply ak;apply ai;simp;refine aC (by simp) ?_;refine bH (k':=[]) rfl ?_;exact cD (d _ _ _ rfl rfl ⟨rfl,rfl⟩)
theorem A9{o:List aA}{n:Nat}(g:o.length=n)(h:Up Cz 0 n (aD o)):o.Pairwise kJ:=by
 rw [aq9];intro i j hi d b;have:=h i j o[i].row o[j].row (by omega) b (by omega) (et hi) (et d);rw [xW]at this;exact this
theorem ag3{H:aj}{c:C}{o:List aA}(A:LR H c 7 (aD o))(L:o.length<40):∃ r H',Ev tab (.fn 42) [.c c,.c (.f (.fn 43 []))] H r H' ∧
  (r=.t []∧Kb H H' c∧∃ o',LR H' c 7 (aD o')∧o'.Perm o∧o'.Pairwise kJ):=by
 have d:=A.len;simp at d;rcases A with⟨J,I⟩ | ⟨y,B,ep,rfl,F⟩
 ·have z:o=[]:=by simpa [aD]using J
  subst z;obtain⟨r,H',g,rfl,rfl⟩:=aay (H:=H) (.c c);have g:=g.eq;refine cB (C:=fun r j=>r=.t []∧Kb H' j c∧∃ o',LR j c 7 (aD o')∧o'.Perm []∧o'.Pairwise kJ) X6 rfl fun Q x=>?_;refine al (.inl rfl) ?_;simp at d;simp [d,g];exact cD (x _ _ (.t []) rfl rfl ⟨rfl,Kb.refl _ _,[],.inl ⟨rfl,I⟩,.refl _,.nil⟩)
 ·have l:(aD o).length=o.length:=by simp
  obtain⟨r,H',g,rfl,K,l',v,M,N⟩:=ahe (σ:=sσ) (tab:=tab) (sz:=7) (b:=B) (ep:=ep) (H:=H) (rows:=aD o) (n:=o.length) ajB ajz ajD ajA ajC YD My l L F (bt o) (fun r E=>by
   simp only [aD,aqJ]at E;obtain⟨s,_,rfl⟩:=E;exact⟨s,rfl⟩)
  have g:=g.eq;obtain⟨o',rfl,u⟩:=ZQ M o rfl;have q:o'.length=o.length:=u.length_eq;rw [l]at d ⊢;refine cB (C:=fun r j=>r=.t []∧Kb H j (.sl B 0 o.length 0 ep 7)∧∃ o',LR j (.sl B 0 o.length 0 ep 7) 7 (aD o')∧o'.Perm o∧o'.Pairwise kJ) X6 rfl fun Q x=>?_;refine al (.inl rfl) ?_;have m:Ev tab (.fn 75) [.c (.sl B 0 o.length 0 ep 7),vi o.length,.c (.f (.fn 43 []))] H=E2 (.t []) H':=g;simp [d,m];refine cD (x _ ⟨_,[],H'⟩ (.t []) rfl rfl ⟨rfl,Kb.anA K,o',.inr ⟨?_,B,ep,?_,v⟩,u,A9 q N⟩)
  ·intro e;have h0:o'.length=0:=by have:=congrArg List.length e;simpa [aD]using this
   exact y (List.length_eq_zero_iff.1 (by rw [l];omega))
  ·have:(aD o').length=o.length:=by simp [q]
   rw [this]
def iw:dv:=⟨0,0,.nil,[]⟩
def Chg(F:Nat)(b:List FC)(h:dv)(e:Int)(res:dv):Prop:=
 ∀(H:aj) (p:Nat) (c:C),H[p]?=aa (.box [.f (fi h.clock),.f (fi h.bJ),c] 0)→LR H c 10 (aM h.l)→bB c≠aa p →
  ∃ r H',Ev tab (.fn F) (.c (.ptr p 0 0)::b.map fun x=>.c (.f x)) H r H'∧r=vi e∧H.length≤H'.length∧(∀ i y,H[i]?=aa y→i≠p→bB c≠aa i→H'[i]?=aa y) ∧
   (e=0→H'[p]?=aa (.box [.f (fi res.clock),.f (fi res.bJ),c] 0)∧LR H' c 10 (aM res.l))
theorem vK(h:dv)(hl:h.l.length≤30)(hs:∀ x ∈ h.l,Fix x.bc){F:Nat}{b:List FC}{e:Int}{res:dv}(Z:Chg F b h e res) :
  ∃(g:Tg) (s:dv),s=(if e=0 then { res with lg:=g }else iw)∧bh tab 50 [.a (h.row.map .f),.c (.f (.fn F b)),vi 0]=Eq (.t [.a (s.row.map .f),vi e]):=by
 obtain⟨r,⟨g,s,N,rfl⟩,hp⟩:∃ r,(∃(g:Tg) (s:dv),s=(if e=0 then { res with lg:=g }else iw)∧r=.t [.a (s.row.map .f),vi e])∧bh tab 50 [.a (h.row.map .f),.c (.f (.fn F b)),vi 0] r:=by
  refine eI rfl rfl fun Q U=>?_;apply ai;simp [dv.row];obtain⟨A,d⟩:=aK ([.box [.f (fi h.clock),.f (fi h.bJ),.f (sl h.lg (aM h.l))] 0,.box [.f (fi 0),.f (fi 0),.f .au] 0]:aj);obtain⟨r,u,E,c,rfl,W,S,hc⟩:=vO h hl hs A;have E:=E.eq;simp [dv.row]at E;have z0:A[0]?=aa (.box [.f (fi h.clock),.f (fi h.bJ),.f (sl h.lg (aM h.l))] 0):=by rw [d];rfl
  have z1:A[1]?=aa (.box [.f (fi 0),.f (fi 0),.f .au] 0):=by rw [d];rfl
  have zl:A.length=2:=by rw [d];rfl
  have X:u[1]?=aa (.box [.f (fi 0),.f (fi 0),.f .au] 0):=by rw [W.2 1 (by omega)];exact z1
  rw [←d];apply ai;simp [z0,E];obtain⟨B,j⟩:=aK (u++[.box [.f (fi h.clock),.f (fi h.bJ),c] 0]:aj);have m1:B[1]?=aa (.box [.f (fi 0),.f (fi 0),.f .au] 0):=by rw [j,AT (an X)];exact X
  have m2:B[u.length]?=aa (.box [.f (fi h.clock),.f (fi h.bJ),c] 0):=by rw [j];simp
  have I:LR B c 10 (aM h.l):=by rw [j];exact S.push _
  have K:bB c≠aa u.length:=fun e=>by have:=S.lt e;omega
  have Y:=W.1;rw [←j];obtain⟨r,O,m,rfl,M,q,z⟩:=Z B u.length c m2 I K;have m:=m.eq;have v:bB c≠aa 1:=fun e=>by have:=hc 1 e;omega
  have H:O[1]?=aa (.box [.f (fi 0),.f (fi 0),.f .au] 0):=q 1 _ m1 (by omega) v;apply ak;apply ai;simp [bQ,m];apply ak;refine al (.inl rfl) ?_;simp;by_cases l:e=0
  case neg=>
   refine aq (by simp [l]) ?_;apply ai;simp [H];refine aB (U _ _ (.t [.a (iw.row.map .f),vi e]) ⟨.nil,iw,by simp [l],rfl⟩ ?_);simp [Km.results,bg,an H,iA,cC,deep,iw,dv.row,sl,Tg.fc,aM]
  subst l;obtain⟨q1,J⟩:=z rfl;obtain⟨g,hg⟩:=J.exU (bK _);refine bp (by simp) ?_;apply ai;simp [H,q1];have L:=hg (O.set 1 (.box [.f (fi res.clock),.f (fi res.bJ),c] 0)) 63 (fun i y hy hi=>by
   have:(1:Nat)≠i:=by rintro rfl;exact v hi
   rw [AI this];exact hy)
  refine aB (U _ _ (.t [.a ((⟨res.clock,res.bJ,g,res.l⟩:dv).row.map .f),vi 0]) ⟨g,⟨res.clock,res.bJ,g,res.l⟩,by simp,rfl⟩ ?_);simp [Km.results,bg,an H,iA,cC,deep,dv.row,L]
 exact⟨g,s,N,hp.eq⟩
def cS(clk:Int)(x:bz):bz:=if x.state=1∧x.dl<clk then { x with state:=4 }else x
def eu(clk:Int)(j:Nat)(l:List bz):List bz:=(l.take j).map (cS clk)++l.drop j
theorem jd{clk:Int}{j:Nat}{l:List bz}:(eu clk j l).length=l.length:=by
 simp [eu];omega
theorem wU{clk:Int}{j:Nat}{l:List bz}(b:j<l.length):(eu clk j l)[j]?=aa l[j]:=by
 unfold eu;rw [List.getElem?_append_right (by simp;omega)];simp [show min j l.length=j by omega,b]
theorem ru{clk:Int}{j:Nat}{l:List bz}(b:j<l.length):eu clk (j+1) l=(eu clk j l).set j (cS clk l[j]):=by
 unfold eu;have d:((l.take j).map (cS clk)).length=j:=by simp;omega
 rw [List.set_append_right _ _ (by omega),d,Nat.sub_self,apw b,List.take_succ_eq_append_getElem b];simp only [List.map_append,aqz,aqK,aqZ,art,ars,List.set_cons_zero]
theorem C2{clk:Int}{l:List bz}:eu clk l.length l=l.map (cS clk):=by simp [eu]
def gY(h:dv)(clk:Int):Int:=if ee h=ag∨clk<h.clock∨2251799813685248<clk then 1 else 0
theorem aaH(h:dv)(hl:h.l.length≤30)(clk:Int):Chg 51 [.fp [fi h.clock,fi h.bJ,sl h.lg (aM h.l)] 0,.fp [fi clk] 0] h (gY h clk) ⟨clk,h.bJ,.nil,h.l.map (cS clk)⟩:=by
 intro H p c hp hL Y;have hv:=qB h hl;simp [dv.row]at hv;have e1:∀ H:aj,aU H (aa 3) (.c (.f (.fp [fi h.clock,fi h.bJ,sl h.lg (aM h.l)] 0)))=aa (.a [.f (fi h.clock),.f (fi h.bJ),.f (sl h.lg (aM h.l))]):=fun _=>rfl;have e2:∀ H:aj,aU H ab (.c (.f (.fp [fi h.clock,fi h.bJ,sl h.lg (aM h.l)] 0)))=aa (vi h.clock):=fun _=>rfl;have O:∀ H:aj,aU H ab (.c (.f (.fp [fi clk] 0)))=aa (vi clk):=fun _=>rfl;refine cB (C:=fun r H'=>r=vi (gY h clk)∧H.length≤H'.length∧(∀ i y,H[i]?=aa y→i≠p→bB c≠aa i→H'[i]?=aa y) ∧
   (gY h clk=0→H'[p]?=aa (.box [.f (fi clk),.f (fi h.bJ),c] 0)∧LR H' c 10 (aM (h.l.map (cS clk))))) amO rfl fun Q hQ=>?_
 have bad:gY h clk=1→∀ t:T,t.g 19=vb ae→WP tab 51 ab [.code C',.code C_] ⟨t,[],H⟩ Q:=by
  intro he t g;refine aq (by simp [g]) (ai ?_);simp;exact aB (hQ _ _ (vi 1) rfl (by simp [Km.results,bg]) ⟨by rw [he],aft _,fun i y hy _ _=>hy,fun e=>by rw [he]at e;cases e⟩)
 apply ai;simp;apply ak;apply ak;refine al (.inl rfl) ?_;simp [e1,hv];cases u:ee h
 case false=>
  simp;exact bad (by simp [gY,u]) _ (by simp)
 by_cases k1:clk<h.clock
 ·simp [e2,O,k1];exact bad (by simp [gY,k1]) _ (by simp)
 by_cases k2:2251799813685248<clk
 ·simp [e2,O,k1,k2];exact bad (by simp [gY,k2]) _ (by simp)
 simp [e2,O,k1,k2];have he:gY h clk=0:=by simp [gY,u,k1,k2]
 refine bp (by simp) ?_;obtain⟨H1,d⟩:=aK (H.set p (.box [.f (fi clk),.f (fi h.bJ),c] 0):aj);have z1:H1[p]?=aa (.box [.f (fi clk),.f (fi h.bJ),c] 0):=by rw [d];exact IN (an hp)
 have W:LR H1 c 10 (aM h.l):=by rw [d];exact hL.set Y _
 have f7:H1.length=H.length:=by rw [d];simp
 have e_:∀ i y,H[i]?=aa y→i≠p→bB c≠aa i→H1[i]?=aa y:=fun i y hy hi _=>by rw [d,AI (Ne.symm hi)];exact hy
 apply ai;simp [O,hp];rw [←d];apply ak;have b9:=W.len;simp at b9;apply ai;simp [z1,b9];refine bM h.l.length (fun j t m=>t.g 0=.c (.ptr p 0 0)∧t.g 2=.c (.f (.fp [fi clk] 0))∧m[p]?=aa (.box [.f (fi clk),.f (fi h.bJ),c] 0)∧LR m c 10 (aM (eu clk j h.l))∧H.length≤m.length∧(∀ i y,H[i]?=aa y→i≠p→bB c≠aa i→m[i]?=aa y)) (by omega) (by decide) (by decide) (by simp) (by simp)
  ⟨by simp,by simp,z1,by simpa [eu]using W,by omega,e_⟩ ?_ ?_
 ·rintro j t m S ⟨g0,l,z2,q,I,s⟩ ha hb next
  rcases q with⟨d_,_⟩ | ⟨f_,B,ep,rfl,u⟩
  ·have:(eu clk j h.l).length=0:=by have:=congrArg List.length d_;simpa [aM]using this
   rw [jd]at this;omega
  obtain⟨x,hx⟩:=aK (h.l[j]);have b_:(aM (eu clk j h.l)).length=h.l.length:=by simp [jd]
  have F:(aM (eu clk j h.l))[j]?=aa x.row:=by rw [hx];simp [aM,wU S]
  have a_:=u.at (show j<(aM (eu clk j h.l)).length by omega);have J:=u.ldc (k:=2) (x:=fi x.state) (bK _) F rfl;have Z:=u.ldc (k:=1) (x:=fi x.dl) (bK _) F rfl;obtain⟨H4,v,U,a7,i4⟩:=u.stp (k:=2) (xs:=[fi 4]) (bK _) F (by decide);have g_:over x.row 2 [fi 4]=(bz.row { x with state:=4 }):=rfl;rw [g_,kh]at U;have c_:B≠p:=fun e=>Y (by rw [e];rfl);have d9:aU m ab (.c (.ptr p 2 0))=aa (.c (.sl B 0 h.l.length 0 ep 10)):=by simp [z2,aT,b_]
  simp only [b_]at *;refine aG ?_;apply ai;simp [ha];apply ai;simp [g0,d9,a_,-az];have no:cS clk x=x→∀ b:T,b.g 0=.c (.ptr p 0 0)→b.g 2=.c (.f (.fp [fi clk] 0))→b.g 29=vi j→b.g 28=t.g 28→b.g 50=vb ag →
    WP tab 51 ab [.code sj,.inBlock 1,.code sk,.inLoop si,.inBlock 0,.code sq] ⟨b,[],m⟩ Q:=by
   intro L b g0 l A z E;have K:eu clk (j+1) h.l=eu clk j h.l:=by
    rw [ru S,←hx,L];obtain⟨f8,a8⟩:=List.getElem?_eq_some_iff.1 (wU (clk:=clk) S);rw [←hx]at a8
    conv=>lhs;rw [←a8]
    exact arE f8
   refine aC (by simp [E]) (aO (av (next _ _ ⟨by simp [g0],by simp [l],z2,?_,I,s⟩ (by simp [A]) (by simp [z,hb]))));rw [K];exact .inr ⟨f_,B,ep,by simp [jd],u⟩
  have h_:x.state=1→x.dl<clk→∀ b:T,b.g 0=.c (.ptr p 0 0)→b.g 2=.c (.f (.fp [fi clk] 0))→b.g 29=vi j→b.g 28=t.g 28→b.g 6=.c (.ptr B (j*10) ep)→b.g 50=vb ae →
    WP tab 51 ab [.code sj,.inBlock 1,.code sk,.inLoop si,.inBlock 0,.code sq] ⟨b,[],m⟩ Q:=by
   intro M N b g0 l A z g6 E;have L:cS clk x = { x with state:=4 }:=ba ⟨M,N⟩;have K:eu clk (j+1) h.l=(eu clk j h.l).set j { x with state:=4 }:=by rw [ru S,←hx,L]
   refine aq (by simp [E]) ?_;refine al (.inl rfl) ?_;simp only [aqz,aqK]at v;simp [g6,v,-bf];refine av (next _ _ ⟨by simp [g0],by simp [l],a7.get z2 (Ne.symm c_),?_,by omega,fun i y hy hi X=>a7.get (s i y hy hi X) (fun e=>X (by rw [e];rfl))⟩ (by simp [A]) (by simp [z,hb]));rw [K];refine .inr ⟨fun e=>?_,B,ep,by simp [jd],U⟩;have:=congrArg List.length e;simp [jd]at this;rw [this]at S;simp at S
  apply ak;refine al (.inl rfl) ?_;by_cases M:x.state=1
  ·by_cases N:x.dl<clk
   ·simp [J,Z,M,N,l,O,-az];exact h_ M N _ (by simp [g0]) (by simp [l]) (by simp [ha]) (by simp) (by simp) (by simp)
   ·simp [J,Z,M,N,l,O,-az];exact no (aW fun e=>N e.2) _ (by simp [g0]) (by simp [l]) (by simp [ha]) (by simp) (by simp)
  ·simp [J,M,-az];exact no (aW fun e=>M e.1) _ (by simp [g0]) (by simp [l]) (by simp [ha]) (by simp) (by simp)
 ·rintro t m ⟨g0,l,z2,q,I,s⟩ - -;apply ai;simp;rw [C2]at q;exact aB (hQ _ _ (vi 0) rfl (by simp [Km.results,bg]) ⟨by rw [he],I,s,fun _=>⟨z2,q⟩⟩)
theorem pC(h:dv)(m:h.l.length≤30)(v:∀ x ∈ h.l,Fix x.bc)(clk:Int):∃(g:Tg) (j:dv),j=(if gY h clk=0 then⟨clk,h.bJ,g,h.l.map (cS clk)⟩else iw) ∧
  bh tab 18 [.a (h.row.map .f),vi clk]=Eq (.t [.a (j.row.map .f),vi (gY h clk)]):=by
 obtain⟨g,j,l,d⟩:=vK h m v (aaH h m clk);refine⟨g,j,l,bh.eq ?_⟩;refine bS rfl rfl fun Q u=>?_;simp [dv.row]at d;apply ai;simp [dv.row];obtain⟨s,b⟩:=aK (fT 64 (C.cl 51 [C.ptr 0 0 0,C.ptr 1 0 0]) [bo.box [C.f (fi h.clock),C.f (fi h.bJ),C.f (sl h.lg (aM h.l))] 0,bo.box [vi clk |> fun _=>C.f (fi clk)] 0,bo.box [C.f (fi 0),C.f (fi 0),C.f FC.au] 0]:aj);have q:s[2]?=aa (.box [C.f (fi 0),C.f (fi 0),C.f FC.au] 0):=by rw [b];rfl
 apply ai;simp [lk,iA,cC,deep,d];simp at b;rw [←b];simp [q];refine aB (u _ _ ?_);simp [Km.results,bg,an q,iA,cC,deep,dv.row]
def tc(id:Int)(l:List bz):Option Nat:=l.findIdx? fun x=>decide (x.id=id)
theorem vX{id:Int}{l:List bz}{i:Nat}(h:tc id l=aa i):∃ hi:i<l.length,l[i].id=id:=by
 unfold tc at h;rw [arw]at h;obtain⟨hi,b,_⟩:=h;exact⟨hi,by simpa using b⟩
theorem vW{id:Int}{l:List bz}(h:∀ q (b:q<l.length),l[q].id≠id):tc id l=ab:=by
 unfold tc;rw [List.findIdx?_eq_none_iff];intro x d;obtain⟨q,b,rfl⟩:=aq2 d;simp [h q b]
theorem afK{id:Int}{l:List bz}{i:Nat}(hi:i<l.length)(b:l[i].id=id)(h:∀ q (g:q<l.length),q<i→l[q].id≠id):tc id l=aa i:=by
 unfold tc;rw [arw];exact⟨hi,by simpa using b,fun j d=>by simpa using h j (by omega) d⟩
def ei(h:dv)(id:Int):Int:=if ee h=ag then 1 else match tc id h.l with
 | none=>4
 | some i=>match h.l[i]? with
  | none=>4| some x=>if x.state=1 then 0 else 7
def ak4(i:Nat)(b:Int)(l:List bz):List bz:=match l[i]? with
 | none=>l| some x=>l.set i { x with state:=b }
def jW(h:dv)(id b:Int):dv:=⟨h.clock,h.bJ,.nil,match tc id h.l with
 | none=>h.l
 | some i=>ak4 i b h.l⟩
theorem vV{h:dv}(u:ee h=ae){id:Int}{i:Nat}(b:∀ j (x:j<h.l.length),j<i→h.l[j].id<id)(m:∀ j (x:j<h.l.length),i≤j→id≤h.l[j].id):tc id h.l=if rP h.l i id then aa i else ab:=by
 have v:gC h.clock 0 h.l=ae:=by
  unfold ee at u;simp only [If]at u;exact u.2
 have g:=(qz v).2;rw [aq9]at g;by_cases hi:i<h.l.length
 ·by_cases l:h.l[i].id=id
  ·have:rP h.l i id=ae:=by simp [rP,hi,l]
   rw [this,ba rfl];exact afK hi l fun q d s=>by have:=b q d s;omega
  ·have:rP h.l i id=ag:=by simp [rP,hi,l]
   rw [this,aW (by simp)];refine vW fun q d=>?_;rcases arv q i with k | k | k
   ·have:=b q d k;omega
   ·subst k;exact l
   ·have:=g i q hi d k;have:=m i hi (aft _);omega
 ·have:rP h.l i id=ag:=by simp [rP,List.getElem?_eq_none (by omega:h.l.length≤i)]
  rw [this,aW (by simp)];exact vW fun q d=>by have:=b q d (by omega);omega
theorem aaK(h:dv)(hl:h.l.length≤30)(id l:Int):Chg 96 [.fp [fi h.clock,fi h.bJ,sl h.lg (aM h.l)] 0,.fp [fi id] 0,.fp [fi l] 0] h (ei h id) (jW h id l):=by
 intro H p c hp hL S;have hv:=qB h hl;simp [dv.row]at hv;have e1:∀ H:aj,aU H (aa 3) (.c (.f (.fp [fi h.clock,fi h.bJ,sl h.lg (aM h.l)] 0)))=aa (.a [.f (fi h.clock),.f (fi h.bJ),.f (sl h.lg (aM h.l))]):=fun _=>rfl;have e2:∀ H:aj,aU H ab (.c (.f (.fp [fi id] 0)))=aa (vi id):=fun _=>rfl;have e3:∀ H:aj,aU H ab (.c (.f (.fp [fi l] 0)))=aa (vi l):=fun _=>rfl;refine cB (C:=fun r H'=>r=vi (ei h id)∧H.length≤H'.length∧(∀ i y,H[i]?=aa y→i≠p→bB c≠aa i→H'[i]?=aa y) ∧
   (ei h id=0→H'[p]?=aa (.box [.f (fi (jW h id l).clock),.f (fi (jW h id l).bJ),c] 0)∧LR H' c 10 (aM (jW h id l).l))) amQ rfl fun Q hQ=>?_
 have A:ei h id≠0→∀(t:T) (k:List cU) ,t.g 5=vi (ei h id)→WP tab 96 ab (.code .ret::k) ⟨t,[],H⟩ Q:=by
  intro j t k g;exact aB (hQ _ _ (vi (ei h id)) rfl (by simp [Km.results,bg,g]) ⟨rfl,aft _,fun i y hy _ _=>hy,fun e=>absurd e j⟩)
 apply ai;simp;apply ak;apply ak;refine al (.inl rfl) ?_;simp [e1,hv];cases E:ee h
 case false=>
  refine aq (by simp) (ai ?_);have j:ei h id=1:=by simp [ei,E]
  simp;exact A (by rw [j];decide) _ _ (by rw [j];simp)
 refine bp (by simp) ?_;obtain⟨i,hi,X,W,m⟩:=DK h hl E id;have b:=vV E X W;simp [dv.row]at m;apply ai;simp [e1,e2,m];apply ak;refine aG ?_;apply ak;refine al (.inl rfl) ?_;simp;cases hf:rP h.l i id
 case false=>
  rw [hf]at b;simp at b;have j:ei h id=4:=by simp [ei,E,b]
  refine aq (by simp) (ai ?_);simp;exact A (by rw [j];decide) _ _ (by rw [j];simp)
 rw [hf]at b;simp at b;have s:i<h.l.length:=(vX b).1;have q:=s;obtain⟨x,hx⟩:=aK (h.l[i]);have L:x.state=h.l[i].state:=by rw [hx]
 rcases hL with⟨U,_⟩ | ⟨a8,B,ep,rfl,v⟩
 ·have:h.l.length=0:=by have:=congrArg List.length U;simpa [aM]using this
  omega
 have Z:(aM h.l).length=h.l.length:=by simp
 have I:(aM h.l)[i]?=aa x.row:=by rw [hx];exact dR q
 have d:=v.at (show i<(aM h.l).length by omega);have K:=v.ldc (k:=2) (x:=fi x.state) (bK _) I rfl;obtain⟨H4,u,F,J,a7⟩:=v.stp (k:=2) (xs:=[fi l]) (bK _) I (by simp);simp only [aqz,aqK]at u;have Y:over x.row 2 [fi l]=(bz.row { x with state:=l }):=rfl;rw [Y,kh]at F;have N:B≠p:=fun e=>S (by rw [e];rfl);have z:aU H ab (.c (.ptr p 2 0))=aa (.c (.sl B 0 h.l.length 0 ep 10)):=by simp [hp,aT]
 rw [Z]at d;refine aC (by simp) ?_;apply ai;by_cases M:x.state=1
 case neg=>
  have j:ei h id=7:=by simp [ei,E,b,s,←L,M]
  simp [z,d,K,M,-az];refine aq (by simp) (ai ?_);simp;exact A (by rw [j];decide) _ _ (by rw [j];simp)
 have j:ei h id=0:=by simp [ei,E,b,s,←L,M]
 simp [z,d,K,M,-az];refine aC (by simp) (aO (av ?_));apply ai;simp [z,d,e3,u,-az,-bf];apply ai;simp;refine aB (hQ _ _ (vi 0) rfl (by simp [Km.results,bg]) ⟨by rw [j],by show H.length≤H4.length;omega,fun i y hy hi O=>J.get hy (fun e=>O (by rw [e];rfl)),fun _=>⟨J.get hp (Ne.symm N),?_⟩⟩);have h1:(jW h id l).l=h.l.set i { x with state:=l }:=by simp [jW,b,ak4,s,hx]
 rw [h1];refine .inr ⟨fun e=>?_,B,ep,by simp,F⟩;have:=congrArg List.length e;simp at this;rw [this]at q;simp at q
theorem Ew(h:dv)(q:h.l.length≤30)(y:∀ x ∈ h.l,Fix x.bc)(id l:Int):∃(g:Tg) (j:dv),j=(if ei h id=0 then { jW h id l with lg:=g }else iw) ∧
  bh tab 52 [.a (h.row.map .f),vi id,vi l]=Eq (.t [.a (j.row.map .f),vi (ei h id)]):=by
 obtain⟨g,j,m,d⟩:=vK h q y (aaK h q id l);refine⟨g,j,m,bh.eq ?_⟩;refine bS rfl rfl fun Q v=>?_;simp [dv.row]at d;apply ai;simp [dv.row];obtain⟨u,b⟩:=aK (fT 64 (C.cl 96 [C.ptr 0 0 0,C.ptr 1 0 0,C.ptr 2 0 0]) [bo.box [C.f (fi h.clock),C.f (fi h.bJ),C.f (sl h.lg (aM h.l))] 0,bo.box [C.f (fi id)] 0,bo.box [C.f (fi l)] 0,bo.box [C.f (fi 0),C.f (fi 0),C.f FC.au] 0]:aj);have s:u[3]?=aa (.box [C.f (fi 0),C.f (fi 0),C.f FC.au] 0):=by rw [b];rfl
 apply ai;simp [lk,iA,cC,deep,d];rw [←b];simp [s];refine aB (v _ _ ?_);simp [Km.results,bg,an s,iA,cC,deep,dv.row]
theorem BL(h:dv)(m:h.l.length≤30)(q:∀ x ∈ h.l,Fix x.bc)(id:Int):∃(g:Tg) (d:dv),d=(if ei h id=0 then { jW h id 2 with lg:=g }else iw) ∧
  bh tab 33 [.a (h.row.map .f),vi id]=Eq (.t [.a (d.row.map .f),vi (ei h id)]):=by
 obtain⟨g,d,j,b⟩:=Ew h m q id 2;refine⟨g,d,j,bh.eq ?_⟩;refine bS rfl rfl fun Q l=>?_;simp [dv.row]at b;apply ai;simp [dv.row];apply ai;simp [b];refine aB (l _ _ ?_);simp [Km.results,bg,iA,cC,deep,dv.row]
theorem CN(h:dv)(m:h.l.length≤30)(q:∀ x ∈ h.l,Fix x.bc)(id:Int):∃(g:Tg) (d:dv),d=(if ei h id=0 then { jW h id 3 with lg:=g }else iw) ∧
  bh tab 22 [.a (h.row.map .f),vi id]=Eq (.t [.a (d.row.map .f),vi (ei h id)]):=by
 obtain⟨g,d,j,b⟩:=Ew h m q id 3;refine⟨g,d,j,bh.eq ?_⟩;refine bS rfl rfl fun Q l=>?_;simp [dv.row]at b;apply ai;simp [dv.row];apply ai;simp [b];refine aB (l _ _ ?_);simp [Km.results,bg,iA,cC,deep,dv.row]
def okX(b:Int)(x:bz):Prop:=1≤x.state∧x.state≤4∧0≤x.dl∧x.dl≤2251799813685248∧¬ (x.state=1∧x.dl<b)
theorem M'{b d:Int}{x:bz}:iY b d x=ae↔okX b x∧d<x.id:=by
 simp only [iY,lK,okX,If,decide_eq_true_eq,Bool.not_eq_true',Bool.and_eq_false_iff,decide_eq_false_iff_not];omega
theorem tj{b:Int}:∀ {last:Int} {l:List bz},gC b last l=ae↔(∀ x ∈ l,okX b x∧last<x.id)∧l.Pairwise fun x y=>x.id<y.id
 | _,[]=>by simp [gC]
 | last,x::r=>by
  rw [gC,If,M',tj,arj];constructor
  ·rintro⟨⟨j,m⟩,g,q⟩;refine⟨fun y d=>?_,fun y d=>(g y d).2,q⟩;rcases aqA.1 d with rfl | d
   ·exact⟨j,m⟩
   ·exact⟨(g y d).1,by have:=(g y d).2;omega⟩
  ·rintro⟨j,m,g⟩;exact⟨j x aqv,fun y d=>⟨(j y (aqt _ d)).1,m y d⟩,g⟩
def qJ(m r t z n p mi le:Int):aA:=⟨m,r,t,z,⟨.fs,[⟨.fs,[⟨.fs,[⟨.nil,[],0,n,.fs,[p]⟩]⟩],mi⟩],le,.nil,[]⟩⟩
structure ao3(m r t z n p mi le:Int):Prop where
 m0:1≤m
 m1:m≤22
 r0:0≤r
 r1:r≤2
 t0:0≤t
 t1:t≤2
 z0:1≤z
 z1:z≤12
 n0:1≤n
 n1:n≤6
 p0:0≤p
 p1:p<n
 i0:∃ k:Nat,k<60∧mi=20*k
 l0:10≤le
 l1:le≤300
def kQ(s:aA):Prop:=∃ m r t z n p mi le,s=qJ m r t z n p mi le∧ao3 m r t z n p mi le
structure rz(h:dv):Prop where
 v:ee h=ae
 c0:100≤h.clock
 c1:h.clock≤100000
 d:h.bJ=5
 f:∀ x ∈ h.l,(1≤x.id∧x.id≤8∨x.id=100)∧kQ x.bc
theorem ew{h:dv}:ee h=ae↔lK h.clock=ae∧lK h.bJ=ae∧(∀ x ∈ h.l,okX h.clock x∧0<x.id)∧h.l.Pairwise fun x y=>x.id<y.id:=by
 rw [ee,If,If,tj,and_assoc]
theorem aaP:∀ {l:List Int} {lo hi:Int},l.Pairwise (· < ·)→(∀ x ∈ l,lo≤x∧x≤hi)→lo≤hi+1→(l.length:Int)≤hi+1-lo
 | [],lo,hi,_,_,h=>by simp;omega
 | x::r,lo,hi,j,d,h=>by
  have b:=arj.1 j;have m:=d x aqv;have:=aaP (lo:=x+1) (hi:=hi) b.2 (fun y g=>⟨by have:=b.1 y g;omega,(d y (aqt _ g)).2⟩) (by omega);simp only [List.length_cons];omega
theorem rz.len{h:dv}(k:rz h):h.l.length≤9:=by
 have d:=(ew.1 k.v).2.2.2;have:=aaP (l:=h.l.map fun x=>if x.id=100 then 9 else x.id) (lo:=1) (hi:=9) (by
  rw [asl];refine List.Pairwise.imp_of_mem (fun {x y} b hy g=>?_) d;have h1:=(k.f x b).1;have h2:=(k.f y hy).1;split<;>split<;>omega) (fun y hy=>by
  obtain⟨x,b,rfl⟩:=aqJ.1 hy;have h1:=(k.f x b).1;split<;>omega) (by omega)
 simp at this;omega
theorem akz{n:Int}(h0:0≤n)(b:n≤2251799813685248):lK n=ae:=by simp [lK,h0,b]
theorem Eu{h:dv}(k:rz h){c:Int}(h0:h.clock≤c)(l:c≤100000)(g:Tg):rz ⟨c,h.bJ,g,h.l.map (cS c)⟩:=by
 obtain⟨u,m,q,s⟩:=ew.1 k.v;have k0:=k.c0;have id:∀ x:bz,(cS c x).id=x.id∧(cS c x).bc=x.bc:=fun x=>by unfold cS;split<;>exact⟨rfl,rfl⟩
 refine⟨ew.2 ⟨akz (by show 0≤c;omega) (by show c≤_;omega),m,fun y j=>?_,?_⟩,by show 100≤c;omega,l,k.d,fun y j=>?_⟩
 ·obtain⟨x,d,rfl⟩:=aqJ.1 j;obtain⟨a,b⟩:=q x d;refine⟨?_,by rw [(id x).1];exact b⟩;unfold okX at *;unfold cS;split
  ·rename_i e;simp only;omega
  ·rename_i e;refine⟨a.1,a.2.1,a.2.2.1,a.2.2.2.1,e⟩
 ·show(h.l.map (cS c)).Pairwise _;rw [asl];exact List.Pairwise.imp (fun {x y} e=>by rw [(id x).1,(id y).1];exact e) s
 ·obtain⟨x,d,rfl⟩:=aqJ.1 j;rw [(id x).1,(id x).2];exact k.f x d
theorem ahl{h:dv}(k:rz h){id b:Int}(B:b=2∨b=3)(g:Tg):rz { jW h id b with lg:=g }:=by
 obtain⟨u,v,q,z⟩:=ew.1 k.v;unfold jW;cases A:tc id h.l with
 | none=>exact⟨ew.2 ⟨u,v,q,z⟩,k.c0,k.c1,k.d,k.f⟩
 | some i=>
  obtain⟨hi,-⟩:=vX A;simp only [ak4,By hi];have l:∀ y ∈ h.l.set i { h.l[i]with state:=b },∃ x ∈ h.l,y=x∨y = { x with state:=b }:=fun y j=>by
   rcases List.mem_or_eq_of_mem_set j with h | rfl
   ·exact⟨y,h,.inl rfl⟩
   ·exact⟨h.l[i],anc hi,.inr rfl⟩
  have d:(h.l.set i { h.l[i]with state:=b }).map bz.id=h.l.map bz.id:=by
   rw [List.map_set];have:(bz.id { h.l[i]with state:=b })=(h.l.map bz.id)[i]'(by simpa using hi):=by simp
   rw [this,arE]
  refine⟨ew.2 ⟨u,v,fun y j=>?_,?_⟩,k.c0,k.c1,k.d,fun y j=>?_⟩
  ·obtain⟨x,m,rfl | rfl⟩:=l y j
   ·exact q _ m
   ·have:=q x m;unfold okX at *;simp only;omega
  ·have s:(h.l.map bz.id).Pairwise (· < ·):=by rw [asl];exact z
   rw [←d,asl]at s;exact s
  ·obtain⟨x,m,e⟩:=l y j;have:=k.f x m;rcases e with rfl | rfl<;>exact this
theorem ako{h:dv}(k:rz h){x:bz}(E:okX h.clock x)(h0:0<x.id)(v:(1≤x.id∧x.id≤8∨x.id=100)∧kQ x.bc){i:Nat}(u:∀ j (l:j<h.l.length),j<i→h.l[j].id<x.id)(s:∀ j (l:j<h.l.length),i≤j→x.id<h.l[j].id)(g:Tg) :
  rz ⟨h.clock,h.bJ,g,h.l.take i++x::h.l.drop i⟩:=by
 obtain⟨H,I,J,A⟩:=ew.1 k.v;have m:∀ y ∈ h.l.take i++x::h.l.drop i,y=x∨y ∈ h.l:=fun y d=>by
  rcases aqC.1 d with d | d
  ·exact .inr (List.mem_of_mem_take d)
  ·rcases aqA.1 d with e | d
   ·exact .inl e
   ·exact .inr (List.mem_of_mem_drop d)
 have F:∀ y ∈ h.l.take i,y.id<x.id:=fun y d=>by
  obtain⟨j,l,rfl⟩:=aq2 d;rw [aqP]at l;rw [List.getElem_take];exact u j (by omega) (by omega)
 have z:∀ y ∈ h.l.drop i,x.id<y.id:=fun y d=>by
  obtain⟨j,l,rfl⟩:=aq2 d;rw [List.length_drop]at l;rw [List.getElem_drop];exact s (i+j) (by omega) (by omega)
 refine⟨ew.2 ⟨H,I,fun y d=>?_,?_⟩,k.c0,k.c1,k.d,fun y d=>?_⟩
 ·rcases m y d with e | d
  ·rw [e];exact⟨E,h0⟩
  ·exact J y d
 ·show(h.l.take i++x::h.l.drop i).Pairwise _;refine List.pairwise_append.2 ⟨A.sublist (List.take_sublist _ _),arj.2 ⟨z,A.sublist (List.drop_sublist _ _)⟩,fun a B b q=>?_⟩;have:=F a B;rcases aqA.1 q with e | q
  ·rw [e];exact this
  ·have:=z b q;omega
 ·rcases m y d with e | d
  ·rw [e];exact v
  ·exact k.f y d
abbrev u64(n:Int):V:=.c (.f (.int .u64 n))
theorem iL{n:Int}(b:0≤n)(d:n≤18446744073709551615):IntKind.wrap .u64 n=n:=by
 simp only [IntKind.wrap,IntKind.bits,IntKind.signed];simp;omega
theorem aaN{a b:Int}(h:0≤a)(d:0<b):de .rem (u64 a) (u64 b)=aa (u64 (a % b)):=by
 rw [gI (by omega),arA h]
theorem an5{a b:Int}(h:0≤a)(g:0<b)(d:a≤18446744073709551615):de .quo (u64 a) (u64 b)=aa (u64 (a / b)):=by
 rw [rJ (by omega),asb h,iL (ar3 h (by omega)) (asB (ar0 _ h) d)]
theorem oX{a:Int}(h0:0≤a)(d:a≤9223372036854775807):bh tab 319 [vi a]=Eq (u64 a):=bh.eq (by
 refine bS rfl rfl fun Q b=>?_;apply ai;simp;refine ak (ai ?_);simp;refine aC (by simp;omega) (aO ?_);apply ai;simp [iL (n:=a) h0 (by omega)];refine aB (b _ _ ?_);simp)
theorem YV{x y:Nat}(h:0<y):aso y (x % y)=aso x y:=by rw [Nat.gcd_comm x y,Nat.gcd_rec y x,Nat.gcd_comm]
theorem YU{a b:Nat}(v:(a:Int)≤4611686018427387904)(z:(b:Int)≤4611686018427387904):bh tab 257 [vi a,vi b]=Eq (vi (aso a b:Nat)):=bh.eq (by
 have F:=oX (a:=a) (by omega) (by omega);have H:=oX (a:=b) (by omega) (by omega);refine bS rfl rfl fun Q A=>?_;apply ai;simp;apply ai;simp [F,H];refine ak (aG ?_);refine cH (fun m s=>∃(x y:Nat) (t:T),s=⟨t,[],[]⟩∧m=y∧(x:Int)≤4611686018427387904∧(y:Int)≤4611686018427387904∧t.g 5=u64 x∧t.g 6=u64 y∧aso x y=aso a b) b ⟨a,b,_,rfl,rfl,v,z,by simp,by simp,rfl⟩ ?_;rintro m s ⟨x,y,t,rfl,rfl,I,J,d,l,q⟩ E;refine ak (ai ?_);simp [l];by_cases h0:m=0
 ·subst h0;refine aC (by simp) (bH rfl ?_);have j:x=aso a b:=by rw [←q];simp
  have B:¬ ((9223372036854775807:Int)<x):=by omega
  refine ak (ai ?_);simp [d,B];refine bp (by simp) ?_;apply ai;simp [d,aV (n:=(x:Int))];refine aB (A _ _ ?_);simp [j]
 ·have u:=aaN (a:=x) (b:=m) (by omega) (by omega);rw [show(x:Int) % (m:Int)=((x % m:Nat):Int) from(Int.natCast_emod x m).symm]at u;have g:x % m<m:=Nat.mod_lt _ (by omega);refine aq (by simp [h0]) (aO ?_);refine aG (al (.inl rfl) ?_);simp [d,l,u];refine av (E (x % m) _ g ⟨m,x % m,_,rfl,rfl,by omega,by omega,by simp,by simp,by rw [YV (by omega)];exact q⟩))
theorem Yh{x:Int}(h0:0≤x)(g:x≤4294967295):de .and (u64 x) (u64 4294967295)=aa (u64 x):=by
 obtain⟨n,rfl⟩:∃ n:Nat,x=n:=⟨x.toNat,by omega⟩
 have e:(BitVec.ofInt 64 (n:Int) &&& BitVec.ofInt 64 4294967295).toNat=n:=by
  rw [BitVec.toNat_and];have b:(BitVec.ofInt 64 (n:Int)).toNat=n:=by simp [BitVec.toNat_ofInt];omega
  have d:(BitVec.ofInt 64 4294967295).toNat=2 ^ 32-1:=by decide
  rw [b,d,Nat.and_two_pow_sub_one_eq_mod,Nat.mod_eq_of_lt (by omega)]
 have key:IntKind.wrap .u64 ((BitVec.ofInt 64 (n:Int) &&& BitVec.ofInt 64 4294967295).toNat:Int)=n:=by rw [e];exact iL (by omega) (by omega)
 exact congrArg (fun k:Int=>aa (u64 k)) key
theorem Ei{x:Int}(_:0≤x):de .shr (u64 x) (u64 32)=aa (u64 (x / 4294967296)):=by
 simp only [de];rw [aW (by decide),show min (Int.toNat 32) IntKind.u64.bits=32 from rfl,Int.fdiv_eq_ediv_of_nonneg _ (by decide)];rfl
theorem tz{x y:Int}(q:0≤x)(K:x≤2147483648)(g:0≤y)(L:y≤2147483648):bh tab 320 [u64 x,u64 y]=Eq (.t [u64 0,u64 (x*y)]):=bh.eq (by
 have d:0≤x*y:=arH q g;have F:x*y≤2147483648*2147483648:=asi K L g (by decide);have j:x*y / 4294967296≤4294967295:=by omega
 have b:0≤x*y / 4294967296:=by omega
 have a1:=Yh q (show x≤4294967295 by omega);have A:=Yh g (show y≤4294967295 by omega);have s:=Ei q;have u:=Ei g;have I:x / 4294967296=0:=by omega
 have J:y / 4294967296=0:=by omega
 rw [I]at s;rw [J]at u;have H:=Ei d;have B:=Yh b j;have l:=Ei b;have sz:x*y / 4294967296 / 4294967296=0:=by omega
 rw [sz]at l;have v:IntKind.wrap .u64 (x*y)=x*y:=iL d (by omega);have z:IntKind.wrap .u64 (x*y / 4294967296)=x*y / 4294967296:=iL b (by omega);have m:IntKind.wrap .u64 0=0:=by decide
 refine bS rfl rfl fun Q E=>?_;apply ai;simp;apply ai;simp [a1];apply ai;simp [s];apply ai;simp [A];apply ai;simp [u];apply ai;simp [v];apply ai;simp [H,m,z];apply ai;simp [B];apply ai;simp [l];apply ai;simp [m,z];apply ai;simp [m,l];apply ai;simp [v];refine aB (E _ _ ?_);simp)
theorem YG{x n:Int}(j:0≤x)(u:x≤9223372036854775807)(g:0<n)(s:n≤9223372036854775807):bh tab 322 [u64 0,u64 x,u64 n]=Eq (.t [u64 (x / n),u64 (x % n)]):=bh.eq (by
 have b:¬ (n=0):=by omega
 have d:¬ (n≤0):=by omega
 have l:=an5 j g (by omega);have m:=aaN j g;refine bS rfl rfl fun Q q=>?_;apply ai;simp;refine ak (ai ?_);simp;refine bp (by simp [b]) ?_;refine ak (ai ?_);simp;refine bp (by simp [d]) ?_;refine ak (ai ?_);simp;refine aq (by simp) ?_;apply ai;simp [l,m];refine aB (q _ _ ?_);simp)
theorem lQ{a b:Int}(h:0≤a)(g:0<b)(d:a≤9223372036854775807):de .quo (vi a) (vi b)=aa (vi (a / b)):=by
 rw [rJ (by omega),asb h,wrap64 (asB (by omega) (ar3 h (by omega))) (asB (ar0 _ h) d)]
theorem tV{a b:Int}(h:0≤a)(d:0<b):de .rem (vi a) (vi b)=aa (vi (a % b)):=by
 rw [gI (by omega),arA h]
theorem akT{a b:Int}(h:a≤0)(m:0<b)(l:-9223372036854775807≤a):de .quo (vi a) (vi b)=aa (vi (-((-a) / b))):=by
 have g:(-a) / b≤-a:=ar0 _ (by omega);have j:0≤(-a) / b:=ar3 (by omega) (by omega);have d:a.tdiv b = -((-a) / b):=by
  have:a = -(-a):=by omega
  rw [this,Int.neg_tdiv,asb (by omega)];simp
 rw [rJ (by omega),d,aV]
theorem akU{a b:Int}(h:a≤0)(g:0<b):de .rem (vi a) (vi b)=aa (vi (-((-a) % b))):=by
 have d:a.tmod b = -((-a) % b):=by
  have:a = -(-a):=by omega
  rw [this,Int.neg_tmod,arA (by omega)];simp
 rw [gI (by omega),d]
theorem qY(a b:Int)(B:1≤b)(A:-4611686018427387904≤a)(g:a≤4611686018427387904):bh tab 173 [vi a,vi b]=Eq (.t [vi (a / b),vi 0]):=bh.eq (by
 refine bS rfl rfl fun Q d=>?_;apply ai;simp;apply ak;apply ai;simp;refine aC (by simp;omega) (aO ?_);by_cases h:0≤a
 ·apply ai;simp [lQ h (show 0<b by omega) (by omega)];apply ak;apply ai;have:=aq8 a (show b≠0 by omega);simp [tV h (show 0<b by omega)];refine aC (by simp;omega) (aO ?_);apply ai;simp;refine aB (d _ _ ?_);simp
 ·apply ai;simp [akT (show a≤0 by omega) (show 0<b by omega) (by omega)];apply ak;apply ai;have e:=aq8 (-a) (show b≠0 by omega);have j:=aq1 (-a) (show 0<b by omega);have q:0≤(-a) / b:=ar3 (by omega) (by omega);have m:(-a) / b≤-a:=ar0 _ (by omega);have l:=Int.mul_ediv_add_emod (-a) b;simp [akU (show a≤0 by omega) (show 0<b by omega)];by_cases s:(-a) % b=0
  ·refine aC (by simp;omega) (aO ?_);apply ai;simp;refine aB (d _ _ ?_);have:a / b = -(-a / b):=by
    refine Int.ediv_eq_of_eq_mul_right (by omega) ?_;rw [Int.mul_neg];omega
   simp [this]
  ·refine aq (by simp;omega) ?_;refine al (.inl rfl) ?_;simp [aV (n:=-(-a / b)-1)];apply ai;simp;refine aB (d _ _ ?_);have:a / b = -(-a / b)-1:=by
    have u:=aq8 a (show b≠0 by omega);have v:=aq1 a (show 0<b by omega);have x:=Int.mul_ediv_add_emod a b;have y:b*(a / b+(-a) / b+1)=b-a % b-(-a) % b:=by rw [Int.mul_add,Int.mul_add];omega
    have z:a / b+(-a) / b+1=0:=by
     rcases Int.lt_trichotomy (a / b+(-a) / b+1) 0 with h | h | h
     ·have:b*(a / b+(-a) / b+1)≤b*(-1):=aqD (by omega) (by omega);omega
     ·exact h
     ·have:b*1≤b*(a / b+(-a) / b+1):=aqD (by omega) (by omega);omega
    omega
   simp [this])
theorem th(a:Int)(g:-4611686018427387904≤a)(b:a≤4611686018427387904):bh tab 105 [vi a]=Eq (vi (a / 1440)):=Kf.eq (by
 refine cF rfl rfl fun H Q d=>?_;apply ai;simp;apply ai;simp [qY a 1440 (by omega) g b];apply ai;simp;refine aB (d _ _ ?_);simp)
def ft(len mi d:Int):aN:=⟨d,d*1440+mi,d*1440+mi+len⟩
def kS(n:Int):Prop:=-1000000000000000≤n∧n≤1000000000000000
theorem zG(b g j:FC)(len mi d:Int)(m:kS len)(q:kS mi)(s:kS d) :
  bh tab 171 [.a [.f b,.f (fi len),.f g],.a [.f j,.f (fi mi)],vi d]=Eq (.a ((ft len mi d).row.map .f)):=bh.eq (Kf.CI (by
 unfold kS at *;refine cF rfl rfl fun H Q l=>?_;apply ai;simp;apply ai;simp [aV (n:=d*1440),aV (n:=d*1440+mi)];apply ai;simp [aV (n:=d*1440+mi+len)];refine aB (l _ _ ?_);simp [ft,aN.row]))
theorem A6{u m:Int}(b:0<m):(u.tmod m+m).tmod m=u % m:=by
 have d:=asx u b;have g:=asy u b;rw [arA (by omega),Int.add_emod_right];exact ase.2 (by
  have:=Int.tmod_add_mul_tdiv u m;have e:u.tmod m-u = -(m*u.tdiv m):=by omega
  rw [e];exact Int.emod_eq_zero_of_dvd (Int.dvd_neg.2 (ar9 _ _)))
theorem zN{x y:Int}(l:1<x)(h:arO x y=1):1≤y % x:=by
 have h0:=aq8 y (show x≠0 by omega);rcases arB 0 (y % x)with d | d
 ·omega
 ·exfalso;have g:y % x=0:=by omega
  have j:x ∣ y:=Int.dvd_of_emod_eq_zero g;have b:x ∣ (arO x y:Int):=Int.dvd_coe_gcd (Int.dvd_refl x) j;rw [h]at b;have:=Int.le_of_dvd (by decide) b;omega
theorem B_{a m:Int}(a0:0≤a)(a1:a≤1099511627776)(m0:2≤m)(m1:m≤1000000)(hg:arO a m=1) :
  ∃ x,0≤x∧x<m∧m ∣ a*x-1∧bh tab 321 [vi a,vi m]=Eq (vi x):=by
 obtain⟨c,⟨x,p,r,w,rfl⟩,hp⟩:∃ c,(∃ x,0≤x∧x<m∧m ∣ a*x-1∧c=vi x)∧bh tab 321 [vi a,vi m] c:=by
  have hr:=tV (a:=a) (b:=m) a0 (by omega);have a7:=aq8 a (show m≠0 by omega);have H:=aq1 a (show 0<m by omega);have l:arO (a % m) m=1:=by
   have e:a % m=a-a / m*m:=by have:=arh a m;rw [arV (a / m)];omega
   rw [e,Int.gcd_sub_mul_right_left];exact hg
  have Z:1≤a % m:=by
   rcases arB 0 (a % m)with h | h
   ·omega
   ·exfalso;have h0:a % m=0:=by omega
    rw [h0]at l;simp at l;omega
  refine eI rfl rfl fun Q hQ=>?_;apply ai;simp;apply ai;simp [hr];refine ak (aG ?_);refine cH (fun n s=>∃(x y u v U V:Int) (t:T),s=⟨t,[],[]⟩∧(n:Int)=x∧t.g 1=vi m∧t.g 5=vi x∧t.g 6=vi y∧t.g 7=vi u∧t.g 8=vi v∧1≤x∧x<y∧y≤m∧arO x y=1∧m ∣ a*u-x∧m ∣ a*v-y ∧
   0≤U∧0≤V∧(u=U∧v = -V∨u = -U∧v=V)∧U*y+V*x=m) (a % m).toNat
   ⟨a % m,m,1,0,1,0,_,rfl,by omega,by simp,by simp,by simp,by simp,by simp,Z,H,by omega,l,?_,?_,by decide,by decide,.inl ⟨rfl,rfl⟩,by omega⟩ ?_
  ·refine⟨a / m,?_⟩;have:=arh a m;omega
  ·exact⟨-1,by omega⟩
  rintro n s ⟨x,y,u,v,U,V,t,rfl,hn,i,I,k,o,g8,p,r,w,h4,M,h6,A,h8,h9,J⟩ ih;have a_:U≤U*y:=by have:=aqD (show(1:Int)≤y by omega) A;omega
  have b_:0≤V*x:=arH h8 (by omega);have a8:U≤m:=by omega
  have b9:V≤m:=by
   have K:V≤V*x:=by have:=aqD (show(1:Int)≤x by omega) h8;omega
   have L:0≤U*y:=arH A (by omega);omega
  refine ak (ai ?_);simp [I];by_cases hx:1<x
  ·
   have B:0≤y / x:=ar3 (by omega) (by omega);have X:y / x≤y:=ar0 _ (by omega);have E:=lQ (a:=y) (b:=x) (by omega) (by omega) (by omega);obtain⟨q,hq⟩:=aK (y / x);have j:=arh y x;have O:=zN hx h4;have S:=aq1 y (show 0<x by omega);rw [←hq]at B X E j;obtain⟨g,Y⟩:=aK (y % x);rw [←Y]at j O S;have d_:q*x=y-g:=by rw [arV];omega
   obtain⟨W,hW⟩:=aK (V+q*U);have d9:0≤q*U:=arH B A;have N:W*x+U*g=m:=by
    rw [hW,Int.add_mul,←J,show g=y-q*x by omega,asp,ar4 q U x,asz q U x];omega
   have c_:W≤m:=by
    have K:W≤W*x:=by have:=aqD (show(1:Int)≤x by omega) (show 0≤W by omega);omega
    have L:0≤U*g:=arH A (by omega);omega
   have d:(u=U→q*u=q*U)∧(u = -U→q*u = -(q*U)):=⟨fun e=>by rw [e],fun e=>by rw [e,Int.mul_neg]⟩
   have hb:-m≤q*u∧q*u≤m:=by
    rcases h9 with⟨e,-⟩ | ⟨e,-⟩
    ·rw [d.1 e];omega
    ·rw [d.2 e];omega
   have f7:-m≤v∧v≤m:=by omega
   have f:=aV (n:=q*x);have w2:IntKind.i64.wrap (y-q*x)=g:=by rw [aV];omega
   have w3:=aV (n:=q*u);have w4:=aV (n:=v-q*u);refine aq (by simp [hx]) (aO ?_);refine aG (ai ?_);simp [I,k,E];apply ai;simp [I,k,f,w2];refine al (.inl rfl) ?_;simp [o,g8,w3,w4];refine av (ih g.toNat _ (by omega) ⟨g,x,v-q*u,u,W,U,_,rfl,by omega,by simp [i],by simp,by simp,by simp,by simp,by omega,by omega,by omega,?_,?_,M,by omega,A,?_,N⟩)
   ·rw [show g=y-q*x by omega,Int.gcd_sub_mul_right_left,Int.gcd_comm];exact h4
   ·have e:a*(v-q*u)-g=(a*v-y)-q*(a*u-x):=by
     rw [asp,asp,asz a q u];omega
    rw [e];exact arM h6 (Int.dvd_mul_of_dvd_right M)
   ·rcases h9 with⟨z,e2⟩ | ⟨z,e2⟩
    ·exact .inr ⟨by rw [d.1 z];omega,z⟩
    ·exact .inl ⟨by rw [d.2 z];omega,z⟩
  ·
   have F:x=1:=by omega
   subst F;have e_:-m≤u∧u≤m:=by omega
   have t1:=asx u (show 0<m by omega);have t2:=asy u (show 0<m by omega);have r1:de .rem (vi u) (vi m)=aa (vi (u.tmod m)):=gI (by omega);have r2:de .rem (vi (u.tmod m+m)) (vi m)=aa (vi (u % m)):=by rw [gI (by omega),A6 (by omega)]
   have f:=aV (n:=u.tmod m+m);refine aC (by simp) (bH rfl ?_);apply ai;simp [i,o,r1,f,r2];refine aB (hQ _ _ _ ⟨u % m,aq8 _ (by omega),aq1 _ (by omega),?_,rfl⟩ (by simp));have e:a*(u % m)-1=(a*u-1)-a*(u / m)*m:=by
    have:=arh u m;rw [show u % m=u-m*(u / m) by omega,asp,ar4,arV m];omega
   rw [e];exact arM M (asq _ _)
 exact⟨x,p,r,w,hp.eq⟩
theorem afr{a s r p d:Int}(m:¬ (arO s p:Int) ∣ r-a)(j:s ∣ d-a)(l:p ∣ d-r):False:=by
 apply m;have b:=arP (asr s p) j;have g:=arP (asA s p) l;have:=arM b g;rwa [show d-a-(d-r)=r-a by omega]at this
theorem afq{a s r p g n t:Int}(q:g=(arO s p:Int))(F:0<p)(H:0<s)(z:p=n*g)(A:g ∣ r-a)(E:n ∣ t*(s / g)-(r-a) / g) :
  (∀ d,s ∣ d-a∧p ∣ d-r↔(s*n) ∣ d-(a+t*s))∧0<g∧0<n:=by
 have l:0<g:=by
  rw [q];have:=asa p (show s≠0 by omega);omega
 have u:0<n:=by
  rcases Int.lt_trichotomy n 0 with h | h | h
  ·have:=Int.mul_neg_of_neg_of_pos h l;omega
  ·subst h;omega
  ·exact h
 have x:s / g*g=s:=asv (q▸asr s p);have v:(r-a) / g*g=r-a:=asv A;have j:p ∣ a+t*s-r:=by
  obtain⟨k,B⟩:=E;refine⟨k,?_⟩;have:a+t*s-r=(t*(s / g)-(r-a) / g)*g:=by
   rw [Int.sub_mul,v,ar4,x];omega
  rw [this,B,z,Int.mul_right_comm]
 have y:(Int.lcm s p:Int)=s*n:=by
  have b:((arO s p*Int.lcm s p:Nat):Int)=s*p:=by
   rw [Int.gcd_mul_lcm,ar2,Int.natAbs_of_nonneg (by omega),Int.natAbs_of_nonneg (by omega)]
  rw [ar2,←q]at b;have m:g*(Int.lcm s p:Int)=g*(s*n):=by rw [b,z,←ar4,arV]
  exact Int.eq_of_mul_eq_mul_left (by omega) m
 refine⟨fun d=>⟨fun⟨b,m⟩=>?_,fun h=>⟨?_,?_⟩⟩,l,u⟩
 ·rw [←y];refine Int.coe_lcm_dvd ?_ ?_
  ·have:d-(a+t*s)=d-a-t*s:=by omega
   rw [this];exact arM b (asq t s)
  ·have:d-(a+t*s)=d-r-(a+t*s-r):=by omega
   rw [this];exact arM m j
 ·have b:=arP (ar9 s n) h;have:d-a=d-(a+t*s)+t*s:=by omega
  rw [this];exact Int.dvd_add b (asq t s)
 ·have b:p ∣ d-(a+t*s):=arP (by rw [←y];exact Int.dvd_lcm_right s p) h;have:d-r=d-(a+t*s)+(a+t*s-r):=by omega
  rw [this];exact Int.dvd_add b j
theorem D4{a b n:Int}:a % n=b % n↔n ∣ a-b:=ase.trans Int.dvd_iff_emod_eq_zero.symm
abbrev clV(at' st:Int):V:=.a [.f (.int .i64 at'),.f (.int .i64 st)]
theorem agd{a s r p:Int}(a0:0≤a)(a1:a<s)(s1:s≤1000000)(r0:0≤r)(r1:r<p)(p1:p≤1000) :
  (∃ a' s',0≤a'∧a'<s'∧s'≤s*p∧(∀ d,s ∣ d-a∧p ∣ d-r↔s' ∣ d-a')∧bh tab 260 [clV a s,vi r,vi p]=Eq (.t [clV a' s',vb ae])) ∨
  ((∀ d,¬ (s ∣ d-a∧p ∣ d-r))∧bh tab 260 [clV a s,vi r,vi p]=Eq (.t [clV 0 0,vb ag])):=by
 have s0:0<s:=by omega
 have p0:0<p:=by omega
 obtain⟨g,y⟩:=aK ((arO s p:Int):Int);have a8:arO s p=aso s.toNat p.toNat:=by
  show aso s.natAbs p.natAbs=_;rw [show s.natAbs=s.toNat by omega,show p.natAbs=p.toNat by omega]
 have a_:g ∣ s:=y▸asr s p;have M:g ∣ p:=y▸asA s p;have l:0<arO s p:=asa p (by omega);have g0:0<g:=by rw [y];exact Int.natCast_pos.2 l
 have gp:g≤p:=Int.le_of_dvd p0 M;obtain⟨n,i⟩:=aK (p / g);have X:p=n*g:=by rw [i,asv M]
 have B:0<n:=by
  rcases arB 0 n with h | h
  ·exact h
  ·have:=Int.mul_nonneg_of_nonpos_of_nonpos (a:=n) (b:=-g) h (by omega);rw [Int.mul_neg]at this;omega
 have np:n≤p:=by
  have:=aqD (show(1:Int)≤g by omega) (show 0≤n by omega);omega
 have j:bh tab 257 [vi s,vi p]=Eq (vi g):=by
  have h:=YU (a:=s.toNat) (b:=p.toNat) (by omega) (by omega);rw [show((s.toNat:Nat):Int)=s by omega,show((p.toNat:Nat):Int)=p by omega,←a8,←y]at h;exact h
 have b0:∀ {L:aj},aU (.box [.f (fi a),.f (fi s)] 0::L) ab (.c (.ptr 0 0 0))=aa (vi a)∧aU (.box [.f (fi a),.f (fi s)] 0::L) ab (.c (.ptr 0 1 0))=aa (vi s)∧aU (.box [.f (fi a),.f (fi s)] 0::L) (aa 2) (.c (.ptr 0 0 0))=aa (clV a s):=by
  intro L;refine⟨?_,?_,?_⟩<;>simp [aU,aF,aT]
 have q:=aV (n:=r-a);have F:de .rem (vi (r-a)) (vi g)=aa (vi ((r-a).tmod g)):=gI (by omega);have A:¬ (s=0):=by omega
 by_cases x:g ∣ r-a
 ·left;have m:(r-a).tmod g=0:=Int.tmod_eq_zero_of_dvd x;by_cases z:n=1
  ·
   have N:p=g:=by rw [X,z,Int.one_mul]
   refine⟨a,s,a0,a1,?_,fun d=>⟨fun h=>h.1,fun h=>⟨h,?_⟩⟩,bh.eq ?_⟩
   ·have:=aqD (show(1:Int)≤p by omega) (show 0≤s by omega);omega
   ·rw [N];have:=arM (arP a_ h) x;rwa [show d-a-(r-a)=d-r by omega]at this
   ·have E:de .quo (vi p) (vi g)=aa (vi n):=by rw [lQ (by omega) g0 (by omega),←i]
    refine bS rfl rfl fun Q I=>?_;apply ai;simp;refine ak (ai ?_);simp [b0,-az,A];refine bp (by simp) ?_;apply ai;simp [b0,-az,j];refine ak (ai ?_);simp [b0,-az,q,F,m];refine bp (by simp) ?_;apply ai;simp [E];refine ak (ai ?_);simp [z];refine aq (by simp) ?_;apply ai;simp [b0,-az];refine aB (I _ _ ?_);simp
  ·
   have n2:2≤n:=by omega
   have Z:0≤s / g:=ar3 (by omega) (by omega);have f8:s / g≤s:=ar0 _ (by omega);have J:arO (s / g) n=1:=by rw [i,y];exact Int.gcd_ediv_gcd_ediv_gcd l
   obtain⟨v,o,v1,hv,S⟩:=B_ Z (by omega) n2 (by omega) J;obtain⟨w,hw⟩:=aK (((r-a) / g) % n);have w0:0≤w:=by rw [hw];exact aq8 _ (by omega)
   have w1:w<n:=by rw [hw];exact aq1 _ B
   obtain⟨t,ht⟩:=aK ((w*v) % n);have t0:0≤t:=by rw [ht];exact aq8 _ (by omega)
   have t1:t<n:=by rw [ht];exact aq1 _ B
   have U:n ∣ t*(s / g)-(r-a) / g:=by
    obtain⟨k,hk⟩:=hv;have e1:t=w*v-n*(w*v / n):=by have:=arh (w*v) n;omega
    have e2:w=(r-a) / g-n*((r-a) / g / n):=by have:=arh ((r-a) / g) n;omega
    have e3:t*(s / g)-(r-a) / g=w*(s / g*v-1)-n*(w*v / n)*(s / g)-n*((r-a) / g / n):=by
     rw [e1,Int.sub_mul,asp,ar4 w v,arV v (s / g)];omega
    rw [e3,hk];refine arM (arM ?_ ?_) (ar9 _ _)
    ·exact⟨w*k,by rw [asz]⟩
    ·exact⟨w*v / n*(s / g),by rw [ar4]⟩
   obtain⟨O,-,-⟩:=afq y p0 s0 X x U;have g_:0≤t*s:=arH t0 (by omega);have h_:t*s≤(n-1)*s:=ass (by omega) (by omega);have i5:(n-1)*s=n*s-s:=by rw [Int.sub_mul,Int.one_mul]
   have f7:n*s≤1000*1000000:=asi (by omega) s1 (by omega) (by decide);have i6:s*n=n*s:=arV _ _;have c:0≤w*v:=arH w0 o;have i4:w*v≤1000*1000:=asi (by omega) (by omega) o (by decide);have f_:0≤n*s:=arH (by omega) (by omega);refine⟨a+t*s,s*n,by omega,by omega,?_,O,bh.eq ?_⟩
   ·exact aqD np (by omega)
   ·have E:de .quo (vi p) (vi g)=aa (vi n):=by rw [lQ (by omega) g0 (by omega),←i]
    have a7:de .quo (vi (r-a)) (vi g)=aa (vi ((r-a) / g)):=by
     rw [rJ (by omega),Int.tdiv_eq_ediv_of_dvd x];have hb:-1000000≤(r-a) / g∧(r-a) / g≤1000000:=by
      obtain⟨k,hk⟩:=x;rw [hk,Int.mul_ediv_cancel_left _ (by omega)];constructor
      ·rcases arB k (-1000000)with h | h
       ·have:=aqD (show k≤-1000001 by omega) (show 0≤g by omega);omega
       ·omega
      ·rcases arB 1000000 k with h | h
       ·have:=aqD (show(1000001:Int)≤k by omega) (show 0≤g by omega);omega
       ·omega
     rw [aV]
    have d9:de .rem (vi ((r-a) / g)) (vi n)=aa (vi (((r-a) / g).tmod n)):=gI (by omega);have tl:=asx ((r-a) / g) B;have tg:=asy ((r-a) / g) B;have d_:=aV (n:=((r-a) / g).tmod n+n);have W:de .rem (vi (((r-a) / g).tmod n+n)) (vi n)=aa (vi w):=by rw [gI (by omega),A6 B,←hw]
    have e_:de .quo (vi s) (vi g)=aa (vi (s / g)):=lQ (by omega) g0 (by omega);have uw:IntKind.wrap .u64 w=w:=iL w0 (by omega);have uv:IntKind.wrap .u64 v=v:=iL o (by omega);have un:IntKind.wrap .u64 n=n:=iL (by omega) (by omega);have us:IntKind.wrap .u64 s=s:=iL (by omega) (by omega);have b9:=tz w0 (show w≤2147483648 by omega) o (show v≤2147483648 by omega);have Y:=aaN (a:=0) (b:=n) (by decide) B;rw [Int.zero_emod]at Y;have K:=YG c (show w*v≤9223372036854775807 by omega) B (show n≤9223372036854775807 by omega);rw [←ht]at K;have b_:=tz t0 (show t≤2147483648 by omega) (show 0≤s by omega) (show s≤2147483648 by omega);have c_:=tz (show 0≤s by omega) (show s≤2147483648 by omega) (show 0≤n by omega) (show n≤2147483648 by omega);have u:=aV (n:=t*s);have fa:=aV (n:=1152921504606846976-a);have c1:¬ (1152921504606846976<t*s):=by omega
    have c2:¬ (1152921504606846976-a<t*s):=by omega
    have H:=aV (n:=a+t*s);have f:=aV (n:=s*n);have c3:s*n≤1152921504606846976:=by omega
    refine bS rfl rfl fun Q I=>?_;apply ai;simp;refine ak (ai ?_);simp [b0,-az,A];refine bp (by simp) ?_;apply ai;simp [b0,-az,j];refine ak (ai ?_);simp [b0,-az,q,F,m];refine bp (by simp) ?_;apply ai;simp [E];refine ak (ai ?_);simp [z];refine bp (by simp) ?_;apply ai;simp [b0,-az,q,a7,d9,d_,W];apply ai;simp [b0,-az,uw,e_,S,uv,b9];apply ai;simp [un,Y,K];apply ai;simp [b0,-az,us,b_];refine ak (ai ?_);simp [b0,-az,c1,u,fa,c2];refine bp (by simp) ?_;apply ai;simp [b0,-az,u,H];refine ak (ai ?_);simp [b0,-az,us,un,c_];apply ai;simp [c3];refine aq (by simp) (al (.inl rfl) ?_);simp [f];apply ai;simp;refine aB (I _ _ ?_);simp
 ·right;refine⟨fun d h=>afr (fun e=>x (y▸e)) h.1 h.2,bh.eq ?_⟩;have m:¬ (r-a).tmod g=0:=fun e=>x (Int.dvd_of_tmod_eq_zero e);refine bS rfl rfl fun Q I=>?_;apply ai;simp;refine ak (ai ?_);simp [b0,-az,A];refine bp (by simp) ?_;apply ai;simp [b0,-az,j];refine ak (ai ?_);simp [b0,-az,q,F,m];refine aq (by simp) ?_;apply ai;simp;refine aB (I _ _ ?_);simp
theorem zZ(a b:Int):bh tab 338 [vi a,vi b]=Eq (vb (decide (a<b))):=Kf.eq (by
 refine cF rfl rfl fun H Q d=>?_;apply ai;simp;apply ai;simp [oP];refine aB (d _ _ ?_);simp [oP])
theorem ag2(a:Int):bh tab 339 [vi a]=Eq (vb ag):=Kf.eq (by
 refine cF rfl rfl fun H Q b=>?_;apply ai;simp;apply ai;simp;refine aB (b _ _ ?_);simp)
theorem BH(g:Tg)(l:List Int)(n:Int)(c:l.length≤1000000000)(Y:l.Pairwise (· < ·)) :
  ∃ i:Nat,i≤l.length∧(∀ j (b:j<l.length),j<i→l[j]<n)∧(∀ j (b:j<l.length),i≤j→n≤l[j]) ∧
   bh tab 277 [.c (.f (sl g (ints l))),vi n]=Eq (.t [vi i,vb (decide (n ∈ l))]):=by
 obtain⟨r,⟨i,U,W,J,rfl⟩,h⟩:∃ r,(∃ i:Nat,i≤l.length∧(∀ j (b:j<l.length),j<i→l[j]<n)∧(∀ j (b:j<l.length),i≤j→n≤l[j])∧r=.t [vi i,vb (decide (n ∈ l))]) ∧
   bh tab 277 [.c (.f (sl g (ints l))),vi n] r:=by
  refine eI rfl rfl fun Q K=>?_;have x:∀ i j (hi:i<j) (b:j<l.length),l[i]<l[j]:=fun i j hi b=>aq9.1 Y i j (by omega) b hi;apply ai;simp;apply ai;simp;apply ai;simp;apply ak;refine aG ?_;refine cH (fun m s=>∃(lo hi:Nat) (t:T),s=⟨t,[],[]⟩∧m=hi-lo∧lo≤hi∧hi≤l.length∧t.g 0=.c (.f (sl g (ints l)))∧t.g 1=vi n∧t.g 6=vi l.length∧t.g 7=vi lo∧t.g 8=vi hi ∧
   (∀ j (b:j<l.length),j<lo→l[j]<n)∧(∀ j (b:j<l.length),hi≤j→n≤l[j])) l.length
   ⟨0,l.length,_,rfl,by omega,by omega,by omega,by simp,by simp,by simp,by simp,by simp,by simp,by intros;omega⟩ ?_
  rintro m s ⟨lo,hi,t,rfl,rfl,X,y,g0,A,E,B,I,d,u⟩ next
  apply ak;apply ai;simp [B,I];by_cases M:lo<hi
  ·refine aq (by simp [M]) (aO ?_);obtain⟨q,f⟩:=aK ((lo+hi) / 2);have F:q<l.length:=by omega
   have S:de BinOp.shr (V.c (C.f (FC.int IntKind.u64 (IntKind.u64.wrap ((lo:Int)+hi))))) (V.c (C.f (FC.int IntKind.u64 1)))=aa (.c (.f (.int .u64 (q:Int)))):=by
    have:IntKind.u64.wrap ((lo:Int)+hi)=(lo:Int)+hi:=by
     show((lo:Int)+hi) % 18446744073709551616=_;omega
    rw [this];show aa (V.c (C.f (FC.int IntKind.u64 (Int.fdiv ((lo:Int)+hi) (2 ^ (min (1:Int).toNat IntKind.u64.bits))))))=_;have J:Int.fdiv ((lo:Int)+hi) (2 ^ (min (1:Int).toNat IntKind.u64.bits))=q:=by
     show Int.fdiv ((lo:Int)+hi) 2=q;rw [Int.fdiv_eq_ediv_of_nonneg _ (by omega)];omega
    rw [J]
   have Z:=aV (n:=(lo:Int)+hi);have O:IntKind.i64.wrap (q:Int)=q:=aV;refine aG ?_;apply ai;simp [B,I,Z,S,O];apply ai;simp [g0,A,bF,F,iZ,zZ];by_cases L:l[q]<n
   ·refine aq (by simp [L]) ?_;refine al (.inl rfl) ?_;simp [aV (n:=(q:Int)+1)];refine av (next (hi-(q+1)) _ (by omega) ⟨q+1,hi,_,rfl,rfl,by omega,by omega,by simp [g0],by simp [A],by simp [E],by simp,by simp [I],fun j b h=>?_,u⟩);by_cases e:j=q
    ·subst e;exact L
    ·have:=x j q (by omega) F;omega
   ·refine aC (by simp [L]) ?_;refine al (.inl rfl) ?_;simp;refine av (next (q-lo) _ (by omega) ⟨lo,q,_,rfl,rfl,by omega,by omega,by simp [g0],by simp [A],by simp [E],by simp [B],by simp,d,fun j b h=>?_⟩);by_cases e:j=q
    ·subst e;omega
    ·have:=x q j (by omega) b;omega
  ·have:lo=hi:=by omega
   subst this;refine aC (by simp) ?_;refine bH rfl ?_;apply ai;by_cases v:lo<l.length
   ·have a:=u lo v (by omega);by_cases H:l[lo]=n
    ·simp [g0,A,E,B,v,bF,iZ,H];refine aB (K _ _ _ ⟨lo,y,d,u,rfl⟩ ?_);have:n ∈ l:=H▸anc v;simp [this]
    ·have z:n ∉ l:=fun N=>by
      obtain⟨j,b,rfl⟩:=aq2 N;rcases arv j lo with h | h | h
      ·have:=d j b h;omega
      ·subst h;exact H rfl
      ·have:=x lo j h b;omega
     simp [g0,A,E,B,v,bF,iZ,H,ag2];refine aB (K _ _ _ ⟨lo,y,d,u,rfl⟩ ?_);simp [z]
   ·have z:n ∉ l:=fun N=>by
     obtain⟨j,b,rfl⟩:=aq2 N;have:=d j b (by omega);omega
    simp [g0,A,E,B,v];refine aB (K _ _ _ ⟨lo,y,d,u,rfl⟩ ?_);simp [z]
 exact⟨i,U,W,J,bh.eq h⟩
theorem ku{d:Int}:∀ {l:List Int} {b:Int},en d b l=ae→l.Pairwise (· < ·)∧∀ c ∈ l,b<c∧c<d
 | [],_,_=>⟨List.Pairwise.nil,by simp⟩
 | a::l,b,h=>by
  simp only [en,If,decide_eq_true_eq]at h;obtain⟨⟨m,q⟩,s⟩:=h;obtain⟨u,j⟩:=ku s;refine⟨arj.2 ⟨fun c g=>(j c g).1,u⟩,fun c g=>?_⟩;rcases aqA.1 g with rfl | g
  ·exact⟨m,q⟩
  ·have:=j c g;omega
theorem fg{p:bI}(h:fU p=ae):0≤p.fr∧p.fr≤1099511627776∧1≤p.eV∧p.eV≤1099511627776∧p.head.length+p.jm.length≤1048576∧p.head.Pairwise (· < ·)∧(∀ c ∈ p.head,-1<c∧c<p.fr)∧p.jm.Pairwise (· < ·)∧∀ c ∈ p.jm,-1<c∧c<p.eV:=by
 unfold fU at h;simp only [If,decide_eq_true_eq]at h;obtain⟨⟨⟨⟨⟨⟨g,j⟩,l⟩,m⟩,u⟩,q⟩,s⟩:=h;obtain⟨a1,b⟩:=ku q;obtain⟨b1,d⟩:=ku s;exact⟨g,j,l,m,by omega,a1,b,b1,d⟩
def uY(p:bI)(d:Int):Bool:=if p.fr≤d then decide ((d-p.fr) % p.eV ∈ p.jm)else decide (d ∈ p.head)
def Day(d:Int):Prop:=d≤2305843009213693952
theorem Nv(p:bI)(h:fU p=ae)(d:Int)(h0:0≤d)(x:Day d):bh tab 378 [.a (p.row.map .f),vi d]=Eq (vb (uY p d)):=Kf.eq (by
 obtain⟨A,B,E,F,I,s,K,u,L⟩:=fg h;unfold Day at x;refine cF rfl rfl fun H Q v=>?_;have j:∀(t:T) (J:aj) (g:Tg) (l:List Int) (n:Int),l.length≤1048576→l.Pairwise (· < ·)→t.g 5=.c (.f (sl g (ints l)))→t.g 6=vi n→uY p d=decide (n ∈ l)→WP tab 378 ab [.code yD] ⟨t,[],H++J⟩ Q:=by
  intro t J g l n M y m q e;obtain⟨i,-,-,-,z⟩:=BH g l n (by omega) y;apply ai;simp [m,q,z];apply ai;simp;refine aB (v _ _ ?_);simp [e]
 apply ai;simp [bI.row];apply ai;simp;apply ak;apply ai;simp;by_cases k:p.fr≤d
 ·refine aq (by simp [k]) ?_;refine al (.inl rfl) ?_;simp [aV (n:=d-p.fr),tV (a:=d-p.fr) (b:=p.eV) (by omega) (by omega)];exact j _ _ p.cg p.jm ((d-p.fr) % p.eV) (by omega) u (by simp) (by simp) (by simp [uY,k])
 ·refine bp (by simp [k]) ?_;exact j _ _ p.hg p.head d (by omega) s (by simp) (by simp) (by simp [uY,k]))
def hasB(p:bI)(d:Int):Bool:=decide (0≤d)&&uY p d
theorem ago(p:bI)(h:fU p=ae)(d:Int)(l:Day d):Kf tab 314 [.a (p.row.map .f),vi d] (vb (hasB p d)):=by
 refine cF rfl rfl fun H Q g=>?_;have b:=ZP p (D8 h);rw [h]at b;apply ai;simp [bI.row]at b ⊢;apply ai;by_cases k:0≤d
 ·have j:=Nv p h d k l;simp [bI.row]at j;simp [b,k,j];refine aB (g _ _ ?_);simp [hasB,k]
 ·simp [b,k];refine aB (g _ _ ?_);simp [hasB,k]
theorem NC(p:bI)(h:fU p=ae)(d:Int)(j:Day d):Kf tab 313 [.a (p.row.map .f),.c (.f (.fp [fi d] 0))] (vb (!hasB p d)):=by
 refine cF rfl rfl fun H Q g=>?_;have b:=(ago p h d j).eq;simp [bI.row]at b;have l:∀ H:aj,aU H ab (.c (.f (.fp [fi d] 0)))=aa (vi d):=fun H=>by simp [aU,aF]
 apply ai;simp [bI.row];apply ai;simp [l,b];refine aB (g _ _ ?_);simp
def tn(l:List bI)(d:Int):Bool:=l.all fun p=>hasB p d
theorem ahM(g:Tg)(l:List bI)(v:l.length≤9223372036854775807)(h:∀ p ∈ l,fU p=ae)(d:Int)(s:Day d):Kf tab 251 [.c (.f (sl g (aX l))),vi d] (vb (tn l d)):=by
 refine cF rfl rfl fun H Q m=>?_;have q:=(fN X4 (jM X5 l bI.row (fun r=>.a (r.row.map .f)) (fun p=>!hasB p d) g 313 [.fp [fi d] 0] v
  (fun j u H=>bR (bY l) (dH u)) (fun p x=>NC p (h p x) d s))).eq
 have e:(!l.any fun p=>!hasB p d)=tn l d:=by
  rw [tn,ary];simp [List.any_eq_false,aqG]
 apply ai;simp;apply ai;have b:bh tab 166 [.c (.f (sl g (aX l))),.c (.f (.fn 313 [.fp [fi d] 0]))]=Eq (vb (l.any fun p=>!hasB p d)):=q;simp [deep,ZA,Cq,b,e];refine aB (m _ _ ?_);simp
theorem akh(t:dr)(l:t.fs.length≤9223372036854775807)(h:∀ p ∈ t.fs,fU p=ae)(d:Int)(j:Day d):Kf tab 250 [.c (.f (sl t.tg (aX t.fs))),.c (.f (.fp [fi d] 0))] (vb (tn t.fs d)):=by
 refine cF rfl rfl fun H Q g=>?_;have b:∀ H:aj,aU H ab (.c (.f (.fp [fi d] 0)))=aa (vi d):=fun H=>by simp [aU,aF]
 apply ai;simp;apply ai;simp [b,(ahM t.tg t.fs l h d j).eq];refine aB (g _ _ ?_);simp
def Zx(l:List dr)(d:Int):Bool:=mN l&&l.any fun t=>tn t.fs d
theorem kD{t:dr}(h:ju t=ae):1≤t.fs.length∧t.fs.length≤4∧∀ p ∈ t.fs,fU p=ae:=by
 unfold ju at h;simp only [If,decide_eq_true_eq,aqG]at h;exact⟨by omega,by omega,h.2⟩
theorem Ny{l:List dr}(h:mN l=ae):l.length≤64∧∀ t ∈ l,ju t=ae:=by
 unfold mN at h;simp only [If,decide_eq_true_eq,aqG]at h;exact⟨by omega,h.2⟩
theorem age(g:Tg)(l:List dr)(h:mN l=ae)(d:Int)(x:Day d):bh tab 170 [.a [.f (sl g (aI l))],vi d]=Eq (vb (Zx l d)):=Kf.eq (by
 obtain⟨A,m⟩:=Ny h;have s:=Zy g l (by omega) (fun t b=>⟨by have:=(kD (m t b)).2.1;omega,fun p z=>D8 ((kD (m t b)).2.2 p z)⟩);have v:=(fN ajn (jM aju l dr.row (fun t=>.c (.f (sl t.tg (aX t.fs)))) (fun t=>tn t.fs d) g 250 [.fp [fi d] 0] (by omega)
  (fun j y H=>oU (gM l) (jv y) rfl) (fun t b=>akh t (by have:=(kD (m t b)).2.1;omega) (kD (m t b)).2.2 d x))).eq
 have q:bh tab 110 [.c (.f (sl g (aI l))),.c (.f (.fn 250 [.fp [fi d] 0]))]=Eq (vb (l.any fun t=>tn t.fs d)):=v;rw [h]at s;refine cF rfl rfl fun H Q u=>?_;apply ai;simp;apply ai;simp [s,deep,ZA,Cq,q];refine aB (u _ _ ?_);simp [Zx,h])
structure Mod(p:bI):Prop where
 ok:fU p=ae
 anO:p.eV≤1000
def gj(p:bI)(c:Int):Int:=(p.fr % p.eV+c) % p.eV
theorem apy{x c p:Int}(h0:0≤c)(d:c<p):x % p=c↔p ∣ x-c:=by
 have h:=D4 (a:=x) (b:=c) (n:=p);rw [Int.emod_eq_of_lt h0 d]at h;exact h
theorem pj{p:bI}(h:Mod p){c:Int}(h0:0≤c)(b:c<p.eV):0≤gj p c∧gj p c<p.eV∧∀ d,(d-p.fr) % p.eV=c↔p.eV ∣ d-gj p c:=by
 have g:0<p.eV:=by omega
 refine⟨aq8 _ (by omega),aq1 _ g,fun d=>?_⟩;rw [apy h0 b];have e:p.eV ∣ p.fr+c-gj p c:=by
  rw [←D4];unfold gj;rw [Int.emod_emod_of_dvd _ (Int.dvd_refl _),Int.emod_add_emod]
 constructor
 ·intro k;have:=Int.dvd_add k e;rwa [show d-p.fr-c+(p.fr+c-gj p c)=d-gj p c by omega]at this
 ·intro k;have:=arM k e;rwa [show d-gj p c-(p.fr+c-gj p c)=d-p.fr-c by omega]at this
theorem rT{p:bI}(h:Mod p){c:Int}(d:c ∈ p.jm):0≤c∧c<p.eV:=by
 obtain⟨-,-,-,-,-,-,-,-,b⟩:=fg h.ok;have:=b c d;omega
def jo(p:bI)(d:Int):Prop:=∃ c ∈ p.jm,p.eV ∣ d-gj p c
theorem Ai{p:bI}(h:Mod p){d:Int}(l:p.fr≤d):uY p d=ae↔jo p d:=by
 unfold uY;rw [ba l,decide_eq_true_eq];constructor
 ·intro j;obtain⟨a,b⟩:=rT h j;exact⟨_,j,((pj h a b).2.2 d).1 rfl⟩
 ·rintro⟨c,g,e⟩;obtain⟨a,b⟩:=rT h g;rw [((pj h a b).2.2 d).2 e];exact g
theorem tW(p:bI)(h:Mod p)(c:Int)(h0:0≤c)(l:c<p.eV):bh tab 256 [.a (p.row.map .f),vi c]=Eq (vi (gj p c)):=Kf.eq (by
 obtain⟨d,j,s,u,-⟩:=fg h.ok;have m:=aq8 p.fr (show p.eV≠0 by omega);have q:=aq1 p.fr (show 0<p.eV by omega);refine cF rfl rfl fun H Q g=>?_;apply ai;simp [bI.row];apply ai;simp [tV (a:=p.fr) (b:=p.eV) d (by omega),aV (n:=p.fr % p.eV+c),tV (a:=p.fr % p.eV+c) (b:=p.eV) (by omega) (by omega)];refine aB (g _ _ ?_);simp [gj])
def dd:List bI→Int
 | []=>0| p::l=>max p.fr (dd l)
theorem mF:∀ l:List bI,0≤dd l
 | []=>Int.le_refl _| p::l=>by have:=mF l;simp only [dd];omega
theorem mE{p:bI}:∀ {l:List bI},p ∈ l→p.fr≤dd l
 | q::l,h=>by
  simp only [dd];rcases aqA.1 h with rfl | h
  ·omega
  ·have:=mE h;omega
theorem AY(l:List bI)(p:bI):dd (l++[p])=max (dd l) p.fr:=by
 induction l with
 | nil=>simp only [ars,dd];omega| cons q l b=>simp only [art,dd,b];omega
theorem aaB(g:Tg)(l:List bI)(z:l.length≤64):bh tab 258 [.c (.f (sl g (aX l)))]=Eq (vi (dd l)):=Kf.eq (by
 refine cF rfl rfl fun H Q y=>?_;apply ai;simp;apply ai;simp;apply ak;apply ai;simp;refine bM l.length (fun j t H'=>(∃ J,H'=H++J)∧t.g 6=.c (.f (sl g (aX l)))∧t.g 3=vi (dd (l.take j))) (by omega) (by decide) (by decide) (by simp) (by simp) ⟨⟨[],by simp⟩,by simp,by simp [dd]⟩ ?_ ?_
 ·rintro j t _ u ⟨⟨J,rfl⟩,q,m⟩ s x next
  have d:=fun H:aj=>bR (H:=H) (bY l) (dH (l:=l) (j:=j) u);have b:=fun H:aj=>bF (H:=H) (g:=g) (rows:=aX l) (sz:=4) (k:=.i64) (i:=j) (by omega) (by simpa using u);simp [bI.row]at d b;have v:l.take (j+1)=l.take j++[l[j]]:=by rw [aqW,By u];rfl
  have e:dd (l.take (j+1))=max (dd (l.take j)) l[j].fr:=by rw [v,AY]
  refine aG ?_;apply ai;simp [q,s,b,d];refine al (.inl rfl) ?_;simp [m];refine av (next _ _ ?_ (by simp [s]) (by simp [x]));exact⟨⟨_,rfl⟩,by simp [q],by simp [e]⟩
 ·rintro t _ ⟨⟨J,rfl⟩,q,m⟩ s x;rw [aqS]at m;apply ai;simp [m];refine aB (y _ _ ?_);simp)
def yC(n a s:Int):Int:=if a<n then a+(n-a+s-1) / s*s else a
theorem Ex{n a s:Int}(h0:0≤a)(y:a<s)(z:0≤n):n≤yC n a s∧s ∣ yC n a s-a∧yC n a s≤n+s∧∀ d,n≤d→s ∣ d-a→yC n a s≤d:=by
 have m:0<s:=by omega
 unfold yC;split
 ·have u:=arh (n-a+s-1) s;have v:=aq8 (n-a+s-1) (show s≠0 by omega);have x:=aq1 (n-a+s-1) m;have g:(n-a+s-1) / s*s=s*((n-a+s-1) / s):=arV _ _;rw [g];generalize (n-a+s-1) / s=q at *;refine⟨by omega,⟨q,by omega⟩,by omega,?_⟩;rintro d j ⟨k,l⟩;rcases arB k q with h | h
  ·have b:s*k≤s*(q-1):=aqD (by omega) (by omega);rw [asp,Int.mul_one]at b;omega
  ·have b:s*q≤s*k:=aqD h (by omega);omega
 ·refine⟨by omega,⟨0,by omega⟩,by omega,?_⟩;rintro d j ⟨k,l⟩;rcases arB k 0 with h | h
  ·have b:s*k≤s*(-1):=aqD (by omega) (by omega);omega
  ·have b:0≤s*k:=arH (by omega) h;omega
structure eM(S:Int→Prop)(l:Int)(f:Bool)(l':Int)(f':Bool):Prop where
 le:l'≤l
 rP:f=ae→f'=ae
 src:(l'=l∧f'=f)∨(f'=ae∧S l')
 low:∀ d,S d→l'≤d∧(d≤l→f'=ae)
theorem eM.none{S:Int→Prop}{l:Int}{f:Bool}(h:∀ d,¬ S d):eM S l f l f:=⟨Int.le_refl _,id,.inl ⟨rfl,rfl⟩,fun d b=>absurd b (h d)⟩
theorem eM.trans{S S1 q:Int→Prop}{l l1 l2:Int}{f s u:Bool}(h1:eM S1 l f l1 s)(h2:eM q l1 s l2 u)(m:∀ d,S d↔S1 d∨q d):eM S l f l2 u where
 le:=asB h2.le h1.le
 rP h:=h2.rP (h1.rP h)
 src:=by
  rcases h2.src with⟨rfl,rfl⟩ | ⟨h,k⟩
  ·rcases h1.src with h | ⟨h,k⟩
   ·exact .inl h
   ·exact .inr ⟨h,(m _).2 (.inl k)⟩
  ·exact .inr ⟨h,(m _).2 (.inr k)⟩
 low d v:=by
  have b:=h2.le;rcases(m d).1 v with k | k
  ·obtain⟨a1,j⟩:=h1.low d k;exact⟨by omega,fun e=>h2.rP (j e)⟩
  ·obtain⟨a1,j⟩:=h2.low d k;refine⟨a1,fun e=>?_⟩;rcases arB l1 d with g | g
   ·rcases h1.src with⟨rfl,rfl⟩ | ⟨h,-⟩
    ·omega
    ·exact h2.rP h
   ·exact j g
theorem eM.iff{S S':Int→Prop}{l l':Int}{f b:Bool}(h:eM S l f l' b)(g:∀ d,S' d↔S d):eM S' l f l' b:=
 ⟨h.le,h.rP,by rcases h.src with k | ⟨k,k'⟩;exact .inl k;exact .inr ⟨k,(g _).2 k'⟩,fun d j=>h.low d ((g d).1 j)⟩
theorem eM.one{S:Int→Prop}{l x:Int}{f:Bool}(j:S x)(g:∀ d,S d→x≤d):eM S l f (if x≤l then x else l) (f||decide (x≤l)) where
 le:=by split<;>omega
 rP h:=by rw [h];rfl
 src:=by
  by_cases k:x≤l
  ·exact .inr ⟨by simp [k],by simpa [k]using j⟩
  ·exact .inl ⟨by simp [k],by simp [k]⟩
 low d b:=by
  have:=g d b;constructor
  ·split<;>omega
  ·intro e;simp [show x≤l by omega]
def LH(H:aj)(g:Tg)(ps:List bI)(n least:Int)(found:Bool):Prop:=(∃ a,H[0]?=aa (.box [.f (sl g (aX ps))] a))∧H[1]?=aa (.box [.f (fi n)] 0)∧H[2]?=aa (.box [.f (fi least)] 0)∧H[3]?=aa (.box [.f (.bool found)] 0) ∧
 H[4]?=aa (.box [.cl 259 [.ptr 0 0 0,.ptr 4 0 0,.ptr 1 0 0,.ptr 2 0 0,.ptr 3 0 0]] 0)
theorem LH.push{H:aj}{g:Tg}{ps:List bI}{n least:Int}{found:Bool}(h:LH H g ps n least found)(J:aj):LH (H++J) g ps n least found:=by
 obtain⟨⟨a,h0⟩,h1,h2,h3,h4⟩:=h;refine⟨⟨a,?_⟩,?_,?_,?_,?_⟩
 ·rw [AT (an h0)];exact h0
 ·rw [AT (an h1)];exact h1
 ·rw [AT (an h2)];exact h2
 ·rw [AT (an h3)];exact h3
 ·rw [AT (an h4)];exact h4
theorem Nn(g:Tg)(ps:List bI)(H:aj)(n least:Int)(found:Bool)(r s:Int)(e:LH H g ps n least found)(h0:0≤r)(A:r<s)(E:s≤1000000)(f:0≤n)(h:n≤1000000000000) :
  ∃ v H',Ev tab (.fn 259) [vi ps.length,clV r s,.c (.ptr 0 0 0),.c (.ptr 4 0 0),.c (.ptr 1 0 0),.c (.ptr 2 0 0),.c (.ptr 3 0 0)] H v H' ∧
   (v=.t []∧LH H' g ps n (if yC n r s≤least then yC n r s else least) (found||decide (yC n r s≤least))∧∀ i:Nat,5≤i→i<H.length→H'[i]?=H[i]?):=by
 obtain⟨⟨B,g0⟩,Y,Z,c,L⟩:=e;obtain⟨u1,-,u3,-⟩:=Ex h0 A f;have l4:=an L;refine cB rfl rfl fun Q O=>?_;have m:∀(t:T) (q:aj) (y:Int),y=yC n r s→t.g 8=.c (.ptr H.length 0 0)→t.g 4=.c (.ptr 1 0 0)→t.g 5=.c (.ptr 2 0 0)→t.g 6=.c (.ptr 3 0 0)→LH q g ps n least found→q[H.length]?=aa (.box [.f (fi y),.f (fi s)] 0)→(∀ i:Nat,5≤i→i<H.length→q[i]?=H[i]?) →
   WP tab 259 ab [.code yY] ⟨t,[],q⟩ Q:=by
  rintro t q _ rfl K W J X j U l;have w:=j.2.1;have S:=j.2.2.1;have q3:=j.2.2.2.1;apply ai;simp [K,W,J,U,w,S,u1];by_cases k:yC n r s≤least
  ·refine aq (by simp [k]) ?_;have F:(q.set 2 (.box [.f (fi (yC n r s))] 0))[3]?=aa (.box [.f (.bool found)] 0):=by rw [AI (by decide)];exact q3
   refine al (.inl rfl) ?_;simp [K,J,X,U,S,F];refine cD (O _ _ _ rfl rfl ⟨rfl,?_,fun i hi z=>by rw [AI (by omega),AI (by omega)];exact l i hi z⟩);obtain⟨⟨B,h0⟩,A,E,M,N⟩:=j;refine⟨⟨B,?_⟩,?_,?_,?_,?_⟩
   ·rw [AI (by decide),AI (by decide)];exact h0
   ·rw [AI (by decide),AI (by decide)];exact A
   ·rw [AI (by decide),IN (an E)];simp [k]
   ·rw [IN (by rw [List.length_set];exact an M)];simp [k]
   ·rw [AI (by decide),AI (by decide)];exact N
  ·refine bp (by simp [k]) ?_;refine cD (O _ _ _ rfl rfl ⟨rfl,?_,l⟩);simpa [k]using j
 apply ai;simp;have d:=LH.push (H:=H) (g:=g) (ps:=ps) (n:=n) (least:=least) (found:=found) ⟨⟨B,g0⟩,Y,Z,c,L⟩ [.box [.f (fi r),.f (fi s)] 0];have x:(H++[bo.box [.f (fi r),.f (fi s)] 0])[H.length]?=aa (.box [.f (fi r),.f (fi s)] 0):=by simp
 have u:∀ i:Nat,5≤i→i<H.length→(H++[bo.box [.f (fi r),.f (fi s)] 0])[i]?=H[i]?:=fun i _ z=>AT z;generalize H++[bo.box [.f (fi r),.f (fi s)] 0]=q at d x u ⊢;obtain⟨a1,r0⟩:=d.1;have I:=d.2.1;apply ak;apply ai;simp [r0];refine bp (by simp) ?_;apply ak;apply ai;by_cases k:r<n
 ·simp [I,x,k,show 0<s by omega];refine aq (by simp) ?_;have p:yC n r s=r+(n-r+s-1) / s*s:=by unfold yC;rw [ba k]
  have o:=lQ (a:=n-r+s-1) (b:=s) (by omega) (by omega) (by omega);have b1:(n-r+s-1) / s*s=yC n r s-r:=by omega
  refine al (.inl rfl) ?_;simp [I,x,aV (n:=n-r),aV (n:=n-r+s),aV (n:=n-r+s-1),o,b1,aV (n:=yC n r s-r),aV (n:=r+(yC n r s-r))];refine m _ _ _ (show r+(yC n r s-r)=_ by omega) (by simp) (by simp) (by simp) (by simp) ?_ (IN (an x)) fun i hi z=>by rw [AI (by omega)];exact u i hi z
  obtain⟨⟨a1,h0⟩,A,E,M,N⟩:=d;refine⟨⟨a1,?_⟩,?_,?_,?_,?_⟩
  all_goals (rw [AI (by omega)];assumption)
 ·simp [I,x,k];refine bp (by simp) ?_;exact m _ _ r (by unfold yC;rw [aW k]) (by simp) (by simp) (by simp) (by simp) d x u
def fC:List bI→Int
 | []=>1| p::l=>p.eV*fC l
theorem qL{l:List bI}(h:∀ p ∈ l,Mod p):1≤fC l:=by
 induction l with
 | nil=>exact Int.le_refl _
 | cons p l j=>
  have b:=(fg (h p aqv).ok).2.2.1;have d:=j fun q g=>h q (aqt _ g);have:=asi b d (by decide) (by omega);simp only [fC];omega
def sA(ps:List bI)(n a s d:Int):Prop:=n≤d∧s ∣ d-a∧∀ p ∈ ps,jo p d
theorem ans(g:Tg)(ps:List bI)(hM:∀ p ∈ ps,Mod p)(j6:ps.length≤64)(n:Int)(hn:0≤n)(g_:n≤1000000000000) :
  ∀(k i:Nat),i+k=ps.length→∀(H:aj) (least:Int) (found:Bool) (a s:Int),LH H g ps n least found→0≤a→a<s→s*fC (ps.drop i)≤1000000 →
  ∃ v H',Ev tab (.fn 259) [vi i,clV a s,.c (.ptr 0 0 0),.c (.ptr 4 0 0),.c (.ptr 1 0 0),.c (.ptr 2 0 0),.c (.ptr 3 0 0)] H v H' ∧
   (v=.t []∧∃ F z,LH H' g ps n F z∧eM (sA (ps.drop i) n a s) least found F z∧∀ i:Nat,5≤i→i<H.length→H'[i]?=H[i]?):=by
 intro k;induction k with
 | zero=>
  intro i hi H least found a s hH a0 a1 hs;have:i=ps.length:=by omega
  subst this;rw [arG]at hs ⊢;simp only [fC,Int.mul_one]at hs;obtain⟨v,H',J,rfl,hL,hk⟩:=Nn g ps H n least found a s hH a0 a1 hs hn g_;obtain⟨u1,u2,u3,u4⟩:=Ex (n:=n) a0 a1 hn;exact⟨_,H',J,rfl,_,_,hL,eM.one ⟨u1,u2,fun p hp=>absurd hp (List.not_mem_nil)⟩ (fun d hd=>u4 d hd.1 hd.2.1),hk⟩
 | succ k ih=>
  intro i hi H least found a s hH a0 a1 hs;have u:i<ps.length:=by omega
  obtain⟨p,hp⟩:=aK (ps[i]);have h_:p ∈ ps:=hp▸anc u;have L:=hM p h_;obtain⟨f0,f1,p0,p1,Az,-⟩:=fg L.ok;have a_:ps.drop i=p::ps.drop (i+1):=by rw [hp];exact apw u
  have i4:=qL (l:=ps.drop (i+1)) fun q hq=>hM q (List.mem_of_mem_drop hq);have j8:s*p.eV*fC (ps.drop (i+1))≤1000000:=by
   rw [a_]at hs;simp only [fC,←ar4]at hs;exact hs
  have j7:1≤s:=by omega
  have j4:s≤s*p.eV:=by
   have:=aqD p0 (show 0≤s by omega);omega
  have j5:s*p.eV≤1000000:=by
   have:=aqD i4 (show 0≤s*p.eV by omega);omega
  refine cB rfl rfl fun Q hQ=>?_;have E:=fun H:aj=>bR (H:=H) (bY ps) (dH (l:=ps) (j:=i) u);have m:=fun H:aj=>ij (H:=H) (k:=3) (bY ps) (dH (l:=ps) (j:=i) u) rfl;have B:=fun H:aj=>ij (H:=H) (k:=2) (bY ps) (dH (l:=ps) (j:=i) u) rfl;have A:=fun H:aj=>bF (H:=H) (g:=g) (rows:=aX ps) (sz:=4) (k:=.i64) (i:=i) (by omega) (by simpa using u);rw [←hp]at E m B;simp [bI.row]at E A m B;have l4:=an hH.2.2.2.2;apply ai;simp;have Z:=hH.push [.box [.f (fi a),.f (fi s)] 0];have K:(H++[bo.box [.f (fi a),.f (fi s)] 0])[H.length]?=aa (.box [.f (fi a),.f (fi s)] 0):=by simp
  have b_:∀ i:Nat,5≤i→i<H.length→(H++[bo.box [.f (fi a),.f (fi s)] 0])[i]?=H[i]?:=fun i _ hl=>AT hl;obtain⟨b8,f8⟩:=aK (H.length);rw [←f8]at K ⊢;generalize H++[bo.box [.f (fi a),.f (fi s)] 0]=HH at Z K b_ ⊢;obtain⟨q,q0⟩:=Z.1;apply ak;apply ai;simp [q0];refine aq (by simp [u]) ?_;apply ak;apply ai;simp [q0,A,m];refine bM p.jm.length (fun j t H'=>t.g 0=vi i∧t.g 2=.c (.ptr 0 0 0)∧t.g 3=.c (.ptr 4 0 0)∧t.g 8=.c (.ptr b8 0 0)∧t.g 21=.c (.f (sl p.cg (ints p.jm)))∧H'[b8]?=aa (.box [.f (fi a),.f (fi s)] 0) ∧
   ∃ l' O,LH H' g ps n l' O∧eM (fun d=>sA (ps.drop (i+1)) n a s d∧∃ c ∈ p.jm.take j,p.eV ∣ d-gj p c) least found l' O∧∀ x:Nat,5≤x→x<H.length→H'[x]?=H[x]?) (by omega) (by decide) (by decide) (by simp) (by simp)
   ⟨by simp,by simp,by simp,by simp,by simp,K,_,_,Z,eM.none (by simp),b_⟩ ?_ ?_
  ·rintro j t H' hj ⟨g0,g2,g3,g8,N,K,l',O,I,hP,b⟩ ha hb next
   have hm:=rT L (anc hj);obtain⟨i8,i9,-⟩:=pj L hm.1 hm.2;have M:=tW p L p.jm[j] hm.1 hm.2;simp [bI.row]at M;have i7:p.jm.take (j+1)=p.jm.take j++[p.jm[j]]:=by rw [aqW,By hj];rfl
   have c_:∀ d,(sA (ps.drop (i+1)) n a s d∧∃ c ∈ p.jm.take (j+1),p.eV ∣ d-gj p c)↔(sA (ps.drop (i+1)) n a s d∧∃ c ∈ p.jm.take j,p.eV ∣ d-gj p c)∨(sA (ps.drop (i+1)) n a s d∧p.eV ∣ d-gj p p.jm[j]):=by
    intro d;rw [i7];simp only [aqC,aqs];constructor
    ·rintro⟨h,c,hc | rfl,e⟩
     ·exact .inl ⟨h,c,hc,e⟩
     ·exact .inr ⟨h,e⟩
    ·rintro(⟨h,c,hc,e⟩ | ⟨h,e⟩)
     ·exact⟨h,c,.inl hc,e⟩
     ·exact⟨h,_,.inr rfl,e⟩
   obtain⟨a9,e0⟩:=I.1;have e4:=I.2.2.2.2;have i_:=an K;refine aG ?_;apply ai;simp [ha,N,bF,hj,iZ];rcases agd a0 a1 (by omega) i8 i9 L.anO with⟨a',s',d9,d_,i5,b9,y⟩ | ⟨a8,y⟩
   ·apply ai;simp [g0,g2,g8,K,e0,A,E,B,M,y];have i6:s'*fC (ps.drop (i+1))≤1000000:=by
     have:=ass i5 (show 0≤fC (ps.drop (i+1)) by omega);omega
    obtain⟨v,H2,J,rfl,l2,f2,e_,f7,a7⟩:=ih (i+1) (by omega) (H'++[.box [.f (fi a'),.f (fi s')] 0]) l' O a' s' (I.push _) d9 d_ i6;have J:=J.eq;have k4:(H'++[bo.box [.f (fi a'),.f (fi s')] 0])[4]?=aa (.box [.cl 259 [.ptr 0 0 0,.ptr 4 0 0,.ptr 1 0 0,.ptr 2 0 0,.ptr 3 0 0]] 0):=by rw [AT (an e4)];exact e4
    have kN:(H'++[bo.box [.f (fi a'),.f (fi s')] 0])[H'.length]?=aa (.box [.f (fi a'),.f (fi s')] 0):=by simp
    have kl:(H'++[bo.box [.f (fi a'),.f (fi s')] 0]).length=H'.length+1:=by simp
    have kb:(H'++[bo.box [.f (fi a'),.f (fi s')] 0])[b8]?=aa (.box [.f (fi a),.f (fi s)] 0):=by rw [AT (an K)];exact K
    have kk:∀ x:Nat,5≤x→x<H.length→(H'++[bo.box [.f (fi a'),.f (fi s')] 0])[x]?=H[x]?:=fun x h5 hx=>by
     rw [AT (by omega)];exact b x h5 hx
    apply ak;refine al (.inl rfl) ?_;simp;generalize H'++[bo.box [.f (fi a'),.f (fi s')] 0]=HA at J k4 kN kl kb kk a7 ⊢;refine aq (by simp) ?_;refine al (.inl rfl) ?_;have f_:IntKind.i64.wrap ((i:Int)+1)=((i+1:Nat):Int):=by rw [aV];rfl
    simp [g0,g3,k4,kN,f_,bQ];rw [show(↑i+1:Int)=((i+1:Nat):Int) from rfl];simp only [J];simp;refine av (next _ _ ?_ (by simp [ha]) (by simp [hb]));refine⟨by simp [g0],by simp [g2],by simp [g3],by simp [g8],by simp [N],?_,l2,f2,e_,?_,?_⟩
    ·rw [a7 b8 (by omega) (by omega)];exact kb
    ·refine eM.trans hP (f7.iff (S':=fun d=>sA (ps.drop (i+1)) n a s d∧p.eV ∣ d-gj p p.jm[j]) fun d=>?_) c_;unfold sA;rw [←b9 d];constructor
     ·rintro⟨⟨U,W,X⟩,Y⟩;exact⟨U,⟨W,Y⟩,X⟩
     ·rintro⟨U,⟨W,Y⟩,X⟩;exact⟨⟨U,W,X⟩,Y⟩
    ·intro x h5 hx;rw [a7 x h5 (by omega)];exact kk x h5 hx
   ·apply ai;simp [g0,g2,g8,K,e0,A,E,B,M,y];apply ak;refine al (.inl rfl) ?_;simp;refine bp (by simp) ?_;refine av (next _ _ ?_ (by simp [ha]) (by simp [hb]));refine⟨by simp [g0],by simp [g2],by simp [g3],by simp [g8],by simp [N],?_,l',O,I.push _,eM.trans hP (eM.none (S:=fun d=>sA (ps.drop (i+1)) n a s d∧p.eV ∣ d-gj p p.jm[j]) fun d hd=>a8 d ⟨hd.1.2.1,hd.2⟩) c_,?_⟩
    ·rw [AT (by omega)];exact K
    ·intro x h5 hx;rw [AT (by omega)];exact b x h5 hx
  ·rintro t H' ⟨g0,g2,g3,g8,N,K,l',O,I,hP,b⟩ - -;rw [aqS]at hP;refine aB (hQ _ _ _ rfl rfl ⟨rfl,l',O,I,hP.iff fun d=>?_,b⟩);rw [a_];unfold sA;simp only [aqA,forall_eq_or_imp];constructor
   ·rintro⟨U,W,X,Y⟩;exact⟨⟨U,W,Y⟩,X⟩
   ·rintro⟨⟨U,W,Y⟩,X⟩;exact⟨U,W,X,Y⟩
theorem wJ{p:bI}:∀ {l:List bI},p ∈ l→p.eV ∣ fC l
 | q::l,h=>by
  simp only [fC];rcases aqA.1 h with rfl | h
  ·exact ar9 _ _
  ·exact arP (wJ h) (asq _ _)
theorem Nm{p:bI}{d k:Int}(h:jo p d)(g:p.eV ∣ k):jo p (d-k):=by
 obtain⟨c,b,e⟩:=h;refine⟨c,b,?_⟩;have:=arM e g;rwa [show d-gj p c-k=d-k-gj p c by omega]at this
theorem wo{ps:List bI}(j:∀ p ∈ ps,Mod p){m d:Int}(h:∀ p ∈ ps,jo p d)(u:m≤d):∃ g,m≤g∧g<m+fC ps∧∀ p ∈ ps,jo p g:=by
 have v:=qL j;have l:=arh (d-m) (fC ps);have q:=aq8 (d-m) (show fC ps≠0 by omega);have s:=aq1 (d-m) (show 0<fC ps by omega);refine⟨d-fC ps*((d-m) / fC ps),by omega,by omega,fun p b=>Nm (h p b) (arP (wJ b) (ar9 _ _))⟩
def ajc(ps:List bI)(m d:Int):Prop:=m≤d∧(∀ p ∈ ps,jo p d)∧d<m+fC ps∧∀ b,m≤b→(∀ p ∈ ps,jo p b)→d≤b
theorem af4(g:Tg)(ps:List bI)(y:∀ p ∈ ps,Mod p)(L:ps.length≤64)(W:fC ps≤1000000)(n m:Int)(S:m=max n (dd ps))(I:m≤1000000000000) :
  (∃ d,ajc ps m d∧bh tab 178 [.c (.f (sl g (aX ps))),vi n]=Eq (.t [vi d,vb ae])) ∨
  ((∀ d,m≤d→¬ ∀ p ∈ ps,jo p d)∧bh tab 178 [.c (.f (sl g (aX ps))),vi n]=Eq (.t [vi 0,vb ag])):=by
 have u:=aaB g ps L;have X:=mF ps;have U:=qL y;obtain⟨v,H',b,rfl,l',O,E,z,-⟩:=ans g ps y L m (by omega) I ps.length 0 (by omega) [.box [.f (sl g (aX ps))] 0,.box [.f (fi m)] 0,.box [.f (fi 1152921504606846976)] 0,.box [.f (.bool ag)] 0,.box [.cl 259 [.ptr 0 0 0,.ptr 4 0 0,.ptr 1 0 0,.ptr 2 0 0,.ptr 3 0 0]] 0]
  1152921504606846976 ag 0 1 ⟨⟨0,rfl⟩,rfl,rfl,rfl,rfl⟩ (by decide) (by decide) (by rw [aro];omega)
 rw [aro]at z;have H:∀ d,sA ps m 0 1 d↔m≤d∧∀ p ∈ ps,jo p d:=fun d=>⟨fun h=>⟨h.1,h.2.2⟩,fun h=>⟨h.1,Int.one_dvd _,h.2⟩⟩
 have j:max n (dd ps)=m:=S.symm;have b:=b.eq;simp only [show((0:Nat):Int)=0 from rfl]at b;cases O with
 | true=>
  left;have s:sA ps m 0 1 l':=by
   rcases z.src with⟨_,h⟩ | ⟨_,h⟩
   ·cases h
   ·exact h
  have l:∀ q,m≤q→(∀ p ∈ ps,jo p q)→l'≤q:=fun q A B=>(z.low q ((H q).2 ⟨A,B⟩)).1;obtain⟨M,N⟩:=(H l').1 s;obtain⟨x,J,Y,K⟩:=wo y N M;refine⟨l',⟨M,N,by have:=l x J K;omega,l⟩,bh.eq (bS rfl rfl fun Q F=>?_)⟩;apply ai;simp;apply ai;simp [u,j];apply ai;simp;apply ai;simp;apply ai;simp;apply ai;simp [bQ,b];apply ak;apply ai;simp [E.2.2.2.1];refine bp (by simp) ?_;apply ai;simp [E.2.2.1];refine aB (F _ _ ?_);simp
 | false=>
  right;refine⟨fun d A B=>?_,bh.eq (bS rfl rfl fun Q F=>?_)⟩
  ·obtain⟨x,J,Y,K⟩:=wo y B A;have:=(z.low x ((H x).2 ⟨J,K⟩)).2 (by omega);cases this
  ·apply ai;simp;apply ai;simp [u,j];apply ai;simp;apply ai;simp;apply ai;simp;apply ai;simp [bQ,b];apply ak;apply ai;simp [E.2.2.2.1];refine aq (by simp) ?_;apply ai;simp;refine aB (F _ _ ?_);simp
def sy:List (Int × Int)→List bI→Prop
 | _,[]=>True| ch,p::l=>∃ c ∈ p.jm,(∀ x ∈ ch,(arO p.eV x.2:Int) ∣ gj p c-x.1)∧sy (ch++[(gj p c,p.eV)]) l
theorem Eb{d:Int}:∀(l:List bI) (g:List (Int × Int)),(∀ x ∈ g,x.2 ∣ d-x.1)→(∀ p ∈ l,jo p d)→sy g l
 | [],_,_,_=>trivial
 | p::l,g,m,u=>by
  obtain⟨c,j,s⟩:=u p aqv;refine⟨c,j,fun x b=>?_,Eb l _ (fun x b=>?_) fun q z=>u q (aqt _ z)⟩
  ·have v:=arP (asA p.eV x.2) (m x b);have y:=arP (asr p.eV x.2) s;have:=arM v y;rwa [show d-x.1-(d-gj p c)=gj p c-x.1 by omega]at this
  ·rcases aqC.1 b with b | b
   ·exact m x b
   ·rw [aqs.1 b];exact s
def RH(B:aj)(H:aj)(g:Tg)(ps:List bI)(b:List Int):Prop:=(∃ a,H[B.length]?=aa (.box [.f (sl g (aX ps))] a))∧H[B.length+1]?=aa (.box (b.map fun x=>C.f (fi x)) 0)∧H[B.length+2]?=aa (.box [.sl (B.length+1) 0 ps.length ps.length 0 1] 0) ∧
 H[B.length+3]?=aa (.box [.cl 255 [.ptr B.length 0 0,.ptr (B.length+2) 0 0,.ptr (B.length+3) 0 0]] 0)∧∀ i:Nat,i<B.length→H[i]?=B[i]?
def Cho(ps:List bI)(d:List Int)(b:List (Int × Int)):Prop:=∀ j,(h:j<b.length)→d[j]?=aa b[j].1∧(∃ p,ps[j]?=aa p∧p.eV=b[j].2)∧0≤b[j].1∧b[j].1≤1000
theorem apD(B:aj){o:Nat}(ho:o=B.length)(g:Tg)(ps:List bI)(hM:∀ p ∈ ps,Mod p)(u6:ps.length≤64) :
  ∀(k i:Nat),i+k=ps.length→∀(H:aj) (ls:List Int) (m:List (Int × Int)),RH B H g ps ls→ls.length=ps.length→m.length=i→Cho ps ls m →
  ∃ v H',Ev tab (.fn 255) [vi i,.c (.ptr o 0 0),.c (.ptr (o+2) 0 0),.c (.ptr (o+3) 0 0)] H v H' ∧
   ∃ b,v=vb b∧(b=ae↔sy m (ps.drop i))∧∃ d,RH B H' g ps d∧d.length=ps.length∧d.take i=ls.take i:=by
 intro k;induction k with
 | zero=>
  intro i hi H ls m hH i9 i5 F;have:i=ps.length:=by omega
  subst this;obtain⟨q,q0⟩:=hH.1;rw [←ho]at q0;refine cB rfl rfl fun Q hQ=>?_;apply ai;simp;refine zY ?_;apply ak;apply ai;simp [q0];refine aq (by simp) ?_;apply ai;simp;exact aB (hQ _ _ _ rfl (js (by simp)) ⟨ae,rfl,by rw [arG];simp [sy],ls,hH,i9,rfl⟩)
 | succ k ih=>
  intro i hi H ls m hH i9 i5 F;have z:i<ps.length:=by omega
  obtain⟨p,hp⟩:=aK (ps[i]);have t9:p ∈ ps:=hp▸anc z;have O:=hM p t9;obtain⟨f0,f1,p0,p1,Az,-⟩:=fg O.ok;have s8:ps.drop i=p::ps.drop (i+1):=by rw [hp];exact apw z
  have Z:=fun H:aj=>bR (H:=H) (bY ps) (dH (l:=ps) (j:=i) z);have u:=fun H:aj=>ij (H:=H) (k:=3) (bY ps) (dH (l:=ps) (j:=i) z) rfl;have X:=fun H:aj=>ij (H:=H) (k:=2) (bY ps) (dH (l:=ps) (j:=i) z) rfl;have I:=fun H:aj=>bF (H:=H) (g:=g) (rows:=aX ps) (sz:=4) (k:=.i64) (i:=i) (by omega) (by simpa using z);rw [←hp]at Z u X;simp [bI.row]at Z I u X;obtain⟨q,q0⟩:=hH.1;rw [←ho]at q0;refine cB rfl rfl fun Q hQ=>?_;apply ai;simp;refine zY ?_;apply ak;apply ai;simp [q0];refine aC (by simp;omega) (aO ?_);refine ak (Ze ?_);apply ak;apply ai;simp [q0,I,u];obtain⟨Ok,j7⟩:∃ Ok:Int→Prop,Ok=fun c=>(∀ x ∈ m,(arO p.eV x.2:Int) ∣ gj p c-x.1)∧sy (m++[(gj p c,p.eV)]) (ps.drop (i+1)):=⟨_,rfl⟩
  have S:∀ c,Ok c↔((∀ x ∈ m,(arO p.eV x.2:Int) ∣ gj p c-x.1)∧sy (m++[(gj p c,p.eV)]) (ps.drop (i+1))):=fun c=>by rw [j7]
  have e_:sy m (ps.drop i)↔∃ c ∈ p.jm,Ok c:=by rw [s8,j7];rfl
  refine bM p.jm.length (fun j t H'=>t.g 0=vi i∧t.g 1=.c (.ptr o 0 0)∧t.g 2=.c (.ptr (o+2) 0 0)∧t.g 3=.c (.ptr (o+3) 0 0)∧t.g 18=.c (.f (sl p.cg (ints p.jm))) ∧
   (∀ c ∈ p.jm.take j,¬ Ok c)∧∃ d,RH B H' g ps d∧d.length=ps.length∧d.take i=ls.take i) (by omega) (by decide) (by decide) (by simp) (by simp) ⟨by simp,by simp,by simp,by simp,by simp,by simp,ls,hH,i9,rfl⟩ ?_ ?_
  ·rintro j t H' hj ⟨g0,g1,g2,g3,s,c_,d,hR,K,L⟩ ha hb next
   have hm:=rT O (anc hj);obtain⟨q_,t_,-⟩:=pj O hm.1 hm.2;have Y:=tW p O p.jm[j] hm.1 hm.2;simp [bI.row]at Y;have u7:=O.anO;have n_:p.jm.take (j+1)=p.jm.take j++[p.jm[j]]:=by rw [aqW,By hj];rfl
   have f8:¬ Ok p.jm[j]→∀ c ∈ p.jm.take (j+1),¬ Ok c:=by
    intro h c hc;rw [n_,aqC,aqs]at hc;rcases hc with hc | rfl
    ·exact c_ c hc
    ·exact h
   obtain⟨r,hr⟩:=aK (gj p p.jm[j]);rw [←hr]at q_ t_ Y;obtain⟨q',d9⟩:=hR.1;have N:=hR.2.1;have d_:=hR.2.2.1;have o_:=hR.2.2.2.1;have p_:=hR.2.2.2.2;rw [←ho]at d9 N d_ o_ p_;have f7:∀ j,(h:j<m.length)→d[j]?=aa m[j].1:=fun j h=>by
    have h1:(d.take i)[j]?=d[j]?:=List.getElem?_take_of_lt (by omega);have h2:(ls.take i)[j]?=ls[j]?:=List.getElem?_take_of_lt (by omega);rw [←h1,L,h2];exact(F j h).1
   refine aG ?_;apply ai;simp [ha,s,bF,hj,iZ];apply ai;simp [g0,g1,d9,I,Z,Y];apply ak;apply ai;simp [g0];refine bM i (fun n t H2=>(t.g 0=vi i∧t.g 1=.c (.ptr o 0 0)∧t.g 2=.c (.ptr (o+2) 0 0)∧t.g 3=.c (.ptr (o+3) 0 0)∧t.g 18=.c (.f (sl p.cg (ints p.jm)))∧t.g 20=vi j∧t.g 19=vi p.jm.length∧t.g 8=vi r)∧H2=H'∧∀ x ∈ m.take n,(arO p.eV x.2:Int) ∣ r-x.1)
    (by omega) (by decide) (by decide) (by simp) (by simp) ⟨⟨by simp [g0],by simp [g1],by simp [g2],by simp [g3],by simp [s],by simp [ha],by simp [hb],by simp⟩,rfl,by simp⟩ ?_ ?_
   ·rintro n t H2 hn ⟨⟨g0,g1,g2,g3,s,a8,a7,g8⟩,h_,E⟩ j9 s7 nx;rw [h_];have b_:n<ps.length:=by omega
    have b9:n<m.length:=by omega
    obtain⟨-,⟨pn,n8,i_⟩,x0,x1⟩:=F n b9;have i8:=f7 n b9;obtain⟨x,hx⟩:=aK (m[n]);rw [←hx]at i8 i_ x0 x1;have f_:ps[n]=pn:=by rw [By b_]at n8;exact asg n8
    have r_:=hM pn (f_▸anc b_);obtain⟨-,-,z0,z1,-⟩:=fg r_.ok;rw [i_]at z0 z1;have A:=fun H:aj=>ij (H:=H) (k:=2) (bY ps) (dH (l:=ps) (j:=n) b_) rfl;have U:=fun H:aj=>bF (H:=H) (g:=g) (rows:=aX ps) (sz:=4) (k:=.i64) (i:=n) (by omega) (by simpa using b_);rw [f_]at A;simp [bI.row,i_]at A U;have W:bA H' 1 ab (.c (.sl (o+1) 0 ps.length ps.length 0 1)) (vi n)=aa (.c (.ptr (o+1) n 0)):=by
     simp [bA,gD,N,K];omega
    have m4:aU H' ab (.c (.ptr (o+1) n 0))=aa (vi x.1):=by
     have hd:(d.map fun y=>C.f (fi y)).drop n=C.f (fi x.1) ::(d.map fun y=>C.f (fi y)).drop (n+1):=by
      rw [apw (by simp;omega),List.getElem_map];rw [By (by omega)]at i8;rw [asg i8]
     simp only [aU,aF,N,Option.bind_some];rw [hd];rfl
    have t8:aU H' ab (.c (.ptr (o+2) 0 0))=aa (.c (.sl (o+1) 0 ps.length ps.length 0 1)):=by simp [d_]
    have t7:aU H' ab (.c (.ptr o 0 0))=aa (.c (.f (sl g (aX ps)))):=by simp [d9]
    obtain⟨gg,i7⟩:=aK ((arO p.eV x.2:Int):Int);have s9:arO p.eV x.2=aso p.eV.toNat x.2.toNat:=by
     show aso p.eV.natAbs x.2.natAbs=_;rw [show p.eV.natAbs=p.eV.toNat by omega,show x.2.natAbs=x.2.toNat by omega]
    have u5:0<gg:=by
     have:=asa x.2 (show p.eV≠0 by omega);omega
    have k_:bh tab 257 [vi p.eV,vi x.2]=Eq (vi gg):=by
     have h:=YU (a:=p.eV.toNat) (b:=x.2.toNat) (by omega) (by omega);rw [show((p.eV.toNat:Nat):Int)=p.eV by omega,show((x.2.toNat:Nat):Int)=x.2 by omega,←s9,←i7]at h;exact h
    have r5:=aV (n:=r-x.1);have n9:de .rem (vi (r-x.1)) (vi gg)=aa (vi ((r-x.1).tmod gg)):=gI (by omega);have J:m.take (n+1)=m.take n++[x]:=by rw [aqW,By b9,hx];rfl
    refine aG ?_;apply ai;simp [j9];apply ai;simp [g0,g1,g2,g8,t7,t8,W,m4,I,X,U,A,k_,r5,n9,-az];by_cases hd:gg ∣ r-x.1
    ·have j4:(r-x.1).tmod gg=0:=Int.tmod_eq_zero_of_dvd hd;refine bp (by simp [j4]) ?_;refine av (nx _ _ ?_ (by simp [j9]) (by simp [s7]));refine⟨⟨by simp [g0],by simp [g1],by simp [g2],by simp [g3],by simp [s],by simp [a8],by simp [a7],by simp [g8]⟩,rfl,fun y hy=>?_⟩;rw [J,aqC,aqs]at hy;rcases hy with hy | rfl
     ·exact E y hy
     ·rw [←i7];exact hd
    ·have j4:¬ (r-x.1).tmod gg=0:=fun e=>hd (Int.dvd_of_tmod_eq_zero e);refine aq (by simp [j4]) ?_;refine bH rfl (next _ _ ?_ (by simp [a8]) (by simp [a7]));refine⟨by simp [g0],by simp [g1],by simp [g2],by simp [g3],by simp [s],f8 ?_,d,hR,K,L⟩;rw [S];rintro⟨h,-⟩;have:=h x (hx▸anc b9);rw [←i7,←hr]at this;exact hd this
   ·rintro t H2 ⟨⟨g0,g1,g2,g3,s,a8,a7,g8⟩,h_,E⟩ - -;rw [h_];rw [ap1 (by omega)]at E;have W:bA H' 1 ab (.c (.sl (o+1) 0 ps.length ps.length 0 1)) (vi i)=aa (.c (.ptr (o+1) i 0)):=by
     simp [bA,gD,N,K];omega
    have g_:cZ H' (.ptr (o+1) i 0) [.f (fi r)]=aa (H'.set (o+1) (.box ((d.set i r).map fun y=>C.f (fi y)) 0)):=by
     simp only [cZ,N];rw [ba (by simp;omega),As (by simp;omega),List.map_set]
    have m_:(H'.set (o+1) (.box ((d.set i r).map fun y=>C.f (fi y)) 0))[o+3]?=H'[o+3]?:=AI (by omega);have m9:=an N;have i4:RH B (H'.set (o+1) (.box ((d.set i r).map fun y=>C.f (fi y)) 0)) g ps (d.set i r):=by
     unfold RH;rw [←ho];refine⟨⟨q',?_⟩,IN m9,?_,?_,fun i hi=>?_⟩
     ·rw [AI (by omega)];exact d9
     ·rw [AI (by omega)];exact d_
     ·rw [m_];exact o_
     ·rw [AI (by omega)];exact p_ i hi
    have i6:Cho ps (d.set i r) (m++[(r,p.eV)]):=by
     intro y hy;rw [List.length_append,List.length_singleton]at hy;by_cases j5:y<m.length
     ·rw [List.getElem_append_left j5,AI (by omega)];obtain⟨-,h2,h3⟩:=F y j5;exact⟨f7 y j5,h2,h3⟩
     ·have:y=i:=by omega
      subst this;rw [List.getElem_append_right (by omega)];simp only [i5,Nat.sub_self,List.getElem_cons_zero];refine⟨by rw [IN (by omega)],⟨p,by rw [By z,hp],rfl⟩,q_,by omega⟩
    obtain⟨v,H3,a_,b,rfl,j_,M,j8,l_,J⟩:=ih (i+1) (by omega) _ _ (m++[(r,p.eV)]) i4 (by simpa using K) (by simp [i5]) i6;have a_:=a_.eq;have j6:=i4.2.2.2.1;rw [←ho]at j6;generalize H'.set (o+1) (.box ((d.set i r).map fun y=>C.f (fi y)) 0)=HN at g_ a_ j6 m_ i4;have s_:IntKind.i64.wrap ((i:Int)+1)=((i+1:Nat):Int):=by rw [aV];rfl
    apply ai;simp [g0,g2,g8,d_,W,g_,-bf];apply ai;simp [g0,g3,j6,s_,bQ];rw [show(↑i+1:Int)=((i+1:Nat):Int) from rfl];simp only [a_];simp;cases b with
    | true=>
     refine aq (by simp) ?_;apply ai;simp;refine aB (hQ _ _ _ rfl (js (by simp)) ⟨ae,rfl,?_,M,j8,l_,?_⟩)
     ·rw [e_];refine⟨fun _=>⟨_,anc hj,?_⟩,fun _=>rfl⟩;rw [S,←hr];exact⟨E,j_.1 rfl⟩
     ·have h1:(M.take (i+1)).take i=M.take i:=by rw [arR,arK (by omega)]
      rw [←h1,J,arR,arK (by omega),List.take_set_of_le (by omega),L]
    | false=>
     refine bp (by simp) ?_;refine av (next _ _ ?_ (by simp [a8]) (by simp [a7]));refine⟨by simp [g0],by simp [g1],by simp [g2],by simp [g3],by simp [s],f8 ?_,M,j8,l_,?_⟩
     ·rw [S,←hr];rintro⟨-,h⟩;have:=j_.2 h;cases this
     ·have h1:(M.take (i+1)).take i=M.take i:=by rw [arR,arK (by omega)]
      rw [←h1,J,arR,arK (by omega),List.take_set_of_le (by omega),L]
  ·rintro t H' ⟨g0,g1,g2,g3,s,c_,d,hR,K,L⟩ - -;rw [aqS]at c_;apply ai;simp;refine aB (hQ _ _ _ rfl (js (by simp)) ⟨ag,rfl,?_,d,hR,K,L⟩);rw [e_];constructor
   ·intro h;cases h
   ·rintro⟨c,hc,h⟩;exact absurd h (c_ c hc)
end Go.Proofs.YtnaofdffomdmhaaGreat
