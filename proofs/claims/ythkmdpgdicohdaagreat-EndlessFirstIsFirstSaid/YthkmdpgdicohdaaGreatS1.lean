/-
  ad2 the nz kH and the mN answer, for all arguments of their kind, in the small machine: part 1.
-/
import Derived.Test.YthkmdpgdicohdaaGreatTab
import Derived.Test.YthkmdpgdicohdaaGreatK3
import Derived.Test.YthkmdpgdicohdaaGreatK4
import Derived.KernelRfl
open Option renaming some → aa,none → ab
open Bool renaming true → ae,false → ag
open List renaming drop_eq_getElem_cons → alr, getElem_mem → IT, getElem?_append_left → AT, take_add_one → alv, getElem?_eq_getElem → By, mem_append → alj, mem_singleton → ali, pairwise_append → al7, append_assoc → alR, pairwise_cons → amV, mem_cons → alT, take_length → als, pairwise_singleton → alY, drop_length → am8, all_eq_true → alx, map_congr_left → amG, mem_map → alz, pairwise_iff_getElem → alO, length_map → alm, getElem_map → amK, take_of_length_le → alw, getElem_of_mem → aly, mem_take_iff_getElem → al3, map_cons → alk, getElem?_set_ne → sh, mem_cons_self → alo, mem_cons_of_mem → alq, getElem?_set_self → BY, drop_zero → ama, length_append → alg, take_take → am6, mem_append_left → alQ, mem_append_right → amt, map_append → aml, getElem?_append_right → aln, getElem?_eq_none_iff → amR
open Bool renaming true_and → amj, and_eq_true → If
open Nat renaming le_refl → alh, zero_add → al8, gcd → amT
open Int renaming toNat_natCast → alG, tmod_eq_emod_of_nonneg → amE, tdiv_eq_ediv_of_nonneg → am0, ediv_nonneg → amo, le_trans → amv, ediv_le_self → amz, mul_nonneg → amp, mul_le_mul → amB, emod_nonneg → al9, emod_lt_of_pos → al6, mul_neg → anp, mul_le_mul_of_nonneg_left → alC, emod_eq_emod_iff_emod_sub_eq_zero → ann, dvd_mul_right → ang, gcd → amc, lt_or_le → amw, dvd_refl → amI, le_of_dvd → amk, emod_add_mul_ediv → al5, mul_comm → amf, mul_sub → anq, mul_assoc → anc, mul_left_comm → anG, dvd_sub → amU, dvd_mul_left → anw, dvd_trans → amy, gcd_dvd_left → ank, gcd_pos_of_ne_zero_left → amq, ediv_mul_cancel → anE, natCast_mul → ana, mul_le_mul_of_nonneg_right → anA, le_refl → amJ, mul_one → anx
open Option.some renaming inj → amP
set_option linter.unusedVariables false
set_option linter.constructorNameAsVariable false
set_option linter.unusedSimpArgs false
set_option linter.unusedSectionVars false
set_option linter.unnecessarySimpa false
set_option maxRecDepth 100000
namespace Go.Proofs.YthkmdpgdicohdaaGreat
open Go Km
def dj(n lo hi:Int):Bool:=decide (lo≤n)&&decide (n≤hi)
theorem J7{n lo hi:Int}(h:dj n lo hi=ae):lo≤n∧n≤hi:=by simpa [dj]using h
structure aI where
 hg:Tg
 head:List Int
 fr:Int
 aM:Int
 cg:Tg
 bf:List Int
def aI.row(p:aI):List FC:=[sl p.hg (ints p.head),fi p.fr,fi p.aM,sl p.cg (ints p.bf)]
def aK(l:List aI):List (List FC):=l.map aI.row
@[simp] theorem zT (l:List aI):(aK l).length=l.length:=by simp [aK]
theorem bD(l:List aI):bO 4 (aK l):=bO.map fun _=>rfl
theorem cQ{l:List aI}{j:Nat}(b:j<l.length):(aK l)[j]?=aa l[j].row:=by simp [aK,b]
def dA(limit last:Int):List Int→Bool
 | []=>ae| n::r=>decide (last<n)&&decide (n<limit)&&dA limit n r
theorem xC{limit last:Int}{l:List Int}{j:Nat}(b:j<l.length):dA limit last (l.drop j)=(decide (last<l[j])&&decide (l[j]<limit)&&dA limit l[j] (l.drop (j+1))):=by
 rw [alr b];rfl
def cF(p:aI):Bool:=decide (0≤p.fr)&&decide (p.fr≤1099511627776)&&decide (1≤p.aM)&&decide (p.aM≤1099511627776) &&
 decide ((p.head.length:Int)+p.bf.length≤1048576)&&dA p.fr (-1) p.head&&dA p.aM (-1) p.bf
theorem JP(g:Tg)(l:List Int)(limit:Int)(A:l.length≤9223372036854775807):Kf tab 124 [.c (.f (sl g (ints l))),vi limit] (vb (dA limit (-1) l)):=by
 refine dO rfl rfl fun H Q q=>?_;apply ai;simp;apply ai;simp;apply au;apply ai;simp;refine bZ l.length (fun j t H'=>t.g 1=vi limit∧t.g 8=.c (.f (sl g (ints l)))∧H=H'∧∃ last,t.g 5=vi last∧dA limit (-1) l=dA limit last (l.drop j)) A (by decide) (by decide) (by simp) (by simp) (by simp) ?_ ?_
 ·rintro j t _ x ⟨d,m,rfl,last,u,b⟩ s v next
  rw [xC x]at b;refine az ?_;apply ai;simp [s,m,bG,x,eh];apply au;apply ai;simp [u,d];by_cases y:l[j]≤last
  ·simp [y];refine av (by simp) ?_;apply ai;simp;refine aD (q _ _ ?_);simp [b,show¬ last<l[j] by omega]
  simp [y,d];by_cases z:limit≤l[j]
  ·simp [z];refine av (by simp) ?_;apply ai;simp;refine aD (q _ _ ?_);simp [b,show¬ l[j]<limit by omega]
  simp [z];refine aF (by simp) ?_;refine aP ?_;refine aq (.inl rfl) ?_;simp;refine ax (next _ _ ?_ (by simp [s]) (by simp [v]));rw [decide_eq_true (by omega),decide_eq_true (by omega)]at b;exact⟨by simp [d],by simp [m],rfl,l[j],by simp,by simpa using b⟩
 ·rintro t _ ⟨d,m,rfl,last,u,b⟩ s v;apply ai;simp;refine aD (q _ _ ?_);simp [b,dA]
theorem nB(g:Tg)(l:List Int)(limit:Int)(b:l.length≤9223372036854775807) :
  bW tab 124 [.c (.f (sl g (ints l))),vi limit]=Eq (vb (dA limit (-1) l)):=(JP g l limit b).eq
theorem J8{n:Int}(b:9223372036854775807<n)(d:n≤18446744073709551615):IntKind.wrap .i64 n=n-18446744073709551616:=by
 simp only [IntKind.wrap,IntKind.bits,IntKind.signed];simp;omega
theorem oe:∀(l:List Int) (limit last:Int),dA limit last l=ae→l.length=0∨last+l.length<limit
 | [],_,_,_=>.inl rfl
 | n::r,limit,last,h=>by
  simp [dA]at h;have:=oe r limit n h.2;simp;omega
theorem afC(p:aI)(v:p.head.length≤9223372036854775807)(x:p.bf.length≤9223372036854775807) :
  Kf tab 82 [.a (p.row.map .f)] (vb (cF p)):=by
 refine dO rfl rfl fun H Q d=>?_;apply ai;simp [aI.row];apply ai;simp;by_cases l:0≤p.fr
 case neg=>
  simp [l];refine aD (d _ _ ?_);simp [cF,l]
 simp [l];by_cases m:p.fr≤1099511627776
 case neg=>
  simp [m];refine aD (d _ _ ?_);simp [cF,m]
 simp [m];by_cases q:1≤p.aM
 case neg=>
  simp [q];refine aD (d _ _ ?_);simp [cF,q]
 simp [q];by_cases g:p.aM≤1099511627776
 case neg=>
  simp [g];refine aD (d _ _ ?_);simp [cF,g]
 by_cases y:p.head.length+p.bf.length≤9223372036854775807
 case neg=>
  have e:IntKind.wrap .i64 ((p.head.length:Int)+p.bf.length)=(p.head.length:Int)+p.bf.length-18446744073709551616:=J8 (by omega) (by omega);simp [g,e,show(p.head.length:Int)+p.bf.length-18446744073709551616≤1048576 by omega,nB p.hg p.head p.fr v];cases j:dA p.fr (-1) p.head
  ·simp;refine aD (d _ _ ?_);simp [cF,j]
  simp [nB p.cg p.bf p.aM x];have u:dA p.aM (-1) p.bf=ag:=by
   have a:=oe _ _ _ j;cases u:dA p.aM (-1) p.bf
   ·rfl
   ·have b:=oe _ _ _ u;omega
  refine aD (d _ _ ?_);simp [cF,u]
 simp [g,aO (n:=(p.head.length:Int)+p.bf.length)];by_cases s:(p.head.length:Int)+p.bf.length≤1048576
 case neg=>
  simp [s];refine aD (d _ _ ?_);simp [cF,s]
 simp [s,nB p.hg p.head p.fr v];cases j:dA p.fr (-1) p.head
 ·simp;refine aD (d _ _ ?_);simp [cF,j]
 simp [nB p.cg p.bf p.aM x];refine aD (d _ _ ?_);simp [cF,l,m,q,g,s,j]
def aI.Sm(p:aI):Prop:=p.head.length≤9223372036854775807∧p.bf.length≤9223372036854775807
theorem qq(p:aI)(h:p.Sm):bW tab 82 [.a (p.row.map .f)]=Eq (vb (cF p)):=(afC p h.1 h.2).eq
theorem jO{p:aI}(h:cF p=ae):p.Sm:=by
 simp [cF]at h;exact⟨by omega,by omega⟩
structure cE where
 tg:Tg
 fs:List aI
def cE.row(t:cE):List FC:=[sl t.tg (aK t.fs)]
def aB(l:List cE):List (List FC):=l.map cE.row
@[simp] theorem ab0 (l:List cE):(aB l).length=l.length:=by simp [aB]
theorem eZ(l:List cE):bO 1 (aB l):=bO.map fun _=>rfl
theorem gd{l:List cE}{j:Nat}(b:j<l.length):(aB l)[j]?=aa l[j].row:=by simp [aB,b]
def cE.Sm(t:cE):Prop:=t.fs.length≤9223372036854775807∧∀ p ∈ t.fs,p.Sm
def jd(t:cE):Bool:=decide (1≤(t.fs.length:Int))&&decide ((t.fs.length:Int)≤4)&&t.fs.all cF
def iH(l:List cE):Bool:=decide ((l.length:Int)≤64)&&l.all jd
theorem TE{b:Type}{l:List b}{p:b→Bool}{j:Nat}(d:j<l.length):(l.drop j).all p=(p l[j]&&(l.drop (j+1)).all p):=by
 rw [alr d,List.all_cons]
theorem ad4(p:aI)(h:p.Sm):Kf tab 81 [.a (p.row.map .f)] (vb (!cF p)):=by
 refine dO rfl rfl fun H Q d=>?_;have b:=qq p h;simp [aI.row]at b;apply ai;simp [aI.row];apply ai;simp [b];refine aD (d _ _ ?_);simp
theorem It(g:Tg)(l:List aI)(d:l.length≤9223372036854775807)(h:∀ p ∈ l,p.Sm) :
  bW tab 80 [.c (.f (sl g (aK l))),.c (.f (.fn 81 []))]=Eq (vb (l.any fun p=>!cF p)):=
 (jH Tv (nr Tx l aI.row (fun r=>.a (r.row.map .f)) (fun p=>!cF p) g 81 [] d
  (fun j b H=>cR (bD l) (cQ b)) (fun p m=>ad4 p (h p m)))).eq
theorem sV(g:Tg)(l:List cE)(E:l.length≤9223372036854775807)(h:∀ t ∈ l,t.Sm):Kf tab 50 [.a [.f (sl g (aB l))]] (vb (iH l)):=by
 refine dO rfl rfl fun H Q s=>?_;apply ai;simp;apply au;apply ai;simp;by_cases y:(64:Int)<l.length
 ·simp [y];refine av (by simp) ?_;apply ai;simp;refine aD (s _ _ ?_);simp [iH,show¬ (l.length:Int)≤64 by omega]
 simp [y];refine aF (by simp) ?_;refine aP ?_;apply au;apply ai;simp;refine bZ l.length (fun j t H'=>t.g 10=.c (.f (sl g (aB l)))∧(∃ J,H'=H++J)∧l.all jd=(l.drop j).all jd) E (by decide) (by decide) (by simp) (by simp) (by simp) ?_ ?_
 ·rintro j t _ m ⟨eH,⟨J,rfl⟩,d⟩ u v next
  rw [TE m]at d;have x:=h l[j] (IT m);have b:=mF (H:=H++J) (k:=0) (eZ l) (gd m) rfl;refine az ?_;apply ai;simp at b;simp [u,eH,bG,m,b];have bad:jd l[j]=ag→∀(t:T) (J:an) k,WP tab 50 ab (.code (.region [⟨D 2,.cV (.k (.c (.f (.bool ag)))),ab⟩] [])::.code .ret::k) ⟨t,[],H++J⟩ Q:=by
   intro B t J k;refine aq (.inl rfl) ?_;simp;refine aD (s _ _ ?_);simp [iH,d,B]
  apply ai;simp;by_cases z:(l[j].fs.length:Int)<1
  ·simp [z];exact av (by simp) (au (bad (by simp [jd,show¬ 1≤(l[j].fs.length:Int) by omega]) _ _ _))
  simp [z];by_cases A:(4:Int)<l[j].fs.length
  ·simp [A];exact av (by simp) (au (bad (by simp [jd,show¬ (l[j].fs.length:Int)≤4 by omega]) _ _ _))
  simp [A,It l[j].tg l[j].fs x.1 x.2];cases q:l[j].fs.any fun p=>!cF p
  ·have:jd l[j]=ae:=by
    simp [jd]at q ⊢;exact⟨⟨by omega,by omega⟩,q⟩
   refine aF (by simp) ?_;refine aP (ax (next _ _ ?_ (by simp [u]) (by simp [v])));rw [this,amj]at d;exact⟨by simp [eH],⟨_,rfl⟩,d⟩
  ·exact av (by simp) (au (bad (by simp [jd]at q ⊢;intro _ _;exact q) _ _ _))
 ·rintro t _ ⟨eH,⟨J,rfl⟩,d⟩ u v;apply ai;simp;refine aD (s _ _ ?_);simp [iH,d,show(l.length:Int)≤64 by omega]
theorem oQ(a:Int):bW tab 65 [vi a]=Eq (vb ag):=(show Kf tab 65 [vi a] (vb ag) by
 refine dO rfl rfl fun H Q b=>?_;apply ai;simp;apply ai;simp;refine aD (b _ _ ?_);simp).eq
def gi(a b:Int):Int:=if a<b then -1 else if b<a then 1 else 0
theorem AD(a b:Int):Kf tab 33 [vi a,vi b] (vi (gi a b)):=by
 refine dO rfl rfl fun H Q g=>?_;apply ai;simp;apply ai;simp [oQ];apply ai;simp [oQ];apply au;apply ai;simp;refine aW (by simp) ?_;apply au;apply ai;simp;refine aW (by simp) ?_;apply au;apply ai;simp;by_cases h:a<b
 ·refine av (by simp [h]) ?_;apply ai;simp;refine aD (g _ _ ?_);simp [gi,h]
 refine aW (by simp [h]) ?_;apply au;apply ai;simp;by_cases d:b<a
 ·refine av (by simp [d]) ?_;apply ai;simp;refine aD (g _ _ ?_);simp [gi,h,d]
 refine aW (by simp [d]) ?_;apply ai;simp;refine aD (g _ _ ?_);simp [gi,h,d]
theorem sC(a b:Int):bW tab 33 [vi a,vi b]=Eq (vi (gi a b)):=(AD a b).eq
def Bf:List Int→Int
 | []=>0| a::r=>if a=0 then Bf r else a
theorem UU{l:List Int}{j:Nat}(b:j<l.length):Bf (l.drop j)=if l[j]=0 then Bf (l.drop (j+1))else l[j]:=by
 rw [alr b];rfl
theorem aiO(g:Tg)(l:List Int)(x:l.length≤9223372036854775807):Kf tab 32 [.c (.f (sl g (ints l)))] (vi (Bf l)):=by
 refine dO rfl rfl fun H Q s=>?_;apply ai;simp;apply ai;simp;apply au;apply ai;simp;refine bZ l.length (fun j t H'=>t.g 3=vi 0∧t.g 6=.c (.f (sl g (ints l)))∧H=H'∧Bf l=Bf (l.drop j)) x (by decide) (by decide) (by simp) (by simp) (by simp) ?_ ?_
 ·rintro j t _ v ⟨d,m,rfl,b⟩ q u next
  rw [UU v]at b;refine az ?_;apply ai;simp [q,m,bG,v,eh];apply ai;simp [d];by_cases h:l[j]=0
  ·refine aF (by simp [h]) ?_;refine aP (ax (next _ _ ?_ (by simp [q]) (by simp [u])));rw [ba h]at b;exact⟨by simp [d],by simp [m],rfl,b⟩
  ·refine av (by simp [h]) ?_;apply ai;simp;refine aD (s _ _ ?_);simp [b,h]
 ·rintro t _ ⟨d,m,rfl,b⟩ q u;apply ai;simp [d];refine aD (s _ _ ?_);simp [b,Bf]
theorem acm(g:Tg)(l:List Int)(b:l.length≤9223372036854775807):bW tab 32 [.c (.f (sl g (ints l)))]=Eq (vi (Bf l)):=(aiO g l b).eq
theorem aeh(n lo hi:Int):Kf tab 46 [vi n,vi lo,vi hi] (vb (dj n lo hi)):=by
 refine dO rfl rfl fun H Q b=>?_;apply ai;simp;apply ai;by_cases h:lo≤n
 ·simp [h];refine aD (b _ _ ?_);simp [dj,h]
 ·simp [h];refine aD (b _ _ ?_);simp [dj,h]
@[simp] theorem ako (n lo hi:Int):bW tab 46 [vi n,vi lo,vi hi]=Eq (vb (dj n lo hi)):=(aeh n lo hi).eq
structure aC where
 day:Int
 fr:Int
 to:Int
deriving DecidableEq
def aC.row(x:aC):List FC:=[fi x.day,fi x.fr,fi x.to]
def aG(l:List aC):List (List FC):=l.map aC.row
@[simp] theorem iD (l:List aC):(aG l).length=l.length:=by simp [aG]
theorem bC(l:List aC):bO 3 (aG l):=bO.map fun _=>rfl
theorem cW{l:List aC}{j:Nat}(b:j<l.length):(aG l)[j]?=aa l[j].row:=by simp [aG,b]
def fv(x y:aC):Int:=Bf [gi x.fr y.fr,gi x.day y.day,gi x.to y.to]
theorem zN(x y:aC):Kf tab 29 [.a (x.row.map .f),.a (y.row.map .f)] (vi (fv x y)):=by
 refine dO rfl rfl fun H Q d=>?_;have b:=acm .fs [gi x.fr y.fr,gi x.day y.day,gi x.to y.to] (by simp);simp [ints,sl,Tg.fc]at b;apply ai;simp [aC.row];apply ai;simp [sC,deep,jJ,pk,b];refine aD (d _ _ ?_);simp [fv]
def oW(x y:aC):Bool:=if x.fr=y.fr then(if x.day=y.day then decide (x.to<y.to)else decide (x.day<y.day))else decide (x.fr<y.fr)
theorem wX(x y:aC):bW tab 61 [.a (x.row.map .f),.a (y.row.map .f)]=Eq (vb (oW x y)):=by
 refine Kf.eq (dO rfl rfl fun H Q g=>?_);apply ai;simp [aC.row];apply au;apply ai;simp;by_cases b:x.fr=y.fr
 ·refine aW (by simp [b]) ?_;apply au;apply ai;simp;by_cases d:x.day=y.day
  ·refine aW (by simp [d]) ?_;apply ai;simp;refine aD (g _ _ ?_);simp [oW,b,d]
  ·refine av (by simp [d]) ?_;apply ai;simp;refine aD (g _ _ ?_);simp [oW,b,d]
 ·refine av (by simp [b]) ?_;apply ai;simp;refine aD (g _ _ ?_);simp [oW,b]
def aC.lt(x y:aC):Prop:=x.fr<y.fr∨x.fr=y.fr∧(x.day<y.day∨x.day=y.day∧x.to<y.to)
theorem nu(x y:aC):oW x y=ae↔x.lt y:=by
 unfold oW aC.lt;by_cases b:x.fr=y.fr
 ·by_cases d:x.day=y.day
  ·simp [b,d]
  ·simp [b,d]
 ·simp [b]
theorem kQ(x y:aC):fv x y<0↔x.lt y:=by
 unfold fv aC.lt;simp only [Bf,gi]
 repeat' split
 all_goals omega
theorem aC.lt_trans{x y z:aC}(h:x.lt y)(b:y.lt z):x.lt z:=by unfold aC.lt at *;omega
theorem aC.UB{x y:aC}(h:¬ x.lt y)(d:x≠y):y.lt x:=by
 obtain⟨a,b,c⟩:=x;obtain⟨a',g,j⟩:=y;unfold aC.lt at *;simp only [ne_eq,aC.mk.injEq]at d;simp only at h ⊢;omega
theorem aC.aeF{x:aC}:¬ x.lt x:=by unfold aC.lt;omega
theorem Jh(g:Tg)(l:List aC)(x:aC)(hl:l.length≤10)(hs:l.Pairwise aC.lt):∃ g' K,K.length≤l.length+1∧(K.Pairwise aC.lt∧∀ y,y ∈ K↔y=x∨y ∈ l)∧bW tab 23 [.c (.f (sl g (aG l))),.a (x.row.map .f)]=Eq (.c (.f (sl g' (aG K)))):=by
 obtain⟨r,⟨g',K,c_,hS,rfl⟩,h⟩:∃ r,(∃ g' K,K.length≤l.length+1∧(K.Pairwise aC.lt∧∀ y,y ∈ K↔y=x∨y ∈ l)∧r=.c (.f (sl g' (aG K))))∧bW tab 23 [.c (.f (sl g (aG l))),.a (x.row.map .f)] r:=by
  refine eQ rfl rfl fun Q hQ=>?_;apply ai;simp [aC.row];apply ai;simp;apply ai;simp;apply au;apply ai;simp;have W:∀(H:an) (v:V) (o:List aC) (y:aC),o.length≤30→LB ae H 3 v .es (aG o)→∃ v' H',bF (H++[.box [.f (fi y.day),.f (fi y.fr),.f (fi y.to)] 0]) 3 24 v (.c (.sl H.length 0 1 1 0 3))=aa (v',H')∧LB ae H' 3 v' .es (aG (o++[y]))∧(∀(b:Nat) cs fl,H[b]?=aa (.box cs fl)→H'[b]?=aa (.box cs fl)):=by
   intro H v o y Y A;obtain⟨v',H',X,U,-,e4⟩:=LB.app (H:=H++[.box [.f (fi y.day),.f (fi y.fr),.f (fi y.to)] 0]) (row:=y.row) (bytes:=24) (y:=.c (.sl H.length 0 1 1 0 3)) (A.push _) (bC _) rfl (by decide)
    (nb (fl:=0) (cs:=y.row.map .f) (by simp [aC.row]) rfl) (zD _) (by simp [cN];omega)
   refine⟨v',H',X,by simpa [aG]using U,fun b cs fl hb=>e4 _ _ _ ?_⟩;rw [AT (aj hb)];exact hb
  refine iG l.length (fun j t H=>t.g 0=.c (.f (sl g (aG l)))∧t.g 3=.c (.ptr 0 0 0)∧H[0]?=aa (.box [.f (fi x.day),.f (fi x.fr),.f (fi x.to)] 0)∧∃ d o,t.g 6=vb d∧LB ae H 3 (t.g 5) .es (aG o)∧o.length≤j+1∧(d=ag→o=l.take j∧∀ y ∈ o,y.lt x)∧(d=ae→(o++l.drop j).Pairwise aC.lt∧∀ y,y ∈ o↔y=x∨y ∈ l.take j)) (by omega) rfl (by simp)
   ⟨by simp,by simp,by simp,ag,[],by simp,by simpa [aG]using LB.es0,by simp,by simp,by simp⟩ ?_ ?_ ?_
  ·rintro j t H L S ⟨u,E,F,d,o,N,A,Y,hd,q⟩ O hL;simp [O,u];exact hL _ ⟨by simp [u],by simp [E],F,d,o,by simp [N],by simpa using A,Y,hd,q⟩ (by simp [O]) (by simp)
  ·rintro j t H S ⟨u,E,F,d,o,N,A,Y,hd,q⟩ O next
   have s:=fun H:an=>cR (H:=H) (bC l) (cW S);have J:=wX x l[j];simp [aC.row]at s J;refine az ?_;apply au;apply ai;simp [u,E,O,bG,S,s,F];have M:∀(t:T) (H:an) (o:List aC) (d:Bool),t.g 0=.c (.f (sl g (aG l)))→t.g 3=.c (.ptr 0 0 0)→t.g 7=vi j→t.g 6=vb d→H[0]?=aa (.box [.f (fi x.day),.f (fi x.fr),.f (fi x.to)] 0)→LB ae H 3 (t.g 5) .es (aG o) →
     o.length≤j+1→(d=ag→o=l.take j∧(∀ y ∈ o,y.lt x)∧l[j].lt x)→(d=ae→(o++l.drop j).Pairwise aC.lt∧∀ y,y ∈ o↔y=x∨y ∈ l.take j) →
     WP tab 23 ab [.code uO,.inBlock 1,.code (oO 7 13 14),.inLoop (rF 0 7 12 13 14 [⟨D 9,.cV (R 7),ab⟩,⟨D 10,.cV (R 0),ab⟩,⟨D 11,.len (R 10),ab⟩,⟨D 12,.bin .lss (R 9) (R 11),ab⟩] uN),.inBlock 0,.code uP] ⟨t,[],H⟩ Q:=by
    intro t H o d u E g7 N F A Y hd q;have b_:l.take (j+1)=l.take j++[l[j]]:=by rw [alv,By S];rfl
    have c9:l.drop j=l[j]::l.drop (j+1):=alr S;have e_:(l.take j).length=j:=by simp;omega
    have d_:(o++[l[j]]).length≤j+1+1:=by simp;omega
    obtain⟨v',H',X,U,e4⟩:=W H (t.g 5) o l[j] (by omega) A;refine aq (.inl rfl) ?_;simp [u,g7,bG,S,s,X];refine ax (next _ _ ?_ (by simp [g7]));exact⟨by simp [u],by simp [E],e4 _ _ _ F,d,o++[l[j]],by simp [N],by simpa using U,d_,fun h=>by
     obtain⟨a1,B,a3⟩:=hd h;subst a1;refine⟨b_.symm,fun y m=>?_⟩;rcases alj.1 m with m | m
     ·exact B y m
     ·obtain rfl:=ali.1 m;exact a3,fun h=>by
     obtain⟨a1,B⟩:=q h;rw [c9]at a1;refine⟨by simpa using a1,fun y=>?_⟩;rw [b_,alj,alj,B,or_assoc]⟩
   cases hc:(l[j].day == x.day&&(l[j].fr == x.fr&&l[j].to == x.to))
   ·refine aW (by simp) ?_;apply au;apply ai;simp [N];cases d
    ·simp [E,F,u,O,bG,S,s,J];cases a8:oW x l[j]
     ·refine aW (by simp) ?_;exact M _ _ o ag (by simp [u]) (by simp [E]) (by simp [O]) (by simp [N]) F (by simpa using A) (by omega) (fun _=>by
       obtain⟨a1,B⟩:=hd rfl;refine⟨a1,B,aC.UB (x:=x) ?_ ?_⟩
       ·rw [←nu,a8];simp
       ·rintro rfl;simp at hc) (by simp)
     ·refine av (by simp) ?_;obtain⟨v',H',X,U,e4⟩:=W H (t.g 5) o x (by omega) A;obtain⟨a1,B⟩:=hd rfl;have a7:=(nu _ _).1 a8;have f7:o.length≤j:=by rw [a1];simp;omega
      apply ai;simp [E,F,X];refine aq (.inl rfl) ?_;simp;refine M _ _ (o++[x]) ae (by simp [u]) (by simp [E]) (by simp [O]) (by simp) (e4 _ _ _ F) (by simpa using U) (by simp;omega) (by simp) fun _=>⟨?_,fun y=>?_⟩
      ·have a_:(l.take j++l.drop j).Pairwise aC.lt:=by rw [List.take_append_drop];exact hs
       rw [al7]at a_;obtain⟨b1,b2,b3⟩:=a_;rw [alR,al7,a1];refine⟨b1,?_,?_⟩
       ·rw [List.singleton_append,amV];refine⟨fun y m=>?_,b2⟩;rw [alr S]at m b2;rcases alT.1 m with rfl | m
        ·exact a7
        ·exact aC.lt_trans a7 ((amV.1 b2).1 y m)
       ·intro y m z Z;rcases alj.1 Z with Z | Z
        ·obtain rfl:=ali.1 Z;exact B y (a1▸m)
        ·exact b3 y m z Z
      ·rw [alj,a1,ali,or_comm]
    ·simp;refine aW (by simp) ?_;exact M _ _ o ae (by simp [u]) (by simp [E]) (by simp [O]) (by simp [N]) F (by simpa using A) Y (by simp) fun _=>q rfl
   ·refine av (by simp) ?_;apply ai;simp [u];refine aD (hQ _ _ _ ⟨g,l,by omega,⟨hs,fun y=>⟨.inr,?_⟩⟩,rfl⟩ ?_)
    ·rintro(rfl | m)
     ·have:y=l[j]:=by
       obtain⟨a,b,c⟩:=y;simp only [If,beq_iff_eq]at hc;cases d9:l[j]with
       | mk a' b' c'=>
        rw [d9]at hc;simp at hc;obtain⟨rfl,rfl,rfl⟩:=hc;rfl
      rw [this];exact IT S
     ·exact m
    simp
  ·rintro t H ⟨u,E,F,d,o,N,A,Y,hd,q⟩ O;apply au;apply ai;simp [N];cases d
   ·refine av (by simp) ?_;obtain⟨v',H',X,U,e4⟩:=W H (t.g 5) o x (by omega) A;refine aq (.inl rfl) ?_;simp [E,F,X];apply ai;simp;obtain⟨cv,I,_⟩:=U.len;have:=U.fzV (bC _);obtain⟨a1,B⟩:=hd rfl;rw [als]at a1;subst a1;refine aD (hQ _ _ _ ⟨.es,o++[x],by simp,⟨?_,fun y=>by rw [alj,ali,or_comm]⟩,rfl⟩ ?_)
    ·rw [al7];exact⟨hs,alY _ _,fun y m z Z=>by obtain rfl:=ali.1 Z;exact B y m⟩
    rw [I]at this;simp [I];simpa using this
   ·refine aW (by simp) ?_;apply ai;simp;obtain⟨cv,I,_⟩:=A.len;have:=A.fzV (bC _);obtain⟨a1,B⟩:=q rfl;rw [als]at B;rw [am8,List.append_nil]at a1;refine aD (hQ _ _ _ ⟨.es,o,Y,⟨a1,B⟩,rfl⟩ ?_);rw [I]at this;simp [I];simpa using this
 exact⟨g',K,c_,hS,bW.eq h⟩
def aC.le(x y:aC):Prop:=¬ y.lt x
@[simp] theorem aC.aj1 (x:aC):x.row.length=3:=rfl
theorem rH{b:Type}(A:List b)(x y:b)(B:List b):(A++x::B).set A.length y=A++y::B:=by simp
theorem wT(l:List aC)(j:Nat)(x:aC):(aG l).set j x.row=aG (l.set j x):=by simp [aG,List.map_set]
theorem oP{l:List aC}{j:Nat}{x:aC}(h:l[j]?=aa x):(aG l)[j]?=aa x.row:=by simp [aG,h]
theorem aaK:((List.range 257).all fun n=>match (CF tab 60 60 (.fn 64) [.c (.f (.int .u64 n))] [])with | some (.c (.f (.int .i64 (.ofNat k))),_)=>Nat.ble k 62&&(Nat.beq n 0||Nat.ble (2 ^ k) (2*n)) | _=>ag)=ae:=by kernel_rfl
theorem Cr:Tp tab bA 256:=fun n h=>by
 have j:=aaK;rw [alx]at j;have b:=j n (by simp;omega);split at b
 ·rename_i k H' e;rw [If,Bool.or_eq_true]at b;refine⟨k,(zY (m:=60) (d:=60) (by rw [e];rfl)).eq,Nat.le_of_ble_eq_true b.1,fun l=>?_⟩;rcases b.2 with g | g
  ·have:=Nat.eq_of_beq_eq_true g;omega
  ·exact Nat.le_of_ble_eq_true g
 ·cases b
theorem JY:adE tab bA 3:=⟨Tz,Ty,adR,ad0,adP,adQ,adZ,
 adX,adY,adW,adS,adT,adV,adU,ad1⟩
def sD:List FC→aC
 | [.int _ a,.int _ b,.int _ c]=>⟨a,b,c⟩| _=>⟨0,0,0⟩
def qc(r:List FC):Prop:=r=(sD r).row
theorem AW(x:aC):qc x.row:=rfl
def UX(r s:List FC):Int:=fv (sD r) (sD s)
theorem T2:tO qc UX where
 yN:=fun _ _ h b=>by
  unfold UX at h b;rw [kQ]at h b;unfold aC.lt at h b;omega
 trans:=fun _ _ _ h b=>by
  unfold UX at *;rw [kQ]at *;unfold aC.lt at *;omega
theorem Z1{F:Nat}(b:∀ x y:aC,Kf tab F [.a (x.row.map .f),.a (y.row.map .f)] (vi (fv x y))):Cv tab (.c (.f (.fn F []))) qc UX:=by
 intro x y d g H;obtain⟨J,h⟩:=b (sD x) (sD y) H;rw [←show x=(sD x).row from d,←show y=(sD y).row from g]at h;exact⟨F,_,J,by simp [bX],h⟩
theorem I2{rows:List (List FC)}(h:∀ r ∈ rows,qc r):aG (rows.map sD)=rows:=by
 unfold aG;rw [List.map_map]
 conv=>rhs;rw [←List.map_id rows]
 exact amG fun r b=>(h r b).symm
theorem wS(l:List aC):(aG l).map sD=l:=by
 unfold aG;rw [List.map_map]
 conv=>rhs;rw [←List.map_id l]
 exact amG fun r _=>rfl
theorem abX{H:an}{b m F:Nat}{l:List aC}(M:∀ x y:aC,Kf tab F [.a (x.row.map .f),.a (y.row.map .f)] (vi (fv x y)))(U:l.length≤256)(B:RB H b 3 m (aG l)) :
  ∃ r H',Ev tab (.fn 28) [.c (.sl b 0 l.length 0 m 3),.c (.f (.fn F []))] H r H' ∧
   (r=.t []∧Fm b H H'∧∃ d:List aC,RB H' b 3 m (aG d)∧d.Perm l∧d.Pairwise aC.le):=by
 have A:∀ r ∈ aG l,qc r:=fun r u=>by
  obtain⟨x,-,rfl⟩:=alz.1 u;exact AW x
 obtain⟨k,I,-,-⟩:=Cr l.length (by omega);have K:(aG l).length=l.length:=iD l;obtain⟨r,H',g,rfl,f,d,r',z,O⟩:=U_ (n:=l.length) JY (Z1 M) T2 (by omega) (fun L S=>Cr L (by omega)) _ 0 l.length H (aG l) k rfl (by omega) (alh _) K B (bC l) A (fun k h=>absurd h (by omega));have q:∀ r ∈ d,qc r:=fun r u=>A r (z.1.mem_iff.1 u);have g:=g.eq;have v:IntKind.wrap .u64 (l.length:Int)=l.length:=by rw [tL];omega
 refine cH rfl rfl fun Q N=>?_;apply ai;simp [B.len];refine aq (.inl rfl) ?_;simp at I g;simp [v,I,g];refine cU (N _ _ (.t []) rfl rfl ⟨rfl,f,d.map sD,?_,?_,?_⟩)
 ·rw [I2 q];exact r'
 ·have:=z.1.map sD;rwa [wS]at this
 ·rw [alO];intro i j hi E s;simp only [alm]at hi E;have J:d.length=l.length:=by rw [z.len,K]
  have:=O i j d[i] d[j] (by omega) s (by omega) (By hi) (By E);rw [amK,amK];unfold UX at this;rw [kQ]at this;exact this
theorem VB{H:an}{F:Nat}:∃ r H',Ev tab (.fn 28) [.c (.f .aA),.c (.f (.fn F []))] H r H'∧(r=.t []∧H'=H):=by
 obtain⟨k,d,-,-⟩:=Cr 0 (by omega);have b:=(CB (σ:=bA) (sz:=3) Tz Ty (H:=H) (v:=.c (.f .aA)) (cv:=.c (.f (.fn F []))) (lim:=k)).eq;refine cH rfl rfl fun Q g=>?_;apply ai;simp [bh];refine aq (.inl rfl) ?_;have j:IntKind.wrap .u64 0=0:=rfl;simp at d b;simp [j,d,b];exact cU (g _ _ _ rfl rfl ⟨rfl,rfl⟩)
theorem Uv{x y:aC}(h:x.le y)(b:x≠y):x.lt y:=aC.UB h (Ne.symm b)
def eqB(x y:aC):Bool:=x.day == y.day&&(x.fr == y.fr&&x.to == y.to)
theorem ry{x y:aC}:eqB x y=ae↔x=y:=by
 obtain⟨a,b,c⟩:=x;obtain⟨a',d,g⟩:=y;simp [eqB]
theorem Cq{l:List aC}(g:l.Pairwise aC.le){i j:Nat}(b:i<j)(d:j<l.length):(l[i]'(by omega)).le l[j]:=alO.1 g i j (by omega) d b
theorem AA{H:an}{b A:Nat}{l:List aC}(hl:l.length≤1000000)(hs:l.Pairwise aC.le)(F:RB H b 3 A (aG l)) :
  ∃ r H',Ev tab (.fn 30) [.c (.sl b 0 l.length 0 A 3)] H r H' ∧
   (∃ l' R:List aC,r=.c (.sl b 0 l'.length 0 A 3)∧Fm b H H'∧RB H' b 3 A (aG (l'++R))∧l'.length≤l.length∧l'.Pairwise aC.lt∧∀ x,x ∈ l'↔x ∈ l):=by
 refine cH rfl rfl fun Q hQ=>?_;apply ai;simp;apply au;apply ai;simp [F.len];by_cases h2:l.length<2
 ·refine av (by simp;omega) ?_;apply ai;simp;refine aD (hQ _ _ _ rfl (dz (by simp)) ⟨l,[],rfl,Fm.refl _,by simpa using F,alh _,?_,fun _=>Iff.rfl⟩)
  match l,h2 with
  | [],_=>exact List.Pairwise.nil| [x],_=>exact alY _ _| x::y::r,h=>simp at h;omega
 refine aF (by simp;omega) (aP ?_);apply au;apply ai;simp;refine az ?_;refine bJ (fun n s=>∃(k:Nat) (t:T),s=⟨t,[],H⟩∧n=l.length-k∧1≤k∧k≤l.length∧t.g 0=.c (.sl b 0 l.length 0 A 3)∧t.g 3=vi k∧(l.take k).Pairwise aC.lt) (l.length-1)
  ⟨1,_,rfl,rfl,by omega,by omega,by simp,by simp,?_⟩ ?_
 ·cases l with
  | nil=>simp| cons x r=>simp
 rintro n s ⟨k,t,rfl,rfl,i6,i7,B,E,hp⟩ ih;apply au;apply ai;simp [B,E,F.len];by_cases u:k<l.length
 case neg=>
  refine aF (by simp [u]) ?_;refine bg (k':=[.code mY]) rfl ?_;apply ai;simp [B];refine aD (hQ _ _ _ rfl (dz (by simp)) ⟨l,[],rfl,Fm.refl _,by simpa using F,alh _,?_,fun _=>Iff.rfl⟩);rwa [alw (by omega)]at hp
 refine av (by simp [u]) (aP ?_);obtain⟨m,rfl⟩:∃ m,k=m+1:=⟨k-1,by omega⟩
 have ix:∀ {H:an} {rows:List (List FC)} (F:RB H b 3 A rows) (o n i:Nat) (hi:i<n),bB H 3 ab (.c (.sl b o n 0 A 3)) (vi i)=aa (.c (.ptr b (o+i*3) A)):=by
  intro H rows F o n i hi;have:=F.idx (n:=n) (c:=0) (k:=.i64) (o:=o) (i:=(i:Int)) (by omega) (by omega);rwa [alG]at this
 have i1:=ix F 0 l.length (m+1) u;have i0:=ix F 0 l.length m (by omega);have l1:=F.ldr (bC _) (cW (l:=l) (j:=m+1) u);have l0:=F.ldr (bC _) (cW (l:=l) (j:=m) (by omega));rw [al8]at i1 i0;have c1:((m+1:Nat):Int)-1=m:=by omega
 rw [show((m+1:Nat):Int)=(m:Int)+1 by omega]at i1;have c_:l.take (m+1+1)=l.take (m+1)++[l[m+1]]:=by rw [alv,By u];rfl
 apply au;refine az ?_;apply ai;simp [B,E,i1,i0,l1,l0,-ay,aO (n:=(m:Int)),aC.row];cases hc:(l[m+1].day == l[m].day&&(l[m+1].fr == l[m].fr&&l[m+1].to == l[m].to))
 ·
  refine aF (by simp) (aP (ax ?_));refine aq (.inl rfl) ?_;simp [E,aO (n:=(m:Int)+1+1)];refine ih (l.length-(m+2)) _ (by omega) ⟨m+2,_,rfl,rfl,by omega,by omega,by simp [B],by simp;omega,?_⟩;show(l.take (m+1+1)).Pairwise aC.lt;have N:l[m]≠l[m+1]:=fun e=>by
   have:eqB l[m+1] l[m]=ae:=ry.2 e.symm;rw [eqB,hc]at this;cases this
  rw [c_,al7];refine⟨hp,alY _ _,fun y hy z hz=>?_⟩;obtain rfl:=ali.1 hz;obtain⟨i,hi,rfl⟩:=aly hy;have i4:i<m+1:=by simp at hi;omega
  rw [List.getElem_take];by_cases e:i=m
  ·subst e;exact Uv (Cq hs (by omega) u) N
  ·exact aC.lt_trans (y:=l[m]) (by
    have h1:=alO.1 hp i m (by simp;omega) (by simp;omega) (by omega);simpa using h1) (Uv (Cq hs (by omega) u) N)
 ·
  have f7:l[m+1]=l[m]:=ry.1 hc;have c2:((m+1:Nat):Int)=(m:Int)+1:=by omega
  have O:=F.lT (k:=m+1) u;rw [c2]at O;refine av (by simp) ?_;apply ai;simp [B,E,O];apply au;apply ai;simp;refine az ?_;refine bJ (fun n s=>∃(i:Nat) (t:T) (I:an) (P R:List aC),s=⟨t,[],I⟩∧n=l.length-(m+2+i)∧m+2+i≤l.length∧t.g 0=.c (.sl b 0 l.length 0 A 3)∧t.g 3=vi P.length∧t.g 4=.c (.sl b ((m+1)*3) (l.length-(m+1)) 0 A 3)∧t.g 5=vi ((i:Int)+1) ∧
   Fm b H I∧RB I b 3 A (aG (P++R))∧(P++R).length=l.length∧1≤P.length∧P.length≤m+1+i∧(∀ q,m+1+i≤q→(P++R)[q]?=l[q]?)∧P.Pairwise aC.lt∧∀ x,x ∈ P↔x ∈ l.take (m+2+i)) (l.length-(m+2))
   ⟨0,_,H,l.take (m+1),l.drop (m+1),rfl,rfl,by omega,by simp [B],by simp [E];omega,by simp,by simp,Fm.refl _,by simpa using F,by simp,by simp;omega,by simp;omega,by simp,hp,fun x=>?_⟩ ?_
  ·show x ∈ l.take (m+1)↔x ∈ l.take (m+1+1);rw [c_,alj,ali];refine⟨.inl,fun h=>h.elim id fun e=>?_⟩;rw [e,f7];exact al3.2 ⟨m,by omega,rfl⟩
  rintro n s ⟨i,t,I,P,R,rfl,rfl,hi,B,E,U,W,J,d,v,X,d9,hq,L,g⟩ i3;have Y:=d.len (o:=(m+1)*3) (l:=l.length-(m+1)) (c:=0);apply au;apply ai;simp [U,W,Y];by_cases K:m+2+i<l.length
  case neg=>
   have a_:m+2+i=l.length:=by omega
   refine aF (by simp;omega) ?_;refine bg (k':=[.code pU,.inBlock 1,.code pV,.inLoop pT,.inBlock 0,.code mY]) rfl ?_;have a8:P.length<l.length:=by omega
   obtain⟨H3,e_,a7,f8⟩:=d.clr (bC _) (zs:=[fi 0,fi 0,fi 0]) (by simpa using v) a8 rfl;have O:=d.lT a8;apply ai;simp [B,E,O,e_];have h_:=a7.Ab (n:=l.length) (k:=P.length) (by omega) (by omega);apply ai;simp [B,E,h_];have e3:(aG (P++R)).take P.length++List.replicate (l.length-P.length) [fi 0,fi 0,fi 0]=aG (P++List.replicate (l.length-P.length) ⟨0,0,0⟩):=by
    simp [aG,aC.row]
   rw [e3]at a7;refine aD (hQ _ _ _ rfl (dz (by simp)) ⟨P,_,rfl,J.trans f8,a7,by omega,L,fun x=>?_⟩);rw [g,a_,als]
  have ha:(P++R)[m+2+i]?=aa l[m+2+i]:=by rw [hq _ (by omega),By K]
  have d_:(P++R)[m+1+i]?=aa (l[m+1+i]'(by omega)):=by rw [hq _ (by omega),By]
  have j1:=ix d ((m+1)*3) (l.length-(m+1)) (i+1) (by omega);have j0:=ix d ((m+1)*3) (l.length-(m+1)) i (by omega);rw [show(m+1)*3+(i+1)*3=(m+2+i)*3 by omega,show((i+1:Nat):Int)=(i:Int)+1 by omega]at j1;rw [show(m+1)*3+i*3=(m+1+i)*3 by omega]at j0;have d1:=d.ldr (bC _) (oP ha);have d0:=d.ldr (bC _) (oP d_);refine av (by simp;omega) (aP ?_);apply au;refine az ?_;apply ai;simp [U,W,j1,j0,d1,d0,-ay,aO (n:=(i:Int)),aC.row];have S:l.take (m+2+(i+1))=l.take (m+2+i)++[l[m+2+i]]:=by
   rw [show m+2+(i+1)=m+2+i+1 by omega,alv,By K];rfl
  have next:∀(t:T) (I:an) (P R:List aC),t.g 0=.c (.sl b 0 l.length 0 A 3)→t.g 3=vi P.length→t.g 4=.c (.sl b ((m+1)*3) (l.length-(m+1)) 0 A 3)→t.g 5=vi ((i:Int)+1) →
    Fm b H I→RB I b 3 A (aG (P++R))→(P++R).length=l.length→1≤P.length→P.length≤m+2+i→(∀ q,m+2+i≤q→(P++R)[q]?=l[q]?)→P.Pairwise aC.lt→(∀ x,x ∈ P↔x ∈ l.take (m+2+(i+1))) →
    WP tab 30 ab [.inBlock 3,.code uS,.inLoop uR,.inBlock 2,.code pU,.inBlock 1,.code pV,.inLoop pT,.inBlock 0,.code mY] ⟨t,[],I⟩ Q:=by
   intro t I P R B E U W J d v X d9 hq L g;refine ax (aq (.inl rfl) ?_);simp [W,aO (n:=(i:Int)+1+1)];exact i3 (l.length-(m+2+(i+1))) _ (by omega) ⟨i+1,_,I,P,R,rfl,rfl,by omega,by simp [B],by simp [E],by simp [U],by simp,J,d,v,X,by omega,fun q h=>hq q (by omega),L,g⟩
  have f_:(l[m+1+i]'(by omega)).le l[m+2+i]:=Cq hs (by omega) K;cases M:(l[m+2+i].day == l[m+1+i].day&&(l[m+2+i].fr == l[m+1+i].fr&&l[m+2+i].to == l[m+1+i].to))
  ·have N:l[m+1+i]≠l[m+2+i]:=fun e=>by
    have:eqB l[m+2+i] l[m+1+i]=ae:=ry.2 e.symm;rw [eqB,M]at this;cases this
   have c9:=Uv f_ N;have kx:=ix d 0 l.length P.length (by omega);rw [al8]at kx;obtain⟨H3,s3,r3,f3,-⟩:=d.str (bC _) (j:=P.length) (by rw [iD,v];omega) (row:=(l[m+2+i]).row) rfl;rw [wT]at r3;obtain⟨x0,R',rfl⟩:∃ x0 R',R=x0::R':=by
    cases R with
    | nil=>simp at v;omega| cons x0 R'=>exact⟨_,_,rfl⟩
   rw [rH]at r3;have Z:¬l[m+2+i].day=l[m+1+i].day∨¬l[m+2+i].fr=l[m+1+i].fr∨¬l[m+2+i].to=l[m+1+i].to:=by
    simp at M;omega
   refine av (by simpa using Z) ?_;apply ai;simp only [aC.row,alk,List.map_nil]at s3;simp [B,E,U,W,j1,d1,kx,s3,-ay,-bw,aC.row];refine aq (.inl rfl) ?_;simp [E,aO (n:=(P.length:Int)+1)];have e5:P++l[m+2+i]::R'=(P++[l[m+2+i]])++R':=by simp
   rw [e5]at r3;refine next _ H3 (P++[l[m+2+i]]) R' (by simp [B]) (by simp) (by simp [U]) (by simp [W]) (J.trans f3) r3 (by simpa using v) (by simp) (by simp;omega) (fun q h=>?_) ?_ fun x=>?_
   ·rw [←e5,←rH P x0,sh (by omega)];exact hq q (by omega)
   ·rw [al7];refine⟨L,alY _ _,fun y hy z hz=>?_⟩;obtain rfl:=ali.1 hz;obtain⟨q,g_,rfl⟩:=aly ((g y).1 hy);have i8:q<m+2+i:=by simp at g_;omega
    rw [List.getElem_take];by_cases e:q=m+1+i
    ·subst e;exact c9
    ·have h1:=Cq hs (i:=q) (j:=m+1+i) (by omega) (by omega);unfold aC.le aC.lt at *;omega
   ·rw [S,alj,alj,g]
  ·have b_:l[m+2+i]=l[m+1+i]:=ry.1 M;have Z:l[m+2+i].day=l[m+1+i].day∧l[m+2+i].fr=l[m+1+i].fr∧l[m+2+i].to=l[m+1+i].to:=by simpa using M
   refine aF (by simpa using Z) (aP ?_);refine next _ I P R (by simp [B]) (by simp [E]) (by simp [U]) (by simp [W]) J d v X (by omega) (fun q h=>hq q (by omega)) L fun x=>?_
   rw [S,alj,ali,g];refine⟨.inl,fun h=>h.elim id fun e=>?_⟩;rw [e,b_];exact al3.2 ⟨m+1+i,by omega,rfl⟩
abbrev u64(n:Int):V:=.c (.f (.int .u64 n))
theorem iP{n:Int}(b:0≤n)(d:n≤18446744073709551615):IntKind.wrap .u64 n=n:=by
 simp only [IntKind.wrap,IntKind.bits,IntKind.signed];simp;omega
theorem VK{a b:Int}(h:0≤a)(d:0<b):bP .rem (u64 a) (u64 b)=aa (u64 (a % b)):=by
 rw [gV (by omega),amE h]
theorem ajm{a b:Int}(h:0≤a)(g:0<b)(d:a≤18446744073709551615):bP .quo (u64 a) (u64 b)=aa (u64 (a / b)):=by
 rw [oB (by omega),am0 h,iP (amo h (by omega)) (amv (amz _ h) d)]
theorem pc{a:Int}(b:0≤a)(g:a≤9223372036854775807):bW tab 158 [vi a]=Eq (u64 a):=bW.eq (by
 refine cd rfl rfl fun Q d=>?_;apply ai;simp;refine au (ai ?_);simp;refine aF (by simp;omega) (aP ?_);apply ai;simp [iP (n:=a) b (by omega)];refine aD (d _ _ ?_);simp)
theorem Uk{x y:Nat}(h:0<y):amT y (x % y)=amT x y:=by rw [Nat.gcd_comm x y,Nat.gcd_rec y x,Nat.gcd_comm]
theorem wL{a b:Nat}(z:(a:Int)≤4611686018427387904)(A:(b:Int)≤4611686018427387904):bW tab 122 [vi a,vi b]=Eq (vi (amT a b:Nat)):=bW.eq (by
 have H:=pc (a:=a) (by omega) (by omega);have I:=pc (a:=b) (by omega) (by omega);refine cd rfl rfl fun Q B=>?_;apply ai;simp;apply ai;simp [H,I];refine au (az ?_);refine bJ (fun m s=>∃(x y:Nat) (t:T),s=⟨t,[],[]⟩∧m=y∧(x:Int)≤4611686018427387904∧(y:Int)≤4611686018427387904∧t.g 5=u64 x∧t.g 6=u64 y∧amT x y=amT a b) b ⟨a,b,_,rfl,rfl,z,A,by simp,by simp,rfl⟩ ?_;rintro m s ⟨x,y,t,rfl,rfl,J,K,d,l,u⟩ F;refine au (ai ?_);simp [l];by_cases q:m=0
 ·subst q;refine aF (by simp) (bg rfl ?_);have j:x=amT a b:=by rw [←u];simp
  have E:¬ ((9223372036854775807:Int)<x):=by omega
  refine au (ai ?_);simp [d,E];refine aW (by simp) ?_;apply ai;simp [d,aO (n:=(x:Int))];refine aD (B _ _ ?_);simp [j]
 ·have v:=VK (a:=x) (b:=m) (by omega) (by omega);rw [show(x:Int) % (m:Int)=((x % m:Nat):Int) from(Int.natCast_emod x m).symm]at v;have g:x % m<m:=Nat.mod_lt _ (by omega);refine av (by simp [q]) (aP ?_);refine az (aq (.inl rfl) ?_);simp [d,l,v];refine ax (F (x % m) _ g ⟨m,x % m,_,rfl,rfl,by omega,by omega,by simp,by simp,by rw [Uk (by omega)];exact u⟩))
theorem TG{x:Int}(g:0≤x)(j:x≤4294967295):bP .and (u64 x) (u64 4294967295)=aa (u64 x):=by
 obtain⟨n,rfl⟩:∃ n:Nat,x=n:=⟨x.toNat,by omega⟩
 have e:(BitVec.ofInt 64 (n:Int) &&& BitVec.ofInt 64 4294967295).toNat=n:=by
  rw [BitVec.toNat_and];have b:(BitVec.ofInt 64 (n:Int)).toNat=n:=by simp [BitVec.toNat_ofInt];omega
  have d:(BitVec.ofInt 64 4294967295).toNat=2 ^ 32-1:=by decide
  rw [b,d,Nat.and_two_pow_sub_one_eq_mod,Nat.mod_eq_of_lt (by omega)]
 have key:IntKind.wrap .u64 ((BitVec.ofInt 64 (n:Int) &&& BitVec.ofInt 64 4294967295).toNat:Int)=n:=by rw [e];exact iP (by omega) (by omega)
 exact congrArg (fun k:Int=>aa (u64 k)) key
theorem CX{x:Int}(_:0≤x):bP .shr (u64 x) (u64 32)=aa (u64 (x / 4294967296)):=by
 simp only [bP];rw [aS (by decide),show min (Int.toNat 32) IntKind.u64.bits=32 from rfl,Int.fdiv_eq_ediv_of_nonneg _ (by decide)];rfl
theorem sZ{x y:Int}(q:0≤x)(K:x≤2147483648)(g:0≤y)(L:y≤2147483648):bW tab 206 [u64 x,u64 y]=Eq (.t [u64 0,u64 (x*y)]):=bW.eq (by
 have d:0≤x*y:=amp q g;have F:x*y≤2147483648*2147483648:=amB K L g (by decide);have j:x*y / 4294967296≤4294967295:=by omega
 have b:0≤x*y / 4294967296:=by omega
 have a1:=TG q (show x≤4294967295 by omega);have A:=TG g (show y≤4294967295 by omega);have s:=CX q;have u:=CX g;have I:x / 4294967296=0:=by omega
 have J:y / 4294967296=0:=by omega
 rw [I]at s;rw [J]at u;have H:=CX d;have B:=TG b j;have l:=CX b;have sz:x*y / 4294967296 / 4294967296=0:=by omega
 rw [sz]at l;have v:IntKind.wrap .u64 (x*y)=x*y:=iP d (by omega);have z:IntKind.wrap .u64 (x*y / 4294967296)=x*y / 4294967296:=iP b (by omega);have m:IntKind.wrap .u64 0=0:=by decide
 refine cd rfl rfl fun Q E=>?_;apply ai;simp;apply ai;simp [a1];apply ai;simp [s];apply ai;simp [A];apply ai;simp [u];apply ai;simp [v];apply ai;simp [H,m,z];apply ai;simp [B];apply ai;simp [l];apply ai;simp [m,z];apply ai;simp [m,l];apply ai;simp [v];refine aD (E _ _ ?_);simp)
theorem T'{x n:Int}(j:0≤x)(u:x≤9223372036854775807)(g:0<n)(s:n≤9223372036854775807):bW tab 208 [u64 0,u64 x,u64 n]=Eq (.t [u64 (x / n),u64 (x % n)]):=bW.eq (by
 have b:¬ (n=0):=by omega
 have d:¬ (n≤0):=by omega
 have l:=ajm j g (by omega);have m:=VK j g;refine cd rfl rfl fun Q q=>?_;apply ai;simp;refine au (ai ?_);simp;refine aW (by simp [b]) ?_;refine au (ai ?_);simp;refine aW (by simp [d]) ?_;refine au (ai ?_);simp;refine av (by simp) ?_;apply ai;simp [l,m];refine aD (q _ _ ?_);simp)
theorem tn(x y:aC):bW tab 29 [.a (x.row.map .f),.a (y.row.map .f)]=Eq (vi (fv x y)):=(zN x y).eq
theorem A'(g:Tg)(l:List cE)(b:l.length≤9223372036854775807)(h:∀ t ∈ l,t.Sm):bW tab 50 [.a [.f (sl g (aB l))]]=Eq (vb (iH l)):=(sV g l b h).eq
structure cm where
 mg:Tg
 ts:List cE
 min:Int
def cm.row(c:cm):List FC:=[sl c.mg (aB c.ts),fi c.min]
def aR(l:List cm):List (List FC):=l.map cm.row
@[simp] theorem VS (l:List cm):(aR l).length=l.length:=by simp [aR]
theorem dC(l:List cm):bO 2 (aR l):=bO.map fun _=>rfl
theorem fD{l:List cm}{j:Nat}(b:j<l.length):(aR l)[j]?=aa l[j].row:=by simp [aR,b]
structure aV where
 cg:Tg
 cs:List cm
 len:Int
 xg:Tg
 xs:List aC
def aV.row(s:aV):List FC:=[sl s.cg (aR s.cs),fi s.len,sl s.xg (aG s.xs)]
def aV.Sm(s:aV):Prop:=s.cs.length≤9223372036854775807∧s.xs.length≤9223372036854775807∧∀ c ∈ s.cs,c.ts.length≤9223372036854775807∧∀ t ∈ c.ts,t.Sm
def dL:Option Int→List cm→Bool
 | _,[]=>ae| prev,c::r=>iH c.ts&&dj c.min (-4320) 4320&&(prev.all fun m=>decide (m<c.min))&&dL (aa c.min) r
def mD(x:aC):Bool:=dj x.day 0 1099511627776&&dj x.fr (-2251799813685248) 1583296743997439&&dj x.to (x.fr+1) (x.fr+10080)
def gn:Option aC→List aC→Bool
 | _,[]=>ae| prev,x::r=>mD x&&(prev.all fun m=>decide (fv m x<0))&&gn (aa x) r
def gC(s:aV):Bool:=decide ((s.cs.length:Int)≤64)&&dj s.len 1 10080&&decide ((s.xs.length:Int)≤4096)&&dL ab s.cs&&gn ab s.xs
theorem tY{p:Option Int}{l:List cm}{j:Nat}(b:j<l.length):dL p (l.drop j)=(iH l[j].ts&&dj l[j].min (-4320) 4320&&(p.all fun m=>decide (m<l[j].min))&&dL (aa l[j].min) (l.drop (j+1))):=by
 rw [alr b];rfl
theorem zk{p:Option aC}{l:List aC}{j:Nat}(b:j<l.length):gn p (l.drop j)=(mD l[j]&&(p.all fun m=>decide (fv m l[j]<0))&&gn (aa l[j]) (l.drop (j+1))):=by
 rw [alr b];rfl
theorem qC(s:aV)(h:s.Sm):Kf tab 24 [.a (s.row.map .f)] (vb (gC s)):=by
 obtain⟨hc,hx,U⟩:=h;refine dO rfl rfl fun H Q hQ=>?_;have bad:gC s=ag→∀(t:T) (J:an) k,WP tab 24 ab (.code (.region [⟨D 2,.cV (.k (.c (.f (.bool ag)))),ab⟩] [])::.code .ret::k) ⟨t,[],H++J⟩ Q:=by
  intro hf t J k;refine aq (.inl rfl) ?_;simp;refine aD (hQ _ _ ?_);simp [hf]
 apply ai;simp [aV.row];apply au;apply ai;simp;by_cases k1:(64:Int)<s.cs.length
 ·simp [k1];exact av (by simp) (au (bad (by simp [gC,show¬ (s.cs.length:Int)≤64 by omega]) _ _ _))
 simp [k1];cases k2:dj s.len 1 10080
 ·simp;exact av (by simp) (au (bad (by simp [gC,k2]) _ _ _))
 simp;by_cases k3:(4096:Int)<s.xs.length
 ·simp [k3];exact av (by simp) (au (bad (by simp [gC,show¬ (s.xs.length:Int)≤4096 by omega]) _ _ _))
 simp [k3];have hS:gC s=(dL ab s.cs&&gn ab s.xs):=by simp [gC,k2,show(s.cs.length:Int)≤64 by omega,show(s.xs.length:Int)≤4096 by omega]
 rw [hS]at bad;refine aF (by simp) ?_;refine aP ?_;apply au;apply ai;simp;obtain⟨l,v⟩:=aN ([C.f (sl s.cg (aR s.cs)),C.f (fi s.len),C.f (sl s.xg (aG s.xs))]);rw [←v];have a7:l.drop 0=[C.f (sl s.cg (aR s.cs)),C.f (fi s.len),C.f (sl s.xg (aG s.xs))]:=by rw [v];rfl
 have S:l.drop 2=[C.f (sl s.xg (aG s.xs))]:=by rw [v];rfl
 have M:l=C.f (sl s.cg (aR s.cs))::[C.f (fi s.len),C.f (sl s.xg (aG s.xs))]:=v;refine bZ s.cs.length (fun j t H'=>t.g 1=.c (.ptr H.length 0 0)∧t.g 25=.c (.f (sl s.cg (aR s.cs)))∧(∃ J,H'=H++(.box l 0::J)) ∧
  ∃ d,(∀ m,j=m+1→∀ h:m<s.cs.length,d=aa (s.cs[m]'h).min)∧(j=0→d=ab)∧dL ab s.cs=dL d (s.cs.drop j)) hc (by decide) (by decide) (by simp) (by simp)
   ⟨by simp,by simp,⟨[],by simp⟩,ab,by omega,by simp,by simp⟩ ?_ ?_
 ·rintro j t _ F ⟨x,A,⟨J,rfl⟩,d,Y,Z,u⟩ E K next
  rw [tY F]at u;have L:=cR (H:=H++(.box l 0::J)) (dC s.cs) (fD F);have z:=A' s.cs[j].mg s.cs[j].ts (U _ (IT F)).1 (U _ (IT F)).2;refine az ?_;apply ai;simp [E,A,bG,F,L,cm.row];apply ai;simp [z];cases W:iH s.cs[j].ts
  ·simp;exact av (by simp) (au (bad (by simp [u,W]) _ _ _))
  simp;cases O:dj s.cs[j].min (-4320) 4320
  ·simp;exact av (by simp) (au (bad (by simp [u,O]) _ _ _))
  simp;have go:(d.all fun m=>decide (m<s.cs[j].min))=ae→∃ g,(∀ m,j+1=m+1→∀ h:m<s.cs.length,g=aa (s.cs[m]'h).min)∧(j+1=0→g=ab)∧dL ab s.cs=dL g (s.cs.drop (j+1)):=by
   intro hp;rw [W,O,hp,amj,amj,amj]at u;refine⟨aa s.cs[j].min,fun m z h=>?_,by omega,u⟩;have:m=j:=by omega
   subst this;rfl
  cases j with
  | zero=>
   simp;refine aF (by simp) ?_;refine aP (ax (next _ _ ?_ (by simp [E]) (by simp [K])));exact⟨by simp [x],by simp [A],⟨_,rfl⟩,go (by rw [Z rfl];rfl)⟩
  | succ m=>
   have z:m<s.cs.length:=by omega
   have y:=Y m rfl z;have e1:((m+1:Nat):Int)-1=m:=by omega
   have q:=mF (H:=H++(b7.box l 0 ::(J++[b7.box [C.f (sl s.cs[m+1].mg (aB s.cs[m+1].ts)),C.f (fi s.cs[m+1].min)] 0]))) (k:=1) (dC s.cs) (fD z) rfl;rw [M]at q;simp [show 0<m+1 by omega,x,M,aO (n:=(m:Int)),bG,z,q];by_cases X:s.cs[m+1].min≤s.cs[m].min
   ·simp [X];have b:=bad (by simp [u,y,show¬ s.cs[m].min<s.cs[m+1].min by omega]);refine av (by simp) ?_;exact au (b _ _ _)
   ·simp [X];refine aF (by simp) ?_;refine aP (ax (next _ _ ?_ (by simp [E]) (by simp [K])));exact⟨by simp [x],by simp [A],⟨_,by rw [M]⟩,go (by rw [y];simp;omega)⟩
 ·rintro t _ ⟨x,A,⟨J,rfl⟩,d,Y,Z,u⟩ E K;have hC:dL ab s.cs=ae:=by rw [u];simp [dL]
  rw [hC,amj]at bad hS;apply au;apply ai;simp [x,S];refine bZ s.xs.length (fun j t H'=>t.g 1=.c (.ptr H.length 0 0)∧t.g 60=.c (.f (sl s.xg (aG s.xs)))∧(∃ J,H'=H++(.box l 0::J)) ∧
   ∃ d,(∀ m,j=m+1→∀ h:m<s.xs.length,d=aa (s.xs[m]'h))∧(j=0→d=ab)∧gn ab s.xs=gn d (s.xs.drop j)) hx (by decide) (by decide) (by simp) (by simp)
    ⟨by simp [x],by simp,⟨J,by simp⟩,ab,by omega,by simp,by simp⟩ ?_ ?_
  ·rintro j t _ F ⟨x,B,⟨J,rfl⟩,d,Y,Z,u⟩ E K next
   rw [zk F]at u;have L:=cR (H:=H++(.box l 0::J)) (bC s.xs) (cW F);refine az ?_;apply ai;simp [E,B,bG,F,L,aC.row];have N:mD s.xs[j]=ag→∀(t:T) (J:an) k,t.g 7=vb ag→WP tab 24 ab (.code ye::k) ⟨t,[],H++J⟩ Q:=by
    intro hf t J k g7;apply ai;simp [g7];exact av (by simp) (au (bad (by simp [u,hf]) _ _ _))
   have go:mD s.xs[j]=ae→(d.all fun m=>decide (fv m s.xs[j]<0))=ae→∃ g,(∀ m,j+1=m+1→∀ h:m<s.xs.length,g=aa (s.xs[m]'h))∧(j+1=0→g=ab)∧gn ab s.xs=gn g (s.xs.drop (j+1)):=by
    intro hg hp;rw [hg,hp,amj,amj]at u;refine⟨aa s.xs[j],fun m z h=>?_,by omega,u⟩;have:m=j:=by omega
    subst this;rfl
   apply ai;simp;cases W:dj s.xs[j].day 0 1099511627776
   ·simp;exact N (by simp [mD,W]) _ _ _ (by simp)
   simp;cases O:dj s.xs[j].fr (-2251799813685248) 1583296743997439
   ·simp;exact N (by simp [mD,O]) _ _ _ (by simp)
   have w5:=J7 O;simp [aO (n:=s.xs[j].fr+1),aO (n:=s.xs[j].fr+10080)];cases X:dj s.xs[j].to (s.xs[j].fr+1) (s.xs[j].fr+10080)
   ·exact N (by simp [mD,X]) _ _ _ (by simp)
   have hg:mD s.xs[j]=ae:=by simp [mD,W,O,X]
   apply ai;simp;cases j with
   | zero=>
    simp;refine aF (by simp) ?_;refine aP (ax (next _ _ ?_ (by simp [E]) (by simp [K])));exact⟨by simp [x],by simp [B],⟨_,rfl⟩,go hg (by rw [Z rfl];rfl)⟩
   | succ m=>
    have z:m<s.xs.length:=by omega
    have y:=Y m rfl z;have e1:((m+1:Nat):Int)-1=m:=by omega
    have q:=cR (H:=H++(.box l 0 ::(J++[b7.box [C.f (fi s.xs[m+1].day),C.f (fi s.xs[m+1].fr),C.f (fi s.xs[m+1].to)] 0]))) (bC s.xs) (cW z);have I:=tn s.xs[m] s.xs[m+1];simp [aC.row]at I q;simp [show 0<m+1 by omega,x,S,aO (n:=(m:Int)),bG,z,q,I];by_cases k7:0≤fv s.xs[m] s.xs[m+1]
    ·simp [k7];have b:=bad (by simp [u,y,show¬ fv s.xs[m] s.xs[m+1]<0 by omega]);refine av (by simp) ?_;exact au (b _ _ _)
    ·simp [k7];refine aF (by simp) ?_;refine aP (ax (next _ _ ?_ (by simp [E]) (by simp [K])));exact⟨by simp [x],by simp [B],⟨_,rfl⟩,go hg (by rw [y];simp;omega)⟩
  ·rintro t _ ⟨x,B,⟨J,rfl⟩,d,Y,Z,u⟩ E K;have hX:gn ab s.xs=ae:=by rw [u];simp [gn]
   apply ai;simp;refine aD (hQ _ _ ?_);simp [hS,hX]
theorem fy{a b:Int}(h:0≤a)(g:0<b)(d:a≤9223372036854775807):bP .quo (vi a) (vi b)=aa (vi (a / b)):=by
 rw [oB (by omega),am0 h,wrap64 (amv (by omega) (amo h (by omega))) (amv (amz _ h) d)]
theorem eR{a b:Int}(h:0≤a)(d:0<b):bP .rem (vi a) (vi b)=aa (vi (a % b)):=by
 rw [gV (by omega),amE h]
theorem afV{a b:Int}(h:a≤0)(m:0<b)(l:-9223372036854775807≤a):bP .quo (vi a) (vi b)=aa (vi (-((-a) / b))):=by
 have g:(-a) / b≤-a:=amz _ (by omega);have j:0≤(-a) / b:=amo (by omega) (by omega);have d:a.tdiv b = -((-a) / b):=by
  have:a = -(-a):=by omega
  rw [this,Int.neg_tdiv,am0 (by omega)];simp
 rw [oB (by omega),d,aO]
theorem afY{a b:Int}(h:a≤0)(g:0<b):bP .rem (vi a) (vi b)=aa (vi (-((-a) % b))):=by
 have d:a.tmod b = -((-a) % b):=by
  have:a = -(-a):=by omega
  rw [this,Int.neg_tmod,amE (by omega)];simp
 rw [gV (by omega),d]
theorem zn(a b:Int)(B:1≤b)(A:-4611686018427387904≤a)(g:a≤4611686018427387904):bW tab 68 [vi a,vi b]=Eq (.t [vi (a / b),vi 0]):=bW.eq (by
 refine cd rfl rfl fun Q d=>?_;apply ai;simp;apply au;apply ai;simp;refine aF (by simp;omega) (aP ?_);by_cases h:0≤a
 ·apply ai;simp [fy h (show 0<b by omega) (by omega)];apply au;apply ai;have:=al9 a (show b≠0 by omega);simp [eR h (show 0<b by omega)];refine aF (by simp;omega) (aP ?_);apply ai;simp;refine aD (d _ _ ?_);simp
 ·apply ai;simp [afV (show a≤0 by omega) (show 0<b by omega) (by omega)];apply au;apply ai;have e:=al9 (-a) (show b≠0 by omega);have j:=al6 (-a) (show 0<b by omega);have q:0≤(-a) / b:=amo (by omega) (by omega);have m:(-a) / b≤-a:=amz _ (by omega);have l:=Int.mul_ediv_add_emod (-a) b;simp [afY (show a≤0 by omega) (show 0<b by omega)];by_cases s:(-a) % b=0
  ·refine aF (by simp;omega) (aP ?_);apply ai;simp;refine aD (d _ _ ?_);have:a / b = -(-a / b):=by
    refine Int.ediv_eq_of_eq_mul_right (by omega) ?_;rw [anp];omega
   simp [this]
  ·refine av (by simp;omega) ?_;refine aq (.inl rfl) ?_;simp [aO (n:=-(-a / b)-1)];apply ai;simp;refine aD (d _ _ ?_);have:a / b = -(-a / b)-1:=by
    have u:=al9 a (show b≠0 by omega);have v:=al6 a (show 0<b by omega);have x:=Int.mul_ediv_add_emod a b;have y:b*(a / b+(-a) / b+1)=b-a % b-(-a) % b:=by rw [Int.mul_add,Int.mul_add];omega
    have z:a / b+(-a) / b+1=0:=by
     rcases Int.lt_trichotomy (a / b+(-a) / b+1) 0 with h | h | h
     ·have:b*(a / b+(-a) / b+1)≤b*(-1):=alC (by omega) (by omega);omega
     ·exact h
     ·have:b*1≤b*(a / b+(-a) / b+1):=alC (by omega) (by omega);omega
    omega
   simp [this])
theorem mz(a:Int)(g:-4611686018427387904≤a)(b:a≤4611686018427387904):bW tab 35 [vi a]=Eq (vi (a / 1440)):=Kf.eq (by
 refine dO rfl rfl fun H Q d=>?_;apply ai;simp;apply ai;simp [zn a 1440 (by omega) g b];apply ai;simp;refine aD (d _ _ ?_);simp)
def dt(len b d:Int):aC:=⟨d,d*1440+b,d*1440+b+len⟩
def mj(n:Int):Prop:=-1000000000000000≤n∧n≤1000000000000000
theorem oG(g j l:FC)(len b d:Int)(q:mj len)(s:mj b)(u:mj d) :
  bW tab 26 [.a [.f g,.f (fi len),.f j],.a [.f l,.f (fi b)],vi d]=Eq (.a ((dt len b d).row.map .f)):=bW.eq (Kf.afU (by
 unfold mj at *;refine dO rfl rfl fun H Q m=>?_;apply ai;simp;apply ai;simp [aO (n:=d*1440),aO (n:=d*1440+b)];apply ai;simp [aO (n:=d*1440+b+len)];refine aD (m _ _ ?_);simp [dt,aC.row]))
def fK(a b c d:Int):Bool:=decide (a<d)&&decide (c<b)
theorem ZZ(a b c d:Int):bW tab 27 [.a [.f (fi a),.f (fi b)],.a [.f (fi c),.f (fi d)]]=Eq (vb (fK a b c d)):=Kf.eq (by
 refine dO rfl rfl fun H Q g=>?_;apply ai;simp;apply ai;by_cases h:a<d
 ·simp [h];refine aD (g _ _ ?_);simp [fK,h]
 ·simp [h];refine aD (g _ _ ?_);simp [fK,h])
theorem Ag{u m:Int}(b:0<m):(u.tmod m+m).tmod m=u % m:=by
 have d:=Int.tmod_lt_of_pos u b;have g:=Int.lt_tmod_of_pos u b;rw [amE (by omega),Int.add_emod_right];exact ann.2 (by
  have:=Int.tmod_add_mul_tdiv u m;have e:u.tmod m-u = -(m*u.tdiv m):=by omega
  rw [e];exact Int.emod_eq_zero_of_dvd (Int.dvd_neg.2 (ang _ _)))
theorem zq{x y:Int}(m:1<x)(h:amc x y=1):1≤y % x:=by
 have l:=al9 y (show x≠0 by omega);rcases amw 0 (y % x)with d | d
 ·omega
 ·exfalso;have g:y % x=0:=by omega
  have j:x ∣ y:=Int.dvd_of_emod_eq_zero g;have b:x ∣ (amc x y:Int):=Int.dvd_coe_gcd (amI x) j;rw [h]at b;have:=amk (by decide) b;omega
theorem AV{a m:Int}(a0:0≤a)(a1:a≤1099511627776)(m0:2≤m)(m1:m≤1000000)(hg:amc a m=1) :
  ∃ x,0≤x∧x<m∧m ∣ a*x-1∧bW tab 207 [vi a,vi m]=Eq (vi x):=by
 obtain⟨rr,⟨x,o,p,r,rfl⟩,hp⟩:∃ rr,(∃ x,0≤x∧x<m∧m ∣ a*x-1∧rr=vi x)∧bW tab 207 [vi a,vi m] rr:=by
  have hr:=eR (a:=a) (b:=m) a0 (by omega);have a7:=al9 a (show m≠0 by omega);have H:=al6 a (show 0<m by omega);have l:amc (a % m) m=1:=by
   have e:a % m=a-a / m*m:=by have:=al5 a m;rw [amf (a / m)];omega
   rw [e,Int.gcd_sub_mul_right_left];exact hg
  have Z:1≤a % m:=by
   rcases amw 0 (a % m)with h | h
   ·omega
   ·exfalso;have h0:a % m=0:=by omega
    rw [h0]at l;simp at l;omega
  refine eQ rfl rfl fun Q hQ=>?_;apply ai;simp;apply ai;simp [hr];refine au (az ?_);refine bJ (fun n s=>∃(x y u v U V:Int) (t:T),s=⟨t,[],[]⟩∧(n:Int)=x∧t.g 1=vi m∧t.g 5=vi x∧t.g 6=vi y∧t.g 7=vi u∧t.g 8=vi v∧1≤x∧x<y∧y≤m∧amc x y=1∧m ∣ a*u-x∧m ∣ a*v-y ∧
   0≤U∧0≤V∧(u=U∧v = -V∨u = -U∧v=V)∧U*y+V*x=m) (a % m).toNat
   ⟨a % m,m,1,0,1,0,_,rfl,by omega,by simp,by simp,by simp,by simp,by simp,Z,H,by omega,l,?_,?_,by decide,by decide,.inl ⟨rfl,rfl⟩,by omega⟩ ?_
  ·refine⟨a / m,?_⟩;have:=al5 a m;omega
  ·exact⟨-1,by omega⟩
  rintro n s ⟨x,y,u,v,U,V,t,rfl,hn,f,I,i,k,g8,o,p,r,w,M,h6,A,h8,h9,J⟩ ih;have a_:U≤U*y:=by have:=alC (show(1:Int)≤y by omega) A;omega
  have c9:0≤V*x:=amp h8 (by omega);have a8:U≤m:=by omega
  have b_:V≤m:=by
   have K:V≤V*x:=by have:=alC (show(1:Int)≤x by omega) h8;omega
   have L:0≤U*y:=amp A (by omega);omega
  refine au (ai ?_);simp [I];by_cases hx:1<x
  ·
   have B:0≤y / x:=amo (by omega) (by omega);have X:y / x≤y:=amz _ (by omega);have E:=fy (a:=y) (b:=x) (by omega) (by omega) (by omega);obtain⟨q,hq⟩:=aN (y / x);have j:=al5 y x;have O:=zq hx w;have S:=al6 y (show 0<x by omega);rw [←hq]at B X E j;obtain⟨g,Y⟩:=aN (y % x);rw [←Y]at j O S;have d_:q*x=y-g:=by rw [amf];omega
   obtain⟨W,hW⟩:=aN (V+q*U);have d9:0≤q*U:=amp B A;have N:W*x+U*g=m:=by
    rw [hW,Int.add_mul,←J,show g=y-q*x by omega,anq,anc q U x,anG q U x];omega
   have c_:W≤m:=by
    have K:W≤W*x:=by have:=alC (show(1:Int)≤x by omega) (show 0≤W by omega);omega
    have L:0≤U*g:=amp A (by omega);omega
   have d:(u=U→q*u=q*U)∧(u = -U→q*u = -(q*U)):=⟨fun e=>by rw [e],fun e=>by rw [e,anp]⟩
   have hb:-m≤q*u∧q*u≤m:=by
    rcases h9 with⟨e,-⟩ | ⟨e,-⟩
    ·rw [d.1 e];omega
    ·rw [d.2 e];omega
   have f7:-m≤v∧v≤m:=by omega
   have c:=aO (n:=q*x);have w2:IntKind.i64.wrap (y-q*x)=g:=by rw [aO];omega
   have w3:=aO (n:=q*u);have w4:=aO (n:=v-q*u);refine av (by simp [hx]) (aP ?_);refine az (ai ?_);simp [I,i,E];apply ai;simp [I,i,c,w2];refine aq (.inl rfl) ?_;simp [k,g8,w3,w4];refine ax (ih g.toNat _ (by omega) ⟨g,x,v-q*u,u,W,U,_,rfl,by omega,by simp [f],by simp,by simp,by simp,by simp,by omega,by omega,by omega,?_,?_,M,by omega,A,?_,N⟩)
   ·rw [show g=y-q*x by omega,Int.gcd_sub_mul_right_left,Int.gcd_comm];exact w
   ·have e:a*(v-q*u)-g=(a*v-y)-q*(a*u-x):=by
     rw [anq,anq,anG a q u];omega
    rw [e];exact amU h6 (Int.dvd_mul_of_dvd_right M)
   ·rcases h9 with⟨z,e2⟩ | ⟨z,e2⟩
    ·exact .inr ⟨by rw [d.1 z];omega,z⟩
    ·exact .inl ⟨by rw [d.2 z];omega,z⟩
  ·
   have F:x=1:=by omega
   subst F;have e_:-m≤u∧u≤m:=by omega
   have t1:=Int.tmod_lt_of_pos u (show 0<m by omega);have t2:=Int.lt_tmod_of_pos u (show 0<m by omega);have r1:bP .rem (vi u) (vi m)=aa (vi (u.tmod m)):=gV (by omega);have r2:bP .rem (vi (u.tmod m+m)) (vi m)=aa (vi (u % m)):=by rw [gV (by omega),Ag (by omega)]
   have c:=aO (n:=u.tmod m+m);refine aF (by simp) (bg rfl ?_);apply ai;simp [f,k,r1,c,r2];refine aD (hQ _ _ _ ⟨u % m,al9 _ (by omega),al6 _ (by omega),?_,rfl⟩ (by simp));have e:a*(u % m)-1=(a*u-1)-a*(u / m)*m:=by
    have:=al5 u m;rw [show u % m=u-m*(u / m) by omega,anq,anc,amf m];omega
   rw [e];exact amU M (anw _ _)
 exact⟨x,o,p,r,hp.eq⟩
theorem ZX{a s r p d:Int}(m:¬ (amc s p:Int) ∣ r-a)(j:s ∣ d-a)(l:p ∣ d-r):False:=by
 apply m;have b:=amy (ank s p) j;have g:=amy (Int.gcd_dvd_right s p) l;have:=amU b g;rwa [show d-a-(d-r)=r-a by omega]at this
theorem ZW{a s r p g n t:Int}(q:g=(amc s p:Int))(E:0<p)(F:0<s)(z:p=n*g)(hd:g ∣ r-a)(B:n ∣ t*(s / g)-(r-a) / g) :
  (∀ d,s ∣ d-a∧p ∣ d-r↔(s*n) ∣ d-(a+t*s))∧0<g∧0<n:=by
 have l:0<g:=by
  rw [q];have:=amq p (show s≠0 by omega);omega
 have u:0<n:=by
  rcases Int.lt_trichotomy n 0 with h | h | h
  ·have:=Int.mul_neg_of_neg_of_pos h l;omega
  ·subst h;omega
  ·exact h
 have x:s / g*g=s:=anE (q▸ank s p);have v:(r-a) / g*g=r-a:=anE hd;have j:p ∣ a+t*s-r:=by
  obtain⟨k,A⟩:=B;refine⟨k,?_⟩;have:a+t*s-r=(t*(s / g)-(r-a) / g)*g:=by
   rw [Int.sub_mul,v,anc,x];omega
  rw [this,A,z,Int.mul_right_comm]
 have y:(Int.lcm s p:Int)=s*n:=by
  have b:((amc s p*Int.lcm s p:Nat):Int)=s*p:=by
   rw [Int.gcd_mul_lcm,ana,Int.natAbs_of_nonneg (by omega),Int.natAbs_of_nonneg (by omega)]
  rw [ana,←q]at b;have m:g*(Int.lcm s p:Int)=g*(s*n):=by rw [b,z,←anc,amf]
  exact Int.eq_of_mul_eq_mul_left (by omega) m
 refine⟨fun d=>⟨fun⟨b,m⟩=>?_,fun h=>⟨?_,?_⟩⟩,l,u⟩
 ·rw [←y];refine Int.coe_lcm_dvd ?_ ?_
  ·have:d-(a+t*s)=d-a-t*s:=by omega
   rw [this];exact amU b (anw t s)
  ·have:d-(a+t*s)=d-r-(a+t*s-r):=by omega
   rw [this];exact amU m j
 ·have b:=amy (ang s n) h;have:d-a=d-(a+t*s)+t*s:=by omega
  rw [this];exact Int.dvd_add b (anw t s)
 ·have b:p ∣ d-(a+t*s):=amy (by rw [←y];exact Int.dvd_lcm_right s p) h;have:d-r=d-(a+t*s)+(a+t*s-r):=by omega
  rw [this];exact Int.dvd_add b j
theorem po{a b n:Int}:a % n=b % n↔n ∣ a-b:=ann.trans Int.dvd_iff_emod_eq_zero.symm
abbrev clV(at' st:Int):V:=.a [.f (.int .i64 at'),.f (.int .i64 st)]
theorem aaN{a s r p:Int}(a0:0≤a)(a1:a<s)(s1:s≤1000000)(r0:0≤r)(r1:r<p)(p1:p≤1000) :
  (∃ a' i,0≤a'∧a'<i∧i≤s*p∧(∀ d,s ∣ d-a∧p ∣ d-r↔i ∣ d-a')∧bW tab 153 [clV a s,vi r,vi p]=Eq (.t [clV a' i,vb ae])) ∨
  ((∀ d,¬ (s ∣ d-a∧p ∣ d-r))∧bW tab 153 [clV a s,vi r,vi p]=Eq (.t [clV 0 0,vb ag])):=by
 have s0:0<s:=by omega
 have p0:0<p:=by omega
 obtain⟨g,x⟩:=aN ((amc s p:Int):Int);have a8:amc s p=amT s.toNat p.toNat:=by
  show amT s.natAbs p.natAbs=_;rw [show s.natAbs=s.toNat by omega,show p.natAbs=p.toNat by omega]
 have a_:g ∣ s:=x▸ank s p;have K:g ∣ p:=x▸Int.gcd_dvd_right s p;have l:0<amc s p:=amq p (by omega);have g0:0<g:=by rw [x];exact Int.natCast_pos.2 l
 have gp:g≤p:=amk p0 K;obtain⟨n,f⟩:=aN (p / g);have W:p=n*g:=by rw [f,anE K]
 have A:0<n:=by
  rcases amw 0 n with h | h
  ·exact h
  ·have:=Int.mul_nonneg_of_nonpos_of_nonpos (a:=n) (b:=-g) h (by omega);rw [anp]at this;omega
 have np:n≤p:=by
  have:=alC (show(1:Int)≤g by omega) (show 0≤n by omega);omega
 have j:bW tab 122 [vi s,vi p]=Eq (vi g):=by
  have h:=wL (a:=s.toNat) (b:=p.toNat) (by omega) (by omega);rw [show((s.toNat:Nat):Int)=s by omega,show((p.toNat:Nat):Int)=p by omega,←a8,←x]at h;exact h
 have b0:∀ {L:an},aX (.box [.f (fi a),.f (fi s)] 0::L) ab (.c (.ptr 0 0 0))=aa (vi a)∧aX (.box [.f (fi a),.f (fi s)] 0::L) ab (.c (.ptr 0 1 0))=aa (vi s)∧aX (.box [.f (fi a),.f (fi s)] 0::L) (aa 2) (.c (.ptr 0 0 0))=aa (clV a s):=by
  intro L;refine⟨?_,?_,?_⟩<;>simp [aX,aH,aY]
 have q:=aO (n:=r-a);have E:bP .rem (vi (r-a)) (vi g)=aa (vi ((r-a).tmod g)):=gV (by omega);have z:¬ (s=0):=by omega
 by_cases hd:g ∣ r-a
 ·left;have m:(r-a).tmod g=0:=Int.tmod_eq_zero_of_dvd hd;by_cases y:n=1
  ·
   have M:p=g:=by rw [W,y,Int.one_mul]
   refine⟨a,s,a0,a1,?_,fun d=>⟨fun h=>h.1,fun h=>⟨h,?_⟩⟩,bW.eq ?_⟩
   ·have:=alC (show(1:Int)≤p by omega) (show 0≤s by omega);omega
   ·rw [M];have:=amU (amy a_ h) hd;rwa [show d-a-(r-a)=d-r by omega]at this
   ·have B:bP .quo (vi p) (vi g)=aa (vi n):=by rw [fy (by omega) g0 (by omega),←f]
    refine cd rfl rfl fun Q H=>?_;apply ai;simp;refine au (ai ?_);simp [b0,-ay,z];refine aW (by simp) ?_;apply ai;simp [b0,-ay,j];refine au (ai ?_);simp [b0,-ay,q,E,m];refine aW (by simp) ?_;apply ai;simp [B];refine au (ai ?_);simp [y];refine av (by simp) ?_;apply ai;simp [b0,-ay];refine aD (H _ _ ?_);simp
  ·
   have n2:2≤n:=by omega
   have Y:0≤s / g:=amo (by omega) (by omega);have f8:s / g≤s:=amz _ (by omega);have I:amc (s / g) n=1:=by rw [f,x];exact Int.gcd_ediv_gcd_ediv_gcd l
   obtain⟨v,o,v1,hv,O⟩:=AV Y (by omega) n2 (by omega) I;obtain⟨w,hw⟩:=aN (((r-a) / g) % n);have w0:0≤w:=by rw [hw];exact al9 _ (by omega)
   have w1:w<n:=by rw [hw];exact al6 _ A
   obtain⟨t,ht⟩:=aN ((w*v) % n);have t0:0≤t:=by rw [ht];exact al9 _ (by omega)
   have t1:t<n:=by rw [ht];exact al6 _ A
   have S:n ∣ t*(s / g)-(r-a) / g:=by
    obtain⟨k,hk⟩:=hv;have e1:t=w*v-n*(w*v / n):=by have:=al5 (w*v) n;omega
    have e2:w=(r-a) / g-n*((r-a) / g / n):=by have:=al5 ((r-a) / g) n;omega
    have e3:t*(s / g)-(r-a) / g=w*(s / g*v-1)-n*(w*v / n)*(s / g)-n*((r-a) / g / n):=by
     rw [e1,Int.sub_mul,anq,anc w v,amf v (s / g)];omega
    rw [e3,hk];refine amU (amU ?_ ?_) (ang _ _)
    ·exact⟨w*k,by rw [anG]⟩
    ·exact⟨w*v / n*(s / g),by rw [anc]⟩
   obtain⟨N,-,-⟩:=ZW x p0 s0 W hd S;have g_:0≤t*s:=amp t0 (by omega);have h_:t*s≤(n-1)*s:=anA (by omega) (by omega);have i4:(n-1)*s=n*s-s:=by rw [Int.sub_mul,Int.one_mul]
   have f7:n*s≤1000*1000000:=amB (by omega) s1 (by omega) (by decide);have i6:s*n=n*s:=amf _ _;have Z:0≤w*v:=amp w0 o;have i3:w*v≤1000*1000:=amB (by omega) (by omega) o (by decide);have f_:0≤n*s:=amp (by omega) (by omega);refine⟨a+t*s,s*n,by omega,by omega,?_,N,bW.eq ?_⟩
   ·exact alC np (by omega)
   ·have B:bP .quo (vi p) (vi g)=aa (vi n):=by rw [fy (by omega) g0 (by omega),←f]
    have a7:bP .quo (vi (r-a)) (vi g)=aa (vi ((r-a) / g)):=by
     rw [oB (by omega),Int.tdiv_eq_ediv_of_dvd hd];have hb:-1000000≤(r-a) / g∧(r-a) / g≤1000000:=by
      obtain⟨k,hk⟩:=hd;rw [hk,Int.mul_ediv_cancel_left _ (by omega)];constructor
      ·rcases amw k (-1000000)with h | h
       ·have:=alC (show k≤-1000001 by omega) (show 0≤g by omega);omega
       ·omega
      ·rcases amw 1000000 k with h | h
       ·have:=alC (show(1000001:Int)≤k by omega) (show 0≤g by omega);omega
       ·omega
     rw [aO]
    have d9:bP .rem (vi ((r-a) / g)) (vi n)=aa (vi (((r-a) / g).tmod n)):=gV (by omega);have tl:=Int.tmod_lt_of_pos ((r-a) / g) A;have tg:=Int.lt_tmod_of_pos ((r-a) / g) A;have d_:=aO (n:=((r-a) / g).tmod n+n);have U:bP .rem (vi (((r-a) / g).tmod n+n)) (vi n)=aa (vi w):=by rw [gV (by omega),Ag A,←hw]
    have e_:bP .quo (vi s) (vi g)=aa (vi (s / g)):=fy (by omega) g0 (by omega);have uw:IntKind.wrap .u64 w=w:=iP w0 (by omega);have uv:IntKind.wrap .u64 v=v:=iP o (by omega);have un:IntKind.wrap .u64 n=n:=iP (by omega) (by omega);have us:IntKind.wrap .u64 s=s:=iP (by omega) (by omega);have b_:=sZ w0 (show w≤2147483648 by omega) o (show v≤2147483648 by omega);have X:=VK (a:=0) (b:=n) (by decide) A;rw [Int.zero_emod]at X;have J:=T' Z (show w*v≤9223372036854775807 by omega) A (show n≤9223372036854775807 by omega);rw [←ht]at J;have c9:=sZ t0 (show t≤2147483648 by omega) (show 0≤s by omega) (show s≤2147483648 by omega);have c_:=sZ (show 0≤s by omega) (show s≤2147483648 by omega) (show 0≤n by omega) (show n≤2147483648 by omega);have u:=aO (n:=t*s);have fa:=aO (n:=1152921504606846976-a);have c1:¬ (1152921504606846976<t*s):=by omega
    have c2:¬ (1152921504606846976-a<t*s):=by omega
    have F:=aO (n:=a+t*s);have c:=aO (n:=s*n);have c3:s*n≤1152921504606846976:=by omega
    refine cd rfl rfl fun Q H=>?_;apply ai;simp;refine au (ai ?_);simp [b0,-ay,z];refine aW (by simp) ?_;apply ai;simp [b0,-ay,j];refine au (ai ?_);simp [b0,-ay,q,E,m];refine aW (by simp) ?_;apply ai;simp [B];refine au (ai ?_);simp [y];refine aW (by simp) ?_;apply ai;simp [b0,-ay,q,a7,d9,d_,U];apply ai;simp [b0,-ay,uw,e_,O,uv,b_];apply ai;simp [un,X,J];apply ai;simp [b0,-ay,us,c9];refine au (ai ?_);simp [b0,-ay,c1,u,fa,c2];refine aW (by simp) ?_;apply ai;simp [b0,-ay,u,F];refine au (ai ?_);simp [b0,-ay,us,un,c_];apply ai;simp [c3];refine av (by simp) (aq (.inl rfl) ?_);simp [c];apply ai;simp;refine aD (H _ _ ?_);simp
 ·right;refine⟨fun d h=>ZX (fun e=>hd (x▸e)) h.1 h.2,bW.eq ?_⟩;have m:¬ (r-a).tmod g=0:=fun e=>hd (Int.dvd_of_tmod_eq_zero e);refine cd rfl rfl fun Q H=>?_;apply ai;simp;refine au (ai ?_);simp [b0,-ay,z];refine aW (by simp) ?_;apply ai;simp [b0,-ay,j];refine au (ai ?_);simp [b0,-ay,q,E,m];refine av (by simp) ?_;apply ai;simp;refine aD (H _ _ ?_);simp
theorem qQ(a b:Int):Kf tab 201 [vi a,vi b] (vb (decide (a<b))):=by
 refine dO rfl rfl fun H Q d=>?_;apply ai;simp;apply ai;simp [oQ];refine aD (d _ _ ?_);simp [oQ]
theorem abN(a:Int):bW tab 222 [vi a]=Eq (vb ag):=Kf.eq (by
 refine dO rfl rfl fun H Q b=>?_;apply ai;simp;apply ai;simp;refine aD (b _ _ ?_);simp)
theorem fT(g:Tg)(l:List Int)(n:Int)(hl:l.length≤1000000000)(o:l.Pairwise (· < ·)) :
  ∃ i:Nat,i≤l.length∧(∀ j (d:j<l.length),j<i→l[j]<n)∧(∀ j (d:j<l.length),i≤j→n≤l[j]) ∧
   bW tab 184 [.c (.f (sl g (ints l))),vi n]=Eq (.t [vi i,vb (decide (n ∈ l))]):=by
 obtain⟨r,⟨i,c,f,O,rfl⟩,h⟩:∃ r,(∃ i:Nat,i≤l.length∧(∀ j (d:j<l.length),j<i→l[j]<n)∧(∀ j (d:j<l.length),i≤j→n≤l[j])∧r=.t [vi i,vb (decide (n ∈ l))]) ∧
   bW tab 184 [.c (.f (sl g (ints l))),vi n] r:=by
  refine eQ rfl rfl fun Q S=>?_;have A:=fun(a b:Int) (H:an)=>(qQ a b).ev H;have y:∀ i j (hi:i<j) (d:j<l.length),l[i]<l[j]:=fun i j hi d=>alO.1 o i j (by omega) d hi;apply ai;simp;apply ai;simp;apply ai;simp;apply au;refine az ?_;refine bJ (fun m s=>∃(lo hi:Nat) (t:T) (J:an),s=⟨t,[],J⟩∧m=hi-lo∧lo≤hi∧hi≤l.length∧t.g 0=.c (.f (sl g (ints l)))∧t.g 1=vi n∧t.g 6=vi l.length∧t.g 7=vi lo∧t.g 8=vi hi ∧
   (∀ j (d:j<l.length),j<lo→l[j]<n)∧(∀ j (d:j<l.length),hi≤j→n≤l[j])) l.length
   ⟨0,l.length,_,_,rfl,by omega,by omega,by omega,by simp,by simp,by simp,by simp,by simp,by simp,by intros;omega⟩ ?_
  rintro m s ⟨lo,hi,t,J,rfl,rfl,k,z,E,F,K,I,N,u,v⟩ next
  apply au;apply ai;simp [I,N];by_cases W:lo<hi
  ·refine av (by simp [W]) (aP ?_);obtain⟨q,hq⟩:=aN ((lo+hi) / 2);have L:q<l.length:=by omega
   have Z:bP BinOp.shr (V.c (C.f (FC.int IntKind.u64 (IntKind.u64.wrap ((lo:Int)+hi))))) (V.c (C.f (FC.int IntKind.u64 1)))=aa (.c (.f (.int .u64 (q:Int)))):=by
    have:IntKind.u64.wrap ((lo:Int)+hi)=(lo:Int)+hi:=by
     show((lo:Int)+hi) % 18446744073709551616=_;omega
    rw [this];show aa (V.c (C.f (FC.int IntKind.u64 (Int.fdiv ((lo:Int)+hi) (2 ^ (min (1:Int).toNat IntKind.u64.bits))))))=_;have O:Int.fdiv ((lo:Int)+hi) (2 ^ (min (1:Int).toNat IntKind.u64.bits))=q:=by
     show Int.fdiv ((lo:Int)+hi) 2=q;rw [Int.fdiv_eq_ediv_of_nonneg _ (by omega)];omega
    rw [O]
   have p:=aO (n:=(lo:Int)+hi);have Y:IntKind.i64.wrap (q:Int)=q:=aO;refine az ?_;apply ai;simp [I,N,p,Z,Y];apply ai;simp [E,F,bG,L,eh,A];by_cases U:l[q]<n
   ·refine av (by simp [U]) ?_;refine aq (.inl rfl) ?_;simp [aO (n:=(q:Int)+1)];refine ax (next (hi-(q+1)) _ (by omega) ⟨q+1,hi,_,_,rfl,rfl,by omega,by omega,by simp [E],by simp [F],by simp [K],by simp,by simp [N],fun j d h=>?_,v⟩);by_cases e:j=q
    ·subst e;exact U
    ·have:=y j q (by omega) L;omega
   ·refine aF (by simp [U]) ?_;refine aq (.inl rfl) ?_;simp;refine ax (next (q-lo) _ (by omega) ⟨lo,q,_,_,rfl,rfl,by omega,by omega,by simp [E],by simp [F],by simp [K],by simp [I],by simp,u,fun j d h=>?_⟩);by_cases e:j=q
    ·subst e;omega
    ·have:=y q j (by omega) d;omega
  ·have:lo=hi:=by omega
   subst this;refine aF (by simp) ?_;refine bg rfl ?_;apply ai;by_cases x:lo<l.length
   ·have w:=v lo x (by omega);by_cases M:l[lo]=n
    ·simp [E,F,K,I,x,bG,eh,M];refine aD (S _ _ _ ⟨lo,z,u,v,rfl⟩ ?_);have:n ∈ l:=M▸IT x;simp [this]
    ·have B:n ∉ l:=fun X=>by
      obtain⟨j,d,rfl⟩:=aly X;rcases Nat.lt_trichotomy j lo with h | h | h
      ·have:=u j d h;omega
      ·subst h;exact M rfl
      ·have:=y lo j h d;omega
     simp [E,F,K,I,x,bG,eh,M,abN];refine aD (S _ _ _ ⟨lo,z,u,v,rfl⟩ ?_);simp [B]
   ·have B:n ∉ l:=fun X=>by
     obtain⟨j,d,rfl⟩:=aly X;have:=u j d (by omega);omega
    simp [E,F,K,I,x];refine aD (S _ _ _ ⟨lo,z,u,v,rfl⟩ ?_);simp [B]
 exact⟨i,c,f,O,bW.eq h⟩
theorem lO{limit:Int}:∀ {l:List Int} {last:Int},dA limit last l=ae→l.Pairwise (· < ·)∧∀ c ∈ l,last<c∧c<limit
 | [],_,_=>⟨List.Pairwise.nil,by simp⟩
 | a::l,last,h=>by
  simp only [dA,If,decide_eq_true_eq]at h;obtain⟨⟨g,j⟩,m⟩:=h;obtain⟨q,d⟩:=lO m;refine⟨amV.2 ⟨fun c b=>(d c b).1,q⟩,fun c b=>?_⟩;rcases alT.1 b with rfl | b
  ·exact⟨g,j⟩
  ·have:=d c b;omega
theorem a6{p:aI}(h:cF p=ae):0≤p.fr∧p.fr≤1099511627776∧1≤p.aM∧p.aM≤1099511627776∧p.head.length+p.bf.length≤1048576∧p.head.Pairwise (· < ·)∧(∀ c ∈ p.head,-1<c∧c<p.fr)∧p.bf.Pairwise (· < ·)∧∀ c ∈ p.bf,-1<c∧c<p.aM:=by
 unfold cF at h;simp only [If,decide_eq_true_eq]at h;obtain⟨⟨⟨⟨⟨⟨g,j⟩,l⟩,m⟩,u⟩,q⟩,s⟩:=h;obtain⟨a1,b⟩:=lO q;obtain⟨b1,d⟩:=lO s;exact⟨g,j,l,m,by omega,a1,b,b1,d⟩
def bK(p:aI)(d:Int):Bool:=if p.fr≤d then decide ((d-p.fr) % p.aM ∈ p.bf)else decide (d ∈ p.head)
def Day(d:Int):Prop:=d≤2305843009213693952
theorem vJ(p:aI)(h:cF p=ae)(d:Int)(z:0≤d)(hd:Day d):bW tab 194 [.a (p.row.map .f),vi d]=Eq (vb (bK p d)):=Kf.eq (by
 obtain⟨A,B,E,F,I,s,K,u,L⟩:=a6 h;unfold Day at hd;refine dO rfl rfl fun H Q v=>?_;have j:∀(t:T) (J:an) (g:Tg) (l:List Int) (n:Int),l.length≤1048576→l.Pairwise (· < ·)→t.g 5=.c (.f (sl g (ints l)))→t.g 6=vi n→bK p d=decide (n ∈ l)→WP tab 194 ab [.code xS] ⟨t,[],H++J⟩ Q:=by
  intro t J g l n M x m q e;obtain⟨i,-,-,-,y⟩:=fT g l n (by omega) x;apply ai;simp [m,q,y];apply ai;simp;refine aD (v _ _ ?_);simp [e]
 apply ai;simp [aI.row];apply ai;simp;apply au;apply ai;simp;by_cases k:p.fr≤d
 ·refine av (by simp [k]) ?_;refine aq (.inl rfl) ?_;simp [aO (n:=d-p.fr),eR (a:=d-p.fr) (b:=p.aM) (by omega) (by omega)];exact j _ _ p.cg p.bf ((d-p.fr) % p.aM) (by omega) u (by simp) (by simp) (by simp [bK,k])
 ·refine aW (by simp [k]) ?_;exact j _ _ p.hg p.head d (by omega) s (by simp) (by simp) (by simp [bK,k]))
def hasB(p:aI)(d:Int):Bool:=decide (0≤d)&&bK p d
theorem abe(p:aI)(h:cF p=ae)(d:Int)(hd:Day d):Kf tab 143 [.a (p.row.map .f),vi d] (vb (hasB p d)):=by
 refine dO rfl rfl fun H Q g=>?_;have b:=qq p (jO h);rw [h]at b;apply ai;simp [aI.row]at b ⊢;apply ai;by_cases k:0≤d
 ·have j:=vJ p h d k hd;simp [aI.row]at j;simp [b,k,j];refine aD (g _ _ ?_);simp [hasB,k]
 ·simp [b,k];refine aD (g _ _ ?_);simp [hasB,k]
theorem JC(p:aI)(h:cF p=ae)(d:Int)(hd:Day d):Kf tab 142 [.a (p.row.map .f),.c (.f (.fp [fi d] 0))] (vb (!hasB p d)):=by
 refine dO rfl rfl fun H Q g=>?_;have b:=(abe p h d hd).eq;simp [aI.row]at b;have j:∀ H:an,aX H ab (.c (.f (.fp [fi d] 0)))=aa (vi d):=fun H=>by simp [aX,aH]
 apply ai;simp [aI.row];apply ai;simp [j,b];refine aD (g _ _ ?_);simp
def tZ(l:List aI)(d:Int):Bool:=l.all fun p=>hasB p d
theorem acd(g:Tg)(l:List aI)(u:l.length≤9223372036854775807)(h:∀ p ∈ l,cF p=ae)(d:Int)(hd:Day d):Kf tab 94 [.c (.f (sl g (aK l))),vi d] (vb (tZ l d)):=by
 refine dO rfl rfl fun H Q m=>?_;have q:=(jH Tv (nr Tx l aI.row (fun r=>.a (r.row.map .f)) (fun p=>!hasB p d) g 142 [.fp [fi d] 0] u
  (fun j s H=>cR (bD l) (cQ s)) (fun p v=>JC p (h p v) d hd))).eq
 have e:(!l.any fun p=>!hasB p d)=tZ l d:=by
  rw [tZ,Bool.eq_iff_iff];simp [List.any_eq_false,alx]
 apply ai;simp;apply ai;have b:bW tab 80 [.c (.f (sl g (aK l))),.c (.f (.fn 142 [.fp [fi d] 0]))]=Eq (vb (l.any fun p=>!hasB p d)):=q;simp [deep,UK,Ba,b,e];refine aD (m _ _ ?_);simp
theorem aew(t:cE)(j:t.fs.length≤9223372036854775807)(h:∀ p ∈ t.fs,cF p=ae)(d:Int)(hd:Day d):Kf tab 93 [.c (.f (sl t.tg (aK t.fs))),.c (.f (.fp [fi d] 0))] (vb (tZ t.fs d)):=by
 refine dO rfl rfl fun H Q g=>?_;have b:∀ H:an,aX H ab (.c (.f (.fp [fi d] 0)))=aa (vi d):=fun H=>by simp [aX,aH]
 apply ai;simp;apply ai;simp [b,(acd t.tg t.fs j h d hd).eq];refine aD (g _ _ ?_);simp
def zH(l:List cE)(d:Int):Bool:=iH l&&l.any fun t=>tZ t.fs d
theorem fA{t:cE}(h:jd t=ae):1≤t.fs.length∧t.fs.length≤4∧∀ p ∈ t.fs,cF p=ae:=by
 unfold jd at h;simp only [If,decide_eq_true_eq,alx]at h;exact⟨by omega,by omega,h.2⟩
theorem nv{l:List cE}(h:iH l=ae):l.length≤64∧∀ t ∈ l,jd t=ae:=by
 unfold iH at h;simp only [If,decide_eq_true_eq,alx]at h;exact⟨by omega,h.2⟩
theorem aaO(g:Tg)(l:List cE)(h:iH l=ae)(d:Int)(hd:Day d):bW tab 56 [.a [.f (sl g (aB l))],vi d]=Eq (vb (zH l d)):=Kf.eq (by
 obtain⟨z,m⟩:=nv h;have s:=A' g l (by omega) (fun t b=>⟨by have:=(fA (m t b)).2.1;omega,fun p y=>jO ((fA (m t b)).2.2 p y)⟩);have v:=(jH Tu (nr Tw l cE.row (fun t=>.c (.f (sl t.tg (aK t.fs)))) (fun t=>tZ t.fs d) g 93 [.fp [fi d] 0] (by omega)
  (fun j x H=>gZ (eZ l) (gd x) rfl) (fun t b=>aew t (by have:=(fA (m t b)).2.1;omega) (fA (m t b)).2.2 d hd))).eq
 have q:bW tab 74 [.c (.f (sl g (aB l))),.c (.f (.fn 93 [.fp [fi d] 0]))]=Eq (vb (l.any fun t=>tZ t.fs d)):=v;rw [h]at s;refine dO rfl rfl fun H Q u=>?_;apply ai;simp;apply ai;simp [s,deep,UK,Ba,q];refine aD (u _ _ ?_);simp [zH,h])
structure Mod(p:aI):Prop where
 ok:cF p=ae
 ai1:p.aM≤1000
def gA(p:aI)(c:Int):Int:=(p.fr % p.aM+c) % p.aM
theorem aiv{x c p:Int}(d:0≤c)(g:c<p):x % p=c↔p ∣ x-c:=by
 have h:=po (a:=x) (b:=c) (n:=p);rw [Int.emod_eq_of_lt d g]at h;exact h
theorem pE{p:aI}(h:Mod p){c:Int}(b:0≤c)(g:c<p.aM):0≤gA p c∧gA p c<p.aM∧∀ d,(d-p.fr) % p.aM=c↔p.aM ∣ d-gA p c:=by
 have j:0<p.aM:=by omega
 refine⟨al9 _ (by omega),al6 _ j,fun d=>?_⟩;rw [aiv b g];have e:p.aM ∣ p.fr+c-gA p c:=by
  rw [←po];unfold gA;rw [Int.emod_emod_of_dvd _ (amI _),Int.emod_add_emod]
 constructor
 ·intro k;have:=Int.dvd_add k e;rwa [show d-p.fr-c+(p.fr+c-gA p c)=d-gA p c by omega]at this
 ·intro k;have:=amU k e;rwa [show d-gA p c-(p.fr+c-gA p c)=d-p.fr-c by omega]at this
theorem rB{p:aI}(h:Mod p){c:Int}(d:c ∈ p.bf):0≤c∧c<p.aM:=by
 obtain⟨-,-,-,-,-,-,-,-,b⟩:=a6 h.ok;have:=b c d;omega
def jM(p:aI)(d:Int):Prop:=∃ c ∈ p.bf,p.aM ∣ d-gA p c
theorem sY{p:aI}(h:Mod p){d:Int}(hd:p.fr≤d):bK p d=ae↔jM p d:=by
 unfold bK;rw [ba hd,decide_eq_true_eq];constructor
 ·intro j;obtain⟨a,b⟩:=rB h j;exact⟨_,j,((pE h a b).2.2 d).1 rfl⟩
 ·rintro⟨c,g,e⟩;obtain⟨a,b⟩:=rB h g;rw [((pE h a b).2.2 d).2 e];exact g
theorem tx(p:aI)(h:Mod p)(c:Int)(l:0≤c)(m:c<p.aM):bW tab 121 [.a (p.row.map .f),vi c]=Eq (vi (gA p c)):=Kf.eq (by
 obtain⟨d,j,u,v,-⟩:=a6 h.ok;have q:=al9 p.fr (show p.aM≠0 by omega);have s:=al6 p.fr (show 0<p.aM by omega);refine dO rfl rfl fun H Q g=>?_;apply ai;simp [aI.row];apply ai;simp [eR (a:=p.fr) (b:=p.aM) d (by omega),aO (n:=p.fr % p.aM+c),eR (a:=p.fr % p.aM+c) (b:=p.aM) (by omega) (by omega)];refine aD (g _ _ ?_);simp [gA])
def cJ:List aI→Int
 | []=>0| p::l=>max p.fr (cJ l)
theorem nD:∀ l:List aI,0≤cJ l
 | []=>amJ _| p::l=>by have:=nD l;simp only [cJ];omega
theorem nC{p:aI}:∀ {l:List aI},p ∈ l→p.fr≤cJ l
 | q::l,h=>by
  simp only [cJ];rcases alT.1 h with rfl | h
  ·omega
  ·have:=nC h;omega
theorem Bz{l:List aI}{m:Int}(b:0≤m)(h:∀ p ∈ l,p.fr≤m):cJ l≤m:=by
 induction l with
 | nil=>exact b
 | cons p l g=>
  have:=h p alo;have:=g fun q d=>h q (alq _ d);simp only [cJ];omega
theorem Ac(l:List aI)(p:aI):cJ (l++[p])=max (cJ l) p.fr:=by
 induction l with
 | nil=>simp only [List.nil_append,cJ];omega| cons q l b=>simp only [List.cons_append,cJ,b];omega
theorem VD(g:Tg)(l:List aI)(z:l.length≤64):bW tab 151 [.c (.f (sl g (aK l)))]=Eq (vi (cJ l)):=Kf.eq (by
 refine dO rfl rfl fun H Q y=>?_;apply ai;simp;apply ai;simp;apply au;apply ai;simp;refine bZ l.length (fun j t H'=>(∃ J,H'=H++J)∧t.g 6=.c (.f (sl g (aK l)))∧t.g 3=vi (cJ (l.take j))) (by omega) (by decide) (by decide) (by simp) (by simp) ⟨⟨[],by simp⟩,by simp,by simp [cJ]⟩ ?_ ?_
 ·rintro j t _ u ⟨⟨J,rfl⟩,q,m⟩ s x next
  have d:=fun H:an=>cR (H:=H) (bD l) (cQ (l:=l) (j:=j) u);have b:=fun H:an=>bG (H:=H) (g:=g) (rows:=aK l) (sz:=4) (k:=.i64) (i:=j) (by omega) (by simpa using u);simp [aI.row]at d b;have v:l.take (j+1)=l.take j++[l[j]]:=by rw [alv,By u];rfl
  have e:cJ (l.take (j+1))=max (cJ (l.take j)) l[j].fr:=by rw [v,Ac]
  refine az ?_;apply ai;simp [q,s,b,d];refine aq (.inl rfl) ?_;simp [m];refine ax (next _ _ ?_ (by simp [s]) (by simp [x]));exact⟨⟨_,rfl⟩,by simp [q],by simp [e]⟩
 ·rintro t _ ⟨⟨J,rfl⟩,q,m⟩ s x;rw [als]at m;apply ai;simp [m];refine aD (y _ _ ?_);simp)
def xR(n a s:Int):Int:=if a<n then a+(n-a+s-1) / s*s else a
theorem C4{n a s:Int}(x:0≤a)(y:a<s)(z:0≤n):n≤xR n a s∧s ∣ xR n a s-a∧xR n a s≤n+s∧∀ d,n≤d→s ∣ d-a→xR n a s≤d:=by
 have l:0<s:=by omega
 unfold xR;split
 ·have m:=al5 (n-a+s-1) s;have u:=al9 (n-a+s-1) (show s≠0 by omega);have v:=al6 (n-a+s-1) l;have g:(n-a+s-1) / s*s=s*((n-a+s-1) / s):=amf _ _;rw [g];generalize (n-a+s-1) / s=q at *;refine⟨by omega,⟨q,by omega⟩,by omega,?_⟩;rintro d hd ⟨k,j⟩;rcases amw k q with h | h
  ·have b:s*k≤s*(q-1):=alC (by omega) (by omega);rw [anq,anx]at b;omega
  ·have b:s*q≤s*k:=alC h (by omega);omega
 ·refine⟨by omega,⟨0,by omega⟩,by omega,?_⟩;rintro d hd ⟨k,j⟩;rcases amw k 0 with h | h
  ·have b:s*k≤s*(-1):=alC (by omega) (by omega);omega
  ·have b:0≤s*k:=amp (by omega) h;omega
structure fO(S:Int→Prop)(l:Int)(f:Bool)(l':Int)(f':Bool):Prop where
 le:l'≤l
 fnd:f=ae→f'=ae
 src:(l'=l∧f'=f)∨(f'=ae∧S l')
 low:∀ d,S d→l'≤d∧(d≤l→f'=ae)
theorem fO.none{S:Int→Prop}{l:Int}{f:Bool}(h:∀ d,¬ S d):fO S l f l f:=⟨amJ _,id,.inl ⟨rfl,rfl⟩,fun d hd=>absurd hd (h d)⟩
theorem fO.trans{S q s:Int→Prop}{l l1 l2:Int}{f u v:Bool}(h1:fO q l f l1 u)(h2:fO s l1 u l2 v)(m:∀ d,S d↔q d∨s d):fO S l f l2 v where
 le:=amv h2.le h1.le
 fnd h:=h2.fnd (h1.fnd h)
 src:=by
  rcases h2.src with⟨rfl,rfl⟩ | ⟨h,k⟩
  ·rcases h1.src with h | ⟨h,k⟩
   ·exact .inl h
   ·exact .inr ⟨h,(m _).2 (.inl k)⟩
  ·exact .inr ⟨h,(m _).2 (.inr k)⟩
 low d hd:=by
  have b:=h2.le;rcases(m d).1 hd with k | k
  ·obtain⟨a1,j⟩:=h1.low d k;exact⟨by omega,fun e=>h2.fnd (j e)⟩
  ·obtain⟨a1,j⟩:=h2.low d k;refine⟨a1,fun e=>?_⟩;rcases amw l1 d with g | g
   ·rcases h1.src with⟨rfl,rfl⟩ | ⟨h,-⟩
    ·omega
    ·exact h2.fnd h
   ·exact j g
theorem fO.iff{S S':Int→Prop}{l j:Int}{f b:Bool}(h:fO S l f j b)(g:∀ d,S' d↔S d):fO S' l f j b:=
 ⟨h.le,h.fnd,by rcases h.src with k | ⟨k,k'⟩;exact .inl k;exact .inr ⟨k,(g _).2 k'⟩,fun d hd=>h.low d ((g d).1 hd)⟩
theorem fO.one{S:Int→Prop}{l x:Int}{f:Bool}(g:S x)(b:∀ d,S d→x≤d):fO S l f (if x≤l then x else l) (f||decide (x≤l)) where
 le:=by split<;>omega
 fnd h:=by rw [h];rfl
 src:=by
  by_cases k:x≤l
  ·exact .inr ⟨by simp [k],by simpa [k]using g⟩
  ·exact .inl ⟨by simp [k],by simp [k]⟩
 low d hd:=by
  have:=b d hd;constructor
  ·split<;>omega
  ·intro e;simp [show x≤l by omega]
def LH(H:an)(g:Tg)(ps:List aI)(n least:Int)(found:Bool):Prop:=(∃ a,H[0]?=aa (.box [.f (sl g (aK ps))] a))∧H[1]?=aa (.box [.f (fi n)] 0)∧H[2]?=aa (.box [.f (fi least)] 0)∧H[3]?=aa (.box [.f (.bool found)] 0) ∧
 H[4]?=aa (.box [.cl 152 [.ptr 0 0 0,.ptr 4 0 0,.ptr 1 0 0,.ptr 2 0 0,.ptr 3 0 0]] 0)
theorem LH.push{H:an}{g:Tg}{ps:List aI}{n least:Int}{found:Bool}(h:LH H g ps n least found)(J:an):LH (H++J) g ps n least found:=by
 obtain⟨⟨a,h0⟩,h1,h2,h3,h4⟩:=h;refine⟨⟨a,?_⟩,?_,?_,?_,?_⟩
 ·rw [AT (aj h0)];exact h0
 ·rw [AT (aj h1)];exact h1
 ·rw [AT (aj h2)];exact h2
 ·rw [AT (aj h3)];exact h3
 ·rw [AT (aj h4)];exact h4
theorem Jl(g:Tg)(ps:List aI)(H:an)(n least:Int)(found:Bool)(r s:Int)(h:LH H g ps n least found)(A:0≤r)(B:r<s)(F:s≤1000000)(o:0≤n)(p:n≤1000000000000) :
  ∃ v H',Ev tab (.fn 152) [vi ps.length,clV r s,.c (.ptr 0 0 0),.c (.ptr 4 0 0),.c (.ptr 1 0 0),.c (.ptr 2 0 0),.c (.ptr 3 0 0)] H v H' ∧
   (v=.t []∧LH H' g ps n (if xR n r s≤least then xR n r s else least) (found||decide (xR n r s≤least))∧∀ i:Nat,5≤i→i<H.length→H'[i]?=H[i]?):=by
 obtain⟨⟨E,Z⟩,c,e,f,M⟩:=h;obtain⟨u1,-,u3,-⟩:=C4 A B o;have l4:=aj M;refine cH rfl rfl fun Q S=>?_;have m:∀(t:T) (q:an) (y:Int),y=xR n r s→t.g 8=.c (.ptr H.length 0 0)→t.g 4=.c (.ptr 1 0 0)→t.g 5=.c (.ptr 2 0 0)→t.g 6=.c (.ptr 3 0 0)→LH q g ps n least found→q[H.length]?=aa (.box [.f (fi y),.f (fi s)] 0)→(∀ i:Nat,5≤i→i<H.length→q[i]?=H[i]?) →
   WP tab 152 ab [.code yz] ⟨t,[],q⟩ Q:=by
  rintro t q _ rfl L X K Y j W l;have q1:=j.2.1;have U:=j.2.2.1;have q3:=j.2.2.2.1;apply ai;simp [L,X,K,W,q1,U,u1];by_cases k:xR n r s≤least
  ·refine av (by simp [k]) ?_;have I:(q.set 2 (.box [.f (fi (xR n r s))] 0))[3]?=aa (.box [.f (.bool found)] 0):=by rw [sh (by decide)];exact q3
   refine aq (.inl rfl) ?_;simp [L,K,Y,W,U,I];refine cU (S _ _ _ rfl rfl ⟨rfl,?_,fun i hi z=>by rw [sh (by omega),sh (by omega)];exact l i hi z⟩);obtain⟨⟨E,A⟩,B,F,N,O⟩:=j;refine⟨⟨E,?_⟩,?_,?_,?_,?_⟩
   ·rw [sh (by decide),sh (by decide)];exact A
   ·rw [sh (by decide),sh (by decide)];exact B
   ·rw [sh (by decide),BY (aj F)];simp [k]
   ·rw [BY (by rw [List.length_set];exact aj N)];simp [k]
   ·rw [sh (by decide),sh (by decide)];exact O
  ·refine aW (by simp [k]) ?_;refine cU (S _ _ _ rfl rfl ⟨rfl,?_,l⟩);simpa [k]using j
 apply ai;simp;have d:=LH.push (H:=H) (g:=g) (ps:=ps) (n:=n) (least:=least) (found:=found) ⟨⟨E,Z⟩,c,e,f,M⟩ [.box [.f (fi r),.f (fi s)] 0];have x:(H++[b7.box [.f (fi r),.f (fi s)] 0])[H.length]?=aa (.box [.f (fi r),.f (fi s)] 0):=by simp
 have u:∀ i:Nat,5≤i→i<H.length→(H++[b7.box [.f (fi r),.f (fi s)] 0])[i]?=H[i]?:=fun i _ z=>AT z;generalize H++[b7.box [.f (fi r),.f (fi s)] 0]=q at d x u ⊢;obtain⟨a1,r0⟩:=d.1;have J:=d.2.1;apply au;apply ai;simp [r0];refine aW (by simp) ?_;apply au;apply ai;by_cases k:r<n
 ·simp [J,x,k,show 0<s by omega];refine av (by simp) ?_;have a7:xR n r s=r+(n-r+s-1) / s*s:=by unfold xR;rw [ba k]
  have w:=fy (a:=n-r+s-1) (b:=s) (by omega) (by omega) (by omega);have b1:(n-r+s-1) / s*s=xR n r s-r:=by omega
  refine aq (.inl rfl) ?_;simp [J,x,aO (n:=n-r),aO (n:=n-r+s),aO (n:=n-r+s-1),w,b1,aO (n:=xR n r s-r),aO (n:=r+(xR n r s-r))];refine m _ _ _ (show r+(xR n r s-r)=_ by omega) (by simp) (by simp) (by simp) (by simp) ?_ (BY (aj x)) fun i hi z=>by rw [sh (by omega)];exact u i hi z
  obtain⟨⟨a1,A⟩,B,F,N,O⟩:=d;refine⟨⟨a1,?_⟩,?_,?_,?_,?_⟩
  all_goals (rw [sh (by omega)];assumption)
 ·simp [J,x,k];refine aW (by simp) ?_;exact m _ _ r (by unfold xR;rw [aS k]) (by simp) (by simp) (by simp) (by simp) d x u
def eo:List aI→Int
 | []=>1| p::l=>p.aM*eo l
theorem qt{l:List aI}(h:∀ p ∈ l,Mod p):1≤eo l:=by
 induction l with
 | nil=>exact amJ _
 | cons p l j=>
  have b:=(a6 (h p alo).ok).2.2.1;have d:=j fun q g=>h q (alq _ g);have:=amB b d (by decide) (by omega);simp only [eo];omega
def rW(ps:List aI)(n a s d:Int):Prop:=n≤d∧s ∣ d-a∧∀ p ∈ ps,jM p d
theorem aij(g:Tg)(ps:List aI)(hM:∀ p ∈ ps,Mod p)(j9:ps.length≤64)(n:Int)(hn:0≤n)(h_:n≤1000000000000) :
  ∀(k i:Nat),i+k=ps.length→∀(H:an) (least:Int) (found:Bool) (a s:Int),LH H g ps n least found→0≤a→a<s→s*eo (ps.drop i)≤1000000 →
  ∃ v H',Ev tab (.fn 152) [vi i,clV a s,.c (.ptr 0 0 0),.c (.ptr 4 0 0),.c (.ptr 1 0 0),.c (.ptr 2 0 0),.c (.ptr 3 0 0)] H v H' ∧
   (v=.t []∧∃ F z,LH H' g ps n F z∧fO (rW (ps.drop i) n a s) least found F z∧∀ i:Nat,5≤i→i<H.length→H'[i]?=H[i]?):=by
 intro k;induction k with
 | zero=>
  intro i hi H least found a s hH a0 a1 hs;have:i=ps.length:=by omega
  subst this;rw [am8]at hs ⊢;simp only [eo,anx]at hs;obtain⟨v,H',J,rfl,hL,hk⟩:=Jl g ps H n least found a s hH a0 a1 hs hn h_;obtain⟨u1,u2,u3,u4⟩:=C4 (n:=n) a0 a1 hn;exact⟨_,H',J,rfl,_,_,hL,fO.one ⟨u1,u2,fun p hp=>absurd hp (List.not_mem_nil)⟩ (fun d hd=>u4 d hd.1 hd.2.1),hk⟩
 | succ k ih=>
  intro i hi H least found a s hH a0 a1 hs;have u:i<ps.length:=by omega
  obtain⟨p,hp⟩:=aN (ps[i]);have i3:p ∈ ps:=hp▸IT u;have L:=hM p i3;obtain⟨f0,f1,p0,p1,j8,-⟩:=a6 L.ok;have b_:ps.drop i=p::ps.drop (i+1):=by rw [hp];exact alr u
  have i4:=qt (l:=ps.drop (i+1)) fun q hq=>hM q (List.mem_of_mem_drop hq);have k_:s*p.aM*eo (ps.drop (i+1))≤1000000:=by
   rw [b_]at hs;simp only [eo,←anc]at hs;exact hs
  have j_:1≤s:=by omega
  have j4:s≤s*p.aM:=by
   have:=alC p0 (show 0≤s by omega);omega
  have j7:s*p.aM≤1000000:=by
   have:=alC i4 (show 0≤s*p.aM by omega);omega
  refine cH rfl rfl fun Q hQ=>?_;have E:=fun H:an=>cR (H:=H) (bD ps) (cQ (l:=ps) (j:=i) u);have m:=fun H:an=>mF (H:=H) (k:=3) (bD ps) (cQ (l:=ps) (j:=i) u) rfl;have B:=fun H:an=>mF (H:=H) (k:=2) (bD ps) (cQ (l:=ps) (j:=i) u) rfl;have A:=fun H:an=>bG (H:=H) (g:=g) (rows:=aK ps) (sz:=4) (k:=.i64) (i:=i) (by omega) (by simpa using u);rw [←hp]at E m B;simp [aI.row]at E A m B;have l4:=aj hH.2.2.2.2;apply ai;simp;have a7:=hH.push [.box [.f (fi a),.f (fi s)] 0];have K:(H++[b7.box [.f (fi a),.f (fi s)] 0])[H.length]?=aa (.box [.f (fi a),.f (fi s)] 0):=by simp
  have c_:∀ i:Nat,5≤i→i<H.length→(H++[b7.box [.f (fi a),.f (fi s)] 0])[i]?=H[i]?:=fun i _ hl=>AT hl;obtain⟨b8,f_⟩:=aN (H.length);rw [←f_]at K ⊢;generalize H++[b7.box [.f (fi a),.f (fi s)] 0]=HH at a7 K c_ ⊢;obtain⟨q,q0⟩:=a7.1;apply au;apply ai;simp [q0];refine av (by simp [u]) ?_;apply au;apply ai;simp [q0,A,m];refine bZ p.bf.length (fun j t H'=>t.g 0=vi i∧t.g 2=.c (.ptr 0 0 0)∧t.g 3=.c (.ptr 4 0 0)∧t.g 8=.c (.ptr b8 0 0)∧t.g 21=.c (.f (sl p.cg (ints p.bf)))∧H'[b8]?=aa (.box [.f (fi a),.f (fi s)] 0) ∧
   ∃ l' U,LH H' g ps n l' U∧fO (fun d=>rW (ps.drop (i+1)) n a s d∧∃ c ∈ p.bf.take j,p.aM ∣ d-gA p c) least found l' U∧∀ x:Nat,5≤x→x<H.length→H'[x]?=H[x]?) (by omega) (by decide) (by decide) (by simp) (by simp)
   ⟨by simp,by simp,by simp,by simp,by simp,K,_,_,a7,fO.none (by simp),c_⟩ ?_ ?_
  ·rintro j t H' hj ⟨g0,g2,g3,g8,O,K,l',U,I,hP,b⟩ ha hb next
   have hm:=rB L (IT hj);obtain⟨i9,i_,-⟩:=pE L hm.1 hm.2;have M:=tx p L p.bf[j] hm.1 hm.2;simp [aI.row]at M;have i8:p.bf.take (j+1)=p.bf.take j++[p.bf[j]]:=by rw [alv,By hj];rfl
   have d9:∀ d,(rW (ps.drop (i+1)) n a s d∧∃ c ∈ p.bf.take (j+1),p.aM ∣ d-gA p c)↔(rW (ps.drop (i+1)) n a s d∧∃ c ∈ p.bf.take j,p.aM ∣ d-gA p c)∨(rW (ps.drop (i+1)) n a s d∧p.aM ∣ d-gA p p.bf[j]):=by
    intro d;rw [i8];simp only [alj,ali];constructor
    ·rintro⟨h,c,hc | rfl,e⟩
     ·exact .inl ⟨h,c,hc,e⟩
     ·exact .inr ⟨h,e⟩
    ·rintro(⟨h,c,hc,e⟩ | ⟨h,e⟩)
     ·exact⟨h,c,.inl hc,e⟩
     ·exact⟨h,_,.inr rfl,e⟩
   obtain⟨a9,e0⟩:=I.1;have e4:=I.2.2.2.2;have j3:=aj K;refine az ?_;apply ai;simp [ha,O,bG,hj,eh];rcases aaN a0 a1 (by omega) i9 i_ L.ai1 with⟨a',N,d_,e_,i6,c9,y⟩ | ⟨a_,y⟩
   ·apply ai;simp [g0,g2,g8,K,e0,A,E,B,M,y];have i7:N*eo (ps.drop (i+1))≤1000000:=by
     have:=anA i6 (show 0≤eo (ps.drop (i+1)) by omega);omega
    obtain⟨v,H2,J,rfl,l2,f2,f7,f8,a8⟩:=ih (i+1) (by omega) (H'++[.box [.f (fi a'),.f (fi N)] 0]) l' U a' N (I.push _) d_ e_ i7;have J:=J.eq;have k4:(H'++[b7.box [.f (fi a'),.f (fi N)] 0])[4]?=aa (.box [.cl 152 [.ptr 0 0 0,.ptr 4 0 0,.ptr 1 0 0,.ptr 2 0 0,.ptr 3 0 0]] 0):=by rw [AT (aj e4)];exact e4
    have kN:(H'++[b7.box [.f (fi a'),.f (fi N)] 0])[H'.length]?=aa (.box [.f (fi a'),.f (fi N)] 0):=by simp
    have kl:(H'++[b7.box [.f (fi a'),.f (fi N)] 0]).length=H'.length+1:=by simp
    have kb:(H'++[b7.box [.f (fi a'),.f (fi N)] 0])[b8]?=aa (.box [.f (fi a),.f (fi s)] 0):=by rw [AT (aj K)];exact K
    have kk:∀ x:Nat,5≤x→x<H.length→(H'++[b7.box [.f (fi a'),.f (fi N)] 0])[x]?=H[x]?:=fun x h5 hx=>by
     rw [AT (by omega)];exact b x h5 hx
    apply au;refine aq (.inl rfl) ?_;simp;generalize H'++[b7.box [.f (fi a'),.f (fi N)] 0]=HA at J k4 kN kl kb kk a8 ⊢;refine av (by simp) ?_;refine aq (.inl rfl) ?_;have g_:IntKind.i64.wrap ((i:Int)+1)=((i+1:Nat):Int):=by rw [aO];rfl
    simp [g0,g3,k4,kN,g_,bX];rw [show(↑i+1:Int)=((i+1:Nat):Int) from rfl];simp only [J];simp;refine ax (next _ _ ?_ (by simp [ha]) (by simp [hb]));refine⟨by simp [g0],by simp [g2],by simp [g3],by simp [g8],by simp [O],?_,l2,f2,f7,?_,?_⟩
    ·rw [a8 b8 (by omega) (by omega)];exact kb
    ·refine fO.trans hP (f8.iff (S':=fun d=>rW (ps.drop (i+1)) n a s d∧p.aM ∣ d-gA p p.bf[j]) fun d=>?_) d9;unfold rW;rw [←c9 d];constructor
     ·rintro⟨⟨W,X,Y⟩,Z⟩;exact⟨W,⟨X,Z⟩,Y⟩
     ·rintro⟨W,⟨X,Z⟩,Y⟩;exact⟨⟨W,X,Y⟩,Z⟩
    ·intro x h5 hx;rw [a8 x h5 (by omega)];exact kk x h5 hx
   ·apply ai;simp [g0,g2,g8,K,e0,A,E,B,M,y];apply au;refine aq (.inl rfl) ?_;simp;refine aW (by simp) ?_;refine ax (next _ _ ?_ (by simp [ha]) (by simp [hb]));refine⟨by simp [g0],by simp [g2],by simp [g3],by simp [g8],by simp [O],?_,l',U,I.push _,fO.trans hP (fO.none (S:=fun d=>rW (ps.drop (i+1)) n a s d∧p.aM ∣ d-gA p p.bf[j]) fun d hd=>a_ d ⟨hd.1.2.1,hd.2⟩) d9,?_⟩
    ·rw [AT (by omega)];exact K
    ·intro x h5 hx;rw [AT (by omega)];exact b x h5 hx
  ·rintro t H' ⟨g0,g2,g3,g8,O,K,l',U,I,hP,b⟩ - -;rw [als]at hP;refine aD (hQ _ _ _ rfl rfl ⟨rfl,l',U,I,hP.iff fun d=>?_,b⟩);rw [b_];unfold rW;simp only [alT,forall_eq_or_imp];constructor
   ·rintro⟨W,X,Y,Z⟩;exact⟨⟨W,X,Z⟩,Y⟩
   ·rintro⟨⟨W,X,Z⟩,Y⟩;exact⟨W,X,Y,Z⟩
theorem vR{p:aI}:∀ {l:List aI},p ∈ l→p.aM ∣ eo l
 | q::l,h=>by
  simp only [eo];rcases alT.1 h with rfl | h
  ·exact ang _ _
  ·exact amy (vR h) (anw _ _)
theorem Jk{p:aI}{d k:Int}(h:jM p d)(g:p.aM ∣ k):jM p (d-k):=by
 obtain⟨c,b,e⟩:=h;refine⟨c,b,?_⟩;have:=amU e g;rwa [show d-gA p c-k=d-k-gA p c by omega]at this
theorem vB{ps:List aI}(g:∀ p ∈ ps,Mod p){m d:Int}(h:∀ p ∈ ps,jM p d)(s:m≤d):∃ d',m≤d'∧d'<m+eo ps∧∀ p ∈ ps,jM p d':=by
 have u:=qt g;have j:=al5 (d-m) (eo ps);have l:=al9 (d-m) (show eo ps≠0 by omega);have q:=al6 (d-m) (show 0<eo ps by omega);refine⟨d-eo ps*((d-m) / eo ps),by omega,by omega,fun p b=>Jk (h p b) (amy (vR b) (ang _ _))⟩
def adD(ps:List aI)(m d:Int):Prop:=m≤d∧(∀ p ∈ ps,jM p d)∧d<m+eo ps∧∀ d',m≤d'→(∀ p ∈ ps,jM p d')→d≤d'
theorem aaF(g:Tg)(ps:List aI)(x:∀ p ∈ ps,Mod p)(L:ps.length≤64)(W:eo ps≤1000000)(n m:Int)(S:m=max n (cJ ps))(I:m≤1000000000000) :
  (∃ d,adD ps m d∧bW tab 108 [.c (.f (sl g (aK ps))),vi n]=Eq (.t [vi d,vb ae])) ∨
  ((∀ d,m≤d→¬ ∀ p ∈ ps,jM p d)∧bW tab 108 [.c (.f (sl g (aK ps))),vi n]=Eq (.t [vi 0,vb ag])):=by
 have s:=VD g ps L;have X:=nD ps;have U:=qt x;obtain⟨v,H',b,rfl,z,O,E,y,-⟩:=aij g ps x L m (by omega) I ps.length 0 (by omega) [.box [.f (sl g (aK ps))] 0,.box [.f (fi m)] 0,.box [.f (fi 1152921504606846976)] 0,.box [.f (.bool ag)] 0,.box [.cl 152 [.ptr 0 0 0,.ptr 4 0 0,.ptr 1 0 0,.ptr 2 0 0,.ptr 3 0 0]] 0]
  1152921504606846976 ag 0 1 ⟨⟨0,rfl⟩,rfl,rfl,rfl,rfl⟩ (by decide) (by decide) (by rw [ama];omega)
 rw [ama]at y;have H:∀ d,rW ps m 0 1 d↔m≤d∧∀ p ∈ ps,jM p d:=fun d=>⟨fun h=>⟨h.1,h.2.2⟩,fun h=>⟨h.1,Int.one_dvd _,h.2⟩⟩
 have j:max n (cJ ps)=m:=S.symm;have b:=b.eq;simp only [show((0:Nat):Int)=0 from rfl]at b;cases O with
 | true=>
  left;have q:rW ps m 0 1 z:=by
   rcases y.src with⟨_,h⟩ | ⟨_,h⟩
   ·cases h
   ·exact h
  have l:∀ d',m≤d'→(∀ p ∈ ps,jM p d')→z≤d':=fun d' A B=>(y.low d' ((H d').2 ⟨A,B⟩)).1;obtain⟨M,N⟩:=(H z).1 q;obtain⟨u,J,Y,K⟩:=vB x N M;refine⟨z,⟨M,N,by have:=l u J K;omega,l⟩,bW.eq (cd rfl rfl fun Q F=>?_)⟩;apply ai;simp;apply ai;simp [s,j];apply ai;simp;apply ai;simp;apply ai;simp;apply ai;simp [bX,b];apply au;apply ai;simp [E.2.2.2.1];refine aW (by simp) ?_;apply ai;simp [E.2.2.1];refine aD (F _ _ ?_);simp
 | false=>
  right;refine⟨fun d A B=>?_,bW.eq (cd rfl rfl fun Q F=>?_)⟩
  ·obtain⟨u,J,Y,K⟩:=vB x B A;have:=(y.low u ((H u).2 ⟨J,K⟩)).2 (by omega);cases this
  ·apply ai;simp;apply ai;simp [s,j];apply ai;simp;apply ai;simp;apply ai;simp;apply ai;simp [bX,b];apply au;apply ai;simp [E.2.2.2.1];refine av (by simp) ?_;apply ai;simp;refine aD (F _ _ ?_);simp
def tU:List (Int × Int)→List aI→Prop
 | _,[]=>True| ch,p::l=>∃ c ∈ p.bf,(∀ x ∈ ch,(amc p.aM x.2:Int) ∣ gA p c-x.1)∧tU (ch++[(gA p c,p.aM)]) l
theorem xB{d:Int}:∀(l:List aI) (ch:List (Int × Int)),(∀ x ∈ ch,x.2 ∣ d-x.1)→(∀ p ∈ l,jM p d)→tU ch l
 | [],_,_,_=>trivial
 | p::l,ch,j,m=>by
  obtain⟨c,g,hd⟩:=m p alo;refine⟨c,g,fun x b=>?_,xB l _ (fun x b=>?_) fun q v=>m q (alq _ v)⟩
  ·have s:=amy (Int.gcd_dvd_right p.aM x.2) (j x b);have u:=amy (ank p.aM x.2) hd;have:=amU s u;rwa [show d-x.1-(d-gA p c)=gA p c-x.1 by omega]at this
  ·rcases alj.1 b with b | b
   ·exact j x b
   ·rw [ali.1 b];exact hd
def RH(H:an)(g:Tg)(ps:List aI)(b:List Int):Prop:=(∃ a,H[0]?=aa (.box [.f (sl g (aK ps))] a))∧H[1]?=aa (.box (b.map fun x=>C.f (fi x)) 0)∧H[2]?=aa (.box [.sl 1 0 ps.length ps.length 0 1] 0) ∧
 H[3]?=aa (.box [.cl 120 [.ptr 0 0 0,.ptr 2 0 0,.ptr 3 0 0]] 0)
def Cho(ps:List aI)(b:List Int)(ch:List (Int × Int)):Prop:=∀ j,(h:j<ch.length)→b[j]?=aa ch[j].1∧(∃ p,ps[j]?=aa p∧p.aM=ch[j].2)∧0≤ch[j].1∧ch[j].1≤1000
theorem aky(g:Tg)(ps:List aI)(hM:∀ p ∈ ps,Mod p)(r_:ps.length≤64) :
  ∀(k i:Nat),i+k=ps.length→∀(H:an) (Y:List Int) (ch:List (Int × Int)),RH H g ps Y→Y.length=ps.length→ch.length=i→Cho ps Y ch →
  ∃ v H',Ev tab (.fn 120) [vi i,.c (.ptr 0 0 0),.c (.ptr 2 0 0),.c (.ptr 3 0 0)] H v H' ∧
   ∃ b,v=vb b∧(b=ae↔tU ch (ps.drop i))∧∃ d,RH H' g ps d∧d.length=ps.length∧d.take i=Y.take i:=by
 intro k;induction k with
 | zero=>
  intro i hi H Y ch hH i7 h_ B;have:i=ps.length:=by omega
  subst this;obtain⟨q,q0⟩:=hH.1;refine cH rfl rfl fun Q hQ=>?_;apply ai;simp;refine kI ?_;apply au;apply ai;simp [q0];refine av (by simp) ?_;apply ai;simp;exact aD (hQ _ _ _ rfl (dz (by simp)) ⟨ae,rfl,by rw [am8];simp [tU],Y,hH,i7,rfl⟩)
 | succ k ih=>
  intro i hi H Y ch hH i7 h_ B;have u:i<ps.length:=by omega
  obtain⟨p,hp⟩:=aN (ps[i]);have p_:p ∈ ps:=hp▸IT u;have M:=hM p p_;obtain⟨f0,f1,p0,p1,r8,-⟩:=a6 M.ok;have o8:ps.drop i=p::ps.drop (i+1):=by rw [hp];exact alr u
  have X:=fun H:an=>cR (H:=H) (bD ps) (cQ (l:=ps) (j:=i) u);have s:=fun H:an=>mF (H:=H) (k:=3) (bD ps) (cQ (l:=ps) (j:=i) u) rfl;have U:=fun H:an=>mF (H:=H) (k:=2) (bD ps) (cQ (l:=ps) (j:=i) u) rfl;have E:=fun H:an=>bG (H:=H) (g:=g) (rows:=aK ps) (sz:=4) (k:=.i64) (i:=i) (by omega) (by simpa using u);rw [←hp]at X s U;simp [aI.row]at X E s U;obtain⟨q,q0⟩:=hH.1;refine cH rfl rfl fun Q hQ=>?_;apply ai;simp;refine kI ?_;apply au;apply ai;simp [q0];refine aF (by simp;omega) (aP ?_);refine au (oU ?_);apply au;apply ai;simp [q0,E,s];obtain⟨Ok,j7⟩:∃ Ok:Int→Prop,Ok=fun c=>(∀ x ∈ ch,(amc p.aM x.2:Int) ∣ gA p c-x.1)∧tU (ch++[(gA p c,p.aM)]) (ps.drop (i+1)):=⟨_,rfl⟩
  have N:∀ c,Ok c↔((∀ x ∈ ch,(amc p.aM x.2:Int) ∣ gA p c-x.1)∧tU (ch++[(gA p c,p.aM)]) (ps.drop (i+1))):=fun c=>by rw [j7]
  have d9:tU ch (ps.drop i)↔∃ c ∈ p.bf,Ok c:=by rw [o8,j7];rfl
  refine bZ p.bf.length (fun j t H'=>t.g 0=vi i∧t.g 1=.c (.ptr 0 0 0)∧t.g 2=.c (.ptr 2 0 0)∧t.g 3=.c (.ptr 3 0 0)∧t.g 18=.c (.f (sl p.cg (ints p.bf))) ∧
   (∀ c ∈ p.bf.take j,¬ Ok c)∧∃ d,RH H' g ps d∧d.length=ps.length∧d.take i=Y.take i) (by omega) (by decide) (by decide) (by simp) (by simp) ⟨by simp,by simp,by simp,by simp,by simp,by simp,Y,hH,i7,rfl⟩ ?_ ?_
  ·rintro j t H' hj ⟨L,g1,g2,g3,m,c_,d,hR,I,J⟩ ha hb next
   have hm:=rB M (IT hj);obtain⟨o4,r7,-⟩:=pE M hm.1 hm.2;have W:=tx p M p.bf[j] hm.1 hm.2;simp [aI.row]at W;have s7:=M.ai1;have n_:p.bf.take (j+1)=p.bf.take j++[p.bf[j]]:=by rw [alv,By hj];rfl
   have e_:¬ Ok p.bf[j]→∀ c ∈ p.bf.take (j+1),¬ Ok c:=by
    intro h c hc;rw [n_,alj,ali]at hc;rcases hc with hc | rfl
    ·exact c_ c hc
    ·exact h
   obtain⟨r,hr⟩:=aN (gA p p.bf[j]);rw [←hr]at o4 r7 W;obtain⟨q',j3⟩:=hR.1;have Z:=hR.2.1;have j4:=hR.2.2.1;have q_:=hR.2.2.2;have d_:∀ j,(h:j<ch.length)→d[j]?=aa ch[j].1:=fun j h=>by
    have h1:(d.take i)[j]?=d[j]?:=List.getElem?_take_of_lt (by omega);have h2:(Y.take i)[j]?=Y[j]?:=List.getElem?_take_of_lt (by omega);rw [←h1,J,h2];exact(B j h).1
   refine az ?_;apply ai;simp [ha,m,bG,hj,eh];apply ai;simp [L,g1,j3,E,X,W];apply au;apply ai;simp [L];refine bZ i (fun n t H2=>(t.g 0=vi i∧t.g 1=.c (.ptr 0 0 0)∧t.g 2=.c (.ptr 2 0 0)∧t.g 3=.c (.ptr 3 0 0)∧t.g 18=.c (.f (sl p.cg (ints p.bf)))∧t.g 20=vi j∧t.g 19=vi p.bf.length∧t.g 8=vi r)∧H2=H'∧∀ x ∈ ch.take n,(amc p.aM x.2:Int) ∣ r-x.1)
    (by omega) (by decide) (by decide) (by simp) (by simp) ⟨⟨by simp [L],by simp [g1],by simp [g2],by simp [g3],by simp [m],by simp [ha],by simp [hb],by simp⟩,rfl,by simp⟩ ?_ ?_
   ·rintro n t H2 hn ⟨⟨L,g1,g2,g3,m,a8,a7,g8⟩,f_,A⟩ j9 o7 nx;rw [f_];have c9:n<ps.length:=by omega
    have b_:n<ch.length:=by omega
    obtain⟨-,⟨pn,n8,i8⟩,x0,x1⟩:=B n b_;have i6:=d_ n b_;obtain⟨x,hx⟩:=aN (ch[n]);rw [←hx]at i6 i8 x0 x1;have f7:ps[n]=pn:=by rw [By c9]at n8;exact amP n8
    have o6:=hM pn (f7▸IT c9);obtain⟨-,-,z0,z1,-⟩:=a6 o6.ok;rw [i8]at z0 z1;have z:=fun H:an=>mF (H:=H) (k:=2) (bD ps) (cQ (l:=ps) (j:=n) c9) rfl;have O:=fun H:an=>bG (H:=H) (g:=g) (rows:=aK ps) (sz:=4) (k:=.i64) (i:=n) (by omega) (by simpa using c9);rw [f7]at z;simp [aI.row,i8]at z O;have S:bB H' 1 ab (.c (.sl 1 0 ps.length ps.length 0 1)) (vi n)=aa (.c (.ptr 1 n 0)):=by
     simp [bB,gj,Z,I];omega
    have m9:aX H' ab (.c (.ptr 1 n 0))=aa (vi x.1):=by
     have hd:(d.map fun y=>C.f (fi y)).drop n=C.f (fi x.1) ::(d.map fun y=>C.f (fi y)).drop (n+1):=by
      rw [alr (by simp;omega),amK];rw [By (by omega)]at i6;rw [amP i6]
     simp only [aX,aH,Z,Option.bind_some];rw [hd];rfl
    have p9:aX H' ab (.c (.ptr 2 0 0))=aa (.c (.sl 1 0 ps.length ps.length 0 1)):=by simp [j4]
    have p8:aX H' ab (.c (.ptr 0 0 0))=aa (.c (.f (sl g (aK ps)))):=by simp [j3]
    obtain⟨gg,i4⟩:=aN ((amc p.aM x.2:Int):Int);have o9:amc p.aM x.2=amT p.aM.toNat x.2.toNat:=by
     show amT p.aM.natAbs x.2.natAbs=_;rw [show p.aM.natAbs=p.aM.toNat by omega,show x.2.natAbs=x.2.toNat by omega]
    have r9:0<gg:=by
     have:=amq x.2 (show p.aM≠0 by omega);omega
    have k_:bW tab 122 [vi p.aM,vi x.2]=Eq (vi gg):=by
     have h:=wL (a:=p.aM.toNat) (b:=x.2.toNat) (by omega) (by omega);rw [show((p.aM.toNat:Nat):Int)=p.aM by omega,show((x.2.toNat:Nat):Int)=x.2 by omega,←o9,←i4]at h;exact h
    have o5:=aO (n:=r-x.1);have n9:bP .rem (vi (r-x.1)) (vi gg)=aa (vi ((r-x.1).tmod gg)):=gV (by omega);have F:ch.take (n+1)=ch.take n++[x]:=by rw [alv,By b_,hx];rfl
    refine az ?_;apply ai;simp [j9];apply ai;simp [L,g1,g2,g8,p8,p9,S,m9,E,U,O,z,k_,o5,n9,-ay];by_cases hd:gg ∣ r-x.1
    ·have i9:(r-x.1).tmod gg=0:=Int.tmod_eq_zero_of_dvd hd;refine aW (by simp [i9]) ?_;refine ax (nx _ _ ?_ (by simp [j9]) (by simp [o7]));refine⟨⟨by simp [L],by simp [g1],by simp [g2],by simp [g3],by simp [m],by simp [a8],by simp [a7],by simp [g8]⟩,rfl,fun y hy=>?_⟩;rw [F,alj,ali]at hy;rcases hy with hy | rfl
     ·exact A y hy
     ·rw [←i4];exact hd
    ·have i9:¬ (r-x.1).tmod gg=0:=fun e=>hd (Int.dvd_of_tmod_eq_zero e);refine av (by simp [i9]) ?_;refine bg rfl (next _ _ ?_ (by simp [a8]) (by simp [a7]));refine⟨by simp [L],by simp [g1],by simp [g2],by simp [g3],by simp [m],e_ ?_,d,hR,I,J⟩;rw [N];rintro⟨h,-⟩;have:=h x (hx▸IT b_);rw [←i4,←hr]at this;exact hd this
   ·rintro t H2 ⟨⟨L,g1,g2,g3,m,a8,a7,g8⟩,f_,A⟩ - -;rw [f_];rw [alw (by omega)]at A;have S:bB H' 1 ab (.c (.sl 1 0 ps.length ps.length 0 1)) (vi i)=aa (.c (.ptr 1 i 0)):=by
     simp [bB,gj,Z,I];omega
    have f8:dr H' (.ptr 1 i 0) [.f (fi r)]=aa (H'.set 1 (.box ((d.set i r).map fun y=>C.f (fi y)) 0)):=by
     simp only [dr,Z];rw [ba (by simp;omega),tp (by simp;omega),List.map_set]
    have n6:(H'.set 1 (.box ((d.set i r).map fun y=>C.f (fi y)) 0))[3]?=H'[3]?:=sh (by decide);have m_:=aj Z;have g_:RH (H'.set 1 (.box ((d.set i r).map fun y=>C.f (fi y)) 0)) g ps (d.set i r):=by
     refine⟨⟨q',?_⟩,BY m_,?_,?_⟩
     ·rw [sh (by decide)];exact j3
     ·rw [sh (by decide)];exact j4
     ·rw [n6];exact q_
    have i3:Cho ps (d.set i r) (ch++[(r,p.aM)]):=by
     intro y hy;rw [alg,List.length_singleton]at hy;by_cases i_:y<ch.length
     ·rw [List.getElem_append_left i_,sh (by omega)];obtain⟨-,h2,h3⟩:=B y i_;exact⟨d_ y i_,h2,h3⟩
     ·have:y=i:=by omega
      subst this;rw [List.getElem_append_right (by omega)];simp only [h_,Nat.sub_self,List.getElem_cons_zero];refine⟨by rw [BY (by omega)],⟨p,by rw [By u,hp],rfl⟩,o4,by omega⟩
    obtain⟨v,H3,a_,b,rfl,j_,K,j8,l_,F⟩:=ih (i+1) (by omega) _ _ (ch++[(r,p.aM)]) g_ (by simpa using I) (by simp [h_]) i3;have a_:=a_.eq;have o0:=g_.2.2.2;generalize H'.set 1 (.box ((d.set i r).map fun y=>C.f (fi y)) 0)=HN at f8 a_ o0 n6 g_;have o_:IntKind.i64.wrap ((i:Int)+1)=((i+1:Nat):Int):=by rw [aO];rfl
    apply ai;simp [L,g2,g8,j4,S,f8,-bw];apply ai;simp [L,g3,o0,o_,bX];rw [show(↑i+1:Int)=((i+1:Nat):Int) from rfl];simp only [a_];simp;cases b with
    | true=>
     refine av (by simp) ?_;apply ai;simp;refine aD (hQ _ _ _ rfl (dz (by simp)) ⟨ae,rfl,?_,K,j8,l_,?_⟩)
     ·rw [d9];refine⟨fun _=>⟨_,IT hj,?_⟩,fun _=>rfl⟩;rw [N,←hr];exact⟨A,j_.1 rfl⟩
     ·have h1:(K.take (i+1)).take i=K.take i:=by rw [am6,Nat.min_eq_left (by omega)]
      rw [←h1,F,am6,Nat.min_eq_left (by omega),List.take_set_of_le (by omega),J]
    | false=>
     refine aW (by simp) ?_;refine ax (next _ _ ?_ (by simp [a8]) (by simp [a7]));refine⟨by simp [L],by simp [g1],by simp [g2],by simp [g3],by simp [m],e_ ?_,K,j8,l_,?_⟩
     ·rw [N,←hr];rintro⟨-,h⟩;have:=j_.2 h;cases this
     ·have h1:(K.take (i+1)).take i=K.take i:=by rw [am6,Nat.min_eq_left (by omega)]
      rw [←h1,F,am6,Nat.min_eq_left (by omega),List.take_set_of_le (by omega),J]
  ·rintro t H' ⟨L,g1,g2,g3,m,c_,d,hR,I,J⟩ - -;rw [als]at c_;apply ai;simp;refine aD (hQ _ _ _ rfl (dz (by simp)) ⟨ag,rfl,?_,d,hR,I,J⟩);rw [d9];constructor
   ·intro h;cases h
   ·rintro⟨c,hc,h⟩;exact absurd h (c_ c hc)
theorem dG{n b:Nat}(g:n≤1100000)(d:b≤4096):cN n b=ae:=by
 have h:(2*n+768)*b≤2200768*4096:=Nat.mul_le_mul (by omega) d;simp [cN];omega
theorem vT(g:Tg)(ps:List aI)(u:∀ p ∈ ps,Mod p)(z:1≤ps.length)(y:ps.length≤64):∃ b,(b=ae↔tU [] ps)∧bW tab 78 [.c (.f (sl g (aK ps)))]=Eq (vb b):=by
 have m:RH [.box [.f (sl g (aK ps))] 0,.box (List.replicate ps.length (C.f (fi 0))) 0,.box [.sl 1 0 ps.length ps.length 0 1] 0,.box [.cl 120 [.ptr 0 0 0,.ptr 2 0 0,.ptr 3 0 0]] 0] g ps (List.replicate ps.length 0):=by
  refine⟨⟨0,rfl⟩,?_,rfl,rfl⟩;simp
 obtain⟨v,H',d,b,rfl,s,-⟩:=aky g ps u y ps.length 0 (by omega) _ _ [] m (by simp) rfl (fun j h=>absurd h (Nat.not_lt_zero j));rw [ama]at s;have d:=d.eq;simp only [show((0:Nat):Int)=0 from rfl]at d;refine⟨b,s,bW.eq (cd rfl rfl fun Q x=>?_)⟩;apply ai;simp;have l:cN ps.length 8=ae:=dG (by omega) (by decide);have q:∀(t:T) (H:an),t.g 6=vi ps.length→bE t H (.dM 1 8 [.int .i64 0] (R 6) (R 6))=aa (.c (.sl H.length 0 ps.length ps.length 0 1),H++[.box (List.replicate ps.length (C.f (fi 0))) 0]):=by
  intro t H h;have e:(cM ps.length [fi 0]).map C.f=List.replicate ps.length (C.f (fi 0)):=by simp [cM]
  simp only [bE,rj,h,gj];rw [ba ⟨by omega,amJ _,by simpa using l,rfl⟩];rw [aS (by omega),alG,e]
 apply ai;simp [q];apply ai;simp;apply ai;simp;apply ai;simp [bX,d];refine aD (x _ _ ?_);simp
def ew(S:Int→Prop)(l:Int)(f:Bool):Prop:=(f=ag∧l=0∧∀ d,¬ S d)∨(f=ae∧S l∧∀ d,S d→l≤d)
theorem ew.iff{S S':Int→Prop}{l:Int}{f:Bool}(h:ew S l f)(g:∀ d,S' d↔S d):ew S' l f:=by
 rcases h with⟨a,b,c⟩ | ⟨a,b,c⟩
 ·exact .inl ⟨a,b,fun d hd=>c d ((g d).1 hd)⟩
 ·exact .inr ⟨a,(g _).2 b,fun d hd=>c d ((g d).1 hd)⟩
theorem ew.step{S S':Int→Prop}{l x:Int}{f:Bool}(h:ew S l f)(g:∀ d,S' d↔S d∨d=x):ew S' (if f=ag∨x<l then x else l) ae:=by
 right;rcases h with⟨rfl,rfl,c⟩ | ⟨rfl,b,c⟩
 ·refine⟨rfl,by simpa using (g x).2 (.inr rfl),fun d hd=>?_⟩;rcases(g d).1 hd with h | rfl
  ·exact absurd h (c d)
  ·simp
 ·refine⟨rfl,?_,fun d hd=>?_⟩
  ·by_cases k:x<l
   ·simpa [k]using (g x).2 (.inr rfl)
   ·simpa [k]using (g l).2 (.inl b)
  ·rcases(g d).1 hd with h | rfl
   ·have:=c d h;by_cases k:x<l<;>simp [k]<;>omega
   ·by_cases k:d<l<;>simp [k];omega
def iW(ps:List aI)(n:Int)(l:List aI)(d:Int):Prop:=n≤d∧tZ ps d=ae∧∃ p ∈ l,d ∈ p.head
theorem zg(g:Tg)(ps:List aI)(hP:∀ p ∈ ps,cF p=ae)(hl:ps.length≤64)(n:Int):∃ e f,ew (iW ps n ps) e f∧bW tab 107 [.c (.f (sl g (aK ps))),vi n]=Eq (.t [vi e,vb f]):=by
 have key:∃ r,(∃ e f,ew (iW ps n ps) e f∧r=.t [vi e,vb f])∧bW tab 107 [.c (.f (sl g (aK ps))),vi n] r:=by
  refine eQ rfl rfl fun Q hQ=>?_;apply ai;simp;apply ai;simp;apply au;apply ai;simp;refine bZ ps.length (fun j t H'=>t.g 0=.c (.f (sl g (aK ps)))∧t.g 1=vi n∧t.g 12=.c (.f (sl g (aK ps)))∧∃ e f,t.g 6=vi e∧t.g 7=vb f∧ew (iW ps n (ps.take j)) e f) (by omega) (by decide) (by decide) (by simp) (by simp)
   ⟨by simp,by simp,by simp,0,ag,by simp,by simp,.inl ⟨rfl,rfl,fun d hd=>by obtain⟨_,_,p,hp,_⟩:=hd;simp at hp⟩⟩ ?_ ?_
  ·rintro j t H hj ⟨s,u,b,e,f,B,E,N⟩ ha hb next
   obtain⟨p,hp⟩:=aN (ps[j]);have b_:p ∈ ps:=hp▸IT hj;obtain⟨f0,f1,p0,p1,g_,-,a8,-⟩:=a6 (hP p b_);have O:=fun H:an=>cR (H:=H) (bD ps) (cQ (l:=ps) (j:=j) hj);have W:=fun H:an=>bG (H:=H) (g:=g) (rows:=aK ps) (sz:=4) (k:=.i64) (i:=j) (by omega) (by simpa using hj);rw [←hp]at O;simp [aI.row]at O W;have c9:ps.take (j+1)=ps.take j++[p]:=by rw [alv,By hj,hp];rfl
   refine az ?_;apply ai;simp [b,ha,W,O];apply ai;simp;refine bZ p.head.length (fun i t H'=>t.g 0=.c (.f (sl g (aK ps)))∧t.g 1=vi n∧t.g 12=.c (.f (sl g (aK ps)))∧t.g 14=vi j∧t.g 13=vi ps.length∧t.g 19=.c (.f (sl p.hg (ints p.head))) ∧
    ∃ e f,t.g 6=vi e∧t.g 7=vb f∧ew (fun d=>iW ps n (ps.take j) d∨(n≤d∧tZ ps d=ae∧d ∈ p.head.take i)) e f) (by omega) (by decide) (by decide) (by simp) (by simp)
    ⟨by simp [s],by simp [u],by simp [b],by simp [ha],by simp [hb],by simp,e,f,by simp [B],by simp [E],N.iff fun d=>by simp⟩ ?_ ?_
   ·rintro i t H hi ⟨s,u,b,y,v,z,e,f,B,E,N⟩ K M nx;obtain⟨x,hx⟩:=aN (p.head[i]);have c_:x ∈ p.head:=hx▸IT hi;have h_:=a8 x c_;have a7:=fun H:an=>eh (H:=H) hi;rw [←hx]at a7;have A:=(acd g ps (by omega) hP x (by unfold Day;omega)).eq;have X:p.head.take (i+1)=p.head.take i++[x]:=by rw [alv,By hi,hx];rfl
    refine az ?_;apply ai;simp [K,z,bG,hi,a7];have bu:¬ (n≤x∧tZ ps x=ae)→ew (fun d=>iW ps n (ps.take j) d∨(n≤d∧tZ ps d=ae∧d ∈ p.head.take (i+1))) e f:=fun a_=>N.iff fun d=>by
     rw [X,alj,ali];constructor
     ·rintro(h | ⟨F,I,J | rfl⟩)
      ·exact .inl h
      ·exact .inr ⟨F,I,J⟩
      ·exact absurd ⟨F,I⟩ a_
     ·rintro(h | ⟨F,I,J⟩)
      ·exact .inl h
      ·exact .inr ⟨F,I,.inl J⟩
    have S:(n≤x∧tZ ps x=ae)→ew (fun d=>iW ps n (ps.take j) d∨(n≤d∧tZ ps d=ae∧d ∈ p.head.take (i+1))) (if f=ag∨x<e then x else e) ae:=fun Y=>N.step fun d=>by
     rw [X,alj,ali];constructor
     ·rintro(h | ⟨F,I,J | rfl⟩)
      ·exact .inl (.inl h)
      ·exact .inl (.inr ⟨F,I,J⟩)
      ·exact .inr rfl
     ·rintro((h | ⟨F,I,J⟩) | rfl)
      ·exact .inl h
      ·exact .inr ⟨F,I,.inl J⟩
      ·exact .inr ⟨Y.1,Y.2,.inr rfl⟩
    have L:∀(t:T) (H:an) (e':Int) (f':Bool),t.g 0=.c (.f (sl g (aK ps)))→t.g 1=vi n→t.g 12=.c (.f (sl g (aK ps)))→t.g 14=vi j→t.g 13=vi ps.length→t.g 19=.c (.f (sl p.hg (ints p.head)))→t.g 21=vi i→t.g 20=vi p.head.length→t.g 6=vi e'→t.g 7=vb f'→ew (fun d=>iW ps n (ps.take j) d∨(n≤d∧tZ ps d=ae∧d ∈ p.head.take (i+1))) e' f' →
      WP tab 107 ab [.code yw,.inLoop yv,.inBlock 2,.inBlock 1,.code yx,.inLoop BJ,.inBlock 0,.code yy] ⟨t,[],H⟩ Q:=by
     intro t H e' f' q0 q1 d9 e_ d_ f7 f_ f8 q6 q7 qm;refine nx _ _ ?_ f_ f8;exact⟨by simp [q0],by simp [q1],by simp [d9],by simp [e_],by simp [d_],by simp [f7],e',f',by simp [q6],by simp [q7],qm⟩
    by_cases U:n≤x
    ·cases f with
     | false=>
      cases m:tZ ps x with
      | false=>
       rw [m]at A;apply ai;simp [s,u,B,E,U,A];refine aF (by simp) (aP (ax ?_));exact L _ _ e ag (by simp [s]) (by simp [u]) (by simp [b]) (by simp [y]) (by simp [v]) (by simp [z]) (by simp [K]) (by simp [M]) (by simp [B]) (by simp [E]) (bu (by simp [m]))
      | true=>
       rw [m]at A;apply ai;simp [s,u,B,E,U,A];refine av (by simp) (aq (.inl rfl) ?_);simp;refine ax ?_;exact L _ _ x ae (by simp [s]) (by simp [u]) (by simp [b]) (by simp [y]) (by simp [v]) (by simp [z]) (by simp [K]) (by simp [M]) (by simp) (by simp) (by have:=S ⟨U,m⟩;simpa using this)
     | true=>
      by_cases c2:x<e
      ·cases m:tZ ps x with
       | false=>
        rw [m]at A;apply ai;simp [s,u,B,E,U,c2,A];refine aF (by simp) (aP (ax ?_));exact L _ _ e ae (by simp [s]) (by simp [u]) (by simp [b]) (by simp [y]) (by simp [v]) (by simp [z]) (by simp [K]) (by simp [M]) (by simp [B]) (by simp [E]) (bu (by simp [m]))
       | true=>
        rw [m]at A;apply ai;simp [s,u,B,E,U,c2,A];refine av (by simp) (aq (.inl rfl) ?_);simp;refine ax ?_;exact L _ _ x ae (by simp [s]) (by simp [u]) (by simp [b]) (by simp [y]) (by simp [v]) (by simp [z]) (by simp [K]) (by simp [M]) (by simp) (by simp) (by have:=S ⟨U,m⟩;simpa [c2]using this)
      ·apply ai;simp [s,u,B,E,U,c2];refine aF (by simp) (aP (ax ?_));refine L _ _ e ae (by simp [s]) (by simp [u]) (by simp [b]) (by simp [y]) (by simp [v]) (by simp [z]) (by simp [K]) (by simp [M]) (by simp [B]) (by simp [E]) ?_;cases m:tZ ps x with
       | false=>exact bu (by simp [m])
       | true=>have:=S ⟨U,m⟩;simpa [c2]using this
    ·apply ai;simp [s,u,B,E,U];refine aF (by simp) (aP (ax ?_));exact L _ _ e f (by simp [s]) (by simp [u]) (by simp [b]) (by simp [y]) (by simp [v]) (by simp [z]) (by simp [K]) (by simp [M]) (by simp [B]) (by simp [E]) (bu fun h=>U h.1)
   ·rintro t H ⟨s,u,b,y,v,z,e,f,B,E,N⟩ - -;rw [als]at N;refine ax (next _ _ ?_ (by simp [y]) (by simp [v]));refine⟨by simp [s],by simp [u],by simp [b],e,f,by simp [B],by simp [E],N.iff fun d=>?_⟩;unfold iW;rw [c9];constructor
    ·rintro⟨F,I,q,Z,J⟩;rcases alj.1 Z with Z | Z
     ·exact .inl ⟨F,I,q,Z,J⟩
     ·rw [ali.1 Z]at J;exact .inr ⟨F,I,J⟩
    ·rintro(⟨F,I,q,Z,J⟩ | ⟨F,I,J⟩)
     ·exact⟨F,I,q,alQ _ Z,J⟩
     ·exact⟨F,I,p,amt _ (ali.2 rfl),J⟩
  ·rintro t H ⟨s,u,b,e,f,B,E,N⟩ ha hb;rw [als]at N;apply ai;simp [B,E];refine aD (hQ _ _ _ ⟨e,f,N,rfl⟩ ?_);simp
 obtain⟨r,⟨e,f,N,rfl⟩,h⟩:=key;exact⟨e,f,N,h.eq⟩
structure lW(ps:List aI):Prop where
 l1:1≤ps.length
 l2:ps.length≤64
 mod:∀ p ∈ ps,Mod p
 prod:eo ps≤1000000
 st:cJ ps≤1000000000000
theorem lW.aM{ps:List aI}(h:lW ps):∀ p ∈ ps,cF p=ae:=fun p b=>(h.mod p b).ok
def Iq(ps:List aI)(n x:Int):Prop:=n≤x∧tZ ps x=ae
theorem iC{ps:List aI}{x:Int}(b:0≤x):tZ ps x=ae↔∀ p ∈ ps,bK p x=ae:=by
 simp [tZ,hasB,b]
theorem qA{x:Int}:∀ {l:List aI},0≤x→x<cJ l→∃ p ∈ l,x<p.fr
 | [],b,h=>by simp only [cJ]at h;omega
 | q::l,b,h=>by
  simp only [cJ]at h;by_cases k:x<q.fr
  ·exact⟨q,alo,k⟩
  ·obtain⟨p,d,e⟩:=qA (x:=x) (l:=l) b (by omega);exact⟨p,alq _ d,e⟩
theorem zt{ps:List aI}(h:lW ps){n x:Int}(l:0≤n)(m:cJ ps≤x):Iq ps n x↔max n (cJ ps)≤x∧∀ p ∈ ps,jM p x:=by
 have j:=nD ps;unfold Iq;rw [iC (by omega)];constructor
 ·rintro⟨g,d⟩;exact⟨by omega,fun p b=>(sY (h.mod p b) (by have:=nC b;omega)).1 (d p b)⟩
 ·rintro⟨g,d⟩;exact⟨by omega,fun p b=>(sY (h.mod p b) (by have:=nC b;omega)).2 (d p b)⟩
theorem C3(g:Tg)(ps:List aI)(h:lW ps)(n:Int)(J:0≤n)(W:n≤1000000000000):∃ d f q z,ew (Iq ps n) d f∧(0≤d∧d≤1000001000000) ∧
  bW tab 107 [.c (.f (sl g (aK ps))),vi n]=Eq (.t [vi q,vb z]) ∧
  ((z=ae∧d=q∧f=ae)∨(z=ag∧q=0∧∃ b,bW tab 78 [.c (.f (sl g (aK ps)))]=Eq (vb b)∧((b=ag∧d=0∧f=ag)∨(b=ae∧bW tab 108 [.c (.f (sl g (aK ps))),vi n]=Eq (.t [vi d,vb f]))))):=by
 obtain⟨q,z,U,A⟩:=zg g ps h.aM h.l2 n;have Y:=nD ps;have Z:=h.st;have X:=h.prod;have u:∀ x,Iq ps n x→x<cJ ps→iW ps n ps x:=by
  rintro x ⟨N,H⟩ l;obtain⟨p,y,S⟩:=qA (by omega) l;refine⟨N,H,p,y,?_⟩;have:=(iC (by omega)).1 H p y;unfold bK at this;rw [aS (by omega),decide_eq_true_eq]at this;exact this
 rcases U with⟨rfl,rfl,F⟩ | ⟨rfl,O,v⟩
 ·have B:∀ x,Iq ps n x→cJ ps≤x:=fun x l=>by
   rcases amw x (cJ ps)with k | k
   ·exact absurd (u x l k) (F x)
   ·exact k
  have j:∀ x,Iq ps n x↔max n (cJ ps)≤x∧∀ p ∈ ps,jM p x:=fun x=>by
   constructor
   ·intro l;exact(zt h J (B x l)).1 l
   ·intro l;exact(zt h J (by omega)).2 l
  obtain⟨b,I,m⟩:=vT g ps h.mod h.l1 h.l2;cases b with
  | false=>
   refine⟨0,ag,0,ag,.inl ⟨rfl,rfl,fun x l=>?_⟩,⟨by omega,by omega⟩,A,.inr ⟨rfl,rfl,ag,m,.inl ⟨rfl,rfl,rfl⟩⟩⟩;have:=I.2 (xB (d:=x) ps [] (by simp) ((j x).1 l).2);cases this
  | true=>
   rcases aaF g ps h.mod h.l2 h.prod n _ rfl (by omega)with⟨d,⟨K,L,d3,M⟩,E⟩ | ⟨s,E⟩
   ·exact⟨d,ae,0,ag,.inr ⟨rfl,(j d).2 ⟨K,L⟩,fun x l=>M x ((j x).1 l).1 ((j x).1 l).2⟩,⟨by omega,by omega⟩,A,.inr ⟨rfl,rfl,ae,m,.inr ⟨rfl,E⟩⟩⟩
   ·exact⟨0,ag,0,ag,.inl ⟨rfl,rfl,fun x l=>s x ((j x).1 l).1 ((j x).1 l).2⟩,⟨by omega,by omega⟩,A,.inr ⟨rfl,rfl,ae,m,.inr ⟨rfl,E⟩⟩⟩
 ·obtain⟨s1,s2,p,y,Q⟩:=O;have I:=(a6 (h.aM p y)).2.2.2.2.2.2.1 q Q;have:=nC y;refine⟨q,ae,q,ae,.inr ⟨rfl,⟨s1,s2⟩,fun x l=>?_⟩,⟨by omega,by omega⟩,A,.inl ⟨rfl,rfl,rfl⟩⟩;rcases amw x (cJ ps)with k | k
  ·exact v x (u x l k)
  ·omega
theorem ew.join{S m q:Int→Prop}{l x:Int}{f j:Bool}(h1:ew m l f)(h2:ew q x j)(g:∀ d,S d↔m d∨q d):ew S (if j=ae∧(f=ag∨x<l)then x else l) (f||j):=by
 rcases h1 with⟨rfl,rfl,a⟩ | ⟨rfl,a,b⟩<;>rcases h2 with⟨rfl,rfl,c⟩ | ⟨rfl,c,e⟩
 ·refine .inl ⟨rfl,by simp,fun d hd=>?_⟩;rcases(g d).1 hd with h | h
  ·exact a d h
  ·exact c d h
 ·refine .inr ⟨rfl,by simpa using (g x).2 (.inr c),fun d hd=>?_⟩;rcases(g d).1 hd with h | h
  ·exact absurd h (a d)
  ·simpa using e d h
 ·refine .inr ⟨rfl,by simpa using (g l).2 (.inl a),fun d hd=>?_⟩;rcases(g d).1 hd with h | h
  ·simpa using b d h
  ·exact absurd h (c d)
 ·refine .inr ⟨rfl,?_,fun d hd=>?_⟩
  ·by_cases k:x<l
   ·simpa [k]using (g x).2 (.inr c)
   ·simpa [k]using (g l).2 (.inl a)
  ·rcases(g d).1 hd with h | h
   ·have:=b d h;by_cases k:x<l<;>simp [k]<;>omega
   ·have:=e d h;by_cases k:x<l<;>simp [k]<;>omega
def QH(H:an)(n b:Int)(found:Bool):Prop:=H[0]?=aa (.box [.f (fi n)] 0)∧H[1]?=aa (.box [.f (fi b)] 0)∧H[2]?=aa (.box [.f (.bool found)] 0)∧H[3]?=aa (.fg ae) ∧
 ∃ s:T,H[4]?=aa (.lp 69 s [P.nat 12] bT bI .ready ab 3)∧s.g 3=.c (.ptr 0 0 0)∧s.g 6=.c (.ptr 1 0 0)∧s.g 7=.c (.ptr 2 0 0)
theorem zz(g:Tg)(ps:List aI)(h:lW ps)(n:Int)(hn:0≤n)(a8:n≤1000000000000):∃ d f,ew (Iq ps n) d f∧(0≤d∧d≤1000001000000)∧∀ H j found,QH H n j found →
  ∃ r H',Ev tab (.yield 4) [.c (.f (sl g (aK ps)))] H r H'∧(r=vb ae∧QH H' n (if f=ae∧(found=ag∨d<j)then d else j) (found||f)):=by
 obtain⟨d,f,e0,f0,hm,hd,he,Y⟩:=C3 g ps h n hn a8;refine⟨d,f,hm,hd,?_⟩;rintro H j found ⟨h0,h1,h2,h3,s,X,v,J,K⟩;refine ea (tab:=tab) (b:=4) X rfl fun W L=>?_;have a7:=aj X;have E:∀(t:T) (l:an),l[0]?=aa (.box [.f (fi n)] 0)→l[1]?=aa (.box [.f (fi j)] 0)→l[2]?=aa (.box [.f (.bool found)] 0)→l[3]?=aa (.fg ae)→l[4]?=aa (.lp 69 s [P.nat 12] bT bI .busy ab 3) →
   t.g 3=.c (.ptr 0 0 0)→t.g 6=.c (.ptr 1 0 0)→t.g 7=.c (.ptr 2 0 0)→t.g 9=vi d→t.g 10=vb f→WP tab 69 (aa 4) [.code rL,.inBlock 1] ⟨t,[],l⟩ W:=by
  rintro t l q0 N A q3 U e3 F y I u;have l1:=aj N;have l2:=aj A;have bu:(f=ae∧(found=ag∨d<j)→False)→QH (l.set 4 (.lp 69 s [P.nat 12] bT bI .ready ab 3)) n (if f=ae∧(found=ag∨d<j)then d else j) (found||f):=by
   intro x;have Z:(found||f)=found:=by
    cases f<;>cases found<;>simp at x ⊢
   rw [aS x,Z];exact⟨by rw [sh (by decide)];exact q0,by rw [sh (by decide)];exact N,by rw [sh (by decide)];exact A,by rw [sh (by decide)];exact q3,s,BY (aj U),v,J,K⟩
  have a_:(l.set 1 (.box [.f (fi d)] 0))[2]?=aa (.box [.f (.bool found)] 0):=by rw [sh (by decide)];exact A
  have M:(f=ae∧(found=ag∨d<j))→QH (((l.set 1 (.box [.f (fi d)] 0)).set 2 (.box [.f (.bool ae)] 0)).set 4 (.lp 69 s [P.nat 12] bT bI .ready ab 3)) n (if f=ae∧(found=ag∨d<j)then d else j) (found||f):=by
   intro m;have Z:(found||f)=ae:=by rw [m.1];simp
   rw [ba m,Z];refine⟨?_,?_,?_,?_,s,BY (by simp;exact aj U),v,J,K⟩
   ·rw [sh (by decide),sh (by decide),sh (by decide)];exact q0
   ·rw [sh (by decide),sh (by decide),BY l1]
   ·rw [sh (by decide),BY (by simpa using l2)]
   ·rw [sh (by decide),sh (by decide),sh (by decide)];exact q3
  have done:∀ B:T,(f=ae∧(found=ag∨d<j)→False)→WP tab 69 (aa 4) [.inBlock 1] ⟨B,[],l⟩ W:=by
   intro B x;refine ax (cU (L _ _ _ _ _ _ _ _ _ _ rfl U ⟨rfl,?_⟩));have:=bu x;rw [show(l.set 4 (.lp 69 s [P.nat 12] bT bI .ready ab 3))=l.set 4 (.lp 69 s [P.nat 12] bT bI (if(ab:Option aw).isNone=ae then .ready else .done) ab 3) from rfl]at this;exact this
  have q:∀ B:T,B.g 6=.c (.ptr 1 0 0)→B.g 7=.c (.ptr 2 0 0)→B.g 9=vi d→(f=ae∧(found=ag∨d<j))→WP tab 69 (aa 4) [.code rM,.inBlock 1] ⟨B,[],l⟩ W:=by
   intro B F y I m;refine aq (.inr rfl) ?_;simp [F,y,I,N,A,a_];refine ax (cU (L _ _ _ _ _ _ _ _ _ _ rfl (by rw [sh (by decide),sh (by decide)];exact U) ⟨rfl,?_⟩));exact M m
  apply au;cases f with
  | false=>
   refine aq (.inr rfl) ?_;simp [y,u,A];refine aF (by simp) (aP (done _ (by simp)))
  | true=>
   cases found with
   | false=>
    refine aq (.inr rfl) ?_;simp [y,u,A];refine av (by simp) (q _ (by simp [F]) (by simp [y]) (by simp [I]) (by simp))
   | true=>
    by_cases k:d<j
    ·refine aq (.inr rfl) ?_;simp [F,y,I,u,N,A,k];refine av (by simp) (q _ (by simp [F]) (by simp [y]) (by simp [I]) (by simp [k]))
    ·refine aq (.inr rfl) ?_;simp [F,y,I,u,N,A,k];refine aF (by simp) (aP (done _ (by simp [k])))
 refine aq (.inr rfl) ?_;simp;refine iF X ?_;have b0:(H.set 4 (.lp 69 s [P.nat 12] bT bI .busy ab 3))[0]?=aa (.box [.f (fi n)] 0):=by rw [sh (by decide)];exact h0
 have b1:(H.set 4 (.lp 69 s [P.nat 12] bT bI .busy ab 3))[1]?=aa (.box [.f (fi j)] 0):=by rw [sh (by decide)];exact h1
 have O:(H.set 4 (.lp 69 s [P.nat 12] bT bI .busy ab 3))[2]?=aa (.box [.f (.bool found)] 0):=by rw [sh (by decide)];exact h2
 have Q:(H.set 4 (.lp 69 s [P.nat 12] bT bI .busy ab 3))[3]?=aa (.fg ae):=by rw [sh (by decide)];exact h3
 have S:(H.set 4 (.lp 69 s [P.nat 12] bT bI .busy ab 3))[4]?=aa (.lp 69 s [P.nat 12] bT bI .busy ab 3):=BY a7;generalize H.set 4 (.lp 69 s [P.nat 12] bT bI .busy ab 3)=l at b0 b1 O Q S;refine az ?_;refine au (aq (.inr rfl) ?_);simp [v,b0,he];apply au;rcases Y with⟨rfl,rfl,rfl⟩ | ⟨rfl,rfl,b,z,Y⟩
 ·refine au (aq (.inr rfl) ?_);simp;refine aW (by simp) ?_;exact E _ _ b0 b1 O Q S (by simp [v]) (by simp [J]) (by simp [K]) (by simp) (by simp)
 ·rcases Y with⟨rfl,rfl,rfl⟩ | ⟨rfl,hl⟩
  ·refine au (aq (.inr rfl) ?_);simp [v,b0,z,show n≤1152921504606846976 by omega];refine aW (by simp) ?_;exact E _ _ b0 b1 O Q S (by simp [v]) (by simp [J]) (by simp [K]) (by simp) (by simp)
  ·refine au (aq (.inr rfl) ?_);simp [v,b0,z,show n≤1152921504606846976 by omega];refine av (by simp) ?_;refine aq (.inr rfl) ?_;simp [v,b0,hl];exact E _ _ b0 b1 O Q S (by simp [v]) (by simp [J]) (by simp [K]) (by simp) (by simp)
theorem wa(x:FC):bW tab 77 [.c (.f x)]=Eq (.c (.f (.fn 119 [.fp [x] 0]))):=by
 refine bW.eq (cd rfl rfl fun Q b=>?_);apply ai;simp;apply ai;simp;refine aD (b _ _ ?_);simp [deep]
theorem vZ{b:Nat}{H:an}(g:Tg)(ts:List cE)(L:ts.length≤1000000)(PP:Nat→an→Prop)(E:PP 0 H)
  (K:∀ j (q:j<ts.length) H,PP j H→∃ r H',Ev tab (.yield b) [.c (.f (sl ts[j].tg (aK ts[j].fs)))] H r H'∧(r=vb ae∧PP (j+1) H')) :
  ∃ r A,Ev tab (.fn 119) [.c (.yl b),.c (.f (.fp [sl g (aB ts)] 0))] H r A∧(r=.t []∧PP ts.length A):=by
 refine cH rfl rfl fun Q I=>?_;apply ai;simp [qP];refine bZ ts.length (fun j s J=>s.g 0=.c (.yl b)∧s.g 5=.c (.f (sl g (aB ts)))∧PP j J) (by omega) (by decide) (by decide) (by simp) (by simp) ⟨by simp,by simp,E⟩ ?_ ?_
 ·rintro j s J q ⟨u,v,x⟩ y B next
  have m:=fun H:an=>gZ (H:=H) (eZ ts) (gd (l:=ts) (j:=j) q) rfl;have d:=fun H:an=>bG (H:=H) (g:=g) (rows:=aB ts) (sz:=1) (k:=.i64) (i:=j) (by omega) (by simpa using q);simp at m d;obtain⟨r,H',z,rfl,F⟩:=K j q J x;refine az ?_;apply ai;simp [v,y,d,m];apply ai;simp [u,z.eq];refine aW (by simp) ?_;refine ax (next _ _ ?_ (by simp [y]) (by simp [B]));exact⟨by simp [u],by simp [v],F⟩
 ·rintro s J ⟨u,v,x⟩ y B;exact cU (I _ _ _ rfl rfl ⟨rfl,x⟩)
def ri(ts:List cE)(n x:Int):Prop:=∃ t ∈ ts,Iq t.fs n x
theorem Uw(g:Tg)(ts:List cE)(J:ts.length≤1000000)(W:∀ t ∈ ts,lW t.fs)(n:Int)(Y:0≤n)(F:n≤1000000000000):∃ d f,ew (ri ts n) d f∧(0≤d∧d≤1000001000000) ∧
  bW tab 69 [.c (.f (.fn 119 [.fp [sl g (aB ts)] 0])),vi n]=Eq (.t [vi d,vb f]):=by
 have key:∃ r,(∃ d f,ew (ri ts n) d f∧(0≤d∧d≤1000001000000)∧r=.t [vi d,vb f])∧bW tab 69 [.c (.f (.fn 119 [.fp [sl g (aB ts)] 0])),vi n] r:=by
  refine pD ab9 rfl fun Q X=>?_;have v:∀ s:T,s.g 3=.c (.ptr 0 0 0)→s.g 6=.c (.ptr 1 0 0)→s.g 7=.c (.ptr 2 0 0)→s.g 11=.c (.f (.fn 119 [.fp [sl g (aB ts)] 0])) →
    WP tab 69 ab [.code wh,.inBlock 0,.code rN] ⟨s,[],[.box [.f (fi n)] 0,.box [.f (fi 0)] 0,.box [.f (.bool ag)] 0]⟩ Q:=by
   intro s U L M y;obtain⟨r,u,S,rfl,l,found,⟨-,i,k,o,K,p,-⟩,q,N⟩:=vZ (b:=4) (H:=[.box [.f (fi n)] 0,.box [.f (fi 0)] 0,.box [.f (.bool ag)] 0,.fg ae,.lp 69 s [P.nat 12] bT bI .ready ab 3]) g ts J
    (fun j H=>∃ l found,QH H n l found∧ew (ri (ts.take j) n) l found∧(0≤l∧l≤1000001000000))
    ⟨0,ag,⟨rfl,rfl,rfl,rfl,s,rfl,U,L,M⟩,.inl ⟨rfl,rfl,fun d hd=>by obtain⟨t,m,-⟩:=hd;simp at m⟩,by omega,by omega⟩ fun j O H ⟨l,found,A,q,N⟩=>by
     obtain⟨d,f,E,hd,Z⟩:=zz ts[j].tg ts[j].fs (W _ (IT O)) n Y F;obtain⟨r,H',B,rfl,z⟩:=Z H l found A;have I:ts.take (j+1)=ts.take j++[ts[j]]:=by rw [alv,By O];rfl
     refine⟨_,H',B,rfl,_,_,z,ew.join q E fun x=>?_,?_⟩
     ·unfold ri;rw [I];constructor
      ·rintro⟨t,m,h⟩;rcases alj.1 m with m | m
       ·exact .inl ⟨t,m,h⟩
       ·rw [ali.1 m]at h;exact .inr h
      ·rintro(⟨t,m,h⟩ | h)
       ·exact⟨t,alQ _ m,h⟩
       ·exact⟨_,amt _ (ali.2 rfl),h⟩
     ·split<;>omega
   rw [als]at q;refine fF (g:=119) (by rw [rj,y];simp [bX]) S ?_;refine gq p (by decide) ?_;refine ax ?_;apply ai;have a:(u.set 4 (.lp 69 K [P.nat 12] bT bI .exhausted ab 3))[1]?=aa (.box [.f (fi l)] 0):=by rw [sh (by decide)];exact i
   have c:(u.set 4 (.lp 69 K [P.nat 12] bT bI .exhausted ab 3))[2]?=aa (.box [.f (.bool found)] 0):=by rw [sh (by decide)];exact k
   have e:(u.set 4 (.lp 69 K [P.nat 12] bT bI .exhausted ab 3))[3]?=aa (.fg ae):=by rw [sh (by decide)];exact o
   simp [L,M,a,c];refine aD (X _ _ _ ⟨l,found,q,N,rfl⟩ (.inr ⟨3,rfl,e,.t [vi l,vb found],?_,by simp [mc,dE,aZ]⟩));simp [Km.results,cr,aZ]
  apply ai;simp;apply ai;simp;apply au;apply ai;simp;refine az ?_;exact v _ (by simp) (by simp) (by simp) (by simp)
 obtain⟨r,⟨d,f,q,hd,rfl⟩,h⟩:=key;exact⟨d,f,q,hd,h.eq⟩
theorem aaR(g:Tg)(ts:List cE)(j:iH ts=ae)(s:∀ t ∈ ts,lW t.fs)(n:Int)(y:0≤n)(l:n≤1000000000000):∃ d f,ew (ri ts n) d f∧(0≤d∧d≤1000001000000) ∧
  bW tab 44 [.a [.f (sl g (aB ts))],vi n]=Eq (.t [vi d,vb f]):=by
 obtain⟨E,m⟩:=nv j;obtain⟨d,f,x,hd,v⟩:=Uw g ts (by omega) s n y l;refine⟨d,f,x,hd,bW.eq (cd rfl rfl fun Q u=>?_)⟩;have b:=A' g ts (by omega) (fun t q=>⟨by have:=(fA (m t q)).2.1;omega,fun p z=>jO ((fA (m t q)).2.2 p z)⟩);rw [j]at b;have A:=wa (sl g (aB ts));have B:max n 0=n:=by omega
 apply ai;simp;apply au;apply ai;simp [b];refine aW (by simp) ?_;apply ai;simp [A,B,v];refine aD (u _ _ ?_);simp
theorem oi(j l m:FC)(len g d:Int)(v:0≤len)(q:len≤10080)(x:-4320≤g)(s:g≤4320) :
  bW tab 37 [.a [.f j,.f (fi len),.f l],.a [.f m,.f (fi g)],vi d]=Eq (vb (decide (d≤(2251799813685248-g-len) / 1440))):=Kf.eq (by
 refine dO rfl rfl fun H Q u=>?_;apply ai;simp;apply ai;simp [aO (n:=2251799813685248-g),aO (n:=2251799813685248-g-len),fy (a:=2251799813685248-g-len) (b:=1440) (by omega) (by omega) (by omega)];refine aD (u _ _ ?_);simp)
theorem Z5(g j b:FC)(len d l m:Int):bW tab 25 [.a [.f g,.f (fi len),.f j],.a [.f b,.f (fi d)],.a [.f (fi l),.f (fi m)]] =
  Eq (.c (.f (.fn 62 [.fp [fi l,fi m] 0,.fp [g,fi len,j] 0,.fp [b,fi d] 0]))):=by
 refine bW.eq (cd rfl rfl fun Q q=>?_);apply ai;simp;apply ai;simp;refine aD (q _ _ ?_);simp [deep]
structure yF(ts:List cE):Prop where
 v:iH ts=ae
 f:∀ t ∈ ts,lW t.fs
structure ahN(len mi wf wt:Int):Prop where
 l0:1≤len
 l1:len≤10080
 m0:-4320≤mi
 m1:mi≤4320
 f0:-10000000000≤wf
 w:wf≤wt
 t1:wt≤10000000000
def n0I(len b d:Int):Int:=max 0 ((d-len-b) / 1440+1)
def yD(ts:List cE)(g b j d:Int):Prop:=ri ts g d∧d*1440+b<j
theorem pg{ts:List cE}{n m x:Int}(h:n≤m)(d:m≤x):ri ts n x↔ri ts m x:=by
 unfold ri Iq;constructor
 ·rintro⟨t,b,-,e⟩;exact⟨t,b,d,e⟩
 ·rintro⟨t,b,-,e⟩;exact⟨t,b,by omega,e⟩
theorem Z4{b:Nat}{H:an}{PP:List Int→an→Prop}(g:Tg)(ts:List cE)(W:yF ts)(s0 s2:FC)(len q B E:Int)(hw:ahN len q B E)(u:Int)(hn:u=n0I len q B)(h0:PP [] H)
  (w:∀ l d H,PP l H→u≤d→d*1440+q<E→(l.length:Int)≤d-u→∃ H',Ev tab (.yield b) [vi d] H (vb ae) H'∧PP (l++[d]) H') :
  ∃ r H',Ev tab (.fn 62) [.c (.yl b),.c (.f (.fp [fi B,fi E] 0)),.c (.f (.fp [s0,fi len,s2] 0)),.c (.f (.fp [sl g (aB ts),fi q] 0))] H r H' ∧
   (r=.t []∧∃ l,PP l H'∧l.Pairwise (· < ·)∧∀ d,d ∈ l↔yD ts u q E d):=by
 obtain⟨c_,d9,d_,e_,b_,c9,f8⟩:=hw;refine cH rfl rfl fun Q hQ=>?_;have c:=mz (B-len-q) (by omega) (by omega);have I:=fun d=>oi s0 s2 (sl g (aB ts)) len q d (by omega) (by omega) (by omega) (by omega);have o:max 0 ((B-len-q) / 1440+1)=u:=hn.symm;have f7:0≤u∧u≤8000000:=by rw [hn];unfold n0I;omega
 have i:∀ x,ri ts u x→u≤x:=fun x ⟨t,_,h,_⟩=>h;apply ai;simp [qP,aO (n:=B-len),aO (n:=B-len-q),c,aO (n:=(B-len-q) / 1440+1),o];refine az ?_;refine bJ (fun m s=>∃(j:Int) (K:T) (J:an) (l:List Int),s=⟨K,[],J⟩∧(m:Int)=10000010-j∧u≤j∧j≤10000000∧K.g 0=.c (.yl b)∧K.g 1=.c (.f (.fp [fi B,fi E] 0))∧K.g 2=.c (.f (.fp [s0,fi len,s2] 0))∧K.g 3=.c (.f (.fp [sl g (aB ts),fi q] 0))∧K.g 5=vi j ∧
  PP l J∧l.Pairwise (· < ·)∧(∀ d ∈ l,d<j)∧(l.length:Int)≤j-u∧∀ d,d<j→(d ∈ l↔yD ts u q E d)) (10000010-u).toNat
  ⟨u,_,H,[],rfl,by omega,by omega,by omega,by simp,by simp,by simp,by simp,by simp,h0,by simp,by simp,by simp,fun d hd=>⟨fun h=>by simp at h,fun h=>by have:=i d h.1;omega⟩⟩ ?_
 rintro m s ⟨j,K,J,l,rfl,hm,M,a7,g0,Y,Z,X,g5,L,O,A,a_,F⟩ ih;obtain⟨d,f,v,⟨d0,d1⟩,p⟩:=aaR g ts W.v W.f j (by omega) (by omega);have U:d≤(2251799813685248-q-len) / 1440:=by omega
 refine az ?_;apply ai;simp [X,g5,qP,p];apply au;have stop:(∀ e,¬ yD ts j q E e)→∀ d,d ∈ l↔yD ts u q E d:=by
  intro N e;by_cases z:e<j
  ·exact F e z
  ·exact⟨fun h=>absurd (A e h) z,fun h=>absurd ⟨(pg M (by omega)).1 h.1,h.2⟩ (N e)⟩
 rcases v with⟨rfl,rfl,N⟩ | ⟨rfl,hS,v⟩
 ·apply ai;simp;refine av (by simp) ?_;exact aD (hQ _ _ _ rfl rfl ⟨rfl,l,L,O,stop fun e h=>N e h.1⟩)
 ·have a8:j≤d:=by obtain⟨t,_,h,_⟩:=hS;exact h
  by_cases k:E≤d*1440+q
  ·apply ai;simp [Y,Z,X,qP,I,U,aO (n:=d*1440),aO (n:=d*1440+q),k];refine av (by simp) ?_;refine aD (hQ _ _ _ rfl rfl ⟨rfl,l,L,O,stop fun e h=>?_⟩);have:=v e h.1;have:=h.2;omega
  ·obtain⟨J',a,S⟩:=w l d J L (by omega) (by omega) (by omega);apply ai;simp [g0,Y,Z,X,qP,I,U,aO (n:=d*1440),aO (n:=d*1440+q),k,a.eq];refine aW (by simp) ?_;refine aq (.inl rfl) ?_;simp [aO (n:=d+1)];refine ax (ih (10000010-(d+1)).toNat _ (by omega) ⟨d+1,_,J',l++[d],rfl,by omega,by omega,by omega,by simp [g0],by simp [Y],by simp [Z],by simp [X],by simp,S,?_,fun e z=>?_,by simp;omega,fun e z=>?_⟩)
   ·rw [al7];exact⟨O,alY _ _,fun x hx y w=>by obtain rfl:=ali.1 w;have:=A x hx;omega⟩
   ·rcases alj.1 z with z | z
    ·have:=A e z;omega
    ·obtain rfl:=ali.1 z;omega
   ·rw [alj,ali];by_cases hc:e<j
    ·rw [F e hc];exact⟨fun h=>h.elim id fun h=>absurd h (by omega),.inl⟩
    ·refine⟨fun h=>?_,fun h=>.inr ?_⟩
     ·rcases h with h | rfl
      ·exact absurd (A e h) hc
      ·exact⟨(pg M (by omega)).2 hS,by omega⟩
     ·have:=v e ((pg M (by omega)).1 h.1);omega
def ir:b7→Bool
 | .cO _ _ _ _ _=>ag| _=>ae
def LI(H:an)(c:C)(o:List aC):Prop:=(o=[]∧c=.f .aA)∨(o≠[]∧∃ b d,c=.sl b 0 o.length 0 d 3∧RB H b 3 d (aG o))
theorem LI.push{H:an}{c:C}{o:List aC}(h:LI H c o)(J:an):LI (H++J) c o:=by
 rcases h with h | ⟨h,b,d,h1,h2⟩
 ·exact .inl h
 ·exact .inr ⟨h,b,d,h1,h2.push J⟩
theorem LI.set{H:an}{c:C}{o:List aC}(h:LI H c o){i:Nat}{x:b7}(hi:H[i]?=aa x)(g:ir x=ae)(y:b7):LI (H.set i y) c o:=by
 rcases h with h | ⟨h,b,d,h1,h2⟩
 ·exact .inl h
 ·refine .inr ⟨h,b,d,h1,?_⟩;unfold RB at h2 ⊢;have:i≠b:=by rintro rfl;rw [h2]at hi;cases hi;cases g
  rw [sh this];exact h2
theorem ua(o:List aC)(x:aC):(aG (o++[x])).flatten=(aG o).flatten++x.row:=by simp [aG]
theorem LI.app{H:an}{c:C}{o:List aC}(h:LI H c o)(hl:o.length≤1000000){b1 fl:Nat}{x:aC}(q:H[b1]?=aa (.box (x.row.map .f) fl)) :
  ∃ s H',bF H 3 24 (.c c) (.c (.sl b1 0 1 1 0 3))=aa (.c s,H')∧LI H' s (o++[x])∧H.length≤H'.length∧∀(i:Nat) y,H[i]?=aa y→ir y=ae→H'[i]?=aa y:=by
 have g:dc H 3 (.c (.sl b1 0 1 1 0 3))=aa (1,x.row.map .f):=nb q (by rfl);rcases h with⟨rfl,rfl⟩ | ⟨v,b,l,rfl,h2⟩
 ·have d:cN 1 24=ae:=by simp [cN]
  refine⟨.sl H.length 0 1 0 0 3,H++[.cO 3 (x.row.map .f) 0 0 .loc],?_,.inr ⟨by simp,H.length,0,by simp,?_⟩,by simp,fun i y hy _=>by rw [AT (aj hy)];exact hy⟩
  ·simp [bF,g,d]
  ·unfold RB;simp [aG]
 ·have d:cN (o.length+1) 24=ae:=by simp [cN];omega
  have j:o.length*3=(aG o).flatten.length:=by rw [cA (bC o),iD]
  unfold RB at h2;refine⟨.sl b 0 (o.length+1) 0 (l+1) 3,H.set b (.cO 3 ((aG o).flatten.map .f++x.row.map .f) 0 (l+1) .loc),?_,.inr ⟨by simp,b,l+1,by simp,?_⟩,by simp,fun i y hy u=>?_⟩
  ·have m:(3:Nat)≠0:=by decide
   simp only [bF,g,m,if_false,h2,and_self,if_true];simp only [Nat.add_one_ne_zero,if_false];rw [ba ⟨trivial,by rw [alm];exact j,by omega⟩,d];simp
  ·unfold RB;rw [BY (aj h2),ua,aml]
  ·have:b≠i:=by rintro rfl;rw [h2]at hy;cases hy;cases u
   rw [sh this];exact hy
theorem ahI{H:an}{b d n:Nat}{l R:List aC}(h:RB H b 3 d (aG (l++R))):eA (n+1) H (.sl b 0 l.length 0 d 3)=aa (sl .fs (aG l)):=by
 unfold RB at h;have g:l.length*3=(aG l).flatten.length:=by rw [cA (bC l),iD]
 have e:(aG (l++R)).flatten=(aG l).flatten++(aG R).flatten:=by simp [aG]
 simp only [jJ,h];rw [ba ⟨trivial,trivial,by rw [alm,e,alg];omega⟩,e,ama,aml,List.take_append_of_le_length (by rw [alm];omega),alw (by rw [alm];omega)];rw [lM];cases l with
 | nil=>simp [sl,aG,Tg.fc]| cons x l=>simp [sl,aG]
theorem zc{H:an}:∃ r H',Ev tab (.fn 30) [.c (.f .aA)] H r H'∧(r=.c (.f .aA)∧H'=H):=by
 refine cH rfl rfl fun Q b=>?_;apply ai;simp;apply au;apply ai;simp [bh];refine av (by simp) ?_;apply ai;simp;exact aD (b _ _ _ rfl (dz (by simp)) ⟨rfl,rfl⟩)
def oa:List Nat→an→an
 | [],H=>H| b::bs,H=>oa bs (H.set b (.fg ag))
structure fq(bs:List Nat)(H:an):Prop where
 nd:bs.Nodup
 on:∀ b ∈ bs,H[b]?=aa (.fg ae)
theorem nO{call:du}:∀ {bs:List Nat} {H:an},fq bs H→ec call (bs.map .er) H=aa (oa bs H)
 | [],H,_=>rfl
 | b::bs,H,h=>by
  have j:=h.on b alo;have d:=List.nodup_cons.1 h.nd;simp only [alk,ec,j,oa];exact nO ⟨d.2,fun x g=>by rw [sh (by rintro rfl;exact d.1 g)];exact h.on x (alq _ g)⟩
theorem mJ:∀ {bs:List Nat} {H:an} {i:Nat},i ∉ bs→(oa bs H)[i]?=H[i]?
 | [],_,_,_=>rfl
 | b::bs,H,i,h=>by
  simp only [alT,not_or]at h;rw [oa,mJ h.2,sh (Ne.symm h.1)]
def Tl(b:List gI)(r:V)(s:St):Prop:=∃ bs,s.defs=bs.map .er∧fq bs s.heap∧∃ d,Km.results s.aE (oa bs s.heap) b=aa d∧mc deep (oa bs s.heap) d=aa r
theorem qu{f:Nat}{args:List V}{S:V→Prop}{ps:List P}{b:List gI}{body:aw}(z:tab f=aa ⟨ps,b,body⟩)(x:args.length=ps.length)
  (h:∀ Q:Option aw→St→Prop,(∀ j s r,S r→Tl b r s→Q j s)→WP tab f ab [.code body] ⟨cu ps args .e,[],[]⟩ Q):∃ r,S r∧bW tab f args r:=by
 have q:=h (fun _ s=>∃ r,S r∧Tl b r s) fun _ _ r g l=>⟨r,g,l⟩
 obtain⟨n,m,d,j,s,g,r,y,bs,hd,v,A,l,u⟩:=q;exact⟨r,y,A,oa bs s.heap,qL z x ⟨n,m,d,j,s,g,0,0,_,by rw [hd];exact nO v,l,rfl⟩,u⟩
theorem fq.push{bs:List Nat}{H:an}(h:fq bs H)(J:an):fq bs (H++J):=⟨h.nd,fun b hb=>by rw [AT (aj (h.on b hb))];exact h.on b hb⟩
theorem fq.bu{bs:List Nat}{H H':an}(h:fq bs H)(d:∀(i:Nat) y,H[i]?=aa y→ir y=ae→H'[i]?=aa y):fq bs H':=⟨h.nd,fun b hb=>d b _ (h.on b hb) rfl⟩
theorem fq.set{bs:List Nat}{H:an}(h:fq bs H){i:Nat}{y z:b7}(hi:H[i]?=aa y)(hy:y≠.fg ae):fq bs (H.set i z):=⟨h.nd,fun b hb=>by
 have:=h.on b hb;rw [sh (by rintro rfl;rw [this]at hi;cases hi;exact hy rfl)];exact this⟩
theorem fq.not{bs:List Nat}{H:an}(h:fq bs H){i:Nat}{y:b7}(hi:H[i]?=aa y)(hy:y≠.fg ae):i ∉ bs:=fun hb=>by
 have:=h.on i hb;rw [hi]at this;cases this;exact hy rfl
theorem lG:∀(l:List Int) (a k:Int),l.Pairwise (· < ·)→(∀ x ∈ l,a≤x∧x<a+k)→(l.length:Int)≤max k 0
 | [],_,_,_,_=>by simp;omega
 | x::l,a,k,g,h=>by
  have j:=h x alo;have b:=amV.1 g;have:=lG l (x+1) (a+k-x-1) b.2 fun y d=>⟨by have:=b.1 y d;omega,by have:=h y (alq _ d);omega⟩
  simp only [List.length_cons];omega
structure kz(s:aV):Prop where
 v:gC s=ae
 cn:s.cs.length≤3
 cl:∀ c ∈ s.cs,yF c.ts
 xn:s.xs.length≤4
def uV(s:aV)(b g:Int)(l:List cm)(x:aC):Prop:=∃ c ∈ l,∃ d,yD c.ts (n0I s.len c.min b) c.min g d∧x=dt s.len c.min d
def Aq(s:aV)(b d:Int)(x:aC):Prop:=uV s b d s.cs x∨(x ∈ s.xs∧fK x.fr x.to b d=ae)
theorem oE:∀ {l:List cm} {o:Option Int},dL o l=ae→∀ c ∈ l,iH c.ts=ae∧-4320≤c.min∧c.min≤4320
 | c::l,o,h,x,d=>by
  simp only [dL,If]at h;obtain⟨⟨⟨g,b⟩,-⟩,j⟩:=h;rcases alT.1 d with rfl | d
  ·unfold dj at b;simp at b;exact⟨g,b.1,b.2⟩
  ·exact oE j x d
theorem kz.len{s:aV}(h:kz s):1≤s.len∧s.len≤10080:=by
 have:=h.v;simp [gC,dj]at this;omega
theorem kz.min{s:aV}(h:kz s){c:cm}(hc:c ∈ s.cs):-4320≤c.min∧c.min≤4320:=by
 have:=h.v;simp only [gC,If]at this;exact(oE this.1.2 c hc).2
theorem sW{ts:List cE}(h:iH ts=ae):∀ t ∈ ts,t.Sm:=fun t d=>by
 obtain⟨-,b⟩:=nv h;exact⟨by have:=(fA (b t d)).2.1;omega,fun p g=>jO ((fA (b t d)).2.2 p g)⟩
theorem kz.sm{s:aV}(h:kz s):s.Sm:=by
 have h1:=h.cn;have h2:=h.xn;refine⟨by omega,by omega,fun c hc=>⟨?_,sW (h.cl c hc).v⟩⟩;have:=(nv (h.cl c hc).v).1;omega
theorem Cs(s:aV)(hs:kz s)(u v:Int)(p8:-10000000000≤u)(p9:v≤10000000000)(o9:u<v)(o_:v≤u+70000) :
  ∃ g L,(L.Pairwise aC.lt∧∀ x,x ∈ L↔Aq s u v x)∧L.length≤184∧bW tab 9 [.a (s.row.map .f),.a [.f (fi u),.f (fi v)]]=Eq (.t [.c (.f (sl g (aG L))),vi 0]):=by
 have key:∃ r,(∃ g L,(L.Pairwise aC.lt∧∀ x,x ∈ L↔Aq s u v x)∧L.length≤184∧r=.t [.c (.f (sl g (aG L))),vi 0])∧bW tab 9 [.a (s.row.map .f),.a [.f (fi u),.f (fi v)]] r:=by
  refine qu ahK rfl fun Q hQ=>?_;have p:=(qC s hs.sm).eq;rw [hs.v]at p;simp [aV.row]at p;have hF:∀ x y:aC,Kf tab 29 [.a (x.row.map .f),.a (y.row.map .f)] (vi (fv x y)):=zN;obtain⟨m9,m_⟩:=hs.len;have o4:=hs.cn;have p_:=hs.xn;have j4:∀(t:T) (bs:List Nat) (H:an) (c:C) (o:List aC),t.g 6=.c (.ptr 2 0 0)→H[2]?=aa (.box [c] 0)→LI H c o→o.length≤184→fq bs H→(∀ x,x ∈ o↔Aq s u v x) →
    WP tab 9 ab [.code yc] ⟨t,bs.map .er,H⟩ Q:=by
   intro t bs H c o I B A c9 K m;rcases A with⟨rfl,rfl⟩ | ⟨o8,b,ep,rfl,a⟩
   ·obtain⟨r1,H1,e1,rfl,rfl⟩:=VB (H:=H) (F:=29);obtain⟨r2,w,e2,rfl,rfl⟩:=zc (H:=H1);apply ai;simp [I,B,e1.eq];apply ai;simp [I,B,e2.eq];have S:(w.set 2 (.box [.f .aA] 0))[2]?=aa (.box [.f .aA] 0):=BY (aj B);apply au;apply ai;simp [I,S,bh];refine aW (by simp) ?_;apply ai;simp [I,S];refine aD (hQ _ _ _ ⟨.nil,[],⟨by simp,m⟩,by simp,rfl⟩ ⟨bs,rfl,K.set B (by simp),.t [.c (.f .aA),vi 0],by simp [Km.results,cr,aZ],by simp [mc,dE,aZ,sl,aG,Tg.fc]⟩)
   ·have f7:(2:Nat)≠b:=by rintro rfl;unfold RB at a;rw [B]at a;cases a
    have f8:b ∉ bs:=K.not a (by simp);obtain⟨r1,H1,e1,rfl,f1,l1,q1,q2,q3⟩:=abX hF (by omega) a;have ll:=q2.length_eq;rw [←ll]at e1 B;have S:=f1.get B f7;obtain⟨r2,w,e2,l2,R2,rfl,f2,w1,w2,w3,w4⟩:=AA (by omega) q3 q1;have i7:=f2.get S f7;apply ai;simp [I,B,e1.eq];apply ai;simp [I,S,e2.eq,i7];have k3:(w.set 2 (.box [.sl b 0 l2.length 0 ep 3] 0))[2]?=aa (.box [.sl b 0 l2.length 0 ep 3] 0):=BY (aj i7);have i8:RB (w.set 2 (.box [.sl b 0 l2.length 0 ep 3] 0)) b 3 ep (aG (l2++R2)):=by
     unfold RB at w1 ⊢;rw [sh f7];exact w1
    have j9:fq bs w:=⟨K.nd,fun x hx=>f2.get (f1.get (K.on x hx) (by rintro rfl;exact f8 hx)) (by rintro rfl;exact f8 hx)⟩
    apply au;apply ai;simp [I,k3,i8.len];refine aF (by simp;omega) (aP ?_);apply ai;simp [I,k3];refine aD (hQ _ _ _ ⟨.fs,l2,⟨w3,fun x=>by rw [w4,q2.mem_iff,m]⟩,by omega,rfl⟩ ⟨bs,rfl,j9.set i7 (by simp),.t [.c (.sl b 0 l2.length 0 ep 3),vi 0],by simp [Km.results,cr,aZ],?_⟩);have j3:RB (oa bs (w.set 2 (.box [.sl b 0 l2.length 0 ep 3] 0))) b 3 ep (aG (l2++R2)):=by
     unfold RB at i8 ⊢;rw [mJ f8];exact i8
    have:=ahI (n:=63) j3;simp [deep,mc,dE,aZ,this]
  have a7:∀(t:T) (bs:List Nat) (H:an) (c:C) (o:List aC),t.g 2=.c (.ptr 0 0 0)→t.g 3=.c (.ptr 1 0 0)→t.g 6=.c (.ptr 2 0 0)→H[0]?=aa (.box [C.f (sl s.cg (aR s.cs)),C.f (fi s.len),C.f (sl s.xg (aG s.xs))] 0)→H[1]?=aa (.box [.f (fi u),.f (fi v)] 0)→H[2]?=aa (.box [c] 0)→LI H c o→o.length≤180 →
    fq bs H→(∀ x,x ∈ o↔uV s u v s.cs x)→WP tab 9 ab [.code ot] ⟨t,bs.map .er,H⟩ Q:=by
   intro t bs H c o M U I h0 N B A c9 K m;apply au;apply ai;simp [M,h0];refine bZ s.xs.length (fun j t H'=>t.g 2=.c (.ptr 0 0 0)∧t.g 3=.c (.ptr 1 0 0)∧t.g 6=.c (.ptr 2 0 0)∧t.g 64=.c (.f (sl s.xg (aG s.xs)))∧H'[1]?=aa (.box [.f (fi u),.f (fi v)] 0)∧fq bs H' ∧
    ∃ c o',H'[2]?=aa (.box [c] 0)∧LI H' c o'∧o'.length≤180+j∧∀ x,x ∈ o'↔uV s u v s.cs x∨(x ∈ s.xs.take j∧fK x.fr x.to u v=ae)) (by omega) (by decide) (by decide) (by simp) (by simp)
    ⟨by simp [M],by simp [U],by simp [I],by simp,N,K,c,o,B,A,by omega,by simpa using m⟩ ?_ ?_
   ·rintro j t H' hj ⟨M,U,I,a_,N,i6,c,o',B,A,c9,m⟩ ha hb next
    have J:=fun H:an=>cR (H:=H) (bC s.xs) (cW hj);have g_:=ZZ s.xs[j].fr s.xs[j].to u v;have c_:s.xs.take (j+1)=s.xs.take j++[s.xs[j]]:=by rw [alv,By hj];rfl
    simp [aC.row]at J;refine az ?_;apply ai;simp [a_,ha,bG,hj,J];have kN:(H'++[b7.box [.f (fi s.xs[j].day),.f (fi s.xs[j].fr),.f (fi s.xs[j].to)] 0])[H'.length]?=aa (.box [.f (fi s.xs[j].day),.f (fi s.xs[j].fr),.f (fi s.xs[j].to)] 0):=by simp
    have k1:(H'++[b7.box [.f (fi s.xs[j].day),.f (fi s.xs[j].fr),.f (fi s.xs[j].to)] 0])[1]?=aa (.box [.f (fi u),.f (fi v)] 0):=by rw [AT (aj N)];exact N
    have S:(H'++[b7.box [.f (fi s.xs[j].day),.f (fi s.xs[j].fr),.f (fi s.xs[j].to)] 0])[2]?=aa (.box [c] 0):=by rw [AT (aj B)];exact B
    have kL:=A.push [b7.box [.f (fi s.xs[j].day),.f (fi s.xs[j].fr),.f (fi s.xs[j].to)] 0];have kd:=i6.push [b7.box [.f (fi s.xs[j].day),.f (fi s.xs[j].fr),.f (fi s.xs[j].to)] 0];generalize o0:H'++[b7.box [.f (fi s.xs[j].day),.f (fi s.xs[j].fr),.f (fi s.xs[j].to)] 0]=X at kN k1 S kL kd ⊢;apply ai;simp [U,kN,k1,g_];cases O:fK s.xs[j].fr s.xs[j].to u v
    ·refine aF (by simp) (aP (ax (next _ _ ?_ (by simp [ha]) (by simp [hb]))));refine⟨by simp [M],by simp [U],by simp [I],by simp [a_],k1,kd,c,o',S,kL,by omega,fun x=>?_⟩;rw [m,c_,alj,ali];refine⟨fun h=>h.elim .inl fun h=>.inr ⟨.inl h.1,h.2⟩,fun h=>h.elim .inl fun h=>?_⟩;rcases h.1 with h' | rfl
     ·exact .inr ⟨h',h.2⟩
     ·rw [O]at h;cases h.2
    ·obtain⟨c',w,e1,e2,e3,e4⟩:=(kL.push [.box [.f (fi s.xs[j].day),.f (fi s.xs[j].fr),.f (fi s.xs[j].to)] 0]).app (by omega) (b1:=X.length) (fl:=0) (x:=s.xs[j]) (by simp [aC.row]);have p1:=e4 _ _ (show(X++[b7.box [.f (fi s.xs[j].day),.f (fi s.xs[j].fr),.f (fi s.xs[j].to)] 0])[1]?=_ by rw [AT (aj k1)];exact k1) rfl;have p2:=e4 _ _ (show(X++[b7.box [.f (fi s.xs[j].day),.f (fi s.xs[j].fr),.f (fi s.xs[j].to)] 0])[2]?=_ by rw [AT (aj S)];exact S) rfl;have pd:=(kd.push [b7.box [.f (fi s.xs[j].day),.f (fi s.xs[j].fr),.f (fi s.xs[j].to)] 0]).bu e4;refine av (by simp) ?_;refine aq (.inl rfl) ?_;simp [I,kN,S,e1,p2];refine ax (next _ _ ?_ (by simp [ha]) (by simp [hb]));refine⟨by simp [M],by simp [U],by simp [I],by simp [a_],by rw [sh (by decide)];exact p1,pd.set p2 (by simp),c',o'++[s.xs[j]],BY (aj p2),e2.set p2 rfl _,by simp;omega,fun x=>?_⟩;rw [alj,ali,m,c_,alj,ali];constructor
     ·rintro((h | h) | rfl)
      ·exact .inl h
      ·exact .inr ⟨.inl h.1,h.2⟩
      ·exact .inr ⟨.inr rfl,O⟩
     ·rintro(h | ⟨h | h,h'⟩)
      ·exact .inl (.inl h)
      ·exact .inl (.inr ⟨h,h'⟩)
      ·exact .inr h
   ·rintro t H' ⟨M,U,I,a_,N,i6,c,o',B,A,c9,m⟩ - -;rw [als]at m;exact j4 _ bs H' c o' (by simp [I]) B A (by omega) i6 fun x=>m x
  have Y:∀ t:T,t.g 2=.c (.ptr 0 0 0)→t.g 3=.c (.ptr 1 0 0)→t.g 6=.c (.ptr 2 0 0)→WP tab 9 ab [.code xW] ⟨t,[],[.box [C.f (sl s.cg (aR s.cs)),C.f (fi s.len),C.f (sl s.xg (aG s.xs))] 0,.box [.f (fi u),.f (fi v)] 0,.box [.f .aA] 0]⟩ Q:=by
   intro t M U I;apply au;apply ai;simp [M];refine az ?_;refine bJ (fun n st=>∃(j:Nat) (t:T) (bs:List Nat) (H:an) (c:C) (o:List aC),st=⟨t,bs.map .er,H⟩∧n=s.cs.length-j∧j≤s.cs.length∧t.g 2=.c (.ptr 0 0 0)∧t.g 3=.c (.ptr 1 0 0)∧t.g 6=.c (.ptr 2 0 0)∧t.g 44=.c (.f (sl s.cg (aR s.cs)))∧t.g 45=vi s.cs.length∧t.g 46=vi j ∧
    H[0]?=aa (.box [C.f (sl s.cg (aR s.cs)),C.f (fi s.len),C.f (sl s.xg (aG s.xs))] 0)∧H[1]?=aa (.box [.f (fi u),.f (fi v)] 0)∧H[2]?=aa (.box [c] 0)∧LI H c o∧o.length≤60*j∧fq bs H∧∀ x,x ∈ o↔uV s u v (s.cs.take j) x) s.cs.length
    ⟨0,_,[],_,.f .aA,[],rfl,by omega,by omega,by simp [M],by simp [U],by simp [I],by simp,by simp,by simp,rfl,rfl,rfl,.inl ⟨rfl,rfl⟩,by simp,⟨by simp,by simp⟩,fun x=>⟨fun h=>by simp at h,fun⟨c,O,_⟩=>by simp at O⟩⟩ ?_
   rintro n st ⟨j,t,bs,H,c,o,rfl,rfl,hj,M,U,I,a8,Z,W,h0,N,B,A,c9,K,m⟩ ih;by_cases f:j<s.cs.length
   ·obtain⟨cl,e⟩:=aN (s.cs[j]);have d_:cl ∈ s.cs:=e▸IT f;have n_:=hs.min d_;have i_:=hs.cl cl d_;have J:=fun H:an=>cR (H:=H) (dC s.cs) (fD (l:=s.cs) (j:=j) f);have e_:=fun H:an=>bG (H:=H) (g:=s.cg) (rows:=aR s.cs) (sz:=2) (k:=.i64) (i:=j) (by omega) (by simpa using f);rw [←e]at J;simp [cm.row]at J e_;have c_:s.cs.take (j+1)=s.cs.take j++[cl]:=by rw [alv,By f,e];rfl
    have h_:=Z5 (sl s.cg (aR s.cs)) (sl s.xg (aG s.xs)) (sl cl.mg (aB cl.ts)) s.len cl.min u v;have i4:=fun d (h:mj d)=>oG (sl s.cg (aR s.cs)) (sl s.xg (aG s.xs)) (sl cl.mg (aB cl.ts)) s.len cl.min d (by unfold mj;omega) (by unfold mj;omega) h;apply ai;simp [Z,W];refine au (av (by simp [f]) (aP ?_));apply au;refine az ?_;apply ai;simp [a8,W,e_,J];obtain⟨q,f_⟩:=aN (H.length);have kc:(H++[b7.box [.f (sl cl.mg (aB cl.ts)),.f (fi cl.min)] 0])[q]?=aa (.box [.f (sl cl.mg (aB cl.ts)),.f (fi cl.min)] 0):=by simp [f_]
    have k0:(H++[b7.box [.f (sl cl.mg (aB cl.ts)),.f (fi cl.min)] 0])[0]?=aa (.box [C.f (sl s.cg (aR s.cs)),C.f (fi s.len),C.f (sl s.xg (aG s.xs))] 0):=by rw [AT (aj h0)];exact h0
    have k1:(H++[b7.box [.f (sl cl.mg (aB cl.ts)),.f (fi cl.min)] 0])[1]?=aa (.box [.f (fi u),.f (fi v)] 0):=by rw [AT (aj N)];exact N
    have S:(H++[b7.box [.f (sl cl.mg (aB cl.ts)),.f (fi cl.min)] 0])[2]?=aa (.box [c] 0):=by rw [AT (aj B)];exact B
    have kL:=A.push [b7.box [.f (sl cl.mg (aB cl.ts)),.f (fi cl.min)] 0];have kd:=K.push [b7.box [.f (sl cl.mg (aB cl.ts)),.f (fi cl.min)] 0];have kn:(H++[b7.box [.f (sl cl.mg (aB cl.ts)),.f (fi cl.min)] 0]).length=q+1:=by simp [f_]
    have n9:3≤q:=by have:=aj B;omega
    rw [←f_];generalize H++[b7.box [.f (sl cl.mg (aB cl.ts)),.f (fi cl.min)] 0]=X at kc k0 k1 S kL kd kn ⊢;apply ai;simp [M,U,k0,k1,kc,h_];refine az ?_;have range:∀(E:T),E.g 2=.c (.ptr 0 0 0)→E.g 3=.c (.ptr 1 0 0)→E.g 6=.c (.ptr 2 0 0)→E.g 8=.c (.ptr q 0 0)→E.g 44=.c (.f (sl s.cg (aR s.cs)))→E.g 45=vi s.cs.length→E.g 46=vi j →
      E.g 53=.c (.f (.fn 62 [.fp [fi u,fi v] 0,.fp [sl s.cg (aR s.cs),fi s.len,sl s.xg (aG s.xs)] 0,.fp [sl cl.mg (aB cl.ts),fi cl.min] 0])) →
      WP tab 9 ab [.code xY,.inBlock 2,.inBlock 1,.code xZ,.inLoop xX,.inBlock 0,.code ot] ⟨E,bs.map .er,X⟩ Q:=by
     intro E M U I g8 a8 Z W j7;obtain⟨PP,b_⟩:∃ PP:List Int→an→Prop,PP=fun ds H=>H[0]?=aa (.box [C.f (sl s.cg (aR s.cs)),C.f (fi s.len),C.f (sl s.xg (aG s.xs))] 0)∧H[1]?=aa (.box [.f (fi u),.f (fi v)] 0)∧(∃ c,H[2]?=aa (.box [c] 0)∧LI H c (o++ds.map (dt s.len cl.min))) ∧
      H[q]?=aa (.box [.f (sl cl.mg (aB cl.ts)),.f (fi cl.min)] 0)∧fq bs H∧H[q+1]?=aa (.fg ae)∧H[q+1+1]?=aa (.lp 9 E [P.nat 54] dI dJ .ready ab (q+1)):=⟨_,rfl⟩
     have n8:PP [] (X++[.fg ae,(.lp 9 E [P.nat 54] dI dJ .ready ab (q+1))]):=by
      rw [b_];refine⟨?_,?_,⟨c,?_,?_⟩,?_,kd.push _,?_,?_⟩
      ·rw [AT (aj k0)];exact k0
      ·rw [AT (aj k1)];exact k1
      ·rw [AT (aj S)];exact S
      ·simpa using kL.push _
      ·rw [AT (aj kc)];exact kc
      ·rw [aln (by omega),kn];simp
      ·rw [aln (by omega),kn];simp
     have o7:n0I s.len cl.min u=max 0 ((u-s.len-cl.min) / 1440+1):=rfl;obtain⟨r,H',he,rfl,ds,hp,n6,i3⟩:=Z4 (b:=q+1+1) (H:=X++[.fg ae,(.lp 9 E [P.nat 54] dI dJ .ready ab (q+1))]) (PP:=PP) cl.mg cl.ts i_ (sl s.cg (aR s.cs)) (sl s.xg (aG s.xs)) s.len cl.min u v ⟨by omega,by omega,by omega,by omega,by omega,by omega,by omega⟩ (n0I s.len cl.min u) rfl n8 (by
      intro ds d H hp o5 o6 j_;rw [b_]at hp;obtain⟨h0,N,⟨c,B,A⟩,O,e,h4,h5⟩:=hp;have i9:=i4 d (by unfold mj;omega);simp [dt,aC.row]at i9;obtain⟨r,H',e1,rfl,e2⟩:=ea (tab:=tab) (b:=q+1+1) (args:=[vi d]) (H:=H) (C:=fun r H'=>r=vb ae∧PP (ds++[d]) H') h5 rfl fun Q' j8=>by
       refine aq (.inr rfl) ?_;simp;refine iF h5 ?_;have b0:(H.set (q+1+1) (.lp 9 E [P.nat 54] dI dJ .busy ab (q+1)))[0]?=aa (.box [C.f (sl s.cg (aR s.cs)),C.f (fi s.len),C.f (sl s.xg (aG s.xs))] 0):=by rw [sh (by omega)];exact h0
       have b1:(H.set (q+1+1) (.lp 9 E [P.nat 54] dI dJ .busy ab (q+1)))[1]?=aa (.box [.f (fi u),.f (fi v)] 0):=by rw [sh (by omega)];exact N
       have b2:(H.set (q+1+1) (.lp 9 E [P.nat 54] dI dJ .busy ab (q+1)))[2]?=aa (.box [c] 0):=by rw [sh (by omega)];exact B
       have b3:(H.set (q+1+1) (.lp 9 E [P.nat 54] dI dJ .busy ab (q+1)))[q]?=aa (.box [.f (sl cl.mg (aB cl.ts)),.f (fi cl.min)] 0):=by rw [sh (by omega)];exact O
       have b4:(H.set (q+1+1) (.lp 9 E [P.nat 54] dI dJ .busy ab (q+1)))[q+1]?=aa (.fg ae):=by rw [sh (by omega)];exact h4
       have b5:(H.set (q+1+1) (.lp 9 E [P.nat 54] dI dJ .busy ab (q+1)))[q+1+1]?=aa (.lp 9 E [P.nat 54] dI dJ .busy ab (q+1)):=BY (aj h5);have bd:=e.set (z:=(.lp 9 E [P.nat 54] dI dJ .busy ab (q+1))) h5 (by simp);have bL:=A.set h5 rfl (.lp 9 E [P.nat 54] dI dJ .busy ab (q+1));generalize H.set (q+1+1) (.lp 9 E [P.nat 54] dI dJ .busy ab (q+1))=HB at b0 b1 b2 b3 b4 b5 bd bL ⊢;obtain⟨c',w,a1,a2,a3,a4⟩:=(bL.push [.box [.f (fi d),.f (fi (d*1440+cl.min)),.f (fi (d*1440+cl.min+s.len))] 0]).app (by simp;omega) (b1:=HB.length) (fl:=0) (x:=dt s.len cl.min d) (by simp [aC.row,dt]);have up:∀(i:Nat) y,HB[i]?=aa y→ir y=ae→w[i]?=aa y:=fun i y hy hn=>a4 i y (by rw [AT (aj hy)];exact hy) hn;have p2:=up _ _ b2 rfl;have s5:(w.set 2 (.box [c'] 0))[q+1+1]?=aa (.lp 9 E [P.nat 54] dI dJ .busy ab (q+1)):=by rw [sh (by omega)];exact up _ _ b5 rfl
       refine az ?_;refine aq (.inr rfl) ?_;simp [M,I,g8,b0,b2,b3,i9,a1,p2];refine ax (cU (j8 _ _ _ _ _ _ _ _ _ _ rfl s5 ?_));refine⟨rfl,?_⟩;rw [b_];refine⟨?_,?_,⟨c',?_,?_⟩,?_,?_,?_,?_⟩
       ·rw [sh (by omega),sh (by decide)];exact up _ _ b0 rfl
       ·rw [sh (by omega),sh (by decide)];exact up _ _ b1 rfl
       ·rw [sh (by omega)];exact BY (aj p2)
       ·rw [aml,←alR];exact(a2.set p2 rfl _).set s5 rfl _
       ·rw [sh (by omega),sh (by omega)];exact up _ _ b3 rfl
       ·exact((bd.bu up).set p2 (by simp)).set s5 (by simp)
       ·rw [sh (by omega),sh (by omega)];exact up _ _ b4 rfl
       ·exact BY (aj s5)
      exact⟨H',e1,e2⟩)
     rw [b_]at hp;obtain⟨h0,N,⟨c,B,A⟩,O,d9,h4,h5⟩:=hp;have hB:X.length=q+1:=kn;have k_:Ev tab (.fn 62) [.c (.yl (X.length+1)),.c (.f (.fp [fi u,fi v] 0)),.c (.f (.fp [sl s.cg (aR s.cs),fi s.len,sl s.xg (aG s.xs)] 0)),.c (.f (.fp [sl cl.mg (aB cl.ts),fi cl.min] 0))] (X++[.fg ae,.lp 9 E [P.nat 54] dI dJ .ready ab X.length]) (.t []) H':=by
      rw [hB];exact he
     refine fF (g:=62) (by rw [rj,j7];simp [bX]) k_ ?_;rw [hB];refine gq h5 (by decide) ?_;refine ax (ax (aq (.inl rfl) ?_));simp [W,aO (n:=(j:Int)+1)];have j_:=lG ds (n0I s.len cl.min u) 60 n6 fun d hd=>by
      obtain⟨⟨t',_,a1,_⟩,a2⟩:=(i3 d).1 hd;refine⟨a1,?_⟩;omega
     refine ih (s.cs.length-(j+1)) _ (by omega) ⟨j+1,_,(q+1)::bs,_,c,_,rfl,by omega,by omega,by simp [M],by simp [U],by simp [I],by simp [a8],by simp [Z],by simp,?_,?_,?_,A.set h5 rfl _,by simp;omega,⟨?_,?_⟩,fun x=>?_⟩
     ·rw [sh (by omega)];exact h0
     ·rw [sh (by omega)];exact N
     ·rw [sh (by omega)];exact B
     ·refine List.nodup_cons.2 ⟨fun hb=>?_,d9.nd⟩;have:=aj (kd.on _ hb);omega
     ·intro b hb;rcases alT.1 hb with rfl | hb
      ·rw [sh (by omega)];exact h4
      ·exact(d9.set h5 (by simp)).on b hb
     ·rw [alj,m,alz];unfold uV;rw [c_];constructor
      ·rintro(⟨c,O,h⟩ | ⟨d,hd,rfl⟩)
       ·exact⟨c,alQ _ O,h⟩
       ·exact⟨cl,amt _ (ali.2 rfl),d,(i3 d).1 hd,rfl⟩
      ·rintro⟨c,O,d,hd,rfl⟩;rcases alj.1 O with O | O
       ·exact .inl ⟨c,O,d,hd,rfl⟩
       ·obtain rfl:=ali.1 O;exact .inr ⟨d,(i3 d).2 hd,rfl⟩
    exact range _ (by simp [M]) (by simp [U]) (by simp [I]) (by simp) (by simp [a8]) (by simp [Z]) (by simp [W]) (by simp)
   ·have l_:j=s.cs.length:=by omega
    subst l_;apply ai;simp [Z,W];refine au (aF (by simp) ?_);refine bg (k':=[.code ot]) rfl ?_;rw [als]at m;exact a7 _ bs _ c o (by simp [M]) (by simp [U]) (by simp [I]) h0 N B A (by omega) K m
  apply ai;simp [aV.row];apply au;apply ai;simp [p,show¬ u < -2251799813685248 by omega,show¬ 2251799813685248<v by omega,show¬ v<u by omega];refine aW (by simp) ?_;apply au;apply ai;simp [aO (n:=v-u),show¬ 5760000<v-u by omega];refine aW (by simp) ?_;apply ai;simp;apply au;apply ai;simp [show¬ u=v by omega];refine aW (by simp) ?_;exact Y _ (by simp) (by simp) (by simp)
 obtain⟨r,⟨g,L,N,B,h3,rfl⟩,h⟩:=key;exact⟨g,L,N,B,h.eq⟩
def Tn(c:cm)(len:Int)(x:aC):Prop:=∃ d,ri c.ts 0 d∧x=dt len c.min d
def iv(s:aV)(x:aC):Prop:=(∃ c ∈ s.cs,Tn c s.len x)∨x ∈ s.xs
abbrev u8(n:Nat):FC:=.int .u8 n
def dK(l:List Nat):List (List FC):=l.map fun n=>[u8 n]
@[simp] theorem agp (l:List Nat):(dK l).length=l.length:=by simp [dK]
theorem Ay(l:List Nat):bO 1 (dK l):=bO.map fun _=>rfl
theorem zy{j:Nat}{l:List Nat}(b:j<l.length){H:an}:aX H ab (.c (.f (.fp (dK l).flatten j)))=aa (.c (.f (u8 l[j]))):=by
 have:=gZ (H:=H) (rows:=dK l) (j:=j) (sz:=1) (row:=[u8 l[j]]) (x:=u8 l[j]) (Ay l) (by simp [dK,b]) rfl;simpa using this
theorem vo{j:Nat}{l:List Nat}{g:Tg}(b:j<l.length){H:an}:bB H 1 ab (.c (.f (sl g (dK l)))) (vi j)=aa (.c (.f (.fp (dK l).flatten j))):=by
 have:=bG (H:=H) (g:=g) (rows:=dK l) (sz:=1) (k:=.i64) (i:=(j:Int)) (by omega) (by simp;omega);simpa using this
def tP(b:List Nat)(i:Nat):Nat:=b[i]?.getD 0
theorem wv{b:List Nat}(h:∀ n ∈ b,n<256)(i:Nat):tP b i<256:=by
 unfold tP;by_cases hi:i<b.length
 ·rw [By hi];exact h _ (IT hi)
 ·rw [amR.2 (by omega)];decide
theorem uY(g:Tg)(b:List Nat)(m:∀ n ∈ b,n<256)(s:b.length≤9223372036854775807)(i:Nat)(hi:i≤1000):bW tab 60 [.c (.f (sl g (dK b))),vi i]=Eq (vi (tP b i:Nat)):=bW.eq (by
 refine cd rfl rfl fun Q d=>?_;apply ai;simp;refine au (ai ?_);simp;by_cases h:i<b.length
 ·have j:=vo (g:=g) h (H:=[]);have l:=zy h (H:=[]);have q:=m _ (IT h);have w:IntKind.i64.wrap ((b[i]:Nat):Int)=((b[i]:Nat):Int):=aO;refine av (by simp [h]) (ai ?_);simp [j,l,w];refine aD (d _ _ ?_);simp [tP,By h]
 ·refine aW (by simp [h]) ?_;apply ai;simp;refine aD (d _ _ ?_);simp [tP,amR.2 (show b.length≤i by omega)])
theorem nA{limit:Int}:∀ {l:List Int} {last:Int},(∀ x ∈ l,last<x∧x<limit)→l.Pairwise (· < ·)→dA limit last l=ae
 | [],_,_,_=>rfl
 | n::r,last,h,b=>by
  have d:=h n alo;rw [amV]at b;simp only [dA,decide_eq_true d.1,decide_eq_true d.2,amj];exact nA (fun x g=>⟨b.1 x g,(h x (alq _ g)).2⟩) b.2
def Up(l:List Int)(n:Nat):Prop:=(∀ x ∈ l,0≤x∧x<n)∧l.Pairwise (· < ·)∧l.length≤n
theorem Up.nil:Up [] 0:=⟨by simp,List.Pairwise.nil,by simp⟩
theorem Up.skip{l:List Int}{n:Nat}(h:Up l n):Up l (n+1):=⟨fun x b=>by have:=h.1 x b;omega,h.2.1,by have:=h.2.2;omega⟩
theorem Up.app{l:List Int}{n:Nat}(h:Up l n):Up (l++[(n:Int)]) (n+1):=by
 refine⟨fun x d=>?_,?_,by simp;exact h.2.2⟩
 ·rcases alj.1 d with d | d
  ·have:=h.1 x d;omega
  ·simp at d;subst d;omega
 ·rw [al7];exact⟨h.2.1,alY _ _,fun a g b hb=>by simp at hb;subst hb;have:=h.1 a g;omega⟩
theorem Up.rising{l:List Int}{n:Nat}(h:Up l n):dA n (-1) l=ae:=nA (fun x b=>by have:=h.1 x b;omega) h.2.1
theorem lI(l:List Int):bO 1 (ints l):=bO.map fun _=>rfl
structure FI(b:V)(fr aM:Nat)(hd cy:List Int)(ch cc:C)(t:T)(J:an):Prop where
 res:J[0]?=aa (.box [.f .aA,.f (fi 0),.f (fi 0),.f .aA] 0)
 pb:J[1]?=aa (.box [ch,.f (fi fr),.f (fi aM),cc] 0)
 lh:LR J ch 1 (ints hd)
 lc:LR J cc 1 (ints cy)
 ne:∀ i,aU ch=aa i→aU cc≠aa i
 g0:t.g 0=b
 g2:t.g 2=.c (.ptr 0 0 0)
 g3:t.g 3=.c (.ptr 1 0 0)
section
variable{b:V}{fr aM:Nat}{hd cy:List Int}{ch cc:C}{t:T}{J:an}
theorem FI.to(k:FI b fr aM hd cy ch cc t J){d:T}(g0:d.g 0=b)(g2:d.g 2=.c (.ptr 0 0 0))(g3:d.g 3=.c (.ptr 1 0 0)):FI b fr aM hd cy ch cc d J:=⟨k.res,k.pb,k.lh,k.lc,k.ne,g0,g2,g3⟩
theorem FI.Z3(k:FI b fr aM hd cy ch cc t J)(hl:cy.length≤1000)(n:Int) :
  ∃ m j,bF (J++[.box [.f (fi n)] 0]) 1 8 (.c cc) (.c (.sl J.length 0 1 1 0 1))=aa (.c m,j)∧dr j (.ptr 1 3 0) [m]=aa (j.set 1 (.box [ch,.f (fi fr),.f (fi aM),m] 0)) ∧
   ∀ x:T,x.g 0=b→x.g 2=.c (.ptr 0 0 0)→x.g 3=.c (.ptr 1 0 0)→FI b fr aM hd (cy++[n]) ch m x (j.set 1 (.box [ch,.f (fi fr),.f (fi aM),m] 0)):=by
 obtain⟨A,d⟩:=aN (J++[.box ([fi n].map .f) 0]:an);have up:∀ i y,J[i]?=aa y→A[i]?=aa y:=fun i y hy=>by rw [d,AT (aj hy)];exact hy
 have u:LR A cc 1 (ints cy):=by rw [d];exact k.lc.push _
 have B:A[J.length]?=aa (.box ([fi n].map .f) 0):=by rw [d];simp
 obtain⟨m,j,l,q,s,E⟩:=u.app (lI cy) (by decide) (row:=[fi n]) rfl (bytes:=8) (dG (by simp [ints];omega) (by decide)) B;have z:∀(i:Nat) (cs:List C) (fl:Nat),J[i]?=aa (.box cs fl)→j[i]?=aa (.box cs fl):=fun i cs fl hy=>s.2 i _ (up _ _ hy) (u.bz (up _ _ hy));have g:=z _ _ _ k.pb;have H:ints cy++[[fi n]]=ints (cy++[n]):=by simp [ints]
 rw [H]at q;have v:LR j ch 1 (ints hd):=k.lh.bu fun i y hy hi=>s.2 i y (up _ _ hy) (k.ne i hi);refine⟨m,j,by rw [d]at l;exact l,by simp [dr,g,over],fun x g0 g2 g3=>⟨?_,BY (aj g),v.set (v.bz g) _,q.set (q.bz g) _,?_,g0,g2,g3⟩⟩
 ·rw [sh (by decide)];exact z _ _ _ k.res
 ·intro i hi;rcases E with e | e
  ·rw [e];exact k.ne i hi
  ·rw [e];intro F;cases F;have:=k.lh.lt hi;have h2:A.length=J.length+1:=by rw [d];simp
   omega
theorem FI.Ul(k:FI b fr aM hd cy ch cc t J)(hl:hd.length≤1000)(n:Int) :
  ∃ m j,bF (J++[.box [.f (fi n)] 0]) 1 8 (.c ch) (.c (.sl J.length 0 1 1 0 1))=aa (.c m,j)∧dr j (.ptr 1 0 0) [m]=aa (j.set 1 (.box [m,.f (fi fr),.f (fi aM),cc] 0)) ∧
   ∀ z:T,z.g 0=b→z.g 2=.c (.ptr 0 0 0)→z.g 3=.c (.ptr 1 0 0)→FI b fr aM (hd++[n]) cy m cc z (j.set 1 (.box [m,.f (fi fr),.f (fi aM),cc] 0)):=by
 obtain⟨B,d⟩:=aN (J++[.box ([fi n].map .f) 0]:an);have up:∀ i y,J[i]?=aa y→B[i]?=aa y:=fun i y hy=>by rw [d,AT (aj hy)];exact hy
 have u:LR B ch 1 (ints hd):=by rw [d];exact k.lh.push _
 have E:B[J.length]?=aa (.box ([fi n].map .f) 0):=by rw [d];simp
 obtain⟨m,j,l,q,s,F⟩:=u.app (lI hd) (by decide) (row:=[fi n]) rfl (bytes:=8) (dG (by simp [ints];omega) (by decide)) E;have A:∀(i:Nat) (cs:List C) (fl:Nat),J[i]?=aa (.box cs fl)→j[i]?=aa (.box cs fl):=fun i cs fl hy=>s.2 i _ (up _ _ hy) (u.bz (up _ _ hy));have g:=A _ _ _ k.pb;have H:ints hd++[[fi n]]=ints (hd++[n]):=by simp [ints]
 rw [H]at q;have v:LR j cc 1 (ints cy):=k.lc.bu fun i y hy hi=>s.2 i y (up _ _ hy) (fun e=>k.ne i e hi);refine⟨m,j,by rw [d]at l;exact l,by simp [dr,g,over],fun z g0 g2 g3=>⟨?_,BY (aj g),q.set (q.bz g) _,v.set (v.bz g) _,?_,g0,g2,g3⟩⟩
 ·rw [sh (by decide)];exact A _ _ _ k.res
 ·intro i hi x;rcases F with e | e
  ·rw [e]at hi;exact k.ne i hi x
  ·rw [e]at hi;cases hi;have:=k.lc.lt x;have h2:B.length=J.length+1:=by rw [d];simp
   omega
end
end Go.Proofs.YthkmdpgdicohdaaGreat
