/-
  ad5 the nA kH and the mP answer, for all arguments of their kind, in the small machine: part 1.
-/
import Derived.Test.YthkmdpgdicohdaaGreatTab
import Derived.Test.YthkmdpgdicohdaaGreatK3
import Derived.Test.YthkmdpgdicohdaaGreatK4
import Derived.KernelRfl
open Option renaming some → aa,none → ab
open Bool renaming true → ae,false → ag
open List renaming drop_eq_getElem_cons → alv, getElem_mem → IT, getElem?_append_left → AT, take_add_one → aly, getElem?_eq_getElem → By, mem_append → aln, mem_singleton → alm, pairwise_append → ama, append_assoc → alU, pairwise_cons → amY, mem_cons → alW, take_length → alw, pairwise_singleton → al1, drop_length → anb, all_eq_true → alA, map_congr_left → amJ, mem_map → alC, pairwise_iff_getElem → alR, length_map → alq, getElem_map → amN, take_of_length_le → alz, getElem_of_mem → alB, mem_take_iff_getElem → al6, map_cons → alo, getElem?_set_ne → sh, mem_cons_self → alr, mem_cons_of_mem → alu, getElem?_set_self → BY, drop_zero → amd, length_append → alj, take_take → am9, getElem?_append_right → alp, mem_append_left → alT, mem_append_right → amw, map_append → amo, getElem?_eq_none_iff → amU
open Bool renaming true_and → amm, and_eq_true → If
open Nat renaming le_refl → alk, zero_add → amb, gcd → amW
open Int renaming toNat_natCast → alJ, tmod_eq_emod_of_nonneg → amH, tdiv_eq_ediv_of_nonneg → am3, ediv_nonneg → amr, le_trans → amy, ediv_le_self → amC, mul_nonneg → ams, mul_le_mul → amE, emod_nonneg → amc, emod_lt_of_pos → al9, mul_neg → ans, mul_le_mul_of_nonneg_left → alF, emod_eq_emod_iff_emod_sub_eq_zero → anq, dvd_mul_right → anj, gcd → amf, lt_or_le → amz, dvd_refl → amL, le_of_dvd → amn, emod_add_mul_ediv → al8, mul_comm → ami, mul_sub → ant, mul_assoc → ang, mul_left_comm → anJ, dvd_sub → amX, dvd_mul_left → anA, dvd_trans → amB, gcd_dvd_left → ann, gcd_pos_of_ne_zero_left → amt, ediv_mul_cancel → anH, natCast_mul → ane, mul_le_mul_of_nonneg_right → anD, le_refl → amM, mul_one → anB
open Option.some renaming inj → amS
set_option linter.unusedVariables false
set_option linter.constructorNameAsVariable false
set_option linter.unusedSimpArgs false
set_option linter.unusedSectionVars false
set_option linter.unnecessarySimpa false
set_option maxRecDepth 100000
namespace Go.Proofs.YthkmdpgdicohdaaGreat
open Go Km
def dj(n lo hi:Int):Bool:=decide (lo≤n)&&decide (n≤hi)
theorem J_{n lo hi:Int}(h:dj n lo hi=ae):lo≤n∧n≤hi:=by simpa [dj]using h
structure aI where
 hg:Tg
 head:List Int
 fr:Int
 aM:Int
 cg:Tg
 bf:List Int
def aI.row(p:aI):List FC:=[sl p.hg (ints p.head),fi p.fr,fi p.aM,sl p.cg (ints p.bf)]
def aK(l:List aI):List (List FC):=l.map aI.row
@[simp] theorem zW (l:List aI):(aK l).length=l.length:=by simp [aK]
theorem bD(l:List aI):bO 4 (aK l):=bO.map fun _=>rfl
theorem cQ{l:List aI}{j:Nat}(b:j<l.length):(aK l)[j]?=aa l[j].row:=by simp [aK,b]
def dA(limit last:Int):List Int→Bool
 | []=>ae| n::r=>decide (last<n)&&decide (n<limit)&&dA limit n r
theorem xC{limit last:Int}{l:List Int}{j:Nat}(b:j<l.length):dA limit last (l.drop j)=(decide (last<l[j])&&decide (l[j]<limit)&&dA limit l[j] (l.drop (j+1))):=by
 rw [alv b];rfl
def cF(p:aI):Bool:=decide (0≤p.fr)&&decide (p.fr≤1099511627776)&&decide (1≤p.aM)&&decide (p.aM≤1099511627776) &&
 decide ((p.head.length:Int)+p.bf.length≤1048576)&&dA p.fr (-1) p.head&&dA p.aM (-1) p.bf
theorem JS(g:Tg)(l:List Int)(limit:Int)(A:l.length≤9223372036854775807):Kf tab 124 [.c (.f (sl g (ints l))),vi limit] (vb (dA limit (-1) l)):=by
 refine dM rfl rfl fun H Q q=>?_;apply ai;simp;apply ai;simp;apply au;apply ai;simp;refine bZ l.length (fun j t H'=>t.g 1=vi limit∧t.g 8=.c (.f (sl g (ints l)))∧H=H'∧∃ last,t.g 5=vi last∧dA limit (-1) l=dA limit last (l.drop j)) A (by decide) (by decide) (by simp) (by simp) (by simp) ?_ ?_
 ·rintro j t _ x ⟨d,m,rfl,last,u,b⟩ s v next
  rw [xC x]at b;refine az ?_;apply ai;simp [s,m,bG,x,eh];apply au;apply ai;simp [u,d];by_cases y:l[j]≤last
  ·simp [y];refine av (by simp) ?_;apply ai;simp;refine aD (q _ _ ?_);simp [b,show¬ last<l[j] by omega]
  simp [y,d];by_cases z:limit≤l[j]
  ·simp [z];refine av (by simp) ?_;apply ai;simp;refine aD (q _ _ ?_);simp [b,show¬ l[j]<limit by omega]
  simp [z];refine aF (by simp) ?_;refine aP ?_;refine aq (.inl rfl) ?_;simp;refine ax (next _ _ ?_ (by simp [s]) (by simp [v]));rw [decide_eq_true (by omega),decide_eq_true (by omega)]at b;exact⟨by simp [d],by simp [m],rfl,l[j],by simp,by simpa using b⟩
 ·rintro t _ ⟨d,m,rfl,last,u,b⟩ s v;apply ai;simp;refine aD (q _ _ ?_);simp [b,dA]
theorem nC(g:Tg)(l:List Int)(limit:Int)(b:l.length≤9223372036854775807) :
  bX tab 124 [.c (.f (sl g (ints l))),vi limit]=Eq (vb (dA limit (-1) l)):=(JS g l limit b).eq
theorem Ka{n:Int}(b:9223372036854775807<n)(d:n≤18446744073709551615):IntKind.wrap .i64 n=n-18446744073709551616:=by
 simp only [IntKind.wrap,IntKind.bits,IntKind.signed];simp;omega
theorem oe:∀(l:List Int) (limit last:Int),dA limit last l=ae→l.length=0∨last+l.length<limit
 | [],_,_,_=>.inl rfl
 | n::r,limit,last,h=>by
  simp [dA]at h;have:=oe r limit n h.2;simp;omega
theorem afF(p:aI)(v:p.head.length≤9223372036854775807)(x:p.bf.length≤9223372036854775807) :
  Kf tab 82 [.a (p.row.map .f)] (vb (cF p)):=by
 refine dM rfl rfl fun H Q d=>?_;apply ai;simp [aI.row];apply ai;simp;by_cases l:0≤p.fr
 case neg=>
  simp [l];refine aD (d _ _ ?_);simp [cF,l]
 simp [l];by_cases m:p.fr≤1099511627776
 case neg=>
  simp [m];refine aD (d _ _ ?_);simp [cF,m]
 simp [m];by_cases q:1≤p.aM
 case neg=>
  simp [q];refine aD (d _ _ ?_);simp [cF,q]
 simp [q];by_cases g:p.aM≤1099511627776
 case neg=>
  simp [g];refine aD (d _ _ ?_);simp [cF,g]
 by_cases y:p.head.length+p.bf.length≤9223372036854775807
 case neg=>
  have e:IntKind.wrap .i64 ((p.head.length:Int)+p.bf.length)=(p.head.length:Int)+p.bf.length-18446744073709551616:=Ka (by omega) (by omega);simp [g,e,show(p.head.length:Int)+p.bf.length-18446744073709551616≤1048576 by omega,nC p.hg p.head p.fr v];cases j:dA p.fr (-1) p.head
  ·simp;refine aD (d _ _ ?_);simp [cF,j]
  simp [nC p.cg p.bf p.aM x];have u:dA p.aM (-1) p.bf=ag:=by
   have a:=oe _ _ _ j;cases u:dA p.aM (-1) p.bf
   ·rfl
   ·have b:=oe _ _ _ u;omega
  refine aD (d _ _ ?_);simp [cF,u]
 simp [g,aO (n:=(p.head.length:Int)+p.bf.length)];by_cases s:(p.head.length:Int)+p.bf.length≤1048576
 case neg=>
  simp [s];refine aD (d _ _ ?_);simp [cF,s]
 simp [s,nC p.hg p.head p.fr v];cases j:dA p.fr (-1) p.head
 ·simp;refine aD (d _ _ ?_);simp [cF,j]
 simp [nC p.cg p.bf p.aM x];refine aD (d _ _ ?_);simp [cF,l,m,q,g,s,j]
def aI.Sm(p:aI):Prop:=p.head.length≤9223372036854775807∧p.bf.length≤9223372036854775807
theorem qu(p:aI)(h:p.Sm):bX tab 82 [.a (p.row.map .f)]=Eq (vb (cF p)):=(afF p h.1 h.2).eq
theorem jN{p:aI}(h:cF p=ae):p.Sm:=by
 simp [cF]at h;exact⟨by omega,by omega⟩
structure cE where
 tg:Tg
 fs:List aI
def cE.row(t:cE):List FC:=[sl t.tg (aK t.fs)]
def aB(l:List cE):List (List FC):=l.map cE.row
@[simp] theorem ab3 (l:List cE):(aB l).length=l.length:=by simp [aB]
theorem eZ(l:List cE):bO 1 (aB l):=bO.map fun _=>rfl
theorem gd{l:List cE}{j:Nat}(b:j<l.length):(aB l)[j]?=aa l[j].row:=by simp [aB,b]
def cE.Sm(t:cE):Prop:=t.fs.length≤9223372036854775807∧∀ p ∈ t.fs,p.Sm
def jd(t:cE):Bool:=decide (1≤(t.fs.length:Int))&&decide ((t.fs.length:Int)≤4)&&t.fs.all cF
def iH(l:List cE):Bool:=decide ((l.length:Int)≤64)&&l.all jd
theorem TH{b:Type}{l:List b}{p:b→Bool}{j:Nat}(d:j<l.length):(l.drop j).all p=(p l[j]&&(l.drop (j+1)).all p):=by
 rw [alv d,List.all_cons]
theorem ad7(p:aI)(h:p.Sm):Kf tab 81 [.a (p.row.map .f)] (vb (!cF p)):=by
 refine dM rfl rfl fun H Q d=>?_;have b:=qu p h;simp [aI.row]at b;apply ai;simp [aI.row];apply ai;simp [b];refine aD (d _ _ ?_);simp
theorem Iv(g:Tg)(l:List aI)(d:l.length≤9223372036854775807)(h:∀ p ∈ l,p.Sm) :
  bX tab 80 [.c (.f (sl g (aK l))),.c (.f (.fn 81 []))]=Eq (vb (l.any fun p=>!cF p)):=
 (jG Ty (ns TA l aI.row (fun r=>.a (r.row.map .f)) (fun p=>!cF p) g 81 [] d
  (fun j b H=>cR (bD l) (cQ b)) (fun p m=>ad7 p (h p m)))).eq
theorem sX(g:Tg)(l:List cE)(E:l.length≤9223372036854775807)(h:∀ t ∈ l,t.Sm):Kf tab 50 [.a [.f (sl g (aB l))]] (vb (iH l)):=by
 refine dM rfl rfl fun H Q s=>?_;apply ai;simp;apply au;apply ai;simp;by_cases y:(64:Int)<l.length
 ·simp [y];refine av (by simp) ?_;apply ai;simp;refine aD (s _ _ ?_);simp [iH,show¬ (l.length:Int)≤64 by omega]
 simp [y];refine aF (by simp) ?_;refine aP ?_;apply au;apply ai;simp;refine bZ l.length (fun j t H'=>t.g 10=.c (.f (sl g (aB l)))∧(∃ J,H'=H++J)∧l.all jd=(l.drop j).all jd) E (by decide) (by decide) (by simp) (by simp) (by simp) ?_ ?_
 ·rintro j t _ m ⟨eH,⟨J,rfl⟩,d⟩ u v next
  rw [TH m]at d;have x:=h l[j] (IT m);have b:=mG (H:=H++J) (k:=0) (eZ l) (gd m) rfl;refine az ?_;apply ai;simp at b;simp [u,eH,bG,m,b];have bad:jd l[j]=ag→∀(t:T) (J:an) k,WP tab 50 ab (.code (.region [⟨D 2,.cV (.k (.c (.f (.bool ag)))),ab⟩] [])::.code .ret::k) ⟨t,[],H++J⟩ Q:=by
   intro B t J k;refine aq (.inl rfl) ?_;simp;refine aD (s _ _ ?_);simp [iH,d,B]
  apply ai;simp;by_cases z:(l[j].fs.length:Int)<1
  ·simp [z];exact av (by simp) (au (bad (by simp [jd,show¬ 1≤(l[j].fs.length:Int) by omega]) _ _ _))
  simp [z];by_cases A:(4:Int)<l[j].fs.length
  ·simp [A];exact av (by simp) (au (bad (by simp [jd,show¬ (l[j].fs.length:Int)≤4 by omega]) _ _ _))
  simp [A,Iv l[j].tg l[j].fs x.1 x.2];cases q:l[j].fs.any fun p=>!cF p
  ·have:jd l[j]=ae:=by
    simp [jd]at q ⊢;exact⟨⟨by omega,by omega⟩,q⟩
   refine aF (by simp) ?_;refine aP (ax (next _ _ ?_ (by simp [u]) (by simp [v])));rw [this,amm]at d;exact⟨by simp [eH],⟨_,rfl⟩,d⟩
  ·exact av (by simp) (au (bad (by simp [jd]at q ⊢;intro _ _;exact q) _ _ _))
 ·rintro t _ ⟨eH,⟨J,rfl⟩,d⟩ u v;apply ai;simp;refine aD (s _ _ ?_);simp [iH,d,show(l.length:Int)≤64 by omega]
theorem oR(a:Int):bX tab 65 [vi a]=Eq (vb ag):=(show Kf tab 65 [vi a] (vb ag) by
 refine dM rfl rfl fun H Q b=>?_;apply ai;simp;apply ai;simp;refine aD (b _ _ ?_);simp).eq
def gi(a b:Int):Int:=if a<b then -1 else if b<a then 1 else 0
theorem AD(a b:Int):Kf tab 33 [vi a,vi b] (vi (gi a b)):=by
 refine dM rfl rfl fun H Q g=>?_;apply ai;simp;apply ai;simp [oR];apply ai;simp [oR];apply au;apply ai;simp;refine aW (by simp) ?_;apply au;apply ai;simp;refine aW (by simp) ?_;apply au;apply ai;simp;by_cases h:a<b
 ·refine av (by simp [h]) ?_;apply ai;simp;refine aD (g _ _ ?_);simp [gi,h]
 refine aW (by simp [h]) ?_;apply au;apply ai;simp;by_cases d:b<a
 ·refine av (by simp [d]) ?_;apply ai;simp;refine aD (g _ _ ?_);simp [gi,h,d]
 refine aW (by simp [d]) ?_;apply ai;simp;refine aD (g _ _ ?_);simp [gi,h,d]
theorem sE(a b:Int):bX tab 33 [vi a,vi b]=Eq (vi (gi a b)):=(AD a b).eq
def Bg:List Int→Int
 | []=>0| a::r=>if a=0 then Bg r else a
theorem UY{l:List Int}{j:Nat}(b:j<l.length):Bg (l.drop j)=if l[j]=0 then Bg (l.drop (j+1))else l[j]:=by
 rw [alv b];rfl
theorem aiR(g:Tg)(l:List Int)(x:l.length≤9223372036854775807):Kf tab 32 [.c (.f (sl g (ints l)))] (vi (Bg l)):=by
 refine dM rfl rfl fun H Q s=>?_;apply ai;simp;apply ai;simp;apply au;apply ai;simp;refine bZ l.length (fun j t H'=>t.g 3=vi 0∧t.g 6=.c (.f (sl g (ints l)))∧H=H'∧Bg l=Bg (l.drop j)) x (by decide) (by decide) (by simp) (by simp) (by simp) ?_ ?_
 ·rintro j t _ v ⟨d,m,rfl,b⟩ q u next
  rw [UY v]at b;refine az ?_;apply ai;simp [q,m,bG,v,eh];apply ai;simp [d];by_cases h:l[j]=0
  ·refine aF (by simp [h]) ?_;refine aP (ax (next _ _ ?_ (by simp [q]) (by simp [u])));rw [ba h]at b;exact⟨by simp [d],by simp [m],rfl,b⟩
  ·refine av (by simp [h]) ?_;apply ai;simp;refine aD (s _ _ ?_);simp [b,h]
 ·rintro t _ ⟨d,m,rfl,b⟩ q u;apply ai;simp [d];refine aD (s _ _ ?_);simp [b,Bg]
theorem acp(g:Tg)(l:List Int)(b:l.length≤9223372036854775807):bX tab 32 [.c (.f (sl g (ints l)))]=Eq (vi (Bg l)):=(aiR g l b).eq
theorem aek(n lo hi:Int):Kf tab 46 [vi n,vi lo,vi hi] (vb (dj n lo hi)):=by
 refine dM rfl rfl fun H Q b=>?_;apply ai;simp;apply ai;by_cases h:lo≤n
 ·simp [h];refine aD (b _ _ ?_);simp [dj,h]
 ·simp [h];refine aD (b _ _ ?_);simp [dj,h]
@[simp] theorem akr (n lo hi:Int):bX tab 46 [vi n,vi lo,vi hi]=Eq (vb (dj n lo hi)):=(aek n lo hi).eq
structure aC where
 day:Int
 fr:Int
 to:Int
deriving DecidableEq
def aC.row(x:aC):List FC:=[fi x.day,fi x.fr,fi x.to]
def aG(l:List aC):List (List FC):=l.map aC.row
@[simp] theorem iD (l:List aC):(aG l).length=l.length:=by simp [aG]
theorem bC(l:List aC):bO 3 (aG l):=bO.map fun _=>rfl
theorem cW{l:List aC}{j:Nat}(b:j<l.length):(aG l)[j]?=aa l[j].row:=by simp [aG,b]
def fv(x y:aC):Int:=Bg [gi x.fr y.fr,gi x.day y.day,gi x.to y.to]
theorem zP(x y:aC):Kf tab 29 [.a (x.row.map .f),.a (y.row.map .f)] (vi (fv x y)):=by
 refine dM rfl rfl fun H Q d=>?_;have b:=acp .fs [gi x.fr y.fr,gi x.day y.day,gi x.to y.to] (by simp);simp [ints,sl,Tg.fc]at b;apply ai;simp [aC.row];apply ai;simp [sE,deep,jI,po,b];refine aD (d _ _ ?_);simp [fv]
def oX(x y:aC):Bool:=if x.fr=y.fr then(if x.day=y.day then decide (x.to<y.to)else decide (x.day<y.day))else decide (x.fr<y.fr)
theorem wX(x y:aC):bX tab 61 [.a (x.row.map .f),.a (y.row.map .f)]=Eq (vb (oX x y)):=by
 refine Kf.eq (dM rfl rfl fun H Q g=>?_);apply ai;simp [aC.row];apply au;apply ai;simp;by_cases b:x.fr=y.fr
 ·refine aW (by simp [b]) ?_;apply au;apply ai;simp;by_cases d:x.day=y.day
  ·refine aW (by simp [d]) ?_;apply ai;simp;refine aD (g _ _ ?_);simp [oX,b,d]
  ·refine av (by simp [d]) ?_;apply ai;simp;refine aD (g _ _ ?_);simp [oX,b,d]
 ·refine av (by simp [b]) ?_;apply ai;simp;refine aD (g _ _ ?_);simp [oX,b]
def aC.lt(x y:aC):Prop:=x.fr<y.fr∨x.fr=y.fr∧(x.day<y.day∨x.day=y.day∧x.to<y.to)
theorem nv(x y:aC):oX x y=ae↔x.lt y:=by
 unfold oX aC.lt;by_cases b:x.fr=y.fr
 ·by_cases d:x.day=y.day
  ·simp [b,d]
  ·simp [b,d]
 ·simp [b]
theorem kQ(x y:aC):fv x y<0↔x.lt y:=by
 unfold fv aC.lt;simp only [Bg,gi]
 repeat' split
 all_goals omega
theorem aC.lt_trans{x y z:aC}(h:x.lt y)(b:y.lt z):x.lt z:=by unfold aC.lt at *;omega
theorem aC.UE{x y:aC}(h:¬ x.lt y)(d:x≠y):y.lt x:=by
 obtain⟨a,b,c⟩:=x;obtain⟨a',g,j⟩:=y;unfold aC.lt at *;simp only [ne_eq,aC.mk.injEq]at d;simp only at h ⊢;omega
theorem aC.aeI{x:aC}:¬ x.lt x:=by unfold aC.lt;omega
theorem Jj(g:Tg)(l:List aC)(x:aC)(hl:l.length≤10)(hs:l.Pairwise aC.lt):∃ g' K,K.length≤l.length+1∧(K.Pairwise aC.lt∧∀ y,y ∈ K↔y=x∨y ∈ l)∧bX tab 23 [.c (.f (sl g (aG l))),.a (x.row.map .f)]=Eq (.c (.f (sl g' (aG K)))):=by
 obtain⟨r,⟨g',K,c_,hS,rfl⟩,h⟩:∃ r,(∃ g' K,K.length≤l.length+1∧(K.Pairwise aC.lt∧∀ y,y ∈ K↔y=x∨y ∈ l)∧r=.c (.f (sl g' (aG K))))∧bX tab 23 [.c (.f (sl g (aG l))),.a (x.row.map .f)] r:=by
  refine eQ rfl rfl fun Q hQ=>?_;apply ai;simp [aC.row];apply ai;simp;apply ai;simp;apply au;apply ai;simp;have W:∀(H:an) (v:V) (o:List aC) (y:aC),o.length≤30→LB ae H 3 v .es (aG o)→∃ v' H',bF (H++[.box [.f (fi y.day),.f (fi y.fr),.f (fi y.to)] 0]) 3 24 v (.c (.sl H.length 0 1 1 0 3))=aa (v',H')∧LB ae H' 3 v' .es (aG (o++[y]))∧(∀(b:Nat) cs fl,H[b]?=aa (.box cs fl)→H'[b]?=aa (.box cs fl)):=by
   intro H v o y Y A;obtain⟨v',H',X,U,-,e4⟩:=LB.app (H:=H++[.box [.f (fi y.day),.f (fi y.fr),.f (fi y.to)] 0]) (row:=y.row) (bytes:=24) (y:=.c (.sl H.length 0 1 1 0 3)) (A.push _) (bC _) rfl (by decide)
    (nf (fl:=0) (cs:=y.row.map .f) (by simp [aC.row]) rfl) (zF _) (by simp [cN];omega)
   refine⟨v',H',X,by simpa [aG]using U,fun b cs fl hb=>e4 _ _ _ ?_⟩;rw [AT (aj hb)];exact hb
  refine iG l.length (fun j t H=>t.g 0=.c (.f (sl g (aG l)))∧t.g 3=.c (.ptr 0 0 0)∧H[0]?=aa (.box [.f (fi x.day),.f (fi x.fr),.f (fi x.to)] 0)∧∃ d o,t.g 6=vb d∧LB ae H 3 (t.g 5) .es (aG o)∧o.length≤j+1∧(d=ag→o=l.take j∧∀ y ∈ o,y.lt x)∧(d=ae→(o++l.drop j).Pairwise aC.lt∧∀ y,y ∈ o↔y=x∨y ∈ l.take j)) (by omega) rfl (by simp)
   ⟨by simp,by simp,by simp,ag,[],by simp,by simpa [aG]using LB.es0,by simp,by simp,by simp⟩ ?_ ?_ ?_
  ·rintro j t H L S ⟨u,E,F,d,o,N,A,Y,hd,q⟩ O hL;simp [O,u];exact hL _ ⟨by simp [u],by simp [E],F,d,o,by simp [N],by simpa using A,Y,hd,q⟩ (by simp [O]) (by simp)
  ·rintro j t H S ⟨u,E,F,d,o,N,A,Y,hd,q⟩ O next
   have s:=fun H:an=>cR (H:=H) (bC l) (cW S);have J:=wX x l[j];simp [aC.row]at s J;refine az ?_;apply au;apply ai;simp [u,E,O,bG,S,s,F];have M:∀(t:T) (H:an) (o:List aC) (d:Bool),t.g 0=.c (.f (sl g (aG l)))→t.g 3=.c (.ptr 0 0 0)→t.g 7=vi j→t.g 6=vb d→H[0]?=aa (.box [.f (fi x.day),.f (fi x.fr),.f (fi x.to)] 0)→LB ae H 3 (t.g 5) .es (aG o) →
     o.length≤j+1→(d=ag→o=l.take j∧(∀ y ∈ o,y.lt x)∧l[j].lt x)→(d=ae→(o++l.drop j).Pairwise aC.lt∧∀ y,y ∈ o↔y=x∨y ∈ l.take j) →
     WP tab 23 ab [.code uO,.inBlock 1,.code (oP 7 13 14),.inLoop (rH 0 7 12 13 14 [⟨D 9,.cV (R 7),ab⟩,⟨D 10,.cV (R 0),ab⟩,⟨D 11,.len (R 10),ab⟩,⟨D 12,.bin .lss (R 9) (R 11),ab⟩] uN),.inBlock 0,.code uP] ⟨t,[],H⟩ Q:=by
    intro t H o d u E g7 N F A Y hd q;have b_:l.take (j+1)=l.take j++[l[j]]:=by rw [aly,By S];rfl
    have c9:l.drop j=l[j]::l.drop (j+1):=alv S;have e_:(l.take j).length=j:=by simp;omega
    have d_:(o++[l[j]]).length≤j+1+1:=by simp;omega
    obtain⟨v',H',X,U,e4⟩:=W H (t.g 5) o l[j] (by omega) A;refine aq (.inl rfl) ?_;simp [u,g7,bG,S,s,X];refine ax (next _ _ ?_ (by simp [g7]));exact⟨by simp [u],by simp [E],e4 _ _ _ F,d,o++[l[j]],by simp [N],by simpa using U,d_,fun h=>by
     obtain⟨a1,B,a3⟩:=hd h;subst a1;refine⟨b_.symm,fun y m=>?_⟩;rcases aln.1 m with m | m
     ·exact B y m
     ·obtain rfl:=alm.1 m;exact a3,fun h=>by
     obtain⟨a1,B⟩:=q h;rw [c9]at a1;refine⟨by simpa using a1,fun y=>?_⟩;rw [b_,aln,aln,B,or_assoc]⟩
   cases hc:(l[j].day == x.day&&(l[j].fr == x.fr&&l[j].to == x.to))
   ·refine aW (by simp) ?_;apply au;apply ai;simp [N];cases d
    ·simp [E,F,u,O,bG,S,s,J];cases a8:oX x l[j]
     ·refine aW (by simp) ?_;exact M _ _ o ag (by simp [u]) (by simp [E]) (by simp [O]) (by simp [N]) F (by simpa using A) (by omega) (fun _=>by
       obtain⟨a1,B⟩:=hd rfl;refine⟨a1,B,aC.UE (x:=x) ?_ ?_⟩
       ·rw [←nv,a8];simp
       ·rintro rfl;simp at hc) (by simp)
     ·refine av (by simp) ?_;obtain⟨v',H',X,U,e4⟩:=W H (t.g 5) o x (by omega) A;obtain⟨a1,B⟩:=hd rfl;have a7:=(nv _ _).1 a8;have f7:o.length≤j:=by rw [a1];simp;omega
      apply ai;simp [E,F,X];refine aq (.inl rfl) ?_;simp;refine M _ _ (o++[x]) ae (by simp [u]) (by simp [E]) (by simp [O]) (by simp) (e4 _ _ _ F) (by simpa using U) (by simp;omega) (by simp) fun _=>⟨?_,fun y=>?_⟩
      ·have a_:(l.take j++l.drop j).Pairwise aC.lt:=by rw [List.take_append_drop];exact hs
       rw [ama]at a_;obtain⟨b1,b2,b3⟩:=a_;rw [alU,ama,a1];refine⟨b1,?_,?_⟩
       ·rw [List.singleton_append,amY];refine⟨fun y m=>?_,b2⟩;rw [alv S]at m b2;rcases alW.1 m with rfl | m
        ·exact a7
        ·exact aC.lt_trans a7 ((amY.1 b2).1 y m)
       ·intro y m z Z;rcases aln.1 Z with Z | Z
        ·obtain rfl:=alm.1 Z;exact B y (a1▸m)
        ·exact b3 y m z Z
      ·rw [aln,a1,alm,or_comm]
    ·simp;refine aW (by simp) ?_;exact M _ _ o ae (by simp [u]) (by simp [E]) (by simp [O]) (by simp [N]) F (by simpa using A) Y (by simp) fun _=>q rfl
   ·refine av (by simp) ?_;apply ai;simp [u];refine aD (hQ _ _ _ ⟨g,l,by omega,⟨hs,fun y=>⟨.inr,?_⟩⟩,rfl⟩ ?_)
    ·rintro(rfl | m)
     ·have:y=l[j]:=by
       obtain⟨a,b,c⟩:=y;simp only [If,beq_iff_eq]at hc;cases d9:l[j]with
       | mk a' b' c'=>
        rw [d9]at hc;simp at hc;obtain⟨rfl,rfl,rfl⟩:=hc;rfl
      rw [this];exact IT S
     ·exact m
    simp
  ·rintro t H ⟨u,E,F,d,o,N,A,Y,hd,q⟩ O;apply au;apply ai;simp [N];cases d
   ·refine av (by simp) ?_;obtain⟨v',H',X,U,e4⟩:=W H (t.g 5) o x (by omega) A;refine aq (.inl rfl) ?_;simp [E,F,X];apply ai;simp;obtain⟨cv,I,_⟩:=U.len;have:=U.fzV (bC _);obtain⟨a1,B⟩:=hd rfl;rw [alw]at a1;subst a1;refine aD (hQ _ _ _ ⟨.es,o++[x],by simp,⟨?_,fun y=>by rw [aln,alm,or_comm]⟩,rfl⟩ ?_)
    ·rw [ama];exact⟨hs,al1 _ _,fun y m z Z=>by obtain rfl:=alm.1 Z;exact B y m⟩
    rw [I]at this;simp [I];simpa using this
   ·refine aW (by simp) ?_;apply ai;simp;obtain⟨cv,I,_⟩:=A.len;have:=A.fzV (bC _);obtain⟨a1,B⟩:=q rfl;rw [alw]at B;rw [anb,List.append_nil]at a1;refine aD (hQ _ _ _ ⟨.es,o,Y,⟨a1,B⟩,rfl⟩ ?_);rw [I]at this;simp [I];simpa using this
 exact⟨g',K,c_,hS,bX.eq h⟩
def aC.le(x y:aC):Prop:=¬ y.lt x
@[simp] theorem aC.aj4 (x:aC):x.row.length=3:=rfl
theorem rJ{b:Type}(A:List b)(x y:b)(B:List b):(A++x::B).set A.length y=A++y::B:=by simp
theorem wT(l:List aC)(j:Nat)(x:aC):(aG l).set j x.row=aG (l.set j x):=by simp [aG,List.map_set]
theorem oQ{l:List aC}{j:Nat}{x:aC}(h:l[j]?=aa x):(aG l)[j]?=aa x.row:=by simp [aG,h]
theorem aaN:((List.range 257).all fun n=>match (CF tab 60 60 (.fn 64) [.c (.f (.int .u64 n))] [])with | some (.c (.f (.int .i64 (.ofNat k))),_)=>Nat.ble k 62&&(Nat.beq n 0||Nat.ble (2 ^ k) (2*n)) | _=>ag)=ae:=by kernel_rfl
theorem Ct:Ts tab bA 256:=fun n h=>by
 have j:=aaN;rw [alA]at j;have b:=j n (by simp;omega);split at b
 ·rename_i k H' e;rw [If,Bool.or_eq_true]at b;refine⟨k,(z3 (m:=60) (d:=60) (by rw [e];rfl)).eq,Nat.le_of_ble_eq_true b.1,fun l=>?_⟩;rcases b.2 with g | g
  ·have:=Nat.eq_of_beq_eq_true g;omega
  ·exact Nat.le_of_ble_eq_true g
 ·cases b
theorem J7:adH tab bA 3:=⟨TE,TD,adU,ad3,adS,adT,ad2,
 ad0,ad1,adZ,adV,adW,adY,adX,ad4⟩
def sF:List FC→aC
 | [.int _ a,.int _ b,.int _ c]=>⟨a,b,c⟩| _=>⟨0,0,0⟩
def qd(r:List FC):Prop:=r=(sF r).row
theorem AX(x:aC):qd x.row:=rfl
def U0(r s:List FC):Int:=fv (sF r) (sF s)
theorem T5:tQ qd U0 where
 yN:=fun _ _ h b=>by
  unfold U0 at h b;rw [kQ]at h b;unfold aC.lt at h b;omega
 trans:=fun _ _ _ h b=>by
  unfold U0 at *;rw [kQ]at *;unfold aC.lt at *;omega
theorem Z4{F:Nat}(b:∀ x y:aC,Kf tab F [.a (x.row.map .f),.a (y.row.map .f)] (vi (fv x y))):Cv tab (.c (.f (.fn F []))) qd U0:=by
 intro x y d g H;obtain⟨J,h⟩:=b (sF x) (sF y) H;rw [←show x=(sF x).row from d,←show y=(sF y).row from g]at h;exact⟨F,_,J,by simp [bW],h⟩
theorem I4{rows:List (List FC)}(h:∀ r ∈ rows,qd r):aG (rows.map sF)=rows:=by
 unfold aG;rw [List.map_map]
 conv=>rhs;rw [←List.map_id rows]
 exact amJ fun r b=>(h r b).symm
theorem wS(l:List aC):(aG l).map sF=l:=by
 unfold aG;rw [List.map_map]
 conv=>rhs;rw [←List.map_id l]
 exact amJ fun r _=>rfl
theorem ab0{H:an}{b m F:Nat}{l:List aC}(M:∀ x y:aC,Kf tab F [.a (x.row.map .f),.a (y.row.map .f)] (vi (fv x y)))(U:l.length≤256)(B:RB H b 3 m (aG l)) :
  ∃ r H',Ev tab (.fn 28) [.c (.sl b 0 l.length 0 m 3),.c (.f (.fn F []))] H r H' ∧
   (r=.t []∧Fm b H H'∧∃ d:List aC,RB H' b 3 m (aG d)∧d.Perm l∧d.Pairwise aC.le):=by
 have A:∀ r ∈ aG l,qd r:=fun r u=>by
  obtain⟨x,-,rfl⟩:=alC.1 u;exact AX x
 obtain⟨k,I,-,-⟩:=Ct l.length (by omega);have K:(aG l).length=l.length:=iD l;obtain⟨r,H',g,rfl,f,d,r',z,O⟩:=Vc (n:=l.length) J7 (Z4 M) T5 (by omega) (fun L S=>Ct L (by omega)) _ 0 l.length H (aG l) k rfl (by omega) (alk _) K B (bC l) A (fun k h=>absurd h (by omega));have q:∀ r ∈ d,qd r:=fun r u=>A r (z.1.mem_iff.1 u);have g:=g.eq;have v:IntKind.wrap .u64 (l.length:Int)=l.length:=by rw [tN];omega
 refine cH rfl rfl fun Q N=>?_;apply ai;simp [B.len];refine aq (.inl rfl) ?_;simp at I g;simp [v,I,g];refine cU (N _ _ (.t []) rfl rfl ⟨rfl,f,d.map sF,?_,?_,?_⟩)
 ·rw [I4 q];exact r'
 ·have:=z.1.map sF;rwa [wS]at this
 ·rw [alR];intro i j hi E s;simp only [alq]at hi E;have J:d.length=l.length:=by rw [z.len,K]
  have:=O i j d[i] d[j] (by omega) s (by omega) (By hi) (By E);rw [amN,amN];unfold U0 at this;rw [kQ]at this;exact this
theorem VE{H:an}{F:Nat}:∃ r H',Ev tab (.fn 28) [.c (.f .aA),.c (.f (.fn F []))] H r H'∧(r=.t []∧H'=H):=by
 obtain⟨k,d,-,-⟩:=Ct 0 (by omega);have b:=(CD (σ:=bA) (sz:=3) TE TD (H:=H) (v:=.c (.f .aA)) (cv:=.c (.f (.fn F []))) (lim:=k)).eq;refine cH rfl rfl fun Q g=>?_;apply ai;simp [bh];refine aq (.inl rfl) ?_;have j:IntKind.wrap .u64 0=0:=rfl;simp at d b;simp [j,d,b];exact cU (g _ _ _ rfl rfl ⟨rfl,rfl⟩)
theorem Uy{x y:aC}(h:x.le y)(b:x≠y):x.lt y:=aC.UE h (Ne.symm b)
def eqB(x y:aC):Bool:=x.day == y.day&&(x.fr == y.fr&&x.to == y.to)
theorem rA{x y:aC}:eqB x y=ae↔x=y:=by
 obtain⟨a,b,c⟩:=x;obtain⟨a',d,g⟩:=y;simp [eqB]
theorem Cs{l:List aC}(g:l.Pairwise aC.le){i j:Nat}(b:i<j)(d:j<l.length):(l[i]'(by omega)).le l[j]:=alR.1 g i j (by omega) d b
theorem AA{H:an}{b A:Nat}{l:List aC}(hl:l.length≤1000000)(hs:l.Pairwise aC.le)(F:RB H b 3 A (aG l)) :
  ∃ r H',Ev tab (.fn 30) [.c (.sl b 0 l.length 0 A 3)] H r H' ∧
   (∃ l' R:List aC,r=.c (.sl b 0 l'.length 0 A 3)∧Fm b H H'∧RB H' b 3 A (aG (l'++R))∧l'.length≤l.length∧l'.Pairwise aC.lt∧∀ x,x ∈ l'↔x ∈ l):=by
 refine cH rfl rfl fun Q hQ=>?_;apply ai;simp;apply au;apply ai;simp [F.len];by_cases h2:l.length<2
 ·refine av (by simp;omega) ?_;apply ai;simp;refine aD (hQ _ _ _ rfl (dz (by simp)) ⟨l,[],rfl,Fm.refl _,by simpa using F,alk _,?_,fun _=>Iff.rfl⟩)
  match l,h2 with
  | [],_=>exact List.Pairwise.nil| [x],_=>exact al1 _ _| x::y::r,h=>simp at h;omega
 refine aF (by simp;omega) (aP ?_);apply au;apply ai;simp;refine az ?_;refine bJ (fun n s=>∃(k:Nat) (t:T),s=⟨t,[],H⟩∧n=l.length-k∧1≤k∧k≤l.length∧t.g 0=.c (.sl b 0 l.length 0 A 3)∧t.g 3=vi k∧(l.take k).Pairwise aC.lt) (l.length-1)
  ⟨1,_,rfl,rfl,by omega,by omega,by simp,by simp,?_⟩ ?_
 ·cases l with
  | nil=>simp| cons x r=>simp
 rintro n s ⟨k,t,rfl,rfl,i6,i7,B,E,hp⟩ ih;apply au;apply ai;simp [B,E,F.len];by_cases u:k<l.length
 case neg=>
  refine aF (by simp [u]) ?_;refine bg (k':=[.code mZ]) rfl ?_;apply ai;simp [B];refine aD (hQ _ _ _ rfl (dz (by simp)) ⟨l,[],rfl,Fm.refl _,by simpa using F,alk _,?_,fun _=>Iff.rfl⟩);rwa [alz (by omega)]at hp
 refine av (by simp [u]) (aP ?_);obtain⟨m,rfl⟩:∃ m,k=m+1:=⟨k-1,by omega⟩
 have ix:∀ {H:an} {rows:List (List FC)} (F:RB H b 3 A rows) (o n i:Nat) (hi:i<n),bB H 3 ab (.c (.sl b o n 0 A 3)) (vi i)=aa (.c (.ptr b (o+i*3) A)):=by
  intro H rows F o n i hi;have:=F.idx (n:=n) (c:=0) (k:=.i64) (o:=o) (i:=(i:Int)) (by omega) (by omega);rwa [alJ]at this
 have i1:=ix F 0 l.length (m+1) u;have i0:=ix F 0 l.length m (by omega);have l1:=F.ldr (bC _) (cW (l:=l) (j:=m+1) u);have l0:=F.ldr (bC _) (cW (l:=l) (j:=m) (by omega));rw [amb]at i1 i0;have c1:((m+1:Nat):Int)-1=m:=by omega
 rw [show((m+1:Nat):Int)=(m:Int)+1 by omega]at i1;have c_:l.take (m+1+1)=l.take (m+1)++[l[m+1]]:=by rw [aly,By u];rfl
 apply au;refine az ?_;apply ai;simp [B,E,i1,i0,l1,l0,-ay,aO (n:=(m:Int)),aC.row];cases hc:(l[m+1].day == l[m].day&&(l[m+1].fr == l[m].fr&&l[m+1].to == l[m].to))
 ·
  refine aF (by simp) (aP (ax ?_));refine aq (.inl rfl) ?_;simp [E,aO (n:=(m:Int)+1+1)];refine ih (l.length-(m+2)) _ (by omega) ⟨m+2,_,rfl,rfl,by omega,by omega,by simp [B],by simp;omega,?_⟩;show(l.take (m+1+1)).Pairwise aC.lt;have N:l[m]≠l[m+1]:=fun e=>by
   have:eqB l[m+1] l[m]=ae:=rA.2 e.symm;rw [eqB,hc]at this;cases this
  rw [c_,ama];refine⟨hp,al1 _ _,fun y hy z hz=>?_⟩;obtain rfl:=alm.1 hz;obtain⟨i,hi,rfl⟩:=alB hy;have i4:i<m+1:=by simp at hi;omega
  rw [List.getElem_take];by_cases e:i=m
  ·subst e;exact Uy (Cs hs (by omega) u) N
  ·exact aC.lt_trans (y:=l[m]) (by
    have h1:=alR.1 hp i m (by simp;omega) (by simp;omega) (by omega);simpa using h1) (Uy (Cs hs (by omega) u) N)
 ·
  have f7:l[m+1]=l[m]:=rA.1 hc;have c2:((m+1:Nat):Int)=(m:Int)+1:=by omega
  have O:=F.lV (k:=m+1) u;rw [c2]at O;refine av (by simp) ?_;apply ai;simp [B,E,O];apply au;apply ai;simp;refine az ?_;refine bJ (fun n s=>∃(i:Nat) (t:T) (I:an) (P R:List aC),s=⟨t,[],I⟩∧n=l.length-(m+2+i)∧m+2+i≤l.length∧t.g 0=.c (.sl b 0 l.length 0 A 3)∧t.g 3=vi P.length∧t.g 4=.c (.sl b ((m+1)*3) (l.length-(m+1)) 0 A 3)∧t.g 5=vi ((i:Int)+1) ∧
   Fm b H I∧RB I b 3 A (aG (P++R))∧(P++R).length=l.length∧1≤P.length∧P.length≤m+1+i∧(∀ q,m+1+i≤q→(P++R)[q]?=l[q]?)∧P.Pairwise aC.lt∧∀ x,x ∈ P↔x ∈ l.take (m+2+i)) (l.length-(m+2))
   ⟨0,_,H,l.take (m+1),l.drop (m+1),rfl,rfl,by omega,by simp [B],by simp [E];omega,by simp,by simp,Fm.refl _,by simpa using F,by simp,by simp;omega,by simp;omega,by simp,hp,fun x=>?_⟩ ?_
  ·show x ∈ l.take (m+1)↔x ∈ l.take (m+1+1);rw [c_,aln,alm];refine⟨.inl,fun h=>h.elim id fun e=>?_⟩;rw [e,f7];exact al6.2 ⟨m,by omega,rfl⟩
  rintro n s ⟨i,t,I,P,R,rfl,rfl,hi,B,E,U,W,J,d,v,X,d9,hq,L,g⟩ i3;have Y:=d.len (o:=(m+1)*3) (l:=l.length-(m+1)) (c:=0);apply au;apply ai;simp [U,W,Y];by_cases K:m+2+i<l.length
  case neg=>
   have a_:m+2+i=l.length:=by omega
   refine aF (by simp;omega) ?_;refine bg (k':=[.code pV,.inBlock 1,.code pW,.inLoop pU,.inBlock 0,.code mZ]) rfl ?_;have a8:P.length<l.length:=by omega
   obtain⟨H3,e_,a7,f8⟩:=d.clr (bC _) (zs:=[fi 0,fi 0,fi 0]) (by simpa using v) a8 rfl;have O:=d.lV a8;apply ai;simp [B,E,O,e_];have h_:=a7.Ad (n:=l.length) (k:=P.length) (by omega) (by omega);apply ai;simp [B,E,h_];have e3:(aG (P++R)).take P.length++List.replicate (l.length-P.length) [fi 0,fi 0,fi 0]=aG (P++List.replicate (l.length-P.length) ⟨0,0,0⟩):=by
    simp [aG,aC.row]
   rw [e3]at a7;refine aD (hQ _ _ _ rfl (dz (by simp)) ⟨P,_,rfl,J.trans f8,a7,by omega,L,fun x=>?_⟩);rw [g,a_,alw]
  have ha:(P++R)[m+2+i]?=aa l[m+2+i]:=by rw [hq _ (by omega),By K]
  have d_:(P++R)[m+1+i]?=aa (l[m+1+i]'(by omega)):=by rw [hq _ (by omega),By]
  have j1:=ix d ((m+1)*3) (l.length-(m+1)) (i+1) (by omega);have j0:=ix d ((m+1)*3) (l.length-(m+1)) i (by omega);rw [show(m+1)*3+(i+1)*3=(m+2+i)*3 by omega,show((i+1:Nat):Int)=(i:Int)+1 by omega]at j1;rw [show(m+1)*3+i*3=(m+1+i)*3 by omega]at j0;have d1:=d.ldr (bC _) (oQ ha);have d0:=d.ldr (bC _) (oQ d_);refine av (by simp;omega) (aP ?_);apply au;refine az ?_;apply ai;simp [U,W,j1,j0,d1,d0,-ay,aO (n:=(i:Int)),aC.row];have S:l.take (m+2+(i+1))=l.take (m+2+i)++[l[m+2+i]]:=by
   rw [show m+2+(i+1)=m+2+i+1 by omega,aly,By K];rfl
  have next:∀(t:T) (I:an) (P R:List aC),t.g 0=.c (.sl b 0 l.length 0 A 3)→t.g 3=vi P.length→t.g 4=.c (.sl b ((m+1)*3) (l.length-(m+1)) 0 A 3)→t.g 5=vi ((i:Int)+1) →
    Fm b H I→RB I b 3 A (aG (P++R))→(P++R).length=l.length→1≤P.length→P.length≤m+2+i→(∀ q,m+2+i≤q→(P++R)[q]?=l[q]?)→P.Pairwise aC.lt→(∀ x,x ∈ P↔x ∈ l.take (m+2+(i+1))) →
    WP tab 30 ab [.inBlock 3,.code uS,.inLoop uR,.inBlock 2,.code pV,.inBlock 1,.code pW,.inLoop pU,.inBlock 0,.code mZ] ⟨t,[],I⟩ Q:=by
   intro t I P R B E U W J d v X d9 hq L g;refine ax (aq (.inl rfl) ?_);simp [W,aO (n:=(i:Int)+1+1)];exact i3 (l.length-(m+2+(i+1))) _ (by omega) ⟨i+1,_,I,P,R,rfl,rfl,by omega,by simp [B],by simp [E],by simp [U],by simp,J,d,v,X,by omega,fun q h=>hq q (by omega),L,g⟩
  have f_:(l[m+1+i]'(by omega)).le l[m+2+i]:=Cs hs (by omega) K;cases M:(l[m+2+i].day == l[m+1+i].day&&(l[m+2+i].fr == l[m+1+i].fr&&l[m+2+i].to == l[m+1+i].to))
  ·have N:l[m+1+i]≠l[m+2+i]:=fun e=>by
    have:eqB l[m+2+i] l[m+1+i]=ae:=rA.2 e.symm;rw [eqB,M]at this;cases this
   have c9:=Uy f_ N;have kx:=ix d 0 l.length P.length (by omega);rw [amb]at kx;obtain⟨H3,s3,r3,f3,-⟩:=d.str (bC _) (j:=P.length) (by rw [iD,v];omega) (row:=(l[m+2+i]).row) rfl;rw [wT]at r3;obtain⟨x0,R',rfl⟩:∃ x0 R',R=x0::R':=by
    cases R with
    | nil=>simp at v;omega| cons x0 R'=>exact⟨_,_,rfl⟩
   rw [rJ]at r3;have Z:¬l[m+2+i].day=l[m+1+i].day∨¬l[m+2+i].fr=l[m+1+i].fr∨¬l[m+2+i].to=l[m+1+i].to:=by
    simp at M;omega
   refine av (by simpa using Z) ?_;apply ai;simp only [aC.row,alo,List.map_nil]at s3;simp [B,E,U,W,j1,d1,kx,s3,-ay,-bw,aC.row];refine aq (.inl rfl) ?_;simp [E,aO (n:=(P.length:Int)+1)];have e5:P++l[m+2+i]::R'=(P++[l[m+2+i]])++R':=by simp
   rw [e5]at r3;refine next _ H3 (P++[l[m+2+i]]) R' (by simp [B]) (by simp) (by simp [U]) (by simp [W]) (J.trans f3) r3 (by simpa using v) (by simp) (by simp;omega) (fun q h=>?_) ?_ fun x=>?_
   ·rw [←e5,←rJ P x0,sh (by omega)];exact hq q (by omega)
   ·rw [ama];refine⟨L,al1 _ _,fun y hy z hz=>?_⟩;obtain rfl:=alm.1 hz;obtain⟨q,g_,rfl⟩:=alB ((g y).1 hy);have i8:q<m+2+i:=by simp at g_;omega
    rw [List.getElem_take];by_cases e:q=m+1+i
    ·subst e;exact c9
    ·have h1:=Cs hs (i:=q) (j:=m+1+i) (by omega) (by omega);unfold aC.le aC.lt at *;omega
   ·rw [S,aln,aln,g]
  ·have b_:l[m+2+i]=l[m+1+i]:=rA.1 M;have Z:l[m+2+i].day=l[m+1+i].day∧l[m+2+i].fr=l[m+1+i].fr∧l[m+2+i].to=l[m+1+i].to:=by simpa using M
   refine aF (by simpa using Z) (aP ?_);refine next _ I P R (by simp [B]) (by simp [E]) (by simp [U]) (by simp [W]) J d v X (by omega) (fun q h=>hq q (by omega)) L fun x=>?_
   rw [S,aln,alm,g];refine⟨.inl,fun h=>h.elim id fun e=>?_⟩;rw [e,b_];exact al6.2 ⟨m+1+i,by omega,rfl⟩
abbrev u64(n:Int):V:=.c (.f (.int .u64 n))
theorem iP{n:Int}(b:0≤n)(d:n≤18446744073709551615):IntKind.wrap .u64 n=n:=by
 simp only [IntKind.wrap,IntKind.bits,IntKind.signed];simp;omega
theorem VN{a b:Int}(h:0≤a)(d:0<b):bP .rem (u64 a) (u64 b)=aa (u64 (a % b)):=by
 rw [gV (by omega),amH h]
theorem ajp{a b:Int}(h:0≤a)(g:0<b)(d:a≤18446744073709551615):bP .quo (u64 a) (u64 b)=aa (u64 (a / b)):=by
 rw [oC (by omega),am3 h,iP (amr h (by omega)) (amy (amC _ h) d)]
theorem pe{a:Int}(b:0≤a)(g:a≤9223372036854775807):bX tab 158 [vi a]=Eq (u64 a):=bX.eq (by
 refine cz rfl rfl fun Q d=>?_;apply ai;simp;refine au (ai ?_);simp;refine aF (by simp;omega) (aP ?_);apply ai;simp [iP (n:=a) b (by omega)];refine aD (d _ _ ?_);simp)
theorem Un{x y:Nat}(h:0<y):amW y (x % y)=amW x y:=by rw [Nat.gcd_comm x y,Nat.gcd_rec y x,Nat.gcd_comm]
theorem wL{a b:Nat}(z:(a:Int)≤4611686018427387904)(A:(b:Int)≤4611686018427387904):bX tab 122 [vi a,vi b]=Eq (vi (amW a b:Nat)):=bX.eq (by
 have H:=pe (a:=a) (by omega) (by omega);have I:=pe (a:=b) (by omega) (by omega);refine cz rfl rfl fun Q B=>?_;apply ai;simp;apply ai;simp [H,I];refine au (az ?_);refine bJ (fun m s=>∃(x y:Nat) (t:T),s=⟨t,[],[]⟩∧m=y∧(x:Int)≤4611686018427387904∧(y:Int)≤4611686018427387904∧t.g 5=u64 x∧t.g 6=u64 y∧amW x y=amW a b) b ⟨a,b,_,rfl,rfl,z,A,by simp,by simp,rfl⟩ ?_;rintro m s ⟨x,y,t,rfl,rfl,J,K,d,l,u⟩ F;refine au (ai ?_);simp [l];by_cases q:m=0
 ·subst q;refine aF (by simp) (bg rfl ?_);have j:x=amW a b:=by rw [←u];simp
  have E:¬ ((9223372036854775807:Int)<x):=by omega
  refine au (ai ?_);simp [d,E];refine aW (by simp) ?_;apply ai;simp [d,aO (n:=(x:Int))];refine aD (B _ _ ?_);simp [j]
 ·have v:=VN (a:=x) (b:=m) (by omega) (by omega);rw [show(x:Int) % (m:Int)=((x % m:Nat):Int) from(Int.natCast_emod x m).symm]at v;have g:x % m<m:=Nat.mod_lt _ (by omega);refine av (by simp [q]) (aP ?_);refine az (aq (.inl rfl) ?_);simp [d,l,v];refine ax (F (x % m) _ g ⟨m,x % m,_,rfl,rfl,by omega,by omega,by simp,by simp,by rw [Un (by omega)];exact u⟩))
theorem TJ{x:Int}(g:0≤x)(j:x≤4294967295):bP .and (u64 x) (u64 4294967295)=aa (u64 x):=by
 obtain⟨n,rfl⟩:∃ n:Nat,x=n:=⟨x.toNat,by omega⟩
 have e:(BitVec.ofInt 64 (n:Int) &&& BitVec.ofInt 64 4294967295).toNat=n:=by
  rw [BitVec.toNat_and];have b:(BitVec.ofInt 64 (n:Int)).toNat=n:=by simp [BitVec.toNat_ofInt];omega
  have d:(BitVec.ofInt 64 4294967295).toNat=2 ^ 32-1:=by decide
  rw [b,d,Nat.and_two_pow_sub_one_eq_mod,Nat.mod_eq_of_lt (by omega)]
 have key:IntKind.wrap .u64 ((BitVec.ofInt 64 (n:Int) &&& BitVec.ofInt 64 4294967295).toNat:Int)=n:=by rw [e];exact iP (by omega) (by omega)
 exact congrArg (fun k:Int=>aa (u64 k)) key
theorem CZ{x:Int}(_:0≤x):bP .shr (u64 x) (u64 32)=aa (u64 (x / 4294967296)):=by
 simp only [bP];rw [aS (by decide),show min (Int.toNat 32) IntKind.u64.bits=32 from rfl,Int.fdiv_eq_ediv_of_nonneg _ (by decide)];rfl
theorem tc{x y:Int}(q:0≤x)(K:x≤2147483648)(g:0≤y)(L:y≤2147483648):bX tab 206 [u64 x,u64 y]=Eq (.t [u64 0,u64 (x*y)]):=bX.eq (by
 have d:0≤x*y:=ams q g;have F:x*y≤2147483648*2147483648:=amE K L g (by decide);have j:x*y / 4294967296≤4294967295:=by omega
 have b:0≤x*y / 4294967296:=by omega
 have a1:=TJ q (show x≤4294967295 by omega);have A:=TJ g (show y≤4294967295 by omega);have s:=CZ q;have u:=CZ g;have I:x / 4294967296=0:=by omega
 have J:y / 4294967296=0:=by omega
 rw [I]at s;rw [J]at u;have H:=CZ d;have B:=TJ b j;have l:=CZ b;have sz:x*y / 4294967296 / 4294967296=0:=by omega
 rw [sz]at l;have v:IntKind.wrap .u64 (x*y)=x*y:=iP d (by omega);have z:IntKind.wrap .u64 (x*y / 4294967296)=x*y / 4294967296:=iP b (by omega);have m:IntKind.wrap .u64 0=0:=by decide
 refine cz rfl rfl fun Q E=>?_;apply ai;simp;apply ai;simp [a1];apply ai;simp [s];apply ai;simp [A];apply ai;simp [u];apply ai;simp [v];apply ai;simp [H,m,z];apply ai;simp [B];apply ai;simp [l];apply ai;simp [m,z];apply ai;simp [m,l];apply ai;simp [v];refine aD (E _ _ ?_);simp)
theorem Ub{x n:Int}(j:0≤x)(u:x≤9223372036854775807)(g:0<n)(s:n≤9223372036854775807):bX tab 208 [u64 0,u64 x,u64 n]=Eq (.t [u64 (x / n),u64 (x % n)]):=bX.eq (by
 have b:¬ (n=0):=by omega
 have d:¬ (n≤0):=by omega
 have l:=ajp j g (by omega);have m:=VN j g;refine cz rfl rfl fun Q q=>?_;apply ai;simp;refine au (ai ?_);simp;refine aW (by simp [b]) ?_;refine au (ai ?_);simp;refine aW (by simp [d]) ?_;refine au (ai ?_);simp;refine av (by simp) ?_;apply ai;simp [l,m];refine aD (q _ _ ?_);simp)
theorem tq(x y:aC):bX tab 29 [.a (x.row.map .f),.a (y.row.map .f)]=Eq (vi (fv x y)):=(zP x y).eq
theorem A_(g:Tg)(l:List cE)(b:l.length≤9223372036854775807)(h:∀ t ∈ l,t.Sm):bX tab 50 [.a [.f (sl g (aB l))]]=Eq (vb (iH l)):=(sX g l b h).eq
structure cd where
 mg:Tg
 ts:List cE
 min:Int
def cd.row(c:cd):List FC:=[sl c.mg (aB c.ts),fi c.min]
def aR(l:List cd):List (List FC):=l.map cd.row
@[simp] theorem VV (l:List cd):(aR l).length=l.length:=by simp [aR]
theorem dC(l:List cd):bO 2 (aR l):=bO.map fun _=>rfl
theorem fD{l:List cd}{j:Nat}(b:j<l.length):(aR l)[j]?=aa l[j].row:=by simp [aR,b]
structure aU where
 cg:Tg
 cs:List cd
 len:Int
 xg:Tg
 xs:List aC
def aU.row(s:aU):List FC:=[sl s.cg (aR s.cs),fi s.len,sl s.xg (aG s.xs)]
def aU.Sm(s:aU):Prop:=s.cs.length≤9223372036854775807∧s.xs.length≤9223372036854775807∧∀ c ∈ s.cs,c.ts.length≤9223372036854775807∧∀ t ∈ c.ts,t.Sm
def dL:Option Int→List cd→Bool
 | _,[]=>ae| prev,c::r=>iH c.ts&&dj c.min (-4320) 4320&&(prev.all fun m=>decide (m<c.min))&&dL (aa c.min) r
def mE(x:aC):Bool:=dj x.day 0 1099511627776&&dj x.fr (-2251799813685248) 1583296743997439&&dj x.to (x.fr+1) (x.fr+10080)
def gn:Option aC→List aC→Bool
 | _,[]=>ae| prev,x::r=>mE x&&(prev.all fun m=>decide (fv m x<0))&&gn (aa x) r
def gC(s:aU):Bool:=decide ((s.cs.length:Int)≤64)&&dj s.len 1 10080&&decide ((s.xs.length:Int)≤4096)&&dL ab s.cs&&gn ab s.xs
theorem tY{p:Option Int}{l:List cd}{j:Nat}(b:j<l.length):dL p (l.drop j)=(iH l[j].ts&&dj l[j].min (-4320) 4320&&(p.all fun m=>decide (m<l[j].min))&&dL (aa l[j].min) (l.drop (j+1))):=by
 rw [alv b];rfl
theorem zk{p:Option aC}{l:List aC}{j:Nat}(b:j<l.length):gn p (l.drop j)=(mE l[j]&&(p.all fun m=>decide (fv m l[j]<0))&&gn (aa l[j]) (l.drop (j+1))):=by
 rw [alv b];rfl
theorem qE(s:aU)(h:s.Sm):Kf tab 24 [.a (s.row.map .f)] (vb (gC s)):=by
 obtain⟨hc,hx,U⟩:=h;refine dM rfl rfl fun H Q hQ=>?_;have bad:gC s=ag→∀(t:T) (J:an) k,WP tab 24 ab (.code (.region [⟨D 2,.cV (.k (.c (.f (.bool ag)))),ab⟩] [])::.code .ret::k) ⟨t,[],H++J⟩ Q:=by
  intro hf t J k;refine aq (.inl rfl) ?_;simp;refine aD (hQ _ _ ?_);simp [hf]
 apply ai;simp [aU.row];apply au;apply ai;simp;by_cases k1:(64:Int)<s.cs.length
 ·simp [k1];exact av (by simp) (au (bad (by simp [gC,show¬ (s.cs.length:Int)≤64 by omega]) _ _ _))
 simp [k1];cases k2:dj s.len 1 10080
 ·simp;exact av (by simp) (au (bad (by simp [gC,k2]) _ _ _))
 simp;by_cases k3:(4096:Int)<s.xs.length
 ·simp [k3];exact av (by simp) (au (bad (by simp [gC,show¬ (s.xs.length:Int)≤4096 by omega]) _ _ _))
 simp [k3];have hS:gC s=(dL ab s.cs&&gn ab s.xs):=by simp [gC,k2,show(s.cs.length:Int)≤64 by omega,show(s.xs.length:Int)≤4096 by omega]
 rw [hS]at bad;refine aF (by simp) ?_;refine aP ?_;apply au;apply ai;simp;obtain⟨l,v⟩:=aN ([C.f (sl s.cg (aR s.cs)),C.f (fi s.len),C.f (sl s.xg (aG s.xs))]);rw [←v];have a7:l.drop 0=[C.f (sl s.cg (aR s.cs)),C.f (fi s.len),C.f (sl s.xg (aG s.xs))]:=by rw [v];rfl
 have S:l.drop 2=[C.f (sl s.xg (aG s.xs))]:=by rw [v];rfl
 have M:l=C.f (sl s.cg (aR s.cs))::[C.f (fi s.len),C.f (sl s.xg (aG s.xs))]:=v;refine bZ s.cs.length (fun j t H'=>t.g 1=.c (.ptr H.length 0 0)∧t.g 25=.c (.f (sl s.cg (aR s.cs)))∧(∃ J,H'=H++(.box l 0::J)) ∧
  ∃ d,(∀ m,j=m+1→∀ h:m<s.cs.length,d=aa (s.cs[m]'h).min)∧(j=0→d=ab)∧dL ab s.cs=dL d (s.cs.drop j)) hc (by decide) (by decide) (by simp) (by simp)
   ⟨by simp,by simp,⟨[],by simp⟩,ab,by omega,by simp,by simp⟩ ?_ ?_
 ·rintro j t _ F ⟨x,A,⟨J,rfl⟩,d,Y,Z,u⟩ E K next
  rw [tY F]at u;have L:=cR (H:=H++(.box l 0::J)) (dC s.cs) (fD F);have z:=A_ s.cs[j].mg s.cs[j].ts (U _ (IT F)).1 (U _ (IT F)).2;refine az ?_;apply ai;simp [E,A,bG,F,L,cd.row];apply ai;simp [z];cases W:iH s.cs[j].ts
  ·simp;exact av (by simp) (au (bad (by simp [u,W]) _ _ _))
  simp;cases O:dj s.cs[j].min (-4320) 4320
  ·simp;exact av (by simp) (au (bad (by simp [u,O]) _ _ _))
  simp;have go:(d.all fun m=>decide (m<s.cs[j].min))=ae→∃ g,(∀ m,j+1=m+1→∀ h:m<s.cs.length,g=aa (s.cs[m]'h).min)∧(j+1=0→g=ab)∧dL ab s.cs=dL g (s.cs.drop (j+1)):=by
   intro hp;rw [W,O,hp,amm,amm,amm]at u;refine⟨aa s.cs[j].min,fun m z h=>?_,by omega,u⟩;have:m=j:=by omega
   subst this;rfl
  cases j with
  | zero=>
   simp;refine aF (by simp) ?_;refine aP (ax (next _ _ ?_ (by simp [E]) (by simp [K])));exact⟨by simp [x],by simp [A],⟨_,rfl⟩,go (by rw [Z rfl];rfl)⟩
  | succ m=>
   have z:m<s.cs.length:=by omega
   have y:=Y m rfl z;have e1:((m+1:Nat):Int)-1=m:=by omega
   have q:=mG (H:=H++(b7.box l 0 ::(J++[b7.box [C.f (sl s.cs[m+1].mg (aB s.cs[m+1].ts)),C.f (fi s.cs[m+1].min)] 0]))) (k:=1) (dC s.cs) (fD z) rfl;rw [M]at q;simp [show 0<m+1 by omega,x,M,aO (n:=(m:Int)),bG,z,q];by_cases X:s.cs[m+1].min≤s.cs[m].min
   ·simp [X];have b:=bad (by simp [u,y,show¬ s.cs[m].min<s.cs[m+1].min by omega]);refine av (by simp) ?_;exact au (b _ _ _)
   ·simp [X];refine aF (by simp) ?_;refine aP (ax (next _ _ ?_ (by simp [E]) (by simp [K])));exact⟨by simp [x],by simp [A],⟨_,by rw [M]⟩,go (by rw [y];simp;omega)⟩
 ·rintro t _ ⟨x,A,⟨J,rfl⟩,d,Y,Z,u⟩ E K;have hC:dL ab s.cs=ae:=by rw [u];simp [dL]
  rw [hC,amm]at bad hS;apply au;apply ai;simp [x,S];refine bZ s.xs.length (fun j t H'=>t.g 1=.c (.ptr H.length 0 0)∧t.g 60=.c (.f (sl s.xg (aG s.xs)))∧(∃ J,H'=H++(.box l 0::J)) ∧
   ∃ d,(∀ m,j=m+1→∀ h:m<s.xs.length,d=aa (s.xs[m]'h))∧(j=0→d=ab)∧gn ab s.xs=gn d (s.xs.drop j)) hx (by decide) (by decide) (by simp) (by simp)
    ⟨by simp [x],by simp,⟨J,by simp⟩,ab,by omega,by simp,by simp⟩ ?_ ?_
  ·rintro j t _ F ⟨x,B,⟨J,rfl⟩,d,Y,Z,u⟩ E K next
   rw [zk F]at u;have L:=cR (H:=H++(.box l 0::J)) (bC s.xs) (cW F);refine az ?_;apply ai;simp [E,B,bG,F,L,aC.row];have N:mE s.xs[j]=ag→∀(t:T) (J:an) k,t.g 7=vb ag→WP tab 24 ab (.code ye::k) ⟨t,[],H++J⟩ Q:=by
    intro hf t J k g7;apply ai;simp [g7];exact av (by simp) (au (bad (by simp [u,hf]) _ _ _))
   have go:mE s.xs[j]=ae→(d.all fun m=>decide (fv m s.xs[j]<0))=ae→∃ g,(∀ m,j+1=m+1→∀ h:m<s.xs.length,g=aa (s.xs[m]'h))∧(j+1=0→g=ab)∧gn ab s.xs=gn g (s.xs.drop (j+1)):=by
    intro hg hp;rw [hg,hp,amm,amm]at u;refine⟨aa s.xs[j],fun m z h=>?_,by omega,u⟩;have:m=j:=by omega
    subst this;rfl
   apply ai;simp;cases W:dj s.xs[j].day 0 1099511627776
   ·simp;exact N (by simp [mE,W]) _ _ _ (by simp)
   simp;cases O:dj s.xs[j].fr (-2251799813685248) 1583296743997439
   ·simp;exact N (by simp [mE,O]) _ _ _ (by simp)
   have w5:=J_ O;simp [aO (n:=s.xs[j].fr+1),aO (n:=s.xs[j].fr+10080)];cases X:dj s.xs[j].to (s.xs[j].fr+1) (s.xs[j].fr+10080)
   ·exact N (by simp [mE,X]) _ _ _ (by simp)
   have hg:mE s.xs[j]=ae:=by simp [mE,W,O,X]
   apply ai;simp;cases j with
   | zero=>
    simp;refine aF (by simp) ?_;refine aP (ax (next _ _ ?_ (by simp [E]) (by simp [K])));exact⟨by simp [x],by simp [B],⟨_,rfl⟩,go hg (by rw [Z rfl];rfl)⟩
   | succ m=>
    have z:m<s.xs.length:=by omega
    have y:=Y m rfl z;have e1:((m+1:Nat):Int)-1=m:=by omega
    have q:=cR (H:=H++(.box l 0 ::(J++[b7.box [C.f (fi s.xs[m+1].day),C.f (fi s.xs[m+1].fr),C.f (fi s.xs[m+1].to)] 0]))) (bC s.xs) (cW z);have I:=tq s.xs[m] s.xs[m+1];simp [aC.row]at I q;simp [show 0<m+1 by omega,x,S,aO (n:=(m:Int)),bG,z,q,I];by_cases k7:0≤fv s.xs[m] s.xs[m+1]
    ·simp [k7];have b:=bad (by simp [u,y,show¬ fv s.xs[m] s.xs[m+1]<0 by omega]);refine av (by simp) ?_;exact au (b _ _ _)
    ·simp [k7];refine aF (by simp) ?_;refine aP (ax (next _ _ ?_ (by simp [E]) (by simp [K])));exact⟨by simp [x],by simp [B],⟨_,rfl⟩,go hg (by rw [y];simp;omega)⟩
  ·rintro t _ ⟨x,B,⟨J,rfl⟩,d,Y,Z,u⟩ E K;have hX:gn ab s.xs=ae:=by rw [u];simp [gn]
   apply ai;simp;refine aD (hQ _ _ ?_);simp [hS,hX]
theorem fy{a b:Int}(h:0≤a)(g:0<b)(d:a≤9223372036854775807):bP .quo (vi a) (vi b)=aa (vi (a / b)):=by
 rw [oC (by omega),am3 h,wrap64 (amy (by omega) (amr h (by omega))) (amy (amC _ h) d)]
theorem eR{a b:Int}(h:0≤a)(d:0<b):bP .rem (vi a) (vi b)=aa (vi (a % b)):=by
 rw [gV (by omega),amH h]
theorem afY{a b:Int}(h:a≤0)(m:0<b)(l:-9223372036854775807≤a):bP .quo (vi a) (vi b)=aa (vi (-((-a) / b))):=by
 have g:(-a) / b≤-a:=amC _ (by omega);have j:0≤(-a) / b:=amr (by omega) (by omega);have d:a.tdiv b = -((-a) / b):=by
  have:a = -(-a):=by omega
  rw [this,Int.neg_tdiv,am3 (by omega)];simp
 rw [oC (by omega),d,aO]
theorem af1{a b:Int}(h:a≤0)(g:0<b):bP .rem (vi a) (vi b)=aa (vi (-((-a) % b))):=by
 have d:a.tmod b = -((-a) % b):=by
  have:a = -(-a):=by omega
  rw [this,Int.neg_tmod,amH (by omega)];simp
 rw [gV (by omega),d]
theorem zn(a b:Int)(B:1≤b)(A:-4611686018427387904≤a)(g:a≤4611686018427387904):bX tab 68 [vi a,vi b]=Eq (.t [vi (a / b),vi 0]):=bX.eq (by
 refine cz rfl rfl fun Q d=>?_;apply ai;simp;apply au;apply ai;simp;refine aF (by simp;omega) (aP ?_);by_cases h:0≤a
 ·apply ai;simp [fy h (show 0<b by omega) (by omega)];apply au;apply ai;have:=amc a (show b≠0 by omega);simp [eR h (show 0<b by omega)];refine aF (by simp;omega) (aP ?_);apply ai;simp;refine aD (d _ _ ?_);simp
 ·apply ai;simp [afY (show a≤0 by omega) (show 0<b by omega) (by omega)];apply au;apply ai;have e:=amc (-a) (show b≠0 by omega);have j:=al9 (-a) (show 0<b by omega);have q:0≤(-a) / b:=amr (by omega) (by omega);have m:(-a) / b≤-a:=amC _ (by omega);have l:=Int.mul_ediv_add_emod (-a) b;simp [af1 (show a≤0 by omega) (show 0<b by omega)];by_cases s:(-a) % b=0
  ·refine aF (by simp;omega) (aP ?_);apply ai;simp;refine aD (d _ _ ?_);have:a / b = -(-a / b):=by
    refine Int.ediv_eq_of_eq_mul_right (by omega) ?_;rw [ans];omega
   simp [this]
  ·refine av (by simp;omega) ?_;refine aq (.inl rfl) ?_;simp [aO (n:=-(-a / b)-1)];apply ai;simp;refine aD (d _ _ ?_);have:a / b = -(-a / b)-1:=by
    have u:=amc a (show b≠0 by omega);have v:=al9 a (show 0<b by omega);have x:=Int.mul_ediv_add_emod a b;have y:b*(a / b+(-a) / b+1)=b-a % b-(-a) % b:=by rw [Int.mul_add,Int.mul_add];omega
    have z:a / b+(-a) / b+1=0:=by
     rcases Int.lt_trichotomy (a / b+(-a) / b+1) 0 with h | h | h
     ·have:b*(a / b+(-a) / b+1)≤b*(-1):=alF (by omega) (by omega);omega
     ·exact h
     ·have:b*1≤b*(a / b+(-a) / b+1):=alF (by omega) (by omega);omega
    omega
   simp [this])
theorem mB(a:Int)(g:-4611686018427387904≤a)(b:a≤4611686018427387904):bX tab 35 [vi a]=Eq (vi (a / 1440)):=Kf.eq (by
 refine dM rfl rfl fun H Q d=>?_;apply ai;simp;apply ai;simp [zn a 1440 (by omega) g b];apply ai;simp;refine aD (d _ _ ?_);simp)
def dr(len b d:Int):aC:=⟨d,d*1440+b,d*1440+b+len⟩
def mn(n:Int):Prop:=-1000000000000000≤n∧n≤1000000000000000
theorem oH(g j l:FC)(len b d:Int)(q:mn len)(s:mn b)(u:mn d) :
  bX tab 26 [.a [.f g,.f (fi len),.f j],.a [.f l,.f (fi b)],vi d]=Eq (.a ((dr len b d).row.map .f)):=bX.eq (Kf.afX (by
 unfold mn at *;refine dM rfl rfl fun H Q m=>?_;apply ai;simp;apply ai;simp [aO (n:=d*1440),aO (n:=d*1440+b)];apply ai;simp [aO (n:=d*1440+b+len)];refine aD (m _ _ ?_);simp [dr,aC.row]))
def fK(a b c d:Int):Bool:=decide (a<d)&&decide (c<b)
theorem Z2(a b c d:Int):bX tab 27 [.a [.f (fi a),.f (fi b)],.a [.f (fi c),.f (fi d)]]=Eq (vb (fK a b c d)):=Kf.eq (by
 refine dM rfl rfl fun H Q g=>?_;apply ai;simp;apply ai;by_cases h:a<d
 ·simp [h];refine aD (g _ _ ?_);simp [fK,h]
 ·simp [h];refine aD (g _ _ ?_);simp [fK,h])
theorem Ai{u m:Int}(b:0<m):(u.tmod m+m).tmod m=u % m:=by
 have d:=Int.tmod_lt_of_pos u b;have g:=Int.lt_tmod_of_pos u b;rw [amH (by omega),Int.add_emod_right];exact anq.2 (by
  have:=Int.tmod_add_mul_tdiv u m;have e:u.tmod m-u = -(m*u.tdiv m):=by omega
  rw [e];exact Int.emod_eq_zero_of_dvd (Int.dvd_neg.2 (anj _ _)))
theorem zq{x y:Int}(m:1<x)(h:amf x y=1):1≤y % x:=by
 have l:=amc y (show x≠0 by omega);rcases amz 0 (y % x)with d | d
 ·omega
 ·exfalso;have g:y % x=0:=by omega
  have j:x ∣ y:=Int.dvd_of_emod_eq_zero g;have b:x ∣ (amf x y:Int):=Int.dvd_coe_gcd (amL x) j;rw [h]at b;have:=amn (by decide) b;omega
theorem AW{a m:Int}(a0:0≤a)(a1:a≤1099511627776)(m0:2≤m)(m1:m≤1000000)(hg:amf a m=1) :
  ∃ x,0≤x∧x<m∧m ∣ a*x-1∧bX tab 207 [vi a,vi m]=Eq (vi x):=by
 obtain⟨rr,⟨x,o,p,r,rfl⟩,hp⟩:∃ rr,(∃ x,0≤x∧x<m∧m ∣ a*x-1∧rr=vi x)∧bX tab 207 [vi a,vi m] rr:=by
  have hr:=eR (a:=a) (b:=m) a0 (by omega);have a7:=amc a (show m≠0 by omega);have H:=al9 a (show 0<m by omega);have l:amf (a % m) m=1:=by
   have e:a % m=a-a / m*m:=by have:=al8 a m;rw [ami (a / m)];omega
   rw [e,Int.gcd_sub_mul_right_left];exact hg
  have Z:1≤a % m:=by
   rcases amz 0 (a % m)with h | h
   ·omega
   ·exfalso;have h0:a % m=0:=by omega
    rw [h0]at l;simp at l;omega
  refine eQ rfl rfl fun Q hQ=>?_;apply ai;simp;apply ai;simp [hr];refine au (az ?_);refine bJ (fun n s=>∃(x y u v U V:Int) (t:T),s=⟨t,[],[]⟩∧(n:Int)=x∧t.g 1=vi m∧t.g 5=vi x∧t.g 6=vi y∧t.g 7=vi u∧t.g 8=vi v∧1≤x∧x<y∧y≤m∧amf x y=1∧m ∣ a*u-x∧m ∣ a*v-y ∧
   0≤U∧0≤V∧(u=U∧v = -V∨u = -U∧v=V)∧U*y+V*x=m) (a % m).toNat
   ⟨a % m,m,1,0,1,0,_,rfl,by omega,by simp,by simp,by simp,by simp,by simp,Z,H,by omega,l,?_,?_,by decide,by decide,.inl ⟨rfl,rfl⟩,by omega⟩ ?_
  ·refine⟨a / m,?_⟩;have:=al8 a m;omega
  ·exact⟨-1,by omega⟩
  rintro n s ⟨x,y,u,v,U,V,t,rfl,hn,f,I,i,k,g8,o,p,r,w,M,h6,A,h8,h9,J⟩ ih;have a_:U≤U*y:=by have:=alF (show(1:Int)≤y by omega) A;omega
  have c9:0≤V*x:=ams h8 (by omega);have a8:U≤m:=by omega
  have b_:V≤m:=by
   have K:V≤V*x:=by have:=alF (show(1:Int)≤x by omega) h8;omega
   have L:0≤U*y:=ams A (by omega);omega
  refine au (ai ?_);simp [I];by_cases hx:1<x
  ·
   have B:0≤y / x:=amr (by omega) (by omega);have X:y / x≤y:=amC _ (by omega);have E:=fy (a:=y) (b:=x) (by omega) (by omega) (by omega);obtain⟨q,hq⟩:=aN (y / x);have j:=al8 y x;have O:=zq hx w;have S:=al9 y (show 0<x by omega);rw [←hq]at B X E j;obtain⟨g,Y⟩:=aN (y % x);rw [←Y]at j O S;have d_:q*x=y-g:=by rw [ami];omega
   obtain⟨W,hW⟩:=aN (V+q*U);have d9:0≤q*U:=ams B A;have N:W*x+U*g=m:=by
    rw [hW,Int.add_mul,←J,show g=y-q*x by omega,ant,ang q U x,anJ q U x];omega
   have c_:W≤m:=by
    have K:W≤W*x:=by have:=alF (show(1:Int)≤x by omega) (show 0≤W by omega);omega
    have L:0≤U*g:=ams A (by omega);omega
   have d:(u=U→q*u=q*U)∧(u = -U→q*u = -(q*U)):=⟨fun e=>by rw [e],fun e=>by rw [e,ans]⟩
   have hb:-m≤q*u∧q*u≤m:=by
    rcases h9 with⟨e,-⟩ | ⟨e,-⟩
    ·rw [d.1 e];omega
    ·rw [d.2 e];omega
   have f7:-m≤v∧v≤m:=by omega
   have c:=aO (n:=q*x);have w2:IntKind.i64.wrap (y-q*x)=g:=by rw [aO];omega
   have w3:=aO (n:=q*u);have w4:=aO (n:=v-q*u);refine av (by simp [hx]) (aP ?_);refine az (ai ?_);simp [I,i,E];apply ai;simp [I,i,c,w2];refine aq (.inl rfl) ?_;simp [k,g8,w3,w4];refine ax (ih g.toNat _ (by omega) ⟨g,x,v-q*u,u,W,U,_,rfl,by omega,by simp [f],by simp,by simp,by simp,by simp,by omega,by omega,by omega,?_,?_,M,by omega,A,?_,N⟩)
   ·rw [show g=y-q*x by omega,Int.gcd_sub_mul_right_left,Int.gcd_comm];exact w
   ·have e:a*(v-q*u)-g=(a*v-y)-q*(a*u-x):=by
     rw [ant,ant,anJ a q u];omega
    rw [e];exact amX h6 (Int.dvd_mul_of_dvd_right M)
   ·rcases h9 with⟨z,e2⟩ | ⟨z,e2⟩
    ·exact .inr ⟨by rw [d.1 z];omega,z⟩
    ·exact .inl ⟨by rw [d.2 z];omega,z⟩
  ·
   have F:x=1:=by omega
   subst F;have e_:-m≤u∧u≤m:=by omega
   have t1:=Int.tmod_lt_of_pos u (show 0<m by omega);have t2:=Int.lt_tmod_of_pos u (show 0<m by omega);have r1:bP .rem (vi u) (vi m)=aa (vi (u.tmod m)):=gV (by omega);have r2:bP .rem (vi (u.tmod m+m)) (vi m)=aa (vi (u % m)):=by rw [gV (by omega),Ai (by omega)]
   have c:=aO (n:=u.tmod m+m);refine aF (by simp) (bg rfl ?_);apply ai;simp [f,k,r1,c,r2];refine aD (hQ _ _ _ ⟨u % m,amc _ (by omega),al9 _ (by omega),?_,rfl⟩ (by simp));have e:a*(u % m)-1=(a*u-1)-a*(u / m)*m:=by
    have:=al8 u m;rw [show u % m=u-m*(u / m) by omega,ant,ang,ami m];omega
   rw [e];exact amX M (anA _ _)
 exact⟨x,o,p,r,hp.eq⟩
theorem Z0{a s r p d:Int}(m:¬ (amf s p:Int) ∣ r-a)(j:s ∣ d-a)(l:p ∣ d-r):False:=by
 apply m;have b:=amB (ann s p) j;have g:=amB (Int.gcd_dvd_right s p) l;have:=amX b g;rwa [show d-a-(d-r)=r-a by omega]at this
theorem ZZ{a s r p g n t:Int}(q:g=(amf s p:Int))(E:0<p)(F:0<s)(z:p=n*g)(hd:g ∣ r-a)(B:n ∣ t*(s / g)-(r-a) / g) :
  (∀ d,s ∣ d-a∧p ∣ d-r↔(s*n) ∣ d-(a+t*s))∧0<g∧0<n:=by
 have l:0<g:=by
  rw [q];have:=amt p (show s≠0 by omega);omega
 have u:0<n:=by
  rcases Int.lt_trichotomy n 0 with h | h | h
  ·have:=Int.mul_neg_of_neg_of_pos h l;omega
  ·subst h;omega
  ·exact h
 have x:s / g*g=s:=anH (q▸ann s p);have v:(r-a) / g*g=r-a:=anH hd;have j:p ∣ a+t*s-r:=by
  obtain⟨k,A⟩:=B;refine⟨k,?_⟩;have:a+t*s-r=(t*(s / g)-(r-a) / g)*g:=by
   rw [Int.sub_mul,v,ang,x];omega
  rw [this,A,z,Int.mul_right_comm]
 have y:(Int.lcm s p:Int)=s*n:=by
  have b:((amf s p*Int.lcm s p:Nat):Int)=s*p:=by
   rw [Int.gcd_mul_lcm,ane,Int.natAbs_of_nonneg (by omega),Int.natAbs_of_nonneg (by omega)]
  rw [ane,←q]at b;have m:g*(Int.lcm s p:Int)=g*(s*n):=by rw [b,z,←ang,ami]
  exact Int.eq_of_mul_eq_mul_left (by omega) m
 refine⟨fun d=>⟨fun⟨b,m⟩=>?_,fun h=>⟨?_,?_⟩⟩,l,u⟩
 ·rw [←y];refine Int.coe_lcm_dvd ?_ ?_
  ·have:d-(a+t*s)=d-a-t*s:=by omega
   rw [this];exact amX b (anA t s)
  ·have:d-(a+t*s)=d-r-(a+t*s-r):=by omega
   rw [this];exact amX m j
 ·have b:=amB (anj s n) h;have:d-a=d-(a+t*s)+t*s:=by omega
  rw [this];exact Int.dvd_add b (anA t s)
 ·have b:p ∣ d-(a+t*s):=amB (by rw [←y];exact Int.dvd_lcm_right s p) h;have:d-r=d-(a+t*s)+(a+t*s-r):=by omega
  rw [this];exact Int.dvd_add b j
theorem px{a b n:Int}:a % n=b % n↔n ∣ a-b:=anq.trans Int.dvd_iff_emod_eq_zero.symm
abbrev clV(at' st:Int):V:=.a [.f (.int .i64 at'),.f (.int .i64 st)]
theorem aaQ{a s r p:Int}(a0:0≤a)(a1:a<s)(s1:s≤1000000)(r0:0≤r)(r1:r<p)(p1:p≤1000) :
  (∃ a' i,0≤a'∧a'<i∧i≤s*p∧(∀ d,s ∣ d-a∧p ∣ d-r↔i ∣ d-a')∧bX tab 153 [clV a s,vi r,vi p]=Eq (.t [clV a' i,vb ae])) ∨
  ((∀ d,¬ (s ∣ d-a∧p ∣ d-r))∧bX tab 153 [clV a s,vi r,vi p]=Eq (.t [clV 0 0,vb ag])):=by
 have s0:0<s:=by omega
 have p0:0<p:=by omega
 obtain⟨g,x⟩:=aN ((amf s p:Int):Int);have a8:amf s p=amW s.toNat p.toNat:=by
  show amW s.natAbs p.natAbs=_;rw [show s.natAbs=s.toNat by omega,show p.natAbs=p.toNat by omega]
 have a_:g ∣ s:=x▸ann s p;have K:g ∣ p:=x▸Int.gcd_dvd_right s p;have l:0<amf s p:=amt p (by omega);have g0:0<g:=by rw [x];exact Int.natCast_pos.2 l
 have gp:g≤p:=amn p0 K;obtain⟨n,f⟩:=aN (p / g);have W:p=n*g:=by rw [f,anH K]
 have A:0<n:=by
  rcases amz 0 n with h | h
  ·exact h
  ·have:=Int.mul_nonneg_of_nonpos_of_nonpos (a:=n) (b:=-g) h (by omega);rw [ans]at this;omega
 have np:n≤p:=by
  have:=alF (show(1:Int)≤g by omega) (show 0≤n by omega);omega
 have j:bX tab 122 [vi s,vi p]=Eq (vi g):=by
  have h:=wL (a:=s.toNat) (b:=p.toNat) (by omega) (by omega);rw [show((s.toNat:Nat):Int)=s by omega,show((p.toNat:Nat):Int)=p by omega,←a8,←x]at h;exact h
 have b0:∀ {L:an},aX (.box [.f (fi a),.f (fi s)] 0::L) ab (.c (.ptr 0 0 0))=aa (vi a)∧aX (.box [.f (fi a),.f (fi s)] 0::L) ab (.c (.ptr 0 1 0))=aa (vi s)∧aX (.box [.f (fi a),.f (fi s)] 0::L) (aa 2) (.c (.ptr 0 0 0))=aa (clV a s):=by
  intro L;refine⟨?_,?_,?_⟩<;>simp [aX,aH,aY]
 have q:=aO (n:=r-a);have E:bP .rem (vi (r-a)) (vi g)=aa (vi ((r-a).tmod g)):=gV (by omega);have z:¬ (s=0):=by omega
 by_cases hd:g ∣ r-a
 ·left;have m:(r-a).tmod g=0:=Int.tmod_eq_zero_of_dvd hd;by_cases y:n=1
  ·
   have M:p=g:=by rw [W,y,Int.one_mul]
   refine⟨a,s,a0,a1,?_,fun d=>⟨fun h=>h.1,fun h=>⟨h,?_⟩⟩,bX.eq ?_⟩
   ·have:=alF (show(1:Int)≤p by omega) (show 0≤s by omega);omega
   ·rw [M];have:=amX (amB a_ h) hd;rwa [show d-a-(r-a)=d-r by omega]at this
   ·have B:bP .quo (vi p) (vi g)=aa (vi n):=by rw [fy (by omega) g0 (by omega),←f]
    refine cz rfl rfl fun Q H=>?_;apply ai;simp;refine au (ai ?_);simp [b0,-ay,z];refine aW (by simp) ?_;apply ai;simp [b0,-ay,j];refine au (ai ?_);simp [b0,-ay,q,E,m];refine aW (by simp) ?_;apply ai;simp [B];refine au (ai ?_);simp [y];refine av (by simp) ?_;apply ai;simp [b0,-ay];refine aD (H _ _ ?_);simp
  ·
   have n2:2≤n:=by omega
   have Y:0≤s / g:=amr (by omega) (by omega);have f8:s / g≤s:=amC _ (by omega);have I:amf (s / g) n=1:=by rw [f,x];exact Int.gcd_ediv_gcd_ediv_gcd l
   obtain⟨v,o,v1,hv,O⟩:=AW Y (by omega) n2 (by omega) I;obtain⟨w,hw⟩:=aN (((r-a) / g) % n);have w0:0≤w:=by rw [hw];exact amc _ (by omega)
   have w1:w<n:=by rw [hw];exact al9 _ A
   obtain⟨t,ht⟩:=aN ((w*v) % n);have t0:0≤t:=by rw [ht];exact amc _ (by omega)
   have t1:t<n:=by rw [ht];exact al9 _ A
   have S:n ∣ t*(s / g)-(r-a) / g:=by
    obtain⟨k,hk⟩:=hv;have e1:t=w*v-n*(w*v / n):=by have:=al8 (w*v) n;omega
    have e2:w=(r-a) / g-n*((r-a) / g / n):=by have:=al8 ((r-a) / g) n;omega
    have e3:t*(s / g)-(r-a) / g=w*(s / g*v-1)-n*(w*v / n)*(s / g)-n*((r-a) / g / n):=by
     rw [e1,Int.sub_mul,ant,ang w v,ami v (s / g)];omega
    rw [e3,hk];refine amX (amX ?_ ?_) (anj _ _)
    ·exact⟨w*k,by rw [anJ]⟩
    ·exact⟨w*v / n*(s / g),by rw [ang]⟩
   obtain⟨N,-,-⟩:=ZZ x p0 s0 W hd S;have g_:0≤t*s:=ams t0 (by omega);have h_:t*s≤(n-1)*s:=anD (by omega) (by omega);have i4:(n-1)*s=n*s-s:=by rw [Int.sub_mul,Int.one_mul]
   have f7:n*s≤1000*1000000:=amE (by omega) s1 (by omega) (by decide);have i6:s*n=n*s:=ami _ _;have Z:0≤w*v:=ams w0 o;have i3:w*v≤1000*1000:=amE (by omega) (by omega) o (by decide);have f_:0≤n*s:=ams (by omega) (by omega);refine⟨a+t*s,s*n,by omega,by omega,?_,N,bX.eq ?_⟩
   ·exact alF np (by omega)
   ·have B:bP .quo (vi p) (vi g)=aa (vi n):=by rw [fy (by omega) g0 (by omega),←f]
    have a7:bP .quo (vi (r-a)) (vi g)=aa (vi ((r-a) / g)):=by
     rw [oC (by omega),Int.tdiv_eq_ediv_of_dvd hd];have hb:-1000000≤(r-a) / g∧(r-a) / g≤1000000:=by
      obtain⟨k,hk⟩:=hd;rw [hk,Int.mul_ediv_cancel_left _ (by omega)];constructor
      ·rcases amz k (-1000000)with h | h
       ·have:=alF (show k≤-1000001 by omega) (show 0≤g by omega);omega
       ·omega
      ·rcases amz 1000000 k with h | h
       ·have:=alF (show(1000001:Int)≤k by omega) (show 0≤g by omega);omega
       ·omega
     rw [aO]
    have d9:bP .rem (vi ((r-a) / g)) (vi n)=aa (vi (((r-a) / g).tmod n)):=gV (by omega);have tl:=Int.tmod_lt_of_pos ((r-a) / g) A;have tg:=Int.lt_tmod_of_pos ((r-a) / g) A;have d_:=aO (n:=((r-a) / g).tmod n+n);have U:bP .rem (vi (((r-a) / g).tmod n+n)) (vi n)=aa (vi w):=by rw [gV (by omega),Ai A,←hw]
    have e_:bP .quo (vi s) (vi g)=aa (vi (s / g)):=fy (by omega) g0 (by omega);have uw:IntKind.wrap .u64 w=w:=iP w0 (by omega);have uv:IntKind.wrap .u64 v=v:=iP o (by omega);have un:IntKind.wrap .u64 n=n:=iP (by omega) (by omega);have us:IntKind.wrap .u64 s=s:=iP (by omega) (by omega);have b_:=tc w0 (show w≤2147483648 by omega) o (show v≤2147483648 by omega);have X:=VN (a:=0) (b:=n) (by decide) A;rw [Int.zero_emod]at X;have J:=Ub Z (show w*v≤9223372036854775807 by omega) A (show n≤9223372036854775807 by omega);rw [←ht]at J;have c9:=tc t0 (show t≤2147483648 by omega) (show 0≤s by omega) (show s≤2147483648 by omega);have c_:=tc (show 0≤s by omega) (show s≤2147483648 by omega) (show 0≤n by omega) (show n≤2147483648 by omega);have u:=aO (n:=t*s);have fa:=aO (n:=1152921504606846976-a);have c1:¬ (1152921504606846976<t*s):=by omega
    have c2:¬ (1152921504606846976-a<t*s):=by omega
    have F:=aO (n:=a+t*s);have c:=aO (n:=s*n);have c3:s*n≤1152921504606846976:=by omega
    refine cz rfl rfl fun Q H=>?_;apply ai;simp;refine au (ai ?_);simp [b0,-ay,z];refine aW (by simp) ?_;apply ai;simp [b0,-ay,j];refine au (ai ?_);simp [b0,-ay,q,E,m];refine aW (by simp) ?_;apply ai;simp [B];refine au (ai ?_);simp [y];refine aW (by simp) ?_;apply ai;simp [b0,-ay,q,a7,d9,d_,U];apply ai;simp [b0,-ay,uw,e_,O,uv,b_];apply ai;simp [un,X,J];apply ai;simp [b0,-ay,us,c9];refine au (ai ?_);simp [b0,-ay,c1,u,fa,c2];refine aW (by simp) ?_;apply ai;simp [b0,-ay,u,F];refine au (ai ?_);simp [b0,-ay,us,un,c_];apply ai;simp [c3];refine av (by simp) (aq (.inl rfl) ?_);simp [c];apply ai;simp;refine aD (H _ _ ?_);simp
 ·right;refine⟨fun d h=>Z0 (fun e=>hd (x▸e)) h.1 h.2,bX.eq ?_⟩;have m:¬ (r-a).tmod g=0:=fun e=>hd (Int.dvd_of_tmod_eq_zero e);refine cz rfl rfl fun Q H=>?_;apply ai;simp;refine au (ai ?_);simp [b0,-ay,z];refine aW (by simp) ?_;apply ai;simp [b0,-ay,j];refine au (ai ?_);simp [b0,-ay,q,E,m];refine av (by simp) ?_;apply ai;simp;refine aD (H _ _ ?_);simp
theorem qS(a b:Int):Kf tab 201 [vi a,vi b] (vb (decide (a<b))):=by
 refine dM rfl rfl fun H Q d=>?_;apply ai;simp;apply ai;simp [oR];refine aD (d _ _ ?_);simp [oR]
theorem abQ(a:Int):bX tab 222 [vi a]=Eq (vb ag):=Kf.eq (by
 refine dM rfl rfl fun H Q b=>?_;apply ai;simp;apply ai;simp;refine aD (b _ _ ?_);simp)
theorem fT(g:Tg)(l:List Int)(n:Int)(hl:l.length≤1000000000)(o:l.Pairwise (· < ·)) :
  ∃ i:Nat,i≤l.length∧(∀ j (d:j<l.length),j<i→l[j]<n)∧(∀ j (d:j<l.length),i≤j→n≤l[j]) ∧
   bX tab 184 [.c (.f (sl g (ints l))),vi n]=Eq (.t [vi i,vb (decide (n ∈ l))]):=by
 obtain⟨r,⟨i,c,f,O,rfl⟩,h⟩:∃ r,(∃ i:Nat,i≤l.length∧(∀ j (d:j<l.length),j<i→l[j]<n)∧(∀ j (d:j<l.length),i≤j→n≤l[j])∧r=.t [vi i,vb (decide (n ∈ l))]) ∧
   bX tab 184 [.c (.f (sl g (ints l))),vi n] r:=by
  refine eQ rfl rfl fun Q S=>?_;have A:=fun(a b:Int) (H:an)=>(qS a b).ev H;have y:∀ i j (hi:i<j) (d:j<l.length),l[i]<l[j]:=fun i j hi d=>alR.1 o i j (by omega) d hi;apply ai;simp;apply ai;simp;apply ai;simp;apply au;refine az ?_;refine bJ (fun m s=>∃(lo hi:Nat) (t:T) (J:an),s=⟨t,[],J⟩∧m=hi-lo∧lo≤hi∧hi≤l.length∧t.g 0=.c (.f (sl g (ints l)))∧t.g 1=vi n∧t.g 6=vi l.length∧t.g 7=vi lo∧t.g 8=vi hi ∧
   (∀ j (d:j<l.length),j<lo→l[j]<n)∧(∀ j (d:j<l.length),hi≤j→n≤l[j])) l.length
   ⟨0,l.length,_,_,rfl,by omega,by omega,by omega,by simp,by simp,by simp,by simp,by simp,by simp,by intros;omega⟩ ?_
  rintro m s ⟨lo,hi,t,J,rfl,rfl,k,z,E,F,K,I,N,u,v⟩ next
  apply au;apply ai;simp [I,N];by_cases W:lo<hi
  ·refine av (by simp [W]) (aP ?_);obtain⟨q,hq⟩:=aN ((lo+hi) / 2);have L:q<l.length:=by omega
   have Z:bP BinOp.shr (V.c (C.f (FC.int IntKind.u64 (IntKind.u64.wrap ((lo:Int)+hi))))) (V.c (C.f (FC.int IntKind.u64 1)))=aa (.c (.f (.int .u64 (q:Int)))):=by
    have:IntKind.u64.wrap ((lo:Int)+hi)=(lo:Int)+hi:=by
     show((lo:Int)+hi) % 18446744073709551616=_;omega
    rw [this];show aa (V.c (C.f (FC.int IntKind.u64 (Int.fdiv ((lo:Int)+hi) (2 ^ (min (1:Int).toNat IntKind.u64.bits))))))=_;have O:Int.fdiv ((lo:Int)+hi) (2 ^ (min (1:Int).toNat IntKind.u64.bits))=q:=by
     show Int.fdiv ((lo:Int)+hi) 2=q;rw [Int.fdiv_eq_ediv_of_nonneg _ (by omega)];omega
    rw [O]
   have p:=aO (n:=(lo:Int)+hi);have Y:IntKind.i64.wrap (q:Int)=q:=aO;refine az ?_;apply ai;simp [I,N,p,Z,Y];apply ai;simp [E,F,bG,L,eh,A];by_cases U:l[q]<n
   ·refine av (by simp [U]) ?_;refine aq (.inl rfl) ?_;simp [aO (n:=(q:Int)+1)];refine ax (next (hi-(q+1)) _ (by omega) ⟨q+1,hi,_,_,rfl,rfl,by omega,by omega,by simp [E],by simp [F],by simp [K],by simp,by simp [N],fun j d h=>?_,v⟩);by_cases e:j=q
    ·subst e;exact U
    ·have:=y j q (by omega) L;omega
   ·refine aF (by simp [U]) ?_;refine aq (.inl rfl) ?_;simp;refine ax (next (q-lo) _ (by omega) ⟨lo,q,_,_,rfl,rfl,by omega,by omega,by simp [E],by simp [F],by simp [K],by simp [I],by simp,u,fun j d h=>?_⟩);by_cases e:j=q
    ·subst e;omega
    ·have:=y q j (by omega) d;omega
  ·have:lo=hi:=by omega
   subst this;refine aF (by simp) ?_;refine bg rfl ?_;apply ai;by_cases x:lo<l.length
   ·have w:=v lo x (by omega);by_cases M:l[lo]=n
    ·simp [E,F,K,I,x,bG,eh,M];refine aD (S _ _ _ ⟨lo,z,u,v,rfl⟩ ?_);have:n ∈ l:=M▸IT x;simp [this]
    ·have B:n ∉ l:=fun X=>by
      obtain⟨j,d,rfl⟩:=alB X;rcases Nat.lt_trichotomy j lo with h | h | h
      ·have:=u j d h;omega
      ·subst h;exact M rfl
      ·have:=y lo j h d;omega
     simp [E,F,K,I,x,bG,eh,M,abQ];refine aD (S _ _ _ ⟨lo,z,u,v,rfl⟩ ?_);simp [B]
   ·have B:n ∉ l:=fun X=>by
     obtain⟨j,d,rfl⟩:=alB X;have:=u j d (by omega);omega
    simp [E,F,K,I,x];refine aD (S _ _ _ ⟨lo,z,u,v,rfl⟩ ?_);simp [B]
 exact⟨i,c,f,O,bX.eq h⟩
theorem lQ{limit:Int}:∀ {l:List Int} {last:Int},dA limit last l=ae→l.Pairwise (· < ·)∧∀ c ∈ l,last<c∧c<limit
 | [],_,_=>⟨List.Pairwise.nil,by simp⟩
 | a::l,last,h=>by
  simp only [dA,If,decide_eq_true_eq]at h;obtain⟨⟨g,j⟩,m⟩:=h;obtain⟨q,d⟩:=lQ m;refine⟨amY.2 ⟨fun c b=>(d c b).1,q⟩,fun c b=>?_⟩;rcases alW.1 b with rfl | b
  ·exact⟨g,j⟩
  ·have:=d c b;omega
theorem a6{p:aI}(h:cF p=ae):0≤p.fr∧p.fr≤1099511627776∧1≤p.aM∧p.aM≤1099511627776∧p.head.length+p.bf.length≤1048576∧p.head.Pairwise (· < ·)∧(∀ c ∈ p.head,-1<c∧c<p.fr)∧p.bf.Pairwise (· < ·)∧∀ c ∈ p.bf,-1<c∧c<p.aM:=by
 unfold cF at h;simp only [If,decide_eq_true_eq]at h;obtain⟨⟨⟨⟨⟨⟨g,j⟩,l⟩,m⟩,u⟩,q⟩,s⟩:=h;obtain⟨a1,b⟩:=lQ q;obtain⟨b1,d⟩:=lQ s;exact⟨g,j,l,m,by omega,a1,b,b1,d⟩
def bK(p:aI)(d:Int):Bool:=if p.fr≤d then decide ((d-p.fr) % p.aM ∈ p.bf)else decide (d ∈ p.head)
def Day(d:Int):Prop:=d≤2305843009213693952
theorem vJ(p:aI)(h:cF p=ae)(d:Int)(z:0≤d)(hd:Day d):bX tab 194 [.a (p.row.map .f),vi d]=Eq (vb (bK p d)):=Kf.eq (by
 obtain⟨A,B,E,F,I,s,K,u,L⟩:=a6 h;unfold Day at hd;refine dM rfl rfl fun H Q v=>?_;have j:∀(t:T) (J:an) (g:Tg) (l:List Int) (n:Int),l.length≤1048576→l.Pairwise (· < ·)→t.g 5=.c (.f (sl g (ints l)))→t.g 6=vi n→bK p d=decide (n ∈ l)→WP tab 194 ab [.code xS] ⟨t,[],H++J⟩ Q:=by
  intro t J g l n M x m q e;obtain⟨i,-,-,-,y⟩:=fT g l n (by omega) x;apply ai;simp [m,q,y];apply ai;simp;refine aD (v _ _ ?_);simp [e]
 apply ai;simp [aI.row];apply ai;simp;apply au;apply ai;simp;by_cases k:p.fr≤d
 ·refine av (by simp [k]) ?_;refine aq (.inl rfl) ?_;simp [aO (n:=d-p.fr),eR (a:=d-p.fr) (b:=p.aM) (by omega) (by omega)];exact j _ _ p.cg p.bf ((d-p.fr) % p.aM) (by omega) u (by simp) (by simp) (by simp [bK,k])
 ·refine aW (by simp [k]) ?_;exact j _ _ p.hg p.head d (by omega) s (by simp) (by simp) (by simp [bK,k]))
def hasB(p:aI)(d:Int):Bool:=decide (0≤d)&&bK p d
theorem abh(p:aI)(h:cF p=ae)(d:Int)(hd:Day d):Kf tab 143 [.a (p.row.map .f),vi d] (vb (hasB p d)):=by
 refine dM rfl rfl fun H Q g=>?_;have b:=qu p (jN h);rw [h]at b;apply ai;simp [aI.row]at b ⊢;apply ai;by_cases k:0≤d
 ·have j:=vJ p h d k hd;simp [aI.row]at j;simp [b,k,j];refine aD (g _ _ ?_);simp [hasB,k]
 ·simp [b,k];refine aD (g _ _ ?_);simp [hasB,k]
theorem JE(p:aI)(h:cF p=ae)(d:Int)(hd:Day d):Kf tab 142 [.a (p.row.map .f),.c (.f (.fp [fi d] 0))] (vb (!hasB p d)):=by
 refine dM rfl rfl fun H Q g=>?_;have b:=(abh p h d hd).eq;simp [aI.row]at b;have j:∀ H:an,aX H ab (.c (.f (.fp [fi d] 0)))=aa (vi d):=fun H=>by simp [aX,aH]
 apply ai;simp [aI.row];apply ai;simp [j,b];refine aD (g _ _ ?_);simp
def tZ(l:List aI)(d:Int):Bool:=l.all fun p=>hasB p d
theorem acg(g:Tg)(l:List aI)(u:l.length≤9223372036854775807)(h:∀ p ∈ l,cF p=ae)(d:Int)(hd:Day d):Kf tab 94 [.c (.f (sl g (aK l))),vi d] (vb (tZ l d)):=by
 refine dM rfl rfl fun H Q m=>?_;have q:=(jG Ty (ns TA l aI.row (fun r=>.a (r.row.map .f)) (fun p=>!hasB p d) g 142 [.fp [fi d] 0] u
  (fun j s H=>cR (bD l) (cQ s)) (fun p v=>JE p (h p v) d hd))).eq
 have e:(!l.any fun p=>!hasB p d)=tZ l d:=by
  rw [tZ,Bool.eq_iff_iff];simp [List.any_eq_false,alA]
 apply ai;simp;apply ai;have b:bX tab 80 [.c (.f (sl g (aK l))),.c (.f (.fn 142 [.fp [fi d] 0]))]=Eq (vb (l.any fun p=>!hasB p d)):=q;simp [deep,UN,Bb,b,e];refine aD (m _ _ ?_);simp
theorem aez(t:cE)(j:t.fs.length≤9223372036854775807)(h:∀ p ∈ t.fs,cF p=ae)(d:Int)(hd:Day d):Kf tab 93 [.c (.f (sl t.tg (aK t.fs))),.c (.f (.fp [fi d] 0))] (vb (tZ t.fs d)):=by
 refine dM rfl rfl fun H Q g=>?_;have b:∀ H:an,aX H ab (.c (.f (.fp [fi d] 0)))=aa (vi d):=fun H=>by simp [aX,aH]
 apply ai;simp;apply ai;simp [b,(acg t.tg t.fs j h d hd).eq];refine aD (g _ _ ?_);simp
def zJ(l:List cE)(d:Int):Bool:=iH l&&l.any fun t=>tZ t.fs d
theorem fA{t:cE}(h:jd t=ae):1≤t.fs.length∧t.fs.length≤4∧∀ p ∈ t.fs,cF p=ae:=by
 unfold jd at h;simp only [If,decide_eq_true_eq,alA]at h;exact⟨by omega,by omega,h.2⟩
theorem ny{l:List cE}(h:iH l=ae):l.length≤64∧∀ t ∈ l,jd t=ae:=by
 unfold iH at h;simp only [If,decide_eq_true_eq,alA]at h;exact⟨by omega,h.2⟩
theorem aaR(g:Tg)(l:List cE)(h:iH l=ae)(d:Int)(hd:Day d):bX tab 56 [.a [.f (sl g (aB l))],vi d]=Eq (vb (zJ l d)):=Kf.eq (by
 obtain⟨z,m⟩:=ny h;have s:=A_ g l (by omega) (fun t b=>⟨by have:=(fA (m t b)).2.1;omega,fun p y=>jN ((fA (m t b)).2.2 p y)⟩);have v:=(jG Tx (ns Tz l cE.row (fun t=>.c (.f (sl t.tg (aK t.fs)))) (fun t=>tZ t.fs d) g 93 [.fp [fi d] 0] (by omega)
  (fun j x H=>gZ (eZ l) (gd x) rfl) (fun t b=>aez t (by have:=(fA (m t b)).2.1;omega) (fA (m t b)).2.2 d hd))).eq
 have q:bX tab 74 [.c (.f (sl g (aB l))),.c (.f (.fn 93 [.fp [fi d] 0]))]=Eq (vb (l.any fun t=>tZ t.fs d)):=v;rw [h]at s;refine dM rfl rfl fun H Q u=>?_;apply ai;simp;apply ai;simp [s,deep,UN,Bb,q];refine aD (u _ _ ?_);simp [zJ,h])
structure Mod(p:aI):Prop where
 ok:cF p=ae
 ai4:p.aM≤1000
def gA(p:aI)(c:Int):Int:=(p.fr % p.aM+c) % p.aM
theorem aiy{x c p:Int}(d:0≤c)(g:c<p):x % p=c↔p ∣ x-c:=by
 have h:=px (a:=x) (b:=c) (n:=p);rw [Int.emod_eq_of_lt d g]at h;exact h
theorem pF{p:aI}(h:Mod p){c:Int}(b:0≤c)(g:c<p.aM):0≤gA p c∧gA p c<p.aM∧∀ d,(d-p.fr) % p.aM=c↔p.aM ∣ d-gA p c:=by
 have j:0<p.aM:=by omega
 refine⟨amc _ (by omega),al9 _ j,fun d=>?_⟩;rw [aiy b g];have e:p.aM ∣ p.fr+c-gA p c:=by
  rw [←px];unfold gA;rw [Int.emod_emod_of_dvd _ (amL _),Int.emod_add_emod]
 constructor
 ·intro k;have:=Int.dvd_add k e;rwa [show d-p.fr-c+(p.fr+c-gA p c)=d-gA p c by omega]at this
 ·intro k;have:=amX k e;rwa [show d-gA p c-(p.fr+c-gA p c)=d-p.fr-c by omega]at this
theorem rD{p:aI}(h:Mod p){c:Int}(d:c ∈ p.bf):0≤c∧c<p.aM:=by
 obtain⟨-,-,-,-,-,-,-,-,b⟩:=a6 h.ok;have:=b c d;omega
def jL(p:aI)(d:Int):Prop:=∃ c ∈ p.bf,p.aM ∣ d-gA p c
theorem ta{p:aI}(h:Mod p){d:Int}(hd:p.fr≤d):bK p d=ae↔jL p d:=by
 unfold bK;rw [ba hd,decide_eq_true_eq];constructor
 ·intro j;obtain⟨a,b⟩:=rD h j;exact⟨_,j,((pF h a b).2.2 d).1 rfl⟩
 ·rintro⟨c,g,e⟩;obtain⟨a,b⟩:=rD h g;rw [((pF h a b).2.2 d).2 e];exact g
theorem tA(p:aI)(h:Mod p)(c:Int)(l:0≤c)(m:c<p.aM):bX tab 121 [.a (p.row.map .f),vi c]=Eq (vi (gA p c)):=Kf.eq (by
 obtain⟨d,j,u,v,-⟩:=a6 h.ok;have q:=amc p.fr (show p.aM≠0 by omega);have s:=al9 p.fr (show 0<p.aM by omega);refine dM rfl rfl fun H Q g=>?_;apply ai;simp [aI.row];apply ai;simp [eR (a:=p.fr) (b:=p.aM) d (by omega),aO (n:=p.fr % p.aM+c),eR (a:=p.fr % p.aM+c) (b:=p.aM) (by omega) (by omega)];refine aD (g _ _ ?_);simp [gA])
def cJ:List aI→Int
 | []=>0| p::l=>max p.fr (cJ l)
theorem nE:∀ l:List aI,0≤cJ l
 | []=>amM _| p::l=>by have:=nE l;simp only [cJ];omega
theorem nD{p:aI}:∀ {l:List aI},p ∈ l→p.fr≤cJ l
 | q::l,h=>by
  simp only [cJ];rcases alW.1 h with rfl | h
  ·omega
  ·have:=nD h;omega
theorem BB{l:List aI}{m:Int}(b:0≤m)(h:∀ p ∈ l,p.fr≤m):cJ l≤m:=by
 induction l with
 | nil=>exact b
 | cons p l g=>
  have:=h p alr;have:=g fun q d=>h q (alu _ d);simp only [cJ];omega
theorem Ae(l:List aI)(p:aI):cJ (l++[p])=max (cJ l) p.fr:=by
 induction l with
 | nil=>simp only [List.nil_append,cJ];omega| cons q l b=>simp only [List.cons_append,cJ,b];omega
theorem VG(g:Tg)(l:List aI)(z:l.length≤64):bX tab 151 [.c (.f (sl g (aK l)))]=Eq (vi (cJ l)):=Kf.eq (by
 refine dM rfl rfl fun H Q y=>?_;apply ai;simp;apply ai;simp;apply au;apply ai;simp;refine bZ l.length (fun j t H'=>(∃ J,H'=H++J)∧t.g 6=.c (.f (sl g (aK l)))∧t.g 3=vi (cJ (l.take j))) (by omega) (by decide) (by decide) (by simp) (by simp) ⟨⟨[],by simp⟩,by simp,by simp [cJ]⟩ ?_ ?_
 ·rintro j t _ u ⟨⟨J,rfl⟩,q,m⟩ s x next
  have d:=fun H:an=>cR (H:=H) (bD l) (cQ (l:=l) (j:=j) u);have b:=fun H:an=>bG (H:=H) (g:=g) (rows:=aK l) (sz:=4) (k:=.i64) (i:=j) (by omega) (by simpa using u);simp [aI.row]at d b;have v:l.take (j+1)=l.take j++[l[j]]:=by rw [aly,By u];rfl
  have e:cJ (l.take (j+1))=max (cJ (l.take j)) l[j].fr:=by rw [v,Ae]
  refine az ?_;apply ai;simp [q,s,b,d];refine aq (.inl rfl) ?_;simp [m];refine ax (next _ _ ?_ (by simp [s]) (by simp [x]));exact⟨⟨_,rfl⟩,by simp [q],by simp [e]⟩
 ·rintro t _ ⟨⟨J,rfl⟩,q,m⟩ s x;rw [alw]at m;apply ai;simp [m];refine aD (y _ _ ?_);simp)
def xR(n a s:Int):Int:=if a<n then a+(n-a+s-1) / s*s else a
theorem C6{n a s:Int}(x:0≤a)(y:a<s)(z:0≤n):n≤xR n a s∧s ∣ xR n a s-a∧xR n a s≤n+s∧∀ d,n≤d→s ∣ d-a→xR n a s≤d:=by
 have l:0<s:=by omega
 unfold xR;split
 ·have m:=al8 (n-a+s-1) s;have u:=amc (n-a+s-1) (show s≠0 by omega);have v:=al9 (n-a+s-1) l;have g:(n-a+s-1) / s*s=s*((n-a+s-1) / s):=ami _ _;rw [g];generalize (n-a+s-1) / s=q at *;refine⟨by omega,⟨q,by omega⟩,by omega,?_⟩;rintro d hd ⟨k,j⟩;rcases amz k q with h | h
  ·have b:s*k≤s*(q-1):=alF (by omega) (by omega);rw [ant,anB]at b;omega
  ·have b:s*q≤s*k:=alF h (by omega);omega
 ·refine⟨by omega,⟨0,by omega⟩,by omega,?_⟩;rintro d hd ⟨k,j⟩;rcases amz k 0 with h | h
  ·have b:s*k≤s*(-1):=alF (by omega) (by omega);omega
  ·have b:0≤s*k:=ams (by omega) h;omega
structure fO(S:Int→Prop)(l:Int)(f:Bool)(l':Int)(f':Bool):Prop where
 le:l'≤l
 fnd:f=ae→f'=ae
 src:(l'=l∧f'=f)∨(f'=ae∧S l')
 low:∀ d,S d→l'≤d∧(d≤l→f'=ae)
theorem fO.none{S:Int→Prop}{l:Int}{f:Bool}(h:∀ d,¬ S d):fO S l f l f:=⟨amM _,id,.inl ⟨rfl,rfl⟩,fun d hd=>absurd hd (h d)⟩
theorem fO.trans{S q s:Int→Prop}{l l1 l2:Int}{f u v:Bool}(h1:fO q l f l1 u)(h2:fO s l1 u l2 v)(m:∀ d,S d↔q d∨s d):fO S l f l2 v where
 le:=amy h2.le h1.le
 fnd h:=h2.fnd (h1.fnd h)
 src:=by
  rcases h2.src with⟨rfl,rfl⟩ | ⟨h,k⟩
  ·rcases h1.src with h | ⟨h,k⟩
   ·exact .inl h
   ·exact .inr ⟨h,(m _).2 (.inl k)⟩
  ·exact .inr ⟨h,(m _).2 (.inr k)⟩
 low d hd:=by
  have b:=h2.le;rcases(m d).1 hd with k | k
  ·obtain⟨a1,j⟩:=h1.low d k;exact⟨by omega,fun e=>h2.fnd (j e)⟩
  ·obtain⟨a1,j⟩:=h2.low d k;refine⟨a1,fun e=>?_⟩;rcases amz l1 d with g | g
   ·rcases h1.src with⟨rfl,rfl⟩ | ⟨h,-⟩
    ·omega
    ·exact h2.fnd h
   ·exact j g
theorem fO.iff{S S':Int→Prop}{l j:Int}{f b:Bool}(h:fO S l f j b)(g:∀ d,S' d↔S d):fO S' l f j b:=
 ⟨h.le,h.fnd,by rcases h.src with k | ⟨k,k'⟩;exact .inl k;exact .inr ⟨k,(g _).2 k'⟩,fun d hd=>h.low d ((g d).1 hd)⟩
theorem fO.one{S:Int→Prop}{l x:Int}{f:Bool}(g:S x)(b:∀ d,S d→x≤d):fO S l f (if x≤l then x else l) (f||decide (x≤l)) where
 le:=by split<;>omega
 fnd h:=by rw [h];rfl
 src:=by
  by_cases k:x≤l
  ·exact .inr ⟨by simp [k],by simpa [k]using g⟩
  ·exact .inl ⟨by simp [k],by simp [k]⟩
 low d hd:=by
  have:=b d hd;constructor
  ·split<;>omega
  ·intro e;simp [show x≤l by omega]
def LH(H:an)(g:Tg)(ps:List aI)(n least:Int)(found:Bool):Prop:=(∃ a,H[0]?=aa (.box [.f (sl g (aK ps))] a))∧H[1]?=aa (.box [.f (fi n)] 0)∧H[2]?=aa (.box [.f (fi least)] 0)∧H[3]?=aa (.box [.f (.bool found)] 0) ∧
 H[4]?=aa (.box [.cl 152 [.ptr 0 0 0,.ptr 4 0 0,.ptr 1 0 0,.ptr 2 0 0,.ptr 3 0 0]] 0)
theorem LH.push{H:an}{g:Tg}{ps:List aI}{n least:Int}{found:Bool}(h:LH H g ps n least found)(J:an):LH (H++J) g ps n least found:=by
 obtain⟨⟨a,h0⟩,h1,h2,h3,h4⟩:=h;refine⟨⟨a,?_⟩,?_,?_,?_,?_⟩
 ·rw [AT (aj h0)];exact h0
 ·rw [AT (aj h1)];exact h1
 ·rw [AT (aj h2)];exact h2
 ·rw [AT (aj h3)];exact h3
 ·rw [AT (aj h4)];exact h4
theorem Jn(g:Tg)(ps:List aI)(H:an)(n least:Int)(found:Bool)(r s:Int)(h:LH H g ps n least found)(A:0≤r)(B:r<s)(F:s≤1000000)(o:0≤n)(p:n≤1000000000000) :
  ∃ v H',Ev tab (.fn 152) [vi ps.length,clV r s,.c (.ptr 0 0 0),.c (.ptr 4 0 0),.c (.ptr 1 0 0),.c (.ptr 2 0 0),.c (.ptr 3 0 0)] H v H' ∧
   (v=.t []∧LH H' g ps n (if xR n r s≤least then xR n r s else least) (found||decide (xR n r s≤least))∧∀ i:Nat,5≤i→i<H.length→H'[i]?=H[i]?):=by
 obtain⟨⟨E,Z⟩,c,e,f,M⟩:=h;obtain⟨u1,-,u3,-⟩:=C6 A B o;have l4:=aj M;refine cH rfl rfl fun Q S=>?_;have m:∀(t:T) (q:an) (y:Int),y=xR n r s→t.g 8=.c (.ptr H.length 0 0)→t.g 4=.c (.ptr 1 0 0)→t.g 5=.c (.ptr 2 0 0)→t.g 6=.c (.ptr 3 0 0)→LH q g ps n least found→q[H.length]?=aa (.box [.f (fi y),.f (fi s)] 0)→(∀ i:Nat,5≤i→i<H.length→q[i]?=H[i]?) →
   WP tab 152 ab [.code yz] ⟨t,[],q⟩ Q:=by
  rintro t q _ rfl L X K Y j W l;have q1:=j.2.1;have U:=j.2.2.1;have q3:=j.2.2.2.1;apply ai;simp [L,X,K,W,q1,U,u1];by_cases k:xR n r s≤least
  ·refine av (by simp [k]) ?_;have I:(q.set 2 (.box [.f (fi (xR n r s))] 0))[3]?=aa (.box [.f (.bool found)] 0):=by rw [sh (by decide)];exact q3
   refine aq (.inl rfl) ?_;simp [L,K,Y,W,U,I];refine cU (S _ _ _ rfl rfl ⟨rfl,?_,fun i hi z=>by rw [sh (by omega),sh (by omega)];exact l i hi z⟩);obtain⟨⟨E,A⟩,B,F,N,O⟩:=j;refine⟨⟨E,?_⟩,?_,?_,?_,?_⟩
   ·rw [sh (by decide),sh (by decide)];exact A
   ·rw [sh (by decide),sh (by decide)];exact B
   ·rw [sh (by decide),BY (aj F)];simp [k]
   ·rw [BY (by rw [List.length_set];exact aj N)];simp [k]
   ·rw [sh (by decide),sh (by decide)];exact O
  ·refine aW (by simp [k]) ?_;refine cU (S _ _ _ rfl rfl ⟨rfl,?_,l⟩);simpa [k]using j
 apply ai;simp;have d:=LH.push (H:=H) (g:=g) (ps:=ps) (n:=n) (least:=least) (found:=found) ⟨⟨E,Z⟩,c,e,f,M⟩ [.box [.f (fi r),.f (fi s)] 0];have x:(H++[b7.box [.f (fi r),.f (fi s)] 0])[H.length]?=aa (.box [.f (fi r),.f (fi s)] 0):=by simp
 have u:∀ i:Nat,5≤i→i<H.length→(H++[b7.box [.f (fi r),.f (fi s)] 0])[i]?=H[i]?:=fun i _ z=>AT z;generalize H++[b7.box [.f (fi r),.f (fi s)] 0]=q at d x u ⊢;obtain⟨a1,r0⟩:=d.1;have J:=d.2.1;apply au;apply ai;simp [r0];refine aW (by simp) ?_;apply au;apply ai;by_cases k:r<n
 ·simp [J,x,k,show 0<s by omega];refine av (by simp) ?_;have a7:xR n r s=r+(n-r+s-1) / s*s:=by unfold xR;rw [ba k]
  have w:=fy (a:=n-r+s-1) (b:=s) (by omega) (by omega) (by omega);have b1:(n-r+s-1) / s*s=xR n r s-r:=by omega
  refine aq (.inl rfl) ?_;simp [J,x,aO (n:=n-r),aO (n:=n-r+s),aO (n:=n-r+s-1),w,b1,aO (n:=xR n r s-r),aO (n:=r+(xR n r s-r))];refine m _ _ _ (show r+(xR n r s-r)=_ by omega) (by simp) (by simp) (by simp) (by simp) ?_ (BY (aj x)) fun i hi z=>by rw [sh (by omega)];exact u i hi z
  obtain⟨⟨a1,A⟩,B,F,N,O⟩:=d;refine⟨⟨a1,?_⟩,?_,?_,?_,?_⟩
  all_goals (rw [sh (by omega)];assumption)
 ·simp [J,x,k];refine aW (by simp) ?_;exact m _ _ r (by unfold xR;rw [aS k]) (by simp) (by simp) (by simp) (by simp) d x u
def eo:List aI→Int
 | []=>1| p::l=>p.aM*eo l
theorem qv{l:List aI}(h:∀ p ∈ l,Mod p):1≤eo l:=by
 induction l with
 | nil=>exact amM _
 | cons p l j=>
  have b:=(a6 (h p alr).ok).2.2.1;have d:=j fun q g=>h q (alu _ g);have:=amE b d (by decide) (by omega);simp only [eo];omega
def se(ps:List aI)(n a s d:Int):Prop:=n≤d∧s ∣ d-a∧∀ p ∈ ps,jL p d
theorem aim(g:Tg)(ps:List aI)(hM:∀ p ∈ ps,Mod p)(j9:ps.length≤64)(n:Int)(hn:0≤n)(h_:n≤1000000000000) :
  ∀(k i:Nat),i+k=ps.length→∀(H:an) (least:Int) (found:Bool) (a s:Int),LH H g ps n least found→0≤a→a<s→s*eo (ps.drop i)≤1000000 →
  ∃ v H',Ev tab (.fn 152) [vi i,clV a s,.c (.ptr 0 0 0),.c (.ptr 4 0 0),.c (.ptr 1 0 0),.c (.ptr 2 0 0),.c (.ptr 3 0 0)] H v H' ∧
   (v=.t []∧∃ F z,LH H' g ps n F z∧fO (se (ps.drop i) n a s) least found F z∧∀ i:Nat,5≤i→i<H.length→H'[i]?=H[i]?):=by
 intro k;induction k with
 | zero=>
  intro i hi H least found a s hH a0 a1 hs;have:i=ps.length:=by omega
  subst this;rw [anb]at hs ⊢;simp only [eo,anB]at hs;obtain⟨v,H',J,rfl,hL,hk⟩:=Jn g ps H n least found a s hH a0 a1 hs hn h_;obtain⟨u1,u2,u3,u4⟩:=C6 (n:=n) a0 a1 hn;exact⟨_,H',J,rfl,_,_,hL,fO.one ⟨u1,u2,fun p hp=>absurd hp (List.not_mem_nil)⟩ (fun d hd=>u4 d hd.1 hd.2.1),hk⟩
 | succ k ih=>
  intro i hi H least found a s hH a0 a1 hs;have u:i<ps.length:=by omega
  obtain⟨p,hp⟩:=aN (ps[i]);have i3:p ∈ ps:=hp▸IT u;have L:=hM p i3;obtain⟨f0,f1,p0,p1,j8,-⟩:=a6 L.ok;have b_:ps.drop i=p::ps.drop (i+1):=by rw [hp];exact alv u
  have i4:=qv (l:=ps.drop (i+1)) fun q hq=>hM q (List.mem_of_mem_drop hq);have k_:s*p.aM*eo (ps.drop (i+1))≤1000000:=by
   rw [b_]at hs;simp only [eo,←ang]at hs;exact hs
  have j_:1≤s:=by omega
  have j4:s≤s*p.aM:=by
   have:=alF p0 (show 0≤s by omega);omega
  have j7:s*p.aM≤1000000:=by
   have:=alF i4 (show 0≤s*p.aM by omega);omega
  refine cH rfl rfl fun Q hQ=>?_;have E:=fun H:an=>cR (H:=H) (bD ps) (cQ (l:=ps) (j:=i) u);have m:=fun H:an=>mG (H:=H) (k:=3) (bD ps) (cQ (l:=ps) (j:=i) u) rfl;have B:=fun H:an=>mG (H:=H) (k:=2) (bD ps) (cQ (l:=ps) (j:=i) u) rfl;have A:=fun H:an=>bG (H:=H) (g:=g) (rows:=aK ps) (sz:=4) (k:=.i64) (i:=i) (by omega) (by simpa using u);rw [←hp]at E m B;simp [aI.row]at E A m B;have l4:=aj hH.2.2.2.2;apply ai;simp;have a7:=hH.push [.box [.f (fi a),.f (fi s)] 0];have K:(H++[b7.box [.f (fi a),.f (fi s)] 0])[H.length]?=aa (.box [.f (fi a),.f (fi s)] 0):=by simp
  have c_:∀ i:Nat,5≤i→i<H.length→(H++[b7.box [.f (fi a),.f (fi s)] 0])[i]?=H[i]?:=fun i _ hl=>AT hl;obtain⟨b8,f_⟩:=aN (H.length);rw [←f_]at K ⊢;generalize H++[b7.box [.f (fi a),.f (fi s)] 0]=HH at a7 K c_ ⊢;obtain⟨q,q0⟩:=a7.1;apply au;apply ai;simp [q0];refine av (by simp [u]) ?_;apply au;apply ai;simp [q0,A,m];refine bZ p.bf.length (fun j t H'=>t.g 0=vi i∧t.g 2=.c (.ptr 0 0 0)∧t.g 3=.c (.ptr 4 0 0)∧t.g 8=.c (.ptr b8 0 0)∧t.g 21=.c (.f (sl p.cg (ints p.bf)))∧H'[b8]?=aa (.box [.f (fi a),.f (fi s)] 0) ∧
   ∃ l' U,LH H' g ps n l' U∧fO (fun d=>se (ps.drop (i+1)) n a s d∧∃ c ∈ p.bf.take j,p.aM ∣ d-gA p c) least found l' U∧∀ x:Nat,5≤x→x<H.length→H'[x]?=H[x]?) (by omega) (by decide) (by decide) (by simp) (by simp)
   ⟨by simp,by simp,by simp,by simp,by simp,K,_,_,a7,fO.none (by simp),c_⟩ ?_ ?_
  ·rintro j t H' hj ⟨g0,g2,g3,g8,O,K,l',U,I,hP,b⟩ ha hb next
   have hm:=rD L (IT hj);obtain⟨i9,i_,-⟩:=pF L hm.1 hm.2;have M:=tA p L p.bf[j] hm.1 hm.2;simp [aI.row]at M;have i8:p.bf.take (j+1)=p.bf.take j++[p.bf[j]]:=by rw [aly,By hj];rfl
   have d9:∀ d,(se (ps.drop (i+1)) n a s d∧∃ c ∈ p.bf.take (j+1),p.aM ∣ d-gA p c)↔(se (ps.drop (i+1)) n a s d∧∃ c ∈ p.bf.take j,p.aM ∣ d-gA p c)∨(se (ps.drop (i+1)) n a s d∧p.aM ∣ d-gA p p.bf[j]):=by
    intro d;rw [i8];simp only [aln,alm];constructor
    ·rintro⟨h,c,hc | rfl,e⟩
     ·exact .inl ⟨h,c,hc,e⟩
     ·exact .inr ⟨h,e⟩
    ·rintro(⟨h,c,hc,e⟩ | ⟨h,e⟩)
     ·exact⟨h,c,.inl hc,e⟩
     ·exact⟨h,_,.inr rfl,e⟩
   obtain⟨a9,e0⟩:=I.1;have e4:=I.2.2.2.2;have j3:=aj K;refine az ?_;apply ai;simp [ha,O,bG,hj,eh];rcases aaQ a0 a1 (by omega) i9 i_ L.ai4 with⟨a',N,d_,e_,i6,c9,y⟩ | ⟨a_,y⟩
   ·apply ai;simp [g0,g2,g8,K,e0,A,E,B,M,y];have i7:N*eo (ps.drop (i+1))≤1000000:=by
     have:=anD i6 (show 0≤eo (ps.drop (i+1)) by omega);omega
    obtain⟨v,H2,J,rfl,l2,f2,f7,f8,a8⟩:=ih (i+1) (by omega) (H'++[.box [.f (fi a'),.f (fi N)] 0]) l' U a' N (I.push _) d_ e_ i7;have J:=J.eq;have k4:(H'++[b7.box [.f (fi a'),.f (fi N)] 0])[4]?=aa (.box [.cl 152 [.ptr 0 0 0,.ptr 4 0 0,.ptr 1 0 0,.ptr 2 0 0,.ptr 3 0 0]] 0):=by rw [AT (aj e4)];exact e4
    have kN:(H'++[b7.box [.f (fi a'),.f (fi N)] 0])[H'.length]?=aa (.box [.f (fi a'),.f (fi N)] 0):=by simp
    have kl:(H'++[b7.box [.f (fi a'),.f (fi N)] 0]).length=H'.length+1:=by simp
    have kb:(H'++[b7.box [.f (fi a'),.f (fi N)] 0])[b8]?=aa (.box [.f (fi a),.f (fi s)] 0):=by rw [AT (aj K)];exact K
    have kk:∀ x:Nat,5≤x→x<H.length→(H'++[b7.box [.f (fi a'),.f (fi N)] 0])[x]?=H[x]?:=fun x h5 hx=>by
     rw [AT (by omega)];exact b x h5 hx
    apply au;refine aq (.inl rfl) ?_;simp;generalize H'++[b7.box [.f (fi a'),.f (fi N)] 0]=HA at J k4 kN kl kb kk a8 ⊢;refine av (by simp) ?_;refine aq (.inl rfl) ?_;have g_:IntKind.i64.wrap ((i:Int)+1)=((i+1:Nat):Int):=by rw [aO];rfl
    simp [g0,g3,k4,kN,g_,bW];rw [show(↑i+1:Int)=((i+1:Nat):Int) from rfl];simp only [J];simp;refine ax (next _ _ ?_ (by simp [ha]) (by simp [hb]));refine⟨by simp [g0],by simp [g2],by simp [g3],by simp [g8],by simp [O],?_,l2,f2,f7,?_,?_⟩
    ·rw [a8 b8 (by omega) (by omega)];exact kb
    ·refine fO.trans hP (f8.iff (S':=fun d=>se (ps.drop (i+1)) n a s d∧p.aM ∣ d-gA p p.bf[j]) fun d=>?_) d9;unfold se;rw [←c9 d];constructor
     ·rintro⟨⟨W,X,Y⟩,Z⟩;exact⟨W,⟨X,Z⟩,Y⟩
     ·rintro⟨W,⟨X,Z⟩,Y⟩;exact⟨⟨W,X,Y⟩,Z⟩
    ·intro x h5 hx;rw [a8 x h5 (by omega)];exact kk x h5 hx
   ·apply ai;simp [g0,g2,g8,K,e0,A,E,B,M,y];apply au;refine aq (.inl rfl) ?_;simp;refine aW (by simp) ?_;refine ax (next _ _ ?_ (by simp [ha]) (by simp [hb]));refine⟨by simp [g0],by simp [g2],by simp [g3],by simp [g8],by simp [O],?_,l',U,I.push _,fO.trans hP (fO.none (S:=fun d=>se (ps.drop (i+1)) n a s d∧p.aM ∣ d-gA p p.bf[j]) fun d hd=>a_ d ⟨hd.1.2.1,hd.2⟩) d9,?_⟩
    ·rw [AT (by omega)];exact K
    ·intro x h5 hx;rw [AT (by omega)];exact b x h5 hx
  ·rintro t H' ⟨g0,g2,g3,g8,O,K,l',U,I,hP,b⟩ - -;rw [alw]at hP;refine aD (hQ _ _ _ rfl rfl ⟨rfl,l',U,I,hP.iff fun d=>?_,b⟩);rw [b_];unfold se;simp only [alW,forall_eq_or_imp];constructor
   ·rintro⟨W,X,Y,Z⟩;exact⟨⟨W,X,Z⟩,Y⟩
   ·rintro⟨⟨W,X,Z⟩,Y⟩;exact⟨W,X,Y,Z⟩
theorem vR{p:aI}:∀ {l:List aI},p ∈ l→p.aM ∣ eo l
 | q::l,h=>by
  simp only [eo];rcases alW.1 h with rfl | h
  ·exact anj _ _
  ·exact amB (vR h) (anA _ _)
theorem Jm{p:aI}{d k:Int}(h:jL p d)(g:p.aM ∣ k):jL p (d-k):=by
 obtain⟨c,b,e⟩:=h;refine⟨c,b,?_⟩;have:=amX e g;rwa [show d-gA p c-k=d-k-gA p c by omega]at this
theorem vB{ps:List aI}(g:∀ p ∈ ps,Mod p){m d:Int}(h:∀ p ∈ ps,jL p d)(s:m≤d):∃ d',m≤d'∧d'<m+eo ps∧∀ p ∈ ps,jL p d':=by
 have u:=qv g;have j:=al8 (d-m) (eo ps);have l:=amc (d-m) (show eo ps≠0 by omega);have q:=al9 (d-m) (show 0<eo ps by omega);refine⟨d-eo ps*((d-m) / eo ps),by omega,by omega,fun p b=>Jm (h p b) (amB (vR b) (anj _ _))⟩
def adG(ps:List aI)(m d:Int):Prop:=m≤d∧(∀ p ∈ ps,jL p d)∧d<m+eo ps∧∀ d',m≤d'→(∀ p ∈ ps,jL p d')→d≤d'
theorem aaI(g:Tg)(ps:List aI)(x:∀ p ∈ ps,Mod p)(L:ps.length≤64)(W:eo ps≤1000000)(n m:Int)(S:m=max n (cJ ps))(I:m≤1000000000000) :
  (∃ d,adG ps m d∧bX tab 108 [.c (.f (sl g (aK ps))),vi n]=Eq (.t [vi d,vb ae])) ∨
  ((∀ d,m≤d→¬ ∀ p ∈ ps,jL p d)∧bX tab 108 [.c (.f (sl g (aK ps))),vi n]=Eq (.t [vi 0,vb ag])):=by
 have s:=VG g ps L;have X:=nE ps;have U:=qv x;obtain⟨v,H',b,rfl,z,O,E,y,-⟩:=aim g ps x L m (by omega) I ps.length 0 (by omega) [.box [.f (sl g (aK ps))] 0,.box [.f (fi m)] 0,.box [.f (fi 1152921504606846976)] 0,.box [.f (.bool ag)] 0,.box [.cl 152 [.ptr 0 0 0,.ptr 4 0 0,.ptr 1 0 0,.ptr 2 0 0,.ptr 3 0 0]] 0]
  1152921504606846976 ag 0 1 ⟨⟨0,rfl⟩,rfl,rfl,rfl,rfl⟩ (by decide) (by decide) (by rw [amd];omega)
 rw [amd]at y;have H:∀ d,se ps m 0 1 d↔m≤d∧∀ p ∈ ps,jL p d:=fun d=>⟨fun h=>⟨h.1,h.2.2⟩,fun h=>⟨h.1,Int.one_dvd _,h.2⟩⟩
 have j:max n (cJ ps)=m:=S.symm;have b:=b.eq;simp only [show((0:Nat):Int)=0 from rfl]at b;cases O with
 | true=>
  left;have q:se ps m 0 1 z:=by
   rcases y.src with⟨_,h⟩ | ⟨_,h⟩
   ·cases h
   ·exact h
  have l:∀ d',m≤d'→(∀ p ∈ ps,jL p d')→z≤d':=fun d' A B=>(y.low d' ((H d').2 ⟨A,B⟩)).1;obtain⟨M,N⟩:=(H z).1 q;obtain⟨u,J,Y,K⟩:=vB x N M;refine⟨z,⟨M,N,by have:=l u J K;omega,l⟩,bX.eq (cz rfl rfl fun Q F=>?_)⟩;apply ai;simp;apply ai;simp [s,j];apply ai;simp;apply ai;simp;apply ai;simp;apply ai;simp [bW,b];apply au;apply ai;simp [E.2.2.2.1];refine aW (by simp) ?_;apply ai;simp [E.2.2.1];refine aD (F _ _ ?_);simp
 | false=>
  right;refine⟨fun d A B=>?_,bX.eq (cz rfl rfl fun Q F=>?_)⟩
  ·obtain⟨u,J,Y,K⟩:=vB x B A;have:=(y.low u ((H u).2 ⟨J,K⟩)).2 (by omega);cases this
  ·apply ai;simp;apply ai;simp [s,j];apply ai;simp;apply ai;simp;apply ai;simp;apply ai;simp [bW,b];apply au;apply ai;simp [E.2.2.2.1];refine av (by simp) ?_;apply ai;simp;refine aD (F _ _ ?_);simp
def qf:List (Int × Int)→List aI→Prop
 | _,[]=>True| ch,p::l=>∃ c ∈ p.bf,(∀ x ∈ ch,(amf p.aM x.2:Int) ∣ gA p c-x.1)∧qf (ch++[(gA p c,p.aM)]) l
theorem xB{d:Int}:∀(l:List aI) (ch:List (Int × Int)),(∀ x ∈ ch,x.2 ∣ d-x.1)→(∀ p ∈ l,jL p d)→qf ch l
 | [],_,_,_=>trivial
 | p::l,ch,j,m=>by
  obtain⟨c,g,hd⟩:=m p alr;refine⟨c,g,fun x b=>?_,xB l _ (fun x b=>?_) fun q v=>m q (alu _ v)⟩
  ·have s:=amB (Int.gcd_dvd_right p.aM x.2) (j x b);have u:=amB (ann p.aM x.2) hd;have:=amX s u;rwa [show d-x.1-(d-gA p c)=gA p c-x.1 by omega]at this
  ·rcases aln.1 b with b | b
   ·exact j x b
   ·rw [alm.1 b];exact hd
def RH(B:an)(H:an)(g:Tg)(ps:List aI)(b:List Int):Prop:=(∃ a,H[B.length]?=aa (.box [.f (sl g (aK ps))] a))∧H[B.length+1]?=aa (.box (b.map fun x=>C.f (fi x)) 0)∧H[B.length+2]?=aa (.box [.sl (B.length+1) 0 ps.length ps.length 0 1] 0) ∧
 H[B.length+3]?=aa (.box [.cl 120 [.ptr B.length 0 0,.ptr (B.length+2) 0 0,.ptr (B.length+3) 0 0]] 0)∧∀ i:Nat,i<B.length→H[i]?=B[i]?
def Cho(ps:List aI)(b:List Int)(ch:List (Int × Int)):Prop:=∀ j,(h:j<ch.length)→b[j]?=aa ch[j].1∧(∃ p,ps[j]?=aa p∧p.aM=ch[j].2)∧0≤ch[j].1∧ch[j].1≤1000
theorem akB(B:an){o:Nat}(ho:o=B.length)(g:Tg)(ps:List aI)(hM:∀ p ∈ ps,Mod p)(s7:ps.length≤64) :
  ∀(k i:Nat),i+k=ps.length→∀(H:an) (ls:List Int) (ch:List (Int × Int)),RH B H g ps ls→ls.length=ps.length→ch.length=i→Cho ps ls ch →
  ∃ v H',Ev tab (.fn 120) [vi i,.c (.ptr o 0 0),.c (.ptr (o+2) 0 0),.c (.ptr (o+3) 0 0)] H v H' ∧
   ∃ b,v=vb b∧(b=ae↔qf ch (ps.drop i))∧∃ d,RH B H' g ps d∧d.length=ps.length∧d.take i=ls.take i:=by
 intro k;induction k with
 | zero=>
  intro i hi H ls ch hH i9 i4 E;have:i=ps.length:=by omega
  subst this;obtain⟨q,q0⟩:=hH.1;rw [←ho]at q0;refine cH rfl rfl fun Q hQ=>?_;apply ai;simp;refine kI ?_;apply au;apply ai;simp [q0];refine av (by simp) ?_;apply ai;simp;exact aD (hQ _ _ _ rfl (dz (by simp)) ⟨ae,rfl,by rw [anb];simp [qf],ls,hH,i9,rfl⟩)
 | succ k ih=>
  intro i hi H ls ch hH i9 i4 E;have u:i<ps.length:=by omega
  obtain⟨p,hp⟩:=aN (ps[i]);have r7:p ∈ ps:=hp▸IT u;have O:=hM p r7;obtain⟨f0,f1,p0,p1,r9,-⟩:=a6 O.ok;have o_:ps.drop i=p::ps.drop (i+1):=by rw [hp];exact alv u
  have Z:=fun H:an=>cR (H:=H) (bD ps) (cQ (l:=ps) (j:=i) u);have s:=fun H:an=>mG (H:=H) (k:=3) (bD ps) (cQ (l:=ps) (j:=i) u) rfl;have X:=fun H:an=>mG (H:=H) (k:=2) (bD ps) (cQ (l:=ps) (j:=i) u) rfl;have F:=fun H:an=>bG (H:=H) (g:=g) (rows:=aK ps) (sz:=4) (k:=.i64) (i:=i) (by omega) (by simpa using u);rw [←hp]at Z s X;simp [aI.row]at Z F s X;obtain⟨q,q0⟩:=hH.1;rw [←ho]at q0;refine cH rfl rfl fun Q hQ=>?_;apply ai;simp;refine kI ?_;apply au;apply ai;simp [q0];refine aF (by simp;omega) (aP ?_);refine au (oV ?_);apply au;apply ai;simp [q0,F,s];obtain⟨Ok,j8⟩:∃ Ok:Int→Prop,Ok=fun c=>(∀ x ∈ ch,(amf p.aM x.2:Int) ∣ gA p c-x.1)∧qf (ch++[(gA p c,p.aM)]) (ps.drop (i+1)):=⟨_,rfl⟩
  have S:∀ c,Ok c↔((∀ x ∈ ch,(amf p.aM x.2:Int) ∣ gA p c-x.1)∧qf (ch++[(gA p c,p.aM)]) (ps.drop (i+1))):=fun c=>by rw [j8]
  have e_:qf ch (ps.drop i)↔∃ c ∈ p.bf,Ok c:=by rw [o_,j8];rfl
  refine bZ p.bf.length (fun j t H'=>t.g 0=vi i∧t.g 1=.c (.ptr o 0 0)∧t.g 2=.c (.ptr (o+2) 0 0)∧t.g 3=.c (.ptr (o+3) 0 0)∧t.g 18=.c (.f (sl p.cg (ints p.bf))) ∧
   (∀ c ∈ p.bf.take j,¬ Ok c)∧∃ d,RH B H' g ps d∧d.length=ps.length∧d.take i=ls.take i) (by omega) (by decide) (by decide) (by simp) (by simp) ⟨by simp,by simp,by simp,by simp,by simp,by simp,ls,hH,i9,rfl⟩ ?_ ?_
  ·rintro j t H' hj ⟨N,g1,g2,g3,m,c_,d,hR,J,K⟩ ha hb next
   have hm:=rD O (IT hj);obtain⟨o6,r8,-⟩:=pF O hm.1 hm.2;have Y:=tA p O p.bf[j] hm.1 hm.2;simp [aI.row]at Y;have s_:=O.ai4;have o0:p.bf.take (j+1)=p.bf.take j++[p.bf[j]]:=by rw [aly,By hj];rfl
   have f8:¬ Ok p.bf[j]→∀ c ∈ p.bf.take (j+1),¬ Ok c:=by
    intro h c hc;rw [o0,aln,alm]at hc;rcases hc with hc | rfl
    ·exact c_ c hc
    ·exact h
   obtain⟨r,hr⟩:=aN (gA p p.bf[j]);rw [←hr]at o6 r8 Y;obtain⟨q',d9⟩:=hR.1;have M:=hR.2.1;have d_:=hR.2.2.1;have o4:=hR.2.2.2.1;have o5:=hR.2.2.2.2;rw [←ho]at d9 M d_ o4 o5;have f7:∀ j,(h:j<ch.length)→d[j]?=aa ch[j].1:=fun j h=>by
    have h1:(d.take i)[j]?=d[j]?:=List.getElem?_take_of_lt (by omega);have h2:(ls.take i)[j]?=ls[j]?:=List.getElem?_take_of_lt (by omega);rw [←h1,K,h2];exact(E j h).1
   refine az ?_;apply ai;simp [ha,m,bG,hj,eh];apply ai;simp [N,g1,d9,F,Z,Y];apply au;apply ai;simp [N];refine bZ i (fun n t H2=>(t.g 0=vi i∧t.g 1=.c (.ptr o 0 0)∧t.g 2=.c (.ptr (o+2) 0 0)∧t.g 3=.c (.ptr (o+3) 0 0)∧t.g 18=.c (.f (sl p.cg (ints p.bf)))∧t.g 20=vi j∧t.g 19=vi p.bf.length∧t.g 8=vi r)∧H2=H'∧∀ x ∈ ch.take n,(amf p.aM x.2:Int) ∣ r-x.1)
    (by omega) (by decide) (by decide) (by simp) (by simp) ⟨⟨by simp [N],by simp [g1],by simp [g2],by simp [g3],by simp [m],by simp [ha],by simp [hb],by simp⟩,rfl,by simp⟩ ?_ ?_
   ·rintro n t H2 hn ⟨⟨N,g1,g2,g3,m,a8,a7,g8⟩,h_,A⟩ j_ o9 nx;rw [h_];have c9:n<ps.length:=by omega
    have b_:n<ch.length:=by omega
    obtain⟨-,⟨pn,n9,i_⟩,x0,x1⟩:=E n b_;have i8:=f7 n b_;obtain⟨x,hx⟩:=aN (ch[n]);rw [←hx]at i8 i_ x0 x1;have f_:ps[n]=pn:=by rw [By c9]at n9;exact amS n9
    have o8:=hM pn (f_▸IT c9);obtain⟨-,-,z0,z1,-⟩:=a6 o8.ok;rw [i_]at z0 z1;have z:=fun H:an=>mG (H:=H) (k:=2) (bD ps) (cQ (l:=ps) (j:=n) c9) rfl;have U:=fun H:an=>bG (H:=H) (g:=g) (rows:=aK ps) (sz:=4) (k:=.i64) (i:=n) (by omega) (by simpa using c9);rw [f_]at z;simp [aI.row,i_]at z U;have W:bB H' 1 ab (.c (.sl (o+1) 0 ps.length ps.length 0 1)) (vi n)=aa (.c (.ptr (o+1) n 0)):=by
     simp [bB,gj,M,J];omega
    have m_:aX H' ab (.c (.ptr (o+1) n 0))=aa (vi x.1):=by
     have hd:(d.map fun y=>C.f (fi y)).drop n=C.f (fi x.1) ::(d.map fun y=>C.f (fi y)).drop (n+1):=by
      rw [alv (by simp;omega),amN];rw [By (by omega)]at i8;rw [amS i8]
     simp only [aX,aH,M,Option.bind_some];rw [hd];rfl
    have q_:aX H' ab (.c (.ptr (o+2) 0 0))=aa (.c (.sl (o+1) 0 ps.length ps.length 0 1)):=by simp [d_]
    have p_:aX H' ab (.c (.ptr o 0 0))=aa (.c (.f (sl g (aK ps)))):=by simp [d9]
    obtain⟨gg,i7⟩:=aN ((amf p.aM x.2:Int):Int);have p8:amf p.aM x.2=amW p.aM.toNat x.2.toNat:=by
     show amW p.aM.natAbs x.2.natAbs=_;rw [show p.aM.natAbs=p.aM.toNat by omega,show x.2.natAbs=x.2.toNat by omega]
    have r_:0<gg:=by
     have:=amt x.2 (show p.aM≠0 by omega);omega
    have l_:bX tab 122 [vi p.aM,vi x.2]=Eq (vi gg):=by
     have h:=wL (a:=p.aM.toNat) (b:=x.2.toNat) (by omega) (by omega);rw [show((p.aM.toNat:Nat):Int)=p.aM by omega,show((x.2.toNat:Nat):Int)=x.2 by omega,←p8,←i7]at h;exact h
    have o7:=aO (n:=r-x.1);have n_:bP .rem (vi (r-x.1)) (vi gg)=aa (vi ((r-x.1).tmod gg)):=gV (by omega);have I:ch.take (n+1)=ch.take n++[x]:=by rw [aly,By b_,hx];rfl
    refine az ?_;apply ai;simp [j_];apply ai;simp [N,g1,g2,g8,p_,q_,W,m_,F,X,U,z,l_,o7,n_,-ay];by_cases hd:gg ∣ r-x.1
    ·have j3:(r-x.1).tmod gg=0:=Int.tmod_eq_zero_of_dvd hd;refine aW (by simp [j3]) ?_;refine ax (nx _ _ ?_ (by simp [j_]) (by simp [o9]));refine⟨⟨by simp [N],by simp [g1],by simp [g2],by simp [g3],by simp [m],by simp [a8],by simp [a7],by simp [g8]⟩,rfl,fun y hy=>?_⟩;rw [I,aln,alm]at hy;rcases hy with hy | rfl
     ·exact A y hy
     ·rw [←i7];exact hd
    ·have j3:¬ (r-x.1).tmod gg=0:=fun e=>hd (Int.dvd_of_tmod_eq_zero e);refine av (by simp [j3]) ?_;refine bg rfl (next _ _ ?_ (by simp [a8]) (by simp [a7]));refine⟨by simp [N],by simp [g1],by simp [g2],by simp [g3],by simp [m],f8 ?_,d,hR,J,K⟩;rw [S];rintro⟨h,-⟩;have:=h x (hx▸IT b_);rw [←i7,←hr]at this;exact hd this
   ·rintro t H2 ⟨⟨N,g1,g2,g3,m,a8,a7,g8⟩,h_,A⟩ - -;rw [h_];rw [alz (by omega)]at A;have W:bB H' 1 ab (.c (.sl (o+1) 0 ps.length ps.length 0 1)) (vi i)=aa (.c (.ptr (o+1) i 0)):=by
     simp [bB,gj,M,J];omega
    have g_:dt H' (.ptr (o+1) i 0) [.f (fi r)]=aa (H'.set (o+1) (.box ((d.set i r).map fun y=>C.f (fi y)) 0)):=by
     simp only [dt,M];rw [ba (by simp;omega),tr (by simp;omega),List.map_set]
    have n8:(H'.set (o+1) (.box ((d.set i r).map fun y=>C.f (fi y)) 0))[o+3]?=H'[o+3]?:=sh (by omega);have n6:=aj M;have i3:RH B (H'.set (o+1) (.box ((d.set i r).map fun y=>C.f (fi y)) 0)) g ps (d.set i r):=by
     unfold RH;rw [←ho];refine⟨⟨q',?_⟩,BY n6,?_,?_,fun i hi=>?_⟩
     ·rw [sh (by omega)];exact d9
     ·rw [sh (by omega)];exact d_
     ·rw [n8];exact o4
     ·rw [sh (by omega)];exact o5 i hi
    have i6:Cho ps (d.set i r) (ch++[(r,p.aM)]):=by
     intro y hy;rw [alj,List.length_singleton]at hy;by_cases j4:y<ch.length
     ·rw [List.getElem_append_left j4,sh (by omega)];obtain⟨-,h2,h3⟩:=E y j4;exact⟨f7 y j4,h2,h3⟩
     ·have:y=i:=by omega
      subst this;rw [List.getElem_append_right (by omega)];simp only [i4,Nat.sub_self,List.getElem_cons_zero];refine⟨by rw [BY (by omega)],⟨p,by rw [By u,hp],rfl⟩,o6,by omega⟩
    obtain⟨v,H3,a_,b,rfl,k_,L,j9,m9,I⟩:=ih (i+1) (by omega) _ _ (ch++[(r,p.aM)]) i3 (by simpa using J) (by simp [i4]) i6;have a_:=a_.eq;have j7:=i3.2.2.2.1;rw [←ho]at j7;generalize H'.set (o+1) (.box ((d.set i r).map fun y=>C.f (fi y)) 0)=HN at g_ a_ j7 n8 i3;have p9:IntKind.i64.wrap ((i:Int)+1)=((i+1:Nat):Int):=by rw [aO];rfl
    apply ai;simp [N,g2,g8,d_,W,g_,-bw];apply ai;simp [N,g3,j7,p9,bW];rw [show(↑i+1:Int)=((i+1:Nat):Int) from rfl];simp only [a_];simp;cases b with
    | true=>
     refine av (by simp) ?_;apply ai;simp;refine aD (hQ _ _ _ rfl (dz (by simp)) ⟨ae,rfl,?_,L,j9,m9,?_⟩)
     ·rw [e_];refine⟨fun _=>⟨_,IT hj,?_⟩,fun _=>rfl⟩;rw [S,←hr];exact⟨A,k_.1 rfl⟩
     ·have h1:(L.take (i+1)).take i=L.take i:=by rw [am9,Nat.min_eq_left (by omega)]
      rw [←h1,I,am9,Nat.min_eq_left (by omega),List.take_set_of_le (by omega),K]
    | false=>
     refine aW (by simp) ?_;refine ax (next _ _ ?_ (by simp [a8]) (by simp [a7]));refine⟨by simp [N],by simp [g1],by simp [g2],by simp [g3],by simp [m],f8 ?_,L,j9,m9,?_⟩
     ·rw [S,←hr];rintro⟨-,h⟩;have:=k_.2 h;cases this
     ·have h1:(L.take (i+1)).take i=L.take i:=by rw [am9,Nat.min_eq_left (by omega)]
      rw [←h1,I,am9,Nat.min_eq_left (by omega),List.take_set_of_le (by omega),K]
  ·rintro t H' ⟨N,g1,g2,g3,m,c_,d,hR,J,K⟩ - -;rw [alw]at c_;apply ai;simp;refine aD (hQ _ _ _ rfl (dz (by simp)) ⟨ag,rfl,?_,d,hR,J,K⟩);rw [e_];constructor
   ·intro h;cases h
   ·rintro⟨c,hc,h⟩;exact absurd h (c_ c hc)
theorem dG{n b:Nat}(g:n≤1100000)(d:b≤4096):cN n b=ae:=by
 have h:(2*n+768)*b≤2200768*4096:=Nat.mul_le_mul (by omega) d;simp [cN];omega
theorem JP(g:Tg)(ps:List aI)(B:∀ p ∈ ps,Mod p)(I:1≤ps.length)(F:ps.length≤64):∃ b,(b=ae↔qf [] ps)∧Kf tab 78 [.c (.f (sl g (aK ps)))] (vb b):=by
 obtain⟨b,z⟩:∃ b:Bool,b=ae↔qf [] ps:=⟨open Classical in decide (qf [] ps),by simp⟩
 refine⟨b,z,dM rfl rfl fun H Q E=>?_⟩;have u:RH H (H++[.box [.f (sl g (aK ps))] 0,.box (List.replicate ps.length (C.f (fi 0))) 0,.box [.sl (H.length+1) 0 ps.length ps.length 0 1] 0,.box [.cl 120 [.ptr H.length 0 0,.ptr (H.length+2) 0 0,.ptr (H.length+3) 0 0]] 0]) g ps (List.replicate ps.length 0):=by
  refine⟨⟨0,by simp⟩,by simp,by simp,by simp,fun i hi=>AT hi⟩
 obtain⟨v,H',d,A,rfl,q,K,m,-⟩:=akB H rfl g ps B F ps.length 0 (by omega) _ _ [] u (by simp) rfl (fun j h=>absurd h (Nat.not_lt_zero j));rw [amd,←z]at q;have x:A=b:=by rw [Bool.eq_iff_iff];exact q
 subst x;have d:=d.eq;simp only [show((0:Nat):Int)=0 from rfl]at d;apply ai;simp;have l:cN ps.length 8=ae:=dG (by omega) (by decide);have y:∀(t:T) (H:an),t.g 6=vi ps.length→bE t H (.dN 1 8 [.int .i64 0] (R 6) (R 6))=aa (.c (.sl H.length 0 ps.length ps.length 0 1),H++[.box (List.replicate ps.length (C.f (fi 0))) 0]):=by
  intro t H h;have e:(cM ps.length [fi 0]).map C.f=List.replicate ps.length (C.f (fi 0)):=by simp [cM]
  simp only [bE,rm,h,gj];rw [ba ⟨by omega,amM _,by simpa using l,rfl⟩];rw [aS (by omega),alJ,e]
 apply ai;simp [y];apply ai;simp;apply ai;simp;apply ai;simp [bW,d];have s:H'=H++H'.drop H.length:=by
  refine List.ext_getElem? fun i=>?_;have J:=aj m.2.2.2.1;rcases Nat.lt_or_ge i H.length with h | h
  ·exact(m.2.2.2.2 i h).trans (AT h).symm
  ·refine Eq.trans ?_ (alp h).symm;rw [List.getElem?_drop,Nat.add_sub_cancel' h]
 refine aD (E _ _ ?_);simp;exact⟨_,s⟩
theorem vT(g:Tg)(ps:List aI)(j:∀ p ∈ ps,Mod p)(d:1≤ps.length)(m:ps.length≤64):∃ b,(b=ae↔qf [] ps)∧bX tab 78 [.c (.f (sl g (aK ps)))]=Eq (vb b):=by
 obtain⟨b,l,h⟩:=JP g ps j d m;exact⟨b,l,h.eq⟩
def ew(S:Int→Prop)(l:Int)(f:Bool):Prop:=(f=ag∧l=0∧∀ d,¬ S d)∨(f=ae∧S l∧∀ d,S d→l≤d)
theorem ew.iff{S S':Int→Prop}{l:Int}{f:Bool}(h:ew S l f)(g:∀ d,S' d↔S d):ew S' l f:=by
 rcases h with⟨a,b,c⟩ | ⟨a,b,c⟩
 ·exact .inl ⟨a,b,fun d hd=>c d ((g d).1 hd)⟩
 ·exact .inr ⟨a,(g _).2 b,fun d hd=>c d ((g d).1 hd)⟩
theorem ew.step{S S':Int→Prop}{l x:Int}{f:Bool}(h:ew S l f)(g:∀ d,S' d↔S d∨d=x):ew S' (if f=ag∨x<l then x else l) ae:=by
 right;rcases h with⟨rfl,rfl,c⟩ | ⟨rfl,b,c⟩
 ·refine⟨rfl,by simpa using (g x).2 (.inr rfl),fun d hd=>?_⟩;rcases(g d).1 hd with h | rfl
  ·exact absurd h (c d)
  ·simp
 ·refine⟨rfl,?_,fun d hd=>?_⟩
  ·by_cases k:x<l
   ·simpa [k]using (g x).2 (.inr rfl)
   ·simpa [k]using (g l).2 (.inl b)
  ·rcases(g d).1 hd with h | rfl
   ·have:=c d h;by_cases k:x<l<;>simp [k]<;>omega
   ·by_cases k:d<l<;>simp [k];omega
def iW(ps:List aI)(n:Int)(l:List aI)(d:Int):Prop:=n≤d∧tZ ps d=ae∧∃ p ∈ l,d ∈ p.head
theorem zg(g:Tg)(ps:List aI)(hP:∀ p ∈ ps,cF p=ae)(hl:ps.length≤64)(n:Int):∃ e f,ew (iW ps n ps) e f∧bX tab 107 [.c (.f (sl g (aK ps))),vi n]=Eq (.t [vi e,vb f]):=by
 have key:∃ r,(∃ e f,ew (iW ps n ps) e f∧r=.t [vi e,vb f])∧bX tab 107 [.c (.f (sl g (aK ps))),vi n] r:=by
  refine eQ rfl rfl fun Q hQ=>?_;apply ai;simp;apply ai;simp;apply au;apply ai;simp;refine bZ ps.length (fun j t H'=>t.g 0=.c (.f (sl g (aK ps)))∧t.g 1=vi n∧t.g 12=.c (.f (sl g (aK ps)))∧∃ e f,t.g 6=vi e∧t.g 7=vb f∧ew (iW ps n (ps.take j)) e f) (by omega) (by decide) (by decide) (by simp) (by simp)
   ⟨by simp,by simp,by simp,0,ag,by simp,by simp,.inl ⟨rfl,rfl,fun d hd=>by obtain⟨_,_,p,hp,_⟩:=hd;simp at hp⟩⟩ ?_ ?_
  ·rintro j t H hj ⟨s,u,b,e,f,B,E,N⟩ ha hb next
   obtain⟨p,hp⟩:=aN (ps[j]);have b_:p ∈ ps:=hp▸IT hj;obtain⟨f0,f1,p0,p1,g_,-,a8,-⟩:=a6 (hP p b_);have O:=fun H:an=>cR (H:=H) (bD ps) (cQ (l:=ps) (j:=j) hj);have W:=fun H:an=>bG (H:=H) (g:=g) (rows:=aK ps) (sz:=4) (k:=.i64) (i:=j) (by omega) (by simpa using hj);rw [←hp]at O;simp [aI.row]at O W;have c9:ps.take (j+1)=ps.take j++[p]:=by rw [aly,By hj,hp];rfl
   refine az ?_;apply ai;simp [b,ha,W,O];apply ai;simp;refine bZ p.head.length (fun i t H'=>t.g 0=.c (.f (sl g (aK ps)))∧t.g 1=vi n∧t.g 12=.c (.f (sl g (aK ps)))∧t.g 14=vi j∧t.g 13=vi ps.length∧t.g 19=.c (.f (sl p.hg (ints p.head))) ∧
    ∃ e f,t.g 6=vi e∧t.g 7=vb f∧ew (fun d=>iW ps n (ps.take j) d∨(n≤d∧tZ ps d=ae∧d ∈ p.head.take i)) e f) (by omega) (by decide) (by decide) (by simp) (by simp)
    ⟨by simp [s],by simp [u],by simp [b],by simp [ha],by simp [hb],by simp,e,f,by simp [B],by simp [E],N.iff fun d=>by simp⟩ ?_ ?_
   ·rintro i t H hi ⟨s,u,b,y,v,z,e,f,B,E,N⟩ K M nx;obtain⟨x,hx⟩:=aN (p.head[i]);have c_:x ∈ p.head:=hx▸IT hi;have h_:=a8 x c_;have a7:=fun H:an=>eh (H:=H) hi;rw [←hx]at a7;have A:=(acg g ps (by omega) hP x (by unfold Day;omega)).eq;have X:p.head.take (i+1)=p.head.take i++[x]:=by rw [aly,By hi,hx];rfl
    refine az ?_;apply ai;simp [K,z,bG,hi,a7];have bu:¬ (n≤x∧tZ ps x=ae)→ew (fun d=>iW ps n (ps.take j) d∨(n≤d∧tZ ps d=ae∧d ∈ p.head.take (i+1))) e f:=fun a_=>N.iff fun d=>by
     rw [X,aln,alm];constructor
     ·rintro(h | ⟨F,I,J | rfl⟩)
      ·exact .inl h
      ·exact .inr ⟨F,I,J⟩
      ·exact absurd ⟨F,I⟩ a_
     ·rintro(h | ⟨F,I,J⟩)
      ·exact .inl h
      ·exact .inr ⟨F,I,.inl J⟩
    have S:(n≤x∧tZ ps x=ae)→ew (fun d=>iW ps n (ps.take j) d∨(n≤d∧tZ ps d=ae∧d ∈ p.head.take (i+1))) (if f=ag∨x<e then x else e) ae:=fun Y=>N.step fun d=>by
     rw [X,aln,alm];constructor
     ·rintro(h | ⟨F,I,J | rfl⟩)
      ·exact .inl (.inl h)
      ·exact .inl (.inr ⟨F,I,J⟩)
      ·exact .inr rfl
     ·rintro((h | ⟨F,I,J⟩) | rfl)
      ·exact .inl h
      ·exact .inr ⟨F,I,.inl J⟩
      ·exact .inr ⟨Y.1,Y.2,.inr rfl⟩
    have L:∀(t:T) (H:an) (e':Int) (f':Bool),t.g 0=.c (.f (sl g (aK ps)))→t.g 1=vi n→t.g 12=.c (.f (sl g (aK ps)))→t.g 14=vi j→t.g 13=vi ps.length→t.g 19=.c (.f (sl p.hg (ints p.head)))→t.g 21=vi i→t.g 20=vi p.head.length→t.g 6=vi e'→t.g 7=vb f'→ew (fun d=>iW ps n (ps.take j) d∨(n≤d∧tZ ps d=ae∧d ∈ p.head.take (i+1))) e' f' →
      WP tab 107 ab [.code yw,.inLoop yv,.inBlock 2,.inBlock 1,.code yx,.inLoop BL,.inBlock 0,.code yy] ⟨t,[],H⟩ Q:=by
     intro t H e' f' q0 q1 d9 e_ d_ f7 f_ f8 q6 q7 qm;refine nx _ _ ?_ f_ f8;exact⟨by simp [q0],by simp [q1],by simp [d9],by simp [e_],by simp [d_],by simp [f7],e',f',by simp [q6],by simp [q7],qm⟩
    by_cases U:n≤x
    ·cases f with
     | false=>
      cases m:tZ ps x with
      | false=>
       rw [m]at A;apply ai;simp [s,u,B,E,U,A];refine aF (by simp) (aP (ax ?_));exact L _ _ e ag (by simp [s]) (by simp [u]) (by simp [b]) (by simp [y]) (by simp [v]) (by simp [z]) (by simp [K]) (by simp [M]) (by simp [B]) (by simp [E]) (bu (by simp [m]))
      | true=>
       rw [m]at A;apply ai;simp [s,u,B,E,U,A];refine av (by simp) (aq (.inl rfl) ?_);simp;refine ax ?_;exact L _ _ x ae (by simp [s]) (by simp [u]) (by simp [b]) (by simp [y]) (by simp [v]) (by simp [z]) (by simp [K]) (by simp [M]) (by simp) (by simp) (by have:=S ⟨U,m⟩;simpa using this)
     | true=>
      by_cases c2:x<e
      ·cases m:tZ ps x with
       | false=>
        rw [m]at A;apply ai;simp [s,u,B,E,U,c2,A];refine aF (by simp) (aP (ax ?_));exact L _ _ e ae (by simp [s]) (by simp [u]) (by simp [b]) (by simp [y]) (by simp [v]) (by simp [z]) (by simp [K]) (by simp [M]) (by simp [B]) (by simp [E]) (bu (by simp [m]))
       | true=>
        rw [m]at A;apply ai;simp [s,u,B,E,U,c2,A];refine av (by simp) (aq (.inl rfl) ?_);simp;refine ax ?_;exact L _ _ x ae (by simp [s]) (by simp [u]) (by simp [b]) (by simp [y]) (by simp [v]) (by simp [z]) (by simp [K]) (by simp [M]) (by simp) (by simp) (by have:=S ⟨U,m⟩;simpa [c2]using this)
      ·apply ai;simp [s,u,B,E,U,c2];refine aF (by simp) (aP (ax ?_));refine L _ _ e ae (by simp [s]) (by simp [u]) (by simp [b]) (by simp [y]) (by simp [v]) (by simp [z]) (by simp [K]) (by simp [M]) (by simp [B]) (by simp [E]) ?_;cases m:tZ ps x with
       | false=>exact bu (by simp [m])
       | true=>have:=S ⟨U,m⟩;simpa [c2]using this
    ·apply ai;simp [s,u,B,E,U];refine aF (by simp) (aP (ax ?_));exact L _ _ e f (by simp [s]) (by simp [u]) (by simp [b]) (by simp [y]) (by simp [v]) (by simp [z]) (by simp [K]) (by simp [M]) (by simp [B]) (by simp [E]) (bu fun h=>U h.1)
   ·rintro t H ⟨s,u,b,y,v,z,e,f,B,E,N⟩ - -;rw [alw]at N;refine ax (next _ _ ?_ (by simp [y]) (by simp [v]));refine⟨by simp [s],by simp [u],by simp [b],e,f,by simp [B],by simp [E],N.iff fun d=>?_⟩;unfold iW;rw [c9];constructor
    ·rintro⟨F,I,q,Z,J⟩;rcases aln.1 Z with Z | Z
     ·exact .inl ⟨F,I,q,Z,J⟩
     ·rw [alm.1 Z]at J;exact .inr ⟨F,I,J⟩
    ·rintro(⟨F,I,q,Z,J⟩ | ⟨F,I,J⟩)
     ·exact⟨F,I,q,alT _ Z,J⟩
     ·exact⟨F,I,p,amw _ (alm.2 rfl),J⟩
  ·rintro t H ⟨s,u,b,e,f,B,E,N⟩ ha hb;rw [alw]at N;apply ai;simp [B,E];refine aD (hQ _ _ _ ⟨e,f,N,rfl⟩ ?_);simp
 obtain⟨r,⟨e,f,N,rfl⟩,h⟩:=key;exact⟨e,f,N,h.eq⟩
structure ma(ps:List aI):Prop where
 l1:1≤ps.length
 l2:ps.length≤64
 mod:∀ p ∈ ps,Mod p
 prod:eo ps≤1000000
 st:cJ ps≤1000000000000
theorem ma.aM{ps:List aI}(h:ma ps):∀ p ∈ ps,cF p=ae:=fun p b=>(h.mod p b).ok
def Is(ps:List aI)(n x:Int):Prop:=n≤x∧tZ ps x=ae
theorem iC{ps:List aI}{x:Int}(b:0≤x):tZ ps x=ae↔∀ p ∈ ps,bK p x=ae:=by
 simp [tZ,hasB,b]
theorem qC{x:Int}:∀ {l:List aI},0≤x→x<cJ l→∃ p ∈ l,x<p.fr
 | [],b,h=>by simp only [cJ]at h;omega
 | q::l,b,h=>by
  simp only [cJ]at h;by_cases k:x<q.fr
  ·exact⟨q,alr,k⟩
  ·obtain⟨p,d,e⟩:=qC (x:=x) (l:=l) b (by omega);exact⟨p,alu _ d,e⟩
theorem zu{ps:List aI}(h:ma ps){n x:Int}(l:0≤n)(m:cJ ps≤x):Is ps n x↔max n (cJ ps)≤x∧∀ p ∈ ps,jL p x:=by
 have j:=nE ps;unfold Is;rw [iC (by omega)];constructor
 ·rintro⟨g,d⟩;exact⟨by omega,fun p b=>(ta (h.mod p b) (by have:=nD b;omega)).1 (d p b)⟩
 ·rintro⟨g,d⟩;exact⟨by omega,fun p b=>(ta (h.mod p b) (by have:=nD b;omega)).2 (d p b)⟩
theorem C5(g:Tg)(ps:List aI)(h:ma ps)(n:Int)(J:0≤n)(W:n≤1000000000000):∃ d f q z,ew (Is ps n) d f∧(0≤d∧d≤1000001000000) ∧
  bX tab 107 [.c (.f (sl g (aK ps))),vi n]=Eq (.t [vi q,vb z]) ∧
  ((z=ae∧d=q∧f=ae)∨(z=ag∧q=0∧∃ b,bX tab 78 [.c (.f (sl g (aK ps)))]=Eq (vb b)∧((b=ag∧d=0∧f=ag)∨(b=ae∧bX tab 108 [.c (.f (sl g (aK ps))),vi n]=Eq (.t [vi d,vb f]))))):=by
 obtain⟨q,z,U,A⟩:=zg g ps h.aM h.l2 n;have Y:=nE ps;have Z:=h.st;have X:=h.prod;have u:∀ x,Is ps n x→x<cJ ps→iW ps n ps x:=by
  rintro x ⟨N,H⟩ l;obtain⟨p,y,S⟩:=qC (by omega) l;refine⟨N,H,p,y,?_⟩;have:=(iC (by omega)).1 H p y;unfold bK at this;rw [aS (by omega),decide_eq_true_eq]at this;exact this
 rcases U with⟨rfl,rfl,F⟩ | ⟨rfl,O,v⟩
 ·have B:∀ x,Is ps n x→cJ ps≤x:=fun x l=>by
   rcases amz x (cJ ps)with k | k
   ·exact absurd (u x l k) (F x)
   ·exact k
  have j:∀ x,Is ps n x↔max n (cJ ps)≤x∧∀ p ∈ ps,jL p x:=fun x=>by
   constructor
   ·intro l;exact(zu h J (B x l)).1 l
   ·intro l;exact(zu h J (by omega)).2 l
  obtain⟨b,I,m⟩:=vT g ps h.mod h.l1 h.l2;cases b with
  | false=>
   refine⟨0,ag,0,ag,.inl ⟨rfl,rfl,fun x l=>?_⟩,⟨by omega,by omega⟩,A,.inr ⟨rfl,rfl,ag,m,.inl ⟨rfl,rfl,rfl⟩⟩⟩;have:=I.2 (xB (d:=x) ps [] (by simp) ((j x).1 l).2);cases this
  | true=>
   rcases aaI g ps h.mod h.l2 h.prod n _ rfl (by omega)with⟨d,⟨K,L,d3,M⟩,E⟩ | ⟨s,E⟩
   ·exact⟨d,ae,0,ag,.inr ⟨rfl,(j d).2 ⟨K,L⟩,fun x l=>M x ((j x).1 l).1 ((j x).1 l).2⟩,⟨by omega,by omega⟩,A,.inr ⟨rfl,rfl,ae,m,.inr ⟨rfl,E⟩⟩⟩
   ·exact⟨0,ag,0,ag,.inl ⟨rfl,rfl,fun x l=>s x ((j x).1 l).1 ((j x).1 l).2⟩,⟨by omega,by omega⟩,A,.inr ⟨rfl,rfl,ae,m,.inr ⟨rfl,E⟩⟩⟩
 ·obtain⟨s1,s2,p,y,Q⟩:=O;have I:=(a6 (h.aM p y)).2.2.2.2.2.2.1 q Q;have:=nD y;refine⟨q,ae,q,ae,.inr ⟨rfl,⟨s1,s2⟩,fun x l=>?_⟩,⟨by omega,by omega⟩,A,.inl ⟨rfl,rfl,rfl⟩⟩;rcases amz x (cJ ps)with k | k
  ·exact v x (u x l k)
  ·omega
theorem ew.join{S m q:Int→Prop}{l x:Int}{f j:Bool}(h1:ew m l f)(h2:ew q x j)(g:∀ d,S d↔m d∨q d):ew S (if j=ae∧(f=ag∨x<l)then x else l) (f||j):=by
 rcases h1 with⟨rfl,rfl,a⟩ | ⟨rfl,a,b⟩<;>rcases h2 with⟨rfl,rfl,c⟩ | ⟨rfl,c,e⟩
 ·refine .inl ⟨rfl,by simp,fun d hd=>?_⟩;rcases(g d).1 hd with h | h
  ·exact a d h
  ·exact c d h
 ·refine .inr ⟨rfl,by simpa using (g x).2 (.inr c),fun d hd=>?_⟩;rcases(g d).1 hd with h | h
  ·exact absurd h (a d)
  ·simpa using e d h
 ·refine .inr ⟨rfl,by simpa using (g l).2 (.inl a),fun d hd=>?_⟩;rcases(g d).1 hd with h | h
  ·simpa using b d h
  ·exact absurd h (c d)
 ·refine .inr ⟨rfl,?_,fun d hd=>?_⟩
  ·by_cases k:x<l
   ·simpa [k]using (g x).2 (.inr c)
   ·simpa [k]using (g l).2 (.inl a)
  ·rcases(g d).1 hd with h | h
   ·have:=b d h;by_cases k:x<l<;>simp [k]<;>omega
   ·have:=e d h;by_cases k:x<l<;>simp [k]<;>omega
def QH(H:an)(n b:Int)(found:Bool):Prop:=H[0]?=aa (.box [.f (fi n)] 0)∧H[1]?=aa (.box [.f (fi b)] 0)∧H[2]?=aa (.box [.f (.bool found)] 0)∧H[3]?=aa (.fg ae) ∧
 ∃ s:T,H[4]?=aa (.lp 69 s [P.nat 12] bT bI .ready ab 3)∧s.g 3=.c (.ptr 0 0 0)∧s.g 6=.c (.ptr 1 0 0)∧s.g 7=.c (.ptr 2 0 0)
theorem zA(g:Tg)(ps:List aI)(h:ma ps)(n:Int)(hn:0≤n)(a8:n≤1000000000000):∃ d f,ew (Is ps n) d f∧(0≤d∧d≤1000001000000)∧∀ H j found,QH H n j found →
  ∃ r H',Ev tab (.yield 4) [.c (.f (sl g (aK ps)))] H r H'∧(r=vb ae∧QH H' n (if f=ae∧(found=ag∨d<j)then d else j) (found||f)):=by
 obtain⟨d,f,e0,f0,hm,hd,he,Y⟩:=C5 g ps h n hn a8;refine⟨d,f,hm,hd,?_⟩;rintro H j found ⟨h0,h1,h2,h3,s,X,v,J,K⟩;refine ea (tab:=tab) (b:=4) X rfl fun W L=>?_;have a7:=aj X;have E:∀(t:T) (l:an),l[0]?=aa (.box [.f (fi n)] 0)→l[1]?=aa (.box [.f (fi j)] 0)→l[2]?=aa (.box [.f (.bool found)] 0)→l[3]?=aa (.fg ae)→l[4]?=aa (.lp 69 s [P.nat 12] bT bI .busy ab 3) →
   t.g 3=.c (.ptr 0 0 0)→t.g 6=.c (.ptr 1 0 0)→t.g 7=.c (.ptr 2 0 0)→t.g 9=vi d→t.g 10=vb f→WP tab 69 (aa 4) [.code rN,.inBlock 1] ⟨t,[],l⟩ W:=by
  rintro t l q0 N A q3 U e3 F y I u;have l1:=aj N;have l2:=aj A;have bu:(f=ae∧(found=ag∨d<j)→False)→QH (l.set 4 (.lp 69 s [P.nat 12] bT bI .ready ab 3)) n (if f=ae∧(found=ag∨d<j)then d else j) (found||f):=by
   intro x;have Z:(found||f)=found:=by
    cases f<;>cases found<;>simp at x ⊢
   rw [aS x,Z];exact⟨by rw [sh (by decide)];exact q0,by rw [sh (by decide)];exact N,by rw [sh (by decide)];exact A,by rw [sh (by decide)];exact q3,s,BY (aj U),v,J,K⟩
  have a_:(l.set 1 (.box [.f (fi d)] 0))[2]?=aa (.box [.f (.bool found)] 0):=by rw [sh (by decide)];exact A
  have M:(f=ae∧(found=ag∨d<j))→QH (((l.set 1 (.box [.f (fi d)] 0)).set 2 (.box [.f (.bool ae)] 0)).set 4 (.lp 69 s [P.nat 12] bT bI .ready ab 3)) n (if f=ae∧(found=ag∨d<j)then d else j) (found||f):=by
   intro m;have Z:(found||f)=ae:=by rw [m.1];simp
   rw [ba m,Z];refine⟨?_,?_,?_,?_,s,BY (by simp;exact aj U),v,J,K⟩
   ·rw [sh (by decide),sh (by decide),sh (by decide)];exact q0
   ·rw [sh (by decide),sh (by decide),BY l1]
   ·rw [sh (by decide),BY (by simpa using l2)]
   ·rw [sh (by decide),sh (by decide),sh (by decide)];exact q3
  have done:∀ B:T,(f=ae∧(found=ag∨d<j)→False)→WP tab 69 (aa 4) [.inBlock 1] ⟨B,[],l⟩ W:=by
   intro B x;refine ax (cU (L _ _ _ _ _ _ _ _ _ _ rfl U ⟨rfl,?_⟩));have:=bu x;rw [show(l.set 4 (.lp 69 s [P.nat 12] bT bI .ready ab 3))=l.set 4 (.lp 69 s [P.nat 12] bT bI (if(ab:Option aw).isNone=ae then .ready else .done) ab 3) from rfl]at this;exact this
  have q:∀ B:T,B.g 6=.c (.ptr 1 0 0)→B.g 7=.c (.ptr 2 0 0)→B.g 9=vi d→(f=ae∧(found=ag∨d<j))→WP tab 69 (aa 4) [.code rO,.inBlock 1] ⟨B,[],l⟩ W:=by
   intro B F y I m;refine aq (.inr rfl) ?_;simp [F,y,I,N,A,a_];refine ax (cU (L _ _ _ _ _ _ _ _ _ _ rfl (by rw [sh (by decide),sh (by decide)];exact U) ⟨rfl,?_⟩));exact M m
  apply au;cases f with
  | false=>
   refine aq (.inr rfl) ?_;simp [y,u,A];refine aF (by simp) (aP (done _ (by simp)))
  | true=>
   cases found with
   | false=>
    refine aq (.inr rfl) ?_;simp [y,u,A];refine av (by simp) (q _ (by simp [F]) (by simp [y]) (by simp [I]) (by simp))
   | true=>
    by_cases k:d<j
    ·refine aq (.inr rfl) ?_;simp [F,y,I,u,N,A,k];refine av (by simp) (q _ (by simp [F]) (by simp [y]) (by simp [I]) (by simp [k]))
    ·refine aq (.inr rfl) ?_;simp [F,y,I,u,N,A,k];refine aF (by simp) (aP (done _ (by simp [k])))
 refine aq (.inr rfl) ?_;simp;refine iF X ?_;have b0:(H.set 4 (.lp 69 s [P.nat 12] bT bI .busy ab 3))[0]?=aa (.box [.f (fi n)] 0):=by rw [sh (by decide)];exact h0
 have b1:(H.set 4 (.lp 69 s [P.nat 12] bT bI .busy ab 3))[1]?=aa (.box [.f (fi j)] 0):=by rw [sh (by decide)];exact h1
 have O:(H.set 4 (.lp 69 s [P.nat 12] bT bI .busy ab 3))[2]?=aa (.box [.f (.bool found)] 0):=by rw [sh (by decide)];exact h2
 have Q:(H.set 4 (.lp 69 s [P.nat 12] bT bI .busy ab 3))[3]?=aa (.fg ae):=by rw [sh (by decide)];exact h3
 have S:(H.set 4 (.lp 69 s [P.nat 12] bT bI .busy ab 3))[4]?=aa (.lp 69 s [P.nat 12] bT bI .busy ab 3):=BY a7;generalize H.set 4 (.lp 69 s [P.nat 12] bT bI .busy ab 3)=l at b0 b1 O Q S;refine az ?_;refine au (aq (.inr rfl) ?_);simp [v,b0,he];apply au;rcases Y with⟨rfl,rfl,rfl⟩ | ⟨rfl,rfl,b,z,Y⟩
 ·refine au (aq (.inr rfl) ?_);simp;refine aW (by simp) ?_;exact E _ _ b0 b1 O Q S (by simp [v]) (by simp [J]) (by simp [K]) (by simp) (by simp)
 ·rcases Y with⟨rfl,rfl,rfl⟩ | ⟨rfl,hl⟩
  ·refine au (aq (.inr rfl) ?_);simp [v,b0,z,show n≤1152921504606846976 by omega];refine aW (by simp) ?_;exact E _ _ b0 b1 O Q S (by simp [v]) (by simp [J]) (by simp [K]) (by simp) (by simp)
  ·refine au (aq (.inr rfl) ?_);simp [v,b0,z,show n≤1152921504606846976 by omega];refine av (by simp) ?_;refine aq (.inr rfl) ?_;simp [v,b0,hl];exact E _ _ b0 b1 O Q S (by simp [v]) (by simp [J]) (by simp [K]) (by simp) (by simp)
theorem wa(x:FC):bX tab 77 [.c (.f x)]=Eq (.c (.f (.fn 119 [.fp [x] 0]))):=by
 refine bX.eq (cz rfl rfl fun Q b=>?_);apply ai;simp;apply ai;simp;refine aD (b _ _ ?_);simp [deep]
theorem vZ{b:Nat}{H:an}(g:Tg)(ts:List cE)(L:ts.length≤1000000)(PP:Nat→an→Prop)(E:PP 0 H)
  (K:∀ j (q:j<ts.length) H,PP j H→∃ r H',Ev tab (.yield b) [.c (.f (sl ts[j].tg (aK ts[j].fs)))] H r H'∧(r=vb ae∧PP (j+1) H')) :
  ∃ r A,Ev tab (.fn 119) [.c (.yl b),.c (.f (.fp [sl g (aB ts)] 0))] H r A∧(r=.t []∧PP ts.length A):=by
 refine cH rfl rfl fun Q I=>?_;apply ai;simp [qR];refine bZ ts.length (fun j s J=>s.g 0=.c (.yl b)∧s.g 5=.c (.f (sl g (aB ts)))∧PP j J) (by omega) (by decide) (by decide) (by simp) (by simp) ⟨by simp,by simp,E⟩ ?_ ?_
 ·rintro j s J q ⟨u,v,x⟩ y B next
  have m:=fun H:an=>gZ (H:=H) (eZ ts) (gd (l:=ts) (j:=j) q) rfl;have d:=fun H:an=>bG (H:=H) (g:=g) (rows:=aB ts) (sz:=1) (k:=.i64) (i:=j) (by omega) (by simpa using q);simp at m d;obtain⟨r,H',z,rfl,F⟩:=K j q J x;refine az ?_;apply ai;simp [v,y,d,m];apply ai;simp [u,z.eq];refine aW (by simp) ?_;refine ax (next _ _ ?_ (by simp [y]) (by simp [B]));exact⟨by simp [u],by simp [v],F⟩
 ·rintro s J ⟨u,v,x⟩ y B;exact cU (I _ _ _ rfl rfl ⟨rfl,x⟩)
def rk(ts:List cE)(n x:Int):Prop:=∃ t ∈ ts,Is t.fs n x
theorem Uz(g:Tg)(ts:List cE)(J:ts.length≤1000000)(W:∀ t ∈ ts,ma t.fs)(n:Int)(Y:0≤n)(F:n≤1000000000000):∃ d f,ew (rk ts n) d f∧(0≤d∧d≤1000001000000) ∧
  bX tab 69 [.c (.f (.fn 119 [.fp [sl g (aB ts)] 0])),vi n]=Eq (.t [vi d,vb f]):=by
 have key:∃ r,(∃ d f,ew (rk ts n) d f∧(0≤d∧d≤1000001000000)∧r=.t [vi d,vb f])∧bX tab 69 [.c (.f (.fn 119 [.fp [sl g (aB ts)] 0])),vi n] r:=by
  refine pE aca rfl fun Q X=>?_;have v:∀ s:T,s.g 3=.c (.ptr 0 0 0)→s.g 6=.c (.ptr 1 0 0)→s.g 7=.c (.ptr 2 0 0)→s.g 11=.c (.f (.fn 119 [.fp [sl g (aB ts)] 0])) →
    WP tab 69 ab [.code wh,.inBlock 0,.code rP] ⟨s,[],[.box [.f (fi n)] 0,.box [.f (fi 0)] 0,.box [.f (.bool ag)] 0]⟩ Q:=by
   intro s U L M y;obtain⟨r,u,S,rfl,l,found,⟨-,i,k,o,K,p,-⟩,q,N⟩:=vZ (b:=4) (H:=[.box [.f (fi n)] 0,.box [.f (fi 0)] 0,.box [.f (.bool ag)] 0,.fg ae,.lp 69 s [P.nat 12] bT bI .ready ab 3]) g ts J
    (fun j H=>∃ l found,QH H n l found∧ew (rk (ts.take j) n) l found∧(0≤l∧l≤1000001000000))
    ⟨0,ag,⟨rfl,rfl,rfl,rfl,s,rfl,U,L,M⟩,.inl ⟨rfl,rfl,fun d hd=>by obtain⟨t,m,-⟩:=hd;simp at m⟩,by omega,by omega⟩ fun j O H ⟨l,found,A,q,N⟩=>by
     obtain⟨d,f,E,hd,Z⟩:=zA ts[j].tg ts[j].fs (W _ (IT O)) n Y F;obtain⟨r,H',B,rfl,z⟩:=Z H l found A;have I:ts.take (j+1)=ts.take j++[ts[j]]:=by rw [aly,By O];rfl
     refine⟨_,H',B,rfl,_,_,z,ew.join q E fun x=>?_,?_⟩
     ·unfold rk;rw [I];constructor
      ·rintro⟨t,m,h⟩;rcases aln.1 m with m | m
       ·exact .inl ⟨t,m,h⟩
       ·rw [alm.1 m]at h;exact .inr h
      ·rintro(⟨t,m,h⟩ | h)
       ·exact⟨t,alT _ m,h⟩
       ·exact⟨_,amw _ (alm.2 rfl),h⟩
     ·split<;>omega
   rw [alw]at q;refine fF (g:=119) (by rw [rm,y];simp [bW]) S ?_;refine gq p (by decide) ?_;refine ax ?_;apply ai;have a:(u.set 4 (.lp 69 K [P.nat 12] bT bI .exhausted ab 3))[1]?=aa (.box [.f (fi l)] 0):=by rw [sh (by decide)];exact i
   have c:(u.set 4 (.lp 69 K [P.nat 12] bT bI .exhausted ab 3))[2]?=aa (.box [.f (.bool found)] 0):=by rw [sh (by decide)];exact k
   have e:(u.set 4 (.lp 69 K [P.nat 12] bT bI .exhausted ab 3))[3]?=aa (.fg ae):=by rw [sh (by decide)];exact o
   simp [L,M,a,c];refine aD (X _ _ _ ⟨l,found,q,N,rfl⟩ (.inr ⟨3,rfl,e,.t [vi l,vb found],?_,by simp [me,dE,aZ]⟩));simp [Km.results,cm,aZ]
  apply ai;simp;apply ai;simp;apply au;apply ai;simp;refine az ?_;exact v _ (by simp) (by simp) (by simp) (by simp)
 obtain⟨r,⟨d,f,q,hd,rfl⟩,h⟩:=key;exact⟨d,f,q,hd,h.eq⟩
theorem aaU(g:Tg)(ts:List cE)(j:iH ts=ae)(s:∀ t ∈ ts,ma t.fs)(n:Int)(y:0≤n)(l:n≤1000000000000):∃ d f,ew (rk ts n) d f∧(0≤d∧d≤1000001000000) ∧
  bX tab 44 [.a [.f (sl g (aB ts))],vi n]=Eq (.t [vi d,vb f]):=by
 obtain⟨E,m⟩:=ny j;obtain⟨d,f,x,hd,v⟩:=Uz g ts (by omega) s n y l;refine⟨d,f,x,hd,bX.eq (cz rfl rfl fun Q u=>?_)⟩;have b:=A_ g ts (by omega) (fun t q=>⟨by have:=(fA (m t q)).2.1;omega,fun p z=>jN ((fA (m t q)).2.2 p z)⟩);rw [j]at b;have A:=wa (sl g (aB ts));have B:max n 0=n:=by omega
 apply ai;simp;apply au;apply ai;simp [b];refine aW (by simp) ?_;apply ai;simp [A,B,v];refine aD (u _ _ ?_);simp
theorem oi(j l m:FC)(len g d:Int)(v:0≤len)(q:len≤10080)(x:-4320≤g)(s:g≤4320) :
  bX tab 37 [.a [.f j,.f (fi len),.f l],.a [.f m,.f (fi g)],vi d]=Eq (vb (decide (d≤(2251799813685248-g-len) / 1440))):=Kf.eq (by
 refine dM rfl rfl fun H Q u=>?_;apply ai;simp;apply ai;simp [aO (n:=2251799813685248-g),aO (n:=2251799813685248-g-len),fy (a:=2251799813685248-g-len) (b:=1440) (by omega) (by omega) (by omega)];refine aD (u _ _ ?_);simp)
theorem Z8(g j b:FC)(len d l m:Int):bX tab 25 [.a [.f g,.f (fi len),.f j],.a [.f b,.f (fi d)],.a [.f (fi l),.f (fi m)]] =
  Eq (.c (.f (.fn 62 [.fp [fi l,fi m] 0,.fp [g,fi len,j] 0,.fp [b,fi d] 0]))):=by
 refine bX.eq (cz rfl rfl fun Q q=>?_);apply ai;simp;apply ai;simp;refine aD (q _ _ ?_);simp [deep]
structure yF(ts:List cE):Prop where
 v:iH ts=ae
 f:∀ t ∈ ts,ma t.fs
structure ahQ(len mi wf wt:Int):Prop where
 l0:1≤len
 l1:len≤10080
 m0:-4320≤mi
 m1:mi≤4320
 f0:-10000000000≤wf
 w:wf≤wt
 t1:wt≤10000000000
def n0I(len b d:Int):Int:=max 0 ((d-len-b) / 1440+1)
def yD(ts:List cE)(g b j d:Int):Prop:=rk ts g d∧d*1440+b<j
theorem ph{ts:List cE}{n m x:Int}(h:n≤m)(d:m≤x):rk ts n x↔rk ts m x:=by
 unfold rk Is;constructor
 ·rintro⟨t,b,-,e⟩;exact⟨t,b,d,e⟩
 ·rintro⟨t,b,-,e⟩;exact⟨t,b,by omega,e⟩
theorem Z7{b:Nat}{H:an}{PP:List Int→an→Prop}(g:Tg)(ts:List cE)(W:yF ts)(s0 s2:FC)(len q B E:Int)(hw:ahQ len q B E)(u:Int)(hn:u=n0I len q B)(h0:PP [] H)
  (w:∀ l d H,PP l H→u≤d→d*1440+q<E→(l.length:Int)≤d-u→∃ H',Ev tab (.yield b) [vi d] H (vb ae) H'∧PP (l++[d]) H') :
  ∃ r H',Ev tab (.fn 62) [.c (.yl b),.c (.f (.fp [fi B,fi E] 0)),.c (.f (.fp [s0,fi len,s2] 0)),.c (.f (.fp [sl g (aB ts),fi q] 0))] H r H' ∧
   (r=.t []∧∃ l,PP l H'∧l.Pairwise (· < ·)∧∀ d,d ∈ l↔yD ts u q E d):=by
 obtain⟨c_,d9,d_,e_,b_,c9,f8⟩:=hw;refine cH rfl rfl fun Q hQ=>?_;have c:=mB (B-len-q) (by omega) (by omega);have I:=fun d=>oi s0 s2 (sl g (aB ts)) len q d (by omega) (by omega) (by omega) (by omega);have o:max 0 ((B-len-q) / 1440+1)=u:=hn.symm;have f7:0≤u∧u≤8000000:=by rw [hn];unfold n0I;omega
 have i:∀ x,rk ts u x→u≤x:=fun x ⟨t,_,h,_⟩=>h;apply ai;simp [qR,aO (n:=B-len),aO (n:=B-len-q),c,aO (n:=(B-len-q) / 1440+1),o];refine az ?_;refine bJ (fun m s=>∃(j:Int) (K:T) (J:an) (l:List Int),s=⟨K,[],J⟩∧(m:Int)=10000010-j∧u≤j∧j≤10000000∧K.g 0=.c (.yl b)∧K.g 1=.c (.f (.fp [fi B,fi E] 0))∧K.g 2=.c (.f (.fp [s0,fi len,s2] 0))∧K.g 3=.c (.f (.fp [sl g (aB ts),fi q] 0))∧K.g 5=vi j ∧
  PP l J∧l.Pairwise (· < ·)∧(∀ d ∈ l,d<j)∧(l.length:Int)≤j-u∧∀ d,d<j→(d ∈ l↔yD ts u q E d)) (10000010-u).toNat
  ⟨u,_,H,[],rfl,by omega,by omega,by omega,by simp,by simp,by simp,by simp,by simp,h0,by simp,by simp,by simp,fun d hd=>⟨fun h=>by simp at h,fun h=>by have:=i d h.1;omega⟩⟩ ?_
 rintro m s ⟨j,K,J,l,rfl,hm,M,a7,g0,Y,Z,X,g5,L,O,A,a_,F⟩ ih;obtain⟨d,f,v,⟨d0,d1⟩,p⟩:=aaU g ts W.v W.f j (by omega) (by omega);have U:d≤(2251799813685248-q-len) / 1440:=by omega
 refine az ?_;apply ai;simp [X,g5,qR,p];apply au;have stop:(∀ e,¬ yD ts j q E e)→∀ d,d ∈ l↔yD ts u q E d:=by
  intro N e;by_cases z:e<j
  ·exact F e z
  ·exact⟨fun h=>absurd (A e h) z,fun h=>absurd ⟨(ph M (by omega)).1 h.1,h.2⟩ (N e)⟩
 rcases v with⟨rfl,rfl,N⟩ | ⟨rfl,hS,v⟩
 ·apply ai;simp;refine av (by simp) ?_;exact aD (hQ _ _ _ rfl rfl ⟨rfl,l,L,O,stop fun e h=>N e h.1⟩)
 ·have a8:j≤d:=by obtain⟨t,_,h,_⟩:=hS;exact h
  by_cases k:E≤d*1440+q
  ·apply ai;simp [Y,Z,X,qR,I,U,aO (n:=d*1440),aO (n:=d*1440+q),k];refine av (by simp) ?_;refine aD (hQ _ _ _ rfl rfl ⟨rfl,l,L,O,stop fun e h=>?_⟩);have:=v e h.1;have:=h.2;omega
  ·obtain⟨J',a,S⟩:=w l d J L (by omega) (by omega) (by omega);apply ai;simp [g0,Y,Z,X,qR,I,U,aO (n:=d*1440),aO (n:=d*1440+q),k,a.eq];refine aW (by simp) ?_;refine aq (.inl rfl) ?_;simp [aO (n:=d+1)];refine ax (ih (10000010-(d+1)).toNat _ (by omega) ⟨d+1,_,J',l++[d],rfl,by omega,by omega,by omega,by simp [g0],by simp [Y],by simp [Z],by simp [X],by simp,S,?_,fun e z=>?_,by simp;omega,fun e z=>?_⟩)
   ·rw [ama];exact⟨O,al1 _ _,fun x hx y w=>by obtain rfl:=alm.1 w;have:=A x hx;omega⟩
   ·rcases aln.1 z with z | z
    ·have:=A e z;omega
    ·obtain rfl:=alm.1 z;omega
   ·rw [aln,alm];by_cases hc:e<j
    ·rw [F e hc];exact⟨fun h=>h.elim id fun h=>absurd h (by omega),.inl⟩
    ·refine⟨fun h=>?_,fun h=>.inr ?_⟩
     ·rcases h with h | rfl
      ·exact absurd (A e h) hc
      ·exact⟨(ph M (by omega)).2 hS,by omega⟩
     ·have:=v e ((ph M (by omega)).1 h.1);omega
def ir:b7→Bool
 | .cO _ _ _ _ _=>ag| _=>ae
def LI(H:an)(c:C)(o:List aC):Prop:=(o=[]∧c=.f .aA)∨(o≠[]∧∃ b d,c=.sl b 0 o.length 0 d 3∧RB H b 3 d (aG o))
theorem LI.push{H:an}{c:C}{o:List aC}(h:LI H c o)(J:an):LI (H++J) c o:=by
 rcases h with h | ⟨h,b,d,h1,h2⟩
 ·exact .inl h
 ·exact .inr ⟨h,b,d,h1,h2.push J⟩
theorem LI.set{H:an}{c:C}{o:List aC}(h:LI H c o){i:Nat}{x:b7}(hi:H[i]?=aa x)(g:ir x=ae)(y:b7):LI (H.set i y) c o:=by
 rcases h with h | ⟨h,b,d,h1,h2⟩
 ·exact .inl h
 ·refine .inr ⟨h,b,d,h1,?_⟩;unfold RB at h2 ⊢;have:i≠b:=by rintro rfl;rw [h2]at hi;cases hi;cases g
  rw [sh this];exact h2
theorem ua(o:List aC)(x:aC):(aG (o++[x])).flatten=(aG o).flatten++x.row:=by simp [aG]
theorem LI.app{H:an}{c:C}{o:List aC}(h:LI H c o)(hl:o.length≤1000000){b1 fl:Nat}{x:aC}(q:H[b1]?=aa (.box (x.row.map .f) fl)) :
  ∃ s H',bF H 3 24 (.c c) (.c (.sl b1 0 1 1 0 3))=aa (.c s,H')∧LI H' s (o++[x])∧H.length≤H'.length∧∀(i:Nat) y,H[i]?=aa y→ir y=ae→H'[i]?=aa y:=by
 have g:dc H 3 (.c (.sl b1 0 1 1 0 3))=aa (1,x.row.map .f):=nf q (by rfl);rcases h with⟨rfl,rfl⟩ | ⟨v,b,l,rfl,h2⟩
 ·have d:cN 1 24=ae:=by simp [cN]
  refine⟨.sl H.length 0 1 0 0 3,H++[.cO 3 (x.row.map .f) 0 0 .loc],?_,.inr ⟨by simp,H.length,0,by simp,?_⟩,by simp,fun i y hy _=>by rw [AT (aj hy)];exact hy⟩
  ·simp [bF,g,d]
  ·unfold RB;simp [aG]
 ·have d:cN (o.length+1) 24=ae:=by simp [cN];omega
  have j:o.length*3=(aG o).flatten.length:=by rw [cA (bC o),iD]
  unfold RB at h2;refine⟨.sl b 0 (o.length+1) 0 (l+1) 3,H.set b (.cO 3 ((aG o).flatten.map .f++x.row.map .f) 0 (l+1) .loc),?_,.inr ⟨by simp,b,l+1,by simp,?_⟩,by simp,fun i y hy u=>?_⟩
  ·have m:(3:Nat)≠0:=by decide
   simp only [bF,g,m,if_false,h2,and_self,if_true];simp only [Nat.add_one_ne_zero,if_false];rw [ba ⟨trivial,by rw [alq];exact j,by omega⟩,d];simp
  ·unfold RB;rw [BY (aj h2),ua,amo]
  ·have:b≠i:=by rintro rfl;rw [h2]at hy;cases hy;cases u
   rw [sh this];exact hy
theorem ahL{H:an}{b d n:Nat}{l R:List aC}(h:RB H b 3 d (aG (l++R))):eA (n+1) H (.sl b 0 l.length 0 d 3)=aa (sl .fs (aG l)):=by
 unfold RB at h;have g:l.length*3=(aG l).flatten.length:=by rw [cA (bC l),iD]
 have e:(aG (l++R)).flatten=(aG l).flatten++(aG R).flatten:=by simp [aG]
 simp only [jI,h];rw [ba ⟨trivial,trivial,by rw [alq,e,alj];omega⟩,e,amd,amo,List.take_append_of_le_length (by rw [alq];omega),alz (by rw [alq];omega)];rw [lO];cases l with
 | nil=>simp [sl,aG,Tg.fc]| cons x l=>simp [sl,aG]
theorem zc{H:an}:∃ r H',Ev tab (.fn 30) [.c (.f .aA)] H r H'∧(r=.c (.f .aA)∧H'=H):=by
 refine cH rfl rfl fun Q b=>?_;apply ai;simp;apply au;apply ai;simp [bh];refine av (by simp) ?_;apply ai;simp;exact aD (b _ _ _ rfl (dz (by simp)) ⟨rfl,rfl⟩)
def oa:List Nat→an→an
 | [],H=>H| b::bs,H=>oa bs (H.set b (.fg ag))
structure fq(bs:List Nat)(H:an):Prop where
 nd:bs.Nodup
 on:∀ b ∈ bs,H[b]?=aa (.fg ae)
theorem nP{call:du}:∀ {bs:List Nat} {H:an},fq bs H→ec call (bs.map .er) H=aa (oa bs H)
 | [],H,_=>rfl
 | b::bs,H,h=>by
  have j:=h.on b alr;have d:=List.nodup_cons.1 h.nd;simp only [alo,ec,j,oa];exact nP ⟨d.2,fun x g=>by rw [sh (by rintro rfl;exact d.1 g)];exact h.on x (alu _ g)⟩
theorem mL:∀ {bs:List Nat} {H:an} {i:Nat},i ∉ bs→(oa bs H)[i]?=H[i]?
 | [],_,_,_=>rfl
 | b::bs,H,i,h=>by
  simp only [alW,not_or]at h;rw [oa,mL h.2,sh (Ne.symm h.1)]
def To(b:List gI)(r:V)(s:St):Prop:=∃ bs,s.defs=bs.map .er∧fq bs s.heap∧∃ d,Km.results s.aE (oa bs s.heap) b=aa d∧me deep (oa bs s.heap) d=aa r
theorem qw{f:Nat}{args:List V}{S:V→Prop}{ps:List P}{b:List gI}{body:aw}(z:tab f=aa ⟨ps,b,body⟩)(x:args.length=ps.length)
  (h:∀ Q:Option aw→St→Prop,(∀ j s r,S r→To b r s→Q j s)→WP tab f ab [.code body] ⟨cr ps args .e,[],[]⟩ Q):∃ r,S r∧bX tab f args r:=by
 have q:=h (fun _ s=>∃ r,S r∧To b r s) fun _ _ r g l=>⟨r,g,l⟩
 obtain⟨n,m,d,j,s,g,r,y,bs,hd,v,A,l,u⟩:=q;exact⟨r,y,A,oa bs s.heap,qN z x ⟨n,m,d,j,s,g,0,0,_,by rw [hd];exact nP v,l,rfl⟩,u⟩
theorem fq.push{bs:List Nat}{H:an}(h:fq bs H)(J:an):fq bs (H++J):=⟨h.nd,fun b hb=>by rw [AT (aj (h.on b hb))];exact h.on b hb⟩
theorem fq.bu{bs:List Nat}{H H':an}(h:fq bs H)(d:∀(i:Nat) y,H[i]?=aa y→ir y=ae→H'[i]?=aa y):fq bs H':=⟨h.nd,fun b hb=>d b _ (h.on b hb) rfl⟩
theorem fq.set{bs:List Nat}{H:an}(h:fq bs H){i:Nat}{y z:b7}(hi:H[i]?=aa y)(hy:y≠.fg ae):fq bs (H.set i z):=⟨h.nd,fun b hb=>by
 have:=h.on b hb;rw [sh (by rintro rfl;rw [this]at hi;cases hi;exact hy rfl)];exact this⟩
theorem fq.not{bs:List Nat}{H:an}(h:fq bs H){i:Nat}{y:b7}(hi:H[i]?=aa y)(hy:y≠.fg ae):i ∉ bs:=fun hb=>by
 have:=h.on i hb;rw [hi]at this;cases this;exact hy rfl
theorem lK:∀(l:List Int) (a k:Int),l.Pairwise (· < ·)→(∀ x ∈ l,a≤x∧x<a+k)→(l.length:Int)≤max k 0
 | [],_,_,_,_=>by simp;omega
 | x::l,a,k,g,h=>by
  have j:=h x alr;have b:=amY.1 g;have:=lK l (x+1) (a+k-x-1) b.2 fun y d=>⟨by have:=b.1 y d;omega,by have:=h y (alu _ d);omega⟩
  simp only [List.length_cons];omega
structure kz(s:aU):Prop where
 v:gC s=ae
 cn:s.cs.length≤3
 cl:∀ c ∈ s.cs,yF c.ts
 xn:s.xs.length≤4
def uV(s:aU)(b g:Int)(l:List cd)(x:aC):Prop:=∃ c ∈ l,∃ d,yD c.ts (n0I s.len c.min b) c.min g d∧x=dr s.len c.min d
def Aq(s:aU)(b d:Int)(x:aC):Prop:=uV s b d s.cs x∨(x ∈ s.xs∧fK x.fr x.to b d=ae)
theorem oF:∀ {l:List cd} {o:Option Int},dL o l=ae→∀ c ∈ l,iH c.ts=ae∧-4320≤c.min∧c.min≤4320
 | c::l,o,h,x,d=>by
  simp only [dL,If]at h;obtain⟨⟨⟨g,b⟩,-⟩,j⟩:=h;rcases alW.1 d with rfl | d
  ·unfold dj at b;simp at b;exact⟨g,b.1,b.2⟩
  ·exact oF j x d
theorem kz.len{s:aU}(h:kz s):1≤s.len∧s.len≤10080:=by
 have:=h.v;simp [gC,dj]at this;omega
theorem kz.min{s:aU}(h:kz s){c:cd}(hc:c ∈ s.cs):-4320≤c.min∧c.min≤4320:=by
 have:=h.v;simp only [gC,If]at this;exact(oF this.1.2 c hc).2
theorem sY{ts:List cE}(h:iH ts=ae):∀ t ∈ ts,t.Sm:=fun t d=>by
 obtain⟨-,b⟩:=ny h;exact⟨by have:=(fA (b t d)).2.1;omega,fun p g=>jN ((fA (b t d)).2.2 p g)⟩
theorem kz.sm{s:aU}(h:kz s):s.Sm:=by
 have h1:=h.cn;have h2:=h.xn;refine⟨by omega,by omega,fun c hc=>⟨?_,sY (h.cl c hc).v⟩⟩;have:=(ny (h.cl c hc).v).1;omega
theorem Cu(s:aU)(hs:kz s)(u v:Int)(p8:-10000000000≤u)(p9:v≤10000000000)(o9:u<v)(o_:v≤u+70000) :
  ∃ g L,(L.Pairwise aC.lt∧∀ x,x ∈ L↔Aq s u v x)∧L.length≤184∧bX tab 9 [.a (s.row.map .f),.a [.f (fi u),.f (fi v)]]=Eq (.t [.c (.f (sl g (aG L))),vi 0]):=by
 have key:∃ r,(∃ g L,(L.Pairwise aC.lt∧∀ x,x ∈ L↔Aq s u v x)∧L.length≤184∧r=.t [.c (.f (sl g (aG L))),vi 0])∧bX tab 9 [.a (s.row.map .f),.a [.f (fi u),.f (fi v)]] r:=by
  refine qw ahN rfl fun Q hQ=>?_;have p:=(qE s hs.sm).eq;rw [hs.v]at p;simp [aU.row]at p;have hF:∀ x y:aC,Kf tab 29 [.a (x.row.map .f),.a (y.row.map .f)] (vi (fv x y)):=zP;obtain⟨m9,m_⟩:=hs.len;have o4:=hs.cn;have p_:=hs.xn;have j4:∀(t:T) (bs:List Nat) (H:an) (c:C) (o:List aC),t.g 6=.c (.ptr 2 0 0)→H[2]?=aa (.box [c] 0)→LI H c o→o.length≤184→fq bs H→(∀ x,x ∈ o↔Aq s u v x) →
    WP tab 9 ab [.code yc] ⟨t,bs.map .er,H⟩ Q:=by
   intro t bs H c o I B A c9 K m;rcases A with⟨rfl,rfl⟩ | ⟨o8,b,ep,rfl,a⟩
   ·obtain⟨r1,H1,e1,rfl,rfl⟩:=VE (H:=H) (F:=29);obtain⟨r2,w,e2,rfl,rfl⟩:=zc (H:=H1);apply ai;simp [I,B,e1.eq];apply ai;simp [I,B,e2.eq];have S:(w.set 2 (.box [.f .aA] 0))[2]?=aa (.box [.f .aA] 0):=BY (aj B);apply au;apply ai;simp [I,S,bh];refine aW (by simp) ?_;apply ai;simp [I,S];refine aD (hQ _ _ _ ⟨.nil,[],⟨by simp,m⟩,by simp,rfl⟩ ⟨bs,rfl,K.set B (by simp),.t [.c (.f .aA),vi 0],by simp [Km.results,cm,aZ],by simp [me,dE,aZ,sl,aG,Tg.fc]⟩)
   ·have f7:(2:Nat)≠b:=by rintro rfl;unfold RB at a;rw [B]at a;cases a
    have f8:b ∉ bs:=K.not a (by simp);obtain⟨r1,H1,e1,rfl,f1,l1,q1,q2,q3⟩:=ab0 hF (by omega) a;have ll:=q2.length_eq;rw [←ll]at e1 B;have S:=f1.get B f7;obtain⟨r2,w,e2,l2,R2,rfl,f2,w1,w2,w3,w4⟩:=AA (by omega) q3 q1;have i7:=f2.get S f7;apply ai;simp [I,B,e1.eq];apply ai;simp [I,S,e2.eq,i7];have k3:(w.set 2 (.box [.sl b 0 l2.length 0 ep 3] 0))[2]?=aa (.box [.sl b 0 l2.length 0 ep 3] 0):=BY (aj i7);have i8:RB (w.set 2 (.box [.sl b 0 l2.length 0 ep 3] 0)) b 3 ep (aG (l2++R2)):=by
     unfold RB at w1 ⊢;rw [sh f7];exact w1
    have j9:fq bs w:=⟨K.nd,fun x hx=>f2.get (f1.get (K.on x hx) (by rintro rfl;exact f8 hx)) (by rintro rfl;exact f8 hx)⟩
    apply au;apply ai;simp [I,k3,i8.len];refine aF (by simp;omega) (aP ?_);apply ai;simp [I,k3];refine aD (hQ _ _ _ ⟨.fs,l2,⟨w3,fun x=>by rw [w4,q2.mem_iff,m]⟩,by omega,rfl⟩ ⟨bs,rfl,j9.set i7 (by simp),.t [.c (.sl b 0 l2.length 0 ep 3),vi 0],by simp [Km.results,cm,aZ],?_⟩);have j3:RB (oa bs (w.set 2 (.box [.sl b 0 l2.length 0 ep 3] 0))) b 3 ep (aG (l2++R2)):=by
     unfold RB at i8 ⊢;rw [mL f8];exact i8
    have:=ahL (n:=63) j3;simp [deep,me,dE,aZ,this]
  have a7:∀(t:T) (bs:List Nat) (H:an) (c:C) (o:List aC),t.g 2=.c (.ptr 0 0 0)→t.g 3=.c (.ptr 1 0 0)→t.g 6=.c (.ptr 2 0 0)→H[0]?=aa (.box [C.f (sl s.cg (aR s.cs)),C.f (fi s.len),C.f (sl s.xg (aG s.xs))] 0)→H[1]?=aa (.box [.f (fi u),.f (fi v)] 0)→H[2]?=aa (.box [c] 0)→LI H c o→o.length≤180 →
    fq bs H→(∀ x,x ∈ o↔uV s u v s.cs x)→WP tab 9 ab [.code ot] ⟨t,bs.map .er,H⟩ Q:=by
   intro t bs H c o M U I h0 N B A c9 K m;apply au;apply ai;simp [M,h0];refine bZ s.xs.length (fun j t H'=>t.g 2=.c (.ptr 0 0 0)∧t.g 3=.c (.ptr 1 0 0)∧t.g 6=.c (.ptr 2 0 0)∧t.g 64=.c (.f (sl s.xg (aG s.xs)))∧H'[1]?=aa (.box [.f (fi u),.f (fi v)] 0)∧fq bs H' ∧
    ∃ c o',H'[2]?=aa (.box [c] 0)∧LI H' c o'∧o'.length≤180+j∧∀ x,x ∈ o'↔uV s u v s.cs x∨(x ∈ s.xs.take j∧fK x.fr x.to u v=ae)) (by omega) (by decide) (by decide) (by simp) (by simp)
    ⟨by simp [M],by simp [U],by simp [I],by simp,N,K,c,o,B,A,by omega,by simpa using m⟩ ?_ ?_
   ·rintro j t H' hj ⟨M,U,I,a_,N,i6,c,o',B,A,c9,m⟩ ha hb next
    have J:=fun H:an=>cR (H:=H) (bC s.xs) (cW hj);have g_:=Z2 s.xs[j].fr s.xs[j].to u v;have c_:s.xs.take (j+1)=s.xs.take j++[s.xs[j]]:=by rw [aly,By hj];rfl
    simp [aC.row]at J;refine az ?_;apply ai;simp [a_,ha,bG,hj,J];have kN:(H'++[b7.box [.f (fi s.xs[j].day),.f (fi s.xs[j].fr),.f (fi s.xs[j].to)] 0])[H'.length]?=aa (.box [.f (fi s.xs[j].day),.f (fi s.xs[j].fr),.f (fi s.xs[j].to)] 0):=by simp
    have k1:(H'++[b7.box [.f (fi s.xs[j].day),.f (fi s.xs[j].fr),.f (fi s.xs[j].to)] 0])[1]?=aa (.box [.f (fi u),.f (fi v)] 0):=by rw [AT (aj N)];exact N
    have S:(H'++[b7.box [.f (fi s.xs[j].day),.f (fi s.xs[j].fr),.f (fi s.xs[j].to)] 0])[2]?=aa (.box [c] 0):=by rw [AT (aj B)];exact B
    have kL:=A.push [b7.box [.f (fi s.xs[j].day),.f (fi s.xs[j].fr),.f (fi s.xs[j].to)] 0];have kd:=i6.push [b7.box [.f (fi s.xs[j].day),.f (fi s.xs[j].fr),.f (fi s.xs[j].to)] 0];generalize o0:H'++[b7.box [.f (fi s.xs[j].day),.f (fi s.xs[j].fr),.f (fi s.xs[j].to)] 0]=X at kN k1 S kL kd ⊢;apply ai;simp [U,kN,k1,g_];cases O:fK s.xs[j].fr s.xs[j].to u v
    ·refine aF (by simp) (aP (ax (next _ _ ?_ (by simp [ha]) (by simp [hb]))));refine⟨by simp [M],by simp [U],by simp [I],by simp [a_],k1,kd,c,o',S,kL,by omega,fun x=>?_⟩;rw [m,c_,aln,alm];refine⟨fun h=>h.elim .inl fun h=>.inr ⟨.inl h.1,h.2⟩,fun h=>h.elim .inl fun h=>?_⟩;rcases h.1 with h' | rfl
     ·exact .inr ⟨h',h.2⟩
     ·rw [O]at h;cases h.2
    ·obtain⟨c',w,e1,e2,e3,e4⟩:=(kL.push [.box [.f (fi s.xs[j].day),.f (fi s.xs[j].fr),.f (fi s.xs[j].to)] 0]).app (by omega) (b1:=X.length) (fl:=0) (x:=s.xs[j]) (by simp [aC.row]);have p1:=e4 _ _ (show(X++[b7.box [.f (fi s.xs[j].day),.f (fi s.xs[j].fr),.f (fi s.xs[j].to)] 0])[1]?=_ by rw [AT (aj k1)];exact k1) rfl;have p2:=e4 _ _ (show(X++[b7.box [.f (fi s.xs[j].day),.f (fi s.xs[j].fr),.f (fi s.xs[j].to)] 0])[2]?=_ by rw [AT (aj S)];exact S) rfl;have pd:=(kd.push [b7.box [.f (fi s.xs[j].day),.f (fi s.xs[j].fr),.f (fi s.xs[j].to)] 0]).bu e4;refine av (by simp) ?_;refine aq (.inl rfl) ?_;simp [I,kN,S,e1,p2];refine ax (next _ _ ?_ (by simp [ha]) (by simp [hb]));refine⟨by simp [M],by simp [U],by simp [I],by simp [a_],by rw [sh (by decide)];exact p1,pd.set p2 (by simp),c',o'++[s.xs[j]],BY (aj p2),e2.set p2 rfl _,by simp;omega,fun x=>?_⟩;rw [aln,alm,m,c_,aln,alm];constructor
     ·rintro((h | h) | rfl)
      ·exact .inl h
      ·exact .inr ⟨.inl h.1,h.2⟩
      ·exact .inr ⟨.inr rfl,O⟩
     ·rintro(h | ⟨h | h,h'⟩)
      ·exact .inl (.inl h)
      ·exact .inl (.inr ⟨h,h'⟩)
      ·exact .inr h
   ·rintro t H' ⟨M,U,I,a_,N,i6,c,o',B,A,c9,m⟩ - -;rw [alw]at m;exact j4 _ bs H' c o' (by simp [I]) B A (by omega) i6 fun x=>m x
  have Y:∀ t:T,t.g 2=.c (.ptr 0 0 0)→t.g 3=.c (.ptr 1 0 0)→t.g 6=.c (.ptr 2 0 0)→WP tab 9 ab [.code xW] ⟨t,[],[.box [C.f (sl s.cg (aR s.cs)),C.f (fi s.len),C.f (sl s.xg (aG s.xs))] 0,.box [.f (fi u),.f (fi v)] 0,.box [.f .aA] 0]⟩ Q:=by
   intro t M U I;apply au;apply ai;simp [M];refine az ?_;refine bJ (fun n st=>∃(j:Nat) (t:T) (bs:List Nat) (H:an) (c:C) (o:List aC),st=⟨t,bs.map .er,H⟩∧n=s.cs.length-j∧j≤s.cs.length∧t.g 2=.c (.ptr 0 0 0)∧t.g 3=.c (.ptr 1 0 0)∧t.g 6=.c (.ptr 2 0 0)∧t.g 44=.c (.f (sl s.cg (aR s.cs)))∧t.g 45=vi s.cs.length∧t.g 46=vi j ∧
    H[0]?=aa (.box [C.f (sl s.cg (aR s.cs)),C.f (fi s.len),C.f (sl s.xg (aG s.xs))] 0)∧H[1]?=aa (.box [.f (fi u),.f (fi v)] 0)∧H[2]?=aa (.box [c] 0)∧LI H c o∧o.length≤60*j∧fq bs H∧∀ x,x ∈ o↔uV s u v (s.cs.take j) x) s.cs.length
    ⟨0,_,[],_,.f .aA,[],rfl,by omega,by omega,by simp [M],by simp [U],by simp [I],by simp,by simp,by simp,rfl,rfl,rfl,.inl ⟨rfl,rfl⟩,by simp,⟨by simp,by simp⟩,fun x=>⟨fun h=>by simp at h,fun⟨c,O,_⟩=>by simp at O⟩⟩ ?_
   rintro n st ⟨j,t,bs,H,c,o,rfl,rfl,hj,M,U,I,a8,Z,W,h0,N,B,A,c9,K,m⟩ ih;by_cases f:j<s.cs.length
   ·obtain⟨cl,e⟩:=aN (s.cs[j]);have d_:cl ∈ s.cs:=e▸IT f;have n_:=hs.min d_;have i_:=hs.cl cl d_;have J:=fun H:an=>cR (H:=H) (dC s.cs) (fD (l:=s.cs) (j:=j) f);have e_:=fun H:an=>bG (H:=H) (g:=s.cg) (rows:=aR s.cs) (sz:=2) (k:=.i64) (i:=j) (by omega) (by simpa using f);rw [←e]at J;simp [cd.row]at J e_;have c_:s.cs.take (j+1)=s.cs.take j++[cl]:=by rw [aly,By f,e];rfl
    have h_:=Z8 (sl s.cg (aR s.cs)) (sl s.xg (aG s.xs)) (sl cl.mg (aB cl.ts)) s.len cl.min u v;have i4:=fun d (h:mn d)=>oH (sl s.cg (aR s.cs)) (sl s.xg (aG s.xs)) (sl cl.mg (aB cl.ts)) s.len cl.min d (by unfold mn;omega) (by unfold mn;omega) h;apply ai;simp [Z,W];refine au (av (by simp [f]) (aP ?_));apply au;refine az ?_;apply ai;simp [a8,W,e_,J];obtain⟨q,f_⟩:=aN (H.length);have kc:(H++[b7.box [.f (sl cl.mg (aB cl.ts)),.f (fi cl.min)] 0])[q]?=aa (.box [.f (sl cl.mg (aB cl.ts)),.f (fi cl.min)] 0):=by simp [f_]
    have k0:(H++[b7.box [.f (sl cl.mg (aB cl.ts)),.f (fi cl.min)] 0])[0]?=aa (.box [C.f (sl s.cg (aR s.cs)),C.f (fi s.len),C.f (sl s.xg (aG s.xs))] 0):=by rw [AT (aj h0)];exact h0
    have k1:(H++[b7.box [.f (sl cl.mg (aB cl.ts)),.f (fi cl.min)] 0])[1]?=aa (.box [.f (fi u),.f (fi v)] 0):=by rw [AT (aj N)];exact N
    have S:(H++[b7.box [.f (sl cl.mg (aB cl.ts)),.f (fi cl.min)] 0])[2]?=aa (.box [c] 0):=by rw [AT (aj B)];exact B
    have kL:=A.push [b7.box [.f (sl cl.mg (aB cl.ts)),.f (fi cl.min)] 0];have kd:=K.push [b7.box [.f (sl cl.mg (aB cl.ts)),.f (fi cl.min)] 0];have kn:(H++[b7.box [.f (sl cl.mg (aB cl.ts)),.f (fi cl.min)] 0]).length=q+1:=by simp [f_]
    have n9:3≤q:=by have:=aj B;omega
    rw [←f_];generalize H++[b7.box [.f (sl cl.mg (aB cl.ts)),.f (fi cl.min)] 0]=X at kc k0 k1 S kL kd kn ⊢;apply ai;simp [M,U,k0,k1,kc,h_];refine az ?_;have range:∀(E:T),E.g 2=.c (.ptr 0 0 0)→E.g 3=.c (.ptr 1 0 0)→E.g 6=.c (.ptr 2 0 0)→E.g 8=.c (.ptr q 0 0)→E.g 44=.c (.f (sl s.cg (aR s.cs)))→E.g 45=vi s.cs.length→E.g 46=vi j →
      E.g 53=.c (.f (.fn 62 [.fp [fi u,fi v] 0,.fp [sl s.cg (aR s.cs),fi s.len,sl s.xg (aG s.xs)] 0,.fp [sl cl.mg (aB cl.ts),fi cl.min] 0])) →
      WP tab 9 ab [.code xY,.inBlock 2,.inBlock 1,.code xZ,.inLoop xX,.inBlock 0,.code ot] ⟨E,bs.map .er,X⟩ Q:=by
     intro E M U I g8 a8 Z W j7;obtain⟨PP,b_⟩:∃ PP:List Int→an→Prop,PP=fun ds H=>H[0]?=aa (.box [C.f (sl s.cg (aR s.cs)),C.f (fi s.len),C.f (sl s.xg (aG s.xs))] 0)∧H[1]?=aa (.box [.f (fi u),.f (fi v)] 0)∧(∃ c,H[2]?=aa (.box [c] 0)∧LI H c (o++ds.map (dr s.len cl.min))) ∧
      H[q]?=aa (.box [.f (sl cl.mg (aB cl.ts)),.f (fi cl.min)] 0)∧fq bs H∧H[q+1]?=aa (.fg ae)∧H[q+1+1]?=aa (.lp 9 E [P.nat 54] dI dJ .ready ab (q+1)):=⟨_,rfl⟩
     have n8:PP [] (X++[.fg ae,(.lp 9 E [P.nat 54] dI dJ .ready ab (q+1))]):=by
      rw [b_];refine⟨?_,?_,⟨c,?_,?_⟩,?_,kd.push _,?_,?_⟩
      ·rw [AT (aj k0)];exact k0
      ·rw [AT (aj k1)];exact k1
      ·rw [AT (aj S)];exact S
      ·simpa using kL.push _
      ·rw [AT (aj kc)];exact kc
      ·rw [alp (by omega),kn];simp
      ·rw [alp (by omega),kn];simp
     have o7:n0I s.len cl.min u=max 0 ((u-s.len-cl.min) / 1440+1):=rfl;obtain⟨r,H',he,rfl,ds,hp,n6,i3⟩:=Z7 (b:=q+1+1) (H:=X++[.fg ae,(.lp 9 E [P.nat 54] dI dJ .ready ab (q+1))]) (PP:=PP) cl.mg cl.ts i_ (sl s.cg (aR s.cs)) (sl s.xg (aG s.xs)) s.len cl.min u v ⟨by omega,by omega,by omega,by omega,by omega,by omega,by omega⟩ (n0I s.len cl.min u) rfl n8 (by
      intro ds d H hp o5 o6 j_;rw [b_]at hp;obtain⟨h0,N,⟨c,B,A⟩,O,e,h4,h5⟩:=hp;have i9:=i4 d (by unfold mn;omega);simp [dr,aC.row]at i9;obtain⟨r,H',e1,rfl,e2⟩:=ea (tab:=tab) (b:=q+1+1) (args:=[vi d]) (H:=H) (C:=fun r H'=>r=vb ae∧PP (ds++[d]) H') h5 rfl fun Q' j8=>by
       refine aq (.inr rfl) ?_;simp;refine iF h5 ?_;have b0:(H.set (q+1+1) (.lp 9 E [P.nat 54] dI dJ .busy ab (q+1)))[0]?=aa (.box [C.f (sl s.cg (aR s.cs)),C.f (fi s.len),C.f (sl s.xg (aG s.xs))] 0):=by rw [sh (by omega)];exact h0
       have b1:(H.set (q+1+1) (.lp 9 E [P.nat 54] dI dJ .busy ab (q+1)))[1]?=aa (.box [.f (fi u),.f (fi v)] 0):=by rw [sh (by omega)];exact N
       have b2:(H.set (q+1+1) (.lp 9 E [P.nat 54] dI dJ .busy ab (q+1)))[2]?=aa (.box [c] 0):=by rw [sh (by omega)];exact B
       have b3:(H.set (q+1+1) (.lp 9 E [P.nat 54] dI dJ .busy ab (q+1)))[q]?=aa (.box [.f (sl cl.mg (aB cl.ts)),.f (fi cl.min)] 0):=by rw [sh (by omega)];exact O
       have b4:(H.set (q+1+1) (.lp 9 E [P.nat 54] dI dJ .busy ab (q+1)))[q+1]?=aa (.fg ae):=by rw [sh (by omega)];exact h4
       have b5:(H.set (q+1+1) (.lp 9 E [P.nat 54] dI dJ .busy ab (q+1)))[q+1+1]?=aa (.lp 9 E [P.nat 54] dI dJ .busy ab (q+1)):=BY (aj h5);have bd:=e.set (z:=(.lp 9 E [P.nat 54] dI dJ .busy ab (q+1))) h5 (by simp);have bL:=A.set h5 rfl (.lp 9 E [P.nat 54] dI dJ .busy ab (q+1));generalize H.set (q+1+1) (.lp 9 E [P.nat 54] dI dJ .busy ab (q+1))=HB at b0 b1 b2 b3 b4 b5 bd bL ⊢;obtain⟨c',w,a1,a2,a3,a4⟩:=(bL.push [.box [.f (fi d),.f (fi (d*1440+cl.min)),.f (fi (d*1440+cl.min+s.len))] 0]).app (by simp;omega) (b1:=HB.length) (fl:=0) (x:=dr s.len cl.min d) (by simp [aC.row,dr]);have up:∀(i:Nat) y,HB[i]?=aa y→ir y=ae→w[i]?=aa y:=fun i y hy hn=>a4 i y (by rw [AT (aj hy)];exact hy) hn;have p2:=up _ _ b2 rfl;have s5:(w.set 2 (.box [c'] 0))[q+1+1]?=aa (.lp 9 E [P.nat 54] dI dJ .busy ab (q+1)):=by rw [sh (by omega)];exact up _ _ b5 rfl
       refine az ?_;refine aq (.inr rfl) ?_;simp [M,I,g8,b0,b2,b3,i9,a1,p2];refine ax (cU (j8 _ _ _ _ _ _ _ _ _ _ rfl s5 ?_));refine⟨rfl,?_⟩;rw [b_];refine⟨?_,?_,⟨c',?_,?_⟩,?_,?_,?_,?_⟩
       ·rw [sh (by omega),sh (by decide)];exact up _ _ b0 rfl
       ·rw [sh (by omega),sh (by decide)];exact up _ _ b1 rfl
       ·rw [sh (by omega)];exact BY (aj p2)
       ·rw [amo,←alU];exact(a2.set p2 rfl _).set s5 rfl _
       ·rw [sh (by omega),sh (by omega)];exact up _ _ b3 rfl
       ·exact((bd.bu up).set p2 (by simp)).set s5 (by simp)
       ·rw [sh (by omega),sh (by omega)];exact up _ _ b4 rfl
       ·exact BY (aj s5)
      exact⟨H',e1,e2⟩)
     rw [b_]at hp;obtain⟨h0,N,⟨c,B,A⟩,O,d9,h4,h5⟩:=hp;have hB:X.length=q+1:=kn;have k_:Ev tab (.fn 62) [.c (.yl (X.length+1)),.c (.f (.fp [fi u,fi v] 0)),.c (.f (.fp [sl s.cg (aR s.cs),fi s.len,sl s.xg (aG s.xs)] 0)),.c (.f (.fp [sl cl.mg (aB cl.ts),fi cl.min] 0))] (X++[.fg ae,.lp 9 E [P.nat 54] dI dJ .ready ab X.length]) (.t []) H':=by
      rw [hB];exact he
     refine fF (g:=62) (by rw [rm,j7];simp [bW]) k_ ?_;rw [hB];refine gq h5 (by decide) ?_;refine ax (ax (aq (.inl rfl) ?_));simp [W,aO (n:=(j:Int)+1)];have j_:=lK ds (n0I s.len cl.min u) 60 n6 fun d hd=>by
      obtain⟨⟨t',_,a1,_⟩,a2⟩:=(i3 d).1 hd;refine⟨a1,?_⟩;omega
     refine ih (s.cs.length-(j+1)) _ (by omega) ⟨j+1,_,(q+1)::bs,_,c,_,rfl,by omega,by omega,by simp [M],by simp [U],by simp [I],by simp [a8],by simp [Z],by simp,?_,?_,?_,A.set h5 rfl _,by simp;omega,⟨?_,?_⟩,fun x=>?_⟩
     ·rw [sh (by omega)];exact h0
     ·rw [sh (by omega)];exact N
     ·rw [sh (by omega)];exact B
     ·refine List.nodup_cons.2 ⟨fun hb=>?_,d9.nd⟩;have:=aj (kd.on _ hb);omega
     ·intro b hb;rcases alW.1 hb with rfl | hb
      ·rw [sh (by omega)];exact h4
      ·exact(d9.set h5 (by simp)).on b hb
     ·rw [aln,m,alC];unfold uV;rw [c_];constructor
      ·rintro(⟨c,O,h⟩ | ⟨d,hd,rfl⟩)
       ·exact⟨c,alT _ O,h⟩
       ·exact⟨cl,amw _ (alm.2 rfl),d,(i3 d).1 hd,rfl⟩
      ·rintro⟨c,O,d,hd,rfl⟩;rcases aln.1 O with O | O
       ·exact .inl ⟨c,O,d,hd,rfl⟩
       ·obtain rfl:=alm.1 O;exact .inr ⟨d,(i3 d).2 hd,rfl⟩
    exact range _ (by simp [M]) (by simp [U]) (by simp [I]) (by simp) (by simp [a8]) (by simp [Z]) (by simp [W]) (by simp)
   ·have l_:j=s.cs.length:=by omega
    subst l_;apply ai;simp [Z,W];refine au (aF (by simp) ?_);refine bg (k':=[.code ot]) rfl ?_;rw [alw]at m;exact a7 _ bs _ c o (by simp [M]) (by simp [U]) (by simp [I]) h0 N B A (by omega) K m
  apply ai;simp [aU.row];apply au;apply ai;simp [p,show¬ u < -2251799813685248 by omega,show¬ 2251799813685248<v by omega,show¬ v<u by omega];refine aW (by simp) ?_;apply au;apply ai;simp [aO (n:=v-u),show¬ 5760000<v-u by omega];refine aW (by simp) ?_;apply ai;simp;apply au;apply ai;simp [show¬ u=v by omega];refine aW (by simp) ?_;exact Y _ (by simp) (by simp) (by simp)
 obtain⟨r,⟨g,L,N,B,h3,rfl⟩,h⟩:=key;exact⟨g,L,N,B,h.eq⟩
def Tq(c:cd)(len:Int)(x:aC):Prop:=∃ d,rk c.ts 0 d∧x=dr len c.min d
def iv(s:aU)(x:aC):Prop:=(∃ c ∈ s.cs,Tq c s.len x)∨x ∈ s.xs
abbrev u8(n:Nat):FC:=.int .u8 n
def dK(l:List Nat):List (List FC):=l.map fun n=>[u8 n]
@[simp] theorem ags (l:List Nat):(dK l).length=l.length:=by simp [dK]
theorem Ay(l:List Nat):bO 1 (dK l):=bO.map fun _=>rfl
theorem zz{j:Nat}{l:List Nat}(b:j<l.length){H:an}:aX H ab (.c (.f (.fp (dK l).flatten j)))=aa (.c (.f (u8 l[j]))):=by
 have:=gZ (H:=H) (rows:=dK l) (j:=j) (sz:=1) (row:=[u8 l[j]]) (x:=u8 l[j]) (Ay l) (by simp [dK,b]) rfl;simpa using this
theorem vo{j:Nat}{l:List Nat}{g:Tg}(b:j<l.length){H:an}:bB H 1 ab (.c (.f (sl g (dK l)))) (vi j)=aa (.c (.f (.fp (dK l).flatten j))):=by
 have:=bG (H:=H) (g:=g) (rows:=dK l) (sz:=1) (k:=.i64) (i:=(j:Int)) (by omega) (by simp;omega);simpa using this
def tR(b:List Nat)(i:Nat):Nat:=b[i]?.getD 0
theorem wv{b:List Nat}(h:∀ n ∈ b,n<256)(i:Nat):tR b i<256:=by
 unfold tR;by_cases hi:i<b.length
 ·rw [By hi];exact h _ (IT hi)
 ·rw [amU.2 (by omega)];decide
theorem uY(g:Tg)(b:List Nat)(m:∀ n ∈ b,n<256)(s:b.length≤9223372036854775807)(i:Nat)(hi:i≤1000):bX tab 60 [.c (.f (sl g (dK b))),vi i]=Eq (vi (tR b i:Nat)):=bX.eq (by
 refine cz rfl rfl fun Q d=>?_;apply ai;simp;refine au (ai ?_);simp;by_cases h:i<b.length
 ·have j:=vo (g:=g) h (H:=[]);have l:=zz h (H:=[]);have q:=m _ (IT h);have w:IntKind.i64.wrap ((b[i]:Nat):Int)=((b[i]:Nat):Int):=aO;refine av (by simp [h]) (ai ?_);simp [j,l,w];refine aD (d _ _ ?_);simp [tR,By h]
 ·refine aW (by simp [h]) ?_;apply ai;simp;refine aD (d _ _ ?_);simp [tR,amU.2 (show b.length≤i by omega)])
theorem nB{limit:Int}:∀ {l:List Int} {last:Int},(∀ x ∈ l,last<x∧x<limit)→l.Pairwise (· < ·)→dA limit last l=ae
 | [],_,_,_=>rfl
 | n::r,last,h,b=>by
  have d:=h n alr;rw [amY]at b;simp only [dA,decide_eq_true d.1,decide_eq_true d.2,amm];exact nB (fun x g=>⟨b.1 x g,(h x (alu _ g)).2⟩) b.2
def Up(l:List Int)(n:Nat):Prop:=(∀ x ∈ l,0≤x∧x<n)∧l.Pairwise (· < ·)∧l.length≤n
theorem Up.nil:Up [] 0:=⟨by simp,List.Pairwise.nil,by simp⟩
theorem Up.skip{l:List Int}{n:Nat}(h:Up l n):Up l (n+1):=⟨fun x b=>by have:=h.1 x b;omega,h.2.1,by have:=h.2.2;omega⟩
theorem Up.app{l:List Int}{n:Nat}(h:Up l n):Up (l++[(n:Int)]) (n+1):=by
 refine⟨fun x d=>?_,?_,by simp;exact h.2.2⟩
 ·rcases aln.1 d with d | d
  ·have:=h.1 x d;omega
  ·simp at d;subst d;omega
 ·rw [ama];exact⟨h.2.1,al1 _ _,fun a g b hb=>by simp at hb;subst hb;have:=h.1 a g;omega⟩
theorem Up.rising{l:List Int}{n:Nat}(h:Up l n):dA n (-1) l=ae:=nB (fun x b=>by have:=h.1 x b;omega) h.2.1
theorem lL(l:List Int):bO 1 (ints l):=bO.map fun _=>rfl
structure FI(b:V)(fr aM:Nat)(hd cy:List Int)(ch cc:C)(t:T)(J:an):Prop where
 res:J[0]?=aa (.box [.f .aA,.f (fi 0),.f (fi 0),.f .aA] 0)
 pb:J[1]?=aa (.box [ch,.f (fi fr),.f (fi aM),cc] 0)
 lh:LR J ch 1 (ints hd)
 lc:LR J cc 1 (ints cy)
 ne:∀ i,aV ch=aa i→aV cc≠aa i
 g0:t.g 0=b
 g2:t.g 2=.c (.ptr 0 0 0)
 g3:t.g 3=.c (.ptr 1 0 0)
section
variable{b:V}{fr aM:Nat}{hd cy:List Int}{ch cc:C}{t:T}{J:an}
theorem FI.to(k:FI b fr aM hd cy ch cc t J){d:T}(g0:d.g 0=b)(g2:d.g 2=.c (.ptr 0 0 0))(g3:d.g 3=.c (.ptr 1 0 0)):FI b fr aM hd cy ch cc d J:=⟨k.res,k.pb,k.lh,k.lc,k.ne,g0,g2,g3⟩
theorem FI.Z6(k:FI b fr aM hd cy ch cc t J)(hl:cy.length≤1000)(n:Int) :
  ∃ m j,bF (J++[.box [.f (fi n)] 0]) 1 8 (.c cc) (.c (.sl J.length 0 1 1 0 1))=aa (.c m,j)∧dt j (.ptr 1 3 0) [m]=aa (j.set 1 (.box [ch,.f (fi fr),.f (fi aM),m] 0)) ∧
   ∀ x:T,x.g 0=b→x.g 2=.c (.ptr 0 0 0)→x.g 3=.c (.ptr 1 0 0)→FI b fr aM hd (cy++[n]) ch m x (j.set 1 (.box [ch,.f (fi fr),.f (fi aM),m] 0)):=by
 obtain⟨A,d⟩:=aN (J++[.box ([fi n].map .f) 0]:an);have up:∀ i y,J[i]?=aa y→A[i]?=aa y:=fun i y hy=>by rw [d,AT (aj hy)];exact hy
 have u:LR A cc 1 (ints cy):=by rw [d];exact k.lc.push _
 have B:A[J.length]?=aa (.box ([fi n].map .f) 0):=by rw [d];simp
 obtain⟨m,j,l,q,s,E⟩:=u.app (lL cy) (by decide) (row:=[fi n]) rfl (bytes:=8) (dG (by simp [ints];omega) (by decide)) B;have z:∀(i:Nat) (cs:List C) (fl:Nat),J[i]?=aa (.box cs fl)→j[i]?=aa (.box cs fl):=fun i cs fl hy=>s.2 i _ (up _ _ hy) (u.bz (up _ _ hy));have g:=z _ _ _ k.pb;have H:ints cy++[[fi n]]=ints (cy++[n]):=by simp [ints]
 rw [H]at q;have v:LR j ch 1 (ints hd):=k.lh.bu fun i y hy hi=>s.2 i y (up _ _ hy) (k.ne i hi);refine⟨m,j,by rw [d]at l;exact l,by simp [dt,g,over],fun x g0 g2 g3=>⟨?_,BY (aj g),v.set (v.bz g) _,q.set (q.bz g) _,?_,g0,g2,g3⟩⟩
 ·rw [sh (by decide)];exact z _ _ _ k.res
 ·intro i hi;rcases E with e | e
  ·rw [e];exact k.ne i hi
  ·rw [e];intro F;cases F;have:=k.lh.lt hi;have h2:A.length=J.length+1:=by rw [d];simp
   omega
theorem FI.Uo(k:FI b fr aM hd cy ch cc t J)(hl:hd.length≤1000)(n:Int) :
  ∃ m j,bF (J++[.box [.f (fi n)] 0]) 1 8 (.c ch) (.c (.sl J.length 0 1 1 0 1))=aa (.c m,j)∧dt j (.ptr 1 0 0) [m]=aa (j.set 1 (.box [m,.f (fi fr),.f (fi aM),cc] 0)) ∧
   ∀ z:T,z.g 0=b→z.g 2=.c (.ptr 0 0 0)→z.g 3=.c (.ptr 1 0 0)→FI b fr aM (hd++[n]) cy m cc z (j.set 1 (.box [m,.f (fi fr),.f (fi aM),cc] 0)):=by
 obtain⟨B,d⟩:=aN (J++[.box ([fi n].map .f) 0]:an);have up:∀ i y,J[i]?=aa y→B[i]?=aa y:=fun i y hy=>by rw [d,AT (aj hy)];exact hy
 have u:LR B ch 1 (ints hd):=by rw [d];exact k.lh.push _
 have E:B[J.length]?=aa (.box ([fi n].map .f) 0):=by rw [d];simp
 obtain⟨m,j,l,q,s,F⟩:=u.app (lL hd) (by decide) (row:=[fi n]) rfl (bytes:=8) (dG (by simp [ints];omega) (by decide)) E;have A:∀(i:Nat) (cs:List C) (fl:Nat),J[i]?=aa (.box cs fl)→j[i]?=aa (.box cs fl):=fun i cs fl hy=>s.2 i _ (up _ _ hy) (u.bz (up _ _ hy));have g:=A _ _ _ k.pb;have H:ints hd++[[fi n]]=ints (hd++[n]):=by simp [ints]
 rw [H]at q;have v:LR j cc 1 (ints cy):=k.lc.bu fun i y hy hi=>s.2 i y (up _ _ hy) (fun e=>k.ne i e hi);refine⟨m,j,by rw [d]at l;exact l,by simp [dt,g,over],fun z g0 g2 g3=>⟨?_,BY (aj g),q.set (q.bz g) _,v.set (v.bz g) _,?_,g0,g2,g3⟩⟩
 ·rw [sh (by decide)];exact A _ _ _ k.res
 ·intro i hi x;rcases F with e | e
  ·rw [e]at hi;exact k.ne i hi x
  ·rw [e]at hi;cases hi;have:=k.lc.lt x;have h2:B.length=J.length+1:=by rw [d];simp
   omega
end
end Go.Proofs.YthkmdpgdicohdaaGreat
