/-
  QI ug nh lF and ug mu answer, for all arguments of G_ kind, in ug small machine: part 1.
-/
import Derived.Test.YtnaofdffomdmhaaGreatTab
import Derived.Test.YtnaofdffomdmhaaGreatK4
import Derived.Test.YtnaofdffomdmhaaGreatK3
open Option renaming some->aa,none->ab
open Bool renaming true->ae,false->ag
open List renaming drop_eq_getElem_cons->afL, getElem_mem->afH, any_eq_false->agW, append_nil->agp, getElem?_append_left->afy, mem_cons->afZ, pairwise_iff_getElem->ags, getElem?_set_self->afC, getElem?_set_ne->ae2, set_getElem_self->ag4, any_eq_true->agw, getElem_of_mem->agd, append_assoc->agk, getElem?_eq_getElem->afB, map_cons->afS, mem_cons_self->afN, mem_cons_of_mem->afQ, rel_of_pairwise_cons->agO, filter_append->aho, length_map->afT, length_filter_le->agJ, length_take->af2, mem_map->af6, mem_filter->agB, getElem?_append_right->afI, map_nil->afW, getElem?_eq_some_iff->afD, findIdx?_eq_some_iff_getElem->agX, pairwise_cons->agt, pairwise_map->ahk, all_eq_true->af4, mem_singleton->afO, map_inj_left->agb, mem_flatMap->agE, mem_range->agz, length_set->af7
open Bool renaming true_and->agi, and_eq_true->afE, eq_iff_iff->agH
open Nat renaming lt_of_lt_of_le->af9, le_trans->af1, le_refl->afJ, lt_trichotomy->agN, lcm->agU
open List.Pairwise renaming of_cons->ahj
open Int renaming ediv_le_self->ahv, tmod_eq_emod_of_nonneg->ag1, emod_nonneg->agL, emod_lt_of_pos->agM, mul_le_mul_of_nonneg_left->aht
open Prod.mk renaming inj->afP
open Option.some renaming inj->ahg
set_option linter.unusedVariables false
set_option linter.constructorNameAsVariable false
set_option linter.unusedSimpArgs false
set_option linter.unusedSectionVars false
set_option linter.unnecessarySimpa false
set_option maxRecDepth 100000
set_option maxHeartbeats 2000000
namespace Go.Proofs.YtnaofdffomdmhaaGreat
open Go Km
def bj(n lo hi:Int):Bool:=decide (lo<=n)&&decide (n<=hi)
theorem pS{n lo hi:Int}(h:bj n lo hi=ae):lo<=n/\n<=hi:=by simpa[bj]using h
theorem KF(n lo hi:Int):Kf tab ME [vi n,vi lo,vi hi] (vb (bj n lo hi)):=by
 refine cr rfl rfl λH Q b=>?_;apply ak;refine av (.inl rfl) ?_;simp;apply ak;refine av (.inl rfl) ?_;by_cases h:lo<=n
 .simp[h];refine az (b _ _ ?_);simp[bj,h]
 .simp[h];refine az (b _ _ ?_);simp[bj,h]
@[simp] theorem Y8 (n lo hi:Int):aX tab ME [vi n,vi lo,vi hi]=Eq (vb (bj n lo hi)):=(KF n lo hi).eq
theorem ur(g:Tg)(l:List Int)(v:Int)(b:l.length<=9223372036854775807) :
  Kf tab DV [.c (.f (sl g (ints l))),vi v] (vb (l.any (· == v))):=
 ik Wr (AK Wx g l v b)
structure bZ where
 cap:Int
 jK:Int
 oA:Int
 (o0 o1 o2 o3 o4 o5 o6 o7 o8 o9:FC)
 qg:Tg
 q:List (Int × Int)
 pg:Tg
 p:List Int
def fW(l:List (Int × Int)):List (List FC):=l.map λx=>[fi x.1,fi x.2]
@[simp] theorem Y5 (l:List (Int × Int)):(fW l).length=l.length:=by simp[fW]
theorem nH(l:List (Int × Int)):cA 2 (fW l):=cA.map λ_=>rfl
theorem rT{l:List (Int × Int)}{j:Nat}(b:j<l.length):(fW l)[j]?=aa [fi l[j].1,fi l[j].2]:=by simp[fW,b]
def bZ.op(r:bZ):List C:=[.f r.o0,.f r.o1,.f r.o2,.f r.o3,.f r.o4,.f r.o5,.f r.o6,.f r.o7,.f r.o8,.f r.o9]
def bZ.row(r:bZ):List FC:=[fi r.cap,fi r.jK,fi r.oA,r.o0,r.o1,r.o2,r.o3,r.o4,r.o5,r.o6,r.o7,r.o8,r.o9,sl r.qg (fW r.q),sl r.pg (ints r.p)]
def rows(l:List bZ):List (List FC):=l.map bZ.row
@[simp] theorem abt (l:List bZ):(rows l).length=l.length:=by simp[rows]
theorem dt(l:List bZ):cA 15 (rows l):=cA.map λ_=>rfl
theorem gV{l:List bZ}{j:Nat}(b:j<l.length):(rows l)[j]?=aa l[j].row:=by simp[rows,b]
def nv(r:bZ):Prop:=aX tab zR [.a r.op] (vi 0)
def kG(r:bZ):Bool:=decide (64<(r.q.length:Int))||decide (64<(r.p.length:Int))
def CB(l:List bZ)(p:Int):Nat:=((l[p.toNat]?).map (·.p.length)).getD 0
theorem GV{l:List bZ}{p:Int}(h0:0<=p)(b:p.toNat<l.length):CB l p=(l[p.toNat]).p.length:=by simp[CB,b]
def fk(b:Int):List (Int × Int)->Bool
 |[]=>ae| x::r=>bj x.1 (b+1) 63&&bj x.2 0 10080&&fk x.1 r
def jy(l:List bZ)(i b:Int):List Int->Bool
 |[]=>ae| p::r=>bj p (b+1) ((l.length:Int)-1)&&!decide (p=i)&&decide (CB l p=0)&&jy l i p r
def cG(l:List bZ)(i:Nat)(r:bZ):Bool:=
 bj r.cap 1 512&&bj r.jK 0 1440&&bj r.oA 0 1440&&fk (-1) r.q&&jy l i (-1) r.p
def eL(l:List bZ):Nat->List bZ->Bool
 |_,[]=>ae| i,r::b=>cG l i r&&eL l (i+1) b
def ft(l:List bZ):Int:=if l.any kG then 2 else if eL l 0 l then 0 else 1
theorem WK(r:bZ)(j:nv r):Kf tab Ad [.a (r.row.map .f)] (vb (kG r)):=by
 refine cr rfl rfl λH Q d=>?_;have g:=aX.eq j;simp only[bZ.op]at g;apply ak;refine av (.inl rfl) ?_;simp[bZ.row];apply ak;refine av (.inl rfl) ?_;simp;refine Gt (λh=>?_) (λh=>?_)
 .simp[h];refine Gt (λb=>?_) (λb=>?_)
  .simp[b,g];refine az (d _ _ ?_);simp[kG,h,b]
  .simp[b];refine az (d _ _ ?_);simp[kG,h,b]
 .simp[h];refine az (d _ _ ?_);simp[kG,h]
theorem Iz(g:Tg)(l:List bZ)(q:l.length<=6)(d:∀r∈l,nv r) :
  Kf tab DT [.c (.f (sl g (rows l))),.c (.f (.fn Ad []))] (vb (l.any kG)):=
 ik Wo (mW Wu l bZ.row (λr=>.a (r.row.map .f)) kG g Ad [] (by omega)
  (λj b H=>bE (dt l) (gV b)) (λr m=>WK r (d r m)))
end Go.Proofs.YtnaofdffomdmhaaGreat
namespace Go.Proofs.YtnaofdffomdmhaaGreat
open Go Km
structure fB where
 hg:Tg
 head:List Int
 fr:Int
 zq:Int
 cg:Tg
 BY:List Int
def fB.row(p:fB):List FC:=[sl p.hg (ints p.head),fi p.fr,fi p.zq,sl p.cg (ints p.BY)]
def gr(l:List fB):List (List FC):=l.map fB.row
@[simp] theorem Tt (l:List fB):(gr l).length=l.length:=by simp[gr]
theorem rU(l:List fB):cA 4 (gr l):=cA.map λ_=>rfl
theorem wF{l:List fB}{j:Nat}(b:j<l.length):(gr l)[j]?=aa l[j].row:=by simp[gr,b]
def fm(b d:Int):List Int->Bool
 |[]=>ae| n::r=>decide (d<n)&&decide (n<b)&&fm b n r
theorem A5{b d:Int}{l:List Int}{j:Nat}(g:j<l.length):fm b d (l.drop j)=(decide (d<l[j])&&decide (l[j]<b)&&fm b l[j] (l.drop (j+1))):=by
 rw[afL g];rfl
def jZ(p:fB):Bool:=decide (0<=p.fr)&&decide (p.fr<=1099511627776)&&decide (1<=p.zq)&&decide (p.zq<=1099511627776) &&
 decide ((p.head.length:Int)+p.BY.length<=1048576)&&fm p.fr (-1) p.head&&fm p.zq (-1) p.BY
theorem Kl(g:Tg)(l:List Int)(b:Int)(E:l.length<=9223372036854775807):Kf tab Ml [.c (.f (sl g (ints l))),vi b] (vb (fm b (-1) l)):=by
 refine cr rfl rfl λH Q u=>?_;apply ai;simp;apply ai;simp;apply ak;apply ai;simp;refine cD l.length (λj t H'=>t.g 1=vi b/\t.g 8=.c (.f (sl g (ints l)))/\H=H'/\∃d,t.g 5=vi d/\fm b (-1) l=fm b d (l.drop j)) E (by decide) (by decide) (by simp) (by simp) (by simp) ?_ ?_
 .rintro j t _ z ⟨q,s,rfl,d,x,m⟩ v y next
  rw[A5 z]at m;refine aI ?_;apply ai;simp[v,s,a7,z,kr];apply ak;apply ai;simp[x,q];by_cases A:l[j]<=d
  .simp[A];refine al (by simp) ?_;apply ai;simp;refine az (u _ _ ?_);simp[m,show¬ d<l[j] by omega]
  simp[A,q];by_cases B:b<=l[j]
  .simp[B];refine al (by simp) ?_;apply ai;simp;refine az (u _ _ ?_);simp[m,show¬ l[j]<b by omega]
  simp[B];refine aG (by simp) ?_;refine aS ?_;refine av (.inl rfl) ?_;simp;refine aA (next _ _ ?_ (by simp[v]) (by simp[y]));rw[decide_eq_true (by omega),decide_eq_true (by omega)]at m;exact⟨by simp[q],by simp[s],rfl,l[j],by simp,by simpa using m⟩
 .rintro t _ ⟨q,s,rfl,d,x,m⟩ v y;apply ai;simp;refine az (u _ _ ?_);simp[m,fm]
theorem zv(g:Tg)(l:List Int)(b:Int)(d:l.length<=9223372036854775807) :
  aX tab Ml [.c (.f (sl g (ints l))),vi b]=Eq (vb (fm b (-1) l)):=(Kl g l b d).eq
theorem X6(p:fB)(s:p.head.length<=9223372036854775807)(u:p.BY.length<=9223372036854775807)(h:p.head.length+p.BY.length<=9223372036854775807) :
  Kf tab Mj [.a (p.row.map .f)] (vb (jZ p)):=by
 refine cr rfl rfl λH Q b=>?_;apply ai;simp[fB.row];apply ai;simp;by_cases d:0<=p.fr
 case neg=>
  simp[d];refine az (b _ _ ?_);simp[jZ,d]
 simp[d];by_cases g:p.fr<=1099511627776
 case neg=>
  simp[g];refine az (b _ _ ?_);simp[jZ,g]
 simp[g];by_cases j:1<=p.zq
 case neg=>
  simp[j];refine az (b _ _ ?_);simp[jZ,j]
 simp[j];by_cases l:p.zq<=1099511627776
 case neg=>
  simp[l];refine az (b _ _ ?_);simp[jZ,l]
 simp[l,bg (n:=(p.head.length:Int)+p.BY.length)];by_cases m:(p.head.length:Int)+p.BY.length<=1048576
 case neg=>
  simp[m];refine az (b _ _ ?_);simp[jZ,m]
 simp[m,zv p.hg p.head p.fr s];cases q:fm p.fr (-1) p.head
 .simp;refine az (b _ _ ?_);simp[jZ,q]
 simp[zv p.cg p.BY p.zq u];refine az (b _ _ ?_);simp[jZ,d,g,j,l,m,q]
end Go.Proofs.YtnaofdffomdmhaaGreat
namespace Go.Proofs.YtnaofdffomdmhaaGreat
open Go Km
def fB.Sm(p:fB):Prop:=p.head.length+p.BY.length<=9223372036854775807
theorem OP(p:fB)(h:p.Sm):aX tab Mj [.a (p.row.map .f)]=Eq (vb (jZ p)):=by
 have h:p.head.length+p.BY.length<=9223372036854775807:=h;exact(X6 p (by omega) (by omega) h).eq
theorem GQ{p:fB}(h:jZ p=ae):p.Sm:=by
 simp[jZ]at h;show p.head.length+p.BY.length<=9223372036854775807;omega
structure dV where
 tg:Tg
 fs:List fB
def dV.row(t:dV):List FC:=[sl t.tg (gr t.fs)]
def aT(l:List dV):List (List FC):=l.map dV.row
@[simp] theorem Sv (l:List dV):(aT l).length=l.length:=by simp[aT]
theorem qp(l:List dV):cA 1 (aT l):=cA.map λ_=>rfl
theorem uf{l:List dV}{j:Nat}(b:j<l.length):(aT l)[j]?=aa l[j].row:=by simp[aT,b]
def dV.Sm(t:dV):Prop:=t.fs.length<=9223372036854775807/\∀p∈t.fs,p.Sm
def mw(t:dV):Bool:=decide (1<=(t.fs.length:Int))&&decide ((t.fs.length:Int)<=4)&&t.fs.all jZ
def oh(l:List dV):Bool:=decide ((l.length:Int)<=64)&&l.all mw
theorem M_{b:Type}{l:List b}{p:b->Bool}{j:Nat}(d:j<l.length):(l.drop j).all p=(p l[j]&&(l.drop (j+1)).all p):=by
 rw[afL d,List.all_cons]
theorem WJ(p:fB)(h:p.Sm):Kf tab MU [.a (p.row.map .f)] (vb (!jZ p)):=by
 refine cr rfl rfl λH Q d=>?_;have b:=OP p h;simp[fB.row]at b;apply ai;simp[fB.row];apply ai;simp[b];refine az (d _ _ ?_);simp
theorem Iy(g:Tg)(l:List fB)(d:l.length<=9223372036854775807)(h:∀p∈l,p.Sm) :
  aX tab DS [.c (.f (sl g (gr l))),.c (.f (.fn MU []))]=Eq (vb (l.any λp=>!jZ p)):=
 (ik M0 (mW M1 l fB.row (λr=>.a (r.row.map .f)) (λp=>!jZ p) g MU [] d
  (λj b H=>bE (rU l) (wF b)) (λp m=>WJ p (h p m)))).eq
theorem XA(g:Tg)(l:List dV)(F:l.length<=9223372036854775807)(h:∀t∈l,t.Sm):Kf tab MT [.a [.f (sl g (aT l))]] (vb (oh l)):=by
 refine cr rfl rfl λH Q u=>?_;apply ai;simp;apply ak;apply ai;simp;by_cases z:(64:Int)<l.length
 .simp[z];refine al (by simp) ?_;apply ai;simp;refine az (u _ _ ?_);simp[oh,show¬ (l.length:Int)<=64 by omega]
 simp[z];refine aG (by simp) ?_;refine aS ?_;apply ak;apply ai;simp;refine cD l.length (λj t H'=>t.g 10=.c (.f (sl g (aT l)))/\(∃J,H'=H++J)/\l.all mw=(l.drop j).all mw) F (by decide) (by decide) (by simp) (by simp) (by simp) ?_ ?_
 .rintro j t _ q ⟨d,⟨J,rfl⟩,m⟩ v x next
  rw[M_ q]at m;have y:=h l[j] (afH q);have b:=dw (H:=H++J) (k:=0) (qp l) (uf q) rfl;refine aI ?_;apply ai;simp at b;simp[v,d,a7,q,b];have bad:mw l[j]=ag->∀(t:T) (J:aj) k,WP tab MT ab (.code (.region [⟨D 2,.dr (.k (.c (.f (.bool ag)))),ab⟩] [])::.code .ret::k) ⟨t,[],H++J⟩ Q:=by
   intro E t J k;refine av (.inl rfl) ?_;simp;refine az (u _ _ ?_);simp[oh,m,E]
  apply ai;simp;by_cases A:(l[j].fs.length:Int)<1
  .simp[A];exact al (by simp) (ak (bad (by simp[mw,show¬ 1<=(l[j].fs.length:Int) by omega]) _ _ _))
  simp[A];by_cases B:(4:Int)<l[j].fs.length
  .simp[B];exact al (by simp) (ak (bad (by simp[mw,show¬ (l[j].fs.length:Int)<=4 by omega]) _ _ _))
  simp[B,Iy l[j].tg l[j].fs y.1 y.2];cases s:l[j].fs.any λp=>!jZ p
  .have:mw l[j]=ae:=by
    simp[mw]at s ⊢;exact⟨⟨by omega,by omega⟩,s⟩
   refine aG (by simp) ?_;refine aS (aA (next _ _ ?_ (by simp[v]) (by simp[x])));rw[this,agi]at m;exact⟨by simp[d],⟨_,rfl⟩,m⟩
  .exact al (by simp) (ak (bad (by simp[mw]at s ⊢;intro _ _;exact s) _ _ _))
 .rintro t _ ⟨d,⟨J,rfl⟩,m⟩ v x;apply ai;simp;refine az (u _ _ ?_);simp[oh,m,show(l.length:Int)<=64 by omega]
end Go.Proofs.YtnaofdffomdmhaaGreat
namespace Go.Proofs.YtnaofdffomdmhaaGreat
open Go Km
theorem rH(a:Int):aX tab aae [vi a]=Eq (vb ag):=(show Kf tab aae [vi a] (vb ag) by
 refine cr rfl rfl λH Q b=>?_;apply ai;simp;apply ai;simp;refine az (b _ _ ?_);simp).eq
def dk(a b:Int):Int:=if a<b then -1 else if b<a then 1 else 0
theorem Ef(a b:Int):Kf tab Z' [vi a,vi b] (vi (dk a b)):=by
 refine cr rfl rfl λH Q g=>?_;apply ai;simp;apply ai;simp[rH];apply ai;simp[rH];apply ak;apply ai;simp;refine bc (by simp) ?_;apply ak;apply ai;simp;refine bc (by simp) ?_;apply ak;apply ai;simp;by_cases h:a<b
 .refine al (by simp[h]) ?_;apply ai;simp;refine az (g _ _ ?_);simp[dk,h]
 refine bc (by simp[h]) ?_;apply ak;apply ai;simp;by_cases d:b<a
 .refine al (by simp[d]) ?_;apply ai;simp;refine az (g _ _ ?_);simp[dk,h,d]
 refine bc (by simp[d]) ?_;apply ai;simp;refine az (g _ _ ?_);simp[dk,h,d]
theorem gZ(a b:Int):aX tab Z' [vi a,vi b]=Eq (vi (dk a b)):=(Ef a b).eq
def wz:List Int->Int
 |[]=>0| a::r=>if a=0 then wz r else a
theorem OJ{l:List Int}{j:Nat}(b:j<l.length):wz (l.drop j)=if l[j]=0 then wz (l.drop (j+1))else l[j]:=by
 rw[afL b];rfl
theorem abo(g:Tg)(l:List Int)(x:l.length<=9223372036854775807):Kf tab aac [.c (.f (sl g (ints l)))] (vi (wz l)):=by
 refine cr rfl rfl λH Q s=>?_;apply ai;simp;apply ai;simp;apply ak;apply ai;simp;refine cD l.length (λj t H'=>t.g 3=vi 0/\t.g 6=.c (.f (sl g (ints l)))/\H=H'/\wz l=wz (l.drop j)) x (by decide) (by decide) (by simp) (by simp) (by simp) ?_ ?_
 .rintro j t _ v ⟨d,m,rfl,b⟩ q u next
  rw[OJ v]at b;refine aI ?_;apply ai;simp[q,m,a7,v,kr];apply ai;simp[d];by_cases h:l[j]=0
  .refine aG (by simp[h]) ?_;refine aS (aA (next _ _ ?_ (by simp[q]) (by simp[u])));rw[bu h]at b;exact⟨by simp[d],by simp[m],rfl,b⟩
  .refine al (by simp[h]) ?_;apply ai;simp;refine az (s _ _ ?_);simp[b,h]
 .rintro t _ ⟨d,m,rfl,b⟩ q u;apply ai;simp[d];refine az (s _ _ ?_);simp[b,wz]
theorem zn(g:Tg)(l:List Int)(b:l.length<=9223372036854775807):aX tab aac [.c (.f (sl g (ints l)))]=Eq (vi (wz l)):=(abo g l b).eq
theorem WY(n lo hi:Int):Kf tab SH [vi n,vi lo,vi hi] (vb (bj n lo hi)):=by
 refine cr rfl rfl λH Q b=>?_;apply ai;simp;apply ai;by_cases h:lo<=n
 .simp[h];refine az (b _ _ ?_);simp[bj,h]
 .simp[h];refine az (b _ _ ?_);simp[bj,h]
@[simp] theorem adK (n lo hi:Int):aX tab SH [vi n,vi lo,vi hi]=Eq (vb (bj n lo hi)):=(WY n lo hi).eq
structure aE where
 day:Int
 fr:Int
 to:Int
deriving DecidableEq
def aE.row(x:aE):List FC:=[fi x.day,fi x.fr,fi x.to]
def aC(l:List aE):List (List FC):=l.map aE.row
@[simp] theorem kP (l:List aE):(aC l).length=l.length:=by simp[aC]
theorem bh(l:List aE):cA 3 (aC l):=cA.map λ_=>rfl
theorem cW{l:List aE}{j:Nat}(b:j<l.length):(aC l)[j]?=aa l[j].row:=by simp[aC,b]
def eH(x y:aE):Int:=wz [dk x.fr y.fr,dk x.day y.day,dk x.to y.to]
theorem OL(x y:aE):Kf tab SI [.a (x.row.map .f),.a (y.row.map .f)] (vi (eH x y)):=by
 refine cr rfl rfl λH Q d=>?_;have b:=zn .fs [dk x.fr y.fr,dk x.day y.day,dk x.to y.to] (by simp);simp[ints,sl,Tg.fc]at b;apply ai;simp[aE.row];apply ai;simp[gZ,deep,ml,tZ,b];refine az (d _ _ ?_);simp[eH]
end Go.Proofs.YtnaofdffomdmhaaGreat
namespace Go.Proofs.YtnaofdffomdmhaaGreat
open Go Km
theorem wA(x y:aE):aX tab SI [.a (x.row.map .f),.a (y.row.map .f)]=Eq (vi (eH x y)):=(OL x y).eq
theorem Ow(g:Tg)(l:List dV)(b:l.length<=9223372036854775807)(h:∀t∈l,t.Sm):aX tab MT [.a [.f (sl g (aT l))]]=Eq (vb (oh l)):=(XA g l b h).eq
structure bK where
 mg:Tg
 ts:List dV
 min:Int
def bK.row(c:bK):List FC:=[sl c.mg (aT c.ts),fi c.min]
def aP(l:List bK):List (List FC):=l.map bK.row
@[simp] theorem xA (l:List bK):(aP l).length=l.length:=by simp[aP]
theorem cE(l:List bK):cA 2 (aP l):=cA.map λ_=>rfl
theorem dA{l:List bK}{j:Nat}(b:j<l.length):(aP l)[j]?=aa l[j].row:=by simp[aP,b]
structure aN where
 cg:Tg
 cs:List bK
 len:Int
 xg:Tg
 xs:List aE
def aN.row(s:aN):List FC:=[sl s.cg (aP s.cs),fi s.len,sl s.xg (aC s.xs)]
def aN.Sm(s:aN):Prop:=s.cs.length<=9223372036854775807/\s.xs.length<=9223372036854775807/\∀c∈s.cs,c.ts.length<=9223372036854775807/\∀t∈c.ts,t.Sm
def dj:Option Int->List bK->Bool
 |_,[]=>ae| prev,c::r=>oh c.ts&&bj c.min (-4320) 4320&&(prev.all λm=>decide (m<c.min))&&dj (aa c.min) r
def mn(x:aE):Bool:=bj x.day 0 1099511627776&&bj x.fr (-2251799813685248) 1583296743997439&&bj x.to (x.fr+1) (x.fr+10080)
def fj:Option aE->List aE->Bool
 |_,[]=>ae| prev,x::r=>mn x&&(prev.all λm=>decide (eH m x<0))&&fj (aa x) r
def da(s:aN):Bool:=decide ((s.cs.length:Int)<=64)&&bj s.len 1 10080&&decide ((s.xs.length:Int)<=4096)&&dj ab s.cs&&fj ab s.xs
theorem qd{p:Option Int}{l:List bK}{j:Nat}(b:j<l.length):dj p (l.drop j)=(oh l[j].ts&&bj l[j].min (-4320) 4320&&(p.all λm=>decide (m<l[j].min))&&dj (aa l[j].min) (l.drop (j+1))):=by
 rw[afL b];rfl
theorem tO{p:Option aE}{l:List aE}{j:Nat}(b:j<l.length):fj p (l.drop j)=(mn l[j]&&(p.all λm=>decide (eH m l[j]<0))&&fj (aa l[j]) (l.drop (j+1))):=by
 rw[afL b];rfl
theorem lI(s:aN)(h:s.Sm):Kf tab Ir [.a (s.row.map .f)] (vb (da s)):=by
 obtain⟨hc,hx,S⟩:=h;refine cr rfl rfl λH Q hQ=>?_;have bad:da s=ag->∀(t:T) (J:aj) k,WP tab Ir ab (.code (.region [⟨D 2,.dr (.k (.c (.f (.bool ag)))),ab⟩] [])::.code .ret::k) ⟨t,[],H++J⟩ Q:=by
  intro hf t J k;refine av (.inl rfl) ?_;simp;refine az (hQ _ _ ?_);simp[hf]
 apply ai;simp[aN.row];apply ak;apply ai;simp;by_cases k1:(64:Int)<s.cs.length
 .simp[k1];exact al (by simp) (ak (bad (by simp[da,show¬ (s.cs.length:Int)<=64 by omega]) _ _ _))
 simp[k1];cases k2:bj s.len 1 10080
 .simp;exact al (by simp) (ak (bad (by simp[da,k2]) _ _ _))
 simp;by_cases k3:(4096:Int)<s.xs.length
 .simp[k3];exact al (by simp) (ak (bad (by simp[da,show¬ (s.xs.length:Int)<=4096 by omega]) _ _ _))
 simp[k3];have hS:da s=(dj ab s.cs&&fj ab s.xs):=by simp[da,k2,show(s.cs.length:Int)<=64 by omega,show(s.xs.length:Int)<=4096 by omega]
 rw[hS]at bad;refine aG (by simp) ?_;refine aS ?_;apply ak;apply ai;simp;obtain⟨l,v⟩:=aD ([C.f (sl s.cg (aP s.cs)),C.f (fi s.len),C.f (sl s.xg (aC s.xs))]);rw[<-v];have a8:l.drop 0=[C.f (sl s.cg (aP s.cs)),C.f (fi s.len),C.f (sl s.xg (aC s.xs))]:=by rw[v];rfl
 have O:l.drop 2=[C.f (sl s.xg (aC s.xs))]:=by rw[v];rfl
 have M:l=C.f (sl s.cg (aP s.cs))::[C.f (fi s.len),C.f (sl s.xg (aC s.xs))]:=v;refine cD s.cs.length (λj t H'=>t.g 1=.c (.ptr H.length 0 0)/\t.g 25=.c (.f (sl s.cg (aP s.cs)))/\(∃J,H'=H++(.box l 0::J))/\
  ∃d,(∀m,j=m+1->∀h:m<s.cs.length,d=aa (s.cs[m]'h).min)/\(j=0->d=ab)/\dj ab s.cs=dj d (s.cs.drop j)) hc (by decide) (by decide) (by simp) (by simp)
   ⟨by simp,by simp,⟨[],by simp⟩,ab,by omega,by simp,by simp⟩ ?_ ?_
 .rintro j t _ F ⟨x,A,⟨J,rfl⟩,d,X,Y,u⟩ E K next
  rw[qd F]at u;have L:=bE (H:=H++(.box l 0::J)) (cE s.cs) (dA F);have z:=Ow s.cs[j].mg s.cs[j].ts (S _ (afH F)).1 (S _ (afH F)).2;refine aI ?_;apply ai;simp[E,A,a7,F,L,bK.row];apply ai;simp[z];cases U:oh s.cs[j].ts
  .simp;exact al (by simp) (ak (bad (by simp[u,U]) _ _ _))
  simp;cases N:bj s.cs[j].min (-4320) 4320
  .simp;exact al (by simp) (ak (bad (by simp[u,N]) _ _ _))
  simp;have go:(d.all λm=>decide (m<s.cs[j].min))=ae->∃g,(∀m,j+1=m+1->∀h:m<s.cs.length,g=aa (s.cs[m]'h).min)/\(j+1=0->g=ab)/\dj ab s.cs=dj g (s.cs.drop (j+1)):=by
   intro hp;rw[U,N,hp,agi,agi,agi]at u;refine⟨aa s.cs[j].min,λm z h=>?_,by omega,u⟩;have:m=j:=by omega
   subst this;rfl
  cases j with
  |zero=>
   simp;refine aG (by simp) ?_;refine aS (aA (next _ _ ?_ (by simp[E]) (by simp[K])));exact⟨by simp[x],by simp[A],⟨_,rfl⟩,go (by rw[Y rfl];rfl)⟩
  |succ m=>
   have z:m<s.cs.length:=by omega
   have y:=X m rfl z;have e1:((m+1:Nat):Int)-1=m:=by omega
   have q:=dw (H:=H++(bB.box l 0 ::(J++[bB.box [C.f (sl s.cs[m+1].mg (aT s.cs[m+1].ts)),C.f (fi s.cs[m+1].min)] 0]))) (k:=1) (cE s.cs) (dA z) rfl;rw[M]at q;simp[show 0<m+1 by omega,x,M,bg (n:=(m:Int)),a7,z,q];by_cases W:s.cs[m+1].min<=s.cs[m].min
   .simp[W];have b:=bad (by simp[u,y,show¬ s.cs[m].min<s.cs[m+1].min by omega]);refine al (by simp) ?_;exact ak (b _ _ _)
   .simp[W];refine aG (by simp) ?_;refine aS (aA (next _ _ ?_ (by simp[E]) (by simp[K])));exact⟨by simp[x],by simp[A],⟨_,by rw[M]⟩,go (by rw[y];simp;omega)⟩
 .rintro t _ ⟨x,A,⟨J,rfl⟩,d,X,Y,u⟩ E K;have hC:dj ab s.cs=ae:=by rw[u];simp[dj]
  rw[hC,agi]at bad hS;apply ak;apply ai;simp[x,O];refine cD s.xs.length (λj t H'=>t.g 1=.c (.ptr H.length 0 0)/\t.g 60=.c (.f (sl s.xg (aC s.xs)))/\(∃J,H'=H++(.box l 0::J))/\
   ∃d,(∀m,j=m+1->∀h:m<s.xs.length,d=aa (s.xs[m]'h))/\(j=0->d=ab)/\fj ab s.xs=fj d (s.xs.drop j)) hx (by decide) (by decide) (by simp) (by simp)
    ⟨by simp[x],by simp,⟨J,by simp⟩,ab,by omega,by simp,by simp⟩ ?_ ?_
  .rintro j t _ F ⟨x,B,⟨J,rfl⟩,d,X,Y,u⟩ E K next
   rw[tO F]at u;have L:=bE (H:=H++(.box l 0::J)) (bh s.xs) (cW F);refine aI ?_;apply ai;simp[E,B,a7,F,L,aE.row];have off:mn s.xs[j]=ag->∀(t:T) (J:aj) k,t.g 7=vb ag->WP tab Ir ab (.code QE::k) ⟨t,[],H++J⟩ Q:=by
    intro hf t J k g7;apply ai;simp[g7];exact al (by simp) (ak (bad (by simp[u,hf]) _ _ _))
   have go:mn s.xs[j]=ae->(d.all λm=>decide (eH m s.xs[j]<0))=ae->∃g,(∀m,j+1=m+1->∀h:m<s.xs.length,g=aa (s.xs[m]'h))/\(j+1=0->g=ab)/\fj ab s.xs=fj g (s.xs.drop (j+1)):=by
    intro Z hp;rw[Z,hp,agi,agi]at u;refine⟨aa s.xs[j],λm z h=>?_,by omega,u⟩;have:m=j:=by omega
    subst this;rfl
   apply ai;simp;cases U:bj s.xs[j].day 0 1099511627776
   .simp;exact off (by simp[mn,U]) _ _ _ (by simp)
   simp;cases N:bj s.xs[j].fr (-2251799813685248) 1583296743997439
   .simp;exact off (by simp[mn,N]) _ _ _ (by simp)
   have w5:=pS N;simp[bg (n:=s.xs[j].fr+1),bg (n:=s.xs[j].fr+10080)];cases W:bj s.xs[j].to (s.xs[j].fr+1) (s.xs[j].fr+10080)
   .exact off (by simp[mn,W]) _ _ _ (by simp)
   have Z:mn s.xs[j]=ae:=by simp[mn,U,N,W]
   apply ai;simp;cases j with
   |zero=>
    simp;refine aG (by simp) ?_;refine aS (aA (next _ _ ?_ (by simp[E]) (by simp[K])));exact⟨by simp[x],by simp[B],⟨_,rfl⟩,go Z (by rw[Y rfl];rfl)⟩
   |succ m=>
    have z:m<s.xs.length:=by omega
    have y:=X m rfl z;have e1:((m+1:Nat):Int)-1=m:=by omega
    have q:=bE (H:=H++(.box l 0 ::(J++[bB.box [C.f (fi s.xs[m+1].day),C.f (fi s.xs[m+1].fr),C.f (fi s.xs[m+1].to)] 0]))) (bh s.xs) (cW z);have I:=wA s.xs[m] s.xs[m+1];simp[aE.row]at I q;simp[show 0<m+1 by omega,x,O,bg (n:=(m:Int)),a7,z,q,I];by_cases k7:0<=eH s.xs[m] s.xs[m+1]
    .simp[k7];have b:=bad (by simp[u,y,show¬ eH s.xs[m] s.xs[m+1]<0 by omega]);refine al (by simp) ?_;exact ak (b _ _ _)
    .simp[k7];refine aG (by simp) ?_;refine aS (aA (next _ _ ?_ (by simp[E]) (by simp[K])));exact⟨by simp[x],by simp[B],⟨_,rfl⟩,go Z (by rw[y];simp;omega)⟩
  .rintro t _ ⟨x,B,⟨J,rfl⟩,d,X,Y,u⟩ E K;have hX:fj ab s.xs=ae:=by rw[u];simp[fj]
   apply ai;simp;refine az (hQ _ _ ?_);simp[hS,hX]
end Go.Proofs.YtnaofdffomdmhaaGreat
namespace Go.Proofs.YtnaofdffomdmhaaGreat
open Go Km
theorem rW{b:Int}{q:List (Int × Int)}{j:Nat}(d:j<q.length):fk b (q.drop j)=(bj q[j].1 (b+1) 63&&bj q[j].2 0 10080&&fk q[j].1 (q.drop (j+1))):=by
 rw[afL d];rfl
theorem ua{l:List bZ}{i b:Int}{p:List Int}{j:Nat}(d:j<p.length) :
  jy l i b (p.drop j)=(bj p[j] (b+1) ((l.length:Int)-1)&&!decide (p[j]=i)&&decide (CB l p[j]=0)&&jy l i p[j] (p.drop (j+1))):=by
 rw[afL d];rfl
theorem JW(g:Tg)(l:List bZ)(i:Nat)(hi:i<l.length)(hl:l.length<=6)(ho:∀r∈l,nv r)(hq:l[i].q.length<=64)(hp:l[i].p.length<=64) :
  Kf tab MD [.c (.f (sl g (rows l))),vi i] (vb (cG l i l[i])):=by
 refine cr rfl rfl λH Q m=>?_;obtain⟨r,hr⟩:=aD (l[i]);have X:=aX.eq (ho _ (afH hi));rw[<-hr]at X hq hp m;simp only[bZ.op]at X;have K:=bE (H:=H) (dt l) (gV hi);rw[<-hr]at K;apply ak;refine av (.inl rfl) ?_;simp;apply ak;refine av (.inl rfl) ?_;simp[a7,hi,K,bZ.row];apply ak;apply ak;refine av (.inl rfl) ?_;simp;cases h1:bj r.cap 1 512
 case false=>
  simp;refine al (by simp) ?_;apply ai;simp;refine az (m _ _ ?_);simp[cG,h1]
 simp;cases h2:bj r.jK 0 1440
 case false=>
  simp;refine al (by simp) ?_;apply ai;simp;refine az (m _ _ ?_);simp[cG,h2]
 simp;cases h3:bj r.oA 0 1440
 case false=>
  simp;refine al (by simp) ?_;apply ai;simp;refine az (m _ _ ?_);simp[cG,h3]
 simp[X];refine aG (by simp) ?_;refine aS ?_;apply ai;simp;apply ak;apply ak;refine av (.inl rfl) ?_;simp;obtain⟨F,q⟩:=aD ([C.f (fi r.cap),C.f (fi r.jK),C.f (fi r.oA),C.f r.o0,C.f r.o1,C.f r.o2,C.f r.o3,C.f r.o4,C.f r.o5,C.f r.o6,C.f r.o7,C.f r.o8,C.f r.o9,C.f (sl r.qg (fW r.q)),C.f (sl r.pg (ints r.p))]);rw[<-q];have M:F.drop 14=[C.f (sl r.pg (ints r.p))]:=by rw[q];rfl
 refine cD r.q.length (λj t H'=>t.g 0=.c (.f (sl g (rows l)))/\t.g 1=vi i/\t.g 5=.c (.ptr H.length 0 0)/\t.g 38=.c (.f (sl r.qg (fW r.q)))/\(∃J,H'=H++(.box F 0::J))/\
  ∃b,t.g 6=vi b/\-1<=b/\b<=63/\fk (-1) r.q=fk b (r.q.drop j)) (by omega) (by decide) (by decide) (by simp) (by simp) (by simp) ?_ ?_
 .rintro j t _ E ⟨h0,s,O,u,⟨J,rfl⟩,b,B,Y,Z,d⟩ A I next
  rw[rW E]at d;refine aI ?_;apply ai;simp[A,u,a7,E,bE (nH r.q) (rT E)];apply ak;apply ai;simp[B,bg (n:=b+1)];cases x:bj r.q[j].1 (b+1) 63
  case false=>
   simp;refine al (by simp) ?_;apply ai;simp;refine az (m _ _ ?_);simp[cG,d,x]
  simp;cases y:bj r.q[j].2 0 10080
  case false=>
   simp;refine al (by simp) ?_;apply ai;simp;refine az (m _ _ ?_);simp[cG,d,y]
  simp;refine aG (by simp) ?_;refine aS ?_;refine av (.inl rfl) ?_;simp[B];refine aA (next _ _ ?_ (by simp[A]) (by simp[I]));have hw:=pS x;simp[x,y]at d;exact⟨by simp[h0],by simp[s],by simp[O],by simp[u],⟨_,rfl⟩,r.q[j].1,by simp,by omega,by omega,d⟩
 .rintro t _ ⟨h0,s,O,u,⟨J,rfl⟩,b,B,Y,Z,d⟩ A I;have W:fk (-1) r.q=ae:=by rw[d];simp[fk]
  apply ai;simp;apply ak;apply ak;refine av (.inl rfl) ?_;simp[O,M];refine cD r.p.length (λj t H'=>t.g 0=.c (.f (sl g (rows l)))/\t.g 1=vi i/\t.g 60=.c (.f (sl r.pg (ints r.p)))/\(∃J,H'=H++J)/\
   ∃b,t.g 6=vi b/\-1<=b/\b<=6/\jy l i (-1) r.p=jy l i b (r.p.drop j)) (by omega) (by decide) (by decide) (by simp) (by simp) (by simp[h0,s]) ?_ ?_
  .rintro j t _ E ⟨h0,s,v,⟨J,rfl⟩,b,B,Y,Z,d⟩ A I next
   rw[ua E]at d;refine aI ?_;apply ai;simp[A,v,a7,E,kr];apply ak;apply ai;simp[B,h0,bg (n:=b+1),bg (n:=(l.length:Int)-1)];cases x:bj r.p[j] (b+1) ((l.length:Int)-1)
   case false=>
    simp;refine al (by simp) ?_;apply ai;simp;refine az (m _ _ ?_);simp[cG,d,x]
   have hw:=pS x;simp[s];by_cases y:r.p[j]=i
   .simp[y];refine al (by simp) ?_;apply ai;simp;refine az (m _ _ ?_);simp[cG,d,y]
   have hk:r.p[j].toNat<l.length:=by omega
   have N:=dw (H:=H++J) (k:=14) (dt l) (gV hk) rfl;simp[y,h0,a7 (g:=g) (rows:=rows l) (sz:=15) (k:=.i64) (i:=r.p[j]) (by omega) (by simp;omega),N];have L:=GV (l:=l) (p:=r.p[j]) (by omega) hk;by_cases S:CB l r.p[j]=0
   .have z:l[r.p[j].toNat].p=[]:=List.eq_nil_of_length_eq_zero (by rw[<-L];exact S);simp[z];refine aG (by simp) ?_;refine aS ?_;refine av (.inl rfl) ?_;simp;refine aA (next _ _ ?_ (by simp[A]) (by simp[I]));simp[x,y,S]at d;exact⟨by simp[h0],by simp[s],by simp[v],⟨_,rfl⟩,r.p[j],by simp,by omega,by omega,d⟩
   .have z:0<l[r.p[j].toNat].p.length:=by rw[<-L];omega
    simp[z];refine al (by simp) ?_;apply ai;simp;refine az (m _ _ ?_);simp[cG,d,S]
  .rintro t _ ⟨h0,s,v,⟨J,rfl⟩,b,B,Y,Z,d⟩ A I;have U:jy l i (-1) r.p=ae:=by rw[d];simp[jy]
   apply ai;simp;refine az (m _ _ ?_);simp[cG,h1,h2,h3,W,U]
end Go.Proofs.YtnaofdffomdmhaaGreat
namespace Go.Proofs.YtnaofdffomdmhaaGreat
open Go Km
theorem JX(g:Tg)(l:List bZ)(i:Nat)(hi:i<l.length)(b:l.length<=6)(d:∀r∈l,nv r)(m:l[i].q.length<=64)(j:l[i].p.length<=64) :
  aX tab MD [.c (.f (sl g (rows l))),vi i]=Eq (vb (cG l i l[i])):=(JW g l i hi b d m j).eq
theorem IA(g:Tg)(l:List bZ)(b:l.length<=6)(d:∀r∈l,nv r) :
  aX tab DT [.c (.f (sl g (rows l))),.c (.f (.fn Ad []))]=Eq (vb (l.any kG)):=(Iz g l b d).eq
theorem oB{l:List bZ}{j:Nat}(b:j<l.length):eL l j (l.drop j)=(cG l j l[j]&&eL l (j+1) (l.drop (j+1))):=by
 rw[afL b];rfl
theorem P2(g:Tg)(l:List bZ)(y:l.length<=6)(z:∀r∈l,nv r):Kf tab MB [.c (.f (sl g (rows l)))] (vi (ft l)):=by
 refine cr rfl rfl λH Q s=>?_;apply ai;simp;apply ai;simp;apply ak;apply ai;have d:¬ (256:Int)<l.length:=by omega
 simp[d,IA g l y z];cases q:l.any kG
 case true=>
  refine al (by simp) ?_;apply ai;simp;refine az (s _ _ ?_);simp[ft,q]
 refine aG (by simp) ?_;refine aS ?_;apply ak;apply ai;simp;refine cD l.length (λj t H'=>t.g 0=.c (.f (sl g (rows l)))/\(∃J,H'=H++J)/\eL l 0 l=eL l j (l.drop j)) (by omega) (by decide) (by decide) (by simp) (by simp) (by simp) ?_ ?_
 .rintro j t _ v ⟨h0,⟨J,rfl⟩,b⟩ u m next
  rw[oB v]at b;have x:kG l[j]=ag:=by
   have:=agW.1 q l[j] (afH v);simpa using this
  simp only[kG,Bool.or_eq_false_iff,decide_eq_false_iff_not]at x;refine aI ?_;apply ai;simp[u];apply ai;simp[h0,JX g l j v y z (by omega) (by omega)];cases A:cG l j l[j]
  .refine al (by simp) ?_;apply ai;simp;refine az (s _ _ ?_);simp[ft,q,b,A]
  .refine aG (by simp) ?_;refine aS (aA (next _ _ ?_ (by simp[u]) (by simp[m])));simp[A]at b;exact⟨by simp[h0],⟨_,rfl⟩,b⟩
 .rintro t _ ⟨h0,⟨J,rfl⟩,b⟩ u m;apply ai;simp;refine az (s _ _ ?_);simp[ft,q,b,eL]
theorem P3(g:Tg)(l:List bZ)(b:l.length<=6)(d:∀r∈l,nv r):aX tab MB [.c (.f (sl g (rows l)))]=Eq (vi (ft l)):=(P2 g l b d).eq
end Go.Proofs.YtnaofdffomdmhaaGreat
namespace Go.Proofs.YtnaofdffomdmhaaGreat
open Go Km
theorem km(g:Tg)(l:List Int)(v:Int)(b:l.length<=9223372036854775807) :
  aX tab DV [.c (.f (sl g (ints l))),vi v]=Eq (vb (l.any (· == v))):=(ur g l v b).eq
theorem IL(g:Tg)(q:List Int)(x:Int)(d:q.length<=9223372036854775807):Kf tab DK [vi x,.c (.f (.fp [sl g (ints q)] 0))] (vb (q.any (· == x))):=by
 refine cr rfl rfl λH Q b=>?_;apply ai;simp;apply ai;simp[tU,km g q x d];refine az (b _ _ ?_);simp
theorem Am(g g':Tg)(p q:List Int)(d:p.length<=9223372036854775807)(l:q.length<=9223372036854775807) :
  aX tab MI [.c (.f (sl g (ints p))),.c (.f (.fn DK [.fp [sl g' (ints q)] 0]))]=Eq (vb (p.any λx=>q.any (· == x))):=
 (ik Wq (mW Ww p (λn=>[fi n]) vi (λx=>q.any (· == x)) g DK [.fp [sl g' (ints q)] 0] d
  (λj b H=>by have:=kr (H:=H) b;simpa[ints]using this) (λx _=>by have:=IL g' q x l;simpa using this))).eq
def gu(a b:Nat)(ra d:bZ):Bool:=decide (a=b)||ra.p.any (· ==(b:Int))||d.p.any (· ==(a:Int))||ra.p.any λx=>d.p.any (· == x)
theorem Ks(g:Tg)(l:List bZ)(a b:Nat)(s:a<l.length)(u:b<l.length)(y:l[a].p.length<=64)(z:l[b].p.length<=64) :
  Kf tab DJ [.c (.f (sl g (rows l))),vi a,vi b] (vb (gu a b l[a] l[b])):=by
 refine cr rfl rfl λH Q j=>?_;have v:=dw (H:=H) (k:=14) (dt l) (gV s) rfl;have x:=dw (H:=H) (k:=14) (dt l) (gV u) rfl;apply ai;simp;apply ai;simp[a7,s,u,v,x];apply ai;simp;by_cases d:a=b
 .simp[d];refine az (j _ _ ?_);simp[gu,d]
 simp[d,km _ l[a].p _ (by omega)];cases m:l[a].p.any (· ==(b:Int))
 case true=>
  simp;refine az (j _ _ ?_);simp[gu,m]
 simp[km _ l[b].p _ (by omega)];cases q:l[b].p.any (· ==(a:Int))
 case true=>
  simp;refine az (j _ _ ?_);simp[gu,q]
 simp[deep,Oy,EX,Am l[a].pg l[b].pg l[a].p l[b].p (by omega) (by omega)];refine az (j _ _ ?_);simp[gu,d,m,q]
end Go.Proofs.YtnaofdffomdmhaaGreat
namespace Go.Proofs.YtnaofdffomdmhaaGreat
open Go Km
theorem zG(s:aN)(h:s.Sm):aX tab Ir [.a (s.row.map .f)]=Eq (vb (da s)):=(lI s h).eq
structure aB where
 meet:Int
 room:Int
 dg:Int
 size:Int
 st:aN
def aB.row(s:aB):List FC:=[fi s.meet,fi s.room,fi s.dg,fi s.size,sl s.st.cg (aP s.st.cs),fi s.st.len,sl s.st.xg (aC s.st.xs)]
def an(l:List aB):List (List FC):=l.map aB.row
@[simp] theorem Qh (l:List aB):(an l).length=l.length:=by simp[an]
theorem aR(l:List aB):cA 7 (an l):=cA.map λ_=>rfl
theorem bD{l:List aB}{j:Nat}(b:j<l.length):(an l)[j]?=aa l[j].row:=by simp[an,b]
def oF(x y:aB):Int:=wz [dk x.meet y.meet,dk x.room y.room]
def ie(n:Nat)(s:aB):Bool:=decide (1<=s.meet)&&bj s.room 0 ((n:Int)-1)&&bj s.dg 0 63&&bj s.size 1 512&&da s.st
def gw(n:Nat):Option aB->List aB->Bool
 |_,[]=>ae| prev,s::r=>ie n s&&(prev.all λm=>decide (oF m s<0))&&gw n (aa s) r
theorem Bd{n:Nat}{p:Option aB}{l:List aB}{j:Nat}(b:j<l.length):gw n p (l.drop j)=(ie n l[j]&&(p.all λm=>decide (oF m l[j]<0))&&gw n (aa l[j]) (l.drop (j+1))):=by
 rw[afL b];rfl
def qh(b:List bZ)(l:List aB):Bool:=decide (ft b=0)&&decide ((l.length:Int)<=4096)&&gw b.length ab l
theorem F_(x y:aB):Kf tab qA [.a (x.row.map .f),.a (y.row.map .f)] (vi (oF x y)):=by
 refine cr rfl rfl λH Q d=>?_;have b:=zn .fs [dk x.meet y.meet,dk x.room y.room] (by simp);simp[ints,sl,Tg.fc]at b;apply ai;simp[aB.row];apply ai;simp[gZ,deep,ml,tZ,b];refine az (d _ _ ?_);simp[oF]
theorem QW(x y:aB):aX tab qA [.a (x.row.map .f),.a (y.row.map .f)]=Eq (vi (oF x y)):=(F_ x y).eq
theorem C1(g:Tg)(d:List bZ)(s:aB)(v:d.length<=6)(h:s.st.Sm):Kf tab DL [.c (.f (sl g (rows d))),.a (s.row.map .f)] (vb (ie d.length s)):=by
 refine cr rfl rfl λH Q b=>?_;have l:=zG s.st h;simp[aN.row]at l;apply ai;simp[aB.row];apply ai;simp;by_cases j:1<=s.meet
 case neg=>
  simp[j];refine az (b _ _ ?_);simp[ie,j]
 simp[j,bg (n:=(d.length:Int)-1)];cases m:bj s.room 0 ((d.length:Int)-1)
 .simp;refine az (b _ _ ?_);simp[ie,m]
 simp;cases q:bj s.dg 0 63
 .simp;refine az (b _ _ ?_);simp[ie,q]
 simp;cases u:bj s.size 1 512
 .simp;refine az (b _ _ ?_);simp[ie,u]
 simp[l];refine az (b _ _ ?_);simp[ie,j,m,q,u]
theorem PL(g:Tg)(b:List bZ)(s:aB)(d:b.length<=6)(h:s.st.Sm):aX tab DL [.c (.f (sl g (rows b))),.a (s.row.map .f)]=Eq (vb (ie b.length s)):=(C1 g b s d h).eq
theorem RE(g g':Tg)(q:List bZ)(l:List aB)(U:q.length<=6)(ho:∀r∈q,nv r)(hl:l.length<=9223372036854775807)(h:∀s∈l,s.st.Sm) :
  Kf tab DG [.c (.f (sl g (rows q))),.c (.f (sl g' (an l)))] (vb (qh q l)):=by
 refine cr rfl rfl λH Q O=>?_;have bad:qh q l=ag->∀(t:T) (J:aj) k,WP tab DG ab (.code (.region [⟨D 4,.dr (.k (.c (.f (.bool ag)))),ab⟩] [])::.code .ret::k) ⟨t,[],H++J⟩ Q:=by
  intro hf t J k;refine av (.inl rfl) ?_;simp;refine az (O _ _ ?_);simp[hf]
 apply ai;simp;apply ak;apply ai;simp[P3 g q U ho];by_cases L:ft q=0
 case neg=>
  simp[L];have b:=λt k=>bad (by simp[qh,L]) t [] k;simp only[agp]at b;refine al (by simp) ?_;exact ak (b _ _)
 simp[L];by_cases W:(4096:Int)<l.length
 .simp[W];have b:=λt k=>bad (by simp[qh,show¬ (l.length:Int)<=4096 by omega]) t [] k;simp only[agp]at b;refine al (by simp) ?_;exact ak (b _ _)
 simp[W];have S:qh q l=gw q.length ab l:=by simp[qh,L,show(l.length:Int)<=4096 by omega]
 rw[S]at bad;refine aG (by simp) ?_;refine aS ?_;apply ak;apply ai;simp;refine cD l.length (λj t H'=>t.g 0=.c (.f (sl g (rows q)))/\t.g 1=.c (.f (sl g' (an l)))/\t.g 15=.c (.f (sl g' (an l)))/\(∃J,H'=H++J)/\
  ∃d,(∀m,j=m+1->∀h:m<l.length,d=aa (l[m]'h))/\(j=0->d=ab)/\gw q.length ab l=gw q.length d (l.drop j)) hl (by decide) (by decide) (by simp) (by simp)
   ⟨by simp,by simp,by simp,⟨[],by simp⟩,ab,by omega,by simp,by simp⟩ ?_ ?_
 .rintro j t _ I ⟨g0,E,v,⟨J,rfl⟩,d,Z,l2,z⟩ F M next
  rw[Bd I]at z;have N:=bE (H:=H++J) (aR l) (bD I);have B:=PL g q l[j] U (h _ (afH I));simp[aB.row]at B;refine aI ?_;apply ai;simp[F,v,a7,I,N,aB.row];apply ai;simp[g0,B];cases X:ie q.length l[j]
  .simp;exact al (by simp) (ak (bad (by simp[z,X]) _ _ _))
  simp;have go:(d.all λm=>decide (oF m l[j]<0))=ae->∃u,(∀m,j+1=m+1->∀h:m<l.length,u=aa (l[m]'h))/\(j+1=0->u=ab)/\gw q.length ab l=gw q.length u (l.drop (j+1)):=by
   intro hp;rw[X,hp,agi,agi]at z;refine⟨aa l[j],λm K h=>?_,by omega,z⟩;have:m=j:=by omega
   subst this;rfl
  cases j with
  |zero=>
   simp;refine aG (by simp) ?_;refine aS (aA (next _ _ ?_ (by simp[F]) (by simp[M])));exact⟨by simp[g0],by simp[E],by simp[v],⟨_,rfl⟩,go (by rw[l2 rfl];rfl)⟩
  |succ m=>
   have K:m<l.length:=by omega
   have A:=Z m rfl K;have e1:((m+1:Nat):Int)-1=m:=by omega
   have y:=λH:aj=>bE (H:=H) (aR l) (bD K);have x:=QW l[m] l[m+1];simp[aB.row]at x y;simp[show 0<m+1 by omega,E,bg (n:=(m:Int)),a7,K,y,x];by_cases Y:0<=oF l[m] l[m+1]
   .simp[Y];have b:=bad (by simp[z,A,show¬ oF l[m] l[m+1]<0 by omega]);refine al (by simp) ?_;exact ak (b _ _ _)
   .simp[Y];refine aG (by simp) ?_;refine aS (aA (next _ _ ?_ (by simp[F]) (by simp[M])));exact⟨by simp[g0],by simp[E],by simp[v],⟨_,rfl⟩,go (by rw[A];simp;omega)⟩
 .rintro t _ ⟨g0,E,v,⟨J,rfl⟩,d,Z,l2,z⟩ F M;have hX:gw q.length ab l=ae:=by rw[z];simp[gw]
  apply ai;simp;refine az (O _ _ ?_);simp[S,hX]
end Go.Proofs.YtnaofdffomdmhaaGreat
namespace Go.Proofs.YtnaofdffomdmhaaGreat
open Go Km
structure bC where
 id:Int
 dl:Int
 state:Int
 aW:aB
def bC.row(h:bC):List FC:=[fi h.id,fi h.dl,fi h.state,fi h.aW.meet,fi h.aW.room,fi h.aW.dg,fi h.aW.size,sl h.aW.st.cg (aP h.aW.st.cs),fi h.aW.st.len,sl h.aW.st.xg (aC h.aW.st.xs)]
def aL(l:List bC):List (List FC):=l.map bC.row
@[simp] theorem Rk (l:List bC):(aL l).length=l.length:=by simp[aL]
theorem aY(l:List bC):cA 10 (aL l):=cA.map λ_=>rfl
theorem cJ{l:List bC}{j:Nat}(b:j<l.length):(aL l)[j]?=aa l[j].row:=by simp[aL,b]
structure bR where
 clock:Int
 ba:Int
 lg:Tg
 l:List bC
def bR.row(h:bR):List FC:=[fi h.clock,fi h.ba,sl h.lg (aL h.l)]
theorem oX{n b:Nat}(g:n<=1100000)(d:b<=4096):bU n b=ae:=by
 have h:(2*n+768)*b<=2200768*4096:=Nat.mul_le_mul (by omega) d;simp[bU];omega
def Fix(s:aB):Prop:=aX tab Z_ [.a (s.row.map .f)]=Eq (.a (s.row.map .f))
end Go.Proofs.YtnaofdffomdmhaaGreat
namespace Go.Proofs.YtnaofdffomdmhaaGreat
open Go Km
def E7(x y:List FC):Int:=match x,y with
 | .int _ a::.int _ b::_,.int _ c::.int _ d::_=>wz [dk a c,dk b d]| _,_=>0
def Gy(x:List FC):Prop:=∃s:aB,x=s.row
theorem Jr(x y:aB):Kf tab yz [.a (x.row.map .f),.a (y.row.map .f)] (vi (E7 x.row y.row)):=by
 refine cr rfl rfl λH Q d=>?_;have b:=zn .fs [dk x.meet y.meet,dk x.room y.room] (by simp);simp[ints,sl,Tg.fc]at b;apply ai;simp[aB.row];apply ai;simp[gZ,deep,ml,tZ,b];refine az (d _ _ ?_);simp[E7,aB.row]
theorem Ny:Cv tab (.c (.f (.fn yz []))) Gy E7:=by
 rintro _ _ ⟨x,rfl⟩ ⟨y,rfl⟩ H;obtain⟨J,b⟩:=Jr x y H;exact⟨_,_,J,by simp,b⟩
theorem F'{a b:Int}:dk a b<0↔a<b:=by unfold dk;split<;>(try split)<;>omega
theorem AZ(x y:aB):E7 x.row y.row<0↔x.meet<y.meet\/x.meet=y.meet/\x.room<y.room:=by
 simp only[E7,aB.row,wz,dk];split<;>split<;>(try split)<;>(try split)<;>(try split)<;>omega
theorem IK:Vo Gy E7:=by
 constructor
 .rintro _ _ ⟨x,rfl⟩ ⟨y,rfl⟩ h b;rw[AZ]at h b;omega
 .rintro _ _ _ ⟨x,rfl⟩ ⟨y,rfl⟩ ⟨z,rfl⟩ h b d;rw[AZ]at h b d;omega
theorem Xt(x:aB):Kf tab FU [.a (x.row.map .f)] (.a [.f (fi x.meet),.f (fi x.room)]):=by
 refine cr rfl rfl λH Q b=>?_;apply ai;simp[aB.row];apply ai;simp;refine az (b _ _ ?_);simp
theorem N8(x:aB):aX tab FU [.a (x.row.map .f)]=Eq (.a [.f (fi x.meet),.f (fi x.room)]):=(Kf.A3 (xs:=[fi x.meet,fi x.room]) (Xt x)).eq
def jw(n:Int):Bool:=decide (0<=n)&&decide (n<=2251799813685248)
theorem XC(n:Int):Kf tab SP [vi n] (vb (jw n)):=by
 refine cr rfl rfl λH Q b=>?_;apply ai;simp;apply ai;by_cases h:0<=n
 .simp[h];refine az (b _ _ ?_);simp[jw,h]
 .simp[h];refine az (b _ _ ?_);simp[jw,h]
theorem wh(n:Int):aX tab SP [vi n]=Eq (vb (jw n)):=(XC n).eq
end Go.Proofs.YtnaofdffomdmhaaGreat
namespace Go.Proofs.YtnaofdffomdmhaaGreat
open Go Km
def eF(b d:Int)(x:bC):Bool:=decide (d<x.id)&&decide (1<=x.state)&&decide (x.state<=4)&&jw x.dl&&!(decide (x.state=1)&&decide (x.dl<b))
def gG(b:Int):Int->List bC->Bool
 |_,[]=>ae| last,x::r=>eF b last x&&gG b x.id r
theorem tS{b d:Int}{l:List bC}{j:Nat}(g:j<l.length):gG b d (l.drop j)=(eF b d l[j]&&gG b l[j].id (l.drop (j+1))):=by
 rw[afL g];rfl
def cK(h:bR):Bool:=jw h.clock&&jw h.ba&&gG h.clock 0 h.l
theorem tf(h:bR)(Y:h.l.length<=30):aX tab SM [.a (h.row.map .f)]=Eq (vb (cK h)):=aX.eq (by
 refine bH rfl rfl λQ S=>?_;have bad:cK h=ag->∀(t:T) (J:aj) k,WP tab SM ab (.code (.seq (.region [⟨D 2,.dr (.k (.c (.f (.bool ag)))),ab⟩] []) .ret)::k) ⟨t,[],J⟩ Q:=by
  intro X t J k;apply ai;simp;refine az (S _ _ ?_);simp[X]
 apply ai;simp[bR.row];apply ak;apply ai;simp[wh];cases U:jw h.clock
 .simp;exact al (by simp) (bad (by simp[cK,U]) _ _ _)
 simp[wh];cases W:jw h.ba
 .simp;exact al (by simp) (bad (by simp[cK,W]) _ _ _)
 simp[show¬ (4096:Int)<h.l.length by omega];refine bc (by simp) ?_;apply ai;simp;apply ak;apply ai;simp;refine cD h.l.length (λj t H=>t.g 1=.c (.ptr 0 0 0)/\t.g 23=.c (.f (sl h.lg (aL h.l)))/\H[0]?=aa (.box [.f (fi h.clock),.f (fi h.ba),.f (sl h.lg (aL h.l))] 0)/\∃b,t.g 3=vi b/\gG h.clock 0 h.l=gG h.clock b (h.l.drop j)) (by omega) (by decide) (by decide) (by simp) (by simp) ⟨by simp,by simp,rfl,0,by simp,by simp⟩ ?_ ?_
 .rintro j t H E ⟨u,d,h0,b,O,l⟩ y B next
  rw[tS E]at l;have q:=λH:aj=>bE (H:=H) (aY h.l) (cJ E);simp only[bC.row]at q;obtain⟨x,F⟩:=aD (h.l[j]);rw[<-F]at l q;have v:eF h.clock b x=ag->cK h=ag:=λe=>by simp[cK,l,e]
  refine aI ?_;apply ai;simp[y,d,a7,E,q];obtain⟨N,m⟩:=aD (H++[.box [.f (fi x.id),.f (fi x.dl),.f (fi x.state),.f (fi x.aW.meet),.f (fi x.aW.room),.f (fi x.aW.dg),.f (fi x.aW.size),.f (sl x.aW.st.cg (aP x.aW.st.cs)),.f (fi x.aW.st.len),.f (sl x.aW.st.xg (aC x.aW.st.xs))] 0]:aj);have A:N[0]?=aa (.box [.f (fi h.clock),.f (fi h.ba),.f (sl h.lg (aL h.l))] 0):=by rw[m,afy (au h0)];exact h0
  have g:N[H.length]?=aa (.box [.f (fi x.id),.f (fi x.dl),.f (fi x.state),.f (fi x.aW.meet),.f (fi x.aW.room),.f (fi x.aW.dg),.f (fi x.aW.size),.f (sl x.aW.st.cg (aP x.aW.st.cs)),.f (fi x.aW.st.len),.f (sl x.aW.st.xg (aC x.aW.st.xs))] 0):=by rw[m];simp
  rw[<-m];apply ak;refine aI ?_;apply ak;apply ai;simp[O,g];by_cases I:x.id<=b
  .refine al (by simp[I]) (aS ?_);refine al (by simp[I]) ?_;exact bad (v (by simp[eF,show¬ b<x.id by omega])) _ _ _
  refine aG (by simp[I]) ?_;apply ai;simp[g];by_cases K:x.state<1
  .refine al (by simp[K]) (aS ?_);refine al (by simp[K]) ?_;exact bad (v (by simp[eF,show¬ 1<=x.state by omega])) _ _ _
  refine aG (by simp[K]) ?_;apply ai;simp[g];by_cases L:4<x.state
  .refine al (by simp[L]) (aS ?_);refine al (by simp[L]) ?_;exact bad (v (by simp[eF,show¬ x.state<=4 by omega])) _ _ _
  refine aG (by simp[L]) ?_;refine av (.inl rfl) ?_;simp[g,wh];cases M:jw x.dl
  .refine al (by simp) ?_;exact bad (v (by simp[eF,M])) _ _ _
  refine aG (by simp) ?_;apply ai;simp[g];by_cases s:x.state=1
  .by_cases z:x.dl<h.clock
   .simp[s,z,u,A,g];refine al (by simp) ?_;exact bad (v (by simp[eF,s,z])) _ _ _
   .simp[s,z,u,A,g];refine aG (by simp) (aS (aA ?_));refine av (.inl rfl) ?_;simp[g];refine aA (next _ _ ⟨by simp[u],by simp[d],A,x.id,by simp,?_⟩ (by simp[y]) (by simp[B]));rw[l,show eF h.clock b x=ae by simp[eF,s,z,M];omega];simp[F]
  .simp[s];refine aG (by simp) (aS (aA ?_));refine av (.inl rfl) ?_;simp[g];refine aA (next _ _ ⟨by simp[u],by simp[d],A,x.id,by simp,?_⟩ (by simp[y]) (by simp[B]));rw[l,show eF h.clock b x=ae by simp[eF,s,M];omega];simp[F]
 .rintro t H ⟨u,d,h0,b,O,l⟩ y B;apply ai;simp;refine az (S _ _ ?_);simp[cK,U,W,l,gG])
end Go.Proofs.YtnaofdffomdmhaaGreat
namespace Go.Proofs.YtnaofdffomdmhaaGreat
open Go Km
theorem B7(x:bC)(id:Int):Kf tab MP [.a (x.row.map .f),vi id] (vi (dk x.id id)):=by
 refine cr rfl rfl λH Q b=>?_;apply ai;simp[bC.row];apply ai;simp[gZ];refine az (b _ _ ?_);simp
theorem pF{b:Int}:∀{last:Int} {l:List bC},gG b last l=ae->(∀x∈l,last<x.id)/\l.Pairwise (λx y=>x.id<y.id)
 |_,[],_=>⟨by simp,.nil⟩
 |last,x::r,h=>by
  simp only[gG,afE]at h;obtain⟨g,j⟩:=pF h.2;have m:last<x.id:=by have:=h.1;simp[eF]at this;omega
  refine⟨λy d=>?_,.cons (λy d=>g y d) j⟩;rcases afZ.1 d with rfl|d
  .exact m
  .have:=g y d;omega
theorem IJ{a b:Int}:dk a b=0↔a=b:=by unfold dk;split<;>(try split)<;>omega
def Dl(l:List bC)(i:Nat)(id:Int):Bool:=match l[i]? with|some x=>decide (x.id=id)|none=>ag
theorem Gq(h:bR)(hl:h.l.length<=30)(U:cK h=ae)(id:Int):∃i:Nat,i<=h.l.length/\(∀j (b:j<h.l.length),j<i->h.l[j].id<id)/\(∀j (b:j<h.l.length),i<=j->id<=h.l[j].id)/\
  aX tab aaa [.a (h.row.map .f),vi id]=Eq (.t [vi i,vb (Dl h.l i id)]):=by
 have S:h.l.Pairwise (λx y=>x.id<y.id):=by simp[cK]at U;exact(pF U.2).2
 have E:∀i j (hi:i<j) (b:j<h.l.length),h.l[i].id<h.l[j].id:=λi j hi b=>ags.1 S i j (by omega) b hi;obtain⟨r,⟨i,W,X,Y,rfl⟩,O⟩:∃r,(∃i:Nat,i<=h.l.length/\(∀j (b:j<h.l.length),j<i->h.l[j].id<id)/\(∀j (b:j<h.l.length),i<=j->id<=h.l[j].id)/\r=.t [vi i,vb (Dl h.l i id)])/\
   aX tab V6 [.c (.f (sl h.lg (aL h.l))),vi id,.c (.f (.fn MP []))] r:=by
  refine cN rfl rfl λQ J=>?_;have F:=λ(H:aj) (j:Nat) (b:j<h.l.length)=>bE (H:=H) (aY h.l) (cJ b);apply ai;simp;apply ai;simp;apply ai;simp;apply ak;refine aI ?_;refine dx (λm s=>∃(lo hi:Nat) (t:T) (H:aj),s=⟨t,[],H⟩/\lo+m=hi/\hi<=h.l.length/\t.g 0=.c (.f (sl h.lg (aL h.l)))/\t.g 1=vi id/\t.g 2=.c (.f (.fn MP []))/\t.g 8=vi h.l.length/\t.g 9=vi lo/\t.g 10=vi hi/\
   (∀j (b:j<h.l.length),j<lo->h.l[j].id<id)/\(∀j (b:j<h.l.length),hi<=j->id<=h.l[j].id)) h.l.length
   ⟨0,h.l.length,_,_,rfl,by omega,by omega,by simp,by simp,by simp,by simp,by simp,by simp,by simp,by intros;omega⟩ ?_
  rintro m s ⟨lo,hi,t,H,rfl,hm,Z,g0,z,A,I,B,g,u,l⟩ next
  apply ak;apply ai;simp[B,g];by_cases N:lo<hi
  .refine al (by simp[N]) (aS ?_);obtain⟨q,hq⟩:=aD ((lo+hi) / 2);have v:q<h.l.length:=by omega
   have L:=(B7 h.l[q] id).ev H;refine aI ?_;apply ai;simp[B,g,bg (n:=(lo:Int)+hi),Jp (lo:=lo) (hi:=hi) (by omega),NU (lo:=lo) (hi:=hi) (by omega) hq,bg (n:=(q:Int))];apply ai;simp[g0,z,A,a7,v,F _ q v,L];by_cases K:h.l[q].id<id
   .refine al (by simp[F',K]) (av (.inl rfl) ?_);simp[bg (n:=(q:Int)+1)];refine aA (next (hi-(q+1)) _ (by omega) ⟨q+1,hi,_,_,rfl,by omega,by omega,by simp[g0],by simp[z],by simp[A],by simp[I],by simp,by simp[g],λj b M=>?_,l⟩);by_cases e:j=q
    .subst e;exact K
    .have:=E j q (by omega) v;omega
   .refine aG (by simp[F',K]) (av (.inl rfl) ?_);simp;refine aA (next (q-lo) _ (by omega) ⟨lo,q,_,_,rfl,by omega,by omega,by simp[g0],by simp[z],by simp[A],by simp[I],by simp[B],by simp,u,λj b M=>?_⟩);by_cases e:q=j
    .subst e;omega
    .have:=E q j (by omega) b;omega
  obtain rfl:lo=hi:=by omega
  refine aG (by simp) ?_;refine bT (k':=[.code Ie]) rfl ?_;apply ai;by_cases d:lo<h.l.length
  .have L:=(B7 h.l[lo] id).ev H;simp[g0,z,A,I,B,d,a7,F _ lo d,L];refine az (J _ _ (.t [vi lo,vb (Dl h.l lo id)]) ⟨lo,by omega,u,l,rfl⟩ ?_);simp[IJ,d,Dl]
  .simp[g0,z,A,I,B,d];refine az (J _ _ (.t [vi lo,vb (Dl h.l lo id)]) ⟨lo,by omega,u,l,rfl⟩ ?_);simp[d,Dl]
 refine⟨i,W,X,Y,aX.eq ?_⟩;have O:=O.eq;refine bH rfl rfl λQ J=>?_;apply ai;simp[bR.row];apply ai;simp[O];refine az (J _ _ ?_);simp
end Go.Proofs.YtnaofdffomdmhaaGreat
namespace Go.Proofs.YtnaofdffomdmhaaGreat
open Go Km
theorem kJ(l:List bC)(j:Nat)(x:bC):(aL l).set j x.row=aL (l.set j x):=by simp[aL,List.map_set]
theorem yJ(h:bR)(hl:h.l.length<=30)(hs:∀x∈h.l,Fix x.aW)(H:aj):∃r H',Ev tab (.fn SO) [.a (h.row.map .f)] H r H'/\
  ∃c,r=.a [.f (fi h.clock),.f (fi h.ba),c]/\Kp H H'/\LR H' c 10 (aL h.l)/\∀i,bt c=aa i->H.length<=i:=by
 refine dm rfl rfl λQ hQ=>?_;apply ai;simp[bR.row];obtain⟨u,m⟩:=aD (H++[.box [.f (fi h.clock),.f (fi h.ba),.f (sl h.lg (aL h.l))] 0,.box [.f (fi 0),.f (fi 0),.f .aK] 0]:aj);have z0:u[H.length]?=aa (.box [.f (fi h.clock),.f (fi h.ba),.f (sl h.lg (aL h.l))] 0):=by rw[m];simp
 have z1:u[H.length+1]?=aa (.box [.f (fi 0),.f (fi 0),.f .aK] 0):=by rw[m];simp
 have zl:u.length=H.length+2:=by rw[m];simp
 have zk:Kp H u:=by rw[m];exact Kp.push _ _
 rw[<-m];obtain⟨r,H1,E,c,Y,rfl,rfl,y,o⟩:=vA (F:=MG) (sz:=10) (zs:=[fi 0,fi 0,fi 0,fi 0,fi 0,fi 0,fi 0,.aK,fi 0,.aK]) (bytes:=112) (H:=u) (g:=h.lg) (rows:=aL h.l) Wk (by decide) (aY _) (oX (by simp;omega) (by decide));have E:=E.eq;have a0:(u++Y)[H.length]?=aa (.box [.f (fi h.clock),.f (fi h.ba),.f (sl h.lg (aL h.l))] 0):=by rw[afy (by omega)];exact z0
 have a1:(u++Y)[H.length+1]?=aa (.box [.f (fi 0),.f (fi 0),.f .aK] 0):=by rw[afy (by omega)];exact z1
 apply ai;simp[z0,E,a0];obtain⟨W,q⟩:=aD ((u++Y).set H.length (.box [.f (fi h.clock),.f (fi h.ba),c] 0):aj);have b0:W[H.length]?=aa (.box [.f (fi h.clock),.f (fi h.ba),c] 0):=by rw[q];exact afC (by simp;omega)
 have b1:W[H.length+1]?=aa (.box [.f (fi 0),.f (fi 0),.f .aK] 0):=by rw[q,ae2 (by omega)];exact a1
 have s:∀i,bt c=aa i->H.length+2<=i:=λi e=>by have:=o i e;omega
 have O:LR W c 10 (aL h.l):=by rw[q];exact y.set (λe=>by have:=s _ e;omega) _
 have k2:Kp H W:=by
  rw[q];exact⟨by simp;omega,λZ l=>by rw[ae2 (by omega),afy (by omega)];exact zk.2 Z l⟩
 rw[<-q];have a:∀(t:T) (b:aj),t.g 1=.c (.ptr H.length 0 0)->t.g 2=.c (.ptr (H.length+1) 0 0)->b[H.length]?=aa (.box [.f (fi h.clock),.f (fi h.ba),c] 0)->b[H.length+1]?=aa (.box [.f (fi 0),.f (fi 0),.f .aK] 0)->Kp H b->LR b c 10 (aL h.l)->
   WP tab SO ab [.code L7] ⟨t,[],b⟩ Q:=by
  intro t b I J h0 K L y;apply ai;simp[I,J,h0,K];refine az (hQ _ _ (.a [.f (fi h.clock),.f (fi h.ba),c]) rfl ?_ ⟨c,rfl,?_,y.set (λe=>by have:=s _ e;omega) _,λi e=>by have:=s i e;omega⟩)
  .simp[Km.results,aZ,J,au K]
  .exact⟨by simpa using L.1,λZ l=>by rw[ae2 (by omega)];exact L.2 Z l⟩
 apply ak;apply ai;have v:=O.len;simp at v;simp[b0,v];refine cD h.l.length (λj t b=>t.g 1=.c (.ptr H.length 0 0)/\t.g 2=.c (.ptr (H.length+1) 0 0)/\b[H.length]?=aa (.box [.f (fi h.clock),.f (fi h.ba),c] 0)/\b[H.length+1]?=aa (.box [.f (fi 0),.f (fi 0),.f .aK] 0)/\Kp H b/\LR b c 10 (aL h.l)) (by omega) (by decide) (by decide) (by simp) (by simp) ⟨by simp,by simp,b0,b1,k2,O⟩ ?_ ?_
 .rintro j t b hj ⟨I,J,h0,K,L,y⟩ ha hb next
  have d:=hj;rcases y with⟨he,_⟩|⟨a9,B,ep,rfl,f⟩
  .rw[show h.l=[] by simpa[aL]using he]at d;simp at d
  obtain⟨x,X⟩:=aD (h.l[j]);have e2:Fix x.aW:=hs x (by rw[X];exact afH d);unfold Fix at e2;have S:=f.at (show j<(aL h.l).length by simpa using d);have A:=f.ldp (n:=7) (k:=3) (aY h.l) (cJ d) (by decide);rw[<-X]at A;have U:((x.row.drop 3).take 7)=x.aW.row:=rfl;rw[U]at A;obtain⟨H4,b_,M,z,c_⟩:=f.stp (k:=3) (xs:=x.aW.row) (aY h.l) (cJ d) (by show 3+7<=10;omega);have a_:bp h.l[j].row 3 x.aW.row=x.row:=by rw[X];rfl
  rw[a_,kJ,X,ag4]at M;have N:B≠H.length/\B≠H.length+1:=by have:=s B rfl;omega
  refine aI ?_;apply ai;simp[ha];refine av (.inl rfl) ?_;have a8:(aL h.l).length=h.l.length:=by simp
  simp only[a8]at *;have b9:(x.aW.row.map C.f).length=7:=rfl;have w:aQ b ab (.c (.ptr H.length 2 0))=aa (.c (.sl B 0 h.l.length 0 ep 10)):=by simp[h0,aO]
  simp[I,w,S,A,e2,b_,b9,-aq,-aU];refine aA (next _ _ ⟨by simp[I],by simp[J],z.get h0 (Ne.symm N.1),z.get K (Ne.symm N.2),L.next (p:=B) (by have:=s B rfl;omega) z,.inr ⟨a9,B,ep,by simp,M⟩⟩ (by simp[ha]) (by simp[hb]))
 .rintro t b ⟨I,J,h0,K,L,y⟩ - -;exact a _ b (by simp[I]) (by simp[J]) h0 K L y
end Go.Proofs.YtnaofdffomdmhaaGreat
namespace Go.Proofs.YtnaofdffomdmhaaGreat
open Go Km
def cj(x y:aB):Bool:=decide (x.meet=y.meet/\x.room=y.room)
theorem Df(x s:aB){H:aj}{p:Nat}(v:H[p]?=aa (.box (s.row.map .f) 0)):∃J,Ev tab (.fn vj) [.a (x.row.map .f),.c (.ptr p 0 0)] H (vb (cj x s)) (H++J):=by
 obtain⟨r,H',z,rfl,J,rfl⟩:∃r H',Ev tab (.fn vj) [.a (x.row.map .f),.c (.ptr p 0 0)] H r H'/\r=vb (cj x s)/\∃J,H'=H++J:=by
  refine dm (C:=λr H'=>r=vb (cj x s)/\∃J,H'=H++J) aax rfl λQ y=>?_;have q:=N8 x;have u:=N8 s;have m:=au v;obtain⟨j,b⟩:=aD (H++[.box (x.row.map .f) 0]:aj);have d:j[p]?=aa (.box (s.row.map .f) 0):=by rw[b,afy m];exact v
  have g:j[H.length]?=aa (.box (x.row.map .f) 0):=by rw[b];simp
  have l:∃J,j=H++J:=⟨_,b⟩
  simp only[aB.row]at q u d g b ⊢;simp at d g b;apply ai;simp;rw[<-b];apply ai;simp at q u;simp[d,g,q,u,Dk,sA,Gh];exact az (y _ _ (vb (cj x s)) rfl (by simp[Km.results,aZ,cj];rw[agH];simp) ⟨rfl,l⟩)
 exact⟨J,z⟩
def RS(H:aj)(c:C)(l:List aB):Prop:=bo H c=aa l.length/\∀(j:Nat) (b:j<l.length),∃p,bw H 7 ab (.c c) (vi j)=aa (.c p)/\aQ H (aa 7) (.c p)=aa (.a (l[j].row.map .f))
theorem LR.rs{H:aj}{c:C}{l:List aB}(h:LR H c 7 (an l)):RS H c l:=⟨by simpa using h.len,λj d=>by
 obtain⟨b,ep,m,l1⟩:=h.at (aR l) (j:=j) (by simpa using d);have g:(an l)[j]'(by simpa using d)=l[j].row:=by simp[an]
 rw[g]at l1;exact⟨_,m,l1⟩⟩
theorem abv(H:aj)(g:Tg)(l:List aB):RS H (.f (sl g (an l))) l:=⟨by simpa using EG (H:=H) g (an l),λj d=>by
 have b:=a7 (H:=H) (g:=g) (rows:=an l) (sz:=7) (k:=.i64) (i:=(j:Int)) (by omega) (by simp;omega);rw[Int.toNat_natCast]at b;exact⟨_,b,bE (aR l) (bD d)⟩⟩
theorem Gu{H:aj}{c:C}{l:List aB}(E:∀J,RS (H++J) c l)(W:l.length<=1000)(s:aB){p:Nat}(K:H[p]?=aa (.box (s.row.map .f) 0)):∃J,Ev tab (.fn DU) [.c c,.c (.cl vj [.ptr p 0 0])] H (vb (l.any λx=>cj x s)) (H++J):=by
 have A:∃r H',Ev tab (.fn MK) [.c c,.c (.cl vj [.ptr p 0 0])] H r H'/\∃J,H'=H++J/\∃i:Int,r=vi i/\(0<=i↔(l.any λx=>cj x s)=ae):=by
  refine dm (C:=λr H'=>∃J,H'=H++J/\∃i:Int,r=vi i/\(0<=i↔(l.any λx=>cj x s)=ae)) Wv rfl λQ v=>?_;have b:=(E []).1;rw[agp]at b;apply ai;simp;apply ak;apply ai;simp[b];refine cD l.length (λj t L=>t.g 0=.c c/\t.g 1=.c (.cl vj [.ptr p 0 0])/\(∃J,L=H++J)/\∀(q:Nat) (u:q<l.length),q<j->cj l[q] s=ag) (by omega) (by decide) (by decide) (by simp) (by simp) ⟨by simp,by simp,⟨[],by simp⟩,by simp⟩ ?_ ?_
  .rintro j t _ I ⟨g0,y,⟨J,rfl⟩,g⟩ z F next
   obtain⟨X,S,U⟩:=(E J).2 j I;obtain⟨B,d⟩:=Df l[j] s (H:=H++J) (p:=p) (by rw[afy (au K)];exact K);have d:=d.eq;refine aI ?_;apply ai;simp[z];apply ai;simp[g0,y,S,U,d,-aq];cases m:cj l[j] s
   .refine aG (by simp) (aS (aA (next _ _ ⟨by simp[g0],by simp[y],⟨J++B,by simp⟩,λq u N=>?_⟩ (by simp[z]) (by simp[F]))));by_cases e:q=j
    .subst e;exact m
    .exact g q u (by omega)
   .refine al (by simp) (ai ?_);simp;refine az (v _ _ (vi j) rfl (by simp[Km.results,aZ]) ⟨J++B,by simp,j,rfl,?_⟩);simp only[agw];exact⟨λ_=>⟨l[j],afH I,m⟩,λ_=>by omega⟩
  .rintro t _ ⟨g0,y,⟨J,rfl⟩,g⟩ z F;apply ai;simp;refine az (v _ _ (vi (-1)) rfl (by simp[Km.results,aZ]) ⟨J,rfl,-1,rfl,?_⟩);simp only[agw];refine⟨λh=>by omega,λ⟨x,O,m⟩=>?_⟩;obtain⟨q,u,rfl⟩:=agd O;rw[g q u u]at m;cases m
 obtain⟨r,H',d,J,rfl,i,rfl,hi⟩:=A;have d:=d.eq;obtain⟨r,H',M,rfl,rfl⟩:∃r H',Ev tab (.fn DU) [.c c,.c (.cl vj [.ptr p 0 0])] H r H'/\r=vb (l.any λx=>cj x s)/\H'=H++J:=by
  refine dm (C:=λr H'=>r=vb (l.any λx=>cj x s)/\H'=H++J) Wp rfl λQ v=>?_;apply ai;simp;apply ai;simp[d];refine az (v _ _ (vb (l.any λx=>cj x s)) rfl ?_ ⟨rfl,rfl⟩);have:decide (0<=i)=(l.any λx=>cj x s):=by
   rw[agH,decide_eq_true_eq];exact hi
  simp[Km.results,aZ,this]
 exact⟨J,M⟩
end Go.Proofs.YtnaofdffomdmhaaGreat
namespace Go.Proofs.YtnaofdffomdmhaaGreat
open Go Km
def uniq(l0:List aB):List aB->List aB->List aB
 |acc,[]=>acc| acc,s::r=>if l0.any (λx=>cj x s)||acc.any (λx=>cj x s)then uniq l0 acc r else uniq l0 (acc++[s]) r
theorem sk{l0:List aB}:∀{l acc:List aB},(uniq l0 acc l).length<=acc.length+l.length
 |[],_=>by simp[uniq]
 |s::l,acc=>by
  simp only[uniq];split
  .have:=sk (l0:=l0) (l:=l) (acc:=acc);simp;omega
  .have:=sk (l0:=l0) (l:=l) (acc:=acc++[s]);simp at this ⊢;omega
theorem xp{l0:List aB}:∀{l acc:List aB} {x:aB},x∈uniq l0 acc l->x∈acc\/x∈l
 |[],_,x,h=>.inl h
 |s::l,acc,x,h=>by
  simp only[uniq]at h;split at h
  .rcases xp h with h|h<;>simp[h]
  .rcases xp h with h|h
   .simp at h;rcases h with h|h<;>simp[h]
   .simp[h]
theorem FI{H:aj}{c:C}{l:List aB}(hL:LR H c 7 (an l))(hl:l.length<=30)(hsm:∀s∈l,Fix s)(g0:Tg)(l0:List aB)(h0:l0.length<=30):∃r H',Ev tab (.fn SQ) [.c c,.c (.f (sl g0 (an l0)))] H r H'/\
  ∃d,r=.c d/\Kp H H'/\LR H' d 7 (an (uniq l0 [] l))/\∀i,bt d=aa i->H.length<=i:=by
 refine dm (C:=λr H'=>∃d,r=.c d/\Kp H H'/\LR H' d 7 (an (uniq l0 [] l))/\∀i,bt d=aa i->H.length<=i) aaw rfl λQ hQ=>?_;have O:=hL.len;simp at O;apply ai;simp;apply ai;simp;apply ak;apply ai;simp[O];refine cD l.length (λj t K=>t.g 1=.c (.f (sl g0 (an l0)))/\t.g 9=.c c/\Kp H K/\∃d o,t.g 5=.c d/\LR K d 7 (an o)/\uniq l0 o (l.drop j)=uniq l0 [] l/\o.length<=j/\∀i,bt d=aa i->H.length<=i) (by omega) (by decide) (by decide) (by simp) (by simp)
  ⟨by simp,by simp,Kp.refl H,.f .aK,[],by simp,LR.nil _ _,by simp,by simp,by simp[bt]⟩ ?_ ?_
 .rintro j t K hj ⟨Y,g9,M,d,o,Z,hO,I,e9,z⟩ ha hb next
  obtain⟨x,hx⟩:=aD (l[j]);have hd:l.drop j=x::l.drop (j+1):=by rw[hx];exact afL hj
  rw[hd]at I;have b9:LR K c 7 (an l):=hL.cZ λi y hy _=>by rw[M.2 i (au hy)];exact hy
  obtain⟨b,ep,i1,l1⟩:=b9.at (aR l) (j:=j) (by simpa using hj);have e0:(an l)[j]'(by simpa using hj)=x.row:=by simp[an,hx]
  rw[e0]at l1;have e2:Fix x:=hsm x (by rw[hx];exact afH hj);unfold Fix at e2;obtain⟨N,q⟩:=aD (K++[.box (x.row.map .f) 0]:aj);have B:N[K.length]?=aa (.box (x.row.map .f) 0):=by rw[q];simp
  have b_:LR N d 7 (an o):=by rw[q];exact hO.push _
  obtain⟨J1,X⟩:=Gu (H:=N) (λJ=>abv _ g0 l0) (by omega) x B;have L:LR (N++J1) d 7 (an o):=b_.push _;have e_:(N++J1)[K.length]?=aa (.box (x.row.map .f) 0):=by rw[afy (au B)];exact B
  obtain⟨J2,n2⟩:=Gu (H:=N++J1) (λJ=>LR.rs (L.push J)) (by omega) x e_;have X:=X.eq;have n2:=n2.eq;refine aI ?_;apply ai;simp[g9,ha,i1,l1,-aq,aB.row];simp only[aB.row]at q X n2 e2 B;simp at q;rw[<-q];apply ai;simp;apply ak;refine av (.inl rfl) ?_;cases hz:l0.any λy=>cj y x
  case true=>
   rw[hz]at X;simp only[uniq,hz,Bool.true_or,if_true]at I;obtain⟨S,m⟩:=aD (N++J1:aj);have A:Kp H S:=by
    rw[m,q];exact⟨by have:=M.1;simp;omega,λF g=>by
     have:=M.1;rw[agk,afy (by omega)];exact M.2 F g⟩
   simp[Y,X];rw[<-m];rw[<-m]at L;refine aG (by simp) (aS (aA (next _ _ ⟨by simp[Y],by simp[g9],A,d,o,by simp[Z],L,I,by omega,z⟩ (by simp[ha]) (by simp[hb]))))
  rw[hz]at X;simp[Y,Z,X,n2];obtain⟨S,m⟩:=aD (N++(J1++J2):aj);have A:Kp H S:=by
   rw[m,q];exact⟨by have:=M.1;simp;omega,λF g=>by
    have:=M.1;rw[agk,afy (by omega)];exact M.2 F g⟩
  have a9:LR S d 7 (an o):=by rw[m,<-agk];exact L.push _
  rw[<-m];have W:S[K.length]?=aa (.box (x.row.map .f) 0):=by rw[m,afy (au B)];simp only[aB.row];exact B
  cases u:o.any λy=>cj y x
  case true=>
   simp only[uniq,u,Bool.or_true,if_true]at I;refine aG (by simp[u]) (aS (aA (next _ _ ⟨by simp[Y],by simp[g9],A,d,o,by simp[Z],a9,I,by omega,z⟩ (by simp[ha]) (by simp[hb]))))
  case false=>
   simp only[uniq,hz,u,Bool.or_self,Bool.false_eq_true,if_false]at I;obtain⟨H4,v⟩:=aD (S++[.box (x.row.map .f) 0]:aj);have c_:LR H4 d 7 (an o):=by rw[v];exact a9.push _
   obtain⟨c2,H5,E,d9,a8,a_⟩:=c_.app (aR o) (by decide) (row:=x.row) rfl (bytes:=88) (oX (by simp;omega) (by decide)) (b1:=S.length) (fl1:=0) (by rw[v];simp);have U:Kp H H4:=by
    rw[v];exact⟨by have:=A.1;simp;omega,λF g=>by rw[afy (af9 g A.1)];exact A.2 F g⟩
   have d_:Kp H H5:=⟨af1 U.1 a8.1,λF g=>by
    have hy:=afB g;rw[a8.2 F H[F] (by rw[U.2 F g,hy]) (λe=>by have:=z F e;omega),hy]⟩
   refine al (by simp[u]) ?_;refine av (.inl rfl) ?_;simp only[aB.row]at W v E;simp at W v E;have f7:(cP 1 [fi 0,fi 0,fi 0,fi 0,FC.aK,fi 0,FC.aK]).map C.f=[.f (fi 0),.f (fi 0),.f (fi 0),.f (fi 0),.f .aK,.f (fi 0),.f .aK]:=rfl;simp at e2;simp[Z,W,e2,<-v,E];refine aA (next _ _ ⟨by simp[Y],by simp[g9],d_,c2,o++[x],by simp,?_,?_,by simp;omega,λi hi=>?_⟩ (by simp[ha]) (by simp[hb]))
   .have e:an (o++[x])=an o++[x.row]:=by simp[an]
    rw[e];exact d9
   .exact I
   .rcases a_ with h|h
    .rw[h]at hi;exact z i hi
    .rw[h]at hi;cases hi;exact U.1
 .rintro t K ⟨Y,g9,M,d,o,Z,hO,I,e9,z⟩ ha hb;apply ai;simp[Z];refine az (hQ _ _ (.c d) rfl (by simp[Km.results,aZ]) ⟨d,rfl,M,?_,z⟩);rw[List.drop_of_length_le (afJ _)]at I;rw[<-I];exact hO
end Go.Proofs.YtnaofdffomdmhaaGreat
namespace Go.Proofs.YtnaofdffomdmhaaGreat
open Go Km
theorem OQ{m v:Type}{f:m->v}{l u:List v}(h:u.Perm l):∀o:List m,l=o.map f->∃o':List m,u=o'.map f/\o'.Perm o:=by
 induction h with
 |nil=>intro o d;exact⟨[],rfl,by
   have:o=[]:=by simpa using d.symm
   rw[this]⟩
 |cons x h B=>
  intro o d;cases o with
  |nil=>simp at d
  |cons a o=>
   simp only[afS,List.cons.injEq]at d;obtain⟨o',q,s⟩:=B o d.2;exact⟨a::o',by simp[q,d.1],s.cons a⟩
 |swap x y l=>
  intro o d
  match o with
  |[]=>simp at d| [a]=>simp at d
  |a::b::o=>
   simp only[afS,List.cons.injEq]at d;exact⟨b::a::o,by simp[d.1,d.2.1,d.2.2],List.Perm.swap a b o⟩
 |trans q s g j=>
  intro o d;obtain⟨F,A,I⟩:=j o d;obtain⟨E,z,H⟩:=g F A;exact⟨E,z,H.trans I⟩
theorem vK{j:Type}{R:j->j->Prop}:∀{A B:List j},A.Perm B->A.Pairwise R->B.Pairwise R->(∀x∈A,∀y∈A,R x y->R y x->x=y)->A=B
 |[],B,h,_,_,_=>(List.nil_perm.1 h).symm| a::A,[],h,_,_,_=>by have:=h.length_eq;simp at this
 |a::A,b::B,h,m,q,d=>by
  have g:a=b:=by
   by_cases e:a=b
   .exact e
   have s:a∈B:=by
    have:a∈b::B:=h.mem_iff.1 afN;rcases afZ.1 this with rfl|h
    .exact absurd rfl e
    .exact h
   have l:b∈A:=by
    have:b∈a::A:=h.mem_iff.2 afN;rcases afZ.1 this with rfl|h
    .exact absurd rfl e
    .exact h
   exact d a afN b (afQ _ l) (agO m l) (agO q s)
  subst g;rw[vK ((List.perm_cons a).1 h) (ahj m) (ahj q) λx u y v=>d x (afQ _ u) y (afQ _ v)]
def kD(x y:aB):Prop:=¬ (y.meet<x.meet\/y.meet=x.meet/\y.room<x.room)
theorem pH{x y:aB}:cj x y=ae↔x.meet=y.meet/\x.room=y.room:=by simp[cj]
def nZ(x:bC):Bool:=decide (x.state=1)||decide (x.state=2)
def dL(l:List bC):List aB:=(l.filter nZ).map bC.aW
theorem IH(h:bR)(hl:h.l.length<=30)(hs:∀x∈h.l,Fix x.aW)(g0:Tg)(l0:List aB)(h0:l0.length<=30)(H:aj):∃r H',Ev tab (.fn MO) [.a (h.row.map .f),.c (.f (sl g0 (an l0)))] H r H'/\
  ∃u,r=.c u/\Kp H H'/\LR H' u 7 (an (uniq l0 [] (dL h.l)))/\∀i,bt u=aa i->H.length<=i:=by
 refine dm (C:=λr H'=>∃u,r=.c u/\Kp H H'/\LR H' u 7 (an (uniq l0 [] (dL h.l)))/\∀i,bt u=aa i->H.length<=i) aau rfl λQ hQ=>?_;apply ai;simp[bR.row];obtain⟨H0,K⟩:=aD (H++[.box [.f (fi h.clock),.f (fi h.ba),.f (sl h.lg (aL h.l))] 0]:aj);have z0:H0[H.length]?=aa (.box [.f (fi h.clock),.f (fi h.ba),.f (sl h.lg (aL h.l))] 0):=by rw[K];simp
 have zk:Kp H H0:=by rw[K];exact Kp.push _ _
 rw[<-K];apply ai;simp;apply ak;apply ai;simp[z0];refine cD h.l.length (λj t E=>t.g 1=.c (.f (sl g0 (an l0)))/\t.g 9=.c (.f (sl h.lg (aL h.l)))/\Kp H E/\∃c,t.g 5=.c c/\LR E c 7 (an (dL (h.l.take j)))/\∀i,bt c=aa i->H.length<=i) (by omega) (by decide) (by decide) (by simp) (by simp)
  ⟨by simp,by simp,zk,.f .aK,by simp,LR.nil _ _,by simp[bt]⟩ ?_ ?_
 .rintro j t E hj ⟨F,J,A,c,I,hL,z⟩ X hb next
  have M:=λH:aj=>bE (H:=H) (aY h.l) (cJ hj);simp only[bC.row]at M;obtain⟨x,hx⟩:=aD (h.l[j]);rw[<-hx]at M;have a9:h.l.take (j+1)=h.l.take j++[x]:=by rw[hx,List.take_add_one,afB hj];rfl
  obtain⟨N,v⟩:=aD (E++[.box [.f (fi x.id),.f (fi x.dl),.f (fi x.state),.f (fi x.aW.meet),.f (fi x.aW.room),.f (fi x.aW.dg),.f (fi x.aW.size),.f (sl x.aW.st.cg (aP x.aW.st.cs)),.f (fi x.aW.st.len),.f (sl x.aW.st.xg (aC x.aW.st.xs))] 0]:aj);have nr:N[E.length]?=aa (.box [.f (fi x.id),.f (fi x.dl),.f (fi x.state),.f (fi x.aW.meet),.f (fi x.aW.room),.f (fi x.aW.dg),.f (fi x.aW.size),.f (sl x.aW.st.cg (aP x.aW.st.cs)),.f (fi x.aW.st.len),.f (sl x.aW.st.xg (aC x.aW.st.xs))] 0):=by rw[v];simp
  have d:Kp H N:=by
   rw[v];exact⟨by have:=A.1;simp;omega,λl b=>by rw[afy (af9 b A.1)];exact A.2 l b⟩
  have W:LR N c 7 (an (dL (h.l.take j))):=by rw[v];exact hL.push _
  refine aI ?_;apply ai;simp[X,J,a7,hj,M];rw[<-v];apply ak;refine av (.inl rfl) ?_;simp[nr];cases q:nZ x
  case false=>
   have e9:dL (h.l.take (j+1))=dL (h.l.take j):=by rw[a9];simp[dL,aho,q]
   have O:x.state≠1:=λe=>by simp[nZ,e]at q
   have h2:x.state≠2:=λe=>by simp[nZ,e]at q
   simp[O,h2,nr];refine aG (by simp) (aS (aA (next _ _ ⟨by simp[F],by simp[J],d,c,by simp[I],by rw[e9];exact W,z⟩ (by simp[X]) (by simp[hb]))))
  case true=>
   have a_:dL (h.l.take (j+1))=dL (h.l.take j)++[x.aW]:=by rw[a9];simp[dL,aho,q]
   obtain⟨H4,g⟩:=aD (N++[.box (x.aW.row.map .f) 0]:aj);have B:(dL (h.l.take j)).length<=30:=by
    have O:(dL (h.l.take j)).length<=(h.l.take j).length:=by simp only[dL,afT];exact agJ _ _
    have h2:(h.l.take j).length<=h.l.length:=by rw[af2];omega
    omega
   have c_:LR H4 c 7 (an (dL (h.l.take j))):=by rw[g];exact W.push _
   obtain⟨c2,H5,m,d9,U,Z⟩:=c_.app (aR _) (by decide) (row:=x.aW.row) rfl (bytes:=88) (oX (by simp;omega) (by decide)) (b1:=N.length) (fl1:=0) (by rw[g];simp);have L:Kp H H4:=by
    rw[g];exact⟨by have:=d.1;simp;omega,λl b=>by rw[afy (af9 b d.1)];exact d.2 l b⟩
   have d_:Kp H H5:=⟨af1 L.1 U.1,λl b=>by
    have hy:=afB b;rw[U.2 l H[l] (by rw[L.2 l b,hy]) (λe=>by have:=z l e;omega),hy]⟩
   simp only[aB.row]at g m;simp at g m;have S:∀t:T,t.g 1=.c (.f (sl g0 (an l0)))->t.g 9=.c (.f (sl h.lg (aL h.l)))->t.g 5=.c c->t.g 7=.c (.ptr E.length 0 0)->t.g 10=vi h.l.length->t.g 11=vi j->
     WP tab MO ab [.code L5,.inBlock 1,.code (uu 11 28),.inLoop (ku 0 11 10 12 28 L4),.inBlock 0,.code L6] ⟨t,[],N⟩ Q:=by
    intro t F J I g7 b9 b_;refine av (.inl rfl) ?_;simp[I,g7,nr,<-g,m];refine aA (next _ _ ⟨by simp[F],by simp[J],d_,c2,by simp,?_,λi hi=>?_⟩ (by simp[b_]) (by simp[b9]))
    .rw[a_];have e:an (dL (h.l.take j)++[x.aW])=an (dL (h.l.take j))++[x.aW.row]:=by simp[an]
     rw[e];exact d9
    .rcases Z with h|h
     .rw[h]at hi;exact z i hi
     .rw[h]at hi;cases hi;exact L.1
   by_cases O:x.state=1
   .simp[O];exact al (by simp) (S _ (by simp[F]) (by simp[J]) (by simp[I]) (by simp) (by simp[hb]) (by simp[X]))
   .have h2:x.state=2:=by simp[nZ]at q;omega
    simp[O,h2,nr];exact al (by simp) (S _ (by simp[F]) (by simp[J]) (by simp[I]) (by simp) (by simp[hb]) (by simp[X]))
 .rintro t E ⟨F,J,A,c,I,hL,z⟩ X hb;rw[List.take_of_length_le (afJ _)]at hL;have B:(dL h.l).length<=30:=by
   have O:(dL h.l).length<=h.l.length:=by simp only[dL,afT];exact agJ _ _
   omega
  obtain⟨r,H2,he,u,rfl,d,hO,Y⟩:=FI hL B (g0:=g0) (l0:=l0) (h0:=h0) (hsm:=λs a8=>by
   simp only[dL,af6,agB]at a8;obtain⟨y,⟨hy,_⟩,rfl⟩:=a8;exact hs y hy)
  have he:=he.eq;apply ai;simp[F,I,he];exact az (hQ _ _ (.c u) rfl (by simp[Km.results,aZ]) ⟨u,rfl,⟨af1 A.1 d.1,λl b=>by rw[d.2 l (af9 b A.1)];exact A.2 l b⟩,hO,λi hi=>af1 A.1 (Y i hi)⟩)
def sσ:S6:={ pdq:=0,ins:=DX,heap:=0,ad8:=0,brk:=0,piv:=0,rev:=0,part:=0,peq:=0,pins:=0,ad1:=0,med:=0,ord:=0,npt:=0,nxt:=0,len:=0,Yl:=Af,Yj:=135,rot:=207,swr:=281 }
theorem Rq{H:aj}(v:V):∃r H',Ev tab (.fn DX) [v,vi 0,vi 0,.c (.f (.fn yz []))] H r H'/\(r=.t []/\H'=H):=by
 refine dm rfl rfl λQ b=>?_;apply ai;simp[bg (n:=(1:Int))];refine aI (mY ?_);apply ak;apply ai;simp;refine aG (by simp) ?_;refine bT (k':=[]) rfl ?_;exact dY (b _ _ _ rfl rfl ⟨rfl,rfl⟩)
theorem PI{H:aj}(v:V):∃r H',Ev tab (.fn Af) [v,vi 0,.c (.f (.fn yz []))] H r H'/\(r=.t []/\H'=H):=by
 obtain⟨r,H',b,rfl,rfl⟩:=Rq (H:=H) v;have b:=b.eq;refine dm rfl rfl λQ d=>?_;apply ai;simp;apply ai;simp;apply ak;refine aI (mY ?_);apply ak;apply ai;simp;refine aG (by simp) ?_;refine bT (k':=[.code Ip]) rfl ?_;apply ai;simp[b];refine aI (mY ?_);apply ak;apply ai;simp;refine aG (by simp) ?_;refine bT (k':=[]) rfl ?_;exact dY (d _ _ _ rfl rfl ⟨rfl,rfl⟩)
theorem De{o:List aB}{n:Nat}(g:o.length=n)(h:Up E7 0 n (an o)):o.Pairwise kD:=by
 rw[ags];intro i j hi d b;have:=h i j o[i].row o[j].row (by omega) b (by omega) (bD hi) (bD d);rw[AZ]at this;exact this
theorem Sb{H:aj}{c:C}{o:List aB}(A:LR H c 7 (an o))(L:o.length<20):∃r H',Ev tab (.fn MM) [.c c,.c (.f (.fn yz []))] H r H'/\
  (r=.t []/\Kb H H' c/\∃o',LR H' c 7 (an o')/\o'.Perm o/\o'.Pairwise kD):=by
 have d:=A.len;simp at d;rcases A with⟨J,I⟩|⟨y,B,ep,rfl,F⟩
 .have z:o=[]:=by simpa[an]using J
  subst z;obtain⟨r,H',g,rfl,rfl⟩:=PI (H:=H) (.c c);have g:=g.eq;refine dm (C:=λr j=>r=.t []/\Kb H' j c/\∃o',LR j c 7 (an o')/\o'.Perm []/\o'.Pairwise kD) M3 rfl λQ x=>?_;refine av (.inl rfl) ?_;simp at d;simp[d,g];exact dY (x _ _ (.t []) rfl rfl ⟨rfl,Kb.refl _ _,[],.inl ⟨rfl,I⟩,.refl _,.nil⟩)
 .have l:(an o).length=o.length:=by simp
  obtain⟨r,H',g,rfl,K,O,v,M,N⟩:=Kz (σ:=sσ) (tab:=tab) (sz:=7) (b:=B) (ep:=ep) (H:=H) (rows:=an o) (n:=o.length) Wz Wy Ny IK l L F (aR o) (λr E=>by
   simp only[an,af6]at E;obtain⟨s,_,rfl⟩:=E;exact⟨s,rfl⟩)
  have g:=g.eq;obtain⟨o',rfl,u⟩:=OQ M o rfl;have q:o'.length=o.length:=u.length_eq;rw[l]at d ⊢;refine dm (C:=λr j=>r=.t []/\Kb H j (.sl B 0 o.length 0 ep 7)/\∃o',LR j (.sl B 0 o.length 0 ep 7) 7 (an o')/\o'.Perm o/\o'.Pairwise kD) M3 rfl λQ x=>?_;refine av (.inl rfl) ?_;have m:Ev tab (.fn Af) [.c (.sl B 0 o.length 0 ep 7),vi o.length,.c (.f (.fn yz []))] H=E2 (.t []) H':=g;simp[d,m];refine dY (x _ ⟨_,[],H'⟩ (.t []) rfl rfl ⟨rfl,Kb.abc K,o',.inr ⟨?_,B,ep,?_,v⟩,u,De q N⟩)
  .intro e;have h0:o'.length=0:=by have:=congrArg List.length e;simpa[an]using this
   exact y (List.length_eq_zero_iff.1 (by rw[l];omega))
  .have:(an o').length=o.length:=by simp[q]
   rw[this]
end Go.Proofs.YtnaofdffomdmhaaGreat
namespace Go.Proofs.YtnaofdffomdmhaaGreat
open Go Km
def eu:bR:=⟨0,0,.nil,[]⟩
def Chg(F:Nat)(b:List FC)(h:bR)(e:Int)(res:bR):Prop:=
 ∀(H:aj) (p:Nat) (c:C),H[p]?=aa (.box [.f (fi h.clock),.f (fi h.ba),c] 0)->LR H c 10 (aL h.l)->bt c≠aa p->
  ∃r H',Ev tab (.fn F) (.c (.ptr p 0 0)::b.map λx=>.c (.f x)) H r H'/\r=vi e/\H.length<=H'.length/\(∀i y,H[i]?=aa y->i≠p->bt c≠aa i->H'[i]?=aa y)/\
   (e=0->H'[p]?=aa (.box [.f (fi res.clock),.f (fi res.ba),c] 0)/\LR H' c 10 (aL res.l))
theorem yG(h:bR)(hl:h.l.length<=30)(hs:∀x∈h.l,Fix x.aW){F:Nat}{b:List FC}{e:Int}{res:bR}(Z:Chg F b h e res) :
  ∃(g:Tg) (s:bR),s=(if e=0 then { res with lg:=g }else eu)/\aX tab SN [.a (h.row.map .f),.c (.f (.fn F b)),vi 0]=Eq (.t [.a (s.row.map .f),vi e]):=by
 obtain⟨r,⟨g,s,N,rfl⟩,hp⟩:∃r,(∃(g:Tg) (s:bR),s=(if e=0 then { res with lg:=g }else eu)/\r=.t [.a (s.row.map .f),vi e])/\aX tab SN [.a (h.row.map .f),.c (.f (.fn F b)),vi 0] r:=by
  refine cN rfl rfl λQ U=>?_;apply ai;simp[bR.row];obtain⟨A,d⟩:=aD ([.box [.f (fi h.clock),.f (fi h.ba),.f (sl h.lg (aL h.l))] 0,.box [.f (fi 0),.f (fi 0),.f .aK] 0]:aj);obtain⟨r,u,E,c,rfl,W,S,hc⟩:=yJ h hl hs A;have E:=E.eq;simp[bR.row]at E;have z0:A[0]?=aa (.box [.f (fi h.clock),.f (fi h.ba),.f (sl h.lg (aL h.l))] 0):=by rw[d];rfl
  have z1:A[1]?=aa (.box [.f (fi 0),.f (fi 0),.f .aK] 0):=by rw[d];rfl
  have zl:A.length=2:=by rw[d];rfl
  have X:u[1]?=aa (.box [.f (fi 0),.f (fi 0),.f .aK] 0):=by rw[W.2 1 (by omega)];exact z1
  rw[<-d];apply ai;simp[z0,E];obtain⟨B,j⟩:=aD (u++[.box [.f (fi h.clock),.f (fi h.ba),c] 0]:aj);have m1:B[1]?=aa (.box [.f (fi 0),.f (fi 0),.f .aK] 0):=by rw[j,afy (au X)];exact X
  have m2:B[u.length]?=aa (.box [.f (fi h.clock),.f (fi h.ba),c] 0):=by rw[j];simp
  have I:LR B c 10 (aL h.l):=by rw[j];exact S.push _
  have K:bt c≠aa u.length:=λe=>by have:=S.lt e;omega
  have Y:=W.1;rw[<-j];obtain⟨r,O,m,rfl,M,q,z⟩:=Z B u.length c m2 I K;have m:=m.eq;have v:bt c≠aa 1:=λe=>by have:=hc 1 e;omega
  have H:O[1]?=aa (.box [.f (fi 0),.f (fi 0),.f .aK] 0):=q 1 _ m1 (by omega) v;apply ak;apply ai;simp[cL,m];apply ak;refine av (.inl rfl) ?_;simp;by_cases l:e=0
  case neg=>
   refine al (by simp[l]) ?_;apply ai;simp[H];refine az (U _ _ (.t [.a (eu.row.map .f),vi e]) ⟨.nil,eu,by simp[l],rfl⟩ ?_);simp[Km.results,aZ,au H,fC,bX,deep,eu,bR.row,sl,Tg.fc,aL]
  subst l;obtain⟨q1,J⟩:=z rfl;obtain⟨g,hg⟩:=J.exU (aY _);refine bc (by simp) ?_;apply ai;simp[H,q1];have L:=hg (O.set 1 (.box [.f (fi res.clock),.f (fi res.ba),c] 0)) 63 (λi y hy hi=>by
   have:(1:Nat)≠i:=by rintro rfl;exact v hi
   rw[ae2 this];exact hy)
  refine az (U _ _ (.t [.a ((⟨res.clock,res.ba,g,res.l⟩:bR).row.map .f),vi 0]) ⟨g,⟨res.clock,res.ba,g,res.l⟩,by simp,rfl⟩ ?_);simp[Km.results,aZ,au H,fC,bX,deep,bR.row,L]
 exact⟨g,s,N,hp.eq⟩
end Go.Proofs.YtnaofdffomdmhaaGreat
namespace Go.Proofs.YtnaofdffomdmhaaGreat
open Go Km
def eG(clk:Int)(x:bC):bC:=if x.state=1/\x.dl<clk then { x with state:=4 }else x
def fo(clk:Int)(j:Nat)(l:List bC):List bC:=(l.take j).map (eG clk)++l.drop j
theorem lX{clk:Int}{j:Nat}{l:List bC}:(fo clk j l).length=l.length:=by
 simp[fo];omega
theorem zI{clk:Int}{j:Nat}{l:List bC}(b:j<l.length):(fo clk j l)[j]?=aa l[j]:=by
 unfold fo;rw[afI (by simp;omega)];simp[show min j l.length=j by omega,b]
theorem uh{clk:Int}{j:Nat}{l:List bC}(b:j<l.length):fo clk (j+1) l=(fo clk j l).set j (eG clk l[j]):=by
 unfold fo;have d:((l.take j).map (eG clk)).length=j:=by simp;omega
 rw[List.set_append_right _ _ (by omega),d,Nat.sub_self,afL b,List.take_succ_eq_append_getElem b];simp only[List.map_append,afS,afW,agk,List.cons_append,List.nil_append,List.set_cons_zero]
theorem FH{clk:Int}{l:List bC}:fo clk l.length l=l.map (eG clk):=by simp[fo]
def eb(h:bR)(clk:Int):Int:=if cK h=ag\/clk<h.clock\/2251799813685248<clk then 1 else 0
theorem PT(h:bR)(hl:h.l.length<=30)(clk:Int):Chg yx [.fp [fi h.clock,fi h.ba,sl h.lg (aL h.l)] 0,.fp [fi clk] 0] h (eb h clk) ⟨clk,h.ba,.nil,h.l.map (eG clk)⟩:=by
 intro H p c hp hL Y;have hv:=tf h hl;simp[bR.row]at hv;have e1:∀H:aj,aQ H (aa 3) (.c (.f (.fp [fi h.clock,fi h.ba,sl h.lg (aL h.l)] 0)))=aa (.a [.f (fi h.clock),.f (fi h.ba),.f (sl h.lg (aL h.l))]):=λ_=>rfl;have e2:∀H:aj,aQ H ab (.c (.f (.fp [fi h.clock,fi h.ba,sl h.lg (aL h.l)] 0)))=aa (vi h.clock):=λ_=>rfl;have O:∀H:aj,aQ H ab (.c (.f (.fp [fi clk] 0)))=aa (vi clk):=λ_=>rfl;refine dm (C:=λr H'=>r=vi (eb h clk)/\H.length<=H'.length/\(∀i y,H[i]?=aa y->i≠p->bt c≠aa i->H'[i]?=aa y)/\
   (eb h clk=0->H'[p]?=aa (.box [.f (fi clk),.f (fi h.ba),c] 0)/\LR H' c 10 (aL (h.l.map (eG clk))))) aat rfl λQ hQ=>?_
 have bad:eb h clk=1->∀t:T,t.g 19=vb ae->WP tab yx ab [.code Qm,.code Qn] ⟨t,[],H⟩ Q:=by
  intro he t g;refine al (by simp[g]) (ai ?_);simp;exact az (hQ _ _ (vi 1) rfl (by simp[Km.results,aZ]) ⟨by rw[he],afJ _,λi y hy _ _=>hy,λe=>by rw[he]at e;cases e⟩)
 apply ai;simp;apply ak;apply ak;refine av (.inl rfl) ?_;simp[e1,hv];cases u:cK h
 case false=>
  simp;exact bad (by simp[eb,u]) _ (by simp)
 by_cases k1:clk<h.clock
 .simp[e2,O,k1];exact bad (by simp[eb,k1]) _ (by simp)
 by_cases k2:2251799813685248<clk
 .simp[e2,O,k1,k2];exact bad (by simp[eb,k2]) _ (by simp)
 simp[e2,O,k1,k2];have he:eb h clk=0:=by simp[eb,u,k1,k2]
 refine bc (by simp) ?_;obtain⟨H1,d⟩:=aD (H.set p (.box [.f (fi clk),.f (fi h.ba),c] 0):aj);have z1:H1[p]?=aa (.box [.f (fi clk),.f (fi h.ba),c] 0):=by rw[d];exact afC (au hp)
 have W:LR H1 c 10 (aL h.l):=by rw[d];exact hL.set Y _
 have e_:H1.length=H.length:=by rw[d];simp
 have e9:∀i y,H[i]?=aa y->i≠p->bt c≠aa i->H1[i]?=aa y:=λi y hy hi _=>by rw[d,ae2 (Ne.symm hi)];exact hy
 apply ai;simp[O,hp];rw[<-d];apply ak;have b9:=W.len;simp at b9;apply ai;simp[z1,b9];refine cD h.l.length (λj t m=>t.g 0=.c (.ptr p 0 0)/\t.g 2=.c (.f (.fp [fi clk] 0))/\m[p]?=aa (.box [.f (fi clk),.f (fi h.ba),c] 0)/\LR m c 10 (aL (fo clk j h.l))/\H.length<=m.length/\(∀i y,H[i]?=aa y->i≠p->bt c≠aa i->m[i]?=aa y)) (by omega) (by decide) (by decide) (by simp) (by simp)
  ⟨by simp,by simp,z1,by simpa[fo]using W,by omega,e9⟩ ?_ ?_
 .rintro j t m S ⟨g0,l,z2,q,I,s⟩ ha hb next
  rcases q with⟨d_,_⟩|⟨f8,B,ep,rfl,u⟩
  .have:(fo clk j h.l).length=0:=by have:=congrArg List.length d_;simpa[aL]using this
   rw[lX]at this;omega
  obtain⟨x,hx⟩:=aD (h.l[j]);have b_:(aL (fo clk j h.l)).length=h.l.length:=by simp[lX]
  have F:(aL (fo clk j h.l))[j]?=aa x.row:=by rw[hx];simp[aL,zI S]
  have a_:=u.at (show j<(aL (fo clk j h.l)).length by omega);have J:=u.ldc (k:=2) (x:=fi x.state) (aY _) F rfl;have Z:=u.ldc (k:=1) (x:=fi x.dl) (aY _) F rfl;obtain⟨H4,v,U,a8,h_⟩:=u.stp (k:=2) (xs:=[fi 4]) (aY _) F (by decide);have f_:bp x.row 2 [fi 4]=(bC.row { x with state:=4 }):=rfl;rw[f_,kJ]at U;have c_:B≠p:=λe=>Y (by rw[e];rfl);have d9:aQ m ab (.c (.ptr p 2 0))=aa (.c (.sl B 0 h.l.length 0 ep 10)):=by simp[z2,aO,b_]
  simp only[b_]at *;refine aI ?_;apply ai;simp[ha];apply ai;simp[g0,d9,a_,-aq];have no:eG clk x=x->∀b:T,b.g 0=.c (.ptr p 0 0)->b.g 2=.c (.f (.fp [fi clk] 0))->b.g 29=vi j->b.g 28=t.g 28->b.g 50=vb ag->
    WP tab yx ab [.code Bq,.inBlock 1,.code Br,.inLoop Bp,.inBlock 0,.code Bs] ⟨b,[],m⟩ Q:=by
   intro L b g0 l A z E;have K:fo clk (j+1) h.l=fo clk j h.l:=by
    rw[uh S,<-hx,L];obtain⟨f7,a9⟩:=afD.1 (zI (clk:=clk) S);rw[<-hx]at a9
    conv=>lhs;rw[<-a9]
    exact ag4 f7
   refine aG (by simp[E]) (aS (aA (next _ _ ⟨by simp[g0],by simp[l],z2,?_,I,s⟩ (by simp[A]) (by simp[z,hb]))));rw[K];exact .inr ⟨f8,B,ep,by simp[lX],u⟩
  have g_:x.state=1->x.dl<clk->∀b:T,b.g 0=.c (.ptr p 0 0)->b.g 2=.c (.f (.fp [fi clk] 0))->b.g 29=vi j->b.g 28=t.g 28->b.g 6=.c (.ptr B (j*10) ep)->b.g 50=vb ae->
    WP tab yx ab [.code Bq,.inBlock 1,.code Br,.inLoop Bp,.inBlock 0,.code Bs] ⟨b,[],m⟩ Q:=by
   intro M N b g0 l A z g6 E;have L:eG clk x = { x with state:=4 }:=bu ⟨M,N⟩;have K:fo clk (j+1) h.l=(fo clk j h.l).set j { x with state:=4 }:=by rw[uh S,<-hx,L]
   refine al (by simp[E]) ?_;refine av (.inl rfl) ?_;simp only[afS,afW]at v;simp[g6,v,-aU];refine aA (next _ _ ⟨by simp[g0],by simp[l],a8.get z2 (Ne.symm c_),?_,by omega,λi y hy hi X=>a8.get (s i y hy hi X) (λe=>X (by rw[e];rfl))⟩ (by simp[A]) (by simp[z,hb]));rw[K];refine .inr ⟨λe=>?_,B,ep,by simp[lX],U⟩;have:=congrArg List.length e;simp[lX]at this;rw[this]at S;simp at S
  apply ak;refine av (.inl rfl) ?_;by_cases M:x.state=1
  .by_cases N:x.dl<clk
   .simp[J,Z,M,N,l,O,-aq];exact g_ M N _ (by simp[g0]) (by simp[l]) (by simp[ha]) (by simp) (by simp) (by simp)
   .simp[J,Z,M,N,l,O,-aq];exact no (bG λe=>N e.2) _ (by simp[g0]) (by simp[l]) (by simp[ha]) (by simp) (by simp)
  .simp[J,M,-aq];exact no (bG λe=>M e.1) _ (by simp[g0]) (by simp[l]) (by simp[ha]) (by simp) (by simp)
 .rintro t m ⟨g0,l,z2,q,I,s⟩ - -;apply ai;simp;rw[FH]at q;exact az (hQ _ _ (vi 0) rfl (by simp[Km.results,aZ]) ⟨by rw[he],I,s,λ_=>⟨z2,q⟩⟩)
theorem Sw(h:bR)(m:h.l.length<=30)(v:∀x∈h.l,Fix x.aW)(clk:Int):∃(g:Tg) (j:bR),j=(if eb h clk=0 then⟨clk,h.ba,g,h.l.map (eG clk)⟩else eu)/\
  aX tab SL [.a (h.row.map .f),vi clk]=Eq (.t [.a (j.row.map .f),vi (eb h clk)]):=by
 obtain⟨g,j,l,d⟩:=yG h m v (PT h m clk);refine⟨g,j,l,aX.eq ?_⟩;refine bH rfl rfl λQ u=>?_;simp[bR.row]at d;apply ai;simp[bR.row];obtain⟨s,b⟩:=aD (ic 64 (C.cl yx [C.ptr 0 0 0,C.ptr 1 0 0]) [bB.box [C.f (fi h.clock),C.f (fi h.ba),C.f (sl h.lg (aL h.l))] 0,bB.box [vi clk |> λ_=>C.f (fi clk)] 0,bB.box [C.f (fi 0),C.f (fi 0),C.f FC.aK] 0]:aj);have q:s[2]?=aa (.box [C.f (fi 0),C.f (fi 0),C.f FC.aK] 0):=by rw[b];rfl
 apply ai;simp[oE,fC,bX,deep,d];simp at b;rw[<-b];simp[q];refine az (u _ _ ?_);simp[Km.results,aZ,au q,fC,bX,deep,bR.row]
end Go.Proofs.YtnaofdffomdmhaaGreat
namespace Go.Proofs.YtnaofdffomdmhaaGreat
open Go Km
def oJ(id:Int)(l:List bC):Option Nat:=l.findIdx? λx=>decide (x.id=id)
theorem sX{id:Int}{l:List bC}{i:Nat}(h:oJ id l=aa i):∃hi:i<l.length,l[i].id=id:=by
 unfold oJ at h;rw[agX]at h;obtain⟨hi,b,_⟩:=h;exact⟨hi,by simpa using b⟩
theorem sW{id:Int}{l:List bC}(h:∀q (b:q<l.length),l[q].id≠id):oJ id l=ab:=by
 unfold oJ;rw[List.findIdx?_eq_none_iff];intro x d;obtain⟨q,b,rfl⟩:=agd d;simp[h q b]
theorem Gl{id:Int}{l:List bC}{i:Nat}(hi:i<l.length)(b:l[i].id=id)(h:∀q (g:q<l.length),q<i->l[q].id≠id):oJ id l=aa i:=by
 unfold oJ;rw[agX];exact⟨hi,by simpa using b,λj d=>by simpa using h j (by omega) d⟩
def bV(h:bR)(id:Int):Int:=if cK h=ag then 1 else match oJ id h.l with
 |none=>4
 |some i=>match h.l[i]? with
  |none=>4| some x=>if x.state=1 then 0 else 7
def R9(i:Nat)(b:Int)(l:List bC):List bC:=match l[i]? with
 |none=>l| some x=>l.set i { x with state:=b }
def eU(h:bR)(id b:Int):bR:=⟨h.clock,h.ba,.nil,match oJ id h.l with
 |none=>h.l
 |some i=>R9 i b h.l⟩
theorem yP{h:bR}(u:cK h=ae){id:Int}{i:Nat}(b:∀j (x:j<h.l.length),j<i->h.l[j].id<id)(m:∀j (x:j<h.l.length),i<=j->id<=h.l[j].id):oJ id h.l=if Dl h.l i id then aa i else ab:=by
 have v:gG h.clock 0 h.l=ae:=by
  unfold cK at u;simp only[afE]at u;exact u.2
 have g:=(pF v).2;rw[ags]at g;by_cases hi:i<h.l.length
 .by_cases l:h.l[i].id=id
  .have:Dl h.l i id=ae:=by simp[Dl,hi,l]
   rw[this,bu rfl];exact Gl hi l λq d s=>by have:=b q d s;omega
  .have:Dl h.l i id=ag:=by simp[Dl,hi,l]
   rw[this,bG (by simp)];refine sW λq d=>?_;rcases agN q i with k|k|k
   .have:=b q d k;omega
   .subst k;exact l
   .have:=g i q hi d k;have:=m i hi (afJ _);omega
 .have:Dl h.l i id=ag:=by simp[Dl,List.getElem?_eq_none (by omega:h.l.length<=i)]
  rw[this,bG (by simp)];exact sW λq d=>by have:=b q d (by omega);omega
theorem PX(h:bR)(hl:h.l.length<=30)(id l:Int):Chg FX [.fp [fi h.clock,fi h.ba,sl h.lg (aL h.l)] 0,.fp [fi id] 0,.fp [fi l] 0] h (bV h id) (eU h id l):=by
 intro H p c hp hL S;have hv:=tf h hl;simp[bR.row]at hv;have e1:∀H:aj,aQ H (aa 3) (.c (.f (.fp [fi h.clock,fi h.ba,sl h.lg (aL h.l)] 0)))=aa (.a [.f (fi h.clock),.f (fi h.ba),.f (sl h.lg (aL h.l))]):=λ_=>rfl;have e2:∀H:aj,aQ H ab (.c (.f (.fp [fi id] 0)))=aa (vi id):=λ_=>rfl;have e3:∀H:aj,aQ H ab (.c (.f (.fp [fi l] 0)))=aa (vi l):=λ_=>rfl;refine dm (C:=λr H'=>r=vi (bV h id)/\H.length<=H'.length/\(∀i y,H[i]?=aa y->i≠p->bt c≠aa i->H'[i]?=aa y)/\
   (bV h id=0->H'[p]?=aa (.box [.f (fi (eU h id l).clock),.f (fi (eU h id l).ba),c] 0)/\LR H' c 10 (aL (eU h id l).l))) aav rfl λQ hQ=>?_
 have A:bV h id≠0->∀(t:T) (k:List de) ,t.g 5=vi (bV h id)->WP tab FX ab (.code .ret::k) ⟨t,[],H⟩ Q:=by
  intro j t k g;exact az (hQ _ _ (vi (bV h id)) rfl (by simp[Km.results,aZ,g]) ⟨rfl,afJ _,λi y hy _ _=>hy,λe=>absurd e j⟩)
 apply ai;simp;apply ak;apply ak;refine av (.inl rfl) ?_;simp[e1,hv];cases E:cK h
 case false=>
  refine al (by simp) (ai ?_);have j:bV h id=1:=by simp[bV,E]
  simp;exact A (by rw[j];decide) _ _ (by rw[j];simp)
 refine bc (by simp) ?_;obtain⟨i,hi,X,W,m⟩:=Gq h hl E id;have b:=yP E X W;simp[bR.row]at m;apply ai;simp[e1,e2,m];apply ak;refine aI ?_;apply ak;refine av (.inl rfl) ?_;simp;cases hf:Dl h.l i id
 case false=>
  rw[hf]at b;simp at b;have j:bV h id=4:=by simp[bV,E,b]
  refine al (by simp) (ai ?_);simp;exact A (by rw[j];decide) _ _ (by rw[j];simp)
 rw[hf]at b;simp at b;have s:i<h.l.length:=(sX b).1;have q:=s;obtain⟨x,hx⟩:=aD (h.l[i]);have L:x.state=h.l[i].state:=by rw[hx]
 rcases hL with⟨U,_⟩|⟨a9,B,ep,rfl,v⟩
 .have:h.l.length=0:=by have:=congrArg List.length U;simpa[aL]using this
  omega
 have Z:(aL h.l).length=h.l.length:=by simp
 have I:(aL h.l)[i]?=aa x.row:=by rw[hx];exact cJ q
 have d:=v.at (show i<(aL h.l).length by omega);have K:=v.ldc (k:=2) (x:=fi x.state) (aY _) I rfl;obtain⟨H4,u,F,J,a8⟩:=v.stp (k:=2) (xs:=[fi l]) (aY _) I (by simp);simp only[afS,afW]at u;have Y:bp x.row 2 [fi l]=(bC.row { x with state:=l }):=rfl;rw[Y,kJ]at F;have N:B≠p:=λe=>S (by rw[e];rfl);have z:aQ H ab (.c (.ptr p 2 0))=aa (.c (.sl B 0 h.l.length 0 ep 10)):=by simp[hp,aO]
 rw[Z]at d;refine aG (by simp) ?_;apply ai;by_cases M:x.state=1
 case neg=>
  have j:bV h id=7:=by simp[bV,E,b,s,<-L,M]
  simp[z,d,K,M,-aq];refine al (by simp) (ai ?_);simp;exact A (by rw[j];decide) _ _ (by rw[j];simp)
 have j:bV h id=0:=by simp[bV,E,b,s,<-L,M]
 simp[z,d,K,M,-aq];refine aG (by simp) (aS (aA ?_));apply ai;simp[z,d,e3,u,-aq,-aU];apply ai;simp;refine az (hQ _ _ (vi 0) rfl (by simp[Km.results,aZ]) ⟨by rw[j],by show H.length<=H4.length;omega,λi y hy hi O=>J.get hy (λe=>O (by rw[e];rfl)),λ_=>⟨J.get hp (Ne.symm N),?_⟩⟩);have h1:(eU h id l).l=h.l.set i { x with state:=l }:=by simp[eU,b,R9,s,hx]
 rw[h1];refine .inr ⟨λe=>?_,B,ep,by simp,F⟩;have:=congrArg List.length e;simp at this;rw[this]at q;simp at q
end Go.Proofs.YtnaofdffomdmhaaGreat
namespace Go.Proofs.YtnaofdffomdmhaaGreat
open Go Km
theorem Hd(h:bR)(q:h.l.length<=30)(y:∀x∈h.l,Fix x.aW)(id l:Int):∃(g:Tg) (j:bR),j=(if bV h id=0 then { eU h id l with lg:=g }else eu)/\
  aX tab aab [.a (h.row.map .f),vi id,vi l]=Eq (.t [.a (j.row.map .f),vi (bV h id)]):=by
 obtain⟨g,j,m,d⟩:=yG h q y (PX h q id l);refine⟨g,j,m,aX.eq ?_⟩;refine bH rfl rfl λQ v=>?_;simp[bR.row]at d;apply ai;simp[bR.row];obtain⟨u,b⟩:=aD (ic 64 (C.cl FX [C.ptr 0 0 0,C.ptr 1 0 0,C.ptr 2 0 0]) [bB.box [C.f (fi h.clock),C.f (fi h.ba),C.f (sl h.lg (aL h.l))] 0,bB.box [C.f (fi id)] 0,bB.box [C.f (fi l)] 0,bB.box [C.f (fi 0),C.f (fi 0),C.f FC.aK] 0]:aj);have s:u[3]?=aa (.box [C.f (fi 0),C.f (fi 0),C.f FC.aK] 0):=by rw[b];rfl
 apply ai;simp[oE,fC,bX,deep,d];rw[<-b];simp[s];refine az (v _ _ ?_);simp[Km.results,aZ,au s,fC,bX,deep,bR.row]
theorem Eg(h:bR)(m:h.l.length<=30)(q:∀x∈h.l,Fix x.aW)(id:Int):∃(g:Tg) (d:bR),d=(if bV h id=0 then { eU h id 2 with lg:=g }else eu)/\
  aX tab SJ [.a (h.row.map .f),vi id]=Eq (.t [.a (d.row.map .f),vi (bV h id)]):=by
 obtain⟨g,d,j,b⟩:=Hd h m q id 2;refine⟨g,d,j,aX.eq ?_⟩;refine bH rfl rfl λQ l=>?_;simp[bR.row]at b;apply ai;simp[bR.row];apply ai;simp[b];refine az (l _ _ ?_);simp[Km.results,aZ,fC,bX,deep,bR.row]
theorem Fj(h:bR)(m:h.l.length<=30)(q:∀x∈h.l,Fix x.aW)(id:Int):∃(g:Tg) (d:bR),d=(if bV h id=0 then { eU h id 3 with lg:=g }else eu)/\
  aX tab SK [.a (h.row.map .f),vi id]=Eq (.t [.a (d.row.map .f),vi (bV h id)]):=by
 obtain⟨g,d,j,b⟩:=Hd h m q id 3;refine⟨g,d,j,aX.eq ?_⟩;refine bH rfl rfl λQ l=>?_;simp[bR.row]at b;apply ai;simp[bR.row];apply ai;simp[b];refine az (l _ _ ?_);simp[Km.results,aZ,fC,bX,deep,bR.row]
end Go.Proofs.YtnaofdffomdmhaaGreat
namespace Go.Proofs.YtnaofdffomdmhaaGreat
open Go Km
def OG(b:Int)(x:bC):Prop:=1<=x.state/\x.state<=4/\0<=x.dl/\x.dl<=2251799813685248/\¬ (x.state=1/\x.dl<b)
theorem Jq{b d:Int}{x:bC}:eF b d x=ae↔OG b x/\d<x.id:=by
 simp only[eF,jw,OG,afE,decide_eq_true_eq,Bool.not_eq_true',Bool.and_eq_false_iff,decide_eq_false_iff_not];omega
theorem vU{b:Int}:∀{last:Int} {l:List bC},gG b last l=ae↔(∀x∈l,OG b x/\last<x.id)/\l.Pairwise λx y=>x.id<y.id
 |_,[]=>by simp[gG]
 |last,x::r=>by
  rw[gG,afE,Jq,vU,agt];constructor
  .rintro⟨⟨j,m⟩,g,q⟩;refine⟨λy d=>?_,λy d=>(g y d).2,q⟩;rcases afZ.1 d with rfl|d
   .exact⟨j,m⟩
   .exact⟨(g y d).1,by have:=(g y d).2;omega⟩
  .rintro⟨j,m,g⟩;exact⟨j x afN,λy d=>⟨(j y (afQ _ d)).1,m y d⟩,g⟩
def jv(m r t z n p mi le:Int):aB:=⟨m,r,t,z,⟨.fs,[⟨.fs,[⟨.fs,[⟨.nil,[],0,n,.fs,[p]⟩]⟩],mi⟩],le,.nil,[]⟩⟩
structure adw(m r t z n p mi le:Int):Prop where
 m0:1<=m
 m1:m<=22
 r0:0<=r
 r1:r<=2
 t0:0<=t
 t1:t<=2
 z0:1<=z
 z1:z<=12
 n0:1<=n
 n1:n<=6
 p0:0<=p
 p1:p<n
 i0:∃k:Nat,k<60/\mi=20*k
 l0:10<=le
 l1:le<=300
def iL(s:aB):Prop:=∃m r t z n p mi le,s=jv m r t z n p mi le/\adw m r t z n p mi le
structure nS(h:bR):Prop where
 v:cK h=ae
 c0:100<=h.clock
 c1:h.clock<=100000
 d:h.ba=5
 f:∀x∈h.l,(1<=x.id/\x.id<=8\/x.id=100)/\iL x.aW
theorem fq{h:bR}:cK h=ae↔jw h.clock=ae/\jw h.ba=ae/\(∀x∈h.l,OG h.clock x/\0<x.id)/\h.l.Pairwise λx y=>x.id<y.id:=by
 rw[cK,afE,afE,vU,and_assoc]
theorem P1:∀{l:List Int} {lo hi:Int},l.Pairwise (· < ·)->(∀x∈l,lo<=x/\x<=hi)->lo<=hi+1->(l.length:Int)<=hi+1-lo
 |[],lo,hi,_,_,h=>by simp;omega
 |x::r,lo,hi,j,d,h=>by
  have b:=agt.1 j;have m:=d x afN;have:=P1 (lo:=x+1) (hi:=hi) b.2 (λy g=>⟨by have:=b.1 y g;omega,(d y (afQ _ g)).2⟩) (by omega);simp only[List.length_cons];omega
theorem nS.len{h:bR}(k:nS h):h.l.length<=9:=by
 have d:=(fq.1 k.v).2.2.2;have:=P1 (l:=h.l.map λx=>if x.id=100 then 9 else x.id) (lo:=1) (hi:=9) (by
  rw[ahk];refine List.Pairwise.imp_of_mem (λ{x y} b hy g=>?_) d;have h1:=(k.f x b).1;have h2:=(k.f y hy).1;split<;>split<;>omega) (λy hy=>by
  obtain⟨x,b,rfl⟩:=af6.1 hy;have h1:=(k.f x b).1;split<;>omega) (by omega)
 simp at this;omega
theorem XD{n:Int}(h0:0<=n)(b:n<=2251799813685248):jw n=ae:=by simp[jw,h0,b]
theorem Hc{h:bR}(k:nS h){c:Int}(h0:h.clock<=c)(l:c<=100000)(g:Tg):nS ⟨c,h.ba,g,h.l.map (eG c)⟩:=by
 obtain⟨u,m,q,s⟩:=fq.1 k.v;have k0:=k.c0;have id:∀x:bC,(eG c x).id=x.id/\(eG c x).aW=x.aW:=λx=>by unfold eG;split<;>exact⟨rfl,rfl⟩
 refine⟨fq.2 ⟨XD (by show 0<=c;omega) (by show c<=_;omega),m,λy j=>?_,?_⟩,by show 100<=c;omega,l,k.d,λy j=>?_⟩
 .obtain⟨x,d,rfl⟩:=af6.1 j;obtain⟨a,b⟩:=q x d;refine⟨?_,by rw[(id x).1];exact b⟩;unfold OG at *;unfold eG;split
  .rename_i e;simp only;omega
  .rename_i e;refine⟨a.1,a.2.1,a.2.2.1,a.2.2.2.1,e⟩
 .show(h.l.map (eG c)).Pairwise _;rw[ahk];exact List.Pairwise.imp (λ{x y} e=>by rw[(id x).1,(id y).1];exact e) s
 .obtain⟨x,d,rfl⟩:=af6.1 j;rw[(id x).1,(id x).2];exact k.f x d
theorem He{h:bR}(k:nS h){id b:Int}(B:b=2\/b=3)(g:Tg):nS { eU h id b with lg:=g }:=by
 obtain⟨u,v,q,z⟩:=fq.1 k.v;unfold eU;cases A:oJ id h.l with
 |none=>exact⟨fq.2 ⟨u,v,q,z⟩,k.c0,k.c1,k.d,k.f⟩
 |some i=>
  obtain⟨hi,-⟩:=sX A;simp only[R9,afB hi];have l:∀y∈h.l.set i { h.l[i]with state:=b },∃x∈h.l,y=x\/y = { x with state:=b }:=λy j=>by
   rcases List.mem_or_eq_of_mem_set j with h|rfl
   .exact⟨y,h,.inl rfl⟩
   .exact⟨h.l[i],afH hi,.inr rfl⟩
  have d:(h.l.set i { h.l[i]with state:=b }).map bC.id=h.l.map bC.id:=by
   rw[List.map_set];have:(bC.id { h.l[i]with state:=b })=(h.l.map bC.id)[i]'(by simpa using hi):=by simp
   rw[this,ag4]
  refine⟨fq.2 ⟨u,v,λy j=>?_,?_⟩,k.c0,k.c1,k.d,λy j=>?_⟩
  .obtain⟨x,m,rfl|rfl⟩:=l y j
   .exact q _ m
   .have:=q x m;unfold OG at *;simp only;omega
  .have s:(h.l.map bC.id).Pairwise (· < ·):=by rw[ahk];exact z
   rw[<-d,ahk]at s;exact s
  .obtain⟨x,m,e⟩:=l y j;have:=k.f x m;rcases e with rfl|rfl<;>exact this
theorem N6{h:bR}(k:nS h){x:bC}(E:OG h.clock x)(h0:0<x.id)(v:(1<=x.id/\x.id<=8\/x.id=100)/\iL x.aW){i:Nat}(u:∀j (l:j<h.l.length),j<i->h.l[j].id<x.id)(s:∀j (l:j<h.l.length),i<=j->x.id<h.l[j].id)(g:Tg) :
  nS ⟨h.clock,h.ba,g,h.l.take i++x::h.l.drop i⟩:=by
 obtain⟨H,I,J,A⟩:=fq.1 k.v;have m:∀y∈h.l.take i++x::h.l.drop i,y=x\/y∈h.l:=λy d=>by
  rcases List.mem_append.1 d with d|d
  .exact .inr (List.mem_of_mem_take d)
  .rcases afZ.1 d with e|d
   .exact .inl e
   .exact .inr (List.mem_of_mem_drop d)
 have F:∀y∈h.l.take i,y.id<x.id:=λy d=>by
  obtain⟨j,l,rfl⟩:=agd d;rw[af2]at l;rw[List.getElem_take];exact u j (by omega) (by omega)
 have z:∀y∈h.l.drop i,x.id<y.id:=λy d=>by
  obtain⟨j,l,rfl⟩:=agd d;rw[List.length_drop]at l;rw[List.getElem_drop];exact s (i+j) (by omega) (by omega)
 refine⟨fq.2 ⟨H,I,λy d=>?_,?_⟩,k.c0,k.c1,k.d,λy d=>?_⟩
 .rcases m y d with e|d
  .rw[e];exact⟨E,h0⟩
  .exact J y d
 .show(h.l.take i++x::h.l.drop i).Pairwise _;refine List.pairwise_append.2 ⟨A.sublist (List.take_sublist _ _),agt.2 ⟨z,A.sublist (List.drop_sublist _ _)⟩,λa B b q=>?_⟩;have:=F a B;rcases afZ.1 q with e|q
  .rw[e];exact this
  .have:=z b q;omega
 .rcases m y d with e|d
  .rw[e];exact v
  .exact k.f y d
end Go.Proofs.YtnaofdffomdmhaaGreat
namespace Go.Proofs.YtnaofdffomdmhaaGreat
open Go Km
end Go.Proofs.YtnaofdffomdmhaaGreat
namespace Go.Proofs.YtnaofdffomdmhaaGreat
open Go Km
theorem qR{a b:Int}(h:0<=a)(g:0<b)(d:a<=9223372036854775807):ei .quo (vi a) (vi b)=aa (vi (a / b)):=by
 rw[F5 (by omega),Int.tdiv_eq_ediv_of_nonneg h,wrap64 (Int.le_trans (by omega) (Int.ediv_nonneg h (by omega))) (Int.le_trans (ahv _ h) d)]
theorem O7{a b:Int}(h:0<=a)(d:0<b):ei .rem (vi a) (vi b)=aa (vi (a % b)):=by
 rw[An (by omega),ag1 h]
theorem Yb{a b:Int}(h:a<=0)(m:0<b)(l:-9223372036854775807<=a):ei .quo (vi a) (vi b)=aa (vi (-((-a) / b))):=by
 have g:(-a) / b<=-a:=ahv _ (by omega);have j:0<=(-a) / b:=Int.ediv_nonneg (by omega) (by omega);have d:a.tdiv b = -((-a) / b):=by
  have:a = -(-a):=by omega
  rw[this,Int.neg_tdiv,Int.tdiv_eq_ediv_of_nonneg (by omega)];simp
 rw[F5 (by omega),d,bg]
theorem Yc{a b:Int}(h:a<=0)(g:0<b):ei .rem (vi a) (vi b)=aa (vi (-((-a) % b))):=by
 have d:a.tmod b = -((-a) % b):=by
  have:a = -(-a):=by omega
  rw[this,Int.neg_tmod,ag1 (by omega)];simp
 rw[An (by omega),d]
theorem tP(a b:Int)(B:1<=b)(A:-4611686018427387904<=a)(g:a<=4611686018427387904):aX tab aaj [vi a,vi b]=Eq (.t [vi (a / b),vi 0]):=aX.eq (by
 refine bH rfl rfl λQ d=>?_;apply ai;simp;apply ak;apply ai;simp;refine aG (by simp;omega) (aS ?_);by_cases h:0<=a
 .apply ai;simp[qR h (show 0<b by omega) (by omega)];apply ak;apply ai;have:=agL a (show b≠0 by omega);simp[O7 h (show 0<b by omega)];refine aG (by simp;omega) (aS ?_);apply ai;simp;refine az (d _ _ ?_);simp
 .apply ai;simp[Yb (show a<=0 by omega) (show 0<b by omega) (by omega)];apply ak;apply ai;have e:=agL (-a) (show b≠0 by omega);have j:=agM (-a) (show 0<b by omega);have q:0<=(-a) / b:=Int.ediv_nonneg (by omega) (by omega);have m:(-a) / b<=-a:=ahv _ (by omega);have l:=Int.mul_ediv_add_emod (-a) b;simp[Yc (show a<=0 by omega) (show 0<b by omega)];by_cases s:(-a) % b=0
  .refine aG (by simp;omega) (aS ?_);apply ai;simp;refine az (d _ _ ?_);have:a / b = -(-a / b):=by
    refine Int.ediv_eq_of_eq_mul_right (by omega) ?_;rw[Int.mul_neg];omega
   simp[this]
  .refine al (by simp;omega) ?_;refine av (.inl rfl) ?_;simp[bg (n:=-(-a / b)-1)];apply ai;simp;refine az (d _ _ ?_);have:a / b = -(-a / b)-1:=by
    have u:=agL a (show b≠0 by omega);have v:=agM a (show 0<b by omega);have x:=Int.mul_ediv_add_emod a b;have y:b*(a / b+(-a) / b+1)=b-a % b-(-a) % b:=by rw[Int.mul_add,Int.mul_add];omega
    have z:a / b+(-a) / b+1=0:=by
     rcases Int.lt_trichotomy (a / b+(-a) / b+1) 0 with h|h|h
     .have:b*(a / b+(-a) / b+1)<=b*(-1):=aht (by omega) (by omega);omega
     .exact h
     .have:b*1<=b*(a / b+(-a) / b+1):=aht (by omega) (by omega);omega
    omega
   simp[this])
theorem vQ(a:Int)(g:-4611686018427387904<=a)(b:a<=4611686018427387904):aX tab Z6 [vi a]=Eq (vi (a / 1440)):=Kf.eq (by
 refine cr rfl rfl λH Q d=>?_;apply ai;simp;apply ai;simp[tP a 1440 (by omega) g b];apply ai;simp;refine az (d _ _ ?_);simp)
def cm(len mi d:Int):aE:=⟨d,d*1440+mi,d*1440+mi+len⟩
def fK(n:Int):Prop:=-1000000000000000<=n/\n<=1000000000000000
theorem B0(b g j:FC)(len mi d:Int)(m:fK len)(q:fK mi)(s:fK d) :
  aX tab Z7 [.a [.f b,.f (fi len),.f g],.a [.f j,.f (fi mi)],vi d]=Eq (.a ((cm len mi d).row.map .f)):=aX.eq (Kf.A3 (by
 unfold fK at *;refine cr rfl rfl λH Q l=>?_;apply ai;simp;apply ai;simp[bg (n:=d*1440),bg (n:=d*1440+mi)];apply ai;simp[bg (n:=d*1440+mi+len)];refine az (l _ _ ?_);simp[cm,aE.row]))
def yI(a b c d:Int):Bool:=decide (a<d)&&decide (c<b)
end Go.Proofs.YtnaofdffomdmhaaGreat
namespace Go.Proofs.YtnaofdffomdmhaaGreat
open Go Km
end Go.Proofs.YtnaofdffomdmhaaGreat
namespace Go.Proofs.YtnaofdffomdmhaaGreat
open Go Km
end Go.Proofs.YtnaofdffomdmhaaGreat
namespace Go.Proofs.YtnaofdffomdmhaaGreat
open Go Km
end Go.Proofs.YtnaofdffomdmhaaGreat
namespace Go.Proofs.YtnaofdffomdmhaaGreat
open Go Km
theorem Cg(a b:Int):aX tab ads [vi a,vi b]=Eq (vb (decide (a<b))):=Kf.eq (by
 refine cr rfl rfl λH Q d=>?_;apply ai;simp;apply ai;simp[rH];refine az (d _ _ ?_);simp[rH])
theorem Sa(a:Int):aX tab Wb [vi a]=Eq (vb ag):=Kf.eq (by
 refine cr rfl rfl λH Q b=>?_;apply ai;simp;apply ai;simp;refine az (b _ _ ?_);simp)
theorem Eb(g:Tg)(l:List Int)(n:Int)(c:l.length<=1000000000)(Y:l.Pairwise (· < ·)) :
  ∃i:Nat,i<=l.length/\(∀j (b:j<l.length),j<i->l[j]<n)/\(∀j (b:j<l.length),i<=j->n<=l[j])/\
   aX tab MF [.c (.f (sl g (ints l))),vi n]=Eq (.t [vi i,vb (decide (n∈l))]):=by
 obtain⟨r,⟨i,U,W,J,rfl⟩,h⟩:∃r,(∃i:Nat,i<=l.length/\(∀j (b:j<l.length),j<i->l[j]<n)/\(∀j (b:j<l.length),i<=j->n<=l[j])/\r=.t [vi i,vb (decide (n∈l))])/\
   aX tab MF [.c (.f (sl g (ints l))),vi n] r:=by
  refine cN rfl rfl λQ K=>?_;have x:∀i j (hi:i<j) (b:j<l.length),l[i]<l[j]:=λi j hi b=>ags.1 Y i j (by omega) b hi;apply ai;simp;apply ai;simp;apply ai;simp;apply ak;refine aI ?_;refine dx (λm s=>∃(lo hi:Nat) (t:T),s=⟨t,[],[]⟩/\m=hi-lo/\lo<=hi/\hi<=l.length/\t.g 0=.c (.f (sl g (ints l)))/\t.g 1=vi n/\t.g 6=vi l.length/\t.g 7=vi lo/\t.g 8=vi hi/\
   (∀j (b:j<l.length),j<lo->l[j]<n)/\(∀j (b:j<l.length),hi<=j->n<=l[j])) l.length
   ⟨0,l.length,_,rfl,by omega,by omega,by omega,by simp,by simp,by simp,by simp,by simp,by simp,by intros;omega⟩ ?_
  rintro m s ⟨lo,hi,t,rfl,rfl,X,y,g0,A,E,B,I,d,u⟩ next
  apply ak;apply ai;simp[B,I];by_cases M:lo<hi
  .refine al (by simp[M]) (aS ?_);obtain⟨q,f⟩:=aD ((lo+hi) / 2);have F:q<l.length:=by omega
   have S:ei BinOp.shr (V.c (C.f (FC.int IntKind.u64 (IntKind.u64.wrap ((lo:Int)+hi))))) (V.c (C.f (FC.int IntKind.u64 1)))=aa (.c (.f (.int .u64 (q:Int)))):=by
    have:IntKind.u64.wrap ((lo:Int)+hi)=(lo:Int)+hi:=by
     show((lo:Int)+hi) % 18446744073709551616=_;omega
    rw[this];show aa (V.c (C.f (FC.int IntKind.u64 (Int.fdiv ((lo:Int)+hi) (2 ^ (min (1:Int).toNat IntKind.u64.bits))))))=_;have J:Int.fdiv ((lo:Int)+hi) (2 ^ (min (1:Int).toNat IntKind.u64.bits))=q:=by
     show Int.fdiv ((lo:Int)+hi) 2=q;rw[Int.fdiv_eq_ediv_of_nonneg _ (by omega)];omega
    rw[J]
   have Z:=bg (n:=(lo:Int)+hi);have O:IntKind.i64.wrap (q:Int)=q:=bg;refine aI ?_;apply ai;simp[B,I,Z,S,O];apply ai;simp[g0,A,a7,F,kr,Cg];by_cases L:l[q]<n
   .refine al (by simp[L]) ?_;refine av (.inl rfl) ?_;simp[bg (n:=(q:Int)+1)];refine aA (next (hi-(q+1)) _ (by omega) ⟨q+1,hi,_,rfl,rfl,by omega,by omega,by simp[g0],by simp[A],by simp[E],by simp,by simp[I],λj b h=>?_,u⟩);by_cases e:j=q
    .subst e;exact L
    .have:=x j q (by omega) F;omega
   .refine aG (by simp[L]) ?_;refine av (.inl rfl) ?_;simp;refine aA (next (q-lo) _ (by omega) ⟨lo,q,_,rfl,rfl,by omega,by omega,by simp[g0],by simp[A],by simp[E],by simp[B],by simp,d,λj b h=>?_⟩);by_cases e:j=q
    .subst e;omega
    .have:=x q j (by omega) b;omega
  .have:lo=hi:=by omega
   subst this;refine aG (by simp) ?_;refine bT rfl ?_;apply ai;by_cases v:lo<l.length
   .have a:=u lo v (by omega);by_cases H:l[lo]=n
    .simp[g0,A,E,B,v,a7,kr,H];refine az (K _ _ _ ⟨lo,y,d,u,rfl⟩ ?_);have:n∈l:=H▸afH v;simp[this]
    .have z:n ∉ l:=λN=>by
      obtain⟨j,b,rfl⟩:=agd N;rcases agN j lo with h|h|h
      .have:=d j b h;omega
      .subst h;exact H rfl
      .have:=x lo j h b;omega
     simp[g0,A,E,B,v,a7,kr,H,Sa];refine az (K _ _ _ ⟨lo,y,d,u,rfl⟩ ?_);simp[z]
   .have z:n ∉ l:=λN=>by
     obtain⟨j,b,rfl⟩:=agd N;have:=d j b (by omega);omega
    simp[g0,A,E,B,v];refine az (K _ _ _ ⟨lo,y,d,u,rfl⟩ ?_);simp[z]
 exact⟨i,U,W,J,aX.eq h⟩
end Go.Proofs.YtnaofdffomdmhaaGreat
namespace Go.Proofs.YtnaofdffomdmhaaGreat
open Go Km
theorem nL{d:Int}:∀{l:List Int} {b:Int},fm d b l=ae->l.Pairwise (· < ·)/\∀c∈l,b<c/\c<d
 |[],_,_=>⟨List.Pairwise.nil,by simp⟩
 |a::l,b,h=>by
  simp only[fm,afE,decide_eq_true_eq]at h;obtain⟨⟨m,q⟩,s⟩:=h;obtain⟨u,j⟩:=nL s;refine⟨agt.2 ⟨λc g=>(j c g).1,u⟩,λc g=>?_⟩;rcases afZ.1 g with rfl|g
  .exact⟨m,q⟩
  .have:=j c g;omega
theorem JU{p:fB}(h:jZ p=ae):0<=p.fr/\p.fr<=1099511627776/\1<=p.zq/\p.zq<=1099511627776/\p.head.length+p.BY.length<=1048576/\p.head.Pairwise (· < ·)/\(∀c∈p.head,-1<c/\c<p.fr)/\p.BY.Pairwise (· < ·)/\∀c∈p.BY,-1<c/\c<p.zq:=by
 unfold jZ at h;simp only[afE,decide_eq_true_eq]at h;obtain⟨⟨⟨⟨⟨⟨g,j⟩,l⟩,m⟩,u⟩,q⟩,s⟩:=h;obtain⟨a1,b⟩:=nL q;obtain⟨b1,d⟩:=nL s;exact⟨g,j,l,m,by omega,a1,b,b1,d⟩
def JH(p:fB)(d:Int):Bool:=if p.fr<=d then decide ((d-p.fr) % p.zq∈p.BY)else decide (d∈p.head)
def Day(d:Int):Prop:=d<=2305843009213693952
theorem JI(p:fB)(h:jZ p=ae)(d:Int)(h0:0<=d)(x:Day d):aX tab Mk [.a (p.row.map .f),vi d]=Eq (vb (JH p d)):=Kf.eq (by
 obtain⟨A,B,E,F,I,s,K,u,L⟩:=JU h;unfold Day at x;refine cr rfl rfl λH Q v=>?_;have j:∀(t:T) (J:aj) (g:Tg) (l:List Int) (n:Int),l.length<=1048576->l.Pairwise (· < ·)->t.g 5=.c (.f (sl g (ints l)))->t.g 6=vi n->JH p d=decide (n∈l)->WP tab Mk ab [.code Lt] ⟨t,[],H++J⟩ Q:=by
  intro t J g l n M y m q e;obtain⟨i,-,-,-,z⟩:=Eb g l n (by omega) y;apply ai;simp[m,q,z];apply ai;simp;refine az (v _ _ ?_);simp[e]
 apply ai;simp[fB.row];apply ai;simp;apply ak;apply ai;simp;by_cases k:p.fr<=d
 .refine al (by simp[k]) ?_;refine av (.inl rfl) ?_;simp[bg (n:=d-p.fr),O7 (a:=d-p.fr) (b:=p.zq) (by omega) (by omega)];exact j _ _ p.cg p.BY ((d-p.fr) % p.zq) (by omega) u (by simp) (by simp) (by simp[JH,k])
 .refine bc (by simp[k]) ?_;exact j _ _ p.hg p.head d (by omega) s (by simp) (by simp) (by simp[JH,k]))
def hasB(p:fB)(d:Int):Bool:=decide (0<=d)&&JH p d
theorem RY(p:fB)(h:jZ p=ae)(d:Int)(l:Day d):Kf tab Vt [.a (p.row.map .f),vi d] (vb (hasB p d)):=by
 refine cr rfl rfl λH Q g=>?_;have b:=OP p (GQ h);rw[h]at b;apply ai;simp[fB.row]at b ⊢;apply ai;by_cases k:0<=d
 .have j:=JI p h d k l;simp[fB.row]at j;simp[b,k,j];refine az (g _ _ ?_);simp[hasB,k]
 .simp[b,k];refine az (g _ _ ?_);simp[hasB,k]
theorem JO(p:fB)(h:jZ p=ae)(d:Int)(j:Day d):Kf tab MV [.a (p.row.map .f),.c (.f (.fp [fi d] 0))] (vb (!hasB p d)):=by
 refine cr rfl rfl λH Q g=>?_;have b:=(RY p h d j).eq;simp[fB.row]at b;have l:∀H:aj,aQ H ab (.c (.f (.fp [fi d] 0)))=aa (vi d):=λH=>by simp[aQ,aw]
 apply ai;simp[fB.row];apply ai;simp[l,b];refine az (g _ _ ?_);simp
def Tk(l:List fB)(d:Int):Bool:=l.all λp=>hasB p d
theorem aa0(g:Tg)(l:List fB)(v:l.length<=9223372036854775807)(h:∀p∈l,jZ p=ae)(d:Int)(s:Day d):Kf tab aai [.c (.f (sl g (gr l))),vi d] (vb (Tk l d)):=by
 refine cr rfl rfl λH Q m=>?_;have q:=(ik M0 (mW M1 l fB.row (λr=>.a (r.row.map .f)) (λp=>!hasB p d) g MV [.fp [fi d] 0] v
  (λj u H=>bE (rU l) (wF u)) (λp x=>JO p (h p x) d s))).eq
 have e:(!l.any λp=>!hasB p d)=Tk l d:=by
  rw[Tk,agH];simp[agW,af4]
 apply ai;simp;apply ai;have b:aX tab DS [.c (.f (sl g (gr l))),.c (.f (.fn MV [.fp [fi d] 0]))]=Eq (vb (l.any λp=>!hasB p d)):=q;simp[deep,Oy,EX,b,e];refine az (m _ _ ?_);simp
theorem Xk(t:dV)(l:t.fs.length<=9223372036854775807)(h:∀p∈t.fs,jZ p=ae)(d:Int)(j:Day d):Kf tab MS [.c (.f (sl t.tg (gr t.fs))),.c (.f (.fp [fi d] 0))] (vb (Tk t.fs d)):=by
 refine cr rfl rfl λH Q g=>?_;have b:∀H:aj,aQ H ab (.c (.f (.fp [fi d] 0)))=aa (vi d):=λH=>by simp[aQ,aw]
 apply ai;simp;apply ai;simp[b,(aa0 t.tg t.fs l h d j).eq];refine az (g _ _ ?_);simp
def Ov(l:List dV)(d:Int):Bool:=oh l&&l.any λt=>Tk t.fs d
theorem nO{t:dV}(h:mw t=ae):1<=t.fs.length/\t.fs.length<=4/\∀p∈t.fs,jZ p=ae:=by
 unfold mw at h;simp only[afE,decide_eq_true_eq,af4]at h;exact⟨by omega,by omega,h.2⟩
theorem JL{l:List dV}(h:oh l=ae):l.length<=64/\∀t∈l,mw t=ae:=by
 unfold oh at h;simp only[afE,decide_eq_true_eq,af4]at h;exact⟨by omega,h.2⟩
theorem RL(g:Tg)(l:List dV)(h:oh l=ae)(d:Int)(x:Day d):aX tab SX [.a [.f (sl g (aT l))],vi d]=Eq (vb (Ov l d)):=Kf.eq (by
 obtain⟨A,m⟩:=JL h;have s:=Ow g l (by omega) (λt b=>⟨by have:=(nO (m t b)).2.1;omega,λp z=>GQ ((nO (m t b)).2.2 p z)⟩);have v:=(ik Wn (mW Wt l dV.row (λt=>.c (.f (sl t.tg (gr t.fs)))) (λt=>Tk t.fs d) g MS [.fp [fi d] 0] (by omega)
  (λj y H=>kU (qp l) (uf y) rfl) (λt b=>Xk t (by have:=(nO (m t b)).2.1;omega) (nO (m t b)).2.2 d x))).eq
 have q:aX tab MH [.c (.f (sl g (aT l))),.c (.f (.fn MS [.fp [fi d] 0]))]=Eq (vb (l.any λt=>Tk t.fs d)):=v;rw[h]at s;refine cr rfl rfl λH Q u=>?_;apply ai;simp;apply ai;simp[s,deep,Oy,EX,q];refine az (u _ _ ?_);simp[Ov,h])
end Go.Proofs.YtnaofdffomdmhaaGreat
namespace Go.Proofs.YtnaofdffomdmhaaGreat
open Go Km
end Go.Proofs.YtnaofdffomdmhaaGreat
namespace Go.Proofs.YtnaofdffomdmhaaGreat
open Go Km
end Go.Proofs.YtnaofdffomdmhaaGreat
namespace Go.Proofs.YtnaofdffomdmhaaGreat
open Go Km
end Go.Proofs.YtnaofdffomdmhaaGreat
namespace Go.Proofs.YtnaofdffomdmhaaGreat
open Go Km
end Go.Proofs.YtnaofdffomdmhaaGreat
namespace Go.Proofs.YtnaofdffomdmhaaGreat
open Go Km
theorem jI{n b:Nat}(g:n<=1100000)(d:b<=4096):bU n b=ae:=by
 have h:(2*n+768)*b<=2200768*4096:=Nat.mul_le_mul (by omega) d;simp[bU];omega
def D0(S:Int->Prop)(l:Int)(f:Bool):Prop:=(f=ag/\l=0/\∀d,¬ S d)\/(f=ae/\S l/\∀d,S d->l<=d)
theorem D0.iff{S m:Int->Prop}{l:Int}{f:Bool}(h:D0 S l f)(g:∀d,m d↔S d):D0 m l f:=by
 rcases h with⟨a,b,c⟩|⟨a,b,c⟩
 .exact .inl ⟨a,b,λd j=>c d ((g d).1 j)⟩
 .exact .inr ⟨a,(g _).2 b,λd j=>c d ((g d).1 j)⟩
end Go.Proofs.YtnaofdffomdmhaaGreat
namespace Go.Proofs.YtnaofdffomdmhaaGreat
open Go Km
end Go.Proofs.YtnaofdffomdmhaaGreat
namespace Go.Proofs.YtnaofdffomdmhaaGreat
open Go Km
theorem iV{k:IntKind}{a b:Int}(h:0<=a)(d:b≠0):ei .rem (.c (.f (.int k a))) (.c (.f (.int k b)))=aa (.c (.f (.int k (a % b)))):=by
 rw[An d,ag1 h]
def iG:FC:=.fs [.fs [.fs [.aK,fi 0,fi 1,.fs [fi 0] 1] 1] 1,fi 0,fi 1440] 1
def qn(af:Int)(d:Tg)(q:List (Int × Int))(b:Tg)(p:List Int):bZ:=⟨10,0,af,fi 0,.fs [fi 3] 1,fi (-1),.aK,fi 0,.aK,fi 0,.aK,iG,.aK,d,q,b,p⟩
def bQ(af b:Int):List bZ:=[qn af .fs [(1,b)] .nil [],qn af .nil [] .nil [],qn af .nil [] .fs [0,1]]
def Pl(af b:Int):V:=.c (.f (sl .fs (rows (bQ af b))))
set_option maxRecDepth 10000
theorem Pm(a q:Int)(j:0<=a)(a1:a<=255)(s:0<=q)(u:q<=65535):aX tab VW [.c (.f (.int .u8 a)),.c (.f (.int .u16 q))]=Eq (Pl (a % 40) (q % 3000)):=aX.eq (by
 refine bH rfl rfl λQ l=>?_;have g:=iV (k:=.u8) (b:=40) j (by decide);have d:=iV (k:=.i64) (b:=3000) s (by decide);apply ai;simp;apply ai;simp;apply ai;simp;apply ai;simp[g,bg (n:=a % 40)];refine ak (dy (.inl rfl) ?_ ?_)
 case _=>
  simp;apply ai;simp[bg (n:=q),d];apply ai;simp;apply ai;simp;refine az (l _ _ ?_);simp[fC,bX,deep,ml,aZ,Pl,bQ,rows,bZ.row,qn,iG,sl,Tg.fc,fW,ints]
 .intro c m;rw[afO.1 m];refine⟨by decide,_,rfl,.inl ⟨by decide,?_⟩⟩;simp[fO,V.beq,iT,C.beq,FC.beq])
def u8s(l:List Int):List C:=l.map λx=>.f (.int .u8 x)
theorem PJ(l s u m d g q j:Int)(h:∀x∈[l,s,u,m,d,g,q,j],0<=x/\x<=255) :
  aX tab Mw [.a (u8s [l,s,u,m,d,g,q,j])]=Eq (.a ((jv (1+l % 7) (s % 3) (u % 3) (1+m % 12) (1+d % 6) (g % (1+d % 6)) (20*(q % 60)) (10+10*(j % 30))).row.map .f)):=aX.eq (by
 have b0:=h l (by simp);have b1:=h s (by simp);have v:=h u (by simp);have y:=h m (by simp);have z:=h d (by simp);have A:=h g (by simp);have B:=h q (by simp);have E:=h j (by simp);refine bH rfl rfl λQ O=>?_;have F:=iV (k:=.u8) (b:=7) b0.1 (by decide);have H:=iV (k:=.u8) (b:=3) b1.1 (by decide);have I:=iV (k:=.u8) (b:=3) v.1 (by decide);have J:=iV (k:=.u8) (b:=12) y.1 (by decide);have K:=iV (k:=.u8) (b:=6) z.1 (by decide);have L:=iV (k:=.i64) (b:=1+d % 6) A.1 (by omega);have M:=iV (k:=.u8) (b:=60) B.1 (by decide);have N:=iV (k:=.u8) (b:=30) E.1 (by decide);have S:=agL g (show 1+d % 6≠0 by omega);have U:=agM g (show 0<1+d % 6 by omega);apply ai;simp[u8s];apply ai;simp[K,bg (n:=d % 6),bg (n:=1+d % 6)];apply ai;simp[bg (n:=g),L];apply ai;simp[N,M,bg (n:=j % 30),bg (n:=10*(j % 30)),bg (n:=10+10*(j % 30)),bg (n:=q % 60),bg (n:=20*(q % 60))];apply ai;simp[F,H,I,J,bg (n:=l % 7),bg (n:=1+l % 7),bg (n:=s % 3),bg (n:=u % 3),bg (n:=m % 12),bg (n:=1+m % 12)];refine az (O _ _ ?_);simp[fC,bX,deep,ml,aZ,jv,aB.row,aC,aP,bK.row,aT,dV.row,gr,fB.row,ints,sl,Tg.fc])
end Go.Proofs.YtnaofdffomdmhaaGreat
namespace Go.Proofs.YtnaofdffomdmhaaGreat
open Go Km
theorem adV(args:List V)(H:aj)(h:tab.get gk=ab):tab.ub gk args H=Km.ub gk args H:=by
 show(match tab.get gk with|some _=>ab|none=>Km.ub gk args H)=_;rw[h]
abbrev RK(f:Nat)(args:List V)(r:V):Prop:=bL tab 400 60 (.fn f) args .e 0 (isR r)
theorem du{f:Nat}{args:List V}{r:V}(h:RK f args r=(r=r)):aX tab f args=Eq r:=(O5 adV h).eq
theorem nN{b:Type}{L:List b}{f:Nat}{args:b->List V}{res:b->V}(h:L.map (λx=>RK f (args x) (res x))=L.map λx=>(res x=res x)){x:b}(d:x∈L):aX tab f (args x)=Eq (res x):=
 du (agb.1 h x d)
def mx(n p:Int):V:=.a [.f (.fs [.fs [.aK,fi 0,fi n,.fs [fi p] 1] 1] 1)]
def gJ:V:=.a [.f .aK]
def qX:V:=.a [.f (.fs [.fs [.es,fi 0,fi 1,.fs [fi 0] 1] 1] 1)]
def Eo:List (Int × Int):=[(1,0),(2,0),(2,1),(3,0),(3,1),(3,2),(4,0),(4,1),(4,2),(4,3),(5,0),(5,1),(5,2),(5,3),(5,4),(6,0),(6,1),(6,2),(6,3),(6,4),(6,5)]
def mP(n p:Int):Prop:=1<=n/\n<=6/\0<=p/\p<n
theorem dn{n p:Int}(h:mP n p):(n,p)∈Eo:=by
 obtain⟨b,d,g,j⟩:=h;obtain rfl|rfl|rfl|rfl|rfl|rfl:n=1\/n=2\/n=3\/n=4\/n=5\/n=6:=by omega
 all_goals obtain rfl|rfl|rfl|rfl|rfl|rfl:p=0\/p=1\/p=2\/p=3\/p=4\/p=5:=by omega
 all_goals first|omega|simp[Eo]
def A_(n p:Int):Int:=if p=0 then n-1 else p-1
set_option maxHeartbeats 100000000
theorem nA:Eo.map (λx=>(RK 106 [mx x.1 x.2,vi (-1)] (.t [mx x.1 (A_ x.1 x.2),vi 0]),RK 214 [mx x.1 x.2] (.t [.a [.f .es,.f (fi 0),.f (fi x.1),.f (.fs [fi x.2] 1)],vi 0]),RK 210 [mx x.1 x.2,qX] (.t [gJ,vi 0]),RK 210 [mx x.1 x.2,gJ] (.t [mx x.1 x.2,vi 0]),RK 58 [mx x.1 x.2] (vb ag),RK 211 [mx x.1 x.2,vi 0] (.t [vi x.2,vb ae]))) =
  Eo.map λx=>((.t [mx x.1 (A_ x.1 x.2),vi 0]:V)=.t [mx x.1 (A_ x.1 x.2),vi 0],(.t [.a [.f .es,.f (fi 0),.f (fi x.1),.f (.fs [fi x.2] 1)],vi 0]:V)=.t [.a [.f .es,.f (fi 0),.f (fi x.1),.f (.fs [fi x.2] 1)],vi 0],(.t [gJ,vi 0]:V)=.t [gJ,vi 0],(.t [mx x.1 x.2,vi 0]:V)=.t [mx x.1 x.2,vi 0],vb ag=vb ag,(.t [vi x.2,vb ae]:V)=.t [vi x.2,vb ae]):=by kernel_rfl
end Go.Proofs.YtnaofdffomdmhaaGreat
namespace Go.Proofs.YtnaofdffomdmhaaGreat
open Go Km
def pE:V:=.a [.f .es,.f (fi 0),.f (fi 1),.f (.fs [fi 0] 1)]
def GN:V:=.a [.f (fi 0),.f (.fs [fi 3] 1),.f (fi (-1)),.f .aK,.f (fi 0),.f .aK,.f (fi 0),.f .aK,.f iG,.f .aK]
def Oc:List (Nat × Nat):=([1,2,3,4,5,6,10,12,15,20,30,60]:List Nat).flatMap λd=>[(d,1),(d,2),(d,3),(d,4),(d,5),(d,6)]
theorem we:([RK 290 [pE] qX,RK 57 [qX,mx 1 0] (.t [qX,vi 0]),RK 106 [mx 1 0,vi 0] (.t [mx 1 0,vi 0]),RK 106 [qX,vi 0] (.t [qX,vi 0]),RK 284 [gJ,qX] (.t [qX,vi 0]),RK 284 [qX,gJ] (.t [qX,vi 0]),RK 284 [gJ,gJ] (.t [gJ,vi 0]),RK 287 [.c (.f .aK)] gJ,RK 190 [GN] (vi 0)],
  (List.range 60).map (λk=>RK 276 [vi (20*k:Nat)] (.t [vi 0,vi (20*k:Nat)])),Oc.map λx=>RK 215 [vi (7*x.1:Nat),vi (x.2:Nat)] (.t [vi (7*agU x.1 x.2:Nat),vi 0])) =
 ([qX=qX,(.t [qX,vi 0]:V)=.t [qX,vi 0],(.t [mx 1 0,vi 0]:V)=.t [mx 1 0,vi 0],(.t [qX,vi 0]:V)=.t [qX,vi 0],(.t [qX,vi 0]:V)=.t [qX,vi 0],(.t [qX,vi 0]:V)=.t [qX,vi 0],(.t [gJ,vi 0]:V)=.t [gJ,vi 0],gJ=gJ,vi 0=vi 0],
  (List.range 60).map (λk=>((.t [vi 0,vi (20*k:Nat)]:V)=.t [vi 0,vi (20*k:Nat)])),Oc.map λx=>((.t [vi (7*agU x.1 x.2:Nat),vi 0]:V)=.t [vi (7*agU x.1 x.2:Nat),vi 0])):=by kernel_rfl
end Go.Proofs.YtnaofdffomdmhaaGreat
namespace Go.Proofs.YtnaofdffomdmhaaGreat
open Go Km
set_option maxHeartbeats 100000000
def pV(x y:Int × Int):Bool:=(List.range 60).any λd=>decide ((d:Int) % x.1=x.2)&&decide ((d:Int) % y.1=y.2)
def inc:List ((Int × Int) × Int × Int):=Eo.flatMap λx=>(Eo.filter λy=>!pV x y).map λy=>(x,y)
theorem QL:inc.map (λz=>RK 57 [mx z.1.1 z.1.2,mx z.2.1 z.2.2] (.t [gJ,vi 0]))=inc.map λ_=>((.t [gJ,vi 0]:V)=.t [gJ,vi 0]):=by kernel_rfl
theorem P0:(List.range 60).map (λk=>RK 282 [.a [.f (fi 0),.f (.fs [fi 3] 1),.f (fi (-1)),.f .aK,.f (fi 0),.f .aK,.f (fi 0),.f .aK],vi (20*k:Nat)] (.t [.c (.f (.fs [fi 0,.es,fi 0,fi 1,.fs [fi 0] 1] 1)),vi 0]))=(List.range 60).map λ_=>((.t [.c (.f (.fs [fi 0,.es,fi 0,fi 1,.fs [fi 0] 1] 1)),vi 0]:V)=.t [.c (.f (.fs [fi 0,.es,fi 0,fi 1,.fs [fi 0] 1] 1)),vi 0]):=by kernel_rfl
theorem yL:aX tab 58 [gJ]=Eq (vb ae):=du (by kernel_rfl)
theorem OD:aX tab 211 [gJ,vi 0]=Eq (.t [vi 0,vb ag]):=du (by kernel_rfl)
end Go.Proofs.YtnaofdffomdmhaaGreat
namespace Go.Proofs.YtnaofdffomdmhaaGreat
open Go Km
section
variable{n p:Int}(h:mP n p)
include h
theorem Px:aX tab 106 [mx n p,vi (-1)]=Eq (.t [mx n (A_ n p),vi 0]):=du (afP (agb.1 nA _ (dn h))).1
theorem Rt:aX tab 214 [mx n p]=Eq (.t [.a [.f .es,.f (fi 0),.f (fi n),.f (.fs [fi p] 1)],vi 0]):=du (afP (afP (agb.1 nA _ (dn h))).2).1
theorem JJ:aX tab 210 [mx n p,qX]=Eq (.t [gJ,vi 0]):=du (afP (afP (afP (agb.1 nA _ (dn h))).2).2).1
theorem JK:aX tab 210 [mx n p,gJ]=Eq (.t [mx n p,vi 0]):=du (afP (afP (afP (afP (agb.1 nA _ (dn h))).2).2).2).1
theorem NH:aX tab 58 [mx n p]=Eq (vb ag):=du (afP (afP (afP (afP (afP (agb.1 nA _ (dn h))).2).2).2).2).1
theorem RU:aX tab 211 [mx n p,vi 0]=Eq (.t [vi p,vb ae]):=du (afP (afP (afP (afP (afP (agb.1 nA _ (dn h))).2).2).2).2).2
end
theorem WH{n p m q:Int}(h:mP n p)(b:mP m q)(d:pV (n,p) (m,q)=ag):aX tab 57 [mx n p,mx m q]=Eq (.t [gJ,vi 0]):=
 nN (x:=((n,p),(m,q))) QL (by
  unfold inc;exact agE.2 ⟨(n,p),dn h,af6.2 ⟨(m,q),agB.2 ⟨dn b,by rw[d];rfl⟩,rfl⟩⟩)
theorem Ed{n p m q d:Int}(h0:0<=d)(j:d % n=p)(l:d % m=q)(h:mP n p)(g:mP m q):pV (n,p) (m,q)=ae:=by
 have u:n ∣ 60:=by
  obtain⟨a,b,_,_⟩:=h;obtain rfl|rfl|rfl|rfl|rfl|rfl:n=1\/n=2\/n=3\/n=4\/n=5\/n=6:=by omega
  all_goals decide
 have s:m ∣ 60:=by
  obtain⟨a,b,_,_⟩:=g;obtain rfl|rfl|rfl|rfl|rfl|rfl:m=1\/m=2\/m=3\/m=4\/m=5\/m=6:=by omega
  all_goals decide
 refine agw.2 ⟨(d % 60).toNat,agz.2 (by omega),?_⟩;have e:(((d % 60).toNat:Nat):Int)=d % 60:=by omega
 simp only[e,Int.emod_emod_of_dvd _ u,Int.emod_emod_of_dvd _ s,j,l,decide_true,Bool.and_self]
theorem Ga{n p m q:Int}(h:pV (n,p) (m,q)=ae):∃d:Int,0<=d/\d<60/\d % n=p/\d % m=q:=by
 obtain⟨d,b,h⟩:=agw.1 h;simp only[afE,decide_eq_true_eq]at h;exact⟨d,by omega,by have:=agz.1 b;omega,h⟩
theorem Sx{k:Nat}(b:k<60):aX tab 282 [.a [.f (fi 0),.f (.fs [fi 3] 1),.f (fi (-1)),.f .aK,.f (fi 0),.f .aK,.f (fi 0),.f .aK],vi (20*k:Nat)]=Eq (.t [.c (.f (.fs [fi 0,.es,fi 0,fi 1,.fs [fi 0] 1] 1)),vi 0]):=nN P0 (agz.2 b)
theorem Rb(m r t z n p mi le:Int):Fix (jv m r t z n p mi le):=by
 unfold Fix;exact(rV (m:=400) (d:=60) (by kernel_rfl)).eq
end Go.Proofs.YtnaofdffomdmhaaGreat
namespace Km
open Go
theorem Kp.tr{H K L:aj}(h:Kp H K)(d:Kp K L):Kp H L:=⟨af1 h.1 d.1,λb l=>(d.2 b (af9 l h.1)).trans (h.2 b l)⟩
theorem Kp.get{H K:aj}(h:Kp H K){i:Nat}{y:bB}(hi:H[i]?=aa y):K[i]?=aa y:=by rw[h.2 i (au hi)];exact hi
theorem Kp.nj{H K:aj}(h:Kp H K){i:Nat}(hi:H.length<=i)(x:bB):Kp H (K.set i x):=⟨by simpa using h.1,λb l=>by rw[ae2 (by omega)];exact h.2 b l⟩
end Km
namespace Go.Proofs.YtnaofdffomdmhaaGreat
open Go Km
def E1:FC:=.fs [.fs [.es,fi 0,fi 1,.fs [fi 0] 1] 1] 1
def S1:FC:=.fs [.fs [.aK,fi 0,fi 1,.fs [fi 0] 1] 1] 1
def cQ:List FC:=[fi 0,.fs [fi 3] 1,fi (-1),.aK,fi 0,.aK,fi 0,.aK,iG,.aK]
theorem gT:aX tab 290 [pE]=Eq qX/\aX tab 57 [qX,mx 1 0]=Eq (.t [qX,vi 0])/\aX tab 106 [mx 1 0,vi 0]=Eq (.t [mx 1 0,vi 0])/\aX tab 106 [qX,vi 0]=Eq (.t [qX,vi 0])/\aX tab 284 [gJ,qX]=Eq (.t [qX,vi 0])/\aX tab 284 [qX,gJ]=Eq (.t [qX,vi 0])/\aX tab 284 [gJ,gJ]=Eq (.t [gJ,vi 0])/\aX tab 287 [.c (.f .aK)]=Eq gJ/\aX tab 190 [GN]=Eq (vi 0):=by
 have h:=(afP we).1;simp only[List.cons.injEq,and_true]at h;obtain⟨b,d,g,j,l,m,q,s,u⟩:=h;have t:=λ{f:Nat} {a:List V} {r:V} (h:RK f a r=True)=>du (h.trans (eq_true rfl).symm);exact⟨t b,t d,t g,t j,t l,t m,t q,t s,t u⟩
theorem PE{k:Nat}(b:k<60):aX tab 276 [vi (20*k:Nat)]=Eq (.t [vi 0,vi (20*k:Nat)]):=nN (afP (afP we).2).1 (agz.2 b)
theorem Xu{x:Nat × Nat}(h:x∈Oc):aX tab 215 [vi (7*x.1:Nat),vi (x.2:Nat)]=Eq (.t [vi (7*agU x.1 x.2:Nat),vi 0]):=nN (afP (afP we).2).2 h
theorem Xz:aX tab 210 [mx 1 0,gJ]=Eq (.t [mx 1 0,vi 0]):=du (afP (afP (afP (afP (agb.1 nA (1,0) (by simp[Eo]))).2).2).2).1
theorem aaN{H:aj}(s:H[0]?=aa (.box (cQ.map .f) 0)):∃r H',Ev tab (.fn MW) [.a [.f S1],.c (.ptr 0 0 0)] H r H'/\(r=.t [.a [.f S1],vi 0]/\Kp H H'):=by
 refine dm rfl rfl λQ q=>?_;have d:=gT.2.2.2.2.2.2.2.1;have j:=Xz;have u:∀K:aj,Kp H K->aQ K ab (.c (.ptr 0 9 0))=aa (.c (.f .aK)):=λK b=>by simp[aQ,aw,b.get s,cQ]
 apply ai;simp;have b:=Kp.push H [bB.box [C.f S1] 0,bB.box [C.f FC.aK] 0];have l:(H++[bB.box [C.f S1] 0,bB.box [C.f FC.aK] 0])[H.length]?=aa (.box [.f S1] 0):=by simp
 have g:(H++[bB.box [C.f S1] 0,bB.box [C.f FC.aK] 0])[H.length+1]?=aa (.box [.f .aK] 0):=by simp
 generalize H++[bB.box [C.f S1] 0,bB.box [C.f FC.aK] 0]=K at b l g ⊢;have v:cz K (.ptr (H.length+1) 0 0) [.f S1]=aa (K.set (H.length+1) (.box [.f S1] 0)):=by simp[cz,g,bp]
 have m:aQ K (aa 1) (.c (.ptr H.length 0 0))=aa (.a [.f S1]):=by simp[aQ,aw,l,aO]
 apply ai;simp only[gJ]at d;change aX tab Mi _=_ at d;change aX tab SY [.a [.f S1],.a [.f .aK]]=Eq (.t [.a [.f S1],vi 0])at j;simp[m,u K b,d,j,v,-aq,-aU];refine az (q _ _ _ rfl ?_ ⟨rfl,b.nj (by omega) _⟩);simp[Km.results,aZ,au g,aO]
theorem aaC:aX tab Vq [vi 0]=Eq (.c (.f (.fn sO [.fp [fi 0] 0]))):=aX.eq (by
 refine bH rfl rfl λQ b=>?_;apply ai;simp;apply ai;simp;refine az (b _ _ ?_);simp[deep])
theorem S9{H:aj}{s:FC}(h:aX tab 106 [.a [.f s],vi 0]=Eq (.t [.a [.f s],vi 0])):∃r H',Ev tab (.fn sO) [.a [.f s],.c (.f (.fp [fi 0] 0))] H r H'/\(r=.t [.a [.f s],vi 0]/\Kp H H'):=by
 refine dm rfl rfl λQ l=>?_;apply ai;simp;have d:=Kp.push H [bB.box [C.f s] 0,bB.box [C.f FC.aK] 0];have g:(H++[bB.box [C.f s] 0,bB.box [C.f FC.aK] 0])[H.length]?=aa (.box [.f s] 0):=by simp
 have b:(H++[bB.box [C.f s] 0,bB.box [C.f FC.aK] 0])[H.length+1]?=aa (.box [.f .aK] 0):=by simp
 generalize H++[bB.box [C.f s] 0,bB.box [C.f FC.aK] 0]=K at d g b ⊢;have m:cz K (.ptr (H.length+1) 0 0) [.f s]=aa (K.set (H.length+1) (.box [.f s] 0)):=by simp[cz,b,bp]
 have j:aQ K (aa 1) (.c (.ptr H.length 0 0))=aa (.a [.f s]):=by simp[aQ,aw,g,aO]
 change aX tab SZ _=_ at h;apply ai;simp[j,tU,h,m,-aq,-aU];refine az (l _ _ _ rfl ?_ ⟨rfl,d.nj (by omega) _⟩);simp[Km.results,aZ,au b,aO]
theorem aaO{H:aj}{b:Nat}(u:H[b]?=aa (.box [.f (fi 0),.f .es,.f (fi 0),.f (fi 1),.f (.fs [fi 0] 1)] 0)):∃r H',Ev tab (.fn MX) [.a [.f S1],.c (.ptr b 0 0)] H r H'/\(r=.t [.a [.f E1],vi 0]/\Kp H H'):=by
 refine dm rfl rfl λQ s=>?_;have j:=gT.1;have l:=gT.2.1;have v:∀K:aj,Kp H K->aQ K (aa 4) (.c (.ptr b 1 0))=aa (.a [.f .es,.f (fi 0),.f (fi 1),.f (.fs [fi 0] 1)]):=λK d=>by simp[aQ,aw,d.get u,aO]
 apply ai;simp;have d:=Kp.push H [bB.box [C.f S1] 0,bB.box [C.f FC.aK] 0];have m:(H++[bB.box [C.f S1] 0,bB.box [C.f FC.aK] 0])[H.length]?=aa (.box [.f S1] 0):=by simp
 have g:(H++[bB.box [C.f S1] 0,bB.box [C.f FC.aK] 0])[H.length+1]?=aa (.box [.f .aK] 0):=by simp
 generalize H++[bB.box [C.f S1] 0,bB.box [C.f FC.aK] 0]=K at d m g ⊢;have x:cz K (.ptr (H.length+1) 0 0) [.f E1]=aa (K.set (H.length+1) (.box [.f E1] 0)):=by simp[cz,g,bp]
 have q:aQ K (aa 1) (.c (.ptr H.length 0 0))=aa (.a [.f S1]):=by simp[aQ,aw,m,aO]
 change aX tab aag [.a [.f .es,.f (fi 0),.f (fi 1),.f (.fs [fi 0] 1)]]=Eq (.a [.f E1])at j;change aX tab SU [.a [.f E1],.a [.f S1]]=Eq (.t [.a [.f E1],vi 0])at l;apply ai;simp[q,v K d,j,l,x,-aq,-aU];refine az (s _ _ _ rfl ?_ ⟨rfl,d.nj (by omega) _⟩);simp[Km.results,aZ,au g,aO]
theorem S_{H:aj}{b:Nat}{u v w:FC}(q:H[b]?=aa (.box [.f u] 0))(h:aX tab 284 [.a [.f u],.a [.f v]]=Eq (.t [.a [.f w],vi 0])):∃r H',Ev tab (.fn nR) [.a [.f v],.c (.ptr b 0 0)] H r H'/\(r=.t [.a [.f w],vi 0]/\Kp H H'):=by
 refine dm rfl rfl λQ m=>?_;have s:∀K:aj,Kp H K->aQ K (aa 1) (.c (.ptr b 0 0))=aa (.a [.f u]):=λK d=>by simp[aQ,aw,d.get q,aO]
 apply ai;simp;have d:=Kp.push H [bB.box [C.f v] 0,bB.box [C.f FC.aK] 0];have j:(H++[bB.box [C.f v] 0,bB.box [C.f FC.aK] 0])[H.length]?=aa (.box [.f v] 0):=by simp
 have g:(H++[bB.box [C.f v] 0,bB.box [C.f FC.aK] 0])[H.length+1]?=aa (.box [.f .aK] 0):=by simp
 generalize H++[bB.box [C.f v] 0,bB.box [C.f FC.aK] 0]=K at d j g ⊢;have x:cz K (.ptr (H.length+1) 0 0) [.f w]=aa (K.set (H.length+1) (.box [.f w] 0)):=by simp[cz,g,bp]
 have l:aQ K (aa 1) (.c (.ptr H.length 0 0))=aa (.a [.f v]):=by simp[aQ,aw,j,aO]
 change aX tab aah _=_ at h;apply ai;simp[l,s K d,h,x,-aq,-aU];refine az (m _ _ _ rfl ?_ ⟨rfl,d.nj (by omega) _⟩);simp[Km.results,aZ,au g,aO]
theorem xj{cs:List C}{k:Nat}{x:C}(h:cs[k]?=aa x):aO ab (cs.drop k)=aa (.c x):=by
 have b:=(afD.1 h).1;have e:=afB b;rw[h]at e;rw[afL b,<-ahg e];rfl
theorem BP{H:aj}{b:Nat}(cs:List C)(d:List FC)(e:d.length=cs.length+1)(c:cs.length<=100)(F:H[b]?=aa (.box cs 0))
  (step:∀(j:Nat) (J:j<cs.length) (K:aj),Kp H K->∃f M r q,cL (.c cs[j]) [.a [.f (d[j]'(by omega))]]=aa (f,M)/\Ev tab f M K r q/\(r=.t [.a [.f (d[j+1]'(by omega))],vi 0]/\Kp K q)) :
  ∃r H',Ev tab (.fn Du) [.a [.f (d[0]'(by omega))],.c (.sl b 0 cs.length cs.length 0 1)] H r H'/\(r=.t [.a [.f (d[cs.length]'(by omega))],vi 0]/\Kp H H'):=by
 refine dm rfl rfl λQ Y=>?_;have Z:=au F;have k:∀K:aj,Kp H K->∀j:Nat,(h:j<cs.length)->bw K 1 ab (.c (.sl b 0 cs.length cs.length 0 1)) (vi j)=aa (.c (.ptr b j 0))/\aQ K ab (.c (.ptr b j 0))=aa (.c cs[j]):=λK x j h=>by
  have g:=x.get F;refine⟨?_,?_⟩
  .simp[bw,show kQ (vi (j:Int))=aa (j:Int) from rfl,g,h]
  .rw[aq,g];exact xj (afB h)
 apply ai;simp;have x:=Kp.push H [bB.box [C.f (d[0]'(by omega))] 0,bB.box [C.f FC.aK] 0];have U:(H++[bB.box [C.f (d[0]'(by omega))] 0,bB.box [C.f FC.aK] 0])[H.length]?=aa (.box [.f (d[0]'(by omega))] 0):=by simp
 have W:(H++[bB.box [C.f (d[0]'(by omega))] 0,bB.box [C.f FC.aK] 0])[H.length+1]?=aa (.box [.f .aK] 0):=by simp
 generalize H++[bB.box [C.f (d[0]'(by omega))] 0,bB.box [C.f FC.aK] 0]=X at x U W ⊢;apply ak;apply ai;have len:∀K:aj,Kp H K->bo K (.sl b 0 cs.length cs.length 0 1)=aa cs.length:=λK x=>by simp[bo,x.get F]
 simp[len X x];refine cD cs.length (λj t K=>t.g 1=.c (.sl b 0 cs.length cs.length 0 1)/\t.g 10=.c (.sl b 0 cs.length cs.length 0 1)/\t.g 2=.c (.ptr H.length 0 0)/\t.g 4=.c (.ptr (H.length+1) 0 0)/\Kp H K/\(∀h:j<d.length,K[H.length]?=aa (.box [.f d[j]] 0))/\K[H.length+1]?=aa (.box [.f .aK] 0)) (by omega) (by decide) (by decide) (by simp) (by simp)
  ⟨by simp,by simp,by simp,by simp,x,λ_=>U,W⟩ ?_ ?_
 .rintro j t K J ⟨N,s,z,B,A,m,E⟩ O g next
  obtain⟨i,n⟩:=k K A j J;have m:=m (by omega);obtain⟨f,as',r,q,a,I,rfl,u⟩:=step j J K A;have I:=I.eq;have L:aQ K (aa 1) (.c (.ptr H.length 0 0))=aa (.a [.f (d[j]'(by omega))]):=by simp[aQ,aw,m,aO]
  have S:=u.get m;have p:=u.get E;refine aI ?_;apply ai;simp[s,O,i,n,-aq];apply ai;simp[z,L,a,I,-aq];obtain⟨y,v⟩:=aD (q++[bB.box [.f (d[j+1]'(by omega))] 0]:aj);have w:y[q.length]?=aa (.box [.f (d[j+1]'(by omega))] 0):=by rw[v];simp
  have l:Kp q y:=by rw[v];exact Kp.push _ _
  rw[<-v];apply ak;apply ai;simp;refine bc (by simp) ?_;have o:aQ y (aa 1) (.c (.ptr q.length 0 0))=aa (.a [.f (d[j+1]'(by omega))]):=by simp[aQ,aw,w,aO]
  have s2:cz y (.ptr H.length 0 0) [.f (d[j+1]'(by omega))]=aa (y.set H.length (.box [.f (d[j+1]'(by omega))] 0)):=by simp[cz,l.get S,bp]
  refine av (.inl rfl) ?_;simp[z,o,s2,-aq,-aU];refine aA (next _ _ ⟨by simp[N],by simp[s],by simp[z],by simp[B],((A.tr u).tr l).nj (by omega) _,λ_=>afC (au (l.get S)),?_⟩ (by simp[O]) (by simp[g]));rw[ae2 (by omega)];exact l.get p
 .rintro t K ⟨N,s,z,B,A,m,E⟩ - -;have m:=m (by omega);have L:aQ K (aa 1) (.c (.ptr H.length 0 0))=aa (.a [.f (d[cs.length]'(by omega))]):=by simp[aQ,aw,m,aO]
  have sn:cz K (.ptr (H.length+1) 0 0) [.f (d[cs.length]'(by omega))]=aa (K.set (H.length+1) (.box [.f (d[cs.length]'(by omega))] 0)):=by simp[cz,E,bp]
  apply ai;simp[z,B,L,sn,-aq,-aU];refine az (Y _ _ _ rfl ?_ ⟨rfl,A.nj (by omega) _⟩);simp[Km.results,aZ,B,au E,aO]
end Go.Proofs.YtnaofdffomdmhaaGreat
namespace Go.Proofs.YtnaofdffomdmhaaGreat
open Go Km
theorem B4(mi le:Int):aX tab Vr [.a (cQ.map .f),vi mi,vi le]=Eq (.c (.f (.fn uW [.fp cQ 0,.fp [fi mi] 0,.fp [fi le] 0]))):=aX.eq (by
 refine bH rfl rfl λQ b=>?_;apply ai;simp[cQ];apply ai;simp;refine az (b _ _ ?_);simp[deep,cQ])
theorem B3{bb:Nat}{H:aj}(mi le:Int)(S:0<=mi)(c:mi<=1440)(Y:0<=le)(Z:le<=20000)(P:aj->Prop)
  (F:¬ mi+le<=1440->∀K,Kp H K->P K) (W:mi+le<=1440->∀K,Kp H K->∃A,Ev tab (.yield bb) [.a [.f S1,.f (fi 0),.f (fi 1440)]] K (vb ae) A/\P A) :
  ∃r H',Ev tab (.fn uW) [.c (.yl bb),.c (.f (.fp cQ 0)),.c (.f (.fp [fi mi] 0)),.c (.f (.fp [fi le] 0))] H r H'/\(r=.t []/\P H'):=by
 refine dm rfl rfl λQ U=>?_;have s:∀K:aj,bo K (.f iG)=aa 1:=λK=>rfl;have lo:∀K:aj,aQ K ab (.c (.f (.fp cQ 8)))=aa (.c (.f iG)):=λK=>rfl;have v:∀K:aj,aQ K ab (.c (.f (.fp [fi mi] 0)))=aa (vi mi):=λK=>rfl;have u:∀K:aj,aQ K ab (.c (.f (.fp [fi le] 0)))=aa (vi le):=λK=>rfl;apply ai;simp[lo,s];refine cD 1 (λj t K=>t.g 0=.c (.yl bb)/\t.g 2=.c (.f (.fp [fi mi] 0))/\t.g 3=.c (.f (.fp [fi le] 0))/\t.g 8=.c (.f iG)/\(j=0->Kp H K)/\(j=1->P K)) (by omega) (by decide) (by decide) (by simp) (by simp) ⟨by simp,by simp,by simp,by simp,λ_=>⟨afJ _,λ_ _=>rfl⟩,by omega⟩ ?_ ?_
 .rintro j t K a ⟨g0,l,m,x,B,-⟩ y J next
  obtain rfl:j=0:=by omega
  have B:=B rfl;have L:bw K 3 ab (.c (.f iG)) (vi ((0:Nat):Int))=aa (.c (.f (.fp [S1,fi 0,fi 1440] 0))):=rfl;have X:aQ K (aa 3) (.c (.f (.fp [S1,fi 0,fi 1440] 0)))=aa (.a [.f S1,.f (fi 0),.f (fi 1440)]):=rfl;refine aI ?_;apply ai;simp only[Int.ofNat_zero,Int.natCast_zero]at L y;simp[x,y,L,X];obtain⟨g,b⟩:=aD (K++[bB.box [.f S1,.f (fi 0),.f (fi 1440)] 0]:aj);have I:g[K.length]?=aa (.box [.f S1,.f (fi 0),.f (fi 1440)] 0):=by rw[b];simp
  have q:Kp H g:=B.tr (by rw[b];exact Kp.push _ _);rw[<-b];have M:aQ g ab (.c (.ptr K.length 1 0))=aa (vi 0):=by simp[aQ,aw,I]
  have N:aQ g ab (.c (.ptr K.length 2 0))=aa (vi 1440):=by simp[aQ,aw,I]
  have O:aQ g (aa 3) (.c (.ptr K.length 0 0))=aa (.a [.f S1,.f (fi 0),.f (fi 1440)]):=by simp[aQ,aw,I,aO]
  apply ak;refine av (.inl rfl) ?_;by_cases z:mi+le<=1440
  .obtain⟨A,d,E⟩:=W z g q;have d:=d.eq;simp[g0,l,m,M,N,O,v,u,S,bg (n:=mi+le),z,d,-aq];exact aG (by simp) (aS (aA (next _ _ ⟨by simp[g0],by simp[l],by simp[m],by simp[x],by omega,λ_=>E⟩ (by simp[y]) (by simp[J]))))
  .simp[g0,l,m,M,N,O,v,u,S,bg (n:=mi+le),z,-aq];exact aG (by simp) (aS (aA (next _ _ ⟨by simp[g0],by simp[l],by simp[m],by simp[x],by omega,λ_=>F z _ q⟩ (by simp[y]) (by simp[J]))))
 .rintro t K ⟨g0,l,m,x,-,E⟩ - -;exact dY (U _ _ _ rfl rfl ⟨rfl,E rfl⟩)
end Go.Proofs.YtnaofdffomdmhaaGreat
namespace Go.Proofs.YtnaofdffomdmhaaGreat
open Go Km
theorem AN{tab:TB}{fn i:Nat}{u:Option Nat}{k:List de}{ds:List dS}{Q:Option aH->St->Prop}{a b c x:Nat}{body:aH}{t:T}{H:aj}(N:Nat)(I:Nat->T->List dS->aj->Prop)(K:N<=9223372036854775807)(A:a≠b)(E:x≠b)
  (l:t.g a=vi 0) (m:t.g b=vi N) (h0:I 0 t ds H)
  (step:∀j t ds H,j<N->I j t ds H->t.g a=vi j->t.g b=vi N->
   (∀v d H',I (j+1) ((v.s x (vi (j+1:Nat))).s a (vi (j+1:Nat))) d H'->v.g a=vi j->v.g b=vi N->
    WP tab fn u (.code (uu a x)::.inLoop (ku i a b c x body)::.inBlock i::k) ⟨v,d,H'⟩ Q)->
   WP tab fn u (.code body::.code (uu a x)::.inLoop (ku i a b c x body)::.inBlock i::k) ⟨t.s c (vb ae),ds,H⟩ Q)
  (done:∀t ds H,I N t ds H->t.g a=vi N->t.g b=vi N->WP tab fn u k ⟨t.s c (vb ag),ds,H⟩ Q) :
  WP tab fn u (.code (AE i a b c x body)::k) ⟨t,ds,H⟩ Q:=by
 have q:∀ops:List aV,ops.all (·.op.dB)=ae->u=ab\/ops.all (·.op.dB)=ae:=λ_ h=>.inr h;refine aI ?_;refine dx (λn s=>∃j t ds H,s=⟨t,ds,H⟩/\j<=N/\n=N-j/\I j t ds H/\t.g a=vi j/\t.g b=vi N) N ⟨0,t,ds,H,rfl,by omega,by omega,h0,l,m⟩ ?_;rintro n s ⟨j,t,ds,H,rfl,L,rfl,F,l,m⟩ J;apply ak;refine av (q _ rfl) ?_;simp[l,m];by_cases g:j<N
 .rw[decide_eq_true g];apply ak;refine al (by simp) ?_;refine aS ?_;apply ak;refine step j t ds H g F l m λv d H' y z B=>?_;refine av (q _ rfl) ?_;simp[z];rw[bg];refine J (N-(j+1)) _ (by omega) ⟨j+1,_,d,H',rfl,by omega,rfl,by simpa using y,by simp,?_⟩;simp[A,E,B]
 .have:j=N:=by omega
  subst this;rw[decide_eq_false g];apply ak;refine aG (by simp) ?_;refine bT (k':=k) (by simp[Km.exitTo]) ?_;exact done t ds H F l m
def dF(mi le:Int):FC:=if mi+le<=1440 then E1 else .aK
theorem QY{k:Nat}(hk:k<60)(le:Int)(l0:1<=le)(l1:le<=10080):aX tab ov [.a (cQ.map .f),vi (20*k:Nat),vi le]=Eq (.t [.a [.f (dF (20*k:Nat) le)],vi 0]):=by
 obtain⟨v,rfl,hp⟩:∃v,v=.t [.a [.f (dF (20*k:Nat) le)],vi 0]/\aX tab ov [.a (cQ.map .f),vi (20*k:Nat),vi le] v:=by
  refine OW aay rfl λQ hQ=>?_;obtain⟨m,hm⟩:=aD (20*k:Nat);have e_:=PE hk;have f7:=Sx hk;rw[<-hm]at e_ f7 ⊢;have x9:m<=1180:=by omega
  have g_:=gT.2.2.2.2.2.2.2.2;have a8:=gT.2.2.2.2.2.2.2.1;have j_:=gT.2.2.1;have j9:=gT.2.2.2.1;have j7:=gT.2.2.2.2.1;have j8:=gT.2.2.2.2.2.1;have i8:=gT.2.2.2.2.2.2.1;have t9:=B4 m le;change aX tab zR [.a (cQ.map .f)]=Eq (vi 0)at g_;change aX tab Vs _=_ at e_;change aX tab Wc [.a (List.map C.f [fi 0,.fs [fi 3] 1,fi (-1),.aK,fi 0,.aK,fi 0,.aK]),vi (m:Int)]=_ at f7;simp only[afS,afW]at f7;have la:∀K:aj,K[0]?=aa (.box (cQ.map .f) 0)->aQ K (aa 10) (.c (.ptr 0 0 0))=aa (.a (cQ.map .f))/\aQ K (aa 8) (.c (.ptr 0 0 0))=aa (.a (List.map C.f [fi 0,.fs [fi 3] 1,fi (-1),.aK,fi 0,.aK,fi 0,.aK])):=λK h=>by refine⟨?_,?_⟩<;>simp[aQ,aw,h,cQ,aO]
  apply ai;simp;obtain⟨H0,S⟩:=aD ([.box (cQ.map .f) 0,.box [.f .aK] 0,.box [.f (fi 0)] 0]:aj);rw[<-S];have j4:H0.length=3:=by rw[S];rfl
  have z0:H0[0]?=aa (.box (cQ.map .f) 0):=by rw[S];rfl
  have z1:H0[1]?=aa (.box [.f .aK] 0):=by rw[S];rfl
  have z2:H0[2]?=aa (.box [.f (fi 0)] 0):=by rw[S];rfl
  apply ak;apply ai;simp[(la _ z0).1,g_,-aq,show¬ (m:Int) < -4320 by omega,show¬ (4320:Int)<m by omega,show¬ le<1 by omega,show¬ 10080<le by omega];refine bc (by simp) ?_;apply ai;simp[e_];obtain⟨H2,b_⟩:=aD (H0++[bB.box [.f (fi 0)] 0]:aj);have n2:H2.length=4:=by rw[b_];simp[j4]
  have k2:Kp H0 H2:=by rw[b_];exact Kp.push _ _
  rw[<-b_];have w3:H2[3]?=aa (.box [.f (fi 0)] 0):=by rw[b_];simp[<-j4]
  apply ai;simp[(la _ (k2.get z0)).2,f7,-aq,j4,n2];obtain⟨H3,c_⟩:=aD (H2++[bB.box [.f (fi 0)] 0]:aj);have n3:H3.length=5:=by rw[c_];simp[n2]
  have k3:Kp H2 H3:=by rw[c_];exact Kp.push _ _
  have w4:H3[4]?=aa (.box [.f (fi 0)] 0):=by rw[c_];simp[<-n2]
  rw[<-c_];have m4:∀K:aj,K[4]?=aa (.box [.f (fi 0)] 0)->aQ K ab (.c (.ptr 4 0 0))=aa (vi 0):=λK h=>by simp[aQ,aw,h]
  apply ak;apply ai;simp[m4 _ w4,-aq];refine bc (by simp) ?_;apply ai;simp[n3];apply ai;obtain⟨H4,U⟩:=aD (H3++[bB.box [.f .aK] 0,bB.box [.cl nR [.ptr 5 0 0]] 0]:aj);have n4:H4.length=7:=by rw[U];simp[n3]
  have k4:Kp H3 H4:=by rw[U];exact Kp.push _ _
  have w5:H4[5]?=aa (.box [.f .aK] 0):=by rw[U];simp[<-n3]
  have w6:H4[6]?=aa (.box [.cl nR [.ptr 5 0 0]] 0):=by rw[U,afI (by omega),n3];rfl
  simp[n3,oE];rw[<-U];have u6:∀K:aj,bo K (.f (.fs [fi 0,.es,fi 0,fi 1,.fs [fi 0] 1] 1))=aa 1:=λK=>rfl;apply ak;apply ai;simp[u6];have i_:Kp H0 H4:=(k2.tr k3).tr k4;have u0:=i_.get z0;have u1:=i_.get z1;have u2:=i_.get z2;have u3:=(k3.tr k4).get w3;have u4:=k4.get w4;refine AN 1 (λj t ds K=>t.g 1=vi m/\t.g 2=vi le/\t.g 3=.c (.ptr 0 0 0)/\t.g 6=.c (.ptr 1 0 0)/\t.g 7=.c (.ptr 2 0 0)/\t.g 8=.c (.ptr 3 0 0)/\t.g 9=vi m/\t.g 11=.c (.ptr 4 0 0)/\t.g 12=.c (.ptr 5 0 0)/\t.g 13=.c (.ptr 6 0 0)/\t.g 59=.c (.f (.fs [fi 0,.es,fi 0,fi 1,.fs [fi 0] 1] 1))/\(j=0->ds=[]/\K=H4)/\(j=1->ds=[.iM 9]/\K[9]?=aa (.gI ae)/\(∀i:Nat,i<7->i≠5->K[i]?=H4[i]?)/\K[5]?=aa (.box [.f (dF m le)] 0))) (by omega) (by decide) (by decide) (by simp) (by simp)
   ⟨by simp,by simp,by simp,by simp,by simp,by simp,by simp,by simp,by simp,by simp,by simp,λ_=>⟨rfl,rfl⟩,by omega⟩ ?_ ?_
  .rintro j t ds K hj ⟨g1,g2,g3,g6,g7,g8,g9,s,z,x,A,I,-⟩ ha hb next
   obtain rfl:j=0:=by omega
   obtain⟨rfl,rfl⟩:=I rfl;have ix:bw K 5 ab (.c (.f (.fs [fi 0,.es,fi 0,fi 1,.fs [fi 0] 1] 1))) (vi 0)=aa (.c (.f (.fp [fi 0,.es,fi 0,fi 1,.fs [fi 0] 1] 0))):=rfl;have ld:aQ K (aa 5) (.c (.f (.fp [fi 0,.es,fi 0,fi 1,.fs [fi 0] 1] 0)))=aa (.a [.f (fi 0),.f .es,.f (fi 0),.f (fi 1),.f (.fs [fi 0] 1)]):=rfl;have i5:t.g 61=vi 0:=ha;refine aI ?_;apply ai;simp[A,i5,ix,ld,n4];obtain⟨H5,d9⟩:=aD (K++[bB.box [.f (fi 0),.f .es,.f (fi 0),.f (fi 1),.f (.fs [fi 0] 1)] 0]:aj);have n5:H5.length=8:=by rw[d9];simp[n4]
   have k5:Kp K H5:=by rw[d9];exact Kp.push _ _
   have w7:H5[7]?=aa (.box [.f (fi 0),.f .es,.f (fi 0),.f (fi 1),.f (.fs [fi 0] 1)] 0):=by rw[d9];simp[<-n4]
   rw[<-d9];have l7:aQ H5 ab (.c (.ptr 7 0 0))=aa (vi 0):=by simp[aQ,aw,w7]
   apply ai;simp[g9,l7,-aq,bg (n:=(m:Int)),e_,n5];obtain⟨J,d_⟩:=aD (H5++[bB.box [.f (fi 0)] 0]:aj);have n6:J.length=9:=by rw[d_];simp[n5]
   have k6:Kp H5 J:=by rw[d_];exact Kp.push _ _
   have w8:J[8]?=aa (.box [.f (fi 0)] 0):=by rw[d_];simp[<-n5]
   rw[<-d_];have l_:=k5.tr k6;apply ai;simp[g2,g3,(la _ (l_.get u0)).1,t9,-aq];refine aI ?_
   suffices go:∀u:T,u.g 1=vi m->u.g 2=vi le->u.g 3=.c (.ptr 0 0 0)->u.g 6=.c (.ptr 1 0 0)->u.g 7=.c (.ptr 2 0 0)->u.g 8=.c (.ptr 3 0 0)->u.g 9=vi m->u.g 11=.c (.ptr 4 0 0)->u.g 12=.c (.ptr 5 0 0)->u.g 13=.c (.ptr 6 0 0)->u.g 59=.c (.f (.fs [fi 0,.es,fi 0,fi 1,.fs [fi 0] 1] 1))->u.g 61=vi 0->u.g 60=vi 1->u.g 15=.c (.ptr 7 0 0)->u.g 16=.c (.ptr 8 0 0)->u.g 76=.c (.f (.fn uW [.fp cQ 0,.fp [fi m] 0,.fp [fi le] 0]))->
     WP tab ov ab [.code Me,.inBlock 2,.inBlock 1,.code (uu 61 98),.inLoop (ku 0 61 60 62 98 Md),.inBlock 0,.code Mf] ⟨u,[],J⟩ Q by
    exact go _ (by simp[g1]) (by simp[g2]) (by simp[g3]) (by simp[g6]) (by simp[g7]) (by simp[g8]) (by simp[g9]) (by simp[s]) (by simp[z]) (by simp[x]) (by simp[A]) (by simp[i5]) (by simpa using hb) (by simp) (by simp) (by simp)
   clear g1 g2 g3 g6 g7 g8 g9 s z x A ha hb i5 I;intro u g1 g2 g3 g6 g7 g8 g9 s z x A r_ r5 p_ q_ s7;obtain⟨LP,e9⟩:∃LP:fe->Option aH->bB,LP=λst pd=>.lp ov u [P.nat 77] lJ lK st pd 9:=⟨_,rfl⟩
   obtain⟨W,hW⟩:=aD (J++[.gI ae,LP .ready ab]);have nW:W.length=11:=by rw[hW,List.length_append,n6];rfl
   have kW:Kp J W:=by rw[hW];exact Kp.push _ _
   have q9:W[9]?=aa (.gI ae):=by rw[hW,afI (by omega),n6];rfl
   have j5:W[10]?=aa (LP .ready ab):=by rw[hW,afI (by omega),n6];rfl
   have F:=l_.tr kW;have p0:=F.get u0;have p3:=F.get u3;have p4:=F.get u4;have p5:=F.get w5;have p6:=F.get w6;have p7:=(k6.tr kW).get w7;have p8:=kW.get w8;obtain⟨PP,i4⟩:∃PP:aj->Prop,PP=λK=>11<=K.length/\(∀i:Nat,i<11->i≠5->K[i]?=W[i]?)/\K[5]?=aa (.box [.f (dF m le)] 0):=⟨_,rfl⟩
   obtain⟨r,H7,he,rfl,hP⟩:=B3 (bb:=10) (H:=W) m le (by omega) (by omega) (by omega) (by omega) PP
    (λu7 K I=>by
     rw[i4];refine⟨by have:=I.1;omega,λi hi _=>I.2 i (by omega),?_⟩;rw[I.get p5,dF,bG u7])
    (λhf K I=>by
     have f8:=I.get j5;rw[e9]at f8;obtain⟨r,K',t_,rfl,hP⟩:∃r K',Ev tab (.yield 10) [.a [.f S1,.f (fi 0),.f (fi 1440)]] K r K'/\(r=vb ae/\PP K'):=by
      refine jN (tab:=tab) (b:=10) (args:=[.a [.f S1,.f (fi 0),.f (fi 1440)]]) (H:=K) f8 rfl λQ' s9=>?_;obtain⟨b9,Y⟩:=aD (K.length);have x8:=I.1;refine av (.inr rfl) ?_;simp;rw[<-Y];obtain⟨K1,q⟩:=aD (K++[bB.box [.f S1,.f (fi 0),.f (fi 1440)] 0]);rw[<-q];have E:Kp K K1:=by rw[q];exact Kp.push _ _
      have n9:K1[b9]?=aa (.box [.f S1,.f (fi 0),.f (fi 1440)] 0):=by rw[q,Y];simp
      refine rK (E.get f8) ?_;obtain⟨d,X⟩:=aD (K1.set 10 (.lp ov u [P.nat 77] lJ lK .busy ab 9));rw[<-X];have e2:∀i:Nat,i<W.length->i≠10->d[i]?=W[i]?:=λi hi i7=>by rw[X,ae2 (Ne.symm i7),E.2 i (by omega),I.2 i hi]
      have n_:d[10]?=aa (.lp ov u [P.nat 77] lJ lK .busy ab 9):=by rw[X];exact afC (au (E.get f8))
      have o_:d[b9]?=aa (.box [.f S1,.f (fi 0),.f (fi 1440)] 0):=by rw[X,ae2 (by omega)];exact n9
      have y7:d.length=b9+1:=by rw[X,af7,q,Y];simp
      have v:∀{i:Nat} {y:bB},W[i]?=aa y->i≠10->d[i]?=aa y:=λh i7=>by rw[e2 _ (au h) i7];exact h
      have v_:aQ d (aa 1) (.c (.ptr b9 0 0))=aa (.a [.f S1]):=by simp[aQ,aw,o_,aO]
      have v9:aQ d ab (.c (.ptr 8 0 0))=aa (vi 0):=by simp[aQ,aw,v p8 (by omega)]
      have r8:aQ d ab (.c (.ptr 3 0 0))=aa (vi 0):=by simp[aQ,aw,v p3 (by omega)]
      have v8:aQ d ab (.c (.ptr 6 0 0))=aa (.c (.cl nR [.ptr 5 0 0])):=by simp[aQ,aw,v p6 (by omega)]
      have a_:PZ .neg (vi 0)=aa (vi 0):=rfl;have s_:=aaC;obtain⟨cs,Z⟩:=aD ([.cl MW [.ptr 0 0 0],.f (.fn sO [.fp [fi 0] 0]),.cl MX [.ptr 7 0 0],.f (.fn sO [.fp [fi 0] 0]),.cl nR [.ptr 5 0 0]]:List C);obtain⟨K3,h_⟩:=aD (d++[bB.box cs 0]);have k_:Kp d K3:=by rw[h_];exact Kp.push _ _
      have c3:K3[d.length]?=aa (.box cs 0):=by rw[h_];simp
      obtain⟨r,K4,l,rfl,v6⟩:=BP (H:=K3) (b:=d.length) cs [S1,S1,S1,E1,E1,E1] (by rw[Z];rfl) (by rw[Z];decide) c3 (λj hj L hL=>by
       have kL:=k_.tr hL;subst Z
       match j,hj with
       |0,_=>obtain⟨r,M,N,O⟩:=aaN (kL.get (v p0 (by omega)));exact⟨.fn MW,_,r,M,rfl,N,O⟩
       |1,_=>obtain⟨r,M,N,O⟩:=S9 (H:=L) j_;exact⟨.fn sO,_,r,M,rfl,N,O⟩
       |2,_=>obtain⟨r,M,N,O⟩:=aaO (kL.get (v p7 (by omega)));exact⟨.fn MX,_,r,M,rfl,N,O⟩
       |3,_=>obtain⟨r,M,N,O⟩:=S9 (H:=L) j9;exact⟨.fn sO,_,r,M,rfl,N,O⟩
       |4,_=>obtain⟨r,M,N,O⟩:=S_ (kL.get (v p5 (by omega))) j7;exact⟨.fn nR,_,r,M,rfl,N,O⟩)
      have l:Ev tab (.fn Du) [.a [.f S1],.c (.sl d.length 0 5 5 0 1)] K3 (.t [.a [.f E1],vi 0]) K4:=by
       subst Z;exact l
      have l:=l.eq;have a9:=k_.tr v6;have x5:=a9.get (v p5 (by omega));have x4:=a9.get (v p4 (by omega));obtain⟨K5,B⟩:=aD (K4.set 5 (.box [.f E1] 0));have w_:cz K4 (.ptr 5 0 0) [.f E1]=aa K5:=by rw[B];simp[cz,x5,bp]
      have j6:K5[4]?=aa (.box [.f (fi 0)] 0):=by rw[B,ae2 (by omega)];exact x4
      have w9:cz K5 (.ptr 4 0 0) [.f (fi 0)]=aa K5:=by
       simp[cz,j6,bp];obtain⟨i6,e⟩:=afD.1 j6;rw[<-e];exact ag4 i6
      have m9:K5[10]?=aa (.lp ov u [P.nat 77] lJ lK .busy ab 9):=by rw[B,ae2 (by omega)];exact a9.get n_
      refine aI ?_;refine ak (av (.inr rfl) ?_);simp[g3,p_,q_,g8,x,v_,v9,r8,v8,a_,s_,oE,-aq];rw[<-Z,<-h_];simp[z,s,l,w_,w9,-aU];refine ak (av (.inr rfl) ?_);simp[s,m4 _ j6,-aq];refine aG (by simp) (aS (aA (dY (s9 _ _ _ _ _ _ _ _ _ _ rfl m9 ⟨rfl,?_⟩))));rw[i4];have x_:=a9.1;refine⟨?_,λi hi h5=>?_,?_⟩
      .rw[af7,B,af7];omega
      .by_cases e:i=10
       .subst e;rw[afC (au m9),j5,e9];rfl
       .rw[ae2 (Ne.symm e),B,ae2 (Ne.symm h5),a9.2 i (by omega),e2 i (by omega) e]
      .rw[ae2 (by omega),B,afC (au x5),dF,bu hf]
     exact⟨K',t_,hP⟩)
   rw[i4]at hP;obtain⟨nP,eP,vP⟩:=hP;have t7:Ev tab (.fn uW) [.c (.yl (J.length+1)),.c (.f (.fp cQ 0)),.c (.f (.fp [fi m] 0)),.c (.f (.fp [fi le] 0))] (J++[.gI ae,.lp ov u [P.nat 77] lJ lK .ready ab J.length]) (.t []) H7:=by
    have e:J++[.gI ae,.lp ov u [P.nat 77] lJ lK .ready ab J.length]=W:=by rw[hW,e9,n6]
    rw[e,n6];exact he
   refine mZ (g:=uW) (by rw[Iv,s7];simp[cL]) t7 ?_;rw[n6];have x6:H7[10]?=aa (.lp ov u [P.nat 77] lJ lK .ready ab 9):=by rw[eP 10 (by omega) (by omega),j5,e9]
   refine oN x6 (by decide) ?_;refine aA (aA (next _ _ _ ⟨by simp[g1],by simp[g2],by simp[g3],by simp[g6],by simp[g7],by simp[g8],by simp[g9],by simp[s],by simp[z],by simp[x],by simp[A],by omega,λ_=>⟨rfl,?_,λi hi h5=>?_,?_⟩⟩ (by simpa using r_) (by simpa using r5)))
   .rw[ae2 (by omega),eP 9 (by omega) (by omega)];exact q9
   .rw[ae2 (by omega),eP i (by omega) h5,F.2 i (by omega)]
   .rw[ae2 (by omega)];exact vP
  .rintro t ds K ⟨g1,g2,g3,g6,g7,g8,g9,s,z,x,A,-,I⟩ - -;obtain⟨rfl,q9,eK,v5⟩:=I rfl;have p1:K[1]?=aa (.box [.f .aK] 0):=by rw[eK 1 (by omega) (by omega)];exact u1
   have p2:K[2]?=aa (.box [.f (fi 0)] 0):=by rw[eK 2 (by omega) (by omega)];exact u2
   have p3:K[3]?=aa (.box [.f (fi 0)] 0):=by rw[eK 3 (by omega) (by omega)];exact u3
   have p6:K[6]?=aa (.box [.cl nR [.ptr 5 0 0]] 0):=by rw[eK 6 (by omega) (by omega)];exact w6
   have l3:aQ K ab (.c (.ptr 3 0 0))=aa (vi 0):=by simp[aQ,aw,p3]
   have l6:aQ K ab (.c (.ptr 6 0 0))=aa (.c (.cl nR [.ptr 5 0 0])):=by simp[aQ,aw,p6]
   have a_:PZ .neg (vi 0)=aa (vi 0):=rfl;apply ai;simp;apply ak;apply ai;simp[g8,l3,a_,-aq];refine aI (mY ?_);apply ai;simp;refine ak (aG (by simp) ?_);refine bT (k':=[.code Mg]) rfl ?_;obtain⟨K1,q⟩:=aD (K++[bB.box [.cl nR [.ptr 5 0 0]] 0]:aj);have E:Kp K K1:=by rw[q];exact Kp.push _ _
   have c1:K1[K.length]?=aa (.box [.cl nR [.ptr 5 0 0]] 0):=by rw[q];simp
   have u9:aX tab 284 [.a [.f (dF m le)],.a [.f .aK]]=Eq (.t [.a [.f (dF m le)],vi 0]):=by
    unfold dF;split
    .exact j8
    .exact i8
   obtain⟨r,d,l,rfl,u_⟩:=BP (H:=K1) (b:=K.length) [.cl nR [.ptr 5 0 0]] [.aK,dF m le] rfl (by decide) c1 (λj hj L hL=>by
    match j,hj with
    |0,_=>obtain⟨r,M,N,O⟩:=S_ ((E.tr hL).get v5) u9;exact⟨.fn nR,_,r,M,rfl,N,O⟩)
   have l:Ev tab (.fn Du) [.a [.f .aK],.c (.sl K.length 0 1 1 0 1)] K1 (.t [.a [.f (dF m le)],vi 0]) d:=l;have l:=l.eq;have i9:=E.tr u_;have y1:=i9.get p1;have y2:=i9.get p2;have y9:=i9.get q9;have s1:cz d (.ptr 1 0 0) [.f (dF m le)]=aa (d.set 1 (.box [.f (dF m le)] 0)):=by simp[cz,y1,bp]
   have f_:(d.set 1 (.box [.f (dF m le)] 0))[2]?=aa (.box [.f (fi 0)] 0):=by rw[ae2 (by omega)];exact y2
   have s2:cz (d.set 1 (.box [.f (dF m le)] 0)) (.ptr 2 0 0) [.f (fi 0)]=aa (d.set 1 (.box [.f (dF m le)] 0)):=by
    simp[cz,f_,bp];obtain⟨i6,e⟩:=afD.1 f_;rw[<-e];exact ag4 i6
   have m_:(d.set 1 (.box [.f (dF m le)] 0))[1]?=aa (.box [.f (dF m le)] 0):=afC (au y1);have n8:(d.set 1 (.box [.f (dF m le)] 0))[9]?=aa (.gI ae):=by rw[ae2 (by omega)];exact y9
   simp only[gJ]at a8;change aX tab Mi _=_ at a8;apply ai;simp[x,l6,a8,<-q,l,g6,g7,s1,s2,-aq,-aU];generalize d.set 1 (.box [.f (dF m le)] 0)=K3 at m_ f_ n8 ⊢;have a1:(K3.set 9 (.gI ag))[1]?=aa (.box [.f (dF m le)] 0):=by rw[ae2 (by omega)];exact m_
   have a2:(K3.set 9 (.gI ag))[2]?=aa (.box [.f (fi 0)] 0):=by rw[ae2 (by omega)];exact f_
   refine az (hQ _ _ _ rfl (.inr ⟨9,rfl,n8,.t [.a [.f (dF m le)],vi 0],?_,by simp[fC,bX,aZ];rw[show(m:Int)=20*(k:Int) by omega]⟩));simp[Km.results,aZ,g6,g7,a1,a2,aO]
 exact hp.eq
end Go.Proofs.YtnaofdffomdmhaaGreat
namespace Go.Proofs.YtnaofdffomdmhaaGreat
open Go Km
theorem nz{m r t z n p mi le:Int}(h:mP n p)(s:0<=mi)(u:mi<=1180)(b:1<=le)(d:le<=10080):da (jv m r t z n p mi le).st=ae:=by
 obtain⟨g,j,l,q⟩:=h;show da ⟨.fs,[⟨.fs,[⟨.fs,[⟨.nil,[],0,n,.fs,[p]⟩]⟩],mi⟩],le,.nil,[]⟩=ae;simp[da,dj,fj,oh,mw,jZ,fm,bj];omega
theorem Az(m r t z n p mi le:Int):(jv m r t z n p mi le).st.Sm:=by
 simp[aN.Sm,jv,dV.Sm,fB.Sm]
def fY(n p:Int):FC:=.fs [.fs [.aK,fi 0,fi n,.fs [fi p] 1] 1] 1
def qU(n p mi le:Int):List FC:=[.fs [fY n p,fi mi] 1,fi le,.aK]
theorem G9(m r t z n p mi le:Int):(jv m r t z n p mi le).st.row=qU n p mi le:=rfl
theorem Fb{H:aj}{a b:Nat}(l:a≠b)(x:aE)(z:H[a]?=aa (.box [.f (fi 0),.f (fi 0),.f (fi 0)] 0))(A:H[b]?=aa (.box [.f (.bool ag)] 0)) :
  ∃r H',Ev tab (.fn S0) [.a (x.row.map .f),.c (.ptr a 0 0),.c (.ptr b 0 0)] H r H'/\(r=.t []/\H.length<=H'.length/\(∀i:Nat,i<H.length->i≠a->i≠b->H'[i]?=H[i]?)/\H'[a]?=aa (.box (x.row.map .f) 0)/\H'[b]?=aa (.box [.f (.bool ae)] 0)):=by
 refine dm rfl rfl λQ X=>?_;have N:=zn .fs [dk x.fr 0,dk x.day 0,dk x.to 0] (by simp);simp[ints,sl,Tg.fc]at N;have la:=au z;have lb:=au A;apply ai;simp[aE.row];obtain⟨K,y⟩:=aD (H++[bB.box [.f (fi x.day),.f (fi x.fr),.f (fi x.to)] 0]:aj);have B:Kp H K:=by rw[y];exact Kp.push _ _
 have u:K[H.length]?=aa (.box [.f (fi x.day),.f (fi x.fr),.f (fi x.to)] 0):=by rw[y];simp
 have F:=B.get z;have qb:=B.get A;rw[<-y];have x0:aQ K ab (.c (.ptr H.length 0 0))=aa (vi x.day):=by simp[aQ,aw,u]
 have x1:aQ K ab (.c (.ptr H.length 1 0))=aa (vi x.fr):=by simp[aQ,aw,u]
 have x2:aQ K ab (.c (.ptr H.length 2 0))=aa (vi x.to):=by simp[aQ,aw,u]
 have v:∀j:Nat,j<3->aQ K ab (.c (.ptr a j 0))=aa (vi 0):=λj Z=>by
  match j,Z with
  |0,_=>simp[aQ,aw,F]| 1,_=>simp[aQ,aw,F]| 2,_=>simp[aQ,aw,F]
 apply ai;simp[x0,x1,x2,v 0 (by decide),v 1 (by decide),v 2 (by decide),gZ,deep,ml,tZ,N,-aq];obtain⟨d,g⟩:=aD (K++[bB.box [.f (fi (dk x.fr 0)),.f (fi (dk x.day 0)),.f (fi (dk x.to 0))] 3]:aj);have m:Kp K d:=by rw[g];exact Kp.push _ _
 rw[<-g];have s:=B.tr m;have ra:=s.get z;have I:=s.get A;have J:=m.get u;have b0:aQ d ab (.c (.ptr b 0 0))=aa (vb ag):=by simp[aQ,aw,I]
 have E:∀L:aj,L[H.length]?=aa (.box [.f (fi x.day),.f (fi x.fr),.f (fi x.to)] 0)->aQ L (aa 3) (.c (.ptr H.length 0 0))=aa (.a [.f (fi x.day),.f (fi x.fr),.f (fi x.to)]):=λL h=>by simp[aQ,aw,h,aO]
 apply ai;simp[b0,-aq];refine al (by simp) ?_;have S:cz d (.ptr b 0 0) [.f (.bool ae)]=aa (d.set b (.box [.f (.bool ae)] 0)):=by simp[cz,I,bp]
 have q:(d.set b (.box [.f (.bool ae)] 0))[a]?=aa (.box [.f (fi 0),.f (fi 0),.f (fi 0)] 0):=by rw[ae2 (Ne.symm l)];exact ra
 have O:cz (d.set b (.box [.f (.bool ae)] 0)) (.ptr a 0 0) [.f (fi x.day),.f (fi x.fr),.f (fi x.to)]=aa ((d.set b (.box [.f (.bool ae)] 0)).set a (.box [.f (fi x.day),.f (fi x.fr),.f (fi x.to)] 0)):=by simp[cz,q,bp]
 have M:(d.set b (.box [.f (.bool ae)] 0))[H.length]?=aa (.box [.f (fi x.day),.f (fi x.fr),.f (fi x.to)] 0):=by rw[ae2 (by omega)];exact J
 refine dy (.inl rfl) ?_ ?_
 case _=>
  simp[E d J,S,O,-aq,-aU];refine dY (X _ _ _ rfl rfl ⟨rfl,by simp;exact s.1,λi hi U W=>?_,afC (au q),?_⟩)
  .rw[ae2 (Ne.symm U),ae2 (Ne.symm W)];exact s.2 i hi
  .rw[ae2 l];exact afC (au I)
 .intro c Y;rw[afO.1 Y];refine⟨by decide,_,rfl,.inl ⟨by decide,?_⟩⟩;simp[E d J,E _ M,S,O,fO,V.beq,iT,C.beq,FC.beq,-aq,-aU]
def fU(n p mi le:Int):aE:=if mi+le<=1440 then⟨0,0,0⟩else⟨p,p*1440+mi,p*1440+mi+le⟩
theorem NY{n p:Int}(W:mP n p){k:Nat}(hk:k<60)(le:Int)(e0:1<=le)(e1:le<=10080) :
  aX tab aal [.a (cQ.map .f),.a ((qU n p (20*k:Nat) le).map .f)]=Eq (.t [vb (decide ((20*k:Nat)+le<=1440)),.a ((fU n p (20*k:Nat) le).row.map .f),vi 0]):=aX.eq (by
 obtain⟨m,hm⟩:=aD (20*k:Nat);have hd:=QY hk le e0 e1;have I:=zG _ (Az 1 0 0 1 n p (20*k:Nat) le);rw[nz W (by omega) (by omega) e0 e1,G9]at I;rw[<-hm]at hd I ⊢;have f_:m<=1180:=by omega
 have e9:=W;obtain⟨b1,b2,b3,b4⟩:=e9;have A:=gT.2.2.2.2.2.2.2.2;change aX tab zR [.a (cQ.map .f)]=Eq (vi 0)at A;refine bH rfl rfl λQ hQ=>?_;have b9:∀K:aj,K[0]?=aa (.box (cQ.map .f) 0)->aQ K (aa 10) (.c (.ptr 0 0 0))=aa (.a (cQ.map .f)):=λK h=>by simp[aQ,aw,h,cQ,aO]
 have X:∀K:aj,K[1]?=aa (.box ((qU n p m le).map .f) 0)->aQ K (aa 3) (.c (.ptr 1 0 0))=aa (.a ((qU n p m le).map .f))/\aQ K ab (.c (.ptr 1 0 0))=aa (.c (.f (.fs [fY n p,fi m] 1)))/\aQ K ab (.c (.ptr 1 1 0))=aa (vi le)/\aQ K ab (.c (.ptr 1 2 0))=aa (.c (.f .aK)):=λK h=>by refine⟨?_,?_,?_,?_⟩<;>simp[aQ,aw,h,qU,aO]
 apply ai;simp;obtain⟨O,g⟩:=aD ([.box (cQ.map .f) 0,.box ((qU n p m le).map .f) 0,.box [.f (fi 0),.f (fi 0),.f (fi 0)] 0]:aj);rw[<-g];have n0:O.length=3:=by rw[g];rfl
 have z0:O[0]?=aa (.box (cQ.map .f) 0):=by rw[g];rfl
 have N:O[1]?=aa (.box ((qU n p m le).map .f) 0):=by rw[g];rfl
 have z2:O[2]?=aa (.box [.f (fi 0),.f (fi 0),.f (fi 0)] 0):=by rw[g];rfl
 apply ak;apply ai;simp[b9 _ z0,A,(X _ N).1,I,-aq];refine bc (by simp) ?_;obtain⟨Y,l⟩:=aD (O++[.box [.f (.bool ag)] 0,.box [.f (fi 0),.f (fi 0),.f (fi 0)] 0]:aj);have k1:Kp O Y:=by rw[l];exact Kp.push _ _
 have n1:Y.length=5:=by rw[l];simp[n0]
 have z3:Y[3]?=aa (.box [.f (.bool ag)] 0):=by rw[l];simp[<-n0]
 have z4:Y[4]?=aa (.box [.f (fi 0),.f (fi 0),.f (fi 0)] 0):=by rw[l,afI (by omega),n0];rfl
 apply ai;simp[n0];apply ai;simp[n0];rw[<-l];apply ai;simp[oE];apply ak;apply ai;have d9:∀K:aj,bo K (.f (.fs [fY n p,fi m] 1))=aa 1:=λK=>rfl;simp[(X _ (k1.get N)).2.1,d9,-aq];obtain⟨ok,s⟩:=aD (decide ((m:Int)+le<=1440):Bool);refine cD 1 (λj t K=>t.g 3=.c (.ptr 1 0 0)/\t.g 5=.c (.ptr 2 0 0)/\t.g 8=.c (.ptr 3 0 0)/\t.g 9=.c (.ptr 4 0 0)/\t.g 2=.c (.ptr 0 0 0)/\t.g 10=.c (.cl S0 [.ptr 4 0 0,.ptr 3 0 0])/\t.g 33=.c (.f (.fs [fY n p,fi m] 1))/\(j=0->K=Y/\t.g 7=vb ae)/\(j=1->t.g 7=vb ok/\K[1]?=aa (.box ((qU n p m le).map .f) 0)/\K[2]?=aa (.box [.f (fi 0),.f (fi 0),.f (fi 0)] 0)/\K[4]?=aa (.box ((fU n p m le).row.map .f) 0))) (by omega) (by decide) (by decide) (by simp) (by simp)
  ⟨by simp,by simp,by simp,by simp,by simp,by simp,by simp,λ_=>⟨rfl,by simp⟩,by omega⟩ ?_ ?_
 .rintro j t K hj ⟨B,E,g8,U,g2,u,v,hK,-⟩ ha hb next
  obtain rfl:j=0:=by omega
  obtain⟨rfl,g7⟩:=hK rfl;have F:t.g 35=vi 0:=ha;have ix:bw K 2 ab (.c (.f (.fs [fY n p,fi m] 1))) (vi 0)=aa (.c (.f (.fp [fY n p,fi m] 0))):=rfl;have ld:aQ K (aa 2) (.c (.f (.fp [fY n p,fi m] 0)))=aa (.a [.f (fY n p),.f (fi m)]):=rfl;refine aI ?_;apply ai;simp[v,F,ix,ld,n1];obtain⟨Z,x⟩:=aD (K++[.box [.f (fY n p),.f (fi m)] 0]:aj);have k2:Kp K Z:=by rw[x];exact Kp.push _ _
  have n2:Z.length=6:=by rw[x];simp[n1]
  have z5:Z[5]?=aa (.box [.f (fY n p),.f (fi m)] 0):=by rw[x];simp[<-n1]
  have l5:∀L:aj,L[5]?=aa (.box [.f (fY n p),.f (fi m)] 0)->aQ L ab (.c (.ptr 5 1 0))=aa (vi m)/\aQ L (aa 1) (.c (.ptr 5 0 0))=aa (.a [.f (fY n p)]):=λL h=>by refine⟨?_,?_⟩<;>simp[aQ,aw,h,aO]
  rw[<-x];have M:=k1.tr k2;apply ai;simp[g2,B,b9 _ (M.get z0),(l5 _ z5).1,(X _ (M.get N)).2.2.1,hd,n2,-aq];obtain⟨S,y⟩:=aD (Z++[.box [.f (dF m le)] 0]:aj);have k3:Kp Z S:=by rw[y];exact Kp.push _ _
  have n3:S.length=7:=by rw[y];simp[n2]
  have z6:S[6]?=aa (.box [.f (dF m le)] 0):=by rw[y];simp[<-n2]
  have l6:aQ S (aa 1) (.c (.ptr 6 0 0))=aa (.a [.f (dF m le)]):=by simp[aQ,aw,z6,aO]
  rw[<-y];apply ak;apply ai;simp;refine bc (by simp) ?_;obtain⟨bad,q⟩:=aD (if(m:Int)+le<=1440 then FC.aK else fY n p:FC);have a_:aX tab SY [.a [.f (fY n p)],.a [.f (dF m le)]]=Eq (.t [.a [.f bad],vi 0]):=by
   rw[q];unfold dF;split
   .exact JJ W
   .exact JK W
  have a9:aX tab SV [.a [.f bad]]=Eq (vb ok):=by
   rw[q,s];by_cases h:(m:Int)+le<=1440
   .rw[bu h,decide_eq_true h];exact yL
   .rw[bG h,decide_eq_false h];exact NH W
  have d_:aX tab aaf [.a [.f bad],vi 0]=Eq (.t [vi (if(m:Int)+le<=1440 then 0 else p),vb (!ok)]):=by
   rw[q,s];by_cases h:(m:Int)+le<=1440
   .rw[bu h,bu h,decide_eq_true h];exact OD
   .rw[bG h,bG h,decide_eq_false h];exact RU W
  apply ai;simp[(l5 _ (k3.get z5)).2,l6,a_,n3,-aq];obtain⟨H4,z⟩:=aD (S++[.box [.f bad] 0]:aj);have k4:Kp S H4:=by rw[z];exact Kp.push _ _
  have n4:H4.length=8:=by rw[z];simp[n3]
  have z7:H4[7]?=aa (.box [.f bad] 0):=by rw[z];simp[<-n3]
  have l7:aQ H4 (aa 1) (.c (.ptr 7 0 0))=aa (.a [.f bad]):=by simp[aQ,aw,z7,aO]
  rw[<-z];have d:=(M.tr k3).tr k4;have J:=(k2.tr k3).tr k4;apply ak;apply ai;simp;refine bc (by simp) ?_;apply ai;simp[g7,l7,a9,-aq];have q1:=qR (a:=2251799813685248-m-le) (b:=1440) (by omega) (by decide) (by omega);apply ai;simp[B,(l5 _ ((k3.tr k4).get z5)).1,(X _ (d.get N)).2.2.1,bg (n:=2251799813685248-(m:Int)),bg (n:=2251799813685248-(m:Int)-le),q1,-aq];apply ai;simp[l7,d_,-aq];apply ak;refine av (.inl rfl) ?_;cases ok with
  |true=>
   have hc:(m:Int)+le<=1440:=by simpa using s.symm
   simp;refine aG (by simp) (aS (aA (next _ _ ⟨by simp[B],by simp[E],by simp[g8],by simp[U],by simp[g2],by simp[u],by simp[v],by omega,λ_=>⟨by simp,d.get N,d.get z2,?_⟩⟩ (by simpa using F) (by simpa using hb))));rw[J.get z4,fU,bu hc];rfl
  |false=>
   have hc:¬ (m:Int)+le<=1440:=by simpa using s.symm
   simp[hc,show p<=(2251799813685248-(m:Int)-le) / 1440 by omega];refine al (by simp) ?_;apply ai;simp[(l5 _ ((k3.tr k4).get z5)).1,bg (n:=p*1440),bg (n:=p*1440+m),-aq];obtain⟨r,H5,he,rfl,f8,a8,b_,f7⟩:=Fb (H:=H4) (a:=4) (b:=3) (by omega) ⟨p,p*1440+m,p*1440+m+le⟩ (J.get z4) (J.get z3);have he:=he.eq;simp[aE.row]at he;refine av (.inl rfl) ?_;simp[u,B,(X _ (d.get N)).2.2.1,bg (n:=p*1440+m+le),cL,he,-aq];refine aA (next _ _ ⟨by simp[B],by simp[E],by simp[g8],by simp[U],by simp[g2],by simp[u],by simp[v],by omega,λ_=>⟨by simp,?_,?_,?_⟩⟩ (by simpa using F) (by simpa using hb))
   .rw[a8 1 (by omega) (by omega) (by omega)];exact d.get N
   .rw[a8 2 (by omega) (by omega) (by omega)];exact d.get z2
   .rw[b_,fU,bG hc]
 .rintro t K ⟨B,E,g8,U,g2,u,v,-,hK⟩ - -;obtain⟨g7,y1,y2,y4⟩:=hK rfl;apply ak;apply ai;have c_:∀K:aj,bo K (.f .aK)=aa 0:=λK=>rfl;simp[B,(X _ y1).2.2.2,c_,-aq];refine cD 0 (λ_ t K'=>K'=K/\t.g 7=vb ok/\t.g 9=.c (.ptr 4 0 0)/\t.g 5=.c (.ptr 2 0 0)) (by omega) (by decide) (by decide) (by simp) (by simp) ⟨rfl,by simp[g7],by simp[U],by simp[E]⟩ (λj t H hj=>by omega) ?_;rintro t' K' ⟨rfl,g7,U,E⟩ - -;have l4:aQ K' (aa 3) (.c (.ptr 4 0 0))=aa (.a ((fU n p m le).row.map .f)):=by simp[aQ,aw,y4,aO,aE.row]
  have s2:cz K' (.ptr 2 0 0) ((fU n p m le).row.map .f)=aa (K'.set 2 (.box ((fU n p m le).row.map .f) 0)):=by simp[cz,y2,bp,aE.row]
  have e_:(fU n p m le).row.length=3:=rfl;apply ai;simp[g7,U,E,l4,s2,e_,-aq,-aU];refine az (hQ _ _ ?_);simp[Km.results,aZ,E,au y2,aO,aE.row,fC,bX,s])
end Go.Proofs.YtnaofdffomdmhaaGreat
namespace Go.Proofs.YtnaofdffomdmhaaGreat
open Go Km
end Go.Proofs.YtnaofdffomdmhaaGreat
namespace Go.Proofs.YtnaofdffomdmhaaGreat
open Go Km
end Go.Proofs.YtnaofdffomdmhaaGreat
namespace Go.Proofs.YtnaofdffomdmhaaGreat
open Go Km
set_option maxHeartbeats 100000000
def iQ(x y:Int × Int):Int:=(((List.range 60).find? λd:Nat=>decide ((d:Int) % x.1=x.2)&&decide ((d:Int) % y.1=y.2)).getD 0:Nat)
def Jc:List ((Int × Int) × Int × Int):=Eo.flatMap λx=>Eo.map λy=>(x,y)
theorem EU:Jc.map (λz=>RK 56 [mx z.1.1 z.1.2,mx z.2.1 z.2.2,vi 0] (.t [vi (iQ z.1 z.2),vb (pV z.1 z.2)]))=Jc.map λz=>((.t [vi (iQ z.1 z.2),vb (pV z.1 z.2)]:V)=.t [vi (iQ z.1 z.2),vb (pV z.1 z.2)]):=by kernel_rfl
end Go.Proofs.YtnaofdffomdmhaaGreat
namespace Go.Proofs.YtnaofdffomdmhaaGreat
open Go Km
def pd(n p:Int):fB:=⟨.nil,[],0,n,.fs,[p]⟩
def td(n p:Int):dV:=⟨.fs,[pd n p]⟩
def zQ(ts:List dV):Prop:=∃n p,mP n p/\ts=[td n p]
def fu(ts:List dV)(d:Int):Prop:=∃n p,ts=[td n p]/\d % n=p
theorem fg{n p d:Int}:fu [td n p] d↔d % n=p:=by
 constructor
 .rintro⟨b,g,h,e⟩;simp[td,pd]at h;rw[h.1,h.2];exact e
 .exact λe=>⟨n,p,rfl,e⟩
theorem ue(g:Tg)(n p:Int):sl g (aT [td n p])=fY n p:=by cases g<;>rfl
theorem iK{n p:Int}(h:mP n p):mP n (A_ n p)/\∀x:Int,x % n=A_ n p↔(x+1) % n=p:=by
 obtain⟨b,d,g,j⟩:=h;unfold A_ mP;obtain rfl|rfl|rfl|rfl|rfl|rfl:n=1\/n=2\/n=3\/n=4\/n=5\/n=6:=by omega
 all_goals split<;>refine⟨⟨by omega,by omega,by omega,by omega⟩,λx=>by omega⟩
theorem zm(g:Tg)(ts:List dV)(h:zQ ts):∃us,zQ us/\(∀x,fu us x↔fu ts (x+1))/\aX tab SZ [.a [.f (sl g (aT ts))],vi (-1)]=Eq (.t [.a [.f (sl .fs (aT us))],vi 0]):=by
 obtain⟨n,p,b,rfl⟩:=h;obtain⟨d,j⟩:=iK b;refine⟨[td n (A_ n p)],⟨_,_,d,rfl⟩,λx=>by rw[fg,fg];exact j x,?_⟩;rw[ue,ue];exact Px b
theorem X4{n p d:Int}(h0:0<=d):hasB (pd n p) d=ae↔d % n=p:=by
 simp[hasB,JH,pd,h0]
theorem FG{n p:Int}(h:mP n p):oh [td n p]=ae:=by
 obtain⟨b,d,g,j⟩:=h;simp[oh,mw,td,pd,jZ,fm];omega
theorem pI{n p m q:Int}(h:mP n p)(B:mP m q)(l:pV (n,p) (m,q)=ae):(0<=iQ (n,p) (m,q)/\iQ (n,p) (m,q)<60)/\iQ (n,p) (m,q) % n=p/\iQ (n,p) (m,q) % m=q/\∀x:Int,0<=x->x % n=p->x % m=q->iQ (n,p) (m,q)<=x:=by
 unfold pV at l;obtain⟨d,v,y⟩:=agw.1 l;cases g:(List.range 60).find? λd:Nat=>decide ((d:Int) % n=p)&&decide ((d:Int) % m=q)with
 |none=>
  have:=List.find?_eq_none.1 g d v;exact absurd y this
 |some i=>
  have e:iQ (n,p) (m,q)=(i:Int):=by
   unfold iQ;simp only[g,Option.getD_some]
  obtain⟨b,j,u⟩:=List.find?_range_eq_some.1 g;have j:=agz.1 j;simp only[afE,decide_eq_true_eq]at b;rw[e];refine⟨by omega,b.1,b.2,λx F z A=>?_⟩;by_cases E:x<i
  .have:=u x.toNat (by omega);have s:((x.toNat:Nat):Int)=x:=by omega
   simp only[s,z,A,decide_true,Bool.and_self,Bool.not_true]at this;cases this
  .omega
theorem RH{x y:Int × Int}(h:pV x y=ag):iQ x y=0:=by
 unfold pV at h;have:((List.range 60).find? λd:Nat=>decide ((d:Int) % x.1=x.2)&&decide ((d:Int) % y.1=y.2))=ab:=by
  rw[List.find?_eq_none];intro d b g;rw[agW]at h;exact h d b g
 unfold iQ;rw[this];rfl
theorem zi(g g':Tg)(A ts:List dV)(B:zQ A)(E:zQ ts) :
  ∃d f,D0 (λx=>0<=x/\fu A x/\fu ts x) d f/\(0<=d/\d<=1000001000000)/\aX tab SW [.a [.f (sl g (aT A))],.a [.f (sl g' (aT ts))],vi 0]=Eq (.t [vi d,vb f]):=by
 obtain⟨j,m,v,rfl⟩:=B;obtain⟨l,q,y,rfl⟩:=E;have u:aX tab SW [mx j m,mx l q,vi 0]=Eq (.t [vi (iQ (j,m) (l,q)),vb (pV (j,m) (l,q))]):=
  nN (x:=((j,m),(l,q))) EU (by
   unfold Jc;exact agE.2 ⟨(j,m),dn v,af6.2 ⟨(l,q),dn y,rfl⟩⟩)
 rw[ue,ue];cases s:pV (j,m) (l,q)with
 |false=>
  rw[s,RH s]at u;refine⟨0,ag,.inl ⟨rfl,rfl,λd b=>?_⟩,by omega,u⟩;have:=Ed b.1 (fg.1 b.2.1) (fg.1 b.2.2) v y;rw[s]at this;cases this
 |true=>
  rw[s]at u;obtain⟨⟨l0,I⟩,F,H,z⟩:=pI v y s;exact⟨_,ae,.inr ⟨rfl,⟨l0,fg.2 F,fg.2 H⟩,λd b=>z d b.1 (fg.1 b.2.1) (fg.1 b.2.2)⟩,by omega,u⟩
theorem RI(g g':Tg)(j ts:List dV)(y:zQ j)(z:zQ ts)(b:∀x,0<=x->¬ (fu j x/\fu ts x)):aX tab SU [.a [.f (sl g (aT j))],.a [.f (sl g' (aT ts))]]=Eq (.t [.a [.f .aK],vi 0]):=by
 obtain⟨A,E,s,rfl⟩:=y;obtain⟨B,F,u,rfl⟩:=z;rw[ue,ue];refine WH s u ?_;cases v:pV (A,E) (B,F)with
 |false=>rfl
 |true=>
  obtain⟨d,l,_,m,q⟩:=Ga v;exact absurd ⟨fg.2 m,fg.2 q⟩ (b d l)
structure pT(s:aN):Prop where
 len:1<=s.len/\s.len<=400
 cn:s.cs.length<=3
 min:∀{c},c∈s.cs->0<=c.min/\c.min<=1180
 sm:s.Sm
 v:da s=ae
 few:∀c∈s.cs,zQ c.ts
 xs:s.xs=[]
end Go.Proofs.YtnaofdffomdmhaaGreat
