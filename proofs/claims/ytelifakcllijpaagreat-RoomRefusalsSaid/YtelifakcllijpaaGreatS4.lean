/-
  LK the kB jt and the jv answer, for all arguments of their kind, in the small machine: part 4.
-/
import Derived.Test.YtelifakcllijpaaGreatTab
import Derived.Test.YtelifakcllijpaaGreatK2
import Derived.KernelRfl
open Option renaming some->aa,none->ab
open Bool renaming true->ae,false->ag
open Go.IntKind renaming wrap->ah
open List renaming drop_eq_getElem_cons->agT, getElem_mem->IN, getElem?_append_left->AI, take_add_one->agV, getElem?_eq_getElem->BY, mem_append->agP, mem_singleton->If, pairwise_append->ahT, append_assoc->ahm, pairwise_cons->ahH, mem_cons->ag8, take_length->agW, pairwise_singleton->ahN, drop_length->aib, append_nil->ahe, all_eq_true->ag9, map_map->air, mem_map->agX, pairwise_iff_getElem->ahn, length_map->agS, getElem_map->aiF, take_of_length_le->agY, getElem_of_mem->ag1, getElem_take->ajj, mem_take_iff_getElem->ahE, map_cons->IT, map_nil->agN, getElem?_set_ne->sh, nil_append->ahL, cons_append->ahO, getElem?_set_self->By, length_set->agZ, mem_cons_self->agR, mem_cons_of_mem->agU, mem_of_mem_drop->ahM, drop_zero->ahR, length_append->agM, take_take->aiN, mem_append_left->ahu, map_append->ahQ, nodup_cons->aiX, length_cons->ahk, length_pos_iff->ahf, length_take->ahl, pairwise_map->aiB, length_eq_zero_iff->ahZ, getElem?_append_right->agL, length_drop->ag5, getElem_drop->aip, map_drop->ait, length_filter_le->ahV, filter_append->aix, mem_filter->ahB
open Bool renaming true_and->ahJ, and_eq_true->IS, eq_iff_iff->aiq
open Nat renaming le_refl->agQ, zero_add->ahI, gcd->ah5, min_eq_left->aik, lt_or_ge->ahS, mul_comm->ai1, mul_one->aiC, sub_self->aiD, le_trans->ahd
open Int renaming toNat_natCast->ag7, tmod_eq_emod_of_nonneg->ag4, tdiv_eq_ediv_of_nonneg->ahp, ediv_nonneg->ahC, le_trans->ahx, ediv_le_self->aic, mul_nonneg->ahy, mul_le_mul->aiy, emod_nonneg->ahj, emod_lt_of_pos->ahc, mul_neg->aiP, lt_trichotomy->ajw, mul_le_mul_of_nonneg_left->ag0, tmod_lt_of_pos->aiT, lt_tmod_of_pos->aiU, add_emod_right->aju, emod_eq_emod_iff_emod_sub_eq_zero->ai7, gcd->ahw, lt_or_le->ah0, dvd_of_emod_eq_zero->ah9, dvd_refl->ah3, le_of_dvd->ahq, emod_add_mul_ediv->ag2, mul_comm->ah4, gcd_sub_mul_right_left->ai3, dvd_sub->ain, dvd_mul_left->ai4, dvd_trans->ahr, gcd_dvd_left->aiu, gcd_dvd_right->aiA, ediv_mul_cancel->ajs, mul_assoc->aiE, dvd_add->ajn, gcd_pos_of_ne_zero_left->ahX, mul_nonneg_of_nonpos_of_nonpos->ajd, tmod_eq_zero_of_dvd->aiR, mul_left_comm->aiY, mul_le_mul_of_nonneg_right->aha, mul_ediv_cancel_left->ah6, zero_emod->ai8, dvd_of_tmod_eq_zero->aje, emod_eq_of_lt->ahG, le_refl->ahY, emod_emod_of_dvd->ahW, mul_sub->ajo, add_mul->aja, sub_emod->ajf, natAbs_dvd_natAbs->ajp, natCast_add->ajb
open Option.some renaming inj->ajq
open Option renaming map_some->ahs
open List.Pairwise renaming imp->aiZ, imp_of_mem->ajc
set_option linter.all false
set_option maxRecDepth 100000
namespace Go.Proofs.YtelifakcllijpaaGreat
open Go Km
variable{a b d y r:Int}{n N F:Nat}{H B:an}{l Y:List Int}{c w:C}{f K:Bool}{h:Tg}{t:T}{k:List Nat}{v:List (List FC)}{A:List (Int × C)}{L:dB}{X:List P}
def bR(n lo hi:Int):Bool:=decide (lo<=n)&&decide (n<=hi)
def oG(h:bR a b d=ae):b<=a/\a<=d:=by simpa[bR]using h
def Cg(n lo hi:Int):Kf tab Py [vi n,vi lo,vi hi] (vb (bR n lo hi)):=by
 refine dd rfl rfl λH Q b=>?_;apply aE;apply ba;simp;apply aE;apply ba;by_cases h:lo<=n
 .simp[h];refine av (b _ _ ?_);simp[bR,h]
 .simp[h];refine av (b _ _ ?_);simp[bR,h]
@[simp]theorem aaH (n lo hi:Int):bf tab Py [vi n,vi lo,vi hi]=Eq (vb (bR n lo hi)):=(Cg n lo hi).eq
theorem xy(g:Tg)(l:List Int)(v:Int)(b:l.length<=9223372036854775807) :
  Kf tab GP [G (sl g (ints l)),vi v] (vb (l.any (· == v))):=
 eR YH (C1 YR g l v b)
structure bw where
 cap:Int
 eB:Int
 fY:Int
 (o0 o1 o2 o3 o4 o5 o6 o7 o8 o9:FC)
 qg:Tg
 q:List (Int × Int)
 pg:Tg
 p:List Int
variable{O:List bw}
def fm(l:List (Int × Int)):List (List FC):=l.map λx=>[fi x.1,fi x.2]
@[simp]theorem aaF (l:List (Int × Int)):(fm l).length=l.length:=by simp[fm]
theorem zx(l:List (Int × Int)):cZ 2 (fm l):=cZ.map λ_=>rfl
def Fk{l:List (Int × Int)}(b:n<l.length):(fm l)[n]?=aa [fi l[n].1,fi l[n].2]:=by simp[fm,b]
def bw.op(r:bw):List C:=[.f r.o0,.f r.o1,.f r.o2,.f r.o3,.f r.o4,.f r.o5,.f r.o6,.f r.o7,.f r.o8,.f r.o9]
def bw.row(r:bw):List FC:=[fi r.cap,fi r.eB,fi r.fY,r.o0,r.o1,r.o2,r.o3,r.o4,r.o5,r.o6,r.o7,r.o8,r.o9,sl r.qg (fm r.q),sl r.pg (ints r.p)]
def rows(l:List bw):List (List FC):=l.map bw.row
@[simp]theorem adv (l:List bw):(rows l).length=l.length:=by simp[rows]
theorem eh(l:List bw):cZ 15 (rows l):=cZ.map λ_=>rfl
def rG(b:n<O.length):(rows O)[n]?=aa O[n].row:=by simp[rows,b]
def mE(r:bw):Prop:=bf tab Ja [.a r.op] (vi 0)
def oa(r:bw):Bool:=decide (64<(r.q.length:Int))||decide (64<(r.p.length:Int))
def Dn(l:List bw)(p:Int):Nat:=((l[p.toNat]?).map (·.p.length)).getD 0
def UW{l:List bw}{p:Int}(d:0<=p)(b:p.toNat<l.length):Dn l p=(l[p.toNat]).p.length:=by simp[Dn,b]
def kX(last:Int):List (Int × Int)->Bool
 |[]=>ae| x::r=>bR x.1 (last+1) 63&&bR x.2 0 10080&&kX x.1 r
def nK(l:List bw)(i last:Int):List Int->Bool
 |[]=>ae| p::r=>bR p (last+1) ((l.length:Int)-1)&&!decide (p=i)&&decide (Dn l p=0)&&nK l i p r
def fZ(l:List bw)(i:Nat)(r:bw):Bool:=
 bR r.cap 1 512&&bR r.eB 0 1440&&bR r.fY 0 1440&&kX (-1) r.q&&nK l i (-1) r.p
def gj(l:List bw):Nat->List bw->Bool
 |_,[]=>ae| i,r::b=>fZ l i r&&gj l (i+1) b
def jO(l:List bw):Int:=if l.any oa then 2 else if gj l 0 l then 0 else 1
def Y2(r:bw)(j:mE r):Kf tab Cr [.a (r.row.map .f)] (vb (oa r)):=by
 refine dd rfl rfl λH Q d=>?_;have g:=bf.eq j;simp only[bw.op]at g;apply aE;apply ba;simp[bw.row];apply aE;apply ba;simp;refine JE (λh=>?_) (λh=>?_)
 .simp[h];refine JE (λb=>?_) (λb=>?_)
  .simp[b,g];refine av (d _ _ ?_);simp[oa,h,b]
  .simp[b];refine av (d _ _ ?_);simp[oa,h,b]
 .simp[h];refine av (d _ _ ?_);simp[oa,h]
def LU(g:Tg)(l:List bw)(q:l.length<=6)(d:∀r∈l,mE r) :
  Kf tab GO [G (sl g (rows l)),G (.fn Cr [])] (vb (l.any oa)):=
 eR YF (iF YP l bw.row (λr=>.a (r.row.map .f)) oa g Cr [] ap
  (λj b H=>cf (eh l) (rG b)) (λr m=>Y2 r (d r m)))
structure aR where
 hg:Tg
 head:List Int
 fr:Int
 aO:Int
 cg:Tg
 bH:List Int
variable{q M:aR}{e:List aR}
def aR.row(p:aR):List FC:=[sl p.hg (ints p.head),fi p.fr,fi p.aO,sl p.cg (ints p.bH)]
def aM(l:List aR):List (List FC):=l.map aR.row
@[simp]theorem Ft (l:List aR):(aM l).length=l.length:=by simp[aM]
theorem bK(l:List aR):cZ 4 (aM l):=cZ.map λ_=>rfl
def cH{l:List aR}{j:Nat}(b:j<l.length):(aM l)[j]?=aa l[j].row:=by simp[aM,b]
def cK(limit last:Int):List Int->Bool
 |[]=>ae| n::r=>decide (last<n)&&decide (n<limit)&&cK limit n r
def uS(b:n<l.length):cK a d (l.drop n)=(decide (d<l[n])&&decide (l[n]<a)&&cK a l[n] (l.drop (n+1))):=by
 rw[agT b];rfl
def cO(p:aR):Bool:=decide (0<=p.fr)&&decide (p.fr<=1099511627776)&&decide (1<=p.aO)&&decide (p.aO<=1099511627776) &&
 decide ((p.head.length:Int)+p.bH.length<=1048576)&&cK p.fr (-1) p.head&&cK p.aO (-1) p.bH
def Nw(g:Tg)(l:List Int)(limit:Int)(A:l.length<=9223372036854775807):Kf tab Pn [G (sl g (ints l)),vi limit] (vb (cK limit (-1) l)):=by
 refine dd rfl rfl λH Q q=>?_;apply ai;simp;apply ai;simp;apply aU;simp;refine bW l.length (λj t H'=>t.g 1=vi limit/\t.g 8=G (sl g (ints l))/\H=H'/\∃last,t.g 5=vi last/\cK limit (-1) l=cK limit last (l.drop j)) A ce ce bv bv bv ?_ ?_
 .rintro j t _ x ⟨d,m,rfl,last,u,b⟩ s v next
  rw[uS x]at b;apply ax;apply ai;simp[s,m,bu,x,dY];apply aU;simp[u,d];by_cases y:l[j]<=last
  .simp[y];refine aq bv ?_;apply ai;simp;refine av (q _ _ ?_);simp[b,show¬ last<l[j] by omega]
  simp[y,d];by_cases z:limit<=l[j]
  .simp[z];refine aq bv ?_;apply ai;simp;refine av (q _ _ ?_);simp[b,show¬ l[j]<limit by omega]
  simp[z];refine aC bv ?_;apply aQ;apply ba;simp;refine au (next _ _ ?_ (by simp[s]) (by simp[v]));rw[decide_eq_true ap,decide_eq_true ap]at b;exact⟨by simp[d],by simp[m],rfl,l[j],bv,by simpa using b⟩
 .rintro t _ ⟨d,m,rfl,last,u,b⟩ s v;apply ai;simp;refine av (q _ _ ?_);simp[b,cK]
def rD(g:Tg)(l:List Int)(limit:Int)(b:l.length<=9223372036854775807) :
  bf tab Pn [G (sl g (ints l)),vi limit]=Eq (vb (cK limit (-1) l)):=(Nw g l limit b).eq
def NS(b:9223372036854775807<a)(d:a<=18446744073709551615):IntKind.wrap .i64 a=a-18446744073709551616:=by
 simp only[IntKind.wrap,IntKind.bits,IntKind.signed];simp;omega
theorem te:∀(l:List Int) (limit last:Int),cK limit last l=ae->l.length=0\/last+l.length<limit
 |[],_,_,_=>.inl rfl
 |n::r,limit,last,h=>by
  simp[cK]at h;have:=te r limit n h.2;simp;omega
def Z0(p:aR)(v:p.head.length<=9223372036854775807)(x:p.bH.length<=9223372036854775807) :
  Kf tab Pj [.a (p.row.map .f)] (vb (cO p)):=by
 refine dd rfl rfl λH Q d=>?_;apply ai;simp[aR.row];apply ai;simp;by_cases l:0<=p.fr
 case neg=>
  simp[l];refine av (d _ _ ?_);simp[cO,l]
 simp[l];by_cases m:p.fr<=1099511627776
 case neg=>
  simp[m];refine av (d _ _ ?_);simp[cO,m]
 simp[m];by_cases q:1<=p.aO
 case neg=>
  simp[q];refine av (d _ _ ?_);simp[cO,q]
 simp[q];by_cases g:p.aO<=1099511627776
 case neg=>
  simp[g];refine av (d _ _ ?_);simp[cO,g]
 by_cases y:p.head.length+p.bH.length<=9223372036854775807
 case neg=>
  have e:IntKind.wrap .i64 ((p.head.length:Int)+p.bH.length)=(p.head.length:Int)+p.bH.length-18446744073709551616:=NS ap ap;simp[g,e,show(p.head.length:Int)+p.bH.length-18446744073709551616<=1048576 by omega,rD p.hg p.head p.fr v];cases j:cK p.fr (-1) p.head
  .simp;refine av (d _ _ ?_);simp[cO,j]
  simp[rD p.cg p.bH p.aO x];have u:cK p.aO (-1) p.bH=ag:=by
   have a:=te _ _ _ j;cases u:cK p.aO (-1) p.bH
   .rfl
   .have b:=te _ _ _ u;omega
  refine av (d _ _ ?_);simp[cO,u]
 simp[g,a8 (n:=(p.head.length:Int)+p.bH.length)];by_cases s:(p.head.length:Int)+p.bH.length<=1048576
 case neg=>
  simp[s];refine av (d _ _ ?_);simp[cO,s]
 simp[s,rD p.hg p.head p.fr v];cases j:cK p.fr (-1) p.head
 .simp;refine av (d _ _ ?_);simp[cO,j]
 simp[rD p.cg p.bH p.aO x];refine av (d _ _ ?_);simp[cO,l,m,q,g,s,j]
def aR.Sm(p:aR):Prop:=p.head.length<=9223372036854775807/\p.bH.length<=9223372036854775807
def wm(p:aR)(h:p.Sm):bf tab Pj [.a (p.row.map .f)]=Eq (vb (cO p)):=(Z0 p h.1 h.2).eq
def jL(h:cO q=ae):q.Sm:=by
 simp[cO]at h;exact⟨ap,ap⟩
structure cU where
 tg:Tg
 fs:List aR
variable{I:List cU}
def cU.row(t:cU):List FC:=[sl t.tg (aM t.fs)]
def aI(l:List cU):List (List FC):=l.map cU.row
@[simp]theorem U9 (l:List cU):(aI l).length=l.length:=by simp[aI]
theorem eV(l:List cU):cZ 1 (aI l):=cZ.map λ_=>rfl
def gF{l:List cU}{j:Nat}(b:j<l.length):(aI l)[j]?=aa l[j].row:=by simp[aI,b]
def cU.Sm(t:cU):Prop:=t.fs.length<=9223372036854775807/\∀p∈t.fs,p.Sm
def iZ(t:cU):Bool:=decide (1<=(t.fs.length:Int))&&decide ((t.fs.length:Int)<=4)&&t.fs.all cO
def iH(l:List cU):Bool:=decide ((l.length:Int)<=64)&&l.all iZ
def Qo{b:Type}{l:List b}{p:b->Bool}(d:n<l.length):(l.drop n).all p=(p l[n]&&(l.drop (n+1)).all p):=by
 rw[agT d,List.all_cons]
def Y1(p:aR)(h:p.Sm):Kf tab PV [.a (p.row.map .f)] (vb (!cO p)):=by
 refine dd rfl rfl λH Q d=>?_;have b:=wm p h;simp[aR.row]at b;apply ai;simp[aR.row];apply ai;simp[b];refine av (d _ _ ?_);simp
def LN(g:Tg)(l:List aR)(d:l.length<=9223372036854775807)(h:∀p∈l,p.Sm) :
  bf tab GN [G (sl g (aM l)),G (.fn PV [])]=Eq (vb (l.any λp=>!cO p)):=
 (eR Qd (iF Qe l aR.row (λr=>.a (r.row.map .f)) (λp=>!cO p) g PV [] d
  (λj b H=>cf (bK l) (cH b)) (λp m=>Y1 p (h p m)))).eq
def sU(g:Tg)(l:List cU)(I:l.length<=9223372036854775807)(h:∀t∈l,t.Sm):Kf tab DS [.a [.f (sl g (aI l))]] (vb (iH l)):=by
 refine dd rfl rfl λH Q u=>?_;apply ai;simp;apply aU;simp;by_cases z:(64:Int)<l.length
 .simp[z];refine aq bv ?_;apply ai;simp;refine av (u _ _ ?_);simp[iH,show¬ (l.length:Int)<=64 by omega]
 simp[z];refine aC bv ?_;apply aQ;apply aU;simp;refine bW l.length (λj t H'=>t.g 10=G (sl g (aI l))/\(∃J,H'=H++J)/\l.all iZ=(l.drop j).all iZ) I ce ce bv bv bv ?_ ?_
 .rintro j t _ q ⟨d,⟨J,rfl⟩,m⟩ v x next
  rw[Qo q]at m;have y:=h l[j] (IN q);have b:=ib (H:=H++J) (k:=0) (eV l) (gF q) rfl;apply ax;apply ai;simp at b;simp[v,d,bu,q,b];have bad:iZ l[j]=ag->∀(t:T) (J:an) k,WP tab DS ab (.code (.region [⟨D 2,.ju (.k (G (.bool ag))),ab⟩] [])::.code .ret::k) ⟨t,[],H++J⟩ Q:=by
   intro F t J k;apply ba;simp;refine av (u _ _ ?_);simp[iH,m,F]
  apply ai;simp;by_cases A:(l[j].fs.length:Int)<1
  .simp[A];exact aq bv (aE (bad (by simp[iZ,show¬ 1<=(l[j].fs.length:Int) by omega]) _ _ _))
  simp[A];by_cases B:(4:Int)<l[j].fs.length
  .simp[B];exact aq bv (aE (bad (by simp[iZ,show¬ (l[j].fs.length:Int)<=4 by omega]) _ _ _))
  simp[B,LN l[j].tg l[j].fs y.1 y.2];cases s:l[j].fs.any λp=>!cO p
  .have:iZ l[j]=ae:=by
    simp[iZ]at s ⊢;exact⟨⟨ap,ap⟩,s⟩
   refine aC bv ?_;refine aQ (au (next _ _ ?_ (by simp[v]) (by simp[x])));rw[this,ahJ]at m;exact⟨by simp[d],⟨_,rfl⟩,m⟩
  .exact aq bv (aE (bad (by simp[iZ]at s ⊢;intro _ _;exact s) _ _ _))
 .rintro t _ ⟨d,⟨J,rfl⟩,m⟩ v x;apply ai;simp;refine av (u _ _ ?_);simp[iH,m,show(l.length:Int)<=64 by omega]
def uu(a:Int):bf tab ab8 [vi a]=Eq (vb ag):=(show Kf tab ab8 [vi a] (vb ag) by
 refine dd rfl rfl λH Q b=>?_;apply ai;simp;apply ai;simp;refine av (b _ _ ?_);simp).eq
def eG(a b:Int):Int:=if a<b then -1 else if b<a then 1 else 0
def Hb(a b:Int):Kf tab abV [vi a,vi b] (vi (eG a b)):=by
 refine dd rfl rfl λH Q g=>?_;apply ai;simp;apply ai;simp[uu];apply ai;simp[uu];apply aU;simp;refine bG bv ?_;apply aU;simp;refine bG bv ?_;apply aU;simp;by_cases h:a<b
 .refine aq (by simp[h]) ?_;apply ai;simp;refine av (g _ _ ?_);simp[eG,h]
 refine bG (by simp[h]) ?_;apply aU;simp;by_cases d:b<a
 .refine aq (by simp[d]) ?_;apply ai;simp;refine av (g _ _ ?_);simp[eG,h,d]
 refine bG (by simp[d]) ?_;apply ai;simp;refine av (g _ _ ?_);simp[eG,h,d]
def mI(a b:Int):bf tab abV [vi a,vi b]=Eq (vi (eG a b)):=(Hb a b).eq
def Aq:List Int->Int
 |[]=>0| a::r=>if a=0 then Aq r else a
def R9(b:n<l.length):Aq (l.drop n)=if l[n]=0 then Aq (l.drop (n+1))else l[n]:=by
 rw[agT b];rfl
def adr(g:Tg)(l:List Int)(x:l.length<=9223372036854775807):Kf tab ab5 [G (sl g (ints l))] (vi (Aq l)):=by
 refine dd rfl rfl λH Q s=>?_;apply ai;simp;apply ai;simp;apply aU;simp;refine bW l.length (λj t H'=>t.g 3=vi 0/\t.g 6=G (sl g (ints l))/\H=H'/\Aq l=Aq (l.drop j)) x ce ce bv bv bv ?_ ?_
 .rintro j t _ v ⟨d,m,rfl,b⟩ q u next
  rw[R9 v]at b;apply ax;apply ai;simp[q,m,bu,v,dY];apply ai;simp[d];by_cases h:l[j]=0
  .refine aC (by simp[h]) ?_;refine aQ (au (next _ _ ?_ (by simp[q]) (by simp[u])));rw[ct h]at b;exact⟨by simp[d],by simp[m],rfl,b⟩
  .refine aq (by simp[h]) ?_;apply ai;simp;refine av (s _ _ ?_);simp[b,h]
 .rintro t _ ⟨d,m,rfl,b⟩ q u;apply ai;simp[d];refine av (s _ _ ?_);simp[b,Aq]
def Fa(g:Tg)(l:List Int)(b:l.length<=9223372036854775807):bf tab ab5 [G (sl g (ints l))]=Eq (vi (Aq l)):=(adr g l b).eq
def Zh(n lo hi:Int):Kf tab Vn [vi n,vi lo,vi hi] (vb (bR n lo hi)):=by
 refine dd rfl rfl λH Q b=>?_;apply ai;simp;apply ai;by_cases h:lo<=n
 .simp[h];refine av (b _ _ ?_);simp[bR,h]
 .simp[h];refine av (b _ _ ?_);simp[bR,h]
@[simp]theorem afe (n lo hi:Int):bf tab Vn [vi n,vi lo,vi hi]=Eq (vb (bR n lo hi)):=(Zh n lo hi).eq
structure aA where
 day:Int
 fr:Int
 to:Int
deriving DecidableEq
variable{o:List aA}{z u:aA}
def aA.row(x:aA):List FC:=[fi x.day,fi x.fr,fi x.to]
def ay(l:List aA):List (List FC):=l.map aA.row
@[simp]theorem gK (l:List aA):(ay l).length=l.length:=by simp[ay]
theorem bI(l:List aA):cZ 3 (ay l):=cZ.map λ_=>rfl
def dn{l:List aA}{j:Nat}(b:j<l.length):(ay l)[j]?=aa l[j].row:=by simp[ay,b]
def fV(x y:aA):Int:=Aq [eG x.fr y.fr,eG x.day y.day,eG x.to y.to]
def Fb(x y:aA):Kf tab I7 [.a (x.row.map .f),.a (y.row.map .f)] (vi (fV x y)):=by
 refine dd rfl rfl λH Q d=>?_;have b:=Fa .fs [eG x.fr y.fr,eG x.day y.day,eG x.to y.to] bv;simp[ints,sl,Tg.fc]at b;apply ai;simp[aA.row];apply ai;simp[mI,deep,gR,jY,b];refine av (d _ _ ?_);simp[fV]
def sk(x y:aA):Bool:=if x.fr=y.fr then(if x.day=y.day then decide (x.to<y.to)else decide (x.day<y.day))else decide (x.fr<y.fr)
def UE(x y:aA):bf tab XI [.a (x.row.map .f),.a (y.row.map .f)]=Eq (vb (sk x y)):=by
 refine Kf.eq (dd rfl rfl λH Q g=>?_);apply ai;simp[aA.row];apply aU;simp;by_cases b:x.fr=y.fr
 .refine bG (by simp[b]) ?_;apply aU;simp;by_cases d:x.day=y.day
  .refine bG (by simp[d]) ?_;apply ai;simp;refine av (g _ _ ?_);simp[sk,b,d]
  .refine aq (by simp[d]) ?_;apply ai;simp;refine av (g _ _ ?_);simp[sk,b,d]
 .refine aq (by simp[b]) ?_;apply ai;simp;refine av (g _ _ ?_);simp[sk,b]
def aA.lt(x y:aA):Prop:=x.fr<y.fr\/x.fr=y.fr/\(x.day<y.day\/x.day=y.day/\x.to<y.to)
def Bx(x y:aA):sk x y=ae↔x.lt y:=by
 unfold sk aA.lt;by_cases b:x.fr=y.fr
 .by_cases d:x.day=y.day
  .simp[b,d]
  .simp[b,d]
 .simp[b]
def ou(x y:aA):fV x y<0↔x.lt y:=by
 unfold fV aA.lt;simp only[Aq,eG]
 repeat' split
 all_goals omega
def aA.lt_trans{y:aA}(h:u.lt y)(b:y.lt z):u.lt z:=by unfold aA.lt at *;omega
def aA.RE{x:aA}(h:¬ x.lt z)(d:x≠z):z.lt x:=by
 obtain⟨a,b,c⟩:=x;obtain⟨a',g,j⟩:=z;unfold aA.lt at *;simp only[ne_eq,aA.mk.injEq]at d;simp only at h ⊢;omega
def MV(g:Tg)(l:List aA)(x:aA)(hl:l.length<=10)(hs:l.Pairwise aA.lt):∃g' M,M.length<=l.length+1/\(M.Pairwise aA.lt/\∀y,y∈M↔y=x\/y∈l)/\bf tab Gq [G (sl g (ay l)),.a (x.row.map .f)]=Eq (G (sl g' (ay M))):=by
 obtain⟨r,⟨g',M,d_,hS,rfl⟩,h⟩:∃r,(∃g' M,M.length<=l.length+1/\(M.Pairwise aA.lt/\∀y,y∈M↔y=x\/y∈l)/\r=G (sl g' (ay M)))/\bf tab Gq [G (sl g (ay l)),.a (x.row.map .f)] r:=by
  refine dE rfl rfl λQ hQ=>?_;apply ai;simp[aA.row];apply ai;simp;apply ai;simp;apply aU;simp;have X:∀(H:an) (v:V) (o:List aA) (y:aA),o.length<=30->LB ae H 3 v .es (ay o)->∃v' H',bZ (H++[.box [Z y.day,Z y.fr,Z y.to] 0]) 3 24 v (.c (.sl H.length 0 1 1 0 3))=aa (v',H')/\LB ae H' 3 v' .es (ay (o++[y]))/\(∀(b:Nat) cs fl,H[b]?=aa (.box cs fl)->H'[b]?=aa (.box cs fl)):=by
   intro H v o y ho A;obtain⟨v',H',Y,W,-,e4⟩:=LB.app (H:=H++[.box [Z y.day,Z y.fr,Z y.to] 0]) (row:=y.row) (bytes:=24) (y:=.c (.sl H.length 0 1 1 0 3)) (A.push _) (bI _) rfl ce
    (kh (fl:=0) (cs:=y.row.map .f) (by simp[aA.row]) rfl) (ze _) md
   refine⟨v',H',Y,by simpa[ay]using W,λb cs fl hb=>e4 _ _ _ ?_⟩;rw[AI (aj hb)];exact hb
  refine jI l.length (λj t H=>t.g 0=G (sl g (ay l))/\t.g 3=.c (.ptr 0 0 0)/\H[0]?=E [Z x.day,Z x.fr,Z x.to]/\∃d o,t.g 6=vb d/\LB ae H 3 (t.g 5) .es (ay o)/\o.length<=j+1/\(d=ag->o=l.take j/\∀y∈o,y.lt x)/\(d=ae->(o++l.drop j).Pairwise aA.lt/\∀y,y∈o↔y=x\/y∈l.take j)) ap rfl bv
   ⟨bv,bv,bv,ag,[],bv,by simpa[ay]using LB.es0,bv,bv,bv⟩ ?_ ?_ ?_
  .rintro j t H L U ⟨u,F,I,d,o,O,A,ho,hd,q⟩ S hL;simp[S,u];exact hL _ ⟨by simp[u],by simp[F],I,d,o,by simp[O],by simpa using A,ho,hd,q⟩ (by simp[S]) bv
  .rintro j t H U ⟨u,F,I,d,o,O,A,ho,hd,q⟩ S next
   have s:=λH:an=>cf (H:=H) (bI l) (dn U);have K:=UE x l[j];simp[aA.row]at s K;apply ax;apply aU;simp[u,F,S,bu,U,s,I];have N:∀(t:T) (H:an) (o:List aA) (d:Bool),t.g 0=G (sl g (ay l))->t.g 3=.c (.ptr 0 0 0)->t.g 7=vi j->t.g 6=vb d->H[0]?=E [Z x.day,Z x.fr,Z x.to]->LB ae H 3 (t.g 5) .es (ay o)->
     o.length<=j+1->(d=ag->o=l.take j/\(∀y∈o,y.lt x)/\l[j].lt x)->(d=ae->(o++l.drop j).Pairwise aA.lt/\∀y,y∈o↔y=x\/y∈l.take j)->
     WP tab Gq ab [.code KT,.inBlock 1,.code (Bq 7 13 14),.inLoop (rE 0 7 12 13 14 [⟨D 9,.ju (R 7),ab⟩,⟨D 10,.ju (R 0),ab⟩,⟨D 11,.len (R 10),ab⟩,⟨D 12,.bin .lss (R 9) (R 11),ab⟩] KR),.inBlock 0,.code KU] ⟨t,[],H⟩ Q:=by
    intro t H o d u F g7 O I A ho hd q;have c_:l.take (j+1)=l.take j++[l[j]]:=by rw[agV,BY U];rfl
    have d9:l.drop j=l[j]::l.drop (j+1):=agT U;have g_:(l.take j).length=j:=pp
    have f_:(o++[l[j]]).length<=j+1+1:=pp
    obtain⟨v',H',Y,W,e4⟩:=X H (t.g 5) o l[j] ap A;apply ba;simp[u,g7,bu,U,s,Y];refine au (next _ _ ?_ (by simp[g7]));exact⟨by simp[u],by simp[F],e4 _ _ _ I,d,o++[l[j]],by simp[O],by simpa using W,f_,λh=>by
     obtain⟨a1,B,a3⟩:=hd h;subst a1;refine⟨c_.symm,λy m=>?_⟩;rcases agP.1 m with m|m
     .exact B y m
     .obtain rfl:=If.1 m;exact a3,λh=>by
     obtain⟨a1,B⟩:=q h;rw[d9]at a1;refine⟨by simpa using a1,λy=>?_⟩;rw[c_,agP,agP,B,or_assoc]⟩
   cases hc:(l[j].day == x.day&&(l[j].fr == x.fr&&l[j].to == x.to))
   .refine bG bv ?_;apply aU;simp[O];cases d
    .simp[F,I,u,S,bu,U,s,K];cases b_:sk x l[j]
     .refine bG bv ?_;exact N _ _ o ag (by simp[u]) (by simp[F]) (by simp[S]) (by simp[O]) I (by simpa using A) ap (λ_=>by
       obtain⟨a1,B⟩:=hd rfl;refine⟨a1,B,aA.RE (x:=x) ?_ ?_⟩
       .rw[<-Bx,b_];simp
       .rintro rfl;simp at hc) bv
     .refine aq bv ?_;obtain⟨v',H',Y,W,e4⟩:=X H (t.g 5) o x ap A;obtain⟨a1,B⟩:=hd rfl;have a_:=(Bx _ _).1 b_;have h_:o.length<=j:=by rw[a1];simp;omega
      apply ai;simp[F,I,Y];apply ba;simp;refine N _ _ (o++[x]) ae (by simp[u]) (by simp[F]) (by simp[S]) bv (e4 _ _ _ I) (by simpa using W) ge bv λ_=>⟨?_,λy=>?_⟩
      .have c9:(l.take j++l.drop j).Pairwise aA.lt:=by rw[List.take_append_drop];exact hs
       rw[ahT]at c9;obtain⟨b1,b2,b3⟩:=c9;rw[ahm,ahT,a1];refine⟨b1,?_,?_⟩
       .rw[List.singleton_append,ahH];refine⟨λy m=>?_,b2⟩;rw[agT U]at m b2;rcases ag8.1 m with rfl|m
        .exact a_
        .exact aA.lt_trans a_ ((ahH.1 b2).1 y m)
       .intro y m z hz;rcases agP.1 hz with hz|hz
        .obtain rfl:=If.1 hz;exact B y (a1▸m)
        .exact b3 y m z hz
      .rw[agP,a1,If,or_comm]
    .simp;refine bG bv ?_;exact N _ _ o ae (by simp[u]) (by simp[F]) (by simp[S]) (by simp[O]) I (by simpa using A) ho bv λ_=>q rfl
   .refine aq bv ?_;apply ai;simp[u];refine av (hQ _ _ _ ⟨g,l,ap,⟨hs,λy=>⟨.inr,?_⟩⟩,rfl⟩ ?_)
    .rintro(rfl|m)
     .have:y=l[j]:=by
       obtain⟨a,b,c⟩:=y;simp only[IS,beq_iff_eq]at hc;cases e_:l[j]with
       |mk a' b' c'=>
        rw[e_]at hc;simp at hc;obtain⟨rfl,rfl,rfl⟩:=hc;rfl
      rw[this];exact IN U
     .exact m
    simp
  .rintro t H ⟨u,F,I,d,o,O,A,ho,hd,q⟩ S;apply aU;simp[O];cases d
   .refine aq bv ?_;obtain⟨v',H',Y,W,e4⟩:=X H (t.g 5) o x ap A;apply ba;simp[F,I,Y];apply ai;simp;obtain⟨cv,J,_⟩:=W.len;have:=W.fzV (bI _);obtain⟨a1,B⟩:=hd rfl;rw[agW]at a1;subst a1;refine av (hQ _ _ _ ⟨.es,o++[x],bv,⟨?_,λy=>by rw[agP,If,or_comm]⟩,rfl⟩ ?_)
    .rw[ahT];exact⟨hs,ahN _ _,λy m z hz=>by obtain rfl:=If.1 hz;exact B y m⟩
    rw[J]at this;simp[J];simpa using this
   .refine bG bv ?_;apply ai;simp;obtain⟨cv,J,_⟩:=A.len;have:=A.fzV (bI _);obtain⟨a1,B⟩:=q rfl;rw[agW]at B;rw[aib,ahe]at a1;refine av (hQ _ _ _ ⟨.es,o,ho,⟨a1,B⟩,rfl⟩ ?_);rw[J]at this;simp[J];simpa using this
 exact⟨g',M,d_,hS,bf.eq h⟩
def aA.le(x y:aA):Prop:=¬ y.lt x
@[simp]theorem aA.aef (x:aA):x.row.length=3:=rfl
theorem xR{b:Type}(A:List b)(x y:b)(B:List b):(A++x::B).set A.length y=A++y::B:=lw
def C4(l:List aA)(j:Nat)(x:aA):(ay l).set j x.row=ay (l.set j x):=by simp[ay,List.map_set]
def ur(h:o[n]?=aa z):(ay o)[n]?=aa z.row:=by simp[ay,h]
def UD:((List.range 13).all λn=>match (CF tab 60 60 (.fn PQ) [G (.int .u64 n)] [])with|some (.c (.f (.int .i64 k)),_)=>ae|_=>ag)=ae:=io
def VQ(n:Nat)(h:n<=12):∃k:Int,bf tab PQ [vu n]=Eq (vi k):=by
 have b:=UD;rw[ag9]at b;have g:=b n ge;split at g
 .rename_i k H' e;exact⟨k,(xd (m:=60) (d:=60) (by rw[e];rfl)).eq⟩
 .cases g
def yH:List FC->aA
 |[.int _ a,.int _ b,.int _ c]=>⟨a,b,c⟩| _=>⟨0,0,0⟩
def vO(r:List FC):Prop:=r=(yH r).row
def Hy(x:aA):vO x.row:=rfl
def Sa(r s:List FC):Int:=fV (yH r) (yH s)
def QF:Cmp vO Sa where
 asym:=λ_ _ h b=>by
  unfold Sa at h b;rw[ou]at h b;unfold aA.lt at h b;omega
 trans:=λ_ _ _ h b=>by
  unfold Sa at *;rw[ou]at *;unfold aA.lt at *;omega
def TZ(b:∀x y:aA,Kf tab F [.a (x.row.map .f),.a (y.row.map .f)] (vi (fV x y))):Cv tab (G (.fn F [])) vO Sa:=by
 intro x y d g H;obtain⟨J,h⟩:=b (yH x) (yH y) H;rw[<-show x=(yH x).row from d,<-show y=(yH y).row from g]at h;exact⟨F,_,J,by simp[cr],h⟩
def ME(h:∀r∈v,vO r):ay (v.map yH)=v:=by
 unfold ay;rw[air]
 conv=>rhs;rw[<-List.map_id v]
 exact List.map_congr_left λr b=>(h r b).symm
def C3(l:List aA):(ay l).map yH=l:=by
 unfold ay;rw[air]
 conv=>rhs;rw[<-List.map_id l]
 exact List.map_congr_left λr _=>rfl
def Kd(K:∀x y:aA,Kf tab F [.a (x.row.map .f),.a (y.row.map .f)] (vi (fV x y)))(B:o.length<=12)(z:RB H n 3 N (ay o)) :
  ∃r H',Ev tab (.fn GS) [.c (.sl n 0 o.length 0 N 3),G (.fn F [])] H r H'/\
   (r=.t []/\Fm n H H'/\∃d:List aA,RB H' n 3 N (ay d)/\d.Perm o/\d.Pairwise aA.le):=by
 have v:∀r∈ay o,vO r:=λr s=>by
  obtain⟨x,-,rfl⟩:=agX.1 s;exact Hy x
 obtain⟨k,M⟩:=VQ o.length B;have J:(ay o).length=o.length:=gK o;obtain⟨r,H',L,rfl,f,d,r',u,g⟩:=ZA (a:=0) (e:=o.length) Qg (TZ K) QF J ap z (bI o) v ap ap;have m:∀r∈d,vO r:=λr s=>v r (u.1.mem_iff.1 s);refine⟨_,_,Ke Qf Qh M z.len B L,rfl,f,d.map yH,?_,?_,?_⟩
 .rw[ME m];exact r'
 .have:=u.1.map yH;rwa[C3]at this
 .rw[ahn];intro i j hi A q;simp only[agS]at hi A;have I:d.length=o.length:=by rw[u.len,J]
  have:=g i j d[i] d[j] ap q ap (BY hi) (BY A);rw[aiF,aiF];unfold Sa at this;rw[ou]at this;exact this
def FY:∃r H',Ev tab (.fn GS) [G .aN,G (.fn F [])] H r H'/\(r=.t []/\H'=H):=by
 obtain⟨k,b⟩:=VQ 0 ap;exact⟨_,_,Ke Qf Qh b rfl ap (Ur Qg),rfl,rfl⟩
def Rv{y:aA}(h:z.le y)(b:z≠y):z.lt y:=aA.RE h (Ne.symm b)
def eqB(x y:aA):Bool:=x.day == y.day&&(x.fr == y.fr&&x.to == y.to)
def xF:eqB z u=ae↔z=u:=by
 obtain⟨a,b,c⟩:=z;obtain⟨a',d,g⟩:=u;simp[eqB]
def JU(g:o.Pairwise aA.le){i j:Nat}(b:i<j)(d:j<o.length):(o[i]'(by omega)).le o[j]:=ahn.1 g i j ap d b
def yG{l:List aA}(hl:l.length<=1000000)(hs:l.Pairwise aA.le)(I:RB H N 3 F (ay l)) :
  ∃r H',Ev tab (.fn Cx) [.c (.sl N 0 l.length 0 F 3)] H r H'/\
   (∃l' R:List aA,r=.c (.sl N 0 l'.length 0 F 3)/\Fm N H H'/\RB H' N 3 F (ay (l'++R))/\l'.length<=l.length/\l'.Pairwise aA.lt/\∀x,x∈l'↔x∈l):=by
 refine dc rfl rfl λQ hQ=>?_;apply ai;simp;apply aU;simp[I.len];by_cases h2:l.length<2
 .refine aq ge ?_;apply ai;simp;refine av (hQ _ _ _ rfl (dx bv) ⟨l,[],rfl,Fm.refl _,by simpa using I,agQ _,?_,λ_=>Iff.rfl⟩)
  match l,h2 with
  |[],_=>exact List.Pairwise.nil| [x],_=>exact ahN _ _| x::y::r,h=>simp at h;omega
 refine aC ge (aQ ?_);apply aU;simp;apply ax;refine di (λn s=>∃(k:Nat) (t:T),s=⟨t,[],H⟩/\n=l.length-k/\1<=k/\k<=l.length/\t.g 0=.c (.sl N 0 l.length 0 F 3)/\t.g 3=vi k/\(l.take k).Pairwise aA.lt) (l.length-1)
  ⟨1,_,rfl,rfl,ap,ap,bv,bv,?_⟩ ?_
 .cases l with
  |nil=>simp| cons x r=>simp
 rintro n s ⟨k,t,rfl,rfl,j8,j9,B,A,hp⟩ ih;apply aU;simp[B,A,I.len];by_cases u:k<l.length
 case neg=>
  refine aC (by simp[u]) ?_;refine bQ (k':=[.code vF]) rfl ?_;apply ai;simp[B];refine av (hQ _ _ _ rfl (dx bv) ⟨l,[],rfl,Fm.refl _,by simpa using I,agQ _,?_,λ_=>Iff.rfl⟩);rwa[agY ap]at hp
 refine aq (by simp[u]) (aQ ?_);obtain⟨m,rfl⟩:∃m,k=m+1:=⟨k-1,ap⟩
 have ix:∀{H:an} {rows:List (List FC)} (I:RB H N 3 F rows) (o n i:Nat) (hi:i<n),bO H 3 ab (.c (.sl N o n 0 F 3)) (vi i)=aa (.c (.ptr N (o+i*3) F)):=by
  intro H rows I o n i hi;have:=I.idx (n:=n) (c:=0) (k:=.i64) (o:=o) (i:=(i:Int)) ap ap;rwa[ag7]at this
 have i1:=ix I 0 l.length (m+1) u;have i0:=ix I 0 l.length m ap;have l1:=I.ldr (bI _) (dn (l:=l) (j:=m+1) u);have l0:=I.ldr (bI _) (dn (l:=l) (j:=m) ap);rw[ahI]at i1 i0;have c1:((m+1:Nat):Int)-1=m:=ii
 rw[show((m+1:Nat):Int)=(m:Int)+1 by omega]at i1;have f_:l.take (m+1+1)=l.take (m+1)++[l[m+1]]:=by rw[agV,BY u];rfl
 apply aE;apply ax;apply ai;simp[B,A,i1,i0,l1,l0,-aw,a8 (n:=(m:Int)),aA.row];cases hc:(l[m+1].day == l[m].day&&(l[m+1].fr == l[m].fr&&l[m+1].to == l[m].to))
 .
  refine aC bv (aQ (au ?_));apply ba;simp[A,a8 (n:=(m:Int)+1+1)];refine ih (l.length-(m+2)) _ ap ⟨m+2,_,rfl,rfl,ap,ap,by simp[B],ge,?_⟩;show(l.take (m+1+1)).Pairwise aA.lt;have O:l[m]≠l[m+1]:=λe=>by
   have:eqB l[m+1] l[m]=ae:=xF.2 e.symm;rw[eqB,hc]at this;cases this
  rw[f_,ahT];refine⟨hp,ahN _ _,λy hy z hz=>?_⟩;obtain rfl:=If.1 hz;obtain⟨i,hi,rfl⟩:=ag1 hy;have j7:i<m+1:=by simp at hi;omega
  rw[ajj];by_cases e:i=m
  .subst e;exact Rv (JU hs ap u) O
  .exact aA.lt_trans (y:=l[m]) (by
    have h1:=ahn.1 hp i m ge ge ap;simpa using h1) (Rv (JU hs ap u) O)
 .
  have i7:l[m+1]=l[m]:=xF.1 hc;have c2:((m+1:Nat):Int)=(m:Int)+1:=ii
  have S:=I.px (k:=m+1) u;rw[c2]at S;refine aq bv ?_;apply ai;simp[B,A,S];apply aU;simp;apply ax;refine di (λn s=>∃(i:Nat) (t:T) (J:an) (P R:List aA),s=⟨t,[],J⟩/\n=l.length-(m+2+i)/\m+2+i<=l.length/\t.g 0=.c (.sl N 0 l.length 0 F 3)/\t.g 3=vi P.length/\t.g 4=.c (.sl N ((m+1)*3) (l.length-(m+1)) 0 F 3)/\t.g 5=vi ((i:Int)+1)/\
   Fm N H J/\RB J N 3 F (ay (P++R))/\(P++R).length=l.length/\1<=P.length/\P.length<=m+1+i/\(∀q,m+1+i<=q->(P++R)[q]?=l[q]?)/\P.Pairwise aA.lt/\∀x,x∈P↔x∈l.take (m+2+i)) (l.length-(m+2))
   ⟨0,_,H,l.take (m+1),l.drop (m+1),rfl,rfl,ap,by simp[B],by simp[A];omega,bv,bv,Fm.refl _,by simpa using I,bv,ge,ge,bv,hp,λx=>?_⟩ ?_
  .show x∈l.take (m+1)↔x∈l.take (m+1+1);rw[f_,agP,If];refine⟨.inl,λh=>h.elim id λe=>?_⟩;rw[e,i7];exact ahE.2 ⟨m,ap,rfl⟩
  rintro n s ⟨i,t,J,P,R,rfl,rfl,hi,B,A,W,X,K,d,v,Y,g_,hq,M,g⟩ j6;have a_:=d.len (o:=(m+1)*3) (l:=l.length-(m+1)) (c:=0);apply aU;simp[W,X,a_];by_cases L:m+2+i<l.length
  case neg=>
   have d9:m+2+i=l.length:=ii
   refine aC ge ?_;refine bQ (k':=[.code AP,.inBlock 1,.code AR,.inLoop AO,.inBlock 0,.code vF]) rfl ?_;have c_:P.length<l.length:=ii
   obtain⟨H3,i6,c9,i8⟩:=d.clr (bI _) (zs:=[fi 0,fi 0,fi 0]) (by simpa using v) c_ rfl;have S:=d.px c_;apply ai;simp[B,A,S,i6];have j5:=c9.FP (n:=l.length) (k:=P.length) ap ap;apply ai;simp[B,A,j5];have e3:(ay (P++R)).take P.length++List.replicate (l.length-P.length) [fi 0,fi 0,fi 0]=ay (P++List.replicate (l.length-P.length) ⟨0,0,0⟩):=by
    simp[ay,aA.row]
   rw[e3]at c9;refine av (hQ _ _ _ rfl (dx bv) ⟨P,_,rfl,K.trans i8,c9,ap,M,λx=>?_⟩);rw[g,d9,agW]
  have ha:(P++R)[m+2+i]?=aa l[m+2+i]:=by rw[hq _ ap,BY L]
  have h_:(P++R)[m+1+i]?=aa (l[m+1+i]'(by omega)):=by rw[hq _ ap,BY]
  have j1:=ix d ((m+1)*3) (l.length-(m+1)) (i+1) ap;have j0:=ix d ((m+1)*3) (l.length-(m+1)) i ap;rw[show(m+1)*3+(i+1)*3=(m+2+i)*3 by omega,show((i+1:Nat):Int)=(i:Int)+1 by omega]at j1;rw[show(m+1)*3+i*3=(m+1+i)*3 by omega]at j0;have d1:=d.ldr (bI _) (ur ha);have d0:=d.ldr (bI _) (ur h_);refine aq ge (aQ ?_);apply aE;apply ax;apply ai;simp[W,X,j1,j0,d1,d0,-aw,a8 (n:=(i:Int)),aA.row];have U:l.take (m+2+(i+1))=l.take (m+2+i)++[l[m+2+i]]:=by
   rw[show m+2+(i+1)=m+2+i+1 by omega,agV,BY L];rfl
  have next:∀(t:T) (J:an) (P R:List aA),t.g 0=.c (.sl N 0 l.length 0 F 3)->t.g 3=vi P.length->t.g 4=.c (.sl N ((m+1)*3) (l.length-(m+1)) 0 F 3)->t.g 5=vi ((i:Int)+1)->
    Fm N H J->RB J N 3 F (ay (P++R))->(P++R).length=l.length->1<=P.length->P.length<=m+2+i->(∀q,m+2+i<=q->(P++R)[q]?=l[q]?)->P.Pairwise aA.lt->(∀x,x∈P↔x∈l.take (m+2+(i+1)))->
    WP tab Cx ab [.inBlock 3,.code Lr,.inLoop Lq,.inBlock 2,.code AP,.inBlock 1,.code AR,.inLoop AO,.inBlock 0,.code vF] ⟨t,[],J⟩ Q:=by
   intro t J P R B A W X K d v Y g_ hq M g;refine au (aF (.inl rfl) ?_);simp[X,a8 (n:=(i:Int)+1+1)];exact j6 (l.length-(m+2+(i+1))) _ ap ⟨i+1,_,J,P,R,rfl,rfl,ap,by simp[B],by simp[A],by simp[W],bv,K,d,v,Y,ap,λq h=>hq q ap,M,g⟩
  have i9:(l[m+1+i]'(by omega)).le l[m+2+i]:=JU hs ap L;cases b:(l[m+2+i].day == l[m+1+i].day&&(l[m+2+i].fr == l[m+1+i].fr&&l[m+2+i].to == l[m+1+i].to))
  .have O:l[m+1+i]≠l[m+2+i]:=λe=>by
    have:eqB l[m+2+i] l[m+1+i]=ae:=xF.2 e.symm;rw[eqB,b]at this;cases this
   have e_:=Rv i9 O;have kx:=ix d 0 l.length P.length ap;rw[ahI]at kx;obtain⟨H3,s3,r3,f3,-⟩:=d.str (bI _) (j:=P.length) (by rw[gK,v];omega) (row:=(l[m+2+i]).row) rfl;rw[C4]at r3;obtain⟨x0,R',rfl⟩:∃x0 R',R=x0::R':=by
    cases R with
    |nil=>simp at v;omega| cons x0 R'=>exact⟨_,_,rfl⟩
   rw[xR]at r3;have b_:¬l[m+2+i].day=l[m+1+i].day\/¬l[m+2+i].fr=l[m+1+i].fr\/¬l[m+2+i].to=l[m+1+i].to:=by
    simp at b;omega
   refine aq (by simpa using b_) ?_;apply ai;simp only[aA.row,IT,agN]at s3;simp[B,A,W,X,j1,d1,kx,s3,-aw,-bF,aA.row];apply ba;simp[A,a8 (n:=(P.length:Int)+1)];have e5:P++l[m+2+i]::R'=(P++[l[m+2+i]])++R':=lw
   rw[e5]at r3;refine next _ H3 (P++[l[m+2+i]]) R' (by simp[B]) bv (by simp[W]) (by simp[X]) (K.trans f3) r3 (by simpa using v) bv ge (λq h=>?_) ?_ λx=>?_
   .rw[<-e5,<-xR P x0,sh ap];exact hq q ap
   .rw[ahT];refine⟨M,ahN _ _,λy hy z hz=>?_⟩;obtain rfl:=If.1 hz;obtain⟨q,i_,rfl⟩:=ag1 ((g y).1 hy);have j_:q<m+2+i:=by simp at i_;omega
    rw[ajj];by_cases e:q=m+1+i
    .subst e;exact e_
    .have h1:=JU hs (i:=q) (j:=m+1+i) ap ap;unfold aA.le aA.lt at *;omega
   .rw[U,agP,agP,g]
  .have d_:l[m+2+i]=l[m+1+i]:=xF.1 b;have b_:l[m+2+i].day=l[m+1+i].day/\l[m+2+i].fr=l[m+1+i].fr/\l[m+2+i].to=l[m+1+i].to:=by simpa using b
   refine aC (by simpa using b_) (aQ ?_);refine next _ J P R (by simp[B]) (by simp[A]) (by simp[W]) (by simp[X]) K d v Y ap (λq h=>hq q ap) M λx=>?_
   rw[U,agP,If,g];refine⟨.inl,λh=>h.elim id λe=>?_⟩;rw[e,d_];exact ahE.2 ⟨m+1+i,ap,rfl⟩
abbrev u64(n:Int):V:=G (.int .u64 n)
def jh{n:Int}(b:0<=n)(d:n<=18446744073709551615):IntKind.wrap .u64 n=n:=by
 simp only[IntKind.wrap,IntKind.bits,IntKind.signed];simp;omega
def Kj(h:0<=a)(d:0<b):de .rem (u64 a) (u64 b)=aa (u64 (a % b)):=by
 rw[dD ap,ag4 h]
def adA(h:0<=a)(g:0<b)(d:a<=18446744073709551615):de .quo (u64 a) (u64 b)=aa (u64 (a / b)):=by
 rw[gI ap,ahp h,jh (ahC h ap) (ahx (aic _ h) d)]
def uF(b:0<=a)(g:a<=9223372036854775807):bf tab acf [vi a]=Eq (u64 a):=bf.eq (by
 refine bD rfl rfl λQ d=>?_;apply ai;simp;apply aU;simp;refine aC ge (aQ ?_);apply ai;simp[jh (n:=a) b ap];refine av (d _ _ ?_);simp)
def Rh(h:0<N):ah5 N (n % N)=ah5 n N:=by rw[Nat.gcd_comm n N,Nat.gcd_rec N n,Nat.gcd_comm]
def yS{a b:Nat}(z:(a:Int)<=4611686018427387904)(A:(b:Int)<=4611686018427387904):bf tab AX [vi a,vi b]=Eq (vi (ah5 a b:Nat)):=bf.eq (by
 have m1:=uF (a:=a) ap ap;have m2:=uF (a:=b) ap ap;refine bD rfl rfl λQ B=>?_;apply ai;simp;apply ai;simp[m1,m2];refine aE (ax ?_);refine di (λm s=>∃(x y:Nat) (t:T),s=⟨t,[],[]⟩/\m=y/\(x:Int)<=4611686018427387904/\(y:Int)<=4611686018427387904/\t.g 5=u64 x/\t.g 6=u64 y/\ah5 x y=ah5 a b) b ⟨a,b,_,rfl,rfl,z,A,bv,bv,rfl⟩ ?_;rintro m s ⟨x,y,t,rfl,rfl,I,J,d,l,u⟩ H;apply aU;simp[l];by_cases q:m=0
 .subst q;refine aC bv (bQ rfl ?_);have j:x=ah5 a b:=by rw[<-u];simp
  have F:¬ ((9223372036854775807:Int)<x):=ii
  apply aU;simp[d,F];refine bG bv ?_;apply ai;simp[d,a8 (n:=(x:Int))];refine av (B _ _ ?_);simp[j]
 .have v:=Kj (a:=x) (b:=m) ap ap;rw[show(x:Int) % (m:Int)=((x % m:Nat):Int) from(Int.natCast_emod x m).symm]at v;have g:x % m<m:=Nat.mod_lt _ ap;refine aq (by simp[q]) (aQ ?_);refine ax (aF (.inl rfl) ?_);simp[d,l,v];refine au (H (x % m) _ g ⟨m,x % m,_,rfl,rfl,ap,ap,bv,bv,by rw[Rh ap];exact u⟩))
def Qq(g:0<=a)(j:a<=4294967295):de .and (u64 a) (u64 4294967295)=aa (u64 a):=by
 obtain⟨n,rfl⟩:∃n:Nat,a=n:=⟨a.toNat,ap⟩
 have e:(BitVec.ofInt 64 (n:Int) &&& BitVec.ofInt 64 4294967295).toNat=n:=by
  rw[BitVec.toNat_and];have b:(BitVec.ofInt 64 (n:Int)).toNat=n:=by simp[BitVec.toNat_ofInt];omega
  have d:(BitVec.ofInt 64 4294967295).toNat=2 ^ 32-1:=pi
  rw[b,d,Nat.and_two_pow_sub_one_eq_mod,Nat.mod_eq_of_lt ap]
 have key:IntKind.wrap .u64 ((BitVec.ofInt 64 (n:Int) &&& BitVec.ofInt 64 4294967295).toNat:Int)=n:=by rw[e];exact jh ap ap
 exact congrArg (λk:Int=>aa (u64 k)) key
def Kc(_:0<=a):de .shr (u64 a) (u64 32)=aa (u64 (a / 4294967296)):=by
 simp only[de];rw[cC ce,show min (Int.toNat 32) IntKind.u64.bits=32 from rfl,Int.fdiv_eq_ediv_of_nonneg _ ce];rfl
def uM(q:0<=a)(K:a<=2147483648)(g:0<=y)(L:y<=2147483648):bf tab ab2 [u64 a,u64 y]=Eq (.t [u64 0,u64 (a*y)]):=bf.eq (by
 have d:0<=a*y:=ahy q g;have F:a*y<=2147483648*2147483648:=aiy K L g ce;have j:a*y / 4294967296<=4294967295:=ii
 have b:0<=a*y / 4294967296:=ii
 have a1:=Qq q (show a<=4294967295 by omega);have A:=Qq g (show y<=4294967295 by omega);have s:=Kc q;have u:=Kc g;have I:a / 4294967296=0:=ii
 have J:y / 4294967296=0:=ii
 rw[I]at s;rw[J]at u;have H:=Kc d;have a3:=Qq b j;have l:=Kc b;have sz:a*y / 4294967296 / 4294967296=0:=ii
 rw[sz]at l;have v:IntKind.wrap .u64 (a*y)=a*y:=jh d ap;have z:IntKind.wrap .u64 (a*y / 4294967296)=a*y / 4294967296:=jh b ap;have m:IntKind.wrap .u64 0=0:=pi
 refine bD rfl rfl λQ B=>?_;apply ai;simp;apply ai;simp[a1];apply ai;simp[s];apply ai;simp[A];apply ai;simp[u];apply ai;simp[v];apply ai;simp[H,m,z];apply ai;simp[a3];apply ai;simp[l];apply ai;simp[m,z];apply ai;simp[m,l];apply ai;simp[v];refine av (B _ _ ?_);simp)
def Eu(j:0<=a)(s:a<=9223372036854775807)(g:0<y)(n1:y<=9223372036854775807):bf tab ab1 [u64 0,u64 a,u64 y]=Eq (.t [u64 (a / y),u64 (a % y)]):=bf.eq (by
 have b:¬ (y=0):=ii
 have d:¬ (y<=0):=ii
 have l:=adA j g ap;have m:=Kj j g;refine bD rfl rfl λQ q=>?_;apply ai;simp;apply aU;simp;refine bG (by simp[b]) ?_;apply aU;simp;refine bG (by simp[d]) ?_;apply aU;simp;refine aq bv ?_;apply ai;simp[l,m];refine av (q _ _ ?_);simp)
def zu(x y:aA):bf tab I7 [.a (x.row.map .f),.a (y.row.map .f)]=Eq (vi (fV x y)):=(Fb x y).eq
def Da(g:Tg)(l:List cU)(b:l.length<=9223372036854775807)(h:∀t∈l,t.Sm):bf tab DS [.a [.f (sl g (aI l))]]=Eq (vb (iH l)):=(sU g l b h).eq
structure cM where
 mg:Tg
 ts:List cU
 min:Int
variable{Q:List cM}
def cM.row(c:cM):List FC:=[sl c.mg (aI c.ts),fi c.min]
def aK(l:List cM):List (List FC):=l.map cM.row
@[simp]theorem Ag (l:List cM):(aK l).length=l.length:=by simp[aK]
theorem dN(l:List cM):cZ 2 (aK l):=cZ.map λ_=>rfl
def fJ{l:List cM}{j:Nat}(b:j<l.length):(aK l)[j]?=aa l[j].row:=by simp[aK,b]
structure aG where
 cg:Tg
 cs:List cM
 len:Int
 xg:Tg
 xs:List aA
def aG.row(s:aG):List FC:=[sl s.cg (aK s.cs),fi s.len,sl s.xg (ay s.xs)]
def aG.Sm(s:aG):Prop:=s.cs.length<=9223372036854775807/\s.xs.length<=9223372036854775807/\∀c∈s.cs,c.ts.length<=9223372036854775807/\∀t∈c.ts,t.Sm
def fk:Option Int->List cM->Bool
 |_,[]=>ae| prev,c::r=>iH c.ts&&bR c.min (-4320) 4320&&(prev.all λm=>decide (m<c.min))&&fk (aa c.min) r
def qw(x:aA):Bool:=bR x.day 0 1099511627776&&bR x.fr (-2251799813685248) 1583296743997439&&bR x.to (x.fr+1) (x.fr+10080)
def km:Option aA->List aA->Bool
 |_,[]=>ae| prev,x::r=>qw x&&(prev.all λm=>decide (fV m x<0))&&km (aa x) r
def ij(s:aG):Bool:=decide ((s.cs.length:Int)<=64)&&bR s.len 1 10080&&decide ((s.xs.length:Int)<=4096)&&fk ab s.cs&&km ab s.xs
def Ah{p:Option Int}(b:n<Q.length):fk p (Q.drop n)=(iH Q[n].ts&&bR Q[n].min (-4320) 4320&&(p.all λm=>decide (m<Q[n].min))&&fk (aa Q[n].min) (Q.drop (n+1))):=by
 rw[agT b];rfl
def EA{p:Option aA}(b:n<o.length):km p (o.drop n)=(qw o[n]&&(p.all λm=>decide (fV m o[n]<0))&&km (aa o[n]) (o.drop (n+1))):=by
 rw[agT b];rfl
def oD(s:aG)(h:s.Sm):Kf tab I5 [.a (s.row.map .f)] (vb (ij s)):=by
 obtain⟨hc,hx,W⟩:=h;refine dd rfl rfl λH Q hQ=>?_;have bad:ij s=ag->∀(t:T) (J:an) k,WP tab I5 ab (.code (.region [⟨D 2,.ju (.k (G (.bool ag))),ab⟩] [])::.code .ret::k) ⟨t,[],H++J⟩ Q:=by
  intro hf t J k;apply ba;simp;refine av (hQ _ _ ?_);simp[hf]
 apply ai;simp[aG.row];apply aU;simp;by_cases k1:(64:Int)<s.cs.length
 .simp[k1];exact aq bv (aE (bad (by simp[ij,show¬ (s.cs.length:Int)<=64 by omega]) _ _ _))
 simp[k1];cases k2:bR s.len 1 10080
 .simp;exact aq bv (aE (bad (by simp[ij,k2]) _ _ _))
 simp;by_cases k3:(4096:Int)<s.xs.length
 .simp[k3];exact aq bv (aE (bad (by simp[ij,show¬ (s.xs.length:Int)<=4096 by omega]) _ _ _))
 simp[k3];have hS:ij s=(fk ab s.cs&&km ab s.xs):=by simp[ij,k2,show(s.cs.length:Int)<=64 by omega,show(s.xs.length:Int)<=4096 by omega]
 rw[hS]at bad;refine aC bv ?_;apply aQ;apply aU;simp;obtain⟨l,v⟩:=aH ([C.f (sl s.cg (aK s.cs)),C.f (fi s.len),C.f (sl s.xg (ay s.xs))]);rw[<-v];have a_:l.drop 0=[C.f (sl s.cg (aK s.cs)),C.f (fi s.len),C.f (sl s.xg (ay s.xs))]:=by rw[v];rfl
 have U:l.drop 2=[C.f (sl s.xg (ay s.xs))]:=by rw[v];rfl
 have N:l=C.f (sl s.cg (aK s.cs))::[C.f (fi s.len),C.f (sl s.xg (ay s.xs))]:=v;refine bW s.cs.length (λj t H'=>t.g 1=.c (.ptr H.length 0 0)/\t.g 25=G (sl s.cg (aK s.cs))/\(∃J,H'=H++(.box l 0::J))/\
  ∃d,(∀m,j=m+1->∀h:m<s.cs.length,d=aa (s.cs[m]'h).min)/\(j=0->d=ab)/\fk ab s.cs=fk d (s.cs.drop j)) hc ce ce bv bv
   ⟨bv,bv,⟨[],bv⟩,ab,ap,bv,bv⟩ ?_ ?_
 .rintro j t _ I ⟨x,A,⟨J,rfl⟩,d,l1,l2,u⟩ F L next
  rw[Ah I]at u;have M:=cf (H:=H++(.box l 0::J)) (dN s.cs) (fJ I);have z:=Da s.cs[j].mg s.cs[j].ts (W _ (IN I)).1 (W _ (IN I)).2;apply ax;apply ai;simp[F,A,bu,I,M,cM.row];apply ai;simp[z];cases X:iH s.cs[j].ts
  .simp;exact aq bv (aE (bad (by simp[u,X]) _ _ _))
  simp;cases S:bR s.cs[j].min (-4320) 4320
  .simp;exact aq bv (aE (bad (by simp[u,S]) _ _ _))
  simp;have go:(d.all λm=>decide (m<s.cs[j].min))=ae->∃g,(∀m,j+1=m+1->∀h:m<s.cs.length,g=aa (s.cs[m]'h).min)/\(j+1=0->g=ab)/\fk ab s.cs=fk g (s.cs.drop (j+1)):=by
   intro hp;rw[X,S,hp,ahJ,ahJ,ahJ]at u;refine⟨aa s.cs[j].min,λm z h=>?_,ap,u⟩;have:m=j:=ii
   subst this;rfl
  cases j with
  |zero=>
   simp;refine aC bv ?_;refine aQ (au (next _ _ ?_ (by simp[F]) (by simp[L])));exact⟨by simp[x],by simp[A],⟨_,rfl⟩,go (by rw[l2 rfl];rfl)⟩
  |succ m=>
   have z:m<s.cs.length:=ii
   have y:=l1 m rfl z;have e1:((m+1:Nat):Int)-1=m:=ii
   have q:=ib (H:=H++(bV.box l 0 ::(J++[bV.box [C.f (sl s.cs[m+1].mg (aI s.cs[m+1].ts)),C.f (fi s.cs[m+1].min)] 0]))) (k:=1) (dN s.cs) (fJ z) rfl;rw[N]at q;simp[show 0<m+1 by omega,x,N,a8 (n:=(m:Int)),bu,z,q];by_cases Y:s.cs[m+1].min<=s.cs[m].min
   .simp[Y];have b:=bad (by simp[u,y,show¬ s.cs[m].min<s.cs[m+1].min by omega]);refine aq bv ?_;exact aE (b _ _ _)
   .simp[Y];refine aC bv ?_;refine aQ (au (next _ _ ?_ (by simp[F]) (by simp[L])));exact⟨by simp[x],by simp[A],⟨_,by rw[N]⟩,go (by rw[y];simp;omega)⟩
 .rintro t _ ⟨x,A,⟨J,rfl⟩,d,l1,l2,u⟩ F L;have hC:fk ab s.cs=ae:=by rw[u];simp[fk]
  rw[hC,ahJ]at bad hS;apply aU;simp[x,U];refine bW s.xs.length (λj t H'=>t.g 1=.c (.ptr H.length 0 0)/\t.g 60=G (sl s.xg (ay s.xs))/\(∃J,H'=H++(.box l 0::J))/\
   ∃d,(∀m,j=m+1->∀h:m<s.xs.length,d=aa (s.xs[m]'h))/\(j=0->d=ab)/\km ab s.xs=km d (s.xs.drop j)) hx ce ce bv bv
    ⟨by simp[x],bv,⟨J,bv⟩,ab,ap,bv,bv⟩ ?_ ?_
  .rintro j t _ I ⟨x,B,⟨J,rfl⟩,d,l1,l2,u⟩ F L next
   rw[EA I]at u;have M:=cf (H:=H++(.box l 0::J)) (bI s.xs) (dn I);apply ax;apply ai;simp[F,B,bu,I,M,aA.row];have O:qw s.xs[j]=ag->∀(t:T) (J:an) k,t.g 7=vb ag->WP tab I5 ab (.code OC::k) ⟨t,[],H++J⟩ Q:=by
    intro hf t J k g7;apply ai;simp[g7];exact aq bv (aE (bad (by simp[u,hf]) _ _ _))
   have go:qw s.xs[j]=ae->(d.all λm=>decide (fV m s.xs[j]<0))=ae->∃g,(∀m,j+1=m+1->∀h:m<s.xs.length,g=aa (s.xs[m]'h))/\(j+1=0->g=ab)/\km ab s.xs=km g (s.xs.drop (j+1)):=by
    intro hg hp;rw[hg,hp,ahJ,ahJ]at u;refine⟨aa s.xs[j],λm z h=>?_,ap,u⟩;have:m=j:=ii
    subst this;rfl
   apply ai;simp;cases X:bR s.xs[j].day 0 1099511627776
   .simp;exact O (by simp[qw,X]) _ _ _ bv
   simp;cases S:bR s.xs[j].fr (-2251799813685248) 1583296743997439
   .simp;exact O (by simp[qw,S]) _ _ _ bv
   have w5:=oG S;simp[a8 (n:=s.xs[j].fr+1),a8 (n:=s.xs[j].fr+10080)];cases Y:bR s.xs[j].to (s.xs[j].fr+1) (s.xs[j].fr+10080)
   .exact O (by simp[qw,Y]) _ _ _ bv
   have hg:qw s.xs[j]=ae:=by simp[qw,X,S,Y]
   apply ai;simp;cases j with
   |zero=>
    simp;refine aC bv ?_;refine aQ (au (next _ _ ?_ (by simp[F]) (by simp[L])));exact⟨by simp[x],by simp[B],⟨_,rfl⟩,go hg (by rw[l2 rfl];rfl)⟩
   |succ m=>
    have z:m<s.xs.length:=ii
    have y:=l1 m rfl z;have e1:((m+1:Nat):Int)-1=m:=ii
    have q:=cf (H:=H++(.box l 0 ::(J++[bV.box [C.f (fi s.xs[m+1].day),C.f (fi s.xs[m+1].fr),C.f (fi s.xs[m+1].to)] 0]))) (bI s.xs) (dn z);have K:=zu s.xs[m] s.xs[m+1];simp[aA.row]at K q;simp[show 0<m+1 by omega,x,U,a8 (n:=(m:Int)),bu,z,q,K];by_cases k7:0<=fV s.xs[m] s.xs[m+1]
    .simp[k7];have b:=bad (by simp[u,y,show¬ fV s.xs[m] s.xs[m+1]<0 by omega]);refine aq bv ?_;exact aE (b _ _ _)
    .simp[k7];refine aC bv ?_;refine aQ (au (next _ _ ?_ (by simp[F]) (by simp[L])));exact⟨by simp[x],by simp[B],⟨_,rfl⟩,go hg (by rw[y];simp;omega)⟩
  .rintro t _ ⟨x,B,⟨J,rfl⟩,d,l1,l2,u⟩ F L;have hX:km ab s.xs=ae:=by rw[u];simp[km]
   apply ai;simp;refine av (hQ _ _ ?_);simp[hS,hX]
def eI(h:0<=a)(g:0<b)(d:a<=9223372036854775807):de .quo (vi a) (vi b)=aa (vi (a / b)):=by
 rw[gI ap,ahp h,wrap64 (ahx ap (ahC h ap)) (ahx (aic _ h) d)]
def gn(h:0<=a)(d:0<b):de .rem (vi a) (vi b)=aa (vi (a % b)):=by
 rw[dD ap,ag4 h]
def Z4(h:a<=0)(m:0<b)(l:-9223372036854775807<=a):de .quo (vi a) (vi b)=aa (vi (-((-a) / b))):=by
 have g:(-a) / b<=-a:=aic _ ap;have j:0<=(-a) / b:=ahC ap ap;have d:a.tdiv b = -((-a) / b):=by
  have:a = -(-a):=ii
  rw[this,Int.neg_tdiv,ahp ap];simp
 rw[gI ap,d,a8]
def Z7(h:a<=0)(g:0<b):de .rem (vi a) (vi b)=aa (vi (-((-a) % b))):=by
 have d:a.tmod b = -((-a) % b):=by
  have:a = -(-a):=ii
  rw[this,Int.neg_tmod,ag4 ap];simp
 rw[dD ap,d]
def fL(a b:Int)(B:1<=b)(A:-4611686018427387904<=a)(g:a<=4611686018427387904):bf tab acb [vi a,vi b]=Eq (.t [vi (a / b),vi 0]):=bf.eq (by
 refine bD rfl rfl λQ d=>?_;apply ai;simp;apply aU;simp;refine aC ge (aQ ?_);by_cases h:0<=a
 .apply ai;simp[eI h (show 0<b by omega) ap];apply aU;have:=ahj a (show b≠0 by omega);simp[gn h (show 0<b by omega)];refine aC ge (aQ ?_);apply ai;simp;refine av (d _ _ ?_);simp
 .apply ai;simp[Z4 (show a<=0 by omega) (show 0<b by omega) ap];apply aU;have e:=ahj (-a) (show b≠0 by omega);have j:=ahc (-a) (show 0<b by omega);have q:0<=(-a) / b:=ahC ap ap;have m:(-a) / b<=-a:=aic _ ap;have l:=Int.mul_ediv_add_emod (-a) b;simp[Z7 (show a<=0 by omega) (show 0<b by omega)];by_cases s:(-a) % b=0
  .refine aC ge (aQ ?_);apply ai;simp;refine av (d _ _ ?_);have:a / b = -(-a / b):=by
    refine Int.ediv_eq_of_eq_mul_right ap ?_;rw[aiP];omega
   simp[this]
  .refine aq ge ?_;apply ba;simp[a8 (n:=-(-a / b)-1)];apply ai;simp;refine av (d _ _ ?_);have:a / b = -(-a / b)-1:=by
    have u:=ahj a (show b≠0 by omega);have v:=ahc a (show 0<b by omega);have x:=Int.mul_ediv_add_emod a b;have y:b*(a / b+(-a) / b+1)=b-a % b-(-a) % b:=by rw[Int.mul_add,Int.mul_add];omega
    have z:a / b+(-a) / b+1=0:=by
     rcases ajw (a / b+(-a) / b+1) 0 with h|h|h
     .have:b*(a / b+(-a) / b+1)<=b*(-1):=ag0 ap ap;omega
     .exact h
     .have:b*1<=b*(a / b+(-a) / b+1):=ag0 ap ap;omega
    omega
   simp[this])
def qv(a:Int)(g:-4611686018427387904<=a)(b:a<=4611686018427387904):bf tab abT [vi a]=Eq (vi (a / 1440)):=Kf.eq (by
 refine dd rfl rfl λH Q d=>?_;apply ai;simp;apply ai;simp[fL a 1440 ap g b];apply ai;simp;refine av (d _ _ ?_);simp)
def bU(len b d:Int):aA:=⟨d,d*1440+b,d*1440+b+len⟩
def jS(n:Int):Prop:=-1000000000000000<=n/\n<=1000000000000000
def kw{P:Prop}(h:P:=by unfold jS;omega):P:=h
def ue(g j l:FC)(len b d:Int)(q:jS len)(s:jS b)(u:jS d) :
  bf tab abU [.a [.f g,Z len,.f j],.a [.f l,Z b],vi d]=Eq (.a ((bU len b d).row.map .f)):=bf.eq (Kf.Sg (by
 unfold jS at *;refine dd rfl rfl λH Q m=>?_;apply ai;simp;apply ai;simp[a8 (n:=d*1440),a8 (n:=d*1440+b)];apply ai;simp[a8 (n:=d*1440+b+len)];refine av (m _ _ ?_);simp[bU,aA.row]))
def NP(j l m:FC)(len g d:Int)(v:0<=len)(q:len<=10080)(x:0<=g)(s:g<=10080) :
  bf tab Vo [.a [.f j,Z len,.f l],.a [.f m,Z g],vi d]=Eq (vb (decide (d<=(2251799813685248-g-len) / 1440))):=Kf.eq (by
 refine dd rfl rfl λH Q u=>?_;apply ai;simp;apply ai;simp[a8 (n:=2251799813685248-g),a8 (n:=2251799813685248-g-len),eI (a:=2251799813685248-g-len) (b:=1440) ap ap ap];refine av (u _ _ ?_);simp)
def mH(a b c d:Int):Bool:=decide (a<d)&&decide (c<b)
def Jq(a b c d:Int):bf tab abR [.a [Z a,Z b],.a [Z c,Z d]]=Eq (vb (mH a b c d)):=Kf.eq (by
 refine dd rfl rfl λH Q g=>?_;apply ai;simp;apply ai;by_cases h:a<d
 .simp[h];refine av (g _ _ ?_);simp[mH,h]
 .simp[h];refine av (g _ _ ?_);simp[mH,h])
def zU{u:Int}(b:0<a):(u.tmod a+a).tmod a=u % a:=by
 have d:=aiT u b;have g:=aiU u b;rw[ag4 ap,aju];exact ai7.2 (by
  have:=Int.tmod_add_mul_tdiv u a;have e:u.tmod a-u = -(a*u.tdiv a):=ii
  simp_all)
def EH(m:1<a)(h:ahw a y=1):1<=y % a:=by
 have l:=ahj y (show a≠0 by omega);rcases ah0 0 (y % a)with d|d
 .omega
 .exfalso;have g:y % a=0:=ii
  have j:a ∣ y:=ah9 g;have b:a ∣ (ahw a y:Int):=Int.dvd_coe_gcd (ah3 a) j;rw[h]at b;have:=ahq ce b;omega
def Hx(a0:0<=a)(a1:a<=1099511627776)(m0:2<=d)(m1:d<=1000000)(hg:ahw a d=1) :
  ∃x,0<=x/\x<d/\d ∣ a*x-1/\bf tab Vq [vi a,vi d]=Eq (vi x):=by
 obtain⟨X,⟨x,k,o,p,rfl⟩,hp⟩:∃X,(∃x,0<=x/\x<d/\d ∣ a*x-1/\X=vi x)/\bf tab Vq [vi a,vi d] X:=by
  have hr:=gn (a:=a) (b:=d) a0 ap;have a_:=ahj a (show d≠0 by omega);have F:=ahc a (show 0<d by omega);have j:ahw (a % d) d=1:=by
   have e:a % d=a-a / d*d:=by have:=ag2 a d;rw[ah4 (a / d)];omega
   simp_all
  have S:1<=a % d:=by
   rcases ah0 0 (a % d)with h|h
   .omega
   .exfalso;have h0:a % d=0:=ii
    rw[h0]at j;simp at j;omega
  refine dE rfl rfl λQ hQ=>?_;apply ai;simp;apply ai;simp[hr];refine aE (ax ?_);refine di (λn s=>∃(x y u v U V:Int) (t:T),s=⟨t,[],[]⟩/\(n:Int)=x/\t.g 1=vi d/\t.g 5=vi x/\t.g 6=vi y/\t.g 7=vi u/\t.g 8=vi v/\1<=x/\x<y/\y<=d/\ahw x y=1/\d ∣ a*u-x/\d ∣ a*v-y/\
   0<=U/\0<=V/\(u=U/\v = -V\/u = -U/\v=V)/\U*y+V*x=d) (a % d).toNat
   ⟨a % d,d,1,0,1,0,_,rfl,ap,bv,bv,bv,bv,bv,S,F,ap,j,?_,?_,ce,ce,.inl ⟨rfl,rfl⟩,ap⟩ ?_
  .refine⟨a / d,?_⟩;have:=ag2 a d;omega
  .simp
  rintro n s ⟨x,y,u,v,U,V,t,rfl,hn,c,H,f,i,g8,k,o,p,r,J,h6,B,w,h9,b_⟩ ih;have d9:U<=U*y:=by have:=ag0 (show(1:Int)<=y by omega) B;omega
  have e_:0<=V*x:=ahy w ap;have c_:U<=d:=ii
  have d_:V<=d:=by
   have I:V<=V*x:=by have:=ag0 (show(1:Int)<=x by omega) w;omega
   omega
  apply aU;simp[H];by_cases hx:1<x
  .
   have l:0<=y / x:=ahC ap ap;have N:y / x<=y:=aic _ ap;have z:=eI (a:=y) (b:=x) ap ap ap;obtain⟨q,hq⟩:=aH (y / x);have m:=ag2 y x;have L:=EH hx r;have M:=ahc y (show 0<x by omega);rw[<-hq]at l N z m;obtain⟨g,O⟩:=aH (y % x);rw[<-O]at m L M;have i6:q*x=y-g:=by rw[ah4];omega
   obtain⟨W,hW⟩:=aH (V+q*U);have g_:0<=q*U:=ahy l B;have K:W*x+U*g=d:=by
    grind
   have f_:W<=d:=by
    have I:W<=W*x:=by have:=ag0 (show(1:Int)<=x by omega) (show 0<=W by omega);omega
    have c9:0<=U*g:=ahy B ap;omega
   have h_:(u=U->q*u=q*U)/\(u = -U->q*u = -(q*U)):=⟨λe=>by rw[e],λe=>by rw[e,aiP]⟩
   have hb:-d<=q*u/\q*u<=d:=by
    omega
   have i8:-d<=v/\v<=d:=ii
   have Y:=a8 (n:=q*x);have w2:ah .i64 (y-q*x)=g:=by rw[a8];omega
   have w3:=a8 (n:=q*u);have w4:=a8 (n:=v-q*u);refine aq (by simp[hx]) (aQ ?_);refine ax (ai ?_);simp[H,f,z];apply ai;simp[H,f,Y,w2];apply ba;simp[i,g8,w3,w4];refine au (ih g.toNat _ ap ⟨g,x,v-q*u,u,W,U,_,rfl,ap,by simp[c],bv,bv,bv,bv,ap,ap,ap,?_,?_,J,ap,B,?_,K⟩)
   .rw[show g=y-q*x by omega,ai3,Int.gcd_comm];exact r
   .have e:a*(v-q*u)-g=(a*v-y)-q*(a*u-x):=by
     grind
    rw[e];exact ain h6 (Int.dvd_mul_of_dvd_right J)
   .omega
  .
   have A:x=1:=ii
   subst A;have i7:-d<=u/\u<=d:=ii
   have t1:=aiT u (show 0<d by omega);have t2:=aiU u (show 0<d by omega);have r1:de .rem (vi u) (vi d)=aa (vi (u.tmod d)):=dD ap;have r2:de .rem (vi (u.tmod d+d)) (vi d)=aa (vi (u % d)):=by rw[dD ap,zU ap]
   have Y:=a8 (n:=u.tmod d+d);refine aC bv (bQ rfl ?_);apply ai;simp[c,i,r1,Y,r2];refine av (hQ _ _ _ ⟨u % d,ahj _ ap,ahc _ ap,?_,rfl⟩ bv);have e:a*(u % d)-1=(a*u-1)-a*(u / d)*d:=by
    have:=ag2 u d
    grind
   rw[e];exact ain J (ai4 _ _)
 exact⟨x,k,o,p,hp.eq⟩
def TS(m:¬ (ahw y b:Int) ∣ r-a)(j:y ∣ d-a)(l:b ∣ d-r):False:=by
 apply m;have p:=ahr (aiu y b) j;have g:=ahr (aiA y b) l;have:=ain p g
 grind
def TR{n t:Int}(u:y=(ahw b d:Int))(F:0<d)(H:0<b)(x:d=n*y)(hd:y ∣ r-a)(A:n ∣ t*(b / y)-(r-a) / y) :
  (∀p,b ∣ p-a/\d ∣ p-r↔(b*n) ∣ p-(a+t*b))/\0<y/\0<n:=by
 have l:0<y:=by
  grind
 have q:0<n:=by
  rcases ajw n 0 with h|h|h
  .have:=Int.mul_neg_of_neg_of_pos h l;omega
  .simp_all
  .exact h
 have z:b / y*y=b:=ajs (u▸aiu b d);have g:(r-a) / y*y=r-a:=ajs hd;have j:d ∣ a+t*b-r:=by
  obtain⟨k,B⟩:=A;refine⟨k,?_⟩
  grind
 have v:(Int.lcm b d:Int)=b*n:=by
  have s:((ahw b d*Int.lcm b d:Nat):Int)=b*d:=by
   rw[Int.gcd_mul_lcm,Int.natCast_mul,Int.natAbs_of_nonneg ap,Int.natAbs_of_nonneg ap]
  rw[Int.natCast_mul,<-u]at s;have m:y*(Int.lcm b d:Int)=y*(b*n):=by rw[s,x,<-aiE,ah4]
  exact Int.eq_of_mul_eq_mul_left ap m
 refine⟨λp=>⟨λ⟨s,m⟩=>?_,λh=>⟨?_,?_⟩⟩,l,q⟩
 .rw[<-v];refine Int.coe_lcm_dvd ?_ ?_
  .have:p-(a+t*b)=p-a-t*b:=ii
   rw[this];exact ain s (ai4 t b)
  .have:p-(a+t*b)=p-r-(a+t*b-r):=ii
   rw[this];exact ain m j
 .have s:=ahr (Int.dvd_mul_right b n) h;have:p-a=p-(a+t*b)+t*b:=ii
  rw[this];exact ajn s (ai4 t b)
 .have s:d ∣ p-(a+t*b):=ahr (by rw[<-v];exact Int.dvd_lcm_right b d) h;have:p-r=p-(a+t*b)+(a+t*b-r):=ii
  rw[this];exact ajn s j
def uJ{n:Int}:a % n=b % n↔n ∣ a-b:=ai7.trans Int.dvd_iff_emod_eq_zero.symm
abbrev Y7(at' st:Int):V:=.a [.f (.int .i64 at'),.f (.int .i64 st)]
def UM(a0:0<=a)(a1:a<d)(s1:d<=1000000)(r0:0<=r)(r1:r<y)(p1:y<=27720) :
  (∃a' s',0<=a'/\a'<s'/\s'<=d*y/\(∀s,d ∣ s-a/\y ∣ s-r↔s' ∣ s-a')/\bf tab I' [Y7 a d,vi r,vi y]=Eq (.t [Y7 a' s',vb ae]))\/
  ((∀s,¬ (d ∣ s-a/\y ∣ s-r))/\bf tab I' [Y7 a d,vi r,vi y]=Eq (.t [Y7 0 0,vb ag])):=by
 have s0:0<d:=ii
 have p0:0<y:=ii
 obtain⟨g,F⟩:=aH ((ahw d y:Int):Int);have i_:ahw d y=ah5 d.toNat y.toNat:=by
  show ah5 d.natAbs y.natAbs=_
  grind
 have b_:g ∣ d:=F▸aiu d y;have M:g ∣ y:=F▸aiA d y;have l:0<ahw d y:=ahX y ap;have g0:0<g:=by rw[F];exact Int.natCast_pos.2 l
 have gp:g<=y:=ahq p0 M;obtain⟨n,o⟩:=aH (y / g);have X:y=n*g:=by rw[o,ajs M]
 have z:0<n:=by
  rcases ah0 0 n with h|h
  .exact h
  .have:=ajd (a:=n) (b:=-g) h ap
   grind
 have np:n<=y:=by
  have:=ag0 (show(1:Int)<=g by omega) (show 0<=n by omega);omega
 have j:bf tab AX [vi d,vi y]=Eq (vi g):=by
  have h:=yS (a:=d.toNat) (b:=y.toNat) ap ap
  grind
 have b0:∀{L:an},aV (.box [Z a,Z d] 0::L) ab (.c (.ptr 0 0 0))=aa (vi a)/\aV (.box [Z a,Z d] 0::L) ab (.c (.ptr 0 1 0))=aa (vi d)/\aV (.box [Z a,Z d] 0::L) (aa 2) (.c (.ptr 0 0 0))=aa (Y7 a d):=by
  simp
 have q:=a8 (n:=r-a);have B:de .rem (vi (r-a)) (vi g)=aa (vi ((r-a).tmod g)):=dD ap;have p:¬ (d=0):=ii
 by_cases hd:g ∣ r-a
 .left;have m:(r-a).tmod g=0:=aiR hd;by_cases x:n=1
  .
   have N:y=g:=by rw[X,x,Int.one_mul]
   refine⟨a,d,a0,a1,?_,λs=>⟨λh=>h.1,λh=>⟨h,?_⟩⟩,bf.eq ?_⟩
   .have:=ag0 (show(1:Int)<=y by omega) (show 0<=d by omega);omega
   .rw[N];have:=ain (ahr b_ h) hd
    grind
   .have A:de .quo (vi y) (vi g)=aa (vi n):=by rw[eI ap g0 ap,<-o]
    refine bD rfl rfl λQ I=>?_;apply ai;simp;apply aU;simp[b0,-aw,p];refine bG bv ?_;apply ai;simp[b0,-aw,j];apply aU;simp[b0,-aw,q,B,m];refine bG bv ?_;apply ai;simp[A];apply aU;simp[x];refine aq bv ?_;apply ai;simp[b0,-aw];refine av (I _ _ ?_);simp
  .
   have n2:2<=n:=ii
   have c:0<=d / g:=ahC ap ap;have h_:d / g<=d:=aic _ ap;have J:ahw (d / g) n=1:=by rw[o,F];exact Int.gcd_ediv_gcd_ediv_gcd l
   obtain⟨v,v0,v1,hv,S⟩:=Hx c ap n2 ap J;obtain⟨w,hw⟩:=aH (((r-a) / g) % n);have w0:0<=w:=by rw[hw];exact ahj _ ap
   have w1:w<n:=by rw[hw];exact ahc _ z
   obtain⟨t,ht⟩:=aH ((w*v) % n);have t0:0<=t:=by rw[ht];exact ahj _ ap
   have t1:t<n:=by rw[ht];exact ahc _ z
   have U:n ∣ t*(d / g)-(r-a) / g:=by
    obtain⟨k,hk⟩:=hv;have e1:t=w*v-n*(w*v / n):=by have:=ag2 (w*v) n;omega
    have e2:w=(r-a) / g-n*((r-a) / g / n):=by have:=ag2 ((r-a) / g) n;omega
    have e3:t*(d / g)-(r-a) / g=w*(d / g*v-1)-n*(w*v / n)*(d / g)-n*((r-a) / g / n):=by
     grind
    rw[e3,hk];refine ain (ain ?_ ?_) (Int.dvd_mul_right _ _)
    .exact⟨w*k,by rw[aiY]⟩
    .exact⟨w*v / n*(d / g),by rw[aiE]⟩
   obtain⟨O,-,-⟩:=TR F p0 s0 X hd U;have i7:0<=t*d:=ahy t0 ap;have i8:t*d<=(n-1)*d:=aha ap ap;have j5:(n-1)*d=n*d-d:=by rw[Int.sub_mul,Int.one_mul]
   have g_:n*d<=27720*1000000:=aiy ap s1 ap ce;have j6:d*n=n*d:=ah4 _ _;have f:0<=w*v:=ahy w0 v0;have i9:w*v<=27720*27720:=aiy ap ap v0 ce;have i6:0<=n*d:=ahy ap ap;refine⟨a+t*d,d*n,ap,ap,?_,O,bf.eq ?_⟩
   .exact ag0 np ap
   .have A:de .quo (vi y) (vi g)=aa (vi n):=by rw[eI ap g0 ap,<-o]
    have a_:de .quo (vi (r-a)) (vi g)=aa (vi ((r-a) / g)):=by
     rw[gI ap,Int.tdiv_eq_ediv_of_dvd hd];have hb:-1000000<=(r-a) / g/\(r-a) / g<=1000000:=by
      obtain⟨k,hk⟩:=hd;rw[hk,ah6 _ ap];constructor
      .rcases ah0 k (-1000000)with h|h
       .have:=ag0 (show k<=-1000001 by omega) (show 0<=g by omega);omega
       .omega
      .rcases ah0 1000000 k with h|h
       .have:=ag0 (show(1000001:Int)<=k by omega) (show 0<=g by omega);omega
       .omega
     rw[a8]
    have d_:de .rem (vi ((r-a) / g)) (vi n)=aa (vi (((r-a) / g).tmod n)):=dD ap;have tl:=aiT ((r-a) / g) z;have tg:=aiU ((r-a) / g) z;have e_:=a8 (n:=((r-a) / g).tmod n+n);have W:de .rem (vi (((r-a) / g).tmod n+n)) (vi n)=aa (vi w):=by rw[dD ap,zU z,<-hw]
    have f_:de .quo (vi d) (vi g)=aa (vi (d / g)):=eI ap g0 ap;have uw:IntKind.wrap .u64 w=w:=jh w0 ap;have uv:IntKind.wrap .u64 v=v:=jh v0 ap;have un:IntKind.wrap .u64 n=n:=jh ap ap;have us:IntKind.wrap .u64 d=d:=jh ap ap;have c9:=uM w0 (show w<=2147483648 by omega) v0 (show v<=2147483648 by omega);have Y:=Kj (a:=0) (b:=n) ce z;rw[ai8]at Y;have K:=Eu f (show w*v<=9223372036854775807 by omega) z (show n<=9223372036854775807 by omega);rw[<-ht]at K;have c_:=uM t0 (show t<=2147483648 by omega) (show 0<=d by omega) (show d<=2147483648 by omega);have d9:=uM (show 0<=d by omega) (show d<=2147483648 by omega) (show 0<=n by omega) (show n<=2147483648 by omega);have u:=a8 (n:=t*d);have fa:=a8 (n:=1152921504606846976-a);have c1:¬ (1152921504606846976<t*d):=ii
    have c2:¬ (1152921504606846976-a<t*d):=ii
    have H:=a8 (n:=a+t*d);have i:=a8 (n:=d*n);have c3:d*n<=1152921504606846976:=ii
    refine bD rfl rfl λQ I=>?_;apply ai;simp;apply aU;simp[b0,-aw,p];refine bG bv ?_;apply ai;simp[b0,-aw,j];apply aU;simp[b0,-aw,q,B,m];refine bG bv ?_;apply ai;simp[A];apply aU;simp[x];refine bG bv ?_;apply ai;simp[b0,-aw,q,a_,d_,e_,W];apply ai;simp[b0,-aw,uw,f_,S,uv,c9];apply ai;simp[un,Y,K];apply ai;simp[b0,-aw,us,c_];apply aU;simp[b0,-aw,c1,u,fa,c2];refine bG bv ?_;apply ai;simp[b0,-aw,u,H];apply aU;simp[b0,-aw,us,un,d9];apply ai;simp[c3];refine aq bv (aF (.inl rfl) ?_);simp[i];apply ai;simp;refine av (I _ _ ?_);simp
 .right;refine⟨λs h=>TS (λe=>hd (F▸e)) h.1 h.2,bf.eq ?_⟩;have m:¬ (r-a).tmod g=0:=λe=>hd (aje e);refine bD rfl rfl λQ I=>?_;apply ai;simp;apply aU;simp[b0,-aw,p];refine bG bv ?_;apply ai;simp[b0,-aw,j];apply aU;simp[b0,-aw,q,B,m];refine aq bv ?_;apply ai;simp;refine av (I _ _ ?_);simp
def EP(a b:Int):Kf tab aeT [vi a,vi b] (vb (decide (a<b))):=by
 refine dd rfl rfl λH Q d=>?_;apply ai;simp;apply ai;simp[uu];refine av (d _ _ ?_);simp[uu]
def U4(a:Int):bf tab Yb [vi a]=Eq (vb ag):=Kf.eq (by
 refine dd rfl rfl λH Q b=>?_;apply ai;simp;apply ai;simp;refine av (b _ _ ?_);simp)
def gJ(g:Tg)(l:List Int)(n:Int)(hl:l.length<=1000000000)(w:l.Pairwise (· < ·)) :
  ∃i:Nat,i<=l.length/\(∀j (d:j<l.length),j<i->l[j]<n)/\(∀j (d:j<l.length),i<=j->n<=l[j])/\
   bf tab GF [G (sl g (ints l)),vi n]=Eq (.t [vi i,vb (decide (n∈l))]):=by
 obtain⟨r,⟨i,k,o,S,rfl⟩,h⟩:∃r,(∃i:Nat,i<=l.length/\(∀j (d:j<l.length),j<i->l[j]<n)/\(∀j (d:j<l.length),i<=j->n<=l[j])/\r=.t [vi i,vb (decide (n∈l))])/\
   bf tab GF [G (sl g (ints l)),vi n] r:=by
  refine dE rfl rfl λQ U=>?_;have A:=λ(a b:Int) (H:an)=>(EP a b).ev H;have y:∀i j (hi:i<j) (d:j<l.length),l[i]<l[j]:=λi j hi d=>ahn.1 w i j ap d hi;apply ai;simp;apply ai;simp;apply ai;simp;apply aE;apply ax;refine di (λm s=>∃(lo hi:Nat) (t:T) (J:an),s=⟨t,[],J⟩/\m=hi-lo/\lo<=hi/\hi<=l.length/\t.g 0=G (sl g (ints l))/\t.g 1=vi n/\t.g 6=vi l.length/\t.g 7=vi lo/\t.g 8=vi hi/\
   (∀j (d:j<l.length),j<lo->l[j]<n)/\(∀j (d:j<l.length),hi<=j->n<=l[j])) l.length
   ⟨0,l.length,_,_,rfl,ap,ap,ap,bv,bv,bv,bv,bv,bv,by intros;omega⟩ ?_
  rintro m s ⟨lo,hi,t,J,rfl,rfl,p,z,F,I,L,K,O,u,v⟩ next
  apply aU;simp[K,O];by_cases X:lo<hi
  .refine aq (by simp[X]) (aQ ?_);obtain⟨q,hq⟩:=aH ((lo+hi) / 2);have M:q<l.length:=ii
   have f:de BinOp.shr (V.c (C.f (FC.int IntKind.u64 (IntKind.u64.wrap ((lo:Int)+hi))))) (V.c (C.f (FC.int IntKind.u64 1)))=aa (G (.int .u64 (q:Int))):=by
    have:IntKind.u64.wrap ((lo:Int)+hi)=(lo:Int)+hi:=by
     show((lo:Int)+hi) % 18446744073709551616=_;omega
    rw[this];show aa (V.c (C.f (FC.int IntKind.u64 (Int.fdiv ((lo:Int)+hi) (2 ^ (min (1:Int).toNat IntKind.u64.bits))))))=_;have S:Int.fdiv ((lo:Int)+hi) (2 ^ (min (1:Int).toNat IntKind.u64.bits))=q:=by
     show Int.fdiv ((lo:Int)+hi) 2=q;rw[Int.fdiv_eq_ediv_of_nonneg _ ap];omega
    rw[S]
   have hw:=a8 (n:=(lo:Int)+hi);have c:ah .i64 (q:Int)=q:=a8;apply ax;apply ai;simp[K,O,hw,f,c];apply ai;simp[F,I,bu,M,dY,A];by_cases W:l[q]<n
   .refine aq (by simp[W]) ?_;apply ba;simp[a8 (n:=(q:Int)+1)];refine au (next (hi-(q+1)) _ ap ⟨q+1,hi,_,_,rfl,rfl,ap,ap,by simp[F],by simp[I],by simp[L],bv,by simp[O],λj d h=>?_,v⟩);by_cases e:j=q
    .subst e;exact W
    .have:=y j q ap M;omega
   .refine aC (by simp[W]) ?_;apply ba;simp;refine au (next (q-lo) _ ap ⟨lo,q,_,_,rfl,rfl,ap,ap,by simp[F],by simp[I],by simp[L],by simp[K],bv,u,λj d h=>?_⟩);by_cases e:j=q
    .subst e;omega
    .have:=y q j ap d;omega
  .have:lo=hi:=ii
   subst this;refine aC bv ?_;refine bQ rfl ?_;apply ai;by_cases x:lo<l.length
   .have h4:=v lo x ap;by_cases N:l[lo]=n
    .simp[F,I,L,K,x,bu,dY,N];refine av (U _ _ _ ⟨lo,z,u,v,rfl⟩ ?_);have:n∈l:=N▸IN x;simp[this]
    .have B:n ∉ l:=λY=>by
      obtain⟨j,d,rfl⟩:=ag1 Y;rcases Nat.lt_trichotomy j lo with h|h|h
      .have:=u j d h;omega
      .subst h;exact N rfl
      .have:=y lo j h d;omega
     simp[F,I,L,K,x,bu,dY,N,U4];refine av (U _ _ _ ⟨lo,z,u,v,rfl⟩ ?_);simp[B]
   .have B:n ∉ l:=λY=>by
     obtain⟨j,d,rfl⟩:=ag1 Y;have:=u j d ap;omega
    simp[F,I,L,K,x];refine av (U _ _ _ ⟨lo,z,u,v,rfl⟩ ?_);simp[B]
 exact⟨i,k,o,S,bf.eq h⟩
theorem pj{limit:Int}:∀{l:List Int} {last:Int},cK limit last l=ae->l.Pairwise (· < ·)/\∀c∈l,last<c/\c<limit
 |[],_,_=>⟨List.Pairwise.nil,bv⟩
 |a::l,last,h=>by
  simp only[cK,IS,decide_eq_true_eq]at h;obtain⟨⟨g,j⟩,m⟩:=h;obtain⟨q,d⟩:=pj m;refine⟨ahH.2 ⟨λc b=>(d c b).1,q⟩,λc b=>?_⟩;rcases ag8.1 b with rfl|b
  .exact⟨g,j⟩
  .have:=d c b;omega
def bM(h:cO M=ae):0<=M.fr/\M.fr<=1099511627776/\1<=M.aO/\M.aO<=1099511627776/\M.head.length+M.bH.length<=1048576/\M.head.Pairwise (· < ·)/\(∀c∈M.head,-1<c/\c<M.fr)/\M.bH.Pairwise (· < ·)/\∀c∈M.bH,-1<c/\c<M.aO:=by
 unfold cO at h;simp only[IS,decide_eq_true_eq]at h;obtain⟨⟨⟨⟨⟨⟨g,j⟩,l⟩,m⟩,u⟩,q⟩,s⟩:=h;obtain⟨a1,b⟩:=pj q;obtain⟨b1,d⟩:=pj s;exact⟨g,j,l,m,ap,a1,b,b1,d⟩
def bE(p:aR)(d:Int):Bool:=if p.fr<=d then decide ((d-p.fr) % p.aO∈p.bH)else decide (d∈p.head)
def Day(d:Int):Prop:=d<=2305843009213693952
def nl{P:Prop}(h:P:=by unfold Day;omega):P:=h
def wc(p:aR)(h:cO p=ae)(d:Int)(z:0<=d)(hd:Day d):bf tab Pk [.a (p.row.map .f),vi d]=Eq (vb (bE p d)):=Kf.eq (by
 obtain⟨A,B,F,I,K,s,L,u,M⟩:=bM h;unfold Day at hd;refine dd rfl rfl λH Q v=>?_;have j:∀(t:T) (J:an) (g:Tg) (l:List Int) (n:Int),l.length<=1048576->l.Pairwise (· < ·)->t.g 5=G (sl g (ints l))->t.g 6=vi n->bE p d=decide (n∈l)->WP tab Pk ab [.code OD] ⟨t,[],H++J⟩ Q:=by
  intro t J g l n N x m q e;obtain⟨i,-,-,-,y⟩:=gJ g l n ap x;apply ai;simp[m,q,y];apply ai;simp;refine av (v _ _ ?_);simp[e]
 apply ai;simp[aR.row];apply ai;simp;apply aU;simp;by_cases k:p.fr<=d
 .refine aq (by simp[k]) ?_;apply ba;simp[a8 (n:=d-p.fr),gn (a:=d-p.fr) (b:=p.aO) ap ap];exact j _ _ p.cg p.bH ((d-p.fr) % p.aO) ap u bv bv (by simp[bE,k])
 .refine bG (by simp[k]) ?_;exact j _ _ p.hg p.head d ap s bv bv (by simp[bE,k]))
def hasB(p:aR)(d:Int):Bool:=decide (0<=d)&&bE p d
def UU(p:aR)(h:cO p=ae)(d:Int)(hd:Day d):Kf tab Xx [.a (p.row.map .f),vi d] (vb (hasB p d)):=by
 refine dd rfl rfl λH Q g=>?_;have b:=wm p (jL h);rw[h]at b;apply ai;simp[aR.row]at b ⊢;apply ai;by_cases k:0<=d
 .have j:=wc p h d k hd;simp[aR.row]at j;simp[b,k,j];refine av (g _ _ ?_);simp[hasB,k]
 .simp[b,k];refine av (g _ _ ?_);simp[hasB,k]
def Ni(p:aR)(h:cO p=ae)(d:Int)(hd:Day d):Kf tab PX [.a (p.row.map .f),G (.fp [fi d] 0)] (vb (!hasB p d)):=by
 refine dd rfl rfl λH Q g=>?_;have b:=(UU p h d hd).eq;simp[aR.row]at b;have j:∀H:an,aV H ab (G (.fp [fi d] 0))=aa (vi d):=λH=>by simp[aV,az]
 apply ai;simp[aR.row];apply ai;simp[j,b];refine av (g _ _ ?_);simp
def wS(l:List aR)(d:Int):Bool:=l.all λp=>hasB p d
def VM(g:Tg)(l:List aR)(u:l.length<=9223372036854775807)(h:∀p∈l,cO p=ae)(d:Int)(hd:Day d):Kf tab ab_ [G (sl g (aM l)),vi d] (vb (wS l d)):=by
 refine dd rfl rfl λH Q m=>?_;have q:=(eR Qd (iF Qe l aR.row (λr=>.a (r.row.map .f)) (λp=>!hasB p d) g PX [.fp [fi d] 0] u
  (λj s H=>cf (bK l) (cH s)) (λp v=>Ni p (h p v) d hd))).eq
 have e:(!l.any λp=>!hasB p d)=wS l d:=by
  rw[wS,aiq];simp[List.any_eq_false,ag9]
 apply ai;simp;apply ai;have b:bf tab GN [G (sl g (aM l)),G (.fn PX [.fp [fi d] 0])]=Eq (vb (l.any λp=>!hasB p d)):=q;simp[deep,BI,wh,b,e];refine av (m _ _ ?_);simp
def Zu(t:cU)(j:t.fs.length<=9223372036854775807)(h:∀p∈t.fs,cO p=ae)(d:Int)(hd:Day d):Kf tab PT [G (sl t.tg (aM t.fs)),G (.fp [fi d] 0)] (vb (wS t.fs d)):=by
 refine dd rfl rfl λH Q g=>?_;have b:∀H:an,aV H ab (G (.fp [fi d] 0))=aa (vi d):=λH=>by simp[aV,az]
 apply ai;simp;apply ai;simp[b,(VM t.tg t.fs j h d hd).eq];refine av (g _ _ ?_);simp
def qG(l:List cU)(d:Int):Bool:=iH l&&l.any λt=>wS t.fs d
def iA{t:cU}(h:iZ t=ae):1<=t.fs.length/\t.fs.length<=4/\∀p∈t.fs,cO p=ae:=by
 unfold iZ at h;simp only[IS,decide_eq_true_eq,ag9]at h;exact⟨ap,ap,h.2⟩
def rA(h:iH I=ae):I.length<=64/\∀t∈I,iZ t=ae:=by
 unfold iH at h;simp only[IS,decide_eq_true_eq,ag9]at h;exact⟨ap,h.2⟩
def xM(g:Tg)(l:List cU)(h:iH l=ae)(d:Int)(hd:Day d):bf tab PS [.a [.f (sl g (aI l))],vi d]=Eq (vb (qG l d)):=Kf.eq (by
 obtain⟨z,m⟩:=rA h;have s:=Da g l ap (λt b=>⟨by have:=(iA (m t b)).2.1;omega,λp y=>jL ((iA (m t b)).2.2 p y)⟩);have v:=(eR G2 (iF G3 l cU.row (λt=>G (sl t.tg (aM t.fs))) (λt=>wS t.fs d) g PT [.fp [fi d] 0] ap
  (λj x H=>gM (eV l) (gF x) rfl) (λt b=>Zu t (by have:=(iA (m t b)).2.1;omega) (iA (m t b)).2.2 d hd))).eq
 have q:bf tab yc [G (sl g (aI l)),G (.fn PT [.fp [fi d] 0])]=Eq (vb (l.any λt=>wS t.fs d)):=v;rw[h]at s;refine dd rfl rfl λH Q u=>?_;apply ai;simp;apply ai;simp[s,deep,BI,wh,q];refine av (u _ _ ?_);simp[qG,h])
structure Mod(p:aR):Prop where
 ok:cO p=ae
 Fs:p.aO<=27720
def mo(p:aR)(c:Int):Int:=(p.fr % p.aO+c) % p.aO
def adb(p:0<=r)(g:r<d):y % d=r↔d ∣ y-r:=by
 have h:=uJ (a:=y) (b:=r) (n:=d);rw[ahG p g]at h;exact h
def uR(h:Mod q)(b:0<=a)(g:a<q.aO):0<=mo q a/\mo q a<q.aO/\∀d,(d-q.fr) % q.aO=a↔q.aO ∣ d-mo q a:=by
 have j:0<q.aO:=ii
 refine⟨ahj _ ap,ahc _ j,λd=>?_⟩;rw[adb b g];have e:q.aO ∣ q.fr+a-mo q a:=by
  rw[<-uJ];unfold mo;simp
 constructor
 .intro k;have:=ajn k e
  grind
 .intro k;have:=ain k e
  grind
def xN(h:Mod q)(d:a∈q.bH):0<=a/\a<q.aO:=by
 obtain⟨-,-,-,-,-,-,-,-,b⟩:=bM h.ok
 grind
def lG(p:aR)(d:Int):Prop:=∃c∈p.bH,p.aO ∣ d-mo p c
def uK(h:Mod q)(hd:q.fr<=d):bE q d=ae↔lG q d:=by
 unfold bE;rw[ct hd,decide_eq_true_eq];constructor
 .intro j;obtain⟨a,b⟩:=xN h j;exact⟨_,j,((uR h a b).2.2 d).1 rfl⟩
 .rintro⟨c,g,e⟩;obtain⟨a,b⟩:=xN h g;rw[((uR h a b).2.2 d).2 e];exact g
def zC(p:aR)(h:Mod p)(c:Int)(l:0<=c)(m:c<p.aO):bf tab Vr [.a (p.row.map .f),vi c]=Eq (vi (mo p c)):=Kf.eq (by
 obtain⟨d,j,s,u,-⟩:=bM h.ok;have q:=ahj p.fr (show p.aO≠0 by omega);have m1:=ahc p.fr (show 0<p.aO by omega);refine dd rfl rfl λH Q g=>?_;apply ai;simp[aR.row];apply ai;simp[gn (a:=p.fr) (b:=p.aO) d ap,a8 (n:=p.fr % p.aO+c),gn (a:=p.fr % p.aO+c) (b:=p.aO) ap ap];refine av (g _ _ ?_);simp[mo])
def dG:List aR->Int
 |[]=>0| p::l=>max p.fr (dG l)
theorem rI:∀l:List aR,0<=dG l
 |[]=>ahY _| p::l=>by have:=rI l;simp only[dG];omega
theorem rH{p:aR}:∀{l:List aR},p∈l->p.fr<=dG l
 |q::l,h=>by
  simp only[dG];rcases ag8.1 h with rfl|h
  .omega
  .have:=rH h;omega
def F2(l:List aR)(p:aR):dG (l++[p])=max (dG l) p.fr:=by
 induction l with
 |nil=>simp only[ahL,dG];omega| cons q l b=>simp only[ahO,dG,b];omega
def SN(g:Tg)(l:List aR)(z:l.length<=64):bf tab Vs [G (sl g (aM l))]=Eq (vi (dG l)):=Kf.eq (by
 refine dd rfl rfl λH Q y=>?_;apply ai;simp;apply ai;simp;apply aU;simp;refine bW l.length (λj t H'=>(∃J,H'=H++J)/\t.g 6=G (sl g (aM l))/\t.g 3=vi (dG (l.take j))) ap ce ce bv bv ⟨⟨[],bv⟩,bv,by simp[dG]⟩ ?_ ?_
 .rintro j t _ u ⟨⟨J,rfl⟩,q,m⟩ s x next
  have d:=λH:an=>cf (H:=H) (bK l) (cH (l:=l) (j:=j) u);have b:=λH:an=>bu (H:=H) (g:=g) (rows:=aM l) (sz:=4) (k:=.i64) (i:=j) ap (by simpa using u);simp[aR.row]at d b;have v:l.take (j+1)=l.take j++[l[j]]:=by rw[agV,BY u];rfl
  have e:dG (l.take (j+1))=max (dG (l.take j)) l[j].fr:=by rw[v,F2]
  apply ax;apply ai;simp[q,s,b,d];apply ba;simp[m];refine au (next _ _ ?_ (by simp[s]) (by simp[x]));exact⟨⟨_,rfl⟩,by simp[q],by simp[e]⟩
 .rintro t _ ⟨⟨J,rfl⟩,q,m⟩ s x;rw[agW]at m;apply ai;simp[m];refine av (y _ _ ?_);simp)
def DG(n a s:Int):Int:=if a<n then a+(n-a+s-1) / s*s else a
def Kk{n:Int}(x:0<=a)(y:a<r)(z:0<=n):n<=DG n a r/\r ∣ DG n a r-a/\DG n a r<=n+r/\∀d,n<=d->r ∣ d-a->DG n a r<=d:=by
 have l:0<r:=ii
 unfold DG;split
 .have m:=ag2 (n-a+r-1) r;have u:=ahj (n-a+r-1) (show r≠0 by omega);have v:=ahc (n-a+r-1) l;have g:(n-a+r-1) / r*r=r*((n-a+r-1) / r):=ah4 _ _;rw[g];generalize (n-a+r-1) / r=q at *;refine⟨ap,⟨q,ap⟩,ap,?_⟩;rintro d hd ⟨k,j⟩;rcases ah0 k q with h|h
  .have b:r*k<=r*(q-1):=ag0 ap ap
   grind
  .have b:r*q<=r*k:=ag0 h ap;omega
 .refine⟨ap,⟨0,ap⟩,ap,?_⟩;rintro d hd ⟨k,j⟩;rcases ah0 k 0 with h|h
  .have b:r*k<=r*(-1):=ag0 ap ap;omega
  .have b:0<=r*k:=ahy ap h;omega
structure iC(S:Int->Prop)(l:Int)(f:Bool)(l':Int)(f':Bool):Prop where
 le:l'<=l
 Uh:f=ae->f'=ae
 src:(l'=l/\f'=f)\/(f'=ae/\S l')
 low:∀d,S d->l'<=d/\(d<=l->f'=ae)
def iC.none{S:Int->Prop}{l:Int}(h:∀d,¬ S d):iC S l f l f:=⟨ahY _,id,.inl ⟨rfl,rfl⟩,λd hd=>absurd hd (h d)⟩
def iC.trans{S S1 j:Int->Prop}{s:Bool}(h1:iC S1 a f y K)(h2:iC j y K r s)(u:∀d,S d↔S1 d\/j d):iC S a f r s where
 le:=ahx h2.le h1.le
 Uh h:=h2.Uh (h1.Uh h)
 src:=by
  rcases h2.src with⟨rfl,rfl⟩|⟨h,k⟩
  .rcases h1.src with h|⟨h,k⟩
   .simp_all
   .simp_all
  .simp_all
 low d hd:=by
  have b:=h2.le;rcases(u d).1 hd with k|k
  .obtain⟨a1,m⟩:=h1.low d k;exact⟨ap,λe=>h2.Uh (m e)⟩
  .obtain⟨a1,m⟩:=h2.low d k;refine⟨a1,λe=>?_⟩;rcases ah0 y d with g|g
   .rcases h1.src with⟨rfl,rfl⟩|⟨h,-⟩
    .omega
    .exact h2.Uh h
   .simp_all
def iC.iff{S S':Int->Prop}(h:iC S a f y K)(g:∀d,S' d↔S d):iC S' a f y K:=
 ⟨h.le,h.Uh,by rcases h.src with k|⟨k,k'⟩;exact .inl k;exact .inr ⟨k,(g _).2 k'⟩,λd hd=>h.low d ((g d).1 hd)⟩
def iC.one{S:Int->Prop}{x:Int}(g:S x)(b:∀d,S d->x<=d):iC S a f (if x<=a then x else a) (f||decide (x<=a)) where
 le:=by split<;>omega
 Uh h:=by rw[h];rfl
 src:=by
  grind
 low d hd:=by
  grind
def LH(H:an)(g:Tg)(ps:List aR)(n least:Int)(found:Bool):Prop:=(∃a,H[0]?=aa (.box [.f (sl g (aM ps))] a))/\H[1]?=E [Z n]/\H[2]?=E [Z least]/\H[3]?=E [.f (.bool found)]/\
 H[4]?=E [.cl pD [.ptr 0 0 0,.ptr 4 0 0,.ptr 1 0 0,.ptr 2 0 0,.ptr 3 0 0]]
def LH.push{g:Tg}{ps:List aR}{n least:Int}{found:Bool}(h:LH H g ps n least found)(J:an):LH (H++J) g ps n least found:=by
 obtain⟨⟨a,h0⟩,h1,h2,h3,h4⟩:=h;refine⟨⟨a,?_⟩,?_,?_,?_,?_⟩
 .rw[AI (aj h0)];exact h0
 .rw[AI (aj h1)];exact h1
 .rw[AI (aj h2)];exact h2
 .rw[AI (aj h3)];exact h3
 .rw[AI (aj h4)];exact h4
def M3(g:Tg)(ps:List aR)(H:an)(n least:Int)(found:Bool)(r s:Int)(o:LH H g ps n least found)(A:0<=r)(B:r<s)(F:s<=1000000)(p:0<=n)(w:n<=1000000000000) :
  ∃v H',Ev tab (.fn pD) [vi ps.length,Y7 r s,.c (.ptr 0 0 0),.c (.ptr 4 0 0),.c (.ptr 1 0 0),.c (.ptr 2 0 0),.c (.ptr 3 0 0)] H v H'/\
   (v=.t []/\LH H' g ps n (if DG n r s<=least then DG n r s else least) (found||decide (DG n r s<=least))/\∀i:Nat,5<=i->i<H.length->H'[i]?=H[i]?):=by
 obtain⟨⟨a0,c⟩,e,f,h,M⟩:=o;obtain⟨u1,-,u3,-⟩:=Kk A B p;have l4:=aj M;refine dc rfl rfl λQ S=>?_;have m:∀(t:T) (q:an) (y:Int),y=DG n r s->t.g 8=.c (.ptr H.length 0 0)->t.g 4=.c (.ptr 1 0 0)->t.g 5=.c (.ptr 2 0 0)->t.g 6=.c (.ptr 3 0 0)->LH q g ps n least found->q[H.length]?=E [Z y,Z s]->(∀i:Nat,5<=i->i<H.length->q[i]?=H[i]?)->
   WP tab pD ab [.code DJ] ⟨t,[],q⟩ Q:=by
  rintro t q _ rfl L X K Y j W l;have q1:=j.2.1;have U:=j.2.2.1;have q3:=j.2.2.2.1;apply ai;simp[L,X,K,W,q1,U,u1];by_cases k:DG n r s<=least
  .refine aq (by simp[k]) ?_;have I:(q.set 2 (.box [Z (DG n r s)] 0))[3]?=E [.f (.bool found)]:=by rw[sh ce];exact q3
   apply ba;simp[L,K,Y,W,U,I];refine cN (S _ _ _ rfl rfl ⟨rfl,?_,λi hi z=>by rw[sh ap,sh ap];exact l i hi z⟩);obtain⟨⟨a0,A⟩,B,F,N,O⟩:=j;refine⟨⟨a0,?_⟩,?_,?_,?_,?_⟩
   .rw[sh ce,sh ce];exact A
   .rw[sh ce,sh ce];exact B
   .rw[sh ce,By (aj F)];simp[k]
   .rw[By (by rw[agZ];exact aj N)];simp[k]
   .rw[sh ce,sh ce];exact O
  .refine bG (by simp[k]) ?_;refine cN (S _ _ _ rfl rfl ⟨rfl,?_,l⟩);simpa[k]using j
 apply ai;simp;have d:=LH.push (H:=H) (g:=g) (ps:=ps) (n:=n) (least:=least) (found:=found) ⟨⟨a0,c⟩,e,f,h,M⟩ [.box [Z r,Z s] 0];have x:(H++[bV.box [Z r,Z s] 0])[H.length]?=E [Z r,Z s]:=lw
 have u:∀i:Nat,5<=i->i<H.length->(H++[bV.box [Z r,Z s] 0])[i]?=H[i]?:=λi _ z=>AI z;generalize H++[bV.box [Z r,Z s] 0]=q at d x u ⊢;obtain⟨a1,r0⟩:=d.1;have J:=d.2.1;apply aU;simp[r0];refine bG bv ?_;apply aU;by_cases k:r<n
 .simp[J,x,k,show 0<s by omega];refine aq bv ?_;have a_:DG n r s=r+(n-r+s-1) / s*s:=by unfold DG;rw[ct k]
  have hq:=eI (a:=n-r+s-1) (b:=s) ap ap ap;have b1:(n-r+s-1) / s*s=DG n r s-r:=ii
  apply ba;simp[J,x,a8 (n:=n-r),a8 (n:=n-r+s),a8 (n:=n-r+s-1),hq,b1,a8 (n:=DG n r s-r),a8 (n:=r+(DG n r s-r))];refine m _ _ _ (show r+(DG n r s-r)=_ by omega) bv bv bv bv ?_ (By (aj x)) λi hi z=>by rw[sh ap];exact u i hi z
  obtain⟨⟨a1,A⟩,B,F,N,O⟩:=d;refine⟨⟨a1,?_⟩,?_,?_,?_,?_⟩
  all_goals (rw[sh ap];assumption)
 .simp[J,x,k];refine bG bv ?_;exact m _ _ r (by unfold DG;rw[cC k]) bv bv bv bv d x u
def gS:List aR->Int
 |[]=>1| p::l=>p.aO*gS l
def wo{l:List aR}(h:∀p∈l,Mod p):1<=gS l:=by
 induction l with
 |nil=>exact ahY _
 |cons p l j=>
  have b:=(bM (h p agR).ok).2.2.1;have d:=j λq g=>h q (agU _ g);have:=aiy b d ce ap;simp only[gS];omega
def yh(ps:List aR)(n a s d:Int):Prop:=n<=d/\s ∣ d-a/\∀p∈ps,lG p d
def ac8(g:Tg)(ps:List aR)(hM:∀p∈ps,Mod p)(m_:ps.length<=64)(n:Int)(hn:0<=n)(i9:n<=1000000000000) :
  ∀(k i:Nat),i+k=ps.length->∀(H:an) (least:Int) (found:Bool) (a s:Int),LH H g ps n least found->0<=a->a<s->s*gS (ps.drop i)<=1000000->
  ∃v H',Ev tab (.fn pD) [vi i,Y7 a s,.c (.ptr 0 0 0),.c (.ptr 4 0 0),.c (.ptr 1 0 0),.c (.ptr 2 0 0),.c (.ptr 3 0 0)] H v H'/\
   (v=.t []/\∃I z,LH H' g ps n I z/\iC (yh (ps.drop i) n a s) least found I z/\∀i:Nat,5<=i->i<H.length->H'[i]?=H[i]?):=by
 intro k;induction k with
 |zero=>
  intro i hi H least found a s hH a0 a1 hs;have:i=ps.length:=ii
  subst this;rw[aib]at hs ⊢;simp only[gS,Int.mul_one]at hs;obtain⟨v,H',K,rfl,hL,hk⟩:=M3 g ps H n least found a s hH a0 a1 hs hn i9;obtain⟨u1,u2,u3,u4⟩:=Kk (n:=n) a0 a1 hn;exact⟨_,H',K,rfl,_,_,hL,iC.one ⟨u1,u2,λp hp=>absurd hp (List.not_mem_nil)⟩ (λd hd=>u4 d hd.1 hd.2.1),hk⟩
 |succ k ih=>
  intro i hi H least found a s hH a0 a1 hs;have u:i<ps.length:=ii
  obtain⟨p,hp⟩:=aH (ps[i]);have i_:p∈ps:=hp▸IN u;have M:=hM p i_;obtain⟨f0,f1,p0,p1,Dn,-⟩:=bM M.ok;have c_:ps.drop i=p::ps.drop (i+1):=by rw[hp];exact agT u
  have j5:=wo (l:=ps.drop (i+1)) λq hq=>hM q (ahM hq);have n9:s*p.aO*gS (ps.drop (i+1))<=1000000:=by
   rw[c_]at hs;simp only[gS,<-aiE]at hs;exact hs
  have n8:1<=s:=ii
  have l_:s<=s*p.aO:=by
   have:=ag0 p0 (show 0<=s by omega);omega
  have m9:s*p.aO<=1000000:=by
   have:=ag0 j5 (show 0<=s*p.aO by omega);omega
  refine dc rfl rfl λQ hQ=>?_;have F:=λH:an=>cf (H:=H) (bK ps) (cH (l:=ps) (j:=i) u);have m:=λH:an=>ib (H:=H) (k:=3) (bK ps) (cH (l:=ps) (j:=i) u) rfl;have B:=λH:an=>ib (H:=H) (k:=2) (bK ps) (cH (l:=ps) (j:=i) u) rfl;have A:=λH:an=>bu (H:=H) (g:=g) (rows:=aM ps) (sz:=4) (k:=.i64) (i:=i) ap (by simpa using u);rw[<-hp]at F m B;simp[aR.row]at F A m B;have l4:=aj hH.2.2.2.2;apply ai;simp;have a_:=hH.push [.box [Z a,Z s] 0];have L:(H++[bV.box [Z a,Z s] 0])[H.length]?=E [Z a,Z s]:=lw
  have d_:∀i:Nat,5<=i->i<H.length->(H++[bV.box [Z a,Z s] 0])[i]?=H[i]?:=λi _ hl=>AI hl;obtain⟨b8,i7⟩:=aH (H.length);rw[<-i7]at L ⊢;generalize H++[bV.box [Z a,Z s] 0]=HH at a_ L d_ ⊢;obtain⟨q,q0⟩:=a_.1;apply aU;simp[q0];refine aq (by simp[u]) ?_;apply aU;simp[q0,A,m];refine bW p.bH.length (λj t H'=>t.g 0=vi i/\t.g 2=.c (.ptr 0 0 0)/\t.g 3=.c (.ptr 4 0 0)/\t.g 8=.c (.ptr b8 0 0)/\t.g 21=G (sl p.cg (ints p.bH))/\H'[b8]?=E [Z a,Z s]/\
   ∃l' W,LH H' g ps n l' W/\iC (λd=>yh (ps.drop (i+1)) n a s d/\∃c∈p.bH.take j,p.aO ∣ d-mo p c) least found l' W/\∀x:Nat,5<=x->x<H.length->H'[x]?=H[x]?) ap ce ce bv bv
   ⟨bv,bv,bv,bv,bv,L,_,_,a_,iC.none bv,d_⟩ ?_ ?_
  .rintro j t H' hj ⟨g0,g2,g3,g8,U,L,l',W,J,hP,b⟩ ha hb next
   have hm:=xN M (IN hj);obtain⟨j9,j_,-⟩:=uR M hm.1 hm.2;have N:=zC p M p.bH[j] hm.1 hm.2;simp[aR.row]at N;have j8:p.bH.take (j+1)=p.bH.take j++[p.bH[j]]:=by rw[agV,BY hj];rfl
   have e_:∀d,(yh (ps.drop (i+1)) n a s d/\∃c∈p.bH.take (j+1),p.aO ∣ d-mo p c)↔(yh (ps.drop (i+1)) n a s d/\∃c∈p.bH.take j,p.aO ∣ d-mo p c)\/(yh (ps.drop (i+1)) n a s d/\p.aO ∣ d-mo p p.bH[j]):=by
    intro d;rw[j8];simp only[agP,If];constructor
    .rintro⟨h,c,hc|rfl,e⟩
     .exact .inl ⟨h,c,hc,e⟩
     .exact .inr ⟨h,e⟩
    .rintro(⟨h,c,hc,e⟩|⟨h,e⟩)
     .exact⟨h,c,.inl hc,e⟩
     .exact⟨h,_,.inr rfl,e⟩
   obtain⟨a9,e0⟩:=J.1;have e4:=J.2.2.2.2;have k_:=aj L;apply ax;apply ai;simp[ha,U,bu,hj,dY];rcases UM a0 a1 ap j9 j_ M.Fs with⟨a',O,f_,g_,j6,d9,y⟩|⟨c9,y⟩
   .apply ai;simp[g0,g2,g8,L,e0,A,F,B,N,y];have j7:O*gS (ps.drop (i+1))<=1000000:=by
     have:=aha j6 (show 0<=gS (ps.drop (i+1)) by omega);omega
    obtain⟨v,H2,K,rfl,l2,f2,h_,i6,b_⟩:=ih (i+1) ap (H'++[.box [Z a',Z O] 0]) l' W a' O (J.push _) f_ g_ j7;have K:=K.eq;have k4:(H'++[bV.box [Z a',Z O] 0])[4]?=E [.cl pD [.ptr 0 0 0,.ptr 4 0 0,.ptr 1 0 0,.ptr 2 0 0,.ptr 3 0 0]]:=by rw[AI (aj e4)];exact e4
    have kN:(H'++[bV.box [Z a',Z O] 0])[H'.length]?=E [Z a',Z O]:=lw
    have kl:(H'++[bV.box [Z a',Z O] 0]).length=H'.length+1:=lw
    have kb:(H'++[bV.box [Z a',Z O] 0])[b8]?=E [Z a,Z s]:=by rw[AI (aj L)];exact L
    have kk:∀x:Nat,5<=x->x<H.length->(H'++[bV.box [Z a',Z O] 0])[x]?=H[x]?:=λx h5 hx=>by
     rw[AI ap];exact b x h5 hx
    apply aE;apply ba;simp;generalize H'++[bV.box [Z a',Z O] 0]=HA at K k4 kN kl kb kk b_ ⊢;refine aq bv ?_;apply ba;have i8:ah .i64 ((i:Int)+1)=((i+1:Nat):Int):=by rw[a8];rfl
    simp[g0,g3,k4,kN,i8,cr];rw[show(↑i+1:Int)=((i+1:Nat):Int) from rfl];simp only[K];simp;refine au (next _ _ ?_ (by simp[ha]) (by simp[hb]));refine⟨by simp[g0],by simp[g2],by simp[g3],by simp[g8],by simp[U],?_,l2,f2,h_,?_,?_⟩
    .rw[b_ b8 ap ap];exact kb
    .refine iC.trans hP (i6.iff (S':=λd=>yh (ps.drop (i+1)) n a s d/\p.aO ∣ d-mo p p.bH[j]) λd=>?_) e_;unfold yh;rw[<-d9 d];constructor
     .rintro⟨⟨X,Y,h3⟩,h4⟩;exact⟨X,⟨Y,h4⟩,h3⟩
     .rintro⟨X,⟨Y,h4⟩,h3⟩;exact⟨⟨X,Y,h3⟩,h4⟩
    .intro x h5 hx;rw[b_ x h5 ap];exact kk x h5 hx
   .apply ai;simp[g0,g2,g8,L,e0,A,F,B,N,y];apply aE;apply ba;simp;refine bG bv ?_;refine au (next _ _ ?_ (by simp[ha]) (by simp[hb]));refine⟨by simp[g0],by simp[g2],by simp[g3],by simp[g8],by simp[U],?_,l',W,J.push _,iC.trans hP (iC.none (S:=λd=>yh (ps.drop (i+1)) n a s d/\p.aO ∣ d-mo p p.bH[j]) λd hd=>c9 d ⟨hd.1.2.1,hd.2⟩) e_,?_⟩
    .rw[AI ap];exact L
    .intro x h5 hx;rw[AI ap];exact b x h5 hx
  .rintro t H' ⟨g0,g2,g3,g8,U,L,l',W,J,hP,b⟩ - -;rw[agW]at hP;refine av (hQ _ _ _ rfl rfl ⟨rfl,l',W,J,hP.iff λd=>?_,b⟩);rw[c_];unfold yh;simp only[ag8,forall_eq_or_imp];constructor
   .rintro⟨X,Y,h3,h4⟩;exact⟨⟨X,Y,h4⟩,h3⟩
   .rintro⟨⟨X,Y,h4⟩,h3⟩;exact⟨X,Y,h3,h4⟩
theorem BT{p:aR}:∀{l:List aR},p∈l->p.aO ∣ gS l
 |q::l,h=>by
  simp only[gS];rcases ag8.1 h with rfl|h
  .simp
  .exact ahr (BT h) (ai4 _ _)
def M0(h:lG q d)(g:q.aO ∣ a):lG q (d-a):=by
 obtain⟨c,b,e⟩:=h;refine⟨c,b,?_⟩;have:=ain e g
 grind
def Bw(g:∀p∈e,Mod p)(h:∀p∈e,lG p d)(s:a<=d):∃d',a<=d'/\d'<a+gS e/\∀p∈e,lG p d':=by
 have u:=wo g;have j:=ag2 (d-a) (gS e);have l:=ahj (d-a) (show gS e≠0 by omega);have q:=ahc (d-a) (show 0<gS e by omega);refine⟨d-gS e*((d-a) / gS e),ap,ap,λp b=>M0 (h p b) (ahr (BT b) (Int.dvd_mul_right _ _))⟩
def Yn(ps:List aR)(m d:Int):Prop:=m<=d/\(∀p∈ps,lG p d)/\d<m+gS ps/\∀d',m<=d'->(∀p∈ps,lG p d')->d<=d'
def Ux(g:Tg)(ps:List aR)(x:∀p∈ps,Mod p)(L:ps.length<=64)(W:gS ps<=1000000)(n m:Int)(S:m=max n (dG ps))(J:m<=1000000000000) :
  (∃d,Yn ps m d/\bf tab DU [G (sl g (aM ps)),vi n]=Eq (.t [vi d,vb ae]))\/
  ((∀d,m<=d->¬ ∀p∈ps,lG p d)/\bf tab DU [G (sl g (aM ps)),vi n]=Eq (.t [vi 0,vb ag])):=by
 have s:=SN g ps L;have X:=rI ps;have U:=wo x;obtain⟨v,H',b,rfl,z,O,F,y,-⟩:=ac8 g ps x L m ap J ps.length 0 ap [.box [.f (sl g (aM ps))] 0,.box [Z m] 0,.box [Z 1152921504606846976] 0,.box [.f (.bool ag)] 0,.box [.cl pD [.ptr 0 0 0,.ptr 4 0 0,.ptr 1 0 0,.ptr 2 0 0,.ptr 3 0 0]] 0]
  1152921504606846976 ag 0 1 ⟨⟨0,rfl⟩,rfl,rfl,rfl,rfl⟩ ce ce (by rw[ahR];omega)
 rw[ahR]at y;have I:∀d,yh ps m 0 1 d↔m<=d/\∀p∈ps,lG p d:=λd=>⟨λh=>⟨h.1,h.2.2⟩,λh=>⟨h.1,Int.one_dvd _,h.2⟩⟩
 have j:max n (dG ps)=m:=S.symm;have b:=b.eq;simp only[show((0:Nat):Int)=0 from rfl]at b;cases O with
 |true=>
  left;have q:yh ps m 0 1 z:=by
   rcases y.src with⟨_,h⟩|⟨_,h⟩
   .cases h
   .omega
  have l:∀d',m<=d'->(∀p∈ps,lG p d')->z<=d':=λd' A B=>(y.low d' ((I d').2 ⟨A,B⟩)).1;obtain⟨M,N⟩:=(I z).1 q;obtain⟨u,n1,n2,K⟩:=Bw x N M;refine⟨z,⟨M,N,by have:=l u n1 K;omega,l⟩,bf.eq (bD rfl rfl λQ H=>?_)⟩;apply ai;simp;apply ai;simp[s,j];apply ai;simp;apply ai;simp;apply ai;simp;apply ai;simp[cr,b];apply aU;simp[F.2.2.2.1];refine bG bv ?_;apply ai;simp[F.2.2.1];refine av (H _ _ ?_);simp
 |false=>
  right;refine⟨λd A B=>?_,bf.eq (bD rfl rfl λQ H=>?_)⟩
  .obtain⟨u,n1,n2,K⟩:=Bw x B A;have:=(y.low u ((I u).2 ⟨n1,K⟩)).2 ap;simp_all
  .apply ai;simp;apply ai;simp[s,j];apply ai;simp;apply ai;simp;apply ai;simp;apply ai;simp[cr,b];apply aU;simp[F.2.2.2.1];refine aq bv ?_;apply ai;simp;refine av (H _ _ ?_);simp
def rO:List (Int × Int)->List aR->Prop
 |_,[]=>True| ch,p::l=>∃c∈p.bH,(∀x∈ch,(ahw p.aO x.2:Int) ∣ mo p c-x.1)/\rO (ch++[(mo p c,p.aO)]) l
theorem Dt{d:Int}:∀(l:List aR) (ch:List (Int × Int)),(∀x∈ch,x.2 ∣ d-x.1)->(∀p∈l,lG p d)->rO ch l
 |[],_,_,_=>trivial
 |p::l,ch,u,g=>by
  obtain⟨c,b,hd⟩:=g p agR;refine⟨c,b,λx j=>?_,Dt l _ (λx j=>?_) λq v=>g q (agU _ v)⟩
  .have m:=ahr (aiA p.aO x.2) (u x j);have s:=ahr (aiu p.aO x.2) hd;have:=ain m s
   grind
  .grind
def RH(B:an)(H:an)(g:Tg)(ps:List aR)(b:List Int):Prop:=(∃a,H[B.length]?=aa (.box [.f (sl g (aM ps))] a))/\H[B.length+1]?=E (b.map λx=>C.f (fi x))/\H[B.length+2]?=E [.sl (B.length+1) 0 ps.length ps.length 0 1]/\
 H[B.length+3]?=E [.cl tR [.ptr B.length 0 0,.ptr (B.length+2) 0 0,.ptr (B.length+3) 0 0]]/\∀i:Nat,i<B.length->H[i]?=B[i]?
def Cho(ps:List aR)(b:List Int)(ch:List (Int × Int)):Prop:=∀j,(h:j<ch.length)->b[j]?=aa ch[j].1/\(∃p,ps[j]?=aa p/\p.aO=ch[j].2)/\0<=ch[j].1/\ch[j].1<=27720
def afJ(B:an)(ho:N=B.length)(g:Tg)(ps:List aR)(hM:∀p∈ps,Mod p)(z7:ps.length<=64) :
  ∀(k i:Nat),i+k=ps.length->∀(H:an) (X:List Int) (ch:List (Int × Int)),RH B H g ps X->X.length=ps.length->ch.length=i->Cho ps X ch->
  ∃v H',Ev tab (.fn tR) [vi i,.c (.ptr N 0 0),.c (.ptr (N+2) 0 0),.c (.ptr (N+3) 0 0)] H v H'/\
   ∃b,v=vb b/\(b=ae↔rO ch (ps.drop i))/\∃ls',RH B H' g ps ls'/\ls'.length=ps.length/\ls'.take i=X.take i:=by
 intro k;induction k with
 |zero=>
  intro i hi H X ch hH i7 m9 u;have:i=ps.length:=ii
  subst this;obtain⟨q,q0⟩:=hH.1;rw[<-ho]at q0;refine dc rfl rfl λQ hQ=>?_;apply ai;simp;apply lF;apply aU;simp[q0];refine aq bv ?_;apply ai;simp;exact av (hQ _ _ _ rfl (dx bv) ⟨ae,rfl,by rw[aib];simp[rO],X,hH,i7,rfl⟩)
 |succ k ih=>
  intro i hi H X ch hH i7 m9 u;have A:i<ps.length:=ii
  obtain⟨p,hp⟩:=aH (ps[i]);have u9:p∈ps:=hp▸IN A;have L:=hM p u9;obtain⟨f0,f1,p0,p1,Dn,-⟩:=bM L.ok;have r9:ps.drop i=p::ps.drop (i+1):=by rw[hp];exact agT A
  have U:=λH:an=>cf (H:=H) (bK ps) (cH (l:=ps) (j:=i) A);have m:=λH:an=>ib (H:=H) (k:=3) (bK ps) (cH (l:=ps) (j:=i) A) rfl;have O:=λH:an=>ib (H:=H) (k:=2) (bK ps) (cH (l:=ps) (j:=i) A) rfl;have z:=λH:an=>bu (H:=H) (g:=g) (rows:=aM ps) (sz:=4) (k:=.i64) (i:=i) ap (by simpa using A);rw[<-hp]at U m O;simp[aR.row]at U z m O;obtain⟨q,q0⟩:=hH.1;rw[<-ho]at q0;refine dc rfl rfl λQ hQ=>?_;apply ai;simp;apply lF;apply aU;simp[q0];refine aC ge (aQ ?_);refine aE (qz ?_);apply aU;simp[q0,z,m];obtain⟨Ok,j9⟩:∃Ok:Int->Prop,Ok=λc=>(∀x∈ch,(ahw p.aO x.2:Int) ∣ mo p c-x.1)/\rO (ch++[(mo p c,p.aO)]) (ps.drop (i+1)):=⟨_,rfl⟩
  have x8:∀c,Ok c↔((∀x∈ch,(ahw p.aO x.2:Int) ∣ mo p c-x.1)/\rO (ch++[(mo p c,p.aO)]) (ps.drop (i+1))):=λc=>by rw[j9]
  have k_:rO ch (ps.drop i)↔∃c∈p.bH,Ok c:=by rw[r9,j9];rfl
  refine bW p.bH.length (λj t H'=>t.g 0=vi i/\t.g 1=.c (.ptr N 0 0)/\t.g 2=.c (.ptr (N+2) 0 0)/\t.g 3=.c (.ptr (N+3) 0 0)/\t.g 18=G (sl p.cg (ints p.bH))/\
   (∀c∈p.bH.take j,¬ Ok c)/\∃ls',RH B H' g ps ls'/\ls'.length=ps.length/\ls'.take i=X.take i) ap ce ce bv bv ⟨bv,bv,bv,bv,bv,bv,X,hH,i7,rfl⟩ ?_ ?_
  .rintro j t H' hj ⟨K,g1,g2,g3,d,i9,ls',hR,F,I⟩ ha hb next
   have hm:=xN L (IN hj);obtain⟨w_,x6,-⟩:=uR L hm.1 hm.2;have S:=zC p L p.bH[j] hm.1 hm.2;simp[aR.row]at S;have z8:=L.Fs;have x_:p.bH.take (j+1)=p.bH.take j++[p.bH[j]]:=by rw[agV,BY hj];rfl
   have d_:¬ Ok p.bH[j]->∀c∈p.bH.take (j+1),¬ Ok c:=by
    grind
   obtain⟨r,hr⟩:=aH (mo p p.bH[j]);rw[<-hr]at w_ x6 S;obtain⟨q',j6⟩:=hR.1;have Y:=hR.2.1;have j7:=hR.2.2.1;have u_:=hR.2.2.2.1;have v_:=hR.2.2.2.2;rw[<-ho]at j6 Y j7 u_ v_;have n_:∀j,(h:j<ch.length)->ls'[j]?=aa ch[j].1:=λj h=>by
    have h1:(ls'.take i)[j]?=ls'[j]?:=List.getElem?_take_of_lt ap;have h2:(X.take i)[j]?=X[j]?:=List.getElem?_take_of_lt ap;rw[<-h1,I,h2];exact(u j h).1
   apply ax;apply ai;simp[ha,d,bu,hj,dY];apply ai;simp[K,g1,j6,z,U,S];apply aU;simp[K];refine bW i (λn t H2=>(t.g 0=vi i/\t.g 1=.c (.ptr N 0 0)/\t.g 2=.c (.ptr (N+2) 0 0)/\t.g 3=.c (.ptr (N+3) 0 0)/\t.g 18=G (sl p.cg (ints p.bH))/\t.g 20=vi j/\t.g 19=vi p.bH.length/\t.g 8=vi r)/\H2=H'/\∀x∈ch.take n,(ahw p.aO x.2:Int) ∣ r-x.1)
    ap ce ce bv bv ⟨⟨by simp[K],by simp[g1],by simp[g2],by simp[g3],by simp[d],by simp[ha],by simp[hb],bv⟩,rfl,bv⟩ ?_ ?_
   .rintro n t H2 hn ⟨⟨K,g1,g2,g3,d,b_,a_,g8⟩,g_,d9⟩ l_ r7 nx;rw[g_];have c_:n<ps.length:=ii
    have i8:n<ch.length:=ii
    obtain⟨-,⟨pn,o_,i_⟩,x0,x1⟩:=u n i8;have t8:=n_ n i8;obtain⟨x,hx⟩:=aH (ch[n]);rw[<-hx]at t8 i_ x0 x1;have e_:ps[n]=pn:=by rw[BY c_]at o_;exact ajq o_
    have r6:=hM pn (e_▸IN c_);obtain⟨-,-,z0,z1,-⟩:=bM r6.ok;rw[i_]at z0 z1;have s:=λH:an=>ib (H:=H) (k:=2) (bK ps) (cH (l:=ps) (j:=n) c_) rfl;have M:=λH:an=>bu (H:=H) (g:=g) (rows:=aM ps) (sz:=4) (k:=.i64) (i:=n) ap (by simpa using c_);rw[e_]at s;simp[aR.row,i_]at s M;have o:bO H' 1 ab (.c (.sl (N+1) 0 ps.length ps.length 0 1)) (vi n)=aa (.c (.ptr (N+1) n 0)):=by
     simp[bO,fE,Y,F];omega
    have n9:aV H' ab (.c (.ptr (N+1) n 0))=aa (vi x.1):=by
     have hd:(ls'.map λy=>C.f (fi y)).drop n=C.f (fi x.1) ::(ls'.map λy=>C.f (fi y)).drop (n+1):=by
      rw[agT ge,aiF];simp_all
     simp_all
    have s_:aV H' ab (.c (.ptr (N+2) 0 0))=aa (.c (.sl (N+1) 0 ps.length ps.length 0 1)):=by simp[j7]
    have s7:aV H' ab (.c (.ptr N 0 0))=aa (G (sl g (aM ps))):=by simp[j6]
    obtain⟨gg,y8⟩:=aH ((ahw p.aO x.2:Int):Int);have y_:ahw p.aO x.2=ah5 p.aO.toNat x.2.toNat:=by
     show ah5 p.aO.natAbs x.2.natAbs=_
     grind
    have y6:0<gg:=by
     have:=ahX x.2 (show p.aO≠0 by omega);omega
    have m_:bf tab AX [vi p.aO,vi x.2]=Eq (vi gg):=by
     have h:=yS (a:=p.aO.toNat) (b:=x.2.toNat) ap ap
     grind
    have q_:=a8 (n:=r-x.1);have p9:de .rem (vi (r-x.1)) (vi gg)=aa (vi ((r-x.1).tmod gg)):=dD ap;have W:ch.take (n+1)=ch.take n++[x]:=by rw[agV,BY i8,hx];rfl
    apply ax;apply ai;simp[l_];apply ai;simp[K,g1,g2,g8,s7,s_,o,n9,z,O,M,s,m_,q_,p9,-aw];by_cases hd:gg ∣ r-x.1
    .have j5:(r-x.1).tmod gg=0:=aiR hd;refine bG (by simp[j5]) ?_;refine au (nx _ _ ?_ (by simp[l_]) (by simp[r7]));refine⟨⟨by simp[K],by simp[g1],by simp[g2],by simp[g3],by simp[d],by simp[b_],by simp[a_],by simp[g8]⟩,rfl,λy hy=>?_⟩
     grind
    .have j5:¬ (r-x.1).tmod gg=0:=λe=>hd (aje e);refine aq (by simp[j5]) ?_;refine bQ rfl (next _ _ ?_ (by simp[b_]) (by simp[a_]));refine⟨by simp[K],by simp[g1],by simp[g2],by simp[g3],by simp[d],d_ ?_,ls',hR,F,I⟩
     grind
   .rintro t H2 ⟨⟨K,g1,g2,g3,d,b_,a_,g8⟩,g_,d9⟩ - -;rw[g_];rw[agY ap]at d9;have o:bO H' 1 ab (.c (.sl (N+1) 0 ps.length ps.length 0 1)) (vi i)=aa (.c (.ptr (N+1) i 0)):=by
     simp[bO,fE,Y,F];omega
    have f_:dj H' (.ptr (N+1) i 0) [Z r]=aa (H'.set (N+1) (.box ((ls'.set i r).map λy=>C.f (fi y)) 0)):=by
     simp only[dj,Y];rw[ct ge,zv ge,List.map_set]
    have t_:(H'.set (N+1) (.box ((ls'.set i r).map λy=>C.f (fi y)) 0))[N+3]?=H'[N+3]?:=sh ap;have x9:=aj Y;have h_:RH B (H'.set (N+1) (.box ((ls'.set i r).map λy=>C.f (fi y)) 0)) g ps (ls'.set i r):=by
     unfold RH
     grind
    have i6:Cho ps (ls'.set i r) (ch++[(r,p.aO)]):=by
     intro y hy;rw[agM,List.length_singleton]at hy;by_cases p_:y<ch.length
     .rw[List.getElem_append_left p_,sh ap];obtain⟨-,h2,h3⟩:=u y p_
      grind
     .grind
    obtain⟨v,H3,c9,b,rfl,y7,J,j_,n8,W⟩:=ih (i+1) ap _ _ (ch++[(r,p.aO)]) h_ (by simpa using F) (by simp[m9]) i6;have c9:=c9.eq;have j8:=h_.2.2.2.1;rw[<-ho]at j8;generalize H'.set (N+1) (.box ((ls'.set i r).map λy=>C.f (fi y)) 0)=HN at f_ c9 j8 t_ h_;have r_:ah .i64 ((i:Int)+1)=((i+1:Nat):Int):=by rw[a8];rfl
    apply ai;simp[K,g2,g8,j7,o,f_,-bF];apply ai;simp[K,g3,j8,r_,cr];rw[show(↑i+1:Int)=((i+1:Nat):Int) from rfl];simp only[c9];simp;cases b with
    |true=>
     refine aq bv ?_;apply ai;simp;refine av (hQ _ _ _ rfl (dx bv) ⟨ae,rfl,?_,J,j_,n8,?_⟩)
     .grind
     .have h1:(J.take (i+1)).take i=J.take i:=by rw[aiN,aik ap]
      rw[<-h1,W,aiN,aik ap,List.take_set_of_le ap,I]
    |false=>
     refine bG bv ?_;refine au (next _ _ ?_ (by simp[b_]) (by simp[a_]));refine⟨by simp[K],by simp[g1],by simp[g2],by simp[g3],by simp[d],d_ ?_,J,j_,n8,?_⟩
     .simp_all
     .have h1:(J.take (i+1)).take i=J.take i:=by rw[aiN,aik ap]
      rw[<-h1,W,aiN,aik ap,List.take_set_of_le ap,I]
  .rintro t H' ⟨K,g1,g2,g3,d,i9,ls',hR,F,I⟩ - -;rw[agW]at i9;apply ai;simp;refine av (hQ _ _ _ rfl (dx bv) ⟨ag,rfl,?_,ls',hR,F,I⟩);rw[k_];constructor
   .intro h;cases h
   .rintro⟨c,hc,h⟩;exact absurd h (i9 c hc)
def iL(g:n<=1100000)(d:N<=4096):cF n N=ae:=by
 have h:(2*n+768)*N<=2200768*4096:=Nat.mul_le_mul ap d;simp[cF];omega
def Ns(g:Tg)(ps:List aR)(B:∀p∈ps,Mod p)(J:1<=ps.length)(I:ps.length<=64):∃b,(b=ae↔rO [] ps)/\Kf tab DV [G (sl g (aM ps))] (vb b):=by
 obtain⟨b,y⟩:∃b:Bool,b=ae↔rO [] ps:=⟨open Classical in decide (rO [] ps),bv⟩
 refine⟨b,y,dd rfl rfl λH Q F=>?_⟩;have q:RH H (H++[.box [.f (sl g (aM ps))] 0,.box (List.replicate ps.length (C.f (fi 0))) 0,.box [.sl (H.length+1) 0 ps.length ps.length 0 1] 0,.box [.cl tR [.ptr H.length 0 0,.ptr (H.length+2) 0 0,.ptr (H.length+3) 0 0]] 0]) g ps (List.replicate ps.length 0):=by
  refine⟨⟨0,bv⟩,bv,bv,bv,λi hi=>AI hi⟩
 obtain⟨v,H',d,z,rfl,m,ls',l,-⟩:=afJ H rfl g ps B I ps.length 0 ap _ _ [] q bv rfl (λj h=>absurd h (Nat.not_lt_zero j));rw[ahR,<-y]at m;have s:z=b:=by rw[aiq];exact m
 subst s;have d:=d.eq;simp only[show((0:Nat):Int)=0 from rfl]at d;apply ai;simp;have x:cF ps.length 8=ae:=iL ap ce;have u:∀(t:T) (H:an),t.g 6=vi ps.length->cA t H (.fu 1 8 [.int .i64 0] (R 6) (R 6))=aa (.c (.sl H.length 0 ps.length ps.length 0 1),H++[.box (List.replicate ps.length (C.f (fi 0))) 0]):=by
  intro t H h;have e:(dQ ps.length [fi 0]).map C.f=List.replicate ps.length (C.f (fi 0)):=by simp[dQ]
  simp only[cA,mF,h,fE]
  grind
 apply ai;simp[u];apply ai;simp;apply ai;simp;apply ai;simp[cr,d];have A:H'=H++H'.drop H.length:=by
  refine List.ext_getElem? λi=>?_;have K:=aj l.2.2.2.1;rcases ahS i H.length with h|h
  .exact(l.2.2.2.2 i h).trans (AI h).symm
  .grind
 refine av (F _ _ ?_);simp
 grind
def BZ(g:Tg)(ps:List aR)(j:∀p∈ps,Mod p)(d:1<=ps.length)(m:ps.length<=64):∃b,(b=ae↔rO [] ps)/\bf tab DV [G (sl g (aM ps))]=Eq (vb b):=by
 obtain⟨b,l,h⟩:=Ns g ps j d m;exact⟨b,l,h.eq⟩
def iQ(S:Int->Prop)(l:Int)(f:Bool):Prop:=(f=ag/\l=0/\∀d,¬ S d)\/(f=ae/\S l/\∀d,S d->l<=d)
def iQ.iff{S S':Int->Prop}(h:iQ S y f)(g:∀d,S' d↔S d):iQ S' y f:=by
 rcases h with⟨a,b,c⟩|⟨a,b,c⟩
 .exact .inl ⟨a,b,λd hd=>c d ((g d).1 hd)⟩
 .exact .inr ⟨a,(g _).2 b,λd hd=>c d ((g d).1 hd)⟩
def iQ.step{S S':Int->Prop}(h:iQ S a f)(g:∀d,S' d↔S d\/d=y):iQ S' (if f=ag\/y<a then y else a) ae:=by
 right;rcases h with⟨rfl,rfl,c⟩|⟨rfl,b,c⟩
 .simp_all
 .grind
def lO(ps:List aR)(n:Int)(l:List aR)(d:Int):Prop:=n<=d/\wS ps d=ae/\∃p∈l,d∈p.head
def Ew(g:Tg)(ps:List aR)(hP:∀p∈ps,cO p=ae)(hl:ps.length<=64)(n:Int):∃e f,iQ (lO ps n ps) e f/\bf tab DT [G (sl g (aM ps)),vi n]=Eq (.t [vi e,vb f]):=by
 have key:∃r,(∃e f,iQ (lO ps n ps) e f/\r=.t [vi e,vb f])/\bf tab DT [G (sl g (aM ps)),vi n] r:=by
  refine dE rfl rfl λQ hQ=>?_;apply ai;simp;apply ai;simp;apply aU;simp;refine bW ps.length (λj t H'=>t.g 0=G (sl g (aM ps))/\t.g 1=vi n/\t.g 12=G (sl g (aM ps))/\∃e f,t.g 6=vi e/\t.g 7=vb f/\iQ (lO ps n (ps.take j)) e f) ap ce ce bv bv
   ⟨bv,bv,bv,0,ag,bv,bv,.inl ⟨rfl,rfl,λd hd=>by obtain⟨_,_,p,U,_⟩:=hd;simp at U⟩⟩ ?_ ?_
  .rintro j t H hj ⟨q,s,b,e,f,A,B,K⟩ ha hb next
   obtain⟨p,U⟩:=aH (ps[j]);have b_:p∈ps:=U▸IN hj;obtain⟨f0,f1,p0,p1,Dn,-,a_,-⟩:=bM (hP p b_);have L:=λH:an=>cf (H:=H) (bK ps) (cH (l:=ps) (j:=j) hj);have N:=λH:an=>bu (H:=H) (g:=g) (rows:=aM ps) (sz:=4) (k:=.i64) (i:=j) ap (by simpa using hj);rw[<-U]at L;simp[aR.row]at L N;have i8:ps.take (j+1)=ps.take j++[p]:=by rw[agV,BY hj,U];rfl
   apply ax;apply ai;simp[b,ha,N,L];apply ai;simp;refine bW p.head.length (λi t H'=>t.g 0=G (sl g (aM ps))/\t.g 1=vi n/\t.g 12=G (sl g (aM ps))/\t.g 14=vi j/\t.g 13=vi ps.length/\t.g 19=G (sl p.hg (ints p.head))/\
    ∃e f,t.g 6=vi e/\t.g 7=vb f/\iQ (λd=>lO ps n (ps.take j) d\/(n<=d/\wS ps d=ae/\d∈p.head.take i)) e f) ap ce ce bv bv
    ⟨by simp[q],by simp[s],by simp[b],by simp[ha],by simp[hb],bv,e,f,by simp[A],by simp[B],K.iff λd=>by simp⟩ ?_ ?_
   .rintro i t H hi ⟨q,s,b,v,u,y,e,f,A,B,K⟩ F J nx;obtain⟨x,hx⟩:=aH (p.head[i]);have c9:x∈p.head:=hx▸IN hi;have i9:=a_ x c9;have S:=λH:an=>dY (H:=H) hi;rw[<-hx]at S;have z:=(VM g ps ap hP x nl).eq;have h_:p.head.take (i+1)=p.head.take i++[x]:=by rw[agV,BY hi,hx];rfl
    apply ax;apply ai;simp[F,y,bu,hi,S];have bS:¬ (n<=x/\wS ps x=ae)->iQ (λd=>lO ps n (ps.take j) d\/(n<=d/\wS ps d=ae/\d∈p.head.take (i+1))) e f:=λi7=>K.iff λd=>by
     grind
    have O:(n<=x/\wS ps x=ae)->iQ (λd=>lO ps n (ps.take j) d\/(n<=d/\wS ps d=ae/\d∈p.head.take (i+1))) (if f=ag\/x<e then x else e) ae:=λi6=>K.step λd=>by
     grind
    have I:∀(t:T) (H:an) (X:Int) (Y:Bool),t.g 0=G (sl g (aM ps))->t.g 1=vi n->t.g 12=G (sl g (aM ps))->t.g 14=vi j->t.g 13=vi ps.length->t.g 19=G (sl p.hg (ints p.head))->t.g 21=vi i->t.g 20=vi p.head.length->t.g 6=vi X->t.g 7=vb Y->iQ (λd=>lO ps n (ps.take j) d\/(n<=d/\wS ps d=ae/\d∈p.head.take (i+1))) X Y->
      WP tab DT ab [.code O7,.inLoop O6,.inBlock 2,.inBlock 1,.code O8,.inLoop Th,.inBlock 0,.code O9] ⟨t,[],H⟩ Q:=by
     intro t H X Y q0 q1 c_ d_ d9 e_ g_ f_ q6 q7 qm;refine nx _ _ ?_ g_ f_;exact⟨by simp[q0],by simp[q1],by simp[c_],by simp[d_],by simp[d9],by simp[e_],X,Y,by simp[q6],by simp[q7],qm⟩
    by_cases M:n<=x
    .cases f with
     |false=>
      cases m:wS ps x with
      |false=>
       rw[m]at z;apply ai;simp[q,s,A,B,M,z];refine aC bv (aQ (au ?_));exact I _ _ e ag (by simp[q]) (by simp[s]) (by simp[b]) (by simp[v]) (by simp[u]) (by simp[y]) (by simp[F]) (by simp[J]) (by simp[A]) (by simp[B]) (bS (by simp[m]))
      |true=>
       rw[m]at z;apply ai;simp[q,s,A,B,M,z];refine aq bv (aF (.inl rfl) ?_);simp;apply au;exact I _ _ x ae (by simp[q]) (by simp[s]) (by simp[b]) (by simp[v]) (by simp[u]) (by simp[y]) (by simp[F]) (by simp[J]) bv bv (by have:=O ⟨M,m⟩;simpa using this)
     |true=>
      by_cases W:x<e
      .cases m:wS ps x with
       |false=>
        rw[m]at z;apply ai;simp[q,s,A,B,M,W,z];refine aC bv (aQ (au ?_));exact I _ _ e ae (by simp[q]) (by simp[s]) (by simp[b]) (by simp[v]) (by simp[u]) (by simp[y]) (by simp[F]) (by simp[J]) (by simp[A]) (by simp[B]) (bS (by simp[m]))
       |true=>
        rw[m]at z;apply ai;simp[q,s,A,B,M,W,z];refine aq bv (aF (.inl rfl) ?_);simp;apply au;exact I _ _ x ae (by simp[q]) (by simp[s]) (by simp[b]) (by simp[v]) (by simp[u]) (by simp[y]) (by simp[F]) (by simp[J]) bv bv (by have:=O ⟨M,m⟩;simpa[W]using this)
      .apply ai;simp[q,s,A,B,M,W];refine aC bv (aQ (au ?_));refine I _ _ e ae (by simp[q]) (by simp[s]) (by simp[b]) (by simp[v]) (by simp[u]) (by simp[y]) (by simp[F]) (by simp[J]) (by simp[A]) (by simp[B]) ?_
       grind
    .apply ai;simp[q,s,A,B,M];refine aC bv (aQ (au ?_));exact I _ _ e f (by simp[q]) (by simp[s]) (by simp[b]) (by simp[v]) (by simp[u]) (by simp[y]) (by simp[F]) (by simp[J]) (by simp[A]) (by simp[B]) (bS λh=>M h.1)
   .rintro t H ⟨q,s,b,v,u,y,e,f,A,B,K⟩ - -;rw[agW]at K;refine au (next _ _ ?_ (by simp[v]) (by simp[u]));refine⟨by simp[q],by simp[s],by simp[b],e,f,by simp[A],by simp[B],K.iff λd=>?_⟩;unfold lO
    grind
  .rintro t H ⟨q,s,b,e,f,A,B,K⟩ ha hb;rw[agW]at K;apply ai;simp[A,B];refine av (hQ _ _ _ ⟨e,f,K,rfl⟩ ?_);simp
 obtain⟨r,⟨e,f,K,rfl⟩,h⟩:=key;exact⟨e,f,K,h.eq⟩
structure pF(ps:List aR):Prop where
 l1:1<=ps.length
 l2:ps.length<=64
 mod:∀p∈ps,Mod p
 prod:gS ps<=1000000
 st:dG ps<=1000000000000
def pF.aO(h:pF e):∀p∈e,cO p=ae:=λp b=>(h.mod p b).ok
def GW(ps:List aR)(n x:Int):Prop:=n<=x/\wS ps x=ae
def je(b:0<=a):wS e a=ae↔∀p∈e,bE p a=ae:=by
 simp[wS,hasB,b]
theorem wx{x:Int}:∀{l:List aR},0<=x->x<dG l->∃p∈l,x<p.fr
 |[],b,h=>by simp only[dG]at h;omega
 |q::l,b,h=>by
  simp only[dG]at h;by_cases k:x<q.fr
  .exact⟨q,agR,k⟩
  .obtain⟨p,d,e⟩:=wx (x:=x) (l:=l) b ap;exact⟨p,agU _ d,e⟩
def EK(h:pF e)(l:0<=a)(m:dG e<=y):GW e a y↔max a (dG e)<=y/\∀p∈e,lG p y:=by
 have j:=rI e;unfold GW;rw[je ap];constructor
 .rintro⟨g,d⟩;exact⟨ap,λp b=>(uK (h.mod p b) (by have:=rH b;omega)).1 (d p b)⟩
 .rintro⟨g,d⟩;exact⟨ap,λp b=>(uK (h.mod p b) (by have:=rH b;omega)).2 (d p b)⟩
def Ki(g:Tg)(ps:List aR)(h:pF ps)(n:Int)(K:0<=n)(X:n<=1000000000000):∃d f q z,iQ (GW ps n) d f/\(0<=d/\d<=1000001000000)/\
  bf tab DT [G (sl g (aM ps)),vi n]=Eq (.t [vi q,vb z])/\
  ((z=ae/\d=q/\f=ae)\/(z=ag/\q=0/\∃b,bf tab DV [G (sl g (aM ps))]=Eq (vb b)/\((b=ag/\d=0/\f=ag)\/(b=ae/\bf tab DU [G (sl g (aM ps)),vi n]=Eq (.t [vi d,vb f]))))):=by
 obtain⟨q,z,W,A⟩:=Ew g ps h.aO h.l2 n;have a_:=rI ps;have b_:=h.st;have Y:=h.prod;have u:∀x,GW ps n x->x<dG ps->lO ps n ps x:=by
  rintro x ⟨O,I⟩ l;obtain⟨p,y,U⟩:=wx ap l;refine⟨O,I,p,y,?_⟩;have:=(je ap).1 I p y;unfold bE at this;rw[cC ap,decide_eq_true_eq]at this;exact this
 rcases W with⟨rfl,rfl,H⟩|⟨rfl,Q,v⟩
 .have B:∀x,GW ps n x->dG ps<=x:=λx l=>by
   rcases ah0 x (dG ps)with k|k
   .exact absurd (u x l k) (H x)
   .exact k
  have j:∀x,GW ps n x↔max n (dG ps)<=x/\∀p∈ps,lG p x:=λx=>by
   constructor
   .intro l;exact(EK h K (B x l)).1 l
   .intro l;exact(EK h K ap).2 l
  obtain⟨b,J,m⟩:=BZ g ps h.mod h.l1 h.l2;cases b with
  |false=>
   refine⟨0,ag,0,ag,.inl ⟨rfl,rfl,λx l=>?_⟩,⟨ap,ap⟩,A,.inr ⟨rfl,rfl,ag,m,.inl ⟨rfl,rfl,rfl⟩⟩⟩;have:=J.2 (Dt (d:=x) ps [] bv ((j x).1 l).2);cases this
  |true=>
   rcases Ux g ps h.mod h.l2 h.prod n _ rfl ap with⟨d,⟨L,M,d3,N⟩,F⟩|⟨s,F⟩
   .exact⟨d,ae,0,ag,.inr ⟨rfl,(j d).2 ⟨L,M⟩,λx l=>N x ((j x).1 l).1 ((j x).1 l).2⟩,⟨ap,ap⟩,A,.inr ⟨rfl,rfl,ae,m,.inr ⟨rfl,F⟩⟩⟩
   .exact⟨0,ag,0,ag,.inl ⟨rfl,rfl,λx l=>s x ((j x).1 l).1 ((j x).1 l).2⟩,⟨ap,ap⟩,A,.inr ⟨rfl,rfl,ae,m,.inr ⟨rfl,F⟩⟩⟩
 .obtain⟨s1,s2,p,y,S⟩:=Q;have J:=(bM (h.aO p y)).2.2.2.2.2.2.1 q S;have:=rH y;refine⟨q,ae,q,ae,.inr ⟨rfl,⟨s1,s2⟩,λx l=>?_⟩,⟨ap,ap⟩,A,.inl ⟨rfl,rfl,rfl⟩⟩;rcases ah0 x (dG ps)with k|k
  .exact v x (u x l k)
  .omega
def iQ.join{S S1 m:Int->Prop}(h1:iQ S1 y f)(h2:iQ m r K)(g:∀d,S d↔S1 d\/m d):iQ S (if K=ae/\(f=ag\/r<y)then r else y) (f||K):=by
 rcases h1 with⟨rfl,rfl,a⟩|⟨rfl,a,b⟩<;>rcases h2 with⟨rfl,rfl,c⟩|⟨rfl,c,e⟩
 .refine .inl ⟨rfl,bv,λd hd=>?_⟩;rcases(g d).1 hd with h|h
  .exact a d h
  .exact c d h
 .refine .inr ⟨rfl,by simpa using (g r).2 (.inr c),λd hd=>?_⟩;rcases(g d).1 hd with h|h
  .exact absurd h (a d)
  .simpa using e d h
 .refine .inr ⟨rfl,by simpa using (g y).2 (.inl a),λd hd=>?_⟩;rcases(g d).1 hd with h|h
  .simpa using b d h
  .exact absurd h (c d)
 .refine .inr ⟨rfl,?_,λd hd=>?_⟩
  .by_cases k:r<y
   .simpa[k]using (g r).2 (.inr c)
   .simpa[k]using (g y).2 (.inl a)
  .rcases(g d).1 hd with h|h
   .have:=b d h;by_cases k:r<y<;>simp[k]<;>omega
   .have:=e d h;by_cases k:r<y<;>simp[k]<;>omega
def QH(H:an)(n b:Int)(found:Bool):Prop:=H[0]?=E [Z n]/\H[1]?=E [Z b]/\H[2]?=E [.f (.bool found)]/\H[3]?=aa (.dH ae)/\
 ∃s:T,H[4]?=aa (.lp dp s [P.nat 12] cT cD .ready ab 3)/\s.g 3=.c (.ptr 0 0 0)/\s.g 6=.c (.ptr 1 0 0)/\s.g 7=.c (.ptr 2 0 0)
def EO(g:Tg)(ps:List aR)(h:pF ps)(n:Int)(hn:0<=n)(b_:n<=1000000000000):∃d f,iQ (GW ps n) d f/\(0<=d/\d<=1000001000000)/\∀H j found,QH H n j found->
  ∃r H',Ev tab (.yield 4) [G (sl g (aM ps))] H r H'/\(r=vb ae/\QH H' n (if f=ae/\(found=ag\/d<j)then d else j) (found||f)):=by
 obtain⟨d,f,e0,f0,hm,hd,he,hc⟩:=Ki g ps h n hn b_;refine⟨d,f,hm,hd,?_⟩;rintro H j found ⟨h0,h1,h2,h3,s,Y,v,K,L⟩;refine dm (tab:=tab) (b:=4) Y rfl λX M=>?_;have a_:=aj Y;have F:∀(t:T) (l:an),l[0]?=E [Z n]->l[1]?=E [Z j]->l[2]?=E [.f (.bool found)]->l[3]?=aa (.dH ae)->l[4]?=aa (.lp dp s [P.nat 12] cT cD .busy ab 3)->
   t.g 3=.c (.ptr 0 0 0)->t.g 6=.c (.ptr 1 0 0)->t.g 7=.c (.ptr 2 0 0)->t.g 9=vi d->t.g 10=vb f->WP tab dp (aa 4) [.code DK,.inBlock 1] ⟨t,[],l⟩ X:=by
  rintro t l q0 O A q3 W e3 I y J u;have l1:=aj O;have l2:=aj A;have bS:(f=ae/\(found=ag\/d<j)->False)->QH (l.set 4 (.lp dp s [P.nat 12] cT cD .ready ab 3)) n (if f=ae/\(found=ag\/d<j)then d else j) (found||f):=by
   intro x;have hf:(found||f)=found:=by
    cases f<;>cases found<;>simp at x ⊢
   rw[cC x,hf];exact⟨by rw[sh ce];exact q0,by rw[sh ce];exact O,by rw[sh ce];exact A,by rw[sh ce];exact q3,s,By (aj W),v,K,L⟩
  have c9:(l.set 1 (.box [Z d] 0))[2]?=E [.f (.bool found)]:=by rw[sh ce];exact A
  have N:(f=ae/\(found=ag\/d<j))->QH (((l.set 1 (.box [Z d] 0)).set 2 (.box [.f (.bool ae)] 0)).set 4 (.lp dp s [P.nat 12] cT cD .ready ab 3)) n (if f=ae/\(found=ag\/d<j)then d else j) (found||f):=by
   intro m;have hf:(found||f)=ae:=by rw[m.1];simp
   rw[ct m,hf];refine⟨?_,?_,?_,?_,s,By (by simp;exact aj W),v,K,L⟩
   .rw[sh ce,sh ce,sh ce];exact q0
   .rw[sh ce,sh ce,By l1]
   .rw[sh ce,By (by simpa using l2)]
   .rw[sh ce,sh ce,sh ce];exact q3
  have done:∀B:T,(f=ae/\(found=ag\/d<j)->False)->WP tab dp (aa 4) [.inBlock 1] ⟨B,[],l⟩ X:=by
   intro B x;refine au (cN (M _ _ _ _ _ _ _ _ _ _ rfl W ⟨rfl,?_⟩));have:=bS x;rw[show(l.set 4 (.lp dp s [P.nat 12] cT cD .ready ab 3))=l.set 4 (.lp dp s [P.nat 12] cT cD (if(ab:Option aD).isNone=ae then .ready else .done) ab 3) from rfl]at this;exact this
  have q:∀B:T,B.g 6=.c (.ptr 1 0 0)->B.g 7=.c (.ptr 2 0 0)->B.g 9=vi d->(f=ae/\(found=ag\/d<j))->WP tab dp (aa 4) [.code DL,.inBlock 1] ⟨B,[],l⟩ X:=by
   intro B I y J m;refine aF (.inr rfl) ?_;simp[I,y,J,O,A,c9];refine au (cN (M _ _ _ _ _ _ _ _ _ _ rfl (by rw[sh ce,sh ce];exact W) ⟨rfl,?_⟩));exact N m
  apply aE;cases f with
  |false=>
   refine aF (.inr rfl) ?_;simp[y,u,A];refine aC bv (aQ (done _ bv))
  |true=>
   cases found with
   |false=>
    refine aF (.inr rfl) ?_;simp[y,u,A];refine aq bv (q _ (by simp[I]) (by simp[y]) (by simp[J]) bv)
   |true=>
    by_cases k:d<j
    .refine aF (.inr rfl) ?_;simp[I,y,J,u,O,A,k];refine aq bv (q _ (by simp[I]) (by simp[y]) (by simp[J]) (by simp[k]))
    .refine aF (.inr rfl) ?_;simp[I,y,J,u,O,A,k];refine aC bv (aQ (done _ (by simp[k])))
 refine aF (.inr rfl) ?_;simp;refine eM Y ?_;have b0:(H.set 4 (.lp dp s [P.nat 12] cT cD .busy ab 3))[0]?=E [Z n]:=by rw[sh ce];exact h0
 have b1:(H.set 4 (.lp dp s [P.nat 12] cT cD .busy ab 3))[1]?=E [Z j]:=by rw[sh ce];exact h1
 have Q:(H.set 4 (.lp dp s [P.nat 12] cT cD .busy ab 3))[2]?=E [.f (.bool found)]:=by rw[sh ce];exact h2
 have S:(H.set 4 (.lp dp s [P.nat 12] cT cD .busy ab 3))[3]?=aa (.dH ae):=by rw[sh ce];exact h3
 have U:(H.set 4 (.lp dp s [P.nat 12] cT cD .busy ab 3))[4]?=aa (.lp dp s [P.nat 12] cT cD .busy ab 3):=By a_;generalize H.set 4 (.lp dp s [P.nat 12] cT cD .busy ab 3)=l at b0 b1 Q S U;apply ax;refine aE (aF (.inr rfl) ?_);simp[v,b0,he];apply aE;rcases hc with⟨rfl,rfl,rfl⟩|⟨rfl,rfl,b,z,hc⟩
 .refine aE (aF (.inr rfl) ?_);simp;refine bG bv ?_;exact F _ _ b0 b1 Q S U (by simp[v]) (by simp[K]) (by simp[L]) bv bv
 .rcases hc with⟨rfl,rfl,rfl⟩|⟨rfl,hl⟩
  .refine aE (aF (.inr rfl) ?_);simp[v,b0,z,show n<=1152921504606846976 by omega];refine bG bv ?_;exact F _ _ b0 b1 Q S U (by simp[v]) (by simp[K]) (by simp[L]) bv bv
  .refine aE (aF (.inr rfl) ?_);simp[v,b0,z,show n<=1152921504606846976 by omega];refine aq bv ?_;refine aF (.inr rfl) ?_;simp[v,b0,hl];exact F _ _ b0 b1 Q S U (by simp[v]) (by simp[K]) (by simp[L]) bv bv
def mD(x:FC):bf tab PJ [G x]=Eq (G (.fn gG [.fp [x] 0])):=by
 refine bf.eq (bD rfl rfl λQ b=>?_);apply ai;simp;apply ai;simp;refine av (b _ _ ?_);simp[deep]
def Ce{b:Nat}(g:Tg)(ts:List cU)(M:ts.length<=1000000)(PP:Nat->an->Prop)(F:PP 0 H)
  (L:∀j (q:j<ts.length) H,PP j H->∃r H',Ev tab (.yield b) [G (sl ts[j].tg (aM ts[j].fs))] H r H'/\(r=vb ae/\PP (j+1) H')) :
  ∃r A,Ev tab (.fn gG) [.c (.yl b),G (.fp [sl g (aI ts)] 0)] H r A/\(r=.t []/\PP ts.length A):=by
 refine dc rfl rfl λQ K=>?_;apply ai;simp[lU];refine bW ts.length (λj s J=>s.g 0=.c (.yl b)/\s.g 5=G (sl g (aI ts))/\PP j J) ap ce ce bv bv ⟨bv,bv,F⟩ ?_ ?_
 .rintro j s J q ⟨u,v,x⟩ y B next
  have m:=λH:an=>gM (H:=H) (eV ts) (gF (l:=ts) (j:=j) q) rfl;have d:=λH:an=>bu (H:=H) (g:=g) (rows:=aI ts) (sz:=1) (k:=.i64) (i:=j) ap (by simpa using q);simp at m d;obtain⟨r,H',z,rfl,I⟩:=L j q J x;apply ax;apply ai;simp[v,y,d,m];apply ai;simp[u,z.eq];refine bG bv ?_;refine au (next _ _ ?_ (by simp[y]) (by simp[B]));exact⟨by simp[u],by simp[v],I⟩
 .rintro s J ⟨u,v,x⟩ y B;exact cN (K _ _ _ rfl rfl ⟨rfl,x⟩)
def sH(ts:List cU)(n x:Int):Prop:=∃t∈ts,GW t.fs n x
def Rw(g:Tg)(ts:List cU)(K:ts.length<=1000000)(X:∀t∈ts,pF t.fs)(n:Int)(a:0<=n)(I:n<=1000000000000):∃d f,iQ (sH ts n) d f/\(0<=d/\d<=1000001000000)/\
  bf tab dp [G (.fn gG [.fp [sl g (aI ts)] 0]),vi n]=Eq (.t [vi d,vb f]):=by
 have key:∃r,(∃d f,iQ (sH ts n) d f/\(0<=d/\d<=1000001000000)/\r=.t [vi d,vb f])/\bf tab dp [G (.fn gG [.fp [sl g (aI ts)] 0]),vi n] r:=by
  refine iX Qi rfl λQ Y=>?_;have v:∀s:T,s.g 3=.c (.ptr 0 0 0)->s.g 6=.c (.ptr 1 0 0)->s.g 7=.c (.ptr 2 0 0)->s.g 11=G (.fn gG [.fp [sl g (aI ts)] 0])->
    WP tab dp ab [.code Cp,.inBlock 0,.code xU] ⟨s,[],[.box [Z n] 0,.box [Z 0] 0,.box [.f (.bool ag)] 0]⟩ Q:=by
   intro s W M N y;obtain⟨r,u,U,rfl,l,found,⟨-,k,o,p,L,w,-⟩,q,O⟩:=Ce (b:=4) (H:=[.box [Z n] 0,.box [Z 0] 0,.box [.f (.bool ag)] 0,.dH ae,.lp dp s [P.nat 12] cT cD .ready ab 3]) g ts K
    (λj H=>∃l found,QH H n l found/\iQ (sH (ts.take j) n) l found/\(0<=l/\l<=1000001000000))
    ⟨0,ag,⟨rfl,rfl,rfl,rfl,s,rfl,W,M,N⟩,.inl ⟨rfl,rfl,λd hd=>by obtain⟨t,m,-⟩:=hd;simp at m⟩,ap,ap⟩ λj S H ⟨l,found,A,q,O⟩=>by
     obtain⟨d,f,F,hd,c⟩:=EO ts[j].tg ts[j].fs (X _ (IN S)) n a I;obtain⟨r,H',B,rfl,z⟩:=c H l found A;have J:ts.take (j+1)=ts.take j++[ts[j]]:=by rw[agV,BY S];rfl
     refine⟨_,H',B,rfl,_,_,z,iQ.join q F λx=>?_,?_⟩
     .unfold sH;rw[J];constructor
      .rintro⟨t,m,h⟩;rcases agP.1 m with m|m
       .exact .inl ⟨t,m,h⟩
       .rw[If.1 m]at h;exact .inr h
      .rintro(⟨t,m,h⟩|h)
       .exact⟨t,ahu _ m,h⟩
       .exact⟨_,List.mem_append_right _ (If.2 rfl),h⟩
     .split<;>omega
   rw[agW]at q;refine dC (g:=gG) (by rw[mF,y];simp[cr]) U ?_;refine dX w ce ?_;apply au;apply ai;have e:(u.set 4 (.lp dp L [P.nat 12] cT cD .exhausted ab 3))[1]?=E [Z l]:=by rw[sh ce];exact k
   have i:(u.set 4 (.lp dp L [P.nat 12] cT cD .exhausted ab 3))[2]?=E [.f (.bool found)]:=by rw[sh ce];exact o
   have v3:(u.set 4 (.lp dp L [P.nat 12] cT cD .exhausted ab 3))[3]?=aa (.dH ae):=by rw[sh ce];exact p
   simp[M,N,e,i];refine av (Y _ _ _ ⟨l,found,q,O,rfl⟩ (.inr ⟨3,rfl,v3,.t [vi l,vb found],?_,by simp[jd,dq,bC]⟩));simp[Km.results,cB,bC]
  apply ai;simp;apply ai;simp;apply aU;simp;apply ax;exact v _ bv bv bv bv
 obtain⟨r,⟨d,f,q,hd,rfl⟩,h⟩:=key;exact⟨d,f,q,hd,h.eq⟩
def UR(g:Tg)(ts:List cU)(j:iH ts=ae)(s:∀t∈ts,pF t.fs)(n:Int)(y:0<=n)(l:n<=1000000000000):∃d f,iQ (sH ts n) d f/\(0<=d/\d<=1000001000000)/\
  bf tab PU [.a [.f (sl g (aI ts))],vi n]=Eq (.t [vi d,vb f]):=by
 obtain⟨F,m⟩:=rA j;obtain⟨d,f,x,hd,v⟩:=Rw g ts ap s n y l;refine⟨d,f,x,hd,bf.eq (bD rfl rfl λQ u=>?_)⟩;have b:=Da g ts ap (λt q=>⟨by have:=(iA (m t q)).2.1;omega,λp z=>jL ((iA (m t q)).2.2 p z)⟩);rw[j]at b;have A:=mD (sl g (aI ts));have B:max n 0=n:=ii
 apply ai;simp;apply aU;simp[b];refine bG bv ?_;apply ai;simp[A,B,v];refine av (u _ _ ?_);simp
def zT(j l m:FC)(len g d:Int)(v:0<=len)(q:len<=10080)(x:-4320<=g)(s:g<=4320) :
  bf tab Vo [.a [.f j,Z len,.f l],.a [.f m,Z g],vi d]=Eq (vb (decide (d<=(2251799813685248-g-len) / 1440))):=Kf.eq (by
 refine dd rfl rfl λH Q u=>?_;apply ai;simp;apply ai;simp[a8 (n:=2251799813685248-g),a8 (n:=2251799813685248-g-len),eI (a:=2251799813685248-g-len) (b:=1440) ap ap ap];refine av (u _ _ ?_);simp)
structure acq(ts:List cU):Prop where
 v:iH ts=ae
 f:∀t∈ts,pF t.fs
def nJ:bV->Bool
 | .dz _ _ _ _ _=>ag| _=>ae
def LI(H:an)(c:C)(o:List aA):Prop:=(o=[]/\c=.f .aN)\/(o≠[]/\∃b d,c=.sl b 0 o.length 0 d 3/\RB H b 3 d (ay o))
theorem LI.push{H:an}{c:C}{o:List aA}(h:LI H c o)(J:an):LI (H++J) c o:=by
 rcases h with h|⟨h,b,d,h1,h2⟩
 .exact .inl h
 .exact .inr ⟨h,b,d,h1,h2.push J⟩
def Al(o:List aA)(x:aA):(ay (o++[x])).flatten=(ay o).flatten++x.row:=by simp[ay]
def LI.app(h:LI H c o)(hl:o.length<=1000000){b1 fl:Nat}{x:aA}(m:H[b1]?=aa (.box (x.row.map .f) fl)) :
  ∃q H',bZ H 3 24 (.c c) (.c (.sl b1 0 1 1 0 3))=aa (.c q,H')/\LI H' q (o++[x])/\H.length<=H'.length/\∀(i:Nat) y,H[i]?=aa y->nJ y=ae->H'[i]?=aa y:=by
 have g:dI H 3 (.c (.sl b1 0 1 1 0 3))=aa (1,x.row.map .f):=kh m (by rfl);rcases h with⟨rfl,rfl⟩|⟨v,b,j,rfl,h2⟩
 .have d:cF 1 24=ae:=by simp[cF]
  refine⟨.sl H.length 0 1 0 0 3,H++[.dz 3 (x.row.map .f) 0 0 .loc],?_,.inr ⟨bv,H.length,0,bv,?_⟩,bv,λi y hy _=>by rw[AI (aj hy)];exact hy⟩
  .simp[bZ,g,d]
  .unfold RB;simp[ay]
 .have d:cF (o.length+1) 24=ae:=md
  have s:o.length*3=(ay o).flatten.length:=by rw[cz (bI o),gK]
  unfold RB at h2;refine⟨.sl b 0 (o.length+1) 0 (j+1) 3,H.set b (.dz 3 ((ay o).flatten.map .f++x.row.map .f) 0 (j+1) .loc),?_,.inr ⟨bv,b,j+1,bv,?_⟩,bv,λi y hy u=>?_⟩
  .have l:(3:Nat)≠0:=pi
   simp only[bZ,g,l,if_false,h2,and_self,if_true]
   grind
  .unfold RB;rw[By (aj h2),Al,ahQ]
  .have:b≠i:=by rintro rfl;rw[h2]at hy;cases hy;cases u
   simp_all
def acs{R:List aA}(h:RB H N 3 F (ay (o++R))):fv (n+1) H (.sl N 0 o.length 0 F 3)=aa (sl .fs (ay o)):=by
 unfold RB at h;have g:o.length*3=(ay o).flatten.length:=by rw[cz (bI o),gK]
 have e:(ay (o++R)).flatten=(ay o).flatten++(ay R).flatten:=by simp[ay]
 simp only[gR,h];rw[ct ⟨trivial,trivial,by rw[agS,e,agM];omega⟩,e,ahR,ahQ,List.take_append_of_le_length (by rw[agS];omega),agY (by rw[agS];omega)];rw[kr];cases o with
 |nil=>simp[sl,ay,Tg.fc]| cons x o=>simp[sl,ay]
def Er:∃r H',Ev tab (.fn Cx) [G .aN] H r H'/\(r=G .aN/\H'=H):=by
 refine dc rfl rfl λQ b=>?_;apply ai;simp;apply aU;simp[bA];refine aq bv ?_;apply ai;simp;exact av (b _ _ _ rfl (dx bv) ⟨rfl,rfl⟩)
def ng:List Nat->an->an
 |[],H=>H| b::bs,H=>ng bs (H.set b (.dH ag))
structure eQ(bs:List Nat)(H:an):Prop where
 nd:bs.Nodup
 on:∀b∈bs,H[b]?=aa (.dH ae)
theorem nM{call:eC}:∀{bs:List Nat} {H:an},eQ bs H->gd call (bs.map .dR) H=aa (ng bs H)
 |[],H,_=>rfl
 |b::bs,H,h=>by
  have j:=h.on b agR;have d:=aiX.1 h.nd;simp only[IT,gd,j,ng];exact nM ⟨d.2,λx g=>by rw[sh (by rintro rfl;exact d.1 g)];exact h.on x (agU _ g)⟩
theorem iv:∀{bs:List Nat} {H:an} {i:Nat},i ∉ bs->(ng bs H)[i]?=H[i]?
 |[],_,_,_=>rfl
 |b::bs,H,i,h=>by
  simp only[ag8,not_or]at h;rw[ng,iv h.2,sh (Ne.symm h.1)]
def P8(b:List jZ)(r:V)(s:St):Prop:=∃bs,s.defs=bs.map .dR/\eQ bs s.heap/\∃d,Km.results s.aT (ng bs s.heap) b=aa d/\jd deep (ng bs s.heap) d=aa r
def oy{args:List V}{S:V->Prop}{b:List jZ}{body:aD}(z:tab N=aa ⟨X,b,body⟩)(x:args.length=X.length)
  (h:∀Q:Option aD->St->Prop,(∀j s r,S r->P8 b r s->Q j s)->WP tab N ab [.code body] ⟨dw X args .e,[],[]⟩ Q):∃r,S r/\bf tab N args r:=by
 have q:=h (λ_ s=>∃r,S r/\P8 b r s) λ_ _ r g l=>⟨r,g,l⟩
 obtain⟨n,m,d,j,s,g,r,y,bs,hd,v,A,l,u⟩:=q;exact⟨r,y,A,ng bs s.heap,se z x ⟨n,m,d,j,s,g,0,0,_,by rw[hd];exact nM v,l,rfl⟩,u⟩
def eQ.push(h:eQ k H)(J:an):eQ k (H++J):=⟨h.nd,λb hb=>by rw[AI (aj (h.on b hb))];exact h.on b hb⟩
def eQ.bS{H':an}(h:eQ k H)(d:∀(i:Nat) y,H[i]?=aa y->nJ y=ae->H'[i]?=aa y):eQ k H':=⟨h.nd,λb hb=>d b _ (h.on b hb) rfl⟩
theorem eQ.set{bs:List Nat}{H:an}(h:eQ bs H){i:Nat}{y z:bV}(hi:H[i]?=aa y)(hy:y≠.dH ae):eQ bs (H.set i z):=⟨h.nd,λb hb=>by
 have:=h.on b hb
 grind⟩
def eQ.not(h:eQ k H){y:bV}(hi:H[n]?=aa y)(hy:y≠.dH ae):n ∉ k:=λhb=>by
 have:=h.on n hb;simp_all
theorem fq:∀(l:List Int) (a k:Int),l.Pairwise (· < ·)->(∀x∈l,a<=x/\x<a+k)->(l.length:Int)<=max k 0
 |[],_,_,_,_=>by simp;omega
 |x::l,a,k,g,h=>by
  have j:=h x agR;have b:=ahH.1 g;have:=fq l (x+1) (a+k-x-1) b.2 λy d=>⟨by have:=b.1 y d;omega,by have:=h y (agU _ d);omega⟩
  simp only[ahk];omega
structure yp(s:aG):Prop where
 v:ij s=ae
 cn:s.cs.length<=3
 cl:∀c∈s.cs,acq c.ts
 xn:s.xs.length<=4
theorem tZ:∀{l:List cM} {o:Option Int},fk o l=ae->∀c∈l,iH c.ts=ae/\-4320<=c.min/\c.min<=4320
 |c::l,o,h,x,d=>by
  simp only[fk,IS]at h;obtain⟨⟨⟨g,b⟩,-⟩,j⟩:=h;rcases ag8.1 d with rfl|d
  .unfold bR at b;simp at b;exact⟨g,b.1,b.2⟩
  .exact tZ j x d
theorem yp.len{s:aG}(h:yp s):1<=s.len/\s.len<=10080:=by
 have:=h.v;simp[ij,bR]at this;omega
theorem yp.min{s:aG}(h:yp s){c:cM}(hc:c∈s.cs):-4320<=c.min/\c.min<=4320:=by
 have:=h.v;simp only[ij,IS]at this;exact(tZ this.1.2 c hc).2
def wg(h:iH I=ae):∀t∈I,t.Sm:=λt d=>by
 obtain⟨-,b⟩:=rA h;exact⟨by have:=(iA (b t d)).2.1;omega,λp g=>jL ((iA (b t d)).2.2 p g)⟩
def yp.sm{s:aG}(h:yp s):s.Sm:=by
 have h1:=h.cn;have h2:=h.xn;refine⟨ap,ap,λc hc=>⟨?_,wg (h.cl c hc).v⟩⟩;have:=(rA (h.cl c hc).v).1;omega
def P9(c:cM)(len:Int)(x:aA):Prop:=∃d,sH c.ts 0 d/\x=bU len c.min d
def dM(s:aG)(x:aA):Prop:=(∃c∈s.cs,P9 c s.len x)\/x∈s.xs
theorem rC{limit:Int}:∀{l:List Int} {last:Int},(∀x∈l,last<x/\x<limit)->l.Pairwise (· < ·)->cK limit last l=ae
 |[],_,_,_=>rfl
 |n::r,last,h,b=>by
  have d:=h n agR;rw[ahH]at b;simp only[cK,decide_eq_true d.1,decide_eq_true d.2,ahJ];exact rC (λx g=>⟨b.1 x g,(h x (agU _ g)).2⟩) b.2
inductive Fa2{α β:Type}(R:α->β->Prop):List α->List β->Prop
 |nil:Fa2 R [] []
 |cons {a b l m}:R a b->Fa2 R l m->Fa2 R (a::l) (b::m)
def Fy(n m:Int)(g:0<m)(j:m<=4611686018427387904):bf tab XG [vi n,vi m]=Eq (vi (n % m)):=Kf.eq (by
 have u:=aiU n g;have v:=aiT n g;have b:de .rem (vi n) (vi m)=aa (vi (n.tmod m)):=dD ap;have e:n % m=if n.tmod m<0 then n.tmod m+m else n.tmod m:=by
  rw[Int.emod_eq_tmod];have l:((m.natAbs:Nat):Int)=m:=ii
  by_cases h:0<=n\/m ∣ n
  .rw[ct h];rcases h with h|h
   .have:=Int.tmod_nonneg m h;rw[cC ap];omega
   .rw[aiR h];simp
  .rw[cC h];have q:n.tmod m≠0:=λk=>h (.inr (aje k));have s:n.tmod m<=0:=by
    have:=Int.tmod_nonneg m (show 0<=-n by omega);rw[Int.neg_tmod]at this;omega
   rw[ct ap];omega
 refine dd rfl rfl λH Q d=>?_;apply ai;simp;apply aU;simp[b];apply ai;by_cases k:n.tmod m<0
 .simp[k];refine aq bv (aF (.inl rfl) ?_);simp[a8 (n:=n.tmod m+m)];apply ai;simp;refine av (d _ _ ?_);simp[e,k]
 .simp[k];refine bG bv ?_;apply ai;simp;refine av (d _ _ ?_);simp[e,k])
def U8:tab.get v8=ab:=io
def Hw(l:List Int):(ints l).flatten.map C.f=l.map λn=>C.f (fi n):=by
 unfold ints;induction l with
 |nil=>rfl| cons x l b=>simp at b;simp[b]
def Hu(l:List Int):yY ((ints l).flatten.map .f)=aa l:=by
 rw[Hw];unfold yY;induction l with
 |nil=>rfl| cons x l b=>simp[bC,b]
def SG(M:LR H w 1 (ints l))(N:l.length<=16777215) :
  ∃r H',Ev tab (.fn PI) [.c w] H r H'/\(r=.t []/\Kb H H' w/\∃B,LR H' w 1 (ints B)/\B.Perm l/\B.Pairwise (·<=·)):=by
 have key:∀r H',FX H w=aa (r,H')->Ev tab (.fn PI) [.c w] H r H':=λr H' h=>by
  refine⟨0,1,?_⟩;have g:tab.Gh v8 [.c w] H=aa (aa (r,H')):=by
   show(match tab.get v8 with|some _=>ab|none=>Km.Gh v8 [.c w] H)=_;rw[U8];simp[Gh,h]
  show CF tab 0 1 (.fn v8) _ _=_;simp only[CF,iW,g]
 rcases M with⟨I,h⟩|⟨z,b,q,rfl,j⟩
 .have:l=[]:=by cases l with
   |nil=>rfl| cons a l=>simp[ints]at I
  subst this;exact⟨.t [],H,key _ _ (by rcases h with rfl|rfl<;>rfl),rfl,⟨agQ _,λi y A _=>A⟩,[],.inl ⟨rfl,h⟩,.refl _,.nil⟩
 .have d:(ints l).length=l.length:=ol
  have g:(vk l).Perm l:=List.mergeSort_perm _ _;have s:((ints l).flatten.map C.f).length=l.length:=by rw[Hw];simp
  have L:((vk l).map λn=>C.f (.int .i64 n))=(ints (vk l)).flatten.map .f:=(Hw _).symm;have u:=aj j;obtain⟨m,F⟩:∃m,l.length=m+1:=by
   cases l with
   |nil=>exact absurd rfl z| cons a l=>exact⟨_,rfl⟩
  have K:FX H (.sl b 0 (ints l).length 0 q 1)=aa (.t [],H.set b (.dz 1 ((vk l).map λn=>.f (.int .i64 n)) 0 q .loc)):=by
   unfold FX;rw[j.len,d,F];unfold RB at j;simp only[j,s,Hu,ahs];rw[ct ⟨trivial,trivial,trivial,trivial,F,trivial,ap⟩]
  refine⟨_,_,key _ _ K,rfl,⟨bv,λi y A hi=>?_⟩,vk l,.inr ⟨?_,b,q,by rw[d];simp[ints,g.length_eq],?_⟩,g,?_⟩
  .rw[sh (λe=>hi (by rw[<-e];rfl))];exact A
  .intro e;have J:(ints (vk l)).length=0:=by rw[e];rfl
   rw[yZ,g.length_eq]at J;omega
  .unfold RB;rw[L,By u]
  .have:=List.pairwise_mergeSort (le:=λx y:Int=>decide (x<=y)) (by intro a b c;simp;omega) (by intro a b;simp;omega) l;exact aiZ (λh=>by simpa using h) this
structure Qc(l:List Int)(k:Nat)(d:Int):Prop where
 rep:∀i,k<=i->(h:i<l.length)->l[i]=l[i-k]'(by omega)+d
 last:∀h:k-1<l.length,l[k-1]<d
def Ka(s:0<n)(g:Qc l n d):∀(t j:Nat),j<n->(h:t*n+j<l.length)->l[t*n+j]=l[j]'(Nat.lt_of_le_of_lt (Nat.le_add_left _ _) h)+t*d:=by
 intro t;induction t with
 |zero=>intro j b h;simp
 |succ t u=>
  intro j b h;have e:(t+1)*n+j=t*n+j+n:=by rw[Nat.add_mul];omega
  have m:t*n+j<l.length:=ii
  have q:=g.rep (t*n+j+n) ap ap
  grind
def kY(g:l.Pairwise (· < ·)){i j:Nat}(b:i<=j)(d:j<l.length):l[i]<=l[j]:=by
 rcases ahS i j with h|h
 .exact Int.le_of_lt (ahn.1 g i j ap d h)
 .grind
structure yk(aO:Int)(l:List Int)(Fq:Int)(l':List Int):Prop where
 p1:1<=Fq
 dvd:Fq ∣ aO
 ne:l'≠[]
 len:l'.length<=l.length
 up:l'.Pairwise (· < ·)
 mem:∀x∈l',0<=x/\x<Fq
 iff:∀r,0<=r->r<aO->(r∈l↔r % Fq∈l')
def IA{aO:Int}(K:l.Pairwise (· < ·))(k:∀x∈l,0<=x/\x<aO)(X:1<=aO)(z:0<N)(J:l.length=F*N)(hd:aO=F*d)(H:Qc l N d)(f:0<l.length):yk aO l d (l.take N):=by
 have B:0<F:=by
  simp_all
 have M:N<=l.length:=by rw[J];exact Nat.le_mul_of_pos_left N B
 have v:1<=d:=by
  rcases ah0 d 1 with h|h
  .have:=ajd (a:=-(F:Int)) (b:=d) ap ap
   grind
  .exact h
 have A:=H.last ap;have I:∀j,(h:j<N)->0<=l[j]'(by omega)/\l[j]'(by omega)<d:=λj h=>by
  have a:=(k _ (IN (l:=l) (n:=j) ap)).1;have b:=kY K (i:=j) (j:=N-1) ap ap;omega
 refine⟨v,⟨F,by rw[hd,ah4]⟩,?_,ge,K.sublist (List.take_sublist N l),?_,?_⟩
 .intro h;have:=congrArg List.length h
  grind
 .intro x Q;obtain⟨j,L,rfl⟩:=ahE.1 Q
  grind
 .intro r U W;constructor
  .intro g;obtain⟨i,hi,rfl⟩:=ag1 g;have q:=Nat.div_add_mod i N;have m:=Nat.mod_lt i z;have c:i / N*N+i % N=i:=by rw[ai1];exact q
   have u:=Ka z H (i / N) (i % N) m ap;have e:l[i / N*N+i % N]'(by omega)=l[i]:=by congr 1
   rw[e]at u;obtain⟨a,b⟩:=I (i % N) m;rw[u,Int.add_mul_emod_self_right,ahG a b];exact ahE.2 ⟨i % N,ap,rfl⟩
  .intro g;obtain⟨j,L,e⟩:=ahE.1 g;have y:j<N:=ii
   have S:0<=r / d:=ahC U ap;have p:r / d<F:=Int.ediv_lt_of_lt_mul ap (by rw[<-hd];exact W);obtain⟨t,o⟩:∃t:Nat,(t:Int)=r / d:=⟨(r / d).toNat,Int.toNat_of_nonneg S⟩
   have O:t<F:=ii
   have s:t*N+j<l.length:=by
    rw[J];have:(t+1)*N<=F*N:=Nat.mul_le_mul_right N ap
    grind
   have u:=Ka z H t j y s;have Y:=ag2 r d
   grind
def Iz(j:l.Pairwise (· < ·))(g:∀x∈l,0<=x/\x<a)(b:1<=a)(d:0<l.length):yk a l a l:=
 ⟨b,ah3 _,ahf.1 d,agQ _,j,g,λr m q=>by rw[ahG m q]⟩
def U1(g:Tg)(l:List Int)(aO:Int)(q:Nat)(H:an)(h0:H[0]?=E [Z aO])(O:H[1]?=E [.f (sl g (ints l))])(S:H[2]?=E [Z l.length])
  (f_:1<=aO) (g_:aO<=4611686018427387904) (hl:l.length<=1000000) (X:∀x∈l,0<=x/\x<aO) (h_:1<=q) (Y:q<=l.length) :
  ∃r H',Ev tab (.fn Gn) [vi q,.c (.ptr 0 0 0),.c (.ptr 2 0 0),.c (.ptr 1 0 0)] H r H'/\(∃b,r=vb b/\H'=H/\(b=ae->Qc l (l.length / q) (aO / q))):=by
 obtain⟨d,hd⟩:=aH (aO / (q:Int));obtain⟨k,J⟩:=aH (l.length / q);have b_:0<=d:=by rw[hd];exact ahC ap ap
 have c9:d<=aO:=by rw[hd];exact aic _ ap
 have d_:1<=k:=by rw[J];exact Nat.div_pos Y ap
 have W:k<=l.length:=by rw[J];exact Nat.div_le_self _ _
 have c:de .quo (vi aO) (vi q)=aa (vi d):=by rw[eI ap ap ap,hd]
 have e:de .quo (vi l.length) (vi q)=aa (vi k):=by rw[eI ap ap ap,J];rfl
 refine dc rfl rfl λQ p=>?_;apply ai;simp;apply ai;simp[h0,S,c,e];apply aU;simp;apply ax;refine di (λm s=>∃(i:Nat) (t:T),s=⟨t,[],H⟩/\m=l.length-i/\k<=i/\i<=l.length/\t.g 1=.c (.ptr 0 0 0)/\t.g 2=.c (.ptr 2 0 0)/\t.g 3=.c (.ptr 1 0 0)/\t.g 6=vi d/\t.g 7=vi k/\t.g 8=vi i/\
  ∀j,k<=j->j<i->(h:j<l.length)->l[j]=l[j-k]'(by omega)+d) (l.length-k)
  ⟨k,_,rfl,rfl,ap,W,bv,bv,bv,bv,bv,bv,λj O S=>by omega⟩ ?_
 rintro m s ⟨i,t,rfl,rfl,e_,d9,w,o,K,L,M,N,F⟩ ih;apply aU;simp[o,N,S];by_cases v:i<l.length
 .refine aq (by simp[v]) (aQ ?_);apply aE;apply ax;have a_:=X _ (IN v);have B:i-k<l.length:=ii
  have U:=X _ (IN B);have u:=λH:an=>bu (H:=H) (g:=g) (rows:=ints l) (sz:=1) (k:=.i64) (i:=(i:Int)) ap ip;have I:=λH:an=>bu (H:=H) (g:=g) (rows:=ints l) (sz:=1) (k:=.i64) (i:=((i:Int)-k)) ap ip;have z:=λH:an=>dY (H:=H) v;have f:=λH:an=>dY (H:=H) B;simp at u I;apply ai;simp[K,L,M,N,O,u,z,a8 (n:=(i:Int)-k),I,f,a8 (n:=l[i-k]+d)];by_cases A:l[i]=l[i-k]+d
  .refine bG (by simp[A]) ?_;refine au (aF (.inl rfl) ?_);simp[N,a8 (n:=(i:Int)+1)];refine ih (l.length-(i+1)) _ ap ⟨i+1,_,rfl,rfl,ap,ap,by simp[w],by simp[o],by simp[K],by simp[L],by simp[M],bv,λj a b h=>?_⟩
   grind
  .refine aq (by simp[A]) ?_;apply ai;simp;exact av (p _ _ _ rfl (dx bv) ⟨ag,rfl,rfl,bv⟩)
 .have c_:i=l.length:=ii
  refine aC (by simp[v]) ?_;refine bQ rfl ?_;have y:k-1<l.length:=ii
  have U:=X _ (IN y);have u:=λH:an=>bu (H:=H) (g:=g) (rows:=ints l) (sz:=1) (k:=.i64) (i:=((k:Int)-1)) ap ip;have z:=λH:an=>dY (H:=H) y;simp at u;apply ai;simp[K,L,M,O,u,z,a8 (n:=(k:Int)-1)];refine av (p _ _ _ rfl (dx bv) ⟨decide (l[k-1]<d),rfl,rfl,λhb=>?_⟩);rw[<-J,<-hd];exact⟨λj a h=>F j a ap h,λ_=>by simpa using hb⟩
def V4{g:Tg}{rows:List (List FC)}{m:Nat}(u:cZ n rows)(z:m<=rows.length)(v:rows≠[]) :
  cJ H n (G (sl g rows)) ab (aa (vi m)) ab=aa (G (sl .fs (rows.take m))):=by
 cases rows with
 |nil=>exact absurd rfl v
 |cons x r=>
  have b:Gd (vi m) (x::r).length=aa m:=by
   have:(0:Int)<=(m:Int)/\(m:Int)<=((x::r).length:Int):=⟨ap,ap⟩
   show(if(0:Int)<=(m:Int)/\(m:Int)<=((x::r).length:Int)then aa (m:Int).toNat else ab)=aa m;rw[ct this,ag7]
  have j:cG (x::r).length (x::r).length ab (aa (vi m)) ab=aa (0,m,(x::r).length):=by
   simp only[ahk]at b;simp[cG,b]
  show cJ H n (G (.fs (x::r).flatten (x::r).length)) _ _ _=_;simp only[cJ,j];have l:((x::r).flatten.drop (0*n)).take ((m-0)*n)=((x::r).take m).flatten:=by
   rw[Nat.zero_mul,ahR,Nat.sub_zero,rK m u]
  have d:((x::r).take m).length=m:=by rw[ahl];omega
  rw[l];have s:sl .fs ((x::r).take m)=.fs ((x::r).take m).flatten (m-0):=by
   rw[Nat.sub_zero];cases hd:(x::r).take m with
   |nil=>rw[hd]at d;simp at d;rw[<-d];rfl| cons y q=>rw[hd]at d;rw[<-d];rfl
  rw[s];simp
def Bu(l:List Int)(k:Nat):(ints l).take k=ints (l.take k):=by simp[ints,List.map_take]
def JN(h:0<l.length):ints l≠[]:=by cases l with
 |nil=>simp at h| cons a l=>simp[ints]
def IB(g:Tg)(l:List Int)(aO:Int)(F:1<=aO)(c9:aO<=4611686018427387904)(B:0<l.length)(hl:l.length<=1000000)(N:l.Pairwise (· < ·))(Y:∀x∈l,0<=x/\x<aO) :
  ∃j g' I,yk aO l j I/\bf tab Gm [vi aO,G (sl g (ints l))]=Eq (.t [vi j,G (sl g' (ints I))]):=by
 have key:∃r,(∃j g' I,yk aO l j I/\r=.t [vi j,G (sl g' (ints I))])/\bf tab Gm [vi aO,G (sl g (ints l))] r:=by
  refine dE rfl rfl λQ hQ=>?_;apply ai;simp;apply ai;simp;apply ai;simp;apply aU;simp;obtain⟨H,O⟩:=aH ([.box [Z aO] 0,.box [.f (sl g (ints l))] 0,.box [Z l.length] 0]:an);have L:H[0]?=E [Z aO]:=by rw[O];rfl
  have W:H[1]?=E [.f (sl g (ints l))]:=by rw[O];rfl
  have M:H[2]?=E [Z l.length]:=by rw[O];rfl
  rw[<-O];apply ax;refine di (λm s=>∃t:T,s=⟨t,[],H⟩/\1<=m/\m<=l.length/\t.g 2=.c (.ptr 0 0 0)/\t.g 3=.c (.ptr 1 0 0)/\t.g 6=.c (.ptr 2 0 0)/\t.g 7=.c (.cl Gn [.ptr 0 0 0,.ptr 2 0 0,.ptr 1 0 0])/\t.g 8=vi m) l.length
   ⟨_,rfl,ap,agQ _,bv,bv,bv,bv,bv⟩ ?_
  rintro m s ⟨t,rfl,a_,b_,q,z,v,K,u⟩ ih;apply aU;simp[u];by_cases f_:1<m
  .refine aq ge (aQ ?_);apply aE;apply ax;have next:∀J:T,J.g 2=.c (.ptr 0 0 0)->J.g 3=.c (.ptr 1 0 0)->J.g 6=.c (.ptr 2 0 0)->J.g 7=.c (.cl Gn [.ptr 0 0 0,.ptr 2 0 0,.ptr 1 0 0])->J.g 8=vi m->
     WP tab Gm ab [.code KN,.inLoop KM,.inBlock 0,.code KQ] ⟨J,[],H⟩ Q:=by
    intro J q z v K u;apply ba;simp[u,a8 (n:=(m:Int)-1)];exact ih (m-1) _ ap ⟨_,rfl,ap,ap,by simp[q],by simp[z],by simp[v],by simp[K],ge⟩
   have q1:de .rem (vi l.length) (vi m)=aa (vi ((l.length % m:Nat):Int)):=by rw[gn ap ap];rfl
   have q2:de .rem (vi aO) (vi m)=aa (vi (aO % m)):=gn ap ap;by_cases k1:l.length % m=0
   .by_cases k2:aO % (m:Int)=0
    .obtain⟨r,H',A,b,rfl,rfl,hb⟩:=U1 g l aO m H L W M F c9 hl Y a_ b_;have A:=A.eq;apply ai;simp[q,v,K,u,L,M,q1,q2,k1,k2,cr,A];cases b with
     |false=>
      refine aC bv (aQ (au ?_));exact next _ (by simp[q]) (by simp[z]) (by simp[v]) (by simp[K]) (by simp[u])
     |true=>
      obtain⟨d,hd⟩:=aH (aO / (m:Int));obtain⟨k,S⟩:=aH (l.length / m);have U:=hb rfl;rw[<-hd,<-S]at U;have e1:l.length=m*k:=by rw[S];have:=Nat.div_add_mod l.length m;omega
      have e2:aO=m*d:=by rw[hd];have:=ag2 aO m;omega
      have X:0<k:=by
       rcases Nat.eq_zero_or_pos k with h|h
       .rw[h,Nat.mul_zero]at e1;omega
       .exact h
      have e_:k<=l.length:=by rw[S];exact Nat.div_le_self _ _
      have c_:de .quo (vi aO) (vi m)=aa (vi d):=by rw[eI ap ap ap,hd]
      have d9:de .quo (vi l.length) (vi m)=aa (vi k):=by rw[eI ap ap ap,S];rfl
      have y:=λH:an=>V4 (H:=H) (g:=g) (m:=k) (Km.Ord.cW l) ip (JN B);simp only[Bu]at y;refine aq bv ?_;apply ai;simp[q,z,v,u,L,W,M,c_,d9,y];refine av (hQ _ _ _ ⟨d,.fs,l.take k,IA N Y F X e1 e2 U B,rfl⟩ ?_);simp
    .apply ai;simp[q,v,u,L,M,q1,q2,k1,k2];refine aC bv (aQ (au ?_));exact next _ (by simp[q]) (by simp[z]) (by simp[v]) (by simp[K]) (by simp[u])
   .have d_:¬ ((l.length:Int) % (m:Int)=0):=by rw[<-Int.natCast_emod];omega
    apply ai;simp[q,v,u,L,M,q1,d_];refine aC bv (aQ (au ?_));exact next _ (by simp[q]) (by simp[z]) (by simp[v]) (by simp[K]) (by simp[u])
  .refine aC ge ?_;refine bQ rfl ?_;apply ai;simp[q,z,L,W];refine av (hQ _ _ _ ⟨aO,g,l,Iz N Y F B,rfl⟩ ?_);simp
 obtain⟨r,⟨j,g',I,U,rfl⟩,h⟩:=key;exact⟨j,g',I,U,h.eq⟩
def xW(fr aO:Int)(bH:List Int)(d:Int):Prop:=(d-fr) % aO∈bH
structure pM(hd:List Int)(fr aO:Int)(bH:List Int)(m:Nat)(T base:Int)(j:Nat):Prop where
 ml:m<=hd.length
 tf:T<=fr
 lo:∀i,(h:i<hd.length)->i<m->hd[i]<T
 hi:∀i,(h:i<hd.length)->m<=i->T<=hd[i]
 iff:∀d,T<=d->d<fr->(d∈hd↔xW fr aO bH d)
 bs:aO ∣ base-fr
 jl:j<bH.length
 nx:∀d,d<T->xW fr aO bH d->d<=base+bH[j]
 bt:base+bH[j]<T
section
variable{hd bH:List Int}{fr aO:Int}
def tW(m:1<=aO)(j:∀x∈bH,0<=x/\x<aO){base:Int}(g:aO ∣ base-fr)(d:Int):xW fr aO bH d↔∃c∈bH,∃t:Int,d=base+c+aO*t:=by
 unfold xW;constructor
 .intro h;obtain⟨k,l⟩:=g;have e:=ag2 (d-fr) aO;refine⟨_,h,(d-fr) / aO-k,?_⟩
  grind
 .rintro⟨c,b,t,rfl⟩;obtain⟨k,l⟩:=g;have:(base+c+aO*t-fr) % aO=c:=by
   have e:base+c+aO*t-fr=c+aO*(k+t):=by rw[Int.mul_add,<-l];omega
   rw[e,Int.add_mul_emod_self_left,ahG (j c b).1 (j c b).2]
  simp_all
def J8{aO t:Int}(b:1<=aO):(t<=-1/\aO*t<=-aO)\/(t=0/\aO*t=0)\/(1<=t/\aO<=aO*t):=by
 rcases ajw t 0 with h|h|h
 .left;have:=ag0 (show t<=-1 by omega) (show 0<=aO by omega);omega
 .simp_all
 .right;right;have:=ag0 (show 1<=t by omega) (show 0<=aO by omega);omega
def pM.start(m:1<=aO)(hc:∀x∈bH,0<=x/\x<aO)(g:bH.Pairwise (· < ·))(q:∀x∈hd,x<fr)(hl:0<bH.length):pM hd fr aO bH hd.length fr (fr-aO) (bH.length-1) where
 ml:=agQ _
 tf:=ahY _
 lo:=λi h _=>q _ (IN h)
 hi:=λi h s=>by omega
 iff:=λd h1 h2=>by omega
 bs:=⟨-1,by rw[aiP,Int.mul_one];omega⟩
 jl:=by omega
 nx:=λd h1 h2=>by
  obtain⟨c,b,t,rfl⟩:=(tW m hc (base:=fr-aO) ⟨-1,by rw[aiP,Int.mul_one];omega⟩ d).1 h2;obtain⟨i,hi,rfl⟩:=ag1 b;have:=kY g (i:=i) (j:=bH.length-1) ap ap;have h3:=hc _ (IN hi);rcases J8 (t:=t) m with h|h|h<;>omega
 bt:=by have:=hc _ (IN (l:=bH) (n:=bH.length-1) ap);omega
def pM.off{j:Nat}(h:pM hd fr aO bH (n+1) a r j)(g:hd.Pairwise (· < ·))(H:1<=aO)(hc:∀x∈bH,0<=x/\x<aO)(s:n<hd.length)(B:hd[n]=r+bH[j]'(h.jl))(A:N<bH.length)
  (v:aO ∣ b-fr) (F:∀d,d<hd[n]->xW fr aO bH d->d<=b+bH[N]) (I:b+bH[N]<hd[n]):pM hd fr aO bH n hd[n] b N where
 ml:=by have:=h.ml;omega
 tf:=by have:=h.bt;have:=h.tf;omega
 lo:=λi hi l=>ahn.1 g i n hi s l
 hi:=λi hi l=>kY g l hi
 iff:=λd h1 h2=>by
  rcases ah0 d a with k|k
  .by_cases e:d=hd[n]
   .rw[e];refine⟨λ_=>?_,λ_=>IN s⟩;rw[B];exact(tW H hc h.bs _).2 ⟨bH[j]'(h.jl),IN h.jl,0,by rw[Int.mul_zero];omega⟩
   .constructor
    .intro z;obtain⟨i,hi,rfl⟩:=ag1 z;rcases ahS i (n+1)with q|q
     .have:=kY g (i:=i) (j:=n) ap s;omega
     .have:=h.hi i hi q;omega
    .intro y;have:=h.nx d k y;omega
  .exact h.iff d k h2
 bs:=v
 jl:=A
 nx:=F
 bt:=I
def pM.down{base:Int}{j:Nat}(h:pM hd fr aO bH (n+1) a base (j+1))(s:hd.Pairwise (· < ·))(b:bH.Pairwise (· < ·))(v:1<=aO)(hc:∀x∈bH,0<=x/\x<aO)(u:n<hd.length)(A:hd[n]=base+bH[j+1]'(h.jl)):pM hd fr aO bH n hd[n] base j:=by
 have y:=h.jl;have B:=ahn.1 b j (j+1) ap y ap;refine h.off s v hc u A ap h.bs (λd z g=>?_) ap;obtain⟨c,l,t,rfl⟩:=(tW v hc h.bs d).1 g;obtain⟨i,hi,rfl⟩:=ag1 l;have h3:=hc _ (IN hi);have h4:=hc _ (IN y);have h5:=hc _ (IN (show j<bH.length by omega));rcases J8 (t:=t) v with q|q|q
 .omega
 .rcases ahS j i with r|r
  .have:=kY b (i:=j+1) (j:=i) ap hi;omega
  .have:=kY b r (show j<bH.length by omega);omega
 .omega
def pM.wrap(h:pM hd fr aO bH (n+1) a r 0)(u:hd.Pairwise (· < ·))(b:bH.Pairwise (· < ·))(y:1<=aO)(hc:∀x∈bH,0<=x/\x<aO)(v:n<hd.length)(A:hd[n]=r+bH[0]'(h.jl)):pM hd fr aO bH n hd[n] (r-aO) (bH.length-1):=by
 have B:=h.jl;have g:aO ∣ r-aO-fr:=by
  have:=ain h.bs (ah3 aO)
  grind
 have h4:=hc _ (IN B);have h5:=hc _ (IN (show bH.length-1<bH.length by omega));refine h.off u y hc v A ap g (λd z l=>?_) ap;obtain⟨c,s,t,rfl⟩:=(tW y hc h.bs d).1 l;obtain⟨i,hi,rfl⟩:=ag1 s;have h3:=hc _ (IN hi);have h6:=kY b (i:=0) (j:=i) ap hi;have h7:=kY b (i:=i) (j:=bH.length-1) ap ap;rcases J8 (t:=t) y with q|q|q<;>omega
structure Stop(hd:List Int)(fr aO:Int)(bH:List Int)(m:Nat)(s:Int):Prop where
 ml:m<=hd.length
 s0:0<=s
 sf:s<=fr
 lo:∀i,(h:i<hd.length)->i<m->hd[i]<s
 hi:∀i,(h:i<hd.length)->m<=i->s<=hd[i]
 iff:∀d,s<=d->d<fr->(d∈hd↔xW fr aO bH d)
def pM.stop{base:Int}(h:pM hd fr aO bH n a base N)(y:hd.Pairwise (· < ·))(h0:∀x∈hd,0<=x)(H:0<=fr){last:Int}(s:(n=0/\last = -1)\/∃u:n-1<hd.length,0<n/\last=hd[n-1])
  (K:(base+bH[N]'(h.jl)<0/\last<0/\b=0)\/(¬ (base+bH[N]'(h.jl)<0/\last<0)/\base+bH[N]'(h.jl)≠last/\b=max (base+bH[N]'(h.jl)) last+1)):Stop hd fr aO bH n b:=by
 have F:=h.bt;have L:=h.tf;have J:last<a\/last = -1:=by
  rcases s with⟨_,e⟩|⟨u,h1,e⟩
  .omega
  .rw[e];exact .inl (h.lo _ u ap)
 have z:∀i,(hi:i<hd.length)->i<n->hd[i]<=last:=λi hi g=>by
  rcases s with⟨e,_⟩|⟨u,h1,e⟩
  .omega
  .rw[e];exact kY y ap u
 rcases K with⟨M,j,rfl⟩|⟨M,j,rfl⟩
 .have A:n=0:=by
   rcases s with⟨e,_⟩|⟨u,h1,e⟩
   .omega
   .have:=h0 _ (IN u);omega
  subst A;refine⟨ap,ap,H,λi hi g=>by omega,λi hi _=>h0 _ (IN hi),λd B v=>?_⟩;rcases ah0 d a with q|q
  .constructor
   .intro l;obtain⟨i,hi,rfl⟩:=ag1 l;have:=h.hi i hi ap;omega
   .intro hc;have:=h.nx d q hc;omega
  .exact h.iff d q v
 .have I:-1<=last:=by
   grind
  refine⟨h.ml,ap,ap,λi hi g=>by have:=z i hi g;omega,λi hi g=>by have:=h.hi i hi g;omega,λd B v=>?_⟩;rcases ah0 d a with q|q
  .constructor
   .intro l;obtain⟨i,hi,rfl⟩:=ag1 l;rcases ahS i n with r|r
    .grind
    .have:=h.hi i hi r;omega
   .intro hc;have:=h.nx d q hc;omega
  .exact h.iff d q v
end
structure pH(p q:aR):Prop where
 ok:cO q=ae
 fr:q.fr<=p.fr
 aO:q.aO ∣ p.aO
 mem:∀d,0<=d->bE q d=bE p d
def gC(fr s aO:Int)(bH:List Int):List Int:=bH.map λc=>(fr+c-s) % aO
def uQ(s:0<=M.fr)(u:M.fr<=1099511627776)(v:1<=M.aO)(y:M.aO<=1099511627776)(z:M.head.length+M.bH.length<=1048576)(m:M.head.Pairwise (· < ·))(g:∀x∈M.head,0<=x/\x<M.fr)(q:M.bH.Pairwise (· < ·))(j:∀x∈M.bH,0<=x/\x<M.aO):cO M=ae:=by
 have a:=rC (limit:=M.fr) (last:=-1) (l:=M.head) (λx d=>⟨by have:=g x d;omega,(g x d).2⟩) m;have b:=rC (limit:=M.aO) (last:=-1) (l:=M.bH) (λx d=>⟨by have:=j x d;omega,(j x d).2⟩) q;simp only[cO,a,b,Bool.and_true,IS,decide_eq_true_eq];omega
def QZ{aO c:Int}(l:0<=c/\c<aO)(j:0<=d/\d<aO)(h:(y+c-r) % aO=(y+d-r) % aO):c=d:=by
 have g:=(uJ (a:=y+c-r) (b:=y+d-r) (n:=aO)).1 h;rw[show y+c-r-(y+d-r)=c-d by omega]at g;obtain⟨k,m⟩:=g;rcases J8 (aO:=aO) (t:=k) ap with q|q|q<;>omega
def zY{aO:Int}(q:1<=aO)(l:∀x∈Y,0<=x/\x<aO)(d:Int):(d-r) % aO∈gC y r aO Y↔xW y aO Y d:=by
 unfold gC xW;rw[agX];constructor
 .rintro⟨c,g,h⟩;have j:=(uJ (a:=y+c-r) (b:=d-r) (n:=aO)).1 h;rw[show y+c-r-(d-r) = -(d-y-c) by omega,Int.dvd_neg]at j;have m:=(adb (l c g).1 (l c g).2).2 j;simp_all
 .intro h;refine⟨_,h,?_⟩;rw[uJ];have e:=ag2 (d-y) aO;exact⟨-((d-y) / aO),by rw[aiP];omega⟩
def sw{aO:Int}(B:1<=aO)(q:Y.Pairwise (· < ·))(u:∀x∈Y,0<=x/\x<aO)(d:l.Perm (gC r a aO Y))(g:l.Pairwise (·<=·)):l.Pairwise (· < ·)/\(∀x∈l,0<=x/\x<aO)/\l.length=Y.length:=by
 have m:(gC r a aO Y).Nodup:=by
  unfold gC;rw[List.nodup_iff_pairwise_ne,aiB];refine ajc ?_ q;intro s b v z y e;have:=QZ (u s v) (u b z) e;omega
 have j:l.Nodup:=d.nodup_iff.2 m;refine⟨?_,λx A=>?_,by rw[d.length_eq];simp[gC]⟩
 .have:=List.Pairwise.and g (List.nodup_iff_pairwise_ne.1 j)
  grind
 .have:=d.mem_iff.1 A;unfold gC at this;obtain⟨c,-,rfl⟩:=agX.1 this;exact⟨ahj _ ap,ahc _ ap⟩
def Mc(L:cO q=ae)(j:yk q.aO q.bH b l)(p:Stop q.head q.fr b l n a)(g:Y.Perm (gC q.fr a b l))(y:Y.Pairwise (·<=·))(J F:Tg) :
  pH q ⟨J,q.head.take n,a,b,F,Y⟩:=by
 obtain⟨X,u,c,e,f,H,I,m,o⟩:=bM L;obtain⟨S,U,W⟩:=sw j.p1 j.up j.mem g y;have M:b<=q.aO:=ahq ap j.dvd;have B:=j.len;have K:=p.ml;have A:=p.sf;have z:=p.s0;refine⟨uQ z (by show a<=_;omega) j.p1 (by show b<=_;omega) (by show(q.head.take n).length+Y.length<=_;rw[ahl,W];omega) (H.sublist (List.take_sublist _ _)) (λx O=>?_) S U,A,j.dvd,λd hd=>?_⟩
 .obtain⟨i,hi,rfl⟩:=ahE.1 O;have s:=I _ (IN (show i<q.head.length by omega));exact⟨ap,p.lo i ap ap⟩
 .have v:∀d,q.fr<=d->((d-q.fr) % q.aO∈q.bH↔xW q.fr b l d):=λd hd=>by
   have:=j.iff ((d-q.fr) % q.aO) (ahj _ ap) (ahc _ ap);rw[this,ahW _ j.dvd];rfl
  have N:(d-a) % b∈Y↔xW q.fr b l d:=by rw[g.mem_iff];exact zY j.p1 j.mem d
  unfold bE;simp only;by_cases k:a<=d
  .rw[ct k];by_cases Q:q.fr<=d
   .simp_all
   .rw[cC Q];apply decide_eq_decide.2;rw[N,p.iff d k ap]
  .rw[cC k,cC ap];apply decide_eq_decide.2;constructor
   .grind
   .intro h;obtain⟨i,hi,rfl⟩:=ag1 h;refine ahE.2 ⟨i,?_,rfl⟩;rcases ahS i n with r|r
    .omega
    .have:=p.hi i hi r;omega
def Ma(A:cO M=ae)(y:M.bH=[])(q:(M.head=[]/\r=0)\/∃h:M.head.length-1<M.head.length,r=M.head[M.head.length-1]+1)(z v:Tg):pH M ⟨z,M.head,r,1,v,[]⟩:=by
 obtain⟨B,F,H,I,J,l,m,K,L⟩:=bM A;have b:∀x∈M.head,0<=x/\x<r:=λx u=>by
  have a:=m x u;rcases q with⟨e,-⟩|⟨h,e⟩
  .simp_all
  .obtain⟨i,hi,rfl⟩:=ag1 u;have:=kY l (i:=i) (j:=M.head.length-1) ap h;omega
 have g:0<=r/\r<=M.fr:=by
  rcases q with⟨e,rfl⟩|⟨h,e⟩
  .omega
  .have:=m _ (IN h);omega
 refine⟨uQ g.1 (by show r<=_;omega) (ahY _) (show(1:Int)<=1099511627776 by decide) ge l b List.Pairwise.nil bv,g.2,Int.one_dvd _,λd hd=>?_⟩;unfold bE;simp only[y];by_cases k:r<=d
 .rw[ct k];have:d ∉ M.head:=λh=>by have:=b d h;omega
  simp_all
 .rw[cC k,cC ap]
def oW{tab:TB}{k:List dS}{ds:List gY}{Q:Option aD->St->Prop}{s:Option Nat}{d:Nat}{u:T}{l bd:aD}{j:Nat}(v:H[F]?=aa (.lp n u X l bd L (aa (.exit j)) d))(g:L≠.busy)
  (h:WP tab N s (.code (.exit j)::k) ⟨t,ds,H.set F (.lp n u X l bd .exhausted (aa (.exit j)) d)⟩ Q):WP tab N s (.mL F::k) ⟨t,ds,H⟩ Q:=by
 refine jX h λm d q=>?_;simp only[run,v,cC g]
def Eb(x:FC)(H:an):∃r H',Ev tab (.fn XU) [G x] H r H'/\(r=.c (.cl xZ [.ptr H.length 0 0])/\H'=H++[.box [.f x] 0]):=by
 refine dc rfl rfl λQ b=>?_;apply ai;simp;apply ai;simp;exact av (b _ _ _ rfl (dx bv) ⟨rfl,rfl⟩)
def Ec{b bx:Nat}{g:Tg}{PP:Nat->an->Prop}{EX:an->Prop}(W:l.length<=1000000)(q:∀i H,PP i H->∃a,H[bx]?=aa (.box [.f (sl g (ints l))] a))(I:PP l.length H)
  (S:∀i (h:i<l.length) H,PP (i+1) H->∃r H',Ev tab (.yield b) [vi i,vi l[i]] H r H'/\((r=vb ae/\PP i H')\/(r=vb ag/\EX H'))) :
  ∃r H',Ev tab (.fn xZ) [.c (.yl b),.c (.ptr bx 0 0)] H r H'/\(r=.t []/\(PP 0 H'\/EX H')):=by
 refine dc rfl rfl λQ K=>?_;obtain⟨a,y⟩:=q _ _ I;apply ai;simp[y,a8 (n:=(l.length:Int)-1)];apply ax;refine di (λm s=>∃(t:T) (J:an),s=⟨t,[],J⟩/\m<=l.length/\t.g 0=.c (.yl b)/\t.g 1=.c (.ptr bx 0 0)/\t.g 3=vi ((m:Int)-1)/\PP m J) l.length
  ⟨_,H,rfl,agQ _,bv,bv,bv,I⟩ ?_
 rintro m s ⟨t,J,rfl,X,z,A,j,B⟩ U;apply aU;simp[j];by_cases N:0<m
 .obtain⟨i,rfl⟩:∃i,m=i+1:=⟨m-1,ap⟩
  have v:i<l.length:=ii
  obtain⟨a,y⟩:=q _ _ B;have L:((i+1:Nat):Int)-1=(i:Int):=ii
  have d:=λH:an=>bu (H:=H) (g:=g) (rows:=ints l) (sz:=1) (k:=.i64) (i:=(i:Int)) ap ip;have x:=λH:an=>dY (H:=H) v;simp at d;rw[L]at j;obtain⟨r,J',u,O⟩:=S i v J B;refine aq ge (aQ ?_);apply aE;apply ax;rcases O with⟨rfl,F⟩|⟨rfl,M⟩
  .apply ai;simp[z,A,j,y,d,x,u.eq];refine aC bv (aQ (au (aF (.inl rfl) ?_)));simp[j,a8 (n:=(i:Int)-1)];exact U i _ ap ⟨_,_,rfl,ap,by simp[z],by simp[A],bv,F⟩
  .apply ai;simp[z,A,j,y,d,x,u.eq];refine aq bv ?_;exact av (K _ _ _ rfl rfl ⟨rfl,.inr M⟩)
 .have:m=0:=ii
  subst this;refine aC bv ?_;refine bQ rfl ?_;exact cN (K _ _ _ rfl rfl ⟨rfl,.inl B⟩)
structure CH(p:aR)(bs:List Nat)(bb:Nat)(base s:Int)(m:Nat)(J:an):Prop where
 h0:J[0]?=E [.f (sl p.hg (ints p.head)),Z p.fr,Z p.aO,.f (sl p.cg (ints p.bH))]
 h1:J[1]?=E [.f .aN,Z 0,Z 0,.f .aN]
 h2:∃g,J[2]?=E [.f (sl g (ints (p.head.take m)))]
 h3:J[3]?=E [Z s]
 b4:4<=bb
 hb:J[bb]?=E [Z base]
 cl:eQ bs J
section
variable{p:aR}{bs:List Nat}{bb:Nat}{base s:Int}{m:Nat}{J:an}
theorem CH.push(h:CH p bs bb base s m J)(L:an):CH p bs bb base s m (J++L):=by
 obtain⟨h0,h1,⟨g,h2⟩,h3,b4,hb,cl⟩:=h;refine⟨?_,?_,⟨g,?_⟩,?_,b4,?_,cl.push L⟩
 .rw[AI (aj h0)];exact h0
 .rw[AI (aj h1)];exact h1
 .rw[AI (aj h2)];exact h2
 .rw[AI (aj h3)];exact h3
 .rw[AI (aj hb)];exact hb
theorem CH.set(h:CH p bs bb base s m J){i:Nat}{y z:bV}(hi:J[i]?=aa y)(hy:nJ y=ae)(hb:∀cs fl,y≠.box cs fl)(hd:y≠.dH ae):CH p bs bb base s m (J.set i z):=by
 obtain⟨h0,h1,⟨g,h2⟩,h3,b4,b,cl⟩:=h;have ne:∀k cs fl,J[k]?=aa (.box cs fl)->i≠k:=λk cs fl d e=>by
  subst e;rw[d]at hi;cases hi;exact hb _ _ rfl
 refine⟨?_,?_,⟨g,?_⟩,?_,b4,?_,cl.set hi hd⟩
 .rw[sh (ne _ _ _ h0)];exact h0
 .rw[sh (ne _ _ _ h1)];exact h1
 .rw[sh (ne _ _ _ h2)];exact h2
 .rw[sh (ne _ _ _ h3)];exact h3
 .rw[sh (ne _ _ _ b)];exact b
theorem CH.head(h:CH p bs bb base s m J)(g:Tg)(d:Nat):CH p bs bb base s d (J.set 2 (.box [.f (sl g (ints (p.head.take d)))] 0)):=by
 obtain⟨h0,h1,⟨g',h2⟩,h3,b4,b,cl⟩:=h;refine⟨?_,?_,⟨g,By (aj h2)⟩,?_,b4,?_,cl.set h2 bv⟩
 .rw[sh ce];exact h0
 .rw[sh ce];exact h1
 .rw[sh ce];exact h3
 .rw[sh ap];exact b
def CH.start(h:CH p bs bb base s m J)(d:Int):CH p bs bb base d m (J.set 3 (.box [Z d] 0)):=by
 obtain⟨h0,h1,⟨g',h2⟩,h3,b4,b,cl⟩:=h;refine⟨?_,?_,⟨g',?_⟩,By (aj h3),b4,?_,cl.set h3 bv⟩
 .rw[sh ce];exact h0
 .rw[sh ce];exact h1
 .rw[sh ce];exact h2
 .rw[sh ap];exact b
end
structure CT(t:T)(bb:Nat)(Fq:Int)(g':Tg)(afd:List Int):Prop where
 g1:t.g 1=.c (.ptr 0 0 0)
 g2:t.g 2=.c (.ptr 1 0 0)
 g3:t.g 3=.c (.ptr 2 0 0)
 g5:t.g 5=vi Fq
 g6:t.g 6=G (sl g' (ints afd))
 g7:t.g 7=.c (.ptr 3 0 0)
 g8:t.g 8=.c (.ptr bb 0 0)
def G5(hp:cO q=ae){g':Tg}(hS:yk q.aO q.bH a Y){bs:List Nat}{bb B:Nat}{base:Int}(p:CT t bb a g' Y)(hB:bb<B)(i9:-4398046511104<=base){J:an}{m:Nat}{T0:Int}
  (hC:CH q bs bb base 0 m J) (L:pM q.head q.fr a Y m T0 base N) (j:J[B]?=aa (.lp dU t [P.nat 54,P.nat 55] dK dL .ready ab (B-1))) (i:Int) :
  ∃r H',Ev tab (.yield B) [vi i,vi (Y[N]'(L.jl))] J r H'/\
   ((r=vb ae/\∃u,m=u+1/\(∃h:u<q.head.length,q.head[u]=base+Y[N]'(L.jl))/\CH q bs bb base 0 u H'/\H'[B]?=aa (.lp dU t [P.nat 54,P.nat 55] dK dL .ready ab (B-1))/\∀k cs fl,k≠2->J[k]?=aa (.box cs fl)->H'[k]?=aa (.box cs fl))\/
   (r=vb ag/\∃s,CH q bs bb base s m H'/\Stop q.head q.fr a Y m s/\H'[B]?=aa (.lp dU t [P.nat 54,P.nat 55] dK dL .done (aa (.exit 0)) (B-1)))):=by
 obtain⟨q1,q2,q3,q4,q5,q6,q7,q8,q9⟩:=bM hp;obtain⟨c,hc⟩:=aH (Y[N]'(L.jl));have i_:0<=c/\c<a:=by rw[hc];exact hS.mem _ (IN _)
 have j8:a<=q.aO:=ahq ap hS.dvd;have f_:=L.bt;have j9:=L.tf;have j7:=L.ml;rw[<-hc]at f_;rw[<-hc];refine dm (tab:=tab) (b:=B) (args:=[vi i,vi c]) (H:=J) j rfl λQ' w=>?_;refine aF (.inr rfl) ?_;simp;refine eM j ?_;have I:=hC.set (z:=(.lp dU t [P.nat 54,P.nat 55] dK dL .busy ab (B-1))) j rfl bv bv;have l:(J.set B (.lp dU t [P.nat 54,P.nat 55] dK dL .busy ab (B-1)))[B]?=aa (.lp dU t [P.nat 54,P.nat 55] dK dL .busy ab (B-1)):=By (aj j);have X:∀(k:Nat) (cs:List C) (fl:Nat),J[k]?=aa (bV.box cs fl)->(J.set B (.lp dU t [P.nat 54,P.nat 55] dK dL .busy ab (B-1)))[k]?=aa (bV.box cs fl):=λk cs fl hk=>by
  rw[sh (by rintro rfl;rw[j]at hk;cases hk)];exact hk
 generalize J.set B (.lp dU t [P.nat 54,P.nat 55] dK dL .busy ab (B-1))=W at I l X ⊢;obtain⟨gh,h2⟩:=I.h2;have h3:=I.h3;have e_:=I.hb;have b4:=I.b4;have a_:(q.head.take m).length=m:=by rw[ahl];omega
 have O:∀H:an,bA H (.f (sl gh (ints (q.head.take m))))=aa m:=λH=>by simp[ints];omega
 obtain⟨n,hn⟩:=aH (base+c);have wn:ah .i64 (base+c)=n:=by rw[a8,hn]
 have rest:∀(A:T) (last:Int),CT A bb a g' Y->A.g 10=vi c->A.g 11=vi last->((m=0/\last = -1)\/∃hm:m-1<q.head.length,0<m/\last=q.head[m-1])->WP tab dU (aa B) [.code Kz,.inBlock 3] ⟨A,[],W⟩ Q':=by
  intro A last p c_ F v;have j5:-1<=last/\last<q.fr+1:=by
   rcases v with⟨_,e⟩|⟨hm,h1,e⟩
   .omega
   .have:=q7 _ (IN hm);omega
  have stop:∀s:Int,((n<0/\last<0/\s=0)\/(¬ (n<0/\last<0)/\n≠last/\s=max n last+1))->Stop q.head q.fr a Y m s:=λs hs=>by
   refine L.stop q6 (λx hx=>by have:=q7 x hx;omega) q1 v ?_;rw[<-hc,<-hn];exact hs
  apply aE;refine aE (aF (.inr rfl) ?_);simp[p.g8,c_,e_,wn];apply ax;by_cases k1:n<0/\last<0
  .refine aE (aF (.inr rfl) ?_);simp[F,k1.1,k1.2];refine aq bv ?_;refine nw rfl (w _ _ _ _ _ _ _ _ _ _ rfl l (.inr ⟨rfl,0,?_,stop 0 (.inl ⟨k1.1,k1.2,rfl⟩),By (aj l)⟩));exact I.set l rfl bv bv
  .have go:∀A:T,CT A bb a g' Y->A.g 11=vi last->A.g 12=vi n->WP tab dU (aa B) [.code KA,.inBlock 4,.code KB,.inBlock 3] ⟨A,[],W⟩ Q':=by
    intro A p F o;refine aE (aF (.inr rfl) ?_);by_cases k2:n=last
    .simp[F,o,k2];refine aC bv (aQ (au ?_));have j6:0<m:=by
      rcases v with⟨Q,f⟩|⟨_,h,_⟩
      .exfalso;exact k1 ⟨ap,ap⟩
      .exact h
     obtain⟨u,rfl⟩:∃u,m=u+1:=⟨m-1,ap⟩
     have S:∃hm:u<q.head.length,last=q.head[u]:=by
      rcases v with⟨Q,f⟩|⟨hm,_,e⟩
      .omega
      .exact⟨hm,e⟩
     obtain⟨i6,h_⟩:=S;have d:=λH:an=>V4 (H:=H) (g:=gh) (m:=u) (Km.Ord.cW (q.head.take (u+1))) ip (JN (by rw[a_];omega));simp only[Bu,aiN,aik (Nat.le_succ u)]at d;have Q:((u+1:Nat):Int)-1=(u:Int):=ii
     have s2:dj W (.ptr 2 0 0) [.f (sl .fs (ints (q.head.take u)))]=aa (W.set 2 (.box [.f (sl .fs (ints (q.head.take u)))] 0)):=by simp[dj,h2,over]
     have U:aV W ab (.c (.ptr 2 0 0))=aa (G (sl gh (ints (q.head.take (u+1))))):=by simp[aV,az,h2]
     have K:(W.set 2 (.box [.f (sl .fs (ints (q.head.take u)))] 0))[B]?=aa (.lp dU t [P.nat 54,P.nat 55] dK dL .busy ab (B-1)):=by rw[sh ap];exact l
     refine aF (.inr rfl) ?_;simp[p.g3,U,O,-aw,Q,a8 (n:=(u:Int)),d,s2,-bF];have d9:=I.head .fs u;refine au (cN (w _ _ _ _ _ _ _ _ _ _ rfl K (.inl ⟨rfl,u,rfl,⟨i6,?_⟩,?_,By (aj K),λk cs fl hk g_=>?_⟩)))
     .rw[<-h_,<-k2,hn]
     .exact d9.set K rfl bv bv
     .have:=X k cs fl g_;rw[sh (by rintro rfl;rw[l]at this;cases this),sh (Ne.symm hk)];exact this
    .simp[F,o,k2];refine aq bv (aE (aF (.inr rfl) ?_));simp[p.g7,F,o,h3,a8 (n:=max n last+1)];have d_:=I.start (max n last+1);have K:(W.set 3 (.box [Z (max n last+1)] 0))[B]?=aa (.lp dU t [P.nat 54,P.nat 55] dK dL .busy ab (B-1)):=by rw[sh ap];exact l
     refine nw rfl (w _ _ _ _ _ _ _ _ _ _ rfl K (.inr ⟨rfl,max n last+1,?_,stop _ (.inr ⟨k1,k2,rfl⟩),By (aj K)⟩));exact d_.set K rfl bv bv
   have M:∀y:T,y.g 1=A.g 1->y.g 2=A.g 2->y.g 3=A.g 3->y.g 5=A.g 5->y.g 6=A.g 6->y.g 7=A.g 7->y.g 8=A.g 8->CT y bb a g' Y:=λy Q f e3 e5 e6 e7 e8=>⟨Q.trans p.g1,f.trans p.g2,e3.trans p.g3,e5.trans p.g5,e6.trans p.g6,e7.trans p.g7,e8.trans p.g8⟩
   by_cases k3:n<0
   .have k4:¬ last<0:=λh=>k1 ⟨k3,h⟩;refine aE (aF (.inr rfl) ?_);simp[F,k3,k4];refine aC bv ?_;exact go _ (M _ bv bv bv bv bv bv bv) (by simp[F]) bv
   .refine aE (aF (.inr rfl) ?_);simp[k3];refine aC bv ?_;exact go _ (M _ bv bv bv bv bv bv bv) (by simp[F]) bv
 apply ax;refine aE (aF (.inr rfl) ?_);simp;have M:∀y:T,y.g 1=t.g 1->y.g 2=t.g 2->y.g 3=t.g 3->y.g 5=t.g 5->y.g 6=t.g 6->y.g 7=t.g 7->y.g 8=t.g 8->CT y bb a g' Y:=λy Q f e3 e5 e6 e7 e8=>⟨Q.trans p.g1,f.trans p.g2,e3.trans p.g3,e5.trans p.g5,e6.trans p.g6,e7.trans p.g7,e8.trans p.g8⟩
 apply aE;have U:aV W ab (.c (.ptr 2 0 0))=aa (G (sl gh (ints (q.head.take m)))):=by simp[aV,az,h2]
 refine aE (aF (.inr rfl) ?_);simp[p.g3,U,O,-aw];by_cases k0:0<m
 .have i7:m-1<q.head.length:=ii
  have i8:m-1<(q.head.take m).length:=ii
  have Q:((m:Int)-1)=((m-1:Nat):Int):=ii
  have b_:=λH:an=>bu (H:=H) (g:=gh) (rows:=ints (q.head.take m)) (sz:=1) (k:=.i64) (i:=((m-1:Nat):Int)) ap ip;have c9:=λH:an=>dY (H:=H) i8;have f:(q.head.take m)[m-1]=q.head[m-1]:=lw
  rw[f]at c9;simp at b_;refine aq (by simp[k0]) (aF (.inr rfl) ?_);simp[p.g3,U,O,-aw,Q,a8 (n:=((m-1:Nat):Int)),b_,c9];exact rest _ _ (M _ bv bv bv bv bv bv bv) bv bv (.inr ⟨i7,k0,rfl⟩)
 .refine bG (by simp[k0]) ?_;exact rest _ _ (M _ bv bv bv bv bv bv bv) bv bv (.inl ⟨ap,rfl⟩)
def vV{g:Tg}(l:List Int)(m:l.length<=1000000):∃c J,Ev tab (.fn GI) [G (sl g (ints l))] H=E2 (.c c) (H++J)/\LR (H++J) c 1 (ints l)/\∀i,bz c=aa i->H.length<=i:=by
 obtain⟨r,H',j,c,J,rfl,rfl,b,d⟩:=ua (F:=GI) (sz:=1) (zs:=[fi 0]) (bytes:=8) (H:=H) (g:=g) (rows:=ints l) Yz ce (Km.Ord.cW l) (iL ip ce);exact⟨c,J,j.eq,b,d⟩
def Md(p:aR)(w:cO p=ae)(o:p.bH=[])(hl:p.head.length<=1000000):∃q,pH p q/\q.bH.length<=p.bH.length/\q.head.length<=p.head.length/\bf tab dU [.a (p.row.map .f)] (.a (q.row.map .f)):=by
 obtain⟨q1,q2,q3,q4,q5,q6,q7,q8,q9⟩:=bM w;obtain⟨r,⟨q,hq,ha,hb,rfl⟩,h⟩:∃r,(∃q,pH p q/\q.bH.length<=p.bH.length/\q.head.length<=p.head.length/\r=.a (q.row.map .f))/\bf tab dU [.a (p.row.map .f)] r:=by
  refine dE rfl rfl λQ hQ=>?_;obtain⟨H,z⟩:=aH ([.box [.f (sl p.hg (ints p.head)),Z p.fr,Z p.aO,.f (sl p.cg (ints p.bH))] 0,.box [.f .aN,Z 0,Z 0,.f .aN] 0,.box [.f (sl p.hg (ints p.head))] 0]:an);obtain⟨c,J,N,B,f⟩:=vV (H:=H) (g:=p.hg) p.head hl;have l:∀H:an,bA H (.f (sl p.hg (ints p.head)))=aa p.head.length:=λH=>by simp[ints]
  have L:∀H:an,bA H (.f (sl p.cg (ints p.bH)))=aa 0:=λH=>by simp[ints,o]
  apply ai;simp[aR.row];refine lF (ai ?_);simp;rw[<-z];have h0:H[0]?=E [.f (sl p.hg (ints p.head)),Z p.fr,Z p.aO,.f (sl p.cg (ints p.bH))]:=by rw[z];rfl
  have h1:H[1]?=E [.f .aN,Z 0,Z 0,.f .aN]:=by rw[z];rfl
  have e:H[2]?=E [.f (sl p.hg (ints p.head))]:=by rw[z];rfl
  apply aU;simp[h0,L];refine aq bv ?_;apply ai;simp[e,N];obtain⟨b,d⟩:=aH (H++J:an);obtain⟨v,j⟩:=aH (b.length);have F:H.length+J.length=v:=by rw[j,d];simp
  have a_:H.length=3:=by rw[z];rfl
  rw[<-d]at B;have u0:∀i:Nat,i<H.length->b[i]?=H[i]?:=λi hi=>by rw[d,AI hi]
  have x:∀(t:T) (s:Int),t.g 2=.c (.ptr 1 0 0)->t.g 4=.c (.ptr v 0 0)->((p.head=[]/\s=0)\/∃h:p.head.length-1<p.head.length,s=p.head[p.head.length-1]+1)->
    WP tab dU ab [.code Kv,.code Kw,.inScope DH] ⟨t,[],b++[.box [c,Z s,Z 1,.f .aN] 0]⟩ Q:=by
   intro t s a g4 hs;have k4:(b++[bV.box [c,Z s,Z 1,.f .aN] 0])[v]?=E [c,Z s,Z 1,.f .aN]:=by rw[j];simp
   have M:(b++[bV.box [c,Z s,Z 1,.f .aN] 0])[1]?=E [.f .aN,Z 0,Z 0,.f .aN]:=by
    rw[AI ap,u0 1 ap];exact h1
   have U:=B.push [bV.box [c,Z s,Z 1,.f .aN] 0];generalize b++[bV.box [c,Z s,Z 1,.f .aN] 0]=u at k4 M U ⊢;have Y:aV u (aa 4) (.c (.ptr v 0 0))=aa (.a [c,Z s,Z 1,.f .aN]):=by simp[aV,az,k4,aX]
   have s1:dj u (.ptr 1 0 0) [c,Z s,Z 1,.f .aN]=aa (u.set 1 (.box [c,Z s,Z 1,.f .aN] 0)):=by simp[dj,M,over]
   have n1:(u.set 1 (.box [c,Z s,Z 1,.f .aN] 0))[1]?=E [c,Z s,Z 1,.f .aN]:=By (aj M);have W:=U.set (U.cm M) (.box [c,Z s,Z 1,.f .aN] 0);obtain⟨y,O⟩:=W.ex (Km.Ord.cW _) 63;apply ai;simp[a,g4,Y,s1,-aw,-bF];refine av (hQ _ _ _ ⟨⟨y,p.head,s,1,.nil,[]⟩,Ma w o hs y .nil,bv,agQ _,rfl⟩ ⟨rfl,.a [c,Z s,Z 1,.f .aN],?_,?_⟩)
   .simp[Km.results,cB,bC,a,n1,aX]
   .simp[jd,dq,bC,deep,O,aR.row,sl,ints,Tg.fc]
  rw[<-ahm,<-d,F];have v2:(b++[bV.box [c,Z 0,Z 1,.f .aN] 0])[2]?=E [.f (sl p.hg (ints p.head))]:=by
   rw[AI ap,u0 2 ap];exact e
  have v4:(b++[bV.box [c,Z 0,Z 1,.f .aN] 0])[v]?=E [c,Z 0,Z 1,.f .aN]:=by rw[j];simp
  have m:∀s:Int,(b++[bV.box [c,Z 0,Z 1,.f .aN] 0]).set v (.box [c,Z s,Z 1,.f .aN] 0)=b++[.box [c,Z s,Z 1,.f .aN] 0]:=λs=>by rw[j];simp
  apply aE;obtain⟨u,A⟩:=aH (b++[bV.box [c,Z 0,Z 1,.f .aN] 0]);rw[<-A]at v2 v4 m ⊢;have K:aV u ab (.c (.ptr 2 0 0))=aa (G (sl p.hg (ints p.head))):=by simp[aV,az,v2]
  apply aE;apply ba;simp[K,l,-aw];by_cases k:0<p.head.length
  .have S:p.head.length-1<p.head.length:=ii
   have b_:=q7 _ (IN S);have e1:((p.head.length:Int)-1)=((p.head.length-1:Nat):Int):=ii
   have I:=λH:an=>bu (H:=H) (g:=p.hg) (rows:=ints p.head) (sz:=1) (k:=.i64) (i:=((p.head.length-1:Nat):Int)) ap ip;have X:=λH:an=>dY (H:=H) S;simp at I;have s4:dj u (.ptr v 1 0) [Z (p.head[p.head.length-1]+1)]=aa (b++[.box [c,Z (p.head[p.head.length-1]+1),Z 1,.f .aN] 0]):=by
    rw[<-m];simp[dj,v4,over]
   refine aq (by simp[k]) (aF (.inl rfl) ?_);simp[K,l,-aw,e1,a8 (n:=((p.head.length-1:Nat):Int)),I,X,a8 (n:=p.head[p.head.length-1]+1),s4,-bF];exact x _ _ bv bv (.inr ⟨S,rfl⟩)
  .refine bG (by simp[k]) ?_;rw[A];exact x _ 0 bv bv (.inl ⟨ahZ.1 ap,rfl⟩)
 exact⟨q,hq,ha,hb,h⟩
def oX(h:LR H c n v){y:bV}(g:H[N]?=aa y)(j:nJ y=ae):bz c≠aa N:=by
 rcases h with⟨_,rfl|rfl⟩|⟨h,b,l,rfl,d⟩
 .simp[bz]
 .simp[bz]
 .intro e;cases e;unfold RB at d;rw[g]at d;cases d;cases j
theorem CH.bS{p:aR}{bs:List Nat}{bb:Nat}{base s:Int}{m:Nat}{J J':an}(h:CH p bs bb base s m J)(b:∀(i:Nat) y,J[i]?=aa y->nJ y=ae->J'[i]?=aa y):CH p bs bb base s m J':=by
 obtain⟨h0,h1,⟨g,h2⟩,h3,b4,hb,cl⟩:=h;exact⟨b _ _ h0 rfl,b _ _ h1 rfl,⟨g,b _ _ h2 rfl⟩,b _ _ h3 rfl,b4,b _ _ hb rfl,cl.bS b⟩
structure QI(p:aR)(bs:List Nat)(bb:Nat)(base s Fq:Int)(m bq:Nat)(c cq:C)(nF:List Int)(J:an):Prop where
 ch:CH p bs bb base s m J
 bx:J[bq]?=E [c,Z s,Z Fq,cq]
 lc:LR J c 1 (ints (p.head.take m))
 lq:LR J cq 1 (ints nF)
 ne:∀i,bz c=aa i->bz cq≠aa i
 big:4<bq/\bq≠bb
theorem QI.app{p:aR}{bs:List Nat}{bb:Nat}{base s b:Int}{m z:Nat}{c K:C}{nF:List Int}{J:an}(h:QI p bs bb base s b m z c K nF J)(hl:nF.length<=1000000)(n:Int) :
  ∃v q,bZ (J++[.box [Z n] 0]) 1 8 (.c K) (.c (.sl J.length 0 1 1 0 1))=aa (.c v,q)/\dj q (.ptr z 3 0) [v]=aa (q.set z (.box [c,Z s,Z b,v] 0))/\QI p bs bb base s b m z c v (nF++[n]) (q.set z (.box [c,Z s,Z b,v] 0)):=by
 obtain⟨I,d⟩:=aH (J++[.box ([fi n].map .f) 0]:an);have up:∀(i:Nat) y,J[i]?=aa y->I[i]?=aa y:=λi y hy=>by rw[d,AI (aj hy)];exact hy
 have B:LR I K 1 (ints nF):=by rw[d];exact h.lq.push _
 have M:I[J.length]?=E ([fi n].map .f):=by rw[d];simp
 obtain⟨v,q,u,x,A,N⟩:=B.app (Km.Ord.cW nF) ce (row:=[fi n]) rfl (bytes:=8) (iL ip ce) M;have H:∀(i:Nat) y,J[i]?=aa y->nJ y=ae->q[i]?=aa y:=λi y hy Q=>A.2 i y (up _ _ hy) (oX B (up _ _ hy) Q);have j:=H _ _ h.bx rfl;have O:ints nF++[[fi n]]=ints (nF++[n]):=ol
 rw[O]at x;have F:LR q c 1 (ints (p.head.take m)):=h.lc.bS λi y hy hi=>A.2 i y (up _ _ hy) (h.ne i hi);have L:=h.ch.bS H;refine⟨v,q,by rw[d]at u;exact u,by simp[dj,j,over],?_,By (aj j),F.set (F.cm j) _,x.set (x.cm j) _,?_,h.big⟩
 .obtain⟨h0,h1,⟨g,h2⟩,h3,b4,hb,cl⟩:=L;have hg:=h.big;refine⟨?_,?_,⟨g,?_⟩,?_,b4,?_,cl.set j bv⟩
  all_goals (rw[sh ap];assumption)
 .intro i hi l;rcases N with e|e
  .rw[e]at l;exact h.ne i hi l
  .rw[e]at l;cases l;have:=h.lc.lt hi;have h2:I.length=J.length+1:=by rw[d];simp
   omega
def vS(n:Int):(vi n).beq (vi n)=ae:=by simp[V.beq,C.beq,FC.beq]
def G_(hp:cO q=ae)(hl:q.head.length<=1000000){g':Tg}(hS:yk q.aO q.bH b l)(u_:l.length<=1000000){bs:List Nat}{bb:Nat}(hC:CH q bs bb a y N B)(hT:Stop q.head q.fr b l N y)
(O:CT t bb b g' l) {k:List dS} {Q:Option aD->St->Prop} (hQ:∀j y r,(∃p,pH q p/\p.bH.length<=q.bH.length/\p.head.length<=q.head.length/\r=.a (p.row.map .f))->P8 [.cell (P.nat 2) (aa 4)] r y->Q j y) :
  WP tab dU ab (.code AD::k) ⟨t,bs.map .dR,B⟩ Q:=by
 obtain⟨q1,q2,q3,q4,q5,q6,q7,q8,q9⟩:=bM hp;have r6:=hT.ml;have x8:=hT.sf;have x6:=hT.s0;have w_:b<=q.aO:=ahq ap hS.dvd;have v_:=hS.p1;obtain⟨gh,h2⟩:=hC.h2;have h0:=hC.h0;have h1:=hC.h1;have h3:=hC.h3;have j6:(q.head.take N).length=N:=by rw[ahl];omega
 obtain⟨c,Jc,u,W,i_⟩:=vV (H:=B) (g:=gh) (q.head.take N) ap;obtain⟨HJ,h_⟩:=aH (B++Jc:an);have I:CH q bs bb a y N HJ:=by rw[h_];exact hC.push Jc
 rw[<-h_]at u W;have d9:∀H:an,H[3]?=E [Z y]->aV H ab (.c (.ptr 3 0 0))=aa (vi y):=λH h=>by simp[aV,az,h]
 have l_:aV B ab (.c (.ptr 2 0 0))=aa (G (sl gh (ints (q.head.take N)))):=by simp[aV,az,h2]
 have j_:=d9 B h3;have c_:=d9 HJ I.h3;refine aE (eH (.inl rfl) ?_ ?_)
 case refine_2=>
  intro cc n_;have n9:cc=(2,1):=by simpa using n_
  subst n9;refine⟨ce,_,rfl,.inr ⟨ce,?_⟩⟩;simp[O.g3,O.g7,l_,-aw,u,j_,c_,gE,vS]
 simp[O.g3,O.g5,O.g7,l_,-aw,u,c_];obtain⟨S,b_⟩:=aH (HJ.length);have j5:4<S:=by have:=aj I.hb;have:=I.b4;omega
 obtain⟨HK,U⟩:=aH (HJ++[bV.box [c,Z y,Z b,.f .aN] 0]);have g_:CH q bs bb a y N HK:=by rw[U];exact I.push _
 have j7:HK[S]?=E [c,Z y,Z b,.f .aN]:=by rw[U,b_];simp
 have i7:LR HK c 1 (ints (q.head.take N)):=by rw[U];exact W.push _
 have u9:∀i,bz c=aa i->i<S:=λi hi=>by rw[b_];exact W.lt hi
 rw[<-b_,<-U];have m_:QI q bs bb a y b N S c (.f .aN) [] HK:=⟨g_,j7,i7,LR.nil _ _,(λi hi h=>by cases h),j5,by have:=aj I.hb;omega⟩
 clear u W i_ c_ j_ g_ j7 i7;apply aU;simp[O.g6];refine bW l.length (λi t B=>t.g 1=.c (.ptr 0 0 0)/\t.g 2=.c (.ptr 1 0 0)/\t.g 5=vi b/\t.g 7=.c (.ptr 3 0 0)/\t.g 13=.c (.ptr S 0 0)/\t.g 94=G (sl g' (ints l))/\∃d,QI q bs bb a y b N S c d (gC q.fr y b (l.take i)) B) ap ce ce bv ol
  ⟨by simp[O.g1],by simp[O.g2],by simp[O.g5],by simp[O.g7],bv,bv,.f .aN,by simpa[gC]using m_⟩ ?_ ?_
 .rintro i t B hi ⟨g1,g2,g5,g7,F,a_,d,J⟩ ha hb next
  have o_:=hS.mem _ (IN hi);have j9:=λH:an=>bu (H:=H) (g:=g') (rows:=ints l) (sz:=1) (k:=.i64) (i:=(i:Int)) ap ip;have k_:=λH:an=>dY (H:=H) hi;simp at j9;obtain⟨x,hx⟩:=aH (l[i]);rw[<-hx]at o_ k_;have r_:l.take (i+1)=l.take i++[x]:=by rw[agV,BY hi,hx];rfl
  have j8:de .rem (vi (q.fr+x-y)) (vi b)=aa (vi ((q.fr+x-y) % b)):=gn ap ap;obtain⟨c3,H3,i9,r9,r7⟩:=J.app (by simp[gC];omega) ((q.fr+x-y) % b);have d_:aV B ab (.c (.ptr S 3 0))=aa (.c d):=by simp[aV,az,J.bx]
  have s_:aV B ab (.c (.ptr 0 1 0))=aa (vi q.fr):=by simp[aV,az,J.ch.h0]
  have t8:=d9 B J.ch.h3;apply ax;apply ai;simp[ha,a_,j9,k_];apply ba;simp[g1,g5,g7,F,d_,s_,t8,-aw,a8 (n:=q.fr+x),a8 (n:=q.fr+x-y),j8,i9,r9,-bF];refine au (next _ _ ?_ (by simp[ha]) (by simp[hb]));refine⟨by simp[g1],by simp[g2],by simp[g5],by simp[g7],by simp[F],by simp[a_],c3,?_⟩;rw[r_];simpa[gC]using r7
 .rintro t B ⟨g1,g2,g5,g7,F,a_,d,J⟩ - -;rw[agW]at J;obtain⟨r,Y,he,rfl,hK,l2,i6,M,q_⟩:=SG J.lq (by simp[gC];omega);have up:∀(i:Nat) s,B[i]?=aa s->nJ s=ae->Y[i]?=aa s:=λi s X hn=>hK.2 i s X (oX J.lq X hn);have A:=J.ch.bS up;have n8:=up _ _ J.bx rfl;have i8:LR Y c 1 (ints (q.head.take N)):=J.lc.bS λi s X hi=>hK.2 i s X (J.ne i hi);have d_:aV B ab (.c (.ptr S 3 0))=aa (.c d):=by simp[aV,az,J.bx]
  have s7:aV Y (aa 4) (.c (.ptr S 0 0))=aa (.a [c,Z y,Z b,d]):=by simp[aV,az,n8,aX]
  have s1:dj Y (.ptr 1 0 0) [c,Z y,Z b,d]=aa (Y.set 1 (.box [c,Z y,Z b,d] 0)):=by simp[dj,A.h1,over]
  have n1:(Y.set 1 (.box [c,Z y,Z b,d] 0))[1]?=E [c,Z y,Z b,d]:=By (aj A.h1);have v:=A.cl.set (z:=.box [c,Z y,Z b,d] 0) A.h1 bv;have K:=i8.set (i8.cm A.h1) (.box [c,Z y,Z b,d] 0);have L:=i6.set (i6.cm A.h1) (.box [c,Z y,Z b,d] 0);generalize t_:Y.set 1 (.box [c,Z y,Z b,d] 0)=HF at s1 n1 v K L;have m9:∀(i:Nat) s,i ∉ bs->HF[i]?=aa s->(ng bs HF)[i]?=aa s:=λi s hi X=>(iv hi).trans X;obtain⟨e_,p9⟩:=K.exU (Km.Ord.cW _);obtain⟨f_,p_⟩:=L.exU (Km.Ord.cW _);have m:∀(c:C) (rows:List (List FC)),LR HF c 1 rows->∀i s,HF[i]?=aa s->bz c=aa i->(ng bs HF)[i]?=aa s:=λc rows hL i s X hi=>m9 i s (λhb=>oX hL (v.on i hb) rfl hi) X;have e5:=p9 (ng bs HF) 63 (m _ _ K);have e6:=p_ (ng bs HF) 63 (m _ _ L);have m1:=m9 1 _ (v.not n1 bv) n1;apply ai;simp[F,d_,-aw,he.eq];apply ai;simp[g2,F,s7,s1,-aw,-bF];have c9:l2.length=l.length:=by rw[M.length_eq];simp[gC]
  refine av (hQ _ _ _ ⟨⟨e_,q.head.take N,y,b,f_,l2⟩,Mc hp hS hT M q_ e_ f_,by show l2.length<=_;rw[c9];exact hS.len,by show(q.head.take N).length<=_;rw[j6];exact r6,rfl⟩ ⟨bs,rfl,v,.a [c,Z y,Z b,d],?_,?_⟩)
  .simp[Km.results,cB,bC,g2,m1,aX]
  .simp[jd,dq,bC,deep,e5,e6,aR.row]
def L_(p:aR)(hp:cO p=ae)(k:0<p.bH.length)(j7:p.bH.length<=1000000)(hl:p.head.length<=1000000):∃q,pH p q/\q.bH.length<=p.bH.length/\q.head.length<=p.head.length/\bf tab dU [.a (p.row.map .f)] (.a (q.row.map .f)):=by
 obtain⟨q1,q2,q3,q4,q5,q6,q7,q8,q9⟩:=bM hp;obtain⟨r,⟨q,hq,ha,e,rfl⟩,h⟩:∃r,(∃q,pH p q/\q.bH.length<=p.bH.length/\q.head.length<=p.head.length/\r=.a (q.row.map .f))/\bf tab dU [.a (p.row.map .f)] r:=by
  refine oy Yo rfl λQ hQ=>?_;obtain⟨j,g',d,v,h_⟩:=IB p.cg p.bH p.aO ap ap k ap q8 (λx hx=>by have:=q9 x hx;omega);have j_:j<=p.aO:=ahq ap v.dvd;have X:=v.p1;have j8:=v.len;have o:0<d.length:=ahf.2 v.ne;have a_:∀H:an,bA H (.f (sl p.cg (ints p.bH)))=aa p.bH.length:=λH=>by simp[ints]
  apply ai;simp[aR.row];refine lF (ai ?_);simp;apply aU;simp[a_];refine aC (by simp;exact ahf.1 k) (aQ ?_);apply ai;simp[h_];apply ai;simp;refine aE (qz ?_);apply aU;simp[a8 (n:=p.fr-j)];apply ax;refine di (λmm st=>∃(t:T) (bs:List Nat) (bb:Nat) (J:an) (T0 base:Int),st=⟨t,bs.map .dR,J⟩/\CT t bb j g' d/\CH p bs bb base 0 mm J/\pM p.head p.fr j d mm T0 base (d.length-1)/\-4398046511104<=base) p.head.length
   ⟨_,[],4,_,_,_,rfl,⟨bv,bv,bv,bv,bv,bv,bv⟩,⟨rfl,rfl,⟨p.hg,by rw[agW];rfl⟩,rfl,ce,rfl,⟨bv,bv⟩⟩,pM.start X v.mem v.up (λx hx=>(q7 x hx).2) o,ap⟩ ?_
  rintro mm st ⟨t,bs,bb,J,T0,base,rfl,M,hC,d_,d9⟩ ih;apply aE;apply ax;obtain⟨r,H',e_,rfl,rfl⟩:=Eb (sl g' (ints d)) J;apply ai;simp[M.g6,e_.eq];apply ax;have c_:∀L:T,L.g 1=t.g 1->L.g 2=t.g 2->L.g 3=t.g 3->L.g 5=t.g 5->L.g 6=t.g 6->L.g 7=t.g 7->L.g 8=t.g 8->CT L bb j g' d:=λL e1 e2 e3 e5 e6 e7 e8=>⟨e1.trans M.g1,e2.trans M.g2,e3.trans M.g3,e5.trans M.g5,e6.trans M.g6,e7.trans M.g7,e8.trans M.g8⟩
  obtain⟨bx,F⟩:=aH (J.length);rw[<-F];have j6:=aj hC.hb;have j5:=hC.b4;have range:∀y:T,CT y bb j g' d->y.g 53=.c (.cl xZ [.ptr bx 0 0])->WP tab dU ab [.code Ky,.inBlock 2,.inBlock 1,.code KF,.inLoop Kx,.inBlock 0,.code AD,.inScope DH] ⟨y,bs.map .dR,J++[.box [.f (sl g' (ints d))] 0]⟩ Q:=by
   intro y u b_;obtain⟨a,A⟩:=aH (J++[.box [.f (sl g' (ints d))] 0]++[.dH ae,.lp dU y [P.nat 54,P.nat 55] dK dL .ready ab (bx+2-1)]:an);have N:CH p bs bb base 0 mm a:=by rw[A,ahm];exact hC.push _
   have rx:a[bx]?=E [.f (sl g' (ints d))]:=by rw[A,F];simp
   have rd:a[bx+1]?=aa (.dH ae):=by rw[A,F,agL bv];simp
   have rl:a[bx+2]?=aa (.lp dU y [P.nat 54,P.nat 55] dK dL .ready ab (bx+2-1)):=by rw[A,F,agL bv];simp
   have c9:CH p ((bx+1)::bs) bb base 0 mm a:=⟨N.h0,N.h1,N.h2,N.h3,N.b4,N.hb,aiX.2 ⟨λhm=>by have:=aj (hC.cl.on _ hm);omega,N.cl.nd⟩,λb e=>by
    rcases ag8.1 e with rfl|e
    .exact rd
    .exact N.cl.on b e⟩
   obtain⟨r,H',he,rfl,S⟩:=Ec (b:=bx+2) (bx:=bx) (g:=g') (l:=d) (H:=a)
    (PP:=λi H=>∃m T,CH p ((bx+1)::bs) bb base 0 m H/\H[bx]?=E [.f (sl g' (ints d))]/\H[bx+2]?=aa (.lp dU y [P.nat 54,P.nat 55] dK dL .ready ab (bx+2-1))/\i<=d.length/\m+(d.length-i)=mm/\
     (0<i->pM p.head p.fr j d m T base (i-1))/\(i=0->pM p.head p.fr j d m T (base-j) (d.length-1)/\-1099511627776<=base))
    (EX:=λH=>∃m s,CH p ((bx+1)::bs) bb base s m H/\Stop p.head p.fr j d m s/\H[bx+2]?=aa (.lp dU y [P.nat 54,P.nat 55] dK dL .done (aa (.exit 0)) (bx+2-1)))
    ap (λi H h=>by obtain⟨m,T,-,h,-⟩:=h;exact⟨_,h⟩)
    ⟨mm,T0,c9,rx,rl,agQ _,ap,λ_=>d_,λh=>by omega⟩
    (λi hi H1 ⟨m,T,h1,h2,h3,h4,h5,h6,h7⟩=>by
     have O:=h6 ap;obtain⟨r,H2,g_,hr⟩:=G5 hp v u (B:=bx+2) ap d9 h1 O h3 i;refine⟨r,H2,g_,?_⟩;rcases hr with⟨rfl,m',rfl,⟨W,U⟩,Y,c,K⟩|⟨rfl,s,Y,c,K⟩
     .refine .inl ⟨rfl,m',p.head[m'],Y,K bx _ _ ap h2,c,ap,ap,λw=>?_,λw=>?_⟩
      .obtain⟨i',rfl⟩:∃i',i=i'+1:=⟨i-1,ap⟩
       exact O.down q6 v.up X v.mem W U
      .subst w;have hx:=(q7 _ (IN W)).1;have hy:=v.mem _ (IN (l:=d) (n:=0) o);refine⟨O.wrap q6 v.up X v.mem W U,?_⟩;have i_:p.head[m']=base+d[0]:=U;omega
     .exact .inr ⟨rfl,m,s,Y,c,K⟩)
   have I:(J++[bV.box [.f (sl g' (ints d))] 0]).length=bx+1:=by simp[F]
   have f_:Ev tab (.fn xZ) [.c (.yl ((J++[bV.box [.f (sl g' (ints d))] 0]).length+1)),.c (.ptr bx 0 0)] (J++[.box [.f (sl g' (ints d))] 0]++[.dH ae,.lp dU y [P.nat 54,P.nat 55] dK dL .ready ab (J++[bV.box [.f (sl g' (ints d))] 0]).length]) (.t []) H':=by
    rw[I];rw[A]at he;exact he
   refine dC (g:=xZ) (by rw[mF,b_];simp[cr]) f_ ?_;rw[I];rcases S with⟨m,T,Y,c,K,-,k5,-,k7⟩|⟨m,s,Y,c,K⟩
   .obtain⟨k8,k9⟩:=k7 rfl;refine dX K ce ?_;have kC:=Y.set (z:=.lp dU y [P.nat 54,P.nat 55] dK dL .exhausted ab (bx+2-1)) K rfl bv bv;generalize H'.set (bx+2) (.lp dU y [P.nat 54,P.nat 55] dK dL .exhausted ab (bx+2-1))=HE at kC ⊢;refine au (au (aE ?_));have f:=kC.hb;have i6:aV HE ab (.c (.ptr bb 0 0))=aa (vi base):=by simp[aV,az,f]
    have j9:=aj f;apply ai;simp[u.g8,i6,-aw];apply ba;simp;apply ba;have i8:=k8.bt;have i7:=k8.tf;have i9:=(v.mem _ (IN (l:=d) (n:=d.length-1) ap)).1;simp[u.g5,a8 (n:=base-j)];have kP:=kC.push [.box [Z (base-j)] 0];refine ih m _ ap ⟨_,(bx+1)::bs,HE.length,_,T,base-j,rfl,⟨by simp[u.g1],by simp[u.g2],by simp[u.g3],by simp[u.g5],by simp[u.g6],by simp[u.g7],bv⟩,⟨kP.h0,kP.h1,kP.h2,kP.h3,ap,bv,kP.cl⟩,k8,ap⟩
   .refine oW K ce ?_;have kC:=Y.set (z:=.lp dU y [P.nat 54,P.nat 55] dK dL .exhausted (aa (.exit 0)) (bx+2-1)) K rfl bv bv;refine bQ rfl ?_;exact G_ hp hl v ap kC c u hQ
  exact range _ (c_ _ bv bv bv bv bv bv bv) bv
 exact⟨q,hq,ha,e,h⟩
def qf(p:aR)(s:cO p=ae)(l:p.bH.length<=1000000)(m:p.head.length<=1000000):∃q,pH p q/\q.bH.length<=p.bH.length/\q.head.length<=p.head.length/\bf tab dU [.a (p.row.map .f)]=Eq (.a (q.row.map .f)):=by
 rcases Nat.eq_zero_or_pos p.bH.length with h|h
 .obtain⟨q,b,d,g,j⟩:=Md p s (ahZ.1 h) m;exact⟨q,b,d,g,j.eq⟩
 .obtain⟨q,b,d,g,j⟩:=L_ p s h l m;exact⟨q,b,d,g,j.eq⟩
def Pf(p:aR)(d:cO p=ae)(b:p.bH.length<=1000000)(v:p.head.length<=1000000):∃q,pH p q/\q.bH.length<=p.bH.length/\q.head.length<=p.head.length/\bf tab Vx [.a (p.row.map .f)]=Eq (.t [.a (q.row.map .f),vi 0]):=by
 obtain⟨q,l,m,s,j⟩:=qf p d b v;have g:=wm p (jL d);rw[d]at g;refine⟨q,l,m,s,bf.eq (bD rfl rfl λQ u=>?_)⟩;simp only[aR.row,IT,agN]at g j ⊢;apply ai;simp;apply aU;simp[g];refine bG bv ?_;apply ai;simp[j];refine av (u _ _ ?_);simp[aR.row]
def M5(Y:cO q=ae)(U:0<=a){i:Nat}(hi:i<=q.head.length)(A:∀j (h:j<q.head.length),j<i->q.head[j]<a)(y:∀j (h:j<q.head.length),i<=j->a<=q.head[j]){fr:Int}(W:fr=max q.fr a){p:List Int}(l:p.Perm (gC q.fr fr q.aO q.bH))(z:p.Pairwise (·<=·))(I:a<=1099511627776)(J F:Tg) :
  cO ⟨J,q.head.drop i,fr,q.aO,F,p⟩=ae/\(∀d,0<=d->bE ⟨J,q.head.drop i,fr,q.aO,F,p⟩ d=(decide (a<=d)&&bE q d))/\p.length=q.bH.length:=by
 obtain⟨n,o,v,N,r,O,H,Q,S⟩:=bM Y;have s:∀x∈q.bH,0<=x/\x<q.aO:=λx B=>by have:=S x B;omega
 obtain⟨e,f,L⟩:=sw v Q s l z;refine⟨uQ (by show 0<=fr;omega) (by show fr<=_;omega) v N (by show(q.head.drop i).length+p.length<=_;rw[ag5,L];omega) (O.sublist (List.drop_sublist _ _)) (λx B=>?_) e f,λd hd=>?_,L⟩
 .have:=H x (ahM B);exact⟨ap,by show x<fr;omega⟩
 .have c:(d-fr) % q.aO∈p↔xW q.fr q.aO q.bH d:=by rw[l.mem_iff];exact zY v s d
  have m:d∈q.head.drop i↔a<=d/\d∈q.head:=by
   constructor
   .intro h;obtain⟨j,u,rfl⟩:=ag1 h;rw[aip];exact⟨y _ (by simp at u;omega) ap,IN _⟩
   .rintro⟨h,M⟩;obtain⟨j,u,rfl⟩:=ag1 M;have X:i<=j:=by
     rcases ahS j i with k|k
     .have:=A j u k;omega
     .exact k
    refine List.mem_of_getElem? (i:=j-i) ?_;rw[List.getElem?_drop,show i+(j-i)=j by omega,BY u]
  unfold bE;simp only;rw[aiq];simp only[IS,decide_eq_true_eq];by_cases k:fr<=d
  .rw[ct k,ct ap,decide_eq_true_eq,decide_eq_true_eq,c];exact⟨λh=>⟨ap,h⟩,λh=>h.2⟩
  .rw[cC k,decide_eq_true_eq,m];by_cases K:q.fr<=d
   .rw[ct K,decide_eq_true_eq];constructor
    .rintro⟨g,b⟩;have:=H d b;omega
    .rintro⟨g,b⟩;omega
   .rw[cC K,decide_eq_true_eq]
structure LQ(p:aR)(H:an)(b0 bq:Nat)(fr:Int)(c cq:C)(hd nF:List Int)(J:an):Prop where
 hb:b0=H.length
 kp:∀i:Nat,i<b0->J[i]?=H[i]?
 bp:J[b0]?=E [.f (sl p.hg (ints p.head)),Z p.fr,Z p.aO,.f (sl p.cg (ints p.bH))]
 br:J[b0+1]?=E [.f .aN,Z 0,Z 0,.f .aN]
 bx:J[bq]?=E [c,Z fr,Z p.aO,cq]
 big:b0+1<bq
 lc:LR J c 1 (ints hd)
 lq:LR J cq 1 (ints nF)
 ne:∀i,bz c=aa i->bz cq≠aa i
 cb:∀i,bz c=aa i->b0+1<i
 qb:∀i,bz cq=aa i->b0+1<i
theorem LQ.app{p:aR}{H:an}{b0 v:Nat}{fr:Int}{c F:C}{hd nF:List Int}{J:an}(h:LQ p H b0 v fr c F hd nF J)(hl:nF.length<=1000000)(n:Int) :
  ∃m j,bZ (J++[.box [Z n] 0]) 1 8 (.c F) (.c (.sl J.length 0 1 1 0 1))=aa (.c m,j)/\dj j (.ptr v 3 0) [m]=aa (j.set v (.box [c,Z fr,Z p.aO,m] 0))/\LQ p H b0 v fr c m hd (nF++[n]) (j.set v (.box [c,Z fr,Z p.aO,m] 0)):=by
 obtain⟨B,b⟩:=aH (J++[.box ([fi n].map .f) 0]:an);have N:=aj h.bx;have hg:=h.big;have up:∀(i:Nat) y,J[i]?=aa y->B[i]?=aa y:=λi y hy=>by rw[b,AI (aj hy)];exact hy
 have x:LR B F 1 (ints nF):=by rw[b];exact h.lq.push _
 have I:B[J.length]?=E ([fi n].map .f):=by rw[b];simp
 obtain⟨m,j,l,s,q,A⟩:=x.app (Km.Ord.cW nF) ce (row:=[fi n]) rfl (bytes:=8) (iL ip ce) I;have h2:B.length=J.length+1:=by rw[b];simp
 have u:∀(i:Nat) y,J[i]?=aa y->nJ y=ae->j[i]?=aa y:=λi y hy M=>q.2 i y (up _ _ hy) (oX x (up _ _ hy) M);have d:=u _ _ h.bx rfl;have L:ints nF++[[fi n]]=ints (nF++[n]):=ol
 rw[L]at s;have z:LR j c 1 (ints hd):=h.lc.bS λi y hy hi=>q.2 i y (up _ _ hy) (h.ne i hi);refine⟨m,j,by rw[b]at l;exact l,by simp[dj,d,over],h.hb,λi hi=>?_,?_,?_,By (aj d),hg,z.set (z.cm d) _,s.set (s.cm d) _,?_,h.cb,?_⟩
 .rw[sh ap,<-h.kp i hi];have K:i<J.length:=ii
  have hy:J[i]?=aa J[i]:=BY K;rw[hy];exact q.2 i _ (up _ _ hy) (λe=>by have:=h.qb i e;omega)
 .rw[sh ap];exact u _ _ h.bp rfl
 .rw[sh ap];exact u _ _ h.br rfl
 .intro i hi g;rcases A with e|e
  .rw[e]at g;exact h.ne i hi g
  .rw[e]at g;cases g;have:=h.lc.lt hi;omega
 .intro i hi;rcases A with e|e
  .rw[e]at hi;exact h.qb i hi
  .rw[e]at hi;cases hi;omega
def zd(p:aR)(hp:cO p=ae)(r7:p.bH.length<=1000000)(hl:p.head.length<=1000000)(m:Int)(j_:0<=m)(k_:m<=1099511627776)(H:an) :
  ∃r H',Ev tab (.fn XC) [.a (p.row.map .f),vi m] H r H'/\(∃fr c b hd l2,r=.a [c,Z fr,Z p.aO,b]/\fr=max p.fr m/\H.length<=H'.length/\(∀i:Nat,i<H.length->H'[i]?=H[i]?)/\LR H' c 1 (ints hd)/\LR H' b 1 (ints l2)/\(∀i,bz c=aa i->bz b≠aa i)/\(∀i,bz c=aa i->H.length<=i)/\(∀i,bz b=aa i->H.length<=i)/\
   hd.length<=p.head.length/\l2.length=p.bH.length/\∀U M:Tg,cO ⟨U,hd,fr,p.aO,M,l2⟩=ae/\∀d,0<=d->bE ⟨U,hd,fr,p.aO,M,l2⟩ d=(decide (m<=d)&&bE p d)):=by
 obtain⟨q1,q2,q3,q4,q5,q6,q7,q8,q9⟩:=bM hp;obtain⟨i,hi,n9,m9,j5⟩:=gJ p.hg p.head m ap q6;obtain⟨fr,S⟩:=aH (max p.fr m);have i6:max p.fr m=fr:=S.symm;refine dc rfl rfl λQ hQ=>?_;apply ai;simp[aR.row];obtain⟨A,s⟩:=aH (H++[.box [.f (sl p.hg (ints p.head)),Z p.fr,Z p.aO,.f (sl p.cg (ints p.bH))] 0,.box [.f .aN,Z 0,Z 0,.f .aN] 0]:an);obtain⟨b0,v⟩:=aH (H.length);rw[<-s,<-v];have a0:A[b0]?=E [.f (sl p.hg (ints p.head)),Z p.fr,Z p.aO,.f (sl p.cg (ints p.bH))]:=by rw[s,v];simp
 have a1:A[b0+1]?=E [.f .aN,Z 0,Z 0,.f .aN]:=by rw[s,v,agL ap];simp
 have al:A.length=b0+2:=by rw[s,v];simp
 have ak:∀i:Nat,i<b0->A[i]?=H[i]?:=λi hi=>by rw[s,AI ap]
 have K:∀J:an,J[b0]?=E [.f (sl p.hg (ints p.head)),Z p.fr,Z p.aO,.f (sl p.cg (ints p.bH))]->aV J ab (.c (.ptr b0 0 0))=aa (G (sl p.hg (ints p.head)))/\aV J ab (.c (.ptr b0 1 0))=aa (vi p.fr)/\aV J ab (.c (.ptr b0 2 0))=aa (vi p.aO)/\aV J ab (.c (.ptr b0 3 0))=aa (G (sl p.cg (ints p.bH))):=λJ h=>by
  refine⟨?_,?_,?_,?_⟩<;>simp[aV,az,h]
 obtain⟨e0,e1,e2,e3⟩:=K A a0;obtain⟨g1,I⟩:=Dx (H:=A) (g:=p.hg) (k:=i) (Km.Ord.cW p.head) ip ip;have l_:(ints p.head).drop i=ints (p.head.drop i):=by simp[ints,ait]
 rw[l_]at I;obtain⟨c,Jc,F,c_,g_⟩:=vV (H:=A) (g:=g1) (p.head.drop i) ge;obtain⟨HJ,O⟩:=aH (A++Jc:an);rw[<-O]at F c_;have u:∀k:Nat,k<b0+2->HJ[k]?=A[k]?:=λk q=>by rw[O,AI ap]
 have lJ:b0+2<=HJ.length:=by rw[O,agM];omega
 obtain⟨f0,f1,f2,f3⟩:=K HJ (by rw[u b0 ap];exact a0);apply ai;simp[e0,-aw,j5];refine aE (eH (.inl rfl) ?_ ?_)
 case refine_2=>
  intro cc j8;have j7:cc=(6,4)\/cc=(10,4):=by simpa using j8
  rcases j7 with rfl|rfl
  .refine⟨ce,_,rfl,.inr ⟨ce,?_⟩⟩;simp[e0,e1,f1,-aw,I,F,gE,vS]
  .refine⟨ce,_,rfl,.inr ⟨ce,?_⟩⟩;simp[e0,e1,e2,f1,f2,-aw,I,F,i6,gE,vS]
 simp[e0,f1,f2,-aw,I,F,i6];obtain⟨L,h_⟩:=aH (HJ.length);obtain⟨HK,B⟩:=aH (HJ++[bV.box [c,Z fr,Z p.aO,.f .aN] 0]);have c9:LQ p H b0 L fr c (.f .aN) (p.head.drop i) [] HK:=by
  have w:∀k:Nat,k<b0+2->HK[k]?=A[k]?:=λk q=>by rw[B,AI ap,u k q]
  refine⟨v,λk q=>by rw[w k ap,ak k q],by rw[w b0 ap];exact a0,by rw[w (b0+1) ap];exact a1,by rw[B,h_];simp,ap,by rw[B];exact c_.push _,LR.nil _ _,(λi hi h=>by cases h),λk q=>by have:=g_ k q;omega,(λk q=>by cases q)⟩
 rw[<-h_,<-B];have i_:∀H:an,bA H (.f (sl p.cg (ints p.bH)))=aa p.bH.length:=λH=>by simp[ints]
 have m_:=(K HK c9.bp).2.2.2;apply aU;simp[m_,-aw,i_];refine bW p.bH.length (λi' t J=>t.g 2=.c (.ptr b0 0 0)/\t.g 4=.c (.ptr (b0+1) 0 0)/\t.g 7=.c (.ptr L 0 0)/\t.g 30=G (sl p.cg (ints p.bH))/\∃b,LQ p H b0 L fr c b (p.head.drop i) (gC p.fr fr p.aO (p.bH.take i')) J) ap ce ce bv bv
  ⟨bv,bv,bv,bv,.f .aN,by simpa[gC]using c9⟩ ?_ ?_
 .rintro j t J hj ⟨g2,g4,g7,N,b,l⟩ ha hb next
  have j9:=q9 _ (IN hj);have i8:=λH:an=>bu (H:=H) (g:=p.cg) (rows:=ints p.bH) (sz:=1) (k:=.i64) (i:=(j:Int)) ap ip;have i9:=λH:an=>dY (H:=H) hj;simp at i8;obtain⟨x,hx⟩:=aH (p.bH[j]);rw[<-hx]at j9 i9;have p_:p.bH.take (j+1)=p.bH.take j++[x]:=by rw[agV,BY hj,hx];rfl
  have i7:=Fy (p.fr+x-fr) p.aO ap ap;obtain⟨c3,H3,f_,p9,o_⟩:=l.app (by simp[gC];omega) ((p.fr+x-fr) % p.aO);have a_:aV J ab (.c (.ptr L 3 0))=aa (.c b):=by simp[aV,az,l.bx]
  have r6:aV J ab (.c (.ptr L 1 0))=aa (vi fr):=by simp[aV,az,l.bx]
  obtain⟨-,j1,j2,-⟩:=K J l.bp;apply ax;apply ai;simp[ha,N,i8,i9];apply ba;simp[g2,g7,a_,r6,j1,j2,-aw,a8 (n:=p.fr+x),a8 (n:=p.fr+x-fr),i7,f_,p9,-bF];refine au (next _ _ ?_ (by simp[ha]) (by simp[hb]));refine⟨by simp[g2],by simp[g4],by simp[g7],by simp[N],c3,?_⟩;rw[p_];simpa[gC]using o_
 .rintro t J ⟨g2,g4,g7,N,b,l⟩ - -;rw[agW]at l;obtain⟨r,H2,he,rfl,hK,l2,b_,X,n8⟩:=SG l.lq (by simp[gC];omega);have up:∀(k:Nat) y,J[k]?=aa y->nJ y=ae->H2[k]?=aa y:=λk y Y hn=>hK.2 k y Y (oX l.lq Y hn);have j6:=up _ _ l.bx rfl;have z:=up _ _ l.br rfl;have d9:LR H2 c 1 (ints (p.head.drop i)):=l.lc.bS λk y Y q=>hK.2 k y Y (l.ne k q);have a_:aV J ab (.c (.ptr L 3 0))=aa (.c b):=by simp[aV,az,l.bx]
  have q_:aV H2 (aa 4) (.c (.ptr L 0 0))=aa (.a [c,Z fr,Z p.aO,b]):=by simp[aV,az,j6,aX]
  have s1:dj H2 (.ptr (b0+1) 0 0) [c,Z fr,Z p.aO,b]=aa (H2.set (b0+1) (.box [c,Z fr,Z p.aO,b] 0)):=by simp[dj,z,over]
  have n1:(H2.set (b0+1) (.box [c,Z fr,Z p.aO,b] 0))[b0+1]?=E [c,Z fr,Z p.aO,b]:=By (aj z);have d_:=d9.set (d9.cm z) (.box [c,Z fr,Z p.aO,b] 0);have e_:=b_.set (b_.cm z) (.box [c,Z fr,Z p.aO,b] 0);have r9:=aj z;apply ai;simp[g7,a_,-aw,he.eq];apply ai;simp[g4,g7,q_,s1,-aw,-bF];have W:=λU M=>M5 hp j_ hi n9 m9 S X n8 k_ U M;refine av (hQ _ _ (.a [c,Z fr,Z p.aO,b]) rfl ?_ ⟨fr,c,b,p.head.drop i,l2,rfl,S,ge,λk q=>?_,d_,e_,l.ne,λk q=>by have:=l.cb k q;omega,λk q=>by have:=l.qb k q;omega,bv,(W .nil .nil).2.2,λU M=>⟨(W U M).1,(W U M).2.1⟩⟩)
  .simp[Km.results,cB,bC,g4,n1,aX]
  .rw[sh ap,<-l.kp k ap];have n_:k<J.length:=by have:=aj l.bp;omega
   have Y:J[k]?=aa J[k]:=BY n_;rw[Y];exact hK.2 k _ Y (λe=>by have:=l.qb k e;omega)
def wa(h:LR H c 1 (ints l))(B:n<l.length):∃b g,bz c=aa b/\bO H 1 ab (.c c) (vi n)=aa (.c (.ptr b n g))/\aV H ab (.c (.ptr b n g))=aa (vi l[n])/\
  ∀x:Int,∃J',dj H (.ptr b n g) [Z x]=aa J'/\LR J' c 1 (ints (l.set n x))/\J'.length=H.length/\∀i:Nat,i≠b->i<H.length->J'[i]?=H[i]?:=by
 rcases h with⟨A,_⟩|⟨s,b,g,rfl,q⟩
 .cases l with
  |nil=>simp at B| cons a l=>simp[ints]at A
 .have d:n<(ints l).length:=ip
  have u:=q.at d;have m:(ints l)[n]=[fi l[n]]:=ol
  have v:=q.ldc (Km.Ord.cW l) (BY d) (k:=0) (x:=fi l[n]) (by rw[m];rfl);rw[aiC]at u v;refine⟨b,g,rfl,u,v,λx=>?_⟩
  .obtain⟨J',y,z,J,I⟩:=q.str (row:=[fi x]) (Km.Ord.cW l) d rfl;rw[aiC]at y;have e:(ints l).set n [fi x]=ints (l.set n x):=by simp[ints,List.map_set]
   rw[e]at z;refine⟨J',y,.inr ⟨?_,b,g,by simp[ints],z⟩,I,λi hi F=>J.2 i hi F⟩;intro h;apply s;have:=congrArg List.length h;simp[ints]at this;rw[this];rfl
def NC{p:aR}(L:a<=0)(q m:Tg)(K:cO ⟨q,Y,r,p.aO,m,l⟩=ae)(O:∀d,0<=d->bE ⟨q,Y,r,p.aO,m,l⟩ d=(decide (-a<=d)&&bE p d))(N:-a<=r)(j:∀x∈Y,-a<=x) :
  cO ⟨q,Y.map (· + a),r+a,p.aO,m,l⟩=ae/\∀d,0<=d->bE ⟨q,Y.map (· + a),r+a,p.aO,m,l⟩ d=bE p (d-a):=by
 obtain⟨Q,S,z,A,B,F,H,I,J⟩:=bM K;simp only at Q S z A B F H I J;refine⟨uQ (by show 0<=r+a;omega) (by show r+a<=_;omega) z A (by simpa using B) ?_ ?_ I (λx u=>by have:=J x u;exact⟨ap,by show x<p.aO;omega⟩),λd M=>?_⟩
 .show(Y.map (· + a)).Pairwise (· < ·);rw[aiB];exact aiZ (λh=>by omega) F
 .intro x u;have u:x∈Y.map (· + a):=u;obtain⟨y,s,rfl⟩:=agX.1 u;have g:=H y s;have b:=j y s;exact⟨ap,by show y+a<r+a;omega⟩
 .have v:=O (d-a) ap;rw[decide_eq_true (show -a<=d-a by omega),ahJ]at v;rw[<-v];unfold bE;simp only;by_cases k:r+a<=d
  .rw[ct k,ct ap,show d-(r+a)=d-a-r by omega]
  .rw[cC k,cC ap];apply decide_eq_decide.2;rw[agX];constructor
   .rintro⟨y,s,e⟩;rw[show d-a=y by omega];exact s
   .intro h;exact⟨_,h,ap⟩
def RD(h:LR H c 1 (ints l)):∀(i:Nat) (y:bV),H[i]?=aa y->bz c≠aa i->(ez deep c H)[i]?=aa y:=by
 rcases h with⟨_,rfl|rfl⟩|⟨u,b,s,rfl,q⟩
 .intro i y d _;exact d
 .intro i y d _;exact d
 .unfold RB at q;intro i y d hi;have g:b≠i:=λe=>hi (by rw[e];rfl);have e:∃z,ez deep (.sl b 0 (ints l).length 0 s 1) H=H.set b z:=by
   simp only[deep,jY,q];rw[jF]
   .exact⟨_,rfl⟩
   .intro x j;have j:=ahM (List.mem_of_mem_take j);obtain⟨m,_,rfl⟩:=agX.1 j;exact⟨_,rfl⟩
  obtain⟨z,v⟩:=e;rw[v,sh g];exact d
def BV(p:aR)(hp:cO p=ae)(f_:p.bH.length<=1000000)(hl:p.head.length<=1000000)(g:Int)(m_:-1000000<=g)(e_:g<=0) :
  ∃q,cO q=ae/\q.fr<=p.fr/\q.aO ∣ p.aO/\q.bH.length<=p.bH.length/\q.head.length<=p.head.length/\(∀d,0<=d->bE q d=bE p (d-g))/\bf tab Pg [.a (p.row.map .f),vi g]=Eq (.t [.a (q.row.map .f),vi 0]):=by
 obtain⟨q1,q2,q3,q4,q5,q6,q7,q8,q9⟩:=bM hp;have hv:=wm p (jL hp);rw[hp]at hv;obtain⟨rr,⟨q,c1,c2,c3,c4,c5,c6,rfl⟩,h⟩:∃rr,(∃q,cO q=ae/\q.fr<=p.fr/\q.aO ∣ p.aO/\q.bH.length<=p.bH.length/\q.head.length<=p.head.length/\(∀d,0<=d->bE q d=bE p (d-g))/\rr=.t [.a (q.row.map .f),vi 0])/\bf tab Pg [.a (p.row.map .f),vi g] rr:=by
  refine dE rfl rfl λQ hQ=>?_;obtain⟨HA,I⟩:=aH ([.box [.f (sl p.hg (ints p.head)),Z p.fr,Z p.aO,.f (sl p.cg (ints p.bH))] 0,.box [.f .aN,Z 0,Z 0,.f .aN] 0]:an);obtain⟨r,HL,s,fr,c,B,hd,l2,rfl,n9,k_,i8,d9,d_,w,n8,p9,n_,o_,m⟩:=zd p hp f_ hl (-g) ap ap HA;have s:=s.eq;simp only[aR.row,IT,agN]at s hv ⊢;have l_:HA.length=2:=by rw[I];rfl
  have M:∀x∈hd,-g<=x:=λx hx=>by
   obtain⟨a,b⟩:=m .nil .nil;obtain⟨-,-,-,-,-,-,k7,-,-⟩:=bM a;have h7:=k7 x hx;simp only at h7;have hb:=b x ap;have hm:bE ⟨.nil,hd,fr,p.aO,.nil,l2⟩ x=ae:=by
    unfold bE;simp only;rw[cC ap];simpa using hx
   rw[hm]at hb;have:=hb.symm;rw[IS,decide_eq_true_eq]at this;exact this.1
  have i_:∀x∈hd,x<=2000000000000:=λx hx=>by
   obtain⟨-,-,-,-,-,-,k7,-,-⟩:=bM (m .nil .nil).1;have h7:=k7 x hx;simp only at h7;omega
  apply ai;simp;apply aU;simp[hv,show¬ g < -1099511627776 by omega,show¬ 1099511627776<g by omega];refine bG bv ?_;rw[<-I];have a0:HA[0]?=E [.f (sl p.hg (ints p.head)),Z p.fr,Z p.aO,.f (sl p.cg (ints p.bH))]:=by rw[I];rfl
  have a1:HA[1]?=E [.f .aN,Z 0,Z 0,.f .aN]:=by rw[I];rfl
  have i9:max (-g) 0 = -g:=ii
  have a_:Tc .neg (vi g)=aa (vi (-g)):=by
   show aa (vi (ah .i64 (0-g)))=_;rw[Int.zero_sub,a8]
  apply ai;simp[a0,aX,a_,i9,s];obtain⟨l,k⟩:=aH (HL.length);rw[<-k];obtain⟨K,S⟩:∃K:Int->List Int->an->Prop,K=λf h J=>J[1]?=E [.f .aN,Z 0,Z 0,.f .aN]/\J[l]?=E [c,Z f,Z p.aO,B]/\LR J c 1 (ints h)/\LR J B 1 (ints l2):=⟨_,rfl⟩
  have k0:K fr hd (HL++[.box [c,Z fr,Z p.aO,B] 0]):=by
   rw[S];exact⟨by rw[AI ap,i8 1 ap];exact a1,by rw[k];simp,d9.push _,d_.push _⟩
  generalize HL++[bV.box [c,Z fr,Z p.aO,B] 0]=H1 at k0 ⊢;have o:∀f h J,K f h J->∀X,dj J (.ptr l 1 0) [Z X]=aa (J.set l (.box [c,Z X,Z p.aO,B] 0))/\K X h (J.set l (.box [c,Z X,Z p.aO,B] 0)):=by
   intro f h J v X;rw[S]at v ⊢;obtain⟨m1,m2,u,F⟩:=v;refine⟨by simp[dj,m2,over],by rw[sh ap];exact m1,By (aj m2),u.set (u.cm m2) _,F.set (F.cm m2) _⟩
  have L:∀f h J,K f h J->aV J ab (.c (.ptr l 0 0))=aa (.c c)/\aV J ab (.c (.ptr l 1 0))=aa (vi f)/\aV J (aa 4) (.c (.ptr l 0 0))=aa (.a [c,Z f,Z p.aO,B])/\bA J c=aa h.length:=by
   intro f h J v;rw[S]at v;obtain⟨m1,m2,u,F⟩:=v;refine⟨?_,?_,?_,?_⟩
   .simp[aV,az,m2]
   .simp[aV,az,m2]
   .simp[aV,az,m2,aX]
   .have:=u.len;simpa[ints]using this
  obtain⟨-,e1,-,-⟩:=L _ _ _ k0;obtain⟨s1,k1⟩:=o _ _ _ k0 (fr+g);apply ai;simp[e1,-aw,a8 (n:=fr+g),s1,-bF];generalize H1.set l (.box [c,Z (fr+g),Z p.aO,B] 0)=H2 at k1 ⊢;obtain⟨f0,-,-,fl⟩:=L _ _ _ k1;apply aU;simp[f0,-aw,fl];refine bW hd.length (λj t J=>t.g 1=vi g/\t.g 4=.c (.ptr 1 0 0)/\t.g 6=.c (.ptr l 0 0)/\K (fr+g) ((hd.take j).map (· + g)++hd.drop j) J) ap ce ce bv bv ⟨bv,bv,bv,by simpa using k1⟩ ?_ ?_
  .rintro j t J hj ⟨g1,g4,O,v⟩ ha hb next
   have i7:j<((hd.take j).map (· + g)++hd.drop j).length:=pp
   have c9:((hd.take j).map (· + g)).length=j:=pp
   have i6:((hd.take j).map (· + g)++hd.drop j)[j]=hd[j]:=by
    rw[List.getElem_append_right ap];simp only[c9,aiD,aip,Nat.add_zero]
   have p_:=M _ (IN hj);have q_:=i_ _ (IN hj);obtain⟨j5,-,-,-⟩:=L _ _ _ v;have A:=v;rw[S]at A;obtain⟨m1,m2,u,F⟩:=A;obtain⟨b,ep,ub,ix,c_,j_⟩:=wa u i7;rw[i6]at c_;obtain⟨J',us,uL,ul,uk⟩:=j_ (hd[j]+g);have b_:((hd.take j).map (· + g)++hd.drop j).set j (hd[j]+g)=(hd.take (j+1)).map (· + g)++hd.drop (j+1):=by
    rw[List.set_append_right _ _ ap,c9,aiD,agV,BY hj,agT hj];simp only[List.set_cons_zero,Option.toList_some,ahQ,IT,agN,ahm,ahO,ahL]
   rw[b_]at uL;apply ax;apply ai;simp[ha];apply ba;simp[g1,O,j5,ix,c_,-aw,a8 (n:=hd[j]+g),us,-bF];refine au (next _ _ ?_ (by simp[ha]) (by simp[hb]));refine⟨by simp[g1],by simp[g4],by simp[O],?_⟩;rw[S];refine⟨?_,?_,uL,F.bS λi y N hi=>?_⟩
   .rw[uk 1 (λe=>by have:=u.cm m1;exact this (e▸ub)) (aj m1)];exact m1
   .rw[uk l (λe=>by have:=u.cm m2;exact this (e▸ub)) (aj m2)];exact m2
   .rw[uk i (λe=>w b ub (e▸hi)) (aj N)];exact N
  .rintro t J ⟨g1,g4,O,v⟩ - -;rw[agW,aib,ahe]at v;obtain⟨-,-,j6,-⟩:=L _ _ _ v;have A:=v;rw[S]at A;obtain⟨m1,m2,u,F⟩:=A;obtain⟨g3,g_⟩:=u.exU (Km.Ord.cW _);obtain⟨H,h_⟩:=F.exU (Km.Ord.cW _);have x3:=g_ J 63 (λi y N _=>N);have x4:=h_ J 63 (λi y N _=>N);obtain⟨j8,j9⟩:=NC (p:=p) e_ g3 H (m g3 H).1 (m g3 H).2 ap M;obtain⟨q,⟨d1,d2,d3,d4⟩,d5,d6,z⟩:=qf ⟨g3,hd.map (· + g),fr+g,p.aO,H,l2⟩ j8 (by show l2.length<=_;omega) (by show(hd.map (· + g)).length<=_;simp;omega);simp only[aR.row,IT,agN]at z d2 d3 d5 d6;simp only[agS]at d6;have u3:∀(i:Nat) (y:bV),J[i]?=aa y->bz c≠aa i->(ez deep c J)[i]?=aa y:=RD u;apply aU;simp only[deep]at u3 z;have j7:LR (ez 64 c J) B 1 (ints l2):=F.bS λi y N hi=>u3 i y N (λe=>w i e hi);have u4:=RD j7;simp only[deep]at u4;have w1:=u4 1 _ (u3 1 _ m1 (u.cm m1)) (F.cm m1);have w2:=u4 l _ (u3 l _ m2 (u.cm m2)) (F.cm m2);obtain⟨U,Y⟩:=aH (ez 64 B (ez 64 c J));rw[<-Y]at w1 w2;obtain⟨QC,m9⟩:=aH ([.f (sl q.hg (ints q.head)),Z q.fr,Z q.aO,.f (sl q.cg (ints q.bH))]:List C);have t1:dj U (.ptr l 0 0) [.f (sl q.hg (ints q.head)),Z q.fr,Z q.aO,.f (sl q.cg (ints q.bH))]=aa (U.set l (.box [.f (sl q.hg (ints q.head)),Z q.fr,Z q.aO,.f (sl q.cg (ints q.bH))] 0)):=by simp[dj,w2,over]
   have t2:(U.set l (.box [.f (sl q.hg (ints q.head)),Z q.fr,Z q.aO,.f (sl q.cg (ints q.bH))] 0))[l]?=E [.f (sl q.hg (ints q.head)),Z q.fr,Z q.aO,.f (sl q.cg (ints q.bH))]:=By (aj w2);have t3:(U.set l (.box [.f (sl q.hg (ints q.head)),Z q.fr,Z q.aO,.f (sl q.cg (ints q.bH))] 0))[1]?=E [.f .aN,Z 0,Z 0,.f .aN]:=by rw[sh ap];exact w1
   simp[O,j6,-aw,x3,x4,deep,z,<-Y,t1,-bF];generalize U.set l (.box [.f (sl q.hg (ints q.head)),Z q.fr,Z q.aO,.f (sl q.cg (ints q.bH))] 0)=W at t2 t3 ⊢;have l1:aV W ab (.c (.ptr l 1 0))=aa (vi q.fr):=by simp[aV,az,t2]
   have l4:aV W (aa 4) (.c (.ptr l 0 0))=aa (.a [.f (sl q.hg (ints q.head)),Z q.fr,Z q.aO,.f (sl q.cg (ints q.bH))]):=by simp[aV,az,t2,aX]
   have s4:dj W (.ptr 1 0 0) [.f (sl q.hg (ints q.head)),Z q.fr,Z q.aO,.f (sl q.cg (ints q.bH))]=aa (W.set 1 (.box [.f (sl q.hg (ints q.head)),Z q.fr,Z q.aO,.f (sl q.cg (ints q.bH))] 0)):=by simp[dj,t3,over]
   have n1:(W.set 1 (.box [.f (sl q.hg (ints q.head)),Z q.fr,Z q.aO,.f (sl q.cg (ints q.bH))] 0))[1]?=E [.f (sl q.hg (ints q.head)),Z q.fr,Z q.aO,.f (sl q.cg (ints q.bH))]:=By (aj t3);apply ai;simp[O,l1,-aw,show¬ 1099511627776<q.fr by omega];refine bG bv ?_;apply ai;simp[g4,O,l4,s4,-aw,-bF];refine av (hQ _ _ _ ⟨q,d1,ap,d3,ap,ap,λd hd=>?_,rfl⟩ ?_)
   .rw[d4 d hd];exact j9 d hd
   .simp[g4,n1,aR.row]
 exact⟨q,c1,c2,c3,c4,c5,c6,h.eq⟩
def Dm(a0:1<=a)(a1:a<=1000000)(b0:1<=b)(b1:b<=1000000):bf tab acd [vi a,vi b]=Eq (.t [vi (a / (ahw a b:Int)*b),vi 0]):=by
 obtain⟨g,l⟩:=aH ((ahw a b:Int):Int);have j:ahw a b=ah5 a.toNat b.toNat:=by
  show ah5 a.natAbs b.natAbs=_;rw[show a.natAbs=a.toNat by omega,show b.natAbs=b.toNat by omega]
 have m:0<g:=by have:=ahX b (show a≠0 by omega);omega
 have d:bf tab AX [vi a,vi b]=Eq (vi g):=by
  have h:=yS (a:=a.toNat) (b:=b.toNat) ap ap;rw[show((a.toNat:Nat):Int)=a by omega,show((b.toNat:Nat):Int)=b by omega,<-j,<-l]at h;exact h
 rw[<-l];have u:de .quo (vi a) (vi g)=aa (vi (a / g)):=eI ap m ap;have v:de .quo (vi 1099511627776) (vi b)=aa (vi (1099511627776 / b)):=eI ap ap ap;have q:0<=a / g:=ahC ap ap;have x:a / g<=a:=aic _ ap;have y:a / g<=1099511627776 / b:=by
  have:1000000<=1099511627776 / b:=by rw[Int.le_ediv_iff_mul_le ap];omega
  omega
 have z:0<=a / g*b:=ahy q ap;have A:a / g*b<=1000000*1000000:=aiy ap b1 ap ap;refine bf.eq (bD rfl rfl λQ s=>?_);apply ai;simp;apply aU;simp[show¬ a<1 by omega,show¬ b<1 by omega];refine bG bv ?_;apply ai;simp[d,u];apply aU;simp[v,show¬ 1099511627776 / b<a / g by omega];refine bG bv ?_;apply ai;simp[a8 (n:=a / g*b)];refine av (s _ _ ?_);simp
def BS(p:aR)(u:cO p=ae)(I:p.bH.length<=1000000)(J:p.head.length<=1000000)(n:Int)(s:0<=n)(K:n<=1000000):∃k:Int,0<=k/\k<=p.head.length+n+p.bH.length/\bf tab XA [.a (p.row.map .f),vi n]=Eq (vi k):=by
 obtain⟨L,M,N,O,S,y,U,j,z⟩:=bM u;by_cases k:n<=p.fr
 .obtain⟨i,q,-,-,b⟩:=gJ p.hg p.head n ap y;refine⟨i,ap,ap,bf.eq (bD rfl rfl λQ d=>?_)⟩;apply ai;simp[aR.row];apply aU;simp[k];refine aq bv ?_;apply ai;simp[b];apply ai;simp;refine av (d _ _ ?_);simp
 .obtain⟨i,q,-,-,b⟩:=gJ p.cg p.bH ((n-p.fr) % p.aO) ap j;have l:de .rem (vi (n-p.fr)) (vi p.aO)=aa (vi ((n-p.fr) % p.aO)):=gn ap ap;have m:de .quo (vi (n-p.fr)) (vi p.aO)=aa (vi ((n-p.fr) / p.aO)):=eI ap ap ap;have g:0<=(n-p.fr) / p.aO:=ahC ap ap;have A:(n-p.fr) / p.aO<=n-p.fr:=aic _ ap;have B:0<=(n-p.fr) / p.aO*(p.bH.length:Int):=ahy g ap;have H:=fq p.bH 0 p.aO j λx v=>by have:=z x v;omega
  have F:(n-p.fr) / p.aO*(p.bH.length:Int)<=n-p.fr:=ahx (ag0 ap g) (Int.ediv_mul_le _ ap);refine⟨p.head.length+(n-p.fr) / p.aO*(p.bH.length:Int)+i,ap,ap,bf.eq (bD rfl rfl λQ d=>?_)⟩;apply ai;simp[aR.row];apply aU;simp[k];refine bG bv ?_;apply ai;simp[a8 (n:=n-p.fr),l,b];apply ai;simp[a8 (n:=n-p.fr),m,a8 (n:=(n-p.fr) / p.aO*(p.bH.length:Int)),a8 (n:=(p.head.length:Int)+(n-p.fr) / p.aO*(p.bH.length:Int)),a8 (n:=(p.head.length:Int)+(n-p.fr) / p.aO*(p.bH.length:Int)+i)];refine av (d _ _ ?_);simp
theorem yu{b:Type}{f:b->b->Bool}:∀{xs:List b},(∀x∈xs,f x x=ae)->jW f xs xs=ae
 |[],_=>rfl| x::xs,h=>by simp only[jW,h x agR,yu λy d=>h y (agU _ d),Bool.and_self]
def Rf(n:Nat)(x:FC):Prop:=FC.beq n x x=ae
def Iw(n:Nat)(k:IntKind)(m:Int):Rf n (.int k m):=by unfold Rf;cases n<;>simp[FC.beq]
def adt{xs:List FC}(h:∀x∈xs,Rf n x):Rf (n+1) (.fs xs N):=by unfold Rf;simp[FC.beq,yu h]
def adu(g:Tg)(h:∀r∈v,∀x∈r,Rf n x):Rf (n+1) (sl g v):=by
 unfold sl;split
 .unfold Rf;cases g<;>rfl
 .exact adt λx b=>by
   obtain⟨r,d,b⟩:=List.mem_flatten.1 b;exact h r d x b
def J9(n:Nat)(g:Tg)(l:List Int):Rf (n+1) (sl g (ints l)):=adu g λr d x b=>by
 obtain⟨k,-,rfl⟩:=agX.1 d;simp at b;subst b;exact Iw _ _ _
def Z9(p:aR):∀x∈p.row,Rf (n+1) x:=by
 intro x b;simp[aR.row]at b;rcases b with rfl|rfl|rfl|rfl
 .exact J9 _ _ _
 .exact Iw _ _ _
 .exact Iw _ _ _
 .exact J9 _ _ _
def TL:∀{xs:List FC},(∀x∈xs,Rf 64 x)->V.beq (.a (xs.map .f)) (.a (xs.map .f))=ae:=by
 intro xs h;simp only[V.beq,IS,beq_self_eq_true,true_and,ag9];intro q b;obtain⟨i,hi,rfl⟩:=ag1 b;rw[List.getElem_zip];simp only[aiF,C.beq];exact h _ (IN _)
def Jl(p:aR):V.beq (.a [.f (sl p.hg (ints p.head)),Z p.fr,Z p.aO,.f (sl p.cg (ints p.bH))]) (.a [.f (sl p.hg (ints p.head)),Z p.fr,Z p.aO,.f (sl p.cg (ints p.bH))])=ae:=TL (xs:=p.row) (Z9 (n:=63) p)
def vt(l:List (Int × C)):List (FC × C):=l.map λe=>(fi e.1,e.2)
def C8(k:Int):List (Int × C)->Option C
 |[]=>ab| e::b=>if k=e.1 then aa e.2 else C8 k b
def pe(k:Int)(c:C):List (Int × C)->List (Int × C)
 |[]=>[(k,c)]| e::b=>if k=e.1 then(k,c)::b else e::pe k c b
def Ju(a b:Int):eqK .int (fi a) (fi b)=aa (decide (a=b)):=by
 simp only[eqK,if_true];by_cases h:a=b
 .simp[h]
 .simp[h]
theorem CU(k:Int):∀l,nH .int (fi k) (vt l)=aa (C8 k l)
 |[]=>rfl
 |e::d=>by
  have b:=CU k d;simp only[vt,IT,nH,Ju,C8]at b ⊢;by_cases h:k=e.1
  .rw[ct h,decide_eq_true h]
  .rw[cC h,decide_eq_false h];exact b
theorem Iq(k:Int)(c:C):∀l,qH .int (fi k) c (vt l)=aa (vt (pe k c l))
 |[]=>rfl
 |e::d=>by
  have b:=Iq k c d;simp only[vt,IT,qH,Ju,pe]at b ⊢;by_cases h:k=e.1
  .rw[ct h,decide_eq_true h];rfl
  .rw[cC h,decide_eq_false h];simp only[b];rfl
theorem RA(k k':Int)(c:C):∀l,C8 k' (pe k c l)=if k'=k then aa c else C8 k' l
 |[]=>by simp[pe,C8]
 |e::d=>by
  have g:=RA k k' c d;unfold pe;by_cases h:k=e.1
  .rw[ct h];by_cases b:k'=k
   .simp[C8,b]
   .have:¬ k'=e.1:=ii
    simp[C8,b,this]
  .rw[cC h];unfold C8;rw[g];by_cases b:k'=e.1
   .have:¬ k'=k:=ii
    simp[b,this];intro e;omega
   .simp[b]
def qh(l:List (Int × C))(k:Int):C:=(C8 k l).getD (.f .aN)
def CM(l:List (Int × C))(k k':Int)(c:C):qh (pe k c l) k'=if k'=k then c else qh l k':=by
 unfold qh;rw[RA];by_cases h:k'=k<;>simp[h]
structure nY(J:an)(N:Nat)(l:List (Int × C))(F:Int->List Int):Prop where
 lr:∀k,LR J (qh l k) 1 (ints (F k))
 lo:∀k i,bz (qh l k)=aa i->N<=i
 ne:∀k k' i,k≠k'->bz (qh l k)=aa i->bz (qh l k')≠aa i
theorem nY.bS{J J':an}{N:Nat}{l:List (Int × C)}{F:Int->List Int}(h:nY J N l F)(b:∀i y,N<=i->J[i]?=aa y->J'[i]?=aa y):nY J' N l F:=
 ⟨λk=>(h.lr k).bS λi y hy hi=>b i y (h.lo k i hi) hy,h.lo,h.ne⟩
def VS(h:LR H c 1 (ints l)):mV c=.c c/\pJ (.c c)=aa c:=by
 rcases h with⟨_,rfl|rfl⟩|⟨_,b,d,rfl,_⟩<;>exact⟨rfl,rfl⟩
def nY.look{F:Int->List Int}(h:nY H N A F){J':an}(b:J'[n]?=aa (.map (vt A)))(k:Int):gN J' .int .aN (.c (.mp n)) (vi k)=aa (.c (qh A k)):=by
 have h2:=(VS (h.lr k)).1;unfold gN;simp only[b,isKey,if_true,CU,ahs,S9,qB,qh];unfold qh at h2;cases hc:C8 k A with
 |none=>rfl| some c=>rw[hc]at h2;simpa using h2
theorem nY.nil(J:an)(N:Nat):nY J N [] (λ_=>[]):=⟨λ_=>LR.nil _ _,λ_ _ h=>by simp[qh,C8,bz]at h,λ_ _ _ _ h=>by simp[qh,C8,bz]at h⟩
def rz(h:LR H c 1 (ints l))(J:l.length<=1000000000)(n:Int) :
  ∃j g,bZ (H++[.box [Z n] 0]) 1 8 (.c c) (.c (.sl H.length 0 1 1 0 1))=aa (.c j,g)/\LR g j 1 (ints (l++[n]))/\H.length<g.length/\(∀(i:Nat) y,H[i]?=aa y->bz c≠aa i->g[i]?=aa y)/\(bz j=bz c\/bz j=aa (H.length+1)):=by
 obtain⟨u,b⟩:=aH (H++[.box ([fi n].map .f) 0]:an);have F:∀(i:Nat) y,H[i]?=aa y->u[i]?=aa y:=λi y v=>by rw[b,AI (aj v)];exact v
 have x:LR u c 1 (ints l):=by rw[b];exact h.push _
 have z:u[H.length]?=E ([fi n].map .f):=by rw[b];simp
 have B:u.length=H.length+1:=by rw[b];simp
 obtain⟨j,g,d,q,m,s⟩:=x.app (Km.Ord.cW l) ce (row:=[fi n]) rfl (bytes:=8) (by simp[cF,ints];omega) z;have A:ints l++[[fi n]]=ints (l++[n]):=ol
 rw[A]at q;refine⟨j,g,by rw[b]at d;exact d,q,by have:=m.1;omega,λi y v hi=>m.2 i y (F i y v) hi,?_⟩;rw[B]at s;exact s
def nY.app{F:Int->List Int}(h:nY B N A F)(X:B[n]?=aa (.map (vt A)))(Q:n<N)(Y:N<=B.length)(k:Int)(hl:(F k).length<=1000000000)(m:Int) :
  ∃g j,bZ (B++[.box [Z m] 0]) 1 8 (.c (qh A k)) (.c (.sl B.length 0 1 1 0 1))=aa (.c g,j)/\pJ (.c g)=aa g/\j[n]?=aa (.map (vt A))/\(∀i:Nat,i<N->j[i]?=B[i]?)/\
   nY (j.set n (.map (vt (pe k g A)))) N (pe k g A) (λk'=>if k'=k then F k++[m]else F k')/\N<=(j.set n (.map (vt (pe k g A)))).length:=by
 obtain⟨g,j,v,u,U,l,z⟩:=rz (h.lr k) hl m;have W:∀i:Nat,i<N->j[i]?=B[i]?:=λi hi=>by
  have M:i<B.length:=ii
  have hy:B[i]?=aa B[i]:=BY M;rw[hy];exact l i _ hy λe=>by have:=h.lo k i e;omega
 have d:∀i,bz g=aa i->N<=i:=λi hi=>by
  rcases z with e|e
  .rw[e]at hi;exact h.lo k i hi
  .rw[e]at hi;cases hi;omega
 have O:j[n]?=aa (.map (vt A)):=by rw[W n Q];exact X
 refine⟨g,j,v,(VS u).2,O,W,⟨λk'=>?_,λk' i hi=>?_,λS K i J hi=>?_⟩,by rw[agZ];omega⟩
 .rw[CM];by_cases e:k'=k
  .rw[ct e,ct e];exact u.set (λx=>by have:=d n x;omega) _
  .rw[cC e,cC e];refine LR.set ((h.lr k').bS λi y hy hi=>l i y hy (h.ne k' k i e hi)) (λx=>by have:=h.lo k' n x;omega) _
 .rw[CM]at hi;by_cases e:k'=k
  .rw[ct e]at hi;exact d i hi
  .rw[cC e]at hi;exact h.lo k' i hi
 .rw[CM]at hi ⊢;have b:∀H,H≠k->∀i,bz (qh A H)=aa i->bz g≠aa i:=λH L i hi e=>by
   rcases z with q|q
   .rw[q]at e;exact h.ne H k i L hi e
   .rw[q]at e;cases e;have:=(h.lr H).lt hi;omega
  by_cases I:S=k
  .have s:¬ K=k:=λe=>J (I.trans e.symm);rw[ct I]at hi;rw[cC s];exact λq=>b K s i q hi
  .rw[cC I]at hi;by_cases s:K=k
   .rw[ct s];exact b S I i hi
   .rw[cC s];exact h.ne S K i J hi
def DE(t:T)(H:an):cA t H .pK=aa (.c (.mp H.length),H++[.map []]):=rfl
def iB(t:T)(H:an)(b:CK)(z:FC)(m k:Arg):cA t H (.lookup b z m k)=(gN H b z (m.ev t) (k.ev t)).map (·,H):=rfl
def oZ(H:an)(g:CK):V->V->V->Option (V × an)
 | .c (.mp b),.c (.f k),v=>match pJ v,H[b]? with
  |some v,aa (.map d)=>if isKey g k then(qH g k v d).map λd=>(.top,H.set b (.map d))else ab
  |_,_=>ab
 |_,_,_=>ab
def rM(t:T)(H:an)(b:CK)(m k v:Arg):cA t H (.qD b m k v)=oZ H b (m.ev t) (k.ev t) (v.ev t):=by
 simp only[cA];unfold oZ;split<;>split<;>simp_all
 all_goals (split<;>simp_all)
def cR(b d:aR)(st:Int)(j l:C)(g:Int)(m:Nat):List C:=[.f (sl b.hg (ints b.head)),Z b.fr,Z b.aO,.f (sl b.cg (ints b.bH)),.f (sl d.hg (ints d.head)),Z d.fr,Z d.aO,.f (sl d.cg (ints d.bH)),Z st,j,l,Z g,.mp m]
def Ga:List C:=[.f .aN,Z 0,Z 0,.f .aN,.f .aN,Z 0,Z 0,.f .aN,Z 0,.f .aN,.f .aN,Z 0,.f .Ap]
def ir(g:Int)(Y:List Int)(k:Int):List Int:=Y.filter λy=>decide (y % g=k)
structure PH(J:an)(N:Nat)(X Y:List Int)(g:Int)(l:List (Int × C))(cx cy:C)(m:Nat):Prop where
 lx:LR J cx 1 (ints X)
 ly:LR J cy 1 (ints Y)
 mp:J[m]?=aa (.map (vt l))
 ok:nY J N l (ir g Y)
theorem PH.bS{J J':an}{N:Nat}{X Y:List Int}{g:Int}{l:List (Int × C)}{d j:C}{m:Nat}(h:PH J N X Y g l d j m)(q:∀i:Nat,i<J.length->J'[i]?=J[i]?):PH J' N X Y g l d j m:=by
 have b:∀(i:Nat) y,J[i]?=aa y->J'[i]?=aa y:=λi y hy=>by rw[q i (aj hy)];exact hy
 exact⟨h.lx.bS λi y hy _=>b i y hy,h.ly.bS λi y hy _=>b i y hy,b _ _ h.mp,h.ok.bS λi y _ hy=>b i y hy⟩
def yg(q:aR)(st:Int)(X:List Int):Prop:=X.length=q.bH.length/\X.Pairwise (· < ·)/\(∀x∈X,0<=x/\x<q.aO)/\∀d,st<=d->(bE q d=ae↔(d-st) % q.aO∈X)
def xe{st:Int}(v:q.fr<=st)(B:0<=st)(s:a=max q.fr st)(u:l.length=q.bH.length)(h:∀j g:Tg,cO ⟨j,Y,a,q.aO,g,l⟩=ae/\∀d,0<=d->bE ⟨j,Y,a,q.aO,g,l⟩ d=(decide (st<=d)&&bE q d)):yg q st l:=by
 obtain⟨b,m⟩:=h .nil .nil;obtain⟨F,H,I,J,K,L,M,z,A⟩:=bM b;have e:a=st:=ii
 subst e;refine⟨u,z,λx y=>by have:=A x y;exact⟨ap,this.2⟩,λd Y=>?_⟩;have:=m d ap;rw[decide_eq_true Y,ahJ]at this;rw[<-this];unfold bE;simp only;rw[ct Y,decide_eq_true_eq]
structure NQ(H:an)(qa qb:aR)(st:Int)(X Y:List Int)(g:Int)(N bp m j:Nat)(cx cy:C)(l:List (Int × C))(J:an):Prop where
 kp:∀i:Nat,i<H.length->J[i]?=H[i]?
 br:J[H.length+2]?=E Ga
 bp:J[bp]?=E (cR qa qb st cx cy g m)
 lx:LR J cx 1 (ints X)
 ly:LR J cy 1 (ints Y)
 mp:J[m]?=aa (.map (vt l))
 ok:nY J N l (ir g (Y.take j))
 len:N<=J.length
def BF:C' ag [vi a,vi b,vi y]=aa (vi (max (max a b) y)):=by
 have d:(if a<b then b else a)=max a b:=by split<;>omega
 have g:(if max a b<y then y else max a b)=max (max a b) y:=by split<;>omega
 simp only[C',wY,BE];simp[d,g,V.int]
structure LdP(J:an)(bp:Nat)(qa qb:aR)(st:Int)(cx cy:C)(g:Int)(m:Nat):Prop where
 la:aV J (aa 4) (.c (.ptr bp 0 0))=aa (.a [.f (sl qa.hg (ints qa.head)),Z qa.fr,Z qa.aO,.f (sl qa.cg (ints qa.bH))])
 lb:aV J (aa 4) (.c (.ptr bp 4 0))=aa (.a [.f (sl qb.hg (ints qb.head)),Z qb.fr,Z qb.aO,.f (sl qb.cg (ints qb.bH))])
 laf:aV J ab (.c (.ptr bp 1 0))=aa (vi qa.fr)
 lap:aV J ab (.c (.ptr bp 2 0))=aa (vi qa.aO)
 lbf:aV J ab (.c (.ptr bp 5 0))=aa (vi qb.fr)
 lbp:aV J ab (.c (.ptr bp 6 0))=aa (vi qb.aO)
 nF:aV J ab (.c (.ptr bp 8 0))=aa (vi st)
 lx:aV J ab (.c (.ptr bp 9 0))=aa (.c cx)
 ly:aV J ab (.c (.ptr bp 10 0))=aa (.c cy)
 lg:aV J ab (.c (.ptr bp 11 0))=aa (vi g)
 lm:aV J ab (.c (.ptr bp 12 0))=aa (.c (.mp m))
 HP:aV J (aa 13) (.c (.ptr bp 0 0))=aa (.a (cR qa qb st cx cy g m))
 s8:∀z:Int,dj J (.ptr bp 8 0) [Z z]=aa (J.set bp (.box (cR qa qb z cx cy g m) 0))
 s9:∀z:C,dj J (.ptr bp 9 0) [z]=aa (J.set bp (.box (cR qa qb st z cy g m) 0))
 s10:∀z:C,dj J (.ptr bp 10 0) [z]=aa (J.set bp (.box (cR qa qb st cx z g m) 0))
 s11:∀z:Int,dj J (.ptr bp 11 0) [Z z]=aa (J.set bp (.box (cR qa qb st cx cy z m) 0))
def ry{J:an}{bp:Nat}(h:J[bp]?=E (cR q M a c w y n)):LdP J bp q M a c w y n:=by
 unfold cR at h;constructor<;>simp[aV,az,h,aX,dj,over,cR]
def BP:(cR q M a c w y n).length=13:=rfl
def Hj{y z:C}:mP 3 ab (.a [w,c,y,z])=aa (.c z):=rfl
def Ij(a b:aR)(ha:cO a=ae)(hb:cO b=ae)(ca:a.bH.length<=1000000)(cb:b.bH.length<=1000000)(la:a.head.length<=1000000)(lb:b.head.length<=1000000)(pa:a.aO<=1000000)(pb:b.aO<=1000000)(H:an) :
  ∃r H',Ev tab (.fn Pl) [.a (a.row.map .f),.a (b.row.map .f),vi 0] H r H'/\(∃d s st X Y v x l m N,pH a d/\pH b s/\d.bH.length<=a.bH.length/\s.bH.length<=b.bH.length/\d.head.length<=a.head.length/\s.head.length<=b.head.length/\r=.a (cR d s st v x (ahw d.aO s.aO:Int) m)/\
   st=max d.fr s.fr/\yg d st X/\yg s st Y/\PH H' N X Y (ahw d.aO s.aO:Int) l v x m/\∀i:Nat,i<H.length->H'[i]?=H[i]?):=by
 obtain⟨d,sa,xa,ya,m9⟩:=qf a ha ca la;obtain⟨s,sb,xb,yb,m_⟩:=qf b hb cb lb;obtain⟨i8,w_,r9,x6⟩:=sa;refine dc rfl rfl λQ hQ=>?_;apply ai;simp[aR.row];simp only[aR.row,IT,agN]at m9 m_;obtain⟨HA,A⟩:=aH (H++[.box [.f (sl a.hg (ints a.head)),Z a.fr,Z a.aO,.f (sl a.cg (ints a.bH))] 0,.box [.f (sl b.hg (ints b.head)),Z b.fr,Z b.aO,.f (sl b.cg (ints b.bH))] 0,.box Ga 0]:an);obtain⟨b0,z⟩:=aH (H.length);have a0:HA[b0]?=E [.f (sl a.hg (ints a.head)),Z a.fr,Z a.aO,.f (sl a.cg (ints a.bH))]:=by rw[A,z];simp
 have a1:HA[b0+1]?=E [.f (sl b.hg (ints b.head)),Z b.fr,Z b.aO,.f (sl b.cg (ints b.bH))]:=by rw[A,z,agL ap];simp
 have a2:HA[b0+2]?=E Ga:=by rw[A,z,agL ap];simp
 have al:HA.length=b0+3:=by rw[A,z];simp
 have ak:∀i:Nat,i<b0->HA[i]?=H[i]?:=λi hi=>by rw[A,AI ap]
 unfold Ga at A;rw[<-A,<-z];have l0:aV HA (aa 4) (.c (.ptr b0 0 0))=aa (.a [.f (sl a.hg (ints a.head)),Z a.fr,Z a.aO,.f (sl a.cg (ints a.bH))]):=by simp[aV,az,a0,aX]
 have l1:aV HA (aa 4) (.c (.ptr (b0+1) 0 0))=aa (.a [.f (sl b.hg (ints b.head)),Z b.fr,Z b.aO,.f (sl b.cg (ints b.bH))]):=by simp[aV,az,a1,aX]
 apply ai;simp[l0,l1,-aw,m9,m_,DE,al];obtain⟨m,hm⟩:=aH (b0+3);obtain⟨bp,l_⟩:=aH (m+1);obtain⟨HB,K⟩:=aH (HA++[bV.map [],.box (cR d s 0 (.f .aN) (.f .aN) 0 m) 0]);have b1:HB[m]?=aa (.map []):=by rw[K,hm,agL ap,al];simp
 have b2:HB[bp]?=E (cR d s 0 (.f .aN) (.f .aN) 0 m):=by rw[K,l_,hm,agL ap,al];simp
 have bk:∀i:Nat,i<b0+3->HB[i]?=HA[i]?:=λi hi=>by rw[K,AI ap]
 have bl:HB.length=b0+5:=by rw[K];simp[al]
 unfold cR at K;rw[<-hm,<-K,<-l_]
 suffices i7:∀t:T,t.g 2=vi 0->t.g 6=.c (.ptr (b0+2) 0 0)->t.g 7=.c (.ptr bp 0 0)->WP tab Pl ab [.code OE] ⟨t,[],HB⟩ Q by exact i7 _ bv bv bv
 intro t g2 g6 F;obtain⟨st,u9⟩:=aH (max d.fr s.fr);obtain⟨q1,q2,q3,q4,q5,q6,q7,q8,q9⟩:=bM i8;obtain⟨w1,w2,w3,w4,w5,w6,w7,w8,w9⟩:=bM sb.ok;have t8:max (max d.fr s.fr) 0=st:=ii
 have L1:=ry b2;apply ai;simp[g2,F,L1.laf,L1.lbf,L1.s8,BF,t8,-aw,-bF];obtain⟨HC,L⟩:=aH (HB.set bp (.box (cR d s st (.f .aN) (.f .aN) 0 m) 0));rw[<-L];have c1:HC[m]?=aa (.map []):=by rw[L,sh ap];exact b1
 have c2:HC[bp]?=E (cR d s st (.f .aN) (.f .aN) 0 m):=by rw[L,By ap]
 have ck:∀i:Nat,i<b0+3->HC[i]?=HA[i]?:=λi hi=>by rw[L,sh ap,bk i hi]
 have cl:HC.length=b0+5:=by rw[L,agZ];exact bl
 have L2:=ry c2;obtain⟨r1,HD,d9,y7,x8,v,z8,X,rfl,n9,dl,dk,-,j9,-,-,x_,-,j7,hX⟩:=zd d i8 ap ap st ap ap HC;have d2:HD[bp]?=E (cR d s st (.f .aN) (.f .aN) 0 m):=by rw[dk bp ap];exact c2
 have L3:=ry d2;obtain⟨r2,HE,n8,y8,x9,x,z_,Y,rfl,n_,el,ek,-,j_,-,-,y6,-,j8,hY⟩:=zd s sb.ok ap ap st ap ap HD;have e2:HE[bp]?=E (cR d s st (.f .aN) (.f .aN) 0 m):=by rw[ek bp ap];exact d2
 have L4:=ry e2;simp only[aR.row,IT,agN]at d9 n8;refine aE (eH (.inl rfl) ?_ ?_)
 case refine_2=>
  intro cc W;have f_:cc=(7,4)\/cc=(9,4):=by simpa using W
  rcases f_ with rfl|rfl
  .refine⟨ce,_,rfl,.inr ⟨ce,?_⟩⟩;simp[F,L2.la,L2.nF,L2.lb,L3.lb,-aw,d9.eq,Hj,gE,Jl]
  .refine⟨ce,_,rfl,.inr ⟨ce,?_⟩⟩;simp[F,L2.la,L2.nF,L3.lb,L3.nF,-aw,d9.eq,Hj,gE,vS]
 obtain⟨HF,M⟩:=aH (HE.set bp (.box (cR d s st v (.f .aN) 0 m) 0));have f2:HF[bp]?=E (cR d s st v (.f .aN) 0 m):=by rw[M,By (aj e2)]
 have L5:=ry f2;obtain⟨HG,O⟩:=aH (HF.set bp (.box (cR d s st v x 0 m) 0));have h2:HG[bp]?=E (cR d s st v x 0 m):=by rw[O,By (aj f2)]
 have L6:=ry h2;simp[F,L2.la,L2.nF,L3.lb,L3.nF,-aw,d9.eq,n8.eq,Hj,L4.s9,<-M,L5.s10,<-O,-bF];obtain⟨g,hg⟩:=aH ((ahw d.aO s.aO:Int):Int);have pa1:d.aO<=1000000:=ahx (ahq (by have:=(bM ha).2.2.1;omega) r9) pa;have pb1:s.aO<=1000000:=ahx (ahq (by have:=(bM hb).2.2.1;omega) sb.aO) pb;have s_:ahw d.aO s.aO=ah5 d.aO.toNat s.aO.toNat:=by
  show ah5 d.aO.natAbs s.aO.natAbs=_;rw[show d.aO.natAbs=d.aO.toNat by omega,show s.aO.natAbs=s.aO.toNat by omega]
 have g0:0<g:=by have:=ahX s.aO (show d.aO≠0 by omega);omega
 have o_:bf tab AX [vi d.aO,vi s.aO]=Eq (vi g):=by
  have h:=yS (a:=d.aO.toNat) (b:=s.aO.toNat) ap ap;rw[show((d.aO.toNat:Nat):Int)=d.aO by omega,show((s.aO.toNat:Nat):Int)=s.aO by omega,<-s_,<-hg]at h;exact h
 apply ai;simp[F,L6.lap,L6.lbp,L6.s11,o_,-aw,-bF];obtain⟨I,S⟩:=aH (HG.set bp (.box (cR d s st v x g m) 0));have i2:I[bp]?=E (cR d s st v x g m):=by rw[S,By (aj h2)]
 have L7:=ry i2;rw[<-S];have kE:∀i:Nat,i<b0+5->i≠bp->I[i]?=HC[i]?:=λi hi t_=>by
  rw[S,sh ap,O,sh ap,M,sh ap,ek i ap,dk i ap]
 have r6:∀(i:Nat) y,HE[i]?=aa y->i≠bp->I[i]?=aa y:=λi y B t_=>by
  rw[S,sh ap,O,sh ap,M,sh ap];exact B
 have i6:LR I x 1 (ints Y):=j_.bS λi y B hi=>r6 i y B λe=>j_.cm e2 (e▸hi);have q_:LR I v 1 (ints X):=j9.bS λi y B hi=>r6 i y (by rw[ek i (aj B)];exact B) λe=>j9.cm d2 (e▸hi);have iN:I.length=HE.length:=by rw[S,O,M];simp
 have n0:NQ H d s st X Y g I.length bp m 0 v x [] I:=by
  refine⟨λi hi=>?_,?_,i2,q_,i6,?_,by rw[List.take_zero];exact nY.nil _ _,agQ _⟩
  .rw[kE i ap ap,ck i ap,ak i ap]
  .rw[<-z,kE (b0+2) ap ap,ck _ ap];exact a2
  .rw[kE m ap ap];exact c1
 have i9:bp<I.length:=aj i2;have u_:bA I x=aa Y.length:=by have:=i6.len;simpa[ints]using this
 have r_:=xe (st:=st) ap ap n9 j7 hX;have k_:=xe (st:=st) ap ap n_ j8 hY;have z7:Y.length<=1000000:=ii
 apply aU;simp[F,L7.ly,-aw,u_];have j5:∀i,bz v=aa i->i<I.length:=λi hi=>q_.lt hi;have j6:∀i,bz x=aa i->i<I.length:=λi hi=>i6.lt hi;generalize y_:I.length=N at n0 i9 j5 j6;refine bW Y.length (λj t J=>t.g 6=.c (.ptr (b0+2) 0 0)/\t.g 7=.c (.ptr bp 0 0)/\t.g 48=.c x/\∃l,NQ H d s st X Y g N bp m j v x l J) ap ce ce bv bv
  ⟨by simp[g6],by simp[F],bv,[],n0⟩ ?_ ?_
 .rintro j t J hj ⟨g6,F,d_,l,u⟩ ha hb next
  obtain⟨yb,yep,ysl,v_,r7,-⟩:=wa u.ly hj;have L8:=ry u.bp;obtain⟨y,B⟩:=aH (Y[j]);have yb:=k_.2.2.1 _ (IN hj);rw[<-B]at r7 yb;have c9:de .rem (vi y) (vi g)=aa (vi (y % g)):=gn ap g0;obtain⟨c3,H3,U,W,p_,a_,b_,p9⟩:=u.ok.app u.mp ap u.len (y % g) (by unfold ir;exact ahd (ahV _ _) (by rw[ahl];omega)) y;have h_:=λJ' (h:J'[m]?=aa (bV.map (vt l)))=>u.ok.look (J':=J') h (y % g);have g_:=h_ J u.mp;have m4:oZ H3 .int (.c (.mp m)) (vi (y % g)) (.c c3)=aa (.top,H3.set m (.map (vt (pe (y % g) c3 l)))):=by
   simp only[oZ,W,p_,isKey,if_true,Iq,ahs]
  have i_:=a_ bp i9;have L9:=ry (J:=H3) (by rw[i_];exact u.bp);apply ax;apply ai;simp[ha,d_,v_,r7,-aw];refine eH (.inl rfl) ?_ ?_
  case refine_2=>
   intro cc W;have f_:cc=(1,16)\/cc=(4,16):=by simpa using W
   rcases f_ with rfl|rfl
   .refine⟨ce,_,rfl,.inl ⟨ce,?_⟩⟩;simp[F,L8.lm,L8.lg,c9,-aw,iB,g_,U,L9.lm,gE,V.beq,C.beq]
   .refine⟨ce,_,rfl,.inl ⟨ce,?_⟩⟩;simp[F,L8.lm,L8.lg,c9,-aw,iB,g_,U,L9.lg,gE,vS]
  simp[F,L8.lm,L8.lg,c9,-aw,iB,g_,U,rM,m4];have s7:ir g (Y.take (j+1))=λk'=>if k'=y % g then ir g (Y.take j) (y % g)++[y]else ir g (Y.take j) k':=by
   funext k';unfold ir;rw[agV,BY hj,<-B,aix];by_cases e:k'=y % g
   .subst e;simp
   .have:¬ y % g=k':=λq=>e q.symm;simp[e,this]
  rw[<-s7]at b_;have mlt:m<N:=ii
  refine au (next _ _ ?_ (by simp[ha]) (by simp[hb]));refine⟨by simp[g6],by simp[F],by simp[d_],_,⟨λi hi=>?_,?_,?_,?_,?_,?_,b_,p9⟩⟩
  .rw[sh ap,a_ i ap];exact u.kp i hi
  .rw[sh ap,a_ _ ap];exact u.br
  .rw[sh ap,i_];exact u.bp
  .exact LR.set (u.lx.bS λi y B hi=>by rw[a_ i (j5 i hi)];exact B) (oX u.lx u.mp rfl) _
  .exact LR.set (u.ly.bS λi y B hi=>by rw[a_ i (j6 i hi)];exact B) (oX u.ly u.mp rfl) _
  .exact By (by have:=aj p_;omega)
 .rintro t J ⟨g6,F,d_,l,u⟩ - -;have L8:=ry u.bp;have b_:=u.ok;rw[agW]at b_;obtain⟨HZ,c_⟩:=aH (J.set (b0+2) (.box (cR d s st v x g m) 0));have s2:dj J (.ptr (b0+2) 0 0) (cR d s st v x g m)=aa HZ:=by
   have:=u.br;rw[<-z]at this;rw[c_];simp[dj,this,over,cR,Ga]
  have z2:HZ[b0+2]?=E (cR d s st v x g m):=by rw[c_];exact By (by have:=aj u.br;omega)
  have nm:b0+2≠m:=ii
  apply ai;simp[g6,F,L8.HP,s2,-aw,-bF,BP];have e_:=u.br;rw[<-z]at e_;refine av (hQ _ _ (.a (cR d s st v x g m)) (by rfl) ?_ ⟨d,s,st,X,Y,v,x,l,m,N,⟨i8,w_,r9,x6⟩,sb,xa,xb,ya,yb,by rw[hg],u9,r_,k_,?_,λi hi=>?_⟩)
  .have:=(ry (bp:=b0+2) z2).HP;simp[Km.results,cB,bC,g6,this,-aw]
  .rw[<-hg,c_];refine⟨u.lx.set (u.lx.cm e_) _,u.ly.set (u.ly.cm e_) _,by rw[sh nm];exact u.mp,b_.bS λi y hi B=>?_⟩;rw[sh ap];exact B
  .show HZ[i]?=_;rw[c_,sh ap];exact u.kp i hi
structure HQ(H:an)(p2:aR)(b2:Nat)(c:C)(L:List Int)(J:an):Prop where
 kp:∀i:Nat,i<H.length->J[i]?=H[i]?
 bx:J[b2]?=E [.f (sl p2.hg (ints p2.head)),Z p2.fr,Z p2.aO,.f (sl p2.cg (ints p2.bH))]
 lc:LR J c 1 (ints L)
 lo:∀i,bz c=aa i->H.length<=i
 hl:H.length<=J.length
def head_mem(g:cO M=ae)(d:Int):d∈M.head↔0<=d/\d<M.fr/\bE M d=ae:=by
 obtain⟨q,s,u,v,x,y,j,z,A⟩:=bM g;constructor
 .intro h;have:=j d h;refine⟨ap,ap,?_⟩;unfold bE;rw[cC ap];exact decide_eq_true h
 .rintro⟨l,m,b⟩;unfold bE at b;rw[cC ap]at b;exact of_decide_eq_true b
def Rj(l b:aR)(Y:cO l=ae)(hb:cO b=ae)(la:l.head.length<=1000000)(lb:b.head.length<=1000000)(st:Int)(j_:st=max l.fr b.fr)(cx cy:C)(g:Int)(m:Nat)(H:an) :
  ∃r H',Ev tab (.fn Gl) [.a (cR l b st cx cy g m)] H r H'/\∃c L,r=.c c/\LR H' c 1 (ints L)/\(∀i,bz c=aa i->H.length<=i)/\(∀i:Nat,i<H.length->H'[i]?=H[i]?)/\H.length<=H'.length/\L.Pairwise (· < ·)/\L.length<=l.head.length+b.head.length/\∀d,d∈L↔0<=d/\d<st/\bE l d=ae/\bE b d=ae:=by
 refine dc rfl rfl λQ hQ=>?_;apply ai;simp[cR];obtain⟨b0,O⟩:=aH (H.length);obtain⟨U,z⟩:=aH (H++[.box (cR l b st cx cy g m) 0]:an);have a0:U[b0]?=E (cR l b st cx cy g m):=by rw[z,O];simp
 have al:U.length=b0+1:=by rw[z,O];simp
 have ak:∀i:Nat,i<b0->U[i]?=H[i]?:=λi hi=>by rw[z,AI ap]
 unfold cR at z;rw[<-z,<-O];have L1:=ry a0;obtain⟨za,k_⟩:=aH ([.f (sl l.hg (ints l.head)),Z l.fr,Z l.aO,.f (sl l.cg (ints l.bH))]:List C);obtain⟨zb,l_⟩:=aH ([.f (sl b.hg (ints b.head)),Z b.fr,Z b.aO,.f (sl b.cg (ints b.bH))]:List C);have L2:∀J:an,aV (U++J) (aa 4) (.c (.ptr b0 4 0))=aa (.a [.f (sl b.hg (ints b.head)),Z b.fr,Z b.aO,.f (sl b.cg (ints b.bH))]):=λJ=>(ry (bp:=b0) (by rw[AI ap];exact a0)).lb;refine aE (eH (.inl rfl) ?_ ?_)
 case refine_2=>
  intro cc i7;have i6:cc=(3,7):=by simpa using i7
  subst i6;refine⟨ce,_,rfl,.inl ⟨ce,?_⟩⟩;simp[L1.la,L1.lb,L2,-aw,gE,Jl]
 simp[L1.la,L1.lb,-aw];obtain⟨y,v⟩:=aH (U++[bV.box [.f (sl l.hg (ints l.head)),Z l.fr,Z l.aO,.f (sl l.cg (ints l.bH))] 0,.box [.f (sl b.hg (ints b.head)),Z b.fr,Z b.aO,.f (sl b.cg (ints b.bH))] 0]);obtain⟨b1,K⟩:=aH (U.length);have c0:y[b0]?=E (cR l b st cx cy g m):=by rw[v,AI ap];exact a0
 have c1:y[b1]?=E [.f (sl l.hg (ints l.head)),Z l.fr,Z l.aO,.f (sl l.cg (ints l.bH))]:=by rw[v,K];simp
 have c2:y[b1+1]?=E [.f (sl b.hg (ints b.head)),Z b.fr,Z b.aO,.f (sl b.cg (ints b.bH))]:=by rw[v,K,agL ap];simp
 have ck:∀i:Nat,i<b0->y[i]?=H[i]?:=λi hi=>by rw[v,AI ap];exact ak i hi
 have cl:y.length=b0+3:=by rw[v];simp[al]
 have j7:b1=b0+1:=by rw[K,al]
 rw[<-v,<-K]
 suffices S:∀t:T,t.g 1=.c (.ptr b0 0 0)->t.g 3=.c (.ptr b1 0 0)->t.g 4=.c (.ptr (b1+1) 0 0)->WP tab Gl ab [.code OG] ⟨t,[],y⟩ Q by exact S _ bv bv bv
 intro t g1 X B;have a_:∀(q s:aR) (t:T) (J:an),cO q=ae->cO s=ae->q.fr=st->q.head.length<=1000000->q.head.length<=l.head.length+b.head.length->(∀d,(bE q d=ae/\bE s d=ae)↔(bE l d=ae/\bE b d=ae))->t.g 3=.c (.ptr b1 0 0)->t.g 4=.c (.ptr (b1+1) 0 0)->
   J[b1]?=E [.f (sl q.hg (ints q.head)),Z q.fr,Z q.aO,.f (sl q.cg (ints q.bH))]->J[b1+1]?=E [.f (sl s.hg (ints s.head)),Z s.fr,Z s.aO,.f (sl s.cg (ints s.bH))]->(∀i:Nat,i<b0->J[i]?=H[i]?)->
   WP tab Gl ab [.code OH] ⟨t,[],J⟩ Q:=by
  intro q s t J h1 h2 i8 j9 i9 d9 X B j1 j2 jk;obtain⟨q1,q2,q3,q4,q5,q6,q7,q8,q9⟩:=bM h1;have M:aV J ab (.c (.ptr b1 0 0))=aa (G (sl q.hg (ints q.head))):=by simp[aV,az,j1]
  have f_:bA J (.f (sl q.hg (ints q.head)))=aa q.head.length:=ol
  apply ai;simp;apply aU;simp[X,M,-aw,f_];have jl:=aj j2;refine bW q.head.length (λj t J=>t.g 4=.c (.ptr (b1+1) 0 0)/\t.g 20=G (sl q.hg (ints q.head))/\∃c,t.g 5=.c c/\HQ H s (b1+1) c ((q.head.take j).filter λd=>bE s d) J) ap ce ce bv bv
   ⟨by simp[B],bv,.f .aN,bv,λi hi=>jk i ap,j2,by simpa[ints]using LR.nil _ _,(λ_ h=>by cases h),ap⟩ ?_ ?_
  .rintro j t J hj ⟨B,F,c,g5,u⟩ Y hb next
   have j5:=q7 _ (IN hj);have e_:=λH:an=>bu (H:=H) (g:=q.hg) (rows:=ints q.head) (sz:=1) (k:=.i64) (i:=(j:Int)) ap ip;have M:=λH:an=>dY (H:=H) hj;simp at e_;obtain⟨x,hx⟩:=aH (q.head[j]);rw[<-hx]at j5 M;have d_:q.head.take (j+1)=q.head.take j++[x]:=by rw[agV,BY hj,hx];rfl
   have j6:aV J (aa 4) (.c (.ptr (b1+1) 0 0))=aa (.a [.f (sl s.hg (ints s.head)),Z s.fr,Z s.aO,.f (sl s.cg (ints s.bH))]):=by simp[aV,az,u.bx,aX]
   have N:=wc s h2 x ap nl;simp only[aR.row,IT,agN]at N;apply ax;apply ai;simp[Y,F,e_,M];apply aE;apply ba;simp[B,j6,-aw,N];cases c_:bE s x with
   |false=>
    refine bG bv ?_;refine au (next _ _ ?_ (by simp[Y]) (by simp[hb]));refine⟨by simp[B],by simp[F],c,by simp[g5],?_⟩;rw[d_,aix];simpa[c_]using u
   |true=>
    obtain⟨c3,H3,b_,g_,j8,c9,h_⟩:=rz u.lc (by refine ahd (ahV _ _) ?_;rw[ahl];omega) x;refine aq bv ?_;apply ba;simp[g5,b_];refine au (next _ _ ?_ (by simp[Y]) (by simp[hb]));refine⟨by simp[B],by simp[F],c3,bv,λi hi=>?_,c9 _ _ u.bx (u.lc.cm u.bx),?_,λi hi=>?_,by have:=u.hl;omega⟩
    .rw[<-u.kp i hi];have i_:i<J.length:=by have:=u.hl;omega
     have hy:J[i]?=aa J[i]:=BY i_;rw[hy];exact c9 i _ hy λe=>by have:=u.lo i e;omega
    .rw[d_,aix];simpa[c_]using g_
    .have:=u.hl;rcases h_ with e|e
     .rw[e]at hi;exact u.lo i hi
     .rw[e]at hi;cases hi;omega
  .rintro t J ⟨B,F,c,g5,u⟩ - -;rw[agW]at u;apply ai;simp[g5];refine av (hQ _ _ (.c c) rfl (dx bv) ⟨c,_,rfl,u.lc,u.lo,u.kp,u.hl,q6.sublist List.filter_sublist,ahd (ahV _ _) i9,λd=>?_⟩);rw[ahB,head_mem h1,i8];constructor
   .rintro⟨⟨k0,k1,k2⟩,k3⟩;obtain⟨k4,k5⟩:=(d9 d).1 ⟨k2,k3⟩;exact⟨k0,k1,k4,k5⟩
   .rintro⟨k0,k1,k4,k5⟩;obtain⟨k2,k3⟩:=(d9 d).2 ⟨k4,k5⟩;exact⟨⟨k0,k1,k2⟩,k3⟩
 have l1:aV y ab (.c (.ptr b1 1 0))=aa (vi l.fr):=by simp[aV,az,c1]
 have l0:=(ry c0).nF;apply aU;simp[g1,X,l0,l1,-aw];by_cases hf:l.fr=st
 .refine bG (by simp[hf]) ?_;exact a_ l b _ _ Y hb hf la ap (λd=>Iff.rfl) (by simp[X]) (by simp[B]) c1 c2 ck
 .refine aq (by simp[hf]) ?_;have l4:aV y (aa 4) (.c (.ptr (b1+1) 0 0))=aa (.a [.f (sl b.hg (ints b.head)),Z b.fr,Z b.aO,.f (sl b.cg (ints b.bH))]):=by simp[aV,az,c2,aX]
  have l3:aV y (aa 4) (.c (.ptr b1 0 0))=aa (.a [.f (sl l.hg (ints l.head)),Z l.fr,Z l.aO,.f (sl l.cg (ints l.bH))]):=by simp[aV,az,c1,aX]
  obtain⟨W,A⟩:=aH (y.set b1 (.box [.f (sl b.hg (ints b.head)),Z b.fr,Z b.aO,.f (sl b.cg (ints b.bH))] 0));have s1:dj y (.ptr b1 0 0) [.f (sl b.hg (ints b.head)),Z b.fr,Z b.aO,.f (sl b.cg (ints b.bH))]=aa W:=by rw[A];simp[dj,c1,over]
  have d1:W[b1]?=E [.f (sl b.hg (ints b.head)),Z b.fr,Z b.aO,.f (sl b.cg (ints b.bH))]:=by rw[A];exact By ap
  have d2:W[b1+1]?=E [.f (sl b.hg (ints b.head)),Z b.fr,Z b.aO,.f (sl b.cg (ints b.bH))]:=by rw[A,sh ap];exact c2
  have dl:W.length=y.length:=by rw[A];simp
  obtain⟨HD,I⟩:=aH (W.set (b1+1) (.box [.f (sl l.hg (ints l.head)),Z l.fr,Z l.aO,.f (sl l.cg (ints l.bH))] 0));have s2:dj W (.ptr (b1+1) 0 0) [.f (sl l.hg (ints l.head)),Z l.fr,Z l.aO,.f (sl l.cg (ints l.bH))]=aa HD:=by rw[I];simp[dj,d2,over]
  apply ba;simp[X,B,l3,l4,-aw,s1,s2,-bF];refine a_ b l _ _ hb Y ap lb ap (λd=>And.comm) (by simp[X]) (by simp[B]) ?_ ?_ λi hi=>?_
  .rw[I,sh ap];exact d1
  .rw[I];exact By ap
  .rw[I,sh ap,A,sh ap];exact ck i hi
def uN(a b:Int)(y:1<=b)(x:-4611686018427387904<=a)(j:a<=4611686018427387904)(l:b<=4611686018427387904):bf tab PZ [vi a,vi b]=Eq (vi (a % b)):=bf.eq (by
 have f:=ahj a (show b≠0 by omega);have v:=ahc a (show 0<b by omega);have q:=aiT a (show 0<b by omega);have z:=aiU a (show 0<b by omega);have m:de .rem (vi a) (vi b)=aa (vi (a.tmod b)):=dD ap;have s:=a8 (n:=a.tmod b+b);have key:a % b=if a.tmod b<0 then a.tmod b+b else a.tmod b:=by
  have e:=zU (u:=a) (show 0<b by omega);split
  .rw[<-e,Int.tmod_eq_of_lt ap ap]
  .rename_i h;have g:(a.tmod b+b).tmod b=a.tmod b:=by
    rw[ag4 ap,aju,ahG ap q]
   rw[<-e,g]
 refine bD rfl rfl λQ d=>?_;apply ai;simp;apply ai;simp[m];apply aU;simp;by_cases h:a.tmod b<0
 .refine aq (by simp[h]) ?_;apply ba;simp[s];apply ai;simp;refine av (d _ _ ?_);simp[key,h]
 .refine bG (by simp[h]) ?_;apply ai;simp;refine av (d _ _ ?_);simp[key,h])
def US{m:Int}(a0:0<=a)(m1:m<=1000000)(am:a<m)(hg:ahw a m=1) :
  ∃x,0<=x/\x<m/\m ∣ a*x-1/\bf tab Vv [vi a,vi m]=Eq (vi x):=by
 obtain⟨X,⟨x,h,i,k,rfl⟩,hp⟩:∃X,(∃x,0<=x/\x<m/\m ∣ a*x-1/\X=vi x)/\bf tab Vv [vi a,vi m] X:=by
  refine dE rfl rfl λQ hQ=>?_;apply ai;simp;apply ai;simp;refine aE (ax ?_);refine di (λn s=>∃(x y u v U V:Int) (t:T),s=⟨t,[],[]⟩/\(n:Int)=y/\t.g 1=vi m/\t.g 5=vi x/\t.g 6=vi y/\t.g 7=vi u/\t.g 8=vi v/\0<=x/\x<=m/\0<=y/\y<=m/\ahw x y=1/\m ∣ a*u-x/\m ∣ a*v-y/\
   0<=U/\U<=m/\0<=V/\(u=U/\v = -V\/u = -U/\v=V)/\U*y+V*x=m/\V<=m) m.toNat
   ⟨a,m,1,0,1,0,_,rfl,ap,bv,bv,bv,bv,bv,a0,ap,ap,ap,hg,⟨0,ap⟩,⟨-1,ap⟩,ce,ap,ce,.inl ⟨rfl,rfl⟩,ap,ap⟩ ?_
  rintro n s ⟨x,y,u,v,U,V,t,rfl,hn,Y,c,F,f,g8,h,i,k,b_,I,o,p,h7,c9,J,r,H,z⟩ ih;apply aU;simp[F];by_cases w:y=0
  .
   subst w;have S:x=1:=by
    have I:x.natAbs=1:=by simpa[ahw]using I
    omega
   subst S;have r1:=uN u m ap ap ap ap;refine aC bv (bQ rfl ?_);apply ai;simp[Y,f,r1];refine av (hQ _ _ _ ⟨u % m,ahj _ ap,ahc _ ap,?_,rfl⟩ bv);have e:a*(u % m)-1=(a*u-1)-a*(u / m)*m:=by
    have:=ag2 u m;rw[show u % m=u-m*(u / m) by omega,ajo,aiE,ah4 m];omega
   rw[e];exact ain o (ai4 _ _)
  .
   have A:0<=x / y:=ahC ap ap;have N:x / y<=x:=aic _ ap;have B:=eI (a:=x) (b:=y) ap ap ap;obtain⟨q,hq⟩:=aH (x / y);have j:=ag2 x y;have L:=ahj x (show y≠0 by omega);have M:=ahc x (show 0<y by omega);rw[<-hq]at A N B j;obtain⟨g,O⟩:=aH (x % y);rw[<-O]at j L M;have d_:q*y=x-g:=by rw[ah4];omega
   obtain⟨W,hW⟩:=aH (U+q*V);have d9:0<=q*V:=ahy A J;have c_:W*y+V*g=m:=by
    rw[hW,aja,<-H,show g=x-q*y by omega,ajo,aiE q V y,aiY q V y];omega
   have K:W<=m:=by
    have z:W<=W*y:=by have:=ag0 (show(1:Int)<=y by omega) (show 0<=W by omega);omega
    have a_:0<=V*g:=ahy J ap;omega
   have d:(v=V->q*v=q*V)/\(v = -V->q*v = -(q*V)):=⟨λe=>by rw[e],λe=>by rw[e,aiP]⟩
   have hb:-m<=q*v/\q*v<=m:=by
    rcases r with⟨-,e⟩|⟨-,e⟩
    .rw[d.2 e];omega
    .rw[d.1 e];omega
   have w1:=a8 (n:=q*y);have w2:ah .i64 (x-q*y)=g:=by rw[a8];omega
   have w3:=a8 (n:=q*v);have w4:=a8 (n:=u-q*v);refine aq (by simp[w]) (aQ ?_);refine ax (ai ?_);simp[c,F,B];apply ai;simp[c,F,w1,w2];apply ba;simp[f,g8,w3,w4];refine au (ih g.toNat _ ap ⟨y,g,v,u-q*v,V,W,_,rfl,ap,by simp[Y],bv,bv,bv,bv,ap,ap,ap,ap,?_,p,?_,J,z,ap,?_,ap,K⟩)
   .rw[show g=x-q*y by omega,Int.gcd_comm,ai3];exact I
   .have e:a*(u-q*v)-g=(a*u-x)-q*(a*v-y):=by
     rw[ajo,ajo,aiY a q v];omega
    rw[e];exact ain o (Int.dvd_mul_of_dvd_right p)
   .rcases r with⟨e1,l⟩|⟨e1,l⟩
    .exact .inr ⟨l,by rw[d.2 l];omega⟩
    .exact .inl ⟨l,by rw[d.1 l];omega⟩
 exact⟨x,h,i,k,hp.eq⟩
def Sp(l:0<=y)(m:y<=9223372036854775807)(d:0<r)(n1:r<=9223372036854775807):bf tab ab3 [u64 0,u64 y,u64 r]=Eq (u64 (y % r)):=bf.eq (by
 have g:=Eu l m d n1;have b:=Kj (a:=0) ap d;rw[ai8]at b;refine bD rfl rfl λQ j=>?_;apply ai;simp;apply ai;simp[g,b];apply ai;simp;refine av (j _ _ ?_);simp)
def SS(a0:0<=a)(a1:a<=1000000)(b0:0<=b)(b1:b<=1000000)(d:0<y)(m1:y<=1000000):bf tab acg [vi a,vi b,vi y]=Eq (vi (a*b % y)):=bf.eq (by
 have q:0<=a*b:=ahy a0 b0;have v:a*b<=1000000*1000000:=aiy a1 b1 b0 ap;have s:=ahj (a*b) (show y≠0 by omega);have u:=ahc (a*b) d;have g:=uM a0 ap b0 ap;have j:=Sp q ap d ap;refine bD rfl rfl λQ l=>?_;apply ai;simp;apply ai;simp[g,jh a0 ap,jh b0 ap];apply ai;simp[j,jh (show 0<=y by omega) ap,a8 (n:=a*b % y)];refine av (l _ _ ?_);simp)
def SF(a1:1<=a)(b1:1<=b)(z:r=a / (ahw a b:Int)*b)(hd:r<=1000000)(c:0<=d)(e:d<a)(f:0<=y)(o:y<b)(H:d % (ahw a b:Int)=y % (ahw a b:Int)) :
  ∃k v:Int,0<=k/\k<r/\k % a=d/\k % b=y/\bf tab ace [vi d,vi a,vi y,vi b]=Eq (.t [vi k,vi v,vi 0]):=by
 have s:=Int.gcd_ediv_gcd_ediv_gcd_of_ne_zero_left (n:=a) (m:=b) ap;have g0:0<(ahw a b:Int):=by have:=ahX b (show a≠0 by omega);omega
 have U:(ahw a b:Int) ∣ a:=aiu ..;have W:(ahw a b:Int) ∣ b:=aiA ..;obtain⟨g,M⟩:=aH ((ahw a b:Int):Int);have N:ahw a b=ah5 a.toNat b.toNat:=by
  show ah5 a.natAbs b.natAbs=_;rw[show a.natAbs=a.toNat by omega,show b.natAbs=b.toNat by omega]
 rw[<-M]at s g0 U W z H;obtain⟨p,J⟩:=U;obtain⟨q,K⟩:=W;have I:a / g=p:=by rw[J,ah6 _ ap]
 have eq:b / g=q:=by rw[K,ah6 _ ap]
 rw[I,eq]at s;rw[I]at z;have p1:1<=p:=by
  rcases ah0 0 p with h|h
  .omega
  .have:=ahy (show 0<=g by omega) (show 0<=-p by omega);rw[aiP]at this;omega
 have S:1<=q:=by
  rcases ah0 0 q with h|h
  .omega
  .have:=ahy (show 0<=g by omega) (show 0<=-q by omega);rw[aiP]at this;omega
 have A:r=a*q:=by rw[z,J,K,aiY,aiE]
 have aP:a<=r:=by rw[A];have:=ag0 S (show 0<=a by omega);omega
 have bP:b<=r:=by rw[z];have:=aha p1 (show 0<=b by omega);omega
 have qb:q<=b:=by rw[K];have:=aha (show 1<=g by omega) (show 0<=q by omega);omega
 have pa:p<=a:=by rw[J];have:=aha (show 1<=g by omega) (show 0<=p by omega);omega
 have B:bf tab AX [vi a,vi b]=Eq (vi g):=by
  have h:=yS (a:=a.toNat) (b:=b.toNat) ap ap;rw[show((a.toNat:Nat):Int)=a by omega,show((b.toNat:Nat):Int)=b by omega,<-N,<-M]at h;exact h
 have l:=Dm a1 (show a<=1000000 by omega) b1 (show b<=1000000 by omega);rw[<-M,I,<-z]at l;have L:g ∣ y-d:=ah9 (by rw[ajf,H,Int.sub_self,ai8]);obtain⟨x,j⟩:=L;have ed:(y-d) / g=x:=by rw[j,ah6 _ ap]
 have dl:-a<=x/\x<=b:=by
  rcases Int.le_total 0 x with h|h
  .have:=aha (show 1<=g by omega) h;omega
  .have:=aha (show 1<=g by omega) (show 0<=-x by omega);have:=aiP g x;omega
 obtain⟨i,i0,i1,i2,F⟩:=US (a:=p % q) (m:=q) (ahj _ ap) ap (ahc _ ap) (by
  rw[show p % q=p-p / q*q by rw[ah4];have:=ag2 p q;omega,ai3];exact s)
 have r1:de .rem (vi (y-d)) (vi g)=aa (vi 0):=by
  have:=@dD .i64 (y-d) g ap;rw[aiR ⟨x,j⟩]at this;exact this
 have r2:de .quo (vi b) (vi g)=aa (vi q):=by rw[<-eq];exact eI ap ap ap
 have r3:de .quo (vi a) (vi g)=aa (vi p):=by rw[<-I];exact eI ap ap ap
 have r4:de .quo (vi (y-d)) (vi g)=aa (vi x):=by
  have:=@gI .i64 (y-d) g ap;rw[Int.tdiv_eq_ediv_of_dvd ⟨x,j⟩,ed,a8]at this;exact this
 have m1:=uN d a a1 ap ap ap;have m2:=uN y b b1 ap ap ap;rw[ahG c e]at m1;rw[ahG f o]at m2;have m3:=uN x q S ap ap ap;have m4:=uN p q S ap ap ap;have w:=ahj x (show q≠0 by omega);have d1:=ahc x (show 0<q by omega);have Y:=SS w (show x % q<=1000000 by omega) i0 (show i<=1000000 by omega) (show 0<q by omega) ap;obtain⟨k,O⟩:=aH (x % q*i % q);have k0:0<=k:=by rw[O];exact ahj _ ap
 have k1:k<q:=by rw[O];exact ahc _ ap
 rw[<-O]at Y;have P:0<=a*k:=ahy ap k0;have t:a*k<=r-a:=by
  rw[A];have:=ag0 (show k<=q-1 by omega) (show 0<=a by omega);rw[ajo,Int.mul_one]at this;exact this
 refine⟨d+a*k,r,ap,ap,?_,?_,bf.eq (bD rfl rfl λQ hQ=>?_)⟩
 .rw[Int.add_mul_emod_self_left,ahG c e]
 .have e1:q ∣ p*k-x:=by
   obtain⟨u,X⟩:=i2;have f1:q*(x % q*i / q)=x % q*i-k:=by have:=ag2 (x % q*i) q;omega
   have f2:q*(x / q)=x-x % q:=by have:=ag2 x q;omega
   have f3:q*(p / q)=p-p % q:=by have:=ag2 p q;omega
   exact⟨-(p*(x % q*i / q))+x % q*u+x % q*i*(p / q)-x / q,by grind⟩
  have e2:b ∣ d+a*k-y:=by
   obtain⟨u,X⟩:=e1;refine⟨u,?_⟩;rw[K,aiE,<-X,ajo,<-j,J,aiE];omega
  rw[show d+a*k=y+(d+a*k-y) by omega,Int.add_emod,Int.emod_eq_zero_of_dvd e2,Int.add_zero,ahW _ (ah3 b),ahG f o]
 apply ai;simp;apply aU;simp[show¬ a<1 by omega,show¬ b<1 by omega];refine bG bv ?_;apply ai;simp[B];apply ai;simp[m1,m2];apply aU;simp[a8 (n:=y-d),r1];refine bG bv ?_;apply ai;simp[l];apply aU;simp;refine bG bv ?_;apply ai;simp[r2];apply ai;simp[a8 (n:=y-d),r3,r4,m3,m4,F,Y];apply ai;simp[a8 (n:=a*k),a8 (n:=d+a*k)];refine av (hQ _ _ ?_);simp
structure CC(a b P:Int):Prop where
 pos:0<P
 da:a ∣ P
 db:b ∣ P
 dvd:∀k,a ∣ k->b ∣ k->P ∣ k
def Uz(d:1<=N)(g:1<=n):(N:Int) / (ahw (N:Int) (n:Int):Int)*n=(Nat.lcm N n:Int):=by
 have b:ahw (N:Int) (n:Int)=ah5 N n:=rfl;rw[b,<-Int.natCast_ediv,<-Int.natCast_mul,Nat.lcm,ai1 N n,Nat.mul_div_assoc _ (Nat.gcd_dvd_left N n),ai1]
def HT(a1:1<=a)(b1:1<=b):CC a b (a / (ahw a b:Int)*b):=by
 obtain⟨m,rfl⟩:=Int.eq_ofNat_of_zero_le (show 0<=a by omega);obtain⟨n,rfl⟩:=Int.eq_ofNat_of_zero_le (show 0<=b by omega);rw[Uz ap ap];refine⟨?_,Int.ofNat_dvd.2 (Nat.dvd_lcm_left m n),Int.ofNat_dvd.2 (Nat.dvd_lcm_right m n),λk j l=>?_⟩
 .have:=Nat.lcm_pos (m:=m) (n:=n) ap ap;omega
 .have d:=ajp.2 j;have g:=ajp.2 l;rw[Int.natAbs_natCast]at d g;rw[<-ajp,Int.natAbs_natCast];exact Nat.lcm_dvd d g
def CC.uniq(h:CC a b y){k':Int}(h0:0<=r)(h1:r<y)(d:0<=k')(g:k'<y)(l:r % a=k' % a)(hb:r % b=k' % b):r=k':=by
 have:=h.dvd (r-k') (ah9 (by rw[ajf,l,Int.sub_self,ai8])) (ah9 (by rw[ajf,hb,Int.sub_self,ai8]));have e:(r-k') % y=0:=Int.emod_eq_zero_of_dvd this;have j:r % y=k' % y:=by
  have:=ahW r (ah3 y);rw[<-Int.sub_add_cancel r k',Int.add_emod,e,Int.zero_add,ahW _ (ah3 y)]
 rw[ahG h0 h1,ahG d g]at j;exact j
def Mg{X:List (Int × C)}(O S:aR)(st:Int)(h:PH H N l Y a X c w F)(o:0<a)(K:∀x∈l,0<=x/\x<=1000000)(hX:l.length<=30000)(f:0<=b)(k:b<=30000)(p:∀r,((ir a Y r).length:Int)<=b) :
  ∃r H',Ev tab (.fn XD) [.a (cR O S st c w a F)] H r H'/\∃n:Int,r=vi n/\0<=n/\n<=(l.length:Int)*b/\(∀i:Nat,i<H.length->H'[i]?=H[i]?)/\H.length<=H'.length:=by
 refine dc rfl rfl λQ y=>?_;apply ai;simp[cR];obtain⟨b0,s⟩:=aH (H.length);obtain⟨q,D⟩:=aH (H++[.box (cR O S st c w a F) 0]:an);have a0:q[b0]?=E (cR O S st c w a F):=by rw[D,s];simp
 have W:∀i:Nat,i<H.length->q[i]?=H[i]?:=λi hi=>by rw[D,AI ap]
 have al:q.length=H.length+1:=by rw[D];simp
 unfold cR at D;rw[<-D,<-s];have h:=h.bS W;have L:=ry a0;have lx:bA q c=aa l.length:=by have:=h.lx.len;simpa[ints]using this
 apply ai;simp;apply aU;simp[L.lx,-aw,lx];refine bW l.length (λj t J=>J=q/\t.g 1=.c (.ptr b0 0 0)/\t.g 7=.c c/\∃n:Int,t.g 3=vi n/\0<=n/\n<=(j:Int)*b) ap ce ce bv bv
  ⟨rfl,bv,bv,0,bv,ap,bv⟩ ?_ ?_
 .rintro j t J d ⟨rfl,z,B,n,A,e,n1⟩ g hb next
  obtain⟨xb,c9,c_,U,v,-⟩:=wa h.lx d;have M:=K _ (IN d);obtain⟨x,K⟩:=aH (l[j]);rw[<-K]at M v;have u:de .rem (vi x) (vi a)=aa (vi (x % a)):=gn ap o;have m:=h.ok.look h.mp (x % a);have I:bA J (qh X (x % a))=aa (ir a Y (x % a)).length:=by have:=(h.ok.lr (x % a)).len;simpa[ints]using this
  have b_:=p (x % a);have a_:(j:Int)*b<=30000*30000:=aiy ap k f ap;apply ax;apply ai;simp[g,B,U,v,-aw];apply ba;simp[z,A,L.lm,L.lg,u,-aw,iB,m,I,a8 (n:=n+((ir a Y (x % a)).length:Int))];refine au (next _ _ ?_ (by simp[g]) (by simp[hb]));exact⟨rfl,by simp[z],by simp[B],n+((ir a Y (x % a)).length:Int),bv,ap,by rw[ajb,aja];omega⟩
 .rintro t J ⟨rfl,z,B,n,A,e,n1⟩ - -;apply ai;simp[A];exact av (y _ _ (vi n) rfl (dx bv) ⟨n,rfl,e,n1,W,by show H.length<=J.length;omega⟩)
def Qw(m:0<a)(F:a ∣ d)(v:Y.Pairwise (· < ·))(B:∀y∈Y,0<=y/\y<d)(I:0<=d):((ir a Y r).length:Int)<=d / a:=by
 have q:((ir a Y r).map (· / a)).Pairwise (· < ·):=by
  rw[aiB];refine ajc (λ{g b} z l A=>?_) (List.Pairwise.filter _ v);have L:g % a=r:=by have:=(ahB.1 z).2;simpa using this
  have M:b % a=r:=by have:=(ahB.1 l).2;simpa using this
  have J:=ag2 g a;have K:=ag2 b a;have u:a*(g / a)<a*(b / a):=ii
  exact Int.lt_of_mul_lt_mul_left u ap
 have s:=fq _ 0 (d / a) q λx H=>by
  obtain⟨y,j,rfl⟩:=agX.1 H;have j:=B y (ahB.1 j).1;exact⟨ahC j.1 ap,by
   obtain⟨k,rfl⟩:=F;rw[ah6 _ ap,Int.zero_add];exact Int.ediv_lt_of_lt_mul m (by rw[ah4];exact j.2)⟩
 rw[agS]at s;have:=ahC I (show 0<=a by omega);omega
structure MQ(H0:an)(qa qb:aR)(st g:Int)(cx cy:C)(m b0:Nat)(c:C)(L:List Int)(J:an):Prop where
 kp:∀i:Nat,i<H0.length->J[i]?=H0[i]?
 bx:J[b0]?=E (cR qa qb st cx cy g m)
 lc:LR J c 1 (ints L)
 lo:∀i,bz c=aa i->H0.length<=i
 hl:H0.length<=J.length
def MQ.app{qb:aR}{x y:C}(h:MQ H M qb a r x y N F c Y B)(hl:Y.length<=1000000000)(n:Int) :
  ∃l j,bZ (B++[.box [Z n] 0]) 1 8 (.c c) (.c (.sl B.length 0 1 1 0 1))=aa (.c l,j)/\MQ H M qb a r x y N F l (Y++[n]) j:=by
 obtain⟨l,j,b,q,z,d,s⟩:=rz h.lc hl n;have J:=h.hl;refine⟨l,j,b,λi hi=>?_,d _ _ h.bx (h.lc.cm h.bx),q,λi hi=>?_,ap⟩
 .rw[<-h.kp i hi];have u:i<B.length:=ii
  have hy:B[i]?=aa B[i]:=BY u;rw[hy];exact d i _ hy λe=>by have:=h.lo i e;omega
 .rcases s with e|e
  .rw[e]at hi;exact h.lo i hi
  .rw[e]at hi;cases hi;omega
structure MM(X Y XS YS:List Int)(x0 pa pb P st:Int)(M:List Int):Prop where
 of:∀d∈M,∃k,d=st+k/\0<=k/\k<P/\k % pa∈X/\k % pb∈Y
 to:∀k,0<=k->k<P->k % pb∈Y->(k % pa∈XS\/(k % pa=x0/\k % pb∈YS))->st+k∈M
def RL{L0:List Int}{X:List (Int × C)}{ch:C}(P s:aR)(st:Int)(h:PH B N l Y a X c w F)(g:∀i:Nat,i<B.length->H[i]?=B[i]?)(s7:B.length<=H.length)(n9:LR H ch 1 (ints L0))(r6:∀i,bz ch=aa i->B.length<=i)
  (hg:a=(ahw P.aO s.aO:Int)) (a1:1<=P.aO) (b1:1<=s.aO) (hP:b=P.aO / (ahw P.aO s.aO:Int)*s.aO) (I:b<=30000) (hx:∀x∈l,0<=x/\x<P.aO) (hy:∀y∈Y,0<=y/\y<s.aO) (hX:l.length<=30000) (D0:0<=d) (D1:d<=30000) (hD:∀r,((ir a Y r).length:Int)<=d) (n_:(l.length:Int)*d<=30000) (s_:L0.length<=300000) (s0:0<=st) (s1:st<=2000000000000) :
  ∃r H',Ev tab (.fn XF) [.a (cR P s st c w a F),.c ch] H r H'/\∃S M,r=.c S/\LR H' S 1 (ints (L0++M))/\(∀i,bz S=aa i->B.length<=i)/\(∀i:Nat,i<B.length->H'[i]?=B[i]?)/\B.length<=H'.length/\(M.length:Int)<=(l.length:Int)*d/\(∀D∈M,∃k,D=st+k/\0<=k/\k<b/\k % P.aO∈l/\k % s.aO∈Y)/\
   ∀k,0<=k->k<b->k % P.aO∈l->k % s.aO∈Y->st+k∈M:=by
 have K:=(hP▸HT a1 b1:CC P.aO s.aO b)
 have a2:P.aO<=30000:=ahx (ahq K.pos K.da) I;have b2:s.aO<=30000:=ahx (ahq K.pos K.db) I;have g0:0<a:=by rw[hg];have:=ahX s.aO (show P.aO≠0 by omega);omega
 have m_:a ∣ P.aO:=by rw[hg];exact aiu ..
 have n8:a ∣ s.aO:=by rw[hg];exact aiA ..
 refine dc rfl rfl λQ hQ=>?_;apply ai;simp[cR];obtain⟨b0,i7⟩:=aH (H.length);obtain⟨HA,m⟩:=aH (H++[.box (cR P s st c w a F) 0]:an);have a0:HA[b0]?=E (cR P s st c w a F):=by rw[m,i7];simp
 have ak:∀i:Nat,i<H.length->HA[i]?=H[i]?:=λi hi=>by rw[m,AI ap]
 have al:HA.length=H.length+1:=by rw[m];simp
 have q0:MQ B P s st a c w F b0 ch (L0++[]) HA:=⟨λi hi=>by rw[ak i ap];exact g i hi,a0,by rw[ahe,m];exact n9.push _,r6,ap⟩
 unfold cR at m;rw[<-m,<-i7];have hA:=h.bS (J':=HA) λi hi=>q0.kp i hi;have L:=ry a0;have lx:bA HA c=aa l.length:=by have:=hA.lx.len;simpa[ints]using this
 apply aU;simp[L.lx,-aw,lx];refine bW l.length (λj t J=>t.g 2=.c (.ptr b0 0 0)/\t.g 13=.c c/\∃S M,t.g 1=.c S/\MQ B P s st a c w F b0 S (L0++M) J/\(M.length:Int)<=(j:Int)*d/\MM l Y (l.take j) [] 0 P.aO s.aO b st M) ap ce ce bv bv
  ⟨bv,bv,ch,[],bv,q0,bv,⟨λ_ h=>(by cases h),λk _ _ _ h=>(by simp at h)⟩⟩ ?_ ?_
 .rintro j t J hj ⟨W,u,S,M,g1,A,c_,z⟩ ha hb next
  have hJ:=h.bS (J':=J) A.kp;obtain⟨xb,t_,u9,r9,l_,-⟩:=wa hJ.lx hj;have d9:=hx _ (IN hj);have j9:=IN hj;have j8:l.take (j+1)=l.take j++[l[j]]:=by rw[agV,BY hj];rfl
  obtain⟨x,hx⟩:=aH (l[j]);rw[<-hx]at d9 l_ j8 j9;have j6:de .rem (vi x) (vi a)=aa (vi (x % a)):=gn ap g0;have i_:=hJ.ok.look hJ.mp (x % a);obtain⟨ys,d_⟩:=aH (ir a Y (x % a));have j_:∀y,y∈ys↔y∈Y/\y % a=x % a:=λy=>by rw[d_];simp[ir]
  obtain⟨cc,i9⟩:=aH (qh X (x % a));have i8:∀J':an,(∀i:Nat,i<B.length->J'[i]?=B[i]?)->LR J' cc 1 (ints ys):=λJ' e=>by rw[d_,i9];exact(h.bS e).ok.lr (x % a)
  have q_:bA J cc=aa ys.length:=by have:=(i8 J A.kp).len;simpa[ints]using this
  have t8:(ys.length:Int)<=d:=by rw[d_];exact hD _
  have p_:((j+1:Nat):Int)*d<=30000:=ahx (aha ap D0) n_;rw[ajb,aja]at p_;rw[<-i9]at i_;have LJ:=ry A.bx;apply ax;apply ai;simp[ha,u,r9,l_,-aw];apply ai;simp[W,LJ.lm,LJ.lg,j6,-aw,iB,i_,q_];refine bW ys.length (λi o J=>o.g 2=.c (.ptr b0 0 0)/\o.g 13=.c c/\o.g 15=vi j/\o.g 14=t.g 14/\o.g 6=vi x/\o.g 25=.c cc/\∃S M,o.g 1=.c S/\MQ B P s st a c w F b0 S (L0++M) J/\(M.length:Int)<=(j:Int)*d+(i:Int)/\MM l Y (l.take j) (ys.take i) x P.aO s.aO b st M) ap ce ce bv bv
   ⟨by simp[W],by simp[u],by simp[ha],bv,bv,bv,S,M,by simp[g1],A,ap,⟨z.of,λk k0 f U g=>by
    rcases g with g|g
    .exact z.to k k0 f U (.inl g)
    .simp at g⟩⟩ ?_ ?_
  .rintro i o J' hi ⟨W,u,b_,a_,g6,c9,S,M,g1,A,c_,z⟩ h_ o_ g_;obtain⟨yb,u_,v_,r_,m9,-⟩:=wa (i8 J' A.kp) hi;have O:=(j_ _).1 (IN hi);have p:ys.take (i+1)=ys.take i++[ys[i]]:=by rw[agV,BY hi];rfl
   obtain⟨y,r7⟩:=aH (ys[i]);rw[<-r7]at m9 O p;obtain⟨k,v,k0,f,ka,U,j7⟩:=SF a1 b1 hP (ahx I ce) d9.1 d9.2 (hy y O.1).1 (hy y O.1).2 (by rw[<-hg];exact O.2.symm);have LJ:=ry A.bx;obtain⟨c3,H3,i6,j5⟩:=A.app (by rw[agM];omega) (st+k);rw[ahm]at j5;apply ax;apply ai;simp[h_,c9,r_,m9,-aw];apply ai;simp[W,g6,LJ.lap,LJ.lbp,-aw,j7];apply ba;simp[g1,W,LJ.nF,-aw,a8 (n:=st+k),i6];refine au (g_ _ _ ?_ (by simp[h_]) (by simp[o_]));refine⟨by simp[W],by simp[u],by simp[b_],by simp[a_],by simp[g6],by simp[c9],c3,M++[st+k],bv,j5,ge,⟨λD p9=>?_,λk' e_ f_ k_ e=>?_⟩⟩
   .rcases agP.1 p9 with q|q
    .exact z.of D q
    .rw[If]at q;exact⟨k,q,k0,f,by rw[ka];exact j9,by rw[U];exact O.1⟩
   .rw[p,agP,If]at e;rcases e with q|⟨q1,q|q⟩
    .exact ahu _ (z.to k' e_ f_ k_ (.inl q))
    .exact ahu _ (z.to k' e_ f_ k_ (.inr ⟨q1,q⟩))
    .have:k'=k:=CC.uniq K e_ f_ k0 f (by rw[q1,ka]) (by rw[q,U]);rw[this];simp
  .rintro o J' ⟨W,u,b_,a_,g6,c9,S,M,g1,A,c_,z⟩ - -;rw[agW]at z;refine au (next _ _ ?_ (by simp[b_]) (by simp[a_,hb]));refine⟨by simp[W],by simp[u],S,M,by simp[g1],A,by rw[ajb,aja];omega,⟨z.of,λk k0 f U g=>?_⟩⟩;rcases g with q|q
   .rw[j8,agP,If]at q;rcases q with q|q
    .exact z.to k k0 f U (.inl q)
    .refine z.to k k0 f U (.inr ⟨q,(j_ _).2 ⟨U,?_⟩⟩);rw[ahW _ n8,<-q,ahW _ m_]
   .simp at q
 .rintro t J ⟨W,u,S,M,g1,A,c_,z⟩ - -;rw[agW]at z;apply ai;simp[g1];refine av (hQ _ _ (.c S) rfl (dx bv) ⟨S,M,rfl,A.lc,A.lo,A.kp,A.hl,ap,z.of,λk k0 f ka U=>z.to k k0 f U (.inl ka)⟩)
structure vJ(S:Int->Prop)(U:Int)(ds:List Int):Prop where
 lt:∀d∈ds,d<U
 iff:∀d,d<U->(d∈ds↔S d)
 pw:ds.Pairwise (· < ·)
section
variable{S:Int->Prop}{U:Int}{ds:List Int}
def vJ.skip(h:vJ S U ds)(g:U<=a)(b:∀d,U<=d->d<a->¬ S d):vJ S a ds:=
 ⟨λd hd=>by have:=h.lt d hd;omega,λd hd=>by
  by_cases k:d<U
  .exact h.iff d k
  .exact⟨λx=>absurd (h.lt d x) k,λx=>absurd x (b d ap hd)⟩,h.pw⟩
def vJ.more(h:vJ S U ds)(g:U<=a)(b:∀d,U<=d->d<a->¬ S d)(j:S a):vJ S (a+1) (ds++[a]):=by
 have h:=h.skip g b;refine⟨λd hd=>?_,λd hd=>?_,?_⟩
 .rcases agP.1 hd with q|q
  .have:=h.lt d q;omega
  .rw[If]at q;omega
 .rw[agP,If];by_cases k:d=a
  .subst k;simp[j]
  .rw[<-h.iff d ap];simp[k]
 .rw[ahT];exact⟨h.pw,ahN _ _,λx l y hy=>by rw[If]at hy;subst hy;exact h.lt x l⟩
def vJ.all(h:vJ S U ds)(b:∀d,U<=d->¬ S d)(d:Int):d∈ds↔S d:=by
 by_cases k:d<U
 .exact h.iff d k
 .exact⟨λx=>absurd (h.lt d x) k,λx=>absurd x (b d ap)⟩
end
def SW(p:aR)(lo hi d:Int):Prop:=lo<=d/\d<hi/\bE p d=ae
def C_(j:q.fr<=a)(g:(a-q.fr) % q.aO=0)(b:0<=y)(d:y<q.aO):bE q (a+y)=ae↔y∈q.bH:=by
 unfold bE;rw[ct ap,decide_eq_true_eq];have:(a+y-q.fr) % q.aO=y:=by
  rw[show a+y-q.fr=y+(a-q.fr) by omega,Int.add_emod,g,Int.add_zero,ahW _ (ah3 _),ahG b d]
 rw[this]
def JB(p:aR)(lo:Int)(H:an):∃r H',Ev tab (.fn XB) [.a (p.row.map .f),vi lo] H r H'/\(r=.c (.cl pT [.ptr H.length 0 0,.ptr (H.length+1) 0 0])/\H'=H++[.box [.f (sl p.hg (ints p.head)),Z p.fr,Z p.aO,.f (sl p.cg (ints p.bH))] 0,.box [Z lo] 0]):=by
 refine dc rfl rfl λQ b=>?_;apply ai;simp[aR.row];apply ai;simp;exact av (b _ _ _ rfl (dx bv) ⟨rfl,rfl⟩)
def JC{b bp bl:Nat}(p:aR)(hp:cO p=ae)(x8:p.head.length<=1000000)(w_:p.bH.length<=1000000)(lo hi:Int)(l0:0<=lo)(l1:lo<=1099511627776)(x_:hi<=2199023255552){PP:Int->List Int->an->Prop}{RR:List Int->an->Prop}
  (hb:∀z ds J,PP z ds J->J[bp]?=E [.f (sl p.hg (ints p.head)),Z p.fr,Z p.aO,.f (sl p.cg (ints p.bH))]/\J[bl]?=E [Z z])
  (n_:∀z z' ds J,PP z ds J->PP z' ds (J.set bl (.box [Z z'] 0)))
  (hy:∀z ds J n,PP z ds J->lo<=n->n<hi->(∀d∈ds,d<n)->ds.Pairwise (· < ·)->(∀d∈ds,SW p lo hi d)->∃J',Ev tab (.yield b) [vi n] J (vb ae) J'/\PP z (ds++[n]) J')
  (hn:∀z ds J n,PP z ds J->hi<=n->n<=4611686018427387904->∃J',Ev tab (.yield b) [vi n] J (vb ag) J'/\RR ds J') (h0:PP lo [] H) :
  ∃r H',Ev tab (.fn pT) [.c (.yl b),.c (.ptr bp 0 0),.c (.ptr bl 0 0)] H r H'/\(r=.t []/\∃ds,((∃z,PP z ds H')\/RR ds H')/\ds.Pairwise (· < ·)/\∀d,d∈ds↔SW p lo hi d):=by
 obtain⟨q1,q2,q3,q4,q5,q6,q7,q8,q9⟩:=bM hp;obtain⟨i,x9,m_,s_,r7⟩:=gJ p.hg p.head lo ap q6;have a:∀z ds J,PP z ds J->aV J ab (.c (.ptr bp 0 0))=aa (G (sl p.hg (ints p.head)))/\aV J ab (.c (.ptr bp 1 0))=aa (vi p.fr)/\aV J ab (.c (.ptr bp 2 0))=aa (vi p.aO)/\aV J ab (.c (.ptr bp 3 0))=aa (G (sl p.cg (ints p.bH)))/\aV J ab (.c (.ptr bl 0 0))=aa (vi z)/\∀z':Int,dj J (.ptr bl 0 0) [Z z']=aa (J.set bl (.box [Z z'] 0)):=λz ds J h=>by
  obtain⟨h1,h2⟩:=hb z ds J h;refine⟨?_,?_,?_,?_,?_,λz'=>?_⟩<;>simp[aV,az,dj,over,h1,h2]
 obtain⟨e0,e1,e2,e3,e4,e5⟩:=a _ _ _ h0;have k_:∀(l:List Int) (k:Nat),(ints l).drop k=ints (l.drop k):=λl k=>by simp[ints,ait]
 refine dc rfl rfl λQ hQ=>?_;apply ai;simp[e0,e4,-aw,r7];obtain⟨g1,o_⟩:=Dx (H:=H) (g:=p.hg) (k:=i) (Km.Ord.cW p.head) ip ip;rw[k_]at o_;have c_:∀(J:an) (g:Tg) (l:List Int),bA J (.f (sl g (ints l)))=aa l.length:=λJ g l=>by simp[ints]
 have i8:∀d,d<p.fr->0<=d->(bE p d=ae↔d∈p.head):=λd hd h0=>by unfold bE;rw[cC ap,decide_eq_true_eq]
 apply aU;simp[e0,-aw,o_,c_];refine bW (p.head.drop i).length (λj t J=>t.g 0=.c (.yl b)/\t.g 1=.c (.ptr bp 0 0)/\t.g 2=.c (.ptr bl 0 0)/\t.g 21=G (sl g1 (ints (p.head.drop i)))/\∃ds,PP lo ds J/\(∃U,vJ (SW p lo hi) U ds/\(lo<=U/\U<=max lo p.fr)/\(∀(k:Nat) (h:k<(p.head.drop i).length),k<j->(p.head.drop i)[k]<U)/\∀(k:Nat) (h:k<(p.head.drop i).length),j<=k->U<=(p.head.drop i)[k])/\∀d∈ds,SW p lo hi d) (by rw[ag5];omega) ce ce bv bv
  ⟨bv,bv,bv,bv,[],h0,⟨lo,⟨bv,λd hd=>⟨λh=>(by simp at h),λh=>(by have:=h.1;omega)⟩,List.Pairwise.nil⟩,⟨ahY _,ap⟩,λk _ h=>ap,λk h _=>(by rw[aip];exact s_ _ (by simp at h;omega) ap)⟩,bv⟩ ?_ ?_
 .rintro j t J M ⟨X,v,g2,g_,ds,K,⟨U,I,hU,F,f⟩,y⟩ ha i7 next
  have b_:=λH:an=>bu (H:=H) (g:=g1) (rows:=ints (p.head.drop i)) (sz:=1) (k:=.i64) (i:=(j:Int)) ap (by simpa[ints]using M);have c9:=λH:an=>dY (H:=H) M;simp only[aiC,ag7]at b_;have n8:(p.head.drop i).Pairwise (· < ·):=q6.sublist (List.drop_sublist _ _);have x:∀(k:Nat) (h:k<(p.head.drop i).length),j+1<=k->(p.head.drop i)[j]<(p.head.drop i)[k]:=λk h Y=>ahn.1 n8 j k M h ap;have A:∀(k:Nat) (h:k<(p.head.drop i).length),k<j->(p.head.drop i)[k]<(p.head.drop i)[j]:=λk h Y=>ahn.1 n8 k j h M Y;have w:=f j M (agQ _);have o:(p.head.drop i)[j]∈p.head:=ahM (IN M);have j5:∀d,d∈p.head->d<lo\/∃(k:Nat) (h:k<(p.head.drop i).length),d=(p.head.drop i)[k]:=λd hd=>by
   obtain⟨k,Y,rfl⟩:=ag1 hd;by_cases i9:k<i
   .exact .inl (m_ k Y i9)
   .refine .inr ⟨k-i,by rw[ag5];omega,?_⟩;rw[aip]
    congr 1;omega
  obtain⟨n,hx⟩:=aH ((p.head.drop i)[j]);rw[<-hx]at c9 x A w o;have y_:=q7 n o;have L:∀d,U<=d->d<n->¬ SW p lo hi d:=λd h1 h2 B=>by
   have:=(i8 d ap ap).1 B.2.2;rcases j5 d this with h|⟨k,Y,rfl⟩
   .omega
   .by_cases W:k<j
    .have:=F k Y W;omega
    .by_cases m9:k=j
     .subst m9;omega
     .have:=x k Y ap;omega
  have u_:=a _ _ _ K;apply ax;apply ai;simp[ha,g_,b_,c9];by_cases a_:n<hi
  .obtain⟨J',O,i6⟩:=hy lo ds J n K ap a_ (λd hd=>by have:=I.lt d hd;omega) I.pw y;apply ai;simp[X,O.eq];refine bG bv ?_;have B:SW p lo hi n:=⟨ap,a_,(i8 n ap ap).2 o⟩
   refine au (next _ _ ?_ (by simp[ha]) (by simp[i7]));refine⟨by simp[X],by simp[v],by simp[g2],by simp[g_],ds++[n],i6,⟨n+1,I.more w L B,⟨ap,ap⟩,λk h Y=>?_,λk h Y=>by have:=x k h Y;omega⟩,λd hd=>?_⟩
   .by_cases e:k=j
    .subst e;omega
    .have:=A k h ap;omega
   .rcases agP.1 hd with q|q
    .exact y d q
    .rw[If]at q;rw[q];exact B
  .obtain⟨J',O,hR⟩:=hn lo ds J n K ap ap;apply ai;simp[X,O.eq];refine aq bv ?_;exact av (hQ _ _ _ rfl rfl ⟨rfl,ds,.inr hR,I.pw,I.all λd hd B=>by
    by_cases h:d<n
    .exact L d hd h B
    .have:=B.2.1;omega⟩)
 .rintro t J ⟨X,v,g2,g_,ds,K,⟨U,I,hU,F,-⟩,y⟩ - -;obtain⟨V,hV⟩:=aH (max lo p.fr);have d9:vJ (SW p lo hi) V ds:=I.skip ap λd h1 h2 B=>by
   have r_:d<p.fr:=ii
   have s7:=(i8 d r_ ap).1 B.2.2;obtain⟨k,Y,rfl⟩:=ag1 s7;by_cases i9:k<i
   .have:=m_ k Y i9;omega
   .have l_:k-i<(p.head.drop i).length:=by rw[ag5];omega
    have:=F (k-i) l_ l_;rw[aip]at this;simp only[show i+(k-i)=k by omega]at this;omega
  obtain⟨-,e1,e2,e3,e4,e5⟩:=a _ _ _ K;apply aU;simp[v,e3,-aw,c_];by_cases hc:p.bH=[]
  .refine aq (by simp[hc]) ?_;refine av (hQ _ _ _ rfl rfl ⟨rfl,ds,.inl ⟨lo,K⟩,d9.pw,d9.all λd hd B=>?_⟩);have:=B.2.2;unfold bE at this;rw[ct ap,hc]at this;simp at this
  have x6:0<p.bH.length:=ahf.2 hc;refine bG (by simp[hc]) ?_;have u9:max lo p.fr=V:=hV.symm;have s2:=e5 V;have d_:=n_ lo V ds J K;generalize J.set bl (.box [Z V] 0)=J2 at s2 d_;obtain⟨-,f1,f2,f3,f4,-⟩:=a _ _ _ d_;apply ai;simp[v,g2,e1,e4,-aw,u9,s2,-bF];have y6:=ahj (V-p.fr) (show p.aO≠0 by omega);have y7:=ahc (V-p.fr) (show 0<p.aO by omega);have y8:(V-p.fr) % p.aO<=V-p.fr:=by
   have h1:=ag2 (V-p.fr) p.aO;have h2:0<=p.aO*((V-p.fr) / p.aO):=ahy ap (ahC ap ap);omega
  have f_:de .rem (vi (V-p.fr)) (vi p.aO)=aa (vi ((V-p.fr) % p.aO)):=gn ap ap;obtain⟨base,N⟩:=aH (V-(V-p.fr) % p.aO);have j7:(base-p.fr) % p.aO=0:=by
   rw[N,show V-(V-p.fr) % p.aO-p.fr=(V-p.fr)-(V-p.fr) % p.aO by omega,ajf,ahW _ (ah3 _),Int.sub_self,ai8]
  apply ai;simp[v,g2,f1,f2,f4,-aw,a8 (n:=V-p.fr),f_,<-N,a8 (n:=base)];obtain⟨k0,e_,q_,p_,p9⟩:=gJ p.cg p.bH (V-base) ap q8;apply ai;simp[v,g2,f3,f4,-aw,a8 (n:=V-base),p9];apply ax;refine di (λm s=>∃(T0:T) (J:an) (ds:List Int) (base U:Int) (k:Nat),s=⟨T0,[],J⟩/\m=(hi-base).toNat+(if k=0 then 0 else 1)/\T0.g 0=.c (.yl b)/\T0.g 1=.c (.ptr bp 0 0)/\T0.g 4=vi k/\T0.g 8=vi base/\PP V ds J/\vJ (SW p lo hi) U ds/\(∀d∈ds,SW p lo hi d)/\
   p.fr<=base/\(base-p.fr) % p.aO=0/\base<=U/\U<=base+p.aO/\V<=U/\k<=p.bH.length/\(∀(j:Nat) (h:j<p.bH.length),j<k->base+p.bH[j]<U)/\(∀(j:Nat) (h:j<p.bH.length),k<=j->U<=base+p.bH[j])/\(k=0\/base<=1099511627776)/\base<=4398046511104) ((hi-base).toNat+(if k0=0 then 0 else 1))
   ⟨_,J2,ds,base,V,k0,rfl,rfl,by simp[X],by simp[v],bv,bv,d_,d9,y,ap,j7,ap,ap,ahY _,e_,λj h M=>by have:=q_ j h M;omega,λj h M=>by have:=p_ j h M;omega,ap,ap⟩ ?_
  clear d9 d_ j7 K N q_ p_ p9 f_ f1 f2 f3 f4 s2 e1 e2 e3 e4 e5;rintro m s ⟨t,J,ds,base,U,k,rfl,rfl,X,v,g4,g8,K,I,y,b1,b2,b3,b4,b5,Y,F,f,t8,b6⟩ ih;obtain⟨-,e1,e2,e3,e4,-⟩:=a _ _ _ K;obtain⟨g3,n9⟩:=Dx (H:=J) (g:=p.cg) (k:=k) (Km.Ord.cW p.bH) ip ip;rw[k_]at n9;apply ax;apply aU;simp[v,g4,e3,-aw,n9,c_];refine bW (p.bH.drop k).length (λj t' J=>t'.g 0=.c (.yl b)/\t'.g 1=.c (.ptr bp 0 0)/\t'.g 8=vi base/\t'.g 61=G (sl g3 (ints (p.bH.drop k)))/\∃ds U,PP V ds J/\vJ (SW p lo hi) U ds/\(∀d∈ds,SW p lo hi d)/\base<=U/\U<=base+p.aO/\V<=U/\(∀(i:Nat) (h:i<p.bH.length),i<k+j->base+p.bH[i]<U)/\(∀(i:Nat) (h:i<p.bH.length),k+j<=i->U<=base+p.bH[i])/\(0<j->base<hi)) (by rw[ag5];omega) ce ce bv bv
   ⟨by simp[X],by simp[v],by simp[g8],bv,ds,U,K,I,y,b3,b4,b5,F,f,ap⟩ ?_ ?_
  .rintro j t' J M ⟨X,v,g8,h_,ds,U,K,I,y,b3,b4,b5,F,f,-⟩ ha i7 next
   have W:k+j<p.bH.length:=by rw[ag5]at M;omega
   have b_:=λH:an=>bu (H:=H) (g:=g3) (rows:=ints (p.bH.drop k)) (sz:=1) (k:=.i64) (i:=(j:Int)) ap (by simpa[ints]using M);have c9:=λH:an=>dY (H:=H) M;simp only[aiC,ag7]at b_;have r9:(p.bH.drop k)[j]=p.bH[k+j]:=by rw[aip]
   have j8:=q9 _ (IN W);have j_:=IN W;have w:=f (k+j) W (agQ _);have x:∀(i:Nat) (h:i<p.bH.length),k+j+1<=i->p.bH[k+j]<p.bH[i]:=λi h hi=>ahn.1 q8 (k+j) i W h ap;have A:∀(i:Nat) (h:i<p.bH.length),i<k+j->p.bH[i]<p.bH[k+j]:=λi h hi=>ahn.1 q8 i (k+j) h W hi;obtain⟨c,j9⟩:=aH (p.bH[k+j]);rw[r9,<-j9]at c9;rw[<-j9]at j8 j_ w x A;have i_:bE p (base+c)=ae:=(C_ b1 b2 ap j8.2).2 j_;have L:∀d,U<=d->d<base+c->¬ SW p lo hi d:=λd h1 h2 B=>by
    have h3:=B.2.2;rw[show d=base+(d-base) by omega,C_ b1 b2 ap ap]at h3;obtain⟨i',S,e⟩:=ag1 h3;by_cases u:i'<k+j
    .have:=F i' S u;omega
    .by_cases u2:i'=k+j
     .subst u2;omega
     .have:=x i' S ap;omega
   apply ax;apply ai;simp[ha,h_,b_,c9];by_cases a_:base+c<hi
   .obtain⟨J',O,i6⟩:=hy V ds J (base+c) K ap a_ (λd hd=>by have:=I.lt d hd;omega) I.pw y;apply ai;simp[X,g8,a8 (n:=base+c),O.eq];refine bG bv ?_;have B:SW p lo hi (base+c):=⟨ap,a_,i_⟩
    refine au (next _ _ ?_ (by simp[ha]) (by simp[i7]));refine⟨by simp[X],by simp[v],by simp[g8],by simp[h_],ds++[base+c],base+c+1,i6,I.more w L B,λd hd=>?_,ap,ap,ap,λi' h S=>?_,λi' h S=>?_,λ_=>by omega⟩
    .rcases agP.1 hd with q|q
     .exact y d q
     .rw[If]at q;rw[q];exact B
    .by_cases e:i'=k+j
     .subst e;omega
     .have:=A i' h ap;omega
    .have:=x i' h ap;omega
   .obtain⟨J',O,hR⟩:=hn V ds J (base+c) K ap ap;apply ai;simp[X,g8,a8 (n:=base+c),O.eq];refine aq bv ?_;exact av (hQ _ _ _ rfl rfl ⟨rfl,ds,.inr hR,I.pw,I.all λd hd B=>by
     by_cases h:d<base+c
     .exact L d hd h B
     .have:=B.2.1;omega⟩)
  .rintro t' J ⟨X,v,g8,h_,ds,U,K,I,y,b3,b4,b5,F,-,j6⟩ - -;have t_:k+(p.bH.drop k).length=p.bH.length:=by rw[ag5];omega
   rw[t_]at F;obtain⟨-,e1,e2,e3,e4,-⟩:=a _ _ _ K;have r6:vJ (SW p lo hi) (base+p.aO) ds:=I.skip b4 λd h1 h2 B=>by
    have h3:=B.2.2;rw[show d=base+(d-base) by omega,C_ b1 b2 ap ap]at h3;obtain⟨i',S,e⟩:=ag1 h3;have:=F i' S S;omega
   have v_:base<=2199023255552:=by
    rcases t8 with rfl|h
    .have:=j6 (by rw[ag5];omega);omega
    .omega
   apply ai;simp;apply ba;simp[v,g8,e2,-aw,a8 (n:=base+p.aO)];refine au (ih ((hi-(base+p.aO)).toNat+0) _ ?_ ⟨_,J,ds,base+p.aO,base+p.aO,0,rfl,bv,by simp[X],by simp[v],bv,bv,K,r6,y,ap,?_,ahY _,ap,ap,ap,λj h M=>by omega,λj h M=>by have:=q9 _ (IN h);omega,.inl rfl,ap⟩)
   .by_cases e_:k=0
    .rw[ct e_];have:=j6 (by rw[ag5];omega);omega
    .rw[cC e_];omega
   .rw[show base+p.aO-p.fr=base-p.fr+p.aO by omega,aju];exact b2
structure WQ(p:aR)(hi:Int)(tm:T)(st:dB)(pd:Option aD)(z:Int)(ds:List Int)(J:an):Prop where
 h1:J[1]?=E [Z hi]
 bp:J[3]?=E [.f (sl p.hg (ints p.head)),Z p.fr,Z p.aO,.f (sl p.cg (ints p.bH))]
 bl:J[4]?=E [Z z]
 df:J[5]?=aa (.dH ae)
 lp:J[6]?=aa (.lp nC tm [P.nat 12] pR nT st pd 5)
 ls:∃c,J[2]?=E [c]/\LR J c 1 (ints ds)/\∀i,bz c=aa i->6<i
def WQ.SB{st':dB}{g pd':Option aD}(h:WQ q a t L g y l H):WQ q a t st' pd' y l (H.set 6 (.lp nC t [P.nat 12] pR nT st' pd' 5)):=by
 obtain⟨h1,h3,h4,h5,h6,c,h2,d,hc⟩:=h;refine⟨?_,?_,?_,?_,By (aj h6),c,?_,d.set (λe=>by have:=hc 6 e;omega) _,hc⟩
 all_goals (rw[sh ap];assumption)
def WQ.low{b:Option aD}(h:WQ q a t L b y l H)(g:Int):WQ q a t L b g l (H.set 4 (.box [Z g] 0)):=by
 obtain⟨h1,h3,h4,h5,h6,c,h2,j,hc⟩:=h;refine⟨?_,?_,By (aj h4),?_,?_,c,?_,j.set (λe=>by have:=hc 4 e;omega) _,hc⟩
 all_goals (rw[sh ap];assumption)
def vq(L:t.g 5=.c (.ptr 1 0 0))(M:t.g 7=.c (.ptr 2 0 0)){ds:List Int}(h:WQ q a t .ready ab d ds B)(n:Int)(O:n<a->ds.length<=1000000) :
  ∃r H',Ev tab (.yield 6) [vi n] B r H'/\((n<a/\r=vb ae/\WQ q a t .ready ab d (ds++[n]) H')\/(a<=n/\r=vb ag/\WQ q a t .done (aa (.exit 0)) d ds H')):=by
 refine dm (tab:=tab) (b:=6) (args:=[vi n]) (H:=B) h.lp rfl λX m=>?_;refine aF (.inr rfl) ?_;simp;refine eM h.lp ?_;have z:=h.SB (st':=.busy) (pd':=ab);generalize B.set 6 (.lp nC t [P.nat 12] pR nT .busy ab 5)=v at z ⊢;have U:aV v ab (.c (.ptr 1 0 0))=aa (vi a):=by simp[aV,az,z.h1]
 obtain⟨c,J,N,F⟩:=z.ls;apply ax;apply aE;refine aE (aF (.inr rfl) ?_);simp[L,U,-aw];by_cases k:n<a
 .refine aC ge (aQ ?_);obtain⟨u,s,p,l,I,A,x⟩:=rz N (ahd (O k) ce) n;have g:∀(i:Nat) y,i<=6->v[i]?=aa y->s[i]?=aa y:=λi y a Q=>A i y Q λe=>by have:=F i e;omega
  have S:aV v ab (.c (.ptr 2 0 0))=aa (.c c):=by simp[aV,az,J]
  have n2:=g 2 _ ap J;have W:dj s (.ptr 2 0 0) [u]=aa (s.set 2 (.box [u] 0)):=by simp[dj,n2,over]
  refine aF (.inr rfl) ?_;simp[M,S,-aw,p,W,-bF];have K:WQ q a t .busy ab d (ds++[n]) (s.set 2 (.box [u] 0)):=by
   have Y:=aj (g 6 _ ap z.lp);refine⟨?_,?_,?_,?_,?_,u,By (aj n2),l.set (l.cm n2) _,λi a=>?_⟩
   .rw[sh ap];exact g 1 _ ap z.h1
   .rw[sh ap];exact g 3 _ ap z.bp
   .rw[sh ap];exact g 4 _ ap z.bl
   .rw[sh ap];exact g 5 _ ap z.df
   .rw[sh ap];exact g 6 _ ap z.lp
   .rcases x with e|e
    .rw[e]at a;exact F i a
    .rw[e]at a;cases a;have:=aj z.lp;omega
  exact au (cN (m _ _ _ _ _ _ _ _ _ _ rfl K.lp (.inl ⟨k,rfl,K.SB⟩)))
 .refine aq ge ?_;exact nw rfl (m _ _ _ _ _ _ _ _ _ _ rfl z.lp (.inr ⟨ap,rfl,z.SB⟩))
def Cf(p:aR)(X:cO p=ae)(W:p.head.length<=1000000)(O:p.bH.length<=1000000)(lo hi:Int)(l0:0<=lo)(l1:lo<=1099511627776)(hh:hi<=lo+1000000) :
  ∃L g,bf tab nC [.a (p.row.map .f),vi lo,vi hi]=Eq (G (sl g (ints L)))/\L.Pairwise (· < ·)/\∀d,d∈L↔SW p lo hi d:=by
 obtain⟨r,⟨L,g,rfl,K,M⟩,h⟩:∃r,(∃L g,r=G (sl g (ints L))/\L.Pairwise (· < ·)/\∀d,d∈L↔SW p lo hi d)/\bf tab nC [.a (p.row.map .f),vi lo,vi hi] r:=by
  refine iX Yq rfl λQ hQ=>?_;apply ai;simp[aR.row];apply ai;simp;obtain⟨m,q⟩:=aH ([.box [.f (sl p.hg (ints p.head)),Z p.fr,Z p.aO,.f (sl p.cg (ints p.bH))] 0,.box [Z hi] 0,.box [.f .aN] 0]:an);rw[<-q];have la:aV m (aa 4) (.c (.ptr 0 0 0))=aa (.a [.f (sl p.hg (ints p.head)),Z p.fr,Z p.aO,.f (sl p.cg (ints p.bH))]):=by rw[q];simp[aV,az,aX]
  obtain⟨r0,H0,U,rfl,rfl⟩:=JB p lo m;simp only[aR.row,IT,agN]at U;have k:m.length=3:=by rw[q];rfl
  rw[k]at U;apply aU;simp[la,-aw,U.eq];apply ax
  suffices go:∀j:T,j.g 5=.c (.ptr 1 0 0)->j.g 7=.c (.ptr 2 0 0)->j.g 11=.c (.cl pT [.ptr 3 0 0,.ptr 4 0 0])->WP tab nC ab [.code OM,.inBlock 0,.code AG] ⟨j,[],m++[.box [.f (sl p.hg (ints p.head)),Z p.fr,Z p.aO,.f (sl p.cg (ints p.bH))] 0,.box [Z lo] 0]⟩ Q by exact go _ bv bv bv
  intro j o H F;obtain⟨w,y⟩:=aH (m++[.box [.f (sl p.hg (ints p.head)),Z p.fr,Z p.aO,.f (sl p.cg (ints p.bH))] 0,.box [Z lo] 0]++[.dH ae,.lp nC j [P.nat 12] pR nT .ready ab 5]:an);have q0:WQ p hi j .ready ab lo [] w:=by
   rw[y,q];refine⟨rfl,rfl,rfl,rfl,rfl,.f .aN,rfl,?_,λi h=>by cases h⟩;exact LR.nil _ _
  obtain⟨r,H',he,rfl,ds,s,Y,B⟩:=JC (b:=6) (bp:=3) (bl:=4) p X W O lo hi l0 l1 ap (PP:=λz ds J=>WQ p hi j .ready ab z ds J) (RR:=λds J=>∃z,WQ p hi j .done (aa (.exit 0)) z ds J)
   (λz ds J h=>⟨h.bp,h.bl⟩) (λz z' ds J h=>h.low z')
   (λz ds J n h a_ hn b_ X hS=>by
    have A:ds.length<=1000000:=by
     have:=fq ds lo (hi-lo) X λx hx=>by have:=hS x hx;unfold SW at this;omega
     omega
    obtain⟨r,H',u,f⟩:=vq o H h n λ_=>A;rcases f with⟨_,rfl,a⟩|⟨I,_,_⟩
    .exact⟨H',u,a⟩
    .omega)
   (λz ds J n h hn _=>by
    obtain⟨r,H',u,f⟩:=vq o H h n λh=>by omega
    rcases f with⟨I,_,_⟩|⟨_,rfl,a⟩
    .omega
    .exact⟨H',u,z,a⟩)
   q0
  have l:(m++[bV.box [.f (sl p.hg (ints p.head)),Z p.fr,Z p.aO,.f (sl p.cg (ints p.bH))] 0,.box [Z lo] 0]).length=5:=by simp[k]
  have S:Ev tab (.fn pT) [.c (.yl ((m++[bV.box [.f (sl p.hg (ints p.head)),Z p.fr,Z p.aO,.f (sl p.cg (ints p.bH))] 0,.box [Z lo] 0]).length+1)),.c (.ptr 3 0 0),.c (.ptr 4 0 0)] (m++[bV.box [.f (sl p.hg (ints p.head)),Z p.fr,Z p.aO,.f (sl p.cg (ints p.bH))] 0,.box [Z lo] 0]++[.dH ae,.lp nC j [P.nat 12] pR nT .ready ab (m++[bV.box [.f (sl p.hg (ints p.head)),Z p.fr,Z p.aO,.f (sl p.cg (ints p.bH))] 0,.box [Z lo] 0]).length]) (.t []) H':=by
   rw[l,<-y];exact he
  refine dC (g:=pT) (by rw[mF,F];simp[cr]) S ?_;rw[l];have v:∀(J:an) (st:dB) (t:Option aD) (z:Int),WQ p hi j st t z ds J->WP tab nC ab [.code AG] ⟨j,[.dR 5],J⟩ Q:=by
   intro J st t z h;obtain⟨c,I,hL,hc⟩:=h.ls;have l2:aV J ab (.c (.ptr 2 0 0))=aa (.c c):=by simp[aV,az,I]
   have N:=hL.set (λe=>by have:=hc 5 e;omega) (.dH ag);obtain⟨g,hg⟩:=N.ex (Km.Ord.cW _) 63;apply ai;simp[H,l2,-aw];refine av (hQ _ _ _ ⟨ds,g,rfl,Y,B⟩ (.inr ⟨5,rfl,h.df,.c c,?_,?_⟩))
   .exact dx bv
   .simp[jd,deep,hg]
  rcases s with⟨z,h⟩|⟨z,h⟩
  .refine dX h.lp ce (au (v _ _ _ z h.SB))
  .refine oW h.lp ce (bQ rfl (v _ _ _ z h.SB))
 exact⟨L,g,h.eq,K,M⟩
def Hq(h:a<=y)(b:a≠y):a<y:=ii
def C0(g:l.Pairwise (·<=·)){i j:Nat}(b:i<j)(d:j<l.length):(l[i]'(by omega))<=l[j]:=ahn.1 g i j ap d b
def MW(b:l[n]?=aa a):(ints l)[n]?=aa [fi a]:=by simp[ints,b]
def Bt(l:List Int):(ints l).length=l.length:=ol
def MY(l:List Int)(j:Nat)(x:Int):(ints l).set j [fi x]=ints (l.set j x):=by simp[ints,List.map_set]
def Ds(h:RB H n 1 N (ints l)){j:Nat}(g:l[j]?=aa a):aV H ab (.c (.ptr n j N))=aa (vi a):=by
 have:=h.ldc (Km.Ord.cW l) (MW g) (k:=0) rfl;simpa using this
def Ep{b:Nat}(hl:l.length<=1000000)(hs:l.Pairwise (·<=·))(I:RB H b 1 N (ints l)) :
  ∃r H',Ev tab (.fn Cy) [.c (.sl b 0 l.length 0 N 1)] H r H'/\
   (∃l' R:List Int,r=.c (.sl b 0 l'.length 0 N 1)/\Fm b H H'/\RB H' b 1 N (ints (l'++R))/\l'.length<=l.length/\l'.Pairwise (· < ·)/\∀x,x∈l'↔x∈l):=by
 refine dc rfl rfl λQ hQ=>?_;apply ai;simp;apply aU;simp[I.len];by_cases h2:l.length<2
 .refine aq ge ?_;apply ai;simp;refine av (hQ _ _ _ rfl (dx bv) ⟨l,[],rfl,Fm.refl _,by simpa using I,agQ _,?_,λ_=>Iff.rfl⟩)
  match l,h2 with
  |[],_=>exact List.Pairwise.nil| [x],_=>exact ahN _ _| x::y::r,h=>simp at h;omega
 refine aC ge (aQ ?_);apply aU;simp;apply ax;refine di (λn s=>∃(k:Nat) (t:T),s=⟨t,[],H⟩/\n=l.length-k/\1<=k/\k<=l.length/\t.g 0=.c (.sl b 0 l.length 0 N 1)/\t.g 3=vi k/\(l.take k).Pairwise (· < ·)) (l.length-1)
  ⟨1,_,rfl,rfl,ap,ap,bv,bv,?_⟩ ?_
 .cases l with
  |nil=>simp| cons x r=>simp
 rintro n s ⟨k,t,rfl,rfl,j7,j8,B,F,hp⟩ ih;apply aU;simp[B,F,I.len];by_cases u:k<l.length
 case neg=>
  refine aC (by simp[u]) ?_;refine bQ (k':=[.code vG]) rfl ?_;apply ai;simp[B];refine av (hQ _ _ _ rfl (dx bv) ⟨l,[],rfl,Fm.refl _,by simpa using I,agQ _,?_,λ_=>Iff.rfl⟩);rwa[agY ap]at hp
 refine aq (by simp[u]) (aQ ?_);obtain⟨m,rfl⟩:∃m,k=m+1:=⟨k-1,ap⟩
 have ix:∀{H:an} {rows:List (List FC)} (I:RB H b 1 N rows) (o n i:Nat) (hi:i<n),bO H 1 ab (.c (.sl b o n 0 N 1)) (vi i)=aa (.c (.ptr b (o+i) N)):=by
  intro H rows I o n i hi;have:=I.idx (n:=n) (c:=0) (k:=.i64) (o:=o) (i:=(i:Int)) ap ap;rwa[ag7,aiC]at this
 have i1:=ix I 0 l.length (m+1) u;have i0:=ix I 0 l.length m ap;have l1:=Ds I (j:=m+1) (BY u);have l0:=Ds I (j:=m) (BY (show m<l.length by omega));rw[ahI]at i1 i0;have c1:((m+1:Nat):Int)-1=m:=ii
 rw[show((m+1:Nat):Int)=(m:Int)+1 by omega]at i1;have g_:l.take (m+1+1)=l.take (m+1)++[l[m+1]]:=by rw[agV,BY u];rfl
 apply aE;apply ax;apply ai;simp[B,F,i1,i0,l1,l0,-aw,a8 (n:=(m:Int))];by_cases hc:¬ l[m+1]=l[m]
 .
  refine aC (by simp[hc]) (aQ (au ?_));apply ba;simp[F,a8 (n:=(m:Int)+1+1)];refine ih (l.length-(m+2)) _ ap ⟨m+2,_,rfl,rfl,ap,ap,by simp[B],ge,?_⟩;show(l.take (m+1+1)).Pairwise (· < ·);have A:l[m]≠l[m+1]:=λe=>hc e.symm;rw[g_,ahT];refine⟨hp,ahN _ _,λy hy z hz=>?_⟩;obtain rfl:=If.1 hz;obtain⟨i,hi,rfl⟩:=ag1 hy;have j6:i<m+1:=by simp at hi;omega
  rw[ajj];by_cases e:i=m
  .subst e;exact Hq (C0 hs ap u) A
  .exact Int.lt_trans (b:=l[m]) (by
    have h1:=ahn.1 hp i m ge ge ap;simpa using h1) (Hq (C0 hs ap u) A)
 .
  have e_:l[m+1]=l[m]:=Classical.not_not.1 hc;have c2:((m+1:Nat):Int)=(m:Int)+1:=ii
  have O:=I.px (k:=m+1) u;rw[c2]at O;refine aq (by simp[e_]) ?_;apply ai;simp[B,F,O];apply aU;simp;apply ax;refine di (λn s=>∃(i:Nat) (t:T) (J:an) (P R:List Int),s=⟨t,[],J⟩/\n=l.length-(m+2+i)/\m+2+i<=l.length/\t.g 0=.c (.sl b 0 l.length 0 N 1)/\t.g 3=vi P.length/\t.g 4=.c (.sl b (m+1) (l.length-(m+1)) 0 N 1)/\t.g 5=vi ((i:Int)+1)/\
   Fm b H J/\RB J b 1 N (ints (P++R))/\(P++R).length=l.length/\1<=P.length/\P.length<=m+1+i/\(∀q,m+1+i<=q->(P++R)[q]?=l[q]?)/\P.Pairwise (· < ·)/\∀x,x∈P↔x∈l.take (m+2+i)) (l.length-(m+2))
   ⟨0,_,H,l.take (m+1),l.drop (m+1),rfl,rfl,ap,by simp[B],by simp[F];omega,bv,bv,Fm.refl _,by simpa using I,bv,ge,ge,bv,hp,λx=>?_⟩ ?_
  .show x∈l.take (m+1)↔x∈l.take (m+1+1);rw[g_,agP,If];refine⟨.inl,λh=>h.elim id λe=>?_⟩;rw[e,e_];exact ahE.2 ⟨m,ap,rfl⟩
  rintro n s ⟨i,t,J,P,R,rfl,rfl,hi,B,F,W,X,K,d,v,Y,h_,hq,M,g⟩ j5;have b_:=d.len (o:=(m+1)) (l:=l.length-(m+1)) (c:=0);apply aU;simp[W,X,b_];by_cases L:m+2+i<l.length
  case neg=>
   have d_:m+2+i=l.length:=ii
   refine aC ge ?_;refine bQ (k':=[.code AU,.inBlock 1,.code AV,.inLoop AS,.inBlock 0,.code vG]) rfl ?_;have c_:P.length<l.length:=ii
   obtain⟨H3,d9,c9,i7⟩:=d.clr (Km.Ord.cW _) (zs:=[fi 0]) (by simpa using v) c_ rfl;rw[aiC]at d9;have O:=d.px c_;apply ai;simp[B,F,O,d9];have i_:=c9.FP (n:=l.length) (k:=P.length) ap ap;apply ai;simp[B,F,i_];have e3:(ints (P++R)).take P.length++List.replicate (l.length-P.length) [fi 0]=ints (P++List.replicate (l.length-P.length) 0):=by
    simp[ints]
   rw[e3]at c9;refine av (hQ _ _ _ rfl (dx bv) ⟨P,_,rfl,K.trans i7,c9,ap,M,λx=>?_⟩);rw[g,d_,agW]
  have ha:(P++R)[m+2+i]?=aa l[m+2+i]:=by rw[hq _ ap,BY L]
  have i6:(P++R)[m+1+i]?=aa (l[m+1+i]'(by omega)):=by rw[hq _ ap,BY]
  have j1:=ix d (m+1) (l.length-(m+1)) (i+1) ap;have j0:=ix d (m+1) (l.length-(m+1)) i ap;rw[show m+1+(i+1)=m+2+i by omega,show((i+1:Nat):Int)=(i:Int)+1 by omega]at j1;rw[show m+1+i=m+1+i by omega]at j0;have d1:=Ds d ha;have d0:=Ds d i6;refine aq ge (aQ ?_);apply aE;apply ax;apply ai;simp[W,X,j1,j0,d1,d0,-aw,a8 (n:=(i:Int))];have U:l.take (m+2+(i+1))=l.take (m+2+i)++[l[m+2+i]]:=by
   rw[show m+2+(i+1)=m+2+i+1 by omega,agV,BY L];rfl
  have next:∀(t:T) (J:an) (P R:List Int),t.g 0=.c (.sl b 0 l.length 0 N 1)->t.g 3=vi P.length->t.g 4=.c (.sl b (m+1) (l.length-(m+1)) 0 N 1)->t.g 5=vi ((i:Int)+1)->
    Fm b H J->RB J b 1 N (ints (P++R))->(P++R).length=l.length->1<=P.length->P.length<=m+2+i->(∀q,m+2+i<=q->(P++R)[q]?=l[q]?)->P.Pairwise (· < ·)->(∀x,x∈P↔x∈l.take (m+2+(i+1)))->
    WP tab Cy ab [.inBlock 3,.code Lu,.inLoop Lt,.inBlock 2,.code AU,.inBlock 1,.code AV,.inLoop AS,.inBlock 0,.code vG] ⟨t,[],J⟩ Q:=by
   intro t J P R B F W X K d v Y h_ hq M g;refine au (aF (.inl rfl) ?_);simp[X,a8 (n:=(i:Int)+1+1)];exact j5 (l.length-(m+2+(i+1))) _ ap ⟨i+1,_,J,P,R,rfl,rfl,ap,by simp[B],by simp[F],by simp[W],bv,K,d,v,Y,ap,λq h=>hq q ap,M,g⟩
  have i8:(l[m+1+i]'(by omega))<=l[m+2+i]:=C0 hs ap L;by_cases a_:¬ l[m+2+i]=l[m+1+i]
  .have A:l[m+1+i]≠l[m+2+i]:=λe=>a_ e.symm;have f_:=Hq i8 A;have kx:=ix d 0 l.length P.length ap;rw[ahI]at kx;obtain⟨H3,s3,r3,f3,-⟩:=d.str (Km.Ord.cW _) (j:=P.length) (by rw[Bt,v];omega) (row:=[fi l[m+2+i]]) rfl;rw[MY]at r3;rw[aiC]at s3;obtain⟨x0,R',rfl⟩:∃x0 R',R=x0::R':=by
    cases R with
    |nil=>simp at v;omega| cons x0 R'=>exact⟨_,_,rfl⟩
   rw[xR]at r3;refine aq (by simp[a_]) ?_;apply ai;simp only[IT,agN]at s3;simp[B,F,W,X,j1,d1,kx,s3,-aw,-bF];apply ba;simp[F,a8 (n:=(P.length:Int)+1)];have e5:P++l[m+2+i]::R'=(P++[l[m+2+i]])++R':=lw
   rw[e5]at r3;refine next _ H3 (P++[l[m+2+i]]) R' (by simp[B]) bv (by simp[W]) (by simp[X]) (K.trans f3) r3 (by simpa using v) bv ge (λq h=>?_) ?_ λx=>?_
   .rw[<-e5,<-xR P x0,sh ap];exact hq q ap
   .rw[ahT];refine⟨M,ahN _ _,λy hy z hz=>?_⟩;obtain rfl:=If.1 hz;obtain⟨q,i9,rfl⟩:=ag1 ((g y).1 hy);have j9:q<m+2+i:=by simp at i9;omega
    rw[ajj];by_cases e:q=m+1+i
    .subst e;exact f_
    .have h1:=C0 hs (i:=q) (j:=m+1+i) ap ap;omega
   .rw[U,agP,agP,g]
  .have S:l[m+2+i]=l[m+1+i]:=Classical.not_not.1 a_;refine bG (by simp[S]) ?_;refine next _ J P R (by simp[B]) (by simp[F]) (by simp[W]) (by simp[X]) K d v Y ap (λq h=>hq q ap) M λx=>?_
   rw[U,agP,If,g];refine⟨.inl,λh=>h.elim id λe=>?_⟩;rw[e,S];exact ahE.2 ⟨m+1+i,ap,rfl⟩
end Go.Proofs.YtelifakcllijpaaGreat
