/-
  Dh the iC gK and the gl answer, for all arguments of their kind, in the small machine: part 4.
-/
import Derived.Test.YtelifakcllijpaaGreatTab
import Derived.Test.YtelifakcllijpaaGreatK3
import Derived.KernelRfl
open Option renaming some->aa,none->ab
open Bool renaming true->ae,false->ag
open List renaming drop_eq_getElem_cons->ags, getElem_mem->IN, getElem?_append_left->AI, take_add_one->agv, getElem?_eq_getElem->By, mem_append->agl, mem_singleton->If, pairwise_append->aho, pairwise_cons->ahm, mem_cons->agA, take_length->agu, pairwise_singleton->ahs, drop_length->ahK, all_eq_true->agJ, mem_map->agt, pairwise_iff_getElem->agQ, length_map->agq, getElem_map->aib, take_of_length_le->agw, getElem_of_mem->agz, mem_take_iff_getElem->ahe, map_cons->agm, getElem?_set_ne->sh, getElem?_set_self->BY, mem_cons_self->ago, mem_cons_of_mem->agr, drop_zero->ahi, length_append->aft, take_take->aik, map_append->ahl, length_cons->agP, length_take->agO
open Bool renaming true_and->ahh, and_eq_true->IS
open Nat renaming le_refl->agn, zero_add->ahg, gcd->ahC, min_eq_left->ahQ, lt_or_ge->ahj
open Int renaming toNat_natCast->agD, tmod_eq_emod_of_nonneg->agE, tdiv_eq_ediv_of_nonneg->agY, ediv_nonneg->aha, le_trans->ag5, ediv_le_self->ahL, mul_nonneg->ag7, mul_le_mul->ah5, emod_nonneg->agW, emod_lt_of_pos->agL, mul_neg->aim, lt_trichotomy->aiS, mul_le_mul_of_nonneg_left->agy, tmod_lt_of_pos->aip, lt_tmod_of_pos->aiq, emod_eq_emod_iff_emod_sub_eq_zero->aiv, gcd->ag6, lt_or_le->ahy, dvd_refl->ahA, le_of_dvd->agZ, emod_add_mul_ediv->agB, mul_comm->ahB, dvd_sub->ahT, dvd_mul_left->ait, dvd_trans->ag0, gcd_dvd_left->ah0, gcd_dvd_right->ah7, ediv_mul_cancel->aiP, mul_assoc->aia, dvd_add->aiK, gcd_pos_of_ne_zero_left->ahv, mul_nonneg_of_nonpos_of_nonpos->aiC, tmod_eq_zero_of_dvd->ain, mul_le_mul_of_nonneg_right->agI, dvd_of_tmod_eq_zero->aiD, emod_eq_of_lt->ahf, le_refl->ahw
open Option.some renaming inj->aiy
open List.Pairwise renaming imp->aif, imp_of_mem->aij
set_option linter.unusedVariables false
set_option linter.constructorNameAsVariable false
set_option linter.unusedSimpArgs false
set_option linter.unusedSectionVars false
set_option linter.unnecessarySimpa false
set_option maxRecDepth 100000
namespace Go.Proofs.YtelifakcllijpaaGreat
open Go Km
def bU(n lo hi:Int):Bool:=decide (lo<=n)&&decide (n<=hi)
theorem vd{n lo hi:Int}(h:bU n lo hi=ae):lo<=n/\n<=hi:=by simpa[bU]using h
theorem MV(n lo hi:Int):Kf tab Pa [vi n,vi lo,vi hi] (vb (bU n lo hi)):=by
 refine dh rfl rfl λH Q b=>?_;apply au;refine aq (.inl rfl) ?_;simp;apply au;refine aq (.inl rfl) ?_;by_cases h:lo<=n
 .simp[h];refine az (b _ _ ?_);simp[bU,h]
 .simp[h];refine az (b _ _ ?_);simp[bU,h]
@[simp] theorem aal (n lo hi:Int):bg tab Pa [vi n,vi lo,vi hi]=Eq (vb (bU n lo hi)):=(MV n lo hi).eq
theorem vU(g:Tg)(l:List Int)(v:Int)(b:l.length<=9223372036854775807) :
  Kf tab FR [.c (.f (sl g (ints l))),vi v] (vb (l.any (· == v))):=
 fD X_ (Ce Yi g l v b)
structure a8 where
 cap:Int
 fg:Int
 gN:Int
 (o0 o1 o2 o3 o4 o5 o6 o7 o8 o9:FC)
 qg:Tg
 q:List (Int × Int)
 pg:Tg
 p:List Int
def gk(l:List (Int × Int)):List (List FC):=l.map λx=>[fi x.1,fi x.2]
@[simp] theorem aaj (l:List (Int × Int)):(gk l).length=l.length:=by simp[gk]
theorem yw(l:List (Int × Int)):cR 2 (gk l):=cR.map λ_=>rfl
theorem Ez{l:List (Int × Int)}{j:Nat}(b:j<l.length):(gk l)[j]?=aa [fi l[j].1,fi l[j].2]:=by simp[gk,b]
def a8.op(r:a8):List C:=[.f r.o0,.f r.o1,.f r.o2,.f r.o3,.f r.o4,.f r.o5,.f r.o6,.f r.o7,.f r.o8,.f r.o9]
def a8.row(r:a8):List FC:=[fi r.cap,fi r.fg,fi r.gN,r.o0,r.o1,r.o2,r.o3,r.o4,r.o5,r.o6,r.o7,r.o8,r.o9,sl r.qg (gk r.q),sl r.pg (ints r.p)]
def rows(l:List a8):List (List FC):=l.map a8.row
@[simp] theorem ac4 (l:List a8):(rows l).length=l.length:=by simp[rows]
theorem fv(l:List a8):cR 15 (rows l):=cR.map λ_=>rfl
theorem qP{l:List a8}{j:Nat}(b:j<l.length):(rows l)[j]?=aa l[j].row:=by simp[rows,b]
def nf(r:a8):Prop:=bg tab Ih [.a r.op] (vi 0)
def nG(r:a8):Bool:=decide (64<(r.q.length:Int))||decide (64<(r.p.length:Int))
def CA(l:List a8)(p:Int):Nat:=((l[p.toNat]?).map (·.p.length)).getD 0
theorem Uv{l:List a8}{p:Int}(d:0<=p)(b:p.toNat<l.length):CA l p=(l[p.toNat]).p.length:=by simp[CA,b]
def km(last:Int):List (Int × Int)->Bool
 |[]=>ae| x::r=>bU x.1 (last+1) 63&&bU x.2 0 10080&&km x.1 r
def nu(l:List a8)(i last:Int):List Int->Bool
 |[]=>ae| p::r=>bU p (last+1) ((l.length:Int)-1)&&!decide (p=i)&&decide (CA l p=0)&&nu l i p r
def fQ(l:List a8)(i:Nat)(r:a8):Bool:=
 bU r.cap 1 512&&bU r.fg 0 1440&&bU r.gN 0 1440&&km (-1) r.q&&nu l i (-1) r.p
def fU(l:List a8):Nat->List a8->Bool
 |_,[]=>ae| i,r::b=>fQ l i r&&fU l (i+1) b
def lB(l:List a8):Int:=if l.any nG then 2 else if fU l 0 l then 0 else 1
theorem Ys(r:a8)(j:nf r):Kf tab BJ [.a (r.row.map .f)] (vb (nG r)):=by
 refine dh rfl rfl λH Q d=>?_;have g:=bg.eq j;simp only[a8.op]at g;apply au;refine aq (.inl rfl) ?_;simp[a8.row];apply au;refine aq (.inl rfl) ?_;simp;refine IG (λh=>?_) (λh=>?_)
 .simp[h];refine IG (λb=>?_) (λb=>?_)
  .simp[b,g];refine az (d _ _ ?_);simp[nG,h,b]
  .simp[b];refine az (d _ _ ?_);simp[nG,h,b]
 .simp[h];refine az (d _ _ ?_);simp[nG,h]
theorem KI(g:Tg)(l:List a8)(q:l.length<=6)(d:∀r∈l,nf r) :
  Kf tab FP [.c (.f (sl g (rows l))),.c (.f (.fn BJ []))] (vb (l.any nG)):=
 fD X8 (je Yg l a8.row (λr=>.a (r.row.map .f)) nG g BJ [] ap
  (λj b H=>cf (fv l) (qP b)) (λr m=>Ys r (d r m)))
structure aO where
 hg:Tg
 head:List Int
 fr:Int
 aT:Int
 cg:Tg
 bF:List Int
def aO.row(p:aO):List FC:=[sl p.hg (ints p.head),fi p.fr,fi p.aT,sl p.cg (ints p.bF)]
def aQ(l:List aO):List (List FC):=l.map aO.row
@[simp] theorem EE (l:List aO):(aQ l).length=l.length:=by simp[aQ]
theorem bQ(l:List aO):cR 4 (aQ l):=cR.map λ_=>rfl
theorem dd{l:List aO}{j:Nat}(b:j<l.length):(aQ l)[j]?=aa l[j].row:=by simp[aQ,b]
def cH(limit last:Int):List Int->Bool
 |[]=>ae| n::r=>decide (last<n)&&decide (n<limit)&&cH limit n r
theorem tB{limit last:Int}{l:List Int}{j:Nat}(b:j<l.length):cH limit last (l.drop j)=(decide (last<l[j])&&decide (l[j]<limit)&&cH limit l[j] (l.drop (j+1))):=by
 rw[ags b];rfl
def cI(p:aO):Bool:=decide (0<=p.fr)&&decide (p.fr<=1099511627776)&&decide (1<=p.aT)&&decide (p.aT<=1099511627776) &&
 decide ((p.head.length:Int)+p.bF.length<=1048576)&&cH p.fr (-1) p.head&&cH p.aT (-1) p.bF
theorem MA(g:Tg)(l:List Int)(limit:Int)(A:l.length<=9223372036854775807):Kf tab OZ [.c (.f (sl g (ints l))),vi limit] (vb (cH limit (-1) l)):=by
 refine dh rfl rfl λH Q q=>?_;apply ai;simp;apply ai;simp;apply au;apply ai;simp;refine bS l.length (λj t H'=>t.g 1=vi limit/\t.g 8=.c (.f (sl g (ints l)))/\H=H'/\∃last,t.g 5=vi last/\cH limit (-1) l=cH limit last (l.drop j)) A ce ce bv bv bv ?_ ?_
 .rintro j t _ x ⟨d,m,rfl,last,u,b⟩ s v next
  rw[tB x]at b;refine ay ?_;apply ai;simp[s,m,bz,x,dZ];apply au;apply ai;simp[u,d];by_cases y:l[j]<=last
  .simp[y];refine aw bv ?_;apply ai;simp;refine az (q _ _ ?_);simp[b,show¬ last<l[j] by omega]
  simp[y,d];by_cases z:limit<=l[j]
  .simp[z];refine aw bv ?_;apply ai;simp;refine az (q _ _ ?_);simp[b,show¬ l[j]<limit by omega]
  simp[z];refine aD bv ?_;refine aR ?_;refine aq (.inl rfl) ?_;simp;refine av (next _ _ ?_ (by simp[s]) (by simp[v]));rw[decide_eq_true ap,decide_eq_true ap]at b;exact⟨by simp[d],by simp[m],rfl,l[j],bv,by simpa using b⟩
 .rintro t _ ⟨d,m,rfl,last,u,b⟩ s v;apply ai;simp;refine az (q _ _ ?_);simp[b,cH]
theorem qM(g:Tg)(l:List Int)(limit:Int)(b:l.length<=9223372036854775807) :
  bg tab OZ [.c (.f (sl g (ints l))),vi limit]=Eq (vb (cH limit (-1) l)):=(MA g l limit b).eq
theorem MW{n:Int}(b:9223372036854775807<n)(d:n<=18446744073709551615):IntKind.wrap .i64 n=n-18446744073709551616:=by
 simp only[IntKind.wrap,IntKind.bits,IntKind.signed];simp;omega
theorem rX:∀(l:List Int) (limit last:Int),cH limit last l=ae->l.length=0\/last+l.length<limit
 |[],_,_,_=>.inl rfl
 |n::r,limit,last,h=>by
  simp[cH]at h;have:=rX r limit n h.2;simp;omega
theorem Zs(p:aO)(v:p.head.length<=9223372036854775807)(x:p.bF.length<=9223372036854775807) :
  Kf tab OW [.a (p.row.map .f)] (vb (cI p)):=by
 refine dh rfl rfl λH Q d=>?_;apply ai;simp[aO.row];apply ai;simp;by_cases l:0<=p.fr
 case neg=>
  simp[l];refine az (d _ _ ?_);simp[cI,l]
 simp[l];by_cases m:p.fr<=1099511627776
 case neg=>
  simp[m];refine az (d _ _ ?_);simp[cI,m]
 simp[m];by_cases q:1<=p.aT
 case neg=>
  simp[q];refine az (d _ _ ?_);simp[cI,q]
 simp[q];by_cases g:p.aT<=1099511627776
 case neg=>
  simp[g];refine az (d _ _ ?_);simp[cI,g]
 by_cases y:p.head.length+p.bF.length<=9223372036854775807
 case neg=>
  have e:IntKind.wrap .i64 ((p.head.length:Int)+p.bF.length)=(p.head.length:Int)+p.bF.length-18446744073709551616:=MW ap ap;simp[g,e,show(p.head.length:Int)+p.bF.length-18446744073709551616<=1048576 by omega,qM p.hg p.head p.fr v];cases j:cH p.fr (-1) p.head
  .simp;refine az (d _ _ ?_);simp[cI,j]
  simp[qM p.cg p.bF p.aT x];have u:cH p.aT (-1) p.bF=ag:=by
   have a:=rX _ _ _ j;cases u:cH p.aT (-1) p.bF
   .rfl
   .have b:=rX _ _ _ u;omega
  refine az (d _ _ ?_);simp[cI,u]
 simp[g,aZ (n:=(p.head.length:Int)+p.bF.length)];by_cases s:(p.head.length:Int)+p.bF.length<=1048576
 case neg=>
  simp[s];refine az (d _ _ ?_);simp[cI,s]
 simp[s,qM p.hg p.head p.fr v];cases j:cH p.fr (-1) p.head
 .simp;refine az (d _ _ ?_);simp[cI,j]
 simp[qM p.cg p.bF p.aT x];refine az (d _ _ ?_);simp[cI,l,m,q,g,s,j]
def aO.Sm(p:aO):Prop:=p.head.length<=9223372036854775807/\p.bF.length<=9223372036854775807
theorem uQ(p:aO)(h:p.Sm):bg tab OW [.a (p.row.map .f)]=Eq (vb (cI p)):=(Zs p h.1 h.2).eq
theorem kj{p:aO}(h:cI p=ae):p.Sm:=by
 simp[cI]at h;exact⟨ap,ap⟩
structure cV where
 tg:Tg
 fs:List aO
def cV.row(t:cV):List FC:=[sl t.tg (aQ t.fs)]
def aK(l:List cV):List (List FC):=l.map cV.row
@[simp] theorem UK (l:List cV):(aK l).length=l.length:=by simp[aK]
theorem fN(l:List cV):cR 1 (aK l):=cR.map λ_=>rfl
theorem ir{l:List cV}{j:Nat}(b:j<l.length):(aK l)[j]?=aa l[j].row:=by simp[aK,b]
def cV.Sm(t:cV):Prop:=t.fs.length<=9223372036854775807/\∀p∈t.fs,p.Sm
def jD(t:cV):Bool:=decide (1<=(t.fs.length:Int))&&decide ((t.fs.length:Int)<=4)&&t.fs.all cI
def jz(l:List cV):Bool:=decide ((l.length:Int)<=64)&&l.all jD
theorem PZ{b:Type}{l:List b}{p:b->Bool}{j:Nat}(d:j<l.length):(l.drop j).all p=(p l[j]&&(l.drop (j+1)).all p):=by
 rw[ags d,List.all_cons]
theorem Yr(p:aO)(h:p.Sm):Kf tab Pv [.a (p.row.map .f)] (vb (!cI p)):=by
 refine dh rfl rfl λH Q d=>?_;have b:=uQ p h;simp[aO.row]at b;apply ai;simp[aO.row];apply ai;simp[b];refine az (d _ _ ?_);simp
theorem KH(g:Tg)(l:List aO)(d:l.length<=9223372036854775807)(h:∀p∈l,p.Sm) :
  bg tab FO [.c (.f (sl g (aQ l))),.c (.f (.fn Pv []))]=Eq (vb (l.any λp=>!cI p)):=
 (fD PO (je PQ l aO.row (λr=>.a (r.row.map .f)) (λp=>!cI p) g Pv [] d
  (λj b H=>cf (bQ l) (dd b)) (λp m=>Yr p (h p m)))).eq
theorem rO(g:Tg)(l:List cV)(F:l.length<=9223372036854775807)(h:∀t∈l,t.Sm):Kf tab Dc [.a [.f (sl g (aK l))]] (vb (jz l)):=by
 refine dh rfl rfl λH Q u=>?_;apply ai;simp;apply au;apply ai;simp;by_cases z:(64:Int)<l.length
 .simp[z];refine aw bv ?_;apply ai;simp;refine az (u _ _ ?_);simp[jz,show¬ (l.length:Int)<=64 by omega]
 simp[z];refine aD bv ?_;refine aR ?_;apply au;apply ai;simp;refine bS l.length (λj t H'=>t.g 10=.c (.f (sl g (aK l)))/\(∃J,H'=H++J)/\l.all jD=(l.drop j).all jD) F ce ce bv bv bv ?_ ?_
 .rintro j t _ q ⟨d,⟨J,rfl⟩,m⟩ v x next
  rw[PZ q]at m;have y:=h l[j] (IN q);have b:=jU (H:=H++J) (k:=0) (fN l) (ir q) rfl;refine ay ?_;apply ai;simp at b;simp[v,d,bz,q,b];have bad:jD l[j]=ag->∀(t:T) (J:an) k,WP tab Dc ab (.code (.region [⟨D 2,.iV (.k (.c (.f (.bool ag)))),ab⟩] [])::.code .ret::k) ⟨t,[],H++J⟩ Q:=by
   intro E t J k;refine aq (.inl rfl) ?_;simp;refine az (u _ _ ?_);simp[jz,m,E]
  apply ai;simp;by_cases A:(l[j].fs.length:Int)<1
  .simp[A];exact aw bv (au (bad (by simp[jD,show¬ 1<=(l[j].fs.length:Int) by omega]) _ _ _))
  simp[A];by_cases B:(4:Int)<l[j].fs.length
  .simp[B];exact aw bv (au (bad (by simp[jD,show¬ (l[j].fs.length:Int)<=4 by omega]) _ _ _))
  simp[B,KH l[j].tg l[j].fs y.1 y.2];cases s:l[j].fs.any λp=>!cI p
  .have:jD l[j]=ae:=by
    simp[jD]at s ⊢;exact⟨⟨ap,ap⟩,s⟩
   refine aD bv ?_;refine aR (av (next _ _ ?_ (by simp[v]) (by simp[x])));rw[this,ahh]at m;exact⟨by simp[d],⟨_,rfl⟩,m⟩
  .exact aw bv (au (bad (by simp[jD]at s ⊢;intro _ _;exact s) _ _ _))
 .rintro t _ ⟨d,⟨J,rfl⟩,m⟩ v x;apply ai;simp;refine az (u _ _ ?_);simp[jz,m,show(l.length:Int)<=64 by omega]
theorem sW(a:Int):bg tab abH [vi a]=Eq (vb ag):=(show Kf tab abH [vi a] (vb ag) by
 refine dh rfl rfl λH Q b=>?_;apply ai;simp;apply ai;simp;refine az (b _ _ ?_);simp).eq
def eE(a b:Int):Int:=if a<b then -1 else if b<a then 1 else 0
theorem Gl(a b:Int):Kf tab abw [vi a,vi b] (vi (eE a b)):=by
 refine dh rfl rfl λH Q g=>?_;apply ai;simp;apply ai;simp[sW];apply ai;simp[sW];apply au;apply ai;simp;refine bE bv ?_;apply au;apply ai;simp;refine bE bv ?_;apply au;apply ai;simp;by_cases h:a<b
 .refine aw (by simp[h]) ?_;apply ai;simp;refine az (g _ _ ?_);simp[eE,h]
 refine bE (by simp[h]) ?_;apply au;apply ai;simp;by_cases d:b<a
 .refine aw (by simp[d]) ?_;apply ai;simp;refine az (g _ _ ?_);simp[eE,h,d]
 refine bE (by simp[d]) ?_;apply ai;simp;refine az (g _ _ ?_);simp[eE,h,d]
theorem mf(a b:Int):bg tab abw [vi a,vi b]=Eq (vi (eE a b)):=(Gl a b).eq
def zz:List Int->Int
 |[]=>0| a::r=>if a=0 then zz r else a
theorem Ry{l:List Int}{j:Nat}(b:j<l.length):zz (l.drop j)=if l[j]=0 then zz (l.drop (j+1))else l[j]:=by
 rw[ags b];rfl
theorem acZ(g:Tg)(l:List Int)(x:l.length<=9223372036854775807):Kf tab abF [.c (.f (sl g (ints l)))] (vi (zz l)):=by
 refine dh rfl rfl λH Q s=>?_;apply ai;simp;apply ai;simp;apply au;apply ai;simp;refine bS l.length (λj t H'=>t.g 3=vi 0/\t.g 6=.c (.f (sl g (ints l)))/\H=H'/\zz l=zz (l.drop j)) x ce ce bv bv bv ?_ ?_
 .rintro j t _ v ⟨d,m,rfl,b⟩ q u next
  rw[Ry v]at b;refine ay ?_;apply ai;simp[q,m,bz,v,dZ];apply ai;simp[d];by_cases h:l[j]=0
  .refine aD (by simp[h]) ?_;refine aR (av (next _ _ ?_ (by simp[q]) (by simp[u])));rw[bZ h]at b;exact⟨by simp[d],by simp[m],rfl,b⟩
  .refine aw (by simp[h]) ?_;apply ai;simp;refine az (s _ _ ?_);simp[b,h]
 .rintro t _ ⟨d,m,rfl,b⟩ q u;apply ai;simp[d];refine az (s _ _ ?_);simp[b,zz]
theorem Eo(g:Tg)(l:List Int)(b:l.length<=9223372036854775807):bg tab abF [.c (.f (sl g (ints l)))]=Eq (vi (zz l)):=(acZ g l b).eq
theorem YI(n lo hi:Int):Kf tab U2 [vi n,vi lo,vi hi] (vb (bU n lo hi)):=by
 refine dh rfl rfl λH Q b=>?_;apply ai;simp;apply ai;by_cases h:lo<=n
 .simp[h];refine az (b _ _ ?_);simp[bU,h]
 .simp[h];refine az (b _ _ ?_);simp[bU,h]
@[simp] theorem aeW (n lo hi:Int):bg tab U2 [vi n,vi lo,vi hi]=Eq (vb (bU n lo hi)):=(YI n lo hi).eq
structure aC where
 day:Int
 fr:Int
 to:Int
deriving DecidableEq
def aC.row(x:aC):List FC:=[fi x.day,fi x.fr,fi x.to]
def aF(l:List aC):List (List FC):=l.map aC.row
@[simp] theorem jx (l:List aC):(aF l).length=l.length:=by simp[aF]
theorem bM(l:List aC):cR 3 (aF l):=cR.map λ_=>rfl
theorem dB{l:List aC}{j:Nat}(b:j<l.length):(aF l)[j]?=aa l[j].row:=by simp[aF,b]
def fO(x y:aC):Int:=zz [eE x.fr y.fr,eE x.day y.day,eE x.to y.to]
theorem RC(x y:aC):Kf tab U3 [.a (x.row.map .f),.a (y.row.map .f)] (vi (fO x y)):=by
 refine dh rfl rfl λH Q d=>?_;have b:=Eo .fs [eE x.fr y.fr,eE x.day y.day,eE x.to y.to] bv;simp[ints,sl,Tg.fc]at b;apply ai;simp[aC.row];apply ai;simp[mf,deep,gT,jL,b];refine az (d _ _ ?_);simp[fO]
def rk(x y:aC):Bool:=if x.fr=y.fr then(if x.day=y.day then decide (x.to<y.to)else decide (x.day<y.day))else decide (x.fr<y.fr)
theorem Uc(x y:aC):bg tab O4 [.a (x.row.map .f),.a (y.row.map .f)]=Eq (vb (rk x y)):=by
 refine Kf.eq (dh rfl rfl λH Q g=>?_);apply ai;simp[aC.row];apply au;apply ai;simp;by_cases b:x.fr=y.fr
 .refine bE (by simp[b]) ?_;apply au;apply ai;simp;by_cases d:x.day=y.day
  .refine bE (by simp[d]) ?_;apply ai;simp;refine az (g _ _ ?_);simp[rk,b,d]
  .refine aw (by simp[d]) ?_;apply ai;simp;refine az (g _ _ ?_);simp[rk,b,d]
 .refine aw (by simp[b]) ?_;apply ai;simp;refine az (g _ _ ?_);simp[rk,b]
def aC.lt(x y:aC):Prop:=x.fr<y.fr\/x.fr=y.fr/\(x.day<y.day\/x.day=y.day/\x.to<y.to)
theorem AR(x y:aC):rk x y=ae↔x.lt y:=by
 unfold rk aC.lt;by_cases b:x.fr=y.fr
 .by_cases d:x.day=y.day
  .simp[b,d]
  .simp[b,d]
 .simp[b]
theorem nR(x y:aC):fO x y<0↔x.lt y:=by
 unfold fO aC.lt;simp only[zz,eE]
 repeat' split
 all_goals omega
theorem aC.lt_trans{x y z:aC}(h:x.lt y)(b:y.lt z):x.lt z:=by unfold aC.lt at *;omega
theorem aC.Q8{x y:aC}(h:¬ x.lt y)(d:x≠y):y.lt x:=by
 obtain⟨a,b,c⟩:=x;obtain⟨a',g,j⟩:=y;unfold aC.lt at *;simp only[ne_eq,aC.mk.injEq]at d;simp only at h ⊢;omega
theorem LU(g:Tg)(l:List aC)(x:aC)(hl:l.length<=10)(hs:l.Pairwise aC.lt):∃g' K,K.length<=l.length+1/\(K.Pairwise aC.lt/\∀y,y∈K↔y=x\/y∈l)/\bg tab Fq [.c (.f (sl g (aF l))),.a (x.row.map .f)]=Eq (.c (.f (sl g' (aF K)))):=by
 obtain⟨r,⟨g',K,d_,hS,rfl⟩,h⟩:∃r,(∃g' K,K.length<=l.length+1/\(K.Pairwise aC.lt/\∀y,y∈K↔y=x\/y∈l)/\r=.c (.f (sl g' (aF K))))/\bg tab Fq [.c (.f (sl g (aF l))),.a (x.row.map .f)] r:=by
  refine dx rfl rfl λQ hQ=>?_;apply ai;simp[aC.row];apply ai;simp;apply ai;simp;apply au;apply ai;simp;have W:∀(H:an) (v:V) (o:List aC) (y:aC),o.length<=30->LB ae H 3 v .es (aF o)->∃v' H',bT (H++[.box [.f (fi y.day),.f (fi y.fr),.f (fi y.to)] 0]) 3 24 v (.c (.sl H.length 0 1 1 0 3))=aa (v',H')/\LB ae H' 3 v' .es (aF (o++[y]))/\(∀(b:Nat) cs fl,H[b]?=aa (.box cs fl)->H'[b]?=aa (.box cs fl)):=by
   intro H v o y Y A;obtain⟨v',H',X,U,-,e4⟩:=LB.app (H:=H++[.box [.f (fi y.day),.f (fi y.fr),.f (fi y.to)] 0]) (row:=y.row) (bytes:=24) (y:=.c (.sl H.length 0 1 1 0 3)) (A.push _) (bM _) rfl ce
    (lV (fl:=0) (cs:=y.row.map .f) (by simp[aC.row]) rfl) (xU _) (by simp[cD];omega)
   refine⟨v',H',X,by simpa[aF]using U,λb cs fl hb=>e4 _ _ _ ?_⟩;rw[AI (aj hb)];exact hb
  refine jy l.length (λj t H=>t.g 0=.c (.f (sl g (aF l)))/\t.g 3=.c (.ptr 0 0 0)/\H[0]?=aa (.box [.f (fi x.day),.f (fi x.fr),.f (fi x.to)] 0)/\∃d o,t.g 6=vb d/\LB ae H 3 (t.g 5) .es (aF o)/\o.length<=j+1/\(d=ag->o=l.take j/\∀y∈o,y.lt x)/\(d=ae->(o++l.drop j).Pairwise aC.lt/\∀y,y∈o↔y=x\/y∈l.take j)) ap rfl bv
   ⟨bv,bv,bv,ag,[],bv,by simpa[aF]using LB.es0,bv,bv,bv⟩ ?_ ?_ ?_
  .rintro j t H L S ⟨u,E,F,d,o,N,A,Y,hd,q⟩ O hL;simp[O,u];exact hL _ ⟨by simp[u],by simp[E],F,d,o,by simp[N],by simpa using A,Y,hd,q⟩ (by simp[O]) bv
  .rintro j t H S ⟨u,E,F,d,o,N,A,Y,hd,q⟩ O next
   have s:=λH:an=>cf (H:=H) (bM l) (dB S);have J:=Uc x l[j];simp[aC.row]at s J;refine ay ?_;apply au;apply ai;simp[u,E,O,bz,S,s,F];have M:∀(t:T) (H:an) (o:List aC) (d:Bool),t.g 0=.c (.f (sl g (aF l)))->t.g 3=.c (.ptr 0 0 0)->t.g 7=vi j->t.g 6=vb d->H[0]?=aa (.box [.f (fi x.day),.f (fi x.fr),.f (fi x.to)] 0)->LB ae H 3 (t.g 5) .es (aF o)->
     o.length<=j+1->(d=ag->o=l.take j/\(∀y∈o,y.lt x)/\l[j].lt x)->(d=ae->(o++l.drop j).Pairwise aC.lt/\∀y,y∈o↔y=x\/y∈l.take j)->
     WP tab Fq ab [.code zP,.inBlock 1,.code (AJ 7 13 14),.inLoop (qN 0 7 12 13 14 [⟨D 9,.iV (R 7),ab⟩,⟨D 10,.iV (R 0),ab⟩,⟨D 11,.len (R 10),ab⟩,⟨D 12,.bin .lss (R 9) (R 11),ab⟩] zO),.inBlock 0,.code zQ] ⟨t,[],H⟩ Q:=by
    intro t H o d u E g7 N F A Y hd q;have c_:l.take (j+1)=l.take j++[l[j]]:=by rw[agv,By S];rfl
    have d9:l.drop j=l[j]::l.drop (j+1):=ags S;have g_:(l.take j).length=j:=by simp;omega
    have f_:(o++[l[j]]).length<=j+1+1:=by simp;omega
    obtain⟨v',H',X,U,e4⟩:=W H (t.g 5) o l[j] ap A;refine aq (.inl rfl) ?_;simp[u,g7,bz,S,s,X];refine av (next _ _ ?_ (by simp[g7]));exact⟨by simp[u],by simp[E],e4 _ _ _ F,d,o++[l[j]],by simp[N],by simpa using U,f_,λh=>by
     obtain⟨a1,B,a3⟩:=hd h;subst a1;refine⟨c_.symm,λy m=>?_⟩;rcases agl.1 m with m|m
     .exact B y m
     .obtain rfl:=If.1 m;exact a3,λh=>by
     obtain⟨a1,B⟩:=q h;rw[d9]at a1;refine⟨by simpa using a1,λy=>?_⟩;rw[c_,agl,agl,B,or_assoc]⟩
   cases hc:(l[j].day == x.day&&(l[j].fr == x.fr&&l[j].to == x.to))
   .refine bE bv ?_;apply au;apply ai;simp[N];cases d
    .simp[E,F,u,O,bz,S,s,J];cases b_:rk x l[j]
     .refine bE bv ?_;exact M _ _ o ag (by simp[u]) (by simp[E]) (by simp[O]) (by simp[N]) F (by simpa using A) ap (λ_=>by
       obtain⟨a1,B⟩:=hd rfl;refine⟨a1,B,aC.Q8 (x:=x) ?_ ?_⟩
       .rw[<-AR,b_];simp
       .rintro rfl;simp at hc) bv
     .refine aw bv ?_;obtain⟨v',H',X,U,e4⟩:=W H (t.g 5) o x ap A;obtain⟨a1,B⟩:=hd rfl;have a_:=(AR _ _).1 b_;have h_:o.length<=j:=by rw[a1];simp;omega
      apply ai;simp[E,F,X];refine aq (.inl rfl) ?_;simp;refine M _ _ (o++[x]) ae (by simp[u]) (by simp[E]) (by simp[O]) bv (e4 _ _ _ F) (by simpa using U) ge bv λ_=>⟨?_,λy=>?_⟩
      .have c9:(l.take j++l.drop j).Pairwise aC.lt:=by rw[List.take_append_drop];exact hs
       rw[aho]at c9;obtain⟨b1,b2,b3⟩:=c9;rw[List.append_assoc,aho,a1];refine⟨b1,?_,?_⟩
       .rw[List.singleton_append,ahm];refine⟨λy m=>?_,b2⟩;rw[ags S]at m b2;rcases agA.1 m with rfl|m
        .exact a_
        .exact aC.lt_trans a_ ((ahm.1 b2).1 y m)
       .intro y m z Z;rcases agl.1 Z with Z|Z
        .obtain rfl:=If.1 Z;exact B y (a1▸m)
        .exact b3 y m z Z
      .rw[agl,a1,If,or_comm]
    .simp;refine bE bv ?_;exact M _ _ o ae (by simp[u]) (by simp[E]) (by simp[O]) (by simp[N]) F (by simpa using A) Y bv λ_=>q rfl
   .refine aw bv ?_;apply ai;simp[u];refine az (hQ _ _ _ ⟨g,l,ap,⟨hs,λy=>⟨.inr,?_⟩⟩,rfl⟩ ?_)
    .rintro(rfl|m)
     .have:y=l[j]:=by
       obtain⟨a,b,c⟩:=y;simp only[IS,beq_iff_eq]at hc;cases e_:l[j]with
       |mk a' b' c'=>
        rw[e_]at hc;simp at hc;obtain⟨rfl,rfl,rfl⟩:=hc;rfl
      rw[this];exact IN S
     .exact m
    simp
  .rintro t H ⟨u,E,F,d,o,N,A,Y,hd,q⟩ O;apply au;apply ai;simp[N];cases d
   .refine aw bv ?_;obtain⟨v',H',X,U,e4⟩:=W H (t.g 5) o x ap A;refine aq (.inl rfl) ?_;simp[E,F,X];apply ai;simp;obtain⟨cv,I,_⟩:=U.len;have:=U.fzV (bM _);obtain⟨a1,B⟩:=hd rfl;rw[agu]at a1;subst a1;refine az (hQ _ _ _ ⟨.es,o++[x],bv,⟨?_,λy=>by rw[agl,If,or_comm]⟩,rfl⟩ ?_)
    .rw[aho];exact⟨hs,ahs _ _,λy m z Z=>by obtain rfl:=If.1 Z;exact B y m⟩
    rw[I]at this;simp[I];simpa using this
   .refine bE bv ?_;apply ai;simp;obtain⟨cv,I,_⟩:=A.len;have:=A.fzV (bM _);obtain⟨a1,B⟩:=q rfl;rw[agu]at B;rw[ahK,List.append_nil]at a1;refine az (hQ _ _ _ ⟨.es,o,Y,⟨a1,B⟩,rfl⟩ ?_);rw[I]at this;simp[I];simpa using this
 exact⟨g',K,d_,hS,bg.eq h⟩
def aC.le(x y:aC):Prop:=¬ y.lt x
@[simp] theorem aC.adP (x:aC):x.row.length=3:=rfl
theorem wP{b:Type}(A:List b)(x y:b)(B:List b):(A++x::B).set A.length y=A++y::B:=by simp
theorem Ch(l:List aC)(j:Nat)(x:aC):(aF l).set j x.row=aF (l.set j x):=by simp[aF,List.map_set]
theorem sV{l:List aC}{j:Nat}{x:aC}(h:l[j]?=aa x):(aF l)[j]?=aa x.row:=by simp[aF,h]
theorem Ub:((List.range 13).all λn=>match (CF tab 60 60 (.fn Pq) [.c (.f (.int .u64 n))] [])with|some (.c (.f (.int .i64 k)),_)=>ae|_=>ag)=ae:=by kernel_rfl
theorem Vt(n:Nat)(h:n<=12):∃k:Int,bg tab Pq [vu n]=Eq (vi k):=by
 have b:=Ub;rw[agJ]at b;have g:=b n ge;split at g
 .rename_i k H' e;exact⟨k,(vL (m:=60) (d:=60) (by rw[e];rfl)).eq⟩
 .cases g
def xz:List FC->aC
 |[.int _ a,.int _ b,.int _ c]=>⟨a,b,c⟩| _=>⟨0,0,0⟩
def uj(r:List FC):Prop:=r=(xz r).row
theorem GJ(x:aC):uj x.row:=rfl
def RA(r s:List FC):Int:=fO (xz r) (xz s)
theorem Qh:ZP uj RA where
 asym:=λ_ _ h b=>by
  unfold RA at h b;rw[nR]at h b;unfold aC.lt at h b;omega
 trans:=λ_ _ _ h b=>by
  unfold RA at *;rw[nR]at *;unfold aC.lt at *;omega
theorem Tv{F:Nat}(b:∀x y:aC,Kf tab F [.a (x.row.map .f),.a (y.row.map .f)] (vi (fO x y))):Cv tab (.c (.f (.fn F []))) uj RA:=by
 intro x y d g H;obtain⟨J,h⟩:=b (xz x) (xz y) H;rw[<-show x=(xz x).row from d,<-show y=(xz y).row from g]at h;exact⟨F,_,J,by simp[cr],h⟩
theorem Lu{rows:List (List FC)}(h:∀r∈rows,uj r):aF (rows.map xz)=rows:=by
 unfold aF;rw[List.map_map]
 conv=>rhs;rw[<-List.map_id rows]
 exact List.map_congr_left λr b=>(h r b).symm
theorem Cg(l:List aC):(aF l).map xz=l:=by
 unfold aF;rw[List.map_map]
 conv=>rhs;rw[<-List.map_id l]
 exact List.map_congr_left λr _=>rfl
theorem UF{H:an}{b g F:Nat}{l:List aC}(J:∀x y:aC,Kf tab F [.a (x.row.map .f),.a (y.row.map .f)] (vi (fO x y)))(B:l.length<=12)(z:RB H b 3 g (aF l)) :
  ∃r H',Ev tab (.fn FY) [.c (.sl b 0 l.length 0 g 3),.c (.f (.fn F []))] H r H'/\
   (r=.t []/\Fm b H H'/\∃d:List aC,RB H' b 3 g (aF d)/\d.Perm l/\d.Pairwise aC.le):=by
 have v:∀r∈aF l,uj r:=λr s=>by
  obtain⟨x,-,rfl⟩:=agt.1 s;exact GJ x
 obtain⟨k,L⟩:=Vt l.length B;have I:(aF l).length=l.length:=jx l;obtain⟨r,H',K,rfl,f,d,r',u,M⟩:=Y2 (a:=0) (e:=l.length) PS (Tv J) Qh I ap z (bM l) v ap ap;have m:∀r∈d,uj r:=λr s=>v r (u.1.mem_iff.1 s);refine⟨_,_,I_ PR PT L z.len B K,rfl,f,d.map xz,?_,?_,?_⟩
 .rw[Lu m];exact r'
 .have:=u.1.map xz;rwa[Cg]at this
 .rw[agQ];intro i j hi A q;simp only[agq]at hi A;have E:d.length=l.length:=by rw[u.len,I]
  have:=M i j d[i] d[j] ap q ap (By hi) (By A);rw[aib,aib];unfold RA at this;rw[nR]at this;exact this
theorem Sd{H:an}{F:Nat}:∃r H',Ev tab (.fn FY) [.c (.f .aJ),.c (.f (.fn F []))] H r H'/\(r=.t []/\H'=H):=by
 obtain⟨k,b⟩:=Vt 0 ap;exact⟨_,_,I_ PR PT b rfl ap (TY PS),rfl,rfl⟩
theorem Q0{x y:aC}(h:x.le y)(b:x≠y):x.lt y:=aC.Q8 h (Ne.symm b)
def ZX(x y:aC):Bool:=x.day == y.day&&(x.fr == y.fr&&x.to == y.to)
theorem wC{x y:aC}:ZX x y=ae↔x=y:=by
 obtain⟨a,b,c⟩:=x;obtain⟨a',d,g⟩:=y;simp[ZX]
theorem IX{l:List aC}(g:l.Pairwise aC.le){i j:Nat}(b:i<j)(d:j<l.length):(l[i]'(by omega)).le l[j]:=agQ.1 g i j ap d b
theorem Gj{H:an}{b A:Nat}{l:List aC}(hl:l.length<=1000000)(hs:l.Pairwise aC.le)(F:RB H b 3 A (aF l)) :
  ∃r H',Ev tab (.fn FJ) [.c (.sl b 0 l.length 0 A 3)] H r H'/\
   (∃l' R:List aC,r=.c (.sl b 0 l'.length 0 A 3)/\Fm b H H'/\RB H' b 3 A (aF (l'++R))/\l'.length<=l.length/\l'.Pairwise aC.lt/\∀x,x∈l'↔x∈l):=by
 refine de rfl rfl λQ hQ=>?_;apply ai;simp;apply au;apply ai;simp[F.len];by_cases h2:l.length<2
 .refine aw ge ?_;apply ai;simp;refine az (hQ _ _ _ rfl (dy bv) ⟨l,[],rfl,Fm.refl _,by simpa using F,agn _,?_,λ_=>Iff.rfl⟩)
  match l,h2 with
  |[],_=>exact List.Pairwise.nil| [x],_=>exact ahs _ _| x::y::r,h=>simp at h;omega
 refine aD ge (aR ?_);apply au;apply ai;simp;refine ay ?_;refine dc (λn s=>∃(k:Nat) (t:T),s=⟨t,[],H⟩/\n=l.length-k/\1<=k/\k<=l.length/\t.g 0=.c (.sl b 0 l.length 0 A 3)/\t.g 3=vi k/\(l.take k).Pairwise aC.lt) (l.length-1)
  ⟨1,_,rfl,rfl,ap,ap,bv,bv,?_⟩ ?_
 .cases l with
  |nil=>simp| cons x r=>simp
 rintro n s ⟨k,t,rfl,rfl,j6,j7,B,E,hp⟩ ih;apply au;apply ai;simp[B,E,F.len];by_cases u:k<l.length
 case neg=>
  refine aD (by simp[u]) ?_;refine bJ (k':=[.code qo]) rfl ?_;apply ai;simp[B];refine az (hQ _ _ _ rfl (dy bv) ⟨l,[],rfl,Fm.refl _,by simpa using F,agn _,?_,λ_=>Iff.rfl⟩);rwa[agw ap]at hp
 refine aw (by simp[u]) (aR ?_);obtain⟨m,rfl⟩:∃m,k=m+1:=⟨k-1,ap⟩
 have ix:∀{H:an} {rows:List (List FC)} (F:RB H b 3 A rows) (o n i:Nat) (hi:i<n),bG H 3 ab (.c (.sl b o n 0 A 3)) (vi i)=aa (.c (.ptr b (o+i*3) A)):=by
  intro H rows F o n i hi;have:=F.idx (n:=n) (c:=0) (k:=.i64) (o:=o) (i:=(i:Int)) ap ap;rwa[agD]at this
 have i1:=ix F 0 l.length (m+1) u;have i0:=ix F 0 l.length m ap;have l1:=F.Z6 (bM _) (dB (l:=l) (j:=m+1) u);have l0:=F.Z6 (bM _) (dB (l:=l) (j:=m) ap);rw[ahg]at i1 i0;have c1:((m+1:Nat):Int)-1=m:=by omega
 rw[show((m+1:Nat):Int)=(m:Int)+1 by omega]at i1;have d_:l.take (m+1+1)=l.take (m+1)++[l[m+1]]:=by rw[agv,By u];rfl
 apply au;refine ay ?_;apply ai;simp[B,E,i1,i0,l1,l0,-ax,aZ (n:=(m:Int)),aC.row];cases hc:(l[m+1].day == l[m].day&&(l[m+1].fr == l[m].fr&&l[m+1].to == l[m].to))
 .
  refine aD bv (aR (av ?_));refine aq (.inl rfl) ?_;simp[E,aZ (n:=(m:Int)+1+1)];refine ih (l.length-(m+2)) _ ap ⟨m+2,_,rfl,rfl,ap,ap,by simp[B],ge,?_⟩;show(l.take (m+1+1)).Pairwise aC.lt;have N:l[m]≠l[m+1]:=λe=>by
   have:ZX l[m+1] l[m]=ae:=wC.2 e.symm;rw[ZX,hc]at this;cases this
  rw[d_,aho];refine⟨hp,ahs _ _,λy hy z hz=>?_⟩;obtain rfl:=If.1 hz;obtain⟨i,hi,rfl⟩:=agz hy;have j5:i<m+1:=by simp at hi;omega
  rw[List.getElem_take];by_cases e:i=m
  .subst e;exact Q0 (IX hs ap u) N
  .exact aC.lt_trans (y:=l[m]) (by
    have h1:=agQ.1 hp i m ge ge ap;simpa using h1) (Q0 (IX hs ap u) N)
 .
  have h_:l[m+1]=l[m]:=wC.1 hc;have c2:((m+1:Nat):Int)=(m:Int)+1:=by omega
  have O:=F.oI (k:=m+1) u;rw[c2]at O;refine aw bv ?_;apply ai;simp[B,E,O];apply au;apply ai;simp;refine ay ?_;refine dc (λn s=>∃(i:Nat) (t:T) (I:an) (P R:List aC),s=⟨t,[],I⟩/\n=l.length-(m+2+i)/\m+2+i<=l.length/\t.g 0=.c (.sl b 0 l.length 0 A 3)/\t.g 3=vi P.length/\t.g 4=.c (.sl b ((m+1)*3) (l.length-(m+1)) 0 A 3)/\t.g 5=vi ((i:Int)+1)/\
   Fm b H I/\RB I b 3 A (aF (P++R))/\(P++R).length=l.length/\1<=P.length/\P.length<=m+1+i/\(∀q,m+1+i<=q->(P++R)[q]?=l[q]?)/\P.Pairwise aC.lt/\∀x,x∈P↔x∈l.take (m+2+i)) (l.length-(m+2))
   ⟨0,_,H,l.take (m+1),l.drop (m+1),rfl,rfl,ap,by simp[B],by simp[E];omega,bv,bv,Fm.refl _,by simpa using F,bv,ge,ge,bv,hp,λx=>?_⟩ ?_
  .show x∈l.take (m+1)↔x∈l.take (m+1+1);rw[d_,agl,If];refine⟨.inl,λh=>h.elim id λe=>?_⟩;rw[e,h_];exact ahe.2 ⟨m,ap,rfl⟩
  rintro n s ⟨i,t,I,P,R,rfl,rfl,hi,B,E,U,W,J,d,v,X,e_,hq,L,g⟩ i_;have Y:=d.len (o:=(m+1)*3) (l:=l.length-(m+1)) (c:=0);apply au;apply ai;simp[U,W,Y];by_cases K:m+2+i<l.length
  case neg=>
   have c9:m+2+i=l.length:=by omega
   refine aD ge ?_;refine bJ (k':=[.code tX,.inBlock 1,.code tY,.inLoop tW,.inBlock 0,.code qo]) rfl ?_;have b_:P.length<l.length:=by omega
   obtain⟨H3,g_,a_,i6⟩:=d.clr (bM _) (zs:=[fi 0,fi 0,fi 0]) (by simpa using v) b_ rfl;have O:=d.oI b_;apply ai;simp[B,E,O,g_];have i9:=a_.EY (n:=l.length) (k:=P.length) ap ap;apply ai;simp[B,E,i9];have e3:(aF (P++R)).take P.length++List.replicate (l.length-P.length) [fi 0,fi 0,fi 0]=aF (P++List.replicate (l.length-P.length) ⟨0,0,0⟩):=by
    simp[aF,aC.row]
   rw[e3]at a_;refine az (hQ _ _ _ rfl (dy bv) ⟨P,_,rfl,J.trans i6,a_,ap,L,λx=>?_⟩);rw[g,c9,agu]
  have ha:(P++R)[m+2+i]?=aa l[m+2+i]:=by rw[hq _ ap,By K]
  have f_:(P++R)[m+1+i]?=aa (l[m+1+i]'(by omega)):=by rw[hq _ ap,By]
  have j1:=ix d ((m+1)*3) (l.length-(m+1)) (i+1) ap;have j0:=ix d ((m+1)*3) (l.length-(m+1)) i ap;rw[show(m+1)*3+(i+1)*3=(m+2+i)*3 by omega,show((i+1:Nat):Int)=(i:Int)+1 by omega]at j1;rw[show(m+1)*3+i*3=(m+1+i)*3 by omega]at j0;have d1:=d.Z6 (bM _) (sV ha);have d0:=d.Z6 (bM _) (sV f_);refine aw ge (aR ?_);apply au;refine ay ?_;apply ai;simp[U,W,j1,j0,d1,d0,-ax,aZ (n:=(i:Int)),aC.row];have S:l.take (m+2+(i+1))=l.take (m+2+i)++[l[m+2+i]]:=by
   rw[show m+2+(i+1)=m+2+i+1 by omega,agv,By K];rfl
  have next:∀(t:T) (I:an) (P R:List aC),t.g 0=.c (.sl b 0 l.length 0 A 3)->t.g 3=vi P.length->t.g 4=.c (.sl b ((m+1)*3) (l.length-(m+1)) 0 A 3)->t.g 5=vi ((i:Int)+1)->
    Fm b H I->RB I b 3 A (aF (P++R))->(P++R).length=l.length->1<=P.length->P.length<=m+2+i->(∀q,m+2+i<=q->(P++R)[q]?=l[q]?)->P.Pairwise aC.lt->(∀x,x∈P↔x∈l.take (m+2+(i+1)))->
    WP tab FJ ab [.inBlock 3,.code zY,.inLoop zX,.inBlock 2,.code tX,.inBlock 1,.code tY,.inLoop tW,.inBlock 0,.code qo] ⟨t,[],I⟩ Q:=by
   intro t I P R B E U W J d v X e_ hq L g;refine av (aq (.inl rfl) ?_);simp[W,aZ (n:=(i:Int)+1+1)];exact i_ (l.length-(m+2+(i+1))) _ ap ⟨i+1,_,I,P,R,rfl,rfl,ap,by simp[B],by simp[E],by simp[U],bv,J,d,v,X,ap,λq h=>hq q ap,L,g⟩
  have i7:(l[m+1+i]'(by omega)).le l[m+2+i]:=IX hs ap K;cases M:(l[m+2+i].day == l[m+1+i].day&&(l[m+2+i].fr == l[m+1+i].fr&&l[m+2+i].to == l[m+1+i].to))
  .have N:l[m+1+i]≠l[m+2+i]:=λe=>by
    have:ZX l[m+2+i] l[m+1+i]=ae:=wC.2 e.symm;rw[ZX,M]at this;cases this
   have d9:=Q0 i7 N;have kx:=ix d 0 l.length P.length ap;rw[ahg]at kx;obtain⟨H3,s3,r3,f3,-⟩:=d.str (bM _) (j:=P.length) (by rw[jx,v];omega) (row:=(l[m+2+i]).row) rfl;rw[Ch]at r3;obtain⟨x0,R',rfl⟩:∃x0 R',R=x0::R':=by
    cases R with
    |nil=>simp at v;omega| cons x0 R'=>exact⟨_,_,rfl⟩
   rw[wP]at r3;have Z:¬l[m+2+i].day=l[m+1+i].day\/¬l[m+2+i].fr=l[m+1+i].fr\/¬l[m+2+i].to=l[m+1+i].to:=by
    simp at M;omega
   refine aw (by simpa using Z) ?_;apply ai;simp only[aC.row,agm,List.map_nil]at s3;simp[B,E,U,W,j1,d1,kx,s3,-ax,-bw,aC.row];refine aq (.inl rfl) ?_;simp[E,aZ (n:=(P.length:Int)+1)];have e5:P++l[m+2+i]::R'=(P++[l[m+2+i]])++R':=by simp
   rw[e5]at r3;refine next _ H3 (P++[l[m+2+i]]) R' (by simp[B]) bv (by simp[U]) (by simp[W]) (J.trans f3) r3 (by simpa using v) bv ge (λq h=>?_) ?_ λx=>?_
   .rw[<-e5,<-wP P x0,sh ap];exact hq q ap
   .rw[aho];refine⟨L,ahs _ _,λy hy z hz=>?_⟩;obtain rfl:=If.1 hz;obtain⟨q,i8,rfl⟩:=agz ((g y).1 hy);have j8:q<m+2+i:=by simp at i8;omega
    rw[List.getElem_take];by_cases e:q=m+1+i
    .subst e;exact d9
    .have h1:=IX hs (i:=q) (j:=m+1+i) ap ap;unfold aC.le aC.lt at *;omega
   .rw[S,agl,agl,g]
  .have c_:l[m+2+i]=l[m+1+i]:=wC.1 M;have Z:l[m+2+i].day=l[m+1+i].day/\l[m+2+i].fr=l[m+1+i].fr/\l[m+2+i].to=l[m+1+i].to:=by simpa using M
   refine aD (by simpa using Z) (aR ?_);refine next _ I P R (by simp[B]) (by simp[E]) (by simp[U]) (by simp[W]) J d v X ap (λq h=>hq q ap) L λx=>?_
   rw[S,agl,If,g];refine⟨.inl,λh=>h.elim id λe=>?_⟩;rw[e,c_];exact ahe.2 ⟨m+1+i,ap,rfl⟩
abbrev u64(n:Int):V:=.c (.f (.int .u64 n))
theorem iY{n:Int}(b:0<=n)(d:n<=18446744073709551615):IntKind.wrap .u64 n=n:=by
 simp only[IntKind.wrap,IntKind.bits,IntKind.signed];simp;omega
theorem Je{a b:Int}(h:0<=a)(d:0<b):cT .rem (u64 a) (u64 b)=aa (u64 (a % b)):=by
 rw[dp ap,agE h]
theorem ac8{a b:Int}(h:0<=a)(g:0<b)(d:a<=18446744073709551615):cT .quo (u64 a) (u64 b)=aa (u64 (a / b)):=by
 rw[gq ap,agY h,iY (aha h ap) (ag5 (ahL _ h) d)]
theorem th{a:Int}(b:0<=a)(g:a<=9223372036854775807):bg tab abR [vi a]=Eq (u64 a):=bg.eq (by
 refine bK rfl rfl λQ d=>?_;apply ai;simp;refine au (ai ?_);simp;refine aD ge (aR ?_);apply ai;simp[iY (n:=a) b ap];refine az (d _ _ ?_);simp)
theorem QO{x y:Nat}(h:0<y):ahC y (x % y)=ahC x y:=by rw[Nat.gcd_comm x y,Nat.gcd_rec y x,Nat.gcd_comm]
theorem xM{a b:Nat}(z:(a:Int)<=4611686018427387904)(A:(b:Int)<=4611686018427387904):bg tab Ae [vi a,vi b]=Eq (vi (ahC a b:Nat)):=bg.eq (by
 have m1:=th (a:=a) ap ap;have m2:=th (a:=b) ap ap;refine bK rfl rfl λQ B=>?_;apply ai;simp;apply ai;simp[m1,m2];refine au (ay ?_);refine dc (λm s=>∃(x y:Nat) (t:T),s=⟨t,[],[]⟩/\m=y/\(x:Int)<=4611686018427387904/\(y:Int)<=4611686018427387904/\t.g 5=u64 x/\t.g 6=u64 y/\ahC x y=ahC a b) b ⟨a,b,_,rfl,rfl,z,A,bv,bv,rfl⟩ ?_;rintro m s ⟨x,y,t,rfl,rfl,H,I,d,l,u⟩ F;refine au (ai ?_);simp[l];by_cases q:m=0
 .subst q;refine aD bv (bJ rfl ?_);have j:x=ahC a b:=by rw[<-u];simp
  have E:¬ ((9223372036854775807:Int)<x):=by omega
  refine au (ai ?_);simp[d,E];refine bE bv ?_;apply ai;simp[d,aZ (n:=(x:Int))];refine az (B _ _ ?_);simp[j]
 .have v:=Je (a:=x) (b:=m) ap ap;rw[show(x:Int) % (m:Int)=((x % m:Nat):Int) from(Int.natCast_emod x m).symm]at v;have g:x % m<m:=Nat.mod_lt _ ap;refine aw (by simp[q]) (aR ?_);refine ay (aq (.inl rfl) ?_);simp[d,l,v];refine av (F (x % m) _ g ⟨m,x % m,_,rfl,rfl,ap,ap,bv,bv,by rw[QO ap];exact u⟩))
theorem P4{x:Int}(g:0<=x)(j:x<=4294967295):cT .and (u64 x) (u64 4294967295)=aa (u64 x):=by
 obtain⟨n,rfl⟩:∃n:Nat,x=n:=⟨x.toNat,ap⟩
 have e:(BitVec.ofInt 64 (n:Int) &&& BitVec.ofInt 64 4294967295).toNat=n:=by
  rw[BitVec.toNat_and];have b:(BitVec.ofInt 64 (n:Int)).toNat=n:=by simp[BitVec.toNat_ofInt];omega
  have d:(BitVec.ofInt 64 4294967295).toNat=2 ^ 32-1:=by decide
  rw[b,d,Nat.and_two_pow_sub_one_eq_mod,Nat.mod_eq_of_lt ap]
 have key:IntKind.wrap .u64 ((BitVec.ofInt 64 (n:Int) &&& BitVec.ofInt 64 4294967295).toNat:Int)=n:=by rw[e];exact iY ap ap
 exact congrArg (λk:Int=>aa (u64 k)) key
theorem I'{x:Int}(_:0<=x):cT .shr (u64 x) (u64 32)=aa (u64 (x / 4294967296)):=by
 simp only[cT];rw[ct ce,show min (Int.toNat 32) IntKind.u64.bits=32 from rfl,Int.fdiv_eq_ediv_of_nonneg _ ce];rfl
theorem tt{x y:Int}(q:0<=x)(J:x<=2147483648)(g:0<=y)(K:y<=2147483648):bg tab abB [u64 x,u64 y]=Eq (.t [u64 0,u64 (x*y)]):=bg.eq (by
 have d:0<=x*y:=ag7 q g;have E:x*y<=2147483648*2147483648:=ah5 J K g ce;have j:x*y / 4294967296<=4294967295:=by omega
 have b:0<=x*y / 4294967296:=by omega
 have a1:=P4 q (show x<=4294967295 by omega);have A:=P4 g (show y<=4294967295 by omega);have s:=I' q;have u:=I' g;have H:x / 4294967296=0:=by omega
 have I:y / 4294967296=0:=by omega
 rw[H]at s;rw[I]at u;have F:=I' d;have a3:=P4 b j;have l:=I' b;have sz:x*y / 4294967296 / 4294967296=0:=by omega
 rw[sz]at l;have v:IntKind.wrap .u64 (x*y)=x*y:=iY d ap;have z:IntKind.wrap .u64 (x*y / 4294967296)=x*y / 4294967296:=iY b ap;have m:IntKind.wrap .u64 0=0:=by decide
 refine bK rfl rfl λQ B=>?_;apply ai;simp;apply ai;simp[a1];apply ai;simp[s];apply ai;simp[A];apply ai;simp[u];apply ai;simp[v];apply ai;simp[F,m,z];apply ai;simp[a3];apply ai;simp[l];apply ai;simp[m,z];apply ai;simp[m,l];apply ai;simp[v];refine az (B _ _ ?_);simp)
theorem DN{x n:Int}(j:0<=x)(s:x<=9223372036854775807)(g:0<n)(n1:n<=9223372036854775807):bg tab abA [u64 0,u64 x,u64 n]=Eq (.t [u64 (x / n),u64 (x % n)]):=bg.eq (by
 have b:¬ (n=0):=by omega
 have d:¬ (n<=0):=by omega
 have l:=ac8 j g ap;have m:=Je j g;refine bK rfl rfl λQ q=>?_;apply ai;simp;refine au (ai ?_);simp;refine bE (by simp[b]) ?_;refine au (ai ?_);simp;refine bE (by simp[d]) ?_;refine au (ai ?_);simp;refine aw bv ?_;apply ai;simp[l,m];refine az (q _ _ ?_);simp)
theorem yp(x y:aC):bg tab U3 [.a (x.row.map .f),.a (y.row.map .f)]=Eq (vi (fO x y)):=(RC x y).eq
theorem G3(g:Tg)(l:List cV)(b:l.length<=9223372036854775807)(h:∀t∈l,t.Sm):bg tab Dc [.a [.f (sl g (aK l))]]=Eq (vb (jz l)):=(rO g l b h).eq
structure cW where
 mg:Tg
 ts:List cV
 min:Int
def cW.row(c:cW):List FC:=[sl c.mg (aK c.ts),fi c.min]
def aU(l:List cW):List (List FC):=l.map cW.row
@[simp] theorem zo (l:List cW):(aU l).length=l.length:=by simp[aU]
theorem eu(l:List cW):cR 2 (aU l):=cR.map λ_=>rfl
theorem iz{l:List cW}{j:Nat}(b:j<l.length):(aU l)[j]?=aa l[j].row:=by simp[aU,b]
structure aH where
 cg:Tg
 cs:List cW
 len:Int
 xg:Tg
 xs:List aC
def aH.row(s:aH):List FC:=[sl s.cg (aU s.cs),fi s.len,sl s.xg (aF s.xs)]
def aH.Sm(s:aH):Prop:=s.cs.length<=9223372036854775807/\s.xs.length<=9223372036854775807/\∀c∈s.cs,c.ts.length<=9223372036854775807/\∀t∈c.ts,t.Sm
def eV:Option Int->List cW->Bool
 |_,[]=>ae| prev,c::r=>jz c.ts&&bU c.min (-4320) 4320&&(prev.all λm=>decide (m<c.min))&&eV (aa c.min) r
def pI(x:aC):Bool:=bU x.day 0 1099511627776&&bU x.fr (-2251799813685248) 1583296743997439&&bU x.to (x.fr+1) (x.fr+10080)
def jR:Option aC->List aC->Bool
 |_,[]=>ae| prev,x::r=>pI x&&(prev.all λm=>decide (fO m x<0))&&jR (aa x) r
def gW(s:aH):Bool:=decide ((s.cs.length:Int)<=64)&&bU s.len 1 10080&&decide ((s.xs.length:Int)<=4096)&&eV ab s.cs&&jR ab s.xs
theorem zq{p:Option Int}{l:List cW}{j:Nat}(b:j<l.length):eV p (l.drop j)=(jz l[j].ts&&bU l[j].min (-4320) 4320&&(p.all λm=>decide (m<l[j].min))&&eV (aa l[j].min) (l.drop (j+1))):=by
 rw[ags b];rfl
theorem DS{p:Option aC}{l:List aC}{j:Nat}(b:j<l.length):jR p (l.drop j)=(pI l[j]&&(p.all λm=>decide (fO m l[j]<0))&&jR (aa l[j]) (l.drop (j+1))):=by
 rw[ags b];rfl
theorem nV(s:aH)(h:s.Sm):Kf tab Ia [.a (s.row.map .f)] (vb (gW s)):=by
 obtain⟨hc,hx,U⟩:=h;refine dh rfl rfl λH Q hQ=>?_;have bad:gW s=ag->∀(t:T) (J:an) k,WP tab Ia ab (.code (.region [⟨D 2,.iV (.k (.c (.f (.bool ag)))),ab⟩] [])::.code .ret::k) ⟨t,[],H++J⟩ Q:=by
  intro hf t J k;refine aq (.inl rfl) ?_;simp;refine az (hQ _ _ ?_);simp[hf]
 apply ai;simp[aH.row];apply au;apply ai;simp;by_cases k1:(64:Int)<s.cs.length
 .simp[k1];exact aw bv (au (bad (by simp[gW,show¬ (s.cs.length:Int)<=64 by omega]) _ _ _))
 simp[k1];cases k2:bU s.len 1 10080
 .simp;exact aw bv (au (bad (by simp[gW,k2]) _ _ _))
 simp;by_cases k3:(4096:Int)<s.xs.length
 .simp[k3];exact aw bv (au (bad (by simp[gW,show¬ (s.xs.length:Int)<=4096 by omega]) _ _ _))
 simp[k3];have hS:gW s=(eV ab s.cs&&jR ab s.xs):=by simp[gW,k2,show(s.cs.length:Int)<=64 by omega,show(s.xs.length:Int)<=4096 by omega]
 rw[hS]at bad;refine aD bv ?_;refine aR ?_;apply au;apply ai;simp;obtain⟨l,v⟩:=aI ([C.f (sl s.cg (aU s.cs)),C.f (fi s.len),C.f (sl s.xg (aF s.xs))]);rw[<-v];have a_:l.drop 0=[C.f (sl s.cg (aU s.cs)),C.f (fi s.len),C.f (sl s.xg (aF s.xs))]:=by rw[v];rfl
 have S:l.drop 2=[C.f (sl s.xg (aF s.xs))]:=by rw[v];rfl
 have M:l=C.f (sl s.cg (aU s.cs))::[C.f (fi s.len),C.f (sl s.xg (aF s.xs))]:=v;refine bS s.cs.length (λj t H'=>t.g 1=.c (.ptr H.length 0 0)/\t.g 25=.c (.f (sl s.cg (aU s.cs)))/\(∃J,H'=H++(.box l 0::J))/\
  ∃d,(∀m,j=m+1->∀h:m<s.cs.length,d=aa (s.cs[m]'h).min)/\(j=0->d=ab)/\eV ab s.cs=eV d (s.cs.drop j)) hc ce ce bv bv
   ⟨bv,bv,⟨[],bv⟩,ab,ap,bv,bv⟩ ?_ ?_
 .rintro j t _ F ⟨x,A,⟨J,rfl⟩,d,Y,Z,u⟩ E K next
  rw[zq F]at u;have L:=cf (H:=H++(.box l 0::J)) (eu s.cs) (iz F);have z:=G3 s.cs[j].mg s.cs[j].ts (U _ (IN F)).1 (U _ (IN F)).2;refine ay ?_;apply ai;simp[E,A,bz,F,L,cW.row];apply ai;simp[z];cases W:jz s.cs[j].ts
  .simp;exact aw bv (au (bad (by simp[u,W]) _ _ _))
  simp;cases O:bU s.cs[j].min (-4320) 4320
  .simp;exact aw bv (au (bad (by simp[u,O]) _ _ _))
  simp;have go:(d.all λm=>decide (m<s.cs[j].min))=ae->∃g,(∀m,j+1=m+1->∀h:m<s.cs.length,g=aa (s.cs[m]'h).min)/\(j+1=0->g=ab)/\eV ab s.cs=eV g (s.cs.drop (j+1)):=by
   intro hp;rw[W,O,hp,ahh,ahh,ahh]at u;refine⟨aa s.cs[j].min,λm z h=>?_,ap,u⟩;have:m=j:=by omega
   subst this;rfl
  cases j with
  |zero=>
   simp;refine aD bv ?_;refine aR (av (next _ _ ?_ (by simp[E]) (by simp[K])));exact⟨by simp[x],by simp[A],⟨_,rfl⟩,go (by rw[Z rfl];rfl)⟩
  |succ m=>
   have z:m<s.cs.length:=by omega
   have y:=Y m rfl z;have e1:((m+1:Nat):Int)-1=m:=by omega
   have q:=jU (H:=H++(bO.box l 0 ::(J++[bO.box [C.f (sl s.cs[m+1].mg (aK s.cs[m+1].ts)),C.f (fi s.cs[m+1].min)] 0]))) (k:=1) (eu s.cs) (iz z) rfl;rw[M]at q;simp[show 0<m+1 by omega,x,M,aZ (n:=(m:Int)),bz,z,q];by_cases X:s.cs[m+1].min<=s.cs[m].min
   .simp[X];have b:=bad (by simp[u,y,show¬ s.cs[m].min<s.cs[m+1].min by omega]);refine aw bv ?_;exact au (b _ _ _)
   .simp[X];refine aD bv ?_;refine aR (av (next _ _ ?_ (by simp[E]) (by simp[K])));exact⟨by simp[x],by simp[A],⟨_,by rw[M]⟩,go (by rw[y];simp;omega)⟩
 .rintro t _ ⟨x,A,⟨J,rfl⟩,d,Y,Z,u⟩ E K;have hC:eV ab s.cs=ae:=by rw[u];simp[eV]
  rw[hC,ahh]at bad hS;apply au;apply ai;simp[x,S];refine bS s.xs.length (λj t H'=>t.g 1=.c (.ptr H.length 0 0)/\t.g 60=.c (.f (sl s.xg (aF s.xs)))/\(∃J,H'=H++(.box l 0::J))/\
   ∃d,(∀m,j=m+1->∀h:m<s.xs.length,d=aa (s.xs[m]'h))/\(j=0->d=ab)/\jR ab s.xs=jR d (s.xs.drop j)) hx ce ce bv bv
    ⟨by simp[x],bv,⟨J,bv⟩,ab,ap,bv,bv⟩ ?_ ?_
  .rintro j t _ F ⟨x,B,⟨J,rfl⟩,d,Y,Z,u⟩ E K next
   rw[DS F]at u;have L:=cf (H:=H++(.box l 0::J)) (bM s.xs) (dB F);refine ay ?_;apply ai;simp[E,B,bz,F,L,aC.row];have N:pI s.xs[j]=ag->∀(t:T) (J:an) k,t.g 7=vb ag->WP tab Ia ab (.code NH::k) ⟨t,[],H++J⟩ Q:=by
    intro hf t J k g7;apply ai;simp[g7];exact aw bv (au (bad (by simp[u,hf]) _ _ _))
   have go:pI s.xs[j]=ae->(d.all λm=>decide (fO m s.xs[j]<0))=ae->∃g,(∀m,j+1=m+1->∀h:m<s.xs.length,g=aa (s.xs[m]'h))/\(j+1=0->g=ab)/\jR ab s.xs=jR g (s.xs.drop (j+1)):=by
    intro hg hp;rw[hg,hp,ahh,ahh]at u;refine⟨aa s.xs[j],λm z h=>?_,ap,u⟩;have:m=j:=by omega
    subst this;rfl
   apply ai;simp;cases W:bU s.xs[j].day 0 1099511627776
   .simp;exact N (by simp[pI,W]) _ _ _ bv
   simp;cases O:bU s.xs[j].fr (-2251799813685248) 1583296743997439
   .simp;exact N (by simp[pI,O]) _ _ _ bv
   have w5:=vd O;simp[aZ (n:=s.xs[j].fr+1),aZ (n:=s.xs[j].fr+10080)];cases X:bU s.xs[j].to (s.xs[j].fr+1) (s.xs[j].fr+10080)
   .exact N (by simp[pI,X]) _ _ _ bv
   have hg:pI s.xs[j]=ae:=by simp[pI,W,O,X]
   apply ai;simp;cases j with
   |zero=>
    simp;refine aD bv ?_;refine aR (av (next _ _ ?_ (by simp[E]) (by simp[K])));exact⟨by simp[x],by simp[B],⟨_,rfl⟩,go hg (by rw[Z rfl];rfl)⟩
   |succ m=>
    have z:m<s.xs.length:=by omega
    have y:=Y m rfl z;have e1:((m+1:Nat):Int)-1=m:=by omega
    have q:=cf (H:=H++(.box l 0 ::(J++[bO.box [C.f (fi s.xs[m+1].day),C.f (fi s.xs[m+1].fr),C.f (fi s.xs[m+1].to)] 0]))) (bM s.xs) (dB z);have I:=yp s.xs[m] s.xs[m+1];simp[aC.row]at I q;simp[show 0<m+1 by omega,x,S,aZ (n:=(m:Int)),bz,z,q,I];by_cases k7:0<=fO s.xs[m] s.xs[m+1]
    .simp[k7];have b:=bad (by simp[u,y,show¬ fO s.xs[m] s.xs[m+1]<0 by omega]);refine aw bv ?_;exact au (b _ _ _)
    .simp[k7];refine aD bv ?_;refine aR (av (next _ _ ?_ (by simp[E]) (by simp[K])));exact⟨by simp[x],by simp[B],⟨_,rfl⟩,go hg (by rw[y];simp;omega)⟩
  .rintro t _ ⟨x,B,⟨J,rfl⟩,d,Y,Z,u⟩ E K;have hX:jR ab s.xs=ae:=by rw[u];simp[jR]
   apply ai;simp;refine az (hQ _ _ ?_);simp[hS,hX]
theorem e9{a b:Int}(h:0<=a)(g:0<b)(d:a<=9223372036854775807):cT .quo (vi a) (vi b)=aa (vi (a / b)):=by
 rw[gq ap,agY h,wrap64 (ag5 ap (aha h ap)) (ag5 (ahL _ h) d)]
theorem gQ{a b:Int}(h:0<=a)(d:0<b):cT .rem (vi a) (vi b)=aa (vi (a % b)):=by
 rw[dp ap,agE h]
theorem Zw{a b:Int}(h:a<=0)(m:0<b)(l:-9223372036854775807<=a):cT .quo (vi a) (vi b)=aa (vi (-((-a) / b))):=by
 have g:(-a) / b<=-a:=ahL _ ap;have j:0<=(-a) / b:=aha ap ap;have d:a.tdiv b = -((-a) / b):=by
  have:a = -(-a):=by omega
  rw[this,Int.neg_tdiv,agY ap];simp
 rw[gq ap,d,aZ]
theorem ZA{a b:Int}(h:a<=0)(g:0<b):cT .rem (vi a) (vi b)=aa (vi (-((-a) % b))):=by
 have d:a.tmod b = -((-a) % b):=by
  have:a = -(-a):=by omega
  rw[this,Int.neg_tmod,agE ap];simp
 rw[dp ap,d]
theorem fF(a b:Int)(B:1<=b)(A:-4611686018427387904<=a)(g:a<=4611686018427387904):bg tab abO [vi a,vi b]=Eq (.t [vi (a / b),vi 0]):=bg.eq (by
 refine bK rfl rfl λQ d=>?_;apply ai;simp;apply au;apply ai;simp;refine aD ge (aR ?_);by_cases h:0<=a
 .apply ai;simp[e9 h (show 0<b by omega) ap];apply au;apply ai;have:=agW a (show b≠0 by omega);simp[gQ h (show 0<b by omega)];refine aD ge (aR ?_);apply ai;simp;refine az (d _ _ ?_);simp
 .apply ai;simp[Zw (show a<=0 by omega) (show 0<b by omega) ap];apply au;apply ai;have e:=agW (-a) (show b≠0 by omega);have j:=agL (-a) (show 0<b by omega);have q:0<=(-a) / b:=aha ap ap;have m:(-a) / b<=-a:=ahL _ ap;have l:=Int.mul_ediv_add_emod (-a) b;simp[ZA (show a<=0 by omega) (show 0<b by omega)];by_cases s:(-a) % b=0
  .refine aD ge (aR ?_);apply ai;simp;refine az (d _ _ ?_);have:a / b = -(-a / b):=by
    refine Int.ediv_eq_of_eq_mul_right ap ?_;rw[aim];omega
   simp[this]
  .refine aw ge ?_;refine aq (.inl rfl) ?_;simp[aZ (n:=-(-a / b)-1)];apply ai;simp;refine az (d _ _ ?_);have:a / b = -(-a / b)-1:=by
    have u:=agW a (show b≠0 by omega);have v:=agL a (show 0<b by omega);have x:=Int.mul_ediv_add_emod a b;have y:b*(a / b+(-a) / b+1)=b-a % b-(-a) % b:=by rw[Int.mul_add,Int.mul_add];omega
    have z:a / b+(-a) / b+1=0:=by
     rcases aiS (a / b+(-a) / b+1) 0 with h|h|h
     .have:b*(a / b+(-a) / b+1)<=b*(-1):=agy ap ap;omega
     .exact h
     .have:b*1<=b*(a / b+(-a) / b+1):=agy ap ap;omega
    omega
   simp[this])
theorem sS(a:Int)(g:-4611686018427387904<=a)(b:a<=4611686018427387904):bg tab abu [vi a]=Eq (vi (a / 1440)):=Kf.eq (by
 refine dh rfl rfl λH Q d=>?_;apply ai;simp;apply ai;simp[fF a 1440 ap g b];apply ai;simp;refine az (d _ _ ?_);simp)
def bV(len b d:Int):aC:=⟨d,d*1440+b,d*1440+b+len⟩
def nb(n:Int):Prop:=-1000000000000000<=n/\n<=1000000000000000
theorem xC(g j l:FC)(len b d:Int)(q:nb len)(s:nb b)(u:nb d) :
  bg tab abv [.a [.f g,.f (fi len),.f j],.a [.f l,.f (fi b)],vi d]=Eq (.a ((bV len b d).row.map .f)):=bg.eq (Kf.RJ (by
 unfold nb at *;refine dh rfl rfl λH Q m=>?_;apply ai;simp;apply ai;simp[aZ (n:=d*1440),aZ (n:=d*1440+b)];apply ai;simp[aZ (n:=d*1440+b+len)];refine az (m _ _ ?_);simp[bV,aC.row]))
def pE(a b c d:Int):Bool:=decide (a<d)&&decide (c<b)
theorem Tt(a b c d:Int):bg tab abt [.a [.f (fi a),.f (fi b)],.a [.f (fi c),.f (fi d)]]=Eq (vb (pE a b c d)):=Kf.eq (by
 refine dh rfl rfl λH Q g=>?_;apply ai;simp;apply ai;by_cases h:a<d
 .simp[h];refine az (g _ _ ?_);simp[pE,h]
 .simp[h];refine az (g _ _ ?_);simp[pE,h])
theorem ze{u m:Int}(b:0<m):(u.tmod m+m).tmod m=u % m:=by
 have d:=aip u b;have g:=aiq u b;rw[agE ap,Int.add_emod_right];exact aiv.2 (by
  have:=Int.tmod_add_mul_tdiv u m;have e:u.tmod m-u = -(m*u.tdiv m):=by omega
  simp_all)
theorem DZ{x y:Int}(m:1<x)(h:ag6 x y=1):1<=y % x:=by
 have l:=agW y (show x≠0 by omega);rcases ahy 0 (y % x)with d|d
 .omega
 .exfalso;have g:y % x=0:=by omega
  have j:x ∣ y:=Int.dvd_of_emod_eq_zero g;have b:x ∣ (ag6 x y:Int):=Int.dvd_coe_gcd (ahA x) j;rw[h]at b;have:=agZ ce b;omega
theorem GI{a m:Int}(a0:0<=a)(a1:a<=1099511627776)(m0:2<=m)(m1:m<=1000000)(hg:ag6 a m=1) :
  ∃x,0<=x/\x<m/\m ∣ a*x-1/\bg tab U8 [vi a,vi m]=Eq (vi x):=by
 obtain⟨S,⟨x,f,i,k,rfl⟩,hp⟩:∃S,(∃x,0<=x/\x<m/\m ∣ a*x-1/\S=vi x)/\bg tab U8 [vi a,vi m] S:=by
  have hr:=gQ (a:=a) (b:=m) a0 ap;have w:=agW a (show m≠0 by omega);have E:=agL a (show 0<m by omega);have j:ag6 (a % m) m=1:=by
   have e:a % m=a-a / m*m:=by have:=agB a m;rw[ahB (a / m)];omega
   simp_all
  have O:1<=a % m:=by
   rcases ahy 0 (a % m)with h|h
   .omega
   .exfalso;have h0:a % m=0:=by omega
    rw[h0]at j;simp at j;omega
  refine dx rfl rfl λQ hQ=>?_;apply ai;simp;apply ai;simp[hr];refine au (ay ?_);refine dc (λn s=>∃(x y u v U V:Int) (t:T),s=⟨t,[],[]⟩/\(n:Int)=x/\t.g 1=vi m/\t.g 5=vi x/\t.g 6=vi y/\t.g 7=vi u/\t.g 8=vi v/\1<=x/\x<y/\y<=m/\ag6 x y=1/\m ∣ a*u-x/\m ∣ a*v-y/\
   0<=U/\0<=V/\(u=U/\v = -V\/u = -U/\v=V)/\U*y+V*x=m) (a % m).toNat
   ⟨a % m,m,1,0,1,0,_,rfl,ap,bv,bv,bv,bv,bv,O,E,ap,j,?_,?_,ce,ce,.inl ⟨rfl,rfl⟩,ap⟩ ?_
  .refine⟨a / m,?_⟩;have:=agB a m;omega
  .simp
  rintro n s ⟨x,y,u,v,U,V,t,rfl,hn,Y,F,Z,c,g8,f,i,k,o,I,h6,B,p,h9,a_⟩ ih;have c_:U<=U*y:=by have:=agy (show(1:Int)<=y by omega) B;omega
  have d_:0<=V*x:=ag7 p ap;have c9:U<=m:=by omega
  have d9:V<=m:=by
   have H:V<=V*x:=by have:=agy (show(1:Int)<=x by omega) p;omega
   omega
  refine au (ai ?_);simp[F];by_cases r:1<x
  .
   have l:0<=y / x:=aha ap ap;have M:y / x<=y:=ahL _ ap;have z:=e9 (a:=y) (b:=x) ap ap ap;obtain⟨q,hq⟩:=aI (y / x);have d:=agB y x;have K:=DZ r o;have L:=agL y (show 0<x by omega);rw[<-hq]at l M z d;obtain⟨g,N⟩:=aI (y % x);rw[<-N]at d K L;have h_:q*x=y-g:=by rw[ahB];omega
   obtain⟨W,hW⟩:=aI (V+q*U);have f_:0<=q*U:=ag7 l B;have J:W*x+U*g=m:=by
    grind
   have e_:W<=m:=by
    have H:W<=W*x:=by have:=agy (show(1:Int)<=x by omega) (show 0<=W by omega);omega
    have b_:0<=U*g:=ag7 B ap;omega
   have g_:(u=U->q*u=q*U)/\(u = -U->q*u = -(q*U)):=⟨λe=>by rw[e],λe=>by rw[e,aim]⟩
   have hb:-m<=q*u/\q*u<=m:=by
    omega
   have i7:-m<=v/\v<=m:=by omega
   have X:=aZ (n:=q*x);have w2:IntKind.i64.wrap (y-q*x)=g:=by rw[aZ];omega
   have w3:=aZ (n:=q*u);have w4:=aZ (n:=v-q*u);refine aw (by simp[r]) (aR ?_);refine ay (ai ?_);simp[F,Z,z];apply ai;simp[F,Z,X,w2];refine aq (.inl rfl) ?_;simp[c,g8,w3,w4];refine av (ih g.toNat _ ap ⟨g,x,v-q*u,u,W,U,_,rfl,ap,by simp[Y],bv,bv,bv,bv,ap,ap,ap,?_,?_,I,ap,B,?_,J⟩)
   .rw[show g=y-q*x by omega,Int.gcd_sub_mul_right_left,Int.gcd_comm];exact o
   .have e:a*(v-q*u)-g=(a*v-y)-q*(a*u-x):=by
     grind
    rw[e];exact ahT h6 (Int.dvd_mul_of_dvd_right I)
   .omega
  .
   have A:x=1:=by omega
   subst A;have i6:-m<=u/\u<=m:=by omega
   have t1:=aip u (show 0<m by omega);have t2:=aiq u (show 0<m by omega);have r1:cT .rem (vi u) (vi m)=aa (vi (u.tmod m)):=dp ap;have r2:cT .rem (vi (u.tmod m+m)) (vi m)=aa (vi (u % m)):=by rw[dp ap,ze ap]
   have X:=aZ (n:=u.tmod m+m);refine aD bv (bJ rfl ?_);apply ai;simp[Y,c,r1,X,r2];refine az (hQ _ _ _ ⟨u % m,agW _ ap,agL _ ap,?_,rfl⟩ bv);have e:a*(u % m)-1=(a*u-1)-a*(u / m)*m:=by
    have:=agB u m
    grind
   rw[e];exact ahT I (ait _ _)
 exact⟨x,f,i,k,hp.eq⟩
theorem Tp{a s r p d:Int}(m:¬ (ag6 s p:Int) ∣ r-a)(j:s ∣ d-a)(l:p ∣ d-r):False:=by
 apply m;have b:=ag0 (ah0 s p) j;have g:=ag0 (ah7 s p) l;have:=ahT b g
 grind
theorem To{a s r p g n t:Int}(u:g=(ag6 s p:Int))(E:0<p)(F:0<s)(x:p=n*g)(hd:g ∣ r-a)(A:n ∣ t*(s / g)-(r-a) / g) :
  (∀d,s ∣ d-a/\p ∣ d-r↔(s*n) ∣ d-(a+t*s))/\0<g/\0<n:=by
 have l:0<g:=by
  grind
 have q:0<n:=by
  rcases aiS n 0 with h|h|h
  .have:=Int.mul_neg_of_neg_of_pos h l;omega
  .simp_all
  .exact h
 have z:s / g*g=s:=aiP (u▸ah0 s p);have y:(r-a) / g*g=r-a:=aiP hd;have j:p ∣ a+t*s-r:=by
  obtain⟨k,B⟩:=A;refine⟨k,?_⟩
  grind
 have v:(Int.lcm s p:Int)=s*n:=by
  have b:((ag6 s p*Int.lcm s p:Nat):Int)=s*p:=by
   rw[Int.gcd_mul_lcm,Int.natCast_mul,Int.natAbs_of_nonneg ap,Int.natAbs_of_nonneg ap]
  rw[Int.natCast_mul,<-u]at b;have m:g*(Int.lcm s p:Int)=g*(s*n):=by rw[b,x,<-aia,ahB]
  exact Int.eq_of_mul_eq_mul_left ap m
 refine⟨λd=>⟨λ⟨b,m⟩=>?_,λh=>⟨?_,?_⟩⟩,l,q⟩
 .rw[<-v];refine Int.coe_lcm_dvd ?_ ?_
  .have:d-(a+t*s)=d-a-t*s:=by omega
   rw[this];exact ahT b (ait t s)
  .have:d-(a+t*s)=d-r-(a+t*s-r):=by omega
   rw[this];exact ahT m j
 .have b:=ag0 (Int.dvd_mul_right s n) h;have:d-a=d-(a+t*s)+t*s:=by omega
  rw[this];exact aiK b (ait t s)
 .have b:p ∣ d-(a+t*s):=ag0 (by rw[<-v];exact Int.dvd_lcm_right s p) h;have:d-r=d-(a+t*s)+(a+t*s-r):=by omega
  rw[this];exact aiK b j
theorem tp{a b n:Int}:a % n=b % n↔n ∣ a-b:=aiv.trans Int.dvd_iff_emod_eq_zero.symm
abbrev Yx(at' st:Int):V:=.a [.f (.int .i64 at'),.f (.int .i64 st)]
theorem Uk{a s r p:Int}(a0:0<=a)(a1:a<s)(s1:s<=1000000)(r0:0<=r)(r1:r<p)(p1:p<=27720) :
  (∃a' i,0<=a'/\a'<i/\i<=s*p/\(∀d,s ∣ d-a/\p ∣ d-r↔i ∣ d-a')/\bg tab U7 [Yx a s,vi r,vi p]=Eq (.t [Yx a' i,vb ae]))\/
  ((∀d,¬ (s ∣ d-a/\p ∣ d-r))/\bg tab U7 [Yx a s,vi r,vi p]=Eq (.t [Yx 0 0,vb ag])):=by
 have s0:0<s:=by omega
 have p0:0<p:=by omega
 obtain⟨g,E⟩:=aI ((ag6 s p:Int):Int);have i_:ag6 s p=ahC s.toNat p.toNat:=by
  show ahC s.natAbs p.natAbs=_
  grind
 have b_:g ∣ s:=E▸ah0 s p;have K:g ∣ p:=E▸ah7 s p;have l:0<ag6 s p:=ahv p ap;have o:0<g:=by rw[E];exact Int.natCast_pos.2 l
 have gp:g<=p:=agZ p0 K;obtain⟨n,f⟩:=aI (p / g);have W:p=n*g:=by rw[f,aiP K]
 have z:0<n:=by
  rcases ahy 0 n with h|h
  .exact h
  .have:=aiC (a:=n) (b:=-g) h ap
   grind
 have np:n<=p:=by
  have:=agy (show(1:Int)<=g by omega) (show 0<=n by omega);omega
 have j:bg tab Ae [vi s,vi p]=Eq (vi g):=by
  have h:=xM (a:=s.toNat) (b:=p.toNat) ap ap
  grind
 have b0:∀{L:an},aV (.box [.f (fi a),.f (fi s)] 0::L) ab (.c (.ptr 0 0 0))=aa (vi a)/\aV (.box [.f (fi a),.f (fi s)] 0::L) ab (.c (.ptr 0 1 0))=aa (vi s)/\aV (.box [.f (fi a),.f (fi s)] 0::L) (aa 2) (.c (.ptr 0 0 0))=aa (Yx a s):=by
  simp
 have q:=aZ (n:=r-a);have B:cT .rem (vi (r-a)) (vi g)=aa (vi ((r-a).tmod g)):=dp ap;have y:¬ (s=0):=by omega
 by_cases hd:g ∣ r-a
 .left;have m:(r-a).tmod g=0:=ain hd;by_cases x:n=1
  .
   have M:p=g:=by rw[W,x,Int.one_mul]
   refine⟨a,s,a0,a1,?_,λd=>⟨λh=>h.1,λh=>⟨h,?_⟩⟩,bg.eq ?_⟩
   .have:=agy (show(1:Int)<=p by omega) (show 0<=s by omega);omega
   .rw[M];have:=ahT (ag0 b_ h) hd
    grind
   .have A:cT .quo (vi p) (vi g)=aa (vi n):=by rw[e9 ap o ap,<-f]
    refine bK rfl rfl λQ H=>?_;apply ai;simp;refine au (ai ?_);simp[b0,-ax,y];refine bE bv ?_;apply ai;simp[b0,-ax,j];refine au (ai ?_);simp[b0,-ax,q,B,m];refine bE bv ?_;apply ai;simp[A];refine au (ai ?_);simp[x];refine aw bv ?_;apply ai;simp[b0,-ax];refine az (H _ _ ?_);simp
  .
   have n2:2<=n:=by omega
   have Y:0<=s / g:=aha ap ap;have h_:s / g<=s:=ahL _ ap;have I:ag6 (s / g) n=1:=by rw[f,E];exact Int.gcd_ediv_gcd_ediv_gcd l
   obtain⟨v,v0,v1,hv,O⟩:=GI Y ap n2 ap I;obtain⟨w,hw⟩:=aI (((r-a) / g) % n);have w0:0<=w:=by rw[hw];exact agW _ ap
   have w1:w<n:=by rw[hw];exact agL _ z
   obtain⟨t,ht⟩:=aI ((w*v) % n);have t0:0<=t:=by rw[ht];exact agW _ ap
   have t1:t<n:=by rw[ht];exact agL _ z
   have S:n ∣ t*(s / g)-(r-a) / g:=by
    obtain⟨k,hk⟩:=hv;have e1:t=w*v-n*(w*v / n):=by have:=agB (w*v) n;omega
    have e2:w=(r-a) / g-n*((r-a) / g / n):=by have:=agB ((r-a) / g) n;omega
    have e3:t*(s / g)-(r-a) / g=w*(s / g*v-1)-n*(w*v / n)*(s / g)-n*((r-a) / g / n):=by
     grind
    rw[e3,hk];refine ahT (ahT ?_ ?_) (Int.dvd_mul_right _ _)
    .exact⟨w*k,by rw[Int.mul_left_comm]⟩
    .exact⟨w*v / n*(s / g),by rw[aia]⟩
   obtain⟨N,-,-⟩:=To E p0 s0 W hd S;have i7:0<=t*s:=ag7 t0 ap;have i8:t*s<=(n-1)*s:=agI ap ap;have j5:(n-1)*s=n*s-s:=by rw[Int.sub_mul,Int.one_mul]
   have g_:n*s<=27720*1000000:=ah5 ap s1 ap ce;have j6:s*n=n*s:=ahB _ _;have Z:0<=w*v:=ag7 w0 v0;have i9:w*v<=27720*27720:=ah5 ap ap v0 ce;have i6:0<=n*s:=ag7 ap ap;refine⟨a+t*s,s*n,ap,ap,?_,N,bg.eq ?_⟩
   .exact agy np ap
   .have A:cT .quo (vi p) (vi g)=aa (vi n):=by rw[e9 ap o ap,<-f]
    have a_:cT .quo (vi (r-a)) (vi g)=aa (vi ((r-a) / g)):=by
     rw[gq ap,Int.tdiv_eq_ediv_of_dvd hd];have hb:-1000000<=(r-a) / g/\(r-a) / g<=1000000:=by
      obtain⟨k,hk⟩:=hd;rw[hk,Int.mul_ediv_cancel_left _ ap];constructor
      .rcases ahy k (-1000000)with h|h
       .have:=agy (show k<=-1000001 by omega) (show 0<=g by omega);omega
       .omega
      .rcases ahy 1000000 k with h|h
       .have:=agy (show(1000001:Int)<=k by omega) (show 0<=g by omega);omega
       .omega
     rw[aZ]
    have d_:cT .rem (vi ((r-a) / g)) (vi n)=aa (vi (((r-a) / g).tmod n)):=dp ap;have tl:=aip ((r-a) / g) z;have tg:=aiq ((r-a) / g) z;have e_:=aZ (n:=((r-a) / g).tmod n+n);have U:cT .rem (vi (((r-a) / g).tmod n+n)) (vi n)=aa (vi w):=by rw[dp ap,ze z,<-hw]
    have f_:cT .quo (vi s) (vi g)=aa (vi (s / g)):=e9 ap o ap;have uw:IntKind.wrap .u64 w=w:=iY w0 ap;have uv:IntKind.wrap .u64 v=v:=iY v0 ap;have un:IntKind.wrap .u64 n=n:=iY ap ap;have us:IntKind.wrap .u64 s=s:=iY ap ap;have c9:=tt w0 (show w<=2147483648 by omega) v0 (show v<=2147483648 by omega);have X:=Je (a:=0) (b:=n) ce z;rw[Int.zero_emod]at X;have J:=DN Z (show w*v<=9223372036854775807 by omega) z (show n<=9223372036854775807 by omega);rw[<-ht]at J;have c_:=tt t0 (show t<=2147483648 by omega) (show 0<=s by omega) (show s<=2147483648 by omega);have d9:=tt (show 0<=s by omega) (show s<=2147483648 by omega) (show 0<=n by omega) (show n<=2147483648 by omega);have u:=aZ (n:=t*s);have fa:=aZ (n:=1152921504606846976-a);have c1:¬ (1152921504606846976<t*s):=by omega
    have c2:¬ (1152921504606846976-a<t*s):=by omega
    have F:=aZ (n:=a+t*s);have c:=aZ (n:=s*n);have c3:s*n<=1152921504606846976:=by omega
    refine bK rfl rfl λQ H=>?_;apply ai;simp;refine au (ai ?_);simp[b0,-ax,y];refine bE bv ?_;apply ai;simp[b0,-ax,j];refine au (ai ?_);simp[b0,-ax,q,B,m];refine bE bv ?_;apply ai;simp[A];refine au (ai ?_);simp[x];refine bE bv ?_;apply ai;simp[b0,-ax,q,a_,d_,e_,U];apply ai;simp[b0,-ax,uw,f_,O,uv,c9];apply ai;simp[un,X,J];apply ai;simp[b0,-ax,us,c_];refine au (ai ?_);simp[b0,-ax,c1,u,fa,c2];refine bE bv ?_;apply ai;simp[b0,-ax,u,F];refine au (ai ?_);simp[b0,-ax,us,un,d9];apply ai;simp[c3];refine aw bv (aq (.inl rfl) ?_);simp[c];apply ai;simp;refine az (H _ _ ?_);simp
 .right;refine⟨λd h=>Tp (λe=>hd (E▸e)) h.1 h.2,bg.eq ?_⟩;have m:¬ (r-a).tmod g=0:=λe=>hd (aiD e);refine bK rfl rfl λQ H=>?_;apply ai;simp;refine au (ai ?_);simp[b0,-ax,y];refine bE bv ?_;apply ai;simp[b0,-ax,j];refine au (ai ?_);simp[b0,-ax,q,B,m];refine aw bv ?_;apply ai;simp;refine az (H _ _ ?_);simp
theorem D9(a b:Int):Kf tab aex [vi a,vi b] (vb (decide (a<b))):=by
 refine dh rfl rfl λH Q d=>?_;apply ai;simp;apply ai;simp[sW];refine az (d _ _ ?_);simp[sW]
theorem UE(a:Int):bg tab XB [vi a]=Eq (vb ag):=Kf.eq (by
 refine dh rfl rfl λH Q b=>?_;apply ai;simp;apply ai;simp;refine az (b _ _ ?_);simp)
theorem gA(g:Tg)(l:List Int)(n:Int)(hl:l.length<=1000000000)(o:l.Pairwise (· < ·)) :
  ∃i:Nat,i<=l.length/\(∀j (d:j<l.length),j<i->l[j]<n)/\(∀j (d:j<l.length),i<=j->n<=l[j])/\
   bg tab FF [.c (.f (sl g (ints l))),vi n]=Eq (.t [vi i,vb (decide (n∈l))]):=by
 obtain⟨r,⟨i,c,f,O,rfl⟩,h⟩:∃r,(∃i:Nat,i<=l.length/\(∀j (d:j<l.length),j<i->l[j]<n)/\(∀j (d:j<l.length),i<=j->n<=l[j])/\r=.t [vi i,vb (decide (n∈l))])/\
   bg tab FF [.c (.f (sl g (ints l))),vi n] r:=by
  refine dx rfl rfl λQ S=>?_;have A:=λ(a b:Int) (H:an)=>(D9 a b).ev H;have y:∀i j (hi:i<j) (d:j<l.length),l[i]<l[j]:=λi j hi d=>agQ.1 o i j ap d hi;apply ai;simp;apply ai;simp;apply ai;simp;apply au;refine ay ?_;refine dc (λm s=>∃(lo hi:Nat) (t:T) (J:an),s=⟨t,[],J⟩/\m=hi-lo/\lo<=hi/\hi<=l.length/\t.g 0=.c (.f (sl g (ints l)))/\t.g 1=vi n/\t.g 6=vi l.length/\t.g 7=vi lo/\t.g 8=vi hi/\
   (∀j (d:j<l.length),j<lo->l[j]<n)/\(∀j (d:j<l.length),hi<=j->n<=l[j])) l.length
   ⟨0,l.length,_,_,rfl,ap,ap,ap,bv,bv,bv,bv,bv,bv,by intros;omega⟩ ?_
  rintro m s ⟨lo,hi,t,J,rfl,rfl,k,z,E,F,K,I,N,u,v⟩ next
  apply au;apply ai;simp[I,N];by_cases W:lo<hi
  .refine aw (by simp[W]) (aR ?_);obtain⟨q,hq⟩:=aI ((lo+hi) / 2);have L:q<l.length:=by omega
   have Z:cT BinOp.shr (V.c (C.f (FC.int IntKind.u64 (IntKind.u64.wrap ((lo:Int)+hi))))) (V.c (C.f (FC.int IntKind.u64 1)))=aa (.c (.f (.int .u64 (q:Int)))):=by
    have:IntKind.u64.wrap ((lo:Int)+hi)=(lo:Int)+hi:=by
     show((lo:Int)+hi) % 18446744073709551616=_;omega
    rw[this];show aa (V.c (C.f (FC.int IntKind.u64 (Int.fdiv ((lo:Int)+hi) (2 ^ (min (1:Int).toNat IntKind.u64.bits))))))=_;have O:Int.fdiv ((lo:Int)+hi) (2 ^ (min (1:Int).toNat IntKind.u64.bits))=q:=by
     show Int.fdiv ((lo:Int)+hi) 2=q;rw[Int.fdiv_eq_ediv_of_nonneg _ ap];omega
    rw[O]
   have p:=aZ (n:=(lo:Int)+hi);have Y:IntKind.i64.wrap (q:Int)=q:=aZ;refine ay ?_;apply ai;simp[I,N,p,Z,Y];apply ai;simp[E,F,bz,L,dZ,A];by_cases U:l[q]<n
   .refine aw (by simp[U]) ?_;refine aq (.inl rfl) ?_;simp[aZ (n:=(q:Int)+1)];refine av (next (hi-(q+1)) _ ap ⟨q+1,hi,_,_,rfl,rfl,ap,ap,by simp[E],by simp[F],by simp[K],bv,by simp[N],λj d h=>?_,v⟩);by_cases e:j=q
    .subst e;exact U
    .have:=y j q ap L;omega
   .refine aD (by simp[U]) ?_;refine aq (.inl rfl) ?_;simp;refine av (next (q-lo) _ ap ⟨lo,q,_,_,rfl,rfl,ap,ap,by simp[E],by simp[F],by simp[K],by simp[I],bv,u,λj d h=>?_⟩);by_cases e:j=q
    .subst e;omega
    .have:=y q j ap d;omega
  .have:lo=hi:=by omega
   subst this;refine aD bv ?_;refine bJ rfl ?_;apply ai;by_cases x:lo<l.length
   .have w:=v lo x ap;by_cases M:l[lo]=n
    .simp[E,F,K,I,x,bz,dZ,M];refine az (S _ _ _ ⟨lo,z,u,v,rfl⟩ ?_);have:n∈l:=M▸IN x;simp[this]
    .have B:n ∉ l:=λX=>by
      obtain⟨j,d,rfl⟩:=agz X;rcases Nat.lt_trichotomy j lo with h|h|h
      .have:=u j d h;omega
      .subst h;exact M rfl
      .have:=y lo j h d;omega
     simp[E,F,K,I,x,bz,dZ,M,UE];refine az (S _ _ _ ⟨lo,z,u,v,rfl⟩ ?_);simp[B]
   .have B:n ∉ l:=λX=>by
     obtain⟨j,d,rfl⟩:=agz X;have:=u j d ap;omega
    simp[E,F,K,I,x];refine az (S _ _ _ ⟨lo,z,u,v,rfl⟩ ?_);simp[B]
 exact⟨i,c,f,O,bg.eq h⟩
theorem oG{limit:Int}:∀{l:List Int} {last:Int},cH limit last l=ae->l.Pairwise (· < ·)/\∀c∈l,last<c/\c<limit
 |[],_,_=>⟨List.Pairwise.nil,bv⟩
 |a::l,last,h=>by
  simp only[cH,IS,decide_eq_true_eq]at h;obtain⟨⟨g,j⟩,m⟩:=h;obtain⟨q,d⟩:=oG m;refine⟨ahm.2 ⟨λc b=>(d c b).1,q⟩,λc b=>?_⟩;rcases agA.1 b with rfl|b
  .exact⟨g,j⟩
  .have:=d c b;omega
theorem bC{p:aO}(h:cI p=ae):0<=p.fr/\p.fr<=1099511627776/\1<=p.aT/\p.aT<=1099511627776/\p.head.length+p.bF.length<=1048576/\p.head.Pairwise (· < ·)/\(∀c∈p.head,-1<c/\c<p.fr)/\p.bF.Pairwise (· < ·)/\∀c∈p.bF,-1<c/\c<p.aT:=by
 unfold cI at h;simp only[IS,decide_eq_true_eq]at h;obtain⟨⟨⟨⟨⟨⟨g,j⟩,l⟩,m⟩,u⟩,q⟩,s⟩:=h;obtain⟨a1,b⟩:=oG q;obtain⟨b1,d⟩:=oG s;exact⟨g,j,l,m,ap,a1,b,b1,d⟩
def bA(p:aO)(d:Int):Bool:=if p.fr<=d then decide ((d-p.fr) % p.aT∈p.bF)else decide (d∈p.head)
def Day(d:Int):Prop:=d<=2305843009213693952
theorem uJ(p:aO)(h:cI p=ae)(d:Int)(z:0<=d)(hd:Day d):bg tab OX [.a (p.row.map .f),vi d]=Eq (vb (bA p d)):=Kf.eq (by
 obtain⟨A,B,E,F,I,s,K,u,L⟩:=bC h;unfold Day at hd;refine dh rfl rfl λH Q v=>?_;have j:∀(t:T) (J:an) (g:Tg) (l:List Int) (n:Int),l.length<=1048576->l.Pairwise (· < ·)->t.g 5=.c (.f (sl g (ints l)))->t.g 6=vi n->bA p d=decide (n∈l)->WP tab OX ab [.code NG] ⟨t,[],H++J⟩ Q:=by
  intro t J g l n M x m q e;obtain⟨i,-,-,-,y⟩:=gA g l n ap x;apply ai;simp[m,q,y];apply ai;simp;refine az (v _ _ ?_);simp[e]
 apply ai;simp[aO.row];apply ai;simp;apply au;apply ai;simp;by_cases k:p.fr<=d
 .refine aw (by simp[k]) ?_;refine aq (.inl rfl) ?_;simp[aZ (n:=d-p.fr),gQ (a:=d-p.fr) (b:=p.aT) ap ap];exact j _ _ p.cg p.bF ((d-p.fr) % p.aT) ap u bv bv (by simp[bA,k])
 .refine bE (by simp[k]) ?_;exact j _ _ p.hg p.head d ap s bv bv (by simp[bA,k]))
def hasB(p:aO)(d:Int):Bool:=decide (0<=d)&&bA p d
theorem Uu(p:aO)(h:cI p=ae)(d:Int)(hd:Day d):Kf tab abW [.a (p.row.map .f),vi d] (vb (hasB p d)):=by
 refine dh rfl rfl λH Q g=>?_;have b:=uQ p (kj h);rw[h]at b;apply ai;simp[aO.row]at b ⊢;apply ai;by_cases k:0<=d
 .have j:=uJ p h d k hd;simp[aO.row]at j;simp[b,k,j];refine az (g _ _ ?_);simp[hasB,k]
 .simp[b,k];refine az (g _ _ ?_);simp[hasB,k]
theorem Mo(p:aO)(h:cI p=ae)(d:Int)(hd:Day d):Kf tab Px [.a (p.row.map .f),.c (.f (.fp [fi d] 0))] (vb (!hasB p d)):=by
 refine dh rfl rfl λH Q g=>?_;have b:=(Uu p h d hd).eq;simp[aO.row]at b;have j:∀H:an,aV H ab (.c (.f (.fp [fi d] 0)))=aa (vi d):=λH=>by simp[aV,aA]
 apply ai;simp[aO.row];apply ai;simp[j,b];refine az (g _ _ ?_);simp
def wH(l:List aO)(d:Int):Bool:=l.all λp=>hasB p d
theorem Vp(g:Tg)(l:List aO)(u:l.length<=9223372036854775807)(h:∀p∈l,cI p=ae)(d:Int)(hd:Day d):Kf tab abK [.c (.f (sl g (aQ l))),vi d] (vb (wH l d)):=by
 refine dh rfl rfl λH Q m=>?_;have q:=(fD PO (je PQ l aO.row (λr=>.a (r.row.map .f)) (λp=>!hasB p d) g Px [.fp [fi d] 0] u
  (λj s H=>cf (bQ l) (dd s)) (λp v=>Mo p (h p v) d hd))).eq
 have e:(!l.any λp=>!hasB p d)=wH l d:=by
  rw[wH,Bool.eq_iff_iff];simp[List.any_eq_false,agJ]
 apply ai;simp;apply ai;have b:bg tab FO [.c (.f (sl g (aQ l))),.c (.f (.fn Px [.fp [fi d] 0]))]=Eq (vb (l.any λp=>!hasB p d)):=q;simp[deep,Eh,xX,b,e];refine az (m _ _ ?_);simp
theorem YW(t:cV)(j:t.fs.length<=9223372036854775807)(h:∀p∈t.fs,cI p=ae)(d:Int)(hd:Day d):Kf tab Pu [.c (.f (sl t.tg (aQ t.fs))),.c (.f (.fp [fi d] 0))] (vb (wH t.fs d)):=by
 refine dh rfl rfl λH Q g=>?_;have b:∀H:an,aV H ab (.c (.f (.fp [fi d] 0)))=aa (vi d):=λH=>by simp[aV,aA]
 apply ai;simp;apply ai;simp[b,(Vp t.tg t.fs j h d hd).eq];refine az (g _ _ ?_);simp
def vI(l:List cV)(d:Int):Bool:=jz l&&l.any λt=>wH t.fs d
theorem iq{t:cV}(h:jD t=ae):1<=t.fs.length/\t.fs.length<=4/\∀p∈t.fs,cI p=ae:=by
 unfold jD at h;simp only[IS,decide_eq_true_eq,agJ]at h;exact⟨ap,ap,h.2⟩
theorem qH{l:List cV}(h:jz l=ae):l.length<=64/\∀t∈l,jD t=ae:=by
 unfold jz at h;simp only[IS,decide_eq_true_eq,agJ]at h;exact⟨ap,h.2⟩
theorem Co(g:Tg)(l:List cV)(h:jz l=ae)(d:Int)(hd:Day d):bg tab Pt [.a [.f (sl g (aK l))],vi d]=Eq (vb (vI l d)):=Kf.eq (by
 obtain⟨z,m⟩:=qH h;have s:=G3 g l ap (λt b=>⟨by have:=(iq (m t b)).2.1;omega,λp y=>kj ((iq (m t b)).2.2 p y)⟩);have v:=(fD F9 (je F_ l cV.row (λt=>.c (.f (sl t.tg (aQ t.fs)))) (λt=>wH t.fs d) g Pu [.fp [fi d] 0] ap
  (λj x H=>gU (fN l) (ir x) rfl) (λt b=>YW t (by have:=(iq (m t b)).2.1;omega) (iq (m t b)).2.2 d hd))).eq
 have q:bg tab wW [.c (.f (sl g (aK l))),.c (.f (.fn Pu [.fp [fi d] 0]))]=Eq (vb (l.any λt=>wH t.fs d)):=v;rw[h]at s;refine dh rfl rfl λH Q u=>?_;apply ai;simp;apply ai;simp[s,deep,Eh,xX,q];refine az (u _ _ ?_);simp[vI,h])
structure Mod(p:aO):Prop where
 ok:cI p=ae
 Zr:p.aT<=27720
def jY(p:aO)(c:Int):Int:=(p.fr % p.aT+c) % p.aT
theorem acL{x c p:Int}(d:0<=c)(g:c<p):x % p=c↔p ∣ x-c:=by
 have h:=tp (a:=x) (b:=c) (n:=p);rw[ahf d g]at h;exact h
theorem tA{p:aO}(h:Mod p){c:Int}(b:0<=c)(g:c<p.aT):0<=jY p c/\jY p c<p.aT/\∀d,(d-p.fr) % p.aT=c↔p.aT ∣ d-jY p c:=by
 have j:0<p.aT:=by omega
 refine⟨agW _ ap,agL _ j,λd=>?_⟩;rw[acL b g];have e:p.aT ∣ p.fr+c-jY p c:=by
  rw[<-tp];unfold jY;simp
 constructor
 .intro k;have:=aiK k e
  grind
 .intro k;have:=ahT k e
  grind
theorem wK{p:aO}(h:Mod p){c:Int}(d:c∈p.bF):0<=c/\c<p.aT:=by
 obtain⟨-,-,-,-,-,-,-,-,b⟩:=bC h.ok
 grind
def kB(p:aO)(d:Int):Prop:=∃c∈p.bF,p.aT ∣ d-jY p c
theorem tq{p:aO}(h:Mod p){d:Int}(hd:p.fr<=d):bA p d=ae↔kB p d:=by
 unfold bA;rw[bZ hd,decide_eq_true_eq];constructor
 .intro j;obtain⟨a,b⟩:=wK h j;exact⟨_,j,((tA h a b).2.2 d).1 rfl⟩
 .rintro⟨c,g,e⟩;obtain⟨a,b⟩:=wK h g;rw[((tA h a b).2.2 d).2 e];exact g
theorem yC(p:aO)(h:Mod p)(c:Int)(l:0<=c)(m:c<p.aT):bg tab abM [.a (p.row.map .f),vi c]=Eq (vi (jY p c)):=Kf.eq (by
 obtain⟨d,j,s,u,-⟩:=bC h.ok;have q:=agW p.fr (show p.aT≠0 by omega);have m1:=agL p.fr (show 0<p.aT by omega);refine dh rfl rfl λH Q g=>?_;apply ai;simp[aO.row];apply ai;simp[gQ (a:=p.fr) (b:=p.aT) d ap,aZ (n:=p.fr % p.aT+c),gQ (a:=p.fr % p.aT+c) (b:=p.aT) ap ap];refine az (g _ _ ?_);simp[jY])
def dz:List aO->Int
 |[]=>0| p::l=>max p.fr (dz l)
theorem qR:∀l:List aO,0<=dz l
 |[]=>ahw _| p::l=>by have:=qR l;simp only[dz];omega
theorem qQ{p:aO}:∀{l:List aO},p∈l->p.fr<=dz l
 |q::l,h=>by
  simp only[dz];rcases agA.1 h with rfl|h
  .omega
  .have:=qQ h;omega
theorem E5(l:List aO)(p:aO):dz (l++[p])=max (dz l) p.fr:=by
 induction l with
 |nil=>simp only[List.nil_append,dz];omega| cons q l b=>simp only[List.cons_append,dz,b];omega
theorem Sh(g:Tg)(l:List aO)(z:l.length<=64):bg tab abN [.c (.f (sl g (aQ l)))]=Eq (vi (dz l)):=Kf.eq (by
 refine dh rfl rfl λH Q y=>?_;apply ai;simp;apply ai;simp;apply au;apply ai;simp;refine bS l.length (λj t H'=>(∃J,H'=H++J)/\t.g 6=.c (.f (sl g (aQ l)))/\t.g 3=vi (dz (l.take j))) ap ce ce bv bv ⟨⟨[],bv⟩,bv,by simp[dz]⟩ ?_ ?_
 .rintro j t _ u ⟨⟨J,rfl⟩,q,m⟩ s x next
  have d:=λH:an=>cf (H:=H) (bQ l) (dd (l:=l) (j:=j) u);have b:=λH:an=>bz (H:=H) (g:=g) (rows:=aQ l) (sz:=4) (k:=.i64) (i:=j) ap (by simpa using u);simp[aO.row]at d b;have v:l.take (j+1)=l.take j++[l[j]]:=by rw[agv,By u];rfl
  have e:dz (l.take (j+1))=max (dz (l.take j)) l[j].fr:=by rw[v,E5]
  refine ay ?_;apply ai;simp[q,s,b,d];refine aq (.inl rfl) ?_;simp[m];refine av (next _ _ ?_ (by simp[s]) (by simp[x]));exact⟨⟨_,rfl⟩,by simp[q],by simp[e]⟩
 .rintro t _ ⟨⟨J,rfl⟩,q,m⟩ s x;rw[agu]at m;apply ai;simp[m];refine az (y _ _ ?_);simp)
def C1(n a s:Int):Int:=if a<n then a+(n-a+s-1) / s*s else a
theorem Jf{n a s:Int}(x:0<=a)(y:a<s)(z:0<=n):n<=C1 n a s/\s ∣ C1 n a s-a/\C1 n a s<=n+s/\∀d,n<=d->s ∣ d-a->C1 n a s<=d:=by
 have l:0<s:=by omega
 unfold C1;split
 .have m:=agB (n-a+s-1) s;have u:=agW (n-a+s-1) (show s≠0 by omega);have v:=agL (n-a+s-1) l;have g:(n-a+s-1) / s*s=s*((n-a+s-1) / s):=ahB _ _;rw[g];generalize (n-a+s-1) / s=q at *;refine⟨ap,⟨q,ap⟩,ap,?_⟩;rintro d hd ⟨k,j⟩;rcases ahy k q with h|h
  .have b:s*k<=s*(q-1):=agy ap ap
   grind
  .have b:s*q<=s*k:=agy h ap;omega
 .refine⟨ap,⟨0,ap⟩,ap,?_⟩;rintro d hd ⟨k,j⟩;rcases ahy k 0 with h|h
  .have b:s*k<=s*(-1):=agy ap ap;omega
  .have b:0<=s*k:=ag7 ap h;omega
structure iw(S:Int->Prop)(l:Int)(f:Bool)(l':Int)(f':Bool):Prop where
 le:l'<=l
 YO:f=ae->f'=ae
 src:(l'=l/\f'=f)\/(f'=ae/\S l')
 low:∀d,S d->l'<=d/\(d<=l->f'=ae)
theorem iw.none{S:Int->Prop}{l:Int}{f:Bool}(h:∀d,¬ S d):iw S l f l f:=⟨ahw _,id,.inl ⟨rfl,rfl⟩,λd hd=>absurd hd (h d)⟩
theorem iw.trans{S S1 j:Int->Prop}{l l1 l2:Int}{f q s:Bool}(h1:iw S1 l f l1 q)(h2:iw j l1 q l2 s)(u:∀d,S d↔S1 d\/j d):iw S l f l2 s where
 le:=ag5 h2.le h1.le
 YO h:=h2.YO (h1.YO h)
 src:=by
  rcases h2.src with⟨rfl,rfl⟩|⟨h,k⟩
  .rcases h1.src with h|⟨h,k⟩
   .simp_all
   .simp_all
  .simp_all
 low d hd:=by
  have b:=h2.le;rcases(u d).1 hd with k|k
  .obtain⟨a1,m⟩:=h1.low d k;exact⟨ap,λe=>h2.YO (m e)⟩
  .obtain⟨a1,m⟩:=h2.low d k;refine⟨a1,λe=>?_⟩;rcases ahy l1 d with g|g
   .rcases h1.src with⟨rfl,rfl⟩|⟨h,-⟩
    .omega
    .exact h2.YO h
   .simp_all
theorem iw.iff{S S':Int->Prop}{l j:Int}{f b:Bool}(h:iw S l f j b)(g:∀d,S' d↔S d):iw S' l f j b:=
 ⟨h.le,h.YO,by rcases h.src with k|⟨k,k'⟩;exact .inl k;exact .inr ⟨k,(g _).2 k'⟩,λd hd=>h.low d ((g d).1 hd)⟩
theorem iw.one{S:Int->Prop}{l x:Int}{f:Bool}(g:S x)(b:∀d,S d->x<=d):iw S l f (if x<=l then x else l) (f||decide (x<=l)) where
 le:=by split<;>omega
 YO h:=by rw[h];rfl
 src:=by
  grind
 low d hd:=by
  grind
def LH(H:an)(g:Tg)(ps:List aO)(n least:Int)(found:Bool):Prop:=(∃a,H[0]?=aa (.box [.f (sl g (aQ ps))] a))/\H[1]?=aa (.box [.f (fi n)] 0)/\H[2]?=aa (.box [.f (fi least)] 0)/\H[3]?=aa (.box [.f (.bool found)] 0)/\
 H[4]?=aa (.box [.cl Ac [.ptr 0 0 0,.ptr 4 0 0,.ptr 1 0 0,.ptr 2 0 0,.ptr 3 0 0]] 0)
theorem LH.push{H:an}{g:Tg}{ps:List aO}{n least:Int}{found:Bool}(h:LH H g ps n least found)(J:an):LH (H++J) g ps n least found:=by
 obtain⟨⟨a,h0⟩,h1,h2,h3,h4⟩:=h;refine⟨⟨a,?_⟩,?_,?_,?_,?_⟩
 .rw[AI (aj h0)];exact h0
 .rw[AI (aj h1)];exact h1
 .rw[AI (aj h2)];exact h2
 .rw[AI (aj h3)];exact h3
 .rw[AI (aj h4)];exact h4
theorem Ma(g:Tg)(ps:List aO)(H:an)(n least:Int)(found:Bool)(r s:Int)(f:LH H g ps n least found)(A:0<=r)(B:r<s)(E:s<=1000000)(h:0<=n)(o:n<=1000000000000) :
  ∃v H',Ev tab (.fn Ac) [vi ps.length,Yx r s,.c (.ptr 0 0 0),.c (.ptr 4 0 0),.c (.ptr 1 0 0),.c (.ptr 2 0 0),.c (.ptr 3 0 0)] H v H'/\
   (v=.t []/\LH H' g ps n (if C1 n r s<=least then C1 n r s else least) (found||decide (C1 n r s<=least))/\∀i:Nat,5<=i->i<H.length->H'[i]?=H[i]?):=by
 obtain⟨⟨a0,Y⟩,Z,c,e,L⟩:=f;obtain⟨u1,-,u3,-⟩:=Jf A B h;have l4:=aj L;refine de rfl rfl λQ O=>?_;have m:∀(t:T) (q:an) (y:Int),y=C1 n r s->t.g 8=.c (.ptr H.length 0 0)->t.g 4=.c (.ptr 1 0 0)->t.g 5=.c (.ptr 2 0 0)->t.g 6=.c (.ptr 3 0 0)->LH q g ps n least found->q[H.length]?=aa (.box [.f (fi y),.f (fi s)] 0)->(∀i:Nat,5<=i->i<H.length->q[i]?=H[i]?)->
   WP tab Ac ab [.code OJ] ⟨t,[],q⟩ Q:=by
  rintro t q _ rfl K W J X j U l;have q1:=j.2.1;have S:=j.2.2.1;have q3:=j.2.2.2.1;apply ai;simp[K,W,J,U,q1,S,u1];by_cases k:C1 n r s<=least
  .refine aw (by simp[k]) ?_;have F:(q.set 2 (.box [.f (fi (C1 n r s))] 0))[3]?=aa (.box [.f (.bool found)] 0):=by rw[sh ce];exact q3
   refine aq (.inl rfl) ?_;simp[K,J,X,U,S,F];refine cX (O _ _ _ rfl rfl ⟨rfl,?_,λi hi z=>by rw[sh ap,sh ap];exact l i hi z⟩);obtain⟨⟨a0,A⟩,B,E,M,N⟩:=j;refine⟨⟨a0,?_⟩,?_,?_,?_,?_⟩
   .rw[sh ce,sh ce];exact A
   .rw[sh ce,sh ce];exact B
   .rw[sh ce,BY (aj E)];simp[k]
   .rw[BY (by rw[List.length_set];exact aj M)];simp[k]
   .rw[sh ce,sh ce];exact N
  .refine bE (by simp[k]) ?_;refine cX (O _ _ _ rfl rfl ⟨rfl,?_,l⟩);simpa[k]using j
 apply ai;simp;have d:=LH.push (H:=H) (g:=g) (ps:=ps) (n:=n) (least:=least) (found:=found) ⟨⟨a0,Y⟩,Z,c,e,L⟩ [.box [.f (fi r),.f (fi s)] 0];have x:(H++[bO.box [.f (fi r),.f (fi s)] 0])[H.length]?=aa (.box [.f (fi r),.f (fi s)] 0):=by simp
 have u:∀i:Nat,5<=i->i<H.length->(H++[bO.box [.f (fi r),.f (fi s)] 0])[i]?=H[i]?:=λi _ z=>AI z;generalize H++[bO.box [.f (fi r),.f (fi s)] 0]=q at d x u ⊢;obtain⟨a1,r0⟩:=d.1;have I:=d.2.1;apply au;apply ai;simp[r0];refine bE bv ?_;apply au;apply ai;by_cases k:r<n
 .simp[I,x,k,show 0<s by omega];refine aw bv ?_;have w:C1 n r s=r+(n-r+s-1) / s*s:=by unfold C1;rw[bZ k]
  have p:=e9 (a:=n-r+s-1) (b:=s) ap ap ap;have b1:(n-r+s-1) / s*s=C1 n r s-r:=by omega
  refine aq (.inl rfl) ?_;simp[I,x,aZ (n:=n-r),aZ (n:=n-r+s),aZ (n:=n-r+s-1),p,b1,aZ (n:=C1 n r s-r),aZ (n:=r+(C1 n r s-r))];refine m _ _ _ (show r+(C1 n r s-r)=_ by omega) bv bv bv bv ?_ (BY (aj x)) λi hi z=>by rw[sh ap];exact u i hi z
  obtain⟨⟨a1,A⟩,B,E,M,N⟩:=d;refine⟨⟨a1,?_⟩,?_,?_,?_,?_⟩
  all_goals (rw[sh ap];assumption)
 .simp[I,x,k];refine bE bv ?_;exact m _ _ r (by unfold C1;rw[ct k]) bv bv bv bv d x u
def gE:List aO->Int
 |[]=>1| p::l=>p.aT*gE l
theorem uR{l:List aO}(h:∀p∈l,Mod p):1<=gE l:=by
 induction l with
 |nil=>exact ahw _
 |cons p l j=>
  have b:=(bC (h p ago).ok).2.2.1;have d:=j λq g=>h q (agr _ g);have:=ah5 b d ce ap;simp only[gE];omega
def wZ(ps:List aO)(n a s d:Int):Prop:=n<=d/\s ∣ d-a/\∀p∈ps,kB p d
theorem acG(g:Tg)(ps:List aO)(hM:∀p∈ps,Mod p)(m_:ps.length<=64)(n:Int)(hn:0<=n)(i9:n<=1000000000000) :
  ∀(k i:Nat),i+k=ps.length->∀(H:an) (least:Int) (found:Bool) (a s:Int),LH H g ps n least found->0<=a->a<s->s*gE (ps.drop i)<=1000000->
  ∃v H',Ev tab (.fn Ac) [vi i,Yx a s,.c (.ptr 0 0 0),.c (.ptr 4 0 0),.c (.ptr 1 0 0),.c (.ptr 2 0 0),.c (.ptr 3 0 0)] H v H'/\
   (v=.t []/\∃F z,LH H' g ps n F z/\iw (wZ (ps.drop i) n a s) least found F z/\∀i:Nat,5<=i->i<H.length->H'[i]?=H[i]?):=by
 intro k;induction k with
 |zero=>
  intro i hi H least found a s hH a0 a1 hs;have:i=ps.length:=by omega
  subst this;rw[ahK]at hs ⊢;simp only[gE,Int.mul_one]at hs;obtain⟨v,H',J,rfl,hL,hk⟩:=Ma g ps H n least found a s hH a0 a1 hs hn i9;obtain⟨u1,u2,u3,u4⟩:=Jf (n:=n) a0 a1 hn;exact⟨_,H',J,rfl,_,_,hL,iw.one ⟨u1,u2,λp hp=>absurd hp (List.not_mem_nil)⟩ (λd hd=>u4 d hd.1 hd.2.1),hk⟩
 |succ k ih=>
  intro i hi H least found a s hH a0 a1 hs;have u:i<ps.length:=by omega
  obtain⟨p,hp⟩:=aI (ps[i]);have i_:p∈ps:=hp▸IN u;have L:=hM p i_;obtain⟨f0,f1,p0,p1,CA,-⟩:=bC L.ok;have c_:ps.drop i=p::ps.drop (i+1):=by rw[hp];exact ags u
  have j5:=uR (l:=ps.drop (i+1)) λq hq=>hM q (List.mem_of_mem_drop hq);have n9:s*p.aT*gE (ps.drop (i+1))<=1000000:=by
   rw[c_]at hs;simp only[gE,<-aia]at hs;exact hs
  have n8:1<=s:=by omega
  have l_:s<=s*p.aT:=by
   have:=agy p0 (show 0<=s by omega);omega
  have m9:s*p.aT<=1000000:=by
   have:=agy j5 (show 0<=s*p.aT by omega);omega
  refine de rfl rfl λQ hQ=>?_;have E:=λH:an=>cf (H:=H) (bQ ps) (dd (l:=ps) (j:=i) u);have m:=λH:an=>jU (H:=H) (k:=3) (bQ ps) (dd (l:=ps) (j:=i) u) rfl;have B:=λH:an=>jU (H:=H) (k:=2) (bQ ps) (dd (l:=ps) (j:=i) u) rfl;have A:=λH:an=>bz (H:=H) (g:=g) (rows:=aQ ps) (sz:=4) (k:=.i64) (i:=i) ap (by simpa using u);rw[<-hp]at E m B;simp[aO.row]at E A m B;have l4:=aj hH.2.2.2.2;apply ai;simp;have a_:=hH.push [.box [.f (fi a),.f (fi s)] 0];have K:(H++[bO.box [.f (fi a),.f (fi s)] 0])[H.length]?=aa (.box [.f (fi a),.f (fi s)] 0):=by simp
  have d_:∀i:Nat,5<=i->i<H.length->(H++[bO.box [.f (fi a),.f (fi s)] 0])[i]?=H[i]?:=λi _ hl=>AI hl;obtain⟨b8,i7⟩:=aI (H.length);rw[<-i7]at K ⊢;generalize H++[bO.box [.f (fi a),.f (fi s)] 0]=HH at a_ K d_ ⊢;obtain⟨q,q0⟩:=a_.1;apply au;apply ai;simp[q0];refine aw (by simp[u]) ?_;apply au;apply ai;simp[q0,A,m];refine bS p.bF.length (λj t H'=>t.g 0=vi i/\t.g 2=.c (.ptr 0 0 0)/\t.g 3=.c (.ptr 4 0 0)/\t.g 8=.c (.ptr b8 0 0)/\t.g 21=.c (.f (sl p.cg (ints p.bF)))/\H'[b8]?=aa (.box [.f (fi a),.f (fi s)] 0)/\
   ∃l' U,LH H' g ps n l' U/\iw (λd=>wZ (ps.drop (i+1)) n a s d/\∃c∈p.bF.take j,p.aT ∣ d-jY p c) least found l' U/\∀x:Nat,5<=x->x<H.length->H'[x]?=H[x]?) ap ce ce bv bv
   ⟨bv,bv,bv,bv,bv,K,_,_,a_,iw.none bv,d_⟩ ?_ ?_
  .rintro j t H' hj ⟨g0,g2,g3,g8,O,K,l',U,I,hP,b⟩ ha hb next
   have hm:=wK L (IN hj);obtain⟨j9,j_,-⟩:=tA L hm.1 hm.2;have M:=yC p L p.bF[j] hm.1 hm.2;simp[aO.row]at M;have j8:p.bF.take (j+1)=p.bF.take j++[p.bF[j]]:=by rw[agv,By hj];rfl
   have e_:∀d,(wZ (ps.drop (i+1)) n a s d/\∃c∈p.bF.take (j+1),p.aT ∣ d-jY p c)↔(wZ (ps.drop (i+1)) n a s d/\∃c∈p.bF.take j,p.aT ∣ d-jY p c)\/(wZ (ps.drop (i+1)) n a s d/\p.aT ∣ d-jY p p.bF[j]):=by
    intro d;rw[j8];simp only[agl,If];constructor
    .rintro⟨h,c,hc|rfl,e⟩
     .exact .inl ⟨h,c,hc,e⟩
     .exact .inr ⟨h,e⟩
    .rintro(⟨h,c,hc,e⟩|⟨h,e⟩)
     .exact⟨h,c,.inl hc,e⟩
     .exact⟨h,_,.inr rfl,e⟩
   obtain⟨a9,e0⟩:=I.1;have e4:=I.2.2.2.2;have k_:=aj K;refine ay ?_;apply ai;simp[ha,O,bz,hj,dZ];rcases Uk a0 a1 ap j9 j_ L.Zr with⟨a',N,f_,g_,j6,d9,y⟩|⟨c9,y⟩
   .apply ai;simp[g0,g2,g8,K,e0,A,E,B,M,y];have j7:N*gE (ps.drop (i+1))<=1000000:=by
     have:=agI j6 (show 0<=gE (ps.drop (i+1)) by omega);omega
    obtain⟨v,H2,J,rfl,l2,f2,h_,i6,b_⟩:=ih (i+1) ap (H'++[.box [.f (fi a'),.f (fi N)] 0]) l' U a' N (I.push _) f_ g_ j7;have J:=J.eq;have k4:(H'++[bO.box [.f (fi a'),.f (fi N)] 0])[4]?=aa (.box [.cl Ac [.ptr 0 0 0,.ptr 4 0 0,.ptr 1 0 0,.ptr 2 0 0,.ptr 3 0 0]] 0):=by rw[AI (aj e4)];exact e4
    have kN:(H'++[bO.box [.f (fi a'),.f (fi N)] 0])[H'.length]?=aa (.box [.f (fi a'),.f (fi N)] 0):=by simp
    have kl:(H'++[bO.box [.f (fi a'),.f (fi N)] 0]).length=H'.length+1:=by simp
    have kb:(H'++[bO.box [.f (fi a'),.f (fi N)] 0])[b8]?=aa (.box [.f (fi a),.f (fi s)] 0):=by rw[AI (aj K)];exact K
    have kk:∀x:Nat,5<=x->x<H.length->(H'++[bO.box [.f (fi a'),.f (fi N)] 0])[x]?=H[x]?:=λx h5 hx=>by
     rw[AI ap];exact b x h5 hx
    apply au;refine aq (.inl rfl) ?_;simp;generalize H'++[bO.box [.f (fi a'),.f (fi N)] 0]=HA at J k4 kN kl kb kk b_ ⊢;refine aw bv ?_;refine aq (.inl rfl) ?_;have i8:IntKind.i64.wrap ((i:Int)+1)=((i+1:Nat):Int):=by rw[aZ];rfl
    simp[g0,g3,k4,kN,i8,cr];rw[show(↑i+1:Int)=((i+1:Nat):Int) from rfl];simp only[J];simp;refine av (next _ _ ?_ (by simp[ha]) (by simp[hb]));refine⟨by simp[g0],by simp[g2],by simp[g3],by simp[g8],by simp[O],?_,l2,f2,h_,?_,?_⟩
    .rw[b_ b8 ap ap];exact kb
    .refine iw.trans hP (i6.iff (S':=λd=>wZ (ps.drop (i+1)) n a s d/\p.aT ∣ d-jY p p.bF[j]) λd=>?_) e_;unfold wZ;rw[<-d9 d];constructor
     .rintro⟨⟨W,X,Y⟩,Z⟩;exact⟨W,⟨X,Z⟩,Y⟩
     .rintro⟨W,⟨X,Z⟩,Y⟩;exact⟨⟨W,X,Y⟩,Z⟩
    .intro x h5 hx;rw[b_ x h5 ap];exact kk x h5 hx
   .apply ai;simp[g0,g2,g8,K,e0,A,E,B,M,y];apply au;refine aq (.inl rfl) ?_;simp;refine bE bv ?_;refine av (next _ _ ?_ (by simp[ha]) (by simp[hb]));refine⟨by simp[g0],by simp[g2],by simp[g3],by simp[g8],by simp[O],?_,l',U,I.push _,iw.trans hP (iw.none (S:=λd=>wZ (ps.drop (i+1)) n a s d/\p.aT ∣ d-jY p p.bF[j]) λd hd=>c9 d ⟨hd.1.2.1,hd.2⟩) e_,?_⟩
    .rw[AI ap];exact K
    .intro x h5 hx;rw[AI ap];exact b x h5 hx
  .rintro t H' ⟨g0,g2,g3,g8,O,K,l',U,I,hP,b⟩ - -;rw[agu]at hP;refine az (hQ _ _ _ rfl rfl ⟨rfl,l',U,I,hP.iff λd=>?_,b⟩);rw[c_];unfold wZ;simp only[agA,forall_eq_or_imp];constructor
   .rintro⟨W,X,Y,Z⟩;exact⟨⟨W,X,Z⟩,Y⟩
   .rintro⟨⟨W,X,Z⟩,Y⟩;exact⟨W,X,Y,Z⟩
theorem Bc{p:aO}:∀{l:List aO},p∈l->p.aT ∣ gE l
 |q::l,h=>by
  simp only[gE];rcases agA.1 h with rfl|h
  .simp
  .exact ag0 (Bc h) (ait _ _)
theorem L_{p:aO}{d k:Int}(h:kB p d)(g:p.aT ∣ k):kB p (d-k):=by
 obtain⟨c,b,e⟩:=h;refine⟨c,b,?_⟩;have:=ahT e g
 grind
theorem AP{ps:List aO}(g:∀p∈ps,Mod p){m d:Int}(h:∀p∈ps,kB p d)(s:m<=d):∃d',m<=d'/\d'<m+gE ps/\∀p∈ps,kB p d':=by
 have u:=uR g;have j:=agB (d-m) (gE ps);have l:=agW (d-m) (show gE ps≠0 by omega);have q:=agL (d-m) (show 0<gE ps by omega);refine⟨d-gE ps*((d-m) / gE ps),ap,ap,λp b=>L_ (h p b) (ag0 (Bc b) (Int.dvd_mul_right _ _))⟩
def XN(ps:List aO)(m d:Int):Prop:=m<=d/\(∀p∈ps,kB p d)/\d<m+gE ps/\∀d',m<=d'->(∀p∈ps,kB p d')->d<=d'
theorem T6(g:Tg)(ps:List aO)(x:∀p∈ps,Mod p)(K:ps.length<=64)(U:gE ps<=1000000)(n m:Int)(O:m=max n (dz ps))(I:m<=1000000000000) :
  (∃d,XN ps m d/\bg tab Py [.c (.f (sl g (aQ ps))),vi n]=Eq (.t [vi d,vb ae]))\/
  ((∀d,m<=d->¬ ∀p∈ps,kB p d)/\bg tab Py [.c (.f (sl g (aQ ps))),vi n]=Eq (.t [vi 0,vb ag])):=by
 have s:=Sh g ps K;have W:=qR ps;have S:=uR x;obtain⟨v,H',b,rfl,z,N,E,y,-⟩:=acG g ps x K m ap I ps.length 0 ap [.box [.f (sl g (aQ ps))] 0,.box [.f (fi m)] 0,.box [.f (fi 1152921504606846976)] 0,.box [.f (.bool ag)] 0,.box [.cl Ac [.ptr 0 0 0,.ptr 4 0 0,.ptr 1 0 0,.ptr 2 0 0,.ptr 3 0 0]] 0]
  1152921504606846976 ag 0 1 ⟨⟨0,rfl⟩,rfl,rfl,rfl,rfl⟩ ce ce (by rw[ahi];omega)
 rw[ahi]at y;have H:∀d,wZ ps m 0 1 d↔m<=d/\∀p∈ps,kB p d:=λd=>⟨λh=>⟨h.1,h.2.2⟩,λh=>⟨h.1,Int.one_dvd _,h.2⟩⟩
 have j:max n (dz ps)=m:=O.symm;have b:=b.eq;simp only[show((0:Nat):Int)=0 from rfl]at b;cases N with
 |true=>
  left;have q:wZ ps m 0 1 z:=by
   rcases y.src with⟨_,h⟩|⟨_,h⟩
   .cases h
   .omega
  have l:∀d',m<=d'->(∀p∈ps,kB p d')->z<=d':=λd' A B=>(y.low d' ((H d').2 ⟨A,B⟩)).1;obtain⟨L,M⟩:=(H z).1 q;obtain⟨u,n1,n2,J⟩:=AP x M L;refine⟨z,⟨L,M,by have:=l u n1 J;omega,l⟩,bg.eq (bK rfl rfl λQ F=>?_)⟩;apply ai;simp;apply ai;simp[s,j];apply ai;simp;apply ai;simp;apply ai;simp;apply ai;simp[cr,b];apply au;apply ai;simp[E.2.2.2.1];refine bE bv ?_;apply ai;simp[E.2.2.1];refine az (F _ _ ?_);simp
 |false=>
  right;refine⟨λd A B=>?_,bg.eq (bK rfl rfl λQ F=>?_)⟩
  .obtain⟨u,n1,n2,J⟩:=AP x B A;have:=(y.low u ((H u).2 ⟨n1,J⟩)).2 ap;simp_all
  .apply ai;simp;apply ai;simp[s,j];apply ai;simp;apply ai;simp;apply ai;simp;apply ai;simp[cr,b];apply au;apply ai;simp[E.2.2.2.1];refine aw bv ?_;apply ai;simp;refine az (F _ _ ?_);simp
def qW:List (Int × Int)->List aO->Prop
 |_,[]=>True| ch,p::l=>∃c∈p.bF,(∀x∈ch,(ag6 p.aT x.2:Int) ∣ jY p c-x.1)/\qW (ch++[(jY p c,p.aT)]) l
theorem CG{d:Int}:∀(l:List aO) (ch:List (Int × Int)),(∀x∈ch,x.2 ∣ d-x.1)->(∀p∈l,kB p d)->qW ch l
 |[],_,_,_=>trivial
 |p::l,ch,u,g=>by
  obtain⟨c,b,hd⟩:=g p ago;refine⟨c,b,λx j=>?_,CG l _ (λx j=>?_) λq v=>g q (agr _ v)⟩
  .have m:=ag0 (ah7 p.aT x.2) (u x j);have s:=ag0 (ah0 p.aT x.2) hd;have:=ahT m s
   grind
  .grind
def RH(B:an)(H:an)(g:Tg)(ps:List aO)(b:List Int):Prop:=(∃a,H[B.length]?=aa (.box [.f (sl g (aQ ps))] a))/\H[B.length+1]?=aa (.box (b.map λx=>C.f (fi x)) 0)/\H[B.length+2]?=aa (.box [.sl (B.length+1) 0 ps.length ps.length 0 1] 0)/\
 H[B.length+3]?=aa (.box [.cl PB [.ptr B.length 0 0,.ptr (B.length+2) 0 0,.ptr (B.length+3) 0 0]] 0)/\∀i:Nat,i<B.length->H[i]?=B[i]?
def Cho(ps:List aO)(b:List Int)(ch:List (Int × Int)):Prop:=∀j,(h:j<ch.length)->b[j]?=aa ch[j].1/\(∃p,ps[j]?=aa p/\p.aT=ch[j].2)/\0<=ch[j].1/\ch[j].1<=27720
theorem aff(B:an){o:Nat}(ho:o=B.length)(g:Tg)(ps:List aO)(hM:∀p∈ps,Mod p)(y6:ps.length<=64) :
  ∀(k i:Nat),i+k=ps.length->∀(H:an) (W:List Int) (ch:List (Int × Int)),RH B H g ps W->W.length=ps.length->ch.length=i->Cho ps W ch->
  ∃v H',Ev tab (.fn PB) [vi i,.c (.ptr o 0 0),.c (.ptr (o+2) 0 0),.c (.ptr (o+3) 0 0)] H v H'/\
   ∃b,v=vb b/\(b=ae↔qW ch (ps.drop i))/\∃ls',RH B H' g ps ls'/\ls'.length=ps.length/\ls'.take i=W.take i:=by
 intro k;induction k with
 |zero=>
  intro i hi H W ch hH i6 l_ u;have:i=ps.length:=by omega
  subst this;obtain⟨q,q0⟩:=hH.1;rw[<-ho]at q0;refine de rfl rfl λQ hQ=>?_;apply ai;simp;refine nM ?_;apply au;apply ai;simp[q0];refine aw bv ?_;apply ai;simp;exact az (hQ _ _ _ rfl (dy bv) ⟨ae,rfl,by rw[ahK];simp[qW],W,hH,i6,rfl⟩)
 |succ k ih=>
  intro i hi H W ch hH i6 l_ u;have A:i<ps.length:=by omega
  obtain⟨p,hp⟩:=aI (ps[i]);have t6:p∈ps:=hp▸IN A;have K:=hM p t6;obtain⟨f0,f1,p0,p1,CA,-⟩:=bC K.ok;have r6:ps.drop i=p::ps.drop (i+1):=by rw[hp];exact ags A
  have S:=λH:an=>cf (H:=H) (bQ ps) (dd (l:=ps) (j:=i) A);have m:=λH:an=>jU (H:=H) (k:=3) (bQ ps) (dd (l:=ps) (j:=i) A) rfl;have N:=λH:an=>jU (H:=H) (k:=2) (bQ ps) (dd (l:=ps) (j:=i) A) rfl;have z:=λH:an=>bz (H:=H) (g:=g) (rows:=aQ ps) (sz:=4) (k:=.i64) (i:=i) ap (by simpa using A);rw[<-hp]at S m N;simp[aO.row]at S z m N;obtain⟨q,q0⟩:=hH.1;rw[<-ho]at q0;refine de rfl rfl λQ hQ=>?_;apply ai;simp;refine nM ?_;apply au;apply ai;simp[q0];refine aD ge (aR ?_);refine au (sZ ?_);apply au;apply ai;simp[q0,z,m];obtain⟨Ok,j8⟩:∃Ok:Int->Prop,Ok=λc=>(∀x∈ch,(ag6 p.aT x.2:Int) ∣ jY p c-x.1)/\qW (ch++[(jY p c,p.aT)]) (ps.drop (i+1)):=⟨_,rfl⟩
  have u_:∀c,Ok c↔((∀x∈ch,(ag6 p.aT x.2:Int) ∣ jY p c-x.1)/\qW (ch++[(jY p c,p.aT)]) (ps.drop (i+1))):=λc=>by rw[j8]
  have j_:qW ch (ps.drop i)↔∃c∈p.bF,Ok c:=by rw[r6,j8];rfl
  refine bS p.bF.length (λj t H'=>t.g 0=vi i/\t.g 1=.c (.ptr o 0 0)/\t.g 2=.c (.ptr (o+2) 0 0)/\t.g 3=.c (.ptr (o+3) 0 0)/\t.g 18=.c (.f (sl p.cg (ints p.bF)))/\
   (∀c∈p.bF.take j,¬ Ok c)/\∃ls',RH B H' g ps ls'/\ls'.length=ps.length/\ls'.take i=W.take i) ap ce ce bv bv ⟨bv,bv,bv,bv,bv,bv,W,hH,i6,rfl⟩ ?_ ?_
  .rintro j t H' hj ⟨J,Y,g2,g3,d,i8,ls',hR,E,F⟩ ha hb next
   have hm:=wK K (IN hj);obtain⟨t_,u9,-⟩:=tA K hm.1 hm.2;have O:=yC p K p.bF[j] hm.1 hm.2;simp[aO.row]at O;have y7:=K.Zr;have w_:p.bF.take (j+1)=p.bF.take j++[p.bF[j]]:=by rw[agv,By hj];rfl
   have d9:¬ Ok p.bF[j]->∀c∈p.bF.take (j+1),¬ Ok c:=by
    grind
   obtain⟨r,hr⟩:=aI (jY p p.bF[j]);rw[<-hr]at t_ u9 O;obtain⟨q',j5⟩:=hR.1;have X:=hR.2.1;have j6:=hR.2.2.1;have t7:=hR.2.2.2.1;have t8:=hR.2.2.2.2;rw[<-ho]at j5 X j6 t7 t8;have n9:∀j,(h:j<ch.length)->ls'[j]?=aa ch[j].1:=λj h=>by
    have h1:(ls'.take i)[j]?=ls'[j]?:=List.getElem?_take_of_lt ap;have h2:(W.take i)[j]?=W[j]?:=List.getElem?_take_of_lt ap;rw[<-h1,F,h2];exact(u j h).1
   refine ay ?_;apply ai;simp[ha,d,bz,hj,dZ];apply ai;simp[J,Y,j5,z,S,O];apply au;apply ai;simp[J];refine bS i (λn t H2=>(t.g 0=vi i/\t.g 1=.c (.ptr o 0 0)/\t.g 2=.c (.ptr (o+2) 0 0)/\t.g 3=.c (.ptr (o+3) 0 0)/\t.g 18=.c (.f (sl p.cg (ints p.bF)))/\t.g 20=vi j/\t.g 19=vi p.bF.length/\t.g 8=vi r)/\H2=H'/\∀x∈ch.take n,(ag6 p.aT x.2:Int) ∣ r-x.1)
    ap ce ce bv bv ⟨⟨by simp[J],by simp[Y],by simp[g2],by simp[g3],by simp[d],by simp[ha],by simp[hb],bv⟩,rfl,bv⟩ ?_ ?_
   .rintro n t H2 hn ⟨⟨J,Y,g2,g3,d,a_,Z,g8⟩,f_,c_⟩ k_ r5 nx;rw[f_];have c9:n<ps.length:=by omega
    have i7:n<ch.length:=by omega
    obtain⟨-,⟨pn,n_,i9⟩,x0,x1⟩:=u n i7;have s7:=n9 n i7;obtain⟨x,hx⟩:=aI (ch[n]);rw[<-hx]at s7 i9 x0 x1;have d_:ps[n]=pn:=by rw[By c9]at n_;exact aiy n_
    have q_:=hM pn (d_▸IN c9);obtain⟨-,-,z0,z1,-⟩:=bC q_.ok;rw[i9]at z0 z1;have s:=λH:an=>jU (H:=H) (k:=2) (bQ ps) (dd (l:=ps) (j:=n) c9) rfl;have L:=λH:an=>bz (H:=H) (g:=g) (rows:=aQ ps) (sz:=4) (k:=.i64) (i:=n) ap (by simpa using c9);rw[d_]at s;simp[aO.row,i9]at s L;have M:bG H' 1 ab (.c (.sl (o+1) 0 ps.length ps.length 0 1)) (vi n)=aa (.c (.ptr (o+1) n 0)):=by
     simp[bG,fG,X,E];omega
    have n8:aV H' ab (.c (.ptr (o+1) n 0))=aa (vi x.1):=by
     have hd:(ls'.map λy=>C.f (fi y)).drop n=C.f (fi x.1) ::(ls'.map λy=>C.f (fi y)).drop (n+1):=by
      rw[ags ge,aib];simp_all
     simp_all
    have r_:aV H' ab (.c (.ptr (o+2) 0 0))=aa (.c (.sl (o+1) 0 ps.length ps.length 0 1)):=by simp[j6]
    have r9:aV H' ab (.c (.ptr o 0 0))=aa (.c (.f (sl g (aQ ps)))):=by simp[j5]
    obtain⟨gg,x9⟩:=aI ((ag6 p.aT x.2:Int):Int);have x_:ag6 p.aT x.2=ahC p.aT.toNat x.2.toNat:=by
     show ahC p.aT.natAbs x.2.natAbs=_
     grind
    have x6:0<gg:=by
     have:=ahv x.2 (show p.aT≠0 by omega);omega
    have m9:bg tab Ae [vi p.aT,vi x.2]=Eq (vi gg):=by
     have h:=xM (a:=p.aT.toNat) (b:=x.2.toNat) ap ap
     grind
    have p_:=aZ (n:=r-x.1);have o_:cT .rem (vi (r-x.1)) (vi gg)=aa (vi ((r-x.1).tmod gg)):=dp ap;have U:ch.take (n+1)=ch.take n++[x]:=by rw[agv,By i7,hx];rfl
    refine ay ?_;apply ai;simp[k_];apply ai;simp[J,Y,g2,g8,r9,r_,M,n8,z,N,L,s,m9,p_,o_,-ax];by_cases hd:gg ∣ r-x.1
    .have i_:(r-x.1).tmod gg=0:=ain hd;refine bE (by simp[i_]) ?_;refine av (nx _ _ ?_ (by simp[k_]) (by simp[r5]));refine⟨⟨by simp[J],by simp[Y],by simp[g2],by simp[g3],by simp[d],by simp[a_],by simp[Z],by simp[g8]⟩,rfl,λy hy=>?_⟩
     grind
    .have i_:¬ (r-x.1).tmod gg=0:=λe=>hd (aiD e);refine aw (by simp[i_]) ?_;refine bJ rfl (next _ _ ?_ (by simp[a_]) (by simp[Z]));refine⟨by simp[J],by simp[Y],by simp[g2],by simp[g3],by simp[d],d9 ?_,ls',hR,E,F⟩
     grind
   .rintro t H2 ⟨⟨J,Y,g2,g3,d,a_,Z,g8⟩,f_,c_⟩ - -;rw[f_];rw[agw ap]at c_;have M:bG H' 1 ab (.c (.sl (o+1) 0 ps.length ps.length 0 1)) (vi i)=aa (.c (.ptr (o+1) i 0)):=by
     simp[bG,fG,X,E];omega
    have e_:cY H' (.ptr (o+1) i 0) [.f (fi r)]=aa (H'.set (o+1) (.box ((ls'.set i r).map λy=>C.f (fi y)) 0)):=by
     simp only[cY,X];rw[bZ ge,yu ge,List.map_set]
    have s_:(H'.set (o+1) (.box ((ls'.set i r).map λy=>C.f (fi y)) 0))[o+3]?=H'[o+3]?:=sh ap;have v_:=aj X;have g_:RH B (H'.set (o+1) (.box ((ls'.set i r).map λy=>C.f (fi y)) 0)) g ps (ls'.set i r):=by
     unfold RH
     grind
    have h_:Cho ps (ls'.set i r) (ch++[(r,p.aT)]):=by
     intro y hy;rw[aft,List.length_singleton]at hy;by_cases p9:y<ch.length
     .rw[List.getElem_append_left p9,sh ap];obtain⟨-,h2,h3⟩:=u y p9
      grind
     .grind
    obtain⟨v,H3,b_,b,rfl,x8,I,j9,m_,U⟩:=ih (i+1) ap _ _ (ch++[(r,p.aT)]) g_ (by simpa using E) (by simp[l_]) h_;have b_:=b_.eq;have j7:=g_.2.2.2.1;rw[<-ho]at j7;generalize H'.set (o+1) (.box ((ls'.set i r).map λy=>C.f (fi y)) 0)=HN at e_ b_ j7 s_ g_;have r7:IntKind.i64.wrap ((i:Int)+1)=((i+1:Nat):Int):=by rw[aZ];rfl
    apply ai;simp[J,g2,g8,j6,M,e_,-bw];apply ai;simp[J,g3,j7,r7,cr];rw[show(↑i+1:Int)=((i+1:Nat):Int) from rfl];simp only[b_];simp;cases b with
    |true=>
     refine aw bv ?_;apply ai;simp;refine az (hQ _ _ _ rfl (dy bv) ⟨ae,rfl,?_,I,j9,m_,?_⟩)
     .grind
     .have h1:(I.take (i+1)).take i=I.take i:=by rw[aik,ahQ ap]
      rw[<-h1,U,aik,ahQ ap,List.take_set_of_le ap,F]
    |false=>
     refine bE bv ?_;refine av (next _ _ ?_ (by simp[a_]) (by simp[Z]));refine⟨by simp[J],by simp[Y],by simp[g2],by simp[g3],by simp[d],d9 ?_,I,j9,m_,?_⟩
     .simp_all
     .have h1:(I.take (i+1)).take i=I.take i:=by rw[aik,ahQ ap]
      rw[<-h1,U,aik,ahQ ap,List.take_set_of_le ap,F]
  .rintro t H' ⟨J,Y,g2,g3,d,i8,ls',hR,E,F⟩ - -;rw[agu]at i8;apply ai;simp;refine az (hQ _ _ _ rfl (dy bv) ⟨ag,rfl,?_,ls',hR,E,F⟩);rw[j_];constructor
   .intro h;cases h
   .rintro⟨c,hc,h⟩;exact absurd h (i8 c hc)
theorem gV{n b:Nat}(g:n<=1100000)(d:b<=4096):cD n b=ae:=by
 have h:(2*n+768)*b<=2200768*4096:=Nat.mul_le_mul ap d;simp[cD];omega
theorem Mx(g:Tg)(ps:List aO)(B:∀p∈ps,Mod p)(I:1<=ps.length)(F:ps.length<=64):∃b,(b=ae↔qW [] ps)/\Kf tab PA [.c (.f (sl g (aQ ps)))] (vb b):=by
 obtain⟨b,y⟩:∃b:Bool,b=ae↔qW [] ps:=⟨open Classical in decide (qW [] ps),bv⟩
 refine⟨b,y,dh rfl rfl λH Q E=>?_⟩;have q:RH H (H++[.box [.f (sl g (aQ ps))] 0,.box (List.replicate ps.length (C.f (fi 0))) 0,.box [.sl (H.length+1) 0 ps.length ps.length 0 1] 0,.box [.cl PB [.ptr H.length 0 0,.ptr (H.length+2) 0 0,.ptr (H.length+3) 0 0]] 0]) g ps (List.replicate ps.length 0):=by
  refine⟨⟨0,bv⟩,bv,bv,bv,λi hi=>AI hi⟩
 obtain⟨v,H',d,z,rfl,m,ls',l,-⟩:=aff H rfl g ps B F ps.length 0 ap _ _ [] q bv rfl (λj h=>absurd h (Nat.not_lt_zero j));rw[ahi,<-y]at m;have s:z=b:=by rw[Bool.eq_iff_iff];exact m
 subst s;have d:=d.eq;simp only[show((0:Nat):Int)=0 from rfl]at d;apply ai;simp;have x:cD ps.length 8=ae:=gV ap ce;have u:∀(t:T) (H:an),t.g 6=vi ps.length->cm t H (.fI 1 8 [.int .i64 0] (R 6) (R 6))=aa (.c (.sl H.length 0 ps.length ps.length 0 1),H++[.box (List.replicate ps.length (C.f (fi 0))) 0]):=by
  intro t H h;have e:(dJ ps.length [fi 0]).map C.f=List.replicate ps.length (C.f (fi 0)):=by simp[dJ]
  simp only[cm,oi,h,fG]
  grind
 apply ai;simp[u];apply ai;simp;apply ai;simp;apply ai;simp[cr,d];have A:H'=H++H'.drop H.length:=by
  refine List.ext_getElem? λi=>?_;have J:=aj l.2.2.2.1;rcases ahj i H.length with h|h
  .exact(l.2.2.2.2 i h).trans (AI h).symm
  .grind
 refine az (E _ _ ?_);simp
 grind
theorem Bg(g:Tg)(ps:List aO)(j:∀p∈ps,Mod p)(d:1<=ps.length)(m:ps.length<=64):∃b,(b=ae↔qW [] ps)/\bg tab PA [.c (.f (sl g (aQ ps)))]=Eq (vb b):=by
 obtain⟨b,l,h⟩:=Mx g ps j d m;exact⟨b,l,h.eq⟩
def iH(S:Int->Prop)(l:Int)(f:Bool):Prop:=(f=ag/\l=0/\∀d,¬ S d)\/(f=ae/\S l/\∀d,S d->l<=d)
theorem iH.iff{S S':Int->Prop}{l:Int}{f:Bool}(h:iH S l f)(g:∀d,S' d↔S d):iH S' l f:=by
 rcases h with⟨a,b,c⟩|⟨a,b,c⟩
 .exact .inl ⟨a,b,λd hd=>c d ((g d).1 hd)⟩
 .exact .inr ⟨a,(g _).2 b,λd hd=>c d ((g d).1 hd)⟩
theorem iH.step{S S':Int->Prop}{l x:Int}{f:Bool}(h:iH S l f)(g:∀d,S' d↔S d\/d=x):iH S' (if f=ag\/x<l then x else l) ae:=by
 right;rcases h with⟨rfl,rfl,c⟩|⟨rfl,b,c⟩
 .simp_all
 .grind
def kS(ps:List aO)(n:Int)(l:List aO)(d:Int):Prop:=n<=d/\wH ps d=ae/\∃p∈l,d∈p.head
theorem DO(g:Tg)(ps:List aO)(hP:∀p∈ps,cI p=ae)(hl:ps.length<=64)(n:Int):∃e f,iH (kS ps n ps) e f/\bg tab Ie [.c (.f (sl g (aQ ps))),vi n]=Eq (.t [vi e,vb f]):=by
 have key:∃r,(∃e f,iH (kS ps n ps) e f/\r=.t [vi e,vb f])/\bg tab Ie [.c (.f (sl g (aQ ps))),vi n] r:=by
  refine dx rfl rfl λQ hQ=>?_;apply ai;simp;apply ai;simp;apply au;apply ai;simp;refine bS ps.length (λj t H'=>t.g 0=.c (.f (sl g (aQ ps)))/\t.g 1=vi n/\t.g 12=.c (.f (sl g (aQ ps)))/\∃e f,t.g 6=vi e/\t.g 7=vb f/\iH (kS ps n (ps.take j)) e f) ap ce ce bv bv
   ⟨bv,bv,bv,0,ag,bv,bv,.inl ⟨rfl,rfl,λd hd=>by obtain⟨_,_,p,S,_⟩:=hd;simp at S⟩⟩ ?_ ?_
  .rintro j t H Y ⟨q,s,b,e,f,A,B,J⟩ Z hb next
   obtain⟨p,S⟩:=aI (ps[j]);have b_:p∈ps:=S▸IN Y;obtain⟨f0,f1,p0,p1,CA,-,a_,-⟩:=bC (hP p b_);have K:=λH:an=>cf (H:=H) (bQ ps) (dd (l:=ps) (j:=j) Y);have M:=λH:an=>bz (H:=H) (g:=g) (rows:=aQ ps) (sz:=4) (k:=.i64) (i:=j) ap (by simpa using Y);rw[<-S]at K;simp[aO.row]at K M;have i8:ps.take (j+1)=ps.take j++[p]:=by rw[agv,By Y,S];rfl
   refine ay ?_;apply ai;simp[b,Z,M,K];apply ai;simp;refine bS p.head.length (λi t H'=>t.g 0=.c (.f (sl g (aQ ps)))/\t.g 1=vi n/\t.g 12=.c (.f (sl g (aQ ps)))/\t.g 14=vi j/\t.g 13=vi ps.length/\t.g 19=.c (.f (sl p.hg (ints p.head)))/\
    ∃e f,t.g 6=vi e/\t.g 7=vb f/\iH (λd=>kS ps n (ps.take j) d\/(n<=d/\wH ps d=ae/\d∈p.head.take i)) e f) ap ce ce bv bv
    ⟨by simp[q],by simp[s],by simp[b],by simp[Z],by simp[hb],bv,e,f,by simp[A],by simp[B],J.iff λd=>by simp⟩ ?_ ?_
   .rintro i t H hi ⟨q,s,b,v,u,y,e,f,A,B,J⟩ E I nx;obtain⟨x,hx⟩:=aI (p.head[i]);have c9:x∈p.head:=hx▸IN hi;have i9:=a_ x c9;have O:=λH:an=>dZ (H:=H) hi;rw[<-hx]at O;have z:=(Vp g ps ap hP x (by unfold Day;omega)).eq;have h_:p.head.take (i+1)=p.head.take i++[x]:=by rw[agv,By hi,hx];rfl
    refine ay ?_;apply ai;simp[E,y,bz,hi,O];have bH:¬ (n<=x/\wH ps x=ae)->iH (λd=>kS ps n (ps.take j) d\/(n<=d/\wH ps d=ae/\d∈p.head.take (i+1))) e f:=λi7=>J.iff λd=>by
     grind
    have N:(n<=x/\wH ps x=ae)->iH (λd=>kS ps n (ps.take j) d\/(n<=d/\wH ps d=ae/\d∈p.head.take (i+1))) (if f=ag\/x<e then x else e) ae:=λi6=>J.step λd=>by
     grind
    have F:∀(t:T) (H:an) (W:Int) (X:Bool),t.g 0=.c (.f (sl g (aQ ps)))->t.g 1=vi n->t.g 12=.c (.f (sl g (aQ ps)))->t.g 14=vi j->t.g 13=vi ps.length->t.g 19=.c (.f (sl p.hg (ints p.head)))->t.g 21=vi i->t.g 20=vi p.head.length->t.g 6=vi W->t.g 7=vb X->iH (λd=>kS ps n (ps.take j) d\/(n<=d/\wH ps d=ae/\d∈p.head.take (i+1))) W X->
      WP tab Ie ab [.code OG,.inLoop OE,.inBlock 2,.inBlock 1,.code OH,.inLoop SP,.inBlock 0,.code OI] ⟨t,[],H⟩ Q:=by
     intro t H W X q0 q1 c_ d_ d9 e_ g_ f_ q6 q7 qm;refine nx _ _ ?_ g_ f_;exact⟨by simp[q0],by simp[q1],by simp[c_],by simp[d_],by simp[d9],by simp[e_],W,X,by simp[q6],by simp[q7],qm⟩
    by_cases L:n<=x
    .cases f with
     |false=>
      cases m:wH ps x with
      |false=>
       rw[m]at z;apply ai;simp[q,s,A,B,L,z];refine aD bv (aR (av ?_));exact F _ _ e ag (by simp[q]) (by simp[s]) (by simp[b]) (by simp[v]) (by simp[u]) (by simp[y]) (by simp[E]) (by simp[I]) (by simp[A]) (by simp[B]) (bH (by simp[m]))
      |true=>
       rw[m]at z;apply ai;simp[q,s,A,B,L,z];refine aw bv (aq (.inl rfl) ?_);simp;refine av ?_;exact F _ _ x ae (by simp[q]) (by simp[s]) (by simp[b]) (by simp[v]) (by simp[u]) (by simp[y]) (by simp[E]) (by simp[I]) bv bv (by have:=N ⟨L,m⟩;simpa using this)
     |true=>
      by_cases U:x<e
      .cases m:wH ps x with
       |false=>
        rw[m]at z;apply ai;simp[q,s,A,B,L,U,z];refine aD bv (aR (av ?_));exact F _ _ e ae (by simp[q]) (by simp[s]) (by simp[b]) (by simp[v]) (by simp[u]) (by simp[y]) (by simp[E]) (by simp[I]) (by simp[A]) (by simp[B]) (bH (by simp[m]))
       |true=>
        rw[m]at z;apply ai;simp[q,s,A,B,L,U,z];refine aw bv (aq (.inl rfl) ?_);simp;refine av ?_;exact F _ _ x ae (by simp[q]) (by simp[s]) (by simp[b]) (by simp[v]) (by simp[u]) (by simp[y]) (by simp[E]) (by simp[I]) bv bv (by have:=N ⟨L,m⟩;simpa[U]using this)
      .apply ai;simp[q,s,A,B,L,U];refine aD bv (aR (av ?_));refine F _ _ e ae (by simp[q]) (by simp[s]) (by simp[b]) (by simp[v]) (by simp[u]) (by simp[y]) (by simp[E]) (by simp[I]) (by simp[A]) (by simp[B]) ?_
       grind
    .apply ai;simp[q,s,A,B,L];refine aD bv (aR (av ?_));exact F _ _ e f (by simp[q]) (by simp[s]) (by simp[b]) (by simp[v]) (by simp[u]) (by simp[y]) (by simp[E]) (by simp[I]) (by simp[A]) (by simp[B]) (bH λh=>L h.1)
   .rintro t H ⟨q,s,b,v,u,y,e,f,A,B,J⟩ - -;rw[agu]at J;refine av (next _ _ ?_ (by simp[v]) (by simp[u]));refine⟨by simp[q],by simp[s],by simp[b],e,f,by simp[A],by simp[B],J.iff λd=>?_⟩;unfold kS
    grind
  .rintro t H ⟨q,s,b,e,f,A,B,J⟩ Z hb;rw[agu]at J;apply ai;simp[A,B];refine az (hQ _ _ _ ⟨e,f,J,rfl⟩ ?_);simp
 obtain⟨r,⟨e,f,J,rfl⟩,h⟩:=key;exact⟨e,f,J,h.eq⟩
structure oN(ps:List aO):Prop where
 l1:1<=ps.length
 l2:ps.length<=64
 mod:∀p∈ps,Mod p
 prod:gE ps<=1000000
 st:dz ps<=1000000000000
theorem oN.aT{ps:List aO}(h:oN ps):∀p∈ps,cI p=ae:=λp b=>(h.mod p b).ok
def F3(ps:List aO)(n x:Int):Prop:=n<=x/\wH ps x=ae
theorem iT{ps:List aO}{x:Int}(b:0<=x):wH ps x=ae↔∀p∈ps,bA p x=ae:=by
 simp[wH,hasB,b]
theorem uX{x:Int}:∀{l:List aO},0<=x->x<dz l->∃p∈l,x<p.fr
 |[],b,h=>by simp only[dz]at h;omega
 |q::l,b,h=>by
  simp only[dz]at h;by_cases k:x<q.fr
  .exact⟨q,ago,k⟩
  .obtain⟨p,d,e⟩:=uX (x:=x) (l:=l) b ap;exact⟨p,agr _ d,e⟩
theorem D4{ps:List aO}(h:oN ps){n x:Int}(l:0<=n)(m:dz ps<=x):F3 ps n x↔max n (dz ps)<=x/\∀p∈ps,kB p x:=by
 have j:=qR ps;unfold F3;rw[iT ap];constructor
 .rintro⟨g,d⟩;exact⟨ap,λp b=>(tq (h.mod p b) (by have:=qQ b;omega)).1 (d p b)⟩
 .rintro⟨g,d⟩;exact⟨ap,λp b=>(tq (h.mod p b) (by have:=qQ b;omega)).2 (d p b)⟩
theorem Jd(g:Tg)(ps:List aO)(h:oN ps)(n:Int)(J:0<=n)(W:n<=1000000000000):∃d f q z,iH (F3 ps n) d f/\(0<=d/\d<=1000001000000)/\
  bg tab Ie [.c (.f (sl g (aQ ps))),vi n]=Eq (.t [vi q,vb z])/\
  ((z=ae/\d=q/\f=ae)\/(z=ag/\q=0/\∃b,bg tab PA [.c (.f (sl g (aQ ps)))]=Eq (vb b)/\((b=ag/\d=0/\f=ag)\/(b=ae/\bg tab Py [.c (.f (sl g (aQ ps))),vi n]=Eq (.t [vi d,vb f]))))):=by
 obtain⟨q,z,U,A⟩:=DO g ps h.aT h.l2 n;have Y:=qR ps;have Z:=h.st;have X:=h.prod;have u:∀x,F3 ps n x->x<dz ps->kS ps n ps x:=by
  rintro x ⟨N,H⟩ l;obtain⟨p,y,S⟩:=uX ap l;refine⟨N,H,p,y,?_⟩;have:=(iT ap).1 H p y;unfold bA at this;rw[ct ap,decide_eq_true_eq]at this;exact this
 rcases U with⟨rfl,rfl,F⟩|⟨rfl,O,v⟩
 .have B:∀x,F3 ps n x->dz ps<=x:=λx l=>by
   rcases ahy x (dz ps)with k|k
   .exact absurd (u x l k) (F x)
   .exact k
  have j:∀x,F3 ps n x↔max n (dz ps)<=x/\∀p∈ps,kB p x:=λx=>by
   constructor
   .intro l;exact(D4 h J (B x l)).1 l
   .intro l;exact(D4 h J ap).2 l
  obtain⟨b,I,m⟩:=Bg g ps h.mod h.l1 h.l2;cases b with
  |false=>
   refine⟨0,ag,0,ag,.inl ⟨rfl,rfl,λx l=>?_⟩,⟨ap,ap⟩,A,.inr ⟨rfl,rfl,ag,m,.inl ⟨rfl,rfl,rfl⟩⟩⟩;have:=I.2 (CG (d:=x) ps [] bv ((j x).1 l).2);cases this
  |true=>
   rcases T6 g ps h.mod h.l2 h.prod n _ rfl ap with⟨d,⟨K,L,d3,M⟩,E⟩|⟨s,E⟩
   .exact⟨d,ae,0,ag,.inr ⟨rfl,(j d).2 ⟨K,L⟩,λx l=>M x ((j x).1 l).1 ((j x).1 l).2⟩,⟨ap,ap⟩,A,.inr ⟨rfl,rfl,ae,m,.inr ⟨rfl,E⟩⟩⟩
   .exact⟨0,ag,0,ag,.inl ⟨rfl,rfl,λx l=>s x ((j x).1 l).1 ((j x).1 l).2⟩,⟨ap,ap⟩,A,.inr ⟨rfl,rfl,ae,m,.inr ⟨rfl,E⟩⟩⟩
 .obtain⟨s1,s2,p,y,Q⟩:=O;have I:=(bC (h.aT p y)).2.2.2.2.2.2.1 q Q;have:=qQ y;refine⟨q,ae,q,ae,.inr ⟨rfl,⟨s1,s2⟩,λx l=>?_⟩,⟨ap,ap⟩,A,.inl ⟨rfl,rfl,rfl⟩⟩;rcases ahy x (dz ps)with k|k
  .exact v x (u x l k)
  .omega
theorem iH.join{S S1 m:Int->Prop}{l x:Int}{f j:Bool}(h1:iH S1 l f)(h2:iH m x j)(g:∀d,S d↔S1 d\/m d):iH S (if j=ae/\(f=ag\/x<l)then x else l) (f||j):=by
 rcases h1 with⟨rfl,rfl,a⟩|⟨rfl,a,b⟩<;>rcases h2 with⟨rfl,rfl,c⟩|⟨rfl,c,e⟩
 .refine .inl ⟨rfl,bv,λd hd=>?_⟩;rcases(g d).1 hd with h|h
  .exact a d h
  .exact c d h
 .refine .inr ⟨rfl,by simpa using (g x).2 (.inr c),λd hd=>?_⟩;rcases(g d).1 hd with h|h
  .exact absurd h (a d)
  .simpa using e d h
 .refine .inr ⟨rfl,by simpa using (g l).2 (.inl a),λd hd=>?_⟩;rcases(g d).1 hd with h|h
  .simpa using b d h
  .exact absurd h (c d)
 .refine .inr ⟨rfl,?_,λd hd=>?_⟩
  .by_cases k:x<l
   .simpa[k]using (g x).2 (.inr c)
   .simpa[k]using (g l).2 (.inl a)
  .rcases(g d).1 hd with h|h
   .have:=b d h;by_cases k:x<l<;>simp[k]<;>omega
   .have:=e d h;by_cases k:x<l<;>simp[k]<;>omega
def QH(H:an)(n b:Int)(found:Bool):Prop:=H[0]?=aa (.box [.f (fi n)] 0)/\H[1]?=aa (.box [.f (fi b)] 0)/\H[2]?=aa (.box [.f (.bool found)] 0)/\H[3]?=aa (.dQ ae)/\
 ∃s:T,H[4]?=aa (.lp dn s [P.nat 12] cO cB .ready ab 3)/\s.g 3=.c (.ptr 0 0 0)/\s.g 6=.c (.ptr 1 0 0)/\s.g 7=.c (.ptr 2 0 0)
theorem D8(g:Tg)(ps:List aO)(h:oN ps)(n:Int)(hn:0<=n)(b_:n<=1000000000000):∃d f,iH (F3 ps n) d f/\(0<=d/\d<=1000001000000)/\∀H j found,QH H n j found->
  ∃r H',Ev tab (.yield 4) [.c (.f (sl g (aQ ps)))] H r H'/\(r=vb ae/\QH H' n (if f=ae/\(found=ag\/d<j)then d else j) (found||f)):=by
 obtain⟨d,f,e0,f0,hm,hd,he,Y⟩:=Jd g ps h n hn b_;refine⟨d,f,hm,hd,?_⟩;rintro H j found ⟨h0,h1,h2,h3,s,X,v,J,K⟩;refine dw (tab:=tab) (b:=4) X rfl λW L=>?_;have a_:=aj X;have E:∀(t:T) (l:an),l[0]?=aa (.box [.f (fi n)] 0)->l[1]?=aa (.box [.f (fi j)] 0)->l[2]?=aa (.box [.f (.bool found)] 0)->l[3]?=aa (.dQ ae)->l[4]?=aa (.lp dn s [P.nat 12] cO cB .busy ab 3)->
   t.g 3=.c (.ptr 0 0 0)->t.g 6=.c (.ptr 1 0 0)->t.g 7=.c (.ptr 2 0 0)->t.g 9=vi d->t.g 10=vb f->WP tab dn (aa 4) [.code C5,.inBlock 1] ⟨t,[],l⟩ W:=by
  rintro t l q0 N A q3 U e3 F y I u;have l1:=aj N;have l2:=aj A;have bH:(f=ae/\(found=ag\/d<j)->False)->QH (l.set 4 (.lp dn s [P.nat 12] cO cB .ready ab 3)) n (if f=ae/\(found=ag\/d<j)then d else j) (found||f):=by
   intro x;have Z:(found||f)=found:=by
    cases f<;>cases found<;>simp at x ⊢
   rw[ct x,Z];exact⟨by rw[sh ce];exact q0,by rw[sh ce];exact N,by rw[sh ce];exact A,by rw[sh ce];exact q3,s,BY (aj U),v,J,K⟩
  have c9:(l.set 1 (.box [.f (fi d)] 0))[2]?=aa (.box [.f (.bool found)] 0):=by rw[sh ce];exact A
  have M:(f=ae/\(found=ag\/d<j))->QH (((l.set 1 (.box [.f (fi d)] 0)).set 2 (.box [.f (.bool ae)] 0)).set 4 (.lp dn s [P.nat 12] cO cB .ready ab 3)) n (if f=ae/\(found=ag\/d<j)then d else j) (found||f):=by
   intro m;have Z:(found||f)=ae:=by rw[m.1];simp
   rw[bZ m,Z];refine⟨?_,?_,?_,?_,s,BY (by simp;exact aj U),v,J,K⟩
   .rw[sh ce,sh ce,sh ce];exact q0
   .rw[sh ce,sh ce,BY l1]
   .rw[sh ce,BY (by simpa using l2)]
   .rw[sh ce,sh ce,sh ce];exact q3
  have done:∀B:T,(f=ae/\(found=ag\/d<j)->False)->WP tab dn (aa 4) [.inBlock 1] ⟨B,[],l⟩ W:=by
   intro B x;refine av (cX (L _ _ _ _ _ _ _ _ _ _ rfl U ⟨rfl,?_⟩));have:=bH x;rw[show(l.set 4 (.lp dn s [P.nat 12] cO cB .ready ab 3))=l.set 4 (.lp dn s [P.nat 12] cO cB (if(ab:Option aE).isNone=ae then .ready else .done) ab 3) from rfl]at this;exact this
  have q:∀B:T,B.g 6=.c (.ptr 1 0 0)->B.g 7=.c (.ptr 2 0 0)->B.g 9=vi d->(f=ae/\(found=ag\/d<j))->WP tab dn (aa 4) [.code C6,.inBlock 1] ⟨B,[],l⟩ W:=by
   intro B F y I m;refine aq (.inr rfl) ?_;simp[F,y,I,N,A,c9];refine av (cX (L _ _ _ _ _ _ _ _ _ _ rfl (by rw[sh ce,sh ce];exact U) ⟨rfl,?_⟩));exact M m
  apply au;cases f with
  |false=>
   refine aq (.inr rfl) ?_;simp[y,u,A];refine aD bv (aR (done _ bv))
  |true=>
   cases found with
   |false=>
    refine aq (.inr rfl) ?_;simp[y,u,A];refine aw bv (q _ (by simp[F]) (by simp[y]) (by simp[I]) bv)
   |true=>
    by_cases k:d<j
    .refine aq (.inr rfl) ?_;simp[F,y,I,u,N,A,k];refine aw bv (q _ (by simp[F]) (by simp[y]) (by simp[I]) (by simp[k]))
    .refine aq (.inr rfl) ?_;simp[F,y,I,u,N,A,k];refine aD bv (aR (done _ (by simp[k])))
 refine aq (.inr rfl) ?_;simp;refine fP X ?_;have b0:(H.set 4 (.lp dn s [P.nat 12] cO cB .busy ab 3))[0]?=aa (.box [.f (fi n)] 0):=by rw[sh ce];exact h0
 have b1:(H.set 4 (.lp dn s [P.nat 12] cO cB .busy ab 3))[1]?=aa (.box [.f (fi j)] 0):=by rw[sh ce];exact h1
 have O:(H.set 4 (.lp dn s [P.nat 12] cO cB .busy ab 3))[2]?=aa (.box [.f (.bool found)] 0):=by rw[sh ce];exact h2
 have Q:(H.set 4 (.lp dn s [P.nat 12] cO cB .busy ab 3))[3]?=aa (.dQ ae):=by rw[sh ce];exact h3
 have S:(H.set 4 (.lp dn s [P.nat 12] cO cB .busy ab 3))[4]?=aa (.lp dn s [P.nat 12] cO cB .busy ab 3):=BY a_;generalize H.set 4 (.lp dn s [P.nat 12] cO cB .busy ab 3)=l at b0 b1 O Q S;refine ay ?_;refine au (aq (.inr rfl) ?_);simp[v,b0,he];apply au;rcases Y with⟨rfl,rfl,rfl⟩|⟨rfl,rfl,b,z,Y⟩
 .refine au (aq (.inr rfl) ?_);simp;refine bE bv ?_;exact E _ _ b0 b1 O Q S (by simp[v]) (by simp[J]) (by simp[K]) bv bv
 .rcases Y with⟨rfl,rfl,rfl⟩|⟨rfl,hl⟩
  .refine au (aq (.inr rfl) ?_);simp[v,b0,z,show n<=1152921504606846976 by omega];refine bE bv ?_;exact E _ _ b0 b1 O Q S (by simp[v]) (by simp[J]) (by simp[K]) bv bv
  .refine au (aq (.inr rfl) ?_);simp[v,b0,z,show n<=1152921504606846976 by omega];refine aw bv ?_;refine aq (.inr rfl) ?_;simp[v,b0,hl];exact E _ _ b0 b1 O Q S (by simp[v]) (by simp[J]) (by simp[K]) bv bv
theorem ma(x:FC):bg tab Xz [.c (.f x)]=Eq (.c (.f (.fn jM [.fp [x] 0]))):=by
 refine bg.eq (bK rfl rfl λQ b=>?_);apply ai;simp;apply ai;simp;refine az (b _ _ ?_);simp[deep]
theorem Bu{b:Nat}{H:an}(g:Tg)(ts:List cV)(L:ts.length<=1000000)(PP:Nat->an->Prop)(E:PP 0 H)
  (K:∀j (q:j<ts.length) H,PP j H->∃r H',Ev tab (.yield b) [.c (.f (sl ts[j].tg (aQ ts[j].fs)))] H r H'/\(r=vb ae/\PP (j+1) H')) :
  ∃r A,Ev tab (.fn jM) [.c (.yl b),.c (.f (.fp [sl g (aK ts)] 0))] H r A/\(r=.t []/\PP ts.length A):=by
 refine de rfl rfl λQ I=>?_;apply ai;simp[kD];refine bS ts.length (λj s J=>s.g 0=.c (.yl b)/\s.g 5=.c (.f (sl g (aK ts)))/\PP j J) ap ce ce bv bv ⟨bv,bv,E⟩ ?_ ?_
 .rintro j s J q ⟨u,v,x⟩ y B next
  have m:=λH:an=>gU (H:=H) (fN ts) (ir (l:=ts) (j:=j) q) rfl;have d:=λH:an=>bz (H:=H) (g:=g) (rows:=aK ts) (sz:=1) (k:=.i64) (i:=j) ap (by simpa using q);simp at m d;obtain⟨r,H',z,rfl,F⟩:=K j q J x;refine ay ?_;apply ai;simp[v,y,d,m];apply ai;simp[u,z.eq];refine bE bv ?_;refine av (next _ _ ?_ (by simp[y]) (by simp[B]));exact⟨by simp[u],by simp[v],F⟩
 .rintro s J ⟨u,v,x⟩ y B;exact cX (I _ _ _ rfl rfl ⟨rfl,x⟩)
def rB(ts:List cV)(n x:Int):Prop:=∃t∈ts,F3 t.fs n x
theorem Q1(g:Tg)(ts:List cV)(J:ts.length<=1000000)(W:∀t∈ts,oN t.fs)(n:Int)(Y:0<=n)(F:n<=1000000000000):∃d f,iH (rB ts n) d f/\(0<=d/\d<=1000001000000)/\
  bg tab dn [.c (.f (.fn jM [.fp [sl g (aK ts)] 0])),vi n]=Eq (.t [vi d,vb f]):=by
 have key:∃r,(∃d f,iH (rB ts n) d f/\(0<=d/\d<=1000001000000)/\r=.t [vi d,vb f])/\bg tab dn [.c (.f (.fn jM [.fp [sl g (aK ts)] 0])),vi n] r:=by
  refine kH Ve rfl λQ X=>?_;have v:∀s:T,s.g 3=.c (.ptr 0 0 0)->s.g 6=.c (.ptr 1 0 0)->s.g 7=.c (.ptr 2 0 0)->s.g 11=.c (.f (.fn jM [.fp [sl g (aK ts)] 0]))->
    WP tab dn ab [.code HS,.inBlock 0,.code C7] ⟨s,[],[.box [.f (fi n)] 0,.box [.f (fi 0)] 0,.box [.f (.bool ag)] 0]⟩ Q:=by
   intro s U L M y;obtain⟨r,u,S,rfl,l,found,⟨-,e,i,k,K,o,-⟩,q,N⟩:=Bu (b:=4) (H:=[.box [.f (fi n)] 0,.box [.f (fi 0)] 0,.box [.f (.bool ag)] 0,.dQ ae,.lp dn s [P.nat 12] cO cB .ready ab 3]) g ts J
    (λj H=>∃l found,QH H n l found/\iH (rB (ts.take j) n) l found/\(0<=l/\l<=1000001000000))
    ⟨0,ag,⟨rfl,rfl,rfl,rfl,s,rfl,U,L,M⟩,.inl ⟨rfl,rfl,λd hd=>by obtain⟨t,m,-⟩:=hd;simp at m⟩,ap,ap⟩ λj O H ⟨l,found,A,q,N⟩=>by
     obtain⟨d,f,E,hd,Z⟩:=D8 ts[j].tg ts[j].fs (W _ (IN O)) n Y F;obtain⟨r,H',B,rfl,z⟩:=Z H l found A;have I:ts.take (j+1)=ts.take j++[ts[j]]:=by rw[agv,By O];rfl
     refine⟨_,H',B,rfl,_,_,z,iH.join q E λx=>?_,?_⟩
     .unfold rB;rw[I];constructor
      .rintro⟨t,m,h⟩;rcases agl.1 m with m|m
       .exact .inl ⟨t,m,h⟩
       .rw[If.1 m]at h;exact .inr h
      .rintro(⟨t,m,h⟩|h)
       .exact⟨t,List.mem_append_left _ m,h⟩
       .exact⟨_,List.mem_append_right _ (If.2 rfl),h⟩
     .split<;>omega
   rw[agu]at q;refine dK (g:=jM) (by rw[oi,y];simp[cr]) S ?_;refine ew o ce ?_;refine av ?_;apply ai;have a:(u.set 4 (.lp dn K [P.nat 12] cO cB .exhausted ab 3))[1]?=aa (.box [.f (fi l)] 0):=by rw[sh ce];exact e
   have c:(u.set 4 (.lp dn K [P.nat 12] cO cB .exhausted ab 3))[2]?=aa (.box [.f (.bool found)] 0):=by rw[sh ce];exact i
   have v3:(u.set 4 (.lp dn K [P.nat 12] cO cB .exhausted ab 3))[3]?=aa (.dQ ae):=by rw[sh ce];exact k
   simp[L,M,a,c];refine az (X _ _ _ ⟨l,found,q,N,rfl⟩ (.inr ⟨3,rfl,v3,.t [vi l,vb found],?_,by simp[jh,dq,bu]⟩));simp[Km.results,cC,bu]
  apply ai;simp;apply ai;simp;apply au;apply ai;simp;refine ay ?_;exact v _ bv bv bv bv
 obtain⟨r,⟨d,f,q,hd,rfl⟩,h⟩:=key;exact⟨d,f,q,hd,h.eq⟩
theorem Ur(g:Tg)(ts:List cV)(j:jz ts=ae)(s:∀t∈ts,oN t.fs)(n:Int)(y:0<=n)(l:n<=1000000000000):∃d f,iH (rB ts n) d f/\(0<=d/\d<=1000001000000)/\
  bg tab U5 [.a [.f (sl g (aK ts))],vi n]=Eq (.t [vi d,vb f]):=by
 obtain⟨E,m⟩:=qH j;obtain⟨d,f,x,hd,v⟩:=Q1 g ts ap s n y l;refine⟨d,f,x,hd,bg.eq (bK rfl rfl λQ u=>?_)⟩;have b:=G3 g ts ap (λt q=>⟨by have:=(iq (m t q)).2.1;omega,λp z=>kj ((iq (m t q)).2.2 p z)⟩);rw[j]at b;have A:=ma (sl g (aK ts));have B:max n 0=n:=by omega
 apply ai;simp;apply au;apply ai;simp[b];refine bE bv ?_;apply ai;simp[A,B,v];refine az (u _ _ ?_);simp
theorem zd(j l m:FC)(len g d:Int)(v:0<=len)(q:len<=10080)(x:-4320<=g)(s:g<=4320) :
  bg tab abz [.a [.f j,.f (fi len),.f l],.a [.f m,.f (fi g)],vi d]=Eq (vb (decide (d<=(2251799813685248-g-len) / 1440))):=Kf.eq (by
 refine dh rfl rfl λH Q u=>?_;apply ai;simp;apply ai;simp[aZ (n:=2251799813685248-g),aZ (n:=2251799813685248-g-len),e9 (a:=2251799813685248-g-len) (b:=1440) ap ap ap];refine az (u _ _ ?_);simp)
structure ab1(ts:List cV):Prop where
 v:jz ts=ae
 f:∀t∈ts,oN t.fs
def nr:bO->Bool
 | .dj _ _ _ _ _=>ag| _=>ae
def LI(H:an)(c:C)(o:List aC):Prop:=(o=[]/\c=.f .aJ)\/(o≠[]/\∃b d,c=.sl b 0 o.length 0 d 3/\RB H b 3 d (aF o))
theorem LI.push{H:an}{c:C}{o:List aC}(h:LI H c o)(J:an):LI (H++J) c o:=by
 rcases h with h|⟨h,b,d,h1,h2⟩
 .exact .inl h
 .exact .inr ⟨h,b,d,h1,h2.push J⟩
theorem zu(o:List aC)(x:aC):(aF (o++[x])).flatten=(aF o).flatten++x.row:=by simp[aF]
theorem LI.app{H:an}{c:C}{o:List aC}(h:LI H c o)(hl:o.length<=1000000){b1 fl:Nat}{x:aC}(m:H[b1]?=aa (.box (x.row.map .f) fl)) :
  ∃q H',bT H 3 24 (.c c) (.c (.sl b1 0 1 1 0 3))=aa (.c q,H')/\LI H' q (o++[x])/\H.length<=H'.length/\∀(i:Nat) y,H[i]?=aa y->nr y=ae->H'[i]?=aa y:=by
 have g:dG H 3 (.c (.sl b1 0 1 1 0 3))=aa (1,x.row.map .f):=lV m (by rfl);rcases h with⟨rfl,rfl⟩|⟨v,b,j,rfl,h2⟩
 .have d:cD 1 24=ae:=by simp[cD]
  refine⟨.sl H.length 0 1 0 0 3,H++[.dj 3 (x.row.map .f) 0 0 .loc],?_,.inr ⟨bv,H.length,0,bv,?_⟩,bv,λi y hy _=>by rw[AI (aj hy)];exact hy⟩
  .simp[bT,g,d]
  .unfold RB;simp[aF]
 .have d:cD (o.length+1) 24=ae:=by simp[cD];omega
  have s:o.length*3=(aF o).flatten.length:=by rw[cA (bM o),jx]
  unfold RB at h2;refine⟨.sl b 0 (o.length+1) 0 (j+1) 3,H.set b (.dj 3 ((aF o).flatten.map .f++x.row.map .f) 0 (j+1) .loc),?_,.inr ⟨bv,b,j+1,bv,?_⟩,bv,λi y hy u=>?_⟩
  .have l:(3:Nat)≠0:=by decide
   simp only[bT,g,l,if_false,h2,and_self,if_true]
   grind
  .unfold RB;rw[BY (aj h2),zu,ahl]
  .have:b≠i:=by rintro rfl;rw[h2]at hy;cases hy;cases u
   simp_all
theorem ab3{H:an}{b d n:Nat}{l R:List aC}(h:RB H b 3 d (aF (l++R))):fh (n+1) H (.sl b 0 l.length 0 d 3)=aa (sl .fs (aF l)):=by
 unfold RB at h;have g:l.length*3=(aF l).flatten.length:=by rw[cA (bM l),jx]
 have e:(aF (l++R)).flatten=(aF l).flatten++(aF R).flatten:=by simp[aF]
 simp only[gT,h];rw[bZ ⟨trivial,trivial,by rw[agq,e,aft];omega⟩,e,ahi,ahl,List.take_append_of_le_length (by rw[agq];omega),agw (by rw[agq];omega)];rw[lu];cases l with
 |nil=>simp[sl,aF,Tg.fc]| cons x l=>simp[sl,aF]
theorem DK{H:an}:∃r H',Ev tab (.fn FJ) [.c (.f .aJ)] H r H'/\(r=.c (.f .aJ)/\H'=H):=by
 refine de rfl rfl λQ b=>?_;apply ai;simp;apply au;apply ai;simp[bh];refine aw bv ?_;apply ai;simp;exact az (b _ _ _ rfl (dy bv) ⟨rfl,rfl⟩)
def ns:List Nat->an->an
 |[],H=>H| b::bs,H=>ns bs (H.set b (.dQ ag))
structure eI(bs:List Nat)(H:an):Prop where
 nd:bs.Nodup
 on:∀b∈bs,H[b]?=aa (.dQ ae)
theorem nw{call:ey}:∀{bs:List Nat} {H:an},eI bs H->fR call (bs.map .dY) H=aa (ns bs H)
 |[],H,_=>rfl
 |b::bs,H,h=>by
  have j:=h.on b ago;have d:=List.nodup_cons.1 h.nd;simp only[agm,fR,j,ns];exact nw ⟨d.2,λx g=>by rw[sh (by rintro rfl;exact d.1 g)];exact h.on x (agr _ g)⟩
theorem iQ:∀{bs:List Nat} {H:an} {i:Nat},i ∉ bs->(ns bs H)[i]?=H[i]?
 |[],_,_,_=>rfl
 |b::bs,H,i,h=>by
  simp only[agA,not_or]at h;rw[ns,iQ h.2,sh (Ne.symm h.1)]
def PI(b:List ku)(r:V)(s:St):Prop:=∃bs,s.defs=bs.map .dY/\eI bs s.heap/\∃d,Km.results s.aN (ns bs s.heap) b=aa d/\jh deep (ns bs s.heap) d=aa r
theorem qJ{f:Nat}{args:List V}{S:V->Prop}{ps:List P}{b:List ku}{body:aE}(z:tab f=aa ⟨ps,b,body⟩)(x:args.length=ps.length)
  (h:∀Q:Option aE->St->Prop,(∀j s r,S r->PI b r s->Q j s)->WP tab f ab [.code body] ⟨dm ps args .e,[],[]⟩ Q):∃r,S r/\bg tab f args r:=by
 have q:=h (λ_ s=>∃r,S r/\PI b r s) λ_ _ r g l=>⟨r,g,l⟩
 obtain⟨n,m,d,j,s,g,r,y,bs,hd,v,A,l,u⟩:=q;exact⟨r,y,A,ns bs s.heap,rj z x ⟨n,m,d,j,s,g,0,0,_,by rw[hd];exact nw v,l,rfl⟩,u⟩
theorem eI.push{bs:List Nat}{H:an}(h:eI bs H)(J:an):eI bs (H++J):=⟨h.nd,λb hb=>by rw[AI (aj (h.on b hb))];exact h.on b hb⟩
theorem eI.bH{bs:List Nat}{H H':an}(h:eI bs H)(d:∀(i:Nat) y,H[i]?=aa y->nr y=ae->H'[i]?=aa y):eI bs H':=⟨h.nd,λb hb=>d b _ (h.on b hb) rfl⟩
theorem eI.set{bs:List Nat}{H:an}(h:eI bs H){i:Nat}{y z:bO}(hi:H[i]?=aa y)(hy:y≠.dQ ae):eI bs (H.set i z):=⟨h.nd,λb hb=>by
 have:=h.on b hb
 grind⟩
theorem eI.not{bs:List Nat}{H:an}(h:eI bs H){i:Nat}{y:bO}(hi:H[i]?=aa y)(hy:y≠.dQ ae):i ∉ bs:=λhb=>by
 have:=h.on i hb;simp_all
theorem fj:∀(l:List Int) (a k:Int),l.Pairwise (· < ·)->(∀x∈l,a<=x/\x<a+k)->(l.length:Int)<=max k 0
 |[],_,_,_,_=>by simp;omega
 |x::l,a,k,g,h=>by
  have j:=h x ago;have b:=ahm.1 g;have:=fj l (x+1) (a+k-x-1) b.2 λy d=>⟨by have:=b.1 y d;omega,by have:=h y (agr _ d);omega⟩
  simp only[agP];omega
structure xd(s:aH):Prop where
 v:gW s=ae
 cn:s.cs.length<=3
 cl:∀c∈s.cs,ab1 c.ts
 xn:s.xs.length<=4
theorem sJ:∀{l:List cW} {o:Option Int},eV o l=ae->∀c∈l,jz c.ts=ae/\-4320<=c.min/\c.min<=4320
 |c::l,o,h,x,d=>by
  simp only[eV,IS]at h;obtain⟨⟨⟨g,b⟩,-⟩,j⟩:=h;rcases agA.1 d with rfl|d
  .unfold bU at b;simp at b;exact⟨g,b.1,b.2⟩
  .exact sJ j x d
theorem xd.len{s:aH}(h:xd s):1<=s.len/\s.len<=10080:=by
 have:=h.v;simp[gW,bU]at this;omega
theorem xd.min{s:aH}(h:xd s){c:cW}(hc:c∈s.cs):-4320<=c.min/\c.min<=4320:=by
 have:=h.v;simp only[gW,IS]at this;exact(sJ this.1.2 c hc).2
theorem uM{ts:List cV}(h:jz ts=ae):∀t∈ts,t.Sm:=λt d=>by
 obtain⟨-,b⟩:=qH h;exact⟨by have:=(iq (b t d)).2.1;omega,λp g=>kj ((iq (b t d)).2.2 p g)⟩
theorem xd.sm{s:aH}(h:xd s):s.Sm:=by
 have h1:=h.cn;have h2:=h.xn;refine⟨ap,ap,λc hc=>⟨?_,uM (h.cl c hc).v⟩⟩;have:=(qH (h.cl c hc).v).1;omega
def PJ(c:cW)(len:Int)(x:aC):Prop:=∃d,rB c.ts 0 d/\x=bV len c.min d
def dL(s:aH)(x:aC):Prop:=(∃c∈s.cs,PJ c s.len x)\/x∈s.xs
theorem qK{limit:Int}:∀{l:List Int} {last:Int},(∀x∈l,last<x/\x<limit)->l.Pairwise (· < ·)->cH limit last l=ae
 |[],_,_,_=>rfl
 |n::r,last,h,b=>by
  have d:=h n ago;rw[ahm]at b;simp only[cH,decide_eq_true d.1,decide_eq_true d.2,ahh];exact qK (λx g=>⟨b.1 x g,(h x (agr _ g)).2⟩) b.2
inductive Fa2{α β:Type}(R:α->β->Prop):List α->List β->Prop
 |nil:Fa2 R [] []
 |cons {a b l m}:R a b->Fa2 R l m->Fa2 R (a::l) (b::m)
theorem EJ(n m:Int)(g:0<m)(j:m<=4611686018427387904):bg tab Xe [vi n,vi m]=Eq (vi (n % m)):=Kf.eq (by
 have u:=aiq n g;have v:=aip n g;have b:cT .rem (vi n) (vi m)=aa (vi (n.tmod m)):=dp ap;have e:n % m=if n.tmod m<0 then n.tmod m+m else n.tmod m:=by
  rw[Int.emod_eq_tmod];have l:((m.natAbs:Nat):Int)=m:=by omega
  by_cases h:0<=n\/m ∣ n
  .rw[bZ h];rcases h with h|h
   .have:=Int.tmod_nonneg m h;rw[ct ap];omega
   .rw[ain h];simp
  .rw[ct h];have q:n.tmod m≠0:=λk=>h (.inr (aiD k));have s:n.tmod m<=0:=by
    have:=Int.tmod_nonneg m (show 0<=-n by omega);rw[Int.neg_tmod]at this;omega
   rw[bZ ap];omega
 refine dh rfl rfl λH Q d=>?_;apply ai;simp;refine au (ai ?_);simp[b];apply ai;by_cases k:n.tmod m<0
 .simp[k];refine aw bv (aq (.inl rfl) ?_);simp[aZ (n:=n.tmod m+m)];apply ai;simp;refine az (d _ _ ?_);simp[e,k]
 .simp[k];refine bE bv ?_;apply ai;simp;refine az (d _ _ ?_);simp[e,k])
theorem UJ:tab.get uF=ab:=by kernel_rfl
theorem GH(l:List Int):(ints l).flatten.map C.f=l.map λn=>C.f (fi n):=by
 unfold ints;induction l with
 |nil=>rfl| cons x l b=>simp at b;simp[b]
theorem GF(l:List Int):xQ ((ints l).flatten.map .f)=aa l:=by
 rw[GH];unfold xQ;induction l with
 |nil=>rfl| cons x l b=>simp[bu,b]
theorem Sb{H:an}{v:C}{l:List Int}(L:LR H v 1 (ints l))(M:l.length<=16777215) :
  ∃r H',Ev tab (.fn Pk) [.c v] H r H'/\(r=.t []/\Kb H H' v/\∃B,LR H' v 1 (ints B)/\B.Perm l/\B.Pairwise (·<=·)):=by
 have key:∀r H',E0 H v=aa (r,H')->Ev tab (.fn Pk) [.c v] H r H':=λr H' h=>by
  refine⟨0,1,?_⟩;have g:tab.Fh uF [.c v] H=aa (aa (r,H')):=by
   show(match tab.get uF with|some _=>ab|none=>Km.Fh uF [.c v] H)=_;rw[UJ];simp[Fh,h]
  show CF tab 0 1 (.fn uF) _ _=_;simp only[CF,iP,g]
 rcases L with⟨F,h⟩|⟨z,b,q,rfl,j⟩
 .have:l=[]:=by cases l with
   |nil=>rfl| cons a l=>simp[ints]at F
  subst this;exact⟨.t [],H,key _ _ (by rcases h with rfl|rfl<;>rfl),rfl,⟨agn _,λi y A _=>A⟩,[],.inl ⟨rfl,h⟩,.refl _,.nil⟩
 .have d:(ints l).length=l.length:=by simp[ints]
  have g:(tI l).Perm l:=List.mergeSort_perm _ _;have s:((ints l).flatten.map C.f).length=l.length:=by rw[GH];simp
  have K:((tI l).map λn=>C.f (.int .i64 n))=(ints (tI l)).flatten.map .f:=(GH _).symm;have u:=aj j;obtain⟨m,E⟩:∃m,l.length=m+1:=by
   cases l with
   |nil=>exact absurd rfl z| cons a l=>exact⟨_,rfl⟩
  have J:E0 H (.sl b 0 (ints l).length 0 q 1)=aa (.t [],H.set b (.dj 1 ((tI l).map λn=>.f (.int .i64 n)) 0 q .loc)):=by
   unfold E0;rw[j.len,d,E];unfold RB at j;simp only[j,s,GF,Option.map_some];rw[bZ ⟨trivial,trivial,trivial,trivial,E,trivial,ap⟩]
  refine⟨_,_,key _ _ J,rfl,⟨bv,λi y A hi=>?_⟩,tI l,.inr ⟨?_,b,q,by rw[d];simp[ints,g.length_eq],?_⟩,g,?_⟩
  .rw[sh (λe=>hi (by rw[<-e];rfl))];exact A
  .intro e;have I:(ints (tI l)).length=0:=by rw[e];rfl
   rw[xR,g.length_eq]at I;omega
  .unfold RB;rw[K,BY u]
  .have:=List.pairwise_mergeSort (le:=λx y:Int=>decide (x<=y)) (by intro a b c;simp;omega) (by intro a b;simp;omega) l;exact aif (λh=>by simpa using h) this
structure PN(l:List Int)(k:Nat)(d:Int):Prop where
 rep:∀i,k<=i->(h:i<l.length)->l[i]=l[i-k]'(by omega)+d
 last:∀h:k-1<l.length,l[k-1]<d
theorem I9{l:List Int}{k:Nat}{d:Int}(s:0<k)(g:PN l k d):∀(t j:Nat),j<k->(h:t*k+j<l.length)->l[t*k+j]=l[j]'(Nat.lt_of_le_of_lt (Nat.le_add_left _ _) h)+t*d:=by
 intro t;induction t with
 |zero=>intro j b h;simp
 |succ t u=>
  intro j b h;have e:(t+1)*k+j=t*k+j+k:=by rw[Nat.add_mul];omega
  have m:t*k+j<l.length:=by omega
  have q:=g.rep (t*k+j+k) ap ap
  grind
theorem ko{l:List Int}(g:l.Pairwise (· < ·)){i j:Nat}(b:i<=j)(d:j<l.length):l[i]<=l[j]:=by
 rcases ahj i j with h|h
 .exact Int.le_of_lt (agQ.1 g i j ap d h)
 .grind
structure xc(aT:Int)(l:List Int)(ED:Int)(l':List Int):Prop where
 p1:1<=ED
 dvd:ED ∣ aT
 ne:l'≠[]
 len:l'.length<=l.length
 up:l'.Pairwise (· < ·)
 mem:∀x∈l',0<=x/\x<ED
 iff:∀r,0<=r->r<aT->(r∈l↔r % ED∈l')
theorem Hn{l:List Int}{aT d:Int}{k g:Nat}(J:l.Pairwise (· < ·))(M:∀x∈l,0<=x/\x<aT)(W:1<=aT)(z:0<k)(I:l.length=g*k)(hd:aT=g*d)(F:PN l k d)(Z:0<l.length):xc aT l d (l.take k):=by
 have B:0<g:=by
  simp_all
 have L:k<=l.length:=by rw[I];exact Nat.le_mul_of_pos_left k B
 have v:1<=d:=by
  rcases ahy d 1 with h|h
  .have:=aiC (a:=-(g:Int)) (b:=d) ap ap
   grind
  .exact h
 have A:=F.last ap;have H:∀j,(h:j<k)->0<=l[j]'(by omega)/\l[j]'(by omega)<d:=λj h=>by
  have a:=(M _ (IN (l:=l) (n:=j) ap)).1;have b:=ko J (i:=j) (j:=k-1) ap ap;omega
 refine⟨v,⟨g,by rw[hd,ahB]⟩,?_,ge,J.sublist (List.take_sublist k l),?_,?_⟩
 .intro h;have:=congrArg List.length h
  grind
 .intro x O;obtain⟨j,K,rfl⟩:=ahe.1 O
  grind
 .intro r S U;constructor
  .intro E;obtain⟨i,hi,rfl⟩:=agz E;have q:=Nat.div_add_mod i k;have m:=Nat.mod_lt i z;have Y:i / k*k+i % k=i:=by rw[Nat.mul_comm];exact q
   have u:=I9 z F (i / k) (i % k) m ap;have e:l[i / k*k+i % k]'(by omega)=l[i]:=by congr 1
   rw[e]at u;obtain⟨a,b⟩:=H (i % k) m;rw[u,Int.add_mul_emod_self_right,ahf a b];exact ahe.2 ⟨i % k,ap,rfl⟩
  .intro E;obtain⟨j,K,e⟩:=ahe.1 E;have y:j<k:=by omega
   have Q:0<=r / d:=aha S ap;have f:r / d<g:=Int.ediv_lt_of_lt_mul ap (by rw[<-hd];exact U);obtain⟨t,c⟩:∃t:Nat,(t:Int)=r / d:=⟨(r / d).toNat,Int.toNat_of_nonneg Q⟩
   have N:t<g:=by omega
   have s:t*k+j<l.length:=by
    rw[I];have:(t+1)*k<=g*k:=Nat.mul_le_mul_right k ap
    grind
   have u:=I9 z F t j y s;have X:=agB r d
   grind
theorem Hm{l:List Int}{aT:Int}(j:l.Pairwise (· < ·))(g:∀x∈l,0<=x/\x<aT)(b:1<=aT)(d:0<l.length):xc aT l aT l:=
 ⟨b,ahA _,List.length_pos_iff.1 d,agn _,j,g,λr m q=>by rw[ahf m q]⟩
theorem UA(g:Tg)(l:List Int)(aT:Int)(q:Nat)(H:an)(p:H[0]?=aa (.box [.f (fi aT)] 0))(N:H[1]?=aa (.box [.f (sl g (ints l))] 0))(O:H[2]?=aa (.box [.f (fi l.length)] 0))
  (f_:1<=aT) (g_:aT<=4611686018427387904) (hl:l.length<=1000000) (W:∀x∈l,0<=x/\x<aT) (h_:1<=q) (X:q<=l.length) :
  ∃r H',Ev tab (.fn Fo) [vi q,.c (.ptr 0 0 0),.c (.ptr 2 0 0),.c (.ptr 1 0 0)] H r H'/\(∃b,r=vb b/\H'=H/\(b=ae->PN l (l.length / q) (aT / q))):=by
 obtain⟨d,hd⟩:=aI (aT / (q:Int));obtain⟨k,I⟩:=aI (l.length / q);have b_:0<=d:=by rw[hd];exact aha ap ap
 have c9:d<=aT:=by rw[hd];exact ahL _ ap
 have d_:1<=k:=by rw[I];exact Nat.div_pos X ap
 have U:k<=l.length:=by rw[I];exact Nat.div_le_self _ _
 have Y:cT .quo (vi aT) (vi q)=aa (vi d):=by rw[e9 ap ap ap,hd]
 have Z:cT .quo (vi l.length) (vi q)=aa (vi k):=by rw[e9 ap ap ap,I];rfl
 refine de rfl rfl λQ f=>?_;apply ai;simp;apply ai;simp[p,O,Y,Z];apply au;apply ai;simp;refine ay ?_;refine dc (λm s=>∃(i:Nat) (t:T),s=⟨t,[],H⟩/\m=l.length-i/\k<=i/\i<=l.length/\t.g 1=.c (.ptr 0 0 0)/\t.g 2=.c (.ptr 2 0 0)/\t.g 3=.c (.ptr 1 0 0)/\t.g 6=vi d/\t.g 7=vi k/\t.g 8=vi i/\
  ∀j,k<=j->j<i->(h:j<l.length)->l[j]=l[j-k]'(by omega)+d) (l.length-k)
  ⟨k,_,rfl,rfl,ap,U,bv,bv,bv,bv,bv,bv,λj N O=>by omega⟩ ?_
 rintro m s ⟨i,t,rfl,rfl,e_,d9,o,e,J,K,L,M,E⟩ ih;apply au;apply ai;simp[e,M,O];by_cases v:i<l.length
 .refine aw (by simp[v]) (aR ?_);apply au;refine ay ?_;have a_:=W _ (IN v);have B:i-k<l.length:=by omega
  have S:=W _ (IN B);have u:=λH:an=>bz (H:=H) (g:=g) (rows:=ints l) (sz:=1) (k:=.i64) (i:=(i:Int)) ap (by simp[ints];omega);have F:=λH:an=>bz (H:=H) (g:=g) (rows:=ints l) (sz:=1) (k:=.i64) (i:=((i:Int)-k)) ap (by simp[ints];omega);have z:=λH:an=>dZ (H:=H) v;have c:=λH:an=>dZ (H:=H) B;simp at u F;apply ai;simp[J,K,L,M,N,u,z,aZ (n:=(i:Int)-k),F,c,aZ (n:=l[i-k]+d)];by_cases A:l[i]=l[i-k]+d
  .refine bE (by simp[A]) ?_;refine av (aq (.inl rfl) ?_);simp[M,aZ (n:=(i:Int)+1)];refine ih (l.length-(i+1)) _ ap ⟨i+1,_,rfl,rfl,ap,ap,by simp[o],by simp[e],by simp[J],by simp[K],by simp[L],bv,λj a b h=>?_⟩
   grind
  .refine aw (by simp[A]) ?_;apply ai;simp;exact az (f _ _ _ rfl (dy bv) ⟨ag,rfl,rfl,bv⟩)
 .have c_:i=l.length:=by omega
  refine aD (by simp[v]) ?_;refine bJ rfl ?_;have y:k-1<l.length:=by omega
  have S:=W _ (IN y);have u:=λH:an=>bz (H:=H) (g:=g) (rows:=ints l) (sz:=1) (k:=.i64) (i:=((k:Int)-1)) ap (by simp[ints];omega);have z:=λH:an=>dZ (H:=H) y;simp at u;apply ai;simp[J,K,L,N,u,z,aZ (n:=(k:Int)-1)];refine az (f _ _ _ rfl (dy bv) ⟨decide (l[k-1]<d),rfl,rfl,λw=>?_⟩);rw[<-I,<-hd];exact⟨λj a h=>E j a ap h,λ_=>by simpa using w⟩
theorem VG{H:an}{sz:Nat}{g:Tg}{rows:List (List FC)}{m:Nat}(u:cR sz rows)(z:m<=rows.length)(v:rows≠[]) :
  cu H sz (.c (.f (sl g rows))) ab (aa (vi m)) ab=aa (.c (.f (sl .fs (rows.take m)))):=by
 cases rows with
 |nil=>exact absurd rfl v
 |cons x r=>
  have b:Dx (vi m) (x::r).length=aa m:=by
   have:(0:Int)<=(m:Int)/\(m:Int)<=((x::r).length:Int):=⟨ap,ap⟩
   show(if(0:Int)<=(m:Int)/\(m:Int)<=((x::r).length:Int)then aa (m:Int).toNat else ab)=aa m;rw[bZ this,agD]
  have j:cz (x::r).length (x::r).length ab (aa (vi m)) ab=aa (0,m,(x::r).length):=by
   simp only[agP]at b;simp[cz,b]
  show cu H sz (.c (.f (.fs (x::r).flatten (x::r).length))) _ _ _=_;simp only[cu,j];have l:((x::r).flatten.drop (0*sz)).take ((m-0)*sz)=((x::r).take m).flatten:=by
   rw[Nat.zero_mul,ahi,Nat.sub_zero,nY m u]
  have d:((x::r).take m).length=m:=by rw[agO];omega
  rw[l];have s:sl .fs ((x::r).take m)=.fs ((x::r).take m).flatten (m-0):=by
   rw[Nat.sub_zero];cases hd:(x::r).take m with
   |nil=>rw[hd]at d;simp at d;rw[<-d];rfl| cons y q=>rw[hd]at d;rw[<-d];rfl
  rw[s];simp
theorem AN(l:List Int)(k:Nat):(ints l).take k=ints (l.take k):=by simp[ints,List.map_take]
theorem IM{l:List Int}(h:0<l.length):ints l≠[]:=by cases l with
 |nil=>simp at h| cons a l=>simp[ints]
theorem Ho(g:Tg)(l:List Int)(aT:Int)(E:1<=aT)(a_:aT<=4611686018427387904)(B:0<l.length)(hl:l.length<=1000000)(M:l.Pairwise (· < ·))(X:∀x∈l,0<=x/\x<aT) :
  ∃j g' F,xc aT l j F/\bg tab Fl [vi aT,.c (.f (sl g (ints l)))]=Eq (.t [vi j,.c (.f (sl g' (ints F)))]):=by
 have key:∃r,(∃j g' F,xc aT l j F/\r=.t [vi j,.c (.f (sl g' (ints F)))])/\bg tab Fl [vi aT,.c (.f (sl g (ints l)))] r:=by
  refine dx rfl rfl λQ hQ=>?_;apply ai;simp;apply ai;simp;apply ai;simp;apply au;apply ai;simp;obtain⟨H,N⟩:=aI ([.box [.f (fi aT)] 0,.box [.f (sl g (ints l))] 0,.box [.f (fi l.length)] 0]:an);have K:H[0]?=aa (.box [.f (fi aT)] 0):=by rw[N];rfl
  have U:H[1]?=aa (.box [.f (sl g (ints l))] 0):=by rw[N];rfl
  have L:H[2]?=aa (.box [.f (fi l.length)] 0):=by rw[N];rfl
  rw[<-N];refine ay ?_;refine dc (λm s=>∃t:T,s=⟨t,[],H⟩/\1<=m/\m<=l.length/\t.g 2=.c (.ptr 0 0 0)/\t.g 3=.c (.ptr 1 0 0)/\t.g 6=.c (.ptr 2 0 0)/\t.g 7=.c (.cl Fo [.ptr 0 0 0,.ptr 2 0 0,.ptr 1 0 0])/\t.g 8=vi m) l.length
   ⟨_,rfl,ap,agn _,bv,bv,bv,bv,bv⟩ ?_
  rintro m s ⟨t,rfl,Y,Z,q,z,v,J,u⟩ ih;apply au;apply ai;simp[u];by_cases d_:1<m
  .refine aw ge (aR ?_);apply au;refine ay ?_;have next:∀I:T,I.g 2=.c (.ptr 0 0 0)->I.g 3=.c (.ptr 1 0 0)->I.g 6=.c (.ptr 2 0 0)->I.g 7=.c (.cl Fo [.ptr 0 0 0,.ptr 2 0 0,.ptr 1 0 0])->I.g 8=vi m->
     WP tab Fl ab [.code JB,.inLoop JA,.inBlock 0,.code JC] ⟨I,[],H⟩ Q:=by
    intro I q z v J u;refine aq (.inl rfl) ?_;simp[u,aZ (n:=(m:Int)-1)];exact ih (m-1) _ ap ⟨_,rfl,ap,ap,by simp[q],by simp[z],by simp[v],by simp[J],ge⟩
   have q1:cT .rem (vi l.length) (vi m)=aa (vi ((l.length % m:Nat):Int)):=by rw[gQ ap ap];rfl
   have q2:cT .rem (vi aT) (vi m)=aa (vi (aT % m)):=gQ ap ap;by_cases k1:l.length % m=0
   .by_cases k2:aT % (m:Int)=0
    .obtain⟨r,H',A,b,rfl,rfl,hb⟩:=UA g l aT m H K U L E a_ hl X Y Z;have A:=A.eq;apply ai;simp[q,v,J,u,K,L,q1,q2,k1,k2,cr,A];cases b with
     |false=>
      refine aD bv (aR (av ?_));exact next _ (by simp[q]) (by simp[z]) (by simp[v]) (by simp[J]) (by simp[u])
     |true=>
      obtain⟨d,hd⟩:=aI (aT / (m:Int));obtain⟨k,O⟩:=aI (l.length / m);have S:=hb rfl;rw[<-hd,<-O]at S;have e1:l.length=m*k:=by rw[O];have:=Nat.div_add_mod l.length m;omega
      have e2:aT=m*d:=by rw[hd];have:=agB aT m;omega
      have W:0<k:=by
       rcases Nat.eq_zero_or_pos k with h|h
       .rw[h,Nat.mul_zero]at e1;omega
       .exact h
      have d9:k<=l.length:=by rw[O];exact Nat.div_le_self _ _
      have b_:cT .quo (vi aT) (vi m)=aa (vi d):=by rw[e9 ap ap ap,hd]
      have c9:cT .quo (vi l.length) (vi m)=aa (vi k):=by rw[e9 ap ap ap,O];rfl
      have y:=λH:an=>VG (H:=H) (g:=g) (m:=k) (Km.Ord.cQ l) (by simp[ints];omega) (IM B);simp only[AN]at y;refine aw bv ?_;apply ai;simp[q,z,v,u,K,U,L,b_,c9,y];refine az (hQ _ _ _ ⟨d,.fs,l.take k,Hn M X E W e1 e2 S B,rfl⟩ ?_);simp
    .apply ai;simp[q,v,u,K,L,q1,q2,k1,k2];refine aD bv (aR (av ?_));exact next _ (by simp[q]) (by simp[z]) (by simp[v]) (by simp[J]) (by simp[u])
   .have c_:¬ ((l.length:Int) % (m:Int)=0):=by rw[<-Int.natCast_emod];omega
    apply ai;simp[q,v,u,K,L,q1,c_];refine aD bv (aR (av ?_));exact next _ (by simp[q]) (by simp[z]) (by simp[v]) (by simp[J]) (by simp[u])
  .refine aD ge ?_;refine bJ rfl ?_;apply ai;simp[q,z,K,U];refine az (hQ _ _ _ ⟨aT,g,l,Hm M X E B,rfl⟩ ?_);simp
 obtain⟨r,⟨j,g',F,S,rfl⟩,h⟩:=key;exact⟨j,g',F,S,h.eq⟩
def wS(fr aT:Int)(bF:List Int)(d:Int):Prop:=(d-fr) % aT∈bF
structure oU(hd:List Int)(fr aT:Int)(bF:List Int)(m:Nat)(T base:Int)(j:Nat):Prop where
 ml:m<=hd.length
 tf:T<=fr
 lo:∀i,(h:i<hd.length)->i<m->hd[i]<T
 hi:∀i,(h:i<hd.length)->m<=i->T<=hd[i]
 iff:∀d,T<=d->d<fr->(d∈hd↔wS fr aT bF d)
 bs:aT ∣ base-fr
 jl:j<bF.length
 nx:∀d,d<T->wS fr aT bF d->d<=base+bF[j]
 bt:base+bF[j]<T
section
variable{hd bF:List Int}{fr aT:Int}
theorem sG(m:1<=aT)(j:∀x∈bF,0<=x/\x<aT){base:Int}(g:aT ∣ base-fr)(d:Int):wS fr aT bF d↔∃c∈bF,∃t:Int,d=base+c+aT*t:=by
 unfold wS;constructor
 .intro h;obtain⟨k,l⟩:=g;have e:=agB (d-fr) aT;refine⟨_,h,(d-fr) / aT-k,?_⟩
  grind
 .rintro⟨c,b,t,rfl⟩;obtain⟨k,l⟩:=g;have:(base+c+aT*t-fr) % aT=c:=by
   have e:base+c+aT*t-fr=c+aT*(k+t):=by rw[Int.mul_add,<-l];omega
   rw[e,Int.add_mul_emod_self_left,ahf (j c b).1 (j c b).2]
  simp_all
theorem I6{aT t:Int}(b:1<=aT):(t<=-1/\aT*t<=-aT)\/(t=0/\aT*t=0)\/(1<=t/\aT<=aT*t):=by
 rcases aiS t 0 with h|h|h
 .left;have:=agy (show t<=-1 by omega) (show 0<=aT by omega);omega
 .simp_all
 .right;right;have:=agy (show 1<=t by omega) (show 0<=aT by omega);omega
theorem oU.start(m:1<=aT)(hc:∀x∈bF,0<=x/\x<aT)(g:bF.Pairwise (· < ·))(q:∀x∈hd,x<fr)(hl:0<bF.length):oU hd fr aT bF hd.length fr (fr-aT) (bF.length-1) where
 ml:=agn _
 tf:=ahw _
 lo:=λi h _=>q _ (IN h)
 hi:=λi h s=>by omega
 iff:=λd h1 h2=>by omega
 bs:=⟨-1,by rw[aim,Int.mul_one];omega⟩
 jl:=by omega
 nx:=λd h1 h2=>by
  obtain⟨c,b,t,rfl⟩:=(sG m hc (base:=fr-aT) ⟨-1,by rw[aim,Int.mul_one];omega⟩ d).1 h2;obtain⟨i,hi,rfl⟩:=agz b;have:=ko g (i:=i) (j:=bF.length-1) ap ap;have h3:=hc _ (IN hi);rcases I6 (t:=t) m with h|h|h<;>omega
 bt:=by have:=hc _ (IN (l:=bF) (n:=bF.length-1) ap);omega
theorem oU.off{m:Nat}{T base:Int}{j:Nat}(h:oU hd fr aT bF (m+1) T base j)(g:hd.Pairwise (· < ·))(F:1<=aT)(hc:∀x∈bF,0<=x/\x<aT)(s:m<hd.length)(B:hd[m]=base+bF[j]'(h.jl)){b:Int}{u:Nat}(A:u<bF.length)
  (v:aT ∣ b-fr) (E:∀d,d<hd[m]->wS fr aT bF d->d<=b+bF[u]) (H:b+bF[u]<hd[m]):oU hd fr aT bF m hd[m] b u where
 ml:=by have:=h.ml;omega
 tf:=by have:=h.bt;have:=h.tf;omega
 lo:=λi hi l=>agQ.1 g i m hi s l
 hi:=λi hi l=>ko g l hi
 iff:=λd h1 h2=>by
  rcases ahy d T with k|k
  .by_cases e:d=hd[m]
   .rw[e];refine⟨λ_=>?_,λ_=>IN s⟩;rw[B];exact(sG F hc h.bs _).2 ⟨bF[j]'(h.jl),IN h.jl,0,by rw[Int.mul_zero];omega⟩
   .constructor
    .intro z;obtain⟨i,hi,rfl⟩:=agz z;rcases ahj i (m+1)with q|q
     .have:=ko g (i:=i) (j:=m) ap s;omega
     .have:=h.hi i hi q;omega
    .intro y;have:=h.nx d k y;omega
  .exact h.iff d k h2
 bs:=v
 jl:=A
 nx:=E
 bt:=H
theorem oU.down{m:Nat}{T base:Int}{j:Nat}(h:oU hd fr aT bF (m+1) T base (j+1))(s:hd.Pairwise (· < ·))(b:bF.Pairwise (· < ·))(v:1<=aT)(hc:∀x∈bF,0<=x/\x<aT)(u:m<hd.length)(A:hd[m]=base+bF[j+1]'(h.jl)):oU hd fr aT bF m hd[m] base j:=by
 have y:=h.jl;have B:=agQ.1 b j (j+1) ap y ap;refine h.off s v hc u A ap h.bs (λd z g=>?_) ap;obtain⟨c,l,t,rfl⟩:=(sG v hc h.bs d).1 g;obtain⟨i,hi,rfl⟩:=agz l;have h3:=hc _ (IN hi);have h4:=hc _ (IN y);have h5:=hc _ (IN (show j<bF.length by omega));rcases I6 (t:=t) v with q|q|q
 .omega
 .rcases ahj j i with r|r
  .have:=ko b (i:=j+1) (j:=i) ap hi;omega
  .have:=ko b r (show j<bF.length by omega);omega
 .omega
theorem oU.wrap{m:Nat}{T base:Int}(h:oU hd fr aT bF (m+1) T base 0)(u:hd.Pairwise (· < ·))(b:bF.Pairwise (· < ·))(y:1<=aT)(hc:∀x∈bF,0<=x/\x<aT)(v:m<hd.length)(A:hd[m]=base+bF[0]'(h.jl)):oU hd fr aT bF m hd[m] (base-aT) (bF.length-1):=by
 have B:=h.jl;have g:aT ∣ base-aT-fr:=by
  have:=ahT h.bs (ahA aT)
  grind
 have h4:=hc _ (IN B);have h5:=hc _ (IN (show bF.length-1<bF.length by omega));refine h.off u y hc v A ap g (λd z l=>?_) ap;obtain⟨c,s,t,rfl⟩:=(sG y hc h.bs d).1 l;obtain⟨i,hi,rfl⟩:=agz s;have h3:=hc _ (IN hi);have h6:=ko b (i:=0) (j:=i) ap hi;have h7:=ko b (i:=i) (j:=bF.length-1) ap ap;rcases I6 (t:=t) y with q|q|q<;>omega
structure Stop(hd:List Int)(fr aT:Int)(bF:List Int)(m:Nat)(s:Int):Prop where
 ml:m<=hd.length
 s0:0<=s
 sf:s<=fr
 lo:∀i,(h:i<hd.length)->i<m->hd[i]<s
 hi:∀i,(h:i<hd.length)->m<=i->s<=hd[i]
 iff:∀d,s<=d->d<fr->(d∈hd↔wS fr aT bF d)
theorem oU.stop{m:Nat}{T base:Int}{j:Nat}(h:oU hd fr aT bF m T base j)(y:hd.Pairwise (· < ·))(h0:∀x∈hd,0<=x)(F:0<=fr){last s:Int}(b:(m=0/\last = -1)\/∃u:m-1<hd.length,0<m/\last=hd[m-1])
  (J:(base+bF[j]'(h.jl)<0/\last<0/\s=0)\/(¬ (base+bF[j]'(h.jl)<0/\last<0)/\base+bF[j]'(h.jl)≠last/\s=max (base+bF[j]'(h.jl)) last+1)):Stop hd fr aT bF m s:=by
 have E:=h.bt;have K:=h.tf;have I:last<T\/last = -1:=by
  rcases b with⟨_,e⟩|⟨u,h1,e⟩
  .omega
  .rw[e];exact .inl (h.lo _ u ap)
 have z:∀i,(hi:i<hd.length)->i<m->hd[i]<=last:=λi hi g=>by
  rcases b with⟨e,_⟩|⟨u,h1,e⟩
  .omega
  .rw[e];exact ko y ap u
 rcases J with⟨L,M,rfl⟩|⟨L,M,rfl⟩
 .have A:m=0:=by
   rcases b with⟨e,_⟩|⟨u,h1,e⟩
   .omega
   .have:=h0 _ (IN u);omega
  subst A;refine⟨ap,ap,F,λi hi g=>by omega,λi hi _=>h0 _ (IN hi),λd B v=>?_⟩;rcases ahy d T with q|q
  .constructor
   .intro l;obtain⟨i,hi,rfl⟩:=agz l;have:=h.hi i hi ap;omega
   .intro hc;have:=h.nx d q hc;omega
  .exact h.iff d q v
 .have H:-1<=last:=by
   grind
  refine⟨h.ml,ap,ap,λi hi g=>by have:=z i hi g;omega,λi hi g=>by have:=h.hi i hi g;omega,λd B v=>?_⟩;rcases ahy d T with q|q
  .constructor
   .intro l;obtain⟨i,hi,rfl⟩:=agz l;rcases ahj i m with r|r
    .grind
    .have:=h.hi i hi r;omega
   .intro hc;have:=h.nx d q hc;omega
  .exact h.iff d q v
end
structure oP(p q:aO):Prop where
 ok:cI q=ae
 fr:q.fr<=p.fr
 aT:q.aT ∣ p.aT
 mem:∀d,0<=d->bA q d=bA p d
def gd(fr s aT:Int)(bF:List Int):List Int:=bF.map λc=>(fr+c-s) % aT
theorem tz{p:aO}(s:0<=p.fr)(u:p.fr<=1099511627776)(v:1<=p.aT)(y:p.aT<=1099511627776)(z:p.head.length+p.bF.length<=1048576)(m:p.head.Pairwise (· < ·))(g:∀x∈p.head,0<=x/\x<p.fr)(q:p.bF.Pairwise (· < ·))(j:∀x∈p.bF,0<=x/\x<p.aT):cI p=ae:=by
 have a:=qK (limit:=p.fr) (last:=-1) (l:=p.head) (λx d=>⟨by have:=g x d;omega,(g x d).2⟩) m;have b:=qK (limit:=p.aT) (last:=-1) (l:=p.bF) (λx d=>⟨by have:=j x d;omega,(j x d).2⟩) q;simp only[cI,a,b,Bool.and_true,IS,decide_eq_true_eq];omega
theorem Qw{fr s aT c d:Int}(l:0<=c/\c<aT)(j:0<=d/\d<aT)(h:(fr+c-s) % aT=(fr+d-s) % aT):c=d:=by
 have g:=(tp (a:=fr+c-s) (b:=fr+d-s) (n:=aT)).1 h;rw[show fr+c-s-(fr+d-s)=c-d by omega]at g;obtain⟨k,m⟩:=g;rcases I6 (aT:=aT) (t:=k) ap with q|q|q<;>omega
theorem zh{fr s aT:Int}{bF:List Int}(q:1<=aT)(l:∀x∈bF,0<=x/\x<aT)(d:Int):(d-s) % aT∈gd fr s aT bF↔wS fr aT bF d:=by
 unfold gd wS;rw[agt];constructor
 .rintro⟨c,g,h⟩;have j:=(tp (a:=fr+c-s) (b:=d-s) (n:=aT)).1 h;rw[show fr+c-s-(d-s) = -(d-fr-c) by omega,Int.dvd_neg]at j;have m:=(acL (l c g).1 (l c g).2).2 j;simp_all
 .intro h;refine⟨_,h,?_⟩;rw[tp];have e:=agB (d-fr) aT;exact⟨-((d-fr) / aT),by rw[aim];omega⟩
theorem rq{fr s aT:Int}{bF g:List Int}(B:1<=aT)(q:bF.Pairwise (· < ·))(u:∀x∈bF,0<=x/\x<aT)(d:g.Perm (gd fr s aT bF))(l:g.Pairwise (·<=·)):g.Pairwise (· < ·)/\(∀x∈g,0<=x/\x<aT)/\g.length=bF.length:=by
 have m:(gd fr s aT bF).Nodup:=by
  unfold gd;rw[List.nodup_iff_pairwise_ne,List.pairwise_map];refine aij ?_ q;intro a b v z y e;have:=Qw (u a v) (u b z) e;omega
 have j:g.Nodup:=d.nodup_iff.2 m;refine⟨?_,λx A=>?_,by rw[d.length_eq];simp[gd]⟩
 .have:=List.Pairwise.and l (List.nodup_iff_pairwise_ne.1 j)
  grind
 .have:=d.mem_iff.1 A;unfold gd at this;obtain⟨c,-,rfl⟩:=agt.1 this;exact⟨agW _ ap,agL _ ap⟩
theorem KR{p:aO}(K:cI p=ae){b:Int}{g:List Int}(j:xc p.aT p.bF b g){m:Nat}{s:Int}(q:Stop p.head p.fr b g m s){u:List Int}(l:u.Perm (gd p.fr s b g))(y:u.Pairwise (·<=·))(I E:Tg) :
  oP p ⟨I,p.head.take m,s,b,E,u⟩:=by
 obtain⟨W,X,Y,Z,c,F,H,e,f⟩:=bC K;obtain⟨Q,S,U⟩:=rq j.p1 j.up j.mem l y;have L:b<=p.aT:=agZ ap j.dvd;have B:=j.len;have J:=q.ml;have A:=q.sf;have z:=q.s0;refine⟨tz z (by show s<=_;omega) j.p1 (by show b<=_;omega) (by show(p.head.take m).length+u.length<=_;rw[agO,U];omega) (F.sublist (List.take_sublist _ _)) (λx N=>?_) Q S,A,j.dvd,λd hd=>?_⟩
 .obtain⟨i,hi,rfl⟩:=ahe.1 N;have a:=H _ (IN (show i<p.head.length by omega));exact⟨ap,q.lo i ap ap⟩
 .have v:∀d,p.fr<=d->((d-p.fr) % p.aT∈p.bF↔wS p.fr b g d):=λd hd=>by
   have:=j.iff ((d-p.fr) % p.aT) (agW _ ap) (agL _ ap);rw[this,Int.emod_emod_of_dvd _ j.dvd];rfl
  have M:(d-s) % b∈u↔wS p.fr b g d:=by rw[l.mem_iff];exact zh j.p1 j.mem d
  unfold bA;simp only;by_cases k:s<=d
  .rw[bZ k];by_cases O:p.fr<=d
   .simp_all
   .rw[ct O];apply decide_eq_decide.2;rw[M,q.iff d k ap]
  .rw[ct k,ct ap];apply decide_eq_decide.2;constructor
   .grind
   .intro h;obtain⟨i,hi,rfl⟩:=agz h;refine ahe.2 ⟨i,?_,rfl⟩;rcases ahj i m with r|r
    .omega
    .have:=q.hi i hi r;omega
theorem KQ{p:aO}(A:cI p=ae)(y:p.bF=[]){s:Int}(q:(p.head=[]/\s=0)\/∃h:p.head.length-1<p.head.length,s=p.head[p.head.length-1]+1)(z v:Tg):oP p ⟨z,p.head,s,1,v,[]⟩:=by
 obtain⟨B,E,F,H,I,l,m,J,K⟩:=bC A;have b:∀x∈p.head,0<=x/\x<s:=λx u=>by
  have a:=m x u;rcases q with⟨e,-⟩|⟨h,e⟩
  .simp_all
  .obtain⟨i,hi,rfl⟩:=agz u;have:=ko l (i:=i) (j:=p.head.length-1) ap h;omega
 have g:0<=s/\s<=p.fr:=by
  rcases q with⟨e,rfl⟩|⟨h,e⟩
  .omega
  .have:=m _ (IN h);omega
 refine⟨tz g.1 (by show s<=_;omega) (ahw _) (show(1:Int)<=1099511627776 by decide) ge l b List.Pairwise.nil bv,g.2,Int.one_dvd _,λd hd=>?_⟩;unfold bA;simp only[y];by_cases k:s<=d
 .rw[bZ k];have:d ∉ p.head:=λh=>by have:=b d h;omega
  simp_all
 .rw[ct k,ct ap]
theorem oy{tab:TB}{fn:Nat}{k:List dU}{t:T}{q:List gX}{H:an}{Q:Option aE->St->Prop}{u:Option Nat}{b s d:Nat}{tm:T}{ps:List P}{l bd:aE}{st:dt}{j:Nat}(v:H[b]?=aa (.lp s tm ps l bd st (aa (.exit j)) d))(g:st≠.busy)
  (h:WP tab fn u (.code (.exit j)::k) ⟨t,q,H.set b (.lp s tm ps l bd .exhausted (aa (.exit j)) d)⟩ Q):WP tab fn u (.mh b::k) ⟨t,q,H⟩ Q:=by
 refine jK h λm d n=>?_;simp only[run,v,ct g]
theorem Du(x:FC)(H:an):∃r H',Ev tab (.fn Xp) [.c (.f x)] H r H'/\(r=.c (.cl wV [.ptr H.length 0 0])/\H'=H++[.box [.f x] 0]):=by
 refine de rfl rfl λQ b=>?_;apply ai;simp;apply ai;simp;exact az (b _ _ _ rfl (dy bv) ⟨rfl,rfl⟩)
theorem Dv{b bx:Nat}{g:Tg}{l:List Int}{PP:Nat->an->Prop}{EX:an->Prop}(U:l.length<=1000000)(q:∀i H,PP i H->∃a,H[bx]?=aa (.box [.f (sl g (ints l))] a)){H:an}(F:PP l.length H)
  (O:∀i (h:i<l.length) H,PP (i+1) H->∃r H',Ev tab (.yield b) [vi i,vi l[i]] H r H'/\((r=vb ae/\PP i H')\/(r=vb ag/\EX H'))) :
  ∃r H',Ev tab (.fn wV) [.c (.yl b),.c (.ptr bx 0 0)] H r H'/\(r=.t []/\(PP 0 H'\/EX H')):=by
 refine de rfl rfl λQ I=>?_;obtain⟨a,y⟩:=q _ _ F;apply ai;simp[y,aZ (n:=(l.length:Int)-1)];refine ay ?_;refine dc (λm s=>∃(t:T) (J:an),s=⟨t,[],J⟩/\m<=l.length/\t.g 0=.c (.yl b)/\t.g 1=.c (.ptr bx 0 0)/\t.g 3=vi ((m:Int)-1)/\PP m J) l.length
  ⟨_,H,rfl,agn _,bv,bv,bv,F⟩ ?_
 rintro m s ⟨t,J,rfl,W,z,A,j,B⟩ S;apply au;apply ai;simp[j];by_cases M:0<m
 .obtain⟨i,rfl⟩:∃i,m=i+1:=⟨m-1,ap⟩
  have v:i<l.length:=by omega
  obtain⟨a,y⟩:=q _ _ B;have K:((i+1:Nat):Int)-1=(i:Int):=by omega
  have d:=λH:an=>bz (H:=H) (g:=g) (rows:=ints l) (sz:=1) (k:=.i64) (i:=(i:Int)) ap (by simp[ints];omega);have x:=λH:an=>dZ (H:=H) v;simp at d;rw[K]at j;obtain⟨r,J',u,N⟩:=O i v J B;refine aw ge (aR ?_);apply au;refine ay ?_;rcases N with⟨rfl,E⟩|⟨rfl,L⟩
  .apply ai;simp[z,A,j,y,d,x,u.eq];refine aD bv (aR (av (aq (.inl rfl) ?_)));simp[j,aZ (n:=(i:Int)-1)];exact S i _ ap ⟨_,_,rfl,ap,by simp[z],by simp[A],bv,E⟩
  .apply ai;simp[z,A,j,y,d,x,u.eq];refine aw bv ?_;exact az (I _ _ _ rfl rfl ⟨rfl,.inr L⟩)
 .have:m=0:=by omega
  subst this;refine aD bv ?_;refine bJ rfl ?_;exact cX (I _ _ _ rfl rfl ⟨rfl,.inl B⟩)
end Go.Proofs.YtelifakcllijpaaGreat
