/-
  ai9 sV ns km and sV mG answer, for all arguments of aaj kind, in sV small machine: part 1.
-/
import Derived.Test.YtgfdmhmmjbihiaaGreatTab
import Derived.Test.YtgfdmhmmjbihiaaGreatK3
import Derived.Test.YtgfdmhmmjbihiaaGreatK4
import Derived.KernelRfl
open Option renaming some->aa,none->ab
open Bool renaming true->ae,false->ag
open Go.IntKind renaming wrap->ah
open Int renaming tmod_eq_emod_of_nonneg->asG, tdiv_eq_ediv_of_nonneg->asO, ediv_nonneg->arW, le_trans->ar1, ediv_le_self->asv, fdiv_eq_ediv_of_nonneg->as6, mul_nonneg->arS, mul_le_mul->asS, emod_nonneg->arJ, emod_lt_of_pos->arE, mul_neg->as1, mul_le_mul_of_nonneg_left->ari, tmod_lt_of_pos->as3, lt_tmod_of_pos->as4, emod_eq_emod_iff_emod_sub_eq_zero->atx, dvd_mul_right->atb, gcd->arU, lt_or_le->asm, dvd_refl->asw, le_of_dvd->ar2, emod_add_mul_ediv->arn, mul_comm->ar6, gcd_sub_mul_right_left->as7, mul_sub->asM, mul_assoc->asC, mul_left_comm->asV, dvd_sub->asL, dvd_mul_left->att, dvd_trans->ar3, gcd_dvd_left->asR, gcd_dvd_right->asW, gcd_pos_of_ne_zero_left->asb, ediv_mul_cancel->atQ, natCast_mul->atm, dvd_add->atL, tmod_eq_zero_of_dvd->atl, mul_le_mul_of_nonneg_right->arA, le_refl->ar9, mul_one->atA, toNat_natCast->ar7, natCast_dvd_natCast->atF
open Nat renaming gcd->asn, lt_trichotomy->asz, min_eq_left->asK, gcd_dvd_right->atc, le_of_ble_eq_true->atr
open List renaming drop_eq_getElem_cons->arp, getElem_mem->aq7, pairwise_iff_getElem->arR, getElem_of_mem->ary, pairwise_cons->atC, mem_cons->arM, all_eq_true->ars, nil_append->asu, take_add_one->arD, getElem?_eq_getElem->aq2, take_length->arz, getElem?_append_left->aq1, getElem?_set_ne->aq0, getElem?_set_self->aq6, mem_cons_self->arl, mem_cons_of_mem->arj, not_mem_nil->atu, mem_append->ard, mem_singleton->arb, drop_zero->asp, take_of_length_le->arw, take_take->atf, mem_append_left->ar4, mem_append_right->asA, map_cons->arf, map_nil->art, getElem?_eq_none_iff->asQ, pairwise_append->asT, pairwise_singleton->asE, append_assoc->arZ
open Bool renaming true_and->ash, and_eq_true->aq3, eq_iff_iff->asX
open Option.some renaming inj->asN
set_option linter.unusedVariables false
set_option linter.constructorNameAsVariable false
set_option linter.unusedSimpArgs false
set_option linter.unusedSectionVars false
set_option linter.unnecessarySimpa false
set_option maxRecDepth 100000
namespace Go.Proofs.YtgfdmhmmjbihiaaGreat
open Go Km
abbrev u64(n:Int):V:=.c (.f (.int .u64 n))
theorem fU{n:Int}(b:0<=n)(d:n<=18446744073709551615):IntKind.wrap .u64 n=n:=by
 simp only[IntKind.wrap,IntKind.bits,IntKind.signed];simp;omega
theorem BT{a b:Int}(h:0<=a)(d:0<b):bL .rem (u64 a) (u64 b)=aa (u64 (a % b)):=by
 rw[fQ (by omega),asG h]
theorem ao3{a b:Int}(h:0<=a)(g:0<b)(d:a<=18446744073709551615):bL .quo (u64 a) (u64 b)=aa (u64 (a / b)):=by
 rw[mT (by omega),asO h,fU (arW h (by omega)) (ar1 (asv _ h) d)]
theorem oP{a:Int}(b:0<=a)(g:a<=9223372036854775807):bH tab 129 [vi a]=Eq (u64 a):=bH.eq (by
 refine bD rfl rfl λQ d=>?_;apply ai;simp;refine an (ai ?_);simp;refine aA (by simp;omega) (aJ ?_);apply ai;simp[fU (n:=a) b (by omega)];refine aB (d _ _ ?_);simp)
theorem YW{x y:Nat}(h:0<y):asn y (x % y)=asn x y:=by rw[Nat.gcd_comm x y,Nat.gcd_rec y x,Nat.gcd_comm]
theorem rJ{a b:Nat}(z:(a:Int)<=4611686018427387904)(A:(b:Int)<=4611686018427387904):bH tab 88 [vi a,vi b]=Eq (vi (asn a b:Nat)):=bH.eq (by
 have m1:=oP (a:=a) (by omega) (by omega);have m2:=oP (a:=b) (by omega) (by omega);refine bD rfl rfl λQ B=>?_;apply ai;simp;apply ai;simp[m1,m2];refine an (az ?_);refine bT (λm s=>∃(x y:Nat) (t:T),s=⟨t,[],[]⟩/\m=y/\(x:Int)<=4611686018427387904/\(y:Int)<=4611686018427387904/\t.g 5=u64 x/\t.g 6=u64 y/\asn x y=asn a b) b ⟨a,b,_,rfl,rfl,z,A,by simp,by simp,rfl⟩ ?_;rintro m s ⟨x,y,t,rfl,rfl,H,I,d,l,u⟩ F;refine an (ai ?_);simp[l];by_cases q:m=0
 .subst q;refine aA (by simp) (aS rfl ?_);have j:x=asn a b:=by rw[<-u];simp
  have E:¬ ((9223372036854775807:Int)<x):=by omega
  refine an (ai ?_);simp[d,E];refine ba (by simp) ?_;apply ai;simp[d,aM (n:=(x:Int))];refine aB (B _ _ ?_);simp[j]
 .have v:=BT (a:=x) (b:=m) (by omega) (by omega);rw[show(x:Int) % (m:Int)=((x % m:Nat):Int) from(Int.natCast_emod x m).symm]at v;have g:x % m<m:=Nat.mod_lt _ (by omega);refine au (by simp[q]) (aJ ?_);refine az (aq (.inl rfl) ?_);simp[d,l,v];refine ay (F (x % m) _ g ⟨m,x % m,_,rfl,rfl,by omega,by omega,by simp,by simp,by rw[YW (by omega)];exact u⟩))
theorem Yk{x:Int}(g:0<=x)(j:x<=4294967295):bL .and (u64 x) (u64 4294967295)=aa (u64 x):=by
 obtain⟨n,rfl⟩:∃n:Nat,x=n:=⟨x.toNat,by omega⟩
 have e:(BitVec.ofInt 64 (n:Int) &&& BitVec.ofInt 64 4294967295).toNat=n:=by
  rw[BitVec.toNat_and];have b:(BitVec.ofInt 64 (n:Int)).toNat=n:=by simp[BitVec.toNat_ofInt];omega
  have d:(BitVec.ofInt 64 4294967295).toNat=2 ^ 32-1:=by decide
  rw[b,d,Nat.and_two_pow_sub_one_eq_mod,Nat.mod_eq_of_lt (by omega)]
 have key:IntKind.wrap .u64 ((BitVec.ofInt 64 (n:Int) &&& BitVec.ofInt 64 4294967295).toNat:Int)=n:=by rw[e];exact fU (by omega) (by omega)
 exact congrArg (λk:Int=>aa (u64 k)) key
theorem BM{x:Int}(_:0<=x):bL .shr (u64 x) (u64 32)=aa (u64 (x / 4294967296)):=by
 simp only[bL];rw[aR (by decide),show min (Int.toNat 32) IntKind.u64.bits=32 from rfl,as6 _ (by decide)];rfl
theorem oU{x y:Int}(q:0<=x)(K:x<=2147483648)(g:0<=y)(L:y<=2147483648):bH tab 219 [u64 x,u64 y]=Eq (.t [u64 0,u64 (x*y)]):=bH.eq (by
 have d:0<=x*y:=arS q g;have F:x*y<=2147483648*2147483648:=asS K L g (by decide);have j:x*y / 4294967296<=4294967295:=by omega
 have b:0<=x*y / 4294967296:=by omega
 have a1:=Yk q (show x<=4294967295 by omega);have A:=Yk g (show y<=4294967295 by omega);have s:=BM q;have u:=BM g;have I:x / 4294967296=0:=by omega
 have J:y / 4294967296=0:=by omega
 rw[I]at s;rw[J]at u;have H:=BM d;have B:=Yk b j;have l:=BM b;have sz:x*y / 4294967296 / 4294967296=0:=by omega
 rw[sz]at l;have v:IntKind.wrap .u64 (x*y)=x*y:=fU d (by omega);have z:IntKind.wrap .u64 (x*y / 4294967296)=x*y / 4294967296:=fU b (by omega);have m:IntKind.wrap .u64 0=0:=by decide
 refine bD rfl rfl λQ E=>?_;apply ai;simp;apply ai;simp[a1];apply ai;simp[s];apply ai;simp[A];apply ai;simp[u];apply ai;simp[v];apply ai;simp[H,m,z];apply ai;simp[B];apply ai;simp[l];apply ai;simp[m,z];apply ai;simp[m,l];apply ai;simp[v];refine aB (E _ _ ?_);simp)
theorem xC{x n:Int}(j:0<=x)(s:x<=9223372036854775807)(g:0<n)(n1:n<=9223372036854775807):bH tab 221 [u64 0,u64 x,u64 n]=Eq (.t [u64 (x / n),u64 (x % n)]):=bH.eq (by
 have b:¬ (n=0):=by omega
 have d:¬ (n<=0):=by omega
 have l:=ao3 j g (by omega);have m:=BT j g;refine bD rfl rfl λQ q=>?_;apply ai;simp;refine an (ai ?_);simp;refine ba (by simp[b]) ?_;refine an (ai ?_);simp;refine ba (by simp[d]) ?_;refine an (ai ?_);simp;refine au (by simp) ?_;apply ai;simp[l,m];refine aB (q _ _ ?_);simp)
def dG(n lo hi:Int):Bool:=decide (lo<=n)&&decide (n<=hi)
theorem LF{n lo hi:Int}(h:dG n lo hi=ae):lo<=n/\n<=hi:=by simpa[dG]using h
structure aE where
 hg:Tg
 head:List Int
 fr:Int
 aH:Int
 cg:Tg
 aZ:List Int
def aE.row(p:aE):List FC:=[sl p.hg (ints p.head),fi p.fr,fi p.aH,sl p.cg (ints p.aZ)]
def aC(l:List aE):List (List FC):=l.map aE.row
@[simp] theorem ahm (l:List aE):(aC l).length=l.length:=by simp[aC]
theorem bh(l:List aE):cd 4 (aC l):=cd.map λ_=>rfl
theorem cG{l:List aE}{j:Nat}(b:j<l.length):(aC l)[j]?=aa l[j].row:=by simp[aC,b]
def cB(limit last:Int):List Int->Bool
 |[]=>ae| n::r=>decide (last<n)&&decide (n<limit)&&cB limit n r
theorem oZ{limit last:Int}{l:List Int}{j:Nat}(b:j<l.length):cB limit last (l.drop j)=(decide (last<l[j])&&decide (l[j]<limit)&&cB limit l[j] (l.drop (j+1))):=by
 rw[arp b];rfl
def cm(p:aE):Bool:=decide (0<=p.fr)&&decide (p.fr<=1099511627776)&&decide (1<=p.aH)&&decide (p.aH<=1099511627776) &&
 decide ((p.head.length:Int)+p.aZ.length<=1048576)&&cB p.fr (-1) p.head&&cB p.aH (-1) p.aZ
theorem Lr(g:Tg)(l:List Int)(limit:Int)(B:l.length<=9223372036854775807):Kf tab 100 [.c (.f (sl g (ints l))),vi limit] (vb (cB limit (-1) l)):=by
 refine dL rfl rfl λH Q q=>?_;apply ai;simp;apply ai;simp;apply an;apply ai;simp;refine cC l.length (λj t A=>t.g 1=vi limit/\t.g 8=.c (.f (sl g (ints l)))/\H=A/\∃last,t.g 5=vi last/\cB limit (-1) l=cB limit last (l.drop j)) B (by decide) (by decide) (by simp) (by simp) (by simp) ?_ ?_
 .rintro j t _ x ⟨d,m,rfl,last,u,b⟩ s v next
  rw[oZ x]at b;refine az ?_;apply ai;simp[s,m,bO,x,dJ];apply an;apply ai;simp[u,d];by_cases y:l[j]<=last
  .simp[y];refine au (by simp) ?_;apply ai;simp;refine aB (q _ _ ?_);simp[b,show¬ last<l[j] by omega]
  simp[y,d];by_cases z:limit<=l[j]
  .simp[z];refine au (by simp) ?_;apply ai;simp;refine aB (q _ _ ?_);simp[b,show¬ l[j]<limit by omega]
  simp[z];refine aA (by simp) ?_;refine aJ ?_;refine aq (.inl rfl) ?_;simp;refine ay (next _ _ ?_ (by simp[s]) (by simp[v]));rw[decide_eq_true (by omega),decide_eq_true (by omega)]at b;exact⟨by simp[d],by simp[m],rfl,l[j],by simp,by simpa using b⟩
 .rintro t _ ⟨d,m,rfl,last,u,b⟩ s v;apply ai;simp;refine aB (q _ _ ?_);simp[b,cB]
theorem nv(g:Tg)(l:List Int)(limit:Int)(b:l.length<=9223372036854775807) :
  bH tab 100 [.c (.f (sl g (ints l))),vi limit]=Eq (vb (cB limit (-1) l)):=(Lr g l limit b).eq
theorem LG{n:Int}(b:9223372036854775807<n)(d:n<=18446744073709551615):IntKind.wrap .i64 n=n-18446744073709551616:=by
 simp only[IntKind.wrap,IntKind.bits,IntKind.signed];simp;omega
theorem oc:∀(l:List Int) (limit last:Int),cB limit last l=ae->l.length=0\/last+l.length<limit
 |[],_,_,_=>.inl rfl
 |n::r,limit,last,h=>by
  simp[cB]at h;have:=oc r limit n h.2;simp;omega
theorem akV(p:aE)(v:p.head.length<=9223372036854775807)(x:p.aZ.length<=9223372036854775807) :
  Kf tab 65 [.a (p.row.map .f)] (vb (cm p)):=by
 refine dL rfl rfl λH Q d=>?_;apply ai;simp[aE.row];apply ai;simp;by_cases l:0<=p.fr
 case neg=>
  simp[l];refine aB (d _ _ ?_);simp[cm,l]
 simp[l];by_cases m:p.fr<=1099511627776
 case neg=>
  simp[m];refine aB (d _ _ ?_);simp[cm,m]
 simp[m];by_cases q:1<=p.aH
 case neg=>
  simp[q];refine aB (d _ _ ?_);simp[cm,q]
 simp[q];by_cases g:p.aH<=1099511627776
 case neg=>
  simp[g];refine aB (d _ _ ?_);simp[cm,g]
 by_cases y:p.head.length+p.aZ.length<=9223372036854775807
 case neg=>
  have e:IntKind.wrap .i64 ((p.head.length:Int)+p.aZ.length)=(p.head.length:Int)+p.aZ.length-18446744073709551616:=LG (by omega) (by omega);simp[g,e,show(p.head.length:Int)+p.aZ.length-18446744073709551616<=1048576 by omega,nv p.hg p.head p.fr v];cases j:cB p.fr (-1) p.head
  .simp;refine aB (d _ _ ?_);simp[cm,j]
  simp[nv p.cg p.aZ p.aH x];have u:cB p.aH (-1) p.aZ=ag:=by
   have a:=oc _ _ _ j;cases u:cB p.aH (-1) p.aZ
   .rfl
   .have b:=oc _ _ _ u;omega
  refine aB (d _ _ ?_);simp[cm,u]
 simp[g,aM (n:=(p.head.length:Int)+p.aZ.length)];by_cases s:(p.head.length:Int)+p.aZ.length<=1048576
 case neg=>
  simp[s];refine aB (d _ _ ?_);simp[cm,s]
 simp[s,nv p.hg p.head p.fr v];cases j:cB p.fr (-1) p.head
 .simp;refine aB (d _ _ ?_);simp[cm,j]
 simp[nv p.cg p.aZ p.aH x];refine aB (d _ _ ?_);simp[cm,l,m,q,g,s,j]
def aE.Sm(p:aE):Prop:=p.head.length<=9223372036854775807/\p.aZ.length<=9223372036854775807
theorem sk(p:aE)(h:p.Sm):bH tab 65 [.a (p.row.map .f)]=Eq (vb (cm p)):=(akV p h.1 h.2).eq
theorem jg{p:aE}(h:cm p=ae):p.Sm:=by
 simp[cm]at h;exact⟨by omega,by omega⟩
structure dc where
 tg:Tg
 fs:List aE
def dc.row(t:dc):List FC:=[sl t.tg (aC t.fs)]
def aU(l:List dc):List (List FC):=l.map dc.row
@[simp] theorem agZ (l:List dc):(aU l).length=l.length:=by simp[aU]
theorem fP(l:List dc):cd 1 (aU l):=cd.map λ_=>rfl
theorem hO{l:List dc}{j:Nat}(b:j<l.length):(aU l)[j]?=aa l[j].row:=by simp[aU,b]
def dc.Sm(t:dc):Prop:=t.fs.length<=9223372036854775807/\∀p∈t.fs,p.Sm
def iR(t:dc):Bool:=decide (1<=(t.fs.length:Int))&&decide ((t.fs.length:Int)<=4)&&t.fs.all cm
def ko(l:List dc):Bool:=decide ((l.length:Int)<=64)&&l.all iR
theorem Yi{b:Type}{l:List b}{p:b->Bool}{j:Nat}(d:j<l.length):(l.drop j).all p=(p l[j]&&(l.drop (j+1)).all p):=by
 rw[arp d,List.all_cons]
theorem aja(p:aE)(h:p.Sm):Kf tab 64 [.a (p.row.map .f)] (vb (!cm p)):=by
 refine dL rfl rfl λH Q d=>?_;have b:=sk p h;simp[aE.row]at b;apply ai;simp[aE.row];apply ai;simp[b];refine aB (d _ _ ?_);simp
theorem JY(g:Tg)(l:List aE)(d:l.length<=9223372036854775807)(h:∀p∈l,p.Sm) :
  bH tab 63 [.c (.f (sl g (aC l))),.c (.f (.fn 64 []))]=Eq (vb (l.any λp=>!cm p)):=
 (gd Ya (iE Yb l aE.row (λr=>.a (r.row.map .f)) (λp=>!cm p) g 64 [] d
  (λj b H=>dU (bh l) (cG b)) (λp m=>aja p (h p m)))).eq
theorem Ad(g:Tg)(l:List dc)(F:l.length<=9223372036854775807)(h:∀t∈l,t.Sm):Kf tab 23 [.a [.f (sl g (aU l))]] (vb (ko l)):=by
 refine dL rfl rfl λH Q s=>?_;apply ai;simp;apply an;apply ai;simp;by_cases y:(64:Int)<l.length
 .simp[y];refine au (by simp) ?_;apply ai;simp;refine aB (s _ _ ?_);simp[ko,show¬ (l.length:Int)<=64 by omega]
 simp[y];refine aA (by simp) ?_;refine aJ ?_;apply an;apply ai;simp;refine cC l.length (λj t B=>t.g 10=.c (.f (sl g (aU l)))/\(∃J,B=H++J)/\l.all iR=(l.drop j).all iR) F (by decide) (by decide) (by simp) (by simp) (by simp) ?_ ?_
 .rintro j t _ m ⟨g10,⟨J,rfl⟩,d⟩ u v next
  rw[Yi m]at d;have x:=h l[j] (aq7 m);have b:=mq (H:=H++J) (k:=0) (fP l) (hO m) rfl;refine az ?_;apply ai;simp at b;simp[u,g10,bO,m,b];have bad:iR l[j]=ag->∀(t:T) (J:aj) k,WP tab 23 ab (.code (.region [⟨D 2,.cP (.k (.c (.f (.bool ag)))),ab⟩] [])::.code .ret::k) ⟨t,[],H++J⟩ Q:=by
   intro E t J k;refine aq (.inl rfl) ?_;simp;refine aB (s _ _ ?_);simp[ko,d,E]
  apply ai;simp;by_cases z:(l[j].fs.length:Int)<1
  .simp[z];exact au (by simp) (an (bad (by simp[iR,show¬ 1<=(l[j].fs.length:Int) by omega]) _ _ _))
  simp[z];by_cases A:(4:Int)<l[j].fs.length
  .simp[A];exact au (by simp) (an (bad (by simp[iR,show¬ (l[j].fs.length:Int)<=4 by omega]) _ _ _))
  simp[A,JY l[j].tg l[j].fs x.1 x.2];cases q:l[j].fs.any λp=>!cm p
  .have:iR l[j]=ae:=by
    simp[iR]at q ⊢;exact⟨⟨by omega,by omega⟩,q⟩
   refine aA (by simp) ?_;refine aJ (ay (next _ _ ?_ (by simp[u]) (by simp[v])));rw[this,ash]at d;exact⟨by simp[g10],⟨_,rfl⟩,d⟩
  .exact au (by simp) (an (bad (by simp[iR]at q ⊢;intro _ _;exact q) _ _ _))
 .rintro t _ ⟨g10,⟨J,rfl⟩,d⟩ u v;apply ai;simp;refine aB (s _ _ ?_);simp[ko,d,show(l.length:Int)<=64 by omega]
theorem oK(a:Int):bH tab 89 [vi a]=Eq (vb ag):=(show Kf tab 89 [vi a] (vb ag) by
 refine dL rfl rfl λH Q b=>?_;apply ai;simp;apply ai;simp;refine aB (b _ _ ?_);simp).eq
def qC(a b:Int):Int:=if a<b then -1 else if b<a then 1 else 0
theorem zz(a b:Int):Kf tab 48 [vi a,vi b] (vi (qC a b)):=by
 refine dL rfl rfl λH Q g=>?_;apply ai;simp;apply ai;simp[oK];apply ai;simp[oK];apply an;apply ai;simp;refine ba (by simp) ?_;apply an;apply ai;simp;refine ba (by simp) ?_;apply an;apply ai;simp;by_cases h:a<b
 .refine au (by simp[h]) ?_;apply ai;simp;refine aB (g _ _ ?_);simp[qC,h]
 refine ba (by simp[h]) ?_;apply an;apply ai;simp;by_cases d:b<a
 .refine au (by simp[d]) ?_;apply ai;simp;refine aB (g _ _ ?_);simp[qC,h,d]
 refine ba (by simp[d]) ?_;apply ai;simp;refine aB (g _ _ ?_);simp[qC,h,d]
theorem zA(a b:Int):bH tab 48 [vi a,vi b]=Eq (vi (qC a b)):=(zz a b).eq
def orI:List Int->Int
 |[]=>0| a::r=>if a=0 then orI r else a
theorem Zy{l:List Int}{j:Nat}(b:j<l.length):orI (l.drop j)=if l[j]=0 then orI (l.drop (j+1))else l[j]:=by
 rw[arp b];rfl
theorem aot(g:Tg)(l:List Int)(y:l.length<=9223372036854775807):Kf tab 47 [.c (.f (sl g (ints l)))] (vi (orI l)):=by
 refine dL rfl rfl λH Q s=>?_;apply ai;simp;apply ai;simp;apply an;apply ai;simp;refine cC l.length (λj t x=>t.g 3=vi 0/\t.g 6=.c (.f (sl g (ints l)))/\H=x/\orI l=orI (l.drop j)) y (by decide) (by decide) (by simp) (by simp) (by simp) ?_ ?_
 .rintro j t _ v ⟨d,m,rfl,b⟩ q u next
  rw[Zy v]at b;refine az ?_;apply ai;simp[q,m,bO,v,dJ];apply ai;simp[d];by_cases h:l[j]=0
  .refine aA (by simp[h]) ?_;refine aJ (ay (next _ _ ?_ (by simp[q]) (by simp[u])));rw[bw h]at b;exact⟨by simp[d],by simp[m],rfl,b⟩
  .refine au (by simp[h]) ?_;apply ai;simp;refine aB (s _ _ ?_);simp[b,h]
 .rintro t _ ⟨d,m,rfl,b⟩ q u;apply ai;simp[d];refine aB (s _ _ ?_);simp[b,orI]
theorem aou(g:Tg)(l:List Int)(b:l.length<=9223372036854775807):bH tab 47 [.c (.f (sl g (ints l)))]=Eq (vi (orI l)):=(aot g l b).eq
theorem ajs(n lo hi:Int):Kf tab 58 [vi n,vi lo,vi hi] (vb (dG n lo hi)):=by
 refine dL rfl rfl λH Q b=>?_;apply ai;simp;apply ai;by_cases h:lo<=n
 .simp[h];refine aB (b _ _ ?_);simp[dG,h]
 .simp[h];refine aB (b _ _ ?_);simp[dG,h]
@[simp] theorem ap5 (n lo hi:Int):bH tab 58 [vi n,vi lo,vi hi]=Eq (vb (dG n lo hi)):=(ajs n lo hi).eq
structure bK where
 day:Int
 fr:Int
 to:Int
deriving DecidableEq
def bK.row(x:bK):List FC:=[fi x.day,fi x.fr,fi x.to]
def dr(l:List bK):List (List FC):=l.map bK.row
@[simp] theorem afw (l:List bK):(dr l).length=l.length:=by simp[dr]
theorem js(l:List bK):cd 3 (dr l):=cd.map λ_=>rfl
theorem mn{l:List bK}{j:Nat}(b:j<l.length):(dr l)[j]?=aa l[j].row:=by simp[dr,b]
def nZ(x y:bK):Int:=orI [qC x.fr y.fr,qC x.day y.day,qC x.to y.to]
theorem ZB(x y:bK):Kf tab 37 [.a (x.row.map .f),.a (y.row.map .f)] (vi (nZ x y)):=by
 refine dL rfl rfl λH Q d=>?_;have b:=aou .fs [qC x.fr y.fr,qC x.day y.day,qC x.to y.to] (by simp);simp[ints,sl,Tg.fc]at b;apply ai;simp[bK.row];apply ai;simp[zA,deep,kg,mz,b];refine aB (d _ _ ?_);simp[nZ]
theorem yk(x y:bK):bH tab 37 [.a (x.row.map .f),.a (y.row.map .f)]=Eq (vi (nZ x y)):=(ZB x y).eq
theorem Ae(g:Tg)(l:List dc)(b:l.length<=9223372036854775807)(h:∀t∈l,t.Sm):bH tab 23 [.a [.f (sl g (aU l))]]=Eq (vb (ko l)):=(Ad g l b h).eq
structure fI where
 mg:Tg
 ts:List dc
 min:Int
def fI.row(c:fI):List FC:=[sl c.mg (aU c.ts),fi c.min]
def cT(l:List fI):List (List FC):=l.map fI.row
@[simp] theorem aav (l:List fI):(cT l).length=l.length:=by simp[cT]
theorem iH(l:List fI):cd 2 (cT l):=cd.map λ_=>rfl
theorem kK{l:List fI}{j:Nat}(b:j<l.length):(cT l)[j]?=aa l[j].row:=by simp[cT,b]
structure ea where
 cg:Tg
 cs:List fI
 len:Int
 xg:Tg
 xs:List bK
def ea.row(s:ea):List FC:=[sl s.cg (cT s.cs),fi s.len,sl s.xg (dr s.xs)]
def ea.Sm(s:ea):Prop:=s.cs.length<=9223372036854775807/\s.xs.length<=9223372036854775807/\∀c∈s.cs,c.ts.length<=9223372036854775807/\∀t∈c.ts,t.Sm
def ef:Option Int->List fI->Bool
 |_,[]=>ae| prev,c::r=>ko c.ts&&dG c.min (-4320) 4320&&(prev.all λm=>decide (m<c.min))&&ef (aa c.min) r
def oI(x:bK):Bool:=dG x.day 0 1099511627776&&dG x.fr (-2251799813685248) 1583296743997439&&dG x.to (x.fr+1) (x.fr+10080)
def gq:Option bK->List bK->Bool
 |_,[]=>ae| prev,x::r=>oI x&&(prev.all λm=>decide (nZ m x<0))&&gq (aa x) r
def fT(s:ea):Bool:=decide ((s.cs.length:Int)<=64)&&dG s.len 1 10080&&decide ((s.xs.length:Int)<=4096)&&ef ab s.cs&&gq ab s.xs
theorem tc{p:Option Int}{l:List fI}{j:Nat}(b:j<l.length):ef p (l.drop j)=(ko l[j].ts&&dG l[j].min (-4320) 4320&&(p.all λm=>decide (m<l[j].min))&&ef (aa l[j].min) (l.drop (j+1))):=by
 rw[arp b];rfl
theorem xE{p:Option bK}{l:List bK}{j:Nat}(b:j<l.length):gq p (l.drop j)=(oI l[j]&&(p.all λm=>decide (nZ m l[j]<0))&&gq (aa l[j]) (l.drop (j+1))):=by
 rw[arp b];rfl
theorem Lz(s:ea)(h:s.Sm):Kf tab 35 [.a (s.row.map .f)] (vb (fT s)):=by
 obtain⟨hc,hx,U⟩:=h;refine dL rfl rfl λH Q hQ=>?_;have bad:fT s=ag->∀(t:T) (J:aj) k,WP tab 35 ab (.code (.region [⟨D 2,.cP (.k (.c (.f (.bool ag)))),ab⟩] [])::.code .ret::k) ⟨t,[],H++J⟩ Q:=by
  intro hf t J k;refine aq (.inl rfl) ?_;simp;refine aB (hQ _ _ ?_);simp[hf]
 apply ai;simp[ea.row];apply an;apply ai;simp;by_cases k1:(64:Int)<s.cs.length
 .simp[k1];exact au (by simp) (an (bad (by simp[fT,show¬ (s.cs.length:Int)<=64 by omega]) _ _ _))
 simp[k1];cases k2:dG s.len 1 10080
 .simp;exact au (by simp) (an (bad (by simp[fT,k2]) _ _ _))
 simp;by_cases k3:(4096:Int)<s.xs.length
 .simp[k3];exact au (by simp) (an (bad (by simp[fT,show¬ (s.xs.length:Int)<=4096 by omega]) _ _ _))
 simp[k3];have hS:fT s=(ef ab s.cs&&gq ab s.xs):=by simp[fT,k2,show(s.cs.length:Int)<=64 by omega,show(s.xs.length:Int)<=4096 by omega]
 rw[hS]at bad;refine aA (by simp) ?_;refine aJ ?_;apply an;apply ai;simp;obtain⟨l,v⟩:=aQ ([C.f (sl s.cg (cT s.cs)),C.f (fi s.len),C.f (sl s.xg (dr s.xs))]);rw[<-v];have a8:l.drop 0=[C.f (sl s.cg (cT s.cs)),C.f (fi s.len),C.f (sl s.xg (dr s.xs))]:=by rw[v];rfl
 have S:l.drop 2=[C.f (sl s.xg (dr s.xs))]:=by rw[v];rfl
 have M:l=C.f (sl s.cg (cT s.cs))::[C.f (fi s.len),C.f (sl s.xg (dr s.xs))]:=v;refine cC s.cs.length (λj t H'=>t.g 1=.c (.ptr H.length 0 0)/\t.g 25=.c (.f (sl s.cg (cT s.cs)))/\(∃J,H'=H++(.box l 0::J))/\
  ∃d,(∀m,j=m+1->∀h:m<s.cs.length,d=aa (s.cs[m]'h).min)/\(j=0->d=ab)/\ef ab s.cs=ef d (s.cs.drop j)) hc (by decide) (by decide) (by simp) (by simp)
   ⟨by simp,by simp,⟨[],by simp⟩,ab,by omega,by simp,by simp⟩ ?_ ?_
 .rintro j t _ F ⟨x,A,⟨J,rfl⟩,d,Y,Z,u⟩ E K next
  rw[tc F]at u;have L:=dU (H:=H++(.box l 0::J)) (iH s.cs) (kK F);have z:=Ae s.cs[j].mg s.cs[j].ts (U _ (aq7 F)).1 (U _ (aq7 F)).2;refine az ?_;apply ai;simp[E,A,bO,F,L,fI.row];apply ai;simp[z];cases W:ko s.cs[j].ts
  .simp;exact au (by simp) (an (bad (by simp[u,W]) _ _ _))
  simp;cases O:dG s.cs[j].min (-4320) 4320
  .simp;exact au (by simp) (an (bad (by simp[u,O]) _ _ _))
  simp;have go:(d.all λm=>decide (m<s.cs[j].min))=ae->∃g,(∀m,j+1=m+1->∀h:m<s.cs.length,g=aa (s.cs[m]'h).min)/\(j+1=0->g=ab)/\ef ab s.cs=ef g (s.cs.drop (j+1)):=by
   intro hp;rw[W,O,hp,ash,ash,ash]at u;refine⟨aa s.cs[j].min,λm z h=>?_,by omega,u⟩;have:m=j:=by omega
   subst this;rfl
  cases j with
  |zero=>
   simp;refine aA (by simp) ?_;refine aJ (ay (next _ _ ?_ (by simp[E]) (by simp[K])));exact⟨by simp[x],by simp[A],⟨_,rfl⟩,go (by rw[Z rfl];rfl)⟩
  |succ m=>
   have z:m<s.cs.length:=by omega
   have y:=Y m rfl z;have e1:((m+1:Nat):Int)-1=m:=by omega
   have q:=mq (H:=H++(cH.box l 0 ::(J++[cH.box [C.f (sl s.cs[m+1].mg (aU s.cs[m+1].ts)),C.f (fi s.cs[m+1].min)] 0]))) (k:=1) (iH s.cs) (kK z) rfl;rw[M]at q;simp[show 0<m+1 by omega,x,M,aM (n:=(m:Int)),bO,z,q];by_cases X:s.cs[m+1].min<=s.cs[m].min
   .simp[X];have b:=bad (by simp[u,y,show¬ s.cs[m].min<s.cs[m+1].min by omega]);refine au (by simp) ?_;exact an (b _ _ _)
   .simp[X];refine aA (by simp) ?_;refine aJ (ay (next _ _ ?_ (by simp[E]) (by simp[K])));exact⟨by simp[x],by simp[A],⟨_,by rw[M]⟩,go (by rw[y];simp;omega)⟩
 .rintro t _ ⟨x,A,⟨J,rfl⟩,d,Y,Z,u⟩ E K;have hC:ef ab s.cs=ae:=by rw[u];simp[ef]
  rw[hC,ash]at bad hS;apply an;apply ai;simp[x,S];refine cC s.xs.length (λj t H'=>t.g 1=.c (.ptr H.length 0 0)/\t.g 60=.c (.f (sl s.xg (dr s.xs)))/\(∃J,H'=H++(.box l 0::J))/\
   ∃d,(∀m,j=m+1->∀h:m<s.xs.length,d=aa (s.xs[m]'h))/\(j=0->d=ab)/\gq ab s.xs=gq d (s.xs.drop j)) hx (by decide) (by decide) (by simp) (by simp)
    ⟨by simp[x],by simp,⟨J,by simp⟩,ab,by omega,by simp,by simp⟩ ?_ ?_
  .rintro j t _ F ⟨x,B,⟨J,rfl⟩,d,Y,Z,u⟩ E K next
   rw[xE F]at u;have L:=dU (H:=H++(.box l 0::J)) (js s.xs) (mn F);refine az ?_;apply ai;simp[E,B,bO,F,L,bK.row];have N:oI s.xs[j]=ag->∀(t:T) (J:aj) k,t.g 7=vb ag->WP tab 35 ab (.code wA::k) ⟨t,[],H++J⟩ Q:=by
    intro hf t J k g7;apply ai;simp[g7];exact au (by simp) (an (bad (by simp[u,hf]) _ _ _))
   have go:oI s.xs[j]=ae->(d.all λm=>decide (nZ m s.xs[j]<0))=ae->∃g,(∀m,j+1=m+1->∀h:m<s.xs.length,g=aa (s.xs[m]'h))/\(j+1=0->g=ab)/\gq ab s.xs=gq g (s.xs.drop (j+1)):=by
    intro hg hp;rw[hg,hp,ash,ash]at u;refine⟨aa s.xs[j],λm z h=>?_,by omega,u⟩;have:m=j:=by omega
    subst this;rfl
   apply ai;simp;cases W:dG s.xs[j].day 0 1099511627776
   .simp;exact N (by simp[oI,W]) _ _ _ (by simp)
   simp;cases O:dG s.xs[j].fr (-2251799813685248) 1583296743997439
   .simp;exact N (by simp[oI,O]) _ _ _ (by simp)
   have w5:=LF O;simp[aM (n:=s.xs[j].fr+1),aM (n:=s.xs[j].fr+10080)];cases X:dG s.xs[j].to (s.xs[j].fr+1) (s.xs[j].fr+10080)
   .exact N (by simp[oI,X]) _ _ _ (by simp)
   have hg:oI s.xs[j]=ae:=by simp[oI,W,O,X]
   apply ai;simp;cases j with
   |zero=>
    simp;refine aA (by simp) ?_;refine aJ (ay (next _ _ ?_ (by simp[E]) (by simp[K])));exact⟨by simp[x],by simp[B],⟨_,rfl⟩,go hg (by rw[Z rfl];rfl)⟩
   |succ m=>
    have z:m<s.xs.length:=by omega
    have y:=Y m rfl z;have e1:((m+1:Nat):Int)-1=m:=by omega
    have q:=dU (H:=H++(.box l 0 ::(J++[cH.box [C.f (fi s.xs[m+1].day),C.f (fi s.xs[m+1].fr),C.f (fi s.xs[m+1].to)] 0]))) (js s.xs) (mn z);have I:=yk s.xs[m] s.xs[m+1];simp[bK.row]at I q;simp[show 0<m+1 by omega,x,S,aM (n:=(m:Int)),bO,z,q,I];by_cases k7:0<=nZ s.xs[m] s.xs[m+1]
    .simp[k7];have b:=bad (by simp[u,y,show¬ nZ s.xs[m] s.xs[m+1]<0 by omega]);refine au (by simp) ?_;exact an (b _ _ _)
    .simp[k7];refine aA (by simp) ?_;refine aJ (ay (next _ _ ?_ (by simp[E]) (by simp[K])));exact⟨by simp[x],by simp[B],⟨_,rfl⟩,go hg (by rw[y];simp;omega)⟩
  .rintro t _ ⟨x,B,⟨J,rfl⟩,d,Y,Z,u⟩ E K;have hX:gq ab s.xs=ae:=by rw[u];simp[gq]
   apply ai;simp;refine aB (hQ _ _ ?_);simp[hS,hX]
theorem eB{a b:Int}(h:0<=a)(g:0<b)(d:a<=9223372036854775807):bL .quo (vi a) (vi b)=aa (vi (a / b)):=by
 rw[mT (by omega),asO h,wrap64 (ar1 (by omega) (arW h (by omega))) (ar1 (asv _ h) d)]
theorem dY{a b:Int}(h:0<=a)(d:0<b):bL .rem (vi a) (vi b)=aa (vi (a % b)):=by
 rw[fQ (by omega),asG h]
theorem alb{a b:Int}(h:a<=0)(m:0<b)(l:-9223372036854775807<=a):bL .quo (vi a) (vi b)=aa (vi (-((-a) / b))):=by
 have g:(-a) / b<=-a:=asv _ (by omega);have j:0<=(-a) / b:=arW (by omega) (by omega);have d:a.tdiv b = -((-a) / b):=by
  have:a = -(-a):=by omega
  rw[this,Int.neg_tdiv,asO (by omega)];simp
 rw[mT (by omega),d,aM]
theorem alc{a b:Int}(h:a<=0)(g:0<b):bL .rem (vi a) (vi b)=aa (vi (-((-a) % b))):=by
 have d:a.tmod b = -((-a) % b):=by
  have:a = -(-a):=by omega
  rw[this,Int.neg_tmod,asG (by omega)];simp
 rw[fQ (by omega),d]
theorem ja(a b:Int)(B:1<=b)(A:-4611686018427387904<=a)(g:a<=4611686018427387904):bH tab 82 [vi a,vi b]=Eq (.t [vi (a / b),vi 0]):=bH.eq (by
 refine bD rfl rfl λQ d=>?_;apply ai;simp;apply an;apply ai;simp;refine aA (by simp;omega) (aJ ?_);by_cases h:0<=a
 .apply ai;simp[eB h (show 0<b by omega) (by omega)];apply an;apply ai;have:=arJ a (show b≠0 by omega);simp[dY h (show 0<b by omega)];refine aA (by simp;omega) (aJ ?_);apply ai;simp;refine aB (d _ _ ?_);simp
 .apply ai;simp[alb (show a<=0 by omega) (show 0<b by omega) (by omega)];apply an;apply ai;have e:=arJ (-a) (show b≠0 by omega);have j:=arE (-a) (show 0<b by omega);have q:0<=(-a) / b:=arW (by omega) (by omega);have m:(-a) / b<=-a:=asv _ (by omega);have l:=Int.mul_ediv_add_emod (-a) b;simp[alc (show a<=0 by omega) (show 0<b by omega)];by_cases s:(-a) % b=0
  .refine aA (by simp;omega) (aJ ?_);apply ai;simp;refine aB (d _ _ ?_);have:a / b = -(-a / b):=by
    refine Int.ediv_eq_of_eq_mul_right (by omega) ?_;rw[as1];omega
   simp[this]
  .refine au (by simp;omega) ?_;refine aq (.inl rfl) ?_;simp[aM (n:=-(-a / b)-1)];apply ai;simp;refine aB (d _ _ ?_);have:a / b = -(-a / b)-1:=by
    have u:=arJ a (show b≠0 by omega);have v:=arE a (show 0<b by omega);have x:=Int.mul_ediv_add_emod a b;have y:b*(a / b+(-a) / b+1)=b-a % b-(-a) % b:=by rw[Int.mul_add,Int.mul_add];omega
    have z:a / b+(-a) / b+1=0:=by
     rcases Int.lt_trichotomy (a / b+(-a) / b+1) 0 with h|h|h
     .have:b*(a / b+(-a) / b+1)<=b*(-1):=ari (by omega) (by omega);omega
     .exact h
     .have:b*1<=b*(a / b+(-a) / b+1):=ari (by omega) (by omega);omega
    omega
   simp[this])
theorem xJ(a:Int)(g:-4611686018427387904<=a)(b:a<=4611686018427387904):bH tab 39 [vi a]=Eq (vi (a / 1440)):=Kf.eq (by
 refine dL rfl rfl λH Q d=>?_;apply ai;simp;apply ai;simp[ja a 1440 (by omega) g b];apply ai;simp;refine aB (d _ _ ?_);simp)
def nO(len b d:Int):bK:=⟨d,d*1440+b,d*1440+b+len⟩
def zl(n:Int):Prop:=-1000000000000000<=n/\n<=1000000000000000
theorem YN(g j l:FC)(len b d:Int)(q:zl len)(s:zl b)(u:zl d) :
  bH tab 41 [.a [.f g,.f (fi len),.f j],.a [.f l,.f (fi b)],vi d]=Eq (.a ((nO len b d).row.map .f)):=bH.eq (Kf.ala (by
 unfold zl at *;refine dL rfl rfl λH Q m=>?_;apply ai;simp;apply ai;simp[aM (n:=d*1440),aM (n:=d*1440+b)];apply ai;simp[aM (n:=d*1440+b+len)];refine aB (m _ _ ?_);simp[nO,bK.row]))
theorem sO{u m:Int}(b:0<m):(u.tmod m+m).tmod m=u % m:=by
 have d:=as3 u b;have g:=as4 u b;rw[asG (by omega),Int.add_emod_right];exact atx.2 (by
  have:=Int.tmod_add_mul_tdiv u m;have e:u.tmod m-u = -(m*u.tdiv m):=by omega
  rw[e];exact Int.emod_eq_zero_of_dvd (Int.dvd_neg.2 (atb _ _)))
theorem xM{x y:Int}(m:1<x)(h:arU x y=1):1<=y % x:=by
 have l:=arJ y (show x≠0 by omega);rcases asm 0 (y % x)with d|d
 .omega
 .exfalso;have g:y % x=0:=by omega
  have j:x ∣ y:=Int.dvd_of_emod_eq_zero g;have b:x ∣ (arU x y:Int):=Int.dvd_coe_gcd (asw x) j;rw[h]at b;have:=ar2 (by decide) b;omega
theorem zP{a m:Int}(a0:0<=a)(a1:a<=1099511627776)(m0:2<=m)(m1:m<=1000000)(hg:arU a m=1) :
  ∃x,0<=x/\x<m/\m ∣ a*x-1/\bH tab 220 [vi a,vi m]=Eq (vi x):=by
 obtain⟨rr,⟨x,o,p,r,rfl⟩,hp⟩:∃rr,(∃x,0<=x/\x<m/\m ∣ a*x-1/\rr=vi x)/\bH tab 220 [vi a,vi m] rr:=by
  have hr:=dY (a:=a) (b:=m) a0 (by omega);have a8:=arJ a (show m≠0 by omega);have H:=arE a (show 0<m by omega);have l:arU (a % m) m=1:=by
   have e:a % m=a-a / m*m:=by have:=arn a m;rw[ar6 (a / m)];omega
   rw[e,as7];exact hg
  have Z:1<=a % m:=by
   rcases asm 0 (a % m)with h|h
   .omega
   .exfalso;have h0:a % m=0:=by omega
    rw[h0]at l;simp at l;omega
  refine ey rfl rfl λQ hQ=>?_;apply ai;simp;apply ai;simp[hr];refine an (az ?_);refine bT (λn s=>∃(x y u v U V:Int) (t:T),s=⟨t,[],[]⟩/\(n:Int)=x/\t.g 1=vi m/\t.g 5=vi x/\t.g 6=vi y/\t.g 7=vi u/\t.g 8=vi v/\1<=x/\x<y/\y<=m/\arU x y=1/\m ∣ a*u-x/\m ∣ a*v-y/\
   0<=U/\0<=V/\(u=U/\v = -V\/u = -U/\v=V)/\U*y+V*x=m) (a % m).toNat
   ⟨a % m,m,1,0,1,0,_,rfl,by omega,by simp,by simp,by simp,by simp,by simp,Z,H,by omega,l,?_,?_,by decide,by decide,.inl ⟨rfl,rfl⟩,by omega⟩ ?_
  .refine⟨a / m,?_⟩;have:=arn a m;omega
  .exact⟨-1,by omega⟩
  rintro n s ⟨x,y,u,v,U,V,t,rfl,hn,f,I,i,k,g8,o,p,r,w,M,h6,A,h8,h9,J⟩ ih;have b7:U<=U*y:=by have:=ari (show(1:Int)<=y by omega) A;omega
  have c5:0<=V*x:=arS h8 (by omega);have a_:U<=m:=by omega
  have b_:V<=m:=by
   have K:V<=V*x:=by have:=ari (show(1:Int)<=x by omega) h8;omega
   have L:0<=U*y:=arS A (by omega);omega
  refine an (ai ?_);simp[I];by_cases hx:1<x
  .
   have B:0<=y / x:=arW (by omega) (by omega);have X:y / x<=y:=asv _ (by omega);have E:=eB (a:=y) (b:=x) (by omega) (by omega) (by omega);obtain⟨q,hq⟩:=aQ (y / x);have j:=arn y x;have O:=xM hx w;have S:=arE y (show 0<x by omega);rw[<-hq]at B X E j;obtain⟨g,Y⟩:=aQ (y % x);rw[<-Y]at j O S;have c_:q*x=y-g:=by rw[ar6];omega
   obtain⟨W,hW⟩:=aQ (V+q*U);have c9:0<=q*U:=arS B A;have N:W*x+U*g=m:=by
    rw[hW,Int.add_mul,<-J,show g=y-q*x by omega,asM,asC q U x,asV q U x];omega
   have c6:W<=m:=by
    have K:W<=W*x:=by have:=ari (show(1:Int)<=x by omega) (show 0<=W by omega);omega
    have L:0<=U*g:=arS A (by omega);omega
   have d:(u=U->q*u=q*U)/\(u = -U->q*u = -(q*U)):=⟨λe=>by rw[e],λe=>by rw[e,as1]⟩
   have hb:-m<=q*u/\q*u<=m:=by
    rcases h9 with⟨e,-⟩|⟨e,-⟩
    .rw[d.1 e];omega
    .rw[d.2 e];omega
   have d6:-m<=v/\v<=m:=by omega
   have c:=aM (n:=q*x);have w2:ah .i64 (y-q*x)=g:=by rw[aM];omega
   have w3:=aM (n:=q*u);have w4:=aM (n:=v-q*u);refine au (by simp[hx]) (aJ ?_);refine az (ai ?_);simp[I,i,E];apply ai;simp[I,i,c,w2];refine aq (.inl rfl) ?_;simp[k,g8,w3,w4];refine ay (ih g.toNat _ (by omega) ⟨g,x,v-q*u,u,W,U,_,rfl,by omega,by simp[f],by simp,by simp,by simp,by simp,by omega,by omega,by omega,?_,?_,M,by omega,A,?_,N⟩)
   .rw[show g=y-q*x by omega,as7,Int.gcd_comm];exact w
   .have e:a*(v-q*u)-g=(a*v-y)-q*(a*u-x):=by
     rw[asM,asM,asV a q u];omega
    rw[e];exact asL h6 (Int.dvd_mul_of_dvd_right M)
   .rcases h9 with⟨z,e2⟩|⟨z,e2⟩
    .exact .inr ⟨by rw[d.1 z];omega,z⟩
    .exact .inl ⟨by rw[d.2 z];omega,z⟩
  .
   have F:x=1:=by omega
   subst F;have d5:-m<=u/\u<=m:=by omega
   have t1:=as3 u (show 0<m by omega);have t2:=as4 u (show 0<m by omega);have r1:bL .rem (vi u) (vi m)=aa (vi (u.tmod m)):=fQ (by omega);have r2:bL .rem (vi (u.tmod m+m)) (vi m)=aa (vi (u % m)):=by rw[fQ (by omega),sO (by omega)]
   have c:=aM (n:=u.tmod m+m);refine aA (by simp) (aS rfl ?_);apply ai;simp[f,k,r1,c,r2];refine aB (hQ _ _ _ ⟨u % m,arJ _ (by omega),arE _ (by omega),?_,rfl⟩ (by simp));have e:a*(u % m)-1=(a*u-1)-a*(u / m)*m:=by
    have:=arn u m;rw[show u % m=u-m*(u / m) by omega,asM,asC,ar6 m];omega
   rw[e];exact asL M (att _ _)
 exact⟨x,o,p,r,hp.eq⟩
theorem aeZ{a s r p d:Int}(m:¬ (arU s p:Int) ∣ r-a)(j:s ∣ d-a)(l:p ∣ d-r):False:=by
 apply m;have b:=ar3 (asR s p) j;have g:=ar3 (asW s p) l;have:=asL b g;rwa[show d-a-(d-r)=r-a by omega]at this
theorem aeY{a s r p g n t:Int}(q:g=(arU s p:Int))(E:0<p)(F:0<s)(z:p=n*g)(hd:g ∣ r-a)(B:n ∣ t*(s / g)-(r-a) / g) :
  (∀d,s ∣ d-a/\p ∣ d-r↔(s*n) ∣ d-(a+t*s))/\0<g/\0<n:=by
 have l:0<g:=by
  rw[q];have:=asb p (show s≠0 by omega);omega
 have u:0<n:=by
  rcases Int.lt_trichotomy n 0 with h|h|h
  .have:=Int.mul_neg_of_neg_of_pos h l;omega
  .subst h;omega
  .exact h
 have x:s / g*g=s:=atQ (q▸asR s p);have v:(r-a) / g*g=r-a:=atQ hd;have j:p ∣ a+t*s-r:=by
  obtain⟨k,A⟩:=B;refine⟨k,?_⟩;have:a+t*s-r=(t*(s / g)-(r-a) / g)*g:=by
   rw[Int.sub_mul,v,asC,x];omega
  rw[this,A,z,Int.mul_right_comm]
 have y:(Int.lcm s p:Int)=s*n:=by
  have b:((arU s p*Int.lcm s p:Nat):Int)=s*p:=by
   rw[Int.gcd_mul_lcm,atm,Int.natAbs_of_nonneg (by omega),Int.natAbs_of_nonneg (by omega)]
  rw[atm,<-q]at b;have m:g*(Int.lcm s p:Int)=g*(s*n):=by rw[b,z,<-asC,ar6]
  exact Int.eq_of_mul_eq_mul_left (by omega) m
 refine⟨λd=>⟨λ⟨b,m⟩=>?_,λh=>⟨?_,?_⟩⟩,l,u⟩
 .rw[<-y];refine Int.coe_lcm_dvd ?_ ?_
  .have:d-(a+t*s)=d-a-t*s:=by omega
   rw[this];exact asL b (att t s)
  .have:d-(a+t*s)=d-r-(a+t*s-r):=by omega
   rw[this];exact asL m j
 .have b:=ar3 (atb s n) h;have:d-a=d-(a+t*s)+t*s:=by omega
  rw[this];exact atL b (att t s)
 .have b:p ∣ d-(a+t*s):=ar3 (by rw[<-y];exact Int.dvd_lcm_right s p) h;have:d-r=d-(a+t*s)+(a+t*s-r):=by omega
  rw[this];exact atL b j
theorem oT{a b n:Int}:a % n=b % n↔n ∣ a-b:=atx.trans Int.dvd_iff_emod_eq_zero.symm
abbrev clV(at' st:Int):V:=.a [.f (.int .i64 at'),.f (.int .i64 st)]
theorem afQ{a s r p:Int}(a0:0<=a)(a1:a<s)(s1:s<=1000000)(r0:0<=r)(r1:r<p)(p1:p<=27720) :
  (∃a' i,0<=a'/\a'<i/\i<=s*p/\(∀d,s ∣ d-a/\p ∣ d-r↔i ∣ d-a')/\bH tab 192 [clV a s,vi r,vi p]=Eq (.t [clV a' i,vb ae]))\/
  ((∀d,¬ (s ∣ d-a/\p ∣ d-r))/\bH tab 192 [clV a s,vi r,vi p]=Eq (.t [clV 0 0,vb ag])):=by
 have s0:0<s:=by omega
 have p0:0<p:=by omega
 obtain⟨g,x⟩:=aQ ((arU s p:Int):Int);have a_:arU s p=asn s.toNat p.toNat:=by
  show asn s.natAbs p.natAbs=_;rw[show s.natAbs=s.toNat by omega,show p.natAbs=p.toNat by omega]
 have b7:g ∣ s:=x▸asR s p;have K:g ∣ p:=x▸asW s p;have l:0<arU s p:=asb p (by omega);have g0:0<g:=by rw[x];exact Int.natCast_pos.2 l
 have gp:g<=p:=ar2 p0 K;obtain⟨n,f⟩:=aQ (p / g);have W:p=n*g:=by rw[f,atQ K]
 have A:0<n:=by
  rcases asm 0 n with h|h
  .exact h
  .have:=Int.mul_nonneg_of_nonpos_of_nonpos (a:=n) (b:=-g) h (by omega);rw[as1]at this;omega
 have np:n<=p:=by
  have:=ari (show(1:Int)<=g by omega) (show 0<=n by omega);omega
 have j:bH tab 88 [vi s,vi p]=Eq (vi g):=by
  have h:=rJ (a:=s.toNat) (b:=p.toNat) (by omega) (by omega);rw[show((s.toNat:Nat):Int)=s by omega,show((p.toNat:Nat):Int)=p by omega,<-a_,<-x]at h;exact h
 have b0:∀{L:aj},bF (.box [.f (fi a),.f (fi s)] 0::L) ab (.c (.ptr 0 0 0))=aa (vi a)/\bF (.box [.f (fi a),.f (fi s)] 0::L) ab (.c (.ptr 0 1 0))=aa (vi s)/\bF (.box [.f (fi a),.f (fi s)] 0::L) (aa 2) (.c (.ptr 0 0 0))=aa (clV a s):=by
  intro L;refine⟨?_,?_,?_⟩<;>simp[bF,aK,bf]
 have q:=aM (n:=r-a);have E:bL .rem (vi (r-a)) (vi g)=aa (vi ((r-a).tmod g)):=fQ (by omega);have z:¬ (s=0):=by omega
 by_cases hd:g ∣ r-a
 .left;have m:(r-a).tmod g=0:=atl hd;by_cases y:n=1
  .
   have M:p=g:=by rw[W,y,Int.one_mul]
   refine⟨a,s,a0,a1,?_,λd=>⟨λh=>h.1,λh=>⟨h,?_⟩⟩,bH.eq ?_⟩
   .have:=ari (show(1:Int)<=p by omega) (show 0<=s by omega);omega
   .rw[M];have:=asL (ar3 b7 h) hd;rwa[show d-a-(r-a)=d-r by omega]at this
   .have B:bL .quo (vi p) (vi g)=aa (vi n):=by rw[eB (by omega) g0 (by omega),<-f]
    refine bD rfl rfl λQ H=>?_;apply ai;simp;refine an (ai ?_);simp[b0,-aD,z];refine ba (by simp) ?_;apply ai;simp[b0,-aD,j];refine an (ai ?_);simp[b0,-aD,q,E,m];refine ba (by simp) ?_;apply ai;simp[B];refine an (ai ?_);simp[y];refine au (by simp) ?_;apply ai;simp[b0,-aD];refine aB (H _ _ ?_);simp
  .
   have n2:2<=n:=by omega
   have Y:0<=s / g:=arW (by omega) (by omega);have d7:s / g<=s:=asv _ (by omega);have I:arU (s / g) n=1:=by rw[f,x];exact Int.gcd_ediv_gcd_ediv_gcd l
   obtain⟨v,o,v1,hv,O⟩:=zP Y (by omega) n2 (by omega) I;obtain⟨w,hw⟩:=aQ (((r-a) / g) % n);have w0:0<=w:=by rw[hw];exact arJ _ (by omega)
   have w1:w<n:=by rw[hw];exact arE _ A
   obtain⟨t,ht⟩:=aQ ((w*v) % n);have t0:0<=t:=by rw[ht];exact arJ _ (by omega)
   have t1:t<n:=by rw[ht];exact arE _ A
   have S:n ∣ t*(s / g)-(r-a) / g:=by
    obtain⟨k,hk⟩:=hv;have e1:t=w*v-n*(w*v / n):=by have:=arn (w*v) n;omega
    have e2:w=(r-a) / g-n*((r-a) / g / n):=by have:=arn ((r-a) / g) n;omega
    have e3:t*(s / g)-(r-a) / g=w*(s / g*v-1)-n*(w*v / n)*(s / g)-n*((r-a) / g / n):=by
     rw[e1,Int.sub_mul,asM,asC w v,ar6 v (s / g)];omega
    rw[e3,hk];refine asL (asL ?_ ?_) (atb _ _)
    .exact⟨w*k,by rw[asV]⟩
    .exact⟨w*v / n*(s / g),by rw[asC]⟩
   obtain⟨N,-,-⟩:=aeY x p0 s0 W hd S;have d9:0<=t*s:=arS t0 (by omega);have d_:t*s<=(n-1)*s:=arA (by omega) (by omega);have f8:(n-1)*s=n*s-s:=by rw[Int.sub_mul,Int.one_mul]
   have d6:n*s<=27720*1000000:=asS (by omega) s1 (by omega) (by decide);have f9:s*n=n*s:=ar6 _ _;have Z:0<=w*v:=arS w0 o;have e_:w*v<=27720*27720:=asS (by omega) (by omega) o (by decide);have d8:0<=n*s:=arS (by omega) (by omega);refine⟨a+t*s,s*n,by omega,by omega,?_,N,bH.eq ?_⟩
   .exact ari np (by omega)
   .have B:bL .quo (vi p) (vi g)=aa (vi n):=by rw[eB (by omega) g0 (by omega),<-f]
    have a8:bL .quo (vi (r-a)) (vi g)=aa (vi ((r-a) / g)):=by
     rw[mT (by omega),Int.tdiv_eq_ediv_of_dvd hd];have hb:-1000000<=(r-a) / g/\(r-a) / g<=1000000:=by
      obtain⟨k,hk⟩:=hd;rw[hk,Int.mul_ediv_cancel_left _ (by omega)];constructor
      .rcases asm k (-1000000)with h|h
       .have:=ari (show k<=-1000001 by omega) (show 0<=g by omega);omega
       .omega
      .rcases asm 1000000 k with h|h
       .have:=ari (show(1000001:Int)<=k by omega) (show 0<=g by omega);omega
       .omega
     rw[aM]
    have c9:bL .rem (vi ((r-a) / g)) (vi n)=aa (vi (((r-a) / g).tmod n)):=fQ (by omega);have tl:=as3 ((r-a) / g) A;have tg:=as4 ((r-a) / g) A;have c_:=aM (n:=((r-a) / g).tmod n+n);have U:bL .rem (vi (((r-a) / g).tmod n+n)) (vi n)=aa (vi w):=by rw[fQ (by omega),sO A,<-hw]
    have d5:bL .quo (vi s) (vi g)=aa (vi (s / g)):=eB (by omega) g0 (by omega);have uw:IntKind.wrap .u64 w=w:=fU w0 (by omega);have uv:IntKind.wrap .u64 v=v:=fU o (by omega);have un:IntKind.wrap .u64 n=n:=fU (by omega) (by omega);have us:IntKind.wrap .u64 s=s:=fU (by omega) (by omega);have b_:=oU w0 (show w<=2147483648 by omega) o (show v<=2147483648 by omega);have X:=BT (a:=0) (b:=n) (by decide) A;rw[Int.zero_emod]at X;have J:=xC Z (show w*v<=9223372036854775807 by omega) A (show n<=9223372036854775807 by omega);rw[<-ht]at J;have c5:=oU t0 (show t<=2147483648 by omega) (show 0<=s by omega) (show s<=2147483648 by omega);have c6:=oU (show 0<=s by omega) (show s<=2147483648 by omega) (show 0<=n by omega) (show n<=2147483648 by omega);have u:=aM (n:=t*s);have fa:=aM (n:=1152921504606846976-a);have c1:¬ (1152921504606846976<t*s):=by omega
    have c2:¬ (1152921504606846976-a<t*s):=by omega
    have F:=aM (n:=a+t*s);have c:=aM (n:=s*n);have c3:s*n<=1152921504606846976:=by omega
    refine bD rfl rfl λQ H=>?_;apply ai;simp;refine an (ai ?_);simp[b0,-aD,z];refine ba (by simp) ?_;apply ai;simp[b0,-aD,j];refine an (ai ?_);simp[b0,-aD,q,E,m];refine ba (by simp) ?_;apply ai;simp[B];refine an (ai ?_);simp[y];refine ba (by simp) ?_;apply ai;simp[b0,-aD,q,a8,c9,c_,U];apply ai;simp[b0,-aD,uw,d5,O,uv,b_];apply ai;simp[un,X,J];apply ai;simp[b0,-aD,us,c5];refine an (ai ?_);simp[b0,-aD,c1,u,fa,c2];refine ba (by simp) ?_;apply ai;simp[b0,-aD,u,F];refine an (ai ?_);simp[b0,-aD,us,un,c6];apply ai;simp[c3];refine au (by simp) (aq (.inl rfl) ?_);simp[c];apply ai;simp;refine aB (H _ _ ?_);simp
 .right;refine⟨λd h=>aeZ (λe=>hd (x▸e)) h.1 h.2,bH.eq ?_⟩;have m:¬ (r-a).tmod g=0:=λe=>hd (Int.dvd_of_tmod_eq_zero e);refine bD rfl rfl λQ H=>?_;apply ai;simp;refine an (ai ?_);simp[b0,-aD,z];refine ba (by simp) ?_;apply ai;simp[b0,-aD,j];refine an (ai ?_);simp[b0,-aD,q,E,m];refine au (by simp) ?_;apply ai;simp;refine aB (H _ _ ?_);simp
theorem qq(a b:Int):Kf tab 187 [vi a,vi b] (vb (decide (a<b))):=by
 refine dL rfl rfl λH Q d=>?_;apply ai;simp;apply ai;simp[oK];refine aB (d _ _ ?_);simp[oK]
theorem agV(a:Int):bH tab 213 [vi a]=Eq (vb ag):=Kf.eq (by
 refine dL rfl rfl λH Q b=>?_;apply ai;simp;apply ai;simp;refine aB (b _ _ ?_);simp)
theorem fW(g:Tg)(l:List Int)(n:Int)(hl:l.length<=1000000000)(o:l.Pairwise (· < ·)) :
  ∃i:Nat,i<=l.length/\(∀j (d:j<l.length),j<i->l[j]<n)/\(∀j (d:j<l.length),i<=j->n<=l[j])/\
   bH tab 171 [.c (.f (sl g (ints l))),vi n]=Eq (.t [vi i,vb (decide (n∈l))]):=by
 obtain⟨r,⟨i,c,f,O,rfl⟩,h⟩:∃r,(∃i:Nat,i<=l.length/\(∀j (d:j<l.length),j<i->l[j]<n)/\(∀j (d:j<l.length),i<=j->n<=l[j])/\r=.t [vi i,vb (decide (n∈l))])/\
   bH tab 171 [.c (.f (sl g (ints l))),vi n] r:=by
  refine ey rfl rfl λQ S=>?_;have A:=λ(a b:Int) (H:aj)=>(qq a b).ev H;have y:∀i j (hi:i<j) (d:j<l.length),l[i]<l[j]:=λi j hi d=>arR.1 o i j (by omega) d hi;apply ai;simp;apply ai;simp;apply ai;simp;apply an;refine az ?_;refine bT (λm s=>∃(lo hi:Nat) (t:T) (J:aj),s=⟨t,[],J⟩/\m=hi-lo/\lo<=hi/\hi<=l.length/\t.g 0=.c (.f (sl g (ints l)))/\t.g 1=vi n/\t.g 6=vi l.length/\t.g 7=vi lo/\t.g 8=vi hi/\
   (∀j (d:j<l.length),j<lo->l[j]<n)/\(∀j (d:j<l.length),hi<=j->n<=l[j])) l.length
   ⟨0,l.length,_,_,rfl,by omega,by omega,by omega,by simp,by simp,by simp,by simp,by simp,by simp,by intros;omega⟩ ?_
  rintro m s ⟨lo,hi,t,J,rfl,rfl,k,z,E,F,K,I,N,u,v⟩ next
  apply an;apply ai;simp[I,N];by_cases W:lo<hi
  .refine au (by simp[W]) (aJ ?_);obtain⟨q,hq⟩:=aQ ((lo+hi) / 2);have L:q<l.length:=by omega
   have Z:bL BinOp.shr (V.c (C.f (FC.int IntKind.u64 (IntKind.u64.wrap ((lo:Int)+hi))))) (V.c (C.f (FC.int IntKind.u64 1)))=aa (.c (.f (.int .u64 (q:Int)))):=by
    have:IntKind.u64.wrap ((lo:Int)+hi)=(lo:Int)+hi:=by
     show((lo:Int)+hi) % 18446744073709551616=_;omega
    rw[this];show aa (V.c (C.f (FC.int IntKind.u64 (Int.fdiv ((lo:Int)+hi) (2 ^ (min (1:Int).toNat IntKind.u64.bits))))))=_;have O:Int.fdiv ((lo:Int)+hi) (2 ^ (min (1:Int).toNat IntKind.u64.bits))=q:=by
     show Int.fdiv ((lo:Int)+hi) 2=q;rw[as6 _ (by omega)];omega
    rw[O]
   have p:=aM (n:=(lo:Int)+hi);have Y:ah .i64 (q:Int)=q:=aM;refine az ?_;apply ai;simp[I,N,p,Z,Y];apply ai;simp[E,F,bO,L,dJ,A];by_cases U:l[q]<n
   .refine au (by simp[U]) ?_;refine aq (.inl rfl) ?_;simp[aM (n:=(q:Int)+1)];refine ay (next (hi-(q+1)) _ (by omega) ⟨q+1,hi,_,_,rfl,rfl,by omega,by omega,by simp[E],by simp[F],by simp[K],by simp,by simp[N],λj d h=>?_,v⟩);by_cases e:j=q
    .subst e;exact U
    .have:=y j q (by omega) L;omega
   .refine aA (by simp[U]) ?_;refine aq (.inl rfl) ?_;simp;refine ay (next (q-lo) _ (by omega) ⟨lo,q,_,_,rfl,rfl,by omega,by omega,by simp[E],by simp[F],by simp[K],by simp[I],by simp,u,λj d h=>?_⟩);by_cases e:j=q
    .subst e;omega
    .have:=y q j (by omega) d;omega
  .have:lo=hi:=by omega
   subst this;refine aA (by simp) ?_;refine aS rfl ?_;apply ai;by_cases x:lo<l.length
   .have w:=v lo x (by omega);by_cases M:l[lo]=n
    .simp[E,F,K,I,x,bO,dJ,M];refine aB (S _ _ _ ⟨lo,z,u,v,rfl⟩ ?_);have:n∈l:=M▸aq7 x;simp[this]
    .have B:n ∉ l:=λX=>by
      obtain⟨j,d,rfl⟩:=ary X;rcases asz j lo with h|h|h
      .have:=u j d h;omega
      .subst h;exact M rfl
      .have:=y lo j h d;omega
     simp[E,F,K,I,x,bO,dJ,M,agV];refine aB (S _ _ _ ⟨lo,z,u,v,rfl⟩ ?_);simp[B]
   .have B:n ∉ l:=λX=>by
     obtain⟨j,d,rfl⟩:=ary X;have:=u j d (by omega);omega
    simp[E,F,K,I,x];refine aB (S _ _ _ ⟨lo,z,u,v,rfl⟩ ?_);simp[B]
 exact⟨i,c,f,O,bH.eq h⟩
theorem lK{limit:Int}:∀{l:List Int} {last:Int},cB limit last l=ae->l.Pairwise (· < ·)/\∀c∈l,last<c/\c<limit
 |[],_,_=>⟨List.Pairwise.nil,by simp⟩
 |a::l,last,h=>by
  simp only[cB,aq3,decide_eq_true_eq]at h;obtain⟨⟨g,j⟩,m⟩:=h;obtain⟨q,d⟩:=lK m;refine⟨atC.2 ⟨λc b=>(d c b).1,q⟩,λc b=>?_⟩;rcases arM.1 b with rfl|b
  .exact⟨g,j⟩
  .have:=d c b;omega
theorem aY{p:aE}(h:cm p=ae):0<=p.fr/\p.fr<=1099511627776/\1<=p.aH/\p.aH<=1099511627776/\p.head.length+p.aZ.length<=1048576/\p.head.Pairwise (· < ·)/\(∀c∈p.head,-1<c/\c<p.fr)/\p.aZ.Pairwise (· < ·)/\∀c∈p.aZ,-1<c/\c<p.aH:=by
 unfold cm at h;simp only[aq3,decide_eq_true_eq]at h;obtain⟨⟨⟨⟨⟨⟨j,l⟩,m⟩,q⟩,v⟩,s⟩,u⟩:=h;obtain⟨a1,b⟩:=lK s;obtain⟨d,g⟩:=lK u;exact⟨j,l,m,q,by omega,a1,b,d,g⟩
def bz(p:aE)(d:Int):Bool:=if p.fr<=d then decide ((d-p.fr) % p.aH∈p.aZ)else decide (d∈p.head)
def Day(d:Int):Prop:=d<=2305843009213693952
theorem pP(p:aE)(h:cm p=ae)(d:Int)(z:0<=d)(hd:Day d):bH tab 128 [.a (p.row.map .f),vi d]=Eq (vb (bz p d)):=Kf.eq (by
 obtain⟨A,B,E,F,I,s,K,u,L⟩:=aY h;unfold Day at hd;refine dL rfl rfl λH Q v=>?_;have j:∀(t:T) (J:aj) (g:Tg) (l:List Int) (n:Int),l.length<=1048576->l.Pairwise (· < ·)->t.g 5=.c (.f (sl g (ints l)))->t.g 6=vi n->bz p d=decide (n∈l)->WP tab 128 ab [.code wk] ⟨t,[],H++J⟩ Q:=by
  intro t J g l n M x m q e;obtain⟨i,-,-,-,y⟩:=fW g l n (by omega) x;apply ai;simp[m,q,y];apply ai;simp;refine aB (v _ _ ?_);simp[e]
 apply ai;simp[aE.row];apply ai;simp;apply an;apply ai;simp;by_cases k:p.fr<=d
 .refine au (by simp[k]) ?_;refine aq (.inl rfl) ?_;simp[aM (n:=d-p.fr),dY (a:=d-p.fr) (b:=p.aH) (by omega) (by omega)];exact j _ _ p.cg p.aZ ((d-p.fr) % p.aH) (by omega) u (by simp) (by simp) (by simp[bz,k])
 .refine ba (by simp[k]) ?_;exact j _ _ p.hg p.head d (by omega) s (by simp) (by simp) (by simp[bz,k]))
def hasB(p:aE)(d:Int):Bool:=decide (0<=d)&&bz p d
theorem agn(p:aE)(h:cm p=ae)(d:Int)(hd:Day d):Kf tab 84 [.a (p.row.map .f),vi d] (vb (hasB p d)):=by
 refine dL rfl rfl λH Q g=>?_;have b:=sk p (jg h);rw[h]at b;apply ai;simp[aE.row]at b ⊢;apply ai;by_cases k:0<=d
 .have j:=pP p h d k hd;simp[aE.row]at j;simp[b,k,j];refine aB (g _ _ ?_);simp[hasB,k]
 .simp[b,k];refine aB (g _ _ ?_);simp[hasB,k]
theorem Lf(p:aE)(h:cm p=ae)(d:Int)(hd:Day d):Kf tab 83 [.a (p.row.map .f),.c (.f (.fp [fi d] 0))] (vb (!hasB p d)):=by
 refine dL rfl rfl λH Q g=>?_;have b:=(agn p h d hd).eq;simp[aE.row]at b;have j:∀H:aj,bF H ab (.c (.f (.fp [fi d] 0)))=aa (vi d):=λH=>by simp[bF,aK]
 apply ai;simp[aE.row];apply ai;simp[j,b];refine aB (g _ _ ?_);simp
def td(l:List aE)(d:Int):Bool:=l.all λp=>hasB p d
theorem ahb(g:Tg)(l:List aE)(u:l.length<=9223372036854775807)(h:∀p∈l,cm p=ae)(d:Int)(hd:Day d):Kf tab 43 [.c (.f (sl g (aC l))),vi d] (vb (td l d)):=by
 refine dL rfl rfl λH Q m=>?_;have q:=(gd Ya (iE Yb l aE.row (λr=>.a (r.row.map .f)) (λp=>!hasB p d) g 83 [.fp [fi d] 0] u
  (λj s H=>dU (bh l) (cG s)) (λp v=>Lf p (h p v) d hd))).eq
 have e:(!l.any λp=>!hasB p d)=td l d:=by
  rw[td,asX];simp[List.any_eq_false,ars]
 apply ai;simp;apply ai;have b:bH tab 63 [.c (.f (sl g (aC l))),.c (.f (.fn 83 [.fp [fi d] 0]))]=Eq (vb (l.any λp=>!hasB p d)):=q;simp[deep,Zm,Ag,b,e];refine aB (m _ _ ?_);simp
theorem ajG(t:dc)(j:t.fs.length<=9223372036854775807)(h:∀p∈t.fs,cm p=ae)(d:Int)(hd:Day d):Kf tab 42 [.c (.f (sl t.tg (aC t.fs))),.c (.f (.fp [fi d] 0))] (vb (td t.fs d)):=by
 refine dL rfl rfl λH Q g=>?_;have b:∀H:aj,bF H ab (.c (.f (.fp [fi d] 0)))=aa (vi d):=λH=>by simp[bF,aK]
 apply ai;simp;apply ai;simp[b,(ahb t.tg t.fs j h d hd).eq];refine aB (g _ _ ?_);simp
def Zi(l:List dc)(d:Int):Bool:=ko l&&l.any λt=>td t.fs d
theorem fy{t:dc}(h:iR t=ae):1<=t.fs.length/\t.fs.length<=4/\∀p∈t.fs,cm p=ae:=by
 unfold iR at h;simp only[aq3,decide_eq_true_eq,ars]at h;exact⟨by omega,by omega,h.2⟩
theorem nk{l:List dc}(h:ko l=ae):l.length<=64/\∀t∈l,iR t=ae:=by
 unfold ko at h;simp only[aq3,decide_eq_true_eq,ars]at h;exact⟨by omega,h.2⟩
theorem afR(g:Tg)(l:List dc)(h:ko l=ae)(d:Int)(hd:Day d):bH tab 11 [.a [.f (sl g (aU l))],vi d]=Eq (vb (Zi l d)):=Kf.eq (by
 obtain⟨z,m⟩:=nk h;have s:=Ae g l (by omega) (λt b=>⟨by have:=(fy (m t b)).2.1;omega,λp y=>jg ((fy (m t b)).2.2 p y)⟩);have v:=(gd ve (iE vf l dc.row (λt=>.c (.f (sl t.tg (aC t.fs)))) (λt=>td t.fs d) g 42 [.fp [fi d] 0] (by omega)
  (λj x H=>fF (fP l) (hO x) rfl) (λt b=>ajG t (by have:=(fy (m t b)).2.1;omega) (fy (m t b)).2.2 d hd))).eq
 have q:bH tab 31 [.c (.f (sl g (aU l))),.c (.f (.fn 42 [.fp [fi d] 0]))]=Eq (vb (l.any λt=>td t.fs d)):=v;rw[h]at s;refine dL rfl rfl λH Q u=>?_;apply ai;simp;apply ai;simp[s,deep,Zm,Ag,q];refine aB (u _ _ ?_);simp[Zi,h])
structure Mod(p:aE):Prop where
 ok:cm p=ae
 aoH:p.aH<=27720
def fx(p:aE)(c:Int):Int:=(p.fr % p.aH+c) % p.aH
theorem an9{x c p:Int}(d:0<=c)(g:c<p):x % p=c↔p ∣ x-c:=by
 have h:=oT (a:=x) (b:=c) (n:=p);rw[Int.emod_eq_of_lt d g]at h;exact h
theorem oY{p:aE}(h:Mod p){c:Int}(b:0<=c)(g:c<p.aH):0<=fx p c/\fx p c<p.aH/\∀d,(d-p.fr) % p.aH=c↔p.aH ∣ d-fx p c:=by
 have j:0<p.aH:=by omega
 refine⟨arJ _ (by omega),arE _ j,λd=>?_⟩;rw[an9 b g];have e:p.aH ∣ p.fr+c-fx p c:=by
  rw[<-oT];unfold fx;rw[Int.emod_emod_of_dvd _ (asw _),Int.emod_add_emod]
 constructor
 .intro k;have:=atL k e;rwa[show d-p.fr-c+(p.fr+c-fx p c)=d-fx p c by omega]at this
 .intro k;have:=asL k e;rwa[show d-fx p c-(p.fr+c-fx p c)=d-p.fr-c by omega]at this
theorem qL{p:aE}(h:Mod p){c:Int}(d:c∈p.aZ):0<=c/\c<p.aH:=by
 obtain⟨-,-,-,-,-,-,-,-,b⟩:=aY h.ok;have:=b c d;omega
def gU(p:aE)(d:Int):Prop:=∃c∈p.aZ,p.aH ∣ d-fx p c
theorem mB{p:aE}(h:Mod p){d:Int}(hd:p.fr<=d):bz p d=ae↔gU p d:=by
 unfold bz;rw[bw hd,decide_eq_true_eq];constructor
 .intro j;obtain⟨a,b⟩:=qL h j;exact⟨_,j,((oY h a b).2.2 d).1 rfl⟩
 .rintro⟨c,g,e⟩;obtain⟨a,b⟩:=qL h g;rw[((oY h a b).2.2 d).2 e];exact g
theorem sx(p:aE)(h:Mod p)(c:Int)(l:0<=c)(m:c<p.aH):bH tab 87 [.a (p.row.map .f),vi c]=Eq (vi (fx p c)):=Kf.eq (by
 obtain⟨d,j,s,u,-⟩:=aY h.ok;have q:=arJ p.fr (show p.aH≠0 by omega);have m1:=arE p.fr (show 0<p.aH by omega);refine dL rfl rfl λH Q g=>?_;apply ai;simp[aE.row];apply ai;simp[dY (a:=p.fr) (b:=p.aH) d (by omega),aM (n:=p.fr % p.aH+c),dY (a:=p.fr % p.aH+c) (b:=p.aH) (by omega) (by omega)];refine aB (g _ _ ?_);simp[fx])
def cR:List aE->Int
 |[]=>0| p::l=>max p.fr (cR l)
theorem nz:∀l:List aE,0<=cR l
 |[]=>ar9 _| p::l=>by have:=nz l;simp only[cR];omega
theorem ny{p:aE}:∀{l:List aE},p∈l->p.fr<=cR l
 |q::l,h=>by
  simp only[cR];rcases arM.1 h with rfl|h
  .omega
  .have:=ny h;omega
theorem yM(l:List aE)(p:aE):cR (l++[p])=max (cR l) p.fr:=by
 induction l with
 |nil=>simp only[asu,cR];omega| cons q l b=>simp only[List.cons_append,cR,b];omega
theorem aah(g:Tg)(l:List aE)(A:l.length<=64):bH tab 190 [.c (.f (sl g (aC l)))]=Eq (vi (cR l)):=Kf.eq (by
 refine dL rfl rfl λH Q z=>?_;apply ai;simp;apply ai;simp;apply an;apply ai;simp;refine cC l.length (λj t y=>(∃J,y=H++J)/\t.g 6=.c (.f (sl g (aC l)))/\t.g 3=vi (cR (l.take j))) (by omega) (by decide) (by decide) (by simp) (by simp) ⟨⟨[],by simp⟩,by simp,by simp[cR]⟩ ?_ ?_
 .rintro j t _ u ⟨⟨J,rfl⟩,q,m⟩ s x next
  have d:=λH:aj=>dU (H:=H) (bh l) (cG (l:=l) (j:=j) u);have b:=λH:aj=>bO (H:=H) (g:=g) (rows:=aC l) (sz:=4) (k:=.i64) (i:=j) (by omega) (by simpa using u);simp[aE.row]at d b;have v:l.take (j+1)=l.take j++[l[j]]:=by rw[arD,aq2 u];rfl
  have e:cR (l.take (j+1))=max (cR (l.take j)) l[j].fr:=by rw[v,yM]
  refine az ?_;apply ai;simp[q,s,b,d];refine aq (.inl rfl) ?_;simp[m];refine ay (next _ _ ?_ (by simp[s]) (by simp[x]));exact⟨⟨_,rfl⟩,by simp[q],by simp[e]⟩
 .rintro t _ ⟨⟨J,rfl⟩,q,m⟩ s x;rw[arz]at m;apply ai;simp[m];refine aB (z _ _ ?_);simp)
def wj(n a s:Int):Int:=if a<n then a+(n-a+s-1) / s*s else a
theorem BU{n a s:Int}(x:0<=a)(y:a<s)(z:0<=n):n<=wj n a s/\s ∣ wj n a s-a/\wj n a s<=n+s/\∀d,n<=d->s ∣ d-a->wj n a s<=d:=by
 have l:0<s:=by omega
 unfold wj;split
 .have m:=arn (n-a+s-1) s;have u:=arJ (n-a+s-1) (show s≠0 by omega);have v:=arE (n-a+s-1) l;have g:(n-a+s-1) / s*s=s*((n-a+s-1) / s):=ar6 _ _;rw[g];generalize (n-a+s-1) / s=q at *;refine⟨by omega,⟨q,by omega⟩,by omega,?_⟩;rintro d hd ⟨k,j⟩;rcases asm k q with h|h
  .have b:s*k<=s*(q-1):=ari (by omega) (by omega);rw[asM,atA]at b;omega
  .have b:s*q<=s*k:=ari h (by omega);omega
 .refine⟨by omega,⟨0,by omega⟩,by omega,?_⟩;rintro d hd ⟨k,j⟩;rcases asm k 0 with h|h
  .have b:s*k<=s*(-1):=ari (by omega) (by omega);omega
  .have b:0<=s*k:=arS (by omega) h;omega
structure fO(S:Int->Prop)(l:Int)(f:Bool)(l':Int)(f':Bool):Prop where
 le:l'<=l
 fnd:f=ae->f'=ae
 src:(l'=l/\f'=f)\/(f'=ae/\S l')
 low:∀d,S d->l'<=d/\(d<=l->f'=ae)
theorem fO.none{S:Int->Prop}{l:Int}{f:Bool}(h:∀d,¬ S d):fO S l f l f:=⟨ar9 _,id,.inl ⟨rfl,rfl⟩,λd hd=>absurd hd (h d)⟩
theorem fO.trans{S q s:Int->Prop}{l l1 l2:Int}{f u v:Bool}(h1:fO q l f l1 u)(h2:fO s l1 u l2 v)(m:∀d,S d↔q d\/s d):fO S l f l2 v where
 le:=ar1 h2.le h1.le
 fnd h:=h2.fnd (h1.fnd h)
 src:=by
  rcases h2.src with⟨rfl,rfl⟩|⟨h,k⟩
  .rcases h1.src with h|⟨h,k⟩
   .exact .inl h
   .exact .inr ⟨h,(m _).2 (.inl k)⟩
  .exact .inr ⟨h,(m _).2 (.inr k)⟩
 low d hd:=by
  have b:=h2.le;rcases(m d).1 hd with k|k
  .obtain⟨a1,j⟩:=h1.low d k;exact⟨by omega,λe=>h2.fnd (j e)⟩
  .obtain⟨a1,j⟩:=h2.low d k;refine⟨a1,λe=>?_⟩;rcases asm l1 d with g|g
   .rcases h1.src with⟨rfl,rfl⟩|⟨h,-⟩
    .omega
    .exact h2.fnd h
   .exact j g
theorem fO.iff{S S':Int->Prop}{l j:Int}{f b:Bool}(h:fO S l f j b)(g:∀d,S' d↔S d):fO S' l f j b:=
 ⟨h.le,h.fnd,by rcases h.src with k|⟨k,k'⟩;exact .inl k;exact .inr ⟨k,(g _).2 k'⟩,λd hd=>h.low d ((g d).1 hd)⟩
theorem fO.one{S:Int->Prop}{l x:Int}{f:Bool}(g:S x)(b:∀d,S d->x<=d):fO S l f (if x<=l then x else l) (f||decide (x<=l)) where
 le:=by split<;>omega
 fnd h:=by rw[h];rfl
 src:=by
  by_cases k:x<=l
  .exact .inr ⟨by simp[k],by simpa[k]using g⟩
  .exact .inl ⟨by simp[k],by simp[k]⟩
 low d hd:=by
  have:=b d hd;constructor
  .split<;>omega
  .intro e;simp[show x<=l by omega]
def LH(H:aj)(g:Tg)(ps:List aE)(n least:Int)(found:Bool):Prop:=(∃a,H[0]?=aa (.box [.f (sl g (aC ps))] a))/\H[1]?=aa (.box [.f (fi n)] 0)/\H[2]?=aa (.box [.f (fi least)] 0)/\H[3]?=aa (.box [.f (.bool found)] 0)/\
 H[4]?=aa (.box [.cl 191 [.ptr 0 0 0,.ptr 4 0 0,.ptr 1 0 0,.ptr 2 0 0,.ptr 3 0 0]] 0)
theorem LH.push{H:aj}{g:Tg}{ps:List aE}{n least:Int}{found:Bool}(h:LH H g ps n least found)(J:aj):LH (H++J) g ps n least found:=by
 obtain⟨⟨a,h0⟩,h1,h2,h3,b⟩:=h;refine⟨⟨a,?_⟩,?_,?_,?_,?_⟩
 .rw[aq1 (av h0)];exact h0
 .rw[aq1 (av h1)];exact h1
 .rw[aq1 (av h2)];exact h2
 .rw[aq1 (av h3)];exact h3
 .rw[aq1 (av b)];exact b
theorem KX(g:Tg)(ps:List aE)(H:aj)(n least:Int)(found:Bool)(r s:Int)(p:LH H g ps n least found)(A:0<=r)(B:r<s)(I:s<=1000000)(w:0<=n)(a8:n<=1000000000000) :
  ∃v E,Ev tab (.fn 191) [vi ps.length,clV r s,.c (.ptr 0 0 0),.c (.ptr 4 0 0),.c (.ptr 1 0 0),.c (.ptr 2 0 0),.c (.ptr 3 0 0)] H v E/\
   (v=.t []/\LH E g ps n (if wj n r s<=least then wj n r s else least) (found||decide (wj n r s<=least))/\∀i:Nat,5<=i->i<H.length->E[i]?=H[i]?):=by
 obtain⟨⟨F,e⟩,f,h,o,N⟩:=p;obtain⟨u1,-,u3,-⟩:=BU A B w;have l4:=av N;refine cz rfl rfl λQ U=>?_;have m:∀(t:T) (q:aj) (y:Int),y=wj n r s->t.g 8=.c (.ptr H.length 0 0)->t.g 4=.c (.ptr 1 0 0)->t.g 5=.c (.ptr 2 0 0)->t.g 6=.c (.ptr 3 0 0)->LH q g ps n least found->q[H.length]?=aa (.box [.f (fi y),.f (fi s)] 0)->(∀i:Nat,5<=i->i<H.length->q[i]?=H[i]?)->
   WP tab 191 ab [.code wI] ⟨t,[],q⟩ Q:=by
  rintro t q _ rfl M Z L c j X l;have q1:=j.2.1;have W:=j.2.2.1;have q3:=j.2.2.2.1;apply ai;simp[M,Z,L,X,q1,W,u1];by_cases k:wj n r s<=least
  .refine au (by simp[k]) ?_;have J:(q.set 2 (.box [.f (fi (wj n r s))] 0))[3]?=aa (.box [.f (.bool found)] 0):=by rw[aq0 (by decide)];exact q3
   refine aq (.inl rfl) ?_;simp[M,L,c,X,W,J];refine cW (U _ _ _ rfl rfl ⟨rfl,?_,λi hi z=>by rw[aq0 (by omega),aq0 (by omega)];exact l i hi z⟩);obtain⟨⟨F,A⟩,B,I,O,S⟩:=j;refine⟨⟨F,?_⟩,?_,?_,?_,?_⟩
   .rw[aq0 (by decide),aq0 (by decide)];exact A
   .rw[aq0 (by decide),aq0 (by decide)];exact B
   .rw[aq0 (by decide),aq6 (av I)];simp[k]
   .rw[aq6 (by rw[List.length_set];exact av O)];simp[k]
   .rw[aq0 (by decide),aq0 (by decide)];exact S
  .refine ba (by simp[k]) ?_;refine cW (U _ _ _ rfl rfl ⟨rfl,?_,l⟩);simpa[k]using j
 apply ai;simp;have d:=LH.push (H:=H) (g:=g) (ps:=ps) (n:=n) (least:=least) (found:=found) ⟨⟨F,e⟩,f,h,o,N⟩ [.box [.f (fi r),.f (fi s)] 0];have x:(H++[cH.box [.f (fi r),.f (fi s)] 0])[H.length]?=aa (.box [.f (fi r),.f (fi s)] 0):=by simp
 have u:∀i:Nat,5<=i->i<H.length->(H++[cH.box [.f (fi r),.f (fi s)] 0])[i]?=H[i]?:=λi _ z=>aq1 z;generalize H++[cH.box [.f (fi r),.f (fi s)] 0]=q at d x u ⊢;obtain⟨a1,r0⟩:=d.1;have K:=d.2.1;apply an;apply ai;simp[r0];refine ba (by simp) ?_;apply an;apply ai;by_cases k:r<n
 .simp[K,x,k,show 0<s by omega];refine au (by simp) ?_;have a_:wj n r s=r+(n-r+s-1) / s*s:=by unfold wj;rw[bw k]
  have hq:=eB (a:=n-r+s-1) (b:=s) (by omega) (by omega) (by omega);have Y:(n-r+s-1) / s*s=wj n r s-r:=by omega
  refine aq (.inl rfl) ?_;simp[K,x,aM (n:=n-r),aM (n:=n-r+s),aM (n:=n-r+s-1),hq,Y,aM (n:=wj n r s-r),aM (n:=r+(wj n r s-r))];refine m _ _ _ (show r+(wj n r s-r)=_ by omega) (by simp) (by simp) (by simp) (by simp) ?_ (aq6 (av x)) λi hi z=>by rw[aq0 (by omega)];exact u i hi z
  obtain⟨⟨a1,A⟩,B,I,O,S⟩:=d;refine⟨⟨a1,?_⟩,?_,?_,?_,?_⟩
  all_goals (rw[aq0 (by omega)];assumption)
 .simp[K,x,k];refine ba (by simp) ?_;exact m _ _ r (by unfold wj;rw[aR k]) (by simp) (by simp) (by simp) (by simp) d x u
def ff:List aE->Int
 |[]=>1| p::l=>p.aH*ff l
theorem pT{l:List aE}(h:∀p∈l,Mod p):1<=ff l:=by
 induction l with
 |nil=>exact ar9 _
 |cons p l j=>
  have b:=(aY (h p arl).ok).2.2.1;have d:=j λq g=>h q (arj _ g);have:=asS b d (by decide) (by omega);simp only[ff];omega
def rj(ps:List aE)(n a s d:Int):Prop:=n<=d/\s ∣ d-a/\∀p∈ps,gU p d
theorem anU(g:Tg)(ps:List aE)(hM:∀p∈ps,Mod p)(j4:ps.length<=64)(n:Int)(hn:0<=n)(d_:n<=1000000000000) :
  ∀(k i:Nat),i+k=ps.length->∀(H:aj) (least:Int) (found:Bool) (a s:Int),LH H g ps n least found->0<=a->a<s->s*ff (ps.drop i)<=1000000->
  ∃v b,Ev tab (.fn 191) [vi i,clV a s,.c (.ptr 0 0 0),.c (.ptr 4 0 0),.c (.ptr 1 0 0),.c (.ptr 2 0 0),.c (.ptr 3 0 0)] H v b/\
   (v=.t []/\∃I A,LH b g ps n I A/\fO (rj (ps.drop i) n a s) least found I A/\∀i:Nat,5<=i->i<H.length->b[i]?=H[i]?):=by
 intro k;induction k with
 |zero=>
  intro i hi H least found a s hH a0 a1 hs;have:i=ps.length:=by omega
  subst this;rw[List.drop_length]at hs ⊢;simp only[ff,atA]at hs;obtain⟨v,b,K,rfl,hL,hk⟩:=KX g ps H n least found a s hH a0 a1 hs hn d_;obtain⟨u1,u2,u3,u4⟩:=BU (n:=n) a0 a1 hn;exact⟨_,b,K,rfl,_,_,hL,fO.one ⟨u1,u2,λp hp=>absurd hp (atu)⟩ (λd hd=>u4 d hd.1 hd.2.1),hk⟩
 |succ k ih=>
  intro i hi H least found a s hH a0 a1 hs;have y:i<ps.length:=by omega
  obtain⟨p,hp⟩:=aQ (ps[i]);have e_:p∈ps:=hp▸aq7 y;have M:=hM p e_;obtain⟨f0,f1,p0,p1,i_,-⟩:=aY M.ok;have b_:ps.drop i=p::ps.drop (i+1):=by rw[hp];exact arp y
  have f8:=pT (l:=ps.drop (i+1)) λq hq=>hM q (List.mem_of_mem_drop hq);have j8:s*p.aH*ff (ps.drop (i+1))<=1000000:=by
   rw[b_]at hs;simp only[ff,<-asC]at hs;exact hs
  have j7:1<=s:=by omega
  have i8:s<=s*p.aH:=by
   have:=ari p0 (show 0<=s by omega);omega
  have i9:s*p.aH<=1000000:=by
   have:=ari f8 (show 0<=s*p.aH by omega);omega
  refine cz rfl rfl λQ hQ=>?_;have F:=λH:aj=>dU (H:=H) (bh ps) (cG (l:=ps) (j:=i) y);have u:=λH:aj=>mq (H:=H) (k:=3) (bh ps) (cG (l:=ps) (j:=i) y) rfl;have E:=λH:aj=>mq (H:=H) (k:=2) (bh ps) (cG (l:=ps) (j:=i) y) rfl;have B:=λH:aj=>bO (H:=H) (g:=g) (rows:=aC ps) (sz:=4) (k:=.i64) (i:=i) (by omega) (by simpa using y);rw[<-hp]at F u E;simp[aE.row]at F B u E;have l4:=av hH.2.2.2.2;apply ai;simp;have a8:=hH.push [.box [.f (fi a),.f (fi s)] 0];have L:(H++[cH.box [.f (fi a),.f (fi s)] 0])[H.length]?=aa (.box [.f (fi a),.f (fi s)] 0):=by simp
  have c6:∀i:Nat,5<=i->i<H.length->(H++[cH.box [.f (fi a),.f (fi s)] 0])[i]?=H[i]?:=λi _ hl=>aq1 hl;obtain⟨b8,d8⟩:=aQ (H.length);rw[<-d8]at L ⊢;generalize H++[cH.box [.f (fi a),.f (fi s)] 0]=HH at a8 L c6 ⊢;obtain⟨q,q0⟩:=a8.1;apply an;apply ai;simp[q0];refine au (by simp[y]) ?_;apply an;apply ai;simp[q0,B,u];refine cC p.aZ.length (λj t b=>t.g 0=vi i/\t.g 2=.c (.ptr 0 0 0)/\t.g 3=.c (.ptr 4 0 0)/\t.g 8=.c (.ptr b8 0 0)/\t.g 21=.c (.f (sl p.cg (ints p.aZ)))/\b[b8]?=aa (.box [.f (fi a),.f (fi s)] 0)/\
   ∃l' W,LH b g ps n l' W/\fO (λd=>rj (ps.drop (i+1)) n a s d/\∃c∈p.aZ.take j,p.aH ∣ d-fx p c) least found l' W/\∀x:Nat,5<=x->x<H.length->b[x]?=H[x]?) (by omega) (by decide) (by decide) (by simp) (by simp)
   ⟨by simp,by simp,by simp,by simp,by simp,L,_,_,a8,fO.none (by simp),c6⟩ ?_ ?_
  .rintro j t b hj ⟨g0,g2,g3,g8,U,L,l',W,J,hP,m⟩ ha hb next
   have hm:=qL M (aq7 hj);obtain⟨h_,i6,-⟩:=oY M hm.1 hm.2;have N:=sx p M p.aZ[j] hm.1 hm.2;simp[aE.row]at N;have g_:p.aZ.take (j+1)=p.aZ.take j++[p.aZ[j]]:=by rw[arD,aq2 hj];rfl
   have c9:∀d,(rj (ps.drop (i+1)) n a s d/\∃c∈p.aZ.take (j+1),p.aH ∣ d-fx p c)↔(rj (ps.drop (i+1)) n a s d/\∃c∈p.aZ.take j,p.aH ∣ d-fx p c)\/(rj (ps.drop (i+1)) n a s d/\p.aH ∣ d-fx p p.aZ[j]):=by
    intro d;rw[g_];simp only[ard,arb];constructor
    .rintro⟨h,c,hc|rfl,e⟩
     .exact .inl ⟨h,c,hc,e⟩
     .exact .inr ⟨h,e⟩
    .rintro(⟨h,c,hc,e⟩|⟨h,e⟩)
     .exact⟨h,c,.inl hc,e⟩
     .exact⟨h,_,.inr rfl,e⟩
   obtain⟨a9,e0⟩:=J.1;have e4:=J.2.2.2.2;have i7:=av L;refine az ?_;apply ai;simp[ha,U,bO,hj,dJ];rcases afQ a0 a1 (by omega) h_ i6 M.aoH with⟨a',O,c_,d5,f9,c5,z⟩|⟨b7,z⟩
   .apply ai;simp[g0,g2,g8,L,e0,B,F,E,N,z];have f_:O*ff (ps.drop (i+1))<=1000000:=by
     have:=arA f9 (show 0<=ff (ps.drop (i+1)) by omega);omega
    obtain⟨v,H2,K,rfl,l2,f2,d6,d7,a_⟩:=ih (i+1) (by omega) (b++[.box [.f (fi a'),.f (fi O)] 0]) l' W a' O (J.push _) c_ d5 f_;have K:=K.eq;have k4:(b++[cH.box [.f (fi a'),.f (fi O)] 0])[4]?=aa (.box [.cl 191 [.ptr 0 0 0,.ptr 4 0 0,.ptr 1 0 0,.ptr 2 0 0,.ptr 3 0 0]] 0):=by rw[aq1 (av e4)];exact e4
    have kN:(b++[cH.box [.f (fi a'),.f (fi O)] 0])[b.length]?=aa (.box [.f (fi a'),.f (fi O)] 0):=by simp
    have kl:(b++[cH.box [.f (fi a'),.f (fi O)] 0]).length=b.length+1:=by simp
    have kb:(b++[cH.box [.f (fi a'),.f (fi O)] 0])[b8]?=aa (.box [.f (fi a),.f (fi s)] 0):=by rw[aq1 (av L)];exact L
    have kk:∀x:Nat,5<=x->x<H.length->(b++[cH.box [.f (fi a'),.f (fi O)] 0])[x]?=H[x]?:=λx h5 hx=>by
     rw[aq1 (by omega)];exact m x h5 hx
    apply an;refine aq (.inl rfl) ?_;simp;generalize b++[cH.box [.f (fi a'),.f (fi O)] 0]=HA at K k4 kN kl kb kk a_ ⊢;refine au (by simp) ?_;refine aq (.inl rfl) ?_;have d9:ah .i64 ((i:Int)+1)=((i+1:Nat):Int):=by rw[aM];rfl
    simp[g0,g3,k4,kN,d9,bX];rw[show(↑i+1:Int)=((i+1:Nat):Int) from rfl];simp only[K];simp;refine ay (next _ _ ?_ (by simp[ha]) (by simp[hb]));refine⟨by simp[g0],by simp[g2],by simp[g3],by simp[g8],by simp[U],?_,l2,f2,d6,?_,?_⟩
    .rw[a_ b8 (by omega) (by omega)];exact kb
    .refine fO.trans hP (d7.iff (S':=λd=>rj (ps.drop (i+1)) n a s d/\p.aH ∣ d-fx p p.aZ[j]) λd=>?_) c9;unfold rj;rw[<-c5 d];constructor
     .rintro⟨⟨X,Y,Z⟩,h4⟩;exact⟨X,⟨Y,h4⟩,Z⟩
     .rintro⟨X,⟨Y,h4⟩,Z⟩;exact⟨⟨X,Y,Z⟩,h4⟩
    .intro x h5 hx;rw[a_ x h5 (by omega)];exact kk x h5 hx
   .apply ai;simp[g0,g2,g8,L,e0,B,F,E,N,z];apply an;refine aq (.inl rfl) ?_;simp;refine ba (by simp) ?_;refine ay (next _ _ ?_ (by simp[ha]) (by simp[hb]));refine⟨by simp[g0],by simp[g2],by simp[g3],by simp[g8],by simp[U],?_,l',W,J.push _,fO.trans hP (fO.none (S:=λd=>rj (ps.drop (i+1)) n a s d/\p.aH ∣ d-fx p p.aZ[j]) λd hd=>b7 d ⟨hd.1.2.1,hd.2⟩) c9,?_⟩
    .rw[aq1 (by omega)];exact L
    .intro x h5 hx;rw[aq1 (by omega)];exact m x h5 hx
  .rintro t b ⟨g0,g2,g3,g8,U,L,l',W,J,hP,m⟩ - -;rw[arz]at hP;refine aB (hQ _ _ _ rfl rfl ⟨rfl,l',W,J,hP.iff λd=>?_,m⟩);rw[b_];unfold rj;simp only[arM,forall_eq_or_imp];constructor
   .rintro⟨X,Y,Z,h4⟩;exact⟨⟨X,Y,h4⟩,Z⟩
   .rintro⟨⟨X,Y,h4⟩,Z⟩;exact⟨X,Y,Z,h4⟩
theorem uK{p:aE}:∀{l:List aE},p∈l->p.aH ∣ ff l
 |q::l,h=>by
  simp only[ff];rcases arM.1 h with rfl|h
  .exact atb _ _
  .exact ar3 (uK h) (att _ _)
theorem KW{p:aE}{d k:Int}(h:gU p d)(g:p.aH ∣ k):gU p (d-k):=by
 obtain⟨c,b,e⟩:=h;refine⟨c,b,?_⟩;have:=asL e g;rwa[show d-fx p c-k=d-k-fx p c by omega]at this
theorem uq{ps:List aE}(g:∀p∈ps,Mod p){m d:Int}(h:∀p∈ps,gU p d)(s:m<=d):∃d',m<=d'/\d'<m+ff ps/\∀p∈ps,gU p d':=by
 have u:=pT g;have j:=arn (d-m) (ff ps);have l:=arJ (d-m) (show ff ps≠0 by omega);have q:=arE (d-m) (show 0<ff ps by omega);refine⟨d-ff ps*((d-m) / ff ps),by omega,by omega,λp b=>KW (h p b) (ar3 (uK b) (atb _ _))⟩
def aiO(ps:List aE)(m d:Int):Prop:=m<=d/\(∀p∈ps,gU p d)/\d<m+ff ps/\∀d',m<=d'->(∀p∈ps,gU p d')->d<=d'
theorem afE(g:Tg)(ps:List aE)(x:∀p∈ps,Mod p)(K:ps.length<=64)(U:ff ps<=1000000)(n m:Int)(O:m=max n (cR ps))(I:m<=1000000000000) :
  (∃d,aiO ps m d/\bH tab 127 [.c (.f (sl g (aC ps))),vi n]=Eq (.t [vi d,vb ae]))\/
  ((∀d,m<=d->¬ ∀p∈ps,gU p d)/\bH tab 127 [.c (.f (sl g (aC ps))),vi n]=Eq (.t [vi 0,vb ag])):=by
 have s:=aah g ps K;have W:=nz ps;have S:=pT x;obtain⟨v,X,b,rfl,z,N,E,y,-⟩:=anU g ps x K m (by omega) I ps.length 0 (by omega) [.box [.f (sl g (aC ps))] 0,.box [.f (fi m)] 0,.box [.f (fi 1152921504606846976)] 0,.box [.f (.bool ag)] 0,.box [.cl 191 [.ptr 0 0 0,.ptr 4 0 0,.ptr 1 0 0,.ptr 2 0 0,.ptr 3 0 0]] 0]
  1152921504606846976 ag 0 1 ⟨⟨0,rfl⟩,rfl,rfl,rfl,rfl⟩ (by decide) (by decide) (by rw[asp];omega)
 rw[asp]at y;have H:∀d,rj ps m 0 1 d↔m<=d/\∀p∈ps,gU p d:=λd=>⟨λh=>⟨h.1,h.2.2⟩,λh=>⟨h.1,Int.one_dvd _,h.2⟩⟩
 have j:max n (cR ps)=m:=O.symm;have b:=b.eq;simp only[show((0:Nat):Int)=0 from rfl]at b;cases N with
 |true=>
  left;have q:rj ps m 0 1 z:=by
   rcases y.src with⟨_,h⟩|⟨_,h⟩
   .cases h
   .exact h
  have l:∀d',m<=d'->(∀p∈ps,gU p d')->z<=d':=λd' A B=>(y.low d' ((H d').2 ⟨A,B⟩)).1;obtain⟨L,M⟩:=(H z).1 q;obtain⟨u,n1,n2,J⟩:=uq x M L;refine⟨z,⟨L,M,by have:=l u n1 J;omega,l⟩,bH.eq (bD rfl rfl λQ F=>?_)⟩;apply ai;simp;apply ai;simp[s,j];apply ai;simp;apply ai;simp;apply ai;simp;apply ai;simp[bX,b];apply an;apply ai;simp[E.2.2.2.1];refine ba (by simp) ?_;apply ai;simp[E.2.2.1];refine aB (F _ _ ?_);simp
 |false=>
  right;refine⟨λd A B=>?_,bH.eq (bD rfl rfl λQ F=>?_)⟩
  .obtain⟨u,n1,n2,J⟩:=uq x B A;have:=(y.low u ((H u).2 ⟨n1,J⟩)).2 (by omega);cases this
  .apply ai;simp;apply ai;simp[s,j];apply ai;simp;apply ai;simp;apply ai;simp;apply ai;simp[bX,b];apply an;apply ai;simp[E.2.2.2.1];refine au (by simp) ?_;apply ai;simp;refine aB (F _ _ ?_);simp
def kJ:List (Int × Int)->List aE->Prop
 |_,[]=>True| ch,p::l=>∃c∈p.aZ,(∀x∈ch,(arU p.aH x.2:Int) ∣ fx p c-x.1)/\kJ (ch++[(fx p c,p.aH)]) l
theorem vT{d:Int}:∀(l:List aE) (ch:List (Int × Int)),(∀x∈ch,x.2 ∣ d-x.1)->(∀p∈l,gU p d)->kJ ch l
 |[],_,_,_=>trivial
 |p::l,ch,j,m=>by
  obtain⟨c,g,hd⟩:=m p arl;refine⟨c,g,λx b=>?_,vT l _ (λx b=>?_) λq v=>m q (arj _ v)⟩
  .have s:=ar3 (asW p.aH x.2) (j x b);have u:=ar3 (asR p.aH x.2) hd;have:=asL s u;rwa[show d-x.1-(d-fx p c)=fx p c-x.1 by omega]at this
  .rcases ard.1 b with b|b
   .exact j x b
   .rw[arb.1 b];exact hd
def RH(B:aj)(H:aj)(g:Tg)(ps:List aE)(b:List Int):Prop:=(∃a,H[B.length]?=aa (.box [.f (sl g (aC ps))] a))/\H[B.length+1]?=aa (.box (b.map λx=>C.f (fi x)) 0)/\H[B.length+2]?=aa (.box [.sl (B.length+1) 0 ps.length ps.length 0 1] 0)/\
 H[B.length+3]?=aa (.box [.cl 86 [.ptr B.length 0 0,.ptr (B.length+2) 0 0,.ptr (B.length+3) 0 0]] 0)/\∀i:Nat,i<B.length->H[i]?=B[i]?
def Cho(ps:List aE)(b:List Int)(ch:List (Int × Int)):Prop:=∀j,(h:j<ch.length)->b[j]?=aa ch[j].1/\(∃p,ps[j]?=aa p/\p.aH=ch[j].2)/\0<=ch[j].1/\ch[j].1<=27720
theorem aqe(B:aj){o:Nat}(ho:o=B.length)(g:Tg)(ps:List aE)(hM:∀p∈ps,Mod p)(p_:ps.length<=64) :
  ∀(k i:Nat),i+k=ps.length->∀(H:aj) (ls:List Int) (ch:List (Int × Int)),RH B H g ps ls->ls.length=ps.length->ch.length=i->Cho ps ls ch->
  ∃v d,Ev tab (.fn 86) [vi i,.c (.ptr o 0 0),.c (.ptr (o+2) 0 0),.c (.ptr (o+3) 0 0)] H v d/\
   ∃b,v=vb b/\(b=ae↔kJ ch (ps.drop i))/\∃ls',RH B d g ps ls'/\ls'.length=ps.length/\ls'.take i=ls.take i:=by
 intro k;induction k with
 |zero=>
  intro i hi H ls ch hH h_ f8 E;have:i=ps.length:=by omega
  subst this;obtain⟨q,q0⟩:=hH.1;rw[<-ho]at q0;refine cz rfl rfl λQ hQ=>?_;apply ai;simp;refine iM ?_;apply an;apply ai;simp[q0];refine au (by simp) ?_;apply ai;simp;exact aB (hQ _ _ _ rfl (cV (by simp)) ⟨ae,rfl,by rw[List.drop_length];simp[kJ],ls,hH,h_,rfl⟩)
 |succ k ih=>
  intro i hi H ls ch hH h_ f8 E;have u:i<ps.length:=by omega
  obtain⟨p,hp⟩:=aQ (ps[i]);have o9:p∈ps:=hp▸aq7 u;have O:=hM p o9;obtain⟨f0,f1,p0,p1,p8,-⟩:=aY O.ok;have o4:ps.drop i=p::ps.drop (i+1):=by rw[hp];exact arp u
  have Z:=λH:aj=>dU (H:=H) (bh ps) (cG (l:=ps) (j:=i) u);have s:=λH:aj=>mq (H:=H) (k:=3) (bh ps) (cG (l:=ps) (j:=i) u) rfl;have X:=λH:aj=>mq (H:=H) (k:=2) (bh ps) (cG (l:=ps) (j:=i) u) rfl;have F:=λH:aj=>bO (H:=H) (g:=g) (rows:=aC ps) (sz:=4) (k:=.i64) (i:=i) (by omega) (by simpa using u);rw[<-hp]at Z s X;simp[aE.row]at Z F s X;obtain⟨q,q0⟩:=hH.1;rw[<-ho]at q0;refine cz rfl rfl λQ hQ=>?_;apply ai;simp;refine iM ?_;apply an;apply ai;simp[q0];refine aA (by simp;omega) (aJ ?_);refine an (mo ?_);apply an;apply ai;simp[q0,F,s];obtain⟨Ok,i_⟩:∃Ok:Int->Prop,Ok=λc=>(∀x∈ch,(arU p.aH x.2:Int) ∣ fx p c-x.1)/\kJ (ch++[(fx p c,p.aH)]) (ps.drop (i+1)):=⟨_,rfl⟩
  have S:∀c,Ok c↔((∀x∈ch,(arU p.aH x.2:Int) ∣ fx p c-x.1)/\kJ (ch++[(fx p c,p.aH)]) (ps.drop (i+1))):=λc=>by rw[i_]
  have d5:kJ ch (ps.drop i)↔∃c∈p.aZ,Ok c:=by rw[o4,i_];rfl
  refine cC p.aZ.length (λj t d=>t.g 0=vi i/\t.g 1=.c (.ptr o 0 0)/\t.g 2=.c (.ptr (o+2) 0 0)/\t.g 3=.c (.ptr (o+3) 0 0)/\t.g 18=.c (.f (sl p.cg (ints p.aZ)))/\
   (∀c∈p.aZ.take j,¬ Ok c)/\∃ls',RH B d g ps ls'/\ls'.length=ps.length/\ls'.take i=ls.take i) (by omega) (by decide) (by decide) (by simp) (by simp) ⟨by simp,by simp,by simp,by simp,by simp,by simp,ls,hH,h_,rfl⟩ ?_ ?_
  .rintro j t d hj ⟨N,g1,g2,g3,m,c6,ls',hR,J,K⟩ ha hb next
   have hm:=qL O (aq7 hj);obtain⟨n7,o_,-⟩:=oY O hm.1 hm.2;have Y:=sx p O p.aZ[j] hm.1 hm.2;simp[aE.row]at Y;have q_:=O.aoH;have m_:p.aZ.take (j+1)=p.aZ.take j++[p.aZ[j]]:=by rw[arD,aq2 hj];rfl
   have d7:¬ Ok p.aZ[j]->∀c∈p.aZ.take (j+1),¬ Ok c:=by
    intro h c hc;rw[m_,ard,arb]at hc;rcases hc with hc|rfl
    .exact c6 c hc
    .exact h
   obtain⟨r,hr⟩:=aQ (fx p p.aZ[j]);rw[<-hr]at n7 o_ Y;obtain⟨q',c9⟩:=hR.1;have M:=hR.2.1;have c_:=hR.2.2.1;have n5:=hR.2.2.2.1;have n6:=hR.2.2.2.2;rw[<-ho]at c9 M c_ n5 n6;have d6:∀j,(h:j<ch.length)->ls'[j]?=aa ch[j].1:=λj h=>by
    have h1:(ls'.take i)[j]?=ls'[j]?:=List.getElem?_take_of_lt (by omega);have h2:(ls.take i)[j]?=ls[j]?:=List.getElem?_take_of_lt (by omega);rw[<-h1,K,h2];exact(E j h).1
   refine az ?_;apply ai;simp[ha,m,bO,hj,dJ];apply ai;simp[N,g1,c9,F,Z,Y];apply an;apply ai;simp[N];refine cC i (λn t H2=>(t.g 0=vi i/\t.g 1=.c (.ptr o 0 0)/\t.g 2=.c (.ptr (o+2) 0 0)/\t.g 3=.c (.ptr (o+3) 0 0)/\t.g 18=.c (.f (sl p.cg (ints p.aZ)))/\t.g 20=vi j/\t.g 19=vi p.aZ.length/\t.g 8=vi r)/\H2=d/\∀x∈ch.take n,(arU p.aH x.2:Int) ∣ r-x.1)
    (by omega) (by decide) (by decide) (by simp) (by simp) ⟨⟨by simp[N],by simp[g1],by simp[g2],by simp[g3],by simp[m],by simp[ha],by simp[hb],by simp⟩,rfl,by simp⟩ ?_ ?_
   .rintro n t H2 hn ⟨⟨N,g1,g2,g3,m,a_,a8,g8⟩,d_,A⟩ j7 n_ nx;rw[d_];have c5:n<ps.length:=by omega
    have b_:n<ch.length:=by omega
    obtain⟨-,⟨pn,m8,i6⟩,x0,x1⟩:=E n b_;have g_:=d6 n b_;obtain⟨x,hx⟩:=aQ (ch[n]);rw[<-hx]at g_ i6 x0 x1;have d8:ps[n]=pn:=by rw[aq2 c5]at m8;exact asN m8
    have n9:=hM pn (d8▸aq7 c5);obtain⟨-,-,z0,z1,-⟩:=aY n9.ok;rw[i6]at z0 z1;have z:=λH:aj=>mq (H:=H) (k:=2) (bh ps) (cG (l:=ps) (j:=n) c5) rfl;have U:=λH:aj=>bO (H:=H) (g:=g) (rows:=aC ps) (sz:=4) (k:=.i64) (i:=n) (by omega) (by simpa using c5);rw[d8]at z;simp[aE.row,i6]at z U;have W:bg d 1 ab (.c (.sl (o+1) 0 ps.length ps.length 0 1)) (vi n)=aa (.c (.ptr (o+1) n 0)):=by
     simp[bg,fE,M,J];omega
    have k_:bF d ab (.c (.ptr (o+1) n 0))=aa (vi x.1):=by
     have hd:(ls'.map λy=>C.f (fi y)).drop n=C.f (fi x.1) ::(ls'.map λy=>C.f (fi y)).drop (n+1):=by
      rw[arp (by simp;omega),List.getElem_map];rw[aq2 (by omega)]at g_;rw[asN g_]
     simp only[bF,aK,M,Option.bind_some];rw[hd];rfl
    have o8:bF d ab (.c (.ptr (o+2) 0 0))=aa (.c (.sl (o+1) 0 ps.length ps.length 0 1)):=by simp[c_]
    have o7:bF d ab (.c (.ptr o 0 0))=aa (.c (.f (sl g (aC ps)))):=by simp[c9]
    obtain⟨gg,f_⟩:=aQ ((arU p.aH x.2:Int):Int);have o5:arU p.aH x.2=asn p.aH.toNat x.2.toNat:=by
     show asn p.aH.natAbs x.2.natAbs=_;rw[show p.aH.natAbs=p.aH.toNat by omega,show x.2.natAbs=x.2.toNat by omega]
    have p9:0<gg:=by
     have:=asb x.2 (show p.aH≠0 by omega);omega
    have j9:bH tab 88 [vi p.aH,vi x.2]=Eq (vi gg):=by
     have h:=rJ (a:=p.aH.toNat) (b:=x.2.toNat) (by omega) (by omega);rw[show((p.aH.toNat:Nat):Int)=p.aH by omega,show((x.2.toNat:Nat):Int)=x.2 by omega,<-o5,<-f_]at h;exact h
    have n8:=aM (n:=r-x.1);have m9:bL .rem (vi (r-x.1)) (vi gg)=aa (vi ((r-x.1).tmod gg)):=fQ (by omega);have I:ch.take (n+1)=ch.take n++[x]:=by rw[arD,aq2 b_,hx];rfl
    refine az ?_;apply ai;simp[j7];apply ai;simp[N,g1,g2,g8,o7,o8,W,k_,F,X,U,z,j9,n8,m9,-aD];by_cases hd:gg ∣ r-x.1
    .have i7:(r-x.1).tmod gg=0:=atl hd;refine ba (by simp[i7]) ?_;refine ay (nx _ _ ?_ (by simp[j7]) (by simp[n_]));refine⟨⟨by simp[N],by simp[g1],by simp[g2],by simp[g3],by simp[m],by simp[a_],by simp[a8],by simp[g8]⟩,rfl,λy hy=>?_⟩;rw[I,ard,arb]at hy;rcases hy with hy|rfl
     .exact A y hy
     .rw[<-f_];exact hd
    .have i7:¬ (r-x.1).tmod gg=0:=λe=>hd (Int.dvd_of_tmod_eq_zero e);refine au (by simp[i7]) ?_;refine aS rfl (next _ _ ?_ (by simp[a_]) (by simp[a8]));refine⟨by simp[N],by simp[g1],by simp[g2],by simp[g3],by simp[m],d7 ?_,ls',hR,J,K⟩;rw[S];rintro⟨h,-⟩;have:=h x (hx▸aq7 b_);rw[<-f_,<-hr]at this;exact hd this
   .rintro t H2 ⟨⟨N,g1,g2,g3,m,a_,a8,g8⟩,d_,A⟩ - -;rw[d_];rw[arw (by omega)]at A;have W:bg d 1 ab (.c (.sl (o+1) 0 ps.length ps.length 0 1)) (vi i)=aa (.c (.ptr (o+1) i 0)):=by
     simp[bg,fE,M,J];omega
    have d9:dC d (.ptr (o+1) i 0) [.f (fi r)]=aa (d.set (o+1) (.box ((ls'.set i r).map λy=>C.f (fi y)) 0)):=by
     simp only[dC,M];rw[bw (by simp;omega),rZ (by simp;omega),List.map_set]
    have m7:(d.set (o+1) (.box ((ls'.set i r).map λy=>C.f (fi y)) 0))[o+3]?=d[o+3]?:=aq0 (by omega);have l_:=av M;have e_:RH B (d.set (o+1) (.box ((ls'.set i r).map λy=>C.f (fi y)) 0)) g ps (ls'.set i r):=by
     unfold RH;rw[<-ho];refine⟨⟨q',?_⟩,aq6 l_,?_,?_,λi hi=>?_⟩
     .rw[aq0 (by omega)];exact c9
     .rw[aq0 (by omega)];exact c_
     .rw[m7];exact n5
     .rw[aq0 (by omega)];exact n6 i hi
    have f9:Cho ps (ls'.set i r) (ch++[(r,p.aH)]):=by
     intro y hy;rw[List.length_append,List.length_singleton]at hy;by_cases i8:y<ch.length
     .rw[List.getElem_append_left i8,aq0 (by omega)];obtain⟨-,h2,h3⟩:=E y i8;exact⟨d6 y i8,h2,h3⟩
     .have:y=i:=by omega
      subst this;rw[List.getElem_append_right (by omega)];simp only[f8,Nat.sub_self,List.getElem_cons_zero];refine⟨by rw[aq6 (by omega)],⟨p,by rw[aq2 u,hp],rfl⟩,n7,by omega⟩
    obtain⟨v,H3,b7,b,rfl,j8,L,j4,j_,I⟩:=ih (i+1) (by omega) _ _ (ch++[(r,p.aH)]) e_ (by simpa using J) (by simp[f8]) f9;have b7:=b7.eq;have i9:=e_.2.2.2.1;rw[<-ho]at i9;generalize d.set (o+1) (.box ((ls'.set i r).map λy=>C.f (fi y)) 0)=HN at d9 b7 i9 m7 e_;have o6:ah .i64 ((i:Int)+1)=((i+1:Nat):Int):=by rw[aM];rfl
    apply ai;simp[N,g2,g8,c_,W,d9,-bC];apply ai;simp[N,g3,i9,o6,bX];rw[show(↑i+1:Int)=((i+1:Nat):Int) from rfl];simp only[b7];simp;cases b with
    |true=>
     refine au (by simp) ?_;apply ai;simp;refine aB (hQ _ _ _ rfl (cV (by simp)) ⟨ae,rfl,?_,L,j4,j_,?_⟩)
     .rw[d5];refine⟨λ_=>⟨_,aq7 hj,?_⟩,λ_=>rfl⟩;rw[S,<-hr];exact⟨A,j8.1 rfl⟩
     .have h1:(L.take (i+1)).take i=L.take i:=by rw[atf,asK (by omega)]
      rw[<-h1,I,atf,asK (by omega),List.take_set_of_le (by omega),K]
    |false=>
     refine ba (by simp) ?_;refine ay (next _ _ ?_ (by simp[a_]) (by simp[a8]));refine⟨by simp[N],by simp[g1],by simp[g2],by simp[g3],by simp[m],d7 ?_,L,j4,j_,?_⟩
     .rw[S,<-hr];rintro⟨-,h⟩;have:=j8.2 h;cases this
     .have h1:(L.take (i+1)).take i=L.take i:=by rw[atf,asK (by omega)]
      rw[<-h1,I,atf,asK (by omega),List.take_set_of_le (by omega),K]
  .rintro t d ⟨N,g1,g2,g3,m,c6,ls',hR,J,K⟩ - -;rw[arz]at c6;apply ai;simp;refine aB (hQ _ _ _ rfl (cV (by simp)) ⟨ag,rfl,?_,ls',hR,J,K⟩);rw[d5];constructor
   .intro h;cases h
   .rintro⟨c,hc,h⟩;exact absurd h (c6 c hc)
theorem dW{n b:Nat}(g:n<=1100000)(d:b<=4096):cJ n b=ae:=by
 have h:(2*n+768)*b<=2200768*4096:=Nat.mul_le_mul (by omega) d;simp[cJ];omega
theorem uN(g:Tg)(ps:List aE)(E:∀p∈ps,Mod p)(J:1<=ps.length)(I:ps.length<=64):∃b,(b=ae↔kJ [] ps)/\Kf tab 45 [.c (.f (sl g (aC ps)))] (vb b):=by
 obtain⟨b,A⟩:∃b:Bool,b=ae↔kJ [] ps:=⟨open Classical in decide (kJ [] ps),by simp⟩
 refine⟨b,A,dL rfl rfl λH Q F=>?_⟩;have u:RH H (H++[.box [.f (sl g (aC ps))] 0,.box (List.replicate ps.length (C.f (fi 0))) 0,.box [.sl (H.length+1) 0 ps.length ps.length 0 1] 0,.box [.cl 86 [.ptr H.length 0 0,.ptr (H.length+2) 0 0,.ptr (H.length+3) 0 0]] 0]) g ps (List.replicate ps.length 0):=by
  refine⟨⟨0,by simp⟩,by simp,by simp,by simp,λi hi=>aq1 hi⟩
 obtain⟨v,z,d,B,rfl,q,ls',m,-⟩:=aqe H rfl g ps E I ps.length 0 (by omega) _ _ [] u (by simp) rfl (λj h=>absurd h (Nat.not_lt_zero j));rw[asp,<-A]at q;have x:B=b:=by rw[asX];exact q
 subst x;have d:=d.eq;simp only[show((0:Nat):Int)=0 from rfl]at d;apply ai;simp;have l:cJ ps.length 8=ae:=dW (by omega) (by decide);have y:∀(t:T) (H:aj),t.g 6=vi ps.length->bG t H (.eh 1 8 [.int .i64 0] (R 6) (R 6))=aa (.c (.sl H.length 0 ps.length ps.length 0 1),H++[.box (List.replicate ps.length (C.f (fi 0))) 0]):=by
  intro t H h;have e:(cQ ps.length [fi 0]).map C.f=List.replicate ps.length (C.f (fi 0)):=by simp[cQ]
  simp only[bG,wX,h,fE];rw[bw ⟨by omega,ar9 _,by simpa using l,rfl⟩];rw[aR (by omega),ar7,e]
 apply ai;simp[y];apply ai;simp;apply ai;simp;apply ai;simp[bX,d];have s:z=H++z.drop H.length:=by
  refine List.ext_getElem? λi=>?_;have K:=av m.2.2.2.1;rcases Nat.lt_or_ge i H.length with h|h
  .exact(m.2.2.2.2 i h).trans (aq1 h).symm
  .refine Eq.trans ?_ (List.getElem?_append_right h).symm;rw[List.getElem?_drop,Nat.add_sub_cancel' h]
 refine aB (F _ _ ?_);simp;exact⟨_,s⟩
theorem uO(g:Tg)(ps:List aE)(j:∀p∈ps,Mod p)(d:1<=ps.length)(m:ps.length<=64):∃b,(b=ae↔kJ [] ps)/\bH tab 45 [.c (.f (sl g (aC ps)))]=Eq (vb b):=by
 obtain⟨b,l,h⟩:=uN g ps j d m;exact⟨b,l,h.eq⟩
def fV(S:Int->Prop)(l:Int)(f:Bool):Prop:=(f=ag/\l=0/\∀d,¬ S d)\/(f=ae/\S l/\∀d,S d->l<=d)
theorem fV.iff{S S':Int->Prop}{l:Int}{f:Bool}(h:fV S l f)(g:∀d,S' d↔S d):fV S' l f:=by
 rcases h with⟨a,b,c⟩|⟨a,b,c⟩
 .exact .inl ⟨a,b,λd hd=>c d ((g d).1 hd)⟩
 .exact .inr ⟨a,(g _).2 b,λd hd=>c d ((g d).1 hd)⟩
theorem fV.step{S S':Int->Prop}{l x:Int}{f:Bool}(h:fV S l f)(g:∀d,S' d↔S d\/d=x):fV S' (if f=ag\/x<l then x else l) ae:=by
 right;rcases h with⟨rfl,rfl,c⟩|⟨rfl,b,c⟩
 .refine⟨rfl,by simpa using (g x).2 (.inr rfl),λd hd=>?_⟩;rcases(g d).1 hd with h|rfl
  .exact absurd h (c d)
  .simp
 .refine⟨rfl,?_,λd hd=>?_⟩
  .by_cases k:x<l
   .simpa[k]using (g x).2 (.inr rfl)
   .simpa[k]using (g l).2 (.inl b)
  .rcases(g d).1 hd with h|rfl
   .have:=c d h;by_cases k:x<l<;>simp[k]<;>omega
   .by_cases k:d<l<;>simp[k];omega
def ic(ps:List aE)(n:Int)(l:List aE)(d:Int):Prop:=n<=d/\td ps d=ae/\∃p∈l,d∈p.head
theorem xD(g:Tg)(ps:List aE)(hP:∀p∈ps,cm p=ae)(hl:ps.length<=64)(n:Int):∃e f,fV (ic ps n ps) e f/\bH tab 80 [.c (.f (sl g (aC ps))),vi n]=Eq (.t [vi e,vb f]):=by
 have key:∃r,(∃e f,fV (ic ps n ps) e f/\r=.t [vi e,vb f])/\bH tab 80 [.c (.f (sl g (aC ps))),vi n] r:=by
  refine ey rfl rfl λQ hQ=>?_;apply ai;simp;apply ai;simp;apply an;apply ai;simp;refine cC ps.length (λj t H'=>t.g 0=.c (.f (sl g (aC ps)))/\t.g 1=vi n/\t.g 12=.c (.f (sl g (aC ps)))/\∃e f,t.g 6=vi e/\t.g 7=vb f/\fV (ic ps n (ps.take j)) e f) (by omega) (by decide) (by decide) (by simp) (by simp)
   ⟨by simp,by simp,by simp,0,ag,by simp,by simp,.inl ⟨rfl,rfl,λd hd=>by obtain⟨_,_,p,hp,_⟩:=hd;simp at hp⟩⟩ ?_ ?_
  .rintro j t H hj ⟨s,u,b,e,f,B,E,N⟩ ha hb next
   obtain⟨p,hp⟩:=aQ (ps[j]);have b_:p∈ps:=hp▸aq7 hj;obtain⟨f0,f1,p0,p1,d9,-,a_,-⟩:=aY (hP p b_);have O:=λH:aj=>dU (H:=H) (bh ps) (cG (l:=ps) (j:=j) hj);have W:=λH:aj=>bO (H:=H) (g:=g) (rows:=aC ps) (sz:=4) (k:=.i64) (i:=j) (by omega) (by simpa using hj);rw[<-hp]at O;simp[aE.row]at O W;have c5:ps.take (j+1)=ps.take j++[p]:=by rw[arD,aq2 hj,hp];rfl
   refine az ?_;apply ai;simp[b,ha,W,O];apply ai;simp;refine cC p.head.length (λi t H'=>t.g 0=.c (.f (sl g (aC ps)))/\t.g 1=vi n/\t.g 12=.c (.f (sl g (aC ps)))/\t.g 14=vi j/\t.g 13=vi ps.length/\t.g 19=.c (.f (sl p.hg (ints p.head)))/\
    ∃e f,t.g 6=vi e/\t.g 7=vb f/\fV (λd=>ic ps n (ps.take j) d\/(n<=d/\td ps d=ae/\d∈p.head.take i)) e f) (by omega) (by decide) (by decide) (by simp) (by simp)
    ⟨by simp[s],by simp[u],by simp[b],by simp[ha],by simp[hb],by simp,e,f,by simp[B],by simp[E],N.iff λd=>by simp⟩ ?_ ?_
   .rintro i t H hi ⟨s,u,b,y,v,z,e,f,B,E,N⟩ K M nx;obtain⟨x,hx⟩:=aQ (p.head[i]);have c6:x∈p.head:=hx▸aq7 hi;have d_:=a_ x c6;have a8:=λH:aj=>dJ (H:=H) hi;rw[<-hx]at a8;have A:=(ahb g ps (by omega) hP x (by unfold Day;omega)).eq;have X:p.head.take (i+1)=p.head.take i++[x]:=by rw[arD,aq2 hi,hx];rfl
    refine az ?_;apply ai;simp[K,z,bO,hi,a8];have bE:¬ (n<=x/\td ps x=ae)->fV (λd=>ic ps n (ps.take j) d\/(n<=d/\td ps d=ae/\d∈p.head.take (i+1))) e f:=λb7=>N.iff λd=>by
     rw[X,ard,arb];constructor
     .rintro(h|⟨F,I,J|rfl⟩)
      .exact .inl h
      .exact .inr ⟨F,I,J⟩
      .exact absurd ⟨F,I⟩ b7
     .rintro(h|⟨F,I,J⟩)
      .exact .inl h
      .exact .inr ⟨F,I,.inl J⟩
    have S:(n<=x/\td ps x=ae)->fV (λd=>ic ps n (ps.take j) d\/(n<=d/\td ps d=ae/\d∈p.head.take (i+1))) (if f=ag\/x<e then x else e) ae:=λY=>N.step λd=>by
     rw[X,ard,arb];constructor
     .rintro(h|⟨F,I,J|rfl⟩)
      .exact .inl (.inl h)
      .exact .inl (.inr ⟨F,I,J⟩)
      .exact .inr rfl
     .rintro((h|⟨F,I,J⟩)|rfl)
      .exact .inl h
      .exact .inr ⟨F,I,.inl J⟩
      .exact .inr ⟨Y.1,Y.2,.inr rfl⟩
    have L:∀(t:T) (H:aj) (e':Int) (f':Bool),t.g 0=.c (.f (sl g (aC ps)))->t.g 1=vi n->t.g 12=.c (.f (sl g (aC ps)))->t.g 14=vi j->t.g 13=vi ps.length->t.g 19=.c (.f (sl p.hg (ints p.head)))->t.g 21=vi i->t.g 20=vi p.head.length->t.g 6=vi e'->t.g 7=vb f'->fV (λd=>ic ps n (ps.take j) d\/(n<=d/\td ps d=ae/\d∈p.head.take (i+1))) e' f'->
      WP tab 80 ab [.code wF,.inLoop wE,.inBlock 2,.inBlock 1,.code wG,.inLoop AO,.inBlock 0,.code wH] ⟨t,[],H⟩ Q:=by
     intro t H e' f' q0 q1 c9 d5 c_ d6 d8 d7 q6 q7 qm;refine nx _ _ ?_ d8 d7;exact⟨by simp[q0],by simp[q1],by simp[c9],by simp[d5],by simp[c_],by simp[d6],e',f',by simp[q6],by simp[q7],qm⟩
    by_cases U:n<=x
    .cases f with
     |false=>
      cases m:td ps x with
      |false=>
       rw[m]at A;apply ai;simp[s,u,B,E,U,A];refine aA (by simp) (aJ (ay ?_));exact L _ _ e ag (by simp[s]) (by simp[u]) (by simp[b]) (by simp[y]) (by simp[v]) (by simp[z]) (by simp[K]) (by simp[M]) (by simp[B]) (by simp[E]) (bE (by simp[m]))
      |true=>
       rw[m]at A;apply ai;simp[s,u,B,E,U,A];refine au (by simp) (aq (.inl rfl) ?_);simp;refine ay ?_;exact L _ _ x ae (by simp[s]) (by simp[u]) (by simp[b]) (by simp[y]) (by simp[v]) (by simp[z]) (by simp[K]) (by simp[M]) (by simp) (by simp) (by have:=S ⟨U,m⟩;simpa using this)
     |true=>
      by_cases c2:x<e
      .cases m:td ps x with
       |false=>
        rw[m]at A;apply ai;simp[s,u,B,E,U,c2,A];refine aA (by simp) (aJ (ay ?_));exact L _ _ e ae (by simp[s]) (by simp[u]) (by simp[b]) (by simp[y]) (by simp[v]) (by simp[z]) (by simp[K]) (by simp[M]) (by simp[B]) (by simp[E]) (bE (by simp[m]))
       |true=>
        rw[m]at A;apply ai;simp[s,u,B,E,U,c2,A];refine au (by simp) (aq (.inl rfl) ?_);simp;refine ay ?_;exact L _ _ x ae (by simp[s]) (by simp[u]) (by simp[b]) (by simp[y]) (by simp[v]) (by simp[z]) (by simp[K]) (by simp[M]) (by simp) (by simp) (by have:=S ⟨U,m⟩;simpa[c2]using this)
      .apply ai;simp[s,u,B,E,U,c2];refine aA (by simp) (aJ (ay ?_));refine L _ _ e ae (by simp[s]) (by simp[u]) (by simp[b]) (by simp[y]) (by simp[v]) (by simp[z]) (by simp[K]) (by simp[M]) (by simp[B]) (by simp[E]) ?_;cases m:td ps x with
       |false=>exact bE (by simp[m])
       |true=>have:=S ⟨U,m⟩;simpa[c2]using this
    .apply ai;simp[s,u,B,E,U];refine aA (by simp) (aJ (ay ?_));exact L _ _ e f (by simp[s]) (by simp[u]) (by simp[b]) (by simp[y]) (by simp[v]) (by simp[z]) (by simp[K]) (by simp[M]) (by simp[B]) (by simp[E]) (bE λh=>U h.1)
   .rintro t H ⟨s,u,b,y,v,z,e,f,B,E,N⟩ - -;rw[arz]at N;refine ay (next _ _ ?_ (by simp[y]) (by simp[v]));refine⟨by simp[s],by simp[u],by simp[b],e,f,by simp[B],by simp[E],N.iff λd=>?_⟩;unfold ic;rw[c5];constructor
    .rintro⟨F,I,q,Z,J⟩;rcases ard.1 Z with Z|Z
     .exact .inl ⟨F,I,q,Z,J⟩
     .rw[arb.1 Z]at J;exact .inr ⟨F,I,J⟩
    .rintro(⟨F,I,q,Z,J⟩|⟨F,I,J⟩)
     .exact⟨F,I,q,ar4 _ Z,J⟩
     .exact⟨F,I,p,asA _ (arb.2 rfl),J⟩
  .rintro t H ⟨s,u,b,e,f,B,E,N⟩ ha hb;rw[arz]at N;apply ai;simp[B,E];refine aB (hQ _ _ _ ⟨e,f,N,rfl⟩ ?_);simp
 obtain⟨r,⟨e,f,N,rfl⟩,h⟩:=key;exact⟨e,f,N,h.eq⟩
def Compat(L:List (Int × Int)):Prop:=∀x∈L,∀y∈L,(arU x.2 y.2:Int) ∣ x.1-y.1
theorem uM:∀(l:List aE) (ch:List (Int × Int)),kJ ch l->Compat ch->∃g,Compat (ch++g)/\(∀p∈l,∃c∈p.aZ,(fx p c,p.aH)∈g)/\∀x∈g,∃p∈l,x.2=p.aH
 |[],ch,_,s=>⟨[],by simpa using s,by simp,by simp⟩
 |p::l,ch,⟨c,s,z,B⟩,u=>by
  obtain⟨g,E,F,H⟩:=uM l _ B (λx b y d=>by
   rcases ard.1 b with b|b
   .rcases ard.1 d with d|d
    .exact u x b y d
    .rw[arb.1 d];have:=z x b;rw[Int.gcd_comm]at this;have:=Int.dvd_neg.2 this;rwa[show -(fx p c-x.1)=x.1-fx p c by omega]at this
   .rw[arb.1 b];rcases ard.1 d with d|d
    .exact z y d
    .rw[arb.1 d,Int.sub_self];exact Int.dvd_zero _)
  refine⟨(fx p c,p.aH)::g,by simpa using E,λq v=>?_,λx b=>?_⟩
  .rcases arM.1 v with rfl|v
   .exact⟨c,s,arl⟩
   .obtain⟨A,j,m⟩:=F q v;exact⟨A,j,arj _ m⟩
  .rcases arM.1 b with rfl|b
   .exact⟨p,arl,rfl⟩
   .obtain⟨q,j,m⟩:=H x b;exact⟨q,arj _ j,m⟩
theorem ajj(Q:Nat)(g:Q∈[8,9,5,7,11])(a b:Nat):asn a Q ∣ asn b Q\/asn b Q ∣ asn a Q:=by
 have h:∀Q∈[8,9,5,7,11],∀d e:Fin 12,d.1 ∣ Q->e.1 ∣ Q->d.1 ∣ e.1\/e.1 ∣ d.1:=by decide
 have j:∀x:Nat,asn x Q<12:=λx=>by
  have l:0<Q/\Q<=11:=by
   simp only[arM,atu,or_false]at g;omega
  have:=Nat.le_of_dvd l.1 (atc x Q);omega
 exact h Q g ⟨_,j a⟩ ⟨_,j b⟩ (atc _ _) (atc _ _)
theorem A3(Q:Nat)(d:Q∈[8,9,5,7,11]):∀L:List (Int × Int),L≠[]->(∀x∈L,1<=x.2/\x.2 ∣ 27720)->∃y∈L,∀z∈L,asn z.2.toNat Q ∣ asn y.2.toNat Q
 |[],h,_=>absurd rfl h| [x],_,_=>⟨x,by simp,by simp⟩
 |x::y::L,_,g=>by
  obtain⟨m,j,h⟩:=A3 Q d (y::L) (by simp) λz b=>g z (arj _ b);rcases ajj Q d x.2.toNat m.2.toNat with k|k
  .refine⟨m,arj _ j,λz b=>?_⟩;rcases arM.1 b with rfl|b
   .exact k
   .exact h z b
  .refine⟨x,arl,λz b=>?_⟩;rcases arM.1 b with rfl|b
   .exact Nat.dvd_refl _
   .exact Nat.dvd_trans (h z b) k
theorem oC(Q:Nat)(m:Q∈[8,9,5,7,11]){L:List (Int × Int)}(b:∀x∈L,1<=x.2/\x.2 ∣ 27720)(q:Compat L):∃c:Int,∀x∈L,((asn x.2.toNat Q:Nat):Int) ∣ c-x.1:=by
 by_cases g:L=[]
 .exact⟨0,by simp[g]⟩
 obtain⟨y,j,h⟩:=A3 Q m L g b;refine⟨y.1,λz d=>ar3 (atF.2 ?_) (q y j z d)⟩;have s:=b y j;have u:=b z d;have l:arU y.2 z.2=asn y.2.toNat z.2.toNat:=by
  rw[arU,show y.2.natAbs=y.2.toNat by omega,show z.2.natAbs=z.2.toNat by omega]
 rw[l];exact Nat.dvd_gcd (Nat.dvd_trans (h z d) (Nat.gcd_dvd_left _ _)) (Nat.gcd_dvd_left _ _)
theorem Bb{n A B t:Nat}(b:Nat.Coprime A B)(d:asn n A ∣ t)(g:asn n B ∣ t):asn n (A*B) ∣ t:=by
 rw[Nat.Coprime.gcd_mul n b];exact Nat.Coprime.mul_dvd_of_dvd_of_dvd (Nat.Coprime.coprime_dvd_left (atc n A) (Nat.Coprime.coprime_dvd_right (atc n B) b)) d g
theorem anA{L:List (Int × Int)}(g:∀x∈L,1<=x.2/\x.2 ∣ 27720)(l:Compat L):∃d:Int,0<=d/\d<27720/\∀x∈L,x.2 ∣ d-x.1:=by
 obtain⟨a,I⟩:=oC 8 (by decide) g l;obtain⟨b,q⟩:=oC 9 (by decide) g l;obtain⟨c,s⟩:=oC 5 (by decide) g l;obtain⟨d,hd⟩:=oC 7 (by decide) g l;obtain⟨e,J⟩:=oC 11 (by decide) g l;obtain⟨D,U⟩:=aQ (3465*a+15400*b+22176*c+11880*d+2520*e);refine⟨D % 27720,by omega,by omega,λx j=>?_⟩;obtain⟨n1,n2⟩:=g x j;obtain⟨n,v⟩:∃n:Nat,x.2=n:=⟨x.2.toNat,by omega⟩
 have m:∀(Q:Nat) (u:Int),(Q:Int) ∣ D-u->((asn x.2.toNat Q:Nat):Int) ∣ u-x.1->asn n Q ∣ (D-x.1).natAbs:=λQ u z y=>by
  rw[v,ar7]at y;refine Int.ofNat_dvd_left.1 ?_;have B:=atL (ar3 (atF.2 (atc n Q)) z) y;rwa[show D-u+(u-x.1)=D-x.1 by omega]at B
 have K:=m 8 a ⟨433*a+1925*b+2772*c+1485*d+315*e,by omega⟩ (I x j);have M:=m 9 b ⟨385*a+1711*b+2464*c+1320*d+280*e,by omega⟩ (q x j);have N:=m 5 c ⟨693*a+3080*b+4435*c+2376*d+504*e,by omega⟩ (s x j);have O:=m 7 d ⟨495*a+2200*b+3168*c+1697*d+360*e,by omega⟩ (hd x j);have S:=m 11 e ⟨315*a+1400*b+2016*c+1080*d+229*e,by omega⟩ (J x j);have h:=Bb (A:=8) (by decide) K (Bb (A:=9) (by decide) M (Bb (A:=5) (by decide) N (Bb (A:=7) (by decide) O S)));rw[v]at n2;rw[Nat.gcd_eq_left (atF.1 n2)]at h;have E:(n:Int) ∣ D-x.1:=Int.ofNat_dvd_left.2 h;have F:(n:Int) ∣ D % 27720-D:=ar3 n2 ⟨-(D / 27720),by omega⟩;have H:=atL F E;rw[v];rwa[show D % 27720-D+(D-x.1)=D % 27720-x.1 by omega]at H
theorem yE{ps:List aE}(y:∀p∈ps,1<=p.aH/\p.aH ∣ 27720)(h:kJ [] ps):∃d:Int,0<=d/\d<27720/\∀p∈ps,gU p d:=by
 obtain⟨z,j,q,s⟩:=uM ps [] h (by intro x g;cases g);rw[asu]at j;obtain⟨d,l,m,hd⟩:=anA (λx g=>by obtain⟨p,b,e⟩:=s x g;rw[e];exact y p b) j;refine⟨d,l,m,λp b=>?_⟩;obtain⟨c,u,v⟩:=q p b;exact⟨c,u,hd _ v⟩
theorem rL{ps:List aE}(m:∀p∈ps,1<=p.aH/\p.aH ∣ 27720){d:Int}(h:∀p∈ps,gU p d)(k:Int):∀p∈ps,gU p (d+27720*k):=λp b=>by
 obtain⟨c,l,g⟩:=h p b;refine⟨c,l,?_⟩;have j:=(m p b).2;rw[show d+27720*k-fx p c=(d-fx p c)+27720*k by omega];exact atL g (ar3 j (atb _ _))
def bK.lt(x y:bK):Prop:=x.fr<y.fr\/x.fr=y.fr/\(x.day<y.day\/x.day=y.day/\x.to<y.to)
theorem rV(x y:bK):nZ x y<0↔x.lt y:=by
 unfold nZ bK.lt;simp only[orI,qC]
 repeat' split
 all_goals omega
theorem bK.lt_trans{x y z:bK}(h:x.lt y)(b:y.lt z):x.lt z:=by unfold bK.lt at *;omega
theorem bK.Za{x:bK}:¬ x.lt x:=by unfold bK.lt;omega
def bK.le(x y:bK):Prop:=¬ y.lt x
theorem bK.le_trans{x y z:bK}(h:x.le y)(b:y.le z):x.le z:=by unfold bK.le bK.lt at *;omega
theorem bK.ahe{x y:bK}(h:x.lt y):x.le y:=by unfold bK.le bK.lt at *;omega
@[simp] theorem bK.apG (x:bK):x.row.length=3:=rfl
theorem BL{b:Type}(A:List b)(x y:b)(B:List b):(A++x::B).set A.length y=A++y::B:=by simp
theorem afL:((List.range 257).all λn=>match (CF tab 60 60 (.fn 97) [.c (.f (.int .u64 n))] [])with|some (.c (.f (.int .i64 (.ofNat k))),_)=>Nat.ble k 62&&(Nat.beq n 0||Nat.ble (2 ^ k) (2*n))|_=>ag)=ae:=by kernel_rfl
theorem anZ:X6 tab bA 256:=λn h=>by
 have j:=afL;rw[ars]at j;have b:=j n (by simp;omega);split at b
 .rename_i k l e;rw[aq3,Bool.or_eq_true]at b;refine⟨k,(yD (m:=60) (d:=60) (by rw[e];rfl)).eq,atr b.1,λq=>?_⟩;rcases b.2 with g|g
  .have:=Nat.eq_of_beq_eq_true g;omega
  .exact atr g
 .cases b
theorem aaf{H:aj}{F:Nat}:∃r b,Ev tab (.fn 56) [.c (.f .aw),.c (.f (.fn F []))] H r b/\(r=.t []/\b=H):=by
 obtain⟨k,g,-,-⟩:=anZ 0 (by omega);have d:=(Bt (σ:=bA) (sz:=3) ai4 ai2 (H:=H) (v:=.c (.f .aw)) (cv:=.c (.f (.fn F []))) (lim:=k)).eq;refine cz rfl rfl λQ j=>?_;apply ai;simp[aV];refine aq (.inl rfl) ?_;have l:IntKind.wrap .u64 0=0:=rfl;simp at g d;simp[l,g,d];exact cW (j _ _ _ rfl rfl ⟨rfl,rfl⟩)
structure ou(ps:List aE):Prop where
 l1:1<=ps.length
 l2:ps.length<=64
 mod:∀p∈ps,Mod p
 prod:ff ps<=1000000
 st:cR ps<=1000000000000
theorem ou.aH{ps:List aE}(h:ou ps):∀p∈ps,cm p=ae:=λp b=>(h.mod p b).ok
def InN(ps:List aE)(n x:Int):Prop:=n<=x/\td ps x=ae
theorem lA{ps:List aE}{x:Int}(b:0<=x):td ps x=ae↔∀p∈ps,bz p x=ae:=by
 simp[td,hasB,b]
theorem qc{x:Int}:∀{l:List aE},0<=x->x<cR l->∃p∈l,x<p.fr
 |[],b,h=>by simp only[cR]at h;omega
 |q::l,b,h=>by
  simp only[cR]at h;by_cases k:x<q.fr
  .exact⟨q,arl,k⟩
  .obtain⟨p,d,e⟩:=qc (x:=x) (l:=l) b (by omega);exact⟨p,arj _ d,e⟩
theorem xO{ps:List aE}(h:ou ps){n x:Int}(l:0<=n)(m:cR ps<=x):InN ps n x↔max n (cR ps)<=x/\∀p∈ps,gU p x:=by
 have j:=nz ps;unfold InN;rw[lA (by omega)];constructor
 .rintro⟨g,d⟩;exact⟨by omega,λp b=>(mB (h.mod p b) (by have:=ny b;omega)).1 (d p b)⟩
 .rintro⟨g,d⟩;exact⟨by omega,λp b=>(mB (h.mod p b) (by have:=ny b;omega)).2 (d p b)⟩
theorem ag0(g:Tg)(ps:List aE)(h:ou ps)(n:Int)(J:0<=n)(W:n<=1000000000000):∃d f q z,fV (InN ps n) d f/\(0<=d/\d<=1000001000000)/\
  bH tab 80 [.c (.f (sl g (aC ps))),vi n]=Eq (.t [vi q,vb z])/\
  ((z=ae/\d=q/\f=ae)\/(z=ag/\q=0/\∃b,bH tab 45 [.c (.f (sl g (aC ps)))]=Eq (vb b)/\((b=ag/\d=0/\f=ag)\/(b=ae/\bH tab 127 [.c (.f (sl g (aC ps))),vi n]=Eq (.t [vi d,vb f]))))):=by
 obtain⟨q,z,U,A⟩:=xD g ps h.aH h.l2 n;have Y:=nz ps;have Z:=h.st;have X:=h.prod;have u:∀x,InN ps n x->x<cR ps->ic ps n ps x:=by
  rintro x ⟨N,H⟩ l;obtain⟨p,y,S⟩:=qc (by omega) l;refine⟨N,H,p,y,?_⟩;have:=(lA (by omega)).1 H p y;unfold bz at this;rw[aR (by omega),decide_eq_true_eq]at this;exact this
 rcases U with⟨rfl,rfl,F⟩|⟨rfl,O,v⟩
 .have B:∀x,InN ps n x->cR ps<=x:=λx l=>by
   rcases asm x (cR ps)with k|k
   .exact absurd (u x l k) (F x)
   .exact k
  have j:∀x,InN ps n x↔max n (cR ps)<=x/\∀p∈ps,gU p x:=λx=>by
   constructor
   .intro l;exact(xO h J (B x l)).1 l
   .intro l;exact(xO h J (by omega)).2 l
  obtain⟨b,I,m⟩:=uO g ps h.mod h.l1 h.l2;cases b with
  |false=>
   refine⟨0,ag,0,ag,.inl ⟨rfl,rfl,λx l=>?_⟩,⟨by omega,by omega⟩,A,.inr ⟨rfl,rfl,ag,m,.inl ⟨rfl,rfl,rfl⟩⟩⟩;have:=I.2 (vT (d:=x) ps [] (by simp) ((j x).1 l).2);cases this
  |true=>
   rcases afE g ps h.mod h.l2 h.prod n _ rfl (by omega)with⟨d,⟨K,L,d3,M⟩,E⟩|⟨s,E⟩
   .exact⟨d,ae,0,ag,.inr ⟨rfl,(j d).2 ⟨K,L⟩,λx l=>M x ((j x).1 l).1 ((j x).1 l).2⟩,⟨by omega,by omega⟩,A,.inr ⟨rfl,rfl,ae,m,.inr ⟨rfl,E⟩⟩⟩
   .exact⟨0,ag,0,ag,.inl ⟨rfl,rfl,λx l=>s x ((j x).1 l).1 ((j x).1 l).2⟩,⟨by omega,by omega⟩,A,.inr ⟨rfl,rfl,ae,m,.inr ⟨rfl,E⟩⟩⟩
 .obtain⟨s1,s2,p,y,Q⟩:=O;have I:=(aY (h.aH p y)).2.2.2.2.2.2.1 q Q;have:=ny y;refine⟨q,ae,q,ae,.inr ⟨rfl,⟨s1,s2⟩,λx l=>?_⟩,⟨by omega,by omega⟩,A,.inl ⟨rfl,rfl,rfl⟩⟩;rcases asm x (cR ps)with k|k
  .exact v x (u x l k)
  .omega
theorem fV.join{S m q:Int->Prop}{l x:Int}{f j:Bool}(h1:fV m l f)(h2:fV q x j)(g:∀d,S d↔m d\/q d):fV S (if j=ae/\(f=ag\/x<l)then x else l) (f||j):=by
 rcases h1 with⟨rfl,rfl,a⟩|⟨rfl,a,b⟩<;>rcases h2 with⟨rfl,rfl,c⟩|⟨rfl,c,e⟩
 .refine .inl ⟨rfl,by simp,λd hd=>?_⟩;rcases(g d).1 hd with h|h
  .exact a d h
  .exact c d h
 .refine .inr ⟨rfl,by simpa using (g x).2 (.inr c),λd hd=>?_⟩;rcases(g d).1 hd with h|h
  .exact absurd h (a d)
  .simpa using e d h
 .refine .inr ⟨rfl,by simpa using (g l).2 (.inl a),λd hd=>?_⟩;rcases(g d).1 hd with h|h
  .simpa using b d h
  .exact absurd h (c d)
 .refine .inr ⟨rfl,?_,λd hd=>?_⟩
  .by_cases k:x<l
   .simpa[k]using (g x).2 (.inr c)
   .simpa[k]using (g l).2 (.inl a)
  .rcases(g d).1 hd with h|h
   .have:=b d h;by_cases k:x<l<;>simp[k]<;>omega
   .have:=e d h;by_cases k:x<l<;>simp[k]<;>omega
def QH(H:aj)(n b:Int)(found:Bool):Prop:=H[0]?=aa (.box [.f (fi n)] 0)/\H[1]?=aa (.box [.f (fi b)] 0)/\H[2]?=aa (.box [.f (.bool found)] 0)/\H[3]?=aa (.fj ae)/\
 ∃s:T,H[4]?=aa (.lp 81 s [P.nat 12] dS dq .ready ab 3)/\s.g 3=.c (.ptr 0 0 0)/\s.g 6=.c (.ptr 1 0 0)/\s.g 7=.c (.ptr 2 0 0)
theorem xU(g:Tg)(ps:List aE)(h:ou ps)(n:Int)(hn:0<=n)(a_:n<=1000000000000):∃d f,fV (InN ps n) d f/\(0<=d/\d<=1000001000000)/\∀H j found,QH H n j found->
  ∃r H',Ev tab (.yield 4) [.c (.f (sl g (aC ps)))] H r H'/\(r=vb ae/\QH H' n (if f=ae/\(found=ag\/d<j)then d else j) (found||f)):=by
 obtain⟨d,f,e0,f0,hm,hd,he,Z⟩:=ag0 g ps h n hn a_;refine⟨d,f,hm,hd,?_⟩;rintro H j found ⟨h0,h1,h2,h3,s,Y,v,J,K⟩;refine gi (tab:=tab) (b:=4) Y rfl λX L=>?_;have a8:=av Y;have E:∀(t:T) (l:aj),l[0]?=aa (.box [.f (fi n)] 0)->l[1]?=aa (.box [.f (fi j)] 0)->l[2]?=aa (.box [.f (.bool found)] 0)->l[3]?=aa (.fj ae)->l[4]?=aa (.lp 81 s [P.nat 12] dS dq .busy ab 3)->
   t.g 3=.c (.ptr 0 0 0)->t.g 6=.c (.ptr 1 0 0)->t.g 7=.c (.ptr 2 0 0)->t.g 9=vi d->t.g 10=vb f->WP tab 81 (aa 4) [.code wJ,.inBlock 1] ⟨t,[],l⟩ X:=by
  rintro t l q0 N A q3 W e3 F y I u;have l1:=av N;have l2:=av A;have bE:(f=ae/\(found=ag\/d<j)->False)->QH (l.set 4 (.lp 81 s [P.nat 12] dS dq .ready ab 3)) n (if f=ae/\(found=ag\/d<j)then d else j) (found||f):=by
   intro x;have hf:(found||f)=found:=by
    cases f<;>cases found<;>simp at x ⊢
   rw[aR x,hf];exact⟨by rw[aq0 (by decide)];exact q0,by rw[aq0 (by decide)];exact N,by rw[aq0 (by decide)];exact A,by rw[aq0 (by decide)];exact q3,s,aq6 (av W),v,J,K⟩
  have b7:(l.set 1 (.box [.f (fi d)] 0))[2]?=aa (.box [.f (.bool found)] 0):=by rw[aq0 (by decide)];exact A
  have M:(f=ae/\(found=ag\/d<j))->QH (((l.set 1 (.box [.f (fi d)] 0)).set 2 (.box [.f (.bool ae)] 0)).set 4 (.lp 81 s [P.nat 12] dS dq .ready ab 3)) n (if f=ae/\(found=ag\/d<j)then d else j) (found||f):=by
   intro m;have hf:(found||f)=ae:=by rw[m.1];simp
   rw[bw m,hf];refine⟨?_,?_,?_,?_,s,aq6 (by simp;exact av W),v,J,K⟩
   .rw[aq0 (by decide),aq0 (by decide),aq0 (by decide)];exact q0
   .rw[aq0 (by decide),aq0 (by decide),aq6 l1]
   .rw[aq0 (by decide),aq6 (by simpa using l2)]
   .rw[aq0 (by decide),aq0 (by decide),aq0 (by decide)];exact q3
  have done:∀B:T,(f=ae/\(found=ag\/d<j)->False)->WP tab 81 (aa 4) [.inBlock 1] ⟨B,[],l⟩ X:=by
   intro B x;refine ay (cW (L _ _ _ _ _ _ _ _ _ _ rfl W ⟨rfl,?_⟩));have:=bE x;rw[show(l.set 4 (.lp 81 s [P.nat 12] dS dq .ready ab 3))=l.set 4 (.lp 81 s [P.nat 12] dS dq (if(ab:Option ax).isNone=ae then .ready else .done) ab 3) from rfl]at this;exact this
  have q:∀B:T,B.g 6=.c (.ptr 1 0 0)->B.g 7=.c (.ptr 2 0 0)->B.g 9=vi d->(f=ae/\(found=ag\/d<j))->WP tab 81 (aa 4) [.code wK,.inBlock 1] ⟨B,[],l⟩ X:=by
   intro B F y I m;refine aq (.inr rfl) ?_;simp[F,y,I,N,A,b7];refine ay (cW (L _ _ _ _ _ _ _ _ _ _ rfl (by rw[aq0 (by decide),aq0 (by decide)];exact W) ⟨rfl,?_⟩));exact M m
  apply an;cases f with
  |false=>
   refine aq (.inr rfl) ?_;simp[y,u,A];refine aA (by simp) (aJ (done _ (by simp)))
  |true=>
   cases found with
   |false=>
    refine aq (.inr rfl) ?_;simp[y,u,A];refine au (by simp) (q _ (by simp[F]) (by simp[y]) (by simp[I]) (by simp))
   |true=>
    by_cases k:d<j
    .refine aq (.inr rfl) ?_;simp[F,y,I,u,N,A,k];refine au (by simp) (q _ (by simp[F]) (by simp[y]) (by simp[I]) (by simp[k]))
    .refine aq (.inr rfl) ?_;simp[F,y,I,u,N,A,k];refine aA (by simp) (aJ (done _ (by simp[k])))
 refine aq (.inr rfl) ?_;simp;refine na Y ?_;have b0:(H.set 4 (.lp 81 s [P.nat 12] dS dq .busy ab 3))[0]?=aa (.box [.f (fi n)] 0):=by rw[aq0 (by decide)];exact h0
 have O:(H.set 4 (.lp 81 s [P.nat 12] dS dq .busy ab 3))[1]?=aa (.box [.f (fi j)] 0):=by rw[aq0 (by decide)];exact h1
 have Q:(H.set 4 (.lp 81 s [P.nat 12] dS dq .busy ab 3))[2]?=aa (.box [.f (.bool found)] 0):=by rw[aq0 (by decide)];exact h2
 have S:(H.set 4 (.lp 81 s [P.nat 12] dS dq .busy ab 3))[3]?=aa (.fj ae):=by rw[aq0 (by decide)];exact h3
 have U:(H.set 4 (.lp 81 s [P.nat 12] dS dq .busy ab 3))[4]?=aa (.lp 81 s [P.nat 12] dS dq .busy ab 3):=aq6 a8;generalize H.set 4 (.lp 81 s [P.nat 12] dS dq .busy ab 3)=l at b0 O Q S U;refine az ?_;refine an (aq (.inr rfl) ?_);simp[v,b0,he];apply an;rcases Z with⟨rfl,rfl,rfl⟩|⟨rfl,rfl,b,z,Z⟩
 .refine an (aq (.inr rfl) ?_);simp;refine ba (by simp) ?_;exact E _ _ b0 O Q S U (by simp[v]) (by simp[J]) (by simp[K]) (by simp) (by simp)
 .rcases Z with⟨rfl,rfl,rfl⟩|⟨rfl,hl⟩
  .refine an (aq (.inr rfl) ?_);simp[v,b0,z,show n<=1152921504606846976 by omega];refine ba (by simp) ?_;exact E _ _ b0 O Q S U (by simp[v]) (by simp[J]) (by simp[K]) (by simp) (by simp)
  .refine an (aq (.inr rfl) ?_);simp[v,b0,z,show n<=1152921504606846976 by omega];refine au (by simp) ?_;refine aq (.inr rfl) ?_;simp[v,b0,hl];exact E _ _ b0 O Q S U (by simp[v]) (by simp[J]) (by simp[K]) (by simp) (by simp)
theorem kG(x:FC):bH tab 68 [.c (.f x)]=Eq (.c (.f (.fn 112 [.fp [x] 0]))):=by
 refine bH.eq (bD rfl rfl λQ b=>?_);apply ai;simp;apply ai;simp;refine aB (b _ _ ?_);simp[deep]
theorem uT{b:Nat}{H:aj}(g:Tg)(ts:List dc)(M:ts.length<=1000000)(PP:Nat->aj->Prop)(F:PP 0 H)
  (L:∀j (q:j<ts.length) H,PP j H->∃r u,Ev tab (.yield b) [.c (.f (sl ts[j].tg (aC ts[j].fs)))] H r u/\(r=vb ae/\PP (j+1) u)) :
  ∃r B,Ev tab (.fn 112) [.c (.yl b),.c (.f (.fp [sl g (aU ts)] 0))] H r B/\(r=.t []/\PP ts.length B):=by
 refine cz rfl rfl λQ K=>?_;apply ai;simp[Bl];refine cC ts.length (λj s J=>s.g 0=.c (.yl b)/\s.g 5=.c (.f (sl g (aU ts)))/\PP j J) (by omega) (by decide) (by decide) (by simp) (by simp) ⟨by simp,by simp,F⟩ ?_ ?_
 .rintro j s J q ⟨v,x,y⟩ z E next
  have m:=λH:aj=>fF (H:=H) (fP ts) (hO (l:=ts) (j:=j) q) rfl;have d:=λH:aj=>bO (H:=H) (g:=g) (rows:=aU ts) (sz:=1) (k:=.i64) (i:=j) (by omega) (by simpa using q);simp at m d;obtain⟨r,u,A,rfl,I⟩:=L j q J y;refine az ?_;apply ai;simp[x,z,d,m];apply ai;simp[v,A.eq];refine ba (by simp) ?_;refine ay (next _ _ ?_ (by simp[z]) (by simp[E]));exact⟨by simp[v],by simp[x],I⟩
 .rintro s J ⟨v,x,y⟩ z E;exact cW (K _ _ _ rfl rfl ⟨rfl,y⟩)
def sX(ts:List dc)(n x:Int):Prop:=∃t∈ts,InN t.fs n x
theorem Y6(g:Tg)(ts:List dc)(J:ts.length<=1000000)(X:∀t∈ts,ou t.fs)(n:Int)(Z:0<=n)(F:n<=1000000000000):∃d f,fV (sX ts n) d f/\(0<=d/\d<=1000001000000)/\
  bH tab 81 [.c (.f (.fn 112 [.fp [sl g (aU ts)] 0])),vi n]=Eq (.t [vi d,vb f]):=by
 have key:∃r,(∃d f,fV (sX ts n) d f/\(0<=d/\d<=1000001000000)/\r=.t [vi d,vb f])/\bH tab 81 [.c (.f (.fn 112 [.fp [sl g (aU ts)] 0])),vi n] r:=by
  refine mF ank rfl λQ Y=>?_;have v:∀s:T,s.g 3=.c (.ptr 0 0 0)->s.g 6=.c (.ptr 1 0 0)->s.g 7=.c (.ptr 2 0 0)->s.g 11=.c (.f (.fn 112 [.fp [sl g (aU ts)] 0]))->
    WP tab 81 ab [.code AP,.inBlock 0,.code wL] ⟨s,[],[.box [.f (fi n)] 0,.box [.f (fi 0)] 0,.box [.f (.bool ag)] 0]⟩ Q:=by
   intro s W L M y;obtain⟨r,u,U,rfl,l,found,⟨-,k,o,p,K,w,-⟩,q,N⟩:=uT (b:=4) (H:=[.box [.f (fi n)] 0,.box [.f (fi 0)] 0,.box [.f (.bool ag)] 0,.fj ae,.lp 81 s [P.nat 12] dS dq .ready ab 3]) g ts J
    (λj H=>∃l found,QH H n l found/\fV (sX (ts.take j) n) l found/\(0<=l/\l<=1000001000000))
    ⟨0,ag,⟨rfl,rfl,rfl,rfl,s,rfl,W,L,M⟩,.inl ⟨rfl,rfl,λd hd=>by obtain⟨t,m,-⟩:=hd;simp at m⟩,by omega,by omega⟩ λj O H ⟨l,found,A,q,N⟩=>by
     obtain⟨d,f,E,hd,a⟩:=xU ts[j].tg ts[j].fs (X _ (aq7 O)) n Z F;obtain⟨r,S,B,rfl,z⟩:=a H l found A;have I:ts.take (j+1)=ts.take j++[ts[j]]:=by rw[arD,aq2 O];rfl
     refine⟨_,S,B,rfl,_,_,z,fV.join q E λx=>?_,?_⟩
     .unfold sX;rw[I];constructor
      .rintro⟨t,m,h⟩;rcases ard.1 m with m|m
       .exact .inl ⟨t,m,h⟩
       .rw[arb.1 m]at h;exact .inr h
      .rintro(⟨t,m,h⟩|h)
       .exact⟨t,ar4 _ m,h⟩
       .exact⟨_,asA _ (arb.2 rfl),h⟩
     .split<;>omega
   rw[arz]at q;refine gH (g:=112) (by rw[wX,y];simp[bX]) U ?_;refine iL w (by decide) ?_;refine ay ?_;apply ai;have c:(u.set 4 (.lp 81 K [P.nat 12] dS dq .exhausted ab 3))[1]?=aa (.box [.f (fi l)] 0):=by rw[aq0 (by decide)];exact k
   have e:(u.set 4 (.lp 81 K [P.nat 12] dS dq .exhausted ab 3))[2]?=aa (.box [.f (.bool found)] 0):=by rw[aq0 (by decide)];exact o
   have i:(u.set 4 (.lp 81 K [P.nat 12] dS dq .exhausted ab 3))[3]?=aa (.fj ae):=by rw[aq0 (by decide)];exact p
   simp[L,M,c,e];refine aB (Y _ _ _ ⟨l,found,q,N,rfl⟩ (.inr ⟨3,rfl,i,.t [vi l,vb found],?_,by simp[jy,de,aX]⟩));simp[Km.results,bQ,aX]
  apply ai;simp;apply ai;simp;apply an;apply ai;simp;refine az ?_;exact v _ (by simp) (by simp) (by simp) (by simp)
 obtain⟨r,⟨d,f,q,hd,rfl⟩,h⟩:=key;exact⟨d,f,q,hd,h.eq⟩
theorem afW(g:Tg)(ts:List dc)(j:ko ts=ae)(s:∀t∈ts,ou t.fs)(n:Int)(y:0<=n)(l:n<=1000000000000):∃d f,fV (sX ts n) d f/\(0<=d/\d<=1000001000000)/\
  bH tab 38 [.a [.f (sl g (aU ts))],vi n]=Eq (.t [vi d,vb f]):=by
 obtain⟨E,m⟩:=nk j;obtain⟨d,f,x,hd,v⟩:=Y6 g ts (by omega) s n y l;refine⟨d,f,x,hd,bH.eq (bD rfl rfl λQ u=>?_)⟩;have b:=Ae g ts (by omega) (λt q=>⟨by have:=(fy (m t q)).2.1;omega,λp z=>jg ((fy (m t q)).2.2 p z)⟩);rw[j]at b;have A:=kG (sl g (aU ts));have B:max n 0=n:=by omega
 apply ai;simp;apply an;apply ai;simp[b];refine ba (by simp) ?_;apply ai;simp[A,B,v];refine aB (u _ _ ?_);simp
theorem AH(j l m:FC)(len g d:Int)(v:0<=len)(q:len<=10080)(x:-4320<=g)(s:g<=4320) :
  bH tab 40 [.a [.f j,.f (fi len),.f l],.a [.f m,.f (fi g)],vi d]=Eq (vb (decide (d<=(2251799813685248-g-len) / 1440))):=Kf.eq (by
 refine dL rfl rfl λH Q u=>?_;apply ai;simp;apply ai;simp[aM (n:=2251799813685248-g),aM (n:=2251799813685248-g-len),eB (a:=2251799813685248-g-len) (b:=1440) (by omega) (by omega) (by omega)];refine aB (u _ _ ?_);simp)
structure anf(ts:List dc):Prop where
 v:ko ts=ae
 f:∀t∈ts,ou t.fs
theorem Bn{ts:List dc}{n m x:Int}(h:n<=m)(d:m<=x):sX ts n x↔sX ts m x:=by
 unfold sX InN;constructor
 .rintro⟨t,b,-,e⟩;exact⟨t,b,d,e⟩
 .rintro⟨t,b,-,e⟩;exact⟨t,b,by omega,e⟩
def lG:cH->Bool
 | .cK _ _ _ _ _=>ag| _=>ae
theorem xz{H:aj}:∃r b,Ev tab (.fn 57) [.c (.f .aw)] H r b/\(r=.c (.f .aw)/\b=H):=by
 refine cz rfl rfl λQ d=>?_;apply ai;simp;apply an;apply ai;simp[aV];refine au (by simp) ?_;apply ai;simp;exact aB (d _ _ _ rfl (cV (by simp)) ⟨rfl,rfl⟩)
def mC:List Nat->aj->aj
 |[],H=>H| b::bs,H=>mC bs (H.set b (.fj ag))
structure ij(bs:List Nat)(H:aj):Prop where
 nd:bs.Nodup
 on:∀b∈bs,H[b]?=aa (.fj ae)
theorem jx{call:dw}:∀{bs:List Nat} {H:aj},ij bs H->en call (bs.map .gB) H=aa (mC bs H)
 |[],H,_=>rfl
 |b::bs,H,h=>by
  have j:=h.on b arl;have d:=List.nodup_cons.1 h.nd;simp only[arf,en,j,mC];exact jx ⟨d.2,λx g=>by rw[aq0 (by rintro rfl;exact d.1 g)];exact h.on x (arj _ g)⟩
theorem yh:∀{bs:List Nat} {H:aj} {i:Nat},i ∉ bs->(mC bs H)[i]?=H[i]?
 |[],_,_,_=>rfl
 |b::bs,H,i,h=>by
  simp only[arM,not_or]at h;rw[mC,yh h.2,aq0 (Ne.symm h.1)]
def XY(b:List gl)(r:V)(s:St):Prop:=∃bs,s.defs=bs.map .gB/\ij bs s.heap/\∃d,Km.results s.aF (mC bs s.heap) b=aa d/\jy deep (mC bs s.heap) d=aa r
theorem Lm{f:Nat}{args:List V}{S:V->Prop}{ps:List P}{b:List gl}{body:ax}(z:tab f=aa ⟨ps,b,body⟩)(x:args.length=ps.length)
  (h:∀Q:Option ax->St->Prop,(∀j s r,S r->XY b r s->Q j s)->WP tab f ab [.code body] ⟨cD ps args .e,[],[]⟩ Q):∃r,S r/\bH tab f args r:=by
 have q:=h (λ_ s=>∃r,S r/\XY b r s) λ_ _ r g l=>⟨r,g,l⟩
 obtain⟨n,m,d,j,s,g,r,y,bs,hd,v,A,l,u⟩:=q;exact⟨r,y,A,mC bs s.heap,oE z x ⟨n,m,d,j,s,g,0,0,_,by rw[hd];exact jx v,l,rfl⟩,u⟩
theorem ij.push{bs:List Nat}{H:aj}(h:ij bs H)(J:aj):ij bs (H++J):=⟨h.nd,λb hb=>by rw[aq1 (av (h.on b hb))];exact h.on b hb⟩
theorem ij.bE{bs:List Nat}{H d:aj}(h:ij bs H)(g:∀(i:Nat) y,H[i]?=aa y->lG y=ae->d[i]?=aa y):ij bs d:=⟨h.nd,λb hb=>g b _ (h.on b hb) rfl⟩
theorem ij.set{bs:List Nat}{H:aj}(h:ij bs H){i:Nat}{y z:cH}(hi:H[i]?=aa y)(hy:y≠.fj ae):ij bs (H.set i z):=⟨h.nd,λb hb=>by
 have:=h.on b hb;rw[aq0 (by rintro rfl;rw[this]at hi;cases hi;exact hy rfl)];exact this⟩
theorem ij.not{bs:List Nat}{H:aj}(h:ij bs H){i:Nat}{y:cH}(hi:H[i]?=aa y)(hy:y≠.fj ae):i ∉ bs:=λhb=>by
 have:=h.on i hb;rw[hi]at this;cases this;exact hy rfl
theorem dT:∀(l:List Int) (a k:Int),l.Pairwise (· < ·)->(∀x∈l,a<=x/\x<a+k)->(l.length:Int)<=max k 0
 |[],_,_,_,_=>by simp;omega
 |x::l,a,k,g,h=>by
  have j:=h x arl;have b:=atC.1 g;have:=dT l (x+1) (a+k-x-1) b.2 λy d=>⟨by have:=b.1 y d;omega,by have:=h y (arj _ d);omega⟩
  simp only[List.length_cons];omega
structure nG(s:ea):Prop where
 v:fT s=ae
 cn:s.cs.length<=3
 cl:∀c∈s.cs,anf c.ts
 xn:s.xs.length<=4
theorem oA:∀{l:List fI} {o:Option Int},ef o l=ae->∀c∈l,ko c.ts=ae/\-4320<=c.min/\c.min<=4320
 |c::l,o,h,x,d=>by
  simp only[ef,aq3]at h;obtain⟨⟨⟨g,b⟩,-⟩,j⟩:=h;rcases arM.1 d with rfl|d
  .unfold dG at b;simp at b;exact⟨g,b.1,b.2⟩
  .exact oA j x d
theorem nG.len{s:ea}(h:nG s):1<=s.len/\s.len<=10080:=by
 have:=h.v;simp[fT,dG]at this;omega
theorem nG.min{s:ea}(h:nG s){c:fI}(hc:c∈s.cs):-4320<=c.min/\c.min<=4320:=by
 have:=h.v;simp only[fT,aq3]at this;exact(oA this.1.2 c hc).2
theorem Zk{ts:List dc}(h:ko ts=ae):∀t∈ts,t.Sm:=λt d=>by
 obtain⟨-,b⟩:=nk h;exact⟨by have:=(fy (b t d)).2.1;omega,λp g=>jg ((fy (b t d)).2.2 p g)⟩
theorem nG.sm{s:ea}(h:nG s):s.Sm:=by
 have h1:=h.cn;have h2:=h.xn;refine⟨by omega,by omega,λc hc=>⟨?_,Zk (h.cl c hc).v⟩⟩;have:=(nk (h.cl c hc).v).1;omega
def rh(S:bK->Prop)(x:bK)(f:Bool):Prop:=(f=ag/\x=⟨0,0,0⟩/\∀y,¬ S y)\/(f=ae/\S x/\∀y,S y->x.le y)
theorem rh.iff{S S':bK->Prop}{l:bK}{f:Bool}(h:rh S l f)(g:∀d,S' d↔S d):rh S' l f:=by
 rcases h with⟨a,b,c⟩|⟨a,b,c⟩
 .exact .inl ⟨a,b,λd hd=>c d ((g d).1 hd)⟩
 .exact .inr ⟨a,(g _).2 b,λd hd=>c d ((g d).1 hd)⟩
theorem rh.step{S S':bK->Prop}{l x:bK}{f:Bool}(h:rh S l f)(j:S' x)(hi:∀d,S d->S' d)(g:∀d,S' d->S d\/x.le d):rh S' (if f=ag\/nZ x l<0 then x else l) ae:=by
 have m:x.le x:=bK.Za;right;rcases h with⟨rfl,rfl,c⟩|⟨rfl,b,c⟩
 .refine⟨rfl,by simpa using j,λd hd=>?_⟩;rcases g d hd with h|h
  .exact absurd h (c d)
  .simpa using h
 .by_cases k:x.lt l
  .rw[bw (.inr ((rV _ _).2 k))];refine⟨rfl,j,λd hd=>?_⟩;rcases g d hd with h|h
   .exact bK.le_trans (bK.ahe k) (c d h)
   .exact h
  .rw[aR (by rw[rV];simpa using k)];refine⟨rfl,hi l b,λd hd=>?_⟩;rcases g d hd with h|h
   .exact c d h
   .exact bK.le_trans k h
def AU(c:fI)(len:Int)(x:bK):Prop:=∃d,sX c.ts 0 d/\x=nO len c.min d
def X4(s:ea)(x:bK):Prop:=(∃c∈s.cs,AU c s.len x)\/x∈s.xs
theorem tX:∀{l:List bK} {o:Option bK},gq o l=ae->l.Pairwise bK.lt/\∀m,o=aa m->∀x∈l,m.lt x
 |[],_,_=>⟨List.Pairwise.nil,by simp⟩
 |x::l,o,h=>by
  simp only[gq,aq3]at h;obtain⟨⟨u,d⟩,q⟩:=h;obtain⟨s,g⟩:=tX q;refine⟨atC.2 ⟨g x rfl,s⟩,?_⟩;rintro m rfl y b;have j:m.lt x:=by
   simp at d;exact(rV _ _).1 d
  rcases arM.1 b with rfl|b
  .exact j
  .exact bK.lt_trans j (g x rfl y b)
theorem nG.xpw{s:ea}(h:nG s):s.xs.Pairwise bK.lt:=by
 have:=h.v;simp only[fT,aq3]at this;exact(tX this.2).1
theorem agY(x b:bK)(found:Bool)(H:aj)(s:H[2]?=aa (.box (b.row.map .f) 0))(y:H[3]?=aa (.box [.f (.bool found)] 0)) :
  ∃r m,Ev tab (.fn 36) [.a (x.row.map .f),.c (.ptr 3 0 0),.c (.ptr 2 0 0)] H r m/\(r=.t []/\m[2]?=aa (.box ((if found=ag\/nZ x b<0 then x else b).row.map .f) 0)/\m[3]?=aa (.box [.f (.bool ae)] 0)/\
   H.length<=m.length/\∀i:Nat,i<H.length->i≠2->i≠3->m[i]?=H[i]?):=by
 refine cz rfl rfl λQ B=>?_;have L:=av y;have K:=av s;simp only[bK.row,arf,art]at s ⊢;have d:=yk x b;simp only[bK.row,arf,art]at d;apply ai;simp;have j:(H++[cH.box [.f (fi x.day),.f (fi x.fr),.f (fi x.to)] 0])[2]?=aa (.box [.f (fi b.day),.f (fi b.fr),.f (fi b.to)] 0):=by rw[aq1 K];exact s
 have l:(H++[cH.box [.f (fi x.day),.f (fi x.fr),.f (fi x.to)] 0])[3]?=aa (.box [.f (.bool found)] 0):=by rw[aq1 L];exact y
 have v:(H++[cH.box [.f (fi x.day),.f (fi x.fr),.f (fi x.to)] 0])[H.length]?=aa (.box [.f (fi x.day),.f (fi x.fr),.f (fi x.to)] 0):=by simp
 have z:∀i:Nat,i<H.length->(H++[cH.box [.f (fi x.day),.f (fi x.fr),.f (fi x.to)] 0])[i]?=H[i]?:=λi hi=>aq1 hi;have A:H.length<=(H++[cH.box [.f (fi x.day),.f (fi x.fr),.f (fi x.to)] 0]).length:=by simp
 generalize H++[cH.box [.f (fi x.day),.f (fi x.fr),.f (fi x.to)] 0]=g at j l v z A ⊢;have q:(g.set 2 (.box [.f (fi x.day),.f (fi x.fr),.f (fi x.to)] 0))[3]?=aa (.box [.f (.bool found)] 0):=by rw[aq0 (by decide)];exact l
 have u:∀t:T,t.g 1=.c (.ptr 3 0 0)->t.g 2=.c (.ptr 2 0 0)->t.g 3=.c (.ptr H.length 0 0)->(found=ag\/nZ x b<0)->WP tab 36 ab [.code AN] ⟨t,[],g⟩ Q:=by
  intro t E F I J;have M:dC g (.ptr 2 0 0) [.f (fi x.day),.f (fi x.fr),.f (fi x.to)]=aa (g.set 2 (.box [.f (fi x.day),.f (fi x.fr),.f (fi x.to)] 0)):=by simp[dC,j,bR]
  have N:dC (g.set 2 (.box [.f (fi x.day),.f (fi x.fr),.f (fi x.to)] 0)) (.ptr 3 0 0) [.f (.bool ae)]=aa ((g.set 2 (.box [.f (fi x.day),.f (fi x.fr),.f (fi x.to)] 0)).set 3 (.box [.f (.bool ae)] 0)):=by simp[dC,q,bR]
  refine aq (.inl rfl) ?_;simp[E,F,I,v,M,N,-bC];refine cW (B _ _ _ rfl rfl ⟨rfl,?_,?_,by simpa using A,λi hi s y=>?_⟩)
  .rw[aq0 (by decide),aq6 (av j),bw J];rfl
  .exact aq6 (av q)
  .rw[aq0 (by omega),aq0 (by omega)];exact z i hi
 apply an;cases found with
 |false=>
  refine aq (.inl rfl) ?_;simp[l];refine au (by simp) (u _ (by simp) (by simp) (by simp) (.inl rfl))
 |true=>
  by_cases k:nZ x b<0
  .refine aq (.inl rfl) ?_;simp[l,j,v,d,k];refine au (by simp) (u _ (by simp) (by simp) (by simp) (.inr k))
  .refine aq (.inl rfl) ?_;simp[l,j,v,d,k];refine ba (by simp) ?_;refine cW (B _ _ _ rfl rfl ⟨rfl,?_,l,A,λi hi s y=>z i hi⟩);rw[aR (by simp[k])];exact j
theorem afU(s:ea)(hs:nG s)(m:Int)(j9:-1000000000<=m)(j_:m<=1000000000) :
  ∃x f,rh (λy=>X4 s y/\m<=y.fr) x f/\bH tab 10 [.a (s.row.map .f),vi m]=Eq (.t [.a (x.row.map .f),vb f]):=by
 have key:∃r,(∃x f,rh (λy=>X4 s y/\m<=y.fr) x f/\r=.t [.a (x.row.map .f),vb f])/\bH tab 10 [.a (s.row.map .f),vi m] r:=by
  refine ey rfl rfl λQ hQ=>?_;have b7:=(Lz s hs.sm).eq;rw[hs.v]at b7;simp[ea.row]at b7;obtain⟨h_,i6⟩:=hs.len;have j8:=hs.cn;have k_:=hs.xn;have i7:max m (-2251799813685248)=m:=by omega
  apply ai;simp[ea.row];apply an;apply ai;simp[b7,show¬ 2251799813685248<m by omega];refine ba (by simp) ?_;apply ai;simp[i7];apply ai;simp;apply ai;simp;apply ai;simp;obtain⟨Hd,N⟩:∃Hd:aj->bK->Bool->Prop,Hd=λH x f=>H[0]?=aa (.box [C.f (sl s.cg (cT s.cs)),C.f (fi s.len),C.f (sl s.xg (dr s.xs))] 0)/\H[1]?=aa (.box [.f (fi 0),.f (fi 0),.f (fi 0)] 0)/\H[2]?=aa (.box (x.row.map .f) 0)/\H[3]?=aa (.box [.f (.bool f)] 0):=⟨_,rfl⟩
  have a8:∀H x f J,Hd H x f->Hd (H++J) x f:=by
   intro H x f J h;rw[N]at h ⊢;obtain⟨a,b,c,d⟩:=h;exact⟨by rw[aq1 (av a)];exact a,by rw[aq1 (av b)];exact b,by rw[aq1 (av c)];exact c,by rw[aq1 (av d)];exact d⟩
  have a_:∀H x f y,Hd H x f->∃r H',Ev tab (.fn 36) [.a (y.row.map .f),.c (.ptr 3 0 0),.c (.ptr 2 0 0)] H r H'/\r=.t []/\Hd H' (if f=ag\/nZ y x<0 then y else x) ae:=by
   intro H x f y h;rw[N]at h ⊢;obtain⟨a,b,c,d⟩:=h;obtain⟨r,H',e,h1,W,h3,h4,h5⟩:=agY y x f H c d;exact⟨r,H',e,h1,by rw[h5 0 (av a) (by decide) (by decide)];exact a,by rw[h5 1 (av b) (by decide) (by decide)];exact b,W,h3⟩
  have d8:∀(t:T) (H:aj) (x:bK) (f:Bool),t.g 4=.c (.ptr 1 0 0)->t.g 6=.c (.ptr 2 0 0)->t.g 7=.c (.ptr 3 0 0)->Hd H x f->rh (λy=>X4 s y/\m<=y.fr) x f->WP tab 10 ab [.code wz] ⟨t,[],H⟩ Q:=by
   intro t H x f F L M h O;rw[N]at h;obtain⟨h0,h1,W,h3⟩:=h;simp only[bK.row,arf,art]at W;have s1:dC H (.ptr 1 0 0) [.f (fi x.day),.f (fi x.fr),.f (fi x.to)]=aa (H.set 1 (.box [.f (fi x.day),.f (fi x.fr),.f (fi x.to)] 0)):=by simp[dC,h1,bR]
   have n1:(H.set 1 (.box [.f (fi x.day),.f (fi x.fr),.f (fi x.to)] 0))[1]?=aa (.box [.f (fi x.day),.f (fi x.fr),.f (fi x.to)] 0):=aq6 (av h1);have n3:(H.set 1 (.box [.f (fi x.day),.f (fi x.fr),.f (fi x.to)] 0))[3]?=aa (.box [.f (.bool f)] 0):=by rw[aq0 (by decide)];exact h3
   refine an (eu (.inl rfl) ?_ ?_)
   case refine_2=>
    intro cc f_;have f9:cc=(1,4):=by simpa using f_
    subst f9;refine⟨by decide,_,rfl,.inl ⟨by decide,?_⟩⟩;simp[F,L,M,W,h3,s1,n3,fY,-bC];cases f<;>rfl
   simp[F,L,M,W,h3,s1,-bC];refine aB (hQ _ _ _ ⟨x,f,O,rfl⟩ ?_);simp[F,n1,bK.row]
  have b_:∀(t:T) (H:aj) (x:bK) (f:Bool),t.g 1=vi m->t.g 2=.c (.ptr 0 0 0)->t.g 4=.c (.ptr 1 0 0)->t.g 6=.c (.ptr 2 0 0)->t.g 7=.c (.ptr 3 0 0)->t.g 8=.c (.cl 36 [.ptr 3 0 0,.ptr 2 0 0])->Hd H x f->rh (λy=>(∃c∈s.cs,AU c s.len y)/\m<=y.fr) x f->
    WP tab 10 ab [.code wv] ⟨t,[],H⟩ Q:=by
   intro t H x f S g2 F L M U h O;have h0:H[0]?=aa (.box [C.f (sl s.cg (cT s.cs)),C.f (fi s.len),C.f (sl s.xg (dr s.xs))] 0):=by rw[N]at h;exact h.1
   apply an;apply ai;simp[g2,h0];refine cC s.xs.length (λj t H=>t.g 1=vi m/\t.g 4=.c (.ptr 1 0 0)/\t.g 6=.c (.ptr 2 0 0)/\t.g 7=.c (.ptr 3 0 0)/\t.g 8=.c (.cl 36 [.ptr 3 0 0,.ptr 2 0 0])/\t.g 62=.c (.f (sl s.xg (dr s.xs)))/\Hd H x f/\∀y∈s.xs.take j,¬ m<=y.fr) (by omega) (by decide) (by decide) (by simp) (by simp)
    ⟨by simp[S],by simp[F],by simp[L],by simp[M],by simp[U],by simp,h,by simp⟩ ?_ ?_
   .rintro j t H hj ⟨S,F,L,M,U,d5,h,Z⟩ ha hb next
    obtain⟨y,K⟩:=aQ (s.xs[j]);have j4:y∈s.xs:=K▸aq7 hj;have u:=λH:aj=>dU (H:=H) (js s.xs) (mn hj);rw[<-K]at u;simp[bK.row]at u;have I:s.xs.take (j+1)=s.xs.take j++[y]:=by rw[arD,aq2 hj,K];rfl
    refine az ?_;apply ai;simp[d5,ha,bO,hj,u];have kN:(H++[cH.box [.f (fi y.day),.f (fi y.fr),.f (fi y.to)] 0])[H.length]?=aa (.box [.f (fi y.day),.f (fi y.fr),.f (fi y.to)] 0):=by simp
    have kh:=a8 H x f [cH.box [.f (fi y.day),.f (fi y.fr),.f (fi y.to)] 0] h;generalize H++[cH.box [.f (fi y.day),.f (fi y.fr),.f (fi y.to)] 0]=HA at kN kh ⊢;apply ai;simp[S,kN];by_cases k:m<=y.fr
    .obtain⟨r,H2,B,rfl,W⟩:=a_ HA x f y kh;have B:=B.eq;simp only[bK.row,arf,art]at B;refine au (by simp[k]) ?_;apply ai;simp[U,kN,bX,B];refine aS rfl ?_;refine d8 _ _ _ _ (by simp[F]) (by simp[L]) (by simp[M]) W (O.step ⟨.inr j4,k⟩ (λz v=>⟨.inl v.1,v.2⟩) λz v=>?_);rcases v.1 with h|h
     .exact .inl ⟨h,v.2⟩
     .right;obtain⟨i,hi,rfl⟩:=ary h;rcases asz i j with q|rfl|q
      .exact absurd v.2 (Z _ (List.mem_take_iff_getElem.2 ⟨i,by omega,rfl⟩))
      .rw[K];exact bK.Za
      .rw[K];exact bK.ahe (arR.1 hs.xpw j i hj hi q)
    .refine aA (by simp[k]) (aJ (ay (next _ _ ?_ (by simp[ha]) (by simp[hb]))));refine⟨by simp[S],by simp[F],by simp[L],by simp[M],by simp[U],by simp[d5],kh,λz v=>?_⟩;rw[I]at v;rcases ard.1 v with v|v
     .exact Z z v
     .rw[arb.1 v];exact k
   .rintro t H ⟨S,F,L,M,U,d5,h,Z⟩ - -;rw[arz]at Z;refine d8 _ _ _ _ (by simp[F]) (by simp[L]) (by simp[M]) h (O.iff λz=>⟨λv=>?_,λv=>⟨.inl v.1,v.2⟩⟩);rcases v.1 with q|q
    .exact⟨q,v.2⟩
    .exact absurd v.2 (Z z q)
  apply an;apply ai;simp;refine cC s.cs.length (λj t H=>t.g 1=vi m/\t.g 2=.c (.ptr 0 0 0)/\t.g 4=.c (.ptr 1 0 0)/\t.g 6=.c (.ptr 2 0 0)/\t.g 7=.c (.ptr 3 0 0)/\t.g 8=.c (.cl 36 [.ptr 3 0 0,.ptr 2 0 0])/\t.g 27=.c (.f (sl s.cg (cT s.cs)))/\∃x f,Hd H x f/\rh (λy=>(∃c∈s.cs.take j,AU c s.len y)/\m<=y.fr) x f) (by omega) (by decide) (by decide) (by simp) (by simp)
   ⟨by simp,by simp,by simp,by simp,by simp,by simp,by simp,⟨0,0,0⟩,ag,by rw[N];exact⟨rfl,rfl,rfl,rfl⟩,.inl ⟨rfl,rfl,λy K=>by obtain⟨⟨c,A,_⟩,_⟩:=K;simp at A⟩⟩ ?_ ?_
  .rintro j t H hj ⟨S,g2,F,L,M,U,c5,x,f,h,O⟩ ha hb next
   obtain⟨cl,d6⟩:=aQ (s.cs[j]);have c6:cl∈s.cs:=d6▸aq7 hj;have j7:=hs.min c6;have c_:=hs.cl cl c6;have u:=λH:aj=>dU (H:=H) (iH s.cs) (kK (l:=s.cs) (j:=j) hj);have c9:=λH:aj=>bO (H:=H) (g:=s.cg) (rows:=cT s.cs) (sz:=2) (k:=.i64) (i:=j) (by omega) (by simpa using hj);rw[<-d6]at u;simp[fI.row]at u c9;have I:s.cs.take (j+1)=s.cs.take j++[cl]:=by rw[arD,aq2 hj,d6];rfl
   obtain⟨n0,i8⟩:=aQ (max 0 ((m-cl.min-1) / 1440+1));obtain⟨d,ok,d7,hd,i_⟩:=afW cl.mg cl.ts c_.v c_.f n0 (by omega) (by omega);have e_:=AH (sl s.cg (cT s.cs)) (sl s.xg (dr s.xs)) (sl cl.mg (aU cl.ts)) s.len cl.min d (by omega) (by omega) (by omega) (by omega);have Y:=YN (sl s.cg (cT s.cs)) (sl s.xg (dr s.xs)) (sl cl.mg (aU cl.ts)) s.len cl.min d (by unfold zl;omega) (by unfold zl;omega) (by unfold zl;omega);simp[bK.row]at Y;have g_:=xJ (m-cl.min-1) (by omega) (by omega);have f8:d<=(2251799813685248-cl.min-s.len) / 1440:=by omega
   have d_:max 0 ((m-cl.min-1) / 1440+1)=n0:=i8.symm;have X:∀y,AU cl s.len y/\m<=y.fr↔∃e,sX cl.ts n0 e/\y=nO s.len cl.min e:=by
    intro y;constructor
    .rintro⟨⟨e,he,rfl⟩,W⟩;have h3:m<=e*1440+cl.min:=W;have h4:0<=e:=by obtain⟨_,_,h,_⟩:=he;exact h
     exact⟨e,(Bn (by omega) (by omega)).1 he,rfl⟩
    .rintro⟨e,he,rfl⟩;have h4:n0<=e:=by obtain⟨_,_,h,_⟩:=he;exact h
     refine⟨⟨e,(Bn (by omega) h4).2 he,rfl⟩,?_⟩;show m<=e*1440+cl.min;omega
   refine az ?_;apply ai;simp[c5,ha,c9,u];obtain⟨bc,d9⟩:=aQ (H.length);have kc:(H++[cH.box [.f (sl cl.mg (aU cl.ts)),.f (fi cl.min)] 0])[bc]?=aa (.box [.f (sl cl.mg (aU cl.ts)),.f (fi cl.min)] 0):=by simp[d9]
   have kh:=a8 H x f [cH.box [.f (sl cl.mg (aU cl.ts)),.f (fi cl.min)] 0] h;rw[<-d9];generalize H++[cH.box [.f (sl cl.mg (aU cl.ts)),.f (fi cl.min)] 0]=HA at kc kh ⊢;have k0:HA[0]?=aa (.box [C.f (sl s.cg (cT s.cs)),C.f (fi s.len),C.f (sl s.xg (dr s.xs))] 0):=by rw[N]at kh;exact kh.1
   apply ai;simp[S,kc,aM (n:=m-cl.min),aM (n:=m-cl.min-1),g_,aM (n:=(m-cl.min-1) / 1440+1),d_,i_];apply an;rcases d7 with⟨rfl,rfl,i9⟩|⟨rfl,hS,d7⟩
   .refine aq (.inl rfl) ?_;simp;refine aA (by simp) (aJ (ay (next _ _ ?_ (by simp[ha]) (by simp[hb]))));refine⟨by simp[S],by simp[g2],by simp[F],by simp[L],by simp[M],by simp[U],by simp[c5],x,f,kh,O.iff λy=>⟨λK=>?_,λK=>?_⟩⟩
    .obtain⟨⟨c,A,hi⟩,E⟩:=K;rw[I]at A;rcases ard.1 A with A|A
     .exact⟨⟨c,A,hi⟩,E⟩
     .obtain rfl:=arb.1 A;obtain⟨e,he,-⟩:=(X y).1 ⟨hi,E⟩;exact absurd he (i9 e)
    .obtain⟨⟨c,A,hi⟩,E⟩:=K;exact⟨⟨c,by rw[I];exact ar4 _ A,hi⟩,E⟩
   .obtain⟨r,H2,B,rfl,W⟩:=a_ HA x f (nO s.len cl.min d) kh;have B:=B.eq;simp only[bK.row,arf,art]at B;refine aq (.inl rfl) ?_;simp[g2,k0,kc,e_,f8];refine au (by simp) (aq (.inl rfl) ?_);simp[g2,U,k0,kc,Y,bX,B];refine ay (next _ _ ?_ (by simp[ha]) (by simp[hb]));refine⟨by simp[S],by simp[g2],by simp[F],by simp[L],by simp[M],by simp[U],by simp[c5],_,ae,W,O.step ?_ (λy K=>?_) λy K=>?_⟩
    .obtain⟨a,b⟩:=(X _).2 ⟨d,hS,rfl⟩;exact⟨⟨cl,by rw[I];exact asA _ (arb.2 rfl),a⟩,b⟩
    .obtain⟨⟨c,A,hi⟩,E⟩:=K;exact⟨⟨c,by rw[I];exact ar4 _ A,hi⟩,E⟩
    .obtain⟨⟨c,A,hi⟩,E⟩:=K;rw[I]at A;rcases ard.1 A with A|A
     .exact .inl ⟨⟨c,A,hi⟩,E⟩
     .right;obtain rfl:=arb.1 A;obtain⟨e,he,rfl⟩:=(X y).1 ⟨hi,E⟩;have:=d7 e he;unfold bK.le bK.lt nO;simp only;omega
  .rintro t H ⟨S,g2,F,L,M,U,c5,x,f,h,O⟩ - -;rw[arz]at O;exact b_ _ _ x f (by simp[S]) (by simp[g2]) (by simp[F]) (by simp[L]) (by simp[M]) (by simp[U]) h O
 obtain⟨r,⟨x,f,O,rfl⟩,h⟩:=key;exact⟨x,f,O,h.eq⟩
abbrev u8(n:Nat):FC:=.int .u8 n
def eI(l:List Nat):List (List FC):=l.map λn=>[u8 n]
@[simp] theorem alF (l:List Nat):(eI l).length=l.length:=by simp[eI]
theorem zv(l:List Nat):cd 1 (eI l):=cd.map λ_=>rfl
theorem Y4{j:Nat}{l:List Nat}(b:j<l.length){H:aj}:bF H ab (.c (.f (.fp (eI l).flatten j)))=aa (.c (.f (u8 l[j]))):=by
 have:=fF (H:=H) (rows:=eI l) (j:=j) (sz:=1) (row:=[u8 l[j]]) (x:=u8 l[j]) (zv l) (by simp[eI,b]) rfl;simpa using this
theorem KQ{j:Nat}{l:List Nat}{g:Tg}(b:j<l.length){H:aj}:bg H 1 ab (.c (.f (sl g (eI l)))) (vi j)=aa (.c (.f (.fp (eI l).flatten j))):=by
 have:=bO (H:=H) (g:=g) (rows:=eI l) (sz:=1) (k:=.i64) (i:=(j:Int)) (by omega) (by simp;omega);simpa using this
def sS(b:List Nat)(i:Nat):Nat:=b[i]?.getD 0
theorem vg{b:List Nat}(h:∀n∈b,n<256)(i:Nat):sS b i<256:=by
 unfold sS;by_cases hi:i<b.length
 .rw[aq2 hi];exact h _ (aq7 hi)
 .rw[asQ.2 (by omega)];decide
theorem tO(g:Tg)(b:List Nat)(m:∀n∈b,n<256)(s:b.length<=9223372036854775807)(i:Nat)(hi:i<=1000):bH tab 62 [.c (.f (sl g (eI b))),vi i]=Eq (vi (sS b i:Nat)):=bH.eq (by
 refine bD rfl rfl λQ d=>?_;apply ai;simp;refine an (ai ?_);simp;by_cases h:i<b.length
 .have j:=KQ (g:=g) h (H:=[]);have l:=Y4 h (H:=[]);have q:=m _ (aq7 h);have w:ah .i64 ((b[i]:Nat):Int)=((b[i]:Nat):Int):=aM;refine au (by simp[h]) (ai ?_);simp[j,l,w];refine aB (d _ _ ?_);simp[sS,aq2 h]
 .refine ba (by simp[h]) ?_;apply ai;simp;refine aB (d _ _ ?_);simp[sS,asQ.2 (show b.length<=i by omega)])
theorem nu{limit:Int}:∀{l:List Int} {last:Int},(∀x∈l,last<x/\x<limit)->l.Pairwise (· < ·)->cB limit last l=ae
 |[],_,_,_=>rfl
 |n::r,last,h,b=>by
  have d:=h n arl;rw[atC]at b;simp only[cB,decide_eq_true d.1,decide_eq_true d.2,ash];exact nu (λx g=>⟨b.1 x g,(h x (arj _ g)).2⟩) b.2
def Up(l:List Int)(n:Nat):Prop:=(∀x∈l,0<=x/\x<n)/\l.Pairwise (· < ·)/\l.length<=n
theorem Up.nil:Up [] 0:=⟨by simp,List.Pairwise.nil,by simp⟩
theorem Up.skip{l:List Int}{n:Nat}(h:Up l n):Up l (n+1):=⟨λx b=>by have:=h.1 x b;omega,h.2.1,by have:=h.2.2;omega⟩
theorem Up.app{l:List Int}{n:Nat}(h:Up l n):Up (l++[(n:Int)]) (n+1):=by
 refine⟨λx d=>?_,?_,by simp;exact h.2.2⟩
 .rcases ard.1 d with d|d
  .have:=h.1 x d;omega
  .simp at d;subst d;omega
 .rw[asT];exact⟨h.2.1,asE _ _,λa g b hb=>by simp at hb;subst hb;have:=h.1 a g;omega⟩
theorem Up.rising{l:List Int}{n:Nat}(h:Up l n):cB n (-1) l=ae:=nu (λx b=>by have:=h.1 x b;omega) h.2.1
theorem lB(l:List Int):cd 1 (ints l):=cd.map λ_=>rfl
structure FI(b:V)(fr aH:Nat)(hd cy:List Int)(ch cc:C)(t:T)(J:aj):Prop where
 res:J[0]?=aa (.box [.f .aw,.f (fi 0),.f (fi 0),.f .aw] 0)
 pb:J[1]?=aa (.box [ch,.f (fi fr),.f (fi aH),cc] 0)
 lh:LR J ch 1 (ints hd)
 lc:LR J cc 1 (ints cy)
 ne:∀i,aT ch=aa i->aT cc≠aa i
 g0:t.g 0=b
 g2:t.g 2=.c (.ptr 0 0 0)
 g3:t.g 3=.c (.ptr 1 0 0)
section
variable{b:V}{fr aH:Nat}{hd cy:List Int}{ch cc:C}{t:T}{J:aj}
theorem FI.to(k:FI b fr aH hd cy ch cc t J){d:T}(g0:d.g 0=b)(g2:d.g 2=.c (.ptr 0 0 0))(g3:d.g 3=.c (.ptr 1 0 0)):FI b fr aH hd cy ch cc d J:=⟨k.res,k.pb,k.lh,k.lc,k.ne,g0,g2,g3⟩
theorem FI.ae2(k:FI b fr aH hd cy ch cc t J)(hl:cy.length<=1000)(n:Int) :
  ∃m j,bJ (J++[.box [.f (fi n)] 0]) 1 8 (.c cc) (.c (.sl J.length 0 1 1 0 1))=aa (.c m,j)/\dC j (.ptr 1 3 0) [m]=aa (j.set 1 (.box [ch,.f (fi fr),.f (fi aH),m] 0))/\
   ∀x:T,x.g 0=b->x.g 2=.c (.ptr 0 0 0)->x.g 3=.c (.ptr 1 0 0)->FI b fr aH hd (cy++[n]) ch m x (j.set 1 (.box [ch,.f (fi fr),.f (fi aH),m] 0)):=by
 obtain⟨A,d⟩:=aQ (J++[.box ([fi n].map .f) 0]:aj);have up:∀i y,J[i]?=aa y->A[i]?=aa y:=λi y hy=>by rw[d,aq1 (av hy)];exact hy
 have u:LR A cc 1 (ints cy):=by rw[d];exact k.lc.push _
 have E:A[J.length]?=aa (.box ([fi n].map .f) 0):=by rw[d];simp
 obtain⟨m,j,l,q,s,F⟩:=u.app (lB cy) (by decide) (row:=[fi n]) rfl (bytes:=8) (dW (by simp[ints];omega) (by decide)) E;have z:∀(i:Nat) (cs:List C) (B:Nat),J[i]?=aa (.box cs B)->j[i]?=aa (.box cs B):=λi cs B hy=>s.2 i _ (up _ _ hy) (u.bI (up _ _ hy));have g:=z _ _ _ k.pb;have I:ints cy++[[fi n]]=ints (cy++[n]):=by simp[ints]
 rw[I]at q;have v:LR j ch 1 (ints hd):=k.lh.bE λi y hy hi=>s.2 i y (up _ _ hy) (k.ne i hi);refine⟨m,j,by rw[d]at l;exact l,by simp[dC,g,bR],λx g0 g2 g3=>⟨?_,aq6 (av g),v.set (v.bI g) _,q.set (q.bI g) _,?_,g0,g2,g3⟩⟩
 .rw[aq0 (by decide)];exact z _ _ _ k.res
 .intro i hi;rcases F with e|e
  .rw[e];exact k.ne i hi
  .rw[e];intro H;cases H;have:=k.lh.lt hi;have h2:A.length=J.length+1:=by rw[d];simp
   omega
theorem FI.YX(k:FI b fr aH hd cy ch cc t J)(hl:hd.length<=1000)(n:Int) :
  ∃m j,bJ (J++[.box [.f (fi n)] 0]) 1 8 (.c ch) (.c (.sl J.length 0 1 1 0 1))=aa (.c m,j)/\dC j (.ptr 1 0 0) [m]=aa (j.set 1 (.box [m,.f (fi fr),.f (fi aH),cc] 0))/\
   ∀z:T,z.g 0=b->z.g 2=.c (.ptr 0 0 0)->z.g 3=.c (.ptr 1 0 0)->FI b fr aH (hd++[n]) cy m cc z (j.set 1 (.box [m,.f (fi fr),.f (fi aH),cc] 0)):=by
 obtain⟨B,d⟩:=aQ (J++[.box ([fi n].map .f) 0]:aj);have up:∀i y,J[i]?=aa y->B[i]?=aa y:=λi y hy=>by rw[d,aq1 (av hy)];exact hy
 have u:LR B ch 1 (ints hd):=by rw[d];exact k.lh.push _
 have F:B[J.length]?=aa (.box ([fi n].map .f) 0):=by rw[d];simp
 obtain⟨m,j,l,q,s,H⟩:=u.app (lB hd) (by decide) (row:=[fi n]) rfl (bytes:=8) (dW (by simp[ints];omega) (by decide)) F;have A:∀(i:Nat) (cs:List C) (E:Nat),J[i]?=aa (.box cs E)->j[i]?=aa (.box cs E):=λi cs E hy=>s.2 i _ (up _ _ hy) (u.bI (up _ _ hy));have g:=A _ _ _ k.pb;have I:ints hd++[[fi n]]=ints (hd++[n]):=by simp[ints]
 rw[I]at q;have v:LR j cc 1 (ints cy):=k.lc.bE λi y hy hi=>s.2 i y (up _ _ hy) (λe=>k.ne i e hi);refine⟨m,j,by rw[d]at l;exact l,by simp[dC,g,bR],λz g0 g2 g3=>⟨?_,aq6 (av g),q.set (q.bI g) _,v.set (v.bI g) _,?_,g0,g2,g3⟩⟩
 .rw[aq0 (by decide)];exact A _ _ _ k.res
 .intro i hi x;rcases H with e|e
  .rw[e]at hi;exact k.ne i hi x
  .rw[e]at hi;cases hi;have:=k.lc.lt x;have h2:B.length=J.length+1:=by rw[d];simp
   omega
end
theorem Z8(a:Int)(j:Nat):bL .shr (vi a) (vi j)=aa (vi (a.fdiv (2 ^ (min j 64)))):=by
 have:¬ ((j:Int)<0):=by omega
 simp only[bL,this,if_false];rw[ar7];rfl
theorem BN(a:Int)(j:Nat):bL .rem (vi (a.fdiv (2 ^ (min j 64)))) (vi 2)=aa (vi ((a.fdiv (2 ^ (min j 64))).tmod 2)):=by
 simp[bL,iT,V.int]
def aE.fV(p:aE):Prop:=cm p=ae/\p.fr<=8/\p.aH<=12
theorem ti(g:Tg){b:List Nat}(s:∀n∈b,n<256)(m:b.length<=9223372036854775807) :
  ∃p:aE,p.fV/\bH tab 61 [.c (.f (sl g (eI b)))]=Eq (.a (p.row.map .f)):=by
 obtain⟨rr,⟨p,hp,rfl⟩,N⟩:∃rr,(∃p:aE,p.fV/\rr=.a (p.row.map .f))/\bH tab 61 [.c (.f (sl g (eI b)))] rr:=by
  refine ey rfl rfl λQ o=>?_;have S:bH tab 62 [.c (.f (sl g (eI b))),vi 0]=Eq (vi (sS b 0:Nat)):=tO g b s m 0 (by decide);have a1:bH tab 62 [.c (.f (sl g (eI b))),vi 1]=Eq (vi (sS b 1:Nat)):=tO g b s m 1 (by decide);have U:bH tab 62 [.c (.f (sl g (eI b))),vi 2]=Eq (vi (sS b 2:Nat)):=tO g b s m 2 (by decide);have W:bH tab 62 [.c (.f (sl g (eI b))),vi 3]=Eq (vi (sS b 3:Nat)):=tO g b s m 3 (by decide);have X:bH tab 62 [.c (.f (sl g (eI b))),vi 4]=Eq (vi (sS b 4:Nat)):=tO g b s m 4 (by decide);have b0:=vg s 0;have b1:=vg s 1;have b2:=vg s 2;have b3:=vg s 3;obtain⟨fr,F⟩:=aQ (sS b 1 % 9:Nat);obtain⟨aH,B⟩:=aQ (1+sS b 0 % 12:Nat);have r1:bL .rem (vi (sS b 1:Nat)) (vi 9)=aa (vi fr):=by rw[dY (by omega) (by decide),F];simp
  have r0:bL .rem (vi (sS b 0:Nat)) (vi 12)=aa (vi (sS b 0 % 12:Nat)):=by rw[dY (by omega) (by decide)];simp
  have w0:ah .i64 (1+(sS b 0:Int) % 12)=aH:=by rw[aM,B];simp
  have w3:=aM (n:=256*(sS b 3:Int));obtain⟨bits,x⟩:=aQ (ah .i64 ((sS b 2:Int)+256*(sS b 3:Int)));apply ai;simp;apply ai;simp[S,a1,r0,r1,w0];apply ai;simp[U,W,w3,<-x];refine an (ai ?_);simp;refine nb aH (λj t J=>∃cy cc,Up cy j/\FI (.c (.f (sl g (eI b)))) fr aH [] cy (.f .aw) cc t J/\t.g 4=vi bits) (by omega) (by decide) (by simp)
   ⟨[],.f .aw,Up.nil,⟨rfl,rfl,LR.nil _ _,LR.nil _ _,(λi h=>by cases h),by simp,by simp,by simp⟩,by simp⟩ ?_ ?_ ?_
  .rintro j t J L H ⟨cy,cc,u,k,q⟩ d M;simp[d,k.g3,k.pb,bf];exact M _ ⟨cy,cc,u,k.to (by simp[k.g0]) (by simp[k.g2]) (by simp[k.g3]),by simp[q]⟩ (by simp[d]) (by simp)
  .rintro j t J H ⟨cy,cc,u,k,q⟩ d nx;refine az (ai ?_);simp[d,q,Z8,BN];by_cases A:(bits.fdiv (2 ^ (min j 64))).tmod 2=1
   .simp[A];refine au (by simp) (aq (.inl rfl) ?_);obtain⟨Y,O,l,z,I⟩:=k.ae2 (by have:=u.2.2;omega) j;simp[d,k.g3,k.pb,bf,l,z,-bC];refine ay (nx _ _ ⟨_,_,u.app,I _ (by simp[k.g0]) (by simp[k.g2]) (by simp[k.g3]),by simp[q]⟩ (by simp[d]))
   .simp[A];refine ba (by simp) ?_;refine ay (nx _ _ ⟨_,_,u.skip,k.to (by simp[k.g0]) (by simp[k.g2]) (by simp[k.g3]),by simp[q]⟩ (by simp[d]))
  rintro t J ⟨cy,cc,u,k,q⟩ d;refine an (ai ?_);simp;refine nb fr (λj t J=>∃hd ch,Up hd j/\FI (.c (.f (sl g (eI b)))) fr aH hd cy ch cc t J) (by omega) (by decide) (by simp)
   ⟨[],.f .aw,Up.nil,k.to (by simp[k.g0]) (by simp[k.g2]) (by simp[k.g3])⟩ ?_ ?_ ?_
  .clear k q d;rintro j t J L H ⟨hd,ch,v,k⟩ d M;simp[d,k.g3,k.pb,bf];exact M _ ⟨hd,ch,v,k.to (by simp[k.g0]) (by simp[k.g2]) (by simp[k.g3])⟩ (by simp[d]) (by simp)
  .clear k q d;rintro j t J H ⟨hd,ch,v,k⟩ d nx;refine az (ai ?_);simp[d,k.g0,X,Z8,BN];by_cases A:((sS b 4:Int).fdiv (2 ^ (min j 64))).tmod 2=1
   .simp[A];refine au (by simp) (aq (.inl rfl) ?_);obtain⟨Y,O,l,z,I⟩:=k.YX (by have:=v.2.2;omega) j;simp[d,k.g3,k.pb,bf,l,z,-bC];refine ay (nx _ _ ⟨_,_,v.app,I _ (by simp[k.g0]) (by simp[k.g2]) (by simp[k.g3])⟩ (by simp[d]))
   .simp[A];refine ba (by simp) ?_;refine ay (nx _ _ ⟨_,_,v.skip,k.to (by simp[k.g0]) (by simp[k.g2]) (by simp[k.g3])⟩ (by simp[d]))
  clear k q d;rintro t J ⟨hd,ch,v,k⟩ d;apply ai;simp[k.g2,k.g3,k.pb,k.res,bf];obtain⟨w,hh⟩:=k.lh.exU (lB _);obtain⟨Z,r⟩:=k.lc.exU (lB _);have K:=av k.res;have a:=hh (J.set 0 (.box [ch,.f (fi fr),.f (fi aH),cc] 0)) 63 λi y hi E=>by
   rw[aq0 (by rintro rfl;exact k.lh.bI k.res E)];exact hi
  have c:=r (J.set 0 (.box [ch,.f (fi fr),.f (fi aH),cc] 0)) 63 λi y hi E=>by
   rw[aq0 (by rintro rfl;exact k.lc.bI k.res E)];exact hi
  refine aB (o _ _ _ ⟨⟨w,hd,fr,aH,Z,cy⟩,?_,rfl⟩ ⟨rfl,.a [ch,.f (fi fr),.f (fi aH),cc],?_,?_⟩)
  .have A:=u.2.2;have h2:=v.2.2;have e:=u.rising;have f:=v.rising;refine⟨?_,by show(fr:Int)<=8;omega,by show(aH:Int)<=12;omega⟩;simp[cm,e,f];omega
  .simp[Km.results,bQ,aX,k.g2,K,bf]
  .simp[jy,de,aX,deep,a,c,aE.row]
 exact⟨p,hp,N.eq⟩
def gC(J:aj)(c:C)(fs:List aE):Prop:=
 (∃p m,fs=[p]/\c=.sl m 0 1 1 0 4/\J[m]?=aa (.box (p.row.map .f) 0))\/(fs≠[]/\LR J c 4 (aC fs))
theorem vN(fs:List aE)(q:aE):aC fs++[q.row]=aC (fs++[q]):=by simp[aC]
section
variable{J J':aj}{c:C}{fs:List aE}
theorem gC.bE(h:gC J c fs)(b:∀i y,J[i]?=aa y->aT c=aa i->J'[i]?=aa y):gC J' c fs:=by
 rcases h with⟨p,m,rfl,rfl,h⟩|⟨h,h2⟩
 .exact .inl ⟨p,m,rfl,rfl,b m _ h rfl⟩
 .exact .inr ⟨h,h2.bE b⟩
theorem gC.push(h:gC J c fs)(L:aj):gC (J++L) c fs:=h.bE λi y hy _=>by rw[aq1 (av hy)];exact hy
theorem gC.len(h:gC J c fs):aV J c=aa fs.length:=by
 rcases h with⟨p,m,rfl,rfl,h⟩|⟨h,h2⟩
 .simp[aV,h]
 .simpa using h2.len
theorem gC.bY(h:gC J c fs):∃m,aT c=aa m/\m<J.length/\∀cs g d st,J[m]?≠aa (.cK 1 cs g d st):=by
 rcases h with⟨p,m,rfl,rfl,h⟩|⟨h,⟨h1,_⟩|⟨_,b,d,rfl,hb⟩⟩
 .exact⟨m,rfl,av h,λcs g d st e=>by rw[h]at e;cases e⟩
 .exact absurd (by simpa[aC]using h1) h
 .unfold RB at hb;exact⟨b,rfl,av hb,λcs g d st e=>by rw[hb]at e;cases e⟩
theorem gC.app(h:gC J c fs)(hl:fs.length<=10)(q:aE){b1:Nat}(j:J[b1]?=aa (.box (q.row.map .f) 0)) :
  ∃l s,bJ J 4 64 (.c c) (.c (.sl b1 0 1 1 0 4))=aa (.c l,s)/\gC s l (fs++[q])/\Kb J s c/\(aT l=aT c\/aT l=aa J.length):=by
 rcases h with⟨p,m,rfl,rfl,h⟩|⟨h,h2⟩
 .have d:cN J 4 (.c (.sl b1 0 1 1 0 4))=aa (1,q.row.map .f):=tM j rfl;have b:cJ 2 64=ae:=dW (by decide) (by decide);refine⟨.sl J.length 0 2 0 0 4,J++[.cK 4 (p.row.map .f++q.row.map .f) 0 0 .loc],?_,.inr ⟨by simp,.inr ⟨by simp[aC],J.length,0,rfl,?_⟩⟩,Kb.push _ _ _,.inr rfl⟩
  .simp[bJ,d,h,b,aE.row]
  .unfold RB;simp[aC]
 .obtain⟨z,y,g,v,u,x⟩:=h2.app (bh fs) (by decide) (row:=q.row) rfl (bytes:=64) (dW (by simp;omega) (by decide)) j;exact⟨z,y,g,.inr ⟨by simp,vN fs q▸v⟩,u,x⟩
theorem gC.ex(h:gC J c fs)(n:Nat):eT (n+1) J c=aa (sl .fs (aC fs)):=by
 rcases h with⟨p,m,rfl,rfl,h⟩|⟨h,h2⟩
 .simp[kg,h,aC,sl,aE.row,aX]
 .obtain⟨g,e⟩:=h2.ex (bh fs) n;rw[e,Z_ (g':=.fs) (by simpa[aC]using h)]
end
inductive AS{α β:Type}(R:α->β->Prop):List α->List β->Prop
 |nil:AS R [] []
 |cons {a b l m}:R a b->AS R l m->AS R (a::l) (b::m)
def TL(J:aj)(ct:C)(ts:List (List aE)):Prop:=(ts=[]/\ct=.f .aw)\/
 (ts≠[]/\∃b d cs,ct=.sl b 0 ts.length 0 d 1/\J[b]?=aa (.cK 1 cs 0 d .loc)/\AS (gC J) cs ts/\cs.Pairwise (λa b=>aT a≠aT b))
theorem gS{d g:Type}{R S:d->g->Prop}:∀{l:List d} {m:List g},AS R l m->(∀a b,a∈l->R a b->S a b)->AS S l m
 |[],[],_,_=>.nil| a::l,b::m,.cons h t,hi=>.cons (hi a b arl h) (gS t λx y j=>hi x y (arj _ j))
theorem jc{b d:Type}{R:b->d->Prop}:∀{l:List b} {m:List d},AS R l m->l.length=m.length
 |[],[],_=>rfl| _::_,_::_,.cons _ t=>by simp[jc t]
theorem lv{d g:Type}{R:d->g->Prop}:∀{l:List d} {m:List g},AS R l m->∀{a b},R a b->AS R (l++[a]) (m++[b])
 |[],[],_,a,b,h=>.cons h .nil| _::_,_::_,.cons h t,a,b,j=>.cons h (lv t j)
theorem mj{j g:Type}{R:j->g->Prop}:∀{l:List j} {m:List g} {b:g},AS R l (m++[b])->∃d a,l=d++[a]/\AS R d m/\R a b
 |_,[],b,h=>by
  cases h with
  |cons h t=>cases t;exact⟨[],_,rfl,.nil,h⟩
 |_,y::m,b,h=>by
  cases h with
  |cons h t=>
   obtain⟨d,a,rfl,q,s⟩:=mj t;exact⟨_::d,a,rfl,.cons h q,s⟩
theorem mh{g j:Type}{R:g->j->Prop}:∀{l:List g} {m:List j},AS R l m->∀a∈l,∃b,R a b
 |[],[],_,a,h=>by cases h
 |x::_,y::_,.cons h t,a,d=>by
  rcases arM.1 d with rfl|d
  .exact⟨y,h⟩
  .exact mh t a d
section
variable{J J':aj}{ct:C}{ts:List (List aE)}
theorem TL.bE(h:TL J ct ts)(q:∀i y,J[i]?=aa y->i≠0->i≠1->J'[i]?=aa y)(h0:∃x j,J[0]?=aa (.box [x] j))(h1:∃x j,J[1]?=aa (.box [x] j)):TL J' ct ts:=by
 obtain⟨E,A,h0⟩:=h0;obtain⟨F,B,h1⟩:=h1;rcases h with h|⟨h,b,s,cs,rfl,hb,v,z⟩
 .exact .inl h
 .refine .inr ⟨h,b,s,cs,rfl,q _ _ hb (by rintro rfl;rw[h0]at hb;cases hb) (by rintro rfl;rw[h1]at hb;cases hb),gS v λc fs _ hi=>hi.bE λi y hy g=>q i y hy ?_ ?_,z⟩
  all_goals
   rintro rfl;rcases hi with⟨p,m,rfl,rfl,d⟩|⟨l,⟨e,_⟩|⟨_,m,u,rfl,d⟩⟩
   .cases g
    first|(rw[h0]at d;simp[aE.row]at d)|(rw[h1]at d;simp[aE.row]at d)
   .exact l (by simpa[aC]using e)
   .cases g;unfold RB at d
    first|(rw[h0]at d;cases d)|(rw[h1]at d;cases d)
theorem TL.push(h:TL J ct ts)(L:aj):TL (J++L) ct ts:=by
 rcases h with h|⟨h,b,d,cs,rfl,hb,g,j⟩
 .exact .inl h
 .exact .inr ⟨h,b,d,cs,rfl,by rw[aq1 (av hb)];exact hb,gS g λc fs _ hi=>hi.push L,j⟩
theorem TL.len(h:TL J ct ts):aV J ct=aa ts.length:=by
 rcases h with⟨rfl,rfl⟩|⟨h,b,d,cs,rfl,hb,g,j⟩
 .rfl
 .simp[aV,hb]
theorem oQ{d j s:Type}{R:d->j->Prop}{g:d->Option s}{k:j->s}(q:∀a b,R a b->g a=aa (k b)):∀{l:List d} {m:List j},AS R l m->aX g l=aa (m.map k)
 |[],[],_=>rfl| _::_,_::_,.cons h t=>by simp only[aX,q _ _ h,oQ q t,arf]
theorem lR:∀{l:List (List aE)},(l.map λfs=>[sl .fs (aC fs)]).flatten=l.map λfs=>sl .fs (aC fs)
 |[]=>rfl| x::l=>by simp[lR (l:=l)]
theorem TL.ex(h:TL J ct ts)(n:Nat):∃g,eT (n+2) J ct=aa (sl g (aU (ts.map λfs=>⟨.fs,fs⟩))):=by
 rcases h with⟨rfl,rfl⟩|⟨h,b,q,cs,rfl,hb,j,s⟩
 .exact⟨.nil,rfl⟩
 .refine⟨.fs,?_⟩;have hl:=jc j;have m:=oQ (g:=eT (n+1) J) (k:=λfs=>sl .fs (aC fs)) (λc fs hi=>hi.ex n) j;simp only[kg,hb];rw[bw ⟨trivial,trivial,by omega⟩,asp,arw (by omega),m];have d:¬ (aU (ts.map λfs=>(⟨.fs,fs⟩:dc))).isEmpty=ae:=by simpa[aU]using h
  have e:(aU (ts.map λfs=>(⟨.fs,fs⟩:dc))).flatten=ts.map λfs=>sl .fs (aC fs):=by
   simp only[aU,List.map_map];exact lR
  have l:(aU (ts.map λfs=>(⟨.fs,fs⟩:dc))).length=ts.length:=by simp
  have es:sl .fs (aU (ts.map λfs=>(⟨.fs,fs⟩:dc)))=.fs (ts.map λfs=>sl .fs (aC fs)) ts.length:=by
   rw[<-e,<-l];unfold sl;rw[aR d]
  rw[es];rfl
end
structure SI(J:aj)(ct:C)(ts:List (List aE)):Prop where
 res:J[0]?=aa (.box [.f .aw] 0)
 out:J[1]?=aa (.box [ct] 0)
 tl:TL J ct ts
theorem SI.push{J:aj}{ct:C}{ts:List (List aE)}(h:SI J ct ts)(L:aj):SI (J++L) ct ts:=
 ⟨by rw[aq1 (av h.res)];exact h.res,by rw[aq1 (av h.out)];exact h.out,h.tl.push L⟩
theorem BE{R:C->C->Prop}{l:List C}{a:C}(h:l.Pairwise R)(d:∀x∈l,R x a):(l++[a]).Pairwise R:=by
 rw[asT];exact⟨h,asE _ _,λx g y b=>by simp at b;subst b;exact d x g⟩
theorem SI.new{J:aj}{ct:C}{ts:List (List aE)}(h:SI J ct ts)(hl:ts.length<=10)(q:aE) :
  ∃B v,bJ (J++[.box (q.row.map .f) 0]++[.box [.sl J.length 0 1 1 0 4] 0]) 1 24 (.c ct) (.c (.sl (J.length+1) 0 1 1 0 1))=aa (.c B,v)/\dC v (.ptr 1 0 0) [B]=aa (v.set 1 (.box [B] 0))/\SI (v.set 1 (.box [B] 0)) B (ts++[[q]]):=by
 obtain⟨Q,s⟩:=aQ (J++[.box (q.row.map .f) 0]:aj);obtain⟨l,j⟩:=aQ (Q++[.box [.sl J.length 0 1 1 0 4] 0]:aj);rw[<-s,<-j];have l1:Q.length=J.length+1:=by rw[s];simp
 have l2:l.length=J.length+2:=by rw[j];simp[l1]
 have u:SI l ct ts:=by rw[j,s];exact(h.push _).push _
 have K:l[J.length]?=aa (.box (q.row.map .f) 0):=by rw[j,aq1 (by omega),s];simp
 have bx:l[J.length+1]?=aa (.box [.sl J.length 0 1 1 0 4] 0):=by rw[j,<-l1];simp
 have x:cN l 1 (.c (.sl (J.length+1) 0 1 1 0 1))=aa (1,[.sl J.length 0 1 1 0 4]):=by simp[cN,aV,cA,bx]
 have g:cJ (ts.length+1) 24=ae:=dW (by omega) (by decide);have h0:=av h.res;have h1:=av h.out;rcases u.tl with⟨W,X⟩|⟨z,b,F,cs,rfl,hb,S,Y⟩
 .subst W X;have g:cJ 1 24=ae:=dW (by decide) (by decide);refine⟨.sl l.length 0 1 0 0 1,l++[.cK 1 [.sl J.length 0 1 1 0 4] 0 0 .loc],?_,?_,?_,?_,?_⟩
  .simp[bJ,x,g]
  .have:(l++[.cK 1 [.sl J.length 0 1 1 0 4] 0 0 .loc])[1]?=aa (.box [.f .aw] 0):=by rw[aq1 (by omega)];exact u.out
   simp[dC,this,bR]
  .rw[aq0 (by decide),aq1 (by omega)];exact u.res
  .rw[aq6 (by simp;omega)]
  .refine .inr ⟨by simp,l.length,0,[.sl J.length 0 1 1 0 4],rfl,?_,.cons (.inl ⟨q,J.length,rfl,rfl,?_⟩) .nil,asE _ _⟩
   .rw[aq0 (by omega)];simp
   .rw[aq0 (by omega),aq1 (by omega)];exact K
 .have N:=jc S;have b1:b≠1:=by rintro rfl;rw[u.out]at hb;cases hb
  have b0:b≠0:=by rintro rfl;rw[u.res]at hb;cases hb
  have bl:=av hb;obtain⟨v,d⟩:=aQ (l.set b (.cK 1 (cs++[.sl J.length 0 1 1 0 4]) 0 (F+1) .loc):aj);have M:v[1]?=aa (.box [.sl b 0 ts.length 0 F 1] 0):=by rw[d,aq0 b1];exact u.out
  have lH:v.length=l.length:=by rw[d];simp
  refine⟨.sl b 0 (ts.length+1) 0 (F+1) 1,v,?_,?_,?_,?_,?_⟩
  .simp[bJ,x,g,hb,N,d]
  .simp[dC,M,bR]
  .rw[aq0 (by decide),d,aq0 b0];exact u.res
  .rw[aq6 (by omega)]
  .refine .inr ⟨by simp,b,F+1,cs++[.sl J.length 0 1 1 0 4],by simp,?_,lv (gS S λc fs hc hi=>?_) (.inl ⟨q,J.length,rfl,rfl,?_⟩),BE Y λc hc=>?_⟩
   .rw[aq0 (Ne.symm b1),d,aq6 bl]
   .obtain⟨m,E,lm,U⟩:=hi.bY;refine hi.bE λi y hy I=>?_;rw[E]at I;cases I;have m1:1≠m:=by
     rintro rfl;rcases hi with⟨p,m,rfl,rfl,A⟩|⟨z,⟨e,_⟩|⟨_,m,L,rfl,A⟩⟩
     .cases E;rw[u.out]at A;simp[aE.row]at A
     .exact z (by simpa[aC]using e)
     .cases E;unfold RB at A;rw[u.out]at A;cases A
    have mb:b≠m:=by rintro rfl;exact U _ _ _ _ hb
    rw[aq0 m1,d,aq0 mb];exact hy
   .rw[aq0 (by omega),d,aq0 (by rintro rfl;rw[K]at hb;cases hb)];exact K
   .have h3:AS (gC J) cs ts:=by
     rcases h.tl with⟨e,_⟩|⟨_,Z,L,cs',e,H,O,_⟩
     .exact absurd e z
     .cases e;have:l[b]?=aa (.cK 1 cs' 0 F .loc):=by rw[j,s,arZ,aq1 (av H)];exact H
      rw[hb]at this;cases this;exact O
    obtain⟨fs,hi⟩:=mh h3 c hc;obtain⟨m,E,lm,U⟩:=hi.bY;rw[E];intro e;cases e;omega
theorem SI.more{J:aj}{ct:C}{ts:List (List aE)}{fs:List aE}(h:SI J ct (ts++[fs]))(hl:fs.length<=10)(q:aE) :
  ∃b l c,bg J 1 ab (.c ct) (vi ts.length)=aa (.c (.ptr b ts.length l))/\bF J ab (.c (.ptr b ts.length l))=aa (.c c)/\aV J c=aa fs.length/\
   ∃E x,bJ (J++[.box (q.row.map .f) 0]) 4 64 (.c c) (.c (.sl J.length 0 1 1 0 4))=aa (.c E,x)/\bg x 1 ab (.c ct) (vi ts.length)=aa (.c (.ptr b ts.length l))/\x[1]?=aa (.box [ct] 0)/\
    ∃Z,dC x (.ptr b ts.length l) [E]=aa Z/\SI Z ct (ts++[fs++[q]]):=by
 rcases h.tl with⟨e,_⟩|⟨_,b,l,cs,rfl,hb,hf,hp⟩
 .simp at e
 obtain⟨cs',c,rfl,A,hi⟩:=mj hf;have H:=jc A;obtain⟨F,d⟩:=aQ (J++[.box (q.row.map .f) 0]:aj);have l1:F.length=J.length+1:=by rw[d];simp
 have k1:SI F (.sl b 0 (ts++[fs]).length 0 l 1) (ts++[fs]):=by rw[d];exact h.push _
 have bq:F[J.length]?=aa (.box (q.row.map .f) 0):=by rw[d];simp
 have S:gC F c fs:=by rw[d];exact hi.push _
 obtain⟨m,M,lm,om⟩:=hi.bY;obtain⟨E,x,z,I,hK,Q⟩:=S.app hl q bq;have up:∀i y,J[i]?=aa y->F[i]?=aa y:=λi y hy=>by rw[d,aq1 (av hy)];exact hy
 have v:∀i y,J[i]?=aa y->i≠m->x[i]?=aa y:=λi y hy B=>hK.2 i y (up i y hy) (by rw[M];intro e;cases e;exact B rfl);have mb:b≠m:=by rintro rfl;exact om _ _ _ _ hb
 have s:=v _ _ hb mb;have K:m≠0/\m≠1:=by
  rcases hi with⟨p,W,rfl,rfl,j⟩|⟨B,⟨e,_⟩|⟨_,W,a8,rfl,j⟩⟩
  .cases M;exact⟨by rintro rfl;rw[h.res]at j;simp[aE.row]at j,by rintro rfl;rw[h.out]at j;simp[aE.row]at j⟩
  .exact absurd (by simpa[aC]using e) B
  .cases M;unfold RB at j;exact⟨(by rintro rfl;rw[h.res]at j;cases j),(by rintro rfl;rw[h.out]at j;cases j)⟩
 have r0:=v _ _ h.res (Ne.symm K.1);have r1:=v _ _ h.out (Ne.symm K.2);have b0:b≠0:=by rintro rfl;rw[h.res]at hb;cases hb
 have b1:b≠1:=by rintro rfl;rw[h.out]at hb;cases hb
 obtain⟨W,O,a_,Y⟩:=I.bY;have X:b≠W:=by rintro rfl;exact Y _ _ _ _ s
 rw[asT]at hp;obtain⟨p1,-,p3⟩:=hp;refine⟨b,l,c,?_,?_,hi.len,E,x,by rw[d]at z;exact z,?_,r1,x.set b (.cK 1 (cs'++[E]) 0 l .loc),?_,?_,?_,?_⟩
 .simp[bg,fE,hb];omega
 .simp[bF,aK,hb,<-H,bf]
 .simp[bg,fE,s];omega
 .simp[dC,s,bR,<-H]
 .rw[aq0 b0];exact r0
 .rw[aq0 b1];simpa using r1
 .refine .inr ⟨by simp,b,l,cs'++[E],by simp,aq6 (av s),lv (gS A λa f N u=>?_) (I.bE λi y hy g=>?_),BE p1 λa N=>?_⟩
  .obtain⟨k,L,lk,ok⟩:=u.bY;refine u.bE λi y hy g=>?_;rw[L]at g;cases g;have U:k≠m:=by
    have:=p3 a N c (by simp);rw[L,M]at this;exact λe=>this (by rw[e])
   rw[aq0 (by rintro rfl;exact ok _ _ _ _ hb)];exact v _ _ hy U
  .rw[O]at g;cases g;rw[aq0 X];exact hy
  .rcases Q with e|e
   .rw[e];exact p3 a N c (by simp)
   .obtain⟨f,u⟩:=mh A a N;obtain⟨k,L,lk,ok⟩:=u.bY;rw[e,L];intro e2;cases e2;omega
abbrev ByD:=Tg × List Nat
def aiA(b:ByD):Prop:=b.2.length<=9223372036854775807/\∀n∈b.2,n<256
def fJ(l:List ByD):List (List FC):=l.map λb=>[sl b.1 (eI b.2)]
@[simp] theorem aji (l:List ByD):(fJ l).length=l.length:=by simp[fJ]
theorem xl(l:List ByD):cd 1 (fJ l):=cd.map λ_=>rfl
theorem anV{j:Nat}{l:List ByD}(b:j<l.length){H:aj}:bF H ab (.c (.f (.fp (fJ l).flatten j)))=aa (.c (.f (sl l[j].1 (eI l[j].2)))):=by
 have:=fF (H:=H) (rows:=fJ l) (j:=j) (sz:=1) (row:=[sl l[j].1 (eI l[j].2)]) (x:=sl l[j].1 (eI l[j].2)) (xl l) (by simp[fJ,b]) rfl;simpa using this
theorem ajE{j:Nat}{l:List ByD}{g:Tg}(b:j<l.length){H:aj}:bg H 1 ab (.c (.f (sl g (fJ l)))) (vi j)=aa (.c (.f (.fp (fJ l).flatten j))):=by
 have:=bO (H:=H) (g:=g) (rows:=fJ l) (sz:=1) (k:=.i64) (i:=(j:Int)) (by omega) (by simp;omega);simpa using this
def rm(ts:List (List aE)):Prop:=ts.length<=3/\∀fs∈ts,fs≠[]/\fs.length<=3/\∀p∈fs,p.fV
theorem rm.new{ts:List (List aE)}(h:rm ts)(hl:ts.length<3){p:aE}(g:p.fV):rm (ts++[[p]]):=by
 refine⟨by simp;omega,λfs b=>?_⟩;rcases ard.1 b with b|b
 .exact h.2 fs b
 .simp at b;subst b;exact⟨by simp,by simp,λq d=>by simp at d;subst d;exact g⟩
theorem rm.more{ts:List (List aE)}{fs:List aE}(h:rm (ts++[fs]))(hl:fs.length<3){p:aE}(g:p.fV):rm (ts++[fs++[p]]):=by
 refine⟨by have:=h.1;simpa using this,λd hg=>?_⟩;rcases ard.1 hg with hg|hg
 .exact h.2 d (ar4 _ hg)
 .simp at hg;subst hg;have h2:=(h.2 fs (by simp)).2.2;refine⟨by simp,by simp;omega,λq b=>?_⟩;rcases ard.1 b with b|b
  .exact h2 q b
  .simp at b;subst b;exact g
def zx(ts:List (List aE)):Nat:=(ts.map List.length).sum
theorem xx(a:List (List aE))(fs:List aE):zx (a++[fs])=zx a+fs.length:=by simp[zx]
theorem Zd(g:Tg){l:List ByD}(hl:l.length<=9223372036854775807)(hb:∀b∈l,aiA b) :
  ∃tg ts,(rm ts/\zx ts<=l.length)/\bH tab 21 [.c (.f (sl g (fJ l)))]=Eq (.a [.f (sl tg (aU (ts.map λfs=>⟨.fs,fs⟩)))]):=by
 obtain⟨rr,⟨tg,ts,hm,rfl⟩,hp⟩:∃rr,(∃tg ts,(rm ts/\zx ts<=l.length)/\rr=.a [.f (sl tg (aU (ts.map λfs=>⟨.fs,fs⟩)))])/\bH tab 21 [.c (.f (sl g (fJ l)))] rr:=by
  refine ey rfl rfl λQ hQ=>?_;obtain⟨N,hN⟩:=aQ (min l.length 9);apply ai;simp;apply ai;simp;refine an (ai ?_);simp;refine nb N (λj t J=>∃ct ts,(rm ts/\zx ts<=j)/\SI J ct ts/\t.g 0=.c (.f (sl g (fJ l)))/\t.g 2=.c (.ptr 0 0 0)/\t.g 3=.c (.ptr 1 0 0)) (by omega) (by decide) (by simp)
   ⟨.f .aw,[],⟨⟨by simp,by simp⟩,by simp[zx]⟩,⟨rfl,rfl,.inl ⟨rfl,rfl⟩⟩,by simp,by simp,by simp⟩ ?_ ?_ ?_
  .rintro j t J L hj ⟨ct,ts,M,k,m,v,d⟩ z hn;by_cases c1:(j:Int)<l.length
   .simp[z,m,c1];exact hn _ ⟨ct,ts,M,k,by simp[m],by simp[v],by simp[d]⟩ (by simp[z]) (by simp;omega)
   .simp[z,m,c1];exact hn _ ⟨ct,ts,M,k,by simp[m],by simp[v],by simp[d]⟩ (by simp[z]) (by simp;omega)
  .rintro j t J hj ⟨ct,ts,⟨M,c5⟩,k,m,v,d⟩ z nx;have Z:j<l.length:=by omega
   obtain⟨bl,bb⟩:=hb _ (aq7 Z);obtain⟨p,c9,f8⟩:=ti l[j].1 bb bl;have B:bH tab 62 [.c (.f (sl l[j].1 (eI l[j].2))),vi 0]=Eq (vi (sS l[j].2 0:Nat)):=tO l[j].1 l[j].2 bb bl 0 (by decide);obtain⟨a,d8⟩:=aQ ((sS l[j].2 0:Int));rw[<-d8]at B;have ii:=λH=>ajE (g:=g) Z (H:=H);have dd:=λH=>anV Z (H:=H);have d6:=k.tl.len;have a_:bF J ab (.c (.ptr 1 0 0))=aa (.c ct):=by simp[bF,aK,k.out,bf]
   refine az (ai ?_);simp[d,a_,-aD,d6];apply ai;simp[m,z,ii,dd,f8,aE.row,-aD];obtain⟨E,F⟩:=aQ (J++[.box (p.row.map .f) 0]:aj);have k1:SI E ct ts:=by rw[F];exact k.push _
   have l1:E.length=J.length+1:=by rw[F];simp
   have bx:E[J.length]?=aa (.box (p.row.map .f) 0):=by rw[F];simp
   have b7:bF E (aa 4) (.c (.ptr J.length 0 0))=aa (.a [.f (sl p.hg (ints p.head)),.f (fi p.fr),.f (fi p.aH),.f (sl p.cg (ints p.aZ))]):=by simp[bF,aK,bx,bf,aE.row]
   have x:bF E ab (.c (.ptr 1 0 0))=aa (.c ct):=by simp[bF,aK,k1.out,bf]
   simp only[aE.row,arf,art]at F;rw[<-F];have d5:∀t:T,t.g 0=.c (.f (sl g (fJ l)))->t.g 2=.c (.ptr 0 0 0)->t.g 3=.c (.ptr 1 0 0)->t.g 4=vi j->t.g 5=vi ts.length->t.g 6=.c (.ptr J.length 0 0)->
     WP tab 21 ab [.code pD,.inBlock 1,.code (uf 4 16 17),.inLoop oi,.inBlock 0,.code mP] ⟨t,[],E⟩ Q:=by
    intro t m v d g4 W g6;apply ai;by_cases h3:ts.length<3
    .simp[W,show(ts.length:Int)<3 by omega];refine au (by simp) (aq (.inl rfl) ?_);obtain⟨c',H',s,a8,hk⟩:=k1.new (by omega) p;simp only[aE.row,arf,art]at s;have Y:bJ (E++[.box [.f (sl p.hg (ints p.head)),.f (fi p.fr),.f (fi p.aH),.f (sl p.cg (ints p.aZ))] 0,.box [.sl E.length 0 1 1 0 4] 0]) 1 24 (.c ct) (.c (.sl (E.length+1) 0 1 1 0 1))=aa (.c c',H'):=by
      rw[<-s,arZ];rfl
     simp[d,g6,x,b7,-aD,Y,a8,-bC];refine ay (nx _ _ ⟨c',_,⟨M.new h3 c9,by rw[xx];simp;omega⟩,hk,by simp[m],by simp[v],by simp[d]⟩ (by simp[g4]))
    .simp[W,show¬ (ts.length:Int)<3 by omega];refine ba (by simp) ?_;refine ay (nx _ _ ⟨ct,ts,⟨M,by omega⟩,k1,by simp[m],by simp[v],by simp[d]⟩ (by simp[g4]))
   have w0:ah .i64 0=0:=by decide
   apply ai;rcases List.eq_nil_or_concat ts with rfl|⟨q,fs,rfl⟩
   .simp;refine aA (by simp) ?_;exact d5 _ (by simp[m]) (by simp[v]) (by simp[d]) (by simp[z]) (by simp) (by simp)
   rw[List.concat_eq_append]at *;have d7:=M.1;simp at d7;have h3:=(M.2 fs (by simp)).2.1;obtain⟨b,ep,c,O,A,u,c',H',s,c_,c6,H2,a8,k2⟩:=k1.more (by omega) p;simp only[aE.row,arf,art]at s;have U:ah .i64 (q.length:Int)=q.length:=aM;have f9:bF H' ab (.c (.ptr 1 0 0))=aa (.c ct):=by simp[bF,aK,c6,bf]
   have b_:(V.c ct).beq (.c ct)=ae:=by
    rcases k1.tl with⟨e,_⟩|⟨_,b,ep,cs,rfl,_⟩
    .simp at e
    .simp[V.beq,C.beq]
   have S:∀t:T,fs.length<3->t.g 0=.c (.f (sl g (fJ l)))->t.g 2=.c (.ptr 0 0 0)->t.g 3=.c (.ptr 1 0 0)->t.g 4=vi j->t.g 5=vi ((q.length:Int)+1)->t.g 6=.c (.ptr J.length 0 0)->
     WP tab 21 ab [.code tE,.inBlock 1,.code (uf 4 16 17),.inLoop oi,.inBlock 0,.code mP] ⟨t,[],E⟩ Q:=by
    intro t h3 m v d g4 W g6;refine eu (.inl rfl) ?_ ?_
    case refine_2=>
     intro c d_;have d9:c=(1,14):=by simpa using d_
     subst d9;refine⟨by decide,_,rfl,.inl ⟨by decide,?_⟩⟩;simp[d,W,g6,x,b7,O,A,U,s,c_,f9,fY,-aD];exact b_
    simp[d,W,g6,x,b7,O,A,U,s,c_,a8,-aD,-bC];refine ay (nx _ _ ⟨ct,_,⟨M.more h3 c9,by rw[xx]at c5 ⊢;simp;omega⟩,k2,by simp[m],by simp[v],by simp[d]⟩ (by simp[g4]))
   have K:∀t:T,t.g 0=.c (.f (sl g (fJ l)))->t.g 2=.c (.ptr 0 0 0)->t.g 3=.c (.ptr 1 0 0)->t.g 4=vi j->t.g 5=vi ((q.length:Int)+1)->t.g 6=.c (.ptr J.length 0 0)->
     WP tab 21 ab [.code pD,.inBlock 1,.code (uf 4 16 17),.inLoop oi,.inBlock 0,.code mP] ⟨t,[],E⟩ Q:=λt m v d g4 W g6=>d5 t m v d g4 (by rw[W];simp) g6
   by_cases I:a<128
   .by_cases X:fs.length<3
    .simp[m,d,z,ii,dd,B,I,x,-aD,U,O,A,u,show(fs.length:Int)<3 by omega,show(0:Int)<(q.length:Int)+1 by omega];refine au (by simp) ?_;exact S _ X (by simp[m]) (by simp[v]) (by simp[d]) (by simp[z]) (by simp) (by simp)
    .simp[m,d,z,ii,dd,B,I,x,-aD,U,O,A,u,show¬ (fs.length:Int)<3 by omega,show(0:Int)<(q.length:Int)+1 by omega];refine aA (by simp) ?_;exact K _ (by simp[m]) (by simp[v]) (by simp[d]) (by simp[z]) (by simp) (by simp)
   .by_cases h4:(q.length:Int)+1=3
    .by_cases X:fs.length<3
     .simp[m,d,z,ii,dd,B,I,x,-aD,U,O,A,u,show(fs.length:Int)<3 by omega,show(0:Int)<(q.length:Int)+1 by omega];rw[decide_eq_true h4];simp[d,x,-aD,U,O,A,u,show(fs.length:Int)<3 by omega];refine au (by simp) ?_;exact S _ X (by simp[m]) (by simp[v]) (by simp[d]) (by simp[z]) (by simp) (by simp)
     .simp[m,d,z,ii,dd,B,I,x,-aD,U,O,A,u,show¬ (fs.length:Int)<3 by omega,show(0:Int)<(q.length:Int)+1 by omega];rw[decide_eq_true h4];simp[d,x,-aD,U,O,A,u,show¬ (fs.length:Int)<3 by omega];refine aA (by simp) ?_;exact K _ (by simp[m]) (by simp[v]) (by simp[d]) (by simp[z]) (by simp) (by simp)
    .simp[m,d,z,ii,dd,B,I,h4,show(0:Int)<(q.length:Int)+1 by omega];refine aA (by simp) ?_;exact K _ (by simp[m]) (by simp[v]) (by simp[d]) (by simp[z]) (by simp) (by simp)
  rintro t J ⟨ct,ts,⟨M,c5⟩,k,m,v,d⟩ z;have h0:=av k.res;have a_:bF J (aa 1) (.c (.ptr 1 0 0))=aa (.a [ct]):=by simp[bF,aK,k.out,bf]
  have f_:dC J (.ptr 0 0 0) [ct]=aa (J.set 0 (.box [ct] 0)):=by simp[dC,k.res,bR]
  apply ai;simp[v,d,a_,f_,-aD,-bC];have kl:TL (J.set 0 (.box [ct] 0)) ct ts:=k.tl.bE (λi y hy hi _=>by rw[aq0 (Ne.symm hi)];exact hy) ⟨_,_,k.res⟩ ⟨_,_,k.out⟩;obtain⟨tg,e_⟩:=kl.ex 62;refine aB (hQ _ _ _ ⟨tg,_,⟨M,by omega⟩,rfl⟩ ⟨rfl,.a [ct],?_,?_⟩)
  .simp[Km.results,bQ,aX,v,h0,bf]
  .simp[jy,de,aX,deep,e_]
 exact⟨tg,ts,hm,hp.eq⟩
end Go.Proofs.YtgfdmhmmjbihiaaGreat
