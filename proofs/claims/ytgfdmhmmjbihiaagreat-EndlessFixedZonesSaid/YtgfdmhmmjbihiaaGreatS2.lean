/-
  ai9 sV ns km and sV mG answer, for all arguments of aaj kind, in sV small machine: part 2.
-/
import Derived.Test.YtgfdmhmmjbihiaaGreatS1
import Derived.Test.YtgfdmhmmjbihiaaGreatK5
import Derived.KernelRfl
import Derived.Test.YtgfdmhmmjbihiaaGreatK3
open Option renaming some->aa,none->ab
open Bool renaming true->ae,false->ag
open List renaming all_eq_true->ars, pairwise_iff_getElem->arR, getElem_mem->aq7, take_sublist->atS, length_take->arT, mem_take_iff_getElem->asa, getElem_of_mem->ary, length_pos_iff->arY, drop_zero->asp, mem_map->arx, mem_of_mem_take->ass, getElem?_append_left->aq1, getElem?_set_ne->aq0, getElem?_set_self->aq6, append_assoc->arZ, length_eq_zero_iff->asi, take_add_one->arD, getElem?_eq_getElem->aq2, take_length->arz, getElem?_append_right->arc, map_cons->arf, map_nil->art, length_drop->aru, drop_sublist->atT, mem_of_mem_drop->ar5, getElem_drop->asY, mem_of_getElem?->arh, getElem?_drop->arC, length_append->ara, mem_cons_self->arl, getElem_map->as2, length_set->arQ, length_filter_le->as8, filter_append->atD, mem_filter->asD, mem_append->ard, mem_singleton->arb, mem_append_left->ar4, pairwise_append->asT, pairwise_singleton->asE, flatten_cons->arv
open Bool renaming and_eq_true->aq3, eq_iff_iff->asX
open Nat renaming le_of_ble_eq_true->atr, mul_comm->as9, mul_le_mul_right->arL, add_mul->arF, lt_or_ge->arI, eq_zero_or_pos->asF, le_refl->aq9, min_eq_left->asK, mul_one->asZ, gcd->asn, le_trans->arB, zero_add->asd
open Int renaming fdiv_eq_ediv_of_nonneg->as6, lt_tmod_of_pos->as4, tmod_lt_of_pos->as3, tmod_eq_zero_of_dvd->atl, natCast_add->atn, add_mul->ati, le_refl->ar9, lt_or_le->asm, mul_comm->ar6, emod_eq_of_lt->arP, ediv_nonneg->arW, emod_add_mul_ediv->arn, dvd_refl->asw, ediv_le_self->asv, toNat_natCast->ar7, mul_sub->asM, mul_le_mul_of_nonneg_left->ari, mul_neg->as1, mul_one->atA, dvd_sub->asL, emod_nonneg->arJ, emod_lt_of_pos->arE, le_of_dvd->ar2, emod_emod_of_dvd->asc, gcd->arU, gcd_pos_of_ne_zero_left->asb, mul_nonneg->arS, mul_le_mul->asS, le_trans->ar1, mul_assoc->asC, mul_left_comm->asV, gcd_sub_mul_right_left->as7, zero_emod->aty, gcd_dvd_left->asR, gcd_dvd_right->asW, mul_ediv_cancel_left->aso, mul_le_mul_of_nonneg_right->arA, dvd_of_emod_eq_zero->asr, sub_emod->atG, add_emod->atV, emod_eq_zero_of_dvd->atk, natAbs_dvd_natAbs->atM, dvd_trans->ar3
open List.Pairwise renaming imp_of_mem->atB
open Option renaming map_some->arN
set_option linter.unusedVariables false
set_option linter.constructorNameAsVariable false
set_option linter.unusedSimpArgs false
set_option linter.unusedSectionVars false
set_option linter.unnecessarySimpa false
set_option maxRecDepth 100000
namespace Go.Proofs.YtgfdmhmmjbihiaaGreat
open Go Km
noncomputable def zT:C:=match qT with
 | .region [_,_,_,⟨_,.idxs (.k (.c s)) _,_⟩,_,_,_] _=>s| _=>.ptr 0 0 0
theorem KZ:qT=.region [mm 19 2,mm 20 0,nn 21 (.gG .u8 (R 20)),⟨D 22,.idxs (.k (.c zT)) (R 21),ab⟩,nn 23 (.gG .i64 (R 22)),nn 24 (.bin .add (R 19) (R 23)),mm 2 24] []:=rfl
theorem zU:((List.range 256).all λx=>match ud (.c zT) (.c (.f (.int .u8 x)))with
  |some (.c (.f (.int .u8 (.ofNat k))))=>Nat.ble k 8&&(Nat.beq x 0||Nat.ble (2 ^ k) (2*x))
  |_=>ag)=ae:=by kernel_rfl
theorem zW(x:Nat)(j:x<256):∃k:Nat,ud (.c zT) (.c (.f (.int .u8 x)))=aa (.c (.f (.int .u8 k)))/\k<=8/\(0<x->2 ^ k<=2*x):=by
 have g:=zU;rw[ars]at g;have b:=g x (List.mem_range.2 j);split at b
 .rename_i k e;rw[aq3,Bool.or_eq_true]at b;refine⟨k,e,atr b.1,λl=>?_⟩;rcases b.2 with d|d
  .have:=Nat.eq_of_beq_eq_true d;omega
  .exact atr d
 .cases b
theorem aoX{x:Int}:bL .shr (u64 x) (u64 16)=aa (u64 (x / 65536)):=by
 simp only[bL];rw[aR (by decide),show min (Int.toNat 16) IntKind.u64.bits=16 from rfl,as6 _ (by decide)];rfl
theorem aqg{x:Int}:bL .shr (u64 x) (u64 8)=aa (u64 (x / 256)):=by
 simp only[bL];rw[aR (by decide),show min (Int.toNat 8) IntKind.u64.bits=8 from rfl,as6 _ (by decide)];rfl
theorem Y7(x:Nat)(J:x<16777216):∃k:Nat,bH tab 142 [u64 x]=Eq (vi k)/\k<=62/\(0<x->2 ^ k<=2*x):=by
 obtain⟨r,⟨k,rfl,u,v⟩,F⟩:∃r,(∃k:Nat,r=vi k/\k<=62/\(0<x->2 ^ k<=2*x))/\bH tab 142 [u64 x] r:=by
  refine ey rfl rfl λQ A=>?_;apply ai;simp;have d:∀(t:T) (y n:Nat),t.g 0=u64 y->t.g 2=vi n->y<256->n<=24->y*2 ^ n<=x->(0<x->0<y)->WP tab 142 ab [.code wC] ⟨t,[],[]⟩ Q:=by
   intro t y n g l q E j b;obtain⟨k,B,K,m⟩:=zW y q;have s:IntKind.wrap .u8 (y:Int)=y:=alz (by omega) (by omega);apply an;rw[KZ];refine aq (.inl rfl) ?_;simp[g,l,s,B,aM (n:=(k:Int)),aM (n:=(n:Int)+k)];refine aB (A _ _ (vi (n+k:Nat)) ⟨n+k,rfl,by omega,λh=>?_⟩ (by simp));have z:=m (b h);have H:2 ^ n*2 ^ k<=2 ^ n*(2*y):=Nat.mul_le_mul_left _ z;rw[Nat.pow_add];have e:2 ^ n*(2*y)=2*(y*2 ^ n):=by rw[Nat.mul_left_comm,as9 (2 ^ n)]
   omega
  have mid:∀(t:T) (y n:Nat),t.g 0=u64 y->t.g 2=vi n->y<65536->n<=16->y*2 ^ n<=x->(0<x->0<y)->WP tab 142 ab [.code wB] ⟨t,[],[]⟩ Q:=by
   intro t y n g l q E j b;refine an (ai ?_);simp[g];by_cases h:256<=y
   .refine au (by simp;omega) ?_;apply ai;simp[g,aqg];refine aq (.inl rfl) ?_;simp[l,aM (n:=(n:Int)+8)];refine d _ (y / 256) (n+8) (by simp) (by simp) (by omega) (by omega) ?_ (by omega);have:y / 256*256<=y:=Nat.div_mul_le_self ..;have I:=arL (2 ^ n) this;rw[Nat.pow_add,show 2 ^ 8=256 from rfl,as9 (2 ^ n),<-Nat.mul_assoc];omega
   .refine aA (by simp;omega) (aJ ?_);exact d _ y n (by simp[g]) (by simp[l]) (by omega) (by omega) j b
  refine an (ai ?_);simp;refine aA (by simp;omega) (aJ ?_);refine an (ai ?_);simp;by_cases h:65536<=x
  .refine au (by simp;omega) ?_;apply ai;simp[aoX];refine aq (.inl rfl) ?_;simp;exact mid _ (x / 65536) 16 (by simp) (by simp;rfl) (by omega) (by omega) (Nat.div_mul_le_self ..) (by omega)
  .refine aA (by simp;omega) (aJ ?_);exact mid _ x 0 (by simp) (by simp) (by omega) (by omega) (by omega) (by omega)
 exact⟨k,F.eq,u,v⟩
theorem anX:X6 tab ez 16777215:=λL j=>by
 obtain⟨k,h,b,d⟩:=Y7 L (by omega);refine⟨k,bH.eq (bD rfl rfl λQ g=>?_),b,d⟩;apply ai;simp;apply an;refine ba (by simp) ?_;apply ai;simp[h];refine aB (g _ _ ?_);simp
theorem yB(n m:Int)(g:0<m)(j:m<=4611686018427387904):bH tab 222 [vi n,vi m]=Eq (vi (n % m)):=Kf.eq (by
 have u:=as4 n g;have v:=as3 n g;have b:bL .rem (vi n) (vi m)=aa (vi (n.tmod m)):=fQ (by omega);have e:n % m=if n.tmod m<0 then n.tmod m+m else n.tmod m:=by
  rw[Int.emod_eq_tmod];have l:((m.natAbs:Nat):Int)=m:=by omega
  by_cases h:0<=n\/m ∣ n
  .rw[bw h];rcases h with h|h
   .have:=Int.tmod_nonneg m h;rw[aR (by omega)];omega
   .rw[atl h];simp
  .rw[aR h];have q:n.tmod m≠0:=λk=>h (.inr (Int.dvd_of_tmod_eq_zero k));have s:n.tmod m<=0:=by
    have:=Int.tmod_nonneg m (show 0<=-n by omega);rw[Int.neg_tmod]at this;omega
   rw[bw (by omega)];omega
 refine dL rfl rfl λH Q d=>?_;apply ai;simp;refine an (ai ?_);simp[b];apply ai;by_cases k:n.tmod m<0
 .simp[k];refine au (by simp) (aq (.inl rfl) ?_);simp[aM (n:=n.tmod m+m)];apply ai;simp;refine aB (d _ _ ?_);simp[e,k]
 .simp[k];refine ba (by simp) ?_;apply ai;simp;refine aB (d _ _ ?_);simp[e,k])
theorem ZA:zm tab ez:=Km.Ord.zm.of (by kernel_rfl) (by kernel_rfl)
theorem aad{H:aj}{v:C}{l:List Int}(m:LR H v 1 (ints l))(j:l.length<=16777215) :
  ∃r d,Ev tab (.fn 78) [.c v] H r d/\(r=.t []/\Kb H d v/\∃g,LR d v 1 (ints g)/\g.Perm l/\g.Pairwise (·<=·)):=
 Km.Ord.aae (N:=16777215) Yc ZA (λa b H=>qq a b H) (by omega) anX m j
structure X_(l:List Int)(k:Nat)(d:Int):Prop where
 rep:∀i,k<=i->(h:i<l.length)->l[i]=l[i-k]'(by omega)+d
 last:∀h:k-1<l.length,l[k-1]<d
theorem BK{l:List Int}{k:Nat}{d:Int}(y:0<k)(v:X_ l k d):∀(t j:Nat),j<k->(h:t*k+j<l.length)->l[t*k+j]=l[j]'(Nat.lt_of_le_of_lt (Nat.le_add_left _ _) h)+t*d:=by
 intro t;induction t with
 |zero=>intro j b h;simp
 |succ t x=>
  intro j b h;have e:(t+1)*k+j=t*k+j+k:=by rw[arF];omega
  have q:t*k+j<l.length:=by omega
  have s:=v.rep (t*k+j+k) (by omega) (by omega);have u:=x j b q;have g:l[(t+1)*k+j]=l[t*k+j+k]'(by omega):=by congr 1
  have m:l[t*k+j+k-k]'(by omega)=l[t*k+j]:=by congr 1;omega
  rw[g,s,m,u,atn,ati];omega
theorem gN{l:List Int}(g:l.Pairwise (· < ·)){i j:Nat}(b:i<=j)(d:j<l.length):l[i]<=l[j]:=by
 rcases arI i j with h|h
 .exact Int.le_of_lt (arR.1 g i j (by omega) d h)
 .have:i=j:=by omega
  subst this;exact ar9 _
structure rk(aH:Int)(l:List Int)(yw:Int)(l':List Int):Prop where
 p1:1<=yw
 dvd:yw ∣ aH
 ne:l'≠[]
 len:l'.length<=l.length
 up:l'.Pairwise (· < ·)
 mem:∀x∈l',0<=x/\x<yw
 iff:∀r,0<=r->r<aH->(r∈l↔r % yw∈l')
theorem Ay{l:List Int}{aH d:Int}{k g:Nat}(J:l.Pairwise (· < ·))(N:∀x∈l,0<=x/\x<aH)(Y:1<=aH)(A:0<k)(E:l.length=g*k)(hd:aH=g*d)(I:X_ l k d)(c:0<l.length):rk aH l d (l.take k):=by
 have F:0<g:=by
  rcases asF g with h|h
  .rw[h,Nat.zero_mul]at E;omega
  .exact h
 have M:k<=l.length:=by rw[E];exact Nat.le_mul_of_pos_left k F
 have y:1<=d:=by
  rcases asm d 1 with h|h
  .have:=Int.mul_nonneg_of_nonpos_of_nonpos (a:=-(g:Int)) (b:=d) (by omega) (by omega);rw[Int.neg_mul]at this;omega
  .exact h
 have B:=I.last (by omega);have v:∀j,(h:j<k)->0<=l[j]'(by omega)/\l[j]'(by omega)<d:=λj h=>by
  have a:=(N _ (aq7 (l:=l) (n:=j) (by omega))).1;have b:=gN J (i:=j) (j:=k-1) (by omega) (by omega);exact⟨a,by omega⟩
 refine⟨y,⟨g,by rw[hd,ar6]⟩,?_,by simp;omega,J.sublist (atS k l),?_,?_⟩
 .intro h;have:=congrArg List.length h;rw[arT,List.length_nil]at this;omega
 .intro x S;obtain⟨j,L,rfl⟩:=asa.1 S;exact v j (by omega)
 .intro r W X;constructor
  .intro H;obtain⟨i,hi,rfl⟩:=ary H;have u:=Nat.div_add_mod i k;have q:=Nat.mod_lt i A;have Z:i / k*k+i % k=i:=by rw[as9];exact u
   have s:=BK A I (i / k) (i % k) q (by omega);have e:l[i / k*k+i % k]'(by omega)=l[i]:=by congr 1
   rw[e]at s;obtain⟨a,b⟩:=v (i % k) q;rw[s,Int.add_mul_emod_self_right,arP a b];exact asa.2 ⟨i % k,by omega,rfl⟩
  .intro H;obtain⟨j,L,e⟩:=asa.1 H;have z:j<k:=by omega
   have U:0<=r / d:=arW W (by omega);have f:r / d<g:=Int.ediv_lt_of_lt_mul (by omega) (by rw[<-hd];exact X);obtain⟨t,O⟩:∃t:Nat,(t:Int)=r / d:=⟨(r / d).toNat,Int.toNat_of_nonneg U⟩
   have Q:t<g:=by omega
   have m:t*k+j<l.length:=by
    rw[E];have:(t+1)*k<=g*k:=arL k (by omega);rw[arF]at this;omega
   have s:=BK A I t j z m;have K:=arn r d;rw[e,O]at s;have:l[t*k+j]=r:=by rw[s,ar6];exact K
   exact this▸aq7 m
theorem Ax{l:List Int}{aH:Int}(j:l.Pairwise (· < ·))(g:∀x∈l,0<=x/\x<aH)(b:1<=aH)(d:0<l.length):rk aH l aH l:=
 ⟨b,asw _,arY.1 d,aq9 _,j,g,λr m q=>by rw[arP m q]⟩
theorem agO(g:Tg)(l:List Int)(aH:Int)(q:Nat)(H:aj)(h0:H[0]?=aa (.box [.f (fi aH)] 0))(N:H[1]?=aa (.box [.f (sl g (ints l))] 0))(O:H[2]?=aa (.box [.f (fi l.length)] 0))
  (c_:1<=aH) (d5:aH<=4611686018427387904) (hl:l.length<=1000000) (W:∀x∈l,0<=x/\x<aH) (d6:1<=q) (X:q<=l.length) :
  ∃r f,Ev tab (.fn 204) [vi q,.c (.ptr 0 0 0),.c (.ptr 2 0 0),.c (.ptr 1 0 0)] H r f/\(∃b,r=vb b/\f=H/\(b=ae->X_ l (l.length / q) (aH / q))):=by
 obtain⟨d,hd⟩:=aQ (aH / (q:Int));obtain⟨k,I⟩:=aQ (l.length / q);have a_:0<=d:=by rw[hd];exact arW (by omega) (by omega)
 have b7:d<=aH:=by rw[hd];exact asv _ (by omega)
 have c6:1<=k:=by rw[I];exact Nat.div_pos X (by omega)
 have U:k<=l.length:=by rw[I];exact Nat.div_le_self _ _
 have Y:bL .quo (vi aH) (vi q)=aa (vi d):=by rw[eB (by omega) (by omega) (by omega),hd]
 have Z:bL .quo (vi l.length) (vi q)=aa (vi k):=by rw[eB (by omega) (by omega) (by omega),I];rfl
 refine cz rfl rfl λQ p=>?_;apply ai;simp;apply ai;simp[h0,O,Y,Z];apply an;apply ai;simp;refine az ?_;refine bT (λm s=>∃(i:Nat) (t:T),s=⟨t,[],H⟩/\m=l.length-i/\k<=i/\i<=l.length/\t.g 1=.c (.ptr 0 0 0)/\t.g 2=.c (.ptr 2 0 0)/\t.g 3=.c (.ptr 1 0 0)/\t.g 6=vi d/\t.g 7=vi k/\t.g 8=vi i/\
  ∀j,k<=j->j<i->(h:j<l.length)->l[j]=l[j-k]'(by omega)+d) (l.length-k)
  ⟨k,_,rfl,rfl,by omega,U,by simp,by simp,by simp,by simp,by simp,by simp,λj N O=>by omega⟩ ?_
 rintro m s ⟨i,t,rfl,rfl,c9,c5,w,o,J,K,L,M,z⟩ ih;apply an;apply ai;simp[o,M,O];by_cases v:i<l.length
 .refine au (by simp[v]) (aJ ?_);apply an;refine az ?_;have a8:=W _ (aq7 v);have E:i-k<l.length:=by omega
  have S:=W _ (aq7 E);have u:=λH:aj=>bO (H:=H) (g:=g) (rows:=ints l) (sz:=1) (k:=.i64) (i:=(i:Int)) (by omega) (by simp[ints];omega);have F:=λH:aj=>bO (H:=H) (g:=g) (rows:=ints l) (sz:=1) (k:=.i64) (i:=((i:Int)-k)) (by omega) (by simp[ints];omega);have B:=λH:aj=>dJ (H:=H) v;have c:=λH:aj=>dJ (H:=H) E;simp at u F;apply ai;simp[J,K,L,M,N,u,B,aM (n:=(i:Int)-k),F,c,aM (n:=l[i-k]+d)];by_cases A:l[i]=l[i-k]+d
  .refine ba (by simp[A]) ?_;refine ay (aq (.inl rfl) ?_);simp[M,aM (n:=(i:Int)+1)];refine ih (l.length-(i+1)) _ (by omega) ⟨i+1,_,rfl,rfl,by omega,by omega,by simp[w],by simp[o],by simp[J],by simp[K],by simp[L],by simp,λj a b h=>?_⟩;by_cases e:j=i
   .subst e;exact A
   .exact z j a (by omega) h
  .refine au (by simp[A]) ?_;apply ai;simp;exact aB (p _ _ _ rfl (cV (by simp)) ⟨ag,rfl,rfl,by simp⟩)
 .have b_:i=l.length:=by omega
  refine aA (by simp[v]) ?_;refine aS rfl ?_;have y:k-1<l.length:=by omega
  have S:=W _ (aq7 y);have u:=λH:aj=>bO (H:=H) (g:=g) (rows:=ints l) (sz:=1) (k:=.i64) (i:=((k:Int)-1)) (by omega) (by simp[ints];omega);have B:=λH:aj=>dJ (H:=H) y;simp at u;apply ai;simp[J,K,L,N,u,B,aM (n:=(k:Int)-1)];refine aB (p _ _ _ rfl (cV (by simp)) ⟨decide (l[k-1]<d),rfl,rfl,λhb=>?_⟩);rw[<-I,<-hd];exact⟨λj a h=>z j a (by omega) h,λ_=>by simpa using hb⟩
theorem ahs{H:aj}{sz:Nat}{g:Tg}{rows:List (List FC)}{m:Nat}(u:cd sz rows)(z:m<=rows.length)(v:rows≠[]) :
  bS H sz (.c (.f (sl g rows))) ab (aa (vi m)) ab=aa (.c (.f (sl .fs (rows.take m)))):=by
 cases rows with
 |nil=>exact absurd rfl v
 |cons x r=>
  have b:yX (vi m) (x::r).length=aa m:=by
   have:(0:Int)<=(m:Int)/\(m:Int)<=((x::r).length:Int):=⟨by omega,by omega⟩
   show(if(0:Int)<=(m:Int)/\(m:Int)<=((x::r).length:Int)then aa (m:Int).toNat else ab)=aa m;rw[bw this,ar7]
  have j:bM (x::r).length (x::r).length ab (aa (vi m)) ab=aa (0,m,(x::r).length):=by
   simp only[List.length_cons]at b;simp[bM,b]
  show bS H sz (.c (.f (.fs (x::r).flatten (x::r).length))) _ _ _=_;simp only[bS,j];have l:((x::r).flatten.drop (0*sz)).take ((m-0)*sz)=((x::r).take m).flatten:=by
   rw[Nat.zero_mul,asp,Nat.sub_zero,qf m u]
  have d:((x::r).take m).length=m:=by rw[arT];omega
  rw[l];have s:sl .fs ((x::r).take m)=.fs ((x::r).take m).flatten (m-0):=by
   rw[Nat.sub_zero];cases hd:(x::r).take m with
   |nil=>rw[hd]at d;simp at d;rw[<-d];rfl| cons y q=>rw[hd]at d;rw[<-d];rfl
  rw[s];simp
theorem uj(l:List Int)(k:Nat):(ints l).take k=ints (l.take k):=by simp[ints,List.map_take]
theorem Bh{l:List Int}(h:0<l.length):ints l≠[]:=by cases l with
 |nil=>simp at h| cons a l=>simp[ints]
theorem Az(g:Tg)(l:List Int)(aH:Int)(E:1<=aH)(a8:aH<=4611686018427387904)(B:0<l.length)(hl:l.length<=1000000)(M:l.Pairwise (· < ·))(X:∀x∈l,0<=x/\x<aH) :
  ∃j g' F,rk aH l j F/\bH tab 155 [vi aH,.c (.f (sl g (ints l)))]=Eq (.t [vi j,.c (.f (sl g' (ints F)))]):=by
 have key:∃r,(∃j g' F,rk aH l j F/\r=.t [vi j,.c (.f (sl g' (ints F)))])/\bH tab 155 [vi aH,.c (.f (sl g (ints l)))] r:=by
  refine ey rfl rfl λQ hQ=>?_;apply ai;simp;apply ai;simp;apply ai;simp;apply an;apply ai;simp;obtain⟨H,N⟩:=aQ ([.box [.f (fi aH)] 0,.box [.f (sl g (ints l))] 0,.box [.f (fi l.length)] 0]:aj);have K:H[0]?=aa (.box [.f (fi aH)] 0):=by rw[N];rfl
  have U:H[1]?=aa (.box [.f (sl g (ints l))] 0):=by rw[N];rfl
  have L:H[2]?=aa (.box [.f (fi l.length)] 0):=by rw[N];rfl
  rw[<-N];refine az ?_;refine bT (λm s=>∃t:T,s=⟨t,[],H⟩/\1<=m/\m<=l.length/\t.g 2=.c (.ptr 0 0 0)/\t.g 3=.c (.ptr 1 0 0)/\t.g 6=.c (.ptr 2 0 0)/\t.g 7=.c (.cl 204 [.ptr 0 0 0,.ptr 2 0 0,.ptr 1 0 0])/\t.g 8=vi m) l.length
   ⟨_,rfl,by omega,aq9 _,by simp,by simp,by simp,by simp,by simp⟩ ?_
  rintro m s ⟨t,rfl,Y,Z,q,z,v,J,u⟩ ih;apply an;apply ai;simp[u];by_cases c6:1<m
  .refine au (by simp;omega) (aJ ?_);apply an;refine az ?_;have next:∀I:T,I.g 2=.c (.ptr 0 0 0)->I.g 3=.c (.ptr 1 0 0)->I.g 6=.c (.ptr 2 0 0)->I.g 7=.c (.cl 204 [.ptr 0 0 0,.ptr 2 0 0,.ptr 1 0 0])->I.g 8=vi m->
     WP tab 155 ab [.code tC,.inLoop tB,.inBlock 0,.code tD] ⟨I,[],H⟩ Q:=by
    intro I q z v J u;refine aq (.inl rfl) ?_;simp[u,aM (n:=(m:Int)-1)];exact ih (m-1) _ (by omega) ⟨_,rfl,by omega,by omega,by simp[q],by simp[z],by simp[v],by simp[J],by simp;omega⟩
   have q1:bL .rem (vi l.length) (vi m)=aa (vi ((l.length % m:Nat):Int)):=by rw[dY (by omega) (by omega)];rfl
   have q2:bL .rem (vi aH) (vi m)=aa (vi (aH % m)):=dY (by omega) (by omega);by_cases k1:l.length % m=0
   .by_cases k2:aH % (m:Int)=0
    .obtain⟨r,H',A,b,rfl,rfl,hb⟩:=agO g l aH m H K U L E a8 hl X Y Z;have A:=A.eq;apply ai;simp[q,v,J,u,K,L,q1,q2,k1,k2,bX,A];cases b with
     |false=>
      refine aA (by simp) (aJ (ay ?_));exact next _ (by simp[q]) (by simp[z]) (by simp[v]) (by simp[J]) (by simp[u])
     |true=>
      obtain⟨d,hd⟩:=aQ (aH / (m:Int));obtain⟨k,O⟩:=aQ (l.length / m);have S:=hb rfl;rw[<-hd,<-O]at S;have e1:l.length=m*k:=by rw[O];have:=Nat.div_add_mod l.length m;omega
      have e2:aH=m*d:=by rw[hd];have:=arn aH m;omega
      have W:0<k:=by
       rcases asF k with h|h
       .rw[h,Nat.mul_zero]at e1;omega
       .exact h
      have c5:k<=l.length:=by rw[O];exact Nat.div_le_self _ _
      have a_:bL .quo (vi aH) (vi m)=aa (vi d):=by rw[eB (by omega) (by omega) (by omega),hd]
      have b7:bL .quo (vi l.length) (vi m)=aa (vi k):=by rw[eB (by omega) (by omega) (by omega),O];rfl
      have y:=λH:aj=>ahs (H:=H) (g:=g) (m:=k) (Km.Ord.cr l) (by simp[ints];omega) (Bh B);simp only[uj]at y;refine au (by simp) ?_;apply ai;simp[q,z,v,u,K,U,L,a_,b7,y];refine aB (hQ _ _ _ ⟨d,.fs,l.take k,Ay M X E W e1 e2 S B,rfl⟩ ?_);simp
    .apply ai;simp[q,v,u,K,L,q1,q2,k1,k2];refine aA (by simp) (aJ (ay ?_));exact next _ (by simp[q]) (by simp[z]) (by simp[v]) (by simp[J]) (by simp[u])
   .have b_:¬ ((l.length:Int) % (m:Int)=0):=by rw[<-Int.natCast_emod];omega
    apply ai;simp[q,v,u,K,L,q1,b_];refine aA (by simp) (aJ (ay ?_));exact next _ (by simp[q]) (by simp[z]) (by simp[v]) (by simp[J]) (by simp[u])
  .refine aA (by simp;omega) ?_;refine aS rfl ?_;apply ai;simp[q,z,K,U];refine aB (hQ _ _ _ ⟨aH,g,l,Ax M X E B,rfl⟩ ?_);simp
 obtain⟨r,⟨j,g',F,S,rfl⟩,h⟩:=key;exact⟨j,g',F,S,h.eq⟩
def qZ(fr aH:Int)(aZ:List Int)(d:Int):Prop:=(d-fr) % aH∈aZ
structure lU(hd:List Int)(fr aH:Int)(aZ:List Int)(m:Nat)(T base:Int)(j:Nat):Prop where
 ml:m<=hd.length
 tf:T<=fr
 lo:∀i,(h:i<hd.length)->i<m->hd[i]<T
 hi:∀i,(h:i<hd.length)->m<=i->T<=hd[i]
 iff:∀d,T<=d->d<fr->(d∈hd↔qZ fr aH aZ d)
 bs:aH ∣ base-fr
 jl:j<aZ.length
 nx:∀d,d<T->qZ fr aH aZ d->d<=base+aZ[j]
 bt:base+aZ[j]<T
section
variable{hd aZ:List Int}{fr aH:Int}
theorem ox(m:1<=aH)(l:∀x∈aZ,0<=x/\x<aH){base:Int}(j:aH ∣ base-fr)(d:Int):qZ fr aH aZ d↔∃c∈aZ,∃t:Int,d=base+c+aH*t:=by
 unfold qZ;constructor
 .intro h;obtain⟨k,g⟩:=j;have e:=arn (d-fr) aH;refine⟨_,h,(d-fr) / aH-k,?_⟩;rw[asM,<-g];omega
 .rintro⟨c,b,t,rfl⟩;obtain⟨k,g⟩:=j;have:(base+c+aH*t-fr) % aH=c:=by
   have e:base+c+aH*t-fr=c+aH*(k+t):=by rw[Int.mul_add,<-g];omega
   rw[e,Int.add_mul_emod_self_left,arP (l c b).1 (l c b).2]
  rw[this];exact b
theorem Bw{aH t:Int}(b:1<=aH):(t<=-1/\aH*t<=-aH)\/(t=0/\aH*t=0)\/(1<=t/\aH<=aH*t):=by
 rcases Int.lt_trichotomy t 0 with h|h|h
 .left;have:=ari (show t<=-1 by omega) (show 0<=aH by omega);rw[as1,atA]at this;exact⟨by omega,this⟩
 .exact .inr (.inl ⟨h,by rw[h,Int.mul_zero]⟩)
 .right;right;have:=ari (show 1<=t by omega) (show 0<=aH by omega);rw[atA]at this;exact⟨by omega,this⟩
theorem lU.start(m:1<=aH)(hc:∀x∈aZ,0<=x/\x<aH)(g:aZ.Pairwise (· < ·))(q:∀x∈hd,x<fr)(hl:0<aZ.length):lU hd fr aH aZ hd.length fr (fr-aH) (aZ.length-1) where
 ml:=aq9 _
 tf:=ar9 _
 lo:=λi h _=>q _ (aq7 h)
 hi:=λi h s=>by omega
 iff:=λd h1 h2=>by omega
 bs:=⟨-1,by rw[as1,atA];omega⟩
 jl:=by omega
 nx:=λd h1 h2=>by
  obtain⟨c,b,t,rfl⟩:=(ox m hc (base:=fr-aH) ⟨-1,by rw[as1,atA];omega⟩ d).1 h2;obtain⟨i,hi,rfl⟩:=ary b;have:=gN g (i:=i) (j:=aZ.length-1) (by omega) (by omega);have h3:=hc _ (aq7 hi);rcases Bw (t:=t) m with h|h|h<;>omega
 bt:=by have:=hc _ (aq7 (l:=aZ) (n:=aZ.length-1) (by omega));omega
theorem lU.off{m:Nat}{T base:Int}{j:Nat}(h:lU hd fr aH aZ (m+1) T base j)(g:hd.Pairwise (· < ·))(F:1<=aH)(hc:∀x∈aZ,0<=x/\x<aH)(s:m<hd.length)(B:hd[m]=base+aZ[j]'(h.jl)){b:Int}{u:Nat}(A:u<aZ.length)
  (v:aH ∣ b-fr) (E:∀d,d<hd[m]->qZ fr aH aZ d->d<=b+aZ[u]) (H:b+aZ[u]<hd[m]):lU hd fr aH aZ m hd[m] b u where
 ml:=by have:=h.ml;omega
 tf:=by have:=h.bt;have:=h.tf;omega
 lo:=λi hi l=>arR.1 g i m hi s l
 hi:=λi hi l=>gN g l hi
 iff:=λd h1 h2=>by
  rcases asm d T with k|k
  .by_cases e:d=hd[m]
   .rw[e];refine⟨λ_=>?_,λ_=>aq7 s⟩;rw[B];exact(ox F hc h.bs _).2 ⟨aZ[j]'(h.jl),aq7 h.jl,0,by rw[Int.mul_zero];omega⟩
   .constructor
    .intro z;obtain⟨i,hi,rfl⟩:=ary z;rcases arI i (m+1)with q|q
     .have:=gN g (i:=i) (j:=m) (by omega) s;omega
     .have:=h.hi i hi q;omega
    .intro y;have:=h.nx d k y;omega
  .exact h.iff d k h2
 bs:=v
 jl:=A
 nx:=E
 bt:=H
theorem lU.down{m:Nat}{T base:Int}{j:Nat}(h:lU hd fr aH aZ (m+1) T base (j+1))(s:hd.Pairwise (· < ·))(b:aZ.Pairwise (· < ·))(v:1<=aH)(hc:∀x∈aZ,0<=x/\x<aH)(u:m<hd.length)(A:hd[m]=base+aZ[j+1]'(h.jl)):lU hd fr aH aZ m hd[m] base j:=by
 have y:=h.jl;have B:=arR.1 b j (j+1) (by omega) y (by omega);refine h.off s v hc u A (by omega) h.bs (λd z g=>?_) (by omega);obtain⟨c,l,t,rfl⟩:=(ox v hc h.bs d).1 g;obtain⟨i,hi,rfl⟩:=ary l;have h3:=hc _ (aq7 hi);have E:=hc _ (aq7 y);have F:=hc _ (aq7 (show j<aZ.length by omega));rcases Bw (t:=t) v with q|q|q
 .omega
 .rcases arI j i with r|r
  .have:=gN b (i:=j+1) (j:=i) (by omega) hi;omega
  .have:=gN b r (show j<aZ.length by omega);omega
 .omega
theorem lU.wrap{m:Nat}{T base:Int}(h:lU hd fr aH aZ (m+1) T base 0)(u:hd.Pairwise (· < ·))(b:aZ.Pairwise (· < ·))(y:1<=aH)(hc:∀x∈aZ,0<=x/\x<aH)(v:m<hd.length)(A:hd[m]=base+aZ[0]'(h.jl)):lU hd fr aH aZ m hd[m] (base-aH) (aZ.length-1):=by
 have B:=h.jl;have g:aH ∣ base-aH-fr:=by
  have:=asL h.bs (asw aH);rwa[show base-fr-aH=base-aH-fr by omega]at this
 have E:=hc _ (aq7 B);have F:=hc _ (aq7 (show aZ.length-1<aZ.length by omega));refine h.off u y hc v A (by omega) g (λd z l=>?_) (by omega);obtain⟨c,s,t,rfl⟩:=(ox y hc h.bs d).1 l;obtain⟨i,hi,rfl⟩:=ary s;have h3:=hc _ (aq7 hi);have H:=gN b (i:=0) (j:=i) (by omega) hi;have I:=gN b (i:=i) (j:=aZ.length-1) (by omega) (by omega);rcases Bw (t:=t) y with q|q|q<;>omega
structure Stop(hd:List Int)(fr aH:Int)(aZ:List Int)(m:Nat)(s:Int):Prop where
 ml:m<=hd.length
 s0:0<=s
 sf:s<=fr
 lo:∀i,(h:i<hd.length)->i<m->hd[i]<s
 hi:∀i,(h:i<hd.length)->m<=i->s<=hd[i]
 iff:∀d,s<=d->d<fr->(d∈hd↔qZ fr aH aZ d)
theorem lU.stop{m:Nat}{T base:Int}{j:Nat}(h:lU hd fr aH aZ m T base j)(z:hd.Pairwise (· < ·))(h0:∀x∈hd,0<=x)(F:0<=fr){last s:Int}(b:(m=0/\last = -1)\/∃l:m-1<hd.length,0<m/\last=hd[m-1])
  (J:(base+aZ[j]'(h.jl)<0/\last<0/\s=0)\/(¬ (base+aZ[j]'(h.jl)<0/\last<0)/\base+aZ[j]'(h.jl)≠last/\s=max (base+aZ[j]'(h.jl)) last+1)):Stop hd fr aH aZ m s:=by
 have E:=h.bt;have K:=h.tf;have I:last<T\/last = -1:=by
  rcases b with⟨_,e⟩|⟨l,h1,e⟩
  .exact .inr e
  .rw[e];exact .inl (h.lo _ l (by omega))
 have v:∀i,(hi:i<hd.length)->i<m->hd[i]<=last:=λi hi g=>by
  rcases b with⟨e,_⟩|⟨l,h1,e⟩
  .omega
  .rw[e];exact gN z (by omega) l
 rcases J with⟨L,M,rfl⟩|⟨L,M,rfl⟩
 .have A:m=0:=by
   rcases b with⟨e,_⟩|⟨l,h1,e⟩
   .exact e
   .have:=h0 _ (aq7 l);omega
  subst A;refine⟨by omega,by omega,F,λi hi g=>by omega,λi hi _=>h0 _ (aq7 hi),λd B y=>?_⟩;rcases asm d T with q|q
  .constructor
   .intro u;obtain⟨i,hi,rfl⟩:=ary u;have:=h.hi i hi (by omega);omega
   .intro hc;have:=h.nx d q hc;omega
  .exact h.iff d q y
 .have H:-1<=last:=by
   rcases b with⟨_,e⟩|⟨l,h1,e⟩
   .omega
   .have:=h0 _ (aq7 l);omega
  refine⟨h.ml,by omega,by omega,λi hi g=>by have:=v i hi g;omega,λi hi g=>by have:=h.hi i hi g;omega,λd B y=>?_⟩;rcases asm d T with q|q
  .constructor
   .intro u;obtain⟨i,hi,rfl⟩:=ary u;rcases arI i m with r|r
    .have:=v i hi r;omega
    .have:=h.hi i hi r;omega
   .intro hc;have:=h.nx d q hc;omega
  .exact h.iff d q y
end
structure lP(p q:aE):Prop where
 ok:cm q=ae
 fr:q.fr<=p.fr
 aH:q.aH ∣ p.aH
 mem:∀d,0<=d->bz q d=bz p d
def eF(fr s aH:Int)(aZ:List Int):List Int:=aZ.map λc=>(fr+c-s) % aH
theorem qO{p:aE}(m:0<=p.fr)(q:p.fr<=1099511627776)(s:1<=p.aH)(u:p.aH<=1099511627776)(z:p.head.length+p.aZ.length<=1048576)(v:p.head.Pairwise (· < ·))(g:∀x∈p.head,0<=x/\x<p.fr)(y:p.aZ.Pairwise (· < ·))(j:∀x∈p.aZ,0<=x/\x<p.aH):cm p=ae:=by
 have a:=nu (limit:=p.fr) (last:=-1) (l:=p.head) (λx d=>⟨by have:=g x d;omega,(g x d).2⟩) v;have b:=nu (limit:=p.aH) (last:=-1) (l:=p.aZ) (λx d=>⟨by have:=j x d;omega,(j x d).2⟩) y;simp only[cm,a,b,Bool.and_true,aq3,decide_eq_true_eq];exact⟨⟨⟨⟨m,q⟩,s⟩,u⟩,by omega⟩
theorem YO{fr s aH c d:Int}(l:0<=c/\c<aH)(j:0<=d/\d<aH)(h:(fr+c-s) % aH=(fr+d-s) % aH):c=d:=by
 have g:=(oT (a:=fr+c-s) (b:=fr+d-s) (n:=aH)).1 h;rw[show fr+c-s-(fr+d-s)=c-d by omega]at g;obtain⟨k,m⟩:=g;rcases Bw (aH:=aH) (t:=k) (by omega)with q|q|q<;>omega
theorem sP{fr s aH:Int}{aZ:List Int}(q:1<=aH)(l:∀x∈aZ,0<=x/\x<aH)(d:Int):(d-s) % aH∈eF fr s aH aZ↔qZ fr aH aZ d:=by
 unfold eF qZ;rw[arx];constructor
 .rintro⟨c,g,h⟩;have j:=(oT (a:=fr+c-s) (b:=d-s) (n:=aH)).1 h;rw[show fr+c-s-(d-s) = -(d-fr-c) by omega,Int.dvd_neg]at j;have m:=(an9 (l c g).1 (l c g).2).2 j;rw[m];exact g
 .intro h;refine⟨_,h,?_⟩;rw[oT];have e:=arn (d-fr) aH;exact⟨-((d-fr) / aH),by rw[as1];omega⟩
theorem nI{fr s aH:Int}{aZ g:List Int}(B:1<=aH)(q:aZ.Pairwise (· < ·))(u:∀x∈aZ,0<=x/\x<aH)(d:g.Perm (eF fr s aH aZ))(l:g.Pairwise (·<=·)):g.Pairwise (· < ·)/\(∀x∈g,0<=x/\x<aH)/\g.length=aZ.length:=by
 have m:(eF fr s aH aZ).Nodup:=by
  unfold eF;rw[List.nodup_iff_pairwise_ne,List.pairwise_map];refine atB ?_ q;intro a b v z y e;have:=YO (u a v) (u b z) e;omega
 have j:g.Nodup:=d.nodup_iff.2 m;refine⟨?_,λx A=>?_,by rw[d.length_eq];simp[eF]⟩
 .have:=List.Pairwise.and l (List.nodup_iff_pairwise_ne.1 j);exact List.Pairwise.imp (λh=>by omega) this
 .have:=d.mem_iff.1 A;unfold eF at this;obtain⟨c,-,rfl⟩:=arx.1 this;exact⟨arJ _ (by omega),arE _ (by omega)⟩
theorem J9{p:aE}(M:cm p=ae){b:Int}{g:List Int}(j:rk p.aH p.aZ b g){m:Nat}{s:Int}(u:Stop p.head p.fr b g m s){v:List Int}(l:v.Perm (eF p.fr s b g))(y:v.Pairwise (·<=·))(K H:Tg) :
  lP p ⟨K,p.head.take m,s,b,H,v⟩:=by
 obtain⟨W,X,Y,Z,c,I,J,e,f⟩:=aY M;obtain⟨Q,S,U⟩:=nI j.p1 j.up j.mem l y;have N:b<=p.aH:=ar2 (by omega) j.dvd;have E:=j.len;have L:=u.ml;have A:=u.sf;have z:=u.s0;refine⟨qO z (by show s<=_;omega) j.p1 (by show b<=_;omega) (by show(p.head.take m).length+v.length<=_;rw[arT,U];omega) (I.sublist (atS _ _)) (λx O=>?_) Q S,A,j.dvd,λd hd=>?_⟩
 .obtain⟨i,hi,rfl⟩:=asa.1 O;have a:=J _ (aq7 (show i<p.head.length by omega));exact⟨by omega,u.lo i (by omega) (by omega)⟩
 .have q:∀d,p.fr<=d->((d-p.fr) % p.aH∈p.aZ↔qZ p.fr b g d):=λd hd=>by
   have:=j.iff ((d-p.fr) % p.aH) (arJ _ (by omega)) (arE _ (by omega));rw[this,asc _ j.dvd];rfl
  have F:(d-s) % b∈v↔qZ p.fr b g d:=by rw[l.mem_iff];exact sP j.p1 j.mem d
  unfold bz;simp only;by_cases k:s<=d
  .rw[bw k];by_cases B:p.fr<=d
   .rw[bw B];apply decide_eq_decide.2;rw[F,q d B]
   .rw[aR B];apply decide_eq_decide.2;rw[F,u.iff d k (by omega)]
  .rw[aR k,aR (by omega)];apply decide_eq_decide.2;constructor
   .exact λh=>ass h
   .intro h;obtain⟨i,hi,rfl⟩:=ary h;refine asa.2 ⟨i,?_,rfl⟩;rcases arI i m with r|r
    .omega
    .have:=u.hi i hi r;omega
theorem J8{p:aE}(A:cm p=ae)(y:p.aZ=[]){s:Int}(u:(p.head=[]/\s=0)\/∃h:p.head.length-1<p.head.length,s=p.head[p.head.length-1]+1)(z v:Tg):lP p ⟨z,p.head,s,1,v,[]⟩:=by
 obtain⟨B,E,F,H,I,m,q,J,K⟩:=aY A;have b:∀x∈p.head,0<=x/\x<s:=λx l=>by
  have a:=q x l;rcases u with⟨e,-⟩|⟨h,e⟩
  .rw[e]at l;simp at l
  .obtain⟨i,hi,rfl⟩:=ary l;have:=gN m (i:=i) (j:=p.head.length-1) (by omega) h;omega
 have g:0<=s/\s<=p.fr:=by
  rcases u with⟨e,rfl⟩|⟨h,e⟩
  .omega
  .have:=q _ (aq7 h);omega
 refine⟨qO g.1 (by show s<=_;omega) (ar9 _) (show(1:Int)<=1099511627776 by decide) (by simp;omega) m b List.Pairwise.nil (by simp),g.2,Int.one_dvd _,λd hd=>?_⟩;unfold bz;simp only[y];by_cases k:s<=d
 .rw[bw k];have:d ∉ p.head:=λh=>by have:=b d h;omega
  split<;>simp[this]
 .rw[aR k,aR (by omega)]
theorem lC{tab:TB}{fn:Nat}{k:List cO}{t:T}{ds:List fL}{H:aj}{Q:Option ax->St->Prop}{s:Option Nat}{b q d:Nat}{u:T}{ps:List P}{l bd:ax}{st:dt}{j:Nat}(v:H[b]?=aa (.lp q u ps l bd st (aa (.exit j)) d))(g:st≠.busy)
  (h:WP tab fn s (.code (.exit j)::k) ⟨t,ds,H.set b (.lp q u ps l bd .exhausted (aa (.exit j)) d)⟩ Q):WP tab fn s (.iZ b::k) ⟨t,ds,H⟩ Q:=by
 refine gT h λm d n=>?_;simp only[run,v,aR g]
theorem xf(x:FC)(H:aj):∃r b,Ev tab (.fn 156) [.c (.f x)] H r b/\(r=.c (.cl 205 [.ptr H.length 0 0])/\b=H++[.box [.f x] 0]):=by
 refine cz rfl rfl λQ d=>?_;apply ai;simp;apply ai;simp;exact aB (d _ _ _ rfl (cV (by simp)) ⟨rfl,rfl⟩)
theorem xh{b bx:Nat}{g:Tg}{l:List Int}{PP:Nat->aj->Prop}{EX:aj->Prop}(W:l.length<=1000000)(u:∀i H,PP i H->∃a,H[bx]?=aa (.box [.f (sl g (ints l))] a)){H:aj}(I:PP l.length H)
  (S:∀i (h:i<l.length) H,PP (i+1) H->∃r d,Ev tab (.yield b) [vi i,vi l[i]] H r d/\((r=vb ae/\PP i d)\/(r=vb ag/\EX d))) :
  ∃r d,Ev tab (.fn 205) [.c (.yl b),.c (.ptr bx 0 0)] H r d/\(r=.t []/\(PP 0 d\/EX d)):=by
 refine cz rfl rfl λQ K=>?_;obtain⟨a,z⟩:=u _ _ I;apply ai;simp[z,aM (n:=(l.length:Int)-1)];refine az ?_;refine bT (λm s=>∃(t:T) (J:aj),s=⟨t,[],J⟩/\m<=l.length/\t.g 0=.c (.yl b)/\t.g 1=.c (.ptr bx 0 0)/\t.g 3=vi ((m:Int)-1)/\PP m J) l.length
  ⟨_,H,rfl,aq9 _,by simp,by simp,by simp,I⟩ ?_
 rintro m s ⟨t,J,rfl,X,A,B,q,E⟩ U;apply an;apply ai;simp[q];by_cases N:0<m
 .obtain⟨i,rfl⟩:∃i,m=i+1:=⟨m-1,by omega⟩
  have x:i<l.length:=by omega
  obtain⟨a,z⟩:=u _ _ E;have L:((i+1:Nat):Int)-1=(i:Int):=by omega
  have j:=λH:aj=>bO (H:=H) (g:=g) (rows:=ints l) (sz:=1) (k:=.i64) (i:=(i:Int)) (by omega) (by simp[ints];omega);have y:=λH:aj=>dJ (H:=H) x;simp at j;rw[L]at q;obtain⟨r,J',v,O⟩:=S i x J E;refine au (by simp;omega) (aJ ?_);apply an;refine az ?_;rcases O with⟨rfl,F⟩|⟨rfl,M⟩
  .apply ai;simp[A,B,q,z,j,y,v.eq];refine aA (by simp) (aJ (ay (aq (.inl rfl) ?_)));simp[q,aM (n:=(i:Int)-1)];exact U i _ (by omega) ⟨_,_,rfl,by omega,by simp[A],by simp[B],by simp,F⟩
  .apply ai;simp[A,B,q,z,j,y,v.eq];refine au (by simp) ?_;exact aB (K _ _ _ rfl rfl ⟨rfl,.inr M⟩)
 .have:m=0:=by omega
  subst this;refine aA (by simp) ?_;refine aS rfl ?_;exact cW (K _ _ _ rfl rfl ⟨rfl,.inl E⟩)
structure CH(p:aE)(bs:List Nat)(bb:Nat)(base s:Int)(m:Nat)(J:aj):Prop where
 h0:J[0]?=aa (.box [.f (sl p.hg (ints p.head)),.f (fi p.fr),.f (fi p.aH),.f (sl p.cg (ints p.aZ))] 0)
 h1:J[1]?=aa (.box [.f .aw,.f (fi 0),.f (fi 0),.f .aw] 0)
 h2:∃g,J[2]?=aa (.box [.f (sl g (ints (p.head.take m)))] 0)
 h3:J[3]?=aa (.box [.f (fi s)] 0)
 b4:4<=bb
 hb:J[bb]?=aa (.box [.f (fi base)] 0)
 cl:ij bs J
section
variable{p:aE}{bs:List Nat}{bb:Nat}{base s:Int}{m:Nat}{J:aj}
theorem CH.push(h:CH p bs bb base s m J)(L:aj):CH p bs bb base s m (J++L):=by
 obtain⟨h0,h1,⟨g,h2⟩,h3,b4,hb,cl⟩:=h;refine⟨?_,?_,⟨g,?_⟩,?_,b4,?_,cl.push L⟩
 .rw[aq1 (av h0)];exact h0
 .rw[aq1 (av h1)];exact h1
 .rw[aq1 (av h2)];exact h2
 .rw[aq1 (av h3)];exact h3
 .rw[aq1 (av hb)];exact hb
theorem CH.set(h:CH p bs bb base s m J){i:Nat}{y z:cH}(hi:J[i]?=aa y)(hy:lG y=ae)(hb:∀cs d,y≠.box cs d)(hd:y≠.fj ae):CH p bs bb base s m (J.set i z):=by
 obtain⟨h0,h1,⟨g,h2⟩,h3,b4,b,cl⟩:=h;have ne:∀k cs d,J[k]?=aa (.box cs d)->i≠k:=λk cs d j e=>by
  subst e;rw[j]at hi;cases hi;exact hb _ _ rfl
 refine⟨?_,?_,⟨g,?_⟩,?_,b4,?_,cl.set hi hd⟩
 .rw[aq0 (ne _ _ _ h0)];exact h0
 .rw[aq0 (ne _ _ _ h1)];exact h1
 .rw[aq0 (ne _ _ _ h2)];exact h2
 .rw[aq0 (ne _ _ _ h3)];exact h3
 .rw[aq0 (ne _ _ _ b)];exact b
theorem CH.head(h:CH p bs bb base s m J)(g:Tg)(d:Nat):CH p bs bb base s d (J.set 2 (.box [.f (sl g (ints (p.head.take d)))] 0)):=by
 obtain⟨h0,h1,⟨g',h2⟩,h3,b4,b,cl⟩:=h;refine⟨?_,?_,⟨g,aq6 (av h2)⟩,?_,b4,?_,cl.set h2 (by simp)⟩
 .rw[aq0 (by decide)];exact h0
 .rw[aq0 (by decide)];exact h1
 .rw[aq0 (by decide)];exact h3
 .rw[aq0 (by omega)];exact b
theorem CH.start(h:CH p bs bb base s m J)(d:Int):CH p bs bb base d m (J.set 3 (.box [.f (fi d)] 0)):=by
 obtain⟨h0,h1,⟨g',h2⟩,h3,b4,b,cl⟩:=h;refine⟨?_,?_,⟨g',?_⟩,aq6 (av h3),b4,?_,cl.set h3 (by simp)⟩
 .rw[aq0 (by decide)];exact h0
 .rw[aq0 (by decide)];exact h1
 .rw[aq0 (by decide)];exact h2
 .rw[aq0 (by omega)];exact b
end
structure CT(t:T)(bb:Nat)(yw:Int)(g':Tg)(ap4:List Int):Prop where
 g1:t.g 1=.c (.ptr 0 0 0)
 g2:t.g 2=.c (.ptr 1 0 0)
 g3:t.g 3=.c (.ptr 2 0 0)
 g5:t.g 5=vi yw
 g6:t.g 6=.c (.f (sl g' (ints ap4)))
 g7:t.g 7=.c (.ptr 3 0 0)
 g8:t.g 8=.c (.ptr bb 0 0)
theorem zq{p:aE}(hp:cm p=ae){l:Int}{g':Tg}{d:List Int}(hS:rk p.aH p.aZ l d){bs:List Nat}{bb B:Nat}{base:Int}{A:T}(q:CT A bb l g' d)(hB:bb<B)(d9:-4398046511104<=base){J:aj}{m:Nat}{T0:Int}{j:Nat}
  (hC:CH p bs bb base 0 m J) (K:lU p.head p.fr l d m T0 base j) (M:J[B]?=aa (.lp 114 A [P.nat 54,P.nat 55] cX cY .ready ab (B-1))) (i:Int) :
  ∃r H',Ev tab (.yield B) [vi i,vi (d[j]'(K.jl))] J r H'/\
   ((r=vb ae/\∃u,m=u+1/\(∃h:u<p.head.length,p.head[u]=base+d[j]'(K.jl))/\CH p bs bb base 0 u H'/\H'[B]?=aa (.lp 114 A [P.nat 54,P.nat 55] cX cY .ready ab (B-1))/\∀k cs W,k≠2->J[k]?=aa (.box cs W)->H'[k]?=aa (.box cs W))\/
   (r=vb ag/\∃s,CH p bs bb base s m H'/\Stop p.head p.fr l d m s/\H'[B]?=aa (.lp 114 A [P.nat 54,P.nat 55] cX cY .done (aa (.exit 0)) (B-1)))):=by
 obtain⟨q1,q2,q3,q4,q5,q6,q7,q8,q9⟩:=aY hp;obtain⟨c,hc⟩:=aQ (d[j]'(K.jl));have d_:0<=c/\c<l:=by rw[hc];exact hS.mem _ (aq7 _)
 have f_:l<=p.aH:=ar2 (by omega) hS.dvd;have c9:=K.bt;have g_:=K.tf;have f9:=K.ml;rw[<-hc]at c9;rw[<-hc];refine gi (tab:=tab) (b:=B) (args:=[vi i,vi c]) (H:=J) M rfl λQ' o=>?_;refine aq (.inr rfl) ?_;simp;refine na M ?_;have F:=hC.set (z:=(.lp 114 A [P.nat 54,P.nat 55] cX cY .busy ab (B-1))) M rfl (by simp) (by simp);have Z:(J.set B (.lp 114 A [P.nat 54,P.nat 55] cX cY .busy ab (B-1)))[B]?=aa (.lp 114 A [P.nat 54,P.nat 55] cX cY .busy ab (B-1)):=aq6 (av M);have X:∀(k:Nat) (cs:List C) (W:Nat),J[k]?=aa (cH.box cs W)->(J.set B (.lp 114 A [P.nat 54,P.nat 55] cX cY .busy ab (B-1)))[k]?=aa (cH.box cs W):=λk cs W hk=>by
  rw[aq0 (by rintro rfl;rw[M]at hk;cases hk)];exact hk
 generalize J.set B (.lp 114 A [P.nat 54,P.nat 55] cX cY .busy ab (B-1))=U at F Z X ⊢;obtain⟨gh,h2⟩:=F.h2;have h3:=F.h3;have c6:=F.hb;have b4:=F.b4;have a8:(p.head.take m).length=m:=by rw[arT];omega
 have N:∀H:aj,aV H (.f (sl gh (ints (p.head.take m))))=aa m:=λH=>by simp[ints];omega
 obtain⟨n,hn⟩:=aQ (base+c);have wn:IntKind.i64.wrap (base+c)=n:=by rw[aM,hn]
 have rest:∀(t:T) (last:Int),CT t bb l g' d->t.g 10=vi c->t.g 11=vi last->((m=0/\last = -1)\/∃hm:m-1<p.head.length,0<m/\last=p.head[m-1])->WP tab 114 (aa B) [.code wT,.inBlock 3] ⟨t,[],U⟩ Q':=by
  intro t last q g10 E v;have e_:-1<=last/\last<p.fr+1:=by
   rcases v with⟨_,e⟩|⟨hm,h1,e⟩
   .omega
   .have:=q7 _ (aq7 hm);omega
  have stop:∀s:Int,((n<0/\last<0/\s=0)\/(¬ (n<0/\last<0)/\n≠last/\s=max n last+1))->Stop p.head p.fr l d m s:=λs hs=>by
   refine K.stop q6 (λx hx=>by have:=q7 x hx;omega) q1 v ?_;rw[<-hc,<-hn];exact hs
  apply an;refine an (aq (.inr rfl) ?_);simp[q.g8,g10,c6,wn];refine az ?_;by_cases w:n<0/\last<0
  .refine an (aq (.inr rfl) ?_);simp[E,w.1,w.2];refine au (by simp) ?_;refine jd rfl (o _ _ _ _ _ _ _ _ _ _ rfl Z (.inr ⟨rfl,0,?_,stop 0 (.inl ⟨w.1,w.2,rfl⟩),aq6 (av Z)⟩));exact F.set Z rfl (by simp) (by simp)
  .have go:∀t:T,CT t bb l g' d->t.g 11=vi last->t.g 12=vi n->WP tab 114 (aa B) [.code wU,.inBlock 4,.code wV,.inBlock 3] ⟨t,[],U⟩ Q':=by
    intro t q E f;refine an (aq (.inr rfl) ?_);by_cases k2:n=last
    .simp[E,f,k2];refine aA (by simp) (aJ (ay ?_));have f8:0<m:=by
      rcases v with⟨O,a⟩|⟨_,h,_⟩
      .exfalso;exact w ⟨by omega,by omega⟩
      .exact h
     obtain⟨u,rfl⟩:∃u,m=u+1:=⟨m-1,by omega⟩
     have Q:∃hm:u<p.head.length,last=p.head[u]:=by
      rcases v with⟨O,a⟩|⟨hm,_,e⟩
      .omega
      .exact⟨hm,e⟩
     obtain⟨d6,d5⟩:=Q;have Y:=λH:aj=>ahs (H:=H) (g:=gh) (m:=u) (Km.Ord.cr (p.head.take (u+1))) (by simp[ints];omega) (Bh (by rw[a8];omega));simp only[uj,List.take_take,asK (Nat.le_succ u)]at Y;have O:((u+1:Nat):Int)-1=(u:Int):=by omega
     have s2:dC U (.ptr 2 0 0) [.f (sl .fs (ints (p.head.take u)))]=aa (U.set 2 (.box [.f (sl .fs (ints (p.head.take u)))] 0)):=by simp[dC,h2,bR]
     have S:bF U ab (.c (.ptr 2 0 0))=aa (.c (.f (sl gh (ints (p.head.take (u+1)))))):=by simp[bF,aK,h2]
     have I:(U.set 2 (.box [.f (sl .fs (ints (p.head.take u)))] 0))[B]?=aa (.lp 114 A [P.nat 54,P.nat 55] cX cY .busy ab (B-1)):=by rw[aq0 (by omega)];exact Z
     refine aq (.inr rfl) ?_;simp[q.g3,S,N,-aD,O,aM (n:=(u:Int)),Y,s2,-bC];have b_:=F.head .fs u;refine ay (cW (o _ _ _ _ _ _ _ _ _ _ rfl I (.inl ⟨rfl,u,rfl,⟨d6,?_⟩,?_,aq6 (av I),λk cs W hk c_=>?_⟩)))
     .rw[<-d5,<-k2,hn]
     .exact b_.set I rfl (by simp) (by simp)
     .have:=X k cs W c_;rw[aq0 (by rintro rfl;rw[Z]at this;cases this),aq0 (Ne.symm hk)];exact this
    .simp[E,f,k2];refine au (by simp) (an (aq (.inr rfl) ?_));simp[q.g7,E,f,h3,aM (n:=max n last+1)];have c5:=F.start (max n last+1);have I:(U.set 3 (.box [.f (fi (max n last+1))] 0))[B]?=aa (.lp 114 A [P.nat 54,P.nat 55] cX cY .busy ab (B-1)):=by rw[aq0 (by omega)];exact Z
     refine jd rfl (o _ _ _ _ _ _ _ _ _ _ rfl I (.inr ⟨rfl,max n last+1,?_,stop _ (.inr ⟨w,k2,rfl⟩),aq6 (av I)⟩));exact c5.set I rfl (by simp) (by simp)
   have L:∀y:T,y.g 1=t.g 1->y.g 2=t.g 2->y.g 3=t.g 3->y.g 5=t.g 5->y.g 6=t.g 6->y.g 7=t.g 7->y.g 8=t.g 8->CT y bb l g' d:=λy O a e3 e5 e6 e7 e8=>⟨O.trans q.g1,a.trans q.g2,e3.trans q.g3,e5.trans q.g5,e6.trans q.g6,e7.trans q.g7,e8.trans q.g8⟩
   by_cases k3:n<0
   .have k4:¬ last<0:=λh=>w ⟨k3,h⟩;refine an (aq (.inr rfl) ?_);simp[E,k3,k4];refine aA (by simp) ?_;exact go _ (L _ (by simp) (by simp) (by simp) (by simp) (by simp) (by simp) (by simp)) (by simp[E]) (by simp)
   .refine an (aq (.inr rfl) ?_);simp[k3];refine aA (by simp) ?_;exact go _ (L _ (by simp) (by simp) (by simp) (by simp) (by simp) (by simp) (by simp)) (by simp[E]) (by simp)
 refine az ?_;refine an (aq (.inr rfl) ?_);simp;have L:∀y:T,y.g 1=A.g 1->y.g 2=A.g 2->y.g 3=A.g 3->y.g 5=A.g 5->y.g 6=A.g 6->y.g 7=A.g 7->y.g 8=A.g 8->CT y bb l g' d:=λy O a e3 e5 e6 e7 e8=>⟨O.trans q.g1,a.trans q.g2,e3.trans q.g3,e5.trans q.g5,e6.trans q.g6,e7.trans q.g7,e8.trans q.g8⟩
 apply an;have S:bF U ab (.c (.ptr 2 0 0))=aa (.c (.f (sl gh (ints (p.head.take m))))):=by simp[bF,aK,h2]
 refine an (aq (.inr rfl) ?_);simp[q.g3,S,N,-aD];by_cases k0:0<m
 .have d7:m-1<p.head.length:=by omega
  have d8:m-1<(p.head.take m).length:=by omega
  have O:((m:Int)-1)=((m-1:Nat):Int):=by omega
  have a_:=λH:aj=>bO (H:=H) (g:=gh) (rows:=ints (p.head.take m)) (sz:=1) (k:=.i64) (i:=((m-1:Nat):Int)) (by omega) (by simp[ints];omega);have b7:=λH:aj=>dJ (H:=H) d8;have a:(p.head.take m)[m-1]=p.head[m-1]:=by simp
  rw[a]at b7;simp at a_;refine au (by simp[k0]) (aq (.inr rfl) ?_);simp[q.g3,S,N,-aD,O,aM (n:=((m-1:Nat):Int)),a_,b7];exact rest _ _ (L _ (by simp) (by simp) (by simp) (by simp) (by simp) (by simp) (by simp)) (by simp) (by simp) (.inr ⟨d7,k0,rfl⟩)
 .refine ba (by simp[k0]) ?_;exact rest _ _ (L _ (by simp) (by simp) (by simp) (by simp) (by simp) (by simp) (by simp)) (by simp) (by simp) (.inl ⟨by omega,rfl⟩)
theorem pK{H:aj}{g:Tg}(l:List Int)(q:l.length<=1000000):∃c J,Ev tab (.fn 154) [.c (.f (sl g (ints l)))] H=E2 (.c c) (H++J)/\LR (H++J) c 1 (ints l)/\∀i,aT c=aa i->H.length<=i:=by
 obtain⟨r,m,j,c,J,rfl,rfl,b,d⟩:=xw (F:=154) (sz:=1) (zs:=[fi 0]) (bytes:=8) (H:=H) (g:=g) (rows:=ints l) aiT (by decide) (Km.Ord.cr l) (dW (by simp[ints];omega) (by decide));exact⟨c,J,j.eq,b,d⟩
theorem J_(p:aE)(f:cm p=ae)(e:p.aZ=[])(hl:p.head.length<=1000000):∃q,lP p q/\q.aZ.length<=p.aZ.length/\q.head.length<=p.head.length/\bH tab 114 [.a (p.row.map .f)] (.a (q.row.map .f)):=by
 obtain⟨q1,q2,q3,q4,q5,q6,q7,q8,q9⟩:=aY f;obtain⟨r,⟨q,hq,ha,hb,rfl⟩,h⟩:∃r,(∃q,lP p q/\q.aZ.length<=p.aZ.length/\q.head.length<=p.head.length/\r=.a (q.row.map .f))/\bH tab 114 [.a (p.row.map .f)] r:=by
  refine ey rfl rfl λQ hQ=>?_;obtain⟨H,z⟩:=aQ ([.box [.f (sl p.hg (ints p.head)),.f (fi p.fr),.f (fi p.aH),.f (sl p.cg (ints p.aZ))] 0,.box [.f .aw,.f (fi 0),.f (fi 0),.f .aw] 0,.box [.f (sl p.hg (ints p.head))] 0]:aj);obtain⟨c,J,M,B,a⟩:=pK (H:=H) (g:=p.hg) p.head hl;have l:∀H:aj,aV H (.f (sl p.hg (ints p.head)))=aa p.head.length:=λH=>by simp[ints]
  have K:∀H:aj,aV H (.f (sl p.cg (ints p.aZ)))=aa 0:=λH=>by simp[ints,e]
  apply ai;simp[aE.row];refine iM (ai ?_);simp;rw[<-z];have h0:H[0]?=aa (.box [.f (sl p.hg (ints p.head)),.f (fi p.fr),.f (fi p.aH),.f (sl p.cg (ints p.aZ))] 0):=by rw[z];rfl
  have h1:H[1]?=aa (.box [.f .aw,.f (fi 0),.f (fi 0),.f .aw] 0):=by rw[z];rfl
  have Z:H[2]?=aa (.box [.f (sl p.hg (ints p.head))] 0):=by rw[z];rfl
  apply an;apply ai;simp[h0,K];refine au (by simp) ?_;apply ai;simp[Z,M];obtain⟨b,d⟩:=aQ (H++J:aj);obtain⟨v,j⟩:=aQ (b.length);have E:H.length+J.length=v:=by rw[j,d];simp
  have a8:H.length=3:=by rw[z];rfl
  rw[<-d]at B;have w:∀i:Nat,i<H.length->b[i]?=H[i]?:=λi hi=>by rw[d,aq1 hi]
  have x:∀(t:T) (s:Int),t.g 2=.c (.ptr 1 0 0)->t.g 4=.c (.ptr v 0 0)->((p.head=[]/\s=0)\/∃h:p.head.length-1<p.head.length,s=p.head[p.head.length-1]+1)->
    WP tab 114 ab [.code wP,.code wQ,.inScope u0] ⟨t,[],b++[.box [c,.f (fi s),.f (fi 1),.f .aw] 0]⟩ Q:=by
   intro t s Y g4 hs;have o:(b++[cH.box [c,.f (fi s),.f (fi 1),.f .aw] 0])[v]?=aa (.box [c,.f (fi s),.f (fi 1),.f .aw] 0):=by rw[j];simp
   have L:(b++[cH.box [c,.f (fi s),.f (fi 1),.f .aw] 0])[1]?=aa (.box [.f .aw,.f (fi 0),.f (fi 0),.f .aw] 0):=by
    rw[aq1 (by omega),w 1 (by omega)];exact h1
   have S:=B.push [cH.box [c,.f (fi s),.f (fi 1),.f .aw] 0];generalize b++[cH.box [c,.f (fi s),.f (fi 1),.f .aw] 0]=u at o L S ⊢;have X:bF u (aa 4) (.c (.ptr v 0 0))=aa (.a [c,.f (fi s),.f (fi 1),.f .aw]):=by simp[bF,aK,o,bf]
   have s1:dC u (.ptr 1 0 0) [c,.f (fi s),.f (fi 1),.f .aw]=aa (u.set 1 (.box [c,.f (fi s),.f (fi 1),.f .aw] 0)):=by simp[dC,L,bR]
   have n1:(u.set 1 (.box [c,.f (fi s),.f (fi 1),.f .aw] 0))[1]?=aa (.box [c,.f (fi s),.f (fi 1),.f .aw] 0):=aq6 (av L);have U:=S.set (S.bI L) (.box [c,.f (fi s),.f (fi 1),.f .aw] 0);obtain⟨y,N⟩:=U.ex (Km.Ord.cr _) 63;apply ai;simp[Y,g4,X,s1,-aD,-bC];refine aB (hQ _ _ _ ⟨⟨y,p.head,s,1,.nil,[]⟩,J8 f e hs y .nil,by simp,aq9 _,rfl⟩ ⟨rfl,.a [c,.f (fi s),.f (fi 1),.f .aw],?_,?_⟩)
   .simp[Km.results,bQ,aX,Y,n1,bf]
   .simp[jy,de,aX,deep,N,aE.row,sl,ints,Tg.fc]
  rw[<-arZ,<-d,E];have v2:(b++[cH.box [c,.f (fi 0),.f (fi 1),.f .aw] 0])[2]?=aa (.box [.f (sl p.hg (ints p.head))] 0):=by
   rw[aq1 (by omega),w 2 (by omega)];exact Z
  have v4:(b++[cH.box [c,.f (fi 0),.f (fi 1),.f .aw] 0])[v]?=aa (.box [c,.f (fi 0),.f (fi 1),.f .aw] 0):=by rw[j];simp
  have m:∀s:Int,(b++[cH.box [c,.f (fi 0),.f (fi 1),.f .aw] 0]).set v (.box [c,.f (fi s),.f (fi 1),.f .aw] 0)=b++[.box [c,.f (fi s),.f (fi 1),.f .aw] 0]:=λs=>by rw[j];simp
  apply an;obtain⟨u,A⟩:=aQ (b++[cH.box [c,.f (fi 0),.f (fi 1),.f .aw] 0]);rw[<-A]at v2 v4 m ⊢;have I:bF u ab (.c (.ptr 2 0 0))=aa (.c (.f (sl p.hg (ints p.head)))):=by simp[bF,aK,v2]
  apply an;refine aq (.inl rfl) ?_;simp[I,l,-aD];by_cases k:0<p.head.length
  .have O:p.head.length-1<p.head.length:=by omega
   have a_:=q7 _ (aq7 O);have e1:((p.head.length:Int)-1)=((p.head.length-1:Nat):Int):=by omega
   have F:=λH:aj=>bO (H:=H) (g:=p.hg) (rows:=ints p.head) (sz:=1) (k:=.i64) (i:=((p.head.length-1:Nat):Int)) (by omega) (by simp[ints];omega);have W:=λH:aj=>dJ (H:=H) O;simp at F;have s4:dC u (.ptr v 1 0) [.f (fi (p.head[p.head.length-1]+1))]=aa (b++[.box [c,.f (fi (p.head[p.head.length-1]+1)),.f (fi 1),.f .aw] 0]):=by
    rw[<-m];simp[dC,v4,bR]
   refine au (by simp[k]) (aq (.inl rfl) ?_);simp[I,l,-aD,e1,aM (n:=((p.head.length-1:Nat):Int)),F,W,aM (n:=p.head[p.head.length-1]+1),s4,-bC];exact x _ _ (by simp) (by simp) (.inr ⟨O,rfl⟩)
  .refine ba (by simp[k]) ?_;rw[A];exact x _ 0 (by simp) (by simp) (.inl ⟨asi.1 (by omega),rfl⟩)
 exact⟨q,hq,ha,hb,h⟩
theorem lE{H:aj}{c:C}{sz:Nat}{rows:List (List FC)}(h:LR H c sz rows){i:Nat}{y:cH}(g:H[i]?=aa y)(j:lG y=ae):aT c≠aa i:=by
 rcases h with⟨_,rfl|rfl⟩|⟨h,b,l,rfl,d⟩
 .simp[aT]
 .simp[aT]
 .intro e;cases e;unfold RB at d;rw[g]at d;cases d;cases j
theorem CH.bE{p:aE}{bs:List Nat}{bb:Nat}{base s:Int}{m:Nat}{J J':aj}(h:CH p bs bb base s m J)(b:∀(i:Nat) y,J[i]?=aa y->lG y=ae->J'[i]?=aa y):CH p bs bb base s m J':=by
 obtain⟨h0,h1,⟨g,h2⟩,h3,b4,hb,cl⟩:=h;exact⟨b _ _ h0 rfl,b _ _ h1 rfl,⟨g,b _ _ h2 rfl⟩,b _ _ h3 rfl,b4,b _ _ hb rfl,cl.bE b⟩
structure QI(p:aE)(bs:List Nat)(bb:Nat)(base s yw:Int)(m bq:Nat)(c cq:C)(jt:List Int)(J:aj):Prop where
 ch:CH p bs bb base s m J
 bx:J[bq]?=aa (.box [c,.f (fi s),.f (fi yw),cq] 0)
 lc:LR J c 1 (ints (p.head.take m))
 lq:LR J cq 1 (ints jt)
 ne:∀i,aT c=aa i->aT cq≠aa i
 big:4<bq/\bq≠bb
theorem QI.app{p:aE}{bs:List Nat}{bb:Nat}{base s b:Int}{m z:Nat}{c I:C}{jt:List Int}{J:aj}(h:QI p bs bb base s b m z c I jt J)(hl:jt.length<=1000000)(n:Int) :
  ∃v q,bJ (J++[.box [.f (fi n)] 0]) 1 8 (.c I) (.c (.sl J.length 0 1 1 0 1))=aa (.c v,q)/\dC q (.ptr z 3 0) [v]=aa (q.set z (.box [c,.f (fi s),.f (fi b),v] 0))/\QI p bs bb base s b m z c v (jt++[n]) (q.set z (.box [c,.f (fi s),.f (fi b),v] 0)):=by
 obtain⟨H,d⟩:=aQ (J++[.box ([fi n].map .f) 0]:aj);have up:∀(i:Nat) y,J[i]?=aa y->H[i]?=aa y:=λi y hy=>by rw[d,aq1 (av hy)];exact hy
 have B:LR H I 1 (ints jt):=by rw[d];exact h.lq.push _
 have L:H[J.length]?=aa (.box ([fi n].map .f) 0):=by rw[d];simp
 obtain⟨v,q,u,x,A,M⟩:=B.app (Km.Ord.cr jt) (by decide) (row:=[fi n]) rfl (bytes:=8) (dW (by simp[ints];omega) (by decide)) L;have F:∀(i:Nat) y,J[i]?=aa y->lG y=ae->q[i]?=aa y:=λi y hy O=>A.2 i y (up _ _ hy) (lE B (up _ _ hy) O);have j:=F _ _ h.bx rfl;have N:ints jt++[[fi n]]=ints (jt++[n]):=by simp[ints]
 rw[N]at x;have E:LR q c 1 (ints (p.head.take m)):=h.lc.bE λi y hy hi=>A.2 i y (up _ _ hy) (h.ne i hi);have K:=h.ch.bE F;refine⟨v,q,by rw[d]at u;exact u,by simp[dC,j,bR],?_,aq6 (av j),E.set (E.bI j) _,x.set (x.bI j) _,?_,h.big⟩
 .obtain⟨h0,h1,⟨g,h2⟩,h3,b4,hb,cl⟩:=K;have hg:=h.big;refine⟨?_,?_,⟨g,?_⟩,?_,b4,?_,cl.set j (by simp)⟩
  all_goals (rw[aq0 (by omega)];assumption)
 .intro i hi l;rcases M with e|e
  .rw[e]at l;exact h.ne i hi l
  .rw[e]at l;cases l;have:=h.lc.lt hi;have h2:H.length=J.length+1:=by rw[d];simp
   omega
theorem pI(n:Int):(vi n).beq (vi n)=ae:=by simp[V.beq,C.beq,FC.beq]
theorem zw{p:aE}(hp:cm p=ae)(hl:p.head.length<=1000000){b:Int}{g':Tg}{d:List Int}(hS:rk p.aH p.aZ b d)(n9:d.length<=1000000){bs:List Nat}{bb:Nat}{base s:Int}{m:Nat}{J:aj}(hC:CH p bs bb base s m J)(hT:Stop p.head p.fr b d m s)
  {t:T} (N:CT t bb b g' d) {k:List cO} {Q:Option ax->St->Prop} (hQ:∀j s r,(∃q,lP p q/\q.aZ.length<=p.aZ.length/\q.head.length<=p.head.length/\r=.a (q.row.map .f))->XY [.cell (P.nat 2) (aa 4)] r s->Q j s) :
  WP tab 114 ab (.code qY::k) ⟨t,bs.map .gB,J⟩ Q:=by
 obtain⟨q1,q2,q3,q4,q5,q6,q7,q8,q9⟩:=aY hp;have l_:=hT.ml;have o6:=hT.sf;have o5:=hT.s0;have o4:b<=p.aH:=ar2 (by omega) hS.dvd;have n_:=hS.p1;obtain⟨gh,h2⟩:=hC.h2;have h0:=hC.h0;have h1:=hC.h1;have h3:=hC.h3;have f8:(p.head.take m).length=m:=by rw[arT];omega
 obtain⟨c,Jc,u,U,d_⟩:=pK (H:=J) (g:=gh) (p.head.take m) (by omega);obtain⟨HJ,d5⟩:=aQ (J++Jc:aj);have F:CH p bs bb base s m HJ:=by rw[d5];exact hC.push Jc
 rw[<-d5]at u U;have b_:∀H:aj,H[3]?=aa (.box [.f (fi s)] 0)->bF H ab (.c (.ptr 3 0 0))=aa (vi s):=λH h=>by simp[bF,aK,h]
 have i7:bF J ab (.c (.ptr 2 0 0))=aa (.c (.f (sl gh (ints (p.head.take m))))):=by simp[bF,aK,h2]
 have h_:=b_ J h3;have b7:=b_ HJ F.h3;refine an (eu (.inl rfl) ?_ ?_)
 case refine_2=>
  intro cc j7;have j4:cc=(2,1):=by simpa using j7
  subst j4;refine⟨by decide,_,rfl,.inr ⟨by decide,?_⟩⟩;simp[N.g3,N.g7,i7,-aD,u,h_,b7,fY,pI]
 simp[N.g3,N.g5,N.g7,i7,-aD,u,b7];obtain⟨O,a8⟩:=aQ (HJ.length);have e_:4<O:=by have:=av F.hb;have:=F.b4;omega
 obtain⟨HK,S⟩:=aQ (HJ++[cH.box [c,.f (fi s),.f (fi b),.f .aw] 0]);have c_:CH p bs bb base s m HK:=by rw[S];exact F.push _
 have f9:HK[O]?=aa (.box [c,.f (fi s),.f (fi b),.f .aw] 0):=by rw[S,a8];simp
 have d7:LR HK c 1 (ints (p.head.take m)):=by rw[S];exact U.push _
 have n8:∀i,aT c=aa i->i<O:=λi hi=>by rw[a8];exact U.lt hi
 rw[<-a8,<-S];have i9:QI p bs bb base s b m O c (.f .aw) [] HK:=⟨c_,f9,d7,LR.nil _ _,(λi hi h=>by cases h),e_,by have:=av F.hb;omega⟩
 clear u U d_ b7 h_ c_ f9 d7;apply an;apply ai;simp[N.g6];refine cC d.length (λi t J=>t.g 1=.c (.ptr 0 0 0)/\t.g 2=.c (.ptr 1 0 0)/\t.g 5=vi b/\t.g 7=.c (.ptr 3 0 0)/\t.g 13=.c (.ptr O 0 0)/\t.g 94=.c (.f (sl g' (ints d)))/\∃l,QI p bs bb base s b m O c l (eF p.fr s b (d.take i)) J) (by omega) (by decide) (by decide) (by simp) (by simp[ints])
  ⟨by simp[N.g1],by simp[N.g2],by simp[N.g5],by simp[N.g7],by simp,by simp,.f .aw,by simpa[eF]using i9⟩ ?_ ?_
 .rintro i t J hi ⟨g1,g2,g5,g7,E,Z,l,B⟩ ha hb next
  have j8:=hS.mem _ (aq7 hi);have g_:=λH:aj=>bO (H:=H) (g:=g') (rows:=ints d) (sz:=1) (k:=.i64) (i:=(i:Int)) (by omega) (by simp[ints];omega);have i6:=λH:aj=>dJ (H:=H) hi;simp at g_;obtain⟨x,hx⟩:=aQ (d[i]);rw[<-hx]at j8 i6;have m9:d.take (i+1)=d.take i++[x]:=by rw[arD,aq2 hi,hx];rfl
  have f_:bL .rem (vi (p.fr+x-s)) (vi b)=aa (vi ((p.fr+x-s) % b)):=dY (by omega) (by omega);obtain⟨c3,H3,d9,m8,m7⟩:=B.app (by simp[eF];omega) ((p.fr+x-s) % b);have c5:bF J ab (.c (.ptr O 3 0))=aa (.c l):=by simp[bF,aK,B.bx]
  have n5:bF J ab (.c (.ptr 0 1 0))=aa (vi p.fr):=by simp[bF,aK,B.ch.h0]
  have n6:=b_ J B.ch.h3;refine az ?_;apply ai;simp[ha,Z,g_,i6];refine aq (.inl rfl) ?_;simp[g1,g5,g7,E,c5,n5,n6,-aD,aM (n:=p.fr+x),aM (n:=p.fr+x-s),f_,d9,m8,-bC];refine ay (next _ _ ?_ (by simp[ha]) (by simp[hb]));refine⟨by simp[g1],by simp[g2],by simp[g5],by simp[g7],by simp[E],by simp[Z],c3,?_⟩;rw[m9];simpa[eF]using m7
 .rintro t J ⟨g1,g2,g5,g7,E,Z,l,B⟩ - -;rw[arz]at B;obtain⟨r,X,he,rfl,hK,l2,d6,L,k_⟩:=aad B.lq (by simp[eF];omega);have up:∀(i:Nat) y,J[i]?=aa y->lG y=ae->X[i]?=aa y:=λi y W hn=>hK.2 i y W (lE B.lq W hn);have A:=B.ch.bE up;have i_:=up _ _ B.bx rfl;have d8:LR X c 1 (ints (p.head.take m)):=B.lc.bE λi y W hi=>hK.2 i y W (B.ne i hi);have c5:bF J ab (.c (.ptr O 3 0))=aa (.c l):=by simp[bF,aK,B.bx]
  have m_:bF X (aa 4) (.c (.ptr O 0 0))=aa (.a [c,.f (fi s),.f (fi b),l]):=by simp[bF,aK,i_,bf]
  have s1:dC X (.ptr 1 0 0) [c,.f (fi s),.f (fi b),l]=aa (X.set 1 (.box [c,.f (fi s),.f (fi b),l] 0)):=by simp[dC,A.h1,bR]
  have n1:(X.set 1 (.box [c,.f (fi s),.f (fi b),l] 0))[1]?=aa (.box [c,.f (fi s),.f (fi b),l] 0):=aq6 (av A.h1);have v:=A.cl.set (z:=.box [c,.f (fi s),.f (fi b),l] 0) A.h1 (by simp);have I:=d8.set (d8.bI A.h1) (.box [c,.f (fi s),.f (fi b),l] 0);have K:=d6.set (d6.bI A.h1) (.box [c,.f (fi s),.f (fi b),l] 0);generalize n7:X.set 1 (.box [c,.f (fi s),.f (fi b),l] 0)=Y at s1 n1 v I K;have i8:∀(i:Nat) y,i ∉ bs->Y[i]?=aa y->(mC bs Y)[i]?=aa y:=λi y hi W=>(yh hi).trans W;obtain⟨c6,j9⟩:=I.exU (Km.Ord.cr _);obtain⟨c9,j_⟩:=K.exU (Km.Ord.cr _);have M:∀(c:C) (rows:List (List FC)),LR Y c 1 rows->∀i y,Y[i]?=aa y->aT c=aa i->(mC bs Y)[i]?=aa y:=λc rows hL i y W hi=>i8 i y (λhb=>lE hL (v.on i hb) rfl hi) W;have e5:=j9 (mC bs Y) 63 (M _ _ I);have e6:=j_ (mC bs Y) 63 (M _ _ K);have m1:=i8 1 _ (v.not n1 (by simp)) n1;apply ai;simp[E,c5,-aD,he.eq];apply ai;simp[g2,E,m_,s1,-aD,-bC];have a_:l2.length=d.length:=by rw[L.length_eq];simp[eF]
  refine aB (hQ _ _ _ ⟨⟨c6,p.head.take m,s,b,c9,l2⟩,J9 hp hS hT L k_ c6 c9,by show l2.length<=_;rw[a_];exact hS.len,by show(p.head.take m).length<=_;rw[f8];exact l_,rfl⟩ ⟨bs,rfl,v,.a [c,.f (fi s),.f (fi b),l],?_,?_⟩)
  .simp[Km.results,bQ,aX,g2,m1,bf]
  .simp[jy,de,aX,deep,e5,e6,aE.row]
theorem J7(p:aE)(hp:cm p=ae)(e:0<p.aZ.length)(f9:p.aZ.length<=1000000)(hl:p.head.length<=1000000):∃q,lP p q/\q.aZ.length<=p.aZ.length/\q.head.length<=p.head.length/\bH tab 114 [.a (p.row.map .f)] (.a (q.row.map .f)):=by
 obtain⟨q1,q2,q3,q4,q5,q6,q7,q8,q9⟩:=aY hp;obtain⟨r,⟨q,hq,ha,a,rfl⟩,h⟩:∃r,(∃q,lP p q/\q.aZ.length<=p.aZ.length/\q.head.length<=p.head.length/\r=.a (q.row.map .f))/\bH tab 114 [.a (p.row.map .f)] r:=by
  refine Lm anm rfl λQ hQ=>?_;obtain⟨j,g',d,v,d5⟩:=Az p.cg p.aZ p.aH (by omega) (by omega) e (by omega) q8 (λx hx=>by have:=q9 x hx;omega);have h_:j<=p.aH:=ar2 (by omega) v.dvd;have W:=v.p1;have f_:=v.len;have f:0<d.length:=arY.2 v.ne;have w:∀H:aj,aV H (.f (sl p.cg (ints p.aZ)))=aa p.aZ.length:=λH=>by simp[ints]
  apply ai;simp[aE.row];refine iM (ai ?_);simp;apply an;apply ai;simp[w];refine aA (by simp;exact arY.1 e) (aJ ?_);apply ai;simp[d5];apply ai;simp;refine an (mo ?_);apply an;apply ai;simp[aM (n:=p.fr-j)];refine az ?_;refine bT (λmm st=>∃(t:T) (bs:List Nat) (bb:Nat) (J:aj) (T0 base:Int),st=⟨t,bs.map .gB,J⟩/\CT t bb j g' d/\CH p bs bb base 0 mm J/\lU p.head p.fr j d mm T0 base (d.length-1)/\-4398046511104<=base) p.head.length
   ⟨_,[],4,_,_,_,rfl,⟨by simp,by simp,by simp,by simp,by simp,by simp,by simp⟩,⟨rfl,rfl,⟨p.hg,by rw[arz];rfl⟩,rfl,by decide,rfl,⟨by simp,by simp⟩⟩,lU.start W v.mem v.up (λx hx=>(q7 x hx).2) f,by omega⟩ ?_
  rintro mm st ⟨t,bs,bb,J,T0,base,rfl,L,hC,c5,b_⟩ ih;apply an;refine az ?_;obtain⟨r,H',c6,rfl,rfl⟩:=xf (sl g' (ints d)) J;apply ai;simp[L.g6,c6.eq];refine az ?_;have b7:∀K:T,K.g 1=t.g 1->K.g 2=t.g 2->K.g 3=t.g 3->K.g 5=t.g 5->K.g 6=t.g 6->K.g 7=t.g 7->K.g 8=t.g 8->CT K bb j g' d:=λK e1 e2 e3 e5 e6 e7 e8=>⟨e1.trans L.g1,e2.trans L.g2,e3.trans L.g3,e5.trans L.g5,e6.trans L.g6,e7.trans L.g7,e8.trans L.g8⟩
  obtain⟨bx,E⟩:=aQ (J.length);rw[<-E];have f8:=av hC.hb;have e_:=hC.b4;have range:∀y:T,CT y bb j g' d->y.g 53=.c (.cl 205 [.ptr bx 0 0])->WP tab 114 ab [.code wS,.inBlock 2,.inBlock 1,.code wW,.inLoop wR,.inBlock 0,.code qY,.inScope u0] ⟨y,bs.map .gB,J++[.box [.f (sl g' (ints d))] 0]⟩ Q:=by
   intro y u a8;obtain⟨Y,A⟩:=aQ (J++[.box [.f (sl g' (ints d))] 0]++[.fj ae,.lp 114 y [P.nat 54,P.nat 55] cX cY .ready ab (bx+2-1)]:aj);have M:CH p bs bb base 0 mm Y:=by rw[A,arZ];exact hC.push _
   have rx:Y[bx]?=aa (.box [.f (sl g' (ints d))] 0):=by rw[A,E];simp
   have rd:Y[bx+1]?=aa (.fj ae):=by rw[A,E,arc (by simp)];simp
   have rl:Y[bx+2]?=aa (.lp 114 y [P.nat 54,P.nat 55] cX cY .ready ab (bx+2-1)):=by rw[A,E,arc (by simp)];simp
   have a_:CH p ((bx+1)::bs) bb base 0 mm Y:=⟨M.h0,M.h1,M.h2,M.h3,M.b4,M.hb,List.nodup_cons.2 ⟨λhm=>by have:=av (hC.cl.on _ hm);omega,M.cl.nd⟩,λb a=>by
    rcases List.mem_cons.1 a with rfl|a
    .exact rd
    .exact M.cl.on b a⟩
   obtain⟨r,H',he,rfl,O⟩:=xh (b:=bx+2) (bx:=bx) (g:=g') (l:=d) (H:=Y)
    (PP:=λi H=>∃m T,CH p ((bx+1)::bs) bb base 0 m H/\H[bx]?=aa (.box [.f (sl g' (ints d))] 0)/\H[bx+2]?=aa (.lp 114 y [P.nat 54,P.nat 55] cX cY .ready ab (bx+2-1))/\i<=d.length/\m+(d.length-i)=mm/\
     (0<i->lU p.head p.fr j d m T base (i-1))/\(i=0->lU p.head p.fr j d m T (base-j) (d.length-1)/\-1099511627776<=base))
    (EX:=λH=>∃m s,CH p ((bx+1)::bs) bb base s m H/\Stop p.head p.fr j d m s/\H[bx+2]?=aa (.lp 114 y [P.nat 54,P.nat 55] cX cY .done (aa (.exit 0)) (bx+2-1)))
    (by omega) (λi H h=>by obtain⟨m,T,-,h,-⟩:=h;exact⟨_,h⟩)
    ⟨mm,T0,a_,rx,rl,aq9 _,by omega,λ_=>c5,λh=>by omega⟩
    (λi hi H1 ⟨m,T,h1,h2,h3,h4,h5,h6,h7⟩=>by
     have N:=h6 (by omega);obtain⟨r,H2,c_,hr⟩:=zq hp v u (B:=bx+2) (by omega) b_ h1 N h3 i;refine⟨r,H2,c_,?_⟩;rcases hr with⟨rfl,m',rfl,⟨U,S⟩,X,Z,I⟩|⟨rfl,s,X,Z,I⟩
     .refine .inl ⟨rfl,m',p.head[m'],X,I bx _ _ (by omega) h2,Z,by omega,by omega,λk=>?_,λk=>?_⟩
      .obtain⟨i',rfl⟩:∃i',i=i'+1:=⟨i-1,by omega⟩
       exact N.down q6 v.up W v.mem U S
      .subst k;have hx:=(q7 _ (aq7 U)).1;have hy:=v.mem _ (aq7 (l:=d) (n:=0) f);refine⟨N.wrap q6 v.up W v.mem U S,?_⟩;have d_:p.head[m']=base+d[0]:=S;omega
     .exact .inr ⟨rfl,m,s,X,Z,I⟩)
   have F:(J++[cH.box [.f (sl g' (ints d))] 0]).length=bx+1:=by simp[E]
   have c9:Ev tab (.fn 205) [.c (.yl ((J++[cH.box [.f (sl g' (ints d))] 0]).length+1)),.c (.ptr bx 0 0)] (J++[.box [.f (sl g' (ints d))] 0]++[.fj ae,.lp 114 y [P.nat 54,P.nat 55] cX cY .ready ab (J++[cH.box [.f (sl g' (ints d))] 0]).length]) (.t []) H':=by
    rw[F];rw[A]at he;exact he
   refine gH (g:=205) (by rw[wX,a8];simp[bX]) c9 ?_;rw[F];rcases O with⟨m,T,X,Z,I,-,k5,-,k7⟩|⟨m,s,X,Z,I⟩
   .obtain⟨k8,k9⟩:=k7 rfl;refine iL I (by decide) ?_;have kC:=X.set (z:=.lp 114 y [P.nat 54,P.nat 55] cX cY .exhausted ab (bx+2-1)) I rfl (by simp) (by simp);generalize H'.set (bx+2) (.lp 114 y [P.nat 54,P.nat 55] cX cY .exhausted ab (bx+2-1))=HE at kC ⊢;refine ay (ay (an ?_));have c:=kC.hb;have d6:bF HE ab (.c (.ptr bb 0 0))=aa (vi base):=by simp[bF,aK,c]
    have g_:=av c;apply ai;simp[u.g8,d6,-aD];refine aq (.inl rfl) ?_;simp;refine aq (.inl rfl) ?_;have d8:=k8.bt;have d7:=k8.tf;have d9:=(v.mem _ (aq7 (l:=d) (n:=d.length-1) (by omega))).1;simp[u.g5,aM (n:=base-j)];have o:=kC.push [.box [.f (fi (base-j))] 0];refine ih m _ (by omega) ⟨_,(bx+1)::bs,HE.length,_,T,base-j,rfl,⟨by simp[u.g1],by simp[u.g2],by simp[u.g3],by simp[u.g5],by simp[u.g6],by simp[u.g7],by simp⟩,⟨o.h0,o.h1,o.h2,o.h3,by omega,by simp,o.cl⟩,k8,by omega⟩
   .refine lC I (by decide) ?_;have kC:=X.set (z:=.lp 114 y [P.nat 54,P.nat 55] cX cY .exhausted (aa (.exit 0)) (bx+2-1)) I rfl (by simp) (by simp);refine aS rfl ?_;exact zw hp hl v (by omega) kC Z u hQ
  exact range _ (b7 _ (by simp) (by simp) (by simp) (by simp) (by simp) (by simp) (by simp)) (by simp)
 exact⟨q,hq,ha,a,h⟩
theorem oy(p:aE)(s:cm p=ae)(l:p.aZ.length<=1000000)(m:p.head.length<=1000000):∃q,lP p q/\q.aZ.length<=p.aZ.length/\q.head.length<=p.head.length/\bH tab 114 [.a (p.row.map .f)]=Eq (.a (q.row.map .f)):=by
 rcases asF p.aZ.length with h|h
 .obtain⟨q,b,d,g,j⟩:=J_ p s (asi.1 h) m;exact⟨q,b,d,g,j.eq⟩
 .obtain⟨q,b,d,g,j⟩:=J7 p s h l m;exact⟨q,b,d,g,j.eq⟩
theorem XX(p:aE)(d:cm p=ae)(b:p.aZ.length<=1000000)(v:p.head.length<=1000000):∃q,lP p q/\q.aZ.length<=p.aZ.length/\q.head.length<=p.head.length/\bH tab 70 [.a (p.row.map .f)]=Eq (.t [.a (q.row.map .f),vi 0]):=by
 obtain⟨q,l,m,s,j⟩:=oy p d b v;have g:=sk p (jg d);rw[d]at g;refine⟨q,l,m,s,bH.eq (bD rfl rfl λQ u=>?_)⟩;simp only[aE.row,arf,art]at g j ⊢;apply ai;simp;apply an;apply ai;simp[g];refine ba (by simp) ?_;apply ai;simp[j];refine aB (u _ _ ?_);simp[aE.row]
theorem KY{p:aE}(X:cm p=ae){g:Int}(S:0<=g){i:Nat}(hi:i<=p.head.length)(A:∀j (h:j<p.head.length),j<i->p.head[j]<g)(y:∀j (h:j<p.head.length),i<=j->g<=p.head[j]){fr:Int}(U:fr=max p.fr g){q:List Int}(l:q.Perm (eF p.fr fr p.aH p.aZ))(z:q.Pairwise (·<=·))(H:g<=1099511627776)(I E:Tg) :
  cm ⟨I,p.head.drop i,fr,p.aH,E,q⟩=ae/\(∀d,0<=d->bz ⟨I,p.head.drop i,fr,p.aH,E,q⟩ d=(decide (g<=d)&&bz p d))/\q.length=p.aZ.length:=by
 obtain⟨e,f,v,M,n,N,F,O,Q⟩:=aY X;have s:∀x∈p.aZ,0<=x/\x<p.aH:=λx B=>by have:=Q x B;omega
 obtain⟨Z,c,K⟩:=nI v O s l z;refine⟨qO (by show 0<=fr;omega) (by show fr<=_;omega) v M (by show(p.head.drop i).length+q.length<=_;rw[aru,K];omega) (N.sublist (atT _ _)) (λx B=>?_) Z c,λd hd=>?_,K⟩
 .have:=F x (ar5 B);exact⟨by omega,by show x<fr;omega⟩
 .have Y:(d-fr) % p.aH∈q↔qZ p.fr p.aH p.aZ d:=by rw[l.mem_iff];exact sP v s d
  have m:d∈p.head.drop i↔g<=d/\d∈p.head:=by
   constructor
   .intro h;obtain⟨j,u,rfl⟩:=ary h;rw[asY];exact⟨y _ (by simp at u;omega) (by omega),aq7 _⟩
   .rintro⟨h,L⟩;obtain⟨j,u,rfl⟩:=ary L;have W:i<=j:=by
     rcases arI j i with k|k
     .have:=A j u k;omega
     .exact k
    refine arh (i:=j-i) ?_;rw[arC,show i+(j-i)=j by omega,aq2 u]
  unfold bz;simp only;rw[asX];simp only[aq3,decide_eq_true_eq];by_cases k:fr<=d
  .rw[bw k,bw (by omega),decide_eq_true_eq,decide_eq_true_eq,Y];exact⟨λh=>⟨by omega,h⟩,λh=>h.2⟩
  .rw[aR k,decide_eq_true_eq,m];by_cases J:p.fr<=d
   .rw[bw J,decide_eq_true_eq];constructor
    .rintro⟨a,b⟩;have:=F d b;omega
    .rintro⟨a,b⟩;omega
   .rw[aR J,decide_eq_true_eq]
structure LQ(p:aE)(H:aj)(b0 bq:Nat)(fr:Int)(c cq:C)(hd jt:List Int)(J:aj):Prop where
 hb:b0=H.length
 kp:∀i:Nat,i<b0->J[i]?=H[i]?
 bp:J[b0]?=aa (.box [.f (sl p.hg (ints p.head)),.f (fi p.fr),.f (fi p.aH),.f (sl p.cg (ints p.aZ))] 0)
 br:J[b0+1]?=aa (.box [.f .aw,.f (fi 0),.f (fi 0),.f .aw] 0)
 bx:J[bq]?=aa (.box [c,.f (fi fr),.f (fi p.aH),cq] 0)
 big:b0+1<bq
 lc:LR J c 1 (ints hd)
 lq:LR J cq 1 (ints jt)
 ne:∀i,aT c=aa i->aT cq≠aa i
 cb:∀i,aT c=aa i->b0+1<i
 qb:∀i,aT cq=aa i->b0+1<i
theorem LQ.app{p:aE}{H:aj}{b0 v:Nat}{fr:Int}{c E:C}{hd jt:List Int}{J:aj}(h:LQ p H b0 v fr c E hd jt J)(hl:jt.length<=1000000)(n:Int) :
  ∃m j,bJ (J++[.box [.f (fi n)] 0]) 1 8 (.c E) (.c (.sl J.length 0 1 1 0 1))=aa (.c m,j)/\dC j (.ptr v 3 0) [m]=aa (j.set v (.box [c,.f (fi fr),.f (fi p.aH),m] 0))/\LQ p H b0 v fr c m hd (jt++[n]) (j.set v (.box [c,.f (fi fr),.f (fi p.aH),m] 0)):=by
 obtain⟨B,b⟩:=aQ (J++[.box ([fi n].map .f) 0]:aj);have M:=av h.bx;have hg:=h.big;have up:∀(i:Nat) y,J[i]?=aa y->B[i]?=aa y:=λi y hy=>by rw[b,aq1 (av hy)];exact hy
 have x:LR B E 1 (ints jt):=by rw[b];exact h.lq.push _
 have F:B[J.length]?=aa (.box ([fi n].map .f) 0):=by rw[b];simp
 obtain⟨m,j,l,s,q,A⟩:=x.app (Km.Ord.cr jt) (by decide) (row:=[fi n]) rfl (bytes:=8) (dW (by simp[ints];omega) (by decide)) F;have h2:B.length=J.length+1:=by rw[b];simp
 have u:∀(i:Nat) y,J[i]?=aa y->lG y=ae->j[i]?=aa y:=λi y hy L=>q.2 i y (up _ _ hy) (lE x (up _ _ hy) L);have d:=u _ _ h.bx rfl;have K:ints jt++[[fi n]]=ints (jt++[n]):=by simp[ints]
 rw[K]at s;have z:LR j c 1 (ints hd):=h.lc.bE λi y hy hi=>q.2 i y (up _ _ hy) (h.ne i hi);refine⟨m,j,by rw[b]at l;exact l,by simp[dC,d,bR],h.hb,λi hi=>?_,?_,?_,aq6 (av d),hg,z.set (z.bI d) _,s.set (s.bI d) _,?_,h.cb,?_⟩
 .rw[aq0 (by omega),<-h.kp i hi];have I:i<J.length:=by omega
  have hy:J[i]?=aa J[i]:=aq2 I;rw[hy];exact q.2 i _ (up _ _ hy) (λe=>by have:=h.qb i e;omega)
 .rw[aq0 (by omega)];exact u _ _ h.bp rfl
 .rw[aq0 (by omega)];exact u _ _ h.br rfl
 .intro i hi g;rcases A with e|e
  .rw[e]at g;exact h.ne i hi g
  .rw[e]at g;cases g;have:=h.lc.lt hi;omega
 .intro i hi;rcases A with e|e
  .rw[e]at hi;exact h.qb i hi
  .rw[e]at hi;cases hi;omega
theorem xT(p:aE)(hp:cm p=ae)(m7:p.aZ.length<=1000000)(hl:p.head.length<=1000000)(m:Int)(h_:0<=m)(i6:m<=1099511627776)(H:aj) :
  ∃r H',Ev tab (.fn 193) [.a (p.row.map .f),vi m] H r H'/\(∃fr c b hd l2,r=.a [c,.f (fi fr),.f (fi p.aH),b]/\fr=max p.fr m/\H.length<=H'.length/\(∀i:Nat,i<H.length->H'[i]?=H[i]?)/\LR H' c 1 (ints hd)/\LR H' b 1 (ints l2)/\(∀i,aT c=aa i->aT b≠aa i)/\(∀i,aT c=aa i->H.length<=i)/\(∀i,aT b=aa i->H.length<=i)/\
   hd.length<=p.head.length/\l2.length=p.aZ.length/\∀S L:Tg,cm ⟨S,hd,fr,p.aH,L,l2⟩=ae/\∀d,0<=d->bz ⟨S,hd,fr,p.aH,L,l2⟩ d=(decide (m<=d)&&bz p d)):=by
 obtain⟨q1,q2,q3,q4,q5,q6,q7,q8,q9⟩:=aY hp;obtain⟨i,hi,j4,i8,e_⟩:=fW p.hg p.head m (by omega) q6;obtain⟨fr,O⟩:=aQ (max p.fr m);have d6:max p.fr m=fr:=O.symm;refine cz rfl rfl λQ hQ=>?_;apply ai;simp[aE.row];obtain⟨A,s⟩:=aQ (H++[.box [.f (sl p.hg (ints p.head)),.f (fi p.fr),.f (fi p.aH),.f (sl p.cg (ints p.aZ))] 0,.box [.f .aw,.f (fi 0),.f (fi 0),.f .aw] 0]:aj);obtain⟨b0,v⟩:=aQ (H.length);rw[<-s,<-v];have a0:A[b0]?=aa (.box [.f (sl p.hg (ints p.head)),.f (fi p.fr),.f (fi p.aH),.f (sl p.cg (ints p.aZ))] 0):=by rw[s,v];simp
 have a1:A[b0+1]?=aa (.box [.f .aw,.f (fi 0),.f (fi 0),.f .aw] 0):=by rw[s,v,arc (by omega)];simp
 have al:A.length=b0+2:=by rw[s,v];simp
 have ak:∀i:Nat,i<b0->A[i]?=H[i]?:=λi hi=>by rw[s,aq1 (by omega)]
 have I:∀J:aj,J[b0]?=aa (.box [.f (sl p.hg (ints p.head)),.f (fi p.fr),.f (fi p.aH),.f (sl p.cg (ints p.aZ))] 0)->bF J ab (.c (.ptr b0 0 0))=aa (.c (.f (sl p.hg (ints p.head))))/\bF J ab (.c (.ptr b0 1 0))=aa (vi p.fr)/\bF J ab (.c (.ptr b0 2 0))=aa (vi p.aH)/\bF J ab (.c (.ptr b0 3 0))=aa (.c (.f (sl p.cg (ints p.aZ)))):=λJ h=>by
  refine⟨?_,?_,?_,?_⟩<;>simp[bF,aK,h]
 obtain⟨e0,e1,e2,e3⟩:=I A a0;obtain⟨g1,F⟩:=vZ (H:=A) (g:=p.hg) (k:=i) (Km.Ord.cr p.head) (by simp[ints];omega) (by simp[ints];omega);have i7:(ints p.head).drop i=ints (p.head.drop i):=by simp[ints,List.map_drop]
 rw[i7]at F;obtain⟨c,Jc,E,b7,c_⟩:=pK (H:=A) (g:=g1) (p.head.drop i) (by simp;omega);obtain⟨HJ,N⟩:=aQ (A++Jc:aj);rw[<-N]at E b7;have u:∀k:Nat,k<b0+2->HJ[k]?=A[k]?:=λk q=>by rw[N,aq1 (by omega)]
 have lJ:b0+2<=HJ.length:=by rw[N,ara];omega
 obtain⟨f0,f1,f2,f3⟩:=I HJ (by rw[u b0 (by omega)];exact a0);apply ai;simp[e0,-aD,e_];refine an (eu (.inl rfl) ?_ ?_)
 case refine_2=>
  intro cc f_;have f9:cc=(6,4)\/cc=(10,4):=by simpa using f_
  rcases f9 with rfl|rfl
  .refine⟨by decide,_,rfl,.inr ⟨by decide,?_⟩⟩;simp[e0,e1,f1,-aD,F,E,fY,pI]
  .refine⟨by decide,_,rfl,.inr ⟨by decide,?_⟩⟩;simp[e0,e1,e2,f1,f2,-aD,F,E,d6,fY,pI]
 simp[e0,f1,f2,-aD,F,E,d6];obtain⟨K,d5⟩:=aQ (HJ.length);obtain⟨HK,B⟩:=aQ (HJ++[cH.box [c,.f (fi fr),.f (fi p.aH),.f .aw] 0]);have a_:LQ p H b0 K fr c (.f .aw) (p.head.drop i) [] HK:=by
  have w:∀k:Nat,k<b0+2->HK[k]?=A[k]?:=λk q=>by rw[B,aq1 (by omega),u k q]
  refine⟨v,λk q=>by rw[w k (by omega),ak k q],by rw[w b0 (by omega)];exact a0,by rw[w (b0+1) (by omega)];exact a1,by rw[B,d5];simp,by omega,by rw[B];exact b7.push _,LR.nil _ _,(λi hi h=>by cases h),λk q=>by have:=c_ k q;omega,(λk q=>by cases q)⟩
 rw[<-d5,<-B];have d_:∀H:aj,aV H (.f (sl p.cg (ints p.aZ)))=aa p.aZ.length:=λH=>by simp[ints]
 have i9:=(I HK a_.bp).2.2.2;apply an;apply ai;simp[i9,-aD,d_];refine cC p.aZ.length (λi' t J=>t.g 2=.c (.ptr b0 0 0)/\t.g 4=.c (.ptr (b0+1) 0 0)/\t.g 7=.c (.ptr K 0 0)/\t.g 30=.c (.f (sl p.cg (ints p.aZ)))/\∃b,LQ p H b0 K fr c b (p.head.drop i) (eF p.fr fr p.aH (p.aZ.take i')) J) (by omega) (by decide) (by decide) (by simp) (by simp)
  ⟨by simp,by simp,by simp,by simp,.f .aw,by simpa[eF]using a_⟩ ?_ ?_
 .rintro j t J hj ⟨g2,g4,g7,M,b,l⟩ ha hb next
  have g_:=q9 _ (aq7 hj);have d8:=λH:aj=>bO (H:=H) (g:=p.cg) (rows:=ints p.aZ) (sz:=1) (k:=.i64) (i:=(j:Int)) (by omega) (by simp[ints];omega);have d9:=λH:aj=>dJ (H:=H) hj;simp at d8;obtain⟨x,hx⟩:=aQ (p.aZ[j]);rw[<-hx]at g_ d9;have j_:p.aZ.take (j+1)=p.aZ.take j++[x]:=by rw[arD,aq2 hj,hx];rfl
  have d7:=yB (p.fr+x-fr) p.aH (by omega) (by omega);obtain⟨c3,H3,c9,j9,j8⟩:=l.app (by simp[eF];omega) ((p.fr+x-fr) % p.aH);have Y:bF J ab (.c (.ptr K 3 0))=aa (.c b):=by simp[bF,aK,l.bx]
  have l_:bF J ab (.c (.ptr K 1 0))=aa (vi fr):=by simp[bF,aK,l.bx]
  obtain⟨-,j1,j2,-⟩:=I J l.bp;refine az ?_;apply ai;simp[ha,M,d8,d9];refine aq (.inl rfl) ?_;simp[g2,g7,Y,l_,j1,j2,-aD,aM (n:=p.fr+x),aM (n:=p.fr+x-fr),d7,c9,j9,-bC];refine ay (next _ _ ?_ (by simp[ha]) (by simp[hb]));refine⟨by simp[g2],by simp[g4],by simp[g7],by simp[M],c3,?_⟩;rw[j_];simpa[eF]using j8
 .rintro t J ⟨g2,g4,g7,M,b,l⟩ - -;rw[arz]at l;obtain⟨r,Z,he,rfl,hK,l2,a8,W,i_⟩:=aad l.lq (by simp[eF];omega);have up:∀(k:Nat) y,J[k]?=aa y->lG y=ae->Z[k]?=aa y:=λk y X hn=>hK.2 k y X (lE l.lq X hn);have f8:=up _ _ l.bx rfl;have z:=up _ _ l.br rfl;have b_:LR Z c 1 (ints (p.head.drop i)):=l.lc.bE λk y X q=>hK.2 k y X (l.ne k q);have Y:bF J ab (.c (.ptr K 3 0))=aa (.c b):=by simp[bF,aK,l.bx]
  have k_:bF Z (aa 4) (.c (.ptr K 0 0))=aa (.a [c,.f (fi fr),.f (fi p.aH),b]):=by simp[bF,aK,f8,bf]
  have s1:dC Z (.ptr (b0+1) 0 0) [c,.f (fi fr),.f (fi p.aH),b]=aa (Z.set (b0+1) (.box [c,.f (fi fr),.f (fi p.aH),b] 0)):=by simp[dC,z,bR]
  have n1:(Z.set (b0+1) (.box [c,.f (fi fr),.f (fi p.aH),b] 0))[b0+1]?=aa (.box [c,.f (fi fr),.f (fi p.aH),b] 0):=aq6 (av z);have c5:=b_.set (b_.bI z) (.box [c,.f (fi fr),.f (fi p.aH),b] 0);have c6:=a8.set (a8.bI z) (.box [c,.f (fi fr),.f (fi p.aH),b] 0);have m8:=av z;apply ai;simp[g7,Y,-aD,he.eq];apply ai;simp[g4,g7,k_,s1,-aD,-bC];have U:=λS L=>KY hp h_ hi j4 i8 O W i_ i6 S L;refine aB (hQ _ _ (.a [c,.f (fi fr),.f (fi p.aH),b]) rfl ?_ ⟨fr,c,b,p.head.drop i,l2,rfl,O,by simp;omega,λk q=>?_,c5,c6,l.ne,λk q=>by have:=l.cb k q;omega,λk q=>by have:=l.qb k q;omega,by simp,(U .nil .nil).2.2,λS L=>⟨(U S L).1,(U S L).2.1⟩⟩)
  .simp[Km.results,bQ,aX,g4,n1,bf]
  .rw[aq0 (by omega),<-l.kp k (by omega)];have j7:k<J.length:=by have:=av l.bp;omega
   have X:J[k]?=aa J[k]:=aq2 j7;rw[X];exact hK.2 k _ X (λe=>by have:=l.qb k e;omega)
theorem rM{J:aj}{c:C}{l:List Int}(h:LR J c 1 (ints l)){j:Nat}(B:j<l.length):∃b g,aT c=aa b/\bg J 1 ab (.c c) (vi j)=aa (.c (.ptr b j g))/\bF J ab (.c (.ptr b j g))=aa (vi l[j])/\
  ∀x:Int,∃J',dC J (.ptr b j g) [.f (fi x)]=aa J'/\LR J' c 1 (ints (l.set j x))/\J'.length=J.length/\∀i:Nat,i≠b->i<J.length->J'[i]?=J[i]?:=by
 rcases h with⟨A,_⟩|⟨s,b,g,rfl,q⟩
 .cases l with
  |nil=>simp at B| cons a l=>simp[ints]at A
 .have d:j<(ints l).length:=by simp[ints];omega
  have u:=q.at d;have m:(ints l)[j]=[fi l[j]]:=by simp[ints]
  have v:=q.ldc (Km.Ord.cr l) (aq2 d) (k:=0) (x:=fi l[j]) (by rw[m];rfl);rw[asZ]at u v;refine⟨b,g,rfl,u,v,λx=>?_⟩
  .obtain⟨J',y,z,F,H⟩:=q.str (row:=[fi x]) (Km.Ord.cr l) d rfl;rw[asZ]at y;have e:(ints l).set j [fi x]=ints (l.set j x):=by simp[ints,List.map_set]
   rw[e]at z;refine⟨J',y,.inr ⟨?_,b,g,by simp[ints],z⟩,H,λi hi E=>F.2 i hi E⟩;intro h;apply s;have:=congrArg List.length h;simp[ints]at this;rw[this];rfl
theorem an0{J:aj}{c:C}{l:List Int}(h:LR J c 1 (ints l)):∀(i:Nat) (y:cH),J[i]?=aa y->aT c≠aa i->(fk deep c J)[i]?=aa y:=by
 rcases h with⟨_,rfl|rfl⟩|⟨u,b,s,rfl,q⟩
 .intro i y d _;exact d
 .intro i y d _;exact d
 .unfold RB at q;intro i y d hi;have g:b≠i:=λe=>hi (by rw[e];rfl);have e:∃z,fk deep (.sl b 0 (ints l).length 0 s 1) J=J.set b z:=by
   simp only[deep,mz,q];rw[jb]
   .exact⟨_,rfl⟩
   .intro x j;have j:=ar5 (ass j);obtain⟨m,_,rfl⟩:=arx.1 j;exact⟨_,rfl⟩
  obtain⟨z,v⟩:=e;rw[v,aq0 g];exact d
theorem BD{a b:Int}(y:1<=a)(a1:a<=1000000)(b0:1<=b)(m:b<=1000000):bH tab 121 [vi a,vi b]=Eq (.t [vi (a / (arU a b:Int)*b),vi 0]):=by
 obtain⟨g,l⟩:=aQ ((arU a b:Int):Int);have j:arU a b=asn a.toNat b.toNat:=by
  show asn a.natAbs b.natAbs=_;rw[show a.natAbs=a.toNat by omega,show b.natAbs=b.toNat by omega]
 have q:0<g:=by have:=asb b (show a≠0 by omega);omega
 have d:bH tab 88 [vi a,vi b]=Eq (vi g):=by
  have h:=rJ (a:=a.toNat) (b:=b.toNat) (by omega) (by omega);rw[show((a.toNat:Nat):Int)=a by omega,show((b.toNat:Nat):Int)=b by omega,<-j,<-l]at h;exact h
 rw[<-l];have v:bL .quo (vi a) (vi g)=aa (vi (a / g)):=eB (by omega) q (by omega);have x:bL .quo (vi 1099511627776) (vi b)=aa (vi (1099511627776 / b)):=eB (by omega) (by omega) (by omega);have s:0<=a / g:=arW (by omega) (by omega);have z:a / g<=a:=asv _ (by omega);have A:a / g<=1099511627776 / b:=by
  have:1000000<=1099511627776 / b:=by rw[Int.le_ediv_iff_mul_le (by omega)];omega
  omega
 have B:0<=a / g*b:=arS s (by omega);have E:a / g*b<=1000000*1000000:=asS (by omega) m (by omega) (by omega);refine bH.eq (bD rfl rfl λQ u=>?_);apply ai;simp;apply an;apply ai;simp[show¬ a<1 by omega,show¬ b<1 by omega];refine ba (by simp) ?_;apply ai;simp[d,v];apply an;apply ai;simp[x,show¬ 1099511627776 / b<a / g by omega];refine ba (by simp) ?_;apply ai;simp[aM (n:=a / g*b)];refine aB (u _ _ ?_);simp
theorem uI(p:aE)(u:cm p=ae)(H:p.aZ.length<=1000000)(I:p.head.length<=1000000)(n:Int)(s:0<=n)(J:n<=1000000):∃k:Int,0<=k/\k<=p.head.length+n+p.aZ.length/\bH tab 165 [.a (p.row.map .f),vi n]=Eq (vi k):=by
 obtain⟨K,L,M,N,O,y,S,j,z⟩:=aY u;by_cases k:n<=p.fr
 .obtain⟨i,q,-,-,b⟩:=fW p.hg p.head n (by omega) y;refine⟨i,by omega,by omega,bH.eq (bD rfl rfl λQ d=>?_)⟩;apply ai;simp[aE.row];apply an;apply ai;simp[k];refine au (by simp) ?_;apply ai;simp[b];apply ai;simp;refine aB (d _ _ ?_);simp
 .obtain⟨i,q,-,-,b⟩:=fW p.cg p.aZ ((n-p.fr) % p.aH) (by omega) j;have l:bL .rem (vi (n-p.fr)) (vi p.aH)=aa (vi ((n-p.fr) % p.aH)):=dY (by omega) (by omega);have m:bL .quo (vi (n-p.fr)) (vi p.aH)=aa (vi ((n-p.fr) / p.aH)):=eB (by omega) (by omega) (by omega);have g:0<=(n-p.fr) / p.aH:=arW (by omega) (by omega);have A:(n-p.fr) / p.aH<=n-p.fr:=asv _ (by omega);have B:0<=(n-p.fr) / p.aH*(p.aZ.length:Int):=arS g (by omega);have F:=dT p.aZ 0 p.aH j λx v=>by have:=z x v;omega
  have E:(n-p.fr) / p.aH*(p.aZ.length:Int)<=n-p.fr:=ar1 (ari (by omega) g) (Int.ediv_mul_le _ (by omega));refine⟨p.head.length+(n-p.fr) / p.aH*(p.aZ.length:Int)+i,by omega,by omega,bH.eq (bD rfl rfl λQ d=>?_)⟩;apply ai;simp[aE.row];apply an;apply ai;simp[k];refine ba (by simp) ?_;apply ai;simp[aM (n:=n-p.fr),l,b];apply ai;simp[aM (n:=n-p.fr),m,aM (n:=(n-p.fr) / p.aH*(p.aZ.length:Int)),aM (n:=(p.head.length:Int)+(n-p.fr) / p.aH*(p.aZ.length:Int)),aM (n:=(p.head.length:Int)+(n-p.fr) / p.aH*(p.aZ.length:Int)+i)];refine aB (d _ _ ?_);simp
theorem rp{b:Type}{f:b->b->Bool}:∀{xs:List b},(∀x∈xs,f x x=ae)->nH f xs xs=ae
 |[],_=>rfl| x::xs,h=>by simp only[nH,h x arl,rp λy d=>h y (List.mem_cons_of_mem _ d),Bool.and_self]
def Rf(n:Nat)(x:FC):Prop:=FC.beq n x x=ae
theorem Av(n:Nat)(k:IntKind)(m:Int):Rf n (.int k m):=by unfold Rf;cases n<;>simp[FC.beq]
theorem aoS{n:Nat}{xs:List FC}{l:Nat}(h:∀x∈xs,Rf n x):Rf (n+1) (.fs xs l):=by unfold Rf;simp[FC.beq,rp h]
theorem Z1{n:Nat}{rows:List (List FC)}(g:Tg)(h:∀r∈rows,∀x∈r,Rf n x):Rf (n+1) (sl g rows):=by
 unfold sl;split
 .unfold Rf;cases g<;>rfl
 .exact aoS λx b=>by
   obtain⟨r,d,b⟩:=List.mem_flatten.1 b;exact h r d x b
theorem BG(n:Nat)(g:Tg)(l:List Int):Rf (n+1) (sl g (ints l)):=Z1 g λr d x b=>by
 obtain⟨k,-,rfl⟩:=arx.1 d;simp at b;subst b;exact Av _ _ _
theorem Z0{n:Nat}(p:aE):∀x∈p.row,Rf (n+1) x:=by
 intro x b;simp[aE.row]at b;rcases b with rfl|rfl|rfl|rfl
 .exact BG _ _ _
 .exact Av _ _ _
 .exact Av _ _ _
 .exact BG _ _ _
theorem AY:∀{xs:List FC},(∀x∈xs,Rf 64 x)->V.beq (.a (xs.map .f)) (.a (xs.map .f))=ae:=by
 intro xs h;simp only[V.beq,aq3,beq_self_eq_true,true_and,ars];intro q b;obtain⟨i,hi,rfl⟩:=ary b;rw[List.getElem_zip];simp only[as2,C.beq];exact h _ (aq7 _)
theorem AZ(p:aE):V.beq (.a [.f (sl p.hg (ints p.head)),.f (fi p.fr),.f (fi p.aH),.f (sl p.cg (ints p.aZ))]) (.a [.f (sl p.hg (ints p.head)),.f (fi p.fr),.f (fi p.aH),.f (sl p.cg (ints p.aZ))])=ae:=AY (xs:=p.row) (Z0 (n:=63) p)
def z8(l:List (Int × C)):List (FC × C):=l.map λe=>(fi e.1,e.2)
def K2(k:Int):List (Int × C)->Option C
 |[]=>ab| e::b=>if k=e.1 then aa e.2 else K2 k b
def su(k:Int)(c:C):List (Int × C)->List (Int × C)
 |[]=>[(k,c)]| e::b=>if k=e.1 then(k,c)::b else e::su k c b
theorem vo(a b:Int):eqK .int (fi a) (fi b)=aa (decide (a=b)):=by
 simp only[eqK,if_true];by_cases h:a=b
 .simp[h]
 .simp[h]
theorem A8(k:Int):∀l,ie .int (fi k) (z8 l)=aa (K2 k l)
 |[]=>rfl
 |e::d=>by
  have b:=A8 k d;simp only[z8,arf,ie,vo,K2]at b ⊢;by_cases h:k=e.1
  .rw[bw h,decide_eq_true h]
  .rw[aR h,decide_eq_false h];exact b
theorem ZV(k:Int)(c:C):∀l,lS .int (fi k) c (z8 l)=aa (z8 (su k c l))
 |[]=>rfl
 |e::d=>by
  have b:=ZV k c d;simp only[z8,arf,lS,vo,su]at b ⊢;by_cases h:k=e.1
  .rw[bw h,decide_eq_true h];rfl
  .rw[aR h,decide_eq_false h];simp only[b];rfl
theorem Y_(k k':Int)(c:C):∀l,K2 k' (su k c l)=if k'=k then aa c else K2 k' l
 |[]=>by simp[su,K2]
 |e::d=>by
  have g:=Y_ k k' c d;unfold su;by_cases h:k=e.1
  .rw[bw h];by_cases b:k'=k
   .simp[K2,b]
   .have:¬ k'=e.1:=by omega
    simp[K2,b,this]
  .rw[aR h];unfold K2;rw[g];by_cases b:k'=e.1
   .have:¬ k'=k:=by omega
    simp[b,this];intro e;omega
   .simp[b]
def md(l:List (Int × C))(k:Int):C:=(K2 k l).getD (.f .aw)
theorem vk(l:List (Int × C))(k k':Int)(c:C):md (su k c l) k'=if k'=k then c else md l k':=by
 unfold md;rw[Y_];by_cases h:k'=k<;>simp[h]
structure jD(J:aj)(N:Nat)(l:List (Int × C))(F:Int->List Int):Prop where
 lr:∀k,LR J (md l k) 1 (ints (F k))
 lo:∀k i,aT (md l k)=aa i->N<=i
 ne:∀k k' i,k≠k'->aT (md l k)=aa i->aT (md l k')≠aa i
theorem jD.bE{J J':aj}{N:Nat}{l:List (Int × C)}{F:Int->List Int}(h:jD J N l F)(b:∀i y,N<=i->J[i]?=aa y->J'[i]?=aa y):jD J' N l F:=
 ⟨λk=>(h.lr k).bE λi y hy hi=>b i y (h.lo k i hi) hy,h.lo,h.ne⟩
theorem ahd{J:aj}{c:C}{l:List Int}(h:LR J c 1 (ints l)):mV c=.c c/\lQ (.c c)=aa c:=by
 rcases h with⟨_,rfl|rfl⟩|⟨_,b,d,rfl,_⟩<;>exact⟨rfl,rfl⟩
theorem jD.look{J:aj}{N:Nat}{l:List (Int × C)}{F:Int->List Int}(h:jD J N l F){J':aj}{m:Nat}(b:J'[m]?=aa (.map (z8 l)))(k:Int):eO J' .int .aw (.c (.mp m)) (vi k)=aa (.c (md l k)):=by
 have h2:=(ahd (h.lr k)).1;unfold eO;simp only[b,isKey,if_true,A8,arN,Y',lW,md];unfold md at h2;cases hc:K2 k l with
 |none=>rfl| some c=>rw[hc]at h2;simpa using h2
theorem jD.nil(J:aj)(N:Nat):jD J N [] (λ_=>[]):=⟨λ_=>LR.nil _ _,λ_ _ h=>by simp[md,K2,aT]at h,λ_ _ _ _ h=>by simp[md,K2,aT]at h⟩
theorem ng{J:aj}{c:C}{l:List Int}(h:LR J c 1 (ints l))(F:l.length<=1000000000)(n:Int) :
  ∃j g,bJ (J++[.box [.f (fi n)] 0]) 1 8 (.c c) (.c (.sl J.length 0 1 1 0 1))=aa (.c j,g)/\LR g j 1 (ints (l++[n]))/\J.length<g.length/\(∀(i:Nat) y,J[i]?=aa y->aT c≠aa i->g[i]?=aa y)/\(aT j=aT c\/aT j=aa (J.length+1)):=by
 obtain⟨u,b⟩:=aQ (J++[.box ([fi n].map .f) 0]:aj);have E:∀(i:Nat) y,J[i]?=aa y->u[i]?=aa y:=λi y v=>by rw[b,aq1 (av v)];exact v
 have x:LR u c 1 (ints l):=by rw[b];exact h.push _
 have z:u[J.length]?=aa (.box ([fi n].map .f) 0):=by rw[b];simp
 have B:u.length=J.length+1:=by rw[b];simp
 obtain⟨j,g,d,q,m,s⟩:=x.app (Km.Ord.cr l) (by decide) (row:=[fi n]) rfl (bytes:=8) (by simp[cJ,ints];omega) z;have A:ints l++[[fi n]]=ints (l++[n]):=by simp[ints]
 rw[A]at q;refine⟨j,g,by rw[b]at d;exact d,q,by have:=m.1;omega,λi y v hi=>m.2 i y (E i y v) hi,?_⟩;rw[B]at s;exact s
theorem jD.app{J:aj}{N m:Nat}{l:List (Int × C)}{F:Int->List Int}(h:jD J N l F)(W:J[m]?=aa (.map (z8 l)))(O:m<N)(X:N<=J.length)(k:Int)(hl:(F k).length<=1000000000)(n:Int) :
  ∃g j,bJ (J++[.box [.f (fi n)] 0]) 1 8 (.c (md l k)) (.c (.sl J.length 0 1 1 0 1))=aa (.c g,j)/\lQ (.c g)=aa g/\j[m]?=aa (.map (z8 l))/\(∀i:Nat,i<N->j[i]?=J[i]?)/\
   jD (j.set m (.map (z8 (su k g l)))) N (su k g l) (λk'=>if k'=k then F k++[n]else F k')/\N<=(j.set m (.map (z8 (su k g l)))).length:=by
 obtain⟨g,j,v,u,S,A,z⟩:=ng (h.lr k) hl n;have U:∀i:Nat,i<N->j[i]?=J[i]?:=λi hi=>by
  have L:i<J.length:=by omega
  have hy:J[i]?=aa J[i]:=aq2 L;rw[hy];exact A i _ hy λe=>by have:=h.lo k i e;omega
 have d:∀i,aT g=aa i->N<=i:=λi hi=>by
  rcases z with e|e
  .rw[e]at hi;exact h.lo k i hi
  .rw[e]at hi;cases hi;omega
 have M:j[m]?=aa (.map (z8 l)):=by rw[U m O];exact W
 refine⟨g,j,v,(ahd u).2,M,U,⟨λk'=>?_,λk' i hi=>?_,λQ I i B hi=>?_⟩,by rw[arQ];omega⟩
 .rw[vk];by_cases e:k'=k
  .rw[bw e,bw e];exact u.set (λx=>by have:=d m x;omega) _
  .rw[aR e,aR e];refine LR.set ((h.lr k').bE λi y hy hi=>A i y hy (h.ne k' k i e hi)) (λx=>by have:=h.lo k' m x;omega) _
 .rw[vk]at hi;by_cases e:k'=k
  .rw[bw e]at hi;exact d i hi
  .rw[aR e]at hi;exact h.lo k' i hi
 .rw[vk]at hi ⊢;have b:∀E,E≠k->∀i,aT (md l E)=aa i->aT g≠aa i:=λE K i hi e=>by
   rcases z with q|q
   .rw[q]at e;exact h.ne E k i K hi e
   .rw[q]at e;cases e;have:=(h.lr E).lt hi;omega
  by_cases H:Q=k
  .have s:¬ I=k:=λe=>B (H.trans e.symm);rw[bw H]at hi;rw[aR s];exact λq=>b I s i q hi
  .rw[aR H]at hi;by_cases s:I=k
   .rw[bw s];exact b Q H i hi
   .rw[aR s];exact h.ne Q I i B hi
theorem qS(t:T)(H:aj):bG t H .ik=aa (.c (.mp H.length),H++[.map []]):=rfl
theorem fA(t:T)(H:aj)(b:CK)(z:FC)(m k:Arg):bG t H (.lookup b z m k)=(eO H b z (m.ev t) (k.ev t)).map (·,H):=rfl
def mu(H:aj)(g:CK):V->V->V->Option (V × aj)
 | .c (.mp b),.c (.f k),v=>match lQ v,H[b]? with
  |some v,aa (.map d)=>if isKey g k then(lS g k v d).map λd=>(.top,H.set b (.map d))else ab
  |_,_=>ab
 |_,_,_=>ab
theorem pk(t:T)(H:aj)(b:CK)(m k v:Arg):bG t H (.iO b m k v)=mu H b (m.ev t) (k.ev t) (v.ev t):=by
 simp only[bG];unfold mu;split<;>split<;>simp_all
 all_goals (split<;>simp_all)
def bW(b d:aE)(st:Int)(j l:C)(g:Int)(m:Nat):List C:=[.f (sl b.hg (ints b.head)),.f (fi b.fr),.f (fi b.aH),.f (sl b.cg (ints b.aZ)),.f (sl d.hg (ints d.head)),.f (fi d.fr),.f (fi d.aH),.f (sl d.cg (ints d.aZ)),.f (fi st),j,l,.f (fi g),.mp m]
def yU:List C:=[.f .aw,.f (fi 0),.f (fi 0),.f .aw,.f .aw,.f (fi 0),.f (fi 0),.f .aw,.f (fi 0),.f .aw,.f .aw,.f (fi 0),.f .nD]
def fq(g:Int)(Y:List Int)(k:Int):List Int:=Y.filter λy=>decide (y % g=k)
structure PH(J:aj)(N:Nat)(X Y:List Int)(g:Int)(l:List (Int × C))(cx cy:C)(m:Nat):Prop where
 lx:LR J cx 1 (ints X)
 ly:LR J cy 1 (ints Y)
 mp:J[m]?=aa (.map (z8 l))
 ok:jD J N l (fq g Y)
theorem PH.bE{J J':aj}{N:Nat}{X Y:List Int}{g:Int}{l:List (Int × C)}{d j:C}{m:Nat}(h:PH J N X Y g l d j m)(q:∀i:Nat,i<J.length->J'[i]?=J[i]?):PH J' N X Y g l d j m:=by
 have b:∀(i:Nat) y,J[i]?=aa y->J'[i]?=aa y:=λi y hy=>by rw[q i (av hy)];exact hy
 exact⟨h.lx.bE λi y hy _=>b i y hy,h.ly.bE λi y hy _=>b i y hy,b _ _ h.mp,h.ok.bE λi y _ hy=>b i y hy⟩
def ri(q:aE)(st:Int)(X:List Int):Prop:=X.length=q.aZ.length/\X.Pairwise (· < ·)/\(∀x∈X,0<=x/\x<q.aH)/\∀d,st<=d->(bz q d=ae↔(d-st) % q.aH∈X)
theorem qw{q:aE}{st fr:Int}{hd b:List Int}(v:q.fr<=st)(B:0<=st)(s:fr=max q.fr st)(u:b.length=q.aZ.length)(h:∀j g:Tg,cm ⟨j,hd,fr,q.aH,g,b⟩=ae/\∀d,0<=d->bz ⟨j,hd,fr,q.aH,g,b⟩ d=(decide (st<=d)&&bz q d)):ri q st b:=by
 obtain⟨l,m⟩:=h .nil .nil;obtain⟨E,F,H,I,J,K,L,z,A⟩:=aY l;have e:fr=st:=by omega
 subst e;refine⟨u,z,λx y=>by have:=A x y;exact⟨by omega,this.2⟩,λd hd=>?_⟩;have:=m d (by omega);rw[decide_eq_true hd,Bool.true_and]at this;rw[<-this];unfold bz;simp only;rw[bw hd,decide_eq_true_eq]
structure NQ(H:aj)(qa qb:aE)(st:Int)(X Y:List Int)(g:Int)(N bp m j:Nat)(cx cy:C)(l:List (Int × C))(J:aj):Prop where
 kp:∀i:Nat,i<H.length->J[i]?=H[i]?
 br:J[H.length+2]?=aa (.box yU 0)
 bp:J[bp]?=aa (.box (bW qa qb st cx cy g m) 0)
 lx:LR J cx 1 (ints X)
 ly:LR J cy 1 (ints Y)
 mp:J[m]?=aa (.map (z8 l))
 ok:jD J N l (fq g (Y.take j))
 len:N<=J.length
theorem K8{a b c:Int}:vF ag [vi a,vi b,vi c]=aa (vi (max (max a b) c)):=by
 have d:(if a<b then b else a)=max a b:=by split<;>omega
 have g:(if max a b<c then c else max a b)=max (max a b) c:=by split<;>omega
 simp only[vF,qu,uB];simp[d,g,V.int]
structure LdP(J:aj)(bp:Nat)(qa qb:aE)(st:Int)(cx cy:C)(g:Int)(m:Nat):Prop where
 la:bF J (aa 4) (.c (.ptr bp 0 0))=aa (.a [.f (sl qa.hg (ints qa.head)),.f (fi qa.fr),.f (fi qa.aH),.f (sl qa.cg (ints qa.aZ))])
 lb:bF J (aa 4) (.c (.ptr bp 4 0))=aa (.a [.f (sl qb.hg (ints qb.head)),.f (fi qb.fr),.f (fi qb.aH),.f (sl qb.cg (ints qb.aZ))])
 laf:bF J ab (.c (.ptr bp 1 0))=aa (vi qa.fr)
 lap:bF J ab (.c (.ptr bp 2 0))=aa (vi qa.aH)
 lbf:bF J ab (.c (.ptr bp 5 0))=aa (vi qb.fr)
 lbp:bF J ab (.c (.ptr bp 6 0))=aa (vi qb.aH)
 jt:bF J ab (.c (.ptr bp 8 0))=aa (vi st)
 lx:bF J ab (.c (.ptr bp 9 0))=aa (.c cx)
 ly:bF J ab (.c (.ptr bp 10 0))=aa (.c cy)
 lg:bF J ab (.c (.ptr bp 11 0))=aa (vi g)
 lm:bF J ab (.c (.ptr bp 12 0))=aa (.c (.mp m))
 zS:bF J (aa 13) (.c (.ptr bp 0 0))=aa (.a (bW qa qb st cx cy g m))
 s8:∀z:Int,dC J (.ptr bp 8 0) [.f (fi z)]=aa (J.set bp (.box (bW qa qb z cx cy g m) 0))
 s9:∀z:C,dC J (.ptr bp 9 0) [z]=aa (J.set bp (.box (bW qa qb st z cy g m) 0))
 s10:∀z:C,dC J (.ptr bp 10 0) [z]=aa (J.set bp (.box (bW qa qb st cx z g m) 0))
 s11:∀z:Int,dC J (.ptr bp 11 0) [.f (fi z)]=aa (J.set bp (.box (bW qa qb st cx cy z m) 0))
theorem nf{J:aj}{bp:Nat}{j l:aE}{st:Int}{b d:C}{g:Int}{m:Nat}(h:J[bp]?=aa (.box (bW j l st b d g m) 0)):LdP J bp j l st b d g m:=by
 unfold bW at h;constructor<;>simp[bF,aK,h,bf,dC,bR,bW]
theorem uG{j l:aE}{st:Int}{b d:C}{g:Int}{m:Nat}:(bW j l st b d g m).length=13:=rfl
theorem zG{w x y z:C}:rG 3 ab (.a [w,x,y,z])=aa (.c z):=rfl
theorem Ak(a b:aE)(ha:cm a=ae)(hb:cm b=ae)(ca:a.aZ.length<=1000000)(cb:b.aZ.length<=1000000)(la:a.head.length<=1000000)(lb:b.head.length<=1000000)(pa:a.aH<=1000000)(pb:b.aH<=1000000)(H:aj) :
  ∃r H',Ev tab (.fn 162) [.a (a.row.map .f),.a (b.row.map .f),vi 0] H r H'/\(∃d s st X Y v x l m N,lP a d/\lP b s/\d.aZ.length<=a.aZ.length/\s.aZ.length<=b.aZ.length/\d.head.length<=a.head.length/\s.head.length<=b.head.length/\r=.a (bW d s st v x (arU d.aH s.aH:Int) m)/\
   st=max d.fr s.fr/\ri d st X/\ri s st Y/\PH H' N X Y (arU d.aH s.aH:Int) l v x m/\∀i:Nat,i<H.length->H'[i]?=H[i]?):=by
 obtain⟨d,sa,xa,ya,i7⟩:=oy a ha ca la;obtain⟨s,sb,xb,yb,i8⟩:=oy b hb cb lb;obtain⟨d7,n_,m7,o4⟩:=sa;refine cz rfl rfl λQ hQ=>?_;apply ai;simp[aE.row];simp only[aE.row,arf,art]at i7 i8;obtain⟨HA,A⟩:=aQ (H++[.box [.f (sl a.hg (ints a.head)),.f (fi a.fr),.f (fi a.aH),.f (sl a.cg (ints a.aZ))] 0,.box [.f (sl b.hg (ints b.head)),.f (fi b.fr),.f (fi b.aH),.f (sl b.cg (ints b.aZ))] 0,.box yU 0]:aj);obtain⟨b0,z⟩:=aQ (H.length);have a0:HA[b0]?=aa (.box [.f (sl a.hg (ints a.head)),.f (fi a.fr),.f (fi a.aH),.f (sl a.cg (ints a.aZ))] 0):=by rw[A,z];simp
 have a1:HA[b0+1]?=aa (.box [.f (sl b.hg (ints b.head)),.f (fi b.fr),.f (fi b.aH),.f (sl b.cg (ints b.aZ))] 0):=by rw[A,z,arc (by omega)];simp
 have a2:HA[b0+2]?=aa (.box yU 0):=by rw[A,z,arc (by omega)];simp
 have al:HA.length=b0+3:=by rw[A,z];simp
 have ak:∀i:Nat,i<b0->HA[i]?=H[i]?:=λi hi=>by rw[A,aq1 (by omega)]
 unfold yU at A;rw[<-A,<-z];have l0:bF HA (aa 4) (.c (.ptr b0 0 0))=aa (.a [.f (sl a.hg (ints a.head)),.f (fi a.fr),.f (fi a.aH),.f (sl a.cg (ints a.aZ))]):=by simp[bF,aK,a0,bf]
 have l1:bF HA (aa 4) (.c (.ptr (b0+1) 0 0))=aa (.a [.f (sl b.hg (ints b.head)),.f (fi b.fr),.f (fi b.aH),.f (sl b.cg (ints b.aZ))]):=by simp[bF,aK,a1,bf]
 apply ai;simp[l0,l1,-aD,i7,i8,qS,al];obtain⟨m,hm⟩:=aQ (b0+3);obtain⟨bp,i6⟩:=aQ (m+1);obtain⟨HB,I⟩:=aQ (HA++[cH.map [],.box (bW d s 0 (.f .aw) (.f .aw) 0 m) 0]);have b1:HB[m]?=aa (.map []):=by rw[I,hm,arc (by omega),al];simp
 have b2:HB[bp]?=aa (.box (bW d s 0 (.f .aw) (.f .aw) 0 m) 0):=by rw[I,i6,hm,arc (by omega),al];simp
 have bk:∀i:Nat,i<b0+3->HB[i]?=HA[i]?:=λi hi=>by rw[I,aq1 (by omega)]
 have bl:HB.length=b0+5:=by rw[I];simp[al]
 unfold bW at I;rw[<-hm,<-I,<-i6]
 suffices d6:∀t:T,t.g 2=vi 0->t.g 6=.c (.ptr (b0+2) 0 0)->t.g 7=.c (.ptr bp 0 0)->WP tab 162 ab [.code wm] ⟨t,[],HB⟩ Q by exact d6 _ (by simp) (by simp) (by simp)
 intro t g2 g6 E;obtain⟨st,n7⟩:=aQ (max d.fr s.fr);obtain⟨q1,q2,q3,q4,q5,q6,q7,q8,q9⟩:=aY d7;obtain⟨w1,w2,w3,w4,w5,w6,w7,w8,w9⟩:=aY sb.ok;have n5:max (max d.fr s.fr) 0=st:=by omega
 have L1:=nf b2;apply ai;simp[g2,E,L1.laf,L1.lbf,L1.s8,K8,n5,-aD,-bC];obtain⟨HC,K⟩:=aQ (HB.set bp (.box (bW d s st (.f .aw) (.f .aw) 0 m) 0));rw[<-K];have c1:HC[m]?=aa (.map []):=by rw[K,aq0 (by omega)];exact b1
 have c2:HC[bp]?=aa (.box (bW d s st (.f .aw) (.f .aw) 0 m) 0):=by rw[K,aq6 (by omega)]
 have ck:∀i:Nat,i<b0+3->HC[i]?=HA[i]?:=λi hi=>by rw[K,aq0 (by omega),bk i hi]
 have cl:HC.length=b0+5:=by rw[K,arQ];exact bl
 have L2:=nf c2;obtain⟨r1,HD,b7,o9,o5,v,p_,X,rfl,i_,dl,dk,-,f_,-,-,o7,-,f8,hX⟩:=xT d d7 (by omega) (by omega) st (by omega) (by omega) HC;have d2:HD[bp]?=aa (.box (bW d s st (.f .aw) (.f .aw) 0 m) 0):=by rw[dk bp (by omega)];exact c2
 have L3:=nf d2;obtain⟨r2,HE,i9,o_,o6,x,q_,Y,rfl,j4,el,ek,-,g_,-,-,o8,-,f9,hY⟩:=xT s sb.ok (by omega) (by omega) st (by omega) (by omega) HD;have e2:HE[bp]?=aa (.box (bW d s st (.f .aw) (.f .aw) 0 m) 0):=by rw[ek bp (by omega)];exact d2
 have L4:=nf e2;simp only[aE.row,arf,art]at b7 i9;refine an (eu (.inl rfl) ?_ ?_)
 case refine_2=>
  intro cc U;have c6:cc=(7,4)\/cc=(9,4):=by simpa using U
  rcases c6 with rfl|rfl
  .refine⟨by decide,_,rfl,.inr ⟨by decide,?_⟩⟩;simp[E,L2.la,L2.jt,L2.lb,L3.lb,-aD,b7.eq,zG,fY,AZ]
  .refine⟨by decide,_,rfl,.inr ⟨by decide,?_⟩⟩;simp[E,L2.la,L2.jt,L3.lb,L3.jt,-aD,b7.eq,zG,fY,pI]
 obtain⟨HF,L⟩:=aQ (HE.set bp (.box (bW d s st v (.f .aw) 0 m) 0));have f2:HF[bp]?=aa (.box (bW d s st v (.f .aw) 0 m) 0):=by rw[L,aq6 (av e2)]
 have L5:=nf f2;obtain⟨HG,M⟩:=aQ (HF.set bp (.box (bW d s st v x 0 m) 0));have h2:HG[bp]?=aa (.box (bW d s st v x 0 m) 0):=by rw[M,aq6 (av f2)]
 have L6:=nf h2;simp[E,L2.la,L2.jt,L3.lb,L3.jt,-aD,b7.eq,i9.eq,zG,L4.s9,<-L,L5.s10,<-M,-bC];obtain⟨g,hg⟩:=aQ ((arU d.aH s.aH:Int):Int);have r8:d.aH<=1000000:=ar1 (ar2 (by have:=(aY ha).2.2.1;omega) m7) pa;have r9:s.aH<=1000000:=ar1 (ar2 (by have:=(aY hb).2.2.1;omega) sb.aH) pb;have m_:arU d.aH s.aH=asn d.aH.toNat s.aH.toNat:=by
  show asn d.aH.natAbs s.aH.natAbs=_;rw[show d.aH.natAbs=d.aH.toNat by omega,show s.aH.natAbs=s.aH.toNat by omega]
 have g0:0<g:=by have:=asb s.aH (show d.aH≠0 by omega);omega
 have j7:bH tab 88 [vi d.aH,vi s.aH]=Eq (vi g):=by
  have h:=rJ (a:=d.aH.toNat) (b:=s.aH.toNat) (by omega) (by omega);rw[show((d.aH.toNat:Nat):Int)=d.aH by omega,show((s.aH.toNat:Nat):Int)=s.aH by omega,<-m_,<-hg]at h;exact h
 apply ai;simp[E,L6.lap,L6.lbp,L6.s11,j7,-aD,-bC];obtain⟨F,O⟩:=aQ (HG.set bp (.box (bW d s st v x g m) 0));have i2:F[bp]?=aa (.box (bW d s st v x g m) 0):=by rw[O,aq6 (av h2)]
 have L7:=nf i2;rw[<-O];have kE:∀i:Nat,i<b0+5->i≠bp->F[i]?=HC[i]?:=λi hi n6=>by
  rw[O,aq0 (by omega),M,aq0 (by omega),L,aq0 (by omega),ek i (by omega),dk i (by omega)]
 have k_:∀(i:Nat) y,HE[i]?=aa y->i≠bp->F[i]?=aa y:=λi y B n6=>by
  rw[O,aq0 (by omega),M,aq0 (by omega),L,aq0 (by omega)];exact B
 have d5:LR F x 1 (ints Y):=g_.bE λi y B hi=>k_ i y B λe=>g_.bI e2 (e▸hi);have j_:LR F v 1 (ints X):=f_.bE λi y B hi=>k_ i y (by rw[ek i (av B)];exact B) λe=>f_.bI d2 (e▸hi);have iN:F.length=HE.length:=by rw[O,M,L];simp
 have n0:NQ H d s st X Y g F.length bp m 0 v x [] F:=by
  refine⟨λi hi=>?_,?_,i2,j_,d5,?_,by rw[List.take_zero];exact jD.nil _ _,aq9 _⟩
  .rw[kE i (by omega) (by omega),ck i (by omega),ak i (by omega)]
  .rw[<-z,kE (b0+2) (by omega) (by omega),ck _ (by omega)];exact a2
  .rw[kE m (by omega) (by omega)];exact c1
 have d8:bp<F.length:=av i2;have n8:aV F x=aa Y.length:=by have:=d5.len;simpa[ints]using this
 have m8:=qw (st:=st) (by omega) (by omega) i_ f8 hX;have h_:=qw (st:=st) (by omega) (by omega) j4 f9 hY;have p9:Y.length<=1000000:=by omega
 apply an;apply ai;simp[E,L7.ly,-aD,n8];have d_:∀i,aT v=aa i->i<F.length:=λi hi=>j_.lt hi;have e_:∀i,aT x=aa i->i<F.length:=λi hi=>d5.lt hi;generalize p8:F.length=N at n0 d8 d_ e_;refine cC Y.length (λj t J=>t.g 6=.c (.ptr (b0+2) 0 0)/\t.g 7=.c (.ptr bp 0 0)/\t.g 48=.c x/\∃l,NQ H d s st X Y g N bp m j v x l J) (by omega) (by decide) (by decide) (by simp) (by simp)
  ⟨by simp[g6],by simp[E],by simp,[],n0⟩ ?_ ?_
 .rintro j t J hj ⟨g6,E,b_,l,u⟩ ha hb next
  obtain⟨yb,r_,s7,n9,l_,-⟩:=rM u.ly hj;have L8:=nf u.bp;obtain⟨y,B⟩:=aQ (Y[j]);have yb:=h_.2.2.1 _ (aq7 hj);rw[<-B]at l_ yb;have a8:bL .rem (vi y) (vi g)=aa (vi (y % g)):=dY (by omega) g0;obtain⟨c3,H3,S,U,j9,W,Z,j8⟩:=u.ok.app u.mp (by omega) u.len (y % g) (by unfold fq;exact arB (as8 _ _) (by rw[arT];omega)) y;have c_:=λJ' (h:J'[m]?=aa (cH.map (z8 l)))=>u.ok.look (J':=J') h (y % g);have c9:=c_ J u.mp;have m4:mu H3 .int (.c (.mp m)) (vi (y % g)) (.c c3)=aa (.top,H3.set m (.map (z8 (su (y % g) c3 l)))):=by
   simp only[mu,U,j9,isKey,if_true,ZV,arN]
  have d9:=W bp d8;have L9:=nf (J:=H3) (by rw[d9];exact u.bp);refine az ?_;apply ai;simp[ha,b_,n9,l_,-aD];refine eu (.inl rfl) ?_ ?_
  case refine_2=>
   intro cc U;have c6:cc=(1,16)\/cc=(4,16):=by simpa using U
   rcases c6 with rfl|rfl
   .refine⟨by decide,_,rfl,.inl ⟨by decide,?_⟩⟩;simp[E,L8.lm,L8.lg,a8,-aD,fA,c9,S,L9.lm,fY,V.beq,C.beq]
   .refine⟨by decide,_,rfl,.inl ⟨by decide,?_⟩⟩;simp[E,L8.lm,L8.lg,a8,-aD,fA,c9,S,L9.lg,fY,pI]
  simp[E,L8.lm,L8.lg,a8,-aD,fA,c9,S,pk,m4];have m9:fq g (Y.take (j+1))=λk'=>if k'=y % g then fq g (Y.take j) (y % g)++[y]else fq g (Y.take j) k':=by
   funext k';unfold fq;rw[arD,aq2 hj,<-B,atD];by_cases e:k'=y % g
   .subst e;simp
   .have:¬ y % g=k':=λq=>e q.symm;simp[e,this]
  rw[<-m9]at Z;have r7:m<N:=by omega
  refine ay (next _ _ ?_ (by simp[ha]) (by simp[hb]));refine⟨by simp[g6],by simp[E],by simp[b_],_,⟨λi hi=>?_,?_,?_,?_,?_,?_,Z,j8⟩⟩
  .rw[aq0 (by omega),W i (by omega)];exact u.kp i hi
  .rw[aq0 (by omega),W _ (by omega)];exact u.br
  .rw[aq0 (by omega),d9];exact u.bp
  .exact LR.set (u.lx.bE λi y B hi=>by rw[W i (d_ i hi)];exact B) (lE u.lx u.mp rfl) _
  .exact LR.set (u.ly.bE λi y B hi=>by rw[W i (e_ i hi)];exact B) (lE u.ly u.mp rfl) _
  .exact aq6 (by have:=av j9;omega)
 .rintro t J ⟨g6,E,b_,l,u⟩ - -;have L8:=nf u.bp;have Z:=u.ok;rw[arz]at Z;obtain⟨HZ,a_⟩:=aQ (J.set (b0+2) (.box (bW d s st v x g m) 0));have s2:dC J (.ptr (b0+2) 0 0) (bW d s st v x g m)=aa HZ:=by
   have:=u.br;rw[<-z]at this;rw[a_];simp[dC,this,bR,bW,yU]
  have z2:HZ[b0+2]?=aa (.box (bW d s st v x g m) 0):=by rw[a_];exact aq6 (by have:=av u.br;omega)
  have nm:b0+2≠m:=by omega
  apply ai;simp[g6,E,L8.zS,s2,-aD,-bC,uG];have c5:=u.br;rw[<-z]at c5;refine aB (hQ _ _ (.a (bW d s st v x g m)) (by rfl) ?_ ⟨d,s,st,X,Y,v,x,l,m,N,⟨d7,n_,m7,o4⟩,sb,xa,xb,ya,yb,by rw[hg],n7,m8,h_,?_,λi hi=>?_⟩)
  .have:=(nf (bp:=b0+2) z2).zS;simp[Km.results,bQ,aX,g6,this,-aD]
  .rw[<-hg,a_];refine⟨u.lx.set (u.lx.bI c5) _,u.ly.set (u.ly.bI c5) _,by rw[aq0 nm];exact u.mp,Z.bE λi y hi B=>?_⟩;rw[aq0 (by omega)];exact B
  .show HZ[i]?=_;rw[a_,aq0 (by omega)];exact u.kp i hi
structure HQ(H:aj)(p2:aE)(b2:Nat)(c:C)(L:List Int)(J:aj):Prop where
 kp:∀i:Nat,i<H.length->J[i]?=H[i]?
 bx:J[b2]?=aa (.box [.f (sl p2.hg (ints p2.head)),.f (fi p2.fr),.f (fi p2.aH),.f (sl p2.cg (ints p2.aZ))] 0)
 lc:LR J c 1 (ints L)
 lo:∀i,aT c=aa i->H.length<=i
 hl:H.length<=J.length
theorem head_mem{p:aE}(g:cm p=ae)(d:Int):d∈p.head↔0<=d/\d<p.fr/\bz p d=ae:=by
 obtain⟨q,s,u,v,x,y,j,z,A⟩:=aY g;constructor
 .intro h;have:=j d h;refine⟨by omega,by omega,?_⟩;unfold bz;rw[aR (by omega)];exact decide_eq_true h
 .rintro⟨l,m,b⟩;unfold bz at b;rw[aR (by omega)]at b;exact of_decide_eq_true b
theorem YY(l b:aE)(Y:cm l=ae)(hb:cm b=ae)(la:l.head.length<=1000000)(lb:b.head.length<=1000000)(st:Int)(h_:st=max l.fr b.fr)(cx cy:C)(g:Int)(m:Nat)(H:aj) :
  ∃r H',Ev tab (.fn 163) [.a (bW l b st cx cy g m)] H r H'/\∃c L,r=.c c/\LR H' c 1 (ints L)/\(∀i,aT c=aa i->H.length<=i)/\(∀i:Nat,i<H.length->H'[i]?=H[i]?)/\H.length<=H'.length/\L.Pairwise (· < ·)/\L.length<=l.head.length+b.head.length/\∀d,d∈L↔0<=d/\d<st/\bz l d=ae/\bz b d=ae:=by
 refine cz rfl rfl λQ hQ=>?_;apply ai;simp[bW];obtain⟨b0,O⟩:=aQ (H.length);obtain⟨U,A⟩:=aQ (H++[.box (bW l b st cx cy g m) 0]:aj);have a0:U[b0]?=aa (.box (bW l b st cx cy g m) 0):=by rw[A,O];simp
 have al:U.length=b0+1:=by rw[A,O];simp
 have ak:∀i:Nat,i<b0->U[i]?=H[i]?:=λi hi=>by rw[A,aq1 (by omega)]
 unfold bW at A;rw[<-A,<-O];have L1:=nf a0;obtain⟨za,i6⟩:=aQ ([.f (sl l.hg (ints l.head)),.f (fi l.fr),.f (fi l.aH),.f (sl l.cg (ints l.aZ))]:List C);obtain⟨zb,i7⟩:=aQ ([.f (sl b.hg (ints b.head)),.f (fi b.fr),.f (fi b.aH),.f (sl b.cg (ints b.aZ))]:List C);have L2:∀J:aj,bF (U++J) (aa 4) (.c (.ptr b0 4 0))=aa (.a [.f (sl b.hg (ints b.head)),.f (fi b.fr),.f (fi b.aH),.f (sl b.cg (ints b.aZ))]):=λJ=>(nf (bp:=b0) (by rw[aq1 (by omega)];exact a0)).lb;refine an (eu (.inl rfl) ?_ ?_)
 case refine_2=>
  intro cc d7;have d6:cc=(3,7):=by simpa using d7
  subst d6;refine⟨by decide,_,rfl,.inl ⟨by decide,?_⟩⟩;simp[L1.la,L1.lb,L2,-aD,fY,AZ]
 simp[L1.la,L1.lb,-aD];obtain⟨z,y⟩:=aQ (U++[cH.box [.f (sl l.hg (ints l.head)),.f (fi l.fr),.f (fi l.aH),.f (sl l.cg (ints l.aZ))] 0,.box [.f (sl b.hg (ints b.head)),.f (fi b.fr),.f (fi b.aH),.f (sl b.cg (ints b.aZ))] 0]);obtain⟨s,K⟩:=aQ (U.length);have c0:z[b0]?=aa (.box (bW l b st cx cy g m) 0):=by rw[y,aq1 (by omega)];exact a0
 have c1:z[s]?=aa (.box [.f (sl l.hg (ints l.head)),.f (fi l.fr),.f (fi l.aH),.f (sl l.cg (ints l.aZ))] 0):=by rw[y,K];simp
 have c2:z[s+1]?=aa (.box [.f (sl b.hg (ints b.head)),.f (fi b.fr),.f (fi b.aH),.f (sl b.cg (ints b.aZ))] 0):=by rw[y,K,arc (by omega)];simp
 have ck:∀i:Nat,i<b0->z[i]?=H[i]?:=λi hi=>by rw[y,aq1 (by omega)];exact ak i hi
 have cl:z.length=b0+3:=by rw[y];simp[al]
 have f9:s=b0+1:=by rw[K,al]
 rw[<-y,<-K]
 suffices S:∀t:T,t.g 1=.c (.ptr b0 0 0)->t.g 3=.c (.ptr s 0 0)->t.g 4=.c (.ptr (s+1) 0 0)->WP tab 163 ab [.code wo] ⟨t,[],z⟩ Q by exact S _ (by simp) (by simp) (by simp)
 intro t g1 X E;have Z:∀(q u:aE) (t:T) (J:aj),cm q=ae->cm u=ae->q.fr=st->q.head.length<=1000000->q.head.length<=l.head.length+b.head.length->(∀d,(bz q d=ae/\bz u d=ae)↔(bz l d=ae/\bz b d=ae))->t.g 3=.c (.ptr s 0 0)->t.g 4=.c (.ptr (s+1) 0 0)->
   J[s]?=aa (.box [.f (sl q.hg (ints q.head)),.f (fi q.fr),.f (fi q.aH),.f (sl q.cg (ints q.aZ))] 0)->J[s+1]?=aa (.box [.f (sl u.hg (ints u.head)),.f (fi u.fr),.f (fi u.aH),.f (sl u.cg (ints u.aZ))] 0)->(∀i:Nat,i<b0->J[i]?=H[i]?)->
   WP tab 163 ab [.code wq] ⟨t,[],J⟩ Q:=by
  intro q u t J h1 h2 d8 g_ d9 b_ X E j1 j2 jk;obtain⟨q1,q2,q3,q4,q5,q6,q7,q8,q9⟩:=aY h1;have M:bF J ab (.c (.ptr s 0 0))=aa (.c (.f (sl q.hg (ints q.head)))):=by simp[bF,aK,j1]
  have c9:aV J (.f (sl q.hg (ints q.head)))=aa q.head.length:=by simp[ints]
  apply ai;simp;apply an;apply ai;simp[X,M,-aD,c9];have jl:=av j2;refine cC q.head.length (λj t J=>t.g 4=.c (.ptr (s+1) 0 0)/\t.g 20=.c (.f (sl q.hg (ints q.head)))/\∃c,t.g 5=.c c/\HQ H u (s+1) c ((q.head.take j).filter λd=>bz u d) J) (by omega) (by decide) (by decide) (by simp) (by simp)
   ⟨by simp[E],by simp,.f .aw,by simp,λi hi=>jk i (by omega),j2,by simpa[ints]using LR.nil _ _,(λ_ h=>by cases h),by omega⟩ ?_ ?_
  .rintro j t J hj ⟨E,F,c,g5,v⟩ Y hb next
   have e_:=q7 _ (aq7 hj);have c6:=λH:aj=>bO (H:=H) (g:=q.hg) (rows:=ints q.head) (sz:=1) (k:=.i64) (i:=(j:Int)) (by omega) (by simp[ints];omega);have M:=λH:aj=>dJ (H:=H) hj;simp at c6;obtain⟨x,hx⟩:=aQ (q.head[j]);rw[<-hx]at e_ M;have c5:q.head.take (j+1)=q.head.take j++[x]:=by rw[arD,aq2 hj,hx];rfl
   have f8:bF J (aa 4) (.c (.ptr (s+1) 0 0))=aa (.a [.f (sl u.hg (ints u.head)),.f (fi u.fr),.f (fi u.aH),.f (sl u.cg (ints u.aZ))]):=by simp[bF,aK,v.bx,bf]
   have N:=pP u h2 x (by omega) (by unfold Day;omega);simp only[aE.row,arf,art]at N;refine az ?_;apply ai;simp[Y,F,c6,M];apply an;refine aq (.inl rfl) ?_;simp[E,f8,-aD,N];cases b7:bz u x with
   |false=>
    refine ba (by simp) ?_;refine ay (next _ _ ?_ (by simp[Y]) (by simp[hb]));refine⟨by simp[E],by simp[F],c,by simp[g5],?_⟩;rw[c5,atD];simpa[b7]using v
   |true=>
    obtain⟨c3,H3,a8,c_,f_,a_,d5⟩:=ng v.lc (by refine arB (as8 _ _) ?_;rw[arT];omega) x;refine au (by simp) ?_;refine aq (.inl rfl) ?_;simp[g5,a8];refine ay (next _ _ ?_ (by simp[Y]) (by simp[hb]));refine⟨by simp[E],by simp[F],c3,by simp,λi hi=>?_,a_ _ _ v.bx (v.lc.bI v.bx),?_,λi hi=>?_,by have:=v.hl;omega⟩
    .rw[<-v.kp i hi];have d_:i<J.length:=by have:=v.hl;omega
     have hy:J[i]?=aa J[i]:=aq2 d_;rw[hy];exact a_ i _ hy λe=>by have:=v.lo i e;omega
    .rw[c5,atD];simpa[b7]using c_
    .have:=v.hl;rcases d5 with e|e
     .rw[e]at hi;exact v.lo i hi
     .rw[e]at hi;cases hi;omega
  .rintro t J ⟨E,F,c,g5,v⟩ - -;rw[arz]at v;apply ai;simp[g5];refine aB (hQ _ _ (.c c) rfl (cV (by simp)) ⟨c,_,rfl,v.lc,v.lo,v.kp,v.hl,q6.sublist List.filter_sublist,arB (as8 _ _) d9,λd=>?_⟩);rw[asD,head_mem h1,d8];constructor
   .rintro⟨⟨k0,k1,k2⟩,k3⟩;obtain⟨k4,k5⟩:=(b_ d).1 ⟨k2,k3⟩;exact⟨k0,k1,k4,k5⟩
   .rintro⟨k0,k1,k4,k5⟩;obtain⟨k2,k3⟩:=(b_ d).2 ⟨k4,k5⟩;exact⟨⟨k0,k1,k2⟩,k3⟩
 have l1:bF z ab (.c (.ptr s 1 0))=aa (vi l.fr):=by simp[bF,aK,c1]
 have l0:=(nf c0).jt;apply an;apply ai;simp[g1,X,l0,l1,-aD];by_cases hf:l.fr=st
 .refine ba (by simp[hf]) ?_;exact Z l b _ _ Y hb hf la (by omega) (λd=>Iff.rfl) (by simp[X]) (by simp[E]) c1 c2 ck
 .refine au (by simp[hf]) ?_;have l4:bF z (aa 4) (.c (.ptr (s+1) 0 0))=aa (.a [.f (sl b.hg (ints b.head)),.f (fi b.fr),.f (fi b.aH),.f (sl b.cg (ints b.aZ))]):=by simp[bF,aK,c2,bf]
  have l3:bF z (aa 4) (.c (.ptr s 0 0))=aa (.a [.f (sl l.hg (ints l.head)),.f (fi l.fr),.f (fi l.aH),.f (sl l.cg (ints l.aZ))]):=by simp[bF,aK,c1,bf]
  obtain⟨W,B⟩:=aQ (z.set s (.box [.f (sl b.hg (ints b.head)),.f (fi b.fr),.f (fi b.aH),.f (sl b.cg (ints b.aZ))] 0));have s1:dC z (.ptr s 0 0) [.f (sl b.hg (ints b.head)),.f (fi b.fr),.f (fi b.aH),.f (sl b.cg (ints b.aZ))]=aa W:=by rw[B];simp[dC,c1,bR]
  have d1:W[s]?=aa (.box [.f (sl b.hg (ints b.head)),.f (fi b.fr),.f (fi b.aH),.f (sl b.cg (ints b.aZ))] 0):=by rw[B];exact aq6 (by omega)
  have d2:W[s+1]?=aa (.box [.f (sl b.hg (ints b.head)),.f (fi b.fr),.f (fi b.aH),.f (sl b.cg (ints b.aZ))] 0):=by rw[B,aq0 (by omega)];exact c2
  have dl:W.length=z.length:=by rw[B];simp
  obtain⟨HD,I⟩:=aQ (W.set (s+1) (.box [.f (sl l.hg (ints l.head)),.f (fi l.fr),.f (fi l.aH),.f (sl l.cg (ints l.aZ))] 0));have s2:dC W (.ptr (s+1) 0 0) [.f (sl l.hg (ints l.head)),.f (fi l.fr),.f (fi l.aH),.f (sl l.cg (ints l.aZ))]=aa HD:=by rw[I];simp[dC,d2,bR]
  refine aq (.inl rfl) ?_;simp[X,E,l3,l4,-aD,s1,s2,-bC];refine Z b l _ _ hb Y (by omega) lb (by omega) (λd=>And.comm) (by simp[X]) (by simp[E]) ?_ ?_ λi hi=>?_
  .rw[I,aq0 (by omega)];exact d1
  .rw[I];exact aq6 (by omega)
  .rw[I,aq0 (by omega),B,aq0 (by omega)];exact ck i hi
theorem oV(a b:Int)(y:1<=b)(x:-4611686018427387904<=a)(j:a<=4611686018427387904)(l:b<=4611686018427387904):bH tab 242 [vi a,vi b]=Eq (vi (a % b)):=bH.eq (by
 have f:=arJ a (show b≠0 by omega);have v:=arE a (show 0<b by omega);have q:=as3 a (show 0<b by omega);have z:=as4 a (show 0<b by omega);have m:bL .rem (vi a) (vi b)=aa (vi (a.tmod b)):=fQ (by omega);have s:=aM (n:=a.tmod b+b);have key:a % b=if a.tmod b<0 then a.tmod b+b else a.tmod b:=by
  have e:=sO (u:=a) (show 0<b by omega);split
  .rw[<-e,Int.tmod_eq_of_lt (by omega) (by omega)]
  .rename_i h;have g:(a.tmod b+b).tmod b=a.tmod b:=by
    rw[Int.tmod_eq_emod_of_nonneg (by omega),Int.add_emod_right,arP (by omega) q]
   rw[<-e,g]
 refine bD rfl rfl λQ d=>?_;apply ai;simp;apply ai;simp[m];apply an;apply ai;simp;by_cases h:a.tmod b<0
 .refine au (by simp[h]) ?_;refine aq (.inl rfl) ?_;simp[s];apply ai;simp;refine aB (d _ _ ?_);simp[key,h]
 .refine ba (by simp[h]) ?_;apply ai;simp;refine aB (d _ _ ?_);simp[key,h])
theorem afX{a m:Int}(p:0<=a)(m1:m<=1000000)(am:a<m)(hg:arU a m=1) :
  ∃x,0<=x/\x<m/\m ∣ a*x-1/\bH tab 244 [vi a,vi m]=Eq (vi x):=by
 obtain⟨rr,⟨x,Z,c,f,rfl⟩,hp⟩:∃rr,(∃x,0<=x/\x<m/\m ∣ a*x-1/\rr=vi x)/\bH tab 244 [vi a,vi m] rr:=by
  refine ey rfl rfl λQ hQ=>?_;apply ai;simp;apply ai;simp;refine an (az ?_);refine bT (λn s=>∃(x y u v U V:Int) (t:T),s=⟨t,[],[]⟩/\(n:Int)=y/\t.g 1=vi m/\t.g 5=vi x/\t.g 6=vi y/\t.g 7=vi u/\t.g 8=vi v/\0<=x/\x<=m/\0<=y/\y<=m/\arU x y=1/\m ∣ a*u-x/\m ∣ a*v-y/\
   0<=U/\U<=m/\0<=V/\(u=U/\v = -V\/u = -U/\v=V)/\U*y+V*x=m/\V<=m) m.toNat
   ⟨a,m,1,0,1,0,_,rfl,by omega,by simp,by simp,by simp,by simp,by simp,p,by omega,by omega,by omega,hg,⟨0,by omega⟩,⟨-1,by omega⟩,by decide,by omega,by decide,.inl ⟨rfl,rfl⟩,by omega,by omega⟩ ?_
  rintro n s ⟨x,y,u,v,U,V,t,rfl,hn,S,X,E,Y,w,Z,c,f,a_,H,h,i,h7,b7,I,k,F,z⟩ ih;refine an (ai ?_);simp[E];by_cases o:y=0
  .
   subst o;have O:x=1:=by
    have H:x.natAbs=1:=by simpa[arU]using H
    omega
   subst O;have r1:=oV u m (by omega) (by omega) (by omega) (by omega);refine aA (by simp) (aS rfl ?_);apply ai;simp[S,Y,r1];refine aB (hQ _ _ _ ⟨u % m,arJ _ (by omega),arE _ (by omega),?_,rfl⟩ (by simp));have e:a*(u % m)-1=(a*u-1)-a*(u / m)*m:=by
    have:=arn u m;rw[show u % m=u-m*(u / m) by omega,asM,asC,ar6 m];omega
   rw[e];exact asL h (Int.dvd_mul_left _ _)
  .
   have A:0<=x / y:=arW (by omega) (by omega);have M:x / y<=x:=asv _ (by omega);have B:=eB (a:=x) (b:=y) (by omega) (by omega) (by omega);obtain⟨q,hq⟩:=aQ (x / y);have j:=arn x y;have K:=arJ x (show y≠0 by omega);have L:=arE x (show 0<y by omega);rw[<-hq]at A M B j;obtain⟨g,N⟩:=aQ (x % y);rw[<-N]at j K L;have c6:q*y=x-g:=by rw[ar6];omega
   obtain⟨W,hW⟩:=aQ (U+q*V);have c5:0<=q*V:=arS A I;have b_:W*y+V*g=m:=by
    rw[hW,ati,<-F,show g=x-q*y by omega,asM,asC q V y,asV q V y];omega
   have J:W<=m:=by
    have z:W<=W*y:=by have:=ari (show(1:Int)<=y by omega) (show 0<=W by omega);omega
    have a8:0<=V*g:=arS I (by omega);omega
   have d:(v=V->q*v=q*V)/\(v = -V->q*v = -(q*V)):=⟨λe=>by rw[e],λe=>by rw[e,as1]⟩
   have hb:-m<=q*v/\q*v<=m:=by
    rcases k with⟨-,e⟩|⟨-,e⟩
    .rw[d.2 e];omega
    .rw[d.1 e];omega
   have w1:=aM (n:=q*y);have w2:IntKind.i64.wrap (x-q*y)=g:=by rw[aM];omega
   have w3:=aM (n:=q*v);have w4:=aM (n:=u-q*v);refine au (by simp[o]) (aJ ?_);refine az (ai ?_);simp[X,E,B];apply ai;simp[X,E,w1,w2];refine aq (.inl rfl) ?_;simp[Y,w,w3,w4];refine ay (ih g.toNat _ (by omega) ⟨y,g,v,u-q*v,V,W,_,rfl,by omega,by simp[S],by simp,by simp,by simp,by simp,by omega,by omega,by omega,by omega,?_,i,?_,I,z,by omega,?_,by omega,J⟩)
   .rw[show g=x-q*y by omega,Int.gcd_comm,as7];exact H
   .have e:a*(u-q*v)-g=(a*u-x)-q*(a*v-y):=by
     rw[asM,asM,asV a q v];omega
    rw[e];exact asL h (Int.dvd_mul_of_dvd_right i)
   .rcases k with⟨r,l⟩|⟨r,l⟩
    .exact .inr ⟨l,by rw[d.2 l];omega⟩
    .exact .inl ⟨l,by rw[d.1 l];omega⟩
 exact⟨x,Z,c,f,hp.eq⟩
theorem ZZ{x n:Int}(l:0<=x)(m:x<=9223372036854775807)(d:0<n)(n1:n<=9223372036854775807):bH tab 255 [u64 0,u64 x,u64 n]=Eq (u64 (x % n)):=bH.eq (by
 have g:=xC l m d n1;have b:=BT (a:=0) (by omega) d;rw[aty]at b;refine bD rfl rfl λQ j=>?_;apply ai;simp;apply ai;simp[g,b];apply ai;simp;refine aB (j _ _ ?_);simp)
theorem aak{a b m:Int}(d:0<=a)(a1:a<=1000000)(b0:0<=b)(j:b<=1000000)(g:0<m)(m1:m<=1000000):bH tab 243 [vi a,vi b,vi m]=Eq (vi (a*b % m)):=bH.eq (by
 have u:0<=a*b:=arS d b0;have y:a*b<=1000000*1000000:=asS a1 j b0 (by omega);have v:=arJ (a*b) (show m≠0 by omega);have x:=arE (a*b) g;have l:=oU d (by omega) b0 (by omega);have q:=ZZ u (by omega) g (by omega);refine bD rfl rfl λQ s=>?_;apply ai;simp;apply ai;simp[l,fU d (by omega),fU b0 (by omega)];apply ai;simp[q,fU (show 0<=m by omega) (by omega),aM (n:=a*b % m)];refine aB (s _ _ ?_);simp)
theorem aac{a b x y P:Int}(a1:1<=a)(S:1<=b)(z:P=a / (arU a b:Int)*b)(hd:P<=1000000)(Z:0<=x)(c:x<a)(e:0<=y)(f:y<b)(F:x % (arU a b:Int)=y % (arU a b:Int)) :
  ∃k v:Int,0<=k/\k<P/\k % a=x/\k % b=y/\bH tab 209 [vi x,vi a,vi y,vi b]=Eq (.t [vi k,vi v,vi 0]):=by
 have s:=Int.gcd_ediv_gcd_ediv_gcd_of_ne_zero_left (n:=a) (m:=b) (by omega);have g0:0<(arU a b:Int):=by have:=asb b (show a≠0 by omega);omega
 have U:(arU a b:Int) ∣ a:=asR ..;have W:(arU a b:Int) ∣ b:=asW ..;obtain⟨g,L⟩:=aQ ((arU a b:Int):Int);have M:arU a b=asn a.toNat b.toNat:=by
  show asn a.natAbs b.natAbs=_;rw[show a.natAbs=a.toNat by omega,show b.natAbs=b.toNat by omega]
 rw[<-L]at s g0 U W z F;obtain⟨p,I⟩:=U;obtain⟨q,J⟩:=W;have H:a / g=p:=by rw[I,aso _ (by omega)]
 have eq:b / g=q:=by rw[J,aso _ (by omega)]
 rw[H,eq]at s;rw[H]at z;have p1:1<=p:=by
  rcases asm 0 p with h|h
  .omega
  .have:=arS (show 0<=g by omega) (show 0<=-p by omega);rw[as1]at this;omega
 have O:1<=q:=by
  rcases asm 0 q with h|h
  .omega
  .have:=arS (show 0<=g by omega) (show 0<=-q by omega);rw[as1]at this;omega
 have A:P=a*q:=by rw[z,I,J,asV,asC]
 have aP:a<=P:=by rw[A];have:=ari O (show 0<=a by omega);omega
 have bP:b<=P:=by rw[z];have:=arA p1 (show 0<=b by omega);omega
 have qb:q<=b:=by rw[J];have:=arA (show 1<=g by omega) (show 0<=q by omega);omega
 have pa:p<=a:=by rw[I];have:=arA (show 1<=g by omega) (show 0<=p by omega);omega
 have B:bH tab 88 [vi a,vi b]=Eq (vi g):=by
  have h:=rJ (a:=a.toNat) (b:=b.toNat) (by omega) (by omega);rw[show((a.toNat:Nat):Int)=a by omega,show((b.toNat:Nat):Int)=b by omega,<-M,<-L]at h;exact h
 have l:=BD a1 (show a<=1000000 by omega) S (show b<=1000000 by omega);rw[<-L,H,<-z]at l;have K:g ∣ y-x:=asr (by rw[atG,F,Int.sub_self,aty]);obtain⟨d,j⟩:=K;have ed:(y-x) / g=d:=by rw[j,aso _ (by omega)]
 have dl:-a<=d/\d<=b:=by
  rcases Int.le_total 0 d with h|h
  .have:=arA (show 1<=g by omega) h;omega
  .have:=arA (show 1<=g by omega) (show 0<=-d by omega);have:=as1 g d;omega
 obtain⟨i,i0,i1,i2,E⟩:=afX (a:=p % q) (m:=q) (arJ _ (by omega)) (by omega) (arE _ (by omega)) (by
  rw[show p % q=p-p / q*q by rw[ar6];have:=arn p q;omega,as7];exact s)
 have r1:bL .rem (vi (y-x)) (vi g)=aa (vi 0):=by
  have:=@fQ .i64 (y-x) g (by omega);rw[atl ⟨d,j⟩]at this;exact this
 have r2:bL .quo (vi b) (vi g)=aa (vi q):=by rw[<-eq];exact eB (by omega) (by omega) (by omega)
 have r3:bL .quo (vi a) (vi g)=aa (vi p):=by rw[<-H];exact eB (by omega) (by omega) (by omega)
 have r4:bL .quo (vi (y-x)) (vi g)=aa (vi d):=by
  have:=@mT .i64 (y-x) g (by omega);rw[Int.tdiv_eq_ediv_of_dvd ⟨d,j⟩,ed,aM]at this;exact this
 have m1:=oV x a a1 (by omega) (by omega) (by omega);have m2:=oV y b S (by omega) (by omega) (by omega);rw[arP Z c]at m1;rw[arP e f]at m2;have m3:=oV d q O (by omega) (by omega) (by omega);have m4:=oV p q O (by omega) (by omega) (by omega);have t:=arJ d (show q≠0 by omega);have d1:=arE d (show 0<q by omega);have Y:=aak t (show d % q<=1000000 by omega) i0 (show i<=1000000 by omega) (show 0<q by omega) (by omega);obtain⟨k,N⟩:=aQ (d % q*i % q);have k0:0<=k:=by rw[N];exact arJ _ (by omega)
 have k1:k<q:=by rw[N];exact arE _ (by omega)
 rw[<-N]at Y;have o:0<=a*k:=arS (by omega) k0;have r:a*k<=P-a:=by
  rw[A];have:=ari (show k<=q-1 by omega) (show 0<=a by omega);rw[asM,atA]at this;exact this
 refine⟨x+a*k,P,by omega,by omega,?_,?_,bH.eq (bD rfl rfl λQ hQ=>?_)⟩
 .rw[Int.add_mul_emod_self_left,arP Z c]
 .have w:q ∣ p*k-d:=by
   obtain⟨u,X⟩:=i2;have f1:q*(d % q*i / q)=d % q*i-k:=by have:=arn (d % q*i) q;omega
   have f2:q*(d / q)=d-d % q:=by have:=arn d q;omega
   have f3:q*(p / q)=p-p % q:=by have:=arn p q;omega
   exact⟨-(p*(d % q*i / q))+d % q*u+d % q*i*(p / q)-d / q,by grind⟩
  have e2:b ∣ x+a*k-y:=by
   obtain⟨u,X⟩:=w;refine⟨u,?_⟩;rw[J,asC,<-X,asM,<-j,I,asC];omega
  rw[show x+a*k=y+(x+a*k-y) by omega,atV,atk e2,Int.add_zero,asc _ (asw b),arP e f]
 apply ai;simp;apply an;apply ai;simp[show¬ a<1 by omega,show¬ b<1 by omega];refine ba (by simp) ?_;apply ai;simp[B];apply ai;simp[m1,m2];apply an;apply ai;simp[aM (n:=y-x),r1];refine ba (by simp) ?_;apply ai;simp[l];apply an;apply ai;simp;refine ba (by simp) ?_;apply ai;simp[r2];apply ai;simp[aM (n:=y-x),r3,r4,m3,m4,E,Y];apply ai;simp[aM (n:=a*k),aM (n:=x+a*k)];refine aB (hQ _ _ ?_);simp
structure vd(a b P:Int):Prop where
 pos:0<P
 da:a ∣ P
 db:b ∣ P
 dvd:∀k,a ∣ k->b ∣ k->P ∣ k
theorem afG{m n:Nat}(d:1<=m)(g:1<=n):(m:Int) / (arU (m:Int) (n:Int):Int)*n=(Nat.lcm m n:Int):=by
 have b:arU (m:Int) (n:Int)=asn m n:=rfl;rw[b,<-Int.natCast_ediv,<-Int.natCast_mul,Nat.lcm,as9 m n,Nat.mul_div_assoc _ (Nat.gcd_dvd_left m n),as9]
theorem Y3{a b:Int}(a1:1<=a)(q:1<=b):vd a b (a / (arU a b:Int)*b):=by
 obtain⟨m,rfl⟩:=Int.eq_ofNat_of_zero_le (show 0<=a by omega);obtain⟨n,rfl⟩:=Int.eq_ofNat_of_zero_le (show 0<=b by omega);rw[afG (by omega) (by omega)];refine⟨?_,Int.ofNat_dvd.2 (Nat.dvd_lcm_left m n),Int.ofNat_dvd.2 (Nat.dvd_lcm_right m n),λk j l=>?_⟩
 .have:=Nat.lcm_pos (m:=m) (n:=n) (by omega) (by omega);omega
 .have d:=atM.2 j;have g:=atM.2 l;rw[Int.natAbs_natCast]at d g;rw[<-atM,Int.natAbs_natCast];exact Nat.lcm_dvd d g
theorem vd.uniq{a b P:Int}(h:vd a b P){k k':Int}(h0:0<=k)(h1:k<P)(d:0<=k')(g:k'<P)(l:k % a=k' % a)(hb:k % b=k' % b):k=k':=by
 have:=h.dvd (k-k') (asr (by rw[atG,l,Int.sub_self,aty])) (asr (by rw[atG,hb,Int.sub_self,aty]));have e:(k-k') % P=0:=atk this;have j:k % P=k' % P:=by
  have:=asc k (asw P);rw[<-Int.sub_add_cancel k k',atV,e,Int.zero_add,asc _ (asw P)]
 rw[arP h0 h1,arP d g]at j;exact j
theorem Kc{X Y:List Int}{g:Int}{l:List (Int × C)}{d y:C}{m N:Nat}(O S:aE)(st:Int){H:aj}(h:PH H N X Y g l d y m)(o:0<g)(K:∀x∈X,0<=x/\x<=1000000)(hX:X.length<=30000){D:Int}(e:0<=D)(f:D<=30000)(p:∀r,((fq g Y r).length:Int)<=D) :
  ∃r z,Ev tab (.fn 164) [.a (bW O S st d y g m)] H r z/\∃n:Int,r=vi n/\0<=n/\n<=(X.length:Int)*D/\(∀i:Nat,i<H.length->z[i]?=H[i]?)/\H.length<=z.length:=by
 refine cz rfl rfl λQ w=>?_;apply ai;simp[bW];obtain⟨b0,s⟩:=aQ (H.length);obtain⟨q,b⟩:=aQ (H++[.box (bW O S st d y g m) 0]:aj);have k:q[b0]?=aa (.box (bW O S st d y g m) 0):=by rw[b,s];simp
 have W:∀i:Nat,i<H.length->q[i]?=H[i]?:=λi hi=>by rw[b,aq1 (by omega)]
 have al:q.length=H.length+1:=by rw[b];simp
 unfold bW at b;rw[<-b,<-s];have h:=h.bE W;have L:=nf k;have lx:aV q d=aa X.length:=by have:=h.lx.len;simpa[ints]using this
 apply ai;simp;apply an;apply ai;simp[L.lx,-aD,lx];refine cC X.length (λj t J=>J=q/\t.g 1=.c (.ptr b0 0 0)/\t.g 7=.c d/\∃n:Int,t.g 3=vi n/\0<=n/\n<=(j:Int)*D) (by omega) (by decide) (by decide) (by simp) (by simp)
  ⟨rfl,by simp,by simp,0,by simp,by omega,by simp⟩ ?_ ?_
 .rintro j t J a ⟨rfl,A,E,n,B,c,n1⟩ Z hb next
  obtain⟨xb,b7,b_,U,v,-⟩:=rM h.lx a;have M:=K _ (aq7 a);obtain⟨x,K⟩:=aQ (X[j]);rw[<-K]at M v;have u:bL .rem (vi x) (vi g)=aa (vi (x % g)):=dY (by omega) o;have F:=h.ok.look h.mp (x % g);have I:aV J (md l (x % g))=aa (fq g Y (x % g)).length:=by have:=(h.ok.lr (x % g)).len;simpa[ints]using this
  have a_:=p (x % g);have a8:(j:Int)*D<=30000*30000:=asS (by omega) f e (by omega);refine az ?_;apply ai;simp[Z,E,U,v,-aD];refine aq (.inl rfl) ?_;simp[A,B,L.lm,L.lg,u,-aD,fA,F,I,aM (n:=n+((fq g Y (x % g)).length:Int))];refine ay (next _ _ ?_ (by simp[Z]) (by simp[hb]));exact⟨rfl,by simp[A],by simp[E],n+((fq g Y (x % g)).length:Int),by simp,by omega,by rw[atn,ati];omega⟩
 .rintro t J ⟨rfl,A,E,n,B,c,n1⟩ - -;apply ai;simp[B];exact aB (w _ _ (vi n) rfl (cV (by simp)) ⟨n,rfl,c,n1,W,by show H.length<=J.length;omega⟩)
theorem Yu{Y:List Int}{d g r:Int}(m:0<g)(E:g ∣ d)(v:Y.Pairwise (· < ·))(B:∀y∈Y,0<=y/\y<d)(H:0<=d):((fq g Y r).length:Int)<=d / g:=by
 have q:((fq g Y r).map (· / g)).Pairwise (· < ·):=by
  rw[List.pairwise_map];refine atB (λ{a b} z l A=>?_) (List.Pairwise.filter _ v);have K:a % g=r:=by have:=(asD.1 z).2;simpa using this
  have L:b % g=r:=by have:=(asD.1 l).2;simpa using this
  have I:=arn a g;have J:=arn b g;have u:g*(a / g)<g*(b / g):=by omega
  exact Int.lt_of_mul_lt_mul_left u (by omega)
 have s:=dT _ 0 (d / g) q λx F=>by
  obtain⟨y,j,rfl⟩:=arx.1 F;have j:=B y (asD.1 j).1;exact⟨arW j.1 (by omega),by
   obtain⟨k,rfl⟩:=E;rw[aso _ (by omega),Int.zero_add];exact Int.ediv_lt_of_lt_mul m (by rw[ar6];exact j.2)⟩
 rw[List.length_map]at s;have:=arW H (show 0<=g by omega);omega
structure MQ(H0:aj)(qa qb:aE)(st g:Int)(cx cy:C)(m b0:Nat)(c:C)(L:List Int)(J:aj):Prop where
 kp:∀i:Nat,i<H0.length->J[i]?=H0[i]?
 bx:J[b0]?=aa (.box (bW qa qb st cx cy g m) 0)
 lc:LR J c 1 (ints L)
 lo:∀i,aT c=aa i->H0.length<=i
 hl:H0.length<=J.length
theorem MQ.app{H0:aj}{z qb:aE}{st g:Int}{v x:C}{m b0:Nat}{c:C}{L:List Int}{J:aj}(h:MQ H0 z qb st g v x m b0 c L J)(hl:L.length<=1000000000)(n:Int) :
  ∃l j,bJ (J++[.box [.f (fi n)] 0]) 1 8 (.c c) (.c (.sl J.length 0 1 1 0 1))=aa (.c l,j)/\MQ H0 z qb st g v x m b0 l (L++[n]) j:=by
 obtain⟨l,j,b,q,y,d,s⟩:=ng h.lc hl n;have A:=h.hl;refine⟨l,j,b,λi hi=>?_,d _ _ h.bx (h.lc.bI h.bx),q,λi hi=>?_,by omega⟩
 .rw[<-h.kp i hi];have u:i<J.length:=by omega
  have hy:J[i]?=aa J[i]:=aq2 u;rw[hy];exact d i _ hy λe=>by have:=h.lo i e;omega
 .rcases s with e|e
  .rw[e]at hi;exact h.lo i hi
  .rw[e]at hi;cases hi;omega
structure MM(X Y XS YS:List Int)(x0 pa pb P st:Int)(M:List Int):Prop where
 of:∀d∈M,∃k,d=st+k/\0<=k/\k<P/\k % pa∈X/\k % pb∈Y
 to:∀k,0<=k->k<P->k % pb∈Y->(k % pa∈XS\/(k % pa=x0/\k % pb∈YS))->st+k∈M
theorem Zh{X Y L0:List Int}{g:Int}{l:List (Int × C)}{K f ch:C}{m N:Nat}(b s:aE)(st:Int){H0 H:aj}(h:PH H0 N X Y g l K f m)(U:∀i:Nat,i<H0.length->H[i]?=H0[i]?)(m9:H0.length<=H.length)(i_:LR H ch 1 (ints L0))(k_:∀i,aT ch=aa i->H0.length<=i)
  (hg:g=(arU b.aH s.aH:Int)) {P:Int} (a1:1<=b.aH) (b1:1<=s.aH) (hP:P=b.aH / (arU b.aH s.aH:Int)*s.aH) (E:P<=30000) (hx:∀x∈X,0<=x/\x<b.aH) (hy:∀y∈Y,0<=y/\y<s.aH) (hX:X.length<=30000) {D:Int} (D0:0<=D) (D1:D<=30000) (hD:∀r,((fq g Y r).length:Int)<=D) (j4:(X.length:Int)*D<=30000) (m_:L0.length<=300000) (s0:0<=st) (s1:st<=2000000000000) :
  ∃r H',Ev tab (.fn 166) [.a (bW b s st K f g m),.c ch] H r H'/\∃c M,r=.c c/\LR H' c 1 (ints (L0++M))/\(∀i,aT c=aa i->H0.length<=i)/\(∀i:Nat,i<H0.length->H'[i]?=H0[i]?)/\H0.length<=H'.length/\(M.length:Int)<=(X.length:Int)*D/\(∀d∈M,∃k,d=st+k/\0<=k/\k<P/\k % b.aH∈X/\k % s.aH∈Y)/\
   ∀k,0<=k->k<P->k % b.aH∈X->k % s.aH∈Y->st+k∈M:=by
 have F:=(hP▸Y3 a1 b1:vd b.aH s.aH P)
 have a2:b.aH<=30000:=ar1 (ar2 F.pos F.da) E;have b2:s.aH<=30000:=ar1 (ar2 F.pos F.db) E;have g0:0<g:=by rw[hg];have:=asb s.aH (show b.aH≠0 by omega);omega
 have i8:g ∣ b.aH:=by rw[hg];exact asR ..
 have i9:g ∣ s.aH:=by rw[hg];exact asW ..
 refine cz rfl rfl λQ hQ=>?_;apply ai;simp[bW];obtain⟨b0,d6⟩:=aQ (H.length);obtain⟨HA,B⟩:=aQ (H++[.box (bW b s st K f g m) 0]:aj);have a0:HA[b0]?=aa (.box (bW b s st K f g m) 0):=by rw[B,d6];simp
 have ak:∀i:Nat,i<H.length->HA[i]?=H[i]?:=λi hi=>by rw[B,aq1 (by omega)]
 have al:HA.length=H.length+1:=by rw[B];simp
 have q0:MQ H0 b s st g K f m b0 ch (L0++[]) HA:=⟨λi hi=>by rw[ak i (by omega)];exact U i hi,a0,by rw[List.append_nil,B];exact i_.push _,k_,by omega⟩
 unfold bW at B;rw[<-B,<-d6];have hA:=h.bE (J':=HA) λi hi=>q0.kp i hi;have L:=nf a0;have lx:aV HA K=aa X.length:=by have:=hA.lx.len;simpa[ints]using this
 apply an;apply ai;simp[L.lx,-aD,lx];refine cC X.length (λj t J=>t.g 2=.c (.ptr b0 0 0)/\t.g 13=.c K/\∃c M,t.g 1=.c c/\MQ H0 b s st g K f m b0 c (L0++M) J/\(M.length:Int)<=(j:Int)*D/\MM X Y (X.take j) [] 0 b.aH s.aH P st M) (by omega) (by decide) (by decide) (by simp) (by simp)
  ⟨by simp,by simp,ch,[],by simp,q0,by simp,⟨λ_ h=>(by cases h),λk _ _ _ h=>(by simp at h)⟩⟩ ?_ ?_
 .rintro j t J hj ⟨S,u,c,M,o,A,a_,z⟩ ha hb next
  have hJ:=h.bE (J':=J) A.kp;obtain⟨xb,n6,n7,m7,i6,-⟩:=rM hJ.lx hj;have b7:=hx _ (aq7 hj);have f_:=aq7 hj;have f9:X.take (j+1)=X.take j++[X[j]]:=by rw[arD,aq2 hj];rfl
  obtain⟨x,hx⟩:=aQ (X[j]);rw[<-hx]at b7 i6 f9 f_;have e_:bL .rem (vi x) (vi g)=aa (vi (x % g)):=dY (by omega) g0;have d9:=hJ.ok.look hJ.mp (x % g);obtain⟨ys,b_⟩:=aQ (fq g Y (x % g));have g_:∀y,y∈ys↔y∈Y/\y % g=x % g:=λy=>by rw[b_];simp[fq]
  obtain⟨cc,d8⟩:=aQ (md l (x % g));have d7:∀J':aj,(∀i:Nat,i<H0.length->J'[i]?=H0[i]?)->LR J' cc 1 (ints ys):=λJ' W=>by rw[b_,d8];exact(h.bE W).ok.lr (x % g)
  have j_:aV J cc=aa ys.length:=by have:=(d7 J A.kp).len;simpa[ints]using this
  have n5:(ys.length:Int)<=D:=by rw[b_];exact hD _
  have j9:((j+1:Nat):Int)*D<=30000:=ar1 (arA (by omega) D0) j4;rw[atn,ati]at j9;rw[<-d8]at d9;have LJ:=nf A.bx;refine az ?_;apply ai;simp[ha,u,m7,i6,-aD];apply ai;simp[S,LJ.lm,LJ.lg,e_,-aD,fA,d9,j_];refine cC ys.length (λi a J=>a.g 2=.c (.ptr b0 0 0)/\a.g 13=.c K/\a.g 15=vi j/\a.g 14=t.g 14/\a.g 6=vi x/\a.g 25=.c cc/\∃c M,a.g 1=.c c/\MQ H0 b s st g K f m b0 c (L0++M) J/\(M.length:Int)<=(j:Int)*D+(i:Int)/\MM X Y (X.take j) (ys.take i) x b.aH s.aH P st M) (by omega) (by decide) (by decide) (by simp) (by simp)
   ⟨by simp[S],by simp[u],by simp[ha],by simp,by simp,by simp,c,M,by simp[o],A,by omega,⟨z.of,λk k0 Z O U=>by
    rcases U with U|U
    .exact z.to k k0 Z O (.inl U)
    .simp at U⟩⟩ ?_ ?_
  .rintro i a J' hi ⟨S,u,w,p,g6,a8,c,M,o,A,a_,z⟩ c_ j7 c9;obtain⟨yb,n8,n9,m8,i7,-⟩:=rM (d7 J' A.kp) hi;have I:=(g_ _).1 (aq7 hi);have e:ys.take (i+1)=ys.take i++[ys[i]]:=by rw[arD,aq2 hi];rfl
   obtain⟨y,l_⟩:=aQ (ys[i]);rw[<-l_]at i7 I e;obtain⟨k,v,k0,Z,ka,O,f8⟩:=aac a1 b1 hP (ar1 E (by decide)) b7.1 b7.2 (hy y I.1).1 (hy y I.1).2 (by rw[<-hg];exact I.2.symm);have LJ:=nf A.bx;obtain⟨c3,H3,d5,d_⟩:=A.app (by rw[ara];omega) (st+k);rw[arZ]at d_;refine az ?_;apply ai;simp[c_,a8,m8,i7,-aD];apply ai;simp[S,g6,LJ.lap,LJ.lbp,-aD,f8];refine aq (.inl rfl) ?_;simp[o,S,LJ.jt,-aD,aM (n:=st+k),d5];refine ay (c9 _ _ ?_ (by simp[c_]) (by simp[j7]));refine⟨by simp[S],by simp[u],by simp[w],by simp[p],by simp[g6],by simp[a8],c3,M++[st+k],by simp,d_,by simp;omega,⟨λd j8=>?_,λk' c5 c6 h_ W=>?_⟩⟩
   .rcases ard.1 j8 with q|q
    .exact z.of d q
    .rw[arb]at q;exact⟨k,q,k0,Z,by rw[ka];exact f_,by rw[O];exact I.1⟩
   .rw[e,ard,arb]at W;rcases W with q|⟨q1,q|q⟩
    .exact ar4 _ (z.to k' c5 c6 h_ (.inl q))
    .exact ar4 _ (z.to k' c5 c6 h_ (.inr ⟨q1,q⟩))
    .have:k'=k:=vd.uniq F c5 c6 k0 Z (by rw[q1,ka]) (by rw[q,O]);rw[this];simp
  .rintro a J' ⟨S,u,w,p,g6,a8,c,M,o,A,a_,z⟩ - -;rw[arz]at z;refine ay (next _ _ ?_ (by simp[w]) (by simp[p,hb]));refine⟨by simp[S],by simp[u],c,M,by simp[o],A,by rw[atn,ati];omega,⟨z.of,λk k0 Z O U=>?_⟩⟩;rcases U with q|q
   .rw[f9,ard,arb]at q;rcases q with q|q
    .exact z.to k k0 Z O (.inl q)
    .refine z.to k k0 Z O (.inr ⟨q,(g_ _).2 ⟨O,?_⟩⟩);rw[asc _ i9,<-q,asc _ i8]
   .simp at q
 .rintro t J ⟨S,u,c,M,o,A,a_,z⟩ - -;rw[arz]at z;apply ai;simp[o];refine aB (hQ _ _ (.c c) rfl (cV (by simp)) ⟨c,M,rfl,A.lc,A.lo,A.kp,A.hl,by omega,z.of,λk k0 Z ka O=>z.to k k0 Z O (.inl ka)⟩)
structure iF(S:Int->Prop)(U:Int)(ds:List Int):Prop where
 lt:∀d∈ds,d<U
 iff:∀d,d<U->(d∈ds↔S d)
 pw:ds.Pairwise (· < ·)
section
variable{S:Int->Prop}{U:Int}{ds:List Int}
theorem iF.skip(h:iF S U ds){V:Int}(g:U<=V)(b:∀d,U<=d->d<V->¬ S d):iF S V ds:=
 ⟨λd hd=>by have:=h.lt d hd;omega,λd hd=>by
  by_cases k:d<U
  .exact h.iff d k
  .exact⟨λx=>absurd (h.lt d x) k,λx=>absurd x (b d (by omega) hd)⟩,h.pw⟩
theorem iF.more(h:iF S U ds){n:Int}(g:U<=n)(b:∀d,U<=d->d<n->¬ S d)(j:S n):iF S (n+1) (ds++[n]):=by
 have h:=h.skip g b;refine⟨λd hd=>?_,λd hd=>?_,?_⟩
 .rcases ard.1 hd with q|q
  .have:=h.lt d q;omega
  .rw[arb]at q;omega
 .rw[ard,arb];by_cases k:d=n
  .subst k;simp[j]
  .rw[<-h.iff d (by omega)];simp[k]
 .rw[asT];exact⟨h.pw,asE _ _,λx l y hy=>by rw[arb]at hy;subst hy;exact h.lt x l⟩
theorem iF.all(h:iF S U ds)(b:∀d,U<=d->¬ S d)(d:Int):d∈ds↔S d:=by
 by_cases k:d<U
 .exact h.iff d k
 .exact⟨λx=>absurd (h.lt d x) k,λx=>absurd x (b d (by omega))⟩
end
def SW(p:aE)(lo hi d:Int):Prop:=lo<=d/\d<hi/\bz p d=ae
theorem vG{p:aE}{base c:Int}(j:p.fr<=base)(g:(base-p.fr) % p.aH=0)(b:0<=c)(d:c<p.aH):bz p (base+c)=ae↔c∈p.aZ:=by
 unfold bz;rw[bw (by omega),decide_eq_true_eq];have:(base+c-p.fr) % p.aH=c:=by
  rw[show base+c-p.fr=c+(base-p.fr) by omega,atV,g,Int.add_zero,asc _ (asw _),arP b d]
 rw[this]
theorem A'(p:aE)(lo:Int)(H:aj):∃r b,Ev tab (.fn 123) [.a (p.row.map .f),vi lo] H r b/\(r=.c (.cl 175 [.ptr H.length 0 0,.ptr (H.length+1) 0 0])/\b=H++[.box [.f (sl p.hg (ints p.head)),.f (fi p.fr),.f (fi p.aH),.f (sl p.cg (ints p.aZ))] 0,.box [.f (fi lo)] 0]):=by
 refine cz rfl rfl λQ d=>?_;apply ai;simp[aE.row];apply ai;simp;exact aB (d _ _ _ rfl (cV (by simp)) ⟨rfl,rfl⟩)
theorem A_{b bp bl:Nat}(p:aE)(hp:cm p=ae)(o6:p.head.length<=1000000)(o4:p.aZ.length<=1000000)(lo hi:Int)(l0:0<=lo)(l1:lo<=1099511627776)(o8:hi<=2199023255552){PP:Int->List Int->aj->Prop}{RR:List Int->aj->Prop}
  (hb:∀z ds J,PP z ds J->J[bp]?=aa (.box [.f (sl p.hg (ints p.head)),.f (fi p.fr),.f (fi p.aH),.f (sl p.cg (ints p.aZ))] 0)/\J[bl]?=aa (.box [.f (fi z)] 0))
  (j7:∀z z' ds J,PP z ds J->PP z' ds (J.set bl (.box [.f (fi z')] 0)))
  (hy:∀z ds J n,PP z ds J->lo<=n->n<hi->(∀d∈ds,d<n)->ds.Pairwise (· < ·)->(∀d∈ds,SW p lo hi d)->∃J',Ev tab (.yield b) [vi n] J (vb ae) J'/\PP z (ds++[n]) J')
  (hn:∀z ds J n,PP z ds J->hi<=n->n<=4611686018427387904->∃J',Ev tab (.yield b) [vi n] J (vb ag) J'/\RR ds J') {H:aj} (h0:PP lo [] H) :
  ∃r H',Ev tab (.fn 175) [.c (.yl b),.c (.ptr bp 0 0),.c (.ptr bl 0 0)] H r H'/\(r=.t []/\∃ds,((∃z,PP z ds H')\/RR ds H')/\ds.Pairwise (· < ·)/\∀d,d∈ds↔SW p lo hi d):=by
 obtain⟨q1,q2,q3,q4,q5,q6,q7,q8,q9⟩:=aY hp;obtain⟨i,o7,i9,n5,m7⟩:=fW p.hg p.head lo (by omega) q6;have Y:∀z ds J,PP z ds J->bF J ab (.c (.ptr bp 0 0))=aa (.c (.f (sl p.hg (ints p.head))))/\bF J ab (.c (.ptr bp 1 0))=aa (vi p.fr)/\bF J ab (.c (.ptr bp 2 0))=aa (vi p.aH)/\bF J ab (.c (.ptr bp 3 0))=aa (.c (.f (sl p.cg (ints p.aZ))))/\bF J ab (.c (.ptr bl 0 0))=aa (vi z)/\∀z':Int,dC J (.ptr bl 0 0) [.f (fi z')]=aa (J.set bl (.box [.f (fi z')] 0)):=λz ds J h=>by
  obtain⟨h1,h2⟩:=hb z ds J h;refine⟨?_,?_,?_,?_,?_,λz'=>?_⟩<;>simp[bF,aK,dC,bR,h1,h2]
 obtain⟨e0,e1,e2,e3,e4,e5⟩:=Y _ _ _ h0;have i6:∀(l:List Int) (k:Nat),(ints l).drop k=ints (l.drop k):=λl k=>by simp[ints,List.map_drop]
 refine cz rfl rfl λQ hQ=>?_;apply ai;simp[e0,e4,-aD,m7];obtain⟨g1,j8⟩:=vZ (H:=H) (g:=p.hg) (k:=i) (Km.Ord.cr p.head) (by simp[ints];omega) (by simp[ints];omega);rw[i6]at j8;have b7:∀(J:aj) (g:Tg) (l:List Int),aV J (.f (sl g (ints l)))=aa l.length:=λJ g l=>by simp[ints]
 have d8:∀d,d<p.fr->0<=d->(bz p d=ae↔d∈p.head):=λd hd h0=>by unfold bz;rw[aR (by omega),decide_eq_true_eq]
 apply an;apply ai;simp[e0,-aD,j8,b7];refine cC (p.head.drop i).length (λj t J=>t.g 0=.c (.yl b)/\t.g 1=.c (.ptr bp 0 0)/\t.g 2=.c (.ptr bl 0 0)/\t.g 21=.c (.f (sl g1 (ints (p.head.drop i))))/\∃ds,PP lo ds J/\(∃U,iF (SW p lo hi) U ds/\(lo<=U/\U<=max lo p.fr)/\(∀(k:Nat) (h:k<(p.head.drop i).length),k<j->(p.head.drop i)[k]<U)/\∀(k:Nat) (h:k<(p.head.drop i).length),j<=k->U<=(p.head.drop i)[k])/\∀d∈ds,SW p lo hi d) (by rw[aru];omega) (by decide) (by decide) (by simp) (by simp)
  ⟨by simp,by simp,by simp,by simp,[],h0,⟨lo,⟨by simp,λd hd=>⟨λh=>(by simp at h),λh=>(by have:=h.1;omega)⟩,List.Pairwise.nil⟩,⟨ar9 _,by omega⟩,λk _ h=>(by omega),λk h _=>(by rw[asY];exact n5 _ (by simp at h;omega) (by omega))⟩,by simp⟩ ?_ ?_
 .rintro j t J L ⟨W,v,g2,c_,ds,I,⟨U,F,hU,E,Z⟩,y⟩ ha d7 next
  have a8:=λH:aj=>bO (H:=H) (g:=g1) (rows:=ints (p.head.drop i)) (sz:=1) (k:=.i64) (i:=(j:Int)) (by omega) (by simpa[ints]using L);have a_:=λH:aj=>dJ (H:=H) L;simp only[asZ,ar7]at a8;have i_:(p.head.drop i).Pairwise (· < ·):=q6.sublist (atT _ _);have x:∀(k:Nat) (h:k<(p.head.drop i).length),j+1<=k->(p.head.drop i)[j]<(p.head.drop i)[k]:=λk h X=>arR.1 i_ j k L h (by omega);have A:∀(k:Nat) (h:k<(p.head.drop i).length),k<j->(p.head.drop i)[k]<(p.head.drop i)[j]:=λk h X=>arR.1 i_ k j h L X;have f:=Z j L (aq9 _);have a:(p.head.drop i)[j]∈p.head:=ar5 (aq7 L);have e_:∀d,d∈p.head->d<lo\/∃(k:Nat) (h:k<(p.head.drop i).length),d=(p.head.drop i)[k]:=λd hd=>by
   obtain⟨k,X,rfl⟩:=ary hd;by_cases d9:k<i
   .exact .inl (i9 k X d9)
   .refine .inr ⟨k-i,by rw[aru];omega,?_⟩;rw[asY]
    congr 1;omega
  obtain⟨n,hx⟩:=aQ ((p.head.drop i)[j]);rw[<-hx]at a_ x A f a;have p9:=q7 n a;have K:∀d,U<=d->d<n->¬ SW p lo hi d:=λd h1 h2 B=>by
   have:=(d8 d (by omega) (by omega)).1 B.2.2;rcases e_ d this with h|⟨k,X,rfl⟩
   .omega
   .by_cases S:k<j
    .have:=E k X S;omega
    .by_cases i8:k=j
     .subst i8;omega
     .have:=x k X (by omega);omega
  have n9:=Y _ _ _ I;refine az ?_;apply ai;simp[ha,c_,a8,a_];by_cases o:n<hi
  .obtain⟨J',N,d6⟩:=hy lo ds J n I (by omega) o (λd hd=>by have:=F.lt d hd;omega) F.pw y;apply ai;simp[W,N.eq];refine ba (by simp) ?_;have B:SW p lo hi n:=⟨by omega,o,(d8 n (by omega) (by omega)).2 a⟩
   refine ay (next _ _ ?_ (by simp[ha]) (by simp[d7]));refine⟨by simp[W],by simp[v],by simp[g2],by simp[c_],ds++[n],d6,⟨n+1,F.more f K B,⟨by omega,by omega⟩,λk h X=>?_,λk h X=>by have:=x k h X;omega⟩,λd hd=>?_⟩
   .by_cases e:k=j
    .subst e;omega
    .have:=A k h (by omega);omega
   .rcases ard.1 hd with q|q
    .exact y d q
    .rw[arb]at q;rw[q];exact B
  .obtain⟨J',N,hR⟩:=hn lo ds J n I (by omega) (by omega);apply ai;simp[W,N.eq];refine au (by simp) ?_;exact aB (hQ _ _ _ rfl rfl ⟨rfl,ds,.inr hR,F.pw,F.all λd hd B=>by
    by_cases h:d<n
    .exact K d hd h B
    .have:=B.2.1;omega⟩)
 .rintro t J ⟨W,v,g2,c_,ds,I,⟨U,F,hU,E,-⟩,y⟩ - -;obtain⟨V,hV⟩:=aQ (max lo p.fr);have b_:iF (SW p lo hi) V ds:=F.skip (by omega) λd h1 h2 B=>by
   have m9:d<p.fr:=by omega
   have m_:=(d8 d m9 (by omega)).1 B.2.2;obtain⟨k,X,rfl⟩:=ary m_;by_cases d9:k<i
   .have:=i9 k X d9;omega
   .have i7:k-i<(p.head.drop i).length:=by rw[aru];omega
    have:=E (k-i) i7 i7;rw[asY]at this;simp only[show i+(k-i)=k by omega]at this;omega
  obtain⟨-,e1,e2,e3,e4,e5⟩:=Y _ _ _ I;apply an;apply ai;simp[v,e3,-aD,b7];by_cases hc:p.aZ=[]
  .refine au (by simp[hc]) ?_;refine aB (hQ _ _ _ rfl rfl ⟨rfl,ds,.inl ⟨lo,I⟩,b_.pw,b_.all λd hd B=>?_⟩);have:=B.2.2;unfold bz at this;rw[bw (by omega),hc]at this;simp at this
  have o5:0<p.aZ.length:=arY.2 hc;refine ba (by simp[hc]) ?_;have n8:max lo p.fr=V:=hV.symm;have s2:=e5 V;have c5:=j7 lo V ds J I;generalize J.set bl (.box [.f (fi V)] 0)=J2 at s2 c5;obtain⟨-,f1,f2,f3,f4,-⟩:=Y _ _ _ c5;apply ai;simp[v,g2,e1,e4,-aD,n8,s2,-bC];have o9:=arJ (V-p.fr) (show p.aH≠0 by omega);have o_:=arE (V-p.fr) (show 0<p.aH by omega);have p8:(V-p.fr) % p.aH<=V-p.fr:=by
   have h1:=arn (V-p.fr) p.aH;have h2:0<=p.aH*((V-p.fr) / p.aH):=arS (by omega) (arW (by omega) (by omega));omega
  have c9:bL .rem (vi (V-p.fr)) (vi p.aH)=aa (vi ((V-p.fr) % p.aH)):=dY (by omega) (by omega);obtain⟨base,M⟩:=aQ (V-(V-p.fr) % p.aH);have f9:(base-p.fr) % p.aH=0:=by
   rw[M,show V-(V-p.fr) % p.aH-p.fr=(V-p.fr)-(V-p.fr) % p.aH by omega,atG,asc _ (asw _),Int.sub_self,aty]
  apply ai;simp[v,g2,f1,f2,f4,-aD,aM (n:=V-p.fr),c9,<-M,aM (n:=base)];obtain⟨k0,c6,k_,j_,j9⟩:=fW p.cg p.aZ (V-base) (by omega) q8;apply ai;simp[v,g2,f3,f4,-aD,aM (n:=V-base),j9];refine az ?_;refine bT (λm s=>∃(T0:T) (J:aj) (ds:List Int) (base U:Int) (k:Nat),s=⟨T0,[],J⟩/\m=(hi-base).toNat+(if k=0 then 0 else 1)/\T0.g 0=.c (.yl b)/\T0.g 1=.c (.ptr bp 0 0)/\T0.g 4=vi k/\T0.g 8=vi base/\PP V ds J/\iF (SW p lo hi) U ds/\(∀d∈ds,SW p lo hi d)/\
   p.fr<=base/\(base-p.fr) % p.aH=0/\base<=U/\U<=base+p.aH/\V<=U/\k<=p.aZ.length/\(∀(j:Nat) (h:j<p.aZ.length),j<k->base+p.aZ[j]<U)/\(∀(j:Nat) (h:j<p.aZ.length),k<=j->U<=base+p.aZ[j])/\(k=0\/base<=1099511627776)/\base<=4398046511104) ((hi-base).toNat+(if k0=0 then 0 else 1))
   ⟨_,J2,ds,base,V,k0,rfl,rfl,by simp[W],by simp[v],by simp,by simp,c5,b_,y,by omega,f9,by omega,by omega,ar9 _,c6,λj h L=>by have:=k_ j h L;omega,λj h L=>by have:=j_ j h L;omega,by omega,by omega⟩ ?_
  clear b_ c5 f9 I M k_ j_ j9 c9 f1 f2 f3 f4 s2 e1 e2 e3 e4 e5;rintro m s ⟨t,J,ds,base,U,k,rfl,rfl,W,v,g4,g8,I,F,y,b1,b2,b3,b4,b5,X,E,Z,n6,b6⟩ ih;obtain⟨-,e1,e2,e3,e4,-⟩:=Y _ _ _ I;obtain⟨g3,j4⟩:=vZ (H:=J) (g:=p.cg) (k:=k) (Km.Ord.cr p.aZ) (by simp[ints];omega) (by simp[ints];omega);rw[i6]at j4;refine az ?_;apply an;apply ai;simp[v,g4,e3,-aD,j4,b7];refine cC (p.aZ.drop k).length (λj t' J=>t'.g 0=.c (.yl b)/\t'.g 1=.c (.ptr bp 0 0)/\t'.g 8=vi base/\t'.g 61=.c (.f (sl g3 (ints (p.aZ.drop k))))/\∃ds U,PP V ds J/\iF (SW p lo hi) U ds/\(∀d∈ds,SW p lo hi d)/\base<=U/\U<=base+p.aH/\V<=U/\(∀(i:Nat) (h:i<p.aZ.length),i<k+j->base+p.aZ[i]<U)/\(∀(i:Nat) (h:i<p.aZ.length),k+j<=i->U<=base+p.aZ[i])/\(0<j->base<hi)) (by rw[aru];omega) (by decide) (by decide) (by simp) (by simp)
   ⟨by simp[W],by simp[v],by simp[g8],by simp,ds,U,I,F,y,b3,b4,b5,E,Z,by omega⟩ ?_ ?_
  .rintro j t' J L ⟨W,v,g8,d5,ds,U,I,F,y,b3,b4,b5,E,Z,-⟩ ha d7 next
   have S:k+j<p.aZ.length:=by rw[aru]at L;omega
   have a8:=λH:aj=>bO (H:=H) (g:=g3) (rows:=ints (p.aZ.drop k)) (sz:=1) (k:=.i64) (i:=(j:Int)) (by omega) (by simpa[ints]using L);have a_:=λH:aj=>dJ (H:=H) L;simp only[asZ,ar7]at a8;have m8:(p.aZ.drop k)[j]=p.aZ[k+j]:=by rw[asY]
   have f_:=q9 _ (aq7 S);have h_:=aq7 S;have f:=Z (k+j) S (aq9 _);have x:∀(i:Nat) (h:i<p.aZ.length),k+j+1<=i->p.aZ[k+j]<p.aZ[i]:=λi h hi=>arR.1 q8 (k+j) i S h (by omega);have A:∀(i:Nat) (h:i<p.aZ.length),i<k+j->p.aZ[i]<p.aZ[k+j]:=λi h hi=>arR.1 q8 i (k+j) h S hi;obtain⟨c,g_⟩:=aQ (p.aZ[k+j]);rw[m8,<-g_]at a_;rw[<-g_]at f_ h_ f x A;have d_:bz p (base+c)=ae:=(vG b1 b2 (by omega) f_.2).2 h_;have K:∀d,U<=d->d<base+c->¬ SW p lo hi d:=λd h1 h2 B=>by
    have h3:=B.2.2;rw[show d=base+(d-base) by omega,vG b1 b2 (by omega) (by omega)]at h3;obtain⟨w,O,e⟩:=ary h3;by_cases u:w<k+j
    .have:=E w O u;omega
    .by_cases u2:w=k+j
     .subst u2;omega
     .have:=x w O (by omega);omega
   refine az ?_;apply ai;simp[ha,d5,a8,a_];by_cases o:base+c<hi
   .obtain⟨J',N,d6⟩:=hy V ds J (base+c) I (by omega) o (λd hd=>by have:=F.lt d hd;omega) F.pw y;apply ai;simp[W,g8,aM (n:=base+c),N.eq];refine ba (by simp) ?_;have B:SW p lo hi (base+c):=⟨by omega,o,d_⟩
    refine ay (next _ _ ?_ (by simp[ha]) (by simp[d7]));refine⟨by simp[W],by simp[v],by simp[g8],by simp[d5],ds++[base+c],base+c+1,d6,F.more f K B,λd hd=>?_,by omega,by omega,by omega,λw h O=>?_,λw h O=>?_,λ_=>by omega⟩
    .rcases ard.1 hd with q|q
     .exact y d q
     .rw[arb]at q;rw[q];exact B
    .by_cases e:w=k+j
     .subst e;omega
     .have:=A w h (by omega);omega
    .have:=x w h (by omega);omega
   .obtain⟨J',N,hR⟩:=hn V ds J (base+c) I (by omega) (by omega);apply ai;simp[W,g8,aM (n:=base+c),N.eq];refine au (by simp) ?_;exact aB (hQ _ _ _ rfl rfl ⟨rfl,ds,.inr hR,F.pw,F.all λd hd B=>by
     by_cases h:d<base+c
     .exact K d hd h B
     .have:=B.2.1;omega⟩)
  .rintro t' J ⟨W,v,g8,d5,ds,U,I,F,y,b3,b4,b5,E,-,f8⟩ - -;have n7:k+(p.aZ.drop k).length=p.aZ.length:=by rw[aru];omega
   rw[n7]at E;obtain⟨-,e1,e2,e3,e4,-⟩:=Y _ _ _ I;have l_:iF (SW p lo hi) (base+p.aH) ds:=F.skip b4 λd h1 h2 B=>by
    have h3:=B.2.2;rw[show d=base+(d-base) by omega,vG b1 b2 (by omega) (by omega)]at h3;obtain⟨w,O,e⟩:=ary h3;have:=E w O O;omega
   have n_:base<=2199023255552:=by
    rcases n6 with rfl|h
    .have:=f8 (by rw[aru];omega);omega
    .omega
   apply ai;simp;refine aq (.inl rfl) ?_;simp[v,g8,e2,-aD,aM (n:=base+p.aH)];refine ay (ih ((hi-(base+p.aH)).toNat+0) _ ?_ ⟨_,J,ds,base+p.aH,base+p.aH,0,rfl,by simp,by simp[W],by simp[v],by simp,by simp,I,l_,y,by omega,?_,ar9 _,by omega,by omega,by omega,λj h L=>by omega,λj h L=>by have:=q9 _ (aq7 h);omega,.inl rfl,by omega⟩)
   .by_cases c6:k=0
    .rw[bw c6];have:=f8 (by rw[aru];omega);omega
    .rw[aR c6];omega
   .rw[show base+p.aH-p.fr=base-p.fr+p.aH by omega,Int.add_emod_right];exact b2
structure WQ(p:aE)(hi:Int)(tm:T)(st:dt)(pd:Option ax)(z:Int)(ds:List Int)(J:aj):Prop where
 h1:J[1]?=aa (.box [.f (fi hi)] 0)
 bp:J[3]?=aa (.box [.f (sl p.hg (ints p.head)),.f (fi p.fr),.f (fi p.aH),.f (sl p.cg (ints p.aZ))] 0)
 bl:J[4]?=aa (.box [.f (fi z)] 0)
 df:J[5]?=aa (.fj ae)
 lp:J[6]?=aa (.lp 168 tm [P.nat 12] jz iA st pd 5)
 ls:∃c,J[2]?=aa (.box [c] 0)/\LR J c 1 (ints ds)/\∀i,aT c=aa i->6<i
theorem WQ.Lv{p:aE}{hi:Int}{b:T}{st st':dt}{j pd':Option ax}{z:Int}{ds:List Int}{J:aj}(h:WQ p hi b st j z ds J):WQ p hi b st' pd' z ds (J.set 6 (.lp 168 b [P.nat 12] jz iA st' pd' 5)):=by
 obtain⟨h1,h3,l,m,d,c,h2,g,hc⟩:=h;refine⟨?_,?_,?_,?_,aq6 (av d),c,?_,g.set (λe=>by have:=hc 6 e;omega) _,hc⟩
 all_goals (rw[aq0 (by omega)];assumption)
theorem WQ.low{p:aE}{hi:Int}{d:T}{st:dt}{b:Option ax}{z:Int}{ds:List Int}{J:aj}(h:WQ p hi d st b z ds J)(g:Int):WQ p hi d st b g ds (J.set 4 (.box [.f (fi g)] 0)):=by
 obtain⟨h1,h3,j,m,q,c,h2,l,hc⟩:=h;refine⟨?_,?_,aq6 (av j),?_,?_,c,?_,l.set (λe=>by have:=hc 4 e;omega) _,hc⟩
 all_goals (rw[aq0 (by omega)];assumption)
theorem ph{p:aE}{hi:Int}{j:T}(L:j.g 5=.c (.ptr 1 0 0))(M:j.g 7=.c (.ptr 2 0 0)){z:Int}{ds:List Int}{J:aj}(h:WQ p hi j .ready ab z ds J)(n:Int)(O:n<hi->ds.length<=1000000) :
  ∃r v,Ev tab (.yield 6) [vi n] J r v/\((n<hi/\r=vb ae/\WQ p hi j .ready ab z (ds++[n]) v)\/(hi<=n/\r=vb ag/\WQ p hi j .done (aa (.exit 0)) z ds v)):=by
 refine gi (tab:=tab) (b:=6) (args:=[vi n]) (H:=J) h.lp rfl λX m=>?_;refine aq (.inr rfl) ?_;simp;refine na h.lp ?_;have d:=h.Lv (st':=.busy) (pd':=ab);generalize J.set 6 (.lp 168 j [P.nat 12] jz iA .busy ab 5)=x at d ⊢;have U:bF x ab (.c (.ptr 1 0 0))=aa (vi hi):=by simp[bF,aK,d.h1]
 obtain⟨c,E,N,F⟩:=d.ls;refine az ?_;apply an;refine an (aq (.inr rfl) ?_);simp[L,U,-aD];by_cases k:n<hi
 .refine aA (by simp;omega) (aJ ?_);obtain⟨u,s,q,l,I,B,A⟩:=ng N (arB (O k) (by decide)) n;have g:∀(i:Nat) y,i<=6->x[i]?=aa y->s[i]?=aa y:=λi y hi Q=>B i y Q λe=>by have:=F i e;omega
  have S:bF x ab (.c (.ptr 2 0 0))=aa (.c c):=by simp[bF,aK,E]
  have n2:=g 2 _ (by omega) E;have W:dC s (.ptr 2 0 0) [u]=aa (s.set 2 (.box [u] 0)):=by simp[dC,n2,bR]
  refine aq (.inr rfl) ?_;simp[M,S,-aD,q,W,-bC];have K:WQ p hi j .busy ab z (ds++[n]) (s.set 2 (.box [u] 0)):=by
   have Y:=av (g 6 _ (by omega) d.lp);refine⟨?_,?_,?_,?_,?_,u,aq6 (av n2),l.set (l.bI n2) _,λi hi=>?_⟩
   .rw[aq0 (by omega)];exact g 1 _ (by omega) d.h1
   .rw[aq0 (by omega)];exact g 3 _ (by omega) d.bp
   .rw[aq0 (by omega)];exact g 4 _ (by omega) d.bl
   .rw[aq0 (by omega)];exact g 5 _ (by omega) d.df
   .rw[aq0 (by omega)];exact g 6 _ (by omega) d.lp
   .rcases A with e|e
    .rw[e]at hi;exact F i hi
    .rw[e]at hi;cases hi;have:=av d.lp;omega
  exact ay (cW (m _ _ _ _ _ _ _ _ _ _ rfl K.lp (.inl ⟨k,rfl,K.Lv⟩)))
 .refine au (by simp;omega) ?_;exact jd rfl (m _ _ _ _ _ _ _ _ _ _ rfl d.lp (.inr ⟨by omega,rfl,d.Lv⟩))
theorem uU(p:aE)(X:cm p=ae)(W:p.head.length<=1000000)(O:p.aZ.length<=1000000)(lo hi:Int)(l0:0<=lo)(l1:lo<=1099511627776)(hh:hi<=lo+1000000) :
  ∃L g,bH tab 168 [.a (p.row.map .f),vi lo,vi hi]=Eq (.c (.f (sl g (ints L))))/\L.Pairwise (· < ·)/\∀d,d∈L↔SW p lo hi d:=by
 obtain⟨r,⟨L,g,rfl,K,M⟩,h⟩:∃r,(∃L g,r=.c (.f (sl g (ints L)))/\L.Pairwise (· < ·)/\∀d,d∈L↔SW p lo hi d)/\bH tab 168 [.a (p.row.map .f),vi lo,vi hi] r:=by
  refine mF aiR rfl λQ hQ=>?_;apply ai;simp[aE.row];apply ai;simp;obtain⟨m,q⟩:=aQ ([.box [.f (sl p.hg (ints p.head)),.f (fi p.fr),.f (fi p.aH),.f (sl p.cg (ints p.aZ))] 0,.box [.f (fi hi)] 0,.box [.f .aw] 0]:aj);rw[<-q];have la:bF m (aa 4) (.c (.ptr 0 0 0))=aa (.a [.f (sl p.hg (ints p.head)),.f (fi p.fr),.f (fi p.aH),.f (sl p.cg (ints p.aZ))]):=by rw[q];simp[bF,aK,bf]
  obtain⟨r0,H0,U,rfl,rfl⟩:=A' p lo m;simp only[aE.row,arf,art]at U;have f:m.length=3:=by rw[q];rfl
  rw[f]at U;apply an;apply ai;simp[la,-aD,U.eq];refine az ?_
  suffices go:∀j:T,j.g 5=.c (.ptr 1 0 0)->j.g 7=.c (.ptr 2 0 0)->j.g 11=.c (.cl 175 [.ptr 3 0 0,.ptr 4 0 0])->WP tab 168 ab [.code wu,.inBlock 0,.code pC] ⟨j,[],m++[.box [.f (sl p.hg (ints p.head)),.f (fi p.fr),.f (fi p.aH),.f (sl p.cg (ints p.aZ))] 0,.box [.f (fi lo)] 0]⟩ Q by exact go _ (by simp) (by simp) (by simp)
  intro j k H F;obtain⟨t,A⟩:=aQ (m++[.box [.f (sl p.hg (ints p.head)),.f (fi p.fr),.f (fi p.aH),.f (sl p.cg (ints p.aZ))] 0,.box [.f (fi lo)] 0]++[.fj ae,.lp 168 j [P.nat 12] jz iA .ready ab 5]:aj);have q0:WQ p hi j .ready ab lo [] t:=by
   rw[A,q];refine⟨rfl,rfl,rfl,rfl,rfl,.f .aw,rfl,?_,λi h=>by cases h⟩;exact LR.nil _ _
  obtain⟨r,v,he,rfl,ds,s,Y,E⟩:=A_ (b:=6) (bp:=3) (bl:=4) p X W O lo hi l0 l1 (by omega) (PP:=λz ds J=>WQ p hi j .ready ab z ds J) (RR:=λds J=>∃z,WQ p hi j .done (aa (.exit 0)) z ds J)
   (λz ds J h=>⟨h.bp,h.bl⟩) (λz z' ds J h=>h.low z')
   (λz ds J n h a8 hn a_ X hS=>by
    have B:ds.length<=1000000:=by
     have:=dT ds lo (hi-lo) X λx hx=>by have:=hS x hx;unfold SW at this;omega
     omega
    obtain⟨r,v,u,a⟩:=ph k H h n λ_=>B;rcases a with⟨_,rfl,Z⟩|⟨I,_,_⟩
    .exact⟨v,u,Z⟩
    .omega)
   (λz ds J n h hn _=>by
    obtain⟨r,v,u,a⟩:=ph k H h n λh=>by omega
    rcases a with⟨I,_,_⟩|⟨_,rfl,Z⟩
    .omega
    .exact⟨v,u,z,Z⟩)
   q0
  have l:(m++[cH.box [.f (sl p.hg (ints p.head)),.f (fi p.fr),.f (fi p.aH),.f (sl p.cg (ints p.aZ))] 0,.box [.f (fi lo)] 0]).length=5:=by simp[f]
  have S:Ev tab (.fn 175) [.c (.yl ((m++[cH.box [.f (sl p.hg (ints p.head)),.f (fi p.fr),.f (fi p.aH),.f (sl p.cg (ints p.aZ))] 0,.box [.f (fi lo)] 0]).length+1)),.c (.ptr 3 0 0),.c (.ptr 4 0 0)] (m++[cH.box [.f (sl p.hg (ints p.head)),.f (fi p.fr),.f (fi p.aH),.f (sl p.cg (ints p.aZ))] 0,.box [.f (fi lo)] 0]++[.fj ae,.lp 168 j [P.nat 12] jz iA .ready ab (m++[cH.box [.f (sl p.hg (ints p.head)),.f (fi p.fr),.f (fi p.aH),.f (sl p.cg (ints p.aZ))] 0,.box [.f (fi lo)] 0]).length]) (.t []) v:=by
   rw[l,<-A];exact he
  refine gH (g:=175) (by rw[wX,F];simp[bX]) S ?_;rw[l];have y:∀(J:aj) (st:dt) (o:Option ax) (z:Int),WQ p hi j st o z ds J->WP tab 168 ab [.code pC] ⟨j,[.gB 5],J⟩ Q:=by
   intro J st o z h;obtain⟨c,I,w,hc⟩:=h.ls;have l2:bF J ab (.c (.ptr 2 0 0))=aa (.c c):=by simp[bF,aK,I]
   have N:=w.set (λe=>by have:=hc 5 e;omega) (.fj ag);obtain⟨g,hg⟩:=N.ex (Km.Ord.cr _) 63;apply ai;simp[H,l2,-aD];refine aB (hQ _ _ _ ⟨ds,g,rfl,Y,E⟩ (.inr ⟨5,rfl,h.df,.c c,?_,?_⟩))
   .exact cV (by simp)
   .simp[jy,deep,hg]
  rcases s with⟨z,h⟩|⟨z,h⟩
  .refine iL h.lp (by decide) (ay (y _ _ _ z h.Lv))
  .refine lC h.lp (by decide) (aS rfl (y _ _ _ z h.Lv))
 exact⟨L,g,h.eq,K,M⟩
theorem zM{x y:Int}(h:x<=y)(b:x≠y):x<y:=by omega
theorem vA{l:List Int}(g:l.Pairwise (·<=·)){i j:Nat}(b:i<j)(d:j<l.length):(l[i]'(by omega))<=l[j]:=arR.1 g i j (by omega) d b
theorem KT{l:List Int}{j:Nat}{x:Int}(b:l[j]?=aa x):(ints l)[j]?=aa [fi x]:=by simp[ints,b]
theorem ui(l:List Int):(ints l).length=l.length:=by simp[ints]
theorem KU(l:List Int)(j:Nat)(x:Int):(ints l).set j [fi x]=ints (l.set j x):=by simp[ints,List.map_set]
theorem vS{H:aj}{b d:Nat}{l:List Int}(h:RB H b 1 d (ints l)){j:Nat}{x:Int}(g:l[j]?=aa x):bF H ab (.c (.ptr b j d))=aa (vi x):=by
 have:=h.ldc (Km.Ord.cr l) (KT g) (k:=0) rfl;simpa using this
theorem xy{H:aj}{b A:Nat}{l:List Int}(hl:l.length<=1000000)(hs:l.Pairwise (·<=·))(F:RB H b 1 A (ints l)) :
  ∃r H',Ev tab (.fn 170) [.c (.sl b 0 l.length 0 A 1)] H r H'/\
   (∃l' R:List Int,r=.c (.sl b 0 l'.length 0 A 1)/\Fm b H H'/\RB H' b 1 A (ints (l'++R))/\l'.length<=l.length/\l'.Pairwise (· < ·)/\∀x,x∈l'↔x∈l):=by
 refine cz rfl rfl λQ hQ=>?_;apply ai;simp;apply an;apply ai;simp[F.len];by_cases h2:l.length<2
 .refine au (by simp;omega) ?_;apply ai;simp;refine aB (hQ _ _ _ rfl (cV (by simp)) ⟨l,[],rfl,Fm.refl _,by simpa using F,aq9 _,?_,λ_=>Iff.rfl⟩)
  match l,h2 with
  |[],_=>exact List.Pairwise.nil| [x],_=>exact asE _ _| x::y::r,h=>simp at h;omega
 refine aA (by simp;omega) (aJ ?_);apply an;apply ai;simp;refine az ?_;refine bT (λn s=>∃(k:Nat) (t:T),s=⟨t,[],H⟩/\n=l.length-k/\1<=k/\k<=l.length/\t.g 0=.c (.sl b 0 l.length 0 A 1)/\t.g 3=vi k/\(l.take k).Pairwise (· < ·)) (l.length-1)
  ⟨1,_,rfl,rfl,by omega,by omega,by simp,by simp,?_⟩ ?_
 .cases l with
  |nil=>simp| cons x r=>simp
 rintro n s ⟨k,t,rfl,rfl,f8,f9,B,E,hp⟩ ih;apply an;apply ai;simp[B,E,F.len];by_cases u:k<l.length
 case neg=>
  refine aA (by simp[u]) ?_;refine aS (k':=[.code mQ]) rfl ?_;apply ai;simp[B];refine aB (hQ _ _ _ rfl (cV (by simp)) ⟨l,[],rfl,Fm.refl _,by simpa using F,aq9 _,?_,λ_=>Iff.rfl⟩);rwa[List.take_of_length_le (by omega)]at hp
 refine au (by simp[u]) (aJ ?_);obtain⟨m,rfl⟩:∃m,k=m+1:=⟨k-1,by omega⟩
 have ix:∀{H:aj} {rows:List (List FC)} (F:RB H b 1 A rows) (o n i:Nat) (hi:i<n),bg H 1 ab (.c (.sl b o n 0 A 1)) (vi i)=aa (.c (.ptr b (o+i) A)):=by
  intro H rows F o n i hi;have:=F.idx (n:=n) (c:=0) (k:=.i64) (o:=o) (i:=(i:Int)) (by omega) (by omega);rwa[ar7,asZ]at this
 have i1:=ix F 0 l.length (m+1) u;have i0:=ix F 0 l.length m (by omega);have l1:=vS F (j:=m+1) (aq2 u);have l0:=vS F (j:=m) (aq2 (show m<l.length by omega));rw[asd]at i1 i0;have c1:((m+1:Nat):Int)-1=m:=by omega
 rw[show((m+1:Nat):Int)=(m:Int)+1 by omega]at i1;have c9:l.take (m+1+1)=l.take (m+1)++[l[m+1]]:=by rw[arD,aq2 u];rfl
 apply an;refine az ?_;apply ai;simp[B,E,i1,i0,l1,l0,-aD,aM (n:=(m:Int))];by_cases hc:¬ l[m+1]=l[m]
 .
  refine aA (by simp[hc]) (aJ (ay ?_));refine aq (.inl rfl) ?_;simp[E,aM (n:=(m:Int)+1+1)];refine ih (l.length-(m+2)) _ (by omega) ⟨m+2,_,rfl,rfl,by omega,by omega,by simp[B],by simp;omega,?_⟩;show(l.take (m+1+1)).Pairwise (· < ·);have M:l[m]≠l[m+1]:=λe=>hc e.symm;rw[c9,asT];refine⟨hp,asE _ _,λy hy z hz=>?_⟩;obtain rfl:=arb.1 hz;obtain⟨i,hi,rfl⟩:=ary hy;have e_:i<m+1:=by simp at hi;omega
  rw[List.getElem_take];by_cases e:i=m
  .subst e;exact zM (vA hs (by omega) u) M
  .exact Int.lt_trans (b:=l[m]) (by
    have h1:=arR.1 hp i m (by simp;omega) (by simp;omega) (by omega);simpa using h1) (zM (vA hs (by omega) u) M)
 .
  have c5:l[m+1]=l[m]:=Classical.not_not.1 hc;have c2:((m+1:Nat):Int)=(m:Int)+1:=by omega
  have N:=F.sI (k:=m+1) u;rw[c2]at N;refine au (by simp[c5]) ?_;apply ai;simp[B,E,N];apply an;apply ai;simp;refine az ?_;refine bT (λn s=>∃(i:Nat) (t:T) (I:aj) (P R:List Int),s=⟨t,[],I⟩/\n=l.length-(m+2+i)/\m+2+i<=l.length/\t.g 0=.c (.sl b 0 l.length 0 A 1)/\t.g 3=vi P.length/\t.g 4=.c (.sl b (m+1) (l.length-(m+1)) 0 A 1)/\t.g 5=vi ((i:Int)+1)/\
   Fm b H I/\RB I b 1 A (ints (P++R))/\(P++R).length=l.length/\1<=P.length/\P.length<=m+1+i/\(∀q,m+1+i<=q->(P++R)[q]?=l[q]?)/\P.Pairwise (· < ·)/\∀x,x∈P↔x∈l.take (m+2+i)) (l.length-(m+2))
   ⟨0,_,H,l.take (m+1),l.drop (m+1),rfl,rfl,by omega,by simp[B],by simp[E];omega,by simp,by simp,Fm.refl _,by simpa using F,by simp,by simp;omega,by simp;omega,by simp,hp,λx=>?_⟩ ?_
  .show x∈l.take (m+1)↔x∈l.take (m+1+1);rw[c9,ard,arb];refine⟨.inl,λh=>h.elim id λe=>?_⟩;rw[e,c5];exact asa.2 ⟨m,by omega,rfl⟩
  rintro n s ⟨i,t,I,P,R,rfl,rfl,hi,B,E,U,W,J,d,v,X,c_,hq,L,g⟩ d_;have Z:=d.len (o:=(m+1)) (l:=l.length-(m+1)) (c:=0);apply an;apply ai;simp[U,W,Z];by_cases K:m+2+i<l.length
  case neg=>
   have b_:m+2+i=l.length:=by omega
   refine aA (by simp;omega) ?_;refine aS (k':=[.code pF,.inBlock 1,.code pG,.inLoop pE,.inBlock 0,.code mQ]) rfl ?_;have a_:P.length<l.length:=by omega
   obtain⟨H3,b7,a8,d6⟩:=d.clr (Km.Ord.cr _) (zs:=[fi 0]) (by simpa using v) a_ rfl;rw[asZ]at b7;have N:=d.sI a_;apply ai;simp[B,E,N,b7];have d9:=a8.aaa (n:=l.length) (k:=P.length) (by omega) (by omega);apply ai;simp[B,E,d9];have e3:(ints (P++R)).take P.length++List.replicate (l.length-P.length) [fi 0]=ints (P++List.replicate (l.length-P.length) 0):=by
    simp[ints]
   rw[e3]at a8;refine aB (hQ _ _ _ rfl (cV (by simp)) ⟨P,_,rfl,J.trans d6,a8,by omega,L,λx=>?_⟩);rw[g,b_,arz]
  have ha:(P++R)[m+2+i]?=aa l[m+2+i]:=by rw[hq _ (by omega),aq2 K]
  have d5:(P++R)[m+1+i]?=aa (l[m+1+i]'(by omega)):=by rw[hq _ (by omega),aq2]
  have j1:=ix d (m+1) (l.length-(m+1)) (i+1) (by omega);have j0:=ix d (m+1) (l.length-(m+1)) i (by omega);rw[show m+1+(i+1)=m+2+i by omega,show((i+1:Nat):Int)=(i:Int)+1 by omega]at j1;rw[show m+1+i=m+1+i by omega]at j0;have d1:=vS d ha;have d0:=vS d d5;refine au (by simp;omega) (aJ ?_);apply an;refine az ?_;apply ai;simp[U,W,j1,j0,d1,d0,-aD,aM (n:=(i:Int))];have S:l.take (m+2+(i+1))=l.take (m+2+i)++[l[m+2+i]]:=by
   rw[show m+2+(i+1)=m+2+i+1 by omega,arD,aq2 K];rfl
  have next:∀(t:T) (I:aj) (P R:List Int),t.g 0=.c (.sl b 0 l.length 0 A 1)->t.g 3=vi P.length->t.g 4=.c (.sl b (m+1) (l.length-(m+1)) 0 A 1)->t.g 5=vi ((i:Int)+1)->
    Fm b H I->RB I b 1 A (ints (P++R))->(P++R).length=l.length->1<=P.length->P.length<=m+2+i->(∀q,m+2+i<=q->(P++R)[q]?=l[q]?)->P.Pairwise (· < ·)->(∀x,x∈P↔x∈l.take (m+2+(i+1)))->
    WP tab 170 ab [.inBlock 3,.code tG,.inLoop tF,.inBlock 2,.code pF,.inBlock 1,.code pG,.inLoop pE,.inBlock 0,.code mQ] ⟨t,[],I⟩ Q:=by
   intro t I P R B E U W J d v X c_ hq L g;refine ay (aq (.inl rfl) ?_);simp[W,aM (n:=(i:Int)+1+1)];exact d_ (l.length-(m+2+(i+1))) _ (by omega) ⟨i+1,_,I,P,R,rfl,rfl,by omega,by simp[B],by simp[E],by simp[U],by simp,J,d,v,X,by omega,λq h=>hq q (by omega),L,g⟩
  have d7:(l[m+1+i]'(by omega))<=l[m+2+i]:=vA hs (by omega) K;by_cases Y:¬ l[m+2+i]=l[m+1+i]
  .have M:l[m+1+i]≠l[m+2+i]:=λe=>Y e.symm;have c6:=zM d7 M;have kx:=ix d 0 l.length P.length (by omega);rw[asd]at kx;obtain⟨H3,s3,r3,f3,-⟩:=d.str (Km.Ord.cr _) (j:=P.length) (by rw[ui,v];omega) (row:=[fi l[m+2+i]]) rfl;rw[KU]at r3;rw[asZ]at s3;obtain⟨x0,R',rfl⟩:∃x0 R',R=x0::R':=by
    cases R with
    |nil=>simp at v;omega| cons x0 R'=>exact⟨_,_,rfl⟩
   rw[BL]at r3;refine au (by simp[Y]) ?_;apply ai;simp only[arf,art]at s3;simp[B,E,U,W,j1,d1,kx,s3,-aD,-bC];refine aq (.inl rfl) ?_;simp[E,aM (n:=(P.length:Int)+1)];have e5:P++l[m+2+i]::R'=(P++[l[m+2+i]])++R':=by simp
   rw[e5]at r3;refine next _ H3 (P++[l[m+2+i]]) R' (by simp[B]) (by simp) (by simp[U]) (by simp[W]) (J.trans f3) r3 (by simpa using v) (by simp) (by simp;omega) (λq h=>?_) ?_ λx=>?_
   .rw[<-e5,<-BL P x0,aq0 (by omega)];exact hq q (by omega)
   .rw[asT];refine⟨L,asE _ _,λy hy z hz=>?_⟩;obtain rfl:=arb.1 hz;obtain⟨q,d8,rfl⟩:=ary ((g y).1 hy);have f_:q<m+2+i:=by simp at d8;omega
    rw[List.getElem_take];by_cases e:q=m+1+i
    .subst e;exact c6
    .have h1:=vA hs (i:=q) (j:=m+1+i) (by omega) (by omega);omega
   .rw[S,ard,ard,g]
  .have O:l[m+2+i]=l[m+1+i]:=Classical.not_not.1 Y;refine ba (by simp[O]) ?_;refine next _ I P R (by simp[B]) (by simp[E]) (by simp[U]) (by simp[W]) J d v X (by omega) (λq h=>hq q (by omega)) L λx=>?_
   rw[S,ard,arb,g];refine⟨.inl,λh=>h.elim id λe=>?_⟩;rw[e,O];exact asa.2 ⟨m+1+i,by omega,rfl⟩
def CR(H:aj)(c:C)(l:List Int):Prop:=(l=[]/\(c=.f .aw\/c=.f .es))\/(l≠[]/\∃b d R g,c=.sl b 0 l.length 0 d 1/\H[b]?=aa (.cK 1 ((l++R).map λn=>.f (fi n)) g d .loc))
theorem zO(l:List Int):(ints l).flatten.map C.f=l.map λn=>.f (fi n):=by
 induction l with
 |nil=>rfl| cons a l b=>simp only[ints,arf,arv,List.map_append]at b ⊢;rw[b];rfl
theorem uh(l:List Int):(ints l).flatten=l.map fi:=by
 induction l with
 |nil=>rfl| cons a l b=>simp only[ints,arf,arv]at b ⊢;rw[b];rfl
theorem ahr{l:List Int}(h:l≠[])(g:Tg):sl g (ints l)=.fs (l.map fi) l.length:=by
 have:ints l≠[]:=by intro e;apply h;have:=congrArg List.length e;simpa[ints]using this
 rw[<-uh];cases l with
 |nil=>exact absurd rfl h| cons a l=>simp[sl,ints]
theorem vl(c:C)(g:c=.f .aw\/c=.f .es)(H:aj):∃r b,Ev tab (.fn 170) [.c c] H r b/\(r=.c c/\b=H):=by
 have j:aV H c=aa 0:=by rcases g with rfl|rfl<;>rfl
 refine cz rfl rfl λQ d=>?_;apply ai;simp;apply an;apply ai;simp[j];refine au (by simp) ?_;apply ai;simp;exact aB (d _ _ _ rfl (cV (by simp)) ⟨rfl,rfl⟩)
theorem zy{H:aj}{c:C}{l:List Int}(I:l.length<=1000000)(J:l.Pairwise (·<=·))(h:LR H c 1 (ints l)) :
  ∃m d g,Ev tab (.fn 170) [.c c] H (.c m) d/\CR d m g/\Kb H d c/\(aT m=aT c)/\g.length<=l.length/\g.Pairwise (· < ·)/\∀x,x∈g↔x∈l:=by
 rcases h with⟨q,y⟩|⟨u,b,z,rfl,A⟩
 .have q:l=[]:=by
   cases l with
   |nil=>rfl| cons a l=>simp[ints]at q
  subst q;obtain⟨r,d,s,rfl,rfl⟩:=vl c y H;exact⟨c,d,[],s,.inl ⟨rfl,y⟩,Kb.refl _ _,rfl,aq9 _,List.Pairwise.nil,λ_=>Iff.rfl⟩
 .rw[ui];obtain⟨r,d,s,g,R,rfl,F,j,B,E,v⟩:=xy I J A;refine⟨_,d,g,s,.inr ⟨λe=>?_,b,z,R,0,rfl,?_⟩,Kb.aog F,rfl,B,E,v⟩
  .subst e;cases l with
   |nil=>simp[ints]at u| cons a l=>have:=(v a).2 arl;simp at this
  .unfold RB at j;rw[j,zO]
theorem CR.ex{H:aj}{c:C}{l:List Int}(h:CR H c l):∃g,∀n,eT (n+1) H c=aa (sl g (ints l)):=by
 rcases h with⟨rfl,rfl|rfl⟩|⟨hl,b,d,R,j,rfl,h2⟩
 .exact⟨.nil,λ_=>rfl⟩
 .exact⟨.es,λ_=>rfl⟩
 .refine⟨.fs,λn=>?_⟩;simp only[kg,h2];rw[bw ⟨trivial,trivial,by simp⟩,asp,asZ];have:((l++R).map λn=>C.f (fi n)).take l.length=(l.map fi).map .f:=by simp
  rw[this,nR,ahr hl];rfl
theorem CR.mk{H:aj}{c:C}{l:List Int}(h:CR H c l)(n:Nat):CR (fk (n+1) c H) c l/\∀(i:Nat) (y:cH),H[i]?=aa y->aT c≠aa i->(fk (n+1) c H)[i]?=aa y:=by
 rcases h with⟨rfl,rfl|rfl⟩|⟨hl,b,d,R,j,rfl,h2⟩
 .exact⟨.inl ⟨rfl,.inl rfl⟩,λi y hy _=>hy⟩
 .exact⟨.inl ⟨rfl,.inr rfl⟩,λi y hy _=>hy⟩
 .have e:fk (n+1) (.sl b 0 l.length 0 d 1) H=H.set b (.cK 1 ((l++R).map λn=>.f (fi n)) (Nat.max j (0+l.length*1)) d .loc):=by
   simp only[mz,h2];rw[jb];intro x g;have g:=ar5 (ass g);obtain⟨m,_,rfl⟩:=arx.1 g;exact⟨_,rfl⟩
  rw[e];refine⟨.inr ⟨hl,b,d,R,_,rfl,aq6 (av h2)⟩,λi y hy hi=>?_⟩;rw[aq0 (by rintro rfl;exact hi rfl)];exact hy
def VR(H:aj)(c:C)(d:Option Nat)(m:List Int):Prop:=∀b:aj,(∀i y,d=aa i->H[i]?=aa y->b[i]?=aa y)->aV b c=aa m.length/\∀(k:Nat) (h:k<m.length),∃p,bg b 1 ab (.c c) (vi k)=aa (.c p)/\bF b ab (.c p)=aa (vi m[k])
theorem CR.cut{H:aj}{c:C}{l:List Int}(h:CR H c l){i:Nat}(hi:i<=l.length):∃g q s,uQ H 1 (.c c) (vi i) (vi i)=aa (.c (.f (sl g (ints (l.take i)))),q)/\(∀d:aj,(∀j y,aT c=aa j->q[j]?=aa y->d[j]?=aa y)->bS d 1 (.c c) (aa (vi i)) ab ab=aa (.c s))/\(∀j y,H[j]?=aa y->aT c≠aa j->q[j]?=aa y)/\q.length=H.length/\VR q s (aT c) (l.drop i):=by
 rcases h with⟨rfl,hc⟩|⟨hl,b,z,R,A,rfl,h2⟩
 .have m:i=0:=by simpa using hi
  subst m;rcases hc with rfl|rfl
  .exact⟨.nil,H,.f .aw,rfl,λ_ _=>rfl,λ_ _ h _=>h,rfl,λd _=>⟨rfl,λk h=>by simp at h⟩⟩
  .exact⟨.es,H,.f .es,rfl,λ_ _=>rfl,λ_ _ h _=>h,rfl,λd _=>⟨rfl,λk h=>by simp at h⟩⟩
 .have B:bM l.length l.length ab (aa (vi i)) (aa (vi i))=aa (0,i,i):=by simp[bM,fe hi,fe (aq9 i)]
  have E:bM l.length l.length (aa (vi i)) ab ab=aa (i,l.length,l.length):=by simp[bM,fe hi]
  have L:∀(q:aj) (A:Nat),q[b]?=aa (.cK 1 ((l++R).map λn=>.f (fi n)) A z .loc)->∃s,(∀d:aj,(∀j y,aa b=aa j->q[j]?=aa y->d[j]?=aa y)->bS d 1 (.c (.sl b 0 l.length 0 z 1)) (aa (vi i)) ab ab=aa (.c s))/\VR q s (aa b) (l.drop i):=λq A h2=>by
   by_cases u:i=l.length
   .refine⟨.f (.fs [] 0),λd v=>?_,λd _=>⟨by rw[u,List.drop_length];rfl,λk h=>by rw[u,List.drop_length]at h;simp at h⟩⟩;have:0<l.length:=arY.2 hl;have h2:=v b _ rfl h2;simp only[bS,h2,and_self,if_true,E];simp[u,this]
   .refine⟨.sl b i (l.length-i) 0 z 1,λd v=>?_,λd v=>?_⟩
    .have h2:=v b _ rfl h2;simp only[bS,h2,and_self,if_true,E];simp[u]
    .have x:=v b _ rfl h2;refine⟨by simp[aV,x],λk h=>⟨.ptr b (i+k) z,?_,?_⟩⟩
     .have v:k<l.length-i:=by simpa using h
      simp[bg,show fE (vi k)=aa (k:Int) from rfl,x,v]
     .have v:i+k<l.length:=by simp at h;omega
      simp only[bF,aK,x,if_true,Option.bind_some];rw[List.drop_eq_getElem_cons (by simp;omega)];have J:((l++R).map λn=>C.f (fi n))[i+k]'(by simp;omega)=.f (fi l[i+k]):=by
       rw[as2,List.getElem_append_left v]
      rw[J];simp[bf]
  by_cases m:i=0
  .subst m;obtain⟨s,F,I⟩:=L H A h2;refine⟨.es,H,s,?_,F,λ_ _ h _=>h,rfl,I⟩;simp only[uQ,bS,h2,and_self,if_true,B];simp[sl,ints,Tg.fc]
  .have K:l.take i≠[]:=by
    intro e;have:=congrArg List.length e;simp at this;rcases this with h|h
    .exact m h
    .exact hl h
   obtain⟨s,F,I⟩:=L (H.set b (.cK 1 ((l++R).map λn=>.f (fi n)) (Nat.max A (i*1)) z .loc)) _ (aq6 (av h2));refine⟨.fs,_,s,?_,F,λj y hy M=>?_,by simp,I⟩
   .have O:bS H 1 (.c (.sl b 0 l.length 0 z 1)) ab (aa (vi i)) (aa (vi i))=ab:=by
     simp only[bS,h2,and_self,if_true,B];simp[m]
    have N:aX fcC (((l++R).map λn=>C.f (fi n)).take (i*1))=aa ((l.take i).map fi):=by
     have:((l++R).map λn=>C.f (fi n)).take (i*1)=((l.take i).map fi).map .f:=by
      rw[asZ,<-List.map_take,List.take_append_of_le_length hi,List.map_map];rfl
     rw[this];generalize (l.take i).map fi=w;induction w with
     |nil=>rfl| cons a w Q=>simp only[arf,aX,fcC,Q]
    simp only[uQ,O,h2,and_self,if_true,fe hi];rw[bw ⟨trivial,by omega,by simp;omega⟩,N,ahr K];simp[asK hi]
   .rw[aq0 (by rintro rfl;exact M rfl)];exact hy
theorem x4{p:aE}(g:1<=p.aH){d d':Int}(hd:p.fr<=d)(b:p.fr<=d')(h:p.aH ∣ d'-d):bz p d'=bz p d:=by
 unfold bz;rw[bw hd,bw b];have:(d'-p.fr) % p.aH=(d-p.fr) % p.aH:=by
  rw[show d'-p.fr=(d'-d)+(d-p.fr) by omega,atV,atk h,Int.zero_add,asc _ (asw _)]
 rw[this]
theorem aj_(f:Bool->Bool->Bool){l m:aE}(X:cm l=ae)(Y:cm m=ae){st P:Int}(t:st=max l.fr m.fr)(H:vd l.aH m.aH P)(r:st<=1000000)(W:P<=1000000){L:List Int}(B:L.Pairwise (· < ·))(s:∀d,d∈L↔0<=d/\d<st+P/\f (bz l d) (bz m d)=ae)(U:L.length<=1000000)
  {i:Nat} (A:∀j (h:j<L.length),j<i->L[j]<st) (z:∀j (h:j<L.length),i<=j->st<=L[j]) (M K:Tg) :
  cm ⟨M,L.take i,st,P,K,(L.drop i).map (· - st)⟩=ae/\∀d,0<=d->bz ⟨M,L.take i,st,P,K,(L.drop i).map (· - st)⟩ d=f (bz l d) (bz m d):=by
 obtain⟨q1,q2,w,q4,-⟩:=aY X;obtain⟨w1,w2,w3,w4,-⟩:=aY Y;have I:=H.pos;have E:∀x∈L.take i,x∈L/\x<st:=λx g=>by
  obtain⟨j,u,rfl⟩:=asa.1 g;exact⟨aq7 _,A j (by omega) (by omega)⟩
 have q:∀x,x∈L.drop i↔x∈L/\st<=x:=λx=>by
  constructor
  .intro g;obtain⟨j,u,rfl⟩:=ary g;rw[asY];exact⟨aq7 _,z _ _ (by omega)⟩
  .rintro⟨g,r⟩;obtain⟨j,u,rfl⟩:=ary g;have Z:i<=j:=by
    rcases arI j i with k|k
    .have:=A j u k;omega
    .exact k
   exact arh (i:=j-i) (by rw[arC,show i+(j-i)=j by omega,aq2 u])
 refine⟨qO (by show 0<=st;omega) (by show st<=_;omega) (by show 1<=P;omega) (by show P<=_;omega) (by show(L.take i).length+((L.drop i).map (· - st)).length<=_;simp;omega) (B.sublist (atS _ _)) (λx g=>?_) ?_ (λx g=>?_),λd hd=>?_⟩
 .have:=E x g;exact⟨((s x).1 this.1).1,this.2⟩
 .show((L.drop i).map (· - st)).Pairwise (· < ·);rw[List.pairwise_map];exact List.Pairwise.imp (λh=>by omega) (B.sublist (atT i L))
 .have g:x∈(L.drop i).map (· - st):=g;obtain⟨y,J,rfl⟩:=arx.1 g;obtain⟨F,S⟩:=(q y).1 J;have:=(s y).1 F;exact⟨by omega,by show y-st<P;omega⟩
 .unfold bz;simp only;by_cases k:st<=d
  .rw[bw k];have n:=arJ (d-st) (show P≠0 by omega);have o:=arE (d-st) I;have v:P ∣ d-(st+(d-st) % P):=by
    rw[show d-(st+(d-st) % P)=(d-st)-(d-st) % P by omega];exact Int.dvd_self_sub_emod
   have N:=x4 (p:=l) w (d:=st+(d-st) % P) (d':=d) (by omega) (by omega) (ar3 H.da v);have O:=x4 (p:=m) w3 (d:=st+(d-st) % P) (d':=d) (by omega) (by omega) (ar3 H.db v);have Q:(d-st) % P∈(L.drop i).map (· - st)↔f (bz l d) (bz m d)=ae:=by
    rw[arx,N,O];constructor
    .rintro⟨y,J,e⟩;obtain⟨F,S⟩:=(q y).1 J;have:=((s y).1 F).2.2;rw[show st+(d-st) % P=y by omega];exact this
    .intro h;exact⟨st+(d-st) % P,(q _).2 ⟨(s _).2 ⟨by omega,by omega,h⟩,by omega⟩,by omega⟩
   have b:decide ((d-st) % P∈(L.drop i).map (· - st))=f (bz l d) (bz m d):=by
    rw[asX,decide_eq_true_eq];exact Q
   unfold bz at b;exact b
  .rw[aR k];have b:decide (d∈L.take i)=f (bz l d) (bz m d):=by
    rw[asX,decide_eq_true_eq];constructor
    .intro h;exact((s d).1 (E d h).1).2.2
    .intro h;have c:=(s d).2 ⟨hd,by omega,h⟩;obtain⟨j,u,rfl⟩:=ary c;have a:j<i:=by
      rcases arI j i with k|k'
      .exact k
      .have:=z j u k';omega
     exact asa.2 ⟨j,by omega,rfl⟩
   unfold bz at b;exact b
end Go.Proofs.YtgfdmhmmjbihiaaGreat
