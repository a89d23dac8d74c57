/-
  LK the kB jt and the jv answer, for all arguments of their kind, in the small machine: part 5.
-/
import Derived.Test.YtelifakcllijpaaGreatS4
import Derived.Test.YtelifakcllijpaaGreatK2
open Option renaming some->aa,none->ab
open Bool renaming true->ae,false->ag
open List renaming map_cons->IT, flatten_cons->ag6, map_append->ahQ, mem_cons_self->agR, drop_zero->ahR, mem_of_mem_drop->ahM, mem_of_mem_take->ah1, mem_map->agX, getElem?_set_self->By, getElem?_set_ne->sh, drop_length->aib, length_pos_iff->ahf, drop_eq_getElem_cons->agT, getElem_map->aiF, map_take->aiV, take_append_of_le_length->ahK, map_map->air, mem_take_iff_getElem->ahE, getElem_mem->IN, getElem_of_mem->ag1, getElem_drop->aip, getElem?_drop->ahP, getElem?_eq_getElem->BY, pairwise_map->aiB, length_set->agZ, getElem?_append_left->AI, length_drop->ag5, take_add_one->agV, length_map->agS, length_take->ahl, take_length->agW, map_nil->agN, mem_filter->ahB, getElem?_append_right->agL, length_filter_le->ahV, mem_append->agP, mem_singleton->If, length_append->agM, mem_cons->ag8, not_mem_nil->aid, eraseIdx_eq_take_drop_succ->ah8, map_drop->ait, drop_append_of_le_length->aim, append_assoc->ahm, take_append_drop->ahU, flatten_append->aif, set_eq_take_append_cons_drop->aiJ, length_eraseIdx->aiM, take_of_length_le->agY, mem_append_left->ahu, mem_append_right->ail, drop_drop->aiG, mem_or_eq_of_mem_set->aiK, nil_append->ahL, append_nil->ahe, map_replicate->ajv, length_replicate->aiw, set_append_right->aij, replicate_succ->aiO, set_cons_zero->aio, replicate_zero->ajt, length_singleton->aiv, all_eq_true->ag9, mem_cons_of_mem->agU, length_nil->ah7, length_cons->ahk, getElem?_eq_some_iff->aft, getElem?_cons_succ->aho, getElem?_cons_zero->aht
open Nat renaming le_refl->agQ, mul_one->aiC, lt_or_ge->ahS, zero_le->aih, sub_self->aiD, le_trans->ahd, mul_le_mul->ajh, lt_of_lt_of_le->ah2, add_mul->ahi, mul_le_mul_right->ahA, gcd->ah5, gcd_dvd_right->aiL, one_mul->ajl
open Option renaming bind_some->ahz
open Int renaming emod_emod_of_dvd->ahW, dvd_refl->ah3, emod_nonneg->ahj, emod_lt_of_pos->ahc, dvd_trans->ahr, le_of_dvd->ahq, emod_add_mul_ediv->ag2, ediv_nonneg->ahC, mul_ediv_cancel_left->ah6, mul_comm->ah4, gcd->ahw, le_trans->ahx, gcd_pos_of_ne_zero_left->ahX, gcd_dvd_left->aiu, gcd_dvd_right->aiA, mul_le_mul_of_nonneg_right->aha, natCast_add->ajb, add_mul->aja, mul_nonneg->ahy, emod_eq_of_lt->ahG, sub_emod->ajf, le_refl->ahY, toNat_natCast->ag7, dvd_of_emod_eq_zero->ah9, natCast_dvd_natCast->ajg, dvd_add->ajn, mul_le_mul->aiy, tmod_eq_emod_of_nonneg->ag4, tdiv_eq_ediv_of_nonneg->ahp
open List.Pairwise renaming imp->aiZ, imp_of_mem->ajc
open Bool renaming eq_iff_iff->aiq, and_eq_true->IS, not_eq_true'->aii, true_and->ahJ
open Option.some renaming inj->ajq
set_option linter.all false
set_option maxRecDepth 100000
set_option maxHeartbeats 2000000
namespace Go.Proofs.YtelifakcllijpaaGreat
open Go Km
variable{m n N k:Nat}{H K:an}{o d z:Int}{u y:C}{p q:aR}{l Y:List Int}{L F:List (List aR)}{t:List aR}{a:T}{v w r:FC}{e:dB}{f:aD}{h:List C}{A:bV}{B:List dS}{I:List (Int × Int)}{M:List (Int × C)}{O:Option aD}{Q:List P}{S:List (List FC)}{U:Option Nat}{X:List cU}
def CR(H:an)(c:C)(l:List Int):Prop:=(l=[]/\(c=.f .aN\/c=.f .es))\/(l≠[]/\∃b d R fl,c=.sl b 0 l.length 0 d 1/\H[b]?=aa (.dz 1 ((l++R).map λn=>Z n) fl d .loc))
def Hv(l:List Int):(ints l).flatten.map C.f=l.map λn=>Z n:=by
 induction l with
 |nil=>rfl| cons a l b=>simp only[ints,IT,ag6,ahQ]at b ⊢;rw[b];rfl
def oh(l:List Int):(ints l).flatten=l.map fi:=by
 induction l with
 |nil=>rfl| cons a l b=>simp only[ints,IT,ag6]at b ⊢;rw[b];rfl
def V3(h:l≠[])(g:Tg):sl g (ints l)=.fs (l.map fi) l.length:=by
 have:ints l≠[]:=by intro e;apply h;have:=congrArg List.length e;simpa[ints]using this
 rw[<-oh];cases l with
 |nil=>exact absurd rfl h| cons a l=>simp[sl,ints]
def CN(c:C)(d:c=.f .aN\/c=.f .es)(H:an):∃r H',Ev tab (.fn Cy) [.c c] H r H'/\(r=.c c/\H'=H):=by
 have g:bA H c=aa 0:=by rcases d with rfl|rfl<;>rfl
 refine dc rfl rfl λQ b=>?_;apply ai;simp;apply aU;simp[g];refine aq bv ?_;apply ai;simp;exact av (b _ _ _ rfl (dx bv) ⟨rfl,rfl⟩)
def Ha(I:l.length<=1000000)(J:l.Pairwise (·<=·))(h:LR H u 1 (ints l)) :
  ∃j H' d,Ev tab (.fn Cy) [.c u] H (.c j) H'/\CR H' j d/\Kb H H' u/\(bz j=bz u)/\d.length<=l.length/\d.Pairwise (· < ·)/\∀x,x∈d↔x∈l:=by
 rcases h with⟨m,v⟩|⟨s,b,y,rfl,z⟩
 .have m:l=[]:=by
   cases l with
   |nil=>rfl| cons a l=>simp[ints]at m
  subst m;obtain⟨r,H',q,rfl,rfl⟩:=CN u v H;exact⟨u,H',[],q,.inl ⟨rfl,v⟩,Kb.refl _ _,rfl,agQ _,List.Pairwise.nil,λ_=>Iff.rfl⟩
 .rw[Bt];obtain⟨r,H',q,d,R,rfl,F,g,A,B,c⟩:=Ep I J z;refine⟨_,H',d,q,.inr ⟨λe=>?_,b,y,R,0,rfl,?_⟩,Kb.adg F,rfl,A,B,c⟩
  .subst e;cases l with
   |nil=>simp[ints]at s| cons a l=>have:=(c a).2 agR;simp at this
  .unfold RB at g;rw[g,Hv]
def CR.ex(h:CR H u l):∃g,∀n,fv (n+1) H u=aa (sl g (ints l)):=by
 rcases h with⟨rfl,rfl|rfl⟩|⟨hl,b,d,R,fl,rfl,h2⟩
 .exact⟨.nil,λ_=>rfl⟩
 .exact⟨.es,λ_=>rfl⟩
 .refine⟨.fs,λn=>?_⟩;simp only[gR,h2];rw[ct ⟨trivial,trivial,bv⟩,ahR,aiC];have:((l++R).map λn=>C.f (fi n)).take l.length=(l.map fi).map .f:=lw
  rw[this,kr,V3 hl];rfl
def CR.mk(h:CR H u l)(n:Nat):CR (ez (n+1) u H) u l/\∀(i:Nat) (y:bV),H[i]?=aa y->bz u≠aa i->(ez (n+1) u H)[i]?=aa y:=by
 rcases h with⟨rfl,rfl|rfl⟩|⟨hl,b,d,R,fl,rfl,h2⟩
 .exact⟨.inl ⟨rfl,.inl rfl⟩,λi y hy _=>hy⟩
 .exact⟨.inl ⟨rfl,.inr rfl⟩,λi y hy _=>hy⟩
 .have e:ez (n+1) (.sl b 0 l.length 0 d 1) H=H.set b (.dz 1 ((l++R).map λn=>Z n) (Nat.max fl (0+l.length*1)) d .loc):=by
   simp only[jY,h2];rw[jF];intro x g;have g:=ahM (ah1 g);obtain⟨m,_,rfl⟩:=agX.1 g;exact⟨_,rfl⟩
  rw[e];refine⟨.inr ⟨hl,b,d,R,_,rfl,By (aj h2)⟩,λi y hy hi=>?_⟩;rw[sh (by rintro rfl;exact hi rfl)];exact hy
def VR(H:an)(c:C)(b:Option Nat)(m:List Int):Prop:=∀H':an,(∀i y,b=aa i->H[i]?=aa y->H'[i]?=aa y)->bA H' c=aa m.length/\∀(k:Nat) (h:k<m.length),∃p,bO H' 1 ab (.c c) (vi k)=aa (.c p)/\aV H' ab (.c p)=aa (vi m[k])
def CR.cut(h:CR H u l)(hi:m<=l.length):∃g i q,B9 H 1 (.c u) (vi m) (vi m)=aa (G (sl g (ints (l.take m))),i)/\(∀H':an,(∀j y,bz u=aa j->i[j]?=aa y->H'[j]?=aa y)->cJ H' 1 (.c u) (aa (vi m)) ab ab=aa (.c q))/\(∀j y,H[j]?=aa y->bz u≠aa j->i[j]?=aa y)/\i.length=H.length/\VR i q (bz u) (l.drop m):=by
 rcases h with⟨rfl,hc⟩|⟨hl,b,x,R,fl,rfl,h2⟩
 .have d:m=0:=by simpa using hi
  subst d;rcases hc with rfl|rfl
  .exact⟨.nil,H,.f .aN,rfl,λ_ _=>rfl,λ_ _ h _=>h,rfl,λH' _=>⟨rfl,λk h=>by simp at h⟩⟩
  .exact⟨.es,H,.f .es,rfl,λ_ _=>rfl,λ_ _ h _=>h,rfl,λH' _=>⟨rfl,λk h=>by simp at h⟩⟩
 .have z:cG l.length l.length ab (aa (vi m)) (aa (vi m))=aa (0,m,m):=by simp[cG,ie hi,ie (agQ m)]
  have A:cG l.length l.length (aa (vi m)) ab ab=aa (m,l.length,l.length):=by simp[cG,ie hi]
  have K:∀(i:an) (fl:Nat),i[b]?=aa (.dz 1 ((l++R).map λn=>Z n) fl x .loc)->∃q,(∀H':an,(∀j y,aa b=aa j->i[j]?=aa y->H'[j]?=aa y)->cJ H' 1 (.c (.sl b 0 l.length 0 x 1)) (aa (vi m)) ab ab=aa (.c q))/\VR i q (aa b) (l.drop m):=λi fl h2=>by
   by_cases s:m=l.length
   .refine⟨.f (.fs [] 0),λH' c=>?_,λH' _=>⟨by rw[s,aib];rfl,λk h=>by rw[s,aib]at h;simp at h⟩⟩;have:0<l.length:=ahf.2 hl;have h2:=c b _ rfl h2;simp only[cJ,h2,and_self,if_true,A];simp[s,this]
   .refine⟨.sl b m (l.length-m) 0 x 1,λH' c=>?_,λH' c=>?_⟩
    .have h2:=c b _ rfl h2;simp only[cJ,h2,and_self,if_true,A];simp[s]
    .have v:=c b _ rfl h2;refine⟨by simp[bA,v],λk h=>⟨.ptr b (m+k) x,?_,?_⟩⟩
     .have c:k<l.length-m:=by simpa using h
      simp[bO,show fE (vi k)=aa (k:Int) from rfl,v,c]
     .have c:m+k<l.length:=by simp at h;omega
      simp only[aV,az,v,if_true,ahz];rw[agT ge];have I:((l++R).map λn=>C.f (fi n))[m+k]'(by simp;omega)=Z l[m+k]:=by
       rw[aiF,List.getElem_append_left c]
      rw[I];simp[aX]
  by_cases d:m=0
  .subst d;obtain⟨q,B,F⟩:=K H fl h2;refine⟨.es,H,q,?_,B,λ_ _ h _=>h,rfl,F⟩;simp only[B9,cJ,h2,and_self,if_true,z];simp[sl,ints,Tg.fc]
  .have J:l.take m≠[]:=by
    intro e;have:=congrArg List.length e;simp at this;rcases this with h|h
    .exact d h
    .exact hl h
   obtain⟨q,B,F⟩:=K (H.set b (.dz 1 ((l++R).map λn=>Z n) (Nat.max fl (m*1)) x .loc)) _ (By (aj h2));refine⟨.fs,_,q,?_,B,λj y hy L=>?_,bv,F⟩
   .have N:cJ H 1 (.c (.sl b 0 l.length 0 x 1)) ab (aa (vi m)) (aa (vi m))=ab:=by
     simp only[cJ,h2,and_self,if_true,z];simp[d]
    have M:bC fcC (((l++R).map λn=>C.f (fi n)).take (m*1))=aa ((l.take m).map fi):=by
     have:((l++R).map λn=>C.f (fi n)).take (m*1)=((l.take m).map fi).map .f:=by
      rw[aiC,<-aiV,ahK hi,air];rfl
     rw[this];generalize (l.take m).map fi=w;induction w with
     |nil=>rfl| cons a w O=>simp only[IT,bC,fcC,O]
    simp only[B9,N,h2,and_self,if_true,ie hi];rw[ct ⟨trivial,ap,ge⟩,M,V3 J];simp[Nat.min_eq_left hi]
   .rw[sh (by rintro rfl;exact L rfl)];exact hy
def qE(j:1<=p.aO){d':Int}(g:p.fr<=d)(b:p.fr<=d')(h:p.aO ∣ d'-d):bE p d'=bE p d:=by
 unfold bE;rw[ct g,ct b];have:(d'-p.fr) % p.aO=(d-p.fr) % p.aO:=by
  rw[show d'-p.fr=(d'-d)+(d-p.fr) by omega,Int.add_emod,Int.emod_eq_zero_of_dvd h,Int.zero_add,ahW _ (ah3 _)]
 rw[this]
def ZX(f:Bool->Bool->Bool){m:aR}(L:cO q=ae)(a:cO m=ae){st:Int}(a_:st=max q.fr m.fr)(I:CC q.aO m.aO o)(hs:st<=1000000)(X:o<=1000000)(B:Y.Pairwise (· < ·))(s:∀d,d∈Y↔0<=d/\d<st+o/\f (bE q d) (bE m d)=ae)(W:Y.length<=1000000)
  {i:Nat} (A:∀j (h:j<Y.length),j<i->Y[j]<st) (z:∀j (h:j<Y.length),i<=j->st<=Y[j]) (N M:Tg) :
  cO ⟨N,Y.take i,st,o,M,(Y.drop i).map (· - st)⟩=ae/\∀d,0<=d->bE ⟨N,Y.take i,st,o,M,(Y.drop i).map (· - st)⟩ d=f (bE q d) (bE m d):=by
 obtain⟨q1,q2,q3,q4,-⟩:=bM L;obtain⟨w1,w2,w3,w4,-⟩:=bM a;have J:=I.pos;have F:∀x∈Y.take i,x∈Y/\x<st:=λx g=>by
  obtain⟨j,u,rfl⟩:=ahE.1 g;exact⟨IN _,A j ap ap⟩
 have l:∀x,x∈Y.drop i↔x∈Y/\st<=x:=λx=>by
  constructor
  .intro g;obtain⟨j,u,rfl⟩:=ag1 g;rw[aip];exact⟨IN _,z _ _ ap⟩
  .rintro⟨g,hs⟩;obtain⟨j,u,rfl⟩:=ag1 g;have n:i<=j:=by
    rcases ahS j i with k|k
    .have:=A j u k;omega
    .exact k
   exact List.mem_of_getElem? (i:=j-i) (by rw[ahP,show i+(j-i)=j by omega,BY u])
 refine⟨uQ (by show 0<=st;omega) (by show st<=_;omega) (by show 1<=o;omega) (by show o<=_;omega) (by show(Y.take i).length+((Y.drop i).map (· - st)).length<=_;simp;omega) (B.sublist (List.take_sublist _ _)) (λx g=>?_) ?_ (λx g=>?_),λd c=>?_⟩
 .have:=F x g;exact⟨((s x).1 this.1).1,this.2⟩
 .show((Y.drop i).map (· - st)).Pairwise (· < ·);rw[aiB];exact aiZ (λh=>by omega) (B.sublist (List.drop_sublist i Y))
 .have g:x∈(Y.drop i).map (· - st):=g;obtain⟨y,K,rfl⟩:=agX.1 g;obtain⟨H,U⟩:=(l y).1 K;have:=(s y).1 H;exact⟨ap,by show y-st<o;omega⟩
 .unfold bE;simp only;by_cases k:st<=d
  .rw[ct k];have t:=ahj (d-st) (show o≠0 by omega);have w:=ahc (d-st) J;have v:o ∣ d-(st+(d-st) % o):=by
    rw[show d-(st+(d-st) % o)=(d-st)-(d-st) % o by omega];exact Int.dvd_self_sub_emod
   have O:=qE (p:=q) q3 (d:=st+(d-st) % o) (d':=d) ap ap (ahr I.da v);have Q:=qE (p:=m) w3 (d:=st+(d-st) % o) (d':=d) ap ap (ahr I.db v);have S:(d-st) % o∈(Y.drop i).map (· - st)↔f (bE q d) (bE m d)=ae:=by
    rw[agX,O,Q];constructor
    .rintro⟨y,K,e⟩;obtain⟨H,U⟩:=(l y).1 K;have:=((s y).1 H).2.2;rw[show st+(d-st) % o=y by omega];exact this
    .intro h;exact⟨st+(d-st) % o,(l _).2 ⟨(s _).2 ⟨ap,ap,h⟩,ap⟩,ap⟩
   have b:decide ((d-st) % o∈(Y.drop i).map (· - st))=f (bE q d) (bE m d):=by
    rw[aiq,decide_eq_true_eq];exact S
   unfold bE at b;exact b
  .rw[cC k];have b:decide (d∈Y.take i)=f (bE q d) (bE m d):=by
    rw[aiq,decide_eq_true_eq];constructor
    .intro h;exact((s d).1 (F d h).1).2.2
    .intro h;have r:=(s d).2 ⟨c,ap,h⟩;obtain⟨j,u,rfl⟩:=ag1 r;have P:j<i:=by
      rcases ahS j i with k|k'
      .exact k
      .have:=z j u k';omega
     exact ahE.2 ⟨j,ap,rfl⟩
   unfold bE at b;exact b
structure jT(N:Int)(p:aR):Prop where
 ok:cO p=ae
 fr:p.fr<=100000
 aO:p.aO ∣ 27720
 bd:p.aO<=N
def jT.le(h:jT o p):p.aO<=27720:=ahq ce h.aO
theorem jT.head{N:Int}{p:aR}(h:jT N p):p.head.length<=100000:=by
 obtain⟨j,l,m,q,s,d,g,u,v⟩:=bM h.ok;have:=fq p.head 0 p.fr d λx b=>by have:=g x b;omega
 have:=h.fr;omega
theorem jT.bH{N:Int}{p:aR}(h:jT N p):p.bH.length<=27720:=by
 obtain⟨j,l,m,q,s,u,v,d,g⟩:=bM h.ok;have:=fq p.bH 0 p.aO d λx b=>by have:=g x b;omega
 have:=h.le;omega
structure OQ(J5:an)(bo:Nat)(hd:FC)(st P:Int)(cq:C)(nF:List Int)(J:an):Prop where
 kp:∀i:Nat,i<J5.length->i≠bo->J[i]?=J5[i]?
 bx:J[bo]?=E [.f hd,Z st,Z P,cq]
 lq:LR J cq 1 (ints nF)
 qb:∀i,bz cq=aa i->J5.length<=i
 hl:J5.length<=J.length
def OQ.app(h:OQ H N w o d y Y K)(A:N<H.length)(hl:Y.length<=1000000)(n:Int) :
  ∃b g,bZ (K++[.box [Z n] 0]) 1 8 (.c y) (.c (.sl K.length 0 1 1 0 1))=aa (.c b,g)/\dj g (.ptr N 3 0) [b]=aa (g.set N (.box [.f w,Z o,Z d,b] 0))/\OQ H N w o d b (Y++[n]) (g.set N (.box [.f w,Z o,Z d,b] 0)):=by
 obtain⟨b,g,m,l,z,q,v⟩:=rz h.lq ap n;have B:=h.hl;have P:=q _ _ h.bx (h.lq.cm h.bx);refine⟨b,g,m,by simp[dj,P,over],λi hi s=>?_,By (aj P),l.set (l.cm P) _,λi hi=>?_,by rw[agZ];omega⟩
 .rw[sh (Ne.symm s),<-h.kp i hi s];have x:i<K.length:=ii
  have hy:K[i]?=aa K[i]:=BY x;rw[hy];exact q i _ hy λe=>by have:=h.qb i e;omega
 .rcases v with e|e
  .rw[e]at hi;exact h.qb i hi
  .rw[e]at hi;cases hi;omega
def Dg(f:Bool->Bool->Bool){qa qb:aR}(ha:cO qa=ae)(hb:cO qb=ae)(v_:o=max qa.fr qb.fr)(hP:CC qa.aO qb.aO d)(hs:o<=100000)(y7:d<=27720)(n8:d ∣ z)(hsm:o<=max p.fr q.fr)(t_:∀P,0<=P->f (bE qa P) (bE qb P)=f (bE p P) (bE q P))
{cx cy:C} {g:Int} {bp:Nat} (hL:LR H u 1 (ints l)) (m_:l.length<=1000000) (i6:∀P,P∈l↔0<=P/\P<o+d/\f (bE qa P) (bE qb P)=ae) (j2:H[2]?=E [.f .aN,Z 0,Z 0,.f .aN]) (jp:H[bp]?=E (cR qa qb o cx cy g m)) (y_:bp≠2)
  {t:T} (g6:t.g 6=.c (.ptr 2 0 0)) (N:t.g 8=.c (.ptr bp 0 0)) (g9:t.g 9=vi d) (e_:t.g 16=.c u) {Q:Option aD->St->Prop}
  (hQ:∀j s r,(∃b,cO b=ae/\b.fr<=max p.fr q.fr/\b.aO ∣ z/\(∀P,0<=P->bE b P=f (bE p P) (bE q P))/\r=.t [.a (b.row.map .f),vi 0])->pY [.cell (Km.P.nat 6) (aa 4),.tmp (Km.P.nat 7)] r s->Q j s) :
  WP tab vK ab [.code AE] ⟨t,[],H⟩ Q:=by
 obtain⟨q1,q2,q3,q4,-⟩:=bM ha;have z_:=hP.pos;obtain⟨r,J1,d9,rfl,g_,l2,m9,c,s7⟩:=SG hL ap;apply ai;simp[e_,d9.eq];have z7:l2.length<=1000000:=by rw[c.length_eq];exact m_
 obtain⟨c',J2,L,c9,Y,h_,A,z8,U,j6⟩:=Ha ap s7 m9;apply ai;simp[e_,c9.eq];have y6:∀(i:Nat) y,H[i]?=aa y->bz u≠aa i->J2[i]?=aa y:=λi y I hn=>h_.2 i y (g_.2 i y I hn) hn;obtain⟨gx,c_⟩:=Y.ex;have c_:=c_ 63;obtain⟨O,r9⟩:=Y.mk 63;obtain⟨i,hi,t8,i9,n_⟩:=gJ gx L o ap U;have kk:∀k cs fl,H[k]?=aa (bV.box cs fl)->J2[k]?=aa (bV.box cs fl)/\(ez 64 c' J2)[k]?=aa (bV.box cs fl):=λk cs fl B=>by
  have h1:=y6 k _ B (hL.cm B);exact⟨h1,r9 k _ h1 (by rw[A];exact hL.cm B)⟩
 obtain⟨J3,a_⟩:=aH (ez 64 c' J2);rw[<-a_]at kk O;have L2:=ry (kk bp _ _ jp).1;apply ai;simp[N,L2.nF,-aw,c_,deep,n_,<-a_];obtain⟨X,J4,c2,j7,u_,r_,s_,k_⟩:=O.cut hi;have d_:∀k cs fl,H[k]?=aa (bV.box cs fl)->J4[k]?=aa (bV.box cs fl):=λk cs fl B=>r_ k _ (kk k cs fl B).2 (by rw[A];exact hL.cm B);have L3:=ry (kk bp _ _ jp).2;have L4:=ry (d_ bp _ _ jp);refine aE (eH (.inl rfl) ?_ ?_)
 case refine_2=>
  intro cc p_;have p9:cc=(5,3):=by simpa using p_
  subst p9;refine⟨ce,_,rfl,.inr ⟨ce,?_⟩⟩;simp[N,j7,L3.nF,L4.nF,-aw,gE,vS]
 simp[N,g9,j7,L4.nF,-aw];obtain⟨M,b_⟩:=aH (J4.length);obtain⟨K,J⟩:=aH (J4++[bV.box [.f (sl X (ints (L.take i))),Z o,Z d,.f .aN] 0]);have k5:∀(k:Nat) y,J4[k]?=aa y->K[k]?=aa y:=λk y B=>by rw[J,AI (aj B)];exact B
 have b5:K[M]?=E [.f (sl X (ints (L.take i))),Z o,Z d,.f .aN]:=by rw[J,b_];simp
 have l5:K.length=M+1:=by rw[J];simp[b_]
 rw[<-J,<-b_];have j8:=u_ K λj y _ I=>k5 j y I;have w_:=k_ K λj y _ I=>k5 j y I;have o_:∀j,bz c'=aa j->j<M:=λj hj=>by
  rw[A]at hj;have h1:=hL.lt hj;have h2:=g_.1;have h3:=h_.1;have h4:J3.length=J2.length:=by
   rw[a_];rcases Y with⟨-,rfl|rfl⟩|⟨-,q,ep,z,fl,rfl,h2⟩
   .rfl
   .rfl
   .simp only[jY,h2];rw[jF]
    .simp
    .intro x hx;have hx:=ahM (ah1 hx);obtain⟨m,_,rfl⟩:=agX.1 hx;exact⟨_,rfl⟩
  omega
 have q0:OQ K M (sl X (ints (L.take i))) o d (.f .aN) [] K:=⟨λ_ _ _=>rfl,b5,by simpa[ints]using LR.nil _ _,λ_ h=>(by cases h),agQ _⟩
 apply aU;simp[j8,w_.1];refine bW (L.drop i).length (λj t H=>t.g 6=.c (.ptr 2 0 0)/\t.g 8=.c (.ptr bp 0 0)/\t.g 19=.c (.ptr M 0 0)/\t.g 149=.c c2/\∃cq,OQ K M (sl X (ints (L.take i))) o d cq (((L.drop i).take j).map (· - o)) H) (by rw[ag5];omega) ce ce bv bv
  ⟨by simp[g6],by simp[N],bv,bv,.f .aN,by simpa using q0⟩ ?_ ?_
 .rintro j t J' hj ⟨g6,N,F,R,cq,v⟩ i7 n9 next
  have x6:=(k_ J' λk y B I=>by
   have:=o_ k B;rw[v.kp k ap ap];exact k5 k y I).2 j hj
  obtain⟨a,r6,j5⟩:=x6;have j_:(L.drop i).take (j+1)=(L.drop i).take j++[(L.drop i)[j]]:=by rw[agV,BY hj];rfl
  have i_:i+j<L.length:=by rw[ag5]at hj;omega
  have x8:o<=(L.drop i)[j]/\(L.drop i)[j]<o+d:=by
   rw[aip];exact⟨i9 _ i_ ap,((i6 _).1 (c.mem_iff.1 ((j6 _).1 (IN i_)))).2.1⟩
  obtain⟨x,hx⟩:=aH ((L.drop i)[j]);rw[<-hx]at j5 j_ x8;have r7:J'[bp]?=E (cR qa qb o cx cy g m):=by
   have h4:=d_ bp _ _ jp;have:=aj h4;rw[v.kp bp ap ap];exact k5 bp _ h4
  have LJ:=ry r7;have x_:aV J' ab (.c (.ptr M 3 0))=aa (.c cq):=by simp[aV,az,v.bx]
  obtain⟨c3,H3,i8,j9,u9⟩:=v.app ap (by rw[agS,ahl];omega) (x-o);apply ax;apply ai;simp[i7,R,r6,j5,-aw];apply ba;simp[N,F,x_,LJ.nF,-aw,a8 (n:=x-o),i8,j9,-bF];refine au (next _ _ ?_ (by simp[i7]) (by simp[n9]));refine⟨by simp[g6],by simp[N],by simp[F],by simp[R],c3,?_⟩;rw[j_];simpa using u9
 .rintro t J' ⟨g6,N,F,R,cq,v⟩ - -;rw[agW]at v;obtain⟨W,hW⟩:=aH ((L.drop i).map (· - o));have y8:W.length<=1000000:=by rw[hW];simp;omega
  rw[<-hW]at v;obtain⟨gc,q_⟩:=v.lq.exU (Km.Ord.cW _);have x3:=q_ J' 63 (λi y I _=>I);obtain⟨o1,o2⟩:=ZX f ha hb v_ hP ap ap U (λP=>by rw[j6,c.mem_iff];exact i6 P) ap t8 i9 X gc;rw[<-hW]at o1 o2;obtain⟨b,⟨d1,d2,d3,d4⟩,-,-,S⟩:=qf ⟨X,L.take i,o,d,gc,W⟩ o1 (by show W.length<=_;omega) (by show(L.take i).length<=_;simp;omega);simp only[aR.row,IT,agN]at S d2 d3;have x9:aV J' (aa 4) (.c (.ptr M 0 0))=aa (.a [.f (sl X (ints (L.take i))),Z o,Z d,cq]):=by simp[aV,az,v.bx,aX]
  have u3:=RD v.lq;simp only[deep]at u3;have l_:J'[2]?=E [.f .aN,Z 0,Z 0,.f .aN]:=by
   have h4:=d_ 2 _ _ j2;have:=aj h4;rw[v.kp 2 ap ap];exact k5 2 _ h4
  have w2:=u3 2 _ l_ (v.lq.cm l_);obtain⟨JM,f_⟩:=aH (ez 64 cq J');rw[<-f_]at w2;have t2:dj JM (.ptr 2 0 0) [.f (sl b.hg (ints b.head)),Z b.fr,Z b.aO,.f (sl b.cg (ints b.bH))]=aa (JM.set 2 (.box [.f (sl b.hg (ints b.head)),Z b.fr,Z b.aO,.f (sl b.cg (ints b.bH))] 0)):=by simp[dj,w2,over]
  have n2:(JM.set 2 (.box [.f (sl b.hg (ints b.head)),Z b.fr,Z b.aO,.f (sl b.cg (ints b.bH))] 0))[2]?=E [.f (sl b.hg (ints b.head)),Z b.fr,Z b.aO,.f (sl b.cg (ints b.bH))]:=By (aj w2);apply ai;simp[g6,F,x9,-aw,x3,deep,S,<-f_,t2,-bF];refine av (hQ _ _ _ ⟨b,d1,ap,ahr d3 n8,λP hd=>?_,rfl⟩ ⟨rfl,.t [.a [.f (sl b.hg (ints b.head)),Z b.fr,Z b.aO,.f (sl b.cg (ints b.bH))],vi 0],?_,?_⟩)
  .rw[d4 P hd,o2 P hd,t_ P hd]
  .simp[Km.results,cB,bC,g6,n2,aX]
  .simp[aR.row,jd,dq,bC]
def Ui{X:List (Int × C)}(B d:aR)(st:Int)(h:PH H N l Y o X u y m)(I:0<o)(K:0<=d.aO)(U:d.aO<=1000000)(x:Int)(M:0<=x)(S:Y.length<=1000000) :
  ∃r H',Ev tab (.fn XE) [.a (cR B d st u y o m),vi x] H r H'/\(r=vb (decide (((ir o Y (x % o)).length:Int)=d.aO / o))/\(∀i:Nat,i<H.length->H'[i]?=H[i]?)/\H.length<=H'.length):=by
 refine dc rfl rfl λQ J=>?_;apply ai;simp[cR];obtain⟨b0,q⟩:=aH (H.length);obtain⟨j,b⟩:=aH (H++[.box (cR B d st u y o m) 0]:an);have a0:j[b0]?=E (cR B d st u y o m):=by rw[b,q];simp
 have F:∀i:Nat,i<H.length->j[i]?=H[i]?:=λi hi=>by rw[b,AI ap]
 have O:j.length=H.length+1:=by rw[b];simp
 unfold cR at b;rw[<-b,<-q];have h:=h.bS F;have L:=ry a0;have v:de .rem (vi x) (vi o)=aa (vi (x % o)):=gn M I;have s:de .quo (vi d.aO) (vi o)=aa (vi (d.aO / o)):=eI K I ap;have z:=h.ok.look h.mp (x % o);have A:bA j (qh X (x % o))=aa (ir o Y (x % o)).length:=by have:=(h.ok.lr (x % o)).len;simpa[ints]using this
 apply ai;simp[L.lm,L.lg,L.lbp,v,s,-aw,iB,z,A];exact av (J _ _ _ rfl (dx bv) ⟨rfl,F,by show H.length<=j.length;omega⟩)
theorem EC(f:Int->Bool):∀l:List Int,l.length=(l.filter f).length+(l.filter λx=>!f x).length
 |[]=>rfl
 |a::l=>by
  have:=EC f l;simp only[List.filter_cons];cases f a<;>simp<;>omega
def YY(m:l.Pairwise (· < ·))(j:∀x∈l,0<=x/\x<o)(y:(l.length:Int)=o)(v0:0<=d)(z:d<o):d∈l:=by
 refine Decidable.byContradiction λq=>?_;have s:=fq (l.filter λx=>decide (x<d)) 0 d (List.Pairwise.filter _ m) λx v=>by
  have b:=ahB.1 v;have:=j x b.1;have g:=of_decide_eq_true b.2;omega
 have b:=fq (l.filter λx=>!decide (x<d)) (d+1) (o-d-1) (List.Pairwise.filter _ m) λx v=>by
  have b:=ahB.1 v;have:=j x b.1;have g:¬ x<d:=by simpa using b.2
  have u:x≠d:=λe=>q (e▸b.1);omega
 have g:l.length=(l.filter λx=>decide (x<d)).length+(l.filter λx=>!decide (x<d)).length:=EC _ l;omega
def G'(B:0<d)(N:d ∣ o)(J:Y.Pairwise (· < ·))(L:∀y∈Y,0<=y/\y<o)(M:((ir d Y z).length:Int)=o / d){y:Int}(r:0<=y)(A:y<o)(Q:y % d=z):y∈Y:=by
 have g:∀a,a∈ir d Y z->a∈Y/\a % d=z:=λa j=>by have:=ahB.1 j;exact⟨this.1,by simpa using this.2⟩
 have F:((ir d Y z).map (· / d)).Pairwise (· < ·):=by
  rw[aiB];refine ajc (λ{a b} j q K=>?_) (List.Pairwise.filter _ J);have s:=ag2 a d;have u:=ag2 b d;have v:=(g a j).2;have S:=(g b q).2;have I:d*(a / d)<d*(b / d):=ii
  exact Int.lt_of_mul_lt_mul_left I ap
 have l:∀a,0<=a->a<o->0<=a / d/\a / d<o / d:=λa a0 a1=>⟨ahC a0 ap,by
  obtain⟨k,rfl⟩:=N;rw[ah6 _ ap];exact Int.ediv_lt_of_lt_mul B (by rw[ah4];exact a1)⟩
 have H:=YY F (λx O=>by
  obtain⟨a,j,rfl⟩:=agX.1 O;have:=L a (g a j).1;exact l a this.1 this.2) (by rw[agS];exact M) (l y r A).1 (l y r A).2
 obtain⟨a,j,e⟩:=agX.1 H;have s:=ag2 a d;have u:=ag2 y d;have v:=(g a j).2;have:a=y:=by rw[<-s,<-u,v,Q,e]
 exact this▸(g a j).1
def Uv(J:cO q=ae)(M:K[k]?=E (cR p q o u y z m)){c:C}(v:LR K c 1 (ints Y))(U:Y.length<=1000000)(n:Int)(O:0<=n)(n1:Day n) :
  ∃r H',Ev tab (.fn oM) [.c c,vi n,.c (.ptr k 0 0)] K r H'/\∃j,r=.c j/\LR H' j 1 (ints (if bE q n then Y else Y++[n]))/\K.length<=H'.length/\(∀(i:Nat) I,K[i]?=aa I->bz c≠aa i->H'[i]?=aa I)/\(bz j=bz c\/bz j=aa (K.length+1)):=by
 have B:=wc q J n O n1;simp only[aR.row,IT,agN]at B;have LJ:=ry M;refine dc rfl rfl λQ x=>?_;apply ai;simp;apply aU;simp[LJ.lb,-aw,B];cases g:bE q n with
 |true=>
  refine aq bv ?_;apply ai;simp;exact av (x _ _ (.c c) rfl (dx bv) ⟨c,rfl,by simpa[g]using v,agQ _,λi I N _=>N,.inl rfl⟩)
 |false=>
  obtain⟨H,F,b,l,A,s,d⟩:=rz v ap n;refine bG bv ?_;apply ai;simp[b];exact av (x _ _ (.c H) rfl (dx bv) ⟨H,rfl,by simpa[g]using l,by show K.length<=F.length;omega,s,d⟩)
structure WT(H:an)(qa qb:aR)(st g:Int)(cx cy:C)(m:Nat)(L:List Int)(J:an):Prop where
 kp:∀i:Nat,i<H.length->J[i]?=H[i]?
 b0:J[H.length]?=E (cR qa qb st cx cy g m)
 b1:J[H.length+1]?=E [.cl oM [.ptr H.length 0 0]]
 ls:∃c,J[H.length+2]?=E [c]/\LR J c 1 (ints L)/\∀i,bz c=aa i->H.length+6<i
 hl:H.length+6<J.length
def WT.bS{qb:aR}(hb:cO qb=ae){g:Int}(h:WT H p qb o g y u m Y K)(hl:Y.length<=1000000)(n:Int)(I:0<=n)(n1:Day n) :
  ∃c b H',aV K ab (.c (.ptr (H.length+2) 0 0))=aa (.c c)/\Ev tab (.fn oM) [.c c,vi n,.c (.ptr H.length 0 0)] K (.c b) H'/\dj H' (.ptr (H.length+2) 0 0) [b]=aa (H'.set (H.length+2) (.box [b] 0))/\
   WT H p qb o g y u m (if bE qb n then Y else Y++[n]) (H'.set (H.length+2) (.box [b] 0))/\(∀(i:Nat) s,i<=H.length+6->i≠H.length+2->K[i]?=aa s->(H'.set (H.length+2) (.box [b] 0))[i]?=aa s):=by
 obtain⟨c,h2,z,hc⟩:=h.ls;obtain⟨r,H',A,b,rfl,l,v,B,q⟩:=Uv hb h.b0 z hl n I n1;have J:=h.hl;have up:∀(i:Nat) s,i<=H.length+6->K[i]?=aa s->H'[i]?=aa s:=λi s hi hy=>B i s hy λe=>by have:=hc i e;omega
 have j:=up _ _ ap h2;have d:∀(i:Nat) s,i<=H.length+6->i≠H.length+2->K[i]?=aa s->(H'.set (H.length+2) (.box [b] 0))[i]?=aa s:=λi s hi F hy=>by
  rw[sh (Ne.symm F)];exact up i s hi hy
 refine⟨c,b,H',by simp[aV,az,h2],A,by simp[dj,j,over],⟨λi hi=>?_,d _ _ ap ap h.b0,d _ _ ap ap h.b1,⟨b,By (aj j),l.set (l.cm j) _,λi hi=>?_⟩,?_⟩,d⟩
 .rw[<-h.kp i hi];have hy:K[i]?=aa K[i]:=BY ap;rw[hy];exact d i _ ap ap hy
 .rcases q with e|e
  .rw[e]at hi;exact hc i hi
  .rw[e]at hi;cases hi;omega
 .rw[agZ];omega
structure WO(H:an)(qa qb:aR)(st g:Int)(cx cy:C)(m:Nat)(tm:T)(ls:dB)(pd:Option aD)(z:Int)(L:List Int)(J:an):Prop where
 wt:WT H qa qb st g cx cy m L J
 b3:J[H.length+3]?=E [.f (sl qa.hg (ints qa.head)),Z qa.fr,Z qa.aO,.f (sl qa.cg (ints qa.bH))]
 b4:J[H.length+4]?=E [Z z]
 df:J[H.length+5]?=aa (.dH ae)
 lp:J[H.length+6]?=aa (.lp nB tm [P.nat 15] nR nS ls pd (H.length+5))
theorem WT.set{H:an}{l qb:aR}{st g:Int}{d j:C}{m:Nat}{L:List Int}{J:an}(h:WT H l qb st g d j m L J){k:Nat}(h1:H.length+3<=k)(h2:k<=H.length+6)(y:bV):WT H l qb st g d j m L (J.set k y):=by
 obtain⟨a1,s,a3,⟨c,a4,a5,b⟩,q⟩:=h;refine⟨λi hi=>?_,?_,?_,⟨c,?_,a5.set (λe=>by have:=b _ e;omega) _,b⟩,by rw[agZ];exact q⟩
 .rw[sh ap];exact a1 i hi
 all_goals (rw[sh ap];assumption)
def WO.SB{qb:aR}{g:C}{ls':dB}{pd':Option aD}(h:WO H p qb o d g u m a e O z Y K) :
  WO H p qb o d g u m a ls' pd' z Y (K.set (H.length+6) (.lp nB a [P.nat 15] nR nS ls' pd' (H.length+5))):=by
 obtain⟨h1,h3,h4,h5,h6⟩:=h;refine⟨h1.set ap ap _,?_,?_,?_,By (aj h6)⟩
 all_goals (rw[sh ap];assumption)
def WO.low{qb:aR}{g:C}(h:WO H p qb o d u g m a e O z Y K)(s:Int):WO H p qb o d u g m a e O s Y (K.set (H.length+4) (.box [Z s] 0)):=by
 obtain⟨h1,h3,h4,h5,h6⟩:=h;refine⟨h1.set ap ap _,?_,By (aj h4),?_,?_⟩
 all_goals (rw[sh ap];assumption)
def sy(U:cO q=ae)(O:a.g 2=.c (.ptr H.length 0 0))(Q:a.g 5=.c (.ptr (H.length+1) 0 0))(S:a.g 6=.c (.ptr (H.length+2) 0 0))(h:WO H p q o d u y m a .ready ab z Y K)(n:Int)(L:0<=n)(n1:n<o->Day n)(W:n<o->Y.length<=1000000) :
  ∃r H',Ev tab (.yield (H.length+6)) [vi n] K r H'/\((n<o/\r=vb ae/\WO H p q o d u y m a .ready ab z (if bE q n then Y else Y++[n]) H')\/(o<=n/\r=vb ag/\WO H p q o d u y m a .done (aa (.exit 0)) z Y H')):=by
 refine dm (tab:=tab) (b:=H.length+6) (args:=[vi n]) (H:=K) h.lp rfl λl s=>?_;refine aF (.inr rfl) ?_;simp;refine eM h.lp ?_;have g:=h.SB (ls':=.busy) (pd':=ab);generalize K.set (H.length+6) (.lp nB a [P.nat 15] nR nS .busy ab (H.length+5))=M at g ⊢;have LJ:=ry g.wt.b0;apply ax;apply aE;refine aE (aF (.inr rfl) ?_);simp[O,LJ.nF,-aw];by_cases k:n<o
 .refine aC ge (aQ ?_);obtain⟨c,N,J,A,v,B,F,j⟩:=g.wt.bS U (W k) n L (n1 k);have X:aV M ab (.c (.ptr (H.length+1) 0 0))=aa (.c (.cl oM [.ptr H.length 0 0])):=by simp[aV,az,g.wt.b1]
  refine aF (.inr rfl) ?_;simp[Q,S,X,A,-aw,cr,v.eq,B,-bF];have I:WO H p q o d u y m a .busy ab z (if bE q n then Y else Y++[n]) (J.set (H.length+2) (.box [N] 0)):=⟨F,j _ _ ap ap g.b3,j _ _ ap ap g.b4,j _ _ ap ap g.df,j _ _ ap ap g.lp⟩
  exact au (cN (s _ _ _ _ _ _ _ _ _ _ rfl I.lp (.inl ⟨k,rfl,I.SB⟩)))
 .refine aq ge ?_;exact nw rfl (s _ _ _ _ _ _ _ _ _ _ rfl g.lp (.inr ⟨ap,rfl,g.SB⟩))
def Hh{args:List V}{S:V->an->Prop}{ps:List P}{b:List jZ}{body:aD}(z:tab N=aa ⟨ps,b,body⟩)(y:args.length=ps.length)
  (h:∀Q:Option aD->St->Prop,(∀j s r,(∃bs,s.defs=bs.map .dR/\eQ bs s.heap/\Km.results s.aT (ng bs s.heap) b=aa r/\S r (ng bs s.heap))->Q j s)->WP tab N ab [.code body] ⟨dw ps args .e,[],H⟩ Q):∃r H',Ev tab (.fn N) args H r H'/\S r H':=by
 have l:=h (λ_ s=>∃r,∃bs,s.defs=bs.map .dR/\eQ bs s.heap/\Km.results s.aT (ng bs s.heap) b=aa r/\S r (ng bs s.heap)) λ_ _ r g=>⟨r,g⟩
 obtain⟨n,m,d,j,s,g,r,bs,x,v,q,u⟩:=l;exact⟨r,ng bs s.heap,se z y ⟨n,m,d,j,s,g,0,0,_,by rw[x];exact nM v,q,rfl⟩,u⟩
def YW(b g:aR)(st P:Int)(j:List Int)(d:Int):Prop:=(0<=d/\d<st/\bE b d=ae/\bE g d=ag)\/(st<=d/\d<st+P/\(d-st) % b.aO∈j/\bE g d=ag)
def IP(ha:cO q=ae)(hb:cO p=ae){g:Int}{X:List (Int × C)}{U cy:C}(h:PH H N l Y g X U cy m)(hst:o=max q.fr p.fr)(s1:o<=100000)(hX:yg q o l)(hY:yg p o Y)
  (hg:g=(ahw q.aO p.aO:Int)) (hP:CC q.aO p.aO d) (P1:d<=27720) :
  ∃r H',Ev tab (.fn nB) [.a (cR q p o U cy g m),vi d] H r H'/\∃c L,r=.c c/\LR H' c 1 (ints L)/\(∀i:Nat,i<H.length->H'[i]?=H[i]?)/\L.length<=1000000/\∀P,P∈L↔0<=P/\P<o+d/\(bE q P&&!bE p P)=ae:=by
 obtain⟨q1,q2,q3,q4,q5,q6,q7,q8,q9⟩:=bM ha;obtain⟨w1,w2,w3,w4,w5,w6,w7,w8,w9⟩:=bM hb;have P0:=hP.pos;have pa1:q.aO<=27720:=ahx (ahq P0 hP.da) P1;have pb1:p.aO<=27720:=ahx (ahq P0 hP.db) P1;have g0:0<g:=by rw[hg];have:=ahX p.aO (show q.aO≠0 by omega);omega
 have r_:g ∣ q.aO:=by rw[hg];exact aiu ..
 have l_:g ∣ p.aO:=by rw[hg];exact aiA ..
 have t8:(l.length:Int)<=q.aO:=by
  have:=fq l 0 q.aO hX.2.1 λx hx=>by have:=hX.2.2.1 x hx;omega
  omega
 have y7:(Y.length:Int)<=p.aO:=by
  have:=fq Y 0 p.aO hY.2.1 λx hx=>by have:=hY.2.2.1 x hx;omega
  omega
 have y_:q.head.length<=100000:=by
  have:=fq q.head 0 q.fr q6 λx hx=>by have:=q7 x hx;omega
  omega
 have y8:q.bH.length<=27720:=by
  have:=fq q.bH 0 q.aO q8 λx hx=>by have:=q9 x hx;omega
  omega
 obtain⟨K,hK⟩:∃K,d=q.aO*K:=hP.da;have K0:0<=K:=by
  rcases Int.lt_or_le K 0 with k|k
  .have:=Int.mul_nonpos_of_nonneg_of_nonpos (show 0<=q.aO by omega) (show K<=0 by omega);omega
  .exact k
 have s_:(l.length:Int)*K<=d:=by rw[hK];exact aha t8 K0
 obtain⟨b0,a_⟩:=aH (H.length);refine Hh Yp rfl λQ hQ=>?_;apply ai;simp[cR];obtain⟨HA,d9⟩:=aH (H++[.box (cR q p o U cy g m) 0]:an);have a0:HA[b0]?=E (cR q p o U cy g m):=by rw[d9,a_];simp
 have al:HA.length=b0+1:=by rw[d9,a_];simp
 unfold cR at d9;rw[<-d9,<-a_];have s5:dj (HA++[.box [.f .xC] 0]) (.ptr HA.length 0 0) [.cl oM [.ptr b0 0 0]]=aa (HA++[.box [.cl oM [.ptr b0 0 0]] 0]):=by simp[dj,over]
 apply ai;simp[s5,-bF];apply ai;simp;obtain⟨HB,c9⟩:=aH (HA++[.box [.cl oM [.ptr b0 0 0]] 0,.box [.f .aN] 0]:an);have bl:HB.length=b0+3:=by rw[c9];simp[al]
 have c0:HB[b0]?=E (cR q p o U cy g m):=by rw[c9,AI ap];exact a0
 have c1:HB[b0+1]?=E [.cl oM [.ptr b0 0 0]]:=by rw[c9,agL ap];simp[al]
 have c2:HB[b0+2]?=E [.f .aN]:=by rw[c9,agL ap];simp[al]
 have ck:∀i:Nat,i<b0->HB[i]?=H[i]?:=λi hi=>by rw[c9,AI ap,d9,AI ap]
 rw[<-c9,al];have L1:=ry c0;obtain⟨r0,H0,hf,rfl,rfl⟩:=JB q 0 HB;simp only[aR.row,IT,agN]at hf;rw[bl]at hf;apply aU;simp[L1.la,-aw,hf.eq];apply ax;obtain⟨HC,d_⟩:=aH (HB++[.box [.f (sl q.hg (ints q.head)),Z q.fr,Z q.aO,.f (sl q.cg (ints q.bH))] 0,.box [Z 0] 0]:an);rw[<-d_];have cl:HC.length=b0+5:=by rw[d_];simp[bl]
 suffices go:∀tm:T,tm.g 1=vi d->tm.g 2=.c (.ptr b0 0 0)->tm.g 5=.c (.ptr (b0+1) 0 0)->tm.g 6=.c (.ptr (b0+2) 0 0)->tm.g 14=.c (.cl pT [.ptr (b0+3) 0 0,.ptr (b0+3+1) 0 0])->WP tab nB ab [.code KI,.inBlock 0,.code AF] ⟨tm,[],HC⟩ Q by exact go _ bv bv bv bv bv
 intro tm g1 W g5 g6 r9;obtain⟨HR,b_⟩:=aH (HC++[.dH ae,.lp nB tm [Km.P.nat 15] nR nS .ready ab HC.length]:an);have up:∀(i:Nat),i<b0+3->HR[i]?=HB[i]?:=λi hi=>by rw[b_,AI ap,d_,AI ap]
 have q0:WO H q p o g U cy m tm .ready ab 0 ([].filter λP=>!bE p P) HR:=by
  refine⟨⟨λi hi=>?_,?_,?_,⟨.f .aN,?_,LR.nil _ _,λ_ h=>by cases h⟩,?_⟩,?_,?_,?_,?_⟩<;>rw[<-a_]at *
  .rw[up i ap];exact ck i hi
  .rw[up _ ap];exact c0
  .rw[up _ ap];exact c1
  .rw[up _ ap];exact c2
  .rw[b_];simp[cl]
  .rw[b_,AI ap,d_,agL ap];simp[bl]
  .rw[b_,AI ap,d_,agL ap];simp[bl]
  .rw[b_,agL ap];simp[cl]
  .rw[b_,agL ap];simp[cl]
 rw[a_]at W g5 g6;obtain⟨r,H',he,rfl,ds,f_,x6,j5⟩:=JC (b:=H.length+6) (bp:=H.length+3) (bl:=H.length+4) q ha ap ap 0 o ap ap ap (PP:=λz ds J=>WO H q p o g U cy m tm .ready ab z (ds.filter λP=>!bE p P) J) (RR:=λds J=>∃z,WO H q p o g U cy m tm .done (aa (.exit 0)) z (ds.filter λP=>!bE p P) J)
  (λz ds J h=>⟨h.b3,h.b4⟩) (λz z' ds J h=>h.low z')
  (λz ds J n h w_ hn j8 hp hS=>by
   have p9:(ds.filter λP=>!bE p P).length<=1000000:=by
    have:=fq ds 0 o hp λx hx=>by have:=hS x hx;unfold SW at this;omega
    have:=ahV (λP=>!bE p P) ds;omega
   obtain⟨r,H',g_,hr⟩:=sy hb W g5 g6 h n w_ (λ_=>by unfold Day;omega) λ_=>p9;rcases hr with⟨_,rfl,hq⟩|⟨h2,_,_⟩
   .refine⟨H',g_,?_⟩;rw[List.filter_append];cases hk:bE p n<;>simpa[hk]using hq
   .omega)
  (λz ds J n h hn _=>by
   obtain⟨r,H',g_,hr⟩:=sy hb W g5 g6 h n ap (λh=>by omega) λh=>by omega
   rcases hr with⟨h2,_,_⟩|⟨_,rfl,hq⟩
   .omega
   .exact⟨H',g_,z,hq⟩)
  q0
 obtain⟨L0,j6⟩:=aH (ds.filter λP=>!bE p P);rw[<-j6]at f_;have x_:(L0.length:Int)<=o:=by
  have:=fq ds 0 o x6 λx hx=>by have:=(j5 x).1 hx;unfold SW at this;omega
  have:=ahV (λP=>!bE p P) ds;rw[j6];omega
 have m9:∀P,P∈L0↔YW q p o d [] P:=λP=>by
  rw[j6,ahB,j5];unfold SW YW;cases bE p P<;>simp<;>omega
 rw[<-a_]at he;have t_:Ev tab (.fn pT) [.c (.yl (HC.length+1)),.c (.ptr (b0+3) 0 0),.c (.ptr (b0+3+1) 0 0)] (HC++[.dH ae,.lp nB tm [Km.P.nat 15] nR nS .ready ab HC.length]) (.t []) H':=by
  rw[<-b_,cl];exact he
 refine dC (g:=pT) (by rw[mF,r9];simp[cr]) t_ ?_;rw[cl];have k_:∀(J:an) (ls:dB) (pd:Option aD) (z:Int),WO H q p o g U cy m tm ls pd z L0 J->WP tab nB ab [.code AF] ⟨tm,[.dR (b0+5)],J⟩ Q:=by
  intro J ls pd z hW;have LJ:=ry hW.wt.b0;have lX:bA J U=aa l.length:=by have:=(h.bS hW.wt.kp).lx.len;simpa[ints]using this
  apply aU;simp[W,LJ.lx,-aw,lX];refine bW l.length (λj t J=>t.g 1=vi d/\t.g 2=.c (.ptr H.length 0 0)/\t.g 5=.c (.ptr (H.length+1) 0 0)/\t.g 6=.c (.ptr (H.length+2) 0 0)/\t.g 25=.c U/\∃L,WT H q p o g U cy m L J/\J[H.length+5]?=aa (.dH ae)/\(L.length:Int)<=o+(j:Int)*K/\∀P,P∈L↔YW q p o d (l.take j) P) ap ce ce bv bv
   ⟨by simp[g1],by simp[W],by simp[g5],by simp[g6],bv,L0,hW.wt,hW.df,ap,λP=>by rw[m9];simp⟩ ?_ ?_
  .rintro j t J hj ⟨g1,W,g5,g6,M,L,A,O,s7,e_⟩ j7 n9 next
   have m_:=h.bS A.kp;obtain⟨xb,xep,xsl,x9,r7,-⟩:=wa m_.lx hj;have r6:=hX.2.2.1 _ (IN hj);have j9:l.take (j+1)=l.take j++[l[j]]:=by rw[agV,BY hj];rfl
   obtain⟨x,hx⟩:=aH (l[j]);rw[<-hx]at r6 r7 j9;have z8:((j+1:Nat):Int)*K<=d:=ahx (aha ap K0) s_;have z_:((j+1:Nat):Int)*K=(j:Int)*K+K:=by rw[ajb,aja];omega
   have hjK:0<=(j:Int)*K:=ahy ap K0;have LJ:=ry A.b0;obtain⟨r,HF,u9,rfl,o_,hlF⟩:=Ui q p o m_ g0 ap ap x r6.1 ap;have i6:∀(i:Nat) y,J[i]?=aa y->HF[i]?=aa y:=λi y hy=>by rw[o_ i (aj hy)];exact hy
   have n8:WT H q p o g U cy m L HF:=by
    obtain⟨a1,a2,a3,⟨c,a4,a5,a6⟩,a7⟩:=A;exact⟨λi hi=>by rw[o_ i ap];exact a1 i hi,i6 _ _ a2,i6 _ _ a3,⟨c,i6 _ _ a4,a5.bS λi y hy _=>i6 i y hy,a6⟩,ap⟩
   have n_:=i6 _ _ O;apply ax;apply ai;simp[j7,M,x9,r7,-aw];apply aU;simp[W,LJ.HP,-aw,u9.eq];by_cases h_:((ir g Y (x % g)).length:Int)=p.aO / g
   .refine aq (by simp[h_]) ?_;refine bQ rfl (next _ _ ?_ (by simp[j7]) (by simp[n9]));refine⟨by simp[g1],by simp[W],by simp[g5],by simp[g6],by simp[M],L,n8,n_,ap,λP=>?_⟩;rw[e_,j9];unfold YW;rw[agP,If];refine or_congr_right ⟨λ⟨F,S,B,v⟩=>⟨F,S,.inl B,v⟩,λ⟨F,S,B,v⟩=>⟨F,S,B.resolve_right λk5=>?_,v⟩⟩;have hy:=G' g0 l_ hY.2.1 hY.2.2.1 h_ (y:=(P-o) % p.aO) (ahj _ ap) (ahc _ ap) (by rw[ahW _ l_,<-k5,ahW _ r_]);have:=(hY.2.2.2 P F).2 hy;rw[this]at v;exact absurd v ce
   .refine bG (by simp[h_]) ?_;apply ai;simp;apply ax
    suffices j_:∀(I:T) (J':an),I.g 1=vi d->I.g 2=.c (.ptr H.length 0 0)->I.g 5=.c (.ptr (H.length+1) 0 0)->I.g 6=.c (.ptr (H.length+2) 0 0)->I.g 25=.c U->I.g 27=vi j->I.g 26=t.g 26->I.g 10=vi x->WT H q p o g U cy m L J'->J'[H.length+5]?=aa (.dH ae)->WP tab nB ab (.code KK::.inBlock 4::.inBlock 3::.code (oV 27 50)::.inLoop (gQ 2 27 26 28 50 KJ)::.inBlock 2::[.code KL]) ⟨I,[.dR (b0+5)],J'⟩ Q by
     exact j_ _ _ (by simp[g1]) (by simp[W]) (by simp[g5]) (by simp[g6]) (by simp[M]) (by simp[j7]) bv bv n8 n_
    intro I J' g1 W g5 g6 M i8 i7 c_ A O;refine di (λn s=>∃(i:Nat) (I:T) (J':an) (L':List Int),s=⟨I,[.dR (b0+5)],J'⟩/\n=(d-(x+i*q.aO)).toNat/\x+i*q.aO<d+q.aO/\I.g 1=vi d/\I.g 2=.c (.ptr H.length 0 0)/\I.g 5=.c (.ptr (H.length+1) 0 0)/\I.g 6=.c (.ptr (H.length+2) 0 0)/\I.g 25=.c U/\I.g 27=vi j/\I.g 26=t.g 26/\I.g 10=vi (x+i*q.aO)/\WT H q p o g U cy m L' J'/\J'[H.length+5]?=aa (.dH ae)/\(L'.length:Int)<=o+(j:Int)*K+i/\∀P,P∈L'↔YW q p o d (l.take j) P\/(o<=P/\P<o+(x+i*q.aO)/\(P-o) % q.aO=x/\bE p P=ag)) (d-x).toNat
     ⟨0,I,J',L,rfl,bv,ge,g1,W,g5,g6,M,i8,i7,by simpa using c_,A,O,ap,λP=>by
      rw[e_];refine⟨.inl,λh=>h.resolve_right ?_⟩;rintro⟨F,S,B,-⟩;rw[ahG ap ap]at B;simp at S;omega⟩ ?_
    rintro n s ⟨i,I,J',L',rfl,rfl,z7,g1,W,g5,g6,M,i8,i7,c_,A,O,y6,i_⟩ ih;have i0:0<=(i:Int)*q.aO:=ahy ap ap;have iK:(i:Int)<=K:=by
     refine Decidable.byContradiction λhc=>?_;have:(K+1)*q.aO<=(i:Int)*q.aO:=aha ap ap;rw[aja,ah4 K,<-hK]at this;omega
    have LJ:=ry A.b0;apply aU;simp[g1,c_];by_cases j8:x+i*q.aO<d
    .refine aq (by simp[j8]) (aQ ?_);have Ak:(i:Int)<K:=by
      refine Decidable.byContradiction λhc=>?_;have:K*q.aO<=(i:Int)*q.aO:=aha ap ap;rw[ah4 K,<-hK]at this;omega
     obtain⟨c,c',H3,v_,g_,p_,q_,x8⟩:=A.bS hb ap (o+(x+i*q.aO)) ap nl;have l1:aV J' ab (.c (.ptr (H.length+1) 0 0))=aa (.c (.cl oM [.ptr H.length 0 0])):=by simp[aV,az,A.b1]
     have lb:=ry q_.b0;apply aE;apply ax;apply ba;simp[W,g5,g6,c_,l1,v_,LJ.nF,-aw,a8 (n:=o+(x+i*q.aO)),cr,g_.eq,p_,-bF];apply au;apply ba;simp[W,c_,lb.lap,-aw,a8 (n:=x+i*q.aO+q.aO)];have e1:x+((i+1:Nat):Int)*q.aO=x+i*q.aO+q.aO:=by rw[ajb,aja];omega
     refine ih (d-(x+i*q.aO+q.aO)).toNat _ ap ⟨i+1,_,_,_,rfl,by rw[e1],ap,by simp[g1],by simp[W],by simp[g5],by simp[g6],by simp[M],by simp[i8],by simp[i7],by rw[e1];simp,q_,x8 _ _ ap ap O,?_,λP=>?_⟩
     .split
      .omega
      .simp;omega
     .rw[e1];have i9:(x+i*q.aO) % q.aO=x:=by rw[Int.add_mul_emod_self_right,ahG ap ap]
      have key:∀P,o<=P->¬ P<o+(x+i*q.aO)->P<o+(x+i*q.aO+q.aO)->(P-o) % q.aO=x->P=o+(x+i*q.aO):=λP F S B v=>by
       have e:=ag2 (P-o-(x+i*q.aO)) q.aO;have h1:(P-o-(x+i*q.aO)) % q.aO=0:=by rw[ajf,v,i9];simp
       have h2:(P-o-(x+i*q.aO)) / q.aO=0:=Int.ediv_eq_zero_of_lt ap ap;rw[h1,h2]at e;omega
      have u_:P∈(if bE p (o+(x+i*q.aO))then L' else L'++[o+(x+i*q.aO)])↔P∈L'\/(P=o+(x+i*q.aO)/\bE p P=ag):=by
       cases hk:bE p (o+(x+i*q.aO))with
       |true=>
        refine⟨.inl,λh=>h.resolve_right ?_⟩;rintro⟨rfl,k⟩;rw[hk]at k;exact absurd k ce
       |false=>
        simp only[Bool.false_eq_true,if_false,agP,If];refine or_congr_right ⟨λe=>⟨e,by rw[e];exact hk⟩,λe=>e.1⟩
      rw[u_,i_,or_assoc];refine or_congr_right ⟨?_,?_⟩
      .rintro(⟨F,S,B,v⟩|⟨rfl,v⟩)
       .exact⟨F,ap,B,v⟩
       .exact⟨ap,ap,by rw[show o+(x+i*q.aO)-o=x+i*q.aO by omega];exact i9,v⟩
      .rintro⟨F,S,B,v⟩;by_cases k5:P<o+(x+i*q.aO)
       .exact .inl ⟨F,k5,B,v⟩
       .exact .inr ⟨key P F k5 S B,v⟩
    .refine aC (by simp[j8]) ?_;refine bQ rfl ?_;refine au (next _ _ ?_ (by simp[i8]) (by simp[i7,n9]));refine⟨by simp[g1],by simp[W],by simp[g5],by simp[g6],by simp[M],L',A,O,ap,λP=>?_⟩;rw[i_,j9];unfold YW;rw[agP,If,or_assoc];refine or_congr_right ⟨?_,?_⟩
     .rintro(⟨F,S,B,v⟩|⟨F,S,B,v⟩)
      .exact⟨F,S,.inl B,v⟩
      .refine⟨F,?_,.inr B,v⟩;refine Decidable.byContradiction λhc=>?_;have i9:(x+i*q.aO) % q.aO=x:=by rw[Int.add_mul_emod_self_right,ahG ap ap]
       have e:=ag2 (x+i*q.aO-(P-o)) q.aO;have h1:(x+i*q.aO-(P-o)) % q.aO=0:=by rw[ajf,B,i9];simp
       have h2:(x+i*q.aO-(P-o)) / q.aO=0:=Int.ediv_eq_zero_of_lt ap ap;rw[h1,h2]at e;omega
     .rintro⟨F,S,B|B,v⟩
      .exact .inl ⟨F,S,B,v⟩
      .exact .inr ⟨F,ap,B,v⟩
  .rintro t J ⟨g1,W,g5,g6,M,L,A,O,s7,e_⟩ - -;obtain⟨c,h2,hL,hc⟩:=A.ls;have l2:aV J ab (.c (.ptr (H.length+2) 0 0))=aa (.c c):=by simp[aV,az,h2]
   rw[agW]at e_;apply ai;simp[g6,l2,-aw];rw[<-a_]at hc O;refine av (hQ _ _ (.c c) ⟨[b0+5],rfl,⟨bv,λb hb=>by rw[If.1 hb];exact O⟩,dx bv,c,L,rfl,?_,λi hi=>?_,ap,λP=>?_⟩)
   .exact hL.set (λe=>by have:=hc _ e;omega) _
   .show(J.set (b0+5) _)[i]?=_;rw[sh ap];exact A.kp i hi
   .rw[e_];unfold YW;simp only[IS,aii];constructor
    .rintro(⟨F,S,B,v⟩|⟨F,S,B,v⟩)
     .exact⟨F,ap,B,v⟩
     .exact⟨ap,S,(hX.2.2.2 P F).2 B,v⟩
    .rintro⟨F,S,B,v⟩;by_cases k5:P<o
     .exact .inl ⟨F,k5,B,v⟩
     .exact .inr ⟨ap,S,(hX.2.2.2 P ap).1 B,v⟩
 subst a_;rcases f_ with⟨z,hW⟩|⟨z,hW⟩
 .exact dX hW.lp ce (au (k_ _ _ _ z hW.SB))
 .exact oW hW.lp ce (bQ rfl (k_ _ _ _ z hW.SB))
variable{Nb Mb:Int}
def zO{P:Int}(u:1<=p.aO)(v:1<=q.aO)(d:o=max p.fr q.fr)(X:yg p o l)(m:yg q o Y){k:Int}(s:0<=k):(bE p (o+k)=ae↔k % p.aO∈l)/\(bE q (o+k)=ae↔k % q.aO∈Y):=by
 have g:=X.2.2.2 (o+k) ap;have j:=m.2.2.2 (o+k) ap;rw[show o+k-o=k by omega]at g j;exact⟨g,j⟩
def tc(a b:aR)(sa:jT Nb a)(sb:jT Mb b)(R0:0<o)(R1:o ∣ 27720)(Ra:a.aO ∣ o)(Rb:b.aO ∣ o)(j:Int)(f:Bool->Bool->Bool)(hk:(j=0/\f=λx y=>x&&y)\/(j=1/\f=λx y=>x||y)\/(j=2/\f=λx y=>x&&!y)) :
  ∃q,cO q=ae/\q.fr<=max a.fr b.fr/\q.aO ∣ o/\(∀d,0<=d->bE q d=f (bE a d) (bE b d))/\bf tab vK [.a (a.row.map .f),.a (b.row.map .f),vi j]=Eq (.t [.a (q.row.map .f),vi 0]):=by
 have va:=wm a (jL sa.ok);have h_:=wm b (jL sb.ok);rw[sa.ok]at va;rw[sb.ok]at h_;simp only[aR.row,IT,agN]at va h_;have R2:o<=27720:=ahq ce R1;have ags:=sa.le;have agt:=sb.le;have hfa:=sa.fr;have hfb:=sb.fr;have hha:=sa.head;have hhb:=sb.head;have hca:=sa.bH;have hcb:=sb.bH;obtain⟨r,⟨q,c1,c2,c3,c4,rfl⟩,h⟩:∃r,(∃q,cO q=ae/\q.fr<=max a.fr b.fr/\q.aO ∣ o/\(∀d,0<=d->bE q d=f (bE a d) (bE b d))/\r=.t [.a (q.row.map .f),vi 0])/\bf tab vK [.a (a.row.map .f),.a (b.row.map .f),vi j] r:=by
  refine dE rfl rfl λQ hQ=>?_;apply ai;simp[aR.row];obtain⟨HA,b_⟩:=aH ([.box [.f (sl a.hg (ints a.head)),Z a.fr,Z a.aO,.f (sl a.cg (ints a.bH))] 0,.box [.f (sl b.hg (ints b.head)),Z b.fr,Z b.aO,.f (sl b.cg (ints b.bH))] 0,.box [.f .aN,Z 0,Z 0,.f .aN] 0]:an);rw[<-b_];have al:HA.length=3:=by rw[b_];rfl
  have l0:aV HA (aa 4) (.c (.ptr 0 0 0))=aa (.a [.f (sl a.hg (ints a.head)),Z a.fr,Z a.aO,.f (sl a.cg (ints a.bH))]):=by rw[b_];simp[aV,az,aX]
  have l1:aV HA (aa 4) (.c (.ptr 1 0 0))=aa (.a [.f (sl b.hg (ints b.head)),Z b.fr,Z b.aO,.f (sl b.cg (ints b.bH))]):=by rw[b_];simp[aV,az,aX]
  have a2:HA[2]?=E [.f .aN,Z 0,Z 0,.f .aN]:=by rw[b_];rfl
  apply aU;simp[l0,l1,-aw,va,h_];refine bG bv ?_;obtain⟨r,HN,g_,z,s,st,X,Y,cx,cy,l,m,N,sA,sB,xa,xb,ya,yb,rfl,d9,hX,hY,n8,hkN⟩:=Ij a b sa.ok sb.ok ap ap ap ap ap ap HA;simp only[aR.row,IT,agN]at g_;obtain⟨q1,q2,q3,q4,q5,q6,q7,q8,q9⟩:=bM sA.ok;obtain⟨w1,w2,w3,w4,w5,w6,w7,w8,w9⟩:=bM sB.ok;obtain⟨g,hg⟩:=aH ((ahw z.aO s.aO:Int):Int);rw[<-hg]at g_ n8;have s7:z.aO ∣ o:=ahr sA.aO Ra;have s_:s.aO ∣ o:=ahr sB.aO Rb;obtain⟨P,hP⟩:=aH (z.aO / (ahw z.aO s.aO:Int)*s.aO);have W:CC z.aO s.aO P:=hP▸HT q3 w3;have n_:P ∣ o:=W.dvd o s7 s_;have S:P<=27720:=ahx (ahq R0 n_) R2;have hp0:=W.pos;have agF:z.aO<=27720:=ahx (ahq R0 s7) R2;have agG:s.aO<=27720:=ahx (ahq R0 s_) R2;have frA:=sA.fr;have frB:=sB.fr;have g0:0<g:=by rw[hg];have:=ahX s.aO (show z.aO≠0 by omega);omega
  have hmm:∀d,0<=d->f (bE z d) (bE s d)=f (bE a d) (bE b d):=λd hd=>by rw[sA.mem d hd,sB.mem d hd]
  have i6:=Dm q3 (by omega:z.aO<=1000000) w3 (by omega:s.aO<=1000000);rw[<-hP]at i6;have o_:(X.length:Int)<=z.aO:=by
   have:=fq X 0 z.aO hX.2.1 λx U=>by have:=hX.2.2.1 x U;omega
   omega
  have z8:(Y.length:Int)<=s.aO:=by
   have:=fq Y 0 s.aO hY.2.1 λx U=>by have:=hY.2.2.1 x U;omega
   omega
  have y7:g ∣ z.aO:=by rw[hg];exact aiu ..
  have j9:g ∣ s.aO:=by rw[hg];exact aiA ..
  obtain⟨D,hD⟩:=aH (s.aO / g);have D0:0<=D:=by rw[hD];exact ahC ap ap
  have D1:D<=30000:=by have:=Int.ediv_le_self g (show 0<=s.aO by omega);omega
  have j_:∀r,((ir g Y r).length:Int)<=D:=λr=>by rw[hD];exact Qw g0 j9 hY.2.1 (λy A=>hY.2.2.1 y A) ap
  have eP:z.aO*D=P:=by
   rw[hD,hP,<-hg];obtain⟨u,hu⟩:=y7;obtain⟨v,hv⟩:=j9;rw[hv,hu,ah6 _ ap,ah6 _ ap,Int.mul_assoc,Int.mul_left_comm]
  have hXD:(X.length:Int)*D<=P:=by rw[<-eP];exact aha o_ D0
  obtain⟨bp,i_⟩:=aH (HN.length);obtain⟨O,a_⟩:=aH (HN++[bV.box (cR z s st cx cy g m) 0]);have l4:O.length=bp+1:=by rw[a_];simp[i_]
  have p4:O[bp]?=E (cR z s st cx cy g m):=by rw[a_,i_];simp
  have c9:PH O N X Y g l cx cy m:=n8.bS λi hi=>by rw[a_,AI hi]
  have z2:HN[2]?=E [.f .aN,Z 0,Z 0,.f .aN]:=by rw[hkN 2 ap];exact a2
  have z4:O[2]?=E [.f .aN,Z 0,Z 0,.f .aN]:=by rw[a_,AI (aj z2)];exact z2
  have agu:2<bp:=by have:=aj z2;omega
  apply ai;simp[l0,l1,-aw,g_.eq,BP];rw[<-a_,<-i_]
  suffices K:∀t:T,t.g 2=vi j->t.g 6=.c (.ptr 2 0 0)->t.g 8=.c (.ptr bp 0 0)->WP tab vK ab [.code KG] ⟨t,[],O⟩ Q by exact K _ bv bv bv
  clear g_ l0 l1 va h_;intro t g2 g6 B;have L4:=ry p4;apply ai;simp[B,L4.lap,L4.lbp,-aw,i6];apply aU;simp;refine bG bv ?_;obtain⟨r,H5,q_,ch,R,rfl,k_,r7,r6,hl5,agB,hlh,hmh⟩:=Rj z s sA.ok sB.ok ap ap st d9 cx cy g m O;have k5:∀(i:Nat) y,O[i]?=aa y->H5[i]?=aa y:=λi y A=>by rw[r6 i (aj A)];exact A
  have p5:=k5 _ _ p4;have c_:=c9.bS r6;have L5:=ry p5;obtain⟨r,H6,e,n,rfl,n0,n1,j5,hl6⟩:=Mg z s st c_ g0 (λx U=>by have:=hX.2.2.1 x U;omega) ap D0 D1 j_;have k6:∀(i:Nat) y,H5[i]?=aa y->H6[i]?=aa y:=λi y A=>by rw[j5 i (aj A)];exact A
  have p6:=k6 _ _ p5;have L6:=ry p6;have agx:R.length<=200000:=ii
  have lh:bA H5 ch=aa R.length:=by have:=k_.len;simpa[ints]using this
  apply ai;simp[B,L4.HP,-aw,q_.eq];apply ai;simp[B,lh,L5.HP,-aw,e.eq,a8 (n:=(R.length:Int)+n)];obtain⟨ka,ka0,ka1,i8⟩:=BS z sA.ok ap ap st ap ap;obtain⟨kb,kb0,kb1,i9⟩:=BS s sB.ok ap ap st ap ap;simp only[aR.row,IT,agN]at i8 i9;have lX:bA H6 cx=aa X.length:=by have:=(c_.bS j5).lx.len;simpa[ints]using this
  have lY:bA H6 cy=aa Y.length:=by have:=(c_.bS j5).ly.len;simpa[ints]using this
  have d1:de .quo (vi P) (vi z.aO)=aa (vi (P / z.aO)):=eI ap ap ap;have d2:de .quo (vi P) (vi s.aO)=aa (vi (P / s.aO)):=eI ap ap ap;have m1:0<=(X.length:Int)*(P / z.aO)/\(X.length:Int)*(P / z.aO)<=27720:=⟨ahy ap (ahC ap ap),ahx (aha o_ (ahC ap ap)) (by rw[Int.mul_ediv_cancel' W.da];exact S)⟩
  have m2:0<=(Y.length:Int)*(P / s.aO)/\(Y.length:Int)*(P / s.aO)<=27720:=⟨ahy ap (ahC ap ap),ahx (aha z8 (ahC ap ap)) (by rw[Int.mul_ediv_cancel' W.db];exact S)⟩
  obtain⟨u1,j7⟩:=aH ((X.length:Int)*(P / z.aO));obtain⟨u2,j8⟩:=aH ((Y.length:Int)*(P / s.aO));rw[<-j7]at m1;rw[<-j8]at m2;apply ai;simp[B,L6.la,L6.nF,L6.lx,L6.lap,-aw,i8,lX,d1,<-j7,a8 (n:=u1),a8 (n:=ka+u1)];apply ai;simp[B,L6.lb,L6.nF,L6.ly,L6.lbp,-aw,i9,lY,d2,<-j8,a8 (n:=u2),a8 (n:=kb+u2)];obtain⟨v0,t8⟩:=aH ((R.length:Int)+n);obtain⟨v1,t_⟩:=aH (ka+u1);obtain⟨v2,u9⟩:=aH (kb+u2);rw[<-t8,<-t_,<-u9];have b0:0<=v0/\v0<=230000:=ii
  have b1:0<=v1/\v1<=400000:=ii
  have b2:0<=v2/\v2<=400000:=ii
  suffices K:∀t:T,t.g 2=vi j->t.g 6=.c (.ptr 2 0 0)->t.g 8=.c (.ptr bp 0 0)->t.g 9=vi P->t.g 11=.c ch->t.g 12=vi v0->t.g 13=vi v1->t.g 14=vi v2->WP tab vK ab [.code KH] ⟨t,[],H6⟩ Q by exact K _ (by simp[g2]) (by simp[g6]) (by simp[B]) bv bv bv bv bv
  clear i8 i9 d1 d2 m1 m2 j7 j8 t8 t_ u9 lX lY q_ e;clear g2 g6 B t;intro t g2 g6 B g9 x6 x8 x9 x_;apply aU;simp[x8,x9,x_,a8 (n:=v1+v2),a8 (n:=v1+v2-v0),a8 (n:=v1-v0)];obtain⟨H7,d_⟩:=aH (H6++[bV.box [Z v0,Z (v1+v2-v0),Z (v1-v0)] 0]);obtain⟨bc,p9⟩:=aH (H6.length);rw[<-d_,<-p9];have c7:H7[bc]?=E [Z v0,Z (v1+v2-v0),Z (v1-v0)]:=by rw[d_,p9];simp
  have k7:∀(i:Nat) y,H6[i]?=aa y->H7[i]?=aa y:=λi y A=>by rw[d_,AI (aj A)];exact A
  have f_:∀i:Nat,i<O.length->H7[i]?=O[i]?:=λi hi=>by
   have A:O[i]?=aa O[i]:=BY hi;rw[A];exact k7 i _ (k6 i _ (k5 i _ A))
  have l7:O.length<=H7.length:=by rw[d_,agM];omega
  have w_:∃w:Int,bO H7 1 (aa 3) (.c (.ptr bc 0 0)) (vi j)=aa (.c (.ptr bc j.toNat 0))/\aV H7 ab (.c (.ptr bc j.toNat 0))=aa (vi w)/\w<=1048576:=by
   rcases hk with⟨rfl,-⟩|⟨rfl,-⟩|⟨rfl,-⟩
   .exact⟨v0,by simp[bO,c7,fE],by simp[aV,az,c7,aX],ap⟩
   .exact⟨v1+v2-v0,by simp[bO,c7,fE],by simp[aV,az,c7,aX],ap⟩
   .exact⟨v1-v0,by simp[bO,c7,fE],by simp[aV,az,c7,aX],ap⟩
  obtain⟨w,ci,cl,cw⟩:=w_;apply ai;simp[g2,ci,cl,-aw,show¬ 1048576<w by omega];refine bG bv ?_;apply ai;simp;apply aU;simp;apply ax;have p7:=k7 _ _ p6;have L7:=ry p7;have rest:∀(t:T) (J:an) (c:C) (L:List Int),t.g 6=.c (.ptr 2 0 0)->t.g 8=.c (.ptr bp 0 0)->t.g 9=vi P->t.g 16=.c c->LR J c 1 (ints L)->L.length<=1000000->(∀d,d∈L↔0<=d/\d<st+P/\f (bE z d) (bE s d)=ae)->(∀i:Nat,i<O.length->J[i]?=O[i]?)->WP tab vK ab [.code AE] ⟨t,[],J⟩ Q:=by
   intro t J c L g6 B g9 y6 hL y8 y_ hJ;exact Dg f sA.ok sB.ok d9 W ap S n_ ap hmm hL y8 y_ (by rw[hJ 2 ap];exact z4) (by rw[hJ bp ap];exact p4) ap g6 B g9 y6 hQ
  rcases hk with⟨rfl,rfl⟩|⟨rfl,rfl⟩|⟨rfl,rfl⟩
  .
   obtain⟨r,H8,hme,c,M,rfl,I,-,j6,hl8,l_,m9,m_⟩:=RL (L0:=R) (ch:=ch) (H:=H7) z s st c9 f_ l7 (k_.bS λi y A _=>k7 i y (k6 i y A)) r7 hg q3 w3 hP ap (λx U=>hX.2.2.1 x U) (λy A=>hY.2.2.1 y A) ap D0 D1 j_ ap ap ap ap;apply ai;simp[g2];refine aq bv (aF (.inl rfl) ?_);simp[B,x6,L7.HP,-aw,hme.eq];refine au (rest _ H8 c (R++M) (by simp[g6]) (by simp[B]) (by simp[g9]) bv I (by rw[agM];omega) (λd=>?_) j6);rw[agP,hmh];simp only[IS];constructor
   .rintro(⟨h0,h1,p,h3⟩|h)
    .exact⟨h0,ap,p,h3⟩
    .obtain⟨k,rfl,k0,k1,ka,kb⟩:=m9 d h;obtain⟨s1,s2⟩:=zO (P:=P) q3 w3 d9 hX hY k0;exact⟨ap,ap,s1.2 ka,s2.2 kb⟩
   .rintro⟨h0,h1,p,h3⟩;by_cases hd:d<st
    .exact .inl ⟨h0,hd,p,h3⟩
    .obtain⟨s1,s2⟩:=zO (P:=P) q3 w3 d9 hX hY (k:=d-st) ap;rw[show st+(d-st)=d by omega]at s1 s2;have:=m_ (d-st) ap ap (s1.1 p) (s2.1 h3);rw[show st+(d-st)=d by omega]at this;exact .inr this
  .
   obtain⟨L1,g1,u_,hp1,r9⟩:=Cf z sA.ok ap ap 0 (st+P) ap ap ap;obtain⟨L2,i7,v_,hp2,r_⟩:=Cf s sB.ok ap ap 0 (st+P) ap ap ap;simp only[aR.row,IT,agN]at u_ v_;have hl1:L1.length<=130000:=by
    have:=fq L1 0 (st+P) hp1 λx U=>by have:=(r9 x).1 U;unfold SW at this;omega
    omega
   have hl2:L2.length<=130000:=by
    have:=fq L2 0 (st+P) hp2 λx U=>by have:=(r_ x).1 U;unfold SW at this;omega
    omega
   apply ai;simp[g2];refine aC bv ?_;apply ai;simp;refine aq bv (aF (.inl rfl) ?_);obtain⟨H8,e_⟩:=aH (H7++[bV.box [.f (sl g1 (ints L1)),.f (sl i7 (ints L2))] 0]);have c8:H8[H7.length]?=E [.f (sl g1 (ints L1)),.f (sl i7 (ints L2))]:=by rw[e_];simp
   have p_:(ints L1++ints L2)=ints (L1++L2):=ol
   obtain⟨r,H9,e,c,rfl,I,z_,-,-⟩:=vW (tab:=tab) (H:=H8) (F:=GM) (G9:=PF) (sz:=1) (bytes:=8) (zs:=[fi 0]) YC YM ce rfl (b:=H7.length) [(.f (sl g1 (ints L1)),ints L1),(.f (sl i7 (ints L2)),ints L2)] c8 bv
    (λx U=>by
     simp only[ag8,aid,or_false]at U;rcases U with rfl|rfl
     .exact⟨Km.Ord.cW _,λH' _=>⟨bv,lz (Km.Ord.cW _)⟩⟩
     .exact⟨Km.Ord.cW _,λH' _=>⟨bv,lz (Km.Ord.cW _)⟩⟩)
    ip (iL ip ce)
   have I:LR H9 c 1 (ints (L1++L2)):=by
    rw[<-p_];simpa using I
   have e:Ev tab (.fn GM) [.c (.sl H7.length 0 2 2 0 1)] H8 (.c c) H9:=e;simp[B,g9,L7.la,L7.lb,L7.nF,-aw,a8 (n:=st+P),u_,v_,<-e_,e.eq];refine au (rest _ H9 c (L1++L2) (by simp[g6]) (by simp[B]) (by simp[g9]) bv I (by rw[agM];omega) (λd=>?_) λi hi=>?_)
   .rw[agP,r9,r_];unfold SW;simp only[Bool.or_eq_true];constructor
    .rintro(⟨h0,h1,p⟩|⟨h0,h1,p⟩)
     .exact⟨h0,h1,.inl p⟩
     .exact⟨h0,h1,.inr p⟩
    .rintro⟨h0,h1,p|p⟩
     .exact .inl ⟨h0,h1,p⟩
     .exact .inr ⟨h0,h1,p⟩
   .rw[z_ i (by rw[e_,agM];omega),e_,AI ap];exact f_ i hi
  .
   have n9:=c9.bS f_;obtain⟨r,H8,hwe,c,M,rfl,I,j6,l_,z7⟩:=IP sA.ok sB.ok n9 d9 ap hX hY hg W S;apply ai;simp[g2];refine aC bv ?_;apply ai;simp;refine aC bv ?_;apply ai;simp;refine aq bv (aF (.inl rfl) ?_);simp[B,g9,L7.HP,-aw,hwe.eq];refine au (rest _ H8 c M (by simp[g6]) (by simp[B]) (by simp[g9]) bv I l_ z7 λi hi=>?_);rw[j6 i ap];exact f_ i hi
 exact⟨q,c1,c2,c3,c4,h.eq⟩
def Xr(a b:aR)(F:jT Nb a)(H:jT Mb b)(j:0<o)(l:o ∣ 27720)(m:a.aO ∣ o)(s:b.aO ∣ o) :
  ∃q,cO q=ae/\q.fr<=max a.fr b.fr/\q.aO ∣ o/\(∀d,0<=d->bE q d=(bE a d&&bE b d))/\bf tab ack [.a (a.row.map .f),.a (b.row.map .f)]=Eq (.t [.a (q.row.map .f),vi 0]):=by
 obtain⟨q,u,v,z,A,g⟩:=tc a b F H j l m s 0 (λx y=>x&&y) (.inl ⟨rfl,rfl⟩);refine⟨q,u,v,z,A,bf.eq (bD rfl rfl λQ B=>?_)⟩;simp only[aR.row,IT,agN]at g ⊢;apply ai;simp;apply ai;simp[g];refine av (B _ _ ?_);simp[aR.row]
def Vy(a b:aR)(F:jT Nb a)(H:jT Mb b){R:Int}(j:0<R)(l:R ∣ 27720)(m:a.aO ∣ R)(s:b.aO ∣ R) :
  ∃q,cO q=ae/\q.fr<=max a.fr b.fr/\q.aO ∣ R/\(∀d,0<=d->bE q d=(bE a d||bE b d))/\bf tab Xz [.a (a.row.map .f),.a (b.row.map .f)]=Eq (.t [.a (q.row.map .f),vi 0]):=by
 obtain⟨q,u,v,z,A,g⟩:=tc a b F H j l m s 1 (λx y=>x||y) (.inr (.inl ⟨rfl,rfl⟩));refine⟨q,u,v,z,A,bf.eq (bD rfl rfl λQ B=>?_)⟩;simp only[aR.row,IT,agN]at g ⊢;apply ai;simp;apply ai;simp[g];refine av (B _ _ ?_);simp[aR.row]
def Qa(a b:aR)(F:jT Nb a)(H:jT Mb b){R:Int}(j:0<R)(l:R ∣ 27720)(m:a.aO ∣ R)(s:b.aO ∣ R) :
  ∃q,cO q=ae/\q.fr<=max a.fr b.fr/\q.aO ∣ R/\(∀d,0<=d->bE q d=(bE a d&&!bE b d))/\bf tab Xy [.a (a.row.map .f),.a (b.row.map .f)]=Eq (.t [.a (q.row.map .f),vi 0]):=by
 obtain⟨q,u,v,z,A,g⟩:=tc a b F H j l m s 2 (λx y=>x&&!y) (.inr (.inr ⟨rfl,rfl⟩));refine⟨q,u,v,z,A,bf.eq (bD rfl rfl λQ B=>?_)⟩;simp only[aR.row,IT,agN]at g ⊢;apply ai;simp;apply ai;simp[g];refine av (B _ _ ?_);simp[aR.row]
def dg(p:aR):List C:=[.f (sl p.hg (ints p.head)),Z p.fr,Z p.aO,.f (sl p.cg (ints p.bH))]
def dO(p:aR):dg p=p.row.map .f:=rfl
def nv(n:Nat)(J:an)(p:aR):bC (fv n J) (dg p)=aa p.row:=by rw[dO,kr]
def ny(n:Nat)(J:an)(p:aR):List.foldl (λH x=>ez n x H) J (dg p)=J:=by
 rw[dO,jF];simp
def dT(ps:List aR):List (List C):=ps.map dg
def gw(ps:List aR):(dT ps).length=ps.length:=by simp[dT]
def fW(ps:List aR):wI 4 (dT ps):=λr b=>by
 obtain⟨p,-,rfl⟩:=agX.1 b;rfl
def tJ(ps:List aR):(dT ps).flatten=(aM ps).flatten.map .f:=by
 induction ps with
 |nil=>rfl
 |cons p ps g=>
  have b:dT (p::ps)=dg p::dT ps:=rfl;have d:aM (p::ps)=p.row::aM ps:=rfl;rw[b,d,ag6,ag6,ahQ,g,dO]
def wu(a b:List aR):dT (a++b)=dT a++dT b:=by simp[dT]
def Nz(ps:List aR)(j:Nat):(dT ps).eraseIdx j=dT (ps.eraseIdx j):=by
 rw[ah8,ah8,wu];simp[dT,aiV,ait]
def zp:aR:=⟨.nil,[],0,0,.nil,[]⟩
def BX(J:an)(b cap:Nat)(ps:List aR):Prop:=∃rest,J[b]?=E ((dT ps).flatten++rest)/\((dT ps).flatten++rest).length=cap*4
section
variable{J:an}{b cap:Nat}{ps:List aR}
def BX.lt(h:BX J b cap ps):b<J.length:=by obtain⟨_,h,_⟩:=h;exact aj h
def BX.push(h:BX J b cap ps)(L:an):BX (J++L) b cap ps:=by
 have:=h.lt;obtain⟨r,h1,h2⟩:=h;exact⟨r,by rw[AI this];exact h1,h2⟩
def BX.len(h:BX J b cap ps):bA J (.sl b 0 ps.length cap 0 4)=aa ps.length:=by
 obtain⟨r,h1,h2⟩:=h;simp[bA,h1]
def Z'{rest:List C}(hi:m<ps.length):(((dT ps).flatten++rest).drop (m*4)).take 4=dg ps[m]:=by
 have b:=ef (fW ps);rw[gw]at b;rw[aim ap,oU m (fW ps)];have e:(dT ps).drop m=dg ps[m] ::(dT ps).drop (m+1):=by
  rw[agT (by rw[gw];exact hi)];simp[dT]
 rw[e,ag6,ahm,ahK (by simp[dg])];rfl
theorem BX.at(h:BX J b cap ps){i:Nat}(hi:i<ps.length):bO J 4 ab (.c (.sl b 0 ps.length cap 0 4)) (vi i)=aa (.c (.ptr b (i*4) 0))/\aV J (aa 4) (.c (.ptr b (i*4) 0))=aa (.a (dg ps[i])):=by
 obtain⟨r,h1,h2⟩:=h;refine⟨?_,?_⟩
 .simp[bO,show fE (vi i)=aa (i:Int) from rfl,h1,hi]
 .have hl:=ef (fW ps);rw[gw]at hl;have:=Z' (rest:=r) hi;simp only[aV,az,h1,ahz,aX]
  grind
theorem BX.st(h:BX J b cap ps){i:Nat}(hi:i<ps.length)(q:aR):∃J',dj J (.ptr b (i*4) 0) (dg q)=aa J'/\BX J' b cap (ps.set i q)/\J'.length=J.length/\∀k:Nat,k≠b->J'[k]?=J[k]?:=by
 obtain⟨r,h1,h2⟩:=h;have hl:=ef (fW ps);rw[gw]at hl;have ho:over ((dT ps).flatten++r) (i*4) (dg q)=(dT (ps.set i q)).flatten++r:=by
  have d:(dT ps).flatten=(dT (ps.take i)).flatten++dg ps[i]++(dT (ps.drop (i+1))).flatten:=by
   have:ps=ps.take i++ps[i]::ps.drop (i+1):=by rw[<-agT hi,ahU]
   conv=>lhs;rw[this]
   rw[wu,aif,ahm];rfl
  have g:(dT (ps.set i q)).flatten=(dT (ps.take i)).flatten++dg q++(dT (ps.drop (i+1))).flatten:=by
   rw[aiJ,ct hi,wu,aif,ahm];rfl
  have j:((dT (ps.take i)).flatten).length=i*4:=by rw[ef (fW _),gw,ahl];omega
  rw[d,g,<-j,ahm,ahm,Fg];rw[aim (by simp[dg])];have:(dg ps[i]).drop (dg q).length=[]:=by simp[dg]
  grind
 refine⟨_,?_,⟨r,By (aj h1),?_⟩,bv,λk l=>sh (Ne.symm l)⟩
 .simp only[dj,h1];rw[ct ⟨aih _,by rw[agM,hl];simp[dg];omega⟩,ho]
 .rw[agM,ef (fW _),gw,agZ]
  grind
def BX.del(h:BX J b cap ps){j:Nat}(q:j<ps.length)(g:cap<=1000000) :
  ∃r H',Ev tab (.fn GQ) [.c (.sl b 0 ps.length cap 0 4),vi j,vi (j+1:Nat)] J r H'/\(r=.c (.sl b 0 (ps.eraseIdx j).length cap 0 4)/\BX H' b cap (ps.eraseIdx j)/\H'.length=J.length/\∀k:Nat,k≠b->H'[k]?=J[k]?):=by
 obtain⟨rest,h1,h2⟩:=h;obtain⟨r,H',m,s,d,rfl,hl⟩:=T3 (tab:=tab) (F:=GQ) (sz:=4) (bytes:=64) (zs:=[.aN,fi 0,fi 0,.aN]) YJ ce rfl (fW ps) h1 h2 (j:=j) (by rw[gw];exact q) g;rw[gw]at m s;have e:(dT ps).eraseIdx j=dT (ps.eraseIdx j):=Nz ps j;rw[e]at hl;rw[e]at m;have l:(ps.eraseIdx j).length=ps.length-1:=by rw[aiM,ct q]
 exact⟨r,_,m,by rw[s,l],⟨d,By (aj h1),hl⟩,bv,λk u=>sh (Ne.symm u)⟩
def BX.ex(h:BX J b cap ps)(h0:ps≠[])(n:Nat):fv (n+1) J (.sl b 0 ps.length cap 0 4)=aa (sl .fs (aM ps)):=by
 obtain⟨r,h1,h2⟩:=h;have hl:=ef (fW ps);rw[gw]at hl;simp only[gR,h1];rw[ct (by rw[agM];omega),ahR,ahK ap,agY ap,tJ,kr];cases ps with
 |nil=>exact absurd rfl h0| cons p ps=>simp[sl,aM]
end
def yI(p q:aR)(j:1<=p.aO)(l:p.aO<=1000000)(m:1<=q.aO)(s:q.aO<=1000000):bf tab ab' [.a (dg p),.a (dg q)]=Eq (vb (decide (p.aO % q.aO=0)||decide (q.aO % p.aO=0))):=by
 have d:de .rem (vi p.aO) (vi q.aO)=aa (vi (p.aO % q.aO)):=gn ap ap;have g:de .rem (vi q.aO) (vi p.aO)=aa (vi (q.aO % p.aO)):=gn ap ap;refine bf.eq (bD rfl rfl λQ b=>?_);apply ai;simp[dg];apply ai;by_cases h:p.aO % q.aO=0
 .simp[d,h];refine av (b _ _ ?_);simp[h]
 .simp[d,g,h];refine av (b _ _ ?_);simp[h]
variable{Nb:Int}
def ew(ps:List aR)(d:Int):Prop:=∀p∈ps,bE p d=ae
def fH(a b:List aR)(d:Int):ew (a++b) d↔ew a d/\ew b d:=by
 unfold ew;constructor
 .intro h;exact⟨λp g=>h p (ahu _ g),λp g=>h p (ail _ g)⟩
 .rintro⟨j,l⟩ p g;rcases agP.1 g with h|h
  .exact j p h
  .exact l p h
def jT.can(h:jT Nb p)(b:pH p q):jT Nb q:=⟨b.ok,by have:=b.fr;have:=h.fr;omega,ahr b.aO h.aO,ahx (ahq (by have:=(bM h.ok).2.2.1;omega) b.aO) h.bd⟩
def Nd(y:n<N)(z:N<t.length)(F:∀d,0<=d->bE q d=(bE (t[n]'(by omega)) d&&bE t[N] d))(d:Int)(v:0<=d):ew ((t.set n q).eraseIdx N) d↔ew t d:=by
 have hi:n<t.length:=ii
 have m:t=t.take n++t[n] ::((t.drop (n+1)).take (N-(n+1))++t[N]::t.drop (N+1)):=by
  conv=>lhs;rw[<-ahU n t,agT hi]
  congr 2
  conv=>lhs;rw[<-ahU (N-(n+1)) (t.drop (n+1)),aiG]
  rw[show n+1+(N-(n+1))=N by omega,agT z]
 have s:(t.set n q).eraseIdx N=t.take n++q ::((t.drop (n+1)).take (N-(n+1))++t.drop (N+1)):=by
  have u:t.set n q=t.take n++q::t.drop (n+1):=by rw[aiJ,ct hi]
  have B:(t.take n).length=n:=by rw[ahl];omega
  rw[u,List.eraseIdx_append_of_length_le ap,B]
  congr 1
  obtain⟨k,A⟩:∃k,N-n=k+1:=⟨N-n-1,ap⟩
  rw[A,List.eraseIdx_cons_succ,ah8,aiG];rw[show N-(n+1)=k by omega,show n+1+(k+1)=N+1 by omega]
 have H:=F d v;rw[s]
 conv=>rhs;rw[m]
 rw[fH,fH];have c:∀(x:aR) l,ew (x::l) d↔bE x d=ae/\ew l d:=λx l=>by simp[ew]
 rw[c,c,fH,fH,c,H,IS];constructor
 .rintro⟨a,⟨b,e⟩,f,g⟩;exact⟨a,b,f,e,g⟩
 .rintro⟨a,b,f,e,g⟩;exact⟨a,⟨b,e⟩,f,g⟩
def Nf(g:∀p∈t,jT Nb p)(d:jT Nb q):∀p∈(t.set m q).eraseIdx n,jT Nb p:=λp b=>by
 have:=List.mem_of_mem_eraseIdx b;rcases aiK this with h|rfl
 .exact g p h
 .exact d
structure MG(Nb:Int)(us ps:List aR):Prop where
 ne:ps≠[]
 le:ps.length<=us.length
 sm:∀p∈ps,jT Nb p
 mem:∀d,0<=d->(ew ps d↔ew us d)
def Ng(g:Tg)(us:List aR)(m_:∀u∈us,jT Nb u)(h0:us≠[])(hl:us.length<=64):∃ps,MG Nb us ps/\bf tab PY [G (sl g (aM us))]=Eq (G (sl .fs (aM ps))):=by
 obtain⟨r,⟨ps,j6,rfl⟩,h⟩:∃r,(∃ps,MG Nb us ps/\r=G (sl .fs (aM ps)))/\bf tab PY [G (sl g (aM us))] r:=by
  refine dE rfl rfl λQ hQ=>?_;have p9:=ahf.2 h0;obtain⟨n,hn⟩:=aH (us.length);have a_:∀H:an,bA H (.f (sl g (aM us)))=aa n:=λH=>by rw[hn];simp
  apply ai;simp;refine lF (ai ?_);have m9:∀(t:T) (H:an),t.g 11=vi n->cA t H (.fu 4 64 [.aN,fi 0,fi 0,.aN] (R 11) (R 11))=aa (.c (.sl H.length 0 n n 0 4),H++[.box ((dQ n [FC.aN,fi 0,fi 0,.aN]).map .f) 0]):=by
   intro t H ht;simp only[cA,mF,ht];have hi:fE (vi n)=aa (n:Int):=rfl;simp only[hi];rw[ct ⟨ap,ahY _,iL ge ce,rfl⟩,cC ap];simp
  simp[a_,m9];obtain⟨HA,h_⟩:=aH ([bV.box (List.replicate n [C.f FC.aN,C.f (fi 0),C.f (fi 0),C.f FC.aN]).flatten 0]);have j9:BX HA 0 n ([]++List.replicate n zp):=by
   refine⟨[],?_,?_⟩
   .rw[h_,ahL,ahe];have:dT (List.replicate n zp)=List.replicate n [C.f FC.aN,C.f (fi 0),C.f (fi 0),C.f FC.aN]:=by
     rw[dT,ajv];rfl
    rw[this];rfl
   .rw[ahL,ahe,ef (fW _),gw,aiw]
  rw[<-h_];apply aU;simp[a_];refine bW n (λj t J=>t.g 3=.c (.sl 0 0 n n 0 4)/\t.g 13=G (sl g (aM us))/\∃qs,qs.length=j/\BX J 0 n (qs++List.replicate (n-j) zp)/\(∀q∈qs,jT Nb q)/\∀d,0<=d->(ew qs d↔ew (us.take j) d)) ap ce ce bv bv
   ⟨bv,bv,[],rfl,by simpa using j9,bv,λd _=>by simp⟩ ?_ ?_
  .rintro j t J hj ⟨y,c9,qs,v,L,d_,S⟩ ha hb next
   have d9:j<us.length:=ii
   have I:=λH:an=>bu (H:=H) (g:=g) (rows:=aM us) (sz:=4) (k:=.i64) (i:=(j:Int)) ap ge;have e_:=λH:an=>cf (H:=H) (bK us) (cH d9);simp only[ag7]at I;have F:=m_ _ (IN d9);have j7:us.take (j+1)=us.take j++[us[j]]:=by rw[agV,BY d9];rfl
   obtain⟨u,hu⟩:=aH (us[j]);rw[<-hu]at e_ F j7;obtain⟨q,hq,-,-,W⟩:=Pf u F.ok (by have:=F.bH;omega) (by have:=F.head;omega);simp only[aR.row,IT,agN]at e_ W;obtain⟨J1,l⟩:=aH (J++[bV.box [C.f (sl u.hg (ints u.head)),C.f (fi u.fr),C.f (fi u.aO),C.f (sl u.cg (ints u.bH))] 0]);have A:BX J1 0 n (qs++List.replicate (n-j) zp):=by rw[l];exact L.push _
   have l_:(qs++List.replicate (n-j) zp).length=n:=by rw[agM,aiw];omega
   have b1:J1[J.length]?=E [C.f (sl u.hg (ints u.head)),C.f (fi u.fr),C.f (fi u.aO),C.f (sl u.cg (ints u.bH))]:=by rw[l];simp
   have l1:aV J1 (aa 4) (.c (.ptr J.length 0 0))=aa (.a [C.f (sl u.hg (ints u.head)),C.f (fi u.fr),C.f (fi u.aO),C.f (sl u.cg (ints u.bH))]):=by simp[aV,az,b1,aX]
   obtain⟨j8,-⟩:=A.at (i:=j) ap;obtain⟨J2,s2,c_,-,-⟩:=A.st (i:=j) ap q;rw[l_]at j8;simp only[dg]at s2;apply ax;apply ai;simp[ha,c9,I,e_,-aw];rw[<-l];apply ba;simp[y,l1,-aw,W,j8,s2,-bF];refine au (next _ _ ?_ (by simp[ha]) (by simp[hb]));refine⟨by simp[y],by simp[c9],qs++[q],by simp[v],?_,λx hx=>?_,λd hd=>?_⟩
   .have e:(qs++List.replicate (n-j) zp).set j q=qs++[q]++List.replicate (n-(j+1)) zp:=by
     obtain⟨k,hk⟩:∃k,n-j=k+1:=⟨n-j-1,ap⟩
     rw[aij _ _ ap,v,aiD,hk,aiO,aio,show n-(j+1)=k by omega,ahm];rfl
    rw[<-e];exact c_
   .rcases agP.1 hx with h|h
    .exact d_ x h
    .rw[If]at h;rw[h];exact F.can hq
   .rw[j7,fH,fH,S d hd];simp only[ew,If,forall_eq];rw[hq.mem d hd]
  .rintro t J ⟨y,c9,qs,v,L,d_,S⟩ - -;rw[aiD,ajt,ahe]at L;rw[hn,agW]at S;have b_:∀(N:Nat) (ps:List aR) (t:T) (J:an),ps.length=N->t.g 3=.c (.sl 0 0 ps.length n 0 4)->BX J 0 n ps->MG Nb us ps->WP tab PY ab [.code O',.inScope Ti] ⟨t,[],J⟩ Q:=by
    intro N;induction N using Nat.strongRecOn with
    |ind N ih=>
    intro ps t J hN y L hG;have j6:=hG.le;obtain⟨M,hM⟩:=aH (ps.length);rw[<-hM]at y;have K:=L.len;rw[<-hM]at K;apply aU;simp[y,K];refine bW M (λi t J'=>J'=J/\t.g 3=.c (.sl 0 0 M n 0 4)) ap ce ce bv bv ⟨rfl,by simp[y]⟩ ?_ ?_
    .rintro i t J' hi ⟨rfl,y⟩ ha hb next
     apply ax;apply ai;simp[ha];apply ai;simp[a8 (n:=(i:Int)+1)];apply ax;refine di (λm s=>∃(j:Nat) (t':T),s=⟨t',[],J'⟩/\m=M-j/\i<j/\j<=M/\t'.g 3=.c (.sl 0 0 M n 0 4)/\t'.g 6=vi i/\t'.g 7=vi j/\t'.g 30=t.g 30/\t'.g 31=t.g 31) (M-(i+1))
      ⟨i+1,_,rfl,rfl,ap,ap,by simp[y],bv,bv,bv,bv⟩ ?_
     rintro m s ⟨j,t',rfl,rfl,k_,o_,b,O,z,f_,g_⟩ n8;apply aU;simp[b,z,K];by_cases hj:j<M
     .refine aq (by simp[hj]) (aQ ?_);obtain⟨xi,li⟩:=L.at (i:=i) ap;obtain⟨xj,lj⟩:=L.at (i:=j) ap;rw[<-hM]at xi xj;have i_:i<ps.length:=ii
      have j5:j<ps.length:=ii
      have si:=hG.sm _ (IN i_);have sj:=hG.sm _ (IN j5);have n9:=(bM si.ok).2.2.1;have n_:=(bM sj.ok).2.2.1;have p_:=si.le;have q_:=sj.le;have X:=yI ps[i] ps[j] n9 ap n_ ap;obtain⟨dv,i7⟩:=aH ((decide (ps[i].aO % ps[j].aO=0)||decide (ps[j].aO % ps[i].aO=0)):Bool);rw[<-i7]at X;apply aE;apply ax;apply aU;simp[b,O,z,xi,xj,li,lj,-aw,nv,ny,<-dO,X];cases dv with
      |true=>
       have hd:ps[i].aO % ps[j].aO=0\/ps[j].aO % ps[i].aO=0:=by simpa using i7.symm
       have hR:∃R:Int,0<R/\R ∣ 27720/\R<=Nb/\ps[i].aO ∣ R/\ps[j].aO ∣ R:=by
        rcases hd with h|h
        .exact⟨ps[i].aO,ap,si.aO,si.bd,ah3 _,ah9 h⟩
        .exact⟨ps[j].aO,ap,sj.aO,sj.bd,ah9 h,ah3 _⟩
       obtain⟨R,R0,R1,R2,Ra,Rb⟩:=hR;obtain⟨q,c1,c2,c3,c4,U⟩:=Xr ps[i] ps[j] si sj R0 R1 Ra Rb;have sq:jT Nb q:=⟨c1,by have:=si.fr;have:=sj.fr;omega,ahr c3 R1,ahx (ahq R0 c3) R2⟩
       simp only[<-dO]at U;obtain⟨J1,l⟩:=aH (J'++[bV.box (dg q) 0]);have A:BX J1 0 n ps:=by rw[l];exact L.push _
       have b1:J1[J'.length]?=E (dg q):=by rw[l];simp
       have l1:aV J1 (aa 4) (.c (.ptr J'.length 0 0))=aa (.a (dg q)):=by simp[aV,az,b1,aX,dg]
       obtain⟨I,-⟩:=A.at (i:=i) ap;rw[<-hM]at I;obtain⟨J2,s2,c_,-,-⟩:=A.st i_ q;obtain⟨r,J3,B,rfl,j_,-,-⟩:=c_.del (j:=j) (by rw[agZ];omega) ap;rw[agZ,<-hM]at B;have i9:(dg q).length=4:=rfl;refine bG bv ?_;apply ai;simp[b,O,z,xi,xj,li,lj,-aw,nv,ny,<-dO,U,i9];rw[<-l];apply ai;simp;refine aq bv ?_;apply ai;simp[b,O,l1,I,s2,i9,-aw,-bF];apply ai;have ej:((j+1:Nat):Int)=(j:Int)+1:=ii
       rw[ej]at B;simp[b,z,a8 (n:=(j:Int)+1),B.eq];refine Uw rfl (aE (aQ ?_));have Y:((ps.set i q).eraseIdx j).length=ps.length-1:=by rw[aiM,ct (by rw[agZ];omega),agZ]
       refine ih _ ap ((ps.set i q).eraseIdx j) _ J3 rfl ?_ j_ ⟨λe=>by rw[e]at Y;simp at Y;omega,ap,Nf hG.sm sq,λd i6=>by rw[Nd k_ j5 c4 d i6];exact hG.mem d i6⟩;simp
      |false=>
       refine aq bv ?_;refine bQ rfl ?_;apply ba;simp[z,a8 (n:=(j:Int)+1)];exact n8 (M-(j+1)) _ ap ⟨j+1,_,rfl,rfl,ap,ap,by simp[b],by simp[O],bv,by simp[f_],by simp[g_]⟩
     .refine aC (by simp[hj]) ?_;refine bQ rfl ?_;refine au (next _ _ ⟨rfl,by simp[b]⟩ (by simp[g_,ha]) (by simp[f_,hb]))
    .rintro t J' ⟨rfl,y⟩ - -;have i8:=L.ex hG.ne 63;rw[<-hM]at i8;apply ai;simp[y];refine av (hQ _ _ _ ⟨ps,hG,rfl⟩ ⟨rfl,.c (.sl 0 0 M n 0 4),dx bv,?_⟩);simp[jd,deep,i8]
   refine aE (qz ?_);exact b_ _ qs _ J rfl (by simp[y,v]) L ⟨by intro e;rw[e]at v;simp at v;omega,ap,d_,S⟩
 exact⟨ps,j6,h.eq⟩
theorem uf(g g':Tg)(a b:List Int)(O:a.length<=1000000):bf tab XY [G (sl g (ints a)),G (sl g' (ints b))]=Eq (vb (decide (a=b))):=by
 have d:∀(H:an) (g:Tg) (l:List Int),bA H (.f (sl g (ints l)))=aa l.length:=λH g l=>by simp[ints]
 refine bf.eq (bD rfl rfl λQ x=>?_);apply ai;simp;apply aU;simp[d];by_cases A:a.length=b.length
 .refine bG (by simp[A]) ?_;apply aU;simp[d];refine bW a.length (λj t J=>t.g 0=G (sl g (ints a))/\t.g 1=G (sl g' (ints b))/\∀(k:Nat) (h:k<j) (K:k<a.length),a[k]=b[k]'(by omega)) ap ce ce bv bv
   ⟨bv,bv,λk h=>by omega⟩ ?_ ?_
  .rintro j t J N ⟨u,v,m⟩ L M next
   have z:j<b.length:=ii
   have q:=λH:an=>bu (H:=H) (g:=g) (rows:=ints a) (sz:=1) (k:=.i64) (i:=(j:Int)) ap ip;have B:=λH:an=>dY (H:=H) N;have s:=λH:an=>bu (H:=H) (g:=g') (rows:=ints b) (sz:=1) (k:=.i64) (i:=(j:Int)) ap ip;have F:=λH:an=>dY (H:=H) z;simp at q s;apply ax;apply ai;simp[L];apply aE;apply ba;simp[u,v,q,s,B,F];by_cases y:a[j]=b[j]
   .refine bG (by simp[y]) ?_;refine au (next _ _ ⟨by simp[u],by simp[v],λk h K=>?_⟩ (by simp[L]) (by simp[M]))
    grind
   .refine aq (by simp[y]) ?_;apply ai;simp;refine av (x _ _ ?_);have:¬ a=b:=by intro e;subst e;exact y rfl
    simp[this]
  .rintro t J ⟨u,v,m⟩ - -;have:a=b:=List.ext_getElem A λk I K=>m k I I;apply ai;simp;refine av (x _ _ ?_);simp[this]
 .refine aq ge ?_;apply ai;simp;refine av (x _ _ ?_);have:¬ a=b:=λe=>A (by rw[e]);simp[this]
def wO(p q:aR):Bool:=decide (p.fr=q.fr/\p.aO=q.aO/\p.head=q.head/\p.bH=q.bH)
def Q4(p q:aR)(y:p.head.length<=1000000)(z:p.bH.length<=1000000):Kf tab PW [.a (dg p),.a (dg q)] (vb (wO p q)):=by
 have s:=λg g'=>uf g g' p.head q.head y;have v:=λg g'=>uf g g' p.bH q.bH z;refine dd rfl rfl λH Q d=>?_;apply ai;simp[dg];apply ai;obtain⟨u,l⟩:=aH (decide (p.head=q.head));obtain⟨x,j⟩:=aH (decide (p.bH=q.bH));rw[<-l]at s;rw[<-j]at v;have A:wO p q=(decide (p.fr=q.fr)&&(decide (p.aO=q.aO)&&(u&&x))):=by
  rw[l,j];simp[wO]
 rw[A]at d;by_cases b:p.fr=q.fr
 .by_cases m:p.aO=q.aO
  .cases u with
   |true=>
    simp[b,m,s,v];refine av (d _ _ ?_);simp[b,m]
   |false=>
    simp[b,m,s];refine av (d _ _ ?_);simp
  .simp[b,m];refine av (d _ _ ?_);simp[b,m]
 .simp[b];refine av (d _ _ ?_);simp[b]
theorem ML(h:wO p q=ae)(d:Int):bE p d=bE q d:=by
 obtain⟨b,g,j,l⟩:=of_decide_eq_true h;unfold bE
 grind
def jo:List aR->List aR->Bool
 |[],[]=>ae| p::s,q::t=>wO p q&&jo s t| _,_=>ag
theorem yL:∀{s t:List aR},jo s t=ae->∀d,ew s d↔ew t d
 |[],[],_,d=>Iff.rfl
 |p::s,q::t,h,d=>by
  simp only[jo,IS]at h;have b:=yL h.2 d;have c:∀(x:aR) l,ew (x::l) d↔bE x d=ae/\ew l d:=λx l=>by simp[ew]
  rw[c,c,b,ML h.1]
theorem oT:∀(s t:List aR),jo s t=ae↔∃h:s.length=t.length,∀(k:Nat) (b:k<s.length),wO s[k] (t[k]'(by omega))=ae
 |[],[]=>⟨λ_=>⟨rfl,λk b=>by simp at b⟩,λ_=>rfl⟩
 |[],q::t=>⟨λh=>(by cases h),λ⟨h,_⟩=>(by simp at h)⟩
 |p::s,[]=>⟨λh=>(by cases h),λ⟨h,_⟩=>(by simp at h)⟩
 |p::s,q::t=>by
  simp only[jo,IS,oT s t];constructor
  .grind
  .rintro⟨g,d⟩;exact⟨d 0 bv,by simpa using g,λk b=>d (k+1) (by simpa using b)⟩
theorem MN(g g':Tg)(s t:List aR)(hs:s.length<=1000000)(O:∀p∈s,p.head.length<=1000000/\p.bH.length<=1000000):bf tab XX [G (sl g (aM s)),G (sl g' (aM t)),G (.fn PW [])]=Eq (vb (jo s t)):=by
 have d:∀(H:an) (g:Tg) (l:List aR),bA H (.f (sl g (aM l)))=aa l.length:=λH g l=>by simp
 refine bf.eq (bD rfl rfl λQ L=>?_);apply ai;simp;apply aU;simp[d];by_cases N:s.length=t.length
 .refine bG (by simp[N]) ?_;apply aU;simp[d];refine bW s.length (λj x J=>x.g 1=G (sl g' (aM t))/\x.g 2=G (.fn PW [])/\x.g 15=G (sl g (aM s))/\∀(k:Nat) (h:k<j) (S:k<s.length),wO s[k] (t[k]'(by omega))=ae) ap ce ce bv bv
   ⟨bv,bv,bv,λk h=>by omega⟩ ?_ ?_
  .rintro j x J W ⟨I,K,m,y⟩ U hb next
   have M:j<t.length:=ii
   have z:=λH:an=>bu (H:=H) (g:=g) (rows:=aM s) (sz:=4) (k:=.i64) (i:=(j:Int)) ap ge;have B:=λH:an=>cf (H:=H) (bK s) (cH W);have A:=λH:an=>bu (H:=H) (g:=g') (rows:=aM t) (sz:=4) (k:=.i64) (i:=(j:Int)) ap ge;have F:=λH:an=>cf (H:=H) (bK t) (cH M);simp only[ag7]at z A;simp only[<-dO]at B F;have Y:=O _ (IN W);have u:=Q4 s[j] t[j] Y.1 Y.2;have b:∀p,(dg p).length=4:=λ_=>rfl;have tk:∀p,List.take 4 (dg p)=dg p:=λ_=>rfl;apply ax;apply ai;simp[U,m,z,B,-aw,b];apply ai;simp[I,A,F,-aw,b];obtain⟨v,q⟩:=aH (J++[bV.box (dg s[j]) 0,bV.box (dg t[j]) 0]);have b8:v[J.length]?=E (dg s[j]):=by rw[q];simp
   have b9:v[J.length+1]?=E (dg t[j]):=by rw[q,agL ap];simp
   have l8:aV v (aa 4) (.c (.ptr J.length 0 0))=aa (.a (dg s[j])):=by simp[aV,az,b8,aX,b,tk]
   have l9:aV v (aa 4) (.c (.ptr (J.length+1) 0 0))=aa (.a (dg t[j])):=by simp[aV,az,b9,aX,b,tk]
   rw[<-q];obtain⟨JK,u⟩:=u v;apply ai;simp[K,l8,l9,-aw,u.eq];cases he:wO s[j] t[j]with
   |true=>
    refine bG bv ?_;refine au (next _ _ ⟨by simp[I],by simp[K],by simp[m],λk h S=>?_⟩ (by simp[U]) (by simp[hb]))
    grind
   |false=>
    refine aq bv ?_;apply ai;simp;refine av (L _ _ ?_);have:jo s t=ag:=by
     cases h:jo s t with
     |false=>rfl
     |true=>
      obtain⟨_,S⟩:=(oT s t).1 h
      grind
    simp[this]
  .rintro x J ⟨I,K,m,y⟩ - -;apply ai;simp;refine av (L _ _ ?_);have:jo s t=ae:=(oT s t).2 ⟨N,λk X=>y k X X⟩;simp[this]
 .refine aq ge ?_;apply ai;simp;refine av (L _ _ ?_);have:jo s t=ag:=by
   cases h:jo s t with
   |false=>rfl| true=>exact absurd ((oT s t).1 h).1 N
  simp[this]
variable{Nb:Int}
def ZJ(s t:List aR)(j:s.length<=1000000)(b:∀p∈s,p.head.length<=1000000/\p.bH.length<=1000000)(g g':Tg):Kf tab AW [G (sl g (aM s)),G (.fp [sl g' (aM t)] 0)] (vb (jo s t)):=by
 have h:=MN g g' s t j b;refine dd rfl rfl λH Q d=>?_;apply ai;simp;apply ai;simp[lU,h];refine av (d _ _ ?_);simp
def QM(g g':Tg)(l:List (List aR))(u:l.length<=1000000)(b:∀s∈l,s.length<=1000000/\∀p∈s,p.head.length<=1000000/\p.bH.length<=1000000)(t:List aR) :
  bf tab yc [G (sl g (l.map λs=>[sl .fs (aM s)])),G (.fn AW [.fp [sl g' (aM t)] 0])]=Eq (vb (l.any λs=>jo s t)):=
 (eR G2 (iF G3 l (λs=>[sl .fs (aM s)]) (λs=>G (sl .fs (aM s))) (λs=>jo s t) g AW [.fp [sl g' (aM t)] 0] ap
  (λj q H=>by
   have m:cZ 1 (l.map λs=>[sl .fs (aM s)]):=cZ.map λ_=>rfl;have:=gM (H:=H) m (j:=j) (row:=[sl .fs (aM l[j])]) (by simp[q]) rfl;omega)
  (λs d=>ZJ s t (b s d).1 (b s d).2 .fs g'))).eq
theorem A6(g:Tg)(ps:List aR)(m:∀p∈ps,Mod p)(l:1<=ps.length)(s:ps.length<=64):∃b,(b=ae↔(∀d,¬ lO ps 0 ps d)/\¬ rO [] ps)/\bf tab ab9 [G (sl g (aM ps))]=Eq (vb b):=by
 obtain⟨e,f,j,x⟩:=Ew g ps (λp y=>(m p y).ok) s 0;obtain⟨b,v,z⟩:=BZ g ps m l s;refine⟨!f&&!b,?_,bf.eq (bD rfl rfl λQ q=>?_)⟩
 .rw[<-v];rcases j with⟨u,-,B⟩|⟨u,A,-⟩
  .grind
  .grind
 .apply ai;simp;apply ai;simp[x];apply ai;cases f
  .simp[z];refine av (q _ _ ?_);simp
  .simp;refine av (q _ _ ?_);simp
def jT.mod(h:jT Nb p):Mod p:=⟨h.ok,by have:=h.le;omega⟩
theorem yz(s:∀p∈t,jT Nb p)(u:∀d,¬ lO t 0 t d)(v:¬ rO [] t)(d:Int)(j:0<=d):¬ ew t d:=by
 intro b;have m:wS t d=ae:=(je j).2 b;by_cases x:dG t<=d
 .refine v (Dt (d:=d) t [] bv λp g=>?_);exact(uK (s p g).mod (by
   have:∀l:List aR,p∈l->p.fr<=dG l:=by
    intro l;induction l with
    |nil=>intro h;cases h
    |cons a l y=>
     intro h;simp only[dG]
     grind
   have:=this t g;omega)).1 (b p g)
 .obtain⟨p,g,q⟩:=wx (l:=t) j ap;refine u d ⟨j,m,p,g,?_⟩;exact(head_mem (s p g).ok d).2 ⟨j,q,b p g⟩
def B4(J J':an):Prop:=∀(i:Nat) (cs:List C) (fl:Nat),4<=cs.length->J[i]?=aa (bV.box cs fl)->∃fl',J'[i]?=aa (bV.box cs fl')
def TC(J:an)(c:C)(ps:List aR):Prop:=(c=.f (sl .fs (aM ps))/\ps≠[])\/(ps≠[]/\∃b fl,c=.sl b 0 ps.length ps.length 0 4/\J[b]?=aa (.box (dT ps).flatten fl))
def mW(ps:List aR):(dT ps).flatten.length=ps.length*4:=by rw[ef (fW ps),gw]
def FH(h:t≠[]):4<=(dT t).flatten.length:=by
 have:=ahf.2 h;rw[mW];omega
def iz(h:t≠[])(g:Tg):sl g (aM t)=.fs (aM t).flatten t.length:=by
 cases t with
 |nil=>exact absurd rfl h| cons p l=>simp[sl,aM]
section
variable{J:an}{c:C}{ps:List aR}
def TC.len(h:TC J c ps):bA J c=aa ps.length:=by
 rcases h with⟨rfl,h⟩|⟨h,b,fl,rfl,hb⟩
 .simp
 .simp[bA,hb]
def TC.one(h:TC J c [p]):∃q,bO J 4 ab (.c c) (vi 0)=aa (.c q)/\aV J (aa 4) (.c q)=aa (.a (dg p)):=by
 rcases h with⟨rfl,h⟩|⟨h,b,fl,rfl,hb⟩
 .have d:=bu (H:=J) (g:=.fs) (rows:=aM [p]) (sz:=4) (k:=.i64) (i:=(0:Int)) ap bv;have ld:=cf (H:=J) (bK [p]) (cH (l:=[p]) (j:=0) bv);exact⟨_,d,by simpa[dO]using ld⟩
 .have hb:J[b]?=aa (.box (dg p) fl):=hb;exact⟨.ptr b 0 0,by simp[bO,show fE (vi 0)=aa (0:Int) from rfl,hb],by simp[aV,az,hb,aX,dg]⟩
def TC.ex(h:TC J c ps)(n:Nat):fv (n+1) J c=aa (sl .fs (aM ps)):=by
 rcases h with⟨rfl,h⟩|⟨h,b,fl,rfl,hb⟩
 .rfl
 .have hl:=mW ps;simp only[gR,hb];rw[ct ap,ahR,agY ap,tJ,kr,iz h];rfl
def TC.bS{J':an}(h:TC J c ps)(g:B4 J J'):TC J' c ps:=by
 rcases h with h|⟨h,b,fl,h1,hb⟩
 .exact .inl h
 .obtain⟨fl',d⟩:=g b _ fl (FH h) hb;exact .inr ⟨h,b,fl',h1,d⟩
theorem TC.mk(h:TC J c ps)(n:Nat):∀(i:Nat) (y:bV),J[i]?=aa y->(ez (n+1) c J)[i]?=aa y\/∃cs fl fl',4<=cs.length/\y=.box cs fl/\(ez (n+1) c J)[i]?=aa (.box cs fl'):=by
 rcases h with⟨rfl,h⟩|⟨h,b,fl,rfl,hb⟩
 .intro i y hy;exact .inl hy
 .intro i y hy;have e:ez (n+1) (.sl b 0 ps.length ps.length 0 4) J=J.set b (.box (dT ps).flatten (Nat.max fl (0+ps.length*4))):=by
   simp only[jY,hb];rw[jF];intro x d;have d:=ahM (ah1 d);rw[tJ]at d
   grind
  rw[e];by_cases hi:b=i
  .subst hi;rw[hb]at hy;cases hy;exact .inr ⟨_,_,_,FH h,rfl,By (aj hb)⟩
  .grind
end
def LJ(J:an)(cl:C)(ts:List (List aR)):Prop:=(ts=[]/\cl=.f .aN)\/(∃b d cs rest,cl=.sl b 0 ts.length 0 d 1/\J[b]?=aa (.dz 1 (cs++rest) 0 d .loc)/\cs.length=ts.length/\∀(k:Nat) (h:k<ts.length) (g:k<cs.length),TC J cs[k] ts[k])
section
variable{J:an}{cl:C}{ts:List (List aR)}
def LJ.len(h:LJ J cl ts):bA J cl=aa ts.length:=by
 rcases h with⟨rfl,rfl⟩|⟨b,d,cs,rest,rfl,hb,-,-⟩
 .rfl
 .simp[bA,hb]
theorem LJ.at(h:LJ J cl ts){k:Nat}(g:k<ts.length):∃b d c,cl=.sl b 0 ts.length 0 d 1/\bO J 1 ab (.c cl) (vi k)=aa (.c (.ptr b k d))/\aV J ab (.c (.ptr b k d))=aa (.c c)/\TC J c ts[k]:=by
 rcases h with⟨rfl,rfl⟩|⟨b,d,cs,rest,rfl,hb,hl,j⟩
 .simp at g
 .refine⟨b,d,cs[k],rfl,?_,?_,j k g ap⟩
  .simp[bO,show fE (vi k)=aa (k:Int) from rfl,hb,g]
  .simp only[aV,az,hb,if_true,ahz];rw[aim ap,agT ap];rfl
theorem LJ.bS{J':an}(h:LJ J cl ts)(j:B4 J J')(ho:∀(i:Nat) y,bz cl=aa i->J[i]?=aa y->J'[i]?=aa y):LJ J' cl ts:=by
 rcases h with h|⟨b,d,cs,rest,rfl,hb,hl,g⟩
 .exact .inl h
 .exact .inr ⟨b,d,cs,rest,rfl,ho b _ rfl hb,hl,λk h h2=>(g k h h2).bS j⟩
def LJ.push(h:LJ J cl ts)(K:an):LJ (J++K) cl ts:=h.bS (λi cs fl _ hi=>⟨fl,by rw[AI (aj hi)];exact hi⟩) λi y _ hy=>by rw[AI (aj hy)];exact hy
theorem LJ.cm(h:LJ J cl ts){cs:List C}(hi:J[m]?=aa (.box cs n)):bz cl≠aa m:=by
 rcases h with⟨-,rfl⟩|⟨b,d,cs',rest,rfl,hb,-,-⟩
 .simp[bz]
 .intro e;cases e
  grind
def LJ.ade(h:LJ J cl ts)(hi:J[m]?=aa A)(hy:nJ A=ae):bz cl≠aa m:=by
 rcases h with⟨-,rfl⟩|⟨b,d,cs',rest,rfl,hb,-,-⟩
 .simp[bz]
 .intro e;cases e;rw[hi]at hb;cases hb;cases hy
theorem LJ.st(h:LJ J cl ts){i:Nat}(hi:i<ts.length)(j:J[n]?=E (dg p)):∃b d J',bO J 1 ab (.c cl) (vi i)=aa (.c (.ptr b i d))/\dj J (.ptr b i d) [.sl n 0 1 1 0 4]=aa J'/\LJ J' cl (ts.set i [p])/\J'.length=J.length/\∀k,bz cl≠aa k->J'[k]?=J[k]?:=by
 rcases h with⟨rfl,rfl⟩|⟨b,d,cs,rest,rfl,hb,hl,m⟩
 .simp at hi
 .have g:∀k y fl,J[k]?=aa (.box y fl)->k≠b:=λk y fl l e=>by rw[e,hb]at l;cases l
  have ho:over (cs++rest) i [.sl n 0 1 1 0 4]=cs.set i (.sl n 0 1 1 0 4)++rest:=by
   rw[zv (by rw[agM];omega),List.set_append_left _ _ ap]
  refine⟨b,d,J.set b (.dz 1 (cs.set i (.sl n 0 1 1 0 4)++rest) 0 d .loc),?_,?_,.inr ⟨b,d,cs.set i (.sl n 0 1 1 0 4),rest,bv,By (aj hb),by simp[hl],λk h1 h2=>?_⟩,bv,λk s=>sh (by rintro rfl;exact s rfl)⟩
  .simp[bO,show fE (vi i)=aa (i:Int) from rfl,hb,hi]
  .simp only[bF,hb,aih,true_and]
   grind
  .rw[List.getElem_set,List.getElem_set];by_cases e:i=k
   .rw[ct e,ct e];exact .inr ⟨bv,n,0,rfl,by rw[sh (Ne.symm (g _ _ _ j))];exact j⟩
   .rw[cC e,cC e];refine(m k (by simpa using h1) (by simpa using h2)).bS λu cs' fl _ q=>⟨fl,?_⟩
    grind
theorem LJ.del(h:LJ J cl ts){j:Nat}(v:j<ts.length)(x:0<j)(O:ts.length<=1000000) :
  ∃u H',Ev tab (.fn Cz) [.c cl,vi j,vi (j+1:Nat)] J (.c u) H'/\LJ H' u (ts.eraseIdx j)/\bz u=bz cl/\H'.length=J.length/\∀k,bz cl≠aa k->H'[k]?=J[k]?:=by
 rcases h with⟨rfl,rfl⟩|⟨b,N,cs,rest,rfl,hb,hl,H⟩
 .simp at v
 .have hg:wI 1 (cs.map λc=>[c]):=λr S=>by
   grind
  have q:∀l:List C,(l.map λc=>[c]).flatten=l:=λl=>by induction l with
   |nil=>rfl| cons a l Q=>simp only[IT,ag6,Q];rfl
  have d:(cs.map λc=>[c]).length=ts.length:=by rw[agS,hl]
  obtain⟨r,H',I,rfl,g,m,s,K⟩:=T4 (tab:=tab) (F:=Cz) (sz:=1) (bytes:=24) (zs:=[.aN]) YI ce rfl (rows:=cs.map λc=>[c]) (rest:=rest) hg (by rw[q];exact hb) (j:=j) (by rw[d];exact v) x (by rw[d];exact O);rw[d]at I;have M:((cs.map λc=>[c]).eraseIdx j).flatten=cs.eraseIdx j:=by
   rw[ah8,<-aiV,<-ait,<-ahQ,q,<-ah8]
  rw[M]at m;have B:(ts.eraseIdx j).length=ts.length-1:=by rw[aiM,ct v]
  have A:∀k y fl,J[k]?=aa (.box y fl)->k≠b:=λk y fl L e=>by rw[e,hb]at L;cases L
  refine⟨_,H',I,.inr ⟨b,N,cs.eraseIdx j,g,by rw[B],m,by rw[B,aiM,ct ap,hl],λk h1 h2=>?_⟩,rfl,s,λk z=>K k (by rintro rfl;exact z rfl)⟩;have kp:B4 J H':=λi cs fl _ hi=>⟨fl,by rw[K i (A _ _ _ hi)];exact hi⟩
  rw[List.getElem_eraseIdx,List.getElem_eraseIdx];by_cases e:k<j
  .rw[dif_pos e,dif_pos e];exact(H _ _ _).bS kp
  .rw[dif_neg e,dif_neg e];exact(H _ _ _).bS kp
end
variable{Nb:Int}
def TV(J:an)(c:C)(fs:List aR):Prop:=(∃g,c=.f (sl g (aM fs)))\/LR J c 4 (aM fs)
theorem ZD(h:LR H u N S)(n:Nat):∀(i:Nat) (y:bV),H[i]?=aa y->bz u≠aa i->(ez (n+1) u H)[i]?=aa y:=by
 rcases h with⟨_,rfl|rfl⟩|⟨m,b,j,rfl,g⟩
 .intro i y d _;exact d
 .intro i y d _;exact d
 .unfold RB at g;intro i y d hi;have l:b≠i:=λe=>hi (by rw[e];rfl);have e:∃z,ez (n+1) (.sl b 0 S.length 0 j N) H=H.set b z:=by
   simp only[jY,g];rw[jF]
   .grind
   .grind
  grind
section
variable{J:an}{c:C}{fs:List aR}
def TV.ex(h:TV J c fs):∃g,∀n,fv (n+1) J c=aa (sl g (aM fs)):=by
 rcases h with⟨g,rfl⟩|h
 .exact⟨g,λn=>rfl⟩
 .obtain⟨g,hg⟩:=h.exU (bK fs);exact⟨g,λn=>hg J n λ_ _ h _=>h⟩
def TV.mk(h:TV J c fs)(n:Nat):∀(i:Nat) (y:bV),J[i]?=aa y->bz c≠aa i->(ez (n+1) c J)[i]?=aa y:=by
 rcases h with⟨g,rfl⟩|h
 .intro i y hy _;exact hy
 .exact ZD h n
end
def ye(f:Nat)(g:List FC)(L:List (List aR)):Prop:=∀(b:Nat) (H:an) (PP:Nat->an->Prop),PP 0 H->
 (∀(j:Nat) (m:j<L.length) (d J:an) (c:C),PP j d->(∀i:Nat,i<d.length->J[i]?=d[i]?)->d.length<=J.length->TV J c L[j]->(∀i,bz c=aa i->d.length<=i)->∃H',Ev tab (.yield b) [.c c] J (vb ae) H'/\PP (j+1) H')->
 ∃l,Ev tab (.fn f) (.c (.yl b)::g.map λx=>G x) H (.t []) l/\PP L.length l
theorem qV(g:Tg)(ts:List cU)(u:ts.length<=1000000):ye gG [.fp [sl g (aI ts)] 0] (ts.map (·.fs)):=by
 intro b H PP d v;obtain⟨r,x,y,rfl,m⟩:=Ce (b:=b) (H:=H) g ts u PP d λj s J l=>by
  obtain⟨H',q,m⟩:=v j (by simpa using s) J J (.f (sl ts[j].tg (aM ts[j].fs))) l (λ_ _=>rfl) (agQ _) (.inl ⟨ts[j].tg,bv⟩) (λ_ h=>by cases h)
  grind
 grind
def wK(Nb:Int)(m:Nat)(t:List aR):Prop:=t≠[]/\t.length<=m/\∀p∈t,jT Nb p
def cS(ts:List (List aR))(d:Int):Prop:=∃t∈ts,ew t d
structure NT(Nb:Int)(m:Nat)(L ts:List (List aR)):Prop where
 len:ts.length<=L.length
 ok:∀t∈ts,wK Nb m t
 mem:∀d,0<=d->(cS ts d↔cS L d)
def aY(ts:List (List aR)):List (List FC):=ts.map λs=>[sl .fs (aM s)]
def pm{P:Prop}(h:P:=by simp[aI,aY,cU.row]):P:=h
def pu{P:Prop}(h:P:=by simp[aY];omega):P:=h
def fo(ts:List (List aR)):cZ 1 (aY ts):=cZ.map λ_=>rfl
structure Gc(s:T)(cl:C)(ts:List (List aR))(st:dB)(J:an):Prop where
 h0:J[0]?=E [.f .aN]
 h1:J[1]?=E [cl]
 lr:LR J cl 1 (aY ts)
 ne:cl≠.f .es
 lo:∀i,bz cl=aa i->3<i
 df:J[2]?=aa (.dH ae)
 lp:J[3]?=aa (.lp nk s [P.nat 15] tP pS st ab 2)
def Gc.three{st st':dB}(h:Gc a u L st H):Gc a u L st' (H.set 3 (.lp nk a [P.nat 15] tP pS st' ab 2)):=by
 refine⟨?_,?_,h.lr.set (λe=>by have:=h.lo 3 e;omega) _,h.ne,h.lo,?_,By (aj h.lp)⟩
 .rw[sh ap];exact h.h0
 .rw[sh ap];exact h.h1
 .rw[sh ap];exact h.df
theorem Gc.bS{s:T}{cl:C}{ts:List (List aR)}{st:dB}{J J':an}(h:Gc s cl ts st J)(b:∀(i:Nat) y,i<J.length->J[i]?=aa y->J'[i]?=aa y):Gc s cl ts st J':=
 ⟨b _ _ (aj h.h0) h.h0,b _ _ (aj h.h1) h.h1,h.lr.bS λi y hy _=>b i y (aj hy) hy,h.ne,h.lo,b _ _ (aj h.df) h.df,b _ _ (aj h.lp) h.lp⟩
def Gc.mark{st:dB}(h:Gc a u L st H)(hc:∀i,bz y=aa i->3<i)(d:∀i,bz y=aa i->bz u≠aa i)(b:∀(i:Nat) c,H[i]?=aa c->bz y≠aa i->K[i]?=aa c):Gc a u L st K:=
 ⟨b _ _ h.h0 (λe=>by have:=hc 0 e;omega),b _ _ h.h1 (λe=>by have:=hc 1 e;omega),h.lr.bS λi c hy hi=>b i c hy λe=>d i e hi,h.ne,h.lo,b _ _ h.df (λe=>by have:=hc 2 e;omega),b _ _ h.lp (λe=>by have:=hc 3 e;omega)⟩
theorem Gc.app{s:T}{cl:C}{ts:List (List aR)}{st:dB}{J:an}(h:Gc s cl ts st J)(H:ts.length<=1000)(ps:List aR) :
  ∃j m,bZ (J++[.box [.f (sl .fs (aM ps))] 0]) 1 24 (.c cl) (.c (.sl J.length 0 1 1 0 1))=aa (.c j,m)/\dj m (.ptr 1 0 0) [j]=aa (m.set 1 (.box [j] 0))/\Gc s j (ts++[ps]) st (m.set 1 (.box [j] 0)):=by
 obtain⟨q,d⟩:=aH (J++[.box ([sl .fs (aM ps)].map .f) 0]:an);have up:∀(i:Nat) y,J[i]?=aa y->q[i]?=aa y:=λi y hy=>by rw[d,AI (aj hy)];exact hy
 have x:LR q cl 1 (aY ts):=by rw[d];exact h.lr.push _
 have z:q[J.length]?=E ([sl .fs (aM ps)].map .f):=by rw[d];simp
 have h2:q.length=J.length+1:=by rw[d];simp
 have K:=aj h.lp;obtain⟨j,m,l,g,v,A⟩:=x.app (fo ts) ce (row:=[sl .fs (aM ps)]) rfl (bytes:=24) (iL pu ce) z;have F:aY ts++[[sl .fs (aM ps)]]=aY (ts++[ps]):=by simp[aY]
 rw[F]at g;have u:∀(i:Nat) y,i<=3->J[i]?=aa y->m[i]?=aa y:=λi y hi hy=>v.2 i y (up i y hy) λe=>by have:=h.lo i e;omega
 have n1:=u 1 _ ap h.h1;have B:j≠.f .es:=by
  rcases g with⟨h0,_⟩|⟨_,b,I,rfl,_⟩
  .simp[aY]at h0
  .simp
 refine⟨j,m,by rw[d]at l;exact l,by simp[dj,n1,over],?_,By (aj n1),g.set (g.cm n1) _,B,λi hi=>?_,?_,?_⟩
 .rw[sh ap];exact u 0 _ ap h.h0
 .rcases A with e|e
  .rw[e]at hi;exact h.lo i hi
  .grind
 .rw[sh ap];exact u 2 _ ap h.df
 .rw[sh ap];exact u 3 _ ap h.lp
def Dc(X:a.g 4=.c (.ptr 1 0 0)){cl:C}{ts:List (List aR)}(L:ts.length<=1000)(hm:m<=64){fs:List aR}(j:wK Nb m fs)(h:Gc a cl ts .ready K)(hT:TV K u fs)(N:∀i,bz u=aa i->3<i)(F:∀i,bz u=aa i->bz cl≠aa i) :
  ∃r H',Ev tab (.yield 3) [.c u] K r H'/\(r=vb ae/\∃B c,Gc a B c .ready H'/\((c=ts/\∀d,0<=d->¬ ew fs d)\/∃t,c=ts++[t]/\wK Nb m t/\∀d,0<=d->(ew t d↔ew fs d))):=by
 refine dm (tab:=tab) (b:=3) (args:=[.c u]) (H:=K) h.lp rfl λQ' y=>?_;refine aF (.inr rfl) ?_;simp;refine eM h.lp ?_;have M:=h.three (st':=.busy);have l:TV (K.set 3 (.lp nk a [P.nat 15] tP pS .busy ab 2)) u fs:=by
  rcases hT with h|h
  .exact .inl h
  .exact .inr (h.set (λe=>by have:=N 3 e;omega) _)
 generalize K.set 3 (.lp nk a [P.nat 15] tP pS .busy ab 2)=S at M l ⊢;obtain⟨gx,q⟩:=l.ex;have q:=q 63;obtain⟨ps,g,I⟩:=Ng gx fs j.2.2 j.1 (by have:=j.2.1;omega);obtain⟨b,hb,A⟩:=A6 .fs ps (λp hp=>(g.sm p hp).mod) (ahf.2 g.ne) (by have:=g.le;have:=j.2.1;omega);have x:=M.mark N F (l.mk 63);obtain⟨U,v⟩:=aH (ez 64 u S);rw[<-v]at x;apply ax;refine aE (aF (.inr rfl) ?_);simp[q,deep,I,<-v];apply aE;refine aF (.inr rfl) ?_;simp[A];cases b with
 |true=>
  refine bG bv ?_;obtain⟨k1,k2⟩:=hb.1 rfl;exact au (cN (y _ _ _ _ _ _ _ _ _ _ rfl x.lp ⟨rfl,cl,ts,x.three,.inl ⟨rfl,λd O Y=>yz g.sm k1 k2 d O ((g.mem d O).2 Y)⟩⟩))
 |false=>
  refine aq bv ?_;obtain⟨W,H3,z,J,Q⟩:=x.app L ps;have l1:aV U ab (.c (.ptr 1 0 0))=aa (.c cl):=by simp[aV,az,x.h1]
  refine aF (.inr rfl) ?_;simp[X,l1,-aw,z,J,-bF];exact au (cN (y _ _ _ _ _ _ _ _ _ _ rfl Q.lp ⟨rfl,W,ts++[ps],Q.three,.inr ⟨ps,rfl,⟨g.ne,by have:=g.le;have:=j.2.1;omega,g.sm⟩,g.mem⟩⟩))
theorem Rp(v:n<N)(y:N<L.length){s:aR}(g:L[n]'(by omega)=[p])(m:L[N]=[s])(J:∀d,0<=d->bE q d=(bE p d||bE s d))(d:Int)(I:0<=d):cS ((L.set n [q]).eraseIdx N) d↔cS L d:=by
 have hi:n<L.length:=ii
 have A:L=L.take n++[p] ::((L.drop (n+1)).take (N-(n+1))++[s]::L.drop (N+1)):=by
  rw[<-g,<-m]
  conv=>lhs;rw[<-ahU n L,agT hi]
  congr 2
  conv=>lhs;rw[<-ahU (N-(n+1)) (L.drop (n+1)),aiG]
  rw[show n+1+(N-(n+1))=N by omega,agT y]
 have B:(L.set n [q]).eraseIdx N=L.take n++[q] ::((L.drop (n+1)).take (N-(n+1))++L.drop (N+1)):=by
  grind
 have F:∀(a b:List (List aR)),cS (a++b) d↔cS a d\/cS b d:=λa b=>by
  unfold cS
  grind
 have H:∀(x:aR) l,cS ([x]::l) d↔bE x d=ae\/cS l d:=λx l=>by
  unfold cS;constructor
  .rintro⟨t,z,h⟩;rcases ag8.1 z with rfl|k
   .exact .inl (h x bv)
   .grind
  .rintro(h|⟨t,k,h⟩)
   .exact⟨[x],bv,λp u=>by rw[If]at u;rw[u];exact h⟩
   .grind
 grind
structure SJ(J:an)(cl:C)(ts:List (List aR)):Prop where
 h0:J[0]?=E [.f .aN]
 h1:J[1]?=E [cl]
 df:J[2]?=aa (.dH ae)
 lj:LJ J cl ts
theorem SJ.push{J:an}{cl:C}{ts:List (List aR)}(h:SJ J cl ts)(K:an):SJ (J++K) cl ts:=
 ⟨by rw[AI (aj h.h0)];exact h.h0,by rw[AI (aj h.h1)];exact h.h1,by rw[AI (aj h.df)];exact h.df,h.lj.push K⟩
theorem Rz{cl:C}(u:∀t∈L,t≠[])(h:LR H cl 1 (aY L))(m:cl≠.f .es):LJ H cl L:=by
 rcases h with⟨j,rfl|rfl⟩|⟨v,b,g,rfl,d⟩
 .have:L=[]:=by
   cases L with
   |nil=>rfl| cons a l=>simp[aY]at j
  exact .inl ⟨this,rfl⟩
 .grind
 .have s:(aY L).length=L.length:=by simp[aY]
  have q:∀l:List (List aR),(aY l).flatten.map C.f=l.map λt=>C.f (sl .fs (aM t)):=λl=>by
   induction l with
   |nil=>rfl
   |cons a l y=>
    have:aY (a::l)=[sl .fs (aM a)]::aY l:=rfl
    grind
  unfold RB at d;refine .inr ⟨b,g,L.map λt=>C.f (sl .fs (aM t)),[],by rw[s],by rw[d,q,ahe],bv,λk x m=>?_⟩;rw[aiF];exact .inl ⟨rfl,u _ (IN _)⟩
theorem SJ.join{cl:C}{ts:List (List aR)}(h:SJ H cl ts){i j:Nat}(F:i<j)(J:j<ts.length)(Q:ts.length<=1000)(hb:H[n]?=E (dg p)) :
  ∃b v l m d,aV H ab (.c (.ptr 1 0 0))=aa (.c cl)/\bO H 1 ab (.c cl) (vi i)=aa (.c (.ptr b i v))/\dj H (.ptr b i v) [.sl n 0 1 1 0 4]=aa l/\aV l ab (.c (.ptr 1 0 0))=aa (.c cl)/\Ev tab (.fn Cz) [.c cl,vi j,vi (j+1:Nat)] l (.c m) d/\dj d (.ptr 1 0 0) [m]=aa (d.set 1 (.box [m] 0))/\
   SJ (d.set 1 (.box [m] 0)) m ((ts.set i [p]).eraseIdx j):=by
 obtain⟨b,v,l,N,L,g,I,q⟩:=h.lj.st (i:=i) ap hb;have a0:l[0]?=E [.f .aN]:=by rw[q 0 (h.lj.cm h.h0)];exact h.h0
 have a1:l[1]?=E [cl]:=by rw[q 1 (h.lj.cm h.h1)];exact h.h1
 have x:l[2]?=aa (.dH ae):=by rw[q 2 (h.lj.ade h.df rfl)];exact h.df
 obtain⟨m,d,B,u,M,K,s⟩:=g.del (j:=j) (by rw[agZ];exact J) ap (by rw[agZ];omega);have b0:d[0]?=E [.f .aN]:=by rw[s 0 (g.cm a0)];exact a0
 have b1:d[1]?=E [cl]:=by rw[s 1 (g.cm a1)];exact a1
 have O:d[2]?=aa (.dH ae):=by rw[s 2 (g.ade x rfl)];exact x
 refine⟨b,v,l,m,d,by simp[aV,az,h.h1],N,L,by simp[aV,az,a1],B,by simp[dj,b1,over],?_,By (aj b1),?_,u.bS (λk cs fl A z=>⟨fl,?_⟩) λk y z hy=>?_⟩
 .grind
 .grind
 .grind
 .rw[sh (by rintro rfl;exact u.cm b1 z)];exact hy
def M4(J J':an):Prop:=∀(i:Nat) (y:bV),J[i]?=aa y->J'[i]?=aa y\/∃(cs:List C) (fl fl':Nat),4<=cs.length/\y=bV.box cs fl/\J'[i]?=aa (bV.box cs fl')
def M4.refl(J:an):M4 J J:=λ_ _ h=>.inl h
theorem M4.trans{b:an}(h:M4 H K)(g:M4 K b):M4 H b:=λi y hy=>by
 rcases h i y hy with k|⟨cs,fl,fl',hc,rfl,k⟩
 .exact g i y k
 .rcases g i _ k with k'|⟨j,l,d,m,e,k'⟩
  .grind
  .grind
theorem M4.b4(h:M4 H K):B4 H K:=λi cs fl hc hy=>by
 rcases h i _ hy with k|⟨b,d,fl',g,e,k⟩
 .grind
 .grind
theorem M4.get(h:M4 H K){i:Nat}(hy:H[i]?=aa A)(j:∀cs fl,A=bV.box cs fl->cs.length<4):K[i]?=aa A:=by
 rcases h i _ hy with k|⟨b,d,fl',g,e,k⟩
 .exact k
 .grind
def TC.m4(h:TC H u t)(n:Nat):M4 H (ez (n+1) u H):=λi y hy=>h.mk n i y hy
theorem Ek(n:Nat):∀(cs:List C) (ts:List (List aR)) (J:an),cs.length=ts.length->(∀(k:Nat) (h:k<ts.length) (b:k<cs.length),TC J cs[k] ts[k])->M4 J (cs.foldl (λH x=>ez (n+1) x H) J)
 |[],_,J,_,_=>M4.refl J| c::cs,[],_,h,_=>by simp at h
 |c::cs,t::ts,J,l,h=>by
  have g:TC J c t:=h 0 bv bv;have d:=g.m4 n;refine M4.trans d (Ek n cs ts _ (by simpa using l) λk j b=>?_);exact(h (k+1) (by simpa using j) (by simpa using b)).bS d.b4
theorem Ej(n:Nat){J:an}:∀(cs:List C) (ts:List (List aR)),cs.length=ts.length->(∀(k:Nat) (h:k<ts.length) (b:k<cs.length),TC J cs[k] ts[k])->bC (fv (n+1) J) cs=aa (aY ts).flatten
 |[],[],_,_=>rfl| [],_::_,h,_=>by simp at h
 |c::cs,[],h,_=>by simp at h
 |c::cs,t::ts,j,h=>by
  have d:TC J c t:=h 0 bv bv;have l:=Ej n (J:=J) cs ts (by simpa using j) λk g b=>h (k+1) (by simpa using g) (by simpa using b);simp only[bC,d.ex n,l];rfl
def LO(J:an)(cl:C)(ts:List (List aR)):Prop:=(ts=[]/\cl=.f .aN)\/(ts≠[]/\∃b d cs fl,cl=.sl b 0 ts.length 0 d 1/\J[b]?=aa (.dz 1 cs fl d .loc)/\cs.length=ts.length/\fl<=cs.length/\∀(k:Nat) (h:k<ts.length) (g:k<cs.length),TC J cs[k] ts[k])
section
variable{J:an}{cl:C}{ts:List (List aR)}
theorem LO.bS{J':an}(h:LO J cl ts)(m:B4 J J')(ho:∀(i:Nat) y,bz cl=aa i->J[i]?=aa y->J'[i]?=aa y):LO J' cl ts:=by
 rcases h with h|⟨d,b,g,cs,fl,rfl,hb,hl,l,j⟩
 .exact .inl h
 .exact .inr ⟨d,b,g,cs,fl,rfl,ho b _ rfl hb,hl,l,λk h h2=>(j k h h2).bS m⟩
def LO.push(h:LO J cl ts)(K:an):LO (J++K) cl ts:=h.bS (λi cs fl _ hi=>⟨fl,by rw[AI (aj hi)];exact hi⟩) λi y _ hy=>by rw[AI (aj hy)];exact hy
def LO.ex(h:LO J cl ts)(n:Nat):∃g,fv (n+2) J cl=aa (sl g (aY ts)):=by
 rcases h with⟨rfl,rfl⟩|⟨d,b,m,cs,fl,rfl,hb,hl,q,j⟩
 .exact⟨.nil,rfl⟩
 .refine⟨.fs,?_⟩;simp only[gR,hb];rw[ct ⟨trivial,trivial,ap⟩,ahR,agY ap,Ej n cs ts hl j];cases ts with
  |nil=>exact absurd rfl d| cons a l=>simp[sl,aY]
theorem LO.mk(h:LO J cl ts)(n:Nat):LO (ez (n+2) cl J) cl ts/\∀(i:Nat) (y:bV),J[i]?=aa y->bz cl≠aa i->(ez (n+2) cl J)[i]?=aa y\/∃(cs:List C) (fl fl':Nat),4<=cs.length/\y=bV.box cs fl/\(ez (n+2) cl J)[i]?=aa (bV.box cs fl'):=by
 rcases h with⟨rfl,rfl⟩|⟨u,b,q,cs,fl,rfl,hb,hl,z,v⟩
 .exact⟨.inl ⟨rfl,rfl⟩,λi y hy _=>.inl hy⟩
 .obtain⟨l,d⟩:=aH (J.set b (.dz 1 cs (Nat.max fl (0+ts.length*1)) q .loc));have s:B4 J l:=λi cs' fl' _ hi=>⟨fl',by rw[d,sh (by rintro rfl;rw[hb]at hi;cases hi)];exact hi⟩
  have g:∀(k:Nat) (h:k<ts.length) (h2:k<cs.length),TC l cs[k] ts[k]:=λk h h2=>(v k h h2).bS s;have e:ez (n+2) (.sl b 0 ts.length 0 q 1) J=cs.foldl (λH x=>ez (n+1) x H) l:=by
   simp only[jY,hb]
   grind
  have m:=Ek n cs ts l hl g;rw[e];refine⟨.inr ⟨u,b,q,cs,Nat.max fl (0+ts.length*1),rfl,m.get (by rw[d];exact By (aj hb)) (λ_ _ e=>by cases e),hl,by have:Nat.max fl (0+ts.length*1)=max fl (0+ts.length*1):=rfl;omega,λk h h2=>(g k h h2).bS m.b4⟩,λi y hy hi=>?_⟩;have j:b≠i:=by rintro rfl;exact hi rfl
  exact m i y (by rw[d,sh j];exact hy)
theorem LO.cm(h:LO J cl ts){cs:List C}(hi:J[m]?=aa (.box cs n)):bz cl≠aa m:=by
 rcases h with⟨-,rfl⟩|⟨-,b,d,cs',f,rfl,hb,-⟩
 .simp[bz]
 .intro e;cases e
  grind
theorem LO.app(h:LO J cl ts)(K:ts.length<=1000)(F:TC J u t) :
  ∃v c,bZ (J++[.box [u] 0]) 1 24 (.c cl) (.c (.sl J.length 0 1 1 0 1))=aa (.c v,c)/\LO c v (ts++[t])/\J.length<c.length/\(∀(i:Nat) y,J[i]?=aa y->bz cl≠aa i->c[i]?=aa y)/\(bz v=bz cl\/bz v=aa (J.length+1)):=by
 obtain⟨g,d⟩:=aH (J++[.box [u] 0]:an);have B:g.length=J.length+1:=by rw[d];simp
 have z:g[J.length]?=E [u]:=by rw[d];simp
 have j:dI g 1 (.c (.sl J.length 0 1 1 0 1))=aa (1,[u]):=by simp[dI,bA,dy,z]
 have q:TC g u t:=F.bS λi cs fl _ hi=>⟨fl,by rw[d,AI (aj hi)];exact hi⟩
 rw[<-d];rcases h with⟨rfl,rfl⟩|⟨I,b,m,cs,fl,rfl,hb,hl,H,x⟩
 .refine⟨.sl g.length 0 1 0 0 1,g++[.dz 1 [u] 0 0 .loc],?_,.inr ⟨bv,g.length,0,[u],0,rfl,bv,rfl,ap,λk h h2=>?_⟩,by rw[agM];omega,λi y hy _=>?_,.inr (by rw[B];rfl)⟩
  .simp only[bZ,j];rfl
  .have:k=0:=by simpa using h
   subst this;exact q.bS λi cs fl _ hi=>⟨fl,by rw[AI (aj hi)];exact hi⟩
  .grind
 .have l:g[b]?=aa (.dz 1 cs fl m .loc):=by rw[d,AI (aj hb)];exact hb
  have s:B4 g (g.set b (.dz 1 (cs++[u]) fl (m+1) .loc)):=λi cs' fl' _ hi=>⟨fl',by rw[sh (by rintro rfl;rw[l]at hi;cases hi)];exact hi⟩
  have A:B4 J g:=λi cs' fl' _ hi=>⟨fl',by rw[d,AI (aj hi)];exact hi⟩
  refine⟨.sl b 0 (ts.length+1) 0 (m+1) 1,g.set b (.dz 1 (cs++[u]) fl (m+1) .loc),?_,.inr ⟨bv,b,m+1,cs++[u],fl,bv,By (aj l),by simp[hl],ge,λk h h2=>?_⟩,by rw[agZ];omega,λi y hy hi=>?_,.inl rfl⟩
  .simp only[bZ,j,l,and_self,if_true];rw[cC ap,cC ap,ct ⟨trivial,ap,H⟩,ct (iL ap ce)]
  .rw[List.getElem_append,List.getElem_append];by_cases e:k<ts.length
   .rw[dif_pos ap,dif_pos e];exact((x k e ap).bS A).bS s
   .rw[dif_neg ap,dif_neg e];simp only[List.getElem_singleton];exact q.bS s
  .rw[sh (by rintro rfl;exact hi rfl),d,AI (aj hy)];exact hy
end
variable{Nb:Int}
def iq(a b:List (List aR))(d:Int):cS (a++b) d↔cS a d\/cS b d:=by
 unfold cS;constructor
 .rintro⟨t,g,h⟩;rcases agP.1 g with k|k
  .exact .inl ⟨t,k,h⟩
  .exact .inr ⟨t,k,h⟩
 .rintro(⟨t,k,h⟩|⟨t,k,h⟩)
  .exact⟨t,ahu _ k,h⟩
  .exact⟨t,ail _ k,h⟩
def lD(t:List aR)(d:Int):cS [t] d↔ew t d:=⟨λ⟨x,b,h⟩=>by rw[If]at b;rwa[b]at h,λh=>⟨t,bv,h⟩⟩
def SU(h:∀t∈L,wK Nb m t)(g:1<=m)(l:jT Nb q):∀t∈(L.set n [q]).eraseIdx N,wK Nb m t:=λt s=>by
 rcases aiK (List.mem_of_mem_eraseIdx s)with d|rfl
 .exact h t d
 .exact⟨bv,by simpa using g,λp b=>by rw[If]at b;rw[b];exact l⟩
def eO(ts:List (List aR))(g:Tg):V:=.t [.a [.f (sl g (aY ts))],vi 0]
def nz(ts:List (List aR))(g:Tg):V:=if ts.length<=64 then eO ts g else .t [.a [.f .aN],vi 2]
def Nc{us:List (List aR)}(O:LO H y us)(W:H[n]?=E [u])(Y:TC H u t){F:Nat} :
  LO (ez 64 (.cl F [.ptr n 0 0]) (ez 64 y H)) y us/\B4 H (ez 64 (.cl F [.ptr n 0 0]) (ez 64 y H))/\(∀(i:Nat) g,H[i]?=aa g->bz y≠aa i->i≠n->(∀cs fl,g=bV.box cs fl->cs.length<4)->(ez 64 (.cl F [.ptr n 0 0]) (ez 64 y H))[i]?=aa g)/\(ez 64 (.cl F [.ptr n 0 0]) (ez 64 y H))[n]?=aa (.box [u] 1):=by
 obtain⟨N,L⟩:=O.mk 62;obtain⟨z,I⟩:=aH (ez (62+2) y H);rw[<-I]at N L;have J:B4 H z:=λi cs fl q d=>by
  rcases L i _ d (O.cm d)with k|⟨v,B,A,_,e,k⟩
  .exact⟨fl,k⟩
  .cases e;exact⟨A,k⟩
 have l:z[n]?=E [u]:=by
  rcases L n _ W (O.cm W)with k|⟨v,B,A,q,e,k⟩
  .exact k
  .cases e;simp at q
 obtain⟨K,j⟩:=aH (z.set n (.box [u] 1));have x:B4 z K:=λi cs fl q d=>⟨fl,by rw[j,sh (by rintro rfl;rw[l]at d;cases d;simp at q)];exact d⟩
 have Q:TC K u t:=(Y.bS J).bS x;have e:ez 64 (.cl F [.ptr n 0 0]) (ez 64 y H)=ez (61+1) u K:=by
  show ez (63+1) (.cl F [.ptr n 0 0]) (ez (62+2) y H)=_;rw[<-I,BI];show ez (62+1) (.ptr n 0 0) z=_;rw[wh,l,j];rfl
 have m:=Q.m4 61;rw[e];have s:LO K y us:=N.bS x λi g hi d=>by rw[j,sh (by rintro rfl;exact N.cm l hi)];exact d
 refine⟨s.bS m.b4 λi g hi d=>?_,λi cs fl q d=>?_,λi g d hi S X=>?_,m.get (by rw[j];exact By (aj l)) (λcs fl e=>by cases e;simp)⟩
 .rcases m i g d with k|⟨v,B,A,_,M,k⟩
  .exact k
  .subst M;exact absurd hi (s.cm d)
 .obtain⟨B,U⟩:=J i cs fl q d;obtain⟨A,a⟩:=x i cs B q U;exact m.b4 i cs A q a
 .have U:z[i]?=aa g:=by
   rcases L i _ d hi with k|⟨v,B,A,q,M,k⟩
   .exact k
   .have:=X _ _ M;omega
  exact m.get (by rw[j,sh (Ne.symm S)];exact U) X
def sX(f:Nat)(i7:List FC)(L:List (List aR))(hI:ye f i7 L)(hm1:1<=m)(hm:m<=4)(hL:∀s∈L,wK Nb m s)(hLl:L.length<=1000) :
  ∃ts g,NT Nb m L ts/\bf tab nk [G (.fn f i7)]=Eq (nz ts g):=by
 obtain⟨r,⟨ts,g,hts,rfl⟩,h⟩:∃r,(∃ts g,NT Nb m L ts/\r=nz ts g)/\bf tab nk [G (.fn f i7)] r:=by
  refine iX acA rfl λQ hQ=>?_;apply ai;simp;apply ai;simp;apply aU;simp;apply ax;have fin:∀(t:T) (J:an) (cl:C) (ts:List (List aR)),t.g 2=.c (.ptr 0 0 0)->t.g 4=.c (.ptr 1 0 0)->SJ J cl ts->NT Nb m L ts->WP tab nk ab [.code xV] ⟨t,[.dR 2],J⟩ Q:=by
   intro t J cl ts B Y N hN;have hnl:=hN.len;obtain⟨M,hM⟩:=aH (ts.length);apply ai;simp;obtain⟨l,j_⟩:=aH (J.length);obtain⟨J1,d_⟩:=aH (J++[bV.box [.f .aN] 0]);have h_:SJ J1 cl ts:=by rw[d_];exact N.push _
   have c1:J1[l]?=E [.f .aN]:=by rw[d_,j_];simp
   have l1:aV J1 ab (.c (.ptr 1 0 0))=aa (.c cl):=by simp[aV,az,h_.h1]
   have ll:=h_.lj.len;have lJ1:J1.length=l+1:=by rw[d_];simp[j_]
   have q_:∀i,bz cl=aa i->i<l+1:=λi hi=>by
    rcases h_.lj with⟨-,rfl⟩|⟨b,ep,cs,rest,rfl,hb,-,-⟩
    .cases hi
    .cases hi;have:=aj hb;omega
   have hb2:2<l:=by have:=aj N.df;omega
   rw[<-hM]at ll;rw[<-d_,<-j_];apply aU;simp[Y,l1,ll,-aw];refine bW M (λk t J=>t.g 2=.c (.ptr 0 0 0)/\t.g 11=.c (.ptr l 0 0)/\t.g 98=.c cl/\∃z us,SJ J cl ts/\J[l]?=E [z]/\LO J z us/\(∀i,bz z=aa i->l+1<=i)/\us.length<=k/\(∀t∈us,wK Nb m t)/\∀d,0<=d->(cS us d↔cS (ts.take k) d)) ap ce ce bv bv
    ⟨by simp[B],bv,bv,.f .aN,[],h_,c1,.inl ⟨rfl,rfl⟩,(λi h=>by cases h),bv,bv,λd _=>by simp[cS]⟩ ?_ ?_
   .rintro k t J' hk ⟨B,g_,o_,z,us,N,O,j5,A,afu,S,i6⟩ ha hb next
    have v_:k<ts.length:=ii
    obtain⟨bk,ek,ck,-,xk,lk,y8⟩:=N.lj.at v_;have m9:ts.take (k+1)=ts.take k++[ts[k]]:=by rw[agV,BY v_];rfl
    have r7:=hN.ok _ (IN v_);obtain⟨K,htt⟩:=aH (ts[k]);rw[<-htt]at y8 m9 r7;apply ax;apply ai;simp[ha,o_,xk,lk,-aw];obtain⟨b_,p_⟩:=aH (J'.length);obtain⟨U,v⟩:=aH (J'++[bV.box [ck] 0]);have W:SJ U cl ts:=by rw[v];exact N.push _
    have e_:LO U z us:=by rw[v];exact j5.push _
    have r_:U[l]?=E [z]:=by rw[v,AI (aj O)];exact O
    have s7:U[b_]?=E [ck]:=by rw[v,p_];simp
    have j9:TC U ck K:=y8.bS λi cs fl _ hi=>⟨fl,by rw[v,AI (aj hi)];exact hi⟩
    have afo:l≠b_:=by have:=aj O;omega
    rw[<-v,<-p_];obtain⟨go,u_⟩:=e_.ex 62;have hfp:fv 63 U (.ptr b_ 0 0)=aa (.fp [sl .fs (aM K)] 0):=by
     have:=j9.ex 61;simp only[Q5,s7,bC,this];rfl
    have lus:us.length<=1000:=ii
    have i9:=QM go .fs us ap (λs hs=>⟨by have:=(S s hs).2.1;omega,λp hp=>by have:=((S s hs).2.2 p hp).head;have:=((S s hs).2.2 p hp).bH;omega⟩) K;obtain⟨dv,k_⟩:=aH (us.any λs=>jo s K:Bool);rw[<-k_]at i9;have i9:bf tab yc [G (sl go (aY us)),G (.fn AW [.fp [sl .fs (aM K)] 0])]=Eq (vb dv):=i9;obtain⟨n1,n2,n3,n4⟩:=Nc (F:=AW) e_ s7 j9;obtain⟨J3,I⟩:=aH (ez 64 (.cl AW [.ptr b_ 0 0]) (ez 64 z U));rw[<-I]at n1 n2 n3 n4;have m0:0≠b_:=by have:=aj N.h0;omega
    have m1:1≠b_:=by have:=aj N.h1;omega
    have m2:2≠b_:=by have:=aj N.df;omega
    have x_:bz z≠aa 2:=λe=>by have:=A 2 e;omega
    have f_:SJ J3 cl ts:=⟨n3 0 _ W.h0 (e_.cm W.h0) m0 (λcs fl e=>by cases e;simp),n3 1 _ W.h1 (e_.cm W.h1) m1 (λcs fl e=>by cases e;simp),n3 2 _ W.df x_ m2 (λcs fl e=>by cases e),W.lj.bS n2 λi y hi u=>n3 i y u (λe=>by have:=A i e;have:=q_ i hi;omega) (by rintro rfl;exact W.lj.cm s7 hi) λcs fl e=>by subst e;exact absurd hi (W.lj.cm u)⟩
    have X:J3[l]?=E [z]:=n3 l _ r_ (e_.cm r_) afo (λcs fl e=>by cases e;simp);have x9:aV U ab (.c (.ptr l 0 0))=aa (.c z):=by simp[aV,az,r_]
    apply ai;simp[g_,x9,-aw,u_,deep,bC,hfp,i9,-Q5,<-I];cases dv with
    |true=>
     refine bG bv ?_;refine au (next _ _ ⟨by simp[B],by simp[g_],by simp[o_],z,us,f_,X,n1,A,ap,S,λd hd=>?_⟩ (by simp[ha]) (by simp[hb]));rw[m9,iq,lD,i6 d hd];refine⟨.inl,λh=>h.elim id λh=>(i6 d hd).1 ?_⟩;obtain⟨s,hs,hes⟩:=List.any_eq_true.1 k_.symm;exact⟨s,hs,(yL hes d).2 h⟩
    |false=>
     refine aq bv ?_;have n8:aV J3 ab (.c (.ptr l 0 0))=aa (.c z):=by simp[aV,az,X]
     have afy:aV J3 ab (.c (.ptr b_ 0 0))=aa (.c ck):=by simp[aV,az,n4]
     have y_:=j9.bS n2;obtain⟨c3,H3,z7,i8,agd,j6,hc3⟩:=n1.app ap y_;have age:l<J3.length:=aj X;have n9:=j6 l _ X (n1.cm X);have s11:dj H3 (.ptr l 0 0) [c3]=aa (H3.set l (.box [c3] 0)):=by simp[dj,n9,over]
     apply ba;simp[g_,n8,afy,-aw,z7,s11,-bF];have hB3:B4 J3 (H3.set l (.box [c3] 0)):=λi cs fl hc u=>⟨fl,by rw[sh (by rintro rfl;rw[X]at u;cases u;simp at hc)];exact j6 i _ u (n1.cm u)⟩
     refine au (next _ _ ⟨by simp[B],by simp[g_],by simp[o_],c3,us++[K],⟨?_,?_,?_,?_⟩,By (aj n9),?_,λi hi=>?_,by rw[agM,aiv];omega,λx hx=>?_,λd hd=>?_⟩ (by simp[ha]) (by simp[hb]))
     .rw[sh ap];exact j6 0 _ f_.h0 (n1.cm f_.h0)
     .rw[sh ap];exact j6 1 _ f_.h1 (n1.cm f_.h1)
     .rw[sh ap];exact j6 2 _ f_.df x_
     .refine f_.lj.bS hB3 λi y hi u=>?_;have:=q_ i hi;have hne:l≠i:=by rintro rfl;exact f_.lj.cm X hi
      rw[sh hne];exact j6 i y u λe=>by have:=A i e;omega
     .refine i8.bS (λi cs fl hc u=>⟨fl,by rw[sh (by rintro rfl;rw[n9]at u;cases u;simp at hc)];exact u⟩) λi y hi u=>?_;rw[sh (by rintro rfl;exact i8.cm n9 hi)];exact u
     .rcases hc3 with e|e
      .rw[e]at hi;exact A i hi
      .rw[e]at hi;cases hi;omega
     .rcases agP.1 hx with h|h
      .exact S x h
      .rw[If]at h;rw[h];exact r7
     .rw[m9,iq,iq,i6 d hd]
   .rintro t J' ⟨B,g_,o_,z,us,N,O,j5,A,afu,S,i6⟩ - -;rw[hM,agW]at i6;have lus:us.length<=1000:=ii
    obtain⟨go,u_⟩:=j5.ex 62;have w_:iH (us.map λs=>⟨.fs,s⟩)=decide (us.length<=64):=by
     unfold iH;have h1:((us.map λs=>(⟨.fs,s⟩:cU)).all iZ)=ae:=by
      simp only[ag9];intro x hx;obtain⟨s,hs,rfl⟩:=agX.1 hx;obtain⟨h1,h2,h3⟩:=S s hs;have:=ahf.2 h1;simp only[iZ,IS,decide_eq_true_eq,ag9];exact⟨⟨ap,ap⟩,λp hp=>(h3 p hp).ok⟩
     rw[h1,Bool.and_true,agS];exact decide_eq_decide.2 ap
    have m_:=(sU go (us.map λs=>⟨.fs,s⟩) ge (λx hx=>by
     obtain⟨s,hs,rfl⟩:=agX.1 hx;exact⟨by have:=(S s hs).2.1;show s.length<=_;omega,λp hp=>jL ((S s hs).2.2 p hp).ok⟩)).eq
    rw[w_]at m_;have VF:aI (us.map λs=>⟨.fs,s⟩)=aY us:=pm
    rw[VF]at m_;obtain⟨n1,n2⟩:=j5.mk 62;have x9:aV J' (aa 1) (.c (.ptr l 0 0))=aa (.a [z]):=by simp[aV,az,O,aX]
    apply aU;simp[g_,x9,-aw,u_,deep,bC,m_];obtain⟨U,v⟩:=aH (ez 64 z J');have n1:LO U z us:=by rw[v];exact n1
    have n2:∀(i:Nat) (y:bV),J'[i]?=aa y->bz z≠aa i->(∀cs fl,y=bV.box cs fl->cs.length<4)->U[i]?=aa y:=λi y u hi hn=>by
     rw[v];rcases n2 i y u hi with k|⟨cs,f1,f2,hc,e,k⟩
     .exact k
     .have:=hn _ _ e;omega
    rw[<-v];have e0:=n2 0 _ N.h0 (j5.cm N.h0) (λcs fl e=>by cases e;simp);have e2:=n2 2 _ N.df (λe=>by have:=A 2 e;omega) (λcs fl e=>by cases e);have X:=n2 l _ O (j5.cm O) (λcs fl e=>by cases e;simp);by_cases y6:us.length<=64
    case neg=>
     refine aq ge ?_;have s0:dj U (.ptr 0 0 0) [.f .aN]=aa (U.set 0 (.box [.f .aN] 0)):=by simp[dj,e0,over]
     obtain⟨J3,I⟩:=aH (U.set 0 (.box [.f .aN] 0));have f0:J3[0]?=E [.f .aN]:=by rw[I];exact By (aj e0)
     have f2:J3[2]?=aa (.dH ae):=by rw[I,sh ap];exact e2
     apply ai;simp[B,s0,-bF];rw[<-I];refine av (hQ _ _ _ ⟨us,.nil,⟨ap,S,λd hd=>by rw[i6 d hd];exact hN.mem d hd⟩,rfl⟩ (.inr ⟨2,rfl,f2,.t [.a [.f .aN],vi 2],?_,?_⟩))
     .have s_:(J3.set 2 (.dH ag))[0]?=E [.f .aN]:=by rw[sh ap];exact f0
      simp[Km.results,cB,bC,B,s_,aX]
     .simp[jd,dq,bC,deep,nz,y6]
    refine aC ge (aQ ?_);have n8:aV U (aa 1) (.c (.ptr l 0 0))=aa (.a [z]):=by simp[aV,az,X,aX]
    have s0:dj U (.ptr 0 0 0) [z]=aa (U.set 0 (.box [z] 0)):=by simp[dj,e0,over]
    obtain⟨J3,I⟩:=aH (U.set 0 (.box [z] 0));have f0:J3[0]?=E [z]:=by rw[I];exact By (aj e0)
    have f2:J3[2]?=aa (.dH ae):=by rw[I,sh ap];exact e2
    have i8:LO J3 z us:=n1.bS (λi cs fl hc u=>⟨fl,by rw[I,sh (by rintro rfl;rw[e0]at u;cases u;simp at hc)];exact u⟩) λi y hi u=>by rw[I,sh (by rintro rfl;exact n1.cm e0 hi)];exact u
    have y7:LO (J3.set 2 (.dH ag)) z us:=i8.bS (λi cs fl hc u=>⟨fl,by rw[sh (by rintro rfl;rw[f2]at u;cases u)];exact u⟩) λi y hi u=>by rw[sh (by rintro rfl;have:=A 2 hi;omega)];exact u
    obtain⟨gz,hgz⟩:=y7.ex 62;apply ai;simp[B,g_,n8,-aw,s0,-bF];rw[<-I];refine av (hQ _ _ _ ⟨us,gz,⟨ap,S,λd hd=>by rw[i6 d hd];exact hN.mem d hd⟩,rfl⟩ (.inr ⟨2,rfl,f2,.t [.a [z],vi 0],?_,?_⟩))
    .have s_:(J3.set 2 (.dH ag))[0]?=E [z]:=by rw[sh ap];exact f0
     simp[Km.results,cB,bC,B,s_,aX]
    .simp[jd,dq,bC,deep,hgz,eO,nz,y6]
  have x8:∀(t:T) (J:an) (cl:C) (ts:List (List aR)),t.g 2=.c (.ptr 0 0 0)->t.g 4=.c (.ptr 1 0 0)->SJ J cl ts->NT Nb m L ts->WP tab nk ab [.code DM] ⟨t,[.dR 2],J⟩ Q:=by
   intro t J cl ts B Y N hN;apply aU;simp;apply ax;refine di (λn s=>∃(t:T) (J:an) (cl:C) (ts:List (List aR)) (jn:Bool),s=⟨t,[.dR 2],J⟩/\n=(if jn then ts.length+1 else 0)/\t.g 2=.c (.ptr 0 0 0)/\t.g 4=.c (.ptr 1 0 0)/\t.g 6=vb jn/\SJ J cl ts/\NT Nb m L ts) (ts.length+1)
    ⟨_,J,cl,ts,ae,rfl,rfl,by simp[B],by simp[Y],bv,N,hN⟩ ?_
   clear N hN B Y;rintro n s ⟨t,J,cl,ts,jn,rfl,rfl,B,Y,g6,N,hN⟩ ih;apply aU;simp[g6];cases jn with
   |false=>
    refine aC bv ?_;exact bQ rfl (fin _ J cl ts (by simp[B]) (by simp[Y]) N hN)
   |true=>
    refine aq bv (aQ ?_);refine ax (lF ?_);apply ai;simp;refine aE (qz ?_);have hnl:=hN.len;obtain⟨M,hM⟩:=aH (ts.length);have l1:aV J ab (.c (.ptr 1 0 0))=aa (.c cl):=by simp[aV,az,N.h1]
    have ll:=N.lj.len;rw[<-hM]at ll;apply ai;simp[Y,l1,ll,-aw];refine bW M (λi t J'=>J'=J/\t.g 2=.c (.ptr 0 0 0)/\t.g 4=.c (.ptr 1 0 0)/\t.g 6=vb ag) ap ce ce bv bv ⟨rfl,by simp[B],by simp[Y],bv⟩ ?_ ?_
    .rintro i t J' hi ⟨rfl,B,Y,g6⟩ ha hb next
     apply ax;apply ai;simp[ha];apply ai;simp[a8 (n:=(i:Int)+1)];apply ax;refine di (λn s=>∃(j:Nat) (t':T),s=⟨t',[.dR 2],J'⟩/\n=M-j/\i<j/\j<=M/\t'.g 2=.c (.ptr 0 0 0)/\t'.g 4=.c (.ptr 1 0 0)/\t'.g 6=vb ag/\t'.g 7=vi i/\t'.g 8=vi j/\t'.g 27=t.g 27/\t'.g 28=t.g 28) (M-(i+1))
      ⟨i+1,_,rfl,rfl,ap,ap,by simp[B],by simp[Y],by simp[g6],bv,bv,bv,bv⟩ ?_
     rintro n s ⟨j,t',rfl,rfl,z_,hjM,j7,H,n_,i_,d9,c9,c_⟩ ih2;have hil:i<ts.length:=ii
     obtain⟨bi,ei,ci,-,xi,li,t8⟩:=N.lj.at hil;have afA:=t8.len;apply aU;have l_:∀K:T,K.g 2=.c (.ptr 0 0 0)->K.g 4=.c (.ptr 1 0 0)->K.g 6=vb ag->K.g 27=t.g 27->K.g 28=t.g 28->WP tab nk ab [.inBlock 5,.code (oV 28 97),.inLoop (gQ 4 28 27 29 97 DP),.inBlock 4,.inScope DO,.inBlock 3,.inLoop DN,.inBlock 2,.code xV] ⟨K,[.dR 2],J'⟩ Q:=by
      intro K B Y g6 c9 c_;exact au (next _ _ ⟨rfl,by simp[B],by simp[Y],by simp[g6]⟩ (by rw[c_,ha]) (by rw[c9,hb]))
     have skip:∀K:T,K.g 2=.c (.ptr 0 0 0)->K.g 4=.c (.ptr 1 0 0)->K.g 6=vb ag->K.g 7=vi i->K.g 8=vi j->K.g 27=t.g 27->K.g 28=t.g 28->j<M->WP tab nk ab [.code Pa,.inLoop O_,.inBlock 6,.inBlock 5,.code (oV 28 97),.inLoop (gQ 4 28 27 29 97 DP),.inBlock 4,.inScope DO,.inBlock 3,.inLoop DN,.inBlock 2,.code xV] ⟨K,[.dR 2],J'⟩ Q:=by
      intro K B Y g6 g7 g8 c9 c_ hlt;apply ba;simp[g8,a8 (n:=(j:Int)+1)];exact ih2 (M-(j+1)) _ ap ⟨j+1,_,rfl,rfl,ap,ap,by simp[B],by simp[Y],by simp[g6],by simp[g7],bv,by simp[c9],by simp[c_]⟩
     by_cases hj:j<M
     .have agz:(decide ((ts[i].length:Int)=1))=decide (ts[i].length=1):=by
       apply decide_eq_decide.2;omega
      simp[H,i_,d9,l1,ll,hj,xi,li,afA,-aw];by_cases h1:ts[i].length=1
      .obtain⟨p,hp⟩:∃p,ts[i]=[p]:=List.length_eq_one_iff.1 h1;rw[hp]at t8;obtain⟨qi,yi,zi⟩:=t8.one;have p9:j<ts.length:=ii
       obtain⟨bj,ej,cj,-,xj,lj,t_⟩:=N.lj.at p9;have r9:=t_.len;refine aq (by simp[h1]) (aQ ?_);apply aE;apply ax;apply aU;by_cases h2:ts[j].length=1
       .obtain⟨p',x6⟩:∃p',ts[j]=[p']:=List.length_eq_one_iff.1 h2;rw[x6]at t_;obtain⟨qj,yj,zj⟩:=t_.one;have si:jT Nb p:=(hN.ok _ (IN hil)).2.2 p (by rw[hp];simp);have sj:jT Nb p':=(hN.ok _ (IN p9)).2.2 p' (by rw[x6];simp);have pi1:=(bM si.ok).2.2.1;have pj1:=(bM sj.ok).2.2.1;have pi2:=si.le;have pj2:=sj.le;have r6:=yI p p' pi1 ap pj1 ap;obtain⟨dv,k_⟩:=aH ((decide (p.aO % p'.aO=0)||decide (p'.aO % p.aO=0)):Bool);rw[<-k_]at r6;simp[H,i_,d9,l1,xi,li,xj,lj,r9,h2,yi,zi,yj,zj,-aw,nv,ny,<-dO,r6];cases dv with
        |false=>
         refine aq bv ?_;refine bQ rfl ?_;exact skip _ (by simp[j7]) (by simp[H]) (by simp[n_]) (by simp[i_]) (by simp[d9]) (by simp[c9]) (by simp[c_]) hj
        |true=>
         have hd:p.aO % p'.aO=0\/p'.aO % p.aO=0:=by simpa using k_.symm
         have hR:∃R:Int,0<R/\R ∣ 27720/\R<=Nb/\p.aO ∣ R/\p'.aO ∣ R:=by
          rcases hd with h|h
          .exact⟨p.aO,ap,si.aO,si.bd,ah3 _,ah9 h⟩
          .exact⟨p'.aO,ap,sj.aO,sj.bd,ah9 h,ah3 _⟩
         obtain⟨R,R0,R1,R2,Ra,Rb⟩:=hR;obtain⟨q,c1,c2,c3,c4,hor⟩:=Vy p p' si sj R0 R1 Ra Rb;have sq:jT Nb q:=⟨c1,by have:=si.fr;have:=sj.fr;omega,ahr c3 R1,ahx (ahq R0 c3) R2⟩
         simp only[<-dO]at hor;have hpc:(dg q).length=4:=rfl;obtain⟨J1,d_⟩:=aH (J'++[bV.box (dg q) 0]);have b1:J1[J'.length]?=E (dg q):=by rw[d_];simp
         have l9:aV J1 (aa 4) (.c (.ptr J'.length 0 0))=aa (.a (dg q)):=by simp[aV,az,b1,aX,dg]
         refine bG bv ?_;apply ai;simp[H,i_,d9,l1,xi,li,xj,lj,yi,zi,yj,zj,-aw,nv,ny,<-dO,hor,hpc];rw[<-d_];apply ai;simp;refine aq bv ?_;have h_:SJ J1 cl ts:=by rw[d_];exact N.push _
         obtain⟨U,v⟩:=aH (J1++[bV.box (dg q) 0]);have W:SJ U cl ts:=by rw[v];exact h_.push _
         have b2:U[J1.length]?=E (dg q):=by rw[v];simp
         obtain⟨bb,ee,J3,c2,J4,m1,m2,m3,m4,m5,m6,hS4⟩:=W.join z_ p9 ap b2;have l1a:aV J1 ab (.c (.ptr 1 0 0))=aa (.c cl):=by simp[aV,az,h_.h1]
         apply ai;simp[H,i_,l1a,l9,hpc,-aw,<-v,m2,m3,-bF];have ejj:((j+1:Nat):Int)=(j:Int)+1:=ii
         rw[ejj]at m5;apply ai;simp[H,d9,m4,-aw,a8 (n:=(j:Int)+1),m5.eq,m6,-bF];apply ai;simp;have hlen:((ts.set i [q]).eraseIdx j).length=ts.length-1:=by rw[aiM,ct (by rw[agZ];omega),agZ]
         refine bQ rfl (zc (au (ih (((ts.set i [q]).eraseIdx j).length+1) _ ge ⟨_,_,c2,(ts.set i [q]).eraseIdx j,ae,rfl,bv,by simp[j7],by simp[H],bv,hS4,⟨ap,SU hN.ok hm1 sq,λd z8=>?_⟩⟩)));rw[Rp z_ p9 hp x6 c4 d z8];exact hN.mem d z8
       .simp[H,d9,l1,xj,lj,r9,show¬ (ts[j].length:Int)=1 by omega,-aw];refine aq bv ?_;refine bQ rfl ?_;exact skip _ (by simp[j7]) (by simp[H]) (by simp[n_]) (by simp[i_]) (by simp[d9]) (by simp[c9]) (by simp[c_]) hj
      .refine aC ge ?_;refine bQ rfl ?_;exact l_ _ (by simp[j7]) (by simp[H]) (by simp[n_]) (by simp[c9]) (by simp[c_])
     .simp[H,d9,l1,ll,hj,-aw];refine aC bv ?_;refine bQ rfl ?_;exact l_ _ (by simp[j7]) (by simp[H]) (by simp[n_]) (by simp[c9]) (by simp[c_])
    .rintro t J' ⟨rfl,B,Y,g6⟩ - -;refine zc (au (ih 0 _ bv ⟨_,J',cl,ts,ag,rfl,rfl,by simp[B],by simp[Y],by simp[g6],N,hN⟩))
  suffices go:∀s:T,s.g 2=.c (.ptr 0 0 0)->s.g 4=.c (.ptr 1 0 0)->s.g 14=G (.fn f i7)->WP tab nk ab [.code Tj,.inBlock 0,.code DM] ⟨s,[],[.box [.f .aN] 0,.box [.f .aN] 0]⟩ Q by exact go _ bv bv bv
  intro s B Y g14;obtain⟨HR,j8⟩:=aH ([.box [.f .aN] 0,.box [.f .aN] 0,.dH ae,.lp nk s [P.nat 15] tP pS .ready ab 2]:an);obtain⟨H2,he,cl,ts,hq,a_⟩:=hI 3 HR (λj J=>∃cl ts,Gc s cl ts .ready J/\NT Nb m (L.take j) ts)
   ⟨.f .aN,[],⟨by rw[j8];rfl,by rw[j8];rfl,LR.nil _ _,(λh=>by cases h),(λi h=>by cases h),by rw[j8];rfl,by rw[j8];rfl⟩,⟨bv,bv,λd _=>by simp[cS]⟩⟩
   (λj hj J0 J c ⟨cl,ts,hq,a_⟩ hk hlen hT hc=>by
    have m9:L.take (j+1)=L.take j++[L[j]]:=by rw[agV,BY hj];rfl
    have hq':Gc s cl ts .ready J:=hq.bS λi y hi u=>by rw[hk i hi];exact u
    have l3:=aj hq.lp;have afm:=a_.len;rw[ahl]at afm;obtain⟨r,H',hev,rfl,cl',ts',hq2,u9⟩:=Dc Y ap (show m<=64 by omega) (hL _ (IN hj)) hq' hT (λi hi=>by have:=hc i hi;omega) (λi hi hi'=>by have:=hc i hi;have:=hq.lr.lt hi';omega);refine⟨H',hev,cl',ts',hq2,?_⟩;rw[m9];have hl2:(L.take j++[L[j]]).length=min j L.length+1:=by rw[agM,ahl];rfl
    rcases u9 with⟨rfl,hno⟩|⟨t,rfl,ht,afn⟩
    .refine⟨ap,a_.ok,λd hd=>?_⟩;rw[iq,lD,a_.mem d hd];exact⟨.inl,λh=>h.elim id λh=>absurd h (hno d hd)⟩
    .refine⟨by rw[agM,aiv];omega,λx hx=>?_,λd hd=>?_⟩
     .rcases agP.1 hx with h|h
      .exact a_.ok x h
      .rw[If]at h;rw[h];exact ht
     .rw[iq,iq,lD,lD,a_.mem d hd,afn d hd])
  rw[agW]at a_;rw[j8]at he;refine dC (g:=f) (by rw[mF,g14];simp[cr]) he ?_;refine dX hq.lp ce (au ?_);have h3:=hq.three (st':=.exhausted);exact x8 s _ cl ts B Y ⟨h3.h0,h3.h1,h3.df,Rz (λt ht=>(a_.ok t ht).1) h3.lr h3.ne⟩ a_
 exact⟨ts,g,hts,h.eq⟩
def rB(f:Nat)(b:List FC)(L:List (List aR))(l:ye f b L)(d:1<=m)(v:m<=4)(q:∀s∈L,wK Nb m s)(u:L.length<=64) :
  ∃ts g,NT Nb m L ts/\bf tab nk [G (.fn f b)]=Eq (eO ts g):=by
 obtain⟨ts,g,j,h⟩:=sX f b L l d v q ap;rw[nz,ct (by have:=j.len;omega)]at h;exact⟨ts,g,j,h⟩
variable{Nb Mb:Int}
def eL{tab:TB}{s:St}{Q:Option aD->St->Prop}(h:WP tab m U (.code f::.inLoop f::B) s Q):WP tab m U (.code (.loop f)::B) s Q:=jX h λ_ _ _=>rfl
def ZE(h:LR H u n S)(m:cZ n S){j:Nat}(g:j<S.length){row:List FC}(c:row.length=n) :
  ∃b d J',bz u=aa b/\bO H n ab (.c u) (vi j)=aa (.c (.ptr b (j*n) d))/\dj H (.ptr b (j*n) d) (row.map .f)=aa J'/\LR J' u n (S.set j row)/\J'.length=H.length/\∀i:Nat,i≠b->i<H.length->J'[i]?=H[i]?:=by
 rcases h with⟨rfl,_⟩|⟨s,b,d,rfl,l⟩
 .simp at g
 .obtain⟨J',v,x,y,z⟩:=l.str (row:=row) m g c;refine⟨b,d,J',rfl,l.at g,v,.inr ⟨λe=>?_,b,d,bv,x⟩,z,λi hi q=>y.2 i hi q⟩;have:=congrArg List.length e;rw[agZ]at this;rw[this]at g;simp at g
def Fu(ps:List aR)(j:Nat)(q:aR):(aM ps).set j q.row=aM (ps.set j q):=by simp[aM,List.map_set]
def E5(g:Tg)(ps:List aR)(e:∀p∈ps,jT Nb p)(w:0<ps.length)(hl:ps.length<=64)(f:aR)(a:jT Mb f) :
  ∃q g',jT 27720 q/\(∀d,0<=d->bE q d=(bE ps[0] d&&!bE f d))/\bf tab Vt [G (sl g (aM ps)),.a (f.row.map .f)]=Eq (.t [G (sl g' (aM (ps.set 0 q))),vb ae]):=by
 have y:=e _ (IN w);obtain⟨q,c1,c2,t,c4,m⟩:=Qa ps[0] f y a (R:=27720) ce (ah3 _) y.aO a.aO;have sq:jT 27720 q:=⟨c1,by have:=y.fr;have:=a.fr;omega,t,ahq ce t⟩
 obtain⟨r,⟨g',rfl⟩,h⟩:∃r,(∃g',r=.t [G (sl g' (aM (ps.set 0 q))),vb ae])/\bf tab Vt [G (sl g (aM ps)),.a (f.row.map .f)] r:=by
  refine dE rfl rfl λQ hQ=>?_;have l:∀p,(dg p).length=4:=λ_=>rfl;have n:∀p,List.take 4 (dg p)=dg p:=λ_=>rfl;have L:=λH:an=>bu (H:=H) (g:=g) (rows:=aM ps) (sz:=4) (k:=.i64) (i:=(0:Int)) ap ge;have s:=λH:an=>cf (H:=H) (bK ps) (cH w);obtain⟨u,hu⟩:=aH (ps[0]);rw[<-hu]at s m;simp only[<-dO]at s m;rw[Nat.zero_mul]at s;simp at L;have M:∀H:an,bA H (.f (sl g (aM ps)))=aa ps.length:=λH=>by simp
  obtain⟨O,A⟩:=aH ([.box (dg f) 0]:an);have d0:∀J:an,aV (O++J) (aa 4) (.c (.ptr 0 0 0))=aa (.a (dg f)):=λJ=>by rw[A];simp[aV,az,aX,l,n]
  obtain⟨z,v⟩:=aH (O++[.box (dg u) 0]:an);have d1:aV z (aa 4) (.c (.ptr O.length 0 0))=aa (.a (dg u)):=by rw[v];simp[aV,az,aX,l,n]
  have W:aV z (aa 4) (.c (.ptr 0 0 0))=aa (.a (dg f)):=by rw[v];exact d0 _
  obtain⟨S,B⟩:=aH (z++[.box (dg q) 0]:an);have o:S[z.length]?=E (dg q):=by rw[B];simp
  apply ai;simp[l];rw[<-dO,<-A];apply aU;simp[M];refine ax (eL ?_);apply ai;simp;refine aE (aq ge (aQ ?_));refine aE (ax ?_);apply ai;simp[L,s,-aw,l];rw[<-v];apply ai;simp[d1,W,-aw,nv,ny,m,l,<-dO];rw[<-B];apply ai;simp;refine aq bv ?_;obtain⟨r,H3,Y,c,J,rfl,rfl,hL,a_⟩:=ua (F:=Pz) (sz:=4) (zs:=[.aN,fi 0,fi 0,.aN]) (bytes:=64) (H:=S) (g:=g) (rows:=aM ps) Yy ce (bK ps) (iL ge ce);apply ai;simp[Y.eq];obtain⟨U,I⟩:=aH (S++J);rw[<-I]at hL ⊢;have b3:U[z.length]?=E (dg q):=by rw[I,AI (aj o)];exact o
  have d3:aV U (aa 4) (.c (.ptr z.length 0 0))=aa (.a (dg q)):=by simp[aV,az,b3,aX,l,n]
  obtain⟨b,ep,J4,e1,N,X,K,-,-⟩:=ZE (j:=0) hL (bK ps) ge (row:=q.row) rfl;rw[Fu]at K;rw[<-dO]at X;simp only[Nat.zero_mul]at N X;have N:bO U 4 ab (.c c) (vi 0)=aa (.c (.ptr b 0 ep)):=N;apply ai;simp[d3,-aw,N,X,-bF,l];apply ai;simp;obtain⟨g',x⟩:=K.ex (bK _) 63;have x:fv 64 J4 c=aa (sl g' (aM (ps.set 0 q))):=x;refine av (hQ _ _ _ ⟨g',rfl⟩ ⟨rfl,.t [.c c,vb ae],by simp[Km.results,cB,bC],by simp[jd,dq,bC,deep,x]⟩)
 exact⟨q,g',sq,c4,h.eq⟩
variable{Nb Mb:Int}
def im(Nb:Int)(m n:Nat)(us:List (List aR)):Prop:=us.length<=n/\∀u∈us,wK Nb m u
def VF(us:List (List aR)):aI (us.map λs=>⟨.fs,s⟩)=aY us:=pm
def zg(h:im Nb 4 64 L):iH (L.map λs=>⟨.fs,s⟩)=ae:=by
 simp only[iH,IS,decide_eq_true_eq,ag9];refine⟨by rw[agS];have:=h.1;omega,λt j=>?_⟩;obtain⟨u,l,rfl⟩:=agX.1 j;obtain⟨b,m,d⟩:=h.2 u l;have:=ahf.2 b;simp only[iZ,IS,decide_eq_true_eq,ag9];exact⟨⟨ap,ap⟩,λp g=>(d p g).ok⟩
def mf(g:Tg){us:List (List aR)}(h:im Nb 4 64 us):bf tab DS [.a [.f (sl g (aY us))]]=Eq (vb ae):=by
 have b:=(sU g (us.map λs=>⟨.fs,s⟩) (by have:=h.1;simp;omega) (wg (zg h))).eq;rw[zg h,VF]at b;exact b
def im.up(h:im Nb m n L)(b:m<=4):im Nb 4 n L:=⟨h.1,λu hu=>⟨(h.2 u hu).1,ahd (h.2 u hu).2.1 b,(h.2 u hu).2.2⟩⟩
def pA(g:Tg)(us:List (List aR))(d:us.length<=1000000):ye gG [.fp [sl g (aY us)] 0] us:=by
 have:=qV g (us.map λs=>⟨.fs,s⟩) (by simpa using d);have b:(us.map λs=>(⟨.fs,s⟩:cU)).map (·.fs)=us:=by rw[air];exact List.map_id _
 rw[VF,b]at this;exact this
def jT.up(h:jT Nb p):jT 27720 p:=⟨h.ok,h.fr,h.aO,h.le⟩
theorem wK.up{m:Nat}{t:List aR}(h:wK Nb m t):wK 27720 m t:=⟨h.1,h.2.1,λp b=>(h.2.2 p b).up⟩
def Sx(u:0<t.length)(m:bE q d=(bE t[0] d&&!bE p d)):ew (t.set 0 q) d↔ew t d/\bE p d=ag:=by
 cases t with
 |nil=>simp at u
 |cons a l=>
  have m:bE q d=(bE a d&&!bE p d):=m;simp only[aio,ew,ag8,forall_eq_or_imp,m,IS,aii];constructor
  .rintro⟨⟨b,g⟩,j⟩;exact⟨⟨b,j⟩,g⟩
  .rintro⟨⟨b,j⟩,g⟩;exact⟨⟨b,g⟩,j⟩
def UJ(h:LR H u 1 (aY L))(B:L.length<=1000000)(s:List aR) :
  ∃m g,bZ (H++[.box [.f (sl .fs (aM s))] 0]) 1 24 (.c u) (.c (.sl H.length 0 1 1 0 1))=aa (.c m,g)/\LR g m 1 (aY (L++[s]))/\∀(i:Nat) cs fl,H[i]?=aa (.box cs fl)->g[i]?=aa (.box cs fl):=by
 obtain⟨q,b⟩:=aH (H++[.box ([sl .fs (aM s)].map .f) 0]:an);have j:LR q u 1 (aY L):=by rw[b];exact h.push _
 have v:q[H.length]?=E ([sl .fs (aM s)].map .f):=by rw[b];simp
 obtain⟨m,g,d,l,c,A⟩:=j.app (fo L) ce (row:=[sl .fs (aM s)]) rfl (bytes:=24) (by simp[cF,aY];omega) v;have z:aY L++[[sl .fs (aM s)]]=aY (L++[s]):=by simp[aY]
 rw[z]at l;refine⟨m,g,by rw[b]at d;exact d,l,λi cs fl y=>?_⟩;have x:q[i]?=aa (.box cs fl):=by rw[b,AI (aj y)];exact y
 exact c.2 i _ x (j.cm x)
def Jj(hi:m<L.length)(d:Int):cS (L.take (m+1)) d↔cS (L.take m) d\/ew L[m] d:=by
 rw[agV,BY hi];show cS (L.take m++[L[m]]) d↔_;rw[iq,lD]
variable{Nb Mb:Int}
def lp:List (List aR)->Nat
 |[]=>1| v::l=>v.length*lp l
theorem RC(v:List aR):∀l:List (List aR),lp (l++[v])=lp l*v.length
 |[]=>by simp[lp]
 |w::l=>by simp[lp,RC v l,Nat.mul_assoc]
def UH(d:m<L.length):lp (L.take (m+1))=lp (L.take m)*L[m].length:=by
 rw[agV,BY d];exact RC _ _
def UI(h:∀v∈L,1<=v.length)(j:Nat):lp (L.take j)<=lp L:=by
 induction L generalizing j with
 |nil=>simp
 |cons v l g=>
  cases j with
  |zero=>
   have m:1<=lp l:=ahd (by simp[lp]) (g (λv d=>h v (agU _ d)) 0);have q:=h v agR;simpa[lp]using ajh q m
  |succ j=>exact Nat.mul_le_mul_left _ (g (λv d=>h v (agU _ d)) j)
def acp(N:Nat)(S:Int->Prop)(m:Nat)(r:V):Prop:=(∃ts g,im 27720 m 64 ts/\ts.length<=N/\(∀d,0<=d->(cS ts d↔S d))/\r=eO ts g)\/(r=.t [.a [.f .aN],vi 2]/\64<N)
def MSN(N:Nat)(S:Int->Prop)(m:Nat)(o:FC)(e:Int):Prop:=(e=0/\∃ts g,o=sl g (aY ts)/\im 27720 m 64 ts/\ts.length<=N/\∀d,0<=d->(cS ts d↔S d))\/(e=2/\o=.aN/\64<N)
def xc(h:NT Nb m L F)(u:L.length<=N)(g:Tg){S:Int->Prop}(q:∀d,0<=d->(cS L d↔S d)):∃o e,nz F g=.t [.a [.f o],vi e]/\MSN N S m o e:=by
 have l:=h.len;by_cases b:F.length<=64
 .exact⟨sl g (aY F),0,by simp[nz,b,eO],.inl ⟨rfl,F,g,rfl,⟨b,λt s=>(h.ok t s).up⟩,ap,λd j=>by rw[h.mem d j,q d j]⟩⟩
 .exact⟨.aN,2,by simp[nz,b],.inr ⟨rfl,rfl,ap⟩⟩
def zk(r6:1<=m)(hm:m<=4)(ga gb:Tg)(us b:List (List aR))(ha:im Nb m 64 us)(hb:im Mb 4 64 b) :
  ∃r,acp (us.length*lp b) (λd=>cS us d/\¬ cS b d) m r/\bf tab DR [.a [.f (sl ga (aY us))],.a [.f (sl gb (aY b))]]=Eq r:=by
 have hva:=mf ga (ha.up hm);have hvb:=mf gb hb;have z8:∀v∈b,1<=v.length:=λv hv=>ahf.2 (hb.2 v hv).1;obtain⟨r,z,u⟩:∃r,acp (us.length*lp b) (λd=>cS us d/\¬ cS b d) m r/\bf tab DR [.a [.f (sl ga (aY us))],.a [.f (sl gb (aY b))]] r:=by
  refine dE rfl rfl λQ hQ=>?_;have hl1:=ha.1;have hl2:=hb.1;have i6:∀(g:Tg) (us:List (List aR)) (H:an),bA H (.f (sl g (aY us)))=aa us.length:=λg us H=>by simp[aY]
  apply ai;simp;obtain⟨HA,O⟩:=aH ([.box [.f (sl ga (aY us))] 0,.box [.f (sl gb (aY b))] 0,.box [.f .aN] 0]:an);rw[<-O];have a2:HA[2]?=E [.f .aN]:=by rw[O];rfl
  have al:HA.length=3:=by rw[O];rfl
  have l0:aV HA (aa 1) (.c (.ptr 0 0 0))=aa (.a [.f (sl ga (aY us))]):=by rw[O];simp[aV,az,aX]
  have l1:aV HA (aa 1) (.c (.ptr 1 0 0))=aa (.a [.f (sl gb (aY b))]):=by rw[O];simp[aV,az,aX]
  have n0:aV HA ab (.c (.ptr 0 0 0))=aa (G (sl ga (aY us))):=by rw[O];simp[aV,az]
  have n1:∀J:an,aV (HA++J) ab (.c (.ptr 1 0 0))=aa (G (sl gb (aY b))):=λJ=>by rw[O];simp[aV,az]
  apply aU;simp[l0,l1,-aw,hva,hvb];refine bG bv ?_;have b_:=mD (sl ga (aY us));obtain⟨ts0,g0,s7,X⟩:=sX gG [.fp [sl ga (aY us)] 0] us (pA ga us ap) r6 hm ha.2 ap;obtain⟨o0,e0,t8,r7⟩:=xc (N:=us.length*lp (b.take 0)) s7 (by simp[lp]) g0 (S:=λd=>cS us d/\¬ cS (b.take 0) d) λd _=>by simp[cS]
  rw[t8]at X;apply ai;simp[n0,-aw,b_,X];obtain⟨HB,c9⟩:=aH (HA++[.box [.f o0] 0]:an);have b2:HB[2]?=E [.f .aN]:=by rw[c9,AI ap];exact a2
  have b3:HB[3]?=E [.f o0]:=by rw[c9,agL ap];simp[al]
  have n1:aV HB ab (.c (.ptr 1 0 0))=aa (G (sl gb (aY b))):=by rw[c9];exact n1 _
  rw[<-c9,al];apply aU;simp[n1,-aw,i6];refine bW b.length (λj t J=>t.g 2=.c (.ptr 0 0 0)/\t.g 4=.c (.ptr 2 0 0)/\t.g 6=.c (.ptr 3 0 0)/\t.g 34=G (sl gb (aY b))/\J[2]?=E [.f .aN]/\∃o e,t.g 7=vi e/\J[3]?=E [.f o]/\MSN (us.length*lp (b.take j)) (λd=>cS us d/\¬ cS (b.take j) d) m o e) ap ce ce bv bv
   ⟨bv,bv,bv,bv,b2,o0,e0,bv,b3,r7⟩ ?_ ?_
  .rintro j t J hj ⟨g2,W,g6,l,j2,o,e,g7,j3,d9⟩ n8 z7 next
   have x6:=λH:an=>bu (H:=H) (g:=gb) (rows:=aY b) (sz:=1) (k:=.i64) (i:=(j:Int)) ap pu;have j_:=λH:an=>gM (H:=H) (fo b) (j:=j) (row:=[sl .fs (aM b[j])]) (by simp[aY,hj]) rfl;simp at x6 j_;have j6:=hb.2 _ (IN hj);have v_:∀d,cS (b.take (j+1)) d↔cS (b.take j) d\/ew b[j] d:=Jj hj;obtain⟨fb,e_⟩:=aH (b[j]);rw[<-e_]at j_ j6 v_;apply ax;apply ai;simp[n8,l,x6,j_,-aw];apply aU;simp[g7];rcases d9 with⟨rfl,ts,g,rfl,w_,htn,htm⟩|⟨rfl,rfl,p_⟩
   case inr=>
    refine aq bv ?_;have s2:dj J (.ptr 2 0 0) [.f .aN]=aa (J.set 2 (.box [.f .aN] 0)):=by simp[dj,j2,over]
    apply ai;simp[W,g7,s2,-bF];refine av (hQ _ _ _ (.inr ⟨rfl,ah2 p_ (Nat.mul_le_mul_left _ (UI z8 j))⟩) ⟨rfl,.t [.a [.f .aN],vi 2],?_,by simp[jd,dq,bC]⟩);have k2:(J.set 2 (.box [.f .aN] 0))[2]?=E [.f .aN]:=By (aj j2);simp[Km.results,cB,bC,W,k2,aX]
   refine bG bv ?_;have l3:aV J ab (.c (.ptr 3 0 0))=aa (G (sl g (aY ts))):=by simp[aV,az,j3]
   have hl3:=w_.1;have r_:=j6.2.1;apply ai;simp;apply aU;simp[g6,l3,-aw,i6];refine bW ts.length (λi t' J'=>t'.g 2=.c (.ptr 0 0 0)/\t'.g 4=.c (.ptr 2 0 0)/\t'.g 6=.c (.ptr 3 0 0)/\t'.g 34=G (sl gb (aY b))/\t'.g 35=t.g 35/\t'.g 36=t.g 36/\t'.g 9=G (sl .fs (aM fb))/\t'.g 45=G (sl g (aY ts))/\J'[2]?=E [.f .aN]/\J'[3]?=E [.f (sl g (aY ts))]/\∃cl L,t'.g 10=.c cl/\LR J' cl 1 (aY L)/\L.length=i*fb.length/\(∀s∈L,wK 27720 m s)/\∀d,0<=d->(cS L d↔cS (ts.take i) d/\¬ ew fb d)) ap ce ce bv bv
    ⟨by simp[g2],by simp[W],by simp[g6],by simp[l],bv,bv,bv,bv,j2,j3,.f .aN,[],bv,LR.nil _ _,bv,bv,λd _=>by simp[cS]⟩ ?_ ?_
   .rintro i t' J' hi ⟨g2,W,g6,l,F,I,g9,M,j2,j3,cl,L,B,hL,a_,U,A⟩ d_ p9 m9;have x8:=λH:an=>bu (H:=H) (g:=g) (rows:=aY ts) (sz:=1) (k:=.i64) (i:=(i:Int)) ap pu;have k_:=λH:an=>gM (H:=H) (fo ts) (j:=i) (row:=[sl .fs (aM ts[i])]) (by simp[aY,hi]) rfl;simp at x8 k_;have hs:=w_.2 _ (IN hi);have g_:∀d,cS (ts.take (i+1)) d↔cS (ts.take i) d\/ew ts[i] d:=Jj hi;obtain⟨s,hse⟩:=aH (ts[i]);rw[<-hse]at k_ hs g_;have x_:∀H:an,bA H (.f (sl .fs (aM fb)))=aa fb.length:=λH=>by simp
    have agy:i*fb.length<=64*4:=ajh ap r_;apply ax;apply ai;simp[d_,M,x8,k_,-aw];apply ai;simp[g9,x_];refine bW fb.length (λk w K=>w.g 2=.c (.ptr 0 0 0)/\w.g 4=.c (.ptr 2 0 0)/\w.g 6=.c (.ptr 3 0 0)/\w.g 34=G (sl gb (aY b))/\w.g 35=t.g 35/\w.g 36=t.g 36/\w.g 9=G (sl .fs (aM fb))/\w.g 45=G (sl g (aY ts))/\w.g 46=t'.g 46/\w.g 47=t'.g 47/\w.g 12=G (sl .fs (aM s))/\w.g 51=G (sl .fs (aM fb))/\K[2]?=E [.f .aN]/\K[3]?=E [.f (sl g (aY ts))]/\∃cl L,w.g 10=.c cl/\LR K cl 1 (aY L)/\L.length=i*fb.length+k/\(∀s∈L,wK 27720 m s)/\∀d,0<=d->(cS L d↔(cS (ts.take i) d/\¬ ew fb d)\/(ew s d/\∃p∈fb.take k,bE p d=ag))) ap ce ce bv bv
     ⟨by simp[g2],by simp[W],by simp[g6],by simp[l],by simp[F],by simp[I],by simp[g9],by simp[M],bv,bv,bv,bv,j2,j3,cl,L,by simp[B],hL,ap,U,λd hd=>by rw[A d hd];simp⟩ ?_ ?_
    .rintro k w K hk ⟨g2,W,g6,l,F,I,g9,M,i8,i9,i7,i_,j2,j3,cl,L,B,hL,a_,U,A⟩ n9 z_ m_;have x9:=λH:an=>bu (H:=H) (g:=.fs) (rows:=aM fb) (sz:=4) (k:=.i64) (i:=(k:Int)) ap ge;have l_:=λH:an=>cf (H:=H) (bK fb) (cH hk);simp only[ag7]at x9;have f_:=j6.2.2 _ (IN hk);have h_:fb.take (k+1)=fb.take k++[fb[k]]:=by rw[agV,BY hk];rfl
     obtain⟨p,hp⟩:=aH (fb[k]);rw[<-hp]at l_ f_ h_;have u_:=ahf.2 hs.1;obtain⟨q,g',sq,hqm,j9⟩:=E5 .fs s hs.2.2 u_ (by have:=hs.2.1;omega) p f_;have j8:s.set 0 q≠[]:=λe=>by
      have:=congrArg List.length e;rw[agZ,ah7]at this;omega
     rw[iz j8 g',<-iz j8 .fs]at j9;have u9:∀p,(dg p).length=4:=λ_=>rfl;have tk:∀p,List.take 4 (dg p)=dg p:=λ_=>rfl;simp only[<-dO]at l_ j9;obtain⟨K1,c_⟩:=aH (K++[bV.box (dg p) 0]);have c1:K1[K.length]?=E (dg p):=by rw[c_];simp
     have d1:aV K1 (aa 4) (.c (.ptr K.length 0 0))=aa (.a (dg p)):=by simp[aV,az,c1,aX,u9,tk]
     have y6:∀(i:Nat) y,K[i]?=aa y->K1[i]?=aa y:=λi y hy=>by rw[c_,AI (aj hy)];exact hy
     have y7:LR K1 cl 1 (aY L):=by rw[c_];exact hL.push _
     obtain⟨c3,H3,o_,y8,q_⟩:=UJ y7 ap (s.set 0 q);apply ax;apply ai;simp[n9,i_,x9,l_,-aw,u9];rw[<-c_];apply ai;simp[i7,d1,-aw,nv,ny,<-dO,j9];apply aU;simp;refine bG bv ?_;apply ba;simp[B,o_];refine au (m_ _ _ ?_ (by simp[n9]) (by simp[z_]));refine⟨by simp[g2],by simp[W],by simp[g6],by simp[l],by simp[F],by simp[I],by simp[g9],by simp[M],by simp[i8],by simp[i9],by simp[i7],by simp[i_],q_ _ _ _ (y6 _ _ j2),q_ _ _ _ (y6 _ _ j3),c3,_,bv,y8,by rw[agM,aiv];omega,λx hx=>?_,λd hd=>?_⟩
     .rcases agP.1 hx with h|h
      .exact U x h
      .rw[If]at h;rw[h];exact⟨j8,by rw[agZ];exact hs.2.1,λy hy=>(aiK hy).elim (λh=>(hs.2.2 y h).up) λe=>e▸sq⟩
     .rw[iq,lD,A d hd,Sx u_ (hqm d hd),or_assoc];refine or_congr_right ?_;rw[h_];constructor
      .rintro(⟨z,x,hx,u⟩|⟨z,u⟩)
       .exact⟨z,x,ahu _ hx,u⟩
       .exact⟨z,p,bv,u⟩
      .rintro⟨z,x,hx,u⟩;rcases agP.1 hx with h|h
       .exact .inl ⟨z,x,h,u⟩
       .rw[If]at h;rw[h]at u;exact .inr ⟨z,u⟩
    .rintro w K ⟨g2,W,g6,l,F,I,g9,M,i8,i9,i7,i_,j2,j3,cl,L,B,hL,a_,U,A⟩ - -;rw[agW]at A;refine au (m9 _ _ ?_ (by simp[i9,d_]) (by simp[i8,p9]));refine⟨by simp[g2],by simp[W],by simp[g6],by simp[l],by simp[F],by simp[I],by simp[g9],by simp[M],j2,j3,cl,L,by simp[B],hL,by rw[a_,ahi];omega,U,λd hd=>?_⟩;rw[A d hd,g_];have hno:(¬ ew fb d)↔∃p∈fb,bE p d=ag:=by
      simp only[ew];constructor
      .intro h;refine Decidable.byContradiction λhc=>h λp hp=>?_;cases hk:bE p d with
       |true=>rfl| false=>exact absurd ⟨p,hp,hk⟩ hc
      .rintro⟨p,hp,h⟩ n_;rw[n_ p hp]at h;exact absurd h ce
     rw[<-hno];constructor
     .rintro(⟨z,u⟩|⟨z,u⟩)
      .exact⟨.inl z,u⟩
      .exact⟨.inr z,u⟩
     .rintro⟨z|z,u⟩
      .exact .inl ⟨z,u⟩
      .exact .inr ⟨z,u⟩
   .rintro t' J' ⟨g2,W,g6,l,F,I,g9,M,j2,j3,cl,L,B,hL,a_,U,A⟩ - -;rw[agW]at A;have y_:L.length<=1000:=by
     rw[a_];exact ahd (ajh hl3 r_) ce
    obtain⟨go,j7⟩:=hL.ex (fo L) 63;have j7:fv 64 J' cl=aa (sl go (aY L)):=j7;have b_:=mD (sl go (aY L));obtain⟨ts1,g1,s_,Y⟩:=sX gG [.fp [sl go (aY L)] 0] L (pA go L ap) r6 hm U y_;obtain⟨o1,e1,t_,r9⟩:=xc (N:=us.length*lp (b.take (j+1))) s_ (by rw[a_,UH hj,<-e_,<-Nat.mul_assoc];exact ahA _ htn) g1 (S:=λd=>cS us d/\¬ cS (b.take (j+1)) d) λd hd=>by
     rw[A d hd,htm d hd,v_];constructor
     .rintro⟨⟨z,u⟩,h3⟩;exact⟨z,λh=>h.elim u h3⟩
     .rintro⟨z,u⟩;exact⟨⟨z,λh=>u (.inl h)⟩,λh=>u (.inr h)⟩
    rw[t_]at Y;obtain⟨J2,j5⟩:=aH (ez 64 cl J');have m2:J2[2]?=E [.f .aN]:=by rw[j5];exact hL.x.E3 63 j2
    have m3:J2[3]?=E [.f (sl g (aY ts))]:=by rw[j5];exact hL.x.E3 63 j3
    have s3:dj J2 (.ptr 3 0 0) [.f o1]=aa (J2.set 3 (.box [.f o1] 0)):=by simp[dj,m3,over]
    apply ba;simp[g6,B,j7,deep,b_,Y,<-j5,s3,-bF];refine au (next _ _ ?_ (by simp[I,n8]) (by simp[F,z7]));exact⟨by simp[g2],by simp[W],by simp[g6],by simp[l],by rw[sh ap];exact m2,o1,e1,bv,By (aj m3),r9⟩
  .rintro t J ⟨g2,W,g6,l,j2,o,e,g7,j3,d9⟩ - -;rw[agW]at d9;have l3:aV J (aa 1) (.c (.ptr 3 0 0))=aa (.a [.f o]):=by simp[aV,az,j3,aX]
   have s2:dj J (.ptr 2 0 0) [.f o]=aa (J.set 2 (.box [.f o] 0)):=by simp[dj,j2,over]
   have k2:(J.set 2 (.box [.f o] 0))[2]?=E [.f o]:=By (aj j2);apply ai;simp[W,g6,g7,l3,-aw,s2,-bF];refine av (hQ _ _ (.t [.a [.f o],vi e]) ?_ ⟨rfl,.t [.a [.f o],vi e],?_,by simp[jd,dq,bC]⟩)
   .rcases d9 with⟨rfl,ts,g,rfl,z,hn,u⟩|⟨rfl,rfl,hbg⟩
    .exact .inl ⟨ts,g,z,hn,u,rfl⟩
    .exact .inr ⟨rfl,hbg⟩
   .simp[Km.results,cB,bC,W,k2,aX]
 exact⟨r,z,u.eq⟩
variable{Nb:Int}
def vI(Nb:Int)(ts:List cU):Prop:=ts.length<=2/\∀t∈ts,wK Nb 2 t.fs
def vI.mix(h:vI Nb X):iH X=ae:=by
 simp only[iH,IS,decide_eq_true_eq,ag9];refine⟨by have:=h.1;omega,λt d=>?_⟩;obtain⟨h1,h2,h3⟩:=h.2 t d;have:=ahf.2 h1;simp only[iZ,IS,decide_eq_true_eq,ag9];exact⟨⟨ap,ap⟩,λp b=>(h3 p b).ok⟩
structure SQ(row:FC)(by':Int)(N:Nat)(cl:C)(us:List (List aR))(t:T)(J:an):Prop where
 b0:J[0]?=E [.f row]
 b1:J[1]?=E [.f .aN]
 g1:t.g 1=vi by'
 g2:t.g 2=.c (.ptr 0 0 0)
 g4:t.g 4=.c (.ptr 1 0 0)
 g6:t.g 6=.c cl
 lo:LO J cl us
def F6(h:BX H m t.length t)(g:t≠[]):TC H (.sl m 0 t.length t.length 0 4) t:=by
 obtain⟨rest,d,j⟩:=h;have:rest=[]:=List.length_eq_zero_iff.1 (by rw[agM,mW]at j;omega);subst this;rw[ahe]at d;exact .inr ⟨g,m,0,rfl,d⟩
def BK(g:Tg)(ts:List cU)(U:vI Nb ts)(b:Int)(x9:-1000<=b)(s7:b<=0) :
  ∃us g',(us.length<=2/\∀u∈us,wK Nb 2 u)/\(∀d,0<=d->(cS us d↔∃t∈ts,ew t.fs (d-b)))/\bf tab wH [.a [.f (sl g (aI ts))],vi b]=Eq (.t [.a [.f (sl g' (aY us))],vi 0]):=by
 obtain⟨r,⟨us,g',h1,h2,rfl⟩,h⟩:∃r,(∃us g',(us.length<=2/\∀u∈us,wK Nb 2 u)/\(∀d,0<=d->(cS us d↔∃t∈ts,ew t.fs (d-b)))/\r=.t [.a [.f (sl g' (aY us))],vi 0])/\bf tab wH [.a [.f (sl g (aI ts))],vi b] r:=by
  have K:=(sU g ts (by have:=U.1;omega) (wg U.mix)).eq;rw[U.mix]at K;have y_:=U.1;refine dE rfl rfl λQ hQ=>?_;apply ai;simp;apply aU;simp[K];refine bG bv ?_;apply ai;simp;have p9:∀H:an,bA H (.f (sl g (aI ts)))=aa ts.length:=λH=>by simp
  apply aU;simp[p9];refine bW ts.length (λk t J=>t.g 19=G (sl g (aI ts))/\∃cl us,SQ (sl g (aI ts)) b 0 cl us t J/\us.length=k/\(∀u∈us,wK Nb 2 u)/\∀d,0<=d->(cS us d↔∃t∈ts.take k,ew t.fs (d-b))) ap ce ce bv bv
   ⟨bv,.f .aN,[],⟨rfl,rfl,bv,bv,bv,bv,.inl ⟨rfl,rfl⟩⟩,rfl,bv,λd _=>by simp[cS]⟩ ?_ ?_
  .rintro k t J hk ⟨d9,cl,us,z,n9,i8,o⟩ ha hb next
   have I:=λH:an=>gM (H:=H) (eV ts) (gF (l:=ts) (j:=k) hk) rfl;have a_:=λH:an=>bu (H:=H) (g:=g) (rows:=aI ts) (sz:=1) (k:=.i64) (i:=k) ap (by simpa using hk);simp at I a_;have n8:ts.take (k+1)=ts.take k++[ts[k]]:=by rw[agV,BY hk];rfl
   have F:=U.2 _ (IN hk);obtain⟨tm,w_⟩:=aH (ts[k]);rw[<-w_]at I n8 F;obtain⟨ps,m9⟩:=aH (tm.fs);rw[<-m9]at I F;obtain⟨n,hn⟩:=aH (ps.length);have y7:0<n:=by rw[hn];exact ahf.2 F.1
   have y8:n<=2:=by have:=F.2.1;omega
   have c_:∀H:an,bA H (.f (sl tm.tg (aM ps)))=aa n:=λH=>by rw[hn];simp
   have v_:∀(t:T) (H:an),t.g 26=vi n->cA t H (.fu 4 64 [.aN,fi 0,fi 0,.aN] (R 26) (R 26))=aa (.c (.sl H.length 0 n n 0 4),H++[.box ((dQ n [FC.aN,fi 0,fi 0,.aN]).map .f) 0]):=by
    intro t H ht;simp only[cA,mF,ht];have hi:fE (vi n)=aa (n:Int):=rfl;simp only[hi];rw[ct ⟨ap,ahY _,iL ge ce,rfl⟩,cC ap];simp
   apply ax;apply ai;simp[ha,d9,a_,I];apply ai;simp[c_,v_];obtain⟨b9,g_⟩:=aH (J.length);obtain⟨J1,a⟩:=aH (J++[bV.box (List.replicate n [C.f FC.aN,C.f (fi 0),C.f (fi 0),C.f FC.aN]).flatten 0]);have r9:BX J1 b9 n ([]++List.replicate n zp):=by
    refine⟨[],?_,?_⟩
    .rw[a,g_,ahL,ahe];have:dT (List.replicate n zp)=List.replicate n [C.f FC.aN,C.f (fi 0),C.f (fi 0),C.f FC.aN]:=by
      rw[dT,ajv];rfl
     rw[this];simp
    .rw[ahL,ahe,mW,aiw]
   rw[<-a,<-g_];have k1:∀(i:Nat) y,J[i]?=aa y->J1[i]?=aa y:=λi y Y=>by rw[a,AI (aj Y)];exact Y
   have z7:J1.length=b9+1:=by rw[a];simp[g_]
   apply aU;simp[c_];refine bW n (λj W J'=>W.g 1=vi b/\W.g 2=.c (.ptr 0 0 0)/\W.g 4=.c (.ptr 1 0 0)/\W.g 6=.c cl/\W.g 9=.c (.sl b9 0 n n 0 4)/\W.g 19=G (sl g (aI ts))/\W.g 20=t.g 20/\W.g 21=t.g 21/\W.g 28=G (sl tm.tg (aM ps))/\(∀(i:Nat) y,J[i]?=aa y->J'[i]?=aa y)/\b9<J'.length/\∃qs,qs.length=j/\BX J' b9 n (qs++List.replicate (n-j) zp)/\(∀q∈qs,jT Nb q)/\∀d,0<=d->(ew qs d↔ew (ps.take j) (d-b))) ap ce ce bv bv
    ⟨by simp[z.g1],by simp[z.g2],by simp[z.g4],by simp[z.g6],bv,by simp[d9],bv,bv,bv,k1,ap,[],rfl,by simpa using r9,bv,λd _=>by simp[ew]⟩ ?_ ?_
   .rintro j W J' hj ⟨g1,g2,g4,g6,g9,N,d_,e_,f_,v,k_,qs,L,hX,i7,f⟩ j9 r_ j5;have h_:j<ps.length:=ii
    have n_:=λH:an=>bu (H:=H) (g:=tm.tg) (rows:=aM ps) (sz:=4) (k:=.i64) (i:=(j:Int)) ap ge;have i_:=λH:an=>cf (H:=H) (bK ps) (cH h_);simp only[ag7]at n_;have B:=F.2.2 _ (IN h_);have c9:ps.take (j+1)=ps.take j++[ps[j]]:=by rw[agV,BY h_];rfl
    obtain⟨u,hu⟩:=aH (ps[j]);rw[<-hu]at i_ B c9;obtain⟨q,c1,c2,c3,-,-,c4,m_⟩:=BV u B.ok (by have:=B.bH;omega) (by have:=B.head;omega) b ap s7;have z8:=(bM B.ok).2.2.1;have sq:jT Nb q:=⟨c1,by have:=B.fr;omega,ahr c3 B.aO,ahx (ahq ap c3) B.bd⟩
    simp only[<-dO]at i_ m_;have S:∀p,(dg p).length=4:=λ_=>rfl;have tk:∀p,List.take 4 (dg p)=dg p:=λ_=>rfl;obtain⟨X,A⟩:=aH (J'++[bV.box (dg u) 0]);have p_:X[J'.length]?=E (dg u):=by rw[A];simp
    have x6:aV X (aa 4) (.c (.ptr J'.length 0 0))=aa (.a (dg u)):=by simp[aV,az,p_,aX,S,tk]
    obtain⟨J3,c⟩:=aH (X++[bV.box (dg q) 0]);have q_:J3[X.length]?=E (dg q):=by rw[c];simp
    have x8:aV J3 (aa 4) (.c (.ptr X.length 0 0))=aa (.a (dg q)):=by simp[aV,az,q_,aX,S,tk]
    have j7:BX J3 b9 n (qs++List.replicate (n-j) zp):=by rw[c,A];exact(hX.push _).push _
    have u9:(qs++List.replicate (n-j) zp).length=n:=by rw[agM,aiw];omega
    obtain⟨o_,-⟩:=j7.at (i:=j) ap;obtain⟨J4,s4,j8,y6,t8⟩:=j7.st (i:=j) ap q;rw[u9]at o_;apply ax;apply ai;simp[j9,f_,n_,i_,-aw,S];rw[<-A];apply ai;simp[g1,x6,-aw,nv,ny,<-dO,m_,S];rw[<-c];apply aU;simp;refine bG bv ?_;apply ba;simp[g9,x8,o_,s4,S,-aw,-bF];have t_:∀(i:Nat) y,J[i]?=aa y->J4[i]?=aa y:=λi y Y=>by
     have h1:=aj Y;have h2:=aj (v i y Y);rw[t8 i ap,c,AI (by rw[A,agM];omega),A,AI h2];exact v i y Y
    refine au (j5 _ _ ?_ (by simp[j9]) (by simp[r_]));refine⟨by simp[g1],by simp[g2],by simp[g4],by simp[g6],by simp[g9],by simp[N],by simp[d_],by simp[e_],by simp[f_],t_,by have:=j8.lt;omega,qs++[q],by simp[L],?_,λx M=>?_,λd w=>?_⟩
    .have e:(qs++List.replicate (n-j) zp).set j q=qs++[q]++List.replicate (n-(j+1)) zp:=by
      obtain⟨k,hk⟩:∃k,n-j=k+1:=⟨n-j-1,ap⟩
      rw[aij _ _ ap,L,aiD,hk,aiO,aio,show n-(j+1)=k by omega,ahm];rfl
     rw[<-e];exact j8
    .rcases agP.1 M with h|h
     .exact i7 x h
     .rw[If]at h;rw[h];exact sq
    .rw[c9,fH,fH,f d w];simp only[ew,If,forall_eq];rw[c4 d w]
   .rintro W J' ⟨g1,g2,g4,g6,g9,N,d_,e_,f_,v,k_,qs,L,hX,i7,f⟩ - -;rw[aiD,ajt,ahe]at hX;rw[hn,agW]at f;have b_:qs≠[]:=by intro e;rw[e]at L;simp at L;omega
    rw[<-L]at hX g9;have r7:=F6 hX b_;have r6:B4 J J':=λi cs fl _ Y=>⟨fl,v i _ Y⟩
    have O:LO J' cl us:=z.lo.bS r6 λi y _ Y=>v i y Y;obtain⟨c3,H3,j_,j6,u_,l_,x_⟩:=O.app ap r7;apply ba;simp[g6,g9,j_];refine au (next _ _ ⟨by simp[N],c3,us++[qs],⟨l_ 0 _ (v 0 _ z.b0) (O.cm (v 0 _ z.b0)),l_ 1 _ (v 1 _ z.b1) (O.cm (v 1 _ z.b1)),by simp[g1],by simp[g2],by simp[g4],bv,j6⟩,by simp[n9],λx M=>?_,λd w=>?_⟩ (by simp[e_,ha]) (by simp[d_,hb]))
    .rcases agP.1 M with h|h
     .exact i8 x h
     .rw[If]at h;rw[h];exact⟨b_,ap,i7⟩
    .rw[n8,iq,lD,o d w,f d w,m9];constructor
     .rintro(⟨x,M,h⟩|h)
      .exact⟨x,ahu _ M,h⟩
      .exact⟨tm,bv,h⟩
     .rintro⟨x,M,h⟩;rcases agP.1 M with M|M
      .exact .inl ⟨x,M,h⟩
      .rw[If]at M;rw[M]at h;exact .inr h
  .rintro t J ⟨d9,cl,us,z,n9,i8,o⟩ - -;rw[agW]at o;obtain⟨go,s_⟩:=z.lo.ex 62;obtain⟨n1,n2⟩:=z.lo.mk 62;have K:=mD (sl go (aY us));obtain⟨vs,gv,i9,i6⟩:=rB gG [.fp [sl go (aY us)] 0] us (by
    have:=qV go (us.map λs=>⟨.fs,s⟩) ge;have e:aI (us.map λs=>⟨.fs,s⟩)=aY us:=pm
    have e2:(us.map λs=>(⟨.fs,s⟩:cU)).map (·.fs)=us:=by rw[air];exact List.map_id _
    rw[e,e2]at this;exact this) (m:=2) ap ap i8 ap
   obtain⟨X,A⟩:=aH (ez 64 cl J);have e1:X[1]?=E [.f .aN]:=by
    rw[A];rcases n2 1 _ z.b1 (z.lo.cm z.b1)with k|⟨cs,f1,f2,hc,e,k⟩
    .exact k
    .cases e;simp at hc
   have s1:dj X (.ptr 1 0 0) [.f (sl gv (aY vs))]=aa (X.set 1 (.box [.f (sl gv (aY vs))] 0)):=by simp[dj,e1,over]
   have f1:(X.set 1 (.box [.f (sl gv (aY vs))] 0))[1]?=E [.f (sl gv (aY vs))]:=By (aj e1);apply ai;simp[z.g4,z.g6,s_,deep,K,i6,eO,<-A,s1,-bF];refine av (hQ _ _ _ ⟨vs,gv,⟨by have:=i9.len;omega,i9.ok⟩,λd w=>by rw[i9.mem d w];exact o d w,rfl⟩ ⟨rfl,.t [.a [.f (sl gv (aY vs))],vi 0],?_,by simp[jd,dq,bC]⟩);simp[Km.results,cB,bC,z.g4,f1,aX]
 exact⟨us,g',h1,h2,h.eq⟩
variable{Nb:Int}
def Xt(Nb:Int)(mm nn:Nat)(ts:List cU):Prop:=ts.length<=nn/\∀t∈ts,wK Nb mm t.fs
def Xt.mix(h:Xt Nb m n X)(b:m<=4)(d:n<=64):iH X=ae:=by
 simp only[iH,IS,decide_eq_true_eq,ag9];refine⟨by have:=h.1;omega,λt j=>?_⟩;obtain⟨h1,h2,h3⟩:=h.2 t j;have:=ahf.2 h1;simp only[iZ,IS,decide_eq_true_eq,ag9];exact⟨⟨ap,ap⟩,λp g=>(h3 p g).ok⟩
def Ih{mm nn:Nat}(x6:1<=mm)(i6:mm<=4)(m_:nn<=64)(g:Tg)(ts:List cU)(U:Xt Nb mm nn ts)(b:Int)(y7:-1000<=b)(t8:b<=0) :
  ∃us g',(us.length<=ts.length/\∀u∈us,wK Nb mm u)/\(∀d,0<=d->(cS us d↔∃t∈ts,ew t.fs (d-b)))/\bf tab wH [.a [.f (sl g (aI ts))],vi b]=Eq (.t [.a [.f (sl g' (aY us))],vi 0]):=by
 obtain⟨r,⟨us,g',h1,h2,rfl⟩,h⟩:∃r,(∃us g',(us.length<=ts.length/\∀u∈us,wK Nb mm u)/\(∀d,0<=d->(cS us d↔∃t∈ts,ew t.fs (d-b)))/\r=.t [.a [.f (sl g' (aY us))],vi 0])/\bf tab wH [.a [.f (sl g (aI ts))],vi b] r:=by
  have K:=(sU g ts (by have:=U.1;omega) (wg (U.mix i6 m_))).eq;rw[(U.mix i6 m_)]at K;have z_:=U.1;refine dE rfl rfl λQ hQ=>?_;apply ai;simp;apply aU;simp[K];refine bG bv ?_;apply ai;simp;have q_:∀H:an,bA H (.f (sl g (aI ts)))=aa ts.length:=λH=>by simp
  apply aU;simp[q_];refine bW ts.length (λk t J=>t.g 19=G (sl g (aI ts))/\∃cl us,SQ (sl g (aI ts)) b 0 cl us t J/\us.length=k/\(∀u∈us,wK Nb mm u)/\∀d,0<=d->(cS us d↔∃t∈ts.take k,ew t.fs (d-b))) ap ce ce bv bv
   ⟨bv,.f .aN,[],⟨rfl,rfl,bv,bv,bv,bv,.inl ⟨rfl,rfl⟩⟩,rfl,bv,λd _=>by simp[cS]⟩ ?_ ?_
  .rintro k t J hk ⟨d9,cl,us,A,o_,i9,o⟩ ha hb next
   have I:=λH:an=>gM (H:=H) (eV ts) (gF (l:=ts) (j:=k) hk) rfl;have a_:=λH:an=>bu (H:=H) (g:=g) (rows:=aI ts) (sz:=1) (k:=.i64) (i:=k) ap (by simpa using hk);simp at I a_;have n_:ts.take (k+1)=ts.take k++[ts[k]]:=by rw[agV,BY hk];rfl
   have v:=U.2 _ (IN hk);obtain⟨tm,x9⟩:=aH (ts[k]);rw[<-x9]at I n_ v;obtain⟨ps,n8⟩:=aH (tm.fs);rw[<-n8]at I v;obtain⟨n,hn⟩:=aH (ps.length);have z7:0<n:=by rw[hn];exact ahf.2 v.1
   have z8:n<=4:=by have:=v.2.1;omega
   have c_:∀H:an,bA H (.f (sl tm.tg (aM ps)))=aa n:=λH=>by rw[hn];simp
   have x8:∀(t:T) (H:an),t.g 26=vi n->cA t H (.fu 4 64 [.aN,fi 0,fi 0,.aN] (R 26) (R 26))=aa (.c (.sl H.length 0 n n 0 4),H++[.box ((dQ n [FC.aN,fi 0,fi 0,.aN]).map .f) 0]):=by
    intro t H ht;simp only[cA,mF,ht];have hi:fE (vi n)=aa (n:Int):=rfl;simp only[hi];rw[ct ⟨ap,ahY _,iL ge ce,rfl⟩,cC ap];simp
   apply ax;apply ai;simp[ha,d9,a_,I];apply ai;simp[c_,x8];obtain⟨b9,g_⟩:=aH (J.length);obtain⟨J1,a⟩:=aH (J++[bV.box (List.replicate n [C.f FC.aN,C.f (fi 0),C.f (fi 0),C.f FC.aN]).flatten 0]);have s7:BX J1 b9 n ([]++List.replicate n zp):=by
    refine⟨[],?_,?_⟩
    .rw[a,g_,ahL,ahe];have:dT (List.replicate n zp)=List.replicate n [C.f FC.aN,C.f (fi 0),C.f (fi 0),C.f FC.aN]:=by
      rw[dT,ajv];rfl
     rw[this];simp
    .rw[ahL,ahe,mW,aiw]
   rw[<-a,<-g_];have k1:∀(i:Nat) y,J[i]?=aa y->J1[i]?=aa y:=λi y Y=>by rw[a,AI (aj Y)];exact Y
   have lJ1:J1.length=b9+1:=by rw[a];simp[g_]
   apply aU;simp[c_];refine bW n (λj W J'=>W.g 1=vi b/\W.g 2=.c (.ptr 0 0 0)/\W.g 4=.c (.ptr 1 0 0)/\W.g 6=.c cl/\W.g 9=.c (.sl b9 0 n n 0 4)/\W.g 19=G (sl g (aI ts))/\W.g 20=t.g 20/\W.g 21=t.g 21/\W.g 28=G (sl tm.tg (aM ps))/\(∀(i:Nat) y,J[i]?=aa y->J'[i]?=aa y)/\b9<J'.length/\∃qs,qs.length=j/\BX J' b9 n (qs++List.replicate (n-j) zp)/\(∀q∈qs,jT Nb q)/\∀d,0<=d->(ew qs d↔ew (ps.take j) (d-b))) ap ce ce bv bv
    ⟨by simp[A.g1],by simp[A.g2],by simp[A.g4],by simp[A.g6],bv,by simp[d9],bv,bv,bv,k1,ap,[],rfl,by simpa using s7,bv,λd _=>by simp[ew]⟩ ?_ ?_
   .rintro j W J' hj ⟨g1,g2,g4,g6,g9,N,d_,e_,f_,z,l_,qs,L,hX,i8,f⟩ j_ s_ j6;have h_:j<ps.length:=ii
    have p9:=λH:an=>bu (H:=H) (g:=tm.tg) (rows:=aM ps) (sz:=4) (k:=.i64) (i:=(j:Int)) ap ge;have j5:=λH:an=>cf (H:=H) (bK ps) (cH h_);simp only[ag7]at p9;have F:=v.2.2 _ (IN h_);have c9:ps.take (j+1)=ps.take j++[ps[j]]:=by rw[agV,BY h_];rfl
    obtain⟨u,hu⟩:=aH (ps[j]);rw[<-hu]at j5 F c9;obtain⟨q,c1,c2,c3,-,-,c4,n9⟩:=BV u F.ok (by have:=F.bH;omega) (by have:=F.head;omega) b ap t8;have pu1:=(bM F.ok).2.2.1;have sq:jT Nb q:=⟨c1,by have:=F.fr;omega,ahr c3 F.aO,ahx (ahq ap c3) F.bd⟩
    simp only[<-dO]at j5 n9;have S:∀p,(dg p).length=4:=λ_=>rfl;have tk:∀p,List.take 4 (dg p)=dg p:=λ_=>rfl;obtain⟨X,B⟩:=aH (J'++[bV.box (dg u) 0]);have r6:X[J'.length]?=E (dg u):=by rw[B];simp
    have x_:aV X (aa 4) (.c (.ptr J'.length 0 0))=aa (.a (dg u)):=by simp[aV,az,r6,aX,S,tk]
    obtain⟨J3,c⟩:=aH (X++[bV.box (dg q) 0]);have r7:J3[X.length]?=E (dg q):=by rw[c];simp
    have y6:aV J3 (aa 4) (.c (.ptr X.length 0 0))=aa (.a (dg q)):=by simp[aV,az,r7,aX,S,tk]
    have j8:BX J3 b9 n (qs++List.replicate (n-j) zp):=by rw[c,B];exact(hX.push _).push _
    have v_:(qs++List.replicate (n-j) zp).length=n:=by rw[agM,aiw];omega
    obtain⟨p_,-⟩:=j8.at (i:=j) ap;obtain⟨J4,s4,j9,y_,u9⟩:=j8.st (i:=j) ap q;rw[v_]at p_;apply ax;apply ai;simp[j_,f_,p9,j5,-aw,S];rw[<-B];apply ai;simp[g1,x_,-aw,nv,ny,<-dO,n9,S];rw[<-c];apply aU;simp;refine bG bv ?_;apply ba;simp[g9,y6,p_,s4,S,-aw,-bF];have u_:∀(i:Nat) y,J[i]?=aa y->J4[i]?=aa y:=λi y Y=>by
     have h1:=aj Y;have h2:=aj (z i y Y);rw[u9 i ap,c,AI (by rw[B,agM];omega),B,AI h2];exact z i y Y
    refine au (j6 _ _ ?_ (by simp[j_]) (by simp[s_]));refine⟨by simp[g1],by simp[g2],by simp[g4],by simp[g6],by simp[g9],by simp[N],by simp[d_],by simp[e_],by simp[f_],u_,by have:=j9.lt;omega,qs++[q],by simp[L],?_,λx M=>?_,λd w=>?_⟩
    .have e:(qs++List.replicate (n-j) zp).set j q=qs++[q]++List.replicate (n-(j+1)) zp:=by
      obtain⟨k,hk⟩:∃k,n-j=k+1:=⟨n-j-1,ap⟩
      rw[aij _ _ ap,L,aiD,hk,aiO,aio,show n-(j+1)=k by omega,ahm];rfl
     rw[<-e];exact j9
    .rcases agP.1 M with h|h
     .exact i8 x h
     .rw[If]at h;rw[h];exact sq
    .rw[c9,fH,fH,f d w];simp only[ew,If,forall_eq];rw[c4 d w]
   .rintro W J' ⟨g1,g2,g4,g6,g9,N,d_,e_,f_,z,l_,qs,L,hX,i8,f⟩ - -;rw[aiD,ajt,ahe]at hX;rw[hn,agW]at f;have b_:qs≠[]:=by intro e;rw[e]at L;simp at L;omega
    rw[<-L]at hX g9;have r_:=F6 hX b_;have r9:B4 J J':=λi cs fl _ Y=>⟨fl,z i _ Y⟩
    have O:LO J' cl us:=A.lo.bS r9 λi y _ Y=>z i y Y;obtain⟨c3,H3,k_,j7,w_,m9,y8⟩:=O.app ap r_;apply ba;simp[g6,g9,k_];refine au (next _ _ ⟨by simp[N],c3,us++[qs],⟨m9 0 _ (z 0 _ A.b0) (O.cm (z 0 _ A.b0)),m9 1 _ (z 1 _ A.b1) (O.cm (z 1 _ A.b1)),by simp[g1],by simp[g2],by simp[g4],bv,j7⟩,by simp[o_],λx M=>?_,λd w=>?_⟩ (by simp[e_,ha]) (by simp[d_,hb]))
    .rcases agP.1 M with h|h
     .exact i9 x h
     .rw[If]at h;rw[h];exact⟨b_,by have:=v.2.1;omega,i8⟩
    .rw[n_,iq,lD,o d w,f d w,n8];constructor
     .rintro(⟨x,M,h⟩|h)
      .exact⟨x,ahu _ M,h⟩
      .exact⟨tm,bv,h⟩
     .rintro⟨x,M,h⟩;rcases agP.1 M with M|M
      .exact .inl ⟨x,M,h⟩
      .rw[If]at M;rw[M]at h;exact .inr h
  .rintro t J ⟨d9,cl,us,A,o_,i9,o⟩ - -;rw[agW]at o;obtain⟨go,t_⟩:=A.lo.ex 62;obtain⟨n1,n2⟩:=A.lo.mk 62;have K:=mD (sl go (aY us));obtain⟨vs,gv,i_,i7⟩:=rB gG [.fp [sl go (aY us)] 0] us (by
    have:=qV go (us.map λs=>⟨.fs,s⟩) ge;have e:aI (us.map λs=>⟨.fs,s⟩)=aY us:=pm
    have e2:(us.map λs=>(⟨.fs,s⟩:cU)).map (·.fs)=us:=by rw[air];exact List.map_id _
    rw[e,e2]at this;exact this) (m:=mm) x6 i6 i9 ap
   obtain⟨X,B⟩:=aH (ez 64 cl J);have e1:X[1]?=E [.f .aN]:=by
    rw[B];rcases n2 1 _ A.b1 (A.lo.cm A.b1)with k|⟨cs,f1,f2,hc,e,k⟩
    .exact k
    .cases e;simp at hc
   have s1:dj X (.ptr 1 0 0) [.f (sl gv (aY vs))]=aa (X.set 1 (.box [.f (sl gv (aY vs))] 0)):=by simp[dj,e1,over]
   have f1:(X.set 1 (.box [.f (sl gv (aY vs))] 0))[1]?=E [.f (sl gv (aY vs))]:=By (aj e1);apply ai;simp[A.g4,A.g6,t_,deep,K,i7,eO,<-B,s1,-bF];refine av (hQ _ _ _ ⟨vs,gv,⟨by have:=i_.len;omega,i_.ok⟩,λd w=>by rw[i_.mem d w];exact o d w,rfl⟩ ⟨rfl,.t [.a [.f (sl gv (aY vs))],vi 0],?_,by simp[jd,dq,bC]⟩);simp[Km.results,cB,bC,A.g4,f1,aX]
 exact⟨us,g',h1,h2,h.eq⟩
def Compat(L:List (Int × Int)):Prop:=∀x∈L,∀y∈L,(ahw x.2 y.2:Int) ∣ x.1-y.1
theorem BW:∀(l:List aR) (ch:List (Int × Int)),rO ch l->Compat ch->∃g,Compat (ch++g)/\(∀p∈l,∃c∈p.bH,(mo p c,p.aO)∈g)/\∀x∈g,∃p∈l,x.2=p.aO
 |[],ch,_,m=>⟨[],by simpa using m,bv,bv⟩
 |p::l,ch,⟨c,m,q,s⟩,j=>by
  obtain⟨g,u,v,z⟩:=BW l _ s (λx d y b=>by
   rcases agP.1 d with d|d
   .rcases agP.1 b with b|b
    .exact j x d y b
    .rw[If.1 b];have:=q x d;rw[Int.gcd_comm]at this;have:=Int.dvd_neg.2 this
     grind
   .rw[If.1 d];rcases agP.1 b with b|b
    .grind
    .rw[If.1 b,Int.sub_self];exact Int.dvd_zero _)
  grind
theorem Y6(Q:Nat)(l:Q∈[8,9,5,7,11])(a b:Nat):ah5 a Q ∣ ah5 b Q\/ah5 b Q ∣ ah5 a Q:=by
 have h:∀Q∈[8,9,5,7,11],∀d e:Fin 12,d.1 ∣ Q->e.1 ∣ Q->d.1 ∣ e.1\/e.1 ∣ d.1:=pi
 have g:∀x:Nat,ah5 x Q<12:=λx=>by
  have j:0<Q/\Q<=11:=by
   grind
  have:=Nat.le_of_dvd j.1 (aiL x Q);omega
 exact h Q l ⟨_,g a⟩ ⟨_,g b⟩ (aiL _ _) (aiL _ _)
theorem Js(Q:Nat)(d:Q∈[8,9,5,7,11]):∀L:List (Int × Int),L≠[]->(∀x∈L,1<=x.2/\x.2 ∣ 27720)->∃y∈L,∀z∈L,ah5 z.2.toNat Q ∣ ah5 y.2.toNat Q
 |[],h,_=>absurd rfl h| [x],_,_=>⟨x,bv,bv⟩
 |x::y::L,_,g=>by
  obtain⟨m,j,h⟩:=Js Q d (y::L) bv λz b=>g z (agU _ b);rcases Y6 Q d x.2.toNat m.2.toNat with k|k
  .grind
  .refine⟨x,agR,λz b=>?_⟩;rcases ag8.1 b with rfl|b
   .simp
   .exact Nat.dvd_trans (h z b) k
def ud(Q:Nat)(m:Q∈[8,9,5,7,11])(b:∀x∈I,1<=x.2/\x.2 ∣ 27720)(q:Compat I):∃c:Int,∀x∈I,((ah5 x.2.toNat Q:Nat):Int) ∣ c-x.1:=by
 by_cases g:I=[]
 .exact⟨0,by simp[g]⟩
 obtain⟨y,j,h⟩:=Js Q m I g b;refine⟨y.1,λz d=>ahr (ajg.2 ?_) (q y j z d)⟩;have s:=b y j;have u:=b z d;have l:ahw y.2 z.2=ah5 y.2.toNat z.2.toNat:=by
  rw[ahw,show y.2.natAbs=y.2.toNat by omega,show z.2.natAbs=z.2.toNat by omega]
 rw[l];exact Nat.dvd_gcd (Nat.dvd_trans (h z d) (Nat.gcd_dvd_left _ _)) (Nat.gcd_dvd_left _ _)
def JG{A:Nat}(b:Nat.Coprime A m)(d:ah5 n A ∣ N)(g:ah5 n m ∣ N):ah5 n (A*m) ∣ N:=by
 rw[Nat.Coprime.gcd_mul n b];exact Nat.Coprime.mul_dvd_of_dvd_of_dvd (Nat.Coprime.coprime_dvd_left (aiL n A) (Nat.Coprime.coprime_dvd_right (aiL n m) b)) d g
theorem acJ(g:∀x∈I,1<=x.2/\x.2 ∣ 27720)(l:Compat I):∃d:Int,0<=d/\d<27720/\∀x∈I,x.2 ∣ d-x.1:=by
 obtain⟨a,H⟩:=ud 8 ce g l;obtain⟨b,q⟩:=ud 9 ce g l;obtain⟨c,s⟩:=ud 5 ce g l;obtain⟨d,L⟩:=ud 7 ce g l;obtain⟨e,J⟩:=ud 11 ce g l;obtain⟨D,X⟩:=aH (3465*a+15400*b+22176*c+11880*d+2520*e);refine⟨D % 27720,ap,ap,λx j=>?_⟩;obtain⟨n1,n2⟩:=g x j;obtain⟨n,y⟩:∃n:Nat,x.2=n:=⟨x.2.toNat,ap⟩
 have m:∀(Q:Nat) (u:Int),(Q:Int) ∣ D-u->((ah5 x.2.toNat Q:Nat):Int) ∣ u-x.1->ah5 n Q ∣ (D-x.1).natAbs:=λQ u z v=>by
  rw[y,ag7]at v;refine Int.ofNat_dvd_left.1 ?_;have U:=ajn (ahr (ajg.2 (aiL n Q)) z) v
  grind
 have K:=m 8 a ⟨433*a+1925*b+2772*c+1485*d+315*e,ap⟩ (H x j);have M:=m 9 b ⟨385*a+1711*b+2464*c+1320*d+280*e,ap⟩ (q x j);have N:=m 5 c ⟨693*a+3080*b+4435*c+2376*d+504*e,ap⟩ (s x j);have O:=m 7 d ⟨495*a+2200*b+3168*c+1697*d+360*e,ap⟩ (L x j);have S:=m 11 e ⟨315*a+1400*b+2016*c+1080*d+229*e,ap⟩ (J x j);have h:=JG (A:=8) ce K (JG (A:=9) ce M (JG (A:=5) ce N (JG (A:=7) ce O S)));rw[y]at n2;rw[Nat.gcd_eq_left (ajg.1 n2)]at h;have B:(n:Int) ∣ D-x.1:=Int.ofNat_dvd_left.2 h;have F:(n:Int) ∣ D % 27720-D:=ahr n2 ⟨-(D / 27720),ap⟩;have W:=ajn F B
 grind
def Sn(z:∀p∈t,1<=p.aO/\p.aO ∣ 27720)(h:rO [] t):∃d:Int,0<=d/\d<27720/\∀p∈t,lG p d:=by
 obtain⟨A,j,q,s⟩:=BW t [] h (by intro x g;cases g);rw[ahL]at j;obtain⟨d,l,m,v⟩:=acJ (λx g=>by obtain⟨p,b,e⟩:=s x g;rw[e];exact z p b) j;refine⟨d,l,m,λp b=>?_⟩;obtain⟨c,u,y⟩:=q p b;exact⟨c,u,v _ y⟩
def HS(m:∀p∈t,1<=p.aO/\p.aO ∣ 27720)(h:∀p∈t,lG p d)(k:Int):∀p∈t,lG p (d+27720*k):=λp b=>by
 obtain⟨c,l,g⟩:=h p b;refine⟨c,l,?_⟩;have j:=(m p b).2;rw[show d+27720*k-mo p c=(d-mo p c)+27720*k by omega];exact ajn g (ahr j (Int.dvd_mul_right _ _))
def TW(J:an)(c:C)(fs:List aR):Prop:=(∃g,c=.f (sl g (aM fs)))\/(∃b d fl,c=.sl b 0 fs.length 0 d 4/\J[b]?=aa (.dz 4 ((aM fs).flatten.map .f) fl d .loc))
section
variable{J:an}{c:C}{fs:List aR}
def TV.tw(h:TV J c fs):TW J c fs:=by
 rcases h with⟨g,rfl⟩|⟨h0,rfl|rfl⟩|⟨j,b,d,rfl,hb⟩
 .exact .inl ⟨g,rfl⟩
 .exact .inl ⟨.nil,by rw[h0];rfl⟩
 .exact .inl ⟨.es,by rw[h0];rfl⟩
 .unfold RB at hb;exact .inr ⟨b,d,0,by rw[Ft],hb⟩
def TW.ex(h:TW J c fs)(h0:fs≠[])(n:Nat):fv (n+1) J c=aa (sl .fs (aM fs)):=by
 rcases h with⟨g,rfl⟩|⟨b,d,fl,rfl,hb⟩
 .show aa (sl g (aM fs))=_;rw[iz h0,iz h0]
 .have hl:(aM fs).flatten.length=fs.length*4:=by have:=cz (bK fs);simpa using this
  simp only[gR,hb];rw[ct ⟨trivial,trivial,by rw[agS];omega⟩,ahR,agY (by rw[agS];omega),kr,iz h0];rfl
def TW.mk(h:TW J c fs)(n:Nat):TW (ez (n+1) c J) c fs/\∀(i:Nat) (y:bV),J[i]?=aa y->bz c≠aa i->(ez (n+1) c J)[i]?=aa y:=by
 rcases h with⟨g,rfl⟩|⟨b,d,fl,rfl,hb⟩
 .exact⟨.inl ⟨g,rfl⟩,λi y hy _=>hy⟩
 .have e:ez (n+1) (.sl b 0 fs.length 0 d 4) J=J.set b (.dz 4 ((aM fs).flatten.map .f) (Nat.max fl (0+fs.length*4)) d .loc):=by
   simp only[jY,hb];rw[jF];intro x j;have j:=ahM (ah1 j);obtain⟨m,_,rfl⟩:=agX.1 j;exact⟨_,rfl⟩
  rw[e];exact⟨.inr ⟨b,d,_,rfl,By (aj hb)⟩,λi y hy hi=>by rw[sh (by rintro rfl;exact hi rfl)];exact hy⟩
theorem TW.set(h:TW J c fs){i:Nat}(hi:bz c≠aa i)(x:bV):TW (J.set i x) c fs:=by
 rcases h with h|⟨b,d,fl,rfl,hb⟩
 .exact .inl h
 .exact .inr ⟨b,d,fl,rfl,by rw[sh (by rintro rfl;exact hi rfl)];exact hb⟩
end
def C7(ps:List aR)(h:pF ps)(n:Int)(hn:0<=n)(c_:n<=1000000000000):∃d f,iQ (GW ps n) d f/\(0<=d/\d<=1000001000000)/\∀H g found c,QH H n g found->TW H c ps->(∀i,bz c=aa i->4<i)->
  ∃r H',Ev tab (.yield 4) [.c c] H r H'/\(r=vb ae/\QH H' n (if f=ae/\(found=ag\/d<g)then d else g) (found||f)):=by
 obtain⟨d,f,e0,f0,hm,hd,he,hc⟩:=Ki .fs ps h n hn c_;refine⟨d,f,hm,hd,?_⟩;rintro H g found c ⟨h0,h1,h2,h3,s,h4,u,L,M⟩ v O;refine dm (tab:=tab) (b:=4) h4 rfl λQ' N=>?_;have c9:=aj h4;have I:∀(t:T) (j:an),j[0]?=E [Z n]->j[1]?=E [Z g]->j[2]?=E [.f (.bool found)]->j[3]?=aa (.dH ae)->j[4]?=aa (.lp dp s [P.nat 12] cT cD .busy ab 3)->
   t.g 3=.c (.ptr 0 0 0)->t.g 6=.c (.ptr 1 0 0)->t.g 7=.c (.ptr 2 0 0)->t.g 9=vi d->t.g 10=vb f->WP tab dp (aa 4) [.code DK,.inBlock 1] ⟨t,[],j⟩ Q':=by
  rintro t j q0 U A q3 q4 e3 J y K q;have l1:=aj U;have l2:=aj A;have bS:(f=ae/\(found=ag\/d<g)->False)->QH (j.set 4 (.lp dp s [P.nat 12] cT cD .ready ab 3)) n (if f=ae/\(found=ag\/d<g)then d else g) (found||f):=by
   intro x;have hf:(found||f)=found:=by
    cases f<;>cases found<;>simp at x ⊢
   rw[cC x,hf];exact⟨by rw[sh ce];exact q0,by rw[sh ce];exact U,by rw[sh ce];exact A,by rw[sh ce];exact q3,s,By (aj q4),u,L,M⟩
  have d9:(j.set 1 (.box [Z d] 0))[2]?=E [.f (.bool found)]:=by rw[sh ce];exact A
  have Q:(f=ae/\(found=ag\/d<g))->QH (((j.set 1 (.box [Z d] 0)).set 2 (.box [.f (.bool ae)] 0)).set 4 (.lp dp s [P.nat 12] cT cD .ready ab 3)) n (if f=ae/\(found=ag\/d<g)then d else g) (found||f):=by
   intro l;have hf:(found||f)=ae:=by rw[l.1];simp
   rw[ct l,hf];refine⟨?_,?_,?_,?_,s,By (by simp;exact aj q4),u,L,M⟩
   .rw[sh ce,sh ce,sh ce];exact q0
   .rw[sh ce,sh ce,By l1]
   .rw[sh ce,By (by simpa using l2)]
   .rw[sh ce,sh ce,sh ce];exact q3
  have done:∀B:T,(f=ae/\(found=ag\/d<g)->False)->WP tab dp (aa 4) [.inBlock 1] ⟨B,[],j⟩ Q':=by
   intro B x;refine au (cN (N _ _ _ _ _ _ _ _ _ _ rfl q4 ⟨rfl,?_⟩));have:=bS x;rw[show(j.set 4 (.lp dp s [P.nat 12] cT cD .ready ab 3))=j.set 4 (.lp dp s [P.nat 12] cT cD (if(ab:Option aD).isNone=ae then .ready else .done) ab 3) from rfl]at this;exact this
  have m:∀B:T,B.g 6=.c (.ptr 1 0 0)->B.g 7=.c (.ptr 2 0 0)->B.g 9=vi d->(f=ae/\(found=ag\/d<g))->WP tab dp (aa 4) [.code DL,.inBlock 1] ⟨B,[],j⟩ Q':=by
   intro B J y K l;refine aF (.inr rfl) ?_;simp[J,y,K,U,A,d9];refine au (cN (N _ _ _ _ _ _ _ _ _ _ rfl (by rw[sh ce,sh ce];exact q4) ⟨rfl,?_⟩));exact Q l
  apply aE;cases f with
  |false=>
   refine aF (.inr rfl) ?_;simp[y,q,A];refine aC bv (aQ (done _ bv))
  |true=>
   cases found with
   |false=>
    refine aF (.inr rfl) ?_;simp[y,q,A];refine aq bv (m _ (by simp[J]) (by simp[y]) (by simp[K]) bv)
   |true=>
    by_cases k:d<g
    .refine aF (.inr rfl) ?_;simp[J,y,K,q,U,A,k];refine aq bv (m _ (by simp[J]) (by simp[y]) (by simp[K]) (by simp[k]))
    .refine aF (.inr rfl) ?_;simp[J,y,K,q,U,A,k];refine aC bv (aQ (done _ (by simp[k])))
 refine aF (.inr rfl) ?_;simp;refine eM h4 ?_;have b0:(H.set 4 (.lp dp s [P.nat 12] cT cD .busy ab 3))[0]?=E [Z n]:=by rw[sh ce];exact h0
 have b1:(H.set 4 (.lp dp s [P.nat 12] cT cD .busy ab 3))[1]?=E [Z g]:=by rw[sh ce];exact h1
 have W:(H.set 4 (.lp dp s [P.nat 12] cT cD .busy ab 3))[2]?=E [.f (.bool found)]:=by rw[sh ce];exact h2
 have X:(H.set 4 (.lp dp s [P.nat 12] cT cD .busy ab 3))[3]?=aa (.dH ae):=by rw[sh ce];exact h3
 have Y:(H.set 4 (.lp dp s [P.nat 12] cT cD .busy ab 3))[4]?=aa (.lp dp s [P.nat 12] cT cD .busy ab 3):=By c9;have v:=v.set (i:=4) (λe=>by have:=O 4 e;omega) (.lp dp s [P.nat 12] cT cD .busy ab 3);generalize H.set 4 (.lp dp s [P.nat 12] cT cD .busy ab 3)=j at b0 b1 W X Y v ⊢;have S:∀i:Nat,i<=4->bz c≠aa i:=λi hi e=>by have:=O i e;omega
 have step:∀j:an,j[0]?=E [Z n]->j[1]?=E [Z g]->j[2]?=E [.f (.bool found)]->j[3]?=aa (.dH ae)->j[4]?=aa (.lp dp s [P.nat 12] cT cD .busy ab 3)->TW j c ps->
   ∃F:an,F=ez 64 c j/\fv 64 j c=aa (sl .fs (aM ps))/\F[0]?=E [Z n]/\F[1]?=E [Z g]/\F[2]?=E [.f (.bool found)]/\F[3]?=aa (.dH ae)/\F[4]?=aa (.lp dp s [P.nat 12] cT cD .busy ab 3)/\TW F c ps:=by
  intro j b0 b1 W X Y hT;obtain⟨m1,m2⟩:=hT.mk 63;exact⟨_,rfl,hT.ex (ahf.1 h.l1) 63,m2 0 _ b0 (S 0 ap),m2 1 _ b1 (S 1 ap),m2 2 _ W (S 2 ap),m2 3 _ X (S 3 ap),m2 4 _ Y (S 4 ap),m1⟩
 obtain⟨H1,e1,x1,a0,a1,a2,a3,a4,a_⟩:=step j b0 b1 W X Y v;obtain⟨H2,e2,x2,c0,c1,c2,c3,c4,b_⟩:=step H1 a0 a1 a2 a3 a4 a_;obtain⟨H3,e3,x3,d0,d1,d2,d3,d4,d_⟩:=step H2 c0 c1 c2 c3 c4 b_;apply ax;refine aE (aF (.inr rfl) ?_);simp[u,b0,x1,deep,he,<-e1];apply aE;rcases hc with⟨rfl,rfl,rfl⟩|⟨rfl,rfl,b,z,hc⟩
 .refine aE (aF (.inr rfl) ?_);simp;refine bG bv ?_;exact I _ _ a0 a1 a2 a3 a4 (by simp[u]) (by simp[L]) (by simp[M]) bv bv
 .rcases hc with⟨rfl,rfl,rfl⟩|⟨rfl,hl⟩
  .refine aE (aF (.inr rfl) ?_);simp[u,a0,x2,deep,z,<-e2,show n<=1152921504606846976 by omega];refine bG bv ?_;exact I _ _ c0 c1 c2 c3 c4 (by simp[u]) (by simp[L]) (by simp[M]) bv bv
  .refine aE (aF (.inr rfl) ?_);simp[u,a0,x2,deep,z,<-e2,show n<=1152921504606846976 by omega];refine aq bv ?_;refine aF (.inr rfl) ?_;simp[u,c0,x3,deep,hl,<-e3];exact I _ _ d0 d1 d2 d3 d4 (by simp[u]) (by simp[L]) (by simp[M]) bv bv
def OA(L:List (List aR))(n x:Int):Prop:=∃t∈L,GW t n x
def UY{found:Bool}(h:QH H o z found)(v:∀i:Nat,i<H.length->K[i]?=H[i]?):QH K o z found:=by
 obtain⟨g,j,l,m,s,q,u⟩:=h;have k:∀(i:Nat) y,H[i]?=aa y->K[i]?=aa y:=λi y d=>by rw[v i (aj d)];exact d
 exact⟨k _ _ g,k _ _ j,k _ _ l,k _ _ m,s,k _ _ q,u⟩
def M6(F:Nat)(l:List FC)(L:List (List aR))(w:ye F l L)(p:∀t∈L,pF t)(n:Int)(hn:0<=n)(M:n<=1000000000000):∃d f,iQ (OA L n) d f/\(0<=d/\d<=1000001000000)/\
  bf tab dp [G (.fn F l),vi n]=Eq (.t [vi d,vb f]):=by
 have key:∃r,(∃d f,iQ (OA L n) d f/\(0<=d/\d<=1000001000000)/\r=.t [vi d,vb f])/\bf tab dp [G (.fn F l),vi n] r:=by
  refine iX Qi rfl λQ hQ=>?_;have z:∀s:T,s.g 3=.c (.ptr 0 0 0)->s.g 6=.c (.ptr 1 0 0)->s.g 7=.c (.ptr 2 0 0)->s.g 11=G (.fn F l)->
    WP tab dp ab [.code Cp,.inBlock 0,.code xU] ⟨s,[],[.box [Z n] 0,.box [Z 0] 0,.box [.f (.bool ag)] 0]⟩ Q:=by
   intro s k S U A;obtain⟨y,e,b,found,⟨-,w1,w2,w3,O,w4,-⟩,q,W⟩:=w 4 [.box [Z n] 0,.box [Z 0] 0,.box [.f (.bool ag)] 0,.dH ae,.lp dp s [P.nat 12] cT cD .ready ab 3]
    (λj H=>∃b found,QH H n b found/\iQ (OA (L.take j) n) b found/\(0<=b/\b<=1000001000000))
    ⟨0,ag,⟨rfl,rfl,rfl,rfl,s,rfl,k,S,U⟩,.inl ⟨rfl,rfl,λd v=>by obtain⟨t,m,-⟩:=v;simp at m⟩,ap,ap⟩ λj X a J c ⟨b,found,u,q,W⟩ hk Y hT hc=>by
     obtain⟨d,f,K,v,hy⟩:=C7 L[j] (p _ (IN X)) n hn M;have l4:4<a.length:=by obtain⟨-,-,-,-,s',o,-⟩:=u;exact aj o
     obtain⟨r,H',I,rfl,B⟩:=hy J b found c (UY u hk) hT.tw (λi hi=>by have:=hc i hi;omega);have N:L.take (j+1)=L.take j++[L[j]]:=by rw[agV,BY X];rfl
     refine⟨H',I,_,_,B,iQ.join q K λx=>?_,?_⟩
     .unfold OA;rw[N];constructor
      .rintro⟨t,m,h⟩;rcases agP.1 m with m|m
       .exact .inl ⟨t,m,h⟩
       .rw[If.1 m]at h;exact .inr h
      .rintro(⟨t,m,h⟩|h)
       .exact⟨t,ahu _ m,h⟩
       .exact⟨_,ail _ (If.2 rfl),h⟩
     .split<;>omega
   rw[agW]at q;refine dC (g:=F) (by rw[mF,A];simp[cr]) e ?_;refine dX w4 ce ?_;apply au;apply ai;have v1:(y.set 4 (.lp dp O [P.nat 12] cT cD .exhausted ab 3))[1]?=E [Z b]:=by rw[sh ce];exact w1
   have v2:(y.set 4 (.lp dp O [P.nat 12] cT cD .exhausted ab 3))[2]?=E [.f (.bool found)]:=by rw[sh ce];exact w2
   have v3:(y.set 4 (.lp dp O [P.nat 12] cT cD .exhausted ab 3))[3]?=aa (.dH ae):=by rw[sh ce];exact w3
   simp[S,U,v1,v2];refine av (hQ _ _ _ ⟨b,found,q,W,rfl⟩ (.inr ⟨3,rfl,v3,.t [vi b,vb found],?_,by simp[jd,dq,bC]⟩));simp[Km.results,cB,bC]
  apply ai;simp;apply ai;simp;apply aU;simp;apply ax;exact z _ bv bv bv bv
 obtain⟨r,⟨d,f,q,v,rfl⟩,h⟩:=key;exact⟨d,f,q,v,h.eq⟩
def qK(ss ts:List (List aR)):List (List aR):=(ss.map λs=>ts.map λt=>s++t).flatten
def my:t∈qK L F↔∃s∈L,∃x∈F,t=s++x:=by
 unfold qK;rw[List.mem_flatten];constructor
 .rintro⟨l,g,j⟩;obtain⟨s,b,rfl⟩:=agX.1 g;obtain⟨x,d,rfl⟩:=agX.1 j;exact⟨s,b,x,d,rfl⟩
 .rintro⟨s,b,x,d,rfl⟩;exact⟨_,agX.2 ⟨s,b,rfl⟩,agX.2 ⟨x,d,rfl⟩⟩
def BQ(ss ts:List (List aR)):(qK ss ts).length=ss.length*ts.length:=by
 unfold qK;induction ss with
 |nil=>simp| cons s ss b=>rw[IT,ag6,agM,b,agS,ahk,Nat.succ_mul,Nat.add_comm]
def Sf{ss ts:List (List aR)}{i:Nat}(hi:i<ss.length)(d:k<ts.length):(qK ss ts)[i*ts.length+k]?=aa (ss[i]++ts[k]):=by
 have h:=sQ (rows:=ss.map λs=>ts.map λt=>s++t) (sz:=ts.length) (j:=i) (row:=ts.map λt=>ss[i]++t) (λr g=>by
  obtain⟨s,-,rfl⟩:=agX.1 g;simp) (by simp[hi])
 have b:(ts.map λt=>ss[i]++t)[k]?=aa (ss[i]++ts[k]):=by simp[d]
 rw[<-h,List.getElem?_take,ct d,ahP]at b;exact b
def Fo(x y:FC):bf tab aca [.a [.f x],.a [.f y]]=Eq (G (.fn I_ [.fp [x] 0,.fp [y] 0])):=by
 refine bf.eq (bD rfl rfl λQ b=>?_);apply ai;simp;apply ai;simp;refine av (b _ _ ?_);simp[deep]
def zy(g g':Tg)(ss ts:List cU)(hs:ss.length<=1000)(ht:ts.length<=1000)(f_:∀s∈ss,s.fs.length<=1000)(g_:∀t∈ts,t.fs.length<=1000) :
  ye I_ [.fp [sl g (aI ss)] 0,.fp [sl g' (aI ts)] 0] (qK (ss.map (·.fs)) (ts.map (·.fs))):=by
 intro b H PP h0 hy;have y:(qK (ss.map (·.fs)) (ts.map (·.fs))).length=ss.length*ts.length:=by rw[BQ,agS,agS]
 have Y:∀H:an,bA H (.f (sl g (aI ss)))=aa ss.length:=λH=>by simp
 have a:∀H:an,bA H (.f (sl g' (aI ts)))=aa ts.length:=λH=>by simp
 obtain⟨r,e,he,rfl,p⟩:∃r e,Ev tab (.fn I_) [.c (.yl b),G (.fp [sl g (aI ss)] 0),G (.fp [sl g' (aI ts)] 0)] H r e/\(r=.t []/\PP (ss.length*ts.length) e):=by
  refine dc rfl rfl λQ hQ=>?_;apply ai;simp[lU,Y];refine bW ss.length (λi s J=>s.g 0=.c (.yl b)/\s.g 2=G (.fp [sl g' (aI ts)] 0)/\s.g 9=G (sl g (aI ss))/\PP (i*ts.length) J) ap ce ce bv bv ⟨bv,bv,bv,by simpa using h0⟩ ?_ ?_
  .rintro i s J hi ⟨A,L,M,N⟩ w hb next
   have z:=λH:an=>gM (H:=H) (eV ss) (gF (l:=ss) (j:=i) hi) rfl;have v:=λH:an=>bu (H:=H) (g:=g) (rows:=aI ss) (sz:=1) (k:=.i64) (i:=i) ap (by simpa using hi);simp at z v;apply ax;apply ai;simp[M,w,v,z];apply ai;simp[L,lU,a];refine bW ts.length (λk u J=>u.g 0=.c (.yl b)/\u.g 2=G (.fp [sl g' (aI ts)] 0)/\u.g 9=G (sl g (aI ss))/\u.g 5=G (sl ss[i].tg (aM ss[i].fs))/\u.g 16=G (sl g' (aI ts))/\u.g 10=s.g 10/\u.g 11=s.g 11/\PP (i*ts.length+k) J) ap ce ce bv bv
    ⟨by simp[A],by simp[L],by simp[M],bv,bv,bv,bv,by simpa using N⟩ ?_ ?_
   .rintro k u J h ⟨A,L,M,o,K,B,I,N⟩ X a_ U;have m:=λH:an=>gM (H:=H) (eV ts) (gF (l:=ts) (j:=k) h) rfl;have d:=λH:an=>bu (H:=H) (g:=g') (rows:=aI ts) (sz:=1) (k:=.i64) (i:=k) ap (by simpa using h);simp at m d;have d_:i*ts.length+k<(qK (ss.map (·.fs)) (ts.map (·.fs))).length:=by
     rw[y];have:(i+1)*ts.length<=ss.length*ts.length:=ahA _ hi;rw[ahi,ajl]at this;omega
    have c9:(qK (ss.map (·.fs)) (ts.map (·.fs)))[i*ts.length+k]=ss[i].fs++ts[k].fs:=by
     have:=Sf (ss:=ss.map (·.fs)) (ts:=ts.map (·.fs)) (i:=i) (k:=k) (by simpa using hi) (by simpa using h);simp only[agS,aiF]at this;exact(aft.1 this).2
    have i7:=f_ _ (IN hi);have i8:=g_ _ (IN h);obtain⟨f,q⟩:=aH (J++[bV.box [.f (sl ss[i].tg (aM ss[i].fs)),.f (sl ts[k].tg (aM ts[k].fs))] 0]);have b1:f[J.length]?=E [.f (sl ss[i].tg (aM ss[i].fs)),.f (sl ts[k].tg (aM ts[k].fs))]:=by rw[q];simp
    have e_:aM (ss[i].fs++ts[k].fs)=aM ss[i].fs++aM ts[k].fs:=by simp[aM]
    obtain⟨r,n,S,c,rfl,O,d9,i6,b_⟩:=vW (tab:=tab) (H:=f) (F:=GK) (G9:=PE) (sz:=4) (bytes:=64) (zs:=[.aN,fi 0,fi 0,.aN]) YB YL ce rfl (b:=J.length) [(.f (sl ss[i].tg (aM ss[i].fs)),aM ss[i].fs),(.f (sl ts[k].tg (aM ts[k].fs)),aM ts[k].fs)] b1 bv
     (λx W=>by
      simp only[ag8,aid,or_false]at W;rcases W with rfl|rfl
      .exact⟨bK _,λH' _=>⟨bv,lz (bK _)⟩⟩
      .exact⟨bK _,λH' _=>⟨bv,lz (bK _)⟩⟩)
     ge (iL ge ce)
    have O:LR n c 4 (aM (ss[i].fs++ts[k].fs)):=by
     rw[e_];simpa using O
    have h_:f.length=J.length+1:=by rw[q];simp
    obtain⟨J3,c_,p⟩:=hy (i*ts.length+k) d_ J n c N (λx W=>by rw[d9 x ap,q,AI W]) ap (by rw[c9];exact .inr O) (λx W=>by have:=b_ x W;omega);have S:Ev tab (.fn GK) [.c (.sl J.length 0 2 2 0 1)] f (.c c) n:=S;apply ax;apply ai;simp[X,K,d,m];apply aE;apply ba;simp[A,o,<-q,S.eq,c_.eq];refine bG bv ?_;refine au (U _ _ ?_ (by simp[X]) (by simp[a_]));exact⟨by simp[A],by simp[L],by simp[M],by simp[o],by simp[K],by simp[B],by simp[I],p⟩
   .rintro u J ⟨A,L,M,o,K,B,I,N⟩ - -;refine au (next _ _ ⟨by simp[A],by simp[L],by simp[M],?_⟩ (by simp[I,w]) (by simp[B,hb]));rw[ahi,ajl];exact N
  .rintro s J ⟨A,L,M,N⟩ w hb;exact cN (hQ _ _ _ rfl rfl ⟨rfl,N⟩)
 exact⟨e,he,by rw[y];exact p⟩
def eZ(ts:List cU)(d:Int):Prop:=∃t∈ts,ew t.fs d
def Jk(us:List (List aR))(d:Int):eZ (us.map λs=>⟨.fs,s⟩) d↔cS us d:=by
 unfold cS eZ;constructor
 .rintro⟨t,b,h⟩;obtain⟨x,g,rfl⟩:=agX.1 b;exact⟨x,g,h⟩
 .rintro⟨t,b,h⟩;exact⟨_,agX.2 ⟨t,b,rfl⟩,h⟩
theorem BU:∀{l:List aR},(∀p∈l,jT 12 p)->1<=gS l/\gS l<=12 ^ l.length
 |[],_=>by simp[gS]
 |p::l,h=>by
  have b:=h p agR;have g:=(bM b.ok).2.2.1;have d:=b.bd;obtain⟨j,m⟩:=BU λq u=>h q (agU _ u);simp only[gS,ahk];have v:=aiy g j ce ap;have s:=aiy d m ap ce;rw[Int.pow_succ,ah4];refine⟨by rw[ah4];omega,by rw[ah4];rw[ah4 (12 ^ l.length)];exact s⟩
theorem zM:∀{l:List aR},(∀p∈l,jT 12 p)->dG l<=100000
 |[],_=>by simp[dG]
 |p::l,h=>by
  have d:=(h p agR).fr;have g:=zM λq b=>h q (agU _ b);simp only[dG];omega
def Bf(b:t≠[])(g:t.length<=4)(h:∀p∈t,jT 12 p):pF t:=by
 have m:=ahf.2 b;refine⟨ap,ap,λp d=>(h p d).mod,?_,by have:=zM h;omega⟩;have j:=(BU h).2;have l:(12:Int) ^ t.length<=12 ^ 4:=by
  have:t.length=1\/t.length=2\/t.length=3\/t.length=4:=ii
  rcases this with e|e|e|e<;>rw[e]<;>decide
 have:(12:Int) ^ 4=20736:=pi
 omega
def we(g g':Tg)(ss ts:List cU)(l:vI 12 ss)(m:vI 12 ts)(n:Int)(e:-1000000000000<=n)(O:n<=1000000000000) :
  ∃d f,iQ (λx=>max n 0<=x/\eZ ss x/\eZ ts x) d f/\(0<=d/\d<=1000001000000)/\bf tab ab6 [.a [.f (sl g (aI ss))],.a [.f (sl g' (aI ts))],vi n]=Eq (.t [vi d,vb f]):=by
 have v:=(sU g ss (by have:=l.1;omega) (wg l.mix)).eq;rw[l.mix]at v;have z:=(sU g' ts (by have:=m.1;omega) (wg m.mix)).eq;rw[m.mix]at z;have I:=Fo (sl g (aI ss)) (sl g' (aI ts));have F:=zy g g' ss ts (by have:=l.1;omega) (by have:=m.1;omega) (λs h=>by have:=(l.2 s h).2.1;omega) (λt h=>by have:=(m.2 t h).2.1;omega);obtain⟨d,f,N,M,H⟩:=M6 _ _ _ F (λx U=>by
  obtain⟨s,b,t,j,rfl⟩:=my.1 U;obtain⟨s,q,rfl⟩:=agX.1 b;obtain⟨t,u,rfl⟩:=agX.1 j;obtain⟨a1,a,a3⟩:=l.2 s q;obtain⟨b1,c,J⟩:=m.2 t u;refine Bf (by simp[a1]) (by rw[agM];omega) λp S=>?_;rcases agP.1 S with h|h
  .exact a3 p h
  .exact J p h) (max n 0) ap ap
 refine⟨d,f,N.iff λx=>?_,M,bf.eq (bD rfl rfl λQ L=>?_)⟩
 .unfold OA GW;constructor
  .rintro⟨A,⟨s,q,u⟩,⟨t,B,K⟩⟩;refine⟨_,my.2 ⟨_,agX.2 ⟨s,q,rfl⟩,_,agX.2 ⟨t,B,rfl⟩,rfl⟩,A,(je ap).2 ((fH s.fs t.fs x).2 ⟨u,K⟩)⟩
  .rintro⟨y,W,A,q⟩;obtain⟨s,b,t,j,rfl⟩:=my.1 W;obtain⟨s,u,rfl⟩:=agX.1 b;obtain⟨t,B,rfl⟩:=agX.1 j;obtain⟨X,Y⟩:=(fH s.fs t.fs x).1 ((je ap).1 q);exact⟨A,⟨s,u,X⟩,⟨t,B,Y⟩⟩
 .apply ai;simp;apply aU;simp[v,z];refine bG bv ?_;apply ai;simp[I,H];refine av (L _ _ ?_);simp
variable{Nb Mb:Int}
def TJ(h:wK Nb m t):((∀d,¬ lO t 0 t d)/\¬ rO [] t)↔∀d,0<=d->¬ ew t d:=by
 constructor
 .rintro⟨j,u⟩ d l;exact yz h.2.2 j u d l
 .intro s;refine⟨λd ⟨q,j,_⟩=>s d q ((je q).1 j),λv=>?_⟩;have g:∀p∈t,1<=p.aO/\p.aO ∣ 27720:=λp g=>⟨(bM (h.2.2 p g).ok).2.2.1,(h.2.2 p g).aO⟩
  obtain⟨d,x,y,l⟩:=Sn g v;refine s (d+27720*4) ap λp b=>?_;have:=(h.2.2 p b).fr;exact(uK (h.2.2 p b).mod ap).2 (HS g l 4 p b)
def jT.mono(h:jT Nb p)(b:Nb<=Mb):jT Mb p:=⟨h.ok,h.fr,h.aO,ahx h.bd b⟩
def Fl(g g':Tg)(us b:List (List aR))(m:us.length<=1000)(q:b.length<=1000)(d:∀s∈us,s.length<=1000)(j:∀t∈b,t.length<=1000) :
  ye I_ [.fp [sl g (aY us)] 0,.fp [sl g' (aY b)] 0] (qK us b):=by
 have h:=zy g g' (us.map λs=>⟨.fs,s⟩) (b.map λs=>⟨.fs,s⟩) (by simpa using m) (by simpa using q) (λs h=>by obtain⟨x,l,rfl⟩:=agX.1 h;exact d x l) (λs h=>by obtain⟨x,l,rfl⟩:=agX.1 h;exact j x l);have e:∀us:List (List aR),(us.map λs=>(⟨.fs,s⟩:cU)).map (·.fs)=us:=λus=>by rw[air];exact List.map_id _
 rw[VF,VF,e,e]at h;exact h
def JX{m1 m2 n1 n2:Nat}(i:1<=m1)(hm:m1+m2<=4)(hn:n1*n2<=64)(S:n1<=64)(U:n2<=64)(g g':Tg)(us A:List (List aR))(B:im Nb m1 n1 us)(F:im Nb m2 n2 A) :
  ∃H b,im Nb (m1+m2) (n1*n2) H/\(∀d,0<=d->(cS H d↔cS us d/\cS A d))/\bf tab I9 [.a [.f (sl g (aY us))],.a [.f (sl g' (aY A))]]=Eq (eO H b):=by
 have l:im Nb 4 64 us:=⟨ahd B.1 S,λu z=>⟨(B.2 u z).1,by have:=(B.2 u z).2.1;omega,(B.2 u z).2.2⟩⟩
 have v:im Nb 4 64 A:=⟨ahd F.1 U,λu z=>⟨(F.2 u z).1,by have:=(F.2 u z).2.1;omega,(F.2 u z).2.2⟩⟩
 have N:=mf g l;have O:=mf g' v;have M:=Fo (sl g (aY us)) (sl g' (aY A));have K:=Fl g g' us A (by have:=l.1;omega) (by have:=v.1;omega) (λs h=>by have:=(l.2 s h).2.1;omega) (λt h=>by have:=(v.2 t h).2.1;omega);have W:(qK us A).length<=n1*n2:=by
  rw[BQ];exact ajh B.1 F.1
 obtain⟨H,b,J,L⟩:=rB _ _ _ K (m:=m1+m2) ap ap (λx n=>by
  obtain⟨s,j,t,q,rfl⟩:=my.1 n;obtain⟨a1,r,a3⟩:=B.2 s j;obtain⟨b1,w,X⟩:=F.2 t q;refine⟨by simp[a1],by rw[agM];omega,λp k=>?_⟩;rcases agP.1 k with h|h
  .exact a3 p h
  .exact X p h) ap
 refine⟨H,b,⟨by have:=J.len;omega,J.ok⟩,λd f=>(J.mem d f).trans ?_,bf.eq (bD rfl rfl λQ e=>?_)⟩
 .constructor
  .rintro⟨y,o,I⟩;obtain⟨s,j,t,q,rfl⟩:=my.1 o;obtain⟨S,U⟩:=(fH s t d).1 I;exact⟨⟨s,j,S⟩,⟨t,q,U⟩⟩
  .rintro⟨⟨s,I,Y⟩,⟨t,a,c⟩⟩;exact⟨_,my.2 ⟨_,I,_,a,rfl⟩,(fH s t d).2 ⟨Y,c⟩⟩
 .apply ai;simp;apply aU;simp[N,O];refine bG bv ?_;apply ai;simp[M,L,eO];refine av (e _ _ ?_);simp[eO]
noncomputable def G6 (ps:List aR):Bool:=open Classical in decide (∀d,0<=d->¬ ew ps d)
def Zf(g:Tg)(h:wK Nb 4 t):Kf tab PR [G (sl g (aM t))] (vb (!G6 t)):=by
 have:=ahf.2 h.1;obtain⟨b,l,d⟩:=A6 g t (λp m=>(h.2.2 p m).mod) ap (by have:=h.2.1;omega);have e:b=G6 t:=by
  rw[aiq,l,TJ h];simp[G6]
 rw[e]at d;refine dd rfl rfl λH Q j=>?_;apply ai;simp;apply ai;simp[d];refine av (j _ _ ?_);simp
theorem BH(g:Tg){us:List (List aR)}(h:im Nb 4 64 us):∃e:Bool,(e=ae↔∀d,0<=d->¬ cS us d)/\bf tab ab4 [.a [.f (sl g (aY us))]]=Eq (vb e):=by
 have y:=(eR G2 (iF G3 us (λs=>[sl .fs (aM s)]) (λs=>G (sl .fs (aM s))) (λs=>!G6 s) g PR [] (by have:=h.1;omega)
  (λj z H=>by
   have:=gM (H:=H) (fo us) (j:=j) (row:=[sl .fs (aM us[j])]) (by simp[aY,z]) rfl
   assumption)
  (λs A=>Zf .fs (h.2 s A)))).eq
 have b:bf tab yc [G (sl g (aY us)),G (.fn PR [])]=Eq (vb (us.any λs=>!G6 s)):=y;have B:=mf g h;refine⟨!(us.any λs=>!G6 s),?_,bf.eq (bD rfl rfl λQ x=>?_)⟩
 .simp only[aii,List.any_eq_false,G6];constructor
  .rintro l d q ⟨u,v,m⟩
   grind
  .intro l u v;simp only[Bool.not_eq_false,decide_eq_true_eq];exact λd q m=>l d q ⟨u,v,m⟩
 .apply ai;simp;apply ai;simp[B,b];refine av (x _ _ ?_);simp
variable{Nb Mb:Int}
def ku(h:im Nb m n L)(j:Nb<=Mb)(l:m<=N)(q:n<=k):im Mb N k L:=
 ⟨ahd h.1 q,λu b=>⟨(h.2 u b).1,ahd (h.2 u b).2.1 l,λp s=>((h.2 u b).2.2 p s).mono j⟩⟩
def RT{n1 n2:Nat}(X:1<=m)(W:m<=4)(hn:n1+n2<=64)(g g':Tg)(us l:List (List aR))(Y:im Nb m n1 us)(a:im Nb m n2 l) :
  ∃q j,im Nb m (n1+n2) q/\(∀d,0<=d->(cS q d↔cS us d\/cS l d))/\bf tab wG [.a [.f (sl g (aY us))],.a [.f (sl g' (aY l))]]=Eq (eO q j):=by
 have e:=mf g (ku Y (ahY _) W (show n1<=64 by omega));have f:=mf g' (ku a (ahY _) W (show n2<=64 by omega));have a_:=Y.1;have b_:=a.1;obtain⟨r,⟨q,j,t,w,rfl⟩,h⟩:∃r,(∃q j,im Nb m (n1+n2) q/\(∀d,0<=d->(cS q d↔cS us d\/cS l d))/\r=eO q j)/\bf tab wG [.a [.f (sl g (aY us))],.a [.f (sl g' (aY l))]] r:=by
  refine dE rfl rfl λQ hQ=>?_;apply ai;simp;obtain⟨u,s⟩:=aH ([.box [.f (sl g (aY us))] 0,.box [.f (sl g' (aY l))] 0,.box [.f .aN] 0]:an);rw[<-s];have k:u[2]?=E [.f .aN]:=by rw[s];rfl
  have al:u.length=3:=by rw[s];rfl
  have l0:aV u (aa 1) (.c (.ptr 0 0 0))=aa (.a [.f (sl g (aY us))]):=by rw[s];simp[aV,az,aX]
  have l1:aV u (aa 1) (.c (.ptr 1 0 0))=aa (.a [.f (sl g' (aY l))]):=by rw[s];simp[aV,az,aX]
  have m0:aV u ab (.c (.ptr 0 0 0))=aa (G (sl g (aY us))):=by rw[s];simp[aV,az]
  have m1:aV u ab (.c (.ptr 1 0 0))=aa (G (sl g' (aY l))):=by rw[s];simp[aV,az]
  apply aU;simp[l0,l1,-aw,e,f];refine bG bv ?_;obtain⟨M,v⟩:=aH (u++[bV.box [.f (sl g (aY us)),.f (sl g' (aY l))] 0]);have n:M[u.length]?=E [.f (sl g (aY us)),.f (sl g' (aY l))]:=by rw[v];simp
  have o:M[2]?=E [.f .aN]:=by rw[v,AI ap];exact k
  have K:(aY us++aY l)=aY (us++l):=by simp[aY]
  obtain⟨r,I,z,c,rfl,y,U,-,-⟩:=vW (tab:=tab) (H:=M) (F:=GJ) (G9:=PD) (sz:=1) (bytes:=24) (zs:=[.aN]) YA YK ce rfl (b:=u.length) [(.f (sl g (aY us)),aY us),(.f (sl g' (aY l)),aY l)] n bv
   (λx O=>by
    simp only[ag8,aid,or_false]at O;rcases O with rfl|rfl
    .exact⟨fo _,λH' _=>⟨bv,lz (fo _)⟩⟩
    .exact⟨fo _,λH' _=>⟨bv,lz (fo _)⟩⟩)
   pu (iL pu ce)
  have y:LR I c 1 (aY (us++l)):=by
   rw[<-K];simpa using y
  have z:Ev tab (.fn GJ) [.c (.sl u.length 0 2 2 0 1)] M (.c c) I:=z;have p:I[2]?=E [.f .aN]:=by rw[U 2 (by rw[v,agM];omega)];exact o
  obtain⟨go,A⟩:=y.ex (fo _) 63;have A:fv 64 I c=aa (sl go (aY (us++l))):=A;have L:=mD (sl go (aY (us++l)));have c9:(us++l).length<=n1+n2:=by rw[agM];omega
  obtain⟨q,j,S,B⟩:=rB gG [.fp [sl go (aY (us++l))] 0] (us++l) (pA go _ ap) X W (λx O=>(agP.1 O).elim (Y.2 x) (a.2 x)) ap;obtain⟨N,J⟩:=aH (ez 64 c I);have i:N[2]?=E [.f .aN]:=by rw[J];exact y.x.E3 63 p
  have s2:dj N (.ptr 2 0 0) [.f (sl j (aY q))]=aa (N.set 2 (.box [.f (sl j (aY q))] 0)):=by simp[dj,i,over]
  have k2:(N.set 2 (.box [.f (sl j (aY q))] 0))[2]?=E [.f (sl j (aY q))]:=By (aj i);apply ai;simp[m0,m1,-aw,<-v,z.eq,A,deep,L,B,eO,<-J,s2,-bF];refine av (hQ _ _ _ ⟨q,j,⟨by have:=S.len;omega,S.ok⟩,λd hd=>by rw[S.mem d hd,iq],rfl⟩ ⟨rfl,eO q j,?_,by simp[eO,jd,dq,bC]⟩);simp[Km.results,cB,bC,k2,aX,eO]
 exact⟨q,j,t,w,h.eq⟩
def zF(o:Int):List FC:=[fi 0,.fs [fi 7] 1,fi (-1),.aN,fi o,.aN,fi 0,.aN]
def fT(o:Int):FC:=.fp [fi 0,.fs [fi 7] 1,fi (-1),.aN,fi o,.aN,fi 0,.aN,.aN,fi 1] 0
def afb:bf tab aex [.a [Z 0,.f (.fs [fi 7] 1),Z (-1),.f .aN]]=Eq (vb ae):=afD io
@[simp]theorem ac9 (H:an):bA H (.f .aN)=aa 0:=rfl
theorem SX(m:Int):Tc .neg (G (.int .i64 m))=aa (vi (IntKind.i64.wrap (0-m))):=rfl
def tN(n m:Int)(d:0<=m)(g:m<=4611686018427387904):bf tab Ym [vi n,vi m]=Eq (vb (decide (-m<=n)&&decide (n<=m))):=bf.eq (by
 refine bD rfl rfl λQ b=>?_;apply ai;simp;by_cases h:-m<=n
 .apply ai;simp[SX,a8 (n:=-m),h];refine av (b _ _ ?_);simp[h]
 .apply ai;simp[SX,a8 (n:=-m),h];refine av (b _ _ ?_);simp[h])
def NO(o:Int):bf tab Yl [.a ((zF o).map .f)]=Eq (.t [G (fT o),vb ae]):=bf.eq (by
 refine bD rfl rfl λQ b=>?_
 repeat' first
  |(refine av (b _ _ ?_))
  |(apply aE)
  |(apply ax)
  |(refine eL ?_)
  |(apply fe)
  |(apply au)
  |(apply aQ)
  |(refine bQ rfl ?_)
  |(refine aq ?_ ?_;focus (simp;done))
  |(refine aC ?_ ?_;focus (simp;done))
  |(apply ba;simp[zF])
 refine⟨rfl,.t [.c (.ptr 1 0 0),vb ae],by simp[Km.results,cB,bC],?_⟩;rfl)
def wk(o:Int)(j:-1080<=o)(l:o<=1080):bf tab Yk [.a ((zF o).map .f)]=Eq (.t [G (fT o),vb ae]):=bf.eq (by
 have b:=NO o;simp only[zF,IT,agN]at b;have d:=tN o 1080 ce ce;have g:=tN 0 2251799813685248 ce ce;simp[j,l]at d g;refine bD rfl rfl λQ m=>?_
 repeat' first
  |(refine av (m _ _ ?_))
  |(apply aE)
  |(apply ax)
  |(refine eL ?_)
  |(apply fe)
  |(apply au)
  |(apply aQ)
  |(refine bQ rfl ?_)
  |(refine aq ?_ ?_;focus (simp;done))
  |(refine aC ?_ ?_;focus (simp;done))
  |(apply ba;simp[zF,afb,b,d,g])
 simp)
def IL(o:Int)(d:-1080<=o)(g:o<=1080):bf tab Yg [.a ((zF o).map .f)]=Eq (vi 0):=bf.eq (by
 have b:=wk o d g;simp only[zF,IT,agN]at b;refine bD rfl rfl λQ j=>?_
 repeat' first
  |(refine av (j _ _ ?_))
  |(apply aE)
  |(apply aQ)
  |(refine aq ?_ ?_;focus (simp;done))
  |(refine aC ?_ ?_;focus (simp;done))
  |(apply ba;simp[zF,b])
 simp)
def gm(H:an)(cs:List FC)(i:Nat):aV H ab (G (.fp cs i))=(cs[i]?).map λx=>G x:=by
 by_cases h:i<cs.length
 .have e:cs.drop i=cs[i]::cs.drop (i+1):=agT h;rw[BY h];simp only[aV,az,e,IT,ahz,aX,Option.map_some]
 .have e:cs.drop i=[]:=List.drop_eq_nil_of_le ap;rw[List.getElem?_eq_none (Nat.le_of_not_lt h)];simp only[aV,az,e,agN,ahz,aX,Option.map_none]
def Bk(o t:Int)(H:an):Ev tab (.fn PN) [G (fT o),vi t] H (.c (.cl vN [.ptr H.length 0 0,.ptr (H.length+1) 0 0])) (H++[.box [.f (fT o)] 0,.box [Z t] 0]):=by
 obtain⟨r,H',h,rfl,rfl⟩:∃r H',Ev tab (.fn PN) [G (fT o),vi t] H r H'/\(r=.c (.cl vN [.ptr H.length 0 0,.ptr (H.length+1) 0 0])/\H'=H++[.box [.f (fT o)] 0,.box [Z t] 0]):=by
  refine dc rfl rfl λQ b=>?_;apply ai;simp;apply ai;simp;exact av (b _ _ _ rfl (dx bv) ⟨rfl,rfl⟩)
 exact h
def EG(d:H[n]?=E [.f (fT o)]):Ev tab (.fn vN) [.c (.yl m),.c (.ptr n 0 0),.c (.ptr N 0 0)] H (.t []) H:=by
 obtain⟨r,H',h,rfl,rfl⟩:∃r H',Ev tab (.fn vN) [.c (.yl m),.c (.ptr n 0 0),.c (.ptr N 0 0)] H r H'/\(r=.t []/\H'=H):=by
  have j:aV H ab (.c (.ptr n 0 0))=aa (G (fT o)):=by simp[aV,az,d]
  refine dc rfl rfl λQ g=>?_
  repeat' first
   |(refine av (g _ _ (.t []) rfl rfl ⟨rfl,rfl⟩))
   |(apply aE)
   |(apply ax)
   |(refine eL ?_)
   |(apply au)
   |(apply aQ)
   |(refine bQ rfl ?_)
   |(refine aq ?_ ?_;focus (simp;done))
   |(refine aC ?_ ?_;focus (simp;done))
   |(apply ba;simp[j,fT,-aw,gm])
 exact h
theorem Bv{j:List gY}{Q:Option aD->St->Prop}{x:Arg}{ps:List P}{bd:aD}{bp bl:Nat}(m:x.ev a=.c (.cl vN [.ptr bp 0 0,.ptr bl 0 0]))(l:H[bp]?=E [.f (fT o)])
  (h:WP tab n ab B ⟨a,.dR H.length::j,H++[.dH ae,.lp n a ps f bd .exhausted ab H.length]⟩ Q):WP tab n ab (.code (.nL x ps f bd)::B) ⟨a,j,H⟩ Q:=by
 refine dC (g:=vN) (by rw[m];rfl) (EG (o:=o) (by rw[AI (aj l)];exact l)) ?_;have d:(H++[bV.dH ae,.lp n a ps f bd .ready ab H.length])[H.length+1]?=aa (.lp n a ps f bd .ready ab H.length):=by
  simp
 refine dX d ce ?_;rw[List.set_append_right _ _ (by omega)];simpa using h
def Dv(o:Int):bf tab GU [G (fT o)]=Eq (vi 0):=by
 obtain⟨r,rfl,h⟩:∃r,r=vi 0/\bf tab GU [G (fT o)] r:=by
  refine iX YU rfl λQ d=>?_;have b:=Bk o 0 [.box [Z 0] 0];simp[fT]at b;apply ai;simp;apply aU;simp[fT,gm,b.eq];apply ax;refine Bv (o:=o) (bp:=1) (bl:=2) bv rfl ?_
  repeat' first
   |(apply aE)
   |(apply au)
   |(apply aQ)
   |(refine aq ?_ ?_;focus (simp;done))
   |(refine aC ?_ ?_;focus (simp;done))
   |(apply ba;simp[gm])
  refine av (d _ _ _ rfl (.inr ⟨3,rfl,bv,vi 0,by simp[Km.results,cB,bC,aX],by simp[jd]⟩))
 exact h.eq
def vw(o:Int):List FC:=[fi o,fi (-9007199254740992),fi 9007199254740992,fi (-9007199254740992),fi 9007199254740992]
def aad(b:Bool):Tc .not (G (.bool b))=aa (vb !b):=rfl
theorem Fv{e:Int}{b:Nat}{S:an->Prop}
  (W:∀x:bV,∃r H',Ev tab (.yield b) [.a ((vw o).map .f)] (H++[.box [.yl b] 0,.box ((vw o).map .f) 0,.box [.f (fT o)] 0,.box [Z (-2251799813685248)] 0,.dH ae,x]) r H'/\H'[H.length+4]?=aa (.dH ae)/\(∃v,r=vb v)/\S (H'.set (H.length+4) (.dH ag))) :
  ∃s,Ev tab (.fn pW) [.c (.yl b),G (.fp [fT o] 0),G (.fp [fi e] 0)] H (.t []) s/\S s:=by
 obtain⟨r,s,h,rfl,U⟩:∃r s,Ev tab (.fn pW) [.c (.yl b),G (.fp [fT o] 0),G (.fp [fi e] 0)] H r s/\(r=.t []/\S s):=by
  refine Hh YT rfl λQ n=>?_;obtain⟨b0,d⟩:=aH (H.length);obtain⟨K,j⟩:=aH (H++[.box [.yl b] 0]:an);have N:K.length=b0+1:=by rw[j,d];simp
  obtain⟨I,l⟩:=aH (K++[.box [Z o,Z (-9007199254740992),Z 0,Z (-9007199254740992),Z 0] 0]:an);have bl:I.length=b0+2:=by rw[l];simp[N]
  have q:=Bk o (-2251799813685248) I;rw[bl]at q;have X:∀H:an,aV H ab (G (.fp [fT o] 0))=aa (G (fT o)):=λH=>by rw[gm];rfl
  apply ai;simp;rw[<-j,<-d];have s4:dj (K++[.box [Z 0,Z 0,Z 0,Z 0,Z 0] 0]) (.ptr (b0+1) 0 0) [Z o,Z (-9007199254740992),Z 0,Z (-9007199254740992),Z 0]=aa I:=by rw[l,<-N];simp[dj,over]
  simp only[fT]at X q;apply ai;simp[X,fT,gm,-aw,N,s4,-bF];apply aU;simp[X,-aw,q.eq];apply ax;obtain⟨L,g⟩:=aH (I++[.box [.f (fT o)] 0,.box [Z (-2251799813685248)] 0]:an);have cl:L.length=b0+4:=by rw[g];simp[bl]
  simp only[fT]at g;rw[<-g];refine Bv (o:=o) (bp:=b0+2) (bl:=b0+2+1) bv (by rw[g,agL ap];simp[bl,fT]) ?_;apply au;rw[cl]
  suffices go:∀(t:T) (x:bV),t.g 3=.c (.ptr b0 0 0)->t.g 4=.c (.ptr (b0+1) 0 0)->WP tab pW ab [.code Lv] ⟨t,[.dR (b0+4)],L++[.dH ae,x]⟩ Q by exact go _ _ bv bv
  intro t x k a;obtain⟨M,z⟩:=aH (L++[.dH ae,x]:an);rw[<-z];have Y:M[b0+1]?=E [Z o,Z (-9007199254740992),Z 0,Z (-9007199254740992),Z 0]:=by
   grind
  obtain⟨J,m⟩:=aH (M.set (b0+1) (.box [Z o,Z (-9007199254740992),Z 9007199254740992,Z (-9007199254740992),Z 0] 0):an);have s1:dj M (.ptr (b0+1) 2 0) [Z 9007199254740992]=aa J:=by rw[m];simp[dj,Y,over]
  have c:J[b0+1]?=E [Z o,Z (-9007199254740992),Z 9007199254740992,Z (-9007199254740992),Z 0]:=by rw[m];exact By (aj Y)
  obtain⟨u,A⟩:=aH (J.set (b0+1) (.box ((vw o).map .f) 0):an);have s2:dj J (.ptr (b0+1) 4 0) [Z 9007199254740992]=aa u:=by rw[A];simp[dj,c,over,vw]
  have O:u=H++[.box [.yl b] 0,.box ((vw o).map .f) 0,.box [.f (fT o)] 0,.box [Z (-2251799813685248)] 0,.dH ae,x]:=by
   rw[A,m,List.set_set,z,g,l,j];simp[d,fT]
  have f:u[b0]?=E [.yl b]:=by rw[O,d,agL ap];simp
  have i:u[b0+1]?=E ((vw o).map .f):=by rw[O,d,agL ap];simp
  have p:aV u ab (.c (.ptr b0 0 0))=aa (.c (.yl b)):=by simp[aV,az,f]
  have w:aV u (aa 5) (.c (.ptr (b0+1) 0 0))=aa (.a ((vw o).map .f)):=by simp[aV,az,i,aX,vw]
  obtain⟨r,H',F,B,⟨v,rfl⟩,U⟩:=W x;rw[<-O]at F;apply ai;simp[a,s1,s2,-bF];apply ba;simp[k,a,p,w,-aw,cr,F.eq];rw[<-d]at B U;exact cN (n _ _ (.t []) ⟨[b0+4],rfl,⟨bv,λy W=>by rw[If.1 W];exact B⟩,rfl,rfl,U⟩)
 grind
def MD(o:Int)(H:an):Ev tab (.fn pV) [.a ((vw o).map .f)] H (.a [Z (-9007199254740992),Z 9007199254740992]) (H++[.box ((vw o).map .f) 0,.box [Z (-9007199254740992),Z 9007199254740992] 0]):=by
 obtain⟨r,H',h,rfl,rfl⟩:∃r H',Ev tab (.fn pV) [.a ((vw o).map .f)] H r H'/\(r=.a [Z (-9007199254740992),Z 9007199254740992]/\H'=H++[.box ((vw o).map .f) 0,.box [Z (-9007199254740992),Z 9007199254740992] 0]):=by
  refine dc rfl rfl λQ j=>?_;obtain⟨b0,b⟩:=aH (H.length);have d:aV (H++[.box ((vw o).map .f) 0,.box [Z 0,Z 0] 0]) (aa 2) (.c (.ptr b0 1 0))=aa (.a [Z (-9007199254740992),Z 9007199254740992]):=by simp[b,aV,az,aX,vw]
  have g:dj (H++[.box ((vw o).map .f) 0,.box [Z 0,Z 0] 0]) (.ptr (b0+1) 0 0) [Z (-9007199254740992),Z 9007199254740992]=aa (H++[.box ((vw o).map .f) 0,.box [Z (-9007199254740992),Z 9007199254740992] 0]):=by simp[b,dj,over,agL,aij]
  apply ai;simp only[vw,IT,agN]at d g ⊢;simp[<-b];apply ai;simp[d,g,-aw,-bF];refine av (j _ _ _ rfl ?_ ⟨rfl,rfl⟩);simp[Km.results,cB,bC,b,aX]
 exact h
def ae8:bf tab Vx [.a [.f (.fs [fi 0,fi 1,fi 2] 3),Z 3,Z 1,.f (.fs [fi 0] 1)]]=Eq (.t [.a [.f .es,Z 0,Z 1,.f (.fs [fi 0] 1)],vi 0]):=bf.eq (aZ (m:=300) (d:=60) io)
def afz:bf tab PQ [G (.int .u64 1)]=Eq (vi 1):=bf.eq (aZ (m:=300) (d:=60) io)
def QR(o m:Int)(y:bV):an:=[.box ((zF o).map .f) 0,.box [Z m] 0,.box [.f (.fn pV [])] 0,.box [Z 4] 0,.map [],.box [.mp 4] 0,.dH ae,y]
def He(K:0<=d)(m1:d<1440){g:T}(J:g.g 3=.c (.ptr 0 0 0))(u:g.g 4=.c (.ptr 1 0 0))(F:g.g 5=.c (.ptr 2 0 0))(j:g.g 13=.c (.ptr 3 0 0))(m:g.g 14=.c (.ptr 5 0 0))(x:bV) :
  ∃r H',Ev tab (.yield 7) [.a ((vw o).map .f)] (QR o d (.lp pX g [Km.P.nat 69] qY qZ .ready ab 6)++[.box [.yl 7] 0,.box ((vw o).map .f) 0,.box [.f (fT o)] 0,.box [Z (-2251799813685248)] 0,.dH ae,x]) r H'/\(r=vb ae/\
   H'=[.box ((zF o).map .f) 0,.box [Z d] 0,.box [.f (.fn pV [])] 0,.box [Z 4] 0,.map [(fi o,.sl 19 0 1 0 0 2)],.box [.mp 4] 0,.dH ae,.lp pX g [Km.P.nat 69] qY qZ .ready ab 6,.box [.yl 7] 0,.box ((vw o).map .f) 0,.box [.f (fT o)] 0,.box [Z (-2251799813685248)] 0,.dH ae,x,.box ((vw o).map .f) 0,.box ((vw o).map .f) 0,.box [Z (-9007199254740992),Z 9007199254740992] 0,.box [Z (-9007199254740992),Z 9007199254740992] 0,.box [Z 0,Z 4] 0,.dz 2 [Z 0,Z 4] 0 0 .loc]):=by
 have v:=λH=>(MD o H).eq;simp only[vw,IT,agN]at v;have y:=fL (-9007199254740992-d+1440-1) 1440 ce ap ap;have z:=fL (9007199254740992-d+1440-1) 1440 ce ap ap;have A:max ((-9007199254740992-d+1440-1) / 1440) 0=0:=ii
 have B:min ((9007199254740992-d+1440-1) / 1440) 4=4:=ii
 refine dm (tab:=tab) (b:=7) rfl rfl λI l=>?_;refine aF (.inr rfl) ?_;simp[QR,vw,zF];refine eM rfl ?_;simp;apply ax;refine aE (aF (.inr rfl) ?_);simp[F,cr,v];refine aE (aF (.inr rfl) ?_);simp[u,a8 (n:=-9007199254740992-d),a8 (n:=-9007199254740992-d+1440),a8 (n:=-9007199254740992-d+1440-1),y];refine aE (aF (.inr rfl) ?_);simp[u,a8 (n:=9007199254740992-d),a8 (n:=9007199254740992-d+1440),a8 (n:=9007199254740992-d+1440-1),z];refine aE (aF (.inr rfl) ?_);simp[j,A,B];refine aE (aF (.inr rfl) ?_);simp;refine aq bv ?_;refine eH (.inr rfl) ?_ ?_
 case refine_2=>
  intro cc s;have q:cc=(0,12)\/cc=(2,12):=by simpa using s
  rcases q with rfl|rfl
  .refine⟨ce,_,rfl,.inl ⟨ce,?_⟩⟩;simp[m,gE,V.beq,C.beq,FC.beq,iB,rM,oZ,gN,pJ,nH,qH,S9,isKey,bZ,dI,bA,dy,cF,qB,zV,Ae]
  .refine⟨ce,_,rfl,.inl ⟨ce,?_⟩⟩;simp[m,gE,V.beq,C.beq,FC.beq,iB,rM,oZ,gN,pJ,nH,qH,S9,isKey,bZ,dI,bA,dy,cF,qB,zV,Ae]
 simp[m,iB,rM,oZ,gN,pJ,nH,qH,S9,isKey,bZ,dI,bA,dy,cF,qB,zV,Ae];exact au (cN (l _ _ _ _ _ _ _ _ _ _ rfl rfl ⟨rfl,rfl⟩))
def ZZ(o e:Int):bf tab Yj [G (fT o),vi e]=Eq (G (.fn pW [.fp [fT o] 0,.fp [fi e] 0])):=bf.eq (by
 refine bD rfl rfl λQ b=>?_;apply ai;simp;apply ai;simp;refine av (b _ _ ⟨rfl,.c (.cl pW [.ptr 0 0 0,.ptr 1 0 0]),by simp[Km.results,cB,bC],?_⟩);rfl)
def wi1:IntKind.i64.wrap 1=1:=pi
def wu1:IntKind.u64.wrap 1=1:=pi
def Ss(o:Int):List FC:=[fi o,.es,fi 0,fi 1,.fs [fi 0] 1]
def ZB(c:C)(H:an)(g:V):Ev tab (.fn PK) [.c c,vi 0,vi 1,g] H (.t []) H:=by
 obtain⟨r,H',h,rfl,rfl⟩:∃r H',Ev tab (.fn PK) [.c c,vi 0,vi 1,g] H r H'/\(r=.t []/\H'=H):=by
  refine dc rfl rfl λQ b=>?_
  repeat' first
   |(refine cN (b _ _ (.t []) rfl rfl ⟨rfl,rfl⟩))
   |(refine av (b _ _ (.t []) rfl rfl ⟨rfl,rfl⟩))
   |(apply aE)
   |(apply ax)
   |(refine eL ?_)
   |(apply au)
   |(apply aQ)
   |(refine bQ rfl ?_)
   |(refine aq ?_ ?_;focus (simp;done))
   |(refine aC ?_ ?_;focus (simp;done))
   |(apply ba;simp[wi1])
 exact h
def afE(c:C)(H:an)(g:V)(n:Int):Ev tab (.fn PL) [.c c,vi 0,vi 1,vi n,g] H (.t []) H:=by
 obtain⟨r,H',h,rfl,rfl⟩:∃r H',Ev tab (.fn PL) [.c c,vi 0,vi 1,vi n,g] H r H'/\(r=.t []/\H'=H):=by
  have hi:=(ZB c H g).eq;refine dc rfl rfl λQ b=>?_
  repeat' first
   |(refine cN (b _ _ (.t []) rfl rfl ⟨rfl,rfl⟩))
   |(refine av (b _ _ (.t []) rfl rfl ⟨rfl,rfl⟩))
   |(apply aE)
   |(apply ax)
   |(refine eL ?_)
   |(apply au)
   |(apply aQ)
   |(refine bQ rfl ?_)
   |(refine aq ?_ ?_;focus (simp;done))
   |(refine aC ?_ ?_;focus (simp;done))
   |(apply ba;simp[hi,wi1])
 exact h
def adx(g:V)(d:bA H u=aa 1):Ev tab (.fn PG) [.c u,g] H (.t []) H:=by
 obtain⟨r,H',h,rfl,rfl⟩:∃r H',Ev tab (.fn PG) [.c u,g] H r H'/\(r=.t []/\H'=H):=by
  have hi:=λn=>(afE u H g n).eq;refine dc rfl rfl λQ b=>?_
  repeat' first
   |(refine cN (b _ _ (.t []) rfl rfl ⟨rfl,rfl⟩))
   |(refine av (b _ _ (.t []) rfl rfl ⟨rfl,rfl⟩))
   |(apply aE)
   |(apply ba;simp[d,hi,wu1,afz])
 exact h
def S6(t:T)(H:an)(x:Arg):cA t H (.mU x)=xQ H (x.ev t):=rfl
def Vc(t:T)(H:an)(x:Arg):cA t H (.qI x)=Db H (x.ev t):=rfl
def Vb(t:T)(H:an)(x:Arg):cA t H (.entry x)=(oS H (x.ev t)).map (·,H):=rfl
def wiL:IntKind.i64.wrap 3=3/\IntKind.i64.wrap 4=4/\IntKind.i64.wrap 7=7/\IntKind.i64.wrap 10080=10080/\IntKind.i64.wrap 2=2/\max (3:Int) 0=3/\IntKind.i64.wrap 0=0:=pi
def MC(o m:Int)(M:-1080<=o)(N:o<=1080)(X:0<=m)(m1:m<1440):bf tab pX [.a ((zF o).map .f),vi m,G (.fn pV [])]=Eq (.t [G (.fs (Ss o) 1),vi 0]):=by
 obtain⟨r,rfl,h⟩:∃r,r=.t [G (.fs (Ss o) 1),vi 0]/\bf tab pX [.a ((zF o).map .f),vi m,G (.fn pV [])] r:=by
  have s:=wk o M N;have v:=Dv o;have q:=fL 0 1440 ce ce ce;have u:=ZZ o 10080;have Y:¬ m<0:=ii
  have n1:¬ 1440<=m:=ii
  simp only[zF,IT,agN,fT]at s v u;simp at q;refine iX YV rfl λQ O=>?_
  repeat' first
   |(apply aE)
   |(apply ax)
   |(apply aQ)
   |(refine aq ?_ ?_;focus (simp;done))
   |(refine aC ?_ ?_;focus (simp;done))
   |(apply ba;simp[zF,s,v,q,u,Y,n1,wi1,wiL,fT,gm,DE])
  suffices go:∀d:T,d.g 3=.c (.ptr 0 0 0)->d.g 4=.c (.ptr 1 0 0)->d.g 5=.c (.ptr 2 0 0)->d.g 8=G (fT o)->d.g 12=vi 3->d.g 13=.c (.ptr 3 0 0)->d.g 14=.c (.ptr 5 0 0)->d.g 68=G (.fn pW [.fp [fT o] 0,.fp [fi 10080] 0])->
    WP tab pX ab [.code Lw,.inBlock 0,.code Lx] ⟨d,[],[.box ((zF o).map .f) 0,.box [Z m] 0,.box [.f (.fn pV [])] 0,.box [Z 4] 0,.map [],.box [.mp 4] 0]⟩ Q by
   exact go _ bv bv bv (by simp[fT]) bv bv bv (by simp[fT])
  intro d I J K L y z j A;obtain⟨F,U,x,rfl⟩:=Fv (o:=o) (e:=10080) (b:=7) (H:=QR o m (.lp pX d [Km.P.nat 69] qY qZ .ready ab 6)) (S:=λF=>∃x,F=[.box ((zF o).map .f) 0,.box [Z m] 0,.box [.f (.fn pV [])] 0,.box [Z 4] 0,.map [(fi o,.sl 19 0 1 0 0 2)],.box [.mp 4] 0,.dH ae,.lp pX d [Km.P.nat 69] qY qZ .ready ab 6,.box [.yl 7] 0,.box ((vw o).map .f) 0,.box [.f (fT o)] 0,.box [Z (-2251799813685248)] 0,.dH ag,x,.box ((vw o).map .f) 0,.box ((vw o).map .f) 0,.box [Z (-9007199254740992),Z 9007199254740992] 0,.box [Z (-9007199254740992),Z 9007199254740992] 0,.box [Z 0,Z 4] 0,.dz 2 [Z 0,Z 4] 0 0 .loc])
   (λx=>by
    obtain⟨r,H',B,rfl,l⟩:=He (o:=o) X m1 I J K z j x;exact⟨_,H',B,by rw[l];rfl,⟨ae,rfl⟩,x,by rw[l];rfl⟩)
  refine dC (g:=pW) (by rw[mF,A];simp[cr]) U ?_;refine dX rfl ce (au ?_);have W:=λ(H:an) (h:bA H (.sl 31 0 1 0 0 5)=aa 1)=>(adx (G (.fn 368 [])) h).eq;simp only[List.set_cons_succ,aio,ahk,ah7,vw,zF,IT,agN]
  repeat' first
   |(apply aE)
   |(apply ax)
   |(refine eL ?_)
   |(apply fe)
   |(apply au)
   |(apply aQ)
   |(refine bQ rfl ?_)
   |(refine aq ?_ ?_;focus (simp;done))
   |(refine aC ?_ ?_;focus (simp;done))
   |(apply ba;simp[L,y,j,wi1,wiL,gm,fT,S6,Vc,Vb,xQ,Db,oS,bA,bZ,dI,dy,cF,bO,mV,ae8,V.bool,fE,gR,jY,deep,bC,W])
  refine av (O _ _ _ rfl (.inr ⟨6,rfl,rfl,.t [.c (.sl 31 0 1 0 0 5),vi 0],by simp[Km.results,cB,bC],by simp[jd,dq,gR,deep,bC,Ss]⟩))
 exact h.eq
variable{Nb:Int}
def D6:aR:=⟨.es,[],0,1,.fs,[0]⟩
def Qn:jT 12 D6:=⟨ce,ce,ce,ce⟩
theorem Qm(d:Int)(b:0<=d):bE D6 d=ae:=by
 unfold bE D6
 grind
def ZM:bf tab Vp [.a [.f .es,Z 0,Z 1,.f (.fs [fi 0] 1)]]=Eq (.a [.f (sl .fs (aY [[D6]]))]):=bf.eq (aZ (m:=300) (d:=60) io)
def Ly(o m:Int)(d:-1080<=o)(g:o<=1080)(l:0<=m)(m1:m<1440):bf tab Yf [.a ((zF o).map .f),vi m]=Eq (.t [G (.fs (Ss o) 1),vi 0]):=bf.eq (by
 have b:=MC o m d g l m1;simp only[zF,IT,agN]at b;refine bD rfl rfl λQ j=>?_
 repeat' first
  |(refine av (j _ _ ?_))
  |(apply aE)
  |(apply ba;simp[zF,b])
 simp)
def _root_.Km.Kp.tr{L:an}(h:Kp H K)(d:Kp K L):Kp H L:=⟨ahd h.1 d.1,λb l=>(d.2 b (ah2 l h.1)).trans (h.2 b l)⟩
def _root_.Km.Kp.get(h:Kp H K){i:Nat}(hi:H[i]?=aa A):K[i]?=aa A:=by rw[h.2 i (aj hi)];exact hi
def _root_.Km.Kp.rW(h:Kp H K)(hi:H.length<=m)(x:bV):Kp H (K.set m x):=⟨by simpa using h.1,λb l=>by rw[sh ap];exact h.2 b l⟩
def xw:aR:=⟨.nil,[],0,1,.fs,[0]⟩
def S1:FC:=sl .fs (aY [[xw]])
def E1:FC:=sl .fs (aY [[D6]])
def pO(lo hi:Int):FC:=.fs [S1,fi lo,fi hi] 1
def mT(lo hi:Int)(cl:FC):List FC:=[fi 0,.fs [fi 7] 1,fi (-1),.aN,fi 0,.aN,fi 0,.aN,pO lo hi,cl]
def acT{cl:FC}(s:H[0]?=E ((mT o z cl).map .f))(l:bf tab A1 [G cl]=Eq (.a [.f r]))(m:bf tab DR [.a [.f v],.a [.f r]]=Eq (.t [.a [.f w],vi 0])):∃u H',Ev tab (.fn P3) [.a [.f v],.c (.ptr 0 0 0)] H u H'/\(u=.t [.a [.f w],vi 0]/\Kp H H'):=by
 refine dc rfl rfl λQ q=>?_;have x:∀K:an,Kp H K->aV K ab (.c (.ptr 0 9 0))=aa (G cl):=λK b=>by simp[aV,az,b.get s,mT]
 apply ai;simp;have b:=Kp.push H [bV.box [C.f v] 0,bV.box [C.f FC.aN] 0];have g:(H++[bV.box [C.f v] 0,bV.box [C.f FC.aN] 0])[H.length]?=E [.f v]:=lw
 have d:(H++[bV.box [C.f v] 0,bV.box [C.f FC.aN] 0])[H.length+1]?=E [.f .aN]:=lw
 generalize H++[bV.box [C.f v] 0,bV.box [C.f FC.aN] 0]=K at b g d ⊢;have y:dj K (.ptr (H.length+1) 0 0) [.f w]=aa (K.set (H.length+1) (.box [.f w] 0)):=by simp[dj,d,over]
 have j:aV K (aa 1) (.c (.ptr H.length 0 0))=aa (.a [.f v]):=by simp[aV,az,g,aX]
 apply ai;simp[j,x K b,l,m,y,-aw,-bF];refine av (q _ _ _ rfl ?_ ⟨rfl,b.rW ap _⟩);simp[Km.results,bC,aj d,aX]
def acH:bf tab aci [vi 0]=Eq (G (.fn AZ [.fp [fi 0] 0])):=bf.eq (by
 refine bD rfl rfl λQ b=>?_;apply ai;simp;apply ai;simp;refine av (b _ _ ?_);simp[deep])
def VB(h:bf tab wH [.a [.f v],vi 0]=Eq (.t [.a [.f w],vi 0])):∃r H',Ev tab (.fn AZ) [.a [.f v],G (.fp [fi 0] 0)] H r H'/\(r=.t [.a [.f w],vi 0]/\Kp H H'):=by
 refine dc rfl rfl λQ m=>?_;apply ai;simp;have g:=Kp.push H [bV.box [C.f v] 0,bV.box [C.f FC.aN] 0];have j:(H++[bV.box [C.f v] 0,bV.box [C.f FC.aN] 0])[H.length]?=E [.f v]:=lw
 have d:(H++[bV.box [C.f v] 0,bV.box [C.f FC.aN] 0])[H.length+1]?=E [.f .aN]:=lw
 generalize H++[bV.box [C.f v] 0,bV.box [C.f FC.aN] 0]=K at g j d ⊢;have q:dj K (.ptr (H.length+1) 0 0) [.f w]=aa (K.set (H.length+1) (.box [.f w] 0)):=by simp[dj,d,over]
 have l:aV K (aa 1) (.c (.ptr H.length 0 0))=aa (.a [.f v]):=by simp[aV,az,j,aX]
 apply ai;simp[l,lU,h,q,-aw,-bF];refine av (m _ _ _ rfl ?_ ⟨rfl,g.rW ap _⟩);simp[Km.results,bC,aj d,aX]
def acU(m:bf tab Vp [.a [.f .es,Z 0,Z 1,.f (.fs [fi 0] 1)]]=Eq (.a [.f r]))(q:bf tab I9 [.a [.f r],.a [.f v]]=Eq (.t [.a [.f w],vi 0]))(u:H[n]?=E [Z 0,.f .es,Z 0,Z 1,.f (.fs [fi 0] 1)]):∃e H',Ev tab (.fn P4) [.a [.f v],.c (.ptr n 0 0)] H e H'/\(e=.t [.a [.f w],vi 0]/\Kp H H'):=by
 refine dc rfl rfl λQ s=>?_;have x:∀K:an,Kp H K->aV K (aa 4) (.c (.ptr n 1 0))=aa (.a [.f .es,Z 0,Z 1,.f (.fs [fi 0] 1)]):=λK d=>by simp[aV,az,d.get u,aX]
 apply ai;simp;have d:=Kp.push H [bV.box [C.f v] 0,bV.box [C.f FC.aN] 0];have j:(H++[bV.box [C.f v] 0,bV.box [C.f FC.aN] 0])[H.length]?=E [.f v]:=lw
 have g:(H++[bV.box [C.f v] 0,bV.box [C.f FC.aN] 0])[H.length+1]?=E [.f .aN]:=lw
 generalize H++[bV.box [C.f v] 0,bV.box [C.f FC.aN] 0]=K at d j g ⊢;have y:dj K (.ptr (H.length+1) 0 0) [.f w]=aa (K.set (H.length+1) (.box [.f w] 0)):=by simp[dj,g,over]
 have l:aV K (aa 1) (.c (.ptr H.length 0 0))=aa (.a [.f v]):=by simp[aV,az,j,aX]
 apply ai;simp[l,x K d,m,q,y,-aw,-bF];refine av (s _ _ _ rfl ?_ ⟨rfl,d.rW ap _⟩);simp[Km.results,bC,aj g,aX]
def VG(q:H[n]?=E [.f r])(h:bf tab wG [.a [.f r],.a [.f v]]=Eq (.t [.a [.f w],vi 0])):∃u H',Ev tab (.fn pE) [.a [.f v],.c (.ptr n 0 0)] H u H'/\(u=.t [.a [.f w],vi 0]/\Kp H H'):=by
 refine dc rfl rfl λQ m=>?_;have s:∀K:an,Kp H K->aV K (aa 1) (.c (.ptr n 0 0))=aa (.a [.f r]):=λK d=>by simp[aV,az,d.get q,aX]
 apply ai;simp;have d:=Kp.push H [bV.box [C.f v] 0,bV.box [C.f FC.aN] 0];have j:(H++[bV.box [C.f v] 0,bV.box [C.f FC.aN] 0])[H.length]?=E [.f v]:=lw
 have g:(H++[bV.box [C.f v] 0,bV.box [C.f FC.aN] 0])[H.length+1]?=E [.f .aN]:=lw
 generalize H++[bV.box [C.f v] 0,bV.box [C.f FC.aN] 0]=K at d j g ⊢;have x:dj K (.ptr (H.length+1) 0 0) [.f w]=aa (K.set (H.length+1) (.box [.f w] 0)):=by simp[dj,g,over]
 have l:aV K (aa 1) (.c (.ptr H.length 0 0))=aa (.a [.f v]):=by simp[aV,az,j,aX]
 apply ai;simp[l,s K d,h,x,-aw,-bF];refine av (m _ _ _ rfl ?_ ⟨rfl,d.rW ap _⟩);simp[Km.results,bC,aj g,aX]
def zR{cs:List C}(h:cs[k]?=aa u):aX ab (cs.drop k)=aa (.c u):=by
 have b:=(aft.1 h).1;have e:=BY b;rw[h]at e;rw[agT b,<-ajq e];rfl
def Em{b:Nat}(cs:List C)(d:List FC)(k:d.length=cs.length+1)(i:cs.length<=100)(I:H[b]?=E cs)
  (step:∀(j:Nat) (L:j<cs.length) (K:an),Kp H K->∃f N r q,cr (.c cs[j]) [.a [.f (d[j]'(by omega))]]=aa (f,N)/\Ev tab f N K r q/\(r=.t [.a [.f (d[j+1]'(by omega))],vi 0]/\Kp K q)) :
  ∃r H',Ev tab (.fn P6) [.a [.f (d[0]'(by omega))],.c (.sl b 0 cs.length cs.length 0 1)] H r H'/\(r=.t [.a [.f (d[cs.length]'(by omega))],vi 0]/\Kp H H'):=by
 refine dc rfl rfl λQ a=>?_;have c:=aj I;have o:∀K:an,Kp H K->∀j:Nat,(h:j<cs.length)->bO K 1 ab (.c (.sl b 0 cs.length cs.length 0 1)) (vi j)=aa (.c (.ptr b j 0))/\aV K ab (.c (.ptr b j 0))=aa (.c cs[j]):=λK x j h=>by
  have g:=x.get I;refine⟨?_,?_⟩
  .simp[bO,show fE (vi (j:Int))=aa (j:Int) from rfl,g,h]
  .rw[aw,g];exact zR (BY h)
 apply ai;simp;have x:=Kp.push H [bV.box [C.f (d[0]'(by omega))] 0,bV.box [C.f FC.aN] 0];have W:(H++[bV.box [C.f (d[0]'(by omega))] 0,bV.box [C.f FC.aN] 0])[H.length]?=E [.f (d[0]'(by omega))]:=lw
 have X:(H++[bV.box [C.f (d[0]'(by omega))] 0,bV.box [C.f FC.aN] 0])[H.length+1]?=E [.f .aN]:=lw
 generalize H++[bV.box [C.f (d[0]'(by omega))] 0,bV.box [C.f FC.aN] 0]=Y at x W X ⊢;apply aU;have len:∀K:an,Kp H K->bA K (.sl b 0 cs.length cs.length 0 1)=aa cs.length:=λK x=>by simp[bA,x.get I]
 simp[len Y x];refine bW cs.length (λj t K=>t.g 1=.c (.sl b 0 cs.length cs.length 0 1)/\t.g 10=.c (.sl b 0 cs.length cs.length 0 1)/\t.g 2=.c (.ptr H.length 0 0)/\t.g 4=.c (.ptr (H.length+1) 0 0)/\Kp H K/\(∀h:j<d.length,K[H.length]?=E [.f d[j]])/\K[H.length+1]?=E [.f .aN]) ap ce ce bv bv
  ⟨bv,bv,bv,bv,x,λ_=>W,X⟩ ?_ ?_
 .rintro j t K L ⟨O,s,z,B,A,m,F⟩ S g next
  obtain⟨n,p⟩:=o K A j L;have m:=m ap;obtain⟨f,as',r,q,e,J,rfl,u⟩:=step j L K A;have J:=J.eq;have M:aV K (aa 1) (.c (.ptr H.length 0 0))=aa (.a [.f (d[j]'(by omega))]):=by simp[aV,az,m,aX]
  have U:=u.get m;have n':=u.get F;apply ax;apply ai;simp[s,S,n,p,-aw];apply ai;simp[z,M,e,J,-aw];obtain⟨y,v⟩:=aH (q++[bV.box [.f (d[j+1]'(by omega))] 0]:an);have p2:y[q.length]?=E [.f (d[j+1]'(by omega))]:=by rw[v];simp
  have l:Kp q y:=by rw[v];exact Kp.push _ _
  rw[<-v];apply aU;simp;refine bG bv ?_;have w:aV y (aa 1) (.c (.ptr q.length 0 0))=aa (.a [.f (d[j+1]'(by omega))]):=by simp[aV,az,p2,aX]
  have s2:dj y (.ptr H.length 0 0) [.f (d[j+1]'(by omega))]=aa (y.set H.length (.box [.f (d[j+1]'(by omega))] 0)):=by simp[dj,l.get U,over]
  apply ba;simp[z,w,s2,-aw,-bF];refine au (next _ _ ⟨by simp[O],by simp[s],by simp[z],by simp[B],((A.tr u).tr l).rW ap _,λ_=>By (aj (l.get U)),?_⟩ (by simp[S]) (by simp[g]));rw[sh ap];exact l.get n'
 .rintro t K ⟨O,s,z,B,A,m,F⟩ - -;have m:=m ap;have M:aV K (aa 1) (.c (.ptr H.length 0 0))=aa (.a [.f (d[cs.length]'(by omega))]):=by simp[aV,az,m,aX]
  have sn:dj K (.ptr (H.length+1) 0 0) [.f (d[cs.length]'(by omega))]=aa (K.set (H.length+1) (.box [.f (d[cs.length]'(by omega))] 0)):=by simp[dj,F,over]
  apply ai;simp[z,B,M,sn,-aw,-bF];refine av (a _ _ _ rfl ?_ ⟨rfl,A.rW ap _⟩);simp[Km.results,bC,B,aj F,aX]
def wM(lo hi:Int)(cl:FC)(b le:Int):bf tab acj [.a ((mT lo hi cl).map .f),vi b,vi le]=Eq (G (.fn A0 [.fp (mT lo hi cl) 0,.fp [fi b] 0,.fp [fi le] 0])):=bf.eq (by
 refine bD rfl rfl λQ d=>?_;apply ai;simp[mT];apply ai;simp;refine av (d _ _ ?_);simp[deep,mT])
def Ex{bb:Nat}(lo hi:Int)(cl:FC)(b le:Int)(i:0<=b)(m1:b<=1440)(k:0<=le)(o:le<=20000)(P:an->Prop)
  (N:¬ (lo<=b/\b+le<=hi)->∀K,Kp H K->P K) (f:lo<=b/\b+le<=hi->∀K,Kp H K->∃F,Ev tab (.yield bb) [.a [.f S1,Z lo,Z hi]] K (vb ae) F/\P F) :
  ∃r H',Ev tab (.fn A0) [.c (.yl bb),G (.fp (mT lo hi cl) 0),G (.fp [fi b] 0),G (.fp [fi le] 0)] H r H'/\(r=.t []/\P H'):=by
 refine dc rfl rfl λQ e=>?_;have A:∀K:an,bA K (.f (pO lo hi))=aa 1:=λK=>rfl;have W:∀K:an,aV K ab (G (.fp (mT lo hi cl) 8))=aa (G (pO lo hi)):=λK=>rfl;have u:∀K:an,aV K ab (G (.fp [fi b] 0))=aa (vi b):=λK=>rfl;have s:∀K:an,aV K ab (G (.fp [fi le] 0))=aa (vi le):=λK=>rfl;apply ai;simp[W,A];refine bW 1 (λj t K=>t.g 0=.c (.yl bb)/\t.g 2=G (.fp [fi b] 0)/\t.g 3=G (.fp [fi le] 0)/\t.g 8=G (pO lo hi)/\(j=0->Kp H K)/\(j=1->P K)) ap ce ce bv bv ⟨bv,bv,bv,bv,λ_=>⟨agQ _,λ_ _=>rfl⟩,ap⟩ ?_ ?_
 .rintro j t K p ⟨d,g,l,x,J,-⟩ y M next
  obtain rfl:j=0:=by omega
  have J:=J rfl;have a:bO K 3 ab (G (pO lo hi)) (vi ((0:Nat):Int))=aa (G (.fp [S1,fi lo,fi hi] 0)):=rfl;have ld:aV K (aa 3) (G (.fp [S1,fi lo,fi hi] 0))=aa (.a [.f S1,Z lo,Z hi]):=rfl;apply ax;apply ai;simp only[Int.ofNat_zero,Int.natCast_zero]at a y;simp[x,y,a,ld];obtain⟨v,m⟩:=aH (K++[bV.box [.f S1,Z lo,Z hi] 0]:an);have X:v[K.length]?=E [.f S1,Z lo,Z hi]:=by rw[m];simp
  have z:Kp H v:=J.tr (by rw[m];exact Kp.push _ _);rw[<-m];have O:aV v ab (.c (.ptr K.length 1 0))=aa (vi lo):=by simp[aV,az,X]
  have S:aV v ab (.c (.ptr K.length 2 0))=aa (vi hi):=by simp[aV,az,X]
  have U:aV v (aa 3) (.c (.ptr K.length 0 0))=aa (.a [.f S1,Z lo,Z hi]):=by simp[aV,az,X,aX]
  apply aE;apply ba;by_cases B:lo<=b/\b+le<=hi
  .obtain⟨F,q,L⟩:=f B v z;have q:=q.eq;simp[d,g,l,O,S,U,u,s,i,a8 (n:=b+le),B,q,-aw];exact aC bv (aQ (au (next _ _ ⟨by simp[d],by simp[g],by simp[l],by simp[x],ap,λ_=>L⟩ (by simp[y]) (by simp[M]))))
  .have Y:=N B _ z;by_cases I:lo<=b
   .have c:¬ b+le<=hi:=λh=>B ⟨I,h⟩;simp[d,g,l,O,S,U,u,s,a8 (n:=b+le),I,c,-aw];exact aC bv (aQ (au (next _ _ ⟨by simp[d],by simp[g],by simp[l],by simp[x],ap,λ_=>Y⟩ (by simp[y]) (by simp[M]))))
   .simp[d,g,l,O,S,U,u,s,I,-aw];exact aC bv (aQ (au (next _ _ ⟨by simp[d],by simp[g],by simp[l],by simp[x],ap,λ_=>Y⟩ (by simp[y]) (by simp[M]))))
 .rintro t K ⟨d,g,l,x,-,L⟩ - -;exact cN (e _ _ _ rfl rfl ⟨rfl,L rfl⟩)
theorem xJ{tab:TB}{fn:Nat}{d:List gY}{Q:Option aD->St->Prop}{c x:Nat}{t:T}(b:Nat)(I:Nat->T->List gY->an->Prop)(O:b<=9223372036854775807)(k:n≠N)(J:x≠N)
  (v:t.g n=vi 0) (y:t.g N=vi b) (K:I 0 t d H)
  (step:∀j t d H,j<b->I j t d H->t.g n=vi j->t.g N=vi b->
   (∀u g H',I (j+1) ((u.s x (vi (j+1:Nat))).s n (vi (j+1:Nat))) g H'->u.g n=vi j->u.g N=vi b->
    WP tab fn U (.code (oV n x)::.inLoop (gQ m n N c x f)::.inBlock m::B) ⟨u,g,H'⟩ Q)->
   WP tab fn U (.code f::.code (oV n x)::.inLoop (gQ m n N c x f)::.inBlock m::B) ⟨t.s c (vb ae),d,H⟩ Q)
  (done:∀t d H,I b t d H->t.g n=vi b->t.g N=vi b->WP tab fn U B ⟨t.s c (vb ag),d,H⟩ Q) :
  WP tab fn U (.code (xI m n N c x f)::B) ⟨t,d,H⟩ Q:=by
 have i:∀ops:List bh,ops.all (·.op.fN)=ae->U=ab\/ops.all (·.op.fN)=ae:=λ_ h=>.inr h;apply ax;refine di (λa s=>∃j t d H,s=⟨t,d,H⟩/\j<=b/\a=b-j/\I j t d H/\t.g n=vi j/\t.g N=vi b) b ⟨0,t,d,H,rfl,ap,ap,K,v,y⟩ ?_;rintro a s ⟨j,t,d,H,rfl,S,rfl,L,v,y⟩ M;apply aE;refine aF (i _ rfl) ?_;simp[v,y];by_cases l:j<b
 .rw[decide_eq_true l];apply aE;refine aq bv ?_;apply aQ;apply aE;refine step j t d H l L v y λu g H' z A F=>?_;refine aF (i _ rfl) ?_;simp[A];rw[a8];refine M (b-(j+1)) _ ap ⟨j+1,_,g,H',rfl,ap,rfl,by simpa using z,bv,?_⟩;simp[k,J,F]
 .have:j=b:=ii
  subst this;rw[decide_eq_false l];apply aE;refine aC bv ?_;refine bQ (k':=B) (by simp[Km.exitTo]) ?_
  grind
def dF(lo hi:Int)(w:FC)(b le:Int):FC:=if lo<=b/\b+le<=hi then w else .aN
structure abQ(lo hi:Int)(cl u w1 w2 w3 w4 w5 w6:FC):Prop where
 val:bf tab Ja [.a ((mT lo hi cl).map .f)]=Eq (vi 0)
 fin:bf tab A1 [G cl]=Eq (.a [.f u])
 afh:bf tab A1 [G .aN]=Eq (.a [.f .aN])
 min:bf tab DR [.a [.f S1],.a [.f u]]=Eq (.t [.a [.f w1],vi 0])
 sh1:bf tab wH [.a [.f w1],vi 0]=Eq (.t [.a [.f w2],vi 0])
 and:bf tab I9 [.a [.f E1],.a [.f w2]]=Eq (.t [.a [.f w3],vi 0])
 sh2:bf tab wH [.a [.f w3],vi 0]=Eq (.t [.a [.f w4],vi 0])
 or1:bf tab wG [.a [.f .aN],.a [.f w4]]=Eq (.t [.a [.f w5],vi 0])
 or2:bf tab wG [.a [.f w5],.a [.f .aN]]=Eq (.t [.a [.f w6],vi 0])
 or0:bf tab wG [.a [.f .aN],.a [.f .aN]]=Eq (.t [.a [.f .aN],vi 0])
def SK(m:Nat)(s:m<1440):bf tab Vw [vi m]=Eq (.t [vi 0,vi m]):=by
 have g:=fL m 1440 ap ap ap;rw[show(m:Int) / 1440=0 by omega]at g;have j:bf tab Vu [vi m,vi 1440]=Eq (.t [vi m,vi 0]):=bf.eq (by
  have q:de .rem (vi m) (vi 1440)=aa (vi m):=by rw[gn ap ce,show(m:Int) % 1440=m by omega]
  have l:de .quo (vi m) (vi 1440)=aa (vi 0):=by rw[eI ap ce ap,show(m:Int) / 1440=0 by omega]
  have d:bf tab PZ [vi m,vi 1440]=Eq (vi m):=bf.eq (by
   refine bD rfl rfl λQ b=>?_
   repeat' first
    |(refine av (b _ _ ?_))
    |(apply aE)
    |(apply ax)
    |(apply aQ)
    |(refine aq ?_ ?_;focus (simp;done))
    |(refine aC ?_ ?_;focus (simp;done))
    |(apply ba;simp[q,l])
   simp)
  refine bD rfl rfl λQ b=>?_
  repeat' first
   |(refine av (b _ _ ?_))
   |(apply aE)
   |(apply ax)
   |(apply aQ)
   |(refine aq ?_ ?_;focus (simp;done))
   |(refine aC ?_ ?_;focus (simp;done))
   |(apply ba;simp[d])
  simp)
 refine bf.eq (bD rfl rfl λQ b=>?_)
 repeat' first
  |(refine av (b _ _ ?_))
  |(apply aE)
  |(apply ba;simp[g,j])
 simp
theorem Nk{hi:Int}{du k_ l_ m9 m_:FC}(hD:abQ o hi w du k_ l_ m9 m_ v r)(m:Nat)(hm2:m<=1430)(le:Int)(l0:1<=le)(l1:le<=10080):bf tab nX [.a ((mT o hi w).map .f),vi m,vi le]=Eq (.t [.a [.f (dF o hi r m le)],vi 0]):=by
 obtain⟨s,rfl,hp⟩:∃s,s=.t [.a [.f (dF o hi r m le)],vi 0]/\bf tab nX [.a ((mT o hi w).map .f),vi m,vi le] s:=by
  refine iX acB rfl λQ hQ=>?_;have p_:=SK m ap;have q_:=Ly 0 m ap ap ap ap;have r6:=hD.val;have n9:=hD.afh;have p9:=hD.sh1;have o_:=hD.sh2;have n_:=hD.or1;have agA:=hD.or2;have z_:=hD.or0;have y8:=wM o hi w m le;simp only[zF,Ss,IT,agN]at q_;have la:∀K:an,K[0]?=E ((mT o hi w).map .f)->aV K (aa 10) (.c (.ptr 0 0 0))=aa (.a ((mT o hi w).map .f))/\aV K (aa 8) (.c (.ptr 0 0 0))=aa (.a (List.map C.f [fi 0,.fs [fi 7] 1,fi (-1),.aN,fi 0,.aN,fi 0,.aN])):=λK h=>by refine⟨?_,?_⟩<;>simp[aV,az,h,mT,aX]
  apply ai;simp;obtain⟨H0,U⟩:=aH ([.box ((mT o hi w).map .f) 0,.box [.f .aN] 0,.box [Z 0] 0]:an);rw[<-U];have j9:H0.length=3:=by rw[U];rfl
  have z0:H0[0]?=E ((mT o hi w).map .f):=by rw[U];rfl
  have z1:H0[1]?=E [.f .aN]:=by rw[U];rfl
  have z2:H0[2]?=E [Z 0]:=by rw[U];rfl
  apply aU;simp[(la _ z0).1,r6,-aw,show¬ (m:Int) < -4320 by omega,show¬ (4320:Int)<m by omega,show¬ le<1 by omega,show¬ 10080<le by omega];refine bG bv ?_;apply ai;simp[p_];obtain⟨H2,e_⟩:=aH (H0++[bV.box [Z 0] 0]:an);have n2:H2.length=4:=by rw[e_];simp[j9]
  have k2:Kp H0 H2:=by rw[e_];exact Kp.push _ _
  rw[<-e_];have w3:H2[3]?=E [Z 0]:=by rw[e_];simp[<-j9]
  apply ai;simp[(la _ (k2.get z0)).2,q_,-aw,j9,n2];obtain⟨H3,f_⟩:=aH (H2++[bV.box [Z 0] 0]:an);have n3:H3.length=5:=by rw[f_];simp[n2]
  have k3:Kp H2 H3:=by rw[f_];exact Kp.push _ _
  have w4:H3[4]?=E [Z 0]:=by rw[f_];simp[<-n2]
  rw[<-f_];have r_:∀K:an,K[4]?=E [Z 0]->aV K ab (.c (.ptr 4 0 0))=aa (vi 0):=λK h=>by simp[aV,az,h]
  apply aU;simp[r_ _ w4,-aw];refine bG bv ?_;apply ai;simp[n3];apply ai;obtain⟨H4,X⟩:=aH (H3++[bV.box [.f .aN] 0,bV.box [.cl pE [.ptr 5 0 0]] 0]:an);have n4:H4.length=7:=by rw[X];simp[n3]
  have k4:Kp H3 H4:=by rw[X];exact Kp.push _ _
  have w5:H4[5]?=E [.f .aN]:=by rw[X];simp[<-n3]
  have w6:H4[6]?=E [.cl pE [.ptr 5 0 0]]:=by rw[X,agL ap,n3];rfl
  simp[n3,tX];rw[<-X];have y_:∀K:an,bA K (.f (.fs [fi 0,.es,fi 0,fi 1,.fs [fi 0] 1] 1))=aa 1:=λK=>rfl;apply aU;simp[y_];have j8:Kp H0 H4:=(k2.tr k3).tr k4;have u0:=j8.get z0;have u1:=j8.get z1;have u2:=j8.get z2;have u3:=(k3.tr k4).get w3;have u4:=k4.get w4;refine xJ 1 (λj t ds K=>t.g 1=vi m/\t.g 2=vi le/\t.g 3=.c (.ptr 0 0 0)/\t.g 6=.c (.ptr 1 0 0)/\t.g 7=.c (.ptr 2 0 0)/\t.g 8=.c (.ptr 3 0 0)/\t.g 9=vi m/\t.g 11=.c (.ptr 4 0 0)/\t.g 12=.c (.ptr 5 0 0)/\t.g 13=.c (.ptr 6 0 0)/\t.g 59=G (.fs [fi 0,.es,fi 0,fi 1,.fs [fi 0] 1] 1)/\(j=0->ds=[]/\K=H4)/\(j=1->ds=[.dR 9]/\K[9]?=aa (.dH ae)/\(∀i:Nat,i<7->i≠5->K[i]?=H4[i]?)/\K[5]?=E [.f (dF o hi v m le)])) ap ce ce bv bv
   ⟨bv,bv,bv,bv,bv,bv,bv,bv,bv,bv,bv,λ_=>⟨rfl,rfl⟩,ap⟩ ?_ ?_
  .rintro j t ds K hj ⟨g1,g2,g3,g6,g7,g8,g9,z,B,A,F,M,-⟩ ha hb next
   obtain rfl:j=0:=by omega
   obtain⟨rfl,rfl⟩:=M rfl;have ix:bO K 5 ab (G (.fs [fi 0,.es,fi 0,fi 1,.fs [fi 0] 1] 1)) (vi 0)=aa (G (.fp [fi 0,.es,fi 0,fi 1,.fs [fi 0] 1] 0)):=rfl;have ld:aV K (aa 5) (G (.fp [fi 0,.es,fi 0,fi 1,.fs [fi 0] 1] 0))=aa (.a [Z 0,.f .es,Z 0,Z 1,.f (.fs [fi 0] 1)]):=rfl;have i_:t.g 61=vi 0:=ha;apply ax;apply ai;simp[F,i_,ix,ld,n4];obtain⟨H5,g_⟩:=aH (K++[bV.box [Z 0,.f .es,Z 0,Z 1,.f (.fs [fi 0] 1)] 0]:an);have n5:H5.length=8:=by rw[g_];simp[n4]
   have k5:Kp K H5:=by rw[g_];exact Kp.push _ _
   have w7:H5[7]?=E [Z 0,.f .es,Z 0,Z 1,.f (.fs [fi 0] 1)]:=by rw[g_];simp[<-n4]
   rw[<-g_];have l7:aV H5 ab (.c (.ptr 7 0 0))=aa (vi 0):=by simp[aV,az,w7]
   apply ai;simp[g9,l7,-aw,a8 (n:=(m:Int)),p_,n5];obtain⟨H6,h_⟩:=aH (H5++[bV.box [Z 0] 0]:an);have n6:H6.length=9:=by rw[h_];simp[n5]
   have k6:Kp H5 H6:=by rw[h_];exact Kp.push _ _
   have w8:H6[8]?=E [Z 0]:=by rw[h_];simp[<-n5]
   rw[<-h_];have r9:=k5.tr k6;apply ai;simp[g2,g3,(la _ (r9.get u0)).1,y8,-aw];apply ax
   suffices go:∀u:T,u.g 1=vi m->u.g 2=vi le->u.g 3=.c (.ptr 0 0 0)->u.g 6=.c (.ptr 1 0 0)->u.g 7=.c (.ptr 2 0 0)->u.g 8=.c (.ptr 3 0 0)->u.g 9=vi m->u.g 11=.c (.ptr 4 0 0)->u.g 12=.c (.ptr 5 0 0)->u.g 13=.c (.ptr 6 0 0)->u.g 59=G (.fs [fi 0,.es,fi 0,fi 1,.fs [fi 0] 1] 1)->u.g 61=vi 0->u.g 60=vi 1->u.g 15=.c (.ptr 7 0 0)->u.g 16=.c (.ptr 8 0 0)->u.g 76=G (.fn A0 [.fp (mT o hi w) 0,.fp [fi m] 0,.fp [fi le] 0])->
     WP tab nX ab [.code Pc,.inBlock 2,.inBlock 1,.code (oV 61 98),.inLoop (gQ 0 61 60 62 98 Pb),.inBlock 0,.code Pd] ⟨u,[],H6⟩ Q by
    exact go _ (by simp[g1]) (by simp[g2]) (by simp[g3]) (by simp[g6]) (by simp[g7]) (by simp[g8]) (by simp[g9]) (by simp[z]) (by simp[B]) (by simp[A]) (by simp[F]) (by simp[i_]) (by simpa using hb) bv bv bv
   clear g1 g2 g3 g6 g7 g8 g9 z B A F ha hb i_ M;intro u g1 g2 g3 g6 g7 g8 g9 z B A F x8 x6 v_ w_ x9;obtain⟨LP,n8⟩:∃LP:dB->Option aD->bV,LP=λst pd=>.lp nX u [P.nat 77] nU nV st pd 9:=⟨_,rfl⟩
   obtain⟨W,hW⟩:=aH (H6++[.dH ae,LP .ready ab]);have nW:W.length=11:=by rw[hW,agM,n6];rfl
   have kW:Kp H6 W:=by rw[hW];exact Kp.push _ _
   have q9:W[9]?=aa (.dH ae):=by rw[hW,agL ap,n6];rfl
   have s7:W[10]?=aa (LP .ready ab):=by rw[hW,agL ap,n6];rfl
   have J:=r9.tr kW;have p0:=J.get u0;have p3:=J.get u3;have p4:=J.get u4;have p5:=J.get w5;have p6:=J.get w6;have p7:=(k6.tr kW).get w7;have p8:=kW.get w8;obtain⟨PP,i9⟩:∃PP:an->Prop,PP=λK=>11<=K.length/\(∀i:Nat,i<11->i≠5->K[i]?=W[i]?)/\K[5]?=E [.f (dF o hi v m le)]:=⟨_,rfl⟩
   obtain⟨d,H7,he,rfl,hP⟩:=Ex (bb:=10) (H:=W) o hi w m le ap ap ap ap PP
    (λz7 K M=>by
     rw[i9];refine⟨by have:=M.1;omega,λi hi _=>M.2 i ap,?_⟩;rw[M.get p5,dF,cC z7])
    (λhf K M=>by
     have i6:=M.get s7;rw[n8]at i6;obtain⟨d,K',hev,rfl,hP⟩:∃d K',Ev tab (.yield 10) [.a [.f S1,Z o,Z hi]] K d K'/\(d=vb ae/\PP K'):=by
      refine dm (tab:=tab) (b:=10) (args:=[.a [.f S1,Z o,Z hi]]) (H:=K) i6 rfl λQ' x_=>?_;obtain⟨d_,b_⟩:=aH (K.length);have hKl:=M.1;refine aF (.inr rfl) ?_;simp;rw[<-b_];obtain⟨K1,x⟩:=aH (K++[bV.box [.f S1,Z o,Z hi] 0]);rw[<-x];have I:Kp K K1:=by rw[x];exact Kp.push _ _
      have t_:K1[d_]?=E [.f S1,Z o,Z hi]:=by rw[x,b_];simp
      refine eM (I.get i6) ?_;obtain⟨l,Y⟩:=aH (K1.set 10 (.lp nX u [P.nat 77] nU nV .busy ab 9));rw[<-Y];have e2:∀i:Nat,i<W.length->i≠10->l[i]?=W[i]?:=λi hi j6=>by rw[Y,sh (Ne.symm j6),I.2 i ap,M.2 i hi]
      have u9:l[10]?=aa (.lp nX u [P.nat 77] nU nV .busy ab 9):=by rw[Y];exact By (aj (I.get i6))
      have u_:l[d_]?=E [.f S1,Z o,Z hi]:=by rw[Y,sh ap];exact t_
      have n2':l.length=d_+1:=by rw[Y,agZ,x,b_];simp
      have s:∀{i:Nat} {y:bV},W[i]?=aa y->i≠10->l[i]?=aa y:=λh j6=>by rw[e2 _ (aj h) j6];exact h
      have r18:aV l (aa 1) (.c (.ptr d_ 0 0))=aa (.a [.f S1]):=by simp[aV,az,u_,aX]
      have r16:aV l ab (.c (.ptr 8 0 0))=aa (vi 0):=by simp[aV,az,s p8 ap]
      have r8:aV l ab (.c (.ptr 3 0 0))=aa (vi 0):=by simp[aV,az,s p3 ap]
      have r13:aV l ab (.c (.ptr 6 0 0))=aa (.c (.cl pE [.ptr 5 0 0])):=by simp[aV,az,s p6 ap]
      have d9:Tc .neg (vi 0)=aa (vi 0):=rfl;have y6:=acH;obtain⟨cs,c9⟩:=aH ([.cl P3 [.ptr 0 0 0],.f (.fn AZ [.fp [fi 0] 0]),.cl P4 [.ptr 7 0 0],.f (.fn AZ [.fp [fi 0] 0]),.cl pE [.ptr 5 0 0]]:List C);obtain⟨K3,i8⟩:=aH (l++[bV.box cs 0]);have r7:Kp l K3:=by rw[i8];exact Kp.push _ _
      have c3:K3[l.length]?=E cs:=by rw[i8];simp
      obtain⟨d,K4,q,rfl,kK4⟩:=Em (H:=K3) (b:=l.length) cs [S1,k_,l_,m9,m_,v] (by rw[c9];rfl) (by rw[c9];decide) c3 (λj hj L hL=>by
       have kL:=r7.tr hL;subst c9
       match j,hj with
       |0,_=>obtain⟨d,N,O,S⟩:=acT (kL.get (s p0 ap)) hD.fin hD.min;exact⟨.fn P3,_,d,N,rfl,O,S⟩
       |1,_=>obtain⟨d,N,O,S⟩:=VB (H:=L) p9;exact⟨.fn AZ,_,d,N,rfl,O,S⟩
       |2,_=>obtain⟨d,N,O,S⟩:=acU ZM hD.and (kL.get (s p7 ap));exact⟨.fn P4,_,d,N,rfl,O,S⟩
       |3,_=>obtain⟨d,N,O,S⟩:=VB (H:=L) o_;exact⟨.fn AZ,_,d,N,rfl,O,S⟩
       |4,_=>obtain⟨d,N,O,S⟩:=VG (kL.get (s p5 ap)) n_;exact⟨.fn pE,_,d,N,rfl,O,S⟩)
      have q:Ev tab (.fn P6) [.a [.f S1],.c (.sl l.length 0 5 5 0 1)] K3 (.t [.a [.f v],vi 0]) K4:=by
       subst c9;exact q
      have q:=q.eq;have c_:=r7.tr kK4;have x5:=c_.get (s p5 ap);have x4:=c_.get (s p4 ap);obtain⟨K5,a_⟩:=aH (K4.set 5 (.box [.f v] 0));have st5:dj K4 (.ptr 5 0 0) [.f v]=aa K5:=by rw[a_];simp[dj,x5,over]
      have j_:K5[4]?=E [Z 0]:=by rw[a_,sh ap];exact x4
      have st4:dj K5 (.ptr 4 0 0) [Z 0]=aa K5:=by
       simp[dj,j_,over];obtain⟨j5,e⟩:=aft.1 j_;rw[<-e];exact List.set_getElem_self j5
      have x10:K5[10]?=aa (.lp nX u [P.nat 77] nU nV .busy ab 9):=by rw[a_,sh ap];exact c_.get u9
      apply ax;refine aE (aF (.inr rfl) ?_);simp[g3,v_,w_,g8,A,r18,r16,r8,r13,d9,y6,tX,-aw];rw[<-c9,<-i8];simp[B,z,q,st5,st4,-bF];refine aE (aF (.inr rfl) ?_);simp[z,r_ _ j_,-aw];refine aC bv (aQ (au (cN (x_ _ _ _ _ _ _ _ _ _ _ rfl x10 ⟨rfl,?_⟩))));rw[i9];have l24:=c_.1;refine⟨?_,λi hi h5=>?_,?_⟩
      .grind
      .by_cases e:i=10
       .grind
       .rw[sh (Ne.symm e),a_,sh (Ne.symm h5),c_.2 i ap,e2 i ap e]
      .rw[sh ap,a_,By (aj x5),dF,ct hf]
     grind)
   rw[i9]at hP;obtain⟨nP,eP,vP⟩:=hP;have y7:Ev tab (.fn A0) [.c (.yl (H6.length+1)),G (.fp (mT o hi w) 0),G (.fp [fi m] 0),G (.fp [fi le] 0)] (H6++[.dH ae,.lp nX u [P.nat 77] nU nV .ready ab H6.length]) (.t []) H7:=by
    grind
   refine dC (g:=A0) (by rw[mF,x9];simp[cr]) y7 ?_;rw[n6];have z10:H7[10]?=aa (.lp nX u [P.nat 77] nU nV .ready ab 9):=by rw[eP 10 ap ap,s7,n8]
   refine dX z10 ce ?_;refine au (au (next _ _ _ ⟨by simp[g1],by simp[g2],by simp[g3],by simp[g6],by simp[g7],by simp[g8],by simp[g9],by simp[z],by simp[B],by simp[A],by simp[F],ap,λ_=>⟨rfl,?_,λi hi h5=>?_,?_⟩⟩ (by simpa using x8) (by simpa using x6)))
   .grind
   .rw[sh ap,eP i ap h5,J.2 i ap]
   .grind
  .rintro t ds K ⟨g1,g2,g3,g6,g7,g8,g9,z,B,A,F,-,M⟩ - -;obtain⟨rfl,q9,eK,v5⟩:=M rfl;have p1:K[1]?=E [.f .aN]:=by rw[eK 1 ap ap];exact u1
   have p2:K[2]?=E [Z 0]:=by rw[eK 2 ap ap];exact u2
   have p3:K[3]?=E [Z 0]:=by rw[eK 3 ap ap];exact u3
   have p6:K[6]?=E [.cl pE [.ptr 5 0 0]]:=by rw[eK 6 ap ap];exact w6
   have l3:aV K ab (.c (.ptr 3 0 0))=aa (vi 0):=by simp[aV,az,p3]
   have l6:aV K ab (.c (.ptr 6 0 0))=aa (.c (.cl pE [.ptr 5 0 0])):=by simp[aV,az,p6]
   have d9:Tc .neg (vi 0)=aa (vi 0):=rfl;apply ai;simp;apply aU;simp[g8,l3,d9,-aw];refine ax (Rs ?_);apply ai;simp;refine aE (aC bv ?_);refine bQ (k':=[.code Pe]) rfl ?_;obtain⟨K1,x⟩:=aH (K++[bV.box [.cl pE [.ptr 5 0 0]] 0]:an);have I:Kp K K1:=by rw[x];exact Kp.push _ _
   have c1:K1[K.length]?=E [.cl pE [.ptr 5 0 0]]:=by rw[x];simp
   have z8:bf tab wG [.a [.f (dF o hi v m le)],.a [.f .aN]]=Eq (.t [.a [.f (dF o hi r m le)],vi 0]):=by
    unfold dF;split
    .omega
    .omega
   obtain⟨d,l,q,rfl,kK2⟩:=Em (H:=K1) (b:=K.length) [.cl pE [.ptr 5 0 0]] [.aN,dF o hi r m le] rfl ce c1 (λj hj L hL=>by
    match j,hj with
    |0,_=>obtain⟨d,N,O,S⟩:=VG ((I.tr hL).get v5) z8;exact⟨.fn pE,_,d,N,rfl,O,S⟩)
   have q:Ev tab (.fn P6) [.a [.f .aN],.c (.sl K.length 0 1 1 0 1)] K1 (.t [.a [.f (dF o hi r m le)],vi 0]) l:=q;have q:=q.eq;have j7:=I.tr kK2;have y1:=j7.get p1;have y2:=j7.get p2;have y9:=j7.get q9;have s1:dj l (.ptr 1 0 0) [.f (dF o hi r m le)]=aa (l.set 1 (.box [.f (dF o hi r m le)] 0)):=by simp[dj,y1,over]
   have i7:(l.set 1 (.box [.f (dF o hi r m le)] 0))[2]?=E [Z 0]:=by rw[sh ap];exact y2
   have s2:dj (l.set 1 (.box [.f (dF o hi r m le)] 0)) (.ptr 2 0 0) [Z 0]=aa (l.set 1 (.box [.f (dF o hi r m le)] 0)):=by
    simp[dj,i7,over];obtain⟨j5,e⟩:=aft.1 i7;rw[<-e];exact List.set_getElem_self j5
   have s_:(l.set 1 (.box [.f (dF o hi r m le)] 0))[1]?=E [.f (dF o hi r m le)]:=By (aj y1);have t8:(l.set 1 (.box [.f (dF o hi r m le)] 0))[9]?=aa (.dH ae):=by rw[sh ap];exact y9
   apply ai;simp[A,l6,n9,<-x,q,g6,g7,s1,s2,-aw,-bF];generalize l.set 1 (.box [.f (dF o hi r m le)] 0)=K3 at s_ i7 t8 ⊢;have a1:(K3.set 9 (.dH ag))[1]?=E [.f (dF o hi r m le)]:=by rw[sh ap];exact s_
   have a2:(K3.set 9 (.dH ag))[2]?=E [Z 0]:=by rw[sh ap];exact i7
   refine av (hQ _ _ _ rfl (.inr ⟨9,rfl,t8,.t [.a [.f (dF o hi r m le)],vi 0],?_,by simp[jd,dq,bC]⟩));simp[Km.results,bC,g6,g7,a1,a2,aX]
 exact hp.eq
def Iy(g:Tg)(l:List Int)(limit:Int)(O:l.length<=9223372036854775807):Kf tab Gp [G (sl g (ints l)),vi limit] (vb (cK limit (-1) l)):=by
 refine dd rfl rfl λH Q z=>?_;have bad:cK limit (-1) l=ag->∀(t:T) k,WP tab Gp ab (.code (.region [⟨D 4,.ju (.k (G (.bool ag))),ab⟩] [])::.code .ret::k) ⟨t,[],H⟩ Q:=by
  intro N t k;apply ba;simp;refine av (z _ _ ?_);simp[N]
 apply ai;simp;apply aU;simp;refine jI l.length (λj t H'=>t.g 0=G (sl g (ints l))/\t.g 1=vi limit/\H=H'/\∃last,-1<=last/\(∀m,j=m+1->∀h:m<l.length,last=(l[m]'h))/\(j=0->last = -1)/\cK limit (-1) l=cK limit last (l.drop j)) O rfl bv
  ⟨bv,bv,rfl,-1,ap,ap,bv,bv⟩ ?_ ?_ ?_
 .rintro j t _ L x ⟨q,u,rfl,h⟩ d M;simp[d,q];exact M _ ⟨by simp[q],by simp[u],rfl,h⟩ (by simp[d]) bv
 .rintro j t _ x ⟨q,u,rfl,last,U,I,J,s⟩ d next
  rw[uS x]at s;apply ax;apply ai;simp[q,u,d,bu,x,dY];by_cases A:l[j]<0
  .simp[A];refine aq bv (aE (bad ?_ _ _));rw[s,decide_eq_false (show¬ last<l[j] by omega)];rfl
  simp[A,q,u,d,bu,x,dY];by_cases B:limit<=l[j]
  .simp[B];refine aq bv (aE (bad ?_ _ _));rw[s,decide_eq_false (show¬ l[j]<limit by omega)];simp
  simp[B,d];have go:last<l[j]->∃b,-1<=b/\(∀m,j+1=m+1->∀h:m<l.length,b=(l[m]'h))/\(j+1=0->b = -1)/\cK limit (-1) l=cK limit b (l.drop (j+1)):=by
   intro h;rw[decide_eq_true h,decide_eq_true (show l[j]<limit by omega),ahJ,ahJ]at s;refine⟨l[j],ap,λm y h=>?_,ap,s⟩;have:m=j:=ii
   subst this;rfl
  cases j with
  |zero=>
   simp;refine aC bv ?_;refine aQ (au (next _ _ ?_ (by simp[d])));exact⟨by simp[q],by simp[u],rfl,go (by have:=J rfl;omega)⟩
  |succ m=>
   have y:m<l.length:=ii
   have S:=I m rfl y;have K:((m+1:Nat):Int)-1=m:=ii
   have v:∀H:an,bO H 1 ab (G (sl g (ints l))) (vi ((m:Int)+1))=aa (G (.fp (ints l).flatten (m+1))):=λH=>by
    have:=bu (H:=H) (g:=g) (rows:=ints l) (sz:=1) (k:=.i64) (i:=(m:Int)+1) ap ge;rwa[show((m:Int)+1).toNat=m+1 by omega,aiC]at this
   simp[show 0<m+1 by omega,v,q,d,K,a8 (n:=(m:Int)),bu,x,y,dY];by_cases F:l[m+1]<=l[m]
   .simp[F];refine aq bv (aE (bad ?_ _ _));rw[s,decide_eq_false (show¬ last<l[m+1] by omega)];rfl
   .simp[F];refine aC bv ?_;refine aQ (au (next _ _ ?_ (by simp[d])));exact⟨by simp[q],by simp[u],rfl,go ap⟩
 .rintro t _ ⟨q,u,rfl,last,U,I,J,s⟩ d;apply ai;simp;refine av (z _ _ ?_);simp[s,cK]
def zD(g:Tg)(l:List Int)(limit:Int)(b:l.length<=9223372036854775807) :
  bf tab Gp [G (sl g (ints l)),vi limit]=Eq (vb (cK limit (-1) l)):=(Iy g l limit b).eq
def U0(p:aR)(h:p.head.length+p.bH.length<=9223372036854775807):Kf tab Pp [.a (p.row.map .f)] (vb (cO p)):=by
 refine dd rfl rfl λH Q b=>?_;have bad:cO p=ag->∀(t:T) (J:an) k,WP tab Pp ab (.code (.region [⟨D 2,.ju (.k (G (.bool ag))),ab⟩] [])::.code .ret::k) ⟨t,[],H++J⟩ Q:=by
  intro x t J k;apply ba;simp;refine av (b _ _ ?_);simp[x]
 apply ai;simp[aR.row];apply aU;simp;by_cases g:p.fr<0
 .simp[g];exact aq bv (aE (bad (by simp[cO,show¬ 0<=p.fr by omega]) _ _ _))
 simp[g];by_cases j:1099511627776<p.fr
 .simp[j];exact aq bv (aE (bad (by simp[cO,show¬ p.fr<=1099511627776 by omega]) _ _ _))
 simp[j];by_cases l:p.aO<1
 .simp[l];exact aq bv (aE (bad (by simp[cO,show¬ 1<=p.aO by omega]) _ _ _))
 simp[l];by_cases m:1099511627776<p.aO
 .simp[m];exact aq bv (aE (bad (by simp[cO,show¬ p.aO<=1099511627776 by omega]) _ _ _))
 simp[m];refine bG bv ?_;apply aU;simp;by_cases q:(1048576:Int)<p.head.length
 .simp[q];exact aq bv (aE (bad (by simp[cO,show¬ (p.head.length:Int)+p.bH.length<=1048576 by omega]) _ _ _))
 simp[q];by_cases s:(1048576:Int)<p.bH.length
 .simp[s];exact aq bv (aE (bad (by simp[cO,show¬ (p.head.length:Int)+p.bH.length<=1048576 by omega]) _ _ _))
 simp[s,a8 (n:=(p.head.length:Int)+p.bH.length)];by_cases u:(1048576:Int)<p.head.length+p.bH.length
 .simp[u];exact aq bv (aE (bad (by simp[cO,show¬ (p.head.length:Int)+p.bH.length<=1048576 by omega]) _ _ _))
 simp[u];refine bG bv ?_;apply ai;simp[zD p.hg p.head p.fr ap];have d:cO p=(cK p.fr (-1) p.head&&cK p.aO (-1) p.bH):=by
  simp[cO,show 0<=p.fr by omega,show p.fr<=1099511627776 by omega,show 1<=p.aO by omega,show p.aO<=1099511627776 by omega,show(p.head.length:Int)+p.bH.length<=1048576 by omega]
 cases v:cK p.fr (-1) p.head
 .simp;refine av (b _ _ ?_);simp[d,v]
 simp[zD p.cg p.bH p.aO ap];refine av (b _ _ ?_);simp[d,v]
def Q0(p:aR)(g:p.head.length+p.bH.length<=9223372036854775807):bf tab XH [.a (p.row.map .f)]=Eq (vb (cO p&&decide ((p.head.length:Int)+p.bH.length=0))):=by
 refine Kf.eq (dd rfl rfl λH Q b=>?_);have d:=(U0 p g).eq;simp[aR.row]at d;apply ai;simp[aR.row];apply ai;simp[d];cases k:cO p
 .simp;refine av (b _ _ ?_);simp[k]
 simp[a8 (n:=(p.head.length:Int)+p.bH.length)];refine av (b _ _ ?_);simp[k]
def vU:Option Nat->FC
 |none=>.aN| some c=>.fs [fi c] 1
def qA(H:an)(cs:List FC)(i n:Nat):aV H (aa n) (G (.fp cs i))=aX (aa n) ((cs.drop i).map .f):=by rw[lU]
def D5:jT 12 xw:=⟨ce,ce,ce,ce⟩
def D4(d:Int)(b:0<=d):bE xw d=ae:=by
 have g:(d-0) % 1=0:=ii
 simp[bE,xw,b]
def ED:bf tab A1 [G .aN]=Eq (.a [.f .aN]):=bf.eq (aZ (m:=300) (d:=60) io)
def Q7(c:Nat):aR:=⟨.fs,[(c:Int)],c+1,1,.nil,[]⟩
def Re(c:Nat)(b:c<20):bf tab A1 [G (.fs [fi c] 1)]=Eq (.a [.f (sl .fs (aY [[Q7 c]]))]):=by
 match c,b with
 |0,_=>exact bf.eq (aZ (m:=300) (d:=60) io)
 |1,_=>exact bf.eq (aZ (m:=300) (d:=60) io)
 |2,_=>exact bf.eq (aZ (m:=300) (d:=60) io)
 |3,_=>exact bf.eq (aZ (m:=300) (d:=60) io)
 |4,_=>exact bf.eq (aZ (m:=300) (d:=60) io)
 |5,_=>exact bf.eq (aZ (m:=300) (d:=60) io)
 |6,_=>exact bf.eq (aZ (m:=300) (d:=60) io)
 |7,_=>exact bf.eq (aZ (m:=300) (d:=60) io)
 |8,_=>exact bf.eq (aZ (m:=300) (d:=60) io)
 |9,_=>exact bf.eq (aZ (m:=300) (d:=60) io)
 |10,_=>exact bf.eq (aZ (m:=300) (d:=60) io)
 |11,_=>exact bf.eq (aZ (m:=300) (d:=60) io)
 |12,_=>exact bf.eq (aZ (m:=300) (d:=60) io)
 |13,_=>exact bf.eq (aZ (m:=300) (d:=60) io)
 |14,_=>exact bf.eq (aZ (m:=300) (d:=60) io)
 |15,_=>exact bf.eq (aZ (m:=300) (d:=60) io)
 |16,_=>exact bf.eq (aZ (m:=300) (d:=60) io)
 |17,_=>exact bf.eq (aZ (m:=300) (d:=60) io)
 |18,_=>exact bf.eq (aZ (m:=300) (d:=60) io)
 |19,_=>exact bf.eq (aZ (m:=300) (d:=60) io)
 |n+20,h=>exact absurd h ap
def Q9(c:Nat)(b:c<20):jT 12 (Q7 c):=by
 match c,b with
 |0,_|1,_|2,_|3,_|4,_|5,_|6,_|7,_|8,_|9,_|10,_|11,_|12,_|13,_|14,_|15,_|16,_|17,_|18,_|19,_=>exact⟨ce,ce,ce,ce⟩
 |n+20,h=>exact absurd h ap
theorem Q8(c:Nat)(d:Int):bE (Q7 c) d=ae↔d=c:=by
 unfold bE Q7
 grind
def clT:Option Nat->Tg
 |none=>.nil| some _=>.fs
def xA:Option Nat->List (List aR)
 |none=>[]| some c=>[[Q7 c]]
def Zn(cl:Option Nat)(b:∀c,cl=aa c->c<20):bf tab A1 [G (vU cl)]=Eq (.a [.f (sl (clT cl) (aY (xA cl)))]):=by
 cases cl with
 |none=>exact ED| some c=>exact Re c (b c rfl)
def Rc(cl:Option Nat)(g:∀c,cl=aa c->c<20):im 12 1 1 (xA cl):=by
 cases cl with
 |none=>exact⟨by simp[xA],by simp[xA]⟩
 |some c=>exact⟨by simp[xA],λu d=>by
   simp only[xA,If]at d;subst d;exact⟨bv,bv,λp b=>by simp only[If]at b;subst b;exact Q9 c (g c rfl)⟩⟩
def Q_(cl:Option Nat)(d:Int):cS (xA cl) d↔∃c:Nat,cl=aa c/\d=c:=by
 cases cl with
 |none=>simp[cS,xA]| some c=>simp[cS,xA,ew,Q8]
def Dh(lo hi:Int)(g:0<=lo)(j:lo<hi)(l:hi<=1440)(cl:Option Nat)(q:∀c,cl=aa c->c<20):bf tab Ja [.a ((mT lo hi (vU cl)).map .f)]=Eq (vi 0):=by
 have d:=IL 0 ce ce;have b:=mf (Nb:=12) .fs (us:=[[xw]]) ⟨bv,λu v=>by
   simp only[If]at v;subst v;exact⟨bv,bv,λp s=>by simp only[If]at s;subst s;exact D5⟩⟩
 simp only[zF,IT,agN]at d;change bf tab DS [.a [.f S1]]=_ at b;have x:IntKind.i64.wrap 1=1:=pi
 refine bf.eq (bD rfl rfl λQ m=>?_);cases cl with
 |none=>
  repeat' first
   |(refine av (m _ _ ?_))
   |(apply aE)
   |(apply ax)
   |(refine eL ?_)
   |(apply fe)
   |(apply au)
   |(apply aQ)
   |(refine bQ rfl ?_)
   |(refine aq ?_ ?_;focus (simp;done))
   |(refine aC ?_ ?_;focus (simp;done))
   |(apply ba;simp[mT,pO,vU,d,b,g,j,l,bA,bO,fE,x,gm,qA,show¬ lo<0 by omega,show¬ hi<=lo by omega,show¬ 1440<hi by omega])
  simp
 |some c=>
  have q:=q c rfl
  repeat' first
   |(refine av (m _ _ ?_))
   |(apply aE)
   |(apply ax)
   |(refine eL ?_)
   |(apply fe)
   |(apply au)
   |(apply aQ)
   |(refine bQ rfl ?_)
   |(refine aq ?_ ?_;focus (simp;done))
   |(refine aC ?_ ?_;focus (simp;done))
   |(apply ba;simp[mT,pO,vU,d,b,g,j,l,bA,bO,fE,x,gm,qA,show¬ lo<0 by omega,show¬ hi<=lo by omega,show¬ 1440<hi by omega,show¬ ((c:Int)<=-1) by omega,show¬ ((1099511627776:Int)<=c) by omega])
  simp
def SA(q:1<=m)(F:m<=4)(H:n<=64)(g:Tg)(us:List (List aR))(h:im o m n us):∃j g',im o m n j/\(∀d,0<=d->(cS j d↔cS us d))/\bf tab wH [.a [.f (sl g (aY us))],vi 0]=Eq (.t [.a [.f (sl g' (aY j))],vi 0]):=by
 obtain⟨j,g',⟨y,z⟩,A,x⟩:=Ih q F H g (us.map λs=>⟨.fs,s⟩) ⟨by simpa using h.1,λt v=>by obtain⟨u,b,rfl⟩:=agX.1 v;exact h.2 u b⟩ 0 ce ce;rw[VF]at x;refine⟨j,g',⟨ahd y (by simpa using h.1),z⟩,λd B=>?_,x⟩;rw[A d B];constructor
 .rintro⟨t,v,l⟩;obtain⟨u,b,rfl⟩:=agX.1 v;exact⟨u,b,by simpa using l⟩
 .rintro⟨u,b,l⟩;exact⟨⟨.fs,u⟩,agX.2 ⟨u,b,rfl⟩,by simpa using l⟩
def or_nil:bf tab wG [.a [.f .aN],.a [.f .aN]]=Eq (.t [.a [.f .aN],vi 0]):=bf.eq (aZ (m:=600) (d:=60) io)
theorem R4(lo hi:Int)(h0:0<=lo)(h1:lo<hi)(h2:hi<=1440)(cl:Option Nat)(J:∀c,cl=aa c->c<20):∃D g,im 27720 2 1 D/\(∀d,0<=d->(cS D d↔∀c:Nat,cl=aa c->d≠c))/\
  ∀(m:Nat),m<=1430->∀le:Int,1<=le->le<=10080->bf tab nX [.a ((mT lo hi (vU cl)).map .f),vi m,vi le]=Eq (.t [.a [.f (dF lo hi (sl g (aY D)) m le)],vi 0]):=by
 have hA:im 12 1 1 [[xw]]:=⟨bv,λu y=>by
   simp only[If]at y;subst y;exact⟨bv,bv,λp b=>by simp only[If]at b;subst b;exact D5⟩⟩
 have hE:im 27720 1 1 [[D6]]:=⟨bv,λu y=>by
   simp only[If]at y;subst y;exact⟨bv,bv,λp b=>by simp only[If]at b;subst b;exact Qn.up⟩⟩
 have l:im 27720 2 0 []:=⟨bv,bv⟩
 have hF:=Rc cl J;have X:lp (xA cl)=1:=by cases cl<;>rfl
 obtain⟨r,Y,s⟩:=zk (m:=1) ce ce .fs (clT cl) [[xw]] (xA cl) (ku hA (ahY _) (agQ _) ce) (ku hF (ahY _) ce ce);rw[X]at Y;obtain⟨a,t,z,K,L,rfl⟩:∃ts g,im 27720 1 64 ts/\ts.length<=1/\(∀d,0<=d->(cS ts d↔cS [[xw]] d/\¬ cS (xA cl) d))/\r=eO ts g:=by
  rcases Y with h|⟨-,h⟩
  .exact h
  .grind
 obtain⟨e,w,A,M,U⟩:=SA (n:=1) ce ce ce t a ⟨K,z.2⟩;obtain⟨f,g3,B,N,q⟩:=JX (m1:=1) (m2:=1) (n1:=1) (n2:=1) ce ce ce ce ce .fs w [[D6]] e hE A;obtain⟨i,g4,F,O,W⟩:=SA (m:=2) (n:=1) ce ce ce g3 f B;obtain⟨k,g5,H,Q,v⟩:=RT (m:=2) (n1:=0) (n2:=1) ce ce ce .nil g4 [] i l F;obtain⟨o,g6,I,S,x⟩:=RT (m:=2) (n1:=1) (n2:=0) ce ce ce g5 .nil k [] H l;refine⟨o,g6,I,λd j=>?_,λm hm le l0 l1=>?_⟩
 .rw[S d j,Q d j,O d j,N d j,M d j,L d j,Q_];have a1:cS [[xw]] d:=⟨_,If.2 rfl,λp b=>by simp only[If]at b;subst b;exact D4 d j⟩
  have a2:cS [[D6]] d:=⟨_,If.2 rfl,λp b=>by simp only[If]at b;subst b;exact Qm d j⟩
  have a3:¬ cS [] d:=by simp[cS]
  grind
 .have hT:abQ lo hi (vU cl) _ _ _ _ _ _ _:=⟨Dh lo hi h0 h1 h2 cl J,Zn cl J,ED,s,U,q,W,v,x,or_nil⟩
  exact Nk hT m hm le l0 l1
def zz{a b:Nat}(l:a≠b)(x f:aA)(v:Bool)(u:H[a]?=E (f.row.map .f))(B:H[b]?=E [.f (.bool v)]) :
  ∃r H',Ev tab (.fn AY) [.a (x.row.map .f),.c (.ptr a 0 0),.c (.ptr b 0 0)] H r H'/\(r=.t []/\H.length<=H'.length/\(∀i:Nat,i<H.length->i≠a->i≠b->H'[i]?=H[i]?)/\H'[a]?=E ((if v=ag\/fV x f<0 then x else f).row.map .f)/\H'[b]?=E [.f (.bool ae)]):=by
 refine dc rfl rfl λQ hQ=>?_;have I:=Fa .fs [eG x.fr f.fr,eG x.day f.day,eG x.to f.to] bv;have J:Aq [eG x.fr f.fr,eG x.day f.day,eG x.to f.to]=fV x f:=rfl;rw[J]at I;simp[ints,sl,Tg.fc]at I;have la:=aj u;have lb:=aj B;simp only[aA.row,IT,agN]at u ⊢;apply ai;simp;obtain⟨K,A⟩:=aH (H++[bV.box [Z x.day,Z x.fr,Z x.to] 0]:an);have M:Kp H K:=by rw[A];exact Kp.push _ _
 have y:K[H.length]?=E [Z x.day,Z x.fr,Z x.to]:=by rw[A];simp
 have O:=M.get u;have qb:=M.get B;rw[<-A];have x0:aV K ab (.c (.ptr H.length 0 0))=aa (vi x.day):=by simp[aV,az,y]
 have x1:aV K ab (.c (.ptr H.length 1 0))=aa (vi x.fr):=by simp[aV,az,y]
 have x2:aV K ab (.c (.ptr H.length 2 0))=aa (vi x.to):=by simp[aV,az,y]
 have f0:aV K ab (.c (.ptr a 0 0))=aa (vi f.day):=by simp[aV,az,O]
 have f1:aV K ab (.c (.ptr a 1 0))=aa (vi f.fr):=by simp[aV,az,O]
 have f2:aV K ab (.c (.ptr a 2 0))=aa (vi f.to):=by simp[aV,az,O]
 apply ai;simp[x0,x1,x2,f0,f1,f2,mI,deep,gR,jY,I,-aw];obtain⟨d,j⟩:=aH (K++[bV.box [Z (eG x.fr f.fr),Z (eG x.day f.day),Z (eG x.to f.to)] 3]:an);have m:Kp K d:=by rw[j];exact Kp.push _ _
 rw[<-j];have g:=M.tr m;have ra:=g.get u;have z:=g.get B;have S:=m.get y;have b0:aV d ab (.c (.ptr b 0 0))=aa (vb v):=by simp[aV,az,z]
 have N:∀L:an,L[H.length]?=E [Z x.day,Z x.fr,Z x.to]->aV L (aa 3) (.c (.ptr H.length 0 0))=aa (.a [Z x.day,Z x.fr,Z x.to]):=λL h=>by simp[aV,az,h,aX]
 have sb:dj d (.ptr b 0 0) [.f (.bool ae)]=aa (d.set b (.box [.f (.bool ae)] 0)):=by simp[dj,z,over]
 have q:(d.set b (.box [.f (.bool ae)] 0))[a]?=E [Z f.day,Z f.fr,Z f.to]:=by rw[sh (Ne.symm l)];exact ra
 have sa:dj (d.set b (.box [.f (.bool ae)] 0)) (.ptr a 0 0) [Z x.day,Z x.fr,Z x.to]=aa ((d.set b (.box [.f (.bool ae)] 0)).set a (.box [Z x.day,Z x.fr,Z x.to] 0)):=by simp[dj,q,over]
 have U:(d.set b (.box [.f (.bool ae)] 0))[H.length]?=E [Z x.day,Z x.fr,Z x.to]:=by rw[sh ap];exact S
 have s:∀t:T,t.g 1=.c (.ptr a 0 0)->t.g 2=.c (.ptr b 0 0)->t.g 3=.c (.ptr H.length 0 0)->(v=ag\/fV x f<0)->WP tab AY ab [.code Tq] ⟨t,[],d⟩ Q:=by
  intro t W X Y hc;refine eH (.inl rfl) ?_ ?_
  case _=>
   simp[W,X,Y,N d S,sb,sa,-aw,-bF];refine cN (hQ _ _ _ rfl rfl ⟨rfl,by simp;exact g.1,λi hi h1 h2=>?_,?_,?_⟩)
   .rw[sh (Ne.symm h1),sh (Ne.symm h2)];exact g.2 i hi
   .rw[By (aj q),ct hc];rfl
   .rw[sh l];exact By (aj z)
  .intro c F;rw[If.1 F];refine⟨ce,_,rfl,.inl ⟨ce,?_⟩⟩;simp[W,X,Y,N d S,N _ U,sb,sa,gE,V.beq,jW,C.beq,FC.beq,-aw,-bF]
 apply ai;cases v with
 |false=>
  simp[b0,-aw];exact aq bv (s _ bv bv bv (.inl rfl))
 |true=>
  by_cases k:fV x f<0
  .simp[b0,k,-aw];exact aq bv (s _ bv bv bv (.inr k))
  .simp[b0,k,-aw];refine aC bv (aQ (cN (hQ _ _ _ rfl rfl ⟨rfl,g.1,λi hi _ _=>g.2 i hi,?_,z⟩)));rw[cC (by simp[k])];exact ra
def TO(t:Int):bf tab XV [G .aN,vi t,G (.fn 409 [])]=Eq (.t [vi 0,vb ag]):=bf.eq (by
 refine bD rfl rfl λQ b=>?_
 repeat' first
  |(refine av (b _ _ ?_))
  |(apply aE)
  |(apply ax)
  |(refine eL ?_)
  |(apply fe)
  |(apply au)
  |(apply aQ)
  |(refine bQ rfl ?_)
  |(refine aq ?_ ?_;focus (simp;done))
  |(refine aC ?_ ?_;focus (simp;done))
  |(apply ba;simp)
 simp)
def MZ(o t:Int):bf tab Yh [G (fT o),vi t]=Eq (.t [.a [Z 0,Z 0],vb ag]):=bf.eq (by
 have d:=TO t;refine bD rfl rfl λQ b=>?_
 repeat' first
  |(refine av (b _ _ ?_))
  |(apply aE)
  |(apply ax)
  |(refine eL ?_)
  |(apply fe)
  |(apply au)
  |(apply aQ)
  |(refine bQ rfl ?_)
  |(refine aq ?_ ?_;focus (simp;done))
  |(refine aC ?_ ?_;focus (simp;done))
  |(apply ba;simp[fT,gm,d,deep,show IntKind.i64.wrap (-1) = -1 by decide])
 simp)
def E_(o t:Int):bf tab Yi [G (fT o),vi t]=Eq (vi o):=bf.eq (by
 have b:=MZ o t;simp only[fT]at b;refine bD rfl rfl λQ d=>?_
 repeat' first
  |(refine av (d _ _ ?_))
  |(apply aE)
  |(apply ax)
  |(apply au)
  |(apply aQ)
  |(refine aq ?_ ?_;focus (simp;done))
  |(refine aC ?_ ?_;focus (simp;done))
  |(apply ba;simp[fT,gm,b])
 simp)
def GZ(o t:Int)(q:-1080<=o)(s:o<=1080)(t0:-2251799813685248<=t)(u:t<=2251799813685248):bf tab Yd [.a ((zF o).map .f),vi t]=Eq (.t [vi (t+o),vi 0]):=by
 have b:=wk o q s;have g:=E_ o t;have m:=tN t 2251799813685248 ce ce;have j:(decide (-2251799813685248<=t)&&decide (t<=2251799813685248))=ae:=by simp[t0,u]
 rw[j]at m;simp only[zF,IT,agN]at b;have l:bf tab Ye [.a ((zF o).map .f),vi t]=Eq (.t [vi o,vi 0]):=bf.eq (by
  refine bD rfl rfl λQ d=>?_
  repeat' first
   |(refine av (d _ _ ?_))
   |(apply aE)
   |(apply ax)
   |(apply au)
   |(apply aQ)
   |(refine aq ?_ ?_;focus (simp;done))
   |(refine aC ?_ ?_;focus (simp;done))
   |(apply ba;simp[zF,b,g,m])
  simp)
 simp only[zF,IT,agN]at l;refine bf.eq (bD rfl rfl λQ d=>?_)
 repeat' first
  |(refine av (d _ _ ?_))
  |(apply aE)
  |(apply ax)
  |(apply au)
  |(apply aQ)
  |(refine aq ?_ ?_;focus (simp;done))
  |(refine aC ?_ ?_;focus (simp;done))
  |(apply ba;simp[zF,l,a8 (n:=t+o)])
 simp
def U5(n:Int)(q:0<=n)(g:n<=1000000000000000000):bf tab Vw [vi n]=Eq (.t [vi (n / 1440),vi (n % 1440)]):=by
 have g:=fL n 1440 ap ap ap;have j:bf tab Vu [vi n,vi 1440]=Eq (.t [vi (n % 1440),vi 0]):=bf.eq (by
  have m:de .rem (vi n) (vi 1440)=aa (vi (n % 1440)):=gn ap ce;have l:de .quo (vi n) (vi 1440)=aa (vi (n / 1440)):=eI ap ce ap;have d:bf tab PZ [vi n,vi 1440]=Eq (vi (n % 1440)):=bf.eq (by
   refine bD rfl rfl λQ b=>?_
   repeat' first
    |(refine av (b _ _ ?_))
    |(apply aE)
    |(apply ax)
    |(apply aQ)
    |(refine aq ?_ ?_;focus (simp;done))
    |(refine aC ?_ ?_;focus (simp;done))
    |(apply ba;simp[m,l,show¬ n % 1440<0 by omega])
   simp)
  refine bD rfl rfl λQ b=>?_
  repeat' first
   |(refine av (b _ _ ?_))
   |(apply aE)
   |(apply ax)
   |(apply aQ)
   |(refine aq ?_ ?_;focus (simp;done))
   |(refine aC ?_ ?_;focus (simp;done))
   |(apply ba;simp[d])
  simp)
 refine bf.eq (bD rfl rfl λQ b=>?_)
 repeat' first
  |(refine av (b _ _ ?_))
  |(apply aE)
  |(apply ba;simp[g,j])
 simp
def nu:Option Nat->Int->Bool
 |none,_=>ag| some c,d=>decide (d=c)
def ey(lo hi:Int)(cl:Option Nat)(b d:Int):Bool:=!nu cl (b / 1440)&&decide (lo<=b % 1440/\b % 1440+(d-b)<=hi)
def Un(d:Int)(b:0<=d)(j:Day d):bf tab PS [.a [.f S1],vi d]=Eq (vb ae):=by
 have g:iH [⟨.fs,[xw]⟩]=ae:=pi
 have:=xM .fs [⟨.fs,[xw]⟩] g d j;have e:qG [⟨.fs,[xw]⟩] d=ae:=by
  simp[qG,g,wS,hasB,b,D4 d b]
 rw[e]at this;exact this
def yx{lo hi:Int}(cl:Option Nat)(b d:Int)(I:0<=b)(J:b<=2251799813685248)(t0:b<d)(L:d<=b+100000):bf tab P5 [.a ((mT lo hi (vU cl)).map .f),.a [Z b,Z d]]=Eq (vb (ey lo hi cl b d)):=by
 have j:=GZ 0 b ce ce ap J;have u:=U5 b I ap;have l:=Un (b / 1440) ap nl;simp only[zF,IT,agN,Int.add_zero]at j;obtain⟨v,rfl,K⟩:∃v,v=vb (ey lo hi cl b d)/\bf tab P5 [.a ((mT lo hi (vU cl)).map .f),.a [Z b,Z d]] v:=by
  have g:∃i,bf tab GF [G (vU cl),vi (b / 1440)]=Eq (.t [vi i,vb (nu cl (b / 1440))]):=by
   cases cl with
   |none=>
    obtain⟨i,-,-,-,h⟩:=gJ .nil [] (b / 1440) bv bv;exact⟨i,by simpa[nu,vU,sl,Tg.fc,ints]using h⟩
   |some c=>
    obtain⟨i,-,-,-,h⟩:=gJ .fs [(c:Int)] (b / 1440) bv bv;exact⟨i,by simpa[nu,vU,sl,Tg.fc,ints]using h⟩
  obtain⟨i,g⟩:=g;obtain⟨z,s⟩:=aH (nu cl (b / 1440):Bool);rw[<-s]at g;have F:IntKind.wrap .i64 (d-b)=d-b:=a8;have H:IntKind.wrap .i64 (b % 1440+(d-b))=b % 1440+(d-b):=a8;have B:IntKind.i64.wrap 1=1:=pi
  have m:=wM lo hi (vU cl) (b % 1440) (d-b);simp only[mT,pO,IT,agN]at m;refine iX acC rfl λQ A=>?_;have q:ey lo hi cl b d=(!z&&decide (lo<=b % 1440/\b % 1440+(d-b)<=hi)):=by rw[s];rfl
  by_cases x:lo<=b % 1440<;>by_cases y:b % 1440+(d-b)<=hi<;>cases z
  all_goals repeat' first
   |(apply aE)
   |(apply ax)
   |(refine eL ?_)
   |(apply fe)
   |(apply au)
   |(apply aQ)
   |(refine bQ rfl ?_)
   |(refine eM rfl ?_)
   |(refine dX rfl ce ?_)
   |(refine jJ rfl ce ?_)
   |(refine aq ?_ ?_;focus (simp;done))
   |(refine aC ?_ ?_;focus (simp;done))
   |(refine EN rfl acD rfl ?_)
   |(refine Rq rfl rfl ?_)
   |(refine av ⟨rfl,⟨_,rfl⟩,?_⟩)
   |(refine cN ⟨rfl,⟨_,rfl⟩,?_⟩)
   |(refine av ⟨rfl,_,rfl,?_⟩)
   |(refine cN ⟨rfl,_,rfl,?_⟩)
   |(refine av ⟨rfl,_,_,_,_,_,_,_,_,rfl,?_⟩)
   |(refine cN ⟨rfl,_,_,_,_,_,_,_,_,rfl,?_⟩)
   |(apply ba;simp[mT,pO,j,u,g,m,l,F,H,B,x,y,gm,qA,bA,bO,fE,deep])
   |(refine aF (.inr rfl) ?_;simp[mT,pO,j,u,g,m,l,F,H,B,x,y,gm,qA,bA,bO,fE,deep])
  all_goals first
   |(refine av (A _ _ _ rfl (.inr ⟨_,rfl,rfl,_,rfl,?_⟩));simp[jd,dq,q,x,y])
   |(refine av (A _ _ _ rfl (.inl ⟨rfl,_,rfl,?_⟩));simp[jd,dq,q,x,y])
 exact K.eq
def Dq(b:m<I.length):kX o (I.drop m)=(bR I[m].1 (o+1) 63&&bR I[m].2 0 10080&&kX I[m].1 (I.drop (m+1))):=by
 rw[agT b];rfl
def Fp{l:List bw}(b:m<Y.length) :
  nK l o d (Y.drop m)=(bR Y[m] (d+1) ((l.length:Int)-1)&&!decide (Y[m]=o)&&decide (Dn l Y[m]=0)&&nK l o Y[m] (Y.drop (m+1))):=by
 rw[agT b];rfl
def Nn(g:Tg)(l:List bw)(i:Nat)(hi:i<l.length)(hl:l.length<=6)(ho:∀r∈l,mE r)(hq:l[i].q.length<=64)(hp:l[i].p.length<=64) :
  Kf tab Px [G (sl g (rows l)),vi i] (vb (fZ l i l[i])):=by
 refine dd rfl rfl λH Q d=>?_;obtain⟨r,hr⟩:=aH (l[i]);have Y:=bf.eq (ho _ (IN hi));rw[<-hr]at Y hq hp d;simp only[bw.op]at Y;have L:=cf (H:=H) (eh l) (rG hi);rw[<-hr]at L;apply aE;apply ba;simp;apply aE;apply ba;simp[bu,hi,L,bw.row];apply aE;apply aE;apply ba;simp;cases h1:bR r.cap 1 512
 case false=>
  simp;refine aq bv ?_;apply ai;simp;refine av (d _ _ ?_);simp[fZ,h1]
 simp;cases h2:bR r.eB 0 1440
 case false=>
  simp;refine aq bv ?_;apply ai;simp;refine av (d _ _ ?_);simp[fZ,h2]
 simp;cases h3:bR r.fY 0 1440
 case false=>
  simp;refine aq bv ?_;apply ai;simp;refine av (d _ _ ?_);simp[fZ,h3]
 simp[Y];refine aC bv ?_;apply aQ;apply ai;simp;apply aE;apply aE;apply ba;simp;obtain⟨I,q⟩:=aH ([C.f (fi r.cap),C.f (fi r.eB),C.f (fi r.fY),C.f r.o0,C.f r.o1,C.f r.o2,C.f r.o3,C.f r.o4,C.f r.o5,C.f r.o6,C.f r.o7,C.f r.o8,C.f r.o9,C.f (sl r.qg (fm r.q)),C.f (sl r.pg (ints r.p))]);rw[<-q];have N:I.drop 14=[C.f (sl r.pg (ints r.p))]:=by rw[q];rfl
 refine bW r.q.length (λj t H'=>t.g 0=G (sl g (rows l))/\t.g 1=vi i/\t.g 5=.c (.ptr H.length 0 0)/\t.g 38=G (sl r.qg (fm r.q))/\(∃J,H'=H++(.box I 0::J))/\
  ∃last,t.g 6=vi last/\-1<=last/\last<=63/\kX (-1) r.q=kX last (r.q.drop j)) ap ce ce bv bv bv ?_ ?_
 .rintro j t _ F ⟨m,s,S,u,⟨J,rfl⟩,last,B,l1,l2,b⟩ A K next
  rw[Dq F]at b;apply ax;apply ai;simp[A,u,bu,F,cf (zx r.q) (Fk F)];apply aU;simp[B,a8 (n:=last+1)];cases x:bR r.q[j].1 (last+1) 63
  case false=>
   simp;refine aq bv ?_;apply ai;simp;refine av (d _ _ ?_);simp[fZ,b,x]
  simp;cases y:bR r.q[j].2 0 10080
  case false=>
   simp;refine aq bv ?_;apply ai;simp;refine av (d _ _ ?_);simp[fZ,b,y]
  simp;refine aC bv ?_;apply aQ;apply ba;simp[B];refine au (next _ _ ?_ (by simp[A]) (by simp[K]));have hw:=oG x;simp[x,y]at b;exact⟨by simp[m],by simp[s],by simp[S],by simp[u],⟨_,rfl⟩,r.q[j].1,bv,ap,ap,b⟩
 .rintro t _ ⟨m,s,S,u,⟨J,rfl⟩,last,B,l1,l2,b⟩ A K;have X:kX (-1) r.q=ae:=by rw[b];simp[kX]
  apply ai;simp;apply aE;apply aE;apply ba;simp[S,N];refine bW r.p.length (λj t H'=>t.g 0=G (sl g (rows l))/\t.g 1=vi i/\t.g 60=G (sl r.pg (ints r.p))/\(∃J,H'=H++J)/\
   ∃last,t.g 6=vi last/\-1<=last/\last<=6/\nK l i (-1) r.p=nK l i last (r.p.drop j)) ap ce ce bv bv (by simp[m,s]) ?_ ?_
  .rintro j t _ F ⟨m,s,v,⟨J,rfl⟩,last,B,l1,l2,b⟩ A K next
   rw[Fp F]at b;apply ax;apply ai;simp[A,v,bu,F,dY];apply aU;simp[B,m,a8 (n:=last+1),a8 (n:=(l.length:Int)-1)];cases x:bR r.p[j] (last+1) ((l.length:Int)-1)
   case false=>
    simp;refine aq bv ?_;apply ai;simp;refine av (d _ _ ?_);simp[fZ,b,x]
   have hw:=oG x;simp[s];by_cases y:r.p[j]=i
   .simp[y];refine aq bv ?_;apply ai;simp;refine av (d _ _ ?_);simp[fZ,b,y]
   have hk:r.p[j].toNat<l.length:=ii
   have O:=ib (H:=H++J) (k:=14) (eh l) (rG hk) rfl;simp[y,m,bu (g:=g) (rows:=rows l) (sz:=15) (k:=.i64) (i:=r.p[j]) ap ge,O];have M:=UW (l:=l) (p:=r.p[j]) ap hk;by_cases U:Dn l r.p[j]=0
   .have z:l[r.p[j].toNat].p=[]:=List.eq_nil_of_length_eq_zero (by rw[<-M];exact U);simp[z];refine aC bv ?_;apply aQ;apply ba;simp;refine au (next _ _ ?_ (by simp[A]) (by simp[K]));simp[x,y,U]at b;exact⟨by simp[m],by simp[s],by simp[v],⟨_,rfl⟩,r.p[j],bv,ap,ap,b⟩
   .have z:0<l[r.p[j].toNat].p.length:=by rw[<-M];omega
    simp[z];refine aq bv ?_;apply ai;simp;refine av (d _ _ ?_);simp[fZ,b,U]
  .rintro t _ ⟨m,s,v,⟨J,rfl⟩,last,B,l1,l2,b⟩ A K;have W:nK l i (-1) r.p=ae:=by rw[b];simp[nK]
   apply ai;simp;refine av (d _ _ ?_);simp[fZ,h1,h2,h3,X,W]
def Np(g:Tg)(l:List bw)(i:Nat)(hi:i<l.length)(b:l.length<=6)(d:∀r∈l,mE r)(m:l[i].q.length<=64)(j:l[i].p.length<=64) :
  bf tab Px [G (sl g (rows l)),vi i]=Eq (vb (fZ l i l[i])):=(Nn g l i hi b d m j).eq
def LV(g:Tg)(l:List bw)(b:l.length<=6)(d:∀r∈l,mE r) :
  bf tab GO [G (sl g (rows l)),G (.fn Cr [])]=Eq (vb (l.any oa)):=(LU g l b d).eq
def yv{l:List bw}(b:m<l.length):gj l m (l.drop m)=(fZ l m l[m]&&gj l (m+1) (l.drop (m+1))):=by
 rw[agT b];rfl
def SZ(g:Tg)(l:List bw)(z:l.length<=6)(A:∀r∈l,mE r):Kf tab Gv [G (sl g (rows l))] (vi (jO l)):=by
 refine dd rfl rfl λH Q q=>?_;apply ai;simp;apply ai;simp;apply aU;have b:¬ (256:Int)<l.length:=ii
 simp[b,LV g l z A];cases u:l.any oa
 case true=>
  refine aq bv ?_;apply ai;simp;refine av (q _ _ ?_);simp[jO,u]
 refine aC bv ?_;apply aQ;apply aU;simp;refine bW l.length (λj t H'=>t.g 0=G (sl g (rows l))/\(∃J,H'=H++J)/\gj l 0 l=gj l j (l.drop j)) ap ce ce bv bv bv ?_ ?_
 .rintro j t _ y ⟨x,⟨J,rfl⟩,m⟩ s d next
  rw[yv y]at m;have v:oa l[j]=ag:=by
   simp_all
  simp only[oa,Bool.or_eq_false_iff,decide_eq_false_iff_not]at v;apply ax;apply ai;simp[s];apply ai;simp[x,Np g l j y z A ap ap];cases B:fZ l j l[j]
  .refine aq bv ?_;apply ai;simp;refine av (q _ _ ?_);simp[jO,u,m,B]
  .refine aC bv ?_;refine aQ (au (next _ _ ?_ (by simp[s]) (by simp[d])));simp_all
 .rintro t _ ⟨x,⟨J,rfl⟩,m⟩ s d;apply ai;simp;refine av (q _ _ ?_);simp[jO,u,m,gj]
def F8(g:Tg)(l:List bw)(b:l.length<=6)(d:∀r∈l,mE r):bf tab Gv [G (sl g (rows l))]=Eq (vi (jO l)):=(SZ g l b d).eq
def lQ(g:Tg)(l:List Int)(v:Int)(b:l.length<=9223372036854775807) :
  bf tab GP [G (sl g (ints l)),vi v]=Eq (vb (l.any (· == v))):=(xy g l v b).eq
def Mh(g:Tg)(q:List Int)(x:Int)(d:q.length<=9223372036854775807):Kf tab GA [vi x,G (.fp [sl g (ints q)] 0)] (vb (q.any (· == x))):=by
 refine dd rfl rfl λH Q b=>?_;apply ai;simp;apply ai;simp[lU,lQ g q x d];refine av (b _ _ ?_);simp
def CE(g g':Tg)(p q:List Int)(d:p.length<=9223372036854775807)(l:q.length<=9223372036854775807) :
  bf tab PC [G (sl g (ints p)),G (.fn GA [.fp [sl g' (ints q)] 0])]=Eq (vb (p.any λx=>q.any (· == x))):=
 (eR YG (iF YQ p (λn=>[fi n]) vi (λx=>q.any (· == x)) g GA [.fp [sl g' (ints q)] 0] d
  (λj b H=>by have:=dY (H:=H) b;simpa[ints]using this) (λx _=>by have:=Mh g' q x l;simpa using this))).eq
def fO(a b:Nat)(ra d:bw):Bool:=decide (a=b)||ra.p.any (· ==(b:Int))||d.p.any (· ==(a:Int))||ra.p.any λx=>d.p.any (· == x)
def NB(g:Tg)(l:List bw)(a b:Nat)(s:a<l.length)(u:b<l.length)(y:l[a].p.length<=64)(z:l[b].p.length<=64) :
  Kf tab Cw [G (sl g (rows l)),vi a,vi b] (vb (fO a b l[a] l[b])):=by
 refine dd rfl rfl λH Q j=>?_;have v:=ib (H:=H) (k:=14) (eh l) (rG s) rfl;have x:=ib (H:=H) (k:=14) (eh l) (rG u) rfl;apply ai;simp;apply ai;simp[bu,s,u,v,x];apply ai;simp;by_cases d:a=b
 .simp[d];refine av (j _ _ ?_);simp[fO,d]
 simp[d,lQ _ l[a].p _ ap];cases m:l[a].p.any (· ==(b:Int))
 case true=>
  simp;refine av (j _ _ ?_);simp[fO,m]
 simp[lQ _ l[b].p _ ap];cases q:l[b].p.any (· ==(a:Int))
 case true=>
  simp;refine av (j _ _ ?_);simp[fO,q]
 simp[deep,BI,wh,CE l[a].pg l[b].pg l[a].p l[b].p ap ap];refine av (j _ _ ?_);simp[fO,d,m,q]
def rJ(s:aG)(h:s.Sm):bf tab I5 [.a (s.row.map .f)]=Eq (vb (ij s)):=(oD s h).eq
structure aJ where
 meet:Int
 room:Int
 eo:Int
 size:Int
 st:aG
def aJ.row(s:aJ):List FC:=[fi s.meet,fi s.room,fi s.eo,fi s.size,sl s.st.cg (aK s.st.cs),fi s.st.len,sl s.st.xg (ay s.st.xs)]
def aW(l:List aJ):List (List FC):=l.map aJ.row
@[simp]theorem nN (l:List aJ):(aW l).length=l.length:=by simp[aW]
theorem cY(l:List aJ):cZ 7 (aW l):=cZ.map λ_=>rfl
def fP{l:List aJ}(b:m<l.length):(aW l)[m]?=aa l[m].row:=by simp[aW,b]
def rQ(x y:aJ):Int:=Aq [eG x.meet y.meet,eG x.room y.room]
def jN(n:Nat)(s:aJ):Bool:=decide (1<=s.meet)&&bR s.room 0 ((n:Int)-1)&&bR s.eo 0 63&&bR s.size 1 512&&ij s.st
def iM(n:Nat):Option aJ->List aJ->Bool
 |_,[]=>ae| prev,s::r=>jN n s&&(prev.all λm=>decide (rQ m s<0))&&iM n (aa s) r
def Dz{p:Option aJ}{l:List aJ}(b:N<l.length):iM n p (l.drop N)=(jN n l[N]&&(p.all λm=>decide (rQ m l[N]<0))&&iM n (aa l[N]) (l.drop (N+1))):=by
 rw[agT b];rfl
def wV(b:List bw)(l:List aJ):Bool:=decide (jO b=0)&&decide ((l.length:Int)<=4096)&&iM b.length ab l
def Jp(x y:aJ):Kf tab sG [.a (x.row.map .f),.a (y.row.map .f)] (vi (rQ x y)):=by
 refine dd rfl rfl λH Q d=>?_;have b:=Fa .fs [eG x.meet y.meet,eG x.room y.room] bv;simp[ints,sl,Tg.fc]at b;apply ai;simp[aJ.row];apply ai;simp[mI,deep,gR,jY,b];refine av (d _ _ ?_);simp[rQ]
def TX(x y:aJ):bf tab sG [.a (x.row.map .f),.a (y.row.map .f)]=Eq (vi (rQ x y)):=(Jp x y).eq
def FZ(g:Tg)(d:List bw)(s:aJ)(v:d.length<=6)(h:s.st.Sm):Kf tab GB [G (sl g (rows d)),.a (s.row.map .f)] (vb (jN d.length s)):=by
 refine dd rfl rfl λH Q b=>?_;have l:=rJ s.st h;simp[aG.row]at l;apply ai;simp[aJ.row];apply ai;simp;by_cases j:1<=s.meet
 case neg=>
  simp[j];refine av (b _ _ ?_);simp[jN,j]
 simp[j,a8 (n:=(d.length:Int)-1)];cases m:bR s.room 0 ((d.length:Int)-1)
 .simp;refine av (b _ _ ?_);simp[jN,m]
 simp;cases q:bR s.eo 0 63
 .simp;refine av (b _ _ ?_);simp[jN,q]
 simp;cases u:bR s.size 1 512
 .simp;refine av (b _ _ ?_);simp[jN,u]
 simp[l];refine av (b _ _ ?_);simp[jN,j,m,q,u]
def SM(g:Tg)(b:List bw)(s:aJ)(d:b.length<=6)(h:s.st.Sm):bf tab GB [G (sl g (rows b)),.a (s.row.map .f)]=Eq (vb (jN b.length s)):=(FZ g b s d h).eq
def UF(g g':Tg)(q:List bw)(l:List aJ)(X:q.length<=6)(ho:∀r∈q,mE r)(hl:l.length<=9223372036854775807)(h:∀s∈l,s.st.Sm) :
  Kf tab Gx [G (sl g (rows q)),G (sl g' (aW l))] (vb (wV q l)):=by
 refine dd rfl rfl λH Q U=>?_;have bad:wV q l=ag->∀(t:T) (J:an) k,WP tab Gx ab (.code (.region [⟨D 4,.ju (.k (G (.bool ag))),ab⟩] [])::.code .ret::k) ⟨t,[],H++J⟩ Q:=by
  intro hf t J k;apply ba;simp;refine av (U _ _ ?_);simp[hf]
 apply ai;simp;apply aU;simp[F8 g q X ho];by_cases N:jO q=0
 case neg=>
  simp[N];have b:=λt k=>bad (by simp[wV,N]) t [] k;simp only[ahe]at b;refine aq bv ?_;exact aE (b _ _)
 simp[N];by_cases Y:(4096:Int)<l.length
 .simp[Y];have b:=λt k=>bad (by simp[wV,show¬ (l.length:Int)<=4096 by omega]) t [] k;simp only[ahe]at b;refine aq bv ?_;exact aE (b _ _)
 simp[Y];have W:wV q l=iM q.length ab l:=by simp[wV,N,show(l.length:Int)<=4096 by omega]
 rw[W]at bad;refine aC bv ?_;apply aQ;apply aU;simp;refine bW l.length (λj t H'=>t.g 0=G (sl g (rows q))/\t.g 1=G (sl g' (aW l))/\t.g 15=G (sl g' (aW l))/\(∃J,H'=H++J)/\
  ∃d,(∀m,j=m+1->∀h:m<l.length,d=aa (l[m]'h))/\(j=0->d=ab)/\iM q.length ab l=iM q.length d (l.drop j)) hl ce ce bv bv
   ⟨bv,bv,bv,⟨[],bv⟩,ab,ap,bv,bv⟩ ?_ ?_
 .rintro j t _ L ⟨F,I,v,⟨J,rfl⟩,d,l1,l2,z⟩ K O next
  rw[Dz L]at z;have S:=cf (H:=H++J) (cY l) (fP L);have B:=SM g q l[j] X (h _ (IN L));simp[aJ.row]at B;apply ax;apply ai;simp[K,v,bu,L,S,aJ.row];apply ai;simp[F,B];cases k4:jN q.length l[j]
  .simp;exact aq bv (aE (bad (by simp[z,k4]) _ _ _))
  simp;have go:(d.all λm=>decide (rQ m l[j]<0))=ae->∃u,(∀m,j+1=m+1->∀h:m<l.length,u=aa (l[m]'h))/\(j+1=0->u=ab)/\iM q.length ab l=iM q.length u (l.drop (j+1)):=by
   intro hp;rw[k4,hp,ahJ,ahJ]at z;refine⟨aa l[j],λm M h=>?_,ap,z⟩;have:m=j:=ii
   subst this;rfl
  cases j with
  |zero=>
   simp;refine aC bv ?_;refine aQ (au (next _ _ ?_ (by simp[K]) (by simp[O])));exact⟨by simp[F],by simp[I],by simp[v],⟨_,rfl⟩,go (by rw[l2 rfl];rfl)⟩
  |succ m=>
   have M:m<l.length:=ii
   have A:=l1 m rfl M;have e1:((m+1:Nat):Int)-1=m:=ii
   have y:=λH:an=>cf (H:=H) (cY l) (fP M);have x:=TX l[m] l[m+1];simp[aJ.row]at x y;simp[show 0<m+1 by omega,I,a8 (n:=(m:Int)),bu,M,y,x];by_cases k7:0<=rQ l[m] l[m+1]
   .simp[k7];have b:=bad (by simp[z,A,show¬ rQ l[m] l[m+1]<0 by omega]);refine aq bv ?_;exact aE (b _ _ _)
   .simp[k7];refine aC bv ?_;refine aQ (au (next _ _ ?_ (by simp[K]) (by simp[O])));exact⟨by simp[F],by simp[I],by simp[v],⟨_,rfl⟩,go (by rw[A];simp;omega)⟩
 .rintro t _ ⟨F,I,v,⟨J,rfl⟩,d,l1,l2,z⟩ K O;have hX:iM q.length ab l=ae:=by rw[z];simp[iM]
  apply ai;simp;refine av (U _ _ ?_);simp[W,hX]
structure oP where
 (m r t z f p c mi le:Int)
 eg:Tg
 ex:List Int
def gk(l:List Int):List (List FC):=l.map λn=>[.int .u8 n]
@[simp]theorem TP (l:List Int):(gk l).length=l.length:=by simp[gk]
theorem Af(l:List Int):cZ 1 (gk l):=cZ.map λ_=>rfl
def UB{j:Nat}(b:j<l.length):aV H ab (G (.fp (gk l).flatten j))=aa (G (.int .u8 l[j])):=by
 have:=gM (H:=H) (rows:=gk l) (j:=j) (sz:=1) (row:=[.int .u8 l[j]]) (x:=.int .u8 l[j]) (Af l) (by simp[gk,b]) rfl;simpa using this
def B8(n:Int):Prop:=0<=n/\n<=255
def oP.row(x:oP):List FC:=[.int .u8 x.m,.int .u8 x.r,.int .u8 x.t,.int .u8 x.z,.int .u8 x.f,.int .u8 x.p,.int .u8 x.c,.int .u8 x.mi,.int .u8 x.le,sl x.eg (gk x.ex)]
def oP.OK(x:oP):Prop:=B8 x.m/\B8 x.r/\B8 x.t/\B8 x.z/\B8 x.f/\B8 x.p/\B8 x.c/\B8 x.mi/\B8 x.le/\x.ex.length<=9223372036854775807/\∀n∈x.ex,B8 n
def cu(f p:Int)(l:List Int):aR:=⟨.nil,[],f,p,.nil,l⟩
def vQ(p:Int)(l:List Int):Prop:=l.Pairwise (· < ·)/\(∀c∈l,0<=c/\c<p)/\l.length<=7
def Vm(cs:List cM):Prop:=cs=[]\/∃f p l b,cs=[⟨.fs,[⟨.fs,[cu f p l]⟩],b⟩]/\0<=f/\f<=8/\1<=p/\p<=7/\l≠[]/\vQ p l/\60<=b/\b<=1245
def GX(len:Int)(x:aA):Prop:=x.to=x.fr+len/\0<=x.day/\x.day<=13/\90<=x.fr/\x.fr<=20000
def cL(s:aG):Prop:=Vm s.cs/\15<=s.len/\s.len<=180/\s.xs.length<=3/\s.xs.Pairwise aA.lt/\∀x∈s.xs,GX s.len x
def aJ.jR(s:aJ):Prop:=1<=s.meet/\s.meet<=6/\0<=s.room/\s.room<=2/\0<=s.eo/\s.eo<=2/\1<=s.size/\s.size<=12/\cL s.st
def Zg(i:Nat)(h:i<8):∃(aO:Nat) (rest:List C),[C.f (fi 7),C.f (fi 7),C.f (fi 2),C.f (fi 3),C.f (fi 4),C.f (fi 6),C.f (fi 1),C.f (fi 7)].drop i=C.f (fi aO)::rest/\1<=aO/\aO<=7:=by
 match i,h with
 |0,_=>exact⟨7,_,rfl,ap,ap⟩
 |1,_=>exact⟨7,_,rfl,ap,ap⟩
 |2,_=>exact⟨2,_,rfl,ap,ap⟩
 |3,_=>exact⟨3,_,rfl,ap,ap⟩
 |4,_=>exact⟨4,_,rfl,ap,ap⟩
 |5,_=>exact⟨6,_,rfl,ap,ap⟩
 |6,_=>exact⟨1,_,rfl,ap,ap⟩
 |7,_=>exact⟨7,_,rfl,ap,ap⟩
def S8(H:an)(X:C)(f p d:Int)(l:List Int):Prop:=X=.f .aN\/∃N c a0 a1 b,5<=N/\X=.sl (N+2) 0 1 1 0 2/\H[N]?=aa (.box [.f .aN,Z f,Z p,c] a0)/\H[N+1]?=aa (.box [.sl N 0 1 1 0 4] a1)/\
 H[N+2]?=aa (.box [.sl (N+1) 0 1 1 0 1,Z d] b)/\CB ag H c l
theorem S8.set{H:an}{X:C}{f p mi:Int}{l:List Int}(h:S8 H X f p mi l){b:Nat}{cs cs':List C}{fl fl':Nat}(hb:b<5)(d:H[b]?=aa (.box cs fl)):S8 (H.set b (.box cs' fl')) X f p mi l:=by
 rcases h with h|⟨N,c,a0,a1,g,h5,e,h1,h2,h3,h4⟩
 .exact .inl h
 .exact .inr ⟨N,c,a0,a1,g,h5,e,by rw[sh ap];exact h1,by rw[sh ap];exact h2,by rw[sh ap];exact h3,h4.set d⟩
theorem S8.ex{H:an}{X:C}{f p mi:Int}{l:List Int}(h:S8 H X f p mi l)(hl:l.length<=7):∃cg cs,fv deep H X=aa (sl cg (aK cs))/\(cs=[]\/X≠.f .aN/\cs=[⟨.fs,[⟨.fs,[cu f p l]⟩],mi⟩]):=by
 rcases h with rfl|⟨N,c,a0,a1,b,h5,rfl,h1,h2,h3,h4⟩
 .exact⟨.nil,[],rfl,.inl rfl⟩
 .refine⟨.fs,[⟨.fs,[⟨.fs,[cu f p l]⟩],mi⟩],?_,.inr ⟨bv,rfl⟩⟩;have:=h4.ex (n:=60);simp[deep,gR,h1,h2,h3,this];rfl
def JW(x:oP)(hx:x.OK):∃s:aJ,s.jR/\bf tab xY [.a (x.row.map .f)] (.a (s.row.map .f)):=by
 obtain⟨⟨m1,m2⟩,⟨r1,r2⟩,⟨t1,t2⟩,⟨z1,z2⟩,⟨f1,f2⟩,⟨p1,p2⟩,⟨c1,c2⟩,⟨i1,i2⟩,⟨l1,l2⟩,he,hb⟩:=hx;obtain⟨r,⟨s,hs,rfl⟩,h⟩:∃r,(∃s:aJ,s.jR/\r=.a (s.row.map .f))/\bf tab xY [.a (x.row.map .f)] r:=by
  refine dE rfl rfl λQ hQ=>?_;obtain⟨i,hi⟩:∃i:Nat,x.p % 8=i:=⟨(x.p % 8).toNat,ap⟩
  obtain⟨aO,rest,j_,x6,x8⟩:=Zg i ap;have u9:∀(b0 b1 b2:bV) (cs:List C) (fl:Nat),bO [b0,b1,b2,.box cs fl] 1 ab (.c (.sl 3 0 8 8 0 1)) (G (.int .u8 (i:Int)))=aa (.c (.ptr 3 i 0)):=by
   intro b0 b1 b2 cs fl;simp[bO,fE];omega
  have u_:∀(b0 b1 b2:bV) (fl:Nat),aV [b0,b1,b2,.box [Z 7,Z 7,Z 2,Z 3,Z 4,Z 6,Z 1,Z 7] fl] ab (.c (.ptr 3 i 0))=aa (vi aO):=by
   intro b0 b1 b2 fl;simp only[aw,aho,aht,j_];rfl
  have i_:∀t:T,t.g 1=.c (.ptr 0 0 0)->t.g 2=.c (.ptr 1 0 0)->t.g 3=.c (.ptr 2 0 0)->t.g 4=.c (.ptr 4 0 0)->WP tab xY ab [.code ON] ⟨t,[],
    [.box [.f (.int .u8 x.m),.f (.int .u8 x.r),.f (.int .u8 x.t),.f (.int .u8 x.z),.f (.int .u8 x.f),.f (.int .u8 x.p),.f (.int .u8 x.c),.f (.int .u8 x.mi),.f (.int .u8 x.le),.f (sl x.eg (gk x.ex))] 0,
     .box [Z 0,Z 0,Z 0,Z 0,.f .aN,Z 0,.f .aN] 0,
     .box [Z (1+x.m % 6),Z (x.r % 3),Z (x.t % 3),Z (1+x.z % 12),.f .aN,Z 0,.f .aN] 0,
     .box [Z 7,Z 7,Z 2,Z 3,Z 4,Z 6,Z 1,Z 7] 0,
     .box [.f .aN,Z (x.f % 9),Z aO,.f .aN] 0]⟩ Q:=by
   intro t d A m Y;obtain⟨I,S⟩:=aH ([C.f (.int .u8 x.m),.f (.int .u8 x.r),.f (.int .u8 x.t),.f (.int .u8 x.z),.f (.int .u8 x.f),.f (.int .u8 x.p),.f (.int .u8 x.c),.f (.int .u8 x.mi),.f (.int .u8 x.le),.f (sl x.eg (gk x.ex))]);rw[<-S];have q6:I.drop 6=[.f (.int .u8 x.c),.f (.int .u8 x.mi),.f (.int .u8 x.le),.f (sl x.eg (gk x.ex))]:=by rw[S];rfl
   have q7:I.drop 7=[.f (.int .u8 x.mi),.f (.int .u8 x.le),.f (sl x.eg (gk x.ex))]:=by rw[S];rfl
   have q8:I.drop 8=[.f (.int .u8 x.le),.f (sl x.eg (gk x.ex))]:=by rw[S];rfl
   have q9:I.drop 9=[.f (sl x.eg (gk x.ex))]:=by rw[S];rfl
   have K:∀(t:T) (H:an) (X:C) (l:List Int),t.g 1=.c (.ptr 0 0 0)->t.g 2=.c (.ptr 1 0 0)->t.g 3=.c (.ptr 2 0 0)->H[0]?=E I->
     H[1]?=E [Z 0,Z 0,Z 0,Z 0,.f .aN,Z 0,.f .aN]->
     H[2]?=E [Z (1+x.m % 6),Z (x.r % 3),Z (x.t % 3),Z (1+x.z % 12),X,Z (15*(1+x.le % 12)),.f .aN]->
     S8 H X (x.f % 9) aO (60+15*(x.mi % 80)) l->vQ aO l->(X≠.f .aN->l≠[])->WP tab xY ab [.code KX] ⟨t,[],H⟩ Q:=by
    intro t H X l d A m B q g hX W v_;obtain⟨F,j5⟩:=aH (15*(1+x.le % 12));have r_:0<=F:=ii
    have s7:F<=1000:=ii
    rw[<-j5]at g;have w_:0<=x.ex.length:=aih _;apply aU;simp;refine jI (min x.ex.length 3) (λj t H=>t.g 1=.c (.ptr 0 0 0)/\t.g 2=.c (.ptr 1 0 0)/\t.g 3=.c (.ptr 2 0 0)/\H[0]?=E I/\H[1]?=E [Z 0,Z 0,Z 0,Z 0,.f .aN,Z 0,.f .aN]/\
     S8 H X (x.f % 9) aO (60+15*(x.mi % 80)) l/\∃eg xs,H[2]?=E [Z (1+x.m % 6),Z (x.r % 3),Z (x.t % 3),Z (1+x.z % 12),X,Z F,.f (sl eg (ay xs))]/\xs.length<=j/\xs.Pairwise aA.lt/\∀y∈xs,GX F y) ap rfl bv
     ⟨by simp[d],by simp[A],by simp[m],B,q,hX,.nil,[],g,bv,bv,bv⟩ ?_ ?_ ?_
    .rintro j t H L hj ⟨d,A,m,B,q,hX,eg,xs,g,c_,b_,a_⟩ M hL;simp[M,d,B,q9];by_cases k1:j<x.ex.length
     .simp[k1,M];refine hL _ ⟨by simp[d],by simp[A],by simp[m],B,q,hX,eg,xs,g,c_,b_,a_⟩ (by simp[M]) ?_;simp;omega
     .simp[k1];refine hL _ ⟨by simp[d],by simp[A],by simp[m],B,q,hX,eg,xs,g,c_,b_,a_⟩ (by simp[M]) ?_;simp;omega
    .rintro j t H hj ⟨d,A,m,B,q,hX,eg,xs,g,c_,b_,a_⟩ M next
     have c9:j<x.ex.length:=ii
     obtain⟨e1,e2⟩:=hb x.ex[j] (IN c9);have h_:=λH:an=>UB (H:=H) c9;generalize x.ex[j]=e at e1 e2 h_;have i8:de .rem (G (.int .u8 e)) (G (.int .u8 14))=aa (G (.int .u8 (e % 14))):=by simp (disch:=omega) [dD,ag4]
     have m_:de .quo (G (.int .u8 e)) (G (.int .u8 4))=aa (G (.int .u8 (e / 4))):=by simp (disch:=omega) [gI,ahp,nO]
     apply ax;apply ai;simp[d,B,q9,M,bu,c9,h_,i8,a8 (n:=e % 14)];apply ai;simp[d,B,q9,M,bu,c9,h_,m_,a8 (n:=e / 4),a8 (n:=15*(e / 4)),a8 (n:=e % 14*1440),a8 (n:=e % 14*1440+90),a8 (n:=e % 14*1440+90+15*(e / 4))];obtain⟨r6,n_,x9,⟨l_,j8⟩,d_⟩:=MV eg xs ⟨e % 14,e % 14*1440+90+15*(e / 4),e % 14*1440+90+15*(e / 4)+F⟩ ap b_;have j9:∀y∈n_,GX F y:=λy U=>by
      rcases(j8 y).1 U with rfl|U
      .exact⟨rfl,by show 0<=e % 14;omega,by show e % 14<=13;omega,by show 90<=e % 14*1440+90+15*(e / 4);omega,by show e % 14*1440+90+15*(e / 4)<=20000;omega⟩
      .exact a_ y U
     simp[aA.row]at d_;apply ba;simp[m,g,a8 (n:=e % 14*1440+90+15*(e / 4)+F),d_];refine au (next _ _ ?_ (by simp[M]));exact⟨by simp[d],by simp[A],by simp[m],by rw[sh ce];exact B,by rw[sh ce];exact q,hX.set ce g,r6,n_,by rw[By (aj g)],ap,l_,j9⟩
    .rintro t H ⟨d,A,m,B,q,hX,eg,xs,g,c_,b_,a_⟩ M;apply ai;simp[A,m,q,g];have t8:=hX.set (cs':=[Z (1+x.m % 6),Z (x.r % 3),Z (x.t % 3),Z (1+x.z % 12),X,Z F,.f (sl eg (ay xs))]) (fl':=0) ce q;obtain⟨cg,cs,r7,r9⟩:=t8.ex W.2.2;refine av (hQ _ _ _ ⟨⟨1+x.m % 6,x.r % 3,x.t % 3,1+x.z % 12,⟨cg,cs,F,eg,xs⟩⟩,⟨ge,ge,ge,ge,ge,ge,ge,ge,?_⟩,rfl⟩ ?_)
     .refine⟨?_,ge,ge,ge,by simpa using b_,by simpa using a_⟩;rcases r9 with rfl|⟨e,rfl⟩
      .exact .inl rfl
      .exact .inr ⟨_,_,_,_,rfl,ap,ap,ap,ap,v_ e,W,ap,ap⟩
     .simp[A,aj q,aJ.row];simp[jd,bC,r7]
   have d9:∀(t:T) (H:an) (c:C) (l:List Int),t.g 1=.c (.ptr 0 0 0)->t.g 2=.c (.ptr 1 0 0)->t.g 3=.c (.ptr 2 0 0)->t.g 4=.c (.ptr 4 0 0)->H[0]?=E I->
     H[1]?=E [Z 0,Z 0,Z 0,Z 0,.f .aN,Z 0,.f .aN]->
     H[2]?=E [Z (1+x.m % 6),Z (x.r % 3),Z (x.t % 3),Z (1+x.z % 12),.f .aN,Z 0,.f .aN]->
     H[4]?=E [.f .aN,Z (x.f % 9),Z aO,c]->5<=H.length->CB ae H c l->vQ aO l->WP tab xY ab [.code KW] ⟨t,[],H⟩ Q:=by
    intro t H c l d A m Y B q g h4 h5 hB W;have i7:de .rem (G (.int .u8 x.le)) (G (.int .u8 12))=aa (G (.int .u8 (x.le % 12))):=by simp (disch:=omega) [dD,ag4]
    have i9:de .rem (G (.int .u8 x.mi)) (G (.int .u8 80))=aa (G (.int .u8 (x.mi % 80))):=by simp (disch:=omega) [dD,ag4]
    apply ai;simp[d,m,B,g,q8,i7,a8 (n:=x.le % 12),a8 (n:=1+x.le % 12),a8 (n:=15*(1+x.le % 12))];obtain⟨v,N⟩:=aH (H.set 2 (.box [Z (1+x.m % 6),Z (x.r % 3),Z (x.t % 3),Z (1+x.z % 12),.f .aN,Z (15*(1+x.le % 12)),.f .aN] 0));rw[<-N];have a0:v[0]?=E I:=by rw[N,sh ce];exact B
    have a1:v[1]?=E [Z 0,Z 0,Z 0,Z 0,.f .aN,Z 0,.f .aN]:=by rw[N,sh ce];exact q
    have a4:v[4]?=E [.f .aN,Z (x.f % 9),Z aO,c]:=by rw[N,sh ce];exact h4
    have a2:v[2]?=E [Z (1+x.m % 6),Z (x.r % 3),Z (x.t % 3),Z (1+x.z % 12),.f .aN,Z (15*(1+x.le % 12)),.f .aN]:=by rw[N,By (aj g)]
    have aB:CB ae v c l:=by rw[N];exact hB.set g
    have aL:5<=v.length:=by rw[N,agZ];exact h5
    clear N;apply ai;simp[d,a0,q7,i9,a8 (n:=x.mi % 80),a8 (n:=15*(x.mi % 80)),a8 (n:=60+15*(x.mi % 80))];apply ai;have o_:∀(L:an) (h:2<(v++L).length),(v++L)[2]=.box [Z (1+x.m % 6),Z (x.r % 3),Z (x.t % 3),Z (1+x.z % 12),.f .aN,Z (15*(1+x.le % 12)),.f .aN] 0:=λL h=>by
     have:=AI (l₂:=L) (aj a2);rw[a2,BY h]at this;exact ajq this
    simp[m,Y,a4,o_];obtain⟨MI,s_⟩:=aH (60+15*(x.mi % 80));rw[<-s_]at K ⊢;obtain⟨H2,O⟩:∃H2,H2=(v++[bV.box [.f .aN,Z (x.f % 9),Z aO,c] 0,.box [.sl v.length 0 1 1 0 4] 0,.box [.sl (v.length+1) 0 1 1 0 1,Z MI] 0]).set 2
     (.box [Z (1+x.m % 6),Z (x.r % 3),Z (x.t % 3),Z (1+x.z % 12),.sl (v.length+2) 0 1 1 0 2,Z (15*(1+x.le % 12)),.f .aN] 0):=⟨_,rfl⟩
    rw[<-O];have up:∀(b:Nat) cs fl,b≠2->v[b]?=aa (.box cs fl)->H2[b]?=aa (.box cs fl):=λb cs fl hb h=>by
     rw[O,sh (Ne.symm hb),AI (aj h)];exact h
    have b0:=up _ _ _ ce a0;have b1:=up _ _ _ ce a1;have b4:=up _ _ _ ce a4;have b2:H2[2]?=E [Z (1+x.m % 6),Z (x.r % 3),Z (x.t % 3),Z (1+x.z % 12),.sl (v.length+2) 0 1 1 0 2,Z (15*(1+x.le % 12)),.f .aN]:=by
     rw[O,By bv]
    have p9:H2[v.length]?=E [.f .aN,Z (x.f % 9),Z aO,c]:=by rw[O,sh ap];simp
    have p_:H2[v.length+1]?=E [.sl v.length 0 1 1 0 4]:=by rw[O,sh ap];simp
    have q_:H2[v.length+2]?=E [.sl (v.length+1) 0 1 1 0 1,Z MI]:=by rw[O,sh ap];simp
    have bB:CB ae H2 c l:=by
     rw[O];refine(aB.push _).set (cs:=[Z (1+x.m % 6),Z (x.r % 3),Z (x.t % 3),Z (1+x.z % 12),.f .aN,Z (15*(1+x.le % 12)),.f .aN]) (fl:=0) ?_;rw[AI ap];exact a2
    clear O;have J:=Q0 ⟨.nil,[],x.f % 9,aO,.nil,l⟩ (by have:=W.2.2;simp[aR.Sm];omega);obtain⟨be,f_⟩:=aH ((cO ⟨.nil,[],x.f % 9,aO,.nil,l⟩&&decide ((([]:List Int).length:Int)+l.length=0)));simp only[<-f_]at J;have t_:fv deep H2 c=aa (sl .nil (ints l)):=bB.ex 63;obtain⟨mB,mK⟩:=bB.mk 63;have g_:ez (63+1) c H2=ez deep c H2:=rfl;rw[g_]at mB mK;have k_:sl .nil (ints [])=.aN:=rfl;simp[aR.row,k_]at J;apply aU;simp[Y,b4,t_,J];have m0:=mK _ _ _ b0;have m1:=mK _ _ _ b1;have m2:=mK _ _ _ b2;have mC:S8 (ez deep c H2) (.sl (v.length+2) 0 1 1 0 2) (x.f % 9) aO MI l:=.inr ⟨v.length,c,0,0,0,aL,rfl,mK _ _ _ p9,mK _ _ _ p_,mK _ _ _ q_,mB⟩;have i6:cO ⟨.nil,[],x.f % 9,aO,.nil,l⟩=ae:=by
     have hr:∀(l:List Int) (last:Int),l.Pairwise (· < ·)->(∀c∈l,last<c/\c<(aO:Int))->cK aO last l=ae:=by
      intro l;induction l with
      |nil=>intros;rfl
      |cons a l ih=>
       intro last hp hc;have q:=hc a agR;have g:=List.pairwise_cons.1 hp;simp only[cK,decide_eq_true q.1,decide_eq_true q.2,ahJ];exact ih a g.2 λc j6=>⟨g.1 c j6,(hc c (agU _ j6)).2⟩
     have h3:=W.2.2;have h4:=hr l (-1) W.1 λc hc=>⟨by have:=(W.2.1 c hc).1;omega,(W.2.1 c hc).2⟩
     unfold cO;simp only[h4];simp[cK];omega
    rw[i6]at f_;cases be
    .have j7:l≠[]:=by rintro rfl;simp at f_
     refine bG bv ?_;exact K _ _ _ l (by simp[d]) (by simp[A]) (by simp[m]) m0 m1 m2 mC W λ_=>j7
    .refine aq bv ?_;apply ba;simp[m,m2];refine K _ _ (.f .aN) l (by simp[d]) (by simp[A]) (by simp[m]) ?_ ?_ ?_ (.inl rfl) W bv
     .rw[sh ce];exact m0
     .rw[sh ce];exact m1
     .rw[By (aj m2)]
   apply aU;simp;refine jI aO (λj t H=>t.g 1=.c (.ptr 0 0 0)/\t.g 2=.c (.ptr 1 0 0)/\t.g 3=.c (.ptr 2 0 0)/\t.g 4=.c (.ptr 4 0 0)/\H[0]?=E I/\
    H[1]?=E [Z 0,Z 0,Z 0,Z 0,.f .aN,Z 0,.f .aN]/\
    H[2]?=E [Z (1+x.m % 6),Z (x.r % 3),Z (x.t % 3),Z (1+x.z % 12),.f .aN,Z 0,.f .aN]/\5<=H.length/\
    ∃c l,H[4]?=E [.f .aN,Z (x.f % 9),Z aO,c]/\CB ae H c l/\l.length<=j/\l.Pairwise (· < ·)/\∀c∈l,0<=c/\c<(j:Int)) ap rfl bv
    ⟨by simp[d],by simp[A],by simp[m],by simp[Y],rfl,rfl,rfl,bv,.f .aN,[],rfl,.inl ⟨rfl,rfl⟩,bv,bv,bv⟩ ?_ ?_ ?_
   .rintro j t H L hj ⟨d,A,m,Y,B,q,g,h5,c,l,h4,hB,W,hp,hc⟩ M hL;simp[M,Y,h4];exact hL _ ⟨by simp[d],by simp[A],by simp[m],by simp[Y],B,q,g,h5,c,l,h4,hB,W,hp,hc⟩ (by simp[M]) bv
   .rintro j t H hj ⟨d,A,m,Y,B,q,g,h5,c,l,h4,hB,W,hp,hc⟩ M next
    obtain⟨u,hu⟩:∃u,de .shr (G (.int .u8 x.c)) (vi (j:Int))=aa (G (.int .u8 u)):=⟨_,by simp[de];rfl⟩
    obtain⟨w,hw⟩:∃w,de .rem (G (.int .u8 u)) (G (.int .u8 2))=aa (G (.int .u8 w)):=⟨_,by simp[dD];rfl⟩
    apply ax;apply ai;simp[d,B,q6,M,hu,hw];by_cases m9:w=1
    .refine aq (by simp[m9]) ?_;obtain⟨v',H',e1,e2,e3,e4⟩:=LB.app (H:=H++[.box [Z j] 0]) (row:=[fi j]) (bytes:=8) (y:=.c (.sl H.length 0 1 1 0 1)) ((hB.i).push _) (MX _) rfl ce
      (kh (fl:=0) (cs:=[Z j]) bv rfl) (by simp[bC]) md
     obtain⟨c',rfl,_⟩:=e2.len;have e2:LBi ae H' c' (l++[(j:Int)]):=by
      have:ints (l++[(j:Int)])=ints l++[[fi j]]:=ol
      show LB ae H' 1 (.c c') .nil (ints (l++[(j:Int)]));rw[this];exact e2
     have up:∀(b:Nat) cs fl,H[b]?=aa (.box cs fl)->H'[b]?=aa (.box cs fl):=λb cs fl hb=>e4 _ _ _ (by rw[AI (aj hb)];exact hb);have e_:=up _ _ _ h4;apply ba;simp[Y,h4,M,e1,e_];refine au (next _ _ ?_ (by simp[M]));refine⟨by simp[d],by simp[A],by simp[m],by simp[Y],by rw[sh ce];exact up _ _ _ B,by rw[sh ce];exact up _ _ _ q,by rw[sh ce];exact up _ _ _ g,by simp at e3 ⊢;omega,
      c',l++[(j:Int)],By (aj e_),e2.j.set e_,ge,by
       rw[List.pairwise_append];exact⟨hp,List.pairwise_singleton _ _,λy U z hz=>by obtain rfl:=If.1 hz;exact(hc y U).2⟩,λy U=>by
       rcases agP.1 U with U|U
       .have:=hc y U;omega
       .obtain rfl:=If.1 U;omega⟩
    .refine aC (by simp[m9]) ?_;refine aQ (au (next _ _ ?_ (by simp[M])));exact⟨by simp[d],by simp[A],by simp[m],by simp[Y],B,q,g,h5,c,l,h4,hB,ap,hp,λy U=>by have:=hc y U;omega⟩
   .rintro t H ⟨d,A,m,Y,B,q,g,h5,c,l,h4,hB,W,hp,hc⟩ M;exact d9 t H c l d A m Y B q g h4 h5 hB ⟨hp,λy U=>by have:=hc y U;omega,ap⟩
  apply ai;simp[oP.row];apply ai;simp (disch:=omega) [wrap64,nO,ag4,ahp,dD,gI,aht,aho];apply ai;have n9:de .rem (G (.int .u8 x.f)) (G (.int .u8 9))=aa (G (.int .u8 (x.f % 9))):=by simp (disch:=omega) [dD,ag4]
  have n8:de .rem (G (.int .u8 x.p)) (G (.int .u8 8))=aa (G (.int .u8 (i:Int))):=by simp (disch:=omega) [dD,ag4,hi]
  simp[n9,n8,u9,u_,a8 (n:=x.f % 9)];exact i_ _ bv bv bv bv
 exact⟨s,hs,h⟩
end Go.Proofs.YtelifakcllijpaaGreat
