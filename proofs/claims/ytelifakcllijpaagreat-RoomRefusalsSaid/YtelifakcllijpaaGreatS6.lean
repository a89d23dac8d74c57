/-
  LK the kB jt and the jv answer, for all arguments of their kind, in the small machine: part 6.
-/
import Derived.Test.YtelifakcllijpaaGreatS4
import Derived.KernelRfl
import Derived.Test.YtelifakcllijpaaGreatK2
import Derived.Test.YtelifakcllijpaaGreatS5
open Option renaming some->aa,none->ab
open Bool renaming true->ae,false->ag
open Go.IntKind renaming wrap->ah
open List renaming all_eq_true->ag9, mem_range->ai0, length_pos_iff->ahf, getElem_mem->IN, mem_cons_self->agR, pairwise_cons->ahH, mem_cons_of_mem->agU, getElem?_append_left->AI, getElem?_set_ne->sh, getElem?_set_self->By, length_set->agZ, take_add_one->agV, getElem?_eq_getElem->BY, mem_singleton->If, mem_append_left->ahu, mem_append->agP, take_length->agW, length_cons->ahk, pairwise_append->ahT, pairwise_singleton->ahN, length_map->agS, map_append->ahQ, length_append->agM, drop_zero->ahR, take_of_length_le->agY, mem_map->agX, map_cons->IT, map_nil->agN, getElem_of_mem->ag1, any_eq_true->aie, getElem?_append_right->agL, nodup_cons->aiX, mem_cons->ag8, not_mem_nil->aid, map_drop->ait, length_take->ahl, length_drop->ag5, length_nil->ah7, getElem?_cons_zero->aht, getElem?_cons_succ->aho, mem_filter->ahB, length_filter_le->ahV, filter_append->aix, length_singleton->aiv, drop_eq_getElem_cons->agT, drop_length->aib, append_nil->ahe, append_assoc->ahm, getElem?_map->ahF, cons_append->ahO
open Int renaming toNat_of_nonneg->aiQ, le_refl->ahY, toNat_natCast->ag7, tmod_eq_emod_of_nonneg->ag4, tdiv_eq_ediv_of_nonneg->ahp
open Bool renaming true_and->ahJ, eq_iff_iff->aiq
open Nat renaming le_refl->agQ, sub_self->aiD
open List.Pairwise renaming imp->aiZ
set_option linter.all false
set_option maxRecDepth 100000
namespace Go.Proofs.YtelifakcllijpaaGreat
open Go Km
variable{H J:an}{b m B:Nat}{n d:Int}{h:Bool}{a o:aG}{l:List bw}{c:List aJ}{y X:aA}{e:C}{v:T}{r:bw}{k:List Nat}{p w:aJ}{q:aR}{u:List dS}{z:List aA}{A:List Int}{F:List (List aR)}{I:List gY}{K:List (Int × C)}
structure LA(p:aR):Prop where
 hd:p.head=[]
 fr0:0<=p.fr
 fr1:p.fr<=1000
 agH:1<=p.aO
 Fs:p.aO<=7
 bH:p.bH≠[]
 len:p.bH.length<=7
 ris:p.bH.Pairwise (· < ·)
 mem:∀c∈p.bH,0<=c/\c<p.aO
def gq(p:aR)(c:Int):Int:=(p.fr % p.aO+c) % p.aO
def xh(p:aR)(h:LA p)(c:Int)(l:0<=c)(m:c<p.aO):bf tab Vr [.a (p.row.map .f),vi c]=Eq (vi (gq p c)):=Kf.eq (by
 obtain⟨_,d,j,s,u,_,_,_,_⟩:=h;have q:=Int.emod_nonneg p.fr (show p.aO≠0 by omega);have m1:=Int.emod_lt_of_pos p.fr (show 0<p.aO by omega);refine dd rfl rfl λH Q g=>?_;apply ai;simp[aR.row];apply ai;simp[gn (a:=p.fr) (b:=p.aO) d ap,a8 (n:=p.fr % p.aO+c),gn (a:=p.fr % p.aO+c) (b:=p.aO) ap ap];refine av (g _ _ ?_);simp[gq])
def NN(g:Tg)(p:aR)(h:LA p):bf tab Vs [G (sl g (aM [p]))]=Eq (vi p.fr):=Kf.eq (by
 refine dd rfl rfl λH Q x=>?_;have d:=λH:an=>cf (H:=H) (bK [p]) (cH (l:=[p]) (j:=0) bv);have b:=λH:an=>bu (H:=H) (g:=g) (rows:=aM [p]) (sz:=4) (k:=.i64) (i:=0) ap bv;simp[aR.row]at d b;apply ai;simp;apply ai;simp;apply aU;simp;refine bW 1 (λj t H'=>(∃J,H'=H++J)/\t.g 6=G (sl g (aM [p]))/\(j=0->t.g 3=vi 0)/\(j=1->t.g 3=vi p.fr)) ap ce ce bv bv ⟨bv,bv,bv,bv⟩ ?_ ?_
 .rintro j t _ y ⟨⟨J,rfl⟩,s,m,-⟩ q v next
  have:j=0:=ii
  subst this;have m:=m rfl;simp at q;apply ax;apply ai;simp[s,q,b,d];apply ba;have u:max 0 p.fr=p.fr:=by have:=h.fr0;omega
  simp[m,u];refine au (next _ _ ?_ (by simp[q]) (by simp[v]));exact⟨⟨_,rfl⟩,by simp[s],bv,bv⟩
 .rintro t _ ⟨⟨J,rfl⟩,s,-,m⟩ q v;have m:=m rfl;apply ai;simp[m];refine av (x _ _ ?_);simp)
def MF(g:Tg)(p:aR)(h:LA p)(n:Int):bf tab DT [G (sl g (aM [p])),vi n]=Eq (.t [vi 0,vb ag]):=bf.eq (by
 refine bD rfl rfl λQ y=>?_;have m:=λH:an=>cf (H:=H) (bK [p]) (cH (l:=[p]) (j:=0) bv);have d:=λH:an=>bu (H:=H) (g:=g) (rows:=aM [p]) (sz:=4) (k:=.i64) (i:=0) ap bv;simp[aR.row,h.hd]at m d;apply ai;simp;apply ai;simp;apply aU;simp;refine bW 1 (λj t H'=>t.g 12=G (sl g (aM [p]))/\t.g 6=vi 0/\t.g 7=vb ag) ap ce ce bv bv ⟨bv,bv,bv⟩ ?_ ?_
 .rintro j t H z ⟨b,s,u⟩ q v next
  have:j=0:=ii
  subst this;simp at q;apply ax;apply ai;simp[b,q,d,m];apply ai;have x:(bA (H++[bV.box [C.f (sl p.hg []),C.f (fi p.fr),C.f (fi p.aO),C.f (sl p.cg (ints p.bH))] 0]) (C.f (sl p.hg (ints []))))=aa 0:=lw
  simp[ints]at x;simp[x];refine bW 0 (λj t H'=>t.g 12=G (sl g (aM [p]))/\t.g 6=vi 0/\t.g 7=vb ag/\t.g 14=vi 0/\t.g 13=vi 1) ap ce ce bv bv ⟨by simp[b],by simp[s],by simp[u],by simp[q],by simp[v]⟩ ?_ ?_
  .intro j t H z;omega
  .rintro t H' ⟨b,s,u,q,v⟩ - -;refine au (next _ _ ?_ (by simp[q]) (by simp[v]));exact⟨by simp[b],by simp[s],by simp[u]⟩
 .rintro t H ⟨b,s,u⟩ q v;apply ai;simp[s,u];refine av (y _ _ ?_);simp)
def RM(aO r:Nat):Option (V × an)->Bool
 |some (.t [.a [.f (.int .i64 a),.f (.int .i64 b)],.c (.f (.bool ae))],_)=>a == r&&b == aO| _=>ag
def RN:((List.range 8).all λaO=>(List.range aO).all λr=>RM aO r (CF tab 60 20 (.fn I') [.a [Z 0,Z 1],vi r,vi aO] []))=ae:=io
def RP(aO r:Int)(h:aO<=7)(m:0<=r)(q:r<aO):bf tab I' [.a [Z 0,Z 1],vi r,vi aO]=Eq (.t [.a [Z r,Z aO],vb ae]):=bf.eq (by
 have g:=RN;simp only[ag9,ai0]at g;have d:=g aO.toNat ap r.toNat ap;rw[aiQ m,aiQ (show 0<=aO by omega)]at d;unfold RM at d;split at d
 .rename_i a b H' e;simp at d;obtain⟨rfl,rfl⟩:=d;refine⟨_,H',⟨60,20,e⟩,?_⟩;have j:max r 0=r:=ii
  have l:max aO 0=aO:=ii
  simp[jd,dq,bC,j,l]
 .cases d)
def afI(g:Tg)(p:aR)(H:an)(x y:V)(fl:Nat)(b:H[0]?=aa (.box [.f (sl g (aM [p]))] fl)) :
  ∃r H',Ev tab (.fn tR) [vi 1,.c (.ptr 0 0 0),x,y] H r H'/\(r=vb ae/\H'=H):=by
 refine dc rfl rfl λQ d=>?_;apply ai;simp;apply lF;apply aU;simp[b];refine aq bv ?_;apply ai;simp;exact av (d _ _ _ rfl (dx bv) ⟨rfl,rfl⟩)
def Iu(g:Tg)(p:aR)(h:LA p):bf tab DV [G (sl g (aM [p]))]=Eq (vb ae):=by
 have key:∃r,(r=vb ae)/\bf tab DV [G (sl g (aM [p]))] r:=by
  refine dE rfl rfl λQ I=>?_;have q:=λH:an=>cf (H:=H) (bK [p]) (cH (l:=[p]) (j:=0) bv);have b:=λH:an=>ib (H:=H) (k:=3) (bK [p]) (cH (l:=[p]) (j:=0) bv) rfl;have d:=λH:an=>bu (H:=H) (g:=g) (rows:=aM [p]) (sz:=4) (k:=.i64) (i:=0) ap bv;simp[aR.row]at q d b;have s:∃r H',Ev tab (.fn tR) [vi 0,.c (.ptr 0 0 0),.c (.ptr 2 0 0),.c (.ptr 3 0 0)] [.box [.f (sl g (aM [p]))] 0,.box [Z 0] 0,.box [.sl 1 0 1 1 0 1] 0,.box [.cl tR [.ptr 0 0 0,.ptr 2 0 0,.ptr 3 0 0]] 0] r H'/\(r=vb ae/\True):=by
   refine dc rfl rfl λQ I=>?_;apply ai;simp;apply lF;apply aU;simp;refine bG bv ?_;refine aE (qz ?_);apply aU;simp[d,b];have F:0<p.bH.length:=ahf.2 h.bH;have N:=h.len;refine bW p.bH.length (λj t H'=>j=0/\t.g 0=vi 0/\t.g 1=.c (.ptr 0 0 0)/\t.g 2=.c (.ptr 2 0 0)/\t.g 3=.c (.ptr 3 0 0)/\t.g 18=G (sl p.cg (ints p.bH))/\
    H'=[.box [.f (sl g (aM [p]))] 0,.box [Z 0] 0,.box [.sl 1 0 1 1 0 1] 0,.box [.cl tR [.ptr 0 0 0,.ptr 2 0 0,.ptr 3 0 0]] 0]) ap ce ce bv bv ⟨rfl,bv,bv,bv,bv,bv,rfl⟩ ?_ ?_
   .rintro j t _ S ⟨rfl,u,y,A,B,z,rfl⟩ L U next
    simp at L;have M:=h.mem p.bH[0] (IN F);have v:=λH:an=>bu (H:=H) (g:=p.cg) (rows:=ints p.bH) (sz:=1) (k:=.i64) (i:=0) ap (by simpa using F);have x:=λH:an=>dY (H:=H) F;have m:=xh p h p.bH[0] M.1 M.2;simp at v x;simp[aR.row]at m;obtain⟨r,H',J,rfl,rfl⟩:=afI g p [.box [.f (sl g (aM [p]))] 0,.box [Z (gq p p.bH[0])] 0,.box [.sl 1 0 1 1 0 1] 0,.box [.cl tR [.ptr 0 0 0,.ptr 2 0 0,.ptr 3 0 0]] 0] (.c (.ptr 2 0 0)) (.c (.ptr 3 0 0)) 0 rfl;apply ax;apply ai;simp[L,z,v,x];apply ai;simp[u,y,d,q,m];apply aU;simp[u];refine bW 0 (λj t H'=>t.g 0=vi 0/\t.g 1=.c (.ptr 0 0 0)/\t.g 2=.c (.ptr 2 0 0)/\t.g 3=.c (.ptr 3 0 0)/\t.g 8=vi (gq p p.bH[0])/\
     H'=[.box [.f (sl g (aM [p]))] 0,.box [Z 0] 0,.box [.sl 1 0 1 1 0 1] 0,.box [.cl tR [.ptr 0 0 0,.ptr 2 0 0,.ptr 3 0 0]] 0]) ap ce ce bv bv ⟨by simp[u],by simp[y],by simp[A],by simp[B],bv,rfl⟩ ?_ ?_
    .intro j t H S;omega
    .rintro t _ ⟨u,y,A,B,O,rfl⟩ - -;apply ai;simp[u,A,O,bO,fE];apply ai;simp[u,B,a8 (n:=1),J.eq,cr];refine aq bv ?_;apply ai;simp;exact av (I _ _ _ rfl (dx bv) ⟨rfl,trivial⟩)
   .rintro t H' ⟨h,-⟩ - -;omega
  obtain⟨r,H',J,rfl,-⟩:=s;apply ai;simp;have K:∀(t:T) (H:an),t.g 6=vi 1->cA t H (.fu 1 8 [.int .i64 0] (R 6) (R 6))=aa (.c (.sl H.length 0 1 1 0 1),H++[.box [Z 0] 0]):=by
   intro t H h;simp only[cA,mF,h];rfl
  apply ai;simp[K];apply ai;simp;apply ai;simp;apply ai;simp[cr,J.eq];refine av (I _ _ _ rfl ?_);simp
 obtain⟨r,rfl,h⟩:=key;exact h.eq
def kI(n r aO:Int):Int:=if r<n then r+(n-r+aO-1) / aO*aO else r
def vo{aO:Int}(g:0<=d)(j:d<aO)(l:aO<=7)(s:0<=n):n<=kI n d aO/\kI n d aO % aO=d/\kI n d aO<=n+7/\∀r,n<=r->r % aO=d->kI n d aO<=r:=by
 have b:aO=1\/aO=2\/aO=3\/aO=4\/aO=5\/aO=6\/aO=7:=ii
 unfold kI;rcases b with rfl|rfl|rfl|rfl|rfl|rfl|rfl<;>(split<;>(refine⟨ap,ap,ap,λr m q=>by omega⟩))
def oB(h:LA q)(m:0<=n)(p:n<q.aO):0<=gq q n/\gq q n<q.aO/\((d-q.fr) % q.aO=n↔d % q.aO=gq q n):=by
 obtain⟨_,g,j,s,u,_,_,_,_⟩:=h;unfold gq;generalize q.aO=aO at *;generalize q.fr=l at *;have b:aO=1\/aO=2\/aO=3\/aO=4\/aO=5\/aO=6\/aO=7:=ii
 rcases b with rfl|rfl|rfl|rfl|rfl|rfl|rfl<;>omega
def Jw(h:LA q)(l:q.fr<=d):bE q d=ae↔∃c∈q.bH,d % q.aO=gq q c:=by
 unfold bE;rw[ct l,decide_eq_true_eq];constructor
 .intro j;obtain⟨a,b⟩:=h.mem _ j;exact⟨_,j,((oB h a b (d:=d)).2.2).1 rfl⟩
 .rintro⟨c,g,e⟩;obtain⟨a,b⟩:=h.mem _ g;rw[((oB h a b (d:=d)).2.2).2 e];exact g
def qt(h:LA q):cO q=ae:=by
 have u:∀(l:List Int) (last:Int),l.Pairwise (· < ·)->(∀c∈l,last<c/\c<q.aO)->cK q.aO last l=ae:=by
  intro l;induction l with
  |nil=>intros;rfl
  |cons a l v=>
   intro last s b;have g:=b a agR;have j:=ahH.1 s;simp only[cK,decide_eq_true g.1,decide_eq_true g.2,ahJ];exact v a j.2 λc d=>⟨j.1 c d,(b c (agU _ d)).2⟩
 have p:=u q.bH (-1) h.ris λc b=>⟨by have:=(h.mem c b).1;omega,(h.mem c b).2⟩
 obtain⟨m,x,y,A,B,_,z,_,_⟩:=h;unfold cO;rw[p,m];simp[cK];omega
def NV(H:an)(g:Tg)(p:aR)(n least:Int)(found:Bool):Prop:=(∃a,H[0]?=aa (.box [.f (sl g (aM [p]))] a))/\H[1]?=E [Z n]/\H[2]?=E [Z least]/\H[3]?=E [.f (.bool found)]/\
 H[4]?=E [.cl pD [.ptr 0 0 0,.ptr 4 0 0,.ptr 1 0 0,.ptr 2 0 0,.ptr 3 0 0]]
def NV.push{g:Tg}{p:aR}{least:Int}{found:Bool}(h:NV H g p n least found)(J:an):NV (H++J) g p n least found:=by
 obtain⟨⟨a,h0⟩,h1,h2,h3,h4⟩:=h;refine⟨⟨a,?_⟩,?_,?_,?_,?_⟩
 .rw[AI (aj h0)];exact h0
 .rw[AI (aj h1)];exact h1
 .rw[AI (aj h2)];exact h2
 .rw[AI (aj h3)];exact h3
 .rw[AI (aj h4)];exact h4
def ac7(g:Tg)(p:aR)(H:an)(n least:Int)(found:Bool)(r:Int)(h:NV H g p n least found)(z:0<=r)(A:r<p.aO)(B:p.aO<=7)(o:0<=n)(w:n<=1000000) :
  ∃v H',Ev tab (.fn pD) [vi 1,.a [Z r,Z p.aO],.c (.ptr 0 0 0),.c (.ptr 4 0 0),.c (.ptr 1 0 0),.c (.ptr 2 0 0),.c (.ptr 3 0 0)] H v H'/\
   (v=.t []/\NV H' g p n (if kI n r p.aO<=least then kI n r p.aO else least) (found||decide (kI n r p.aO<=least))/\∀i:Nat,5<=i->i<H.length->H'[i]?=H[i]?):=by
 obtain⟨⟨a0,Y⟩,c,e,f,L⟩:=h;obtain⟨u1,u2,u3,-⟩:=vo z A B o;have l4:=aj L;refine dc rfl rfl λQ O=>?_;have m:∀(t:T) (q:an) (x:Int),x=kI n r p.aO->t.g 8=.c (.ptr H.length 0 0)->t.g 4=.c (.ptr 1 0 0)->t.g 5=.c (.ptr 2 0 0)->t.g 6=.c (.ptr 3 0 0)->NV q g p n least found->q[H.length]?=E [Z x,Z p.aO]->(∀i:Nat,5<=i->i<H.length->q[i]?=H[i]?)->
   WP tab pD ab [.code DJ] ⟨t,[],q⟩ Q:=by
  rintro t q _ rfl K W J X j U l;have q1:=j.2.1;have S:=j.2.2.1;have q3:=j.2.2.2.1;apply ai;simp[K,W,J,U,q1,S,u1];by_cases k:kI n r p.aO<=least
  .refine aq (by simp[k]) ?_;have F:(q.set 2 (.box [Z (kI n r p.aO)] 0))[3]?=E [.f (.bool found)]:=by rw[sh ce];exact q3
   apply ba;simp[K,J,X,U,S,F];refine cN (O _ _ _ rfl rfl ⟨rfl,?_,λi hi y=>by rw[sh ap,sh ap];exact l i hi y⟩);obtain⟨⟨a0,z⟩,A,B,M,N⟩:=j;refine⟨⟨a0,?_⟩,?_,?_,?_,?_⟩
   .rw[sh ce,sh ce];exact z
   .rw[sh ce,sh ce];exact A
   .rw[sh ce,By (aj B)];simp[k]
   .rw[By (by rw[agZ];exact aj M)];simp[k]
   .rw[sh ce,sh ce];exact N
  .refine bG (by simp[k]) ?_;refine cN (O _ _ _ rfl rfl ⟨rfl,?_,l⟩);simpa[k]using j
 apply ai;simp;have d:=NV.push (H:=H) (g:=g) (p:=p) (n:=n) (least:=least) (found:=found) ⟨⟨a0,Y⟩,c,e,f,L⟩ [.box [Z r,Z p.aO] 0];have u:(H++[bV.box [Z r,Z p.aO] 0])[H.length]?=E [Z r,Z p.aO]:=lw
 have s:∀i:Nat,5<=i->i<H.length->(H++[bV.box [Z r,Z p.aO] 0])[i]?=H[i]?:=λi _ y=>AI y;generalize H++[bV.box [Z r,Z p.aO] 0]=q at d u s ⊢;obtain⟨a1,r0⟩:=d.1;have I:=d.2.1;apply aU;simp[r0];refine bG bv ?_;apply aU;by_cases k:r<n
 .simp[I,u,k,show 0<p.aO by omega];refine aq bv ?_;have a_:kI n r p.aO=r+(n-r+p.aO-1) / p.aO*p.aO:=by unfold kI;rw[ct k]
  have hq:=eI (a:=n-r+p.aO-1) (b:=p.aO) ap ap ap;have b1:(n-r+p.aO-1) / p.aO*p.aO=kI n r p.aO-r:=ii
  apply ba;simp[I,u,a8 (n:=n-r),a8 (n:=n-r+p.aO),a8 (n:=n-r+p.aO-1),hq,b1,a8 (n:=kI n r p.aO-r),a8 (n:=r+(kI n r p.aO-r))];refine m _ _ _ (show r+(kI n r p.aO-r)=_ by omega) bv bv bv bv ?_ (By (aj u)) λi hi y=>by rw[sh ap];exact s i hi y
  obtain⟨⟨a1,z⟩,A,B,M,N⟩:=d;refine⟨⟨a1,?_⟩,?_,?_,?_,?_⟩
  all_goals (rw[sh ap];assumption)
 .simp[I,u,k];refine bG bv ?_;exact m _ _ r (by unfold kI;rw[cC k]) bv bv bv bv d u s
def ac6(g:Tg)(p:aR)(z:LA p)(H:an)(n:Int)(hH:NV H g p n 1152921504606846976 ag)(hn:0<=n)(c9:n<=1000000) :
  ∃v H',Ev tab (.fn pD) [vi 0,.a [Z 0,Z 1],.c (.ptr 0 0 0),.c (.ptr 4 0 0),.c (.ptr 1 0 0),.c (.ptr 2 0 0),.c (.ptr 3 0 0)] H v H'/\
   (v=.t []/\∃d,NV H' g p n d ae/\(∃c∈p.bH,d=kI n (gq p c) p.aO)/\∀c∈p.bH,d<=kI n (gq p c) p.aO):=by
 refine dc rfl rfl λQ hQ=>?_;have F:=λH:an=>cf (H:=H) (bK [p]) (cH (l:=[p]) (j:=0) bv);have q:=λH:an=>ib (H:=H) (k:=3) (bK [p]) (cH (l:=[p]) (j:=0) bv) rfl;have A:=λH:an=>ib (H:=H) (k:=2) (bK [p]) (cH (l:=[p]) (j:=0) bv) rfl;have s:=λH:an=>bu (H:=H) (g:=g) (rows:=aM [p]) (sz:=4) (k:=.i64) (i:=0) ap bv;simp[aR.row]at F s q A;have l4:=aj hH.2.2.2.2;have c_:=z.len;apply ai;simp;have J:=hH.push [.box [Z 0,Z 1] 0];have u:(H++[bV.box [Z 0,Z 1] 0])[H.length]?=E [Z 0,Z 1]:=lw
 obtain⟨M,b_⟩:=aH (H.length);rw[<-b_]at u ⊢;generalize H++[bV.box [Z 0,Z 1] 0]=HH at J u ⊢;obtain⟨a0,q0⟩:=J.1;apply aU;simp[q0];refine aq bv ?_;apply aU;simp[q0,s,q];refine bW p.bH.length (λj t H'=>t.g 0=vi 0/\t.g 2=.c (.ptr 0 0 0)/\t.g 3=.c (.ptr 4 0 0)/\t.g 8=.c (.ptr M 0 0)/\t.g 21=G (sl p.cg (ints p.bH))/\H'[M]?=E [Z 0,Z 1]/\
  ((j=0/\NV H' g p n 1152921504606846976 ag)\/(0<j/\∃d,NV H' g p n d ae/\(∃c∈p.bH.take j,d=kI n (gq p c) p.aO)/\∀c∈p.bH.take j,d<=kI n (gq p c) p.aO))) ap ce ce bv bv
  ⟨bv,bv,bv,bv,bv,u,.inl ⟨rfl,J⟩⟩ ?_ ?_
 .rintro j t H' hj ⟨U,a,f,o,I,u,w⟩ ha hb next
  obtain⟨least,found,K,b⟩:∃least found,NV H' g p n least found/\((j=0/\least=1152921504606846976/\found=ag)\/(0<j/\found=ae/\(∃c∈p.bH.take j,least=kI n (gq p c) p.aO)/\∀c∈p.bH.take j,least<=kI n (gq p c) p.aO)):=by
   rcases w with⟨h,h'⟩|⟨h,d,r,W,X⟩
   .exact⟨_,_,h',.inl ⟨h,rfl,rfl⟩⟩
   .exact⟨_,_,r,.inr ⟨h,rfl,W,X⟩⟩
  have Y:=z.mem p.bH[j] (IN hj);have m:=oB z Y.1 Y.2 (d:=0);have B:=xh p z p.bH[j] Y.1 Y.2;have L:=RP p.aO (gq p p.bH[j]) z.Fs m.1 m.2.1;obtain⟨u1,u2,u3,-⟩:=vo m.1 m.2.1 z.Fs hn;simp[aR.row]at B;have S:p.bH.take (j+1)=p.bH.take j++[p.bH[j]]:=by rw[agV,BY hj];rfl
  obtain⟨a1,e0⟩:=K.1;have e4:=K.2.2.2.2;obtain⟨v,H2,y,rfl,N,O⟩:=ac7 g p (H'++[.box [Z (gq p p.bH[j]),Z p.aO] 0]) n least found (gq p p.bH[j]) (K.push _) m.1 m.2.1 z.Fs hn c9;have y:=y.eq;have k4:(H'++[bV.box [Z (gq p p.bH[j]),Z p.aO] 0])[4]?=E [.cl pD [.ptr 0 0 0,.ptr 4 0 0,.ptr 1 0 0,.ptr 2 0 0,.ptr 3 0 0]]:=by rw[AI (aj e4)];exact e4
  have kN:(H'++[bV.box [Z (gq p p.bH[j]),Z p.aO] 0])[H'.length]?=E [Z (gq p p.bH[j]),Z p.aO]:=lw
  have kl:(H'++[bV.box [Z (gq p p.bH[j]),Z p.aO] 0]).length=H'.length+1:=lw
  have kb:(H'++[bV.box [Z (gq p p.bH[j]),Z p.aO] 0])[M]?=E [Z 0,Z 1]:=by rw[AI (aj u)];exact u
  apply ax;apply ai;simp[ha,I,bu,hj,dY];apply ai;simp[U,a,o,u,e0,s,F,A,B,L];apply aE;apply ba;simp;generalize H'++[bV.box [Z (gq p p.bH[j]),Z p.aO] 0]=HA at y k4 kN kl kb O ⊢;refine aq bv ?_;apply ba;simp[U,f,k4,kN,a8 (n:=1),cr,y];refine au (next _ _ ?_ (by simp[ha]) (by simp[hb]));have a_:5<=M:=ii
  refine⟨by simp[U],by simp[a],by simp[f],by simp[o],by simp[I],?_,.inr ⟨ap,(if kI n (gq p p.bH[j]) p.aO<=least then kI n (gq p p.bH[j]) p.aO else least),?_,?_,?_⟩⟩
  .rw[O M a_ (by rw[kl];have:=aj u;omega)];exact kb
  .have hf:(found||decide (kI n (gq p p.bH[j]) p.aO<=least))=ae:=by
    rcases b with⟨_,rfl,rfl⟩|⟨_,rfl,_⟩
    .simp;omega
    .simp
   rw[hf]at N;exact N
  .rw[S];rcases b with⟨rfl,rfl,rfl⟩|⟨_,rfl,⟨c,x,e⟩,h⟩
   .exact⟨p.bH[0],bv,by rw[ct ap]⟩
   .split
    .exact⟨p.bH[j],List.mem_append_right _ (If.2 rfl),rfl⟩
    .exact⟨c,ahu _ x,e⟩
  .intro c x;rw[S,agP,If]at x;rcases b with⟨rfl,rfl,rfl⟩|⟨_,rfl,_,h⟩
   .rw[ct ap];rcases x with x|rfl
    .simp at x
    .exact ahY _
   .rcases x with x|rfl
    .have:=h c x;split<;>omega
    .split<;>omega
 .rintro t H' ⟨U,a,f,o,I,u,w⟩ - -;have hN:0<p.bH.length:=ahf.2 z.bH;rcases w with⟨h,_⟩|⟨_,d,r,W,X⟩
  .omega
  .rw[agW]at W X;exact av (hQ _ _ _ rfl rfl ⟨rfl,d,r,W,X⟩)
def Rt(g:Tg)(p:aR)(b:LA p)(n:Int)(f:0<=n)(N:n<=100000):∃d,(n<=d/\p.fr<=d/\bE p d=ae/\d<=1000007/\∀d',n<=d'->p.fr<=d'->bE p d'=ae->d<=d')/\
  bf tab DU [G (sl g (aM [p])),vi n]=Eq (.t [vi d,vb ae]):=by
 have key:∃r,(∃d,(n<=d/\p.fr<=d/\bE p d=ae/\d<=1000007/\∀d',n<=d'->p.fr<=d'->bE p d'=ae->d<=d')/\r=.t [vi d,vb ae])/\bf tab DU [G (sl g (aM [p])),vi n] r:=by
  refine dE rfl rfl λQ L=>?_;have A:=NN g p b;have X:=b.fr0;have Y:=b.fr1;obtain⟨m,M⟩:=aH (max n p.fr);obtain⟨v,H',z,rfl,d,F,⟨c,H,y⟩,u⟩:=ac6 g p b [.box [.f (sl g (aM [p]))] 0,.box [Z m] 0,.box [Z 1152921504606846976] 0,.box [.f (.bool ag)] 0,.box [.cl pD [.ptr 0 0 0,.ptr 4 0 0,.ptr 1 0 0,.ptr 2 0 0,.ptr 3 0 0]] 0] m
   ⟨⟨0,rfl⟩,rfl,rfl,rfl,rfl⟩ ap ap
  apply ai;simp;apply ai;simp[A,<-M];apply ai;simp;apply ai;simp;apply ai;simp;apply ai;simp[cr,z.eq];apply aU;simp[F.2.2.2.1];refine bG bv ?_;apply ai;simp[F.2.2.1];have s:=b.mem c H;have x:=λd=>oB b s.1 s.2 (d:=d);obtain⟨O,I,S,U⟩:=vo (x 0).1 (x 0).2.1 b.Fs (show 0<=m by omega);rw[<-y]at O I S U;refine av (L _ _ _ ⟨d,⟨ap,ap,(Jw b ap).2 ⟨c,H,I⟩,ap,λd' a J K=>?_⟩,rfl⟩ ?_)
  .obtain⟨B,q,e⟩:=(Jw b J).1 K;have j:=b.mem B q;have l:=oB b j.1 j.2 (d:=0);obtain⟨-,-,-,W⟩:=vo l.1 l.2.1 b.Fs (show 0<=m by omega);have:=u B q;have:=W d' ap e;omega
  .simp
 obtain⟨r,⟨d,y,rfl⟩,h⟩:=key;exact⟨d,y,bf.eq h⟩
def IM(x:FC):bf tab PJ [G x]=Eq (G (.fn gG [.fp [x] 0])):=by
 refine bf.eq (bD rfl rfl λQ b=>?_);apply ai;simp;apply ai;simp;refine av (b _ _ ?_);simp[deep]
def U_{H':an}(g:Tg)(t:cU)(B:Ev tab (.yield b) [G (sl t.tg (aM t.fs))] H (vb ae) H') :
  ∃r y,Ev tab (.fn gG) [.c (.yl b),G (.fp [sl g (aI [t])] 0)] H r y/\(r=.t []/\y=H'):=by
 refine dc rfl rfl λQ A=>?_;have m:=λH:an=>gM (H:=H) (eV [t]) (gF (l:=[t]) (j:=0) bv) rfl;have d:=λH:an=>bu (H:=H) (g:=g) (rows:=aI [t]) (sz:=1) (k:=.i64) (i:=0) ap bv;simp at m d;apply ai;simp[lU];refine bW 1 (λj s J=>t=t/\s.g 0=.c (.yl b)/\s.g 5=G (sl g (aI [t]))/\(j=0->J=H)/\(j=1->J=H')) ap ce ce bv bv ⟨rfl,bv,bv,bv,bv⟩ ?_ ?_
 .rintro j s J F ⟨-,u,v,x,-⟩ q z next
  have:j=0:=ii
  subst this;obtain rfl:=x rfl;simp at q;apply ax;apply ai;simp[v,q,d,m];apply ai;simp[u,B.eq];refine bG bv ?_;refine au (next _ _ ?_ (by simp[q]) (by simp[z]));exact⟨rfl,by simp[u],by simp[v],bv,bv⟩
 .rintro s J ⟨-,u,v,-,x⟩ q z;obtain rfl:=x rfl;exact cN (A _ _ _ rfl rfl ⟨rfl,rfl⟩)
def Jb(p:aR)(n d:Int):Prop:=n<=d/\p.fr<=d/\bE p d=ae/\d<=1000007/\∀d',n<=d'->p.fr<=d'->bE p d'=ae->d<=d'
def M7(g:Tg)(t:cU)(p:aR)(S:t.fs=[p])(J:LA p)(n:Int)(O:0<=n)(I:n<=100000):∃d,Jb p n d/\
  bf tab dp [G (.fn gG [.fp [sl g (aI [t])] 0]),vi n]=Eq (.t [vi d,vb ae]):=by
 obtain⟨d,N,l⟩:=Rt t.tg p J n O I;refine⟨d,N,?_⟩;have key:∃r,(r=.t [vi d,vb ae])/\bf tab dp [G (.fn gG [.fp [sl g (aI [t])] 0]),vi n] r:=by
  refine iX Qi rfl λQ M=>?_;have j:=MF t.tg p J n;have u:=Iu t.tg p J;have y:∀s:T,s.g 3=.c (.ptr 0 0 0)->s.g 6=.c (.ptr 1 0 0)->s.g 7=.c (.ptr 2 0 0)->s.g 11=G (.fn gG [.fp [sl g (aI [t])] 0])->
    WP tab dp ab [.code Cp,.inBlock 0,.code xU] ⟨s,[],[.box [Z n] 0,.box [Z 0] 0,.box [.f (.bool ag)] 0]⟩ Q:=by
   intro s A K B z;obtain⟨r,H',U,rfl,W,X,Y,q,v,ps,m,bd,a⟩:=dm (tab:=tab) (b:=4) (args:=[G (sl t.tg (aM t.fs))])
    (H:=[.box [Z n] 0,.box [Z 0] 0,.box [.f (.bool ag)] 0,.dH ae,.lp dp s [P.nat 12] cT cD .ready ab 3])
    (C:=λr H'=>r=vb ae/\H'[1]?=E [Z d]/\H'[2]?=E [.f (.bool ae)]/\H'[3]?=aa (.dH ae)/\∃q v ps m bd,H'[4]?=aa (.lp q v ps m bd .ready ab 3)) rfl rfl λi F=>by
     rw[S];refine aF (.inr rfl) ?_;simp;refine eM rfl ?_;simp;apply ax;refine aE (aF (.inr rfl) ?_);simp[A,j];apply aE;refine aE (aF (.inr rfl) ?_);simp[A,u,show n<=1152921504606846976 by omega];refine aq bv ?_;refine aF (.inr rfl) ?_;simp[A,l];apply aE;refine aF (.inr rfl) ?_;simp[B];refine aq bv ?_;refine aF (.inr rfl) ?_;simp[K,B];refine au (cN (F _ _ _ _ _ _ _ _ _ _ rfl rfl ?_));exact⟨rfl,rfl,rfl,rfl,_,_,_,_,_,rfl⟩
   obtain⟨r,x,L,rfl,rfl⟩:=U_ g t U;refine dC (g:=gG) (by rw[mF,z];simp[cr]) L ?_;refine dX a ce ?_;apply au;apply ai;have c:(x.set 4 (.lp q v ps m bd .exhausted ab 3))[1]?=E [Z d]:=by rw[sh ce];exact W
   have e:(x.set 4 (.lp q v ps m bd .exhausted ab 3))[2]?=E [.f (.bool ae)]:=by rw[sh ce];exact X
   have f:(x.set 4 (.lp q v ps m bd .exhausted ab 3))[3]?=aa (.dH ae):=by rw[sh ce];exact Y
   simp[K,B,c,e];refine av (M _ _ _ rfl (.inr ⟨3,rfl,f,.t [vi d,vb ae],?_,by simp[jd,dq,bC]⟩));simp[Km.results,cB,bC]
  apply ai;simp;apply ai;simp;apply aU;simp;apply ax;exact y _ bv bv bv bv
 obtain⟨r,rfl,h⟩:=key;exact h.eq
def RX(g:Tg)(t:cU)(p:aR)(m:t.fs=[p])(s:LA p)(n:Int)(y:0<=n)(l:n<=100000):∃d,Jb p n d/\
  bf tab PU [.a [.f (sl g (aI [t]))],vi n]=Eq (.t [vi d,vb ae]):=by
 obtain⟨d,v,x⟩:=M7 g t p m s n y l;refine⟨d,v,bf.eq (bD rfl rfl λQ u=>?_)⟩;have b:=qt s;have j:iH [t]=ae:=by simp[iH,iZ,m,b]
 have q:=Da g [t] bv (by simp[cU.Sm,m];exact jL b);rw[j]at q;have z:=IM (sl g (aI [t]));have A:max n 0=n:=ii
 apply ai;simp;apply aU;simp[q];refine bG bv ?_;apply ai;simp[z,A,x];refine av (u _ _ ?_);simp
theorem EL:∀(l:List Int) (a k:Int),l.Pairwise (· < ·)->(∀x∈l,a<=x/\x<a+k)->(l.length:Int)<=max k 0
 |[],_,_,_,_=>by simp;omega
 |x::l,a,k,g,h=>by
  have j:=h x agR;have b:=ahH.1 g;have:=EL l (x+1) (a+k-x-1) b.2 λy d=>⟨by have:=b.1 y d;omega,by have:=h y (agU _ d);omega⟩
  simp only[ahk];omega
def QT(g j b:FC)(len d l m:Int):bf tab abS [.a [.f g,Z len,.f j],.a [.f b,Z d],.a [Z l,Z m]] =
  Eq (G (.fn I6 [.fp [fi l,fi m] 0,.fp [g,fi len,j] 0,.fp [b,fi d] 0])):=by
 refine bf.eq (bD rfl rfl λQ q=>?_);apply ai;simp;apply ai;simp;refine av (q _ _ ?_);simp[deep]
def sF(p:aR)(g b j d:Int):Prop:=g<=d/\p.fr<=d/\bE p d=ae/\d*1440+b<j
def QS{PP:List Int->an->Prop}(g:Tg)(t:cU)(p:aR)(ht:t.fs=[p])(hp:LA p)(o w:FC)(len q z I:Int)(d_:0<=len)(e_:len<=220)(f_:0<=q)(g_:q<=1440)
  (c_:-100<=z) (hw:I<=100000000) (d9:z<=I) (K:Int) (hn:K=max 0 ((z-len-q) / 1440+1)) (h0:PP [] H)
  (i:∀l d H,PP l H->0<=d->d<=100000->(l.length:Int)<=d->∃H',Ev tab (.yield b) [vi d] H (vb ae) H'/\PP (l++[d]) H') :
  ∃r H',Ev tab (.fn I6) [.c (.yl b),G (.fp [fi z,fi I] 0),G (.fp [o,fi len,w] 0),G (.fp [sl g (aI [t]),fi q] 0)] H r H'/\
   (r=.t []/\∃l,PP l H'/\l.Pairwise (· < ·)/\∀d,d∈l↔sF p K q I d):=by
 refine dc rfl rfl λQ hQ=>?_;have c:=qv (z-len-q) ap ap;have B:=λd=>NP o w (sl g (aI [t])) len q d ap ap ap ap;apply ai;simp[lU,a8 (n:=z-len),a8 (n:=z-len-q),c,a8 (n:=(z-len-q) / 1440+1),<-hn];apply ax;refine di (λm s=>∃(j:Int) (F:T) (J:an) (l:List Int),s=⟨F,[],J⟩/\(m:Int)=100100-j/\K<=j/\j<=100000/\F.g 0=.c (.yl b)/\F.g 1=G (.fp [fi z,fi I] 0)/\F.g 2=G (.fp [o,fi len,w] 0)/\F.g 3=G (.fp [sl g (aI [t]),fi q] 0)/\F.g 5=vi j/\
  PP l J/\l.Pairwise (· < ·)/\(∀d∈l,d<j)/\(l.length:Int)<=j/\∀d,d<j->(d∈l↔sF p K q I d)) (100100-K).toNat
  ⟨K,_,H,[],rfl,ap,ap,ap,bv,bv,bv,bv,bv,h0,bv,bv,ge,λd hd=>by simp[sF];omega⟩ ?_
 rintro m s ⟨j,F,J,l,rfl,hm,a_,b_,g0,X,Y,S,g5,L,N,v,c9,A⟩ ih;obtain⟨d,⟨d1,d2,d3,d4,d5⟩,f⟩:=RX g t p ht hp j ap ap;have O:d<=(2251799813685248-q-len) / 1440:=ii
 apply ax;apply ai;simp[S,g5,lU,f];apply aE;by_cases k:I<=d*1440+q
 .apply ai;simp[X,Y,S,lU,B,O,a8 (n:=d*1440),a8 (n:=d*1440+q),k];refine aq bv ?_;refine av (hQ _ _ _ rfl rfl ⟨rfl,l,L,N,λe=>?_⟩);by_cases u:e<j
  .exact A e u
  .refine⟨λh=>absurd (v e h) u,λ⟨e1,U,W,e4⟩=>?_⟩;have:=d5 e ap U W;omega
 .obtain⟨J',a,M⟩:=i l d J L ap ap ap;apply ai;simp[g0,X,Y,S,lU,B,O,a8 (n:=d*1440),a8 (n:=d*1440+q),k,a.eq];refine bG bv ?_;apply ba;simp[a8 (n:=d+1)];refine au (ih (100100-(d+1)).toNat _ ap ⟨d+1,_,J',l++[d],rfl,ap,ap,ap,by simp[g0],by simp[X],by simp[Y],by simp[S],bv,M,?_,λe u=>?_,ge,λe u=>?_⟩)
  .rw[ahT];exact⟨N,ahN _ _,λx hx y i=>by obtain rfl:=If.1 i;have:=v x hx;omega⟩
  .rcases agP.1 u with u|u
   .have:=v e u;omega
   .obtain rfl:=If.1 u;omega
  .rw[agP,If];by_cases hc:e<j
   .rw[A e hc];exact⟨λh=>h.elim id λh=>absurd h ap,.inl⟩
   .refine⟨λh=>?_,λ⟨e1,U,W,e4⟩=>.inr ?_⟩
    .rcases h with h|rfl
     .exact absurd (v e h) hc
     .exact⟨ap,d2,d3,ap⟩
    .have:=d5 e ap U W;omega
def uO:bV->Bool
 | .dz _ _ _ _ _=>ag| _=>ae
def Gb(H:an)(c:C)(o:List aA):Prop:=(o=[]/\c=.f .aN)\/(o≠[]/\∃b d,c=.sl b 0 o.length 0 d 3/\RB H b 3 d (ay o))
theorem Gb.push{H:an}{c:C}{o:List aA}(h:Gb H c o)(J:an):Gb (H++J) c o:=by
 rcases h with h|⟨h,b,d,h1,h2⟩
 .exact .inl h
 .exact .inr ⟨h,b,d,h1,h2.push J⟩
theorem Gb.set{H:an}{c:C}{o:List aA}(h:Gb H c o){i:Nat}{x:bV}(hi:H[i]?=aa x)(g:uO x=ae)(y:bV):Gb (H.set i y) c o:=by
 rcases h with h|⟨h,b,d,h1,h2⟩
 .exact .inl h
 .refine .inr ⟨h,b,d,h1,?_⟩;unfold RB at h2 ⊢;have:i≠b:=by rintro rfl;rw[h2]at hi;cases hi;cases g
  rw[sh this];exact h2
def yX(o:List aA)(x:aA):(ay (o++[x])).flatten=(ay o).flatten++x.row:=by simp[ay]
def Gb.app(h:Gb H e z)(hl:z.length<=1000000){b1 fl:Nat}{x:aA}(q:H[b1]?=aa (.box (x.row.map .f) fl)) :
  ∃s H',bZ H 3 24 (.c e) (.c (.sl b1 0 1 1 0 3))=aa (.c s,H')/\Gb H' s (z++[x])/\H.length<=H'.length/\∀(i:Nat) y,H[i]?=aa y->uO y=ae->H'[i]?=aa y:=by
 have g:dI H 3 (.c (.sl b1 0 1 1 0 3))=aa (1,x.row.map .f):=kh q (by rfl);rcases h with⟨rfl,rfl⟩|⟨v,b,l,rfl,h2⟩
 .have d:cF 1 24=ae:=by simp[cF]
  refine⟨.sl H.length 0 1 0 0 3,H++[.dz 3 (x.row.map .f) 0 0 .loc],?_,.inr ⟨bv,H.length,0,bv,?_⟩,bv,λi y hy _=>by rw[AI (aj hy)];exact hy⟩
  .simp[bZ,g,d]
  .unfold RB;simp[ay]
 .have d:cF (z.length+1) 24=ae:=md
  have j:z.length*3=(ay z).flatten.length:=by rw[cz (bI z),gK]
  unfold RB at h2;refine⟨.sl b 0 (z.length+1) 0 (l+1) 3,H.set b (.dz 3 ((ay z).flatten.map .f++x.row.map .f) 0 (l+1) .loc),?_,.inr ⟨bv,b,l+1,bv,?_⟩,bv,λi y hy u=>?_⟩
  .have m:(3:Nat)≠0:=pi
   simp only[bZ,g,m,if_false,h2,and_self,if_true];simp only[Nat.add_one_ne_zero,if_false];rw[ct ⟨trivial,by rw[agS];exact j,ap⟩,d];simp
  .unfold RB;rw[By (aj h2),yX,ahQ]
  .have:b≠i:=by rintro rfl;rw[h2]at hy;cases hy;cases u
   rw[sh this];exact hy
def Qb{n:Nat}{R:List aA}(h:RB H b 3 m (ay (z++R))):fv (n+1) H (.sl b 0 z.length 0 m 3)=aa (sl .fs (ay z)):=by
 unfold RB at h;have g:z.length*3=(ay z).flatten.length:=by rw[cz (bI z),gK]
 have e:(ay (z++R)).flatten=(ay z).flatten++(ay R).flatten:=by simp[ay]
 simp only[gR,h];rw[ct ⟨trivial,trivial,by rw[agS,e,agM];omega⟩,e,ahR,ahQ,List.take_append_of_le_length (by rw[agS];omega),agY (by rw[agS];omega)];rw[kr];cases z with
 |nil=>simp[sl,ay,Tg.fc]| cons x z=>simp[sl,ay]
def CO:∃r H',Ev tab (.fn Cx) [G .aN] H r H'/\(r=G .aN/\H'=H):=by
 refine dc rfl rfl λQ b=>?_;apply ai;simp;apply aU;simp[bA];refine aq bv ?_;apply ai;simp;exact av (b _ _ _ rfl (dx bv) ⟨rfl,rfl⟩)
def yO(p:0<=n)(q:n<=8)(g:1<=d)(j:d<=7)(m:A≠[])(b:vQ d A):LA (cu n d A):=
 ⟨rfl,p,by show n<=1000;omega,g,j,m,b.2.2,b.1,b.2.1⟩
def Xu(cs:List cM):Prop:=cs=[]\/∃f p l b,cs=[⟨.fs,[⟨.fs,[cu f p l]⟩],b⟩]/\0<=f/\f<=8/\1<=p/\p<=7/\l≠[]/\vQ p l/\0<=b/\b<=1245
def CA(len:Int)(x:aA):Prop:=x.to=x.fr+len/\0<=x.day/\x.day<=13/\0<=x.fr/\x.fr<=20000
def dh(s:aG):Prop:=Xu s.cs/\15<=s.len/\s.len<=220/\s.xs.length<=3/\s.xs.Pairwise aA.lt/\∀x∈s.xs,CA s.len x
def cL.two(h:cL a):dh a:=by
 obtain⟨h1,h2,h3,h4,h5,h6⟩:=h;refine⟨?_,h2,ap,h4,h5,λx q=>?_⟩
 .rcases h1 with e|⟨f,p,l,mi,e,a1,b,a3,a4,a5,d,u,g⟩
  .exact .inl e
  .exact .inr ⟨f,p,l,mi,e,a1,b,a3,a4,a5,d,ap,g⟩
 .obtain⟨b1,j,b3,b4,m⟩:=h6 x q;exact⟨b1,j,b3,ap,m⟩
def lL(h:dh a):a.Sm:=by
 obtain⟨b,_,_,v,_,_⟩:=h;refine⟨?_,ap,?_⟩
 .rcases b with e|⟨_,_,_,_,e,_⟩<;>rw[e]<;>simp
 .rcases b with e|⟨f,p,l,x,e,d,g,j,m,q,u,_⟩
  .rw[e];simp
  .rw[e];intro c b;simp at b;subst b;simp[cU.Sm];exact jL (qt (yO d g j m q u))
def kH(h:dh a):ij a=ae:=by
 obtain⟨H,B,F,Y,q,hi⟩:=h;have j:fk ab a.cs=ae:=by
  rcases H with e|⟨f,p,l,U,e,I,B,F,J,K,L,W,X⟩
  .rw[e];rfl
  .have M:=qt (yO I B F J K L);rw[e];simp[fk,iH,iZ,M,bR];omega
 have z:∀(xs:List aA) (b:Option aA),xs.Pairwise aA.lt->(∀x∈xs,CA a.len x)->(∀m,b=aa m->∀x∈xs,m.lt x)->km b xs=ae:=by
  intro xs;induction xs with
  |nil=>intros;rfl
  |cons x xs S=>
   intro b q hi u;have g:=ahH.1 q;obtain⟨i1,i2,i3,i4,i5⟩:=hi x agR;have N:qw x=ae:=by
    simp[qw,bR];omega
   have Q:(b.all λm=>decide (fV m x<0))=ae:=by
    cases b with
    |none=>rfl
    |some m=>
     have:=(ou _ _).2 (u m rfl x agR);simp[this]
   simp only[km,N,Q,ahJ];exact S (aa x) g.2 (λy A=>hi y (agU _ A)) λm O y A=>by cases O;exact g.1 y A
 have v:=z a.xs ab q hi bv;have d:(a.cs.length:Int)<=64:=by
  rcases H with e|⟨f,p,l,U,e,_⟩<;>rw[e]<;>simp
 unfold ij;rw[j,v];simp[bR,d];omega
def tT(s:aG)(y:aA):Prop:=(∃c∈s.cs,∃d,sH c.ts 0 d/\y=bU s.len c.min d)\/y∈s.xs
def Qu{hi:Int}(U:0<=n)(W:n<hi)(X:hi<=1440)(cl:Option Nat)(hc:∀c,cl=aa c->c<20)(p:aR)(hp:jT 12 p)(g:Tg)(m:Nat)(hm:m<=1430)(le:Int)(l0:1<=le)(l1:le<=10080) :
  ∃B F D z,im 27720 1 64 B/\(∀d,0<=d->(cS B d↔bE p d=ae/\ey n hi cl (d*1440+m) (d*1440+m+le)=ag))/\
   bf tab nX [.a ((mT n hi (vU cl)).map .f),vi m,vi le]=Eq (.t [.a [.f (sl z (aY D))],vi 0])/\
   bf tab DR [.a [.f (sl g (aY [[p]]))],.a [.f (sl z (aY D))]]=Eq (.t [.a [.f (sl F (aY B))],vi 0]):=by
 obtain⟨D,z,hD,I,s⟩:=R4 n hi U W X cl hc;have hP:im 12 1 64 [[p]]:=⟨bv,λu N=>by
  simp only[If]at N;subst N;exact⟨bv,bv,λq M=>by simp only[If]at M;subst M;exact hp⟩⟩
 have J:∀d,cS [[p]] d↔bE p d=ae:=λd=>by simp[cS,ew]
 obtain⟨b,j,l,v,K⟩:∃b j,im 27720 2 1 b/\(∀d,0<=d->(cS b d↔ey n hi cl (d*1440+m) (d*1440+m+le)=ae))/\bf tab nX [.a ((mT n hi (vU cl)).map .f),vi m,vi le]=Eq (.t [.a [.f (sl j (aY b))],vi 0]):=by
  have h:=s m hm le l0 l1;have L:∀d:Int,ey n hi cl (d*1440+m) (d*1440+m+le)=ae↔(∀c:Nat,cl=aa c->d≠c)/\n<=m/\(m:Int)+le<=hi:=λd=>by
   have O:(d*1440+(m:Int)) / 1440=d:=ii
   have Q:(d*1440+(m:Int)) % 1440=m:=ii
   have S:d*1440+(m:Int)+le-(d*1440+m)=le:=ii
   cases cl<;>simp[ey,nu,O,Q,S]
  by_cases A:n<=(m:Int)/\(m:Int)+le<=hi
  .rw[dF,ct A]at h;exact⟨D,z,hD,λd x=>by rw[I d x,L d];exact⟨λh=>⟨h,A⟩,λh=>h.1⟩,h⟩
  .rw[dF,cC A]at h;exact⟨[],.nil,⟨bv,bv⟩,λd x=>by rw[L d];exact⟨λh=>by simp[cS]at h,λh=>absurd h.2 A⟩,h⟩
 obtain⟨r,hr,y⟩:=zk (m:=1) ce ce g j [[p]] b hP (ku l (ahY _) ce ce);have a_:lp b<=2:=by
  have:=l.1
  match b,l with
  |[],_=>decide| [u],h=>have:=(h.2 u bv).2.1;simpa[lp]using this
  |_::_::_,h=>have:=h.1;simp at this
 rcases hr with⟨B,F,Y,-,H,rfl⟩|⟨-,h⟩
 .refine⟨B,F,b,j,Y,λd x=>?_,K,y⟩;rw[H d x];show cS [[p]] d/\¬ cS b d↔_;rw[J d,v d x,Bool.not_eq_true]
 .simp at h;omega
def RW(g:Tg)(H:im 27720 1 64 F):∃d f,(f=ag->∀k,0<=k->¬ cS F k)/\(f=ae->0<=d/\cS F d/\∀k,0<=k->cS F k->d<=k)/\(0<=d/\d<=1000001000000)/\bf tab PU [.a [.f (sl g (aY F))],vi 0]=Eq (.t [vi d,vb f]):=by
 have A:=zg (ku H (ahY _) (show 1<=4 by decide) (agQ 64));have L:∀t∈F.map (λs=>(⟨.fs,s⟩:cU)),pF t.fs:=λt B=>by
  obtain⟨u,l,rfl⟩:=agX.1 B;obtain⟨v,j,m⟩:=H.2 u l
  match u,v,j,m with
  |[q],_,_,m=>
   have K:=m q bv;have:=K.le;have:=K.fr;exact⟨bv,bv,λp M=>(m p M).mod,by simp[gS];omega,by simp[dG];omega⟩
  |_::_::_,_,j,_=>simp at j
 obtain⟨d,f,I,y,J⟩:=UR g _ A L 0 ce ce;rw[VF]at J;have e:∀k,0<=k->(sH (F.map λs=>⟨.fs,s⟩) 0 k↔cS F k):=λk b=>by
  unfold sH GW cS;constructor
  .rintro⟨t,B,-,hi⟩;obtain⟨u,l,rfl⟩:=agX.1 B;exact⟨u,l,(je b).1 hi⟩
  .rintro⟨u,l,hi⟩;exact⟨⟨.fs,u⟩,agX.2 ⟨u,l,rfl⟩,b,(je b).2 hi⟩
 refine⟨d,f,λz k b x=>?_,λz=>?_,y,J⟩
 .rcases I with⟨-,-,h⟩|⟨h,-⟩
  .exact h k ((e k b).2 x)
  .rw[z]at h;cases h
 .rcases I with⟨h,-⟩|⟨-,v,j⟩
  .rw[z]at h;cases h
  .exact⟨y.1,(e d y.1).1 v,λk b x=>j k ((e k b).2 x)⟩
def Ho{lo hi:Int}(cl:Option Nat)(s:aG)(hx:s.xs.length<=3)(c_:∀x∈s.xs,0<=x.fr/\x.fr<=20000/\x.fr<x.to/\x.to<=x.fr+10080)(CL:Prop){Q:Option aD->St->Prop}
  (hQ:∀j st r,(∃(b:Bool) (x:aA),r=.t [vb b,.a (x.row.map .f),vi 0]/\(b=ae↔CL/\∀y∈s.xs,ey lo hi cl y.fr y.to=ae)/\(b=ag->tT s x/\ey lo hi cl x.fr x.to=ag/\x.fr<=2000000))->Km.pY [.tmp (P.nat 4),.cell (P.nat 5) (aa 3),.tmp (P.nat 6)] r st->Q j st)
  (t:T) (J:an) (d:Bool) (f:aA) (S:t.g 2=.c (.ptr 0 0 0)) (g3:t.g 3=.c (.ptr 1 0 0)) (I:t.g 5=.c (.ptr 2 0 0)) (U:t.g 9=.c (.ptr 4 0 0)) (q:t.g 10=.c (.cl AY [.ptr 4 0 0,.ptr 3 0 0])) (Y:t.g 7=vb d)
  (O:J[0]?=E ((mT lo hi (vU cl)).map .f)) (j1:J[1]?=E (s.row.map .f)) (F:J[2]?=E [Z 0,Z 0,Z 0]) (j3:J[3]?=E [.f (.bool (!d))]) (W:J[4]?=E (f.row.map .f))
  (u:d=ae↔CL) (l:d=ag->tT s f/\ey lo hi cl f.fr f.to=ag/\f.fr<=2000000) :
  WP tab DW ab [.code DQ] ⟨t,[],J⟩ Q:=by
 have d_:∀K:an,K[1]?=E (s.row.map .f)->aV K ab (.c (.ptr 1 2 0))=aa (G (sl s.xg (ay s.xs))):=λK h=>by simp[aV,az,h,aG.row]
 have d9:∀K:an,K[0]?=E ((mT lo hi (vU cl)).map .f)->aV K (aa 10) (.c (.ptr 0 0 0))=aa (.a ((mT lo hi (vU cl)).map .f)):=λK h=>by simp[aV,az,h,mT,aX]
 have a_:∀K:an,bA K (.f (sl s.xg (ay s.xs)))=aa s.xs.length:=λK=>by simp[ay]
 apply aU;simp[g3,d_ _ j1,a_,-aw];refine bW s.xs.length (λj t K=>t.g 2=.c (.ptr 0 0 0)/\t.g 5=.c (.ptr 2 0 0)/\t.g 9=.c (.ptr 4 0 0)/\t.g 10=.c (.cl AY [.ptr 4 0 0,.ptr 3 0 0])/\t.g 103=G (sl s.xg (ay s.xs))/\K[0]?=E ((mT lo hi (vU cl)).map .f)/\K[2]?=E [Z 0,Z 0,Z 0]/\
   ∃(d:Bool) (f:aA),t.g 7=vb d/\K[3]?=E [.f (.bool (!d))]/\K[4]?=E (f.row.map .f)/\(d=ae↔CL/\∀y∈s.xs.take j,ey lo hi cl y.fr y.to=ae)/\(d=ag->tT s f/\ey lo hi cl f.fr f.to=ag/\f.fr<=2000000)) ap ce ce bv bv
  ⟨by simp[S],by simp[I],by simp[U],by simp[q],bv,O,F,d,f,by simp[Y],j3,W,by simpa using u,l⟩ ?_ ?_
 .rintro j t K hj ⟨S,I,U,q,m,O,F,d,f,Y,j3,W,u,l⟩ ha hb next
  have ix:=λH:an=>bu (H:=H) (g:=s.xg) (rows:=ay s.xs) (sz:=3) (k:=.i64) (i:=(j:Int)) ap (by simp[ay];omega);have ld:=λH:an=>cf (H:=H) (rows:=ay s.xs) (sz:=3) (cZ.map λ_=>rfl) (j:=j) (row:=s.xs[j].row) (by simp[ay,hj]);simp only[ag7]at ix;have N:=c_ _ (IN hj);have B:s.xs[j]∈s.xs:=IN hj;have M:s.xs.take (j+1)=s.xs.take j++[s.xs[j]]:=by rw[agV,BY hj];rfl
  obtain⟨x,c9⟩:=aH (s.xs[j]);rw[<-c9]at ld N B M;have b_:=yx (lo:=lo) (hi:=hi) cl x.fr x.to N.1 ap N.2.2.1 ap;obtain⟨X,L⟩:=aH (K++[bV.box [Z x.day,Z x.fr,Z x.to] 0]:an);have z:Kp K X:=by rw[L];exact Kp.push _ _
  have qx:X[K.length]?=E [Z x.day,Z x.fr,Z x.to]:=by rw[L];simp
  have e_:aV X (aa 2) (.c (.ptr K.length 1 0))=aa (.a [Z x.fr,Z x.to]):=by simp[aV,az,qx,aX]
  have f_:aV X (aa 3) (.c (.ptr K.length 0 0))=aa (.a [Z x.day,Z x.fr,Z x.to]):=by simp[aV,az,qx,aX]
  apply ax;apply ai;simp[m,ha,ix,ld,aA.row,-aw];rw[<-L];apply ai;simp[S,d9 _ (z.get O),e_,b_,-aw];cases hA:ey lo hi cl x.fr x.to with
  |true=>
   refine aC bv (aQ (au (next _ _ ?_ (by simp[ha]) (by simp[hb]))));refine⟨by simp[S],by simp[I],by simp[U],by simp[q],by simp[m],z.get O,z.get F,d,f,by simp[Y],z.get j3,z.get W,?_,l⟩;rw[u,M];simp[hA,or_imp,forall_and]
  |false=>
   obtain⟨r,K2,A,rfl,g_,v,y4,y3⟩:=zz (H:=X) (a:=4) (b:=3) ce x f (!d) (z.get W) (z.get j3);simp only[aA.row,IT,agN]at A;have A:=A.eq;have z0:K2[0]?=E ((mT lo hi (vU cl)).map .f):=by rw[v 0 (aj (z.get O)) ce ce];exact z.get O
   have z2:K2[2]?=E [Z 0,Z 0,Z 0]:=by rw[v 2 (aj (z.get F)) ce ce];exact z.get F
   refine aq bv ?_;apply ai;simp;apply ba;simp[q,f_,A,cr,-aw];refine au (next _ _ ?_ (by simp[ha]) (by simp[hb]));refine⟨by simp[S],by simp[I],by simp[U],by simp[q],by simp[m],z0,z2,ag,_,bv,y3,y4,?_,λ_=>?_⟩
   .rw[M];simp[hA]
   .split
    .exact⟨.inr B,hA,ap⟩
    .rename_i hn;cases d with
     |true=>exact absurd (.inl rfl) hn| false=>exact l rfl
 .rintro t K ⟨S,I,U,q,m,O,F,d,f,Y,j3,W,u,l⟩ - -;rw[agW]at u;have l9:aV K (aa 3) (.c (.ptr 4 0 0))=aa (.a [Z f.day,Z f.fr,Z f.to]):=by simp[aV,az,W,aX,aA.row]
  have s5:dj K (.ptr 2 0 0) [Z f.day,Z f.fr,Z f.to]=aa (K.set 2 (.box [Z f.day,Z f.fr,Z f.to] 0)):=by simp[dj,F,over]
  have k5:(K.set 2 (.box [Z f.day,Z f.fr,Z f.to] 0))[2]?=E [Z f.day,Z f.fr,Z f.to]:=By (aj F);apply ai;simp[I,Y,U,l9,s5,-aw,-bF];refine av (hQ _ _ _ ⟨d,f,rfl,u,l⟩ ⟨rfl,.t [vb d,.a (f.row.map .f),vi 0],?_,by simp[jd,dq,bC,aA.row]⟩);simp[Km.results,cB,bC,I,k5,aX,aA.row]
def HO{K:V->St->Prop}(g:B≠b)(x f:aA)(t:Bool)(u:H[B]?=E (f.row.map .f))(y:H[b]?=E [.f (.bool t)])
  (h:∀d:an,(∀i:Nat,i<H.length->i≠B->i≠b->d[i]?=H[i]?)->d[B]?=E ((if t=ag\/fV x f<0 then x else f).row.map .f)->d[b]?=E [.f (.bool ae)]->K (.t []) ⟨v,I,d⟩) :
  KE (Ev tab (.fn AY) [.a (x.row.map .f),.c (.ptr B 0 0),.c (.ptr b 0 0)] H) v I K:=by
 obtain⟨r,d,j,rfl,-,m,q,s⟩:=zz g x f t u y;exact⟨_,_,j,h d m q s⟩
theorem Dl(m:0<=n)(q:n<=8)(s:1<=d)(u:d<=7)(b:vQ d A):jT 12 (cu n d A):=by
 have p:∀(A:List Int) (last:Int),A.Pairwise (· < ·)->(∀c∈A,last<c/\c<d)->cK d last A=ae:=λA last j h=>rC h j;refine⟨?_,?_,?_,by show d<=12;omega⟩
 .have p:=p A (-1) b.1 λc g=>⟨by have:=(b.2.1 c g).1;omega,(b.2.1 c g).2⟩
  have:=b.2.2;simp only[cO,cu,p,cK]
  grind
 .show n<=100000;omega
 .show d ∣ 27720;have:d=1\/d=2\/d=3\/d=4\/d=5\/d=6\/d=7:=ii
  rcases this with rfl|rfl|rfl|rfl|rfl|rfl|rfl<;>decide
structure Rest(lo hi:Int)(cl:Option Nat)(s:aG)(CL:Prop)(t:T)(J:an)(hold:Bool)(f:aA):Prop where
 g2:t.g 2=.c (.ptr 0 0 0)
 g3:t.g 3=.c (.ptr 1 0 0)
 g5:t.g 5=.c (.ptr 2 0 0)
 g9:t.g 9=.c (.ptr 4 0 0)
 g10:t.g 10=.c (.cl AY [.ptr 4 0 0,.ptr 3 0 0])
 g7:t.g 7=vb hold
 j0:J[0]?=E ((mT lo hi (vU cl)).map .f)
 j1:J[1]?=E (s.row.map .f)
 j2:J[2]?=E [Z 0,Z 0,Z 0]
 j3:J[3]?=E [.f (.bool (!hold))]
 j4:J[4]?=E (f.row.map .f)
 clx:hold=ae↔CL
 bad:hold=ag->tT s f/\ey lo hi cl f.fr f.to=ag/\f.fr<=2000000
def acu(lo hi:Int)(cl:Option Nat)(s:aG)(d:Prop)(t:T)(J:an):Prop:=∃b f,Rest lo hi cl s d t J b f
theorem Rk{hi:Int}(h0:0<=n)(O:n<hi)(S:hi<=1440)(cl:Option Nat)(hc:∀c,cl=aa c->c<20)(s:aG)(hs:dh s) :
  ∃(b:Bool) (x:aA),(b=ae↔∀y,tT s y->ey n hi cl y.fr y.to=ae)/\(b=ag->tT s x/\ey n hi cl x.fr x.to=ag/\x.fr<=2000000)/\
   bf tab DW [.a ((mT n hi (vU cl)).map .f),.a (s.row.map .f)]=Eq (.t [vb b,.a (x.row.map .f),vi 0]):=by
 obtain⟨CL,I⟩:=aH (∀c∈s.cs,∀d,sH c.ts 0 d->ey n hi cl (d*1440+c.min) (d*1440+c.min+s.len)=ae:Prop);have key:∃r,(∃(b:Bool) (x:aA),r=.t [vb b,.a (x.row.map .f),vi 0]/\(b=ae↔CL/\∀y∈s.xs,ey n hi cl y.fr y.to=ae)/\(b=ag->tT s x/\ey n hi cl x.fr x.to=ag/\x.fr<=2000000))/\bf tab DW [.a ((mT n hi (vU cl)).map .f),.a (s.row.map .f)] r:=by
  have H:=Dh n hi h0 O S cl hc;have q:=rJ s (lL hs);rw[kH hs]at q;obtain⟨a_,l0,l1,xl,-,c9⟩:=hs;refine dE rfl rfl λQ hQ=>?_;have F:∀(t:T) (J:an),acu n hi cl s CL t J->WP tab DW ab [.code DQ] ⟨t,[],J⟩ Q:=by
   rintro t J ⟨b_,f,u⟩;exact Ho cl s xl (λx hx=>by obtain⟨e,-,-,a,b⟩:=c9 x hx;omega) CL (λj st r O S=>hQ j st r O S) t J b_ f u.g2 u.g3 u.g5 u.g9 u.g10 u.g7 u.j0 u.j1 u.j2 u.j3 u.j4 u.clx u.bad
  obtain⟨cg,cs,len,xg,xs⟩:=s;simp only at a_ l0 l1 xl c9 I;simp only[mT,pO,aG.row,IT,agN]at H q;rcases a_ with rfl|⟨f,p,l,mi,rfl,f0,f1,p0,p1,-,hl,m0,m1⟩
  .simp only[aK,agN]at q
   repeat' first
    |(refine F _ _ ?_)
    |(apply aE)
    |(apply ax)
    |(refine eL ?_)
    |(apply fe)
    |(apply au)
    |(apply aQ)
    |(refine bQ rfl ?_)
    |(refine aq ?_ ?_;focus (simp;done))
    |(refine aC ?_ ?_;focus (simp;done))
    |(apply ba;simp[mT,pO,aG.row,aK,H,q,tX])
   exact⟨ae,⟨0,0,0⟩,⟨bv,bv,bv,bv,bv,bv,rfl,rfl,rfl,rfl,rfl,by simp[I],bv⟩⟩
  .obtain⟨m,rfl⟩:∃m:Nat,mi=m:=⟨mi.toNat,ap⟩
   obtain⟨B,gB,D,gD,hB,d_,v,M⟩:=Qu h0 O S cl hc (cu f p l) (Dl f0 f1 p0 p1 hl) .fs m ap len ap ap;obtain⟨eb,f_,L⟩:=BH gB (ku hB (ahY _) (show 1<=4 by decide) (agQ 64));obtain⟨d,fn,i8,g_,hd,A⟩:=RW gB hB;have Y:∀d,sH [⟨.fs,[cu f p l]⟩] 0 d↔0<=d/\bE (cu f p l) d=ae:=λd=>by
    simp[sH,GW,wS,hasB]
   have W:CL↔∀d,0<=d->¬ cS B d:=by
    rw[I];simp only[If,forall_eq,Y]
    grind
   have K:∀(g:Tg) (r:List FC) (rs:List (List FC)),sl g (r::rs)=.fs (r++rs.flatten) (rs.length+1):=λg r rs=>by simp[sl]
   have U:sl .fs (aI [⟨.fs,[cu f p l]⟩])=sl .fs (aY [[cu f p l]]):=rfl;simp only[aK,IT,agN,cM.row,U,K cg]at q;simp only[mT,pO,IT,agN]at v;simp at q;obtain⟨X,hX⟩:=aH (sl .fs (aY [[cu f p l]]));rw[<-hX]at q M U;have v1:ah .i64 1=1:=pi
   have w1:IntKind.wrap .i64 (2251799813685248-(m:Int))=2251799813685248-m:=a8;have w2:IntKind.wrap .i64 (2251799813685248-(m:Int)-len)=2251799813685248-m-len:=a8;have w3:IntKind.wrap .i64 (d*1440)=d*1440:=a8;have w4:IntKind.wrap .i64 (d*1440+m)=d*1440+m:=a8;have w5:IntKind.wrap .i64 (d*1440+m+len)=d*1440+m+len:=a8;have q1:de .quo (vi (2251799813685248-(m:Int)-len)) (vi 1440)=aa (vi ((2251799813685248-(m:Int)-len) / 1440)):=eI ap ce ap;have q2:d<=(2251799813685248-(m:Int)-len) / 1440:=ii
   have d9:fn = !eb:=by
    grind
   subst d9;cases z:eb
   all_goals simp only[z]at L A
   all_goals repeat' first
    |(refine F _ _ ?_)
    |(apply aE)
    |(apply ax)
    |(refine eL ?_)
    |(apply fe)
    |(apply au)
    |(apply aQ)
    |(refine bQ rfl ?_)
    |(refine aq ?_ ?_;focus (simp;done))
    |(refine aC ?_ ?_;focus (simp;done))
    |(refine HO ce (bU len m d) ⟨0,0,0⟩ ag rfl rfl ?_;intro K2 k2 k4 k3)
    |(apply ba;simp[mT,pO,aG.row,aK,cM.row,U,K cg,H,q,tX,bA,bO,fE,gm,qA,v1,v,M,L,A,w1,w2,w3,w4,w5,q1,q2,cr])
    |(simp[v1])
   .have hb:=g_ (by simp[z]);obtain⟨b1,b2⟩:=(d_ d hd.1).1 hb.2.1;have c_:d<=1000:=by
     refine Int.not_lt.1 λi6=>?_;obtain⟨k,hk⟩:=aH ((d-20) / 420);have k1:20<=d-420*k/\d-420*k<440:=ii
     have N:p ∣ 420:=by
      obtain rfl|rfl|rfl|rfl|rfl|rfl|rfl:p=1\/p=2\/p=3\/p=4\/p=5\/p=6\/p=7:=by omega
      all_goals decide
     have i7:bE (cu f p l) (d-420*k)=ae:=by
      rw[qE (p:=cu f p l) p0 (d:=d) (d':=d-420*k) (by show f<=d;omega) (by show f<=d-420*k;omega) (by
       show p ∣ d-420*k-d;have e:d-420*k-d=420*(-k):=ii
       rw[e];exact Int.dvd_trans N (Int.dvd_mul_right _ _))]
      omega
     have h_:ey n hi cl ((d-420*k)*1440+m) ((d-420*k)*1440+m+len)=ag:=by
      have e1:∀e:Int,(e*1440+(m:Int)) / 1440=e:=λe=>by omega
      have e2:∀e:Int,(e*1440+(m:Int)) % 1440=m:=λe=>by omega
      have e3:∀e:Int,e*1440+(m:Int)+len-(e*1440+m)=len:=λe=>by omega
      have ec:∀e:Int,20<=e->nu cl e=ag:=λe he=>by
       cases e_:cl with
       |none=>rfl
       |some c=>
        have:=hc c e_;simp[nu];omega
      unfold ey at b2 ⊢
      grind
     grind
    exact⟨ag,bU len m d,⟨bv,bv,bv,bv,bv,bv,(k2 0 bv ce ce).trans rfl,(k2 1 bv ce ce).trans (by simp[aG.row,aK,cM.row,K cg,U]),(k2 2 bv ce ce).trans rfl,k3,by simpa using k4,by
     rw[W];exact⟨λh=>(by cases h),λh=>absurd hb.2.1 (h d hd.1)⟩,λ_=>⟨.inl ⟨_,If.2 rfl,d,(Y d).2 ⟨hd.1,b1⟩,rfl⟩,b2,by show d*1440+(m:Int)<=2000000;omega⟩⟩⟩
   .exact⟨ae,⟨0,0,0⟩,⟨bv,bv,bv,bv,bv,bv,rfl,by simp[aG.row,aK,cM.row,K cg,U],rfl,rfl,rfl,by
     rw[W];exact⟨λ_=>f_.1 z,λ_=>rfl⟩,bv⟩⟩
 obtain⟨r,⟨b,x,rfl,O,S⟩,hp⟩:=key;refine⟨b,x,O.trans ?_,S,hp.eq⟩;rw[I];constructor
 .rintro⟨ha,hb⟩ y (⟨c,hc,d,hd,rfl⟩|hy)
  .exact ha c hc d hd
  .grind
 .grind
structure Pr where
 c:cM
 d:cM
 k:Int
 gx:Tg
 xs:List cU
 gy:Tg
 ys:List cU
variable{t:Pr}
def Pr.row(p:Pr):List C:=[.f (sl p.c.mg (aI p.c.ts)),Z p.c.min,.f (sl p.d.mg (aI p.d.ts)),Z p.d.min,Z p.k,.f (sl p.gx (aI p.xs)),.f (sl p.gy (aI p.ys)),Z (max 0 (-p.k))]
def Bz(la b:Int)(c d:cM):Int:=(c.min-d.min-b) / 1440+1
def Ak(la b:Int)(c d:cM):Int:=(c.min-d.min+la-1) / 1440
structure sI(a b:aG)(p:Pr):Prop where
 ca:p.c∈a.cs
 db:p.d∈b.cs
 lo:Bz a.len b.len p.c p.d<=p.k
 hi:p.k<=Ak a.len b.len p.c p.d
 xo:vI 12 p.xs
 yo:vI 12 p.ys
 xm:∀e,0<=e->(eZ p.xs e↔eZ p.c.ts (e+max 0 (-p.k)))
 ym:∀e,0<=e->(eZ p.ys e↔eZ p.d.ts (e+max 0 p.k))
structure lP(s:aG):Prop where
 ok:yp s
 few:∀c∈s.cs,vI 12 c.ts
 ex:∀x∈s.xs,-1000000<=x.fr/\x.to<=1000000/\x.fr<x.to
theorem lP.cn{s:aG}(h:lP s):s.cs.length<=3:=h.ok.cn
def Jo(h:F.length<=2/\∀u∈F,wK 12 2 u):vI 12 (F.map λs=>⟨.fs,s⟩):=⟨by rw[agS];exact h.1,λt b=>by
 obtain⟨u,d,rfl⟩:=agX.1 b;exact h.2 u d⟩
def Bc(a b:aG):bf tab abW [.a (a.row.map .f),.a (b.row.map .f)]=Eq (G (.fn ni [.fp a.row 0,.fp b.row 0])):=by
 refine bf.eq (bD rfl rfl λQ d=>?_);apply ai;simp[aG.row];apply ai;simp;refine av (d _ _ ?_);simp[deep,aG.row]
def sO{bb:Nat}(a b:aG)(ha:lP a)(hb:lP b)(PP:List Pr->an->Prop)(RR:Pr->an->Prop)(h0:PP [] H)
  (hk:∀ps J J',PP ps J->(∀i:Nat,i<H.length->J'[i]?=J[i]?)->J.length<=J'.length->PP ps J')
  (hy:∀ps p J,PP ps J->H.length<=J.length->sI a b p->∃(r:Bool) (J':an),Ev tab (.yield bb) [.a p.row] J (vb r) J'/\(if r then PP (ps++[p]) J'/\J.length<=J'.length/\∀i:Nat,H.length<=i->i<J.length->J'[i]?=J[i]? else RR p J')) :
  ∃H2,Ev tab (.fn ni) [.c (.yl bb),G (.fp a.row 0),G (.fp b.row 0)] H (.t []) H2/\((∃ps,PP ps H2/\(∀p∈ps,sI a b p)/\∀c∈a.cs,∀d∈b.cs,∀k,Bz a.len b.len c d<=k->k<=Ak a.len b.len c d->∃p∈ps,p.c=c/\p.d=d/\p.k=k)\/∃p,sI a b p/\RR p H2):=by
 obtain⟨la0,la1⟩:=ha.ok.len;obtain⟨lb0,lb1⟩:=hb.ok.len;have cna:=ha.cn;have cnb:=hb.cn;have rR:∀H:an,bA H (.f (sl a.cg (aK a.cs)))=aa a.cs.length:=λH=>by simp
 have t8:∀H:an,bA H (.f (sl b.cg (aK b.cs)))=aa b.cs.length:=λH=>by simp
 have s7:∀(J:an),aV J ab (G (.fp a.row 0))=aa (G (sl a.cg (aK a.cs)))/\aV J ab (G (.fp a.row 1))=aa (vi a.len):=λJ=>⟨rfl,rfl⟩
 have s_:∀(J:an),aV J ab (G (.fp b.row 0))=aa (G (sl b.cg (aK b.cs)))/\aV J ab (G (.fp b.row 1))=aa (vi b.len):=λJ=>⟨rfl,rfl⟩
 obtain⟨r,H2,he,rfl,hP⟩:∃r H2,Ev tab (.fn ni) [.c (.yl bb),G (.fp a.row 0),G (.fp b.row 0)] H r H2/\(r=.t []/\((∃ps,PP ps H2/\(∀p∈ps,sI a b p)/\∀c∈a.cs,∀d∈b.cs,∀k,Bz a.len b.len c d<=k->k<=Ak a.len b.len c d->∃p∈ps,p.c=c/\p.d=d/\p.k=k)\/∃p,sI a b p/\RR p H2)):=by
  refine dc rfl rfl λQ hQ=>?_;apply ai;simp[s7,rR];refine bW a.cs.length (λi t J=>t.g 0=.c (.yl bb)/\t.g 1=G (.fp a.row 0)/\t.g 2=G (.fp b.row 0)/\t.g 13=G (sl a.cg (aK a.cs))/\H.length<=J.length/\∃ps,PP ps J/\(∀p∈ps,sI a b p)/\∀(B:Nat) (hi:B<a.cs.length),B<i->∀d∈b.cs,∀k,Bz a.len b.len a.cs[B] d<=k->k<=Ak a.len b.len a.cs[B] d->∃p∈ps,p.c=a.cs[B]/\p.d=d/\p.k=k) ap ce ce bv bv
   ⟨bv,bv,bv,bv,agQ _,[],h0,bv,λB _ h=>by omega⟩ ?_ ?_
  .rintro i t J hi ⟨g0,g1,Y,v,u9,ps,hP,A,l⟩ hc w_ next
   have r7:=λH:an=>bu (H:=H) (g:=a.cg) (rows:=aK a.cs) (sz:=2) (k:=.i64) (i:=(i:Int)) ap ge;have k_:=λH:an=>cf (H:=H) (dN a.cs) (fJ hi);simp only[ag7]at r7;have x6:=ha.ok.min (IN hi);have f_:=ha.few _ (IN hi);have N:=IN hi;obtain⟨c,n9⟩:=aH (a.cs[i]);rw[<-n9]at k_ x6 f_ N;simp only[cM.row,IT,agN]at k_;apply ax;apply ai;simp[hc,v,r7,k_,-aw];obtain⟨U,i_⟩:=aH (J.length);obtain⟨J1,y⟩:=aH (J++[bV.box [.f (sl c.mg (aI c.ts)),Z c.min] 0]);have c5:J1[U]?=E [.f (sl c.mg (aI c.ts)),Z c.min]:=by rw[y,i_];simp
   have c_:PP ps J1:=hk ps J J1 hP (λi hi=>by rw[y,AI ap]) (by rw[y,agM];omega);have r_:J1.length=U+1:=by rw[y,agM,i_];rfl
   rw[<-y,<-i_];apply ai;simp[Y,s_,t8];refine bW b.cs.length (λj t' J=>t'.g 0=.c (.yl bb)/\t'.g 1=G (.fp a.row 0)/\t'.g 2=G (.fp b.row 0)/\t'.g 13=G (sl a.cg (aK a.cs))/\t'.g 14=t.g 14/\t'.g 15=t.g 15/\t'.g 5=.c (.ptr U 0 0)/\t'.g 20=G (sl b.cg (aK b.cs))/\U<J.length/\J[U]?=E [.f (sl c.mg (aI c.ts)),Z c.min]/\∃ps,PP ps J/\(∀p∈ps,sI a b p)/\(∀(B:Nat) (hi:B<a.cs.length),B<i->∀d∈b.cs,∀k,Bz a.len b.len a.cs[B] d<=k->k<=Ak a.len b.len a.cs[B] d->∃p∈ps,p.c=a.cs[B]/\p.d=d/\p.k=k)/\
     ∀(S:Nat) (hj:S<b.cs.length),S<j->∀k,Bz a.len b.len c b.cs[S]<=k->k<=Ak a.len b.len c b.cs[S]->∃p∈ps,p.c=c/\p.d=b.cs[S]/\p.k=k) ap ce ce bv bv
    ⟨by simp[g0],by simp[g1],by simp[Y],by simp[v],bv,bv,bv,bv,ap,c5,ps,c_,A,l,λS _ h=>by omega⟩ ?_ ?_
   .clear hP A l c_ c5 r_ y;rintro j t' J hj ⟨g0,g1,Y,v,I,K,g5,L,q_,c5,ps,hP,A,l,q⟩ n8 m_ m9;have r9:=λH:an=>bu (H:=H) (g:=b.cg) (rows:=aK b.cs) (sz:=2) (k:=.i64) (i:=(j:Int)) ap ge;have l_:=λH:an=>cf (H:=H) (dN b.cs) (fJ hj);simp only[ag7]at r9;have x9:=hb.ok.min (IN hj);have g_:=hb.few _ (IN hj);have O:=IN hj;obtain⟨d,n_⟩:=aH (b.cs[j]);rw[<-n_]at l_ x9 g_ O;simp only[cM.row,IT,agN]at l_;obtain⟨X,j5⟩:=aH (J.length);obtain⟨J1,y⟩:=aH (J++[bV.box [.f (sl d.mg (aI d.ts)),Z d.min] 0]);have c7:J1[X]?=E [.f (sl d.mg (aI d.ts)),Z d.min]:=by rw[y,j5];simp
    have i7:J1[U]?=E [.f (sl c.mg (aI c.ts)),Z c.min]:=by rw[y,AI q_];exact c5
    have c_:PP ps J1:=hk ps J J1 hP (λi hi=>by rw[y,AI ap]) (by rw[y,agM];omega);have r_:J1.length=X+1:=by rw[y,agM,j5];rfl
    obtain⟨lo,y8⟩:=aH (Bz a.len b.len c d);obtain⟨u,y6⟩:=aH (Ak a.len b.len c d);have r6:(c.min-d.min-b.len) / 1440+1=lo:=y8.symm;have o_:(c.min-d.min+a.len-1) / 1440=u:=y6.symm;have f1:=qv (c.min-d.min-b.len) ap ap;have f2:=qv (c.min-d.min+a.len-1) ap ap;rw[o_]at f2;have lob:-20<=lo/\lo<=20:=ii
    have hib:-20<=u/\u<=20:=ii
    have m5:∀J:an,J[U]?=E [.f (sl c.mg (aI c.ts)),Z c.min]->aV J ab (.c (.ptr U 1 0))=aa (vi c.min)/\aV J (aa 2) (.c (.ptr U 0 0))=aa (.a [.f (sl c.mg (aI c.ts)),Z c.min])/\aV J (aa 1) (.c (.ptr U 0 0))=aa (.a [.f (sl c.mg (aI c.ts))]):=λJ h=>by refine⟨?_,?_,?_⟩<;>simp[aV,az,h,aX]
    have m7:∀J:an,J[X]?=E [.f (sl d.mg (aI d.ts)),Z d.min]->aV J ab (.c (.ptr X 1 0))=aa (vi d.min)/\aV J (aa 2) (.c (.ptr X 0 0))=aa (.a [.f (sl d.mg (aI d.ts)),Z d.min])/\aV J (aa 1) (.c (.ptr X 0 0))=aa (.a [.f (sl d.mg (aI d.ts))]):=λJ h=>by refine⟨?_,?_,?_⟩<;>simp[aV,az,h,aX]
    obtain⟨v5,-,-⟩:=m5 J1 i7;obtain⟨v7,-,-⟩:=m7 J1 c7;apply ax;apply ai;simp[n8,L,r9,l_,-aw];rw[<-y,<-j5];apply ai;simp[Y,g5,v5,v7,s_,-aw,a8 (n:=c.min-d.min),a8 (n:=c.min-d.min-b.len),f1,r6,a8 (n:=lo)];apply ai;simp[g1,g5,v5,v7,s7,-aw,a8 (n:=c.min-d.min),a8 (n:=c.min-d.min+a.len),a8 (n:=c.min-d.min+a.len-1),f2];apply ai;simp;apply ax;refine di (λn s=>∃(k:Int) (m:T) (J:an),s=⟨m,[],J⟩/\n=(u+1-k).toNat/\lo<=k/\(k=lo\/k<=u+1)/\m.g 0=.c (.yl bb)/\m.g 1=G (.fp a.row 0)/\m.g 2=G (.fp b.row 0)/\m.g 13=G (sl a.cg (aK a.cs))/\m.g 14=t.g 14/\m.g 15=t.g 15/\m.g 5=.c (.ptr U 0 0)/\m.g 7=.c (.ptr X 0 0)/\m.g 9=vi u/\m.g 10=vi k/\m.g 20=G (sl b.cg (aK b.cs))/\m.g 21=t'.g 21/\m.g 22=t'.g 22/\X<J.length/\J[U]?=E [.f (sl c.mg (aI c.ts)),Z c.min]/\J[X]?=E [.f (sl d.mg (aI d.ts)),Z d.min]/\∃ps,PP ps J/\(∀p∈ps,sI a b p)/\(∀(B:Nat) (hi:B<a.cs.length),B<i->∀d∈b.cs,∀k,Bz a.len b.len a.cs[B] d<=k->k<=Ak a.len b.len a.cs[B] d->∃p∈ps,p.c=a.cs[B]/\p.d=d/\p.k=k)/\
     (∀(S:Nat) (hj:S<b.cs.length),S<j->∀k,Bz a.len b.len c b.cs[S]<=k->k<=Ak a.len b.len c b.cs[S]->∃p∈ps,p.c=c/\p.d=b.cs[S]/\p.k=k)/\∀k',lo<=k'->k'<k->∃p∈ps,p.c=c/\p.d=d/\p.k=k') (u+1-lo).toNat
     ⟨lo,_,J1,rfl,rfl,ap,.inl rfl,by simp[g0],by simp[g1],by simp[Y],by simp[v],by simp[I],by simp[K],by simp[g5],bv,bv,bv,by simp[L],bv,bv,ap,i7,c7,ps,c_,A,l,q,λk' _ _=>by omega⟩ ?_
    clear hP A l q c_ c5 i7 c7 v5 v7;rintro n s ⟨k,m,J2,rfl,rfl,k0,k1,g0,g1,Y,v,I,K,g5,g7,g9,z,L,a_,b_,hl7,c5,c7,ps,hP,A,l,q,d9⟩ ih;apply aU;simp[g9,z];by_cases y7:k<=u
    .refine aq (by simp[y7]) (aQ ?_);obtain⟨v5,w5,x5⟩:=m5 J2 c5;obtain⟨v7,w7,x7⟩:=m7 J2 c7;have i6:Tc .neg (vi k)=aa (vi (-k)):=by
      show aa (vi (ah .i64 (0-k)))=_;rw[Int.zero_sub,a8]
     obtain⟨W,h_⟩:=aH (J2.length);have i9:∀(m:T) (F:an) (p:Pr),sI a b p->p.c=c->p.d=d->p.k=k->m.g 0=.c (.yl bb)->m.g 1=G (.fp a.row 0)->m.g 2=G (.fp b.row 0)->m.g 13=G (sl a.cg (aK a.cs))->m.g 14=t.g 14->m.g 15=t.g 15->m.g 5=.c (.ptr U 0 0)->m.g 7=.c (.ptr X 0 0)->m.g 9=vi u->m.g 10=vi k->m.g 11=.c (.ptr W 0 0)->m.g 20=G (sl b.cg (aK b.cs))->m.g 21=t'.g 21->m.g 22=t'.g 22->
       F[W]?=E p.row->(∀i:Nat,i<J2.length->F[i]?=J2[i]?)->F.length=J2.length+1->
       WP tab ni ab [.code OV,.inBlock 5,.code OW,.inLoop OU,.inBlock 4,.inBlock 3,.code (oV 22 88),.inLoop (gQ 2 22 21 23 88 OT),.inBlock 2,.inBlock 1,.code (oV 15 89),.inLoop (gQ 0 15 14 16 89 Te),.inBlock 0] ⟨m,[],F⟩ Q:=by
      intro m F p j7 z7 z8 z_ g0 g1 Y v I K g5 g7 g9 z t_ L a_ b_ y_ j6 hl3;have u_:PP ps F:=hk ps J2 F hP (λi hi=>j6 i ap) ap;obtain⟨r,J4,x_,hr⟩:=hy ps p F u_ ap j7;have hpl:p.row.length=8:=rfl;have tk:List.take 8 p.row=p.row:=rfl;have l8:aV F (aa 8) (.c (.ptr W 0 0))=aa (.a p.row):=by simp[aV,az,y_,aX,hpl,tk]
      apply aE;apply ba;simp[g0,t_,l8,-aw,x_.eq];cases r with
      |false=>exact aq bv (av (hQ _ _ (.t []) rfl rfl ⟨rfl,.inr ⟨p,j7,by simpa using hr⟩⟩))
      |true=>
      obtain⟨v_,hl4,p_⟩:PP (ps++[p]) J4/\F.length<=J4.length/\∀i:Nat,H.length<=i->i<F.length->J4[i]?=F[i]?:=by simpa using hr
      refine aC bv (aQ (au ?_));apply ba;simp[z,a8 (n:=k+1)];have n5:J4[U]?=J2[U]?:=by rw[p_ U ap ap,j6 U ap]
      have n7:J4[X]?=J2[X]?:=by rw[p_ X ap ap,j6 X ap]
      refine ih (u+1-(k+1)).toNat _ ap ⟨k+1,_,J4,rfl,rfl,ap,.inr ap,by simp[g0],by simp[g1],by simp[Y],by simp[v],by simp[I],by simp[K],by simp[g5],by simp[g7],by simp[g9],bv,by simp[L],by simp[a_],by simp[b_],ap,by rw[n5];exact c5,by rw[n7];exact c7,ps++[p],v_,λx hx=>?_,λB p9 d_ d' x8 k' h1 h2=>?_,λS c9 d_ k' h1 h2=>?_,λk' h1 h2=>?_⟩
      .rcases agP.1 hx with h|h
       .exact A x h
       .rw[If]at h;rw[h];exact j7
      .obtain⟨x,hx,h⟩:=l B p9 d_ d' x8 k' h1 h2;exact⟨x,ahu _ hx,h⟩
      .obtain⟨x,hx,h⟩:=q S c9 d_ k' h1 h2;exact⟨x,ahu _ hx,h⟩
      .by_cases e:k'=k
       .exact⟨p,bv,z7,z8,by rw[z_,e]⟩
       .obtain⟨x,hx,h⟩:=d9 k' h1 ap;exact⟨x,ahu _ hx,h⟩
     obtain⟨F,e_⟩:=aH (J2++[bV.box [.f (sl c.mg (aI c.ts)),Z c.min,.f (sl d.mg (aI d.ts)),Z d.min,Z k,.f (sl c.mg (aI c.ts)),.f (sl d.mg (aI d.ts)),Z (max 0 (-k))] 0]);have i8:F[W]?=E [.f (sl c.mg (aI c.ts)),Z c.min,.f (sl d.mg (aI d.ts)),Z d.min,Z k,.f (sl c.mg (aI c.ts)),.f (sl d.mg (aI d.ts)),Z (max 0 (-k))]:=by rw[e_,h_];simp
     have k3:∀i:Nat,i<J2.length->F[i]?=J2[i]?:=λi hi=>by rw[e_,AI hi]
     have l3:F.length=J2.length+1:=by rw[e_,agM];rfl
     obtain⟨-,-,x5'⟩:=m5 F (by rw[k3 U ap];exact c5);obtain⟨-,-,x7'⟩:=m7 F (by rw[k3 X ap];exact c7);apply aE;apply ax;apply ai;simp[g5,g7,z,w5,x5,w7,x7,-aw,i6];rw[<-e_,<-h_];apply aU;simp[z];by_cases kp:0<k
     .obtain⟨us,g',j_,j9,j8⟩:=BK d.mg d.ts g_ (-k) ap ap;obtain⟨J4,M⟩:=aH (F.set W (.box [.f (sl c.mg (aI c.ts)),Z c.min,.f (sl d.mg (aI d.ts)),Z d.min,Z k,.f (sl c.mg (aI c.ts)),.f (sl g' (aY us)),Z (max 0 (-k))] 0));have s6:dj F (.ptr W 6 0) [.f (sl g' (aY us))]=aa J4:=by rw[M];simp[dj,i8,over]
      refine aq (by simp[kp]) ?_;apply ba;simp[g7,z,x7',-aw,i6,j8,s6,-bF];apply aU;simp[z,show¬ k<0 by omega];refine bG bv ?_;have e:aI (us.map λs=>⟨.fs,s⟩)=aY us:=pm
      refine i9 _ J4 ⟨c,d,k,c.mg,c.ts,g',us.map λs=>⟨.fs,s⟩⟩ ⟨N,O,by show Bz a.len b.len c d<=k;omega,by show k<=Ak a.len b.len c d;omega,f_,Jo j_,λx hx=>?_,λx hx=>?_⟩ rfl rfl rfl (by simp[g0]) (by simp[g1]) (by simp[Y]) (by simp[v]) (by simp[I]) (by simp[K]) (by simp[g5]) (by simp[g7]) (by simp[g9]) (by simp[z]) bv (by simp[L]) (by simp[a_]) (by simp[b_]) ?_ (λi hi=>by rw[M,sh ap];exact k3 i hi) (by rw[M,agZ];exact l3)
      .show eZ c.ts x↔eZ c.ts (x+max 0 (-k));rw[show x+max 0 (-k)=x by omega]
      .show eZ (us.map λs=>⟨.fs,s⟩) x↔eZ d.ts (x+max 0 k);rw[Jk,j9 x hx,show x+max 0 k=x - -k by omega];rfl
      .rw[M,By ap];simp[Pr.row,e]
     .refine bG (by simp[kp]) ?_;apply aU;simp[z];by_cases kn:k<0
      .obtain⟨us,g',j_,j9,j8⟩:=BK c.mg c.ts f_ k ap ap;obtain⟨J4,M⟩:=aH (F.set W (.box [.f (sl c.mg (aI c.ts)),Z c.min,.f (sl d.mg (aI d.ts)),Z d.min,Z k,.f (sl g' (aY us)),.f (sl d.mg (aI d.ts)),Z (max 0 (-k))] 0));have s5:dj F (.ptr W 5 0) [.f (sl g' (aY us))]=aa J4:=by rw[M];simp[dj,i8,over]
       refine aq (by simp[kn]) ?_;apply ba;simp[g5,z,x5',-aw,j8,s5,-bF];have e:aI (us.map λs=>⟨.fs,s⟩)=aY us:=pm
       refine i9 _ J4 ⟨c,d,k,g',us.map λs=>⟨.fs,s⟩,d.mg,d.ts⟩ ⟨N,O,by show Bz a.len b.len c d<=k;omega,by show k<=Ak a.len b.len c d;omega,Jo j_,g_,λx hx=>?_,λx hx=>?_⟩ rfl rfl rfl (by simp[g0]) (by simp[g1]) (by simp[Y]) (by simp[v]) (by simp[I]) (by simp[K]) (by simp[g5]) (by simp[g7]) (by simp[g9]) (by simp[z]) bv (by simp[L]) (by simp[a_]) (by simp[b_]) ?_ (λi hi=>by rw[M,sh ap];exact k3 i hi) (by rw[M,agZ];exact l3)
       .show eZ (us.map λs=>⟨.fs,s⟩) x↔eZ c.ts (x+max 0 (-k));rw[Jk,j9 x hx,show x+max 0 (-k)=x-k by omega];rfl
       .show eZ d.ts x↔eZ d.ts (x+max 0 k);rw[show x+max 0 k=x by omega]
       .rw[M,By ap];simp[Pr.row,e]
      .refine bG (by simp[kn]) ?_;have hk0:k=0:=ii
       refine i9 _ F ⟨c,d,k,c.mg,c.ts,d.mg,d.ts⟩ ⟨N,O,by show Bz a.len b.len c d<=k;omega,by show k<=Ak a.len b.len c d;omega,f_,g_,λx hx=>?_,λx hx=>?_⟩ rfl rfl rfl (by simp[g0]) (by simp[g1]) (by simp[Y]) (by simp[v]) (by simp[I]) (by simp[K]) (by simp[g5]) (by simp[g7]) (by simp[g9]) (by simp[z]) bv (by simp[L]) (by simp[a_]) (by simp[b_]) i8 k3 l3
       .show eZ c.ts x↔eZ c.ts (x+max 0 (-k));rw[show x+max 0 (-k)=x by omega]
       .show eZ d.ts x↔eZ d.ts (x+max 0 k);rw[show x+max 0 k=x by omega]
    .refine aC ge ?_;refine bQ rfl ?_;refine au (m9 _ _ ⟨by simp[g0],by simp[g1],by simp[Y],by simp[v],by simp[I],by simp[K],by simp[g5],by simp[L],ap,c5,ps,hP,A,l,λS c9 d_ k' h1 h2=>?_⟩ (by simp[b_,n8]) (by simp[a_,m_]));by_cases e:S=j
     .subst e;rw[<-n_]at h1 h2 ⊢;exact d9 k' ap ap
     .exact q S c9 ap k' h1 h2
   .rintro t' J ⟨g0,g1,Y,v,I,K,g5,L,q_,c5,ps,hP,A,l,q⟩ - -;refine au (next _ _ ⟨by simp[g0],by simp[g1],by simp[Y],by simp[v],ap,ps,hP,A,λB u d_ d hd k h1 h2=>?_⟩ (by simp[K,hc]) (by simp[I,w_]));by_cases e:B=i
    .subst e;rw[<-n9]at h1 h2 ⊢;obtain⟨S,c9,rfl⟩:=ag1 hd;exact q S c9 c9 k h1 h2
    .exact l B u ap d hd k h1 h2
  .rintro t J ⟨g0,g1,Y,v,u9,ps,hP,A,l⟩ - -;exact cN (hQ _ _ _ rfl rfl ⟨rfl,.inl ⟨ps,hP,A,λc hc d hd k h1 h2=>by
    obtain⟨B,u,rfl⟩:=ag1 hc;exact l B u u d hd k h1 h2⟩⟩)
 exact⟨H2,he,hP⟩
def MK{bb:Nat}(a b:aG)(v:lP a)(x:lP b)(PP:List Pr->an->Prop)(j:PP [] H)
  (z:∀ps J J',PP ps J->(∀i:Nat,i<H.length->J'[i]?=J[i]?)->J.length<=J'.length->PP ps J')
  (A:∀ps p J,PP ps J->H.length<=J.length->sI a b p->∃J',Ev tab (.yield bb) [.a p.row] J (vb ae) J'/\PP (ps++[p]) J'/\J.length<=J'.length/\∀i:Nat,H.length<=i->i<J.length->J'[i]?=J[i]?) :
  ∃g,Ev tab (.fn ni) [.c (.yl bb),G (.fp a.row 0),G (.fp b.row 0)] H (.t []) g/\∃ps,PP ps g/\(∀p∈ps,sI a b p)/\∀c∈a.cs,∀d∈b.cs,∀k,Bz a.len b.len c d<=k->k<=Ak a.len b.len c d->∃p∈ps,p.c=c/\p.d=d/\p.k=k:=by
 obtain⟨g,y,h|⟨_,_,h⟩⟩:=sO a b v x PP (λ_ _=>False) j z λps p J l m q=>by
  obtain⟨J',s,u⟩:=A ps p J l m q;exact⟨ae,J',s,by simpa using u⟩
 .exact⟨g,y,h⟩
 .exact h.elim
def nb(s:aG)(x y:aA):Prop:=(∃c∈s.cs,∃d,0<=d/\eZ c.ts d/\y=bU s.len c.min d)/\x.fr<y.to/\y.fr<x.to
def RQ{ts:List cU}(j:iH ts=ae)(g:0<=d):qG ts d=ae↔eZ ts d:=by
 unfold qG eZ;rw[j,ahJ,aie];constructor
 .rintro⟨t,b,h⟩;exact⟨t,b,(je g).1 h⟩
 .rintro⟨t,b,h⟩;exact⟨t,b,(je g).2 h⟩
def sP(s:aG)(x:aA):bf tab abX [.a (s.row.map .f),.a (x.row.map .f)]=Eq (G (.fn nj [.fp s.row 0,.fp x.row 0])):=by
 refine bf.eq (bD rfl rfl λQ b=>?_);apply ai;simp[aG.row,aA.row];apply ai;simp;refine av (b _ _ ?_);simp[deep,aG.row,aA.row]
def zK{bb:Nat}(s:aG)(hs:lP s)(x:aA)(x0:-1000000000000<=x.fr)(x1:x.to<=1000000000000)(x2:x.fr<x.to)(PP:List aA->an->Prop)(RR:aA->an->Prop)(h0:PP [] H)
  (hk:∀ps J J',PP ps J->(∀i:Nat,i<H.length->J'[i]?=J[i]?)->J.length<=J'.length->PP ps J')
  (hy:∀ps y J,PP ps J->H.length<=J.length->nb s x y->∃(r:Bool) (J':an),Ev tab (.yield bb) [.a (y.row.map .f)] J (vb r) J'/\(if r then PP (ps++[y]) J'/\J.length<=J'.length/\∀i:Nat,H.length<=i->i<J.length->J'[i]?=J[i]? else RR y J')) :
  ∃U,Ev tab (.fn nj) [.c (.yl bb),G (.fp s.row 0),G (.fp x.row 0)] H (.t []) U/\((∃ys,PP ys U/\∀y,y∈ys↔nb s x y)\/∃y,nb s x y/\RR y U):=by
 obtain⟨p_,q_⟩:=hs.ok.len;have n_:=hs.cn;have j5:∀H:an,bA H (.f (sl s.cg (aK s.cs)))=aa s.cs.length:=λH=>by simp
 have f_:∀(J:an),aV J ab (G (.fp s.row 0))=aa (G (sl s.cg (aK s.cs)))/\aV J ab (G (.fp s.row 1))=aa (vi s.len)/\aV J (aa 3) (G (.fp s.row 0))=aa (.a [.f (sl s.cg (aK s.cs)),Z s.len,.f (sl s.xg (ay s.xs))]):=λJ=>⟨rfl,rfl,rfl⟩
 have i_:∀(J:an),aV J ab (G (.fp x.row 1))=aa (vi x.fr)/\aV J ab (G (.fp x.row 2))=aa (vi x.to):=λJ=>⟨rfl,rfl⟩
 obtain⟨r,U,he,rfl,N⟩:∃r U,Ev tab (.fn nj) [.c (.yl bb),G (.fp s.row 0),G (.fp x.row 0)] H r U/\(r=.t []/\((∃ys,PP ys U/\∀y,y∈ys↔nb s x y)\/∃y,nb s x y/\RR y U)):=by
  refine dc rfl rfl λQ hQ=>?_;apply ai;simp[f_,j5];refine bW s.cs.length (λi t J=>t.g 0=.c (.yl bb)/\t.g 1=G (.fp s.row 0)/\t.g 2=G (.fp x.row 0)/\t.g 8=G (sl s.cg (aK s.cs))/\H.length<=J.length/\∃ys,PP ys J/\∀y,y∈ys↔(∃(b:Nat) (h:b<s.cs.length),b<i/\∃d,0<=d/\eZ s.cs[b].ts d/\y=bU s.len s.cs[b].min d)/\x.fr<y.to/\y.fr<x.to) ap ce ce bv bv
   ⟨bv,bv,bv,bv,agQ _,[],h0,λy=>⟨λh=>by simp at h,λ⟨⟨b,_,h,_⟩,_⟩=>by omega⟩⟩ ?_ ?_
  .rintro i t J hi ⟨W,L,M,X,j7,ys,N,m⟩ hc hb next
   have i9:=λH:an=>bu (H:=H) (g:=s.cg) (rows:=aK s.cs) (sz:=2) (k:=.i64) (i:=(i:Int)) ap ge;have e_:=λH:an=>cf (H:=H) (dN s.cs) (fJ hi);simp only[ag7]at i9;have j9:=hs.ok.min (IN hi);have d9:=hs.few _ (IN hi);have F:=IN hi;obtain⟨c,Y⟩:=aH (s.cs[i]);rw[<-Y]at e_ j9 d9 F;simp only[cM.row,IT,agN]at e_;obtain⟨q,c_⟩:=aH (J.length);obtain⟨J1,B⟩:=aH (J++[bV.box [.f (sl c.mg (aI c.ts)),Z c.min] 0]);have c5:J1[q]?=E [.f (sl c.mg (aI c.ts)),Z c.min]:=by rw[B,c_];simp
   have g_:PP ys J1:=hk ys J J1 N (λi hi=>by rw[B,AI ap]) (by rw[B,agM];omega);have p9:J1.length=q+1:=by rw[B,agM,c_];rfl
   have m5:∀J:an,J[q]?=E [.f (sl c.mg (aI c.ts)),Z c.min]->aV J ab (.c (.ptr q 1 0))=aa (vi c.min)/\aV J (aa 2) (.c (.ptr q 0 0))=aa (.a [.f (sl c.mg (aI c.ts)),Z c.min])/\aV J (aa 1) (.c (.ptr q 0 0))=aa (.a [.f (sl c.mg (aI c.ts))]):=λJ h=>by refine⟨?_,?_,?_⟩<;>simp[aV,az,h,aX]
   obtain⟨v5,-,-⟩:=m5 J1 c5;have f1:=qv (x.fr-s.len-c.min) ap ap;obtain⟨n0,m9⟩:=aH (max 0 ((x.fr-s.len-c.min) / 1440+1));have n9:max 0 ((x.fr-s.len-c.min) / 1440+1)=n0:=m9.symm;apply ax;apply ai;simp[hc,X,i9,e_,-aw];rw[<-B,<-c_];apply ai;simp[L,M,v5,f_,i_,-aw,a8 (n:=x.fr-s.len),a8 (n:=x.fr-s.len-c.min),f1,a8 (n:=(x.fr-s.len-c.min) / 1440+1),n9];apply ax;refine di (λn st=>∃(d:Int) (O:T) (J:an),st=⟨O,[],J⟩/\n=(x.to-(d*1440+c.min)).toNat/\n0<=d/\d<=1000000000/\O.g 0=.c (.yl bb)/\O.g 1=G (.fp s.row 0)/\O.g 2=G (.fp x.row 0)/\O.g 8=G (sl s.cg (aK s.cs))/\O.g 9=t.g 9/\O.g 10=t.g 10/\O.g 5=.c (.ptr q 0 0)/\O.g 6=vi d/\q<J.length/\J[q]?=E [.f (sl c.mg (aI c.ts)),Z c.min]/\∃ys,PP ys J/\∀y,y∈ys↔((∃(b:Nat) (h:b<s.cs.length),b<i/\∃d,0<=d/\eZ s.cs[b].ts d/\y=bU s.len s.cs[b].min d)/\x.fr<y.to/\y.fr<x.to)\/∃d',n0<=d'/\d'<d/\d'*1440+c.min<x.to/\eZ c.ts d'/\y=bU s.len c.min d') (x.to-(n0*1440+c.min)).toNat
    ⟨n0,_,J1,rfl,rfl,ahY _,ap,by simp[W],by simp[L],by simp[M],by simp[X],bv,bv,bv,bv,ap,c5,ys,g_,λy=>by rw[m];exact⟨.inl,λh=>h.elim id λ⟨d',u,v,_⟩=>by omega⟩⟩ ?_
   clear N m g_ c5 v5;rintro n st ⟨d,O,J2,rfl,rfl,d0,d1,W,L,M,X,g9,A,g5,g6,i6,c5,ys,N,m⟩ ih;obtain⟨v5,w5,z5⟩:=m5 J2 c5;apply aU;simp[M,g5,g6,v5,i_,-aw,a8 (n:=d*1440),a8 (n:=d*1440+c.min)];by_cases d_:d*1440+c.min<x.to
   .refine aq (by simp[d_]) (aQ ?_);have I:=xM c.mg c.ts d9.mix d nl;have K:=RQ d9.mix (show 0<=d by omega);obtain⟨j8,k_⟩:=aH (qG c.ts d);rw[<-k_]at I K;have i8:=ue (sl s.cg (aK s.cs)) (sl s.xg (ay s.xs)) (sl c.mg (aI c.ts)) s.len c.min d kw kw kw;have b_:∀(S:T) (z:an) (zs:List aA),S.g 0=.c (.yl bb)->S.g 1=G (.fp s.row 0)->S.g 2=G (.fp x.row 0)->S.g 8=G (sl s.cg (aK s.cs))->S.g 9=t.g 9->S.g 10=t.g 10->S.g 5=.c (.ptr q 0 0)->S.g 6=vi d->q<z.length->z[q]?=E [.f (sl c.mg (aI c.ts)),Z c.min]->PP zs z->(∀y,y∈zs↔y∈ys\/(eZ c.ts d/\y=bU s.len c.min d))->
      WP tab nj ab [.code OY,.inLoop OX,.inBlock 2,.inBlock 1,.code (oV 10 50),.inLoop (gQ 0 10 9 11 50 Tf),.inBlock 0] ⟨S,[],z⟩ Q:=by
     intro S z zs W L M X g9 A g5 g6 h_ c3 c9 n8;apply ba;simp[g6,a8 (n:=d+1)];refine ih (x.to-((d+1)*1440+c.min)).toNat _ ap ⟨d+1,_,z,rfl,rfl,ap,ap,by simp[W],by simp[L],by simp[M],by simp[X],by simp[g9],by simp[A],by simp[g5],bv,h_,c3,zs,c9,λy=>?_⟩;rw[n8,m];constructor
     .rintro((h|⟨d',u,v,j,l⟩)|⟨u,v⟩)
      .exact .inl h
      .exact .inr ⟨d',u,ap,j,l⟩
      .exact .inr ⟨d,d0,ap,d_,u,v⟩
     .rintro(h|⟨d',u,v,j,l,h5⟩)
      .exact .inl (.inl h)
      .by_cases e:d'=d
       .subst e;exact .inr ⟨l,h5⟩
       .exact .inl (.inr ⟨d',u,ap,j,l,h5⟩)
    apply aE;apply ax;cases j8 with
    |false=>
     have m_:¬ eZ c.ts d:=λh=>by have:=K.2 h;cases this
     apply ai;simp[g5,g6,z5,-aw,I];refine aC bv (aQ (au ?_));exact b_ _ J2 ys (by simp[W]) (by simp[L]) (by simp[M]) (by simp[X]) (by simp[g9]) (by simp[A]) (by simp[g5]) (by simp[g6]) i6 c5 N λy=>⟨.inl,λh=>h.elim id λh=>absurd h.1 m_⟩
    |true=>
     have a_:=K.1 rfl;have i7:nb s x (bU s.len c.min d):=⟨⟨c,F,d,ap,a_,rfl⟩,by show x.fr<d*1440+c.min+s.len;omega,by show d*1440+c.min<x.to;omega⟩
     obtain⟨r,z,j_,hr⟩:=hy ys (bU s.len c.min d) J2 N ap i7;apply ai;simp[W,L,g5,g6,z5,w5,f_,-aw,I,i8,j_.eq];cases r with
     |false=>exact aq bv (av (hQ _ _ (.t []) rfl rfl ⟨rfl,.inr ⟨_,i7,by simpa using hr⟩⟩))
     |true=>
     obtain⟨c9,h_,l_⟩:PP (ys++[bU s.len c.min d]) z/\J2.length<=z.length/\∀i:Nat,H.length<=i->i<J2.length->z[i]?=J2[i]?:=by simpa using hr
     refine aC bv (aQ (au ?_));exact b_ _ z (ys++[bU s.len c.min d]) (by simp[W]) (by simp[L]) (by simp[M]) (by simp[X]) (by simp[g9]) (by simp[A]) (by simp[g5]) (by simp[g6]) ap (by rw[l_ q ap i6];exact c5) c9 λy=>by
      rw[agP,If];exact⟨λh=>h.imp id λh=>⟨a_,h⟩,λh=>h.imp id λh=>h.2⟩
   .refine aC (by simp[d_]) ?_;refine bQ rfl ?_;refine au (next _ _ ⟨by simp[W],by simp[L],by simp[M],by simp[X],ap,ys,N,λy=>?_⟩ (by simp[A,hc]) (by simp[g9,hb]));rw[m];constructor
    .rintro(⟨⟨b,h,u,v⟩,j⟩|⟨d',u,v,j,l,rfl⟩)
     .exact⟨⟨b,h,ap,v⟩,j⟩
     .refine⟨⟨i,hi,ap,d',ap,by rw[<-Y];exact l,by rw[<-Y]⟩,?_,j⟩;show x.fr<d'*1440+c.min+s.len;omega
    .rintro⟨⟨b,h,u,d',v,j,l⟩,h5,h6⟩;by_cases e:b=i
     .subst e;rw[<-Y]at j l;rw[l]at h5 h6;have o_:x.fr<d'*1440+c.min+s.len:=h5;have j6:d'*1440+c.min<x.to:=h6;exact .inr ⟨d',ap,ap,j6,j,l⟩
     .exact .inl ⟨⟨b,h,ap,d',v,j,l⟩,h5,h6⟩
  .rintro t J ⟨W,L,M,X,j7,ys,N,m⟩ - -;refine cN (hQ _ _ _ rfl rfl ⟨rfl,.inl ⟨ys,N,λy=>?_⟩⟩);rw[m];unfold nb;constructor
   .rintro⟨⟨b,h,-,d,u,v,j⟩,l⟩;exact⟨⟨_,IN h,d,u,v,j⟩,l⟩
   .rintro⟨⟨c,hc,d,u,v,j⟩,l⟩;obtain⟨b,h,rfl⟩:=ag1 hc;exact⟨⟨b,h,h,d,u,v,j⟩,l⟩
 exact⟨U,he,N⟩
def B6{bb:Nat}(s:aG)(z:lP s)(x:aA)(B:-1000000000000<=x.fr)(F:x.to<=1000000000000)(I:x.fr<x.to)(PP:List aA->an->Prop)(d:PP [] H)
  (v:∀ps J J',PP ps J->(∀i:Nat,i<H.length->J'[i]?=J[i]?)->J.length<=J'.length->PP ps J')
  (A:∀ps y J,PP ps J->H.length<=J.length->nb s x y->∃J',Ev tab (.yield bb) [.a (y.row.map .f)] J (vb ae) J'/\PP (ps++[y]) J'/\J.length<=J'.length/\∀i:Nat,H.length<=i->i<J.length->J'[i]?=J[i]?) :
  ∃b,Ev tab (.fn nj) [.c (.yl bb),G (.fp s.row 0),G (.fp x.row 0)] H (.t []) b/\∃ys,PP ys b/\∀y,y∈ys↔nb s x y:=by
 obtain⟨b,u,h|⟨_,_,h⟩⟩:=zK s z x B F I PP (λ_ _=>False) d v λps y J g j l=>by
  obtain⟨J',m,q⟩:=A ps y J g j l;exact⟨ae,J',m,by simpa using q⟩
 .exact⟨b,u,h⟩
 .exact h.elim
section
structure TK(fr oQ:Int)(found:Bool)(X Y:aA)(H:an):Prop where
 h2:H[2]?=E [Z fr]
 h5:H[5]?=E [Z X.day,Z X.fr,Z X.to]
 h6:H[6]?=E [Z Y.day,Z Y.fr,Z Y.to]
 h7:H[7]?=E [Z oQ]
 h8:H[8]?=E [.f (.bool found)]
def TK.bS{found:Bool}{H':an}(h:TK n d found X y H)(b:∀i:Nat,i<9->H'[i]?=H[i]?):TK n d found X y H':=
 ⟨by rw[b 2 ap];exact h.h2,by rw[b 5 ap];exact h.h5,by rw[b 6 ap];exact h.h6,by rw[b 7 ap];exact h.h7,by rw[b 8 ap];exact h.h8⟩
def pP(b:Int)(x y:aA):Int:=max (max x.fr y.fr) b
def okB(b:Int)(x y:aA):Prop:=x.to<=2251799813685248/\y.to<=2251799813685248/\pP b x y<min x.to y.to
def VT(d b:Int)(x y X Y:aA):Prop:=Aq [eG (pP d x y) b,fV x X,fV y Y]<0
open Classical in
noncomputable def kJ (d b:Int) (found:Bool) (x y X Y:aA):Bool:=decide (okB d x y/\(found=ag\/VT d b x y X Y))
def SP(g b:Int)(found:Bool)(X Y x y:aA)(H:an)(h:TK g b found X Y H) :
  ∃H',Ev tab (.fn Lz) [.a (x.row.map .f),.a (y.row.map .f),.c (.ptr 2 0 0),.c (.ptr 8 0 0),.c (.ptr 7 0 0),.c (.ptr 5 0 0),.c (.ptr 6 0 0)] H (.t []) H'/\
   TK g (if kJ g b found x y X Y then pP g x y else b) (found||kJ g b found x y X Y) (if kJ g b found x y X Y then x else X) (if kJ g b found x y X Y then y else Y) H'/\H.length<=H'.length/\∀i:Nat,i<H.length->i<5\/8<i->H'[i]?=H[i]?:=by
 have l8:=aj h.h8;have f_:max (max x.fr y.fr) g=pP g x y:=rfl;obtain⟨r,H',he,rfl,hP⟩:∃r H',Ev tab (.fn Lz) [.a (x.row.map .f),.a (y.row.map .f),.c (.ptr 2 0 0),.c (.ptr 8 0 0),.c (.ptr 7 0 0),.c (.ptr 5 0 0),.c (.ptr 6 0 0)] H r H'/\(r=.t []/\
   TK g (if kJ g b found x y X Y then pP g x y else b) (found||kJ g b found x y X Y) (if kJ g b found x y X Y then x else X) (if kJ g b found x y X Y then y else Y) H'/\H.length<=H'.length/\∀i:Nat,i<H.length->i<5\/8<i->H'[i]?=H[i]?):=by
  have o1:=zu x X;have o2:=zu y Y;simp only[aA.row,IT,agN]at o1 o2;have ho:=Fa .fs [eG (pP g x y) b,fV x X,fV y Y] bv;simp[ints,sl,Tg.fc]at ho;have a_:=mI (pP g x y) b;refine dc rfl rfl λQ hQ=>?_;apply ai;simp[aA.row];obtain⟨d,q⟩:=aH (H++[bV.box [Z x.day,Z x.fr,Z x.to] 0,.box [Z y.day,Z y.fr,Z y.to] 0]);obtain⟨m,N⟩:=aH (H.length);have hT:TK g b found X Y d:=h.bS λi hi=>by rw[q,AI ap]
  have c7:d[m]?=E [Z x.day,Z x.fr,Z x.to]:=by rw[q,N];simp
  have c8:d[m+1]?=E [Z y.day,Z y.fr,Z y.to]:=by rw[q,N,agL ap];simp
  have kA:∀i:Nat,i<H.length->d[i]?=H[i]?:=λi hi=>by rw[q,AI hi]
  have lA:d.length=m+2:=by rw[q,agM,N];rfl
  rw[<-q,<-N];have m7:∀J:an,J[m]?=E [Z x.day,Z x.fr,Z x.to]->aV J ab (.c (.ptr m 1 0))=aa (vi x.fr)/\aV J ab (.c (.ptr m 2 0))=aa (vi x.to)/\aV J (aa 3) (.c (.ptr m 0 0))=aa (.a [Z x.day,Z x.fr,Z x.to]):=λJ h=>by refine⟨?_,?_,?_⟩<;>simp[aV,az,h,aX]
  have m8:∀J:an,J[m+1]?=E [Z y.day,Z y.fr,Z y.to]->aV J ab (.c (.ptr (m+1) 1 0))=aa (vi y.fr)/\aV J ab (.c (.ptr (m+1) 2 0))=aa (vi y.to)/\aV J (aa 3) (.c (.ptr (m+1) 0 0))=aa (.a [Z y.day,Z y.fr,Z y.to]):=λJ h=>by refine⟨?_,?_,?_⟩<;>simp[aV,az,h,aX]
  obtain⟨x1,x2,x3⟩:=m7 d c7;obtain⟨y1,y2,y3⟩:=m8 d c8;have i_:aV d ab (.c (.ptr 2 0 0))=aa (vi g):=by simp[aV,az,hT.h2]
  have i9:aV d ab (.c (.ptr 7 0 0))=aa (vi b):=by simp[aV,az,hT.h7]
  have j5:aV d (aa 3) (.c (.ptr 5 0 0))=aa (.a [Z X.day,Z X.fr,Z X.to]):=by simp[aV,az,hT.h5,aX]
  have j6:aV d (aa 3) (.c (.ptr 6 0 0))=aa (.a [Z Y.day,Z Y.fr,Z Y.to]):=by simp[aV,az,hT.h6,aX]
  have g_:aV d ab (.c (.ptr 8 0 0))=aa (vb found):=by simp[aV,az,hT.h8]
  obtain⟨l,M⟩:=aH (pP g x y);rw[<-M]at f_ ho a_;have no:∀(t:T) (J:an),kJ g b found x y X Y=ag->(∀i:Nat,i<d.length->J[i]?=d[i]?)->d.length<=J.length->(∀j:Option aD,Q j ⟨t,[],J⟩):=by
   intro t J hu hJ hl j;refine hQ _ _ _ rfl rfl ⟨rfl,?_,by show H.length<=J.length;omega,λi hi _=>by show J[i]?=_;rw[hJ i ap,kA i hi]⟩;rw[hu];simpa using hT.bS λi hi=>hJ i ap
  apply ai;simp[x1,y1,i_,-aw,BF,f_]
  suffices c_:∀t:T,t.g 3=.c (.ptr 8 0 0)->t.g 4=.c (.ptr 7 0 0)->t.g 5=.c (.ptr 5 0 0)->t.g 6=.c (.ptr 6 0 0)->t.g 7=.c (.ptr m 0 0)->t.g 8=.c (.ptr (m+1) 0 0)->t.g 9=vi l->WP tab Lz ab [.code Xs] ⟨t,[],d⟩ Q by exact c_ _ bv bv bv bv bv bv bv
  intro t g3 U g5 g6 u v A;have O:okB g x y↔(x.to<=2251799813685248/\y.to<=2251799813685248/\l<min x.to y.to):=by rw[M];rfl
  have z:¬ okB g x y->kJ g b found x y X Y=ag:=λh=>by unfold kJ;simp[h]
  apply aU;by_cases c1:2251799813685248<x.to
  .simp[u,x2,c1,-aw];refine aq bv ?_;exact av (no _ d (z λh=>by have:=(O.1 h).1;omega) (λ_ _=>rfl) (agQ _) _)
  by_cases c2:2251799813685248<y.to
  .simp[u,v,x2,y2,c1,c2,-aw];refine aq bv ?_;exact av (no _ d (z λh=>by have:=(O.1 h).2.1;omega) (λ_ _=>rfl) (agQ _) _)
  by_cases c3:min x.to y.to<=l
  .simp[u,v,A,x2,y2,c1,c2,c3,-aw];refine aq bv ?_;exact av (no _ d (z λh=>by have:=(O.1 h).2.2;omega) (λ_ _=>rfl) (agQ _) _)
  have b_:okB g x y:=O.2 ⟨ap,ap,ap⟩;simp[u,v,A,x2,y2,c1,c2,c3,-aw];refine bG bv ?_;have h_:∀(t:T) (J:an),kJ g b found x y X Y=ae->t.g 3=.c (.ptr 8 0 0)->t.g 4=.c (.ptr 7 0 0)->t.g 5=.c (.ptr 5 0 0)->t.g 6=.c (.ptr 6 0 0)->t.g 7=.c (.ptr m 0 0)->t.g 8=.c (.ptr (m+1) 0 0)->t.g 9=vi l->(∀i:Nat,i<d.length->J[i]?=d[i]?)->d.length<=J.length->WP tab Lz ab [.code Tp] ⟨t,[],J⟩ Q:=by
   intro t J hu g3 U g5 g6 u v A hJ hl;have s:=hT.bS (H':=J) λi hi=>hJ i ap;have d7:J[m]?=E [Z x.day,Z x.fr,Z x.to]:=by rw[hJ m ap];exact c7
   have d8:J[m+1]?=E [Z y.day,Z y.fr,Z y.to]:=by rw[hJ (m+1) ap];exact c8
   obtain⟨-,-,x3⟩:=m7 J d7;obtain⟨-,-,y3⟩:=m8 J d8;obtain⟨S,F⟩:=aH (J.set 7 (.box [Z l] 0));have s1:dj J (.ptr 7 0 0) [Z l]=aa S:=by rw[F];simp[dj,s.h7,over]
   have k1:∀i:Nat,i≠7->S[i]?=J[i]?:=λi hi=>by rw[F,sh (Ne.symm hi)]
   have n1:S.length=J.length:=by rw[F];simp
   obtain⟨J2,I⟩:=aH (S.set 5 (.box [Z x.day,Z x.fr,Z x.to] 0));have s2:dj S (.ptr 5 0 0) [Z x.day,Z x.fr,Z x.to]=aa J2:=by rw[I];simp[dj,k1 5 ap,s.h5,over]
   have k2:∀i:Nat,i≠5->J2[i]?=S[i]?:=λi hi=>by rw[I,sh (Ne.symm hi)]
   have n2:J2.length=J.length:=by rw[I];simp[n1]
   obtain⟨J3,K⟩:=aH (J2.set 6 (.box [Z y.day,Z y.fr,Z y.to] 0));have s3:dj J2 (.ptr 6 0 0) [Z y.day,Z y.fr,Z y.to]=aa J3:=by rw[K];simp[dj,k2 6 ap,k1 6 ap,s.h6,over]
   have k3:∀i:Nat,i≠6->J3[i]?=J2[i]?:=λi hi=>by rw[K,sh (Ne.symm hi)]
   have n3:J3.length=J.length:=by rw[K];simp[n2]
   obtain⟨J4,L⟩:=aH (J3.set 8 (.box [.f (.bool ae)] 0));have s4:dj J3 (.ptr 8 0 0) [.f (.bool ae)]=aa J4:=by rw[L];simp[dj,k3 8 ap,k2 8 ap,k1 8 ap,s.h8,over]
   have k4:∀i:Nat,i≠8->J4[i]?=J3[i]?:=λi hi=>by rw[L,sh (Ne.symm hi)]
   have k_:=aj s.h7;have l_:8<m:=ii
   obtain⟨-,-,j7⟩:=m7 S (by rw[k1 m ap];exact d7);obtain⟨-,-,j8⟩:=m8 S (by rw[k1 (m+1) ap];exact d8);obtain⟨-,-,j9⟩:=m8 J2 (by rw[k2 (m+1) ap,k1 (m+1) ap];exact d8);refine eH (.inl rfl) ?_ ?_
   case refine_2=>
    intro cc i7;have i6:cc=(1,4)\/cc=(2,4)\/cc=(2,5):=by simpa using i7
    rcases i6 with rfl|rfl|rfl
    .refine⟨ce,_,rfl,.inl ⟨ce,?_⟩⟩;simp[U,u,v,A,x3,y3,j7,s1,-aw,-bF,gE,V.beq,C.beq,FC.beq]
    .refine⟨ce,_,rfl,.inl ⟨ce,?_⟩⟩;simp[U,u,v,A,x3,y3,j8,s1,-aw,-bF,gE,V.beq,C.beq,FC.beq]
    .refine⟨ce,_,rfl,.inl ⟨ce,?_⟩⟩;simp[U,g5,u,v,A,x3,y3,j9,s1,s2,-aw,-bF,gE,V.beq,C.beq,FC.beq]
   simp[g3,U,g5,g6,u,v,A,x3,y3,s1,s2,s3,s4,-aw,-bF];refine cN (hQ _ _ _ rfl rfl ⟨rfl,?_,by show H.length<=J4.length;rw[L];simp;omega,λi hi j_=>?_⟩)
   .rw[hu];simp only[if_true,Bool.or_true];rw[<-M];refine⟨?_,?_,?_,?_,?_⟩
    .rw[k4 2 ap,k3 2 ap,k2 2 ap,k1 2 ap];exact s.h2
    .rw[k4 5 ap,k3 5 ap,I];exact By ap
    .rw[k4 6 ap,K];exact By ap
    .rw[k4 7 ap,k3 7 ap,k2 7 ap,F];exact By ap
    .rw[L];exact By ap
   .show J4[i]?=_;rw[k4 i ap,k3 i ap,k2 i ap,k1 i ap,hJ i ap,kA i hi]
  apply aE;cases found with
  |false=>
   apply ba;simp[g3,g_,-aw];refine aq bv ?_;exact h_ _ d (by unfold kJ;simp[b_]) (by simp[g3]) (by simp[U]) (by simp[g5]) (by simp[g6]) (by simp[u]) (by simp[v]) (by simp[A]) (λ_ _=>rfl) (agQ _)
  |true=>
   obtain⟨HB,B⟩:=aH (d++[bV.box [Z (eG l b),Z (fV x X),Z (fV y Y)] 0]);have d_:HB[d.length]?=E [Z (eG l b),Z (fV x X),Z (fV y Y)]:=by rw[B];simp
   have e_:fv 64 HB (.sl d.length 0 3 3 0 1)=aa (.fs [fi (eG l b),fi (fV x X),fi (fV y Y)] 3):=by
    rw[show(64:Nat)=63+1 from rfl];simp only[gR,d_];rfl
   obtain⟨HC,d9⟩:=aH (ez 64 (.sl d.length 0 3 3 0 1) HB);have W:HC=HB.set d.length (.box [Z (eG l b),Z (fV x X),Z (fV y Y)] 3):=by
    rw[d9,show(64:Nat)=63+1 from rfl];simp only[jY,d_];rfl
   have kC:∀i:Nat,i<d.length->HC[i]?=d[i]?:=λi hi=>by rw[W,sh ap,B,AI hi]
   have lC:d.length<=HC.length:=by rw[W,agZ,B,agM];omega
   have c9:Aq [eG l b,fV x X,fV y Y]<0↔VT g b x y X Y:=by unfold VT;rw[<-M]
   obtain⟨oo,i8⟩:=aH (Aq [eG l b,fV x X,fV y Y]);rw[<-i8]at ho c9;apply ba;simp[g3,U,g5,g6,u,v,A,g_,i9,j5,j6,x3,y3,-aw,a_,o1,o2,<-B,e_,deep,ho,<-d9];by_cases k:oo<0
   .refine aq (by simp[k]) ?_;exact h_ _ HC (by unfold kJ;simp[b_,c9.1 k]) (by simp[g3]) (by simp[U]) (by simp[g5]) (by simp[g6]) (by simp[u]) (by simp[v]) (by simp[A]) kC lC
   .refine bG (by simp[k]) ?_;exact cN (no _ HC (by unfold kJ;simp[show¬ VT g b x y X Y from λh=>k (c9.2 h)]) kC lC ab)
 exact⟨H',he,hP⟩
end
def Dk(b:Int)(x y X Y:aA):Prop:=pP b x y<pP b X Y\/pP b x y=pP b X Y/\(x.lt X\/(x.fr=X.fr/\x.day=X.day/\x.to=X.to)/\y.lt Y)
def BL(x y:aA):fV x y=0↔x.fr=y.fr/\x.day=y.day/\x.to=y.to:=by
 have l:∀a b:Int,eG a b=0↔a=b:=λa b=>by unfold eG;split<;>(try split)<;>omega
 unfold fV;simp only[Aq];have m:=l x.fr y.fr;have q:=l x.day y.day;have s:=l x.to y.to;by_cases d:eG x.fr y.fr=0
 .rw[ct d];by_cases g:eG x.day y.day=0
  .rw[ct g];by_cases j:eG x.to y.to=0
   .rw[ct j];exact⟨λ_=>⟨m.1 d,q.1 g,s.1 j⟩,λ_=>rfl⟩
   .rw[cC j];exact⟨λh=>absurd h j,λh=>absurd (s.2 h.2.2) j⟩
  .rw[cC g];exact⟨λh=>absurd h g,λh=>absurd (q.2 h.2.1) g⟩
 .rw[cC d];exact⟨λh=>absurd h d,λh=>absurd (m.2 h.1) d⟩
def UK(b:Int)(x y X Y:aA):VT b (pP b X Y) x y X Y↔Dk b x y X Y:=by
 unfold VT Dk;have l:eG (pP b x y) (pP b X Y)=0↔pP b x y=pP b X Y:=by unfold eG;split<;>(try split)<;>omega
 have A:eG (pP b x y) (pP b X Y)<0↔pP b x y<pP b X Y:=by unfold eG;split<;>(try split)<;>omega
 have v:=BL x X;have B:=BL y Y;have m:=ou x X;have q:=ou y Y;simp only[Aq];by_cases d:eG (pP b x y) (pP b X Y)=0
 .rw[ct d];have e:=l.1 d;by_cases g:fV x X=0
  .rw[ct g];have z:=v.1 g;have u:¬ x.lt X:=λh=>by have:=m.2 h;omega
   by_cases s:fV y Y=0
   .rw[ct s];have j:¬ y.lt Y:=λh=>by have:=q.2 h;omega
    constructor
    .intro h;omega
    .rintro(h|⟨-,h|⟨-,h⟩⟩)
     .omega
     .exact absurd h u
     .exact absurd h j
   .rw[cC s,q];constructor
    .intro h;exact .inr ⟨e,.inr ⟨z,h⟩⟩
    .rintro(h|⟨-,h|⟨-,h⟩⟩)
     .omega
     .exact absurd h u
     .exact h
  .rw[cC g,m];constructor
   .intro h;exact .inr ⟨e,.inl h⟩
   .rintro(h|⟨-,h|⟨h,-⟩⟩)
    .omega
    .exact h
    .exact absurd (v.2 h) g
 .rw[cC d,A];constructor
  .intro h;exact .inl h
  .rintro(h|⟨h,-⟩)
   .exact h
   .exact absurd (l.2 h) d
def BO{x Y d W:aA}(h:Dk n x y X Y)(g:Dk n X Y d W):Dk n x y d W:=by
 unfold Dk aA.lt at *;omega
def UT{x Y:aA}(h:¬ Dk n x y X Y)(v:¬ Dk n X Y x y):x=X/\y=Y:=by
 have d:x.fr=X.fr/\x.day=X.day/\x.to=X.to:=by unfold Dk aA.lt at *;omega
 have g:y.fr=Y.fr/\y.day=Y.day/\y.to=Y.to:=by unfold Dk aA.lt at *;omega
 cases x;cases X;cases y;cases Y;simp only at d g;obtain⟨j,l,m⟩:=d;obtain⟨q,s,u⟩:=g;subst j l m q s u;exact⟨rfl,rfl⟩
structure FS where
 oQ:Int
 found:Bool
 X:aA
 Y:aA
variable{f:FS}
noncomputable def gT (b:Int) (s:FS) (x y:aA):FS:=⟨if kJ b s.oQ s.found x y s.X s.Y then pP b x y else s.oQ,s.found||kJ b s.oQ s.found x y s.X s.Y,if kJ b s.oQ s.found x y s.X s.Y then x else s.X,if kJ b s.oQ s.found x y s.X s.Y then y else s.Y⟩
def na(b:Int)(S:aA->aA->Prop)(s:FS):Prop:=(s.found=ag/\s.X=⟨0,0,0⟩/\s.Y=⟨0,0,0⟩/\∀x y,S x y->¬ okB b x y)\/(s.found=ae/\S s.X s.Y/\okB b s.X s.Y/\s.oQ=pP b s.X s.Y/\∀x y,S x y->okB b x y->¬ Dk b x y s.X s.Y)
def na.iff{S S':aA->aA->Prop}(h:na n S f)(d:∀x y,okB n x y->(S' x y↔S x y)):na n S' f:=by
 rcases h with⟨h1,h2,h3,h4⟩|⟨h1,h2,h3,h4,h5⟩
 .exact .inl ⟨h1,h2,h3,λx y h b=>h4 x y ((d x y b).1 h) b⟩
 .exact .inr ⟨h1,(d _ _ h3).2 h2,h3,h4,λx y h b=>h5 x y ((d x y b).1 h) b⟩
def na.step{S T:aA->aA->Prop}(h:na n S f)(v:T X y)(u:∀d g,T d g->okB n d g->okB n X y/\¬ Dk n d g X y):na n (λX y=>S X y\/T X y) (gT n f X y):=by
 by_cases j:okB n X y
 .rcases h with⟨h1,h2,h3,h4⟩|⟨h1,h2,h3,h4,h5⟩
  .have hu:kJ n f.oQ f.found X y f.X f.Y=ae:=by unfold kJ;simp[j,h1]
   refine .inr ⟨?_,?_,?_,?_,λd g b l=>?_⟩
   .simp[gT,hu]
   .simp only[gT,hu,if_true];exact .inr v
   .simp only[gT,hu,if_true];exact j
   .simp only[gT,hu,if_true]
   .simp only[gT,hu,if_true];rcases b with b|b
    .exact absurd l (h4 d g b)
    .exact(u d g b l).2
  .have m:VT n f.oQ X y f.X f.Y↔Dk n X y f.X f.Y:=by rw[h4];exact UK n X y f.X f.Y
   by_cases k:Dk n X y f.X f.Y
   .have hu:kJ n f.oQ f.found X y f.X f.Y=ae:=by unfold kJ;simp[j,m.2 k]
    refine .inr ⟨?_,?_,?_,?_,λd g b l=>?_⟩
    .simp[gT,hu]
    .simp only[gT,hu,if_true];exact .inr v
    .simp only[gT,hu,if_true];exact j
    .simp only[gT,hu,if_true]
    .simp only[gT,hu,if_true];rcases b with b|b
     .exact λq=>h5 d g b l (BO q k)
     .exact(u d g b l).2
   .have hu:kJ n f.oQ f.found X y f.X f.Y=ag:=by unfold kJ;simp[h1,show¬ VT n f.oQ X y f.X f.Y from λh=>k (m.1 h)]
    refine .inr ⟨?_,?_,?_,?_,λd g b l=>?_⟩
    .simp[gT,hu,h1]
    .simp only[gT,hu];exact .inl h2
    .simp only[gT,hu];exact h3
    .simp only[gT,hu];exact h4
    .simp only[gT,hu];rcases b with b|b
     .exact h5 d g b l
     .intro q;have h6:=(u d g b l).2;by_cases e:Dk n X y d g
      .exact k (BO e q)
      .obtain⟨rfl,rfl⟩:=UT h6 e;exact k q
 .have hu:kJ n f.oQ f.found X y f.X f.Y=ag:=by unfold kJ;simp[j]
  have z:gT n f X y=f:=by simp[gT,hu]
  rw[z];refine h.iff λd g l=>⟨λh=>h.elim id λh=>absurd (u d g h l).1 j,.inl⟩
def na.none{S T:aA->aA->Prop}(h:na n S f)(j:∀b d,T b d->¬ okB n b d):na n (λx y=>S x y\/T x y) f:=
 h.iff λb d g=>⟨λh=>h.elim id λh=>absurd g (j b d h),.inl⟩
def na.one{S:aA->aA->Prop}(h:na n S f)(x y:aA):na n (λb d=>S b d\/(b=x/\d=y)) (gT n f x y):=
 h.step ⟨rfl,rfl⟩ λb d ⟨h1,h2⟩ g=>by
  subst h1 h2;exact⟨g,by unfold Dk aA.lt;omega⟩
def lK(s:aG):List C:=[.f (sl s.cg (aK s.cs)),Z s.len,.f (sl s.xg (ay s.xs))]
def qS:C:=.cl Lz [.ptr 2 0 0,.ptr 8 0 0,.ptr 7 0 0,.ptr 5 0 0,.ptr 6 0 0]
structure FQ(a b:aG)(fr:Int)(s:FS)(J:an):Prop where
 h0:J[0]?=E (lK a)
 h1:J[1]?=E (lK b)
 h3:J[3]?=E [Z 0,Z 0,Z 0]
 h4:J[4]?=E [Z 0,Z 0,Z 0]
 h9:J[9]?=E [qS]
 tk:TK fr s.oQ s.found s.X s.Y J
theorem FQ.bS{a b:aG}{fr:Int}{s:FS}{J J':an}(h:FQ a b fr s J)(d:∀i:Nat,i<10->J'[i]?=J[i]?):FQ a b fr s J':=
 ⟨by rw[d 0 ap];exact h.h0,by rw[d 1 ap];exact h.h1,by rw[d 3 ap];exact h.h3,by rw[d 4 ap];exact h.h4,by rw[d 9 ap];exact h.h9,h.tk.bS λi hi=>d i ap⟩
structure FT(t:T):Prop where
 g3:t.g 3=.c (.ptr 0 0 0)
 g4:t.g 4=.c (.ptr 1 0 0)
 g5:t.g 5=.c (.ptr 2 0 0)
 g6:t.g 6=.c (.ptr 3 0 0)
 g7:t.g 7=.c (.ptr 4 0 0)
 g9:t.g 9=.c (.ptr 5 0 0)
 g10:t.g 10=.c (.ptr 6 0 0)
 g12:t.g 12=.c (.ptr 8 0 0)
 g13:t.g 13=.c (.ptr 9 0 0)
def vl(h:FQ a o n f J)(x y:aA):∃J',Ev tab (.fn Lz) [.a (x.row.map .f),.a (y.row.map .f),.c (.ptr 2 0 0),.c (.ptr 8 0 0),.c (.ptr 7 0 0),.c (.ptr 5 0 0),.c (.ptr 6 0 0)] J (.t []) J'/\FQ a o n (gT n f x y) J'/\J.length<=J'.length/\∀i:Nat,8<i->i<J.length->J'[i]?=J[i]?:=by
 obtain⟨J',m,l,q,d⟩:=SP n f.oQ f.found f.X f.Y x y J h.tk;have v:=aj h.h9;exact⟨J',m,⟨by rw[d 0 ap ap];exact h.h0,by rw[d 1 ap ap];exact h.h1,by rw[d 3 ap ap];exact h.h3,by rw[d 4 ap ap];exact h.h4,by rw[d 9 ap ap];exact h.h9,l⟩,q,λi u j=>d i j ap⟩
def Q1(a b:aG)(p:Pr):Int:=min (p.c.min+a.len) (p.k*1440+p.d.min+b.len)
def UP(a b:aG)(d:Int)(p:Pr):Int:=max 0 ((d-Q1 a b p) / 1440+1-max 0 (-p.k))
def iO(a:aG)(p:Pr)(e:Int):aA:=bU a.len p.c.min (e+max 0 (-p.k))
def iP(b:aG)(p:Pr)(e:Int):aA:=bU b.len p.d.min (e+max 0 (-p.k)+p.k)
noncomputable def II (a b:aG) (d:Int) (p:Pr) (e:Int) (f:Bool) (s:FS):FS:=if f then gT d s (iO a p e) (iP b p e)else s
def Im(a b:aG)(ha:lP a)(hb:lP b)(f0:-2251799813685248<=d)(f1:d<=100000000000000)(F:FT v)(S:sI a b t)(hq:FQ a b d f J)(d9:J[10]?=aa (.dH ae))(M:J[11]?=aa (.lp fD v [P.nat 47] kM kQ .ready ab 10)) :
  ∃e s,iQ (λe=>UP a b d t<=e/\eZ t.xs e/\eZ t.ys e) e s/\(s=ae->e<=1000001000000)/\∃r J',Ev tab (.yield 11) [.a t.row] J r J'/\(r=vb ae/\FQ a b d (II a b d t e s f) J'/\J'[10]?=aa (.dH ae)/\J'[11]?=aa (.lp fD v [P.nat 47] kM kQ .ready ab 10)/\J.length<=J'.length/\∀i:Nat,12<=i->i<J.length->J'[i]?=J[i]?):=by
 obtain⟨m9,m_⟩:=ha.ok.len;obtain⟨n8,n9⟩:=hb.ok.len;have j9:=ha.ok.min S.ca;have j_:=hb.ok.min S.db;have g_:=S.lo;have f_:=S.hi;unfold Bz at g_;unfold Ak at f_;have kb:-20<=t.k/\t.k<=20:=ii
 obtain⟨B,N⟩:=aH (Q1 a b t);have j8:-100000<=B/\B<=100000:=by rw[N];unfold Q1;omega
 have Y:min (t.c.min+a.len) (t.k*1440+t.d.min+b.len)=B:=N.symm;obtain⟨l,z⟩:=aH (max 0 (-t.k));have j7:0<=l/\l<=20:=ii
 obtain⟨n,hn⟩:=aH (UP a b d t);have i6:max 0 ((d-B) / 1440+1-l)=n:=by rw[hn,N,z];rfl
 have l_:0<=n/\n<=1000000000000:=ii
 obtain⟨e,s,hm,d_,A⟩:=we t.gx t.gy t.xs t.ys S.xo S.yo n ap ap;have h_:iQ (λe=>UP a b d t<=e/\eZ t.xs e/\eZ t.ys e) e s:=hm.iff λx=>by rw[<-hn,show max n 0=n by omega]
 refine⟨e,s,h_,λ_=>d_.2,?_⟩;refine dm (tab:=tab) (b:=11) (args:=[.a t.row]) (H:=J) M rfl λQ' X=>?_;obtain⟨q,Q⟩:=aH (J.length);obtain⟨U,y⟩:=aH (J++[bV.box t.row 0]);have i_:=aj M;have c_:U[q]?=E t.row:=by rw[y,Q];simp
 have k1:∀i:Nat,i<J.length->U[i]?=J[i]?:=λi hi=>by rw[y,AI hi]
 have l1:U.length=q+1:=by rw[y,agM,Q];rfl
 have i8:t.row.length=8:=rfl;refine aF (.inr rfl) ?_;simp[i8];rw[<-y,<-Q];have j6:U[11]?=aa (.lp fD v [P.nat 47] kM kQ .ready ab 10):=by rw[k1 11 i_];exact M
 refine eM j6 ?_;obtain⟨g,u⟩:=aH (U.set 11 (.lp fD v [P.nat 47] kM kQ .busy ab 10));have k2:∀i:Nat,i<J.length->i≠11->g[i]?=J[i]?:=λi hi i7=>by rw[u,sh (Ne.symm i7),k1 i hi]
 have j:g[q]?=E t.row:=by rw[u,sh ap];exact c_
 have L:g[11]?=aa (.lp fD v [P.nat 47] kM kQ .busy ab 10):=by rw[u];exact By ap
 have W:g[10]?=aa (.dH ae):=by rw[k2 10 ap ap];exact d9
 have m:FQ a b d f g:=hq.bS λi hi=>k2 i ap ap;have l2:g.length=q+1:=by rw[u,agZ];exact l1
 rw[<-u];unfold Pr.row at j;rw[<-z]at j;have c0:aV g ab (.c (.ptr q 1 0))=aa (vi t.c.min):=by simp[aV,az,j]
 have c1:aV g ab (.c (.ptr q 4 0))=aa (vi t.k):=by simp[aV,az,j]
 have c2:aV g ab (.c (.ptr q 3 0))=aa (vi t.d.min):=by simp[aV,az,j]
 have c3:aV g ab (.c (.ptr q 7 0))=aa (vi l):=by simp[aV,az,j]
 have c4:aV g (aa 1) (.c (.ptr q 5 0))=aa (.a [.f (sl t.gx (aI t.xs))]):=by simp[aV,az,j,aX]
 have c5:aV g (aa 1) (.c (.ptr q 6 0))=aa (.a [.f (sl t.gy (aI t.ys))]):=by simp[aV,az,j,aX]
 have c6:aV g (aa 2) (.c (.ptr q 0 0))=aa (.a [.f (sl t.c.mg (aI t.c.ts)),Z t.c.min]):=by simp[aV,az,j,aX]
 have c7:aV g (aa 2) (.c (.ptr q 2 0))=aa (.a [.f (sl t.d.mg (aI t.d.ts)),Z t.d.min]):=by simp[aV,az,j,aX]
 have a1:aV g ab (.c (.ptr 0 1 0))=aa (vi a.len):=by simp[aV,az,m.h0,lK]
 have a3:aV g (aa 3) (.c (.ptr 0 0 0))=aa (.a [.f (sl a.cg (aK a.cs)),Z a.len,.f (sl a.xg (ay a.xs))]):=by simp[aV,az,m.h0,lK,aX]
 have b1:aV g ab (.c (.ptr 1 1 0))=aa (vi b.len):=by simp[aV,az,m.h1,lK]
 have b3:aV g (aa 3) (.c (.ptr 1 0 0))=aa (.a [.f (sl b.cg (aK b.cs)),Z b.len,.f (sl b.xg (ay b.xs))]):=by simp[aV,az,m.h1,lK,aX]
 have f2:aV g ab (.c (.ptr 2 0 0))=aa (vi d):=by simp[aV,az,m.tk.h2]
 have f9:aV g ab (.c (.ptr 9 0 0))=aa (.c qS):=by simp[aV,az,m.h9]
 have fl:=qv (d-B) ap ap;have I:=zT (sl a.cg (aK a.cs)) (sl a.xg (ay a.xs)) (sl t.c.mg (aI t.c.ts)) a.len t.c.min (e+l) ap ap ap ap;have K:=zT (sl b.cg (aK b.cs)) (sl b.xg (ay b.xs)) (sl t.d.mg (aI t.d.ts)) b.len t.d.min (e+l+t.k) ap ap ap ap;rw[decide_eq_true (show e+l<=(2251799813685248-t.c.min-a.len) / 1440 by omega)]at I;rw[decide_eq_true (show e+l+t.k<=(2251799813685248-t.d.min-b.len) / 1440 by omega)]at K;have a_:=ue (sl a.cg (aK a.cs)) (sl a.xg (ay a.xs)) (sl t.c.mg (aI t.c.ts)) a.len t.c.min (e+l) kw kw kw;have b_:=ue (sl b.cg (aK b.cs)) (sl b.xg (ay b.xs)) (sl t.d.mg (aI t.d.ts)) b.len t.d.min (e+l+t.k) kw kw kw;have hX:bU a.len t.c.min (e+l)=iO a t e:=by unfold iO;rw[<-z]
 have hY:bU b.len t.d.min (e+l+t.k)=iP b t e:=by unfold iP;rw[<-z]
 rw[hX]at a_;rw[hY]at b_;apply ax;refine aE (aF (.inr rfl) ?_);simp[F.g3,F.g4,c0,c1,c2,a1,b1,-aw,a8 (n:=t.c.min+a.len),a8 (n:=t.k*1440),a8 (n:=t.k*1440+t.d.min),a8 (n:=t.k*1440+t.d.min+b.len),Y];refine aE (aF (.inr rfl) ?_);simp[F.g5,f2,c3,-aw,a8 (n:=d-B),fl,a8 (n:=(d-B) / 1440+1),a8 (n:=(d-B) / 1440+1-l),i6];refine aE (aF (.inr rfl) ?_);simp[c4,c5,-aw,A];apply aE;cases s with
 |false=>
  refine aF (.inr rfl) ?_;simp;refine bG bv ?_;refine au (cN (X _ _ _ _ _ _ _ _ _ _ rfl L ⟨rfl,?_,?_,By (aj L),by show J.length<=(g.set 11 _).length;rw[agZ];omega,λi h1 h2=>?_⟩))
  .exact m.bS λi hi=>by rw[sh ap]
  .rw[sh ap];exact W
  .rw[sh ap,k2 i h2 ap]
 |true=>
  obtain⟨J3,e_,i9,k_,O⟩:=vl m (iO a t e) (iP b t e);refine aF (.inr rfl) ?_;simp[F.g3,F.g4,a3,b3,c1,c3,c6,c7,-aw,a8 (n:=e+l),a8 (n:=e+l+t.k),I,K];refine aq bv ?_;refine aF (.inr rfl) ?_;simp[F.g3,F.g4,F.g13,f9,a3,b3,c1,c3,c6,c7,-aw,a8 (n:=e+l),a8 (n:=e+l+t.k),a_,b_,qS,e_.eq];have c9:J3[11]?=aa (.lp fD v [P.nat 47] kM kQ .busy ab 10):=by rw[O 11 ap ap];exact L
  have j5:J3[10]?=aa (.dH ae):=by rw[O 10 ap ap];exact W
  refine au (cN (X _ _ _ _ _ _ _ _ _ _ rfl c9 ⟨rfl,?_,?_,By (aj c9),by show J.length<=(J3.set 11 _).length;rw[agZ];omega,λi h1 h2=>?_⟩))
  .exact i9.bS λi hi=>by rw[sh ap]
  .rw[sh ap];exact j5
  .rw[sh ap,O i ap ap,k2 i h2 ap]
def LM(x y:aA):Kf tab Pm [.a (y.row.map .f),G (.fp x.row 0)] (vb (mH x.fr x.to y.fr y.to)):=by
 refine dd rfl rfl λH Q d=>?_;have b:∀H:an,aV H (aa 2) (G (.fp x.row 1))=aa (.a [Z x.fr,Z x.to]):=λH=>by simp[aV,az,aX,aA.row]
 have g:=Jq x.fr x.to y.fr y.to;apply ai;simp[aA.row];apply ai;simp only[aA.row]at b;simp[b,g];refine av (d _ _ ?_);simp
def MA(g:Tg)(l:List aA)(d:l.length<=1000)(x:aA):bf tab PB [G (sl g (ay l)),G (.fn Pm [.fp x.row 0])]=Eq (vb (l.any λy=>mH x.fr x.to y.fr y.to)):=
 (eR YE (iF YO l aA.row (λr=>.a (r.row.map .f)) (λy=>mH x.fr x.to y.fr y.to) g Pm [.fp x.row 0] ap
  (λj b H=>cf (bI l) (dn b)) (λy _=>LM x y))).eq
def nQ(a b:aG)(x:aA):Prop:=(∃y,nb b x y)\/∃y∈b.xs,mH x.fr x.to y.fr y.to=ae
structure AQ(a b:aG)(bs:List Nat)(v:Bool)(J:an):Prop where
 h0:J[0]?=E (lK a)
 h1:J[1]?=E (lK b)
 h2:J[2]?=E [.f (.bool v)]
 cl:eQ bs J
def AQ.bS{J':an}(v:AQ a o k h J)(d:∀i:Nat,i<J.length->J'[i]?=J[i]?):AQ a o k h J':=
 ⟨by rw[d 0 (aj v.h0)];exact v.h0,by rw[d 1 (aj v.h1)];exact v.h1,by rw[d 2 (aj v.h2)];exact v.h2,⟨v.cl.nd,λi hi=>by rw[d i (aj (v.cl.on i hi))];exact v.cl.on i hi⟩⟩
theorem AQ.set{a b:aG}{bs:List Nat}{v:Bool}{J:an}(h:AQ a b bs v J){i:Nat}{y:bV}(hi:J[i]?=aa y)(h3:3<=i)(hy:y≠.dH ae)(z:bV):AQ a b bs v (J.set i z):=
 ⟨by rw[sh ap];exact h.h0,by rw[sh ap];exact h.h1,by rw[sh ap];exact h.h2,h.cl.set hi hy⟩
theorem D7(a b:aG)(ha:lP a)(M:lP b)(i8:∀x∈a.xs,-1000000000000<=x.fr/\x.to<=1000000000000/\x.fr<x.to) :
  ∃r:Bool,(r=ae↔∃x∈a.xs,nQ a b x)/\bf tab nh [.a (a.row.map .f),.a (b.row.map .f)]=Eq (vb r):=by
 have key:∃v,(∃r:Bool,(r=ae↔∃x∈a.xs,nQ a b x)/\v=vb r)/\bf tab nh [.a (a.row.map .f),.a (b.row.map .f)] v:=by
  refine oy acx rfl λQ hQ=>?_;have k_:=ha.ok.xn;have l_:=M.ok.xn;have rR:∀H:an,bA H (.f (sl a.xg (ay a.xs)))=aa a.xs.length:=λH=>by simp
  have la:∀(bs:List Nat) (v:Bool) (J:an),AQ a b bs v J->aV J ab (.c (.ptr 0 2 0))=aa (G (sl a.xg (ay a.xs))):=λbs v J h=>by simp[aV,az,h.h0,lK,aX]
  have lb:∀(bs:List Nat) (v:Bool) (J:an),AQ a b bs v J->aV J (aa 3) (.c (.ptr 1 0 0))=aa (.a (lK b))/\aV J ab (.c (.ptr 1 2 0))=aa (G (sl b.xg (ay b.xs))):=λbs v J h=>by refine⟨?_,?_⟩<;>simp[aV,az,h.h1,lK,aX]
  have O:∀(t:T) (J:an) (bs:List Nat) (v:Bool),t.g 4=.c (.ptr 2 0 0)->(v=ae↔∃x∈a.xs,nQ a b x)->AQ a b bs v J->∀j,Q j ⟨t,bs.map .dR,J⟩:=by
   intro t J bs v q hv h j;refine hQ _ _ _ ⟨v,hv,rfl⟩ ⟨bs,rfl,h.cl,vb v,?_,by simp[jd,dq]⟩;have d2:=(iv (h.cl.not h.h2 bv)).trans h.h2;simp[Km.results,cB,bC,q,d2]
  have c9:∀{bs:List Nat} {v:Bool} {J:an} (w:Bool),AQ a b bs v J->dj J (.ptr 2 0 0) [.f (.bool w)]=aa (J.set 2 (.box [.f (.bool w)] 0))/\AQ a b bs w (J.set 2 (.box [.f (.bool w)] 0)):=λw h=>by
   refine⟨by simp[dj,h.h2,over],⟨by rw[sh ap];exact h.h0,by rw[sh ap];exact h.h1,By (aj h.h2),h.cl.set h.h2 bv⟩⟩
  apply ai;simp[aG.row];obtain⟨J0,U⟩:=aH ([.box (lK a) 0,.box (lK b) 0,.box [.f (.bool ag)] 0]:an);have g_:AQ a b [] ag J0:=by rw[U];exact⟨rfl,rfl,rfl,⟨bv,bv⟩⟩
  unfold lK at U;rw[<-U];apply aU;simp[la _ _ _ g_,rR,-aw];apply ax;refine di (λn st=>∃(j:Nat) (t:T) (bs:List Nat) (H:an),st=⟨t,bs.map .dR,H⟩/\n=a.xs.length-j/\j<=a.xs.length/\t.g 2=.c (.ptr 0 0 0)/\t.g 3=.c (.ptr 1 0 0)/\t.g 4=.c (.ptr 2 0 0)/\t.g 8=G (sl a.xg (ay a.xs))/\t.g 9=vi a.xs.length/\t.g 10=vi j/\
   AQ a b bs ag H/\∀x∈a.xs.take j,¬ nQ a b x) a.xs.length
   ⟨0,_,[],J0,rfl,ap,ap,bv,bv,bv,bv,bv,bv,g_,λx hx=>by simp at hx⟩ ?_
  rintro n st ⟨j,t,bs,H,rfl,rfl,hj,g2,g3,q,g8,g9,d,hq,f_⟩ ih;by_cases A:j<a.xs.length
  .obtain⟨x,hx⟩:=aH (a.xs[j]);have b_:x∈a.xs:=hx▸IN A;obtain⟨x0,x1,x2⟩:=i8 x b_;have B:=λH:an=>cf (H:=H) (bI a.xs) (dn (l:=a.xs) (j:=j) A);have N:=λH:an=>bu (H:=H) (g:=a.xg) (rows:=ay a.xs) (sz:=3) (k:=.i64) (i:=j) ap (by simpa using A);rw[<-hx]at B;simp[aA.row]at B N;have j7:a.xs.take (j+1)=a.xs.take j++[x]:=by rw[agV,BY A,hx];rfl
   have a_:=sP b x;simp only[aG.row,aA.row,IT,agN]at a_;apply ai;simp[g9,d];refine aE (aq (by simp[A]) (aQ ?_));apply aE;apply ax;obtain⟨bx,X⟩:=aH (H.length);apply ai;simp[g8,d,N,B];rw[<-X];obtain⟨m,I⟩:=aH (H++[bV.box [Z x.day,Z x.fr,Z x.to] 0]);rw[<-I];have kx:m[bx]?=E [Z x.day,Z x.fr,Z x.to]:=by rw[I,X];simp
   have kq:AQ a b bs ag m:=hq.bS λi hi=>by rw[I,AI hi]
   have kn:m.length=bx+1:=by rw[I,X];simp
   have j8:3<=bx:=by have:=aj hq.h2;omega
   have lx:∀J:an,J[bx]?=E [Z x.day,Z x.fr,Z x.to]->aV J (aa 3) (.c (.ptr bx 0 0))=aa (.a [Z x.day,Z x.fr,Z x.to]):=λJ h=>by simp[aV,az,h,aX]
   have h_:=(lb _ _ _ kq).1;simp only[lK]at h_;apply aU;simp[g3,h_,lx m kx,-aw,a_];apply ax;have range:∀(u:T),u.g 2=.c (.ptr 0 0 0)->u.g 3=.c (.ptr 1 0 0)->u.g 4=.c (.ptr 2 0 0)->u.g 6=.c (.ptr bx 0 0)->u.g 8=G (sl a.xg (ay a.xs))->u.g 9=vi a.xs.length->u.g 10=vi j->
     u.g 16=G (.fn nj [.fp b.row 0,.fp x.row 0])->
     WP tab nh ab [.code OI,.inBlock 2,.code OJ,.inBlock 1,.code OL,.inLoop Td,.inBlock 0,.code DI] ⟨u,bs.map .dR,m⟩ Q:=by
    intro u g2 g3 q g6 g8 g9 d i6;obtain⟨L,W⟩:∃L:dB->Option aD->bV,L=λst pd=>.lp nh u [P.nat 17] .skip iT st pd (bx+1):=⟨_,rfl⟩
    obtain⟨F,S⟩:=aH (m++[.dH ae,L .ready ab]);have q4:F[bx+1]?=aa (.dH ae):=by rw[S,agL ap,kn];simp
    have q5:F[bx+1+1]?=aa (L .ready ab):=by rw[S,agL ap,kn];simp
    have qk:∀i:Nat,i<m.length->F[i]?=m[i]?:=λi hi=>by rw[S,AI hi]
    have j5:bx+1 ∉ bs:=λM=>by have:=aj (kq.cl.on _ M);omega
    have qq:=kq.bS qk;have d9:AQ a b ((bx+1)::bs) ag F:=⟨qq.h0,qq.h1,qq.h2,⟨aiX.2 ⟨j5,qq.cl.nd⟩,λb M=>by
     rcases ag8.1 M with rfl|M
     .omega
     .exact qq.cl.on b M⟩⟩
    have qx:F[bx]?=E [Z x.day,Z x.fr,Z x.to]:=by rw[qk bx ap];exact kx
    obtain⟨H2,he,Y⟩:=zK (bb:=bx+1+1) (H:=F) b M x x0 x1 x2 (λps J=>ps=[]/\F.length<=J.length/\∀i:Nat,i<F.length->J[i]?=F[i]?)
     (λ_ J=>AQ a b ((bx+1)::bs) ae J/\J[bx+1+1]?=aa (L .done (aa .ret))) ⟨rfl,agQ _,λ_ _=>rfl⟩
     (λps J J' ⟨h1,h2,h3⟩ hk hl=>⟨h1,ap,λi hi=>by rw[hk i hi];exact h3 i hi⟩)
     (λps y J ⟨h1,h2,h3⟩ hl a_=>by
      have K:J[bx+1+1]?=aa (L .ready ab):=by rw[h3 _ (aj q5)];exact q5
      have pq:=d9.bS h3;refine⟨ag,?_⟩;rw[W]at K;obtain⟨r,J',j_,rfl,hr⟩:∃r J',Ev tab (.yield (bx+1+1)) [.a (y.row.map .f)] J r J'/\(r=vb ag/\AQ a b ((bx+1)::bs) ae J'/\J'[bx+1+1]?=aa (L .done (aa .ret))):=by
       refine dm (tab:=tab) (b:=bx+1+1) (args:=[.a (y.row.map .f)]) (H:=J) K rfl λQ' i7=>?_;apply aQ;refine eM K ?_;have b5:(J.set (bx+1+1) (.lp nh u [P.nat 17] .skip iT .busy ab (bx+1)))[bx+1+1]?=aa (.lp nh u [P.nat 17] .skip iT .busy ab (bx+1)):=By (aj K);have bq:=pq.set K ap bv (.lp nh u [P.nat 17] .skip iT .busy ab (bx+1));generalize J.set (bx+1+1) (.lp nh u [P.nat 17] .skip iT .busy ab (bx+1))=HB at b5 bq ⊢;obtain⟨s1,s2⟩:=c9 ae bq;have s5:(HB.set 2 (.box [.f (.bool ae)] 0))[bx+1+1]?=aa (.lp nh u [P.nat 17] .skip iT .busy ab (bx+1)):=by rw[sh ap];exact b5
       apply ax;refine aE (aF (.inr rfl) ?_);simp[q,s1,-bF];refine av (i7 _ _ _ _ _ _ _ _ _ _ rfl s5 ⟨rfl,s2.set s5 ap bv _,?_⟩)
       grind
      grind)
    have i9:Ev tab (.fn nj) [.c (.yl (m.length+1)),G (.fp b.row 0),G (.fp x.row 0)] (m++[.dH ae,.lp nh u [P.nat 17] .skip iT .ready ab m.length]) (.t []) H2:=by
     grind
    refine dC (g:=nj) (by rw[mF,i6];simp[cr]) i9 ?_;rw[kn];rcases Y with⟨ys,⟨rfl,j9,c_⟩,m9⟩|⟨y,j6,c1,c5⟩
    .have K:H2[bx+1+1]?=aa (L .ready ab):=by rw[c_ _ (aj q5)];exact q5
     have pq:=d9.bS c_;rw[W]at K;refine dX K ce ?_;have eq:=pq.set K ap bv (.lp nh u [P.nat 17] .skip iT .exhausted ab (bx+1));have ex:(H2.set (bx+1+1) (.lp nh u [P.nat 17] .skip iT .exhausted ab (bx+1)))[bx]?=E [Z x.day,Z x.fr,Z x.to]:=by
      grind
     generalize H2.set (bx+1+1) (.lp nh u [P.nat 17] .skip iT .exhausted ab (bx+1))=H3 at eq ex ⊢;have s:=MA b.xg b.xs ap x;simp only[aA.row]at s;obtain⟨cb,d_⟩:=aH (b.xs.any λy=>mH x.fr x.to y.fr y.to);rw[<-d_]at s;have e_:cb=ae↔∃y∈b.xs,mH x.fr x.to y.fr y.to=ae:=by rw[d_,aie]
     apply au;apply ai;simp[g3,g6,(lb _ _ _ eq).2,ex,deep,BI,wh,s,-aw];have e3:=eq.set ex ap bv (.box [Z x.day,Z x.fr,Z x.to] 3);generalize H3.set bx (.box [Z x.day,Z x.fr,Z x.to] 3)=H4 at e3 ⊢;cases cb with
     |true=>
      refine aq bv ?_;obtain⟨s1,s2⟩:=c9 ae e3;apply ai;simp[q,s1,-bF];exact av (O _ _ _ ae (by simp[q]) ⟨λ_=>⟨x,b_,.inr (e_.1 rfl)⟩,λ_=>rfl⟩ s2 _)
     |false=>
      refine aC bv (aQ (au (aF (.inl rfl) ?_)));simp[d,a8 (n:=(j:Int)+1)];refine ih (a.xs.length-(j+1)) _ ap ⟨j+1,_,(bx+1)::bs,_,rfl,ap,ap,by simp[g2],by simp[g3],by simp[q],by simp[g8],by simp[g9],bv,e3,λz hz=>?_⟩;rw[j7]at hz;rcases agP.1 hz with hz|hz
      .grind
      .rw[If.1 hz];rintro(⟨y,hy⟩|h)
       .grind
       .grind
    .rw[W]at c5;refine jJ c5 ce ?_;exact av (O _ _ _ ae q ⟨λ_=>⟨x,b_,.inl ⟨y,j6⟩⟩,λ_=>rfl⟩ (c1.set c5 ap bv _) _)
   exact range _ (by simp[g2]) (by simp[g3]) (by simp[q]) bv (by simp[g8]) (by simp[g9]) (by simp[d]) (by simp[aG.row,aA.row])
  .have i_:j=a.xs.length:=ii
   subst i_;rw[agW]at f_;apply ai;simp[g9,d];refine aE (aC bv ?_);refine bQ (k':=[.code DI]) rfl ?_;obtain⟨s1,s2⟩:=c9 ag hq;apply ai;simp[q,s1,-bF];exact av (O _ _ _ ag (by simp[q]) ⟨λh=>(by cases h),λ⟨x,hx,h⟩=>absurd h (f_ x hx)⟩ s2 _)
 obtain⟨v,⟨r,hr,rfl⟩,h⟩:=key;exact⟨r,hr,h.eq⟩
def qU:∀{ts:List cU},(∀t∈ts,wK n m t.fs)->aI ts=aY (ts.map (·.fs)):=λ{ts} h=>by
 simp only[aI,aY,List.map_map];refine List.map_congr_left λt d=>?_;have b:=(h t d).1;simp only[cU.row,Function.comp_def];rw[iz b,iz b]
def RI(g g':Tg)(ss ts:List cU)(v:vI 12 ss)(b:vI 12 ts) :
  ∃us j,im 12 4 4 us/\(∀d,0<=d->(cS us d↔eZ ss d/\eZ ts d))/\bf tab I9 [.a [.f (sl g (aI ss))],.a [.f (sl g' (aI ts))]]=Eq (eO us j):=by
 have s:∀{l:List cU},vI 12 l->im 12 2 2 (l.map (·.fs)):=λ{l} h=>⟨by rw[agS];exact h.1,λu m=>by
  obtain⟨t,b,rfl⟩:=agX.1 m;exact h.2 t b⟩
 have q:∀(l:List cU) (d:Int),cS (l.map (·.fs)) d↔eZ l d:=λl d=>by
  constructor
  .rintro⟨u,m,h⟩;obtain⟨t,b,rfl⟩:=agX.1 m;exact⟨t,b,h⟩
  .rintro⟨t,b,h⟩;exact⟨t.fs,agX.2 ⟨t,b,rfl⟩,h⟩
 obtain⟨us,x,y,z,A⟩:=JX (m1:=2) (m2:=2) (n1:=2) (n2:=2) ce ce ce ce ce g g' _ _ (s v) (s b);rw[qU v.2,qU b.2];exact⟨us,x,y,λd B=>by rw[z d B,q,q],A⟩
def Xv(c d:cM)(k:Int):Prop:=∃x,0<=x/\x<=1000001000000/\eZ c.ts (x+max 0 (-k))/\eZ d.ts (x+max 0 k)
def Jr(d:sI a o t):(∃x,0<=x/\eZ t.xs x/\eZ t.ys x)↔Xv t.c t.d t.k:=by
 constructor
 .rintro⟨x,g,j,l⟩;obtain⟨e,f,q,m,-⟩:=we t.gx t.gy t.xs t.ys d.xo d.yo 0 ap ap;rcases q with⟨-,-,k⟩|⟨-,⟨v,s,u⟩,-⟩
  .exact absurd ⟨ap,j,l⟩ (k x)
  .exact⟨e,ap,m.2,(d.xm e ap).1 s,(d.ym e ap).1 u⟩
 .rintro⟨x,g,-,j,l⟩;exact⟨x,g,(d.xm x g).2 j,(d.ym x g).2 l⟩
def aew(a b:aG):Prop:=∃c∈a.cs,∃d∈b.cs,∃k,Bz a.len b.len c d<=k/\k<=Ak a.len b.len c d/\Xv c d k
def DX(a b:aG):Prop:=(∃x∈a.xs,nQ a b x)\/(∃y∈b.xs,nQ b a y)\/aew a b
structure DY(a b:aG)(bs:List Nat)(J:an):Prop where
 h0:J[0]?=E (lK a)
 h1:J[1]?=E (lK b)
 h2:∃v:Bool,J[2]?=E [.f (.bool v)]
 h3:∃n:Int,J[3]?=E [Z n]
 cl:eQ bs J
def DY.bS{J':an}(h:DY a o k J)(d:∀i:Nat,i<J.length->J'[i]?=J[i]?):DY a o k J':=by
 obtain⟨v,h2⟩:=h.h2;obtain⟨n,h3⟩:=h.h3;exact⟨by rw[d 0 (aj h.h0)];exact h.h0,by rw[d 1 (aj h.h1)];exact h.h1,⟨v,by rw[d 2 (aj h2)];exact h2⟩,⟨n,by rw[d 3 (aj h3)];exact h3⟩,⟨h.cl.nd,λi hi=>by rw[d i (aj (h.cl.on i hi))];exact h.cl.on i hi⟩⟩
theorem DY.set{a b:aG}{bs:List Nat}{J:an}(h:DY a b bs J){i:Nat}{y:bV}(hi:J[i]?=aa y)(h3:4<=i)(hy:y≠.dH ae)(z:bV):DY a b bs (J.set i z):=by
 obtain⟨v,d⟩:=h.h2;obtain⟨n,g⟩:=h.h3;exact⟨by rw[sh ap];exact h.h0,by rw[sh ap];exact h.h1,⟨v,by rw[sh ap];exact d⟩,⟨n,by rw[sh ap];exact g⟩,h.cl.set hi hy⟩
def DY.tell(h:DY a o k J)(v:Bool)(n:Int) :
  dj J (.ptr 2 0 0) [.f (.bool v)]=aa (J.set 2 (.box [.f (.bool v)] 0))/\dj (J.set 2 (.box [.f (.bool v)] 0)) (.ptr 3 0 0) [Z n]=aa ((J.set 2 (.box [.f (.bool v)] 0)).set 3 (.box [Z n] 0))/\
   eQ k ((J.set 2 (.box [.f (.bool v)] 0)).set 3 (.box [Z n] 0))/\((J.set 2 (.box [.f (.bool v)] 0)).set 3 (.box [Z n] 0))[2]?=E [.f (.bool v)]/\((J.set 2 (.box [.f (.bool v)] 0)).set 3 (.box [Z n] 0))[3]?=E [Z n]:=by
 obtain⟨w,g⟩:=h.h2;obtain⟨m,j⟩:=h.h3;have d:(J.set 2 (.box [.f (.bool v)] 0))[3]?=E [Z m]:=by rw[sh ap];exact j
 refine⟨by simp[dj,g,over],by simp[dj,d,over],(h.cl.set g bv).set d bv,?_,By (aj d)⟩;rw[sh ap];exact By (aj g)
def QY(a b:aG)(ha:lP a)(Y:lP b):∃r:Bool,(r=ae↔DX a b)/\bf tab jw [.a (a.row.map .f),.a (b.row.map .f)]=Eq (.t [vb r,vi 0]):=by
 have key:∃v,(∃r:Bool,(r=ae↔DX a b)/\v=.t [vb r,vi 0])/\bf tab jw [.a (a.row.map .f),.a (b.row.map .f)] v:=by
  refine oy aeY rfl λQ hQ=>?_;have k_:=(oD a ha.ok.sm).eq;rw[ha.ok.v]at k_;simp[aG.row]at k_;have l_:=(oD b Y.ok.sm).eq;rw[Y.ok.v]at l_;simp[aG.row]at l_;obtain⟨u_,m9,c_⟩:=D7 a b ha Y λx hx=>by have:=ha.ex x hx;omega
  obtain⟨v_,n8,i8⟩:=D7 b a Y ha λx hx=>by have:=Y.ex x hx;omega
  simp only[aG.row,IT,agN]at c_ i8;have j_:=Bc a b;simp only[aG.row,IT,agN]at j_;have la:∀(bs:List Nat) (J:an),DY a b bs J->aV J (aa 3) (.c (.ptr 0 0 0))=aa (.a [.f (sl a.cg (aK a.cs)),Z a.len,.f (sl a.xg (ay a.xs))])/\aV J (aa 3) (.c (.ptr 1 0 0))=aa (.a [.f (sl b.cg (aK b.cs)),Z b.len,.f (sl b.xg (ay b.xs))]):=λbs J h=>by refine⟨?_,?_⟩<;>simp[aV,az,h.h0,h.h1,lK,aX]
  have i9:∀(t:T) (J:an) (bs:List Nat) (v:Bool),t.g 4=.c (.ptr 2 0 0)->t.g 5=.c (.ptr 3 0 0)->(v=ae↔DX a b)->eQ bs J->J[2]?=E [.f (.bool v)]->J[3]?=E [Z 0]->∀j,Q j ⟨t,bs.map .dR,J⟩:=by
   intro t J bs v O S hv j5 N h3 j;refine hQ _ _ _ ⟨v,hv,rfl⟩ ⟨bs,rfl,j5,.t [vb v,vi 0],?_,by simp[jd,dq,bC]⟩;have d2:=(iv (j5.not N bv)).trans N;have d3:=(iv (j5.not h3 bv)).trans h3;simp[Km.results,cB,bC,O,S,d2,d3]
  apply ai;simp[aG.row];obtain⟨J0,d_⟩:=aH ([.box (lK a) 0,.box (lK b) 0,.box [.f (.bool ag)] 0,.box [Z 0] 0]:an);have l:DY a b [] J0:=by rw[d_];exact⟨rfl,rfl,⟨_,rfl⟩,⟨_,rfl⟩,⟨bv,bv⟩⟩
  have l0:J0.length=4:=by rw[d_];rfl
  unfold lK at d_;rw[<-d_];apply aU;simp[(la _ _ l).1,(la _ _ l).2,-aw,k_,l_];refine bG bv ?_;apply aU;have r9:∀(t:T) (J:an) (bs:List Nat),t.g 2=.c (.ptr 0 0 0)->t.g 3=.c (.ptr 1 0 0)->t.g 4=.c (.ptr 2 0 0)->t.g 5=.c (.ptr 3 0 0)->DY a b bs J->(∀x∈a.xs,¬ nQ a b x)->(∀y∈b.xs,¬ nQ b a y)->
    WP tab jw ab [.code I4] ⟨t,bs.map .dR,J⟩ Q:=by
   intro t J bs g2 g3 O S hq c9 j8;obtain⟨n3,k3⟩:=hq.h3;have w_:4<=J.length:=by have:=aj k3;omega
   obtain⟨bl,i_⟩:=aH (J.length);apply ai;simp;rw[<-i_];obtain⟨HA,d9⟩:=aH (J++[bV.box [.f (.bool ag)] 0]);rw[<-d9];have kq:DY a b bs HA:=hq.bS λi hi=>by rw[d9,AI hi]
   have kl:HA[bl]?=E [.f (.bool ag)]:=by rw[d9,i_];simp
   have kn:HA.length=bl+1:=by rw[d9,i_];simp
   apply aU;simp[g2,g3,(la _ _ kq).1,(la _ _ kq).2,-aw,j_];apply ax
   suffices go:∀u:T,u.g 4=.c (.ptr 2 0 0)->u.g 5=.c (.ptr 3 0 0)->u.g 9=.c (.ptr bl 0 0)->u.g 44=G (.fn ni [.fp a.row 0,.fp b.row 0])->
     WP tab jw ab [.code Tx,.inBlock 2,.code Ty] ⟨u,bs.map .dR,HA⟩ Q by exact go _ (by simp[O]) (by simp[S]) bv (by simp[aG.row])
   clear g2 g3 O S t;intro u O S g9 s_;obtain⟨X,B⟩:∃X:dB->Option aD->bV,X=λst pd=>.lp jw u [P.nat 45] jz jA st pd (bl+1):=⟨_,rfl⟩
   obtain⟨m,z⟩:=aH (HA++[.dH ae,X .ready ab]);have q4:m[bl+1]?=aa (.dH ae):=by rw[z,agL ap,kn];simp
   have q5:m[bl+1+1]?=aa (X .ready ab):=by rw[z,agL ap,kn];simp
   have qk:∀i:Nat,i<HA.length->m[i]?=HA[i]?:=λi hi=>by rw[z,AI hi]
   have q_:bl+1 ∉ bs:=λY=>by have:=aj (kq.cl.on _ Y);omega
   have qq:=kq.bS qk;have A:DY a b ((bl+1)::bs) m:=⟨qq.h0,qq.h1,qq.h2,qq.h3,⟨aiX.2 ⟨q_,qq.cl.nd⟩,λb Y=>by
    rcases ag8.1 Y with rfl|Y
    .exact q4
    .exact qq.cl.on b Y⟩⟩
   have ql:m[bl]?=E [.f (.bool ag)]:=by rw[qk bl ap];exact kl
   have t_:m.length=bl+3:=by rw[z,agM,kn];rfl
   obtain⟨H2,he,b_⟩:=sO (bb:=bl+1+1) (H:=m) a b ha Y (λps J=>m.length<=J.length/\(∀i:Nat,i<m.length->i≠bl->J[i]?=m[i]?)/\∃v:Bool,J[bl]?=E [.f (.bool v)]/\(v=ae↔∃p∈ps,Xv p.c p.d p.k))
    (λ_ _=>False) ⟨agQ _,λ_ _ _=>rfl,ag,ql,bv⟩
    (λps J J' ⟨h1,N,v,h3,h4⟩ hk hl=>⟨ap,λi hi U=>by rw[hk i hi];exact N i hi U,v,by rw[hk bl ap];exact h3,h4⟩)
    (λps p J ⟨h1,N,v,h3,h4⟩ hl W=>by
     have K:J[bl+1+1]?=aa (X .ready ab):=by rw[N _ (aj q5) ap];exact q5
     rw[B]at K;obtain⟨us,gu,r7,i7,m_⟩:=RI p.gx p.gy p.xs p.ys W.xo W.yo;obtain⟨em,n_,o_⟩:=BH gu (us:=us) ⟨by have:=r7.1;omega,r7.2⟩;have I:em=ag↔Xv p.c p.d p.k:=by
      rw[<-Jr W];constructor
      .intro he;apply Classical.byContradiction;intro hn;have:=n_.2 λd hd hA=>hn ⟨d,hd,(i7 d hd).1 hA⟩;rw[he]at this;cases this
      .rintro⟨x,h0,hx⟩;cases em with
       |false=>rfl| true=>exact absurd ((i7 x h0).2 hx) (n_.1 rfl x h0)
     refine⟨ae,?_⟩;obtain⟨r,J',j7,rfl,hr⟩:∃r J',Ev tab (.yield (bl+1+1)) [.a p.row] J r J'/\(r=vb ae/\(m.length<=J'.length/\(∀i:Nat,i<m.length->i≠bl->J'[i]?=m[i]?)/\J'[bl]?=E [.f (.bool (v||!em))])/\J.length<=J'.length/\∀i:Nat,m.length<=i->i<J.length->J'[i]?=J[i]?):=by
      refine dm (tab:=tab) (b:=bl+1+1) (args:=[.a p.row]) (H:=J) K rfl λQ' f_=>?_;obtain⟨bp,a_⟩:=aH (J.length);have j9:p.row.length=8:=rfl;refine aF (.inr rfl) ?_;simp[j9];rw[<-a_];obtain⟨J1,L⟩:=aH (J++[bV.box p.row 0]);rw[<-L];have k1:∀i:Nat,i<J.length->J1[i]?=J[i]?:=λi hi=>by rw[L,AI hi]
      have d1:J1[bp]?=E p.row:=by rw[L,a_];simp
      have n1:J1.length=bp+1:=by rw[L,a_];simp
      have e5:J1[bl+1+1]?=aa (.lp jw u [P.nat 45] jz jA .ready ab (bl+1)):=by rw[k1 _ (aj K)];exact K
      refine eM e5 ?_;obtain⟨F,s⟩:=aH (J1.set (bl+1+1) (.lp jw u [P.nat 45] jz jA .busy ab (bl+1)));rw[<-s];have k2:∀i:Nat,i<J.length->i≠bl+1+1->F[i]?=J[i]?:=λi hi U=>by rw[s,sh (Ne.symm U),k1 i hi]
      have d2:F[bp]?=E p.row:=by rw[s,sh (by have:=aj K;omega)];exact d1
      have f5:F[bl+1+1]?=aa (.lp jw u [P.nat 45] jz jA .busy ab (bl+1)):=by rw[s];exact By (aj e5)
      have n2:F.length=bp+1:=by rw[s,agZ];exact n1
      have v2:F[bl]?=E [.f (.bool v)]:=by rw[k2 bl ap ap];exact h3
      unfold Pr.row at d2;have c5:aV F (aa 1) (.c (.ptr bp 5 0))=aa (.a [.f (sl p.gx (aI p.xs))]):=by simp[aV,az,d2,aX]
      have c6:aV F (aa 1) (.c (.ptr bp 6 0))=aa (.a [.f (sl p.gy (aI p.ys))]):=by simp[aV,az,d2,aX]
      obtain⟨bm,n9⟩:=aH (F.length);apply ax;refine aE (aF (.inr rfl) ?_);simp[c5,c6,-aw,m_,eO];rw[<-n9];obtain⟨J3,e_⟩:=aH (F++[bV.box [.f (sl gu (aY us))] 0]);rw[<-e_];have k3:∀i:Nat,i<F.length->J3[i]?=F[i]?:=λi hi=>by rw[e_,AI hi]
      have m3:J3[bm]?=E [.f (sl gu (aY us))]:=by rw[e_,n9];simp
      have v3:J3[bl]?=E [.f (.bool v)]:=by rw[k3 bl ap];exact v2
      have t8:J3[bl+1+1]?=aa (.lp jw u [P.nat 45] jz jA .busy ab (bl+1)):=by rw[k3 _ (aj f5)];exact f5
      have lv:aV J3 ab (.c (.ptr bl 0 0))=aa (vb v):=by simp[aV,az,v3]
      have lm:aV J3 (aa 1) (.c (.ptr bm 0 0))=aa (.a [.f (sl gu (aY us))]):=by simp[aV,az,m3,aX]
      have sv:∀w:Bool,dj J3 (.ptr bl 0 0) [.f (.bool w)]=aa (J3.set bl (.box [.f (.bool w)] 0)):=λw=>by simp[dj,v3,over]
      apply aE;refine aE (aF (.inr rfl) ?_);simp;refine bG bv ?_;refine aF (.inr rfl) ?_;have h_:∀t':T,WP tab jw (aa (bl+1+1)) [.inBlock 3] ⟨t',[],J3.set bl (.box [.f (.bool (v||!em))] 0)⟩ Q':=λt'=>by
       have s5:(J3.set bl (.box [.f (.bool (v||!em))] 0))[bl+1+1]?=aa (.lp jw u [P.nat 45] jz jA .busy ab (bl+1)):=by rw[sh ap];exact t8
       have n3:J3.length=bp+2:=by rw[e_,agM,n2];rfl
       refine au (cN (f_ _ _ _ _ _ _ _ _ _ _ rfl s5 ⟨rfl,⟨?_,λi hi U=>?_,?_⟩,?_,λi h1 N=>?_⟩))
       .rw[agZ,agZ,n3];omega
       .by_cases e:i=bl+1+1
        .subst e;rw[By (aj s5)];rw[q5,B];rfl
        .rw[sh (Ne.symm e),sh (Ne.symm U),k3 i ap,k2 i ap e];exact N i hi U
       .rw[sh ap];exact By (aj v3)
       .rw[agZ,agZ,n3];omega
       .rw[sh ap,sh ap,k3 i ap,k2 i ap ap]
      cases v with
      |true=>
       simp[g9,lv,sv,-aw,-bF];exact h_ _
      |false=>
       simp[g9,lv,lm,sv,-aw,-bF,o_];exact h_ _
     refine⟨J',j7,?_⟩;simp only[if_true];refine⟨⟨hr.1.1,hr.1.2.1,_,hr.1.2.2,?_⟩,hr.2⟩;simp only[Bool.or_eq_true,Bool.not_eq_true',I,h4,agP,If];constructor
     .rintro(⟨q,hq,h⟩|h)
      .exact⟨q,.inl hq,h⟩
      .exact⟨p,.inr rfl,h⟩
     .rintro⟨q,hq|rfl,h⟩
      .exact .inl ⟨q,hq,h⟩
      .exact .inr h)
   have j6:Ev tab (.fn ni) [.c (.yl (HA.length+1)),G (.fp a.row 0),G (.fp b.row 0)] (HA++[.dH ae,.lp jw u [P.nat 45] jz jA .ready ab HA.length]) (.t []) H2:=by
    have e:HA++[.dH ae,.lp jw u [P.nat 45] jz jA .ready ab HA.length]=m:=by rw[z,B,kn]
    rw[e,kn];exact he
   refine dC (g:=ni) (by rw[mF,s_];simp[cr]) j6 ?_;rw[kn];rcases b_ with⟨ps,⟨p_,M,v,hv,p9⟩,r6,i6⟩|⟨_,_,h⟩
   case inr=>exact h.elim
   have K:H2[bl+1+1]?=aa (X .ready ab):=by rw[M _ (aj q5) ap];exact q5
   obtain⟨w2,z2⟩:=A.h2;obtain⟨w3,z3⟩:=A.h3;have u9:bl ∉ (bl+1)::bs:=λh=>by
    have:=A.cl.on _ h;rw[ql]at this;cases this
   have pq:DY a b ((bl+1)::bs) H2:=⟨by rw[M 0 ap ap];exact A.h0,by rw[M 1 ap ap];exact A.h1,⟨w2,by rw[M 2 ap ap];exact z2⟩,⟨w3,by rw[M 3 ap ap];exact z3⟩,
    ⟨A.cl.nd,λi hi=>by rw[M i (aj (A.cl.on i hi)) (λe=>u9 (e▸hi))];exact A.cl.on i hi⟩⟩
   rw[B]at K;refine dX K ce ?_;have eq:=pq.set K ap bv (.lp jw u [P.nat 45] jz jA .exhausted ab (bl+1));have ev:(H2.set (bl+1+1) (.lp jw u [P.nat 45] jz jA .exhausted ab (bl+1)))[bl]?=E [.f (.bool v)]:=by rw[sh ap];exact hv
   generalize H2.set (bl+1+1) (.lp jw u [P.nat 45] jz jA .exhausted ab (bl+1))=H3 at eq ev ⊢;obtain⟨s1,s2,s3,s4,s6⟩:=eq.tell v 0;have lv:aV H3 ab (.c (.ptr bl 0 0))=aa (vb v):=by simp[aV,az,ev]
   apply au;apply ai;simp[O,S,g9,lv,s1,s2,-aw,-bF];refine av (i9 _ _ _ v (by simp[O]) (by simp[S]) ?_ s3 s4 s6 _);rw[p9];constructor
   .rintro⟨p,W,h⟩;have:=r6 p W;exact .inr (.inr ⟨p.c,this.ca,p.d,this.db,p.k,this.lo,this.hi,h⟩)
   .rintro(⟨x,hx,h⟩|⟨y,hy,h⟩|⟨c,hc,d,hd,k,h1,N,h⟩)
    .exact absurd h (c9 x hx)
    .exact absurd h (j8 y hy)
    .obtain⟨p,W,rfl,rfl,rfl⟩:=i6 c hc d hd k h1 N;exact⟨p,W,h⟩
  have r_:∀(t:T) (J:an) (bs:List Nat),t.g 4=.c (.ptr 2 0 0)->t.g 5=.c (.ptr 3 0 0)->DY a b bs J->DX a b->WP tab jw ab [.code Tv,.code I3] ⟨t,bs.map .dR,J⟩ Q:=by
   intro t J bs O S hq hm;obtain⟨s1,s2,s3,s4,s6⟩:=hq.tell ae 0;apply ai;simp[O,S,s1,s2,-bF];exact av (i9 _ _ _ ae (by simp[O]) (by simp[S]) ⟨λ_=>hm,λ_=>rfl⟩ s3 s4 s6 _)
  have early:∀t:T,t.g 2=.c (.ptr 0 0 0)->t.g 3=.c (.ptr 1 0 0)->t.g 4=.c (.ptr 2 0 0)->t.g 5=.c (.ptr 3 0 0)->(∀x∈a.xs,¬ nQ a b x)->(∀y∈b.xs,¬ nQ b a y)->WP tab jw ab [.code I3] ⟨t,[],J0⟩ Q:=by
   intro t g2 g3 O S c9 j8;apply aU;simp[g2,g3,(la _ _ l).1,(la _ _ l).2,-aw,j_];apply ax
   suffices go:∀u:T,u.g 2=.c (.ptr 0 0 0)->u.g 3=.c (.ptr 1 0 0)->u.g 4=.c (.ptr 2 0 0)->u.g 5=.c (.ptr 3 0 0)->u.g 31=G (.fn ni [.fp a.row 0,.fp b.row 0])->
     WP tab jw ab [.code Tw,.inBlock 0,.code I4] ⟨u,([]:List Nat).map .dR,J0⟩ Q by exact go _ (by simp[g2]) (by simp[g3]) (by simp[O]) (by simp[S]) (by simp[aG.row])
   clear g2 g3 O S t;intro u g2 g3 O S s7;obtain⟨X,B⟩:∃X:dB->Option aD->bV,X=λst pd=>.lp jw u [P.nat 32] oJ oK st pd 4:=⟨_,rfl⟩
   obtain⟨m,z⟩:=aH (J0++[.dH ae,X .ready ab]);have q4:m[4]?=aa (.dH ae):=by rw[z,agL ap,l0];simp
   have q5:m[5]?=aa (X .ready ab):=by rw[z,agL ap,l0];simp
   have qq:=l.bS (J':=m) λi hi=>by rw[z,AI hi]
   have A:DY a b [4] m:=⟨qq.h0,qq.h1,qq.h2,qq.h3,⟨bv,λb Y=>by rw[If.1 Y];exact q4⟩⟩
   have t_:m.length=6:=by rw[z,agM,l0];rfl
   obtain⟨H2,he,b_⟩:=sO (bb:=5) (H:=m) a b ha Y (λps J=>m.length<=J.length/\(∀i:Nat,i<m.length->J[i]?=m[i]?)/\∀p∈ps,¬ Xv p.c p.d p.k)
    (λp J=>Xv p.c p.d p.k/\eQ [4] J/\J[2]?=E [.f (.bool ae)]/\J[3]?=E [Z 0]/\J[5]?=aa (X .done (aa .ret))) ⟨agQ _,λ_ _=>rfl,bv⟩
    (λps J J' ⟨h1,N,h3⟩ hk hl=>⟨ap,λi hi=>by rw[hk i hi];exact N i hi,h3⟩)
    (λps p J ⟨h1,N,h3⟩ hl W=>by
     have K:J[5]?=aa (X .ready ab):=by rw[N _ (aj q5)];exact q5
     have pq:=A.bS N;rw[B]at K;obtain⟨e,f,hm,-,g_⟩:=we p.gx p.gy p.xs p.ys W.xo W.yo 0 ap ap;have I:f=ae↔Xv p.c p.d p.k:=by
      rw[<-Jr W];rcases hm with⟨rfl,-,k⟩|⟨rfl,k,-⟩
      .exact⟨λh=>(by cases h),λ⟨x,h0,h1,N⟩=>absurd ⟨ap,h1,N⟩ (k x)⟩
      .exact⟨λ_=>⟨e,by have:=k.1;omega,k.2⟩,λ_=>rfl⟩
     refine⟨!f,?_⟩;obtain⟨r,J',j7,rfl,hr⟩:∃r J',Ev tab (.yield 5) [.a p.row] J r J'/\(r=vb (!f)/\(if f=ae then eQ [4] J'/\J'[2]?=E [.f (.bool ae)]/\J'[3]?=E [Z 0]/\J'[5]?=aa (X .done (aa .ret))else J.length<=J'.length/\∀i:Nat,i<J.length->J'[i]?=J[i]?)):=by
      refine dm (tab:=tab) (b:=5) (args:=[.a p.row]) (H:=J) K rfl λQ' f_=>?_;obtain⟨bp,a_⟩:=aH (J.length);have j9:p.row.length=8:=rfl;refine aF (.inr rfl) ?_;simp[j9];rw[<-a_];obtain⟨J1,L⟩:=aH (J++[bV.box p.row 0]);rw[<-L];have k1:∀i:Nat,i<J.length->J1[i]?=J[i]?:=λi hi=>by rw[L,AI hi]
      have d1:J1[bp]?=E p.row:=by rw[L,a_];simp
      have n1:J1.length=bp+1:=by rw[L,a_];simp
      have e5:J1[5]?=aa (.lp jw u [P.nat 32] oJ oK .ready ab 4):=by rw[k1 _ (aj K)];exact K
      refine eM e5 ?_;obtain⟨F,s⟩:=aH (J1.set 5 (.lp jw u [P.nat 32] oJ oK .busy ab 4));rw[<-s];have k2:∀i:Nat,i<J.length->i≠5->F[i]?=J[i]?:=λi hi U=>by rw[s,sh (Ne.symm U),k1 i hi]
      have d2:F[bp]?=E p.row:=by rw[s,sh (by have:=aj K;omega)];exact d1
      have f5:F[5]?=aa (.lp jw u [P.nat 32] oJ oK .busy ab 4):=by rw[s];exact By (aj e5)
      have n2:F.length=bp+1:=by rw[s,agZ];exact n1
      have q2:DY a b [4] F:=by rw[s];exact(pq.bS k1).set e5 ap bv _
      unfold Pr.row at d2;have c5:aV F (aa 1) (.c (.ptr bp 5 0))=aa (.a [.f (sl p.gx (aI p.xs))]):=by simp[aV,az,d2,aX]
      have c6:aV F (aa 1) (.c (.ptr bp 6 0))=aa (.a [.f (sl p.gy (aI p.ys))]):=by simp[aV,az,d2,aX]
      apply ax;refine aE (aF (.inr rfl) ?_);simp[c5,c6,-aw,g_];apply aE;refine aF (.inr rfl) ?_;simp;cases f with
      |true=>
       refine aq bv ?_;obtain⟨s1,s2,s3,s4,s6⟩:=q2.tell ae 0;have s5:((F.set 2 (.box [.f (.bool ae)] 0)).set 3 (.box [Z 0] 0))[5]?=aa (.lp jw u [P.nat 32] oJ oK .busy ab 4):=by rw[sh ap,sh ap];exact f5
       refine aE (aF (.inr rfl) ?_);simp[O,S,s1,s2,-bF];refine av (f_ _ _ _ _ _ _ _ _ _ _ rfl s5 ⟨rfl,?_⟩);rw[ct rfl];refine⟨s3.set s5 bv,?_,?_,?_⟩
       .rw[sh ap];exact s4
       .rw[sh ap];exact s6
       .rw[B];exact By (aj s5)
      |false=>
       refine aC bv (aQ (au (cN (f_ _ _ _ _ _ _ _ _ _ _ rfl f5 ⟨rfl,?_⟩))));rw[cC bv];refine⟨by rw[agZ,n2];omega,λi hi=>?_⟩;by_cases e:i=5
       .subst e;rw[By (aj f5),K];rfl
       .rw[sh (Ne.symm e),k2 i hi e]
     refine⟨J',j7,?_⟩;cases f with
     |true=>simpa using ⟨I.1 rfl,by simpa using hr⟩
     |false=>
      have hr:J.length<=J'.length/\∀i:Nat,i<J.length->J'[i]?=J[i]?:=by simpa using hr
      simp only[Bool.not_false,if_true];refine⟨⟨ap,λi hi=>by rw[hr.2 i ap];exact N i hi,λq hq=>?_⟩,hr.1,λi _ hi=>hr.2 i hi⟩;rcases agP.1 hq with h|h
      .exact h3 q h
      .rw[If.1 h];intro h;have:=I.2 h;cases this)
   have j6:Ev tab (.fn ni) [.c (.yl (J0.length+1)),G (.fp a.row 0),G (.fp b.row 0)] (J0++[.dH ae,.lp jw u [P.nat 32] oJ oK .ready ab J0.length]) (.t []) H2:=by
    have e:J0++[.dH ae,.lp jw u [P.nat 32] oJ oK .ready ab J0.length]=m:=by rw[z,B,l0]
    rw[e,l0];exact he
   refine dC (g:=ni) (by rw[mF,s7];simp[cr]) j6 ?_;rw[l0];rcases b_ with⟨ps,⟨p_,M,x6⟩,r6,i6⟩|⟨p,W,I,c1,c2,c3,c5⟩
   .have K:H2[5]?=aa (X .ready ab):=by rw[M _ (aj q5)];exact q5
    rw[B]at K;refine dX K ce (au ?_);exact r9 u _ [4] g2 g3 O S ((A.bS M).set K ap bv _) c9 j8
   .rw[B]at c5;refine jJ c5 ce ?_;refine av (i9 _ _ [4] ae O S ⟨λ_=>.inr (.inr ⟨p.c,W.ca,p.d,W.db,p.k,W.lo,W.hi,I⟩),λ_=>rfl⟩ (c1.set c5 bv) ?_ ?_ _)
    .rw[sh ap];exact c2
    .rw[sh ap];exact c3
  cases u_ with
  |true=>
   simp[(la _ _ l).1,(la _ _ l).2,-aw,c_];refine aq bv ?_;exact r_ _ J0 [] bv bv l (.inl (m9.1 rfl))
  |false=>
   have c9:∀x∈a.xs,¬ nQ a b x:=λx hx h=>by have:=m9.2 ⟨x,hx,h⟩;cases this
   cases v_ with
   |true=>
    simp[(la _ _ l).1,(la _ _ l).2,-aw,c_,i8];refine aq bv ?_;exact r_ _ J0 [] bv bv l (.inr (.inl (n8.1 rfl)))
   |false=>
    simp[(la _ _ l).1,(la _ _ l).2,-aw,c_,i8];refine bG bv ?_;exact early _ bv bv bv bv c9 λy hy h=>by have:=n8.2 ⟨y,hy,h⟩;cases this
 obtain⟨v,⟨r,hr,rfl⟩,h⟩:=key;exact⟨r,hr,h.eq⟩
def Av{b:aG}(t:FT v)(U:v.g 20=.c (.ptr m 0 0))(hq:FQ a b n f J)(h:J[m]?=E [Z y.day,Z y.fr,Z y.to])(hb:10<=m)(hB:m<B)(X:J[B]?=aa (.lp fD v [P.nat 138] lV lW .ready ab (B-1)))(x:aA) :
  ∃r J',Ev tab (.yield B) [.a (x.row.map .f)] J r J'/\(r=vb ae/\FQ a b n (gT n f y x) J'/\J'[B]?=aa (.lp fD v [P.nat 138] lV lW .ready ab (B-1))/\J.length<=J'.length/\∀i:Nat,9<=i->i<J.length->i≠B->J'[i]?=J[i]?):=by
 have lB:=aj X;refine dm (tab:=tab) (b:=B) (args:=[.a (x.row.map .f)]) (H:=J) X rfl λQ' W=>?_;obtain⟨g,l⟩:=aH (J.length);obtain⟨z,q⟩:=aH (J++[bV.box [Z x.day,Z x.fr,Z x.to] 0]);have O:z[g]?=E [Z x.day,Z x.fr,Z x.to]:=by rw[q,l];simp
 have k:∀i:Nat,i<J.length->z[i]?=J[i]?:=λi hi=>by rw[q,AI hi]
 have l1:z.length=g+1:=by rw[q,agM,l];rfl
 refine aF (.inr rfl) ?_;simp[aA.row];rw[<-q,<-l];have e:z[B]?=aa (.lp fD v [P.nat 138] lV lW .ready ab (B-1)):=by rw[k B lB];exact X
 refine eM e ?_;obtain⟨d,j⟩:=aH (z.set B (.lp fD v [P.nat 138] lV lW .busy ab (B-1)));have c:∀i:Nat,i<J.length->i≠B->d[i]?=J[i]?:=λi hi u=>by rw[j,sh (Ne.symm u),k i hi]
 have S:d[g]?=E [Z x.day,Z x.fr,Z x.to]:=by rw[j,sh ap];exact O
 have Q:d[m]?=E [Z y.day,Z y.fr,Z y.to]:=by rw[c m (aj h) ap];exact h
 have L:d[B]?=aa (.lp fD v [P.nat 138] lV lW .busy ab (B-1)):=by rw[j];exact By ap
 have I:FQ a b n f d:=hq.bS λi hi=>c i ap ap;have l2:d.length=g+1:=by rw[j,agZ];exact l1
 rw[<-j];have M:aV d (aa 3) (.c (.ptr m 0 0))=aa (.a [Z y.day,Z y.fr,Z y.to]):=by simp[aV,az,Q,aX]
 have N:aV d (aa 3) (.c (.ptr g 0 0))=aa (.a [Z x.day,Z x.fr,Z x.to]):=by simp[aV,az,S,aX]
 have o:aV d ab (.c (.ptr 9 0 0))=aa (.c qS):=by simp[aV,az,I.h9]
 obtain⟨s,A,Y,w,F⟩:=vl I y x;simp only[aA.row,IT,agN]at A;apply ax;refine aF (.inr rfl) ?_;simp[t.g13,U,o,M,N,-aw,qS,A.eq];have K:s[B]?=aa (.lp fD v [P.nat 138] lV lW .busy ab (B-1)):=by rw[F B ap ap];exact L
 refine au (cN (W _ _ _ _ _ _ _ _ _ _ rfl K ⟨rfl,?_,By (aj K),by show J.length<=(s.set B _).length;rw[agZ];omega,λi h1 p u=>?_⟩))
 .exact Y.bS λi hi=>by rw[sh ap]
 .rw[sh (Ne.symm u),F i ap ap,c i p u]
def Aw{b:aG}(t:FT v)(U:v.g 25=.c (.ptr m 0 0))(hq:FQ a b n f J)(h:J[m]?=E [Z y.day,Z y.fr,Z y.to])(hb:10<=m)(hB:m<B)(X:J[B]?=aa (.lp fD v [P.nat 166] lZ ma .ready ab (B-1)))(x:aA) :
  ∃r J',Ev tab (.yield B) [.a (x.row.map .f)] J r J'/\(r=vb ae/\FQ a b n (gT n f x y) J'/\J'[B]?=aa (.lp fD v [P.nat 166] lZ ma .ready ab (B-1))/\J.length<=J'.length/\∀i:Nat,9<=i->i<J.length->i≠B->J'[i]?=J[i]?):=by
 have lB:=aj X;refine dm (tab:=tab) (b:=B) (args:=[.a (x.row.map .f)]) (H:=J) X rfl λQ' W=>?_;obtain⟨g,l⟩:=aH (J.length);obtain⟨z,q⟩:=aH (J++[bV.box [Z x.day,Z x.fr,Z x.to] 0]);have O:z[g]?=E [Z x.day,Z x.fr,Z x.to]:=by rw[q,l];simp
 have k:∀i:Nat,i<J.length->z[i]?=J[i]?:=λi hi=>by rw[q,AI hi]
 have l1:z.length=g+1:=by rw[q,agM,l];rfl
 refine aF (.inr rfl) ?_;simp[aA.row];rw[<-q,<-l];have e:z[B]?=aa (.lp fD v [P.nat 166] lZ ma .ready ab (B-1)):=by rw[k B lB];exact X
 refine eM e ?_;obtain⟨d,j⟩:=aH (z.set B (.lp fD v [P.nat 166] lZ ma .busy ab (B-1)));have c:∀i:Nat,i<J.length->i≠B->d[i]?=J[i]?:=λi hi u=>by rw[j,sh (Ne.symm u),k i hi]
 have S:d[g]?=E [Z x.day,Z x.fr,Z x.to]:=by rw[j,sh ap];exact O
 have Q:d[m]?=E [Z y.day,Z y.fr,Z y.to]:=by rw[c m (aj h) ap];exact h
 have L:d[B]?=aa (.lp fD v [P.nat 166] lZ ma .busy ab (B-1)):=by rw[j];exact By ap
 have I:FQ a b n f d:=hq.bS λi hi=>c i ap ap;have l2:d.length=g+1:=by rw[j,agZ];exact l1
 rw[<-j];have M:aV d (aa 3) (.c (.ptr m 0 0))=aa (.a [Z y.day,Z y.fr,Z y.to]):=by simp[aV,az,Q,aX]
 have N:aV d (aa 3) (.c (.ptr g 0 0))=aa (.a [Z x.day,Z x.fr,Z x.to]):=by simp[aV,az,S,aX]
 have o:aV d ab (.c (.ptr 9 0 0))=aa (.c qS):=by simp[aV,az,I.h9]
 obtain⟨s,A,Y,w,F⟩:=vl I x y;simp only[aA.row,IT,agN]at A;apply ax;refine aF (.inr rfl) ?_;simp[t.g13,U,o,M,N,-aw,qS,A.eq];have K:s[B]?=aa (.lp fD v [P.nat 166] lZ ma .busy ab (B-1)):=by rw[F B ap ap];exact L
 refine au (cN (W _ _ _ _ _ _ _ _ _ _ rfl K ⟨rfl,?_,By (aj K),by show J.length<=(s.set B _).length;rw[agZ];omega,λi h1 p u=>?_⟩))
 .exact Y.bS λi hi=>by rw[sh ap]
 .rw[sh (Ne.symm u),F i ap ap,c i p u]
def FW(a b:aG)(d:Int)(S:aA->aA->Prop)(bs:List Nat)(J:an):Prop:=(∃s,FQ a b d s J/\na d S s)/\eQ bs J/\∀i∈bs,10<=i/\i<J.length
theorem FW.push{a b:aG}{fr:Int}{S:aA->aA->Prop}{bs:List Nat}{J:an}(h:FW a b fr S bs J)(K:an):FW a b fr S bs (J++K):=by
 obtain⟨⟨s,g,j⟩,hc,d⟩:=h;have l:=aj g.h9;exact⟨⟨s,g.bS λi hi=>by rw[AI ap],j⟩,hc.push K,λi hi=>⟨(d i hi).1,by rw[agM];have:=(d i hi).2;omega⟩⟩
def Z5(ha:lP a)(hb:lP o)(x0:-1000000000000<=y.fr)(x1:y.to<=1000000000000)(x2:y.fr<y.to){S:aA->aA->Prop}{bs:List Nat}(h:FW a o n S bs J)(hT:FT v)(p:v.g 20=.c (.ptr m 0 0))(X:v.g 137=G (.fn nj [.fp o.row 0,.fp y.row 0]))(hx:J[m]?=E [Z y.day,Z y.fr,Z y.to])(c:10<=m){Q:Option aD->St->Prop}
  (hk:∀(J':an) (M:List Nat),FW a o n (λz A=>S z A\/(z=y/\nb o y A)) M J'->J'[m]?=E [Z y.day,Z y.fr,Z y.to]->J.length<=J'.length->WP tab fD ab u ⟨v,M.map .dR,J'⟩ Q) :
  WP tab fD ab (.code IZ::.inBlock 4::u) ⟨v,bs.map .dR,J⟩ Q:=by
 obtain⟨⟨s0,b,a_⟩,e,j⟩:=h;obtain⟨N,Y⟩:=aH (J.length);have l9:=aj b.h9;have lx:=aj hx;obtain⟨K,l⟩:=aH (J++[.dH ae,.lp fD v [P.nat 138] lV lW .ready ab N]:an);have lR:K.length=N+2:=by rw[l,agM,Y];rfl
 have kR:∀i:Nat,i<J.length->K[i]?=J[i]?:=λi hi=>by rw[l,AI hi]
 have rd:K[N]?=aa (.dH ae):=by rw[l,Y];simp
 have rl:K[N+1]?=aa (.lp fD v [P.nat 138] lV lW .ready ab N):=by rw[l,Y,agL ap];simp
 obtain⟨H2,he,ys,⟨s,W,f,k,O,U,L,e4⟩,c9⟩:=B6 (bb:=N+1) (H:=K) o hb y x0 x1 x2
  (λys J'=>∃s,FQ a o n s J'/\na n (λz A=>S z A\/(z=y/\A∈ys)) s/\eQ bs J'/\J'[N]?=aa (.dH ae)/\J'[N+1]?=aa (.lp fD v [P.nat 138] lV lW .ready ab N)/\J'[m]?=E [Z y.day,Z y.fr,Z y.to]/\K.length<=J'.length)
  ⟨s0,b.bS λi hi=>kR i ap,a_.iff λz A _=>⟨λh=>h.elim id λh=>by simp at h,.inl⟩,⟨e.nd,λi hi=>by rw[kR i (j i hi).2];exact e.on i hi⟩,rd,rl,by rw[kR m lx];exact hx,agQ _⟩
  (λys J1 J2 ⟨s,W,f,k,O,U,L,e4⟩ d hl=>⟨s,W.bS λi hi=>d i ap,f,⟨k.nd,λi hi=>by rw[d i (by have:=(j i hi).2;omega)];exact k.on i hi⟩,by rw[d N ap];exact O,by rw[d (N+1) ap];exact U,by rw[d m ap];exact L,ap⟩)
  (λys x J1 ⟨s,W,f,k,O,U,L,e4⟩ hl _=>by
   obtain⟨r,J2,t,rfl,b_,w,I,q⟩:=Av hT p W L c (show m<N+1 by omega) U x;refine⟨J2,t,⟨gT n s y x,b_,(f.one y x).iff λz A _=>?_,⟨k.nd,λi hi=>?_⟩,?_,w,?_,ap⟩,I,λi h1 h2=>q i ap h2 ap⟩
   .rw[agP,If];constructor
    .rintro(h|⟨h,B|B⟩)
     .exact .inl (.inl h)
     .exact .inl (.inr ⟨h,B⟩)
     .exact .inr ⟨h,B⟩
    .rintro((h|⟨h,B⟩)|⟨h,B⟩)
     .exact .inl h
     .exact .inr ⟨h,.inl B⟩
     .exact .inr ⟨h,.inr B⟩
   .have:=j i hi;rw[q i ap ap ap];exact k.on i hi
   .rw[q N ap ap ap];exact O
   .rw[q m ap ap ap];exact L)
 rw[l,Y]at he;refine dC (g:=nj) (by rw[mF,X];simp[cr]) he ?_;rw[<-Y];refine dX U ce (au ?_);have F:(gY.dR N::bs.map .dR)=(N::bs).map .dR:=rfl;rw[F];refine hk _ (N::bs) ⟨⟨s,W.bS λi hi=>by rw[sh ap],f.iff λz A _=>by rw[c9]⟩,⟨aiX.2 ⟨λhi=>by have:=(j N hi).2;omega,k.nd⟩,λi hi=>?_⟩,λi hi=>?_⟩ (by rw[sh ap];exact L) (by rw[agZ];omega)
 .rcases ag8.1 hi with rfl|hi
  .rw[sh ap];exact O
  .have:=j i hi;rw[sh ap];exact k.on i hi
 .rw[agZ];rcases ag8.1 hi with rfl|hi
  .omega
  .have:=j i hi;omega
def Z6(ha:lP a)(hb:lP o)(x0:-1000000000000<=y.fr)(x1:y.to<=1000000000000)(x2:y.fr<y.to){S:aA->aA->Prop}{bs:List Nat}(h:FW a o n S bs J)(hT:FT v)(p:v.g 25=.c (.ptr m 0 0))(X:v.g 165=G (.fn nj [.fp a.row 0,.fp y.row 0]))(hx:J[m]?=E [Z y.day,Z y.fr,Z y.to])(c:10<=m){Q:Option aD->St->Prop}
  (hk:∀(J':an) (M:List Nat),FW a o n (λz A=>S z A\/(A=y/\nb a y z)) M J'->J'[m]?=E [Z y.day,Z y.fr,Z y.to]->J.length<=J'.length->WP tab fD ab u ⟨v,M.map .dR,J'⟩ Q) :
  WP tab fD ab (.code I1::.inBlock 10::u) ⟨v,bs.map .dR,J⟩ Q:=by
 obtain⟨⟨s0,b,a_⟩,e,j⟩:=h;obtain⟨N,Y⟩:=aH (J.length);have l9:=aj b.h9;have lx:=aj hx;obtain⟨K,l⟩:=aH (J++[.dH ae,.lp fD v [P.nat 166] lZ ma .ready ab N]:an);have lR:K.length=N+2:=by rw[l,agM,Y];rfl
 have kR:∀i:Nat,i<J.length->K[i]?=J[i]?:=λi hi=>by rw[l,AI hi]
 have rd:K[N]?=aa (.dH ae):=by rw[l,Y];simp
 have rl:K[N+1]?=aa (.lp fD v [P.nat 166] lZ ma .ready ab N):=by rw[l,Y,agL ap];simp
 obtain⟨H2,he,ys,⟨s,W,f,k,O,U,L,e4⟩,c9⟩:=B6 (bb:=N+1) (H:=K) a ha y x0 x1 x2
  (λys J'=>∃s,FQ a o n s J'/\na n (λz A=>S z A\/(A=y/\z∈ys)) s/\eQ bs J'/\J'[N]?=aa (.dH ae)/\J'[N+1]?=aa (.lp fD v [P.nat 166] lZ ma .ready ab N)/\J'[m]?=E [Z y.day,Z y.fr,Z y.to]/\K.length<=J'.length)
  ⟨s0,b.bS λi hi=>kR i ap,a_.iff λz A _=>⟨λh=>h.elim id λh=>by simp at h,.inl⟩,⟨e.nd,λi hi=>by rw[kR i (j i hi).2];exact e.on i hi⟩,rd,rl,by rw[kR m lx];exact hx,agQ _⟩
  (λys J1 J2 ⟨s,W,f,k,O,U,L,e4⟩ d hl=>⟨s,W.bS λi hi=>d i ap,f,⟨k.nd,λi hi=>by rw[d i (by have:=(j i hi).2;omega)];exact k.on i hi⟩,by rw[d N ap];exact O,by rw[d (N+1) ap];exact U,by rw[d m ap];exact L,ap⟩)
  (λys x J1 ⟨s,W,f,k,O,U,L,e4⟩ hl _=>by
   obtain⟨r,J2,t,rfl,b_,w,I,q⟩:=Aw hT p W L c (show m<N+1 by omega) U x;refine⟨J2,t,⟨gT n s x y,b_,(f.one x y).iff λz A _=>?_,⟨k.nd,λi hi=>?_⟩,?_,w,?_,ap⟩,I,λi h1 h2=>q i ap h2 ap⟩
   .rw[agP,If];constructor
    .rintro(h|⟨h,B|B⟩)
     .exact .inl (.inl h)
     .exact .inl (.inr ⟨h,B⟩)
     .exact .inr ⟨B,h⟩
    .rintro((h|⟨h,B⟩)|⟨h,B⟩)
     .exact .inl h
     .exact .inr ⟨h,.inl B⟩
     .exact .inr ⟨B,.inr h⟩
   .have:=j i hi;rw[q i ap ap ap];exact k.on i hi
   .rw[q N ap ap ap];exact O
   .rw[q m ap ap ap];exact L)
 rw[l,Y]at he;refine dC (g:=nj) (by rw[mF,X];simp[cr]) he ?_;rw[<-Y];refine dX U ce (au ?_);have F:(gY.dR N::bs.map .dR)=(N::bs).map .dR:=rfl;rw[F];refine hk _ (N::bs) ⟨⟨s,W.bS λi hi=>by rw[sh ap],f.iff λz A _=>by rw[c9]⟩,⟨aiX.2 ⟨λhi=>by have:=(j N hi).2;omega,k.nd⟩,λi hi=>?_⟩,λi hi=>?_⟩ (by rw[sh ap];exact L) (by rw[agZ];omega)
 .rcases ag8.1 hi with rfl|hi
  .rw[sh ap];exact O
  .have:=j i hi;rw[sh ap];exact k.on i hi
 .rw[agZ];rcases ag8.1 hi with rfl|hi
  .omega
  .have:=j i hi;omega
def PM(a b:aG)(p:Pr)(x y:aA):Prop:=∃e,0<=e/\eZ p.xs e/\eZ p.ys e/\x=iO a p e/\y=iP b p e
def rN(s:aG)(x:aA):Prop:=∃c∈s.cs,∃d,0<=d/\eZ c.ts d/\x=bU s.len c.min d
def UX(b:lP a)(r:lP o)(f0:-2251799813685248<=n)(f1:n<=100000000000000)(K:sI a o t)(I:iQ (λd=>UP a o n t<=d/\eZ t.xs d/\eZ t.ys d) d h)(F:h=ae->d<=1000001000000){S:aA->aA->Prop}{s:FS}(p:na n S s) :
  na n (λx y=>S x y\/PM a o t x y) (II a o n t d h s):=by
 obtain⟨e_,f_⟩:=b.ok.len;obtain⟨g_,h_⟩:=r.ok.len;have a_:=b.ok.min K.ca;have c9:=r.ok.min K.db;have U:=K.lo;have Q:=K.hi;unfold Bz at U;unfold Ak at Q;have kb:-20<=t.k/\t.k<=20:=ii
 have key:∀m q,PM a o t m q->okB n m q->∃e,UP a o n t<=e/\0<=e/\eZ t.xs e/\eZ t.ys e/\m=iO a t e/\q=iP o t e:=by
  rintro m q ⟨e,A,L,M,rfl,rfl⟩ ⟨-,-,N⟩;refine⟨e,?_,A,L,M,rfl,rfl⟩;simp only[pP,iO,iP,bU]at N;unfold UP Q1;omega
 unfold II;rcases I with⟨rfl,-,W⟩|⟨rfl,⟨A,L,M⟩,l⟩
 .simp only[Bool.false_eq_true,if_false];refine p.none λm q O J=>?_;obtain⟨e,c,-,i,k,-⟩:=key m q O J;exact W e ⟨c,i,k⟩
 .simp only[if_true];have d_:0<=UP a o n t:=by unfold UP;omega
  have F:=F rfl;refine p.step ⟨d,ap,L,M,rfl,rfl⟩ λm q O J=>?_;obtain⟨e,c,k0,i,k,rfl,rfl⟩:=key m q O J;have d9:=l e ⟨c,i,k⟩;obtain⟨-,-,N⟩:=J;obtain⟨v,j⟩:=aH (max 0 (-t.k));have w:0<=v/\v<=20:=ii
  obtain⟨z,b_⟩:=aH ((e-d)*1440);have B:0<=z/\(e≠d->0<z):=⟨ap,λf=>by omega⟩
  have g:(iO a t d).fr=(d+v)*1440+t.c.min/\(iO a t d).to=(d+v)*1440+t.c.min+a.len:=by unfold iO bU;rw[<-j];exact⟨rfl,rfl⟩
  have ya:(iP o t d).fr=(d+v+t.k)*1440+t.d.min/\(iP o t d).to=(d+v+t.k)*1440+t.d.min+o.len:=by unfold iP bU;rw[<-j];exact⟨rfl,rfl⟩
  have xb:(iO a t e).fr=(iO a t d).fr+z/\(iO a t e).to=(iO a t d).to+z:=by unfold iO bU;simp only;rw[<-j];omega
  have yb:(iP o t e).fr=(iP o t d).fr+z/\(iP o t e).to=(iP o t d).to+z:=by unfold iP bU;simp only;rw[<-j];omega
  have c_:n<(iO a t d).to/\n<(iP o t d).to:=by
   rw[g.2,ya.2];unfold UP Q1 at A;rw[<-j]at A;omega
  have H:(iO a t d).to<=2251799813685248/\(iP o t d).to<=2251799813685248:=by rw[g.2,ya.2];omega
  have u:e=d->iO a t e=iO a t d/\iP o t e=iP o t d:=λf=>by subst f;exact⟨rfl,rfl⟩
  generalize iO a t d=X at *;generalize iP o t d=Y at *;generalize iO a t e=X' at *;generalize iP o t e=Y' at *;clear g ya A l;unfold pP at N;refine⟨⟨H.1,H.2,?_⟩,?_⟩
  .unfold pP;omega
  .by_cases I:e=d
   .obtain⟨rfl,rfl⟩:=u I;unfold Dk aA.lt;omega
   .have:=B.2 I;unfold Dk aA.lt pP;omega
def Z1(M:lP a)(N:lP o){ps:List Pr}(m:∀p∈ps,sI a o p)(l:∀c∈a.cs,∀d∈o.cs,∀k,Bz a.len o.len c d<=k->k<=Ak a.len o.len c d->∃p∈ps,p.c=c/\p.d=d/\p.k=k)(x y:aA)(I:okB n x y):(rN a x/\rN o y)↔∃p∈ps,PM a o p x y:=by
 constructor
 .rintro⟨⟨c,F,g,O,K,rfl⟩,⟨d,H,s,Q,L,rfl⟩⟩;obtain⟨-,-,B⟩:=I;simp only[pP,bU]at B;obtain⟨p,q,rfl,rfl,J⟩:=l c F d H (s-g) (by unfold Bz;omega) (by unfold Ak;omega);have j:=m p q;refine⟨p,q,g-max 0 (-p.k),ap,(j.xm _ ap).2 (by rw[show g-max 0 (-p.k)+max 0 (-p.k)=g by omega];exact K),(j.ym _ ap).2 (by rw[show g-max 0 (-p.k)+max 0 p.k=s by omega];exact L),?_,?_⟩
  .unfold iO;rw[show g-max 0 (-p.k)+max 0 (-p.k)=g by omega]
  .unfold iP;rw[show g-max 0 (-p.k)+max 0 (-p.k)+p.k=s by omega]
 .rintro⟨p,q,e,u,v,z,rfl,rfl⟩;have j:=m p q;refine⟨⟨p.c,j.ca,e+max 0 (-p.k),ap,(j.xm e u).1 v,rfl⟩,⟨p.d,j.db,e+max 0 (-p.k)+p.k,ap,?_,rfl⟩⟩;have:=(j.ym e u).1 z;rw[show e+max 0 (-p.k)+p.k=e+max 0 p.k by omega];exact this
def Br(s:aG)(x:aA):dM s x↔rN s x\/x∈s.xs:=by
 unfold dM P9 rN sH GW;constructor
 .rintro(⟨c,j,d,⟨t,l,b,g⟩,rfl⟩|h)
  .exact .inl ⟨c,j,d,b,⟨t,l,(je b).1 g⟩,rfl⟩
  .exact .inr h
 .rintro(⟨c,j,d,b,⟨t,l,g⟩,rfl⟩|h)
  .exact .inl ⟨c,j,d,⟨t,l,b,(je b).2 g⟩,rfl⟩
  .exact .inr h
def Sy(h:okB n X y):nb a X y↔rN a y:=by
 obtain⟨-,-,d⟩:=h;unfold pP at d;exact⟨λh=>h.1,λh=>⟨h,ap,ap⟩⟩
def NA(h:okB n X y):nb a y X↔rN a X:=by
 obtain⟨-,-,d⟩:=h;unfold pP at d;exact⟨λh=>h.1,λh=>⟨h,ap,ap⟩⟩
def yR{t:V}(A:B ∉ [3,4,5,6,7,9,10,12,13]):FT (v.s B t)↔FT v:=by
 simp only[ag8,aid,or_false,not_or]at A;obtain⟨q,s,u,x,y,z,j,l,m⟩:=A;constructor
 .rintro⟨a,b,c,d,e,f,g,h,i⟩;refine⟨?_,?_,?_,?_,?_,?_,?_,?_,?_⟩
  .simpa[q]using a
  .simpa[s]using b
  .simpa[u]using c
  .simpa[x]using d
  .simpa[y]using e
  .simpa[z]using f
  .simpa[j]using g
  .simpa[l]using h
  .simpa[m]using i
 .rintro⟨a,b,c,d,e,f,g,h,i⟩;refine⟨?_,?_,?_,?_,?_,?_,?_,?_,?_⟩
  .simpa[q]using a
  .simpa[s]using b
  .simpa[u]using c
  .simpa[x]using d
  .simpa[y]using e
  .simpa[z]using f
  .simpa[j]using g
  .simpa[l]using h
  .simpa[m]using i
def MH(a b:aG)(ha:lP a)(hb:lP b)(B:Int)(f0:-2251799813685248<=B)(f1:B<=100000000000000) :
  ∃s:FS,na B (λx y=>dM a x/\dM b y) s/\bf tab fD [.a (a.row.map .f),.a (b.row.map .f),vi B]=Eq (.t [.a (s.X.row.map .f),.a (s.Y.row.map .f),vb s.found]):=by
 obtain⟨r,⟨s,A,rfl⟩,h⟩:∃r,(∃s:FS,na B (λx y=>dM a x/\dM b y) s/\r=.t [.a (s.X.row.map .f),.a (s.Y.row.map .f),vb s.found])/\bf tab fD [.a (a.row.map .f),.a (b.row.map .f),vi B] r:=by
  refine oy aeW rfl λQ hQ=>?_;have r9:=(oD a ha.ok.sm).eq;rw[ha.ok.v]at r9;simp[aG.row]at r9;have r_:=(oD b hb.ok.sm).eq;rw[hb.ok.v]at r_;simp[aG.row]at r_;have hmx:max B (-2251799813685248)=B:=ii
  have hxa:=ha.ok.xn;have c_:=hb.ok.xn;apply ai;simp[aG.row];apply aU;simp[r9,r_,show¬ 2251799813685248<B by omega];refine bG bv ?_;apply ai;simp[hmx];apply ai;simp;apply ai;simp;apply ai;simp;obtain⟨J0,j5⟩:=aH ([.box (lK a) 0,.box (lK b) 0,.box [Z B] 0,.box [Z 0,Z 0,Z 0] 0,.box [Z 0,Z 0,Z 0] 0,.box [Z 0,Z 0,Z 0] 0,.box [Z 0,Z 0,Z 0] 0,.box [Z 0] 0,.box [.f (.bool ag)] 0,.box [qS] 0]:an);have r7:FQ a b B ⟨0,ag,⟨0,0,0⟩,⟨0,0,0⟩⟩ J0:=by rw[j5];exact⟨rfl,rfl,rfl,rfl,rfl,⟨rfl,rfl,rfl,rfl,rfl⟩⟩
  have l0:J0.length=10:=by rw[j5];rfl
  unfold lK qS at j5;rw[<-j5];have la:∀(J:an) (s:FS),FQ a b B s J->aV J (aa 3) (.c (.ptr 0 0 0))=aa (.a [.f (sl a.cg (aK a.cs)),Z a.len,.f (sl a.xg (ay a.xs))])/\aV J ab (.c (.ptr 0 2 0))=aa (G (sl a.xg (ay a.xs))):=λJ s h=>by refine⟨?_,?_⟩<;>simp[aV,az,h.h0,lK,aX]
  have lb:∀(J:an) (s:FS),FQ a b B s J->aV J (aa 3) (.c (.ptr 1 0 0))=aa (.a [.f (sl b.cg (aK b.cs)),Z b.len,.f (sl b.xg (ay b.xs))])/\aV J ab (.c (.ptr 1 2 0))=aa (G (sl b.xg (ay b.xs))):=λJ s h=>by refine⟨?_,?_⟩<;>simp[aV,az,h.h1,lK,aX]
  have rR:∀H:an,bA H (.f (sl a.xg (ay a.xs)))=aa a.xs.length:=λH=>by simp
  have o_:∀H:an,bA H (.f (sl b.xg (ay b.xs)))=aa b.xs.length:=λH=>by simp
  have fin:∀(t:T) (J:an) (bs:List Nat),FT t->FW a b B (λx y=>dM a x/\dM b y) bs J->WP tab fD ab [.code I2] ⟨t,bs.map .dR,J⟩ Q:=by
   rintro t J bs d ⟨⟨s,l,A⟩,h_,c9⟩;have l9:=aj l.h9;have lx:∀J':an,J'[5]?=J[5]?->aV J' (aa 3) (.c (.ptr 5 0 0))=aa (.a [Z s.X.day,Z s.X.fr,Z s.X.to]):=λJ' h=>by simp[aV,az,h,l.tk.h5,aX]
   have ly:∀J':an,J'[6]?=J[6]?->aV J' (aa 3) (.c (.ptr 6 0 0))=aa (.a [Z s.Y.day,Z s.Y.fr,Z s.Y.to]):=λJ' h=>by simp[aV,az,h,l.tk.h6,aX]
   have lf:∀J':an,J'[8]?=J[8]?->aV J' ab (.c (.ptr 8 0 0))=aa (vb s.found):=λJ' h=>by simp[aV,az,h,l.tk.h8]
   obtain⟨F,v⟩:=aH (J.set 3 (.box [Z s.X.day,Z s.X.fr,Z s.X.to] 0));have s1:dj J (.ptr 3 0 0) [Z s.X.day,Z s.X.fr,Z s.X.to]=aa F:=by rw[v];simp[dj,l.h3,over]
   have k1:∀i:Nat,i≠3->F[i]?=J[i]?:=λi hi=>by rw[v,sh (Ne.symm hi)]
   have n1:F.length=J.length:=by rw[v];simp
   obtain⟨J2,j6⟩:=aH (F.set 4 (.box [Z s.Y.day,Z s.Y.fr,Z s.Y.to] 0));have s2:dj F (.ptr 4 0 0) [Z s.Y.day,Z s.Y.fr,Z s.Y.to]=aa J2:=by rw[j6];simp[dj,k1 4 ap,l.h4,over]
   have k2:∀i:Nat,i≠4->J2[i]?=F[i]?:=λi hi=>by rw[j6,sh (Ne.symm hi)]
   have n2:J2.length=J.length:=by rw[j6];simp[n1]
   refine aE (eH (.inl rfl) ?_ ?_)
   case refine_2=>
    intro cc hcm;have hcc:cc=(1,4)\/cc=(2,4)\/cc=(2,6):=by simpa using hcm
    rcases hcc with rfl|rfl|rfl
    .refine⟨ce,_,rfl,.inl ⟨ce,?_⟩⟩;simp[d.g6,d.g7,d.g9,d.g10,d.g12,lx J rfl,ly J rfl,lf J rfl,ly F (k1 6 ap),s1,-aw,-bF,gE,V.beq,C.beq,FC.beq]
    .refine⟨ce,_,rfl,.inl ⟨ce,?_⟩⟩;simp[d.g6,d.g7,d.g9,d.g10,d.g12,lx J rfl,ly J rfl,lf J rfl,lf F (k1 8 ap),s1,-aw,-bF,gE,V.beq,C.beq,FC.beq]
    .refine⟨ce,_,rfl,.inl ⟨ce,?_⟩⟩;simp[d.g6,d.g7,d.g9,d.g10,d.g12,lx J rfl,ly J rfl,lf J rfl,lf J2 ((k2 8 ap).trans (k1 8 ap)),s1,s2,-aw,-bF,gE,V.beq,C.beq,FC.beq]
   simp[d.g6,d.g7,d.g9,d.g10,d.g12,lx J rfl,ly J rfl,lf J rfl,s1,s2,-aw,-bF];have no3:(3:Nat) ∉ bs:=λh=>by have:=(c9 3 h).1;omega
   have no4:(4:Nat) ∉ bs:=λh=>by have:=(c9 4 h).1;omega
   have e3:(ng bs J2)[3]?=E [Z s.X.day,Z s.X.fr,Z s.X.to]:=by rw[iv no3,k2 3 ap,v];exact By ap
   have e4:(ng bs J2)[4]?=E [Z s.Y.day,Z s.Y.fr,Z s.Y.to]:=by rw[iv no4,j6];exact By ap
   refine av (hQ _ _ _ ⟨s,A,rfl⟩ ⟨bs,rfl,⟨h_.nd,λz hz=>?_⟩,.t [.a (s.X.row.map .f),.a (s.Y.row.map .f),vb s.found],?_,by simp[jd,dq,bC,deep,fv,aA.row]⟩)
   .have:=(c9 z hz).1;show J2[z]?=_;rw[k2 z ap,k1 z ap];exact h_.on z hz
   .simp[Km.results,cB,bC,d.g6,d.g7,aV,az,e3,e4,aX,aA.row]
  have t_:∀(t:T) (J:an) (bs:List Nat),FT t->FW a b B (λx y=>(rN a x/\rN b y)\/(x∈a.xs/\(nb b x y\/y∈b.xs))) bs J->WP tab fD ab [.code I0] ⟨t,bs.map .dR,J⟩ Q:=by
   intro t J bs d M;apply aE;have p_:=M;obtain⟨⟨s,l,-⟩,-⟩:=p_;apply ai;simp[d.g4,(lb J s l).2,o_,-aw];refine xJ b.xs.length (λi t ds J=>FT t/\t.g 157=G (sl b.xg (ay b.xs))/\∃bs,ds=bs.map .dR/\FW a b B (λx y=>((rN a x/\rN b y)\/(x∈a.xs/\(nb b x y\/y∈b.xs)))\/(y∈b.xs.take i/\nb a y x)) bs J) ap ce ce bv bv
    ⟨by simp[yR,d],bv,bs,rfl,by
     obtain⟨⟨s,l,A⟩,W⟩:=M;exact⟨⟨s,l,A.iff λx y _=>by simp⟩,W⟩⟩ ?_ ?_
   .clear d M l s;rintro i t ds J hi ⟨d,S,bs,rfl,M⟩ W q_ next
    have i8:=λH:an=>bu (H:=H) (g:=b.xg) (rows:=ay b.xs) (sz:=3) (k:=.i64) (i:=(i:Int)) ap ge;have Y:=λH:an=>cf (H:=H) (bI b.xs) (dn hi);simp only[ag7]at i8;have c_:=hb.ex _ (IN hi);have i7:b.xs.take (i+1)=b.xs.take i++[b.xs[i]]:=by rw[agV,BY hi];rfl
    obtain⟨x,hx⟩:=aH (b.xs[i]);rw[<-hx]at Y c_ i7;simp only[aA.row,IT,agN]at Y;obtain⟨i9,n9⟩:=aH (J.length);obtain⟨F,v⟩:=aH (J++[bV.box [Z x.day,Z x.fr,Z x.to] 0]);have U:=M.push [bV.box [Z x.day,Z x.fr,Z x.to] 0];rw[<-v]at U;have p9:F[i9]?=E [Z x.day,Z x.fr,Z x.to]:=by rw[v,n9];simp
    have l25:10<=i9:=by
     obtain⟨⟨s,l,-⟩,-⟩:=M;have:=aj l.h9;omega
    apply ax;apply ai;simp[W,S,i8,Y,-aw];rw[<-v,<-n9];have i6:=sP a x;simp only[aG.row,aA.row,IT,agN]at i6;have f_:=U;obtain⟨⟨s1,k_,-⟩,-⟩:=f_;have v25:aV F (aa 3) (.c (.ptr i9 0 0))=aa (.a [Z x.day,Z x.fr,Z x.to]):=by simp[aV,az,p9,aX]
    apply aE;apply ba;simp[d.g3,(la F s1 k_).1,v25,-aw,i6];apply ax
    suffices go:∀u:T,FT u->u.g 25=.c (.ptr i9 0 0)->u.g 165=G (.fn nj [.fp a.row 0,.fp x.row 0])->u.g 157=G (sl b.xg (ay b.xs))->u.g 158=vi b.xs.length->u.g 159=vi i->WP tab fD ab [.code I1,.inBlock 10,.inBlock 9,.code (oV 159 171),.inLoop (gQ 8 159 158 160 171 To),.inBlock 8,.code I2] ⟨u,bs.map .dR,F⟩ Q by
     exact go _ (by simp[yR,d]) bv (by simp[aG.row,aA.row]) (by simp[S]) (by simp[q_]) (by simp[W])
    intro u b_ g25 x6 S v_ w_;refine Z6 ha hb ap ap c_.2.2 U b_ g25 x6 p9 l25 λJ2 i_ g_ p9 hl2=>?_;refine au (next _ _ _ ⟨by simp[yR,b_],by simp[S],i_,rfl,?_⟩ (by simp[w_]) (by simp[v_]));obtain⟨⟨s,l,A⟩,W⟩:=g_;refine⟨⟨s,l,A.iff λx' y' _=>?_⟩,W⟩;rw[i7,agP,If];constructor
    .rintro(h|⟨h|rfl,I⟩)
     .exact .inl (.inl h)
     .exact .inl (.inr ⟨h,I⟩)
     .exact .inr ⟨rfl,I⟩
    .rintro((h|⟨h,I⟩)|⟨rfl,I⟩)
     .exact .inl h
     .exact .inr ⟨.inl h,I⟩
     .exact .inr ⟨.inr rfl,I⟩
   .rintro t ds J ⟨d,S,bs,rfl,M⟩ - -;rw[agW]at M;obtain⟨⟨s,l,A⟩,W⟩:=M;refine fin _ J bs (by simp[yR,d]) ⟨⟨s,l,A.iff λx y hk=>?_⟩,W⟩;rw[Br,Br,Sy hk,NA hk];constructor
    .rintro⟨h1|h1,X|X⟩
     .exact .inl (.inl ⟨h1,X⟩)
     .exact .inr ⟨X,h1⟩
     .exact .inl (.inr ⟨h1,.inl X⟩)
     .exact .inl (.inr ⟨h1,.inr X⟩)
    .rintro((⟨h1,X⟩|⟨h1,X|X⟩)|⟨h1,X⟩)
     .exact⟨.inl h1,.inl X⟩
     .exact⟨.inr h1,.inl X⟩
     .exact⟨.inr h1,.inr X⟩
     .exact⟨.inl X,.inr h1⟩
  have t8:∀(t:T) (J:an) (bs:List Nat),FT t->FW a b B (λx y=>rN a x/\rN b y) bs J->WP tab fD ab [.code IY] ⟨t,bs.map .dR,J⟩ Q:=by
   intro t J bs d M;apply aE;have p_:=M;obtain⟨⟨s,l,-⟩,-⟩:=p_;apply ai;simp[d.g3,(la J s l).2,rR,-aw];refine xJ a.xs.length (λi t ds J=>FT t/\t.g 129=G (sl a.xg (ay a.xs))/\∃bs,ds=bs.map .dR/\FW a b B (λx y=>(rN a x/\rN b y)\/(x∈a.xs.take i/\(nb b x y\/y∈b.xs))) bs J) ap ce ce bv bv
    ⟨by simp[yR,d],bv,bs,rfl,by
     obtain⟨⟨s,l,A⟩,W⟩:=M;exact⟨⟨s,l,A.iff λx y _=>by simp⟩,W⟩⟩ ?_ ?_
   .clear d M l s;rintro i t ds J hi ⟨d,m,bs,rfl,M⟩ W q_ next
    have i8:=λH:an=>bu (H:=H) (g:=a.xg) (rows:=ay a.xs) (sz:=3) (k:=.i64) (i:=(i:Int)) ap ge;have Y:=λH:an=>cf (H:=H) (bI a.xs) (dn hi);simp only[ag7]at i8;have c_:=ha.ex _ (IN hi);have i7:a.xs.take (i+1)=a.xs.take i++[a.xs[i]]:=by rw[agV,BY hi];rfl
    obtain⟨x,hx⟩:=aH (a.xs[i]);rw[<-hx]at Y c_ i7;simp only[aA.row,IT,agN]at Y;obtain⟨K,m_⟩:=aH (J.length);obtain⟨F,v⟩:=aH (J++[bV.box [Z x.day,Z x.fr,Z x.to] 0]);have U:=M.push [bV.box [Z x.day,Z x.fr,Z x.to] 0];rw[<-v]at U;have L:F[K]?=E [Z x.day,Z x.fr,Z x.to]:=by rw[v,m_];simp
    have l20:10<=K:=by
     obtain⟨⟨s,l,-⟩,-⟩:=M;have:=aj l.h9;omega
    apply ax;apply ai;simp[W,m,i8,Y,-aw];rw[<-v,<-m_];have i6:=sP b x;simp only[aG.row,aA.row,IT,agN]at i6;have f_:=U;obtain⟨⟨s1,k_,-⟩,-⟩:=f_;have m9:aV F (aa 3) (.c (.ptr K 0 0))=aa (.a [Z x.day,Z x.fr,Z x.to]):=by simp[aV,az,L,aX]
    apply aE;apply aE;apply ba;simp[d.g4,(lb F s1 k_).1,m9,-aw,i6];apply ax
    suffices go:∀u:T,FT u->u.g 20=.c (.ptr K 0 0)->u.g 137=G (.fn nj [.fp b.row 0,.fp x.row 0])->u.g 129=G (sl a.xg (ay a.xs))->u.g 130=vi a.xs.length->u.g 131=vi i->WP tab fD ab [.code IZ,.inBlock 4,.code Tn,.inBlock 3,.code (oV 131 155),.inLoop (gQ 2 131 130 132 155 Tm),.inBlock 2,.code I0] ⟨u,bs.map .dR,F⟩ Q by
     exact go _ (by simp[yR,d]) bv (by simp[aG.row,aA.row]) (by simp[m]) (by simp[q_]) (by simp[W])
    intro u b_ a_ u_ m N O;refine Z5 ha hb ap ap c_.2.2 U b_ a_ u_ L l20 λJ2 i_ g_ L hl2=>?_;have x8:=g_;obtain⟨⟨s2,l_,-⟩,-⟩:=x8;apply ai;simp[b_.g4,(lb J2 s2 l_).2,o_,-aw];refine bW b.xs.length (λj t J=>FT t/\t.g 20=.c (.ptr K 0 0)/\t.g 129=G (sl a.xg (ay a.xs))/\t.g 130=vi a.xs.length/\t.g 131=vi i/\t.g 144=G (sl b.xg (ay b.xs))/\J[K]?=E [Z x.day,Z x.fr,Z x.to]/\FW a b B (λx' y'=>((rN a x'/\rN b y')\/(x'∈a.xs.take i/\(nb b x' y'\/y'∈b.xs)))\/(x'=x/\(nb b x y'\/y'∈b.xs.take j))) i_ J) ap ce ce bv bv
     ⟨by simp[yR,b_],by simp[a_],by simp[m],by simp[N],by simp[O],bv,L,by
      obtain⟨⟨s,l,A⟩,W⟩:=g_;exact⟨⟨s,l,A.iff λx' y' _=>by simp⟩,W⟩⟩ ?_ ?_
    .clear L g_ l_ s2 U k_ s1 m9;rintro j t' J3 hj ⟨j8,a_,m,N,O,d_,L,j9⟩ y7 y6 s_;have z8:=λH:an=>bu (H:=H) (g:=b.xg) (rows:=ay b.xs) (sz:=3) (k:=.i64) (i:=(j:Int)) ap ge;have s7:=λH:an=>cf (H:=H) (bI b.xs) (dn hj);simp only[ag7]at z8;have n_:b.xs.take (j+1)=b.xs.take j++[b.xs[j]]:=by rw[agV,BY hj];rfl
     obtain⟨y,hy⟩:=aH (b.xs[j]);rw[<-hy]at s7 n_;simp only[aA.row,IT,agN]at s7;obtain⟨u9,n8⟩:=aH (J3.length);obtain⟨J4,j7⟩:=aH (J3++[bV.box [Z y.day,Z y.fr,Z y.to] 0]);have x9:=j9.push [bV.box [Z y.day,Z y.fr,Z y.to] 0];rw[<-j7]at x9;have z_:J4[u9]?=E [Z y.day,Z y.fr,Z y.to]:=by rw[j7,n8];simp
     have d9:J4[K]?=E [Z x.day,Z x.fr,Z x.to]:=by rw[j7,AI (aj L)];exact L
     obtain⟨⟨s,l,A⟩,h_,c9⟩:=x9;have m9:aV J4 (aa 3) (.c (.ptr K 0 0))=aa (.a [Z x.day,Z x.fr,Z x.to]):=by simp[aV,az,d9,aX]
     have v23:aV J4 (aa 3) (.c (.ptr u9 0 0))=aa (.a [Z y.day,Z y.fr,Z y.to]):=by simp[aV,az,z_,aX]
     have f9:aV J4 ab (.c (.ptr 9 0 0))=aa (.c qS):=by simp[aV,az,l.h9]
     obtain⟨J5,j_,hq5,hl5,y8⟩:=vl l x y;simp only[aA.row,IT,agN]at j_;apply ax;apply ai;simp[y7,d_,z8,s7,-aw];rw[<-j7,<-n8];apply ba;simp[j8.g13,a_,f9,m9,v23,-aw,qS,j_.eq];refine au (s_ _ _ ⟨by simp[yR,j8],by simp[a_],by simp[m],by simp[N],by simp[O],by simp[d_],by rw[y8 K ap (aj d9)];exact d9,⟨⟨_,hq5,(A.one x y).iff λx' y' _=>?_⟩,⟨h_.nd,λz hz=>?_⟩,λz hz=>?_⟩⟩ (by simp[y7]) (by simp[y6]))
     .rw[n_,agP,If];constructor
      .rintro(h|⟨rfl,h|h|rfl⟩)
       .exact .inl (.inl h)
       .exact .inl (.inr ⟨rfl,.inl h⟩)
       .exact .inl (.inr ⟨rfl,.inr h⟩)
       .exact .inr ⟨rfl,rfl⟩
      .rintro((h|⟨rfl,h|h⟩)|⟨rfl,rfl⟩)
       .exact .inl h
       .exact .inr ⟨rfl,.inl h⟩
       .exact .inr ⟨rfl,.inr (.inl h)⟩
       .exact .inr ⟨rfl,.inr (.inr rfl)⟩
     .have:=c9 z hz;rw[y8 z ap this.2];exact h_.on z hz
     .have:=c9 z hz;exact⟨this.1,ap⟩
    .rintro t' J3 ⟨j8,a_,m,N,O,d_,L,j9⟩ - -;rw[agW]at j9;refine au (next _ _ _ ⟨by simp[yR,j8],by simp[m],i_,rfl,?_⟩ (by simp[O]) (by simp[N]));obtain⟨⟨s,l,A⟩,W⟩:=j9;refine⟨⟨s,l,A.iff λx' y' _=>?_⟩,W⟩;rw[i7,agP,If];constructor
     .rintro(h|⟨h|rfl,I⟩)
      .exact .inl (.inl h)
      .exact .inl (.inr ⟨h,I⟩)
      .exact .inr ⟨rfl,I⟩
     .rintro((h|⟨h,I⟩)|⟨rfl,I⟩)
      .exact .inl h
      .exact .inr ⟨.inl h,I⟩
      .exact .inr ⟨.inr rfl,I⟩
   .rintro t ds J ⟨d,m,bs,rfl,M⟩ - -;rw[agW]at M;exact t_ _ J bs (by simp[yR,d]) M
  suffices start:∀t:T,FT t->WP tab fD ab [.code Tk] ⟨t,[],J0⟩ Q by exact start _ ⟨bv,bv,bv,bv,bv,bv,bv,bv,bv⟩
  intro t d;have z7:=Bc a b;simp only[aG.row,IT,agN]at z7;apply aU;simp[d.g3,d.g4,(la J0 _ r7).1,(lb J0 _ r7).1,-aw,z7];apply ax
  suffices go:∀u:T,FT u->u.g 46=G (.fn ni [.fp a.row 0,.fp b.row 0])->WP tab fD ab [.code Tl,.inBlock 0,.code IY] ⟨u,[],J0⟩ Q by exact go _ (by simp[yR,d]) (by simp[aG.row])
  clear d t;intro u d g46;obtain⟨HR,e_⟩:=aH (J0++[.dH ae,.lp fD u [P.nat 47] kM kQ .ready ab 10]:an);have lR:HR.length=12:=by rw[e_,agM,l0];rfl
  have kR:∀i:Nat,i<10->HR[i]?=J0[i]?:=λi hi=>by rw[e_,AI ap]
  have rd:HR[10]?=aa (.dH ae):=by rw[e_,agL ap,l0];rfl
  have rl:HR[11]?=aa (.lp fD u [P.nat 47] kM kQ .ready ab 10):=by rw[e_,agL ap,l0];rfl
  obtain⟨H2,he,ps,⟨s,l,A,e1,e2,e3⟩,hps,x_⟩:=MK (bb:=11) (H:=HR) a b ha hb
   (λps J'=>∃s,FQ a b B s J'/\na B (λx y=>∃p∈ps,PM a b p x y) s/\J'[10]?=aa (.dH ae)/\J'[11]?=aa (.lp fD u [P.nat 47] kM kQ .ready ab 10)/\12<=J'.length)
   ⟨_,r7.bS kR,.inl ⟨rfl,rfl,rfl,λx y ⟨p,hp,_⟩=>by simp at hp⟩,rd,rl,ap⟩
   (λps F J2 ⟨s,l,A,e1,e2,e3⟩ r6 hl=>⟨s,l.bS λi hi=>r6 i ap,A,by rw[r6 10 ap];exact e1,by rw[r6 11 ap];exact e2,ap⟩)
   (λps p F ⟨s,l,A,e1,e2,e3⟩ hl hp=>by
    obtain⟨e,f,y_,heb,r,J2,j_,rfl,l_,k1,k2,k3,k4⟩:=Im a b ha hb f0 f1 d hp l e1 e2;refine⟨J2,j_,⟨_,l_,(UX ha hb f0 f1 hp y_ heb A).iff λx y _=>?_,k1,k2,ap⟩,k3,λi h1 X=>k4 i ap X⟩;constructor
    .rintro⟨q,hq',h⟩;rcases agP.1 hq' with I|I
     .exact .inl ⟨q,I,h⟩
     .rw[If]at I;rw[I]at h;exact .inr h
    .rintro(⟨q,I,h⟩|h)
     .exact⟨q,ahu _ I,h⟩
     .exact⟨p,bv,h⟩)
  rw[e_]at he;have he':Ev tab (.fn ni) [.c (.yl (J0.length+1)),G (.fp a.row 0),G (.fp b.row 0)] (J0++[.dH ae,.lp fD u [P.nat 47] kM kQ .ready ab J0.length]) (.t []) H2:=by rw[l0];exact he
  refine dC (g:=ni) (by rw[mF,g46];simp[cr]) he' ?_;rw[l0];refine dX e2 ce (au ?_);refine t8 u _ [10] d ⟨⟨s,l.bS λi hi=>by rw[sh ap],A.iff λx y hk=>Z1 ha hb hps x_ x y hk⟩,⟨bv,λi hi=>?_⟩,λi hi=>?_⟩
  .rw[If]at hi;rw[hi,sh ap];exact e1
  .rw[If]at hi;rw[hi,agZ];omega
 exact⟨s,A,h.eq⟩
def TT(h:dh a):∀c∈a.cs,∃p:aR,jT 12 p/\c.ts=[⟨.fs,[p]⟩]:=by
 intro c b;rcases h.1 with e|⟨f,p,l,u,e,d,g,m,q,-,j,-,-⟩
 .rw[e]at b;simp at b
 .rw[e,If]at b;subst b;exact⟨cu f p l,Dl d g m q j,rfl⟩
def xS(h:dh o):lP o:=by
 have d:∀c∈o.cs,vI 12 c.ts:=λc m=>by
  obtain⟨p,y,e⟩:=TT h c m;rw[e];exact⟨bv,λt u=>by
   rw[If]at u;subst u;exact⟨bv,bv,λq v=>by simp only[If]at v;subst v;exact y⟩⟩
 obtain⟨g,A,B,F,H,j⟩:=h;refine⟨⟨kH ⟨g,A,B,F,H,j⟩,?_,λc m=>⟨(d c m).mix,λt u=>?_⟩,ap⟩,d,λx z=>?_⟩
 .rcases g with e|⟨f,p,l,I,e,-⟩<;>rw[e]<;>simp
 .obtain⟨a,b,c⟩:=(d c m).2 t u;exact Bf a ap c
 .obtain⟨e,-,-,a,b⟩:=j x z;exact⟨ap,ap,ap⟩
def pk(l:List bw)(a b:Int):Bool:=
 decide (jO l=0)&&bR a 0 ((l.length:Int)-1)&&bR b 0 ((l.length:Int)-1) &&
  match l[a.toNat]?,l[b.toNat]? with
  |some d,aa g=>fO a.toNat b.toNat d g| _,_=>ag
def pz(h:jO l=0)(hi:m<l.length):l[m].q.length<=64/\l[m].p.length<=64:=by
 have b:l.any oa=ag:=by
  cases b:l.any oa
  .rfl
  .simp[jO,b]at h
 have:=List.any_eq_false.1 b l[m] (IN hi);simp[oa]at this;omega
def B0(g:Tg)(l:List bw)(a b:Nat)(d:a<l.length)(j:b<l.length)(m:l[a].p.length<=64)(q:l[b].p.length<=64) :
  bf tab Cw [G (sl g (rows l)),vi a,vi b]=Eq (vb (fO a b l[a] l[b])):=(NB g l a b d j m q).eq
def LG(g:Tg)(l:List bw)(a b:Int)(u:l.length<=6)(v:∀r∈l,mE r) :
  Kf tab vL [G (sl g (rows l)),vi a,vi b] (vb (pk l a b)):=by
 refine dd rfl rfl λH Q j=>?_;apply ai;simp;apply ai;simp[F8 g l u v];by_cases d:jO l=0
 case neg=>
  simp[d];refine av (j _ _ ?_);simp[pk,d]
 simp[d,a8 (n:=(l.length:Int)-1)];cases m:bR a 0 ((l.length:Int)-1)
 case false=>
  simp;refine av (j _ _ ?_);simp[pk,m]
 simp[a8 (n:=(l.length:Int)-1)];cases q:bR b 0 ((l.length:Int)-1)
 case false=>
  simp;refine av (j _ _ ?_);simp[pk,q]
 have x:=oG m;have y:=oG q;obtain⟨i,rfl⟩:∃i:Nat,a=i:=⟨a.toNat,ap⟩
 obtain⟨k,rfl⟩:∃k:Nat,b=k:=⟨b.toNat,ap⟩
 have hi:i<l.length:=ii
 have s:k<l.length:=ii
 simp[B0 g l i k hi s (pz d hi).2 (pz d s).2];refine av (j _ _ ?_);simp[pk,d,m,q,hi,s]
def fg{hi:Int}(h:d<=n)(b:n<=hi):bR n d hi=ae:=by
 simp[bR];omega
def Jz:List C:=[Z 0,.f (.fs [fi 7] 1),Z (-1),.f .aN,Z 0,.f .aN,Z 0,.f .aN]
def Rg:((CF tab 300 60 (.fn Gs) [] []).bind λp=>jd deep p.2 p.1)=aa (.a Jz):=io
def Ug:bf tab Gs []=Eq (.a Jz):=(aZ Rg).eq
def sR(a b:Nat):FC:=.fs [.fs [.fs [.aN,fi 0,fi 1,.fs [fi 0] 1] 1] 1,fi (60*(a:Int)),fi (1440-60*(b:Int))] 1
def oR(c:Nat):FC:=if c<20 then .fs [fi (c:Int)] 1 else .aN
def okI:Option (V × an)->Bool
 |some (.c (.f (.int .i64 0)),_)=>ae| _=>ag
def R6{args:List V}{d:Nat}(h:okI (CF tab m d (.fn B) args [])=ae):bf tab B args (vi 0):=by
 refine xd (m:=m) (d:=d) ?_;unfold okI at h;split at h
 .rename_i b;rw[b];rfl
 .cases h
def R8:((List.range 3).all λa=>(List.range 3).all λb=>(List.range 21).all λc=>okI (CF tab 300 60 (.fn Ja) [.a (Jz++[.f (sR a b),.f (oR c)])] []))=ae:=io
def TG:((CF tab 300 60 (.fn Gr) [] []).bind λp=>jd deep p.2 p.1)=aa (.a [.f (.fs [.fs [.aN,fi 0,fi 1,.fs [fi 0] 1] 1] 1)]):=io
def YZ:bf tab Gr []=Eq (.a [.f (.fs [.fs [.aN,fi 0,fi 1,.fs [fi 0] 1] 1] 1)]):=(aZ TG).eq
def uE(a b c:Nat)(cap g d:Int)(j:Tg)(q:List (Int × Int)):bw:=⟨cap,g,d,fi 0,.fs [fi 7] 1,fi (-1),.aN,fi 0,.aN,fi 0,.aN,sR a b,oR c,j,q,.nil,[]⟩
def Good(r:bw):Prop:=∃a b c cap g d j q,r=uE a b c cap g d j q/\a<3/\b<3/\c<21/\6<=cap/\cap<=11/\0<=g/\g<=20/\0<=d/\d<=20/\
 (q=[]\/∃t m,q=[(t,m),(2,600)]/\0<=t/\t<=1/\0<=m/\m<=900)
def ru(h:Good r):mE r:=by
 obtain⟨a,b,c,cap,j,g,u,q,rfl,l,m,s,_⟩:=h;have d:=R8;simp only[ag9,ai0]at d;exact R6 (d a l b m c s)
def jm(B:List (List Int)):List (List FC):=B.map λr=>r.map λn=>.int .u8 n
def Jd(r:V):Prop:=∃a b c:bw,Good a/\Good b/\Good c/\(r=G (sl .es (rows [a,b,c]))\/r=G (sl .es (rows [a,b,{ c with pg:=.fs,p:=[0,1] }])))
def VD(g j l:Int)(b d q:C):List C:=[Z g,Z j,Z l,Z 0,.f (.fs [fi 7] 1),Z (-1),.f .aN,Z 0,.f .aN,Z 0,.f .aN,b,d,q,.f .aN]
def Sr(B:List (List Int))(hB:B.length=3)(hr:∀r∈B,r.length=5/\∀n∈r,0<=n/\n<=255) :
  ∃r,Jd r/\bf tab Pq [.a ((jm B).flatten.map .f)] r:=by
 refine dE rfl rfl λQ hQ=>?_;obtain⟨xs,c_⟩:=aH ((jm B).flatten);rw[<-c_];apply ai;simp;apply ai;simp;apply aU;simp;refine jI 3 (λj t H=>t.g 1=.c (.ptr 0 0 0)/\H[0]?=E (xs.map .f)/\∃l,LB ae H 15 (t.g 3) .es (rows l)/\l.length=j/\∀r∈l,Good r) ce rfl bv
  ⟨bv,bv,[],by simpa[rows]using LB.es0,rfl,bv⟩ ?_ ?_ ?_
 .rintro j t H L hj ⟨J,v,l,S,u,X⟩ M hL;simp[M];exact hL _ ⟨by simp[J],v,l,by simpa using S,u,X⟩ (by simp[M]) bv
 .rintro j t H hj ⟨J,v,l,S,u,X⟩ M next
  have e_:j<B.length:=ii
  obtain⟨h5,g⟩:=hr B[j] (IN e_);obtain⟨z,n1,n2,I,A,K⟩:∃z n1 n2 I A,B[j]=[z,n1,n2,I,A]:=by
   match hm:B[j],h5 with
   |[a,b,c,d,e],_=>exact⟨a,b,c,d,e,rfl⟩
  rw[K]at g;simp only[ag8,aid,or_false,forall_eq_or_imp,forall_eq]at g;obtain⟨b0,b1,b2,b3,b4⟩:=g;have W:((xs.map C.f).drop (j*5)).take 5=[.f (.int .u8 z),.f (.int .u8 n1),.f (.int .u8 n2),.f (.int .u8 I),.f (.int .u8 A)]:=by
   have hg:cZ 5 (jm B):=λr hm=>by
    obtain⟨r',b_,rfl⟩:=agX.1 hm;rw[agS];exact(hr r' b_).1
   have Y:(jm B)[j]?=aa [.int .u8 z,.int .u8 n1,.int .u8 n2,.int .u8 I,.int .u8 A]:=by simp[jm,e_,K]
   have:=ob (sz:=5) (k:=0) hg Y ap;rw[c_,<-ait,show j*5=j*5+0 from rfl,this];rfl
  have a_:5<=xs.length-j*5:=by
   have:=congrArg List.length W;simp only[ahl,ag5,agS,ahk,ah7]at this;omega
  have O:∀(t:T) (U:an) (cs:List C) (r:bw) (k fl:Nat),Good r->t.g 1=.c (.ptr 0 0 0)->U[0]?=E (xs.map .f)->LB ae U 15 (t.g 3) .es (rows l)->t.g 4=vi j->
    t.g 6=.c (.ptr k 0 0)->U[k]?=aa (.box cs fl)->cs.length=15->bC (gZ 60 U) cs=aa r.row->
    WP tab Pq ab [.code K8,.inBlock 1,.code (Bq 4 11 12),.inLoop (rE 0 4 10 11 12 [⟨D 9,.ju (R 4),ab⟩,⟨D 10,.bin .lss (R 9) (.k (G (.int .i64 3))),ab⟩] K7),.inBlock 0,.code K9] ⟨t,[],U⟩ Q:=by
   intro t U cs r k fl hg J v S M g6 hk d_ h_;obtain⟨v',H',e1,e2,-,e4⟩:=LB.app (H:=U++[.box cs 0]) (row:=r.row) (bytes:=248) (y:=.c (.sl U.length 0 1 1 0 15)) (S.push _) (eh _) rfl ce
    (kh (fl:=0) (cs:=cs) bv d_) (fM (λx y _=>yM _) h_) md
   have i7:cs.take 15=cs:=agY ap;apply ba;simp[g6,hk,d_,i7,e1];refine au (next _ _ ?_ (by simp[M]));refine⟨by simp[J],e4 0 _ _ (by rw[AI (aj v)];exact v),l++[r],by simpa[rows]using e2,by simp[u],?_⟩;intro r' i6;rcases agP.1 i6 with h|h
   .exact X r' h
   .simp at h;subst h;exact hg
  apply ax;apply ai;simp[M,J,jH (i:=(j:Int)) (n:=3) ap ap,v,W,a_];apply ai;simp (disch:=omega) [wrap64,ag4,dD,jH,aht,aho];apply ai;simp (disch:=omega) [wrap64,nO,ag4,ahp,dD,gI,jH,aht,aho,YZ];apply ai;simp (disch:=omega) [jH,aht,aho,Ug,Jz];apply aU;simp (disch:=omega) [wrap64,nO,ag4,ahp,dD,gI,jH,aht,aho];obtain⟨a,ea⟩:∃a:Nat,I % 3=(a:Int):=⟨(I % 3).toNat,ap⟩
  obtain⟨b,eb⟩:∃b:Nat,I / 4 % 3=(b:Int):=⟨(I / 4 % 3).toNat,ap⟩
  obtain⟨c,ec⟩:∃c:Nat,A % 20=(c:Int):=⟨(A % 20).toNat,ap⟩
  simp only[ea,eb];have F:∀c qg q,c<21->(q=[]\/∃t m,q=[(t,m),((2:Int),(600:Int))]/\0<=t/\t<=1/\0<=m/\m<=900)->Good (uE a b c (6+z % 6) (5*(n1 % 5)) (5*(n2 % 5)) qg q):=
   λc qg q hc hq=>⟨a,b,c,_,_,_,_,_,rfl,ap,ap,hc,ap,ap,ap,ap,ap,ap,hq⟩
  have f_:([]:List (Int × Int))=[]\/∃t m,([]:List (Int × Int))=[(t,m),((2:Int),(600:Int))]/\0<=t/\t<=1/\0<=m/\m<=900:=.inl rfl;have g_:[(A % 2,60*(A / 16)),((2:Int),(600:Int))]=[]\/∃t m,[(A % 2,60*(A / 16)),((2:Int),(600:Int))]=[(t,m),((2:Int),(600:Int))]/\0<=t/\t<=1/\0<=m/\m<=900:=
   .inr ⟨_,_,rfl,ap,ap,ap,ap⟩
  have hp:=λL=>S.push L;by_cases c1:I / 16 % 4=0
  .refine aq (by simp[c1]) ?_;have s:c<20:=ii
   apply ba;simp (disch:=omega) [wrap64,nO,ag4,ahp,dD,gI,jH,aht,aho];simp only[ec];apply aU;simp (disch:=omega) [wrap64,nO,ag4,ahp,dD,gI,jH,aht,aho];by_cases c2:z / 8 % 2=1
   .refine aq (by simp[c2]) ?_;apply ba;simp (disch:=omega) [wrap64,nO,ag4,ahp,dD,gI,jH,aht,aho];exact O _ _ (VD (6+z % 6) (5*(n1 % 5)) (5*(n2 % 5)) (.sl (H.length+3) 0 1 1 0 3) (.sl (H.length+4) 0 1 1 0 1) (.sl (H.length+5) 0 2 2 0 2)) _ (H.length+1) 0 (F c .fs _ ap g_) (by simp[J]) (by rw[AI (aj v)];exact v) (by simpa using hp _) (by simp[M]) bv (by simp;rfl) rfl
     (by simp[VD,yN,Ez,uE,bw.row,sR,oR,s,sl,Tg.fc,fm,ints])
   .refine aC (by simp[c2]) ?_;apply aQ;exact O _ _ (VD (6+z % 6) (5*(n1 % 5)) (5*(n2 % 5)) (.sl (H.length+3) 0 1 1 0 3) (.sl (H.length+4) 0 1 1 0 1) (.f .aN)) _ (H.length+1) 0 (F c .nil _ ap f_) (by simp[J]) (by rw[AI (aj v)];exact v) (by simpa using hp _) (by simp[M]) bv (by simp;rfl) rfl
     (by simp[VD,yN,Ez,uE,bw.row,sR,oR,s,sl,Tg.fc,fm,ints])
  .refine aC (by simp[c1]) ?_;have s:¬ 20<20:=ii
   apply aQ;apply aU;simp (disch:=omega) [wrap64,nO,ag4,ahp,dD,gI,jH,aht,aho];by_cases c2:z / 8 % 2=1
   .refine aq (by simp[c2]) ?_;apply ba;simp (disch:=omega) [wrap64,nO,ag4,ahp,dD,gI,jH,aht,aho];exact O _ _ (VD (6+z % 6) (5*(n1 % 5)) (5*(n2 % 5)) (.sl (H.length+3) 0 1 1 0 3) (.f .aN) (.sl (H.length+4) 0 2 2 0 2)) _ (H.length+1) 0 (F 20 .fs _ ap g_) (by simp[J]) (by rw[AI (aj v)];exact v) (by simpa using hp _) (by simp[M]) bv (by simp;rfl) rfl
     (by simp[VD,yN,Ez,uE,bw.row,sR,oR,s,sl,Tg.fc,fm,ints])
   .refine aC (by simp[c2]) ?_;apply aQ;exact O _ _ (VD (6+z % 6) (5*(n1 % 5)) (5*(n2 % 5)) (.sl (H.length+3) 0 1 1 0 3) (.f .aN) (.f .aN)) _ (H.length+1) 0 (F 20 .nil _ ap f_) (by simp[J]) (by rw[AI (aj v)];exact v) (by simpa using hp _) (by simp[M]) bv (by simp;rfl) rfl
     (by simp[VD,yN,Ez,uE,bw.row,sR,oR,s,sl,Tg.fc,fm,ints])
 .rintro t H ⟨J,v,l,S,u,X⟩ M;obtain⟨a,b,c,rfl⟩:∃a b c,l=[a,b,c]:=by
   match l,u with
   |[a,b,c],_=>exact⟨a,b,c,rfl⟩
  have ga:=X a bv;have gb:=X b bv;have gc:=X c bv;have d9:2<B.length:=ii
  obtain⟨h5,g⟩:=hr B[2] (IN d9);obtain⟨z,n1,n2,I,A,K⟩:∃z n1 n2 I A,B[2]=[z,n1,n2,I,A]:=by
   match hm:B[2],h5 with
   |[a,b,c,d,e],_=>exact⟨a,b,c,d,e,rfl⟩
  rw[K]at g;have b1:=g n1 bv;have hd:(xs.map C.f).drop 11=.f (.int .u8 n1) ::([.f (.int .u8 n2),.f (.int .u8 I),.f (.int .u8 A)]++((jm B).drop 3).flatten.map C.f):=by
   have hg:cZ 5 (jm B):=λr hm=>by
    obtain⟨r',b_,rfl⟩:=agX.1 hm;rw[agS];exact(hr r' b_).1
   have Y:(jm B)[2]?=aa [.int .u8 z,.int .u8 n1,.int .u8 n2,.int .u8 I,.int .u8 A]:=by simp[jm,d9,K]
   have:=ob (sz:=5) (k:=1) hg Y ap;rw[c_,<-ait,show 11=2*5+1 from rfl,this];simp
  apply aU;simp (disch:=omega) [J,v,hd,nO,ag4,ahp,dD,gI,jH];by_cases c1:0<n1 / 8 % 4
  .refine aq (by simp[c1]) ?_;apply ba;obtain⟨bb,ep,H',e1,e2,e3,-⟩:=LB.st1 (H:=H++[.box [Z 0,Z 1] 0]) (row:=c.row) (j:=2) (k:=14) (c:=.sl H.length 0 2 2 0 1) (x:=.fs [fi 0,fi 1] 2) (S.push _) (eh _) (by simp[rows]) ce (by simp[yN]);simp at e1 e2;simp[e1,e2];apply ai;simp;refine av (hQ _ _ (G (sl .es (rows [a,b,{ c with pg:=.fs,p:=[0,1] }]))) ⟨a,b,c,ga,gb,gc,.inr rfl⟩ ?_);have i8:c.p=[]:=by obtain⟨_,_,_,_,_,_,_,_,rfl,_⟩:=gc;rfl
   have c9:(rows [a,b,c]).set 2 (c.row.set 14 (.fs [fi 0,fi 1] 2))=rows [a,b,{ c with pg:=.fs,p:=[0,1] }]:=rfl;rw[c9]at e3;obtain⟨cv,N,_⟩:=e3.len;have:=e3.fzV (eh _);simp[N];rw[N]at this;simpa using this
  .refine aC (by simp[c1]) ?_;apply aQ;apply ai;simp;refine av (hQ _ _ (G (sl .es (rows [a,b,c]))) ⟨a,b,c,ga,gb,gc,.inl rfl⟩ ?_);obtain⟨cv,N,_⟩:=S.len;have:=S.fzV (eh _);simp[N];rw[N]at this;simpa using this
def jj(l:List bw)(h:Bool):Prop:=∃a b c:bw,Good a/\Good b/\Good c/\l=[a,b,if h then { c with pg:=.fs,p:=[0,1] }else c]
def U'{r:V}(h:Jd r):∃l h,jj l h/\r=G (sl .es (rows l)):=by
 obtain⟨a,b,c,d,g,j,rfl|rfl⟩:=h
 .exact⟨_,ag,⟨a,b,c,d,g,j,rfl⟩,rfl⟩
 .exact⟨_,ae,⟨a,b,c,d,g,j,rfl⟩,rfl⟩
def ko(h:Good r):oa r=ag/\r.p=[]/\(bR r.cap 1 512&&bR r.eB 0 1440&&bR r.fY 0 1440&&kX (-1) r.q)=ae:=by
 obtain⟨a,b,c,cap,j,g,z,q,rfl,_,_,_,l,s,u,v,x,y,d⟩:=h;refine⟨?_,rfl,?_⟩
 .rcases d with rfl|⟨t,m,rfl,_⟩<;>simp[oa,uE]
 .simp only[uE];rw[fg ap ap,fg ap ap,fg ap ap];rcases d with rfl|⟨t,m,rfl,A,B,m1,m2⟩
  .rfl
  .simp only[kX];rw[fg ap ap,fg ap ap,fg ap ap,fg ap ap];rfl
def Cd(s:jj l h):∀r∈l,mE r:=by
 obtain⟨a,b,c,j,m,d,rfl⟩:=s;intro r g;simp only[ag8,aid,or_false]at g;rcases g with rfl|rfl|rfl
 .exact ru j
 .exact ru m
 .cases h
  .have q:=ru d;exact q
  .have q:=ru d;exact q
def tL(B:jj l h):jO l=0:=by
 obtain⟨a,b,c,y,z,A,rfl⟩:=B;obtain⟨a1,u,a3⟩:=ko y;obtain⟨b1,v,d⟩:=ko z;obtain⟨g,x,m⟩:=ko A;cases h
 .have q:[a,b,c].any oa=ag:=by simp[a1,b1,g]
  have s:gj [a,b,c] 0 [a,b,c]=ae:=by simp[gj,fZ,u,v,x,nK,a3,d,m]
  simp[jO,q,s]
 .have j:oa { c with pg:=.fs,p:=[0,1] }=ag:=by
   simp[oa]at g ⊢;exact g.1
  have q:[a,b,{ c with pg:=.fs,p:=[0,1] }].any oa=ag:=by simp[a1,b1,j]
  have s:gj [a,b,{ c with pg:=.fs,p:=[0,1] }] 0 [a,b,{ c with pg:=.fs,p:=[0,1] }]=ae:=by
   simp[bR]at a3 d m;simp[gj,fZ,u,v,nK,a3,d,m,Dn,bR]
  simp[jO,q,s]
def fQ(h:Bool)(i k:Nat):Bool:=decide (i=k)||h&&(decide (i=2)||decide (k=2))
def IK(h:Bool)(i k:Nat):fQ h k i=fQ h i k:=by
 have e:decide (k=i)=decide (i=k):=by rw[aiq];simp;exact eq_comm
 simp only[fQ,e,Bool.or_comm (decide (k=2))]
def eS(x y:aJ):Bool:=decide (x.meet<y.meet)||(decide (x.meet=y.meet)&&decide (x.room<y.room))
def Hf(x y:aJ):bf tab XK [.a (x.row.map .f),.a (y.row.map .f)]=Eq (vb (eS x y)):=by
 refine Kf.eq (dd rfl rfl λH Q g=>?_);apply ai;simp[aJ.row];apply ai;by_cases b:x.meet<y.meet
 .simp[b];refine av (g _ _ ?_);simp[eS,b]
 .by_cases d:x.meet=y.meet
  .simp[b,d];refine av (g _ _ ?_);simp[eS,b,d]
  .simp[b,d];refine av (g _ _ ?_);simp[eS,b,d]
def M8(g:Tg)(l:List aJ)(s:aJ)(S:l.length<=1000):∃b,(b=ag->∀x∈l,¬ (x.meet=s.meet/\x.room=s.room))/\bf tab Ps [G (sl g (aW l)),.a (s.row.map .f)]=Eq (vb b):=by
 have key:∃r,(∃b,(b=ag->∀x∈l,¬ (x.meet=s.meet/\x.room=s.room))/\r=vb b)/\bf tab Ps [G (sl g (aW l)),.a (s.row.map .f)] r:=by
  refine dE rfl rfl λQ K=>?_;apply ai;simp[aJ.row];apply aU;simp;refine jI l.length (λj t H=>t.g 0=G (sl g (aW l))/\t.g 3=.c (.ptr 0 0 0)/\H[0]?=E [Z s.meet,Z s.room,Z s.eo,Z s.size,.f (sl s.st.cg (aK s.st.cs)),Z s.st.len,.f (sl s.st.xg (ay s.st.xs))]/\∀x∈l.take j,¬ (x.meet=s.meet/\x.room=s.room)) ap rfl bv ⟨bv,bv,rfl,bv⟩ ?_ ?_ ?_
  .rintro j t H L z ⟨m,u,v,d⟩ q M;simp[q,m];exact M _ ⟨by simp[m],by simp[u],v,d⟩ (by simp[q]) bv
  .rintro j t H z ⟨m,u,v,d⟩ q next
   have y:¬ (l[j].meet=s.meet/\l[j].room=s.room)->∀x∈l.take (j+1),¬ (x.meet=s.meet/\x.room=s.room):=λO x A=>by
    rw[agV,BY z]at A;rcases agP.1 A with A|A
    .exact d x A
    .simp at A;subst A;exact O
   have B:=λH:an=>ib (H:=H) (k:=0) (cY l) (fP z) rfl;have I:=λH:an=>ib (H:=H) (k:=1) (cY l) (fP z) rfl;simp[aJ.row]at B I;apply ax;apply ai;by_cases F:l[j].meet=s.meet
   .by_cases J:l[j].room=s.room
    .simp[m,u,q,v,bu,z,B,I,F,J];refine aq bv ?_;apply ai;simp;refine av (K _ _ _ ⟨ae,bv,rfl⟩ ?_);simp
    .simp[m,u,q,v,bu,z,B,I,F,J];refine aC bv (aQ (au (next _ _ ?_ (by simp[q]))));exact⟨by simp[m],by simp[u],v,y (by simp[J])⟩
   .simp[m,u,q,v,bu,z,B,F];refine aC bv (aQ (au (next _ _ ?_ (by simp[q]))));exact⟨by simp[m],by simp[u],v,y (by simp[F])⟩
  .rintro t H ⟨m,u,v,d⟩ q;apply ai;simp;refine av (K _ _ _ ⟨ag,λ_=>by rwa[agW]at d,rfl⟩ ?_);simp
 obtain⟨r,⟨b,N,rfl⟩,h⟩:=key;exact⟨b,N,h.eq⟩
def pI:C->Option Nat
 | .sl b _ _ _ _ _=>aa b| _=>ab
def LS(H:an)(c:C)(ss:List aJ):Prop:=(ss=[]/\c=.f .es)\/(ss≠[]/\∃b d fl,c=.sl b 0 ss.length 0 d 7/\H[b]?=aa (.dz 7 ((aW ss).flatten.map .f) fl d .loc)/\fl<=(aW ss).flatten.length)
def LS.bS{H':an}{ss:List aJ}(h:LS H e ss)(g:∀i y,H[i]?=aa y->pI e=aa i->H'[i]?=aa y):LS H' e ss:=by
 rcases h with h|⟨h,b,d,fl,rfl,h2,h3⟩
 .exact .inl h
 .exact .inr ⟨h,b,d,fl,rfl,g b _ h2 rfl,h3⟩
def LS.push{ss:List aJ}(h:LS H e ss)(J:an):LS (H++J) e ss:=h.bS λi y hy _=>by rw[AI (aj hy)];exact hy
def LS.lt{ss:List aJ}(h:LS H e ss)(hi:pI e=aa m):m<H.length:=by
 rcases h with⟨_,rfl⟩|⟨h,b,d,fl,rfl,h2,h3⟩
 .cases hi
 .cases hi;exact aj h2
def LS.cm{ss:List aJ}(h:LS H e ss){x:bV}(d:H[m]?=aa x)(g:uO x=ae):pI e≠aa m:=by
 rcases h with⟨_,rfl⟩|⟨h,b,j,fl,rfl,h2,h3⟩
 .simp[pI]
 .intro c;cases c;rw[h2]at d;cases d;cases g
def qP(ss:List aJ)(x:aJ):(aW (ss++[x])).flatten=(aW ss).flatten++x.row:=by simp[aW]
def LS.app{ss:List aJ}(h:LS H e ss)(hl:ss.length<=1000){b1 fl1:Nat}{x:aJ}(s:H[b1]?=aa (.box (x.row.map .f) fl1)) :
  ∃l H',bZ H 7 88 (.c e) (.c (.sl b1 0 1 1 0 7))=aa (.c l,H')/\LS H' l (ss++[x])/\H.length<=H'.length/\(∀(i:Nat) y,H[i]?=aa y->pI e≠aa i->H'[i]?=aa y)/\(pI l=pI e\/pI l=aa H.length):=by
 have g:dI H 7 (.c (.sl b1 0 1 1 0 7))=aa (1,x.row.map .f):=kh s (by rfl);rcases h with⟨rfl,rfl⟩|⟨v,b,m,fl,rfl,h2,h3⟩
 .have d:cF 1 88=ae:=by simp[cF]
  refine⟨.sl H.length 0 1 0 0 7,H++[.dz 7 (x.row.map .f) 0 0 .loc],?_,.inr ⟨bv,H.length,0,0,bv,?_,bv⟩,bv,λi y hy _=>by rw[AI (aj hy)];exact hy,.inr rfl⟩
  .simp[bZ,g,d]
  .simp[aW]
 .have d:cF (ss.length+1) 88=ae:=md
  have j:ss.length*7=(aW ss).flatten.length:=by rw[cz (cY ss),nN]
  refine⟨.sl b 0 (ss.length+1) 0 (m+1) 7,H.set b (.dz 7 ((aW ss).flatten.map .f++x.row.map .f) fl (m+1) .loc),?_,.inr ⟨bv,b,m+1,fl,bv,?_,?_⟩,bv,λi y hy u=>?_,.inl rfl⟩
  .have q:(7:Nat)≠0:=pi
   simp only[bZ,g,q,if_false,h2,and_self,if_true];simp only[Nat.add_one_ne_zero,if_false];rw[ct ⟨trivial,by rw[agS];exact j,by rw[agS];exact h3⟩,d];simp
  .rw[By (aj h2),qP,ahQ]
  .rw[qP,agM];omega
  .have:b≠i:=by rintro rfl;exact u rfl
   rw[sh this];exact hy
def LS.len{c:C}{ss:List aJ}(h:LS H c ss):bA H c=aa ss.length:=by
 rcases h with⟨rfl,rfl⟩|⟨h,b,d,fl,rfl,h2,h3⟩
 .rfl
 .simp[bA,h2]
theorem LS.at{H:an}{c:C}{ss:List aJ}(h:LS H c ss){j:Nat}(g:j<ss.length):∃b d,bO H 7 ab (.c c) (vi j)=aa (.c (.ptr b (j*7) d))/\aV H (aa 7) (.c (.ptr b (j*7) d))=aa (.a (ss[j].row.map .f)):=by
 rcases h with⟨rfl,rfl⟩|⟨h,b,d,fl,rfl,h2,h3⟩
 .simp at g
 .refine⟨b,d,?_,?_⟩
  .have:(j:Int)<ss.length:=ii
   simp[bO,fE,h2,this]
  .have hd:=ob (k:=0) (cY ss) (fP g) ap;rw[Nat.add_zero]at hd;simp only[aw,h2,if_true];rw[<-ait,hd];simp[aJ.row]
def LS.ex{ss:List aJ}(h:LS H e ss)(n:Nat):∃g,fv (n+1) H e=aa (sl g (aW ss)):=by
 rcases h with⟨rfl,rfl⟩|⟨h,b,d,fl,rfl,h2,h3⟩
 .exact⟨.es,rfl⟩
 .refine⟨.fs,?_⟩;have hl:ss.length*7=(aW ss).flatten.length:=by rw[cz (cY ss),nN]
  simp only[gR,h2];rw[ct ⟨trivial,trivial,by rw[agS,Nat.zero_add,hl];exact agQ _⟩,ahR,agY (by rw[agS];omega),kr];cases ss with
  |nil=>exact absurd rfl h| cons x l=>simp[sl,aW]
def LS.mk{ss:List aJ}(h:LS H e ss)(n:Nat):LS (ez (n+1) e H) e ss/\(ez (n+1) e H).length=H.length/\∀(i:Nat) y,H[i]?=aa y->pI e≠aa i->(ez (n+1) e H)[i]?=aa y:=by
 rcases h with⟨rfl,rfl⟩|⟨h,b,d,fl,rfl,h2,h3⟩
 .exact⟨.inl ⟨rfl,rfl⟩,rfl,λi y hy _=>hy⟩
 .have hl:ss.length*7=(aW ss).flatten.length:=by rw[cz (cY ss),nN]
  have c:ez (n+1) (.sl b 0 ss.length 0 d 7) H=H.set b (.dz 7 ((aW ss).flatten.map .f) (Nat.max fl (0+ss.length*7)) d .loc):=by
   simp only[jY,h2];rw[jF];intro x g;have g:=List.mem_of_mem_drop (List.mem_of_mem_take g);obtain⟨m,_,rfl⟩:=agX.1 g;exact⟨_,rfl⟩
  rw[c];refine⟨.inr ⟨h,b,d,_,rfl,By (aj h2),Nat.max_le.2 ⟨h3,ap⟩⟩,bv,λi y hy j=>?_⟩;have:b≠i:=by rintro rfl;exact j rfl
  rw[sh this];exact hy
def gP(l:List oP):List (List FC):=l.map oP.row
@[simp]theorem VZ (l:List oP):(gP l).length=l.length:=by simp[gP]
theorem Dr(l:List oP):cZ 10 (gP l):=cZ.map λ_=>rfl
def Ir{l:List oP}(b:m<l.length):(gP l)[m]?=aa l[m].row:=by simp[gP,b]
def mG(l:List aJ):Prop:=l.Pairwise λa b=>eS a b=ae
def rj:eS p w=ae↔p.meet<w.meet\/(p.meet=w.meet/\p.room<w.room):=by simp[eS]
def mG.ins(h:mG c)(g:∀x∈c,¬ (x.meet=p.meet/\x.room=p.room)):mG (c.filter (λx=>eS x p)++[p]++c.filter λx=>!eS x p):=by
 have key:∀b∈c.filter (λx=>!eS x p),eS p b=ae:=λb hb=>by
  obtain⟨h1,h2⟩:=ahB.1 hb;have h3:=g b h1;have h4:¬ eS b p=ae:=by simpa using h2
  rw[rj]at h4 ⊢;omega
 unfold mG;rw[ahT,ahT];refine⟨⟨h.filter _,ahN _ _,λa d b hb=>?_⟩,h.filter _,λa d b hb=>?_⟩
 .obtain rfl:=If.1 hb;exact(ahB.1 d).2
 .have h1:=key b hb;rcases agP.1 d with d|d
  .have h2:=(ahB.1 d).2;rw[rj]at *;omega
  .obtain rfl:=If.1 d;exact h1
def MP(l:List aJ)(s:aJ):(l.filter (λx=>eS x s)++[s]++l.filter λx=>!eS x s).length=l.length+1:=by
 induction l with
 |nil=>rfl
 |cons x l b=>
  cases h:eS x s<;>simp[List.filter_cons,h]at b ⊢<;>omega
def ui(l:List aJ)(p:aJ->Bool)(k:Nat):((l.take k).filter p).length<=l.length:=by
 have b:=ahV p (l.take k);have d:=List.length_take_le' k l;omega
def Q6(h:w∈c.filter (λw=>eS w p)++[p]++c.filter λw=>!eS w p):w=p\/w∈c:=by
 simp only[agP,ahB,If]at h;rcases h with(h|h)|h
 .exact .inr h.1
 .exact .inl h
 .exact .inr h.1
def rq{p:aJ->Bool}(b:m<c.length):(c.take (m+1)).filter p=(c.take m).filter p++(if p c[m]then [c[m]]else []):=by
 rw[agV,BY b,aix];cases h:p c[m]<;>simp[h]
def Dj(c b:C):Prop:=∀i,pI c=aa i->pI b≠aa i
def Y0{g:C}{ss nx:List aJ}{y:bV}(h:LS H e ss)(q:LS H g nx)(s:Dj e g)(A:nx.length<=1000)(j:H[b]?=aa y)(B:uO y=ae)(x:aJ) :
  ∃l H',bZ (H++[.box (x.row.map .f) 0]) 7 88 (.c g) (.c (.sl H.length 0 1 1 0 7))=aa (.c l,H')/\LS H' e ss/\LS H' l (nx++[x])/\Dj e l/\H'[b]?=aa y:=by
 obtain⟨l,H',u,v,I,m,d⟩:=(q.push [.box (x.row.map .f) 0]).app A (b1:=H.length) (fl1:=0) (x:=x) bv;refine⟨l,H',u,?_,v,?_,?_⟩
 .exact(h.push [.box (x.row.map .f) 0]).bS λi z F hi=>m i z F (s i hi)
 .intro i hi;rcases d with d|d
  .rw[d];exact s i hi
  .rw[d];have:=h.lt hi;simp;omega
 .refine m _ _ (by rw[AI (aj j)];exact j) (q.cm j B)
def NL(g:Tg)(l:List oP)(hl:l.length<=9223372036854775807)(hx:∀x∈l,x.OK):∃g' ss,ss.length<=5/\mG ss/\(∀s∈ss,s.jR)/\bf tab Gt [G (sl g (gP l))]=Eq (G (sl g' (aW ss))):=by
 have key:∃r,(∃g' ss,ss.length<=5/\mG ss/\(∀s∈ss,s.jR)/\r=G (sl g' (aW ss)))/\bf tab Gt [G (sl g (gP l))] r:=by
  refine dE rfl rfl λQ hQ=>?_;apply ai;simp;apply ai;simp;apply aU;simp;refine jI (min l.length 5) (λj t H=>t.g 0=G (sl g (gP l))/\∃c ss,t.g 3=.c c/\LS H c ss/\ss.length<=j/\mG ss/\∀s∈ss,s.jR) ap rfl bv
   ⟨bv,.f .es,[],bv,.inl ⟨rfl,rfl⟩,bv,List.Pairwise.nil,bv⟩ ?_ ?_ ?_
  .rintro j t H L hj ⟨u,c,ss,q,W,hb,S,hf⟩ v hL;by_cases k1:j<l.length
   .simp[v,u,k1];refine hL _ ⟨by simp[u],c,ss,by simp[q],W,hb,S,hf⟩ (by simp[v]) ?_;simp;omega
   .simp[v,u,k1];refine hL _ ⟨by simp[u],c,ss,by simp[q],W,hb,S,hf⟩ (by simp[v]) ?_;simp;omega
  .rintro j t H hj ⟨u,c,ss,q,W,hb,S,hf⟩ v next
   have d_:j<l.length:=ii
   obtain⟨s,hs,z⟩:=JW l[j] (hx _ (IN d_));have z:=bf.eq z;have c_:=λH:an=>cf (H:=H) (Dr l) (Ir d_);simp only[oP.row,IT,agN]at c_ z;have Y:s.row.map C.f=[Z s.meet,Z s.room,Z s.eo,Z s.size,.f (sl s.st.cg (aK s.st.cs)),Z s.st.len,.f (sl s.st.xg (ay s.st.xs))]:=rfl;rw[Y]at z;apply ax;apply ai;simp[u,v,bu,d_,c_,z];have kN:(H++[bV.box [Z s.meet,Z s.room,Z s.eo,Z s.size,.f (sl s.st.cg (aK s.st.cs)),Z s.st.len,.f (sl s.st.xg (ay s.st.xs))] 0])[H.length]?=E [Z s.meet,Z s.room,Z s.eo,Z s.size,.f (sl s.st.cg (aK s.st.cs)),Z s.st.len,.f (sl s.st.xg (ay s.st.xs))]:=lw
   have kL:=W.push [bV.box [Z s.meet,Z s.room,Z s.eo,Z s.size,.f (sl s.st.cg (aK s.st.cs)),Z s.st.len,.f (sl s.st.xg (ay s.st.xs))] 0];obtain⟨bN,f_⟩:=aH (H.length);rw[<-f_]at kN ⊢;generalize H++[bV.box [Z s.meet,Z s.room,Z s.eo,Z s.size,.f (sl s.st.cg (aK s.st.cs)),Z s.st.len,.f (sl s.st.xg (ay s.st.xs))] 0]=HA at kN kL ⊢;obtain⟨g2,N⟩:=kL.ex 63;have N:fv deep HA c=aa (sl g2 (aW ss)):=N;obtain⟨m1,m2,m3⟩:=kL.mk 63;have d9:ez (63+1) c HA=ez deep c HA:=rfl;rw[d9]at m1 m2 m3;have mN:=m3 _ _ kN (kL.cm kN rfl);obtain⟨bl,g_,c9⟩:=M8 g2 ss s ap;rw[Y]at c9;apply aU;simp[q,kN,N,c9];generalize ez deep c HA=HB at m1 m2 mN ⊢;cases bl
   case true=>
    refine aq bv ?_;refine bQ rfl ?_;refine next _ _ ⟨by simp[u],c,ss,by simp[q],m1,ap,S,hf⟩ (by simp[v])
   refine bG bv ?_;apply ai;simp;have b_:=λx:aJ=>Hf x s;have h_:=g_ rfl;have a_:∀(t:T) (H:an) (y:C) (nx:List aJ),t.g 0=G (sl g (gP l))->t.g 3=.c c->t.g 4=vi j->t.g 5=.c (.ptr bN 0 0)->t.g 6=.c y->H[bN]?=E [Z s.meet,Z s.room,Z s.eo,Z s.size,.f (sl s.st.cg (aK s.st.cs)),Z s.st.len,.f (sl s.st.xg (ay s.st.xs))]->
     LS H c ss->LS H y nx->Dj c y->nx=ss.filter (λx=>eS x s)++[s]->
     WP tab Gt ab [.code KZ,.inBlock 1,.code (Bq 4 18 19),.inLoop (rE 0 4 17 18 19 [⟨D 10,.ju (R 4),ab⟩,⟨D 11,.ju (R 0),ab⟩,⟨D 12,.len (R 11),ab⟩,⟨D 13,.bin .lss (R 10) (R 12),ab⟩,⟨D 14,.ju (R 13),ab⟩,⟨D 15,.ju (R 4),G9 14 ae⟩,⟨D 16,.bin .lss (R 15) (.k (G (.int .i64 5))),G9 14 ae⟩,⟨D 17,.pick (R 14) (R 16) (.k (G (.bool ag))),ab⟩] KY),.inBlock 0,.code K6] ⟨t,[],H⟩ Q:=by
    intro t H y nx u q J F K I B m U d;apply aU;simp;refine jI ss.length (λk t H=>t.g 0=G (sl g (gP l))/\t.g 3=.c c/\t.g 4=vi j/\t.g 5=.c (.ptr bN 0 0)/\H[bN]?=E [Z s.meet,Z s.room,Z s.eo,Z s.size,.f (sl s.st.cg (aK s.st.cs)),Z s.st.len,.f (sl s.st.xg (ay s.st.xs))]/\LS H c ss/\
     ∃y nx,t.g 6=.c y/\LS H y nx/\Dj c y/\nx=ss.filter (λx=>eS x s)++[s]++(ss.take k).filter λx=>!eS x s) ap rfl bv
     ⟨by simp[u],by simp[q],by simp[J],by simp[F],I,B,y,nx,by simp[K],m,U,by simpa using d⟩ ?_ ?_ ?_
    .rintro k t H L hk ⟨u,q,J,F,I,B,y,nx,K,m,U,d⟩ v hL;simp[v,q,B.len];exact hL _ ⟨by simp[u],by simp[q],by simp[J],by simp[F],I,B,y,nx,by simp[K],m,U,d⟩ (by simp[v]) bv
    .rintro k t H hk ⟨u,q,J,F,I,B,y,nx,K,m,U,d⟩ v A;obtain⟨b,ep,hi,O⟩:=B.at hk;have M:=b_ ss[k];rw[Y]at M;simp only[aJ.row,IT,agN]at O M;apply ax;apply ai;simp[q,F,v,hi,O,-aw,show aV H (aa 7) (.c (.ptr bN 0 0))=aa (.a [Z s.meet,Z s.room,Z s.eo,Z s.size,.f (sl s.st.cg (aK s.st.cs)),Z s.st.len,.f (sl s.st.xg (ay s.st.xs))]) by simp[I],M];cases X:eS ss[k] s
     .obtain⟨c',H',e1,e2,e3,e4,e5⟩:=Y0 B m U (by rw[d];have q1:=ui ss (λx=>eS x s) k;have q2:=ui ss (λx=>!eS x s) k;have q3:=ahV (λx=>eS x s) ss;(try simp only[agM,aiv]);omega) I rfl ss[k];simp only[aJ.row,IT,agN]at e1;refine aq bv ?_;apply ba;simp[q,K,v,hi,O,-aw,e1];refine au (A _ _ ?_ (by simp[v]));refine⟨by simp[u],by simp[q],by simp[J],by simp[F],e5,e2,c',nx++[ss[k]],bv,e3,e4,?_⟩;rw[rq hk,d];simp[X]
     .refine aC bv (aQ (au (A _ _ ?_ (by simp[v]))));exact⟨by simp[u],by simp[q],by simp[J],by simp[F],I,B,y,nx,by simp[K],m,U,by rw[rq hk,d];simp[X]⟩
    .rintro t H ⟨u,q,J,F,I,B,y,nx,K,m,U,d⟩ e_;apply ba;simp[K];rw[agW]at d;subst d;refine au (next _ _ ⟨by simp[u],y,_,bv,m,?_,S.ins h_,λx hx=>?_⟩ (by simp[J]))
     .have:=MP ss s;omega
     .rcases Q6 hx with rfl|hx
      .exact hs
      .exact hf x hx
   apply aU;simp;refine jI ss.length (λk t H=>t.g 0=G (sl g (gP l))/\t.g 3=.c c/\t.g 4=vi j/\t.g 5=.c (.ptr bN 0 0)/\H[bN]?=E [Z s.meet,Z s.room,Z s.eo,Z s.size,.f (sl s.st.cg (aK s.st.cs)),Z s.st.len,.f (sl s.st.xg (ay s.st.xs))]/\LS H c ss/\
    ∃y nx,t.g 6=.c y/\LS H y nx/\Dj c y/\nx=(ss.take k).filter λx=>eS x s) ap rfl bv
    ⟨by simp[u],by simp[q],by simp[v],bv,mN,m1,.f .es,[],bv,.inl ⟨rfl,rfl⟩,λi _=>by simp[pI],bv⟩ ?_ ?_ ?_
   .rintro k t H L hk ⟨u,q,J,F,I,B,y,nx,K,m,U,d⟩ v hL;simp[v,q,B.len];exact hL _ ⟨by simp[u],by simp[q],by simp[J],by simp[F],I,B,y,nx,by simp[K],m,U,d⟩ (by simp[v]) bv
   .rintro k t H hk ⟨u,q,J,F,I,B,y,nx,K,m,U,d⟩ v A;obtain⟨b,ep,hi,O⟩:=B.at hk;have M:=b_ ss[k];rw[Y]at M;simp only[aJ.row,IT,agN]at O M;apply ax;apply ai;simp[q,F,v,hi,O,-aw,show aV H (aa 7) (.c (.ptr bN 0 0))=aa (.a [Z s.meet,Z s.room,Z s.eo,Z s.size,.f (sl s.st.cg (aK s.st.cs)),Z s.st.len,.f (sl s.st.xg (ay s.st.xs))]) by simp[I],M];cases X:eS ss[k] s
    .refine aC bv (aQ (au (A _ _ ?_ (by simp[v]))));exact⟨by simp[u],by simp[q],by simp[J],by simp[F],I,B,y,nx,by simp[K],m,U,by rw[rq hk,d];simp[X]⟩
    .obtain⟨c',H',e1,e2,e3,e4,e5⟩:=Y0 B m U (by rw[d];have q1:=ui ss (λx=>eS x s) k;have q2:=ui ss (λx=>!eS x s) k;have q3:=ahV (λx=>eS x s) ss;(try simp only[agM,aiv]);omega) I rfl ss[k];simp only[aJ.row,IT,agN]at e1;refine aq bv ?_;apply ba;simp[q,K,v,hi,O,-aw,e1];refine au (A _ _ ?_ (by simp[v]));refine⟨by simp[u],by simp[q],by simp[J],by simp[F],e5,e2,c',nx++[ss[k]],bv,e3,e4,?_⟩;rw[rq hk,d];simp[X]
   .rintro t H ⟨u,q,J,F,I,B,y,nx,K,m,U,d⟩ e_;obtain⟨c',H',e1,e2,e3,e4,e5⟩:=Y0 B m U (by rw[d];have q1:=ui ss (λx=>eS x s) ss.length;omega) I rfl s;rw[Y]at e1;apply ai;simp[F,K,I,e1];refine a_ _ H' c' (nx++[s]) (by simp[u]) (by simp[q]) (by simp[J]) (by simp[F]) bv e5 e2 e3 e4 (by rw[d,agW])
  .rintro t H ⟨u,c,ss,q,W,hb,S,hf⟩ v;obtain⟨g2,N⟩:=W.ex 63;have N:fv deep H c=aa (sl g2 (aW ss)):=N;apply ai;simp[q];refine av (hQ _ _ _ ⟨g2,ss,ap,S,hf,rfl⟩ ?_);simp[N]
 obtain⟨r,⟨g',ss,h1,h2,h3,rfl⟩,h⟩:=key;exact⟨g',ss,h1,h2,h3,bf.eq h⟩
def fR(d:jj l h):l.length=3:=by
 obtain⟨a,b,c,_,_,_,rfl⟩:=d;rfl
def vm(q:jj l h)(hi:B<l.length)(m:b<l.length):fO B b l[B] l[b]=fQ h B b:=by
 have x:=fR q;obtain⟨a,k,c,s,u,v,rfl⟩:=q;obtain⟨a1,d,a3⟩:=ko s;obtain⟨b1,g,y⟩:=ko u;obtain⟨z,j,A⟩:=ko v;rw[x]at hi m
 match B,hi,b,m with
 |0,_,0,_=>cases h<;>simp[fO,fQ]
 |0,_,1,_=>cases h<;>simp[fO,fQ,d,g]
 |0,_,2,_=>cases h<;>simp[fO,fQ,d,j]
 |1,_,0,_=>cases h<;>simp[fO,fQ,d,g]
 |1,_,1,_=>cases h<;>simp[fO,fQ]
 |1,_,2,_=>cases h<;>simp[fO,fQ,g,j]
 |2,_,0,_=>cases h<;>simp[fO,fQ,d,j]
 |2,_,1,_=>cases h<;>simp[fO,fQ,g,j]
 |2,_,2,_=>cases h<;>simp[fO,fQ]
def zW(b:jj l h)(hi:m<l.length):l[m].q.length<=64/\l[m].p.length<=64:=pz (tL b) hi
def NR(g:jj l h)(hi:b<l.length):0<=l[b].eB/\l[b].eB<=20/\0<=l[b].fY/\l[b].fY<=20:=by
 have B:=fR g;obtain⟨a,i,c,s,u,v,rfl⟩:=g;have d:∀{r:bw},Good r->0<=r.eB/\r.eB<=20/\0<=r.fY/\r.fY<=20:=by
  rintro r ⟨a,i,c,cap,m,j,F,q,rfl,_,_,_,_,_,x,y,z,A,_⟩;exact⟨x,y,z,A⟩
 rw[B]at hi
 match b,hi with
 |0,_=>exact d s| 1,_=>exact d u| 2,_=>have q:=d v;cases h<;>exact q
def zX(g:Tg)(b:jj l h)(i k:Int)(d:0<=i)(m:i<=2)(j:0<=k)(q:k<=2):bf tab Cw [G (sl g (rows l)),vi i,vi k]=Eq (vb (fQ h i.toNat k.toNat)):=by
 have s:=fR b;have:=B0 g l i.toNat k.toNat ap ap (zW b _).2 (zW b _).2;rw[vm b]at this;rwa[aiQ d,aiQ j]at this
def TU(h:eS p w=ae):rQ p w<0:=by
 rw[rj]at h;unfold rQ;simp only[Aq,eG]
 repeat' split
 all_goals omega
def NM(u:jj l h)(I:c.length<=5)(d:mG c)(g:∀s∈c,s.jR):wV l c=ae:=by
 have one:∀s:aJ,s.jR->jN l.length s=ae:=λs ⟨a1,A,a3,a4,a5,B,F,H,a9⟩=>by
  simp only[jN,fR u,kH a9.two];rw[fg ap ap,fg ap ap,fg ap ap];simp[a1]
 have q:∀(j:List aJ) (p:Option aJ),mG j->(∀s∈j,s.jR)->(∀m,p=aa m->∀s∈j,eS m s=ae)->iM l.length p j=ae:=by
  intro j;induction j with
  |nil=>intros;rfl
  |cons x j z=>
   intro p y g v;have b:=ahH.1 y;simp only[iM,one x (g x agR),ahJ,Bool.and_eq_true];refine⟨?_,z (aa x) b.2 (λs d=>g s (agU _ d)) λm e s d=>?_⟩
   .cases p with
    |none=>rfl| some m=>simpa using TU (v m rfl x agR)
   .cases e;exact b.1 s d
 simp only[wV,tL u,q c ab d g bv];simp;omega
def zJ(a b:FC)(r:Int):bf tab XQ [G a,G b,vi r]=Eq (G (.fn oN [.fp [b] 0,.fp [a] 0,.fp [fi r] 0])):=by
 refine bf.eq (bD rfl rfl λQ d=>?_);apply ai;simp;apply ai;simp;refine av (d _ _ ?_);simp[deep]
theorem Ed:∀cs:List FC,(∀c∈cs,∃k m,c=FC.int k m)->jW (FC.beq 63) cs cs=ae
 |[],_=>rfl
 |c::cs,h=>by
  obtain⟨k,m,rfl⟩:=h c agR;simp only[jW,Ed cs λx b=>h x (agU _ b),Bool.and_true];simp[FC.beq]
def A7(g:Tg)(xs:List aA):(V.c (C.f (sl g (ay xs)))).beq (V.c (C.f (sl g (ay xs))))=ae:=by
 show FC.beq 64 (sl g (ay xs)) (sl g (ay xs))=ae;cases xs with
 |nil=>cases g<;>rfl
 |cons x xs=>
  have:sl g (ay (x::xs))=.fs (ay (x::xs)).flatten (ay (x::xs)).length:=by simp[sl,ay]
  rw[this];show((_ == _)&&jW (FC.beq 63) _ _)=ae;rw[Ed]
  .simp
  .intro c b;obtain⟨r,d,b⟩:=List.mem_flatten.1 b;obtain⟨y,-,rfl⟩:=agX.1 d;simp only[aA.row,ag8,aid,or_false]at b;rcases b with rfl|rfl|rfl<;>exact⟨_,_,rfl⟩
def acG(k:IntKind)(n:Int):(V.c (C.f (.int k n))).beq (V.c (C.f (.int k n)))=ae:=by simp[V.beq,C.beq,FC.beq]
def sY(B:Int)(c:cM):cM:={ c with min:=c.min-B }
def ky(B A:Int)(x:aA):aA:=⟨x.day,x.fr-B,x.to+A⟩
def TD(B A:Int)(s o:aG):Prop:=o.cs=s.cs.map (sY B)/\o.len=s.len+B+A/\o.xs=s.xs.map (ky B A)
def TD.ok(h:TD n d a o)(q:cL a)(I:0<=n/\n<=20)(H:0<=d/\d<=20):dh o:=by
 obtain⟨h1,h2,h3⟩:=h;obtain⟨a1,v,a3,a4,a5,j⟩:=q;refine⟨?_,ap,ap,by rw[h3,agS];exact a4,?_,λx g=>?_⟩
 .rw[h1];rcases a1 with e|⟨f,p,l,mi,e,b1,b,b3,b4,A,m,z,F⟩
  .exact .inl (by rw[e];rfl)
  .exact .inr ⟨f,p,l,mi-n,by rw[e];rfl,b1,b,b3,b4,A,m,ap,ap⟩
 .rw[h3,List.pairwise_map];refine a5.imp (λ{x y} u=>?_);unfold aA.lt ky at *;simp only;omega
 .rw[h3]at g;obtain⟨y,hy,rfl⟩:=agX.1 g;obtain⟨b1,b,b3,b4,A⟩:=j y hy;simp only[CA,ky];omega
def Mf(g:Tg)(l:List cM)(m:l.length<=64):∃f:an->C × an,∀H,Ev tab (.fn GG) [G (sl g (aK l))] H=E2 (.c (f H).1) (H++(f H).2)/\LR (H++(f H).2) (f H).1 2 (aK l)/\∀i,bz (f H).1=aa i->H.length<=i:=by
 have h:∀H:an,∃p:C × an,Ev tab (.fn GG) [G (sl g (aK l))] H=E2 (.c p.1) (H++p.2)/\LR (H++p.2) p.1 2 (aK l)/\∀i,bz p.1=aa i->H.length<=i:=λH=>by
  obtain⟨r,H',j,c,J,rfl,rfl,b,d⟩:=ua (g:=g) (H:=H) (rows:=aK l) Yw ce (dN l) md;exact⟨(c,J),j.eq,b,d⟩
 exact⟨λH=>Classical.choose (h H),λH=>Classical.choose_spec (h H)⟩
def QE(g:Tg)(l:List aA)(m:l.length<=64):∃f:an->C × an,∀H,Ev tab (.fn GH) [G (sl g (ay l))] H=E2 (.c (f H).1) (H++(f H).2)/\LR (H++(f H).2) (f H).1 3 (ay l)/\∀i,bz (f H).1=aa i->H.length<=i:=by
 have h:∀H:an,∃p:C × an,Ev tab (.fn GH) [G (sl g (ay l))] H=E2 (.c p.1) (H++p.2)/\LR (H++p.2) p.1 3 (ay l)/\∀i,bz p.1=aa i->H.length<=i:=λH=>by
  obtain⟨r,H',j,c,J,rfl,rfl,b,d⟩:=ua (g:=g) (H:=H) (rows:=ay l) Yx ce (bI l) md;exact⟨(c,J),j.eq,b,d⟩
 exact⟨λH=>Classical.choose (h H),λH=>Classical.choose_spec (h H)⟩
def Ri(r:bw)(b d:Int)(l:0<=r.eB/\r.eB<=20)(j:0<=r.fY/\r.fY<=20)(m:0<=b/\b<=1000000)(q:0<=d/\d<=1000000):bf tab Pu [.a (r.row.map .f),.a [Z b,Z d]]=Eq (.a [Z (b-r.eB),Z (d+r.fY)]):=bf.eq (by
 refine bD rfl rfl λQ g=>?_;apply ai;simp[bw.row];apply ai;simp[a8 (n:=b-r.eB),a8 (n:=d+r.fY)];refine av (g _ _ ?_);simp[jd,dq,bC])
def FK{b s:Type}(row:b->s)(f:b->b)(l:List b)(j:Nat)(d:j<l.length):((l.take j).map (row ∘ f)++(l.drop j).map row).set j (row (f l[j]))=(l.take (j+1)).map (row ∘ f)++(l.drop (j+1)).map row:=by
 have g:l.take (j+1)=l.take j++[l[j]]:=by rw[agV,BY d];rfl
 have m:l.drop j=l[j]::l.drop (j+1):=agT d;have q:((l.take j).map (row ∘ f)).length=j:=pp
 rw[g,m,ahQ,IT,List.set_append_right _ _ ap,q,aiD,List.set_cons_zero];simp
def EI{b m:Type}(row:b->m)(f:b->b)(l:List b)(j:Nat)(d:j<l.length):((l.take j).map (row ∘ f)++(l.drop j).map row)[j]?=aa (row l[j]):=by
 have g:((l.take j).map (row ∘ f)).length=j:=pp
 rw[agL ap,g,aiD,agT d];rfl
def E7(g:Tg)(ht:jj l h)(s:aJ)(hs:s.jR)(hk:s.room.toNat<l.length) :
  ∃o,TD l[s.room.toNat].eB l[s.room.toNat].fY s.st o/\bf tab vM [G (sl g (rows l)),.a (s.row.map .f)]=Eq (.t [.a (o.row.map .f),vb ae]):=by
 obtain⟨r,⟨o,ho,rfl⟩,hp⟩:∃r,(∃o,TD l[s.room.toNat].eB l[s.room.toNat].fY s.st o/\r=.t [.a (o.row.map .f),vb ae])/\bf tab vM [G (sl g (rows l)),.a (s.row.map .f)] r:=by
  refine dE rfl rfl λQ hQ=>?_;have i9:=λH:an=>cf (H:=H) (eh l) (rG hk);obtain⟨f1,f2,f3,f4,f5,f6,f7,f8,f9⟩:=hs;obtain⟨g_,r_,s7,t8,t_,q_⟩:=id f9;have m_:s.st.cs.length<=1:=by
   rcases g_ with e|⟨f,p,W,mi,e,_⟩<;>rw[e]<;>simp
  have i8:=λH:an=>bu (H:=H) (g:=g) (rows:=rows l) (sz:=15) (k:=.i64) (i:=s.room) f3 ge;obtain⟨j7,j8,j5,j6⟩:=NR ht hk;have i7:=λfr to hf p_=>Ri l[s.room.toNat] fr to ⟨j7,j8⟩ ⟨j5,j6⟩ hf p_;simp only[bw.row,IT,agN]at i9 i7;obtain⟨fc,h_⟩:=Mf s.st.cg s.st.cs ap;obtain⟨fx,i6⟩:=QE s.st.xg s.st.xs ap;have ec:=λH=>(h_ H).1;have ex:=λH=>(i6 H).1;generalize l[s.room.toNat]=r at *;have k_:∀(t:T) (H:an) (u A:C) (n:Nat),t.g 3=.c (.ptr 0 0 0)->t.g 4=.c (.ptr 1 0 0)->t.g 6=.c (.ptr 2 0 0)->t.g 7=.c (.ptr n 0 0)->2<n->
    H[1]?=E [.f .aN,Z 0,.f .aN]->H[2]?=E [Z r.cap,Z r.eB,Z r.fY,.f r.o0,.f r.o1,.f r.o2,.f r.o3,.f r.o4,.f r.o5,.f r.o6,.f r.o7,.f r.o8,.f r.o9,.f (sl r.qg (fm r.q)),.f (sl r.pg (ints r.p))]->
    H[n]?=E [u,Z (s.st.len+r.eB+r.fY),A]->LR H u 2 (aK s.st.cs)->LR H A 3 (ay s.st.xs)->(∀i,bz u=aa i->bz A≠aa i)->
    WP tab vM ab [.code OS] ⟨t,[],H⟩ Q:=by
   intro t H u A n g3 g4 g6 M hn k1 U K v z hD;apply aU;have a_:=v.len;rw[Ag]at a_;simp[M,K,a_];refine bW s.st.cs.length (λj t H=>t.g 3=.c (.ptr 0 0 0)/\t.g 4=.c (.ptr 1 0 0)/\t.g 6=.c (.ptr 2 0 0)/\t.g 7=.c (.ptr n 0 0)/\H[1]?=E [.f .aN,Z 0,.f .aN]/\H[2]?=E [Z r.cap,Z r.eB,Z r.fY,.f r.o0,.f r.o1,.f r.o2,.f r.o3,.f r.o4,.f r.o5,.f r.o6,.f r.o7,.f r.o8,.f r.o9,.f (sl r.qg (fm r.q)),.f (sl r.pg (ints r.p))]/\
     H[n]?=E [u,Z (s.st.len+r.eB+r.fY),A]/\LR H u 2 ((s.st.cs.take j).map (cM.row ∘ sY r.eB)++(s.st.cs.drop j).map cM.row)/\LR H A 3 (ay s.st.xs)) ap ce ce bv bv
    ⟨by simp[g3],by simp[g4],by simp[g6],by simp[M],k1,U,K,by simpa[aK]using v,z⟩ ?_ ?_
   .rintro j t H S ⟨g3,g4,g6,M,k1,U,K,v,z⟩ ha hb nx;have I:cZ 2 ((s.st.cs.take j).map (cM.row ∘ sY r.eB)++(s.st.cs.drop j).map cM.row):=by
     intro x hx;rcases agP.1 hx with hx|hx<;>obtain⟨y,-,rfl⟩:=agX.1 hx<;>rfl
    have m:((s.st.cs.take j).map (cM.row ∘ sY r.eB)++(s.st.cs.drop j).map cM.row).length=s.st.cs.length:=pp
    have F:=EI cM.row (sY r.eB) s.st.cs j S;have b_:=FK cM.row (sY r.eB) s.st.cs j S;have r9:60<=s.st.cs[j].min/\s.st.cs[j].min<=1245:=by
     rcases g_ with e|⟨f,p,W,mi,e,_,_,_,_,_,_,m0,m1⟩
     .rw[e]at S;simp at S
     .have:s.st.cs[j]=⟨.fs,[⟨.fs,[cu f p W]⟩],mi⟩:=by
       have o_:j=0:=by rw[e]at S;simpa using S
       subst o_;simp[e]
      rw[this];exact⟨m0,m1⟩
    rcases v with⟨e,_⟩|⟨p9,b,ep,N,d⟩
    .have:=congrArg List.length e;rw[m,ah7]at this;omega
    rw[m]at N;have hi:=d.at (i:=j) (by rw[m];exact S);rw[m,<-N]at hi;have hl:=d.ldc I F (k:=1) (x:=fi s.st.cs[j].min) rfl;obtain⟨H',e',Y,B,-⟩:=d.stp I F (k:=1) (xs:=[fi (s.st.cs[j].min-r.eB)]) bv;have d_:over s.st.cs[j].row 1 [fi (s.st.cs[j].min-r.eB)]=(sY r.eB s.st.cs[j]).row:=rfl;rw[d_,b_]at Y;have b1:(1:Nat)≠b:=by rintro rfl;unfold RB at d;rw[k1]at d;cases d
    have b2:(2:Nat)≠b:=by rintro rfl;unfold RB at d;rw[U]at d;cases d
    have bn:n≠b:=by rintro rfl;unfold RB at d;rw[K]at d;cases d
    apply ax;apply ai;simp[ha];apply ba;simp only[IT,agN]at e';have ln:aV H ab (.c (.ptr n 0 0))=aa (.c u):=by simp[K]
    have l2:aV H ab (.c (.ptr 2 1 0))=aa (vi r.eB):=by simp[U]
    simp[g6,M,ln,l2,hi,hl,-aw,-bF,a8 (n:=s.st.cs[j].min-r.eB),e'];refine au (nx _ _ ⟨by simp[g3],by simp[g4],by simp[g6],by simp[M],?_,?_,?_,.inr ⟨?_,b,ep,?_,Y⟩,?_⟩ (by simp[ha]) (by simp[hb]))
    .exact B.get k1 b1
    .exact B.get U b2
    .exact B.get K bn
    .intro e;have q:=congrArg List.length e;rw[agM,agS,agS,ahl,ag5,ah7]at q;omega
    .rw[N]
     congr 1
     simp;omega
    .exact z.bS λi y hy hi=>B.get hy (λe=>hD b (by rw[N];rfl) (by rw[<-e];exact hi))
   .rintro t H ⟨g3,g4,g6,M,k1,U,K,v,z⟩ ha hb;rw[agW,aib,agN,ahe]at v;apply aU;have a_:=z.len;rw[gK]at a_;simp[M,K,a_];refine bW s.st.xs.length (λj t H=>t.g 3=.c (.ptr 0 0 0)/\t.g 4=.c (.ptr 1 0 0)/\t.g 6=.c (.ptr 2 0 0)/\t.g 7=.c (.ptr n 0 0)/\H[1]?=E [.f .aN,Z 0,.f .aN]/\H[2]?=E [Z r.cap,Z r.eB,Z r.fY,.f r.o0,.f r.o1,.f r.o2,.f r.o3,.f r.o4,.f r.o5,.f r.o6,.f r.o7,.f r.o8,.f r.o9,.f (sl r.qg (fm r.q)),.f (sl r.pg (ints r.p))]/\
      H[n]?=E [u,Z (s.st.len+r.eB+r.fY),A]/\LR H u 2 (s.st.cs.map (cM.row ∘ sY r.eB))/\LR H A 3 ((s.st.xs.take j).map (aA.row ∘ ky r.eB r.fY)++(s.st.xs.drop j).map aA.row)) ap ce ce bv bv
     ⟨by simp[g3],by simp[g4],by simp[g6],by simp[M],k1,U,K,v,by simpa[ay]using z⟩ ?_ ?_
    .rintro j t H S ⟨g3,g4,g6,M,k1,U,K,v,z⟩ ha hb nx;have I:cZ 3 ((s.st.xs.take j).map (aA.row ∘ ky r.eB r.fY)++(s.st.xs.drop j).map aA.row):=by
      intro x hx;rcases agP.1 hx with hx|hx<;>obtain⟨y,-,rfl⟩:=agX.1 hx<;>rfl
     have m:((s.st.xs.take j).map (aA.row ∘ ky r.eB r.fY)++(s.st.xs.drop j).map aA.row).length=s.st.xs.length:=by
      rw[agM,agS,agS,ahl,ag5];omega
     have F:=EI aA.row (ky r.eB r.fY) s.st.xs j S;have b_:=FK aA.row (ky r.eB r.fY) s.st.xs j S;obtain⟨x1,x2,x3,x4,x5⟩:=q_ s.st.xs[j] (IN S);have n8:=i7 s.st.xs[j].fr s.st.xs[j].to ap ap;rcases z with⟨e,_⟩|⟨p9,b,ep,O,d⟩
     .have:=congrArg List.length e;rw[m,ah7]at this;omega
     rw[m]at O;have hi:=d.at (i:=j) (by rw[m];exact S);rw[m,<-O]at hi;have hl:=d.ldp I F (k:=1) (n:=2) ap;obtain⟨H',e',Y,B,-⟩:=d.stp I F (k:=1) (xs:=[fi (s.st.xs[j].fr-r.eB),fi (s.st.xs[j].to+r.fY)]) bv;have d_:over s.st.xs[j].row 1 [fi (s.st.xs[j].fr-r.eB),fi (s.st.xs[j].to+r.fY)]=(ky r.eB r.fY s.st.xs[j]).row:=rfl;rw[d_,b_]at Y;have b1:(1:Nat)≠b:=by rintro rfl;unfold RB at d;rw[k1]at d;cases d
     have b2:(2:Nat)≠b:=by rintro rfl;unfold RB at d;rw[U]at d;cases d
     have bn:n≠b:=by rintro rfl;unfold RB at d;rw[K]at d;cases d
     apply ax;apply ai;simp[ha];apply ba;simp only[IT,agN]at e';simp only[aA.row,List.drop_succ_cons,ahR,List.take_succ_cons,List.take_zero,IT,agN]at hl;have ln:aV H ab (.c (.ptr n 2 0))=aa (.c A):=by simp[K]
     have l2:aV H (aa 15) (.c (.ptr 2 0 0))=aa (.a [Z r.cap,Z r.eB,Z r.fY,.f r.o0,.f r.o1,.f r.o2,.f r.o3,.f r.o4,.f r.o5,.f r.o6,.f r.o7,.f r.o8,.f r.o9,.f (sl r.qg (fm r.q)),.f (sl r.pg (ints r.p))]):=by simp[U]
     simp[g6,M,ln,l2,hi,hl,n8,-aw,-bF,e'];refine au (nx _ _ ⟨by simp[g3],by simp[g4],by simp[g6],by simp[M],?_,?_,?_,?_,.inr ⟨?_,b,ep,?_,Y⟩⟩ (by simp[ha]) (by simp[hb]))
     .exact B.get k1 b1
     .exact B.get U b2
     .exact B.get K bn
     .exact v.bS λi y hy hi=>B.get hy (λe=>hD i hi (by rw[e,O];rfl))
     .intro e;have q:=congrArg List.length e;rw[agM,agS,agS,ahl,ag5,ah7]at q;omega
     .rw[O]
      congr 1
      rw[agM,agS,agS,ahl,ag5];omega
    .rintro t H ⟨g3,g4,g6,M,k1,U,K,v,z⟩ ha hb;rw[agW,aib,agN,ahe]at z;have r1:s.st.cs.map (cM.row ∘ sY r.eB)=aK (s.st.cs.map (sY r.eB)):=by simp[aK]
     have r2:s.st.xs.map (aA.row ∘ ky r.eB r.fY)=ay (s.st.xs.map (ky r.eB r.fY)):=by simp[ay]
     rw[r1]at v;rw[r2]at z;have x1:=v.x;have x2:=z.x;obtain⟨g1,e_⟩:=x1.ex (dN _);obtain⟨g2,f_⟩:=x2.ex (bI _);have y1:LX (ez deep u H) u 2 (aK (s.st.cs.map (sY r.eB))):=x1.mk x1 63;have y2:LX (ez deep u H) A 3 (ay (s.st.xs.map (ky r.eB r.fY))):=x2.mk x1 63;have z1:LX (ez deep A (ez deep u H)) u 2 (aK (s.st.cs.map (sY r.eB))):=y1.mk y2 63;have z2:LX (ez deep A (ez deep u H)) A 3 (ay (s.st.xs.map (ky r.eB r.fY))):=y2.mk y2 63;have r7:(ez deep u H)[1]?=E [.f .aN,Z 0,.f .aN]:=x1.E3 63 k1;have c_:(ez deep A (ez deep u H))[1]?=E [.f .aN,Z 0,.f .aN]:=y2.E3 63 r7;have h1:fv deep H u=aa (sl g1 (aK (s.st.cs.map (sY r.eB)))):=e_ H 63 x1;have h2:fv deep H A=aa (sl g2 (ay (s.st.xs.map (ky r.eB r.fY)))):=f_ H 63 x2;have d9:TD r.eB r.fY s.st ⟨g1,s.st.cs.map (sY r.eB),s.st.len+r.eB+r.fY,g2,s.st.xs.map (ky r.eB r.fY)⟩:=⟨rfl,rfl,rfl⟩
     have i_:=d9.ok f9 ⟨j7,j8⟩ ⟨j5,j6⟩;have c9:=rJ _ (lL i_);rw[kH i_]at c9;simp only[aG.row,IT,agN]at c9;apply ai;simp[g4,M,K,h1,h2,c9,c_];generalize ez deep A (ez deep u H)=HM at z1 z2 c_ ⊢;have j9:=e_ (HM.set 1 (.box [u,Z (s.st.len+r.eB+r.fY),A] 0)) 63 (z1.set (z1.cm c_) _);have j_:=f_ (HM.set 1 (.box [u,Z (s.st.len+r.eB+r.fY),A] 0)) 63 (z2.set (z2.cm c_) _);have r6:(HM.set 1 (.box [u,Z (s.st.len+r.eB+r.fY),A] 0))[1]?=E [u,Z (s.st.len+r.eB+r.fY),A]:=By (aj c_);refine av (hQ _ _ _ ⟨_,d9,rfl⟩ ?_);have hd:deep=63+1:=rfl;simp[g4,r6,aG.row,jd,dq,bC,hd,j9,j_]
  apply ai;simp[aJ.row];apply ai;simp[i8,i9];have w1:=a8 (n:=s.st.len+r.eB);have w2:=a8 (n:=s.st.len+r.eB+r.fY);obtain⟨L,X⟩:=aH ([bV.box [Z s.meet,Z s.room,Z s.eo,Z s.size,.f (sl s.st.cg (aK s.st.cs)),Z s.st.len,.f (sl s.st.xg (ay s.st.xs))] 0,bV.box [.f .aN,Z 0,.f .aN] 0,bV.box [Z r.cap,Z r.eB,Z r.fY,.f r.o0,.f r.o1,.f r.o2,.f r.o3,.f r.o4,.f r.o5,.f r.o6,.f r.o7,.f r.o8,.f r.o9,.f (sl r.qg (fm r.q)),.f (sl r.pg (ints r.p))] 0]);rw[<-X];have s_:L.length=3:=by rw[X];rfl
  have q0:∀J,(L++J)[0]?=aa (bV.box [Z s.meet,Z s.room,Z s.eo,Z s.size,.f (sl s.st.cg (aK s.st.cs)),Z s.st.len,.f (sl s.st.xg (ay s.st.xs))] 0):=λJ=>by rw[X];rfl
  have q1:∀J,(L++J)[1]?=aa (bV.box [.f .aN,Z 0,.f .aN] 0):=λJ=>by rw[X];rfl
  have q2:∀J,(L++J)[2]?=aa (bV.box [Z r.cap,Z r.eB,Z r.fY,.f r.o0,.f r.o1,.f r.o2,.f r.o3,.f r.o4,.f r.o5,.f r.o6,.f r.o7,.f r.o8,.f r.o9,.f (sl r.qg (fm r.q)),.f (sl r.pg (ints r.p))] 0):=λJ=>by rw[X];rfl
  have p0:=q0 [];have p2:=q2 [];rw[ahe]at p0 p2;obtain⟨u,N⟩:=aH ((fc L).1);obtain⟨J1,l_⟩:=aH ((fc L).2);have e1:=ec L;have m1:=(h_ L).2;rw[<-N,<-l_]at e1 m1;obtain⟨A,O⟩:=aH ((fx (L++J1)).1);obtain⟨J2,m9⟩:=aH ((fx (L++J1)).2);have e2:=ex (L++J1);have m2:=(i6 (L++J1)).2;rw[<-O,<-m9,ahm]at e2 m2;refine aE (eH (.inl rfl) ?_ ?_)
  case _=>
   simp[p0,p2,q0,q2,e1,e2,w1,w2];refine k_ _ _ u A _ bv bv bv (by simp;rfl) ap ?_ ?_ ?_ ?_ ?_ ?_
   .exact q1 _
   .exact q2 _
   .rw[<-ahm,<-ahm,agL bv];have:L.length+(J1.length+J2.length)-(L++J1++J2).length=0:=lw
    rw[this];rfl
   .have:=(m1.1.push J2).push [bV.box [u,C.f (FC.int IntKind.i64 (s.st.len+r.eB+r.fY)),A] 0];simpa[ahm]using this
   .have:=m2.1.push [bV.box [u,C.f (FC.int IntKind.i64 (s.st.len+r.eB+r.fY)),A] 0];simpa[ahm]using this
   .intro i n9 n_;have a1:=m1.1.lt n9;have a2:=m2.2 i n_;omega
  .intro c hc;simp only[ag8,aid,or_false]at hc;rcases hc with rfl|rfl|rfl|rfl|rfl|rfl|rfl
   iterate 6
    .refine⟨ce,_,rfl,.inl ⟨ce,?_⟩⟩;simp[p0,p2,q0,q2,e1,e2,gE,acG]
   .refine⟨ce,_,rfl,.inr ⟨ce,?_⟩⟩;simp[p0,p2,q0,q2,e1,e2,gE,A7]
 exact⟨o,ho,bf.eq hp⟩
structure jD where(lo hi:Int)(cl:Option Nat)
structure jD.OK(o:jD):Prop where
 h0:0<=o.lo
 h1:o.lo<o.hi
 h2:o.hi<=1440
 hc:∀c,o.cl=aa c->c<20
def jD.row(o:jD):List FC:=mT o.lo o.hi (vU o.cl)
def Aj(h:Good r):∃o:jD,o.OK/\r.op=o.row.map .f:=by
 obtain⟨a,b,c,cap,g,d,x,q,rfl,m,s,u,-⟩:=h;have e:∃cl:Option Nat,(∀c,cl=aa c->c<20)/\oR c=vU cl:=by
  match c,u with
  |0,_|1,_|2,_|3,_|4,_|5,_|6,_|7,_|8,_|9,_|10,_|11,_|12,_|13,_|14,_|15,_|16,_|17,_|18,_|19,_|20,_=>first|exact⟨ab,bv,rfl⟩|exact⟨aa _,bv,rfl⟩
  |n+21,h=>exact absurd h ap
 obtain⟨cl,j,l⟩:=e;refine⟨⟨60*a,1440-60*b,cl⟩,⟨by show 0<=60*(a:Int);omega,by show 60*(a:Int)<1440-60*b;omega,by show 1440-60*(b:Int)<=1440;omega,j⟩,?_⟩;have v:sR a b=pO (60*a) (1440-60*b):=by
  match a,m,b,s with
  |0,_,0,_|0,_,1,_|0,_,2,_|1,_,0,_|1,_,1,_|1,_,2,_|2,_,0,_|2,_,1,_|2,_,2,_=>rfl| n+3,h,_,_=>exact absurd h ap
  |_,_,n+3,h=>exact absurd h ap
 simp[bw.op,uE,jD.row,mT,l,v]
def dP(b d:FC)(x:aJ):FC:=.fp ([b,d]++x.row) 0
def mJ(g:Tg)(v:jj l h)(y:FC)(x:aJ)(q:0<=x.room)(z:x.room<=2)(u:l[x.room.toNat]?=aa r):bf tab XO [G (dP (sl g (rows l)) y x)]=Eq (.a (r.row.map .f)):=bf.eq (by
 have A:=fR v;refine bD rfl rfl λQ s=>?_;have b:=λH:an=>bu (H:=H) (g:=g) (rows:=rows l) (sz:=15) (k:=.i64) (i:=x.room) q ge;have m:=λH:an=>cf (H:=H) (eh l) (j:=x.room.toNat) (row:=r.row) (by rw[rows,ahF,u];rfl);apply ai;simp;apply ai;simp[dP,lU,aX,aJ.row,b,m,bw.row];refine av (s _ _ ?_);simp[jd,dq,deep,bC,bw.row])
def Rl(g:Tg)(Y:jj l h)(v:FC)(x:aJ)(J:0<=x.room)(L:x.room<=2)(S:l[x.room.toNat]?=aa r){o:jD}(B:o.OK)(W:r.op=o.row.map .f)(X:dh x.st) :
  ∃(b:Bool) (y:aA),(b=ae↔∀z,tT x.st z->ey o.lo o.hi o.cl z.fr z.to=ae)/\(b=ag->tT x.st y/\ey o.lo o.hi o.cl y.fr y.to=ag/\y.fr<=2000000)/\∀H:an,∃H':an,Kp H H'/\
   Ev tab (.fn Ct) [G (dP (sl g (rows l)) v x)] H (.t [.a (if b then [Z 0,Z 0,Z 0,Z 0,Z 0,Z 0,Z 0,Z 0]else [Z 16,Z 0,Z y.day,Z y.fr,Z y.to,Z 0,Z 0,Z 0]),vi 0]) H':=by
 obtain⟨b,y,O,q,A⟩:=Rk B.h0 B.h1 B.h2 o.cl B.hc x.st X;have j:=mJ g Y v x J L S;have s:r.row.map C.f=Z r.cap::Z r.eB::Z r.fY ::(o.row.map .f++[.f (sl r.qg (fm r.q)),.f (sl r.pg (ints r.p))]):=by
  rw[<-W];rfl
 rw[s]at j;have m:mP 3 (aa 10) (.a (Z r.cap::Z r.eB::Z r.fY ::(o.row.map .f++[.f (sl r.qg (fm r.q)),.f (sl r.pg (ints r.p))])))=aa (.a (o.row.map .f)):=rfl;change bf tab DW [.a (o.row.map .f),.a (x.st.row.map .f)]=_ at A;have u:∀K:an,aV K (aa 3) (G (.fp ([sl g (rows l),v]++x.row) 6))=aa (.a (x.st.row.map .f)):=λK=>rfl;refine⟨b,y,O,q,λH=>?_⟩;obtain⟨d,H',U,rfl,M⟩:∃d H',Ev tab (.fn Ct) [G (dP (sl g (rows l)) v x)] H d H'/\(d=(.t [.a (if b then [Z 0,Z 0,Z 0,Z 0,Z 0,Z 0,Z 0,Z 0]else [Z 16,Z 0,Z y.day,Z y.fr,Z y.to,Z 0,Z 0,Z 0]),vi 0])/\Kp H H'):=by
  refine dc rfl rfl λQ N=>?_;obtain⟨a,F⟩:=aH ([sl g (rows l),v]++x.row);simp only[dP]at j ⊢;rw[<-F]at j u ⊢;obtain⟨c,I⟩:=aH (o.row);rw[<-I]at j m A;simp only[aA.row,IT,agN]at A;cases b
  all_goals repeat' first
   |(apply aE)
   |(apply ax)
   |(apply aQ)
   |(refine bQ rfl ?_)
   |(refine aq ?_ ?_;focus (simp;done))
   |(refine aC ?_ ?_;focus (simp;done))
   |(apply ba;simp[j,m,u,A])
  all_goals
   refine av (N _ _ _ rfl ?_ ⟨rfl,Kp.push _ _⟩);simp[Km.results,cB,bC,aX]
 exact⟨H',M,U⟩
def noR:List C:=[Z 0,Z 0,Z 0,Z 0,Z 0,Z 0,Z 0,Z 0]
def Eh(g:Tg)(A:jj l h)(j:FC)(x:aJ)(q:0<=x.room)(s:x.room<=2)(y:l[x.room.toNat]?=aa r)(H:an) :
  ∃H':an,Kp H H'/\Ev tab (.fn Cs) [G (dP (sl g (rows l)) j x)] H (.t [.a (if r.cap<x.size then [Z 14,Z 0,Z 0,Z 0,Z 0,Z 0,Z 0,Z 0]else noR),vi 0]) H':=by
 have b:=mJ g A j x q s y;simp only[bw.row,IT,agN,dP,aJ.row,ahO,List.nil_append]at b;obtain⟨d,H',z,rfl,u⟩:∃d H',Ev tab (.fn Cs) [G (dP (sl g (rows l)) j x)] H d H'/\(d=(.t [.a (if r.cap<x.size then [Z 14,Z 0,Z 0,Z 0,Z 0,Z 0,Z 0,Z 0]else noR),vi 0])/\Kp H H'):=by
  refine dc rfl rfl λQ v=>?_;by_cases m:r.cap<x.size
  all_goals repeat' first
   |(apply aE)
   |(apply ax)
   |(apply aQ)
   |(refine bQ rfl ?_)
   |(refine aq ?_ ?_;focus (simp;done))
   |(refine aC ?_ ?_;focus (simp;done))
   |(apply ba;simp[dP,aJ.row,b,m,mP,gm])
  all_goals
   refine av (v _ _ _ rfl ?_ ⟨rfl,Kp.push _ _⟩);simp[Km.results,cB,bC,aX,m,noR]
 exact⟨H',u,z⟩
def JS(x y:aJ):Bool:=decide (x.meet=y.meet/\x.room=y.room)
def wU(x y:aJ):Prop:=x.meet<y.meet\/x.meet=y.meet/\x.room<y.room
theorem Y5(g:Tg)(ss:List aJ)(x:aJ)(hl:ss.length<=1000)(hs:ss.Pairwise wU) :
  ∃(i:Nat) (w:Bool),(w=ae↔∃y∈ss,JS y x=ae)/\bf tab GD [G (sl g (aW ss)),.a (x.row.map .f),G (.fn sG [])]=Eq (.t [vi i,vb w]):=by
 obtain⟨rows,d⟩:=aH (aW ss);obtain⟨s,B⟩:∃s:List FC->Int,∀y:aJ,s y.row=rQ y x:=⟨λr=>match r with| .int _ a::.int _ b::_=>Aq [eG a x.meet,eG b x.room]|_=>0,λy=>by simp[aJ.row,rQ]⟩
 have d_:rows.length=ss.length:=by rw[d];simp[aW]
 have N:∀r∈rows,∃y∈ss,r=y.row:=λr hr=>by
  rw[d]at hr;obtain⟨y,hy,rfl⟩:=agX.1 hr
  grind
 have hg:cZ 7 rows:=by rw[d];exact cY ss
 have S:∀y:aJ,(rQ y x<0↔wU y x)/\(0<rQ y x↔wU x y):=λy=>by
  unfold rQ wU;simp only[Aq,eG];omega
 have a_:∀(i:Nat) (h:i<rows.length),rows[i]=(ss[i]'(by omega)).row:=λi h=>by
  subst d;simp[aW]
 have hp:∀(i j:Nat) (hi:i<j) (u:j<rows.length),0<=s rows[i]->0<s rows[j]:=λi j hi u h=>by
  rw[a_,B]at h ⊢;rw[(S _).2];have h1:¬ wU (ss[i]'(by omega)) x:=λh'=>by have:=(S _).1.2 h';omega
  have h2:wU (ss[i]'(by omega)) (ss[j]'(by omega)):=List.pairwise_iff_getElem.1 hs i j ap ap hi;unfold wU at *;omega
 have c_:∀y:aJ,s y.row=0↔JS y x=ae:=λy=>by
  rw[B];unfold rQ;simp only[Aq,eG,JS]
  repeat' split
  all_goals simp
  all_goals omega
 obtain⟨i,h1,h2,h3,w,h4,h⟩:∃i:Nat,i<=rows.length/\(∀j (u:j<rows.length),j<i->s rows[j]<0)/\(∀j (u:j<rows.length),i<=j->0<=s rows[j])/\
   ∃w:Bool,(w=ae↔∃h:i<rows.length,s rows[i]=0)/\bf tab GD [G (sl g rows),.a (x.row.map .f),G (.fn sG [])]=Eq (.t [vi i,vb w]):=by
  obtain⟨r,⟨i,h1,h2,h3,w,h4,rfl⟩,h⟩:∃r,(∃i:Nat,i<=rows.length/\(∀j (u:j<rows.length),j<i->s rows[j]<0)/\(∀j (u:j<rows.length),i<=j->0<=s rows[j])/\∃w:Bool,(w=ae↔∃h:i<rows.length,s rows[i]=0)/\r=.t [vi i,vb w])/\
    bf tab GD [G (sl g rows),.a (x.row.map .f),G (.fn sG [])] r:=by
   refine dE rfl rfl λQ hQ=>?_;have ask:∀(q:Nat) (hq:q<rows.length) (H:an),∃J,bO H 7 ab (G (sl g rows)) (vi q)=aa (G (.fp rows.flatten (q*7)))/\aV H (aa 7) (G (.fp rows.flatten (q*7)))=aa (.a (rows[q].map .f))/\Ev tab (.fn sG) [.a (rows[q].map .f),.a (x.row.map .f)] H=E2 (vi (s rows[q])) (H++J):=by
    intro q hq H;obtain⟨y,hy,e⟩:=N rows[q] (IN hq);obtain⟨J,c3⟩:=Jp y x H;have hi:=bu (H:=H) (g:=g) (rows:=rows) (sz:=7) (k:=.i64) (i:=(q:Int)) ap ap;rw[ag7]at hi;refine⟨J,hi,cf hg (BY hq),?_⟩;rw[e,B];exact c3.eq
   apply ai;simp[aJ.row];apply ai;simp;apply ai;simp;apply aE;apply ax;refine di (λm s'=>∃(lo hi:Nat) (t:T) (H:an),s'=⟨t,[],H⟩/\m=hi-lo/\lo<=hi/\hi<=rows.length/\t.g 0=G (sl g rows)/\t.g 4=.c (.ptr 0 0 0)/\H[0]?=E (x.row.map .f)/\t.g 2=G (.fn sG [])/\t.g 8=vi rows.length/\t.g 9=vi lo/\t.g 10=vi hi/\
    (∀j (u:j<rows.length),j<lo->s rows[j]<0)/\(∀j (u:j<rows.length),hi<=j->0<=s rows[j])) rows.length
    ⟨0,rows.length,_,_,rfl,ap,ap,ap,bv,bv,rfl,bv,bv,bv,bv,bv,by intros;omega⟩ ?_
   rintro m s' ⟨lo,hi,t,H,rfl,rfl,d9,L,U,X,F,W,Y,I,v,A,z⟩ next
   have lx:∀K:an,K[0]?=H[0]?->aV K (aa 7) (.c (.ptr 0 0 0))=aa (.a (x.row.map .f)):=λK hK=>by simp[aV,az,hK.trans F,aX,aJ.row]
   apply aU;simp[I,v];by_cases b_:lo<hi
   .refine aq (by simp[b_]) (aQ ?_);obtain⟨q,hq⟩:=aH ((lo+hi) / 2);have M:q<rows.length:=ii
    have e1:de BinOp.shr (V.c (C.f (FC.int IntKind.u64 (IntKind.u64.wrap ((lo:Int)+hi))))) (V.c (C.f (FC.int IntKind.u64 1)))=aa (G (.int .u64 (q:Int))):=by
     have:IntKind.u64.wrap ((lo:Int)+hi)=(lo:Int)+hi:=by
      show((lo:Int)+hi) % 18446744073709551616=_;omega
     rw[this];show aa (V.c (C.f (FC.int IntKind.u64 (Int.fdiv ((lo:Int)+hi) (2 ^ (min (1:Int).toNat IntKind.u64.bits))))))=_;have h3:Int.fdiv ((lo:Int)+hi) (2 ^ (min (1:Int).toNat IntKind.u64.bits))=q:=by
      show Int.fdiv ((lo:Int)+hi) 2=q
      grind
     grind
    have hw:=a8 (n:=(lo:Int)+hi);have c9:ah .i64 (q:Int)=q:=a8;obtain⟨J,i1,l1,he⟩:=ask q M H;apply ax;apply ai;simp[I,v,hw,e1,c9];apply ai;have O:(H++J)[0]?=E (x.row.map .f):=by rw[AI (aj F)];exact F
    simp[U,X,W,i1,l1,lx H rfl,cr,he,-aw];by_cases hc:s rows[q]<0
    .refine aq (by simp[hc]) ?_;apply ba;simp[a8 (n:=(q:Int)+1)];refine au (next (hi-(q+1)) _ ap ⟨q+1,hi,_,_,rfl,rfl,ap,ap,by simp[U],by simp[X],O,by simp[W],by simp[Y],bv,by simp[v],λj u h=>?_,z⟩);rcases Int.lt_or_le (s rows[j]) 0 with h5|h5
     .omega
     .by_cases e:j=q
      .grind
      .have:=hp j q ap M h5;omega
    .refine aC (by simp[hc]) ?_;apply ba;simp;refine au (next (q-lo) _ ap ⟨lo,q,_,_,rfl,rfl,ap,ap,by simp[U],by simp[X],O,by simp[W],by simp[Y],by simp[I],bv,A,λj u h=>?_⟩);by_cases e:j=q
     .grind
     .have:=hp q j ap u ap;omega
   .have:lo=hi:=ii
    subst this;refine aC bv ?_;refine bQ rfl ?_;apply ai;by_cases l:lo<rows.length
    .obtain⟨J,i1,l1,he⟩:=ask lo l H;simp[U,X,W,Y,I,l,i1,l1,lx H rfl,cr,he,-aw];refine av (hQ _ _ _ ⟨lo,L,A,z,decide (s rows[lo]=0),by simp[l],rfl⟩ ?_);simp
    .simp[Y,I,l];refine av (hQ _ _ _ ⟨lo,L,A,z,ag,by simp[l],rfl⟩ ?_);simp
  exact⟨i,h1,h2,h3,w,h4,h.eq⟩
 subst d;refine⟨i,w,?_,h⟩;rw[h4];constructor
 .grind
 .rintro⟨y,hy,e⟩;obtain⟨j,u,rfl⟩:=ag1 hy
  grind
def py(ss:List aJ)(x:aJ):Bool:=ss.any λy=>JS y x
def SI(h:mG c):c.Pairwise wU:=aiZ (λh=>rj.1 h) h
theorem CI(g g':Tg)(u:jj l h)(ss:List aJ)(H:ss.length<=5)(v:mG ss)(B:∀s∈ss,s.jR)(x:aJ)(K:x.jR) :
  bf tab XM [G (sl g (rows l)),G (sl g' (aW ss)),.a (x.row.map .f)]=Eq (.t [G (dP (sl g (rows l)) (sl g' (aW ss)) x),vb (!py ss x)]):=by
 obtain⟨i,w,J,j⟩:=Y5 g' ss x ap (SI v);have A:w=py ss x:=by rw[aiq,J,py,aie]
 rw[<-A];have m:bf tab Gx [G (sl g (rows l)),G (sl g' (aW ss))]=Eq (vb ae):=by
  have h:=(UF g g' l ss (by have:=fR u;omega) (Cd u) ap λs v=>lL (B s v).2.2.2.2.2.2.2.2.two).eq;rwa[NM u H v B]at h
 have q:bf tab GB [G (sl g (rows l)),.a (x.row.map .f)]=Eq (vb ae):=by
  obtain⟨a1,L,a3,a4,a5,M,N,O,a9⟩:=K;have h:=(FZ g l x (by have:=fR u;omega) (lL a9.two)).eq;have e:jN l.length x=ae:=by
   simp only[jN,fR u,kH a9.two];rw[fg ap ap,fg ap ap,fg ap ap]
   grind
  grind
 obtain⟨U,z⟩:=aH (sl g' (aW ss));obtain⟨S,y⟩:=aH (sl g (rows l));rw[<-z]at m j ⊢;rw[<-y]at m q ⊢;obtain⟨a,b,c,d,e,f,k,I⟩:∃a b c d e f k,x.row=[a,b,c,d,e,f,k]:=⟨_,_,_,_,_,_,_,rfl⟩
 simp only[dP,I,IT,agN]at q j ⊢;refine bf.eq (bD rfl rfl λQ F=>?_)
 repeat' first
  |(refine av (F _ _ ?_))
  |(apply aE)
  |(apply ax)
  |(apply aQ)
  |(refine bQ rfl ?_)
  |(refine aq ?_ ?_;focus (simp;done))
  |(refine aC ?_ ?_;focus (simp;done))
  |(apply ba;simp[m,q,j,deep,gm])
 simp[Km.pY,Km.results,cB,bC,aX,deep,jd,dq]
def Hl{b:Type}{l:List b}(d:m<l.length)(p:b->Bool):(l.take (m+1)).filter p=(l.take m).filter p++(if p l[m]then [l[m]]else []):=by
 rw[agV,BY d,aix];simp[List.filter_cons]
def xq{PP:List aJ->an->Prop}{RR:List aJ->aJ->an->Prop}(rm:FC)(g':Tg)(ss:List aJ)(hl:ss.length<=1000)(k:Int)(l:aJ->Bool)
  (b_:∀s∈ss,bf tab Cw [G rm,vi s.room,vi k]=Eq (vb (l s)))
  (h0:PP [] H) (hp:∀d H J,PP d H->PP d (H++J))
  (hy:∀(d:List aJ) (s:aJ) (H:an),PP d H->s∈ss->∃(r:Bool) (H':an),Ev tab (.yield b) [.a (s.row.map .f)] H (vb r) H'/\(if r then PP (d++[s]) H' else RR d s H')) :
  ∃H',Ev tab (.fn oN) [.c (.yl b),G (.fp [sl g' (aW ss)] 0),G (.fp [rm] 0),G (.fp [fi k] 0)] H (.t []) H'/\(PP (ss.filter l) H'\/∃d s rest,ss.filter l=d++s::rest/\RR d s H'):=by
 obtain⟨r,H',L,rfl,h⟩:∃r H',Ev tab (.fn oN) [.c (.yl b),G (.fp [sl g' (aW ss)] 0),G (.fp [rm] 0),G (.fp [fi k] 0)] H r H'/\(r=.t []/\(PP (ss.filter l) H'\/∃d s rest,ss.filter l=d++s::rest/\RR d s H')):=by
  refine dc rfl rfl λQ hQ=>?_;apply ai;simp[lU];refine bW ss.length (λj t H'=>t.g 0=.c (.yl b)/\t.g 1=G (.fp [sl g' (aW ss)] 0)/\t.g 2=G (.fp [rm] 0)/\t.g 3=G (.fp [fi k] 0)/\t.g 7=G (sl g' (aW ss))/\PP ((ss.take j).filter l) H') ap ce ce bv bv
   ⟨bv,bv,bv,bv,bv,by simpa using h0⟩ ?_ ?_
  .rintro j t H' U ⟨Y,g1,M,N,g7,y⟩ ha hb next
   have q:=λH:an=>cf (H:=H) (cY ss) (fP U);have z:=λH:an=>bu (H:=H) (g:=g') (rows:=aW ss) (sz:=7) (k:=.i64) (i:=(j:Int)) ap ge;simp only[ag7]at z;have v:=b_ ss[j] (IN U);have K:=Hl U l;have A:=IN U;have m:ss.filter l=(ss.take j).filter l++((ss[j]::ss.drop (j+1)).filter l):=by
    rw[<-aix,<-agT U,List.take_append_drop]
   obtain⟨s,c9⟩:=aH (ss[j]);rw[<-c9]at q v K A m;obtain⟨row,u⟩:=aH (s.row.map C.f);have I:row.length=7:=by rw[u];rfl
   have a_:∃x,row[1]?=aa x/\x=Z s.room:=⟨_,by rw[u];rfl,rfl⟩
   rw[<-u]at q;obtain⟨b6,S⟩:=aH (H'.length);obtain⟨X,B⟩:=aH (H'++[bV.box row 0]);have F:=hp _ _ [bV.box row 0] y;rw[<-B]at F;have k1:X[b6]?=E row:=by rw[B,S];simp
   have l7:aV X (aa 7) (.c (.ptr b6 0 0))=aa (.a row):=by simp[aV,az,k1,aX,I,agY (Nat.le_of_eq I)]
   have l1:aV X ab (.c (.ptr b6 1 0))=aa (vi s.room):=by
    obtain⟨x,hx,rfl⟩:=a_;rw[u]at k1;simp[aV,az,k1,aJ.row,aX]
   apply ax;apply ai;simp[g7,ha,z,q,I,-aw];rw[<-B,<-S];apply aE;cases W:l s
   .rw[W]at v;apply ba;simp[M,N,lU,l1,v,-aw];refine aC bv (aQ (au (next _ _ ⟨by simp[Y],by simp[g1],by simp[M],by simp[N],by simp[g7],?_⟩ (by simp[ha]) (by simp[hb]))));rw[K];simpa[W]using F
   .rw[W]at v;obtain⟨r,H2,L,O⟩:=hy _ s X F A;have L:=L.eq;rw[<-u]at L;apply ba;simp[Y,M,N,lU,l1,l7,v,L,-aw];cases r with
    |true=>
     refine aC bv (aQ (au (next _ _ ⟨by simp[Y],by simp[g1],by simp[M],by simp[N],by simp[g7],?_⟩ (by simp[ha]) (by simp[hb]))));rw[K];simpa[W]using O
    |false=>
     refine aq bv (av (hQ _ _ (.t []) rfl rfl ⟨rfl,.inr ⟨_,s,(ss.drop (j+1)).filter l,?_,by simpa using O⟩⟩));rw[m,List.filter_cons,W];rfl
  .rintro t H' ⟨Y,g1,M,N,g7,y⟩ ha hb;rw[agW]at y;exact cN (hQ _ _ (.t []) rfl rfl ⟨rfl,.inl y⟩)
 exact⟨H',L,h⟩
def rY(n:Int):Int:=ah .i64 n
def B5(d:bw)(x:aA):bf tab XR [.a (d.row.map .f),.a (x.row.map .f)]=Eq (.a [Z x.day,Z (rY (x.fr+d.eB)),Z (rY (x.to-d.fY))]):=by
 simp only[bw.row,aA.row,IT,agN];refine bf.eq (bD rfl rfl λQ b=>?_)
 repeat' first
  |(refine av (b _ _ ?_))
  |(apply aE)
  |(apply ax)
  |(apply aQ)
  |(apply ba;simp)
 simp[Km.pY,Km.results,cB,bC,aX,deep,jd,dq,rY]
def NW(d b:bw)(s:aJ)(X Y:aA)(f:Bool):List Int:=if f then [15,s.meet,X.day,rY (X.fr+d.eB),rY (X.to-d.fY),Y.day,rY (Y.fr+b.eB),rY (Y.to-b.fY)]else [15,s.meet,0,0,0,0,0,0]
def Jn(d b:bw)(s:aJ)(X Y:aA)(f:Bool):(NW d b s X Y f).length=8:=by unfold NW;split<;>rfl
structure Tz(H:an)(cd:List FC)(own:aG)(J:an):Prop where
 k:Kp H J
 h1:J[H.length]?=E [.f (.fp cd 0)]
 h2:J[H.length+1]?=E (([0,0,0,0,0,0,0,0]:List Int).map λn=>Z n)
 h3:J[H.length+2]?=E [Z 0]
 h4:J[H.length+3]?=E (own.row.map .f)
 h5:J[H.length+4]?=E [.f (.bool ae)]
 cl:eQ [H.length+5] J
def Tz.bS{j:List FC}{g:aG}{J':an}(h:Tz H j g J)(hl:J.length<=J'.length)(d:∀i:Nat,i<J.length->i≠H.length+6->J'[i]?=J[i]?):Tz H j g J':=by
 have l:=aj (h.cl.on _ agR);have m:=h.k.1;refine⟨⟨ap,λb hb=>by rw[d b ap ap];exact h.k.2 b hb⟩,?_,?_,?_,?_,?_,⟨h.cl.nd,λi hi=>?_⟩⟩
 .rw[d _ ap ap];exact h.h1
 .rw[d _ ap ap];exact h.h2
 .rw[d _ ap ap];exact h.h3
 .rw[d _ ap ap];exact h.h4
 .rw[d _ ap ap];exact h.h5
 .rw[If.1 hi,d _ ap ap];exact h.cl.on _ agR
structure ClT(N:Nat)(t:T):Prop where
 g1:t.g 1=.c (.ptr N 0 0)
 g2:t.g 2=.c (.ptr (N+1) 0 0)
 g3:t.g 3=.c (.ptr (N+2) 0 0)
 g4:t.g 4=.c (.ptr (N+3) 0 0)
 g5:t.g 5=.c (.ptr (N+4) 0 0)
def wz(h:J[b]?=E (o.row.map .f)):aV J (aa 3) (.c (.ptr b 0 0))=aa (.a (o.row.map .f)):=by
 have:(o.row.map C.f).length=3:=rfl;simp[aV,az,h,aX,this,aG.row]
theorem Eo(gr:Tg){hh:Bool}(ht:jj l hh)(sd:FC)(x:aJ)(x0:0<=x.room)(x1:x.room<=2)(u_:l[x.room.toNat]?=aa r)(s:aJ)(s0:0<=s.room)(s1:s.room<=2){y:bw}(u9:l[s.room.toNat]?=aa y)(A o:aG)
  (ho:bf tab vM [G (sl gr (rows l)),.a (s.row.map .f)]=Eq (.t [.a (o.row.map .f),vb ae]))
  (m:Bool) (hm:bf tab jw [.a (A.row.map .f),.a (o.row.map .f)]=Eq (.t [vb m,vi 0]))
  (X Y:aA) (fd:Bool) (hf:bf tab fD [.a (A.row.map .f),.a (o.row.map .f),vi (-2251799813685248)]=Eq (.t [.a (X.row.map .f),.a (Y.row.map .f),vb fd]))
{tm:T} (M:ClT H.length tm) (hq:Tz H ([sl gr (rows l),sd]++x.row) A J)
  (h6:J[H.length+6]?=aa (.lp il tm [P.nat 41] iU gW .ready ab (H.length+5))) :
  ∃(I:Bool) (J':an),Ev tab (.yield (H.length+6)) [.a (s.row.map .f)] J (vb I) J'/\(if I then(s.meet=x.meet\/m=ag)/\Tz H ([sl gr (rows l),sd]++x.row) A J'/\J'[H.length+6]?=J[H.length+6]? else
   ¬ (s.meet=x.meet\/m=ag)/\Kp H J'/\J'[H.length+1]?=E ((NW r y s X Y fd).map λn=>Z n)/\J'[H.length+2]?=E [Z 0]/\eQ [H.length+5] J'/\
    J'[H.length+6]?=aa (.lp il tm [P.nat 41] iU gW .done (aa .ret) (H.length+5))):=by
 obtain⟨N,hN⟩:=aH (H.length);have z:=mJ gr ht sd x x0 x1 u_;have s_:=u9;have z7:=fR ht;have b_:=λH:an=>bu (H:=H) (g:=gr) (rows:=rows l) (sz:=15) (k:=.i64) (i:=s.room) s0 ge;have i9:=λH:an=>cf (H:=H) (eh l) (j:=s.room.toNat) (row:=y.row) (by rw[rows,ahF,s_];rfl);have j8:=B5 r X;have j9:=B5 y Y;obtain⟨cd,i8⟩:=aH ([sl gr (rows l),sd]++x.row);have l0:∀K:an,aV K ab (G (.fp cd 0))=aa (G (sl gr (rows l))):=λK=>by rw[i8];rfl
 have l2:∀K:an,aV K ab (G (.fp cd 2))=aa (vi x.meet):=λK=>by rw[i8];rfl
 simp only[dP]at z;rw[<-i8]at z hq ⊢;obtain⟨rm,x6⟩:=aH (sl gr (rows l));change ∀H:an,bO H 15 ab (G (sl gr (rows l))) (vi s.room)=_ at b_;change ∀H:an,aV H (aa 15) (G (.fp (rows l).flatten _))=_ at i9;rw[<-x6]at l0 b_ ho;obtain⟨rx,x9⟩:=aH (r.row);obtain⟨rsw,x8⟩:=aH (y.row);rw[<-x9]at z j8;rw[<-x8]at i9 j9;obtain⟨row,c9⟩:=aH (s.row);have w_:row.length=7:=by rw[c9];rfl
 rw[<-c9]at ho ⊢;obtain⟨ow,m9⟩:=aH (A.row);obtain⟨oo,j6⟩:=aH (o.row);have v_:oo.length=3:=by rw[j6];rfl
 obtain⟨xx,o_⟩:=aH (X.row);obtain⟨yy,p_⟩:=aH (Y.row);have n_:xx.length=3:=by rw[o_];rfl
 have p9:yy.length=3:=by rw[p_];rfl
 rw[<-j6]at ho hm hf;rw[<-m9]at hm hf;rw[<-o_]at hf j8;rw[<-p_]at hf j9;obtain⟨LP,s7⟩:∃LP:dB->Option aD->bV,LP=λst pd=>.lp il tm [P.nat 41] iU gW st pd (N+5):=⟨_,rfl⟩
 rw[<-hN]at h6 M ⊢;have cond:∃q:Bool,(q=ae↔(s.meet=x.meet\/m=ag)):=⟨decide (s.meet=x.meet\/m=ag),bv⟩
 obtain⟨q,n8⟩:=cond;refine⟨q,?_⟩;obtain⟨I,J',y_,rfl,h⟩:∃I J',Ev tab (.yield (N+6)) [.a (row.map .f)] J I J'/\(I=vb q/\(if q then Tz H cd A J'/\J'[N+6]?=J[N+6]? else
   Kp H J'/\J'[N+1]?=E ((NW r y s X Y fd).map λn=>Z n)/\J'[N+2]?=E [Z 0]/\eQ [N+5] J'/\
    J'[N+6]?=aa (.lp il tm [P.nat 41] iU gW .done (aa .ret) (N+5)))):=by
  have y8:=h6;refine dm (tab:=tab) (b:=N+6) (args:=[.a (row.map .f)]) (H:=J) h6 rfl λQ' l_=>?_;obtain⟨b6,i7⟩:=aH (J.length);have l6:=aj h6;refine aF (.inr rfl) ?_;simp[w_];rw[<-i7];obtain⟨J1,c_⟩:=aH (J++[bV.box (row.map .f) 0]);rw[<-c_];have k1:∀i:Nat,i<J.length->J1[i]?=J[i]?:=λi hi=>by rw[c_,AI hi]
  have d1:J1[b6]?=E (row.map .f):=by rw[c_,i7];simp
  have n1:J1.length=b6+1:=by rw[c_,i7];simp
  have e6:=(k1 _ l6).trans h6;refine eM e6 ?_;obtain⟨v,L⟩:=aH (J1.set (N+6) (LP .busy ab));have n2:v.length=b6+1:=by rw[L,agZ];exact n1
  have k2:∀i:Nat,i<J.length->i≠N+6->v[i]?=J[i]?:=λi hi j5=>by rw[L,sh (Ne.symm j5),k1 i hi]
  have q2:Tz H cd A v:=hq.bS ap λi hi j5=>k2 i hi ap;have d2:v[b6]?=E (row.map .f):=by rw[L,sh ap];exact d1
  have f6:v[N+6]?=aa (LP .busy ab):=by rw[L];exact By (aj e6)
  rw[s7]at L f6;rw[<-L];have g_:∀(t:T) (K:an),q=ae->v.length<=K.length->(∀i:Nat,i<v.length->K[i]?=v[i]?)->Q' ab ⟨t,[],K⟩:=by
   intro t K n9 hl Q;have p6:K[N+6]?=aa (.lp il tm [P.nat 41] iU gW .busy ab (N+5)):=by rw[Q _ ap];exact f6
   refine l_ _ _ _ _ _ _ _ _ _ _ rfl p6 ⟨by rw[n9];rfl,?_⟩;rw[ct n9];have n:K.length≥b6+1:=ii
   refine⟨hq.bS (by show J.length<=(K.set _ _).length;rw[agZ];omega) λi hi j5=>?_,?_⟩
   .grind
   .grind
  have lc:∀K:an,v.length<=K.length->(∀i:Nat,i<v.length->K[i]?=v[i]?)->aV K ab (.c (.ptr N 0 0))=aa (G (.fp cd 0))/\aV K ab (.c (.ptr (N+4) 0 0))=aa (vb ae)/\aV K (aa 3) (.c (.ptr (N+3) 0 0))=aa (.a (ow.map .f))/\aV K (aa 7) (.c (.ptr b6 0 0))=aa (.a (row.map .f))/\aV K ab (.c (.ptr b6 0 0))=aa (vi s.meet)/\aV K ab (.c (.ptr b6 1 0))=aa (vi s.room):=by
   intro K hl Q;have y1:=q2.h1;have y4:=q2.h4;have y5:=q2.h5;rw[<-hN]at y1 y4 y5;have z1:=(Q _ (aj y1)).trans y1;have z4:=(Q _ (aj y4)).trans y4;have z5:=(Q _ (aj y5)).trans y5;have z6:=(Q _ (aj d2)).trans d2;rw[m9];rw[c9]at z6 ⊢;exact⟨by simp[aV,az,z1],by simp[aV,az,z5],wz z4,by simp[aV,az,z6,aX,aJ.row],by simp[aV,az,z6,aJ.row],by simp[aV,az,z6,aJ.row]⟩
  obtain⟨a1,a2,a3,a4,a5,a6⟩:=lc v (agQ _) λ_ _=>rfl;apply ax;apply aE;refine aE (aF (.inr rfl) ?_);simp[M.g1,a1,a5,l2,-aw];by_cases i_:s.meet=x.meet
  .rw[decide_eq_true i_];refine aq bv (bQ (k':=[]) (by simp[Km.exitTo]) ?_);exact cN (g_ _ _ (n8.2 (.inl i_)) (agQ _) (λ_ _=>rfl))
  rw[decide_eq_false i_];refine bG bv ?_;apply aE;refine aF (.inr rfl) ?_;simp[M.g1,a1,a4,l0,ho,v_,-aw];obtain⟨O,d9⟩:=aH (v++[bV.box (oo.map .f) 0]);rw[<-d9];have k3:∀i:Nat,i<v.length->O[i]?=v[i]?:=λi hi=>by rw[d9,AI hi]
  have n3:O.length=v.length+1:=by rw[d9];simp
  have d7:O[v.length]?=E (oo.map .f):=by rw[d9];simp
  obtain⟨b7,t_⟩:=aH (v.length);rw[<-t_]at d7 n3 ⊢;have m7:∀K:an,K[b7]?=O[b7]?->aV K (aa 3) (.c (.ptr b7 0 0))=aa (.a (oo.map .f)):=λK h=>by
   rw[j6]at d7 ⊢;exact wz (h.trans d7)
  obtain⟨a1,a2,a3,a4,a5,a6⟩:=lc O ap k3;apply aE;refine aE (aF (.inr rfl) ?_);simp[M.g5,a2,-aw];refine bG bv ?_;refine aE (aF (.inr rfl) ?_);simp[M.g4,a3,m7 O rfl,hm,-aw];apply aE;refine aE (aF (.inr rfl) ?_);simp;refine bG bv ?_;apply aE;refine aE (aF (.inr rfl) ?_);simp;cases m with
  |false=>
   refine aq bv (bQ (k':=[]) (by simp[Km.exitTo]) ?_);exact cN (g_ _ _ (n8.2 (.inr rfl)) ap k3)
  |true=>
   have m_:q=ag:=by
    grind
   refine bG bv ?_;obtain⟨J4,U⟩:=aH (O++[bV.box (([15,s.meet,0,0,0,0,0,0]:List Int).map λn=>Z n) 0]);have k4:∀i:Nat,i<O.length->J4[i]?=O[i]?:=λi hi=>by rw[U,AI hi]
   have n4:J4.length=O.length+1:=by rw[U];simp
   have j_:J4[O.length]?=E (([15,s.meet,0,0,0,0,0,0]:List Int).map λn=>Z n):=by rw[U];simp
   obtain⟨d,h_⟩:=aH (O.length);simp only[IT,agN]at U;apply aE;refine aF (.inr rfl) ?_;simp[a5,-aw];rw[<-U,<-h_];rw[<-h_]at j_ n4;obtain⟨c1,c2,c3,c4,c5,c6⟩:=lc J4 ap λi hi=>(k4 i ap).trans (k3 i hi);obtain⟨B,W⟩:=aH (J4++[bV.box (xx.map .f) 0,bV.box (yy.map .f) 0]);have k5:∀i:Nat,i<J4.length->B[i]?=J4[i]?:=λi hi=>by rw[W,AI hi]
   have n5:B.length=d+3:=by rw[W,agM,n4];rfl
   have q_:B[d+1]?=E (xx.map .f):=by rw[W,agL ap,n4];simp
   have r6:B[d+2]?=E (yy.map .f):=by rw[W,agL ap,n4];simp
   refine aE (aE ?_);refine aF (.inr rfl) ?_;simp[M.g4,c3,m7 J4 (k4 _ ap),hf,n_,p9,-aw];rw[n4,<-W];clear hm ho hf c1 c2 c3 c4 c5 c6 a1 a2 a3 a4 a5 a6
   suffices go:∀u:T,ClT N u->u.g 6=.c (.ptr b6 0 0)->u.g 11=.c (.ptr d 0 0)->u.g 12=.c (.ptr (d+1) 0 0)->u.g 13=.c (.ptr (d+1+1) 0 0)->u.g 14=vb fd->
     WP tab il (aa (N+6)) [.code Lh,.code AJ,.inBlock 1] ⟨u,[],B⟩ Q' by
    exact go _ ⟨by simp[M.g1],by simp[M.g2],by simp[M.g3],by simp[M.g4],by simp[M.g5]⟩ bv bv bv bv bv
   clear M;intro u M g6 S r7 r9 r_;have j7:∀i:Nat,i<v.length->B[i]?=v[i]?:=λi hi=>(k5 i ap).trans ((k4 i ap).trans (k3 i hi));have F:=(k5 d ap).trans j_;have y2:=q2.h2;have y3:=q2.h3;rw[<-hN]at y2 y3;have k_:∀(u:T) (K:an) (zs:List Int),ClT N u->u.g 11=.c (.ptr d 0 0)->zs.length=8->zs=NW r y s X Y fd->B.length<=K.length->(∀i:Nat,i<v.length->K[i]?=v[i]?)->K[d]?=E (zs.map λn=>Z n)->
     WP tab il (aa (N+6)) [.code AJ,.inBlock 1] ⟨u,[],K⟩ Q':=by
    intro u K zs M S hz z_ hl Q hb;have l8:aV K (aa 8) (.c (.ptr d 0 0))=aa (.a (zs.map λn=>Z n)):=by
     have:(zs.map λn=>C.f (fi n)).length=8:=by simpa using hz
     simp[aV,az,hb,aX,hz,agY]
    have z2:=(Q _ (aj y2)).trans y2;have z3:=(Q _ (aj y3)).trans y3;obtain⟨K1,f_⟩:=aH (K.set (N+1) (.box (zs.map λn=>Z n) 0));have s1:dj K (.ptr (N+1) 0 0) (zs.map λn=>Z n)=aa K1:=by
     rw[f_]
     match zs,hz with
     |[p0,p1,p2,p3,p4,p5,p6,p7],_=>simp[dj,z2,over]
    have y7:K1[N+2]?=E [Z 0]:=by rw[f_,sh ap];exact z3
    obtain⟨K2,i6⟩:=aH (K1.set (N+2) (.box [Z 0] 0));have s2:dj K1 (.ptr (N+2) 0 0) [Z 0]=aa K2:=by rw[i6];simp[dj,y7,over]
    have kK:∀i:Nat,i≠N+1->i≠N+2->K2[i]?=K[i]?:=λi h1 h2=>by rw[i6,sh (Ne.symm h2),f_,sh (Ne.symm h1)]
    have kl:K2.length=K.length:=by rw[i6,f_];simp
    have p6:K2[N+6]?=aa (.lp il tm [P.nat 41] iU gW .busy ab (N+5)):=by rw[kK _ ap ap,Q _ ap];exact f6
    refine aE (aF (.inr rfl) ?_);simp[S,M.g2,M.g3,l8,hz,s1,s2,-aw,-bF];refine av (l_ _ _ _ _ _ _ _ _ _ _ rfl p6 ⟨by rw[m_];rfl,?_⟩);rw[m_,cC bv];have a_:=q2.cl.on _ agR;rw[<-hN]at a_;refine⟨⟨?_,λb t8=>?_⟩,?_,?_,⟨bv,λi hi=>?_⟩,By (aj p6)⟩
    .grind
    .show(K2.set _ _)[b]?=_;rw[sh ap,kK _ ap ap,Q _ (by have:=q2.k.1;omega)];exact q2.k.2 b t8
    .grind
    .grind
    .show(K2.set _ _)[i]?=_;rw[If.1 hi,sh ap,kK _ ap ap,Q _ (aj a_)];exact a_
   refine aE (aF (.inr rfl) ?_);simp[r_];cases fd with
   |false=>
    refine bG bv ?_;exact k_ _ B [15,s.meet,0,0,0,0,0,0] ⟨by simp[M.g1],by simp[M.g2],by simp[M.g3],by simp[M.g4],by simp[M.g5]⟩ (by simp[S]) rfl rfl (agQ _) j7 F
   |true=>
    refine aq bv ?_;obtain⟨c1,c2,c3,c4,c5,c6⟩:=lc B ap j7;have x_:aV B (aa 3) (.c (.ptr (d+1) 0 0))=aa (.a (xx.map .f)):=by simp[aV,az,q_,aX,n_,agY]
    have y6:aV B (aa 3) (.c (.ptr (d+1+1) 0 0))=aa (.a (yy.map .f)):=by simp[aV,az,r6,aX,p9,agY]
    simp only[IT,agN]at F;obtain⟨J6,d_⟩:=aH (B.set d (.box [Z 15,Z s.meet,Z X.day,Z (rY (X.fr+r.eB)),Z (rY (X.to-r.fY)),Z 0,Z 0,Z 0] 0));have s1:dj B (.ptr d 2 0) [Z X.day,Z (rY (X.fr+r.eB)),Z (rY (X.to-r.fY))]=aa J6:=by rw[d_];simp[dj,F,over]
    have d6:J6[d]?=E [Z 15,Z s.meet,Z X.day,Z (rY (X.fr+r.eB)),Z (rY (X.to-r.fY)),Z 0,Z 0,Z 0]:=by rw[d_];exact By (aj F)
    obtain⟨J7,e_⟩:=aH (J6.set d (.box ((NW r y s X Y ae).map λn=>Z n) 0));have s2:dj J6 (.ptr d 5 0) [Z Y.day,Z (rY (Y.fr+y.eB)),Z (rY (Y.to-y.fY))]=aa J7:=by rw[e_];simp[dj,d6,over,NW]
    have k7:∀i:Nat,i≠d->J7[i]?=B[i]?:=λi h=>by rw[e_,sh (Ne.symm h),d_,sh (Ne.symm h)]
    have z8:∀K:an,K[N]?=v[N]?->aV K ab (.c (.ptr N 0 0))=aa (G (.fp cd 0)):=λK hK=>by
     have y1:=q2.h1;rw[<-hN]at y1;simp[aV,az,hK.trans y1]
    refine aF (.inr rfl) ?_;simp[M.g1,g6,S,r7,r9,c1,c4,c6,l0,z,x_,y6,j8,j9,b_,i9,s1,s2,-aw,-bF];refine k_ _ J7 _ ⟨by simp[M.g1],by simp[M.g2],by simp[M.g3],by simp[M.g4],by simp[M.g5]⟩ (by simp[S]) (Jn ..) rfl (by rw[e_,d_];simp) (λi hi=>by rw[k7 i ap];exact j7 i hi) (by rw[e_];exact By (aj d6))
 grind
def mz(b:List Int):V:=.a (b.map λn=>Z n)
def kj(dr:aJ->bw)(x:aJ)(mt:aJ->Bool)(fx fy:aJ->aA)(fd:aJ->Bool):List aJ->List Int
 |[]=>[0,0,0,0,0,0,0,0]| s::r=>if s.meet=x.meet\/mt s=ag then kj dr x mt fx fy fd r else NW (dr x) (dr s) s (fx s) (fy s) (fd s)
theorem sM(dr:aJ->bw)(x:aJ)(mt:aJ->Bool)(fx fy:aJ->aA)(fd:aJ->Bool):∀l,(kj dr x mt fx fy fd l).length=8
 |[]=>rfl| s::r=>by unfold kj;split;exact sM dr x mt fx fy fd r;exact Jn ..
theorem sL{dr:aJ->bw}{x:aJ}{mt:aJ->Bool}{fx fy:aJ->aA}{fd:aJ->Bool}:∀{d l:List aJ},(∀s∈d,s.meet=x.meet\/mt s=ag)->kj dr x mt fx fy fd (d++l)=kj dr x mt fx fy fd l
 |[],_,_=>rfl
 |s::r,l,h=>by
  rw[ahO,kj,ct (h s agR)];exact sL λy b=>h y (agU _ b)
theorem E8:∀(bs:List Nat) (H:an),(ng bs H).length=H.length
 |[],_=>rfl| b::bs,H=>by simp[ng,E8 bs]
def QB(a g:Tg){f:List bw}{hh:Bool}(ht:jj f hh)(ss:List aJ)(hl:ss.length<=1000)(x:aJ)(dr:aJ->bw)(d_:∀s,s=x\/s∈ss->f[s.room.toNat]?=aa (dr s))(O:∀s,s=x\/s∈ss->0<=s.room/\s.room<=2)(c:aJ->aG)
  (ho:∀s,s=x\/s∈ss->bf tab vM [G (sl a (rows f)),.a (s.row.map .f)]=Eq (.t [.a ((c s).row.map .f),vb ae]))
  (mt:aJ->Bool) (hm:∀s∈ss,bf tab jw [.a ((c x).row.map .f),.a ((c s).row.map .f)]=Eq (.t [vb (mt s),vi 0]))
  (fx fy:aJ->aA) (fd:aJ->Bool) (hf:∀s∈ss,bf tab fD [.a ((c x).row.map .f),.a ((c s).row.map .f),vi (-2251799813685248)]=Eq (.t [.a ((fx s).row.map .f),.a ((fy s).row.map .f),vb (fd s)])) (H:an) :
  ∃H',Ev tab (.fn il) [G (dP (sl a (rows f)) (sl g (aW ss)) x)] H (.t [mz (kj dr x mt fx fy fd (ss.filter λs=>fQ hh s.room.toNat x.room.toNat)),vi 0]) H'/\Kp H H':=by
 obtain⟨sd,i7⟩:=aH (sl g (aW ss));have i8:=zJ (sl a (rows f)) sd x.room;obtain⟨U,z⟩:=aH ([sl a (rows f),sd]++x.row);obtain⟨N,m⟩:=aH (H.length);have l0:∀K:an,aV K ab (G (.fp U 0))=aa (G (sl a (rows f))):=λK=>by rw[z];rfl
 have l1:∀K:an,aV K ab (G (.fp U 1))=aa (G sd):=λK=>by rw[z];rfl
 have l3:∀K:an,aV K ab (G (.fp U 3))=aa (vi x.room):=λK=>by rw[z];rfl
 have l7:∀K:an,aV K (aa 7) (G (.fp U 2))=aa (.a (x.row.map .f)):=λK=>by rw[z];rfl
 have f_:=ho x (.inl rfl);have e_:(c x).row.length=3:=rfl;obtain⟨q,B⟩:=aH (kj dr x mt fx fy fd (ss.filter λs=>fQ hh s.room.toNat x.room.toNat));have i6:q.length=8:=by rw[B];exact sM ..
 simp only[dP];rw[<-i7,<-z,<-B];obtain⟨r,H',he,rfl,hK⟩:∃r H',Ev tab (.fn il) [G (.fp U 0)] H r H'/\(r=.t [mz q,vi 0]/\Kp H H'):=by
  refine Hh (S:=λr H'=>r=.t [mz q,vi 0]/\Kp H H') Ys rfl λQ hQ=>?_;have c_:∀(t:T) (K:an) (j:Option aD),ClT N t->Kp H K->eQ [N+5] K->K[N+1]?=E (q.map λn=>Z n)->K[N+2]?=E [Z 0]->Q j ⟨t,[N+5].map .dR,K⟩:=by
   intro t K j I hk hc L M;have d1:=(iv (hc.not L bv)).trans L;have d2:=(iv (hc.not M bv)).trans M;refine hQ _ _ (.t [mz q,vi 0]) ⟨[N+5],rfl,hc,?_,rfl,?_⟩
   .have j7:(q.map λn=>C.f (fi n)).length=8:=by simpa using i6
    simp[Km.results,cB,bC,I.g2,I.g3,aV,az,d1,d2,aX,i6,agY,mz]
   .refine⟨by rw[E8];exact hk.1,λb O=>?_⟩;rw[iv ge];exact hk.2 b O
  apply ai;simp;obtain⟨k,v⟩:=aH (H++[bV.box [.f (.fp U 0)] 0,.box (([0,0,0,0,0,0,0,0]:List Int).map λn=>Z n) 0,.box [Z 0] 0]:an);have n0:k.length=N+3:=by rw[v,agM,m];rfl
  have k0:∀i:Nat,i<H.length->k[i]?=H[i]?:=λi hi=>by rw[v,AI hi]
  have c0:k[N]?=E [.f (.fp U 0)]:=by rw[v,m];simp
  have c1:k[N+1]?=E (([0,0,0,0,0,0,0,0]:List Int).map λn=>Z n):=by rw[v,m,agL ap];simp
  have c2:k[N+2]?=E [Z 0]:=by rw[v,m,agL ap];simp
  simp only[IT,agN]at v;rw[<-v,<-m];have a0:aV k ab (.c (.ptr N 0 0))=aa (G (.fp U 0)):=by simp[aV,az,c0]
  obtain⟨A,F⟩:=aH (k++[bV.box ((c x).row.map .f) 0,.box [.f (.bool ae)] 0]:an);have n1:A.length=N+5:=by rw[F,agM,n0];rfl
  have k1:∀i:Nat,i<k.length->A[i]?=k[i]?:=λi hi=>by rw[F,AI hi]
  have c3:A[N+3]?=E ((c x).row.map .f):=by rw[F,agL ap,n0];simp
  have c4:A[N+4]?=E [.f (.bool ae)]:=by rw[F,agL ap,n0];simp
  obtain⟨ox,g_⟩:=aH (c x);rw[<-g_]at f_ e_ F c3 hm hf;apply ai;simp[a0,l0,l7,f_,e_,-aw];rw[n0,<-F];have a1:aV A ab (.c (.ptr N 0 0))=aa (G (.fp U 0)):=by simp[aV,az,k1 N ap,c0]
  apply aU;simp[a1,l0,l1,l3,i8,-aw];apply ax
  suffices go:∀u:T,ClT N u->u.g 40=G (.fn oN [.fp [sd] 0,.fp [sl a (rows f)] 0,.fp [fi x.room] 0])->WP tab il ab [.code OP,.inBlock 0,.code Li] ⟨u,[],A⟩ Q by
   exact go _ ⟨bv,bv,bv,bv,bv⟩ bv
  intro u I i9;obtain⟨LP,Y⟩:∃LP:dB->Option aD->bV,LP=λst pd=>.lp il u [P.nat 41] iU gW st pd (N+5):=⟨_,rfl⟩
  obtain⟨HR,X⟩:=aH (A++[.dH ae,LP .ready ab]);have kR:∀i:Nat,i<A.length->HR[i]?=A[i]?:=λi hi=>by rw[X,AI hi]
  have q5:HR[N+5]?=aa (.dH ae):=by rw[X,agL ap,n1];simp
  have q6:HR[N+6]?=aa (LP .ready ab):=by rw[X,agL ap,n1];simp
  have j8:HR.length=N+7:=by rw[X,agM,n1];rfl
  have hq:Tz H U ox HR:=⟨⟨ap,λb O=>by rw[kR b ap,k1 b ap,k0 b O]⟩,by rw[<-m,kR _ ap,k1 _ ap];exact c0,by rw[<-m,kR _ ap,k1 _ ap];exact c1,
   by rw[<-m,kR _ ap,k1 _ ap];exact c2,by rw[<-m,kR _ ap];exact c3,by rw[<-m,kR _ ap];exact c4,⟨bv,λi hi=>by rw[If.1 hi,<-m];exact q5⟩⟩
  obtain⟨H2,he,a_⟩:=xq (b:=N+6) (H:=HR) (PP:=λd J=>Tz H U ox J/\J[N+6]?=aa (LP .ready ab)/\∀s∈d,s.meet=x.meet\/mt s=ag)
   (RR:=λd s J=>(∀s∈d,s.meet=x.meet\/mt s=ag)/\¬ (s.meet=x.meet\/mt s=ag)/\Kp H J/\J[N+1]?=E ((NW (dr x) (dr s) s (fx s) (fy s) (fd s)).map λn=>Z n)/\J[N+2]?=E [Z 0]/\eQ [N+5] J/\J[N+6]?=aa (LP .done (aa .ret)))
   (sl a (rows f)) g ss hl x.room (λs=>fQ hh s.room.toNat x.room.toNat) (λs p=>zX a ht _ _ (O s (.inr p)).1 (O s (.inr p)).2 (O x (.inl rfl)).1 (O x (.inl rfl)).2) ⟨hq,q6,bv⟩
   (λd J K ⟨L,M,w⟩=>⟨L.bS bv λi hi _=>by rw[AI hi],by rw[AI (aj M)];exact M,w⟩)
   (λd s J ⟨L,M,w⟩ p=>by
    have d9:=M;rw[Y,m]at d9;rw[m]at I;rw[z]at L;obtain⟨r,J',j6,hr⟩:=Eo a ht sd x (O x (.inl rfl)).1 (O x (.inl rfl)).2 (d_ x (.inl rfl)) s (O s (.inr p)).1 (O s (.inr p)).2 (d_ s (.inr p)) ox (c s) (ho s (.inr p)) (mt s) (hm s p) (fx s) (fy s) (fd s) (hf s p) I L d9;refine⟨r,J',by rw[m];exact j6,?_⟩;by_cases h_:r=ae
    .rw[ct h_]at hr ⊢;refine⟨by rw[z];exact hr.2.1,by rw[m,hr.2.2,<-m];exact M,λy hy=>?_⟩;rcases agP.1 hy with h|h
     .exact w y h
     .rw[If.1 h];exact hr.1
    .rw[cC h_]at hr ⊢;obtain⟨e1,e2,e3,e4,e5,e6⟩:=hr;exact⟨w,e1,e2,by rw[m];exact e3,by rw[m];exact e4,by rw[m];exact e5,by rw[Y,m];exact e6⟩)
  rw[<-i7]at he;have j5:Ev tab (.fn oN) [.c (.yl (A.length+1)),G (.fp [sd] 0),G (.fp [sl a (rows f)] 0),G (.fp [fi x.room] 0)] (A++[.dH ae,.lp il u [P.nat 41] iU gW .ready ab A.length]) (.t []) H2:=by
   have e:A++[.dH ae,.lp il u [P.nat 41] iU gW .ready ab A.length]=HR:=by rw[X,Y,n1]
   rw[e,n1];exact he
  refine dC (g:=oN) (by rw[mF,i9];simp[cr]) j5 ?_;rw[n1];rcases a_ with⟨L,M,w⟩|⟨d,s,rest,i_,w,h4,h5,h6,h7,h8,h9⟩
  .rw[Y]at M;refine dX M ce (au ?_);have b_:q=[0,0,0,0,0,0,0,0]:=by
    rw[B];have:=sL (dr:=dr) (x:=x) (mt:=mt) (fx:=fx) (fy:=fy) (fd:=fd) (l:=[]) w;rw[ahe]at this;rw[this];rfl
   have z1:=L.h2;have z2:=L.h3;have z3:=L.cl;have z4:=L.k;rw[<-m]at z1 z2 z3;obtain⟨H3,o⟩:=aH (H2.set (N+6) (.lp il u [P.nat 41] iU gW .exhausted ab (N+5)));have k3:∀i:Nat,i≠N+6->H3[i]?=H2[i]?:=λi hi=>by rw[o,sh (Ne.symm hi)]
   have y1:=(k3 (N+1) ap).trans z1;have y2:=(k3 (N+2) ap).trans z2;have y3:eQ [N+5] H3:=by rw[o];exact z3.set M bv
   have y4:Kp H H3:=by rw[o];exact z4.rW ap _
   rw[<-o];obtain⟨H4,W⟩:=aH (H3.set (N+1) (.box (([0,0,0,0,0,0,0,0]:List Int).map λn=>Z n) 0));have w1:H4[N+1]?=E (([0,0,0,0,0,0,0,0]:List Int).map λn=>Z n):=by rw[W];exact By (aj y1)
   have w2:H4[N+2]?=E [Z 0]:=by rw[W,sh ap];exact y2
   have w3:eQ [N+5] H4:=by rw[W];exact y3.set y1 bv
   have w4:Kp H H4:=by rw[W];exact y4.rW ap _
   have s1:dj H3 (.ptr (N+1) 0 0) [Z 0,Z 0,Z 0,Z 0,Z 0,Z 0,Z 0,Z 0]=aa H4:=by rw[W];simp[dj,y1,over]
   have s2:dj H4 (.ptr (N+2) 0 0) [Z 0]=aa (H4.set (N+2) (.box [Z 0] 0)):=by simp[dj,w2,over]
   apply ai;simp[I.g2,I.g3,s1,s2,-bF];refine av (c_ _ _ _ ⟨by simp[I.g1],by simp[I.g2],by simp[I.g3],by simp[I.g4],by simp[I.g5]⟩ (w4.rW ap _) (w3.set w2 bv) ?_ (By (aj w2)));rw[sh ap,b_];exact w1
  .rw[Y]at h9;refine jJ h9 ce ?_;have c9:q=NW (dr x) (dr s) s (fx s) (fy s) (fd s):=by
    rw[B,i_,sL w,kj,cC h4]
   refine av (c_ _ _ _ I (h5.rW ap _) (h8.set h9 bv) ?_ ?_)
   .rw[sh ap,c9];exact h6
   .rw[sh ap];exact h7
 exact⟨H',he,hK⟩
def fX:List aA->Int
 |[]=>0| x::r=>x.to-x.fr+fX r
def F4(a b:List aA):fX (a++b)=fX a+fX b:=by
 induction a with
 |nil=>simp[fX]| cons x a d=>simp only[ahO,fX,d];omega
def zf(g:Tg)(L:List aA)(K:L.length<=1000)(z:∀x∈L,0<=x.fr/\x.fr<=x.to/\x.to<=100000000):bf tab Gy [G (sl g (ay L))]=Eq (vi (fX L)):=Kf.eq (by
 refine dd rfl rfl λH Q y=>?_;apply ai;simp;apply ai;simp;apply aU;simp;refine bW L.length (λj t H'=>(∃J,H'=H++J)/\t.g 6=G (sl g (ay L))/\t.g 3=vi (fX (L.take j))/\0<=fX (L.take j)/\fX (L.take j)<=j*100000000) ap ce ce bv bv ⟨⟨[],bv⟩,bv,by simp[fX],by simp[fX],by simp[fX]⟩ ?_ ?_
 .rintro j t _ l ⟨⟨J,rfl⟩,m,d,A,B⟩ u q next
  have b:=λH:an=>cf (H:=H) (bI L) (dn l);have s:L.take (j+1)=L.take j++[L[j]]:=by rw[agV,BY l];rfl
  have v:fX (L.take (j+1))=fX (L.take j)+(L[j].to-L[j].fr):=by rw[s,F4];simp[fX]
  obtain⟨b1,F,I⟩:=z L[j] (IN l);simp[aA.row]at b;apply ax;apply ai;simp[m,u,bu,l,b];apply ba;simp[d,a8 (n:=L[j].to-L[j].fr),a8 (n:=fX (L.take j)+(L[j].to-L[j].fr))];refine au (next _ _ ?_ (by simp[u]) (by simp[q]));exact⟨⟨_,rfl⟩,by simp[m],by simp[v],ap,by rw[v];omega⟩
 .rintro t _ ⟨⟨J,rfl⟩,m,d,A,B⟩ - -;rw[agW]at d;apply ai;simp[d];refine av (y _ _ ?_);simp)
def cI(l:List aG):List (List FC):=l.map aG.row
@[simp]theorem zP (l:List aG):(cI l).length=l.length:=by simp[cI]
theorem gU(l:List aG):cZ 3 (cI l):=cZ.map λ_=>rfl
def Az{l:List aG}(b:m<l.length):(cI l)[m]?=aa l[m].row:=by simp[cI,b]
def dt(k b:Int)(l:List aJ):List aG:=(l.filter λs=>decide (s.room=k)&&decide (s.eo=b)).map aJ.st
def zr(k d:Int)(a b:List aJ):dt k d (a++b)=dt k d a++dt k d b:=by simp[dt]
def Kh(g:Tg)(l:List aJ)(k m:Int)(hl:l.length<=1000)(H:an):∃c H',Ev tab (.fn GC) [G (sl g (aW l)),vi k,vi m] H (.c c) H'/\LR H' c 3 (cI (dt k m l))/\(∀i,bz c=aa i->H.length<=i)/\Kp H H':=by
 obtain⟨r,H',he,c,rfl,h⟩:∃r H',Ev tab (.fn GC) [G (sl g (aW l)),vi k,vi m] H r H'/\∃c,r=.c c/\LR H' c 3 (cI (dt k m l))/\(∀i,bz c=aa i->H.length<=i)/\Kp H H':=by
  refine dc (C:=λr H'=>∃c,r=.c c/\LR H' c 3 (cI (dt k m l))/\(∀i,bz c=aa i->H.length<=i)/\Kp H H') Yv rfl λQ hQ=>?_;apply ai;simp;apply ai;simp;apply aU;simp;refine bW l.length (λj t J=>t.g 10=G (sl g (aW l))/\t.g 1=vi k/\t.g 2=vi m/\(dt k m (l.take j)).length<=j/\∃c,t.g 7=.c c/\LR J c 3 (cI (dt k m (l.take j)))/\(∀i,bz c=aa i->H.length<=i)/\Kp H J) ap ce ce bv bv
   ⟨bv,bv,bv,by simp[dt],.f .aN,bv,by simpa[dt,cI]using LR.nil H 3,by simp[bz],⟨agQ _,λ_ _=>rfl⟩⟩ ?_ ?_
  .rintro j t J hj ⟨u,I,M,n,c,O,X,q,a⟩ Y f next
   have B:=λH:an=>cf (H:=H) (cY l) (fP hj);have A:=λH:an=>bu (H:=H) (g:=g) (rows:=aW l) (sz:=7) (k:=.i64) (i:=(j:Int)) ap ge;simp only[ag7]at A;have L:l.take (j+1)=l.take j++[l[j]]:=by rw[agV,BY hj];rfl
   obtain⟨s,hs⟩:=aH (l[j]);rw[<-hs]at B L;have o:s.row.length=7:=rfl;obtain⟨b,S⟩:=aH (J.length);obtain⟨v,x⟩:=aH (J++[bV.box (s.row.map .f) 0]);have z:=X.push [bV.box (s.row.map .f) 0];rw[<-x]at z;have y:Kp H v:=by rw[x];exact a.tr (Kp.push _ _)
   have d:v[b]?=E (s.row.map .f):=by rw[x,S];simp
   have w:aV v ab (.c (.ptr b 1 0))=aa (vi s.room):=by simp[aV,az,d,aJ.row]
   have l2:aV v ab (.c (.ptr b 2 0))=aa (vi s.eo):=by simp[aV,az,d,aJ.row]
   have l4:aV v (aa 3) (.c (.ptr b 4 0))=aa (.a (s.st.row.map .f)):=by simp[aV,az,d,aJ.row,aG.row,aX]
   apply ax;apply ai;simp[u,Y,A,B,o,-aw];rw[<-x,<-S];have skip:(decide (s.room=k)&&decide (s.eo=m))=ag->dt k m (l.take (j+1))=dt k m (l.take j):=λh=>by
    rw[L,zr];simp[dt,h]
   apply ai;by_cases N:s.room=k
   .by_cases W:s.eo=m
    .have F:dt k m (l.take (j+1))=dt k m (l.take j)++[s.st]:=by rw[L,zr];simp[dt,N,W]
     simp[I,M,w,l2,N,W,-aw];refine aq bv ?_;have e:=z.push [bV.box (s.st.row.map .f) 0];have d2:(v++[bV.box (s.st.row.map .f) 0])[v.length]?=E (s.st.row.map .f):=lw
     obtain⟨c',J2,e1,e2,e3,e4⟩:=e.app (gU _) ce (row:=s.st.row) rfl (bytes:=56) md d2;have p:s.st.row.length=3:=rfl;apply ba;simp[O,l4,p,e1,-aw];refine au (next _ _ ⟨by simp[u],by simp[I],by simp[M],by rw[F];simp;omega,c',bv,by rw[F];simpa[cI]using e2,λi hi=>?_,?_⟩ (by simp[Y]) (by simp[f]))
     .rcases e4 with h|h
      .exact q i (by rw[<-h];exact hi)
      .rw[h]at hi;cases hi;have:=y.1;simp;omega
     .have K:=y.tr (Kp.push v [bV.box (s.st.row.map .f) 0]);refine⟨by have:=e3.1;have:=K.1;omega,λi hi=>?_⟩;rw[<-K.2 i hi];have U:i<(v++[bV.box (s.st.row.map .f) 0]).length:=by have:=K.1;omega
      rw[BY U];exact e3.2 i _ (BY U) λh=>by have:=q i h;omega
    .simp[I,M,w,l2,N,W,-aw];refine aC bv (aQ (au (next _ _ ?_ (by simp[Y]) (by simp[f]))));exact⟨by simp[u],by simp[I],by simp[M],by rw[skip (by simp[W])];omega,c,by simp[O],by rw[skip (by simp[W])];exact z,q,y⟩
   .simp[I,w,N,-aw];refine aC bv (aQ (au (next _ _ ?_ (by simp[Y]) (by simp[f]))));exact⟨by simp[u],by simp[I],by simp[M],by rw[skip (by simp[N])];omega,c,by simp[O],by rw[skip (by simp[N])];exact z,q,y⟩
  .rintro t J ⟨u,I,M,n,c,O,X,q,a⟩ - -;rw[agW]at X;apply ai;simp[O];exact av (hQ _ _ (.c c) rfl (dx bv) ⟨c,rfl,X,q,a⟩)
 exact⟨c,H',he,h⟩
def sS(b:Int):List (Int × Int)->Int × Bool
 |[]=>(0,ag)| q::r=>if q.1=b then(q.2,ae)else sS b r
def ER(O:Tg)(p:jj l h)(W:FC)(x:aJ)(c:0<=x.room)(e:x.room<=2)(o:l[x.room.toNat]?=aa r)(B:r.q.length<=2):bf tab XN [G (dP (sl O (rows l)) W x)]=Eq (.t [vi (sS x.eo r.q).1,vb (sS x.eo r.q).2]):=bf.eq (by
 refine bD rfl rfl λQ S=>?_;have I:=mJ O p W x c e o;generalize r=d at *;obtain⟨X,z⟩:=aH ([sl O (rows l),W]++x.row);have w:∀K:an,aV K ab (G (.fp X 4))=aa (vi x.eo):=λK=>by rw[z];rfl
 simp only[dP]at I ⊢;rw[<-z]at I ⊢;have n:mP 13 ab (.a (d.row.map .f))=aa (G (sl d.qg (fm d.q))):=rfl;have A:∀K:an,bA K (.f (sl d.qg (fm d.q)))=aa d.q.length:=λK=>by simp[fm]
 obtain⟨U,u⟩:=aH (sS x.eo d.q);rw[<-u]at S;apply ai;simp;apply aU;simp[I,n,A];refine bW d.q.length (λj t J=>t.g 0=G (.fp X 0)/\t.g 8=G (sl d.qg (fm d.q))/\U=sS x.eo (d.q.drop j)) ap ce ce bv bv ⟨bv,bv,by simpa using u⟩ ?_ ?_
 .rintro j t J a ⟨M,N,s⟩ Y f next
  have m:=λH:an=>bu (H:=H) (g:=d.qg) (rows:=fm d.q) (sz:=2) (k:=.i64) (i:=(j:Int)) ap (by simp[fm];omega);have F:=λH:an=>cf (H:=H) (zx d.q) (Fk a);simp only[ag7]at m;rw[agT a,sS]at s;generalize d.q[j]=q at *;obtain⟨b,y⟩:=aH (J.length);apply ax;apply ai;simp[N,Y,m,F,-aw];obtain⟨L,v⟩:=aH (J++[bV.box [Z q.1,Z q.2] 0]);have r:L[b]?=E [Z q.1,Z q.2]:=by rw[v,y];simp
  have x0:aV L ab (.c (.ptr b 0 0))=aa (vi q.1):=by simp[aV,az,r]
  have x1:aV L ab (.c (.ptr b 1 0))=aa (vi q.2):=by simp[aV,az,r]
  rw[<-v,<-y];apply ai;simp[M,x0,w,-aw];by_cases B:q.1=x.eo
  .rw[ct B]at s;refine aq (by simp[B]) ?_;apply ai;simp[x1,-aw];refine av (S _ _ ?_);simp[s]
  .rw[cC B]at s;refine aC (by simp[B]) (aQ (au (next _ _ ⟨by simp[M],by simp[N],s⟩ (by simp[Y]) (by simp[f]))))
 .rintro t J ⟨M,N,s⟩ - -;rw[aib,sS]at s;apply ai;simp;refine av (S _ _ ?_);simp[s])
def vp(b:aG->Int):Int->List aG->Int
 |tot,[]=>tot| tot,s::r=>vp b (ah .i64 (tot+b s)) r
def Kl(M:FC)(g:Tg)(ss:List aJ)(r:ss.length<=1000)(x:aJ)(q:Int)(O:aG->Int)
  (w:∀s∈dt x.room x.eo ss,∃v,bf tab nD [.a (s.row.map .f),vi q]=Eq (G v)/\bf tab Gy [G v]=Eq (vi (O s))) :
  bf tab Cu [G (dP (M) (sl g (aW ss)) x),vi q]=Eq (vi (vp O 0 (dt x.room x.eo ss))):=bf.eq (by
 refine bD rfl rfl λQ a=>?_;obtain⟨sd,f⟩:=aH (sl g (aW ss));obtain⟨S,l⟩:=aH ([M,sd]++x.row);have l1:∀K:an,aV K ab (G (.fp S 1))=aa (G sd):=λK=>by rw[l];rfl
 have n:∀K:an,aV K ab (G (.fp S 3))=aa (vi x.room):=λK=>by rw[l];rfl
 have l4:∀K:an,aV K ab (G (.fp S 4))=aa (vi x.eo):=λK=>by rw[l];rfl
 obtain⟨c,H1,H,B,-,-⟩:=Kh g ss x.room x.eo r [];have Y:(dt x.room x.eo ss).length<=1000:=by
  unfold dt;rw[agS];exact Nat.le_trans (ahV _ _) r
 obtain⟨L,X⟩:=aH (dt x.room x.eo ss);obtain⟨o,y⟩:=aH (vp O 0 L);rw[<-X]at B w a Y;rw[<-y]at a;simp only[dP];rw[<-f]at H ⊢;rw[<-l];have u:=B.len;rw[zP]at u;apply ai;simp;apply ai;simp;apply aU;simp[l1,n,l4,H.eq,u];refine bW L.length (λj t J=>t.g 1=vi q/\t.g 22=.c c/\LR J c 3 (cI L)/\∃m,t.g 5=vi m/\o=vp O m (L.drop j)) ap ce ce bv bv ⟨bv,bv,B,0,bv,by simpa using y⟩ ?_ ?_
 .rintro j t J N ⟨U,z,B,m,W,I⟩ p hb next
  obtain⟨v,i,k⟩:=w L[j] (IN N);obtain⟨b,ep,i1,i2⟩:=B.at (gU L) (j:=j) (by simpa using N);have e:(cI L)[j]'(by simpa using N)=L[j].row:=by simp[cI]
  rw[e]at i2;rw[agT N,vp]at I;generalize L[j]=s at *;have h:s.row.length=3:=rfl;have F:=B.push [bV.box (s.row.map .f) 0];obtain⟨J1,A⟩:=aH (J++[bV.box (s.row.map .f) 0]);have d:J1[J.length]?=E (s.row.map .f):=by rw[A];simp
  have n:=wz d;rw[<-A]at F;apply ax;apply ai;simp[z,p,i1,i2,h,-aw];rw[<-A];apply ba;simp[U,W,n,i,k,-aw];exact au (next _ _ ⟨by simp[U],by simp[z],F,_,bv,I⟩ (by simp[p]) (by simp[hb]))
 .rintro t J ⟨U,z,B,m,W,I⟩ - -;rw[aib,vp]at I;apply ai;simp[W];refine av (a _ _ ?_);simp[I])
theorem xK(k:Int)(c:C):∀l,C8 k (pe k c l)=aa c
 |[]=>by simp[pe,C8]
 |e::b=>by
  have d:=xK k c b;unfold pe;by_cases h:k=e.1
  .rw[ct h];simp[C8]
  .rw[cC h];simp[C8,h,d]
def JV(b:J[m]?=aa (.map (vt K)))(h:C8 n K=aa (Z d)):gN J .int (fi 0) (.c (.mp m)) (vi n)=aa (vi d):=by
 unfold gN;simp only[b,isKey,if_true,CU,Option.map_some,S9,qB,h];rfl
def RU(b:J[m]?=aa (.map (vt K)))(k v:Int):oZ J .int (.c (.mp m)) (vi k) (vi v)=aa (.top,J.set m (.map (vt (pe k (Z v) K)))):=by
 simp[oZ,pJ,b,isKey,Iq]
def lH(b:Int):Int->List aA->Option aA
 |_,[]=>ab| tot,x::r=>if b<ah .i64 (tot+ah .i64 (x.to-x.fr))then aa x else lH b (ah .i64 (tot+ah .i64 (x.to-x.fr))) r
def qM(b e:Int)(d:Int->List aA)(us:Int->Int):Nat->Int->Option aA
 |0,_=>ab| k+1,n=>if 7*n<e then(match lH b (us n) (d n)with|some x=>aa x|none=>qM b e d us k (n+1))else ab
def Fz:Option aA->List Int
 |none=>[0,0,0,0,0,0,0,0]| some x=>[14,0,x.day,x.fr,x.to,0,0,0]
def FA(o:Option aA):(Fz o).length=8:=by cases o<;>rfl
theorem Si(gr g:Tg){rs:List bw}{hh:Bool}(ht:jj rs hh)(ss:List aJ)(hl:ss.length<=1000)(x:aJ)(h0:0<=x.room)(h1:x.room<=2){dr:bw}(y7:rs[x.room.toNat]?=aa dr)(hrq:dr.q.length<=2)(x6:V.beq (.a (x.st.row.map .f)) (.a (x.st.row.map .f))=ae)(en:Int)(en0:15<=en)(en1:en<=30000)(FU:Nat)(hFU:FU=5000)
  (i7:bf tab Gw [G (sl .fs (cI (dt x.room x.eo ss++[x.st])))]=Eq (.t [vi en,vb ae]))
  (I:Int->List aA) (us:Int->Int) (ho:∀n,-1<=n->n<=5000->(I n).length<=10/\∃g,bf tab nD [.a (x.st.row.map .f),vi n]=Eq (G (sl g (ay (I n)))))
  (hu:∀n,-1<=n->n<=5000->bf tab Cu [G (dP (sl gr (rows rs)) (sl g (aW ss)) x),vi n]=Eq (vi (us n))) (H:an) :
  ∃H',Ev tab (.fn pU) [G (dP (sl gr (rows rs)) (sl g (aW ss)) x)] H (.t [mz (Fz (if(sS x.eo dr.q).2 then qM (sS x.eo dr.q).1 en I us FU (-1)else ab)),vi 0]) H'/\Kp H H':=by
 have A:=ER gr ht (sl g (aW ss)) x h0 h1 y7 hrq;obtain⟨q,k_⟩:=aH ((sS x.eo dr.q).1);obtain⟨t_,r7⟩:=aH ((sS x.eo dr.q).2);rw[<-k_,<-r7]at A ⊢;obtain⟨sd,hsd⟩:=aH (sl g (aW ss));obtain⟨cd,c_⟩:=aH ([sl gr (rows rs),sd]++x.row);have l1:∀K:an,aV K ab (G (.fp cd 1))=aa (G sd):=λK=>by rw[c_];rfl
 have l3:∀K:an,aV K ab (G (.fp cd 3))=aa (vi x.room):=λK=>by rw[c_];rfl
 have l4:∀K:an,aV K ab (G (.fp cd 4))=aa (vi x.eo):=λK=>by rw[c_];rfl
 have l6:∀K:an,aV K (aa 3) (G (.fp cd 6))=aa (.a (x.st.row.map .f)):=λK=>by rw[c_];rfl
 obtain⟨F,d⟩:=aH (Fz (if t_ then qM q en I us FU (-1)else ab));have m9:=λK=>Kh g ss x.room x.eo hl K;simp only[dP]at A hu ⊢;rw[<-hsd]at A hu m9 ⊢;rw[<-c_]at A hu ⊢;rw[<-d];have hsl:x.st.row.length=3:=rfl;obtain⟨L,n_⟩:=aH (dt x.room x.eo ss);have hLl:L.length<=1000:=by
  rw[n_];unfold dt
  grind
 rw[<-n_]at m9 i7;obtain⟨N,hN⟩:=aH (H.length);obtain⟨r,H',he,rfl,hK⟩:∃r H',Ev tab (.fn pU) [G (.fp cd 0)] H r H'/\(r=.t [mz F,vi 0]/\Kp H H'):=by
  refine dc (C:=λr H'=>r=.t [mz F,vi 0]/\Kp H H') Yt rfl λQ hQ=>?_;have i9:∀(t:T) (K:an) (j:Option aD),t.g 2=.c (.ptr N 0 0)->t.g 3=vi 0->Kp H K->K[N]?=E (F.map λn=>Z n)->Q j ⟨t,[],K⟩:=by
   intro t K j v g3 hk hb;have hrl:F.length=8:=by rw[d];exact FA _
   refine hQ _ _ (.t [mz F,vi 0]) rfl ?_ ⟨rfl,hk⟩;simp[Km.results,cB,bC,v,g3,aV,az,hb,aX,hrl,agY,mz]
  have zero:∀(t:T) (K:an) (k:List dS),F=[0,0,0,0,0,0,0,0]->t.g 2=.c (.ptr N 0 0)->Kp H K->K[N]?=E (([0,0,0,0,0,0,0,0]:List Int).map λn=>Z n)->
    WP tab pU ab (.code (.seq Lk .ret)::k) ⟨t,[],K⟩ Q:=by
   intro t K k hr v hk hb;simp only[IT,agN]at hb;have s1:dj K (.ptr N 0 0) [Z 0,Z 0,Z 0,Z 0,Z 0,Z 0,Z 0,Z 0]=aa (K.set N (.box [Z 0,Z 0,Z 0,Z 0,Z 0,Z 0,Z 0,Z 0] 0)):=by simp[dj,hb,over]
   apply ai;simp[v,s1,-bF];refine av ?_;refine i9 _ _ _ ?_ ?_ (hk.rW ap _) ?_
   .simp[v]
   .simp
   rw[By (aj hb),hr];rfl
  apply ai;simp;obtain⟨K0,c9⟩:=aH (H++[bV.box (([0,0,0,0,0,0,0,0]:List Int).map λn=>Z n) 0]:an);have k0:Kp H K0:=by rw[c9];exact Kp.push _ _
  have c0:K0[N]?=E (([0,0,0,0,0,0,0,0]:List Int).map λn=>Z n):=by rw[c9,hN];simp
  have n0:K0.length=N+1:=by rw[c9,hN];simp
  simp only[IT,agN]at c9;rw[<-c9,<-hN];apply ai;simp[A];apply aU;simp;cases t_ with
  |false=>
   refine aq bv ?_;have m_:=c0;simp only[IT,agN]at m_;have s1:dj K0 (.ptr N 0 0) [Z 0,Z 0,Z 0,Z 0,Z 0,Z 0,Z 0,Z 0]=aa (K0.set N (.box [Z 0,Z 0,Z 0,Z 0,Z 0,Z 0,Z 0,Z 0] 0)):=by simp[dj,m_,over]
   apply ai;simp[s1,-bF];refine av ?_;refine i9 _ _ _ ?_ ?_ (k0.rW ap _) ?_
   .simp
   .simp
   .rw[By (aj c0),d];rfl
  |true=>
   simp only[if_true]at d;refine bG bv ?_;obtain⟨c,K1,p9,w_,q_,z7⟩:=m9 K0;have k2:=z7;obtain⟨c',K3,e1,j5,e3,e4⟩:=w_.ae5 (gU _) ce (rows':=[x.st.row]) (λr hr=>by rw[If.1 hr];rfl) (bytes:=56) md .fs;have u9:sl .fs [x.st.row]=.fs x.st.row 1:=rfl;rw[u9]at e1;have y_:VH (x.st.row.map .f)=aa x.st.row:=rfl;have r6:∀i,bz c'=aa i->K0.length<=i:=λi hi=>by
    rcases e4 with h|h
    .grind
    .rw[h]at hi;cases hi;have:=k2.1;omega
   have k3:Kp K0 K3:=by
    refine⟨by have:=e3.1;have:=k2.1;omega,λi hi=>?_⟩;rw[<-k2.2 i hi];have Y:i<K1.length:=by have:=k2.1;omega
    rw[BY Y];exact e3.2 i _ (BY Y) λh=>by have:=q_ i h;omega
   have er:cI L++[x.st.row]=cI (L++[x.st]):=by simp[cI]
   rw[er]at j5;obtain⟨g3',j8⟩:=j5.ex (gU _) 63;have l_:cI (L++[x.st])≠[]:=by simp[cI]
   rw[SD (g':=.fs) l_]at j8;change fv deep K3 c'=_ at j8;obtain⟨K4,n9⟩:=aH (ez deep c' K3);have k4:Kp K0 K4:=by
    rw[n9];rcases j5.x.mkH 63 with e|⟨b,ep,fl,fl',h1,h2,h3⟩
    .change ez deep c' K3=K3 at e
     grind
    .change ez deep c' K3=_ at h3;rw[h3];exact k3.rW (r6 b h1) _
   refine aE (eH (.inl rfl) ?_ ?_)
   case refine_2=>
    intro cc y6;have x_:cc=(19,14):=by simpa using y6
    subst x_;refine⟨ce,_,rfl,.inr ⟨ce,?_⟩⟩;simp[l1,l3,l4,l6,p9.eq,gE,x6,-aw]
   simp[l1,l3,l4,l6,p9.eq,hsl,y_,e1,j8,i7,<-n9,-aw]
   suffices go:∀u:T,u.g 0=G (.fp cd 0)->u.g 2=.c (.ptr N 0 0)->u.g 4=vi q->u.g 5=vb ae->u.g 6=vi en->WP tab pU ab [.code Lj] ⟨u,[],K4⟩ Q by
    exact go _ bv bv bv bv bv
   intro u W v g4 g5 X;have k5:Kp H K4:=k0.tr k4;have c4:K4[N]?=E (([0,0,0,0,0,0,0,0]:List Int).map λn=>Z n):=k4.get c0;have ln4:N<K4.length:=aj c4;apply aU;simp[g5];refine bG bv ?_;obtain⟨m,hm⟩:=aH (K4.length);obtain⟨K5,f_⟩:=aH (K4++[bV.map []]);have m5:K5[m]?=aa (.map (vt [])):=by rw[f_,hm];simp[vt]
   have c5:K5[N]?=E (([0,0,0,0,0,0,0,0]:List Int).map λn=>Z n):=by rw[f_,AI ln4];exact c4
   have k6:Kp H K5:=by rw[f_];exact k5.tr (Kp.push _ _)
   apply ai;simp[DE];rw[<-hm,<-f_];apply aU;simp;apply ax;obtain⟨e,y8⟩:=aH (en);rw[<-y8]at X d;have heb:e<=30000:=ii
   refine di (λk s=>∃(n:Int) (u:T) (K:an) (l:List (Int × C)),s=⟨u,[],K⟩/\-1<=n/\n+k=FU-1/\u.g 0=G (.fp cd 0)/\u.g 2=.c (.ptr N 0 0)/\u.g 4=vi q/\u.g 6=vi e/\u.g 7=.c (.mp m)/\u.g 8=vi n/\Kp H K/\m<K.length/\
    K[N]?=E (([0,0,0,0,0,0,0,0]:List Int).map λn=>Z n)/\K[m]?=aa (.map (vt l))/\F=Fz (qM q e I us k n)) FU
    ⟨-1,_,K5,[],rfl,ap,ap,by simp[W],by simp[v],by simp[g4],by simp[X],bv,bv,k6,aj m5,c5,m5,d⟩ ?_
   clear d;rintro k s ⟨n,u,K,l,rfl,hn1,hnk,W,v,g4,X,g7,M,hK,z8,hc,g_,d⟩ ih;have s7:m≠N:=by rintro rfl;rw[g_]at hc;cases hc
   apply aU;simp[X,M,a8 (n:=7*n)];by_cases Y:7*n<e
   case neg=>
    refine aC ge (bQ rfl ?_);refine zero _ K _ ?_ (by simp[v]) hK hc;rw[d];cases k with
    |zero=>rfl| succ k=>rw[qM,cC Y];rfl
   obtain⟨k,rfl⟩:∃k',k=k'+1:=⟨k-1,ap⟩
   rw[qM,ct Y]at d;refine aq (by simp[Y]) (aQ ?_);apply aE;apply ax;obtain⟨z_,gO,h_⟩:=ho n ap ap;have t8:=hu n ap ap;obtain⟨O,hO⟩:=aH (I n);obtain⟨U,hU⟩:=aH (us n);rw[<-hO]at z_ h_ d;rw[<-hU]at t8 d;have d9:∀(w:T) (K':an) (l':List (Int × C)),F=Fz (qM q e I us k (n+1))->w.g 0=G (.fp cd 0)->w.g 2=.c (.ptr N 0 0)->w.g 4=vi q->w.g 6=vi e->w.g 7=.c (.mp m)->w.g 8=vi n->Kp H K'->K'[m]?=aa (.map (vt l'))->K'[N]?=E (([0,0,0,0,0,0,0,0]:List Int).map λn=>Z n)->
     WP tab pU ab [.code AL,.inLoop AK,.inBlock 0,.code AM] ⟨w,[],K'⟩ Q:=by
    intro w K' l' hr W v g4 X g7 M u_ B x8;apply ba;simp[M,a8 (n:=n+1)];exact ih k _ ap ⟨n+1,_,K',l',rfl,ap,ap,by simp[W],by simp[v],by simp[g4],by simp[X],by simp[g7],bv,u_,aj B,x8,B,hr⟩
   apply ai;simp[W,M,l6,h_,-aw];apply aU;have i8:∀J:an,bA J (.f (sl gO (ay O)))=aa O.length:=λJ=>by simp
   simp[i8];by_cases j6:O=[]
   .refine aq (by simp[j6]) (bQ (k':=[.code AL,.inLoop AK,.inBlock 0,.code AM]) rfl ?_);rw[j6]at d;exact d9 _ K l d (by simp[W]) (by simp[v]) (by simp[g4]) (by simp[X]) (by simp[g7]) (by simp[M]) hK g_ hc
   refine bG (by simp[j6]) ?_;apply ai;simp[W,g7,M,t8,rM,RU g_];obtain⟨K1,e_⟩:=aH (K.set m (.map (vt (pe n (Z U) l))));have w1:K1[m]?=aa (.map (vt (pe n (Z U) l))):=by rw[e_];exact By z8
   have w2:K1[N]?=E (([0,0,0,0,0,0,0,0]:List Int).map λn=>Z n):=by rw[e_,sh s7];exact hc
   have r_:H.length<=m:=by rw[hm];exact k5.1
   have w3:Kp H K1:=by rw[e_];exact hK.rW r_ _
   rw[<-e_];apply ai;simp[i8];have S:=λ(j:Nat) (hj:j<O.length) (H:an)=>bu (H:=H) (g:=gO) (rows:=ay O) (sz:=3) (k:=.i64) (i:=(j:Int)) ap ge;refine bW O.length (λj t J=>t.g 0=G (.fp cd 0)/\t.g 2=.c (.ptr N 0 0)/\t.g 4=vi q/\t.g 6=vi e/\t.g 7=.c (.mp m)/\t.g 8=vi n/\t.g 71=G (sl gO (ay O))/\Kp H J/\J[N]?=E (([0,0,0,0,0,0,0,0]:List Int).map λn=>Z n)/\
    ∃l' d_,J[m]?=aa (.map (vt l'))/\C8 n l'=aa (Z d_)/\lH q U O=lH q d_ (O.drop j)) ap ce ce bv bv
    ⟨by simp[W],by simp[v],by simp[g4],by simp[X],by simp[g7],by simp[M],bv,w3,w2,_,U,w1,xK _ _ _,bv⟩ ?_ ?_
   .clear W v g4 X g7 M w1 w2 w3 hc hK g_;rintro j t J hj ⟨W,v,g4,X,g7,M,i_,hK,hc,l',d_,B,p_,z⟩ ha hb next
    have s_:=λH:an=>cf (H:=H) (bI O) (dn hj);have S:=S j hj;simp only[ag7]at S;rw[agT hj,lH]at z;generalize O[j]=y at *;have hyl:y.row.length=3:=rfl;obtain⟨J1,a_⟩:=aH (J++[bV.box (y.row.map .f) 0]);have d1:J1[J.length]?=E (y.row.map .f):=by rw[a_];simp
    have y1:∀K:an,K[J.length]?=J1[J.length]?->aV K ab (.c (.ptr J.length 1 0))=aa (vi y.fr)/\aV K ab (.c (.ptr J.length 2 0))=aa (vi y.to)/\aV K (aa 3) (.c (.ptr J.length 0 0))=aa (.a [Z y.day,Z y.fr,Z y.to]):=λK hK=>by
     refine⟨?_,?_,?_⟩<;>simp[aV,az,hK.trans d1,aX,aA.row]
    have j_:J1[m]?=aa (.map (vt l')):=by rw[a_,AI (aj B)];exact B
    have x9:J1[N]?=E (([0,0,0,0,0,0,0,0]:List Int).map λn=>Z n):=by rw[a_,AI (aj hc)];exact hc
    have v_:Kp H J1:=by rw[a_];exact hK.tr (Kp.push _ _)
    apply ax;apply ai;simp[i_,ha,S,s_,hyl,-aw];rw[<-a_];obtain⟨y1a,y1b,-⟩:=y1 J1 rfl;obtain⟨T1,o_⟩:=aH (ah .i64 (d_+ah .i64 (y.to-y.fr)));rw[<-o_]at z;obtain⟨J2,b_⟩:=aH (J1.set m (.map (vt (pe n (Z T1) l'))));have r9:J2[m]?=aa (.map (vt (pe n (Z T1) l'))):=by rw[b_];exact By (aj j_)
    have j7:J2[N]?=E (([0,0,0,0,0,0,0,0]:List Int).map λn=>Z n):=by rw[b_,sh s7];exact x9
    have n8:Kp H J2:=by rw[b_];exact v_.rW r_ _
    have l_:m≠J.length:=by have:=aj B;omega
    apply ai;simp[g7,M,iB,JV j_ p_,y1a,y1b,<-o_,rM,RU j_,<-b_,-aw];apply ai;simp[g4,g7,M,iB,JV r9 (xK _ _ _)];by_cases j9:q<T1
    .rw[ct j9]at z;rw[z]at d;refine aq (by simp[j9]) ?_;have i6:=j7;simp only[IT,agN]at i6;have s1:dj J2 (.ptr N 0 0) [Z 14,Z 0,Z y.day,Z y.fr,Z y.to,Z 0,Z 0,Z 0]=aa (J2.set N (.box [Z 14,Z 0,Z y.day,Z y.fr,Z y.to,Z 0,Z 0,Z 0] 0)):=by simp[dj,i6,over]
     obtain⟨-,-,y1c⟩:=y1 J2 (by rw[b_,sh l_]);apply ai;simp[v,y1c,s1,-aw,-bF];refine av ?_;refine i9 _ _ _ ?_ ?_ (n8.rW ap _) ?_
     .simp[v]
     .simp
     .rw[By (aj j7),d];rfl
    .rw[cC j9]at z;refine aC ge (aQ ?_);exact au (next _ _ ⟨by simp[W],by simp[v],by simp[g4],by simp[X],by simp[g7],by simp[M],by simp[i_],n8,j7,_,T1,r9,xK _ _ _,z⟩ (by simp[ha]) (by simp[hb]))
   .rintro t J ⟨W,v,g4,X,g7,M,i_,hK,hc,l',d_,B,p_,z⟩ - -;rw[aib,lH]at z;rw[z]at d;exact au (d9 _ J l' d (by simp[W]) (by simp[v]) (by simp[g4]) (by simp[X]) (by simp[g7]) (by simp[M]) hK B hc)
 grind
def lM:List Int:=[0,0,0,0,0,0,0,0]
def qc:List (List Int)->List Int
 |[]=>lM| r::l=>if r.headD 0=0 then qc l else r
def zE:List Nat:=[Cs,Ct,il,pU]
theorem yq:∀{b:List (List Int)},(∀r∈b,r.length=8)->(qc b).length=8
 |[],_=>rfl
 |r::l,h=>by
  unfold qc;split
  .exact yq λy d=>h y (agU _ d)
  .exact h r agR
def Ql(X g:Tg){hh:Bool}(ht:jj l hh)(ss:List aJ)(hl:ss.length<=5)(hs:mG ss)(hm:∀s∈ss,s.jR)(x:aJ)(hx:x.jR)(i7:py ss x=ag)
  (z:List (List Int)) (i9:z.length=4) (h8:∀r∈z,r.length=8)
  (hr:∀(i:Nat) (h:i<4) (K:an),∃B,Ev tab (.fn (zE[i]'h)) [G (dP (sl X (rows l)) (sl g (aW ss)) x)] K (.t [mz (z[i]'(by omega)),vi 0]) B/\Kp K B) :
  bf tab jB [G (sl X (rows l)),G (sl g (aW ss)),.a (x.row.map .f)]=Eq (.t [mz (qc z),vi 0]):=by
 obtain⟨r,rfl,hp⟩:∃r,r=.t [mz (qc z),vi 0]/\bf tab jB [G (sl X (rows l)),G (sl g (aW ss)),.a (x.row.map .f)] r:=by
  refine dE (S:=λr=>r=.t [mz (qc z),vi 0]) Yr rfl λQ hQ=>?_;have hc:=CI X g ht ss hl hs hm x hx;rw[i7]at hc;have i8:x.row.length=7:=rfl;obtain⟨b,v⟩:=aH (qc z);have i6:b.length=8:=by rw[v];exact yq h8
  rw[<-v]at hQ;simp only[dP]at hc hr;obtain⟨sd,d9⟩:=aH (sl g (aW ss));obtain⟨rm,c_⟩:=aH (sl X (rows l));rw[<-d9,<-c_]at hc ⊢;rw[<-d9,<-c_]at hr;obtain⟨cd,f_⟩:=aH ([rm,sd]++x.row);rw[<-f_]at hc hr;apply ai;simp[i8];obtain⟨F,A⟩:=aH ([bV.box (x.row.map .f) 0,.box [Z 0,Z 0,Z 0,Z 0,Z 0,Z 0,Z 0,Z 0] 0]:an);have c0:F[0]?=E (x.row.map .f):=by rw[A];rfl
  have c1:F[1]?=E [Z 0,Z 0,Z 0,Z 0,Z 0,Z 0,Z 0,Z 0]:=by rw[A];rfl
  have n0:F.length=2:=by rw[A];rfl
  have l7:aV F (aa 7) (.c (.ptr 0 0 0))=aa (.a (x.row.map .f)):=by simp[aV,az,c0,aX,aJ.row]
  rw[<-A];have O:∀(t:T) (K:an) (j:Option aD),t.g 6=.c (.ptr 1 0 0)->t.g 7=vi 0->K[1]?=E (b.map λn=>Z n)->Q j ⟨t,[],K⟩:=by
   intro t K j y g7 M;refine hQ _ _ _ rfl ?_;refine⟨rfl,.t [mz b,vi 0],?_,?_⟩
   .simp[Km.results,cB,bC,y,g7,aV,az,M,aX,i6,agY,mz]
   .have hx:(b.map λn=>C.f (fi n))=(b.map λn=>fi n).map C.f:=lw
    simp only[mz,hx];generalize (b.map λn=>fi n)=ys;simp[jd,dq,bC,deep]
  have go:∀t:T,t.g 6=.c (.ptr 1 0 0)->t.g 8=G (.fp cd 0)->t.g 9=vb ae->WP tab jB ab [.code OO] ⟨t,[],F⟩ Q:=by
   intro t y g8 g9;apply aU;simp[g9];refine bG bv ?_;apply aU;obtain⟨L,u⟩:=aH (F++[bV.box (zE.map λf=>C.bm f [.f (.fp cd 0)]) 0]:an);have k1:Kp F L:=by rw[u];exact Kp.push _ _
   have b1:L[2]?=E (zE.map λf=>C.bm f [.f (.fp cd 0)]):=by rw[u,<-n0];simp
   have n1:L.length=3:=by rw[u];simp[n0]
   simp only[zE,IT,agN]at u;have c9:bA L (.sl 2 0 4 4 0 1)=aa 4:=by simp[bA,b1]
   simp[g8,n0];rw[<-u];simp[c9];refine bW 4 (λj t K=>t.g 6=.c (.ptr 1 0 0)/\t.g 32=.c (.sl 2 0 4 4 0 1)/\Kp L K/\qc (z.drop j)=b) ap ce ce bv bv ⟨by simp[y],bv,⟨agQ _,λ_ _=>rfl⟩,by simpa using v.symm⟩ ?_ ?_
   .rintro j t K hj ⟨y,d,hK,J⟩ ha M next
    have a_:j<z.length:=ii
    obtain⟨B,h_,e_⟩:=hr j hj K;have N:=hK.get b1;have q:=h8 _ (IN a_);rw[agT a_,qc]at J;have i1:bO K 1 ab (.c (.sl 2 0 4 4 0 1)) (vi (j:Int))=aa (.c (.ptr 2 j 0)):=by
     simp[bO,show fE (vi (j:Int))=aa (j:Int) from rfl,N];omega
    have i2:aV K ab (.c (.ptr 2 j 0))=aa (.c (.bm (zE[j]'hj) [.f (.fp cd 0)])):=by
     rw[aw,N];exact zR (by rw[ahF,BY (show j<zE.length from hj)];rfl)
    generalize z[j]=r at *;generalize zE[j]=f at *;apply ax;apply ai;simp[d,ha,i1,i2,-aw];obtain⟨H,I⟩:=aH (B++[bV.box (r.map λn=>Z n) 0]);have d2:H[B.length]?=E (r.map λn=>Z n):=by rw[I];simp
    have b_:Kp L H:=(hK.tr e_).tr (by rw[I];exact Kp.push _ _);have l0:aV H ab (.c (.ptr B.length 0 0))=aa (vi (r.headD 0)):=by
     match r,q with
     |p0::_,_=>simp[aV,az,d2]
    have l8:aV H (aa 8) (.c (.ptr B.length 0 0))=aa (.a (r.map λn=>Z n)):=by
     simp[aV,az,d2,aX,q,agY]
    apply aE;apply ba;simp[h_.eq,mz,q,-aw];rw[<-I]
    suffices d_:∀w:T,w.g 6=.c (.ptr 1 0 0)->w.g 12=.c (.ptr B.length 0 0)->w.g 13=vi 0->w.g 32=.c (.sl 2 0 4 4 0 1)->w.g 33=vi (4:Nat)->w.g 34=vi (j:Nat)->WP tab jB ab [.code La,.inBlock 1,.code (oV 34 52),.inLoop (gQ 0 34 33 35 52 K_),.inBlock 0,.code Lb] ⟨w,[],H⟩ Q by
     exact d_ _ (by simp[y]) bv bv (by simp[d]) (by simpa using M) (by simp[ha])
    clear y d ha M;intro w y U W d M ha;apply aE;apply ba;simp[U,W,l0,-aw];by_cases h0:r.headD 0=0
    .rw[ct h0]at J;refine aC (by simpa using h0) (aQ ?_);exact au (next _ _ ⟨by simp[y],by simp[d],b_,J⟩ (by simp[ha]) (by simp[M]))
    .rw[cC h0]at J;refine aq (by simpa using h0) ?_;have m:=b_.get (k1.get c1);obtain⟨K3,Y⟩:=aH (H.set 1 (.box (r.map λn=>Z n) 0));have s1:dj H (.ptr 1 0 0) (r.map λn=>Z n)=aa K3:=by
      rw[Y]
      match r,q with
      |[p0,p1,p2,p3,p4,p5,p6,p7],_=>simp[dj,m,over]
     apply ai;simp[y,U,W,l8,q,s1,-aw,-bF];refine av (O _ _ _ (by simp[y]) bv ?_);rw[Y,By (aj m),J]
   .rintro t K ⟨y,d,hK,J⟩ - -;have g_:b=lM:=by
     rw[<-J,List.drop_of_length_le ap];rfl
    have m:=hK.get (k1.get c1);have s1:dj K (.ptr 1 0 0) [Z 0,Z 0,Z 0,Z 0,Z 0,Z 0,Z 0,Z 0]=aa (K.set 1 (.box [Z 0,Z 0,Z 0,Z 0,Z 0,Z 0,Z 0,Z 0] 0)):=by simp[dj,m,over]
    apply ai;simp[y,s1,-bF];refine av (O _ _ _ (by simp[y]) bv ?_);rw[By (aj m),g_];rfl
  apply ai;simp[l7,hc,-aw];exact go _ bv bv bv
 exact hp.eq
end Go.Proofs.YtelifakcllijpaaGreat
