/-
  Dh the iC gK and the gl answer, for all arguments of their kind, in the small machine: part 5.
-/
import Derived.Test.YtelifakcllijpaaGreatS4
import Derived.Test.YtelifakcllijpaaGreatK3
import Derived.Test.YtelifakcllijpaaGreatK4
open Option renaming some->aa,none->ab
open Bool renaming true->ae,false->ag
open List renaming getElem?_append_left->AI, getElem?_set_ne->sh, getElem?_set_self->BY, getElem_mem->IN, length_take->agO, append_assoc->agM, length_eq_zero_iff->ahx, take_add_one->agv, getElem?_eq_getElem->By, take_length->agu, length_pos_iff->agV, getElem?_append_right->agj, map_cons->agm, map_nil->agp, length_drop->agF, drop_sublist->aiT, mem_of_mem_drop->ahd, getElem_of_mem->agz, getElem_drop->ahX, mem_of_getElem?->agU, getElem?_drop->ahk, map_drop->ahZ, length_append->aft, pairwise_map->ahW, mem_map->agt, mem_of_mem_take->ahn, drop_eq_getElem_cons->ags, map_append->ahl, drop_length->ahK, append_nil->agN, length_map->agq, mem_cons_self->ago, getElem_map->aib, length_set->agx, length_filter_le->ahb, filter_append->ah3, mem_filter->agT, mem_append->agl, mem_singleton->If, mem_append_left->ag3, pairwise_append->aho, pairwise_singleton->ahs, pairwise_iff_getElem->agQ, mem_take_iff_getElem->ahe, flatten_cons->agG
open Int renaming le_of_dvd->agZ, gcd->ag6, gcd_pos_of_ne_zero_left->ahv, ediv_nonneg->aha, ediv_le_self->ahL, mul_nonneg->ag7, mul_le_mul->ah5, le_trans->ag5, mul_le_mul_of_nonneg_left->agy, emod_nonneg->agW, emod_lt_of_pos->agL, emod_eq_of_lt->ahf, emod_add_mul_ediv->agB, mul_sub->aiL, mul_assoc->aia, mul_comm->ahB, dvd_sub->ahT, add_mul->aiA, mul_neg->aim, zero_emod->aiw, gcd_dvd_left->ah0, gcd_dvd_right->ah7, mul_ediv_cancel_left->ahD, lt_or_le->ahy, mul_le_mul_of_nonneg_right->agI, dvd_of_emod_eq_zero->ahH, sub_emod->aiE, add_emod->aiV, emod_eq_zero_of_dvd->aiF, emod_emod_of_dvd->ahu, dvd_refl->ahA, natAbs_dvd_natAbs->aiM, natCast_add->aiB, le_refl->ahw, toNat_natCast->agD, dvd_trans->ag0
open Nat renaming min_eq_left->ahQ, le_refl->agn, lt_or_ge->ahj, mul_one->ah8, sub_self->ah9, gcd->ahC, le_trans->agK, zero_add->ahg
open Bool renaming and_eq_true->IS, true_and->ahh
open List.Pairwise renaming imp->aif, imp_of_mem->aij
open Option renaming map_some->ag1
set_option linter.unusedVariables false
set_option linter.constructorNameAsVariable false
set_option linter.unusedSimpArgs false
set_option linter.unusedSectionVars false
set_option linter.unnecessarySimpa false
set_option maxRecDepth 100000
namespace Go.Proofs.YtelifakcllijpaaGreat
open Go Km
structure CH(p:aO)(bs:List Nat)(bb:Nat)(base s:Int)(m:Nat)(J:an):Prop where
 h0:J[0]?=aa (.box [.f (sl p.hg (ints p.head)),.f (fi p.fr),.f (fi p.aT),.f (sl p.cg (ints p.bF))] 0)
 h1:J[1]?=aa (.box [.f .aJ,.f (fi 0),.f (fi 0),.f .aJ] 0)
 h2:∃g,J[2]?=aa (.box [.f (sl g (ints (p.head.take m)))] 0)
 h3:J[3]?=aa (.box [.f (fi s)] 0)
 b4:4<=bb
 hb:J[bb]?=aa (.box [.f (fi base)] 0)
 cl:eI bs J
section
variable{p:aO}{bs:List Nat}{bb:Nat}{base s:Int}{m:Nat}{J:an}
theorem CH.push(h:CH p bs bb base s m J)(L:an):CH p bs bb base s m (J++L):=by
 obtain⟨h0,h1,⟨g,h2⟩,h3,b4,hb,cl⟩:=h;refine⟨?_,?_,⟨g,?_⟩,?_,b4,?_,cl.push L⟩
 .rw[AI (aj h0)];exact h0
 .rw[AI (aj h1)];exact h1
 .rw[AI (aj h2)];exact h2
 .rw[AI (aj h3)];exact h3
 .rw[AI (aj hb)];exact hb
theorem CH.set(h:CH p bs bb base s m J){i:Nat}{y z:bO}(hi:J[i]?=aa y)(hy:nr y=ae)(hb:∀cs fl,y≠.box cs fl)(hd:y≠.dQ ae):CH p bs bb base s m (J.set i z):=by
 obtain⟨h0,h1,⟨g,h2⟩,h3,b4,b,cl⟩:=h;have ne:∀k cs fl,J[k]?=aa (.box cs fl)->i≠k:=λk cs fl d e=>by
  subst e;rw[d]at hi;cases hi;exact hb _ _ rfl
 refine⟨?_,?_,⟨g,?_⟩,?_,b4,?_,cl.set hi hd⟩
 .rw[sh (ne _ _ _ h0)];exact h0
 .rw[sh (ne _ _ _ h1)];exact h1
 .rw[sh (ne _ _ _ h2)];exact h2
 .rw[sh (ne _ _ _ h3)];exact h3
 .rw[sh (ne _ _ _ b)];exact b
theorem CH.head(h:CH p bs bb base s m J)(g:Tg)(d:Nat):CH p bs bb base s d (J.set 2 (.box [.f (sl g (ints (p.head.take d)))] 0)):=by
 obtain⟨h0,h1,⟨g',h2⟩,h3,b4,b,cl⟩:=h;refine⟨?_,?_,⟨g,BY (aj h2)⟩,?_,b4,?_,cl.set h2 bv⟩
 .rw[sh ce];exact h0
 .rw[sh ce];exact h1
 .rw[sh ce];exact h3
 .rw[sh ap];exact b
theorem CH.start(h:CH p bs bb base s m J)(d:Int):CH p bs bb base d m (J.set 3 (.box [.f (fi d)] 0)):=by
 obtain⟨h0,h1,⟨g',h2⟩,h3,b4,b,cl⟩:=h;refine⟨?_,?_,⟨g',?_⟩,BY (aj h3),b4,?_,cl.set h3 bv⟩
 .rw[sh ce];exact h0
 .rw[sh ce];exact h1
 .rw[sh ce];exact h2
 .rw[sh ap];exact b
end
structure CT(t:T)(bb:Nat)(ED:Int)(g':Tg)(aeV:List Int):Prop where
 g1:t.g 1=.c (.ptr 0 0 0)
 g2:t.g 2=.c (.ptr 1 0 0)
 g3:t.g 3=.c (.ptr 2 0 0)
 g5:t.g 5=vi ED
 g6:t.g 6=.c (.f (sl g' (ints aeV)))
 g7:t.g 7=.c (.ptr 3 0 0)
 g8:t.g 8=.c (.ptr bb 0 0)
theorem Gc{p:aO}(hp:cI p=ae){l:Int}{g':Tg}{d:List Int}(hS:xc p.aT p.bF l d){bs:List Nat}{bb B:Nat}{base:Int}{tm:T}(q:CT tm bb l g' d)(hB:bb<B)(i9:-4398046511104<=base){J:an}{m:Nat}{T0:Int}{j:Nat}
  (hC:CH p bs bb base 0 m J) (I:oU p.head p.fr l d m T0 base j) (L:J[B]?=aa (.lp dN tm [P.nat 54,P.nat 55] dD dE .ready ab (B-1))) (i:Int) :
  ∃r H',Ev tab (.yield B) [vi i,vi (d[j]'(I.jl))] J r H'/\
   ((r=vb ae/\∃u,m=u+1/\(∃h:u<p.head.length,p.head[u]=base+d[j]'(I.jl))/\CH p bs bb base 0 u H'/\H'[B]?=aa (.lp dN tm [P.nat 54,P.nat 55] dD dE .ready ab (B-1))/\∀k cs fl,k≠2->J[k]?=aa (.box cs fl)->H'[k]?=aa (.box cs fl))\/
   (r=vb ag/\∃s,CH p bs bb base s m H'/\Stop p.head p.fr l d m s/\H'[B]?=aa (.lp dN tm [P.nat 54,P.nat 55] dD dE .done (aa (.exit 0)) (B-1)))):=by
 obtain⟨q1,q2,q3,q4,q5,q6,q7,q8,q9⟩:=bC hp;obtain⟨c,hc⟩:=aI (d[j]'(I.jl));have i_:0<=c/\c<l:=by rw[hc];exact hS.mem _ (IN _)
 have j8:l<=p.aT:=agZ ap hS.dvd;have f_:=I.bt;have j9:=I.tf;have j7:=I.ml;rw[<-hc]at f_;rw[<-hc];refine dw (tab:=tab) (b:=B) (args:=[vi i,vi c]) (H:=J) L rfl λQ' a=>?_;refine aq (.inr rfl) ?_;simp;refine fP L ?_;have E:=hC.set (z:=(.lp dN tm [P.nat 54,P.nat 55] dD dE .busy ab (B-1))) L rfl bv bv;have X:(J.set B (.lp dN tm [P.nat 54,P.nat 55] dD dE .busy ab (B-1)))[B]?=aa (.lp dN tm [P.nat 54,P.nat 55] dD dE .busy ab (B-1)):=BY (aj L);have U:∀(k:Nat) (cs:List C) (fl:Nat),J[k]?=aa (bO.box cs fl)->(J.set B (.lp dN tm [P.nat 54,P.nat 55] dD dE .busy ab (B-1)))[k]?=aa (bO.box cs fl):=λk cs fl w=>by
  rw[sh (by rintro rfl;rw[L]at w;cases w)];exact w
 generalize J.set B (.lp dN tm [P.nat 54,P.nat 55] dD dE .busy ab (B-1))=S at E X U ⊢;obtain⟨o,h2⟩:=E.h2;have h3:=E.h3;have e_:=E.hb;have b4:=E.b4;have a_:(p.head.take m).length=m:=by rw[agO];omega
 have M:∀H:an,bh H (.f (sl o (ints (p.head.take m))))=aa m:=λH=>by simp[ints];omega
 obtain⟨n,hn⟩:=aI (base+c);have wn:IntKind.i64.wrap (base+c)=n:=by rw[aZ,hn]
 have rest:∀(t:T) (last:Int),CT t bb l g' d->t.g 10=vi c->t.g 11=vi last->((m=0/\last = -1)\/∃hm:m-1<p.head.length,0<m/\last=p.head[m-1])->WP tab dN (aa B) [.code Jq,.inBlock 3] ⟨t,[],S⟩ Q':=by
  intro t last q c_ A v;have j5:-1<=last/\last<p.fr+1:=by
   rcases v with⟨_,e⟩|⟨hm,h1,e⟩
   .omega
   .have:=q7 _ (IN hm);omega
  have stop:∀s:Int,((n<0/\last<0/\s=0)\/(¬ (n<0/\last<0)/\n≠last/\s=max n last+1))->Stop p.head p.fr l d m s:=λs hs=>by
   refine I.stop q6 (λx hx=>by have:=q7 x hx;omega) q1 v ?_;rw[<-hc,<-hn];exact hs
  apply au;refine au (aq (.inr rfl) ?_);simp[q.g8,c_,e_,wn];refine ay ?_;by_cases f:n<0/\last<0
  .refine au (aq (.inr rfl) ?_);simp[A,f.1,f.2];refine aw bv ?_;refine mT rfl (a _ _ _ _ _ _ _ _ _ _ rfl X (.inr ⟨rfl,0,?_,stop 0 (.inl ⟨f.1,f.2,rfl⟩),BY (aj X)⟩));exact E.set X rfl bv bv
  .have go:∀t:T,CT t bb l g' d->t.g 11=vi last->t.g 12=vi n->WP tab dN (aa B) [.code Jr,.inBlock 4,.code Js,.inBlock 3] ⟨t,[],S⟩ Q':=by
    intro t q A Z;refine au (aq (.inr rfl) ?_);by_cases k2:n=last
    .simp[A,Z,k2];refine aD bv (aR (av ?_));have j6:0<m:=by
      rcases v with⟨N,Y⟩|⟨_,h,_⟩
      .exfalso;exact f ⟨ap,ap⟩
      .exact h
     obtain⟨u,rfl⟩:∃u,m=u+1:=⟨m-1,ap⟩
     have O:∃hm:u<p.head.length,last=p.head[u]:=by
      rcases v with⟨N,Y⟩|⟨hm,_,e⟩
      .omega
      .exact⟨hm,e⟩
     obtain⟨i6,h_⟩:=O;have W:=λH:an=>VG (H:=H) (g:=o) (m:=u) (Km.Ord.cQ (p.head.take (u+1))) (by simp[ints];omega) (IM (by rw[a_];omega));simp only[AN,List.take_take,ahQ (Nat.le_succ u)]at W;have N:((u+1:Nat):Int)-1=(u:Int):=by omega
     have s2:cY S (.ptr 2 0 0) [.f (sl .fs (ints (p.head.take u)))]=aa (S.set 2 (.box [.f (sl .fs (ints (p.head.take u)))] 0)):=by simp[cY,h2,over]
     have Q:aV S ab (.c (.ptr 2 0 0))=aa (.c (.f (sl o (ints (p.head.take (u+1)))))):=by simp[aV,aA,h2]
     have F:(S.set 2 (.box [.f (sl .fs (ints (p.head.take u)))] 0))[B]?=aa (.lp dN tm [P.nat 54,P.nat 55] dD dE .busy ab (B-1)):=by rw[sh ap];exact X
     refine aq (.inr rfl) ?_;simp[q.g3,Q,M,-ax,N,aZ (n:=(u:Int)),W,s2,-bw];have d9:=E.head .fs u;refine av (cX (a _ _ _ _ _ _ _ _ _ _ rfl F (.inl ⟨rfl,u,rfl,⟨i6,?_⟩,?_,BY (aj F),λk cs fl w g_=>?_⟩)))
     .rw[<-h_,<-k2,hn]
     .exact d9.set F rfl bv bv
     .have:=U k cs fl g_;rw[sh (by rintro rfl;rw[X]at this;cases this),sh (Ne.symm w)];exact this
    .simp[A,Z,k2];refine aw bv (au (aq (.inr rfl) ?_));simp[q.g7,A,Z,h3,aZ (n:=max n last+1)];have d_:=E.start (max n last+1);have F:(S.set 3 (.box [.f (fi (max n last+1))] 0))[B]?=aa (.lp dN tm [P.nat 54,P.nat 55] dD dE .busy ab (B-1)):=by rw[sh ap];exact X
     refine mT rfl (a _ _ _ _ _ _ _ _ _ _ rfl F (.inr ⟨rfl,max n last+1,?_,stop _ (.inr ⟨f,k2,rfl⟩),BY (aj F)⟩));exact d_.set F rfl bv bv
   have K:∀y:T,y.g 1=t.g 1->y.g 2=t.g 2->y.g 3=t.g 3->y.g 5=t.g 5->y.g 6=t.g 6->y.g 7=t.g 7->y.g 8=t.g 8->CT y bb l g' d:=λy N Y e3 e5 e6 e7 e8=>⟨N.trans q.g1,Y.trans q.g2,e3.trans q.g3,e5.trans q.g5,e6.trans q.g6,e7.trans q.g7,e8.trans q.g8⟩
   by_cases k3:n<0
   .have k4:¬ last<0:=λh=>f ⟨k3,h⟩;refine au (aq (.inr rfl) ?_);simp[A,k3,k4];refine aD bv ?_;exact go _ (K _ bv bv bv bv bv bv bv) (by simp[A]) bv
   .refine au (aq (.inr rfl) ?_);simp[k3];refine aD bv ?_;exact go _ (K _ bv bv bv bv bv bv bv) (by simp[A]) bv
 refine ay ?_;refine au (aq (.inr rfl) ?_);simp;have K:∀y:T,y.g 1=tm.g 1->y.g 2=tm.g 2->y.g 3=tm.g 3->y.g 5=tm.g 5->y.g 6=tm.g 6->y.g 7=tm.g 7->y.g 8=tm.g 8->CT y bb l g' d:=λy N Y e3 e5 e6 e7 e8=>⟨N.trans q.g1,Y.trans q.g2,e3.trans q.g3,e5.trans q.g5,e6.trans q.g6,e7.trans q.g7,e8.trans q.g8⟩
 apply au;have Q:aV S ab (.c (.ptr 2 0 0))=aa (.c (.f (sl o (ints (p.head.take m))))):=by simp[aV,aA,h2]
 refine au (aq (.inr rfl) ?_);simp[q.g3,Q,M,-ax];by_cases k0:0<m
 .have i7:m-1<p.head.length:=by omega
  have i8:m-1<(p.head.take m).length:=by omega
  have N:((m:Int)-1)=((m-1:Nat):Int):=by omega
  have b_:=λH:an=>bz (H:=H) (g:=o) (rows:=ints (p.head.take m)) (sz:=1) (k:=.i64) (i:=((m-1:Nat):Int)) ap (by simp[ints];omega);have c9:=λH:an=>dZ (H:=H) i8;have Y:(p.head.take m)[m-1]=p.head[m-1]:=by simp
  rw[Y]at c9;simp at b_;refine aw (by simp[k0]) (aq (.inr rfl) ?_);simp[q.g3,Q,M,-ax,N,aZ (n:=((m-1:Nat):Int)),b_,c9];exact rest _ _ (K _ bv bv bv bv bv bv bv) bv bv (.inr ⟨i7,k0,rfl⟩)
 .refine bE (by simp[k0]) ?_;exact rest _ _ (K _ bv bv bv bv bv bv bv) bv bv (.inl ⟨ap,rfl⟩)
theorem uB{H:an}{g:Tg}(l:List Int)(m:l.length<=1000000):∃c J,Ev tab (.fn FI) [.c (.f (sl g (ints l)))] H=E2 (.c c) (H++J)/\LR (H++J) c 1 (ints l)/\∀i,bf c=aa i->H.length<=i:=by
 obtain⟨r,H',j,c,J,rfl,rfl,b,d⟩:=sK (F:=FI) (sz:=1) (zs:=[fi 0]) (bytes:=8) (H:=H) (g:=g) (rows:=ints l) XZ ce (Km.Ord.cQ l) (gV (by simp[ints];omega) ce);exact⟨c,J,j.eq,b,d⟩
theorem KT(p:aO)(f:cI p=ae)(e:p.bF=[])(hl:p.head.length<=1000000):∃q,oP p q/\q.bF.length<=p.bF.length/\q.head.length<=p.head.length/\bg tab dN [.a (p.row.map .f)] (.a (q.row.map .f)):=by
 obtain⟨q1,q2,q3,q4,q5,q6,q7,q8,q9⟩:=bC f;obtain⟨r,⟨q,hq,ha,hb,rfl⟩,h⟩:∃r,(∃q,oP p q/\q.bF.length<=p.bF.length/\q.head.length<=p.head.length/\r=.a (q.row.map .f))/\bg tab dN [.a (p.row.map .f)] r:=by
  refine dx rfl rfl λQ hQ=>?_;obtain⟨H,z⟩:=aI ([.box [.f (sl p.hg (ints p.head)),.f (fi p.fr),.f (fi p.aT),.f (sl p.cg (ints p.bF))] 0,.box [.f .aJ,.f (fi 0),.f (fi 0),.f .aJ] 0,.box [.f (sl p.hg (ints p.head))] 0]:an);obtain⟨c,J,M,B,a⟩:=uB (H:=H) (g:=p.hg) p.head hl;have l:∀H:an,bh H (.f (sl p.hg (ints p.head)))=aa p.head.length:=λH=>by simp[ints]
  have K:∀H:an,bh H (.f (sl p.cg (ints p.bF)))=aa 0:=λH=>by simp[ints,e]
  apply ai;simp[aO.row];refine nM (ai ?_);simp;rw[<-z];have h0:H[0]?=aa (.box [.f (sl p.hg (ints p.head)),.f (fi p.fr),.f (fi p.aT),.f (sl p.cg (ints p.bF))] 0):=by rw[z];rfl
  have h1:H[1]?=aa (.box [.f .aJ,.f (fi 0),.f (fi 0),.f .aJ] 0):=by rw[z];rfl
  have Z:H[2]?=aa (.box [.f (sl p.hg (ints p.head))] 0):=by rw[z];rfl
  apply au;apply ai;simp[h0,K];refine aw bv ?_;apply ai;simp[Z,M];obtain⟨b,d⟩:=aI (H++J:an);obtain⟨v,j⟩:=aI (b.length);have E:H.length+J.length=v:=by rw[j,d];simp
  have a_:H.length=3:=by rw[z];rfl
  rw[<-d]at B;have w:∀i:Nat,i<H.length->b[i]?=H[i]?:=λi hi=>by rw[d,AI hi]
  have x:∀(t:T) (s:Int),t.g 2=.c (.ptr 1 0 0)->t.g 4=.c (.ptr v 0 0)->((p.head=[]/\s=0)\/∃h:p.head.length-1<p.head.length,s=p.head[p.head.length-1]+1)->
    WP tab dN ab [.code Jm,.code Jn,.inScope C2] ⟨t,[],b++[.box [c,.f (fi s),.f (fi 1),.f .aJ] 0]⟩ Q:=by
   intro t s Y g4 hs;have o:(b++[bO.box [c,.f (fi s),.f (fi 1),.f .aJ] 0])[v]?=aa (.box [c,.f (fi s),.f (fi 1),.f .aJ] 0):=by rw[j];simp
   have L:(b++[bO.box [c,.f (fi s),.f (fi 1),.f .aJ] 0])[1]?=aa (.box [.f .aJ,.f (fi 0),.f (fi 0),.f .aJ] 0):=by
    rw[AI ap,w 1 ap];exact h1
   have S:=B.push [bO.box [c,.f (fi s),.f (fi 1),.f .aJ] 0];generalize b++[bO.box [c,.f (fi s),.f (fi 1),.f .aJ] 0]=u at o L S ⊢;have X:aV u (aa 4) (.c (.ptr v 0 0))=aa (.a [c,.f (fi s),.f (fi 1),.f .aJ]):=by simp[aV,aA,o,aW]
   have s1:cY u (.ptr 1 0 0) [c,.f (fi s),.f (fi 1),.f .aJ]=aa (u.set 1 (.box [c,.f (fi s),.f (fi 1),.f .aJ] 0)):=by simp[cY,L,over]
   have n1:(u.set 1 (.box [c,.f (fi s),.f (fi 1),.f .aJ] 0))[1]?=aa (.box [c,.f (fi s),.f (fi 1),.f .aJ] 0):=BY (aj L);have U:=S.set (S.bR L) (.box [c,.f (fi s),.f (fi 1),.f .aJ] 0);obtain⟨y,N⟩:=U.ex (Km.Ord.cQ _) 63;apply ai;simp[Y,g4,X,s1,-ax,-bw];refine az (hQ _ _ _ ⟨⟨y,p.head,s,1,.nil,[]⟩,KQ f e hs y .nil,bv,agn _,rfl⟩ ⟨rfl,.a [c,.f (fi s),.f (fi 1),.f .aJ],?_,?_⟩)
   .simp[Km.results,cC,bu,Y,n1,aW]
   .simp[jh,dq,bu,deep,N,aO.row,sl,ints,Tg.fc]
  rw[<-agM,<-d,E];have v2:(b++[bO.box [c,.f (fi 0),.f (fi 1),.f .aJ] 0])[2]?=aa (.box [.f (sl p.hg (ints p.head))] 0):=by
   rw[AI ap,w 2 ap];exact Z
  have v4:(b++[bO.box [c,.f (fi 0),.f (fi 1),.f .aJ] 0])[v]?=aa (.box [c,.f (fi 0),.f (fi 1),.f .aJ] 0):=by rw[j];simp
  have m:∀s:Int,(b++[bO.box [c,.f (fi 0),.f (fi 1),.f .aJ] 0]).set v (.box [c,.f (fi s),.f (fi 1),.f .aJ] 0)=b++[.box [c,.f (fi s),.f (fi 1),.f .aJ] 0]:=λs=>by rw[j];simp
  apply au;obtain⟨u,A⟩:=aI (b++[bO.box [c,.f (fi 0),.f (fi 1),.f .aJ] 0]);rw[<-A]at v2 v4 m ⊢;have I:aV u ab (.c (.ptr 2 0 0))=aa (.c (.f (sl p.hg (ints p.head)))):=by simp[aV,aA,v2]
  apply au;refine aq (.inl rfl) ?_;simp[I,l,-ax];by_cases k:0<p.head.length
  .have O:p.head.length-1<p.head.length:=by omega
   have b_:=q7 _ (IN O);have e1:((p.head.length:Int)-1)=((p.head.length-1:Nat):Int):=by omega
   have F:=λH:an=>bz (H:=H) (g:=p.hg) (rows:=ints p.head) (sz:=1) (k:=.i64) (i:=((p.head.length-1:Nat):Int)) ap (by simp[ints];omega);have W:=λH:an=>dZ (H:=H) O;simp at F;have s4:cY u (.ptr v 1 0) [.f (fi (p.head[p.head.length-1]+1))]=aa (b++[.box [c,.f (fi (p.head[p.head.length-1]+1)),.f (fi 1),.f .aJ] 0]):=by
    rw[<-m];simp[cY,v4,over]
   refine aw (by simp[k]) (aq (.inl rfl) ?_);simp[I,l,-ax,e1,aZ (n:=((p.head.length-1:Nat):Int)),F,W,aZ (n:=p.head[p.head.length-1]+1),s4,-bw];exact x _ _ bv bv (.inr ⟨O,rfl⟩)
  .refine bE (by simp[k]) ?_;rw[A];exact x _ 0 bv bv (.inl ⟨ahx.1 ap,rfl⟩)
 exact⟨q,hq,ha,hb,h⟩
theorem oz{H:an}{c:C}{sz:Nat}{rows:List (List FC)}(h:LR H c sz rows){i:Nat}{y:bO}(g:H[i]?=aa y)(j:nr y=ae):bf c≠aa i:=by
 rcases h with⟨_,rfl|rfl⟩|⟨h,b,l,rfl,d⟩
 .simp[bf]
 .simp[bf]
 .intro e;cases e;unfold RB at d;rw[g]at d;cases d;cases j
theorem CH.bH{p:aO}{bs:List Nat}{bb:Nat}{base s:Int}{m:Nat}{J J':an}(h:CH p bs bb base s m J)(b:∀(i:Nat) y,J[i]?=aa y->nr y=ae->J'[i]?=aa y):CH p bs bb base s m J':=by
 obtain⟨h0,h1,⟨g,h2⟩,h3,b4,hb,cl⟩:=h;exact⟨b _ _ h0 rfl,b _ _ h1 rfl,⟨g,b _ _ h2 rfl⟩,b _ _ h3 rfl,b4,b _ _ hb rfl,cl.bH b⟩
structure QI(p:aO)(bs:List Nat)(bb:Nat)(base s ED:Int)(m bq:Nat)(c cq:C)(ni:List Int)(J:an):Prop where
 ch:CH p bs bb base s m J
 bx:J[bq]?=aa (.box [c,.f (fi s),.f (fi ED),cq] 0)
 lc:LR J c 1 (ints (p.head.take m))
 lq:LR J cq 1 (ints ni)
 ne:∀i,bf c=aa i->bf cq≠aa i
 big:4<bq/\bq≠bb
theorem QI.app{p:aO}{bs:List Nat}{bb:Nat}{base s b:Int}{m z:Nat}{c I:C}{ni:List Int}{J:an}(h:QI p bs bb base s b m z c I ni J)(hl:ni.length<=1000000)(n:Int) :
  ∃v q,bT (J++[.box [.f (fi n)] 0]) 1 8 (.c I) (.c (.sl J.length 0 1 1 0 1))=aa (.c v,q)/\cY q (.ptr z 3 0) [v]=aa (q.set z (.box [c,.f (fi s),.f (fi b),v] 0))/\QI p bs bb base s b m z c v (ni++[n]) (q.set z (.box [c,.f (fi s),.f (fi b),v] 0)):=by
 obtain⟨H,d⟩:=aI (J++[.box ([fi n].map .f) 0]:an);have up:∀(i:Nat) y,J[i]?=aa y->H[i]?=aa y:=λi y hy=>by rw[d,AI (aj hy)];exact hy
 have B:LR H I 1 (ints ni):=by rw[d];exact h.lq.push _
 have L:H[J.length]?=aa (.box ([fi n].map .f) 0):=by rw[d];simp
 obtain⟨v,q,u,x,A,M⟩:=B.app (Km.Ord.cQ ni) ce (row:=[fi n]) rfl (bytes:=8) (gV (by simp[ints];omega) ce) L;have F:∀(i:Nat) y,J[i]?=aa y->nr y=ae->q[i]?=aa y:=λi y hy O=>A.2 i y (up _ _ hy) (oz B (up _ _ hy) O);have j:=F _ _ h.bx rfl;have N:ints ni++[[fi n]]=ints (ni++[n]):=by simp[ints]
 rw[N]at x;have E:LR q c 1 (ints (p.head.take m)):=h.lc.bH λi y hy hi=>A.2 i y (up _ _ hy) (h.ne i hi);have K:=h.ch.bH F;refine⟨v,q,by rw[d]at u;exact u,by simp[cY,j,over],?_,BY (aj j),E.set (E.bR j) _,x.set (x.bR j) _,?_,h.big⟩
 .obtain⟨h0,h1,⟨g,h2⟩,h3,b4,hb,cl⟩:=K;have hg:=h.big;refine⟨?_,?_,⟨g,?_⟩,?_,b4,?_,cl.set j bv⟩
  all_goals (rw[sh ap];assumption)
 .intro i hi l;rcases M with e|e
  .rw[e]at l;exact h.ne i hi l
  .rw[e]at l;cases l;have:=h.lc.lt hi;have h2:H.length=J.length+1:=by rw[d];simp
   omega
theorem uz(n:Int):(vi n).beq (vi n)=ae:=by simp[V.beq,C.beq,FC.beq]
theorem Gi{p:aO}(hp:cI p=ae)(hl:p.head.length<=1000000){b:Int}{g':Tg}{d:List Int}(hS:xc p.aT p.bF b d)(t7:d.length<=1000000){bs:List Nat}{bb:Nat}{base s:Int}{m:Nat}{J:an}(hC:CH p bs bb base s m J)(hT:Stop p.head p.fr b d m s)
  {t:T} (N:CT t bb b g' d) {k:List dU} {Q:Option aE->St->Prop} (hQ:∀j s r,(∃q,oP p q/\q.bF.length<=p.bF.length/\q.head.length<=p.head.length/\r=.a (q.row.map .f))->PI [.cell (P.nat 2) (aa 4)] r s->Q j s) :
  WP tab dN ab (.code zK::k) ⟨t,bs.map .dY,J⟩ Q:=by
 obtain⟨q1,q2,q3,q4,q5,q6,q7,q8,q9⟩:=bC hp;have q_:=hT.ml;have u_:=hT.sf;have u9:=hT.s0;have t_:b<=p.aT:=agZ ap hS.dvd;have t8:=hS.p1;obtain⟨gh,h2⟩:=hC.h2;have h0:=hC.h0;have h1:=hC.h1;have h3:=hC.h3;have j5:(p.head.take m).length=m:=by rw[agO];omega
 obtain⟨c,Jc,u,U,i9⟩:=uB (H:=J) (g:=gh) (p.head.take m) ap;obtain⟨HJ,g_⟩:=aI (J++Jc:an);have F:CH p bs bb base s m HJ:=by rw[g_];exact hC.push Jc
 rw[<-g_]at u U;have c_:∀H:an,H[3]?=aa (.box [.f (fi s)] 0)->aV H ab (.c (.ptr 3 0 0))=aa (vi s):=λH h=>by simp[aV,aA,h]
 have k_:aV J ab (.c (.ptr 2 0 0))=aa (.c (.f (sl gh (ints (p.head.take m))))):=by simp[aV,aA,h2]
 have j9:=c_ J h3;have c9:=c_ HJ F.h3;refine au (eF (.inl rfl) ?_ ?_)
 case refine_2=>
  intro cc n9;have n8:cc=(2,1):=by simpa using n9
  subst n8;refine⟨ce,_,rfl,.inr ⟨ce,?_⟩⟩;simp[N.g3,N.g7,k_,-ax,u,j9,c9,gj,uz]
 simp[N.g3,N.g5,N.g7,k_,-ax,u,c9];obtain⟨O,a_⟩:=aI (HJ.length);have i_:4<O:=by have:=aj F.hb;have:=F.b4;omega
 obtain⟨HK,S⟩:=aI (HJ++[bO.box [c,.f (fi s),.f (fi b),.f .aJ] 0]);have f_:CH p bs bb base s m HK:=by rw[S];exact F.push _
 have j6:HK[O]?=aa (.box [c,.f (fi s),.f (fi b),.f .aJ] 0):=by rw[S,a_];simp
 have i6:LR HK c 1 (ints (p.head.take m)):=by rw[S];exact U.push _
 have t6:∀i,bf c=aa i->i<O:=λi hi=>by rw[a_];exact U.lt hi
 rw[<-a_,<-S];have m9:QI p bs bb base s b m O c (.f .aJ) [] HK:=⟨f_,j6,i6,LR.nil _ _,(λi hi h=>by cases h),i_,by have:=aj F.hb;omega⟩
 clear u U i9 c9 j9 f_ j6 i6;apply au;apply ai;simp[N.g6];refine bS d.length (λi t J=>t.g 1=.c (.ptr 0 0 0)/\t.g 2=.c (.ptr 1 0 0)/\t.g 5=vi b/\t.g 7=.c (.ptr 3 0 0)/\t.g 13=.c (.ptr O 0 0)/\t.g 94=.c (.f (sl g' (ints d)))/\∃l,QI p bs bb base s b m O c l (gd p.fr s b (d.take i)) J) ap ce ce bv (by simp[ints])
  ⟨by simp[N.g1],by simp[N.g2],by simp[N.g5],by simp[N.g7],bv,bv,.f .aJ,by simpa[gd]using m9⟩ ?_ ?_
 .rintro i t J hi ⟨g1,g2,g5,g7,E,Z,l,B⟩ ha hb next
  have n_:=hS.mem _ (IN hi);have j8:=λH:an=>bz (H:=H) (g:=g') (rows:=ints d) (sz:=1) (k:=.i64) (i:=(i:Int)) ap (by simp[ints];omega);have j_:=λH:an=>dZ (H:=H) hi;simp at j8;obtain⟨x,hx⟩:=aI (d[i]);rw[<-hx]at n_ j_;have r7:d.take (i+1)=d.take i++[x]:=by rw[agv,By hi,hx];rfl
  have j7:cT .rem (vi (p.fr+x-s)) (vi b)=aa (vi ((p.fr+x-s) % b)):=gQ ap ap;obtain⟨c3,H3,i8,r6,r5⟩:=B.app (by simp[gd];omega) ((p.fr+x-s) % b);have d9:aV J ab (.c (.ptr O 3 0))=aa (.c l):=by simp[aV,aA,B.bx]
  have r_:aV J ab (.c (.ptr 0 1 0))=aa (vi p.fr):=by simp[aV,aA,B.ch.h0]
  have s7:=c_ J B.ch.h3;refine ay ?_;apply ai;simp[ha,Z,j8,j_];refine aq (.inl rfl) ?_;simp[g1,g5,g7,E,d9,r_,s7,-ax,aZ (n:=p.fr+x),aZ (n:=p.fr+x-s),j7,i8,r6,-bw];refine av (next _ _ ?_ (by simp[ha]) (by simp[hb]));refine⟨by simp[g1],by simp[g2],by simp[g5],by simp[g7],by simp[E],by simp[Z],c3,?_⟩;rw[r7];simpa[gd]using r5
 .rintro t J ⟨g1,g2,g5,g7,E,Z,l,B⟩ - -;rw[agu]at B;obtain⟨r,X,he,rfl,hK,l2,h_,L,p_⟩:=Sb B.lq (by simp[gd];omega);have up:∀(i:Nat) y,J[i]?=aa y->nr y=ae->X[i]?=aa y:=λi y W hn=>hK.2 i y W (oz B.lq W hn);have A:=B.ch.bH up;have m_:=up _ _ B.bx rfl;have i7:LR X c 1 (ints (p.head.take m)):=B.lc.bH λi y W hi=>hK.2 i y W (B.ne i hi);have d9:aV J ab (.c (.ptr O 3 0))=aa (.c l):=by simp[aV,aA,B.bx]
  have r9:aV X (aa 4) (.c (.ptr O 0 0))=aa (.a [c,.f (fi s),.f (fi b),l]):=by simp[aV,aA,m_,aW]
  have s1:cY X (.ptr 1 0 0) [c,.f (fi s),.f (fi b),l]=aa (X.set 1 (.box [c,.f (fi s),.f (fi b),l] 0)):=by simp[cY,A.h1,over]
  have n1:(X.set 1 (.box [c,.f (fi s),.f (fi b),l] 0))[1]?=aa (.box [c,.f (fi s),.f (fi b),l] 0):=BY (aj A.h1);have v:=A.cl.set (z:=.box [c,.f (fi s),.f (fi b),l] 0) A.h1 bv;have I:=i7.set (i7.bR A.h1) (.box [c,.f (fi s),.f (fi b),l] 0);have K:=h_.set (h_.bR A.h1) (.box [c,.f (fi s),.f (fi b),l] 0);generalize s_:X.set 1 (.box [c,.f (fi s),.f (fi b),l] 0)=Y at s1 n1 v I K;have l_:∀(i:Nat) y,i ∉ bs->Y[i]?=aa y->(ns bs Y)[i]?=aa y:=λi y hi W=>(iQ hi).trans W;obtain⟨d_,o_⟩:=I.ZZ (Km.Ord.cQ _);obtain⟨e_,p9⟩:=K.ZZ (Km.Ord.cQ _);have M:∀(c:C) (rows:List (List FC)),LR Y c 1 rows->∀i y,Y[i]?=aa y->bf c=aa i->(ns bs Y)[i]?=aa y:=λc rows hL i y W hi=>l_ i y (λhb=>oz hL (v.on i hb) rfl hi) W;have e5:=o_ (ns bs Y) 63 (M _ _ I);have e6:=p9 (ns bs Y) 63 (M _ _ K);have m1:=l_ 1 _ (v.not n1 bv) n1;apply ai;simp[E,d9,-ax,he.eq];apply ai;simp[g2,E,r9,s1,-ax,-bw];have b_:l2.length=d.length:=by rw[L.length_eq];simp[gd]
  refine az (hQ _ _ _ ⟨⟨d_,p.head.take m,s,b,e_,l2⟩,KR hp hS hT L p_ d_ e_,by show l2.length<=_;rw[b_];exact hS.len,by show(p.head.take m).length<=_;rw[j5];exact q_,rfl⟩ ⟨bs,rfl,v,.a [c,.f (fi s),.f (fi b),l],?_,?_⟩)
  .simp[Km.results,cC,bu,g2,m1,aW]
  .simp[jh,dq,bu,deep,e5,e6,aO.row]
theorem KN(p:aO)(hp:cI p=ae)(c:0<p.bF.length)(j6:p.bF.length<=1000000)(hl:p.head.length<=1000000):∃q,oP p q/\q.bF.length<=p.bF.length/\q.head.length<=p.head.length/\bg tab dN [.a (p.row.map .f)] (.a (q.row.map .f)):=by
 obtain⟨q1,q2,q3,q4,q5,q6,q7,q8,q9⟩:=bC hp;obtain⟨r,⟨q,hq,ha,Z,rfl⟩,h⟩:∃r,(∃q,oP p q/\q.bF.length<=p.bF.length/\q.head.length<=p.head.length/\r=.a (q.row.map .f))/\bg tab dN [.a (p.row.map .f)] r:=by
  refine qJ XO rfl λQ hQ=>?_;obtain⟨j,g',d,v,g_⟩:=Ho p.cg p.bF p.aT ap ap c ap q8 (λx hx=>by have:=q9 x hx;omega);have j9:j<=p.aT:=agZ ap v.dvd;have U:=v.p1;have j7:=v.len;have e:0<d.length:=agV.2 v.ne;have o:∀H:an,bh H (.f (sl p.cg (ints p.bF)))=aa p.bF.length:=λH=>by simp[ints]
  apply ai;simp[aO.row];refine nM (ai ?_);simp;apply au;apply ai;simp[o];refine aD (by simp;exact agV.1 c) (aR ?_);apply ai;simp[g_];apply ai;simp;refine au (sZ ?_);apply au;apply ai;simp[aZ (n:=p.fr-j)];refine ay ?_;refine dc (λmm st=>∃(t:T) (bs:List Nat) (bb:Nat) (J:an) (T0 base:Int),st=⟨t,bs.map .dY,J⟩/\CT t bb j g' d/\CH p bs bb base 0 mm J/\oU p.head p.fr j d mm T0 base (d.length-1)/\-4398046511104<=base) p.head.length
   ⟨_,[],4,_,_,_,rfl,⟨bv,bv,bv,bv,bv,bv,bv⟩,⟨rfl,rfl,⟨p.hg,by rw[agu];rfl⟩,rfl,ce,rfl,⟨bv,bv⟩⟩,oU.start U v.mem v.up (λx hx=>(q7 x hx).2) e,ap⟩ ?_
  rintro mm st ⟨t,bs,bb,J,T0,base,rfl,K,w,d9,c_⟩ ih;apply au;refine ay ?_;obtain⟨r,H',d_,rfl,rfl⟩:=Du (sl g' (ints d)) J;apply ai;simp[K.g6,d_.eq];refine ay ?_;have c9:∀I:T,I.g 1=t.g 1->I.g 2=t.g 2->I.g 3=t.g 3->I.g 5=t.g 5->I.g 6=t.g 6->I.g 7=t.g 7->I.g 8=t.g 8->CT I bb j g' d:=λI e1 e2 e3 e5 e6 e7 e8=>⟨e1.trans K.g1,e2.trans K.g2,e3.trans K.g3,e5.trans K.g5,e6.trans K.g6,e7.trans K.g7,e8.trans K.g8⟩
  obtain⟨bx,A⟩:=aI (J.length);rw[<-A];have j5:=aj w.hb;have i_:=w.b4;have range:∀tm:T,CT tm bb j g' d->tm.g 53=.c (.cl wV [.ptr bx 0 0])->WP tab dN ab [.code Jp,.inBlock 2,.inBlock 1,.code Jt,.inLoop Jo,.inBlock 0,.code zK,.inScope C2] ⟨tm,bs.map .dY,J++[.box [.f (sl g' (ints d))] 0]⟩ Q:=by
   intro tm u a_;obtain⟨X,y⟩:=aI (J++[.box [.f (sl g' (ints d))] 0]++[.dQ ae,.lp dN tm [P.nat 54,P.nat 55] dD dE .ready ab (bx+2-1)]:an);have L:CH p bs bb base 0 mm X:=by rw[y,agM];exact w.push _
   have rx:X[bx]?=aa (.box [.f (sl g' (ints d))] 0):=by rw[y,A];simp
   have rd:X[bx+1]?=aa (.dQ ae):=by rw[y,A,agj bv];simp
   have rl:X[bx+2]?=aa (.lp dN tm [P.nat 54,P.nat 55] dD dE .ready ab (bx+2-1)):=by rw[y,A,agj bv];simp
   have b_:CH p ((bx+1)::bs) bb base 0 mm X:=⟨L.h0,L.h1,L.h2,L.h3,L.b4,L.hb,List.nodup_cons.2 ⟨λhm=>by have:=aj (w.cl.on _ hm);omega,L.cl.nd⟩,λb Z=>by
    rcases List.mem_cons.1 Z with rfl|Z
    .exact rd
    .exact L.cl.on b Z⟩
   obtain⟨r,H',he,rfl,N⟩:=Dv (b:=bx+2) (bx:=bx) (g:=g') (l:=d) (H:=X)
    (PP:=λi H=>∃m T,CH p ((bx+1)::bs) bb base 0 m H/\H[bx]?=aa (.box [.f (sl g' (ints d))] 0)/\H[bx+2]?=aa (.lp dN tm [P.nat 54,P.nat 55] dD dE .ready ab (bx+2-1))/\i<=d.length/\m+(d.length-i)=mm/\
     (0<i->oU p.head p.fr j d m T base (i-1))/\(i=0->oU p.head p.fr j d m T (base-j) (d.length-1)/\-1099511627776<=base))
    (EX:=λH=>∃m s,CH p ((bx+1)::bs) bb base s m H/\Stop p.head p.fr j d m s/\H[bx+2]?=aa (.lp dN tm [P.nat 54,P.nat 55] dD dE .done (aa (.exit 0)) (bx+2-1)))
    ap (λi H h=>by obtain⟨m,T,-,h,-⟩:=h;exact⟨_,h⟩)
    ⟨mm,T0,b_,rx,rl,agn _,ap,λ_=>d9,λh=>by omega⟩
    (λi hi H1 ⟨m,T,h1,h2,h3,h4,h5,h6,h7⟩=>by
     have M:=h6 ap;obtain⟨r,H2,f_,hr⟩:=Gc hp v u (B:=bx+2) ap c_ h1 M h3 i;refine⟨r,H2,f_,?_⟩;rcases hr with⟨rfl,m',rfl,⟨S,O⟩,W,Y,F⟩|⟨rfl,s,W,Y,F⟩
     .refine .inl ⟨rfl,m',p.head[m'],W,F bx _ _ ap h2,Y,ap,ap,λf=>?_,λf=>?_⟩
      .obtain⟨i',rfl⟩:∃i',i=i'+1:=⟨i-1,ap⟩
       exact M.down q6 v.up U v.mem S O
      .subst f;have hx:=(q7 _ (IN S)).1;have hy:=v.mem _ (IN (l:=d) (n:=0) e);refine⟨M.wrap q6 v.up U v.mem S O,?_⟩;have i9:p.head[m']=base+d[0]:=O;omega
     .exact .inr ⟨rfl,m,s,W,Y,F⟩)
   have E:(J++[bO.box [.f (sl g' (ints d))] 0]).length=bx+1:=by simp[A]
   have e_:Ev tab (.fn wV) [.c (.yl ((J++[bO.box [.f (sl g' (ints d))] 0]).length+1)),.c (.ptr bx 0 0)] (J++[.box [.f (sl g' (ints d))] 0]++[.dQ ae,.lp dN tm [P.nat 54,P.nat 55] dD dE .ready ab (J++[bO.box [.f (sl g' (ints d))] 0]).length]) (.t []) H':=by
    rw[E];rw[y]at he;exact he
   refine dK (g:=wV) (by rw[oi,a_];simp[cr]) e_ ?_;rw[E];rcases N with⟨m,T,W,Y,F,-,k5,-,k7⟩|⟨m,s,W,Y,F⟩
   .obtain⟨k8,k9⟩:=k7 rfl;refine ew F ce ?_;have kC:=W.set (z:=.lp dN tm [P.nat 54,P.nat 55] dD dE .exhausted ab (bx+2-1)) F rfl bv bv;generalize H'.set (bx+2) (.lp dN tm [P.nat 54,P.nat 55] dD dE .exhausted ab (bx+2-1))=HE at kC ⊢;refine av (av (au ?_));have a:=kC.hb;have h_:aV HE ab (.c (.ptr bb 0 0))=aa (vi base):=by simp[aV,aA,a]
    have j8:=aj a;apply ai;simp[u.g8,h_,-ax];refine aq (.inl rfl) ?_;simp;refine aq (.inl rfl) ?_;have i7:=k8.bt;have i6:=k8.tf;have i8:=(v.mem _ (IN (l:=d) (n:=d.length-1) ap)).1;simp[u.g5,aZ (n:=base-j)];have k:=kC.push [.box [.f (fi (base-j))] 0];refine ih m _ ap ⟨_,(bx+1)::bs,HE.length,_,T,base-j,rfl,⟨by simp[u.g1],by simp[u.g2],by simp[u.g3],by simp[u.g5],by simp[u.g6],by simp[u.g7],bv⟩,⟨k.h0,k.h1,k.h2,k.h3,ap,bv,k.cl⟩,k8,ap⟩
   .refine oy F ce ?_;have kC:=W.set (z:=.lp dN tm [P.nat 54,P.nat 55] dD dE .exhausted (aa (.exit 0)) (bx+2-1)) F rfl bv bv;refine bJ rfl ?_;exact Gi hp hl v ap kC Y u hQ
  exact range _ (c9 _ bv bv bv bv bv bv bv) bv
 exact⟨q,hq,ha,Z,h⟩
theorem pC(p:aO)(s:cI p=ae)(l:p.bF.length<=1000000)(m:p.head.length<=1000000):∃q,oP p q/\q.bF.length<=p.bF.length/\q.head.length<=p.head.length/\bg tab dN [.a (p.row.map .f)]=Eq (.a (q.row.map .f)):=by
 rcases Nat.eq_zero_or_pos p.bF.length with h|h
 .obtain⟨q,b,d,g,j⟩:=KT p s (ahx.1 h) m;exact⟨q,b,d,g,j.eq⟩
 .obtain⟨q,b,d,g,j⟩:=KN p s h l m;exact⟨q,b,d,g,j.eq⟩
theorem OU(p:aO)(d:cI p=ae)(b:p.bF.length<=1000000)(v:p.head.length<=1000000):∃q,oP p q/\q.bF.length<=p.bF.length/\q.head.length<=p.head.length/\bg tab Vb [.a (p.row.map .f)]=Eq (.t [.a (q.row.map .f),vi 0]):=by
 obtain⟨q,l,m,s,j⟩:=pC p d b v;have g:=uQ p (kj d);rw[d]at g;refine⟨q,l,m,s,bg.eq (bK rfl rfl λQ u=>?_)⟩;simp only[aO.row,agm,agp]at g j ⊢;apply ai;simp;apply au;apply ai;simp[g];refine bE bv ?_;apply ai;simp[j];refine az (u _ _ ?_);simp[aO.row]
theorem Mc{p:aO}(Y:cI p=ae){g:Int}(U:0<=g){i:Nat}(hi:i<=p.head.length)(B:∀j (h:j<p.head.length),j<i->p.head[j]<g)(z:∀j (h:j<p.head.length),i<=j->g<=p.head[j]){m:Int}(W:m=max p.fr g){s:List Int}(l:s.Perm (gd p.fr m p.aT p.bF))(A:s.Pairwise (·<=·))(I:g<=1099511627776)(J F:Tg) :
  cI ⟨J,p.head.drop i,m,p.aT,F,s⟩=ae/\(∀d,0<=d->bA ⟨J,p.head.drop i,m,p.aT,F,s⟩ d=(decide (g<=d)&&bA p d))/\s.length=p.bF.length:=by
 obtain⟨f,n,y,N,o,O,H,Q,S⟩:=bC Y;have u:∀x∈p.bF,0<=x/\x<p.aT:=λx E=>by have:=S x E;omega
 obtain⟨c,e,L⟩:=rq y Q u l A;refine⟨tz (by show 0<=m;omega) (by show m<=_;omega) y N (by show(p.head.drop i).length+s.length<=_;rw[agF,L];omega) (O.sublist (aiT _ _)) (λx E=>?_) c e,λd r=>?_,L⟩
 .have:=H x (ahd E);exact⟨ap,by show x<m;omega⟩
 .have Z:(d-m) % p.aT∈s↔wS p.fr p.aT p.bF d:=by rw[l.mem_iff];exact zh y u d
  have q:d∈p.head.drop i↔g<=d/\d∈p.head:=by
   constructor
   .intro h;obtain⟨j,v,rfl⟩:=agz h;rw[ahX];exact⟨z _ (by simp at v;omega) ap,IN _⟩
   .rintro⟨h,M⟩;obtain⟨j,v,rfl⟩:=agz M;have X:i<=j:=by
     rcases ahj j i with k|k
     .have:=B j v k;omega
     .exact k
    refine agU (i:=j-i) ?_;rw[ahk,show i+(j-i)=j by omega,By v]
  unfold bA;simp only;rw[Bool.eq_iff_iff];simp only[IS,decide_eq_true_eq];by_cases k:m<=d
  .rw[bZ k,bZ ap,decide_eq_true_eq,decide_eq_true_eq,Z];exact⟨λh=>⟨ap,h⟩,λh=>h.2⟩
  .rw[ct k,decide_eq_true_eq,q];by_cases K:p.fr<=d
   .rw[bZ K,decide_eq_true_eq];constructor
    .rintro⟨a,b⟩;have:=H d b;omega
    .rintro⟨a,b⟩;omega
   .rw[ct K,decide_eq_true_eq]
structure LQ(p:aO)(H:an)(b0 bq:Nat)(fr:Int)(c cq:C)(hd ni:List Int)(J:an):Prop where
 hb:b0=H.length
 kp:∀i:Nat,i<b0->J[i]?=H[i]?
 bp:J[b0]?=aa (.box [.f (sl p.hg (ints p.head)),.f (fi p.fr),.f (fi p.aT),.f (sl p.cg (ints p.bF))] 0)
 br:J[b0+1]?=aa (.box [.f .aJ,.f (fi 0),.f (fi 0),.f .aJ] 0)
 bx:J[bq]?=aa (.box [c,.f (fi fr),.f (fi p.aT),cq] 0)
 big:b0+1<bq
 lc:LR J c 1 (ints hd)
 lq:LR J cq 1 (ints ni)
 ne:∀i,bf c=aa i->bf cq≠aa i
 cb:∀i,bf c=aa i->b0+1<i
 qb:∀i,bf cq=aa i->b0+1<i
theorem LQ.app{p:aO}{H:an}{b0 v:Nat}{fr:Int}{c E:C}{hd ni:List Int}{J:an}(h:LQ p H b0 v fr c E hd ni J)(hl:ni.length<=1000000)(n:Int) :
  ∃m j,bT (J++[.box [.f (fi n)] 0]) 1 8 (.c E) (.c (.sl J.length 0 1 1 0 1))=aa (.c m,j)/\cY j (.ptr v 3 0) [m]=aa (j.set v (.box [c,.f (fi fr),.f (fi p.aT),m] 0))/\LQ p H b0 v fr c m hd (ni++[n]) (j.set v (.box [c,.f (fi fr),.f (fi p.aT),m] 0)):=by
 obtain⟨B,b⟩:=aI (J++[.box ([fi n].map .f) 0]:an);have M:=aj h.bx;have hg:=h.big;have up:∀(i:Nat) y,J[i]?=aa y->B[i]?=aa y:=λi y hy=>by rw[b,AI (aj hy)];exact hy
 have x:LR B E 1 (ints ni):=by rw[b];exact h.lq.push _
 have F:B[J.length]?=aa (.box ([fi n].map .f) 0):=by rw[b];simp
 obtain⟨m,j,l,s,q,A⟩:=x.app (Km.Ord.cQ ni) ce (row:=[fi n]) rfl (bytes:=8) (gV (by simp[ints];omega) ce) F;have h2:B.length=J.length+1:=by rw[b];simp
 have u:∀(i:Nat) y,J[i]?=aa y->nr y=ae->j[i]?=aa y:=λi y hy L=>q.2 i y (up _ _ hy) (oz x (up _ _ hy) L);have d:=u _ _ h.bx rfl;have K:ints ni++[[fi n]]=ints (ni++[n]):=by simp[ints]
 rw[K]at s;have z:LR j c 1 (ints hd):=h.lc.bH λi y hy hi=>q.2 i y (up _ _ hy) (h.ne i hi);refine⟨m,j,by rw[b]at l;exact l,by simp[cY,d,over],h.hb,λi hi=>?_,?_,?_,BY (aj d),hg,z.set (z.bR d) _,s.set (s.bR d) _,?_,h.cb,?_⟩
 .rw[sh ap,<-h.kp i hi];have I:i<J.length:=by omega
  have hy:J[i]?=aa J[i]:=By I;rw[hy];exact q.2 i _ (up _ _ hy) (λe=>by have:=h.qb i e;omega)
 .rw[sh ap];exact u _ _ h.bp rfl
 .rw[sh ap];exact u _ _ h.br rfl
 .intro i hi g;rcases A with e|e
  .rw[e]at g;exact h.ne i hi g
  .rw[e]at g;cases g;have:=h.lc.lt hi;omega
 .intro i hi;rcases A with e|e
  .rw[e]at hi;exact h.qb i hi
  .rw[e]at hi;cases hi;omega
theorem xT(p:aO)(hp:cI p=ae)(r5:p.bF.length<=1000000)(hl:p.head.length<=1000000)(q:Int)(j9:0<=q)(j_:q<=1099511627776)(H:an) :
  ∃r H',Ev tab (.fn Xa) [.a (p.row.map .f),vi q] H r H'/\(∃b c l hd l2,r=.a [c,.f (fi b),.f (fi p.aT),l]/\b=max p.fr q/\H.length<=H'.length/\(∀i:Nat,i<H.length->H'[i]?=H[i]?)/\LR H' c 1 (ints hd)/\LR H' l 1 (ints l2)/\(∀i,bf c=aa i->bf l≠aa i)/\(∀i,bf c=aa i->H.length<=i)/\(∀i,bf l=aa i->H.length<=i)/\
   hd.length<=p.head.length/\l2.length=p.bF.length/\∀U M:Tg,cI ⟨U,hd,b,p.aT,M,l2⟩=ae/\∀d,0<=d->bA ⟨U,hd,b,p.aT,M,l2⟩ d=(decide (q<=d)&&bA p d)):=by
 obtain⟨q1,q2,q3,q4,q5,q6,q7,q8,q9⟩:=bC hp;obtain⟨i,hi,n8,l_,i_⟩:=gA p.hg p.head q ap q6;obtain⟨b,S⟩:=aI (max p.fr q);have h_:max p.fr q=b:=S.symm;refine de rfl rfl λQ hQ=>?_;apply ai;simp[aO.row];obtain⟨B,v⟩:=aI (H++[.box [.f (sl p.hg (ints p.head)),.f (fi p.fr),.f (fi p.aT),.f (sl p.cg (ints p.bF))] 0,.box [.f .aJ,.f (fi 0),.f (fi 0),.f .aJ] 0]:an);obtain⟨b0,z⟩:=aI (H.length);rw[<-v,<-z];have a0:B[b0]?=aa (.box [.f (sl p.hg (ints p.head)),.f (fi p.fr),.f (fi p.aT),.f (sl p.cg (ints p.bF))] 0):=by rw[v,z];simp
 have a1:B[b0+1]?=aa (.box [.f .aJ,.f (fi 0),.f (fi 0),.f .aJ] 0):=by rw[v,z,agj ap];simp
 have al:B.length=b0+2:=by rw[v,z];simp
 have ak:∀i:Nat,i<b0->B[i]?=H[i]?:=λi hi=>by rw[v,AI ap]
 have K:∀J:an,J[b0]?=aa (.box [.f (sl p.hg (ints p.head)),.f (fi p.fr),.f (fi p.aT),.f (sl p.cg (ints p.bF))] 0)->aV J ab (.c (.ptr b0 0 0))=aa (.c (.f (sl p.hg (ints p.head))))/\aV J ab (.c (.ptr b0 1 0))=aa (vi p.fr)/\aV J ab (.c (.ptr b0 2 0))=aa (vi p.aT)/\aV J ab (.c (.ptr b0 3 0))=aa (.c (.f (sl p.cg (ints p.bF)))):=λJ h=>by
  refine⟨?_,?_,?_,?_⟩<;>simp[aV,aA,h]
 obtain⟨e0,e1,e2,e3⟩:=K B a0;obtain⟨g1,I⟩:=CN (H:=B) (g:=p.hg) (k:=i) (Km.Ord.cQ p.head) (by simp[ints];omega) (by simp[ints];omega);have k_:(ints p.head).drop i=ints (p.head.drop i):=by simp[ints,ahZ]
 rw[k_]at I;obtain⟨c,Jc,F,c9,f_⟩:=uB (H:=B) (g:=g1) (p.head.drop i) ge;obtain⟨HJ,O⟩:=aI (B++Jc:an);rw[<-O]at F c9;have u:∀k:Nat,k<b0+2->HJ[k]?=B[k]?:=λk s=>by rw[O,AI ap]
 have lJ:b0+2<=HJ.length:=by rw[O,aft];omega
 obtain⟨f0,f1,f2,f3⟩:=K HJ (by rw[u b0 ap];exact a0);apply ai;simp[e0,-ax,i_];refine au (eF (.inl rfl) ?_ ?_)
 case refine_2=>
  intro cc j7;have j6:cc=(6,4)\/cc=(10,4):=by simpa using j7
  rcases j6 with rfl|rfl
  .refine⟨ce,_,rfl,.inr ⟨ce,?_⟩⟩;simp[e0,e1,f1,-ax,I,F,gj,uz]
  .refine⟨ce,_,rfl,.inr ⟨ce,?_⟩⟩;simp[e0,e1,e2,f1,f2,-ax,I,F,h_,gj,uz]
 simp[e0,f1,f2,-ax,I,F,h_];obtain⟨L,g_⟩:=aI (HJ.length);obtain⟨HK,E⟩:=aI (HJ++[bO.box [c,.f (fi b),.f (fi p.aT),.f .aJ] 0]);have b_:LQ p H b0 L b c (.f .aJ) (p.head.drop i) [] HK:=by
  have w:∀k:Nat,k<b0+2->HK[k]?=B[k]?:=λk s=>by rw[E,AI ap,u k s]
  refine⟨z,λk s=>by rw[w k ap,ak k s],by rw[w b0 ap];exact a0,by rw[w (b0+1) ap];exact a1,by rw[E,g_];simp,ap,by rw[E];exact c9.push _,LR.nil _ _,(λi hi h=>by cases h),λk s=>by have:=f_ k s;omega,(λk s=>by cases s)⟩
 rw[<-g_,<-E];have i9:∀H:an,bh H (.f (sl p.cg (ints p.bF)))=aa p.bF.length:=λH=>by simp[ints]
 have m9:=(K HK b_.bp).2.2.2;apply au;apply ai;simp[m9,-ax,i9];refine bS p.bF.length (λi' t J=>t.g 2=.c (.ptr b0 0 0)/\t.g 4=.c (.ptr (b0+1) 0 0)/\t.g 7=.c (.ptr L 0 0)/\t.g 30=.c (.f (sl p.cg (ints p.bF)))/\∃l,LQ p H b0 L b c l (p.head.drop i) (gd p.fr b p.aT (p.bF.take i')) J) ap ce ce bv bv
  ⟨bv,bv,bv,bv,.f .aJ,by simpa[gd]using b_⟩ ?_ ?_
 .rintro j t J hj ⟨g2,g4,g7,N,l,m⟩ ha hb next
  have j8:=q9 _ (IN hj);have i7:=λH:an=>bz (H:=H) (g:=p.cg) (rows:=ints p.bF) (sz:=1) (k:=.i64) (i:=(j:Int)) ap (by simp[ints];omega);have i8:=λH:an=>dZ (H:=H) hj;simp at i7;obtain⟨x,hx⟩:=aI (p.bF[j]);rw[<-hx]at j8 i8;have p9:p.bF.take (j+1)=p.bF.take j++[x]:=by rw[agv,By hj,hx];rfl
  have i6:=EJ (p.fr+x-b) p.aT ap ap;obtain⟨c3,H3,e_,o_,n_⟩:=m.app (by simp[gd];omega) ((p.fr+x-b) % p.aT);have Z:aV J ab (.c (.ptr L 3 0))=aa (.c l):=by simp[aV,aA,m.bx]
  have q_:aV J ab (.c (.ptr L 1 0))=aa (vi b):=by simp[aV,aA,m.bx]
  obtain⟨-,j1,j2,-⟩:=K J m.bp;refine ay ?_;apply ai;simp[ha,N,i7,i8];refine aq (.inl rfl) ?_;simp[g2,g7,Z,q_,j1,j2,-ax,aZ (n:=p.fr+x),aZ (n:=p.fr+x-b),i6,e_,o_,-bw];refine av (next _ _ ?_ (by simp[ha]) (by simp[hb]));refine⟨by simp[g2],by simp[g4],by simp[g7],by simp[N],c3,?_⟩;rw[p9];simpa[gd]using n_
 .rintro t J ⟨g2,g4,g7,N,l,m⟩ - -;rw[agu]at m;obtain⟨r,H2,he,rfl,hK,l2,a_,X,m_⟩:=Sb m.lq (by simp[gd];omega);have up:∀(k:Nat) y,J[k]?=aa y->nr y=ae->H2[k]?=aa y:=λk y Y hn=>hK.2 k y Y (oz m.lq Y hn);have j5:=up _ _ m.bx rfl;have A:=up _ _ m.br rfl;have c_:LR H2 c 1 (ints (p.head.drop i)):=m.lc.bH λk y Y s=>hK.2 k y Y (m.ne k s);have Z:aV J ab (.c (.ptr L 3 0))=aa (.c l):=by simp[aV,aA,m.bx]
  have p_:aV H2 (aa 4) (.c (.ptr L 0 0))=aa (.a [c,.f (fi b),.f (fi p.aT),l]):=by simp[aV,aA,j5,aW]
  have s1:cY H2 (.ptr (b0+1) 0 0) [c,.f (fi b),.f (fi p.aT),l]=aa (H2.set (b0+1) (.box [c,.f (fi b),.f (fi p.aT),l] 0)):=by simp[cY,A,over]
  have n1:(H2.set (b0+1) (.box [c,.f (fi b),.f (fi p.aT),l] 0))[b0+1]?=aa (.box [c,.f (fi b),.f (fi p.aT),l] 0):=BY (aj A);have d9:=c_.set (c_.bR A) (.box [c,.f (fi b),.f (fi p.aT),l] 0);have d_:=a_.set (a_.bR A) (.box [c,.f (fi b),.f (fi p.aT),l] 0);have r6:=aj A;apply ai;simp[g7,Z,-ax,he.eq];apply ai;simp[g4,g7,p_,s1,-ax,-bw];have W:=λU M=>Mc hp j9 hi n8 l_ S X m_ j_ U M;refine az (hQ _ _ (.a [c,.f (fi b),.f (fi p.aT),l]) rfl ?_ ⟨b,c,l,p.head.drop i,l2,rfl,S,ge,λk s=>?_,d9,d_,m.ne,λk s=>by have:=m.cb k s;omega,λk s=>by have:=m.qb k s;omega,bv,(W .nil .nil).2.2,λU M=>⟨(W U M).1,(W U M).2.1⟩⟩)
  .simp[Km.results,cC,bu,g4,n1,aW]
  .rw[sh ap,<-m.kp k ap];have n9:k<J.length:=by have:=aj m.bp;omega
   have Y:J[k]?=aa J[k]:=By n9;rw[Y];exact hK.2 k _ Y (λe=>by have:=m.qb k e;omega)
theorem uH{J:an}{c:C}{l:List Int}(h:LR J c 1 (ints l)){j:Nat}(B:j<l.length):∃b g,bf c=aa b/\bG J 1 ab (.c c) (vi j)=aa (.c (.ptr b j g))/\aV J ab (.c (.ptr b j g))=aa (vi l[j])/\
  ∀x:Int,∃J',cY J (.ptr b j g) [.f (fi x)]=aa J'/\LR J' c 1 (ints (l.set j x))/\J'.length=J.length/\∀i:Nat,i≠b->i<J.length->J'[i]?=J[i]?:=by
 rcases h with⟨A,_⟩|⟨s,b,g,rfl,q⟩
 .cases l with
  |nil=>simp at B| cons a l=>simp[ints]at A
 .have d:j<(ints l).length:=by simp[ints];omega
  have u:=q.at d;have m:(ints l)[j]=[fi l[j]]:=by simp[ints]
  have v:=q.ldc (Km.Ord.cQ l) (By d) (k:=0) (x:=fi l[j]) (by rw[m];rfl);rw[ah8]at u v;refine⟨b,g,rfl,u,v,λx=>?_⟩
  .obtain⟨J',y,z,F,H⟩:=q.str (row:=[fi x]) (Km.Ord.cQ l) d rfl;rw[ah8]at y;have e:(ints l).set j [fi x]=ints (l.set j x):=by simp[ints,List.map_set]
   rw[e]at z;refine⟨J',y,.inr ⟨?_,b,g,by simp[ints],z⟩,H,λi hi E=>F.2 i hi E⟩;intro h;apply s;have:=congrArg List.length h;simp[ints]at this;rw[this];rfl
theorem MJ{p:aO}{l z:List Int}{j g:Int}(M:g<=0)(u s:Tg)(L:cI ⟨u,l,j,p.aT,s,z⟩=ae)(Q:∀d,0<=d->bA ⟨u,l,j,p.aT,s,z⟩ d=(decide (-g<=d)&&bA p d))(O:-g<=j)(m:∀x∈l,-g<=x) :
  cI ⟨u,l.map (· + g),j+g,p.aT,s,z⟩=ae/\∀d,0<=d->bA ⟨u,l.map (· + g),j+g,p.aT,s,z⟩ d=bA p (d-g):=by
 obtain⟨S,U,B,E,F,H,I,J,K⟩:=bC L;simp only at S U B E F H I J K;refine⟨tz (by show 0<=j+g;omega) (by show j+g<=_;omega) B E (by simpa using F) ?_ ?_ J (λx q=>by have:=K x q;exact⟨ap,by show x<p.aT;omega⟩),λd N=>?_⟩
 .show(l.map (· + g)).Pairwise (· < ·);rw[ahW];exact aif (λh=>by omega) H
 .intro x q;have q:x∈l.map (· + g):=q;obtain⟨y,v,rfl⟩:=agt.1 q;have a:=I y v;have b:=m y v;exact⟨ap,by show y+g<j+g;omega⟩
 .have A:=Q (d-g) ap;rw[decide_eq_true (show -g<=d-g by omega),ahh]at A;rw[<-A];unfold bA;simp only;by_cases k:j+g<=d
  .rw[bZ k,bZ ap,show d-(j+g)=d-g-j by omega]
  .rw[ct k,ct ap];apply decide_eq_decide.2;rw[agt];constructor
   .rintro⟨y,v,e⟩;rw[show d-g=y by omega];exact v
   .intro h;exact⟨_,h,ap⟩
theorem Q7{J:an}{c:C}{l:List Int}(h:LR J c 1 (ints l)):∀(i:Nat) (y:bO),J[i]?=aa y->bf c≠aa i->(ef deep c J)[i]?=aa y:=by
 rcases h with⟨_,rfl|rfl⟩|⟨u,b,s,rfl,q⟩
 .intro i y d _;exact d
 .intro i y d _;exact d
 .unfold RB at q;intro i y d hi;have g:b≠i:=λe=>hi (by rw[e];rfl);have e:∃z,ef deep (.sl b 0 (ints l).length 0 s 1) J=J.set b z:=by
   simp only[deep,jL,q];rw[ju]
   .exact⟨_,rfl⟩
   .intro x j;have j:=ahd (ahn j);obtain⟨m,_,rfl⟩:=agt.1 j;exact⟨_,rfl⟩
  obtain⟨z,v⟩:=e;rw[v,sh g];exact d
theorem Be(p:aO)(hp:cI p=ae)(f_:p.bF.length<=1000000)(hl:p.head.length<=1000000)(g:Int)(m_:-1000000<=g)(e_:g<=0) :
  ∃q,cI q=ae/\q.fr<=p.fr/\q.aT ∣ p.aT/\q.bF.length<=p.bF.length/\q.head.length<=p.head.length/\(∀d,0<=d->bA q d=bA p (d-g))/\bg tab OV [.a (p.row.map .f),vi g]=Eq (.t [.a (q.row.map .f),vi 0]):=by
 obtain⟨q1,q2,q3,q4,q5,q6,q7,q8,q9⟩:=bC hp;have hv:=uQ p (kj hp);rw[hp]at hv;obtain⟨rr,⟨q,c1,c2,c3,c4,c5,c6,rfl⟩,h⟩:∃rr,(∃q,cI q=ae/\q.fr<=p.fr/\q.aT ∣ p.aT/\q.bF.length<=p.bF.length/\q.head.length<=p.head.length/\(∀d,0<=d->bA q d=bA p (d-g))/\rr=.t [.a (q.row.map .f),vi 0])/\bg tab OV [.a (p.row.map .f),vi g] rr:=by
  refine dx rfl rfl λQ hQ=>?_;obtain⟨HA,L⟩:=aI ([.box [.f (sl p.hg (ints p.head)),.f (fi p.fr),.f (fi p.aT),.f (sl p.cg (ints p.bF))] 0,.box [.f .aJ,.f (fi 0),.f (fi 0),.f .aJ] 0]:an);obtain⟨r,HL,u,H,c,E,l,l2,rfl,n9,k_,i8,d9,d_,w,n8,p9,n_,o_,s⟩:=xT p hp f_ hl (-g) ap ap HA;have u:=u.eq;simp only[aO.row,agm,agp]at u hv ⊢;have l_:HA.length=2:=by rw[L];rfl
  have N:∀x∈l,-g<=x:=λx hx=>by
   obtain⟨a,b⟩:=s .nil .nil;obtain⟨-,-,-,-,-,-,k7,-,-⟩:=bC a;have h7:=k7 x hx;simp only at h7;have hb:=b x ap;have hm:bA ⟨.nil,l,H,p.aT,.nil,l2⟩ x=ae:=by
    unfold bA;simp only;rw[ct ap];simpa using hx
   rw[hm]at hb;have:=hb.symm;rw[IS,decide_eq_true_eq]at this;exact this.1
  have i_:∀x∈l,x<=2000000000000:=λx hx=>by
   obtain⟨-,-,-,-,-,-,k7,-,-⟩:=bC (s .nil .nil).1;have h7:=k7 x hx;simp only at h7;omega
  apply ai;simp;apply au;apply ai;simp[hv,show¬ g < -1099511627776 by omega,show¬ 1099511627776<g by omega];refine bE bv ?_;rw[<-L];have a0:HA[0]?=aa (.box [.f (sl p.hg (ints p.head)),.f (fi p.fr),.f (fi p.aT),.f (sl p.cg (ints p.bF))] 0):=by rw[L];rfl
  have a1:HA[1]?=aa (.box [.f .aJ,.f (fi 0),.f (fi 0),.f .aJ] 0):=by rw[L];rfl
  have i9:max (-g) 0 = -g:=by omega
  have a_:SF .neg (vi g)=aa (vi (-g)):=by
   show aa (vi (IntKind.i64.wrap (0-g)))=_;rw[Int.zero_sub,aZ]
  apply ai;simp[a0,aW,a_,i9,u];obtain⟨m,k⟩:=aI (HL.length);rw[<-k];obtain⟨K,U⟩:∃K:Int->List Int->an->Prop,K=λf h J=>J[1]?=aa (.box [.f .aJ,.f (fi 0),.f (fi 0),.f .aJ] 0)/\J[m]?=aa (.box [c,.f (fi f),.f (fi p.aT),E] 0)/\LR J c 1 (ints h)/\LR J E 1 (ints l2):=⟨_,rfl⟩
  have k0:K H l (HL++[.box [c,.f (fi H),.f (fi p.aT),E] 0]):=by
   rw[U];exact⟨by rw[AI ap,i8 1 ap];exact a1,by rw[k];simp,d9.push _,d_.push _⟩
  generalize HL++[bO.box [c,.f (fi H),.f (fi p.aT),E] 0]=H1 at k0 ⊢;have o:∀f h J,K f h J->∀Y,cY J (.ptr m 1 0) [.f (fi Y)]=aa (J.set m (.box [c,.f (fi Y),.f (fi p.aT),E] 0))/\K Y h (J.set m (.box [c,.f (fi Y),.f (fi p.aT),E] 0)):=by
   intro f h J z Y;rw[U]at z ⊢;obtain⟨m1,m2,v,F⟩:=z;refine⟨by simp[cY,m2,over],by rw[sh ap];exact m1,BY (aj m2),v.set (v.bR m2) _,F.set (F.bR m2) _⟩
  have M:∀f h J,K f h J->aV J ab (.c (.ptr m 0 0))=aa (.c c)/\aV J ab (.c (.ptr m 1 0))=aa (vi f)/\aV J (aa 4) (.c (.ptr m 0 0))=aa (.a [c,.f (fi f),.f (fi p.aT),E])/\bh J c=aa h.length:=by
   intro f h J z;rw[U]at z;obtain⟨m1,m2,v,F⟩:=z;refine⟨?_,?_,?_,?_⟩
   .simp[aV,aA,m2]
   .simp[aV,aA,m2]
   .simp[aV,aA,m2,aW]
   .have:=v.len;simpa[ints]using this
  obtain⟨-,e1,-,-⟩:=M _ _ _ k0;obtain⟨s1,k1⟩:=o _ _ _ k0 (H+g);apply ai;simp[e1,-ax,aZ (n:=H+g),s1,-bw];generalize H1.set m (.box [c,.f (fi (H+g)),.f (fi p.aT),E] 0)=H2 at k1 ⊢;obtain⟨f0,-,-,fl⟩:=M _ _ _ k1;apply au;apply ai;simp[f0,-ax,fl];refine bS l.length (λj t J=>t.g 1=vi g/\t.g 4=.c (.ptr 1 0 0)/\t.g 6=.c (.ptr m 0 0)/\K (H+g) ((l.take j).map (· + g)++l.drop j) J) ap ce ce bv bv ⟨bv,bv,bv,by simpa using k1⟩ ?_ ?_
  .rintro j t J hj ⟨g1,g4,S,z⟩ ha hb next
   have i7:j<((l.take j).map (· + g)++l.drop j).length:=by simp;omega
   have c9:((l.take j).map (· + g)).length=j:=by simp;omega
   have i6:((l.take j).map (· + g)++l.drop j)[j]=l[j]:=by
    rw[List.getElem_append_right ap];simp only[c9,ah9,ahX,Nat.add_zero]
   have p_:=N _ (IN hj);have q_:=i_ _ (IN hj);obtain⟨j5,-,-,-⟩:=M _ _ _ z;have B:=z;rw[U]at B;obtain⟨m1,m2,v,F⟩:=B;obtain⟨b,ep,ub,ix,c_,j_⟩:=uH v i7;rw[i6]at c_;obtain⟨J',us,uL,ul,uk⟩:=j_ (l[j]+g);have b_:((l.take j).map (· + g)++l.drop j).set j (l[j]+g)=(l.take (j+1)).map (· + g)++l.drop (j+1):=by
    rw[List.set_append_right _ _ ap,c9,ah9,agv,By hj,ags hj];simp only[List.set_cons_zero,Option.toList_some,ahl,agm,agp,agM,List.cons_append,List.nil_append]
   rw[b_]at uL;refine ay ?_;apply ai;simp[ha];refine aq (.inl rfl) ?_;simp[g1,S,j5,ix,c_,-ax,aZ (n:=l[j]+g),us,-bw];refine av (next _ _ ?_ (by simp[ha]) (by simp[hb]));refine⟨by simp[g1],by simp[g4],by simp[S],?_⟩;rw[U];refine⟨?_,?_,uL,F.bH λi y O hi=>?_⟩
   .rw[uk 1 (λe=>by have:=v.bR m1;exact this (e▸ub)) (aj m1)];exact m1
   .rw[uk m (λe=>by have:=v.bR m2;exact this (e▸ub)) (aj m2)];exact m2
   .rw[uk i (λe=>w b ub (e▸hi)) (aj O)];exact O
  .rintro t J ⟨g1,g4,S,z⟩ - -;rw[agu,ahK,agN]at z;obtain⟨-,-,j6,-⟩:=M _ _ _ z;have B:=z;rw[U]at B;obtain⟨m1,m2,v,F⟩:=B;obtain⟨g3,g_⟩:=v.ZZ (Km.Ord.cQ _);obtain⟨I,h_⟩:=F.ZZ (Km.Ord.cQ _);have x3:=g_ J 63 (λi y O _=>O);have x4:=h_ J 63 (λi y O _=>O);obtain⟨j8,j9⟩:=MJ (p:=p) e_ g3 I (s g3 I).1 (s g3 I).2 ap N;obtain⟨q,⟨d1,d2,d3,d4⟩,d5,d6,A⟩:=pC ⟨g3,l.map (· + g),H+g,p.aT,I,l2⟩ j8 (by show l2.length<=_;omega) (by show(l.map (· + g)).length<=_;simp;omega);simp only[aO.row,agm,agp]at A d2 d3 d5 d6;simp only[agq]at d6;have u3:∀(i:Nat) (y:bO),J[i]?=aa y->bf c≠aa i->(ef deep c J)[i]?=aa y:=Q7 v;apply au;apply ai;simp only[deep]at u3 A;have j7:LR (ef 64 c J) E 1 (ints l2):=F.bH λi y O hi=>u3 i y O (λe=>w i e hi);have u4:=Q7 j7;simp only[deep]at u4;have w1:=u4 1 _ (u3 1 _ m1 (v.bR m1)) (F.bR m1);have w2:=u4 m _ (u3 m _ m2 (v.bR m2)) (F.bR m2);obtain⟨W,Z⟩:=aI (ef 64 E (ef 64 c J));rw[<-Z]at w1 w2;obtain⟨QC,m9⟩:=aI ([.f (sl q.hg (ints q.head)),.f (fi q.fr),.f (fi q.aT),.f (sl q.cg (ints q.bF))]:List C);have t1:cY W (.ptr m 0 0) [.f (sl q.hg (ints q.head)),.f (fi q.fr),.f (fi q.aT),.f (sl q.cg (ints q.bF))]=aa (W.set m (.box [.f (sl q.hg (ints q.head)),.f (fi q.fr),.f (fi q.aT),.f (sl q.cg (ints q.bF))] 0)):=by simp[cY,w2,over]
   have t2:(W.set m (.box [.f (sl q.hg (ints q.head)),.f (fi q.fr),.f (fi q.aT),.f (sl q.cg (ints q.bF))] 0))[m]?=aa (.box [.f (sl q.hg (ints q.head)),.f (fi q.fr),.f (fi q.aT),.f (sl q.cg (ints q.bF))] 0):=BY (aj w2);have t3:(W.set m (.box [.f (sl q.hg (ints q.head)),.f (fi q.fr),.f (fi q.aT),.f (sl q.cg (ints q.bF))] 0))[1]?=aa (.box [.f .aJ,.f (fi 0),.f (fi 0),.f .aJ] 0):=by rw[sh ap];exact w1
   simp[S,j6,-ax,x3,x4,deep,A,<-Z,t1,-bw];generalize W.set m (.box [.f (sl q.hg (ints q.head)),.f (fi q.fr),.f (fi q.aT),.f (sl q.cg (ints q.bF))] 0)=X at t2 t3 ⊢;have l1:aV X ab (.c (.ptr m 1 0))=aa (vi q.fr):=by simp[aV,aA,t2]
   have l4:aV X (aa 4) (.c (.ptr m 0 0))=aa (.a [.f (sl q.hg (ints q.head)),.f (fi q.fr),.f (fi q.aT),.f (sl q.cg (ints q.bF))]):=by simp[aV,aA,t2,aW]
   have s4:cY X (.ptr 1 0 0) [.f (sl q.hg (ints q.head)),.f (fi q.fr),.f (fi q.aT),.f (sl q.cg (ints q.bF))]=aa (X.set 1 (.box [.f (sl q.hg (ints q.head)),.f (fi q.fr),.f (fi q.aT),.f (sl q.cg (ints q.bF))] 0)):=by simp[cY,t3,over]
   have n1:(X.set 1 (.box [.f (sl q.hg (ints q.head)),.f (fi q.fr),.f (fi q.aT),.f (sl q.cg (ints q.bF))] 0))[1]?=aa (.box [.f (sl q.hg (ints q.head)),.f (fi q.fr),.f (fi q.aT),.f (sl q.cg (ints q.bF))] 0):=BY (aj t3);apply ai;simp[S,l1,-ax,show¬ 1099511627776<q.fr by omega];refine bE bv ?_;apply ai;simp[g4,S,l4,s4,-ax,-bw];refine az (hQ _ _ _ ⟨q,d1,ap,d3,ap,ap,λd l=>?_,rfl⟩ ?_)
   .rw[d4 d l];exact j9 d l
   .simp[g4,n1,aO.row]
 exact⟨q,c1,c2,c3,c4,c5,c6,h.eq⟩
theorem Cz{a b:Int}(a0:1<=a)(a1:a<=1000000)(b0:1<=b)(b1:b<=1000000):bg tab abP [vi a,vi b]=Eq (.t [vi (a / (ag6 a b:Int)*b),vi 0]):=by
 obtain⟨g,l⟩:=aI ((ag6 a b:Int):Int);have j:ag6 a b=ahC a.toNat b.toNat:=by
  show ahC a.natAbs b.natAbs=_;rw[show a.natAbs=a.toNat by omega,show b.natAbs=b.toNat by omega]
 have m:0<g:=by have:=ahv b (show a≠0 by omega);omega
 have d:bg tab Ae [vi a,vi b]=Eq (vi g):=by
  have h:=xM (a:=a.toNat) (b:=b.toNat) ap ap;rw[show((a.toNat:Nat):Int)=a by omega,show((b.toNat:Nat):Int)=b by omega,<-j,<-l]at h;exact h
 rw[<-l];have u:cT .quo (vi a) (vi g)=aa (vi (a / g)):=e9 ap m ap;have v:cT .quo (vi 1099511627776) (vi b)=aa (vi (1099511627776 / b)):=e9 ap ap ap;have q:0<=a / g:=aha ap ap;have x:a / g<=a:=ahL _ ap;have y:a / g<=1099511627776 / b:=by
  have:1000000<=1099511627776 / b:=by rw[Int.le_ediv_iff_mul_le ap];omega
  omega
 have z:0<=a / g*b:=ag7 q ap;have A:a / g*b<=1000000*1000000:=ah5 ap b1 ap ap;refine bg.eq (bK rfl rfl λQ s=>?_);apply ai;simp;apply au;apply ai;simp[show¬ a<1 by omega,show¬ b<1 by omega];refine bE bv ?_;apply ai;simp[d,u];apply au;apply ai;simp[v,show¬ 1099511627776 / b<a / g by omega];refine bE bv ?_;apply ai;simp[aZ (n:=a / g*b)];refine az (s _ _ ?_);simp
theorem Bb(p:aO)(u:cI p=ae)(H:p.bF.length<=1000000)(I:p.head.length<=1000000)(n:Int)(s:0<=n)(J:n<=1000000):∃k:Int,0<=k/\k<=p.head.length+n+p.bF.length/\bg tab W9 [.a (p.row.map .f),vi n]=Eq (vi k):=by
 obtain⟨K,L,M,N,O,y,S,j,z⟩:=bC u;by_cases k:n<=p.fr
 .obtain⟨i,q,-,-,b⟩:=gA p.hg p.head n ap y;refine⟨i,ap,ap,bg.eq (bK rfl rfl λQ d=>?_)⟩;apply ai;simp[aO.row];apply au;apply ai;simp[k];refine aw bv ?_;apply ai;simp[b];apply ai;simp;refine az (d _ _ ?_);simp
 .obtain⟨i,q,-,-,b⟩:=gA p.cg p.bF ((n-p.fr) % p.aT) ap j;have l:cT .rem (vi (n-p.fr)) (vi p.aT)=aa (vi ((n-p.fr) % p.aT)):=gQ ap ap;have m:cT .quo (vi (n-p.fr)) (vi p.aT)=aa (vi ((n-p.fr) / p.aT)):=e9 ap ap ap;have g:0<=(n-p.fr) / p.aT:=aha ap ap;have A:(n-p.fr) / p.aT<=n-p.fr:=ahL _ ap;have B:0<=(n-p.fr) / p.aT*(p.bF.length:Int):=ag7 g ap;have F:=fj p.bF 0 p.aT j λx v=>by have:=z x v;omega
  have E:(n-p.fr) / p.aT*(p.bF.length:Int)<=n-p.fr:=ag5 (agy ap g) (Int.ediv_mul_le _ ap);refine⟨p.head.length+(n-p.fr) / p.aT*(p.bF.length:Int)+i,ap,ap,bg.eq (bK rfl rfl λQ d=>?_)⟩;apply ai;simp[aO.row];apply au;apply ai;simp[k];refine bE bv ?_;apply ai;simp[aZ (n:=n-p.fr),l,b];apply ai;simp[aZ (n:=n-p.fr),m,aZ (n:=(n-p.fr) / p.aT*(p.bF.length:Int)),aZ (n:=(p.head.length:Int)+(n-p.fr) / p.aT*(p.bF.length:Int)),aZ (n:=(p.head.length:Int)+(n-p.fr) / p.aT*(p.bF.length:Int)+i)];refine az (d _ _ ?_);simp
theorem xf{b:Type}{f:b->b->Bool}:∀{xs:List b},(∀x∈xs,f x x=ae)->jJ f xs xs=ae
 |[],_=>rfl| x::xs,h=>by simp only[jJ,h x ago,xf λy d=>h y (List.mem_cons_of_mem _ d),Bool.and_self]
def Rf(n:Nat)(x:FC):Prop:=FC.beq n x x=ae
theorem Hi(n:Nat)(k:IntKind)(m:Int):Rf n (.int k m):=by unfold Rf;cases n<;>simp[FC.beq]
theorem ac1{n:Nat}{xs:List FC}{l:Nat}(h:∀x∈xs,Rf n x):Rf (n+1) (.fs xs l):=by unfold Rf;simp[FC.beq,xf h]
theorem ac2{n:Nat}{rows:List (List FC)}(g:Tg)(h:∀r∈rows,∀x∈r,Rf n x):Rf (n+1) (sl g rows):=by
 unfold sl;split
 .unfold Rf;cases g<;>rfl
 .exact ac1 λx b=>by
   obtain⟨r,d,b⟩:=List.mem_flatten.1 b;exact h r d x b
theorem I7(n:Nat)(g:Tg)(l:List Int):Rf (n+1) (sl g (ints l)):=ac2 g λr d x b=>by
 obtain⟨k,-,rfl⟩:=agt.1 d;simp at b;subst b;exact Hi _ _ _
theorem ZC{n:Nat}(p:aO):∀x∈p.row,Rf (n+1) x:=by
 intro x b;simp[aO.row]at b;rcases b with rfl|rfl|rfl|rfl
 .exact I7 _ _ _
 .exact Hi _ _ _
 .exact Hi _ _ _
 .exact I7 _ _ _
theorem Th:∀{xs:List FC},(∀x∈xs,Rf 64 x)->V.beq (.a (xs.map .f)) (.a (xs.map .f))=ae:=by
 intro xs h;simp only[V.beq,IS,beq_self_eq_true,true_and,List.all_eq_true];intro q b;obtain⟨i,hi,rfl⟩:=agz b;rw[List.getElem_zip];simp only[aib,C.beq];exact h _ (IN _)
theorem Ip(p:aO):V.beq (.a [.f (sl p.hg (ints p.head)),.f (fi p.fr),.f (fi p.aT),.f (sl p.cg (ints p.bF))]) (.a [.f (sl p.hg (ints p.head)),.f (fi p.fr),.f (fi p.aT),.f (sl p.cg (ints p.bF))])=ae:=Th (xs:=p.row) (ZC (n:=63) p)
def tO(l:List (Int × C)):List (FC × C):=l.map λe=>(fi e.1,e.2)
def Cj(k:Int):List (Int × C)->Option C
 |[]=>ab| e::b=>if k=e.1 then aa e.2 else Cj k b
def oD(k:Int)(c:C):List (Int × C)->List (Int × C)
 |[]=>[(k,c)]| e::b=>if k=e.1 then(k,c)::b else e::oD k c b
theorem Ix(a b:Int):ZY .int (fi a) (fi b)=aa (decide (a=b)):=by
 simp only[ZY,if_true];by_cases h:a=b
 .simp[h]
 .simp[h]
theorem B9(k:Int):∀l,nk .int (fi k) (tO l)=aa (Cj k l)
 |[]=>rfl
 |e::d=>by
  have b:=B9 k d;simp only[tO,agm,nk,Ix,Cj]at b ⊢;by_cases h:k=e.1
  .rw[bZ h,decide_eq_true h]
  .rw[ct h,decide_eq_false h];exact b
theorem He(k:Int)(c:C):∀l,pR .int (fi k) c (tO l)=aa (tO (oD k c l))
 |[]=>rfl
 |e::d=>by
  have b:=He k c d;simp only[tO,agm,pR,Ix,oD]at b ⊢;by_cases h:k=e.1
  .rw[bZ h,decide_eq_true h];rfl
  .rw[ct h,decide_eq_false h];simp only[b];rfl
theorem Q5(k k':Int)(c:C):∀l,Cj k' (oD k c l)=if k'=k then aa c else Cj k' l
 |[]=>by simp[oD,Cj]
 |e::d=>by
  have g:=Q5 k k' c d;unfold oD;by_cases h:k=e.1
  .rw[bZ h];by_cases b:k'=k
   .simp[Cj,b]
   .have:¬ k'=e.1:=by omega
    simp[Cj,b,this]
  .rw[ct h];unfold Cj;rw[g];by_cases b:k'=e.1
   .have:¬ k'=k:=by omega
    simp[b,this];intro e;omega
   .simp[b]
def pD(l:List (Int × C))(k:Int):C:=(Cj k l).getD (.f .aJ)
theorem BZ(l:List (Int × C))(k k':Int)(c:C):pD (oD k c l) k'=if k'=k then c else pD l k':=by
 unfold pD;rw[Q5];by_cases h:k'=k<;>simp[h]
structure nE(J:an)(N:Nat)(l:List (Int × C))(F:Int->List Int):Prop where
 lr:∀k,LR J (pD l k) 1 (ints (F k))
 lo:∀k i,bf (pD l k)=aa i->N<=i
 ne:∀k k' i,k≠k'->bf (pD l k)=aa i->bf (pD l k')≠aa i
theorem nE.bH{J J':an}{N:Nat}{l:List (Int × C)}{F:Int->List Int}(h:nE J N l F)(b:∀i y,N<=i->J[i]?=aa y->J'[i]?=aa y):nE J' N l F:=
 ⟨λk=>(h.lr k).bH λi y hy hi=>b i y (h.lo k i hi) hy,h.lo,h.ne⟩
theorem Vu{J:an}{c:C}{l:List Int}(h:LR J c 1 (ints l)):mV c=.c c/\oR (.c c)=aa c:=by
 rcases h with⟨_,rfl|rfl⟩|⟨_,b,d,rfl,_⟩<;>exact⟨rfl,rfl⟩
theorem nE.look{J:an}{N:Nat}{l:List (Int × C)}{F:Int->List Int}(h:nE J N l F){J':an}{m:Nat}(b:J'[m]?=aa (.map (tO l)))(k:Int):gC J' .int .aJ (.c (.mp m)) (vi k)=aa (.c (pD l k)):=by
 have h2:=(Vu (h.lr k)).1;unfold gC;simp only[b,isKey,if_true,B9,ag1,SB,pL,pD];unfold pD at h2;cases hc:Cj k l with
 |none=>rfl| some c=>rw[hc]at h2;simpa using h2
theorem nE.nil(J:an)(N:Nat):nE J N [] (λ_=>[]):=⟨λ_=>LR.nil _ _,λ_ _ h=>by simp[pD,Cj,bf]at h,λ_ _ _ _ h=>by simp[pD,Cj,bf]at h⟩
theorem qG{J:an}{c:C}{l:List Int}(h:LR J c 1 (ints l))(F:l.length<=1000000000)(n:Int) :
  ∃j g,bT (J++[.box [.f (fi n)] 0]) 1 8 (.c c) (.c (.sl J.length 0 1 1 0 1))=aa (.c j,g)/\LR g j 1 (ints (l++[n]))/\J.length<g.length/\(∀(i:Nat) y,J[i]?=aa y->bf c≠aa i->g[i]?=aa y)/\(bf j=bf c\/bf j=aa (J.length+1)):=by
 obtain⟨u,b⟩:=aI (J++[.box ([fi n].map .f) 0]:an);have E:∀(i:Nat) y,J[i]?=aa y->u[i]?=aa y:=λi y v=>by rw[b,AI (aj v)];exact v
 have x:LR u c 1 (ints l):=by rw[b];exact h.push _
 have z:u[J.length]?=aa (.box ([fi n].map .f) 0):=by rw[b];simp
 have B:u.length=J.length+1:=by rw[b];simp
 obtain⟨j,g,d,q,m,s⟩:=x.app (Km.Ord.cQ l) ce (row:=[fi n]) rfl (bytes:=8) (by simp[cD,ints];omega) z;have A:ints l++[[fi n]]=ints (l++[n]):=by simp[ints]
 rw[A]at q;refine⟨j,g,by rw[b]at d;exact d,q,by have:=m.1;omega,λi y v hi=>m.2 i y (E i y v) hi,?_⟩;rw[B]at s;exact s
theorem nE.app{J:an}{N m:Nat}{l:List (Int × C)}{F:Int->List Int}(h:nE J N l F)(W:J[m]?=aa (.map (tO l)))(O:m<N)(X:N<=J.length)(k:Int)(hl:(F k).length<=1000000000)(n:Int) :
  ∃g j,bT (J++[.box [.f (fi n)] 0]) 1 8 (.c (pD l k)) (.c (.sl J.length 0 1 1 0 1))=aa (.c g,j)/\oR (.c g)=aa g/\j[m]?=aa (.map (tO l))/\(∀i:Nat,i<N->j[i]?=J[i]?)/\
   nE (j.set m (.map (tO (oD k g l)))) N (oD k g l) (λk'=>if k'=k then F k++[n]else F k')/\N<=(j.set m (.map (tO (oD k g l)))).length:=by
 obtain⟨g,j,v,u,S,A,z⟩:=qG (h.lr k) hl n;have U:∀i:Nat,i<N->j[i]?=J[i]?:=λi hi=>by
  have L:i<J.length:=by omega
  have hy:J[i]?=aa J[i]:=By L;rw[hy];exact A i _ hy λe=>by have:=h.lo k i e;omega
 have d:∀i,bf g=aa i->N<=i:=λi hi=>by
  rcases z with e|e
  .rw[e]at hi;exact h.lo k i hi
  .rw[e]at hi;cases hi;omega
 have M:j[m]?=aa (.map (tO l)):=by rw[U m O];exact W
 refine⟨g,j,v,(Vu u).2,M,U,⟨λk'=>?_,λk' i hi=>?_,λQ I i B hi=>?_⟩,by rw[agx];omega⟩
 .rw[BZ];by_cases e:k'=k
  .rw[bZ e,bZ e];exact u.set (λx=>by have:=d m x;omega) _
  .rw[ct e,ct e];refine LR.set ((h.lr k').bH λi y hy hi=>A i y hy (h.ne k' k i e hi)) (λx=>by have:=h.lo k' m x;omega) _
 .rw[BZ]at hi;by_cases e:k'=k
  .rw[bZ e]at hi;exact d i hi
  .rw[ct e]at hi;exact h.lo k' i hi
 .rw[BZ]at hi ⊢;have b:∀E,E≠k->∀i,bf (pD l E)=aa i->bf g≠aa i:=λE K i hi e=>by
   rcases z with q|q
   .rw[q]at e;exact h.ne E k i K hi e
   .rw[q]at e;cases e;have:=(h.lr E).lt hi;omega
  by_cases H:Q=k
  .have s:¬ I=k:=λe=>B (H.trans e.symm);rw[bZ H]at hi;rw[ct s];exact λq=>b I s i q hi
  .rw[ct H]at hi;by_cases s:I=k
   .rw[bZ s];exact b Q H i hi
   .rw[ct s];exact h.ne Q I i B hi
theorem CZ(t:T)(H:an):cm t H .oS=aa (.c (.mp H.length),H++[.map []]):=rfl
theorem iv(t:T)(H:an)(b:CK)(z:FC)(m k:Arg):cm t H (.lookup b z m k)=(gC H b z (m.ev t) (k.ev t)).map (·,H):=rfl
def oB(H:an)(g:CK):V->V->V->Option (V × an)
 | .c (.mp b),.c (.f k),v=>match oR v,H[b]? with
  |some v,aa (.map d)=>if isKey g k then(pR g k v d).map λd=>(.top,H.set b (.map d))else ab
  |_,_=>ab
 |_,_,_=>ab
theorem qT(t:T)(H:an)(b:CK)(m k v:Arg):cm t H (.pO b m k v)=oB H b (m.ev t) (k.ev t) (v.ev t):=by
 simp only[cm];unfold oB;split<;>split<;>simp_all
 all_goals (split<;>simp_all)
def cL(b d:aO)(st:Int)(j l:C)(g:Int)(m:Nat):List C:=[.f (sl b.hg (ints b.head)),.f (fi b.fr),.f (fi b.aT),.f (sl b.cg (ints b.bF)),.f (sl d.hg (ints d.head)),.f (fi d.fr),.f (fi d.aT),.f (sl d.cg (ints d.bF)),.f (fi st),j,l,.f (fi g),.mp m]
def Fc:List C:=[.f .aJ,.f (fi 0),.f (fi 0),.f .aJ,.f .aJ,.f (fi 0),.f (fi 0),.f .aJ,.f (fi 0),.f .aJ,.f .aJ,.f (fi 0),.f .zy]
def ie(g:Int)(Y:List Int)(k:Int):List Int:=Y.filter λy=>decide (y % g=k)
structure PH(J:an)(N:Nat)(X Y:List Int)(g:Int)(l:List (Int × C))(cx cy:C)(m:Nat):Prop where
 lx:LR J cx 1 (ints X)
 ly:LR J cy 1 (ints Y)
 mp:J[m]?=aa (.map (tO l))
 ok:nE J N l (ie g Y)
theorem PH.bH{J J':an}{N:Nat}{X Y:List Int}{g:Int}{l:List (Int × C)}{d j:C}{m:Nat}(h:PH J N X Y g l d j m)(q:∀i:Nat,i<J.length->J'[i]?=J[i]?):PH J' N X Y g l d j m:=by
 have b:∀(i:Nat) y,J[i]?=aa y->J'[i]?=aa y:=λi y hy=>by rw[q i (aj hy)];exact hy
 exact⟨h.lx.bH λi y hy _=>b i y hy,h.ly.bH λi y hy _=>b i y hy,b _ _ h.mp,h.ok.bH λi y _ hy=>b i y hy⟩
def wY(q:aO)(st:Int)(X:List Int):Prop:=X.length=q.bF.length/\X.Pairwise (· < ·)/\(∀x∈X,0<=x/\x<q.aT)/\∀d,st<=d->(bA q d=ae↔(d-st) % q.aT∈X)
theorem vM{q:aO}{st g:Int}{b j:List Int}(z:q.fr<=st)(F:0<=st)(v:g=max q.fr st)(y:j.length=q.bF.length)(h:∀m l:Tg,cI ⟨m,b,g,q.aT,l,j⟩=ae/\∀d,0<=d->bA ⟨m,b,g,q.aT,l,j⟩ d=(decide (st<=d)&&bA q d)):wY q st j:=by
 obtain⟨s,u⟩:=h .nil .nil;obtain⟨H,I,J,K,L,M,N,B,E⟩:=bC s;have e:g=st:=by omega
 subst e;refine⟨y,B,λx A=>by have:=E x A;exact⟨ap,this.2⟩,λd b=>?_⟩;have:=u d ap;rw[decide_eq_true b,ahh]at this;rw[<-this];unfold bA;simp only;rw[bZ b,decide_eq_true_eq]
structure NQ(H:an)(qa qb:aO)(st:Int)(X Y:List Int)(g:Int)(N bp m j:Nat)(cx cy:C)(l:List (Int × C))(J:an):Prop where
 kp:∀i:Nat,i<H.length->J[i]?=H[i]?
 br:J[H.length+2]?=aa (.box Fc 0)
 bp:J[bp]?=aa (.box (cL qa qb st cx cy g m) 0)
 lx:LR J cx 1 (ints X)
 ly:LR J cy 1 (ints Y)
 mp:J[m]?=aa (.map (tO l))
 ok:nE J N l (ie g (Y.take j))
 len:N<=J.length
theorem A1{a b c:Int}:Cm ag [vi a,vi b,vi c]=aa (vi (max (max a b) c)):=by
 have d:(if a<b then b else a)=max a b:=by split<;>omega
 have g:(if max a b<c then c else max a b)=max (max a b) c:=by split<;>omega
 simp only[Cm,vH,A0];simp[d,g,V.int]
structure LdP(J:an)(bp:Nat)(qa qb:aO)(st:Int)(cx cy:C)(g:Int)(m:Nat):Prop where
 la:aV J (aa 4) (.c (.ptr bp 0 0))=aa (.a [.f (sl qa.hg (ints qa.head)),.f (fi qa.fr),.f (fi qa.aT),.f (sl qa.cg (ints qa.bF))])
 lb:aV J (aa 4) (.c (.ptr bp 4 0))=aa (.a [.f (sl qb.hg (ints qb.head)),.f (fi qb.fr),.f (fi qb.aT),.f (sl qb.cg (ints qb.bF))])
 laf:aV J ab (.c (.ptr bp 1 0))=aa (vi qa.fr)
 lap:aV J ab (.c (.ptr bp 2 0))=aa (vi qa.aT)
 lbf:aV J ab (.c (.ptr bp 5 0))=aa (vi qb.fr)
 lbp:aV J ab (.c (.ptr bp 6 0))=aa (vi qb.aT)
 ni:aV J ab (.c (.ptr bp 8 0))=aa (vi st)
 lx:aV J ab (.c (.ptr bp 9 0))=aa (.c cx)
 ly:aV J ab (.c (.ptr bp 10 0))=aa (.c cy)
 lg:aV J ab (.c (.ptr bp 11 0))=aa (vi g)
 lm:aV J ab (.c (.ptr bp 12 0))=aa (.c (.mp m))
 GN:aV J (aa 13) (.c (.ptr bp 0 0))=aa (.a (cL qa qb st cx cy g m))
 s8:∀z:Int,cY J (.ptr bp 8 0) [.f (fi z)]=aa (J.set bp (.box (cL qa qb z cx cy g m) 0))
 s9:∀z:C,cY J (.ptr bp 9 0) [z]=aa (J.set bp (.box (cL qa qb st z cy g m) 0))
 s10:∀z:C,cY J (.ptr bp 10 0) [z]=aa (J.set bp (.box (cL qa qb st cx z g m) 0))
 s11:∀z:Int,cY J (.ptr bp 11 0) [.f (fi z)]=aa (J.set bp (.box (cL qa qb st cx cy z m) 0))
theorem qF{J:an}{bp:Nat}{j l:aO}{st:Int}{b d:C}{g:Int}{m:Nat}(h:J[bp]?=aa (.box (cL j l st b d g m) 0)):LdP J bp j l st b d g m:=by
 unfold cL at h;constructor<;>simp[aV,aA,h,aW,cY,over,cL]
theorem A_{j l:aO}{st:Int}{b d:C}{g:Int}{m:Nat}:(cL j l st b d g m).length=13:=rfl
theorem Gv{w x y z:C}:pH 3 ab (.a [w,x,y,z])=aa (.c z):=rfl
theorem G8(a b:aO)(ha:cI a=ae)(hb:cI b=ae)(ca:a.bF.length<=1000000)(cb:b.bF.length<=1000000)(la:a.head.length<=1000000)(lb:b.head.length<=1000000)(pa:a.aT<=1000000)(pb:b.aT<=1000000)(H:an) :
  ∃r H',Ev tab (.fn OY) [.a (a.row.map .f),.a (b.row.map .f),vi 0] H r H'/\(∃d s st X Y v x l m N,oP a d/\oP b s/\d.bF.length<=a.bF.length/\s.bF.length<=b.bF.length/\d.head.length<=a.head.length/\s.head.length<=b.head.length/\r=.a (cL d s st v x (ag6 d.aT s.aT:Int) m)/\
   st=max d.fr s.fr/\wY d st X/\wY s st Y/\PH H' N X Y (ag6 d.aT s.aT:Int) l v x m/\∀i:Nat,i<H.length->H'[i]?=H[i]?):=by
 obtain⟨d,sa,xa,ya,k_⟩:=pC a ha ca la;obtain⟨s,sb,xb,yb,l_⟩:=pC b hb cb lb;obtain⟨i6,t8,r5,t_⟩:=sa;refine de rfl rfl λQ hQ=>?_;apply ai;simp[aO.row];simp only[aO.row,agm,agp]at k_ l_;obtain⟨HA,A⟩:=aI (H++[.box [.f (sl a.hg (ints a.head)),.f (fi a.fr),.f (fi a.aT),.f (sl a.cg (ints a.bF))] 0,.box [.f (sl b.hg (ints b.head)),.f (fi b.fr),.f (fi b.aT),.f (sl b.cg (ints b.bF))] 0,.box Fc 0]:an);obtain⟨b0,z⟩:=aI (H.length);have a0:HA[b0]?=aa (.box [.f (sl a.hg (ints a.head)),.f (fi a.fr),.f (fi a.aT),.f (sl a.cg (ints a.bF))] 0):=by rw[A,z];simp
 have a1:HA[b0+1]?=aa (.box [.f (sl b.hg (ints b.head)),.f (fi b.fr),.f (fi b.aT),.f (sl b.cg (ints b.bF))] 0):=by rw[A,z,agj ap];simp
 have a2:HA[b0+2]?=aa (.box Fc 0):=by rw[A,z,agj ap];simp
 have al:HA.length=b0+3:=by rw[A,z];simp
 have ak:∀i:Nat,i<b0->HA[i]?=H[i]?:=λi hi=>by rw[A,AI ap]
 unfold Fc at A;rw[<-A,<-z];have l0:aV HA (aa 4) (.c (.ptr b0 0 0))=aa (.a [.f (sl a.hg (ints a.head)),.f (fi a.fr),.f (fi a.aT),.f (sl a.cg (ints a.bF))]):=by simp[aV,aA,a0,aW]
 have l1:aV HA (aa 4) (.c (.ptr (b0+1) 0 0))=aa (.a [.f (sl b.hg (ints b.head)),.f (fi b.fr),.f (fi b.aT),.f (sl b.cg (ints b.bF))]):=by simp[aV,aA,a1,aW]
 apply ai;simp[l0,l1,-ax,k_,l_,CZ,al];obtain⟨m,hm⟩:=aI (b0+3);obtain⟨bp,j_⟩:=aI (m+1);obtain⟨HB,I⟩:=aI (HA++[bO.map [],.box (cL d s 0 (.f .aJ) (.f .aJ) 0 m) 0]);have b1:HB[m]?=aa (.map []):=by rw[I,hm,agj ap,al];simp
 have b2:HB[bp]?=aa (.box (cL d s 0 (.f .aJ) (.f .aJ) 0 m) 0):=by rw[I,j_,hm,agj ap,al];simp
 have bk:∀i:Nat,i<b0+3->HB[i]?=HA[i]?:=λi hi=>by rw[I,AI ap]
 have bl:HB.length=b0+5:=by rw[I];simp[al]
 unfold cL at I;rw[<-hm,<-I,<-j_]
 suffices h_:∀t:T,t.g 2=vi 0->t.g 6=.c (.ptr (b0+2) 0 0)->t.g 7=.c (.ptr bp 0 0)->WP tab OY ab [.code NI] ⟨t,[],HB⟩ Q by exact h_ _ bv bv bv
 intro t g2 g6 E;obtain⟨st,s_⟩:=aI (max d.fr s.fr);obtain⟨q1,q2,q3,q4,q5,q6,q7,q8,q9⟩:=bC i6;obtain⟨w1,w2,w3,w4,w5,w6,w7,w8,w9⟩:=bC sb.ok;have r_:max (max d.fr s.fr) 0=st:=by omega
 have L1:=qF b2;apply ai;simp[g2,E,L1.laf,L1.lbf,L1.s8,A1,r_,-ax,-bw];obtain⟨HC,K⟩:=aI (HB.set bp (.box (cL d s st (.f .aJ) (.f .aJ) 0 m) 0));rw[<-K];have c1:HC[m]?=aa (.map []):=by rw[K,sh ap];exact b1
 have c2:HC[bp]?=aa (.box (cL d s st (.f .aJ) (.f .aJ) 0 m) 0):=by rw[K,BY ap]
 have ck:∀i:Nat,i<b0+3->HC[i]?=HA[i]?:=λi hi=>by rw[K,sh ap,bk i hi]
 have cl:HC.length=b0+5:=by rw[K,agx];exact bl
 have L2:=qF c2;obtain⟨r1,HD,c9,x6,u9,v,y6,X,rfl,m_,dl,dk,-,j7,-,-,v_,-,j5,hX⟩:=xT d i6 ap ap st ap ap HC;have d2:HD[bp]?=aa (.box (cL d s st (.f .aJ) (.f .aJ) 0 m) 0):=by rw[dk bp ap];exact c2
 have L3:=qF d2;obtain⟨r2,HE,m9,x8,u_,x,y7,Y,rfl,n8,el,ek,-,j8,-,-,w_,-,j6,hY⟩:=xT s sb.ok ap ap st ap ap HD;have e2:HE[bp]?=aa (.box (cL d s st (.f .aJ) (.f .aJ) 0 m) 0):=by rw[ek bp ap];exact d2
 have L4:=qF e2;simp only[aO.row,agm,agp]at c9 m9;refine au (eF (.inl rfl) ?_ ?_)
 case refine_2=>
  intro cc U;have d_:cc=(7,4)\/cc=(9,4):=by simpa using U
  rcases d_ with rfl|rfl
  .refine⟨ce,_,rfl,.inr ⟨ce,?_⟩⟩;simp[E,L2.la,L2.ni,L2.lb,L3.lb,-ax,c9.eq,Gv,gj,Ip]
  .refine⟨ce,_,rfl,.inr ⟨ce,?_⟩⟩;simp[E,L2.la,L2.ni,L3.lb,L3.ni,-ax,c9.eq,Gv,gj,uz]
 obtain⟨HF,L⟩:=aI (HE.set bp (.box (cL d s st v (.f .aJ) 0 m) 0));have f2:HF[bp]?=aa (.box (cL d s st v (.f .aJ) 0 m) 0):=by rw[L,BY (aj e2)]
 have L5:=qF f2;obtain⟨HG,M⟩:=aI (HF.set bp (.box (cL d s st v x 0 m) 0));have h2:HG[bp]?=aa (.box (cL d s st v x 0 m) 0):=by rw[M,BY (aj f2)]
 have L6:=qF h2;simp[E,L2.la,L2.ni,L3.lb,L3.ni,-ax,c9.eq,m9.eq,Gv,L4.s9,<-L,L5.s10,<-M,-bw];obtain⟨g,hg⟩:=aI ((ag6 d.aT s.aT:Int):Int);have y_:d.aT<=1000000:=ag5 (agZ (by have:=(bC ha).2.2.1;omega) r5) pa;have z7:s.aT<=1000000:=ag5 (agZ (by have:=(bC hb).2.2.1;omega) sb.aT) pb;have r9:ag6 d.aT s.aT=ahC d.aT.toNat s.aT.toNat:=by
  show ahC d.aT.natAbs s.aT.natAbs=_;rw[show d.aT.natAbs=d.aT.toNat by omega,show s.aT.natAbs=s.aT.toNat by omega]
 have g0:0<g:=by have:=ahv s.aT (show d.aT≠0 by omega);omega
 have n9:bg tab Ae [vi d.aT,vi s.aT]=Eq (vi g):=by
  have h:=xM (a:=d.aT.toNat) (b:=s.aT.toNat) ap ap;rw[show((d.aT.toNat:Nat):Int)=d.aT by omega,show((s.aT.toNat:Nat):Int)=s.aT by omega,<-r9,<-hg]at h;exact h
 apply ai;simp[E,L6.lap,L6.lbp,L6.s11,n9,-ax,-bw];obtain⟨F,O⟩:=aI (HG.set bp (.box (cL d s st v x g m) 0));have i2:F[bp]?=aa (.box (cL d s st v x g m) 0):=by rw[O,BY (aj h2)]
 have L7:=qF i2;rw[<-O];have kE:∀i:Nat,i<b0+5->i≠bp->F[i]?=HC[i]?:=λi hi s7=>by
  rw[O,sh ap,M,sh ap,L,sh ap,ek i ap,dk i ap]
 have p_:∀(i:Nat) y,HE[i]?=aa y->i≠bp->F[i]?=aa y:=λi y B s7=>by
  rw[O,sh ap,M,sh ap,L,sh ap];exact B
 have g_:LR F x 1 (ints Y):=j8.bH λi y B hi=>p_ i y B λe=>j8.bR e2 (e▸hi);have p9:LR F v 1 (ints X):=j7.bH λi y B hi=>p_ i y (by rw[ek i (aj B)];exact B) λe=>j7.bR d2 (e▸hi);have iN:F.length=HE.length:=by rw[O,M,L];simp
 have n0:NQ H d s st X Y g F.length bp m 0 v x [] F:=by
  refine⟨λi hi=>?_,?_,i2,p9,g_,?_,by rw[List.take_zero];exact nE.nil _ _,agn _⟩
  .rw[kE i ap ap,ck i ap,ak i ap]
  .rw[<-z,kE (b0+2) ap ap,ck _ ap];exact a2
  .rw[kE m ap ap];exact c1
 have i7:bp<F.length:=aj i2;have t6:bh F x=aa Y.length:=by have:=g_.len;simpa[ints]using this
 have r6:=vM (st:=st) ap ap m_ j5 hX;have j9:=vM (st:=st) ap ap n8 j6 hY;have x_:Y.length<=1000000:=by omega
 apply au;apply ai;simp[E,L7.ly,-ax,t6];have i9:∀i,bf v=aa i->i<F.length:=λi hi=>p9.lt hi;have i_:∀i,bf x=aa i->i<F.length:=λi hi=>g_.lt hi;generalize x9:F.length=N at n0 i7 i9 i_;refine bS Y.length (λj t J=>t.g 6=.c (.ptr (b0+2) 0 0)/\t.g 7=.c (.ptr bp 0 0)/\t.g 48=.c x/\∃l,NQ H d s st X Y g N bp m j v x l J) ap ce ce bv bv
  ⟨by simp[g6],by simp[E],bv,[],n0⟩ ?_ ?_
 .rintro j t J hj ⟨g6,E,c_,l,u⟩ ha hb next
  obtain⟨yb,z8,z_,t7,q_,-⟩:=uH u.ly hj;have L8:=qF u.bp;obtain⟨y,B⟩:=aI (Y[j]);have yb:=j9.2.2.1 _ (IN hj);rw[<-B]at q_ yb;have a_:cT .rem (vi y) (vi g)=aa (vi (y % g)):=gQ ap g0;obtain⟨c3,H3,S,U,o_,W,Z,n_⟩:=u.ok.app u.mp ap u.len (y % g) (by unfold ie;exact agK (ahb _ _) (by rw[agO];omega)) y;have f_:=λJ' (h:J'[m]?=aa (bO.map (tO l)))=>u.ok.look (J':=J') h (y % g);have e_:=f_ J u.mp;have m4:oB H3 .int (.c (.mp m)) (vi (y % g)) (.c c3)=aa (.top,H3.set m (.map (tO (oD (y % g) c3 l)))):=by
   simp only[oB,U,o_,isKey,if_true,He,ag1]
  have i8:=W bp i7;have L9:=qF (J:=H3) (by rw[i8];exact u.bp);refine ay ?_;apply ai;simp[ha,c_,t7,q_,-ax];refine eF (.inl rfl) ?_ ?_
  case refine_2=>
   intro cc U;have d_:cc=(1,16)\/cc=(4,16):=by simpa using U
   rcases d_ with rfl|rfl
   .refine⟨ce,_,rfl,.inl ⟨ce,?_⟩⟩;simp[E,L8.lm,L8.lg,a_,-ax,iv,e_,S,L9.lm,gj,V.beq,C.beq]
   .refine⟨ce,_,rfl,.inl ⟨ce,?_⟩⟩;simp[E,L8.lm,L8.lg,a_,-ax,iv,e_,S,L9.lg,gj,uz]
  simp[E,L8.lm,L8.lg,a_,-ax,iv,e_,S,qT,m4];have r7:ie g (Y.take (j+1))=λk'=>if k'=y % g then ie g (Y.take j) (y % g)++[y]else ie g (Y.take j) k':=by
   funext k';unfold ie;rw[agv,By hj,<-B,ah3];by_cases e:k'=y % g
   .subst e;simp
   .have:¬ y % g=k':=λq=>e q.symm;simp[e,this]
  rw[<-r7]at Z;have y8:m<N:=by omega
  refine av (next _ _ ?_ (by simp[ha]) (by simp[hb]));refine⟨by simp[g6],by simp[E],by simp[c_],_,⟨λi hi=>?_,?_,?_,?_,?_,?_,Z,n_⟩⟩
  .rw[sh ap,W i ap];exact u.kp i hi
  .rw[sh ap,W _ ap];exact u.br
  .rw[sh ap,i8];exact u.bp
  .exact LR.set (u.lx.bH λi y B hi=>by rw[W i (i9 i hi)];exact B) (oz u.lx u.mp rfl) _
  .exact LR.set (u.ly.bH λi y B hi=>by rw[W i (i_ i hi)];exact B) (oz u.ly u.mp rfl) _
  .exact BY (by have:=aj o_;omega)
 .rintro t J ⟨g6,E,c_,l,u⟩ - -;have L8:=qF u.bp;have Z:=u.ok;rw[agu]at Z;obtain⟨HZ,b_⟩:=aI (J.set (b0+2) (.box (cL d s st v x g m) 0));have s2:cY J (.ptr (b0+2) 0 0) (cL d s st v x g m)=aa HZ:=by
   have:=u.br;rw[<-z]at this;rw[b_];simp[cY,this,over,cL,Fc]
  have z2:HZ[b0+2]?=aa (.box (cL d s st v x g m) 0):=by rw[b_];exact BY (by have:=aj u.br;omega)
  have nm:b0+2≠m:=by omega
  apply ai;simp[g6,E,L8.GN,s2,-ax,-bw,A_];have d9:=u.br;rw[<-z]at d9;refine az (hQ _ _ (.a (cL d s st v x g m)) (by rfl) ?_ ⟨d,s,st,X,Y,v,x,l,m,N,⟨i6,t8,r5,t_⟩,sb,xa,xb,ya,yb,by rw[hg],s_,r6,j9,?_,λi hi=>?_⟩)
  .have:=(qF (bp:=b0+2) z2).GN;simp[Km.results,cC,bu,g6,this,-ax]
  .rw[<-hg,b_];refine⟨u.lx.set (u.lx.bR d9) _,u.ly.set (u.ly.bR d9) _,by rw[sh nm];exact u.mp,Z.bH λi y hi B=>?_⟩;rw[sh ap];exact B
  .show HZ[i]?=_;rw[b_,sh ap];exact u.kp i hi
structure HQ(H:an)(p2:aO)(b2:Nat)(c:C)(L:List Int)(J:an):Prop where
 kp:∀i:Nat,i<H.length->J[i]?=H[i]?
 bx:J[b2]?=aa (.box [.f (sl p2.hg (ints p2.head)),.f (fi p2.fr),.f (fi p2.aT),.f (sl p2.cg (ints p2.bF))] 0)
 lc:LR J c 1 (ints L)
 lo:∀i,bf c=aa i->H.length<=i
 hl:H.length<=J.length
theorem head_mem{p:aO}(g:cI p=ae)(d:Int):d∈p.head↔0<=d/\d<p.fr/\bA p d=ae:=by
 obtain⟨q,s,u,v,x,y,j,z,A⟩:=bC g;constructor
 .intro h;have:=j d h;refine⟨ap,ap,?_⟩;unfold bA;rw[ct ap];exact decide_eq_true h
 .rintro⟨l,m,b⟩;unfold bA at b;rw[ct ap]at b;exact of_decide_eq_true b
theorem QQ(l b:aO)(X:cI l=ae)(hb:cI b=ae)(la:l.head.length<=1000000)(lb:b.head.length<=1000000)(st:Int)(j8:st=max l.fr b.fr)(cx cy:C)(g:Int)(m:Nat)(H:an) :
  ∃r H',Ev tab (.fn Fk) [.a (cL l b st cx cy g m)] H r H'/\∃c L,r=.c c/\LR H' c 1 (ints L)/\(∀i,bf c=aa i->H.length<=i)/\(∀i:Nat,i<H.length->H'[i]?=H[i]?)/\H.length<=H'.length/\L.Pairwise (· < ·)/\L.length<=l.head.length+b.head.length/\∀d,d∈L↔0<=d/\d<st/\bA l d=ae/\bA b d=ae:=by
 refine de rfl rfl λQ hQ=>?_;apply ai;simp[cL];obtain⟨b0,N⟩:=aI (H.length);obtain⟨S,z⟩:=aI (H++[.box (cL l b st cx cy g m) 0]:an);have a0:S[b0]?=aa (.box (cL l b st cx cy g m) 0):=by rw[z,N];simp
 have al:S.length=b0+1:=by rw[z,N];simp
 have ak:∀i:Nat,i<b0->S[i]?=H[i]?:=λi hi=>by rw[z,AI ap]
 unfold cL at z;rw[<-z,<-N];have L1:=qF a0;obtain⟨za,j9⟩:=aI ([.f (sl l.hg (ints l.head)),.f (fi l.fr),.f (fi l.aT),.f (sl l.cg (ints l.bF))]:List C);obtain⟨zb,j_⟩:=aI ([.f (sl b.hg (ints b.head)),.f (fi b.fr),.f (fi b.aT),.f (sl b.cg (ints b.bF))]:List C);have L2:∀J:an,aV (S++J) (aa 4) (.c (.ptr b0 4 0))=aa (.a [.f (sl b.hg (ints b.head)),.f (fi b.fr),.f (fi b.aT),.f (sl b.cg (ints b.bF))]):=λJ=>(qF (bp:=b0) (by rw[AI ap];exact a0)).lb;refine au (eF (.inl rfl) ?_ ?_)
 case refine_2=>
  intro cc h_;have g_:cc=(3,7):=by simpa using h_
  subst g_;refine⟨ce,_,rfl,.inl ⟨ce,?_⟩⟩;simp[L1.la,L1.lb,L2,-ax,gj,Ip]
 simp[L1.la,L1.lb,-ax];obtain⟨y,v⟩:=aI (S++[bO.box [.f (sl l.hg (ints l.head)),.f (fi l.fr),.f (fi l.aT),.f (sl l.cg (ints l.bF))] 0,.box [.f (sl b.hg (ints b.head)),.f (fi b.fr),.f (fi b.aT),.f (sl b.cg (ints b.bF))] 0]);obtain⟨b1,I⟩:=aI (S.length);have c0:y[b0]?=aa (.box (cL l b st cx cy g m) 0):=by rw[v,AI ap];exact a0
 have c1:y[b1]?=aa (.box [.f (sl l.hg (ints l.head)),.f (fi l.fr),.f (fi l.aT),.f (sl l.cg (ints l.bF))] 0):=by rw[v,I];simp
 have c2:y[b1+1]?=aa (.box [.f (sl b.hg (ints b.head)),.f (fi b.fr),.f (fi b.aT),.f (sl b.cg (ints b.bF))] 0):=by rw[v,I,agj ap];simp
 have ck:∀i:Nat,i<b0->y[i]?=H[i]?:=λi hi=>by rw[v,AI ap];exact ak i hi
 have cl:y.length=b0+3:=by rw[v];simp[al]
 have j5:b1=b0+1:=by rw[I,al]
 rw[<-v,<-I]
 suffices O:∀t:T,t.g 1=.c (.ptr b0 0 0)->t.g 3=.c (.ptr b1 0 0)->t.g 4=.c (.ptr (b1+1) 0 0)->WP tab Fk ab [.code NJ] ⟨t,[],y⟩ Q by exact O _ bv bv bv
 intro t g1 W B;have Y:∀(q s:aO) (t:T) (J:an),cI q=ae->cI s=ae->q.fr=st->q.head.length<=1000000->q.head.length<=l.head.length+b.head.length->(∀d,(bA q d=ae/\bA s d=ae)↔(bA l d=ae/\bA b d=ae))->t.g 3=.c (.ptr b1 0 0)->t.g 4=.c (.ptr (b1+1) 0 0)->
   J[b1]?=aa (.box [.f (sl q.hg (ints q.head)),.f (fi q.fr),.f (fi q.aT),.f (sl q.cg (ints q.bF))] 0)->J[b1+1]?=aa (.box [.f (sl s.hg (ints s.head)),.f (fi s.fr),.f (fi s.aT),.f (sl s.cg (ints s.bF))] 0)->(∀i:Nat,i<b0->J[i]?=H[i]?)->
   WP tab Fk ab [.code NK] ⟨t,[],J⟩ Q:=by
  intro q s t J h1 h2 i6 j7 i7 c9 W B j1 j2 jk;obtain⟨q1,q2,q3,q4,q5,q6,q7,q8,q9⟩:=bC h1;have K:aV J ab (.c (.ptr b1 0 0))=aa (.c (.f (sl q.hg (ints q.head)))):=by simp[aV,aA,j1]
  have d_:bh J (.f (sl q.hg (ints q.head)))=aa q.head.length:=by simp[ints]
  apply ai;simp;apply au;apply ai;simp[W,K,-ax,d_];have jl:=aj j2;refine bS q.head.length (λj t J=>t.g 4=.c (.ptr (b1+1) 0 0)/\t.g 20=.c (.f (sl q.hg (ints q.head)))/\∃c,t.g 5=.c c/\HQ H s (b1+1) c ((q.head.take j).filter λd=>bA s d) J) ap ce ce bv bv
   ⟨by simp[B],bv,.f .aJ,bv,λi hi=>jk i ap,j2,by simpa[ints]using LR.nil _ _,(λ_ h=>by cases h),ap⟩ ?_ ?_
  .rintro j t J hj ⟨B,E,c,g5,u⟩ X hb next
   have i9:=q7 _ (IN hj);have d9:=λH:an=>bz (H:=H) (g:=q.hg) (rows:=ints q.head) (sz:=1) (k:=.i64) (i:=(j:Int)) ap (by simp[ints];omega);have K:=λH:an=>dZ (H:=H) hj;simp at d9;obtain⟨x,hx⟩:=aI (q.head[j]);rw[<-hx]at i9 K;have c_:q.head.take (j+1)=q.head.take j++[x]:=by rw[agv,By hj,hx];rfl
   have i_:aV J (aa 4) (.c (.ptr (b1+1) 0 0))=aa (.a [.f (sl s.hg (ints s.head)),.f (fi s.fr),.f (fi s.aT),.f (sl s.cg (ints s.bF))]):=by simp[aV,aA,u.bx,aW]
   have M:=uJ s h2 x ap (by unfold Day;omega);simp only[aO.row,agm,agp]at M;refine ay ?_;apply ai;simp[X,E,d9,K];apply au;refine aq (.inl rfl) ?_;simp[B,i_,-ax,M];cases b_:bA s x with
   |false=>
    refine bE bv ?_;refine av (next _ _ ?_ (by simp[X]) (by simp[hb]));refine⟨by simp[B],by simp[E],c,by simp[g5],?_⟩;rw[c_,ah3];simpa[b_]using u
   |true=>
    obtain⟨c3,H3,Z,e_,j6,a_,f_⟩:=qG u.lc (by refine agK (ahb _ _) ?_;rw[agO];omega) x;refine aw bv ?_;refine aq (.inl rfl) ?_;simp[g5,Z];refine av (next _ _ ?_ (by simp[X]) (by simp[hb]));refine⟨by simp[B],by simp[E],c3,bv,λi hi=>?_,a_ _ _ u.bx (u.lc.bR u.bx),?_,λi hi=>?_,by have:=u.hl;omega⟩
    .rw[<-u.kp i hi];have i8:i<J.length:=by have:=u.hl;omega
     have hy:J[i]?=aa J[i]:=By i8;rw[hy];exact a_ i _ hy λe=>by have:=u.lo i e;omega
    .rw[c_,ah3];simpa[b_]using e_
    .have:=u.hl;rcases f_ with e|e
     .rw[e]at hi;exact u.lo i hi
     .rw[e]at hi;cases hi;omega
  .rintro t J ⟨B,E,c,g5,u⟩ - -;rw[agu]at u;apply ai;simp[g5];refine az (hQ _ _ (.c c) rfl (dy bv) ⟨c,_,rfl,u.lc,u.lo,u.kp,u.hl,q6.sublist List.filter_sublist,agK (ahb _ _) i7,λd=>?_⟩);rw[agT,head_mem h1,i6];constructor
   .rintro⟨⟨k0,k1,k2⟩,k3⟩;obtain⟨k4,k5⟩:=(c9 d).1 ⟨k2,k3⟩;exact⟨k0,k1,k4,k5⟩
   .rintro⟨k0,k1,k4,k5⟩;obtain⟨k2,k3⟩:=(c9 d).2 ⟨k4,k5⟩;exact⟨⟨k0,k1,k2⟩,k3⟩
 have l1:aV y ab (.c (.ptr b1 1 0))=aa (vi l.fr):=by simp[aV,aA,c1]
 have l0:=(qF c0).ni;apply au;apply ai;simp[g1,W,l0,l1,-ax];by_cases hf:l.fr=st
 .refine bE (by simp[hf]) ?_;exact Y l b _ _ X hb hf la ap (λd=>Iff.rfl) (by simp[W]) (by simp[B]) c1 c2 ck
 .refine aw (by simp[hf]) ?_;have l4:aV y (aa 4) (.c (.ptr (b1+1) 0 0))=aa (.a [.f (sl b.hg (ints b.head)),.f (fi b.fr),.f (fi b.aT),.f (sl b.cg (ints b.bF))]):=by simp[aV,aA,c2,aW]
  have l3:aV y (aa 4) (.c (.ptr b1 0 0))=aa (.a [.f (sl l.hg (ints l.head)),.f (fi l.fr),.f (fi l.aT),.f (sl l.cg (ints l.bF))]):=by simp[aV,aA,c1,aW]
  obtain⟨U,A⟩:=aI (y.set b1 (.box [.f (sl b.hg (ints b.head)),.f (fi b.fr),.f (fi b.aT),.f (sl b.cg (ints b.bF))] 0));have s1:cY y (.ptr b1 0 0) [.f (sl b.hg (ints b.head)),.f (fi b.fr),.f (fi b.aT),.f (sl b.cg (ints b.bF))]=aa U:=by rw[A];simp[cY,c1,over]
  have d1:U[b1]?=aa (.box [.f (sl b.hg (ints b.head)),.f (fi b.fr),.f (fi b.aT),.f (sl b.cg (ints b.bF))] 0):=by rw[A];exact BY ap
  have d2:U[b1+1]?=aa (.box [.f (sl b.hg (ints b.head)),.f (fi b.fr),.f (fi b.aT),.f (sl b.cg (ints b.bF))] 0):=by rw[A,sh ap];exact c2
  have dl:U.length=y.length:=by rw[A];simp
  obtain⟨HD,F⟩:=aI (U.set (b1+1) (.box [.f (sl l.hg (ints l.head)),.f (fi l.fr),.f (fi l.aT),.f (sl l.cg (ints l.bF))] 0));have s2:cY U (.ptr (b1+1) 0 0) [.f (sl l.hg (ints l.head)),.f (fi l.fr),.f (fi l.aT),.f (sl l.cg (ints l.bF))]=aa HD:=by rw[F];simp[cY,d2,over]
  refine aq (.inl rfl) ?_;simp[W,B,l3,l4,-ax,s1,s2,-bw];refine Y b l _ _ hb X ap lb ap (λd=>And.comm) (by simp[W]) (by simp[B]) ?_ ?_ λi hi=>?_
  .rw[F,sh ap];exact d1
  .rw[F];exact BY ap
  .rw[F,sh ap,A,sh ap];exact ck i hi
theorem tu(a b:Int)(y:1<=b)(x:-4611686018427387904<=a)(j:a<=4611686018427387904)(l:b<=4611686018427387904):bg tab PC [vi a,vi b]=Eq (vi (a % b)):=bg.eq (by
 have f:=agW a (show b≠0 by omega);have v:=agL a (show 0<b by omega);have q:=Int.tmod_lt_of_pos a (show 0<b by omega);have z:=Int.lt_tmod_of_pos a (show 0<b by omega);have m:cT .rem (vi a) (vi b)=aa (vi (a.tmod b)):=dp ap;have s:=aZ (n:=a.tmod b+b);have key:a % b=if a.tmod b<0 then a.tmod b+b else a.tmod b:=by
  have e:=ze (u:=a) (show 0<b by omega);split
  .rw[<-e,Int.tmod_eq_of_lt ap ap]
  .rename_i h;have g:(a.tmod b+b).tmod b=a.tmod b:=by
    rw[Int.tmod_eq_emod_of_nonneg ap,Int.add_emod_right,ahf ap q]
   rw[<-e,g]
 refine bK rfl rfl λQ d=>?_;apply ai;simp;apply ai;simp[m];apply au;apply ai;simp;by_cases h:a.tmod b<0
 .refine aw (by simp[h]) ?_;refine aq (.inl rfl) ?_;simp[s];apply ai;simp;refine az (d _ _ ?_);simp[key,h]
 .refine bE (by simp[h]) ?_;apply ai;simp;refine az (d _ _ ?_);simp[key,h])
theorem Us{a m:Int}(a0:0<=a)(m1:m<=1000000)(am:a<m)(hg:ag6 a m=1) :
  ∃x,0<=x/\x<m/\m ∣ a*x-1/\bg tab U_ [vi a,vi m]=Eq (vi x):=by
 obtain⟨S,⟨x,c,f,h,rfl⟩,hp⟩:∃S,(∃x,0<=x/\x<m/\m ∣ a*x-1/\S=vi x)/\bg tab U_ [vi a,vi m] S:=by
  refine dx rfl rfl λQ hQ=>?_;apply ai;simp;apply ai;simp;refine au (ay ?_);refine dc (λn s=>∃(x y u v U V:Int) (t:T),s=⟨t,[],[]⟩/\(n:Int)=y/\t.g 1=vi m/\t.g 5=vi x/\t.g 6=vi y/\t.g 7=vi u/\t.g 8=vi v/\0<=x/\x<=m/\0<=y/\y<=m/\ag6 x y=1/\m ∣ a*u-x/\m ∣ a*v-y/\
   0<=U/\U<=m/\0<=V/\(u=U/\v = -V\/u = -U/\v=V)/\U*y+V*x=m/\V<=m) m.toNat
   ⟨a,m,1,0,1,0,_,rfl,ap,bv,bv,bv,bv,bv,a0,ap,ap,ap,hg,⟨0,ap⟩,⟨-1,ap⟩,ce,ap,ce,.inl ⟨rfl,rfl⟩,ap,ap⟩ ?_
  rintro n s ⟨x,y,u,v,U,V,t,rfl,hn,X,Y,E,Z,w,c,f,h,b_,H,i,k,h7,c9,I,o,F,z⟩ ih;refine au (ai ?_);simp[E];by_cases p:y=0
  .
   subst p;have O:x=1:=by
    have H:x.natAbs=1:=by simpa[ag6]using H
    omega
   subst O;have r1:=tu u m ap ap ap ap;refine aD bv (bJ rfl ?_);apply ai;simp[X,Z,r1];refine az (hQ _ _ _ ⟨u % m,agW _ ap,agL _ ap,?_,rfl⟩ bv);have e:a*(u % m)-1=(a*u-1)-a*(u / m)*m:=by
    have:=agB u m;rw[show u % m=u-m*(u / m) by omega,aiL,aia,ahB m];omega
   rw[e];exact ahT i (Int.dvd_mul_left _ _)
  .
   have A:0<=x / y:=aha ap ap;have M:x / y<=x:=ahL _ ap;have B:=e9 (a:=x) (b:=y) ap ap ap;obtain⟨q,hq⟩:=aI (x / y);have j:=agB x y;have K:=agW x (show y≠0 by omega);have L:=agL x (show 0<y by omega);rw[<-hq]at A M B j;obtain⟨g,N⟩:=aI (x % y);rw[<-N]at j K L;have d_:q*y=x-g:=by rw[ahB];omega
   obtain⟨W,hW⟩:=aI (U+q*V);have d9:0<=q*V:=ag7 A I;have c_:W*y+V*g=m:=by
    rw[hW,aiA,<-F,show g=x-q*y by omega,aiL,aia q V y,Int.mul_left_comm q V y];omega
   have J:W<=m:=by
    have z:W<=W*y:=by have:=agy (show(1:Int)<=y by omega) (show 0<=W by omega);omega
    have a_:0<=V*g:=ag7 I ap;omega
   have d:(v=V->q*v=q*V)/\(v = -V->q*v = -(q*V)):=⟨λe=>by rw[e],λe=>by rw[e,aim]⟩
   have hb:-m<=q*v/\q*v<=m:=by
    rcases o with⟨-,e⟩|⟨-,e⟩
    .rw[d.2 e];omega
    .rw[d.1 e];omega
   have w1:=aZ (n:=q*y);have w2:IntKind.i64.wrap (x-q*y)=g:=by rw[aZ];omega
   have w3:=aZ (n:=q*v);have w4:=aZ (n:=u-q*v);refine aw (by simp[p]) (aR ?_);refine ay (ai ?_);simp[Y,E,B];apply ai;simp[Y,E,w1,w2];refine aq (.inl rfl) ?_;simp[Z,w,w3,w4];refine av (ih g.toNat _ ap ⟨y,g,v,u-q*v,V,W,_,rfl,ap,by simp[X],bv,bv,bv,bv,ap,ap,ap,ap,?_,k,?_,I,z,ap,?_,ap,J⟩)
   .rw[show g=x-q*y by omega,Int.gcd_comm,Int.gcd_sub_mul_right_left];exact H
   .have e:a*(u-q*v)-g=(a*u-x)-q*(a*v-y):=by
     rw[aiL,aiL,Int.mul_left_comm a q v];omega
    rw[e];exact ahT i (Int.dvd_mul_of_dvd_right k)
   .rcases o with⟨r,l⟩|⟨r,l⟩
    .exact .inr ⟨l,by rw[d.2 l];omega⟩
    .exact .inl ⟨l,by rw[d.1 l];omega⟩
 exact⟨x,c,f,h,hp.eq⟩
theorem RQ{x n:Int}(l:0<=x)(m:x<=9223372036854775807)(d:0<n)(n1:n<=9223372036854775807):bg tab abC [u64 0,u64 x,u64 n]=Eq (u64 (x % n)):=bg.eq (by
 have g:=DN l m d n1;have b:=Je (a:=0) ap d;rw[aiw]at b;refine bK rfl rfl λQ j=>?_;apply ai;simp;apply ai;simp[g,b];apply ai;simp;refine az (j _ _ ?_);simp)
theorem Sk{a b m:Int}(a0:0<=a)(a1:a<=1000000)(b0:0<=b)(b1:b<=1000000)(d:0<m)(m1:m<=1000000):bg tab abS [vi a,vi b,vi m]=Eq (vi (a*b % m)):=bg.eq (by
 have q:0<=a*b:=ag7 a0 b0;have v:a*b<=1000000*1000000:=ah5 a1 b1 b0 ap;have s:=agW (a*b) (show m≠0 by omega);have u:=agL (a*b) d;have g:=tt a0 ap b0 ap;have j:=RQ q ap d ap;refine bK rfl rfl λQ l=>?_;apply ai;simp;apply ai;simp[g,iY a0 ap,iY b0 ap];apply ai;simp[j,iY (show 0<=m by omega) ap,aZ (n:=a*b % m)];refine az (l _ _ ?_);simp)
theorem Sa{a b x y P:Int}(a1:1<=a)(b1:1<=b)(z:P=a / (ag6 a b:Int)*b)(hd:P<=1000000)(Y:0<=x)(Z:x<a)(c:0<=y)(e:y<b)(F:x % (ag6 a b:Int)=y % (ag6 a b:Int)) :
  ∃k v:Int,0<=k/\k<P/\k % a=x/\k % b=y/\bg tab abQ [vi x,vi a,vi y,vi b]=Eq (.t [vi k,vi v,vi 0]):=by
 have s:=Int.gcd_ediv_gcd_ediv_gcd_of_ne_zero_left (n:=a) (m:=b) ap;have g0:0<(ag6 a b:Int):=by have:=ahv b (show a≠0 by omega);omega
 have S:(ag6 a b:Int) ∣ a:=ah0 ..;have U:(ag6 a b:Int) ∣ b:=ah7 ..;obtain⟨g,L⟩:=aI ((ag6 a b:Int):Int);have M:ag6 a b=ahC a.toNat b.toNat:=by
  show ahC a.natAbs b.natAbs=_;rw[show a.natAbs=a.toNat by omega,show b.natAbs=b.toNat by omega]
 rw[<-L]at s g0 S U z F;obtain⟨p,I⟩:=S;obtain⟨q,J⟩:=U;have H:a / g=p:=by rw[I,ahD _ ap]
 have eq:b / g=q:=by rw[J,ahD _ ap]
 rw[H,eq]at s;rw[H]at z;have p1:1<=p:=by
  rcases ahy 0 p with h|h
  .omega
  .have:=ag7 (show 0<=g by omega) (show 0<=-p by omega);rw[aim]at this;omega
 have O:1<=q:=by
  rcases ahy 0 q with h|h
  .omega
  .have:=ag7 (show 0<=g by omega) (show 0<=-q by omega);rw[aim]at this;omega
 have A:P=a*q:=by rw[z,I,J,Int.mul_left_comm,aia]
 have aP:a<=P:=by rw[A];have:=agy O (show 0<=a by omega);omega
 have bP:b<=P:=by rw[z];have:=agI p1 (show 0<=b by omega);omega
 have qb:q<=b:=by rw[J];have:=agI (show 1<=g by omega) (show 0<=q by omega);omega
 have pa:p<=a:=by rw[I];have:=agI (show 1<=g by omega) (show 0<=p by omega);omega
 have B:bg tab Ae [vi a,vi b]=Eq (vi g):=by
  have h:=xM (a:=a.toNat) (b:=b.toNat) ap ap;rw[show((a.toNat:Nat):Int)=a by omega,show((b.toNat:Nat):Int)=b by omega,<-M,<-L]at h;exact h
 have l:=Cz a1 (show a<=1000000 by omega) b1 (show b<=1000000 by omega);rw[<-L,H,<-z]at l;have K:g ∣ y-x:=ahH (by rw[aiE,F,Int.sub_self,aiw]);obtain⟨d,j⟩:=K;have ed:(y-x) / g=d:=by rw[j,ahD _ ap]
 have dl:-a<=d/\d<=b:=by
  rcases Int.le_total 0 d with h|h
  .have:=agI (show 1<=g by omega) h;omega
  .have:=agI (show 1<=g by omega) (show 0<=-d by omega);have:=aim g d;omega
 obtain⟨i,i0,i1,i2,E⟩:=Us (a:=p % q) (m:=q) (agW _ ap) ap (agL _ ap) (by
  rw[show p % q=p-p / q*q by rw[ahB];have:=agB p q;omega,Int.gcd_sub_mul_right_left];exact s)
 have r1:cT .rem (vi (y-x)) (vi g)=aa (vi 0):=by
  have:=@dp .i64 (y-x) g ap;rw[Int.tmod_eq_zero_of_dvd ⟨d,j⟩]at this;exact this
 have r2:cT .quo (vi b) (vi g)=aa (vi q):=by rw[<-eq];exact e9 ap ap ap
 have r3:cT .quo (vi a) (vi g)=aa (vi p):=by rw[<-H];exact e9 ap ap ap
 have r4:cT .quo (vi (y-x)) (vi g)=aa (vi d):=by
  have:=@gq .i64 (y-x) g ap;rw[Int.tdiv_eq_ediv_of_dvd ⟨d,j⟩,ed,aZ]at this;exact this
 have m1:=tu x a a1 ap ap ap;have m2:=tu y b b1 ap ap ap;rw[ahf Y Z]at m1;rw[ahf c e]at m2;have m3:=tu d q O ap ap ap;have m4:=tu p q O ap ap ap;have r:=agW d (show q≠0 by omega);have d1:=agL d (show 0<q by omega);have X:=Sk r (show d % q<=1000000 by omega) i0 (show i<=1000000 by omega) (show 0<q by omega) ap;obtain⟨k,N⟩:=aI (d % q*i % q);have k0:0<=k:=by rw[N];exact agW _ ap
 have k1:k<q:=by rw[N];exact agL _ ap
 rw[<-N]at X;have f:0<=a*k:=ag7 ap k0;have o:a*k<=P-a:=by
  rw[A];have:=agy (show k<=q-1 by omega) (show 0<=a by omega);rw[aiL,Int.mul_one]at this;exact this
 refine⟨x+a*k,P,ap,ap,?_,?_,bg.eq (bK rfl rfl λQ hQ=>?_)⟩
 .rw[Int.add_mul_emod_self_left,ahf Y Z]
 .have t:q ∣ p*k-d:=by
   obtain⟨u,W⟩:=i2;have f1:q*(d % q*i / q)=d % q*i-k:=by have:=agB (d % q*i) q;omega
   have f2:q*(d / q)=d-d % q:=by have:=agB d q;omega
   have f3:q*(p / q)=p-p % q:=by have:=agB p q;omega
   exact⟨-(p*(d % q*i / q))+d % q*u+d % q*i*(p / q)-d / q,by grind⟩
  have w:b ∣ x+a*k-y:=by
   obtain⟨u,W⟩:=t;refine⟨u,?_⟩;rw[J,aia,<-W,aiL,<-j,I,aia];omega
  rw[show x+a*k=y+(x+a*k-y) by omega,aiV,aiF w,Int.add_zero,ahu _ (ahA b),ahf c e]
 apply ai;simp;apply au;apply ai;simp[show¬ a<1 by omega,show¬ b<1 by omega];refine bE bv ?_;apply ai;simp[B];apply ai;simp[m1,m2];apply au;apply ai;simp[aZ (n:=y-x),r1];refine bE bv ?_;apply ai;simp[l];apply au;apply ai;simp;refine bE bv ?_;apply ai;simp[r2];apply ai;simp[aZ (n:=y-x),r3,r4,m3,m4,E,X];apply ai;simp[aZ (n:=a*k),aZ (n:=x+a*k)];refine az (hQ _ _ ?_);simp
structure BS(a b P:Int):Prop where
 pos:0<P
 da:a ∣ P
 db:b ∣ P
 dvd:∀k,a ∣ k->b ∣ k->P ∣ k
theorem T8{m n:Nat}(d:1<=m)(g:1<=n):(m:Int) / (ag6 (m:Int) (n:Int):Int)*n=(Nat.lcm m n:Int):=by
 have b:ag6 (m:Int) (n:Int)=ahC m n:=rfl;rw[b,<-Int.natCast_ediv,<-Int.natCast_mul,Nat.lcm,Nat.mul_comm m n,Nat.mul_div_assoc _ (Nat.gcd_dvd_left m n),Nat.mul_comm]
theorem GP{a b:Int}(a1:1<=a)(b1:1<=b):BS a b (a / (ag6 a b:Int)*b):=by
 obtain⟨m,rfl⟩:=Int.eq_ofNat_of_zero_le (show 0<=a by omega);obtain⟨n,rfl⟩:=Int.eq_ofNat_of_zero_le (show 0<=b by omega);rw[T8 ap ap];refine⟨?_,Int.ofNat_dvd.2 (Nat.dvd_lcm_left m n),Int.ofNat_dvd.2 (Nat.dvd_lcm_right m n),λk j l=>?_⟩
 .have:=Nat.lcm_pos (m:=m) (n:=n) ap ap;omega
 .have d:=aiM.2 j;have g:=aiM.2 l;rw[Int.natAbs_natCast]at d g;rw[<-aiM,Int.natAbs_natCast];exact Nat.lcm_dvd d g
theorem BS.uniq{a b P:Int}(h:BS a b P){k k':Int}(h0:0<=k)(h1:k<P)(d:0<=k')(g:k'<P)(l:k % a=k' % a)(hb:k % b=k' % b):k=k':=by
 have:=h.dvd (k-k') (ahH (by rw[aiE,l,Int.sub_self,aiw])) (ahH (by rw[aiE,hb,Int.sub_self,aiw]));have e:(k-k') % P=0:=aiF this;have j:k % P=k' % P:=by
  have:=ahu k (ahA P);rw[<-Int.sub_add_cancel k k',aiV,e,Int.zero_add,ahu _ (ahA P)]
 rw[ahf h0 h1,ahf d g]at j;exact j
theorem KX{X Y:List Int}{g:Int}{l:List (Int × C)}{d y:C}{m N:Nat}(M O:aO)(st:Int){H:an}(h:PH H N X Y g l d y m)(f:0<g)(I:∀x∈X,0<=x/\x<=1000000)(hX:X.length<=30000){D:Int}(c:0<=D)(e:D<=30000)(k:∀r,((ie g Y r).length:Int)<=D) :
  ∃r H',Ev tab (.fn Xb) [.a (cL M O st d y g m)] H r H'/\∃n:Int,r=vi n/\0<=n/\n<=(X.length:Int)*D/\(∀i:Nat,i<H.length->H'[i]?=H[i]?)/\H.length<=H'.length:=by
 refine de rfl rfl λQ o=>?_;apply ai;simp[cL];obtain⟨b0,s⟩:=aI (H.length);obtain⟨q,b⟩:=aI (H++[.box (cL M O st d y g m) 0]:an);have a0:q[b0]?=aa (.box (cL M O st d y g m) 0):=by rw[b,s];simp
 have U:∀i:Nat,i<H.length->q[i]?=H[i]?:=λi hi=>by rw[b,AI ap]
 have al:q.length=H.length+1:=by rw[b];simp
 unfold cL at b;rw[<-b,<-s];have h:=h.bH U;have L:=qF a0;have lx:bh q d=aa X.length:=by have:=h.lx.len;simpa[ints]using this
 apply ai;simp;apply au;apply ai;simp[L.lx,-ax,lx];refine bS X.length (λj t J=>J=q/\t.g 1=.c (.ptr b0 0 0)/\t.g 7=.c d/\∃n:Int,t.g 3=vi n/\0<=n/\n<=(j:Int)*D) ap ce ce bv bv
  ⟨rfl,bv,bv,0,bv,ap,bv⟩ ?_ ?_
 .rintro j t J Z ⟨rfl,z,B,n,A,a,n1⟩ W p next
  obtain⟨xb,b_,c9,S,v,-⟩:=uH h.lx Z;have K:=I _ (IN Z);obtain⟨x,I⟩:=aI (X[j]);rw[<-I]at K v;have u:cT .rem (vi x) (vi g)=aa (vi (x % g)):=gQ ap f;have E:=h.ok.look h.mp (x % g);have F:bh J (pD l (x % g))=aa (ie g Y (x % g)).length:=by have:=(h.ok.lr (x % g)).len;simpa[ints]using this
  have a_:=k (x % g);have w:(j:Int)*D<=30000*30000:=ah5 ap e c ap;refine ay ?_;apply ai;simp[W,B,S,v,-ax];refine aq (.inl rfl) ?_;simp[z,A,L.lm,L.lg,u,-ax,iv,E,F,aZ (n:=n+((ie g Y (x % g)).length:Int))];refine av (next _ _ ?_ (by simp[W]) (by simp[p]));exact⟨rfl,by simp[z],by simp[B],n+((ie g Y (x % g)).length:Int),bv,ap,by rw[aiB,aiA];omega⟩
 .rintro t J ⟨rfl,z,B,n,A,a,n1⟩ - -;apply ai;simp[A];exact az (o _ _ (vi n) rfl (dy bv) ⟨n,rfl,a,n1,U,by show H.length<=J.length;omega⟩)
theorem Qa{Y:List Int}{d g r:Int}(m:0<g)(E:g ∣ d)(v:Y.Pairwise (· < ·))(B:∀y∈Y,0<=y/\y<d)(H:0<=d):((ie g Y r).length:Int)<=d / g:=by
 have q:((ie g Y r).map (· / g)).Pairwise (· < ·):=by
  rw[ahW];refine aij (λ{a b} z l A=>?_) (List.Pairwise.filter _ v);have K:a % g=r:=by have:=(agT.1 z).2;simpa using this
  have L:b % g=r:=by have:=(agT.1 l).2;simpa using this
  have I:=agB a g;have J:=agB b g;have u:g*(a / g)<g*(b / g):=by omega
  exact Int.lt_of_mul_lt_mul_left u ap
 have s:=fj _ 0 (d / g) q λx F=>by
  obtain⟨y,j,rfl⟩:=agt.1 F;have j:=B y (agT.1 j).1;exact⟨aha j.1 ap,by
   obtain⟨k,rfl⟩:=E;rw[ahD _ ap,Int.zero_add];exact Int.ediv_lt_of_lt_mul m (by rw[ahB];exact j.2)⟩
 rw[agq]at s;have:=aha H (show 0<=g by omega);omega
structure MQ(H0:an)(qa qb:aO)(st g:Int)(cx cy:C)(m b0:Nat)(c:C)(L:List Int)(J:an):Prop where
 kp:∀i:Nat,i<H0.length->J[i]?=H0[i]?
 bx:J[b0]?=aa (.box (cL qa qb st cx cy g m) 0)
 lc:LR J c 1 (ints L)
 lo:∀i,bf c=aa i->H0.length<=i
 hl:H0.length<=J.length
theorem MQ.app{v:an}{A qb:aO}{st g:Int}{x y:C}{m b0:Nat}{c:C}{L:List Int}{J:an}(h:MQ v A qb st g x y m b0 c L J)(hl:L.length<=1000000000)(n:Int) :
  ∃l j,bT (J++[.box [.f (fi n)] 0]) 1 8 (.c c) (.c (.sl J.length 0 1 1 0 1))=aa (.c l,j)/\MQ v A qb st g x y m b0 l (L++[n]) j:=by
 obtain⟨l,j,b,q,z,d,s⟩:=qG h.lc hl n;have B:=h.hl;refine⟨l,j,b,λi hi=>?_,d _ _ h.bx (h.lc.bR h.bx),q,λi hi=>?_,ap⟩
 .rw[<-h.kp i hi];have u:i<J.length:=by omega
  have hy:J[i]?=aa J[i]:=By u;rw[hy];exact d i _ hy λe=>by have:=h.lo i e;omega
 .rcases s with e|e
  .rw[e]at hi;exact h.lo i hi
  .rw[e]at hi;cases hi;omega
structure MM(X Y XS YS:List Int)(x0 pa pb P st:Int)(M:List Int):Prop where
 of:∀d∈M,∃k,d=st+k/\0<=k/\k<P/\k % pa∈X/\k % pb∈Y
 to:∀k,0<=k->k<P->k % pb∈Y->(k % pa∈XS\/(k % pa=x0/\k % pb∈YS))->st+k∈M
theorem Rh{X Y L0:List Int}{g:Int}{l:List (Int × C)}{O o ch:C}{m N:Nat}(b s:aO)(st:Int){B H:an}(h:PH B N X Y g l O o m)(W:∀i:Nat,i<B.length->H[i]?=B[i]?)(r9:B.length<=H.length)(n8:LR H ch 1 (ints L0))(q_:∀i,bf ch=aa i->B.length<=i)
  (hg:g=(ag6 b.aT s.aT:Int)) {P:Int} (a1:1<=b.aT) (b1:1<=s.aT) (hP:P=b.aT / (ag6 b.aT s.aT:Int)*s.aT) (F:P<=30000) (hx:∀x∈X,0<=x/\x<b.aT) (hy:∀y∈Y,0<=y/\y<s.aT) (hX:X.length<=30000) {D:Int} (D0:0<=D) (D1:D<=30000) (hD:∀r,((ie g Y r).length:Int)<=D) (n9:(X.length:Int)*D<=30000) (r_:L0.length<=300000) (s0:0<=st) (s1:st<=2000000000000) :
  ∃r H',Ev tab (.fn Xd) [.a (cL b s st O o g m),.c ch] H r H'/\∃c M,r=.c c/\LR H' c 1 (ints (L0++M))/\(∀i,bf c=aa i->B.length<=i)/\(∀i:Nat,i<B.length->H'[i]?=B[i]?)/\B.length<=H'.length/\(M.length:Int)<=(X.length:Int)*D/\(∀d∈M,∃k,d=st+k/\0<=k/\k<P/\k % b.aT∈X/\k % s.aT∈Y)/\
   ∀k,0<=k->k<P->k % b.aT∈X->k % s.aT∈Y->st+k∈M:=by
 have I:=(hP▸GP a1 b1:BS b.aT s.aT P)
 have a2:b.aT<=30000:=ag5 (agZ I.pos I.da) F;have b2:s.aT<=30000:=ag5 (agZ I.pos I.db) F;have g0:0<g:=by rw[hg];have:=ahv s.aT (show b.aT≠0 by omega);omega
 have m9:g ∣ b.aT:=by rw[hg];exact ah0 ..
 have m_:g ∣ s.aT:=by rw[hg];exact ah7 ..
 refine de rfl rfl λQ hQ=>?_;apply ai;simp[cL];obtain⟨b0,i6⟩:=aI (H.length);obtain⟨HA,E⟩:=aI (H++[.box (cL b s st O o g m) 0]:an);have a0:HA[b0]?=aa (.box (cL b s st O o g m) 0):=by rw[E,i6];simp
 have ak:∀i:Nat,i<H.length->HA[i]?=H[i]?:=λi hi=>by rw[E,AI ap]
 have al:HA.length=H.length+1:=by rw[E];simp
 have q0:MQ B b s st g O o m b0 ch (L0++[]) HA:=⟨λi hi=>by rw[ak i ap];exact W i hi,a0,by rw[agN,E];exact n8.push _,q_,ap⟩
 unfold cL at E;rw[<-E,<-i6];have hA:=h.bH (J':=HA) λi hi=>q0.kp i hi;have L:=qF a0;have lx:bh HA O=aa X.length:=by have:=hA.lx.len;simpa[ints]using this
 apply au;apply ai;simp[L.lx,-ax,lx];refine bS X.length (λj t J=>t.g 2=.c (.ptr b0 0 0)/\t.g 13=.c O/\∃c M,t.g 1=.c c/\MQ B b s st g O o m b0 c (L0++M) J/\(M.length:Int)<=(j:Int)*D/\MM X Y (X.take j) [] 0 b.aT s.aT P st M) ap ce ce bv bv
  ⟨bv,bv,ch,[],bv,q0,bv,⟨λ_ h=>(by cases h),λk _ _ _ h=>(by simp at h)⟩⟩ ?_ ?_
 .rintro j t J hj ⟨U,u,c,M,p,A,c9,z⟩ ha hb next
  have hJ:=h.bH (J':=J) A.kp;obtain⟨xb,s_,t6,r6,k_,-⟩:=uH hJ.lx hj;have c_:=hx _ (IN hj);have j8:=IN hj;have j7:X.take (j+1)=X.take j++[X[j]]:=by rw[agv,By hj];rfl
  obtain⟨x,hx⟩:=aI (X[j]);rw[<-hx]at c_ k_ j7 j8;have j5:cT .rem (vi x) (vi g)=aa (vi (x % g)):=gQ ap g0;have i9:=hJ.ok.look hJ.mp (x % g);obtain⟨ys,d9⟩:=aI (ie g Y (x % g));have j9:∀y,y∈ys↔y∈Y/\y % g=x % g:=λy=>by rw[d9];simp[ie]
  obtain⟨cc,i8⟩:=aI (pD l (x % g));have i7:∀J':an,(∀i:Nat,i<B.length->J'[i]?=B[i]?)->LR J' cc 1 (ints ys):=λJ' Z=>by rw[d9,i8];exact(h.bH Z).ok.lr (x % g)
  have p_:bh J cc=aa ys.length:=by have:=(i7 J A.kp).len;simpa[ints]using this
  have s7:(ys.length:Int)<=D:=by rw[d9];exact hD _
  have p9:((j+1:Nat):Int)*D<=30000:=ag5 (agI ap D0) n9;rw[aiB,aiA]at p9;rw[<-i8]at i9;have LJ:=qF A.bx;refine ay ?_;apply ai;simp[ha,u,r6,k_,-ax];apply ai;simp[U,LJ.lm,LJ.lg,j5,-ax,iv,i9,p_];refine bS ys.length (λi e J=>e.g 2=.c (.ptr b0 0 0)/\e.g 13=.c O/\e.g 15=vi j/\e.g 14=t.g 14/\e.g 6=vi x/\e.g 25=.c cc/\∃c M,e.g 1=.c c/\MQ B b s st g O o m b0 c (L0++M) J/\(M.length:Int)<=(j:Int)*D+(i:Int)/\MM X Y (X.take j) (ys.take i) x b.aT s.aT P st M) ap ce ce bv bv
   ⟨by simp[U],by simp[u],by simp[ha],bv,bv,bv,c,M,by simp[p],A,ap,⟨z.of,λk k0 a S W=>by
    rcases W with W|W
    .exact z.to k k0 a S (.inl W)
    .simp at W⟩⟩ ?_ ?_
  .rintro i e J' hi ⟨U,u,a_,w,g6,b_,c,M,p,A,c9,z⟩ g_ n_ f_;obtain⟨yb,t7,t8,r7,l_,-⟩:=uH (i7 J' A.kp) hi;have K:=(j9 _).1 (IN hi);have f:ys.take (i+1)=ys.take i++[ys[i]]:=by rw[agv,By hi];rfl
   obtain⟨y,r5⟩:=aI (ys[i]);rw[<-r5]at l_ K f;obtain⟨k,v,k0,a,ka,S,j6⟩:=Sa a1 b1 hP (ag5 F ce) c_.1 c_.2 (hy y K.1).1 (hy y K.1).2 (by rw[<-hg];exact K.2.symm);have LJ:=qF A.bx;obtain⟨c3,H3,h_,i_⟩:=A.app (by rw[aft];omega) (st+k);rw[agM]at i_;refine ay ?_;apply ai;simp[g_,b_,r7,l_,-ax];apply ai;simp[U,g6,LJ.lap,LJ.lbp,-ax,j6];refine aq (.inl rfl) ?_;simp[p,U,LJ.ni,-ax,aZ (n:=st+k),h_];refine av (f_ _ _ ?_ (by simp[g_]) (by simp[n_]));refine⟨by simp[U],by simp[u],by simp[a_],by simp[w],by simp[g6],by simp[b_],c3,M++[st+k],bv,i_,ge,⟨λd o_=>?_,λk' d_ e_ j_ Z=>?_⟩⟩
   .rcases agl.1 o_ with q|q
    .exact z.of d q
    .rw[If]at q;exact⟨k,q,k0,a,by rw[ka];exact j8,by rw[S];exact K.1⟩
   .rw[f,agl,If]at Z;rcases Z with q|⟨q1,q|q⟩
    .exact ag3 _ (z.to k' d_ e_ j_ (.inl q))
    .exact ag3 _ (z.to k' d_ e_ j_ (.inr ⟨q1,q⟩))
    .have:k'=k:=BS.uniq I d_ e_ k0 a (by rw[q1,ka]) (by rw[q,S]);rw[this];simp
  .rintro e J' ⟨U,u,a_,w,g6,b_,c,M,p,A,c9,z⟩ - -;rw[agu]at z;refine av (next _ _ ?_ (by simp[a_]) (by simp[w,hb]));refine⟨by simp[U],by simp[u],c,M,by simp[p],A,by rw[aiB,aiA];omega,⟨z.of,λk k0 a S W=>?_⟩⟩;rcases W with q|q
   .rw[j7,agl,If]at q;rcases q with q|q
    .exact z.to k k0 a S (.inl q)
    .refine z.to k k0 a S (.inr ⟨q,(j9 _).2 ⟨S,?_⟩⟩);rw[ahu _ m_,<-q,ahu _ m9]
   .simp at q
 .rintro t J ⟨U,u,c,M,p,A,c9,z⟩ - -;rw[agu]at z;apply ai;simp[p];refine az (hQ _ _ (.c c) rfl (dy bv) ⟨c,M,rfl,A.lc,A.lo,A.kp,A.hl,ap,z.of,λk k0 a ka S=>z.to k k0 a S (.inl ka)⟩)
structure ud(S:Int->Prop)(U:Int)(ds:List Int):Prop where
 lt:∀d∈ds,d<U
 iff:∀d,d<U->(d∈ds↔S d)
 pw:ds.Pairwise (· < ·)
section
variable{S:Int->Prop}{U:Int}{ds:List Int}
theorem ud.skip(h:ud S U ds){V:Int}(g:U<=V)(b:∀d,U<=d->d<V->¬ S d):ud S V ds:=
 ⟨λd hd=>by have:=h.lt d hd;omega,λd hd=>by
  by_cases k:d<U
  .exact h.iff d k
  .exact⟨λx=>absurd (h.lt d x) k,λx=>absurd x (b d ap hd)⟩,h.pw⟩
theorem ud.more(h:ud S U ds){n:Int}(g:U<=n)(b:∀d,U<=d->d<n->¬ S d)(j:S n):ud S (n+1) (ds++[n]):=by
 have h:=h.skip g b;refine⟨λd hd=>?_,λd hd=>?_,?_⟩
 .rcases agl.1 hd with q|q
  .have:=h.lt d q;omega
  .rw[If]at q;omega
 .rw[agl,If];by_cases k:d=n
  .subst k;simp[j]
  .rw[<-h.iff d ap];simp[k]
 .rw[aho];exact⟨h.pw,ahs _ _,λx l y hy=>by rw[If]at hy;subst hy;exact h.lt x l⟩
theorem ud.all(h:ud S U ds)(b:∀d,U<=d->¬ S d)(d:Int):d∈ds↔S d:=by
 by_cases k:d<U
 .exact h.iff d k
 .exact⟨λx=>absurd (h.lt d x) k,λx=>absurd x (b d ap)⟩
end
def SW(p:aO)(lo hi d:Int):Prop:=lo<=d/\d<hi/\bA p d=ae
theorem Cn{p:aO}{base c:Int}(j:p.fr<=base)(g:(base-p.fr) % p.aT=0)(b:0<=c)(d:c<p.aT):bA p (base+c)=ae↔c∈p.bF:=by
 unfold bA;rw[bZ ap,decide_eq_true_eq];have:(base+c-p.fr) % p.aT=c:=by
  rw[show base+c-p.fr=c+(base-p.fr) by omega,aiV,g,Int.add_zero,ahu _ (ahA _),ahf b d]
 rw[this]
theorem ID(p:aO)(lo:Int)(H:an):∃r H',Ev tab (.fn W_) [.a (p.row.map .f),vi lo] H r H'/\(r=.c (.cl pe [.ptr H.length 0 0,.ptr (H.length+1) 0 0])/\H'=H++[.box [.f (sl p.hg (ints p.head)),.f (fi p.fr),.f (fi p.aT),.f (sl p.cg (ints p.bF))] 0,.box [.f (fi lo)] 0]):=by
 refine de rfl rfl λQ b=>?_;apply ai;simp[aO.row];apply ai;simp;exact az (b _ _ _ rfl (dy bv) ⟨rfl,rfl⟩)
theorem IE{b bp bl:Nat}(p:aO)(hp:cI p=ae)(u_:p.head.length<=1000000)(t_:p.bF.length<=1000000)(lo hi:Int)(l0:0<=lo)(l1:lo<=1099511627776)(w_:hi<=2199023255552){PP:Int->List Int->an->Prop}{RR:List Int->an->Prop}
  (hb:∀z ds J,PP z ds J->J[bp]?=aa (.box [.f (sl p.hg (ints p.head)),.f (fi p.fr),.f (fi p.aT),.f (sl p.cg (ints p.bF))] 0)/\J[bl]?=aa (.box [.f (fi z)] 0))
  (n9:∀z z' ds J,PP z ds J->PP z' ds (J.set bl (.box [.f (fi z')] 0)))
  (hy:∀z ds J n,PP z ds J->lo<=n->n<hi->(∀d∈ds,d<n)->ds.Pairwise (· < ·)->(∀d∈ds,SW p lo hi d)->∃J',Ev tab (.yield b) [vi n] J (vb ae) J'/\PP z (ds++[n]) J')
  (hn:∀z ds J n,PP z ds J->hi<=n->n<=4611686018427387904->∃J',Ev tab (.yield b) [vi n] J (vb ag) J'/\RR ds J') {H:an} (h0:PP lo [] H) :
  ∃r H',Ev tab (.fn pe) [.c (.yl b),.c (.ptr bp 0 0),.c (.ptr bl 0 0)] H r H'/\(r=.t []/\∃ds,((∃z,PP z ds H')\/RR ds H')/\ds.Pairwise (· < ·)/\∀d,d∈ds↔SW p lo hi d):=by
 obtain⟨q1,q2,q3,q4,q5,q6,q7,q8,q9⟩:=bC hp;obtain⟨i,v_,m9,r_,r5⟩:=gA p.hg p.head lo ap q6;have Z:∀z ds J,PP z ds J->aV J ab (.c (.ptr bp 0 0))=aa (.c (.f (sl p.hg (ints p.head))))/\aV J ab (.c (.ptr bp 1 0))=aa (vi p.fr)/\aV J ab (.c (.ptr bp 2 0))=aa (vi p.aT)/\aV J ab (.c (.ptr bp 3 0))=aa (.c (.f (sl p.cg (ints p.bF))))/\aV J ab (.c (.ptr bl 0 0))=aa (vi z)/\∀z':Int,cY J (.ptr bl 0 0) [.f (fi z')]=aa (J.set bl (.box [.f (fi z')] 0)):=λz ds J h=>by
  obtain⟨h1,h2⟩:=hb z ds J h;refine⟨?_,?_,?_,?_,?_,λz'=>?_⟩<;>simp[aV,aA,cY,over,h1,h2]
 obtain⟨e0,e1,e2,e3,e4,e5⟩:=Z _ _ _ h0;have j_:∀(l:List Int) (k:Nat),(ints l).drop k=ints (l.drop k):=λl k=>by simp[ints,ahZ]
 refine de rfl rfl λQ hQ=>?_;apply ai;simp[e0,e4,-ax,r5];obtain⟨g1,n_⟩:=CN (H:=H) (g:=p.hg) (k:=i) (Km.Ord.cQ p.head) (by simp[ints];omega) (by simp[ints];omega);rw[j_]at n_;have c9:∀(J:an) (g:Tg) (l:List Int),bh J (.f (sl g (ints l)))=aa l.length:=λJ g l=>by simp[ints]
 have i7:∀d,d<p.fr->0<=d->(bA p d=ae↔d∈p.head):=λd L h0=>by unfold bA;rw[ct ap,decide_eq_true_eq]
 apply au;apply ai;simp[e0,-ax,n_,c9];refine bS (p.head.drop i).length (λj t J=>t.g 0=.c (.yl b)/\t.g 1=.c (.ptr bp 0 0)/\t.g 2=.c (.ptr bl 0 0)/\t.g 21=.c (.f (sl g1 (ints (p.head.drop i))))/\∃ds,PP lo ds J/\(∃U,ud (SW p lo hi) U ds/\(lo<=U/\U<=max lo p.fr)/\(∀(k:Nat) (h:k<(p.head.drop i).length),k<j->(p.head.drop i)[k]<U)/\∀(k:Nat) (h:k<(p.head.drop i).length),j<=k->U<=(p.head.drop i)[k])/\∀d∈ds,SW p lo hi d) (by rw[agF];omega) ce ce bv bv
  ⟨bv,bv,bv,bv,[],h0,⟨lo,⟨bv,λd L=>⟨λh=>(by simp at h),λh=>(by have:=h.1;omega)⟩,List.Pairwise.nil⟩,⟨ahw _,ap⟩,λk _ h=>ap,λk h _=>(by rw[ahX];exact r_ _ (by simp at h;omega) ap)⟩,bv⟩ ?_ ?_
 .rintro j t J M ⟨X,v,g2,f_,ds,I,⟨U,F,hU,E,a⟩,y⟩ ha i6 next
  have a_:=λH:an=>bz (H:=H) (g:=g1) (rows:=ints (p.head.drop i)) (sz:=1) (k:=.i64) (i:=(j:Int)) ap (by simpa[ints]using M);have b_:=λH:an=>dZ (H:=H) M;simp only[ah8,agD]at a_;have m_:(p.head.drop i).Pairwise (· < ·):=q6.sublist (aiT _ _);have x:∀(k:Nat) (h:k<(p.head.drop i).length),j+1<=k->(p.head.drop i)[j]<(p.head.drop i)[k]:=λk h Y=>agQ.1 m_ j k M h ap;have A:∀(k:Nat) (h:k<(p.head.drop i).length),k<j->(p.head.drop i)[k]<(p.head.drop i)[j]:=λk h Y=>agQ.1 m_ k j h M Y;have o:=a j M (agn _);have f:(p.head.drop i)[j]∈p.head:=ahd (IN M);have i_:∀d,d∈p.head->d<lo\/∃(k:Nat) (h:k<(p.head.drop i).length),d=(p.head.drop i)[k]:=λd L=>by
   obtain⟨k,Y,rfl⟩:=agz L;by_cases i8:k<i
   .exact .inl (m9 k Y i8)
   .refine .inr ⟨k-i,by rw[agF];omega,?_⟩;rw[ahX]
    congr 1;omega
  obtain⟨n,hx⟩:=aI ((p.head.drop i)[j]);rw[<-hx]at b_ x A o f;have x_:=q7 n f;have K:∀d,U<=d->d<n->¬ SW p lo hi d:=λd h1 h2 B=>by
   have:=(i7 d ap ap).1 B.2.2;rcases i_ d this with h|⟨k,Y,rfl⟩
   .omega
   .by_cases W:k<j
    .have:=E k Y W;omega
    .by_cases l_:k=j
     .subst l_;omega
     .have:=x k Y ap;omega
  have t7:=Z _ _ _ I;refine ay ?_;apply ai;simp[ha,f_,a_,b_];by_cases w:n<hi
  .obtain⟨J',O,h_⟩:=hy lo ds J n I ap w (λd L=>by have:=F.lt d L;omega) F.pw y;apply ai;simp[X,O.eq];refine bE bv ?_;have B:SW p lo hi n:=⟨ap,w,(i7 n ap ap).2 f⟩
   refine av (next _ _ ?_ (by simp[ha]) (by simp[i6]));refine⟨by simp[X],by simp[v],by simp[g2],by simp[f_],ds++[n],h_,⟨n+1,F.more o K B,⟨ap,ap⟩,λk h Y=>?_,λk h Y=>by have:=x k h Y;omega⟩,λd L=>?_⟩
   .by_cases e:k=j
    .subst e;omega
    .have:=A k h ap;omega
   .rcases agl.1 L with q|q
    .exact y d q
    .rw[If]at q;rw[q];exact B
  .obtain⟨J',O,hR⟩:=hn lo ds J n I ap ap;apply ai;simp[X,O.eq];refine aw bv ?_;exact az (hQ _ _ _ rfl rfl ⟨rfl,ds,.inr hR,F.pw,F.all λd L B=>by
    by_cases h:d<n
    .exact K d L h B
    .have:=B.2.1;omega⟩)
 .rintro t J ⟨X,v,g2,f_,ds,I,⟨U,F,hU,E,-⟩,y⟩ - -;obtain⟨V,hV⟩:=aI (max lo p.fr);have c_:ud (SW p lo hi) V ds:=F.skip ap λd h1 h2 B=>by
   have r7:d<p.fr:=by omega
   have r9:=(i7 d r7 ap).1 B.2.2;obtain⟨k,Y,rfl⟩:=agz r9;by_cases i8:k<i
   .have:=m9 k Y i8;omega
   .have k_:k-i<(p.head.drop i).length:=by rw[agF];omega
    have:=E (k-i) k_ k_;rw[ahX]at this;simp only[show i+(k-i)=k by omega]at this;omega
  obtain⟨-,e1,e2,e3,e4,e5⟩:=Z _ _ _ I;apply au;apply ai;simp[v,e3,-ax,c9];by_cases hc:p.bF=[]
  .refine aw (by simp[hc]) ?_;refine az (hQ _ _ _ rfl rfl ⟨rfl,ds,.inl ⟨lo,I⟩,c_.pw,c_.all λd L B=>?_⟩);have:=B.2.2;unfold bA at this;rw[bZ ap,hc]at this;simp at this
  have u9:0<p.bF.length:=agV.2 hc;refine bE (by simp[hc]) ?_;have t6:max lo p.fr=V:=hV.symm;have s2:=e5 V;have d9:=n9 lo V ds J I;generalize J.set bl (.box [.f (fi V)] 0)=J2 at s2 d9;obtain⟨-,f1,f2,f3,f4,-⟩:=Z _ _ _ d9;apply ai;simp[v,g2,e1,e4,-ax,t6,s2,-bw];have x6:=agW (V-p.fr) (show p.aT≠0 by omega);have x8:=agL (V-p.fr) (show 0<p.aT by omega);have x9:(V-p.fr) % p.aT<=V-p.fr:=by
   have h1:=agB (V-p.fr) p.aT;have h2:0<=p.aT*((V-p.fr) / p.aT):=ag7 ap (aha ap ap);omega
  have e_:cT .rem (vi (V-p.fr)) (vi p.aT)=aa (vi ((V-p.fr) % p.aT)):=gQ ap ap;obtain⟨base,N⟩:=aI (V-(V-p.fr) % p.aT);have j6:(base-p.fr) % p.aT=0:=by
   rw[N,show V-(V-p.fr) % p.aT-p.fr=(V-p.fr)-(V-p.fr) % p.aT by omega,aiE,ahu _ (ahA _),Int.sub_self,aiw]
  apply ai;simp[v,g2,f1,f2,f4,-ax,aZ (n:=V-p.fr),e_,<-N,aZ (n:=base)];obtain⟨k0,d_,p_,p9,o_⟩:=gA p.cg p.bF (V-base) ap q8;apply ai;simp[v,g2,f3,f4,-ax,aZ (n:=V-base),o_];refine ay ?_;refine dc (λm s=>∃(T0:T) (J:an) (ds:List Int) (base U:Int) (k:Nat),s=⟨T0,[],J⟩/\m=(hi-base).toNat+(if k=0 then 0 else 1)/\T0.g 0=.c (.yl b)/\T0.g 1=.c (.ptr bp 0 0)/\T0.g 4=vi k/\T0.g 8=vi base/\PP V ds J/\ud (SW p lo hi) U ds/\(∀d∈ds,SW p lo hi d)/\
   p.fr<=base/\(base-p.fr) % p.aT=0/\base<=U/\U<=base+p.aT/\V<=U/\k<=p.bF.length/\(∀(j:Nat) (h:j<p.bF.length),j<k->base+p.bF[j]<U)/\(∀(j:Nat) (h:j<p.bF.length),k<=j->U<=base+p.bF[j])/\(k=0\/base<=1099511627776)/\base<=4398046511104) ((hi-base).toNat+(if k0=0 then 0 else 1))
   ⟨_,J2,ds,base,V,k0,rfl,rfl,by simp[X],by simp[v],bv,bv,d9,c_,y,ap,j6,ap,ap,ahw _,d_,λj h M=>by have:=p_ j h M;omega,λj h M=>by have:=p9 j h M;omega,ap,ap⟩ ?_
  clear c_ d9 j6 I N p_ p9 o_ e_ f1 f2 f3 f4 s2 e1 e2 e3 e4 e5;rintro m s ⟨t,J,ds,base,U,k,rfl,rfl,X,v,g4,g8,I,F,y,b1,b2,b3,b4,b5,Y,E,a,s7,b6⟩ ih;obtain⟨-,e1,e2,e3,e4,-⟩:=Z _ _ _ I;obtain⟨g3,n8⟩:=CN (H:=J) (g:=p.cg) (k:=k) (Km.Ord.cQ p.bF) (by simp[ints];omega) (by simp[ints];omega);rw[j_]at n8;refine ay ?_;apply au;apply ai;simp[v,g4,e3,-ax,n8,c9];refine bS (p.bF.drop k).length (λj t' J=>t'.g 0=.c (.yl b)/\t'.g 1=.c (.ptr bp 0 0)/\t'.g 8=vi base/\t'.g 61=.c (.f (sl g3 (ints (p.bF.drop k))))/\∃ds U,PP V ds J/\ud (SW p lo hi) U ds/\(∀d∈ds,SW p lo hi d)/\base<=U/\U<=base+p.aT/\V<=U/\(∀(i:Nat) (h:i<p.bF.length),i<k+j->base+p.bF[i]<U)/\(∀(i:Nat) (h:i<p.bF.length),k+j<=i->U<=base+p.bF[i])/\(0<j->base<hi)) (by rw[agF];omega) ce ce bv bv
   ⟨by simp[X],by simp[v],by simp[g8],bv,ds,U,I,F,y,b3,b4,b5,E,a,ap⟩ ?_ ?_
  .rintro j t' J M ⟨X,v,g8,g_,ds,U,I,F,y,b3,b4,b5,E,a,-⟩ ha i6 next
   have W:k+j<p.bF.length:=by rw[agF]at M;omega
   have a_:=λH:an=>bz (H:=H) (g:=g3) (rows:=ints (p.bF.drop k)) (sz:=1) (k:=.i64) (i:=(j:Int)) ap (by simpa[ints]using M);have b_:=λH:an=>dZ (H:=H) M;simp only[ah8,agD]at a_;have r6:(p.bF.drop k)[j]=p.bF[k+j]:=by rw[ahX]
   have j7:=q9 _ (IN W);have j9:=IN W;have o:=a (k+j) W (agn _);have x:∀(i:Nat) (h:i<p.bF.length),k+j+1<=i->p.bF[k+j]<p.bF[i]:=λi h hi=>agQ.1 q8 (k+j) i W h ap;have A:∀(i:Nat) (h:i<p.bF.length),i<k+j->p.bF[i]<p.bF[k+j]:=λi h hi=>agQ.1 q8 i (k+j) h W hi;obtain⟨c,j8⟩:=aI (p.bF[k+j]);rw[r6,<-j8]at b_;rw[<-j8]at j7 j9 o x A;have i9:bA p (base+c)=ae:=(Cn b1 b2 ap j7.2).2 j9;have K:∀d,U<=d->d<base+c->¬ SW p lo hi d:=λd h1 h2 B=>by
    have h3:=B.2.2;rw[show d=base+(d-base) by omega,Cn b1 b2 ap ap]at h3;obtain⟨i',S,e⟩:=agz h3;by_cases u:i'<k+j
    .have:=E i' S u;omega
    .by_cases u2:i'=k+j
     .subst u2;omega
     .have:=x i' S ap;omega
   refine ay ?_;apply ai;simp[ha,g_,a_,b_];by_cases w:base+c<hi
   .obtain⟨J',O,h_⟩:=hy V ds J (base+c) I ap w (λd L=>by have:=F.lt d L;omega) F.pw y;apply ai;simp[X,g8,aZ (n:=base+c),O.eq];refine bE bv ?_;have B:SW p lo hi (base+c):=⟨ap,w,i9⟩
    refine av (next _ _ ?_ (by simp[ha]) (by simp[i6]));refine⟨by simp[X],by simp[v],by simp[g8],by simp[g_],ds++[base+c],base+c+1,h_,F.more o K B,λd L=>?_,ap,ap,ap,λi' h S=>?_,λi' h S=>?_,λ_=>by omega⟩
    .rcases agl.1 L with q|q
     .exact y d q
     .rw[If]at q;rw[q];exact B
    .by_cases e:i'=k+j
     .subst e;omega
     .have:=A i' h ap;omega
    .have:=x i' h ap;omega
   .obtain⟨J',O,hR⟩:=hn V ds J (base+c) I ap ap;apply ai;simp[X,g8,aZ (n:=base+c),O.eq];refine aw bv ?_;exact az (hQ _ _ _ rfl rfl ⟨rfl,ds,.inr hR,F.pw,F.all λd L B=>by
     by_cases h:d<base+c
     .exact K d L h B
     .have:=B.2.1;omega⟩)
  .rintro t' J ⟨X,v,g8,g_,ds,U,I,F,y,b3,b4,b5,E,-,j5⟩ - -;have s_:k+(p.bF.drop k).length=p.bF.length:=by rw[agF];omega
   rw[s_]at E;obtain⟨-,e1,e2,e3,e4,-⟩:=Z _ _ _ I;have q_:ud (SW p lo hi) (base+p.aT) ds:=F.skip b4 λd h1 h2 B=>by
    have h3:=B.2.2;rw[show d=base+(d-base) by omega,Cn b1 b2 ap ap]at h3;obtain⟨i',S,e⟩:=agz h3;have:=E i' S S;omega
   have t8:base<=2199023255552:=by
    rcases s7 with rfl|h
    .have:=j5 (by rw[agF];omega);omega
    .omega
   apply ai;simp;refine aq (.inl rfl) ?_;simp[v,g8,e2,-ax,aZ (n:=base+p.aT)];refine av (ih ((hi-(base+p.aT)).toNat+0) _ ?_ ⟨_,J,ds,base+p.aT,base+p.aT,0,rfl,bv,by simp[X],by simp[v],bv,bv,I,q_,y,ap,?_,ahw _,ap,ap,ap,λj h M=>by omega,λj h M=>by have:=q9 _ (IN h);omega,.inl rfl,ap⟩)
   .by_cases d_:k=0
    .rw[bZ d_];have:=j5 (by rw[agF];omega);omega
    .rw[ct d_];omega
   .rw[show base+p.aT-p.fr=base-p.fr+p.aT by omega,Int.add_emod_right];exact b2
structure WQ(p:aO)(hi:Int)(tm:T)(st:dt)(pd:Option aE)(z:Int)(ds:List Int)(J:an):Prop where
 h1:J[1]?=aa (.box [.f (fi hi)] 0)
 bp:J[3]?=aa (.box [.f (sl p.hg (ints p.head)),.f (fi p.fr),.f (fi p.aT),.f (sl p.cg (ints p.bF))] 0)
 bl:J[4]?=aa (.box [.f (fi z)] 0)
 df:J[5]?=aa (.dQ ae)
 lp:J[6]?=aa (.lp na tm [P.nat 12] oY nD st pd 5)
 ls:∃c,J[2]?=aa (.box [c] 0)/\LR J c 1 (ints ds)/\∀i,bf c=aa i->6<i
theorem WQ.R7{p:aO}{hi:Int}{tm:T}{st st':dt}{d pd':Option aE}{z:Int}{ds:List Int}{J:an}(h:WQ p hi tm st d z ds J):WQ p hi tm st' pd' z ds (J.set 6 (.lp na tm [P.nat 12] oY nD st' pd' 5)):=by
 obtain⟨h1,h3,h4,h5,h6,c,h2,b,hc⟩:=h;refine⟨?_,?_,?_,?_,BY (aj h6),c,?_,b.set (λe=>by have:=hc 6 e;omega) _,hc⟩
 all_goals (rw[sh ap];assumption)
theorem WQ.low{p:aO}{hi:Int}{tm:T}{st:dt}{b:Option aE}{z:Int}{ds:List Int}{J:an}(h:WQ p hi tm st b z ds J)(d:Int):WQ p hi tm st b d ds (J.set 4 (.box [.f (fi d)] 0)):=by
 obtain⟨h1,h3,h4,h5,h6,c,h2,g,hc⟩:=h;refine⟨?_,?_,BY (aj h4),?_,?_,c,?_,g.set (λe=>by have:=hc 4 e;omega) _,hc⟩
 all_goals (rw[sh ap];assumption)
theorem tM{p:aO}{hi:Int}{tm:T}(I:tm.g 5=.c (.ptr 1 0 0))(K:tm.g 7=.c (.ptr 2 0 0)){z:Int}{ds:List Int}{J:an}(h:WQ p hi tm .ready ab z ds J)(n:Int)(M:n<hi->ds.length<=1000000) :
  ∃r H',Ev tab (.yield 6) [vi n] J r H'/\((n<hi/\r=vb ae/\WQ p hi tm .ready ab z (ds++[n]) H')\/(hi<=n/\r=vb ag/\WQ p hi tm .done (aa (.exit 0)) z ds H')):=by
 refine dw (tab:=tab) (b:=6) (args:=[vi n]) (H:=J) h.lp rfl λU l=>?_;refine aq (.inr rfl) ?_;simp;refine fP h.lp ?_;have d:=h.R7 (st':=.busy) (pd':=ab);generalize J.set 6 (.lp na tm [P.nat 12] oY nD .busy ab 5)=u at d ⊢;have Q:aV u ab (.c (.ptr 1 0 0))=aa (vi hi):=by simp[aV,aA,d.h1]
 obtain⟨c,A,L,B⟩:=d.ls;refine ay ?_;apply au;refine au (aq (.inr rfl) ?_);simp[I,Q,-ax];by_cases k:n<hi
 .refine aD ge (aR ?_);obtain⟨s,q,m,j,E,x,v⟩:=qG L (agK (M k) ce) n;have g:∀(i:Nat) y,i<=6->u[i]?=aa y->q[i]?=aa y:=λi y hi N=>x i y N λe=>by have:=B i e;omega
  have O:aV u ab (.c (.ptr 2 0 0))=aa (.c c):=by simp[aV,aA,A]
  have n2:=g 2 _ ap A;have S:cY q (.ptr 2 0 0) [s]=aa (q.set 2 (.box [s] 0)):=by simp[cY,n2,over]
  refine aq (.inr rfl) ?_;simp[K,O,-ax,m,S,-bw];have F:WQ p hi tm .busy ab z (ds++[n]) (q.set 2 (.box [s] 0)):=by
   have W:=aj (g 6 _ ap d.lp);refine⟨?_,?_,?_,?_,?_,s,BY (aj n2),j.set (j.bR n2) _,λi hi=>?_⟩
   .rw[sh ap];exact g 1 _ ap d.h1
   .rw[sh ap];exact g 3 _ ap d.bp
   .rw[sh ap];exact g 4 _ ap d.bl
   .rw[sh ap];exact g 5 _ ap d.df
   .rw[sh ap];exact g 6 _ ap d.lp
   .rcases v with e|e
    .rw[e]at hi;exact B i hi
    .rw[e]at hi;cases hi;have:=aj d.lp;omega
  exact av (cX (l _ _ _ _ _ _ _ _ _ _ rfl F.lp (.inl ⟨k,rfl,F.R7⟩)))
 .refine aw ge ?_;exact mT rfl (l _ _ _ _ _ _ _ _ _ _ rfl d.lp (.inr ⟨ap,rfl,d.R7⟩))
theorem Bv(p:aO)(U:cI p=ae)(S:p.head.length<=1000000)(M:p.bF.length<=1000000)(lo hi:Int)(l0:0<=lo)(l1:lo<=1099511627776)(hh:hi<=lo+1000000) :
  ∃L g,bg tab na [.a (p.row.map .f),vi lo,vi hi]=Eq (.c (.f (sl g (ints L))))/\L.Pairwise (· < ·)/\∀d,d∈L↔SW p lo hi d:=by
 obtain⟨r,⟨L,g,rfl,H,I⟩,h⟩:∃r,(∃L g,r=.c (.f (sl g (ints L)))/\L.Pairwise (· < ·)/\∀d,d∈L↔SW p lo hi d)/\bg tab na [.a (p.row.map .f),vi lo,vi hi] r:=by
  refine kH XQ rfl λQ t=>?_;apply ai;simp[aO.row];apply ai;simp;obtain⟨l,m⟩:=aI ([.box [.f (sl p.hg (ints p.head)),.f (fi p.fr),.f (fi p.aT),.f (sl p.cg (ints p.bF))] 0,.box [.f (fi hi)] 0,.box [.f .aJ] 0]:an);rw[<-m];have la:aV l (aa 4) (.c (.ptr 0 0 0))=aa (.a [.f (sl p.hg (ints p.head)),.f (fi p.fr),.f (fi p.aT),.f (sl p.cg (ints p.bF))]):=by rw[m];simp[aV,aA,aW]
  obtain⟨r0,H0,O,rfl,rfl⟩:=ID p lo l;simp only[aO.row,agm,agp]at O;have Z:l.length=3:=by rw[m];rfl
  rw[Z]at O;apply au;apply ai;simp[la,-ax,O.eq];refine ay ?_
  suffices go:∀tm:T,tm.g 5=.c (.ptr 1 0 0)->tm.g 7=.c (.ptr 2 0 0)->tm.g 11=.c (.cl pe [.ptr 3 0 0,.ptr 4 0 0])->WP tab na ab [.code NO,.inBlock 0,.code zN] ⟨tm,[],l++[.box [.f (sl p.hg (ints p.head)),.f (fi p.fr),.f (fi p.aT),.f (sl p.cg (ints p.bF))] 0,.box [.f (fi lo)] 0]⟩ Q by exact go _ bv bv bv
  intro tm a E B;obtain⟨k,v⟩:=aI (l++[.box [.f (sl p.hg (ints p.head)),.f (fi p.fr),.f (fi p.aT),.f (sl p.cg (ints p.bF))] 0,.box [.f (fi lo)] 0]++[.dQ ae,.lp na tm [P.nat 12] oY nD .ready ab 5]:an);have q0:WQ p hi tm .ready ab lo [] k:=by
   rw[v,m];refine⟨rfl,rfl,rfl,rfl,rfl,.f .aJ,rfl,?_,λi h=>by cases h⟩;exact LR.nil _ _
  obtain⟨r,H',he,rfl,ds,q,W,A⟩:=IE (b:=6) (bp:=3) (bl:=4) p U S M lo hi l0 l1 ap (PP:=λz ds J=>WQ p hi tm .ready ab z ds J) (RR:=λds J=>∃z,WQ p hi tm .done (aa (.exit 0)) z ds J)
   (λz ds J h=>⟨h.bp,h.bl⟩) (λz z' ds J h=>h.low z')
   (λz ds J n h a_ hn b_ U w=>by
    have y:ds.length<=1000000:=by
     have:=fj ds lo (hi-lo) U λx hx=>by have:=w x hx;unfold SW at this;omega
     omega
    obtain⟨r,H',s,Y⟩:=tM a E h n λ_=>y;rcases Y with⟨_,rfl,X⟩|⟨F,_,_⟩
    .exact⟨H',s,X⟩
    .omega)
   (λz ds J n h hn _=>by
    obtain⟨r,H',s,Y⟩:=tM a E h n λh=>by omega
    rcases Y with⟨F,_,_⟩|⟨_,rfl,X⟩
    .omega
    .exact⟨H',s,z,X⟩)
   q0
  have j:(l++[bO.box [.f (sl p.hg (ints p.head)),.f (fi p.fr),.f (fi p.aT),.f (sl p.cg (ints p.bF))] 0,.box [.f (fi lo)] 0]).length=5:=by simp[Z]
  have N:Ev tab (.fn pe) [.c (.yl ((l++[bO.box [.f (sl p.hg (ints p.head)),.f (fi p.fr),.f (fi p.aT),.f (sl p.cg (ints p.bF))] 0,.box [.f (fi lo)] 0]).length+1)),.c (.ptr 3 0 0),.c (.ptr 4 0 0)] (l++[bO.box [.f (sl p.hg (ints p.head)),.f (fi p.fr),.f (fi p.aT),.f (sl p.cg (ints p.bF))] 0,.box [.f (fi lo)] 0]++[.dQ ae,.lp na tm [P.nat 12] oY nD .ready ab (l++[bO.box [.f (sl p.hg (ints p.head)),.f (fi p.fr),.f (fi p.aT),.f (sl p.cg (ints p.bF))] 0,.box [.f (fi lo)] 0]).length]) (.t []) H':=by
   rw[j,<-v];exact he
  refine dK (g:=pe) (by rw[oi,B];simp[cr]) N ?_;rw[j];have u:∀(J:an) (st:dt) (f:Option aE) (z:Int),WQ p hi tm st f z ds J->WP tab na ab [.code zN] ⟨tm,[.dY 5],J⟩ Q:=by
   intro J st f z h;obtain⟨c,F,o,hc⟩:=h.ls;have l2:aV J ab (.c (.ptr 2 0 0))=aa (.c c):=by simp[aV,aA,F]
   have K:=o.set (λe=>by have:=hc 5 e;omega) (.dQ ag);obtain⟨g,hg⟩:=K.ex (Km.Ord.cQ _) 63;apply ai;simp[E,l2,-ax];refine az (t _ _ _ ⟨ds,g,rfl,W,A⟩ (.inr ⟨5,rfl,h.df,.c c,?_,?_⟩))
   .exact dy bv
   .simp[jh,deep,hg]
  rcases q with⟨z,h⟩|⟨z,h⟩
  .refine ew h.lp ce (av (u _ _ _ z h.R7))
  .refine oy h.lp ce (bJ rfl (u _ _ _ z h.R7))
 exact⟨L,g,h.eq,H,I⟩
theorem GB{x y:Int}(h:x<=y)(b:x≠y):x<y:=by omega
theorem Cd{l:List Int}(g:l.Pairwise (·<=·)){i j:Nat}(b:i<j)(d:j<l.length):(l[i]'(by omega))<=l[j]:=agQ.1 g i j ap d b
theorem LV{l:List Int}{j:Nat}{x:Int}(b:l[j]?=aa x):(ints l)[j]?=aa [fi x]:=by simp[ints,b]
theorem AM(l:List Int):(ints l).length=l.length:=by simp[ints]
theorem LY(l:List Int)(j:Nat)(x:Int):(ints l).set j [fi x]=ints (l.set j x):=by simp[ints,List.map_set]
theorem CE{H:an}{b d:Nat}{l:List Int}(h:RB H b 1 d (ints l)){j:Nat}{x:Int}(g:l[j]?=aa x):aV H ab (.c (.ptr b j d))=aa (vi x):=by
 have:=h.ldc (Km.Ord.cQ l) (LV g) (k:=0) rfl;simpa using this
theorem DJ{H:an}{b A:Nat}{l:List Int}(hl:l.length<=1000000)(hs:l.Pairwise (·<=·))(F:RB H b 1 A (ints l)) :
  ∃r H',Ev tab (.fn BN) [.c (.sl b 0 l.length 0 A 1)] H r H'/\
   (∃l' R:List Int,r=.c (.sl b 0 l'.length 0 A 1)/\Fm b H H'/\RB H' b 1 A (ints (l'++R))/\l'.length<=l.length/\l'.Pairwise (· < ·)/\∀x,x∈l'↔x∈l):=by
 refine de rfl rfl λQ hQ=>?_;apply ai;simp;apply au;apply ai;simp[F.len];by_cases h2:l.length<2
 .refine aw ge ?_;apply ai;simp;refine az (hQ _ _ _ rfl (dy bv) ⟨l,[],rfl,Fm.refl _,by simpa using F,agn _,?_,λ_=>Iff.rfl⟩)
  match l,h2 with
  |[],_=>exact List.Pairwise.nil| [x],_=>exact ahs _ _| x::y::r,h=>simp at h;omega
 refine aD ge (aR ?_);apply au;apply ai;simp;refine ay ?_;refine dc (λn s=>∃(k:Nat) (t:T),s=⟨t,[],H⟩/\n=l.length-k/\1<=k/\k<=l.length/\t.g 0=.c (.sl b 0 l.length 0 A 1)/\t.g 3=vi k/\(l.take k).Pairwise (· < ·)) (l.length-1)
  ⟨1,_,rfl,rfl,ap,ap,bv,bv,?_⟩ ?_
 .cases l with
  |nil=>simp| cons x r=>simp
 rintro n s ⟨k,t,rfl,rfl,j5,j6,B,E,hp⟩ ih;apply au;apply ai;simp[B,E,F.len];by_cases u:k<l.length
 case neg=>
  refine aD (by simp[u]) ?_;refine bJ (k':=[.code tZ]) rfl ?_;apply ai;simp[B];refine az (hQ _ _ _ rfl (dy bv) ⟨l,[],rfl,Fm.refl _,by simpa using F,agn _,?_,λ_=>Iff.rfl⟩);rwa[List.take_of_length_le ap]at hp
 refine aw (by simp[u]) (aR ?_);obtain⟨m,rfl⟩:∃m,k=m+1:=⟨k-1,ap⟩
 have ix:∀{H:an} {rows:List (List FC)} (F:RB H b 1 A rows) (o n i:Nat) (hi:i<n),bG H 1 ab (.c (.sl b o n 0 A 1)) (vi i)=aa (.c (.ptr b (o+i) A)):=by
  intro H rows F o n i hi;have:=F.idx (n:=n) (c:=0) (k:=.i64) (o:=o) (i:=(i:Int)) ap ap;rwa[agD,ah8]at this
 have i1:=ix F 0 l.length (m+1) u;have i0:=ix F 0 l.length m ap;have l1:=CE F (j:=m+1) (By u);have l0:=CE F (j:=m) (By (show m<l.length by omega));rw[ahg]at i1 i0;have c1:((m+1:Nat):Int)-1=m:=by omega
 rw[show((m+1:Nat):Int)=(m:Int)+1 by omega]at i1;have e_:l.take (m+1+1)=l.take (m+1)++[l[m+1]]:=by rw[agv,By u];rfl
 apply au;refine ay ?_;apply ai;simp[B,E,i1,i0,l1,l0,-ax,aZ (n:=(m:Int))];by_cases hc:¬ l[m+1]=l[m]
 .
  refine aD (by simp[hc]) (aR (av ?_));refine aq (.inl rfl) ?_;simp[E,aZ (n:=(m:Int)+1+1)];refine ih (l.length-(m+2)) _ ap ⟨m+2,_,rfl,rfl,ap,ap,by simp[B],ge,?_⟩;show(l.take (m+1+1)).Pairwise (· < ·);have M:l[m]≠l[m+1]:=λe=>hc e.symm;rw[e_,aho];refine⟨hp,ahs _ _,λy hy z hz=>?_⟩;obtain rfl:=If.1 hz;obtain⟨i,hi,rfl⟩:=agz hy;have i_:i<m+1:=by simp at hi;omega
  rw[List.getElem_take];by_cases e:i=m
  .subst e;exact GB (Cd hs ap u) M
  .exact Int.lt_trans (b:=l[m]) (by
    have h1:=agQ.1 hp i m ge ge ap;simpa using h1) (GB (Cd hs ap u) M)
 .
  have d9:l[m+1]=l[m]:=Classical.not_not.1 hc;have c2:((m+1:Nat):Int)=(m:Int)+1:=by omega
  have N:=F.oI (k:=m+1) u;rw[c2]at N;refine aw (by simp[d9]) ?_;apply ai;simp[B,E,N];apply au;apply ai;simp;refine ay ?_;refine dc (λn s=>∃(i:Nat) (t:T) (I:an) (P R:List Int),s=⟨t,[],I⟩/\n=l.length-(m+2+i)/\m+2+i<=l.length/\t.g 0=.c (.sl b 0 l.length 0 A 1)/\t.g 3=vi P.length/\t.g 4=.c (.sl b (m+1) (l.length-(m+1)) 0 A 1)/\t.g 5=vi ((i:Int)+1)/\
   Fm b H I/\RB I b 1 A (ints (P++R))/\(P++R).length=l.length/\1<=P.length/\P.length<=m+1+i/\(∀q,m+1+i<=q->(P++R)[q]?=l[q]?)/\P.Pairwise (· < ·)/\∀x,x∈P↔x∈l.take (m+2+i)) (l.length-(m+2))
   ⟨0,_,H,l.take (m+1),l.drop (m+1),rfl,rfl,ap,by simp[B],by simp[E];omega,bv,bv,Fm.refl _,by simpa using F,bv,ge,ge,bv,hp,λx=>?_⟩ ?_
  .show x∈l.take (m+1)↔x∈l.take (m+1+1);rw[e_,agl,If];refine⟨.inl,λh=>h.elim id λe=>?_⟩;rw[e,d9];exact ahe.2 ⟨m,ap,rfl⟩
  rintro n s ⟨i,t,I,P,R,rfl,rfl,hi,B,E,U,W,J,d,v,X,f_,hq,L,g⟩ i9;have Z:=d.len (o:=(m+1)) (l:=l.length-(m+1)) (c:=0);apply au;apply ai;simp[U,W,Z];by_cases K:m+2+i<l.length
  case neg=>
   have c_:m+2+i=l.length:=by omega
   refine aD ge ?_;refine bJ (k':=[.code Aa,.inBlock 1,.code Ab,.inLoop zZ,.inBlock 0,.code tZ]) rfl ?_;have b_:P.length<l.length:=by omega
   obtain⟨H3,c9,a_,h_⟩:=d.clr (Km.Ord.cQ _) (zs:=[fi 0]) (by simpa using v) b_ rfl;rw[ah8]at c9;have N:=d.oI b_;apply ai;simp[B,E,N,c9];have i8:=a_.EY (n:=l.length) (k:=P.length) ap ap;apply ai;simp[B,E,i8];have e3:(ints (P++R)).take P.length++List.replicate (l.length-P.length) [fi 0]=ints (P++List.replicate (l.length-P.length) 0):=by
    simp[ints]
   rw[e3]at a_;refine az (hQ _ _ _ rfl (dy bv) ⟨P,_,rfl,J.trans h_,a_,ap,L,λx=>?_⟩);rw[g,c_,agu]
  have ha:(P++R)[m+2+i]?=aa l[m+2+i]:=by rw[hq _ ap,By K]
  have g_:(P++R)[m+1+i]?=aa (l[m+1+i]'(by omega)):=by rw[hq _ ap,By]
  have j1:=ix d (m+1) (l.length-(m+1)) (i+1) ap;have j0:=ix d (m+1) (l.length-(m+1)) i ap;rw[show m+1+(i+1)=m+2+i by omega,show((i+1:Nat):Int)=(i:Int)+1 by omega]at j1;rw[show m+1+i=m+1+i by omega]at j0;have d1:=CE d ha;have d0:=CE d g_;refine aw ge (aR ?_);apply au;refine ay ?_;apply ai;simp[U,W,j1,j0,d1,d0,-ax,aZ (n:=(i:Int))];have S:l.take (m+2+(i+1))=l.take (m+2+i)++[l[m+2+i]]:=by
   rw[show m+2+(i+1)=m+2+i+1 by omega,agv,By K];rfl
  have next:∀(t:T) (I:an) (P R:List Int),t.g 0=.c (.sl b 0 l.length 0 A 1)->t.g 3=vi P.length->t.g 4=.c (.sl b (m+1) (l.length-(m+1)) 0 A 1)->t.g 5=vi ((i:Int)+1)->
    Fm b H I->RB I b 1 A (ints (P++R))->(P++R).length=l.length->1<=P.length->P.length<=m+2+i->(∀q,m+2+i<=q->(P++R)[q]?=l[q]?)->P.Pairwise (· < ·)->(∀x,x∈P↔x∈l.take (m+2+(i+1)))->
    WP tab BN ab [.inBlock 3,.code Kv,.inLoop Ku,.inBlock 2,.code Aa,.inBlock 1,.code Ab,.inLoop zZ,.inBlock 0,.code tZ] ⟨t,[],I⟩ Q:=by
   intro t I P R B E U W J d v X f_ hq L g;refine av (aq (.inl rfl) ?_);simp[W,aZ (n:=(i:Int)+1+1)];exact i9 (l.length-(m+2+(i+1))) _ ap ⟨i+1,_,I,P,R,rfl,rfl,ap,by simp[B],by simp[E],by simp[U],bv,J,d,v,X,ap,λq h=>hq q ap,L,g⟩
  have i6:(l[m+1+i]'(by omega))<=l[m+2+i]:=Cd hs ap K;by_cases Y:¬ l[m+2+i]=l[m+1+i]
  .have M:l[m+1+i]≠l[m+2+i]:=λe=>Y e.symm;have d_:=GB i6 M;have kx:=ix d 0 l.length P.length ap;rw[ahg]at kx;obtain⟨H3,s3,r3,f3,-⟩:=d.str (Km.Ord.cQ _) (j:=P.length) (by rw[AM,v];omega) (row:=[fi l[m+2+i]]) rfl;rw[LY]at r3;rw[ah8]at s3;obtain⟨x0,R',rfl⟩:∃x0 R',R=x0::R':=by
    cases R with
    |nil=>simp at v;omega| cons x0 R'=>exact⟨_,_,rfl⟩
   rw[wP]at r3;refine aw (by simp[Y]) ?_;apply ai;simp only[agm,agp]at s3;simp[B,E,U,W,j1,d1,kx,s3,-ax,-bw];refine aq (.inl rfl) ?_;simp[E,aZ (n:=(P.length:Int)+1)];have e5:P++l[m+2+i]::R'=(P++[l[m+2+i]])++R':=by simp
   rw[e5]at r3;refine next _ H3 (P++[l[m+2+i]]) R' (by simp[B]) bv (by simp[U]) (by simp[W]) (J.trans f3) r3 (by simpa using v) bv ge (λq h=>?_) ?_ λx=>?_
   .rw[<-e5,<-wP P x0,sh ap];exact hq q ap
   .rw[aho];refine⟨L,ahs _ _,λy hy z hz=>?_⟩;obtain rfl:=If.1 hz;obtain⟨q,i7,rfl⟩:=agz ((g y).1 hy);have j7:q<m+2+i:=by simp at i7;omega
    rw[List.getElem_take];by_cases e:q=m+1+i
    .subst e;exact d_
    .have h1:=Cd hs (i:=q) (j:=m+1+i) ap ap;omega
   .rw[S,agl,agl,g]
  .have O:l[m+2+i]=l[m+1+i]:=Classical.not_not.1 Y;refine bE (by simp[O]) ?_;refine next _ I P R (by simp[B]) (by simp[E]) (by simp[U]) (by simp[W]) J d v X ap (λq h=>hq q ap) L λx=>?_
   rw[S,agl,If,g];refine⟨.inl,λh=>h.elim id λe=>?_⟩;rw[e,O];exact ahe.2 ⟨m+1+i,ap,rfl⟩
def CR(H:an)(c:C)(l:List Int):Prop:=(l=[]/\(c=.f .aJ\/c=.f .es))\/(l≠[]/\∃b d R fl,c=.sl b 0 l.length 0 d 1/\H[b]?=aa (.dj 1 ((l++R).map λn=>.f (fi n)) fl d .loc))
theorem GG(l:List Int):(ints l).flatten.map C.f=l.map λn=>.f (fi n):=by
 induction l with
 |nil=>rfl| cons a l b=>simp only[ints,agm,agG,ahl]at b ⊢;rw[b];rfl
theorem nL(l:List Int):(ints l).flatten=l.map fi:=by
 induction l with
 |nil=>rfl| cons a l b=>simp only[ints,agm,agG]at b ⊢;rw[b];rfl
theorem VF{l:List Int}(h:l≠[])(g:Tg):sl g (ints l)=.fs (l.map fi) l.length:=by
 have:ints l≠[]:=by intro e;apply h;have:=congrArg List.length e;simpa[ints]using this
 rw[<-nL];cases l with
 |nil=>exact absurd rfl h| cons a l=>simp[sl,ints]
theorem B0(c:C)(d:c=.f .aJ\/c=.f .es)(H:an):∃r H',Ev tab (.fn BN) [.c c] H r H'/\(r=.c c/\H'=H):=by
 have g:bh H c=aa 0:=by rcases d with rfl|rfl<;>rfl
 refine de rfl rfl λQ b=>?_;apply ai;simp;apply au;apply ai;simp[g];refine aw bv ?_;apply ai;simp;exact az (b _ _ _ rfl (dy bv) ⟨rfl,rfl⟩)
theorem Gk{H:an}{c:C}{l:List Int}(F:l.length<=1000000)(I:l.Pairwise (·<=·))(h:LR H c 1 (ints l)) :
  ∃j H' d,Ev tab (.fn BN) [.c c] H (.c j) H'/\CR H' j d/\Kb H H' c/\(bf j=bf c)/\d.length<=l.length/\d.Pairwise (· < ·)/\∀x,x∈d↔x∈l:=by
 rcases h with⟨m,v⟩|⟨s,b,y,rfl,z⟩
 .have m:l=[]:=by
   cases l with
   |nil=>rfl| cons a l=>simp[ints]at m
  subst m;obtain⟨r,H',q,rfl,rfl⟩:=B0 c v H;exact⟨c,H',[],q,.inl ⟨rfl,v⟩,Kb.refl _ _,rfl,agn _,List.Pairwise.nil,λ_=>Iff.rfl⟩
 .rw[AM];obtain⟨r,H',q,d,R,rfl,E,g,A,B,u⟩:=DJ F I z;refine⟨_,H',d,q,.inr ⟨λe=>?_,b,y,R,0,rfl,?_⟩,Kb.acO E,rfl,A,B,u⟩
  .subst e;cases l with
   |nil=>simp[ints]at s| cons a l=>have:=(u a).2 ago;simp at this
  .unfold RB at g;rw[g,GG]
theorem CR.ex{H:an}{c:C}{l:List Int}(h:CR H c l):∃g,∀n,fh (n+1) H c=aa (sl g (ints l)):=by
 rcases h with⟨rfl,rfl|rfl⟩|⟨hl,b,d,R,fl,rfl,h2⟩
 .exact⟨.nil,λ_=>rfl⟩
 .exact⟨.es,λ_=>rfl⟩
 .refine⟨.fs,λn=>?_⟩;simp only[gT,h2];rw[bZ ⟨trivial,trivial,bv⟩,List.drop_zero,ah8];have:((l++R).map λn=>C.f (fi n)).take l.length=(l.map fi).map .f:=by simp
  rw[this,lu,VF hl];rfl
theorem CR.mk{H:an}{c:C}{l:List Int}(h:CR H c l)(n:Nat):CR (ef (n+1) c H) c l/\∀(i:Nat) (y:bO),H[i]?=aa y->bf c≠aa i->(ef (n+1) c H)[i]?=aa y:=by
 rcases h with⟨rfl,rfl|rfl⟩|⟨hl,b,d,R,fl,rfl,h2⟩
 .exact⟨.inl ⟨rfl,.inl rfl⟩,λi y hy _=>hy⟩
 .exact⟨.inl ⟨rfl,.inr rfl⟩,λi y hy _=>hy⟩
 .have e:ef (n+1) (.sl b 0 l.length 0 d 1) H=H.set b (.dj 1 ((l++R).map λn=>.f (fi n)) (Nat.max fl (0+l.length*1)) d .loc):=by
   simp only[jL,h2];rw[ju];intro x g;have g:=ahd (ahn g);obtain⟨m,_,rfl⟩:=agt.1 g;exact⟨_,rfl⟩
  rw[e];refine⟨.inr ⟨hl,b,d,R,_,rfl,BY (aj h2)⟩,λi y hy hi=>?_⟩;rw[sh (by rintro rfl;exact hi rfl)];exact hy
def VR(H:an)(c:C)(b:Option Nat)(m:List Int):Prop:=∀H':an,(∀i y,b=aa i->H[i]?=aa y->H'[i]?=aa y)->bh H' c=aa m.length/\∀(k:Nat) (h:k<m.length),∃p,bG H' 1 ab (.c c) (vi k)=aa (.c p)/\aV H' ab (.c p)=aa (vi m[k])
theorem CR.cut{H:an}{c:C}{l:List Int}(h:CR H c l){i:Nat}(hi:i<=l.length):∃g m q,Bl H 1 (.c c) (vi i) (vi i)=aa (.c (.f (sl g (ints (l.take i)))),m)/\(∀H':an,(∀j y,bf c=aa j->m[j]?=aa y->H'[j]?=aa y)->cu H' 1 (.c c) (aa (vi i)) ab ab=aa (.c q))/\(∀j y,H[j]?=aa y->bf c≠aa j->m[j]?=aa y)/\m.length=H.length/\VR m q (bf c) (l.drop i):=by
 rcases h with⟨rfl,hc⟩|⟨hl,b,x,R,fl,rfl,h2⟩
 .have d:i=0:=by simpa using hi
  subst d;rcases hc with rfl|rfl
  .exact⟨.nil,H,.f .aJ,rfl,λ_ _=>rfl,λ_ _ h _=>h,rfl,λH' _=>⟨rfl,λk h=>by simp at h⟩⟩
  .exact⟨.es,H,.f .es,rfl,λ_ _=>rfl,λ_ _ h _=>h,rfl,λH' _=>⟨rfl,λk h=>by simp at h⟩⟩
 .have z:cz l.length l.length ab (aa (vi i)) (aa (vi i))=aa (0,i,i):=by simp[cz,gS hi,gS (agn i)]
  have A:cz l.length l.length (aa (vi i)) ab ab=aa (i,l.length,l.length):=by simp[cz,gS hi]
  have J:∀(m:an) (fl:Nat),m[b]?=aa (.dj 1 ((l++R).map λn=>.f (fi n)) fl x .loc)->∃q,(∀H':an,(∀j y,aa b=aa j->m[j]?=aa y->H'[j]?=aa y)->cu H' 1 (.c (.sl b 0 l.length 0 x 1)) (aa (vi i)) ab ab=aa (.c q))/\VR m q (aa b) (l.drop i):=λm fl h2=>by
   by_cases s:i=l.length
   .refine⟨.f (.fs [] 0),λH' u=>?_,λH' _=>⟨by rw[s,ahK];rfl,λk h=>by rw[s,ahK]at h;simp at h⟩⟩;have:0<l.length:=agV.2 hl;have h2:=u b _ rfl h2;simp only[cu,h2,and_self,if_true,A];simp[s,this]
   .refine⟨.sl b i (l.length-i) 0 x 1,λH' u=>?_,λH' u=>?_⟩
    .have h2:=u b _ rfl h2;simp only[cu,h2,and_self,if_true,A];simp[s]
    .have v:=u b _ rfl h2;refine⟨by simp[bh,v],λk h=>⟨.ptr b (i+k) x,?_,?_⟩⟩
     .have u:k<l.length-i:=by simpa using h
      simp[bG,show fG (vi k)=aa (k:Int) from rfl,v,u]
     .have u:i+k<l.length:=by simp at h;omega
      simp only[aV,aA,v,if_true,Option.bind_some];rw[ags ge];have F:((l++R).map λn=>C.f (fi n))[i+k]'(by simp;omega)=.f (fi l[i+k]):=by
       rw[aib,List.getElem_append_left u]
      rw[F];simp[aW]
  by_cases d:i=0
  .subst d;obtain⟨q,B,E⟩:=J H fl h2;refine⟨.es,H,q,?_,B,λ_ _ h _=>h,rfl,E⟩;simp only[Bl,cu,h2,and_self,if_true,z];simp[sl,ints,Tg.fc]
  .have I:l.take i≠[]:=by
    intro e;have:=congrArg List.length e;simp at this;rcases this with h|h
    .exact d h
    .exact hl h
   obtain⟨q,B,E⟩:=J (H.set b (.dj 1 ((l++R).map λn=>.f (fi n)) (Nat.max fl (i*1)) x .loc)) _ (BY (aj h2));refine⟨.fs,_,q,?_,B,λj y hy K=>?_,bv,E⟩
   .have M:cu H 1 (.c (.sl b 0 l.length 0 x 1)) ab (aa (vi i)) (aa (vi i))=ab:=by
     simp only[cu,h2,and_self,if_true,z];simp[d]
    have L:bu fcC (((l++R).map λn=>C.f (fi n)).take (i*1))=aa ((l.take i).map fi):=by
     have:((l++R).map λn=>C.f (fi n)).take (i*1)=((l.take i).map fi).map .f:=by
      rw[ah8,<-List.map_take,List.take_append_of_le_length hi,List.map_map];rfl
     rw[this];generalize (l.take i).map fi=w;induction w with
     |nil=>rfl| cons a w N=>simp only[agm,bu,fcC,N]
    simp only[Bl,M,h2,and_self,if_true,gS hi];rw[bZ ⟨trivial,ap,ge⟩,L,VF I];simp[ahQ hi]
   .rw[sh (by rintro rfl;exact K rfl)];exact hy
theorem pP{p:aO}(j:1<=p.aT){d d':Int}(g:p.fr<=d)(b:p.fr<=d')(h:p.aT ∣ d'-d):bA p d'=bA p d:=by
 unfold bA;rw[bZ g,bZ b];have:(d'-p.fr) % p.aT=(d-p.fr) % p.aT:=by
  rw[show d'-p.fr=(d'-d)+(d-p.fr) by omega,aiV,aiF h,Int.zero_add,ahu _ (ahA _)]
 rw[this]
theorem Zo(f:Bool->Bool->Bool){l m:aO}(X:cI l=ae)(Y:cI m=ae){st P:Int}(w:st=max l.fr m.fr)(H:BS l.aT m.aT P)(t:st<=1000000)(W:P<=1000000){L:List Int}(B:L.Pairwise (· < ·))(s:∀d,d∈L↔0<=d/\d<st+P/\f (bA l d) (bA m d)=ae)(U:L.length<=1000000)
  {i:Nat} (A:∀j (h:j<L.length),j<i->L[j]<st) (z:∀j (h:j<L.length),i<=j->st<=L[j]) (M K:Tg) :
  cI ⟨M,L.take i,st,P,K,(L.drop i).map (· - st)⟩=ae/\∀d,0<=d->bA ⟨M,L.take i,st,P,K,(L.drop i).map (· - st)⟩ d=f (bA l d) (bA m d):=by
 obtain⟨q1,q2,q3,q4,-⟩:=bC X;obtain⟨w1,w2,w3,w4,-⟩:=bC Y;have I:=H.pos;have E:∀x∈L.take i,x∈L/\x<st:=λx g=>by
  obtain⟨j,u,rfl⟩:=ahe.1 g;exact⟨IN _,A j ap ap⟩
 have q:∀x,x∈L.drop i↔x∈L/\st<=x:=λx=>by
  constructor
  .intro g;obtain⟨j,u,rfl⟩:=agz g;rw[ahX];exact⟨IN _,z _ _ ap⟩
  .rintro⟨g,t⟩;obtain⟨j,u,rfl⟩:=agz g;have a:i<=j:=by
    rcases ahj j i with k|k
    .have:=A j u k;omega
    .exact k
   exact agU (i:=j-i) (by rw[ahk,show i+(j-i)=j by omega,By u])
 refine⟨tz (by show 0<=st;omega) (by show st<=_;omega) (by show 1<=P;omega) (by show P<=_;omega) (by show(L.take i).length+((L.drop i).map (· - st)).length<=_;simp;omega) (B.sublist (List.take_sublist _ _)) (λx g=>?_) ?_ (λx g=>?_),λd Z=>?_⟩
 .have:=E x g;exact⟨((s x).1 this.1).1,this.2⟩
 .show((L.drop i).map (· - st)).Pairwise (· < ·);rw[ahW];exact aif (λh=>by omega) (B.sublist (aiT i L))
 .have g:x∈(L.drop i).map (· - st):=g;obtain⟨y,J,rfl⟩:=agt.1 g;obtain⟨F,S⟩:=(q y).1 J;have:=(s y).1 F;exact⟨ap,by show y-st<P;omega⟩
 .unfold bA;simp only;by_cases k:st<=d
  .rw[bZ k];have o:=agW (d-st) (show P≠0 by omega);have r:=agL (d-st) I;have v:P ∣ d-(st+(d-st) % P):=by
    rw[show d-(st+(d-st) % P)=(d-st)-(d-st) % P by omega];exact Int.dvd_self_sub_emod
   have N:=pP (p:=l) q3 (d:=st+(d-st) % P) (d':=d) ap ap (ag0 H.da v);have O:=pP (p:=m) w3 (d:=st+(d-st) % P) (d':=d) ap ap (ag0 H.db v);have Q:(d-st) % P∈(L.drop i).map (· - st)↔f (bA l d) (bA m d)=ae:=by
    rw[agt,N,O];constructor
    .rintro⟨y,J,e⟩;obtain⟨F,S⟩:=(q y).1 J;have:=((s y).1 F).2.2;rw[show st+(d-st) % P=y by omega];exact this
    .intro h;exact⟨st+(d-st) % P,(q _).2 ⟨(s _).2 ⟨ap,ap,h⟩,ap⟩,ap⟩
   have b:decide ((d-st) % P∈(L.drop i).map (· - st))=f (bA l d) (bA m d):=by
    rw[Bool.eq_iff_iff,decide_eq_true_eq];exact Q
   unfold bA at b;exact b
  .rw[ct k];have b:decide (d∈L.take i)=f (bA l d) (bA m d):=by
    rw[Bool.eq_iff_iff,decide_eq_true_eq];constructor
    .intro h;exact((s d).1 (E d h).1).2.2
    .intro h;have n:=(s d).2 ⟨Z,ap,h⟩;obtain⟨j,u,rfl⟩:=agz n;have c:j<i:=by
      rcases ahj j i with k|k'
      .exact k
      .have:=z j u k';omega
     exact ahe.2 ⟨j,ap,rfl⟩
   unfold bA at b;exact b
structure jG(N:Int)(p:aO):Prop where
 ok:cI p=ae
 fr:p.fr<=100000
 aT:p.aT ∣ 27720
 bd:p.aT<=N
theorem jG.le{N:Int}{p:aO}(h:jG N p):p.aT<=27720:=agZ ce h.aT
theorem jG.head{N:Int}{p:aO}(h:jG N p):p.head.length<=100000:=by
 obtain⟨j,l,m,q,s,d,g,u,v⟩:=bC h.ok;have:=fj p.head 0 p.fr d λx b=>by have:=g x b;omega
 have:=h.fr;omega
theorem jG.bF{N:Int}{p:aO}(h:jG N p):p.bF.length<=27720:=by
 obtain⟨j,l,m,q,s,u,v,d,g⟩:=bC h.ok;have:=fj p.bF 0 p.aT d λx b=>by have:=g x b;omega
 have:=h.le;omega
structure OQ(J5:an)(bo:Nat)(hd:FC)(st P:Int)(cq:C)(ni:List Int)(J:an):Prop where
 kp:∀i:Nat,i<J5.length->i≠bo->J[i]?=J5[i]?
 bx:J[bo]?=aa (.box [.f hd,.f (fi st),.f (fi P),cq] 0)
 lq:LR J cq 1 (ints ni)
 qb:∀i,bf cq=aa i->J5.length<=i
 hl:J5.length<=J.length
theorem OQ.app{u:an}{j:Nat}{hd:FC}{st P:Int}{y:C}{ni:List Int}{J:an}(h:OQ u j hd st P y ni J)(A:j<u.length)(hl:ni.length<=1000000)(n:Int) :
  ∃b g,bT (J++[.box [.f (fi n)] 0]) 1 8 (.c y) (.c (.sl J.length 0 1 1 0 1))=aa (.c b,g)/\cY g (.ptr j 3 0) [b]=aa (g.set j (.box [.f hd,.f (fi st),.f (fi P),b] 0))/\OQ u j hd st P b (ni++[n]) (g.set j (.box [.f hd,.f (fi st),.f (fi P),b] 0)):=by
 obtain⟨b,g,m,l,z,q,v⟩:=qG h.lq ap n;have B:=h.hl;have d:=q _ _ h.bx (h.lq.bR h.bx);refine⟨b,g,m,by simp[cY,d,over],λi hi s=>?_,BY (aj d),l.set (l.bR d) _,λi hi=>?_,by rw[agx];omega⟩
 .rw[sh (Ne.symm s),<-h.kp i hi s];have x:i<J.length:=by omega
  have hy:J[i]?=aa J[i]:=By x;rw[hy];exact q i _ hy λe=>by have:=h.qb i e;omega
 .rcases v with e|e
  .rw[e]at hi;exact h.qb i hi
  .rw[e]at hi;cases hi;omega
theorem Ct(f:Bool->Bool->Bool){a b qa qb:aO}(ha:cI qa=ae)(hb:cI qb=ae){st P R:Int}(t7:st=max qa.fr qb.fr)(hP:BS qa.aT qb.aT P)(hs:st<=100000)(x6:P<=27720)(m9:P ∣ R)(y8:st<=max a.fr b.fr)(s7:∀d,0<=d->f (bA qa d) (bA qb d)=f (bA a d) (bA b d))
  {J:an} {c cx cy:C} {L:List Int} {g:Int} {m bp:Nat} (hL:LR J c 1 (ints L)) (l_:L.length<=1000000) (g_:∀d,d∈L↔0<=d/\d<st+P/\f (bA qa d) (bA qb d)=ae) (j2:J[2]?=aa (.box [.f .aJ,.f (fi 0),.f (fi 0),.f .aJ] 0)) (jp:J[bp]?=aa (.box (cL qa qb st cx cy g m) 0)) (x9:bp≠2)
  {t:T} (g6:t.g 6=.c (.ptr 2 0 0)) (M:t.g 8=.c (.ptr bp 0 0)) (g9:t.g 9=vi P) (d9:t.g 16=.c c) {Q:Option aE->St->Prop}
  (hQ:∀j s r,(∃q,cI q=ae/\q.fr<=max a.fr b.fr/\q.aT ∣ R/\(∀d,0<=d->bA q d=f (bA a d) (bA b d))/\r=.t [.a (q.row.map .f),vi 0])->px [.cell (Km.P.nat 6) (aa 4),.tmp (Km.P.nat 7)] r s->Q j s) :
  WP tab ue ab [.code zL] ⟨t,[],J⟩ Q:=by
 obtain⟨q1,q2,q3,q4,-⟩:=bC ha;have y7:=hP.pos;obtain⟨r,J1,c9,rfl,e_,l2,k_,u,r7⟩:=Sb hL ap;apply ai;simp[d9,c9.eq];have x_:l2.length<=1000000:=by rw[u.length_eq];exact l_
 obtain⟨c',J2,l,a_,X,f_,A,y6,S,i_⟩:=Gk ap r7 k_;apply ai;simp[d9,a_.eq];have w_:∀(i:Nat) y,J[i]?=aa y->bf c≠aa i->J2[i]?=aa y:=λi y H hn=>f_.2 i y (e_.2 i y H hn) hn;obtain⟨gx,b_⟩:=X.ex;have b_:=b_ 63;obtain⟨N,r5⟩:=X.mk 63;obtain⟨i,hi,r_,i7,n8⟩:=gA gx l st ap S;have kk:∀k cs fl,J[k]?=aa (bO.box cs fl)->J2[k]?=aa (bO.box cs fl)/\(ef 64 c' J2)[k]?=aa (bO.box cs fl):=λk cs fl B=>by
  have h1:=w_ k _ B (hL.bR B);exact⟨h1,r5 k _ h1 (by rw[A];exact hL.bR B)⟩
 obtain⟨J3,Y⟩:=aI (ef 64 c' J2);rw[<-Y]at kk N;have L2:=qF (kk bp _ _ jp).1;apply ai;simp[M,L2.ni,-ax,b_,deep,n8,<-Y];obtain⟨U,J4,c2,j5,t6,r6,r9,j9⟩:=N.cut hi;have c_:∀k cs fl,J[k]?=aa (bO.box cs fl)->J4[k]?=aa (bO.box cs fl):=λk cs fl B=>r6 k _ (kk k cs fl B).2 (by rw[A];exact hL.bR B);have L3:=qF (kk bp _ _ jp).2;have L4:=qF (c_ bp _ _ jp);refine au (eF (.inl rfl) ?_ ?_)
 case refine_2=>
  intro cc o_;have n_:cc=(5,3):=by simpa using o_
  subst n_;refine⟨ce,_,rfl,.inr ⟨ce,?_⟩⟩;simp[M,j5,L3.ni,L4.ni,-ax,gj,uz]
 simp[M,g9,j5,L4.ni,-ax];obtain⟨K,Z⟩:=aI (J4.length);obtain⟨I,F⟩:=aI (J4++[bO.box [.f (sl U (ints (l.take i))),.f (fi st),.f (fi P),.f .aJ] 0]);have k5:∀(k:Nat) y,J4[k]?=aa y->I[k]?=aa y:=λk y B=>by rw[F,AI (aj B)];exact B
 have b5:I[K]?=aa (.box [.f (sl U (ints (l.take i))),.f (fi st),.f (fi P),.f .aJ] 0):=by rw[F,Z];simp
 have l5:I.length=K+1:=by rw[F];simp[Z]
 rw[<-F,<-Z];have j6:=t6 I λj y _ H=>k5 j y H;have t8:=j9 I λj y _ H=>k5 j y H;have n9:∀j,bf c'=aa j->j<K:=λj hj=>by
  rw[A]at hj;have h1:=hL.lt hj;have h2:=e_.1;have h3:=f_.1;have h4:J3.length=J2.length:=by
   rw[Y];rcases X with⟨-,rfl|rfl⟩|⟨-,b,ep,R,fl,rfl,h2⟩
   .rfl
   .rfl
   .simp only[jL,h2];rw[ju]
    .simp
    .intro x hx;have hx:=ahd (ahn hx);obtain⟨m,_,rfl⟩:=agt.1 hx;exact⟨_,rfl⟩
  omega
 have q0:OQ I K (sl U (ints (l.take i))) st P (.f .aJ) [] I:=⟨λ_ _ _=>rfl,b5,by simpa[ints]using LR.nil _ _,λ_ h=>(by cases h),agn _⟩
 apply au;apply ai;simp[j6,t8.1];refine bS (l.drop i).length (λj t J=>t.g 6=.c (.ptr 2 0 0)/\t.g 8=.c (.ptr bp 0 0)/\t.g 19=.c (.ptr K 0 0)/\t.g 149=.c c2/\∃cq,OQ I K (sl U (ints (l.take i))) st P cq (((l.drop i).take j).map (· - st)) J) (by rw[agF];omega) ce ce bv bv
  ⟨by simp[g6],by simp[M],bv,bv,.f .aJ,by simpa using q0⟩ ?_ ?_
 .rintro j t J' hj ⟨g6,M,E,z,cq,v⟩ h_ m_ next
  have t_:=(j9 J' λk y B H=>by
   have:=n9 k B;rw[v.kp k ap ap];exact k5 k y H).2 j hj
  obtain⟨p,p_,i9⟩:=t_;have j8:(l.drop i).take (j+1)=(l.drop i).take j++[(l.drop i)[j]]:=by rw[agv,By hj];rfl
  have i8:i+j<l.length:=by rw[agF]at hj;omega
  have u9:st<=(l.drop i)[j]/\(l.drop i)[j]<st+P:=by
   rw[ahX];exact⟨i7 _ i8 ap,((g_ _).1 (u.mem_iff.1 ((i_ _).1 (IN i8)))).2.1⟩
  obtain⟨x,hx⟩:=aI ((l.drop i)[j]);rw[<-hx]at i9 j8 u9;have q_:J'[bp]?=aa (.box (cL qa qb st cx cy g m) 0):=by
   have h4:=c_ bp _ _ jp;have:=aj h4;rw[v.kp bp ap ap];exact k5 bp _ h4
  have LJ:=qF q_;have v_:aV J' ab (.c (.ptr K 3 0))=aa (.c cq):=by simp[aV,aA,v.bx]
  obtain⟨c3,H3,i6,j7,s_⟩:=v.app ap (by rw[agq,agO];omega) (x-st);refine ay ?_;apply ai;simp[h_,z,p_,i9,-ax];refine aq (.inl rfl) ?_;simp[M,E,v_,LJ.ni,-ax,aZ (n:=x-st),i6,j7,-bw];refine av (next _ _ ?_ (by simp[h_]) (by simp[m_]));refine⟨by simp[g6],by simp[M],by simp[E],by simp[z],c3,?_⟩;rw[j8];simpa using s_
 .rintro t J' ⟨g6,M,E,z,cq,v⟩ - -;rw[agu]at v;obtain⟨W,hW⟩:=aI ((l.drop i).map (· - st));have x8:W.length<=1000000:=by rw[hW];simp;omega
  rw[<-hW]at v;obtain⟨gc,p9⟩:=v.lq.ZZ (Km.Ord.cQ _);have x3:=p9 J' 63 (λi y H _=>H);obtain⟨o1,o2⟩:=Zo f ha hb t7 hP ap ap S (λd=>by rw[i_,u.mem_iff];exact g_ d) ap r_ i7 U gc;rw[<-hW]at o1 o2;obtain⟨q,⟨d1,d2,d3,d4⟩,-,-,O⟩:=pC ⟨U,l.take i,st,P,gc,W⟩ o1 (by show W.length<=_;omega) (by show(l.take i).length<=_;simp;omega);simp only[aO.row,agm,agp]at O d2 d3;have u_:aV J' (aa 4) (.c (.ptr K 0 0))=aa (.a [.f (sl U (ints (l.take i))),.f (fi st),.f (fi P),cq]):=by simp[aV,aA,v.bx,aW]
  have u3:=Q7 v.lq;simp only[deep]at u3;have j_:J'[2]?=aa (.box [.f .aJ,.f (fi 0),.f (fi 0),.f .aJ] 0):=by
   have h4:=c_ 2 _ _ j2;have:=aj h4;rw[v.kp 2 ap ap];exact k5 2 _ h4
  have w2:=u3 2 _ j_ (v.lq.bR j_);obtain⟨JM,d_⟩:=aI (ef 64 cq J');rw[<-d_]at w2;have t2:cY JM (.ptr 2 0 0) [.f (sl q.hg (ints q.head)),.f (fi q.fr),.f (fi q.aT),.f (sl q.cg (ints q.bF))]=aa (JM.set 2 (.box [.f (sl q.hg (ints q.head)),.f (fi q.fr),.f (fi q.aT),.f (sl q.cg (ints q.bF))] 0)):=by simp[cY,w2,over]
  have n2:(JM.set 2 (.box [.f (sl q.hg (ints q.head)),.f (fi q.fr),.f (fi q.aT),.f (sl q.cg (ints q.bF))] 0))[2]?=aa (.box [.f (sl q.hg (ints q.head)),.f (fi q.fr),.f (fi q.aT),.f (sl q.cg (ints q.bF))] 0):=BY (aj w2);apply ai;simp[g6,E,u_,-ax,x3,deep,O,<-d_,t2,-bw];refine az (hQ _ _ _ ⟨q,d1,ap,ag0 d3 m9,λd hd=>?_,rfl⟩ ⟨rfl,.t [.a [.f (sl q.hg (ints q.head)),.f (fi q.fr),.f (fi q.aT),.f (sl q.cg (ints q.bF))],vi 0],?_,?_⟩)
  .rw[d4 d hd,o2 d hd,s7 d hd]
  .simp[Km.results,cC,bu,g6,n2,aW]
  .simp[aO.row,jh,dq,bu]
theorem TP{X Y:List Int}{g:Int}{l:List (Int × C)}{v y:C}{m N:Nat}(B d:aO)(st:Int){H:an}(h:PH H N X Y g l v y m)(F:0<g)(J:0<=d.aT)(S:d.aT<=1000000)(x:Int)(K:0<=x)(O:Y.length<=1000000) :
  ∃r H',Ev tab (.fn Xc) [.a (cL B d st v y g m),vi x] H r H'/\(r=vb (decide (((ie g Y (x % g)).length:Int)=d.aT / g))/\(∀i:Nat,i<H.length->H'[i]?=H[i]?)/\H.length<=H'.length):=by
 refine de rfl rfl λQ I=>?_;apply ai;simp[cL];obtain⟨b0,q⟩:=aI (H.length);obtain⟨j,b⟩:=aI (H++[.box (cL B d st v y g m) 0]:an);have a0:j[b0]?=aa (.box (cL B d st v y g m) 0):=by rw[b,q];simp
 have E:∀i:Nat,i<H.length->j[i]?=H[i]?:=λi hi=>by rw[b,AI ap]
 have M:j.length=H.length+1:=by rw[b];simp
 unfold cL at b;rw[<-b,<-q];have h:=h.bH E;have L:=qF a0;have u:cT .rem (vi x) (vi g)=aa (vi (x % g)):=gQ K F;have s:cT .quo (vi d.aT) (vi g)=aa (vi (d.aT / g)):=e9 J F ap;have z:=h.ok.look h.mp (x % g);have A:bh j (pD l (x % g))=aa (ie g Y (x % g)).length:=by have:=(h.ok.lr (x % g)).len;simpa[ints]using this
 apply ai;simp[L.lm,L.lg,L.lbp,u,s,-ax,iv,z,A];exact az (I _ _ _ rfl (dy bv) ⟨rfl,E,by show H.length<=j.length;omega⟩)
theorem DU(f:Int->Bool):∀l:List Int,l.length=(l.filter f).length+(l.filter λx=>!f x).length
 |[]=>rfl
 |a::l=>by
  have:=DU f l;simp only[List.filter_cons];cases f a<;>simp<;>omega
theorem Yo{l:List Int}{k:Int}(m:l.Pairwise (· < ·))(j:∀x∈l,0<=x/\x<k)(y:(l.length:Int)=k){v:Int}(v0:0<=v)(z:v<k):v∈l:=by
 refine Decidable.byContradiction λq=>?_;have s:=fj (l.filter λx=>decide (x<v)) 0 v (List.Pairwise.filter _ m) λx d=>by
  have b:=agT.1 d;have:=j x b.1;have g:=of_decide_eq_true b.2;omega
 have b:=fj (l.filter λx=>!decide (x<v)) (v+1) (k-v-1) (List.Pairwise.filter _ m) λx d=>by
  have b:=agT.1 d;have:=j x b.1;have g:¬ x<v:=by simpa using b.2
  have u:x≠v:=λe=>q (e▸b.1);omega
 have g:l.length=(l.filter λx=>decide (x<v)).length+(l.filter λx=>!decide (x<v)).length:=DU _ l;omega
theorem Gh{Y:List Int}{m g r:Int}(B:0<g)(M:g ∣ m)(I:Y.Pairwise (· < ·))(K:∀y∈Y,0<=y/\y<m)(L:((ie g Y r).length:Int)=m / g){y:Int}(z:0<=y)(A:y<m)(O:y % g=r):y∈Y:=by
 have d:∀a,a∈ie g Y r->a∈Y/\a % g=r:=λa j=>by have:=agT.1 j;exact⟨this.1,by simpa using this.2⟩
 have E:((ie g Y r).map (· / g)).Pairwise (· < ·):=by
  rw[ahW];refine aij (λ{a b} j q J=>?_) (List.Pairwise.filter _ I);have s:=agB a g;have u:=agB b g;have v:=(d a j).2;have Q:=(d b q).2;have H:g*(a / g)<g*(b / g):=by omega
  exact Int.lt_of_mul_lt_mul_left H ap
 have l:∀a,0<=a->a<m->0<=a / g/\a / g<m / g:=λa a0 a1=>⟨aha a0 ap,by
  obtain⟨k,rfl⟩:=M;rw[ahD _ ap];exact Int.ediv_lt_of_lt_mul B (by rw[ahB];exact a1)⟩
 have F:=Yo E (λx N=>by
  obtain⟨a,j,rfl⟩:=agt.1 N;have:=K a (d a j).1;exact l a this.1 this.2) (by rw[agq];exact L) (l y z A).1 (l y z A).2
 obtain⟨a,j,e⟩:=agt.1 F;have s:=agB a g;have u:=agB y g;have v:=(d a j).2;have:a=y:=by rw[<-s,<-u,v,O,e]
 exact this▸(d a j).1
theorem T4{O d:aO}(I:cI d=ae){st g:Int}{F H:C}{m b0:Nat}{J:an}(K:J[b0]?=aa (.box (cL O d st F H g m) 0)){c:C}{L:List Int}(v:LR J c 1 (ints L))(S:L.length<=1000000)(n:Int)(N:0<=n)(n1:Day n) :
  ∃r H',Ev tab (.fn od) [.c c,vi n,.c (.ptr b0 0 0)] J r H'/\∃j,r=.c j/\LR H' j 1 (ints (if bA d n then L else L++[n]))/\J.length<=H'.length/\(∀(i:Nat) y,J[i]?=aa y->bf c≠aa i->H'[i]?=aa y)/\(bf j=bf c\/bf j=aa (J.length+1)):=by
 have B:=uJ d I n N n1;simp only[aO.row,agm,agp]at B;have LJ:=qF K;refine de rfl rfl λQ x=>?_;apply ai;simp;apply au;apply ai;simp[LJ.lb,-ax,B];cases z:bA d n with
 |true=>
  refine aw bv ?_;apply ai;simp;exact az (x _ _ (.c c) rfl (dy bv) ⟨c,rfl,by simpa[z]using v,agn _,λi y M _=>M,.inl rfl⟩)
 |false=>
  obtain⟨u,E,b,l,A,s,q⟩:=qG v ap n;refine bE bv ?_;apply ai;simp[b];exact az (x _ _ (.c u) rfl (dy bv) ⟨u,rfl,by simpa[z]using l,by show J.length<=E.length;omega,s,q⟩)
structure WT(H:an)(qa qb:aO)(st g:Int)(cx cy:C)(m:Nat)(L:List Int)(J:an):Prop where
 kp:∀i:Nat,i<H.length->J[i]?=H[i]?
 b0:J[H.length]?=aa (.box (cL qa qb st cx cy g m) 0)
 b1:J[H.length+1]?=aa (.box [.cl od [.ptr H.length 0 0]] 0)
 ls:∃c,J[H.length+2]?=aa (.box [c] 0)/\LR J c 1 (ints L)/\∀i,bf c=aa i->H.length+6<i
 hl:H.length+6<J.length
theorem WT.bH{H:an}{x qb:aO}(hb:cI qb=ae){st g:Int}{s u:C}{m:Nat}{L:List Int}{J:an}(h:WT H x qb st g s u m L J)(hl:L.length<=1000000)(n:Int)(F:0<=n)(n1:Day n) :
  ∃c b H',aV J ab (.c (.ptr (H.length+2) 0 0))=aa (.c c)/\Ev tab (.fn od) [.c c,vi n,.c (.ptr H.length 0 0)] J (.c b) H'/\cY H' (.ptr (H.length+2) 0 0) [b]=aa (H'.set (H.length+2) (.box [b] 0))/\
   WT H x qb st g s u m (if bA qb n then L else L++[n]) (H'.set (H.length+2) (.box [b] 0))/\(∀(i:Nat) y,i<=H.length+6->i≠H.length+2->J[i]?=aa y->(H'.set (H.length+2) (.box [b] 0))[i]?=aa y):=by
 obtain⟨c,h2,z,hc⟩:=h.ls;obtain⟨r,H',A,b,rfl,l,v,B,q⟩:=T4 hb h.b0 z hl n F n1;have I:=h.hl;have up:∀(i:Nat) y,i<=H.length+6->J[i]?=aa y->H'[i]?=aa y:=λi y hi hy=>B i y hy λe=>by have:=hc i e;omega
 have j:=up _ _ ap h2;have d:∀(i:Nat) y,i<=H.length+6->i≠H.length+2->J[i]?=aa y->(H'.set (H.length+2) (.box [b] 0))[i]?=aa y:=λi y hi E hy=>by
  rw[sh (Ne.symm E)];exact up i y hi hy
 refine⟨c,b,H',by simp[aV,aA,h2],A,by simp[cY,j,over],⟨λi hi=>?_,d _ _ ap ap h.b0,d _ _ ap ap h.b1,⟨b,BY (aj j),l.set (l.bR j) _,λi hi=>?_⟩,?_⟩,d⟩
 .rw[<-h.kp i hi];have hy:J[i]?=aa J[i]:=By ap;rw[hy];exact d i _ ap ap hy
 .rcases q with e|e
  .rw[e]at hi;exact hc i hi
  .rw[e]at hi;cases hi;omega
 .rw[agx];omega
structure WO(H:an)(qa qb:aO)(st g:Int)(cx cy:C)(m:Nat)(tm:T)(ls:dt)(pd:Option aE)(z:Int)(L:List Int)(J:an):Prop where
 wt:WT H qa qb st g cx cy m L J
 b3:J[H.length+3]?=aa (.box [.f (sl qa.hg (ints qa.head)),.f (fi qa.fr),.f (fi qa.aT),.f (sl qa.cg (ints qa.bF))] 0)
 b4:J[H.length+4]?=aa (.box [.f (fi z)] 0)
 df:J[H.length+5]?=aa (.dQ ae)
 lp:J[H.length+6]?=aa (.lp mZ tm [P.nat 15] nB nC ls pd (H.length+5))
theorem WT.set{H:an}{l qb:aO}{st g:Int}{d j:C}{m:Nat}{L:List Int}{J:an}(h:WT H l qb st g d j m L J){k:Nat}(h1:H.length+3<=k)(h2:k<=H.length+6)(y:bO):WT H l qb st g d j m L (J.set k y):=by
 obtain⟨a1,s,a3,⟨c,a4,a5,b⟩,q⟩:=h;refine⟨λi hi=>?_,?_,?_,⟨c,?_,a5.set (λe=>by have:=b _ e;omega) _,b⟩,by rw[agx];exact q⟩
 .rw[sh ap];exact a1 i hi
 all_goals (rw[sh ap];assumption)
theorem WO.R7{H:an}{j qb:aO}{st g:Int}{b d:C}{m:Nat}{tm:T}{ls ls':dt}{l pd':Option aE}{z:Int}{L:List Int}{J:an}(h:WO H j qb st g b d m tm ls l z L J) :
  WO H j qb st g b d m tm ls' pd' z L (J.set (H.length+6) (.lp mZ tm [P.nat 15] nB nC ls' pd' (H.length+5))):=by
 obtain⟨h1,h3,h4,h5,h6⟩:=h;refine⟨h1.set ap ap _,?_,?_,?_,BY (aj h6)⟩
 all_goals (rw[sh ap];assumption)
theorem WO.low{H:an}{l qb:aO}{st g:Int}{b d:C}{m:Nat}{tm:T}{ls:dt}{j:Option aE}{z:Int}{L:List Int}{J:an}(h:WO H l qb st g b d m tm ls j z L J)(q:Int):WO H l qb st g b d m tm ls j q L (J.set (H.length+4) (.box [.f (fi q)] 0)):=by
 obtain⟨h1,h3,h4,h5,h6⟩:=h;refine⟨h1.set ap ap _,?_,BY (aj h4),?_,?_⟩
 all_goals (rw[sh ap];assumption)
theorem rv{H:an}{v l:aO}(Q:cI l=ae){st g:Int}{s u:C}{m:Nat}{tm:T}(M:tm.g 2=.c (.ptr H.length 0 0))(N:tm.g 5=.c (.ptr (H.length+1) 0 0))(O:tm.g 6=.c (.ptr (H.length+2) 0 0)){z:Int}{L:List Int}{J:an}(h:WO H v l st g s u m tm .ready ab z L J)(n:Int)(W:0<=n)(n1:n<st->Day n)(S:n<st->L.length<=1000000) :
  ∃r H',Ev tab (.yield (H.length+6)) [vi n] J r H'/\((n<st/\r=vb ae/\WO H v l st g s u m tm .ready ab z (if bA l n then L else L++[n]) H')\/(st<=n/\r=vb ag/\WO H v l st g s u m tm .done (aa (.exit 0)) z L H')):=by
 refine dw (tab:=tab) (b:=H.length+6) (args:=[vi n]) (H:=J) h.lp rfl λX q=>?_;refine aq (.inr rfl) ?_;simp;refine fP h.lp ?_;have d:=h.R7 (ls':=.busy) (pd':=ab);generalize J.set (H.length+6) (.lp mZ tm [P.nat 15] nB nC .busy ab (H.length+5))=I at d ⊢;have LJ:=qF d.wt.b0;refine ay ?_;apply au;refine au (aq (.inr rfl) ?_);simp[M,LJ.ni,-ax];by_cases k:n<st
 .refine aD ge (aR ?_);obtain⟨c,K,F,y,x,A,B,j⟩:=d.wt.bH Q (S k) n W (n1 k);have U:aV I ab (.c (.ptr (H.length+1) 0 0))=aa (.c (.cl od [.ptr H.length 0 0])):=by simp[aV,aA,d.wt.b1]
  refine aq (.inr rfl) ?_;simp[N,O,U,y,-ax,cr,x.eq,A,-bw];have E:WO H v l st g s u m tm .busy ab z (if bA l n then L else L++[n]) (F.set (H.length+2) (.box [K] 0)):=⟨B,j _ _ ap ap d.b3,j _ _ ap ap d.b4,j _ _ ap ap d.df,j _ _ ap ap d.lp⟩
  exact av (cX (q _ _ _ _ _ _ _ _ _ _ rfl E.lp (.inl ⟨k,rfl,E.R7⟩)))
 .refine aw ge ?_;exact mT rfl (q _ _ _ _ _ _ _ _ _ _ rfl d.lp (.inr ⟨ap,rfl,d.R7⟩))
end Go.Proofs.YtelifakcllijpaaGreat
