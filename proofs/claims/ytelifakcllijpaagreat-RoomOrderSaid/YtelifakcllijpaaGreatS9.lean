/-
  Dh the iC gK and the gl answer, for all arguments of their kind, in the small machine: part 9.
-/
import Derived.Test.YtelifakcllijpaaGreatS8
import Derived.Test.YtelifakcllijpaaGreatS4
import Derived.Test.YtelifakcllijpaaGreatS5
import Derived.Test.YtelifakcllijpaaGreatK3
import Derived.Test.YtelifakcllijpaaGreatS2
import Derived.Test.YtelifakcllijpaaGreatS3
import Derived.Test.YtelifakcllijpaaGreatK4
import Derived.Test.YtelifakcllijpaaGreatS6
import Derived.Test.YtelifakcllijpaaGreatProg
open Option renaming some->aa,none->ab
open Bool renaming true->ae,false->ag
open Go.IntKind renaming wrap->ah
open List renaming mem_cons_self->ago, mem_singleton->If, getElem?_map->ahp, getElem?_append_left->AI, length_set->agx, getElem?_set_ne->sh, getElem?_set_self->BY, map_cons->agm, map_nil->agp, length_append->aft, getElem?_append_right->agj, take_of_length_le->agw, cons_append->ahJ, mem_cons_of_mem->agr, mem_append->agl, append_nil->agN, take_add_one->agv, getElem?_eq_getElem->By, getElem_mem->IN, take_length->agu, drop_eq_getElem_cons->ags, drop_length->ahK, length_map->agq, length_filter_le->ahb, pairwise_cons->ahm, mem_cons->agA, mem_map->agt, mem_filter->agT, length_cons->agP, pairwise_map->ahW, not_mem_nil->ahG, mem_of_mem_take->ahn, length_take->agO, map_append->ahl, filter_sublist->aix, append_assoc->agM
open Nat renaming le_refl->agn, le_trans->agK
open Int renaming toNat_natCast->agD, dvd_refl->ahA, le_trans->ag5, le_of_dvd->agZ, dvd_trans->ag0
open Bool renaming and_eq_true->IS
open List.Pairwise renaming imp->aif, sublist->aiN, imp_of_mem->aij
open Option.some renaming inj->aiy
set_option linter.unusedVariables false
set_option linter.constructorNameAsVariable false
set_option linter.unusedSimpArgs false
set_option linter.unusedSectionVars false
set_option linter.unnecessarySimpa false
set_option maxRecDepth 100000
set_option maxHeartbeats 2000000
namespace Go.Proofs.YtelifakcllijpaaGreat
open Go Km
def MY(d b:a8)(s:aG)(X Y:aC)(f:Bool):List Int:=if f then [15,s.meet,X.day,ri (X.fr+d.fg),ri (X.to-d.gN),Y.day,ri (Y.fr+b.fg),ri (Y.to-b.gN)]else [15,s.meet,0,0,0,0,0,0]
theorem Ir(d b:a8)(s:aG)(X Y:aC)(f:Bool):(MY d b s X Y f).length=8:=by unfold MY;split<;>rfl
structure S9(H:an)(cd:List FC)(own:aH)(J:an):Prop where
 k:Kp H J
 h1:J[H.length]?=aa (.box [.f (.fp cd 0)] 0)
 h2:J[H.length+1]?=aa (.box (([0,0,0,0,0,0,0,0]:List Int).map λn=>.f (fi n)) 0)
 h3:J[H.length+2]?=aa (.box [.f (fi 0)] 0)
 h4:J[H.length+3]?=aa (.box (own.row.map .f) 0)
 h5:J[H.length+4]?=aa (.box [.f (.bool ae)] 0)
 cl:eI [H.length+5] J
theorem S9.bH{H:an}{j:List FC}{g:aH}{J J':an}(h:S9 H j g J)(hl:J.length<=J'.length)(d:∀i:Nat,i<J.length->i≠H.length+6->J'[i]?=J[i]?):S9 H j g J':=by
 have l:=aj (h.cl.on _ ago);have m:=h.k.1;refine⟨⟨ap,λb hb=>by rw[d b ap ap];exact h.k.2 b hb⟩,?_,?_,?_,?_,?_,⟨h.cl.nd,λi hi=>?_⟩⟩
 .rw[d _ ap ap];exact h.h1
 .rw[d _ ap ap];exact h.h2
 .rw[d _ ap ap];exact h.h3
 .rw[d _ ap ap];exact h.h4
 .rw[d _ ap ap];exact h.h5
 .rw[If.1 hi,d _ ap ap];exact h.cl.on _ ago
structure ClT(N:Nat)(t:T):Prop where
 g1:t.g 1=.c (.ptr N 0 0)
 g2:t.g 2=.c (.ptr (N+1) 0 0)
 g3:t.g 3=.c (.ptr (N+2) 0 0)
 g4:t.g 4=.c (.ptr (N+3) 0 0)
 g5:t.g 5=.c (.ptr (N+4) 0 0)
theorem uZ{J:an}{b:Nat}{o:aH}(h:J[b]?=aa (.box (o.row.map .f) 0)):aV J (aa 3) (.c (.ptr b 0 0))=aa (.a (o.row.map .f)):=by
 have:(o.row.map C.f).length=3:=rfl;simp[aV,aA,h,aW,this,aH.row]
theorem DI(gr:Tg){M:List a8}{hh:Bool}(ht:js M hh)(sd:FC)(x:aG)(x0:0<=x.room)(x1:x.room<=2){F:a8}(t_:M[x.room.toNat]?=aa F)(s:aG)(s0:0<=s.room)(s1:s.room<=2){y:a8}(t8:M[s.room.toNat]?=aa y)(A o:aH)
  (ho:bg tab ug [.c (.f (sl gr (rows M))),.a (s.row.map .f)]=Eq (.t [.a (o.row.map .f),vb ae]))
  (m:Bool) (hm:bg tab jg [.a (A.row.map .f),.a (o.row.map .f)]=Eq (.t [vb m,vi 0]))
  (X Y:aC) (fd:Bool) (hf:bg tab fq [.a (A.row.map .f),.a (o.row.map .f),vi (-2251799813685248)]=Eq (.t [.a (X.row.map .f),.a (Y.row.map .f),vb fd]))
  {H J:an} {tm:T} (l:ClT H.length tm) (hq:S9 H ([sl gr (rows M),sd]++x.row) A J)
  (h6:J[H.length+6]?=aa (.lp hZ tm [P.nat 41] iM gJ .ready ab (H.length+5))) :
  ∃(r:Bool) (J':an),Ev tab (.yield (H.length+6)) [.a (s.row.map .f)] J (vb r) J'/\(if r then(s.meet=x.meet\/m=ag)/\S9 H ([sl gr (rows M),sd]++x.row) A J'/\J'[H.length+6]?=J[H.length+6]? else
   ¬ (s.meet=x.meet\/m=ag)/\Kp H J'/\J'[H.length+1]?=aa (.box ((MY F y s X Y fd).map λn=>.f (fi n)) 0)/\J'[H.length+2]?=aa (.box [.f (fi 0)] 0)/\eI [H.length+5] J'/\
    J'[H.length+6]?=aa (.lp hZ tm [P.nat 41] iM gJ .done (aa .ret) (H.length+5))):=by
 obtain⟨N,hN⟩:=aI (H.length);have z:=sM gr ht sd x x0 x1 t_;have s_:=t8;have y7:=gI ht;have b_:=λH:an=>bz (H:=H) (g:=gr) (rows:=rows M) (sz:=15) (k:=.i64) (i:=s.room) s0 ge;have i_:=λH:an=>cf (H:=H) (fv M) (j:=s.room.toNat) (row:=y.row) (by rw[rows,ahp,s_];rfl);have j8:=Bi F X;have j9:=Bi y Y;obtain⟨cd,i9⟩:=aI ([sl gr (rows M),sd]++x.row);have l0:∀K:an,aV K ab (.c (.f (.fp cd 0)))=aa (.c (.f (sl gr (rows M)))):=λK=>by rw[i9];rfl
 have l2:∀K:an,aV K ab (.c (.f (.fp cd 2)))=aa (vi x.meet):=λK=>by rw[i9];rfl
 simp only[fW]at z;rw[<-i9]at z hq ⊢;obtain⟨rm,w_⟩:=aI (sl gr (rows M));change ∀H:an,bG H 15 ab (.c (.f (sl gr (rows M)))) (vi s.room)=_ at b_;change ∀H:an,aV H (aa 15) (.c (.f (.fp (rows M).flatten _)))=_ at i_;rw[<-w_]at l0 b_ ho;obtain⟨rx,x8⟩:=aI (F.row);obtain⟨y_,x6⟩:=aI (y.row);rw[<-x8]at z j8;rw[<-x6]at i_ j9;obtain⟨row,c_⟩:=aI (s.row);have v_:row.length=7:=by rw[c_];rfl
 rw[<-c_]at ho ⊢;obtain⟨ow,m9⟩:=aI (A.row);obtain⟨oo,j6⟩:=aI (o.row);have u_:oo.length=3:=by rw[j6];rfl
 obtain⟨xx,n_⟩:=aI (X.row);obtain⟨yy,p9⟩:=aI (Y.row);have n9:xx.length=3:=by rw[n_];rfl
 have o_:yy.length=3:=by rw[p9];rfl
 rw[<-j6]at ho hm hf;rw[<-m9]at hm hf;rw[<-n_]at hf j8;rw[<-p9]at hf j9;obtain⟨LP,s7⟩:∃LP:dt->Option aE->bO,LP=λst pd=>.lp hZ tm [P.nat 41] iM gJ st pd (N+5):=⟨_,rfl⟩
 rw[<-hN]at h6 l ⊢;have cond:∃q:Bool,(q=ae↔(s.meet=x.meet\/m=ag)):=⟨decide (s.meet=x.meet\/m=ag),bv⟩
 obtain⟨q,c9⟩:=cond;refine⟨q,?_⟩;obtain⟨r,J',u9,rfl,h⟩:∃r J',Ev tab (.yield (N+6)) [.a (row.map .f)] J r J'/\(r=vb q/\(if q then S9 H cd A J'/\J'[N+6]?=J[N+6]? else
   Kp H J'/\J'[N+1]?=aa (.box ((MY F y s X Y fd).map λn=>.f (fi n)) 0)/\J'[N+2]?=aa (.box [.f (fi 0)] 0)/\eI [N+5] J'/\
    J'[N+6]?=aa (.lp hZ tm [P.nat 41] iM gJ .done (aa .ret) (N+5)))):=by
  have r_:=h6;refine dw (tab:=tab) (b:=N+6) (args:=[.a (row.map .f)]) (H:=J) h6 rfl λQ' l_=>?_;obtain⟨b6,i8⟩:=aI (J.length);have l6:=aj h6;refine aq (.inr rfl) ?_;simp[v_];rw[<-i8];obtain⟨J1,d9⟩:=aI (J++[bO.box (row.map .f) 0]);rw[<-d9];have k1:∀i:Nat,i<J.length->J1[i]?=J[i]?:=λi hi=>by rw[d9,AI hi]
  have d1:J1[b6]?=aa (.box (row.map .f) 0):=by rw[d9,i8];simp
  have n1:J1.length=b6+1:=by rw[d9,i8];simp
  have e6:=(k1 _ l6).trans h6;refine fP e6 ?_;obtain⟨v,I⟩:=aI (J1.set (N+6) (LP .busy ab));have n2:v.length=b6+1:=by rw[I,agx];exact n1
  have k2:∀i:Nat,i<J.length->i≠N+6->v[i]?=J[i]?:=λi hi j5=>by rw[I,sh (Ne.symm j5),k1 i hi]
  have q2:S9 H cd A v:=hq.bH ap λi hi j5=>k2 i hi ap;have d2:v[b6]?=aa (.box (row.map .f) 0):=by rw[I,sh ap];exact d1
  have f6:v[N+6]?=aa (LP .busy ab):=by rw[I];exact BY (aj e6)
  rw[s7]at I f6;rw[<-I];have i6:∀(t:T) (K:an),q=ae->v.length<=K.length->(∀i:Nat,i<v.length->K[i]?=v[i]?)->Q' ab ⟨t,[],K⟩:=by
   intro t K n8 hl L;have p6:K[N+6]?=aa (.lp hZ tm [P.nat 41] iM gJ .busy ab (N+5)):=by rw[L _ ap];exact f6
   refine l_ _ _ _ _ _ _ _ _ _ _ rfl p6 ⟨by rw[n8];rfl,?_⟩;rw[bZ n8];have n:K.length≥b6+1:=by omega
   refine⟨hq.bH (by show J.length<=(K.set _ _).length;rw[agx];omega) λi hi j5=>?_,?_⟩
   .rw[sh ap,L i ap,k2 i hi ap]
   .rw[BY (aj p6),r_];rfl
  have lc:∀K:an,v.length<=K.length->(∀i:Nat,i<v.length->K[i]?=v[i]?)->aV K ab (.c (.ptr N 0 0))=aa (.c (.f (.fp cd 0)))/\aV K ab (.c (.ptr (N+4) 0 0))=aa (vb ae)/\aV K (aa 3) (.c (.ptr (N+3) 0 0))=aa (.a (ow.map .f))/\aV K (aa 7) (.c (.ptr b6 0 0))=aa (.a (row.map .f))/\aV K ab (.c (.ptr b6 0 0))=aa (vi s.meet)/\aV K ab (.c (.ptr b6 1 0))=aa (vi s.room):=by
   intro K hl L;have y1:=q2.h1;have y4:=q2.h4;have y5:=q2.h5;rw[<-hN]at y1 y4 y5;have z1:=(L _ (aj y1)).trans y1;have z4:=(L _ (aj y4)).trans y4;have z5:=(L _ (aj y5)).trans y5;have z6:=(L _ (aj d2)).trans d2;rw[m9];rw[c_]at z6 ⊢;exact⟨by simp[aV,aA,z1],by simp[aV,aA,z5],uZ z4,by simp[aV,aA,z6,aW,aG.row],by simp[aV,aA,z6,aG.row],by simp[aV,aA,z6,aG.row]⟩
  obtain⟨a1,a2,a3,a4,a5,a6⟩:=lc v (agn _) λ_ _=>rfl;refine ay ?_;apply au;refine au (aq (.inr rfl) ?_);simp[l.g1,a1,a5,l2,-ax];by_cases g_:s.meet=x.meet
  .rw[decide_eq_true g_];refine aw bv (bJ (k':=[]) (by simp[Km.exitTo]) ?_);exact cX (i6 _ _ (c9.2 (.inl g_)) (agn _) (λ_ _=>rfl))
  rw[decide_eq_false g_];refine bE bv ?_;apply au;refine aq (.inr rfl) ?_;simp[l.g1,a1,a4,l0,ho,u_,-ax];obtain⟨O,d_⟩:=aI (v++[bO.box (oo.map .f) 0]);rw[<-d_];have k3:∀i:Nat,i<v.length->O[i]?=v[i]?:=λi hi=>by rw[d_,AI hi]
  have n3:O.length=v.length+1:=by rw[d_];simp
  have d7:O[v.length]?=aa (.box (oo.map .f) 0):=by rw[d_];simp
  obtain⟨b7,t7⟩:=aI (v.length);rw[<-t7]at d7 n3 ⊢;have m7:∀K:an,K[b7]?=O[b7]?->aV K (aa 3) (.c (.ptr b7 0 0))=aa (.a (oo.map .f)):=λK h=>by
   rw[j6]at d7 ⊢;exact uZ (h.trans d7)
  obtain⟨a1,a2,a3,a4,a5,a6⟩:=lc O ap k3;apply au;refine au (aq (.inr rfl) ?_);simp[l.g5,a2,-ax];refine bE bv ?_;refine au (aq (.inr rfl) ?_);simp[l.g4,a3,m7 O rfl,hm,-ax];apply au;refine au (aq (.inr rfl) ?_);simp;refine bE bv ?_;apply au;refine au (aq (.inr rfl) ?_);simp;cases m with
  |false=>
   refine aw bv (bJ (k':=[]) (by simp[Km.exitTo]) ?_);exact cX (i6 _ _ (c9.2 (.inr rfl)) ap k3)
  |true=>
   have m_:q=ag:=by
    cases q with
    |false=>rfl
    |true=>
     rcases c9.1 rfl with h|h
     .exact absurd h g_
     .cases h
   refine bE bv ?_;obtain⟨J4,S⟩:=aI (O++[bO.box (([15,s.meet,0,0,0,0,0,0]:List Int).map λn=>.f (fi n)) 0]);have k4:∀i:Nat,i<O.length->J4[i]?=O[i]?:=λi hi=>by rw[S,AI hi]
   have n4:J4.length=O.length+1:=by rw[S];simp
   have j_:J4[O.length]?=aa (.box (([15,s.meet,0,0,0,0,0,0]:List Int).map λn=>.f (fi n)) 0):=by rw[S];simp
   obtain⟨d,i7⟩:=aI (O.length);simp only[agm,agp]at S;apply au;refine aq (.inr rfl) ?_;simp[a5,-ax];rw[<-S,<-i7];rw[<-i7]at j_ n4;obtain⟨c1,c2,c3,c4,c5,c6⟩:=lc J4 ap λi hi=>(k4 i ap).trans (k3 i hi);obtain⟨B,U⟩:=aI (J4++[bO.box (xx.map .f) 0,bO.box (yy.map .f) 0]);have k5:∀i:Nat,i<J4.length->B[i]?=J4[i]?:=λi hi=>by rw[U,AI hi]
   have n5:B.length=d+3:=by rw[U,aft,n4];rfl
   have q_:B[d+1]?=aa (.box (xx.map .f) 0):=by rw[U,agj ap,n4];simp
   have r5:B[d+2]?=aa (.box (yy.map .f) 0):=by rw[U,agj ap,n4];simp
   refine au (au ?_);refine aq (.inr rfl) ?_;simp[l.g4,c3,m7 J4 (k4 _ ap),hf,n9,o_,-ax];rw[n4,<-U];clear hm ho hf c1 c2 c3 c4 c5 c6 a1 a2 a3 a4 a5 a6
   suffices go:∀u:T,ClT N u->u.g 6=.c (.ptr b6 0 0)->u.g 11=.c (.ptr d 0 0)->u.g 12=.c (.ptr (d+1) 0 0)->u.g 13=.c (.ptr (d+1+1) 0 0)->u.g 14=vb fd->
     WP tab hZ (aa (N+6)) [.code Ke,.code zS,.inBlock 1] ⟨u,[],B⟩ Q' by
    exact go _ ⟨by simp[l.g1],by simp[l.g2],by simp[l.g3],by simp[l.g4],by simp[l.g5]⟩ bv bv bv bv bv
   clear l;intro u l g6 Q r6 r7 r9;have j7:∀i:Nat,i<v.length->B[i]?=v[i]?:=λi hi=>(k5 i ap).trans ((k4 i ap).trans (k3 i hi));have E:=(k5 d ap).trans j_;have y2:=q2.h2;have y3:=q2.h3;rw[<-hN]at y2 y3;have k_:∀(u:T) (K:an) (zs:List Int),ClT N u->u.g 11=.c (.ptr d 0 0)->zs.length=8->zs=MY F y s X Y fd->B.length<=K.length->(∀i:Nat,i<v.length->K[i]?=v[i]?)->K[d]?=aa (.box (zs.map λn=>.f (fi n)) 0)->
     WP tab hZ (aa (N+6)) [.code zS,.inBlock 1] ⟨u,[],K⟩ Q':=by
    intro u K zs l Q hz x9 hl L hb;have l8:aV K (aa 8) (.c (.ptr d 0 0))=aa (.a (zs.map λn=>.f (fi n))):=by
     have:(zs.map λn=>C.f (fi n)).length=8:=by simpa using hz
     simp[aV,aA,hb,aW,hz,agw]
    have z2:=(L _ (aj y2)).trans y2;have z3:=(L _ (aj y3)).trans y3;obtain⟨K1,W⟩:=aI (K.set (N+1) (.box (zs.map λn=>.f (fi n)) 0));have s1:cY K (.ptr (N+1) 0 0) (zs.map λn=>.f (fi n))=aa K1:=by
     rw[W]
     match zs,hz with
     |[p0,p1,p2,p3,p4,p5,p6,p7],_=>simp[cY,z2,over]
    have p_:K1[N+2]?=aa (.box [.f (fi 0)] 0):=by rw[W,sh ap];exact z3
    obtain⟨K2,Z⟩:=aI (K1.set (N+2) (.box [.f (fi 0)] 0));have s2:cY K1 (.ptr (N+2) 0 0) [.f (fi 0)]=aa K2:=by rw[Z];simp[cY,p_,over]
    have kK:∀i:Nat,i≠N+1->i≠N+2->K2[i]?=K[i]?:=λi h1 h2=>by rw[Z,sh (Ne.symm h2),W,sh (Ne.symm h1)]
    have kl:K2.length=K.length:=by rw[Z,W];simp
    have p6:K2[N+6]?=aa (.lp hZ tm [P.nat 41] iM gJ .busy ab (N+5)):=by rw[kK _ ap ap,L _ ap];exact f6
    refine au (aq (.inr rfl) ?_);simp[Q,l.g2,l.g3,l8,hz,s1,s2,-ax,-bw];refine az (l_ _ _ _ _ _ _ _ _ _ _ rfl p6 ⟨by rw[m_];rfl,?_⟩);rw[m_,ct bv];have a_:=q2.cl.on _ ago;rw[<-hN]at a_;refine⟨⟨?_,λb t6=>?_⟩,?_,?_,⟨bv,λi hi=>?_⟩,BY (aj p6)⟩
    .show H.length<=(K2.set _ _).length;rw[agx,kl];have:=q2.k.1;omega
    .show(K2.set _ _)[b]?=_;rw[sh ap,kK _ ap ap,L _ (by have:=q2.k.1;omega)];exact q2.k.2 b t6
    .show(K2.set _ _)[N+1]?=_;rw[sh ap,Z,sh ap,W,<-x9];exact BY (aj z2)
    .show(K2.set _ _)[N+2]?=_;rw[sh ap,Z];exact BY (aj p_)
    .show(K2.set _ _)[i]?=_;rw[If.1 hi,sh ap,kK _ ap ap,L _ (aj a_)];exact a_
   refine au (aq (.inr rfl) ?_);simp[r9];cases fd with
   |false=>
    refine bE bv ?_;exact k_ _ B [15,s.meet,0,0,0,0,0,0] ⟨by simp[l.g1],by simp[l.g2],by simp[l.g3],by simp[l.g4],by simp[l.g5]⟩ (by simp[Q]) rfl rfl (agn _) j7 E
   |true=>
    refine aw bv ?_;obtain⟨c1,c2,c3,c4,c5,c6⟩:=lc B ap j7;have x_:aV B (aa 3) (.c (.ptr (d+1) 0 0))=aa (.a (xx.map .f)):=by simp[aV,aA,q_,aW,n9,agw]
    have y6:aV B (aa 3) (.c (.ptr (d+1+1) 0 0))=aa (.a (yy.map .f)):=by simp[aV,aA,r5,aW,o_,agw]
    simp only[agm,agp]at E;obtain⟨J6,e_⟩:=aI (B.set d (.box [.f (fi 15),.f (fi s.meet),.f (fi X.day),.f (fi (ri (X.fr+F.fg))),.f (fi (ri (X.to-F.gN))),.f (fi 0),.f (fi 0),.f (fi 0)] 0));have s1:cY B (.ptr d 2 0) [.f (fi X.day),.f (fi (ri (X.fr+F.fg))),.f (fi (ri (X.to-F.gN)))]=aa J6:=by rw[e_];simp[cY,E,over]
    have d6:J6[d]?=aa (.box [.f (fi 15),.f (fi s.meet),.f (fi X.day),.f (fi (ri (X.fr+F.fg))),.f (fi (ri (X.to-F.gN))),.f (fi 0),.f (fi 0),.f (fi 0)] 0):=by rw[e_];exact BY (aj E)
    obtain⟨J7,f_⟩:=aI (J6.set d (.box ((MY F y s X Y ae).map λn=>.f (fi n)) 0));have s2:cY J6 (.ptr d 5 0) [.f (fi Y.day),.f (fi (ri (Y.fr+y.fg))),.f (fi (ri (Y.to-y.gN)))]=aa J7:=by rw[f_];simp[cY,d6,over,MY]
    have k7:∀i:Nat,i≠d->J7[i]?=B[i]?:=λi h=>by rw[f_,sh (Ne.symm h),e_,sh (Ne.symm h)]
    have y8:∀K:an,K[N]?=v[N]?->aV K ab (.c (.ptr N 0 0))=aa (.c (.f (.fp cd 0))):=λK hK=>by
     have y1:=q2.h1;rw[<-hN]at y1;simp[aV,aA,hK.trans y1]
    refine aq (.inr rfl) ?_;simp[l.g1,g6,Q,r6,r7,c1,c4,c6,l0,z,x_,y6,j8,j9,b_,i_,s1,s2,-ax,-bw];refine k_ _ J7 _ ⟨by simp[l.g1],by simp[l.g2],by simp[l.g3],by simp[l.g4],by simp[l.g5]⟩ (by simp[Q]) (Ir ..) rfl (by rw[f_,e_];simp) (λi hi=>by rw[k7 i ap];exact j7 i hi) (by rw[f_];exact BY (aj d6))
 refine⟨J',u9,?_⟩;by_cases h_:q=ae
 .rw[bZ h_]at h ⊢;exact⟨c9.1 h_,h⟩
 .rw[ct h_]at h ⊢;exact⟨λh'=>h_ (c9.2 h'),h⟩
def vN(b:List Int):V:=.a (b.map λn=>.f (fi n))
def jP(dr:aG->a8)(x:aG)(mt:aG->Bool)(fx fy:aG->aC)(fd:aG->Bool):List aG->List Int
 |[]=>[0,0,0,0,0,0,0,0]| s::r=>if s.meet=x.meet\/mt s=ag then jP dr x mt fx fy fd r else MY (dr x) (dr s) s (fx s) (fy s) (fd s)
theorem rG(dr:aG->a8)(x:aG)(mt:aG->Bool)(fx fy:aG->aC)(fd:aG->Bool):∀l,(jP dr x mt fx fy fd l).length=8
 |[]=>rfl| s::r=>by unfold jP;split;exact rG dr x mt fx fy fd r;exact Ir ..
theorem rF{dr:aG->a8}{x:aG}{mt:aG->Bool}{fx fy:aG->aC}{fd:aG->Bool}:∀{d l:List aG},(∀s∈d,s.meet=x.meet\/mt s=ag)->jP dr x mt fx fy fd (d++l)=jP dr x mt fx fy fd l
 |[],_,_=>rfl
 |s::r,l,h=>by
  rw[ahJ,jP,bZ (h s ago)];exact rF λy b=>h y (agr _ b)
theorem Em:∀(bs:List Nat) (H:an),(ns bs H).length=H.length
 |[],_=>rfl| b::bs,H=>by simp[ns,Em bs]
theorem Qe(Y g:Tg){a:List a8}{hh:Bool}(ht:js a hh)(ss:List aG)(hl:ss.length<=1000)(x:aG)(dr:aG->a8)(d_:∀s,s=x\/s∈ss->a[s.room.toNat]?=aa (dr s))(M:∀s,s=x\/s∈ss->0<=s.room/\s.room<=2)(Z:aG->aH)
  (ho:∀s,s=x\/s∈ss->bg tab ug [.c (.f (sl Y (rows a))),.a (s.row.map .f)]=Eq (.t [.a ((Z s).row.map .f),vb ae]))
  (mt:aG->Bool) (hm:∀s∈ss,bg tab jg [.a ((Z x).row.map .f),.a ((Z s).row.map .f)]=Eq (.t [vb (mt s),vi 0]))
  (fx fy:aG->aC) (fd:aG->Bool) (hf:∀s∈ss,bg tab fq [.a ((Z x).row.map .f),.a ((Z s).row.map .f),vi (-2251799813685248)]=Eq (.t [.a ((fx s).row.map .f),.a ((fy s).row.map .f),vb (fd s)])) (H:an) :
  ∃H',Ev tab (.fn hZ) [.c (.f (fW (sl Y (rows a)) (sl g (aS ss)) x))] H (.t [vN (jP dr x mt fx fy fd (ss.filter λs=>iu hh s.room.toNat x.room.toNat)),vi 0]) H'/\Kp H H':=by
 obtain⟨sd,i7⟩:=aI (sl g (aS ss));have i8:=Hl (sl Y (rows a)) sd x.room;obtain⟨O,z⟩:=aI ([sl Y (rows a),sd]++x.row);obtain⟨N,m⟩:=aI (H.length);have l0:∀K:an,aV K ab (.c (.f (.fp O 0)))=aa (.c (.f (sl Y (rows a)))):=λK=>by rw[z];rfl
 have l1:∀K:an,aV K ab (.c (.f (.fp O 1)))=aa (.c (.f sd)):=λK=>by rw[z];rfl
 have l3:∀K:an,aV K ab (.c (.f (.fp O 3)))=aa (vi x.room):=λK=>by rw[z];rfl
 have l7:∀K:an,aV K (aa 7) (.c (.f (.fp O 2)))=aa (.a (x.row.map .f)):=λK=>by rw[z];rfl
 have f_:=ho x (.inl rfl);have e_:(Z x).row.length=3:=rfl;obtain⟨q,B⟩:=aI (jP dr x mt fx fy fd (ss.filter λs=>iu hh s.room.toNat x.room.toNat));have i6:q.length=8:=by rw[B];exact rG ..
 simp only[fW];rw[<-i7,<-z,<-B];obtain⟨r,H',he,rfl,hK⟩:∃r H',Ev tab (.fn hZ) [.c (.f (.fp O 0))] H r H'/\(r=.t [vN q,vi 0]/\Kp H H'):=by
  refine Gs (S:=λr H'=>r=.t [vN q,vi 0]/\Kp H H') XT rfl λQ hQ=>?_;have c_:∀(t:T) (K:an) (j:Option aE),ClT N t->Kp H K->eI [N+5] K->K[N+1]?=aa (.box (q.map λn=>.f (fi n)) 0)->K[N+2]?=aa (.box [.f (fi 0)] 0)->Q j ⟨t,[N+5].map .dY,K⟩:=by
   intro t K j F hk hc I L;have d1:=(iQ (hc.not I bv)).trans I;have d2:=(iQ (hc.not L bv)).trans L;refine hQ _ _ (.t [vN q,vi 0]) ⟨[N+5],rfl,hc,?_,rfl,?_⟩
   .have j7:(q.map λn=>C.f (fi n)).length=8:=by simpa using i6
    simp[Km.results,cC,bu,F.g2,F.g3,aV,aA,d1,d2,aW,i6,agw,vN]
   .refine⟨by rw[Em];exact hk.1,λb M=>?_⟩;rw[iQ ge];exact hk.2 b M
  apply ai;simp;obtain⟨c,v⟩:=aI (H++[bO.box [.f (.fp O 0)] 0,.box (([0,0,0,0,0,0,0,0]:List Int).map λn=>.f (fi n)) 0,.box [.f (fi 0)] 0]:an);have n0:c.length=N+3:=by rw[v,aft,m];rfl
  have k0:∀i:Nat,i<H.length->c[i]?=H[i]?:=λi hi=>by rw[v,AI hi]
  have c0:c[N]?=aa (.box [.f (.fp O 0)] 0):=by rw[v,m];simp
  have c1:c[N+1]?=aa (.box (([0,0,0,0,0,0,0,0]:List Int).map λn=>.f (fi n)) 0):=by rw[v,m,agj ap];simp
  have c2:c[N+2]?=aa (.box [.f (fi 0)] 0):=by rw[v,m,agj ap];simp
  simp only[agm,agp]at v;rw[<-v,<-m];have a0:aV c ab (.c (.ptr N 0 0))=aa (.c (.f (.fp O 0))):=by simp[aV,aA,c0]
  obtain⟨A,E⟩:=aI (c++[bO.box ((Z x).row.map .f) 0,.box [.f (.bool ae)] 0]:an);have n1:A.length=N+5:=by rw[E,aft,n0];rfl
  have k1:∀i:Nat,i<c.length->A[i]?=c[i]?:=λi hi=>by rw[E,AI hi]
  have c3:A[N+3]?=aa (.box ((Z x).row.map .f) 0):=by rw[E,agj ap,n0];simp
  have c4:A[N+4]?=aa (.box [.f (.bool ae)] 0):=by rw[E,agj ap,n0];simp
  obtain⟨ox,g_⟩:=aI (Z x);rw[<-g_]at f_ e_ E c3 hm hf;apply ai;simp[a0,l0,l7,f_,e_,-ax];rw[n0,<-E];have a1:aV A ab (.c (.ptr N 0 0))=aa (.c (.f (.fp O 0))):=by simp[aV,aA,k1 N ap,c0]
  refine au (ai ?_);simp[a1,l0,l1,l3,i8,-ax];refine ay ?_
  suffices go:∀u:T,ClT N u->u.g 40=.c (.f (.fn uh [.fp [sd] 0,.fp [sl Y (rows a)] 0,.fp [fi x.room] 0]))->WP tab hZ ab [.code NX,.inBlock 0,.code Kg] ⟨u,[],A⟩ Q by
   exact go _ ⟨bv,bv,bv,bv,bv⟩ bv
  intro u F i9;obtain⟨LP,X⟩:∃LP:dt->Option aE->bO,LP=λst pd=>.lp hZ u [P.nat 41] iM gJ st pd (N+5):=⟨_,rfl⟩
  obtain⟨w,W⟩:=aI (A++[.dQ ae,LP .ready ab]);have kR:∀i:Nat,i<A.length->w[i]?=A[i]?:=λi hi=>by rw[W,AI hi]
  have q5:w[N+5]?=aa (.dQ ae):=by rw[W,agj ap,n1];simp
  have q6:w[N+6]?=aa (LP .ready ab):=by rw[W,agj ap,n1];simp
  have j8:w.length=N+7:=by rw[W,aft,n1];rfl
  have hq:S9 H O ox w:=⟨⟨ap,λb M=>by rw[kR b ap,k1 b ap,k0 b M]⟩,by rw[<-m,kR _ ap,k1 _ ap];exact c0,by rw[<-m,kR _ ap,k1 _ ap];exact c1,
   by rw[<-m,kR _ ap,k1 _ ap];exact c2,by rw[<-m,kR _ ap];exact c3,by rw[<-m,kR _ ap];exact c4,⟨bv,λi hi=>by rw[If.1 hi,<-m];exact q5⟩⟩
  obtain⟨H2,he,a_⟩:=EU (b:=N+6) (H:=w) (PP:=λd J=>S9 H O ox J/\J[N+6]?=aa (LP .ready ab)/\∀s∈d,s.meet=x.meet\/mt s=ag)
   (RR:=λd s J=>(∀s∈d,s.meet=x.meet\/mt s=ag)/\¬ (s.meet=x.meet\/mt s=ag)/\Kp H J/\J[N+1]?=aa (.box ((MY (dr x) (dr s) s (fx s) (fy s) (fd s)).map λn=>.f (fi n)) 0)/\J[N+2]?=aa (.box [.f (fi 0)] 0)/\eI [N+5] J/\J[N+6]?=aa (LP .done (aa .ret)))
   (sl Y (rows a)) g ss hl x.room (λs=>iu hh s.room.toNat x.room.toNat) (λs k=>Hv Y ht _ _ (M s (.inr k)).1 (M s (.inr k)).2 (M x (.inl rfl)).1 (M x (.inl rfl)).2) ⟨hq,q6,bv⟩
   (λd J K ⟨I,L,o⟩=>⟨I.bH bv λi hi _=>by rw[AI hi],by rw[AI (aj L)];exact L,o⟩)
   (λd s J ⟨I,L,o⟩ k=>by
    have d9:=L;rw[X,m]at d9;rw[m]at F;rw[z]at I;obtain⟨r,J',j6,hr⟩:=DI Y ht sd x (M x (.inl rfl)).1 (M x (.inl rfl)).2 (d_ x (.inl rfl)) s (M s (.inr k)).1 (M s (.inr k)).2 (d_ s (.inr k)) ox (Z s) (ho s (.inr k)) (mt s) (hm s k) (fx s) (fy s) (fd s) (hf s k) F I d9;refine⟨r,J',by rw[m];exact j6,?_⟩;by_cases h_:r=ae
    .rw[bZ h_]at hr ⊢;refine⟨by rw[z];exact hr.2.1,by rw[m,hr.2.2,<-m];exact L,λy hy=>?_⟩;rcases agl.1 hy with h|h
     .exact o y h
     .rw[If.1 h];exact hr.1
    .rw[ct h_]at hr ⊢;obtain⟨e1,e2,e3,e4,e5,e6⟩:=hr;exact⟨o,e1,e2,by rw[m];exact e3,by rw[m];exact e4,by rw[m];exact e5,by rw[X,m];exact e6⟩)
  rw[<-i7]at he;have j5:Ev tab (.fn uh) [.c (.yl (A.length+1)),.c (.f (.fp [sd] 0)),.c (.f (.fp [sl Y (rows a)] 0)),.c (.f (.fp [fi x.room] 0))] (A++[.dQ ae,.lp hZ u [P.nat 41] iM gJ .ready ab A.length]) (.t []) H2:=by
   have e:A++[.dQ ae,.lp hZ u [P.nat 41] iM gJ .ready ab A.length]=w:=by rw[W,X,n1]
   rw[e,n1];exact he
  refine dK (g:=uh) (by rw[oi,i9];simp[cr]) j5 ?_;rw[n1];rcases a_ with⟨I,L,o⟩|⟨d,s,rest,i_,o,h4,h5,h6,h7,h8,h9⟩
  .rw[X]at L;refine ew L ce (av ?_);have b_:q=[0,0,0,0,0,0,0,0]:=by
    rw[B];have:=rF (dr:=dr) (x:=x) (mt:=mt) (fx:=fx) (fy:=fy) (fd:=fd) (l:=[]) o;rw[agN]at this;rw[this];rfl
   have z1:=I.h2;have z2:=I.h3;have z3:=I.cl;have z4:=I.k;rw[<-m]at z1 z2 z3;obtain⟨H3,f⟩:=aI (H2.set (N+6) (.lp hZ u [P.nat 41] iM gJ .exhausted ab (N+5)));have k3:∀i:Nat,i≠N+6->H3[i]?=H2[i]?:=λi hi=>by rw[f,sh (Ne.symm hi)]
   have y1:=(k3 (N+1) ap).trans z1;have y2:=(k3 (N+2) ap).trans z2;have y3:eI [N+5] H3:=by rw[f];exact z3.set L bv
   have y4:Kp H H3:=by rw[f];exact z4.re ap _
   rw[<-f];obtain⟨p,U⟩:=aI (H3.set (N+1) (.box (([0,0,0,0,0,0,0,0]:List Int).map λn=>.f (fi n)) 0));have w1:p[N+1]?=aa (.box (([0,0,0,0,0,0,0,0]:List Int).map λn=>.f (fi n)) 0):=by rw[U];exact BY (aj y1)
   have w2:p[N+2]?=aa (.box [.f (fi 0)] 0):=by rw[U,sh ap];exact y2
   have w3:eI [N+5] p:=by rw[U];exact y3.set y1 bv
   have w4:Kp H p:=by rw[U];exact y4.re ap _
   have s1:cY H3 (.ptr (N+1) 0 0) [.f (fi 0),.f (fi 0),.f (fi 0),.f (fi 0),.f (fi 0),.f (fi 0),.f (fi 0),.f (fi 0)]=aa p:=by rw[U];simp[cY,y1,over]
   have s2:cY p (.ptr (N+2) 0 0) [.f (fi 0)]=aa (p.set (N+2) (.box [.f (fi 0)] 0)):=by simp[cY,w2,over]
   apply ai;simp[F.g2,F.g3,s1,s2,-bw];refine az (c_ _ _ _ ⟨by simp[F.g1],by simp[F.g2],by simp[F.g3],by simp[F.g4],by simp[F.g5]⟩ (w4.re ap _) (w3.set w2 bv) ?_ (BY (aj w2)));rw[sh ap,b_];exact w1
  .rw[X]at h9;refine lK h9 ce ?_;have c9:q=MY (dr x) (dr s) s (fx s) (fy s) (fd s):=by
    rw[B,i_,rF o,jP,ct h4]
   refine az (c_ _ _ _ F (h5.re ap _) (h8.set h9 bv) ?_ ?_)
   .rw[sh ap,c9];exact h6
   .rw[sh ap];exact h7
 exact⟨H',he,hK⟩
def iI:List aC->Int
 |[]=>0| x::r=>x.to-x.fr+iI r
theorem E7(a b:List aC):iI (a++b)=iI a+iI b:=by
 induction a with
 |nil=>simp[iI]| cons x a d=>simp only[ahJ,iI,d];omega
theorem G2(g:Tg)(L:List aC)(I:L.length<=1000)(z:∀x∈L,0<=x.fr/\x.fr<=x.to/\x.to<=100000000):bg tab O' [.c (.f (sl g (aF L)))]=Eq (vi (iI L)):=Kf.eq (by
 refine dh rfl rfl λH Q y=>?_;apply ai;simp;apply ai;simp;apply au;apply ai;simp;refine bS L.length (λj t H'=>(∃J,H'=H++J)/\t.g 6=.c (.f (sl g (aF L)))/\t.g 3=vi (iI (L.take j))/\0<=iI (L.take j)/\iI (L.take j)<=j*100000000) ap ce ce bv bv ⟨⟨[],bv⟩,bv,by simp[iI],by simp[iI],by simp[iI]⟩ ?_ ?_
 .rintro j t _ l ⟨⟨J,rfl⟩,m,d,A,B⟩ u q next
  have b:=λH:an=>cf (H:=H) (bM L) (dB l);have s:L.take (j+1)=L.take j++[L[j]]:=by rw[agv,By l];rfl
  have v:iI (L.take (j+1))=iI (L.take j)+(L[j].to-L[j].fr):=by rw[s,E7];simp[iI]
  obtain⟨b1,E,F⟩:=z L[j] (IN l);simp[aC.row]at b;refine ay ?_;apply ai;simp[m,u,bz,l,b];refine aq (.inl rfl) ?_;simp[d,aZ (n:=L[j].to-L[j].fr),aZ (n:=iI (L.take j)+(L[j].to-L[j].fr))];refine av (next _ _ ?_ (by simp[u]) (by simp[q]));exact⟨⟨_,rfl⟩,by simp[m],by simp[v],ap,by rw[v];omega⟩
 .rintro t _ ⟨⟨J,rfl⟩,m,d,A,B⟩ - -;rw[agu]at d;apply ai;simp[d];refine az (y _ _ ?_);simp)
def cE(l:List aH):List (List FC):=l.map aH.row
@[simp] theorem yY (l:List aH):(cE l).length=l.length:=by simp[cE]
theorem gG(l:List aH):cR 3 (cE l):=cR.map λ_=>rfl
theorem zH{l:List aH}{j:Nat}(b:j<l.length):(cE l)[j]?=aa l[j].row:=by simp[cE,b]
def cN(k tm:Int)(l:List aG):List aH:=(l.filter λs=>decide (s.room=k)&&decide (s.eo=tm)).map aG.st
theorem oC(k tm:Int)(a b:List aG):cN k tm (a++b)=cN k tm a++cN k tm b:=by simp[cN]
theorem Jb(g:Tg)(l:List aG)(k tm:Int)(hl:l.length<=1000)(H:an):∃c H',Ev tab (.fn FD) [.c (.f (sl g (aS l))),vi k,vi tm] H (.c c) H'/\LR H' c 3 (cE (cN k tm l))/\(∀i,bf c=aa i->H.length<=i)/\Kp H H':=by
 obtain⟨r,H',he,c,rfl,h⟩:∃r H',Ev tab (.fn FD) [.c (.f (sl g (aS l))),vi k,vi tm] H r H'/\∃c,r=.c c/\LR H' c 3 (cE (cN k tm l))/\(∀i,bf c=aa i->H.length<=i)/\Kp H H':=by
  refine de (C:=λr H'=>∃c,r=.c c/\LR H' c 3 (cE (cN k tm l))/\(∀i,bf c=aa i->H.length<=i)/\Kp H H') XV rfl λQ hQ=>?_;apply ai;simp;apply ai;simp;apply au;apply ai;simp;refine bS l.length (λj t J=>t.g 10=.c (.f (sl g (aS l)))/\t.g 1=vi k/\t.g 2=vi tm/\(cN k tm (l.take j)).length<=j/\∃c,t.g 7=.c c/\LR J c 3 (cE (cN k tm (l.take j)))/\(∀i,bf c=aa i->H.length<=i)/\Kp H J) ap ce ce bv bv
   ⟨bv,bv,bv,by simp[cN],.f .aJ,bv,by simpa[cN,cE]using LR.nil H 3,by simp[bf],⟨agn _,λ_ _=>rfl⟩⟩ ?_ ?_
  .rintro j t J p ⟨q,E,K,a,c,M,U,m,X⟩ W Z next
   have A:=λH:an=>cf (H:=H) (bW l) (dI p);have z:=λH:an=>bz (H:=H) (g:=g) (rows:=aS l) (sz:=7) (k:=.i64) (i:=(j:Int)) ap ge;simp only[agD]at z;have I:l.take (j+1)=l.take j++[l[j]]:=by rw[agv,By p];rfl
   obtain⟨s,hs⟩:=aI (l[j]);rw[<-hs]at A I;have e:s.row.length=7:=rfl;obtain⟨b,N⟩:=aI (J.length);obtain⟨u,v⟩:=aI (J++[bO.box (s.row.map .f) 0]);have y:=U.push [bO.box (s.row.map .f) 0];rw[<-v]at y;have x:Kp H u:=by rw[v];exact X.tr (Kp.push _ _)
   have d:u[b]?=aa (.box (s.row.map .f) 0):=by rw[v,N];simp
   have n:aV u ab (.c (.ptr b 1 0))=aa (vi s.room):=by simp[aV,aA,d,aG.row]
   have w:aV u ab (.c (.ptr b 2 0))=aa (vi s.eo):=by simp[aV,aA,d,aG.row]
   have l4:aV u (aa 3) (.c (.ptr b 4 0))=aa (.a (s.st.row.map .f)):=by simp[aV,aA,d,aG.row,aH.row,aW]
   refine ay ?_;apply ai;simp[q,W,z,A,e,-ax];rw[<-v,<-N];have skip:(decide (s.room=k)&&decide (s.eo=tm))=ag->cN k tm (l.take (j+1))=cN k tm (l.take j):=λh=>by
    rw[I,oC];simp[cN,h]
   apply ai;by_cases L:s.room=k
   .by_cases S:s.eo=tm
    .have B:cN k tm (l.take (j+1))=cN k tm (l.take j)++[s.st]:=by rw[I,oC];simp[cN,L,S]
     simp[E,K,n,w,L,S,-ax];refine aw bv ?_;have Y:=y.push [bO.box (s.st.row.map .f) 0];have d2:(u++[bO.box (s.st.row.map .f) 0])[u.length]?=aa (.box (s.st.row.map .f) 0):=by simp
     obtain⟨c',J2,e1,e2,o,e4⟩:=Y.app (gG _) ce (row:=s.st.row) rfl (bytes:=56) (by simp[cD];omega) d2;have f:s.st.row.length=3:=rfl;refine aq (.inl rfl) ?_;simp[M,l4,f,e1,-ax];refine av (next _ _ ⟨by simp[q],by simp[E],by simp[K],by rw[B];simp;omega,c',bv,by rw[B];simpa[cE]using e2,λi hi=>?_,?_⟩ (by simp[W]) (by simp[Z]))
     .rcases e4 with h|h
      .exact m i (by rw[<-h];exact hi)
      .rw[h]at hi;cases hi;have:=x.1;simp;omega
     .have F:=x.tr (Kp.push u [bO.box (s.st.row.map .f) 0]);refine⟨by have:=o.1;have:=F.1;omega,λi hi=>?_⟩;rw[<-F.2 i hi];have O:i<(u++[bO.box (s.st.row.map .f) 0]).length:=by have:=F.1;omega
      rw[By O];exact o.2 i _ (By O) λh=>by have:=m i h;omega
    .simp[E,K,n,w,L,S,-ax];refine aD bv (aR (av (next _ _ ?_ (by simp[W]) (by simp[Z]))));exact⟨by simp[q],by simp[E],by simp[K],by rw[skip (by simp[S])];omega,c,by simp[M],by rw[skip (by simp[S])];exact y,m,x⟩
   .simp[E,n,L,-ax];refine aD bv (aR (av (next _ _ ?_ (by simp[W]) (by simp[Z]))));exact⟨by simp[q],by simp[E],by simp[K],by rw[skip (by simp[L])];omega,c,by simp[M],by rw[skip (by simp[L])];exact y,m,x⟩
  .rintro t J ⟨q,E,K,a,c,M,U,m,X⟩ - -;rw[agu]at U;apply ai;simp[M];exact az (hQ _ _ (.c c) rfl (dy bv) ⟨c,rfl,U,m,X⟩)
 exact⟨c,H',he,h⟩
def ta(b:Int):List (Int × Int)->Int × Bool
 |[]=>(0,ag)| q::r=>if q.1=b then(q.2,ae)else ta b r
theorem Q3(N:Tg){F:List a8}{h:Bool}(n:js F h)(U:FC)(x:aG)(Z:0<=x.room)(a:x.room<=2){d:a8}(e:F[x.room.toNat]?=aa d)(B:d.q.length<=2):bg tab Xi [.c (.f (fW (sl N (rows F)) U x))]=Eq (.t [vi (ta x.eo d.q).1,vb (ta x.eo d.q).2]):=bg.eq (by
 refine bK rfl rfl λQ O=>?_;have l:=sM N n U x Z a e;generalize d=r at *;obtain⟨W,z⟩:=aI ([sl N (rows F),U]++x.row);have o:∀K:an,aV K ab (.c (.f (.fp W 4)))=aa (vi x.eo):=λK=>by rw[z];rfl
 simp only[fW]at l ⊢;rw[<-z]at l ⊢;have f:pH 13 ab (.a (r.row.map .f))=aa (.c (.f (sl r.qg (gk r.q)))):=rfl;have A:∀K:an,bh K (.f (sl r.qg (gk r.q)))=aa r.q.length:=λK=>by simp[gk]
 obtain⟨S,u⟩:=aI (ta x.eo r.q);rw[<-u]at O;apply ai;simp;apply au;apply ai;simp[l,f,A];refine bS r.q.length (λj t J=>t.g 0=.c (.f (.fp W 0))/\t.g 8=.c (.f (sl r.qg (gk r.q)))/\S=ta x.eo (r.q.drop j)) ap ce ce bv bv ⟨bv,bv,by simpa using u⟩ ?_ ?_
 .rintro j t J Y ⟨L,M,s⟩ X c next
  have m:=λH:an=>bz (H:=H) (g:=r.qg) (rows:=gk r.q) (sz:=2) (k:=.i64) (i:=(j:Int)) ap (by simp[gk];omega);have E:=λH:an=>cf (H:=H) (yw r.q) (Ez Y);simp only[agD]at m;rw[ags Y,ta]at s;generalize r.q[j]=q at *;obtain⟨b,y⟩:=aI (J.length);refine ay ?_;apply ai;simp[M,X,m,E,-ax];obtain⟨I,v⟩:=aI (J++[bO.box [.f (fi q.1),.f (fi q.2)] 0]);have d:I[b]?=aa (.box [.f (fi q.1),.f (fi q.2)] 0):=by rw[v,y];simp
  have p:aV I ab (.c (.ptr b 0 0))=aa (vi q.1):=by simp[aV,aA,d]
  have w:aV I ab (.c (.ptr b 1 0))=aa (vi q.2):=by simp[aV,aA,d]
  rw[<-v,<-y];apply ai;simp[L,p,o,-ax];by_cases B:q.1=x.eo
  .rw[bZ B]at s;refine aw (by simp[B]) ?_;apply ai;simp[w,-ax];refine az (O _ _ ?_);simp[s]
  .rw[ct B]at s;refine aD (by simp[B]) (aR (av (next _ _ ⟨by simp[L],by simp[M],s⟩ (by simp[X]) (by simp[c]))))
 .rintro t J ⟨L,M,s⟩ - -;rw[ahK,ta]at s;apply ai;simp;refine az (O _ _ ?_);simp[s])
def tL(b:aH->Int):Int->List aH->Int
 |tot,[]=>tot| tot,s::r=>tL b (ah .i64 (tot+b s)) r
theorem UM(I:FC)(g:Tg)(ss:List aG)(o:ss.length<=1000)(x:aG)(q:Int)(N:aH->Int)
  (p:∀s∈cN x.room x.eo ss,∃v,bg tab oe [.a (s.row.map .f),vi q]=Eq (.c (.f v))/\bg tab O' [.c (.f v)]=Eq (vi (N s))) :
  bg tab Fw [.c (.f (fW (I) (sl g (aS ss)) x)),vi q]=Eq (vi (tL N 0 (cN x.room x.eo ss))):=bg.eq (by
 refine bK rfl rfl λQ Y=>?_;obtain⟨w,Z⟩:=aI (sl g (aS ss));obtain⟨O,l⟩:=aI ([I,w]++x.row);have l1:∀K:an,aV K ab (.c (.f (.fp O 1)))=aa (.c (.f w)):=λK=>by rw[l];rfl
 have i:∀K:an,aV K ab (.c (.f (.fp O 3)))=aa (vi x.room):=λK=>by rw[l];rfl
 have l4:∀K:an,aV K ab (.c (.f (.fp O 4)))=aa (vi x.eo):=λK=>by rw[l];rfl
 obtain⟨c,H1,F,B,-,-⟩:=Jb g ss x.room x.eo o [];have X:(cN x.room x.eo ss).length<=1000:=by
  unfold cN;rw[agq];exact agK (ahb _ _) o
 obtain⟨L,W⟩:=aI (cN x.room x.eo ss);obtain⟨k,y⟩:=aI (tL N 0 L);rw[<-W]at B p Y X;rw[<-y]at Y;simp only[fW];rw[<-Z]at F ⊢;rw[<-l];have u:=B.len;rw[yY]at u;apply ai;simp;apply ai;simp;apply au;apply ai;simp[l1,i,l4,F.eq,u];refine bS L.length (λj t J=>t.g 1=vi q/\t.g 22=.c c/\LR J c 3 (cE L)/\∃m,t.g 5=vi m/\k=tL N m (L.drop j)) ap ce ce bv bv ⟨bv,bv,B,0,bv,by simpa using y⟩ ?_ ?_
 .rintro j t J M ⟨S,z,B,m,U,H⟩ n hb next
  obtain⟨v,f,h⟩:=p L[j] (IN M);obtain⟨b,ep,i1,r⟩:=B.at (gG L) (j:=j) (by simpa using M);have e:(cE L)[j]'(by simpa using M)=L[j].row:=by simp[cE]
  rw[e]at r;rw[ags M,tL]at H;generalize L[j]=s at *;have a:s.row.length=3:=rfl;have E:=B.push [bO.box (s.row.map .f) 0];obtain⟨J1,A⟩:=aI (J++[bO.box (s.row.map .f) 0]);have d:J1[J.length]?=aa (.box (s.row.map .f) 0):=by rw[A];simp
  have i:=uZ d;rw[<-A]at E;refine ay ?_;apply ai;simp[z,n,i1,r,a,-ax];rw[<-A];refine aq (.inl rfl) ?_;simp[S,U,i,f,h,-ax];exact av (next _ _ ⟨by simp[S],by simp[z],E,_,bv,H⟩ (by simp[n]) (by simp[hb]))
 .rintro t J ⟨S,z,B,m,U,H⟩ - -;rw[ahK,tL]at H;apply ai;simp[U];refine az (Y _ _ ?_);simp[H])
theorem wJ(k:Int)(c:C):∀l,Cj k (oD k c l)=aa c
 |[]=>by simp[oD,Cj]
 |e::b=>by
  have d:=wJ k c b;unfold oD;by_cases h:k=e.1
  .rw[bZ h];simp[Cj]
  .rw[ct h];simp[Cj,h,d]
theorem IZ{J:an}{m:Nat}{l:List (Int × C)}(b:J[m]?=aa (.map (tO l))){k v:Int}(h:Cj k l=aa (.f (fi v))):gC J .int (fi 0) (.c (.mp m)) (vi k)=aa (vi v):=by
 unfold gC;simp only[b,isKey,if_true,B9,Option.map_some,SB,pL,h];rfl
theorem Rm{J:an}{m:Nat}{l:List (Int × C)}(b:J[m]?=aa (.map (tO l)))(k v:Int):oB J .int (.c (.mp m)) (vi k) (vi v)=aa (.top,J.set m (.map (tO (oD k (.f (fi v)) l)))):=by
 simp[oB,oR,b,isKey,He]
def kG(b:Int):Int->List aC->Option aC
 |_,[]=>ab| tot,x::r=>if b<ah .i64 (tot+ah .i64 (x.to-x.fr))then aa x else kG b (ah .i64 (tot+ah .i64 (x.to-x.fr))) r
def pX(b e:Int)(d:Int->List aC)(us:Int->Int):Nat->Int->Option aC
 |0,_=>ab| k+1,n=>if 7*n<e then(match kG b (us n) (d n)with|some x=>aa x|none=>pX b e d us k (n+1))else ab
def EK:Option aC->List Int
 |none=>[0,0,0,0,0,0,0,0]| some x=>[14,0,x.day,x.fr,x.to,0,0,0]
theorem EL(o:Option aC):(EK o).length=8:=by cases o<;>rfl
theorem RL(gr g:Tg){rs:List a8}{hh:Bool}(ht:js rs hh)(ss:List aG)(hl:ss.length<=1000)(x:aG)(h0:0<=x.room)(h1:x.room<=2){dr:a8}(x9:rs[x.room.toNat]?=aa dr)(z8:dr.q.length<=2)(u_:V.beq (.a (x.st.row.map .f)) (.a (x.st.row.map .f))=ae)(en:Int)(en0:15<=en)(en1:en<=30000)(FU:Nat)(hFU:FU=5000)
  (i7:bg tab Fx [.c (.f (sl .fs (cE (cN x.room x.eo ss++[x.st]))))]=Eq (.t [vi en,vb ae]))
  (F:Int->List aC) (us:Int->Int) (ho:∀n,-1<=n->n<=5000->(F n).length<=10/\∃g,bg tab oe [.a (x.st.row.map .f),vi n]=Eq (.c (.f (sl g (aF (F n))))))
  (hu:∀n,-1<=n->n<=5000->bg tab Fw [.c (.f (fW (sl gr (rows rs)) (sl g (aS ss)) x)),vi n]=Eq (vi (us n))) (H:an) :
  ∃H',Ev tab (.fn ph) [.c (.f (fW (sl gr (rows rs)) (sl g (aS ss)) x))] H (.t [vN (EK (if(ta x.eo dr.q).2 then pX (ta x.eo dr.q).1 en F us FU (-1)else ab)),vi 0]) H'/\Kp H H':=by
 have A:=Q3 gr ht (sl g (aS ss)) x h0 h1 x9 z8;obtain⟨q,l_⟩:=aI ((ta x.eo dr.q).1);obtain⟨t6,r6⟩:=aI ((ta x.eo dr.q).2);rw[<-l_,<-r6]at A ⊢;obtain⟨sd,z_⟩:=aI (sl g (aS ss));obtain⟨cd,c_⟩:=aI ([sl gr (rows rs),sd]++x.row);have l1:∀K:an,aV K ab (.c (.f (.fp cd 1)))=aa (.c (.f sd)):=λK=>by rw[c_];rfl
 have l3:∀K:an,aV K ab (.c (.f (.fp cd 3)))=aa (vi x.room):=λK=>by rw[c_];rfl
 have l4:∀K:an,aV K ab (.c (.f (.fp cd 4)))=aa (vi x.eo):=λK=>by rw[c_];rfl
 have l6:∀K:an,aV K (aa 3) (.c (.f (.fp cd 6)))=aa (.a (x.st.row.map .f)):=λK=>by rw[c_];rfl
 obtain⟨E,d⟩:=aI (EK (if t6 then pX q en F us FU (-1)else ab));have m_:=λK=>Jb g ss x.room x.eo hl K;simp only[fW]at A hu ⊢;rw[<-z_]at A hu m_ ⊢;rw[<-c_]at A hu ⊢;rw[<-d];have hsl:x.st.row.length=3:=rfl;obtain⟨L,o_⟩:=aI (cN x.room x.eo ss);have hLl:L.length<=1000:=by
  rw[o_];unfold cN;rw[agq];exact agK (ahb _ _) hl
 rw[<-o_]at m_ i7;obtain⟨N,hN⟩:=aI (H.length);obtain⟨r,H',he,rfl,hK⟩:∃r H',Ev tab (.fn ph) [.c (.f (.fp cd 0))] H r H'/\(r=.t [vN E,vi 0]/\Kp H H'):=by
  refine de (C:=λr H'=>r=.t [vN E,vi 0]/\Kp H H') XU rfl λQ hQ=>?_;have i_:∀(t:T) (K:an) (j:Option aE),t.g 2=.c (.ptr N 0 0)->t.g 3=vi 0->Kp H K->K[N]?=aa (.box (E.map λn=>.f (fi n)) 0)->Q j ⟨t,[],K⟩:=by
   intro t K j v g3 hk hb;have z7:E.length=8:=by rw[d];exact EL _
   refine hQ _ _ (.t [vN E,vi 0]) rfl ?_ ⟨rfl,hk⟩;simp[Km.results,cC,bu,v,g3,aV,aA,hb,aW,z7,agw,vN]
  have zero:∀(t:T) (K:an) (k:List dU),E=[0,0,0,0,0,0,0,0]->t.g 2=.c (.ptr N 0 0)->Kp H K->K[N]?=aa (.box (([0,0,0,0,0,0,0,0]:List Int).map λn=>.f (fi n)) 0)->
    WP tab ph ab (.code (.seq Ki .ret)::k) ⟨t,[],K⟩ Q:=by
   intro t K k hr v hk hb;simp only[agm,agp]at hb;have s1:cY K (.ptr N 0 0) [.f (fi 0),.f (fi 0),.f (fi 0),.f (fi 0),.f (fi 0),.f (fi 0),.f (fi 0),.f (fi 0)]=aa (K.set N (.box [.f (fi 0),.f (fi 0),.f (fi 0),.f (fi 0),.f (fi 0),.f (fi 0),.f (fi 0),.f (fi 0)] 0)):=by simp[cY,hb,over]
   apply ai;simp[v,s1,-bw];refine az ?_;refine i_ _ _ _ ?_ ?_ (hk.re ap _) ?_
   .simp[v]
   .simp
   rw[BY (aj hb),hr];rfl
  apply ai;simp;obtain⟨K0,c9⟩:=aI (H++[bO.box (([0,0,0,0,0,0,0,0]:List Int).map λn=>.f (fi n)) 0]:an);have k0:Kp H K0:=by rw[c9];exact Kp.push _ _
  have c0:K0[N]?=aa (.box (([0,0,0,0,0,0,0,0]:List Int).map λn=>.f (fi n)) 0):=by rw[c9,hN];simp
  have n0:K0.length=N+1:=by rw[c9,hN];simp
  simp only[agm,agp]at c9;rw[<-c9,<-hN];apply ai;simp[A];apply au;apply ai;simp;cases t6 with
  |false=>
   refine aw bv ?_;have n8:=c0;simp only[agm,agp]at n8;have s1:cY K0 (.ptr N 0 0) [.f (fi 0),.f (fi 0),.f (fi 0),.f (fi 0),.f (fi 0),.f (fi 0),.f (fi 0),.f (fi 0)]=aa (K0.set N (.box [.f (fi 0),.f (fi 0),.f (fi 0),.f (fi 0),.f (fi 0),.f (fi 0),.f (fi 0),.f (fi 0)] 0)):=by simp[cY,n8,over]
   apply ai;simp[s1,-bw];refine az ?_;refine i_ _ _ _ ?_ ?_ (k0.re ap _) ?_
   .simp
   .simp
   .rw[BY (aj c0),d];rfl
  |true=>
   simp only[if_true]at d;refine bE bv ?_;obtain⟨c,K1,p_,u9,i9,y7⟩:=m_ K0;have k2:=y7;obtain⟨c',K3,e1,j6,e3,e4⟩:=u9.aeL (gG _) ce (rows':=[x.st.row]) (λr hr=>by rw[If.1 hr];rfl) (bytes:=56) (by simp[cD];omega) .fs;have t7:sl .fs [x.st.row]=.fs x.st.row 1:=rfl;rw[t7]at e1;have y6:Vl (x.st.row.map .f)=aa x.st.row:=rfl;have r5:∀i,bf c'=aa i->K0.length<=i:=λi hi=>by
    rcases e4 with h|h
    .exact i9 i (by rw[<-h];exact hi)
    .rw[h]at hi;cases hi;have:=k2.1;omega
   have k3:Kp K0 K3:=by
    refine⟨by have:=e3.1;have:=k2.1;omega,λi hi=>?_⟩;rw[<-k2.2 i hi];have X:i<K1.length:=by have:=k2.1;omega
    rw[By X];exact e3.2 i _ (By X) λh=>by have:=i9 i h;omega
   have er:cE L++[x.st.row]=cE (L++[x.st]):=by simp[cE]
   rw[er]at j6;obtain⟨g3',j9⟩:=j6.ex (gG _) 63;have m9:cE (L++[x.st])≠[]:=by simp[cE]
   rw[R9 (g':=.fs) m9]at j9;change fh deep K3 c'=_ at j9;obtain⟨K4,n_⟩:=aI (ef deep c' K3);have k4:Kp K0 K4:=by
    rw[n_];rcases j6.x.mkH 63 with e|⟨b,ep,fl,fl',h1,h2,h3⟩
    .change ef deep c' K3=K3 at e;rw[e];exact k3
    .change ef deep c' K3=_ at h3;rw[h3];exact k3.re (r5 b h1) _
   refine au (eF (.inl rfl) ?_ ?_)
   case refine_2=>
    intro cc x8;have x6:cc=(19,14):=by simpa using x8
    subst x6;refine⟨ce,_,rfl,.inr ⟨ce,?_⟩⟩;simp[l1,l3,l4,l6,p_.eq,gj,u_,-ax]
   simp[l1,l3,l4,l6,p_.eq,hsl,y6,e1,j9,i7,<-n_,-ax]
   suffices go:∀u:T,u.g 0=.c (.f (.fp cd 0))->u.g 2=.c (.ptr N 0 0)->u.g 4=vi q->u.g 5=vb ae->u.g 6=vi en->WP tab ph ab [.code Kh] ⟨u,[],K4⟩ Q by
    exact go _ bv bv bv bv bv
   intro u S v Y g5 W;have k5:Kp H K4:=k0.tr k4;have c4:K4[N]?=aa (.box (([0,0,0,0,0,0,0,0]:List Int).map λn=>.f (fi n)) 0):=k4.get c0;have ln4:N<K4.length:=aj c4;apply au;apply ai;simp[g5];refine bE bv ?_;obtain⟨m,hm⟩:=aI (K4.length);obtain⟨K5,f_⟩:=aI (K4++[bO.map []]);have m5:K5[m]?=aa (.map (tO [])):=by rw[f_,hm];simp[tO]
   have c5:K5[N]?=aa (.box (([0,0,0,0,0,0,0,0]:List Int).map λn=>.f (fi n)) 0):=by rw[f_,AI ln4];exact c4
   have k6:Kp H K5:=by rw[f_];exact k5.tr (Kp.push _ _)
   apply ai;simp[CZ];rw[<-hm,<-f_];apply au;apply ai;simp;refine ay ?_;obtain⟨e,x_⟩:=aI (en);rw[<-x_]at W d;have heb:e<=30000:=by omega
   refine dc (λk s=>∃(n:Int) (u:T) (K:an) (l:List (Int × C)),s=⟨u,[],K⟩/\-1<=n/\n+k=FU-1/\u.g 0=.c (.f (.fp cd 0))/\u.g 2=.c (.ptr N 0 0)/\u.g 4=vi q/\u.g 6=vi e/\u.g 7=.c (.mp m)/\u.g 8=vi n/\Kp H K/\m<K.length/\
    K[N]?=aa (.box (([0,0,0,0,0,0,0,0]:List Int).map λn=>.f (fi n)) 0)/\K[m]?=aa (.map (tO l))/\E=EK (pX q e F us k n)) FU
    ⟨-1,_,K5,[],rfl,ap,ap,by simp[S],by simp[v],by simp[Y],by simp[W],bv,bv,k6,aj m5,c5,m5,d⟩ ?_
   clear d;rintro k s ⟨n,u,K,l,rfl,hn1,hnk,S,v,Y,W,Z,I,hK,y8,hc,g_,d⟩ ih;have r_:m≠N:=by rintro rfl;rw[g_]at hc;cases hc
   apply au;apply ai;simp[W,I,aZ (n:=7*n)];by_cases X:7*n<e
   case neg=>
    refine aD ge (bJ rfl ?_);refine zero _ K _ ?_ (by simp[v]) hK hc;rw[d];cases k with
    |zero=>rfl| succ k=>rw[pX,ct X];rfl
   obtain⟨k,rfl⟩:∃k',k=k'+1:=⟨k-1,ap⟩
   rw[pX,bZ X]at d;refine aw (by simp[X]) (aR ?_);apply au;refine ay ?_;obtain⟨y_,gO,h_⟩:=ho n ap ap;have s_:=hu n ap ap;obtain⟨O,hO⟩:=aI (F n);obtain⟨U,hU⟩:=aI (us n);rw[<-hO]at y_ h_ d;rw[<-hU]at s_ d;have d9:∀(w:T) (K':an) (l':List (Int × C)),E=EK (pX q e F us k (n+1))->w.g 0=.c (.f (.fp cd 0))->w.g 2=.c (.ptr N 0 0)->w.g 4=vi q->w.g 6=vi e->w.g 7=.c (.mp m)->w.g 8=vi n->Kp H K'->K'[m]?=aa (.map (tO l'))->K'[N]?=aa (.box (([0,0,0,0,0,0,0,0]:List Int).map λn=>.f (fi n)) 0)->
     WP tab ph ab [.code zU,.inLoop zT,.inBlock 0,.code zW] ⟨w,[],K'⟩ Q:=by
    intro w K' l' hr S v Y W Z I t8 B v_;refine aq (.inl rfl) ?_;simp[I,aZ (n:=n+1)];exact ih k _ ap ⟨n+1,_,K',l',rfl,ap,ap,by simp[S],by simp[v],by simp[Y],by simp[W],by simp[Z],bv,t8,aj B,v_,B,hr⟩
   apply ai;simp[S,I,l6,h_,-ax];apply au;apply ai;have i8:∀J:an,bh J (.f (sl gO (aF O)))=aa O.length:=λJ=>by simp
   simp[i8];by_cases j7:O=[]
   .refine aw (by simp[j7]) (bJ (k':=[.code zU,.inLoop zT,.inBlock 0,.code zW]) rfl ?_);rw[j7]at d;exact d9 _ K l d (by simp[S]) (by simp[v]) (by simp[Y]) (by simp[W]) (by simp[Z]) (by simp[I]) hK g_ hc
   refine bE (by simp[j7]) ?_;apply ai;simp[S,Z,I,s_,qT,Rm g_];obtain⟨K1,e_⟩:=aI (K.set m (.map (tO (oD n (.f (fi U)) l))));have w1:K1[m]?=aa (.map (tO (oD n (.f (fi U)) l))):=by rw[e_];exact BY y8
   have w2:K1[N]?=aa (.box (([0,0,0,0,0,0,0,0]:List Int).map λn=>.f (fi n)) 0):=by rw[e_,sh r_];exact hc
   have r9:H.length<=m:=by rw[hm];exact k5.1
   have w3:Kp H K1:=by rw[e_];exact hK.re r9 _
   rw[<-e_];apply ai;simp[i8];have M:=λ(j:Nat) (hj:j<O.length) (H:an)=>bz (H:=H) (g:=gO) (rows:=aF O) (sz:=3) (k:=.i64) (i:=(j:Int)) ap ge;refine bS O.length (λj t J=>t.g 0=.c (.f (.fp cd 0))/\t.g 2=.c (.ptr N 0 0)/\t.g 4=vi q/\t.g 6=vi e/\t.g 7=.c (.mp m)/\t.g 8=vi n/\t.g 71=.c (.f (sl gO (aF O)))/\Kp H J/\J[N]?=aa (.box (([0,0,0,0,0,0,0,0]:List Int).map λn=>.f (fi n)) 0)/\
    ∃l' d_,J[m]?=aa (.map (tO l'))/\Cj n l'=aa (.f (fi d_))/\kG q U O=kG q d_ (O.drop j)) ap ce ce bv bv
    ⟨by simp[S],by simp[v],by simp[Y],by simp[W],by simp[Z],by simp[I],bv,w3,w2,_,U,w1,wJ _ _ _,bv⟩ ?_ ?_
   .clear S v Y W Z I w1 w2 w3 hc hK g_;rintro j t J hj ⟨S,v,Y,W,Z,I,j5,hK,hc,l',d_,B,q_,z⟩ ha hb next
    have s7:=λH:an=>cf (H:=H) (bM O) (dB hj);have M:=M j hj;simp only[agD]at M;rw[ags hj,kG]at z;generalize O[j]=y at *;have hyl:y.row.length=3:=rfl;obtain⟨J1,a_⟩:=aI (J++[bO.box (y.row.map .f) 0]);have d1:J1[J.length]?=aa (.box (y.row.map .f) 0):=by rw[a_];simp
    have y1:∀K:an,K[J.length]?=J1[J.length]?->aV K ab (.c (.ptr J.length 1 0))=aa (vi y.fr)/\aV K ab (.c (.ptr J.length 2 0))=aa (vi y.to)/\aV K (aa 3) (.c (.ptr J.length 0 0))=aa (.a [.f (fi y.day),.f (fi y.fr),.f (fi y.to)]):=λK hK=>by
     refine⟨?_,?_,?_⟩<;>simp[aV,aA,hK.trans d1,aW,aC.row]
    have k_:J1[m]?=aa (.map (tO l')):=by rw[a_,AI (aj B)];exact B
    have w_:J1[N]?=aa (.box (([0,0,0,0,0,0,0,0]:List Int).map λn=>.f (fi n)) 0):=by rw[a_,AI (aj hc)];exact hc
    have t_:Kp H J1:=by rw[a_];exact hK.tr (Kp.push _ _)
    refine ay ?_;apply ai;simp[j5,ha,M,s7,hyl,-ax];rw[<-a_];obtain⟨y1a,y1b,-⟩:=y1 J1 rfl;obtain⟨T1,p9⟩:=aI (ah .i64 (d_+ah .i64 (y.to-y.fr)));rw[<-p9]at z;obtain⟨J2,b_⟩:=aI (J1.set m (.map (tO (oD n (.f (fi T1)) l'))));have r7:J2[m]?=aa (.map (tO (oD n (.f (fi T1)) l'))):=by rw[b_];exact BY (aj k_)
    have j8:J2[N]?=aa (.box (([0,0,0,0,0,0,0,0]:List Int).map λn=>.f (fi n)) 0):=by rw[b_,sh r_];exact w_
    have n9:Kp H J2:=by rw[b_];exact t_.re r9 _
    have m9:m≠J.length:=by have:=aj B;omega
    apply ai;simp[Z,I,iv,IZ k_ q_,y1a,y1b,<-p9,qT,Rm k_,<-b_,-ax];apply ai;simp[Y,Z,I,iv,IZ r7 (wJ _ _ _)];by_cases j_:q<T1
    .rw[bZ j_]at z;rw[z]at d;refine aw (by simp[j_]) ?_;have i6:=j8;simp only[agm,agp]at i6;have s1:cY J2 (.ptr N 0 0) [.f (fi 14),.f (fi 0),.f (fi y.day),.f (fi y.fr),.f (fi y.to),.f (fi 0),.f (fi 0),.f (fi 0)]=aa (J2.set N (.box [.f (fi 14),.f (fi 0),.f (fi y.day),.f (fi y.fr),.f (fi y.to),.f (fi 0),.f (fi 0),.f (fi 0)] 0)):=by simp[cY,i6,over]
     obtain⟨-,-,y1c⟩:=y1 J2 (by rw[b_,sh m9]);apply ai;simp[v,y1c,s1,-ax,-bw];refine az ?_;refine i_ _ _ _ ?_ ?_ (n9.re ap _) ?_
     .simp[v]
     .simp
     .rw[BY (aj j8),d];rfl
    .rw[ct j_]at z;refine aD ge (aR ?_);exact av (next _ _ ⟨by simp[S],by simp[v],by simp[Y],by simp[W],by simp[Z],by simp[I],by simp[j5],n9,j8,_,T1,r7,wJ _ _ _,z⟩ (by simp[ha]) (by simp[hb]))
   .rintro t J ⟨S,v,Y,W,Z,I,j5,hK,hc,l',d_,B,q_,z⟩ - -;rw[ahK,kG]at z;rw[z]at d;exact av (d9 _ J l' d (by simp[S]) (by simp[v]) (by simp[Y]) (by simp[W]) (by simp[Z]) (by simp[I]) hK B hc)
 exact⟨H',he,hK⟩
def my:List Int:=[0,0,0,0,0,0,0,0]
def pz:List (List Int)->List Int
 |[]=>my| r::l=>if r.headD 0=0 then pz l else r
def yO:List Nat:=[BK,BL,hZ,ph]
theorem xe:∀{b:List (List Int)},(∀r∈b,r.length=8)->(pz b).length=8
 |[],_=>rfl
 |r::l,h=>by
  unfold pz;split
  .exact xe λy d=>h y (agr _ d)
  .exact h r ago
theorem PW(W g:Tg){y:List a8}{hh:Bool}(ht:js y hh)(ss:List aG)(hl:ss.length<=5)(hs:jr ss)(hm:∀s∈ss,s.jo)(x:aG)(hx:x.jo)(i7:rZ ss x=ag)
  (z:List (List Int)) (i9:z.length=4) (h8:∀r∈z,r.length=8)
  (hr:∀(i:Nat) (h:i<4) (K:an),∃B,Ev tab (.fn (yO[i]'h)) [.c (.f (fW (sl W (rows y)) (sl g (aS ss)) x))] K (.t [vN (z[i]'(by omega)),vi 0]) B/\Kp K B) :
  bg tab gm [.c (.f (sl W (rows y))),.c (.f (sl g (aS ss))),.a (x.row.map .f)]=Eq (.t [vN (pz z),vi 0]):=by
 obtain⟨r,rfl,hp⟩:∃r,r=.t [vN (pz z),vi 0]/\bg tab gm [.c (.f (sl W (rows y))),.c (.f (sl g (aS ss))),.a (x.row.map .f)] r:=by
  refine dx (S:=λr=>r=.t [vN (pz z),vi 0]) XR rfl λQ hQ=>?_;have Z:=Tm W g ht ss hl hs hm x hx;rw[i7]at Z;have i8:x.row.length=7:=rfl;obtain⟨b,v⟩:=aI (pz z);have i6:b.length=8:=by rw[v];exact xe h8
  rw[<-v]at hQ;simp only[fW]at Z hr;obtain⟨sd,d9⟩:=aI (sl g (aS ss));obtain⟨rm,c_⟩:=aI (sl W (rows y));rw[<-d9,<-c_]at Z ⊢;rw[<-d9,<-c_]at hr;obtain⟨cd,f_⟩:=aI ([rm,sd]++x.row);rw[<-f_]at Z hr;apply ai;simp[i8];obtain⟨E,A⟩:=aI ([bO.box (x.row.map .f) 0,.box [.f (fi 0),.f (fi 0),.f (fi 0),.f (fi 0),.f (fi 0),.f (fi 0),.f (fi 0),.f (fi 0)] 0]:an);have c0:E[0]?=aa (.box (x.row.map .f) 0):=by rw[A];rfl
  have c1:E[1]?=aa (.box [.f (fi 0),.f (fi 0),.f (fi 0),.f (fi 0),.f (fi 0),.f (fi 0),.f (fi 0),.f (fi 0)] 0):=by rw[A];rfl
  have n0:E.length=2:=by rw[A];rfl
  have l7:aV E (aa 7) (.c (.ptr 0 0 0))=aa (.a (x.row.map .f)):=by simp[aV,aA,c0,aW,aG.row]
  rw[<-A];have N:∀(t:T) (K:an) (j:Option aE),t.g 6=.c (.ptr 1 0 0)->t.g 7=vi 0->K[1]?=aa (.box (b.map λn=>.f (fi n)) 0)->Q j ⟨t,[],K⟩:=by
   intro t K j l g7 L;refine hQ _ _ _ rfl ?_;refine⟨rfl,.t [vN b,vi 0],?_,?_⟩
   .simp[Km.results,cC,bu,l,g7,aV,aA,L,aW,i6,agw,vN]
   .have hx:(b.map λn=>C.f (fi n))=(b.map λn=>fi n).map C.f:=by simp
    simp only[vN,hx];generalize (b.map λn=>fi n)=ys;simp[jh,dq,bu,deep]
  have go:∀t:T,t.g 6=.c (.ptr 1 0 0)->t.g 8=.c (.f (.fp cd 0))->t.g 9=vb ae->WP tab gm ab [.code NW] ⟨t,[],E⟩ Q:=by
   intro t l g8 g9;apply au;apply ai;simp[g9];refine bE bv ?_;apply au;apply ai;obtain⟨J,u⟩:=aI (E++[bO.box (yO.map λf=>C.bm f [.f (.fp cd 0)]) 0]:an);have k1:Kp E J:=by rw[u];exact Kp.push _ _
   have b1:J[2]?=aa (.box (yO.map λf=>C.bm f [.f (.fp cd 0)]) 0):=by rw[u,<-n0];simp
   have n1:J.length=3:=by rw[u];simp[n0]
   simp only[yO,agm,agp]at u;have c9:bh J (.sl 2 0 4 4 0 1)=aa 4:=by simp[bh,b1]
   simp[g8,n0];rw[<-u];simp[c9];refine bS 4 (λj t K=>t.g 6=.c (.ptr 1 0 0)/\t.g 32=.c (.sl 2 0 4 4 0 1)/\Kp J K/\pz (z.drop j)=b) ap ce ce bv bv ⟨by simp[l],bv,⟨agn _,λ_ _=>rfl⟩,by simpa using v.symm⟩ ?_ ?_
   .rintro j t K hj ⟨l,d,hK,I⟩ Y L next
    have a_:j<z.length:=by omega
    obtain⟨B,h_,e_⟩:=hr j hj K;have M:=hK.get b1;have q:=h8 _ (IN a_);rw[ags a_,pz]at I;have i1:bG K 1 ab (.c (.sl 2 0 4 4 0 1)) (vi (j:Int))=aa (.c (.ptr 2 j 0)):=by
     simp[bG,show fG (vi (j:Int))=aa (j:Int) from rfl,M];omega
    have i2:aV K ab (.c (.ptr 2 j 0))=aa (.c (.bm (yO[j]'hj) [.f (.fp cd 0)])):=by
     rw[ax,M];exact y0 (by rw[ahp,By (show j<yO.length from hj)];rfl)
    generalize z[j]=r at *;generalize yO[j]=f at *;refine ay ?_;apply ai;simp[d,Y,i1,i2,-ax];obtain⟨F,H⟩:=aI (B++[bO.box (r.map λn=>.f (fi n)) 0]);have d2:F[B.length]?=aa (.box (r.map λn=>.f (fi n)) 0):=by rw[H];simp
    have b_:Kp J F:=(hK.tr e_).tr (by rw[H];exact Kp.push _ _);have l0:aV F ab (.c (.ptr B.length 0 0))=aa (vi (r.headD 0)):=by
     match r,q with
     |p0::_,_=>simp[aV,aA,d2]
    have l8:aV F (aa 8) (.c (.ptr B.length 0 0))=aa (.a (r.map λn=>.f (fi n))):=by
     simp[aV,aA,d2,aW,q,agw]
    apply au;refine aq (.inl rfl) ?_;simp[h_.eq,vN,q,-ax];rw[<-H]
    suffices d_:∀w:T,w.g 6=.c (.ptr 1 0 0)->w.g 12=.c (.ptr B.length 0 0)->w.g 13=vi 0->w.g 32=.c (.sl 2 0 4 4 0 1)->w.g 33=vi (4:Nat)->w.g 34=vi (j:Nat)->WP tab gm ab [.code JY,.inBlock 1,.code (nK 34 52),.inLoop (fX 0 34 33 35 52 JX),.inBlock 0,.code JZ] ⟨w,[],F⟩ Q by
     exact d_ _ (by simp[l]) bv bv (by simp[d]) (by simpa using L) (by simp[Y])
    clear l d Y L;intro w l O U d L Y;apply au;refine aq (.inl rfl) ?_;simp[O,U,l0,-ax];by_cases h0:r.headD 0=0
    .rw[bZ h0]at I;refine aD (by simpa using h0) (aR ?_);exact av (next _ _ ⟨by simp[l],by simp[d],b_,I⟩ (by simp[Y]) (by simp[L]))
    .rw[ct h0]at I;refine aw (by simpa using h0) ?_;have m:=b_.get (k1.get c1);obtain⟨K3,X⟩:=aI (F.set 1 (.box (r.map λn=>.f (fi n)) 0));have s1:cY F (.ptr 1 0 0) (r.map λn=>.f (fi n))=aa K3:=by
      rw[X]
      match r,q with
      |[p0,p1,p2,p3,p4,p5,p6,p7],_=>simp[cY,m,over]
     apply ai;simp[l,O,U,l8,q,s1,-ax,-bw];refine az (N _ _ _ (by simp[l]) bv ?_);rw[X,BY (aj m),I]
   .rintro t K ⟨l,d,hK,I⟩ - -;have g_:b=my:=by
     rw[<-I,List.drop_of_length_le ap];rfl
    have m:=hK.get (k1.get c1);have s1:cY K (.ptr 1 0 0) [.f (fi 0),.f (fi 0),.f (fi 0),.f (fi 0),.f (fi 0),.f (fi 0),.f (fi 0),.f (fi 0)]=aa (K.set 1 (.box [.f (fi 0),.f (fi 0),.f (fi 0),.f (fi 0),.f (fi 0),.f (fi 0),.f (fi 0),.f (fi 0)] 0)):=by simp[cY,m,over]
    apply ai;simp[l,s1,-bw];refine az (N _ _ _ (by simp[l]) bv ?_);rw[BY (aj m),g_];rfl
  apply ai;simp[l7,Z,-ax];exact go _ bv bv bv
 exact hp.eq
theorem RT(g j l:FC)(len b d:Int)(q:nb len)(s:nb b)(u:nb d) :
  bg tab Xl [.a [.f g,.f (fi len),.f j],.a [.f l,.f (fi b)],vi d]=Eq (.a ((bV len b d).row.map .f)):=bg.eq (Kf.RJ (by
 unfold nb at *;refine dh rfl rfl λH Q m=>?_;apply ai;simp;apply ai;simp[aZ (n:=d*1440),aZ (n:=d*1440+b)];apply ai;simp[aZ (n:=d*1440+b+len)];refine az (m _ _ ?_);simp[bV,aC.row]))
theorem MC(x y:aC):Kf tab Fz [.a (x.row.map .f),.a (y.row.map .f)] (vi (fO x y)):=by
 refine dh rfl rfl λH Q d=>?_;have b:=Eo .fs [eE x.fr y.fr,eE x.day y.day,eE x.to y.to] bv;simp[ints,sl,Tg.fc]at b;apply ai;simp[aC.row];apply ai;simp[mf,deep,gT,jL,b];refine az (d _ _ ?_);simp[fO]
theorem UN(a:Int)(g:-4611686018427387904<=a)(b:a<=4611686018427387904):bg tab Xo [vi a]=Eq (vi (a / 10080)):=Kf.eq (by
 refine dh rfl rfl λH Q d=>?_;apply ai;simp;apply ai;simp[fF a 10080 ap g b];apply ai;simp;refine az (d _ _ ?_);simp)
def LM(q b:Int):Int:=(q*10080-b+1440-1) / 1440
def Jl(s:aH)(q:Int)(x:aC):Prop:=∃f p l b d,s.cs=[⟨.fs,[⟨.fs,[cG f p l]⟩],b⟩]/\x=bV s.len b d/\max (LM q b) 0<=d/\d<LM q b+7/\bA (cG f p l) d=ae
def NF(s:aH)(q:Int)(x:aC):Prop:=Jl s q x\/(x∈s.xs/\x.fr / 10080=q)
theorem KL(s:aH)(hs:dP s)(q:Int)(n8:-1<=q)(n9:q<=5000) :
  ∃g L,(L.Pairwise aC.lt/\∀x,x∈L↔NF s q x)/\L.length<=10/\bg tab oe [.a (s.row.map .f),vi q]=Eq (.c (.f (sl g (aF L)))):=by
 have key:∃r,(∃g L,(L.Pairwise aC.lt/\∀x,x∈L↔NF s q x)/\L.length<=10/\r=.c (.f (sl g (aF L))))/\bg tab oe [.a (s.row.map .f),vi q] r:=by
  refine dx rfl rfl λQ hQ=>?_;have hF:∀x y:aC,Kf tab Fz [.a (x.row.map .f),.a (y.row.map .f)] (vi (fO x y)):=MC;obtain⟨b_,j7,j8,n_,o_,k_⟩:=hs;have i6:∀(t:T) (H:an) (c:C) (o:List aC),t.g 5=.c c->LI H c o->o.length<=10->(∀x,x∈o↔NF s q x)->WP tab oe ab [.code Kd] ⟨t,[],H⟩ Q:=by
   intro t H c o B z K v;rcases z with⟨rfl,rfl⟩|⟨m_,b,ep,rfl,i7⟩
   .obtain⟨r1,H1,e1,rfl,rfl⟩:=Sd (H:=H) (F:=Fz);obtain⟨r2,H2,e2,rfl,rfl⟩:=DK (H:=H1);apply ai;simp[B,e1.eq];apply ai;simp[B,e2.eq];refine az (hQ _ _ _ ⟨.nil,[],⟨bv,v⟩,bv,rfl⟩ ?_);simp[sl,aF,Tg.fc]
   .obtain⟨r1,H1,e1,rfl,f1,l1,q1,q2,q3⟩:=UF hF ap i7;have ll:=q2.length_eq;rw[<-ll]at e1 B;obtain⟨r2,H2,e2,l2,R2,rfl,f2,w1,w2,w3,w4⟩:=Gj ap q3 q1;apply ai;simp[B,e1.eq];apply ai;simp[B,e2.eq];refine az (hQ _ _ _ ⟨.fs,l2,⟨w3,λx=>by rw[w4,q2.mem_iff,v]⟩,ap,rfl⟩ ?_);have:=ab3 (n:=63) w1;simp[deep,this]
  have a:∀(t:T) (H:an) (c:C) (o:List aC),t.g 1=vi q->t.g 2=.c (.ptr 0 0 0)->t.g 5=.c c->H[0]?=aa (.box [C.f (sl s.cg (aU s.cs)),C.f (fi s.len),C.f (sl s.xg (aF s.xs))] 0)->LI H c o->o.length<=7->(∀x,x∈o↔Jl s q x)->
    WP tab oe ab [.code tV] ⟨t,[],H⟩ Q:=by
   intro t H c o J U B M z K v;apply au;apply ai;simp[U,M];refine bS s.xs.length (λj t H'=>t.g 1=vi q/\t.g 52=.c (.f (sl s.xg (aF s.xs)))/\∃c o',t.g 5=.c c/\LI H' c o'/\o'.length<=7+j/\∀x,x∈o'↔Jl s q x\/(x∈s.xs.take j/\x.fr / 10080=q)) ap ce ce bv bv
    ⟨by simp[J],bv,c,o,by simp[B],z,ap,by simpa using v⟩ ?_ ?_
   .rintro j t H' hj ⟨J,w,c,o',B,z,K,v⟩ ha hb next
    have E:=λH:an=>cf (H:=H) (bM s.xs) (dB hj);obtain⟨i1,i2,i3,i4,i5⟩:=k_ s.xs[j] (IN hj);have j_:=UN s.xs[j].fr ap ap;have h_:s.xs.take (j+1)=s.xs.take j++[s.xs[j]]:=by rw[agv,By hj];rfl
    simp[aC.row]at E;refine ay ?_;apply ai;simp[w,ha,bz,hj,E];have kN:(H'++[bO.box [.f (fi s.xs[j].day),.f (fi s.xs[j].fr),.f (fi s.xs[j].to)] 0])[H'.length]?=aa (.box [.f (fi s.xs[j].day),.f (fi s.xs[j].fr),.f (fi s.xs[j].to)] 0):=by simp
    have kL:=z.push [bO.box [.f (fi s.xs[j].day),.f (fi s.xs[j].fr),.f (fi s.xs[j].to)] 0];generalize l_:H'++[bO.box [.f (fi s.xs[j].day),.f (fi s.xs[j].fr),.f (fi s.xs[j].to)] 0]=HA at kN kL ⊢;apply ai;simp[J,kN,j_];by_cases hc:s.xs[j].fr / 10080=q
    .obtain⟨c',H2,e1,e2,e3,e4⟩:=(kL.push [.box [.f (fi s.xs[j].day),.f (fi s.xs[j].fr),.f (fi s.xs[j].to)] 0]).app ap (b1:=HA.length) (fl:=0) (x:=s.xs[j]) (by simp[aC.row]);refine aw (by simp[hc]) ?_;refine aq (.inl rfl) ?_;simp[B,kN,e1];refine av (next _ _ ?_ (by simp[ha]) (by simp[hb]));refine⟨by simp[J],by simp[w],c',o'++[s.xs[j]],bv,e2,ge,λx=>?_⟩;rw[agl,If,v,h_,agl,If];constructor
     .rintro((h|h)|rfl)
      .exact .inl h
      .exact .inr ⟨.inl h.1,h.2⟩
      .exact .inr ⟨.inr rfl,hc⟩
     .rintro(h|⟨h|h,h'⟩)
      .exact .inl (.inl h)
      .exact .inl (.inr ⟨h,h'⟩)
      .exact .inr h
    .refine aD (by simp[hc]) (aR (av (next _ _ ?_ (by simp[ha]) (by simp[hb]))));refine⟨by simp[J],by simp[w],c,o',by simp[B],kL,ap,λx=>?_⟩;rw[v,h_,agl,If];refine⟨λh=>h.elim .inl λh=>.inr ⟨.inl h.1,h.2⟩,λh=>h.elim .inl λh=>?_⟩;rcases h.1 with h'|rfl
     .exact .inr ⟨h',h.2⟩
     .exact absurd h.2 hc
   .rintro t H' ⟨J,w,c,o',B,z,K,v⟩ - -;rw[agu]at v;exact i6 _ H' c o' (by simp[B]) z ap λx=>v x
  apply ai;simp[aH.row];apply ai;simp;apply au;apply ai;simp;have m9:s.cs.length<=1:=by rcases b_ with e|⟨f,p,l,A,e,_⟩<;>rw[e]<;>simp
  refine bS s.cs.length (λj t H'=>t.g 1=vi q/\t.g 2=.c (.ptr 0 0 0)/\t.g 14=.c (.f (sl s.cg (aU s.cs)))/\H'[0]?=aa (.box [C.f (sl s.cg (aU s.cs)),C.f (fi s.len),C.f (sl s.xg (aF s.xs))] 0)/\∃c o,t.g 5=.c c/\LI H' c o/\o.length<=7/\(j=0->o=[]/\c=.f .aJ)/\(j=1->∀x,x∈o↔Jl s q x)) ap ce ce bv bv
   ⟨bv,bv,bv,bv,.f .aJ,[],bv,.inl ⟨rfl,rfl⟩,bv,bv,ap⟩ ?_ ?_
  .rintro j t H' hj ⟨J,U,I,M,c,o,B,z,K,d9,-⟩ ha hb next
   have j5:j=0:=by omega
   subst j5;obtain⟨rfl,rfl⟩:=d9 rfl;simp at ha;rcases b_ with e|⟨f,p,l,A,e,f0,f1,p0,p1,ln,lo,m0,m1⟩
   .rw[e]at hj;simp at hj
   have d_:=Gu f0 f1 p0 p1 ln lo;have E:=λH:an=>cf (H:=H) (eu s.cs) (iz (l:=s.cs) (j:=0) (by rw[e];simp));have a_:=λH:an=>bz (H:=H) (g:=s.cg) (rows:=aU s.cs) (sz:=2) (k:=.i64) (i:=0) ap (by rw[e];simp);have i9:s.cs[0]'(by rw[e];simp)=⟨.fs,[⟨.fs,[cG f p l]⟩],A⟩:=by simp[e]
   rw[i9]at E;simp[cW.row]at E a_;have i_:=fF (q*10080-A+1440-1) 1440 ap ap ap;obtain⟨fst,Z⟩:=aI (LM q A);have c9:(q*10080-A+1440-1) / 1440=fst:=by rw[Z];rfl
   have g_:jz [⟨.fs,[cG f p l]⟩]=ae:=by simp[jz,jD,xI d_]
   have e_:∀d,0<=d->d<=100000->bg tab Pt [.a [.f (sl .fs (aK [⟨.fs,[cG f p l]⟩]))],vi d]=Eq (vb (bA (cG f p l) d)):=λd M O=>by
    have:=Co .fs [⟨.fs,[cG f p l]⟩] g_ d (by unfold Day;omega);rw[this];simp[vI,g_,wH,hasB,M]
   have c_:=λd (h:nb d)=>RT (sl s.cg (aU s.cs)) (sl s.xg (aF s.xs)) (sl .fs (aK [⟨.fs,[cG f p l]⟩])) s.len A d (by unfold nb;omega) (by unfold nb;omega) h;refine ay ?_;apply ai;simp[I,ha,a_,E];have kN:(H'++[bO.box [.f (sl .fs (aK [⟨.fs,[cG f p l]⟩])),.f (fi A)] 0])[H'.length]?=aa (.box [.f (sl .fs (aK [⟨.fs,[cG f p l]⟩])),.f (fi A)] 0):=by simp
   have k0:(H'++[bO.box [.f (sl .fs (aK [⟨.fs,[cG f p l]⟩])),.f (fi A)] 0])[0]?=aa (.box [C.f (sl s.cg (aU s.cs)),C.f (fi s.len),C.f (sl s.xg (aF s.xs))] 0):=by rw[AI (aj M)];exact M
   generalize H'++[bO.box [.f (sl .fs (aK [⟨.fs,[cG f p l]⟩])),.f (fi A)] 0]=HA at kN k0 ⊢;obtain⟨bN,i8⟩:=aI (H'.length);rw[<-i8]at kN ⊢;apply ai;simp[J,kN,aZ (n:=q*10080),aZ (n:=q*10080-A),aZ (n:=q*10080-A+1440),aZ (n:=q*10080-A+1440-1),i_,c9];apply ai;simp;have fb:-7<=fst/\fst<=40000:=by omega
   refine ay ?_;refine dc (λm st=>∃(u:Int) (t:T) (H:an) (c:C) (o:List aC),st=⟨t,[],H⟩/\(m:Int)=fst+7-u/\max fst 0<=u/\u<=fst+7/\t.g 1=vi q/\t.g 2=.c (.ptr 0 0 0)/\t.g 7=.c (.ptr bN 0 0)/\t.g 8=vi fst/\t.g 10=vi u/\t.g 14=.c (.f (sl s.cg (aU s.cs)))/\t.g 15=vi (s.cs.length:Nat)/\t.g 16=vi 0/\t.g 5=.c c/\
    H[0]?=aa (.box [C.f (sl s.cg (aU s.cs)),C.f (fi s.len),C.f (sl s.xg (aF s.xs))] 0)/\H[bN]?=aa (.box [.f (sl .fs (aK [⟨.fs,[cG f p l]⟩])),.f (fi A)] 0)/\LI H c o/\(o.length:Int)<=u-max fst 0/\∀x,x∈o↔∃d,x=bV s.len A d/\max fst 0<=d/\d<u/\bA (cG f p l) d=ae) (fst+7-max fst 0).toNat
    ⟨max fst 0,_,HA,.f .aJ,[],rfl,ap,ap,ap,by simp[J],by simp[U],bv,bv,bv,by simp[I],by simpa using hb,by simp[ha],by simp[B],k0,kN,.inl ⟨rfl,rfl⟩,bv,λx=>by simp;intros;omega⟩ ?_
   rintro m st ⟨u,t,H,c,o,rfl,hm,c0,c1,J,U,g7,g8,N,I,W,X,B,M,hN,z,K,v⟩ ih;apply au;apply ai;simp[g8,N,aZ (n:=fst+7)];by_cases j9:u<fst+7
   .refine aw (by simp[j9]) (aR ?_);apply au;refine ay ?_;have go:∀(t:T) (H:an) (c:C) (o:List aC),t.g 1=vi q->t.g 2=.c (.ptr 0 0 0)->t.g 7=.c (.ptr bN 0 0)->t.g 8=vi fst->t.g 10=vi u->t.g 14=.c (.f (sl s.cg (aU s.cs)))->t.g 15=vi (s.cs.length:Nat)->t.g 16=vi 0->t.g 5=.c c->
      H[0]?=aa (.box [C.f (sl s.cg (aU s.cs)),C.f (fi s.len),C.f (sl s.xg (aF s.xs))] 0)->H[bN]?=aa (.box [.f (sl .fs (aK [⟨.fs,[cG f p l]⟩])),.f (fi A)] 0)->LI H c o->(o.length:Int)<=u+1-max fst 0->(∀x,x∈o↔∃d,x=bV s.len A d/\max fst 0<=d/\d<u+1/\bA (cG f p l) d=ae)->
      WP tab oe ab [.inBlock 3,.code Kc,.inLoop Ka,.inBlock 2,.inBlock 1,.code (nK 16 50),.inLoop (fX 0 16 15 17 50 zR),.inBlock 0,.code tV] ⟨t,[],H⟩ Q:=by
     intro t H c o J U g7 g8 N I W X B M hN z K v;refine av (aq (.inl rfl) ?_);simp[N,aZ (n:=u+1)];exact ih (fst+7-(u+1)).toNat _ ap ⟨u+1,_,H,c,o,rfl,ap,ap,ap,by simp[J],by simp[U],by simp[g7],by simp[g8],bv,by simp[I],by simp[W],by simp[X],by simp[B],M,hN,z,ap,v⟩
    apply ai;simp[g7,N,hN,e_ u ap ap];cases hc:bA (cG f p l) u
    .refine bE bv ?_;refine go _ H c o (by simp[J]) (by simp[U]) (by simp[g7]) (by simp[g8]) (by simp[N]) (by simp[I]) (by simp[W]) (by simp[X]) (by simp[B]) M hN z ap λx=>?_;rw[v];constructor
     .rintro⟨d,O,Y,h3,S⟩;exact⟨d,O,Y,ap,S⟩
     .rintro⟨d,O,Y,h3,S⟩;by_cases hd:d=u
      .subst hd;rw[hc]at S;cases S
      .exact⟨d,O,Y,ap,S⟩
    .have f_:=c_ u (by unfold nb;omega);simp[bV,aC.row]at f_;obtain⟨c',H2,e1,e2,e3,e4⟩:=(z.push [.box [.f (fi u),.f (fi (u*1440+A)),.f (fi (u*1440+A+s.len))] 0]).app ap (b1:=H.length) (fl:=0) (x:=bV s.len A u) (by simp[aC.row,bV]);have p0:=e4 _ _ (show(H++[bO.box [.f (fi u),.f (fi (u*1440+A)),.f (fi (u*1440+A+s.len))] 0])[0]?=_ by rw[AI (aj M)];exact M) rfl;have pN:=e4 _ _ (show(H++[bO.box [.f (fi u),.f (fi (u*1440+A)),.f (fi (u*1440+A+s.len))] 0])[bN]?=_ by rw[AI (aj hN)];exact hN) rfl;refine aw bv ?_;refine aq (.inl rfl) ?_;simp[U,B,g7,N,M,hN,f_,e1];refine go _ H2 c' (o++[bV s.len A u]) (by simp[J]) (by simp[U]) (by simp[g7]) (by simp[g8]) (by simp[N]) (by simp[I]) (by simp[W]) (by simp[X]) bv p0 pN e2 ge λx=>?_;rw[agl,If,v];constructor
     .rintro(⟨d,O,Y,h3,S⟩|rfl)
      .exact⟨d,O,Y,ap,S⟩
      .exact⟨u,rfl,ap,ap,hc⟩
     .rintro⟨d,O,Y,h3,S⟩;by_cases hd:d=u
      .subst hd;exact .inr O
      .exact .inl ⟨d,O,Y,ap,S⟩
   .have:u=fst+7:=by omega
    subst this;refine aD bv ?_;refine bJ (k':=[.inBlock 1,.code (nK 16 50),.inLoop (fX 0 16 15 17 50 zR),.inBlock 0,.code tV]) rfl ?_;refine av (next _ _ ?_ (by simp[X]) (by simp[W]));refine⟨by simp[J],by simp[U],by simp[I],M,c,o,by simp[B],z,ap,ap,λ_ x=>?_⟩;rw[v];constructor
    .rintro⟨d,O,Y,h3,S⟩;exact⟨f,p,l,A,d,e,O,by rw[<-Z];omega,by rw[<-Z];omega,S⟩
    .rintro⟨f',p',l',p9,d,e',O,Y,h3,S⟩;rw[e]at e';simp[cG]at e';obtain⟨⟨rfl,rfl,rfl⟩,rfl⟩:=e';exact⟨d,O,ap,ap,S⟩
  .rintro t H' ⟨J,U,I,M,c,o,B,z,K,d9,j6⟩ - -;refine a _ H' c o (by simp[J]) (by simp[U]) (by simp[B]) M z K λx=>?_;rcases b_ with e|⟨f,p,l,A,e,_⟩
   .obtain⟨rfl,rfl⟩:=d9 (by rw[e];rfl);refine⟨λh=>by simp at h,λ⟨f,p,l,A,d,e',_⟩=>?_⟩;rw[e]at e';cases e'
   .exact j6 (by rw[e];rfl) x
 obtain⟨r,⟨g,L,O,Y,rfl⟩,h⟩:=key;exact⟨g,L,O,Y,bg.eq h⟩
def Rq:aO:=⟨.nil,[],0,1,.nil,[]⟩
theorem Rs:jG 12 Rq:=⟨ce,ce,ce,ce⟩
theorem TZ(g:Tg)(p:aO)(m:jG 12 p):∃q,cI q=ae/\q.fr<=max 0 p.fr/\q.aT ∣ p.aT/\(∀d,0<=d->bA q d=bA p d)/\bg tab abG [.a [.f (sl g (aX [[p]]))]]=Eq (.t [.a (q.row.map .f),vi 0]):=by
 have U:=(bC m.ok).2.2.1;obtain⟨q,A,B,E,F,s⟩:=Vc Rq p Rs m (R:=p.aT) ap m.aT (Int.one_dvd _) (ahA _);refine⟨q,A,B,E,λd J=>?_,?_⟩
 .rw[F d J];have:bA Rq d=ag:=by simp[bA,Rq]
  simp[this]
 .have z:=lL (Nb:=12) g (us:=[[p]]) ⟨bv,λu y=>by
   simp only[If]at y;subst y;exact⟨bv,bv,λq v=>by simp only[If]at v;subst v;exact m⟩⟩
  obtain⟨a,b,c,e,x⟩:∃a b c e,p.row=[a,b,c,e]:=⟨_,_,_,_,rfl⟩
  obtain⟨a',N,O,S,l⟩:∃a b c e,q.row=[a,b,c,e]:=⟨_,_,_,_,rfl⟩
  have K:Rq.row=[.aJ,fi 0,fi 1,.aJ]:=rfl;have L:sl g (aX [[p]])=.fs [.fs [a,b,c,e] 1] 1:=by
   simp[sl,aX,aQ,x]
  rw[L]at z ⊢;rw[x,l,K]at s;rw[l];simp only[agm,agp]at s ⊢;have M:ah .i64 1=1:=by decide
  have j:∀H:an,cu H 4 (.c (.f (.fs [a,b,c,e] 1))) (aa (vi 1)) ab ab=aa (.c (.f (.fs [] 0))):=λH=>rfl;refine bg.eq (bK rfl rfl λQ I=>?_)
  repeat' first
   |(refine az (I _ _ ?_))
   |(apply au)
   |(refine ay ?_)
   |(refine eG ?_)
   |(refine eR ?_)
   |(refine av ?_)
   |(refine aR ?_)
   |(refine bJ rfl ?_)
   |(refine aw ?_ ?_;focus (simp;done))
   |(refine aD ?_ ?_;focus (simp;done))
   |(refine aq (.inl rfl) ?_;simp[j,z,s,bh,bG,fG,ig,uG,M])
  simp[Km.px,Km.results,cC,bu,aW,deep,jh,dq]
structure py(F P:Int)(s:aH):Prop where
 cls:∀c∈s.cs,∀f p l,c.ts=[⟨.fs,[cG f p l]⟩]->∀d,F<=d->bA (cG f p l) (d+P)=bA (cG f p l) d
 ext:∀x∈s.xs,x.fr / 1440<=F
theorem I5{g:Int->Bool}{F P:Int}(b:0<=P)(h:∀d,F<=d->g (d+P)=g d):∀(k:Nat) (d:Int),F<=d->g (d+P*k)=g d
 |0,d,_=>by simp
 |k+1,d,j=>by
  have:=Int.mul_nonneg b (Int.natCast_nonneg k);rw[Int.natCast_succ,Int.mul_add,Int.mul_one,<-Int.add_assoc,h _ ap,I5 b h k d j]
theorem py.mono{F P g b:Int}{s:aH}(h:py F P s)(j:F<=g)(q:0<=P)(u:0<=b)(hd:P ∣ b):py g b s:=by
 refine⟨λc hc f p l e d v=>?_,λx z=>ag5 (h.ext x z) j⟩;by_cases h0:P=0
 .subst h0;have:b=0:=Int.zero_dvd.1 hd;subst this;simp
 obtain⟨k,rfl⟩:=hd;have k0:0<=k:=by
  refine Int.not_lt.1 λy=>?_;have:=Int.mul_neg_of_pos_of_neg (show 0<P by omega) y;omega
 obtain⟨m,rfl⟩:=Int.eq_ofNat_of_zero_le k0;exact I5 q (λd hd=>h.cls c hc f p l e d hd) m d ap
theorem GA(g:Tg)(L:List aH)(hl:L.length<=2000)(h:∀s∈L,cZ s) :
  ∃F P:Int,0<=F/\F<=13/\7 ∣ P/\1<=P/\P<=420/\(∀s∈L,py F P s)/\bg tab Fx [.c (.f (sl g (cE L)))]=Eq (.t [vi (F+15+P),vb ae]):=by
 obtain⟨r,⟨F,P,F0,F1,P7,o,P2,hs,rfl⟩,hp⟩:∃r,(∃F P:Int,0<=F/\F<=13/\7 ∣ P/\1<=P/\P<=420/\(∀s∈L,py F P s)/\r=.t [vi (F+15+P),vb ae])/\bg tab Fx [.c (.f (sl g (cE L)))] r:=by
  refine dx rfl rfl λQ hQ=>?_;apply ai;simp;apply ai;simp;apply au;apply ai;simp;refine bS L.length (λj t J=>t.g 16=.c (.f (sl g (cE L)))/\∃F P:Int,0<=F/\F<=13/\7 ∣ P/\1<=P/\P ∣ 420/\(∀s∈L.take j,py F P s)/\t.g 4=vi F/\t.g 5=vi P) ap ce ce bv bv ⟨bv,0,7,ce,ce,ce,ce,ce,bv,bv,bv⟩ ?_ ?_
  .rintro j t J hj ⟨v,F,P,F0,F1,P7,o,P2,m,W,X⟩ ha hb next
   have hs:=h L[j] (IN hj);have p_:L.take (j+1)=L.take j++[L[j]]:=by rw[agv,By hj];rfl
   have A:=λH:an=>bz (H:=H) (g:=g) (rows:=cE L) (sz:=3) (k:=.i64) (i:=(j:Int)) ap ge;have O:=λH:an=>cf (H:=H) (gG L) (zH hj);simp only[agD]at A;generalize L[j]=s at *;have p9:s.row.length=3:=rfl;obtain⟨b,i9⟩:=aI (J.length);obtain⟨J1,i7⟩:=aI (J++[bO.box (s.row.map .f) 0]);have d1:J1[b]?=aa (.box (s.row.map .f) 0):=by rw[i7,i9];simp
   have x0:∀K:an,K[b]?=J1[b]?->aV K ab (.c (.ptr b 0 0))=aa (.c (.f (sl s.cg (aU s.cs)))):=λK hK=>by simp[aV,aA,hK.trans d1,aH.row]
   have x2:∀K:an,K[b]?=J1[b]?->aV K ab (.c (.ptr b 2 0))=aa (.c (.f (sl s.xg (aF s.xs)))):=λK hK=>by simp[aV,aA,hK.trans d1,aH.row]
   obtain⟨j7,n8,n9,s_,t6,r5⟩:=hs;have r9:s.cs.length<=1:=by rcases j7 with e|⟨f,p,l,mi,e,-⟩<;>rw[e]<;>simp
   have j5:∀K:an,bh K (.f (sl s.cg (aU s.cs)))=aa s.cs.length:=λK=>by simp
   have j_:∀K:an,bh K (.f (sl s.xg (aF s.xs)))=aa s.xs.length:=λK=>by simp
   refine ay ?_;apply ai;simp[v,ha,A,O,p9,-ax];rw[<-i7,<-i9];apply au;apply ai;simp[x0 J1 rfl,j5,-ax];refine bS s.cs.length (λi u K=>u.g 16=.c (.f (sl g (cE L)))/\u.g 17=vi (L.length:Nat)/\u.g 18=vi j/\u.g 7=.c (.ptr b 0 0)/\u.g 23=.c (.f (sl s.cg (aU s.cs)))/\K[b]?=J1[b]?/\∃F P:Int,0<=F/\F<=13/\7 ∣ P/\1<=P/\P ∣ 420/\(∀s∈L.take j,py F P s)/\(i=s.cs.length->py F P ⟨s.cg,s.cs,s.len,s.xg,[]⟩)/\u.g 4=vi F/\u.g 5=vi P) ap ce ce bv bv
    ⟨by simp[v],by simp[hb],by simp[ha],bv,bv,rfl,F,P,F0,F1,P7,o,P2,m,λh0=>⟨λc hc=>by rw[List.length_eq_zero_iff.1 h0.symm]at hc;simp at hc,bv⟩,by simp[W],by simp[X]⟩ ?_ ?_
   .rintro i u K hi ⟨v,B,E,g7,c_,hK,F,P,F0,F1,P7,o,P2,m,-,W,X⟩ S e_ I;have m_:i=0:=by omega
    subst m_;rcases j7 with e|⟨f,p,l,mi,e,f0,f1,p0,p1,-,o_,-,-⟩
    .rw[e]at hi;simp at hi
    obtain⟨q,q1,q2,q3,q4,z⟩:=TZ .fs (cG f p l) (Cy f0 f1 p0 p1 o_);have r_:q.fr<=max 0 f:=q2;have j9:q.aT ∣ p:=q3;obtain⟨w1,w2,w3,w4,-⟩:=bC q1;have s7:q.aT<=p:=agZ ap j9;have j6:∀K:an,bG K 2 ab (.c (.f (sl s.cg (aU s.cs)))) (vi 0)=aa (.c (.f (.fp [sl .fs (aX [[cG f p l]]),fi mi] 0))):=λK=>by rw[e];rfl
    have i_:∀K:an,aV K (aa 2) (.c (.f (.fp [sl .fs (aX [[cG f p l]]),fi mi] 0)))=aa (.a [.f (sl .fs (aX [[cG f p l]])),.f (fi mi)]):=λK=>rfl;obtain⟨mx,n_⟩:=aI (sl .fs (aX [[cG f p l]]));rw[<-n_]at j6 i_ z;have Y:P<=420:=agZ ce P2;have U:=GP (a:=P) (b:=q.aT) o w3;have c9:=Cz (a:=P) (b:=q.aT) o ap w3 ap;obtain⟨P',k_⟩:=aI (P / (Int.gcd P q.aT:Int)*q.aT);rw[<-k_]at U c9;have f_:q.aT ∣ 420:=ag0 j9 (by
     obtain rfl|rfl|rfl|rfl|rfl|rfl|rfl:p=1\/p=2\/p=3\/p=4\/p=5\/p=6\/p=7:=by omega
     all_goals decide)
    have N:P' ∣ 420:=U.dvd 420 P2 f_;have l_:P'<=420:=agZ ce N;have r7:=U.pos;obtain⟨j8,g_⟩:∃a c,q.row=[a,fi q.fr,fi q.aT,c]:=⟨_,_,rfl⟩
    obtain⟨h_,g_⟩:=g_;rw[g_]at z;simp only[agm,agp]at z;refine ay ?_;apply ai;simp at S;simp[c_,S,j6,i_,-ax];obtain⟨K1,a_⟩:=aI (K++[bO.box [.f mx,.f (fi mi)] 0]);have m1:K1[K.length]?=aa (.box [.f mx,.f (fi mi)] 0):=by rw[a_];simp
    have l1:aV K1 (aa 1) (.c (.ptr K.length 0 0))=aa (.a [.f mx]):=by simp[aV,aA,m1,aW]
    have lb:b<K.length:=by have:=aj (hK.trans d1);omega
    have n1:K1.length=K.length+1:=by rw[a_];simp
    rw[<-a_];apply ai;simp[l1,z,-ax];obtain⟨K2,d_⟩:=aI (K1++[bO.box [.f j8,.f (fi q.fr),.f (fi q.aT),.f h_] 0]);have m2:K2[K1.length]?=aa (.box [.f j8,.f (fi q.fr),.f (fi q.aT),.f h_] 0):=by rw[d_];simp
    have l2:aV K2 ab (.c (.ptr K1.length 2 0))=aa (vi q.aT):=by simp[aV,aA,m2]
    have l3:aV K2 ab (.c (.ptr K1.length 1 0))=aa (vi q.fr):=by simp[aV,aA,m2]
    rw[<-d_];apply au;apply ai;simp;refine bE bv ?_;refine au (ai ?_);simp[X,l2,c9,-ax];apply ai;simp;refine aD ge (aR ?_);refine aq (.inl rfl) ?_;simp[W,l3,-ax];refine av (I _ _ ⟨by simp[v],by simp[B],by simp[E],by simp[g7],by simp[c_],?_,max F q.fr,P',ap,ap,ag0 P7 U.da,ap,N,λs hs=>(m s hs).mono ap ap ap U.da,λ_=>⟨λc hc f' p' l' e' d hd=>?_,bv⟩,bv,bv⟩ (by simp[S]) (by simp[e_]))
    .rw[d_,AI ap,a_,AI lb];exact hK
    .simp only[e,If]at hc;subst hc;simp[cG]at e';obtain⟨rfl,rfl,rfl⟩:=e';change bA (cG f p l) _=bA (cG f p l) _;rw[<-q4 d ap,<-q4 (d+P') ap];exact pP w3 ap ap (by
      have:d+P'-d=P':=by omega
      rw[this];exact U.db)
   .rintro u K ⟨v,B,E,g7,c_,hK,F,P,F0,F1,P7,o,P2,m,Z,W,X⟩ - -;have Z:=Z rfl;apply ai;simp[g7,x2 K hK,j_,-ax];refine bS s.xs.length (λi w _=>w.g 16=.c (.f (sl g (cE L)))/\w.g 17=vi (L.length:Nat)/\w.g 18=vi j/\w.g 5=vi P/\w.g 56=.c (.f (sl s.xg (aF s.xs)))/\∃F':Int,F<=F'/\F'<=13/\w.g 4=vi F'/\∀x∈s.xs.take i,x.fr / 1440<=F') ap ce ce bv bv
     ⟨by simp[v],by simp[B],by simp[E],by simp[X],bv,F,ap,ap,by simp[W],bv⟩ ?_ ?_
    .rintro i w M hi ⟨v,B,E,X,d9,F',hF,i6,W,b_⟩ S e_ I;have q_:s.xs.take (i+1)=s.xs.take i++[s.xs[i]]:=by rw[agv,By hi];rfl
     have r6:=r5 s.xs[i] (IN hi);have O:=λH:an=>cf (H:=H) (bM s.xs) (dB hi);have A:=λH:an=>bz (H:=H) (g:=s.xg) (rows:=aF s.xs) (sz:=3) (k:=.i64) (i:=(i:Int)) ap ge;simp only[agD]at A;generalize s.xs[i]=x at *;obtain⟨y1,y2,y3,y4,y5⟩:=r6;have m9:=fF x.fr 1440 ap ap ap;obtain⟨M1,i8⟩:=aI (M++[bO.box [.f (fi x.day),.f (fi x.fr),.f (fi x.to)] 0]);have m1:M1[M.length]?=aa (.box [.f (fi x.day),.f (fi x.fr),.f (fi x.to)] 0):=by rw[i8];simp
     have l1:aV M1 ab (.c (.ptr M.length 1 0))=aa (vi x.fr):=by simp[aV,aA,m1]
     simp[aC.row]at O;refine ay ?_;apply ai;simp[d9,S,A,O,-ax];rw[<-i8];apply ai;simp[l1,m9,-ax];refine aq (.inl rfl) ?_;simp[W];refine av (I _ _ ⟨by simp[v],by simp[B],by simp[E],by simp[X],by simp[d9],max F' (x.fr / 1440),ap,ap,bv,λy hy=>?_⟩ (by simp[S]) (by simp[e_]));rw[q_,agl,If]at hy;rcases hy with hy|rfl
     .have:=b_ y hy;omega
     .omega
    .rintro w M ⟨v,B,E,X,d9,F',hF,i6,W,b_⟩ - -;rw[agu]at b_;refine av (next _ _ ⟨by simp[v],F',P,ap,i6,P7,o,P2,λy hy=>?_,by simp[W],by simp[X]⟩ (by simp[E]) (by simp[B]));rw[p_,agl,If]at hy;rcases hy with hy|rfl
     .exact(m y hy).mono hF ap ap (ahA _)
     .have hc:=Z.mono hF ap ap (ahA P);exact⟨hc.cls,b_⟩
  .rintro t J ⟨v,F,P,F0,F1,P7,o,P2,m,W,X⟩ - -;rw[agu]at m;have Y:P<=420:=agZ ce P2;apply ai;simp[W,X,aZ (n:=F+15),aZ (n:=F+15+P)];refine az (hQ _ _ _ ⟨F,P,F0,F1,P7,o,Y,m,rfl⟩ ?_);simp[Km.results,bu];omega
 exact⟨F,P,F0,F1,P7,o,P2,hs,hp.eq⟩
theorem fst_eq{q b:Int}(d:60<=b)(g:b<=1245):LM q b=7*q:=by unfold LM;omega
theorem GU:∀{l m:List aC},l.Pairwise aC.lt->m.Pairwise aC.lt->(∀x,x∈l↔x∈m)->l=m
 |[],[],_,_,_=>rfl| [],y::m,_,_,h=>absurd ((h y).2 ago) bv
 |x::l,[],_,_,h=>absurd ((h x).1 ago) bv
 |x::l,y::m,u,v,h=>by
  have a1:=ahm.1 u;have g:=ahm.1 v;have d:∀{z:aC},¬ z.lt z:=λ{z} h=>by unfold aC.lt at h;omega
  have j:∀{z w:aC},z.lt w->¬ w.lt z:=λ{z w} h s=>by unfold aC.lt at h s;omega
  have e:x=y:=by
   rcases agA.1 ((h x).1 ago)with e|e
   .exact e
   .rcases agA.1 ((h y).2 ago)with q|q
    .exact q.symm
    .exact absurd (g.1 x e) (j (a1.1 y q))
  subst e;have:l=m:=GU a1.2 g.2 λz=>by
   constructor
   .intro b;rcases agA.1 ((h z).1 (agr _ b))with e|e
    .exact absurd (e▸a1.1 z b) d
    .exact e
   .intro b;rcases agA.1 ((h z).2 (agr _ b))with e|e
    .exact absurd (e▸g.1 z b) d
    .exact e
  rw[this]
def uE(x:aC):List aC->List aC
 |[]=>[x]| y::r=>if x.fr=y.fr/\x.day=y.day/\x.to=y.to then y::r else if rk x y then x::y::r else y::uE x r
theorem xO(x:aC):∀(l:List aC) (z:aC),z∈uE x l↔z=x\/z∈l
 |[],z=>by simp[uE]
 |y::r,z=>by
  unfold uE;split
  .rename_i h;obtain⟨b,d,g⟩:=h;have:x=y:=by cases x;cases y;simp_all
   subst this;simp
  .split
   .simp
   .rw[agA,xO x r,agA];exact⟨λh=>h.elim (λh=>.inr (.inl h)) λh=>h.elim .inl λh=>.inr (.inr h),λh=>h.elim (λh=>.inr (.inl h)) λh=>h.elim .inl λh=>.inr (.inr h)⟩
theorem IK(x:aC):∀{l:List aC},l.Pairwise aC.lt->(uE x l).Pairwise aC.lt
 |[],_=>by simp[uE]
 |y::r,h=>by
  have g:=ahm.1 h;unfold uE;split
  .exact h
  .split
   .rename_i q b;have j:x.lt y:=by
     unfold rk at b;unfold aC.lt;split at b
     .split at b
      .simp at b;omega
      .simp at b;omega
     .simp at b;omega
    refine ahm.2 ⟨λz d=>?_,h⟩;rcases agA.1 d with rfl|d
    .exact j
    .have:=g.1 z d;unfold aC.lt at *;omega
   .rename_i q b;have m:y.lt x:=by
     unfold rk at b;unfold aC.lt;split at b
     .split at b
      .simp at b;omega
      .simp at b;omega
     .simp at b;omega
    refine ahm.2 ⟨λz d=>?_,IK x g.2⟩;rcases(xO x r z).1 d with rfl|d
    .exact m
    .exact g.1 z d
def rp(l:List aC):List aC:=l.foldr uE []
theorem Bo:∀(l:List aC) (z:aC),z∈rp l↔z∈l
 |[],z=>by simp[rp]
 |x::r,z=>by
  have:=Bo r z;show z∈uE x (rp r)↔_;rw[xO,this,agA]
theorem EZ:∀(l:List aC),(rp l).Pairwise aC.lt
 |[]=>by simp[rp]
 |x::r=>IK x (EZ r)
def Gn(s:aH)(q:Int):List aC:=match s.cs with
 |⟨_,⟨_,p::_⟩::_,b⟩::_=>((List.range 7).filter λi:Nat=>decide (0<=7*q+(i:Int))&&bA p (7*q+(i:Int))).map λi:Nat=>bV s.len b (7*q+(i:Int))
 |_=>[]
def jH(s:aH)(q:Int):List aC:=rp (Gn s q++s.xs.filter λx=>decide (x.fr / 10080=q))
theorem Cw(s:aH)(q:Int):(jH s q).Pairwise aC.lt:=EZ _
theorem Qp{s:aH}(h:dP s){q:Int}{x:aC}:x∈Gn s q↔Jl s q x:=by
 obtain⟨m,-⟩:=h;rcases m with e|⟨f,p,l,A,e,-,-,-,-,-,-,F,m1⟩
 .unfold Gn Jl;rw[e];simp
 .have u:LM q A=7*q:=fst_eq F m1;constructor
  .intro y;unfold Gn at y;rw[e]at y;obtain⟨j,v,rfl⟩:=agt.1 y;obtain⟨v,b⟩:=agT.1 v;have:=List.mem_range.1 v;rw[IS,decide_eq_true_eq]at b;exact⟨f,p,l,A,7*q+j,e,rfl,by rw[u];omega,by rw[u];omega,b.2⟩
  .rintro⟨I,K,J,H,d,g,rfl,B,E,b⟩;rw[e]at g;simp[cG]at g;obtain⟨⟨rfl,rfl,rfl⟩,rfl⟩:=g;rw[u]at B E;unfold Gn;rw[e];have z:7*q+(((d-7*q).toNat:Nat):Int)=d:=by omega
   refine agt.2 ⟨(d-7*q).toNat,agT.2 ⟨List.mem_range.2 ap,?_⟩,by rw[z]⟩;rw[z,IS,decide_eq_true_eq];exact⟨ap,b⟩
theorem pU{s:aH}(h:dP s){q:Int}{x:aC}:x∈jH s q↔NF s q x:=by
 unfold jH NF;rw[Bo,agl,Qp h,agT,decide_eq_true_eq]
theorem An(s:aH)(m:dP s)(q:Int)(b:-1<=q)(d:q<=5000):(jH s q).length<=10/\∃g,bg tab oe [.a (s.row.map .f),vi q]=Eq (.c (.f (sl g (aF (jH s q))))):=by
 obtain⟨g,L,⟨u,v⟩,j,l⟩:=KL s m q b d;have e:L=jH s q:=GU u (Cw s q) λx=>by rw[v,pU m]
 rw[e]at j l;exact⟨j,g,l⟩
theorem yv(s:aH)(g:dP s)(q:Int):(jH s q).length<=10:=by
 have d:∀(x:aC) (l:List aC),(uE x l).length<=l.length+1:=by
  intro x l;induction l with
  |nil=>simp[uE]
  |cons y r j=>
   unfold uE;split
   .simp
   .split
    .simp
    .simp only[agP];omega
 have b:∀l:List aC,(rp l).length<=l.length:=by
  intro l;induction l with
  |nil=>simp[rp]
  |cons x r j=>
   have:=d x (rp r);show(uE x (rp r)).length<=_;simp only[agP];omega
 refine agK (b _) ?_;rw[aft];have m:(Gn s q).length<=7:=by
  unfold Gn;split
  .rw[agq];refine agK (ahb _ _) ?_;simp
  .simp
 have u:=ahb (λx:aC=>decide (x.fr / 10080=q)) s.xs;have:=g.2.2.2.1;omega
theorem wN{s:aH}(h:dP s){q:Int}{x:aC}(j:x∈jH s q):0<=q/\x.fr / 10080=q/\60<=x.fr/\x.to=x.fr+s.len:=by
 rcases(pU h).1 j with⟨f,p,l,v,d,e,rfl,m,u,L⟩|⟨j,m⟩
 .obtain⟨g,-⟩:=h;rcases g with b|⟨F,N,M,z,b,-,-,-,-,-,-,y,m1⟩
  .rw[e]at b;cases b
  .rw[e]at b;simp[cG]at b;obtain⟨⟨rfl,rfl,rfl⟩,rfl⟩:=b;rw[fst_eq y m1]at m u;simp only[bV];have A:0<=q:=by omega
   have B:0<=d*1440+v-10080*q:=by omega
   have E:d*1440+v-10080*q<10080:=by omega
   refine⟨A,ap,ap,trivial⟩
 .obtain⟨u,H,I,J,K⟩:=h.2.2.2.2.2 x j;omega
def pV(s:aH)(q:Int):Int:=iI (jH s q)
def KB(O:List aC):Prop:=∀x∈O,0<x.to-x.fr/\x.to-x.fr<=10000
theorem CS:∀{O:List aC},KB O->0<=iI O/\iI O<=10000*(O.length:Int)
 |[],_=>by simp[iI]
 |x::r,h=>by
  have d:=h x ago;have g:=CS (O:=r) λy b=>h y (agr _ b);simp only[iI,agP];omega
theorem Cu{s:aH}(h:dP s)(q:Int):KB (jH s q):=λx b=>by
 obtain⟨-,-,-,e⟩:=wN h b;have:=h.2.1;have:=h.2.2.1;omega
theorem Ha{s:aH}(h:dP s)(q:Int):0<=pV s q/\pV s q<=100000:=by
 have b:=CS (Cu h q);have d:=yv s h q;unfold pV;omega
theorem RG{s:aH}(h:dP s){q:Int}(d:q<0):jH s q=[]:=List.eq_nil_iff_forall_not_mem.2 λx b=>by
 have:=(wN h b).1;omega
def shI(P:Int)(x:aC):aC:=⟨x.day+P,x.fr+1440*P,x.to+1440*P⟩
theorem Ex{s:aH}(h:dP s){F P:Int}(E:py F P s)(Q:0<=F)(S:1<=P){k:Int}(U:P=7*k){q:Int}(W:F<7*q):jH s (q+k)=(jH s q).map (shI P):=by
 have X:0<=q:=by omega
 refine GU (Cw _ _) (ahW.2 (aif (λ{a b} h=>?_) (Cw s q))) λx=>?_
 .unfold aC.lt shI at *;simp only;omega
 .rw[pU h,agt];have v:∀(q':Int) (x:aC),q<=q'->x∈s.xs->x.fr / 10080=q'->False:=λq' x L u e=>by
   have:=E.ext x u;omega
  constructor
  .rintro(⟨f,p,l,m,d,e,rfl,z,A,B⟩|⟨u,e⟩)
   .have g:60<=m/\m<=1245:=by
     rcases h.1 with j|⟨K,O,N,I,j,-,-,-,-,-,-,H,m1⟩
     .rw[e]at j;cases j
     .rw[e]at j;simp[cG]at j;obtain⟨-,rfl⟩:=j;exact⟨H,m1⟩
    rw[fst_eq g.1 g.2]at z A;have J:max (7*q) 0<=d-P:=by
     have:7*(q+k)=7*q+P:=by omega
     have:7*q+P<=d:=by omega
     omega
    refine⟨bV s.len m (d-P),(pU h).2 (.inl ⟨f,p,l,m,d-P,e,rfl,by rw[fst_eq g.1 g.2];exact J,by rw[fst_eq g.1 g.2];omega,?_⟩),?_⟩
    .have:=E.cls ⟨.fs,[⟨.fs,[cG f p l]⟩],m⟩ (by rw[e];simp) f p l rfl (d-P) ap;rw[<-this,show d-P+P=d by omega];exact B
    .unfold shI bV;simp only[aC.mk.injEq];exact⟨ap,ap,ap⟩
   .exact absurd (v _ x ap u e) id
  .rintro⟨y,M,rfl⟩;rcases(pU h).1 M with⟨f,p,l,m,d,e,rfl,z,A,B⟩|⟨u,e⟩
   .have g:60<=m/\m<=1245:=by
     rcases h.1 with j|⟨K,O,N,I,j,-,-,-,-,-,-,H,m1⟩
     .rw[e]at j;cases j
     .rw[e]at j;simp[cG]at j;obtain⟨-,rfl⟩:=j;exact⟨H,m1⟩
    rw[fst_eq g.1 g.2]at z A;refine .inl ⟨f,p,l,m,d+P,e,?_,by rw[fst_eq g.1 g.2];omega,by rw[fst_eq g.1 g.2];omega,?_⟩
    .unfold shI bV;simp only[aC.mk.injEq];exact⟨trivial,ap,ap⟩
    .have:=E.cls ⟨.fs,[⟨.fs,[cG f p l]⟩],m⟩ (by rw[e];simp) f p l rfl d ap;rw[this];exact B
   .exact absurd (v _ y ap u e) id
theorem Ja(P:Int):∀L:List aC,iI (L.map (shI P))=iI L
 |[]=>rfl
 |x::r=>by
  rw[agm,iI,iI,Ja P r];simp only[shI];omega
theorem Ey{s:aH}(h:dP s){F P:Int}(j:py F P s)(b:0<=F)(d:1<=P){k:Int}(g:P=7*k){q:Int}(l:F<7*q):pV s (q+k)=pV s q:=by
 unfold pV;rw[Ex h j b d g l,Ja]
def dA:List aH->Int->Int
 |[],_=>0| s::r,q=>pV s q+dA r q
theorem AU(a b:List aH)(q:Int):dA (a++b) q=dA a q+dA b q:=by
 induction a with
 |nil=>simp[dA]| cons x a d=>simp only[ahJ,dA,d];omega
def sD(T:List aH):Prop:=∀s∈T,dP s
theorem sD.tl{s:aH}{r:List aH}(h:sD (s::r)):sD r:=λx b=>h x (agr _ b)
theorem Ck:∀{T:List aH} (q:Int),sD T->0<=dA T q/\dA T q<=100000*(T.length:Int)
 |[],_,_=>by simp[dA]
 |s::r,q,h=>by
  have b:=Ha (h s ago) q;have d:=Ck q h.tl;simp only[dA,agP];omega
theorem GS{T U:List aH}(h:T.Perm U)(q:Int):dA T q=dA U q:=by
 induction h with
 |nil=>rfl| cons x _ g=>simp only[dA,g]| swap x y l=>simp only[dA];omega| trans _ _ b d=>exact b.trans d
theorem AV{T U:List aH}(h:List.Sublist T U)(b:sD U)(q:Int):dA T q<=dA U q:=by
 induction h with
 |slnil=>exact Int.le_refl _
 |cons x _ d=>
  have:=(Ha (b x ago) q).1;have:=d b.tl;simp only[dA];omega
 |cons_cons x _ d=>
  have:=d b.tl;simp only[dA];omega
theorem Bt(q:Int):∀(r:List aH) (b:Int),sD r->0<=b->b+100000*(r.length:Int)<=2000000000->tL (λs=>pV s q) b r=b+dA r q
 |[],b,_,_,_=>by simp[tL,dA]
 |s::r,b,h,g,d=>by
  have j:=Ha (h s ago) q;simp only[agP]at d;rw[tL,aZ,Bt q r _ h.tl ap ap,dA];omega
theorem A8{b:Int}:∀{O:List aC} {u:Int},0<=u->u+10000*(O.length:Int)<=2000000000->KB O->(kG b u O=ab↔O=[]\/u+iI O<=b)
 |[],u,_,_,_=>by simp[kG]
 |x::r,u,m,j,d=>by
  have q:=d x ago;have g:KB r:=λy l=>d y (agr _ l);have s:=CS g;simp only[agP]at j;rw[kG,aZ (n:=x.to-x.fr),aZ (n:=u+(x.to-x.fr))];simp only[iI,List.cons_ne_nil,false_or];split
  .rename_i h;constructor
   .intro h;cases h
   .intro h;omega
  .rename_i h;rw[A8 ap ap g];constructor
   .rintro(rfl|h)
    .simp[iI];omega
    .omega
   .intro h;right;omega
theorem A9{d:Int}:∀{O:List aC} {u:Int} {x:aC},0<=u->u+10000*(O.length:Int)<=2000000000->KB O->kG d u O=aa x->∃a b,O=a++x::b/\d<u+iI (a++[x])
 |[],u,x,_,_,_,h=>by simp[kG]at h
 |y::r,u,x,s,j,g,h=>by
  have v:=g y ago;have m:KB r:=λz q=>g z (agr _ q);simp only[agP]at j;rw[kG,aZ (n:=y.to-y.fr),aZ (n:=u+(y.to-y.fr))]at h;split at h
  .rename_i l;cases h;exact⟨[],r,rfl,by simp[iI];omega⟩
  .obtain⟨a,b,rfl,l⟩:=A9 ap ap m h;exact⟨y::a,b,rfl,by simp only[ahJ,iI];omega⟩
theorem EM{b e:Int}{d:Int->List aC}{us:Int->Int}:∀(k:Nat) (n:Int),e<=7*(n+k)->(pX b e d us k n=ab↔∀q,n<=q->7*q<e->kG b (us q) (d q)=ab)
 |0,n,h=>by
  simp only[pX,true_iff];intro q m g;omega
 |k+1,n,h=>by
  rw[pX];split
  .rename_i j;cases s:kG b (us n) (d n)with
   |some x=>
    simp only[reduceCtorEq,false_iff];intro l;have:=l n ap j;rw[s]at this;cases this
   |none=>
    simp only;rw[EM k (n+1) ap];constructor
    .intro l q m g;by_cases e:q=n
     .subst e;exact s
     .exact l q ap g
    .intro l q m g;exact l q ap g
  .rename_i j;simp only[true_iff];intro q m g;omega
theorem EN{b e:Int}{d:Int->List aC}{us:Int->Int}{x:aC}:∀(k:Nat) (n:Int),pX b e d us k n=aa x->∃q,n<=q/\7*q<e/\kG b (us q) (d q)=aa x
 |0,n,h=>by simp[pX]at h
 |k+1,n,h=>by
  rw[pX]at h;split at h
  .rename_i g;cases j:kG b (us n) (d n)with
   |some y=>rw[j]at h;cases h;exact⟨n,ap,g,j⟩
   |none=>
    rw[j]at h;obtain⟨q,s,l,m⟩:=EN k (n+1) h;exact⟨q,ap,l,m⟩
  .cases h
theorem Mv{x:aH}(l:dP x){T:List aH}(L:sD T)(hl:T.length<=1000){F P:Int}(u:0<=F)(Y:F<=13)(v:1<=P)(Z:P<=420)(Q:7 ∣ P)(N:∀s∈T++[x],py F P s)(b:Int) :
  pX b (F+15+P) (jH x) (dA T) 5000 (-1)=ab↔∀q,0<=q->jH x q=[]\/dA T q+pV x q<=b:=by
 obtain⟨k,B⟩:=Q;have M:=λq=>Ck q L;have d:∀q:Int,(kG b (dA T q) (jH x q)=ab↔jH x q=[]\/dA T q+pV x q<=b):=λq=>by
  have:=yv x l q;rw[A8 (M q).1 (by have:=(M q).2;omega) (Cu l q)];rfl
 have A:∀q,F<7*q->dA T (q+k)=dA T q:=λq g=>by
  have:∀U:List aH,(∀s∈U,s∈T)->dA U (q+k)=dA U q:=by
   intro U;induction U with
   |nil=>intro _;rfl
   |cons s r E=>
    intro h;have O:=h s ago;rw[dA,dA,E λy X=>h y (agr _ X),Ey (L s O) (N s (agl.2 (.inl O))) u v B g]
  exact this T λ_ h=>h
 have m:=N x bv;rw[EM 5000 (-1) ap];constructor
 .intro h;have z:∀(n:Nat) (q:Int),0<=q->q<=n->jH x q=[]\/dA T q+pV x q<=b:=by
   intro n;induction n with
   |zero=>intro q S K;exact(d q).1 (h q ap ap)
   |succ n E=>
    intro q S K;by_cases g:7*q<F+15+P
    .exact(d q).1 (h q ap g)
    .have j:F<7*(q-k):=by omega
     have e:q-k+k=q:=by omega
     have W:=E (q-k) ap ap;have H:=A (q-k) j;have I:=Ex l m u v B j;have J:=Ey l m u v B j;rw[e]at H I J;rw[H,I,J];exact W.imp (λh=>by rw[h];rfl) id
  intro q g;exact z q.toNat q g ap
 .intro h q K _;by_cases g:0<=q
  .exact(d q).2 (h q g)
  .rw[RG l ap];rfl
def pc(x y:aC):Prop:=x.fr<y.to/\y.fr<x.to
def Ij(a b:aH):Prop:=∃x y,dL a x/\dL b y/\pc x y
theorem pc.symm{x y:aC}(h:pc x y):pc y x:=⟨h.2,h.1⟩
theorem eA{s:aH}(h:cZ s){x:aC}:dL s x↔(∃f p l b d,s.cs=[⟨.fs,[⟨.fs,[cG f p l]⟩],b⟩]/\0<=d/\bA (cG f p l) d=ae/\x=bV s.len b d)\/x∈s.xs:=by
 have m:∀f p l d,rB [⟨.fs,[cG f p l]⟩] 0 d↔0<=d/\bA (cG f p l) d=ae:=λf p l d=>by
  simp[rB,F3,wH,hasB]
 unfold dL PJ;constructor
 .rintro(⟨c,g,d,v,rfl⟩|j)
  .rcases h.1 with e|⟨f,p,l,b,e,-⟩
   .rw[e]at g;simp at g
   .rw[e,If]at g;subst g;have:=(m f p l d).1 v;exact .inl ⟨f,p,l,b,d,e,this.1,this.2,rfl⟩
  .exact .inr j
 .rintro(⟨f,p,l,b,d,e,q,u,rfl⟩|j)
  .exact .inl ⟨_,by rw[e];exact If.2 rfl,d,(m f p l d).2 ⟨q,u⟩,rfl⟩
  .exact .inr j
theorem pA(f p:Int)(l:List Int)(d:Int):eO [⟨.fs,[cG f p l]⟩] d↔bA (cG f p l) d=ae:=by
 simp[eO,dX]
theorem xy{s:aH}(h:cZ s){f p j:Int}{l:List Int}(e:s.cs=[⟨.fs,[⟨.fs,[cG f p l]⟩],j⟩]):0<=f/\f<=8/\1<=p/\p<=7/\0<=j/\j<=1245:=by
 rcases h.1 with g|⟨u,x,v,q,g,a,b,c,d,-,-,m,m1⟩
 .rw[e]at g;cases g
 .rw[e]at g;simp[cG]at g;obtain⟨⟨rfl,rfl,rfl⟩,rfl⟩:=g;exact⟨a,b,c,d,m,m1⟩
theorem Tz{p:Int}(b:1<=p)(d:p<=7):p ∣ 420:=by
 obtain rfl|rfl|rfl|rfl|rfl|rfl|rfl:p=1\/p=2\/p=3\/p=4\/p=5\/p=6\/p=7:=by omega
 all_goals decide
theorem Ef{f p:Int}{l:List Int}(m:f<=8)(b:1<=p)(j:p<=7){d t:Int}(g:f<=d-420*t)(t0:0<=t):bA (cG f p l) (d-420*t)=bA (cG f p l) d:=
 (pP (p:=cG f p l) b (d:=d-420*t) (d':=d) g (by show f<=d;omega) (by
  show p ∣ d-(d-420*t);have e:d-(d-420*t)=420*t:=by omega
  rw[e];exact ag0 (Tz b j) (Int.dvd_mul_right _ _))).symm
theorem Au{a b:aH}(u:cZ a)(g:cZ b)(h:Ij a b):∃x y,dL a x/\dL b y/\pc x y/\0<=x.fr/\x.to<=2000000/\0<=y.fr/\y.to<=2000000:=by
 obtain⟨x,y,E,v,j⟩:=h;have la:=u.2.1;have a_:=u.2.2.1;have lb:=g.2.1;have b_:=g.2.2.1;have O:∀{s:aH},cZ s->∀{z:aC},z∈s.xs->0<=z.fr/\z.fr<=20000/\z.to<=30000:=λ{s} S {z} hz=>by
  obtain⟨Z,h2,h3,h4,h5⟩:=S.2.2.2.2.2 z hz;have:=S.2.2.1;omega
 unfold pc at *;rcases(eA u).1 E with⟨f,p,l,W,d,e,d0,hm,rfl⟩|L
 .obtain⟨f0,Y,p0,p1,m0,m1⟩:=xy u e;rcases(eA g).1 v with⟨Q,X,U,q,d',I,J,B,rfl⟩|m
  .obtain⟨K,A,F,H,M,N⟩:=xy g I;simp only[bV]at j;by_cases hn:d<=1000
   .exact⟨_,_,E,v,j,by simp only[bV];omega,by simp only[bV];omega,by simp only[bV];omega,by simp only[bV];omega⟩
   .obtain⟨t,ht⟩:=aI ((d-20) / 420);have t0:0<=t:=by omega
    have t1:420*t<=d-20/\d-20<420*t+420:=by omega
    refine⟨bV a.len W (d-420*t),bV b.len q (d'-420*t),(eA u).2 (.inl ⟨f,p,l,W,_,e,ap,by rw[Ef Y p0 p1 ap t0];exact hm,rfl⟩),(eA g).2 (.inl ⟨Q,X,U,q,_,I,ap,by rw[Ef A F H ap t0];exact B,rfl⟩),?_⟩;simp only[bV];omega
  .have:=O g m;refine⟨_,_,E,v,j,?_,?_,ap,ap⟩
   .simp only[bV];omega
   .simp only[bV]at j ⊢;omega
 .have Z:=O u L;rcases(eA g).1 v with⟨Q,X,U,q,d',I,J,B,rfl⟩|m
  .obtain⟨K,A,F,H,M,N⟩:=xy g I;refine⟨_,_,E,v,j,ap,ap,?_,?_⟩
   .simp only[bV];omega
   .simp only[bV]at j ⊢;omega
  .have:=O g m;exact⟨_,_,E,v,j,ap,ap,ap,ap⟩
theorem R4{s:aH}(h:cZ s)(x y:aC):mF s x y↔(∃f p l b d,s.cs=[⟨.fs,[⟨.fs,[cG f p l]⟩],b⟩]/\0<=d/\bA (cG f p l) d=ae/\y=bV s.len b d)/\pc x y:=by
 unfold mF pc;constructor
 .rintro⟨⟨c,g,d,j,m,rfl⟩,q⟩;refine⟨?_,q⟩;rcases h.1 with e|⟨f,p,l,b,e,-⟩
  .rw[e]at g;simp at g
  .rw[e,If]at g;subst g;exact⟨f,p,l,b,d,e,j,(pA f p l d).1 m,rfl⟩
 .rintro⟨⟨f,p,l,b,d,e,j,m,rfl⟩,q⟩;exact⟨⟨_,by rw[e];exact If.2 rfl,d,j,(pA f p l d).2 m,rfl⟩,q⟩
theorem qy{a b:aH}(d:cZ b)(x:aC):nA a b x↔∃y,dL b y/\pc x y:=by
 unfold nA;constructor
 .rintro(⟨y,j⟩|⟨y,j,g⟩)
  .obtain⟨l,m⟩:=(R4 d x y).1 j;exact⟨y,(eA d).2 (.inl l),m⟩
  .simp only[pE,IS,decide_eq_true_eq]at g;exact⟨y,(eA d).2 (.inr j),g⟩
 .rintro⟨y,j,g⟩;rcases(eA d).1 j with h|h
  .exact .inl ⟨y,(R4 d x y).2 ⟨h,g⟩⟩
  .refine .inr ⟨y,h,?_⟩;simp only[pE,IS,decide_eq_true_eq];exact g
theorem Ri{a b:aH}(j:cZ a)(m:cZ b):Df a b↔Ij a b:=by
 constructor
 .rintro(⟨x,u,h⟩|⟨y,v,h⟩|⟨c,g,d,A,k,J,K,z,z0,-,L,M⟩)
  .obtain⟨y,v,g⟩:=(qy m x).1 h;exact⟨x,y,.inr u,v,g⟩
  .obtain⟨x,u,g⟩:=(qy j y).1 h;exact⟨x,y,u,.inr v,g.symm⟩
  .have la:=j.2.1;have Y:=m.2.1;rcases j.1 with e|⟨f,p,l,H,e,-⟩
   .rw[e]at g;simp at g
   rcases m.1 with s|⟨I,O,N,q,s,-⟩
   .rw[s]at A;simp at A
   rw[e,If]at g;rw[s,If]at A;subst g A;rw[pA]at L M;refine⟨bV a.len H (z+max 0 (-k)),bV b.len q (z+max 0 k),(eA j).2 (.inl ⟨f,p,l,H,_,e,ap,L,rfl⟩),(eA m).2 (.inl ⟨I,O,N,q,_,s,ap,M,rfl⟩),?_⟩;unfold AS at J;unfold zt at K;simp only at J K;unfold pc bV;simp only;omega
 .intro h;obtain⟨x,y,u,v,g,b0,b1,U,W⟩:=Au j m h;rcases(eA j).1 u with⟨f,p,l,H,d,e,X,S,rfl⟩|E
  .rcases(eA m).1 v with⟨I,O,N,q,d',s,Q,B,rfl⟩|F
   .refine .inr (.inr ⟨_,by rw[e];exact If.2 rfl,_,by rw[s];exact If.2 rfl,d'-d,?_,?_,min d d',ap,?_,?_,?_⟩)
    .unfold AS;unfold pc bV at g;simp only at g ⊢;omega
    .unfold zt;unfold pc bV at g;simp only at g ⊢;omega
    .have:=xy j e;have:=j.2.1;simp only[bV]at b1;omega
    .rw[pA,show min d d'+max 0 (-(d'-d))=d by omega];exact S
    .rw[pA,show min d d'+max 0 (d'-d)=d' by omega];exact B
   .exact .inr (.inl ⟨y,F,(qy j y).2 ⟨_,u,g.symm⟩⟩)
  .exact .inl ⟨x,E,(qy m x).2 ⟨y,v,g⟩⟩
theorem DW{a b:aH}(H:cZ a)(I:cZ b){s:FS}(h:mE (-2251799813685248) (λx y=>dL a x/\dL b y) s)(K:Ij a b):s.found=ae/\dL a s.X/\dL b s.Y/\pc s.X s.Y/\s.X.fr<=2000000/\s.Y.fr<=2000000:=by
 obtain⟨x,y,u,v,J,b0,b1,Q,S⟩:=Au H I K;have j:okB (-2251799813685248) x y:=by
  unfold okB oV;unfold pc at J;have g:∀{s:aH},cZ s->∀{z:aC},dL s z->z.fr<z.to:=λ{s} q {z} O=>by
   have W:=q.2.1;rcases(eA q).1 O with⟨f,p,l,X,d,e,U,K,rfl⟩|A
   .simp only[bV];omega
   .have:=(q.2.2.2.2.2 z A).1;omega
  have:=g H u;have:=g I v;omega
 rcases h with⟨-,-,-,m⟩|⟨L,B,E,-,M⟩
 .exact absurd j (m x y ⟨u,v⟩)
 .refine⟨L,B.1,B.2,?_⟩;have F:=M x y ⟨u,v⟩ j;unfold Cx at F;have N:¬ oV (-2251799813685248) x y<oV (-2251799813685248) s.X s.Y:=λh=>F (.inl h);unfold okB at E;unfold oV at E N;unfold pc at J ⊢;exact⟨⟨ap,ap⟩,ap,ap⟩
def rD0:a8:=⟨0,0,0,fi 0,fi 0,fi 0,fi 0,fi 0,fi 0,fi 0,fi 0,fi 0,fi 0,.nil,[],.nil,[]⟩
def mD(b:List a8)(s:aG):a8:=(b[s.room.toNat]?).getD rD0
def OpF(O:a8->gi)(b:List a8):Prop:=∀d∈b,(O d).OK/\d.op=(O d).row.map .f
theorem jS{s:aG}(h:s.jo):0<=s.room/\s.room<=2:=⟨h.2.2.1,h.2.2.2.1⟩
theorem xB{b:List a8}{g:Bool}(j:js b g){s:aG}(h:0<=s.room/\s.room<=2):b[s.room.toNat]?=aa (mD b s)/\mD b s∈b:=by
 have:=gI j;have d:s.room.toNat<b.length:=by omega
 have e:b[s.room.toNat]?=aa b[s.room.toNat]:=By d;unfold mD;rw[e];exact⟨rfl,IN d⟩
theorem Br{j:List a8}{s:Bool}(u:js j s):∀d∈j,∃r,Good r/\d.cap=r.cap/\d.fg=r.fg/\d.gN=r.gN/\d.op=r.op/\d.q=r.q:=by
 obtain⟨a,b,c,l,m,q,rfl⟩:=u;intro d g;simp only[agA,ahG,or_false]at g;rcases g with rfl|rfl|rfl
 .exact⟨_,l,rfl,rfl,rfl,rfl,rfl⟩
 .exact⟨_,m,rfl,rfl,rfl,rfl,rfl⟩
 .refine⟨c,q,?_⟩;split<;>exact⟨rfl,rfl,rfl,rfl,rfl⟩
structure ab5(d:a8):Prop where
 c0:6<=d.cap
 c1:d.cap<=11
 b0:0<=d.fg
 b1:d.fg<=20
 a0:0<=d.gN
 a1:d.gN<=20
 q:d.q=[]\/∃t m,d.q=[(t,m),(2,600)]/\0<=t/\t<=1/\0<=m/\m<=900
theorem CU{m:List a8}{I:Bool}(J:js m I){d:a8}(H:d∈m):ab5 d:=by
 obtain⟨r,⟨a,b,c,cap,u,s,K,q,rfl,-,-,-,x,y,z,A,B,E,F⟩,g,j,l,-,v⟩:=Br J d H;exact⟨by rw[g];exact x,by rw[g];exact y,by rw[j];exact z,by rw[j];exact A,by rw[l];exact B,by rw[l];exact E,by rw[v];exact F⟩
theorem Zn{b:List a8}{q:Bool}(u:js b q):∃O,OpF O b:=by
 have h:∀d:a8,∃o:gi,d∈b->o.OK/\d.op=o.row.map .f:=λd=>by
  by_cases g:d∈b
  .obtain⟨r,s,-,-,-,e,-⟩:=Br u d g;obtain⟨o,j,l⟩:=zr s;exact⟨o,λ_=>⟨j,e.trans l⟩⟩
  .exact⟨⟨0,0,ab⟩,λh=>absurd h g⟩
 obtain⟨O,m⟩:=Classical.skolem.1 h;exact⟨O,m⟩
def acN(d:a8)(s:aG):aH:=⟨.nil,s.st.cs.map (rS d.fg),s.st.len+d.fg+d.gN,.nil,s.st.xs.map (lM d.fg d.gN)⟩
theorem GD{a b:aH}(d:a.cs=b.cs)(g:a.len=b.len)(j:a.xs=b.xs)(x:aC):dL a x↔dL b x:=by
 unfold dL;rw[d,g,j]
theorem nQ{d:a8}{s:aG}{o:aH}(h:Ta d.fg d.gN s.st o)(x:aC):dL o x↔dL (acN d s) x:=GD h.1 h.2.1 h.2.2 x
theorem xP(B A len b n:Int):bV (len+B+A) (b-B) n=lM B A (bV len b n):=by
 simp only[bV,lM,aC.mk.injEq];exact⟨trivial,ap,ap⟩
theorem lW{d:a8}{s:aG}(x:aC):dL (acN d s) x↔∃y,dL s.st y/\x=lM d.fg d.gN y:=by
 constructor
 .rintro(⟨c,b,n,j,rfl⟩|q)
  .obtain⟨m,g,rfl⟩:=agt.1 b;exact⟨_,.inl ⟨m,g,n,j,rfl⟩,xP ..⟩
  .obtain⟨y,l,rfl⟩:=agt.1 q;exact⟨y,.inr l,rfl⟩
 .rintro⟨y,⟨c,b,n,j,rfl⟩|l,rfl⟩
  .exact .inl ⟨_,agt.2 ⟨c,b,rfl⟩,n,j,(xP ..).symm⟩
  .exact .inr (agt.2 ⟨y,l,rfl⟩)
def vo(b:List a8)(x s:aG):Prop:=∃X Y,dL x.st X/\dL s.st Y/\pc (lM (mD b x).fg (mD b x).gN X) (lM (mD b s).fg (mD b s).gN Y)
theorem vo.symm{b:List a8}{x s:aG}(h:vo b x s):vo b s x:=by
 obtain⟨X,Y,h1,h2,h3⟩:=h;exact⟨Y,X,h2,h1,h3.symm⟩
theorem A3{d:List a8}{x s:aG}{a b:aH}(u:Ta (mD d x).fg (mD d x).gN x.st a)(v:Ta (mD d s).fg (mD d s).gN s.st b):Ij a b↔vo d x s:=by
 constructor
 .rintro⟨X,Y,g,l,q⟩;obtain⟨X',j,rfl⟩:=(lW X).1 ((nQ u X).1 g);obtain⟨y,m,rfl⟩:=(lW Y).1 ((nQ v Y).1 l);exact⟨X',y,j,m,q⟩
 .rintro⟨X,Y,g,l,q⟩;exact⟨_,_,(nQ u _).2 ((lW _).2 ⟨X,g,rfl⟩),(nQ v _).2 ((lW _).2 ⟨Y,l,rfl⟩),q⟩
def uu(O:a8->gi)(b:List a8)(x:aG)(z:aC):Bool:=eC (O (mD b x)).lo (O (mD b x)).hi (O (mD b x)).cl z.fr z.to
def jf(b:List a8)(x:aG):Int × Bool:=ta x.eo (mD b x).q
structure Fits(O:a8->gi)(rs:List a8)(hh:Bool)(ss:List aG)(x:aG):Prop where
 cap:x.size<=(mD rs x).cap
 SA:∀z,dL x.st z->uu O rs x z=ae
 cl:∀s∈ss,s.meet≠x.meet->iu hh s.room.toNat x.room.toNat=ae->¬ vo rs x s
 qu:(jf rs x).2=ae->∀q,0<=q->jH x.st q=[]\/dA (cN x.room x.eo ss) q+pV x.st q<=(jf rs x).1
inductive uq(O:a8->gi)(rs:List a8)(hh:Bool)(ss:List aG)(x:aG):List Int->Prop
 |full (h:(mD rs x).cap<x.size):uq O rs hh ss x [14,0,0,0,0,0,0,0]
 |SA (z:aC) (hc:x.size<=(mD rs x).cap) (hz:dL x.st z) (h:uu O rs x z=ag) (hb:z.fr<=2000000):uq O rs hh ss x [16,0,z.day,z.fr,z.to,0,0,0]
 |cl (s:aG) (hs:s∈ss) (hm:s.meet≠x.meet) (hsh:iu hh s.room.toNat x.room.toNat=ae) (X Y:aC) (hX:dL x.st X) (hY:dL s.st Y) (hc:pc (lM (mD rs x).fg (mD rs x).gN X) (lM (mD rs s).fg (mD rs s).gN Y)) (bX:X.fr<=2001000) (bY:Y.fr<=2001000):uq O rs hh ss x [15,s.meet,X.day,X.fr,X.to,Y.day,Y.fr,Y.to]
 |qu (hc:x.size<=(mD rs x).cap) (hm:(jf rs x).2=ae) (q:Int) (hq:0<=q) (hq1:q<=5000) (O1 O2:List aC) (y:aC) (ho:jH x.st q=O1++y::O2) (hmo:(jf rs x).1<dA (cN x.room x.eo ss) q+iI (O1++[y])):uq O rs hh ss x [14,0,y.day,y.fr,y.to,0,0,0]
theorem DH{dr:aG->a8}{x:aG}{mt:aG->Bool}{fx fy:aG->aC}{fd:aG->Bool}:∀l:List aG,
  (jP dr x mt fx fy fd l=my/\∀s∈l,s.meet=x.meet\/mt s=ag)\/∃s∈l,s.meet≠x.meet/\mt s=ae/\jP dr x mt fx fy fd l=MY (dr x) (dr s) s (fx s) (fy s) (fd s)
 |[]=>.inl ⟨rfl,bv⟩
 |s::r=>by
  unfold jP;split
  .rename_i h;rcases DH r with⟨b,d⟩|⟨y,g,b,d,j⟩
   .exact .inl ⟨b,λy g=>(agA.1 g).elim (λe=>by rw[e];exact h) (d y)⟩
   .exact .inr ⟨y,agr _ g,b,d,j⟩
  .rename_i h;refine .inr ⟨s,ago,λe=>h (.inl e),?_,rfl⟩;cases m:mt s
   .exact absurd (.inr m) h
   .rfl
theorem B6{ss:List aG}(d:∀s∈ss,s.jo)(r t:Int):sD (cN r t ss):=λs b=>by
 unfold cN at b;obtain⟨x,g,rfl⟩:=agt.1 b;exact(d x (agT.1 g).1).2.2.2.2.2.2.2.2
theorem Ap(n:Nat):∀l:List Int,jJ (FC.beq n) (ints l).flatten (ints l).flatten=ae
 |[]=>rfl
 |x::l=>by
  have:=Ap n l;have e:(ints (x::l)).flatten=fi x ::(ints l).flatten:=rfl;rw[e];simp only[jJ,this,Bool.and_true];cases n<;>simp[FC.beq]
theorem Ge(s:aH)(h:dP s):V.beq (.a (s.row.map .f)) (.a (s.row.map .f))=ae:=by
 have q:FC.beq 64 (sl s.xg (aF s.xs)) (sl s.xg (aF s.xs))=ae:=Ao s.xg s.xs;have j:FC.beq 64 (sl s.cg (aU s.cs)) (sl s.cg (aU s.cs))=ae:=by
  rcases h.1 with e|⟨f,p,l,b,e,-⟩
  .rw[e];cases s.cg<;>rfl
  .rw[e];have m:FC.beq 61 (sl .nil (ints l)) (sl .nil (ints l))=ae:=by
    cases l with
    |nil=>rfl
    |cons x l=>
     have:sl .nil (ints (x::l))=.fs (ints (x::l)).flatten (ints (x::l)).length:=by simp[sl,ints]
     rw[this];have g:=Ap 60 (x::l);simp[FC.beq,g]
   have d:sl s.cg (aU [⟨.fs,[⟨.fs,[cG f p l]⟩],b⟩])=.fs [.fs [.fs [.aJ,fi f,fi p,sl .nil (ints l)] 1] 1,fi b] 1:=rfl;rw[d];simp[FC.beq,jJ,m]
 have e:s.row.map C.f=[.f (sl s.cg (aU s.cs)),.f (fi s.len),.f (sl s.xg (aF s.xs))]:=rfl;rw[e];simp[V.beq,C.beq,q,j,jJ];simp[FC.beq]
theorem Jg{n:Int}(b:-4611686018427387904<=n)(d:n<=4611686018427387904):ri n=n:=aZ
theorem AL{s:aH}(h:cZ s){x:aC}(g:dL s x):0<=x.fr/\x.to=x.fr+s.len:=by
 rcases(eA h).1 g with⟨f,p,l,q,d,e,j,m,rfl⟩|b
 .have:=xy h e;simp only[bV];exact⟨ap,trivial⟩
 .have:=h.2.2.2.2.2 x b;exact⟨this.2.2.2.1,this.1⟩
theorem ur(l:List (List Int)):pz (my::l)=pz l:=bZ rfl
theorem BT{r:List Int}(l:List (List Int))(h:r.headD 0≠0):pz (r::l)=r:=ct h
theorem RS(c:Prop)[Decidable c](a b:List Int):(V.a (if c then a.map (λn=>C.f (fi n))else b.map (λn=>C.f (fi n))))=vN (if c then a else b):=by
 unfold vN;split<;>rfl
theorem Ga(U g:Tg){d:List a8}{hh:Bool}(N:js d hh){O:a8->gi}(hO:OpF O d)(ss:List aG)(hl:ss.length<=5)(hs:jr ss)(hf:∀s∈ss,s.jo)(x:aG)(hx:x.jo)(p9:rZ ss x=ag) :
  ∃rf:List Int,rf.length=8/\((rf=my/\Fits O d hh ss x)\/(rf.headD 0≠0/\uq O d hh ss x rf))/\
   bg tab gm [.c (.f (sl U (rows d))),.c (.f (sl g (aS ss))),.a (x.row.map .f)]=Eq (.t [vN rf,vi 0]):=by
 obtain⟨Q,S⟩:=jS hx;obtain⟨h_,g_⟩:=xB N ⟨Q,S⟩;have d_:=CU N g_;have A:dP x.st:=hx.2.2.2.2.2.2.2.2;have I:∀s,s=x\/s∈ss->s.jo:=λs h=>h.elim (λe=>by rw[e];exact hx) (hf s);have j5:∀s,s=x\/s∈ss->d[s.room.toNat]?=aa (mD d s):=λs h=>(xB N (jS (I s h))).1;have B:∀s:aG,∃o:aH,s=x\/s∈ss->Ta (mD d s).fg (mD d s).gN s.st o/\bg tab ug [.c (.f (sl U (rows d))),.a (s.row.map .f)]=Eq (.t [.a (o.row.map .f),vb ae]):=λs=>by
  by_cases h:s=x\/s∈ss
  .have j6:=I s h;have r6:=jS j6;have hk:s.room.toNat<d.length:=by have:=gI N;omega
   obtain⟨o,H,L⟩:=Ek U N s j6 hk;have e:d[s.room.toNat]=mD d s:=by
    have:=j5 s h;rw[By hk]at this;exact aiy this
   rw[e]at H;exact⟨o,λ_=>⟨H,L⟩⟩
  .exact⟨x.st,λh'=>absurd h' h⟩
 obtain⟨Z,B⟩:=Classical.skolem.1 B;have v:∀s,s=x\/s∈ss->cZ (Z s):=λs h=>by
  have hb:=CU N (xB N (jS (I s h))).2;exact(B s h).1.ok (I s h).2.2.2.2.2.2.2.2 ⟨hb.b0,hb.b1⟩ ⟨hb.a0,hb.a1⟩
 have M:x=x\/x∈ss:=.inl rfl;obtain⟨mt,i6⟩:=Classical.skolem.1 (show ∀s:aG,∃r:Bool,s∈ss->(r=ae↔vo d x s)/\bg tab jg [.a ((Z x).row.map .f),.a ((Z s).row.map .f)]=Eq (.t [vb r,vi 0]) from λs=>by
  by_cases h:s∈ss
  .obtain⟨r,H,h'⟩:=Qv (Z x) (Z s) (wQ (v x M)) (wQ (v s (.inr h)));refine⟨r,λ_=>⟨?_,h'⟩⟩;rw[H,Ri (v x M) (v s (.inr h)),A3 (B x M).1 (B s (.inr h)).1]
  .exact⟨ag,λh'=>absurd h' h⟩)
 obtain⟨F,hF⟩:=Classical.skolem.1 (show ∀s:aG,∃q:FS,s∈ss->mE (-2251799813685248) (λX Y=>dL (Z x) X/\dL (Z s) Y) q/\bg tab fq [.a ((Z x).row.map .f),.a ((Z s).row.map .f),vi (-2251799813685248)]=Eq (.t [.a (q.X.row.map .f),.a (q.Y.row.map .f),vb q.found]) from λs=>by
  by_cases h:s∈ss
  .obtain⟨w,H,h'⟩:=Lv (Z x) (Z s) (wQ (v x M)) (wQ (v s (.inr h))) (-2251799813685248) ap ap;exact⟨w,λ_=>⟨H,h'⟩⟩
  .exact⟨⟨0,ag,⟨0,0,0⟩,⟨0,0,0⟩⟩,λh'=>absurd h' h⟩)
 obtain⟨T,hT⟩:=aI (cN x.room x.eo ss);have u:sD T:=by rw[hT];exact B6 hf _ _
 have q_:T.length<=5:=by
  rw[hT];unfold cN;rw[agq];exact agK (ahb _ _) hl
 obtain⟨Fr,P,F0,F1,P7,P1,P2,k_,j7⟩:=GA .fs (T++[x.st]) ge (λs h=>by
  rcases agl.1 h with h|h
  .exact(u s h).two
  .rw[If.1 h];exact A.two)
 have j_:∀n,-1<=n->n<=5000->(jH x.st n).length<=10/\∃g,bg tab oe [.a (x.st.row.map .f),vi n]=Eq (.c (.f (sl g (aF (jH x.st n))))):=λn H L=>An x.st A n H L;have i8:∀n,-1<=n->n<=5000->bg tab Fw [.c (.f (fW (sl U (rows d)) (sl g (aS ss)) x)),vi n]=Eq (vi (dA T n)):=λn H L=>by
  have:=UM (sl U (rows d)) g ss ap x n (λs=>pV s n) (by
   rw[<-hT];intro s j;obtain⟨r5,gb,W⟩:=An s (u s j) n H L;refine⟨_,W,?_⟩;exact G2 gb (jH s n) ap λy hy=>by
    obtain⟨q0,q1,q2,q3⟩:=wN (u s j) hy;have:=(u s j).2.1;have:=(u s j).2.2.1;omega)
  rw[<-hT,Bt n T 0 u ap ap,Int.zero_add]at this;exact this
 have f_:∀K:an,∃K',Ev tab (.fn BK) [.c (.f (fW (sl U (rows d)) (sl g (aS ss)) x))] K (.t [vN (if(mD d x).cap<x.size then [14,0,0,0,0,0,0,0]else my),vi 0]) K'/\Kp K K':=λK=>by
  obtain⟨H',hk,he⟩:=DB U N (sl g (aS ss)) x Q S h_ K;rw[<-RS];exact⟨H',he,hk⟩
 have e_:∃hr:List Int,hr.length=8/\((hr=my/\∀z,dL x.st z->uu O d x z=ae)\/∃z,dL x.st z/\uu O d x z=ag/\z.fr<=2000000/\hr=[16,0,z.day,z.fr,z.to,0,0,0])/\∀K:an,∃K',Ev tab (.fn BL) [.c (.f (fW (sl U (rows d)) (sl g (aS ss)) x))] K (.t [vN hr,vi 0]) K'/\Kp K K':=by
  have ho:=hO _ g_;obtain⟨b,y,H,L,m9⟩:=QS U N (sl g (aS ss)) x Q S h_ ho.1 ho.2 A.two;refine⟨if b then my else [16,0,y.day,y.fr,y.to,0,0,0],by split<;>rfl,?_,λK=>?_⟩
  .cases b
   .exact .inr ⟨y,(L rfl).1,(L rfl).2.1,(L rfl).2.2,rfl⟩
   .exact .inl ⟨rfl,H.1 rfl⟩
  .obtain⟨K',hk,he⟩:=m9 K;refine⟨K',?_,hk⟩;rw[<-RS];exact he
 obtain⟨d9,m_,n9,n8⟩:=e_;obtain⟨a_,c9⟩:=aI (jP (mD d) x mt (λs=>(F s).X) (λs=>(F s).Y) (λs=>(F s).found) (ss.filter λs=>iu hh s.room.toNat x.room.toNat));obtain⟨qL,E⟩:=aI (EK (if(jf d x).2 then pX (jf d x).1 (Fr+15+P) (jH x.st) (dA T) 5000 (-1)else ab));obtain⟨b_,c_⟩:=aI (if(mD d x).cap<x.size then [14,0,0,0,0,0,0,0]else my:List Int);rw[<-c_]at f_;have i_:(b_=my/\x.size<=(mD d x).cap)\/(b_.headD 0≠0/\uq O d hh ss x b_):=by
  rw[c_];by_cases h:(mD d x).cap<x.size
  .rw[bZ h];exact .inr ⟨ce,.full h⟩
  .rw[ct h];exact .inl ⟨rfl,ap⟩
 have j8:x.size<=(mD d x).cap->(d9=my/\∀z,dL x.st z->uu O d x z=ae)\/(d9.headD 0≠0/\uq O d hh ss x d9):=λhc=>by
  rcases n9 with h|⟨z,H,L,hb,h3⟩
  .exact .inl h
  .rw[h3];exact .inr ⟨bv,.SA z hc H L hb⟩
 have i9:(a_=my/\∀s∈ss,s.meet≠x.meet->iu hh s.room.toNat x.room.toNat=ae->¬ vo d x s)\/(a_.headD 0≠0/\uq O d hh ss x a_):=by
  rw[c9];rcases DH (dr:=mD d) (x:=x) (mt:=mt) (fx:=λs=>(F s).X) (fy:=λs=>(F s).Y) (fd:=λs=>(F s).found) (ss.filter λs=>iu hh s.room.toNat x.room.toNat)with⟨H,L⟩|⟨s,j,H,L,h3⟩
  .refine .inl ⟨H,λs j hm i7 hM=>?_⟩;have h3:=(i6 s j).1.2 hM;rcases L s (agT.2 ⟨j,i7⟩)with h|h
   .exact hm h
   .rw[h3]at h;cases h
  .obtain⟨j,i7⟩:=agT.1 j;have hM:=(i6 s j).1.1 L;have l_:=(A3 (B x M).1 (B s (.inr j)).1).2 hM;obtain⟨f1,f2,f3,f4,f5,f6⟩:=DW (v x M) (v s (.inr j)) (hF s j).1 l_;obtain⟨X,hX,eX⟩:=(lW _).1 ((nQ (B x M).1 _).1 f2);obtain⟨Y,hY,eY⟩:=(lW _).1 ((nQ (B s (.inr j)).1 _).1 f3);have bX:=AL A.two hX;have bY:=AL (hf s j).2.2.2.2.2.2.2.2.two hY;have lx:=A.2.1;have ls:=(hf s j).2.2.2.2.2.2.2.2.2.1;have r9:=A.2.2.1;have ls':=(hf s j).2.2.2.2.2.2.2.2.2.2.1;have W:=CU N (xB N (jS (hf s j))).2;have u1:=d_.b0;have u2:=d_.b1;have u3:=d_.a0;have u4:=d_.a1;have u5:=W.b0;have u6:=W.b1;have u7:=W.a0;have u8:=W.a1;rw[eX]at f5 f4;rw[eY]at f6 f4;refine .inr ?_;rw[h3,MY,f1,bZ rfl];simp only[eX,eY];simp only[lM]at f5 f6 ⊢;rw[Jg ap ap,Jg ap ap,Jg ap ap,Jg ap ap];have e1:X.fr-(mD d x).fg+(mD d x).fg=X.fr:=by omega
   have e2:X.to+(mD d x).gN-(mD d x).gN=X.to:=by omega
   have e3:Y.fr-(mD d s).fg+(mD d s).fg=Y.fr:=by omega
   have e4:Y.to+(mD d s).gN-(mD d s).gN=Y.to:=by omega
   rw[e1,e2,e3,e4];exact⟨bv,.cl s j H i7 X Y hX hY f4 ap ap⟩
 have p_:x.size<=(mD d x).cap->(qL=my/\((jf d x).2=ae->∀q,0<=q->jH x.st q=[]\/dA T q+pV x.st q<=(jf d x).1))\/(qL.headD 0≠0/\uq O d hh ss x qL):=λhc=>by
  have j9:=Mv A u ap F0 F1 P1 P2 P7 k_ (jf d x).1;by_cases hm:(jf d x).2=ae
  .rw[hm,bZ rfl]at E;cases hq:pX (jf d x).1 (Fr+15+P) (jH x.st) (dA T) 5000 (-1)with
   |none=>rw[hq]at E;exact .inl ⟨E,λ_=>j9.1 hq⟩
   |some y=>
    rw[hq]at E;obtain⟨q,q1,q2,q3⟩:=EN _ _ hq;have n_:=Ck q u;have r7:=yv x.st A q;obtain⟨a,b,ho,o_⟩:=A9 n_.1 ap (Cu A q) q3;have q0:=(wN A (q:=q) (x:=y) (by rw[ho];simp)).1;rw[E];exact .inr ⟨by simp[EK],.qu hc hm q q0 ap a b y ho (by rw[<-hT];exact o_)⟩
  .rw[ct hm]at E;exact .inl ⟨E,λh=>absurd h hm⟩
 obtain⟨rl,J⟩:∃rl:List (List Int),rl=[b_,d9,a_,qL]:=⟨_,rfl⟩
 have h8:∀r∈rl,r.length=8:=by
  intro r hr;rw[J]at hr;simp only[agA,ahG,or_false]at hr;rcases hr with rfl|rfl|rfl|rfl
  .rw[c_];split<;>rfl
  .exact m_
  .rw[c9];exact rG ..
  .rw[E];exact EL _
 have hz:my.headD 0=0:=rfl;refine⟨pz rl,xe h8,?_,?_⟩
 .have key:∀l:List Int,l.headD 0=0->¬ (l.headD 0≠0/\uq O d hh ss x l):=λl h h'=>h'.1 h;rcases i_ with⟨c1,c2⟩|⟨c1,c2⟩
  .rcases j8 c2 with⟨d1,d2⟩|⟨d1,d2⟩
   .rcases i9 with⟨e1,e2⟩|⟨e1,e2⟩
    .rcases p_ c2 with⟨g1,g2⟩|⟨g1,g2⟩
     .refine .inl ⟨?_,c2,d2,e2,by rw[<-hT];exact g2⟩;rw[J,c1,d1,e1,g1];rfl
     .refine .inr ?_;have:pz rl=qL:=by rw[J,c1,d1,e1,ur,ur,ur,BT _ g1]
      rw[this];exact⟨g1,g2⟩
    .refine .inr ?_;have:pz rl=a_:=by rw[J,c1,d1,ur,ur,BT _ e1]
     rw[this];exact⟨e1,e2⟩
   .refine .inr ?_;have:pz rl=d9:=by rw[J,c1,ur,BT _ d1]
    rw[this];exact⟨d1,d2⟩
  .refine .inr ?_;have:pz rl=b_:=by rw[J,BT _ c1]
   rw[this];exact⟨c1,c2⟩
 .refine PW U g N ss hl hs hf x hx p9 rl (by rw[J];rfl) h8 λi hi K=>?_;subst J
  match i,hi with
  |0,_=>exact f_ K| 1,_=>exact n8 K
  |2,_=>
   have:=Qe U g N ss ap x (mD d) j5 (λs h=>jS (I s h)) Z (λs h=>(B s h).2) mt (λs h=>(i6 s h).2) (λs=>(F s).X) (λs=>(F s).Y) (λs=>(F s).found) (λs h=>(hF s h).2) K;rw[<-c9]at this;exact this
  |3,_=>
   have:=RL U g N ss ap x Q S h_ (by rcases d_.q with e|⟨t,m,e,-⟩<;>rw[e]<;>simp) (Ge x.st A) (Fr+15+P) ap ap 5000 rfl (by rw[<-hT];exact j7) (jH x.st) (dA T) j_ i8 K;change ∃H',Ev tab (.fn ph) [.c (.f (fW (sl U (rows d)) (sl g (aS ss)) x))] K (.t [vN (EK (if(jf d x).2 then pX (jf d x).1 (Fr+15+P) (jH x.st) (dA T) 5000 (-1)else ab)),vi 0]) H'/\Kp K H' at this;rw[<-E]at this;exact this
theorem Uy{O:a8->gi}{E:List a8}{A:Bool}{ss:List aG}{x:aG}{U:List Int}(hf:∀s∈ss,s.jo)(S:x.jo)(h:uq O E A ss x U):¬ Fits O E A ss x:=by
 rintro⟨f1,F,H,I⟩;cases h with
 |full h=>omega| SA z j u h g=>rw[F z u]at h;cases h
 |cl s Q l m X Y J K j W Z=>exact H s Q l m ⟨X,Y,J,K,j⟩
 |qu j l q M N v b y B L=>
  have g:=Cu S.2.2.2.2.2.2.2.2 q;have d:=(I l q M).resolve_left (by rw[B];simp);unfold pV at d;rw[B]at d g;have e:v++y::b=(v++[y])++b:=by simp
  rw[e,E7]at d;have:=(CS (O:=b) λz u=>g z (by simp[u])).1;omega
theorem nY{sz:Nat}{rows:List (List FC)}(k:Nat)(b:cR sz rows)(d:k<=rows.length):rows.flatten.take (k*sz)=(rows.take k).flatten:=by
 have e:rows.flatten=(rows.take k).flatten++(rows.drop k).flatten:=by rw[<-List.flatten_append,List.take_append_drop]
 have g:(rows.take k).flatten.length=k*sz:=by rw[cA (λr j=>b r (ahn j)),agO,Nat.min_eq_left d]
 rw[e,<-g,List.take_left]
theorem UC{H:an}{sz:Nat}{g:Tg}{rows:List (List FC)}{k:Nat}(q:cR sz rows)(d:k<=rows.length)(s:rows.length<=9223372036854775807) :
  ∃g',cu H sz (.c (.f (sl g rows))) ab (aa (vi k)) ab=aa (.c (.f (sl g' (rows.take k)))):=by
 cases rows with
 |nil=>
  have:k=0:=by simpa using d
  subst this;cases g
  .exact⟨.nil,rfl⟩
  .exact⟨.es,rfl⟩
  .exact⟨.fs,by simp[sl,Tg.fc,cu,cz];rfl⟩
 |cons x r=>
  refine⟨.fs,?_⟩;have j:Dx (vi k) (x::r).length=aa k:=by
   have:(0:Int)<=(k:Int)/\(k:Int)<=((x::r).length:Int):=⟨ap,ap⟩
   show(if(0:Int)<=(k:Int)/\(k:Int)<=((x::r).length:Int)then aa (k:Int).toNat else ab)=aa k;rw[bZ this,agD]
  have b:cz (x::r).length (x::r).length ab (aa (vi k)) ab=aa (0,k,(x::r).length):=by
   simp[cz];simp only[agP]at j;rw[j];simp
  show cu H sz (.c (.f (.fs (x::r).flatten (x::r).length))) _ _ _=_;simp only[cu,b];have l:((x::r).flatten.drop (0*sz)).take ((k-0)*sz)=((x::r).take k).flatten:=by
   rw[Nat.zero_mul,List.drop_zero,Nat.sub_zero,nY k q d]
  rw[l];have m:sl .fs ((x::r).take k)=.fs ((x::r).take k).flatten (k-0):=by
   cases k with
   |zero=>rfl
   |succ k=>
    simp only[agP]at d;simp[sl];omega
  rw[m];simp
def og(O:a8->gi)(d:List a8)(b:Bool)(L:List aG):Prop:=∀i (h:i<L.length),Fits O d b (L.take i) L[i]
theorem MS{L:List aG}{x:aG}(h:∀s∈L,pK s x):rZ L x=ag:=by
 unfold rZ;rw[List.any_eq_false];intro s b;have:=h s b;unfold pK at this;simp[D6];omega
theorem yU(M g:Tg){d:List a8}{v:Bool}(ht:js d v){O:a8->gi}(hO:OpF O d)(L:List aG)(hl:L.length<=5)(hs:jr L)(hf:∀s∈L,s.jo) :
  ∃b:Bool,(b=ae↔og O d v L)/\bg tab Fv [.c (.f (sl M (rows d))),.c (.f (sl g (aS L)))]=Eq (.t [vb b,vi 0]):=by
 have l:=(IY M g d L (by have:=gI ht;omega) (Bs ht) ap λs h=>kP (hf s h).2.2.2.2.2.2.2.2.two).eq;rw[Bp ht hl hs hf]at l;obtain⟨r,⟨b,S,rfl⟩,hp⟩:∃r,(∃b:Bool,(b=ae↔og O d v L)/\r=.t [vb b,vi 0])/\bg tab Fv [.c (.f (sl M (rows d))),.c (.f (sl g (aS L)))] r:=by
  refine dx rfl rfl λQ hQ=>?_;have X:∀J:an,bh J (.f (sl g (aS L)))=aa L.length:=λJ=>by simp
  obtain⟨rm,a_⟩:=aI (sl M (rows d));rw[<-a_]at l ⊢;apply ai;simp;apply au;apply ai;simp[l];refine bE bv ?_;apply au;apply ai;simp[X];refine bS L.length (λj t _=>t.g 0=.c (.f rm)/\t.g 1=.c (.f (sl g (aS L)))/\t.g 14=.c (.f (sl g (aS L)))/\∀i (h:i<L.length),i<j->Fits O d v (L.take i) L[i]) ap ce ce bv bv ⟨bv,bv,bv,λi _ h=>by omega⟩ ?_ ?_
  .rintro j t J hj ⟨I,K,q,hI⟩ N S next
   have z:=λH:an=>bz (H:=H) (g:=g) (rows:=aS L) (sz:=7) (k:=.i64) (i:=(j:Int)) ap ge;have b_:=λH:an=>cf (H:=H) (bW L) (dI hj);simp only[agD]at z;have c_:∀H:an,∃g',cu H 7 (.c (.f (sl g (aS L)))) ab (aa (vi j)) ab=aa (.c (.f (sl g' (aS (L.take j))))):=λH=>by
    obtain⟨g',h⟩:=UC (H:=H) (g:=g) (k:=j) (bW L) ge ge;exact⟨g',by rw[h];simp[aS]⟩
   have d_:(L.take j).length<=5:=by rw[agO];omega
   have e_:jr (L.take j):=aiN (List.take_sublist _ _) hs;have E:∀s∈L.take j,s.jo:=λs h=>hf s (ahn h);have F:=hf L[j] (IN hj);have Y:∀s∈L.take j,pK s L[j]:=λs h=>by
    obtain⟨i,hi,rfl⟩:=List.getElem_of_mem h;rw[agO]at hi;rw[List.getElem_take];exact List.pairwise_iff_getElem.1 (E3 hs) i j ap hj ap
   have Z:=MS Y;obtain⟨d9,y⟩:(∀H:an,∃g',cu H 7 (.c (.f (sl g (aS L)))) ab (aa (vi j)) ab=aa (.c (.f (sl g' (aS (L.take j))))) )/\∀g',∃m:List Int,m.length=8/\((m=my/\Fits O d v (L.take j) L[j])\/(m.headD 0≠0/\uq O d v (L.take j) L[j] m))/\bg tab gm [.c (.f (sl M (rows d))),.c (.f (sl g' (aS (L.take j)))),.a (L[j].row.map .f)]=Eq (.t [vN m,vi 0]):=⟨c_,λg'=>Ga M g' ht hO (L.take j) d_ e_ E L[j] F Z⟩
   rw[<-a_]at y;obtain⟨ff,f_⟩:=aI (Fits O d v (L.take j) L[j]);have h_:Fits O d v (L.take j) L[j]->∀i (h:i<L.length),i<j+1->Fits O d v (L.take i) L[i]:=λhF i h i8=>by
    by_cases e:i=j
    .subst e;exact hF
    .exact hI i h ap
   have B:¬ Fits O d v (L.take j) L[j]->¬ og O d v L:=λhn hA=>hn (hA j hj);have g_:∀m,uq O d v (L.take j) L[j] m->¬ Fits O d v (L.take j) L[j]:=λm=>Uy E F;clear Y Z d_ e_ E F f_ d9;generalize L[j]=x at *;have i7:x.row.length=7:=rfl;obtain⟨A,U⟩:=aI (J++[bO.box (x.row.map .f) 0]);have d1:A[J.length]?=aa (.box (x.row.map .f) 0):=by rw[U];simp
   have l1:aV A (aa 7) (.c (.ptr J.length 0 0))=aa (.a (x.row.map .f)):=by simp[aV,aA,d1,aW,aG.row]
   obtain⟨g',i6⟩:=c_ A;obtain⟨m,h8,c9,hA⟩:=y g';refine ay ?_;apply ai;simp[q,N,z,b_,i7,-ax];rw[<-U];apply ai;obtain⟨J2,W⟩:=aI (A++[bO.box (m.map λn=>.f (fi n)) 0]);have d2:J2[A.length]?=aa (.box (m.map λn=>.f (fi n)) 0):=by rw[W];simp
   have l0:aV J2 ab (.c (.ptr A.length 0 0))=aa (vi (m.headD 0)):=by
    match m,h8 with
    |p0::_,_=>simp[aV,aA,d2]
   simp[I,K,N,i6,l1,hA,vN,h8,-ax];rw[<-W]
   suffices go:∀u:T,u.g 0=.c (.f rm)->u.g 1=.c (.f (sl g (aS L)))->u.g 14=.c (.f (sl g (aS L)))->u.g 8=.c (.ptr A.length 0 0)->u.g 9=vi 0->u.g 16=vi j->u.g 15=vi L.length->WP tab Fv ab [.code J9,.inBlock 1,.code (nK 16 38),.inLoop (fX 0 16 15 17 38 J8),.inBlock 0,.code J_] ⟨u,[],J2⟩ Q by
    exact go _ (by simp[I]) (by simp[K]) (by simp[q]) bv bv (by simp[N]) (by simpa using S)
   clear I K q N S;intro u I K q g8 g9 N S;apply ai;simp[g8,g9,l0,-ax];rcases c9 with⟨e,hF⟩|⟨e,hR⟩
   .have h0:m.headD 0=0:=by rw[e];rfl
    refine aD (by simpa using h0) (aR ?_);exact av (next _ _ ⟨by simp[I],by simp[K],by simp[q],h_ hF⟩ (by simp[N]) (by simp[S]))
   .refine aw (by simpa using e) ?_;apply ai;simp[g9];refine az (hQ _ _ _ ⟨ag,?_,rfl⟩ ?_)
    .simp only[Bool.false_eq_true,false_iff];exact B (g_ m hR)
    .simp[Km.results,bu]
  .rintro t J ⟨I,K,q,hI⟩ - -;apply ai;simp;refine az (hQ _ _ _ ⟨ae,?_,rfl⟩ ?_)
   .simp only[true_iff];exact λi h=>hI i h h
   .simp[Km.results,bu]
 exact⟨b,S,hp.eq⟩
structure et(O:a8->gi)(rs:List a8)(hh:Bool)(L:List aG):Prop where
 cap:∀s∈L,s.size<=(mD rs s).cap
 SA:∀s∈L,∀z,dL s.st z->uu O rs s z=ae
 cl:∀s∈L,∀t∈L,s.meet≠t.meet->iu hh s.room.toNat t.room.toNat=ae->¬ vo rs s t
 qt:∀x:aG,0<=x.room/\x.room<=2->(jf rs x).2=ae->∀q,0<=q->dA (cN x.room x.eo L) q<=(jf rs x).1
theorem yh{k tm:Int}{M L:List aG}(h:List.Sublist M L):List.Sublist (cN k tm M) (cN k tm L):=(h.filter _).map _
theorem El{k tm:Int}{M L:List aG}(h:M.Perm L):(cN k tm M).Perm (cN k tm L):=(h.filter _).map _
theorem et.sub{O:a8->gi}{j:List a8}{g:Bool}{M L:List aG}(l:∀s∈L,s.jo)(h:et O j g L)(d:List.Sublist M L):et O j g M:=
 ⟨λs b=>h.cap s (d.subset b),λs b=>h.SA s (d.subset b),λs h1 t h2=>h.cl s (d.subset h1) t (d.subset h2),
  λx u b q m=>ag5 (AV (yh d) (B6 l _ _) q) (h.qt x u b q m)⟩
theorem et.perm{O:a8->gi}{j:List a8}{g:Bool}{M L:List aG}(h:et O j g L)(d:M.Perm L):et O j g M:=
 ⟨λs b=>h.cap s (d.mem_iff.1 b),λs b=>h.SA s (d.mem_iff.1 b),λs h1 t h2=>h.cl s (d.mem_iff.1 h1) t (d.mem_iff.1 h2),
  λx m b q l=>by rw[GS (El d) q];exact h.qt x m b q l⟩
theorem Hu{h:Bool}{i k:Nat}(b:iu h i k=ae):iu h k i=ae:=by
 unfold iu at *;rw[Bool.or_comm (decide (k=2))];rw[show decide (k=i)=decide (i=k) by rw[decide_eq_decide];exact eq_comm];exact b
theorem Un{d:List a8}{l:Bool}(b:js d l){x:aG}(q:0<=x.room/\x.room<=2):0<=(jf d x).1:=by
 have j:=(CU b (xB b q).2).q;unfold jf;rcases j with e|⟨t,m,e,s,u,g,v⟩
 .rw[e];simp[ta]
 .rw[e];simp only[ta];split
  .exact g
  .split
   .simp
   .simp
theorem et.nil{O:a8->gi}{d:List a8}{b:Bool}(g:js d b):et O d b []:=
 ⟨λs h=>by simp at h,λs h=>by simp at h,λs h=>by simp at h,λx j _ q _=>by simpa[cN,dA]using Un g j⟩
theorem et.snoc{O:a8->gi}{l:List a8}{m:Bool}{L:List aG}{x:aG}(h:et O l m L)(j:Fits O l m L x):et O l m (L++[x]):=by
 refine⟨λs d=>?_,λs d=>?_,λs d t B b g=>?_,λy hy v q A=>?_⟩
 .rcases agl.1 d with d|d
  .exact h.cap s d
  .rw[If.1 d];exact j.cap
 .rcases agl.1 d with d|d
  .exact h.SA s d
  .rw[If.1 d];exact j.SA
 .rcases agl.1 d with h1|h1
  .rcases agl.1 B with h2|h2
   .exact h.cl s h1 t h2 b g
   .rw[If.1 h2]at b g ⊢;exact λE=>j.cl s h1 b g E.symm
  .rw[If.1 h1]at b g ⊢;rcases agl.1 B with h2|h2
   .exact j.cl t h2 (Ne.symm b) (Hu g)
   .rw[If.1 h2]at b;exact absurd rfl b
 .rw[oC,AU];have z:=h.qt y hy v q A;by_cases k:x.room=y.room/\x.eo=y.eo
  .have e:cN y.room y.eo [x]=[x.st]:=by simp[cN,k]
   rw[e];have u:jf l x=jf l y:=by unfold jf mD;rw[k.1,k.2]
   have:=j.qu (by rw[u];exact v) q A;rw[u,k.1,k.2]at this;simp only[dA];rcases this with h1|h1
   .have:pV x.st q=0:=by unfold pV;rw[h1];rfl
    omega
   .omega
  .have e:cN y.room y.eo [x]=[]:=by
    unfold cN;rw[List.filter_cons_of_neg]
    .rfl
    .simpa using k
   rw[e];simp only[dA];omega
theorem og.sound{O:a8->gi}{g:List a8}{d:Bool}(l:js g d){L:List aG}(h:og O g d L):et O g d L:=by
 have key:∀k,k<=L.length->et O g d (L.take k):=by
  intro k;induction k with
  |zero=>intro _;rw[List.take_zero];exact et.nil l
  |succ k m=>
   intro j;have b:k<L.length:=j;have e:L.take (k+1)=L.take k++[L[k]]:=by rw[agv,By b];rfl
   rw[e];exact(m ap).snoc (h k b)
 have:=key L.length (agn _);rwa[agu]at this
theorem et.fit{O:a8->gi}{u:List a8}{m:Bool}{L:List aG}(l:∀s∈L,s.jo)(h:et O u m L):og O u m L:=by
 intro i hi;have b:=IN hi;have e:L.take (i+1)=L.take i++[L[i]]:=by rw[agv,By hi];rfl
 refine⟨h.cap _ b,h.SA _ b,λs z g j x=>h.cl s (ahn z) _ b g j x.symm,λd q y=>.inr ?_⟩;have h1:=h.qt L[i] (jS (l _ b)) d q y;have h2:=AV (yh (k:=L[i].room) (tm:=L[i].eo) (List.take_sublist (i+1) L)) (B6 l _ _) q;rw[e,oC,AU]at h2;have v:cN L[i].room L[i].eo [L[i]]=[L[i].st]:=by simp[cN]
 rw[v]at h2;simp only[dA]at h2;omega
theorem B'{O:a8->gi}{d:List a8}{b:Bool}(j:js d b){L:List aG}(g:∀s∈L,s.jo):og O d b L↔et O d b L:=⟨og.sound j,et.fit g⟩
def tC(s:aG):aG:={ s with meet:=7-s.meet }
theorem Mq(k tm:Int)(L:List aG):cN k tm (L.map tC)=cN k tm L:=by
 unfold cN;rw[List.filter_map,List.map_map];rfl
theorem et.rn{O:a8->gi}{l:List a8}{j:Bool}{L:List aG}(h:et O l j L):et O l j (L.map tC):=by
 refine⟨λs b=>?_,λs b=>?_,λs b t v d g=>?_,λy hy m q u=>?_⟩
 .obtain⟨y,hy,rfl⟩:=agt.1 b;exact h.cap y hy
 .obtain⟨y,hy,rfl⟩:=agt.1 b;exact h.SA y hy
 .obtain⟨y,hy,rfl⟩:=agt.1 b;obtain⟨z,x,rfl⟩:=agt.1 v;exact h.cl y hy z x (λe=>d (by simp only[tC,e])) g
 .rw[Mq];exact h.qt y hy m q u
theorem ac3(L:List aG):(L.map tC).map tC=L:=by
 rw[List.map_map];have:tC ∘ tC=id:=by
  funext s;simp only[Function.comp,tC,id];cases s;simp only[aG.mk.injEq,and_true];omega
 rw[this,List.map_id]
theorem et.ZD{O:a8->gi}{d:List a8}{b:Bool}{L:List aG}:et O d b (L.map tC)↔et O d b L:=
 ⟨λh=>by have:=h.rn;rwa[ac3]at this,et.rn⟩
def tx(L:List aG):Nat->List aG
 |0=>[]| m+1=>(L.filter λs=>decide (s.meet=((m+1:Nat):Int)))++tx L m
theorem yq(L:List aG):∀m:Nat,(tx L m).Perm (L.filter λs=>decide (1<=s.meet/\s.meet<=(m:Int)))
 |0=>by
  have:(L.filter λs=>decide (1<=s.meet/\s.meet<=((0:Nat):Int)))=[]:=by
   rw[List.filter_eq_nil_iff];intro s _;simp;omega
  rw[this];exact List.Perm.refl _
 |m+1=>by
  have g:=yq L m;refine(List.Perm.append_left _ g).trans ?_;have h:=List.filter_append_perm (λs:aG=>decide (s.meet=((m+1:Nat):Int))) (L.filter λs=>decide (1<=s.meet/\s.meet<=((m+1:Nat):Int)));refine List.Perm.trans ?_ h;rw[List.filter_filter,List.filter_filter];have b:∀s:aG,(decide (s.meet=((m+1:Nat):Int))&&decide (1<=s.meet/\s.meet<=((m+1:Nat):Int)))=decide (s.meet=((m+1:Nat):Int)):=λs=>by
   rw[<-Bool.decide_and,decide_eq_decide];omega
  have d:∀s:aG,((!decide (s.meet=((m+1:Nat):Int)))&&decide (1<=s.meet/\s.meet<=((m+1:Nat):Int)))=decide (1<=s.meet/\s.meet<=(m:Int)):=λs=>by
   rw[<-decide_not,<-Bool.decide_and,decide_eq_decide];omega
  simp only[b,d];exact List.Perm.refl _
theorem wM{L:List aG}(b:∀s∈L,s.jo):(tx L 6).Perm L:=by
 have:=yq L 6;rwa[List.filter_eq_self.2 λs d=>by
  have:=b s d;rw[decide_eq_true_eq];exact⟨this.1,this.2.1⟩]at this
theorem I3{L:List aG}{s:aG}{m:Nat}(h:s∈tx L m):s∈L/\1<=s.meet/\s.meet<=m:=by
 have:=(yq L m).mem_iff.1 h;obtain⟨b,d⟩:=agT.1 this;exact⟨b,by simpa using d⟩
theorem Er{L:List aG}(u:jr L):∀m:Nat,jr ((tx L m).map tC)
 |0=>List.Pairwise.nil
 |m+1=>by
  have x:=Er u m;unfold jr at *;rw[tx,ahl,List.pairwise_append];refine⟨?_,x,?_⟩
  .rw[ahW];have d:List.Pairwise (λa b=>ez a b=ae/\a.meet=((m+1:Nat):Int)/\b.meet=((m+1:Nat):Int)) (L.filter λs=>decide (s.meet=((m+1:Nat):Int))):=by
    refine aij (R:=λa b=>ez a b=ae) (λ{a b} g l h=>⟨h,by simpa using (agT.1 g).2,by simpa using (agT.1 l).2⟩) (aiN aix u)
   refine aif (λ{a b} h=>?_) d;obtain⟨d,v,z⟩:=h;have A:=jQ.1 d;refine jQ.2 ?_;simp only[tC];omega
  .intro a g b l;obtain⟨a',j,rfl⟩:=agt.1 g;obtain⟨y,q,rfl⟩:=agt.1 l;have d:a'.meet=((m+1:Nat):Int):=by simpa using (agT.1 j).2
   have v:=(I3 q).2.2;refine jQ.2 ?_;simp only[tC];omega
theorem Ep{L:List aG}(l:∀s∈L,s.jo)(m:Nat)(A:m<=6):∀s∈(tx L m).map tC,s.jo:=λs q=>by
 obtain⟨y,u,rfl⟩:=agt.1 q;obtain⟨j,x,z⟩:=I3 u;obtain⟨a1,v,a3,a4,a5,b,d,g,a9⟩:=l y j;exact⟨by show 1<=7-y.meet;omega,by show 7-y.meet<=6;omega,a3,a4,a5,b,d,g,a9⟩
theorem Hy(g:Tg)(ss:List aG)(h:ss.length<=1000)(m:Int):∃g',bg tab O7 [.c (.f (sl g (aS ss))),vi m]=Eq (.c (.f (sl g' (aS (ss.filter λs=>decide (s.meet≠m)))))):=by
 obtain⟨r,⟨g',rfl⟩,Z⟩:∃r,(∃g',r=.c (.f (sl g' (aS (ss.filter λs=>decide (s.meet≠m))))))/\bg tab O7 [.c (.f (sl g (aS ss))),vi m] r:=by
  refine dx rfl rfl λQ Y=>?_;apply ai;simp;apply ai;simp;apply au;apply ai;simp;refine jy ss.length (λj t J=>t.g 0=.c (.f (sl g (aS ss)))/\t.g 1=vi m/\((ss.take j).filter λs=>decide (s.meet≠m)).length<=j/\∃c,t.g 5=.c c/\LR J c 7 (aS ((ss.take j).filter λs=>decide (s.meet≠m)))) ap rfl bv
   ⟨bv,bv,bv,.f .es,bv,by simp[aS];exact .inl ⟨rfl,.inr rfl⟩⟩ ?_ ?_ ?_
  .rintro j t H L E ⟨q,x,l,c,z,y⟩ u K;simp[u,q];exact K _ ⟨by simp[q],by simp[x],l,c,by simp[z],y⟩ (by simp[u]) bv
  .rintro j t J E ⟨q,x,l,c,z,y⟩ u next
   have v:=λH:an=>cf (H:=H) (bW ss) (dI E);have d:=λH:an=>bz (H:=H) (g:=g) (rows:=aS ss) (sz:=7) (k:=.i64) (i:=(j:Int)) ap ge;simp only[agD]at d;have b:=rJ E (λs:aG=>decide (s.meet≠m));have M:=dI E;obtain⟨s,O⟩:=aI (ss[j]);rw[<-O]at v b;have N:s.row.length=7:=rfl;have B:∀H:an,aV H ab (.c (.f (.fp (aS ss).flatten (j*7))))=aa (vi s.meet):=λH=>gU (row:=s.row) (bW ss) (by rw[O];exact M) rfl;by_cases F:s.meet=m
   .simp[F]at b;refine ay ?_;apply ai;simp[q,x,u,d,B,F];refine aD bv (aR (av (next _ _ ⟨by simp[q],by simp[x],by simp only[decide_not];rw[b];simp at l;omega,c,by simp[z],by simp only[decide_not];rw[b];simpa using y⟩ (by simp[u]))))
   .simp[F]at b;refine ay ?_;apply ai;simp[q,x,u,d,B,F];refine aw bv ?_;have I:=y.push [bO.box (s.row.map .f) 0];have U:(J++[bO.box (s.row.map .f) 0])[J.length]?=aa (.box (s.row.map .f) 0):=by simp
    obtain⟨S,a,W,X,e,f⟩:=I.app (bW _) ce (row:=s.row) rfl (bytes:=88) (by simp at l ⊢;simp[cD];omega) U;refine aq (.inl rfl) ?_;simp[z,q,u,d,v,N,W];refine av (next _ _ ⟨by simp[q],by simp[x],by simp only[decide_not];rw[b];simp at l ⊢;omega,S,bv,by simp only[decide_not];rw[b];simpa[aS]using X⟩ (by simp[u]))
  .rintro t J ⟨q,x,l,c,z,y⟩ u;rw[agu]at y;obtain⟨g',A⟩:=y.ex (bW _) 63;apply ai;simp[z];refine az (Y _ _ _ ⟨g',rfl⟩ ?_);simp only[decide_not]at A ⊢;simp[deep,A]
 exact⟨g',Z.eq⟩
theorem RD(W:bg tab Pp [] (vb ae))(B:List (List Int))(hB:B.length=3)(hr:∀r∈B,r.length=5/\∀n∈r,0<=n/\n<=255)(g:Tg)(l:List qV)(hl:l.length<=9223372036854775807)(hx:∀x∈l,x.OK)
  (n:Int) (b0:0<=n/\n<=255) :
  bg tab Ib [.a ((iZ B).flatten.map .f),.c (.f (sl g (iD l))),.c (.f (.int .u8 n))] (vb ae):=by
 have W:=W.eq;obtain⟨r,c9,b⟩:=RU B hB hr;obtain⟨rs,hh,ht,rfl⟩:=UL c9;have b:=bg.eq b;have U:(iZ B).flatten.length=15:=by
  have hg:cR 5 (iZ B):=λr hm=>by
   obtain⟨r',n8,rfl⟩:=agt.1 hm;rw[agq];exact(hr r' n8).1
  rw[cA hg];simp[iZ,hB]
 obtain⟨gs,ss,c_,d9,u,a⟩:=MR g l hl hx;obtain⟨O,hO⟩:=Zn ht;obtain⟨m,hm⟩:=aI (n % 6);have r0:cT .rem (.c (.f (.int .u8 n))) (.c (.f (.int .u8 6)))=aa (.c (.f (.int .u8 m))):=by rw[dp ap,Int.tmod_eq_emod_of_nonneg ap,hm]
 obtain⟨gw,o_⟩:=Hy gs ss ap (1+m);have i6:(ss.filter λs=>decide (s.meet≠1+m)).length<=5:=agK (ahb _ _) c_;have f:∀s∈ss.filter λs=>decide (s.meet≠1+m),s.jo:=λs h=>u s (agT.1 h).1;have i7:jr (ss.filter λs=>decide (s.meet≠1+m)):=aiN aix d9;obtain⟨v1,e_,j6⟩:=yU .es gs ht hO ss c_ d9 u;obtain⟨v3,j9,j7⟩:=yU .es gw ht hO _ i6 i7 f;have h_:((tx ss 6).map tC).length<=5:=by rw[agq,(wM u).length_eq];exact c_
 have Z:=λE=>yU .es E ht hO _ h_ (Er d9 6) (Ep u 6 ap);rw[B' ht u]at e_;rw[B' ht f]at j9;have a_:∀v2:Bool,(v2=ae↔og O rs hh ((tx ss 6).map tC))->v1=v2:=λv2 h=>by
  rw[B' ht (Ep u 6 ap),et.ZD]at h;rw[Bool.eq_iff_iff,e_,h];exact⟨λh=>h.perm (wM u),λh=>h.perm (wM u).symm⟩
 have b_:v1=ae->v3=ae:=λh=>j9.2 ((e_.1 h).sub u aix);generalize (ss.filter λs=>decide (s.meet≠1+m))=r7 at *;obtain⟨xs,p9⟩:=aI ((iZ B).flatten);rw[<-p9]at b U ⊢;have d_:List.take 15 (xs.map C.f)=xs.map C.f:=agw (by simp[U]);obtain⟨rm,j5⟩:=aI (sl .es (rows rs));rw[<-j5]at b j6 j7;refine bK rfl rfl λQ hQ=>?_;apply ai;simp;apply ai;simp[W];apply ai;simp[U,d_,b];apply ai;simp[a];apply ai;simp;have j_:∀(t:T) (J:an) (c:C),t.g 2=.c (.f (.int .u8 n))->t.g 7=vb ae->t.g 8=.c (.f rm)->t.g 9=.c (.f (sl gs (aS ss)))->t.g 10=.c c->LR J c 7 (aS ((tx ss 6).map tC))->
   WP tab Ib ab [.code C4] ⟨t,[],J⟩ Q:=by
  intro t J c E I F y q N;obtain⟨k_,i8⟩:=N.ex (bW _) 63;obtain⟨v2,n_,Z⟩:=Z k_;have j8:=a_ v2 n_;subst j8;rw[<-j5]at Z;change fh deep J c=_ at i8;apply ai;simp[F,y,j6];apply ai;simp[F,q,i8,Z];apply ai;simp[F,y,E,r0,aZ (n:=m),aZ (n:=1+m),o_,j7];apply ai;cases v1
  .simp[I];refine az (hQ _ _ ?_);simp
  .have:=b_ rfl;subst this;simp[I];refine az (hQ _ _ ?_);simp
 apply au;apply ai;simp;refine ay ?_;refine dc (λp st=>∃(t:T) (J:an) (c:C) (done:List aG),st=⟨t,[],J⟩/\p<=6/\done++tx ss p=tx ss 6/\t.g 2=.c (.f (.int .u8 n))/\t.g 7=vb ae/\t.g 8=.c (.f rm)/\t.g 9=.c (.f (sl gs (aS ss)))/\t.g 10=.c c/\t.g 11=vi p/\LR J c 7 (aS (done.map tC))) 6
  ⟨_,_,.f .es,[],rfl,ap,rfl,bv,bv,bv,bv,bv,bv,.inl ⟨rfl,.inr rfl⟩⟩ ?_
 rintro p st ⟨t,J,c,done,rfl,r6,v,E,I,F,y,q,d,N⟩ ih;apply au;apply ai;simp[d];by_cases q_:1<=p
 .refine aw ge (aR ?_);obtain⟨k,rfl⟩:∃k,p=k+1:=⟨p-1,ap⟩
  have r5:done.length<=5:=by
   have:=congrArg List.length v;rw[aft,(wM u).length_eq]at this;omega
  obtain⟨M,hM⟩:=aI (((k+1:Nat):Int):Int);rw[<-hM]at d;apply au;refine ay ?_;apply ai;simp;refine jy ss.length (λj t J=>t.g 2=.c (.f (.int .u8 n))/\t.g 7=vb ae/\t.g 8=.c (.f rm)/\t.g 9=.c (.f (sl gs (aS ss)))/\t.g 11=vi M/\((ss.take j).filter λs=>decide (s.meet=M)).length<=j/\∃c,t.g 10=.c c/\LR J c 7 (aS ((done++(ss.take j).filter λs=>decide (s.meet=M)).map tC))) ap rfl bv
   ⟨by simp[E],by simp[I],by simp[F],by simp[y],by simp[d],bv,c,by simp[q],by simpa using N⟩ ?_ ?_ ?_
  .rintro j t J L hj ⟨E,I,F,y,d,S,c,q,N⟩ X m9;simp[X,y];exact m9 _ ⟨by simp[E],by simp[I],by simp[F],by simp[y],by simp[d],S,c,by simp[q],N⟩ (by simp[X]) bv
  .rintro j t J hj ⟨E,I,F,y,d,S,c,q,N⟩ X next
   have o:=λH:an=>cf (H:=H) (bW ss) (dI hj);have A:=λH:an=>bz (H:=H) (g:=gs) (rows:=aS ss) (sz:=7) (k:=.i64) (i:=(j:Int)) ap ge;simp only[agD]at A;have z:=rJ hj (λs:aG=>decide (s.meet=M));have m_:=dI hj;obtain⟨s,hs⟩:=aI (ss[j]);rw[<-hs]at o z;have n9:s.row.length=7:=rfl;have i9:∀H:an,aV H ab (.c (.f (.fp (aS ss).flatten (j*7))))=aa (vi s.meet):=λH=>gU (row:=s.row) (bW ss) (by rw[hs];exact m_) rfl;by_cases Y:s.meet=M
   .simp only[Y,decide_true,if_true]at z;have e7:=aZ (n:=7-M);obtain⟨K,hK⟩:=aI (J++[bO.box (s.row.map .f) 0]:an);have kJ:K[J.length]?=aa (.box (s.row.map .f) 0):=by rw[hK];simp
    have w:=N.push [bO.box (s.row.map .f) 0];rw[<-hK]at w;have a:cY K (.ptr J.length 0 0) [.f (fi (7-M))]=aa (K.set J.length (.box ((tC s).row.map .f) 0)):=by
     have e:tC s=⟨7-M,s.room,s.eo,s.size,s.st⟩:=by rw[<-Y];rfl
     rw[e];simp[cY,kJ,over,aG.row]
    obtain⟨K2,f_⟩:=aI (K.set J.length (.box ((tC s).row.map .f) 0):an);have p_:K2[J.length]?=aa (.box ((tC s).row.map .f) 0):=by rw[f_,BY (aj kJ)]
    have g_:=w.set (w.bR kJ) (.box ((tC s).row.map .f) 0);rw[<-f_]at a g_;have l7:aV K2 (aa 7) (.c (.ptr J.length 0 0))=aa (.a ((tC s).row.map .f)):=by simp[aV,aA,p_,aW,aG.row]
    have l_:=g_.push [bO.box ((tC s).row.map .f) 0];have d3:(K2++[bO.box ((tC s).row.map .f) 0])[K2.length]?=aa (.box ((tC s).row.map .f) 0):=by simp
    obtain⟨c',K4,e1,e2,e3,e4⟩:=l_.app (bW _) ce (row:=(tC s).row) rfl (bytes:=88) (by simp at S ⊢;simp[cD];omega) d3;have i_:(tC s).row.length=7:=rfl;refine ay ?_;apply ai;simp[y,d,X,A,i9,Y];refine aw bv ?_;apply ai;simp[y,X,A,o,n9];rw[<-hK];apply ai;simp[d,e7,a,-bw];refine aq (.inl rfl) ?_;simp[q,l7,i_,e1,-ax];refine av (next _ _ ⟨by simp[E],by simp[I],by simp[F],by simp[y],by simp[d],by rw[z];simp at S ⊢;omega,c',bv,?_⟩ (by simp[X]));rw[z,<-agM,ahl];simpa[aS]using e2
   .simp[Y]at z;refine ay ?_;apply ai;simp[y,d,X,A,i9];refine aD ge (aR (av (next _ _ ⟨by simp[E],by simp[I],by simp[F],by simp[y],by simp[d],by rw[z];omega,c,by simp[q],by rw[z];exact N⟩ (by simp[X]))))
  .rintro t J ⟨E,I,F,y,d,S,c,q,N⟩ X;rw[agu]at N;refine av (aq (.inl rfl) ?_);have e1:ah .i64 (M-1)=(k:Nat):=by rw[aZ];omega
   simp[d,e1];refine ih k _ ap ⟨_,_,c,_,rfl,ap,?_,by simp[E],by simp[I],by simp[F],by simp[y],by simp[q],bv,N⟩;rw[<-v,tx,agM,hM]
 .have:p=0:=by omega
  subst this;refine aD bv ?_;refine bJ (k':=[.code C4]) rfl ?_;rw[tx,agN]at v;subst v;exact j_ _ _ c (by simp[E]) (by simp[I]) (by simp[F]) (by simp[y]) (by simp[q]) N
theorem UB:bg tab Pp []=Eq (vb ae):=bg.eq (by
 refine bK rfl rfl λQ O=>?_;have J:bg tab Fs []=Eq (.a [.f (.fs [.fs [.aJ,fi 0,fi 1,.fs [fi 0] 1] 1] 1)]):=(aY (m:=100) (d:=20) (by kernel_rfl)).eq;have E:bg tab Ft []=Eq (.a [.f (fi 0),.f (.fs [fi 7] 1),.f (fi (-1)),.f .aJ,.f (fi 0),.f .aJ,.f (fi 0),.f .aJ]):=(aY (m:=100) (d:=20) (by kernel_rfl)).eq;have b:=(aeC).eq;have g:=(aeD).eq;have j:=(aeE).eq;have l:=(aeF).eq;have q:=(aeG).eq;have s:=(aeH).eq;have u:=(aeM).eq;have v:=(aeN).eq;have A:=(afl).eq;have x:=(aeQ).eq;have y:=(aeR).eq;have B:=(afm).eq;have z:=(afg).eq;have F:=ZG.1.eq;have K:=on1.1.eq;have L:=on1.2.1.eq;have M:=on1.2.2.1.eq;have N:=on1.2.2.2.eq;have H:=ZG.2.1.eq;have I:=ZG.2.2.eq;simp only[Hj,M0,SE,roS,hoS,agm,agp,ahJ,List.nil_append]at b g j l q s u v A x y B z F H I
 repeat' first
  |(refine az (O _ _ ?_))
  |(apply au)
  |(refine ay ?_)
  |(refine eG ?_)
  |(refine eR ?_)
  |(refine av ?_)
  |(refine aR ?_)
  |(refine bJ rfl ?_)
  |(refine aw ?_ ?_;focus (simp;done))
  |(refine aD ?_ ?_;focus (simp;done))
  |(refine Vs ab9 rfl ?_)
  |(refine Vs ab8 rfl ?_)
  |(refine az ⟨rfl,_,rfl,?_⟩)
  |(refine aq (.inl rfl) ?_;simp[J,E,b,g,j,l,q,s,u,v,A,x,y,B,z,F,H,I,K,L,M,N,bT,dG,dg,cD,bG,fG,bh,over,aW,V.cells?,deep,jh,dq,bu,gT,jL,IntKind.wrap,IntKind.bits,IntKind.signed])
  |(simp[J,E,b,g,j,l,q,s,u,v,A,x,y,B,z,F,H,I,K,L,M,N,bT,dG,dg,cD,bG,fG,bh,over,aW,V.cells?,deep,jh,dq,bu,gT,jL,IntKind.wrap,IntKind.bits,IntKind.signed])
 done)
theorem afh:bg tab Pp [] (vb ae):=by rw[UB]
theorem jt{x:List FC}(h:∃m,x=[FC.int .u8 m]/\Lit.wf (.int .u8 m)):∃m,x=[FC.int .u8 m]/\B8 m:=by
 obtain⟨m,rfl,b⟩:=h;refine⟨m,rfl,?_⟩;simp[Lit.wf,IntKind.min,IntKind.max,IntKind.signed,IntKind.bits]at b;exact⟨ap,ap⟩
theorem Zz{ys:List FC}{n:Nat}(J:su Tryz.prog (n+3) 27 ys):∃x:qV,ys=x.row/\x.OK:=by
 obtain⟨_,i,rfl,b,K⟩:=iR (Hp (ts:=[5,5,5,5,5,5,5,5,5,25]) Tryz.underlying27 rfl J);obtain⟨Y,rfl,b1⟩:=jt (iW Tryz.underlying5 b);obtain⟨_,k,rfl,b,L⟩:=iR K;obtain⟨Z,rfl,s⟩:=jt (iW Tryz.underlying5 b);obtain⟨_,o,rfl,b,M⟩:=iR L;obtain⟨v3,rfl,u⟩:=jt (iW Tryz.underlying5 b);obtain⟨_,r,rfl,b,N⟩:=iR M;obtain⟨v4,rfl,v⟩:=jt (iW Tryz.underlying5 b);obtain⟨_,t,rfl,b,O⟩:=iR N;obtain⟨v5,rfl,y⟩:=jt (iW Tryz.underlying5 b);obtain⟨_,w,rfl,b,Q⟩:=iR O;obtain⟨a,rfl,z⟩:=jt (iW Tryz.underlying5 b);obtain⟨_,q7,rfl,b,S⟩:=iR Q;obtain⟨e,rfl,A⟩:=jt (iW Tryz.underlying5 b);obtain⟨_,q8,rfl,b,U⟩:=iR S;obtain⟨f,rfl,B⟩:=jt (iW Tryz.underlying5 b);obtain⟨_,q9,rfl,b,W⟩:=iR U;obtain⟨v9,rfl,E⟩:=jt (iW Tryz.underlying5 b);obtain⟨h,q,rfl,I,m⟩:=iR W;obtain rfl:q=[]:=m;obtain⟨F,X,rfl,_,d,j⟩:=Bh Tryz.underlying25 I;obtain⟨H,rfl,l⟩:=tE (enc:=λn:Int=>[FC.int .u8 n]) (p:=λn=>B8 n) λc g=>jt (iW Tryz.underlying5 (j c g));refine⟨⟨Y,Z,v3,v4,v5,a,e,f,v9,F,H⟩,rfl,b1,s,u,v,y,z,A,B,E,?_,l⟩;simp at d;exact agK d ce
theorem vA{b:Type}(g:b->FC):∀l:List b,(l.map λn=>[g n]).flatten=l.map g
 |[]=>rfl| x::l=>by simp only[agm,List.flatten_cons,vA g l];rfl
theorem MB{a0:V}(v:tU Tryz.prog 23 a0):∃B:List (List Int),a0=.a ((iZ B).flatten.map .f)/\B.length=3/\∀r∈B,r.length=5/\∀n∈r,0<=n/\n<=255:=by
 have q:∃xs,a0=.a (xs.map .f)/\su Tryz.prog 40 23 xs:=by
  rcases v with⟨xs,rfl,b,_⟩|⟨x,rfl,b⟩
  .exact⟨xs,rfl,b⟩
  .exfalso;obtain⟨rows,e,g,u,_⟩:=CM (n:=39) Tryz.underlying23 b;have:=congrArg List.length e;rw[cA u,g,show Tryz.prog.cellsOf 22=5 by kernel_rfl]at this;simp at this
 obtain⟨xs,rfl,b⟩:=q;obtain⟨F,rfl,g,u,E⟩:=CM (n:=39) Tryz.underlying23 b;obtain⟨B,rfl,y⟩:=tE (enc:=λr:List Int=>r.map λn=>FC.int .u8 n) (p:=λr=>r.length=5/\∀n∈r,0<=n/\n<=255) λr s=>by
  obtain⟨cs,rfl,j,A,z⟩:=CM (n:=38) Tryz.underlying22 (E r s);obtain⟨l,rfl,m⟩:=tE (enc:=λn:Int=>[FC.int .u8 n]) (p:=λn=>0<=n/\n<=255) λc d=>jt (iW (n:=37) Tryz.underlying5 (z c d));refine⟨l,vA _ l,by simpa using j,m⟩
 exact⟨B,rfl,by simpa using g,y⟩
theorem RN{a1:V}(b:tU Tryz.prog 24 a1):∃g l,a1=.c (.f (sl g (iD l)))/\l.length<=9223372036854775807/\∀x∈l,x.OK:=by
 rcases b with⟨xs,_,_,d,q,j⟩|⟨z,rfl,b⟩
 .rw[Tryz.underlying24]at q;cases q;rcases j with⟨_,e⟩|⟨_,_,e⟩<;>cases e
 .obtain⟨g,y,e,_,s,u⟩:=Bh (n:=39) Tryz.underlying24 b;cases e;obtain⟨l,rfl,v⟩:=tE (enc:=qV.row) (p:=λx=>x.OK) λr m=>Zz (n:=36) (u r m);refine⟨g,l,rfl,?_,v⟩;simp at s;exact agK s ce
theorem ZJ{a:V}(h:tU Tryz.prog 5 a):∃n:Int,a=.c (.f (.int .u8 n))/\0<=n/\n<=255:=by
 rcases h with⟨xs,_,_,d,g,b⟩|⟨z,rfl,j⟩
 .rw[Tryz.underlying5]at g;cases g;rcases b with⟨_,e⟩|⟨_,_,e⟩<;>cases e
 .obtain⟨m,e,l⟩:=iW Tryz.underlying5 j;cases e;simp[Lit.wf,IntKind.min,IntKind.max,IntKind.signed,IntKind.bits]at l;exact⟨m,rfl,ap,ap⟩
theorem G'(b:List V)(h:wA Tryz.prog [23,24,5] b):bg tab Ib b (vb ae):=by
 obtain⟨a0,_,rfl,d,a1,_,rfl,j,y,_,rfl,m,rfl⟩:=h;obtain⟨B,rfl,q,u⟩:=MB d;obtain⟨g,l,rfl,s,v⟩:=RN j;obtain⟨n,rfl,x,n1⟩:=ZJ m;exact RD afh B q u g l s v n ⟨x,n1⟩
end Go.Proofs.YtelifakcllijpaaGreat
