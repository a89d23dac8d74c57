/-
  ai9 sV ns km and sV mG answer, for all arguments of aaj kind, in sV small machine: part 3.
-/
import Derived.Test.YtgfdmhmmjbihiaaGreatS2
import Derived.Test.YtgfdmhmmjbihiaaGreatS1
import Derived.Test.YtgfdmhmmjbihiaaGreatK5
import Derived.Test.YtgfdmhmmjbihiaaGreatK4
open Option renaming some->aa,none->ab
open Bool renaming true->ae,false->ag
open Int renaming le_of_dvd->ar2, dvd_trans->ar3, emod_add_mul_ediv->arn, ediv_nonneg->arW, mul_ediv_cancel_left->aso, mul_comm->ar6, gcd->arU, le_trans->ar1, gcd_pos_of_ne_zero_left->asb, gcd_dvd_left->asR, gcd_dvd_right->asW, mul_le_mul_of_nonneg_right->arA, natCast_add->atn, add_mul->ati, mul_nonneg->arS, emod_emod_of_dvd->asc, emod_eq_of_lt->arP, sub_emod->atG, le_refl->ar9, toNat_natCast->ar7, dvd_refl->asw, dvd_of_emod_eq_zero->asr, mul_le_mul->asS
open List renaming getElem?_set_self->aq6, length_set->arQ, getElem?_set_ne->aq0, getElem?_eq_getElem->aq2, getElem?_append_left->aq1, mem_of_mem_drop->ar5, mem_of_mem_take->ass, mem_map->arx, length_drop->aru, take_add_one->arD, getElem_mem->aq7, length_map->aro, length_take->arT, take_length->arz, map_cons->arf, map_nil->art, mem_filter->asD, getElem?_append_right->arc, length_filter_le->as8, mem_append->ard, mem_singleton->arb, length_append->ara, mem_cons->arM, not_mem_nil->atu, flatten_cons->arv, map_append->asI, eraseIdx_eq_take_drop_succ->ase, drop_append_of_le_length->asj, drop_eq_getElem_cons->arp, append_assoc->arZ, take_append_of_le_length->arO, take_of_length_le->arw, take_append_drop->ar8, flatten_append->asx, set_eq_take_append_cons_drop->atd, nil_append->asu, length_eraseIdx->ate, drop_zero->asp, mem_append_left->ar4, mem_append_right->asA, drop_drop->asB, eraseIdx_append_of_length_le->atJ, mem_or_eq_of_mem_set->ata, length_pos_iff->arY, append_nil->asq, mem_cons_of_mem->arj, getElem_map->as2, length_singleton->atq, all_eq_true->ars, length_cons->ar0, mem_cons_self->arl
open Nat renaming le_refl->aq9, zero_le->ast, le_trans->arB, add_mul->arF, one_mul->atg
open List.Pairwise renaming imp_of_mem->atB
open Bool renaming false_eq_true->arq, and_eq_true->aq3, not_eq_true'->asy
open Option renaming bind_some->arG
set_option linter.unusedVariables false
set_option linter.constructorNameAsVariable false
set_option linter.unusedSimpArgs false
set_option linter.unusedSectionVars false
set_option linter.unnecessarySimpa false
set_option maxRecDepth 100000
namespace Go.Proofs.YtgfdmhmmjbihiaaGreat
open Go Km
structure iG(N:Int)(p:aE):Prop where
 ok:cm p=ae
 fr:p.fr<=100000
 aH:p.aH ∣ 27720
 bd:p.aH<=N
theorem iG.le{N:Int}{p:aE}(h:iG N p):p.aH<=27720:=ar2 (by decide) h.aH
theorem iG.head{N:Int}{p:aE}(h:iG N p):p.head.length<=100000:=by
 obtain⟨j,l,m,q,s,d,g,u,v⟩:=aY h.ok;have:=dT p.head 0 p.fr d λx b=>by have:=g x b;omega
 have:=h.fr;omega
theorem iG.aZ{N:Int}{p:aE}(h:iG N p):p.aZ.length<=27720:=by
 obtain⟨j,l,m,q,s,u,v,d,g⟩:=aY h.ok;have:=dT p.aZ 0 p.aH d λx b=>by have:=g x b;omega
 have:=h.le;omega
structure OQ(J5:aj)(bo:Nat)(hd:FC)(st P:Int)(cq:C)(jt:List Int)(J:aj):Prop where
 kp:∀i:Nat,i<J5.length->i≠bo->J[i]?=J5[i]?
 bx:J[bo]?=aa (.box [.f hd,.f (fi st),.f (fi P),cq] 0)
 lq:LR J cq 1 (ints jt)
 qb:∀i,aT cq=aa i->J5.length<=i
 hl:J5.length<=J.length
theorem OQ.app{v:aj}{j:Nat}{u:FC}{st P:Int}{z:C}{jt:List Int}{J:aj}(h:OQ v j u st P z jt J)(B:j<v.length)(hl:jt.length<=1000000)(n:Int) :
  ∃b g,bJ (J++[.box [.f (fi n)] 0]) 1 8 (.c z) (.c (.sl J.length 0 1 1 0 1))=aa (.c b,g)/\dC g (.ptr j 3 0) [b]=aa (g.set j (.box [.f u,.f (fi st),.f (fi P),b] 0))/\OQ v j u st P b (jt++[n]) (g.set j (.box [.f u,.f (fi st),.f (fi P),b] 0)):=by
 obtain⟨b,g,m,l,A,q,x⟩:=ng h.lq (by omega) n;have E:=h.hl;have d:=q _ _ h.bx (h.lq.bI h.bx);refine⟨b,g,m,by simp[dC,d,bR],λi hi s=>?_,aq6 (av d),l.set (l.bI d) _,λi hi=>?_,by rw[arQ];omega⟩
 .rw[aq0 (Ne.symm s),<-h.kp i hi s];have y:i<J.length:=by omega
  have hy:J[i]?=aa J[i]:=aq2 y;rw[hy];exact q i _ hy λe=>by have:=h.qb i e;omega
 .rcases x with e|e
  .rw[e]at hi;exact h.qb i hi
  .rw[e]at hi;cases hi;omega
theorem vL(f:Bool->Bool->Bool){a b qa qb:aE}(ha:cm qa=ae)(hb:cm qb=ae){st P R:Int}(n_:st=max qa.fr qb.fr)(hP:vd qa.aH qb.aH P)(hs:st<=100000)(o_:P<=27720)(i_:P ∣ R)(r8:st<=max a.fr b.fr)(n7:∀d,0<=d->f (bz qa d) (bz qb d)=f (bz a d) (bz b d))
  {J:aj} {c cx cy:C} {L:List Int} {g:Int} {m bp:Nat} (hL:LR J c 1 (ints L)) (i9:L.length<=1000000) (d6:∀d,d∈L↔0<=d/\d<st+P/\f (bz qa d) (bz qb d)=ae) (j2:J[2]?=aa (.box [.f .aw,.f (fi 0),.f (fi 0),.f .aw] 0)) (jp:J[bp]?=aa (.box (bW qa qb st cx cy g m) 0)) (p9:bp≠2)
  {t:T} (g6:t.g 6=.c (.ptr 2 0 0)) (N:t.g 8=.c (.ptr bp 0 0)) (g9:t.g 9=vi P) (c6:t.g 16=.c c) {Q:Option ax->St->Prop}
  (hQ:∀j s r,(∃q,cm q=ae/\q.fr<=max a.fr b.fr/\q.aH ∣ R/\(∀d,0<=d->bz q d=f (bz a d) (bz b d))/\r=.t [.a (q.row.map .f),vi 0])->nB [.cell (Km.P.nat 6) (aa 4),.tmp (Km.P.nat 7)] r s->Q j s) :
  WP tab 119 ab [.code pA] ⟨t,[],J⟩ Q:=by
 obtain⟨q1,q2,q3,q4,-⟩:=aY ha;have r7:=hP.pos;obtain⟨r,J1,b_,rfl,c_,l2,i8,u,m_⟩:=aad hL (by omega);apply ai;simp[c6,b_.eq];have p_:l2.length<=1000000:=by rw[u.length_eq];exact i9
 obtain⟨c',J2,l,a_,Y,d5,A,q_,U,f8⟩:=zy (by omega) m_ i8;apply ai;simp[c6,a_.eq];have o9:∀(i:Nat) y,J[i]?=aa y->aT c≠aa i->J2[i]?=aa y:=λi y I hn=>d5.2 i y (c_.2 i y I hn) hn;obtain⟨gx,b7⟩:=Y.ex;have b7:=b7 63;obtain⟨O,m8⟩:=Y.mk 63;obtain⟨i,hi,n6,d9,j7⟩:=fW gx l st (by omega) U;have kk:∀k cs E,J[k]?=aa (cH.box cs E)->J2[k]?=aa (cH.box cs E)/\(fk 64 c' J2)[k]?=aa (cH.box cs E):=λk cs E B=>by
  have h1:=o9 k _ B (hL.bI B);exact⟨h1,m8 k _ h1 (by rw[A];exact hL.bI B)⟩
 obtain⟨J3,Z⟩:=aQ (fk 64 c' J2);rw[<-Z]at kk O;have L2:=nf (kk bp _ _ jp).1;apply ai;simp[N,L2.jt,-aD,b7,deep,j7,<-Z];obtain⟨X,J4,c2,f9,n9,m9,n5,i6⟩:=O.cut hi;have c5:∀k cs E,J[k]?=aa (cH.box cs E)->J4[k]?=aa (cH.box cs E):=λk cs E B=>m9 k _ (kk k cs E B).2 (by rw[A];exact hL.bI B);have L3:=nf (kk bp _ _ jp).2;have L4:=nf (c5 bp _ _ jp);refine an (eu (.inl rfl) ?_ ?_)
 case refine_2=>
  intro cc j_;have j9:cc=(5,3):=by simpa using j_
  subst j9;refine⟨by decide,_,rfl,.inr ⟨by decide,?_⟩⟩;simp[N,f9,L3.jt,L4.jt,-aD,fY,pI]
 simp[N,g9,f9,L4.jt,-aD];obtain⟨M,a8⟩:=aQ (J4.length);obtain⟨K,H⟩:=aQ (J4++[cH.box [.f (sl X (ints (l.take i))),.f (fi st),.f (fi P),.f .aw] 0]);have k5:∀(k:Nat) y,J4[k]?=aa y->K[k]?=aa y:=λk y B=>by rw[H,aq1 (av B)];exact B
 have b5:K[M]?=aa (.box [.f (sl X (ints (l.take i))),.f (fi st),.f (fi P),.f .aw] 0):=by rw[H,a8];simp
 have l5:K.length=M+1:=by rw[H];simp[a8]
 rw[<-H,<-a8];have f_:=n9 K λj y _ I=>k5 j y I;have o4:=i6 K λj y _ I=>k5 j y I;have j8:∀j,aT c'=aa j->j<M:=λj hj=>by
  rw[A]at hj;have h1:=hL.lt hj;have h2:=c_.1;have h3:=d5.1;have h4:J3.length=J2.length:=by
   rw[Z];rcases Y with⟨-,rfl|rfl⟩|⟨-,b,ep,R,E,rfl,h2⟩
   .rfl
   .rfl
   .simp only[mz,h2];rw[jb]
    .simp
    .intro x hx;have hx:=ar5 (ass hx);obtain⟨m,_,rfl⟩:=arx.1 hx;exact⟨_,rfl⟩
  omega
 have q0:OQ K M (sl X (ints (l.take i))) st P (.f .aw) [] K:=⟨λ_ _ _=>rfl,b5,by simpa[ints]using LR.nil _ _,λ_ h=>(by cases h),aq9 _⟩
 apply an;apply ai;simp[f_,o4.1];refine cC (l.drop i).length (λj t J=>t.g 6=.c (.ptr 2 0 0)/\t.g 8=.c (.ptr bp 0 0)/\t.g 19=.c (.ptr M 0 0)/\t.g 149=.c c2/\∃cq,OQ K M (sl X (ints (l.take i))) st P cq (((l.drop i).take j).map (· - st)) J) (by rw[aru];omega) (by decide) (by decide) (by simp) (by simp)
  ⟨by simp[g6],by simp[N],by simp,by simp,.f .aw,by simpa using q0⟩ ?_ ?_
 .rintro j t J' hj ⟨g6,N,F,z,cq,v⟩ d7 j4 next
  have o5:=(i6 J' λk y B I=>by
   have:=j8 k B;rw[v.kp k (by omega) (by omega)];exact k5 k y I).2 j hj
  obtain⟨p,l_,e_⟩:=o5;have h_:(l.drop i).take (j+1)=(l.drop i).take j++[(l.drop i)[j]]:=by rw[arD,aq2 hj];rfl
  have d_:i+j<l.length:=by rw[aru]at hj;omega
  have o6:st<=(l.drop i)[j]/\(l.drop i)[j]<st+P:=by
   rw[List.getElem_drop];exact⟨d9 _ d_ (by omega),((d6 _).1 (u.mem_iff.1 ((f8 _).1 (aq7 d_)))).2.1⟩
  obtain⟨x,hx⟩:=aQ ((l.drop i)[j]);rw[<-hx]at e_ h_ o6;have m7:J'[bp]?=aa (.box (bW qa qb st cx cy g m) 0):=by
   have h4:=c5 bp _ _ jp;have:=av h4;rw[v.kp bp (by omega) (by omega)];exact k5 bp _ h4
  have LJ:=nf m7;have o8:bF J' ab (.c (.ptr M 3 0))=aa (.c cq):=by simp[bF,aK,v.bx]
  obtain⟨c3,H3,d8,g_,n8⟩:=v.app (by omega) (by rw[aro,arT];omega) (x-st);refine az ?_;apply ai;simp[d7,z,l_,e_,-aD];refine aq (.inl rfl) ?_;simp[N,F,o8,LJ.jt,-aD,aM (n:=x-st),d8,g_,-bC];refine ay (next _ _ ?_ (by simp[d7]) (by simp[j4]));refine⟨by simp[g6],by simp[N],by simp[F],by simp[z],c3,?_⟩;rw[h_];simpa using n8
 .rintro t J' ⟨g6,N,F,z,cq,v⟩ - -;rw[arz]at v;obtain⟨W,hW⟩:=aQ ((l.drop i).map (· - st));have p8:W.length<=1000000:=by rw[hW];simp;omega
  rw[<-hW]at v;obtain⟨gc,k_⟩:=v.lq.exU (Km.Ord.cr _);have x3:=k_ J' 63 (λi y I _=>I);obtain⟨o1,o2⟩:=aj_ f ha hb n_ hP (by omega) (by omega) U (λd=>by rw[f8,u.mem_iff];exact d6 d) (by omega) n6 d9 X gc;rw[<-hW]at o1 o2;obtain⟨q,⟨d1,d2,d3,d4⟩,-,-,S⟩:=oy ⟨X,l.take i,st,P,gc,W⟩ o1 (by show W.length<=_;omega) (by show(l.take i).length<=_;simp;omega);simp only[aE.row,arf,art]at S d2 d3;have o7:bF J' (aa 4) (.c (.ptr M 0 0))=aa (.a [.f (sl X (ints (l.take i))),.f (fi st),.f (fi P),cq]):=by simp[bF,aK,v.bx,bf]
  have u3:=an0 v.lq;simp only[deep]at u3;have i7:J'[2]?=aa (.box [.f .aw,.f (fi 0),.f (fi 0),.f .aw] 0):=by
   have h4:=c5 2 _ _ j2;have:=av h4;rw[v.kp 2 (by omega) (by omega)];exact k5 2 _ h4
  have w2:=u3 2 _ i7 (v.lq.bI i7);obtain⟨JM,c9⟩:=aQ (fk 64 cq J');rw[<-c9]at w2;have t2:dC JM (.ptr 2 0 0) [.f (sl q.hg (ints q.head)),.f (fi q.fr),.f (fi q.aH),.f (sl q.cg (ints q.aZ))]=aa (JM.set 2 (.box [.f (sl q.hg (ints q.head)),.f (fi q.fr),.f (fi q.aH),.f (sl q.cg (ints q.aZ))] 0)):=by simp[dC,w2,bR]
  have n2:(JM.set 2 (.box [.f (sl q.hg (ints q.head)),.f (fi q.fr),.f (fi q.aH),.f (sl q.cg (ints q.aZ))] 0))[2]?=aa (.box [.f (sl q.hg (ints q.head)),.f (fi q.fr),.f (fi q.aH),.f (sl q.cg (ints q.aZ))] 0):=aq6 (av w2);apply ai;simp[g6,F,o7,-aD,x3,deep,S,<-c9,t2,-bC];refine aB (hQ _ _ _ ⟨q,d1,by omega,ar3 d3 i_,λd hd=>?_,rfl⟩ ⟨rfl,.t [.a [.f (sl q.hg (ints q.head)),.f (fi q.fr),.f (fi q.aH),.f (sl q.cg (ints q.aZ))],vi 0],?_,?_⟩)
  .rw[d4 d hd,o2 d hd,n7 d hd]
  .simp[Km.results,bQ,aX,g6,n2,bf]
  .simp[aE.row,jy,de,aX]
theorem afd{X Y:List Int}{g:Int}{l:List (Int × C)}{v y:C}{m N:Nat}(E d:aE)(st:Int){H:aj}(h:PH H N X Y g l v y m)(I:0<g)(M:0<=d.aH)(W:d.aH<=1000000)(x:Int)(O:0<=x)(U:Y.length<=1000000) :
  ∃r z,Ev tab (.fn 212) [.a (bW E d st v y g m),vi x] H r z/\(r=vb (decide (((fq g Y (x % g)).length:Int)=d.aH / g))/\(∀i:Nat,i<H.length->z[i]?=H[i]?)/\H.length<=z.length):=by
 refine cz rfl rfl λQ K=>?_;apply ai;simp[bW];obtain⟨b0,q⟩:=aQ (H.length);obtain⟨j,b⟩:=aQ (H++[.box (bW E d st v y g m) 0]:aj);have J:j[b0]?=aa (.box (bW E d st v y g m) 0):=by rw[b,q];simp
 have F:∀i:Nat,i<H.length->j[i]?=H[i]?:=λi hi=>by rw[b,aq1 (by omega)]
 have S:j.length=H.length+1:=by rw[b];simp
 unfold bW at b;rw[<-b,<-q];have h:=h.bE F;have L:=nf J;have u:bL .rem (vi x) (vi g)=aa (vi (x % g)):=dY O I;have s:bL .quo (vi d.aH) (vi g)=aa (vi (d.aH / g)):=eB M I (by omega);have A:=h.ok.look h.mp (x % g);have B:aV j (md l (x % g))=aa (fq g Y (x % g)).length:=by have:=(h.ok.lr (x % g)).len;simpa[ints]using this
 apply ai;simp[L.lm,L.lg,L.lbp,u,s,-aD,fA,A,B];exact aB (K _ _ _ rfl (cV (by simp)) ⟨rfl,F,by show H.length<=j.length;omega⟩)
theorem xH(f:Int->Bool):∀l:List Int,l.length=(l.filter f).length+(l.filter λx=>!f x).length
 |[]=>rfl
 |a::l=>by
  have:=xH f l;simp only[List.filter_cons];cases f a<;>simp<;>omega
theorem ai_{l:List Int}{k:Int}(m:l.Pairwise (· < ·))(j:∀x∈l,0<=x/\x<k)(y:(l.length:Int)=k){v:Int}(z:0<=v)(A:v<k):v∈l:=by
 refine Decidable.byContradiction λq=>?_;have s:=dT (l.filter λx=>decide (x<v)) 0 v (List.Pairwise.filter _ m) λx d=>by
  have b:=asD.1 d;have:=j x b.1;have g:=of_decide_eq_true b.2;omega
 have b:=dT (l.filter λx=>!decide (x<v)) (v+1) (k-v-1) (List.Pairwise.filter _ m) λx d=>by
  have b:=asD.1 d;have:=j x b.1;have g:¬ x<v:=by simpa using b.2
  have u:x≠v:=λe=>q (e▸b.1);omega
 have g:l.length=(l.filter λx=>decide (x<v)).length+(l.filter λx=>!decide (x<v)).length:=xH _ l;omega
theorem zu{Y:List Int}{m g r:Int}(E:0<g)(N:g ∣ m)(J:Y.Pairwise (· < ·))(L:∀y∈Y,0<=y/\y<m)(M:((fq g Y r).length:Int)=m / g){y:Int}(z:0<=y)(A:y<m)(Q:y % g=r):y∈Y:=by
 have d:∀a,a∈fq g Y r->a∈Y/\a % g=r:=λa j=>by have:=asD.1 j;exact⟨this.1,by simpa using this.2⟩
 have F:((fq g Y r).map (· / g)).Pairwise (· < ·):=by
  rw[List.pairwise_map];refine atB (λ{a b} j q K=>?_) (List.Pairwise.filter _ J);have s:=arn a g;have u:=arn b g;have v:=(d a j).2;have S:=(d b q).2;have I:g*(a / g)<g*(b / g):=by omega
  exact Int.lt_of_mul_lt_mul_left I (by omega)
 have l:∀a,0<=a->a<m->0<=a / g/\a / g<m / g:=λa B a1=>⟨arW B (by omega),by
  obtain⟨k,rfl⟩:=N;rw[aso _ (by omega)];exact Int.ediv_lt_of_lt_mul E (by rw[ar6];exact a1)⟩
 have H:=ai_ F (λx O=>by
  obtain⟨a,j,rfl⟩:=arx.1 O;have:=L a (d a j).1;exact l a this.1 this.2) (by rw[aro];exact M) (l y z A).1 (l y z A).2
 obtain⟨a,j,e⟩:=arx.1 H;have s:=arn a g;have u:=arn y g;have v:=(d a j).2;have:a=y:=by rw[<-s,<-u,v,Q,e]
 exact this▸(d a j).1
theorem afB{S d:aE}(K:cm d=ae){st g:Int}{H I:C}{m b0:Nat}{J:aj}(M:J[b0]?=aa (.box (bW S d st H I g m) 0)){c:C}{L:List Int}(x:LR J c 1 (ints L))(U:L.length<=1000000)(n:Int)(O:0<=n)(n1:Day n) :
  ∃r j,Ev tab (.fn 211) [.c c,vi n,.c (.ptr b0 0 0)] J r j/\∃l,r=.c l/\LR j l 1 (ints (if bz d n then L else L++[n]))/\J.length<=j.length/\(∀(i:Nat) y,J[i]?=aa y->aT c≠aa i->j[i]?=aa y)/\(aT l=aT c\/aT l=aa (J.length+1)):=by
 have E:=pP d K n O n1;simp only[aE.row,arf,art]at E;have LJ:=nf M;refine cz rfl rfl λQ z=>?_;apply ai;simp;apply an;apply ai;simp[LJ.lb,-aD,E];cases A:bz d n with
 |true=>
  refine au (by simp) ?_;apply ai;simp;exact aB (z _ _ (.c c) rfl (cV (by simp)) ⟨c,rfl,by simpa[A]using x,aq9 _,λi y N _=>N,.inl rfl⟩)
 |false=>
  obtain⟨v,F,b,q,B,u,s⟩:=ng x (by omega) n;refine ba (by simp) ?_;apply ai;simp[b];exact aB (z _ _ (.c v) rfl (cV (by simp)) ⟨v,rfl,by simpa[A]using q,by show J.length<=F.length;omega,u,s⟩)
structure WT(H:aj)(qa qb:aE)(st g:Int)(cx cy:C)(m:Nat)(L:List Int)(J:aj):Prop where
 kp:∀i:Nat,i<H.length->J[i]?=H[i]?
 b0:J[H.length]?=aa (.box (bW qa qb st cx cy g m) 0)
 b1:J[H.length+1]?=aa (.box [.cl 211 [.ptr H.length 0 0]] 0)
 ls:∃c,J[H.length+2]?=aa (.box [c] 0)/\LR J c 1 (ints L)/\∀i,aT c=aa i->H.length+6<i
 hl:H.length+6<J.length
theorem WT.bE{H:aj}{z qb:aE}(hb:cm qb=ae){st g:Int}{u v:C}{m:Nat}{L:List Int}{J:aj}(h:WT H z qb st g u v m L J)(hl:L.length<=1000000)(n:Int)(I:0<=n)(n1:Day n) :
  ∃c d b,bF J ab (.c (.ptr (H.length+2) 0 0))=aa (.c c)/\Ev tab (.fn 211) [.c c,vi n,.c (.ptr H.length 0 0)] J (.c d) b/\dC b (.ptr (H.length+2) 0 0) [d]=aa (b.set (H.length+2) (.box [d] 0))/\
   WT H z qb st g u v m (if bz qb n then L else L++[n]) (b.set (H.length+2) (.box [d] 0))/\(∀(i:Nat) y,i<=H.length+6->i≠H.length+2->J[i]?=aa y->(b.set (H.length+2) (.box [d] 0))[i]?=aa y):=by
 obtain⟨c,h2,A,hc⟩:=h.ls;obtain⟨r,b,B,d,rfl,q,x,E,s⟩:=afB hb h.b0 A hl n I n1;have K:=h.hl;have up:∀(i:Nat) y,i<=H.length+6->J[i]?=aa y->b[i]?=aa y:=λi y hi hy=>E i y hy λe=>by have:=hc i e;omega
 have l:=up _ _ (by omega) h2;have j:∀(i:Nat) y,i<=H.length+6->i≠H.length+2->J[i]?=aa y->(b.set (H.length+2) (.box [d] 0))[i]?=aa y:=λi y hi F hy=>by
  rw[aq0 (Ne.symm F)];exact up i y hi hy
 refine⟨c,d,b,by simp[bF,aK,h2],B,by simp[dC,l,bR],⟨λi hi=>?_,j _ _ (by omega) (by omega) h.b0,j _ _ (by omega) (by omega) h.b1,⟨d,aq6 (av l),q.set (q.bI l) _,λi hi=>?_⟩,?_⟩,j⟩
 .rw[<-h.kp i hi];have hy:J[i]?=aa J[i]:=aq2 (by omega);rw[hy];exact j i _ (by omega) (by omega) hy
 .rcases s with e|e
  .rw[e]at hi;exact hc i hi
  .rw[e]at hi;cases hi;omega
 .rw[arQ];omega
structure WO(H:aj)(qa qb:aE)(st g:Int)(cx cy:C)(m:Nat)(tm:T)(ls:dt)(pd:Option ax)(z:Int)(L:List Int)(J:aj):Prop where
 wt:WT H qa qb st g cx cy m L J
 b3:J[H.length+3]?=aa (.box [.f (sl qa.hg (ints qa.head)),.f (fi qa.fr),.f (fi qa.aH),.f (sl qa.cg (ints qa.aZ))] 0)
 b4:J[H.length+4]?=aa (.box [.f (fi z)] 0)
 df:J[H.length+5]?=aa (.fj ae)
 lp:J[H.length+6]?=aa (.lp 169 tm [P.nat 15] iy iz ls pd (H.length+5))
theorem WT.set{H:aj}{l qb:aE}{st g:Int}{d j:C}{m:Nat}{L:List Int}{J:aj}(h:WT H l qb st g d j m L J){k:Nat}(h1:H.length+3<=k)(h2:k<=H.length+6)(y:cH):WT H l qb st g d j m L (J.set k y):=by
 obtain⟨a1,u,v,⟨c,x,q,b⟩,s⟩:=h;refine⟨λi hi=>?_,?_,?_,⟨c,?_,q.set (λe=>by have:=b _ e;omega) _,b⟩,by rw[arQ];exact s⟩
 .rw[aq0 (by omega)];exact a1 i hi
 all_goals (rw[aq0 (by omega)];assumption)
theorem WO.Lv{H:aj}{l qb:aE}{st g:Int}{d j:C}{m:Nat}{b:T}{ls ls':dt}{s pd':Option ax}{z:Int}{L:List Int}{J:aj}(h:WO H l qb st g d j m b ls s z L J) :
  WO H l qb st g d j m b ls' pd' z L (J.set (H.length+6) (.lp 169 b [P.nat 15] iy iz ls' pd' (H.length+5))):=by
 obtain⟨h1,h3,u,v,q⟩:=h;refine⟨h1.set (by omega) (by omega) _,?_,?_,?_,aq6 (av q)⟩
 all_goals (rw[aq0 (by omega)];assumption)
theorem WO.low{H:aj}{l qb:aE}{st g:Int}{b d:C}{m:Nat}{q:T}{ls:dt}{j:Option ax}{z:Int}{L:List Int}{J:aj}(h:WO H l qb st g b d m q ls j z L J)(s:Int):WO H l qb st g b d m q ls j s L (J.set (H.length+4) (.box [.f (fi s)] 0)):=by
 obtain⟨h1,h3,u,v,x⟩:=h;refine⟨h1.set (by omega) (by omega) _,?_,aq6 (av u),?_,?_⟩
 all_goals (rw[aq0 (by omega)];assumption)
theorem nK{H:aj}{x q:aE}(U:cm q=ae){st g:Int}{u v:C}{m:Nat}{l:T}(O:l.g 2=.c (.ptr H.length 0 0))(Q:l.g 5=.c (.ptr (H.length+1) 0 0))(S:l.g 6=.c (.ptr (H.length+2) 0 0)){z:Int}{L:List Int}{J:aj}(h:WO H x q st g u v m l .ready ab z L J)(n:Int)(Y:0<=n)(n1:n<st->Day n)(W:n<st->L.length<=1000000) :
  ∃r y,Ev tab (.yield (H.length+6)) [vi n] J r y/\((n<st/\r=vb ae/\WO H x q st g u v m l .ready ab z (if bz q n then L else L++[n]) y)\/(st<=n/\r=vb ag/\WO H x q st g u v m l .done (aa (.exit 0)) z L y)):=by
 refine gi (tab:=tab) (b:=H.length+6) (args:=[vi n]) (H:=J) h.lp rfl λZ s=>?_;refine aq (.inr rfl) ?_;simp;refine na h.lp ?_;have d:=h.Lv (ls':=.busy) (pd':=ab);generalize J.set (H.length+6) (.lp 169 l [P.nat 15] iy iz .busy ab (H.length+5))=M at d ⊢;have LJ:=nf d.wt.b0;refine az ?_;apply an;refine an (aq (.inr rfl) ?_);simp[O,LJ.jt,-aD];by_cases k:n<st
 .refine aA (by simp;omega) (aJ ?_);obtain⟨c,N,K,B,A,E,F,j⟩:=d.wt.bE U (W k) n Y (n1 k);have X:bF M ab (.c (.ptr (H.length+1) 0 0))=aa (.c (.cl 211 [.ptr H.length 0 0])):=by simp[bF,aK,d.wt.b1]
  refine aq (.inr rfl) ?_;simp[Q,S,X,B,-aD,bX,A.eq,E,-bC];have I:WO H x q st g u v m l .busy ab z (if bz q n then L else L++[n]) (K.set (H.length+2) (.box [N] 0)):=⟨F,j _ _ (by omega) (by omega) d.b3,j _ _ (by omega) (by omega) d.b4,j _ _ (by omega) (by omega) d.df,j _ _ (by omega) (by omega) d.lp⟩
  exact ay (cW (s _ _ _ _ _ _ _ _ _ _ rfl I.lp (.inl ⟨k,rfl,I.Lv⟩)))
 .refine au (by simp;omega) ?_;exact jd rfl (s _ _ _ _ _ _ _ _ _ _ rfl d.lp (.inr ⟨by omega,rfl,d.Lv⟩))
theorem YR{f:Nat}{args:List V}{H:aj}{S:V->aj->Prop}{ps:List P}{b:List gl}{body:ax}(A:tab f=aa ⟨ps,b,body⟩)(z:args.length=ps.length)
  (h:∀Q:Option ax->St->Prop,(∀j s r,(∃bs,s.defs=bs.map .gB/\ij bs s.heap/\Km.results s.aF (mC bs s.heap) b=aa r/\S r (mC bs s.heap))->Q j s)->WP tab f ab [.code body] ⟨cD ps args .e,[],H⟩ Q):∃r l,Ev tab (.fn f) args H r l/\S r l:=by
 have q:=h (λ_ s=>∃r,∃bs,s.defs=bs.map .gB/\ij bs s.heap/\Km.results s.aF (mC bs s.heap) b=aa r/\S r (mC bs s.heap)) λ_ _ r g=>⟨r,g⟩
 obtain⟨n,m,d,j,s,g,r,bs,y,x,u,v⟩:=q;exact⟨r,mC bs s.heap,oE A z ⟨n,m,d,j,s,g,0,0,_,by rw[y];exact jx x,u,rfl⟩,v⟩
def WIn(b g:aE)(st P:Int)(Z:List Int)(d:Int):Prop:=(0<=d/\d<st/\bz b d=ae/\bz g d=ag)\/(st<=d/\d<st+P/\(d-st) % b.aH∈Z/\bz g d=ag)
theorem AJ{q u:aE}(ha:cm q=ae)(hb:cm u=ae){st P g:Int}{X Y:List Int}{l:List (Int × C)}{S cy:C}{m N:Nat}{H:aj}(h:PH H N X Y g l S cy m)(r_:st=max q.fr u.fr)(s1:st<=100000)(hX:ri q st X)(hY:ri u st Y)
  (hg:g=(arU q.aH u.aH:Int)) (hP:vd q.aH u.aH P) (P1:P<=27720) :
  ∃r H',Ev tab (.fn 169) [.a (bW q u st S cy g m),vi P] H r H'/\∃c L,r=.c c/\LR H' c 1 (ints L)/\(∀i:Nat,i<H.length->H'[i]?=H[i]?)/\L.length<=1000000/\∀d,d∈L↔0<=d/\d<st+P/\(bz q d&&!bz u d)=ae:=by
 obtain⟨q1,q2,q3,q4,q5,q6,q7,q8,q9⟩:=aY ha;obtain⟨w1,w2,w3,w4,w5,w6,w7,w8,w9⟩:=aY hb;have P0:=hP.pos;have s7:q.aH<=27720:=ar1 (ar2 P0 hP.da) P1;have s_:u.aH<=27720:=ar1 (ar2 P0 hP.db) P1;have g0:0<g:=by rw[hg];have:=asb u.aH (show q.aH≠0 by omega);omega
 have m8:g ∣ q.aH:=by rw[hg];exact asR ..
 have i6:g ∣ u.aH:=by rw[hg];exact asW ..
 have n5:(X.length:Int)<=q.aH:=by
  have:=dT X 0 q.aH hX.2.1 λx hx=>by have:=hX.2.2.1 x hx;omega
  omega
 have o9:(Y.length:Int)<=u.aH:=by
  have:=dT Y 0 u.aH hY.2.1 λx hx=>by have:=hY.2.2.1 x hx;omega
  omega
 have p8:q.head.length<=100000:=by
  have:=dT q.head 0 q.fr q6 λx hx=>by have:=q7 x hx;omega
  omega
 have o_:q.aZ.length<=27720:=by
  have:=dT q.aZ 0 q.aH q8 λx hx=>by have:=q9 x hx;omega
  omega
 obtain⟨K,hK⟩:∃K,P=q.aH*K:=hP.da;have K0:0<=K:=by
  rcases Int.lt_or_le K 0 with k|k
  .have:=Int.mul_nonpos_of_nonneg_of_nonpos (show 0<=q.aH by omega) (show K<=0 by omega);omega
  .exact k
 have m_:(X.length:Int)*K<=P:=by rw[hK];exact arA n5 K0
 obtain⟨b0,W⟩:=aQ (H.length);refine YR aiQ rfl λQ hQ=>?_;apply ai;simp[bW];obtain⟨HA,b7⟩:=aQ (H++[.box (bW q u st S cy g m) 0]:aj);have a0:HA[b0]?=aa (.box (bW q u st S cy g m) 0):=by rw[b7,W];simp
 have al:HA.length=b0+1:=by rw[b7,W];simp
 unfold bW at b7;rw[<-b7,<-W];have s5:dC (HA++[.box [.f .jw] 0]) (.ptr HA.length 0 0) [.cl 211 [.ptr b0 0 0]]=aa (HA++[.box [.cl 211 [.ptr b0 0 0]] 0]):=by simp[dC,bR]
 apply ai;simp[s5,-bC];apply ai;simp;obtain⟨HB,a_⟩:=aQ (HA++[.box [.cl 211 [.ptr b0 0 0]] 0,.box [.f .aw] 0]:aj);have bl:HB.length=b0+3:=by rw[a_];simp[al]
 have c0:HB[b0]?=aa (.box (bW q u st S cy g m) 0):=by rw[a_,aq1 (by omega)];exact a0
 have c1:HB[b0+1]?=aa (.box [.cl 211 [.ptr b0 0 0]] 0):=by rw[a_,arc (by omega)];simp[al]
 have c2:HB[b0+2]?=aa (.box [.f .aw] 0):=by rw[a_,arc (by omega)];simp[al]
 have ck:∀i:Nat,i<b0->HB[i]?=H[i]?:=λi hi=>by rw[a_,aq1 (by omega),b7,aq1 (by omega)]
 rw[<-a_,al];have L1:=nf c0;obtain⟨r0,H0,hf,rfl,rfl⟩:=A' q 0 HB;simp only[aE.row,arf,art]at hf;rw[bl]at hf;apply an;apply ai;simp[L1.la,-aD,hf.eq];refine az ?_;obtain⟨HC,b_⟩:=aQ (HB++[.box [.f (sl q.hg (ints q.head)),.f (fi q.fr),.f (fi q.aH),.f (sl q.cg (ints q.aZ))] 0,.box [.f (fi 0)] 0]:aj);rw[<-b_];have cl:HC.length=b0+5:=by rw[b_];simp[bl]
 suffices go:∀tm:T,tm.g 1=vi P->tm.g 2=.c (.ptr b0 0 0)->tm.g 5=.c (.ptr (b0+1) 0 0)->tm.g 6=.c (.ptr (b0+2) 0 0)->tm.g 14=.c (.cl 175 [.ptr (b0+3) 0 0,.ptr (b0+3+1) 0 0])->WP tab 169 ab [.code tw,.inBlock 0,.code pB] ⟨tm,[],HC⟩ Q by exact go _ (by simp) (by simp) (by simp) (by simp) (by simp)
 intro tm g1 U g5 Z m7;obtain⟨HR,a8⟩:=aQ (HC++[.fj ae,.lp 169 tm [Km.P.nat 15] iy iz .ready ab HC.length]:aj);have up:∀(i:Nat),i<b0+3->HR[i]?=HB[i]?:=λi hi=>by rw[a8,aq1 (by omega),b_,aq1 (by omega)]
 have q0:WO H q u st g S cy m tm .ready ab 0 ([].filter λd=>!bz u d) HR:=by
  refine⟨⟨λi hi=>?_,?_,?_,⟨.f .aw,?_,LR.nil _ _,λ_ h=>by cases h⟩,?_⟩,?_,?_,?_,?_⟩<;>rw[<-W]at *
  .rw[up i (by omega)];exact ck i hi
  .rw[up _ (by omega)];exact c0
  .rw[up _ (by omega)];exact c1
  .rw[up _ (by omega)];exact c2
  .rw[a8];simp[cl]
  .rw[a8,aq1 (by omega),b_,arc (by omega)];simp[bl]
  .rw[a8,aq1 (by omega),b_,arc (by omega)];simp[bl]
  .rw[a8,arc (by omega)];simp[cl]
  .rw[a8,arc (by omega)];simp[cl]
 rw[W]at U g5 Z;obtain⟨r,H',he,rfl,ds,c6,o4,d_⟩:=A_ (b:=H.length+6) (bp:=H.length+3) (bl:=H.length+4) q ha (by omega) (by omega) 0 st (by omega) (by omega) (by omega) (PP:=λz ds J=>WO H q u st g S cy m tm .ready ab z (ds.filter λd=>!bz u d) J) (RR:=λds J=>∃z,WO H q u st g S cy m tm .done (aa (.exit 0)) z (ds.filter λd=>!bz u d) J)
  (λz ds J h=>⟨h.b3,h.b4⟩) (λz z' ds J h=>h.low z')
  (λz ds J n h n_ hn f9 hp hS=>by
   have j8:(ds.filter λd=>!bz u d).length<=1000000:=by
    have:=dT ds 0 st hp λx hx=>by have:=hS x hx;unfold SW at this;omega
    have:=as8 (λd=>!bz u d) ds;omega
   obtain⟨r,H',c9,hr⟩:=nK hb U g5 Z h n n_ (λ_=>by unfold Day;omega) λ_=>j8;rcases hr with⟨_,rfl,hq⟩|⟨h2,_,_⟩
   .refine⟨H',c9,?_⟩;rw[List.filter_append];cases hk:bz u n<;>simpa[hk]using hq
   .omega)
  (λz ds J n h hn _=>by
   obtain⟨r,H',c9,hr⟩:=nK hb U g5 Z h n (by omega) (λh=>by omega) λh=>by omega
   rcases hr with⟨h2,_,_⟩|⟨_,rfl,hq⟩
   .omega
   .exact⟨H',c9,z,hq⟩)
  q0
 obtain⟨L0,e_⟩:=aQ (ds.filter λd=>!bz u d);rw[<-e_]at c6;have o7:(L0.length:Int)<=st:=by
  have:=dT ds 0 st o4 λx hx=>by have:=(d_ x).1 hx;unfold SW at this;omega
  have:=as8 (λd=>!bz u d) ds;rw[e_];omega
 have i7:∀d,d∈L0↔WIn q u st P [] d:=λd=>by
  rw[e_,asD,d_];unfold SW WIn;cases bz u d<;>simp<;>omega
 rw[<-W]at he;have n6:Ev tab (.fn 175) [.c (.yl (HC.length+1)),.c (.ptr (b0+3) 0 0),.c (.ptr (b0+3+1) 0 0)] (HC++[.fj ae,.lp 169 tm [Km.P.nat 15] iy iz .ready ab HC.length]) (.t []) H':=by
  rw[<-a8,cl];exact he
 refine gH (g:=175) (by rw[wX,m7];simp[bX]) n6 ?_;rw[cl];have h_:∀(J:aj) (ls:dt) (pd:Option ax) (z:Int),WO H q u st g S cy m tm ls pd z L0 J->WP tab 169 ab [.code pB] ⟨tm,[.gB (b0+5)],J⟩ Q:=by
  intro J ls pd z hW;have LJ:=nf hW.wt.b0;have lX:aV J S=aa X.length:=by have:=(h.bE hW.wt.kp).lx.len;simpa[ints]using this
  apply an;apply ai;simp[U,LJ.lx,-aD,lX];refine cC X.length (λj t J=>t.g 1=vi P/\t.g 2=.c (.ptr H.length 0 0)/\t.g 5=.c (.ptr (H.length+1) 0 0)/\t.g 6=.c (.ptr (H.length+2) 0 0)/\t.g 25=.c S/\∃L,WT H q u st g S cy m L J/\J[H.length+5]?=aa (.fj ae)/\(L.length:Int)<=st+(j:Int)*K/\∀d,d∈L↔WIn q u st P (X.take j) d) (by omega) (by decide) (by decide) (by simp) (by simp)
   ⟨by simp[g1],by simp[U],by simp[g5],by simp[Z],by simp,L0,hW.wt,hW.df,by omega,λd=>by rw[i7];simp⟩ ?_ ?_
  .rintro j t J hj ⟨g1,U,g5,Z,I,L,A,M,m9,c5⟩ f8 i_ next
   have i8:=h.bE A.kp;obtain⟨xb,t3,t4,o6,l_,-⟩:=rM i8.lx hj;have k_:=hX.2.2.1 _ (aq7 hj);have f_:X.take (j+1)=X.take j++[X[j]]:=by rw[arD,aq2 hj];rfl
   obtain⟨x,hx⟩:=aQ (X[j]);rw[<-hx]at k_ l_ f_;have q_:((j+1:Nat):Int)*K<=P:=ar1 (arA (by omega) K0) m_;have r7:((j+1:Nat):Int)*K=(j:Int)*K+K:=by rw[atn,ati];omega
   have r8:0<=(j:Int)*K:=arS (by omega) K0;have LJ:=nf A.b0;obtain⟨r,HF,n7,rfl,j7,r9⟩:=afd q u st i8 g0 (by omega) (by omega) x k_.1 (by omega);have d5:∀(i:Nat) y,J[i]?=aa y->HF[i]?=aa y:=λi y hy=>by rw[j7 i (av hy)];exact hy
   have i9:WT H q u st g S cy m L HF:=by
    obtain⟨a1,a2,a3,⟨c,a4,a5,a6⟩,a7⟩:=A;exact⟨λi hi=>by rw[j7 i (by omega)];exact a1 i hi,d5 _ _ a2,d5 _ _ a3,⟨c,d5 _ _ a4,a5.bE λi y hy _=>d5 i y hy,a6⟩,by omega⟩
   have j4:=d5 _ _ M;refine az ?_;apply ai;simp[f8,I,o6,l_,-aD];apply an;apply ai;simp[U,LJ.zS,-aD,n7.eq];by_cases c_:((fq g Y (x % g)).length:Int)=u.aH / g
   .refine au (by simp[c_]) ?_;refine aS rfl (next _ _ ?_ (by simp[f8]) (by simp[i_]));refine⟨by simp[g1],by simp[U],by simp[g5],by simp[Z],by simp[I],L,i9,j4,by omega,λd=>?_⟩;rw[c5,f_];unfold WIn;rw[ard,arb];refine or_congr_right ⟨λ⟨E,O,B,v⟩=>⟨E,O,.inl B,v⟩,λ⟨E,O,B,v⟩=>⟨E,O,B.resolve_right λk5=>?_,v⟩⟩;have hy:=zu g0 i6 hY.2.1 hY.2.2.1 c_ (y:=(d-st) % u.aH) (Int.emod_nonneg _ (by omega)) (Int.emod_lt_of_pos _ (by omega)) (by rw[asc _ i6,<-k5,asc _ m8]);have:=(hY.2.2.2 d E).2 hy;rw[this]at v;exact absurd v (by decide)
   .refine ba (by simp[c_]) ?_;apply ai;simp;refine az ?_
    suffices g_:∀(F:T) (J':aj),F.g 1=vi P->F.g 2=.c (.ptr H.length 0 0)->F.g 5=.c (.ptr (H.length+1) 0 0)->F.g 6=.c (.ptr (H.length+2) 0 0)->F.g 25=.c S->F.g 27=vi j->F.g 26=t.g 26->F.g 10=vi x->WT H q u st g S cy m L J'->J'[H.length+5]?=aa (.fj ae)->WP tab 169 ab (.code tz::.inBlock 4::.inBlock 3::.code (KR 27 50)::.inLoop (pV 2 27 26 28 50 tx)::.inBlock 2::[.code tA]) ⟨F,[.gB (b0+5)],J'⟩ Q by
     exact g_ _ _ (by simp[g1]) (by simp[U]) (by simp[g5]) (by simp[Z]) (by simp[I]) (by simp[f8]) (by simp) (by simp) i9 j4
    intro F J' g1 U g5 Z I d7 d6 g10 A M;refine bT (λn s=>∃(i:Nat) (F:T) (J':aj) (L':List Int),s=⟨F,[.gB (b0+5)],J'⟩/\n=(P-(x+i*q.aH)).toNat/\x+i*q.aH<P+q.aH/\F.g 1=vi P/\F.g 2=.c (.ptr H.length 0 0)/\F.g 5=.c (.ptr (H.length+1) 0 0)/\F.g 6=.c (.ptr (H.length+2) 0 0)/\F.g 25=.c S/\F.g 27=vi j/\F.g 26=t.g 26/\F.g 10=vi (x+i*q.aH)/\WT H q u st g S cy m L' J'/\J'[H.length+5]?=aa (.fj ae)/\(L'.length:Int)<=st+(j:Int)*K+i/\∀d,d∈L'↔WIn q u st P (X.take j) d\/(st<=d/\d<st+(x+i*q.aH)/\(d-st) % q.aH=x/\bz u d=ag)) (P-x).toNat
     ⟨0,F,J',L,rfl,by simp,by simp;omega,g1,U,g5,Z,I,d7,d6,by simpa using g10,A,M,by omega,λd=>by
      rw[c5];refine⟨.inl,λh=>h.resolve_right ?_⟩;rintro⟨E,O,B,-⟩;rw[arP (by omega) (by omega)]at B;simp at O;omega⟩ ?_
    rintro n s ⟨i,F,J',L',rfl,rfl,p_,g1,U,g5,Z,I,d7,d6,g10,A,M,o8,d9⟩ ih;have i0:0<=(i:Int)*q.aH:=arS (by omega) (by omega);have iK:(i:Int)<=K:=by
     refine Decidable.byContradiction λhc=>?_;have:(K+1)*q.aH<=(i:Int)*q.aH:=arA (by omega) (by omega);rw[ati,ar6 K,<-hK]at this;omega
    have LJ:=nf A.b0;apply an;apply ai;simp[g1,g10];by_cases f9:x+i*q.aH<P
    .refine au (by simp[f9]) (aJ ?_);have p9:(i:Int)<K:=by
      refine Decidable.byContradiction λhc=>?_;have:K*q.aH<=(i:Int)*q.aH:=arA (by omega) (by omega);rw[ar6 K,<-hK]at this;omega
     obtain⟨c,c',H3,n9,c9,j9,j_,o5⟩:=A.bE hb (by omega) (st+(x+i*q.aH)) (by omega) (by unfold Day;omega);have l1:bF J' ab (.c (.ptr (H.length+1) 0 0))=aa (.c (.cl 211 [.ptr H.length 0 0])):=by simp[bF,aK,A.b1]
     have lb:=nf j_.b0;apply an;refine az ?_;refine aq (.inl rfl) ?_;simp[U,g5,Z,g10,l1,n9,LJ.jt,-aD,aM (n:=st+(x+i*q.aH)),bX,c9.eq,j9,-bC];refine ay ?_;refine aq (.inl rfl) ?_;simp[U,g10,lb.lap,-aD,aM (n:=x+i*q.aH+q.aH)];have e1:x+((i+1:Nat):Int)*q.aH=x+i*q.aH+q.aH:=by rw[atn,ati];omega
     refine ih (P-(x+i*q.aH+q.aH)).toNat _ (by omega) ⟨i+1,_,_,_,rfl,by rw[e1],by omega,by simp[g1],by simp[U],by simp[g5],by simp[Z],by simp[I],by simp[d7],by simp[d6],by rw[e1];simp,j_,o5 _ _ (by omega) (by omega) M,?_,λd=>?_⟩
     .split
      .omega
      .simp;omega
     .rw[e1];have d8:(x+i*q.aH) % q.aH=x:=by rw[Int.add_mul_emod_self_right,arP (by omega) (by omega)]
      have key:∀d,st<=d->¬ d<st+(x+i*q.aH)->d<st+(x+i*q.aH+q.aH)->(d-st) % q.aH=x->d=st+(x+i*q.aH):=λd E O B v=>by
       have e:=arn (d-st-(x+i*q.aH)) q.aH;have h1:(d-st-(x+i*q.aH)) % q.aH=0:=by rw[atG,v,d8];simp
       have h2:(d-st-(x+i*q.aH)) / q.aH=0:=Int.ediv_eq_zero_of_lt (by omega) (by omega);rw[h1,h2]at e;omega
      have n8:d∈(if bz u (st+(x+i*q.aH))then L' else L'++[st+(x+i*q.aH)])↔d∈L'\/(d=st+(x+i*q.aH)/\bz u d=ag):=by
       cases hk:bz u (st+(x+i*q.aH))with
       |true=>
        refine⟨.inl,λh=>h.resolve_right ?_⟩;rintro⟨rfl,k⟩;rw[hk]at k;exact absurd k (by decide)
       |false=>
        simp only[arq,if_false,ard,arb];refine or_congr_right ⟨λe=>⟨e,by rw[e];exact hk⟩,λe=>e.1⟩
      rw[n8,d9,or_assoc];refine or_congr_right ⟨?_,?_⟩
      .rintro(⟨E,O,B,v⟩|⟨rfl,v⟩)
       .exact⟨E,by omega,B,v⟩
       .exact⟨by omega,by omega,by rw[show st+(x+i*q.aH)-st=x+i*q.aH by omega];exact d8,v⟩
      .rintro⟨E,O,B,v⟩;by_cases k5:d<st+(x+i*q.aH)
       .exact .inl ⟨E,k5,B,v⟩
       .exact .inr ⟨key d E k5 O B,v⟩
    .refine aA (by simp[f9]) ?_;refine aS rfl ?_;refine ay (next _ _ ?_ (by simp[d7]) (by simp[d6,i_]));refine⟨by simp[g1],by simp[U],by simp[g5],by simp[Z],by simp[I],L',A,M,by omega,λd=>?_⟩;rw[d9,f_];unfold WIn;rw[ard,arb,or_assoc];refine or_congr_right ⟨?_,?_⟩
     .rintro(⟨E,O,B,v⟩|⟨E,O,B,v⟩)
      .exact⟨E,O,.inl B,v⟩
      .refine⟨E,?_,.inr B,v⟩;refine Decidable.byContradiction λhc=>?_;have d8:(x+i*q.aH) % q.aH=x:=by rw[Int.add_mul_emod_self_right,arP (by omega) (by omega)]
       have e:=arn (x+i*q.aH-(d-st)) q.aH;have h1:(x+i*q.aH-(d-st)) % q.aH=0:=by rw[atG,B,d8];simp
       have h2:(x+i*q.aH-(d-st)) / q.aH=0:=Int.ediv_eq_zero_of_lt (by omega) (by omega);rw[h1,h2]at e;omega
     .rintro⟨E,O,B|B,v⟩
      .exact .inl ⟨E,O,B,v⟩
      .exact .inr ⟨E,by omega,B,v⟩
  .rintro t J ⟨g1,U,g5,Z,I,L,A,M,m9,c5⟩ - -;obtain⟨c,h2,hL,hc⟩:=A.ls;have l2:bF J ab (.c (.ptr (H.length+2) 0 0))=aa (.c c):=by simp[bF,aK,h2]
   rw[arz]at c5;apply ai;simp[Z,l2,-aD];rw[<-W]at hc M;refine aB (hQ _ _ (.c c) ⟨[b0+5],rfl,⟨by simp,λb hb=>by rw[arb.1 hb];exact M⟩,cV (by simp),c,L,rfl,?_,λi hi=>?_,by omega,λd=>?_⟩)
   .exact hL.set (λe=>by have:=hc _ e;omega) _
   .show(J.set (b0+5) _)[i]?=_;rw[aq0 (by omega)];exact A.kp i hi
   .rw[c5];unfold WIn;simp only[aq3,asy];constructor
    .rintro(⟨E,O,B,v⟩|⟨E,O,B,v⟩)
     .exact⟨E,by omega,B,v⟩
     .exact⟨by omega,O,(hX.2.2.2 d E).2 B,v⟩
    .rintro⟨E,O,B,v⟩;by_cases k5:d<st
     .exact .inl ⟨E,k5,B,v⟩
     .exact .inr ⟨by omega,O,(hX.2.2.2 d (by omega)).1 B,v⟩
 subst W;rcases c6 with⟨z,hW⟩|⟨z,hW⟩
 .exact iL hW.lp (by decide) (ay (h_ _ _ _ z hW.Lv))
 .exact lC hW.lp (by decide) (aS rfl (h_ _ _ _ z hW.Lv))
section
variable{Nb Mb:Int}
theorem sL{b d:aE}{st P:Int}(u:1<=b.aH)(v:1<=d.aH)(q:st=max b.fr d.fr){X Y:List Int}(l:ri b st X)(m:ri d st Y){k:Int}(s:0<=k):(bz b (st+k)=ae↔k % b.aH∈X)/\(bz d (st+k)=ae↔k % d.aH∈Y):=by
 have g:=l.2.2.2 (st+k) (by omega);have j:=m.2.2.2 (st+k) (by omega);rw[show st+k-st=k by omega]at g j;exact⟨g,j⟩
theorem nY(a b:aE)(sa:iG Nb a)(sb:iG Mb b){R:Int}(R0:0<R)(R1:R ∣ 27720)(Ra:a.aH ∣ R)(Rb:b.aH ∣ R)(j:Int)(f:Bool->Bool->Bool)(hk:(j=0/\f=λx y=>x&&y)\/(j=1/\f=λx y=>x||y)\/(j=2/\f=λx y=>x&&!y)) :
  ∃q,cm q=ae/\q.fr<=max a.fr b.fr/\q.aH ∣ R/\(∀d,0<=d->bz q d=f (bz a d) (bz b d))/\bH tab 119 [.a (a.row.map .f),.a (b.row.map .f),vi j]=Eq (.t [.a (q.row.map .f),vi 0]):=by
 have va:=sk a (jg sa.ok);have d6:=sk b (jg sb.ok);rw[sa.ok]at va;rw[sb.ok]at d6;simp only[aE.row,arf,art]at va d6;have R2:R<=27720:=ar2 (by decide) R1;have t6:=sa.le;have t7:=sb.le;have v8:=sa.fr;have v9:=sb.fr;have v_:=sa.head;have w_:=sb.head;have v6:=sa.aZ;have v7:=sb.aZ;obtain⟨r,⟨q,c1,c2,c3,c4,rfl⟩,h⟩:∃r,(∃q,cm q=ae/\q.fr<=max a.fr b.fr/\q.aH ∣ R/\(∀d,0<=d->bz q d=f (bz a d) (bz b d))/\r=.t [.a (q.row.map .f),vi 0])/\bH tab 119 [.a (a.row.map .f),.a (b.row.map .f),vi j] r:=by
  refine ey rfl rfl λQ hQ=>?_;apply ai;simp[aE.row];obtain⟨HA,a_⟩:=aQ ([.box [.f (sl a.hg (ints a.head)),.f (fi a.fr),.f (fi a.aH),.f (sl a.cg (ints a.aZ))] 0,.box [.f (sl b.hg (ints b.head)),.f (fi b.fr),.f (fi b.aH),.f (sl b.cg (ints b.aZ))] 0,.box [.f .aw,.f (fi 0),.f (fi 0),.f .aw] 0]:aj);rw[<-a_];have al:HA.length=3:=by rw[a_];rfl
  have l0:bF HA (aa 4) (.c (.ptr 0 0 0))=aa (.a [.f (sl a.hg (ints a.head)),.f (fi a.fr),.f (fi a.aH),.f (sl a.cg (ints a.aZ))]):=by rw[a_];simp[bF,aK,bf]
  have l1:bF HA (aa 4) (.c (.ptr 1 0 0))=aa (.a [.f (sl b.hg (ints b.head)),.f (fi b.fr),.f (fi b.aH),.f (sl b.cg (ints b.aZ))]):=by rw[a_];simp[bF,aK,bf]
  have a2:HA[2]?=aa (.box [.f .aw,.f (fi 0),.f (fi 0),.f .aw] 0):=by rw[a_];rfl
  apply an;apply ai;simp[l0,l1,-aD,va,d6];refine ba (by simp) ?_;obtain⟨r,HN,d5,z,s,st,X,Y,cx,cy,l,m,N,sA,sB,xa,xb,ya,yb,rfl,c5,hX,hY,j4,r9⟩:=Ak a b sa.ok sb.ok (by omega) (by omega) (by omega) (by omega) (by omega) (by omega) HA;simp only[aE.row,arf,art]at d5;obtain⟨q1,q2,q3,q4,q5,q6,q7,q8,q9⟩:=aY sA.ok;obtain⟨w1,w2,w3,w4,w5,w6,w7,w8,w9⟩:=aY sB.ok;obtain⟨g,hg⟩:=aQ ((arU z.aH s.aH:Int):Int);rw[<-hg]at d5 j4;have n5:z.aH ∣ R:=ar3 sA.aH Ra;have n6:s.aH ∣ R:=ar3 sB.aH Rb;obtain⟨P,hP⟩:=aQ (z.aH / (arU z.aH s.aH:Int)*s.aH);have W:vd z.aH s.aH P:=hP▸Y3 q3 w3;have j8:P ∣ R:=W.dvd R n5 n6;have O:P<=27720:=ar1 (ar2 R0 j8) R2;have hp0:=W.pos;have u5:z.aH<=27720:=ar1 (ar2 R0 n5) R2;have u6:s.aH<=27720:=ar1 (ar2 R0 n6) R2;have u7:=sA.fr;have u9:=sB.fr;have g0:0<g:=by rw[hg];have:=asb s.aH (show z.aH≠0 by omega);omega
  have s_:∀d,0<=d->f (bz z d) (bz s d)=f (bz a d) (bz b d):=λd hd=>by rw[sA.mem d hd,sB.mem d hd]
  have d7:=BD q3 (by omega:z.aH<=1000000) w3 (by omega:s.aH<=1000000);rw[<-hP]at d7;have j9:(X.length:Int)<=z.aH:=by
   have:=dT X 0 z.aH hX.2.1 λx S=>by have:=hX.2.2.1 x S;omega
   omega
  have r7:(Y.length:Int)<=s.aH:=by
   have:=dT Y 0 s.aH hY.2.1 λx S=>by have:=hY.2.2.1 x S;omega
   omega
  have p8:g ∣ z.aH:=by rw[hg];exact asR ..
  have h_:g ∣ s.aH:=by rw[hg];exact asW ..
  obtain⟨D,hD⟩:=aQ (s.aH / g);have D0:0<=D:=by rw[hD];exact arW (by omega) (by omega)
  have D1:D<=30000:=by have:=Int.ediv_le_self g (show 0<=s.aH by omega);omega
  have i6:∀r,((fq g Y r).length:Int)<=D:=λr=>by rw[hD];exact Yu g0 h_ hY.2.1 (λy A=>hY.2.2.1 y A) (by omega)
  have eP:z.aH*D=P:=by
   rw[hD,hP,<-hg];obtain⟨u,hu⟩:=p8;obtain⟨v,hv⟩:=h_;rw[hv,hu,aso _ (by omega),aso _ (by omega),Int.mul_assoc,Int.mul_left_comm]
  have u_:(X.length:Int)*D<=P:=by rw[<-eP];exact arA j9 D0
  obtain⟨bp,e_⟩:=aQ (HN.length);obtain⟨K,a8⟩:=aQ (HN++[cH.box (bW z s st cx cy g m) 0]);have l4:K.length=bp+1:=by rw[a8];simp[e_]
  have p4:K[bp]?=aa (.box (bW z s st cx cy g m) 0):=by rw[a8,e_];simp
  have b7:PH K N X Y g l cx cy m:=j4.bE λi hi=>by rw[a8,aq1 hi]
  have z2:HN[2]?=aa (.box [.f .aw,.f (fi 0),.f (fi 0),.f .aw] 0):=by rw[r9 2 (by omega)];exact a2
  have z4:K[2]?=aa (.box [.f .aw,.f (fi 0),.f (fi 0),.f .aw] 0):=by rw[a8,aq1 (av z2)];exact z2
  have t8:2<bp:=by have:=av z2;omega
  apply ai;simp[l0,l1,-aD,d5.eq,uG];rw[<-a8,<-e_]
  suffices I:∀t:T,t.g 2=vi j->t.g 6=.c (.ptr 2 0 0)->t.g 8=.c (.ptr bp 0 0)->WP tab 119 ab [.code tu] ⟨t,[],K⟩ Q by exact I _ (by simp) (by simp) (by simp)
  clear d5 l0 l1 va d6;intro t g2 g6 B;have L4:=nf p4;apply ai;simp[B,L4.lap,L4.lbp,-aD,d7];apply an;apply ai;simp;refine ba (by simp) ?_;obtain⟨r,H5,l_,ch,e,rfl,i7,m8,m7,hl5,t_,hlh,s7⟩:=YY z s sA.ok sB.ok (by omega) (by omega) st c5 cx cy g m K;have k5:∀(i:Nat) y,K[i]?=aa y->H5[i]?=aa y:=λi y A=>by rw[m7 i (av A)];exact A
  have p5:=k5 _ _ p4;have b_:=b7.bE m7;have L5:=nf p5;obtain⟨r,H6,Z,n,rfl,n0,n1,f8,hl6⟩:=Kc z s st b_ g0 (λx S=>by have:=hX.2.2.1 x S;omega) (by omega) D0 D1 i6;have k6:∀(i:Nat) y,H5[i]?=aa y->H6[i]?=aa y:=λi y A=>by rw[f8 i (av A)];exact A
  have p6:=k6 _ _ p5;have L6:=nf p6;have t9:e.length<=200000:=by omega
  have lh:aV H5 ch=aa e.length:=by have:=i7.len;simpa[ints]using this
  apply ai;simp[B,L4.zS,-aD,l_.eq];apply ai;simp[B,lh,L5.zS,-aD,Z.eq,aM (n:=(e.length:Int)+n)];obtain⟨ka,ka0,ka1,d9⟩:=uI z sA.ok (by omega) (by omega) st (by omega) (by omega);obtain⟨kb,kb0,kb1,d_⟩:=uI s sB.ok (by omega) (by omega) st (by omega) (by omega);simp only[aE.row,arf,art]at d9 d_;have lX:aV H6 cx=aa X.length:=by have:=(b_.bE f8).lx.len;simpa[ints]using this
  have lY:aV H6 cy=aa Y.length:=by have:=(b_.bE f8).ly.len;simpa[ints]using this
  have d1:bL .quo (vi P) (vi z.aH)=aa (vi (P / z.aH)):=eB (by omega) (by omega) (by omega);have d2:bL .quo (vi P) (vi s.aH)=aa (vi (P / s.aH)):=eB (by omega) (by omega) (by omega);have m1:0<=(X.length:Int)*(P / z.aH)/\(X.length:Int)*(P / z.aH)<=27720:=⟨arS (by omega) (arW (by omega) (by omega)),ar1 (arA j9 (arW (by omega) (by omega))) (by rw[Int.mul_ediv_cancel' W.da];exact O)⟩
  have m2:0<=(Y.length:Int)*(P / s.aH)/\(Y.length:Int)*(P / s.aH)<=27720:=⟨arS (by omega) (arW (by omega) (by omega)),ar1 (arA r7 (arW (by omega) (by omega))) (by rw[Int.mul_ediv_cancel' W.db];exact O)⟩
  obtain⟨u1,f_⟩:=aQ ((X.length:Int)*(P / z.aH));obtain⟨u2,g_⟩:=aQ ((Y.length:Int)*(P / s.aH));rw[<-f_]at m1;rw[<-g_]at m2;apply ai;simp[B,L6.la,L6.jt,L6.lx,L6.lap,-aD,d9,lX,d1,<-f_,aM (n:=u1),aM (n:=ka+u1)];apply ai;simp[B,L6.lb,L6.jt,L6.ly,L6.lbp,-aD,d_,lY,d2,<-g_,aM (n:=u2),aM (n:=kb+u2)];obtain⟨U,n7⟩:=aQ ((e.length:Int)+n);obtain⟨p,n8⟩:=aQ (ka+u1);obtain⟨v2,n9⟩:=aQ (kb+u2);rw[<-n7,<-n8,<-n9];have b0:0<=U/\U<=230000:=by omega
  have b1:0<=p/\p<=400000:=by omega
  have b2:0<=v2/\v2<=400000:=by omega
  suffices I:∀t:T,t.g 2=vi j->t.g 6=.c (.ptr 2 0 0)->t.g 8=.c (.ptr bp 0 0)->t.g 9=vi P->t.g 11=.c ch->t.g 12=vi U->t.g 13=vi p->t.g 14=vi v2->WP tab 119 ab [.code tv] ⟨t,[],H6⟩ Q by exact I _ (by simp[g2]) (by simp[g6]) (by simp[B]) (by simp) (by simp) (by simp) (by simp) (by simp)
  clear d9 d_ d1 d2 m1 m2 f_ g_ n7 n8 n9 lX lY l_ Z;clear g2 g6 B t;intro t g2 g6 B g9 o6 o7 o8 o9;apply an;apply ai;simp[o7,o8,o9,aM (n:=p+v2),aM (n:=p+v2-U),aM (n:=p-U)];obtain⟨H7,c6⟩:=aQ (H6++[cH.box [.f (fi U),.f (fi (p+v2-U)),.f (fi (p-U))] 0]);obtain⟨bc,j_⟩:=aQ (H6.length);rw[<-c6,<-j_];have c7:H7[bc]?=aa (.box [.f (fi U),.f (fi (p+v2-U)),.f (fi (p-U))] 0):=by rw[c6,j_];simp
  have k7:∀(i:Nat) y,H6[i]?=aa y->H7[i]?=aa y:=λi y A=>by rw[c6,aq1 (av A)];exact A
  have c_:∀i:Nat,i<K.length->H7[i]?=K[i]?:=λi hi=>by
   have A:K[i]?=aa K[i]:=aq2 hi;rw[A];exact k7 i _ (k6 i _ (k5 i _ A))
  have l7:K.length<=H7.length:=by rw[c6,ara];omega
  have o5:∃w:Int,bg H7 1 (aa 3) (.c (.ptr bc 0 0)) (vi j)=aa (.c (.ptr bc j.toNat 0))/\bF H7 ab (.c (.ptr bc j.toNat 0))=aa (vi w)/\w<=1048576:=by
   rcases hk with⟨rfl,-⟩|⟨rfl,-⟩|⟨rfl,-⟩
   .exact⟨U,by simp[bg,c7,fE],by simp[bF,aK,c7,bf],by omega⟩
   .exact⟨p+v2-U,by simp[bg,c7,fE],by simp[bF,aK,c7,bf],by omega⟩
   .exact⟨p-U,by simp[bg,c7,fE],by simp[bF,aK,c7,bf],by omega⟩
  obtain⟨w,ci,cl,cw⟩:=o5;apply ai;simp[g2,ci,cl,-aD,show¬ 1048576<w by omega];refine ba (by simp) ?_;apply ai;simp;apply an;apply ai;simp;refine az ?_;have p7:=k7 _ _ p6;have L7:=nf p7;have rest:∀(t:T) (J:aj) (c:C) (L:List Int),t.g 6=.c (.ptr 2 0 0)->t.g 8=.c (.ptr bp 0 0)->t.g 9=vi P->t.g 16=.c c->LR J c 1 (ints L)->L.length<=1000000->(∀d,d∈L↔0<=d/\d<st+P/\f (bz z d) (bz s d)=ae)->(∀i:Nat,i<K.length->J[i]?=K[i]?)->WP tab 119 ab [.code pA] ⟨t,[],J⟩ Q:=by
   intro t J c L g6 B g9 o_ hL p9 p_ hJ;exact vL f sA.ok sB.ok c5 W (by omega) O j8 (by omega) s_ hL p9 p_ (by rw[hJ 2 (by omega)];exact z4) (by rw[hJ bp (by omega)];exact p4) (by omega) g6 B g9 o_ hQ
  rcases hk with⟨rfl,rfl⟩|⟨rfl,rfl⟩|⟨rfl,rfl⟩
  .
   obtain⟨r,H8,r_,c,M,rfl,E,-,f9,hl8,i8,i9,i_⟩:=Zh (L0:=e) (ch:=ch) (H:=H7) z s st b7 c_ l7 (i7.bE λi y A _=>k7 i y (k6 i y A)) m8 hg q3 w3 hP (by omega) (λx S=>hX.2.2.1 x S) (λy A=>hY.2.2.1 y A) (by omega) D0 D1 i6 (by omega) (by omega) (by omega) (by omega);apply ai;simp[g2];refine au (by simp) (aq (.inl rfl) ?_);simp[B,o6,L7.zS,-aD,r_.eq];refine ay (rest _ H8 c (e++M) (by simp[g6]) (by simp[B]) (by simp[g9]) (by simp) E (by rw[ara];omega) (λd=>?_) f9);rw[ard,s7];simp only[aq3];constructor
   .rintro(⟨h0,h1,o,h3⟩|h)
    .exact⟨h0,by omega,o,h3⟩
    .obtain⟨k,rfl,k0,k1,ka,kb⟩:=i9 d h;obtain⟨s1,s2⟩:=sL (P:=P) q3 w3 c5 hX hY k0;exact⟨by omega,by omega,s1.2 ka,s2.2 kb⟩
   .rintro⟨h0,h1,o,h3⟩;by_cases hd:d<st
    .exact .inl ⟨h0,hd,o,h3⟩
    .obtain⟨s1,s2⟩:=sL (P:=P) q3 w3 c5 hX hY (k:=d-st) (by omega);rw[show st+(d-st)=d by omega]at s1 s2;have:=i_ (d-st) (by omega) (by omega) (s1.1 o) (s2.1 h3);rw[show st+(d-st)=d by omega]at this;exact .inr this
  .
   obtain⟨L1,g1,n_,t3,m9⟩:=uU z sA.ok (by omega) (by omega) 0 (st+P) (by omega) (by omega) (by omega);obtain⟨L2,d8,o4,t4,m_⟩:=uU s sB.ok (by omega) (by omega) 0 (st+P) (by omega) (by omega) (by omega);simp only[aE.row,arf,art]at n_ o4;have x_:L1.length<=130000:=by
    have:=dT L1 0 (st+P) t3 λx S=>by have:=(m9 x).1 S;unfold SW at this;omega
    omega
   have y_:L2.length<=130000:=by
    have:=dT L2 0 (st+P) t4 λx S=>by have:=(m_ x).1 S;unfold SW at this;omega
    omega
   apply ai;simp[g2];refine aA (by simp) ?_;apply ai;simp;refine au (by simp) (aq (.inl rfl) ?_);obtain⟨H8,c9⟩:=aQ (H7++[cH.box [.f (sl g1 (ints L1)),.f (sl d8 (ints L2))] 0]);have c8:H8[H7.length]?=aa (.box [.f (sl g1 (ints L1)),.f (sl d8 (ints L2))] 0):=by rw[c9];simp
   have k_:(ints L1++ints L2)=ints (L1++L2):=by simp[ints]
   obtain⟨r,H9,Z,c,rfl,E,r8,-,-⟩:=pL (tab:=tab) (H:=H8) (F:=167) (G:=210) (sz:=1) (bytes:=8) (zs:=[fi 0]) aiW ai1 (by decide) rfl (b:=H7.length) [(.f (sl g1 (ints L1)),ints L1),(.f (sl d8 (ints L2)),ints L2)] c8 (by simp)
    (λx S=>by
     simp only[arM,atu,or_false]at S;rcases S with rfl|rfl
     .exact⟨Km.Ord.cr _,λH' _=>⟨by simp,jF (Km.Ord.cr _)⟩⟩
     .exact⟨Km.Ord.cr _,λH' _=>⟨by simp,jF (Km.Ord.cr _)⟩⟩)
    (by simp[ints];omega) (dW (by simp[ints];omega) (by decide))
   have E:LR H9 c 1 (ints (L1++L2)):=by
    rw[<-k_];simpa using E
   have Z:Ev tab (.fn 167) [.c (.sl H7.length 0 2 2 0 1)] H8 (.c c) H9:=Z;simp[B,g9,L7.la,L7.lb,L7.jt,-aD,aM (n:=st+P),n_,o4,<-c9,Z.eq];refine ay (rest _ H9 c (L1++L2) (by simp[g6]) (by simp[B]) (by simp[g9]) (by simp) E (by rw[ara];omega) (λd=>?_) λi hi=>?_)
   .rw[ard,m9,m_];unfold SW;simp only[Bool.or_eq_true];constructor
    .rintro(⟨h0,h1,o⟩|⟨h0,h1,o⟩)
     .exact⟨h0,h1,.inl o⟩
     .exact⟨h0,h1,.inr o⟩
    .rintro⟨h0,h1,o|o⟩
     .exact .inl ⟨h0,h1,o⟩
     .exact .inr ⟨h0,h1,o⟩
   .rw[r8 i (by rw[c9,ara];omega),c9,aq1 (by omega)];exact c_ i hi
  .
   have j7:=b7.bE c_;obtain⟨r,H8,t5,c,M,rfl,E,f9,i8,q_⟩:=AJ sA.ok sB.ok j7 c5 (by omega) hX hY hg W O;apply ai;simp[g2];refine aA (by simp) ?_;apply ai;simp;refine aA (by simp) ?_;apply ai;simp;refine au (by simp) (aq (.inl rfl) ?_);simp[B,g9,L7.zS,-aD,t5.eq];refine ay (rest _ H8 c M (by simp[g6]) (by simp[B]) (by simp[g9]) (by simp) E i8 q_ λi hi=>?_);rw[f9 i (by omega)];exact c_ i hi
 exact⟨q,c1,c2,c3,c4,h.eq⟩
theorem aiz(a b:aE)(E:iG Nb a)(F:iG Mb b){R:Int}(j:0<R)(l:R ∣ 27720)(m:a.aH ∣ R)(s:b.aH ∣ R) :
  ∃q,cm q=ae/\q.fr<=max a.fr b.fr/\q.aH ∣ R/\(∀d,0<=d->bz q d=(bz a d&&bz b d))/\bH tab 151 [.a (a.row.map .f),.a (b.row.map .f)]=Eq (.t [.a (q.row.map .f),vi 0]):=by
 obtain⟨q,u,v,z,A,g⟩:=nY a b E F j l m s 0 (λx y=>x&&y) (.inl ⟨rfl,rfl⟩);refine⟨q,u,v,z,A,bH.eq (bD rfl rfl λQ B=>?_)⟩;simp only[aE.row,arf,art]at g ⊢;apply ai;simp;apply ai;simp[g];refine aB (B _ _ ?_);simp[aE.row]
theorem anh(a b:aE)(E:iG Nb a)(F:iG Mb b){R:Int}(j:0<R)(l:R ∣ 27720)(m:a.aH ∣ R)(s:b.aH ∣ R) :
  ∃q,cm q=ae/\q.fr<=max a.fr b.fr/\q.aH ∣ R/\(∀d,0<=d->bz q d=(bz a d||bz b d))/\bH tab 107 [.a (a.row.map .f),.a (b.row.map .f)]=Eq (.t [.a (q.row.map .f),vi 0]):=by
 obtain⟨q,u,v,z,A,g⟩:=nY a b E F j l m s 1 (λx y=>x||y) (.inr (.inl ⟨rfl,rfl⟩));refine⟨q,u,v,z,A,bH.eq (bD rfl rfl λQ B=>?_)⟩;simp only[aE.row,arf,art]at g ⊢;apply ai;simp;apply ai;simp[g];refine aB (B _ _ ?_);simp[aE.row]
theorem X7(a b:aE)(E:iG Nb a)(F:iG Mb b){R:Int}(j:0<R)(l:R ∣ 27720)(m:a.aH ∣ R)(s:b.aH ∣ R) :
  ∃q,cm q=ae/\q.fr<=max a.fr b.fr/\q.aH ∣ R/\(∀d,0<=d->bz q d=(bz a d&&!bz b d))/\bH tab 74 [.a (a.row.map .f),.a (b.row.map .f)]=Eq (.t [.a (q.row.map .f),vi 0]):=by
 obtain⟨q,u,v,z,A,g⟩:=nY a b E F j l m s 2 (λx y=>x&&!y) (.inr (.inr ⟨rfl,rfl⟩));refine⟨q,u,v,z,A,bH.eq (bD rfl rfl λQ B=>?_)⟩;simp only[aE.row,arf,art]at g ⊢;apply ai;simp;apply ai;simp[g];refine aB (B _ _ ?_);simp[aE.row]
end
def cM(p:aE):List C:=[.f (sl p.hg (ints p.head)),.f (fi p.fr),.f (fi p.aH),.f (sl p.cg (ints p.aZ))]
theorem dB(p:aE):cM p=p.row.map .f:=rfl
theorem mU(n:Nat)(J:aj)(p:aE):aX (eT n J) (cM p)=aa p.row:=by rw[dB,nR]
theorem nq(n:Nat)(J:aj)(p:aE):List.foldl (λH x=>fk n x H) J (cM p)=J:=by
 rw[dB,jb];intro x b;obtain⟨y,-,rfl⟩:=arx.1 b;exact⟨y,rfl⟩
def dz(ps:List aE):List (List C):=ps.map cM
theorem eC(ps:List aE):(dz ps).length=ps.length:=by simp[dz]
theorem ew(ps:List aE):qh 4 (dz ps):=λr b=>by
 obtain⟨p,-,rfl⟩:=arx.1 b;rfl
theorem od(ps:List aE):(dz ps).flatten=(aC ps).flatten.map .f:=by
 induction ps with
 |nil=>rfl
 |cons p ps g=>
  have b:dz (p::ps)=cM p::dz ps:=rfl;have d:aC (p::ps)=p.row::aC ps:=rfl;rw[b,d,arv,arv,asI,g,dB]
theorem pW(a b:List aE):dz (a++b)=dz a++dz b:=by simp[dz]
theorem Lt(ps:List aE)(j:Nat):(dz ps).eraseIdx j=dz (ps.eraseIdx j):=by
 rw[ase,ase,pW];simp[dz,List.map_take,List.map_drop]
def zp:aE:=⟨.nil,[],0,0,.nil,[]⟩
def BX(J:aj)(b cap:Nat)(ps:List aE):Prop:=∃rest,J[b]?=aa (.box ((dz ps).flatten++rest) 0)/\((dz ps).flatten++rest).length=cap*4
section
variable{J:aj}{b cap:Nat}{ps:List aE}
theorem BX.lt(h:BX J b cap ps):b<J.length:=by obtain⟨_,h,_⟩:=h;exact av h
theorem BX.push(h:BX J b cap ps)(L:aj):BX (J++L) b cap ps:=by
 have:=h.lt;obtain⟨r,h1,h2⟩:=h;exact⟨r,by rw[aq1 this];exact h1,h2⟩
theorem BX.len(h:BX J b cap ps):aV J (.sl b 0 ps.length cap 0 4)=aa ps.length:=by
 obtain⟨r,h1,h2⟩:=h;simp[aV,h1]
theorem ali{rest:List C}{i:Nat}(hi:i<ps.length):(((dz ps).flatten++rest).drop (i*4)).take 4=cM ps[i]:=by
 have b:=dm (ew ps);rw[eC]at b;rw[asj (by omega),lz i (ew ps)];have e:(dz ps).drop i=cM ps[i] ::(dz ps).drop (i+1):=by
  rw[arp (by rw[eC];exact hi)];simp[dz]
 rw[e,arv,arZ,arO (by simp[cM])];exact arw (by simp[cM])
theorem BX.at(h:BX J b cap ps){i:Nat}(hi:i<ps.length):bg J 4 ab (.c (.sl b 0 ps.length cap 0 4)) (vi i)=aa (.c (.ptr b (i*4) 0))/\bF J (aa 4) (.c (.ptr b (i*4) 0))=aa (.a (cM ps[i])):=by
 obtain⟨r,h1,h2⟩:=h;refine⟨?_,?_⟩
 .simp[bg,show fE (vi i)=aa (i:Int) from rfl,h1,hi]
 .have hl:=dm (ew ps);rw[eC]at hl;have:=ali (rest:=r) hi;simp only[bF,aK,h1,arG,bf];rw[bw (by rw[aru,ara];omega),this]
theorem BX.st(h:BX J b cap ps){i:Nat}(hi:i<ps.length)(q:aE):∃J',dC J (.ptr b (i*4) 0) (cM q)=aa J'/\BX J' b cap (ps.set i q)/\J'.length=J.length/\∀k:Nat,k≠b->J'[k]?=J[k]?:=by
 obtain⟨r,h1,h2⟩:=h;have hl:=dm (ew ps);rw[eC]at hl;have ho:bR ((dz ps).flatten++r) (i*4) (cM q)=(dz (ps.set i q)).flatten++r:=by
  have d:(dz ps).flatten=(dz (ps.take i)).flatten++cM ps[i]++(dz (ps.drop (i+1))).flatten:=by
   have:ps=ps.take i++ps[i]::ps.drop (i+1):=by rw[<-arp hi,ar8]
   conv=>lhs;rw[this]
   rw[pW,asx,arZ];rfl
  have g:(dz (ps.set i q)).flatten=(dz (ps.take i)).flatten++cM q++(dz (ps.drop (i+1))).flatten:=by
   rw[atd,bw hi,pW,asx,arZ];rfl
  have j:((dz (ps.take i)).flatten).length=i*4:=by rw[dm (ew _),eC,arT];omega
  rw[d,g,<-j,arZ,arZ,yu];rw[asj (by simp[cM])];have:(cM ps[i]).drop (cM q).length=[]:=by simp[cM]
  rw[this,asu];simp only[arZ]
 refine⟨_,?_,⟨r,aq6 (av h1),?_⟩,by simp,λk l=>aq0 (Ne.symm l)⟩
 .simp only[dC,h1];rw[bw ⟨ast _,by rw[ara,hl];simp[cM];omega⟩,ho]
 .rw[ara,dm (ew _),eC,arQ];rw[ara,hl]at h2;exact h2
theorem BX.del(h:BX J b cap ps){j:Nat}(s:j<ps.length)(l:cap<=1000000) :
  ∃r g,Ev tab (.fn 152) [.c (.sl b 0 ps.length cap 0 4),vi j,vi (j+1:Nat)] J r g/\(r=.c (.sl b 0 (ps.eraseIdx j).length cap 0 4)/\BX g b cap (ps.eraseIdx j)/\g.length=J.length/\∀k:Nat,k≠b->g[k]?=J[k]?):=by
 obtain⟨rest,h1,h2⟩:=h;obtain⟨r,g,q,u,d,rfl,hl⟩:=ae3 (tab:=tab) (F:=152) (sz:=4) (bytes:=64) (zs:=[.aw,fi 0,fi 0,.aw]) aiY (by decide) rfl (ew ps) h1 h2 (j:=j) (by rw[eC];exact s) l;rw[eC]at q u;have e:(dz ps).eraseIdx j=dz (ps.eraseIdx j):=Lt ps j;rw[e]at hl;rw[e]at q;have m:(ps.eraseIdx j).length=ps.length-1:=by rw[ate,bw s]
 exact⟨r,_,q,by rw[u,m],⟨d,aq6 (av h1),hl⟩,by simp,λk v=>aq0 (Ne.symm v)⟩
theorem BX.ex(h:BX J b cap ps)(h0:ps≠[])(n:Nat):eT (n+1) J (.sl b 0 ps.length cap 0 4)=aa (sl .fs (aC ps)):=by
 obtain⟨r,h1,h2⟩:=h;have hl:=dm (ew ps);rw[eC]at hl;simp only[kg,h1];rw[bw (by rw[ara];omega),asp,arO (by omega),arw (by omega),od,nR];cases ps with
 |nil=>exact absurd rfl h0| cons p ps=>simp[sl,aC]
end
theorem rB(p q:aE)(j:1<=p.aH)(l:p.aH<=1000000)(m:1<=q.aH)(s:q.aH<=1000000):bH tab 106 [.a (cM p),.a (cM q)]=Eq (vb (decide (p.aH % q.aH=0)||decide (q.aH % p.aH=0))):=by
 have d:bL .rem (vi p.aH) (vi q.aH)=aa (vi (p.aH % q.aH)):=dY (by omega) (by omega);have g:bL .rem (vi q.aH) (vi p.aH)=aa (vi (q.aH % p.aH)):=dY (by omega) (by omega);refine bH.eq (bD rfl rfl λQ b=>?_);apply ai;simp[cM];apply ai;by_cases h:p.aH % q.aH=0
 .simp[d,h];refine aB (b _ _ ?_);simp[h]
 .simp[d,g,h];refine aB (b _ _ ?_);simp[h]
section
variable{Nb:Int}
def eQ(ps:List aE)(d:Int):Prop:=∀p∈ps,bz p d=ae
theorem gQ(a b:List aE)(d:Int):eQ (a++b) d↔eQ a d/\eQ b d:=by
 unfold eQ;constructor
 .intro h;exact⟨λp g=>h p (ar4 _ g),λp g=>h p (asA _ g)⟩
 .rintro⟨j,l⟩ p g;rcases ard.1 g with h|h
  .exact j p h
  .exact l p h
theorem iG.can{p q:aE}(h:iG Nb p)(b:lP p q):iG Nb q:=⟨b.ok,by have:=b.fr;have:=h.fr;omega,ar3 b.aH h.aH,ar1 (ar2 (by have:=(aY h.ok).2.2.1;omega) b.aH) h.bd⟩
theorem K'{ps:List aE}{i j:Nat}(y:i<j)(z:j<ps.length){q:aE}(E:∀d,0<=d->bz q d=(bz (ps[i]'(by omega)) d&&bz ps[j] d))(d:Int)(v:0<=d):eQ ((ps.set i q).eraseIdx j) d↔eQ ps d:=by
 have hi:i<ps.length:=by omega
 have m:ps=ps.take i++ps[i] ::((ps.drop (i+1)).take (j-(i+1))++ps[j]::ps.drop (j+1)):=by
  conv=>lhs;rw[<-ar8 i ps,arp hi]
  congr 2
  conv=>lhs;rw[<-ar8 (j-(i+1)) (ps.drop (i+1)),asB]
  rw[show i+1+(j-(i+1))=j by omega,arp z]
 have s:(ps.set i q).eraseIdx j=ps.take i++q ::((ps.drop (i+1)).take (j-(i+1))++ps.drop (j+1)):=by
  have u:ps.set i q=ps.take i++q::ps.drop (i+1):=by rw[atd,bw hi]
  have B:(ps.take i).length=i:=by rw[arT];omega
  rw[u,atJ (by omega),B]
  congr 1
  obtain⟨k,A⟩:∃k,j-i=k+1:=⟨j-i-1,by omega⟩
  rw[A,List.eraseIdx_cons_succ,ase,asB];rw[show j-(i+1)=k by omega,show i+1+(k+1)=j+1 by omega]
 have F:=E d v;rw[s]
 conv=>rhs;rw[m]
 rw[gQ,gQ];have c:∀(x:aE) l,eQ (x::l) d↔bz x d=ae/\eQ l d:=λx l=>by simp[eQ]
 rw[c,c,gQ,gQ,c,F,aq3];constructor
 .rintro⟨a,⟨b,e⟩,f,g⟩;exact⟨a,b,f,e,g⟩
 .rintro⟨a,b,f,e,g⟩;exact⟨a,⟨b,e⟩,f,g⟩
theorem K_{ps:List aE}{i j:Nat}{q:aE}(g:∀p∈ps,iG Nb p)(d:iG Nb q):∀p∈(ps.set i q).eraseIdx j,iG Nb p:=λp b=>by
 have:=List.mem_of_mem_eraseIdx b;rcases ata this with h|rfl
 .exact g p h
 .exact d
structure MG(Nb:Int)(us ps:List aE):Prop where
 ne:ps≠[]
 le:ps.length<=us.length
 sm:∀p∈ps,iG Nb p
 mem:∀d,0<=d->(eQ ps d↔eQ us d)
theorem La(g:Tg)(us:List aE)(i9:∀u∈us,iG Nb u)(h0:us≠[])(hl:us.length<=64):∃ps,MG Nb us ps/\bH tab 105 [.c (.f (sl g (aC us)))]=Eq (.c (.f (sl .fs (aC ps)))):=by
 obtain⟨r,⟨ps,f8,rfl⟩,h⟩:∃r,(∃ps,MG Nb us ps/\r=.c (.f (sl .fs (aC ps))))/\bH tab 105 [.c (.f (sl g (aC us)))] r:=by
  refine ey rfl rfl λQ hQ=>?_;have j9:=arY.2 h0;obtain⟨n,hn⟩:=aQ (us.length);have Y:∀H:aj,aV H (.f (sl g (aC us)))=aa n:=λH=>by rw[hn];simp
  apply ai;simp;refine iM (ai ?_);have i8:∀(t:T) (H:aj),t.g 11=vi n->bG t H (.eh 4 64 [.aw,fi 0,fi 0,.aw] (R 11) (R 11))=aa (.c (.sl H.length 0 n n 0 4),H++[.box ((cQ n [FC.aw,fi 0,fi 0,.aw]).map .f) 0]):=by
   intro t H ht;simp only[bG,wX,ht];have hi:fE (vi n)=aa (n:Int):=rfl;simp only[hi];rw[bw ⟨by omega,ar9 _,dW (by simp;omega) (by decide),rfl⟩,aR (by omega)];simp
  simp[Y,i8];obtain⟨HA,d5⟩:=aQ ([cH.box (List.replicate n [C.f FC.aw,C.f (fi 0),C.f (fi 0),C.f FC.aw]).flatten 0]);have g_:BX HA 0 n ([]++List.replicate n zp):=by
   refine⟨[],?_,?_⟩
   .rw[d5,asu,asq];have:dz (List.replicate n zp)=List.replicate n [C.f FC.aw,C.f (fi 0),C.f (fi 0),C.f FC.aw]:=by
     rw[dz,List.map_replicate];rfl
    rw[this];rfl
   .rw[asu,asq,dm (ew _),eC,List.length_replicate]
  rw[<-d5];apply an;apply ai;simp[Y];refine cC n (λj t J=>t.g 3=.c (.sl 0 0 n n 0 4)/\t.g 13=.c (.f (sl g (aC us)))/\∃qs,qs.length=j/\BX J 0 n (qs++List.replicate (n-j) zp)/\(∀q∈qs,iG Nb q)/\∀d,0<=d->(eQ qs d↔eQ (us.take j) d)) (by omega) (by decide) (by decide) (by simp) (by simp)
   ⟨by simp,by simp,[],rfl,by simpa using g_,by simp,λd _=>by simp⟩ ?_ ?_
  .rintro j t J hj ⟨y,a_,qs,v,K,c5,O⟩ ha hb next
   have b_:j<us.length:=by omega
   have F:=λH:aj=>bO (H:=H) (g:=g) (rows:=aC us) (sz:=4) (k:=.i64) (i:=(j:Int)) (by omega) (by simp;omega);have c6:=λH:aj=>dU (H:=H) (bh us) (cG b_);simp only[ar7]at F;have E:=i9 _ (aq7 b_);have f9:us.take (j+1)=us.take j++[us[j]]:=by rw[arD,aq2 b_];rfl
   obtain⟨u,hu⟩:=aQ (us[j]);rw[<-hu]at c6 E f9;obtain⟨q,hq,-,-,U⟩:=XX u E.ok (by have:=E.aZ;omega) (by have:=E.head;omega);simp only[aE.row,arf,art]at c6 U;obtain⟨Z,l⟩:=aQ (J++[cH.box [C.f (sl u.hg (ints u.head)),C.f (fi u.fr),C.f (fi u.aH),C.f (sl u.cg (ints u.aZ))] 0]);have A:BX Z 0 n (qs++List.replicate (n-j) zp):=by rw[l];exact K.push _
   have i7:(qs++List.replicate (n-j) zp).length=n:=by rw[ara,List.length_replicate];omega
   have b1:Z[J.length]?=aa (.box [C.f (sl u.hg (ints u.head)),C.f (fi u.fr),C.f (fi u.aH),C.f (sl u.cg (ints u.aZ))] 0):=by rw[l];simp
   have l1:bF Z (aa 4) (.c (.ptr J.length 0 0))=aa (.a [C.f (sl u.hg (ints u.head)),C.f (fi u.fr),C.f (fi u.aH),C.f (sl u.cg (ints u.aZ))]):=by simp[bF,aK,b1,bf]
   obtain⟨f_,-⟩:=A.at (i:=j) (by omega);obtain⟨J2,s2,b7,-,-⟩:=A.st (i:=j) (by omega) q;rw[i7]at f_;simp only[cM]at s2;refine az ?_;apply ai;simp[ha,a_,F,c6,-aD];rw[<-l];refine aq (.inl rfl) ?_;simp[y,l1,-aD,U,f_,s2,-bC];refine ay (next _ _ ?_ (by simp[ha]) (by simp[hb]));refine⟨by simp[y],by simp[a_],qs++[q],by simp[v],?_,λx hx=>?_,λd hd=>?_⟩
   .have e:(qs++List.replicate (n-j) zp).set j q=qs++[q]++List.replicate (n-(j+1)) zp:=by
     obtain⟨k,hk⟩:∃k,n-j=k+1:=⟨n-j-1,by omega⟩
     rw[List.set_append_right _ _ (by omega),v,Nat.sub_self,hk,List.replicate_succ,List.set_cons_zero,show n-(j+1)=k by omega,arZ];rfl
    rw[<-e];exact b7
   .rcases ard.1 hx with h|h
    .exact c5 x h
    .rw[arb]at h;rw[h];exact E.can hq
   .rw[f9,gQ,gQ,O d hd];simp only[eQ,arb,forall_eq];rw[hq.mem d hd]
  .rintro t J ⟨y,a_,qs,v,K,c5,O⟩ - -;rw[Nat.sub_self,List.replicate_zero,asq]at K;rw[hn,arz]at O;have a8:∀(N:Nat) (ps:List aE) (t:T) (J:aj),ps.length=N->t.g 3=.c (.sl 0 0 ps.length n 0 4)->BX J 0 n ps->MG Nb us ps->WP tab 105 ab [.code wM,.inScope AQ] ⟨t,[],J⟩ Q:=by
    intro N;induction N using Nat.strongRecOn with
    |ind N ih=>
    intro ps t J hN y K hG;have f8:=hG.le;obtain⟨M,hM⟩:=aQ (ps.length);rw[<-hM]at y;have I:=K.len;rw[<-hM]at I;apply an;apply ai;simp[y,I];refine cC M (λi t J'=>J'=J/\t.g 3=.c (.sl 0 0 M n 0 4)) (by omega) (by decide) (by decide) (by simp) (by simp) ⟨rfl,by simp[y]⟩ ?_ ?_
    .rintro i t J' hi ⟨rfl,y⟩ ha hb next
     refine az ?_;apply ai;simp[ha];apply ai;simp[aM (n:=(i:Int)+1)];refine az ?_;refine bT (λm s=>∃(j:Nat) (t':T),s=⟨t',[],J'⟩/\m=M-j/\i<j/\j<=M/\t'.g 3=.c (.sl 0 0 M n 0 4)/\t'.g 6=vi i/\t'.g 7=vi j/\t'.g 30=t.g 30/\t'.g 31=t.g 31) (M-(i+1))
      ⟨i+1,_,rfl,rfl,by omega,by omega,by simp[y],by simp,by simp,by simp,by simp⟩ ?_
     rintro m s ⟨j,t',rfl,rfl,i6,j8,b,L,z,c9,c_⟩ i_;apply an;apply ai;simp[b,z,I];by_cases hj:j<M
     .refine au (by simp[hj]) (aJ ?_);obtain⟨xi,li⟩:=K.at (i:=i) (by omega);obtain⟨xj,lj⟩:=K.at (i:=j) (by omega);rw[<-hM]at xi xj;have d_:i<ps.length:=by omega
      have e_:j<ps.length:=by omega
      have si:=hG.sm _ (aq7 d_);have sj:=hG.sm _ (aq7 e_);have j4:=(aY si.ok).2.2.1;have j7:=(aY sj.ok).2.2.1;have j_:=si.le;have k_:=sj.le;have W:=rB ps[i] ps[j] j4 (by omega) j7 (by omega);obtain⟨dv,d7⟩:=aQ ((decide (ps[i].aH % ps[j].aH=0)||decide (ps[j].aH % ps[i].aH=0)):Bool);rw[<-d7]at W;apply an;refine az ?_;apply an;apply ai;simp[b,L,z,xi,xj,li,lj,-aD,mU,nq,<-dB,W];cases dv with
      |true=>
       have hd:ps[i].aH % ps[j].aH=0\/ps[j].aH % ps[i].aH=0:=by simpa using d7.symm
       have hR:∃R:Int,0<R/\R ∣ 27720/\R<=Nb/\ps[i].aH ∣ R/\ps[j].aH ∣ R:=by
        rcases hd with h|h
        .exact⟨ps[i].aH,by omega,si.aH,si.bd,asw _,asr h⟩
        .exact⟨ps[j].aH,by omega,sj.aH,sj.bd,asr h,asw _⟩
       obtain⟨R,R0,R1,R2,Ra,Rb⟩:=hR;obtain⟨q,c1,c2,c3,c4,S⟩:=aiz ps[i] ps[j] si sj R0 R1 Ra Rb;have sq:iG Nb q:=⟨c1,by have:=si.fr;have:=sj.fr;omega,ar3 c3 R1,ar1 (ar2 R0 c3) R2⟩
       simp only[<-dB]at S;obtain⟨Z,l⟩:=aQ (J'++[cH.box (cM q) 0]);have A:BX Z 0 n ps:=by rw[l];exact K.push _
       have b1:Z[J'.length]?=aa (.box (cM q) 0):=by rw[l];simp
       have l1:bF Z (aa 4) (.c (.ptr J'.length 0 0))=aa (.a (cM q)):=by simp[bF,aK,b1,bf,cM]
       obtain⟨F,-⟩:=A.at (i:=i) (by omega);rw[<-hM]at F;obtain⟨J2,s2,b7,-,-⟩:=A.st d_ q;obtain⟨r,J3,B,rfl,h_,-,-⟩:=b7.del (j:=j) (by rw[arQ];omega) (by omega);rw[arQ,<-hM]at B;have d9:(cM q).length=4:=rfl;refine ba (by simp) ?_;apply ai;simp[b,L,z,xi,xj,li,lj,-aD,mU,nq,<-dB,S,d9];rw[<-l];apply ai;simp;refine au (by simp) ?_;apply ai;simp[b,L,l1,F,s2,d9,-aD,-bC];apply ai;have ej:((j+1:Nat):Int)=(j:Int)+1:=by omega
       rw[ej]at B;simp[b,z,aM (n:=(j:Int)+1),B.eq];refine afD rfl (an (aJ ?_));have X:((ps.set i q).eraseIdx j).length=ps.length-1:=by rw[ate,bw (by rw[arQ];omega),arQ]
       refine ih _ (by omega) ((ps.set i q).eraseIdx j) _ J3 rfl ?_ h_ ⟨λe=>by rw[e]at X;simp at X;omega,by omega,K_ hG.sm sq,λd d6=>by rw[K' i6 e_ c4 d d6];exact hG.mem d d6⟩;simp
      |false=>
       refine au (by simp) ?_;refine aS rfl ?_;refine aq (.inl rfl) ?_;simp[z,aM (n:=(j:Int)+1)];exact i_ (M-(j+1)) _ (by omega) ⟨j+1,_,rfl,rfl,by omega,by omega,by simp[b],by simp[L],by simp,by simp[c9],by simp[c_]⟩
     .refine aA (by simp[hj]) ?_;refine aS rfl ?_;refine ay (next _ _ ⟨rfl,by simp[b]⟩ (by simp[c_,ha]) (by simp[c9,hb]))
    .rintro t J' ⟨rfl,y⟩ - -;have d8:=K.ex hG.ne 63;rw[<-hM]at d8;apply ai;simp[y];refine aB (hQ _ _ _ ⟨ps,hG,rfl⟩ ⟨rfl,.c (.sl 0 0 M n 0 4),cV (by simp),?_⟩);simp[jy,deep,d8]
   refine an (mo ?_);exact a8 _ qs _ J rfl (by simp[y,v]) K ⟨by intro e;rw[e]at v;simp at v;omega,by omega,c5,O⟩
 exact⟨ps,f8,h.eq⟩
end
theorem oD(g g':Tg)(a b:List Int)(N:a.length<=1000000):bH tab 153 [.c (.f (sl g (ints a))),.c (.f (sl g' (ints b)))]=Eq (vb (decide (a=b))):=by
 have d:∀(H:aj) (g:Tg) (l:List Int),aV H (.f (sl g (ints l)))=aa l.length:=λH g l=>by simp[ints]
 refine bH.eq (bD rfl rfl λQ z=>?_);apply ai;simp;apply an;apply ai;simp[d];by_cases B:a.length=b.length
 .refine ba (by simp[B]) ?_;apply an;apply ai;simp[d];refine cC a.length (λj t J=>t.g 0=.c (.f (sl g (ints a)))/\t.g 1=.c (.f (sl g' (ints b)))/\∀(k:Nat) (h:k<j) (y:k<a.length),a[k]=b[k]'(by omega)) (by omega) (by decide) (by decide) (by simp) (by simp)
   ⟨by simp,by simp,λk h=>by omega⟩ ?_ ?_
  .rintro j t J M ⟨v,x,m⟩ K L next
   have A:j<b.length:=by omega
   have q:=λH:aj=>bO (H:=H) (g:=g) (rows:=ints a) (sz:=1) (k:=.i64) (i:=(j:Int)) (by omega) (by simp[ints];omega);have E:=λH:aj=>dJ (H:=H) M;have s:=λH:aj=>bO (H:=H) (g:=g') (rows:=ints b) (sz:=1) (k:=.i64) (i:=(j:Int)) (by omega) (by simp[ints];omega);have F:=λH:aj=>dJ (H:=H) A;simp at q s;refine az ?_;apply ai;simp[K];apply an;refine aq (.inl rfl) ?_;simp[v,x,q,s,E,F];by_cases u:a[j]=b[j]
   .refine ba (by simp[u]) ?_;refine ay (next _ _ ⟨by simp[v],by simp[x],λk h y=>?_⟩ (by simp[K]) (by simp[L]));by_cases e:k=j
    .subst e;exact u
    .exact m k (by omega) y
   .refine au (by simp[u]) ?_;apply ai;simp;refine aB (z _ _ ?_);have:¬ a=b:=by intro e;subst e;exact u rfl
    simp[this]
  .rintro t J ⟨v,x,m⟩ - -;have:a=b:=List.ext_getElem B λk I y=>m k I I;apply ai;simp;refine aB (z _ _ ?_);simp[this]
 .refine au (by simp;omega) ?_;apply ai;simp;refine aB (z _ _ ?_);have:¬ a=b:=λe=>B (by rw[e]);simp[this]
def qn(p q:aE):Bool:=decide (p.fr=q.fr/\p.aH=q.aH/\p.head=q.head/\p.aZ=q.aZ)
theorem YQ(p q:aE)(y:p.head.length<=1000000)(z:p.aZ.length<=1000000):Kf tab 111 [.a (cM p),.a (cM q)] (vb (qn p q)):=by
 have s:=λg g'=>oD g g' p.head q.head y;have v:=λg g'=>oD g g' p.aZ q.aZ z;refine dL rfl rfl λH Q j=>?_;apply ai;simp[cM];apply ai;obtain⟨u,m⟩:=aQ (decide (p.head=q.head));obtain⟨x,l⟩:=aQ (decide (p.aZ=q.aZ));rw[<-m]at s;rw[<-l]at v;have A:qn p q=(decide (p.fr=q.fr)&&(decide (p.aH=q.aH)&&(u&&x))):=by
  rw[m,l];simp[qn]
 rw[A]at j;by_cases b:p.fr=q.fr
 .by_cases d:p.aH=q.aH
  .cases u with
   |true=>
    simp[b,d,s,v];refine aB (j _ _ ?_);simp[b,d]
   |false=>
    simp[b,d,s];refine aB (j _ _ ?_);simp[b,d]
  .simp[b,d];refine aB (j _ _ ?_);simp[b,d]
 .simp[b];refine aB (j _ _ ?_);simp[b]
theorem KG{p q:aE}(h:qn p q=ae)(d:Int):bz p d=bz q d:=by
 obtain⟨b,g,j,l⟩:=of_decide_eq_true h;unfold bz;rw[b,g,j,l]
def fX:List aE->List aE->Bool
 |[],[]=>ae| p::s,q::t=>qn p q&&fX s t| _,_=>ag
theorem rF:∀{s t:List aE},fX s t=ae->∀d,eQ s d↔eQ t d
 |[],[],_,d=>Iff.rfl
 |p::s,q::t,h,d=>by
  simp only[fX,aq3]at h;have b:=rF h.2 d;have c:∀(x:aE) l,eQ (x::l) d↔bz x d=ae/\eQ l d:=λx l=>by simp[eQ]
  rw[c,c,b,KG h.1]
theorem lf:∀(s t:List aE),fX s t=ae↔∃h:s.length=t.length,∀(k:Nat) (b:k<s.length),qn s[k] (t[k]'(by omega))=ae
 |[],[]=>⟨λ_=>⟨rfl,λk b=>by simp at b⟩,λ_=>rfl⟩
 |[],q::t=>⟨λh=>(by cases h),λ⟨h,_⟩=>(by simp at h)⟩
 |p::s,[]=>⟨λh=>(by cases h),λ⟨h,_⟩=>(by simp at h)⟩
 |p::s,q::t=>by
  simp only[fX,aq3,lf s t];constructor
  .rintro⟨g,d,j⟩;refine⟨by simp[d],λk b=>?_⟩;cases k with
   |zero=>exact g| succ k=>exact j k (by simpa using b)
  .rintro⟨g,d⟩;exact⟨d 0 (by simp),by simpa using g,λk b=>d (k+1) (by simpa using b)⟩
theorem KH(g g':Tg)(s t:List aE)(hs:s.length<=1000000)(U:∀p∈s,p.head.length<=1000000/\p.aZ.length<=1000000):bH tab 110 [.c (.f (sl g (aC s))),.c (.f (sl g' (aC t))),.c (.f (.fn 111 []))]=Eq (vb (fX s t)):=by
 have d:∀(H:aj) (g:Tg) (l:List aE),aV H (.f (sl g (aC l)))=aa l.length:=λH g l=>by simp
 refine bH.eq (bD rfl rfl λQ L=>?_);apply ai;simp;apply an;apply ai;simp[d];by_cases S:s.length=t.length
 .refine ba (by simp[S]) ?_;apply an;apply ai;simp[d];refine cC s.length (λj x J=>x.g 1=.c (.f (sl g' (aC t)))/\x.g 2=.c (.f (.fn 111 []))/\x.g 15=.c (.f (sl g (aC s)))/\∀(k:Nat) (h:k<j) (F:k<s.length),qn s[k] (t[k]'(by omega))=ae) (by omega) (by decide) (by decide) (by simp) (by simp)
   ⟨by simp,by simp,by simp,λk h=>by omega⟩ ?_ ?_
  .rintro j x J N ⟨I,K,m,u⟩ W hb next
   have O:j<t.length:=by omega
   have z:=λH:aj=>bO (H:=H) (g:=g) (rows:=aC s) (sz:=4) (k:=.i64) (i:=(j:Int)) (by omega) (by simp;omega);have B:=λH:aj=>dU (H:=H) (bh s) (cG N);have A:=λH:aj=>bO (H:=H) (g:=g') (rows:=aC t) (sz:=4) (k:=.i64) (i:=(j:Int)) (by omega) (by simp;omega);have E:=λH:aj=>dU (H:=H) (bh t) (cG O);simp only[ar7]at z A;simp only[<-dB]at B E;have Y:=U _ (aq7 N);have v:=YQ s[j] t[j] Y.1 Y.2;have b:∀p,(cM p).length=4:=λ_=>rfl;have Z:∀p,List.take 4 (cM p)=cM p:=λ_=>rfl;refine az ?_;apply ai;simp[W,m,z,B,-aD,b];apply ai;simp[I,A,E,-aD,b];obtain⟨y,q⟩:=aQ (J++[cH.box (cM s[j]) 0,cH.box (cM t[j]) 0]);have b8:y[J.length]?=aa (.box (cM s[j]) 0):=by rw[q];simp
   have b9:y[J.length+1]?=aa (.box (cM t[j]) 0):=by rw[q,arc (by omega)];simp
   have l8:bF y (aa 4) (.c (.ptr J.length 0 0))=aa (.a (cM s[j])):=by simp[bF,aK,b8,bf,b,Z]
   have l9:bF y (aa 4) (.c (.ptr (J.length+1) 0 0))=aa (.a (cM t[j])):=by simp[bF,aK,b9,bf,b,Z]
   rw[<-q];obtain⟨JK,v⟩:=v y;apply ai;simp[K,l8,l9,-aD,v.eq];cases M:qn s[j] t[j]with
   |true=>
    refine ba (by simp) ?_;refine ay (next _ _ ⟨by simp[I],by simp[K],by simp[m],λk h F=>?_⟩ (by simp[W]) (by simp[hb]));by_cases e:k=j
    .subst e;exact M
    .exact u k (by omega) F
   |false=>
    refine au (by simp) ?_;apply ai;simp;refine aB (L _ _ ?_);have:fX s t=ag:=by
     cases h:fX s t with
     |false=>rfl
     |true=>
      obtain⟨_,F⟩:=(lf s t).1 h;rw[F j N]at M;cases M
    simp[this]
  .rintro x J ⟨I,K,m,u⟩ - -;apply ai;simp;refine aB (L _ _ ?_);have:fX s t=ae:=(lf s t).2 ⟨S,λk X=>u k X X⟩;simp[this]
 .refine au (by simp;omega) ?_;apply ai;simp;refine aB (L _ _ ?_);have:fX s t=ag:=by
   cases h:fX s t with
   |false=>rfl| true=>exact absurd ((lf s t).1 h).1 S
  simp[this]
section
variable{Nb:Int}
theorem ajY(s t:List aE)(j:s.length<=1000000)(b:∀p∈s,p.head.length<=1000000/\p.aZ.length<=1000000)(g g':Tg):Kf tab 109 [.c (.f (sl g (aC s))),.c (.f (.fp [sl g' (aC t)] 0))] (vb (fX s t)):=by
 have h:=KH g g' s t j b;refine dL rfl rfl λH Q d=>?_;apply ai;simp;apply ai;simp[Bl,h];refine aB (d _ _ ?_);simp
theorem YG(g g':Tg)(l:List (List aE))(u:l.length<=1000000)(b:∀s∈l,s.length<=1000000/\∀p∈s,p.head.length<=1000000/\p.aZ.length<=1000000)(t:List aE) :
  bH tab 31 [.c (.f (sl g (l.map λs=>[sl .fs (aC s)]))),.c (.f (.fn 109 [.fp [sl g' (aC t)] 0]))]=Eq (vb (l.any λs=>fX s t)):=
 (gd ve (iE vf l (λs=>[sl .fs (aC s)]) (λs=>.c (.f (sl .fs (aC s)))) (λs=>fX s t) g 109 [.fp [sl g' (aC t)] 0] (by omega)
  (λj q H=>by
   have m:cd 1 (l.map λs=>[sl .fs (aC s)]):=cd.map λ_=>rfl;have:=fF (H:=H) m (j:=j) (row:=[sl .fs (aC l[j])]) (by simp[q]) rfl;simpa using this)
  (λs d=>ajY s t (b s d).1 (b s d).2 .fs g'))).eq
theorem tP(g:Tg)(ps:List aE)(q:∀p∈ps,Mod p)(m:1<=ps.length)(u:ps.length<=64):∃b,(b=ae↔(∀d,¬ ic ps 0 ps d)/\¬ kJ [] ps)/\bH tab 33 [.c (.f (sl g (aC ps)))]=Eq (vb b):=by
 obtain⟨e,f,j,z⟩:=xD g ps (λp A=>(q p A).ok) u 0;obtain⟨b,y,B⟩:=uO g ps q m u;refine⟨!f&&!b,?_,bH.eq (bD rfl rfl λQ s=>?_)⟩
 .rw[<-y];rcases j with⟨l,-,x⟩|⟨l,v,-⟩
  .subst l;simp[x]
  .subst l;simp only[Bool.not_true,Bool.false_and,arq,false_iff];rintro⟨h,-⟩;exact h _ v
 .apply ai;simp;apply ai;simp[z];apply ai;cases f
  .simp[B];refine aB (s _ _ ?_);simp
  .simp;refine aB (s _ _ ?_);simp
theorem iG.mod{p:aE}(h:iG Nb p):Mod p:=⟨h.ok,by have:=h.le;omega⟩
theorem rq{ps:List aE}(s:∀p∈ps,iG Nb p)(u:∀d,¬ ic ps 0 ps d)(v:¬ kJ [] ps)(d:Int)(j:0<=d):¬ eQ ps d:=by
 intro b;have m:td ps d=ae:=(lA j).2 b;by_cases x:cR ps<=d
 .refine v (vT (d:=d) ps [] (by simp) λp g=>?_);exact(mB (s p g).mod (by
   have:∀l:List aE,p∈l->p.fr<=cR l:=by
    intro l;induction l with
    |nil=>intro h;cases h
    |cons a l y=>
     intro h;simp only[cR];rcases arM.1 h with rfl|h
     .omega
     .have:=y h;omega
   have:=this ps g;omega)).1 (b p g)
 .obtain⟨p,g,q⟩:=qc (l:=ps) j (by omega);refine u d ⟨j,m,p,g,?_⟩;exact(head_mem (s p g).ok d).2 ⟨j,q,b p g⟩
end
def B4(J J':aj):Prop:=∀(i:Nat) (cs:List C) (d:Nat),4<=cs.length->J[i]?=aa (cH.box cs d)->∃b,J'[i]?=aa (cH.box cs b)
def TC(J:aj)(c:C)(ps:List aE):Prop:=(c=.f (sl .fs (aC ps))/\ps≠[])\/(ps≠[]/\∃b d,c=.sl b 0 ps.length ps.length 0 4/\J[b]?=aa (.box (dz ps).flatten d))
theorem sC(ps:List aE):(dz ps).flatten.length=ps.length*4:=by rw[dm (ew ps),eC]
theorem yG{ps:List aE}(h:ps≠[]):4<=(dz ps).flatten.length:=by
 have:=arY.2 h;rw[sC];omega
theorem og{ps:List aE}(h:ps≠[])(g:Tg):sl g (aC ps)=.fs (aC ps).flatten ps.length:=by
 cases ps with
 |nil=>exact absurd rfl h| cons p l=>simp[sl,aC]
section
variable{J:aj}{c:C}{ps:List aE}
theorem TC.len(h:TC J c ps):aV J c=aa ps.length:=by
 rcases h with⟨rfl,h⟩|⟨h,b,d,rfl,hb⟩
 .simp
 .simp[aV,hb]
theorem TC.one{p:aE}(h:TC J c [p]):∃q,bg J 4 ab (.c c) (vi 0)=aa (.c q)/\bF J (aa 4) (.c q)=aa (.a (cM p)):=by
 rcases h with⟨rfl,h⟩|⟨h,b,d,rfl,hb⟩
 .have m:=bO (H:=J) (g:=.fs) (rows:=aC [p]) (sz:=4) (k:=.i64) (i:=(0:Int)) (by omega) (by simp);have s:=dU (H:=J) (bh [p]) (cG (l:=[p]) (j:=0) (by simp));exact⟨_,m,by simpa[dB]using s⟩
 .have hb:J[b]?=aa (.box (cM p) d):=hb;exact⟨.ptr b 0 0,by simp[bg,show fE (vi 0)=aa (0:Int) from rfl,hb],by simp[bF,aK,hb,bf,cM]⟩
theorem TC.ex(h:TC J c ps)(n:Nat):eT (n+1) J c=aa (sl .fs (aC ps)):=by
 rcases h with⟨rfl,h⟩|⟨h,b,d,rfl,hb⟩
 .rfl
 .have hl:=sC ps;simp only[kg,hb];rw[bw (by omega),asp,arw (by omega),od,nR,og h];rfl
theorem TC.bE{J':aj}(h:TC J c ps)(l:B4 J J'):TC J' c ps:=by
 rcases h with h|⟨h,b,j,h1,hb⟩
 .exact .inl h
 .obtain⟨d,g⟩:=l b _ j (yG h) hb;exact .inr ⟨h,b,d,h1,g⟩
theorem TC.mk(h:TC J c ps)(n:Nat):∀(i:Nat) (y:cH),J[i]?=aa y->(fk (n+1) c J)[i]?=aa y\/∃cs g j,4<=cs.length/\y=.box cs g/\(fk (n+1) c J)[i]?=aa (.box cs j):=by
 rcases h with⟨rfl,h⟩|⟨h,b,g,rfl,hb⟩
 .intro i y hy;exact .inl hy
 .intro i y hy;have e:fk (n+1) (.sl b 0 ps.length ps.length 0 4) J=J.set b (.box (dz ps).flatten (Nat.max g (0+ps.length*4))):=by
   simp only[mz,hb];rw[jb];intro x d;have d:=ar5 (ass d);rw[od]at d;obtain⟨y,-,rfl⟩:=arx.1 d;exact⟨y,rfl⟩
  rw[e];by_cases hi:b=i
  .subst hi;rw[hb]at hy;cases hy;exact .inr ⟨_,_,_,yG h,rfl,aq6 (av hb)⟩
  .exact .inl (by rw[aq0 hi];exact hy)
end
def LJ(J:aj)(cl:C)(ts:List (List aE)):Prop:=(ts=[]/\cl=.f .aw)\/(∃b d cs rest,cl=.sl b 0 ts.length 0 d 1/\J[b]?=aa (.cK 1 (cs++rest) 0 d .loc)/\cs.length=ts.length/\∀(k:Nat) (h:k<ts.length) (g:k<cs.length),TC J cs[k] ts[k])
section
variable{J:aj}{cl:C}{ts:List (List aE)}
theorem LJ.len(h:LJ J cl ts):aV J cl=aa ts.length:=by
 rcases h with⟨rfl,rfl⟩|⟨b,d,cs,rest,rfl,hb,-,-⟩
 .rfl
 .simp[aV,hb]
theorem LJ.at(h:LJ J cl ts){k:Nat}(g:k<ts.length):∃b d c,cl=.sl b 0 ts.length 0 d 1/\bg J 1 ab (.c cl) (vi k)=aa (.c (.ptr b k d))/\bF J ab (.c (.ptr b k d))=aa (.c c)/\TC J c ts[k]:=by
 rcases h with⟨rfl,rfl⟩|⟨b,d,cs,rest,rfl,hb,hl,j⟩
 .simp at g
 .refine⟨b,d,cs[k],rfl,?_,?_,j k g (by omega)⟩
  .simp[bg,show fE (vi k)=aa (k:Int) from rfl,hb,g]
  .simp only[bF,aK,hb,if_true,arG];rw[asj (by omega),arp (by omega)];rfl
theorem LJ.bE{J':aj}(h:LJ J cl ts)(j:B4 J J')(ho:∀(i:Nat) y,aT cl=aa i->J[i]?=aa y->J'[i]?=aa y):LJ J' cl ts:=by
 rcases h with h|⟨b,d,cs,rest,rfl,hb,hl,g⟩
 .exact .inl h
 .exact .inr ⟨b,d,cs,rest,rfl,ho b _ rfl hb,hl,λk h h2=>(g k h h2).bE j⟩
theorem LJ.push(h:LJ J cl ts)(K:aj):LJ (J++K) cl ts:=h.bE (λi cs b _ hi=>⟨b,by rw[aq1 (av hi)];exact hi⟩) λi y _ hy=>by rw[aq1 (av hy)];exact hy
theorem LJ.bI(h:LJ J cl ts){i:Nat}{cs:List C}{d:Nat}(hi:J[i]?=aa (.box cs d)):aT cl≠aa i:=by
 rcases h with⟨-,rfl⟩|⟨b,g,cs',rest,rfl,hb,-,-⟩
 .simp[aT]
 .intro e;cases e;rw[hi]at hb;cases hb
theorem LJ.an'(h:LJ J cl ts){i:Nat}{y:cH}(hi:J[i]?=aa y)(hy:lG y=ae):aT cl≠aa i:=by
 rcases h with⟨-,rfl⟩|⟨b,d,cs',rest,rfl,hb,-,-⟩
 .simp[aT]
 .intro e;cases e;rw[hi]at hb;cases hb;cases hy
theorem LJ.st(h:LJ J cl ts){i:Nat}(hi:i<ts.length){p:aE}{bn:Nat}(m:J[bn]?=aa (.box (cM p) 0)):∃b d J',bg J 1 ab (.c cl) (vi i)=aa (.c (.ptr b i d))/\dC J (.ptr b i d) [.sl bn 0 1 1 0 4]=aa J'/\LJ J' cl (ts.set i [p])/\J'.length=J.length/\∀k,aT cl≠aa k->J'[k]?=J[k]?:=by
 rcases h with⟨rfl,rfl⟩|⟨b,d,cs,rest,rfl,hb,hl,s⟩
 .simp at hi
 .have j:∀k y l,J[k]?=aa (.box y l)->k≠b:=λk y l q e=>by rw[e,hb]at q;cases q
  have ho:bR (cs++rest) i [.sl bn 0 1 1 0 4]=cs.set i (.sl bn 0 1 1 0 4)++rest:=by
   rw[rZ (by rw[ara];omega),List.set_append_left _ _ (by omega)]
  refine⟨b,d,J.set b (.cK 1 (cs.set i (.sl bn 0 1 1 0 4)++rest) 0 d .loc),?_,?_,.inr ⟨b,d,cs.set i (.sl bn 0 1 1 0 4),rest,by simp,aq6 (av hb),by simp[hl],λk h1 h2=>?_⟩,by simp,λk u=>aq0 (by rintro rfl;exact u rfl)⟩
  .simp[bg,show fE (vi i)=aa (i:Int) from rfl,hb,hi]
  .simp only[bC,hb,ast,true_and];rw[bw (by simp;omega),ho]
  .rw[List.getElem_set,List.getElem_set];by_cases e:i=k
   .rw[bw e,bw e];exact .inr ⟨by simp,bn,0,rfl,by rw[aq0 (Ne.symm (j _ _ _ m))];exact m⟩
   .rw[aR e,aR e];refine(s k (by simpa using h1) (by simpa using h2)).bE λv cs' l _ g=>⟨l,?_⟩
    rw[aq0 (Ne.symm (j _ _ _ g))];exact g
theorem LJ.del(h:LJ J cl ts){j:Nat}(z:j<ts.length)(A:0<j)(Q:ts.length<=1000000) :
  ∃x d,Ev tab (.fn 108) [.c cl,vi j,vi (j+1:Nat)] J (.c x) d/\LJ d x (ts.eraseIdx j)/\aT x=aT cl/\d.length=J.length/\∀k,aT cl≠aa k->d[k]?=J[k]?:=by
 rcases h with⟨rfl,rfl⟩|⟨b,O,cs,rest,rfl,hb,hl,I⟩
 .simp at z
 .have hg:qh 1 (cs.map λc=>[c]):=λr S=>by
   obtain⟨c,-,rfl⟩:=arx.1 S;rfl
  have s:∀l:List C,(l.map λc=>[c]).flatten=l:=λl=>by induction l with
   |nil=>rfl| cons a l U=>simp only[arf,arv,U];rfl
  have g:(cs.map λc=>[c]).length=ts.length:=by rw[aro,hl]
  obtain⟨r,d,K,rfl,m,q,u,L⟩:=ae4 (tab:=tab) (F:=108) (sz:=1) (bytes:=24) (zs:=[.aw]) aiX (by decide) rfl (rows:=cs.map λc=>[c]) (rest:=rest) hg (by rw[s];exact hb) (j:=j) (by rw[g];exact z) A (by rw[g];exact Q);rw[g]at K;have N:((cs.map λc=>[c]).eraseIdx j).flatten=cs.eraseIdx j:=by
   rw[ase,<-List.map_take,<-List.map_drop,<-asI,s,<-ase]
  rw[N]at q;have H:(ts.eraseIdx j).length=ts.length-1:=by rw[ate,bw z]
  have E:∀k y v,J[k]?=aa (.box y v)->k≠b:=λk y v M e=>by rw[e,hb]at M;cases M
  refine⟨_,d,K,.inr ⟨b,O,cs.eraseIdx j,m,by rw[H],q,by rw[H,ate,bw (by omega),hl],λk h1 h2=>?_⟩,rfl,u,λk B=>L k (by rintro rfl;exact B rfl)⟩;have kp:B4 J d:=λi cs v _ hi=>⟨v,by rw[L i (E _ _ _ hi)];exact hi⟩
  rw[List.getElem_eraseIdx,List.getElem_eraseIdx];by_cases e:k<j
  .rw[dif_pos e,dif_pos e];exact(I _ _ _).bE kp
  .rw[dif_neg e,dif_neg e];exact(I _ _ _).bE kp
end
section
variable{Nb:Int}
def TV(J:aj)(c:C)(fs:List aE):Prop:=(∃g,c=.f (sl g (aC fs)))\/LR J c 4 (aC fs)
theorem ajP{J:aj}{c:C}{sz:Nat}{rows:List (List FC)}(h:LR J c sz rows)(n:Nat):∀(i:Nat) (y:cH),J[i]?=aa y->aT c≠aa i->(fk (n+1) c J)[i]?=aa y:=by
 rcases h with⟨_,rfl|rfl⟩|⟨s,b,q,rfl,l⟩
 .intro i y d _;exact d
 .intro i y d _;exact d
 .unfold RB at l;intro i y d hi;have g:b≠i:=λe=>hi (by rw[e];rfl);have e:∃z,fk (n+1) (.sl b 0 rows.length 0 q sz) J=J.set b z:=by
   simp only[mz,l];rw[jb]
   .exact⟨_,rfl⟩
   .intro x j;have j:=ar5 (ass j);obtain⟨m,_,rfl⟩:=arx.1 j;exact⟨_,rfl⟩
  obtain⟨z,u⟩:=e;rw[u,aq0 g];exact d
section
variable{J:aj}{c:C}{fs:List aE}
theorem TV.ex(h:TV J c fs):∃g,∀n,eT (n+1) J c=aa (sl g (aC fs)):=by
 rcases h with⟨g,rfl⟩|h
 .exact⟨g,λn=>rfl⟩
 .obtain⟨g,hg⟩:=h.exU (bh fs);exact⟨g,λn=>hg J n λ_ _ h _=>h⟩
theorem TV.mk(h:TV J c fs)(n:Nat):∀(i:Nat) (y:cH),J[i]?=aa y->aT c≠aa i->(fk (n+1) c J)[i]?=aa y:=by
 rcases h with⟨g,rfl⟩|h
 .intro i y hy _;exact hy
 .exact ajP h n
end
def tK(f:Nat)(g:List FC)(L:List (List aE)):Prop:=∀(b:Nat) (H:aj) (PP:Nat->aj->Prop),PP 0 H->
 (∀(j:Nat) (q:j<L.length) (d J:aj) (c:C),PP j d->(∀i:Nat,i<d.length->J[i]?=d[i]?)->d.length<=J.length->TV J c L[j]->(∀i,aT c=aa i->d.length<=i)->∃l,Ev tab (.yield b) [.c c] J (vb ae) l/\PP (j+1) l)->
 ∃m,Ev tab (.fn f) (.c (.yl b)::g.map λx=>.c (.f x)) H (.t []) m/\PP L.length m
theorem yR(g:Tg)(ts:List dc)(y:ts.length<=1000000):tK 112 [.fp [sl g (aU ts)] 0] (ts.map (·.fs)):=by
 intro b H PP s z;obtain⟨r,q,v,rfl,d⟩:=uT (b:=b) (H:=H) g ts y PP s λj x J u=>by
  obtain⟨m,l,d⟩:=z j (by simpa using x) J J (.f (sl ts[j].tg (aC ts[j].fs))) u (λ_ _=>rfl) (aq9 _) (.inl ⟨ts[j].tg,by simp⟩) (λ_ h=>by cases h);exact⟨_,m,l,rfl,d⟩
 exact⟨q,v,by rw[aro];exact d⟩
def yW(Nb:Int)(m:Nat)(t:List aE):Prop:=t≠[]/\t.length<=m/\∀p∈t,iG Nb p
def cL(ts:List (List aE))(d:Int):Prop:=∃t∈ts,eQ t d
structure NT(Nb:Int)(m:Nat)(L ts:List (List aE)):Prop where
 len:ts.length<=L.length
 ok:∀t∈ts,yW Nb m t
 mem:∀d,0<=d->(cL ts d↔cL L d)
def aL(ts:List (List aE)):List (List FC):=ts.map λs=>[sl .fs (aC s)]
theorem du(ts:List (List aE)):cd 1 (aL ts):=cd.map λ_=>rfl
structure yV(s:T)(cl:C)(ts:List (List aE))(st:dt)(J:aj):Prop where
 h0:J[0]?=aa (.box [.f .aw] 0)
 h1:J[1]?=aa (.box [cl] 0)
 lr:LR J cl 1 (aL ts)
 ne:cl≠.f .es
 lo:∀i,aT cl=aa i->3<i
 df:J[2]?=aa (.fj ae)
 lp:J[3]?=aa (.lp 67 s [P.nat 15] mR jC st ab 2)
theorem yV.three{s:T}{cl:C}{ts:List (List aE)}{st st':dt}{J:aj}(h:yV s cl ts st J):yV s cl ts st' (J.set 3 (.lp 67 s [P.nat 15] mR jC st' ab 2)):=by
 refine⟨?_,?_,h.lr.set (λe=>by have:=h.lo 3 e;omega) _,h.ne,h.lo,?_,aq6 (av h.lp)⟩
 .rw[aq0 (by omega)];exact h.h0
 .rw[aq0 (by omega)];exact h.h1
 .rw[aq0 (by omega)];exact h.df
theorem yV.bE{s:T}{cl:C}{ts:List (List aE)}{st:dt}{J J':aj}(h:yV s cl ts st J)(b:∀(i:Nat) y,i<J.length->J[i]?=aa y->J'[i]?=aa y):yV s cl ts st J':=
 ⟨b _ _ (av h.h0) h.h0,b _ _ (av h.h1) h.h1,h.lr.bE λi y hy _=>b i y (av hy) hy,h.ne,h.lo,b _ _ (av h.df) h.df,b _ _ (av h.lp) h.lp⟩
theorem yV.mark{s:T}{cl c:C}{ts:List (List aE)}{st:dt}{J J':aj}(h:yV s cl ts st J)(hc:∀i,aT c=aa i->3<i)(d:∀i,aT c=aa i->aT cl≠aa i)(b:∀(i:Nat) y,J[i]?=aa y->aT c≠aa i->J'[i]?=aa y):yV s cl ts st J':=
 ⟨b _ _ h.h0 (λe=>by have:=hc 0 e;omega),b _ _ h.h1 (λe=>by have:=hc 1 e;omega),h.lr.bE λi y hy hi=>b i y hy λe=>d i e hi,h.ne,h.lo,b _ _ h.df (λe=>by have:=hc 2 e;omega),b _ _ h.lp (λe=>by have:=hc 3 e;omega)⟩
theorem yV.app{s:T}{cl:C}{ts:List (List aE)}{st:dt}{J:aj}(h:yV s cl ts st J)(F:ts.length<=1000)(ps:List aE) :
  ∃j m,bJ (J++[.box [.f (sl .fs (aC ps))] 0]) 1 24 (.c cl) (.c (.sl J.length 0 1 1 0 1))=aa (.c j,m)/\dC m (.ptr 1 0 0) [j]=aa (m.set 1 (.box [j] 0))/\yV s j (ts++[ps]) st (m.set 1 (.box [j] 0)):=by
 obtain⟨q,d⟩:=aQ (J++[.box ([sl .fs (aC ps)].map .f) 0]:aj);have up:∀(i:Nat) y,J[i]?=aa y->q[i]?=aa y:=λi y hy=>by rw[d,aq1 (av hy)];exact hy
 have x:LR q cl 1 (aL ts):=by rw[d];exact h.lr.push _
 have z:q[J.length]?=aa (.box ([sl .fs (aC ps)].map .f) 0):=by rw[d];simp
 have h2:q.length=J.length+1:=by rw[d];simp
 have I:=av h.lp;obtain⟨j,m,l,g,v,A⟩:=x.app (du ts) (by decide) (row:=[sl .fs (aC ps)]) rfl (bytes:=24) (dW (by simp[aL];omega) (by decide)) z;have E:aL ts++[[sl .fs (aC ps)]]=aL (ts++[ps]):=by simp[aL]
 rw[E]at g;have u:∀(i:Nat) y,i<=3->J[i]?=aa y->m[i]?=aa y:=λi y hi hy=>v.2 i y (up i y hy) λe=>by have:=h.lo i e;omega
 have n1:=u 1 _ (by omega) h.h1;have B:j≠.f .es:=by
  rcases g with⟨h0,_⟩|⟨_,b,H,rfl,_⟩
  .simp[aL]at h0
  .intro e;cases e
 refine⟨j,m,by rw[d]at l;exact l,by simp[dC,n1,bR],?_,aq6 (av n1),g.set (g.bI n1) _,B,λi hi=>?_,?_,?_⟩
 .rw[aq0 (by omega)];exact u 0 _ (by omega) h.h0
 .rcases A with e|e
  .rw[e]at hi;exact h.lo i hi
  .rw[e]at hi;cases hi;omega
 .rw[aq0 (by omega)];exact u 2 _ (by omega) h.df
 .rw[aq0 (by omega)];exact u 3 _ (by omega) h.lp
theorem vI{s:T}(X:s.g 4=.c (.ptr 1 0 0)){cl:C}{ts:List (List aE)}(K:ts.length<=1000){m:Nat}(hm:m<=64){fs:List aE}(j:yW Nb m fs){J:aj}{c:C}(h:yV s cl ts .ready J)(Z:TV J c fs)(N:∀i,aT c=aa i->3<i)(E:∀i,aT c=aa i->aT cl≠aa i) :
  ∃r L,Ev tab (.yield 3) [.c c] J r L/\(r=vb ae/\∃B u,yV s B u .ready L/\((u=ts/\∀d,0<=d->¬ eQ fs d)\/∃t,u=ts++[t]/\yW Nb m t/\∀d,0<=d->(eQ t d↔eQ fs d))):=by
 refine gi (tab:=tab) (b:=3) (args:=[.c c]) (H:=J) h.lp rfl λQ' y=>?_;refine aq (.inr rfl) ?_;simp;refine na h.lp ?_;have M:=h.three (st':=.busy);have l:TV (J.set 3 (.lp 67 s [P.nat 15] mR jC .busy ab 2)) c fs:=by
  rcases Z with h|h
  .exact .inl h
  .exact .inr (h.set (λe=>by have:=N 3 e;omega) _)
 generalize J.set 3 (.lp 67 s [P.nat 15] mR jC .busy ab 2)=S at M l ⊢;obtain⟨gx,q⟩:=l.ex;have q:=q 63;obtain⟨ps,g,F⟩:=La gx fs j.2.2 j.1 (by have:=j.2.1;omega);obtain⟨b,hb,A⟩:=tP .fs ps (λp hp=>(g.sm p hp).mod) (arY.2 g.ne) (by have:=g.le;have:=j.2.1;omega);have x:=M.mark N E (l.mk 63);obtain⟨U,v⟩:=aQ (fk 64 c S);rw[<-v]at x;refine az ?_;refine an (aq (.inr rfl) ?_);simp[q,deep,F,<-v];apply an;refine aq (.inr rfl) ?_;simp[A];cases b with
 |true=>
  refine ba (by simp) ?_;obtain⟨k1,k2⟩:=hb.1 rfl;exact ay (cW (y _ _ _ _ _ _ _ _ _ _ rfl x.lp ⟨rfl,cl,ts,x.three,.inl ⟨rfl,λd O Y=>rq g.sm k1 k2 d O ((g.mem d O).2 Y)⟩⟩))
 |false=>
  refine au (by simp) ?_;obtain⟨W,H3,z,I,Q⟩:=x.app K ps;have l1:bF U ab (.c (.ptr 1 0 0))=aa (.c cl):=by simp[bF,aK,x.h1]
  refine aq (.inr rfl) ?_;simp[X,l1,-aD,z,I,-bC];exact ay (cW (y _ _ _ _ _ _ _ _ _ _ rfl Q.lp ⟨rfl,W,ts++[ps],Q.three,.inr ⟨ps,rfl,⟨g.ne,by have:=g.le;have:=j.2.1;omega,g.sm⟩,g.mem⟩⟩))
end
theorem Y1{ts:List (List aE)}{i j:Nat}(H:i<j)(I:j<ts.length){p y q:aE}(s:ts[i]'(by omega)=[p])(u:ts[j]=[y])(L:∀d,0<=d->bz q d=(bz p d||bz y d))(d:Int)(F:0<=d):cL ((ts.set i [q]).eraseIdx j) d↔cL ts d:=by
 have hi:i<ts.length:=by omega
 have A:ts=ts.take i++[p] ::((ts.drop (i+1)).take (j-(i+1))++[y]::ts.drop (j+1)):=by
  rw[<-s,<-u]
  conv=>lhs;rw[<-ar8 i ts,arp hi]
  congr 2
  conv=>lhs;rw[<-ar8 (j-(i+1)) (ts.drop (i+1)),asB]
  rw[show i+1+(j-(i+1))=j by omega,arp I]
 have B:(ts.set i [q]).eraseIdx j=ts.take i++[q] ::((ts.drop (i+1)).take (j-(i+1))++ts.drop (j+1)):=by
  have E:ts.set i [q]=ts.take i++[q]::ts.drop (i+1):=by rw[atd,bw hi]
  have K:(ts.take i).length=i:=by rw[arT];omega
  rw[E,atJ (by omega),K]
  congr 1
  obtain⟨k,J⟩:∃k,j-i=k+1:=⟨j-i-1,by omega⟩
  rw[J,List.eraseIdx_cons_succ,ase,asB];rw[show j-(i+1)=k by omega,show i+1+(k+1)=j+1 by omega]
 have g:∀(a b:List (List aE)),cL (a++b) d↔cL a d\/cL b d:=λa b=>by
  unfold cL;constructor
  .rintro⟨t,v,h⟩;rcases ard.1 v with k|k
   .exact .inl ⟨t,k,h⟩
   .exact .inr ⟨t,k,h⟩
  .rintro(⟨t,k,h⟩|⟨t,k,h⟩)
   .exact⟨t,ar4 _ k,h⟩
   .exact⟨t,asA _ k,h⟩
 have m:∀(x:aE) l,cL ([x]::l) d↔bz x d=ae\/cL l d:=λx l=>by
  unfold cL;constructor
  .rintro⟨t,v,h⟩;rcases arM.1 v with rfl|k
   .exact .inl (h x (by simp))
   .exact .inr ⟨t,k,h⟩
  .rintro(h|⟨t,k,h⟩)
   .exact⟨[x],by simp,λp z=>by rw[arb]at z;rw[z];exact h⟩
   .exact⟨t,arj _ k,h⟩
 rw[B]
 conv=>rhs;rw[A]
 rw[g,g,m,m,g,g,m,L d F,Bool.or_eq_true];constructor
 .rintro(a|(b|c)|e|f)
  .exact .inl a
  .exact .inr (.inl b)
  .exact .inr (.inr (.inr (.inl c)))
  .exact .inr (.inr (.inl e))
  .exact .inr (.inr (.inr (.inr f)))
 .rintro(a|b|e|c|f)
  .exact .inl a
  .exact .inr (.inl (.inl b))
  .exact .inr (.inr (.inl e))
  .exact .inr (.inl (.inr c))
  .exact .inr (.inr (.inr f))
structure SJ(J:aj)(cl:C)(ts:List (List aE)):Prop where
 h0:J[0]?=aa (.box [.f .aw] 0)
 h1:J[1]?=aa (.box [cl] 0)
 df:J[2]?=aa (.fj ae)
 lj:LJ J cl ts
theorem SJ.push{J:aj}{cl:C}{ts:List (List aE)}(h:SJ J cl ts)(K:aj):SJ (J++K) cl ts:=
 ⟨by rw[aq1 (av h.h0)];exact h.h0,by rw[aq1 (av h.h1)];exact h.h1,by rw[aq1 (av h.df)];exact h.df,h.lj.push K⟩
theorem Y9{J:aj}{cl:C}{ts:List (List aE)}(u:∀t∈ts,t≠[])(h:LR J cl 1 (aL ts))(d:cl≠.f .es):LJ J cl ts:=by
 rcases h with⟨m,rfl|rfl⟩|⟨v,b,j,rfl,g⟩
 .have:ts=[]:=by
   cases ts with
   |nil=>rfl| cons a l=>simp[aL]at m
  exact .inl ⟨this,rfl⟩
 .exact absurd rfl d
 .have s:(aL ts).length=ts.length:=by simp[aL]
  have q:∀l:List (List aE),(aL l).flatten.map C.f=l.map λt=>C.f (sl .fs (aC t)):=λl=>by
   induction l with
   |nil=>rfl
   |cons a l x=>
    have:aL (a::l)=[sl .fs (aC a)]::aL l:=rfl;rw[this,arv,asI,x];rfl
  unfold RB at g;refine .inr ⟨b,j,ts.map λt=>C.f (sl .fs (aC t)),[],by rw[s],by rw[g,q,asq],by simp,λk y d=>?_⟩;rw[as2];exact .inl ⟨rfl,u _ (aq7 _)⟩
theorem SJ.join{J:aj}{cl:C}{ts:List (List aE)}(h:SJ J cl ts){i j:Nat}(I:i<j)(K:j<ts.length)(S:ts.length<=1000){p:aE}{bn:Nat}(hb:J[bn]?=aa (.box (cM p) 0)) :
  ∃b x l m d,bF J ab (.c (.ptr 1 0 0))=aa (.c cl)/\bg J 1 ab (.c cl) (vi i)=aa (.c (.ptr b i x))/\dC J (.ptr b i x) [.sl bn 0 1 1 0 4]=aa l/\bF l ab (.c (.ptr 1 0 0))=aa (.c cl)/\Ev tab (.fn 108) [.c cl,vi j,vi (j+1:Nat)] l (.c m) d/\dC d (.ptr 1 0 0) [m]=aa (d.set 1 (.box [m] 0))/\
   SJ (d.set 1 (.box [m] 0)) m ((ts.set i [p]).eraseIdx j):=by
 obtain⟨b,x,l,Q,N,g,L,q⟩:=h.lj.st (i:=i) (by omega) hb;have A:l[0]?=aa (.box [.f .aw] 0):=by rw[q 0 (h.lj.bI h.h0)];exact h.h0
 have a1:l[1]?=aa (.box [cl] 0):=by rw[q 1 (h.lj.bI h.h1)];exact h.h1
 have B:l[2]?=aa (.fj ae):=by rw[q 2 (h.lj.an' h.df rfl)];exact h.df
 obtain⟨m,d,H,u,O,M,s⟩:=g.del (j:=j) (by rw[arQ];exact K) (by omega) (by rw[arQ];omega);have b0:d[0]?=aa (.box [.f .aw] 0):=by rw[s 0 (g.bI A)];exact A
 have b1:d[1]?=aa (.box [cl] 0):=by rw[s 1 (g.bI a1)];exact a1
 have E:d[2]?=aa (.fj ae):=by rw[s 2 (g.an' B rfl)];exact B
 refine⟨b,x,l,m,d,by simp[bF,aK,h.h1],Q,N,by simp[bF,aK,a1],H,by simp[dC,b1,bR],?_,aq6 (av b1),?_,u.bE (λk cs F z v=>⟨F,?_⟩) λk y v hy=>?_⟩
 .rw[aq0 (by omega)];exact b0
 .rw[aq0 (by omega)];exact E
 .rw[aq0 (by rintro rfl;rw[b1]at v;cases v;simp at z)];exact v
 .rw[aq0 (by rintro rfl;exact u.bI b1 v)];exact hy
def M4(J J':aj):Prop:=∀(i:Nat) (y:cH),J[i]?=aa y->J'[i]?=aa y\/∃(cs:List C) (d b:Nat),4<=cs.length/\y=cH.box cs d/\J'[i]?=aa (cH.box cs b)
theorem M4.refl(J:aj):M4 J J:=λ_ _ h=>.inl h
theorem M4.trans{J J' b:aj}(h:M4 J J')(l:M4 J' b):M4 J b:=λi y hy=>by
 rcases h i y hy with k|⟨cs,j,g,hc,rfl,k⟩
 .exact l i y k
 .rcases l i _ k with k'|⟨m,q,d,s,e,k'⟩
  .exact .inr ⟨cs,j,g,hc,rfl,k'⟩
  .cases e;exact .inr ⟨cs,j,d,hc,rfl,k'⟩
theorem M4.b4{J J':aj}(h:M4 J J'):B4 J J':=λi cs g hc hy=>by
 rcases h i _ hy with k|⟨d,j,b,l,e,k⟩
 .exact⟨g,k⟩
 .cases e;exact⟨b,k⟩
theorem M4.get{J J':aj}(h:M4 J J'){i:Nat}{y:cH}(hy:J[i]?=aa y)(m:∀cs d,y=cH.box cs d->cs.length<4):J'[i]?=aa y:=by
 rcases h i _ hy with k|⟨b,j,g,l,e,k⟩
 .exact k
 .have:=m _ _ e;omega
theorem TC.m4{J:aj}{c:C}{ps:List aE}(h:TC J c ps)(n:Nat):M4 J (fk (n+1) c J):=λi y hy=>h.mk n i y hy
theorem xu(n:Nat):∀(cs:List C) (ts:List (List aE)) (J:aj),cs.length=ts.length->(∀(k:Nat) (h:k<ts.length) (b:k<cs.length),TC J cs[k] ts[k])->M4 J (cs.foldl (λH x=>fk (n+1) x H) J)
 |[],_,J,_,_=>M4.refl J| c::cs,[],_,h,_=>by simp at h
 |c::cs,t::ts,J,l,h=>by
  have g:TC J c t:=h 0 (by simp) (by simp);have d:=g.m4 n;refine M4.trans d (xu n cs ts _ (by simpa using l) λk j b=>?_);exact(h (k+1) (by simpa using j) (by simpa using b)).bE d.b4
theorem xr(n:Nat){J:aj}:∀(cs:List C) (ts:List (List aE)),cs.length=ts.length->(∀(k:Nat) (h:k<ts.length) (b:k<cs.length),TC J cs[k] ts[k])->aX (eT (n+1) J) cs=aa (aL ts).flatten
 |[],[],_,_=>rfl| [],_::_,h,_=>by simp at h
 |c::cs,[],h,_=>by simp at h
 |c::cs,t::ts,j,h=>by
  have d:TC J c t:=h 0 (by simp) (by simp);have l:=xr n (J:=J) cs ts (by simpa using j) λk g b=>h (k+1) (by simpa using g) (by simpa using b);simp only[aX,d.ex n,l];rfl
def LO(J:aj)(cl:C)(ts:List (List aE)):Prop:=(ts=[]/\cl=.f .aw)\/(ts≠[]/\∃b d cs g,cl=.sl b 0 ts.length 0 d 1/\J[b]?=aa (.cK 1 cs g d .loc)/\cs.length=ts.length/\g<=cs.length/\∀(k:Nat) (h:k<ts.length) (j:k<cs.length),TC J cs[k] ts[k])
section
variable{J:aj}{cl:C}{ts:List (List aE)}
theorem LO.bE{J':aj}(h:LO J cl ts)(q:B4 J J')(ho:∀(i:Nat) y,aT cl=aa i->J[i]?=aa y->J'[i]?=aa y):LO J' cl ts:=by
 rcases h with h|⟨d,b,g,cs,j,rfl,hb,hl,m,l⟩
 .exact .inl h
 .exact .inr ⟨d,b,g,cs,j,rfl,ho b _ rfl hb,hl,m,λk h h2=>(l k h h2).bE q⟩
theorem LO.push(h:LO J cl ts)(K:aj):LO (J++K) cl ts:=h.bE (λi cs b _ hi=>⟨b,by rw[aq1 (av hi)];exact hi⟩) λi y _ hy=>by rw[aq1 (av hy)];exact hy
theorem LO.ex(h:LO J cl ts)(n:Nat):∃g,eT (n+2) J cl=aa (sl g (aL ts)):=by
 rcases h with⟨rfl,rfl⟩|⟨d,b,m,cs,q,rfl,hb,hl,s,j⟩
 .exact⟨.nil,rfl⟩
 .refine⟨.fs,?_⟩;simp only[kg,hb];rw[bw ⟨trivial,trivial,by omega⟩,asp,arw (by omega),xr n cs ts hl j];cases ts with
  |nil=>exact absurd rfl d| cons a l=>simp[sl,aL]
theorem LO.mk(h:LO J cl ts)(n:Nat):LO (fk (n+2) cl J) cl ts/\∀(i:Nat) (y:cH),J[i]?=aa y->aT cl≠aa i->(fk (n+2) cl J)[i]?=aa y\/∃(cs:List C) (j g:Nat),4<=cs.length/\y=cH.box cs j/\(fk (n+2) cl J)[i]?=aa (cH.box cs g):=by
 rcases h with⟨rfl,rfl⟩|⟨z,b,u,cs,j,rfl,hb,hl,B,A⟩
 .exact⟨.inl ⟨rfl,rfl⟩,λi y hy _=>.inl hy⟩
 .obtain⟨s,d⟩:=aQ (J.set b (.cK 1 cs (Nat.max j (0+ts.length*1)) u .loc));have v:B4 J s:=λi cs' g _ hi=>⟨g,by rw[d,aq0 (by rintro rfl;rw[hb]at hi;cases hi)];exact hi⟩
  have l:∀(k:Nat) (h:k<ts.length) (h2:k<cs.length),TC s cs[k] ts[k]:=λk h h2=>(A k h h2).bE v;have e:fk (n+2) (.sl b 0 ts.length 0 u 1) J=cs.foldl (λH x=>fk (n+1) x H) s:=by
   simp only[mz,hb];rw[asp,arw (by omega),d]
  have m:=xu n cs ts s hl l;rw[e];refine⟨.inr ⟨z,b,u,cs,Nat.max j (0+ts.length*1),rfl,m.get (by rw[d];exact aq6 (av hb)) (λ_ _ e=>by cases e),hl,by have:Nat.max j (0+ts.length*1)=max j (0+ts.length*1):=rfl;omega,λk h h2=>(l k h h2).bE m.b4⟩,λi y hy hi=>?_⟩;have q:b≠i:=by rintro rfl;exact hi rfl
  exact m i y (by rw[d,aq0 q];exact hy)
theorem LO.bI(h:LO J cl ts){i:Nat}{cs:List C}{d:Nat}(hi:J[i]?=aa (.box cs d)):aT cl≠aa i:=by
 rcases h with⟨-,rfl⟩|⟨-,b,g,cs',f,rfl,hb,-⟩
 .simp[aT]
 .intro e;cases e;rw[hi]at hb;cases hb
theorem LO.app(h:LO J cl ts)(L:ts.length<=1000){c:C}{t:List aE}(H:TC J c t) :
  ∃z x,bJ (J++[.box [c] 0]) 1 24 (.c cl) (.c (.sl J.length 0 1 1 0 1))=aa (.c z,x)/\LO x z (ts++[t])/\J.length<x.length/\(∀(i:Nat) y,J[i]?=aa y->aT cl≠aa i->x[i]?=aa y)/\(aT z=aT cl\/aT z=aa (J.length+1)):=by
 obtain⟨g,d⟩:=aQ (J++[.box [c] 0]:aj);have F:g.length=J.length+1:=by rw[d];simp
 have B:g[J.length]?=aa (.box [c] 0):=by rw[d];simp
 have l:cN g 1 (.c (.sl J.length 0 1 1 0 1))=aa (1,[c]):=by simp[cN,aV,cA,B]
 have u:TC g c t:=H.bE λi cs j _ hi=>⟨j,by rw[d,aq1 (av hi)];exact hi⟩
 rw[<-d];rcases h with⟨rfl,rfl⟩|⟨K,b,s,cs,j,rfl,hb,hl,I,A⟩
 .refine⟨.sl g.length 0 1 0 0 1,g++[.cK 1 [c] 0 0 .loc],?_,.inr ⟨by simp,g.length,0,[c],0,rfl,by simp,rfl,by omega,λk h h2=>?_⟩,by rw[ara];omega,λi y hy _=>?_,.inr (by rw[F];rfl)⟩
  .simp only[bJ,l];rw[aR (by omega),aR (by omega),bw (dW (by decide) (by decide))]
  .have:k=0:=by simpa using h
   subst this;exact u.bE λi cs j _ hi=>⟨j,by rw[aq1 (av hi)];exact hi⟩
  .have:=av hy;rw[aq1 (by omega),d,aq1 this];exact hy
 .have q:g[b]?=aa (.cK 1 cs j s .loc):=by rw[d,aq1 (av hb)];exact hb
  have v:B4 g (g.set b (.cK 1 (cs++[c]) j (s+1) .loc)):=λi cs' m _ hi=>⟨m,by rw[aq0 (by rintro rfl;rw[q]at hi;cases hi)];exact hi⟩
  have E:B4 J g:=λi cs' m _ hi=>⟨m,by rw[d,aq1 (av hi)];exact hi⟩
  refine⟨.sl b 0 (ts.length+1) 0 (s+1) 1,g.set b (.cK 1 (cs++[c]) j (s+1) .loc),?_,.inr ⟨by simp,b,s+1,cs++[c],j,by simp,aq6 (av q),by simp[hl],by simp;omega,λk h h2=>?_⟩,by rw[arQ];omega,λi y hy hi=>?_,.inl rfl⟩
  .simp only[bJ,l,q,and_self,if_true];rw[aR (by omega),aR (by omega),bw ⟨trivial,by omega,I⟩,bw (dW (by omega) (by decide))]
  .rw[List.getElem_append,List.getElem_append];by_cases e:k<ts.length
   .rw[dif_pos (by omega),dif_pos e];exact((A k e (by omega)).bE E).bE v
   .rw[dif_neg (by omega),dif_neg e];simp only[List.getElem_singleton];exact u.bE v
  .rw[aq0 (by rintro rfl;exact hi rfl),d,aq1 (av hy)];exact hy
end
section
variable{Nb:Int}
theorem gn(a b:List (List aE))(d:Int):cL (a++b) d↔cL a d\/cL b d:=by
 unfold cL;constructor
 .rintro⟨t,g,h⟩;rcases ard.1 g with k|k
  .exact .inl ⟨t,k,h⟩
  .exact .inr ⟨t,k,h⟩
 .rintro(⟨t,k,h⟩|⟨t,k,h⟩)
  .exact⟨t,ar4 _ k,h⟩
  .exact⟨t,asA _ k,h⟩
theorem jH(t:List aE)(d:Int):cL [t] d↔eQ t d:=⟨λ⟨x,b,h⟩=>by rw[arb]at b;rwa[b]at h,λh=>⟨t,by simp,h⟩⟩
theorem aal{m:Nat}{ts:List (List aE)}(h:∀t∈ts,yW Nb m t)(g:1<=m){i j:Nat}{q:aE}(l:iG Nb q):∀t∈(ts.set i [q]).eraseIdx j,yW Nb m t:=λt s=>by
 rcases ata (List.mem_of_mem_eraseIdx s)with d|rfl
 .exact h t d
 .exact⟨by simp,by simpa using g,λp b=>by rw[arb]at b;rw[b];exact l⟩
def dE(ts:List (List aE))(g:Tg):V:=.t [.a [.f (sl g (aL ts))],vi 0]
def jf(ts:List (List aE))(g:Tg):V:=if ts.length<=64 then dE ts g else .t [.a [.f .aw],vi 2]
theorem K7{J:aj}{g:C}{us:List (List aE)}(O:LO J g us){b:Nat}{v:C}(W:J[b]?=aa (.box [v] 0)){t:List aE}(Y:TC J v t){F:Nat} :
  LO (fk 64 (.cl F [.ptr b 0 0]) (fk 64 g J)) g us/\B4 J (fk 64 (.cl F [.ptr b 0 0]) (fk 64 g J))/\(∀(i:Nat) y,J[i]?=aa y->aT g≠aa i->i≠b->(∀cs s,y=cH.box cs s->cs.length<4)->(fk 64 (.cl F [.ptr b 0 0]) (fk 64 g J))[i]?=aa y)/\(fk 64 (.cl F [.ptr b 0 0]) (fk 64 g J))[b]?=aa (.box [v] 1):=by
 obtain⟨N,L⟩:=O.mk 62;obtain⟨A,I⟩:=aQ (fk (62+2) g J);rw[<-I]at N L;have H:B4 J A:=λi cs s q d=>by
  rcases L i _ d (O.bI d)with k|⟨x,E,B,_,e,k⟩
  .exact⟨s,k⟩
  .cases e;exact⟨B,k⟩
 have l:A[b]?=aa (.box [v] 0):=by
  rcases L b _ W (O.bI W)with k|⟨x,E,B,q,e,k⟩
  .exact k
  .cases e;simp at q
 obtain⟨K,j⟩:=aQ (A.set b (.box [v] 1));have z:B4 A K:=λi cs s q d=>⟨s,by rw[j,aq0 (by rintro rfl;rw[l]at d;cases d;simp at q)];exact d⟩
 have Q:TC K v t:=(Y.bE H).bE z;have e:fk 64 (.cl F [.ptr b 0 0]) (fk 64 g J)=fk (61+1) v K:=by
  show fk (63+1) (.cl F [.ptr b 0 0]) (fk (62+2) g J)=_;rw[<-I,Zm];show fk (62+1) (.ptr b 0 0) A=_;rw[Ag,l,j];rfl
 have m:=Q.m4 61;rw[e];have u:LO K g us:=N.bE z λi y hi d=>by rw[j,aq0 (by rintro rfl;exact N.bI l hi)];exact d
 refine⟨u.bE m.b4 λi y hi d=>?_,λi cs s q d=>?_,λi y d hi S X=>?_,m.get (by rw[j];exact aq6 (av l)) (λcs s e=>by cases e;simp)⟩
 .rcases m i y d with k|⟨x,E,B,_,M,k⟩
  .exact k
  .subst M;exact absurd hi (u.bI d)
 .obtain⟨E,U⟩:=H i cs s q d;obtain⟨B,Z⟩:=z i cs E q U;exact m.b4 i cs B q Z
 .have U:A[i]?=aa y:=by
   rcases L i _ d hi with k|⟨x,E,B,q,M,k⟩
   .exact k
   .have:=X _ _ M;omega
  exact m.get (by rw[j,aq0 (Ne.symm S)];exact U) X
theorem nU(f:Nat)(d7:List FC)(L:List (List aE))(hI:tK f d7 L){m:Nat}(w_:1<=m)(hm:m<=4)(hL:∀s∈L,yW Nb m s)(hLl:L.length<=1000) :
  ∃ts g,NT Nb m L ts/\bH tab 67 [.c (.f (.fn f d7))]=Eq (jf ts g):=by
 obtain⟨r,⟨ts,g,hts,rfl⟩,h⟩:∃r,(∃ts g,NT Nb m L ts/\r=jf ts g)/\bH tab 67 [.c (.f (.fn f d7))] r:=by
  refine mF anl rfl λQ hQ=>?_;apply ai;simp;apply ai;simp;apply an;apply ai;simp;refine az ?_;have t_:∀(t:T) (J:aj) (cl:C) (ts:List (List aE)),t.g 2=.c (.ptr 0 0 0)->t.g 4=.c (.ptr 1 0 0)->SJ J cl ts->NT Nb m L ts->WP tab 67 ab [.code oo] ⟨t,[.gB 2],J⟩ Q:=by
   intro t J cl ts B Y K hN;have y_:=hN.len;obtain⟨M,hM⟩:=aQ (ts.length);apply ai;simp;obtain⟨l,h_⟩:=aQ (J.length);obtain⟨J1,c5⟩:=aQ (J++[cH.box [.f .aw] 0]);have d5:SJ J1 cl ts:=by rw[c5];exact K.push _
   have c1:J1[l]?=aa (.box [.f .aw] 0):=by rw[c5,h_];simp
   have l1:bF J1 ab (.c (.ptr 1 0 0))=aa (.c cl):=by simp[bF,aK,d5.h1]
   have ll:=d5.lj.len;have lJ1:J1.length=l+1:=by rw[c5];simp[h_]
   have k_:∀i,aT cl=aa i->i<l+1:=λi hi=>by
    rcases d5.lj with⟨-,rfl⟩|⟨b,ep,cs,rest,rfl,hb,-,-⟩
    .cases hi
    .cases hi;have:=av hb;omega
   have hb2:2<l:=by have:=av K.df;omega
   rw[<-hM]at ll;rw[<-c5,<-h_];apply an;apply ai;simp[Y,l1,ll,-aD];refine cC M (λk t J=>t.g 2=.c (.ptr 0 0 0)/\t.g 11=.c (.ptr l 0 0)/\t.g 98=.c cl/\∃z us,SJ J cl ts/\J[l]?=aa (.box [z] 0)/\LO J z us/\(∀i,aT z=aa i->l+1<=i)/\us.length<=k/\(∀t∈us,yW Nb m t)/\∀d,0<=d->(cL us d↔cL (ts.take k) d)) (by omega) (by decide) (by decide) (by simp) (by simp)
    ⟨by simp[B],by simp,by simp,.f .aw,[],d5,c1,.inl ⟨rfl,rfl⟩,(λi h=>by cases h),by simp,by simp,λd _=>by simp[cL]⟩ ?_ ?_
   .rintro k t J' hk ⟨B,c_,j8,z,us,K,N,e_,A,t5,O,d6⟩ ha hb next
    have n_:k<ts.length:=by omega
    obtain⟨bk,ek,ck,-,xk,lk,p8⟩:=K.lj.at n_;have i8:ts.take (k+1)=ts.take k++[ts[k]]:=by rw[arD,aq2 n_];rfl
    have m7:=hN.ok _ (aq7 n_);obtain⟨I,htt⟩:=aQ (ts[k]);rw[<-htt]at p8 i8 m7;refine az ?_;apply ai;simp[ha,j8,xk,lk,-aD];obtain⟨a8,j_⟩:=aQ (J'.length);obtain⟨S,v⟩:=aQ (J'++[cH.box [ck] 0]);have U:SJ S cl ts:=by rw[v];exact K.push _
    have c6:LO S z us:=by rw[v];exact e_.push _
    have m9:S[l]?=aa (.box [z] 0):=by rw[v,aq1 (av N)];exact N
    have m_:S[a8]?=aa (.box [ck] 0):=by rw[v,j_];simp
    have g_:TC S ck I:=p8.bE λi cs X _ hi=>⟨X,by rw[v,aq1 (av hi)];exact hi⟩
    have s_:l≠a8:=by have:=av N;omega
    rw[<-v,<-j_];obtain⟨go,n9⟩:=c6.ex 62;have v7:eT 63 S (.ptr a8 0 0)=aa (.fp [sl .fs (aC I)] 0):=by
     have:=g_.ex 61;simp only[YU,m_,aX,this];rfl
    have lus:us.length<=1000:=by omega
    have d9:=YG go .fs us (by omega) (λs hs=>⟨by have:=(O s hs).2.1;omega,λp hp=>by have:=((O s hs).2.2 p hp).head;have:=((O s hs).2.2 p hp).aZ;omega⟩) I;obtain⟨dv,i6⟩:=aQ (us.any λs=>fX s I:Bool);rw[<-i6]at d9;have d9:bH tab 31 [.c (.f (sl go (aL us))),.c (.f (.fn 109 [.fp [sl .fs (aC I)] 0]))]=Eq (vb dv):=d9;obtain⟨n1,n2,n3,n4⟩:=K7 (F:=109) c6 m_ g_;obtain⟨J3,H⟩:=aQ (fk 64 (.cl 109 [.ptr a8 0 0]) (fk 64 z S));rw[<-H]at n1 n2 n3 n4;have m0:0≠a8:=by have:=av K.h0;omega
    have m1:1≠a8:=by have:=av K.h1;omega
    have m2:2≠a8:=by have:=av K.df;omega
    have o8:aT z≠aa 2:=λe=>by have:=A 2 e;omega
    have c9:SJ J3 cl ts:=⟨n3 0 _ U.h0 (c6.bI U.h0) m0 (λcs X e=>by cases e;simp),n3 1 _ U.h1 (c6.bI U.h1) m1 (λcs X e=>by cases e;simp),n3 2 _ U.df o8 m2 (λcs X e=>by cases e),U.lj.bE n2 λi y hi u=>n3 i y u (λe=>by have:=A i e;have:=k_ i hi;omega) (by rintro rfl;exact U.lj.bI m_ hi) λcs X e=>by subst e;exact absurd hi (U.lj.bI u)⟩
    have W:J3[l]?=aa (.box [z] 0):=n3 l _ m9 (c6.bI m9) s_ (λcs X e=>by cases e;simp);have o7:bF S ab (.c (.ptr l 0 0))=aa (.c z):=by simp[bF,aK,m9]
    apply ai;simp[c_,o7,-aD,n9,deep,aX,v7,d9,-YU,<-H];cases dv with
    |true=>
     refine ba (by simp) ?_;refine ay (next _ _ ⟨by simp[B],by simp[c_],by simp[j8],z,us,c9,W,n1,A,by omega,O,λd hd=>?_⟩ (by simp[ha]) (by simp[hb]));rw[i8,gn,jH,d6 d hd];refine⟨.inl,λh=>h.elim id λh=>(d6 d hd).1 ?_⟩;obtain⟨s,hs,u_⟩:=List.any_eq_true.1 i6.symm;exact⟨s,hs,(rF u_ d).2 h⟩
    |false=>
     refine au (by simp) ?_;have i_:bF J3 ab (.c (.ptr l 0 0))=aa (.c z):=by simp[bF,aK,W]
     have t6:bF J3 ab (.c (.ptr a8 0 0))=aa (.c ck):=by simp[bF,aK,n4]
     have p9:=g_.bE n2;obtain⟨c3,H3,p_,d8,v_,f8,u9⟩:=n1.app (by omega) p9;have aqG:l<J3.length:=av W;have j4:=f8 l _ W (n1.bI W);have s11:dC H3 (.ptr l 0 0) [c3]=aa (H3.set l (.box [c3] 0)):=by simp[dC,j4,bR]
     refine aq (.inl rfl) ?_;simp[c_,i_,t6,-aD,p_,s11,-bC];have u6:B4 J3 (H3.set l (.box [c3] 0)):=λi cs X hc u=>⟨X,by rw[aq0 (by rintro rfl;rw[W]at u;cases u;simp at hc)];exact f8 i _ u (n1.bI u)⟩
     refine ay (next _ _ ⟨by simp[B],by simp[c_],by simp[j8],c3,us++[I],⟨?_,?_,?_,?_⟩,aq6 (av j4),?_,λi hi=>?_,by rw[ara,atq];omega,λx hx=>?_,λd hd=>?_⟩ (by simp[ha]) (by simp[hb]))
     .rw[aq0 (by omega)];exact f8 0 _ c9.h0 (n1.bI c9.h0)
     .rw[aq0 (by omega)];exact f8 1 _ c9.h1 (n1.bI c9.h1)
     .rw[aq0 (by omega)];exact f8 2 _ c9.df o8
     .refine c9.lj.bE u6 λi y hi u=>?_;have:=k_ i hi;have x_:l≠i:=by rintro rfl;exact c9.lj.bI W hi
      rw[aq0 x_];exact f8 i y u λe=>by have:=A i e;omega
     .refine d8.bE (λi cs X hc u=>⟨X,by rw[aq0 (by rintro rfl;rw[j4]at u;cases u;simp at hc)];exact u⟩) λi y hi u=>?_;rw[aq0 (by rintro rfl;exact d8.bI j4 hi)];exact u
     .rcases u9 with e|e
      .rw[e]at hi;exact A i hi
      .rw[e]at hi;cases hi;omega
     .rcases ard.1 hx with h|h
      .exact O x h
      .rw[arb]at h;rw[h];exact m7
     .rw[i8,gn,gn,d6 d hd]
   .rintro t J' ⟨B,c_,j8,z,us,K,N,e_,A,t5,O,d6⟩ - -;rw[hM,arz]at d6;have lus:us.length<=1000:=by omega
    obtain⟨go,n9⟩:=e_.ex 62;have o4:ko (us.map λs=>⟨.fs,s⟩)=decide (us.length<=64):=by
     unfold ko;have h1:((us.map λs=>(⟨.fs,s⟩:dc)).all iR)=ae:=by
      simp only[ars];intro x hx;obtain⟨s,hs,rfl⟩:=arx.1 hx;obtain⟨h1,h2,h3⟩:=O s hs;have:=arY.2 h1;simp only[iR,aq3,decide_eq_true_eq,ars];exact⟨⟨by omega,by omega⟩,λp hp=>(h3 p hp).ok⟩
     rw[h1,Bool.and_true,aro];exact decide_eq_decide.2 (by omega)
    have i9:=(Ad go (us.map λs=>⟨.fs,s⟩) (by simp;omega) (λx hx=>by
     obtain⟨s,hs,rfl⟩:=arx.1 hx;exact⟨by have:=(O s hs).2.1;show s.length<=_;omega,λp hp=>jg ((O s hs).2.2 p hp).ok⟩)).eq
    rw[o4]at i9;have etr:aU (us.map λs=>⟨.fs,s⟩)=aL us:=by simp[aU,aL,dc.row]
    rw[etr]at i9;obtain⟨n1,n2⟩:=e_.mk 62;have o7:bF J' (aa 1) (.c (.ptr l 0 0))=aa (.a [z]):=by simp[bF,aK,N,bf]
    apply an;apply ai;simp[c_,o7,-aD,n9,deep,aX,i9];obtain⟨S,v⟩:=aQ (fk 64 z J');have n1:LO S z us:=by rw[v];exact n1
    have n2:∀(i:Nat) (y:cH),J'[i]?=aa y->aT z≠aa i->(∀cs X,y=cH.box cs X->cs.length<4)->S[i]?=aa y:=λi y u hi hn=>by
     rw[v];rcases n2 i y u hi with k|⟨cs,f1,f2,hc,e,k⟩
     .exact k
     .have:=hn _ _ e;omega
    rw[<-v];have e0:=n2 0 _ K.h0 (e_.bI K.h0) (λcs X e=>by cases e;simp);have e2:=n2 2 _ K.df (λe=>by have:=A 2 e;omega) (λcs X e=>by cases e);have W:=n2 l _ N (e_.bI N) (λcs X e=>by cases e;simp);by_cases o9:us.length<=64
    case neg=>
     refine au (by simp;omega) ?_;have s0:dC S (.ptr 0 0 0) [.f .aw]=aa (S.set 0 (.box [.f .aw] 0)):=by simp[dC,e0,bR]
     obtain⟨J3,H⟩:=aQ (S.set 0 (.box [.f .aw] 0));have f0:J3[0]?=aa (.box [.f .aw] 0):=by rw[H];exact aq6 (av e0)
     have f2:J3[2]?=aa (.fj ae):=by rw[H,aq0 (by omega)];exact e2
     apply ai;simp[B,s0,-bC];rw[<-H];refine aB (hQ _ _ _ ⟨us,.nil,⟨by omega,O,λd hd=>by rw[d6 d hd];exact hN.mem d hd⟩,rfl⟩ (.inr ⟨2,rfl,f2,.t [.a [.f .aw],vi 2],?_,?_⟩))
     .have n5:(J3.set 2 (.fj ag))[0]?=aa (.box [.f .aw] 0):=by rw[aq0 (by omega)];exact f0
      simp[Km.results,bQ,aX,B,n5,bf]
     .simp[jy,de,aX,deep,jf,o9]
    refine aA (by simp;omega) (aJ ?_);have i_:bF S (aa 1) (.c (.ptr l 0 0))=aa (.a [z]):=by simp[bF,aK,W,bf]
    have s0:dC S (.ptr 0 0 0) [z]=aa (S.set 0 (.box [z] 0)):=by simp[dC,e0,bR]
    obtain⟨J3,H⟩:=aQ (S.set 0 (.box [z] 0));have f0:J3[0]?=aa (.box [z] 0):=by rw[H];exact aq6 (av e0)
    have f2:J3[2]?=aa (.fj ae):=by rw[H,aq0 (by omega)];exact e2
    have d8:LO J3 z us:=n1.bE (λi cs X hc u=>⟨X,by rw[H,aq0 (by rintro rfl;rw[e0]at u;cases u;simp at hc)];exact u⟩) λi y hi u=>by rw[H,aq0 (by rintro rfl;exact n1.bI e0 hi)];exact u
    have o_:LO (J3.set 2 (.fj ag)) z us:=d8.bE (λi cs X hc u=>⟨X,by rw[aq0 (by rintro rfl;rw[f2]at u;cases u)];exact u⟩) λi y hi u=>by rw[aq0 (by rintro rfl;have:=A 2 hi;omega)];exact u
    obtain⟨gz,v8⟩:=o_.ex 62;apply ai;simp[B,c_,i_,-aD,s0,-bC];rw[<-H];refine aB (hQ _ _ _ ⟨us,gz,⟨by omega,O,λd hd=>by rw[d6 d hd];exact hN.mem d hd⟩,rfl⟩ (.inr ⟨2,rfl,f2,.t [.a [z],vi 0],?_,?_⟩))
    .have n5:(J3.set 2 (.fj ag))[0]?=aa (.box [z] 0):=by rw[aq0 (by omega)];exact f0
     simp[Km.results,bQ,aX,B,n5,bf]
    .simp[jy,de,aX,deep,v8,dE,jf,o9]
  have o6:∀(t:T) (J:aj) (cl:C) (ts:List (List aE)),t.g 2=.c (.ptr 0 0 0)->t.g 4=.c (.ptr 1 0 0)->SJ J cl ts->NT Nb m L ts->WP tab 67 ab [.code qU] ⟨t,[.gB 2],J⟩ Q:=by
   intro t J cl ts B Y K hN;apply an;apply ai;simp;refine az ?_;refine bT (λn s=>∃(t:T) (J:aj) (cl:C) (ts:List (List aE)) (jn:Bool),s=⟨t,[.gB 2],J⟩/\n=(if jn then ts.length+1 else 0)/\t.g 2=.c (.ptr 0 0 0)/\t.g 4=.c (.ptr 1 0 0)/\t.g 6=vb jn/\SJ J cl ts/\NT Nb m L ts) (ts.length+1)
    ⟨_,J,cl,ts,ae,rfl,rfl,by simp[B],by simp[Y],by simp,K,hN⟩ ?_
   clear K hN B Y;rintro n s ⟨t,J,cl,ts,jn,rfl,rfl,B,Y,g6,K,hN⟩ ih;apply an;apply ai;simp[g6];cases jn with
   |false=>
    refine aA (by simp) ?_;exact aS rfl (t_ _ J cl ts (by simp[B]) (by simp[Y]) K hN)
   |true=>
    refine au (by simp) (aJ ?_);refine az (iM ?_);apply ai;simp;refine an (mo ?_);have y_:=hN.len;obtain⟨M,hM⟩:=aQ (ts.length);have l1:bF J ab (.c (.ptr 1 0 0))=aa (.c cl):=by simp[bF,aK,K.h1]
    have ll:=K.lj.len;rw[<-hM]at ll;apply ai;simp[Y,l1,ll,-aD];refine cC M (λi t J'=>J'=J/\t.g 2=.c (.ptr 0 0 0)/\t.g 4=.c (.ptr 1 0 0)/\t.g 6=vb ag) (by omega) (by decide) (by decide) (by simp) (by simp) ⟨rfl,by simp[B],by simp[Y],by simp⟩ ?_ ?_
    .rintro i t J' hi ⟨rfl,B,Y,g6⟩ ha hb next
     refine az ?_;apply ai;simp[ha];apply ai;simp[aM (n:=(i:Int)+1)];refine az ?_;refine bT (λn s=>∃(j:Nat) (t':T),s=⟨t',[.gB 2],J'⟩/\n=M-j/\i<j/\j<=M/\t'.g 2=.c (.ptr 0 0 0)/\t'.g 4=.c (.ptr 1 0 0)/\t'.g 6=vb ag/\t'.g 7=vi i/\t'.g 8=vi j/\t'.g 27=t.g 27/\t'.g 28=t.g 28) (M-(i+1))
      ⟨i+1,_,rfl,rfl,by omega,by omega,by simp[B],by simp[Y],by simp[g6],by simp,by simp,by simp,by simp⟩ ?_
     rintro n s ⟨j,t',rfl,rfl,r7,hjM,f9,E,j7,d_,b_,a_,b7⟩ ih2;have r8:i<ts.length:=by omega
     obtain⟨bi,ei,ci,-,xi,li,n6⟩:=K.lj.at r8;have t7:=n6.len;apply an;apply ai;have i7:∀I:T,I.g 2=.c (.ptr 0 0 0)->I.g 4=.c (.ptr 1 0 0)->I.g 6=vb ag->I.g 27=t.g 27->I.g 28=t.g 28->WP tab 67 ab [.inBlock 5,.code (KR 28 97),.inLoop (pV 4 28 27 29 97 qX),.inBlock 4,.inScope qW,.inBlock 3,.inLoop qV,.inBlock 2,.code oo] ⟨I,[.gB 2],J'⟩ Q:=by
      intro I B Y g6 a_ b7;exact ay (next _ _ ⟨rfl,by simp[B],by simp[Y],by simp[g6]⟩ (by rw[b7,ha]) (by rw[a_,hb]))
     have skip:∀I:T,I.g 2=.c (.ptr 0 0 0)->I.g 4=.c (.ptr 1 0 0)->I.g 6=vb ag->I.g 7=vi i->I.g 8=vi j->I.g 27=t.g 27->I.g 28=t.g 28->j<M->WP tab 67 ab [.code wO,.inLoop wN,.inBlock 6,.inBlock 5,.code (KR 28 97),.inLoop (pV 4 28 27 29 97 qX),.inBlock 4,.inScope qW,.inBlock 3,.inLoop qV,.inBlock 2,.code oo] ⟨I,[.gB 2],J'⟩ Q:=by
      intro I B Y g6 g7 g8 a_ b7 hlt;refine aq (.inl rfl) ?_;simp[g8,aM (n:=(j:Int)+1)];exact ih2 (M-(j+1)) _ (by omega) ⟨j+1,_,rfl,rfl,by omega,by omega,by simp[B],by simp[Y],by simp[g6],by simp[g7],by simp,by simp[a_],by simp[b7]⟩
     by_cases hj:j<M
     .have aqT:(decide ((ts[i].length:Int)=1))=decide (ts[i].length=1):=by
       apply decide_eq_decide.2;omega
      simp[E,d_,b_,l1,ll,hj,xi,li,t7,-aD];by_cases h1:ts[i].length=1
      .obtain⟨p,hp⟩:∃p,ts[i]=[p]:=List.length_eq_one_iff.1 h1;rw[hp]at n6;obtain⟨qi,yi,zi⟩:=n6.one;have j9:j<ts.length:=by omega
       obtain⟨bj,ej,cj,-,xj,lj,n7⟩:=K.lj.at j9;have m8:=n7.len;refine au (by simp[h1]) (aJ ?_);apply an;refine az ?_;apply an;apply ai;by_cases h2:ts[j].length=1
       .obtain⟨p',o5⟩:∃p',ts[j]=[p']:=List.length_eq_one_iff.1 h2;rw[o5]at n7;obtain⟨qj,yj,zj⟩:=n7.one;have si:iG Nb p:=(hN.ok _ (aq7 r8)).2.2 p (by rw[hp];simp);have sj:iG Nb p':=(hN.ok _ (aq7 j9)).2.2 p' (by rw[o5];simp);have pi1:=(aY si.ok).2.2.1;have pj1:=(aY sj.ok).2.2.1;have pi2:=si.le;have pj2:=sj.le;have l_:=rB p p' pi1 (by omega) pj1 (by omega);obtain⟨dv,i6⟩:=aQ ((decide (p.aH % p'.aH=0)||decide (p'.aH % p.aH=0)):Bool);rw[<-i6]at l_;simp[E,d_,b_,l1,xi,li,xj,lj,m8,h2,yi,zi,yj,zj,-aD,mU,nq,<-dB,l_];cases dv with
        |false=>
         refine au (by simp) ?_;refine aS rfl ?_;exact skip _ (by simp[f9]) (by simp[E]) (by simp[j7]) (by simp[d_]) (by simp[b_]) (by simp[a_]) (by simp[b7]) hj
        |true=>
         have hd:p.aH % p'.aH=0\/p'.aH % p.aH=0:=by simpa using i6.symm
         have hR:∃R:Int,0<R/\R ∣ 27720/\R<=Nb/\p.aH ∣ R/\p'.aH ∣ R:=by
          rcases hd with h|h
          .exact⟨p.aH,by omega,si.aH,si.bd,asw _,asr h⟩
          .exact⟨p'.aH,by omega,sj.aH,sj.bd,asr h,asw _⟩
         obtain⟨R,R0,R1,R2,Ra,Rb⟩:=hR;obtain⟨q,c1,c2,c3,c4,t3⟩:=anh p p' si sj R0 R1 Ra Rb;have sq:iG Nb q:=⟨c1,by have:=si.fr;have:=sj.fr;omega,ar3 c3 R1,ar1 (ar2 R0 c3) R2⟩
         simp only[<-dB]at t3;have t4:(cM q).length=4:=rfl;obtain⟨J1,c5⟩:=aQ (J'++[cH.box (cM q) 0]);have b1:J1[J'.length]?=aa (.box (cM q) 0):=by rw[c5];simp
         have l9:bF J1 (aa 4) (.c (.ptr J'.length 0 0))=aa (.a (cM q)):=by simp[bF,aK,b1,bf,cM]
         refine ba (by simp) ?_;apply ai;simp[E,d_,b_,l1,xi,li,xj,lj,yi,zi,yj,zj,-aD,mU,nq,<-dB,t3,t4];rw[<-c5];apply ai;simp;refine au (by simp) ?_;have d5:SJ J1 cl ts:=by rw[c5];exact K.push _
         obtain⟨S,v⟩:=aQ (J1++[cH.box (cM q) 0]);have U:SJ S cl ts:=by rw[v];exact d5.push _
         have b2:S[J1.length]?=aa (.box (cM q) 0):=by rw[v];simp
         obtain⟨bb,ee,J3,c2,J4,m1,m2,m3,m4,m5,m6,u7⟩:=U.join r7 j9 (by omega) b2;have l1a:bF J1 ab (.c (.ptr 1 0 0))=aa (.c cl):=by simp[bF,aK,d5.h1]
         apply ai;simp[E,d_,l1a,l9,t4,-aD,<-v,m2,m3,-bC];have t9:((j+1:Nat):Int)=(j:Int)+1:=by omega
         rw[t9]at m5;apply ai;simp[E,b_,m4,-aD,aM (n:=(j:Int)+1),m5.eq,m6,-bC];apply ai;simp;have r9:((ts.set i [q]).eraseIdx j).length=ts.length-1:=by rw[ate,bw (by rw[arQ];omega),arQ]
         refine aS rfl (nP (ay (ih (((ts.set i [q]).eraseIdx j).length+1) _ (by simp;omega) ⟨_,_,c2,(ts.set i [q]).eraseIdx j,ae,rfl,by simp,by simp[f9],by simp[E],by simp,u7,⟨by omega,aal hN.ok w_ sq,λd q_=>?_⟩⟩)));rw[Y1 r7 j9 hp o5 c4 d q_];exact hN.mem d q_
       .simp[E,b_,l1,xj,lj,m8,show¬ (ts[j].length:Int)=1 by omega,-aD];refine au (by simp) ?_;refine aS rfl ?_;exact skip _ (by simp[f9]) (by simp[E]) (by simp[j7]) (by simp[d_]) (by simp[b_]) (by simp[a_]) (by simp[b7]) hj
      .refine aA (by simp;omega) ?_;refine aS rfl ?_;exact i7 _ (by simp[f9]) (by simp[E]) (by simp[j7]) (by simp[a_]) (by simp[b7])
     .simp[E,b_,l1,ll,hj,-aD];refine aA (by simp) ?_;refine aS rfl ?_;exact i7 _ (by simp[f9]) (by simp[E]) (by simp[j7]) (by simp[a_]) (by simp[b7])
    .rintro t J' ⟨rfl,B,Y,g6⟩ - -;refine nP (ay (ih 0 _ (by simp) ⟨_,J',cl,ts,ag,rfl,rfl,by simp[B],by simp[Y],by simp[g6],K,hN⟩))
  suffices go:∀s:T,s.g 2=.c (.ptr 0 0 0)->s.g 4=.c (.ptr 1 0 0)->s.g 14=.c (.f (.fn f d7))->WP tab 67 ab [.code AR,.inBlock 0,.code qU] ⟨s,[],[.box [.f .aw] 0,.box [.f .aw] 0]⟩ Q by exact go _ (by simp) (by simp) (by simp)
  intro s B Y u5;obtain⟨HR,f_⟩:=aQ ([.box [.f .aw] 0,.box [.f .aw] 0,.fj ae,.lp 67 s [P.nat 15] mR jC .ready ab 2]:aj);obtain⟨H2,he,cl,ts,hq,Z⟩:=hI 3 HR (λj J=>∃cl ts,yV s cl ts .ready J/\NT Nb m (L.take j) ts)
   ⟨.f .aw,[],⟨by rw[f_];rfl,by rw[f_];rfl,LR.nil _ _,(λh=>by cases h),(λi h=>by cases h),by rw[f_];rfl,by rw[f_];rfl⟩,⟨by simp,by simp,λd _=>by simp[cL]⟩⟩
   (λj hj J0 J c ⟨cl,ts,hq,Z⟩ hk r9 hT hc=>by
    have i8:L.take (j+1)=L.take j++[L[j]]:=by rw[arD,aq2 hj];rfl
    have hq':yV s cl ts .ready J:=hq.bE λi y hi u=>by rw[hk i hi];exact u
    have l3:=av hq.lp;have r_:=Z.len;rw[arT]at r_;obtain⟨r,H',v6,rfl,t8,ts',hq2,n8⟩:=vI Y (by omega) (show m<=64 by omega) (hL _ (aq7 hj)) hq' hT (λi hi=>by have:=hc i hi;omega) (λi hi v9=>by have:=hc i hi;have:=hq.lr.lt v9;omega);refine⟨H',v6,t8,ts',hq2,?_⟩;rw[i8];have hl2:(L.take j++[L[j]]).length=min j L.length+1:=by rw[ara,arT];rfl
    rcases n8 with⟨rfl,hno⟩|⟨t,rfl,ht,s7⟩
    .refine⟨by omega,Z.ok,λd hd=>?_⟩;rw[gn,jH,Z.mem d hd];exact⟨.inl,λh=>h.elim id λh=>absurd h (hno d hd)⟩
    .refine⟨by rw[ara,atq];omega,λx hx=>?_,λd hd=>?_⟩
     .rcases ard.1 hx with h|h
      .exact Z.ok x h
      .rw[arb]at h;rw[h];exact ht
     .rw[gn,gn,jH,jH,Z.mem d hd,s7 d hd])
  rw[arz]at Z;rw[f_]at he;refine gH (g:=f) (by rw[wX,u5];simp[bX]) he ?_;refine iL hq.lp (by decide) (ay ?_);have h3:=hq.three (st':=.exhausted);exact o6 s _ cl ts B Y ⟨h3.h0,h3.h1,h3.df,Y9 (λt ht=>(Z.ok t ht).1) h3.lr h3.ne⟩ Z
 exact⟨ts,g,hts,h.eq⟩
theorem pR(f:Nat)(b:List FC)(L:List (List aE))(l:tK f b L){m:Nat}(d:1<=m)(v:m<=4)(q:∀s∈L,yW Nb m s)(u:L.length<=64) :
  ∃ts g,NT Nb m L ts/\bH tab 67 [.c (.f (.fn f b))]=Eq (dE ts g):=by
 obtain⟨ts,g,j,h⟩:=nU f b L l d v q (by omega);rw[jf,bw (by have:=j.len;omega)]at h;exact⟨ts,g,j,h⟩
end
section
variable{Nb Mb:Int}
theorem dH{tab:TB}{fn:Nat}{b:Option Nat}{a:ax}{k:List cO}{s:St}{Q:Option ax->St->Prop}(h:WP tab fn b (.code a::.inLoop a::k) s Q):WP tab fn b (.code (.loop a)::k) s Q:=gT h λ_ _ _=>rfl
theorem ajQ{J:aj}{c:C}{sz:Nat}{rows:List (List FC)}(h:LR J c sz rows)(m:cd sz rows){j:Nat}(g:j<rows.length){row:List FC}(u:row.length=sz) :
  ∃b d J',aT c=aa b/\bg J sz ab (.c c) (vi j)=aa (.c (.ptr b (j*sz) d))/\dC J (.ptr b (j*sz) d) (row.map .f)=aa J'/\LR J' c sz (rows.set j row)/\J'.length=J.length/\∀i:Nat,i≠b->i<J.length->J'[i]?=J[i]?:=by
 rcases h with⟨rfl,_⟩|⟨s,b,d,rfl,l⟩
 .simp at g
 .obtain⟨J',v,x,y,z⟩:=l.str (row:=row) m g u;refine⟨b,d,J',rfl,l.at g,v,.inr ⟨λe=>?_,b,d,by simp,x⟩,z,λi hi q=>y.2 i hi q⟩;have:=congrArg List.length e;rw[arQ]at this;rw[this]at g;simp at g
theorem yx(ps:List aE)(j:Nat)(q:aE):(aC ps).set j q.row=aC (ps.set j q):=by simp[aC,List.map_set]
theorem yd(g:Tg)(ps:List aE)(Z:∀p∈ps,iG Nb p)(o:0<ps.length)(hl:ps.length<=64)(f:aE)(Y:iG Mb f) :
  ∃q g',iG 27720 q/\(∀d,0<=d->bz q d=(bz ps[0] d&&!bz f d))/\bH tab 69 [.c (.f (sl g (aC ps))),.a (f.row.map .f)]=Eq (.t [.c (.f (sl g' (aC (ps.set 0 q)))),vb ae]):=by
 have y:=Z _ (aq7 o);obtain⟨q,c1,c2,n,c4,m⟩:=X7 ps[0] f y Y (R:=27720) (by decide) (asw _) y.aH Y.aH;have sq:iG 27720 q:=⟨c1,by have:=y.fr;have:=Y.fr;omega,n,ar2 (by decide) n⟩
 obtain⟨r,⟨g',rfl⟩,h⟩:∃r,(∃g',r=.t [.c (.f (sl g' (aC (ps.set 0 q)))),vb ae])/\bH tab 69 [.c (.f (sl g (aC ps))),.a (f.row.map .f)] r:=by
  refine ey rfl rfl λQ hQ=>?_;have l:∀p,(cM p).length=4:=λ_=>rfl;have a:∀p,List.take 4 (cM p)=cM p:=λ_=>rfl;have K:=λH:aj=>bO (H:=H) (g:=g) (rows:=aC ps) (sz:=4) (k:=.i64) (i:=(0:Int)) (by omega) (by simp;omega);have s:=λH:aj=>dU (H:=H) (bh ps) (cG o);obtain⟨u,hu⟩:=aQ (ps[0]);rw[<-hu]at s m;simp only[<-dB]at s m;rw[Nat.zero_mul]at s;simp at K;have L:∀H:aj,aV H (.f (sl g (aC ps)))=aa ps.length:=λH=>by simp
  obtain⟨N,A⟩:=aQ ([.box (cM f) 0]:aj);have d0:∀J:aj,bF (N++J) (aa 4) (.c (.ptr 0 0 0))=aa (.a (cM f)):=λJ=>by rw[A];simp[bF,aK,bf,l,a]
  obtain⟨z,v⟩:=aQ (N++[.box (cM u) 0]:aj);have d1:bF z (aa 4) (.c (.ptr N.length 0 0))=aa (.a (cM u)):=by rw[v];simp[bF,aK,bf,l,a]
  have U:bF z (aa 4) (.c (.ptr 0 0 0))=aa (.a (cM f)):=by rw[v];exact d0 _
  obtain⟨O,B⟩:=aQ (z++[.box (cM q) 0]:aj);have e:O[z.length]?=aa (.box (cM q) 0):=by rw[B];simp
  apply ai;simp[l];rw[<-dB,<-A];apply an;apply ai;simp[L];refine az (dH ?_);apply ai;simp;refine an (au (by simp;omega) (aJ ?_));refine an (az ?_);apply ai;simp[K,s,-aD,l];rw[<-v];apply ai;simp[d1,U,-aD,mU,nq,m,l,<-dB];rw[<-B];apply ai;simp;refine au (by simp) ?_;obtain⟨r,H3,X,c,J,rfl,rfl,t,a8⟩:=xw (F:=113) (sz:=4) (zs:=[.aw,fi 0,fi 0,.aw]) (bytes:=64) (H:=O) (g:=g) (rows:=aC ps) aiS (by decide) (bh ps) (dW (by simp;omega) (by decide));apply ai;simp[X.eq];obtain⟨S,E⟩:=aQ (O++J);rw[<-E]at t ⊢;have b3:S[z.length]?=aa (.box (cM q) 0):=by rw[E,aq1 (av e)];exact e
  have d3:bF S (aa 4) (.c (.ptr z.length 0 0))=aa (.a (cM q)):=by simp[bF,aK,b3,bf,l,a]
  obtain⟨b,ep,w,e1,M,W,I,-,-⟩:=ajQ (j:=0) t (bh ps) (by simp;omega) (row:=q.row) rfl;rw[yx]at I;rw[<-dB]at W;simp only[Nat.zero_mul]at M W;have M:bg S 4 ab (.c c) (vi 0)=aa (.c (.ptr b 0 ep)):=M;apply ai;simp[d3,-aD,M,W,-bC,l];apply ai;simp;obtain⟨g',x⟩:=I.ex (bh _) 63;have x:eT 64 w c=aa (sl g' (aC (ps.set 0 q))):=x;refine aB (hQ _ _ _ ⟨g',rfl⟩ ⟨rfl,.t [.c c,vb ae],by simp[Km.results,bQ,aX],by simp[jy,de,aX,deep,x]⟩)
 exact⟨q,g',sq,c4,h.eq⟩
end
section
variable{Nb Mb:Int}
def eR(Nb:Int)(m n:Nat)(us:List (List aE)):Prop:=us.length<=n/\∀u∈us,yW Nb m u
theorem etr(us:List (List aE)):aU (us.map λs=>⟨.fs,s⟩)=aL us:=by simp[aU,aL,dc.row]
theorem oR{us:List (List aE)}(h:eR Nb 4 64 us):ko (us.map λs=>⟨.fs,s⟩)=ae:=by
 simp only[ko,aq3,decide_eq_true_eq,ars];refine⟨by rw[aro];have:=h.1;omega,λt j=>?_⟩;obtain⟨u,l,rfl⟩:=arx.1 j;obtain⟨b,m,d⟩:=h.2 u l;have:=arY.2 b;simp only[iR,aq3,decide_eq_true_eq,ars];exact⟨⟨by omega,by omega⟩,λp g=>(d p g).ok⟩
theorem gr(g:Tg){us:List (List aE)}(h:eR Nb 4 64 us):bH tab 23 [.a [.f (sl g (aL us))]]=Eq (vb ae):=by
 have b:=(Ad g (us.map λs=>⟨.fs,s⟩) (by have:=h.1;simp;omega) (Zk (oR h))).eq;rw[oR h,etr]at b;exact b
theorem eR.up{m n:Nat}{us:List (List aE)}(h:eR Nb m n us)(b:m<=4):eR Nb 4 n us:=⟨h.1,λu hu=>⟨(h.2 u hu).1,arB (h.2 u hu).2.1 b,(h.2 u hu).2.2⟩⟩
theorem iw(g:Tg)(us:List (List aE))(d:us.length<=1000000):tK 112 [.fp [sl g (aL us)] 0] us:=by
 have:=yR g (us.map λs=>⟨.fs,s⟩) (by simpa using d);have b:(us.map λs=>(⟨.fs,s⟩:dc)).map (·.fs)=us:=by rw[List.map_map];exact List.map_id _
 rw[etr,b]at this;exact this
def aiP(S:Int->Prop)(m:Nat)(r:V):Prop:=(∃ts g,eR 27720 m 64 ts/\(∀d,0<=d->(cL ts d↔S d))/\r=dE ts g)\/r=.t [.a [.f .aw],vi 2]
def MS(S:Int->Prop)(m:Nat)(o:FC)(e:Int):Prop:=(e=0/\∃ts g,o=sl g (aL ts)/\eR 27720 m 64 ts/\∀d,0<=d->(cL ts d↔S d))\/(e=2/\o=.aw)
theorem iG.up{p:aE}(h:iG Nb p):iG 27720 p:=⟨h.ok,h.fr,h.aH,h.le⟩
theorem yW.up{m:Nat}{t:List aE}(h:yW Nb m t):yW 27720 m t:=⟨h.1,h.2.1,λp b=>(h.2.2 p b).up⟩
theorem rS{m:Nat}{L ts:List (List aE)}(h:NT Nb m L ts)(g:Tg){S:Int->Prop}(l:∀d,0<=d->(cL L d↔S d)):∃o e,jf ts g=.t [.a [.f o],vi e]/\MS S m o e:=by
 by_cases b:ts.length<=64
 .exact⟨sl g (aL ts),0,by simp[jf,b,dE],.inl ⟨rfl,ts,g,rfl,⟨b,λt q=>(h.ok t q).up⟩,λd j=>by rw[h.mem d j,l d j]⟩⟩
 .exact⟨.aw,2,by simp[jf,b],.inr ⟨rfl,rfl⟩⟩
theorem Z7{s:List aE}(u:0<s.length){q f:aE}{d:Int}(m:bz q d=(bz s[0] d&&!bz f d)):eQ (s.set 0 q) d↔eQ s d/\bz f d=ag:=by
 cases s with
 |nil=>simp at u
 |cons a l=>
  have m:bz q d=(bz a d&&!bz f d):=m;simp only[List.set_cons_zero,eQ,arM,forall_eq_or_imp,m,aq3,asy];constructor
  .rintro⟨⟨b,g⟩,j⟩;exact⟨⟨b,j⟩,g⟩
  .rintro⟨⟨b,j⟩,g⟩;exact⟨⟨b,g⟩,j⟩
theorem afN{J:aj}{c:C}{L:List (List aE)}(h:LR J c 1 (aL L))(E:L.length<=1000000)(s:List aE) :
  ∃m g,bJ (J++[.box [.f (sl .fs (aC s))] 0]) 1 24 (.c c) (.c (.sl J.length 0 1 1 0 1))=aa (.c m,g)/\LR g m 1 (aL (L++[s]))/\∀(i:Nat) cs q,J[i]?=aa (.box cs q)->g[i]?=aa (.box cs q):=by
 obtain⟨u,b⟩:=aQ (J++[.box ([sl .fs (aC s)].map .f) 0]:aj);have j:LR u c 1 (aL L):=by rw[b];exact h.push _
 have x:u[J.length]?=aa (.box ([sl .fs (aC s)].map .f) 0):=by rw[b];simp
 obtain⟨m,g,d,l,v,B⟩:=j.app (du L) (by decide) (row:=[sl .fs (aC s)]) rfl (bytes:=24) (by simp[cJ,aL];omega) x;have A:aL L++[[sl .fs (aC s)]]=aL (L++[s]):=by simp[aL]
 rw[A]at l;refine⟨m,g,by rw[b]at d;exact d,l,λi cs q z=>?_⟩;have y:u[i]?=aa (.box cs q):=by rw[b,aq1 (av z)];exact z
 exact v.2 i _ y (j.bI y)
theorem AX{ts:List (List aE)}{i:Nat}(hi:i<ts.length)(d:Int):cL (ts.take (i+1)) d↔cL (ts.take i) d\/eQ ts[i] d:=by
 rw[arD,aq2 hi];show cL (ts.take i++[ts[i]]) d↔_;rw[gn,jH]
theorem uD{m:Nat}(l_:1<=m)(hm:m<=4)(ga Z:Tg)(us u:List (List aE))(ha:eR Nb m 64 us)(hb:eR Mb 4 64 u) :
  ∃r,aiP (λd=>cL us d/\¬ cL u d) m r/\bH tab 25 [.a [.f (sl ga (aL us))],.a [.f (sl Z (aL u))]]=Eq r:=by
 have s_:=gr ga (ha.up hm);have t3:=gr Z hb;obtain⟨r,v,l⟩:∃r,aiP (λd=>cL us d/\¬ cL u d) m r/\bH tab 25 [.a [.f (sl ga (aL us))],.a [.f (sl Z (aL u))]] r:=by
  refine ey rfl rfl λQ hQ=>?_;have t5:=ha.1;have t6:=hb.1;have d6:∀(g:Tg) (us:List (List aE)) (H:aj),aV H (.f (sl g (aL us)))=aa us.length:=λg us H=>by simp[aL]
  apply ai;simp;obtain⟨HA,F⟩:=aQ ([.box [.f (sl ga (aL us))] 0,.box [.f (sl Z (aL u))] 0,.box [.f .aw] 0]:aj);rw[<-F];have a2:HA[2]?=aa (.box [.f .aw] 0):=by rw[F];rfl
  have al:HA.length=3:=by rw[F];rfl
  have l0:bF HA (aa 1) (.c (.ptr 0 0 0))=aa (.a [.f (sl ga (aL us))]):=by rw[F];simp[bF,aK,bf]
  have l1:bF HA (aa 1) (.c (.ptr 1 0 0))=aa (.a [.f (sl Z (aL u))]):=by rw[F];simp[bF,aK,bf]
  have n0:bF HA ab (.c (.ptr 0 0 0))=aa (.c (.f (sl ga (aL us)))):=by rw[F];simp[bF,aK]
  have n1:∀J:aj,bF (HA++J) ab (.c (.ptr 1 0 0))=aa (.c (.f (sl Z (aL u)))):=λJ=>by rw[F];simp[bF,aK]
  apply an;apply ai;simp[l0,l1,-aD,s_,t3];refine ba (by simp) ?_;have a_:=kG (sl ga (aL us));obtain⟨t7,g0,m_,N⟩:=nU 112 [.fp [sl ga (aL us)] 0] us (iw ga us (by omega)) l_ hm ha.2 (by omega);obtain⟨o0,e0,n6,m7⟩:=rS m_ g0 (S:=λd=>cL us d/\¬ cL (u.take 0) d) λd _=>by simp[cL]
  rw[n6]at N;apply ai;simp[n0,-aD,a_,N];obtain⟨HB,b7⟩:=aQ (HA++[.box [.f o0] 0]:aj);have b2:HB[2]?=aa (.box [.f .aw] 0):=by rw[b7,aq1 (by omega)];exact a2
  have b3:HB[3]?=aa (.box [.f o0] 0):=by rw[b7,arc (by omega)];simp[al]
  have n1:bF HB ab (.c (.ptr 1 0 0))=aa (.c (.f (sl Z (aL u)))):=by rw[b7];exact n1 _
  rw[<-b7,al];apply an;apply ai;simp[n1,-aD,d6];refine cC u.length (λj t J=>t.g 2=.c (.ptr 0 0 0)/\t.g 4=.c (.ptr 2 0 0)/\t.g 6=.c (.ptr 3 0 0)/\t.g 34=.c (.f (sl Z (aL u)))/\J[2]?=aa (.box [.f .aw] 0)/\∃o e,t.g 7=vi e/\J[3]?=aa (.box [.f o] 0)/\MS (λd=>cL us d/\¬ cL (u.take j) d) m o e) (by omega) (by decide) (by decide) (by simp) (by simp)
   ⟨by simp,by simp,by simp,by simp,b2,o0,e0,by simp,b3,m7⟩ ?_ ?_
  .rintro j t J hj ⟨g2,M,W,b,U,o,e,g7,Y,c5⟩ i_ p_ next
   have o5:=λH:aj=>bO (H:=H) (g:=Z) (rows:=aL u) (sz:=1) (k:=.i64) (i:=(j:Int)) (by omega) (by simp[aL];omega);have h_:=λH:aj=>fF (H:=H) (du u) (j:=j) (row:=[sl .fs (aC u[j])]) (by simp[aL,hj]) rfl;simp at o5 h_;have f8:=hb.2 _ (aq7 hj);have n_:∀d,cL (u.take (j+1)) d↔cL (u.take j) d\/eQ u[j] d:=AX hj;obtain⟨fb,j_⟩:=aQ (u[j]);rw[<-j_]at h_ f8 n_;refine az ?_;apply ai;simp[i_,b,o5,h_,-aD];apply an;apply ai;simp[g7];rcases c5 with⟨rfl,ts,g,rfl,o4,s7⟩|⟨rfl,rfl⟩
   case inr=>
    refine au (by simp) ?_;have s2:dC J (.ptr 2 0 0) [.f .aw]=aa (J.set 2 (.box [.f .aw] 0)):=by simp[dC,U,bR]
    apply ai;simp[M,g7,s2,-bC];refine aB (hQ _ _ _ (.inr rfl) ⟨rfl,.t [.a [.f .aw],vi 2],?_,by simp[jy,de,aX]⟩);have k2:(J.set 2 (.box [.f .aw] 0))[2]?=aa (.box [.f .aw] 0):=aq6 (av U);simp[Km.results,bQ,aX,M,k2,bf]
   refine ba (by simp) ?_;have l3:bF J ab (.c (.ptr 3 0 0))=aa (.c (.f (sl g (aL ts)))):=by simp[bF,aK,Y]
   have r7:=o4.1;have m9:=f8.2.1;apply ai;simp;apply an;apply ai;simp[W,l3,-aD,d6];refine cC ts.length (λi X J'=>X.g 2=.c (.ptr 0 0 0)/\X.g 4=.c (.ptr 2 0 0)/\X.g 6=.c (.ptr 3 0 0)/\X.g 34=.c (.f (sl Z (aL u)))/\X.g 35=t.g 35/\X.g 36=t.g 36/\X.g 9=.c (.f (sl .fs (aC fb)))/\X.g 45=.c (.f (sl g (aL ts)))/\J'[2]?=aa (.box [.f .aw] 0)/\J'[3]?=aa (.box [.f (sl g (aL ts))] 0)/\∃cl L,X.g 10=.c cl/\LR J' cl 1 (aL L)/\L.length=i*fb.length/\(∀s∈L,yW 27720 m s)/\∀d,0<=d->(cL L d↔cL (ts.take i) d/\¬ eQ fb d)) (by omega) (by decide) (by decide) (by simp) (by simp)
    ⟨by simp[g2],by simp[M],by simp[W],by simp[b],by simp,by simp,by simp,by simp,U,Y,.f .aw,[],by simp,LR.nil _ _,by simp,by simp,λd _=>by simp[cL]⟩ ?_ ?_
   .rintro i X J' hi ⟨g2,M,W,b,A,B,g9,E,U,Y,cl,L,g10,hL,a8,I,z⟩ c6 j9 i8;have o6:=λH:aj=>bO (H:=H) (g:=g) (rows:=aL ts) (sz:=1) (k:=.i64) (i:=(i:Int)) (by omega) (by simp[aL];omega);have i6:=λH:aj=>fF (H:=H) (du ts) (j:=i) (row:=[sl .fs (aC ts[i])]) (by simp[aL,hi]) rfl;simp at o6 i6;have hs:=o4.2 _ (aq7 hi);have c_:∀d,cL (ts.take (i+1)) d↔cL (ts.take i) d\/eQ ts[i] d:=AX hi;obtain⟨s,r_⟩:=aQ (ts[i]);rw[<-r_]at i6 hs c_;have o8:∀H:aj,aV H (.f (sl .fs (aC fb)))=aa fb.length:=λH=>by simp
    have t4:i*fb.length<=64*4:=Nat.mul_le_mul (by omega) m9;refine az ?_;apply ai;simp[c6,E,o6,i6,-aD];apply ai;simp[g9,o8];refine cC fb.length (λk w K=>w.g 2=.c (.ptr 0 0 0)/\w.g 4=.c (.ptr 2 0 0)/\w.g 6=.c (.ptr 3 0 0)/\w.g 34=.c (.f (sl Z (aL u)))/\w.g 35=t.g 35/\w.g 36=t.g 36/\w.g 9=.c (.f (sl .fs (aC fb)))/\w.g 45=.c (.f (sl g (aL ts)))/\w.g 46=X.g 46/\w.g 47=X.g 47/\w.g 12=.c (.f (sl .fs (aC s)))/\w.g 51=.c (.f (sl .fs (aC fb)))/\K[2]?=aa (.box [.f .aw] 0)/\K[3]?=aa (.box [.f (sl g (aL ts))] 0)/\∃cl L,w.g 10=.c cl/\LR K cl 1 (aL L)/\L.length=i*fb.length+k/\(∀s∈L,yW 27720 m s)/\∀d,0<=d->(cL L d↔(cL (ts.take i) d/\¬ eQ fb d)\/(eQ s d/\∃p∈fb.take k,bz p d=ag))) (by omega) (by decide) (by decide) (by simp) (by simp)
     ⟨by simp[g2],by simp[M],by simp[W],by simp[b],by simp[A],by simp[B],by simp[g9],by simp[E],by simp,by simp,by simp,by simp,U,Y,cl,L,by simp[g10],hL,by omega,I,λd hd=>by rw[z d hd];simp⟩ ?_ ?_
    .rintro k w K hk ⟨g2,M,W,b,A,B,g9,E,d8,d9,d7,d_,U,Y,cl,L,g10,hL,a8,I,z⟩ j4 q_ i9;have o7:=λH:aj=>bO (H:=H) (g:=.fs) (rows:=aC fb) (sz:=4) (k:=.i64) (i:=(k:Int)) (by omega) (by simp;omega);have i7:=λH:aj=>dU (H:=H) (bh fb) (cG hk);simp only[ar7]at o7;have c9:=f8.2.2 _ (aq7 hk);have d5:fb.take (k+1)=fb.take k++[fb[k]]:=by rw[arD,aq2 hk];rfl
     obtain⟨p,hp⟩:=aQ (fb[k]);rw[<-hp]at i7 c9 d5;have n9:=arY.2 hs.1;obtain⟨q,g',sq,r9,g_⟩:=yd .fs s hs.2.2 n9 (by have:=hs.2.1;omega) p c9;have f_:s.set 0 q≠[]:=λe=>by
      have:=congrArg List.length e;rw[arQ,List.length_nil]at this;omega
     rw[og f_ g',<-og f_ .fs]at g_;have n8:∀p,(cM p).length=4:=λ_=>rfl;have tk:∀p,List.take 4 (cM p)=cM p:=λ_=>rfl;simp only[<-dB]at i7 g_;obtain⟨K1,b_⟩:=aQ (K++[cH.box (cM p) 0]);have c1:K1[K.length]?=aa (.box (cM p) 0):=by rw[b_];simp
     have d1:bF K1 (aa 4) (.c (.ptr K.length 0 0))=aa (.a (cM p)):=by simp[bF,aK,c1,bf,n8,tk]
     have o9:∀(i:Nat) y,K[i]?=aa y->K1[i]?=aa y:=λi y hy=>by rw[b_,aq1 (av hy)];exact hy
     have o_:LR K1 cl 1 (aL L):=by rw[b_];exact hL.push _
     obtain⟨c3,H3,j8,p8,k_⟩:=afN o_ (by omega) (s.set 0 q);refine az ?_;apply ai;simp[j4,d_,o7,i7,-aD,n8];rw[<-b_];apply ai;simp[d7,d1,-aD,mU,nq,<-dB,g_];apply an;apply ai;simp;refine ba (by simp) ?_;refine aq (.inl rfl) ?_;simp[g10,j8];refine ay (i9 _ _ ?_ (by simp[j4]) (by simp[q_]));refine⟨by simp[g2],by simp[M],by simp[W],by simp[b],by simp[A],by simp[B],by simp[g9],by simp[E],by simp[d8],by simp[d9],by simp[d7],by simp[d_],k_ _ _ _ (o9 _ _ U),k_ _ _ _ (o9 _ _ Y),c3,_,by simp,p8,by rw[ara,atq];omega,λx hx=>?_,λd hd=>?_⟩
     .rcases ard.1 hx with h|h
      .exact I x h
      .rw[arb]at h;rw[h];exact⟨f_,by rw[arQ];exact hs.2.1,λy hy=>(ata hy).elim (λh=>(hs.2.2 y h).up) λe=>e▸sq⟩
     .rw[gn,jH,z d hd,Z7 n9 (r9 d hd),or_assoc];refine or_congr_right ?_;rw[d5];constructor
      .rintro(⟨v,x,hx,l⟩|⟨v,l⟩)
       .exact⟨v,x,ar4 _ hx,l⟩
       .exact⟨v,p,by simp,l⟩
      .rintro⟨v,x,hx,l⟩;rcases ard.1 hx with h|h
       .exact .inl ⟨v,x,h,l⟩
       .rw[arb]at h;rw[h]at l;exact .inr ⟨v,l⟩
    .rintro w K ⟨g2,M,W,b,A,B,g9,E,d8,d9,d7,d_,U,Y,cl,L,g10,hL,a8,I,z⟩ - -;rw[arz]at z;refine ay (i8 _ _ ?_ (by simp[d9,c6]) (by simp[d8,j9]));refine⟨by simp[g2],by simp[M],by simp[W],by simp[b],by simp[A],by simp[B],by simp[g9],by simp[E],U,Y,cl,L,by simp[g10],hL,by rw[a8,arF];omega,I,λd hd=>?_⟩;rw[z d hd,c_];have r8:(¬ eQ fb d)↔∃p∈fb,bz p d=ag:=by
      simp only[eQ];constructor
      .intro h;refine Decidable.byContradiction λhc=>h λp hp=>?_;cases hk:bz p d with
       |true=>rfl| false=>exact absurd ⟨p,hp,hk⟩ hc
      .rintro⟨p,hp,h⟩ j7;rw[j7 p hp]at h;exact absurd h (by decide)
     rw[<-r8];constructor
     .rintro(⟨v,l⟩|⟨v,l⟩)
      .exact⟨.inl v,l⟩
      .exact⟨.inr v,l⟩
     .rintro⟨v|v,l⟩
      .exact .inl ⟨v,l⟩
      .exact .inr ⟨v,l⟩
   .rintro X J' ⟨g2,M,W,b,A,B,g9,E,U,Y,cl,L,g10,hL,a8,I,z⟩ - -;rw[arz]at z;have p9:L.length<=1000:=by
     rw[a8];exact arB (Nat.mul_le_mul r7 m9) (by decide)
    obtain⟨go,f9⟩:=hL.ex (du L) 63;have f9:eT 64 J' cl=aa (sl go (aL L)):=f9;have a_:=kG (sl go (aL L));obtain⟨t8,g1,n5,O⟩:=nU 112 [.fp [sl go (aL L)] 0] L (iw go L (by omega)) l_ hm I p9;obtain⟨o1,e1,n7,m8⟩:=rS n5 g1 (S:=λd=>cL us d/\¬ cL (u.take (j+1)) d) λd hd=>by
     rw[z d hd,s7 d hd,n_];constructor
     .rintro⟨⟨v,l⟩,h3⟩;exact⟨v,λh=>h.elim l h3⟩
     .rintro⟨v,l⟩;exact⟨⟨v,λh=>l (.inl h)⟩,λh=>l (.inr h)⟩
    rw[n7]at O;obtain⟨J2,e_⟩:=aQ (fk 64 cl J');have m2:J2[2]?=aa (.box [.f .aw] 0):=by rw[e_];exact hL.x.Zl 63 U
    have m3:J2[3]?=aa (.box [.f (sl g (aL ts))] 0):=by rw[e_];exact hL.x.Zl 63 Y
    have s3:dC J2 (.ptr 3 0 0) [.f o1]=aa (J2.set 3 (.box [.f o1] 0)):=by simp[dC,m3,bR]
    refine aq (.inl rfl) ?_;simp[W,g10,f9,deep,a_,O,<-e_,s3,-bC];refine ay (next _ _ ?_ (by simp[B,i_]) (by simp[A,p_]));exact⟨by simp[g2],by simp[M],by simp[W],by simp[b],by rw[aq0 (by omega)];exact m2,o1,e1,by simp,aq6 (av m3),m8⟩
  .rintro t J ⟨g2,M,W,b,U,o,e,g7,Y,c5⟩ - -;rw[arz]at c5;have l3:bF J (aa 1) (.c (.ptr 3 0 0))=aa (.a [.f o]):=by simp[bF,aK,Y,bf]
   have s2:dC J (.ptr 2 0 0) [.f o]=aa (J.set 2 (.box [.f o] 0)):=by simp[dC,U,bR]
   have k2:(J.set 2 (.box [.f o] 0))[2]?=aa (.box [.f o] 0):=aq6 (av U);apply ai;simp[M,W,g7,l3,-aD,s2,-bC];refine aB (hQ _ _ (.t [.a [.f o],vi e]) ?_ ⟨rfl,.t [.a [.f o],vi e],?_,by simp[jy,de,aX]⟩)
   .rcases c5 with⟨rfl,ts,g,rfl,v,l⟩|⟨rfl,rfl⟩
    .exact .inl ⟨ts,g,v,l,rfl⟩
    .exact .inr rfl
   .simp[Km.results,bQ,aX,M,k2,bf]
 exact⟨r,v,l.eq⟩
end
section
variable{Nb:Int}
end
def mE(ss ts:List (List aE)):List (List aE):=(ss.map λs=>ts.map λt=>s++t).flatten
theorem pS{ss ts:List (List aE)}{x:List aE}:x∈mE ss ts↔∃s∈ss,∃t∈ts,x=s++t:=by
 unfold mE;rw[List.mem_flatten];constructor
 .rintro⟨l,g,j⟩;obtain⟨s,b,rfl⟩:=arx.1 g;obtain⟨t,d,rfl⟩:=arx.1 j;exact⟨s,b,t,d,rfl⟩
 .rintro⟨s,b,t,d,rfl⟩;exact⟨_,arx.2 ⟨s,b,rfl⟩,arx.2 ⟨t,d,rfl⟩⟩
theorem uH(ss ts:List (List aE)):(mE ss ts).length=ss.length*ts.length:=by
 unfold mE;induction ss with
 |nil=>simp| cons s ss b=>rw[arf,arv,ara,b,aro,ar0,Nat.succ_mul,Nat.add_comm]
theorem ZD{ss ts:List (List aE)}{i k:Nat}(hi:i<ss.length)(d:k<ts.length):(mE ss ts)[i*ts.length+k]?=aa (ss[i]++ts[k]):=by
 have h:=rH (rows:=ss.map λs=>ts.map λt=>s++t) (sz:=ts.length) (j:=i) (row:=ts.map λt=>ss[i]++t) (λr g=>by
  obtain⟨s,-,rfl⟩:=arx.1 g;simp) (by simp[hi])
 have b:(ts.map λt=>ss[i]++t)[k]?=aa (ss[i]++ts[k]):=by simp[d]
 rw[<-h,List.getElem?_take,bw d,List.getElem?_drop]at b;exact b
theorem ZE(x y:FC):bH tab 92 [.a [.f x],.a [.f y]]=Eq (.c (.f (.fn 131 [.fp [x] 0,.fp [y] 0]))):=by
 refine bH.eq (bD rfl rfl λQ b=>?_);apply ai;simp;apply ai;simp;refine aB (b _ _ ?_);simp[deep]
theorem An(g g':Tg)(ss ts:List dc)(hs:ss.length<=1000)(ht:ts.length<=1000)(c5:∀s∈ss,s.fs.length<=1000)(c6:∀t∈ts,t.fs.length<=1000) :
  tK 131 [.fp [sl g (aU ss)] 0,.fp [sl g' (aU ts)] 0] (mE (ss.map (·.fs)) (ts.map (·.fs))):=by
 intro b H PP h0 hy;have y:(mE (ss.map (·.fs)) (ts.map (·.fs))).length=ss.length*ts.length:=by rw[uH,aro,aro]
 have W:∀H:aj,aV H (.f (sl g (aU ss)))=aa ss.length:=λH=>by simp
 have X:∀H:aj,aV H (.f (sl g' (aU ts)))=aa ts.length:=λH=>by simp
 obtain⟨r,Y,he,rfl,h⟩:∃r Y,Ev tab (.fn 131) [.c (.yl b),.c (.f (.fp [sl g (aU ss)] 0)),.c (.f (.fp [sl g' (aU ts)] 0))] H r Y/\(r=.t []/\PP (ss.length*ts.length) Y):=by
  refine cz rfl rfl λQ hQ=>?_;apply ai;simp[Bl,W];refine cC ss.length (λi s J=>s.g 0=.c (.yl b)/\s.g 2=.c (.f (.fp [sl g' (aU ts)] 0))/\s.g 9=.c (.f (sl g (aU ss)))/\PP (i*ts.length) J) (by omega) (by decide) (by decide) (by simp) (by simp) ⟨by simp,by simp,by simp,by simpa using h0⟩ ?_ ?_
  .rintro i s J hi ⟨A,I,K,L⟩ n hb next
   have z:=λH:aj=>fF (H:=H) (fP ss) (hO (l:=ss) (j:=i) hi) rfl;have v:=λH:aj=>bO (H:=H) (g:=g) (rows:=aU ss) (sz:=1) (k:=.i64) (i:=i) (by omega) (by simpa using hi);simp at z v;refine az ?_;apply ai;simp[K,n,v,z];apply ai;simp[I,Bl,X];refine cC ts.length (λk u J=>u.g 0=.c (.yl b)/\u.g 2=.c (.f (.fp [sl g' (aU ts)] 0))/\u.g 9=.c (.f (sl g (aU ss)))/\u.g 5=.c (.f (sl ss[i].tg (aC ss[i].fs)))/\u.g 16=.c (.f (sl g' (aU ts)))/\u.g 10=s.g 10/\u.g 11=s.g 11/\PP (i*ts.length+k) J) (by omega) (by decide) (by decide) (by simp) (by simp)
    ⟨by simp[A],by simp[I],by simp[K],by simp,by simp,by simp,by simp,by simpa using L⟩ ?_ ?_
   .rintro k u J a ⟨A,I,K,f,E,g10,B,L⟩ U o O;have m:=λH:aj=>fF (H:=H) (fP ts) (hO (l:=ts) (j:=k) a) rfl;have d:=λH:aj=>bO (H:=H) (g:=g') (rows:=aU ts) (sz:=1) (k:=.i64) (i:=k) (by omega) (by simpa using a);simp at m d;have b7:i*ts.length+k<(mE (ss.map (·.fs)) (ts.map (·.fs))).length:=by
     rw[y];have:(i+1)*ts.length<=ss.length*ts.length:=Nat.mul_le_mul_right _ hi;rw[arF,atg]at this;omega
    have w:(mE (ss.map (·.fs)) (ts.map (·.fs)))[i*ts.length+k]=ss[i].fs++ts[k].fs:=by
     have:=ZD (ss:=ss.map (·.fs)) (ts:=ts.map (·.fs)) (i:=i) (k:=k) (by simpa using hi) (by simpa using a);simp only[aro,as2]at this;exact(List.getElem?_eq_some_iff.1 this).2
    have d5:=c5 _ (aq7 hi);have d6:=c6 _ (aq7 a);obtain⟨Z,q⟩:=aQ (J++[cH.box [.f (sl ss[i].tg (aC ss[i].fs)),.f (sl ts[k].tg (aC ts[k].fs))] 0]);have b1:Z[J.length]?=aa (.box [.f (sl ss[i].tg (aC ss[i].fs)),.f (sl ts[k].tg (aC ts[k].fs))] 0):=by rw[q];simp
    have b_:aC (ss[i].fs++ts[k].fs)=aC ss[i].fs++aC ts[k].fs:=by simp[aC]
    obtain⟨r,e,N,c,rfl,M,a_,c_,p⟩:=pL (tab:=tab) (H:=Z) (F:=132) (G:=194) (sz:=4) (bytes:=64) (zs:=[.aw,fi 0,fi 0,.aw]) aiU aiZ (by decide) rfl (b:=J.length) [(.f (sl ss[i].tg (aC ss[i].fs)),aC ss[i].fs),(.f (sl ts[k].tg (aC ts[k].fs)),aC ts[k].fs)] b1 (by simp)
     (λx S=>by
      simp only[arM,atu,or_false]at S;rcases S with rfl|rfl
      .exact⟨bh _,λH' _=>⟨by simp,jF (bh _)⟩⟩
      .exact⟨bh _,λH' _=>⟨by simp,jF (bh _)⟩⟩)
     (by simp;omega) (dW (by simp;omega) (by decide))
    have M:LR e c 4 (aC (ss[i].fs++ts[k].fs)):=by
     rw[b_];simpa using M
    have c9:Z.length=J.length+1:=by rw[q];simp
    obtain⟨J3,a8,h⟩:=hy (i*ts.length+k) b7 J e c L (λx S=>by rw[a_ x (by omega),q,aq1 S]) (by omega) (by rw[w];exact .inr M) (λx S=>by have:=p x S;omega);have N:Ev tab (.fn 132) [.c (.sl J.length 0 2 2 0 1)] Z (.c c) e:=N;refine az ?_;apply ai;simp[U,E,d,m];apply an;refine aq (.inl rfl) ?_;simp[A,f,<-q,N.eq,a8.eq];refine ba (by simp) ?_;refine ay (O _ _ ?_ (by simp[U]) (by simp[o]));exact⟨by simp[A],by simp[I],by simp[K],by simp[f],by simp[E],by simp[g10],by simp[B],h⟩
   .rintro u J ⟨A,I,K,f,E,g10,B,L⟩ - -;refine ay (next _ _ ⟨by simp[A],by simp[I],by simp[K],?_⟩ (by simp[B,n]) (by simp[g10,hb]));rw[arF,atg];exact L
  .rintro s J ⟨A,I,K,L⟩ n hb;exact cW (hQ _ _ _ rfl rfl ⟨rfl,L⟩)
 exact⟨Y,he,by rw[y];exact h⟩
theorem uL:∀{l:List aE},(∀p∈l,iG 12 p)->1<=ff l/\ff l<=12 ^ l.length
 |[],_=>by simp[ff]
 |p::l,h=>by
  have b:=h p arl;have g:=(aY b.ok).2.2.1;have d:=b.bd;obtain⟨j,m⟩:=uL λq u=>h q (arj _ u);simp only[ff,ar0];have v:=asS g j (by decide) (by omega);have s:=asS d m (by omega) (by decide);rw[Int.pow_succ,ar6];refine⟨by rw[ar6];omega,by rw[ar6];rw[ar6 (12 ^ l.length)];exact s⟩
theorem sJ:∀{l:List aE},(∀p∈l,iG 12 p)->cR l<=100000
 |[],_=>by simp[cR]
 |p::l,h=>by
  have d:=(h p arl).fr;have g:=sJ λq b=>h q (arj _ b);simp only[cR];omega
theorem KI{fs:List aE}(b:fs≠[])(g:fs.length<=4)(h:∀p∈fs,iG 12 p):ou fs:=by
 have m:=arY.2 b;refine⟨by omega,by omega,λp d=>(h p d).mod,?_,by have:=sJ h;omega⟩;have j:=(uL h).2;have l:(12:Int) ^ fs.length<=12 ^ 4:=by
  have:fs.length=1\/fs.length=2\/fs.length=3\/fs.length=4:=by omega
  rcases this with e|e|e|e<;>rw[e]<;>decide
 have:(12:Int) ^ 4=20736:=by decide
 omega
section
variable{Nb Mb:Int}
theorem aeU{m:Nat}{ps:List aE}(h:yW Nb m ps):((∀d,¬ ic ps 0 ps d)/\¬ kJ [] ps)↔∀d,0<=d->¬ eQ ps d:=by
 constructor
 .rintro⟨j,u⟩ d l;exact rq h.2.2 j u d l
 .intro s;refine⟨λd ⟨q,j,_⟩=>s d q ((lA q).1 j),λv=>?_⟩;have g:∀p∈ps,1<=p.aH/\p.aH ∣ 27720:=λp g=>⟨(aY (h.2.2 p g).ok).2.2.1,(h.2.2 p g).aH⟩
  obtain⟨d,x,y,l⟩:=yE g v;refine s (d+27720*4) (by omega) λp b=>?_;have:=(h.2.2 p b).fr;exact(mB (h.2.2 p b).mod (by omega)).2 (rL g l 4 p b)
theorem iG.mono{p:aE}(h:iG Nb p)(b:Nb<=Mb):iG Mb p:=⟨h.ok,h.fr,h.aH,ar1 h.bd b⟩
theorem yv(g g':Tg)(us b:List (List aE))(m:us.length<=1000)(q:b.length<=1000)(d:∀s∈us,s.length<=1000)(j:∀t∈b,t.length<=1000) :
  tK 131 [.fp [sl g (aL us)] 0,.fp [sl g' (aL b)] 0] (mE us b):=by
 have h:=An g g' (us.map λs=>⟨.fs,s⟩) (b.map λs=>⟨.fs,s⟩) (by simpa using m) (by simpa using q) (λs h=>by obtain⟨x,l,rfl⟩:=arx.1 h;exact d x l) (λs h=>by obtain⟨x,l,rfl⟩:=arx.1 h;exact j x l);have e:∀us:List (List aE),(us.map λs=>(⟨.fs,s⟩:dc)).map (·.fs)=us:=λus=>by rw[List.map_map];exact List.map_id _
 rw[etr,etr,e,e]at h;exact h
theorem afO{m1 m2 n1 n2:Nat}(f:1<=m1)(hm:m1+m2<=4)(hn:n1*n2<=64)(O:n1<=64)(S:n2<=64)(g g':Tg)(us A:List (List aE))(B:eR Nb m1 n1 us)(E:eR Nb m2 n2 A) :
  ∃F b,eR Nb (m1+m2) (n1*n2) F/\(∀d,0<=d->(cL F d↔cL us d/\cL A d))/\bH tab 53 [.a [.f (sl g (aL us))],.a [.f (sl g' (aL A))]]=Eq (dE F b):=by
 have l:eR Nb 4 64 us:=⟨arB B.1 O,λu z=>⟨(B.2 u z).1,by have:=(B.2 u z).2.1;omega,(B.2 u z).2.2⟩⟩
 have v:eR Nb 4 64 A:=⟨arB E.1 S,λu z=>⟨(E.2 u z).1,by have:=(E.2 u z).2.1;omega,(E.2 u z).2.2⟩⟩
 have M:=gr g l;have N:=gr g' v;have L:=ZE (sl g (aL us)) (sl g' (aL A));have J:=yv g g' us A (by have:=l.1;omega) (by have:=v.1;omega) (λs h=>by have:=(l.2 s h).2.1;omega) (λt h=>by have:=(v.2 t h).2.1;omega);have U:(mE us A).length<=n1*n2:=by
  rw[uH];exact Nat.mul_le_mul B.1 E.1
 obtain⟨F,b,I,K⟩:=pR _ _ _ J (m:=m1+m2) (by omega) (by omega) (λx k=>by
  obtain⟨s,j,t,q,rfl⟩:=pS.1 k;obtain⟨a1,o,W⟩:=B.2 s j;obtain⟨r,w,X⟩:=E.2 t q;refine⟨by simp[a1],by rw[ara];omega,λp i=>?_⟩;rcases ard.1 i with h|h
  .exact W p h
  .exact X p h) (by omega)
 refine⟨F,b,⟨by have:=I.len;omega,I.ok⟩,λd e=>(I.mem d e).trans ?_,bH.eq (bD rfl rfl λQ c=>?_)⟩
 .constructor
  .rintro⟨y,n,H⟩;obtain⟨s,j,t,q,rfl⟩:=pS.1 n;obtain⟨O,S⟩:=(gQ s t d).1 H;exact⟨⟨s,j,O⟩,⟨t,q,S⟩⟩
  .rintro⟨⟨s,H,Y⟩,⟨t,Z,a⟩⟩;exact⟨_,pS.2 ⟨_,H,_,Z,rfl⟩,(gQ s t d).2 ⟨Y,a⟩⟩
 .apply ai;simp;apply an;apply ai;simp[M,N];refine ba (by simp) ?_;apply ai;simp[L,K,dE];refine aB (c _ _ ?_);simp[dE]
noncomputable def zr (ps:List aE):Bool:=open Classical in decide (∀d,0<=d->¬ eQ ps d)
theorem ajr(g:Tg){ps:List aE}(h:yW Nb 4 ps):Kf tab 32 [.c (.f (sl g (aC ps)))] (vb (!zr ps)):=by
 have:=arY.2 h.1;obtain⟨b,l,d⟩:=tP g ps (λp m=>(h.2.2 p m).mod) (by omega) (by have:=h.2.1;omega);have e:b=zr ps:=by
  rw[Bool.eq_iff_iff,l,aeU h];simp[zr]
 rw[e]at d;refine dL rfl rfl λH Q j=>?_;apply ai;simp;apply ai;simp[d];refine aB (j _ _ ?_);simp
theorem nh(g:Tg){us:List (List aE)}(h:eR Nb 4 64 us):∃e:Bool,(e=ae↔∀d,0<=d->¬ cL us d)/\bH tab 8 [.a [.f (sl g (aL us))]]=Eq (vb e):=by
 have y:=(gd ve (iE vf us (λs=>[sl .fs (aC s)]) (λs=>.c (.f (sl .fs (aC s)))) (λs=>!zr s) g 32 [] (by have:=h.1;omega)
  (λj z H=>by
   have:=fF (H:=H) (du us) (j:=j) (row:=[sl .fs (aC us[j])]) (by simp[aL,z]) rfl;simpa[aL]using this)
  (λs A=>ajr .fs (h.2 s A)))).eq
 have m:bH tab 31 [.c (.f (sl g (aL us))),.c (.f (.fn 32 []))]=Eq (vb (us.any λs=>!zr s)):=y;have B:=gr g h;refine⟨!(us.any λs=>!zr s),?_,bH.eq (bD rfl rfl λQ x=>?_)⟩
 .simp only[asy,List.any_eq_false,zr];constructor
  .rintro b d q ⟨u,v,l⟩;have:=b u v;simp only[Bool.not_eq_false,decide_eq_true_eq]at this;exact this d q l
  .intro b u v;simp only[Bool.not_eq_false,decide_eq_true_eq];exact λd q l=>b d q ⟨u,v,l⟩
 .apply ai;simp;apply ai;simp[B,m];refine aB (x _ _ ?_);simp
end
section
variable{Nb Mb:Int}
theorem dO{m d n g:Nat}{us:List (List aE)}(h:eR Nb m n us)(j:Nb<=Mb)(l:m<=d)(q:n<=g):eR Mb d g us:=
 ⟨arB h.1 q,λu b=>⟨(h.2 u b).1,arB (h.2 u b).2.1 l,λp s=>((h.2 u b).2.2 p s).mono j⟩⟩
theorem ajV{m n1 n2:Nat}(W:1<=m)(U:m<=4)(hn:n1+n2<=64)(g g':Tg)(us l:List (List aE))(X:eR Nb m n1 us)(Y:eR Nb m n2 l) :
  ∃q j,eR Nb m (n1+n2) q/\(∀d,0<=d->(cL q d↔cL us d\/cL l d))/\bH tab 118 [.a [.f (sl g (aL us))],.a [.f (sl g' (aL l))]]=Eq (dE q j):=by
 have Z:=gr g (dO X (ar9 _) U (show n1<=64 by omega));have a:=gr g' (dO Y (ar9 _) U (show n2<=64 by omega));have a8:=X.1;have a_:=Y.1;obtain⟨r,⟨q,j,p,t,rfl⟩,h⟩:∃r,(∃q j,eR Nb m (n1+n2) q/\(∀d,0<=d->(cL q d↔cL us d\/cL l d))/\r=dE q j)/\bH tab 118 [.a [.f (sl g (aL us))],.a [.f (sl g' (aL l))]] r:=by
  refine ey rfl rfl λQ w=>?_;apply ai;simp;obtain⟨u,s⟩:=aQ ([.box [.f (sl g (aL us))] 0,.box [.f (sl g' (aL l))] 0,.box [.f .aw] 0]:aj);rw[<-s];have i:u[2]?=aa (.box [.f .aw] 0):=by rw[s];rfl
  have al:u.length=3:=by rw[s];rfl
  have l0:bF u (aa 1) (.c (.ptr 0 0 0))=aa (.a [.f (sl g (aL us))]):=by rw[s];simp[bF,aK,bf]
  have l1:bF u (aa 1) (.c (.ptr 1 0 0))=aa (.a [.f (sl g' (aL l))]):=by rw[s];simp[bF,aK,bf]
  have m0:bF u ab (.c (.ptr 0 0 0))=aa (.c (.f (sl g (aL us)))):=by rw[s];simp[bF,aK]
  have m1:bF u ab (.c (.ptr 1 0 0))=aa (.c (.f (sl g' (aL l)))):=by rw[s];simp[bF,aK]
  apply an;apply ai;simp[l0,l1,-aD,Z,a];refine ba (by simp) ?_;obtain⟨L,v⟩:=aQ (u++[cH.box [.f (sl g (aL us)),.f (sl g' (aL l))] 0]);have k:L[u.length]?=aa (.box [.f (sl g (aL us)),.f (sl g' (aL l))] 0):=by rw[v];simp
  have n:L[2]?=aa (.box [.f .aw] 0):=by rw[v,aq1 (by omega)];exact i
  have J:(aL us++aL l)=aL (us++l):=by simp[aL]
  obtain⟨r,E,z,c,rfl,y,S,-,-⟩:=pL (tab:=tab) (H:=L) (F:=161) (G:=208) (sz:=1) (bytes:=24) (zs:=[.aw]) aiV ai0 (by decide) rfl (b:=u.length) [(.f (sl g (aL us)),aL us),(.f (sl g' (aL l)),aL l)] k (by simp)
   (λx N=>by
    simp only[arM,atu,or_false]at N;rcases N with rfl|rfl
    .exact⟨du _,λf _=>⟨by simp,jF (du _)⟩⟩
    .exact⟨du _,λf _=>⟨by simp,jF (du _)⟩⟩)
   (by simp[aL];omega) (dW (by simp[aL];omega) (by decide))
  have y:LR E c 1 (aL (us++l)):=by
   rw[<-J];simpa using y
  have z:Ev tab (.fn 161) [.c (.sl u.length 0 2 2 0 1)] L (.c c) E:=z;have o:E[2]?=aa (.box [.f .aw] 0):=by rw[S 2 (by rw[v,ara];omega)];exact n
  obtain⟨go,A⟩:=y.ex (du _) 63;have A:eT 64 E c=aa (sl go (aL (us++l))):=A;have K:=kG (sl go (aL (us++l)));have b7:(us++l).length<=n1+n2:=by rw[ara];omega
  obtain⟨q,j,O,B⟩:=pR 112 [.fp [sl go (aL (us++l))] 0] (us++l) (iw go _ (by omega)) W U (λx N=>(ard.1 N).elim (X.2 x) (Y.2 x)) (by omega);obtain⟨M,I⟩:=aQ (fk 64 c E);have e:M[2]?=aa (.box [.f .aw] 0):=by rw[I];exact y.x.Zl 63 o
  have s2:dC M (.ptr 2 0 0) [.f (sl j (aL q))]=aa (M.set 2 (.box [.f (sl j (aL q))] 0)):=by simp[dC,e,bR]
  have k2:(M.set 2 (.box [.f (sl j (aL q))] 0))[2]?=aa (.box [.f (sl j (aL q))] 0):=aq6 (av e);apply ai;simp[m0,m1,-aD,<-v,z.eq,A,deep,K,B,dE,<-I,s2,-bC];refine aB (w _ _ _ ⟨q,j,⟨by have:=O.len;omega,O.ok⟩,λd hd=>by rw[O.mem d hd,gn],rfl⟩ ⟨rfl,dE q j,?_,by simp[dE,jy,de,aX]⟩);simp[Km.results,bQ,aX,k2,bf,dE]
 exact⟨q,j,p,t,h.eq⟩
theorem Ab:bH tab 8 [.a [.f .aw]]=Eq (vb ae):=by
 obtain⟨e,g,b⟩:=nh (Nb:=1) .nil (us:=[]) ⟨by simp,by simp⟩;have:e=ae:=g.2 λd _ ⟨t,j,_⟩=>by cases j
 rw[this]at b;exact b
theorem aqf(g:Tg)(us:List (List aE)):Rf 64 (sl g (aL us)):=Z1 g λr d x b=>by
 obtain⟨s,-,rfl⟩:=arx.1 d;rw[arb]at b;subst b;refine Z1 (n:=62) .fs λr d x b=>?_;obtain⟨p,-,rfl⟩:=arx.1 d;exact Z0 (n:=61) p x b
theorem anr(g:Tg)(us:List (List aE)):V.beq (.a [.f (sl g (aL us))]) (.a [.f (sl g (aL us))])=ae:=AY (xs:=[sl g (aL us)]) λx b=>by rw[arb.1 b];exact aqf g us
theorem Zo{m:Nat}(y:1<=m)(x:m<=4)(E F:Tg)(us u:List (List aE))(Y:eR Nb m 64 us)(Z:eR Mb m 64 u) :
  ∃(s:Bool) (e:Int),(e=0->(s=ae↔∀d,0<=d->(cL us d↔cL u d)))/\(e=0\/e=2)/\bH tab 9 [.a [.f (sl E (aL us))],.a [.f (sl F (aL u))]]=Eq (.t [vb s,vi e]):=by
 obtain⟨r1,L,z⟩:=uD y x E F us u Y (Z.up x);obtain⟨r2,H,A⟩:=uD y x F E u us Z (Y.up x);have B:∀{S:Int->Prop} {r:V},aiP S m r->∃o e,r=.t [.a [.f o],vi e]/\V.beq (.a [.f o]) (.a [.f o])=ae/\∃b:Bool,bH tab 8 [.a [.f o]]=Eq (vb b)/\((e=0/\(b=ae↔∀d,0<=d->¬ S d))\/(e=2/\o=.aw)):=λh=>by
  rcases h with⟨ts,g,L,H,rfl⟩|rfl
  .obtain⟨b,h3,h4⟩:=nh g (L.up x);exact⟨_,0,rfl,anr g ts,b,h4,.inl ⟨rfl,h3.trans ⟨λh d l hs=>h d l ((H d l).2 hs),λh d l ht=>h d l ((H d l).1 ht)⟩⟩⟩
  .exact⟨.aw,2,rfl,by simp[V.beq,C.beq,FC.beq],ae,Ab,.inr ⟨rfl,rfl⟩⟩
 obtain⟨o1,e1,rfl,q1,W,v,X⟩:=B L;obtain⟨o2,J,rfl,q2,b2,K,I⟩:=B H;have j:bH tab 34 [.a [.f (sl E (aL us))],.a [.f (sl F (aL u))]]=Eq (if e1=0 then .t [.a [.f o1],.a [.f o2],vi J]else .t [.a [.f .aw],.a [.f .aw],vi 2]):=bH.eq (by
  refine bD rfl rfl λQ q=>?_;apply ai;simp;apply ai;simp[z];apply an;apply ai;rcases X with⟨rfl,-⟩|⟨rfl,rfl⟩
  .simp;refine ba (by simp) ?_;apply ai;simp[A];refine an (eu (.inl rfl) ?_ ?_)
   case refine_2=>
    intro cc N;have M:cc=(1,4):=by simpa using N
    subst M;refine⟨by decide,_,rfl,.inl ⟨by decide,?_⟩⟩;simp[fY,q1,q2]
   simp;refine aB (q _ _ ?_);simp
  .simp;refine au (by simp) ?_;apply ai;simp;refine aB (q _ _ ?_);simp)
 rcases X with⟨rfl,w1⟩|⟨rfl,rfl⟩
 .rw[bw rfl]at j;refine⟨J=0&&(W&&b2),J,λO=>?_,?_,bH.eq (bD rfl rfl λQ q=>?_)⟩
  .subst O;rcases I with⟨-,w2⟩|⟨k,-⟩
   .simp only[decide_true,Bool.true_and,aq3,w1,w2];constructor
    .rintro⟨k1,k2⟩ d l;constructor
     .intro h;exact Classical.byContradiction λU=>k1 d l ⟨h,U⟩
     .intro h;exact Classical.byContradiction λU=>k2 d l ⟨h,U⟩
    .intro h;exact⟨λd l k=>k.2 ((h d l).1 k.1),λd l k=>k.2 ((h d l).2 k.1)⟩
   .exact absurd k (by decide)
  .rcases I with⟨k,-⟩|⟨k,-⟩
   .exact .inl k
   .exact .inr k
  .apply ai;simp;apply ai;simp[j];apply ai;rcases I with⟨rfl,-⟩|⟨rfl,-⟩
   .cases W
    .simp[v];exact aB (q _ _ (by simp))
    .simp[v,K];exact aB (q _ _ (by simp))
   .simp;exact aB (q _ _ (by simp))
 .rw[aR (by decide)]at j;refine⟨ag,2,λO=>absurd O (by decide),.inr rfl,bH.eq (bD rfl rfl λQ q=>?_)⟩;apply ai;simp;apply ai;simp[j];apply ai;simp;refine aB (q _ _ (by simp))
end
def zF(o:Int):List FC:=[fi 0,.fs [fi 7] 1,fi (-1),.aw,fi o,.aw,fi 0,.aw]
def eG(o:Int):FC:=.fp [fi 0,.fs [fi 7] 1,fi (-1),.aw,fi o,.aw,fi 0,.aw,.aw,fi 1] 0
theorem ap2:bH tab 101 [.a [.f (fi 0),.f (.fs [fi 7] 1),.f (fi (-1)),.f .aw]]=Eq (vb ae):=aqa (by kernel_rfl)
@[simp] theorem anY (H:aj):aV H (.f .aw)=aa 0:=rfl
theorem aan(m:Int):unV .neg (.c (.f (.int .i64 m)))=aa (vi (IntKind.i64.wrap (0-m))):=rfl
theorem uV(n m:Int)(d:0<=m)(g:m<=4611686018427387904):bH tab 102 [vi n,vi m]=Eq (vb (decide (-m<=n)&&decide (n<=m))):=bH.eq (by
 refine bD rfl rfl λQ b=>?_;apply ai;simp;by_cases h:-m<=n
 .apply ai;simp[aan,aM (n:=-m),h];refine aB (b _ _ ?_);simp[h]
 .apply ai;simp[aan,aM (n:=-m),h];refine aB (b _ _ ?_);simp[h])
theorem LB(o:Int):bH tab 103 [.a ((zF o).map .f)]=Eq (.t [.c (.f (eG o)),vb ae]):=bH.eq (by
 refine bD rfl rfl λQ b=>?_
 repeat' first
  |(refine aB (b _ _ ?_))
  |(apply an)
  |(refine az ?_)
  |(refine dH ?_)
  |(refine eX ?_)
  |(refine ay ?_)
  |(refine aJ ?_)
  |(refine aS rfl ?_)
  |(refine au ?_ ?_;focus (simp;done))
  |(refine aA ?_ ?_;focus (simp;done))
  |(refine aq (.inl rfl) ?_;simp[zF])
 refine⟨rfl,.t [.c (.ptr 1 0 0),vb ae],by simp[Km.results,bQ,aX],?_⟩;simp[jy,de,aX,deep,eG])
theorem uF(o:Int)(j:-1080<=o)(l:o<=1080):bH tab 66 [.a ((zF o).map .f)]=Eq (.t [.c (.f (eG o)),vb ae]):=bH.eq (by
 have b:=LB o;simp only[zF,arf,art]at b;have d:=uV o 1080 (by decide) (by decide);have g:=uV 0 2251799813685248 (by decide) (by decide);simp[j,l]at d g;refine bD rfl rfl λQ m=>?_
 repeat' first
  |(refine aB (m _ _ ?_))
  |(apply an)
  |(refine az ?_)
  |(refine dH ?_)
  |(refine eX ?_)
  |(refine ay ?_)
  |(refine aJ ?_)
  |(refine aS rfl ?_)
  |(refine au ?_ ?_;focus (simp;done))
  |(refine aA ?_ ?_;focus (simp;done))
  |(refine aq (.inl rfl) ?_;simp[zF,ap2,b,d,g])
 refine⟨rfl,.t [.c (.f (eG o)),vb ae],by simp[Km.results,bQ,aX,bf],by simp[jy,de,aX]⟩)
theorem AI(o:Int)(d:-1080<=o)(g:o<=1080):bH tab 24 [.a ((zF o).map .f)]=Eq (vi 0):=bH.eq (by
 have b:=uF o d g;simp only[zF,arf,art]at b;refine bD rfl rfl λQ j=>?_
 repeat' first
  |(refine aB (j _ _ ?_))
  |(apply an)
  |(refine aJ ?_)
  |(refine au ?_ ?_;focus (simp;done))
  |(refine aA ?_ ?_;focus (simp;done))
  |(refine aq (.inl rfl) ?_;simp[zF,b])
 simp)
theorem lD(H:aj)(cs:List FC)(i:Nat):bF H ab (.c (.f (.fp cs i)))=(cs[i]?).map λx=>.c (.f x):=by
 by_cases h:i<cs.length
 .have e:cs.drop i=cs[i]::cs.drop (i+1):=arp h;rw[aq2 h];simp only[bF,aK,e,arf,arG,bf,Option.map_some]
 .have e:cs.drop i=[]:=List.drop_eq_nil_of_le (by omega);rw[List.getElem?_eq_none (Nat.le_of_not_lt h)];simp only[bF,aK,e,art,arG,bf,Option.map_none]
theorem tY(o t:Int)(H:aj):Ev tab (.fn 104) [.c (.f (eG o)),vi t] H (.c (.cl 149 [.ptr H.length 0 0,.ptr (H.length+1) 0 0])) (H++[.box [.f (eG o)] 0,.box [.f (fi t)] 0]):=by
 obtain⟨r,b,h,rfl,rfl⟩:∃r b,Ev tab (.fn 104) [.c (.f (eG o)),vi t] H r b/\(r=.c (.cl 149 [.ptr H.length 0 0,.ptr (H.length+1) 0 0])/\b=H++[.box [.f (eG o)] 0,.box [.f (fi t)] 0]):=by
  refine cz rfl rfl λQ d=>?_;apply ai;simp;apply ai;simp;exact aB (d _ _ _ rfl (cV (by simp)) ⟨rfl,rfl⟩)
 exact h
theorem xL{o:Int}{J:aj}{b bp bl:Nat}(g:J[bp]?=aa (.box [.f (eG o)] 0)):Ev tab (.fn 149) [.c (.yl b),.c (.ptr bp 0 0),.c (.ptr bl 0 0)] J (.t []) J:=by
 obtain⟨r,d,h,rfl,rfl⟩:∃r d,Ev tab (.fn 149) [.c (.yl b),.c (.ptr bp 0 0),.c (.ptr bl 0 0)] J r d/\(r=.t []/\d=J):=by
  have l:bF J ab (.c (.ptr bp 0 0))=aa (.c (.f (eG o))):=by simp[bF,aK,g]
  refine cz rfl rfl λQ j=>?_
  repeat' first
   |(refine aB (j _ _ (.t []) rfl rfl ⟨rfl,rfl⟩))
   |(apply an)
   |(refine az ?_)
   |(refine dH ?_)
   |(refine ay ?_)
   |(refine aJ ?_)
   |(refine aS rfl ?_)
   |(refine au ?_ ?_;focus (simp;done))
   |(refine aA ?_ ?_;focus (simp;done))
   |(refine aq (.inl rfl) ?_;simp[l,eG,-aD,lD])
 exact h
theorem uo{o:Int}{fn:Nat}{t:T}{j:List fL}{J:aj}{k:List cO}{Q:Option ax->St->Prop}{x:Arg}{ps:List P}{b bd:ax}{bp bl:Nat}(m:x.ev t=.c (.cl 149 [.ptr bp 0 0,.ptr bl 0 0]))(l:J[bp]?=aa (.box [.f (eG o)] 0))
  (h:WP tab fn ab k ⟨t,.gB J.length::j,J++[.fj ae,.lp fn t ps b bd .exhausted ab J.length]⟩ Q):WP tab fn ab (.code (.fK x ps b bd)::k) ⟨t,j,J⟩ Q:=by
 refine gH (g:=149) (by rw[m];rfl) (xL (o:=o) (by rw[aq1 (av l)];exact l)) ?_;have d:(J++[cH.fj ae,.lp fn t ps b bd .ready ab J.length])[J.length+1]?=aa (.lp fn t ps b bd .ready ab J.length):=by
  rw[arc (by omega)];simp
 refine iL d (by decide) ?_;have e:(J++[cH.fj ae,.lp fn t ps b bd .ready ab J.length]).set (J.length+1) (.lp fn t ps b bd .exhausted ab J.length)=J++[.fj ae,.lp fn t ps b bd .exhausted ab J.length]:=by
  rw[List.set_append_right _ _ (by omega)];simp
 rw[e];exact h
theorem vY(o:Int):bH tab 157 [.c (.f (eG o))]=Eq (vi 0):=by
 obtain⟨r,rfl,h⟩:∃r,r=vi 0/\bH tab 157 [.c (.f (eG o))] r:=by
  refine mF ai7 rfl λQ d=>?_;have b:=tY o 0 [.box [.f (fi 0)] 0];simp[eG]at b;apply ai;simp;apply an;apply ai;simp[eG,lD,b.eq];refine az ?_;refine uo (o:=o) (bp:=1) (bl:=2) (by simp) rfl ?_
  repeat' first
   |(apply an)
   |(refine ay ?_)
   |(refine aJ ?_)
   |(refine au ?_ ?_;focus (simp;done))
   |(refine aA ?_ ?_;focus (simp;done))
   |(refine aq (.inl rfl) ?_;simp[lD])
  refine aB (d _ _ _ rfl (.inr ⟨3,rfl,by simp,vi 0,by simp[Km.results,bQ,aX,bf],by simp[jy]⟩))
 exact h.eq
def py(o:Int):List FC:=[fi o,fi (-9007199254740992),fi 9007199254740992,fi (-9007199254740992),fi 9007199254740992]
theorem alx(b:Bool):unV .not (.c (.f (.bool b)))=aa (vb !b):=rfl
theorem yy{o e:Int}{b:Nat}{H:aj}{S:aj->Prop}
  (W:∀x:cH,∃r F,Ev tab (.yield b) [.a ((py o).map .f)] (H++[.box [.yl b] 0,.box ((py o).map .f) 0,.box [.f (eG o)] 0,.box [.f (fi (-2251799813685248))] 0,.fj ae,x]) r F/\F[H.length+4]?=aa (.fj ae)/\(∃v,r=vb v)/\S (F.set (H.length+4) (.fj ag))) :
  ∃l,Ev tab (.fn 206) [.c (.yl b),.c (.f (.fp [eG o] 0)),.c (.f (.fp [fi e] 0))] H (.t []) l/\S l:=by
 obtain⟨r,l,h,rfl,L⟩:∃r l,Ev tab (.fn 206) [.c (.yl b),.c (.f (.fp [eG o] 0)),.c (.f (.fp [fi e] 0))] H r l/\(r=.t []/\S l):=by
  refine YR ai6 rfl λQ k=>?_;obtain⟨b0,g⟩:=aQ (H.length);obtain⟨M,m⟩:=aQ (H++[.box [.yl b] 0]:aj);have K:M.length=b0+1:=by rw[m,g];simp
  obtain⟨I,j⟩:=aQ (M++[.box [.f (fi o),.f (fi (-9007199254740992)),.f (fi 0),.f (fi (-9007199254740992)),.f (fi 0)] 0]:aj);have bl:I.length=b0+2:=by rw[j];simp[K]
  have u:=tY o (-2251799813685248) I;rw[bl]at u;have X:∀H:aj,bF H ab (.c (.f (.fp [eG o] 0)))=aa (.c (.f (eG o))):=λH=>by rw[lD];rfl
  apply ai;simp;rw[<-m,<-g];have s4:dC (M++[.box [.f (fi 0),.f (fi 0),.f (fi 0),.f (fi 0),.f (fi 0)] 0]) (.ptr (b0+1) 0 0) [.f (fi o),.f (fi (-9007199254740992)),.f (fi 0),.f (fi (-9007199254740992)),.f (fi 0)]=aa I:=by rw[j,<-K];simp[dC,bR]
  simp only[eG]at X u;apply ai;simp[X,eG,lD,-aD,K,s4,-bC];apply an;apply ai;simp[X,-aD,u.eq];refine az ?_;obtain⟨N,d⟩:=aQ (I++[.box [.f (eG o)] 0,.box [.f (fi (-2251799813685248))] 0]:aj);have cl:N.length=b0+4:=by rw[d];simp[bl]
  simp only[eG]at d;rw[<-d];refine uo (o:=o) (bp:=b0+2) (bl:=b0+2+1) (by simp) (by rw[d,arc (by omega)];simp[bl,eG]) ?_;refine ay ?_;rw[cl]
  suffices go:∀(t:T) (x:cH),t.g 3=.c (.ptr b0 0 0)->t.g 4=.c (.ptr (b0+1) 0 0)->WP tab 206 ab [.code tH] ⟨t,[.gB (b0+4)],N++[.fj ae,x]⟩ Q by exact go _ _ (by simp) (by simp)
  intro t x i Z;obtain⟨O,q⟩:=aQ (N++[.fj ae,x]:aj);rw[<-q];have Y:O[b0+1]?=aa (.box [.f (fi o),.f (fi (-9007199254740992)),.f (fi 0),.f (fi (-9007199254740992)),.f (fi 0)] 0):=by
   rw[q,aq1 (by omega),d,aq1 (by omega),j,arc (by omega)];simp[K]
  obtain⟨J,s⟩:=aQ (O.set (b0+1) (.box [.f (fi o),.f (fi (-9007199254740992)),.f (fi 9007199254740992),.f (fi (-9007199254740992)),.f (fi 0)] 0):aj);have w:dC O (.ptr (b0+1) 2 0) [.f (fi 9007199254740992)]=aa J:=by rw[s];simp[dC,Y,bR]
  have a:J[b0+1]?=aa (.box [.f (fi o),.f (fi (-9007199254740992)),.f (fi 9007199254740992),.f (fi (-9007199254740992)),.f (fi 0)] 0):=by rw[s];exact aq6 (av Y)
  obtain⟨z,A⟩:=aQ (J.set (b0+1) (.box ((py o).map .f) 0):aj);have s2:dC J (.ptr (b0+1) 4 0) [.f (fi 9007199254740992)]=aa z:=by rw[A];simp[dC,a,bR,py]
  have U:z=H++[.box [.yl b] 0,.box ((py o).map .f) 0,.box [.f (eG o)] 0,.box [.f (fi (-2251799813685248))] 0,.fj ae,x]:=by
   rw[A,s,List.set_set,q,d,j,m];simp[g,eG]
  have c:z[b0]?=aa (.box [.yl b] 0):=by rw[U,g,arc (by omega)];simp
  have f:z[b0+1]?=aa (.box ((py o).map .f) 0):=by rw[U,g,arc (by omega)];simp
  have n:bF z ab (.c (.ptr b0 0 0))=aa (.c (.yl b)):=by simp[bF,aK,c]
  have p:bF z (aa 5) (.c (.ptr (b0+1) 0 0))=aa (.a ((py o).map .f)):=by simp[bF,aK,f,bf,py]
  obtain⟨r,F,E,B,⟨v,rfl⟩,L⟩:=W x;rw[<-U]at E;apply ai;simp[Z,w,s2,-bC];refine aq (.inl rfl) ?_;simp[i,Z,n,p,-aD,bX,E.eq];rw[<-g]at B L;exact cW (k _ _ (.t []) ⟨[b0+4],rfl,⟨by simp,λy W=>by rw[arb.1 W];exact B⟩,rfl,rfl,L⟩)
 exact⟨l,h,L⟩
end Go.Proofs.YtgfdmhmmjbihiaaGreat
