/-
  Dh the iC gK and the gl answer, for all arguments of their kind, in the small machine: part 6.
-/
import Derived.Test.YtelifakcllijpaaGreatS5
import Derived.Test.YtelifakcllijpaaGreatS4
import Derived.Test.YtelifakcllijpaaGreatK4
import Derived.Test.YtelifakcllijpaaGreatK3
open Option renaming some->aa,none->ab
open Bool renaming true->ae,false->ag
open Int renaming gcd->ag6, le_trans->ag5, le_of_dvd->agZ, gcd_pos_of_ne_zero_left->ahv, gcd_dvd_left->ah0, gcd_dvd_right->ah7, mul_le_mul_of_nonneg_right->agI, natCast_add->aiB, add_mul->aiA, mul_nonneg->ag7, emod_emod_of_dvd->ahu, emod_eq_of_lt->ahf, mul_comm->ahB, emod_add_mul_ediv->agB, sub_emod->aiE, dvd_trans->ag0, ediv_nonneg->aha, mul_ediv_cancel_left->ahD, le_refl->ahw, toNat_natCast->agD, dvd_refl->ahA, dvd_of_emod_eq_zero->ahH, natCast_dvd_natCast->aiG, dvd_add->aiK, mul_le_mul->ah5
open List renaming getElem?_append_left->AI, getElem?_append_right->agj, map_cons->agm, map_nil->agp, length_filter_le->ahb, getElem_mem->IN, take_add_one->agv, getElem?_eq_getElem->By, mem_append->agl, mem_singleton->If, take_length->agu, getElem?_set_ne->sh, length_append->aft, mem_cons->agA, not_mem_nil->ahG, mem_map->agt, flatten_cons->agG, map_append->ahl, eraseIdx_eq_take_drop_succ->aht, map_drop->ahZ, drop_append_of_le_length->ahS, drop_eq_getElem_cons->ags, append_assoc->agM, take_append_of_le_length->ahq, take_of_length_le->agw, take_append_drop->ahr, flatten_append->ahM, set_eq_take_append_cons_drop->ahV, length_take->agO, nil_append->ahF, getElem?_set_self->BY, length_set->agx, length_eraseIdx->aii, drop_zero->ahi, mem_append_left->ag3, mem_append_right->ahR, drop_drop->ah4, eraseIdx_append_of_length_le->aiI, mem_or_eq_of_mem_set->aie, length_pos_iff->agV, append_nil->agN, map_replicate->aiR, length_replicate->ah2, set_append_right->ahO, replicate_succ->ail, set_cons_zero->ahU, replicate_zero->aiQ, mem_of_mem_drop->ahd, mem_of_mem_take->ahn, length_map->agq, mem_cons_of_mem->agr, getElem_map->aib, length_singleton->ah1, all_eq_true->agJ, mem_cons_self->ago, length_cons->agP
open Bool renaming false_eq_true->agH, and_eq_true->IS, not_eq_true'->ahP
open Option renaming bind_some->ag8
open Nat renaming zero_le->ahN, sub_self->ah9, le_trans->agK, add_mul->agS, mul_le_mul_right->ag9, gcd->ahC, gcd_dvd_right->aih
set_option linter.unusedVariables false
set_option linter.constructorNameAsVariable false
set_option linter.unusedSimpArgs false
set_option linter.unusedSectionVars false
set_option linter.unnecessarySimpa false
set_option maxRecDepth 100000
namespace Go.Proofs.YtelifakcllijpaaGreat
open Go Km
theorem Gs{f:Nat}{args:List V}{H:an}{S:V->an->Prop}{ps:List P}{b:List ku}{body:aE}(z:tab f=aa ⟨ps,b,body⟩)(y:args.length=ps.length)
  (h:∀Q:Option aE->St->Prop,(∀j s r,(∃bs,s.defs=bs.map .dY/\eI bs s.heap/\Km.results s.aN (ns bs s.heap) b=aa r/\S r (ns bs s.heap))->Q j s)->WP tab f ab [.code body] ⟨dm ps args .e,[],H⟩ Q):∃r H',Ev tab (.fn f) args H r H'/\S r H':=by
 have l:=h (λ_ s=>∃r,∃bs,s.defs=bs.map .dY/\eI bs s.heap/\Km.results s.aN (ns bs s.heap) b=aa r/\S r (ns bs s.heap)) λ_ _ r g=>⟨r,g⟩
 obtain⟨n,m,d,j,s,g,r,bs,x,v,q,u⟩:=l;exact⟨r,ns bs s.heap,rj z y ⟨n,m,d,j,s,g,0,0,_,by rw[x];exact nw v,q,rfl⟩,u⟩
def Ym(b g:aO)(st P:Int)(Z:List Int)(d:Int):Prop:=(0<=d/\d<st/\bA b d=ae/\bA g d=ag)\/(st<=d/\d<st+P/\(d-st) % b.aT∈Z/\bA g d=ag)
theorem Hx{q u:aO}(ha:cI q=ae)(hb:cI u=ae){st P g:Int}{X Y:List Int}{l:List (Int × C)}{S cy:C}{m N:Nat}{H:an}(h:PH H N X Y g l S cy m)(z8:st=max q.fr u.fr)(s1:st<=100000)(hX:wY q st X)(hY:wY u st Y)
  (hg:g=(ag6 q.aT u.aT:Int)) (hP:BS q.aT u.aT P) (P1:P<=27720) :
  ∃r H',Ev tab (.fn mZ) [.a (cL q u st S cy g m),vi P] H r H'/\∃c L,r=.c c/\LR H' c 1 (ints L)/\(∀i:Nat,i<H.length->H'[i]?=H[i]?)/\L.length<=1000000/\∀d,d∈L↔0<=d/\d<st+P/\(bA q d&&!bA u d)=ae:=by
 obtain⟨q1,q2,q3,q4,q5,q6,q7,q8,q9⟩:=bC ha;obtain⟨w1,w2,w3,w4,w5,w6,w7,w8,w9⟩:=bC hb;have P0:=hP.pos;have z_:q.aT<=27720:=ag5 (agZ P0 hP.da) P1;have pb1:u.aT<=27720:=ag5 (agZ P0 hP.db) P1;have g0:0<g:=by rw[hg];have:=ahv u.aT (show q.aT≠0 by omega);omega
 have r7:g ∣ q.aT:=by rw[hg];exact ah0 ..
 have k_:g ∣ u.aT:=by rw[hg];exact ah7 ..
 have s7:(X.length:Int)<=q.aT:=by
  have:=fj X 0 q.aT hX.2.1 λx hx=>by have:=hX.2.2.1 x hx;omega
  omega
 have x8:(Y.length:Int)<=u.aT:=by
  have:=fj Y 0 u.aT hY.2.1 λx hx=>by have:=hY.2.2.1 x hx;omega
  omega
 have x_:q.head.length<=100000:=by
  have:=fj q.head 0 q.fr q6 λx hx=>by have:=q7 x hx;omega
  omega
 have x9:q.bF.length<=27720:=by
  have:=fj q.bF 0 q.aT q8 λx hx=>by have:=q9 x hx;omega
  omega
 obtain⟨K,hK⟩:∃K,P=q.aT*K:=hP.da;have K0:0<=K:=by
  rcases Int.lt_or_le K 0 with k|k
  .have:=Int.mul_nonpos_of_nonneg_of_nonpos (show 0<=q.aT by omega) (show K<=0 by omega);omega
  .exact k
 have r_:(X.length:Int)*K<=P:=by rw[hK];exact agI s7 K0
 obtain⟨b0,W⟩:=aI (H.length);refine Gs XP rfl λQ hQ=>?_;apply ai;simp[cL];obtain⟨HA,c_⟩:=aI (H++[.box (cL q u st S cy g m) 0]:an);have a0:HA[b0]?=aa (.box (cL q u st S cy g m) 0):=by rw[c_,W];simp
 have al:HA.length=b0+1:=by rw[c_,W];simp
 unfold cL at c_;rw[<-c_,<-W];have s5:cY (HA++[.box [.f .vX] 0]) (.ptr HA.length 0 0) [.cl od [.ptr b0 0 0]]=aa (HA++[.box [.cl od [.ptr b0 0 0]] 0]):=by simp[cY,over]
 apply ai;simp[s5,-bw];apply ai;simp;obtain⟨HB,b_⟩:=aI (HA++[.box [.cl od [.ptr b0 0 0]] 0,.box [.f .aJ] 0]:an);have bl:HB.length=b0+3:=by rw[b_];simp[al]
 have c0:HB[b0]?=aa (.box (cL q u st S cy g m) 0):=by rw[b_,AI ap];exact a0
 have c1:HB[b0+1]?=aa (.box [.cl od [.ptr b0 0 0]] 0):=by rw[b_,agj ap];simp[al]
 have c2:HB[b0+2]?=aa (.box [.f .aJ] 0):=by rw[b_,agj ap];simp[al]
 have ck:∀i:Nat,i<b0->HB[i]?=H[i]?:=λi hi=>by rw[b_,AI ap,c_,AI ap]
 rw[<-b_,al];have L1:=qF c0;obtain⟨r0,H0,hf,rfl,rfl⟩:=ID q 0 HB;simp only[aO.row,agm,agp]at hf;rw[bl]at hf;apply au;apply ai;simp[L1.la,-ax,hf.eq];refine ay ?_;obtain⟨HC,d9⟩:=aI (HB++[.box [.f (sl q.hg (ints q.head)),.f (fi q.fr),.f (fi q.aT),.f (sl q.cg (ints q.bF))] 0,.box [.f (fi 0)] 0]:an);rw[<-d9];have cl:HC.length=b0+5:=by rw[d9];simp[bl]
 suffices go:∀tm:T,tm.g 1=vi P->tm.g 2=.c (.ptr b0 0 0)->tm.g 5=.c (.ptr (b0+1) 0 0)->tm.g 6=.c (.ptr (b0+2) 0 0)->tm.g 14=.c (.cl pe [.ptr (b0+3) 0 0,.ptr (b0+3+1) 0 0])->WP tab mZ ab [.code Jw,.inBlock 0,.code zM] ⟨tm,[],HC⟩ Q by exact go _ bv bv bv bv bv
 intro tm g1 U g5 Z r6;obtain⟨HR,a_⟩:=aI (HC++[.dQ ae,.lp mZ tm [Km.P.nat 15] nB nC .ready ab HC.length]:an);have up:∀(i:Nat),i<b0+3->HR[i]?=HB[i]?:=λi hi=>by rw[a_,AI ap,d9,AI ap]
 have q0:WO H q u st g S cy m tm .ready ab 0 ([].filter λd=>!bA u d) HR:=by
  refine⟨⟨λi hi=>?_,?_,?_,⟨.f .aJ,?_,LR.nil _ _,λ_ h=>by cases h⟩,?_⟩,?_,?_,?_,?_⟩<;>rw[<-W]at *
  .rw[up i ap];exact ck i hi
  .rw[up _ ap];exact c0
  .rw[up _ ap];exact c1
  .rw[up _ ap];exact c2
  .rw[a_];simp[cl]
  .rw[a_,AI ap,d9,agj ap];simp[bl]
  .rw[a_,AI ap,d9,agj ap];simp[bl]
  .rw[a_,agj ap];simp[cl]
  .rw[a_,agj ap];simp[cl]
 rw[W]at U g5 Z;obtain⟨r,H',he,rfl,ds,e_,u9,i_⟩:=IE (b:=H.length+6) (bp:=H.length+3) (bl:=H.length+4) q ha ap ap 0 st ap ap ap (PP:=λz ds J=>WO H q u st g S cy m tm .ready ab z (ds.filter λd=>!bA u d) J) (RR:=λds J=>∃z,WO H q u st g S cy m tm .done (aa (.exit 0)) z (ds.filter λd=>!bA u d) J)
  (λz ds J h=>⟨h.b3,h.b4⟩) (λz z' ds J h=>h.low z')
  (λz ds J n h t_ hn j7 hp hS=>by
   have o_:(ds.filter λd=>!bA u d).length<=1000000:=by
    have:=fj ds 0 st hp λx hx=>by have:=hS x hx;unfold SW at this;omega
    have:=ahb (λd=>!bA u d) ds;omega
   obtain⟨r,H',f_,hr⟩:=rv hb U g5 Z h n t_ (λ_=>by unfold Day;omega) λ_=>o_;rcases hr with⟨_,rfl,hq⟩|⟨h2,_,_⟩
   .refine⟨H',f_,?_⟩;rw[List.filter_append];cases hk:bA u n<;>simpa[hk]using hq
   .omega)
  (λz ds J n h hn _=>by
   obtain⟨r,H',f_,hr⟩:=rv hb U g5 Z h n ap (λh=>by omega) λh=>by omega
   rcases hr with⟨h2,_,_⟩|⟨_,rfl,hq⟩
   .omega
   .exact⟨H',f_,z,hq⟩)
  q0
 obtain⟨L0,j5⟩:=aI (ds.filter λd=>!bA u d);rw[<-j5]at e_;have w_:(L0.length:Int)<=st:=by
  have:=fj ds 0 st u9 λx hx=>by have:=(i_ x).1 hx;unfold SW at this;omega
  have:=ahb (λd=>!bA u d) ds;rw[j5];omega
 have l_:∀d,d∈L0↔Ym q u st P [] d:=λd=>by
  rw[j5,List.mem_filter,i_];unfold SW Ym;cases bA u d<;>simp<;>omega
 rw[<-W]at he;have s_:Ev tab (.fn pe) [.c (.yl (HC.length+1)),.c (.ptr (b0+3) 0 0),.c (.ptr (b0+3+1) 0 0)] (HC++[.dQ ae,.lp mZ tm [Km.P.nat 15] nB nC .ready ab HC.length]) (.t []) H':=by
  rw[<-a_,cl];exact he
 refine dK (g:=pe) (by rw[oi,r6];simp[cr]) s_ ?_;rw[cl];have j_:∀(J:an) (ls:dt) (pd:Option aE) (z:Int),WO H q u st g S cy m tm ls pd z L0 J->WP tab mZ ab [.code zM] ⟨tm,[.dY (b0+5)],J⟩ Q:=by
  intro J ls pd z hW;have LJ:=qF hW.wt.b0;have lX:bh J S=aa X.length:=by have:=(h.bH hW.wt.kp).lx.len;simpa[ints]using this
  apply au;apply ai;simp[U,LJ.lx,-ax,lX];refine bS X.length (λj t J=>t.g 1=vi P/\t.g 2=.c (.ptr H.length 0 0)/\t.g 5=.c (.ptr (H.length+1) 0 0)/\t.g 6=.c (.ptr (H.length+2) 0 0)/\t.g 25=.c S/\∃L,WT H q u st g S cy m L J/\J[H.length+5]?=aa (.dQ ae)/\(L.length:Int)<=st+(j:Int)*K/\∀d,d∈L↔Ym q u st P (X.take j) d) ap ce ce bv bv
   ⟨by simp[g1],by simp[U],by simp[g5],by simp[Z],bv,L0,hW.wt,hW.df,ap,λd=>by rw[l_];simp⟩ ?_ ?_
  .rintro j t J hj ⟨g1,U,g5,Z,I,L,A,M,r9,d_⟩ j6 n8 next
   have m9:=h.bH A.kp;obtain⟨xb,xep,xsl,v_,r5,-⟩:=uH m9.lx hj;have q_:=hX.2.2.1 _ (IN hj);have j8:X.take (j+1)=X.take j++[X[j]]:=by rw[agv,By hj];rfl
   obtain⟨x,hx⟩:=aI (X[j]);rw[<-hx]at q_ r5 j8;have y7:((j+1:Nat):Int)*K<=P:=ag5 (agI ap K0) r_;have y8:((j+1:Nat):Int)*K=(j:Int)*K+K:=by rw[aiB,aiA];omega
   have y_:0<=(j:Int)*K:=ag7 ap K0;have LJ:=qF A.b0;obtain⟨r,HF,t6,rfl,n_,z7⟩:=TP q u st m9 g0 ap ap x q_.1 ap;have h_:∀(i:Nat) y,J[i]?=aa y->HF[i]?=aa y:=λi y hy=>by rw[n_ i (aj hy)];exact hy
   have m_:WT H q u st g S cy m L HF:=by
    obtain⟨a1,a2,a3,⟨c,a4,a5,a6⟩,a7⟩:=A;exact⟨λi hi=>by rw[n_ i ap];exact a1 i hi,h_ _ _ a2,h_ _ _ a3,⟨c,h_ _ _ a4,a5.bH λi y hy _=>h_ i y hy,a6⟩,ap⟩
   have n9:=h_ _ _ M;refine ay ?_;apply ai;simp[j6,I,v_,r5,-ax];apply au;apply ai;simp[U,LJ.GN,-ax,t6.eq];by_cases g_:((ie g Y (x % g)).length:Int)=u.aT / g
   .refine aw (by simp[g_]) ?_;refine bJ rfl (next _ _ ?_ (by simp[j6]) (by simp[n8]));refine⟨by simp[g1],by simp[U],by simp[g5],by simp[Z],by simp[I],L,m_,n9,ap,λd=>?_⟩;rw[d_,j8];unfold Ym;rw[agl,If];refine or_congr_right ⟨λ⟨E,O,B,v⟩=>⟨E,O,.inl B,v⟩,λ⟨E,O,B,v⟩=>⟨E,O,B.resolve_right λk5=>?_,v⟩⟩;have hy:=Gh g0 k_ hY.2.1 hY.2.2.1 g_ (y:=(d-st) % u.aT) (Int.emod_nonneg _ ap) (Int.emod_lt_of_pos _ ap) (by rw[ahu _ k_,<-k5,ahu _ r7]);have:=(hY.2.2.2 d E).2 hy;rw[this]at v;exact absurd v ce
   .refine bE (by simp[g_]) ?_;apply ai;simp;refine ay ?_
    suffices j9:∀(F:T) (J':an),F.g 1=vi P->F.g 2=.c (.ptr H.length 0 0)->F.g 5=.c (.ptr (H.length+1) 0 0)->F.g 6=.c (.ptr (H.length+2) 0 0)->F.g 25=.c S->F.g 27=vi j->F.g 26=t.g 26->F.g 10=vi x->WT H q u st g S cy m L J'->J'[H.length+5]?=aa (.dQ ae)->WP tab mZ ab (.code Jy::.inBlock 4::.inBlock 3::.code (nK 27 50)::.inLoop (fX 2 27 26 28 50 Jx)::.inBlock 2::[.code Jz]) ⟨F,[.dY (b0+5)],J'⟩ Q by
     exact j9 _ _ (by simp[g1]) (by simp[U]) (by simp[g5]) (by simp[Z]) (by simp[I]) (by simp[j6]) bv bv m_ n9
    intro F J' g1 U g5 Z I i7 i6 c9 A M;refine dc (λn s=>∃(i:Nat) (F:T) (J':an) (L':List Int),s=⟨F,[.dY (b0+5)],J'⟩/\n=(P-(x+i*q.aT)).toNat/\x+i*q.aT<P+q.aT/\F.g 1=vi P/\F.g 2=.c (.ptr H.length 0 0)/\F.g 5=.c (.ptr (H.length+1) 0 0)/\F.g 6=.c (.ptr (H.length+2) 0 0)/\F.g 25=.c S/\F.g 27=vi j/\F.g 26=t.g 26/\F.g 10=vi (x+i*q.aT)/\WT H q u st g S cy m L' J'/\J'[H.length+5]?=aa (.dQ ae)/\(L'.length:Int)<=st+(j:Int)*K+i/\∀d,d∈L'↔Ym q u st P (X.take j) d\/(st<=d/\d<st+(x+i*q.aT)/\(d-st) % q.aT=x/\bA u d=ag)) (P-x).toNat
     ⟨0,F,J',L,rfl,bv,ge,g1,U,g5,Z,I,i7,i6,by simpa using c9,A,M,ap,λd=>by
      rw[d_];refine⟨.inl,λh=>h.resolve_right ?_⟩;rintro⟨E,O,B,-⟩;rw[ahf ap ap]at B;simp at O;omega⟩ ?_
    rintro n s ⟨i,F,J',L',rfl,rfl,y6,g1,U,g5,Z,I,i7,i6,c9,A,M,x6,i9⟩ ih;have i0:0<=(i:Int)*q.aT:=ag7 ap ap;have iK:(i:Int)<=K:=by
     refine Decidable.byContradiction λhc=>?_;have:(K+1)*q.aT<=(i:Int)*q.aT:=agI ap ap;rw[aiA,ahB K,<-hK]at this;omega
    have LJ:=qF A.b0;apply au;apply ai;simp[g1,c9];by_cases j7:x+i*q.aT<P
    .refine aw (by simp[j7]) (aR ?_);have zt:(i:Int)<K:=by
      refine Decidable.byContradiction λhc=>?_;have:K*q.aT<=(i:Int)*q.aT:=agI ap ap;rw[ahB K,<-hK]at this;omega
     obtain⟨c,c',H3,t8,f_,p9,p_,u_⟩:=A.bH hb ap (st+(x+i*q.aT)) ap (by unfold Day;omega);have l1:aV J' ab (.c (.ptr (H.length+1) 0 0))=aa (.c (.cl od [.ptr H.length 0 0])):=by simp[aV,aA,A.b1]
     have lb:=qF p_.b0;apply au;refine ay ?_;refine aq (.inl rfl) ?_;simp[U,g5,Z,c9,l1,t8,LJ.ni,-ax,aZ (n:=st+(x+i*q.aT)),cr,f_.eq,p9,-bw];refine av ?_;refine aq (.inl rfl) ?_;simp[U,c9,lb.lap,-ax,aZ (n:=x+i*q.aT+q.aT)];have e1:x+((i+1:Nat):Int)*q.aT=x+i*q.aT+q.aT:=by rw[aiB,aiA];omega
     refine ih (P-(x+i*q.aT+q.aT)).toNat _ ap ⟨i+1,_,_,_,rfl,by rw[e1],ap,by simp[g1],by simp[U],by simp[g5],by simp[Z],by simp[I],by simp[i7],by simp[i6],by rw[e1];simp,p_,u_ _ _ ap ap M,?_,λd=>?_⟩
     .split
      .omega
      .simp;omega
     .rw[e1];have i8:(x+i*q.aT) % q.aT=x:=by rw[Int.add_mul_emod_self_right,ahf ap ap]
      have key:∀d,st<=d->¬ d<st+(x+i*q.aT)->d<st+(x+i*q.aT+q.aT)->(d-st) % q.aT=x->d=st+(x+i*q.aT):=λd E O B v=>by
       have e:=agB (d-st-(x+i*q.aT)) q.aT;have h1:(d-st-(x+i*q.aT)) % q.aT=0:=by rw[aiE,v,i8];simp
       have h2:(d-st-(x+i*q.aT)) / q.aT=0:=Int.ediv_eq_zero_of_lt ap ap;rw[h1,h2]at e;omega
      have t7:d∈(if bA u (st+(x+i*q.aT))then L' else L'++[st+(x+i*q.aT)])↔d∈L'\/(d=st+(x+i*q.aT)/\bA u d=ag):=by
       cases hk:bA u (st+(x+i*q.aT))with
       |true=>
        refine⟨.inl,λh=>h.resolve_right ?_⟩;rintro⟨rfl,k⟩;rw[hk]at k;exact absurd k ce
       |false=>
        simp only[agH,if_false,agl,If];refine or_congr_right ⟨λe=>⟨e,by rw[e];exact hk⟩,λe=>e.1⟩
      rw[t7,i9,or_assoc];refine or_congr_right ⟨?_,?_⟩
      .rintro(⟨E,O,B,v⟩|⟨rfl,v⟩)
       .exact⟨E,ap,B,v⟩
       .exact⟨ap,ap,by rw[show st+(x+i*q.aT)-st=x+i*q.aT by omega];exact i8,v⟩
      .rintro⟨E,O,B,v⟩;by_cases k5:d<st+(x+i*q.aT)
       .exact .inl ⟨E,k5,B,v⟩
       .exact .inr ⟨key d E k5 O B,v⟩
    .refine aD (by simp[j7]) ?_;refine bJ rfl ?_;refine av (next _ _ ?_ (by simp[i7]) (by simp[i6,n8]));refine⟨by simp[g1],by simp[U],by simp[g5],by simp[Z],by simp[I],L',A,M,ap,λd=>?_⟩;rw[i9,j8];unfold Ym;rw[agl,If,or_assoc];refine or_congr_right ⟨?_,?_⟩
     .rintro(⟨E,O,B,v⟩|⟨E,O,B,v⟩)
      .exact⟨E,O,.inl B,v⟩
      .refine⟨E,?_,.inr B,v⟩;refine Decidable.byContradiction λhc=>?_;have i8:(x+i*q.aT) % q.aT=x:=by rw[Int.add_mul_emod_self_right,ahf ap ap]
       have e:=agB (x+i*q.aT-(d-st)) q.aT;have h1:(x+i*q.aT-(d-st)) % q.aT=0:=by rw[aiE,B,i8];simp
       have h2:(x+i*q.aT-(d-st)) / q.aT=0:=Int.ediv_eq_zero_of_lt ap ap;rw[h1,h2]at e;omega
     .rintro⟨E,O,B|B,v⟩
      .exact .inl ⟨E,O,B,v⟩
      .exact .inr ⟨E,ap,B,v⟩
  .rintro t J ⟨g1,U,g5,Z,I,L,A,M,r9,d_⟩ - -;obtain⟨c,h2,hL,hc⟩:=A.ls;have l2:aV J ab (.c (.ptr (H.length+2) 0 0))=aa (.c c):=by simp[aV,aA,h2]
   rw[agu]at d_;apply ai;simp[Z,l2,-ax];rw[<-W]at hc M;refine az (hQ _ _ (.c c) ⟨[b0+5],rfl,⟨bv,λb hb=>by rw[If.1 hb];exact M⟩,dy bv,c,L,rfl,?_,λi hi=>?_,ap,λd=>?_⟩)
   .exact hL.set (λe=>by have:=hc _ e;omega) _
   .show(J.set (b0+5) _)[i]?=_;rw[sh ap];exact A.kp i hi
   .rw[d_];unfold Ym;simp only[IS,ahP];constructor
    .rintro(⟨E,O,B,v⟩|⟨E,O,B,v⟩)
     .exact⟨E,ap,B,v⟩
     .exact⟨ap,O,(hX.2.2.2 d E).2 B,v⟩
    .rintro⟨E,O,B,v⟩;by_cases k5:d<st
     .exact .inl ⟨E,k5,B,v⟩
     .exact .inr ⟨ap,O,(hX.2.2.2 d ap).1 B,v⟩
 subst W;rcases e_ with⟨z,hW⟩|⟨z,hW⟩
 .exact ew hW.lp ce (av (j_ _ _ _ z hW.R7))
 .exact oy hW.lp ce (bJ rfl (j_ _ _ _ z hW.R7))
section
variable{Nb Mb:Int}
theorem yX{b d:aO}{st P:Int}(u:1<=b.aT)(v:1<=d.aT)(q:st=max b.fr d.fr){X Y:List Int}(l:wY b st X)(m:wY d st Y){k:Int}(s:0<=k):(bA b (st+k)=ae↔k % b.aT∈X)/\(bA d (st+k)=ae↔k % d.aT∈Y):=by
 have g:=l.2.2.2 (st+k) ap;have j:=m.2.2.2 (st+k) ap;rw[show st+k-st=k by omega]at g j;exact⟨g,j⟩
theorem rV(a b:aO)(sa:jG Nb a)(sb:jG Mb b){R:Int}(R0:0<R)(R1:R ∣ 27720)(Ra:a.aT ∣ R)(Rb:b.aT ∣ R)(j:Int)(f:Bool->Bool->Bool)(hk:(j=0/\f=λx y=>x&&y)\/(j=1/\f=λx y=>x||y)\/(j=2/\f=λx y=>x&&!y)) :
  ∃q,cI q=ae/\q.fr<=max a.fr b.fr/\q.aT ∣ R/\(∀d,0<=d->bA q d=f (bA a d) (bA b d))/\bg tab ue [.a (a.row.map .f),.a (b.row.map .f),vi j]=Eq (.t [.a (q.row.map .f),vi 0]):=by
 have va:=uQ a (kj sa.ok);have h_:=uQ b (kj sb.ok);rw[sa.ok]at va;rw[sb.ok]at h_;simp only[aO.row,agm,agp]at va h_;have R2:R<=27720:=agZ ce R1;have af3:=sa.le;have af4:=sb.le;have hfa:=sa.fr;have hfb:=sb.fr;have hha:=sa.head;have hhb:=sb.head;have hca:=sa.bF;have hcb:=sb.bF;obtain⟨r,⟨q,c1,c2,c3,c4,rfl⟩,h⟩:∃r,(∃q,cI q=ae/\q.fr<=max a.fr b.fr/\q.aT ∣ R/\(∀d,0<=d->bA q d=f (bA a d) (bA b d))/\r=.t [.a (q.row.map .f),vi 0])/\bg tab ue [.a (a.row.map .f),.a (b.row.map .f),vi j] r:=by
  refine dx rfl rfl λQ hQ=>?_;apply ai;simp[aO.row];obtain⟨HA,b_⟩:=aI ([.box [.f (sl a.hg (ints a.head)),.f (fi a.fr),.f (fi a.aT),.f (sl a.cg (ints a.bF))] 0,.box [.f (sl b.hg (ints b.head)),.f (fi b.fr),.f (fi b.aT),.f (sl b.cg (ints b.bF))] 0,.box [.f .aJ,.f (fi 0),.f (fi 0),.f .aJ] 0]:an);rw[<-b_];have al:HA.length=3:=by rw[b_];rfl
  have l0:aV HA (aa 4) (.c (.ptr 0 0 0))=aa (.a [.f (sl a.hg (ints a.head)),.f (fi a.fr),.f (fi a.aT),.f (sl a.cg (ints a.bF))]):=by rw[b_];simp[aV,aA,aW]
  have l1:aV HA (aa 4) (.c (.ptr 1 0 0))=aa (.a [.f (sl b.hg (ints b.head)),.f (fi b.fr),.f (fi b.aT),.f (sl b.cg (ints b.bF))]):=by rw[b_];simp[aV,aA,aW]
  have a2:HA[2]?=aa (.box [.f .aJ,.f (fi 0),.f (fi 0),.f .aJ] 0):=by rw[b_];rfl
  apply au;apply ai;simp[l0,l1,-ax,va,h_];refine bE bv ?_;obtain⟨r,HN,g_,z,s,st,X,Y,cx,cy,l,m,N,sA,sB,xa,xb,ya,yb,rfl,d9,hX,hY,n8,z7⟩:=G8 a b sa.ok sb.ok ap ap ap ap ap ap HA;simp only[aO.row,agm,agp]at g_;obtain⟨q1,q2,q3,q4,q5,q6,q7,q8,q9⟩:=bC sA.ok;obtain⟨w1,w2,w3,w4,w5,w6,w7,w8,w9⟩:=bC sB.ok;obtain⟨g,hg⟩:=aI ((ag6 z.aT s.aT:Int):Int);rw[<-hg]at g_ n8;have r_:z.aT ∣ R:=ag0 sA.aT Ra;have s7:s.aT ∣ R:=ag0 sB.aT Rb;obtain⟨P,hP⟩:=aI (z.aT / (ag6 z.aT s.aT:Int)*s.aT);have U:BS z.aT s.aT P:=hP▸GP q3 w3;have n_:P ∣ R:=U.dvd R r_ s7;have O:P<=27720:=ag5 (agZ R0 n_) R2;have hp0:=U.pos;have agd:z.aT<=27720:=ag5 (agZ R0 r_) R2;have age:s.aT<=27720:=ag5 (agZ R0 s7) R2;have frA:=sA.fr;have frB:=sB.fr;have g0:0<g:=by rw[hg];have:=ahv s.aT (show z.aT≠0 by omega);omega
  have hmm:∀d,0<=d->f (bA z d) (bA s d)=f (bA a d) (bA b d):=λd hd=>by rw[sA.mem d hd,sB.mem d hd]
  have i6:=Cz q3 (by omega:z.aT<=1000000) w3 (by omega:s.aT<=1000000);rw[<-hP]at i6;have o_:(X.length:Int)<=z.aT:=by
   have:=fj X 0 z.aT hX.2.1 λx S=>by have:=hX.2.2.1 x S;omega
   omega
  have y8:(Y.length:Int)<=s.aT:=by
   have:=fj Y 0 s.aT hY.2.1 λx S=>by have:=hY.2.2.1 x S;omega
   omega
  have x9:g ∣ z.aT:=by rw[hg];exact ah0 ..
  have j9:g ∣ s.aT:=by rw[hg];exact ah7 ..
  obtain⟨D,hD⟩:=aI (s.aT / g);have D0:0<=D:=by rw[hD];exact aha ap ap
  have D1:D<=30000:=by have:=Int.ediv_le_self g (show 0<=s.aT by omega);omega
  have j_:∀r,((ie g Y r).length:Int)<=D:=λr=>by rw[hD];exact Qa g0 j9 hY.2.1 (λy A=>hY.2.2.1 y A) ap
  have eP:z.aT*D=P:=by
   rw[hD,hP,<-hg];obtain⟨u,hu⟩:=x9;obtain⟨v,hv⟩:=j9;rw[hv,hu,ahD _ ap,ahD _ ap,Int.mul_assoc,Int.mul_left_comm]
  have hXD:(X.length:Int)*D<=P:=by rw[<-eP];exact agI o_ D0
  obtain⟨bp,i_⟩:=aI (HN.length);obtain⟨K,a_⟩:=aI (HN++[bO.box (cL z s st cx cy g m) 0]);have l4:K.length=bp+1:=by rw[a_];simp[i_]
  have p4:K[bp]?=aa (.box (cL z s st cx cy g m) 0):=by rw[a_,i_];simp
  have c9:PH K N X Y g l cx cy m:=n8.bH λi hi=>by rw[a_,AI hi]
  have z2:HN[2]?=aa (.box [.f .aJ,.f (fi 0),.f (fi 0),.f .aJ] 0):=by rw[z7 2 ap];exact a2
  have z4:K[2]?=aa (.box [.f .aJ,.f (fi 0),.f (fi 0),.f .aJ] 0):=by rw[a_,AI (aj z2)];exact z2
  have af5:2<bp:=by have:=aj z2;omega
  apply ai;simp[l0,l1,-ax,g_.eq,A_];rw[<-a_,<-i_]
  suffices I:∀t:T,t.g 2=vi j->t.g 6=.c (.ptr 2 0 0)->t.g 8=.c (.ptr bp 0 0)->WP tab ue ab [.code Ju] ⟨t,[],K⟩ Q by exact I _ bv bv bv
  clear g_ l0 l1 va h_;intro t g2 g6 B;have L4:=qF p4;apply ai;simp[B,L4.lap,L4.lbp,-ax,i6];apply au;apply ai;simp;refine bE bv ?_;obtain⟨r,H5,q_,ch,Z,rfl,k_,r6,r5,hl5,af_,hlh,z_⟩:=QQ z s sA.ok sB.ok ap ap st d9 cx cy g m K;have k5:∀(i:Nat) y,K[i]?=aa y->H5[i]?=aa y:=λi y A=>by rw[r5 i (aj A)];exact A
  have p5:=k5 _ _ p4;have c_:=c9.bH r5;have L5:=qF p5;obtain⟨r,H6,W,n,rfl,n0,n1,j5,hl6⟩:=KX z s st c_ g0 (λx S=>by have:=hX.2.2.1 x S;omega) ap D0 D1 j_;have k6:∀(i:Nat) y,H5[i]?=aa y->H6[i]?=aa y:=λi y A=>by rw[j5 i (aj A)];exact A
  have p6:=k6 _ _ p5;have L6:=qF p6;have af8:Z.length<=200000:=by omega
  have lh:bh H5 ch=aa Z.length:=by have:=k_.len;simpa[ints]using this
  apply ai;simp[B,L4.GN,-ax,q_.eq];apply ai;simp[B,lh,L5.GN,-ax,W.eq,aZ (n:=(Z.length:Int)+n)];obtain⟨ka,ka0,ka1,i8⟩:=Bb z sA.ok ap ap st ap ap;obtain⟨kb,kb0,kb1,i9⟩:=Bb s sB.ok ap ap st ap ap;simp only[aO.row,agm,agp]at i8 i9;have lX:bh H6 cx=aa X.length:=by have:=(c_.bH j5).lx.len;simpa[ints]using this
  have lY:bh H6 cy=aa Y.length:=by have:=(c_.bH j5).ly.len;simpa[ints]using this
  have d1:cT .quo (vi P) (vi z.aT)=aa (vi (P / z.aT)):=e9 ap ap ap;have d2:cT .quo (vi P) (vi s.aT)=aa (vi (P / s.aT)):=e9 ap ap ap;have m1:0<=(X.length:Int)*(P / z.aT)/\(X.length:Int)*(P / z.aT)<=27720:=⟨ag7 ap (aha ap ap),ag5 (agI o_ (aha ap ap)) (by rw[Int.mul_ediv_cancel' U.da];exact O)⟩
  have m2:0<=(Y.length:Int)*(P / s.aT)/\(Y.length:Int)*(P / s.aT)<=27720:=⟨ag7 ap (aha ap ap),ag5 (agI y8 (aha ap ap)) (by rw[Int.mul_ediv_cancel' U.db];exact O)⟩
  obtain⟨u1,j7⟩:=aI ((X.length:Int)*(P / z.aT));obtain⟨u2,j8⟩:=aI ((Y.length:Int)*(P / s.aT));rw[<-j7]at m1;rw[<-j8]at m2;apply ai;simp[B,L6.la,L6.ni,L6.lx,L6.lap,-ax,i8,lX,d1,<-j7,aZ (n:=u1),aZ (n:=ka+u1)];apply ai;simp[B,L6.lb,L6.ni,L6.ly,L6.lbp,-ax,i9,lY,d2,<-j8,aZ (n:=u2),aZ (n:=kb+u2)];obtain⟨v0,s_⟩:=aI ((Z.length:Int)+n);obtain⟨o,t6⟩:=aI (ka+u1);obtain⟨v2,t7⟩:=aI (kb+u2);rw[<-s_,<-t6,<-t7];have b0:0<=v0/\v0<=230000:=by omega
  have b1:0<=o/\o<=400000:=by omega
  have b2:0<=v2/\v2<=400000:=by omega
  suffices I:∀t:T,t.g 2=vi j->t.g 6=.c (.ptr 2 0 0)->t.g 8=.c (.ptr bp 0 0)->t.g 9=vi P->t.g 11=.c ch->t.g 12=vi v0->t.g 13=vi o->t.g 14=vi v2->WP tab ue ab [.code Jv] ⟨t,[],H6⟩ Q by exact I _ (by simp[g2]) (by simp[g6]) (by simp[B]) bv bv bv bv bv
  clear i8 i9 d1 d2 m1 m2 j7 j8 s_ t6 t7 lX lY q_ W;clear g2 g6 B t;intro t g2 g6 B g9 u_ v_ w_ x6;apply au;apply ai;simp[v_,w_,x6,aZ (n:=o+v2),aZ (n:=o+v2-v0),aZ (n:=o-v0)];obtain⟨p,d_⟩:=aI (H6++[bO.box [.f (fi v0),.f (fi (o+v2-v0)),.f (fi (o-v0))] 0]);obtain⟨bc,p9⟩:=aI (H6.length);rw[<-d_,<-p9];have c7:p[bc]?=aa (.box [.f (fi v0),.f (fi (o+v2-v0)),.f (fi (o-v0))] 0):=by rw[d_,p9];simp
  have k7:∀(i:Nat) y,H6[i]?=aa y->p[i]?=aa y:=λi y A=>by rw[d_,AI (aj A)];exact A
  have f_:∀i:Nat,i<K.length->p[i]?=K[i]?:=λi hi=>by
   have A:K[i]?=aa K[i]:=By hi;rw[A];exact k7 i _ (k6 i _ (k5 i _ A))
  have l7:K.length<=p.length:=by rw[d_,aft];omega
  have u9:∃w:Int,bG p 1 (aa 3) (.c (.ptr bc 0 0)) (vi j)=aa (.c (.ptr bc j.toNat 0))/\aV p ab (.c (.ptr bc j.toNat 0))=aa (vi w)/\w<=1048576:=by
   rcases hk with⟨rfl,-⟩|⟨rfl,-⟩|⟨rfl,-⟩
   .exact⟨v0,by simp[bG,c7,fG],by simp[aV,aA,c7,aW],ap⟩
   .exact⟨o+v2-v0,by simp[bG,c7,fG],by simp[aV,aA,c7,aW],ap⟩
   .exact⟨o-v0,by simp[bG,c7,fG],by simp[aV,aA,c7,aW],ap⟩
  obtain⟨w,ci,cl,cw⟩:=u9;apply ai;simp[g2,ci,cl,-ax,show¬ 1048576<w by omega];refine bE bv ?_;apply ai;simp;apply au;apply ai;simp;refine ay ?_;have p7:=k7 _ _ p6;have L7:=qF p7;have rest:∀(t:T) (J:an) (c:C) (L:List Int),t.g 6=.c (.ptr 2 0 0)->t.g 8=.c (.ptr bp 0 0)->t.g 9=vi P->t.g 16=.c c->LR J c 1 (ints L)->L.length<=1000000->(∀d,d∈L↔0<=d/\d<st+P/\f (bA z d) (bA s d)=ae)->(∀i:Nat,i<K.length->J[i]?=K[i]?)->WP tab ue ab [.code zL] ⟨t,[],J⟩ Q:=by
   intro t J c L g6 B g9 x8 hL x_ y6 hJ;exact Ct f sA.ok sB.ok d9 U ap O n_ ap hmm hL x_ y6 (by rw[hJ 2 ap];exact z4) (by rw[hJ bp ap];exact p4) ap g6 B g9 x8 hQ
  rcases hk with⟨rfl,rfl⟩|⟨rfl,rfl⟩|⟨rfl,rfl⟩
  .
   obtain⟨r,H8,z8,c,M,rfl,E,-,j6,hl8,l_,m9,m_⟩:=Rh (L0:=Z) (ch:=ch) (H:=p) z s st c9 f_ l7 (k_.bH λi y A _=>k7 i y (k6 i y A)) r6 hg q3 w3 hP ap (λx S=>hX.2.2.1 x S) (λy A=>hY.2.2.1 y A) ap D0 D1 j_ ap ap ap ap;apply ai;simp[g2];refine aw bv (aq (.inl rfl) ?_);simp[B,u_,L7.GN,-ax,z8.eq];refine av (rest _ H8 c (Z++M) (by simp[g6]) (by simp[B]) (by simp[g9]) bv E (by rw[aft];omega) (λd=>?_) j6);rw[agl,z_];simp only[IS];constructor
   .rintro(⟨h0,h1,e,h3⟩|h)
    .exact⟨h0,ap,e,h3⟩
    .obtain⟨k,rfl,k0,k1,ka,kb⟩:=m9 d h;obtain⟨s1,s2⟩:=yX (P:=P) q3 w3 d9 hX hY k0;exact⟨ap,ap,s1.2 ka,s2.2 kb⟩
   .rintro⟨h0,h1,e,h3⟩;by_cases hd:d<st
    .exact .inl ⟨h0,hd,e,h3⟩
    .obtain⟨s1,s2⟩:=yX (P:=P) q3 w3 d9 hX hY (k:=d-st) ap;rw[show st+(d-st)=d by omega]at s1 s2;have:=m_ (d-st) ap ap (s1.1 e) (s2.1 h3);rw[show st+(d-st)=d by omega]at this;exact .inr this
  .
   obtain⟨L1,g1,t8,hp1,r7⟩:=Bv z sA.ok ap ap 0 (st+P) ap ap ap;obtain⟨L2,i7,t_,hp2,r9⟩:=Bv s sB.ok ap ap 0 (st+P) ap ap ap;simp only[aO.row,agm,agp]at t8 t_;have hl1:L1.length<=130000:=by
    have:=fj L1 0 (st+P) hp1 λx S=>by have:=(r7 x).1 S;unfold SW at this;omega
    omega
   have hl2:L2.length<=130000:=by
    have:=fj L2 0 (st+P) hp2 λx S=>by have:=(r9 x).1 S;unfold SW at this;omega
    omega
   apply ai;simp[g2];refine aD bv ?_;apply ai;simp;refine aw bv (aq (.inl rfl) ?_);obtain⟨H8,e_⟩:=aI (p++[bO.box [.f (sl g1 (ints L1)),.f (sl i7 (ints L2))] 0]);have c8:H8[p.length]?=aa (.box [.f (sl g1 (ints L1)),.f (sl i7 (ints L2))] 0):=by rw[e_];simp
   have p_:(ints L1++ints L2)=ints (L1++L2):=by simp[ints]
   obtain⟨r,H9,W,c,rfl,E,y_,-,-⟩:=uC (tab:=tab) (H:=H8) (F:=FN) (G:=Pg) (sz:=1) (bytes:=8) (zs:=[fi 0]) X6 Ye ce rfl (b:=p.length) [(.f (sl g1 (ints L1)),ints L1),(.f (sl i7 (ints L2)),ints L2)] c8 bv
    (λx S=>by
     simp only[agA,ahG,or_false]at S;rcases S with rfl|rfl
     .exact⟨Km.Ord.cQ _,λH' _=>⟨bv,kv (Km.Ord.cQ _)⟩⟩
     .exact⟨Km.Ord.cQ _,λH' _=>⟨bv,kv (Km.Ord.cQ _)⟩⟩)
    (by simp[ints];omega) (gV (by simp[ints];omega) ce)
   have E:LR H9 c 1 (ints (L1++L2)):=by
    rw[<-p_];simpa using E
   have W:Ev tab (.fn FN) [.c (.sl p.length 0 2 2 0 1)] H8 (.c c) H9:=W;simp[B,g9,L7.la,L7.lb,L7.ni,-ax,aZ (n:=st+P),t8,t_,<-e_,W.eq];refine av (rest _ H9 c (L1++L2) (by simp[g6]) (by simp[B]) (by simp[g9]) bv E (by rw[aft];omega) (λd=>?_) λi hi=>?_)
   .rw[agl,r7,r9];unfold SW;simp only[Bool.or_eq_true];constructor
    .rintro(⟨h0,h1,e⟩|⟨h0,h1,e⟩)
     .exact⟨h0,h1,.inl e⟩
     .exact⟨h0,h1,.inr e⟩
    .rintro⟨h0,h1,e|e⟩
     .exact .inl ⟨h0,h1,e⟩
     .exact .inr ⟨h0,h1,e⟩
   .rw[y_ i (by rw[e_,aft];omega),e_,AI ap];exact f_ i hi
  .
   have n9:=c9.bH f_;obtain⟨r,H8,hwe,c,M,rfl,E,j6,l_,y7⟩:=Hx sA.ok sB.ok n9 d9 ap hX hY hg U O;apply ai;simp[g2];refine aD bv ?_;apply ai;simp;refine aD bv ?_;apply ai;simp;refine aw bv (aq (.inl rfl) ?_);simp[B,g9,L7.GN,-ax,hwe.eq];refine av (rest _ H8 c M (by simp[g6]) (by simp[B]) (by simp[g9]) bv E l_ y7 λi hi=>?_);rw[j6 i ap];exact f_ i hi
 exact⟨q,c1,c2,c3,c4,h.eq⟩
theorem W1(a b:aO)(E:jG Nb a)(F:jG Mb b){R:Int}(j:0<R)(l:R ∣ 27720)(m:a.aT ∣ R)(s:b.aT ∣ R) :
  ∃q,cI q=ae/\q.fr<=max a.fr b.fr/\q.aT ∣ R/\(∀d,0<=d->bA q d=(bA a d&&bA b d))/\bg tab abV [.a (a.row.map .f),.a (b.row.map .f)]=Eq (.t [.a (q.row.map .f),vi 0]):=by
 obtain⟨q,u,v,z,A,g⟩:=rV a b E F j l m s 0 (λx y=>x&&y) (.inl ⟨rfl,rfl⟩);refine⟨q,u,v,z,A,bg.eq (bK rfl rfl λQ B=>?_)⟩;simp only[aO.row,agm,agp]at g ⊢;apply ai;simp;apply ai;simp[g];refine az (B _ _ ?_);simp[aO.row]
theorem Vc(a b:aO)(E:jG Nb a)(F:jG Mb b){R:Int}(j:0<R)(l:R ∣ 27720)(m:a.aT ∣ R)(s:b.aT ∣ R) :
  ∃q,cI q=ae/\q.fr<=max a.fr b.fr/\q.aT ∣ R/\(∀d,0<=d->bA q d=(bA a d||bA b d))/\bg tab W8 [.a (a.row.map .f),.a (b.row.map .f)]=Eq (.t [.a (q.row.map .f),vi 0]):=by
 obtain⟨q,u,v,z,A,g⟩:=rV a b E F j l m s 1 (λx y=>x||y) (.inr (.inl ⟨rfl,rfl⟩));refine⟨q,u,v,z,A,bg.eq (bK rfl rfl λQ B=>?_)⟩;simp only[aO.row,agm,agp]at g ⊢;apply ai;simp;apply ai;simp[g];refine az (B _ _ ?_);simp[aO.row]
theorem PL(a b:aO)(E:jG Nb a)(F:jG Mb b){R:Int}(j:0<R)(l:R ∣ 27720)(m:a.aT ∣ R)(s:b.aT ∣ R) :
  ∃q,cI q=ae/\q.fr<=max a.fr b.fr/\q.aT ∣ R/\(∀d,0<=d->bA q d=(bA a d&&!bA b d))/\bg tab W7 [.a (a.row.map .f),.a (b.row.map .f)]=Eq (.t [.a (q.row.map .f),vi 0]):=by
 obtain⟨q,u,v,z,A,g⟩:=rV a b E F j l m s 2 (λx y=>x&&!y) (.inr (.inr ⟨rfl,rfl⟩));refine⟨q,u,v,z,A,bg.eq (bK rfl rfl λQ B=>?_)⟩;simp only[aO.row,agm,agp]at g ⊢;apply ai;simp;apply ai;simp[g];refine az (B _ _ ?_);simp[aO.row]
end
def cU(p:aO):List C:=[.f (sl p.hg (ints p.head)),.f (fi p.fr),.f (fi p.aT),.f (sl p.cg (ints p.bF))]
theorem dH(p:aO):cU p=p.row.map .f:=rfl
theorem mS(n:Nat)(J:an)(p:aO):bu (fh n J) (cU p)=aa p.row:=by rw[dH,lu]
theorem mU(n:Nat)(J:an)(p:aO):List.foldl (λH x=>ef n x H) J (cU p)=J:=by
 rw[dH,ju];intro x b;obtain⟨y,-,rfl⟩:=agt.1 b;exact⟨y,rfl⟩
def dM(ps:List aO):List (List C):=ps.map cU
theorem fY(ps:List aO):(dM ps).length=ps.length:=by simp[dM]
theorem fM(ps:List aO):vn 4 (dM ps):=λr b=>by
 obtain⟨p,-,rfl⟩:=agt.1 b;rfl
theorem rY(ps:List aO):(dM ps).flatten=(aQ ps).flatten.map .f:=by
 induction ps with
 |nil=>rfl
 |cons p ps g=>
  have b:dM (p::ps)=cU p::dM ps:=rfl;have d:aQ (p::ps)=p.row::aQ ps:=rfl;rw[b,d,agG,agG,ahl,g,dH]
theorem uV(a b:List aO):dM (a++b)=dM a++dM b:=by simp[dM]
theorem MD(ps:List aO)(j:Nat):(dM ps).eraseIdx j=dM (ps.eraseIdx j):=by
 rw[aht,aht,uV];simp[dM,List.map_take,ahZ]
def zp:aO:=⟨.nil,[],0,0,.nil,[]⟩
def BX(J:an)(b cap:Nat)(ps:List aO):Prop:=∃rest,J[b]?=aa (.box ((dM ps).flatten++rest) 0)/\((dM ps).flatten++rest).length=cap*4
section
variable{J:an}{b cap:Nat}{ps:List aO}
theorem BX.lt(h:BX J b cap ps):b<J.length:=by obtain⟨_,h,_⟩:=h;exact aj h
theorem BX.push(h:BX J b cap ps)(L:an):BX (J++L) b cap ps:=by
 have:=h.lt;obtain⟨r,h1,h2⟩:=h;exact⟨r,by rw[AI this];exact h1,h2⟩
theorem BX.len(h:BX J b cap ps):bh J (.sl b 0 ps.length cap 0 4)=aa ps.length:=by
 obtain⟨r,h1,h2⟩:=h;simp[bh,h1]
theorem ZE{rest:List C}{i:Nat}(hi:i<ps.length):(((dM ps).flatten++rest).drop (i*4)).take 4=cU ps[i]:=by
 have b:=dT (fM ps);rw[fY]at b;rw[ahS ap,ov i (fM ps)];have e:(dM ps).drop i=cU ps[i] ::(dM ps).drop (i+1):=by
  rw[ags (by rw[fY];exact hi)];simp[dM]
 rw[e,agG,agM,ahq (by simp[cU])];exact agw (by simp[cU])
theorem BX.at(h:BX J b cap ps){i:Nat}(hi:i<ps.length):bG J 4 ab (.c (.sl b 0 ps.length cap 0 4)) (vi i)=aa (.c (.ptr b (i*4) 0))/\aV J (aa 4) (.c (.ptr b (i*4) 0))=aa (.a (cU ps[i])):=by
 obtain⟨r,h1,h2⟩:=h;refine⟨?_,?_⟩
 .simp[bG,show fG (vi i)=aa (i:Int) from rfl,h1,hi]
 .have hl:=dT (fM ps);rw[fY]at hl;have:=ZE (rest:=r) hi;simp only[aV,aA,h1,ag8,aW];rw[bZ (by rw[List.length_drop,aft];omega),this]
theorem BX.st(h:BX J b cap ps){i:Nat}(hi:i<ps.length)(q:aO):∃J',cY J (.ptr b (i*4) 0) (cU q)=aa J'/\BX J' b cap (ps.set i q)/\J'.length=J.length/\∀k:Nat,k≠b->J'[k]?=J[k]?:=by
 obtain⟨r,h1,h2⟩:=h;have hl:=dT (fM ps);rw[fY]at hl;have ho:over ((dM ps).flatten++r) (i*4) (cU q)=(dM (ps.set i q)).flatten++r:=by
  have d:(dM ps).flatten=(dM (ps.take i)).flatten++cU ps[i]++(dM (ps.drop (i+1))).flatten:=by
   have:ps=ps.take i++ps[i]::ps.drop (i+1):=by rw[<-ags hi,ahr]
   conv=>lhs;rw[this]
   rw[uV,ahM,agM];rfl
  have g:(dM (ps.set i q)).flatten=(dM (ps.take i)).flatten++cU q++(dM (ps.drop (i+1))).flatten:=by
   rw[ahV,bZ hi,uV,ahM,agM];rfl
  have j:((dM (ps.take i)).flatten).length=i*4:=by rw[dT (fM _),fY,agO];omega
  rw[d,g,<-j,agM,agM,Ew];rw[ahS (by simp[cU])];have:(cU ps[i]).drop (cU q).length=[]:=by simp[cU]
  rw[this,ahF];simp only[agM]
 refine⟨_,?_,⟨r,BY (aj h1),?_⟩,bv,λk l=>sh (Ne.symm l)⟩
 .simp only[cY,h1];rw[bZ ⟨ahN _,by rw[aft,hl];simp[cU];omega⟩,ho]
 .rw[aft,dT (fM _),fY,agx];rw[aft,hl]at h2;exact h2
theorem BX.del(h:BX J b cap ps){j:Nat}(q:j<ps.length)(g:cap<=1000000) :
  ∃r H',Ev tab (.fn FX) [.c (.sl b 0 ps.length cap 0 4),vi j,vi (j+1:Nat)] J r H'/\(r=.c (.sl b 0 (ps.eraseIdx j).length cap 0 4)/\BX H' b cap (ps.eraseIdx j)/\H'.length=J.length/\∀k:Nat,k≠b->H'[k]?=J[k]?):=by
 obtain⟨rest,h1,h2⟩:=h;obtain⟨r,H',m,s,d,rfl,hl⟩:=Tx (tab:=tab) (F:=FX) (sz:=4) (bytes:=64) (zs:=[.aJ,fi 0,fi 0,.aJ]) Yb ce rfl (fM ps) h1 h2 (j:=j) (by rw[fY];exact q) g;rw[fY]at m s;have e:(dM ps).eraseIdx j=dM (ps.eraseIdx j):=MD ps j;rw[e]at hl;rw[e]at m;have l:(ps.eraseIdx j).length=ps.length-1:=by rw[aii,bZ q]
 exact⟨r,_,m,by rw[s,l],⟨d,BY (aj h1),hl⟩,bv,λk u=>sh (Ne.symm u)⟩
theorem BX.ex(h:BX J b cap ps)(h0:ps≠[])(n:Nat):fh (n+1) J (.sl b 0 ps.length cap 0 4)=aa (sl .fs (aQ ps)):=by
 obtain⟨r,h1,h2⟩:=h;have hl:=dT (fM ps);rw[fY]at hl;simp only[gT,h1];rw[bZ (by rw[aft];omega),ahi,ahq ap,agw ap,rY,lu];cases ps with
 |nil=>exact absurd rfl h0| cons p ps=>simp[sl,aQ]
end
theorem xA(p q:aO)(j:1<=p.aT)(l:p.aT<=1000000)(m:1<=q.aT)(s:q.aT<=1000000):bg tab abJ [.a (cU p),.a (cU q)]=Eq (vb (decide (p.aT % q.aT=0)||decide (q.aT % p.aT=0))):=by
 have d:cT .rem (vi p.aT) (vi q.aT)=aa (vi (p.aT % q.aT)):=gQ ap ap;have g:cT .rem (vi q.aT) (vi p.aT)=aa (vi (q.aT % p.aT)):=gQ ap ap;refine bg.eq (bK rfl rfl λQ b=>?_);apply ai;simp[cU];apply ai;by_cases h:p.aT % q.aT=0
 .simp[d,h];refine az (b _ _ ?_);simp[h]
 .simp[d,g,h];refine az (b _ _ ?_);simp[h]
section
variable{Nb:Int}
def dX(ps:List aO)(d:Int):Prop:=∀p∈ps,bA p d=ae
theorem fB(a b:List aO)(d:Int):dX (a++b) d↔dX a d/\dX b d:=by
 unfold dX;constructor
 .intro h;exact⟨λp g=>h p (ag3 _ g),λp g=>h p (ahR _ g)⟩
 .rintro⟨j,l⟩ p g;rcases agl.1 g with h|h
  .exact j p h
  .exact l p h
theorem jG.can{p q:aO}(h:jG Nb p)(b:oP p q):jG Nb q:=⟨b.ok,by have:=b.fr;have:=h.fr;omega,ag0 b.aT h.aT,ag5 (agZ (by have:=(bC h.ok).2.2.1;omega) b.aT) h.bd⟩
theorem Mk{ps:List aO}{i j:Nat}(y:i<j)(z:j<ps.length){q:aO}(E:∀d,0<=d->bA q d=(bA (ps[i]'(by omega)) d&&bA ps[j] d))(d:Int)(v:0<=d):dX ((ps.set i q).eraseIdx j) d↔dX ps d:=by
 have hi:i<ps.length:=by omega
 have m:ps=ps.take i++ps[i] ::((ps.drop (i+1)).take (j-(i+1))++ps[j]::ps.drop (j+1)):=by
  conv=>lhs;rw[<-ahr i ps,ags hi]
  congr 2
  conv=>lhs;rw[<-ahr (j-(i+1)) (ps.drop (i+1)),ah4]
  rw[show i+1+(j-(i+1))=j by omega,ags z]
 have s:(ps.set i q).eraseIdx j=ps.take i++q ::((ps.drop (i+1)).take (j-(i+1))++ps.drop (j+1)):=by
  have u:ps.set i q=ps.take i++q::ps.drop (i+1):=by rw[ahV,bZ hi]
  have B:(ps.take i).length=i:=by rw[agO];omega
  rw[u,aiI ap,B]
  congr 1
  obtain⟨k,A⟩:∃k,j-i=k+1:=⟨j-i-1,ap⟩
  rw[A,List.eraseIdx_cons_succ,aht,ah4];rw[show j-(i+1)=k by omega,show i+1+(k+1)=j+1 by omega]
 have F:=E d v;rw[s]
 conv=>rhs;rw[m]
 rw[fB,fB];have c:∀(x:aO) l,dX (x::l) d↔bA x d=ae/\dX l d:=λx l=>by simp[dX]
 rw[c,c,fB,fB,c,F,IS];constructor
 .rintro⟨a,⟨b,e⟩,f,g⟩;exact⟨a,b,f,e,g⟩
 .rintro⟨a,b,f,e,g⟩;exact⟨a,⟨b,e⟩,f,g⟩
theorem Ml{ps:List aO}{i j:Nat}{q:aO}(g:∀p∈ps,jG Nb p)(d:jG Nb q):∀p∈(ps.set i q).eraseIdx j,jG Nb p:=λp b=>by
 have:=List.mem_of_mem_eraseIdx b;rcases aie this with h|rfl
 .exact g p h
 .exact d
structure MG(Nb:Int)(us ps:List aO):Prop where
 ne:ps≠[]
 le:ps.length<=us.length
 sm:∀p∈ps,jG Nb p
 mem:∀d,0<=d->(dX ps d↔dX us d)
theorem Mm(g:Tg)(us:List aO)(m9:∀u∈us,jG Nb u)(h0:us≠[])(hl:us.length<=64):∃ps,MG Nb us ps/\bg tab Pz [.c (.f (sl g (aQ us)))]=Eq (.c (.f (sl .fs (aQ ps)))):=by
 obtain⟨r,⟨ps,j5,rfl⟩,h⟩:∃r,(∃ps,MG Nb us ps/\r=.c (.f (sl .fs (aQ ps))))/\bg tab Pz [.c (.f (sl g (aQ us)))] r:=by
  refine dx rfl rfl λQ hQ=>?_;have o_:=agV.2 h0;obtain⟨n,hn⟩:=aI (us.length);have Y:∀H:an,bh H (.f (sl g (aQ us)))=aa n:=λH=>by rw[hn];simp
  apply ai;simp;refine nM (ai ?_);have l_:∀(t:T) (H:an),t.g 11=vi n->cm t H (.fI 4 64 [.aJ,fi 0,fi 0,.aJ] (R 11) (R 11))=aa (.c (.sl H.length 0 n n 0 4),H++[.box ((dJ n [FC.aJ,fi 0,fi 0,.aJ]).map .f) 0]):=by
   intro t H ht;simp only[cm,oi,ht];have hi:fG (vi n)=aa (n:Int):=rfl;simp only[hi];rw[bZ ⟨ap,ahw _,gV ge ce,rfl⟩,ct ap];simp
  simp[Y,l_];obtain⟨HA,g_⟩:=aI ([bO.box (List.replicate n [C.f FC.aJ,C.f (fi 0),C.f (fi 0),C.f FC.aJ]).flatten 0]);have j8:BX HA 0 n ([]++List.replicate n zp):=by
   refine⟨[],?_,?_⟩
   .rw[g_,ahF,agN];have:dM (List.replicate n zp)=List.replicate n [C.f FC.aJ,C.f (fi 0),C.f (fi 0),C.f FC.aJ]:=by
     rw[dM,aiR];rfl
    rw[this];rfl
   .rw[ahF,agN,dT (fM _),fY,ah2]
  rw[<-g_];apply au;apply ai;simp[Y];refine bS n (λj t J=>t.g 3=.c (.sl 0 0 n n 0 4)/\t.g 13=.c (.f (sl g (aQ us)))/\∃qs,qs.length=j/\BX J 0 n (qs++List.replicate (n-j) zp)/\(∀q∈qs,jG Nb q)/\∀d,0<=d->(dX qs d↔dX (us.take j) d)) ap ce ce bv bv
   ⟨bv,bv,[],rfl,by simpa using j8,bv,λd _=>by simp⟩ ?_ ?_
  .rintro j t J hj ⟨y,b_,qs,v,K,d9,O⟩ ha hb next
   have c_:j<us.length:=by omega
   have F:=λH:an=>bz (H:=H) (g:=g) (rows:=aQ us) (sz:=4) (k:=.i64) (i:=(j:Int)) ap ge;have d_:=λH:an=>cf (H:=H) (bQ us) (dd c_);simp only[agD]at F;have E:=m9 _ (IN c_);have j6:us.take (j+1)=us.take j++[us[j]]:=by rw[agv,By c_];rfl
   obtain⟨u,hu⟩:=aI (us[j]);rw[<-hu]at d_ E j6;obtain⟨q,hq,-,-,U⟩:=OU u E.ok (by have:=E.bF;omega) (by have:=E.head;omega);simp only[aO.row,agm,agp]at d_ U;obtain⟨Z,l⟩:=aI (J++[bO.box [C.f (sl u.hg (ints u.head)),C.f (fi u.fr),C.f (fi u.aT),C.f (sl u.cg (ints u.bF))] 0]);have A:BX Z 0 n (qs++List.replicate (n-j) zp):=by rw[l];exact K.push _
   have k_:(qs++List.replicate (n-j) zp).length=n:=by rw[aft,ah2];omega
   have b1:Z[J.length]?=aa (.box [C.f (sl u.hg (ints u.head)),C.f (fi u.fr),C.f (fi u.aT),C.f (sl u.cg (ints u.bF))] 0):=by rw[l];simp
   have l1:aV Z (aa 4) (.c (.ptr J.length 0 0))=aa (.a [C.f (sl u.hg (ints u.head)),C.f (fi u.fr),C.f (fi u.aT),C.f (sl u.cg (ints u.bF))]):=by simp[aV,aA,b1,aW]
   obtain⟨j7,-⟩:=A.at (i:=j) ap;obtain⟨J2,s2,c9,-,-⟩:=A.st (i:=j) ap q;rw[k_]at j7;simp only[cU]at s2;refine ay ?_;apply ai;simp[ha,b_,F,d_,-ax];rw[<-l];refine aq (.inl rfl) ?_;simp[y,l1,-ax,U,j7,s2,-bw];refine av (next _ _ ?_ (by simp[ha]) (by simp[hb]));refine⟨by simp[y],by simp[b_],qs++[q],by simp[v],?_,λx hx=>?_,λd hd=>?_⟩
   .have e:(qs++List.replicate (n-j) zp).set j q=qs++[q]++List.replicate (n-(j+1)) zp:=by
     obtain⟨k,hk⟩:∃k,n-j=k+1:=⟨n-j-1,ap⟩
     rw[ahO _ _ ap,v,ah9,hk,ail,ahU,show n-(j+1)=k by omega,agM];rfl
    rw[<-e];exact c9
   .rcases agl.1 hx with h|h
    .exact d9 x h
    .rw[If]at h;rw[h];exact E.can hq
   .rw[j6,fB,fB,O d hd];simp only[dX,If,forall_eq];rw[hq.mem d hd]
  .rintro t J ⟨y,b_,qs,v,K,d9,O⟩ - -;rw[ah9,aiQ,agN]at K;rw[hn,agu]at O;have a_:∀(N:Nat) (ps:List aO) (t:T) (J:an),ps.length=N->t.g 3=.c (.sl 0 0 ps.length n 0 4)->BX J 0 n ps->MG Nb us ps->WP tab Pz ab [.code OL,.inScope SS] ⟨t,[],J⟩ Q:=by
    intro N;induction N using Nat.strongRecOn with
    |ind N ih=>
    intro ps t J hN y K hG;have j5:=hG.le;obtain⟨M,hM⟩:=aI (ps.length);rw[<-hM]at y;have I:=K.len;rw[<-hM]at I;apply au;apply ai;simp[y,I];refine bS M (λi t J'=>J'=J/\t.g 3=.c (.sl 0 0 M n 0 4)) ap ce ce bv bv ⟨rfl,by simp[y]⟩ ?_ ?_
    .rintro i t J' hi ⟨rfl,y⟩ ha hb next
     refine ay ?_;apply ai;simp[ha];apply ai;simp[aZ (n:=(i:Int)+1)];refine ay ?_;refine dc (λm s=>∃(j:Nat) (t':T),s=⟨t',[],J'⟩/\m=M-j/\i<j/\j<=M/\t'.g 3=.c (.sl 0 0 M n 0 4)/\t'.g 6=vi i/\t'.g 7=vi j/\t'.g 30=t.g 30/\t'.g 31=t.g 31) (M-(i+1))
      ⟨i+1,_,rfl,rfl,ap,ap,by simp[y],bv,bv,bv,bv⟩ ?_
     rintro m s ⟨j,t',rfl,rfl,j_,n_,b,L,z,e_,f_⟩ m_;apply au;apply ai;simp[b,z,I];by_cases hj:j<M
     .refine aw (by simp[hj]) (aR ?_);obtain⟨xi,li⟩:=K.at (i:=i) ap;obtain⟨xj,lj⟩:=K.at (i:=j) ap;rw[<-hM]at xi xj;have i9:i<ps.length:=by omega
      have i_:j<ps.length:=by omega
      have si:=hG.sm _ (IN i9);have sj:=hG.sm _ (IN i_);have n8:=(bC si.ok).2.2.1;have n9:=(bC sj.ok).2.2.1;have p9:=si.le;have p_:=sj.le;have W:=xA ps[i] ps[j] n8 ap n9 ap;obtain⟨dv,i6⟩:=aI ((decide (ps[i].aT % ps[j].aT=0)||decide (ps[j].aT % ps[i].aT=0)):Bool);rw[<-i6]at W;apply au;refine ay ?_;apply au;apply ai;simp[b,L,z,xi,xj,li,lj,-ax,mS,mU,<-dH,W];cases dv with
      |true=>
       have hd:ps[i].aT % ps[j].aT=0\/ps[j].aT % ps[i].aT=0:=by simpa using i6.symm
       have hR:∃R:Int,0<R/\R ∣ 27720/\R<=Nb/\ps[i].aT ∣ R/\ps[j].aT ∣ R:=by
        rcases hd with h|h
        .exact⟨ps[i].aT,ap,si.aT,si.bd,ahA _,ahH h⟩
        .exact⟨ps[j].aT,ap,sj.aT,sj.bd,ahH h,ahA _⟩
       obtain⟨R,R0,R1,R2,Ra,Rb⟩:=hR;obtain⟨q,c1,c2,c3,c4,S⟩:=W1 ps[i] ps[j] si sj R0 R1 Ra Rb;have sq:jG Nb q:=⟨c1,by have:=si.fr;have:=sj.fr;omega,ag0 c3 R1,ag5 (agZ R0 c3) R2⟩
       simp only[<-dH]at S;obtain⟨Z,l⟩:=aI (J'++[bO.box (cU q) 0]);have A:BX Z 0 n ps:=by rw[l];exact K.push _
       have b1:Z[J'.length]?=aa (.box (cU q) 0):=by rw[l];simp
       have l1:aV Z (aa 4) (.c (.ptr J'.length 0 0))=aa (.a (cU q)):=by simp[aV,aA,b1,aW,cU]
       obtain⟨F,-⟩:=A.at (i:=i) ap;rw[<-hM]at F;obtain⟨J2,s2,c9,-,-⟩:=A.st i9 q;obtain⟨r,J3,B,rfl,j9,-,-⟩:=c9.del (j:=j) (by rw[agx];omega) ap;rw[agx,<-hM]at B;have i8:(cU q).length=4:=rfl;refine bE bv ?_;apply ai;simp[b,L,z,xi,xj,li,lj,-ax,mS,mU,<-dH,S,i8];rw[<-l];apply ai;simp;refine aw bv ?_;apply ai;simp[b,L,l1,F,s2,i8,-ax,-bw];apply ai;have ej:((j+1:Nat):Int)=(j:Int)+1:=by omega
       rw[ej]at B;simp[b,z,aZ (n:=(j:Int)+1),B.eq];refine T5 rfl (au (aR ?_));have X:((ps.set i q).eraseIdx j).length=ps.length-1:=by rw[aii,bZ (by rw[agx];omega),agx]
       refine ih _ ap ((ps.set i q).eraseIdx j) _ J3 rfl ?_ j9 ⟨λe=>by rw[e]at X;simp at X;omega,ap,Ml hG.sm sq,λd h_=>by rw[Mk j_ i_ c4 d h_];exact hG.mem d h_⟩;simp
      |false=>
       refine aw bv ?_;refine bJ rfl ?_;refine aq (.inl rfl) ?_;simp[z,aZ (n:=(j:Int)+1)];exact m_ (M-(j+1)) _ ap ⟨j+1,_,rfl,rfl,ap,ap,by simp[b],by simp[L],bv,by simp[e_],by simp[f_]⟩
     .refine aD (by simp[hj]) ?_;refine bJ rfl ?_;refine av (next _ _ ⟨rfl,by simp[b]⟩ (by simp[f_,ha]) (by simp[e_,hb]))
    .rintro t J' ⟨rfl,y⟩ - -;have i7:=K.ex hG.ne 63;rw[<-hM]at i7;apply ai;simp[y];refine az (hQ _ _ _ ⟨ps,hG,rfl⟩ ⟨rfl,.c (.sl 0 0 M n 0 4),dy bv,?_⟩);simp[jh,deep,i7]
   refine au (sZ ?_);exact a_ _ qs _ J rfl (by simp[y,v]) K ⟨by intro e;rw[e]at v;simp at v;omega,ap,d9,O⟩
 exact⟨ps,j5,h.eq⟩
end
theorem sO(g g':Tg)(a b:List Int)(N:a.length<=1000000):bg tab Xs [.c (.f (sl g (ints a))),.c (.f (sl g' (ints b)))]=Eq (vb (decide (a=b))):=by
 have d:∀(H:an) (g:Tg) (l:List Int),bh H (.f (sl g (ints l)))=aa l.length:=λH g l=>by simp[ints]
 refine bg.eq (bK rfl rfl λQ z=>?_);apply ai;simp;apply au;apply ai;simp[d];by_cases B:a.length=b.length
 .refine bE (by simp[B]) ?_;apply au;apply ai;simp[d];refine bS a.length (λj t J=>t.g 0=.c (.f (sl g (ints a)))/\t.g 1=.c (.f (sl g' (ints b)))/\∀(k:Nat) (h:k<j) (y:k<a.length),a[k]=b[k]'(by omega)) ap ce ce bv bv
   ⟨bv,bv,λk h=>by omega⟩ ?_ ?_
  .rintro j t J M ⟨v,x,m⟩ K L next
   have A:j<b.length:=by omega
   have q:=λH:an=>bz (H:=H) (g:=g) (rows:=ints a) (sz:=1) (k:=.i64) (i:=(j:Int)) ap (by simp[ints];omega);have E:=λH:an=>dZ (H:=H) M;have s:=λH:an=>bz (H:=H) (g:=g') (rows:=ints b) (sz:=1) (k:=.i64) (i:=(j:Int)) ap (by simp[ints];omega);have F:=λH:an=>dZ (H:=H) A;simp at q s;refine ay ?_;apply ai;simp[K];apply au;refine aq (.inl rfl) ?_;simp[v,x,q,s,E,F];by_cases u:a[j]=b[j]
   .refine bE (by simp[u]) ?_;refine av (next _ _ ⟨by simp[v],by simp[x],λk h y=>?_⟩ (by simp[K]) (by simp[L]));by_cases e:k=j
    .subst e;exact u
    .exact m k ap y
   .refine aw (by simp[u]) ?_;apply ai;simp;refine az (z _ _ ?_);have:¬ a=b:=by intro e;subst e;exact u rfl
    simp[this]
  .rintro t J ⟨v,x,m⟩ - -;have:a=b:=List.ext_getElem B λk I y=>m k I I;apply ai;simp;refine az (z _ _ ?_);simp[this]
 .refine aw ge ?_;apply ai;simp;refine az (z _ _ ?_);have:¬ a=b:=λe=>B (by rw[e]);simp[this]
def vz(p q:aO):Bool:=decide (p.fr=q.fr/\p.aT=q.aT/\p.head=q.head/\p.bF=q.bF)
theorem QB(p q:aO)(y:p.head.length<=1000000)(z:p.bF.length<=1000000):Kf tab Pw [.a (cU p),.a (cU q)] (vb (vz p q)):=by
 have s:=λg g'=>sO g g' p.head q.head y;have v:=λg g'=>sO g g' p.bF q.bF z;refine dh rfl rfl λH Q j=>?_;apply ai;simp[cU];apply ai;obtain⟨u,m⟩:=aI (decide (p.head=q.head));obtain⟨x,l⟩:=aI (decide (p.bF=q.bF));rw[<-m]at s;rw[<-l]at v;have A:vz p q=(decide (p.fr=q.fr)&&(decide (p.aT=q.aT)&&(u&&x))):=by
  rw[m,l];simp[vz]
 rw[A]at j;by_cases b:p.fr=q.fr
 .by_cases d:p.aT=q.aT
  .cases u with
   |true=>
    simp[b,d,s,v];refine az (j _ _ ?_);simp[b,d]
   |false=>
    simp[b,d,s];refine az (j _ _ ?_);simp[b,d]
  .simp[b,d];refine az (j _ _ ?_);simp[b,d]
 .simp[b];refine az (j _ _ ?_);simp[b]
theorem Ly{p q:aO}(h:vz p q=ae)(d:Int):bA p d=bA q d:=by
 obtain⟨b,g,j,l⟩:=of_decide_eq_true h;unfold bA;rw[b,g,j,l]
def ja:List aO->List aO->Bool
 |[],[]=>ae| p::s,q::t=>vz p q&&ja s t| _,_=>ag
theorem xF:∀{s t:List aO},ja s t=ae->∀d,dX s d↔dX t d
 |[],[],_,d=>Iff.rfl
 |p::s,q::t,h,d=>by
  simp only[ja,IS]at h;have b:=xF h.2 d;have c:∀(x:aO) l,dX (x::l) d↔bA x d=ae/\dX l d:=λx l=>by simp[dX]
  rw[c,c,b,Ly h.1]
theorem ou:∀(s t:List aO),ja s t=ae↔∃h:s.length=t.length,∀(k:Nat) (b:k<s.length),vz s[k] (t[k]'(by omega))=ae
 |[],[]=>⟨λ_=>⟨rfl,λk b=>by simp at b⟩,λ_=>rfl⟩
 |[],q::t=>⟨λh=>(by cases h),λ⟨h,_⟩=>(by simp at h)⟩
 |p::s,[]=>⟨λh=>(by cases h),λ⟨h,_⟩=>(by simp at h)⟩
 |p::s,q::t=>by
  simp only[ja,IS,ou s t];constructor
  .rintro⟨g,d,j⟩;refine⟨by simp[d],λk b=>?_⟩;cases k with
   |zero=>exact g| succ k=>exact j k (by simpa using b)
  .rintro⟨g,d⟩;exact⟨d 0 bv,by simpa using g,λk b=>d (k+1) (by simpa using b)⟩
theorem Lz(g g':Tg)(s t:List aO)(hs:s.length<=1000000)(U:∀p∈s,p.head.length<=1000000/\p.bF.length<=1000000):bg tab Xr [.c (.f (sl g (aQ s))),.c (.f (sl g' (aQ t))),.c (.f (.fn Pw []))]=Eq (vb (ja s t)):=by
 have d:∀(H:an) (g:Tg) (l:List aO),bh H (.f (sl g (aQ l)))=aa l.length:=λH g l=>by simp
 refine bg.eq (bK rfl rfl λQ L=>?_);apply ai;simp;apply au;apply ai;simp[d];by_cases S:s.length=t.length
 .refine bE (by simp[S]) ?_;apply au;apply ai;simp[d];refine bS s.length (λj x J=>x.g 1=.c (.f (sl g' (aQ t)))/\x.g 2=.c (.f (.fn Pw []))/\x.g 15=.c (.f (sl g (aQ s)))/\∀(k:Nat) (h:k<j) (F:k<s.length),vz s[k] (t[k]'(by omega))=ae) ap ce ce bv bv
   ⟨bv,bv,bv,λk h=>by omega⟩ ?_ ?_
  .rintro j x J N ⟨I,K,m,u⟩ W hb next
   have O:j<t.length:=by omega
   have z:=λH:an=>bz (H:=H) (g:=g) (rows:=aQ s) (sz:=4) (k:=.i64) (i:=(j:Int)) ap ge;have B:=λH:an=>cf (H:=H) (bQ s) (dd N);have A:=λH:an=>bz (H:=H) (g:=g') (rows:=aQ t) (sz:=4) (k:=.i64) (i:=(j:Int)) ap ge;have E:=λH:an=>cf (H:=H) (bQ t) (dd O);simp only[agD]at z A;simp only[<-dH]at B E;have Y:=U _ (IN N);have v:=QB s[j] t[j] Y.1 Y.2;have b:∀p,(cU p).length=4:=λ_=>rfl;have Z:∀p,List.take 4 (cU p)=cU p:=λ_=>rfl;refine ay ?_;apply ai;simp[W,m,z,B,-ax,b];apply ai;simp[I,A,E,-ax,b];obtain⟨y,q⟩:=aI (J++[bO.box (cU s[j]) 0,bO.box (cU t[j]) 0]);have b8:y[J.length]?=aa (.box (cU s[j]) 0):=by rw[q];simp
   have b9:y[J.length+1]?=aa (.box (cU t[j]) 0):=by rw[q,agj ap];simp
   have l8:aV y (aa 4) (.c (.ptr J.length 0 0))=aa (.a (cU s[j])):=by simp[aV,aA,b8,aW,b,Z]
   have l9:aV y (aa 4) (.c (.ptr (J.length+1) 0 0))=aa (.a (cU t[j])):=by simp[aV,aA,b9,aW,b,Z]
   rw[<-q];obtain⟨JK,v⟩:=v y;apply ai;simp[K,l8,l9,-ax,v.eq];cases M:vz s[j] t[j]with
   |true=>
    refine bE bv ?_;refine av (next _ _ ⟨by simp[I],by simp[K],by simp[m],λk h F=>?_⟩ (by simp[W]) (by simp[hb]));by_cases e:k=j
    .subst e;exact M
    .exact u k ap F
   |false=>
    refine aw bv ?_;apply ai;simp;refine az (L _ _ ?_);have:ja s t=ag:=by
     cases h:ja s t with
     |false=>rfl
     |true=>
      obtain⟨_,F⟩:=(ou s t).1 h;rw[F j N]at M;cases M
    simp[this]
  .rintro x J ⟨I,K,m,u⟩ - -;apply ai;simp;refine az (L _ _ ?_);have:ja s t=ae:=(ou s t).2 ⟨S,λk X=>u k X X⟩;simp[this]
 .refine aw ge ?_;apply ai;simp;refine az (L _ _ ?_);have:ja s t=ag:=by
   cases h:ja s t with
   |false=>rfl| true=>exact absurd ((ou s t).1 h).1 S
  simp[this]
section
variable{Nb:Int}
theorem Za(s t:List aO)(j:s.length<=1000000)(b:∀p∈s,p.head.length<=1000000/\p.bF.length<=1000000)(g g':Tg):Kf tab Ad [.c (.f (sl g (aQ s))),.c (.f (.fp [sl g' (aQ t)] 0))] (vb (ja s t)):=by
 have h:=Lz g g' s t j b;refine dh rfl rfl λH Q d=>?_;apply ai;simp;apply ai;simp[kD,h];refine az (d _ _ ?_);simp
theorem Qm(g g':Tg)(l:List (List aO))(u:l.length<=1000000)(b:∀s∈l,s.length<=1000000/\∀p∈s,p.head.length<=1000000/\p.bF.length<=1000000)(t:List aO) :
  bg tab wW [.c (.f (sl g (l.map λs=>[sl .fs (aQ s)]))),.c (.f (.fn Ad [.fp [sl g' (aQ t)] 0]))]=Eq (vb (l.any λs=>ja s t)):=
 (fD F9 (je F_ l (λs=>[sl .fs (aQ s)]) (λs=>.c (.f (sl .fs (aQ s)))) (λs=>ja s t) g Ad [.fp [sl g' (aQ t)] 0] ap
  (λj q H=>by
   have m:cR 1 (l.map λs=>[sl .fs (aQ s)]):=cR.map λ_=>rfl;have:=gU (H:=H) m (j:=j) (row:=[sl .fs (aQ l[j])]) (by simp[q]) rfl;simpa using this)
  (λs d=>Za s t (b s d).1 (b s d).2 .fs g'))).eq
theorem Am(g:Tg)(ps:List aO)(q:∀p∈ps,Mod p)(m:1<=ps.length)(u:ps.length<=64):∃b,(b=ae↔(∀d,¬ kS ps 0 ps d)/\¬ qW [] ps)/\bg tab abI [.c (.f (sl g (aQ ps)))]=Eq (vb b):=by
 obtain⟨e,f,j,z⟩:=DO g ps (λp A=>(q p A).ok) u 0;obtain⟨b,y,B⟩:=Bg g ps q m u;refine⟨!f&&!b,?_,bg.eq (bK rfl rfl λQ s=>?_)⟩
 .rw[<-y];rcases j with⟨l,-,x⟩|⟨l,v,-⟩
  .subst l;simp[x]
  .subst l;simp only[Bool.not_true,Bool.false_and,agH,false_iff];rintro⟨h,-⟩;exact h _ v
 .apply ai;simp;apply ai;simp[z];apply ai;cases f
  .simp[B];refine az (s _ _ ?_);simp
  .simp;refine az (s _ _ ?_);simp
theorem jG.mod{p:aO}(h:jG Nb p):Mod p:=⟨h.ok,by have:=h.le;omega⟩
theorem xp{ps:List aO}(s:∀p∈ps,jG Nb p)(u:∀d,¬ kS ps 0 ps d)(v:¬ qW [] ps)(d:Int)(j:0<=d):¬ dX ps d:=by
 intro b;have m:wH ps d=ae:=(iT j).2 b;by_cases x:dz ps<=d
 .refine v (CG (d:=d) ps [] bv λp g=>?_);exact(tq (s p g).mod (by
   have:∀l:List aO,p∈l->p.fr<=dz l:=by
    intro l;induction l with
    |nil=>intro h;cases h
    |cons a l y=>
     intro h;simp only[dz];rcases agA.1 h with rfl|h
     .omega
     .have:=y h;omega
   have:=this ps g;omega)).1 (b p g)
 .obtain⟨p,g,q⟩:=uX (l:=ps) j ap;refine u d ⟨j,m,p,g,?_⟩;exact(head_mem (s p g).ok d).2 ⟨j,q,b p g⟩
end
def B4(J J':an):Prop:=∀(i:Nat) (cs:List C) (fl:Nat),4<=cs.length->J[i]?=aa (bO.box cs fl)->∃fl',J'[i]?=aa (bO.box cs fl')
def TC(J:an)(c:C)(ps:List aO):Prop:=(c=.f (sl .fs (aQ ps))/\ps≠[])\/(ps≠[]/\∃b fl,c=.sl b 0 ps.length ps.length 0 4/\J[b]?=aa (.box (dM ps).flatten fl))
theorem mr(ps:List aO):(dM ps).flatten.length=ps.length*4:=by rw[dT (fM ps),fY]
theorem EP{ps:List aO}(h:ps≠[]):4<=(dM ps).flatten.length:=by
 have:=agV.2 h;rw[mr];omega
theorem im{ps:List aO}(h:ps≠[])(g:Tg):sl g (aQ ps)=.fs (aQ ps).flatten ps.length:=by
 cases ps with
 |nil=>exact absurd rfl h| cons p l=>simp[sl,aQ]
section
variable{J:an}{c:C}{ps:List aO}
theorem TC.len(h:TC J c ps):bh J c=aa ps.length:=by
 rcases h with⟨rfl,h⟩|⟨h,b,fl,rfl,hb⟩
 .simp
 .simp[bh,hb]
theorem TC.one{p:aO}(h:TC J c [p]):∃q,bG J 4 ab (.c c) (vi 0)=aa (.c q)/\aV J (aa 4) (.c q)=aa (.a (cU p)):=by
 rcases h with⟨rfl,h⟩|⟨h,b,fl,rfl,hb⟩
 .have d:=bz (H:=J) (g:=.fs) (rows:=aQ [p]) (sz:=4) (k:=.i64) (i:=(0:Int)) ap bv;have m:=cf (H:=J) (bQ [p]) (dd (l:=[p]) (j:=0) bv);exact⟨_,d,by simpa[dH]using m⟩
 .have hb:J[b]?=aa (.box (cU p) fl):=hb;exact⟨.ptr b 0 0,by simp[bG,show fG (vi 0)=aa (0:Int) from rfl,hb],by simp[aV,aA,hb,aW,cU]⟩
theorem TC.ex(h:TC J c ps)(n:Nat):fh (n+1) J c=aa (sl .fs (aQ ps)):=by
 rcases h with⟨rfl,h⟩|⟨h,b,fl,rfl,hb⟩
 .rfl
 .have hl:=mr ps;simp only[gT,hb];rw[bZ ap,ahi,agw ap,rY,lu,im h];rfl
theorem TC.bH{J':an}(h:TC J c ps)(g:B4 J J'):TC J' c ps:=by
 rcases h with h|⟨h,b,fl,h1,hb⟩
 .exact .inl h
 .obtain⟨fl',d⟩:=g b _ fl (EP h) hb;exact .inr ⟨h,b,fl',h1,d⟩
theorem TC.mk(h:TC J c ps)(n:Nat):∀(i:Nat) (y:bO),J[i]?=aa y->(ef (n+1) c J)[i]?=aa y\/∃cs fl fl',4<=cs.length/\y=.box cs fl/\(ef (n+1) c J)[i]?=aa (.box cs fl'):=by
 rcases h with⟨rfl,h⟩|⟨h,b,fl,rfl,hb⟩
 .intro i y hy;exact .inl hy
 .intro i y hy;have e:ef (n+1) (.sl b 0 ps.length ps.length 0 4) J=J.set b (.box (dM ps).flatten (Nat.max fl (0+ps.length*4))):=by
   simp only[jL,hb];rw[ju];intro x d;have d:=ahd (ahn d);rw[rY]at d;obtain⟨y,-,rfl⟩:=agt.1 d;exact⟨y,rfl⟩
  rw[e];by_cases hi:b=i
  .subst hi;rw[hb]at hy;cases hy;exact .inr ⟨_,_,_,EP h,rfl,BY (aj hb)⟩
  .exact .inl (by rw[sh hi];exact hy)
end
def LJ(J:an)(cl:C)(ts:List (List aO)):Prop:=(ts=[]/\cl=.f .aJ)\/(∃b d cs rest,cl=.sl b 0 ts.length 0 d 1/\J[b]?=aa (.dj 1 (cs++rest) 0 d .loc)/\cs.length=ts.length/\∀(k:Nat) (h:k<ts.length) (g:k<cs.length),TC J cs[k] ts[k])
section
variable{J:an}{cl:C}{ts:List (List aO)}
theorem LJ.len(h:LJ J cl ts):bh J cl=aa ts.length:=by
 rcases h with⟨rfl,rfl⟩|⟨b,d,cs,rest,rfl,hb,-,-⟩
 .rfl
 .simp[bh,hb]
theorem LJ.at(h:LJ J cl ts){k:Nat}(g:k<ts.length):∃b d c,cl=.sl b 0 ts.length 0 d 1/\bG J 1 ab (.c cl) (vi k)=aa (.c (.ptr b k d))/\aV J ab (.c (.ptr b k d))=aa (.c c)/\TC J c ts[k]:=by
 rcases h with⟨rfl,rfl⟩|⟨b,d,cs,rest,rfl,hb,hl,j⟩
 .simp at g
 .refine⟨b,d,cs[k],rfl,?_,?_,j k g ap⟩
  .simp[bG,show fG (vi k)=aa (k:Int) from rfl,hb,g]
  .simp only[aV,aA,hb,if_true,ag8];rw[ahS ap,ags ap];rfl
theorem LJ.bH{J':an}(h:LJ J cl ts)(j:B4 J J')(ho:∀(i:Nat) y,bf cl=aa i->J[i]?=aa y->J'[i]?=aa y):LJ J' cl ts:=by
 rcases h with h|⟨b,d,cs,rest,rfl,hb,hl,g⟩
 .exact .inl h
 .exact .inr ⟨b,d,cs,rest,rfl,ho b _ rfl hb,hl,λk h h2=>(g k h h2).bH j⟩
theorem LJ.push(h:LJ J cl ts)(K:an):LJ (J++K) cl ts:=h.bH (λi cs fl _ hi=>⟨fl,by rw[AI (aj hi)];exact hi⟩) λi y _ hy=>by rw[AI (aj hy)];exact hy
theorem LJ.bR(h:LJ J cl ts){i:Nat}{cs:List C}{fl:Nat}(hi:J[i]?=aa (.box cs fl)):bf cl≠aa i:=by
 rcases h with⟨-,rfl⟩|⟨b,d,cs',rest,rfl,hb,-,-⟩
 .simp[bf]
 .intro e;cases e;rw[hi]at hb;cases hb
theorem LJ.acM(h:LJ J cl ts){i:Nat}{y:bO}(hi:J[i]?=aa y)(hy:nr y=ae):bf cl≠aa i:=by
 rcases h with⟨-,rfl⟩|⟨b,d,cs',rest,rfl,hb,-,-⟩
 .simp[bf]
 .intro e;cases e;rw[hi]at hb;cases hb;cases hy
theorem LJ.st(h:LJ J cl ts){i:Nat}(hi:i<ts.length){p:aO}{bn:Nat}(l:J[bn]?=aa (.box (cU p) 0)):∃b d J',bG J 1 ab (.c cl) (vi i)=aa (.c (.ptr b i d))/\cY J (.ptr b i d) [.sl bn 0 1 1 0 4]=aa J'/\LJ J' cl (ts.set i [p])/\J'.length=J.length/\∀k,bf cl≠aa k->J'[k]?=J[k]?:=by
 rcases h with⟨rfl,rfl⟩|⟨b,d,cs,rest,rfl,hb,hl,q⟩
 .simp at hi
 .have j:∀k y fl,J[k]?=aa (.box y fl)->k≠b:=λk y fl m e=>by rw[e,hb]at m;cases m
  have ho:over (cs++rest) i [.sl bn 0 1 1 0 4]=cs.set i (.sl bn 0 1 1 0 4)++rest:=by
   rw[yu (by rw[aft];omega),List.set_append_left _ _ ap]
  refine⟨b,d,J.set b (.dj 1 (cs.set i (.sl bn 0 1 1 0 4)++rest) 0 d .loc),?_,?_,.inr ⟨b,d,cs.set i (.sl bn 0 1 1 0 4),rest,bv,BY (aj hb),by simp[hl],λk h1 h2=>?_⟩,bv,λk s=>sh (by rintro rfl;exact s rfl)⟩
  .simp[bG,show fG (vi i)=aa (i:Int) from rfl,hb,hi]
  .simp only[bw,hb,ahN,true_and];rw[bZ ge,ho]
  .rw[List.getElem_set,List.getElem_set];by_cases e:i=k
   .rw[bZ e,bZ e];exact .inr ⟨bv,bn,0,rfl,by rw[sh (Ne.symm (j _ _ _ l))];exact l⟩
   .rw[ct e,ct e];refine(q k (by simpa using h1) (by simpa using h2)).bH λu cs' fl _ g=>⟨fl,?_⟩
    rw[sh (Ne.symm (j _ _ _ g))];exact g
theorem LJ.del(h:LJ J cl ts){j:Nat}(v:j<ts.length)(x:0<j)(N:ts.length<=1000000) :
  ∃u H',Ev tab (.fn BO) [.c cl,vi j,vi (j+1:Nat)] J (.c u) H'/\LJ H' u (ts.eraseIdx j)/\bf u=bf cl/\H'.length=J.length/\∀k,bf cl≠aa k->H'[k]?=J[k]?:=by
 rcases h with⟨rfl,rfl⟩|⟨b,M,cs,rest,rfl,hb,hl,E⟩
 .simp at v
 .have hg:vn 1 (cs.map λc=>[c]):=λr O=>by
   obtain⟨c,-,rfl⟩:=agt.1 O;rfl
  have q:∀l:List C,(l.map λc=>[c]).flatten=l:=λl=>by induction l with
   |nil=>rfl| cons a l Q=>simp only[agm,agG,Q];rfl
  have d:(cs.map λc=>[c]).length=ts.length:=by rw[agq,hl]
  obtain⟨r,H',H,rfl,g,m,s,I⟩:=Ty (tab:=tab) (F:=BO) (sz:=1) (bytes:=24) (zs:=[.aJ]) Ya ce rfl (rows:=cs.map λc=>[c]) (rest:=rest) hg (by rw[q];exact hb) (j:=j) (by rw[d];exact v) x (by rw[d];exact N);rw[d]at H;have L:((cs.map λc=>[c]).eraseIdx j).flatten=cs.eraseIdx j:=by
   rw[aht,<-List.map_take,<-ahZ,<-ahl,q,<-aht]
  rw[L]at m;have B:(ts.eraseIdx j).length=ts.length-1:=by rw[aii,bZ v]
  have A:∀k y fl,J[k]?=aa (.box y fl)->k≠b:=λk y fl K e=>by rw[e,hb]at K;cases K
  refine⟨_,H',H,.inr ⟨b,M,cs.eraseIdx j,g,by rw[B],m,by rw[B,aii,bZ ap,hl],λk h1 h2=>?_⟩,rfl,s,λk z=>I k (by rintro rfl;exact z rfl)⟩;have kp:B4 J H':=λi cs fl _ hi=>⟨fl,by rw[I i (A _ _ _ hi)];exact hi⟩
  rw[List.getElem_eraseIdx,List.getElem_eraseIdx];by_cases e:k<j
  .rw[dif_pos e,dif_pos e];exact(E _ _ _).bH kp
  .rw[dif_neg e,dif_neg e];exact(E _ _ _).bH kp
end
section
variable{Nb:Int}
def TV(J:an)(c:C)(fs:List aO):Prop:=(∃g,c=.f (sl g (aQ fs)))\/LR J c 4 (aQ fs)
theorem Y5{J:an}{c:C}{sz:Nat}{rows:List (List FC)}(h:LR J c sz rows)(n:Nat):∀(i:Nat) (y:bO),J[i]?=aa y->bf c≠aa i->(ef (n+1) c J)[i]?=aa y:=by
 rcases h with⟨_,rfl|rfl⟩|⟨s,b,q,rfl,l⟩
 .intro i y d _;exact d
 .intro i y d _;exact d
 .unfold RB at l;intro i y d hi;have g:b≠i:=λe=>hi (by rw[e];rfl);have e:∃z,ef (n+1) (.sl b 0 rows.length 0 q sz) J=J.set b z:=by
   simp only[jL,l];rw[ju]
   .exact⟨_,rfl⟩
   .intro x j;have j:=ahd (ahn j);obtain⟨m,_,rfl⟩:=agt.1 j;exact⟨_,rfl⟩
  obtain⟨z,u⟩:=e;rw[u,sh g];exact d
section
variable{J:an}{c:C}{fs:List aO}
theorem TV.ex(h:TV J c fs):∃g,∀n,fh (n+1) J c=aa (sl g (aQ fs)):=by
 rcases h with⟨g,rfl⟩|h
 .exact⟨g,λn=>rfl⟩
 .obtain⟨g,hg⟩:=h.ZZ (bQ fs);exact⟨g,λn=>hg J n λ_ _ h _=>h⟩
theorem TV.mk(h:TV J c fs)(n:Nat):∀(i:Nat) (y:bO),J[i]?=aa y->bf c≠aa i->(ef (n+1) c J)[i]?=aa y:=by
 rcases h with⟨g,rfl⟩|h
 .intro i y hy _;exact hy
 .exact Y5 h n
end
def wX(f:Nat)(g:List FC)(L:List (List aO)):Prop:=∀(b:Nat) (H:an) (PP:Nat->an->Prop),PP 0 H->
 (∀(j:Nat) (m:j<L.length) (d J:an) (c:C),PP j d->(∀i:Nat,i<d.length->J[i]?=d[i]?)->d.length<=J.length->TV J c L[j]->(∀i,bf c=aa i->d.length<=i)->∃H',Ev tab (.yield b) [.c c] J (vb ae) H'/\PP (j+1) H')->
 ∃l,Ev tab (.fn f) (.c (.yl b)::g.map λx=>.c (.f x)) H (.t []) l/\PP L.length l
theorem qn(g:Tg)(ts:List cV)(x:ts.length<=1000000):wX jM [.fp [sl g (aK ts)] 0] (ts.map (·.fs)):=by
 intro b H PP q y;obtain⟨r,m,u,rfl,d⟩:=Bu (b:=b) (H:=H) g ts x PP q λj v J s=>by
  obtain⟨H',l,d⟩:=y j (by simpa using v) J J (.f (sl ts[j].tg (aQ ts[j].fs))) s (λ_ _=>rfl) (Nat.le_refl _) (.inl ⟨ts[j].tg,bv⟩) (λ_ h=>by cases h);exact⟨_,H',l,rfl,d⟩
 exact⟨m,u,by rw[agq];exact d⟩
def vq(Nb:Int)(m:Nat)(t:List aO):Prop:=t≠[]/\t.length<=m/\∀p∈t,jG Nb p
def cM(ts:List (List aO))(d:Int):Prop:=∃t∈ts,dX t d
structure NT(Nb:Int)(m:Nat)(L ts:List (List aO)):Prop where
 len:ts.length<=L.length
 ok:∀t∈ts,vq Nb m t
 mem:∀d,0<=d->(cM ts d↔cM L d)
def aX(ts:List (List aO)):List (List FC):=ts.map λs=>[sl .fs (aQ s)]
theorem fe(ts:List (List aO)):cR 1 (aX ts):=cR.map λ_=>rfl
structure Fe(s:T)(cl:C)(ts:List (List aO))(st:dt)(J:an):Prop where
 h0:J[0]?=aa (.box [.f .aJ] 0)
 h1:J[1]?=aa (.box [cl] 0)
 lr:LR J cl 1 (aX ts)
 ne:cl≠.f .es
 lo:∀i,bf cl=aa i->3<i
 df:J[2]?=aa (.dQ ae)
 lp:J[3]?=aa (.lp mJ s [P.nat 15] sw oZ st ab 2)
theorem Fe.three{s:T}{cl:C}{ts:List (List aO)}{st st':dt}{J:an}(h:Fe s cl ts st J):Fe s cl ts st' (J.set 3 (.lp mJ s [P.nat 15] sw oZ st' ab 2)):=by
 refine⟨?_,?_,h.lr.set (λe=>by have:=h.lo 3 e;omega) _,h.ne,h.lo,?_,BY (aj h.lp)⟩
 .rw[sh ap];exact h.h0
 .rw[sh ap];exact h.h1
 .rw[sh ap];exact h.df
theorem Fe.bH{s:T}{cl:C}{ts:List (List aO)}{st:dt}{J J':an}(h:Fe s cl ts st J)(b:∀(i:Nat) y,i<J.length->J[i]?=aa y->J'[i]?=aa y):Fe s cl ts st J':=
 ⟨b _ _ (aj h.h0) h.h0,b _ _ (aj h.h1) h.h1,h.lr.bH λi y hy _=>b i y (aj hy) hy,h.ne,h.lo,b _ _ (aj h.df) h.df,b _ _ (aj h.lp) h.lp⟩
theorem Fe.mark{s:T}{cl c:C}{ts:List (List aO)}{st:dt}{J J':an}(h:Fe s cl ts st J)(hc:∀i,bf c=aa i->3<i)(d:∀i,bf c=aa i->bf cl≠aa i)(b:∀(i:Nat) y,J[i]?=aa y->bf c≠aa i->J'[i]?=aa y):Fe s cl ts st J':=
 ⟨b _ _ h.h0 (λe=>by have:=hc 0 e;omega),b _ _ h.h1 (λe=>by have:=hc 1 e;omega),h.lr.bH λi y hy hi=>b i y hy λe=>d i e hi,h.ne,h.lo,b _ _ h.df (λe=>by have:=hc 2 e;omega),b _ _ h.lp (λe=>by have:=hc 3 e;omega)⟩
theorem Fe.app{s:T}{cl:C}{ts:List (List aO)}{st:dt}{J:an}(h:Fe s cl ts st J)(F:ts.length<=1000)(ps:List aO) :
  ∃j m,bT (J++[.box [.f (sl .fs (aQ ps))] 0]) 1 24 (.c cl) (.c (.sl J.length 0 1 1 0 1))=aa (.c j,m)/\cY m (.ptr 1 0 0) [j]=aa (m.set 1 (.box [j] 0))/\Fe s j (ts++[ps]) st (m.set 1 (.box [j] 0)):=by
 obtain⟨q,d⟩:=aI (J++[.box ([sl .fs (aQ ps)].map .f) 0]:an);have up:∀(i:Nat) y,J[i]?=aa y->q[i]?=aa y:=λi y hy=>by rw[d,AI (aj hy)];exact hy
 have x:LR q cl 1 (aX ts):=by rw[d];exact h.lr.push _
 have z:q[J.length]?=aa (.box ([sl .fs (aQ ps)].map .f) 0):=by rw[d];simp
 have h2:q.length=J.length+1:=by rw[d];simp
 have I:=aj h.lp;obtain⟨j,m,l,g,v,A⟩:=x.app (fe ts) ce (row:=[sl .fs (aQ ps)]) rfl (bytes:=24) (gV (by simp[aX];omega) ce) z;have E:aX ts++[[sl .fs (aQ ps)]]=aX (ts++[ps]):=by simp[aX]
 rw[E]at g;have u:∀(i:Nat) y,i<=3->J[i]?=aa y->m[i]?=aa y:=λi y hi hy=>v.2 i y (up i y hy) λe=>by have:=h.lo i e;omega
 have n1:=u 1 _ ap h.h1;have B:j≠.f .es:=by
  rcases g with⟨h0,_⟩|⟨_,b,H,rfl,_⟩
  .simp[aX]at h0
  .intro e;cases e
 refine⟨j,m,by rw[d]at l;exact l,by simp[cY,n1,over],?_,BY (aj n1),g.set (g.bR n1) _,B,λi hi=>?_,?_,?_⟩
 .rw[sh ap];exact u 0 _ ap h.h0
 .rcases A with e|e
  .rw[e]at hi;exact h.lo i hi
  .rw[e]at hi;cases hi;omega
 .rw[sh ap];exact u 2 _ ap h.df
 .rw[sh ap];exact u 3 _ ap h.lp
theorem Cq{s:T}(W:s.g 4=.c (.ptr 1 0 0)){cl:C}{ts:List (List aO)}(K:ts.length<=1000){m:Nat}(hm:m<=64){fs:List aO}(j:vq Nb m fs){J:an}{c:C}(h:Fe s cl ts .ready J)(Y:TV J c fs)(M:∀i,bf c=aa i->3<i)(E:∀i,bf c=aa i->bf cl≠aa i) :
  ∃r H',Ev tab (.yield 3) [.c c] J r H'/\(r=vb ae/\∃B u,Fe s B u .ready H'/\((u=ts/\∀d,0<=d->¬ dX fs d)\/∃t,u=ts++[t]/\vq Nb m t/\∀d,0<=d->(dX t d↔dX fs d))):=by
 refine dw (tab:=tab) (b:=3) (args:=[.c c]) (H:=J) h.lp rfl λQ' y=>?_;refine aq (.inr rfl) ?_;simp;refine fP h.lp ?_;have L:=h.three (st':=.busy);have l:TV (J.set 3 (.lp mJ s [P.nat 15] sw oZ .busy ab 2)) c fs:=by
  rcases Y with h|h
  .exact .inl h
  .exact .inr (h.set (λe=>by have:=M 3 e;omega) _)
 generalize J.set 3 (.lp mJ s [P.nat 15] sw oZ .busy ab 2)=Q at L l ⊢;obtain⟨gx,q⟩:=l.ex;have q:=q 63;obtain⟨ps,g,F⟩:=Mm gx fs j.2.2 j.1 (by have:=j.2.1;omega);obtain⟨b,Z,A⟩:=Am .fs ps (λp hp=>(g.sm p hp).mod) (agV.2 g.ne) (by have:=g.le;have:=j.2.1;omega);have x:=L.mark M E (l.mk 63);obtain⟨S,v⟩:=aI (ef 64 c Q);rw[<-v]at x;refine ay ?_;refine au (aq (.inr rfl) ?_);simp[q,deep,F,<-v];apply au;refine aq (.inr rfl) ?_;simp[A];cases b with
 |true=>
  refine bE bv ?_;obtain⟨k1,k2⟩:=Z.1 rfl;exact av (cX (y _ _ _ _ _ _ _ _ _ _ rfl x.lp ⟨rfl,cl,ts,x.three,.inl ⟨rfl,λd N X=>xp g.sm k1 k2 d N ((g.mem d N).2 X)⟩⟩))
 |false=>
  refine aw bv ?_;obtain⟨U,H3,z,I,O⟩:=x.app K ps;have l1:aV S ab (.c (.ptr 1 0 0))=aa (.c cl):=by simp[aV,aA,x.h1]
  refine aq (.inr rfl) ?_;simp[W,l1,-ax,z,I,-bw];exact av (cX (y _ _ _ _ _ _ _ _ _ _ rfl O.lp ⟨rfl,U,ts++[ps],O.three,.inr ⟨ps,rfl,⟨g.ne,by have:=g.le;have:=j.2.1;omega,g.sm⟩,g.mem⟩⟩))
end
theorem QW{ts:List (List aO)}{i j:Nat}(H:i<j)(I:j<ts.length){p y q:aO}(s:ts[i]'(by omega)=[p])(u:ts[j]=[y])(L:∀d,0<=d->bA q d=(bA p d||bA y d))(d:Int)(F:0<=d):cM ((ts.set i [q]).eraseIdx j) d↔cM ts d:=by
 have hi:i<ts.length:=by omega
 have A:ts=ts.take i++[p] ::((ts.drop (i+1)).take (j-(i+1))++[y]::ts.drop (j+1)):=by
  rw[<-s,<-u]
  conv=>lhs;rw[<-ahr i ts,ags hi]
  congr 2
  conv=>lhs;rw[<-ahr (j-(i+1)) (ts.drop (i+1)),ah4]
  rw[show i+1+(j-(i+1))=j by omega,ags I]
 have B:(ts.set i [q]).eraseIdx j=ts.take i++[q] ::((ts.drop (i+1)).take (j-(i+1))++ts.drop (j+1)):=by
  have E:ts.set i [q]=ts.take i++[q]::ts.drop (i+1):=by rw[ahV,bZ hi]
  have K:(ts.take i).length=i:=by rw[agO];omega
  rw[E,aiI ap,K]
  congr 1
  obtain⟨k,J⟩:∃k,j-i=k+1:=⟨j-i-1,ap⟩
  rw[J,List.eraseIdx_cons_succ,aht,ah4];rw[show j-(i+1)=k by omega,show i+1+(k+1)=j+1 by omega]
 have g:∀(a b:List (List aO)),cM (a++b) d↔cM a d\/cM b d:=λa b=>by
  unfold cM;constructor
  .rintro⟨t,v,h⟩;rcases agl.1 v with k|k
   .exact .inl ⟨t,k,h⟩
   .exact .inr ⟨t,k,h⟩
  .rintro(⟨t,k,h⟩|⟨t,k,h⟩)
   .exact⟨t,ag3 _ k,h⟩
   .exact⟨t,ahR _ k,h⟩
 have m:∀(x:aO) l,cM ([x]::l) d↔bA x d=ae\/cM l d:=λx l=>by
  unfold cM;constructor
  .rintro⟨t,v,h⟩;rcases agA.1 v with rfl|k
   .exact .inl (h x bv)
   .exact .inr ⟨t,k,h⟩
  .rintro(h|⟨t,k,h⟩)
   .exact⟨[x],bv,λp z=>by rw[If]at z;rw[z];exact h⟩
   .exact⟨t,agr _ k,h⟩
 rw[B]
 conv=>rhs;rw[A]
 rw[g,g,m,m,g,g,m,L d F,Bool.or_eq_true];constructor
 .rintro(a|(b|c)|e|f)
  .exact .inl a
  .exact .inr (.inl b)
  .exact .inr (.inr (.inr (.inl c)))
  .exact .inr (.inr (.inl e))
  .exact .inr (.inr (.inr (.inr f)))
 .rintro(a|b|e|c|f)
  .exact .inl a
  .exact .inr (.inl (.inl b))
  .exact .inr (.inr (.inl e))
  .exact .inr (.inl (.inr c))
  .exact .inr (.inr (.inr f))
structure SJ(J:an)(cl:C)(ts:List (List aO)):Prop where
 h0:J[0]?=aa (.box [.f .aJ] 0)
 h1:J[1]?=aa (.box [cl] 0)
 df:J[2]?=aa (.dQ ae)
 lj:LJ J cl ts
theorem SJ.push{J:an}{cl:C}{ts:List (List aO)}(h:SJ J cl ts)(K:an):SJ (J++K) cl ts:=
 ⟨by rw[AI (aj h.h0)];exact h.h0,by rw[AI (aj h.h1)];exact h.h1,by rw[AI (aj h.df)];exact h.df,h.lj.push K⟩
theorem Q4{J:an}{cl:C}{ts:List (List aO)}(u:∀t∈ts,t≠[])(h:LR J cl 1 (aX ts))(d:cl≠.f .es):LJ J cl ts:=by
 rcases h with⟨m,rfl|rfl⟩|⟨v,b,j,rfl,g⟩
 .have:ts=[]:=by
   cases ts with
   |nil=>rfl| cons a l=>simp[aX]at m
  exact .inl ⟨this,rfl⟩
 .exact absurd rfl d
 .have s:(aX ts).length=ts.length:=by simp[aX]
  have q:∀l:List (List aO),(aX l).flatten.map C.f=l.map λt=>C.f (sl .fs (aQ t)):=λl=>by
   induction l with
   |nil=>rfl
   |cons a l x=>
    have:aX (a::l)=[sl .fs (aQ a)]::aX l:=rfl;rw[this,agG,ahl,x];rfl
  unfold RB at g;refine .inr ⟨b,j,ts.map λt=>C.f (sl .fs (aQ t)),[],by rw[s],by rw[g,q,agN],bv,λk y d=>?_⟩;rw[aib];exact .inl ⟨rfl,u _ (IN _)⟩
theorem SJ.join{J:an}{cl:C}{ts:List (List aO)}(h:SJ J cl ts){i j:Nat}(F:i<j)(H:j<ts.length)(O:ts.length<=1000){p:aO}{bn:Nat}(hb:J[bn]?=aa (.box (cU p) 0)) :
  ∃b x l m d,aV J ab (.c (.ptr 1 0 0))=aa (.c cl)/\bG J 1 ab (.c cl) (vi i)=aa (.c (.ptr b i x))/\cY J (.ptr b i x) [.sl bn 0 1 1 0 4]=aa l/\aV l ab (.c (.ptr 1 0 0))=aa (.c cl)/\Ev tab (.fn BO) [.c cl,vi j,vi (j+1:Nat)] l (.c m) d/\cY d (.ptr 1 0 0) [m]=aa (d.set 1 (.box [m] 0))/\
   SJ (d.set 1 (.box [m] 0)) m ((ts.set i [p]).eraseIdx j):=by
 obtain⟨b,x,l,N,L,g,I,q⟩:=h.lj.st (i:=i) ap hb;have a0:l[0]?=aa (.box [.f .aJ] 0):=by rw[q 0 (h.lj.bR h.h0)];exact h.h0
 have a1:l[1]?=aa (.box [cl] 0):=by rw[q 1 (h.lj.bR h.h1)];exact h.h1
 have A:l[2]?=aa (.dQ ae):=by rw[q 2 (h.lj.acM h.df rfl)];exact h.df
 obtain⟨m,d,E,u,M,K,s⟩:=g.del (j:=j) (by rw[agx];exact H) ap (by rw[agx];omega);have b0:d[0]?=aa (.box [.f .aJ] 0):=by rw[s 0 (g.bR a0)];exact a0
 have b1:d[1]?=aa (.box [cl] 0):=by rw[s 1 (g.bR a1)];exact a1
 have B:d[2]?=aa (.dQ ae):=by rw[s 2 (g.acM A rfl)];exact A
 refine⟨b,x,l,m,d,by simp[aV,aA,h.h1],N,L,by simp[aV,aA,a1],E,by simp[cY,b1,over],?_,BY (aj b1),?_,u.bH (λk cs fl z v=>⟨fl,?_⟩) λk y v hy=>?_⟩
 .rw[sh ap];exact b0
 .rw[sh ap];exact B
 .rw[sh (by rintro rfl;rw[b1]at v;cases v;simp at z)];exact v
 .rw[sh (by rintro rfl;exact u.bR b1 v)];exact hy
def M4(J J':an):Prop:=∀(i:Nat) (y:bO),J[i]?=aa y->J'[i]?=aa y\/∃(cs:List C) (fl fl':Nat),4<=cs.length/\y=bO.box cs fl/\J'[i]?=aa (bO.box cs fl')
theorem M4.refl(J:an):M4 J J:=λ_ _ h=>.inl h
theorem M4.trans{J J' b:an}(h:M4 J J')(g:M4 J' b):M4 J b:=λi y hy=>by
 rcases h i y hy with k|⟨cs,fl,fl',hc,rfl,k⟩
 .exact g i y k
 .rcases g i _ k with k'|⟨j,l,d,m,e,k'⟩
  .exact .inr ⟨cs,fl,fl',hc,rfl,k'⟩
  .cases e;exact .inr ⟨cs,fl,d,hc,rfl,k'⟩
theorem M4.b4{J J':an}(h:M4 J J'):B4 J J':=λi cs fl hc hy=>by
 rcases h i _ hy with k|⟨b,d,fl',g,e,k⟩
 .exact⟨fl,k⟩
 .cases e;exact⟨fl',k⟩
theorem M4.get{J J':an}(h:M4 J J'){i:Nat}{y:bO}(hy:J[i]?=aa y)(j:∀cs fl,y=bO.box cs fl->cs.length<4):J'[i]?=aa y:=by
 rcases h i _ hy with k|⟨b,d,fl',g,e,k⟩
 .exact k
 .have:=j _ _ e;omega
theorem TC.m4{J:an}{c:C}{ps:List aO}(h:TC J c ps)(n:Nat):M4 J (ef (n+1) c J):=λi y hy=>h.mk n i y hy
theorem DE(n:Nat):∀(cs:List C) (ts:List (List aO)) (J:an),cs.length=ts.length->(∀(k:Nat) (h:k<ts.length) (b:k<cs.length),TC J cs[k] ts[k])->M4 J (cs.foldl (λH x=>ef (n+1) x H) J)
 |[],_,J,_,_=>M4.refl J| c::cs,[],_,h,_=>by simp at h
 |c::cs,t::ts,J,l,h=>by
  have g:TC J c t:=h 0 bv bv;have d:=g.m4 n;refine M4.trans d (DE n cs ts _ (by simpa using l) λk j b=>?_);exact(h (k+1) (by simpa using j) (by simpa using b)).bH d.b4
theorem DD(n:Nat){J:an}:∀(cs:List C) (ts:List (List aO)),cs.length=ts.length->(∀(k:Nat) (h:k<ts.length) (b:k<cs.length),TC J cs[k] ts[k])->bu (fh (n+1) J) cs=aa (aX ts).flatten
 |[],[],_,_=>rfl| [],_::_,h,_=>by simp at h
 |c::cs,[],h,_=>by simp at h
 |c::cs,t::ts,j,h=>by
  have d:TC J c t:=h 0 bv bv;have l:=DD n (J:=J) cs ts (by simpa using j) λk g b=>h (k+1) (by simpa using g) (by simpa using b);simp only[bu,d.ex n,l];rfl
def LO(J:an)(cl:C)(ts:List (List aO)):Prop:=(ts=[]/\cl=.f .aJ)\/(ts≠[]/\∃b d cs fl,cl=.sl b 0 ts.length 0 d 1/\J[b]?=aa (.dj 1 cs fl d .loc)/\cs.length=ts.length/\fl<=cs.length/\∀(k:Nat) (h:k<ts.length) (g:k<cs.length),TC J cs[k] ts[k])
section
variable{J:an}{cl:C}{ts:List (List aO)}
theorem LO.bH{J':an}(h:LO J cl ts)(m:B4 J J')(ho:∀(i:Nat) y,bf cl=aa i->J[i]?=aa y->J'[i]?=aa y):LO J' cl ts:=by
 rcases h with h|⟨d,b,g,cs,fl,rfl,hb,hl,l,j⟩
 .exact .inl h
 .exact .inr ⟨d,b,g,cs,fl,rfl,ho b _ rfl hb,hl,l,λk h h2=>(j k h h2).bH m⟩
theorem LO.push(h:LO J cl ts)(K:an):LO (J++K) cl ts:=h.bH (λi cs fl _ hi=>⟨fl,by rw[AI (aj hi)];exact hi⟩) λi y _ hy=>by rw[AI (aj hy)];exact hy
theorem LO.ex(h:LO J cl ts)(n:Nat):∃g,fh (n+2) J cl=aa (sl g (aX ts)):=by
 rcases h with⟨rfl,rfl⟩|⟨d,b,m,cs,fl,rfl,hb,hl,q,j⟩
 .exact⟨.nil,rfl⟩
 .refine⟨.fs,?_⟩;simp only[gT,hb];rw[bZ ⟨trivial,trivial,ap⟩,ahi,agw ap,DD n cs ts hl j];cases ts with
  |nil=>exact absurd rfl d| cons a l=>simp[sl,aX]
theorem LO.mk(h:LO J cl ts)(n:Nat):LO (ef (n+2) cl J) cl ts/\∀(i:Nat) (y:bO),J[i]?=aa y->bf cl≠aa i->(ef (n+2) cl J)[i]?=aa y\/∃(cs:List C) (fl fl':Nat),4<=cs.length/\y=bO.box cs fl/\(ef (n+2) cl J)[i]?=aa (bO.box cs fl'):=by
 rcases h with⟨rfl,rfl⟩|⟨u,b,q,cs,fl,rfl,hb,hl,z,v⟩
 .exact⟨.inl ⟨rfl,rfl⟩,λi y hy _=>.inl hy⟩
 .obtain⟨l,d⟩:=aI (J.set b (.dj 1 cs (Nat.max fl (0+ts.length*1)) q .loc));have s:B4 J l:=λi cs' fl' _ hi=>⟨fl',by rw[d,sh (by rintro rfl;rw[hb]at hi;cases hi)];exact hi⟩
  have g:∀(k:Nat) (h:k<ts.length) (h2:k<cs.length),TC l cs[k] ts[k]:=λk h h2=>(v k h h2).bH s;have e:ef (n+2) (.sl b 0 ts.length 0 q 1) J=cs.foldl (λH x=>ef (n+1) x H) l:=by
   simp only[jL,hb];rw[ahi,agw ap,d]
  have m:=DE n cs ts l hl g;rw[e];refine⟨.inr ⟨u,b,q,cs,Nat.max fl (0+ts.length*1),rfl,m.get (by rw[d];exact BY (aj hb)) (λ_ _ e=>by cases e),hl,by have:Nat.max fl (0+ts.length*1)=max fl (0+ts.length*1):=rfl;omega,λk h h2=>(g k h h2).bH m.b4⟩,λi y hy hi=>?_⟩;have j:b≠i:=by rintro rfl;exact hi rfl
  exact m i y (by rw[d,sh j];exact hy)
theorem LO.bR(h:LO J cl ts){i:Nat}{cs:List C}{fl:Nat}(hi:J[i]?=aa (.box cs fl)):bf cl≠aa i:=by
 rcases h with⟨-,rfl⟩|⟨-,b,d,cs',f,rfl,hb,-⟩
 .simp[bf]
 .intro e;cases e;rw[hi]at hb;cases hb
theorem LO.app(h:LO J cl ts)(I:ts.length<=1000){c:C}{t:List aO}(E:TC J c t) :
  ∃v u,bT (J++[.box [c] 0]) 1 24 (.c cl) (.c (.sl J.length 0 1 1 0 1))=aa (.c v,u)/\LO u v (ts++[t])/\J.length<u.length/\(∀(i:Nat) y,J[i]?=aa y->bf cl≠aa i->u[i]?=aa y)/\(bf v=bf cl\/bf v=aa (J.length+1)):=by
 obtain⟨g,d⟩:=aI (J++[.box [c] 0]:an);have B:g.length=J.length+1:=by rw[d];simp
 have z:g[J.length]?=aa (.box [c] 0):=by rw[d];simp
 have j:dG g 1 (.c (.sl J.length 0 1 1 0 1))=aa (1,[c]):=by simp[dG,bh,dg,z]
 have q:TC g c t:=E.bH λi cs fl _ hi=>⟨fl,by rw[d,AI (aj hi)];exact hi⟩
 rw[<-d];rcases h with⟨rfl,rfl⟩|⟨H,b,m,cs,fl,rfl,hb,hl,F,x⟩
 .refine⟨.sl g.length 0 1 0 0 1,g++[.dj 1 [c] 0 0 .loc],?_,.inr ⟨bv,g.length,0,[c],0,rfl,bv,rfl,ap,λk h h2=>?_⟩,by rw[aft];omega,λi y hy _=>?_,.inr (by rw[B];rfl)⟩
  .simp only[bT,j];rw[ct ap,ct ap,bZ (gV ce ce)]
  .have:k=0:=by simpa using h
   subst this;exact q.bH λi cs fl _ hi=>⟨fl,by rw[AI (aj hi)];exact hi⟩
  .have:=aj hy;rw[AI ap,d,AI this];exact hy
 .have l:g[b]?=aa (.dj 1 cs fl m .loc):=by rw[d,AI (aj hb)];exact hb
  have s:B4 g (g.set b (.dj 1 (cs++[c]) fl (m+1) .loc)):=λi cs' fl' _ hi=>⟨fl',by rw[sh (by rintro rfl;rw[l]at hi;cases hi)];exact hi⟩
  have A:B4 J g:=λi cs' fl' _ hi=>⟨fl',by rw[d,AI (aj hi)];exact hi⟩
  refine⟨.sl b 0 (ts.length+1) 0 (m+1) 1,g.set b (.dj 1 (cs++[c]) fl (m+1) .loc),?_,.inr ⟨bv,b,m+1,cs++[c],fl,bv,BY (aj l),by simp[hl],ge,λk h h2=>?_⟩,by rw[agx];omega,λi y hy hi=>?_,.inl rfl⟩
  .simp only[bT,j,l,and_self,if_true];rw[ct ap,ct ap,bZ ⟨trivial,ap,F⟩,bZ (gV ap ce)]
  .rw[List.getElem_append,List.getElem_append];by_cases e:k<ts.length
   .rw[dif_pos ap,dif_pos e];exact((x k e ap).bH A).bH s
   .rw[dif_neg ap,dif_neg e];simp only[List.getElem_singleton];exact q.bH s
  .rw[sh (by rintro rfl;exact hi rfl),d,AI (aj hy)];exact hy
end
section
variable{Nb:Int}
theorem ic(a b:List (List aO))(d:Int):cM (a++b) d↔cM a d\/cM b d:=by
 unfold cM;constructor
 .rintro⟨t,g,h⟩;rcases agl.1 g with k|k
  .exact .inl ⟨t,k,h⟩
  .exact .inr ⟨t,k,h⟩
 .rintro(⟨t,k,h⟩|⟨t,k,h⟩)
  .exact⟨t,ag3 _ k,h⟩
  .exact⟨t,ahR _ k,h⟩
theorem ky(t:List aO)(d:Int):cM [t] d↔dX t d:=⟨λ⟨x,b,h⟩=>by rw[If]at b;rwa[b]at h,λh=>⟨t,bv,h⟩⟩
theorem Sl{m:Nat}{ts:List (List aO)}(h:∀t∈ts,vq Nb m t)(g:1<=m){i j:Nat}{q:aO}(l:jG Nb q):∀t∈(ts.set i [q]).eraseIdx j,vq Nb m t:=λt s=>by
 rcases aie (List.mem_of_mem_eraseIdx s)with d|rfl
 .exact h t d
 .exact⟨bv,by simpa using g,λp b=>by rw[If]at b;rw[b];exact l⟩
def eH(ts:List (List aO))(g:Tg):V:=.t [.a [.f (sl g (aX ts))],vi 0]
def mW(ts:List (List aO))(g:Tg):V:=if ts.length<=64 then eH ts g else .t [.a [.f .aJ],vi 2]
theorem Mj{J:an}{g:C}{us:List (List aO)}(N:LO J g us){b:Nat}{u:C}(U:J[b]?=aa (.box [u] 0)){t:List aO}(X:TC J u t){F:Nat} :
  LO (ef 64 (.cl F [.ptr b 0 0]) (ef 64 g J)) g us/\B4 J (ef 64 (.cl F [.ptr b 0 0]) (ef 64 g J))/\(∀(i:Nat) y,J[i]?=aa y->bf g≠aa i->i≠b->(∀cs fl,y=bO.box cs fl->cs.length<4)->(ef 64 (.cl F [.ptr b 0 0]) (ef 64 g J))[i]?=aa y)/\(ef 64 (.cl F [.ptr b 0 0]) (ef 64 g J))[b]?=aa (.box [u] 1):=by
 obtain⟨M,K⟩:=N.mk 62;obtain⟨z,H⟩:=aI (ef (62+2) g J);rw[<-H]at M K;have E:B4 J z:=λi cs fl q d=>by
  rcases K i _ d (N.bR d)with k|⟨v,B,A,_,e,k⟩
  .exact⟨fl,k⟩
  .cases e;exact⟨A,k⟩
 have l:z[b]?=aa (.box [u] 0):=by
  rcases K b _ U (N.bR U)with k|⟨v,B,A,q,e,k⟩
  .exact k
  .cases e;simp at q
 obtain⟨I,j⟩:=aI (z.set b (.box [u] 1));have x:B4 z I:=λi cs fl q d=>⟨fl,by rw[j,sh (by rintro rfl;rw[l]at d;cases d;simp at q)];exact d⟩
 have O:TC I u t:=(X.bH E).bH x;have e:ef 64 (.cl F [.ptr b 0 0]) (ef 64 g J)=ef (61+1) u I:=by
  show ef (63+1) (.cl F [.ptr b 0 0]) (ef (62+2) g J)=_;rw[<-H,Eh];show ef (62+1) (.ptr b 0 0) z=_;rw[xX,l,j];rfl
 have m:=O.m4 61;rw[e];have s:LO I g us:=M.bH x λi y hi d=>by rw[j,sh (by rintro rfl;exact M.bR l hi)];exact d
 refine⟨s.bH m.b4 λi y hi d=>?_,λi cs fl q d=>?_,λi y d hi Q W=>?_,m.get (by rw[j];exact BY (aj l)) (λcs fl e=>by cases e;simp)⟩
 .rcases m i y d with k|⟨v,B,A,_,L,k⟩
  .exact k
  .subst L;exact absurd hi (s.bR d)
 .obtain⟨B,S⟩:=E i cs fl q d;obtain⟨A,Y⟩:=x i cs B q S;exact m.b4 i cs A q Y
 .have S:z[i]?=aa y:=by
   rcases K i _ d hi with k|⟨v,B,A,q,L,k⟩
   .exact k
   .have:=W _ _ L;omega
  exact m.get (by rw[j,sh (Ne.symm Q)];exact S) W
theorem rR(f:Nat)(i6:List FC)(L:List (List aO))(hI:wX f i6 L){m:Nat}(hm1:1<=m)(hm:m<=4)(hL:∀s∈L,vq Nb m s)(hLl:L.length<=1000) :
  ∃ts g,NT Nb m L ts/\bg tab mJ [.c (.f (.fn f i6))]=Eq (mW ts g):=by
 obtain⟨r,⟨ts,g,hts,rfl⟩,h⟩:∃r,(∃ts g,NT Nb m L ts/\r=mW ts g)/\bg tab mJ [.c (.f (.fn f i6))] r:=by
  refine kH ab' rfl λQ hQ=>?_;apply ai;simp;apply ai;simp;apply au;apply ai;simp;refine ay ?_;have fin:∀(t:T) (J:an) (cl:C) (ts:List (List aO)),t.g 2=.c (.ptr 0 0 0)->t.g 4=.c (.ptr 1 0 0)->SJ J cl ts->NT Nb m L ts->WP tab mJ ab [.code wR] ⟨t,[.dY 2],J⟩ Q:=by
   intro t J cl ts B X K hN;have hnl:=hN.len;obtain⟨M,hM⟩:=aI (ts.length);apply ai;simp;obtain⟨l,j9⟩:=aI (J.length);obtain⟨J1,d9⟩:=aI (J++[bO.box [.f .aJ] 0]);have g_:SJ J1 cl ts:=by rw[d9];exact K.push _
   have c1:J1[l]?=aa (.box [.f .aJ] 0):=by rw[d9,j9];simp
   have l1:aV J1 ab (.c (.ptr 1 0 0))=aa (.c cl):=by simp[aV,aA,g_.h1]
   have ll:=g_.lj.len;have lJ1:J1.length=l+1:=by rw[d9];simp[j9]
   have p_:∀i,bf cl=aa i->i<l+1:=λi hi=>by
    rcases g_.lj with⟨-,rfl⟩|⟨b,ep,cs,rest,rfl,hb,-,-⟩
    .cases hi
    .cases hi;have:=aj hb;omega
   have hb2:2<l:=by have:=aj K.df;omega
   rw[<-hM]at ll;rw[<-d9,<-j9];apply au;apply ai;simp[X,l1,ll,-ax];refine bS M (λk t J=>t.g 2=.c (.ptr 0 0 0)/\t.g 11=.c (.ptr l 0 0)/\t.g 98=.c cl/\∃z us,SJ J cl ts/\J[l]?=aa (.box [z] 0)/\LO J z us/\(∀i,bf z=aa i->l+1<=i)/\us.length<=k/\(∀t∈us,vq Nb m t)/\∀d,0<=d->(cM us d↔cM (ts.take k) d)) ap ce ce bv bv
    ⟨by simp[B],bv,bv,.f .aJ,[],g_,c1,.inl ⟨rfl,rfl⟩,(λi h=>by cases h),bv,bv,λd _=>by simp[cM]⟩ ?_ ?_
   .rintro k t J' hk ⟨B,f_,n_,z,us,K,N,i_,A,ae4,O,h_⟩ ha hb next
    have t8:k<ts.length:=by omega
    obtain⟨bk,ek,ck,-,xk,lk,x9⟩:=K.lj.at t8;have l_:ts.take (k+1)=ts.take k++[ts[k]]:=by rw[agv,By t8];rfl
    have r5:=hN.ok _ (IN t8);obtain⟨I,htt⟩:=aI (ts[k]);rw[<-htt]at x9 l_ r5;refine ay ?_;apply ai;simp[ha,n_,xk,lk,-ax];obtain⟨a_,p9⟩:=aI (J'.length);obtain⟨S,v⟩:=aI (J'++[bO.box [ck] 0]);have U:SJ S cl ts:=by rw[v];exact K.push _
    have d_:LO S z us:=by rw[v];exact i_.push _
    have r7:S[l]?=aa (.box [z] 0):=by rw[v,AI (aj N)];exact N
    have r9:S[a_]?=aa (.box [ck] 0):=by rw[v,p9];simp
    have j8:TC S ck I:=x9.bH λi cs fl _ hi=>⟨fl,by rw[v,AI (aj hi)];exact hi⟩
    have ae2:l≠a_:=by have:=aj N;omega
    rw[<-v,<-p9];obtain⟨go,t7⟩:=d_.ex 62;have hfp:fh 63 S (.ptr a_ 0 0)=aa (.fp [sl .fs (aQ I)] 0):=by
     have:=j8.ex 61;simp only[QD,r9,bu,this];rfl
    have lus:us.length<=1000:=by omega
    have i8:=Qm go .fs us ap (λs hs=>⟨by have:=(O s hs).2.1;omega,λp hp=>by have:=((O s hs).2.2 p hp).head;have:=((O s hs).2.2 p hp).bF;omega⟩) I;obtain⟨dv,j_⟩:=aI (us.any λs=>ja s I:Bool);rw[<-j_]at i8;have i8:bg tab wW [.c (.f (sl go (aX us))),.c (.f (.fn Ad [.fp [sl .fs (aQ I)] 0]))]=Eq (vb dv):=i8;obtain⟨n1,n2,n3,n4⟩:=Mj (F:=Ad) d_ r9 j8;obtain⟨J3,H⟩:=aI (ef 64 (.cl Ad [.ptr a_ 0 0]) (ef 64 z S));rw[<-H]at n1 n2 n3 n4;have m0:0≠a_:=by have:=aj K.h0;omega
    have m1:1≠a_:=by have:=aj K.h1;omega
    have m2:2≠a_:=by have:=aj K.df;omega
    have w_:bf z≠aa 2:=λe=>by have:=A 2 e;omega
    have e_:SJ J3 cl ts:=⟨n3 0 _ U.h0 (d_.bR U.h0) m0 (λcs fl e=>by cases e;simp),n3 1 _ U.h1 (d_.bR U.h1) m1 (λcs fl e=>by cases e;simp),n3 2 _ U.df w_ m2 (λcs fl e=>by cases e),U.lj.bH n2 λi y hi u=>n3 i y u (λe=>by have:=A i e;have:=p_ i hi;omega) (by rintro rfl;exact U.lj.bR r9 hi) λcs fl e=>by subst e;exact absurd hi (U.lj.bR u)⟩
    have W:J3[l]?=aa (.box [z] 0):=n3 l _ r7 (d_.bR r7) ae2 (λcs fl e=>by cases e;simp);have v_:aV S ab (.c (.ptr l 0 0))=aa (.c z):=by simp[aV,aA,r7]
    apply ai;simp[f_,v_,-ax,t7,deep,bu,hfp,i8,-QD,<-H];cases dv with
    |true=>
     refine bE bv ?_;refine av (next _ _ ⟨by simp[B],by simp[f_],by simp[n_],z,us,e_,W,n1,A,ap,O,λd Z=>?_⟩ (by simp[ha]) (by simp[hb]));rw[l_,ic,ky,h_ d Z];refine⟨.inl,λh=>h.elim id λh=>(h_ d Z).1 ?_⟩;obtain⟨s,hs,hes⟩:=List.any_eq_true.1 j_.symm;exact⟨s,hs,(xF hes d).2 h⟩
    |false=>
     refine aw bv ?_;have m_:aV J3 ab (.c (.ptr l 0 0))=aa (.c z):=by simp[aV,aA,W]
     have ae7:aV J3 ab (.c (.ptr a_ 0 0))=aa (.c ck):=by simp[aV,aA,n4]
     have x_:=j8.bH n2;obtain⟨c3,H3,y6,i7,afP,j5,hc3⟩:=n1.app ap x_;have afQ:l<J3.length:=aj W;have n8:=j5 l _ W (n1.bR W);have s11:cY H3 (.ptr l 0 0) [c3]=aa (H3.set l (.box [c3] 0)):=by simp[cY,n8,over]
     refine aq (.inl rfl) ?_;simp[f_,m_,ae7,-ax,y6,s11,-bw];have hB3:B4 J3 (H3.set l (.box [c3] 0)):=λi cs fl hc u=>⟨fl,by rw[sh (by rintro rfl;rw[W]at u;cases u;simp at hc)];exact j5 i _ u (n1.bR u)⟩
     refine av (next _ _ ⟨by simp[B],by simp[f_],by simp[n_],c3,us++[I],⟨?_,?_,?_,?_⟩,BY (aj n8),?_,λi hi=>?_,by rw[aft,ah1];omega,λx hx=>?_,λd Z=>?_⟩ (by simp[ha]) (by simp[hb]))
     .rw[sh ap];exact j5 0 _ e_.h0 (n1.bR e_.h0)
     .rw[sh ap];exact j5 1 _ e_.h1 (n1.bR e_.h1)
     .rw[sh ap];exact j5 2 _ e_.df w_
     .refine e_.lj.bH hB3 λi y hi u=>?_;have:=p_ i hi;have hne:l≠i:=by rintro rfl;exact e_.lj.bR W hi
      rw[sh hne];exact j5 i y u λe=>by have:=A i e;omega
     .refine i7.bH (λi cs fl hc u=>⟨fl,by rw[sh (by rintro rfl;rw[n8]at u;cases u;simp at hc)];exact u⟩) λi y hi u=>?_;rw[sh (by rintro rfl;exact i7.bR n8 hi)];exact u
     .rcases hc3 with e|e
      .rw[e]at hi;exact A i hi
      .rw[e]at hi;cases hi;omega
     .rcases agl.1 hx with h|h
      .exact O x h
      .rw[If]at h;rw[h];exact r5
     .rw[l_,ic,ic,h_ d Z]
   .rintro t J' ⟨B,f_,n_,z,us,K,N,i_,A,ae4,O,h_⟩ - -;rw[hM,agu]at h_;have lus:us.length<=1000:=by omega
    obtain⟨go,t7⟩:=i_.ex 62;have t_:jz (us.map λs=>⟨.fs,s⟩)=decide (us.length<=64):=by
     unfold jz;have h1:((us.map λs=>(⟨.fs,s⟩:cV)).all jD)=ae:=by
      simp only[agJ];intro x hx;obtain⟨s,hs,rfl⟩:=agt.1 hx;obtain⟨h1,h2,h3⟩:=O s hs;have:=agV.2 h1;simp only[jD,IS,decide_eq_true_eq,agJ];exact⟨⟨ap,ap⟩,λp hp=>(h3 p hp).ok⟩
     rw[h1,Bool.and_true,agq];exact decide_eq_decide.2 ap
    have m9:=(rO go (us.map λs=>⟨.fs,s⟩) ge (λx hx=>by
     obtain⟨s,hs,rfl⟩:=agt.1 hx;exact⟨by have:=(O s hs).2.1;show s.length<=_;omega,λp hp=>kj ((O s hs).2.2 p hp).ok⟩)).eq
    rw[t_]at m9;have Vj:aK (us.map λs=>⟨.fs,s⟩)=aX us:=by simp[aK,aX,cV.row]
    rw[Vj]at m9;obtain⟨n1,n2⟩:=i_.mk 62;have v_:aV J' (aa 1) (.c (.ptr l 0 0))=aa (.a [z]):=by simp[aV,aA,N,aW]
    apply au;apply ai;simp[f_,v_,-ax,t7,deep,bu,m9];obtain⟨S,v⟩:=aI (ef 64 z J');have n1:LO S z us:=by rw[v];exact n1
    have n2:∀(i:Nat) (y:bO),J'[i]?=aa y->bf z≠aa i->(∀cs fl,y=bO.box cs fl->cs.length<4)->S[i]?=aa y:=λi y u hi hn=>by
     rw[v];rcases n2 i y u hi with k|⟨cs,f1,f2,hc,e,k⟩
     .exact k
     .have:=hn _ _ e;omega
    rw[<-v];have e0:=n2 0 _ K.h0 (i_.bR K.h0) (λcs fl e=>by cases e;simp);have e2:=n2 2 _ K.df (λe=>by have:=A 2 e;omega) (λcs fl e=>by cases e);have W:=n2 l _ N (i_.bR N) (λcs fl e=>by cases e;simp);by_cases x6:us.length<=64
    case neg=>
     refine aw ge ?_;have s0:cY S (.ptr 0 0 0) [.f .aJ]=aa (S.set 0 (.box [.f .aJ] 0)):=by simp[cY,e0,over]
     obtain⟨J3,H⟩:=aI (S.set 0 (.box [.f .aJ] 0));have f0:J3[0]?=aa (.box [.f .aJ] 0):=by rw[H];exact BY (aj e0)
     have f2:J3[2]?=aa (.dQ ae):=by rw[H,sh ap];exact e2
     apply ai;simp[B,s0,-bw];rw[<-H];refine az (hQ _ _ _ ⟨us,.nil,⟨ap,O,λd Z=>by rw[h_ d Z];exact hN.mem d Z⟩,rfl⟩ (.inr ⟨2,rfl,f2,.t [.a [.f .aJ],vi 2],?_,?_⟩))
     .have r_:(J3.set 2 (.dQ ag))[0]?=aa (.box [.f .aJ] 0):=by rw[sh ap];exact f0
      simp[Km.results,cC,bu,B,r_,aW]
     .simp[jh,dq,bu,deep,mW,x6]
    refine aD ge (aR ?_);have m_:aV S (aa 1) (.c (.ptr l 0 0))=aa (.a [z]):=by simp[aV,aA,W,aW]
    have s0:cY S (.ptr 0 0 0) [z]=aa (S.set 0 (.box [z] 0)):=by simp[cY,e0,over]
    obtain⟨J3,H⟩:=aI (S.set 0 (.box [z] 0));have f0:J3[0]?=aa (.box [z] 0):=by rw[H];exact BY (aj e0)
    have f2:J3[2]?=aa (.dQ ae):=by rw[H,sh ap];exact e2
    have i7:LO J3 z us:=n1.bH (λi cs fl hc u=>⟨fl,by rw[H,sh (by rintro rfl;rw[e0]at u;cases u;simp at hc)];exact u⟩) λi y hi u=>by rw[H,sh (by rintro rfl;exact n1.bR e0 hi)];exact u
    have x8:LO (J3.set 2 (.dQ ag)) z us:=i7.bH (λi cs fl hc u=>⟨fl,by rw[sh (by rintro rfl;rw[f2]at u;cases u)];exact u⟩) λi y hi u=>by rw[sh (by rintro rfl;have:=A 2 hi;omega)];exact u
    obtain⟨gz,hgz⟩:=x8.ex 62;apply ai;simp[B,f_,m_,-ax,s0,-bw];rw[<-H];refine az (hQ _ _ _ ⟨us,gz,⟨ap,O,λd Z=>by rw[h_ d Z];exact hN.mem d Z⟩,rfl⟩ (.inr ⟨2,rfl,f2,.t [.a [z],vi 0],?_,?_⟩))
    .have r_:(J3.set 2 (.dQ ag))[0]?=aa (.box [z] 0):=by rw[sh ap];exact f0
     simp[Km.results,cC,bu,B,r_,aW]
    .simp[jh,dq,bu,deep,hgz,eH,mW,x6]
  have u_:∀(t:T) (J:an) (cl:C) (ts:List (List aO)),t.g 2=.c (.ptr 0 0 0)->t.g 4=.c (.ptr 1 0 0)->SJ J cl ts->NT Nb m L ts->WP tab mJ ab [.code C8] ⟨t,[.dY 2],J⟩ Q:=by
   intro t J cl ts B X K hN;apply au;apply ai;simp;refine ay ?_;refine dc (λn s=>∃(t:T) (J:an) (cl:C) (ts:List (List aO)) (jn:Bool),s=⟨t,[.dY 2],J⟩/\n=(if jn then ts.length+1 else 0)/\t.g 2=.c (.ptr 0 0 0)/\t.g 4=.c (.ptr 1 0 0)/\t.g 6=vb jn/\SJ J cl ts/\NT Nb m L ts) (ts.length+1)
    ⟨_,J,cl,ts,ae,rfl,rfl,by simp[B],by simp[X],bv,K,hN⟩ ?_
   clear K hN B X;rintro n s ⟨t,J,cl,ts,jn,rfl,rfl,B,X,g6,K,hN⟩ ih;apply au;apply ai;simp[g6];cases jn with
   |false=>
    refine aD bv ?_;exact bJ rfl (fin _ J cl ts (by simp[B]) (by simp[X]) K hN)
   |true=>
    refine aw bv (aR ?_);refine ay (nM ?_);apply ai;simp;refine au (sZ ?_);have hnl:=hN.len;obtain⟨M,hM⟩:=aI (ts.length);have l1:aV J ab (.c (.ptr 1 0 0))=aa (.c cl):=by simp[aV,aA,K.h1]
    have ll:=K.lj.len;rw[<-hM]at ll;apply ai;simp[X,l1,ll,-ax];refine bS M (λi t J'=>J'=J/\t.g 2=.c (.ptr 0 0 0)/\t.g 4=.c (.ptr 1 0 0)/\t.g 6=vb ag) ap ce ce bv bv ⟨rfl,by simp[B],by simp[X],bv⟩ ?_ ?_
    .rintro i t J' hi ⟨rfl,B,X,g6⟩ ha hb next
     refine ay ?_;apply ai;simp[ha];apply ai;simp[aZ (n:=(i:Int)+1)];refine ay ?_;refine dc (λn s=>∃(j:Nat) (t':T),s=⟨t',[.dY 2],J'⟩/\n=M-j/\i<j/\j<=M/\t'.g 2=.c (.ptr 0 0 0)/\t'.g 4=.c (.ptr 1 0 0)/\t'.g 6=vb ag/\t'.g 7=vi i/\t'.g 8=vi j/\t'.g 27=t.g 27/\t'.g 28=t.g 28) (M-(i+1))
      ⟨i+1,_,rfl,rfl,ap,ap,by simp[B],by simp[X],by simp[g6],bv,bv,bv,bv⟩ ?_
     rintro n s ⟨j,t',rfl,rfl,y8,hjM,j6,E,n9,i9,c_,b_,c9⟩ ih2;have y_:i<ts.length:=by omega
     obtain⟨bi,ei,ci,-,xi,li,s7⟩:=K.lj.at y_;have ae9:=s7.len;apply au;apply ai;have k_:∀I:T,I.g 2=.c (.ptr 0 0 0)->I.g 4=.c (.ptr 1 0 0)->I.g 6=vb ag->I.g 27=t.g 27->I.g 28=t.g 28->WP tab mJ ab [.inBlock 5,.code (nK 28 97),.inLoop (fX 4 28 27 29 97 C_),.inBlock 4,.inScope C',.inBlock 3,.inLoop C9,.inBlock 2,.code wR] ⟨I,[.dY 2],J'⟩ Q:=by
      intro I B X g6 b_ c9;exact av (next _ _ ⟨rfl,by simp[B],by simp[X],by simp[g6]⟩ (by rw[c9,ha]) (by rw[b_,hb]))
     have skip:∀I:T,I.g 2=.c (.ptr 0 0 0)->I.g 4=.c (.ptr 1 0 0)->I.g 6=vb ag->I.g 7=vi i->I.g 8=vi j->I.g 27=t.g 27->I.g 28=t.g 28->j<M->WP tab mJ ab [.code ON,.inLoop OM,.inBlock 6,.inBlock 5,.code (nK 28 97),.inLoop (fX 4 28 27 29 97 C_),.inBlock 4,.inScope C',.inBlock 3,.inLoop C9,.inBlock 2,.code wR] ⟨I,[.dY 2],J'⟩ Q:=by
      intro I B X g6 g7 g8 b_ c9 hlt;refine aq (.inl rfl) ?_;simp[g8,aZ (n:=(j:Int)+1)];exact ih2 (M-(j+1)) _ ap ⟨j+1,_,rfl,rfl,ap,ap,by simp[B],by simp[X],by simp[g6],by simp[g7],bv,by simp[b_],by simp[c9]⟩
     by_cases hj:j<M
     .have af':(decide ((ts[i].length:Int)=1))=decide (ts[i].length=1):=by
       apply decide_eq_decide.2;omega
      simp[E,i9,c_,l1,ll,hj,xi,li,ae9,-ax];by_cases h1:ts[i].length=1
      .obtain⟨p,hp⟩:∃p,ts[i]=[p]:=List.length_eq_one_iff.1 h1;rw[hp]at s7;obtain⟨qi,yi,zi⟩:=s7.one;have o_:j<ts.length:=by omega
       obtain⟨bj,ej,cj,-,xj,lj,s_⟩:=K.lj.at o_;have r6:=s_.len;refine aw (by simp[h1]) (aR ?_);apply au;refine ay ?_;apply au;apply ai;by_cases h2:ts[j].length=1
       .obtain⟨p',u9⟩:∃p',ts[j]=[p']:=List.length_eq_one_iff.1 h2;rw[u9]at s_;obtain⟨qj,yj,zj⟩:=s_.one;have si:jG Nb p:=(hN.ok _ (IN y_)).2.2 p (by rw[hp];simp);have sj:jG Nb p':=(hN.ok _ (IN o_)).2.2 p' (by rw[u9];simp);have pi1:=(bC si.ok).2.2.1;have pj1:=(bC sj.ok).2.2.1;have pi2:=si.le;have pj2:=sj.le;have q_:=xA p p' pi1 ap pj1 ap;obtain⟨dv,j_⟩:=aI ((decide (p.aT % p'.aT=0)||decide (p'.aT % p.aT=0)):Bool);rw[<-j_]at q_;simp[E,i9,c_,l1,xi,li,xj,lj,r6,h2,yi,zi,yj,zj,-ax,mS,mU,<-dH,q_];cases dv with
        |false=>
         refine aw bv ?_;refine bJ rfl ?_;exact skip _ (by simp[j6]) (by simp[E]) (by simp[n9]) (by simp[i9]) (by simp[c_]) (by simp[b_]) (by simp[c9]) hj
        |true=>
         have Z:p.aT % p'.aT=0\/p'.aT % p.aT=0:=by simpa using j_.symm
         have hR:∃R:Int,0<R/\R ∣ 27720/\R<=Nb/\p.aT ∣ R/\p'.aT ∣ R:=by
          rcases Z with h|h
          .exact⟨p.aT,ap,si.aT,si.bd,ahA _,ahH h⟩
          .exact⟨p'.aT,ap,sj.aT,sj.bd,ahH h,ahA _⟩
         obtain⟨R,R0,R1,R2,Ra,Rb⟩:=hR;obtain⟨q,c1,c2,c3,c4,hor⟩:=Vc p p' si sj R0 R1 Ra Rb;have sq:jG Nb q:=⟨c1,by have:=si.fr;have:=sj.fr;omega,ag0 c3 R1,ag5 (agZ R0 c3) R2⟩
         simp only[<-dH]at hor;have hpc:(cU q).length=4:=rfl;obtain⟨J1,d9⟩:=aI (J'++[bO.box (cU q) 0]);have b1:J1[J'.length]?=aa (.box (cU q) 0):=by rw[d9];simp
         have l9:aV J1 (aa 4) (.c (.ptr J'.length 0 0))=aa (.a (cU q)):=by simp[aV,aA,b1,aW,cU]
         refine bE bv ?_;apply ai;simp[E,i9,c_,l1,xi,li,xj,lj,yi,zi,yj,zj,-ax,mS,mU,<-dH,hor,hpc];rw[<-d9];apply ai;simp;refine aw bv ?_;have g_:SJ J1 cl ts:=by rw[d9];exact K.push _
         obtain⟨S,v⟩:=aI (J1++[bO.box (cU q) 0]);have U:SJ S cl ts:=by rw[v];exact g_.push _
         have b2:S[J1.length]?=aa (.box (cU q) 0):=by rw[v];simp
         obtain⟨bb,ee,J3,c2,J4,m1,m2,m3,m4,m5,m6,hS4⟩:=U.join y8 o_ ap b2;have l1a:aV J1 ab (.c (.ptr 1 0 0))=aa (.c cl):=by simp[aV,aA,g_.h1]
         apply ai;simp[E,i9,l1a,l9,hpc,-ax,<-v,m2,m3,-bw];have ejj:((j+1:Nat):Int)=(j:Int)+1:=by omega
         rw[ejj]at m5;apply ai;simp[E,c_,m4,-ax,aZ (n:=(j:Int)+1),m5.eq,m6,-bw];apply ai;simp;have z7:((ts.set i [q]).eraseIdx j).length=ts.length-1:=by rw[aii,bZ (by rw[agx];omega),agx]
         refine bJ rfl (xS (av (ih (((ts.set i [q]).eraseIdx j).length+1) _ ge ⟨_,_,c2,(ts.set i [q]).eraseIdx j,ae,rfl,bv,by simp[j6],by simp[E],bv,hS4,⟨ap,Sl hN.ok hm1 sq,λd y7=>?_⟩⟩)));rw[QW y8 o_ hp u9 c4 d y7];exact hN.mem d y7
       .simp[E,c_,l1,xj,lj,r6,show¬ (ts[j].length:Int)=1 by omega,-ax];refine aw bv ?_;refine bJ rfl ?_;exact skip _ (by simp[j6]) (by simp[E]) (by simp[n9]) (by simp[i9]) (by simp[c_]) (by simp[b_]) (by simp[c9]) hj
      .refine aD ge ?_;refine bJ rfl ?_;exact k_ _ (by simp[j6]) (by simp[E]) (by simp[n9]) (by simp[b_]) (by simp[c9])
     .simp[E,c_,l1,ll,hj,-ax];refine aD bv ?_;refine bJ rfl ?_;exact k_ _ (by simp[j6]) (by simp[E]) (by simp[n9]) (by simp[b_]) (by simp[c9])
    .rintro t J' ⟨rfl,B,X,g6⟩ - -;refine xS (av (ih 0 _ bv ⟨_,J',cl,ts,ag,rfl,rfl,by simp[B],by simp[X],by simp[g6],K,hN⟩))
  suffices go:∀s:T,s.g 2=.c (.ptr 0 0 0)->s.g 4=.c (.ptr 1 0 0)->s.g 14=.c (.f (.fn f i6))->WP tab mJ ab [.code SU,.inBlock 0,.code C8] ⟨s,[],[.box [.f .aJ] 0,.box [.f .aJ] 0]⟩ Q by exact go _ bv bv bv
  intro s B X g14;obtain⟨HR,j7⟩:=aI ([.box [.f .aJ] 0,.box [.f .aJ] 0,.dQ ae,.lp mJ s [P.nat 15] sw oZ .ready ab 2]:an);obtain⟨H2,he,cl,ts,hq,Y⟩:=hI 3 HR (λj J=>∃cl ts,Fe s cl ts .ready J/\NT Nb m (L.take j) ts)
   ⟨.f .aJ,[],⟨by rw[j7];rfl,by rw[j7];rfl,LR.nil _ _,(λh=>by cases h),(λi h=>by cases h),by rw[j7];rfl,by rw[j7];rfl⟩,⟨bv,bv,λd _=>by simp[cM]⟩⟩
   (λj hj J0 J c ⟨cl,ts,hq,Y⟩ hk z7 hT hc=>by
    have l_:L.take (j+1)=L.take j++[L[j]]:=by rw[agv,By hj];rfl
    have hq':Fe s cl ts .ready J:=hq.bH λi y hi u=>by rw[hk i hi];exact u
    have l3:=aj hq.lp;have z8:=Y.len;rw[agO]at z8;obtain⟨r,H',hev,rfl,cl',ts',hq2,t6⟩:=Cq X ap (show m<=64 by omega) (hL _ (IN hj)) hq' hT (λi hi=>by have:=hc i hi;omega) (λi hi hi'=>by have:=hc i hi;have:=hq.lr.lt hi';omega);refine⟨H',hev,cl',ts',hq2,?_⟩;rw[l_];have hl2:(L.take j++[L[j]]).length=min j L.length+1:=by rw[aft,agO];rfl
    rcases t6 with⟨rfl,hno⟩|⟨t,rfl,ht,z_⟩
    .refine⟨ap,Y.ok,λd Z=>?_⟩;rw[ic,ky,Y.mem d Z];exact⟨.inl,λh=>h.elim id λh=>absurd h (hno d Z)⟩
    .refine⟨by rw[aft,ah1];omega,λx hx=>?_,λd Z=>?_⟩
     .rcases agl.1 hx with h|h
      .exact Y.ok x h
      .rw[If]at h;rw[h];exact ht
     .rw[ic,ic,ky,ky,Y.mem d Z,z_ d Z])
  rw[agu]at Y;rw[j7]at he;refine dK (g:=f) (by rw[oi,g14];simp[cr]) he ?_;refine ew hq.lp ce (av ?_);have h3:=hq.three (st':=.exhausted);exact u_ s _ cl ts B X ⟨h3.h0,h3.h1,h3.df,Q4 (λt ht=>(Y.ok t ht).1) h3.lr h3.ne⟩ Y
 exact⟨ts,g,hts,h.eq⟩
theorem qI(f:Nat)(b:List FC)(L:List (List aO))(l:wX f b L){m:Nat}(d:1<=m)(v:m<=4)(q:∀s∈L,vq Nb m s)(u:L.length<=64) :
  ∃ts g,NT Nb m L ts/\bg tab mJ [.c (.f (.fn f b))]=Eq (eH ts g):=by
 obtain⟨ts,g,j,h⟩:=rR f b L l d v q ap;rw[mW,bZ (by have:=j.len;omega)]at h;exact⟨ts,g,j,h⟩
end
section
variable{Nb Mb:Int}
theorem eG{tab:TB}{fn:Nat}{b:Option Nat}{a:aE}{k:List dU}{s:St}{Q:Option aE->St->Prop}(h:WP tab fn b (.code a::.inLoop a::k) s Q):WP tab fn b (.code (.loop a)::k) s Q:=jK h λ_ _ _=>rfl
theorem Y6{J:an}{c:C}{sz:Nat}{rows:List (List FC)}(h:LR J c sz rows)(m:cR sz rows){j:Nat}(g:j<rows.length){row:List FC}(u:row.length=sz) :
  ∃b d J',bf c=aa b/\bG J sz ab (.c c) (vi j)=aa (.c (.ptr b (j*sz) d))/\cY J (.ptr b (j*sz) d) (row.map .f)=aa J'/\LR J' c sz (rows.set j row)/\J'.length=J.length/\∀i:Nat,i≠b->i<J.length->J'[i]?=J[i]?:=by
 rcases h with⟨rfl,_⟩|⟨s,b,d,rfl,l⟩
 .simp at g
 .obtain⟨J',v,x,y,z⟩:=l.str (row:=row) m g u;refine⟨b,d,J',rfl,l.at g,v,.inr ⟨λe=>?_,b,d,bv,x⟩,z,λi hi q=>y.2 i hi q⟩;have:=congrArg List.length e;rw[agx]at this;rw[this]at g;simp at g
theorem EF(ps:List aO)(j:Nat)(q:aO):(aQ ps).set j q.row=aQ (ps.set j q):=by simp[aQ,List.map_set]
theorem Ej(g:Tg)(ps:List aO)(Z:∀p∈ps,jG Nb p)(o:0<ps.length)(hl:ps.length<=64)(f:aO)(Y:jG Mb f) :
  ∃q g',jG 27720 q/\(∀d,0<=d->bA q d=(bA ps[0] d&&!bA f d))/\bg tab U9 [.c (.f (sl g (aQ ps))),.a (f.row.map .f)]=Eq (.t [.c (.f (sl g' (aQ (ps.set 0 q)))),vb ae]):=by
 have y:=Z _ (IN o);obtain⟨q,c1,c2,n,c4,m⟩:=PL ps[0] f y Y (R:=27720) ce (ahA _) y.aT Y.aT;have sq:jG 27720 q:=⟨c1,by have:=y.fr;have:=Y.fr;omega,n,agZ ce n⟩
 obtain⟨r,⟨g',rfl⟩,h⟩:∃r,(∃g',r=.t [.c (.f (sl g' (aQ (ps.set 0 q)))),vb ae])/\bg tab U9 [.c (.f (sl g (aQ ps))),.a (f.row.map .f)] r:=by
  refine dx rfl rfl λQ hQ=>?_;have l:∀p,(cU p).length=4:=λ_=>rfl;have a:∀p,List.take 4 (cU p)=cU p:=λ_=>rfl;have K:=λH:an=>bz (H:=H) (g:=g) (rows:=aQ ps) (sz:=4) (k:=.i64) (i:=(0:Int)) ap ge;have s:=λH:an=>cf (H:=H) (bQ ps) (dd o);obtain⟨u,hu⟩:=aI (ps[0]);rw[<-hu]at s m;simp only[<-dH]at s m;rw[Nat.zero_mul]at s;simp at K;have L:∀H:an,bh H (.f (sl g (aQ ps)))=aa ps.length:=λH=>by simp
  obtain⟨N,A⟩:=aI ([.box (cU f) 0]:an);have d0:∀J:an,aV (N++J) (aa 4) (.c (.ptr 0 0 0))=aa (.a (cU f)):=λJ=>by rw[A];simp[aV,aA,aW,l,a]
  obtain⟨z,v⟩:=aI (N++[.box (cU u) 0]:an);have d1:aV z (aa 4) (.c (.ptr N.length 0 0))=aa (.a (cU u)):=by rw[v];simp[aV,aA,aW,l,a]
  have U:aV z (aa 4) (.c (.ptr 0 0 0))=aa (.a (cU f)):=by rw[v];exact d0 _
  obtain⟨O,B⟩:=aI (z++[.box (cU q) 0]:an);have e:O[z.length]?=aa (.box (cU q) 0):=by rw[B];simp
  apply ai;simp[l];rw[<-dH,<-A];apply au;apply ai;simp[L];refine ay (eG ?_);apply ai;simp;refine au (aw ge (aR ?_));refine au (ay ?_);apply ai;simp[K,s,-ax,l];rw[<-v];apply ai;simp[d1,U,-ax,mS,mU,m,l,<-dH];rw[<-B];apply ai;simp;refine aw bv ?_;obtain⟨r,H3,X,c,J,rfl,rfl,t,a_⟩:=sK (F:=Pb) (sz:=4) (zs:=[.aJ,fi 0,fi 0,.aJ]) (bytes:=64) (H:=O) (g:=g) (rows:=aQ ps) XY ce (bQ ps) (gV ge ce);apply ai;simp[X.eq];obtain⟨S,E⟩:=aI (O++J);rw[<-E]at t ⊢;have b3:S[z.length]?=aa (.box (cU q) 0):=by rw[E,AI (aj e)];exact e
  have d3:aV S (aa 4) (.c (.ptr z.length 0 0))=aa (.a (cU q)):=by simp[aV,aA,b3,aW,l,a]
  obtain⟨b,ep,w,e1,M,W,I,-,-⟩:=Y6 (j:=0) t (bQ ps) ge (row:=q.row) rfl;rw[EF]at I;rw[<-dH]at W;simp only[Nat.zero_mul]at M W;have M:bG S 4 ab (.c c) (vi 0)=aa (.c (.ptr b 0 ep)):=M;apply ai;simp[d3,-ax,M,W,-bw,l];apply ai;simp;obtain⟨g',x⟩:=I.ex (bQ _) 63;have x:fh 64 w c=aa (sl g' (aQ (ps.set 0 q))):=x;refine az (hQ _ _ _ ⟨g',rfl⟩ ⟨rfl,.t [.c c,vb ae],by simp[Km.results,cC,bu],by simp[jh,dq,bu,deep,x]⟩)
 exact⟨q,g',sq,c4,h.eq⟩
end
section
variable{Nb Mb:Int}
def ib(Nb:Int)(m n:Nat)(us:List (List aO)):Prop:=us.length<=n/\∀u∈us,vq Nb m u
theorem Vj(us:List (List aO)):aK (us.map λs=>⟨.fs,s⟩)=aX us:=by simp[aK,aX,cV.row]
theorem xV{us:List (List aO)}(h:ib Nb 4 64 us):jz (us.map λs=>⟨.fs,s⟩)=ae:=by
 simp only[jz,IS,decide_eq_true_eq,agJ];refine⟨by rw[agq];have:=h.1;omega,λt j=>?_⟩;obtain⟨u,l,rfl⟩:=agt.1 j;obtain⟨b,m,d⟩:=h.2 u l;have:=agV.2 b;simp only[jD,IS,decide_eq_true_eq,agJ];exact⟨⟨ap,ap⟩,λp g=>(d p g).ok⟩
theorem lL(g:Tg){us:List (List aO)}(h:ib Nb 4 64 us):bg tab Dc [.a [.f (sl g (aX us))]]=Eq (vb ae):=by
 have b:=(rO g (us.map λs=>⟨.fs,s⟩) (by have:=h.1;simp;omega) (uM (xV h))).eq;rw[xV h,Vj]at b;exact b
theorem ib.up{m n:Nat}{us:List (List aO)}(h:ib Nb m n us)(b:m<=4):ib Nb 4 n us:=⟨h.1,λu hu=>⟨(h.2 u hu).1,agK (h.2 u hu).2.1 b,(h.2 u hu).2.2⟩⟩
theorem oJ(g:Tg)(us:List (List aO))(d:us.length<=1000000):wX jM [.fp [sl g (aX us)] 0] us:=by
 have:=qn g (us.map λs=>⟨.fs,s⟩) (by simpa using d);have b:(us.map λs=>(⟨.fs,s⟩:cV)).map (·.fs)=us:=by rw[List.map_map];exact List.map_id _
 rw[Vj,b]at this;exact this
theorem jG.up{p:aO}(h:jG Nb p):jG 27720 p:=⟨h.ok,h.fr,h.aT,h.le⟩
theorem vq.up{m:Nat}{t:List aO}(h:vq Nb m t):vq 27720 m t:=⟨h.1,h.2.1,λp b=>(h.2.2 p b).up⟩
theorem RZ{s:List aO}(u:0<s.length){q f:aO}{d:Int}(m:bA q d=(bA s[0] d&&!bA f d)):dX (s.set 0 q) d↔dX s d/\bA f d=ag:=by
 cases s with
 |nil=>simp at u
 |cons a l=>
  have m:bA q d=(bA a d&&!bA f d):=m;simp only[ahU,dX,agA,forall_eq_or_imp,m,IS,ahP];constructor
  .rintro⟨⟨b,g⟩,j⟩;exact⟨⟨b,j⟩,g⟩
  .rintro⟨⟨b,j⟩,g⟩;exact⟨⟨b,g⟩,j⟩
theorem Ug{J:an}{c:C}{L:List (List aO)}(h:LR J c 1 (aX L))(B:L.length<=1000000)(s:List aO) :
  ∃m g,bT (J++[.box [.f (sl .fs (aQ s))] 0]) 1 24 (.c c) (.c (.sl J.length 0 1 1 0 1))=aa (.c m,g)/\LR g m 1 (aX (L++[s]))/\∀(i:Nat) cs fl,J[i]?=aa (.box cs fl)->g[i]?=aa (.box cs fl):=by
 obtain⟨q,b⟩:=aI (J++[.box ([sl .fs (aQ s)].map .f) 0]:an);have j:LR q c 1 (aX L):=by rw[b];exact h.push _
 have v:q[J.length]?=aa (.box ([sl .fs (aQ s)].map .f) 0):=by rw[b];simp
 obtain⟨m,g,d,l,u,A⟩:=j.app (fe L) ce (row:=[sl .fs (aQ s)]) rfl (bytes:=24) (by simp[cD,aX];omega) v;have z:aX L++[[sl .fs (aQ s)]]=aX (L++[s]):=by simp[aX]
 rw[z]at l;refine⟨m,g,by rw[b]at d;exact d,l,λi cs fl y=>?_⟩;have x:q[i]?=aa (.box cs fl):=by rw[b,AI (aj y)];exact y
 exact u.2 i _ x (j.bR x)
theorem Im{ts:List (List aO)}{i:Nat}(hi:i<ts.length)(d:Int):cM (ts.take (i+1)) d↔cM (ts.take i) d\/dX ts[i] d:=by
 rw[agv,By hi];show cM (ts.take i++[ts[i]]) d↔_;rw[ic,ky]
end
section
variable{Nb Mb:Int}
def lp:List (List aO)->Nat
 |[]=>1| v::l=>v.length*lp l
theorem Q6(v:List aO):∀l:List (List aO),lp (l++[v])=lp l*v.length
 |[]=>by simp[lp]
 |w::l=>by simp[lp,Q6 v l,Nat.mul_assoc]
theorem Ue{b:List (List aO)}{j:Nat}(d:j<b.length):lp (b.take (j+1))=lp (b.take j)*b[j].length:=by
 rw[agv,By d];exact Q6 _ _
theorem Uf{b:List (List aO)}(h:∀v∈b,1<=v.length)(j:Nat):lp (b.take j)<=lp b:=by
 induction b generalizing j with
 |nil=>simp
 |cons v l g=>
  cases j with
  |zero=>
   have m:1<=lp l:=agK (by simp[lp]) (g (λv d=>h v (agr _ d)) 0);have q:=h v ago;simpa[lp]using Nat.mul_le_mul q m
  |succ j=>exact Nat.mul_le_mul_left _ (g (λv d=>h v (agr _ d)) j)
def ab0(N:Nat)(S:Int->Prop)(m:Nat)(r:V):Prop:=(∃ts g,ib 27720 m 64 ts/\ts.length<=N/\(∀d,0<=d->(cM ts d↔S d))/\r=eH ts g)\/(r=.t [.a [.f .aJ],vi 2]/\64<N)
def MSN(N:Nat)(S:Int->Prop)(m:Nat)(o:FC)(e:Int):Prop:=(e=0/\∃ts g,o=sl g (aX ts)/\ib 27720 m 64 ts/\ts.length<=N/\∀d,0<=d->(cM ts d↔S d))\/(e=2/\o=.aJ/\64<N)
theorem vK{N m:Nat}{L ts:List (List aO)}(h:NT Nb m L ts)(u:L.length<=N)(g:Tg){S:Int->Prop}(q:∀d,0<=d->(cM L d↔S d)):∃o e,mW ts g=.t [.a [.f o],vi e]/\MSN N S m o e:=by
 have l:=h.len;by_cases b:ts.length<=64
 .exact⟨sl g (aX ts),0,by simp[mW,b,eH],.inl ⟨rfl,ts,g,rfl,⟨b,λt s=>(h.ok t s).up⟩,ap,λd j=>by rw[h.mem d j,q d j]⟩⟩
 .exact⟨.aJ,2,by simp[mW,b],.inr ⟨rfl,rfl,ap⟩⟩
theorem xY{m:Nat}(r5:1<=m)(hm:m<=4)(ga gb:Tg)(us b:List (List aO))(ha:ib Nb m 64 us)(hb:ib Mb 4 64 b) :
  ∃r,ab0 (us.length*lp b) (λd=>cM us d/\¬ cM b d) m r/\bg tab Db [.a [.f (sl ga (aX us))],.a [.f (sl gb (aX b))]]=Eq r:=by
 have hva:=lL ga (ha.up hm);have hvb:=lL gb hb;have y8:∀v∈b,1<=v.length:=λv hv=>agV.2 (hb.2 v hv).1;obtain⟨r,z,u⟩:∃r,ab0 (us.length*lp b) (λd=>cM us d/\¬ cM b d) m r/\bg tab Db [.a [.f (sl ga (aX us))],.a [.f (sl gb (aX b))]] r:=by
  refine dx rfl rfl λQ hQ=>?_;have hl1:=ha.1;have hl2:=hb.1;have i6:∀(g:Tg) (us:List (List aO)) (H:an),bh H (.f (sl g (aX us)))=aa us.length:=λg us H=>by simp[aX]
  apply ai;simp;obtain⟨HA,M⟩:=aI ([.box [.f (sl ga (aX us))] 0,.box [.f (sl gb (aX b))] 0,.box [.f .aJ] 0]:an);rw[<-M];have a2:HA[2]?=aa (.box [.f .aJ] 0):=by rw[M];rfl
  have al:HA.length=3:=by rw[M];rfl
  have l0:aV HA (aa 1) (.c (.ptr 0 0 0))=aa (.a [.f (sl ga (aX us))]):=by rw[M];simp[aV,aA,aW]
  have l1:aV HA (aa 1) (.c (.ptr 1 0 0))=aa (.a [.f (sl gb (aX b))]):=by rw[M];simp[aV,aA,aW]
  have n0:aV HA ab (.c (.ptr 0 0 0))=aa (.c (.f (sl ga (aX us)))):=by rw[M];simp[aV,aA]
  have n1:∀J:an,aV (HA++J) ab (.c (.ptr 1 0 0))=aa (.c (.f (sl gb (aX b)))):=λJ=>by rw[M];simp[aV,aA]
  apply au;apply ai;simp[l0,l1,-ax,hva,hvb];refine bE bv ?_;have b_:=ma (sl ga (aX us));obtain⟨ts0,g0,r_,W⟩:=rR jM [.fp [sl ga (aX us)] 0] us (oJ ga us ap) r5 hm ha.2 ap;obtain⟨o0,e0,s_,r6⟩:=vK (N:=us.length*lp (b.take 0)) r_ (by simp[lp]) g0 (S:=λd=>cM us d/\¬ cM (b.take 0) d) λd _=>by simp[cM]
  rw[s_]at W;apply ai;simp[n0,-ax,b_,W];obtain⟨HB,c9⟩:=aI (HA++[.box [.f o0] 0]:an);have b2:HB[2]?=aa (.box [.f .aJ] 0):=by rw[c9,AI ap];exact a2
  have b3:HB[3]?=aa (.box [.f o0] 0):=by rw[c9,agj ap];simp[al]
  have n1:aV HB ab (.c (.ptr 1 0 0))=aa (.c (.f (sl gb (aX b)))):=by rw[c9];exact n1 _
  rw[<-c9,al];apply au;apply ai;simp[n1,-ax,i6];refine bS b.length (λj t J=>t.g 2=.c (.ptr 0 0 0)/\t.g 4=.c (.ptr 2 0 0)/\t.g 6=.c (.ptr 3 0 0)/\t.g 34=.c (.f (sl gb (aX b)))/\J[2]?=aa (.box [.f .aJ] 0)/\∃o e,t.g 7=vi e/\J[3]?=aa (.box [.f o] 0)/\MSN (us.length*lp (b.take j)) (λd=>cM us d/\¬ cM (b.take j) d) m o e) ap ce ce bv bv
   ⟨bv,bv,bv,bv,b2,o0,e0,bv,b3,r6⟩ ?_ ?_
  .rintro j t J hj ⟨g2,U,Z,l,Y,o,e,g7,j3,d9⟩ n8 y7 next
   have u_:=λH:an=>bz (H:=H) (g:=gb) (rows:=aX b) (sz:=1) (k:=.i64) (i:=(j:Int)) ap (by simp[aX];omega);have j_:=λH:an=>gU (H:=H) (fe b) (j:=j) (row:=[sl .fs (aQ b[j])]) (by simp[aX,hj]) rfl;simp at u_ j_;have j6:=hb.2 _ (IN hj);have t_:∀d,cM (b.take (j+1)) d↔cM (b.take j) d\/dX b[j] d:=Im hj;obtain⟨fb,e_⟩:=aI (b[j]);rw[<-e_]at j_ j6 t_;refine ay ?_;apply ai;simp[n8,l,u_,j_,-ax];apply au;apply ai;simp[g7];rcases d9 with⟨rfl,ts,g,rfl,u9,htn,htm⟩|⟨rfl,rfl,p_⟩
   case inr=>
    refine aw bv ?_;have s2:cY J (.ptr 2 0 0) [.f .aJ]=aa (J.set 2 (.box [.f .aJ] 0)):=by simp[cY,Y,over]
    apply ai;simp[U,g7,s2,-bw];refine az (hQ _ _ _ (.inr ⟨rfl,Nat.lt_of_lt_of_le p_ (Nat.mul_le_mul_left _ (Uf y8 j))⟩) ⟨rfl,.t [.a [.f .aJ],vi 2],?_,by simp[jh,dq,bu]⟩);have k2:(J.set 2 (.box [.f .aJ] 0))[2]?=aa (.box [.f .aJ] 0):=BY (aj Y);simp[Km.results,cC,bu,U,k2,aW]
   refine bE bv ?_;have l3:aV J ab (.c (.ptr 3 0 0))=aa (.c (.f (sl g (aX ts)))):=by simp[aV,aA,j3]
   have z8:=u9.1;have r9:=j6.2.1;apply ai;simp;apply au;apply ai;simp[Z,l3,-ax,i6];refine bS ts.length (λi t' J'=>t'.g 2=.c (.ptr 0 0 0)/\t'.g 4=.c (.ptr 2 0 0)/\t'.g 6=.c (.ptr 3 0 0)/\t'.g 34=.c (.f (sl gb (aX b)))/\t'.g 35=t.g 35/\t'.g 36=t.g 36/\t'.g 9=.c (.f (sl .fs (aQ fb)))/\t'.g 45=.c (.f (sl g (aX ts)))/\J'[2]?=aa (.box [.f .aJ] 0)/\J'[3]?=aa (.box [.f (sl g (aX ts))] 0)/\∃cl L,t'.g 10=.c cl/\LR J' cl 1 (aX L)/\L.length=i*fb.length/\(∀s∈L,vq 27720 m s)/\∀d,0<=d->(cM L d↔cM (ts.take i) d/\¬ dX fb d)) ap ce ce bv bv
    ⟨by simp[g2],by simp[U],by simp[Z],by simp[l],bv,bv,bv,bv,Y,j3,.f .aJ,[],bv,LR.nil _ _,bv,bv,λd _=>by simp[cM]⟩ ?_ ?_
   .rintro i t' J' hi ⟨g2,U,Z,l,E,F,g9,I,Y,j3,cl,L,B,hL,a_,O,A⟩ d_ p9 m9;have v_:=λH:an=>bz (H:=H) (g:=g) (rows:=aX ts) (sz:=1) (k:=.i64) (i:=(i:Int)) ap (by simp[aX];omega);have k_:=λH:an=>gU (H:=H) (fe ts) (j:=i) (row:=[sl .fs (aQ ts[i])]) (by simp[aX,hi]) rfl;simp at v_ k_;have hs:=u9.2 _ (IN hi);have g_:∀d,cM (ts.take (i+1)) d↔cM (ts.take i) d\/dX ts[i] d:=Im hi;obtain⟨s,hse⟩:=aI (ts[i]);rw[<-hse]at k_ hs g_;have x6:∀H:an,bh H (.f (sl .fs (aQ fb)))=aa fb.length:=λH=>by simp
    have af9:i*fb.length<=64*4:=Nat.mul_le_mul ap r9;refine ay ?_;apply ai;simp[d_,I,v_,k_,-ax];apply ai;simp[g9,x6];refine bS fb.length (λk w K=>w.g 2=.c (.ptr 0 0 0)/\w.g 4=.c (.ptr 2 0 0)/\w.g 6=.c (.ptr 3 0 0)/\w.g 34=.c (.f (sl gb (aX b)))/\w.g 35=t.g 35/\w.g 36=t.g 36/\w.g 9=.c (.f (sl .fs (aQ fb)))/\w.g 45=.c (.f (sl g (aX ts)))/\w.g 46=t'.g 46/\w.g 47=t'.g 47/\w.g 12=.c (.f (sl .fs (aQ s)))/\w.g 51=.c (.f (sl .fs (aQ fb)))/\K[2]?=aa (.box [.f .aJ] 0)/\K[3]?=aa (.box [.f (sl g (aX ts))] 0)/\∃cl L,w.g 10=.c cl/\LR K cl 1 (aX L)/\L.length=i*fb.length+k/\(∀s∈L,vq 27720 m s)/\∀d,0<=d->(cM L d↔(cM (ts.take i) d/\¬ dX fb d)\/(dX s d/\∃p∈fb.take k,bA p d=ag))) ap ce ce bv bv
     ⟨by simp[g2],by simp[U],by simp[Z],by simp[l],by simp[E],by simp[F],by simp[g9],by simp[I],bv,bv,bv,bv,Y,j3,cl,L,by simp[B],hL,ap,O,λd hd=>by rw[A d hd];simp⟩ ?_ ?_
    .rintro k w K hk ⟨g2,U,Z,l,E,F,g9,I,i8,i9,i7,i_,Y,j3,cl,L,B,hL,a_,O,A⟩ n9 y_ m_;have w_:=λH:an=>bz (H:=H) (g:=.fs) (rows:=aQ fb) (sz:=4) (k:=.i64) (i:=(k:Int)) ap ge;have l_:=λH:an=>cf (H:=H) (bQ fb) (dd hk);simp only[agD]at w_;have f_:=j6.2.2 _ (IN hk);have h_:fb.take (k+1)=fb.take k++[fb[k]]:=by rw[agv,By hk];rfl
     obtain⟨p,hp⟩:=aI (fb[k]);rw[<-hp]at l_ f_ h_;have t8:=agV.2 hs.1;obtain⟨q,g',sq,hqm,j9⟩:=Ej .fs s hs.2.2 t8 (by have:=hs.2.1;omega) p f_;have j8:s.set 0 q≠[]:=λe=>by
      have:=congrArg List.length e;rw[agx,List.length_nil]at this;omega
     rw[im j8 g',<-im j8 .fs]at j9;have t7:∀p,(cU p).length=4:=λ_=>rfl;have tk:∀p,List.take 4 (cU p)=cU p:=λ_=>rfl;simp only[<-dH]at l_ j9;obtain⟨K1,c_⟩:=aI (K++[bO.box (cU p) 0]);have c1:K1[K.length]?=aa (.box (cU p) 0):=by rw[c_];simp
     have d1:aV K1 (aa 4) (.c (.ptr K.length 0 0))=aa (.a (cU p)):=by simp[aV,aA,c1,aW,t7,tk]
     have x8:∀(i:Nat) y,K[i]?=aa y->K1[i]?=aa y:=λi y hy=>by rw[c_,AI (aj hy)];exact hy
     have x9:LR K1 cl 1 (aX L):=by rw[c_];exact hL.push _
     obtain⟨c3,H3,o_,x_,q_⟩:=Ug x9 ap (s.set 0 q);refine ay ?_;apply ai;simp[n9,i_,w_,l_,-ax,t7];rw[<-c_];apply ai;simp[i7,d1,-ax,mS,mU,<-dH,j9];apply au;apply ai;simp;refine bE bv ?_;refine aq (.inl rfl) ?_;simp[B,o_];refine av (m_ _ _ ?_ (by simp[n9]) (by simp[y_]));refine⟨by simp[g2],by simp[U],by simp[Z],by simp[l],by simp[E],by simp[F],by simp[g9],by simp[I],by simp[i8],by simp[i9],by simp[i7],by simp[i_],q_ _ _ _ (x8 _ _ Y),q_ _ _ _ (x8 _ _ j3),c3,_,bv,x_,by rw[aft,ah1];omega,λx hx=>?_,λd hd=>?_⟩
     .rcases agl.1 hx with h|h
      .exact O x h
      .rw[If]at h;rw[h];exact⟨j8,by rw[agx];exact hs.2.1,λy hy=>(aie hy).elim (λh=>(hs.2.2 y h).up) λe=>e▸sq⟩
     .rw[ic,ky,A d hd,RZ t8 (hqm d hd),or_assoc];refine or_congr_right ?_;rw[h_];constructor
      .rintro(⟨z,x,hx,u⟩|⟨z,u⟩)
       .exact⟨z,x,ag3 _ hx,u⟩
       .exact⟨z,p,bv,u⟩
      .rintro⟨z,x,hx,u⟩;rcases agl.1 hx with h|h
       .exact .inl ⟨z,x,h,u⟩
       .rw[If]at h;rw[h]at u;exact .inr ⟨z,u⟩
    .rintro w K ⟨g2,U,Z,l,E,F,g9,I,i8,i9,i7,i_,Y,j3,cl,L,B,hL,a_,O,A⟩ - -;rw[agu]at A;refine av (m9 _ _ ?_ (by simp[i9,d_]) (by simp[i8,p9]));refine⟨by simp[g2],by simp[U],by simp[Z],by simp[l],by simp[E],by simp[F],by simp[g9],by simp[I],Y,j3,cl,L,by simp[B],hL,by rw[a_,agS];omega,O,λd hd=>?_⟩;rw[A d hd,g_];have z_:(¬ dX fb d)↔∃p∈fb,bA p d=ag:=by
      simp only[dX];constructor
      .intro h;refine Decidable.byContradiction λhc=>h λp hp=>?_;cases hk:bA p d with
       |true=>rfl| false=>exact absurd ⟨p,hp,hk⟩ hc
      .rintro⟨p,hp,h⟩ n_;rw[n_ p hp]at h;exact absurd h ce
     rw[<-z_];constructor
     .rintro(⟨z,u⟩|⟨z,u⟩)
      .exact⟨.inl z,u⟩
      .exact⟨.inr z,u⟩
     .rintro⟨z|z,u⟩
      .exact .inl ⟨z,u⟩
      .exact .inr ⟨z,u⟩
   .rintro t' J' ⟨g2,U,Z,l,E,F,g9,I,Y,j3,cl,L,B,hL,a_,O,A⟩ - -;rw[agu]at A;have y6:L.length<=1000:=by
     rw[a_];exact agK (Nat.mul_le_mul z8 r9) ce
    obtain⟨go,j7⟩:=hL.ex (fe L) 63;have j7:fh 64 J' cl=aa (sl go (aX L)):=j7;have b_:=ma (sl go (aX L));obtain⟨ts1,g1,s7,X⟩:=rR jM [.fp [sl go (aX L)] 0] L (oJ go L ap) r5 hm O y6;obtain⟨o1,e1,t6,r7⟩:=vK (N:=us.length*lp (b.take (j+1))) s7 (by rw[a_,Ue hj,<-e_,<-Nat.mul_assoc];exact ag9 _ htn) g1 (S:=λd=>cM us d/\¬ cM (b.take (j+1)) d) λd hd=>by
     rw[A d hd,htm d hd,t_];constructor
     .rintro⟨⟨z,u⟩,h3⟩;exact⟨z,λh=>h.elim u h3⟩
     .rintro⟨z,u⟩;exact⟨⟨z,λh=>u (.inl h)⟩,λh=>u (.inr h)⟩
    rw[t6]at X;obtain⟨J2,j5⟩:=aI (ef 64 cl J');have m2:J2[2]?=aa (.box [.f .aJ] 0):=by rw[j5];exact hL.x.Eg 63 Y
    have m3:J2[3]?=aa (.box [.f (sl g (aX ts))] 0):=by rw[j5];exact hL.x.Eg 63 j3
    have s3:cY J2 (.ptr 3 0 0) [.f o1]=aa (J2.set 3 (.box [.f o1] 0)):=by simp[cY,m3,over]
    refine aq (.inl rfl) ?_;simp[Z,B,j7,deep,b_,X,<-j5,s3,-bw];refine av (next _ _ ?_ (by simp[F,n8]) (by simp[E,y7]));exact⟨by simp[g2],by simp[U],by simp[Z],by simp[l],by rw[sh ap];exact m2,o1,e1,bv,BY (aj m3),r7⟩
  .rintro t J ⟨g2,U,Z,l,Y,o,e,g7,j3,d9⟩ - -;rw[agu]at d9;have l3:aV J (aa 1) (.c (.ptr 3 0 0))=aa (.a [.f o]):=by simp[aV,aA,j3,aW]
   have s2:cY J (.ptr 2 0 0) [.f o]=aa (J.set 2 (.box [.f o] 0)):=by simp[cY,Y,over]
   have k2:(J.set 2 (.box [.f o] 0))[2]?=aa (.box [.f o] 0):=BY (aj Y);apply ai;simp[U,Z,g7,l3,-ax,s2,-bw];refine az (hQ _ _ (.t [.a [.f o],vi e]) ?_ ⟨rfl,.t [.a [.f o],vi e],?_,by simp[jh,dq,bu]⟩)
   .rcases d9 with⟨rfl,ts,g,rfl,z,hn,u⟩|⟨rfl,rfl,z7⟩
    .exact .inl ⟨ts,g,z,hn,u,rfl⟩
    .exact .inr ⟨rfl,z7⟩
   .simp[Km.results,cC,bu,U,k2,aW]
 exact⟨r,z,u.eq⟩
end
section
variable{Nb:Int}
def uc(Nb:Int)(ts:List cV):Prop:=ts.length<=2/\∀t∈ts,vq Nb 2 t.fs
theorem uc.mix{ts:List cV}(h:uc Nb ts):jz ts=ae:=by
 simp only[jz,IS,decide_eq_true_eq,agJ];refine⟨by have:=h.1;omega,λt d=>?_⟩;obtain⟨h1,h2,h3⟩:=h.2 t d;have:=agV.2 h1;simp only[jD,IS,decide_eq_true_eq,agJ];exact⟨⟨ap,ap⟩,λp b=>(h3 p b).ok⟩
structure SQ(row:FC)(by':Int)(N:Nat)(cl:C)(us:List (List aO))(t:T)(J:an):Prop where
 b0:J[0]?=aa (.box [.f row] 0)
 b1:J[1]?=aa (.box [.f .aJ] 0)
 g1:t.g 1=vi by'
 g2:t.g 2=.c (.ptr 0 0 0)
 g4:t.g 4=.c (.ptr 1 0 0)
 g6:t.g 6=.c cl
 lo:LO J cl us
theorem E9{J:an}{b:Nat}{ps:List aO}(h:BX J b ps.length ps)(g:ps≠[]):TC J (.sl b 0 ps.length ps.length 0 4) ps:=by
 obtain⟨rest,d,j⟩:=h;have:rest=[]:=List.length_eq_zero_iff.1 (by rw[aft,mr]at j;omega);subst this;rw[agN]at d;exact .inr ⟨g,b,0,rfl,d⟩
theorem A6(g:Tg)(ts:List cV)(S:uc Nb ts)(b:Int)(u_:-1000<=b)(r7:b<=0) :
  ∃us g',(us.length<=2/\∀u∈us,vq Nb 2 u)/\(∀d,0<=d->(cM us d↔∃t∈ts,dX t.fs (d-b)))/\bg tab vm [.a [.f (sl g (aK ts))],vi b]=Eq (.t [.a [.f (sl g' (aX us))],vi 0]):=by
 obtain⟨r,⟨us,g',h1,h2,rfl⟩,h⟩:∃r,(∃us g',(us.length<=2/\∀u∈us,vq Nb 2 u)/\(∀d,0<=d->(cM us d↔∃t∈ts,dX t.fs (d-b)))/\r=.t [.a [.f (sl g' (aX us))],vi 0])/\bg tab vm [.a [.f (sl g (aK ts))],vi b] r:=by
  have I:=(rO g ts (by have:=S.1;omega) (uM S.mix)).eq;rw[S.mix]at I;have x9:=S.1;refine dx rfl rfl λQ hQ=>?_;apply ai;simp;apply au;apply ai;simp[I];refine bE bv ?_;apply ai;simp;have n_:∀H:an,bh H (.f (sl g (aK ts)))=aa ts.length:=λH=>by simp
  apply au;apply ai;simp[n_];refine bS ts.length (λk t J=>t.g 19=.c (.f (sl g (aK ts)))/\∃cl us,SQ (sl g (aK ts)) b 0 cl us t J/\us.length=k/\(∀u∈us,vq Nb 2 u)/\∀d,0<=d->(cM us d↔∃t∈ts.take k,dX t.fs (d-b))) ap ce ce bv bv
   ⟨bv,.f .aJ,[],⟨rfl,rfl,bv,bv,bv,bv,.inl ⟨rfl,rfl⟩⟩,rfl,bv,λd _=>by simp[cM]⟩ ?_ ?_
  .rintro k t J hk ⟨c9,cl,us,z,m_,i6,c⟩ ha hb next
   have F:=λH:an=>gU (H:=H) (fN ts) (ir (l:=ts) (j:=k) hk) rfl;have o:=λH:an=>bz (H:=H) (g:=g) (rows:=aK ts) (sz:=1) (k:=.i64) (i:=k) ap (by simpa using hk);simp at F o;have m9:ts.take (k+1)=ts.take k++[ts[k]]:=by rw[agv,By hk];rfl
   have E:=S.2 _ (IN hk);obtain⟨tm,t8⟩:=aI (ts[k]);rw[<-t8]at F m9 E;obtain⟨ps,k_⟩:=aI (tm.fs);rw[<-k_]at F E;obtain⟨n,hn⟩:=aI (ps.length);have x6:0<n:=by rw[hn];exact agV.2 E.1
   have x8:n<=2:=by have:=E.2.1;omega
   have b_:∀H:an,bh H (.f (sl tm.tg (aQ ps)))=aa n:=λH=>by rw[hn];simp
   have t7:∀(t:T) (H:an),t.g 26=vi n->cm t H (.fI 4 64 [.aJ,fi 0,fi 0,.aJ] (R 26) (R 26))=aa (.c (.sl H.length 0 n n 0 4),H++[.box ((dJ n [FC.aJ,fi 0,fi 0,.aJ]).map .f) 0]):=by
    intro t H ht;simp only[cm,oi,ht];have hi:fG (vi n)=aa (n:Int):=rfl;simp only[hi];rw[bZ ⟨ap,ahw _,gV ge ce,rfl⟩,ct ap];simp
   refine ay ?_;apply ai;simp[ha,c9,o,F];apply ai;simp[b_,t7];obtain⟨b9,e_⟩:=aI (J.length);obtain⟨J1,Y⟩:=aI (J++[bO.box (List.replicate n [C.f FC.aJ,C.f (fi 0),C.f (fi 0),C.f FC.aJ]).flatten 0]);have r5:BX J1 b9 n ([]++List.replicate n zp):=by
    refine⟨[],?_,?_⟩
    .rw[Y,e_,ahF,agN];have:dM (List.replicate n zp)=List.replicate n [C.f FC.aJ,C.f (fi 0),C.f (fi 0),C.f FC.aJ]:=by
      rw[dM,aiR];rfl
     rw[this];simp
    .rw[ahF,agN,mr,ah2]
   rw[<-Y,<-e_];have k1:∀(i:Nat) y,J[i]?=aa y->J1[i]?=aa y:=λi y X=>by rw[Y,AI (aj X)];exact X
   have x_:J1.length=b9+1:=by rw[Y];simp[e_]
   apply au;apply ai;simp[b_];refine bS n (λj U J'=>U.g 1=vi b/\U.g 2=.c (.ptr 0 0 0)/\U.g 4=.c (.ptr 1 0 0)/\U.g 6=.c cl/\U.g 9=.c (.sl b9 0 n n 0 4)/\U.g 19=.c (.f (sl g (aK ts)))/\U.g 20=t.g 20/\U.g 21=t.g 21/\U.g 28=.c (.f (sl tm.tg (aQ ps)))/\(∀(i:Nat) y,J[i]?=aa y->J'[i]?=aa y)/\b9<J'.length/\∃qs,qs.length=j/\BX J' b9 n (qs++List.replicate (n-j) zp)/\(∀q∈qs,jG Nb q)/\∀d,0<=d->(dX qs d↔dX (ps.take j) (d-b))) ap ce ce bv bv
    ⟨by simp[z.g1],by simp[z.g2],by simp[z.g4],by simp[z.g6],bv,by simp[c9],bv,bv,bv,k1,ap,[],rfl,by simpa using r5,bv,λd _=>by simp[dX]⟩ ?_ ?_
   .rintro j U J' hj ⟨g1,g2,g4,g6,g9,M,c_,d9,d_,v,j9,qs,K,hX,h_,a⟩ j7 r6 i9;have f_:j<ps.length:=by omega
    have n8:=λH:an=>bz (H:=H) (g:=tm.tg) (rows:=aQ ps) (sz:=4) (k:=.i64) (i:=(j:Int)) ap ge;have i8:=λH:an=>cf (H:=H) (bQ ps) (dd f_);simp only[agD]at n8;have B:=E.2.2 _ (IN f_);have a_:ps.take (j+1)=ps.take j++[ps[j]]:=by rw[agv,By f_];rfl
    obtain⟨u,hu⟩:=aI (ps[j]);rw[<-hu]at i8 B a_;obtain⟨q,c1,c2,c3,-,-,c4,l_⟩:=Be u B.ok (by have:=B.bF;omega) (by have:=B.head;omega) b ap r7;have y6:=(bC B.ok).2.2.1;have sq:jG Nb q:=⟨c1,by have:=B.fr;omega,ag0 c3 B.aT,ag5 (agZ ap c3) B.bd⟩
    simp only[<-dH]at i8 l_;have O:∀p,(cU p).length=4:=λ_=>rfl;have tk:∀p,List.take 4 (cU p)=cU p:=λ_=>rfl;obtain⟨W,A⟩:=aI (J'++[bO.box (cU u) 0]);have o_:W[J'.length]?=aa (.box (cU u) 0):=by rw[A];simp
    have t_:aV W (aa 4) (.c (.ptr J'.length 0 0))=aa (.a (cU u)):=by simp[aV,aA,o_,aW,O,tk]
    obtain⟨J3,Z⟩:=aI (W++[bO.box (cU q) 0]);have p9:J3[W.length]?=aa (.box (cU q) 0):=by rw[Z];simp
    have u9:aV J3 (aa 4) (.c (.ptr W.length 0 0))=aa (.a (cU q)):=by simp[aV,aA,p9,aW,O,tk]
    have j5:BX J3 b9 n (qs++List.replicate (n-j) zp):=by rw[Z,A];exact(hX.push _).push _
    have s_:(qs++List.replicate (n-j) zp).length=n:=by rw[aft,ah2];omega
    obtain⟨n9,-⟩:=j5.at (i:=j) ap;obtain⟨J4,s4,j6,w_,r_⟩:=j5.st (i:=j) ap q;rw[s_]at n9;refine ay ?_;apply ai;simp[j7,d_,n8,i8,-ax,O];rw[<-A];apply ai;simp[g1,t_,-ax,mS,mU,<-dH,l_,O];rw[<-Z];apply au;apply ai;simp;refine bE bv ?_;refine aq (.inl rfl) ?_;simp[g9,u9,n9,s4,O,-ax,-bw];have s7:∀(i:Nat) y,J[i]?=aa y->J4[i]?=aa y:=λi y X=>by
     have h1:=aj X;have h2:=aj (v i y X);rw[r_ i ap,Z,AI (by rw[A,aft];omega),A,AI h2];exact v i y X
    refine av (i9 _ _ ?_ (by simp[j7]) (by simp[r6]));refine⟨by simp[g1],by simp[g2],by simp[g4],by simp[g6],by simp[g9],by simp[M],by simp[c_],by simp[d9],by simp[d_],s7,by have:=j6.lt;omega,qs++[q],by simp[K],?_,λx L=>?_,λd f=>?_⟩
    .have e:(qs++List.replicate (n-j) zp).set j q=qs++[q]++List.replicate (n-(j+1)) zp:=by
      obtain⟨k,hk⟩:∃k,n-j=k+1:=⟨n-j-1,ap⟩
      rw[ahO _ _ ap,K,ah9,hk,ail,ahU,show n-(j+1)=k by omega,agM];rfl
     rw[<-e];exact j6
    .rcases agl.1 L with h|h
     .exact h_ x h
     .rw[If]at h;rw[h];exact sq
    .rw[a_,fB,fB,a d f];simp only[dX,If,forall_eq];rw[c4 d f]
   .rintro U J' ⟨g1,g2,g4,g6,g9,M,c_,d9,d_,v,j9,qs,K,hX,h_,a⟩ - -;rw[ah9,aiQ,agN]at hX;rw[hn,agu]at a;have w:qs≠[]:=by intro e;rw[e]at K;simp at K;omega
    rw[<-K]at hX g9;have q_:=E9 hX w;have p_:B4 J J':=λi cs fl _ X=>⟨fl,v i _ X⟩
    have N:LO J' cl us:=z.lo.bH p_ λi y _ X=>v i y X;obtain⟨c3,H3,j8,i_,t6,j_,v_⟩:=N.app ap q_;refine aq (.inl rfl) ?_;simp[g6,g9,j8];refine av (next _ _ ⟨by simp[M],c3,us++[qs],⟨j_ 0 _ (v 0 _ z.b0) (N.bR (v 0 _ z.b0)),j_ 1 _ (v 1 _ z.b1) (N.bR (v 1 _ z.b1)),by simp[g1],by simp[g2],by simp[g4],bv,i_⟩,by simp[m_],λx L=>?_,λd f=>?_⟩ (by simp[d9,ha]) (by simp[c_,hb]))
    .rcases agl.1 L with h|h
     .exact i6 x h
     .rw[If]at h;rw[h];exact⟨w,ap,h_⟩
    .rw[m9,ic,ky,c d f,a d f,k_];constructor
     .rintro(⟨x,L,h⟩|h)
      .exact⟨x,ag3 _ L,h⟩
      .exact⟨tm,bv,h⟩
     .rintro⟨x,L,h⟩;rcases agl.1 L with L|L
      .exact .inl ⟨x,L,h⟩
      .rw[If]at L;rw[L]at h;exact .inr h
  .rintro t J ⟨c9,cl,us,z,m_,i6,c⟩ - -;rw[agu]at c;obtain⟨go,r9⟩:=z.lo.ex 62;obtain⟨n1,n2⟩:=z.lo.mk 62;have I:=ma (sl go (aX us));obtain⟨vs,gv,i7,g_⟩:=qI jM [.fp [sl go (aX us)] 0] us (by
    have:=qn go (us.map λs=>⟨.fs,s⟩) ge;have e:aK (us.map λs=>⟨.fs,s⟩)=aX us:=by simp[aK,aX,cV.row]
    have e2:(us.map λs=>(⟨.fs,s⟩:cV)).map (·.fs)=us:=by rw[List.map_map];exact List.map_id _
    rw[e,e2]at this;exact this) (m:=2) ap ap i6 ap
   obtain⟨W,A⟩:=aI (ef 64 cl J);have e1:W[1]?=aa (.box [.f .aJ] 0):=by
    rw[A];rcases n2 1 _ z.b1 (z.lo.bR z.b1)with k|⟨cs,f1,f2,hc,e,k⟩
    .exact k
    .cases e;simp at hc
   have s1:cY W (.ptr 1 0 0) [.f (sl gv (aX vs))]=aa (W.set 1 (.box [.f (sl gv (aX vs))] 0)):=by simp[cY,e1,over]
   have f1:(W.set 1 (.box [.f (sl gv (aX vs))] 0))[1]?=aa (.box [.f (sl gv (aX vs))] 0):=BY (aj e1);apply ai;simp[z.g4,z.g6,r9,deep,I,g_,eH,<-A,s1,-bw];refine az (hQ _ _ _ ⟨vs,gv,⟨by have:=i7.len;omega,i7.ok⟩,λd f=>by rw[i7.mem d f];exact c d f,rfl⟩ ⟨rfl,.t [.a [.f (sl gv (aX vs))],vi 0],?_,by simp[jh,dq,bu]⟩);simp[Km.results,cC,bu,z.g4,f1,aW]
 exact⟨us,g',h1,h2,h.eq⟩
end
section
variable{Nb:Int}
def W3(Nb:Int)(mm nn:Nat)(ts:List cV):Prop:=ts.length<=nn/\∀t∈ts,vq Nb mm t.fs
theorem W3.mix{mm nn:Nat}{ts:List cV}(h:W3 Nb mm nn ts)(b:mm<=4)(d:nn<=64):jz ts=ae:=by
 simp only[jz,IS,decide_eq_true_eq,agJ];refine⟨by have:=h.1;omega,λt j=>?_⟩;obtain⟨h1,h2,h3⟩:=h.2 t j;have:=agV.2 h1;simp only[jD,IS,decide_eq_true_eq,agJ];exact⟨⟨ap,ap⟩,λp g=>(h3 p g).ok⟩
theorem G6{mm nn:Nat}(t_:1<=mm)(g_:mm<=4)(l_:nn<=64)(g:Tg)(ts:List cV)(S:W3 Nb mm nn ts)(b:Int)(x6:-1000<=b)(r_:b<=0) :
  ∃us g',(us.length<=ts.length/\∀u∈us,vq Nb mm u)/\(∀d,0<=d->(cM us d↔∃t∈ts,dX t.fs (d-b)))/\bg tab vm [.a [.f (sl g (aK ts))],vi b]=Eq (.t [.a [.f (sl g' (aX us))],vi 0]):=by
 obtain⟨r,⟨us,g',h1,h2,rfl⟩,h⟩:∃r,(∃us g',(us.length<=ts.length/\∀u∈us,vq Nb mm u)/\(∀d,0<=d->(cM us d↔∃t∈ts,dX t.fs (d-b)))/\r=.t [.a [.f (sl g' (aX us))],vi 0])/\bg tab vm [.a [.f (sl g (aK ts))],vi b] r:=by
  have I:=(rO g ts (by have:=S.1;omega) (uM (S.mix g_ l_))).eq;rw[(S.mix g_ l_)]at I;have y7:=S.1;refine dx rfl rfl λQ hQ=>?_;apply ai;simp;apply au;apply ai;simp[I];refine bE bv ?_;apply ai;simp;have p9:∀H:an,bh H (.f (sl g (aK ts)))=aa ts.length:=λH=>by simp
  apply au;apply ai;simp[p9];refine bS ts.length (λk t J=>t.g 19=.c (.f (sl g (aK ts)))/\∃cl us,SQ (sl g (aK ts)) b 0 cl us t J/\us.length=k/\(∀u∈us,vq Nb mm u)/\∀d,0<=d->(cM us d↔∃t∈ts.take k,dX t.fs (d-b))) ap ce ce bv bv
   ⟨bv,.f .aJ,[],⟨rfl,rfl,bv,bv,bv,bv,.inl ⟨rfl,rfl⟩⟩,rfl,bv,λd _=>by simp[cM]⟩ ?_ ?_
  .rintro k t J hk ⟨c9,cl,us,A,n9,i7,c⟩ ha hb next
   have F:=λH:an=>gU (H:=H) (fN ts) (ir (l:=ts) (j:=k) hk) rfl;have o:=λH:an=>bz (H:=H) (g:=g) (rows:=aK ts) (sz:=1) (k:=.i64) (i:=k) ap (by simpa using hk);simp at F o;have n8:ts.take (k+1)=ts.take k++[ts[k]]:=by rw[agv,By hk];rfl
   have v:=S.2 _ (IN hk);obtain⟨tm,u_⟩:=aI (ts[k]);rw[<-u_]at F n8 v;obtain⟨ps,m9⟩:=aI (tm.fs);rw[<-m9]at F v;obtain⟨n,hn⟩:=aI (ps.length);have x_:0<n:=by rw[hn];exact agV.2 v.1
   have y6:n<=4:=by have:=v.2.1;omega
   have b_:∀H:an,bh H (.f (sl tm.tg (aQ ps)))=aa n:=λH=>by rw[hn];simp
   have u9:∀(t:T) (H:an),t.g 26=vi n->cm t H (.fI 4 64 [.aJ,fi 0,fi 0,.aJ] (R 26) (R 26))=aa (.c (.sl H.length 0 n n 0 4),H++[.box ((dJ n [FC.aJ,fi 0,fi 0,.aJ]).map .f) 0]):=by
    intro t H ht;simp only[cm,oi,ht];have hi:fG (vi n)=aa (n:Int):=rfl;simp only[hi];rw[bZ ⟨ap,ahw _,gV ge ce,rfl⟩,ct ap];simp
   refine ay ?_;apply ai;simp[ha,c9,o,F];apply ai;simp[b_,u9];obtain⟨b9,e_⟩:=aI (J.length);obtain⟨J1,Y⟩:=aI (J++[bO.box (List.replicate n [C.f FC.aJ,C.f (fi 0),C.f (fi 0),C.f FC.aJ]).flatten 0]);have r7:BX J1 b9 n ([]++List.replicate n zp):=by
    refine⟨[],?_,?_⟩
    .rw[Y,e_,ahF,agN];have:dM (List.replicate n zp)=List.replicate n [C.f FC.aJ,C.f (fi 0),C.f (fi 0),C.f FC.aJ]:=by
      rw[dM,aiR];rfl
     rw[this];simp
    .rw[ahF,agN,mr,ah2]
   rw[<-Y,<-e_];have k1:∀(i:Nat) y,J[i]?=aa y->J1[i]?=aa y:=λi y X=>by rw[Y,AI (aj X)];exact X
   have y8:J1.length=b9+1:=by rw[Y];simp[e_]
   apply au;apply ai;simp[b_];refine bS n (λj U J'=>U.g 1=vi b/\U.g 2=.c (.ptr 0 0 0)/\U.g 4=.c (.ptr 1 0 0)/\U.g 6=.c cl/\U.g 9=.c (.sl b9 0 n n 0 4)/\U.g 19=.c (.f (sl g (aK ts)))/\U.g 20=t.g 20/\U.g 21=t.g 21/\U.g 28=.c (.f (sl tm.tg (aQ ps)))/\(∀(i:Nat) y,J[i]?=aa y->J'[i]?=aa y)/\b9<J'.length/\∃qs,qs.length=j/\BX J' b9 n (qs++List.replicate (n-j) zp)/\(∀q∈qs,jG Nb q)/\∀d,0<=d->(dX qs d↔dX (ps.take j) (d-b))) ap ce ce bv bv
    ⟨by simp[A.g1],by simp[A.g2],by simp[A.g4],by simp[A.g6],bv,by simp[c9],bv,bv,bv,k1,ap,[],rfl,by simpa using r7,bv,λd _=>by simp[dX]⟩ ?_ ?_
   .rintro j U J' hj ⟨g1,g2,g4,g6,g9,M,c_,d9,d_,z,j_,qs,K,hX,i6,a⟩ j8 r9 i_;have f_:j<ps.length:=by omega
    have n_:=λH:an=>bz (H:=H) (g:=tm.tg) (rows:=aQ ps) (sz:=4) (k:=.i64) (i:=(j:Int)) ap ge;have i9:=λH:an=>cf (H:=H) (bQ ps) (dd f_);simp only[agD]at n_;have E:=v.2.2 _ (IN f_);have a_:ps.take (j+1)=ps.take j++[ps[j]]:=by rw[agv,By f_];rfl
    obtain⟨u,hu⟩:=aI (ps[j]);rw[<-hu]at i9 E a_;obtain⟨q,c1,c2,c3,-,-,c4,m_⟩:=Be u E.ok (by have:=E.bF;omega) (by have:=E.head;omega) b ap r_;have y_:=(bC E.ok).2.2.1;have sq:jG Nb q:=⟨c1,by have:=E.fr;omega,ag0 c3 E.aT,ag5 (agZ ap c3) E.bd⟩
    simp only[<-dH]at i9 m_;have O:∀p,(cU p).length=4:=λ_=>rfl;have tk:∀p,List.take 4 (cU p)=cU p:=λ_=>rfl;obtain⟨W,B⟩:=aI (J'++[bO.box (cU u) 0]);have p_:W[J'.length]?=aa (.box (cU u) 0):=by rw[B];simp
    have v_:aV W (aa 4) (.c (.ptr J'.length 0 0))=aa (.a (cU u)):=by simp[aV,aA,p_,aW,O,tk]
    obtain⟨J3,Z⟩:=aI (W++[bO.box (cU q) 0]);have q_:J3[W.length]?=aa (.box (cU q) 0):=by rw[Z];simp
    have w_:aV J3 (aa 4) (.c (.ptr W.length 0 0))=aa (.a (cU q)):=by simp[aV,aA,q_,aW,O,tk]
    have j6:BX J3 b9 n (qs++List.replicate (n-j) zp):=by rw[Z,B];exact(hX.push _).push _
    have t7:(qs++List.replicate (n-j) zp).length=n:=by rw[aft,ah2];omega
    obtain⟨o_,-⟩:=j6.at (i:=j) ap;obtain⟨J4,s4,j7,x9,s_⟩:=j6.st (i:=j) ap q;rw[t7]at o_;refine ay ?_;apply ai;simp[j8,d_,n_,i9,-ax,O];rw[<-B];apply ai;simp[g1,v_,-ax,mS,mU,<-dH,m_,O];rw[<-Z];apply au;apply ai;simp;refine bE bv ?_;refine aq (.inl rfl) ?_;simp[g9,w_,o_,s4,O,-ax,-bw];have t6:∀(i:Nat) y,J[i]?=aa y->J4[i]?=aa y:=λi y X=>by
     have h1:=aj X;have h2:=aj (z i y X);rw[s_ i ap,Z,AI (by rw[B,aft];omega),B,AI h2];exact z i y X
    refine av (i_ _ _ ?_ (by simp[j8]) (by simp[r9]));refine⟨by simp[g1],by simp[g2],by simp[g4],by simp[g6],by simp[g9],by simp[M],by simp[c_],by simp[d9],by simp[d_],t6,by have:=j7.lt;omega,qs++[q],by simp[K],?_,λx L=>?_,λd f=>?_⟩
    .have e:(qs++List.replicate (n-j) zp).set j q=qs++[q]++List.replicate (n-(j+1)) zp:=by
      obtain⟨k,hk⟩:∃k,n-j=k+1:=⟨n-j-1,ap⟩
      rw[ahO _ _ ap,K,ah9,hk,ail,ahU,show n-(j+1)=k by omega,agM];rfl
     rw[<-e];exact j7
    .rcases agl.1 L with h|h
     .exact i6 x h
     .rw[If]at h;rw[h];exact sq
    .rw[a_,fB,fB,a d f];simp only[dX,If,forall_eq];rw[c4 d f]
   .rintro U J' ⟨g1,g2,g4,g6,g9,M,c_,d9,d_,z,j_,qs,K,hX,i6,a⟩ - -;rw[ah9,aiQ,agN]at hX;rw[hn,agu]at a;have w:qs≠[]:=by intro e;rw[e]at K;simp at K;omega
    rw[<-K]at hX g9;have r6:=E9 hX w;have r5:B4 J J':=λi cs fl _ X=>⟨fl,z i _ X⟩
    have N:LO J' cl us:=A.lo.bH r5 λi y _ X=>z i y X;obtain⟨c3,H3,j9,j5,t8,k_,x8⟩:=N.app ap r6;refine aq (.inl rfl) ?_;simp[g6,g9,j9];refine av (next _ _ ⟨by simp[M],c3,us++[qs],⟨k_ 0 _ (z 0 _ A.b0) (N.bR (z 0 _ A.b0)),k_ 1 _ (z 1 _ A.b1) (N.bR (z 1 _ A.b1)),by simp[g1],by simp[g2],by simp[g4],bv,j5⟩,by simp[n9],λx L=>?_,λd f=>?_⟩ (by simp[d9,ha]) (by simp[c_,hb]))
    .rcases agl.1 L with h|h
     .exact i7 x h
     .rw[If]at h;rw[h];exact⟨w,by have:=v.2.1;omega,i6⟩
    .rw[n8,ic,ky,c d f,a d f,m9];constructor
     .rintro(⟨x,L,h⟩|h)
      .exact⟨x,ag3 _ L,h⟩
      .exact⟨tm,bv,h⟩
     .rintro⟨x,L,h⟩;rcases agl.1 L with L|L
      .exact .inl ⟨x,L,h⟩
      .rw[If]at L;rw[L]at h;exact .inr h
  .rintro t J ⟨c9,cl,us,A,n9,i7,c⟩ - -;rw[agu]at c;obtain⟨go,s7⟩:=A.lo.ex 62;obtain⟨n1,n2⟩:=A.lo.mk 62;have I:=ma (sl go (aX us));obtain⟨vs,gv,i8,h_⟩:=qI jM [.fp [sl go (aX us)] 0] us (by
    have:=qn go (us.map λs=>⟨.fs,s⟩) ge;have e:aK (us.map λs=>⟨.fs,s⟩)=aX us:=by simp[aK,aX,cV.row]
    have e2:(us.map λs=>(⟨.fs,s⟩:cV)).map (·.fs)=us:=by rw[List.map_map];exact List.map_id _
    rw[e,e2]at this;exact this) (m:=mm) t_ g_ i7 ap
   obtain⟨W,B⟩:=aI (ef 64 cl J);have e1:W[1]?=aa (.box [.f .aJ] 0):=by
    rw[B];rcases n2 1 _ A.b1 (A.lo.bR A.b1)with k|⟨cs,f1,f2,hc,e,k⟩
    .exact k
    .cases e;simp at hc
   have s1:cY W (.ptr 1 0 0) [.f (sl gv (aX vs))]=aa (W.set 1 (.box [.f (sl gv (aX vs))] 0)):=by simp[cY,e1,over]
   have f1:(W.set 1 (.box [.f (sl gv (aX vs))] 0))[1]?=aa (.box [.f (sl gv (aX vs))] 0):=BY (aj e1);apply ai;simp[A.g4,A.g6,s7,deep,I,h_,eH,<-B,s1,-bw];refine az (hQ _ _ _ ⟨vs,gv,⟨by have:=i8.len;omega,i8.ok⟩,λd f=>by rw[i8.mem d f];exact c d f,rfl⟩ ⟨rfl,.t [.a [.f (sl gv (aX vs))],vi 0],?_,by simp[jh,dq,bu]⟩);simp[Km.results,cC,bu,A.g4,f1,aW]
 exact⟨us,g',h1,h2,h.eq⟩
end
def Compat(L:List (Int × Int)):Prop:=∀x∈L,∀y∈L,(ag6 x.2 y.2:Int) ∣ x.1-y.1
theorem Bf:∀(l:List aO) (ch:List (Int × Int)),qW ch l->Compat ch->∃g,Compat (ch++g)/\(∀p∈l,∃c∈p.bF,(jY p c,p.aT)∈g)/\∀x∈g,∃p∈l,x.2=p.aT
 |[],ch,_,s=>⟨[],by simpa using s,bv,bv⟩
 |p::l,ch,⟨c,s,z,B⟩,u=>by
  obtain⟨g,E,F,H⟩:=Bf l _ B (λx b y d=>by
   rcases agl.1 b with b|b
   .rcases agl.1 d with d|d
    .exact u x b y d
    .rw[If.1 d];have:=z x b;rw[Int.gcd_comm]at this;have:=Int.dvd_neg.2 this;rwa[show -(jY p c-x.1)=x.1-jY p c by omega]at this
   .rw[If.1 b];rcases agl.1 d with d|d
    .exact z y d
    .rw[If.1 d,Int.sub_self];exact Int.dvd_zero _)
  refine⟨(jY p c,p.aT)::g,by simpa using E,λq v=>?_,λx b=>?_⟩
  .rcases agA.1 v with rfl|v
   .exact⟨c,s,ago⟩
   .obtain⟨A,j,m⟩:=F q v;exact⟨A,j,agr _ m⟩
  .rcases agA.1 b with rfl|b
   .exact⟨p,ago,rfl⟩
   .obtain⟨q,j,m⟩:=H x b;exact⟨q,agr _ j,m⟩
theorem Yw(Q:Nat)(g:Q∈[8,9,5,7,11])(a b:Nat):ahC a Q ∣ ahC b Q\/ahC b Q ∣ ahC a Q:=by
 have h:∀Q∈[8,9,5,7,11],∀d e:Fin 12,d.1 ∣ Q->e.1 ∣ Q->d.1 ∣ e.1\/e.1 ∣ d.1:=by decide
 have j:∀x:Nat,ahC x Q<12:=λx=>by
  have l:0<Q/\Q<=11:=by
   simp only[agA,ahG,or_false]at g;omega
  have:=Nat.le_of_dvd l.1 (aih x Q);omega
 exact h Q g ⟨_,j a⟩ ⟨_,j b⟩ (aih _ _) (aih _ _)
theorem Iv(Q:Nat)(d:Q∈[8,9,5,7,11]):∀L:List (Int × Int),L≠[]->(∀x∈L,1<=x.2/\x.2 ∣ 27720)->∃y∈L,∀z∈L,ahC z.2.toNat Q ∣ ahC y.2.toNat Q
 |[],h,_=>absurd rfl h| [x],_,_=>⟨x,bv,bv⟩
 |x::y::L,_,g=>by
  obtain⟨m,j,h⟩:=Iv Q d (y::L) bv λz b=>g z (agr _ b);rcases Yw Q d x.2.toNat m.2.toNat with k|k
  .refine⟨m,agr _ j,λz b=>?_⟩;rcases agA.1 b with rfl|b
   .exact k
   .exact h z b
  .refine⟨x,ago,λz b=>?_⟩;rcases agA.1 b with rfl|b
   .exact Nat.dvd_refl _
   .exact Nat.dvd_trans (h z b) k
theorem sN(Q:Nat)(m:Q∈[8,9,5,7,11]){L:List (Int × Int)}(b:∀x∈L,1<=x.2/\x.2 ∣ 27720)(q:Compat L):∃c:Int,∀x∈L,((ahC x.2.toNat Q:Nat):Int) ∣ c-x.1:=by
 by_cases g:L=[]
 .exact⟨0,by simp[g]⟩
 obtain⟨y,j,h⟩:=Iv Q m L g b;refine⟨y.1,λz d=>ag0 (aiG.2 ?_) (q y j z d)⟩;have s:=b y j;have u:=b z d;have l:ag6 y.2 z.2=ahC y.2.toNat z.2.toNat:=by
  rw[ag6,show y.2.natAbs=y.2.toNat by omega,show z.2.natAbs=z.2.toNat by omega]
 rw[l];exact Nat.dvd_gcd (Nat.dvd_trans (h z d) (Nat.gcd_dvd_left _ _)) (Nat.gcd_dvd_left _ _)
theorem IH{n A B t:Nat}(b:Nat.Coprime A B)(d:ahC n A ∣ t)(g:ahC n B ∣ t):ahC n (A*B) ∣ t:=by
 rw[Nat.Coprime.gcd_mul n b];exact Nat.Coprime.mul_dvd_of_dvd_of_dvd (Nat.Coprime.coprime_dvd_left (aih n A) (Nat.Coprime.coprime_dvd_right (aih n B) b)) d g
theorem aci{L:List (Int × Int)}(g:∀x∈L,1<=x.2/\x.2 ∣ 27720)(l:Compat L):∃d:Int,0<=d/\d<27720/\∀x∈L,x.2 ∣ d-x.1:=by
 obtain⟨a,I⟩:=sN 8 ce g l;obtain⟨b,q⟩:=sN 9 ce g l;obtain⟨c,s⟩:=sN 5 ce g l;obtain⟨d,J⟩:=sN 7 ce g l;obtain⟨e,K⟩:=sN 11 ce g l;obtain⟨D,W⟩:=aI (3465*a+15400*b+22176*c+11880*d+2520*e);refine⟨D % 27720,ap,ap,λx j=>?_⟩;obtain⟨n1,n2⟩:=g x j;obtain⟨n,v⟩:∃n:Nat,x.2=n:=⟨x.2.toNat,ap⟩
 have m:∀(Q:Nat) (u:Int),(Q:Int) ∣ D-u->((ahC x.2.toNat Q:Nat):Int) ∣ u-x.1->ahC n Q ∣ (D-x.1).natAbs:=λQ u z y=>by
  rw[v,agD]at y;refine Int.ofNat_dvd_left.1 ?_;have B:=aiK (ag0 (aiG.2 (aih n Q)) z) y;rwa[show D-u+(u-x.1)=D-x.1 by omega]at B
 have M:=m 8 a ⟨433*a+1925*b+2772*c+1485*d+315*e,ap⟩ (I x j);have N:=m 9 b ⟨385*a+1711*b+2464*c+1320*d+280*e,ap⟩ (q x j);have O:=m 5 c ⟨693*a+3080*b+4435*c+2376*d+504*e,ap⟩ (s x j);have S:=m 7 d ⟨495*a+2200*b+3168*c+1697*d+360*e,ap⟩ (J x j);have U:=m 11 e ⟨315*a+1400*b+2016*c+1080*d+229*e,ap⟩ (K x j);have h:=IH (A:=8) ce M (IH (A:=9) ce N (IH (A:=5) ce O (IH (A:=7) ce S U)));rw[v]at n2;rw[Nat.gcd_eq_left (aiG.1 n2)]at h;have E:(n:Int) ∣ D-x.1:=Int.ofNat_dvd_left.2 h;have F:(n:Int) ∣ D % 27720-D:=ag0 n2 ⟨-(D / 27720),ap⟩;have H:=aiK F E;rw[v];rwa[show D % 27720-D+(D-x.1)=D % 27720-x.1 by omega]at H
theorem RP{ps:List aO}(z:∀p∈ps,1<=p.aT/\p.aT ∣ 27720)(h:qW [] ps):∃d:Int,0<=d/\d<27720/\∀p∈ps,kB p d:=by
 obtain⟨A,j,q,s⟩:=Bf ps [] h (by intro x g;cases g);rw[ahF]at j;obtain⟨d,l,m,v⟩:=aci (λx g=>by obtain⟨p,b,e⟩:=s x g;rw[e];exact z p b) j;refine⟨d,l,m,λp b=>?_⟩;obtain⟨c,u,y⟩:=q p b;exact⟨c,u,v _ y⟩
theorem GO{ps:List aO}(m:∀p∈ps,1<=p.aT/\p.aT ∣ 27720){d:Int}(h:∀p∈ps,kB p d)(k:Int):∀p∈ps,kB p (d+27720*k):=λp b=>by
 obtain⟨c,l,g⟩:=h p b;refine⟨c,l,?_⟩;have j:=(m p b).2;rw[show d+27720*k-jY p c=(d-jY p c)+27720*k by omega];exact aiK g (ag0 j (Int.dvd_mul_right _ _))
def TW(J:an)(c:C)(fs:List aO):Prop:=(∃g,c=.f (sl g (aQ fs)))\/(∃b d fl,c=.sl b 0 fs.length 0 d 4/\J[b]?=aa (.dj 4 ((aQ fs).flatten.map .f) fl d .loc))
section
variable{J:an}{c:C}{fs:List aO}
theorem TV.tw(h:TV J c fs):TW J c fs:=by
 rcases h with⟨g,rfl⟩|⟨h0,rfl|rfl⟩|⟨j,b,d,rfl,hb⟩
 .exact .inl ⟨g,rfl⟩
 .exact .inl ⟨.nil,by rw[h0];rfl⟩
 .exact .inl ⟨.es,by rw[h0];rfl⟩
 .unfold RB at hb;exact .inr ⟨b,d,0,by rw[EE],hb⟩
theorem TW.ex(h:TW J c fs)(h0:fs≠[])(n:Nat):fh (n+1) J c=aa (sl .fs (aQ fs)):=by
 rcases h with⟨g,rfl⟩|⟨b,d,fl,rfl,hb⟩
 .show aa (sl g (aQ fs))=_;rw[im h0,im h0]
 .have hl:(aQ fs).flatten.length=fs.length*4:=by have:=cA (bQ fs);simpa using this
  simp only[gT,hb];rw[bZ ⟨trivial,trivial,by rw[agq];omega⟩,ahi,agw (by rw[agq];omega),lu,im h0];rfl
theorem TW.mk(h:TW J c fs)(n:Nat):TW (ef (n+1) c J) c fs/\∀(i:Nat) (y:bO),J[i]?=aa y->bf c≠aa i->(ef (n+1) c J)[i]?=aa y:=by
 rcases h with⟨g,rfl⟩|⟨b,d,fl,rfl,hb⟩
 .exact⟨.inl ⟨g,rfl⟩,λi y hy _=>hy⟩
 .have e:ef (n+1) (.sl b 0 fs.length 0 d 4) J=J.set b (.dj 4 ((aQ fs).flatten.map .f) (Nat.max fl (0+fs.length*4)) d .loc):=by
   simp only[jL,hb];rw[ju];intro x j;have j:=ahd (ahn j);obtain⟨m,_,rfl⟩:=agt.1 j;exact⟨_,rfl⟩
  rw[e];exact⟨.inr ⟨b,d,_,rfl,BY (aj hb)⟩,λi y hy hi=>by rw[sh (by rintro rfl;exact hi rfl)];exact hy⟩
theorem TW.set(h:TW J c fs){i:Nat}(hi:bf c≠aa i)(x:bO):TW (J.set i x) c fs:=by
 rcases h with h|⟨b,d,fl,rfl,hb⟩
 .exact .inl h
 .exact .inr ⟨b,d,fl,rfl,by rw[sh (by rintro rfl;exact hi rfl)];exact hb⟩
end
theorem Ci(ps:List aO)(h:oN ps)(n:Int)(hn:0<=n)(c_:n<=1000000000000):∃d f,iH (F3 ps n) d f/\(0<=d/\d<=1000001000000)/\∀H g found c,QH H n g found->TW H c ps->(∀i,bf c=aa i->4<i)->
  ∃r H',Ev tab (.yield 4) [.c c] H r H'/\(r=vb ae/\QH H' n (if f=ae/\(found=ag\/d<g)then d else g) (found||f)):=by
 obtain⟨d,f,e0,f0,hm,hd,he,hc⟩:=Jd .fs ps h n hn c_;refine⟨d,f,hm,hd,?_⟩;rintro H g found c ⟨h0,h1,h2,h3,s,h4,u,K,L⟩ v N;refine dw (tab:=tab) (b:=4) h4 rfl λZ M=>?_;have c9:=aj h4;have F:∀(t:T) (j:an),j[0]?=aa (.box [.f (fi n)] 0)->j[1]?=aa (.box [.f (fi g)] 0)->j[2]?=aa (.box [.f (.bool found)] 0)->j[3]?=aa (.dQ ae)->j[4]?=aa (.lp dn s [P.nat 12] cO cB .busy ab 3)->
   t.g 3=.c (.ptr 0 0 0)->t.g 6=.c (.ptr 1 0 0)->t.g 7=.c (.ptr 2 0 0)->t.g 9=vi d->t.g 10=vb f->WP tab dn (aa 4) [.code C5,.inBlock 1] ⟨t,[],j⟩ Z:=by
  rintro t j q0 S A q3 Y e3 I y J q;have l1:=aj S;have l2:=aj A;have bH:(f=ae/\(found=ag\/d<g)->False)->QH (j.set 4 (.lp dn s [P.nat 12] cO cB .ready ab 3)) n (if f=ae/\(found=ag\/d<g)then d else g) (found||f):=by
   intro x;have hf:(found||f)=found:=by
    cases f<;>cases found<;>simp at x ⊢
   rw[ct x,hf];exact⟨by rw[sh ce];exact q0,by rw[sh ce];exact S,by rw[sh ce];exact A,by rw[sh ce];exact q3,s,BY (aj Y),u,K,L⟩
  have d9:(j.set 1 (.box [.f (fi d)] 0))[2]?=aa (.box [.f (.bool found)] 0):=by rw[sh ce];exact A
  have O:(f=ae/\(found=ag\/d<g))->QH (((j.set 1 (.box [.f (fi d)] 0)).set 2 (.box [.f (.bool ae)] 0)).set 4 (.lp dn s [P.nat 12] cO cB .ready ab 3)) n (if f=ae/\(found=ag\/d<g)then d else g) (found||f):=by
   intro l;have hf:(found||f)=ae:=by rw[l.1];simp
   rw[bZ l,hf];refine⟨?_,?_,?_,?_,s,BY (by simp;exact aj Y),u,K,L⟩
   .rw[sh ce,sh ce,sh ce];exact q0
   .rw[sh ce,sh ce,BY l1]
   .rw[sh ce,BY (by simpa using l2)]
   .rw[sh ce,sh ce,sh ce];exact q3
  have done:∀B:T,(f=ae/\(found=ag\/d<g)->False)->WP tab dn (aa 4) [.inBlock 1] ⟨B,[],j⟩ Z:=by
   intro B x;refine av (cX (M _ _ _ _ _ _ _ _ _ _ rfl Y ⟨rfl,?_⟩));have:=bH x;rw[show(j.set 4 (.lp dn s [P.nat 12] cO cB .ready ab 3))=j.set 4 (.lp dn s [P.nat 12] cO cB (if(ab:Option aE).isNone=ae then .ready else .done) ab 3) from rfl]at this;exact this
  have m:∀B:T,B.g 6=.c (.ptr 1 0 0)->B.g 7=.c (.ptr 2 0 0)->B.g 9=vi d->(f=ae/\(found=ag\/d<g))->WP tab dn (aa 4) [.code C6,.inBlock 1] ⟨B,[],j⟩ Z:=by
   intro B I y J l;refine aq (.inr rfl) ?_;simp[I,y,J,S,A,d9];refine av (cX (M _ _ _ _ _ _ _ _ _ _ rfl (by rw[sh ce,sh ce];exact Y) ⟨rfl,?_⟩));exact O l
  apply au;cases f with
  |false=>
   refine aq (.inr rfl) ?_;simp[y,q,A];refine aD bv (aR (done _ bv))
  |true=>
   cases found with
   |false=>
    refine aq (.inr rfl) ?_;simp[y,q,A];refine aw bv (m _ (by simp[I]) (by simp[y]) (by simp[J]) bv)
   |true=>
    by_cases k:d<g
    .refine aq (.inr rfl) ?_;simp[I,y,J,q,S,A,k];refine aw bv (m _ (by simp[I]) (by simp[y]) (by simp[J]) (by simp[k]))
    .refine aq (.inr rfl) ?_;simp[I,y,J,q,S,A,k];refine aD bv (aR (done _ (by simp[k])))
 refine aq (.inr rfl) ?_;simp;refine fP h4 ?_;have b0:(H.set 4 (.lp dn s [P.nat 12] cO cB .busy ab 3))[0]?=aa (.box [.f (fi n)] 0):=by rw[sh ce];exact h0
 have b1:(H.set 4 (.lp dn s [P.nat 12] cO cB .busy ab 3))[1]?=aa (.box [.f (fi g)] 0):=by rw[sh ce];exact h1
 have U:(H.set 4 (.lp dn s [P.nat 12] cO cB .busy ab 3))[2]?=aa (.box [.f (.bool found)] 0):=by rw[sh ce];exact h2
 have W:(H.set 4 (.lp dn s [P.nat 12] cO cB .busy ab 3))[3]?=aa (.dQ ae):=by rw[sh ce];exact h3
 have X:(H.set 4 (.lp dn s [P.nat 12] cO cB .busy ab 3))[4]?=aa (.lp dn s [P.nat 12] cO cB .busy ab 3):=BY c9;have v:=v.set (i:=4) (λe=>by have:=N 4 e;omega) (.lp dn s [P.nat 12] cO cB .busy ab 3);generalize H.set 4 (.lp dn s [P.nat 12] cO cB .busy ab 3)=j at b0 b1 U W X v ⊢;have Q:∀i:Nat,i<=4->bf c≠aa i:=λi hi e=>by have:=N i e;omega
 have step:∀j:an,j[0]?=aa (.box [.f (fi n)] 0)->j[1]?=aa (.box [.f (fi g)] 0)->j[2]?=aa (.box [.f (.bool found)] 0)->j[3]?=aa (.dQ ae)->j[4]?=aa (.lp dn s [P.nat 12] cO cB .busy ab 3)->TW j c ps->
   ∃E:an,E=ef 64 c j/\fh 64 j c=aa (sl .fs (aQ ps))/\E[0]?=aa (.box [.f (fi n)] 0)/\E[1]?=aa (.box [.f (fi g)] 0)/\E[2]?=aa (.box [.f (.bool found)] 0)/\E[3]?=aa (.dQ ae)/\E[4]?=aa (.lp dn s [P.nat 12] cO cB .busy ab 3)/\TW E c ps:=by
  intro j b0 b1 U W X hT;obtain⟨m1,m2⟩:=hT.mk 63;exact⟨_,rfl,hT.ex (agV.1 h.l1) 63,m2 0 _ b0 (Q 0 ap),m2 1 _ b1 (Q 1 ap),m2 2 _ U (Q 2 ap),m2 3 _ W (Q 3 ap),m2 4 _ X (Q 4 ap),m1⟩
 obtain⟨H1,e1,x1,a0,a1,a2,a3,a4,a_⟩:=step j b0 b1 U W X v;obtain⟨H2,e2,x2,c0,c1,c2,c3,c4,b_⟩:=step H1 a0 a1 a2 a3 a4 a_;obtain⟨H3,e3,x3,d0,d1,d2,d3,d4,d_⟩:=step H2 c0 c1 c2 c3 c4 b_;refine ay ?_;refine au (aq (.inr rfl) ?_);simp[u,b0,x1,deep,he,<-e1];apply au;rcases hc with⟨rfl,rfl,rfl⟩|⟨rfl,rfl,b,z,hc⟩
 .refine au (aq (.inr rfl) ?_);simp;refine bE bv ?_;exact F _ _ a0 a1 a2 a3 a4 (by simp[u]) (by simp[K]) (by simp[L]) bv bv
 .rcases hc with⟨rfl,rfl,rfl⟩|⟨rfl,hl⟩
  .refine au (aq (.inr rfl) ?_);simp[u,a0,x2,deep,z,<-e2,show n<=1152921504606846976 by omega];refine bE bv ?_;exact F _ _ c0 c1 c2 c3 c4 (by simp[u]) (by simp[K]) (by simp[L]) bv bv
  .refine au (aq (.inr rfl) ?_);simp[u,a0,x2,deep,z,<-e2,show n<=1152921504606846976 by omega];refine aw bv ?_;refine aq (.inr rfl) ?_;simp[u,c0,x3,deep,hl,<-e3];exact F _ _ d0 d1 d2 d3 d4 (by simp[u]) (by simp[K]) (by simp[L]) bv bv
def ND(L:List (List aO))(n x:Int):Prop:=∃t∈L,F3 t n x
theorem Ux{H H':an}{n b:Int}{found:Bool}(h:QH H n b found)(v:∀i:Nat,i<H.length->H'[i]?=H[i]?):QH H' n b found:=by
 obtain⟨g,j,l,m,s,q,u⟩:=h;have k:∀(i:Nat) y,H[i]?=aa y->H'[i]?=aa y:=λi y d=>by rw[v i (aj d)];exact d
 exact⟨k _ _ g,k _ _ j,k _ _ l,k _ _ m,s,k _ _ q,u⟩
theorem Md(F:Nat)(l:List FC)(L:List (List aO))(o:wX F l L)(k:∀t∈L,oN t)(n:Int)(hn:0<=n)(K:n<=1000000000000):∃d f,iH (ND L n) d f/\(0<=d/\d<=1000001000000)/\
  bg tab dn [.c (.f (.fn F l)),vi n]=Eq (.t [vi d,vb f]):=by
 have key:∃r,(∃d f,iH (ND L n) d f/\(0<=d/\d<=1000001000000)/\r=.t [vi d,vb f])/\bg tab dn [.c (.f (.fn F l)),vi n] r:=by
  refine kH Ve rfl λQ p=>?_;have z:∀s:T,s.g 3=.c (.ptr 0 0 0)->s.g 6=.c (.ptr 1 0 0)->s.g 7=.c (.ptr 2 0 0)->s.g 11=.c (.f (.fn F l))->
    WP tab dn ab [.code HS,.inBlock 0,.code C7] ⟨s,[],[.box [.f (fi n)] 0,.box [.f (fi 0)] 0,.box [.f (.bool ag)] 0]⟩ Q:=by
   intro s a O S A;obtain⟨y,Z,b,found,⟨-,w1,w2,w3,N,w4,-⟩,q,U⟩:=o 4 [.box [.f (fi n)] 0,.box [.f (fi 0)] 0,.box [.f (.bool ag)] 0,.dQ ae,.lp dn s [P.nat 12] cO cB .ready ab 3]
    (λj H=>∃b found,QH H n b found/\iH (ND (L.take j) n) b found/\(0<=b/\b<=1000001000000))
    ⟨0,ag,⟨rfl,rfl,rfl,rfl,s,rfl,a,O,S⟩,.inl ⟨rfl,rfl,λd v=>by obtain⟨t,m,-⟩:=v;simp at m⟩,ap,ap⟩ λj W Y J c ⟨b,found,u,q,U⟩ hk X w hc=>by
     obtain⟨d,f,I,v,hy⟩:=Ci L[j] (k _ (IN W)) n hn K;have l4:4<Y.length:=by obtain⟨-,-,-,-,s',e,-⟩:=u;exact aj e
     obtain⟨r,H',E,rfl,B⟩:=hy J b found c (Ux u hk) w.tw (λi hi=>by have:=hc i hi;omega);have M:L.take (j+1)=L.take j++[L[j]]:=by rw[agv,By W];rfl
     refine⟨H',E,_,_,B,iH.join q I λx=>?_,?_⟩
     .unfold ND;rw[M];constructor
      .rintro⟨t,m,h⟩;rcases agl.1 m with m|m
       .exact .inl ⟨t,m,h⟩
       .rw[If.1 m]at h;exact .inr h
      .rintro(⟨t,m,h⟩|h)
       .exact⟨t,ag3 _ m,h⟩
       .exact⟨_,ahR _ (If.2 rfl),h⟩
     .split<;>omega
   rw[agu]at q;refine dK (g:=F) (by rw[oi,A];simp[cr]) Z ?_;refine ew w4 ce ?_;refine av ?_;apply ai;have v1:(y.set 4 (.lp dn N [P.nat 12] cO cB .exhausted ab 3))[1]?=aa (.box [.f (fi b)] 0):=by rw[sh ce];exact w1
   have v2:(y.set 4 (.lp dn N [P.nat 12] cO cB .exhausted ab 3))[2]?=aa (.box [.f (.bool found)] 0):=by rw[sh ce];exact w2
   have v3:(y.set 4 (.lp dn N [P.nat 12] cO cB .exhausted ab 3))[3]?=aa (.dQ ae):=by rw[sh ce];exact w3
   simp[O,S,v1,v2];refine az (p _ _ _ ⟨b,found,q,U,rfl⟩ (.inr ⟨3,rfl,v3,.t [vi b,vb found],?_,by simp[jh,dq,bu]⟩));simp[Km.results,cC,bu]
  apply ai;simp;apply ai;simp;apply au;apply ai;simp;refine ay ?_;exact z _ bv bv bv bv
 obtain⟨r,⟨d,f,q,v,rfl⟩,h⟩:=key;exact⟨d,f,q,v,h.eq⟩
def pW(ss ts:List (List aO)):List (List aO):=(ss.map λs=>ts.map λt=>s++t).flatten
theorem lZ{ss ts:List (List aO)}{x:List aO}:x∈pW ss ts↔∃s∈ss,∃t∈ts,x=s++t:=by
 unfold pW;rw[List.mem_flatten];constructor
 .rintro⟨l,g,j⟩;obtain⟨s,b,rfl⟩:=agt.1 g;obtain⟨t,d,rfl⟩:=agt.1 j;exact⟨s,b,t,d,rfl⟩
 .rintro⟨s,b,t,d,rfl⟩;exact⟨_,agt.2 ⟨s,b,rfl⟩,agt.2 ⟨t,d,rfl⟩⟩
theorem Ba(ss ts:List (List aO)):(pW ss ts).length=ss.length*ts.length:=by
 unfold pW;induction ss with
 |nil=>simp| cons s ss b=>rw[agm,agG,aft,b,agq,agP,Nat.succ_mul,Nat.add_comm]
theorem RI{ss ts:List (List aO)}{i k:Nat}(hi:i<ss.length)(d:k<ts.length):(pW ss ts)[i*ts.length+k]?=aa (ss[i]++ts[k]):=by
 have h:=rK (rows:=ss.map λs=>ts.map λt=>s++t) (sz:=ts.length) (j:=i) (row:=ts.map λt=>ss[i]++t) (λr g=>by
  obtain⟨s,-,rfl⟩:=agt.1 g;simp) (by simp[hi])
 have b:(ts.map λt=>ss[i]++t)[k]?=aa (ss[i]++ts[k]):=by simp[d]
 rw[<-h,List.getElem?_take,bZ d,List.getElem?_drop]at b;exact b
theorem EB(x y:FC):bg tab abL [.a [.f x],.a [.f y]]=Eq (.c (.f (.fn Ig [.fp [x] 0,.fp [y] 0]))):=by
 refine bg.eq (bK rfl rfl λQ b=>?_);apply ai;simp;apply ai;simp;refine az (b _ _ ?_);simp[deep]
theorem yx(g g':Tg)(ss ts:List cV)(hs:ss.length<=1000)(ht:ts.length<=1000)(d_:∀s∈ss,s.fs.length<=1000)(e_:∀t∈ts,t.fs.length<=1000) :
  wX Ig [.fp [sl g (aK ss)] 0,.fp [sl g' (aK ts)] 0] (pW (ss.map (·.fs)) (ts.map (·.fs))):=by
 intro b H PP h0 hy;have y:(pW (ss.map (·.fs)) (ts.map (·.fs))).length=ss.length*ts.length:=by rw[Ba,agq,agq]
 have X:∀H:an,bh H (.f (sl g (aK ss)))=aa ss.length:=λH=>by simp
 have Y:∀H:an,bh H (.f (sl g' (aK ts)))=aa ts.length:=λH=>by simp
 obtain⟨r,Z,he,rfl,n⟩:∃r Z,Ev tab (.fn Ig) [.c (.yl b),.c (.f (.fp [sl g (aK ss)] 0)),.c (.f (.fp [sl g' (aK ts)] 0))] H r Z/\(r=.t []/\PP (ss.length*ts.length) Z):=by
  refine de rfl rfl λQ hQ=>?_;apply ai;simp[kD,X];refine bS ss.length (λi s J=>s.g 0=.c (.yl b)/\s.g 2=.c (.f (.fp [sl g' (aK ts)] 0))/\s.g 9=.c (.f (sl g (aK ss)))/\PP (i*ts.length) J) ap ce ce bv bv ⟨bv,bv,bv,by simpa using h0⟩ ?_ ?_
  .rintro i s J hi ⟨A,K,L,M⟩ o hb next
   have z:=λH:an=>gU (H:=H) (fN ss) (ir (l:=ss) (j:=i) hi) rfl;have v:=λH:an=>bz (H:=H) (g:=g) (rows:=aK ss) (sz:=1) (k:=.i64) (i:=i) ap (by simpa using hi);simp at z v;refine ay ?_;apply ai;simp[L,o,v,z];apply ai;simp[K,kD,Y];refine bS ts.length (λk u J=>u.g 0=.c (.yl b)/\u.g 2=.c (.f (.fp [sl g' (aK ts)] 0))/\u.g 9=.c (.f (sl g (aK ss)))/\u.g 5=.c (.f (sl ss[i].tg (aQ ss[i].fs)))/\u.g 16=.c (.f (sl g' (aK ts)))/\u.g 10=s.g 10/\u.g 11=s.g 11/\PP (i*ts.length+k) J) ap ce ce bv bv
    ⟨by simp[A],by simp[K],by simp[L],bv,bv,bv,bv,by simpa using M⟩ ?_ ?_
   .rintro k u J e ⟨A,K,L,h,I,B,E,M⟩ W p S;have m:=λH:an=>gU (H:=H) (fN ts) (ir (l:=ts) (j:=k) e) rfl;have d:=λH:an=>bz (H:=H) (g:=g') (rows:=aK ts) (sz:=1) (k:=.i64) (i:=k) ap (by simpa using e);simp at m d;have c_:i*ts.length+k<(pW (ss.map (·.fs)) (ts.map (·.fs))).length:=by
     rw[y];have:(i+1)*ts.length<=ss.length*ts.length:=ag9 _ hi;rw[agS,Nat.one_mul]at this;omega
    have a_:(pW (ss.map (·.fs)) (ts.map (·.fs)))[i*ts.length+k]=ss[i].fs++ts[k].fs:=by
     have:=RI (ss:=ss.map (·.fs)) (ts:=ts.map (·.fs)) (i:=i) (k:=k) (by simpa using hi) (by simpa using e);simp only[agq,aib]at this;exact(List.getElem?_eq_some_iff.1 this).2
    have h_:=d_ _ (IN hi);have i6:=e_ _ (IN e);obtain⟨a,q⟩:=aI (J++[bO.box [.f (sl ss[i].tg (aQ ss[i].fs)),.f (sl ts[k].tg (aQ ts[k].fs))] 0]);have b1:a[J.length]?=aa (.box [.f (sl ss[i].tg (aQ ss[i].fs)),.f (sl ts[k].tg (aQ ts[k].fs))] 0):=by rw[q];simp
    have d9:aQ (ss[i].fs++ts[k].fs)=aQ ss[i].fs++aQ ts[k].fs:=by simp[aQ]
    obtain⟨r,f,O,c,rfl,N,c9,g_,w⟩:=uC (tab:=tab) (H:=a) (F:=FM) (G:=Pf) (sz:=4) (bytes:=64) (zs:=[.aJ,fi 0,fi 0,.aJ]) X5 Yd ce rfl (b:=J.length) [(.f (sl ss[i].tg (aQ ss[i].fs)),aQ ss[i].fs),(.f (sl ts[k].tg (aQ ts[k].fs)),aQ ts[k].fs)] b1 bv
     (λx U=>by
      simp only[agA,ahG,or_false]at U;rcases U with rfl|rfl
      .exact⟨bQ _,λH' _=>⟨bv,kv (bQ _)⟩⟩
      .exact⟨bQ _,λH' _=>⟨bv,kv (bQ _)⟩⟩)
     ge (gV ge ce)
    have N:LR f c 4 (aQ (ss[i].fs++ts[k].fs)):=by
     rw[d9];simpa using N
    have f_:a.length=J.length+1:=by rw[q];simp
    obtain⟨J3,b_,n⟩:=hy (i*ts.length+k) c_ J f c M (λx U=>by rw[c9 x ap,q,AI U]) ap (by rw[a_];exact .inr N) (λx U=>by have:=w x U;omega);have O:Ev tab (.fn FM) [.c (.sl J.length 0 2 2 0 1)] a (.c c) f:=O;refine ay ?_;apply ai;simp[W,I,d,m];apply au;refine aq (.inl rfl) ?_;simp[A,h,<-q,O.eq,b_.eq];refine bE bv ?_;refine av (S _ _ ?_ (by simp[W]) (by simp[p]));exact⟨by simp[A],by simp[K],by simp[L],by simp[h],by simp[I],by simp[B],by simp[E],n⟩
   .rintro u J ⟨A,K,L,h,I,B,E,M⟩ - -;refine av (next _ _ ⟨by simp[A],by simp[K],by simp[L],?_⟩ (by simp[E,o]) (by simp[B,hb]));rw[agS,Nat.one_mul];exact M
  .rintro s J ⟨A,K,L,M⟩ o hb;exact cX (hQ _ _ _ rfl rfl ⟨rfl,M⟩)
 exact⟨Z,he,by rw[y];exact n⟩
def eO(ts:List cV)(d:Int):Prop:=∃t∈ts,dX t.fs d
theorem Io(us:List (List aO))(d:Int):eO (us.map λs=>⟨.fs,s⟩) d↔cM us d:=by
 unfold cM eO;constructor
 .rintro⟨t,b,h⟩;obtain⟨x,g,rfl⟩:=agt.1 b;exact⟨x,g,h⟩
 .rintro⟨t,b,h⟩;exact⟨_,agt.2 ⟨t,b,rfl⟩,h⟩
theorem Bd:∀{l:List aO},(∀p∈l,jG 12 p)->1<=gE l/\gE l<=12 ^ l.length
 |[],_=>by simp[gE]
 |p::l,h=>by
  have b:=h p ago;have g:=(bC b.ok).2.2.1;have d:=b.bd;obtain⟨j,m⟩:=Bd λq u=>h q (agr _ u);simp only[gE,agP];have v:=ah5 g j ce ap;have s:=ah5 d m ap ce;rw[Int.pow_succ,ahB];refine⟨by rw[ahB];omega,by rw[ahB];rw[ahB (12 ^ l.length)];exact s⟩
theorem yV:∀{l:List aO},(∀p∈l,jG 12 p)->dz l<=100000
 |[],_=>by simp[dz]
 |p::l,h=>by
  have d:=(h p ago).fr;have g:=yV λq b=>h q (agr _ b);simp only[dz];omega
theorem Az{fs:List aO}(b:fs≠[])(g:fs.length<=4)(h:∀p∈fs,jG 12 p):oN fs:=by
 have m:=agV.2 b;refine⟨ap,ap,λp d=>(h p d).mod,?_,by have:=yV h;omega⟩;have j:=(Bd h).2;have l:(12:Int) ^ fs.length<=12 ^ 4:=by
  have:fs.length=1\/fs.length=2\/fs.length=3\/fs.length=4:=by omega
  rcases this with e|e|e|e<;>rw[e]<;>decide
 have:(12:Int) ^ 4=20736:=by decide
 omega
theorem uK(g g':Tg)(ss ts:List cV)(l:uc 12 ss)(m:uc 12 ts)(n:Int)(a:-1000000000000<=n)(N:n<=1000000000000) :
  ∃d f,iH (λx=>max n 0<=x/\eO ss x/\eO ts x) d f/\(0<=d/\d<=1000001000000)/\bg tab abE [.a [.f (sl g (aK ss))],.a [.f (sl g' (aK ts))],vi n]=Eq (.t [vi d,vb f]):=by
 have v:=(rO g ss (by have:=l.1;omega) (uM l.mix)).eq;rw[l.mix]at v;have z:=(rO g' ts (by have:=m.1;omega) (uM m.mix)).eq;rw[m.mix]at z;have H:=EB (sl g (aK ss)) (sl g' (aK ts));have E:=yx g g' ss ts (by have:=l.1;omega) (by have:=m.1;omega) (λs h=>by have:=(l.2 s h).2.1;omega) (λt h=>by have:=(m.2 t h).2.1;omega);obtain⟨d,f,M,L,F⟩:=Md _ _ _ E (λx S=>by
  obtain⟨s,b,t,j,rfl⟩:=lZ.1 S;obtain⟨s,q,rfl⟩:=agt.1 b;obtain⟨t,u,rfl⟩:=agt.1 j;obtain⟨a1,Y,a3⟩:=l.2 s q;obtain⟨b1,Z,I⟩:=m.2 t u;refine Az (by simp[a1]) (by rw[aft];omega) λp O=>?_;rcases agl.1 O with h|h
  .exact a3 p h
  .exact I p h) (max n 0) ap ap
 refine⟨d,f,M.iff λx=>?_,L,bg.eq (bK rfl rfl λQ K=>?_)⟩
 .unfold ND F3;constructor
  .rintro⟨A,⟨s,q,u⟩,⟨t,B,J⟩⟩;refine⟨_,lZ.2 ⟨_,agt.2 ⟨s,q,rfl⟩,_,agt.2 ⟨t,B,rfl⟩,rfl⟩,A,(iT ap).2 ((fB s.fs t.fs x).2 ⟨u,J⟩)⟩
  .rintro⟨y,U,A,q⟩;obtain⟨s,b,t,j,rfl⟩:=lZ.1 U;obtain⟨s,u,rfl⟩:=agt.1 b;obtain⟨t,B,rfl⟩:=agt.1 j;obtain⟨W,X⟩:=(fB s.fs t.fs x).1 ((iT ap).1 q);exact⟨A,⟨s,u,W⟩,⟨t,B,X⟩⟩
 .apply ai;simp;apply au;apply ai;simp[v,z];refine bE bv ?_;apply ai;simp[H,F];refine az (K _ _ ?_);simp
end Go.Proofs.YtelifakcllijpaaGreat
